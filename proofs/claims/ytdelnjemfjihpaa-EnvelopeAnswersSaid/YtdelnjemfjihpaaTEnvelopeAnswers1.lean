/- What the functions that the statement EnvelopeAnswers reaches compute, told as functions of Lean, and that the theory's language computes the same: part 2 of 2. There are no conditions. -/
import Derived.Test.YtdelnjemfjihpaaTEnvelopeAnswers0
set_option maxRecDepth 100000
set_option linter.unusedVariables false
set_option linter.unusedSimpArgs false
namespace Go.Proofs.Ytdelnjemfjihpaa.envelopeAnswers
open Go
def T_keep_Src_Pick (k : Nat) (p1 : List Int) (p2 : List Int) (p3 : Int) : Option (Int × Int) := match k with
 | 0 => none
 | k + 1 => ((T_keep_Src_N k (p1.length : Int) p2 p3).bind fun x1 => (at? p1 x1.1).bind fun x2 => some (x2, x1.2))
theorem T_keep_Src_Pick_ok (k : Nat) (p1 : List Int) (p2 : List Int) (p3 : Int) (r : Int × Int) : T_keep_Src_Pick k p1 p2 p3 = some r → evF X k n_keep_Src_Pick [(.one (.ptr 0 0 0)), (LI p1)] [.cells [.d (.list (p2.map (D.int .i64))), .d (.int .i64 p3)]] = some ((I r.1), [.cells [.d (.list (p2.map (D.int .i64))), .d (.int .i64 r.2)]]) := by
 intro H
 cases k with
 | zero => simp [T_keep_Src_Pick] at H
 | succ k =>
  simp only [T_keep_Src_Pick] at H
  refine F_in X_keep_Src_Pick rfl ?_
  refine K_seq ?_
  refine K_reg [] [] ⟨[(0, (.one (.ptr 0 0 0))), (1, (LI p1))], [.cells [.d (.list (p2.map (D.int .i64))), .d (.int .i64 p3)]]⟩ (by kernel_rfl) trivial ?_
  refine K_seq ?_
  obtain ⟨x1, hx1, H⟩ := bind_some' H
  obtain ⟨x2, hx2, H⟩ := bind_some' H
  refine K_reg [.n p1.length, .r (I x1.1) [.cells [.d (.list (p2.map (D.int .i64))), .d (.int .i64 x1.2)]], .l [.int .i64 x2]] [((p1.map (D.int .i64))).length = p1.length, evF X k n_keep_Src_N [(.one (.ptr 0 0 0)), (I (p1.length : Int))] [.cells [.d (.list (p2.map (D.int .i64))), .d (.int .i64 p3)]] = some ((I x1.1), [.cells [.d (.list (p2.map (D.int .i64))), .d (.int .i64 x1.2)]]), (0 : Int) ≤ x1.1 ∧ x1.1 < (((p1.map (D.int .i64))).length : Int), ((p1.map (D.int .i64)).getD x1.1.toNat (.int .i64 0)).cells = [.int .i64 x2]] ⟨[(4, (I x2))], [.cells [.d (.list (p2.map (D.int .i64))), .d (.int .i64 x1.2)]]⟩ (by kernel_rfl) (AC (List.length_map _) (AC (T_keep_Src_N_ok k (p1.length : Int) p2 p3 x1 hx1) (AC (at_ok hx2 (D.int .i64) (.int .i64 0)).1 (A1 (at_ok hx2 (D.int .i64) (.int .i64 0)).2)))) ?_
  refine K_gh ⟨[(4, (I x2))], [.cells [.d (.list (p2.map (D.int .i64))), .d (.int .i64 x1.2)]]⟩ (by kernel_rfl) ?_
  cases H
  refine K_ret ?_
  kernel_rfl
def T_keep_clip (k : Nat) (p1 : Int) : Option Unit := match k with
 | 0 => none
 | k + 1 => some ()
theorem T_keep_clip_ok (k : Nat) (p1 : Int) (r : Unit) : T_keep_clip k p1 = some r → evF X k n_keep_clip [(I p1)] [] = some ((I (imin (imax p1 (-1000)) 1000)), []) := by
 intro H
 cases k with
 | zero => simp [T_keep_clip] at H
 | succ k =>
  simp only [T_keep_clip] at H
  refine F_in X_keep_clip rfl ?_
  refine K_seq ?_
  refine K_reg [] [] ⟨[(0, (I p1))], []⟩ (by kernel_rfl) trivial ?_
  refine K_seq ?_
  refine K_reg [] [] ⟨[(2, (I (imin (imax p1 (-1000)) 1000)))], []⟩ (by kernel_rfl) trivial ?_
  refine K_gh ⟨[(2, (I (imin (imax p1 (-1000)) 1000)))], []⟩ (by kernel_rfl) ?_
  cases H
  refine K_ret ?_
  kernel_rfl
def T_keep_Src_List_l1 (k : Nat) (p1 : Int) (p2 : List Int) (x8 : Int) (x9 : Int) (x37 : Int × Nat × Int × Int × (List Int)) : Option ((Int × Nat × Int × Int × (List Int)) ⊕ ((Nat × Int × (List Int)))) :=
 (if x37.2.2.1 < p1 then (((if x8 = 0 then some (decide (x8 = 0)) else some (decide (x8 = 1)))).bind fun x40 => ((if x40 = true then (T_keep_Src_Range k (w64 (0 - x9)) x9 p2 x37.2.2.2.1).bind fun x42 => (if x37.2.1 + 1 ≤ LIM then some (x37.1, x42.2, ((x37.2.2.2.2.drop 0).take x37.2.1 ++ ([x42.1] : List Int))) else none) else (((if x8 = 2 then some (decide (x8 = 2)) else some (decide (x8 = 3)))).bind fun x45 => (if x45 = true then (T_keep_Src_Range k (w64 (0 - x9)) x9 p2 x37.2.2.2.1).bind fun x47 => (T_keep_clip k (w64 (x37.1 + x47.1))).bind fun x48 => (if x37.2.1 + 1 ≤ LIM then some ((imin (imax (w64 (x37.1 + x47.1)) (-1000)) 1000), x47.2, ((x37.2.2.2.2.drop 0).take x37.2.1 ++ ([(imin (imax (w64 (x37.1 + x47.1)) (-1000)) 1000)] : List Int))) else none) else (if x8 = 4 then (T_keep_Src_N k 4 p2 x37.2.2.2.1).bind fun x51 => ((if x51.1 = 0 then ((T_keep_Src_Range k (w64 (0 - x9)) x9 p2 x51.2).bind fun x53 => some (x53.1, x53.2)) else some (x37.1, x51.2))).bind fun x54 => (if x37.2.1 + 1 ≤ LIM then some (x54.1, x54.2, ((x37.2.2.2.2.drop 0).take x37.2.1 ++ ([x54.1] : List Int))) else none) else (T_keep_Src_Pick k ([(-1000), 1000, 1000, 0] : List Int) p2 x37.2.2.2.1).bind fun x56 => (if x37.2.1 + 1 ≤ LIM then some (x37.1, x56.2, ((x37.2.2.2.2.drop 0).take x37.2.1 ++ ([x56.1] : List Int))) else none)))))).bind fun x58 => some (.inl (x58.1, (x37.2.1 + 1), (w64 (x37.2.2.1 + 1)), x58.2.1, x58.2.2))) else some (.inr (x37.2.1, x37.2.2.2.1, x37.2.2.2.2)))
theorem T_keep_Src_List_l1_ok (k : Nat) (p1 : Int) (p2 : List Int) (x8 : Int) (x9 : Int) : ∀ (x37 : Int × Nat × Int × Int × (List Int)) (x : (Int × Nat × Int × Int × (List Int)) ⊕ ((Nat × Int × (List Int)))), T_keep_Src_List_l1 k p1 p2 x8 x9 x37 = some x → evC X (evF X k) k 1 l_keep_Src_List_1 ⟨[(0, (.one (.ptr 0 0 0))), (1, (I p1)), (5, (I x8)), (6, (I x9)), (7, (I x37.1)), (8, (.one (.own 1 0 x37.2.1))), (9, (I x37.2.2.1))], [.cells [.d (.list (p2.map (D.int .i64))), .d (.int .i64 x37.2.2.2.1)], VI x37.2.2.2.2]⟩ = some (outS (fun (s : Int × Nat × Int × Int × (List Int)) => ⟨[(0, (.one (.ptr 0 0 0))), (1, (I p1)), (5, (I x8)), (6, (I x9)), (7, (I s.1)), (8, (.one (.own 1 0 s.2.1))), (9, (I s.2.2.1))], [.cells [.d (.list (p2.map (D.int .i64))), .d (.int .i64 s.2.2.2.1)], VI s.2.2.2.2]⟩) (fun (r : (Nat × Int × (List Int))) => (.exit 0, ⟨[(8, (.one (.own 1 0 r.1)))], [.cells [.d (.list (p2.map (D.int .i64))), .d (.int .i64 r.2.1)], VI r.2.2]⟩)) x) := by
 intro x37 x H
 unfold T_keep_Src_List_l1 at H
 refine K_in ?_
 refine K_seq ?_
 refine K_seq ?_
 refine K_reg [] [] ⟨[(0, (.one (.ptr 0 0 0))), (1, (I p1)), (5, (I x8)), (6, (I x9)), (7, (I x37.1)), (8, (.one (.own 1 0 x37.2.1))), (9, (I x37.2.2.1)), (22, (B (decide (x37.2.2.1 < p1))))], [.cells [.d (.list (p2.map (D.int .i64))), .d (.int .i64 x37.2.2.2.1)], VI x37.2.2.2.2]⟩ (by kernel_rfl) trivial ?_
 rcases ite_some H with ⟨hx38, H⟩ | ⟨hx38, H⟩
 · refine K_t rfl (decide_eq_true hx38) ?_
   refine K_gh ⟨[(0, (.one (.ptr 0 0 0))), (1, (I p1)), (5, (I x8)), (6, (I x9)), (7, (I x37.1)), (8, (.one (.own 1 0 x37.2.1))), (9, (I x37.2.2.1))], [.cells [.d (.list (p2.map (D.int .i64))), .d (.int .i64 x37.2.2.2.1)], VI x37.2.2.2.2]⟩ (by kernel_rfl) ?_
   refine K_skip ?_
   refine K_seq ?_
   refine K_block ?_
   refine K_seq ?_
   refine K_reg [] [] ⟨[(0, (.one (.ptr 0 0 0))), (1, (I p1)), (5, (I x8)), (6, (I x9)), (7, (I x37.1)), (8, (.one (.own 1 0 x37.2.1))), (9, (I x37.2.2.1)), (25, (I x8))], [.cells [.d (.list (p2.map (D.int .i64))), .d (.int .i64 x37.2.2.2.1)], VI x37.2.2.2.2]⟩ (by kernel_rfl) trivial ?_
   refine K_block ?_
   refine K_seq ?_
   refine K_seq ?_
   refine K_reg [] [] ⟨[(0, (.one (.ptr 0 0 0))), (1, (I p1)), (5, (I x8)), (6, (I x9)), (7, (I x37.1)), (8, (.one (.own 1 0 x37.2.1))), (9, (I x37.2.2.1)), (25, (I x8)), (32, (B (decide (x8 = 0))))], [.cells [.d (.list (p2.map (D.int .i64))), .d (.int .i64 x37.2.2.2.1)], VI x37.2.2.2.2]⟩ (by kernel_rfl) trivial ?_
   obtain ⟨x40, hx40, H⟩ := bind_some' H
   refine K_of ⟨[(0, (.one (.ptr 0 0 0))), (1, (I p1)), (5, (I x8)), (6, (I x9)), (7, (I x37.1)), (8, (.one (.own 1 0 x37.2.1))), (9, (I x37.2.2.1)), (25, (I x8)), (32, (B x40))], [.cells [.d (.list (p2.map (D.int .i64))), .d (.int .i64 x37.2.2.2.1)], VI x37.2.2.2.2]⟩ ?_ ?_
   · clear H; have H := hx40; clear hx40; refine K_in ?_
     rcases ite_some H with ⟨hx39, H⟩ | ⟨hx39, H⟩
     · refine K_t rfl (decide_eq_true hx39) ?_
       refine K_gh ⟨[(0, (.one (.ptr 0 0 0))), (1, (I p1)), (5, (I x8)), (6, (I x9)), (7, (I x37.1)), (8, (.one (.own 1 0 x37.2.1))), (9, (I x37.2.2.1)), (25, (I x8)), (32, (B (decide (x8 = 0))))], [.cells [.d (.list (p2.map (D.int .i64))), .d (.int .i64 x37.2.2.2.1)], VI x37.2.2.2.2]⟩ (by kernel_rfl) ?_
       refine K_skip ?_
       cases H
       exact K_end rfl
     · refine K_f rfl (decide_eq_false hx39) ?_
       refine K_reg [] [] ⟨[(0, (.one (.ptr 0 0 0))), (1, (I p1)), (5, (I x8)), (6, (I x9)), (7, (I x37.1)), (8, (.one (.own 1 0 x37.2.1))), (9, (I x37.2.2.1)), (25, (I x8)), (32, (B (decide (x8 = 1))))], [.cells [.d (.list (p2.map (D.int .i64))), .d (.int .i64 x37.2.2.2.1)], VI x37.2.2.2.2]⟩ (by kernel_rfl) trivial ?_
       cases H
       exact K_end rfl
   obtain ⟨x58, hx58, H⟩ := bind_some' H
   refine K_of ⟨[(0, (.one (.ptr 0 0 0))), (1, (I p1)), (5, (I x8)), (6, (I x9)), (7, (I x58.1)), (8, (.one (.own 1 0 (x37.2.1 + 1)))), (9, (I x37.2.2.1))], [.cells [.d (.list (p2.map (D.int .i64))), .d (.int .i64 x58.2.1)], VI x58.2.2]⟩ ?_ ?_
   · clear H; have H := hx58; clear hx58; refine K_in ?_
     rcases ite_some H with ⟨hx41, H⟩ | ⟨hx41, H⟩
     · refine K_t rfl hx41 ?_
       obtain ⟨x42, hx42, H⟩ := bind_some' H
       obtain ⟨hx43, H⟩ := guard_some H
       refine K_reg [.r (I x42.1) [.cells [.d (.list (p2.map (D.int .i64))), .d (.int .i64 x42.2)]], .n 1, .l (((x37.2.2.2.2.drop 0).take x37.2.1 ++ ([x42.1] : List Int)).map (D.int .i64))] [evF X k n_keep_Src_Range [(.one (.ptr 0 0 0)), (I (w64 (0 - x9))), (I x9)] [.cells [.d (.list (p2.map (D.int .i64))), .d (.int .i64 x37.2.2.2.1)]] = some ((I x42.1), [.cells [.d (.list (p2.map (D.int .i64))), .d (.int .i64 x42.2)]]), (List.all (([x42.1] : List Int).map (D.int .i64)) fun d => d.cells.length == (D.cells (.int .i64 0)).length) = true, x37.2.1 + 1 ≤ LIM, (([x42.1] : List Int).map (D.int .i64)).length = 1, ((x37.2.2.2.2.map (D.int .i64)).drop 0).take x37.2.1 ++ (([x42.1] : List Int).map (D.int .i64)) = ((x37.2.2.2.2.drop 0).take x37.2.1 ++ ([x42.1] : List Int)).map (D.int .i64)] ⟨[(0, (.one (.ptr 0 0 0))), (1, (I p1)), (5, (I x8)), (6, (I x9)), (7, (I x37.1)), (8, (.one (.own 1 0 (x37.2.1 + 1)))), (9, (I x37.2.2.1))], [.cells [.d (.list (p2.map (D.int .i64))), .d (.int .i64 x42.2)], VI ((x37.2.2.2.2.drop 0).take x37.2.1 ++ ([x42.1] : List Int))]⟩ (by kernel_rfl) (AC (T_keep_Src_Range_ok k (w64 (0 - x9)) x9 p2 x37.2.2.2.1 x42 hx42) (AC (all_ok (D.int .i64) 1 ([x42.1] : List Int) (fun _ => rfl)) (AC hx43 (AC (by simp) (A1 (ap_map (D.int .i64) x37.2.2.2.2 ([x42.1] : List Int) 0 x37.2.1)))))) ?_
       cases H
       exact K_end rfl
     · refine K_f rfl (Bool.eq_false_iff.2 hx41) ?_
       refine K_seq ?_
       refine K_seq ?_
       refine K_reg [] [] ⟨[(0, (.one (.ptr 0 0 0))), (1, (I p1)), (5, (I x8)), (6, (I x9)), (7, (I x37.1)), (8, (.one (.own 1 0 x37.2.1))), (9, (I x37.2.2.1)), (25, (I x8)), (43, (B (decide (x8 = 2))))], [.cells [.d (.list (p2.map (D.int .i64))), .d (.int .i64 x37.2.2.2.1)], VI x37.2.2.2.2]⟩ (by kernel_rfl) trivial ?_
       obtain ⟨x45, hx45, H⟩ := bind_some' H
       refine K_of ⟨[(0, (.one (.ptr 0 0 0))), (1, (I p1)), (5, (I x8)), (6, (I x9)), (7, (I x37.1)), (8, (.one (.own 1 0 x37.2.1))), (9, (I x37.2.2.1)), (25, (I x8)), (43, (B x45))], [.cells [.d (.list (p2.map (D.int .i64))), .d (.int .i64 x37.2.2.2.1)], VI x37.2.2.2.2]⟩ ?_ ?_
       · clear H; have H := hx45; clear hx45; refine K_in ?_
         rcases ite_some H with ⟨hx44, H⟩ | ⟨hx44, H⟩
         · refine K_t rfl (decide_eq_true hx44) ?_
           refine K_gh ⟨[(0, (.one (.ptr 0 0 0))), (1, (I p1)), (5, (I x8)), (6, (I x9)), (7, (I x37.1)), (8, (.one (.own 1 0 x37.2.1))), (9, (I x37.2.2.1)), (25, (I x8)), (43, (B (decide (x8 = 2))))], [.cells [.d (.list (p2.map (D.int .i64))), .d (.int .i64 x37.2.2.2.1)], VI x37.2.2.2.2]⟩ (by kernel_rfl) ?_
           refine K_skip ?_
           cases H
           exact K_end rfl
         · refine K_f rfl (decide_eq_false hx44) ?_
           refine K_reg [] [] ⟨[(0, (.one (.ptr 0 0 0))), (1, (I p1)), (5, (I x8)), (6, (I x9)), (7, (I x37.1)), (8, (.one (.own 1 0 x37.2.1))), (9, (I x37.2.2.1)), (25, (I x8)), (43, (B (decide (x8 = 3))))], [.cells [.d (.list (p2.map (D.int .i64))), .d (.int .i64 x37.2.2.2.1)], VI x37.2.2.2.2]⟩ (by kernel_rfl) trivial ?_
           cases H
           exact K_end rfl
       rcases ite_some H with ⟨hx46, H⟩ | ⟨hx46, H⟩
       · refine K_t rfl hx46 ?_
         refine K_seq ?_
         obtain ⟨x47, hx47, H⟩ := bind_some' H
         obtain ⟨x48, hx48, H⟩ := bind_some' H
         refine K_reg [.r (I x47.1) [.cells [.d (.list (p2.map (D.int .i64))), .d (.int .i64 x47.2)]], .r (I (imin (imax (w64 (x37.1 + x47.1)) (-1000)) 1000)) []] [evF X k n_keep_Src_Range [(.one (.ptr 0 0 0)), (I (w64 (0 - x9))), (I x9)] [.cells [.d (.list (p2.map (D.int .i64))), .d (.int .i64 x37.2.2.2.1)]] = some ((I x47.1), [.cells [.d (.list (p2.map (D.int .i64))), .d (.int .i64 x47.2)]]), evF X k n_keep_clip [(I (w64 (x37.1 + x47.1)))] [] = some ((I (imin (imax (w64 (x37.1 + x47.1)) (-1000)) 1000)), [])] ⟨[(0, (.one (.ptr 0 0 0))), (1, (I p1)), (5, (I x8)), (6, (I x9)), (7, (I (imin (imax (w64 (x37.1 + x47.1)) (-1000)) 1000))), (8, (.one (.own 1 0 x37.2.1))), (9, (I x37.2.2.1))], [.cells [.d (.list (p2.map (D.int .i64))), .d (.int .i64 x47.2)], VI x37.2.2.2.2]⟩ (by kernel_rfl) (AC (T_keep_Src_Range_ok k (w64 (0 - x9)) x9 p2 x37.2.2.2.1 x47 hx47) (A1 (T_keep_clip_ok k (w64 (x37.1 + x47.1)) x48 hx48))) ?_
         obtain ⟨hx49, H⟩ := guard_some H
         refine K_reg [.n 1, .l (((x37.2.2.2.2.drop 0).take x37.2.1 ++ ([(imin (imax (w64 (x37.1 + x47.1)) (-1000)) 1000)] : List Int)).map (D.int .i64))] [(List.all (([(imin (imax (w64 (x37.1 + x47.1)) (-1000)) 1000)] : List Int).map (D.int .i64)) fun d => d.cells.length == (D.cells (.int .i64 0)).length) = true, x37.2.1 + 1 ≤ LIM, (([(imin (imax (w64 (x37.1 + x47.1)) (-1000)) 1000)] : List Int).map (D.int .i64)).length = 1, ((x37.2.2.2.2.map (D.int .i64)).drop 0).take x37.2.1 ++ (([(imin (imax (w64 (x37.1 + x47.1)) (-1000)) 1000)] : List Int).map (D.int .i64)) = ((x37.2.2.2.2.drop 0).take x37.2.1 ++ ([(imin (imax (w64 (x37.1 + x47.1)) (-1000)) 1000)] : List Int)).map (D.int .i64)] ⟨[(0, (.one (.ptr 0 0 0))), (1, (I p1)), (5, (I x8)), (6, (I x9)), (7, (I (imin (imax (w64 (x37.1 + x47.1)) (-1000)) 1000))), (8, (.one (.own 1 0 (x37.2.1 + 1)))), (9, (I x37.2.2.1))], [.cells [.d (.list (p2.map (D.int .i64))), .d (.int .i64 x47.2)], VI ((x37.2.2.2.2.drop 0).take x37.2.1 ++ ([(imin (imax (w64 (x37.1 + x47.1)) (-1000)) 1000)] : List Int))]⟩ (by kernel_rfl) (AC (all_ok (D.int .i64) 1 ([(imin (imax (w64 (x37.1 + x47.1)) (-1000)) 1000)] : List Int) (fun _ => rfl)) (AC hx49 (AC (by simp) (A1 (ap_map (D.int .i64) x37.2.2.2.2 ([(imin (imax (w64 (x37.1 + x47.1)) (-1000)) 1000)] : List Int) 0 x37.2.1))))) ?_
         cases H
         exact K_end rfl
       · refine K_f rfl (Bool.eq_false_iff.2 hx46) ?_
         refine K_seq ?_
         refine K_reg [] [] ⟨[(0, (.one (.ptr 0 0 0))), (1, (I p1)), (5, (I x8)), (6, (I x9)), (7, (I x37.1)), (8, (.one (.own 1 0 x37.2.1))), (9, (I x37.2.2.1)), (58, (B (decide (x8 = 4))))], [.cells [.d (.list (p2.map (D.int .i64))), .d (.int .i64 x37.2.2.2.1)], VI x37.2.2.2.2]⟩ (by kernel_rfl) trivial ?_
         rcases ite_some H with ⟨hx50, H⟩ | ⟨hx50, H⟩
         · refine K_t rfl (decide_eq_true hx50) ?_
           refine K_seq ?_
           refine K_seq ?_
           obtain ⟨x51, hx51, H⟩ := bind_some' H
           refine K_reg [.r (I x51.1) [.cells [.d (.list (p2.map (D.int .i64))), .d (.int .i64 x51.2)]]] [evF X k n_keep_Src_N [(.one (.ptr 0 0 0)), (I 4)] [.cells [.d (.list (p2.map (D.int .i64))), .d (.int .i64 x37.2.2.2.1)]] = some ((I x51.1), [.cells [.d (.list (p2.map (D.int .i64))), .d (.int .i64 x51.2)]])] ⟨[(0, (.one (.ptr 0 0 0))), (1, (I p1)), (5, (I x8)), (6, (I x9)), (7, (I x37.1)), (8, (.one (.own 1 0 x37.2.1))), (9, (I x37.2.2.1)), (62, (B (decide (x51.1 = 0))))], [.cells [.d (.list (p2.map (D.int .i64))), .d (.int .i64 x51.2)], VI x37.2.2.2.2]⟩ (by kernel_rfl) (A1 (T_keep_Src_N_ok k 4 p2 x37.2.2.2.1 x51 hx51)) ?_
           obtain ⟨x54, hx54, H⟩ := bind_some' H
           refine K_of ⟨[(0, (.one (.ptr 0 0 0))), (1, (I p1)), (5, (I x8)), (6, (I x9)), (7, (I x54.1)), (8, (.one (.own 1 0 x37.2.1))), (9, (I x37.2.2.1))], [.cells [.d (.list (p2.map (D.int .i64))), .d (.int .i64 x54.2)], VI x37.2.2.2.2]⟩ ?_ ?_
           · clear H; have H := hx54; clear hx54; refine K_in ?_
             rcases ite_some H with ⟨hx52, H⟩ | ⟨hx52, H⟩
             · refine K_t rfl (decide_eq_true hx52) ?_
               obtain ⟨x53, hx53, H⟩ := bind_some' H
               refine K_reg [.r (I x53.1) [.cells [.d (.list (p2.map (D.int .i64))), .d (.int .i64 x53.2)]]] [evF X k n_keep_Src_Range [(.one (.ptr 0 0 0)), (I (w64 (0 - x9))), (I x9)] [.cells [.d (.list (p2.map (D.int .i64))), .d (.int .i64 x51.2)]] = some ((I x53.1), [.cells [.d (.list (p2.map (D.int .i64))), .d (.int .i64 x53.2)]])] ⟨[(0, (.one (.ptr 0 0 0))), (1, (I p1)), (5, (I x8)), (6, (I x9)), (7, (I x53.1)), (8, (.one (.own 1 0 x37.2.1))), (9, (I x37.2.2.1))], [.cells [.d (.list (p2.map (D.int .i64))), .d (.int .i64 x53.2)], VI x37.2.2.2.2]⟩ (by kernel_rfl) (A1 (T_keep_Src_Range_ok k (w64 (0 - x9)) x9 p2 x51.2 x53 hx53)) ?_
               cases H
               exact K_end rfl
             · refine K_f rfl (decide_eq_false hx52) ?_
               refine K_gh ⟨[(0, (.one (.ptr 0 0 0))), (1, (I p1)), (5, (I x8)), (6, (I x9)), (7, (I x37.1)), (8, (.one (.own 1 0 x37.2.1))), (9, (I x37.2.2.1))], [.cells [.d (.list (p2.map (D.int .i64))), .d (.int .i64 x51.2)], VI x37.2.2.2.2]⟩ (by kernel_rfl) ?_
               refine K_skip ?_
               cases H
               exact K_end rfl
           obtain ⟨hx55, H⟩ := guard_some H
           refine K_reg [.n 1, .l (((x37.2.2.2.2.drop 0).take x37.2.1 ++ ([x54.1] : List Int)).map (D.int .i64))] [(List.all (([x54.1] : List Int).map (D.int .i64)) fun d => d.cells.length == (D.cells (.int .i64 0)).length) = true, x37.2.1 + 1 ≤ LIM, (([x54.1] : List Int).map (D.int .i64)).length = 1, ((x37.2.2.2.2.map (D.int .i64)).drop 0).take x37.2.1 ++ (([x54.1] : List Int).map (D.int .i64)) = ((x37.2.2.2.2.drop 0).take x37.2.1 ++ ([x54.1] : List Int)).map (D.int .i64)] ⟨[(0, (.one (.ptr 0 0 0))), (1, (I p1)), (5, (I x8)), (6, (I x9)), (7, (I x54.1)), (8, (.one (.own 1 0 (x37.2.1 + 1)))), (9, (I x37.2.2.1))], [.cells [.d (.list (p2.map (D.int .i64))), .d (.int .i64 x54.2)], VI ((x37.2.2.2.2.drop 0).take x37.2.1 ++ ([x54.1] : List Int))]⟩ (by kernel_rfl) (AC (all_ok (D.int .i64) 1 ([x54.1] : List Int) (fun _ => rfl)) (AC hx55 (AC (by simp) (A1 (ap_map (D.int .i64) x37.2.2.2.2 ([x54.1] : List Int) 0 x37.2.1))))) ?_
           cases H
           exact K_end rfl
         · refine K_f rfl (decide_eq_false hx50) ?_
           obtain ⟨x56, hx56, H⟩ := bind_some' H
           obtain ⟨hx57, H⟩ := guard_some H
           refine K_reg [.r (I x56.1) [.cells [.d (.list (p2.map (D.int .i64))), .d (.int .i64 x56.2)]], .n 1, .l (((x37.2.2.2.2.drop 0).take x37.2.1 ++ ([x56.1] : List Int)).map (D.int .i64))] [evF X k n_keep_Src_Pick [(.one (.ptr 0 0 0)), (LI ([(-1000), 1000, 1000, 0] : List Int))] [.cells [.d (.list (p2.map (D.int .i64))), .d (.int .i64 x37.2.2.2.1)]] = some ((I x56.1), [.cells [.d (.list (p2.map (D.int .i64))), .d (.int .i64 x56.2)]]), (List.all (([x56.1] : List Int).map (D.int .i64)) fun d => d.cells.length == (D.cells (.int .i64 0)).length) = true, x37.2.1 + 1 ≤ LIM, (([x56.1] : List Int).map (D.int .i64)).length = 1, ((x37.2.2.2.2.map (D.int .i64)).drop 0).take x37.2.1 ++ (([x56.1] : List Int).map (D.int .i64)) = ((x37.2.2.2.2.drop 0).take x37.2.1 ++ ([x56.1] : List Int)).map (D.int .i64)] ⟨[(0, (.one (.ptr 0 0 0))), (1, (I p1)), (5, (I x8)), (6, (I x9)), (7, (I x37.1)), (8, (.one (.own 1 0 (x37.2.1 + 1)))), (9, (I x37.2.2.1))], [.cells [.d (.list (p2.map (D.int .i64))), .d (.int .i64 x56.2)], VI ((x37.2.2.2.2.drop 0).take x37.2.1 ++ ([x56.1] : List Int))]⟩ (by kernel_rfl) (AC (T_keep_Src_Pick_ok k ([(-1000), 1000, 1000, 0] : List Int) p2 x37.2.2.2.1 x56 hx56) (AC (all_ok (D.int .i64) 1 ([x56.1] : List Int) (fun _ => rfl)) (AC hx57 (AC (by simp) (A1 (ap_map (D.int .i64) x37.2.2.2.2 ([x56.1] : List Int) 0 x37.2.1)))))) ?_
           cases H
           exact K_end rfl
   refine K_blk ?_
   refine K_blk ?_
   refine K_reg [] [] ⟨[(0, (.one (.ptr 0 0 0))), (1, (I p1)), (5, (I x8)), (6, (I x9)), (7, (I x58.1)), (8, (.one (.own 1 0 (x37.2.1 + 1)))), (9, (I (w64 (x37.2.2.1 + 1))))], [.cells [.d (.list (p2.map (D.int .i64))), .d (.int .i64 x58.2.1)], VI x58.2.2]⟩ (by kernel_rfl) trivial ?_
   cases H
   exact K_end rfl
 · refine K_f rfl (decide_eq_false hx38) ?_
   refine K_gh ⟨[(8, (.one (.own 1 0 x37.2.1)))], [.cells [.d (.list (p2.map (D.int .i64))), .d (.int .i64 x37.2.2.2.1)], VI x37.2.2.2.2]⟩ (by kernel_rfl) ?_
   cases H
   exact K_exit0 rfl rfl
def T_keep_Src_List (k : Nat) (p1 : Int) (p2 : List Int) (p3 : Int) : Option ((List Int) × Int) := match k with
 | 0 => none
 | k + 1 => ((T_keep_Src_N k 6 p2 p3).bind fun x1 => (T_keep_Src_Pick k ([1, 3, 10, 100, 1000] : List Int) p2 x1.2).bind fun x2 => (T_keep_Src_N k 3 p2 x2.2).bind fun x3 => ((if x3.1 = 0 then ((T_keep_Src_Range k (-1000) 1000 p2 x3.2).bind fun x5 => some (x5.1, x5.2)) else some (0, x3.2))).bind fun x6 => (loopT (T_keep_Src_List_l1 k p1 p2 x1.1 x2.1) k (x6.1, 0, 0, x6.2, [])).bind fun x59 => some (((x59.2.2.drop 0).take x59.1), x59.2.1))
theorem T_keep_Src_List_ok (k : Nat) (p1 : Int) (p2 : List Int) (p3 : Int) (r : (List Int) × Int) : T_keep_Src_List k p1 p2 p3 = some r → evF X k n_keep_Src_List [(.one (.ptr 0 0 0)), (I p1)] [.cells [.d (.list (p2.map (D.int .i64))), .d (.int .i64 p3)]] = some ((LI r.1), [.cells [.d (.list (p2.map (D.int .i64))), .d (.int .i64 r.2)]]) := by
 intro H
 cases k with
 | zero => simp [T_keep_Src_List] at H
 | succ k =>
  simp only [T_keep_Src_List] at H
  refine F_in X_keep_Src_List rfl ?_
  refine K_seq ?_
  refine K_reg [] [] ⟨[(0, (.one (.ptr 0 0 0))), (1, (I p1))], [.cells [.d (.list (p2.map (D.int .i64))), .d (.int .i64 p3)]]⟩ (by kernel_rfl) trivial ?_
  refine K_seq ?_
  obtain ⟨x1, hx1, H⟩ := bind_some' H
  obtain ⟨x2, hx2, H⟩ := bind_some' H
  refine K_reg [.r (I x1.1) [.cells [.d (.list (p2.map (D.int .i64))), .d (.int .i64 x1.2)]], .r (I x2.1) [.cells [.d (.list (p2.map (D.int .i64))), .d (.int .i64 x2.2)]]] [evF X k n_keep_Src_N [(.one (.ptr 0 0 0)), (I 6)] [.cells [.d (.list (p2.map (D.int .i64))), .d (.int .i64 p3)]] = some ((I x1.1), [.cells [.d (.list (p2.map (D.int .i64))), .d (.int .i64 x1.2)]]), evF X k n_keep_Src_Pick [(.one (.ptr 0 0 0)), (LI ([1, 3, 10, 100, 1000] : List Int))] [.cells [.d (.list (p2.map (D.int .i64))), .d (.int .i64 x1.2)]] = some ((I x2.1), [.cells [.d (.list (p2.map (D.int .i64))), .d (.int .i64 x2.2)]])] ⟨[(0, (.one (.ptr 0 0 0))), (1, (I p1)), (5, (I x1.1)), (6, (I x2.1)), (7, (I 0))], [.cells [.d (.list (p2.map (D.int .i64))), .d (.int .i64 x2.2)]]⟩ (by kernel_rfl) (AC (T_keep_Src_N_ok k 6 p2 p3 x1 hx1) (A1 (T_keep_Src_Pick_ok k ([1, 3, 10, 100, 1000] : List Int) p2 x1.2 x2 hx2))) ?_
  refine K_seq ?_
  refine K_seq ?_
  obtain ⟨x3, hx3, H⟩ := bind_some' H
  refine K_reg [.r (I x3.1) [.cells [.d (.list (p2.map (D.int .i64))), .d (.int .i64 x3.2)]]] [evF X k n_keep_Src_N [(.one (.ptr 0 0 0)), (I 3)] [.cells [.d (.list (p2.map (D.int .i64))), .d (.int .i64 x2.2)]] = some ((I x3.1), [.cells [.d (.list (p2.map (D.int .i64))), .d (.int .i64 x3.2)]])] ⟨[(0, (.one (.ptr 0 0 0))), (1, (I p1)), (5, (I x1.1)), (6, (I x2.1)), (7, (I 0)), (17, (B (decide (x3.1 = 0))))], [.cells [.d (.list (p2.map (D.int .i64))), .d (.int .i64 x3.2)]]⟩ (by kernel_rfl) (A1 (T_keep_Src_N_ok k 3 p2 x2.2 x3 hx3)) ?_
  obtain ⟨x6, hx6, H⟩ := bind_some' H
  refine K_of ⟨[(0, (.one (.ptr 0 0 0))), (1, (I p1)), (5, (I x1.1)), (6, (I x2.1)), (7, (I x6.1))], [.cells [.d (.list (p2.map (D.int .i64))), .d (.int .i64 x6.2)]]⟩ ?_ ?_
  · clear H; have H := hx6; clear hx6; refine K_in ?_
    rcases ite_some H with ⟨hx4, H⟩ | ⟨hx4, H⟩
    · refine K_t rfl (decide_eq_true hx4) ?_
      obtain ⟨x5, hx5, H⟩ := bind_some' H
      refine K_reg [.r (I x5.1) [.cells [.d (.list (p2.map (D.int .i64))), .d (.int .i64 x5.2)]]] [evF X k n_keep_Src_Range [(.one (.ptr 0 0 0)), (I (-1000)), (I 1000)] [.cells [.d (.list (p2.map (D.int .i64))), .d (.int .i64 x3.2)]] = some ((I x5.1), [.cells [.d (.list (p2.map (D.int .i64))), .d (.int .i64 x5.2)]])] ⟨[(0, (.one (.ptr 0 0 0))), (1, (I p1)), (5, (I x1.1)), (6, (I x2.1)), (7, (I x5.1))], [.cells [.d (.list (p2.map (D.int .i64))), .d (.int .i64 x5.2)]]⟩ (by kernel_rfl) (A1 (T_keep_Src_Range_ok k (-1000) 1000 p2 x3.2 x5 hx5)) ?_
      cases H
      exact K_end rfl
    · refine K_f rfl (decide_eq_false hx4) ?_
      refine K_gh ⟨[(0, (.one (.ptr 0 0 0))), (1, (I p1)), (5, (I x1.1)), (6, (I x2.1)), (7, (I 0))], [.cells [.d (.list (p2.map (D.int .i64))), .d (.int .i64 x3.2)]]⟩ (by kernel_rfl) ?_
      refine K_skip ?_
      cases H
      exact K_end rfl
  refine K_seq ?_
  refine K_reg [] [] ⟨[(0, (.one (.ptr 0 0 0))), (1, (I p1)), (5, (I x1.1)), (6, (I x2.1)), (7, (I x6.1)), (8, (.one (.nil)))], [.cells [.d (.list (p2.map (D.int .i64))), .d (.int .i64 x6.2)]]⟩ (by kernel_rfl) trivial ?_
  refine K_seq ?_
  refine K_seq ?_
  refine K_reg [] [] ⟨[(0, (.one (.ptr 0 0 0))), (1, (I p1)), (5, (I x1.1)), (6, (I x2.1)), (7, (I x6.1)), (8, (.one (.nil))), (9, (I 0))], [.cells [.d (.list (p2.map (D.int .i64))), .d (.int .i64 x6.2)]]⟩ (by kernel_rfl) trivial ?_
  refine K_block ?_
  refine K_gh ⟨[(0, (.one (.ptr 0 0 0))), (1, (I p1)), (5, (I x1.1)), (6, (I x2.1)), (7, (I x6.1)), (8, (.one (.own 1 0 0))), (9, (I 0))], [.cells [.d (.list (p2.map (D.int .i64))), .d (.int .i64 x6.2)], VI []]⟩ (by kernel_rfl) ?_
  obtain ⟨x59, hx59, H⟩ := bind_some' H
  refine K_loop ⟨[(8, (.one (.own 1 0 x59.1)))], [.cells [.d (.list (p2.map (D.int .i64))), .d (.int .i64 x59.2.1)], VI x59.2.2]⟩ (loop_ok (fun (s : Int × Nat × Int × Int × (List Int)) => ⟨[(0, (.one (.ptr 0 0 0))), (1, (I p1)), (5, (I x1.1)), (6, (I x2.1)), (7, (I s.1)), (8, (.one (.own 1 0 s.2.1))), (9, (I s.2.2.1))], [.cells [.d (.list (p2.map (D.int .i64))), .d (.int .i64 s.2.2.2.1)], VI s.2.2.2.2]⟩) (fun (r : (Nat × Int × (List Int))) => (.exit 0, ⟨[(8, (.one (.own 1 0 r.1)))], [.cells [.d (.list (p2.map (D.int .i64))), .d (.int .i64 r.2.1)], VI r.2.2]⟩)) (fun r h => by cases h) (T_keep_Src_List_l1_ok k p1 p2 x1.1 x2.1) k (x6.1, 0, 0, x6.2, []) x59 hx59) rfl ?_
  refine K_seq ?_
  refine K_reg [] [] ⟨[(4, (.one (.own 1 0 x59.1)))], [.cells [.d (.list (p2.map (D.int .i64))), .d (.int .i64 x59.2.1)], VI x59.2.2]⟩ (by kernel_rfl) trivial ?_
  refine K_gh ⟨[(4, (.one (.own 1 0 x59.1)))], [.cells [.d (.list (p2.map (D.int .i64))), .d (.int .i64 x59.2.1)], VI x59.2.2]⟩ (by kernel_rfl) ?_
  cases H
  refine K_ret ?_
  exact Eq.trans (b := some ((.one (.d (.list (((x59.2.2.map (D.int .i64)).drop 0).take x59.1)))), [.cells [.d (.list (p2.map (D.int .i64))), .d (.int .i64 x59.2.1)]])) (by kernel_rfl) (by simp only [dt_map, LI, VI])
def T_keep_Src_Near_l1 (k : Nat) (p1 : List Int) (p2 : List Int) (x6 : Int) (x7 : Int) (x8 : Int) (x9 : Nat) (x10 : Int) (x42 : Int × Int × (List Int)) : Option ((Int × Int × (List Int)) ⊕ ((Int × (List Int)))) :=
 (if x42.1 < x10 then (((if x6 = 1 then (if (0 : Int) ≤ x42.1 ∧ x42.1 < ((x9 : Nat) : Int) then (x42.2.2[(0 + x42.1.toNat)]?).bind fun x46 => (T_keep_Src_Range k (-2) 2 p2 x42.2.1).bind fun x47 => (T_keep_clip k (w64 (x46 + x47.1))).bind fun x48 => some (x47.2, (x42.2.2.set (0 + x42.1.toNat) (imin (imax (w64 (x46 + x47.1)) (-1000)) 1000))) else none) else (if x6 = 2 then (if (0 : Int) ≤ x42.1 ∧ x42.1 < ((x9 : Nat) : Int) then (x42.2.2[(0 + x42.1.toNat)]?).bind fun x51 => (T_keep_clip k (w64 (x51 + x7))).bind fun x52 => some (x42.2.1, (x42.2.2.set (0 + x42.1.toNat) (imin (imax (w64 (x51 + x7)) (-1000)) 1000))) else none) else (if x6 = 3 then (if (0 : Int) ≤ x42.1 ∧ x42.1 < ((x9 : Nat) : Int) then (x42.2.2[(0 + x42.1.toNat)]?).bind fun x55 => (T_keep_clip k (w64 ((w64 (x55 * x8)) + x7))).bind fun x56 => some (x42.2.1, (x42.2.2.set (0 + x42.1.toNat) (imin (imax (w64 ((w64 (x55 * x8)) + x7)) (-1000)) 1000))) else none) else (if x6 = 4 then (at? p1 (w64 ((w64 ((p1.length : Int) - 1)) - x42.1))).bind fun x58 => (if (0 : Int) ≤ x42.1 ∧ x42.1 < ((x9 : Nat) : Int) then some (x42.2.1, (x42.2.2.set (0 + x42.1.toNat) x58)) else none) else (if x6 = 5 then (T_keep_Src_Range k (-1) 1 p2 x42.2.1).bind fun x61 => (T_keep_Mod k (w64 (x42.1 + x61.1)) (p1.length : Int)).bind fun x62 => (at? p1 x62).bind fun x63 => (if (0 : Int) ≤ x42.1 ∧ x42.1 < ((x9 : Nat) : Int) then some (x61.2, (x42.2.2.set (0 + x42.1.toNat) x63)) else none) else (if x6 = 6 then (if (0 : Int) ≤ x42.1 ∧ x42.1 < ((x9 : Nat) : Int) then (x42.2.2[(0 + x42.1.toNat)]?).bind fun x67 => (T_keep_clip k (w64 (x7 - (w64 (x67 * x8))))).bind fun x68 => some (x42.2.1, (x42.2.2.set (0 + x42.1.toNat) (imin (imax (w64 (x7 - (w64 (x67 * x8)))) (-1000)) 1000))) else none) else some (x42.2.1, x42.2.2)))))))).bind fun x69 => some (.inl ((w64 (x42.1 + 1)), x69.1, x69.2))) else some (.inr (x42.2.1, x42.2.2)))
theorem T_keep_Src_Near_l1_ok (k : Nat) (p1 : List Int) (p2 : List Int) (x6 : Int) (x7 : Int) (x8 : Int) (x9 : Nat) (x10 : Int) : ∀ (x42 : Int × Int × (List Int)) (x : (Int × Int × (List Int)) ⊕ ((Int × (List Int)))), T_keep_Src_Near_l1 k p1 p2 x6 x7 x8 x9 x10 x42 = some x → evC X (evF X k) k 1 l_keep_Src_Near_1 ⟨[(0, (.one (.ptr 0 0 0))), (1, (LI p1)), (5, (I x6)), (6, (I x7)), (7, (I x8)), (8, (.one (.own 1 0 x9))), (20, (I x10)), (21, (I x42.1))], [.cells [.d (.list (p2.map (D.int .i64))), .d (.int .i64 x42.2.1)], VI x42.2.2]⟩ = some (outS (fun (s : Int × Int × (List Int)) => ⟨[(0, (.one (.ptr 0 0 0))), (1, (LI p1)), (5, (I x6)), (6, (I x7)), (7, (I x8)), (8, (.one (.own 1 0 x9))), (20, (I x10)), (21, (I s.1))], [.cells [.d (.list (p2.map (D.int .i64))), .d (.int .i64 s.2.1)], VI s.2.2]⟩) (fun (r : (Int × (List Int))) => (.exit 0, ⟨[(8, (.one (.own 1 0 x9)))], [.cells [.d (.list (p2.map (D.int .i64))), .d (.int .i64 r.1)], VI r.2]⟩)) x) := by
 intro x42 x H
 unfold T_keep_Src_Near_l1 at H
 refine K_in ?_
 refine K_seq ?_
 refine K_reg [] [] ⟨[(0, (.one (.ptr 0 0 0))), (1, (LI p1)), (5, (I x6)), (6, (I x7)), (7, (I x8)), (8, (.one (.own 1 0 x9))), (20, (I x10)), (21, (I x42.1)), (22, (B (decide (x42.1 < x10))))], [.cells [.d (.list (p2.map (D.int .i64))), .d (.int .i64 x42.2.1)], VI x42.2.2]⟩ (by kernel_rfl) trivial ?_
 refine K_seq ?_
 rcases ite_some H with ⟨hx43, H⟩ | ⟨hx43, H⟩
 · refine K_t rfl (decide_eq_true hx43) ?_
   refine K_gh ⟨[(0, (.one (.ptr 0 0 0))), (1, (LI p1)), (5, (I x6)), (6, (I x7)), (7, (I x8)), (8, (.one (.own 1 0 x9))), (20, (I x10)), (21, (I x42.1))], [.cells [.d (.list (p2.map (D.int .i64))), .d (.int .i64 x42.2.1)], VI x42.2.2]⟩ (by kernel_rfl) ?_
   refine K_skip ?_
   refine K_seq ?_
   refine K_block ?_
   refine K_seq ?_
   refine K_reg [] [] ⟨[(0, (.one (.ptr 0 0 0))), (1, (LI p1)), (5, (I x6)), (6, (I x7)), (7, (I x8)), (8, (.one (.own 1 0 x9))), (9, (I x42.1)), (20, (I x10)), (21, (I x42.1))], [.cells [.d (.list (p2.map (D.int .i64))), .d (.int .i64 x42.2.1)], VI x42.2.2]⟩ (by kernel_rfl) trivial ?_
   refine K_seq ?_
   refine K_reg [] [] ⟨[(0, (.one (.ptr 0 0 0))), (1, (LI p1)), (5, (I x6)), (6, (I x7)), (7, (I x8)), (8, (.one (.own 1 0 x9))), (9, (I x42.1)), (20, (I x10)), (21, (I x42.1)), (24, (I x6))], [.cells [.d (.list (p2.map (D.int .i64))), .d (.int .i64 x42.2.1)], VI x42.2.2]⟩ (by kernel_rfl) trivial ?_
   refine K_block ?_
   refine K_seq ?_
   refine K_reg [] [] ⟨[(0, (.one (.ptr 0 0 0))), (1, (LI p1)), (5, (I x6)), (6, (I x7)), (7, (I x8)), (8, (.one (.own 1 0 x9))), (9, (I x42.1)), (20, (I x10)), (21, (I x42.1)), (24, (I x6)), (25, (B (decide (x6 = 1))))], [.cells [.d (.list (p2.map (D.int .i64))), .d (.int .i64 x42.2.1)], VI x42.2.2]⟩ (by kernel_rfl) trivial ?_
   obtain ⟨x69, hx69, H⟩ := bind_some' H
   refine K_of ⟨[(0, (.one (.ptr 0 0 0))), (1, (LI p1)), (5, (I x6)), (6, (I x7)), (7, (I x8)), (8, (.one (.own 1 0 x9))), (20, (I x10)), (21, (I x42.1))], [.cells [.d (.list (p2.map (D.int .i64))), .d (.int .i64 x69.1)], VI x69.2]⟩ ?_ ?_
   · clear H; have H := hx69; clear hx69; refine K_in ?_
     rcases ite_some H with ⟨hx44, H⟩ | ⟨hx44, H⟩
     · refine K_t rfl (decide_eq_true hx44) ?_
       obtain ⟨hx45, H⟩ := guard_some H
       obtain ⟨x46, hx46, H⟩ := bind_some' H
       obtain ⟨x47, hx47, H⟩ := bind_some' H
       obtain ⟨x48, hx48, H⟩ := bind_some' H
       refine K_regD [.l [.int .i64 x46], .r (I x47.1) [.cells [.d (.list (p2.map (D.int .i64))), .d (.int .i64 x47.2)]], .r (I (imin (imax (w64 (x46 + x47.1)) (-1000)) 1000)) [], .l ((x42.2.2.set (0 + x42.1.toNat) (imin (imax (w64 (x46 + x47.1)) (-1000)) 1000)).map (D.int .i64)), .r (I x47.1) [.cells [.d (.list (p2.map (D.int .i64))), .d (.int .i64 x47.2)]], .l [.int .i64 x46], .r (I (imin (imax (w64 (x46 + x47.1)) (-1000)) 1000)) [], .l ((x42.2.2.set (0 + x42.1.toNat) (imin (imax (w64 (x46 + x47.1)) (-1000)) 1000)).map (D.int .i64)), .r (I x47.1) [.cells [.d (.list (p2.map (D.int .i64))), .d (.int .i64 x47.2)]], .l [.int .i64 x46], .r (I (imin (imax (w64 (x46 + x47.1)) (-1000)) 1000)) [], .l ((x42.2.2.set (0 + x42.1.toNat) (imin (imax (w64 (x46 + x47.1)) (-1000)) 1000)).map (D.int .i64))] [(0 : Int) ≤ x42.1 ∧ x42.1 < ((x9 : Nat) : Int), ((x42.2.2.map (D.int .i64)).getD (0 + x42.1.toNat) (.int .i64 0)).cells = [.int .i64 x46], evF X k n_keep_Src_Range [(.one (.ptr 0 0 0)), (I (-2)), (I 2)] [.cells [.d (.list (p2.map (D.int .i64))), .d (.int .i64 x42.2.1)]] = some ((I x47.1), [.cells [.d (.list (p2.map (D.int .i64))), .d (.int .i64 x47.2)]]), evF X k n_keep_clip [(I (w64 (x46 + x47.1)))] [] = some ((I (imin (imax (w64 (x46 + x47.1)) (-1000)) 1000)), []), (0 : Int) ≤ x42.1 ∧ x42.1 < ((x9 : Nat) : Int), (x42.2.2.map (D.int .i64)).set (0 + x42.1.toNat) (elemOf (.int .i64 0) (splice ((x42.2.2.map (D.int .i64)).getD (0 + x42.1.toNat) (.int .i64 0)).cells 0 [.int .i64 (imin (imax (w64 (x46 + x47.1)) (-1000)) 1000)])) = (x42.2.2.set (0 + x42.1.toNat) (imin (imax (w64 (x46 + x47.1)) (-1000)) 1000)).map (D.int .i64), evF X k n_keep_Src_Range [(.one (.ptr 0 0 0)), (I (-2)), (I 2)] [.cells [.d (.list (p2.map (D.int .i64))), .d (.int .i64 x42.2.1)]] = some ((I x47.1), [.cells [.d (.list (p2.map (D.int .i64))), .d (.int .i64 x47.2)]]), ((x42.2.2.map (D.int .i64)).getD (0 + x42.1.toNat) (.int .i64 0)).cells = [.int .i64 x46], evF X k n_keep_clip [(I (w64 (x46 + x47.1)))] [] = some ((I (imin (imax (w64 (x46 + x47.1)) (-1000)) 1000)), []), (0 : Int) ≤ x42.1 ∧ x42.1 < ((x9 : Nat) : Int), (x42.2.2.map (D.int .i64)).set (0 + x42.1.toNat) (elemOf (.int .i64 0) (splice ((x42.2.2.map (D.int .i64)).getD (0 + x42.1.toNat) (.int .i64 0)).cells 0 [.int .i64 (imin (imax (w64 (x46 + x47.1)) (-1000)) 1000)])) = (x42.2.2.set (0 + x42.1.toNat) (imin (imax (w64 (x46 + x47.1)) (-1000)) 1000)).map (D.int .i64), (⟨[(0, (.one (.ptr 0 0 0))), (1, (LI p1)), (5, (I x6)), (6, (I x7)), (7, (I x8)), (8, (.one (.own 1 0 x9))), (20, (I x10)), (21, (I x42.1))], [.cells [.d (.list (p2.map (D.int .i64))), .d (.int .i64 x47.2)], VI (x42.2.2.set (0 + x42.1.toNat) (imin (imax (w64 (x46 + x47.1)) (-1000)) 1000))]⟩ : St) = ⟨[(0, (.one (.ptr 0 0 0))), (1, (LI p1)), (5, (I x6)), (6, (I x7)), (7, (I x8)), (8, (.one (.own 1 0 x9))), (20, (I x10)), (21, (I x42.1))], [.cells [.d (.list (p2.map (D.int .i64))), .d (.int .i64 x47.2)], VI (x42.2.2.set (0 + x42.1.toNat) (imin (imax (w64 (x46 + x47.1)) (-1000)) 1000))]⟩, evF X k n_keep_Src_Range [(.one (.ptr 0 0 0)), (I (-2)), (I 2)] [.cells [.d (.list (p2.map (D.int .i64))), .d (.int .i64 x42.2.1)]] = some ((I x47.1), [.cells [.d (.list (p2.map (D.int .i64))), .d (.int .i64 x47.2)]]), (0 : Int) ≤ x42.1 ∧ x42.1 < ((x9 : Nat) : Int), ((x42.2.2.map (D.int .i64)).getD (0 + x42.1.toNat) (.int .i64 0)).cells = [.int .i64 x46], evF X k n_keep_clip [(I (w64 (x46 + x47.1)))] [] = some ((I (imin (imax (w64 (x46 + x47.1)) (-1000)) 1000)), []), (0 : Int) ≤ x42.1 ∧ x42.1 < ((x9 : Nat) : Int), (x42.2.2.map (D.int .i64)).set (0 + x42.1.toNat) (elemOf (.int .i64 0) (splice ((x42.2.2.map (D.int .i64)).getD (0 + x42.1.toNat) (.int .i64 0)).cells 0 [.int .i64 (imin (imax (w64 (x46 + x47.1)) (-1000)) 1000)])) = (x42.2.2.set (0 + x42.1.toNat) (imin (imax (w64 (x46 + x47.1)) (-1000)) 1000)).map (D.int .i64), (⟨[(0, (.one (.ptr 0 0 0))), (1, (LI p1)), (5, (I x6)), (6, (I x7)), (7, (I x8)), (8, (.one (.own 1 0 x9))), (20, (I x10)), (21, (I x42.1))], [.cells [.d (.list (p2.map (D.int .i64))), .d (.int .i64 x47.2)], VI (x42.2.2.set (0 + x42.1.toNat) (imin (imax (w64 (x46 + x47.1)) (-1000)) 1000))]⟩ : St) = ⟨[(0, (.one (.ptr 0 0 0))), (1, (LI p1)), (5, (I x6)), (6, (I x7)), (7, (I x8)), (8, (.one (.own 1 0 x9))), (20, (I x10)), (21, (I x42.1))], [.cells [.d (.list (p2.map (D.int .i64))), .d (.int .i64 x47.2)], VI (x42.2.2.set (0 + x42.1.toNat) (imin (imax (w64 (x46 + x47.1)) (-1000)) 1000))]⟩] ⟨[(0, (.one (.ptr 0 0 0))), (1, (LI p1)), (5, (I x6)), (6, (I x7)), (7, (I x8)), (8, (.one (.own 1 0 x9))), (20, (I x10)), (21, (I x42.1))], [.cells [.d (.list (p2.map (D.int .i64))), .d (.int .i64 x47.2)], VI (x42.2.2.set (0 + x42.1.toNat) (imin (imax (w64 (x46 + x47.1)) (-1000)) 1000))]⟩ (by kernel_rfl) (AC hx45 (AC (ld_ok hx46 (D.int .i64) (.int .i64 0)) (AC (T_keep_Src_Range_ok k (-2) 2 p2 x42.2.1 x47 hx47) (AC (T_keep_clip_ok k (w64 (x46 + x47.1)) x48 hx48) (AC hx45 (AC (st_one x42.2.2 (0 + x42.1.toNat) (imin (imax (w64 (x46 + x47.1)) (-1000)) 1000) (D.int .i64) (.int .i64 0) rfl (fun _ => rfl) rfl) (AC (T_keep_Src_Range_ok k (-2) 2 p2 x42.2.1 x47 hx47) (AC (ld_ok hx46 (D.int .i64) (.int .i64 0)) (AC (T_keep_clip_ok k (w64 (x46 + x47.1)) x48 hx48) (AC hx45 (AC (st_one x42.2.2 (0 + x42.1.toNat) (imin (imax (w64 (x46 + x47.1)) (-1000)) 1000) (D.int .i64) (.int .i64 0) rfl (fun _ => rfl) rfl) (AC rfl (AC (T_keep_Src_Range_ok k (-2) 2 p2 x42.2.1 x47 hx47) (AC hx45 (AC (ld_ok hx46 (D.int .i64) (.int .i64 0)) (AC (T_keep_clip_ok k (w64 (x46 + x47.1)) x48 hx48) (AC hx45 (AC (st_one x42.2.2 (0 + x42.1.toNat) (imin (imax (w64 (x46 + x47.1)) (-1000)) 1000) (D.int .i64) (.int .i64 0) rfl (fun _ => rfl) rfl) (A1 rfl))))))))))))))))))) ?_
       cases H
       exact K_end rfl
     · refine K_f rfl (decide_eq_false hx44) ?_
       refine K_seq ?_
       refine K_reg [] [] ⟨[(0, (.one (.ptr 0 0 0))), (1, (LI p1)), (5, (I x6)), (6, (I x7)), (7, (I x8)), (8, (.one (.own 1 0 x9))), (9, (I x42.1)), (20, (I x10)), (21, (I x42.1)), (24, (I x6)), (38, (B (decide (x6 = 2))))], [.cells [.d (.list (p2.map (D.int .i64))), .d (.int .i64 x42.2.1)], VI x42.2.2]⟩ (by kernel_rfl) trivial ?_
       rcases ite_some H with ⟨hx49, H⟩ | ⟨hx49, H⟩
       · refine K_t rfl (decide_eq_true hx49) ?_
         obtain ⟨hx50, H⟩ := guard_some H
         obtain ⟨x51, hx51, H⟩ := bind_some' H
         obtain ⟨x52, hx52, H⟩ := bind_some' H
         refine K_reg [.l [.int .i64 x51], .r (I (imin (imax (w64 (x51 + x7)) (-1000)) 1000)) [], .l ((x42.2.2.set (0 + x42.1.toNat) (imin (imax (w64 (x51 + x7)) (-1000)) 1000)).map (D.int .i64))] [(0 : Int) ≤ x42.1 ∧ x42.1 < ((x9 : Nat) : Int), ((x42.2.2.map (D.int .i64)).getD (0 + x42.1.toNat) (.int .i64 0)).cells = [.int .i64 x51], evF X k n_keep_clip [(I (w64 (x51 + x7)))] [] = some ((I (imin (imax (w64 (x51 + x7)) (-1000)) 1000)), []), (0 : Int) ≤ x42.1 ∧ x42.1 < ((x9 : Nat) : Int), (x42.2.2.map (D.int .i64)).set (0 + x42.1.toNat) (elemOf (.int .i64 0) (splice ((x42.2.2.map (D.int .i64)).getD (0 + x42.1.toNat) (.int .i64 0)).cells 0 [.int .i64 (imin (imax (w64 (x51 + x7)) (-1000)) 1000)])) = (x42.2.2.set (0 + x42.1.toNat) (imin (imax (w64 (x51 + x7)) (-1000)) 1000)).map (D.int .i64)] ⟨[(0, (.one (.ptr 0 0 0))), (1, (LI p1)), (5, (I x6)), (6, (I x7)), (7, (I x8)), (8, (.one (.own 1 0 x9))), (20, (I x10)), (21, (I x42.1))], [.cells [.d (.list (p2.map (D.int .i64))), .d (.int .i64 x42.2.1)], VI (x42.2.2.set (0 + x42.1.toNat) (imin (imax (w64 (x51 + x7)) (-1000)) 1000))]⟩ (by kernel_rfl) (AC hx50 (AC (ld_ok hx51 (D.int .i64) (.int .i64 0)) (AC (T_keep_clip_ok k (w64 (x51 + x7)) x52 hx52) (AC hx50 (A1 (st_one x42.2.2 (0 + x42.1.toNat) (imin (imax (w64 (x51 + x7)) (-1000)) 1000) (D.int .i64) (.int .i64 0) rfl (fun _ => rfl) rfl)))))) ?_
         cases H
         exact K_end rfl
       · refine K_f rfl (decide_eq_false hx49) ?_
         refine K_seq ?_
         refine K_reg [] [] ⟨[(0, (.one (.ptr 0 0 0))), (1, (LI p1)), (5, (I x6)), (6, (I x7)), (7, (I x8)), (8, (.one (.own 1 0 x9))), (9, (I x42.1)), (20, (I x10)), (21, (I x42.1)), (24, (I x6)), (50, (B (decide (x6 = 3))))], [.cells [.d (.list (p2.map (D.int .i64))), .d (.int .i64 x42.2.1)], VI x42.2.2]⟩ (by kernel_rfl) trivial ?_
         rcases ite_some H with ⟨hx53, H⟩ | ⟨hx53, H⟩
         · refine K_t rfl (decide_eq_true hx53) ?_
           obtain ⟨hx54, H⟩ := guard_some H
           obtain ⟨x55, hx55, H⟩ := bind_some' H
           obtain ⟨x56, hx56, H⟩ := bind_some' H
           refine K_reg [.l [.int .i64 x55], .r (I (imin (imax (w64 ((w64 (x55 * x8)) + x7)) (-1000)) 1000)) [], .l ((x42.2.2.set (0 + x42.1.toNat) (imin (imax (w64 ((w64 (x55 * x8)) + x7)) (-1000)) 1000)).map (D.int .i64))] [(0 : Int) ≤ x42.1 ∧ x42.1 < ((x9 : Nat) : Int), ((x42.2.2.map (D.int .i64)).getD (0 + x42.1.toNat) (.int .i64 0)).cells = [.int .i64 x55], evF X k n_keep_clip [(I (w64 ((w64 (x55 * x8)) + x7)))] [] = some ((I (imin (imax (w64 ((w64 (x55 * x8)) + x7)) (-1000)) 1000)), []), (0 : Int) ≤ x42.1 ∧ x42.1 < ((x9 : Nat) : Int), (x42.2.2.map (D.int .i64)).set (0 + x42.1.toNat) (elemOf (.int .i64 0) (splice ((x42.2.2.map (D.int .i64)).getD (0 + x42.1.toNat) (.int .i64 0)).cells 0 [.int .i64 (imin (imax (w64 ((w64 (x55 * x8)) + x7)) (-1000)) 1000)])) = (x42.2.2.set (0 + x42.1.toNat) (imin (imax (w64 ((w64 (x55 * x8)) + x7)) (-1000)) 1000)).map (D.int .i64)] ⟨[(0, (.one (.ptr 0 0 0))), (1, (LI p1)), (5, (I x6)), (6, (I x7)), (7, (I x8)), (8, (.one (.own 1 0 x9))), (20, (I x10)), (21, (I x42.1))], [.cells [.d (.list (p2.map (D.int .i64))), .d (.int .i64 x42.2.1)], VI (x42.2.2.set (0 + x42.1.toNat) (imin (imax (w64 ((w64 (x55 * x8)) + x7)) (-1000)) 1000))]⟩ (by kernel_rfl) (AC hx54 (AC (ld_ok hx55 (D.int .i64) (.int .i64 0)) (AC (T_keep_clip_ok k (w64 ((w64 (x55 * x8)) + x7)) x56 hx56) (AC hx54 (A1 (st_one x42.2.2 (0 + x42.1.toNat) (imin (imax (w64 ((w64 (x55 * x8)) + x7)) (-1000)) 1000) (D.int .i64) (.int .i64 0) rfl (fun _ => rfl) rfl)))))) ?_
           cases H
           exact K_end rfl
         · refine K_f rfl (decide_eq_false hx53) ?_
           refine K_seq ?_
           refine K_reg [] [] ⟨[(0, (.one (.ptr 0 0 0))), (1, (LI p1)), (5, (I x6)), (6, (I x7)), (7, (I x8)), (8, (.one (.own 1 0 x9))), (9, (I x42.1)), (20, (I x10)), (21, (I x42.1)), (24, (I x6)), (64, (B (decide (x6 = 4))))], [.cells [.d (.list (p2.map (D.int .i64))), .d (.int .i64 x42.2.1)], VI x42.2.2]⟩ (by kernel_rfl) trivial ?_
           rcases ite_some H with ⟨hx57, H⟩ | ⟨hx57, H⟩
           · refine K_t rfl (decide_eq_true hx57) ?_
             obtain ⟨x58, hx58, H⟩ := bind_some' H
             obtain ⟨hx59, H⟩ := guard_some H
             refine K_reg [.n p1.length, .l [.int .i64 x58], .l ((x42.2.2.set (0 + x42.1.toNat) x58).map (D.int .i64))] [((p1.map (D.int .i64))).length = p1.length, (0 : Int) ≤ (w64 ((w64 ((p1.length : Int) - 1)) - x42.1)) ∧ (w64 ((w64 ((p1.length : Int) - 1)) - x42.1)) < (((p1.map (D.int .i64))).length : Int), ((p1.map (D.int .i64)).getD (w64 ((w64 ((p1.length : Int) - 1)) - x42.1)).toNat (.int .i64 0)).cells = [.int .i64 x58], (0 : Int) ≤ x42.1 ∧ x42.1 < ((x9 : Nat) : Int), (x42.2.2.map (D.int .i64)).set (0 + x42.1.toNat) (elemOf (.int .i64 0) (splice ((x42.2.2.map (D.int .i64)).getD (0 + x42.1.toNat) (.int .i64 0)).cells 0 [.int .i64 x58])) = (x42.2.2.set (0 + x42.1.toNat) x58).map (D.int .i64)] ⟨[(0, (.one (.ptr 0 0 0))), (1, (LI p1)), (5, (I x6)), (6, (I x7)), (7, (I x8)), (8, (.one (.own 1 0 x9))), (20, (I x10)), (21, (I x42.1))], [.cells [.d (.list (p2.map (D.int .i64))), .d (.int .i64 x42.2.1)], VI (x42.2.2.set (0 + x42.1.toNat) x58)]⟩ (by kernel_rfl) (AC (List.length_map _) (AC (at_ok hx58 (D.int .i64) (.int .i64 0)).1 (AC (at_ok hx58 (D.int .i64) (.int .i64 0)).2 (AC hx59 (A1 (st_one x42.2.2 (0 + x42.1.toNat) x58 (D.int .i64) (.int .i64 0) rfl (fun _ => rfl) rfl)))))) ?_
             cases H
             exact K_end rfl
           · refine K_f rfl (decide_eq_false hx57) ?_
             refine K_seq ?_
             refine K_reg [] [] ⟨[(0, (.one (.ptr 0 0 0))), (1, (LI p1)), (5, (I x6)), (6, (I x7)), (7, (I x8)), (8, (.one (.own 1 0 x9))), (9, (I x42.1)), (20, (I x10)), (21, (I x42.1)), (24, (I x6)), (77, (B (decide (x6 = 5))))], [.cells [.d (.list (p2.map (D.int .i64))), .d (.int .i64 x42.2.1)], VI x42.2.2]⟩ (by kernel_rfl) trivial ?_
             rcases ite_some H with ⟨hx60, H⟩ | ⟨hx60, H⟩
             · refine K_t rfl (decide_eq_true hx60) ?_
               obtain ⟨x61, hx61, H⟩ := bind_some' H
               obtain ⟨x62, hx62, H⟩ := bind_some' H
               obtain ⟨x63, hx63, H⟩ := bind_some' H
               obtain ⟨hx64, H⟩ := guard_some H
               refine K_reg [.r (I x61.1) [.cells [.d (.list (p2.map (D.int .i64))), .d (.int .i64 x61.2)]], .n p1.length, .r (I x62) [], .l [.int .i64 x63], .l ((x42.2.2.set (0 + x42.1.toNat) x63).map (D.int .i64))] [evF X k n_keep_Src_Range [(.one (.ptr 0 0 0)), (I (-1)), (I 1)] [.cells [.d (.list (p2.map (D.int .i64))), .d (.int .i64 x42.2.1)]] = some ((I x61.1), [.cells [.d (.list (p2.map (D.int .i64))), .d (.int .i64 x61.2)]]), ((p1.map (D.int .i64))).length = p1.length, evF X k n_keep_Mod [(I (w64 (x42.1 + x61.1))), (I (p1.length : Int))] [] = some ((I x62), []), (0 : Int) ≤ x62 ∧ x62 < (((p1.map (D.int .i64))).length : Int), ((p1.map (D.int .i64)).getD x62.toNat (.int .i64 0)).cells = [.int .i64 x63], (0 : Int) ≤ x42.1 ∧ x42.1 < ((x9 : Nat) : Int), (x42.2.2.map (D.int .i64)).set (0 + x42.1.toNat) (elemOf (.int .i64 0) (splice ((x42.2.2.map (D.int .i64)).getD (0 + x42.1.toNat) (.int .i64 0)).cells 0 [.int .i64 x63])) = (x42.2.2.set (0 + x42.1.toNat) x63).map (D.int .i64)] ⟨[(0, (.one (.ptr 0 0 0))), (1, (LI p1)), (5, (I x6)), (6, (I x7)), (7, (I x8)), (8, (.one (.own 1 0 x9))), (20, (I x10)), (21, (I x42.1))], [.cells [.d (.list (p2.map (D.int .i64))), .d (.int .i64 x61.2)], VI (x42.2.2.set (0 + x42.1.toNat) x63)]⟩ (by kernel_rfl) (AC (T_keep_Src_Range_ok k (-1) 1 p2 x42.2.1 x61 hx61) (AC (List.length_map _) (AC (T_keep_Mod_ok k (w64 (x42.1 + x61.1)) (p1.length : Int) x62 hx62) (AC (at_ok hx63 (D.int .i64) (.int .i64 0)).1 (AC (at_ok hx63 (D.int .i64) (.int .i64 0)).2 (AC hx64 (A1 (st_one x42.2.2 (0 + x42.1.toNat) x63 (D.int .i64) (.int .i64 0) rfl (fun _ => rfl) rfl)))))))) ?_
               cases H
               exact K_end rfl
             · refine K_f rfl (decide_eq_false hx60) ?_
               refine K_seq ?_
               refine K_reg [] [] ⟨[(0, (.one (.ptr 0 0 0))), (1, (LI p1)), (5, (I x6)), (6, (I x7)), (7, (I x8)), (8, (.one (.own 1 0 x9))), (9, (I x42.1)), (20, (I x10)), (21, (I x42.1)), (92, (B (decide (x6 = 6))))], [.cells [.d (.list (p2.map (D.int .i64))), .d (.int .i64 x42.2.1)], VI x42.2.2]⟩ (by kernel_rfl) trivial ?_
               rcases ite_some H with ⟨hx65, H⟩ | ⟨hx65, H⟩
               · refine K_t rfl (decide_eq_true hx65) ?_
                 obtain ⟨hx66, H⟩ := guard_some H
                 obtain ⟨x67, hx67, H⟩ := bind_some' H
                 obtain ⟨x68, hx68, H⟩ := bind_some' H
                 refine K_reg [.l [.int .i64 x67], .r (I (imin (imax (w64 (x7 - (w64 (x67 * x8)))) (-1000)) 1000)) [], .l ((x42.2.2.set (0 + x42.1.toNat) (imin (imax (w64 (x7 - (w64 (x67 * x8)))) (-1000)) 1000)).map (D.int .i64))] [(0 : Int) ≤ x42.1 ∧ x42.1 < ((x9 : Nat) : Int), ((x42.2.2.map (D.int .i64)).getD (0 + x42.1.toNat) (.int .i64 0)).cells = [.int .i64 x67], evF X k n_keep_clip [(I (w64 (x7 - (w64 (x67 * x8)))))] [] = some ((I (imin (imax (w64 (x7 - (w64 (x67 * x8)))) (-1000)) 1000)), []), (0 : Int) ≤ x42.1 ∧ x42.1 < ((x9 : Nat) : Int), (x42.2.2.map (D.int .i64)).set (0 + x42.1.toNat) (elemOf (.int .i64 0) (splice ((x42.2.2.map (D.int .i64)).getD (0 + x42.1.toNat) (.int .i64 0)).cells 0 [.int .i64 (imin (imax (w64 (x7 - (w64 (x67 * x8)))) (-1000)) 1000)])) = (x42.2.2.set (0 + x42.1.toNat) (imin (imax (w64 (x7 - (w64 (x67 * x8)))) (-1000)) 1000)).map (D.int .i64)] ⟨[(0, (.one (.ptr 0 0 0))), (1, (LI p1)), (5, (I x6)), (6, (I x7)), (7, (I x8)), (8, (.one (.own 1 0 x9))), (20, (I x10)), (21, (I x42.1))], [.cells [.d (.list (p2.map (D.int .i64))), .d (.int .i64 x42.2.1)], VI (x42.2.2.set (0 + x42.1.toNat) (imin (imax (w64 (x7 - (w64 (x67 * x8)))) (-1000)) 1000))]⟩ (by kernel_rfl) (AC hx66 (AC (ld_ok hx67 (D.int .i64) (.int .i64 0)) (AC (T_keep_clip_ok k (w64 (x7 - (w64 (x67 * x8)))) x68 hx68) (AC hx66 (A1 (st_one x42.2.2 (0 + x42.1.toNat) (imin (imax (w64 (x7 - (w64 (x67 * x8)))) (-1000)) 1000) (D.int .i64) (.int .i64 0) rfl (fun _ => rfl) rfl)))))) ?_
                 cases H
                 exact K_end rfl
               · refine K_f rfl (decide_eq_false hx65) ?_
                 refine K_gh ⟨[(0, (.one (.ptr 0 0 0))), (1, (LI p1)), (5, (I x6)), (6, (I x7)), (7, (I x8)), (8, (.one (.own 1 0 x9))), (20, (I x10)), (21, (I x42.1))], [.cells [.d (.list (p2.map (D.int .i64))), .d (.int .i64 x42.2.1)], VI x42.2.2]⟩ (by kernel_rfl) ?_
                 refine K_skip ?_
                 cases H
                 exact K_end rfl
   refine K_blk ?_
   refine K_blk ?_
   refine K_reg [] [] ⟨[(0, (.one (.ptr 0 0 0))), (1, (LI p1)), (5, (I x6)), (6, (I x7)), (7, (I x8)), (8, (.one (.own 1 0 x9))), (20, (I x10)), (21, (I (w64 (x42.1 + 1))))], [.cells [.d (.list (p2.map (D.int .i64))), .d (.int .i64 x69.1)], VI x69.2]⟩ (by kernel_rfl) trivial ?_
   cases H
   exact K_end rfl
 · refine K_f rfl (decide_eq_false hx43) ?_
   refine K_gh ⟨[(8, (.one (.own 1 0 x9)))], [.cells [.d (.list (p2.map (D.int .i64))), .d (.int .i64 x42.2.1)], VI x42.2.2]⟩ (by kernel_rfl) ?_
   cases H
   exact K_exit0 rfl rfl
def T_keep_Src_Near (k : Nat) (p1 : List Int) (p2 : List Int) (p3 : Int) : Option ((List Int) × Int) := match k with
 | 0 => none
 | k + 1 => (T_keep_Src_N k 7 p2 p3).bind fun x1 => (T_keep_Src_Range k (-20) 20 p2 x1.2).bind fun x2 => (T_keep_Src_Range k 1 3 p2 x2.2).bind fun x3 => (if 0 + p1.length ≤ LIM then (loopT (T_keep_Src_Near_l1 k p1 p2 x1.1 x2.1 x3.1 (0 + p1.length) (((0 + p1.length) : Nat) : Int)) k (0, x3.2, (([].drop 0).take 0 ++ p1))).bind fun x70 => some (((x70.2.drop 0).take (0 + p1.length)), x70.1) else none)
theorem T_keep_Src_Near_ok (k : Nat) (p1 : List Int) (p2 : List Int) (p3 : Int) (r : (List Int) × Int) : T_keep_Src_Near k p1 p2 p3 = some r → evF X k n_keep_Src_Near [(.one (.ptr 0 0 0)), (LI p1)] [.cells [.d (.list (p2.map (D.int .i64))), .d (.int .i64 p3)]] = some ((LI r.1), [.cells [.d (.list (p2.map (D.int .i64))), .d (.int .i64 r.2)]]) := by
 intro H
 cases k with
 | zero => simp [T_keep_Src_Near] at H
 | succ k =>
  simp only [T_keep_Src_Near] at H
  refine F_in X_keep_Src_Near rfl ?_
  refine K_seq ?_
  refine K_reg [] [] ⟨[(0, (.one (.ptr 0 0 0))), (1, (LI p1))], [.cells [.d (.list (p2.map (D.int .i64))), .d (.int .i64 p3)]]⟩ (by kernel_rfl) trivial ?_
  refine K_seq ?_
  obtain ⟨x1, hx1, H⟩ := bind_some' H
  obtain ⟨x2, hx2, H⟩ := bind_some' H
  obtain ⟨x3, hx3, H⟩ := bind_some' H
  refine K_reg [.r (I x1.1) [.cells [.d (.list (p2.map (D.int .i64))), .d (.int .i64 x1.2)]], .r (I x2.1) [.cells [.d (.list (p2.map (D.int .i64))), .d (.int .i64 x2.2)]], .r (I x3.1) [.cells [.d (.list (p2.map (D.int .i64))), .d (.int .i64 x3.2)]]] [evF X k n_keep_Src_N [(.one (.ptr 0 0 0)), (I 7)] [.cells [.d (.list (p2.map (D.int .i64))), .d (.int .i64 p3)]] = some ((I x1.1), [.cells [.d (.list (p2.map (D.int .i64))), .d (.int .i64 x1.2)]]), evF X k n_keep_Src_Range [(.one (.ptr 0 0 0)), (I (-20)), (I 20)] [.cells [.d (.list (p2.map (D.int .i64))), .d (.int .i64 x1.2)]] = some ((I x2.1), [.cells [.d (.list (p2.map (D.int .i64))), .d (.int .i64 x2.2)]]), evF X k n_keep_Src_Range [(.one (.ptr 0 0 0)), (I 1), (I 3)] [.cells [.d (.list (p2.map (D.int .i64))), .d (.int .i64 x2.2)]] = some ((I x3.1), [.cells [.d (.list (p2.map (D.int .i64))), .d (.int .i64 x3.2)]])] ⟨[(0, (.one (.ptr 0 0 0))), (1, (LI p1)), (5, (I x1.1)), (6, (I x2.1)), (7, (I x3.1))], [.cells [.d (.list (p2.map (D.int .i64))), .d (.int .i64 x3.2)]]⟩ (by kernel_rfl) (AC (T_keep_Src_N_ok k 7 p2 p3 x1 hx1) (AC (T_keep_Src_Range_ok k (-20) 20 p2 x1.2 x2 hx2) (A1 (T_keep_Src_Range_ok k 1 3 p2 x2.2 x3 hx3)))) ?_
  refine K_seq ?_
  obtain ⟨hx4, H⟩ := guard_some H
  refine K_reg [.n p1.length, .l ((([].drop 0).take 0 ++ p1).map (D.int .i64))] [(List.all (p1.map (D.int .i64)) fun d => d.cells.length == (D.cells (.int .i64 0)).length) = true, 0 + p1.length ≤ LIM, (p1.map (D.int .i64)).length = p1.length, (([].map (D.int .i64)).drop 0).take 0 ++ (p1.map (D.int .i64)) = (([].drop 0).take 0 ++ p1).map (D.int .i64)] ⟨[(0, (.one (.ptr 0 0 0))), (1, (LI p1)), (5, (I x1.1)), (6, (I x2.1)), (7, (I x3.1)), (8, (.one (.own 1 0 (0 + p1.length))))], [.cells [.d (.list (p2.map (D.int .i64))), .d (.int .i64 x3.2)], VI (([].drop 0).take 0 ++ p1)]⟩ (by kernel_rfl) (AC (all_ok (D.int .i64) 1 p1 (fun _ => rfl)) (AC hx4 (AC (by simp) (A1 (ap_map (D.int .i64) [] p1 0 0))))) ?_
  refine K_seq ?_
  refine K_seq ?_
  refine K_reg [] [] ⟨[(0, (.one (.ptr 0 0 0))), (1, (LI p1)), (5, (I x1.1)), (6, (I x2.1)), (7, (I x3.1)), (8, (.one (.own 1 0 (0 + p1.length)))), (20, (I (((0 + p1.length) : Nat) : Int))), (21, (I 0))], [.cells [.d (.list (p2.map (D.int .i64))), .d (.int .i64 x3.2)], VI (([].drop 0).take 0 ++ p1)]⟩ (by kernel_rfl) trivial ?_
  refine K_block ?_
  obtain ⟨x70, hx70, H⟩ := bind_some' H
  refine K_loop ⟨[(8, (.one (.own 1 0 (0 + p1.length))))], [.cells [.d (.list (p2.map (D.int .i64))), .d (.int .i64 x70.1)], VI x70.2]⟩ (loop_ok (fun (s : Int × Int × (List Int)) => ⟨[(0, (.one (.ptr 0 0 0))), (1, (LI p1)), (5, (I x1.1)), (6, (I x2.1)), (7, (I x3.1)), (8, (.one (.own 1 0 (0 + p1.length)))), (20, (I (((0 + p1.length) : Nat) : Int))), (21, (I s.1))], [.cells [.d (.list (p2.map (D.int .i64))), .d (.int .i64 s.2.1)], VI s.2.2]⟩) (fun (r : (Int × (List Int))) => (.exit 0, ⟨[(8, (.one (.own 1 0 (0 + p1.length))))], [.cells [.d (.list (p2.map (D.int .i64))), .d (.int .i64 r.1)], VI r.2]⟩)) (fun r h => by cases h) (T_keep_Src_Near_l1_ok k p1 p2 x1.1 x2.1 x3.1 (0 + p1.length) (((0 + p1.length) : Nat) : Int)) k (0, x3.2, (([].drop 0).take 0 ++ p1)) x70 hx70) rfl ?_
  refine K_seq ?_
  refine K_reg [] [] ⟨[(4, (.one (.own 1 0 (0 + p1.length))))], [.cells [.d (.list (p2.map (D.int .i64))), .d (.int .i64 x70.1)], VI x70.2]⟩ (by kernel_rfl) trivial ?_
  refine K_gh ⟨[(4, (.one (.own 1 0 (0 + p1.length))))], [.cells [.d (.list (p2.map (D.int .i64))), .d (.int .i64 x70.1)], VI x70.2]⟩ (by kernel_rfl) ?_
  cases H
  refine K_ret ?_
  exact Eq.trans (b := some ((.one (.d (.list (((x70.2.map (D.int .i64)).drop 0).take (0 + p1.length))))), [.cells [.d (.list (p2.map (D.int .i64))), .d (.int .i64 x70.1)]])) (by kernel_rfl) (by simp only [dt_map, LI, VI])
def T_keep_Src_Pair (k : Nat) (p1 : List Int) (p2 : Int) : Option ((List Int) × (List Int) × Int) := match k with
 | 0 => none
 | k + 1 => ((T_keep_Src_Length k p1 p2).bind fun x1 => (T_keep_Src_List k x1.1 p1 x1.2).bind fun x2 => (T_keep_Src_N k 3 p1 x2.2).bind fun x3 => (if x3.1 = 0 then ((T_keep_Src_List k (x2.1.length : Int) p1 x3.2).bind fun x5 => some (x2.1, x5.1, x5.2)) else ((T_keep_Src_Near k x2.1 p1 x3.2).bind fun x6 => some (x2.1, x6.1, x6.2))))
theorem T_keep_Src_Pair_ok (k : Nat) (p1 : List Int) (p2 : Int) (r : (List Int) × (List Int) × Int) : T_keep_Src_Pair k p1 p2 = some r → evF X k n_keep_Src_Pair [(.one (.ptr 0 0 0))] [.cells [.d (.list (p1.map (D.int .i64))), .d (.int .i64 p2)]] = some ((.tup [(false, [.d (.list (r.1.map (D.int .i64)))]), (false, [.d (.list (r.2.1.map (D.int .i64)))])]), [.cells [.d (.list (p1.map (D.int .i64))), .d (.int .i64 r.2.2)]]) := by
 intro H
 cases k with
 | zero => simp [T_keep_Src_Pair] at H
 | succ k =>
  simp only [T_keep_Src_Pair] at H
  refine F_in X_keep_Src_Pair rfl ?_
  refine K_seq ?_
  refine K_reg [] [] ⟨[(0, (.one (.ptr 0 0 0)))], [.cells [.d (.list (p1.map (D.int .i64))), .d (.int .i64 p2)]]⟩ (by kernel_rfl) trivial ?_
  refine K_seq ?_
  obtain ⟨x1, hx1, H⟩ := bind_some' H
  obtain ⟨x2, hx2, H⟩ := bind_some' H
  refine K_reg [.r (I x1.1) [.cells [.d (.list (p1.map (D.int .i64))), .d (.int .i64 x1.2)]], .r (LI x2.1) [.cells [.d (.list (p1.map (D.int .i64))), .d (.int .i64 x2.2)]]] [evF X k n_keep_Src_Length [(.one (.ptr 0 0 0))] [.cells [.d (.list (p1.map (D.int .i64))), .d (.int .i64 p2)]] = some ((I x1.1), [.cells [.d (.list (p1.map (D.int .i64))), .d (.int .i64 x1.2)]]), evF X k n_keep_Src_List [(.one (.ptr 0 0 0)), (I x1.1)] [.cells [.d (.list (p1.map (D.int .i64))), .d (.int .i64 x1.2)]] = some ((LI x2.1), [.cells [.d (.list (p1.map (D.int .i64))), .d (.int .i64 x2.2)]])] ⟨[(0, (.one (.ptr 0 0 0))), (4, (LI x2.1))], [.cells [.d (.list (p1.map (D.int .i64))), .d (.int .i64 x2.2)]]⟩ (by kernel_rfl) (AC (T_keep_Src_Length_ok k p1 p2 x1 hx1) (A1 (T_keep_Src_List_ok k x1.1 p1 x1.2 x2 hx2))) ?_
  refine K_seq ?_
  refine K_seq ?_
  obtain ⟨x3, hx3, H⟩ := bind_some' H
  refine K_reg [.r (I x3.1) [.cells [.d (.list (p1.map (D.int .i64))), .d (.int .i64 x3.2)]]] [evF X k n_keep_Src_N [(.one (.ptr 0 0 0)), (I 3)] [.cells [.d (.list (p1.map (D.int .i64))), .d (.int .i64 x2.2)]] = some ((I x3.1), [.cells [.d (.list (p1.map (D.int .i64))), .d (.int .i64 x3.2)]])] ⟨[(0, (.one (.ptr 0 0 0))), (4, (LI x2.1)), (11, (B (decide (x3.1 = 0))))], [.cells [.d (.list (p1.map (D.int .i64))), .d (.int .i64 x3.2)]]⟩ (by kernel_rfl) (A1 (T_keep_Src_N_ok k 3 p1 x2.2 x3 hx3)) ?_
  rcases ite_some H with ⟨hx4, H⟩ | ⟨hx4, H⟩
  · refine K_t rfl (decide_eq_true hx4) ?_
    refine K_seq ?_
    obtain ⟨x5, hx5, H⟩ := bind_some' H
    refine K_reg [.n x2.1.length, .r (LI x5.1) [.cells [.d (.list (p1.map (D.int .i64))), .d (.int .i64 x5.2)]]] [((x2.1.map (D.int .i64))).length = x2.1.length, evF X k n_keep_Src_List [(.one (.ptr 0 0 0)), (I (x2.1.length : Int))] [.cells [.d (.list (p1.map (D.int .i64))), .d (.int .i64 x3.2)]] = some ((LI x5.1), [.cells [.d (.list (p1.map (D.int .i64))), .d (.int .i64 x5.2)]])] ⟨[(2, (LI x2.1)), (3, (LI x5.1))], [.cells [.d (.list (p1.map (D.int .i64))), .d (.int .i64 x5.2)]]⟩ (by kernel_rfl) (AC (List.length_map _) (A1 (T_keep_Src_List_ok k (x2.1.length : Int) p1 x3.2 x5 hx5))) ?_
    refine K_gh ⟨[(2, (LI x2.1)), (3, (LI x5.1))], [.cells [.d (.list (p1.map (D.int .i64))), .d (.int .i64 x5.2)]]⟩ (by kernel_rfl) ?_
    cases H
    refine K_ret ?_
    kernel_rfl
  · refine K_f rfl (decide_eq_false hx4) ?_
    refine K_gh ⟨[(0, (.one (.ptr 0 0 0))), (4, (LI x2.1))], [.cells [.d (.list (p1.map (D.int .i64))), .d (.int .i64 x3.2)]]⟩ (by kernel_rfl) ?_
    refine K_skip ?_
    refine K_seq ?_
    obtain ⟨x6, hx6, H⟩ := bind_some' H
    refine K_reg [.r (LI x6.1) [.cells [.d (.list (p1.map (D.int .i64))), .d (.int .i64 x6.2)]]] [evF X k n_keep_Src_Near [(.one (.ptr 0 0 0)), (LI x2.1)] [.cells [.d (.list (p1.map (D.int .i64))), .d (.int .i64 x3.2)]] = some ((LI x6.1), [.cells [.d (.list (p1.map (D.int .i64))), .d (.int .i64 x6.2)]])] ⟨[(2, (LI x2.1)), (3, (LI x6.1))], [.cells [.d (.list (p1.map (D.int .i64))), .d (.int .i64 x6.2)]]⟩ (by kernel_rfl) (A1 (T_keep_Src_Near_ok k x2.1 p1 x3.2 x6 hx6)) ?_
    refine K_gh ⟨[(2, (LI x2.1)), (3, (LI x6.1))], [.cells [.d (.list (p1.map (D.int .i64))), .d (.int .i64 x6.2)]]⟩ (by kernel_rfl) ?_
    cases H
    refine K_ret ?_
    kernel_rfl
def T_keep_Src_Uneven (k : Nat) (p1 : List Int) (p2 : Int) : Option ((List Int) × (List Int) × Int × Int) := match k with
 | 0 => none
 | k + 1 => ((T_keep_Src_Pair k p1 p2).bind fun x1 => (T_keep_Src_N k 2 p1 x1.2.2).bind fun x2 => ((if x2.1 = 0 then (T_keep_Src_Range k 2 (x1.2.1.length : Int) p1 x2.2).bind fun x4 => (if (0 : Int) ≤ 0 ∧ 0 ≤ x4.1 ∧ x4.1 ≤ (x1.2.1.length : Int) ∧ (x1.2.1.length : Int) ≤ (x1.2.1.length : Int) then some (((x1.2.1.drop 0).take (x4.1.toNat - 0)), x4.2) else none) else some (x1.2.1, x2.2))).bind fun x6 => (T_keep_Src_N k 4 p1 x6.2).bind fun x7 => (T_keep_Src_N k 5 p1 x7.2).bind fun x8 => ((if x8.1 = 0 then some 32 else some (imin 32 (w64 ((w64 ((x1.1.length : Int) - (x6.1.length : Int))) + x7.1))))).bind fun x10 => (T_keep_Src_N k 2 p1 x8.2).bind fun x11 => (if x11.1 = 0 then some (x6.1, x1.1, x10, x11.2) else some (x1.1, x6.1, x10, x11.2)))
theorem T_keep_Src_Uneven_ok (k : Nat) (p1 : List Int) (p2 : Int) (r : (List Int) × (List Int) × Int × Int) : T_keep_Src_Uneven k p1 p2 = some r → evF X k n_keep_Src_Uneven [(.one (.ptr 0 0 0))] [.cells [.d (.list (p1.map (D.int .i64))), .d (.int .i64 p2)]] = some ((.tup [(false, [.d (.list (r.1.map (D.int .i64)))]), (false, [.d (.list (r.2.1.map (D.int .i64)))]), (false, [.d (.int .i64 r.2.2.1)])]), [.cells [.d (.list (p1.map (D.int .i64))), .d (.int .i64 r.2.2.2)]]) := by
 intro H
 cases k with
 | zero => simp [T_keep_Src_Uneven] at H
 | succ k =>
  simp only [T_keep_Src_Uneven] at H
  refine F_in X_keep_Src_Uneven rfl ?_
  refine K_seq ?_
  refine K_reg [] [] ⟨[(0, (.one (.ptr 0 0 0)))], [.cells [.d (.list (p1.map (D.int .i64))), .d (.int .i64 p2)]]⟩ (by kernel_rfl) trivial ?_
  refine K_seq ?_
  obtain ⟨x1, hx1, H⟩ := bind_some' H
  refine K_reg [.r (.tup [(false, [.d (.list (x1.1.map (D.int .i64)))]), (false, [.d (.list (x1.2.1.map (D.int .i64)))])]) [.cells [.d (.list (p1.map (D.int .i64))), .d (.int .i64 x1.2.2)]]] [evF X k n_keep_Src_Pair [(.one (.ptr 0 0 0))] [.cells [.d (.list (p1.map (D.int .i64))), .d (.int .i64 p2)]] = some ((.tup [(false, [.d (.list (x1.1.map (D.int .i64)))]), (false, [.d (.list (x1.2.1.map (D.int .i64)))])]), [.cells [.d (.list (p1.map (D.int .i64))), .d (.int .i64 x1.2.2)]])] ⟨[(0, (.one (.ptr 0 0 0))), (5, (LI x1.1)), (6, (LI x1.2.1))], [.cells [.d (.list (p1.map (D.int .i64))), .d (.int .i64 x1.2.2)]]⟩ (by kernel_rfl) (A1 (T_keep_Src_Pair_ok k p1 p2 x1 hx1)) ?_
  refine K_seq ?_
  refine K_seq ?_
  obtain ⟨x2, hx2, H⟩ := bind_some' H
  refine K_reg [.r (I x2.1) [.cells [.d (.list (p1.map (D.int .i64))), .d (.int .i64 x2.2)]]] [evF X k n_keep_Src_N [(.one (.ptr 0 0 0)), (I 2)] [.cells [.d (.list (p1.map (D.int .i64))), .d (.int .i64 x1.2.2)]] = some ((I x2.1), [.cells [.d (.list (p1.map (D.int .i64))), .d (.int .i64 x2.2)]])] ⟨[(0, (.one (.ptr 0 0 0))), (5, (LI x1.1)), (6, (LI x1.2.1)), (15, (B (decide (x2.1 = 0))))], [.cells [.d (.list (p1.map (D.int .i64))), .d (.int .i64 x2.2)]]⟩ (by kernel_rfl) (A1 (T_keep_Src_N_ok k 2 p1 x1.2.2 x2 hx2)) ?_
  obtain ⟨x6, hx6, H⟩ := bind_some' H
  refine K_of ⟨[(0, (.one (.ptr 0 0 0))), (5, (LI x1.1)), (6, (LI x6.1))], [.cells [.d (.list (p1.map (D.int .i64))), .d (.int .i64 x6.2)]]⟩ ?_ ?_
  · clear H; have H := hx6; clear hx6; refine K_in ?_
    rcases ite_some H with ⟨hx3, H⟩ | ⟨hx3, H⟩
    · refine K_t rfl (decide_eq_true hx3) ?_
      obtain ⟨x4, hx4, H⟩ := bind_some' H
      obtain ⟨hx5, H⟩ := guard_some H
      refine K_reg [.n x1.2.1.length, .r (I x4.1) [.cells [.d (.list (p1.map (D.int .i64))), .d (.int .i64 x4.2)]], .l (((x1.2.1.drop 0).take (x4.1.toNat - 0)).map (D.int .i64))] [((x1.2.1.map (D.int .i64))).length = x1.2.1.length, evF X k n_keep_Src_Range [(.one (.ptr 0 0 0)), (I 2), (I (x1.2.1.length : Int))] [.cells [.d (.list (p1.map (D.int .i64))), .d (.int .i64 x2.2)]] = some ((I x4.1), [.cells [.d (.list (p1.map (D.int .i64))), .d (.int .i64 x4.2)]]), ((x1.2.1.map (D.int .i64)).all fun d => d.cells.length == 1) = true, (0 : Int) ≤ 0 ∧ 0 ≤ x4.1 ∧ x4.1 ≤ (((x1.2.1.map (D.int .i64))).length : Int) ∧ (((x1.2.1.map (D.int .i64))).length : Int) ≤ (((x1.2.1.map (D.int .i64))).length : Int), ((x1.2.1.map (D.int .i64)).drop (0 : Int).toNat).take ((x4.1 : Int).toNat - (0 : Int).toNat) = ((x1.2.1.drop 0).take (x4.1.toNat - 0)).map (D.int .i64)] ⟨[(0, (.one (.ptr 0 0 0))), (5, (LI x1.1)), (6, (LI ((x1.2.1.drop 0).take (x4.1.toNat - 0))))], [.cells [.d (.list (p1.map (D.int .i64))), .d (.int .i64 x4.2)]]⟩ (by kernel_rfl) (AC (List.length_map _) (AC (T_keep_Src_Range_ok k 2 (x1.2.1.length : Int) p1 x2.2 x4 hx4) (AC (all_ok (D.int .i64) 1 x1.2.1 (fun _ => rfl)) (AC (by simpa using hx5) (A1 (dt_map _ _ _ _)))))) ?_
      cases H
      exact K_end rfl
    · refine K_f rfl (decide_eq_false hx3) ?_
      refine K_gh ⟨[(0, (.one (.ptr 0 0 0))), (5, (LI x1.1)), (6, (LI x1.2.1))], [.cells [.d (.list (p1.map (D.int .i64))), .d (.int .i64 x2.2)]]⟩ (by kernel_rfl) ?_
      refine K_skip ?_
      cases H
      exact K_end rfl
  refine K_seq ?_
  obtain ⟨x7, hx7, H⟩ := bind_some' H
  refine K_reg [.n x1.1.length, .n x6.1.length, .r (I x7.1) [.cells [.d (.list (p1.map (D.int .i64))), .d (.int .i64 x7.2)]]] [((x1.1.map (D.int .i64))).length = x1.1.length, ((x6.1.map (D.int .i64))).length = x6.1.length, evF X k n_keep_Src_N [(.one (.ptr 0 0 0)), (I 4)] [.cells [.d (.list (p1.map (D.int .i64))), .d (.int .i64 x6.2)]] = some ((I x7.1), [.cells [.d (.list (p1.map (D.int .i64))), .d (.int .i64 x7.2)]])] ⟨[(0, (.one (.ptr 0 0 0))), (5, (LI x1.1)), (6, (LI x6.1)), (7, (I (imin 32 (w64 ((w64 ((x1.1.length : Int) - (x6.1.length : Int))) + x7.1)))))], [.cells [.d (.list (p1.map (D.int .i64))), .d (.int .i64 x7.2)]]⟩ (by kernel_rfl) (AC (List.length_map _) (AC (List.length_map _) (A1 (T_keep_Src_N_ok k 4 p1 x6.2 x7 hx7)))) ?_
  refine K_seq ?_
  refine K_seq ?_
  obtain ⟨x8, hx8, H⟩ := bind_some' H
  refine K_reg [.r (I x8.1) [.cells [.d (.list (p1.map (D.int .i64))), .d (.int .i64 x8.2)]]] [evF X k n_keep_Src_N [(.one (.ptr 0 0 0)), (I 5)] [.cells [.d (.list (p1.map (D.int .i64))), .d (.int .i64 x7.2)]] = some ((I x8.1), [.cells [.d (.list (p1.map (D.int .i64))), .d (.int .i64 x8.2)]])] ⟨[(0, (.one (.ptr 0 0 0))), (5, (LI x1.1)), (6, (LI x6.1)), (7, (I (imin 32 (w64 ((w64 ((x1.1.length : Int) - (x6.1.length : Int))) + x7.1))))), (33, (B (decide (x8.1 = 0))))], [.cells [.d (.list (p1.map (D.int .i64))), .d (.int .i64 x8.2)]]⟩ (by kernel_rfl) (A1 (T_keep_Src_N_ok k 5 p1 x7.2 x8 hx8)) ?_
  obtain ⟨x10, hx10, H⟩ := bind_some' H
  refine K_of ⟨[(0, (.one (.ptr 0 0 0))), (5, (LI x1.1)), (6, (LI x6.1)), (7, (I x10))], [.cells [.d (.list (p1.map (D.int .i64))), .d (.int .i64 x8.2)]]⟩ ?_ ?_
  · clear H; have H := hx10; clear hx10; refine K_in ?_
    rcases ite_some H with ⟨hx9, H⟩ | ⟨hx9, H⟩
    · refine K_t rfl (decide_eq_true hx9) ?_
      refine K_reg [] [] ⟨[(0, (.one (.ptr 0 0 0))), (5, (LI x1.1)), (6, (LI x6.1)), (7, (I 32))], [.cells [.d (.list (p1.map (D.int .i64))), .d (.int .i64 x8.2)]]⟩ (by kernel_rfl) trivial ?_
      cases H
      exact K_end rfl
    · refine K_f rfl (decide_eq_false hx9) ?_
      refine K_gh ⟨[(0, (.one (.ptr 0 0 0))), (5, (LI x1.1)), (6, (LI x6.1)), (7, (I (imin 32 (w64 ((w64 ((x1.1.length : Int) - (x6.1.length : Int))) + x7.1)))))], [.cells [.d (.list (p1.map (D.int .i64))), .d (.int .i64 x8.2)]]⟩ (by kernel_rfl) ?_
      refine K_skip ?_
      cases H
      exact K_end rfl
  refine K_seq ?_
  refine K_seq ?_
  obtain ⟨x11, hx11, H⟩ := bind_some' H
  refine K_reg [.r (I x11.1) [.cells [.d (.list (p1.map (D.int .i64))), .d (.int .i64 x11.2)]]] [evF X k n_keep_Src_N [(.one (.ptr 0 0 0)), (I 2)] [.cells [.d (.list (p1.map (D.int .i64))), .d (.int .i64 x8.2)]] = some ((I x11.1), [.cells [.d (.list (p1.map (D.int .i64))), .d (.int .i64 x11.2)]])] ⟨[(5, (LI x1.1)), (6, (LI x6.1)), (7, (I x10)), (36, (B (decide (x11.1 = 0))))], [.cells [.d (.list (p1.map (D.int .i64))), .d (.int .i64 x11.2)]]⟩ (by kernel_rfl) (A1 (T_keep_Src_N_ok k 2 p1 x8.2 x11 hx11)) ?_
  rcases ite_some H with ⟨hx12, H⟩ | ⟨hx12, H⟩
  · refine K_t rfl (decide_eq_true hx12) ?_
    refine K_seq ?_
    refine K_reg [] [] ⟨[(2, (LI x6.1)), (3, (LI x1.1)), (4, (I x10))], [.cells [.d (.list (p1.map (D.int .i64))), .d (.int .i64 x11.2)]]⟩ (by kernel_rfl) trivial ?_
    refine K_gh ⟨[(2, (LI x6.1)), (3, (LI x1.1)), (4, (I x10))], [.cells [.d (.list (p1.map (D.int .i64))), .d (.int .i64 x11.2)]]⟩ (by kernel_rfl) ?_
    cases H
    refine K_ret ?_
    kernel_rfl
  · refine K_f rfl (decide_eq_false hx12) ?_
    refine K_gh ⟨[(5, (LI x1.1)), (6, (LI x6.1)), (7, (I x10))], [.cells [.d (.list (p1.map (D.int .i64))), .d (.int .i64 x11.2)]]⟩ (by kernel_rfl) ?_
    refine K_skip ?_
    refine K_seq ?_
    refine K_reg [] [] ⟨[(2, (LI x1.1)), (3, (LI x6.1)), (4, (I x10))], [.cells [.d (.list (p1.map (D.int .i64))), .d (.int .i64 x11.2)]]⟩ (by kernel_rfl) trivial ?_
    refine K_gh ⟨[(2, (LI x1.1)), (3, (LI x6.1)), (4, (I x10))], [.cells [.d (.list (p1.map (D.int .i64))), .d (.int .i64 x11.2)]]⟩ (by kernel_rfl) ?_
    cases H
    refine K_ret ?_
    kernel_rfl
def T_keep_Src_Bent_l1 (k : Nat) (p2 : List Int) (x14 : Nat × Int × (List Int)) : Option ((Nat × Int × (List Int)) ⊕ ((Nat × Int × (List Int)))) :=
 (if ((x14.1 : Nat) : Int) ≤ 32 then (T_keep_Src_N k 9 p2 x14.2.1).bind fun x16 => (if x14.1 + 1 ≤ LIM then some (.inl ((x14.1 + 1), x16.2, ((x14.2.2.drop 0).take x14.1 ++ ([x16.1] : List Int)))) else none) else some (.inr (x14.1, x14.2.1, x14.2.2)))
theorem T_keep_Src_Bent_l1_ok (k : Nat) (p2 : List Int) : ∀ (x14 : Nat × Int × (List Int)) (x : (Nat × Int × (List Int)) ⊕ ((Nat × Int × (List Int)))), T_keep_Src_Bent_l1 k p2 x14 = some x → evC X (evF X k) k 1 l_keep_Src_Bent_1 ⟨[(0, (.one (.ptr 0 0 0))), (5, (.one (.own 1 0 x14.1)))], [.cells [.d (.list (p2.map (D.int .i64))), .d (.int .i64 x14.2.1)], VI x14.2.2]⟩ = some (outS (fun (s : Nat × Int × (List Int)) => ⟨[(0, (.one (.ptr 0 0 0))), (5, (.one (.own 1 0 s.1)))], [.cells [.d (.list (p2.map (D.int .i64))), .d (.int .i64 s.2.1)], VI s.2.2]⟩) (fun (r : (Nat × Int × (List Int))) => (.exit 1, ⟨[(5, (.one (.own 1 0 r.1)))], [.cells [.d (.list (p2.map (D.int .i64))), .d (.int .i64 r.2.1)], VI r.2.2]⟩)) x) := by
 intro x14 x H
 unfold T_keep_Src_Bent_l1 at H
 refine K_in ?_
 refine K_seq ?_
 refine K_seq ?_
 refine K_reg [] [] ⟨[(0, (.one (.ptr 0 0 0))), (5, (.one (.own 1 0 x14.1))), (36, (B (decide (((x14.1 : Nat) : Int) ≤ 32))))], [.cells [.d (.list (p2.map (D.int .i64))), .d (.int .i64 x14.2.1)], VI x14.2.2]⟩ (by kernel_rfl) trivial ?_
 rcases ite_some H with ⟨hx15, H⟩ | ⟨hx15, H⟩
 · refine K_t rfl (decide_eq_true hx15) ?_
   refine K_gh ⟨[(0, (.one (.ptr 0 0 0))), (5, (.one (.own 1 0 x14.1)))], [.cells [.d (.list (p2.map (D.int .i64))), .d (.int .i64 x14.2.1)], VI x14.2.2]⟩ (by kernel_rfl) ?_
   refine K_skip ?_
   refine K_block ?_
   obtain ⟨x16, hx16, H⟩ := bind_some' H
   obtain ⟨hx17, H⟩ := guard_some H
   refine K_reg [.r (I x16.1) [.cells [.d (.list (p2.map (D.int .i64))), .d (.int .i64 x16.2)]], .n 1, .l (((x14.2.2.drop 0).take x14.1 ++ ([x16.1] : List Int)).map (D.int .i64))] [evF X k n_keep_Src_N [(.one (.ptr 0 0 0)), (I 9)] [.cells [.d (.list (p2.map (D.int .i64))), .d (.int .i64 x14.2.1)]] = some ((I x16.1), [.cells [.d (.list (p2.map (D.int .i64))), .d (.int .i64 x16.2)]]), (List.all (([x16.1] : List Int).map (D.int .i64)) fun d => d.cells.length == (D.cells (.int .i64 0)).length) = true, x14.1 + 1 ≤ LIM, (([x16.1] : List Int).map (D.int .i64)).length = 1, ((x14.2.2.map (D.int .i64)).drop 0).take x14.1 ++ (([x16.1] : List Int).map (D.int .i64)) = ((x14.2.2.drop 0).take x14.1 ++ ([x16.1] : List Int)).map (D.int .i64)] ⟨[(0, (.one (.ptr 0 0 0))), (5, (.one (.own 1 0 (x14.1 + 1))))], [.cells [.d (.list (p2.map (D.int .i64))), .d (.int .i64 x16.2)], VI ((x14.2.2.drop 0).take x14.1 ++ ([x16.1] : List Int))]⟩ (by kernel_rfl) (AC (T_keep_Src_N_ok k 9 p2 x14.2.1 x16 hx16) (AC (all_ok (D.int .i64) 1 ([x16.1] : List Int) (fun _ => rfl)) (AC hx17 (AC (by simp) (A1 (ap_map (D.int .i64) x14.2.2 ([x16.1] : List Int) 0 x14.1)))))) ?_
   refine K_blk ?_
   cases H
   exact K_end rfl
 · refine K_f rfl (decide_eq_false hx15) ?_
   refine K_gh ⟨[(5, (.one (.own 1 0 x14.1)))], [.cells [.d (.list (p2.map (D.int .i64))), .d (.int .i64 x14.2.1)], VI x14.2.2]⟩ (by kernel_rfl) ?_
   cases H
   exact K_exit0 rfl rfl
def T_keep_Src_Bent_l2 (k : Nat) (p2 : List Int) (x34 : Nat × Int × (List Int)) : Option ((Nat × Int × (List Int)) ⊕ ((Nat × Int × (List Int)))) :=
 (if ((x34.1 : Nat) : Int) ≤ 32 then (T_keep_Src_N k 9 p2 x34.2.1).bind fun x36 => (if x34.1 + 1 ≤ LIM then some (.inl ((x34.1 + 1), x36.2, ((x34.2.2.drop 0).take x34.1 ++ ([x36.1] : List Int)))) else none) else some (.inr (x34.1, x34.2.1, x34.2.2)))
theorem T_keep_Src_Bent_l2_ok (k : Nat) (p2 : List Int) : ∀ (x34 : Nat × Int × (List Int)) (x : (Nat × Int × (List Int)) ⊕ ((Nat × Int × (List Int)))), T_keep_Src_Bent_l2 k p2 x34 = some x → evC X (evF X k) k 1 l_keep_Src_Bent_1 ⟨[(0, (.one (.ptr 0 0 0))), (5, (.one (.own 1 0 x34.1)))], [.cells [.d (.list (p2.map (D.int .i64))), .d (.int .i64 x34.2.1)], VI x34.2.2]⟩ = some (outS (fun (s : Nat × Int × (List Int)) => ⟨[(0, (.one (.ptr 0 0 0))), (5, (.one (.own 1 0 s.1)))], [.cells [.d (.list (p2.map (D.int .i64))), .d (.int .i64 s.2.1)], VI s.2.2]⟩) (fun (r : (Nat × Int × (List Int))) => (.exit 1, ⟨[(5, (.one (.own 1 0 r.1)))], [.cells [.d (.list (p2.map (D.int .i64))), .d (.int .i64 r.2.1)], VI r.2.2]⟩)) x) := by
 intro x34 x H
 unfold T_keep_Src_Bent_l2 at H
 refine K_in ?_
 refine K_seq ?_
 refine K_seq ?_
 refine K_reg [] [] ⟨[(0, (.one (.ptr 0 0 0))), (5, (.one (.own 1 0 x34.1))), (36, (B (decide (((x34.1 : Nat) : Int) ≤ 32))))], [.cells [.d (.list (p2.map (D.int .i64))), .d (.int .i64 x34.2.1)], VI x34.2.2]⟩ (by kernel_rfl) trivial ?_
 rcases ite_some H with ⟨hx35, H⟩ | ⟨hx35, H⟩
 · refine K_t rfl (decide_eq_true hx35) ?_
   refine K_gh ⟨[(0, (.one (.ptr 0 0 0))), (5, (.one (.own 1 0 x34.1)))], [.cells [.d (.list (p2.map (D.int .i64))), .d (.int .i64 x34.2.1)], VI x34.2.2]⟩ (by kernel_rfl) ?_
   refine K_skip ?_
   refine K_block ?_
   obtain ⟨x36, hx36, H⟩ := bind_some' H
   obtain ⟨hx37, H⟩ := guard_some H
   refine K_reg [.r (I x36.1) [.cells [.d (.list (p2.map (D.int .i64))), .d (.int .i64 x36.2)]], .n 1, .l (((x34.2.2.drop 0).take x34.1 ++ ([x36.1] : List Int)).map (D.int .i64))] [evF X k n_keep_Src_N [(.one (.ptr 0 0 0)), (I 9)] [.cells [.d (.list (p2.map (D.int .i64))), .d (.int .i64 x34.2.1)]] = some ((I x36.1), [.cells [.d (.list (p2.map (D.int .i64))), .d (.int .i64 x36.2)]]), (List.all (([x36.1] : List Int).map (D.int .i64)) fun d => d.cells.length == (D.cells (.int .i64 0)).length) = true, x34.1 + 1 ≤ LIM, (([x36.1] : List Int).map (D.int .i64)).length = 1, ((x34.2.2.map (D.int .i64)).drop 0).take x34.1 ++ (([x36.1] : List Int).map (D.int .i64)) = ((x34.2.2.drop 0).take x34.1 ++ ([x36.1] : List Int)).map (D.int .i64)] ⟨[(0, (.one (.ptr 0 0 0))), (5, (.one (.own 1 0 (x34.1 + 1))))], [.cells [.d (.list (p2.map (D.int .i64))), .d (.int .i64 x36.2)], VI ((x34.2.2.drop 0).take x34.1 ++ ([x36.1] : List Int))]⟩ (by kernel_rfl) (AC (T_keep_Src_N_ok k 9 p2 x34.2.1 x36 hx36) (AC (all_ok (D.int .i64) 1 ([x36.1] : List Int) (fun _ => rfl)) (AC hx37 (AC (by simp) (A1 (ap_map (D.int .i64) x34.2.2 ([x36.1] : List Int) 0 x34.1)))))) ?_
   refine K_blk ?_
   cases H
   exact K_end rfl
 · refine K_f rfl (decide_eq_false hx35) ?_
   refine K_gh ⟨[(5, (.one (.own 1 0 x34.1)))], [.cells [.d (.list (p2.map (D.int .i64))), .d (.int .i64 x34.2.1)], VI x34.2.2]⟩ (by kernel_rfl) ?_
   cases H
   exact K_exit0 rfl rfl
def T_keep_Src_Bent (k : Nat) (p1 : List Int) (p2 : List Int) (p3 : Int) : Option ((List Int) × Int) := match k with
 | 0 => none
 | k + 1 => (if 0 + p1.length ≤ LIM then (T_keep_Src_N k 4 p2 p3).bind fun x2 => (if x2.1 = 0 then (T_keep_Src_N k 2 p2 x2.2).bind fun x24 => (if (0 : Int) ≤ 0 ∧ 0 ≤ (imin (((0 + p1.length) : Nat) : Int) x24.1) ∧ (imin (((0 + p1.length) : Nat) : Int) x24.1) ≤ (((0 + p1.length) : Nat) : Int) ∧ (((0 + p1.length) : Nat) : Int) ≤ (((0 + p1.length) : Nat) : Int) then some ((((([].drop 0).take 0 ++ p1).drop (0 + 0)).take ((imin (((0 + p1.length) : Nat) : Int) x24.1).toNat - 0)), x24.2) else none) else (((if x2.1 = 1 then ((loopT (T_keep_Src_Bent_l2 k p2) k ((0 + p1.length), x2.2, (([].drop 0).take 0 ++ p1))).bind fun x38 => some (x38.1, x38.2.1, x38.2.2)) else (if 0 < (((0 + p1.length) : Nat) : Int) then (T_keep_Src_N k (((0 + p1.length) : Nat) : Int) p2 x2.2).bind fun x40 => (T_keep_Src_Pick k ([1000, 1001, (-1001), 1073741824, 4611686018427387904, (-9223372036854775808)] : List Int) p2 x40.2).bind fun x41 => (if (0 : Int) ≤ x40.1 ∧ x40.1 < (((0 + p1.length) : Nat) : Int) then some ((0 + p1.length), x41.2, ((([].drop 0).take 0 ++ p1).set (0 + x40.1.toNat) x41.1)) else none) else some ((0 + p1.length), x2.2, (([].drop 0).take 0 ++ p1))))).bind fun x43 => some (((x43.2.2.drop 0).take x43.1), x43.2.1))) else none)
theorem T_keep_Src_Bent_ok (k : Nat) (p1 : List Int) (p2 : List Int) (p3 : Int) (r : (List Int) × Int) : T_keep_Src_Bent k p1 p2 p3 = some r → evF X k n_keep_Src_Bent [(.one (.ptr 0 0 0)), (LI p1)] [.cells [.d (.list (p2.map (D.int .i64))), .d (.int .i64 p3)]] = some ((LI r.1), [.cells [.d (.list (p2.map (D.int .i64))), .d (.int .i64 r.2)]]) := by
 intro H
 cases k with
 | zero => simp [T_keep_Src_Bent] at H
 | succ k =>
  simp only [T_keep_Src_Bent] at H
  refine F_in X_keep_Src_Bent rfl ?_
  refine K_seq ?_
  refine K_reg [] [] ⟨[(0, (.one (.ptr 0 0 0))), (1, (LI p1))], [.cells [.d (.list (p2.map (D.int .i64))), .d (.int .i64 p3)]]⟩ (by kernel_rfl) trivial ?_
  refine K_seq ?_
  obtain ⟨hx1, H⟩ := guard_some H
  refine K_reg [.n p1.length, .l ((([].drop 0).take 0 ++ p1).map (D.int .i64))] [(List.all (p1.map (D.int .i64)) fun d => d.cells.length == (D.cells (.int .i64 0)).length) = true, 0 + p1.length ≤ LIM, (p1.map (D.int .i64)).length = p1.length, (([].map (D.int .i64)).drop 0).take 0 ++ (p1.map (D.int .i64)) = (([].drop 0).take 0 ++ p1).map (D.int .i64)] ⟨[(0, (.one (.ptr 0 0 0))), (5, (.one (.own 1 0 (0 + p1.length))))], [.cells [.d (.list (p2.map (D.int .i64))), .d (.int .i64 p3)], VI (([].drop 0).take 0 ++ p1)]⟩ (by kernel_rfl) (AC (all_ok (D.int .i64) 1 p1 (fun _ => rfl)) (AC hx1 (AC (by simp) (A1 (ap_map (D.int .i64) [] p1 0 0))))) ?_
  refine K_seq ?_
  refine K_seq ?_
  obtain ⟨x2, hx2, H⟩ := bind_some' H
  refine K_reg [.r (I x2.1) [.cells [.d (.list (p2.map (D.int .i64))), .d (.int .i64 x2.2)]]] [evF X k n_keep_Src_N [(.one (.ptr 0 0 0)), (I 4)] [.cells [.d (.list (p2.map (D.int .i64))), .d (.int .i64 p3)]] = some ((I x2.1), [.cells [.d (.list (p2.map (D.int .i64))), .d (.int .i64 x2.2)]])] ⟨[(0, (.one (.ptr 0 0 0))), (5, (.one (.own 1 0 (0 + p1.length)))), (10, (I x2.1))], [.cells [.d (.list (p2.map (D.int .i64))), .d (.int .i64 x2.2)], VI (([].drop 0).take 0 ++ p1)]⟩ (by kernel_rfl) (A1 (T_keep_Src_N_ok k 4 p2 p3 x2 hx2)) ?_
  refine K_block ?_
  refine K_seq ?_
  refine K_reg [] [] ⟨[(0, (.one (.ptr 0 0 0))), (5, (.one (.own 1 0 (0 + p1.length)))), (10, (I x2.1)), (23, (B (decide (x2.1 = 0))))], [.cells [.d (.list (p2.map (D.int .i64))), .d (.int .i64 x2.2)], VI (([].drop 0).take 0 ++ p1)]⟩ (by kernel_rfl) trivial ?_
  rcases ite_some H with ⟨hx23, H⟩ | ⟨hx23, H⟩
  · refine K_t rfl (decide_eq_true hx23) ?_
    refine K_seq ?_
    obtain ⟨x24, hx24, H⟩ := bind_some' H
    obtain ⟨hx25, H⟩ := guard_some H
    refine K_reg [.r (I x24.1) [.cells [.d (.list (p2.map (D.int .i64))), .d (.int .i64 x24.2)]]] [evF X k n_keep_Src_N [(.one (.ptr 0 0 0)), (I 2)] [.cells [.d (.list (p2.map (D.int .i64))), .d (.int .i64 x2.2)]] = some ((I x24.1), [.cells [.d (.list (p2.map (D.int .i64))), .d (.int .i64 x24.2)]]), (0 : Int) ≤ 0 ∧ 0 ≤ (imin (((0 + p1.length) : Nat) : Int) x24.1) ∧ (imin (((0 + p1.length) : Nat) : Int) x24.1) ≤ (((0 + p1.length) : Nat) : Int) ∧ (((0 + p1.length) : Nat) : Int) ≤ (((0 + p1.length) : Nat) : Int)] ⟨[(4, (.one (.own 1 (0 + 0) ((imin (((0 + p1.length) : Nat) : Int) x24.1).toNat - 0))))], [.cells [.d (.list (p2.map (D.int .i64))), .d (.int .i64 x24.2)], VI (([].drop 0).take 0 ++ p1)]⟩ (by kernel_rfl) (AC (T_keep_Src_N_ok k 2 p2 x2.2 x24 hx24) (A1 hx25)) ?_
    refine K_gh ⟨[(4, (.one (.own 1 (0 + 0) ((imin (((0 + p1.length) : Nat) : Int) x24.1).toNat - 0))))], [.cells [.d (.list (p2.map (D.int .i64))), .d (.int .i64 x24.2)], VI (([].drop 0).take 0 ++ p1)]⟩ (by kernel_rfl) ?_
    cases H
    refine K_ret ?_
    exact Eq.trans (b := some ((.one (.d (.list ((((([].drop 0).take 0 ++ p1).map (D.int .i64)).drop (0 + 0)).take ((imin (((0 + p1.length) : Nat) : Int) x24.1).toNat - 0))))), [.cells [.d (.list (p2.map (D.int .i64))), .d (.int .i64 x24.2)]])) (by kernel_rfl) (by simp only [dt_map, LI, VI])
  · refine K_f rfl (decide_eq_false hx23) ?_
    refine K_seq ?_
    refine K_reg [] [] ⟨[(0, (.one (.ptr 0 0 0))), (5, (.one (.own 1 0 (0 + p1.length)))), (32, (B (decide (x2.1 = 1))))], [.cells [.d (.list (p2.map (D.int .i64))), .d (.int .i64 x2.2)], VI (([].drop 0).take 0 ++ p1)]⟩ (by kernel_rfl) trivial ?_
    obtain ⟨x43, hx43, H⟩ := bind_some' H
    refine K_of ⟨[(5, (.one (.own 1 0 x43.1)))], [.cells [.d (.list (p2.map (D.int .i64))), .d (.int .i64 x43.2.1)], VI x43.2.2]⟩ ?_ ?_
    · clear H; have H := hx43; clear hx43; refine K_in ?_
      rcases ite_some H with ⟨hx26, H⟩ | ⟨hx26, H⟩
      · refine K_t rfl (decide_eq_true hx26) ?_
        refine K_gh ⟨[(0, (.one (.ptr 0 0 0))), (5, (.one (.own 1 0 (0 + p1.length))))], [.cells [.d (.list (p2.map (D.int .i64))), .d (.int .i64 x2.2)], VI (([].drop 0).take 0 ++ p1)]⟩ (by kernel_rfl) ?_
        refine K_block ?_
        obtain ⟨x38, hx38, H⟩ := bind_some' H
        refine K_loop ⟨[(5, (.one (.own 1 0 x38.1)))], [.cells [.d (.list (p2.map (D.int .i64))), .d (.int .i64 x38.2.1)], VI x38.2.2]⟩ (loop_ok (fun (s : Nat × Int × (List Int)) => ⟨[(0, (.one (.ptr 0 0 0))), (5, (.one (.own 1 0 s.1)))], [.cells [.d (.list (p2.map (D.int .i64))), .d (.int .i64 s.2.1)], VI s.2.2]⟩) (fun (r : (Nat × Int × (List Int))) => (.exit 1, ⟨[(5, (.one (.own 1 0 r.1)))], [.cells [.d (.list (p2.map (D.int .i64))), .d (.int .i64 r.2.1)], VI r.2.2]⟩)) (fun r h => by cases h) (T_keep_Src_Bent_l2_ok k p2) k ((0 + p1.length), x2.2, (([].drop 0).take 0 ++ p1)) x38 hx38) rfl ?_
        cases H
        exact K_end rfl
      · refine K_f rfl (decide_eq_false hx26) ?_
        refine K_seq ?_
        refine K_reg [] [] ⟨[(0, (.one (.ptr 0 0 0))), (5, (.one (.own 1 0 (0 + p1.length)))), (13, (B (decide (0 < (((0 + p1.length) : Nat) : Int)))))], [.cells [.d (.list (p2.map (D.int .i64))), .d (.int .i64 x2.2)], VI (([].drop 0).take 0 ++ p1)]⟩ (by kernel_rfl) trivial ?_
        rcases ite_some H with ⟨hx39, H⟩ | ⟨hx39, H⟩
        · refine K_t rfl (decide_eq_true hx39) ?_
          obtain ⟨x40, hx40, H⟩ := bind_some' H
          obtain ⟨x41, hx41, H⟩ := bind_some' H
          obtain ⟨hx42, H⟩ := guard_some H
          refine K_reg [.r (I x40.1) [.cells [.d (.list (p2.map (D.int .i64))), .d (.int .i64 x40.2)]], .r (I x41.1) [.cells [.d (.list (p2.map (D.int .i64))), .d (.int .i64 x41.2)]], .l (((([].drop 0).take 0 ++ p1).set (0 + x40.1.toNat) x41.1).map (D.int .i64))] [evF X k n_keep_Src_N [(.one (.ptr 0 0 0)), (I (((0 + p1.length) : Nat) : Int))] [.cells [.d (.list (p2.map (D.int .i64))), .d (.int .i64 x2.2)]] = some ((I x40.1), [.cells [.d (.list (p2.map (D.int .i64))), .d (.int .i64 x40.2)]]), evF X k n_keep_Src_Pick [(.one (.ptr 0 0 0)), (LI ([1000, 1001, (-1001), 1073741824, 4611686018427387904, (-9223372036854775808)] : List Int))] [.cells [.d (.list (p2.map (D.int .i64))), .d (.int .i64 x40.2)]] = some ((I x41.1), [.cells [.d (.list (p2.map (D.int .i64))), .d (.int .i64 x41.2)]]), (0 : Int) ≤ x40.1 ∧ x40.1 < (((0 + p1.length) : Nat) : Int), ((([].drop 0).take 0 ++ p1).map (D.int .i64)).set (0 + x40.1.toNat) (elemOf (.int .i64 0) (splice (((([].drop 0).take 0 ++ p1).map (D.int .i64)).getD (0 + x40.1.toNat) (.int .i64 0)).cells 0 [.int .i64 x41.1])) = ((([].drop 0).take 0 ++ p1).set (0 + x40.1.toNat) x41.1).map (D.int .i64)] ⟨[(5, (.one (.own 1 0 (0 + p1.length))))], [.cells [.d (.list (p2.map (D.int .i64))), .d (.int .i64 x41.2)], VI ((([].drop 0).take 0 ++ p1).set (0 + x40.1.toNat) x41.1)]⟩ (by kernel_rfl) (AC (T_keep_Src_N_ok k (((0 + p1.length) : Nat) : Int) p2 x2.2 x40 hx40) (AC (T_keep_Src_Pick_ok k ([1000, 1001, (-1001), 1073741824, 4611686018427387904, (-9223372036854775808)] : List Int) p2 x40.2 x41 hx41) (AC hx42 (A1 (st_one (([].drop 0).take 0 ++ p1) (0 + x40.1.toNat) x41.1 (D.int .i64) (.int .i64 0) rfl (fun _ => rfl) rfl))))) ?_
          cases H
          exact K_end rfl
        · refine K_f rfl (decide_eq_false hx39) ?_
          refine K_gh ⟨[(5, (.one (.own 1 0 (0 + p1.length))))], [.cells [.d (.list (p2.map (D.int .i64))), .d (.int .i64 x2.2)], VI (([].drop 0).take 0 ++ p1)]⟩ (by kernel_rfl) ?_
          refine K_skip ?_
          cases H
          exact K_end rfl
    refine K_blk ?_
    refine K_seq ?_
    refine K_reg [] [] ⟨[(4, (.one (.own 1 0 x43.1)))], [.cells [.d (.list (p2.map (D.int .i64))), .d (.int .i64 x43.2.1)], VI x43.2.2]⟩ (by kernel_rfl) trivial ?_
    refine K_gh ⟨[(4, (.one (.own 1 0 x43.1)))], [.cells [.d (.list (p2.map (D.int .i64))), .d (.int .i64 x43.2.1)], VI x43.2.2]⟩ (by kernel_rfl) ?_
    cases H
    refine K_ret ?_
    exact Eq.trans (b := some ((.one (.d (.list (((x43.2.2.map (D.int .i64)).drop 0).take x43.1)))), [.cells [.d (.list (p2.map (D.int .i64))), .d (.int .i64 x43.2.1)]])) (by kernel_rfl) (by simp only [dt_map, LI, VI])
def T_ref04_Sample (k : Nat) (p1 : Int) : Option Unit := match k with
 | 0 => none
 | k + 1 => some ()
theorem T_ref04_Sample_ok (k : Nat) (p1 : Int) (r : Unit) : T_ref04_Sample k p1 = some r → evF X k n_ref04_Sample [(I p1)] [] = some ((B (decide ((-1000) ≤ p1) && decide (p1 ≤ 1000))), []) := by
 intro H
 cases k with
 | zero => simp [T_ref04_Sample] at H
 | succ k =>
  simp only [T_ref04_Sample] at H
  refine F_in X_ref04_Sample rfl ?_
  refine K_seq ?_
  refine K_reg [] [] ⟨[(0, (I p1))], []⟩ (by kernel_rfl) trivial ?_
  refine K_seq ?_
  refine K_reg [.m] [([] : Heap) = []] ⟨[(2, (B (decide ((-1000) ≤ p1) && decide (p1 ≤ 1000))))], []⟩ (by kernel_rfl) (A1 rfl) ?_
  refine K_gh ⟨[(2, (B (decide ((-1000) ≤ p1) && decide (p1 ≤ 1000))))], []⟩ (by kernel_rfl) ?_
  cases H
  refine K_ret ?_
  kernel_rfl
def T_ref12_Samples_l1 (k : Nat) (p1 : List Int) (x2 : Int) (x8 : Int) : Option (Int ⊕ (Unit ⊕ Unit)) :=
 (if x8 < x2 then ((at? p1 x8).bind fun x10 => (T_ref04_Sample k x10).bind fun x11 => (if (!(decide ((-1000) ≤ x10) && decide (x10 ≤ 1000))) = true then some (.inr (.inr ())) else some (.inl (w64 (x8 + 1))))) else some (.inr (.inl ())))
theorem T_ref12_Samples_l1_ok (k : Nat) (p1 : List Int) (x2 : Int) : ∀ (x8 : Int) (x : Int ⊕ (Unit ⊕ Unit)), T_ref12_Samples_l1 k p1 x2 x8 = some x → evC X (evF X k) k 0 l_ref12_Samples_1 ⟨[(0, (LI p1)), (5, (I x2)), (6, (I x8))], []⟩ = some (outS (fun (s : Int) => ⟨[(0, (LI p1)), (5, (I x2)), (6, (I s))], []⟩) (fun (r : Unit ⊕ Unit) => Sum.elim (fun y => (.exit 0, ⟨[], []⟩)) (fun y => (.ret, ⟨[(2, (I 12))], []⟩)) r) x) := by
 intro x8 x H
 unfold T_ref12_Samples_l1 at H
 refine K_in ?_
 refine K_seq ?_
 refine K_reg [] [] ⟨[(0, (LI p1)), (5, (I x2)), (6, (I x8)), (7, (B (decide (x8 < x2))))], []⟩ (by kernel_rfl) trivial ?_
 refine K_seq ?_
 rcases ite_some H with ⟨hx9, H⟩ | ⟨hx9, H⟩
 · refine K_t rfl (decide_eq_true hx9) ?_
   refine K_gh ⟨[(0, (LI p1)), (5, (I x2)), (6, (I x8))], []⟩ (by kernel_rfl) ?_
   refine K_skip ?_
   refine K_seq ?_
   refine K_block ?_
   refine K_seq ?_
   refine K_reg [] [] ⟨[(0, (LI p1)), (3, (I x8)), (5, (I x2)), (6, (I x8))], []⟩ (by kernel_rfl) trivial ?_
   refine K_seq ?_
   obtain ⟨x10, hx10, H⟩ := bind_some' H
   obtain ⟨x11, hx11, H⟩ := bind_some' H
   refine K_reg [.l [.int .i64 x10], .r (B (decide ((-1000) ≤ x10) && decide (x10 ≤ 1000))) []] [(0 : Int) ≤ x8 ∧ x8 < (((p1.map (D.int .i64))).length : Int), ((p1.map (D.int .i64)).getD x8.toNat (.int .i64 0)).cells = [.int .i64 x10], evF X k n_ref04_Sample [(I x10)] [] = some ((B (decide ((-1000) ≤ x10) && decide (x10 ≤ 1000))), [])] ⟨[(0, (LI p1)), (5, (I x2)), (6, (I x8)), (14, (B (!(decide ((-1000) ≤ x10) && decide (x10 ≤ 1000)))))], []⟩ (by kernel_rfl) (AC (at_ok hx10 (D.int .i64) (.int .i64 0)).1 (AC (at_ok hx10 (D.int .i64) (.int .i64 0)).2 (A1 (T_ref04_Sample_ok k x10 x11 hx11)))) ?_
   rcases ite_some H with ⟨hx12, H⟩ | ⟨hx12, H⟩
   · refine K_t rfl hx12 ?_
     refine K_seq ?_
     refine K_reg [] [] ⟨[(2, (I 12))], []⟩ (by kernel_rfl) trivial ?_
     refine K_gh ⟨[(2, (I 12))], []⟩ (by kernel_rfl) ?_
     cases H
     exact K_ret rfl
   · refine K_f rfl (Bool.eq_false_iff.2 hx12) ?_
     refine K_gh ⟨[(0, (LI p1)), (5, (I x2)), (6, (I x8))], []⟩ (by kernel_rfl) ?_
     refine K_skip ?_
     refine K_blk ?_
     refine K_reg [] [] ⟨[(0, (LI p1)), (5, (I x2)), (6, (I (w64 (x8 + 1))))], []⟩ (by kernel_rfl) trivial ?_
     cases H
     exact K_end rfl
 · refine K_f rfl (decide_eq_false hx9) ?_
   refine K_gh ⟨[], []⟩ (by kernel_rfl) ?_
   cases H
   exact K_exit0 rfl rfl
def T_ref12_Samples (k : Nat) (p1 : List Int) : Option Int := match k with
 | 0 => none
 | k + 1 => ((loopT (T_ref12_Samples_l1 k p1 (p1.length : Int)) k 0).bind fun x13 => (match x13 with | .inl x14 => some 0 | .inr x15 => some 12))
theorem T_ref12_Samples_ok (k : Nat) (p1 : List Int) (r : Int) : T_ref12_Samples k p1 = some r → evF X k n_ref12_Samples [(LI p1)] [] = some ((I r), []) := by
 intro H
 cases k with
 | zero => simp [T_ref12_Samples] at H
 | succ k =>
  simp only [T_ref12_Samples] at H
  refine F_in X_ref12_Samples rfl ?_
  refine K_seq ?_
  refine K_reg [] [] ⟨[(0, (LI p1))], []⟩ (by kernel_rfl) trivial ?_
  refine K_seq ?_
  refine K_seq ?_
  refine K_reg [.n p1.length] [((p1.map (D.int .i64))).length = p1.length] ⟨[(0, (LI p1)), (5, (I (p1.length : Int))), (6, (I 0))], []⟩ (by kernel_rfl) (A1 (List.length_map _)) ?_
  refine K_block ?_
  obtain ⟨x13, hx13, H⟩ := bind_some' H
  cases x13 with
  | inl x14 =>
   dsimp only at H
   refine K_loop ⟨[], []⟩ (loop_ok (fun (s : Int) => ⟨[(0, (LI p1)), (5, (I (p1.length : Int))), (6, (I s))], []⟩) (fun (r : Unit ⊕ Unit) => Sum.elim (fun y => (.exit 0, ⟨[], []⟩)) (fun y => (.ret, ⟨[(2, (I 12))], []⟩)) r) (fun r h => by cases r <;> cases h) (T_ref12_Samples_l1_ok k p1 (p1.length : Int)) k 0 (.inl x14) hx13) rfl ?_
   refine K_seq ?_
   refine K_reg [] [] ⟨[(2, (I 0))], []⟩ (by kernel_rfl) trivial ?_
   refine K_gh ⟨[(2, (I 0))], []⟩ (by kernel_rfl) ?_
   cases H
   refine K_ret ?_
   kernel_rfl
  | inr x15 =>
   dsimp only at H
   cases H
   refine K_loopr ⟨[(2, (I 12))], []⟩ (loop_ok (fun (s : Int) => ⟨[(0, (LI p1)), (5, (I (p1.length : Int))), (6, (I s))], []⟩) (fun (r : Unit ⊕ Unit) => Sum.elim (fun y => (.exit 0, ⟨[], []⟩)) (fun y => (.ret, ⟨[(2, (I 12))], []⟩)) r) (fun r h => by cases r <;> cases h) (T_ref12_Samples_l1_ok k p1 (p1.length : Int)) k 0 (.inr x15) hx13) ?_
   kernel_rfl
def T_ref12_Window (k : Nat) (p1 : List Int) : Option Int := match k with
 | 0 => none
 | k + 1 => (if (decide ((p1.length : Int) < 2) || decide (32 < (p1.length : Int))) = true then some 8 else ((T_ref12_Samples k p1).bind fun x2 => some x2))
theorem T_ref12_Window_ok (k : Nat) (p1 : List Int) (r : Int) : T_ref12_Window k p1 = some r → evF X k n_ref12_Window [(LI p1)] [] = some ((I r), []) := by
 intro H
 cases k with
 | zero => simp [T_ref12_Window] at H
 | succ k =>
  simp only [T_ref12_Window] at H
  refine F_in X_ref12_Window rfl ?_
  refine K_seq ?_
  refine K_reg [] [] ⟨[(0, (LI p1))], []⟩ (by kernel_rfl) trivial ?_
  refine K_seq ?_
  refine K_seq ?_
  refine K_reg [.n p1.length, .m, .n p1.length] [((p1.map (D.int .i64))).length = p1.length, decide ((p1.length : Int) < 2) = false → AllT [((p1.map (D.int .i64))).length = p1.length], ([] : Heap) = []] ⟨[(0, (LI p1)), (10, (B (decide ((p1.length : Int) < 2) || decide (32 < (p1.length : Int)))))], []⟩ (by kernel_rfl) (AC (List.length_map _) (AC (fun _ => (A1 (List.length_map _))) (A1 rfl))) ?_
  rcases ite_some H with ⟨hx1, H⟩ | ⟨hx1, H⟩
  · refine K_t rfl hx1 ?_
    refine K_seq ?_
    refine K_reg [] [] ⟨[(2, (I 8))], []⟩ (by kernel_rfl) trivial ?_
    refine K_gh ⟨[(2, (I 8))], []⟩ (by kernel_rfl) ?_
    cases H
    refine K_ret ?_
    kernel_rfl
  · refine K_f rfl (Bool.eq_false_iff.2 hx1) ?_
    refine K_gh ⟨[(0, (LI p1))], []⟩ (by kernel_rfl) ?_
    refine K_skip ?_
    refine K_seq ?_
    obtain ⟨x2, hx2, H⟩ := bind_some' H
    refine K_reg [.r (I x2) []] [evF X k n_ref12_Samples [(LI p1)] [] = some ((I x2), [])] ⟨[(2, (I x2))], []⟩ (by kernel_rfl) (A1 (T_ref12_Samples_ok k p1 x2 hx2)) ?_
    refine K_gh ⟨[(2, (I x2))], []⟩ (by kernel_rfl) ?_
    cases H
    refine K_ret ?_
    kernel_rfl
def T_ref20_ends_l1 (k : Nat) (p1 : List Int) (p2 : Int) (p3 : Int) (x6 : Int) (x12 : Int × Int × Int) : Option ((Int × Int × Int) ⊕ ((Int × Int))) :=
 (if x12.2.2 < x6 then (((if (decide ((w64 (x12.2.2 - p3)) ≤ p2) && decide ((w64 (p3 - x12.2.2)) ≤ p2)) = true then ((at? p1 x12.2.2).bind fun x15 => some ((imax x12.1 x15), (imin x12.2.1 x15))) else some (x12.1, x12.2.1))).bind fun x16 => some (.inl (x16.1, x16.2, (w64 (x12.2.2 + 1))))) else some (.inr (x12.1, x12.2.1)))
theorem T_ref20_ends_l1_ok (k : Nat) (p1 : List Int) (p2 : Int) (p3 : Int) (x6 : Int) : ∀ (x12 : Int × Int × Int) (x : (Int × Int × Int) ⊕ ((Int × Int))), T_ref20_ends_l1 k p1 p2 p3 x6 x12 = some x → evC X (evF X k) k 0 l_ref20_ends_1 ⟨[(0, (LI p1)), (1, (I p2)), (2, (I p3)), (8, (I x12.1)), (9, (I x12.2.1)), (12, (I x6)), (13, (I x12.2.2))], []⟩ = some (outS (fun (s : Int × Int × Int) => ⟨[(0, (LI p1)), (1, (I p2)), (2, (I p3)), (8, (I s.1)), (9, (I s.2.1)), (12, (I x6)), (13, (I s.2.2))], []⟩) (fun (r : (Int × Int)) => (.exit 0, ⟨[(8, (I r.1)), (9, (I r.2))], []⟩)) x) := by
 intro x12 x H
 unfold T_ref20_ends_l1 at H
 refine K_in ?_
 refine K_seq ?_
 refine K_reg [] [] ⟨[(0, (LI p1)), (1, (I p2)), (2, (I p3)), (8, (I x12.1)), (9, (I x12.2.1)), (12, (I x6)), (13, (I x12.2.2)), (14, (B (decide (x12.2.2 < x6))))], []⟩ (by kernel_rfl) trivial ?_
 refine K_seq ?_
 rcases ite_some H with ⟨hx13, H⟩ | ⟨hx13, H⟩
 · refine K_t rfl (decide_eq_true hx13) ?_
   refine K_gh ⟨[(0, (LI p1)), (1, (I p2)), (2, (I p3)), (8, (I x12.1)), (9, (I x12.2.1)), (12, (I x6)), (13, (I x12.2.2))], []⟩ (by kernel_rfl) ?_
   refine K_skip ?_
   refine K_seq ?_
   refine K_block ?_
   refine K_seq ?_
   refine K_reg [] [] ⟨[(0, (LI p1)), (1, (I p2)), (2, (I p3)), (8, (I x12.1)), (9, (I x12.2.1)), (10, (I x12.2.2)), (12, (I x6)), (13, (I x12.2.2))], []⟩ (by kernel_rfl) trivial ?_
   refine K_seq ?_
   refine K_reg [.m] [([] : Heap) = []] ⟨[(0, (LI p1)), (1, (I p2)), (2, (I p3)), (8, (I x12.1)), (9, (I x12.2.1)), (10, (I x12.2.2)), (12, (I x6)), (13, (I x12.2.2)), (27, (B (decide ((w64 (x12.2.2 - p3)) ≤ p2) && decide ((w64 (p3 - x12.2.2)) ≤ p2))))], []⟩ (by kernel_rfl) (A1 rfl) ?_
   obtain ⟨x16, hx16, H⟩ := bind_some' H
   refine K_of ⟨[(0, (LI p1)), (1, (I p2)), (2, (I p3)), (8, (I x16.1)), (9, (I x16.2)), (12, (I x6)), (13, (I x12.2.2))], []⟩ ?_ ?_
   · clear H; have H := hx16; clear hx16; refine K_in ?_
     rcases ite_some H with ⟨hx14, H⟩ | ⟨hx14, H⟩
     · refine K_t rfl hx14 ?_
       obtain ⟨x15, hx15, H⟩ := bind_some' H
       refine K_reg [.l [.int .i64 x15], .l [.int .i64 x15]] [(0 : Int) ≤ x12.2.2 ∧ x12.2.2 < (((p1.map (D.int .i64))).length : Int), ((p1.map (D.int .i64)).getD x12.2.2.toNat (.int .i64 0)).cells = [.int .i64 x15], (0 : Int) ≤ x12.2.2 ∧ x12.2.2 < (((p1.map (D.int .i64))).length : Int), ((p1.map (D.int .i64)).getD x12.2.2.toNat (.int .i64 0)).cells = [.int .i64 x15]] ⟨[(0, (LI p1)), (1, (I p2)), (2, (I p3)), (8, (I (imax x12.1 x15))), (9, (I (imin x12.2.1 x15))), (12, (I x6)), (13, (I x12.2.2))], []⟩ (by kernel_rfl) (AC (at_ok hx15 (D.int .i64) (.int .i64 0)).1 (AC (at_ok hx15 (D.int .i64) (.int .i64 0)).2 (AC (at_ok hx15 (D.int .i64) (.int .i64 0)).1 (A1 (at_ok hx15 (D.int .i64) (.int .i64 0)).2)))) ?_
       cases H
       exact K_end rfl
     · refine K_f rfl (Bool.eq_false_iff.2 hx14) ?_
       refine K_gh ⟨[(0, (LI p1)), (1, (I p2)), (2, (I p3)), (8, (I x12.1)), (9, (I x12.2.1)), (12, (I x6)), (13, (I x12.2.2))], []⟩ (by kernel_rfl) ?_
       refine K_skip ?_
       cases H
       exact K_end rfl
   refine K_blk ?_
   refine K_reg [] [] ⟨[(0, (LI p1)), (1, (I p2)), (2, (I p3)), (8, (I x16.1)), (9, (I x16.2)), (12, (I x6)), (13, (I (w64 (x12.2.2 + 1))))], []⟩ (by kernel_rfl) trivial ?_
   cases H
   exact K_end rfl
 · refine K_f rfl (decide_eq_false hx13) ?_
   refine K_gh ⟨[(8, (I x12.1)), (9, (I x12.2.1))], []⟩ (by kernel_rfl) ?_
   cases H
   exact K_exit0 rfl rfl
def T_ref20_ends (k : Nat) (p1 : List Int) (p2 : Int) (p3 : Int) : Option (Int × Int) := match k with
 | 0 => none
 | k + 1 => ((loopT (T_ref20_ends_l1 k p1 p2 p3 (p1.length : Int)) k ((-1000), 1000, 0)).bind fun x17 => some (x17.1, x17.2))
theorem T_ref20_ends_ok (k : Nat) (p1 : List Int) (p2 : Int) (p3 : Int) (r : Int × Int) : T_ref20_ends k p1 p2 p3 = some r → evF X k n_ref20_ends [(LI p1), (I p2), (I p3)] [] = some ((.tup [(false, [.d (.int .i64 r.1)]), (false, [.d (.int .i64 r.2)])]), []) := by
 intro H
 cases k with
 | zero => simp [T_ref20_ends] at H
 | succ k =>
  simp only [T_ref20_ends] at H
  refine F_in X_ref20_ends rfl ?_
  refine K_seq ?_
  refine K_reg [] [] ⟨[(0, (LI p1)), (1, (I p2)), (2, (I p3))], []⟩ (by kernel_rfl) trivial ?_
  refine K_seq ?_
  refine K_reg [] [] ⟨[(0, (LI p1)), (1, (I p2)), (2, (I p3)), (8, (I (-1000))), (9, (I 1000))], []⟩ (by kernel_rfl) trivial ?_
  refine K_seq ?_
  refine K_seq ?_
  refine K_reg [.n p1.length] [((p1.map (D.int .i64))).length = p1.length] ⟨[(0, (LI p1)), (1, (I p2)), (2, (I p3)), (8, (I (-1000))), (9, (I 1000)), (12, (I (p1.length : Int))), (13, (I 0))], []⟩ (by kernel_rfl) (A1 (List.length_map _)) ?_
  refine K_block ?_
  obtain ⟨x17, hx17, H⟩ := bind_some' H
  refine K_loop ⟨[(8, (I x17.1)), (9, (I x17.2))], []⟩ (loop_ok (fun (s : Int × Int × Int) => ⟨[(0, (LI p1)), (1, (I p2)), (2, (I p3)), (8, (I s.1)), (9, (I s.2.1)), (12, (I (p1.length : Int))), (13, (I s.2.2))], []⟩) (fun (r : (Int × Int)) => (.exit 0, ⟨[(8, (I r.1)), (9, (I r.2))], []⟩)) (fun r h => by cases h) (T_ref20_ends_l1_ok k p1 p2 p3 (p1.length : Int)) k ((-1000), 1000, 0) x17 hx17) rfl ?_
  refine K_seq ?_
  refine K_reg [] [] ⟨[(6, (I x17.1)), (7, (I x17.2))], []⟩ (by kernel_rfl) trivial ?_
  refine K_gh ⟨[(6, (I x17.1)), (7, (I x17.2))], []⟩ (by kernel_rfl) ?_
  cases H
  refine K_ret ?_
  kernel_rfl
def T_ref20_Of_l1 (k : Nat) (p1 : List Int) (p2 : Int) (p3 : Int) (x17 : Nat × Nat × Int × (List Int) × (List Int)) : Option ((Nat × Nat × Int × (List Int) × (List Int)) ⊕ ((Nat × Nat × (List Int) × (List Int)))) :=
 (if x17.2.2.1 < p3 then (T_ref20_ends k p1 p2 x17.2.2.1).bind fun x19 => (if x17.1 + 1 ≤ LIM then (if x17.2.1 + 1 ≤ LIM then some (.inl ((x17.1 + 1), (x17.2.1 + 1), (w64 (x17.2.2.1 + 1)), ((x17.2.2.2.1.drop 0).take x17.1 ++ ([x19.1] : List Int)), ((x17.2.2.2.2.drop 0).take x17.2.1 ++ ([x19.2] : List Int)))) else none) else none) else some (.inr (x17.1, x17.2.1, x17.2.2.2.1, x17.2.2.2.2)))
theorem T_ref20_Of_l1_ok (k : Nat) (p1 : List Int) (p2 : Int) (p3 : Int) : ∀ (x17 : Nat × Nat × Int × (List Int) × (List Int)) (x : (Nat × Nat × Int × (List Int) × (List Int)) ⊕ ((Nat × Nat × (List Int) × (List Int)))), T_ref20_Of_l1 k p1 p2 p3 x17 = some x → evC X (evF X k) k 0 l_ref20_Of_1 ⟨[(0, (LI p1)), (1, (I p2)), (2, (I p3)), (10, (.one (.own 0 0 x17.1))), (11, (.one (.own 1 0 x17.2.1))), (12, (I x17.2.2.1))], [VI x17.2.2.2.1, VI x17.2.2.2.2]⟩ = some (outS (fun (s : Nat × Nat × Int × (List Int) × (List Int)) => ⟨[(0, (LI p1)), (1, (I p2)), (2, (I p3)), (10, (.one (.own 0 0 s.1))), (11, (.one (.own 1 0 s.2.1))), (12, (I s.2.2.1))], [VI s.2.2.2.1, VI s.2.2.2.2]⟩) (fun (r : (Nat × Nat × (List Int) × (List Int))) => (.exit 0, ⟨[(10, (.one (.own 0 0 r.1))), (11, (.one (.own 1 0 r.2.1)))], [VI r.2.2.1, VI r.2.2.2]⟩)) x) := by
 intro x17 x H
 unfold T_ref20_Of_l1 at H
 refine K_in ?_
 refine K_seq ?_
 refine K_seq ?_
 refine K_reg [] [] ⟨[(0, (LI p1)), (1, (I p2)), (2, (I p3)), (10, (.one (.own 0 0 x17.1))), (11, (.one (.own 1 0 x17.2.1))), (12, (I x17.2.2.1)), (50, (B (decide (x17.2.2.1 < p3))))], [VI x17.2.2.2.1, VI x17.2.2.2.2]⟩ (by kernel_rfl) trivial ?_
 rcases ite_some H with ⟨hx18, H⟩ | ⟨hx18, H⟩
 · refine K_t rfl (decide_eq_true hx18) ?_
   refine K_gh ⟨[(0, (LI p1)), (1, (I p2)), (2, (I p3)), (10, (.one (.own 0 0 x17.1))), (11, (.one (.own 1 0 x17.2.1))), (12, (I x17.2.2.1))], [VI x17.2.2.2.1, VI x17.2.2.2.2]⟩ (by kernel_rfl) ?_
   refine K_skip ?_
   refine K_seq ?_
   refine K_block ?_
   refine K_seq ?_
   obtain ⟨x19, hx19, H⟩ := bind_some' H
   refine K_reg [.r (.tup [(false, [.d (.int .i64 x19.1)]), (false, [.d (.int .i64 x19.2)])]) []] [evF X k n_ref20_ends [(LI p1), (I p2), (I x17.2.2.1)] [] = some ((.tup [(false, [.d (.int .i64 x19.1)]), (false, [.d (.int .i64 x19.2)])]), [])] ⟨[(0, (LI p1)), (1, (I p2)), (2, (I p3)), (10, (.one (.own 0 0 x17.1))), (11, (.one (.own 1 0 x17.2.1))), (12, (I x17.2.2.1)), (13, (I x19.1)), (14, (I x19.2))], [VI x17.2.2.2.1, VI x17.2.2.2.2]⟩ (by kernel_rfl) (A1 (T_ref20_ends_ok k p1 p2 x17.2.2.1 x19 hx19)) ?_
   obtain ⟨hx20, H⟩ := guard_some H
   obtain ⟨hx21, H⟩ := guard_some H
   refine K_reg [.n 1, .l (((x17.2.2.2.1.drop 0).take x17.1 ++ ([x19.1] : List Int)).map (D.int .i64)), .n 1, .l (((x17.2.2.2.2.drop 0).take x17.2.1 ++ ([x19.2] : List Int)).map (D.int .i64))] [(List.all (([x19.1] : List Int).map (D.int .i64)) fun d => d.cells.length == (D.cells (.int .i64 0)).length) = true, x17.1 + 1 ≤ LIM, (([x19.1] : List Int).map (D.int .i64)).length = 1, ((x17.2.2.2.1.map (D.int .i64)).drop 0).take x17.1 ++ (([x19.1] : List Int).map (D.int .i64)) = ((x17.2.2.2.1.drop 0).take x17.1 ++ ([x19.1] : List Int)).map (D.int .i64), (List.all (([x19.2] : List Int).map (D.int .i64)) fun d => d.cells.length == (D.cells (.int .i64 0)).length) = true, x17.2.1 + 1 ≤ LIM, (([x19.2] : List Int).map (D.int .i64)).length = 1, ((x17.2.2.2.2.map (D.int .i64)).drop 0).take x17.2.1 ++ (([x19.2] : List Int).map (D.int .i64)) = ((x17.2.2.2.2.drop 0).take x17.2.1 ++ ([x19.2] : List Int)).map (D.int .i64)] ⟨[(0, (LI p1)), (1, (I p2)), (2, (I p3)), (10, (.one (.own 0 0 (x17.1 + 1)))), (11, (.one (.own 1 0 (x17.2.1 + 1)))), (12, (I x17.2.2.1))], [VI ((x17.2.2.2.1.drop 0).take x17.1 ++ ([x19.1] : List Int)), VI ((x17.2.2.2.2.drop 0).take x17.2.1 ++ ([x19.2] : List Int))]⟩ (by kernel_rfl) (AC (all_ok (D.int .i64) 1 ([x19.1] : List Int) (fun _ => rfl)) (AC hx20 (AC (by simp) (AC (ap_map (D.int .i64) x17.2.2.2.1 ([x19.1] : List Int) 0 x17.1) (AC (all_ok (D.int .i64) 1 ([x19.2] : List Int) (fun _ => rfl)) (AC hx21 (AC (by simp) (A1 (ap_map (D.int .i64) x17.2.2.2.2 ([x19.2] : List Int) 0 x17.2.1))))))))) ?_
   refine K_blk ?_
   refine K_reg [] [] ⟨[(0, (LI p1)), (1, (I p2)), (2, (I p3)), (10, (.one (.own 0 0 (x17.1 + 1)))), (11, (.one (.own 1 0 (x17.2.1 + 1)))), (12, (I (w64 (x17.2.2.1 + 1))))], [VI ((x17.2.2.2.1.drop 0).take x17.1 ++ ([x19.1] : List Int)), VI ((x17.2.2.2.2.drop 0).take x17.2.1 ++ ([x19.2] : List Int))]⟩ (by kernel_rfl) trivial ?_
   cases H
   exact K_end rfl
 · refine K_f rfl (decide_eq_false hx18) ?_
   refine K_gh ⟨[(10, (.one (.own 0 0 x17.1))), (11, (.one (.own 1 0 x17.2.1)))], [VI x17.2.2.2.1, VI x17.2.2.2.2]⟩ (by kernel_rfl) ?_
   cases H
   exact K_exit0 rfl rfl
def T_ref20_Of (k : Nat) (p1 : List Int) (p2 : Int) (p3 : Int) : Option ((List Int) × (List Int) × Int) := match k with
 | 0 => none
 | k + 1 => (if (decide (p2 < 0) || decide (32 < p2)) = true then some ([], [], 1) else ((T_ref12_Window k p1).bind fun x2 => (if (!decide (x2 = 0)) = true then some ([], [], x2) else (if (((decide (p3 < 2) || decide (32 < p3)) || decide (p2 < (w64 (p3 - (p1.length : Int))))) || decide (p2 < (w64 ((p1.length : Int) - p3)))) = true then some ([], [], 8) else ((loopT (T_ref20_Of_l1 k p1 p2 p3) k (0, 0, 0, [], [])).bind fun x22 => some (((x22.2.2.1.drop 0).take x22.1), ((x22.2.2.2.drop 0).take x22.2.1), 0))))))
theorem T_ref20_Of_ok (k : Nat) (p1 : List Int) (p2 : Int) (p3 : Int) (r : (List Int) × (List Int) × Int) : T_ref20_Of k p1 p2 p3 = some r → evF X k n_ref20_Of [(LI p1), (I p2), (I p3)] [] = some ((.tup [(false, [.d (.list (r.1.map (D.int .i64)))]), (false, [.d (.list (r.2.1.map (D.int .i64)))]), (false, [.d (.int .i64 r.2.2)])]), []) := by
 intro H
 cases k with
 | zero => simp [T_ref20_Of] at H
 | succ k =>
  simp only [T_ref20_Of] at H
  refine F_in X_ref20_Of rfl ?_
  refine K_seq ?_
  refine K_reg [] [] ⟨[(0, (LI p1)), (1, (I p2)), (2, (I p3))], []⟩ (by kernel_rfl) trivial ?_
  refine K_seq ?_
  refine K_seq ?_
  refine K_reg [.m] [([] : Heap) = []] ⟨[(0, (LI p1)), (1, (I p2)), (2, (I p3)), (20, (B (decide (p2 < 0) || decide (32 < p2))))], []⟩ (by kernel_rfl) (A1 rfl) ?_
  rcases ite_some H with ⟨hx1, H⟩ | ⟨hx1, H⟩
  · refine K_t rfl hx1 ?_
    refine K_seq ?_
    refine K_reg [] [] ⟨[(6, (.one (.nil))), (7, (.one (.nil))), (8, (I 1))], []⟩ (by kernel_rfl) trivial ?_
    refine K_gh ⟨[(6, (.one (.nil))), (7, (.one (.nil))), (8, (I 1))], []⟩ (by kernel_rfl) ?_
    cases H
    refine K_ret ?_
    kernel_rfl
  · refine K_f rfl (Bool.eq_false_iff.2 hx1) ?_
    refine K_gh ⟨[(0, (LI p1)), (1, (I p2)), (2, (I p3))], []⟩ (by kernel_rfl) ?_
    refine K_skip ?_
    refine K_seq ?_
    refine K_seq ?_
    obtain ⟨x2, hx2, H⟩ := bind_some' H
    refine K_reg [.r (I x2) []] [evF X k n_ref12_Window [(LI p1)] [] = some ((I x2), [])] ⟨[(0, (LI p1)), (1, (I p2)), (2, (I p3)), (9, (I x2))], []⟩ (by kernel_rfl) (A1 (T_ref12_Window_ok k p1 x2 hx2)) ?_
    refine K_seq ?_
    refine K_reg [] [] ⟨[(0, (LI p1)), (1, (I p2)), (2, (I p3)), (9, (I x2)), (24, (B (!decide (x2 = 0))))], []⟩ (by kernel_rfl) trivial ?_
    rcases ite_some H with ⟨hx3, H⟩ | ⟨hx3, H⟩
    · refine K_t rfl hx3 ?_
      refine K_seq ?_
      refine K_reg [] [] ⟨[(6, (.one (.nil))), (7, (.one (.nil))), (8, (I x2))], []⟩ (by kernel_rfl) trivial ?_
      refine K_gh ⟨[(6, (.one (.nil))), (7, (.one (.nil))), (8, (I x2))], []⟩ (by kernel_rfl) ?_
      cases H
      refine K_ret ?_
      kernel_rfl
    · refine K_f rfl (Bool.eq_false_iff.2 hx3) ?_
      refine K_gh ⟨[(0, (LI p1)), (1, (I p2)), (2, (I p3))], []⟩ (by kernel_rfl) ?_
      refine K_skip ?_
      refine K_seq ?_
      refine K_seq ?_
      refine K_reg [.m, .m, .n p1.length, .m, .n p1.length] [([] : Heap) = [], (decide (p3 < 2) || decide (32 < p3)) = false → AllT [((p1.map (D.int .i64))).length = p1.length], ([] : Heap) = [], ((decide (p3 < 2) || decide (32 < p3)) || decide (p2 < (w64 (p3 - (p1.length : Int))))) = false → AllT [((p1.map (D.int .i64))).length = p1.length], ([] : Heap) = []] ⟨[(0, (LI p1)), (1, (I p2)), (2, (I p3)), (47, (B (((decide (p3 < 2) || decide (32 < p3)) || decide (p2 < (w64 (p3 - (p1.length : Int))))) || decide (p2 < (w64 ((p1.length : Int) - p3))))))], []⟩ (by kernel_rfl) (AC rfl (AC (fun _ => (A1 (List.length_map _))) (AC rfl (AC (fun _ => (A1 (List.length_map _))) (A1 rfl))))) ?_
      rcases ite_some H with ⟨hx4, H⟩ | ⟨hx4, H⟩
      · refine K_t rfl hx4 ?_
        refine K_seq ?_
        refine K_reg [] [] ⟨[(6, (.one (.nil))), (7, (.one (.nil))), (8, (I 8))], []⟩ (by kernel_rfl) trivial ?_
        refine K_gh ⟨[(6, (.one (.nil))), (7, (.one (.nil))), (8, (I 8))], []⟩ (by kernel_rfl) ?_
        cases H
        refine K_ret ?_
        kernel_rfl
      · refine K_f rfl (Bool.eq_false_iff.2 hx4) ?_
        refine K_gh ⟨[(0, (LI p1)), (1, (I p2)), (2, (I p3))], []⟩ (by kernel_rfl) ?_
        refine K_skip ?_
        refine K_seq ?_
        refine K_reg [] [] ⟨[(0, (LI p1)), (1, (I p2)), (2, (I p3)), (10, (.one (.nil))), (11, (.one (.nil)))], []⟩ (by kernel_rfl) trivial ?_
        refine K_seq ?_
        refine K_seq ?_
        refine K_reg [] [] ⟨[(0, (LI p1)), (1, (I p2)), (2, (I p3)), (10, (.one (.nil))), (11, (.one (.nil))), (12, (I 0))], []⟩ (by kernel_rfl) trivial ?_
        refine K_block ?_
        refine K_gh ⟨[(0, (LI p1)), (1, (I p2)), (2, (I p3)), (10, (.one (.own 0 0 0))), (11, (.one (.own 1 0 0))), (12, (I 0))], [VI [], VI []]⟩ (by kernel_rfl) ?_
        obtain ⟨x22, hx22, H⟩ := bind_some' H
        refine K_loop ⟨[(10, (.one (.own 0 0 x22.1))), (11, (.one (.own 1 0 x22.2.1)))], [VI x22.2.2.1, VI x22.2.2.2]⟩ (loop_ok (fun (s : Nat × Nat × Int × (List Int) × (List Int)) => ⟨[(0, (LI p1)), (1, (I p2)), (2, (I p3)), (10, (.one (.own 0 0 s.1))), (11, (.one (.own 1 0 s.2.1))), (12, (I s.2.2.1))], [VI s.2.2.2.1, VI s.2.2.2.2]⟩) (fun (r : (Nat × Nat × (List Int) × (List Int))) => (.exit 0, ⟨[(10, (.one (.own 0 0 r.1))), (11, (.one (.own 1 0 r.2.1)))], [VI r.2.2.1, VI r.2.2.2]⟩)) (fun r h => by cases h) (T_ref20_Of_l1_ok k p1 p2 p3) k (0, 0, 0, [], []) x22 hx22) rfl ?_
        refine K_seq ?_
        refine K_reg [] [] ⟨[(6, (.one (.own 0 0 x22.1))), (7, (.one (.own 1 0 x22.2.1))), (8, (I 0))], [VI x22.2.2.1, VI x22.2.2.2]⟩ (by kernel_rfl) trivial ?_
        refine K_gh ⟨[(6, (.one (.own 0 0 x22.1))), (7, (.one (.own 1 0 x22.2.1))), (8, (I 0))], [VI x22.2.2.1, VI x22.2.2.2]⟩ (by kernel_rfl) ?_
        cases H
        refine K_ret ?_
        exact Eq.trans (b := some ((.tup [(false, [.d (.list (((x22.2.2.1.map (D.int .i64)).drop 0).take x22.1))]), (false, [.d (.list (((x22.2.2.2.map (D.int .i64)).drop 0).take x22.2.1))]), (false, [.d (.int .i64 0)])]), [])) (by kernel_rfl) (by simp only [dt_map, LI, VI])
def T_ref12_Two (k : Nat) (p1 : List Int) (p2 : List Int) (p3 : Int) : Option Int := match k with
 | 0 => none
 | k + 1 => (if (((decide ((p1.length : Int) < 2) || decide (32 < (p1.length : Int))) || decide ((p2.length : Int) < 2)) || decide (32 < (p2.length : Int))) = true then some 8 else ((((T_ref12_Samples k p1).bind fun x2 => (if (!decide (x2 = 0)) = true then some true else ((T_ref12_Samples k p2).bind fun x5 => some (!decide (x5 = 0)))))).bind fun x6 => (if x6 = true then some 12 else (if (decide (p3 < (w64 ((p1.length : Int) - (p2.length : Int)))) || decide (p3 < (w64 ((p2.length : Int) - (p1.length : Int))))) = true then some 8 else some 0))))
theorem T_ref12_Two_ok (k : Nat) (p1 : List Int) (p2 : List Int) (p3 : Int) (r : Int) : T_ref12_Two k p1 p2 p3 = some r → evF X k n_ref12_Two [(LI p1), (LI p2), (I p3)] [] = some ((I r), []) := by
 intro H
 cases k with
 | zero => simp [T_ref12_Two] at H
 | succ k =>
  simp only [T_ref12_Two] at H
  refine F_in X_ref12_Two rfl ?_
  refine K_seq ?_
  refine K_reg [] [] ⟨[(0, (LI p1)), (1, (LI p2)), (2, (I p3))], []⟩ (by kernel_rfl) trivial ?_
  refine K_seq ?_
  refine K_seq ?_
  refine K_reg [.n p1.length, .m, .n p1.length, .m, .n p2.length, .m, .n p2.length] [((p1.map (D.int .i64))).length = p1.length, decide ((p1.length : Int) < 2) = false → AllT [((p1.map (D.int .i64))).length = p1.length], ([] : Heap) = [], (decide ((p1.length : Int) < 2) || decide (32 < (p1.length : Int))) = false → AllT [((p2.map (D.int .i64))).length = p2.length], ([] : Heap) = [], ((decide ((p1.length : Int) < 2) || decide (32 < (p1.length : Int))) || decide ((p2.length : Int) < 2)) = false → AllT [((p2.map (D.int .i64))).length = p2.length], ([] : Heap) = []] ⟨[(0, (LI p1)), (1, (LI p2)), (2, (I p3)), (24, (B (((decide ((p1.length : Int) < 2) || decide (32 < (p1.length : Int))) || decide ((p2.length : Int) < 2)) || decide (32 < (p2.length : Int)))))], []⟩ (by kernel_rfl) (AC (List.length_map _) (AC (fun _ => (A1 (List.length_map _))) (AC rfl (AC (fun _ => (A1 (List.length_map _))) (AC rfl (AC (fun _ => (A1 (List.length_map _))) (A1 rfl))))))) ?_
  rcases ite_some H with ⟨hx1, H⟩ | ⟨hx1, H⟩
  · refine K_t rfl hx1 ?_
    refine K_seq ?_
    refine K_reg [] [] ⟨[(6, (I 8))], []⟩ (by kernel_rfl) trivial ?_
    refine K_gh ⟨[(6, (I 8))], []⟩ (by kernel_rfl) ?_
    cases H
    refine K_ret ?_
    kernel_rfl
  · refine K_f rfl (Bool.eq_false_iff.2 hx1) ?_
    refine K_gh ⟨[(0, (LI p1)), (1, (LI p2)), (2, (I p3))], []⟩ (by kernel_rfl) ?_
    refine K_skip ?_
    refine K_seq ?_
    refine K_seq ?_
    obtain ⟨x6, hx6, H⟩ := bind_some' H
    refine K_of ⟨[(0, (LI p1)), (1, (LI p2)), (2, (I p3)), (32, (B x6))], []⟩ ?_ ?_
    · clear H; have H := hx6; clear hx6; refine K_in ?_
      obtain ⟨x2, hx2, H⟩ := bind_some' H
      rcases ite_some H with ⟨hx4, H⟩ | ⟨hx4, H⟩
      · refine K_reg [.r (I x2) [], .b true] [evF X k n_ref12_Samples [(LI p1)] [] = some ((I x2), []), (!decide (x2 = 0)) = true] ⟨[(0, (LI p1)), (1, (LI p2)), (2, (I p3)), (32, (B true))], []⟩ (by kernel_rfl) (AC (T_ref12_Samples_ok k p1 x2 hx2) (A1 hx4)) ?_
        cases H
        exact K_end rfl
      · obtain ⟨x5, hx5, H⟩ := bind_some' H
        refine K_reg [.r (I x2) [], .b false, .r (I x5) []] [evF X k n_ref12_Samples [(LI p1)] [] = some ((I x2), []), (!decide (x2 = 0)) = false, evF X k n_ref12_Samples [(LI p2)] [] = some ((I x5), [])] ⟨[(0, (LI p1)), (1, (LI p2)), (2, (I p3)), (32, (B (!decide (x5 = 0))))], []⟩ (by kernel_rfl) (AC (T_ref12_Samples_ok k p1 x2 hx2) (AC (Bool.eq_false_iff.2 hx4) (A1 (T_ref12_Samples_ok k p2 x5 hx5)))) ?_
        cases H
        exact K_end rfl
    rcases ite_some H with ⟨hx7, H⟩ | ⟨hx7, H⟩
    · refine K_t rfl hx7 ?_
      refine K_seq ?_
      refine K_reg [] [] ⟨[(6, (I 12))], []⟩ (by kernel_rfl) trivial ?_
      refine K_gh ⟨[(6, (I 12))], []⟩ (by kernel_rfl) ?_
      cases H
      refine K_ret ?_
      kernel_rfl
    · refine K_f rfl (Bool.eq_false_iff.2 hx7) ?_
      refine K_gh ⟨[(0, (LI p1)), (1, (LI p2)), (2, (I p3))], []⟩ (by kernel_rfl) ?_
      refine K_skip ?_
      refine K_seq ?_
      refine K_seq ?_
      refine K_reg [.n p1.length, .n p2.length, .m, .n p2.length, .n p1.length] [((p1.map (D.int .i64))).length = p1.length, ((p2.map (D.int .i64))).length = p2.length, decide (p3 < (w64 ((p1.length : Int) - (p2.length : Int)))) = false → AllT [((p2.map (D.int .i64))).length = p2.length, ((p1.map (D.int .i64))).length = p1.length], ([] : Heap) = []] ⟨[(48, (B (decide (p3 < (w64 ((p1.length : Int) - (p2.length : Int)))) || decide (p3 < (w64 ((p2.length : Int) - (p1.length : Int)))))))], []⟩ (by kernel_rfl) (AC (List.length_map _) (AC (List.length_map _) (AC (fun _ => (AC (List.length_map _) (A1 (List.length_map _)))) (A1 rfl)))) ?_
      rcases ite_some H with ⟨hx8, H⟩ | ⟨hx8, H⟩
      · refine K_t rfl hx8 ?_
        refine K_seq ?_
        refine K_reg [] [] ⟨[(6, (I 8))], []⟩ (by kernel_rfl) trivial ?_
        refine K_gh ⟨[(6, (I 8))], []⟩ (by kernel_rfl) ?_
        cases H
        refine K_ret ?_
        kernel_rfl
      · refine K_f rfl (Bool.eq_false_iff.2 hx8) ?_
        refine K_gh ⟨[], []⟩ (by kernel_rfl) ?_
        refine K_skip ?_
        refine K_seq ?_
        refine K_reg [] [] ⟨[(6, (I 0))], []⟩ (by kernel_rfl) trivial ?_
        refine K_gh ⟨[(6, (I 0))], []⟩ (by kernel_rfl) ?_
        cases H
        refine K_ret ?_
        kernel_rfl
def T_ref14_Check (k : Nat) (p1 : List Int) (p2 : List Int) (p3 : Int) : Option Int := match k with
 | 0 => none
 | k + 1 => (if (decide (p3 < 0) || decide (32 < p3)) = true then some 1 else ((T_ref12_Two k p1 p2 p3).bind fun x2 => some x2))
theorem T_ref14_Check_ok (k : Nat) (p1 : List Int) (p2 : List Int) (p3 : Int) (r : Int) : T_ref14_Check k p1 p2 p3 = some r → evF X k n_ref14_Check [(LI p1), (LI p2), (I p3)] [] = some ((I r), []) := by
 intro H
 cases k with
 | zero => simp [T_ref14_Check] at H
 | succ k =>
  simp only [T_ref14_Check] at H
  refine F_in X_ref14_Check rfl ?_
  refine K_seq ?_
  refine K_reg [] [] ⟨[(0, (LI p1)), (1, (LI p2)), (2, (I p3))], []⟩ (by kernel_rfl) trivial ?_
  refine K_seq ?_
  refine K_seq ?_
  refine K_reg [.m] [([] : Heap) = []] ⟨[(0, (LI p1)), (1, (LI p2)), (2, (I p3)), (12, (B (decide (p3 < 0) || decide (32 < p3))))], []⟩ (by kernel_rfl) (A1 rfl) ?_
  rcases ite_some H with ⟨hx1, H⟩ | ⟨hx1, H⟩
  · refine K_t rfl hx1 ?_
    refine K_seq ?_
    refine K_reg [] [] ⟨[(6, (I 1))], []⟩ (by kernel_rfl) trivial ?_
    refine K_gh ⟨[(6, (I 1))], []⟩ (by kernel_rfl) ?_
    cases H
    refine K_ret ?_
    kernel_rfl
  · refine K_f rfl (Bool.eq_false_iff.2 hx1) ?_
    refine K_gh ⟨[(0, (LI p1)), (1, (LI p2)), (2, (I p3))], []⟩ (by kernel_rfl) ?_
    refine K_skip ?_
    refine K_seq ?_
    obtain ⟨x2, hx2, H⟩ := bind_some' H
    refine K_reg [.r (I x2) []] [evF X k n_ref12_Two [(LI p1), (LI p2), (I p3)] [] = some ((I x2), [])] ⟨[(6, (I x2))], []⟩ (by kernel_rfl) (A1 (T_ref12_Two_ok k p1 p2 p3 x2 hx2)) ?_
    refine K_gh ⟨[(6, (I x2))], []⟩ (by kernel_rfl) ?_
    cases H
    refine K_ret ?_
    kernel_rfl
def T_ref20_Passes (k : Nat) (p1 : Int) (p2 : Int) (p3 : Int) : Option Unit := match k with
 | 0 => none
 | k + 1 => some ()
theorem T_ref20_Passes_ok (k : Nat) (p1 : Int) (p2 : Int) (p3 : Int) (r : Unit) : T_ref20_Passes k p1 p2 p3 = some r → evF X k n_ref20_Passes [(I p1), (I p2), (I p3)] [] = some ((I (imax (imax 0 (w64 (p1 - p3))) (w64 (p2 - p1)))), []) := by
 intro H
 cases k with
 | zero => simp [T_ref20_Passes] at H
 | succ k =>
  simp only [T_ref20_Passes] at H
  refine F_in X_ref20_Passes rfl ?_
  refine K_seq ?_
  refine K_reg [] [] ⟨[(0, (I p1)), (1, (I p2)), (2, (I p3))], []⟩ (by kernel_rfl) trivial ?_
  refine K_seq ?_
  refine K_reg [] [] ⟨[(6, (I (imax (imax 0 (w64 (p1 - p3))) (w64 (p2 - p1)))))], []⟩ (by kernel_rfl) trivial ?_
  refine K_gh ⟨[(6, (I (imax (imax 0 (w64 (p1 - p3))) (w64 (p2 - p1)))))], []⟩ (by kernel_rfl) ?_
  cases H
  refine K_ret ?_
  kernel_rfl
def T_ref20_keogh_l1 (k : Nat) (p1 : List Int) (p2 : List Int) (p3 : Int) (x5 : Int) (x11 : Int × Int) : Option ((Int × Int) ⊕ Int) :=
 (if x11.2 < x5 then ((T_ref20_ends k p1 p3 x11.2).bind fun x13 => (at? p2 x11.2).bind fun x14 => (T_ref20_Passes k x14 x13.2 x13.1).bind fun x15 => some (.inl ((w64 (x11.1 + (w64 ((imax (imax 0 (w64 (x14 - x13.1))) (w64 (x13.2 - x14))) * (imax (imax 0 (w64 (x14 - x13.1))) (w64 (x13.2 - x14))))))), (w64 (x11.2 + 1))))) else some (.inr x11.1))
theorem T_ref20_keogh_l1_ok (k : Nat) (p1 : List Int) (p2 : List Int) (p3 : Int) (x5 : Int) : ∀ (x11 : Int × Int) (x : (Int × Int) ⊕ Int), T_ref20_keogh_l1 k p1 p2 p3 x5 x11 = some x → evC X (evF X k) k 0 l_ref20_keogh_1 ⟨[(0, (LI p1)), (1, (LI p2)), (2, (I p3)), (7, (I x11.1)), (13, (I x5)), (14, (I x11.2))], []⟩ = some (outS (fun (s : Int × Int) => ⟨[(0, (LI p1)), (1, (LI p2)), (2, (I p3)), (7, (I s.1)), (13, (I x5)), (14, (I s.2))], []⟩) (fun (r : Int) => (.exit 0, ⟨[(7, (I r))], []⟩)) x) := by
 intro x11 x H
 unfold T_ref20_keogh_l1 at H
 refine K_in ?_
 refine K_seq ?_
 refine K_reg [] [] ⟨[(0, (LI p1)), (1, (LI p2)), (2, (I p3)), (7, (I x11.1)), (13, (I x5)), (14, (I x11.2)), (15, (B (decide (x11.2 < x5))))], []⟩ (by kernel_rfl) trivial ?_
 refine K_seq ?_
 rcases ite_some H with ⟨hx12, H⟩ | ⟨hx12, H⟩
 · refine K_t rfl (decide_eq_true hx12) ?_
   refine K_gh ⟨[(0, (LI p1)), (1, (LI p2)), (2, (I p3)), (7, (I x11.1)), (13, (I x5)), (14, (I x11.2))], []⟩ (by kernel_rfl) ?_
   refine K_skip ?_
   refine K_seq ?_
   refine K_block ?_
   refine K_seq ?_
   refine K_reg [] [] ⟨[(0, (LI p1)), (1, (LI p2)), (2, (I p3)), (7, (I x11.1)), (8, (I x11.2)), (13, (I x5)), (14, (I x11.2))], []⟩ (by kernel_rfl) trivial ?_
   refine K_seq ?_
   obtain ⟨x13, hx13, H⟩ := bind_some' H
   refine K_reg [.r (.tup [(false, [.d (.int .i64 x13.1)]), (false, [.d (.int .i64 x13.2)])]) []] [evF X k n_ref20_ends [(LI p1), (I p3), (I x11.2)] [] = some ((.tup [(false, [.d (.int .i64 x13.1)]), (false, [.d (.int .i64 x13.2)])]), [])] ⟨[(0, (LI p1)), (1, (LI p2)), (2, (I p3)), (7, (I x11.1)), (8, (I x11.2)), (9, (I x13.1)), (10, (I x13.2)), (13, (I x5)), (14, (I x11.2))], []⟩ (by kernel_rfl) (A1 (T_ref20_ends_ok k p1 p3 x11.2 x13 hx13)) ?_
   refine K_seq ?_
   obtain ⟨x14, hx14, H⟩ := bind_some' H
   obtain ⟨x15, hx15, H⟩ := bind_some' H
   refine K_reg [.l [.int .i64 x14], .r (I (imax (imax 0 (w64 (x14 - x13.1))) (w64 (x13.2 - x14)))) []] [(0 : Int) ≤ x11.2 ∧ x11.2 < (((p2.map (D.int .i64))).length : Int), ((p2.map (D.int .i64)).getD x11.2.toNat (.int .i64 0)).cells = [.int .i64 x14], evF X k n_ref20_Passes [(I x14), (I x13.2), (I x13.1)] [] = some ((I (imax (imax 0 (w64 (x14 - x13.1))) (w64 (x13.2 - x14)))), [])] ⟨[(0, (LI p1)), (1, (LI p2)), (2, (I p3)), (7, (I x11.1)), (11, (I (imax (imax 0 (w64 (x14 - x13.1))) (w64 (x13.2 - x14))))), (13, (I x5)), (14, (I x11.2))], []⟩ (by kernel_rfl) (AC (at_ok hx14 (D.int .i64) (.int .i64 0)).1 (AC (at_ok hx14 (D.int .i64) (.int .i64 0)).2 (A1 (T_ref20_Passes_ok k x14 x13.2 x13.1 x15 hx15)))) ?_
   refine K_reg [] [] ⟨[(0, (LI p1)), (1, (LI p2)), (2, (I p3)), (7, (I (w64 (x11.1 + (w64 ((imax (imax 0 (w64 (x14 - x13.1))) (w64 (x13.2 - x14))) * (imax (imax 0 (w64 (x14 - x13.1))) (w64 (x13.2 - x14))))))))), (13, (I x5)), (14, (I x11.2))], []⟩ (by kernel_rfl) trivial ?_
   refine K_blk ?_
   refine K_reg [] [] ⟨[(0, (LI p1)), (1, (LI p2)), (2, (I p3)), (7, (I (w64 (x11.1 + (w64 ((imax (imax 0 (w64 (x14 - x13.1))) (w64 (x13.2 - x14))) * (imax (imax 0 (w64 (x14 - x13.1))) (w64 (x13.2 - x14))))))))), (13, (I x5)), (14, (I (w64 (x11.2 + 1))))], []⟩ (by kernel_rfl) trivial ?_
   cases H
   exact K_end rfl
 · refine K_f rfl (decide_eq_false hx12) ?_
   refine K_gh ⟨[(7, (I x11.1))], []⟩ (by kernel_rfl) ?_
   cases H
   exact K_exit0 rfl rfl
def T_ref20_keogh (k : Nat) (p1 : List Int) (p2 : List Int) (p3 : Int) : Option Int := match k with
 | 0 => none
 | k + 1 => ((loopT (T_ref20_keogh_l1 k p1 p2 p3 (p2.length : Int)) k (0, 0)).bind fun x16 => some x16)
theorem T_ref20_keogh_ok (k : Nat) (p1 : List Int) (p2 : List Int) (p3 : Int) (r : Int) : T_ref20_keogh k p1 p2 p3 = some r → evF X k n_ref20_keogh [(LI p1), (LI p2), (I p3)] [] = some ((I r), []) := by
 intro H
 cases k with
 | zero => simp [T_ref20_keogh] at H
 | succ k =>
  simp only [T_ref20_keogh] at H
  refine F_in X_ref20_keogh rfl ?_
  refine K_seq ?_
  refine K_reg [] [] ⟨[(0, (LI p1)), (1, (LI p2)), (2, (I p3))], []⟩ (by kernel_rfl) trivial ?_
  refine K_seq ?_
  refine K_reg [] [] ⟨[(0, (LI p1)), (1, (LI p2)), (2, (I p3)), (7, (I 0))], []⟩ (by kernel_rfl) trivial ?_
  refine K_seq ?_
  refine K_seq ?_
  refine K_reg [.n p2.length] [((p2.map (D.int .i64))).length = p2.length] ⟨[(0, (LI p1)), (1, (LI p2)), (2, (I p3)), (7, (I 0)), (13, (I (p2.length : Int))), (14, (I 0))], []⟩ (by kernel_rfl) (A1 (List.length_map _)) ?_
  refine K_block ?_
  obtain ⟨x16, hx16, H⟩ := bind_some' H
  refine K_loop ⟨[(7, (I x16))], []⟩ (loop_ok (fun (s : Int × Int) => ⟨[(0, (LI p1)), (1, (LI p2)), (2, (I p3)), (7, (I s.1)), (13, (I (p2.length : Int))), (14, (I s.2))], []⟩) (fun (r : Int) => (.exit 0, ⟨[(7, (I r))], []⟩)) (fun r h => by cases h) (T_ref20_keogh_l1_ok k p1 p2 p3 (p2.length : Int)) k (0, 0) x16 hx16) rfl ?_
  refine K_seq ?_
  refine K_reg [] [] ⟨[(6, (I x16))], []⟩ (by kernel_rfl) trivial ?_
  refine K_gh ⟨[(6, (I x16))], []⟩ (by kernel_rfl) ?_
  cases H
  refine K_ret ?_
  kernel_rfl
def T_ref20_Keogh (k : Nat) (p1 : List Int) (p2 : List Int) (p3 : Int) : Option (Int × Int) := match k with
 | 0 => none
 | k + 1 => ((T_ref14_Check k p1 p2 p3).bind fun x1 => (if (!decide (x1 = 0)) = true then some (0, x1) else ((T_ref20_keogh k p1 p2 p3).bind fun x3 => some (x3, 0))))
theorem T_ref20_Keogh_ok (k : Nat) (p1 : List Int) (p2 : List Int) (p3 : Int) (r : Int × Int) : T_ref20_Keogh k p1 p2 p3 = some r → evF X k n_ref20_Keogh [(LI p1), (LI p2), (I p3)] [] = some ((.tup [(false, [.d (.int .i64 r.1)]), (false, [.d (.int .i64 r.2)])]), []) := by
 intro H
 cases k with
 | zero => simp [T_ref20_Keogh] at H
 | succ k =>
  simp only [T_ref20_Keogh] at H
  refine F_in X_ref20_Keogh rfl ?_
  refine K_seq ?_
  refine K_reg [] [] ⟨[(0, (LI p1)), (1, (LI p2)), (2, (I p3))], []⟩ (by kernel_rfl) trivial ?_
  refine K_seq ?_
  refine K_seq ?_
  obtain ⟨x1, hx1, H⟩ := bind_some' H
  refine K_reg [.r (I x1) []] [evF X k n_ref14_Check [(LI p1), (LI p2), (I p3)] [] = some ((I x1), [])] ⟨[(0, (LI p1)), (1, (LI p2)), (2, (I p3)), (8, (I x1))], []⟩ (by kernel_rfl) (A1 (T_ref14_Check_ok k p1 p2 p3 x1 hx1)) ?_
  refine K_seq ?_
  refine K_reg [] [] ⟨[(0, (LI p1)), (1, (LI p2)), (2, (I p3)), (8, (I x1)), (14, (B (!decide (x1 = 0))))], []⟩ (by kernel_rfl) trivial ?_
  rcases ite_some H with ⟨hx2, H⟩ | ⟨hx2, H⟩
  · refine K_t rfl hx2 ?_
    refine K_seq ?_
    refine K_reg [] [] ⟨[(6, (I 0)), (7, (I x1))], []⟩ (by kernel_rfl) trivial ?_
    refine K_gh ⟨[(6, (I 0)), (7, (I x1))], []⟩ (by kernel_rfl) ?_
    cases H
    refine K_ret ?_
    kernel_rfl
  · refine K_f rfl (Bool.eq_false_iff.2 hx2) ?_
    refine K_gh ⟨[(0, (LI p1)), (1, (LI p2)), (2, (I p3))], []⟩ (by kernel_rfl) ?_
    refine K_skip ?_
    refine K_seq ?_
    obtain ⟨x3, hx3, H⟩ := bind_some' H
    refine K_reg [.r (I x3) []] [evF X k n_ref20_keogh [(LI p1), (LI p2), (I p3)] [] = some ((I x3), [])] ⟨[(6, (I x3)), (7, (I 0))], []⟩ (by kernel_rfl) (A1 (T_ref20_keogh_ok k p1 p2 p3 x3 hx3)) ?_
    refine K_gh ⟨[(6, (I x3)), (7, (I 0))], []⟩ (by kernel_rfl) ?_
    cases H
    refine K_ret ?_
    kernel_rfl
def T_envelope_Improved_l1 (k : Nat) (p1 : List Int) (p2 : List Int) (p3 : Int) (x8 : Nat) (x10 : Int) (x12 : List Int) (x13 : List Int) (x20 : Int × (List Int)) : Option ((Int × (List Int)) ⊕ (((List Int)))) :=
 (if x20.1 < x10 then (at? p2 x20.1).bind fun x22 => (at? x13 x20.1).bind fun x23 => (at? x12 x20.1).bind fun x24 => (if (0 : Int) ≤ x20.1 ∧ x20.1 < ((x8 : Nat) : Int) then some (.inl ((w64 (x20.1 + 1)), (x20.2.set (0 + x20.1.toNat) (imin (imax x22 x23) x24)))) else none) else some (.inr x20.2))
theorem T_envelope_Improved_l1_ok (k : Nat) (p1 : List Int) (p2 : List Int) (p3 : Int) (x8 : Nat) (x10 : Int) (x12 : List Int) (x13 : List Int) : ∀ (x20 : Int × (List Int)) (x : (Int × (List Int)) ⊕ (((List Int)))), T_envelope_Improved_l1 k p1 p2 p3 x8 x10 x12 x13 x20 = some x → evC X (evF X k) k 0 l_envelope_Improved_1 ⟨[(0, (LI p1)), (1, (LI p2)), (2, (I p3)), (10, (.one (.ptr 0 0 0))), (11, (.one (.own 1 0 x8))), (32, (LI p2)), (33, (I x10)), (34, (I x20.1))], [.cells [.d (.list (x12.map (D.int .i64))), .d (.list (x13.map (D.int .i64)))], VI x20.2]⟩ = some (outS (fun (s : Int × (List Int)) => ⟨[(0, (LI p1)), (1, (LI p2)), (2, (I p3)), (10, (.one (.ptr 0 0 0))), (11, (.one (.own 1 0 x8))), (32, (LI p2)), (33, (I x10)), (34, (I s.1))], [.cells [.d (.list (x12.map (D.int .i64))), .d (.list (x13.map (D.int .i64)))], VI s.2]⟩) (fun (r : ((List Int))) => (.exit 0, ⟨[(0, (LI p1)), (1, (LI p2)), (2, (I p3)), (10, (.one (.ptr 0 0 0))), (11, (.one (.own 1 0 x8)))], [.cells [.d (.list (x12.map (D.int .i64))), .d (.list (x13.map (D.int .i64)))], VI r]⟩)) x) := by
 intro x20 x H
 unfold T_envelope_Improved_l1 at H
 refine K_in ?_
 refine K_seq ?_
 refine K_reg [] [] ⟨[(0, (LI p1)), (1, (LI p2)), (2, (I p3)), (10, (.one (.ptr 0 0 0))), (11, (.one (.own 1 0 x8))), (32, (LI p2)), (33, (I x10)), (34, (I x20.1)), (35, (B (decide (x20.1 < x10))))], [.cells [.d (.list (x12.map (D.int .i64))), .d (.list (x13.map (D.int .i64)))], VI x20.2]⟩ (by kernel_rfl) trivial ?_
 refine K_seq ?_
 rcases ite_some H with ⟨hx21, H⟩ | ⟨hx21, H⟩
 · refine K_t rfl (decide_eq_true hx21) ?_
   refine K_gh ⟨[(0, (LI p1)), (1, (LI p2)), (2, (I p3)), (10, (.one (.ptr 0 0 0))), (11, (.one (.own 1 0 x8))), (32, (LI p2)), (33, (I x10)), (34, (I x20.1))], [.cells [.d (.list (x12.map (D.int .i64))), .d (.list (x13.map (D.int .i64)))], VI x20.2]⟩ (by kernel_rfl) ?_
   refine K_skip ?_
   refine K_seq ?_
   refine K_block ?_
   refine K_seq ?_
   obtain ⟨x22, hx22, H⟩ := bind_some' H
   refine K_reg [.l [.int .i64 x22]] [(0 : Int) ≤ x20.1 ∧ x20.1 < (((p2.map (D.int .i64))).length : Int), ((p2.map (D.int .i64)).getD x20.1.toNat (.int .i64 0)).cells = [.int .i64 x22]] ⟨[(0, (LI p1)), (1, (LI p2)), (2, (I p3)), (10, (.one (.ptr 0 0 0))), (11, (.one (.own 1 0 x8))), (12, (I x20.1)), (13, (I x22)), (32, (LI p2)), (33, (I x10)), (34, (I x20.1))], [.cells [.d (.list (x12.map (D.int .i64))), .d (.list (x13.map (D.int .i64)))], VI x20.2]⟩ (by kernel_rfl) (AC (at_ok hx22 (D.int .i64) (.int .i64 0)).1 (A1 (at_ok hx22 (D.int .i64) (.int .i64 0)).2)) ?_
   obtain ⟨x23, hx23, H⟩ := bind_some' H
   obtain ⟨x24, hx24, H⟩ := bind_some' H
   obtain ⟨hx25, H⟩ := guard_some H
   refine K_reg [.l [.int .i64 x23], .l [.int .i64 x24], .l ((x20.2.set (0 + x20.1.toNat) (imin (imax x22 x23) x24)).map (D.int .i64))] [(0 : Int) ≤ x20.1 ∧ x20.1 < (((x13.map (D.int .i64))).length : Int), ((x13.map (D.int .i64)).getD x20.1.toNat (.int .i64 0)).cells = [.int .i64 x23], (0 : Int) ≤ x20.1 ∧ x20.1 < (((x12.map (D.int .i64))).length : Int), ((x12.map (D.int .i64)).getD x20.1.toNat (.int .i64 0)).cells = [.int .i64 x24], (0 : Int) ≤ x20.1 ∧ x20.1 < ((x8 : Nat) : Int), (x20.2.map (D.int .i64)).set (0 + x20.1.toNat) (elemOf (.int .i64 0) (splice ((x20.2.map (D.int .i64)).getD (0 + x20.1.toNat) (.int .i64 0)).cells 0 [.int .i64 (imin (imax x22 x23) x24)])) = (x20.2.set (0 + x20.1.toNat) (imin (imax x22 x23) x24)).map (D.int .i64)] ⟨[(0, (LI p1)), (1, (LI p2)), (2, (I p3)), (10, (.one (.ptr 0 0 0))), (11, (.one (.own 1 0 x8))), (32, (LI p2)), (33, (I x10)), (34, (I x20.1))], [.cells [.d (.list (x12.map (D.int .i64))), .d (.list (x13.map (D.int .i64)))], VI (x20.2.set (0 + x20.1.toNat) (imin (imax x22 x23) x24))]⟩ (by kernel_rfl) (AC (at_ok hx23 (D.int .i64) (.int .i64 0)).1 (AC (at_ok hx23 (D.int .i64) (.int .i64 0)).2 (AC (at_ok hx24 (D.int .i64) (.int .i64 0)).1 (AC (at_ok hx24 (D.int .i64) (.int .i64 0)).2 (AC hx25 (A1 (st_one x20.2 (0 + x20.1.toNat) (imin (imax x22 x23) x24) (D.int .i64) (.int .i64 0) rfl (fun _ => rfl) rfl))))))) ?_
   refine K_blk ?_
   refine K_reg [] [] ⟨[(0, (LI p1)), (1, (LI p2)), (2, (I p3)), (10, (.one (.ptr 0 0 0))), (11, (.one (.own 1 0 x8))), (32, (LI p2)), (33, (I x10)), (34, (I (w64 (x20.1 + 1))))], [.cells [.d (.list (x12.map (D.int .i64))), .d (.list (x13.map (D.int .i64)))], VI (x20.2.set (0 + x20.1.toNat) (imin (imax x22 x23) x24))]⟩ (by kernel_rfl) trivial ?_
   cases H
   exact K_end rfl
 · refine K_f rfl (decide_eq_false hx21) ?_
   refine K_gh ⟨[(0, (LI p1)), (1, (LI p2)), (2, (I p3)), (10, (.one (.ptr 0 0 0))), (11, (.one (.own 1 0 x8)))], [.cells [.d (.list (x12.map (D.int .i64))), .d (.list (x13.map (D.int .i64)))], VI x20.2]⟩ (by kernel_rfl) ?_
   cases H
   exact K_exit0 rfl rfl
def T_envelope_Improved (k : Nat) (p1 : List Int) (p2 : List Int) (p3 : Int) : Option (Int × Int) := match k with
 | 0 => none
 | k + 1 => ((T_warp_Distance k p1 p2 p3).bind fun x1 => (if (!decide (x1.2 = 0)) = true then some (0, x1.2) else (T_envelope_of k p1 p3 (p2.length : Int)).bind fun x3 => (if (0 : Int) ≤ (p2.length : Int) ∧ (p2.length : Int) ≤ (p2.length : Int) ∧ (p2.length : Int) ≤ (LIM : Int) then (loopT (T_envelope_Improved_l1 k p1 p2 p3 ((p2.length : Int).toNat) (p2.length : Int) x3.1 x3.2) k (0, (List.replicate (p2.length : Int).toNat (0 : Int)))).bind fun x26 => (T_envelope_squares k p2 x3.1 x3.2).bind fun x27 => (T_envelope_of k ((x26.drop 0).take ((p2.length : Int).toNat)) p3 (p1.length : Int)).bind fun x28 => (T_envelope_squares k p1 x28.1 x28.2).bind fun x29 => some ((w64 (x27 + x29)), 0) else none)))
theorem T_envelope_Improved_ok (k : Nat) (p1 : List Int) (p2 : List Int) (p3 : Int) (r : Int × Int) : T_envelope_Improved k p1 p2 p3 = some r → evF X k n_envelope_Improved [(LI p1), (LI p2), (I p3)] [] = some ((.tup [(false, [.d (.int .i64 r.1)]), (false, [.d (.int .i64 r.2)])]), []) := by
 intro H
 cases k with
 | zero => simp [T_envelope_Improved] at H
 | succ k =>
  simp only [T_envelope_Improved] at H
  refine F_in X_envelope_Improved rfl ?_
  refine K_seq ?_
  refine K_reg [] [] ⟨[(0, (LI p1)), (1, (LI p2)), (2, (I p3))], []⟩ (by kernel_rfl) trivial ?_
  refine K_seq ?_
  refine K_seq ?_
  obtain ⟨x1, hx1, H⟩ := bind_some' H
  refine K_reg [.r (.tup [(false, [.d (.int .i64 x1.1)]), (false, [.d (.int .i64 x1.2)])]) []] [evF X k n_warp_Distance [(LI p1), (LI p2), (I p3)] [] = some ((.tup [(false, [.d (.int .i64 x1.1)]), (false, [.d (.int .i64 x1.2)])]), [])] ⟨[(0, (LI p1)), (1, (LI p2)), (2, (I p3)), (9, (I x1.2))], []⟩ (by kernel_rfl) (A1 (T_warp_Distance_ok k p1 p2 p3 x1 hx1)) ?_
  refine K_seq ?_
  refine K_reg [] [] ⟨[(0, (LI p1)), (1, (LI p2)), (2, (I p3)), (9, (I x1.2)), (22, (B (!decide (x1.2 = 0))))], []⟩ (by kernel_rfl) trivial ?_
  rcases ite_some H with ⟨hx2, H⟩ | ⟨hx2, H⟩
  · refine K_t rfl hx2 ?_
    refine K_seq ?_
    refine K_reg [] [] ⟨[(6, (I 0)), (7, (I x1.2))], []⟩ (by kernel_rfl) trivial ?_
    refine K_gh ⟨[(6, (I 0)), (7, (I x1.2))], []⟩ (by kernel_rfl) ?_
    cases H
    refine K_ret ?_
    kernel_rfl
  · refine K_f rfl (Bool.eq_false_iff.2 hx2) ?_
    refine K_gh ⟨[(0, (LI p1)), (1, (LI p2)), (2, (I p3))], []⟩ (by kernel_rfl) ?_
    refine K_skip ?_
    refine K_seq ?_
    obtain ⟨x3, hx3, H⟩ := bind_some' H
    refine K_reg [.n p2.length, .r (.agg [.d (.list (x3.1.map (D.int .i64))), .d (.list (x3.2.map (D.int .i64)))]) []] [((p2.map (D.int .i64))).length = p2.length, evF X k n_envelope_of [(LI p1), (I p3), (I (p2.length : Int))] [] = some ((.agg [.d (.list (x3.1.map (D.int .i64))), .d (.list (x3.2.map (D.int .i64)))]), [])] ⟨[(0, (LI p1)), (1, (LI p2)), (2, (I p3)), (10, (.one (.ptr 0 0 0)))], [.cells [.d (.list (x3.1.map (D.int .i64))), .d (.list (x3.2.map (D.int .i64)))]]⟩ (by kernel_rfl) (AC (List.length_map _) (A1 (T_envelope_of_ok k p1 p3 (p2.length : Int) x3 hx3))) ?_
    refine K_seq ?_
    obtain ⟨hx4, H⟩ := guard_some H
    refine K_reg [.n p2.length, .l ((List.replicate (p2.length : Int).toNat (0 : Int)).map (D.int .i64))] [((p2.map (D.int .i64))).length = p2.length, (0 : Int) ≤ (p2.length : Int) ∧ (p2.length : Int) ≤ (p2.length : Int) ∧ (p2.length : Int) ≤ (LIM : Int), List.replicate (p2.length : Int).toNat (.int .i64 0) = (List.replicate (p2.length : Int).toNat (0 : Int)).map (D.int .i64)] ⟨[(0, (LI p1)), (1, (LI p2)), (2, (I p3)), (10, (.one (.ptr 0 0 0))), (11, (.one (.own 1 0 ((p2.length : Int).toNat))))], [.cells [.d (.list (x3.1.map (D.int .i64))), .d (.list (x3.2.map (D.int .i64)))], VI (List.replicate (p2.length : Int).toNat (0 : Int))]⟩ (by kernel_rfl) (AC (List.length_map _) (AC hx4 (A1 (rep_map (D.int .i64) _ (0 : Int))))) ?_
    refine K_seq ?_
    refine K_seq ?_
    refine K_reg [.n p2.length] [((p2.map (D.int .i64))).length = p2.length] ⟨[(0, (LI p1)), (1, (LI p2)), (2, (I p3)), (10, (.one (.ptr 0 0 0))), (11, (.one (.own 1 0 ((p2.length : Int).toNat)))), (32, (LI p2)), (33, (I (p2.length : Int))), (34, (I 0))], [.cells [.d (.list (x3.1.map (D.int .i64))), .d (.list (x3.2.map (D.int .i64)))], VI (List.replicate (p2.length : Int).toNat (0 : Int))]⟩ (by kernel_rfl) (A1 (List.length_map _)) ?_
    refine K_block ?_
    obtain ⟨x26, hx26, H⟩ := bind_some' H
    refine K_loop ⟨[(0, (LI p1)), (1, (LI p2)), (2, (I p3)), (10, (.one (.ptr 0 0 0))), (11, (.one (.own 1 0 ((p2.length : Int).toNat))))], [.cells [.d (.list (x3.1.map (D.int .i64))), .d (.list (x3.2.map (D.int .i64)))], VI x26]⟩ (loop_ok (fun (s : Int × (List Int)) => ⟨[(0, (LI p1)), (1, (LI p2)), (2, (I p3)), (10, (.one (.ptr 0 0 0))), (11, (.one (.own 1 0 ((p2.length : Int).toNat)))), (32, (LI p2)), (33, (I (p2.length : Int))), (34, (I s.1))], [.cells [.d (.list (x3.1.map (D.int .i64))), .d (.list (x3.2.map (D.int .i64)))], VI s.2]⟩) (fun (r : ((List Int))) => (.exit 0, ⟨[(0, (LI p1)), (1, (LI p2)), (2, (I p3)), (10, (.one (.ptr 0 0 0))), (11, (.one (.own 1 0 ((p2.length : Int).toNat))))], [.cells [.d (.list (x3.1.map (D.int .i64))), .d (.list (x3.2.map (D.int .i64)))], VI r]⟩)) (fun r h => by cases h) (T_envelope_Improved_l1_ok k p1 p2 p3 ((p2.length : Int).toNat) (p2.length : Int) x3.1 x3.2) k (0, (List.replicate (p2.length : Int).toNat (0 : Int))) x26 hx26) rfl ?_
    refine K_seq ?_
    refine K_gh ⟨[(0, (LI p1)), (1, (LI p2)), (2, (I p3)), (10, (.one (.ptr 0 0 0))), (11, (.one (.d (.list (((x26.map (D.int .i64)).drop 0).take ((p2.length : Int).toNat))))))], [.cells [.d (.list (x3.1.map (D.int .i64))), .d (.list (x3.2.map (D.int .i64)))]]⟩ (by kernel_rfl) ?_
    refine K_conv (σ' := ⟨[(0, (LI p1)), (1, (LI p2)), (2, (I p3)), (10, (.one (.ptr 0 0 0))), (11, (LI ((x26.drop 0).take ((p2.length : Int).toNat))))], [.cells [.d (.list (x3.1.map (D.int .i64))), .d (.list (x3.2.map (D.int .i64)))]]⟩) (by simp only [dt_map, LI, VI]) ?_
    obtain ⟨x27, hx27, H⟩ := bind_some' H
    obtain ⟨x28, hx28, H⟩ := bind_some' H
    obtain ⟨x29, hx29, H⟩ := bind_some' H
    refine K_reg [.r (I x27) [], .n p1.length, .r (.agg [.d (.list (x28.1.map (D.int .i64))), .d (.list (x28.2.map (D.int .i64)))]) [], .r (I x29) []] [evF X k n_envelope_squares [(LI p2), (.agg [.d (.list (x3.1.map (D.int .i64))), .d (.list (x3.2.map (D.int .i64)))])] [] = some ((I x27), []), ((p1.map (D.int .i64))).length = p1.length, evF X k n_envelope_of [(LI ((x26.drop 0).take ((p2.length : Int).toNat))), (I p3), (I (p1.length : Int))] [] = some ((.agg [.d (.list (x28.1.map (D.int .i64))), .d (.list (x28.2.map (D.int .i64)))]), []), evF X k n_envelope_squares [(LI p1), (.agg [.d (.list (x28.1.map (D.int .i64))), .d (.list (x28.2.map (D.int .i64)))])] [] = some ((I x29), [])] ⟨[(6, (I (w64 (x27 + x29)))), (7, (I 0))], []⟩ (by kernel_rfl) (AC (T_envelope_squares_ok k p2 x3.1 x3.2 x27 hx27) (AC (List.length_map _) (AC (T_envelope_of_ok k ((x26.drop 0).take ((p2.length : Int).toNat)) p3 (p1.length : Int) x28 hx28) (A1 (T_envelope_squares_ok k p1 x28.1 x28.2 x29 hx29))))) ?_
    refine K_gh ⟨[(6, (I (w64 (x27 + x29)))), (7, (I 0))], []⟩ (by kernel_rfl) ?_
    cases H
    refine K_ret ?_
    kernel_rfl
def T_ref20_Improved_l1 (k : Nat) (p1 : List Int) (p2 : List Int) (p3 : Int) (x7 : Int) (x14 : Nat × Int × (List Int)) : Option ((Nat × Int × (List Int)) ⊕ ((Nat × (List Int)))) :=
 (if x14.2.1 < x7 then (T_ref20_ends k p1 p3 x14.2.1).bind fun x16 => (at? p2 x14.2.1).bind fun x17 => (if x14.1 + 1 ≤ LIM then some (.inl ((x14.1 + 1), (w64 (x14.2.1 + 1)), ((x14.2.2.drop 0).take x14.1 ++ ([(imax x16.2 (imin x16.1 x17))] : List Int)))) else none) else some (.inr (x14.1, x14.2.2)))
theorem T_ref20_Improved_l1_ok (k : Nat) (p1 : List Int) (p2 : List Int) (p3 : Int) (x7 : Int) : ∀ (x14 : Nat × Int × (List Int)) (x : (Nat × Int × (List Int)) ⊕ ((Nat × (List Int)))), T_ref20_Improved_l1 k p1 p2 p3 x7 x14 = some x → evC X (evF X k) k 0 l_ref20_Improved_1 ⟨[(0, (LI p1)), (1, (LI p2)), (2, (I p3)), (9, (.one (.own 0 0 x14.1))), (21, (I x7)), (22, (I x14.2.1))], [VI x14.2.2]⟩ = some (outS (fun (s : Nat × Int × (List Int)) => ⟨[(0, (LI p1)), (1, (LI p2)), (2, (I p3)), (9, (.one (.own 0 0 s.1))), (21, (I x7)), (22, (I s.2.1))], [VI s.2.2]⟩) (fun (r : (Nat × (List Int))) => (.exit 0, ⟨[(0, (LI p1)), (1, (LI p2)), (2, (I p3)), (9, (.one (.own 0 0 r.1)))], [VI r.2]⟩)) x) := by
 intro x14 x H
 unfold T_ref20_Improved_l1 at H
 refine K_in ?_
 refine K_seq ?_
 refine K_reg [] [] ⟨[(0, (LI p1)), (1, (LI p2)), (2, (I p3)), (9, (.one (.own 0 0 x14.1))), (21, (I x7)), (22, (I x14.2.1)), (23, (B (decide (x14.2.1 < x7))))], [VI x14.2.2]⟩ (by kernel_rfl) trivial ?_
 refine K_seq ?_
 rcases ite_some H with ⟨hx15, H⟩ | ⟨hx15, H⟩
 · refine K_t rfl (decide_eq_true hx15) ?_
   refine K_gh ⟨[(0, (LI p1)), (1, (LI p2)), (2, (I p3)), (9, (.one (.own 0 0 x14.1))), (21, (I x7)), (22, (I x14.2.1))], [VI x14.2.2]⟩ (by kernel_rfl) ?_
   refine K_skip ?_
   refine K_seq ?_
   refine K_block ?_
   refine K_seq ?_
   refine K_reg [] [] ⟨[(0, (LI p1)), (1, (LI p2)), (2, (I p3)), (9, (.one (.own 0 0 x14.1))), (10, (I x14.2.1)), (21, (I x7)), (22, (I x14.2.1))], [VI x14.2.2]⟩ (by kernel_rfl) trivial ?_
   refine K_seq ?_
   obtain ⟨x16, hx16, H⟩ := bind_some' H
   refine K_reg [.r (.tup [(false, [.d (.int .i64 x16.1)]), (false, [.d (.int .i64 x16.2)])]) []] [evF X k n_ref20_ends [(LI p1), (I p3), (I x14.2.1)] [] = some ((.tup [(false, [.d (.int .i64 x16.1)]), (false, [.d (.int .i64 x16.2)])]), [])] ⟨[(0, (LI p1)), (1, (LI p2)), (2, (I p3)), (9, (.one (.own 0 0 x14.1))), (10, (I x14.2.1)), (11, (I x16.1)), (12, (I x16.2)), (21, (I x7)), (22, (I x14.2.1))], [VI x14.2.2]⟩ (by kernel_rfl) (A1 (T_ref20_ends_ok k p1 p3 x14.2.1 x16 hx16)) ?_
   obtain ⟨x17, hx17, H⟩ := bind_some' H
   obtain ⟨hx18, H⟩ := guard_some H
   refine K_reg [.l [.int .i64 x17], .n 1, .l (((x14.2.2.drop 0).take x14.1 ++ ([(imax x16.2 (imin x16.1 x17))] : List Int)).map (D.int .i64))] [(0 : Int) ≤ x14.2.1 ∧ x14.2.1 < (((p2.map (D.int .i64))).length : Int), ((p2.map (D.int .i64)).getD x14.2.1.toNat (.int .i64 0)).cells = [.int .i64 x17], (List.all (([(imax x16.2 (imin x16.1 x17))] : List Int).map (D.int .i64)) fun d => d.cells.length == (D.cells (.int .i64 0)).length) = true, x14.1 + 1 ≤ LIM, (([(imax x16.2 (imin x16.1 x17))] : List Int).map (D.int .i64)).length = 1, ((x14.2.2.map (D.int .i64)).drop 0).take x14.1 ++ (([(imax x16.2 (imin x16.1 x17))] : List Int).map (D.int .i64)) = ((x14.2.2.drop 0).take x14.1 ++ ([(imax x16.2 (imin x16.1 x17))] : List Int)).map (D.int .i64)] ⟨[(0, (LI p1)), (1, (LI p2)), (2, (I p3)), (9, (.one (.own 0 0 (x14.1 + 1)))), (21, (I x7)), (22, (I x14.2.1))], [VI ((x14.2.2.drop 0).take x14.1 ++ ([(imax x16.2 (imin x16.1 x17))] : List Int))]⟩ (by kernel_rfl) (AC (at_ok hx17 (D.int .i64) (.int .i64 0)).1 (AC (at_ok hx17 (D.int .i64) (.int .i64 0)).2 (AC (all_ok (D.int .i64) 1 ([(imax x16.2 (imin x16.1 x17))] : List Int) (fun _ => rfl)) (AC hx18 (AC (by simp) (A1 (ap_map (D.int .i64) x14.2.2 ([(imax x16.2 (imin x16.1 x17))] : List Int) 0 x14.1))))))) ?_
   refine K_blk ?_
   refine K_reg [] [] ⟨[(0, (LI p1)), (1, (LI p2)), (2, (I p3)), (9, (.one (.own 0 0 (x14.1 + 1)))), (21, (I x7)), (22, (I (w64 (x14.2.1 + 1))))], [VI ((x14.2.2.drop 0).take x14.1 ++ ([(imax x16.2 (imin x16.1 x17))] : List Int))]⟩ (by kernel_rfl) trivial ?_
   cases H
   exact K_end rfl
 · refine K_f rfl (decide_eq_false hx15) ?_
   refine K_gh ⟨[(0, (LI p1)), (1, (LI p2)), (2, (I p3)), (9, (.one (.own 0 0 x14.1)))], [VI x14.2.2]⟩ (by kernel_rfl) ?_
   cases H
   exact K_exit0 rfl rfl
def T_ref20_Improved (k : Nat) (p1 : List Int) (p2 : List Int) (p3 : Int) : Option (Int × Int) := match k with
 | 0 => none
 | k + 1 => ((T_ref14_Check k p1 p2 p3).bind fun x1 => (if (!decide (x1 = 0)) = true then some (0, x1) else ((loopT (T_ref20_Improved_l1 k p1 p2 p3 (p2.length : Int)) k (0, 0, [])).bind fun x19 => (T_ref20_keogh k p1 p2 p3).bind fun x20 => (T_ref20_keogh k ((x19.2.drop 0).take x19.1) p1 p3).bind fun x21 => some ((w64 (x20 + x21)), 0))))
theorem T_ref20_Improved_ok (k : Nat) (p1 : List Int) (p2 : List Int) (p3 : Int) (r : Int × Int) : T_ref20_Improved k p1 p2 p3 = some r → evF X k n_ref20_Improved [(LI p1), (LI p2), (I p3)] [] = some ((.tup [(false, [.d (.int .i64 r.1)]), (false, [.d (.int .i64 r.2)])]), []) := by
 intro H
 cases k with
 | zero => simp [T_ref20_Improved] at H
 | succ k =>
  simp only [T_ref20_Improved] at H
  refine F_in X_ref20_Improved rfl ?_
  refine K_seq ?_
  refine K_reg [] [] ⟨[(0, (LI p1)), (1, (LI p2)), (2, (I p3))], []⟩ (by kernel_rfl) trivial ?_
  refine K_seq ?_
  refine K_seq ?_
  obtain ⟨x1, hx1, H⟩ := bind_some' H
  refine K_reg [.r (I x1) []] [evF X k n_ref14_Check [(LI p1), (LI p2), (I p3)] [] = some ((I x1), [])] ⟨[(0, (LI p1)), (1, (LI p2)), (2, (I p3)), (8, (I x1))], []⟩ (by kernel_rfl) (A1 (T_ref14_Check_ok k p1 p2 p3 x1 hx1)) ?_
  refine K_seq ?_
  refine K_reg [] [] ⟨[(0, (LI p1)), (1, (LI p2)), (2, (I p3)), (8, (I x1)), (18, (B (!decide (x1 = 0))))], []⟩ (by kernel_rfl) trivial ?_
  rcases ite_some H with ⟨hx2, H⟩ | ⟨hx2, H⟩
  · refine K_t rfl hx2 ?_
    refine K_seq ?_
    refine K_reg [] [] ⟨[(6, (I 0)), (7, (I x1))], []⟩ (by kernel_rfl) trivial ?_
    refine K_gh ⟨[(6, (I 0)), (7, (I x1))], []⟩ (by kernel_rfl) ?_
    cases H
    refine K_ret ?_
    kernel_rfl
  · refine K_f rfl (Bool.eq_false_iff.2 hx2) ?_
    refine K_gh ⟨[(0, (LI p1)), (1, (LI p2)), (2, (I p3))], []⟩ (by kernel_rfl) ?_
    refine K_skip ?_
    refine K_seq ?_
    refine K_reg [] [] ⟨[(0, (LI p1)), (1, (LI p2)), (2, (I p3)), (9, (.one (.nil)))], []⟩ (by kernel_rfl) trivial ?_
    refine K_seq ?_
    refine K_seq ?_
    refine K_reg [.n p2.length] [((p2.map (D.int .i64))).length = p2.length] ⟨[(0, (LI p1)), (1, (LI p2)), (2, (I p3)), (9, (.one (.nil))), (21, (I (p2.length : Int))), (22, (I 0))], []⟩ (by kernel_rfl) (A1 (List.length_map _)) ?_
    refine K_block ?_
    refine K_gh ⟨[(0, (LI p1)), (1, (LI p2)), (2, (I p3)), (9, (.one (.own 0 0 0))), (21, (I (p2.length : Int))), (22, (I 0))], [VI []]⟩ (by kernel_rfl) ?_
    obtain ⟨x19, hx19, H⟩ := bind_some' H
    refine K_loop ⟨[(0, (LI p1)), (1, (LI p2)), (2, (I p3)), (9, (.one (.own 0 0 x19.1)))], [VI x19.2]⟩ (loop_ok (fun (s : Nat × Int × (List Int)) => ⟨[(0, (LI p1)), (1, (LI p2)), (2, (I p3)), (9, (.one (.own 0 0 s.1))), (21, (I (p2.length : Int))), (22, (I s.2.1))], [VI s.2.2]⟩) (fun (r : (Nat × (List Int))) => (.exit 0, ⟨[(0, (LI p1)), (1, (LI p2)), (2, (I p3)), (9, (.one (.own 0 0 r.1)))], [VI r.2]⟩)) (fun r h => by cases h) (T_ref20_Improved_l1_ok k p1 p2 p3 (p2.length : Int)) k (0, 0, []) x19 hx19) rfl ?_
    refine K_seq ?_
    refine K_gh ⟨[(0, (LI p1)), (1, (LI p2)), (2, (I p3)), (9, (.one (.d (.list (((x19.2.map (D.int .i64)).drop 0).take x19.1)))))], []⟩ (by kernel_rfl) ?_
    refine K_conv (σ' := ⟨[(0, (LI p1)), (1, (LI p2)), (2, (I p3)), (9, (LI ((x19.2.drop 0).take x19.1)))], []⟩) (by simp only [dt_map, LI, VI]) ?_
    obtain ⟨x20, hx20, H⟩ := bind_some' H
    obtain ⟨x21, hx21, H⟩ := bind_some' H
    refine K_reg [.r (I x20) [], .r (I x21) []] [evF X k n_ref20_keogh [(LI p1), (LI p2), (I p3)] [] = some ((I x20), []), evF X k n_ref20_keogh [(LI ((x19.2.drop 0).take x19.1)), (LI p1), (I p3)] [] = some ((I x21), [])] ⟨[(6, (I (w64 (x20 + x21)))), (7, (I 0))], []⟩ (by kernel_rfl) (AC (T_ref20_keogh_ok k p1 p2 p3 x20 hx20) (A1 (T_ref20_keogh_ok k ((x19.2.drop 0).take x19.1) p1 p3 x21 hx21))) ?_
    refine K_gh ⟨[(6, (I (w64 (x20 + x21)))), (7, (I 0))], []⟩ (by kernel_rfl) ?_
    cases H
    refine K_ret ?_
    kernel_rfl
def T_ref18_Starts_l1 (k : Nat) (p1 : Int) (p2 : Int) (x11 : Nat × Int × (List Int)) : Option ((Nat × Int × (List Int)) ⊕ ((Nat × (List Int)))) :=
 (if x11.2.1 ≤ p2 then (if p2 ≠ 0 then (if x11.1 + 1 ≤ LIM then some (.inl ((x11.1 + 1), (w64 (x11.2.1 + 1)), ((x11.2.2.drop 0).take x11.1 ++ ([(w64 ((w64 (x11.2.1 * p1)).tdiv p2))] : List Int)))) else none) else none) else some (.inr (x11.1, x11.2.2)))
theorem T_ref18_Starts_l1_ok (k : Nat) (p1 : Int) (p2 : Int) : ∀ (x11 : Nat × Int × (List Int)) (x : (Nat × Int × (List Int)) ⊕ ((Nat × (List Int)))), T_ref18_Starts_l1 k p1 p2 x11 = some x → evC X (evF X k) k 0 l_ref18_Starts_1 ⟨[(0, (I p1)), (1, (I p2)), (6, (.one (.own 0 0 x11.1))), (7, (I x11.2.1))], [VI x11.2.2]⟩ = some (outS (fun (s : Nat × Int × (List Int)) => ⟨[(0, (I p1)), (1, (I p2)), (6, (.one (.own 0 0 s.1))), (7, (I s.2.1))], [VI s.2.2]⟩) (fun (r : (Nat × (List Int))) => (.exit 0, ⟨[(6, (.one (.own 0 0 r.1)))], [VI r.2]⟩)) x) := by
 intro x11 x H
 unfold T_ref18_Starts_l1 at H
 refine K_in ?_
 refine K_seq ?_
 refine K_seq ?_
 refine K_reg [] [] ⟨[(0, (I p1)), (1, (I p2)), (6, (.one (.own 0 0 x11.1))), (7, (I x11.2.1)), (27, (B (decide (x11.2.1 ≤ p2))))], [VI x11.2.2]⟩ (by kernel_rfl) trivial ?_
 rcases ite_some H with ⟨hx12, H⟩ | ⟨hx12, H⟩
 · refine K_t rfl (decide_eq_true hx12) ?_
   refine K_gh ⟨[(0, (I p1)), (1, (I p2)), (6, (.one (.own 0 0 x11.1))), (7, (I x11.2.1))], [VI x11.2.2]⟩ (by kernel_rfl) ?_
   refine K_skip ?_
   refine K_seq ?_
   refine K_block ?_
   obtain ⟨hx13, H⟩ := guard_some H
   obtain ⟨hx14, H⟩ := guard_some H
   refine K_reg [.n 1, .l (((x11.2.2.drop 0).take x11.1 ++ ([(w64 ((w64 (x11.2.1 * p1)).tdiv p2))] : List Int)).map (D.int .i64))] [p2 ≠ (0 : Int), (List.all (([(w64 ((w64 (x11.2.1 * p1)).tdiv p2))] : List Int).map (D.int .i64)) fun d => d.cells.length == (D.cells (.int .i64 0)).length) = true, x11.1 + 1 ≤ LIM, (([(w64 ((w64 (x11.2.1 * p1)).tdiv p2))] : List Int).map (D.int .i64)).length = 1, ((x11.2.2.map (D.int .i64)).drop 0).take x11.1 ++ (([(w64 ((w64 (x11.2.1 * p1)).tdiv p2))] : List Int).map (D.int .i64)) = ((x11.2.2.drop 0).take x11.1 ++ ([(w64 ((w64 (x11.2.1 * p1)).tdiv p2))] : List Int)).map (D.int .i64)] ⟨[(0, (I p1)), (1, (I p2)), (6, (.one (.own 0 0 (x11.1 + 1)))), (7, (I x11.2.1))], [VI ((x11.2.2.drop 0).take x11.1 ++ ([(w64 ((w64 (x11.2.1 * p1)).tdiv p2))] : List Int))]⟩ (by kernel_rfl) (AC hx13 (AC (all_ok (D.int .i64) 1 ([(w64 ((w64 (x11.2.1 * p1)).tdiv p2))] : List Int) (fun _ => rfl)) (AC hx14 (AC (by simp) (A1 (ap_map (D.int .i64) x11.2.2 ([(w64 ((w64 (x11.2.1 * p1)).tdiv p2))] : List Int) 0 x11.1)))))) ?_
   refine K_blk ?_
   refine K_reg [] [] ⟨[(0, (I p1)), (1, (I p2)), (6, (.one (.own 0 0 (x11.1 + 1)))), (7, (I (w64 (x11.2.1 + 1))))], [VI ((x11.2.2.drop 0).take x11.1 ++ ([(w64 ((w64 (x11.2.1 * p1)).tdiv p2))] : List Int))]⟩ (by kernel_rfl) trivial ?_
   cases H
   exact K_end rfl
 · refine K_f rfl (decide_eq_false hx12) ?_
   refine K_gh ⟨[(6, (.one (.own 0 0 x11.1)))], [VI x11.2.2]⟩ (by kernel_rfl) ?_
   cases H
   exact K_exit0 rfl rfl
def T_ref18_Starts (k : Nat) (p1 : Int) (p2 : Int) : Option ((List Int) × Int) := match k with
 | 0 => none
 | k + 1 => (if (decide (p1 < 2) || decide (32 < p1)) = true then some ([], 8) else (if ((decide (p2 < 1) || decide (8 < p2)) || decide (p1 < p2)) = true then some ([], 1) else ((loopT (T_ref18_Starts_l1 k p1 p2) k (0, 0, [])).bind fun x15 => some (((x15.2.drop 0).take x15.1), 0))))
theorem T_ref18_Starts_ok (k : Nat) (p1 : Int) (p2 : Int) (r : (List Int) × Int) : T_ref18_Starts k p1 p2 = some r → evF X k n_ref18_Starts [(I p1), (I p2)] [] = some ((.tup [(false, [.d (.list (r.1.map (D.int .i64)))]), (false, [.d (.int .i64 r.2)])]), []) := by
 intro H
 cases k with
 | zero => simp [T_ref18_Starts] at H
 | succ k =>
  simp only [T_ref18_Starts] at H
  refine F_in X_ref18_Starts rfl ?_
  refine K_seq ?_
  refine K_reg [] [] ⟨[(0, (I p1)), (1, (I p2))], []⟩ (by kernel_rfl) trivial ?_
  refine K_seq ?_
  refine K_seq ?_
  refine K_reg [.m] [([] : Heap) = []] ⟨[(0, (I p1)), (1, (I p2)), (13, (B (decide (p1 < 2) || decide (32 < p1))))], []⟩ (by kernel_rfl) (A1 rfl) ?_
  rcases ite_some H with ⟨hx1, H⟩ | ⟨hx1, H⟩
  · refine K_t rfl hx1 ?_
    refine K_seq ?_
    refine K_reg [] [] ⟨[(4, (.one (.nil))), (5, (I 8))], []⟩ (by kernel_rfl) trivial ?_
    refine K_gh ⟨[(4, (.one (.nil))), (5, (I 8))], []⟩ (by kernel_rfl) ?_
    cases H
    refine K_ret ?_
    kernel_rfl
  · refine K_f rfl (Bool.eq_false_iff.2 hx1) ?_
    refine K_gh ⟨[(0, (I p1)), (1, (I p2))], []⟩ (by kernel_rfl) ?_
    refine K_skip ?_
    refine K_seq ?_
    refine K_seq ?_
    refine K_reg [.m, .m] [([] : Heap) = [], ([] : Heap) = []] ⟨[(0, (I p1)), (1, (I p2)), (24, (B ((decide (p2 < 1) || decide (8 < p2)) || decide (p1 < p2))))], []⟩ (by kernel_rfl) (AC rfl (A1 rfl)) ?_
    rcases ite_some H with ⟨hx2, H⟩ | ⟨hx2, H⟩
    · refine K_t rfl hx2 ?_
      refine K_seq ?_
      refine K_reg [] [] ⟨[(4, (.one (.nil))), (5, (I 1))], []⟩ (by kernel_rfl) trivial ?_
      refine K_gh ⟨[(4, (.one (.nil))), (5, (I 1))], []⟩ (by kernel_rfl) ?_
      cases H
      refine K_ret ?_
      kernel_rfl
    · refine K_f rfl (Bool.eq_false_iff.2 hx2) ?_
      refine K_gh ⟨[(0, (I p1)), (1, (I p2))], []⟩ (by kernel_rfl) ?_
      refine K_skip ?_
      refine K_seq ?_
      refine K_reg [] [] ⟨[(0, (I p1)), (1, (I p2)), (6, (.one (.nil)))], []⟩ (by kernel_rfl) trivial ?_
      refine K_seq ?_
      refine K_seq ?_
      refine K_reg [] [] ⟨[(0, (I p1)), (1, (I p2)), (6, (.one (.nil))), (7, (I 0))], []⟩ (by kernel_rfl) trivial ?_
      refine K_block ?_
      refine K_gh ⟨[(0, (I p1)), (1, (I p2)), (6, (.one (.own 0 0 0))), (7, (I 0))], [VI []]⟩ (by kernel_rfl) ?_
      obtain ⟨x15, hx15, H⟩ := bind_some' H
      refine K_loop ⟨[(6, (.one (.own 0 0 x15.1)))], [VI x15.2]⟩ (loop_ok (fun (s : Nat × Int × (List Int)) => ⟨[(0, (I p1)), (1, (I p2)), (6, (.one (.own 0 0 s.1))), (7, (I s.2.1))], [VI s.2.2]⟩) (fun (r : (Nat × (List Int))) => (.exit 0, ⟨[(6, (.one (.own 0 0 r.1)))], [VI r.2]⟩)) (fun r h => by cases h) (T_ref18_Starts_l1_ok k p1 p2) k (0, 0, []) x15 hx15) rfl ?_
      refine K_seq ?_
      refine K_reg [] [] ⟨[(4, (.one (.own 0 0 x15.1))), (5, (I 0))], [VI x15.2]⟩ (by kernel_rfl) trivial ?_
      refine K_gh ⟨[(4, (.one (.own 0 0 x15.1))), (5, (I 0))], [VI x15.2]⟩ (by kernel_rfl) ?_
      cases H
      refine K_ret ?_
      exact Eq.trans (b := some ((.tup [(false, [.d (.list (((x15.2.map (D.int .i64)).drop 0).take x15.1))]), (false, [.d (.int .i64 0)])]), [])) (by kernel_rfl) (by simp only [dt_map, LI, VI])
def T_ref18_Fold_l1 (k : Nat) (p1 : List Int) (p2 : List Int) (x29 : Nat) (x30 : Int) (x33 : List Int) (x37 : Int × Int) : Option ((Int × Int) ⊕ Int) :=
 ((at? p2 x30).bind fun x38 => (if x37.2 < x38 then ((at? p1 x37.2).bind fun x40 => some (.inl ((w64 (x37.1 + x40)), (w64 (x37.2 + 1))))) else some (.inr x37.1)))
theorem T_ref18_Fold_l1_ok (k : Nat) (p1 : List Int) (p2 : List Int) (x29 : Nat) (x30 : Int) (x33 : List Int) : ∀ (x37 : Int × Int) (x : (Int × Int) ⊕ Int), T_ref18_Fold_l1 k p1 p2 x29 x30 x33 x37 = some x → evC X (evF X k) k 0 l_ref18_Fold_1 ⟨[(0, (LI p1)), (1, (LI p2)), (5, (.one (.own 0 0 x29))), (6, (I x30)), (7, (I x37.1)), (8, (I x37.2))], [VI x33]⟩ = some (outS (fun (s : Int × Int) => ⟨[(0, (LI p1)), (1, (LI p2)), (5, (.one (.own 0 0 x29))), (6, (I x30)), (7, (I s.1)), (8, (I s.2))], [VI x33]⟩) (fun (r : Int) => (.exit 2, ⟨[(0, (LI p1)), (1, (LI p2)), (5, (.one (.own 0 0 x29))), (6, (I x30)), (7, (I r))], [VI x33]⟩)) x) := by
 intro x37 x H
 unfold T_ref18_Fold_l1 at H
 refine K_in ?_
 refine K_seq ?_
 refine K_seq ?_
 obtain ⟨x38, hx38, H⟩ := bind_some' H
 refine K_reg [.l [.int .i64 x38]] [(0 : Int) ≤ x30 ∧ x30 < (((p2.map (D.int .i64))).length : Int), ((p2.map (D.int .i64)).getD x30.toNat (.int .i64 0)).cells = [.int .i64 x38]] ⟨[(0, (LI p1)), (1, (LI p2)), (5, (.one (.own 0 0 x29))), (6, (I x30)), (7, (I x37.1)), (8, (I x37.2)), (25, (B (decide (x37.2 < x38))))], [VI x33]⟩ (by kernel_rfl) (AC (at_ok hx38 (D.int .i64) (.int .i64 0)).1 (A1 (at_ok hx38 (D.int .i64) (.int .i64 0)).2)) ?_
 rcases ite_some H with ⟨hx39, H⟩ | ⟨hx39, H⟩
 · refine K_t rfl (decide_eq_true hx39) ?_
   refine K_gh ⟨[(0, (LI p1)), (1, (LI p2)), (5, (.one (.own 0 0 x29))), (6, (I x30)), (7, (I x37.1)), (8, (I x37.2))], [VI x33]⟩ (by kernel_rfl) ?_
   refine K_skip ?_
   refine K_seq ?_
   refine K_block ?_
   obtain ⟨x40, hx40, H⟩ := bind_some' H
   refine K_reg [.l [.int .i64 x40]] [(0 : Int) ≤ x37.2 ∧ x37.2 < (((p1.map (D.int .i64))).length : Int), ((p1.map (D.int .i64)).getD x37.2.toNat (.int .i64 0)).cells = [.int .i64 x40]] ⟨[(0, (LI p1)), (1, (LI p2)), (5, (.one (.own 0 0 x29))), (6, (I x30)), (7, (I (w64 (x37.1 + x40)))), (8, (I x37.2))], [VI x33]⟩ (by kernel_rfl) (AC (at_ok hx40 (D.int .i64) (.int .i64 0)).1 (A1 (at_ok hx40 (D.int .i64) (.int .i64 0)).2)) ?_
   refine K_blk ?_
   refine K_reg [] [] ⟨[(0, (LI p1)), (1, (LI p2)), (5, (.one (.own 0 0 x29))), (6, (I x30)), (7, (I (w64 (x37.1 + x40)))), (8, (I (w64 (x37.2 + 1))))], [VI x33]⟩ (by kernel_rfl) trivial ?_
   cases H
   exact K_end rfl
 · refine K_f rfl (decide_eq_false hx39) ?_
   refine K_gh ⟨[(0, (LI p1)), (1, (LI p2)), (5, (.one (.own 0 0 x29))), (6, (I x30)), (7, (I x37.1))], [VI x33]⟩ (by kernel_rfl) ?_
   cases H
   exact K_exit0 rfl rfl
def T_ref18_Fold_l2 (k : Nat) (p1 : List Int) (p2 : List Int) (x24 : Nat × Int × (List Int)) : Option ((Nat × Int × (List Int)) ⊕ ((Nat × (List Int)))) :=
 (if x24.2.1 < (p2.length : Int) then (at? p2 (w64 (x24.2.1 - 1))).bind fun x26 => (loopT (T_ref18_Fold_l1 k p1 p2 x24.1 x24.2.1 x24.2.2) k (0, x26)).bind fun x41 => (if x24.1 + 1 ≤ LIM then some (.inl ((x24.1 + 1), (w64 (x24.2.1 + 1)), ((x24.2.2.drop 0).take x24.1 ++ ([x41] : List Int)))) else none) else some (.inr (x24.1, x24.2.2)))
theorem T_ref18_Fold_l2_ok (k : Nat) (p1 : List Int) (p2 : List Int) : ∀ (x24 : Nat × Int × (List Int)) (x : (Nat × Int × (List Int)) ⊕ ((Nat × (List Int)))), T_ref18_Fold_l2 k p1 p2 x24 = some x → evC X (evF X k) k 0 l_ref18_Fold_2 ⟨[(0, (LI p1)), (1, (LI p2)), (5, (.one (.own 0 0 x24.1))), (6, (I x24.2.1))], [VI x24.2.2]⟩ = some (outS (fun (s : Nat × Int × (List Int)) => ⟨[(0, (LI p1)), (1, (LI p2)), (5, (.one (.own 0 0 s.1))), (6, (I s.2.1))], [VI s.2.2]⟩) (fun (r : (Nat × (List Int))) => (.exit 0, ⟨[(5, (.one (.own 0 0 r.1)))], [VI r.2]⟩)) x) := by
 intro x24 x H
 unfold T_ref18_Fold_l2 at H
 refine K_in ?_
 refine K_seq ?_
 refine K_seq ?_
 refine K_reg [.n p2.length] [((p2.map (D.int .i64))).length = p2.length] ⟨[(0, (LI p1)), (1, (LI p2)), (5, (.one (.own 0 0 x24.1))), (6, (I x24.2.1)), (12, (B (decide (x24.2.1 < (p2.length : Int)))))], [VI x24.2.2]⟩ (by kernel_rfl) (A1 (List.length_map _)) ?_
 rcases ite_some H with ⟨hx25, H⟩ | ⟨hx25, H⟩
 · refine K_t rfl (decide_eq_true hx25) ?_
   refine K_gh ⟨[(0, (LI p1)), (1, (LI p2)), (5, (.one (.own 0 0 x24.1))), (6, (I x24.2.1))], [VI x24.2.2]⟩ (by kernel_rfl) ?_
   refine K_skip ?_
   refine K_seq ?_
   refine K_block ?_
   refine K_seq ?_
   refine K_reg [] [] ⟨[(0, (LI p1)), (1, (LI p2)), (5, (.one (.own 0 0 x24.1))), (6, (I x24.2.1)), (7, (I 0))], [VI x24.2.2]⟩ (by kernel_rfl) trivial ?_
   refine K_seq ?_
   refine K_seq ?_
   obtain ⟨x26, hx26, H⟩ := bind_some' H
   refine K_reg [.l [.int .i64 x26]] [(0 : Int) ≤ (w64 (x24.2.1 - 1)) ∧ (w64 (x24.2.1 - 1)) < (((p2.map (D.int .i64))).length : Int), ((p2.map (D.int .i64)).getD (w64 (x24.2.1 - 1)).toNat (.int .i64 0)).cells = [.int .i64 x26]] ⟨[(0, (LI p1)), (1, (LI p2)), (5, (.one (.own 0 0 x24.1))), (6, (I x24.2.1)), (7, (I 0)), (8, (I x26))], [VI x24.2.2]⟩ (by kernel_rfl) (AC (at_ok hx26 (D.int .i64) (.int .i64 0)).1 (A1 (at_ok hx26 (D.int .i64) (.int .i64 0)).2)) ?_
   refine K_block ?_
   obtain ⟨x41, hx41, H⟩ := bind_some' H
   refine K_loop ⟨[(0, (LI p1)), (1, (LI p2)), (5, (.one (.own 0 0 x24.1))), (6, (I x24.2.1)), (7, (I x41))], [VI x24.2.2]⟩ (loop_ok (fun (s : Int × Int) => ⟨[(0, (LI p1)), (1, (LI p2)), (5, (.one (.own 0 0 x24.1))), (6, (I x24.2.1)), (7, (I s.1)), (8, (I s.2))], [VI x24.2.2]⟩) (fun (r : Int) => (.exit 2, ⟨[(0, (LI p1)), (1, (LI p2)), (5, (.one (.own 0 0 x24.1))), (6, (I x24.2.1)), (7, (I r))], [VI x24.2.2]⟩)) (fun r h => by cases h) (T_ref18_Fold_l1_ok k p1 p2 x24.1 x24.2.1 x24.2.2) k (0, x26) x41 hx41) rfl ?_
   obtain ⟨hx42, H⟩ := guard_some H
   refine K_reg [.n 1, .l (((x24.2.2.drop 0).take x24.1 ++ ([x41] : List Int)).map (D.int .i64))] [(List.all (([x41] : List Int).map (D.int .i64)) fun d => d.cells.length == (D.cells (.int .i64 0)).length) = true, x24.1 + 1 ≤ LIM, (([x41] : List Int).map (D.int .i64)).length = 1, ((x24.2.2.map (D.int .i64)).drop 0).take x24.1 ++ (([x41] : List Int).map (D.int .i64)) = ((x24.2.2.drop 0).take x24.1 ++ ([x41] : List Int)).map (D.int .i64)] ⟨[(0, (LI p1)), (1, (LI p2)), (5, (.one (.own 0 0 (x24.1 + 1)))), (6, (I x24.2.1))], [VI ((x24.2.2.drop 0).take x24.1 ++ ([x41] : List Int))]⟩ (by kernel_rfl) (AC (all_ok (D.int .i64) 1 ([x41] : List Int) (fun _ => rfl)) (AC hx42 (AC (by simp) (A1 (ap_map (D.int .i64) x24.2.2 ([x41] : List Int) 0 x24.1))))) ?_
   refine K_blk ?_
   refine K_reg [] [] ⟨[(0, (LI p1)), (1, (LI p2)), (5, (.one (.own 0 0 (x24.1 + 1)))), (6, (I (w64 (x24.2.1 + 1))))], [VI ((x24.2.2.drop 0).take x24.1 ++ ([x41] : List Int))]⟩ (by kernel_rfl) trivial ?_
   cases H
   exact K_end rfl
 · refine K_f rfl (decide_eq_false hx25) ?_
   refine K_gh ⟨[(5, (.one (.own 0 0 x24.1)))], [VI x24.2.2]⟩ (by kernel_rfl) ?_
   cases H
   exact K_exit0 rfl rfl
def T_ref18_Fold (k : Nat) (p1 : List Int) (p2 : List Int) : Option ((List Int)) := match k with
 | 0 => none
 | k + 1 => ((loopT (T_ref18_Fold_l2 k p1 p2) k (0, 1, [])).bind fun x43 => some ((x43.2.drop 0).take x43.1))
theorem T_ref18_Fold_ok (k : Nat) (p1 : List Int) (p2 : List Int) (r : (List Int)) : T_ref18_Fold k p1 p2 = some r → evF X k n_ref18_Fold [(LI p1), (LI p2)] [] = some ((LI r), []) := by
 intro H
 cases k with
 | zero => simp [T_ref18_Fold] at H
 | succ k =>
  simp only [T_ref18_Fold] at H
  refine F_in X_ref18_Fold rfl ?_
  refine K_seq ?_
  refine K_reg [] [] ⟨[(0, (LI p1)), (1, (LI p2))], []⟩ (by kernel_rfl) trivial ?_
  refine K_seq ?_
  refine K_reg [] [] ⟨[(0, (LI p1)), (1, (LI p2)), (5, (.one (.nil)))], []⟩ (by kernel_rfl) trivial ?_
  refine K_seq ?_
  refine K_seq ?_
  refine K_reg [] [] ⟨[(0, (LI p1)), (1, (LI p2)), (5, (.one (.nil))), (6, (I 1))], []⟩ (by kernel_rfl) trivial ?_
  refine K_block ?_
  refine K_gh ⟨[(0, (LI p1)), (1, (LI p2)), (5, (.one (.own 0 0 0))), (6, (I 1))], [VI []]⟩ (by kernel_rfl) ?_
  obtain ⟨x43, hx43, H⟩ := bind_some' H
  refine K_loop ⟨[(5, (.one (.own 0 0 x43.1)))], [VI x43.2]⟩ (loop_ok (fun (s : Nat × Int × (List Int)) => ⟨[(0, (LI p1)), (1, (LI p2)), (5, (.one (.own 0 0 s.1))), (6, (I s.2.1))], [VI s.2.2]⟩) (fun (r : (Nat × (List Int))) => (.exit 0, ⟨[(5, (.one (.own 0 0 r.1)))], [VI r.2]⟩)) (fun r h => by cases h) (T_ref18_Fold_l2_ok k p1 p2) k (0, 1, []) x43 hx43) rfl ?_
  refine K_seq ?_
  refine K_reg [] [] ⟨[(4, (.one (.own 0 0 x43.1)))], [VI x43.2]⟩ (by kernel_rfl) trivial ?_
  refine K_gh ⟨[(4, (.one (.own 0 0 x43.1)))], [VI x43.2]⟩ (by kernel_rfl) ?_
  cases H
  refine K_ret ?_
  exact Eq.trans (b := some ((.one (.d (.list (((x43.2.map (D.int .i64)).drop 0).take x43.1)))), [])) (by kernel_rfl) (by simp only [dt_map, LI, VI])
def T_ref01_common_l1 (k : Nat) (x5 : Int × Int) : Option ((Int × Int) ⊕ Int) :=
 (if 0 < x5.2 then (if x5.2 ≠ 0 then some (.inl (x5.2, (x5.1.tmod x5.2))) else none) else some (.inr x5.1))
theorem T_ref01_common_l1_ok (k : Nat) : ∀ (x5 : Int × Int) (x : (Int × Int) ⊕ Int), T_ref01_common_l1 k x5 = some x → evC X (evF X k) k 0 l_ref01_common_1 ⟨[(0, (I x5.1)), (1, (I x5.2))], []⟩ = some (outS (fun (s : Int × Int) => ⟨[(0, (I s.1)), (1, (I s.2))], []⟩) (fun (r : Int) => (.exit 0, ⟨[(0, (I r))], []⟩)) x) := by
 intro x5 x H
 unfold T_ref01_common_l1 at H
 refine K_in ?_
 refine K_seq ?_
 refine K_seq ?_
 refine K_reg [] [] ⟨[(0, (I x5.1)), (1, (I x5.2)), (6, (B (decide (0 < x5.2))))], []⟩ (by kernel_rfl) trivial ?_
 rcases ite_some H with ⟨hx6, H⟩ | ⟨hx6, H⟩
 · refine K_t rfl (decide_eq_true hx6) ?_
   refine K_gh ⟨[(0, (I x5.1)), (1, (I x5.2))], []⟩ (by kernel_rfl) ?_
   refine K_skip ?_
   refine K_block ?_
   obtain ⟨hx7, H⟩ := guard_some H
   refine K_reg [] [x5.2 ≠ (0 : Int)] ⟨[(0, (I x5.2)), (1, (I (x5.1.tmod x5.2)))], []⟩ (by kernel_rfl) (A1 hx7) ?_
   refine K_blk ?_
   cases H
   exact K_end rfl
 · refine K_f rfl (decide_eq_false hx6) ?_
   refine K_gh ⟨[(0, (I x5.1))], []⟩ (by kernel_rfl) ?_
   cases H
   exact K_exit0 rfl rfl
def T_ref01_common (k : Nat) (p1 : Int) (p2 : Int) : Option Int := match k with
 | 0 => none
 | k + 1 => ((loopT (T_ref01_common_l1 k) k (p1, p2)).bind fun x8 => some x8)
theorem T_ref01_common_ok (k : Nat) (p1 : Int) (p2 : Int) (r : Int) : T_ref01_common k p1 p2 = some r → evF X k n_ref01_common [(I p1), (I p2)] [] = some ((I r), []) := by
 intro H
 cases k with
 | zero => simp [T_ref01_common] at H
 | succ k =>
  simp only [T_ref01_common] at H
  refine F_in X_ref01_common rfl ?_
  refine K_seq ?_
  refine K_reg [] [] ⟨[(0, (I p1)), (1, (I p2))], []⟩ (by kernel_rfl) trivial ?_
  refine K_seq ?_
  refine K_block ?_
  obtain ⟨x8, hx8, H⟩ := bind_some' H
  refine K_loop ⟨[(0, (I x8))], []⟩ (loop_ok (fun (s : Int × Int) => ⟨[(0, (I s.1)), (1, (I s.2))], []⟩) (fun (r : Int) => (.exit 0, ⟨[(0, (I r))], []⟩)) (fun r h => by cases h) (T_ref01_common_l1_ok k) k (p1, p2) x8 hx8) rfl ?_
  refine K_seq ?_
  refine K_reg [] [] ⟨[(4, (I x8))], []⟩ (by kernel_rfl) trivial ?_
  refine K_gh ⟨[(4, (I x8))], []⟩ (by kernel_rfl) ?_
  cases H
  refine K_ret ?_
  kernel_rfl
def T_ref01_Valid (k : Nat) (p1 : Int) (p2 : Int) : Option Bool := match k with
 | 0 => none
 | k + 1 => (((if (((decide (0 ≤ p1) && decide (p1 ≤ 2305843009213693952)) && decide (1 ≤ p2)) && decide (p2 ≤ 1152921504606846976)) = true then ((T_ref01_common k p1 p2).bind fun x3 => some (decide (x3 = 1))) else some false)).bind fun x4 => some x4)
theorem T_ref01_Valid_ok (k : Nat) (p1 : Int) (p2 : Int) (r : Bool) : T_ref01_Valid k p1 p2 = some r → evF X k n_ref01_Valid [(.agg [.d (.int .i64 p1), .d (.int .i64 p2)])] [] = some ((B r), []) := by
 intro H
 cases k with
 | zero => simp [T_ref01_Valid] at H
 | succ k =>
  simp only [T_ref01_Valid] at H
  refine F_in X_ref01_Valid rfl ?_
  refine K_seq ?_
  refine K_reg [] [] ⟨[(1, (.one (.ptr 0 0 0)))], [.cells [.d (.int .i64 p1), .d (.int .i64 p2)]]⟩ (by kernel_rfl) trivial ?_
  refine K_seq ?_
  obtain ⟨x4, hx4, H⟩ := bind_some' H
  refine K_of ⟨[(2, (B x4))], []⟩ ?_ ?_
  · clear H; have H := hx4; clear hx4; refine K_in ?_
    rcases ite_some H with ⟨hx2, H⟩ | ⟨hx2, H⟩
    · obtain ⟨x3, hx3, H⟩ := bind_some' H
      refine K_reg [.m, .m, .m, .b true, .r (I x3) []] [([.cells [.d (.int .i64 p1), .d (.int .i64 p2)]] : Heap) = [.cells [.d (.int .i64 p1), .d (.int .i64 p2)]], ([.cells [.d (.int .i64 p1), .d (.int .i64 p2)]] : Heap) = [.cells [.d (.int .i64 p1), .d (.int .i64 p2)]], ([.cells [.d (.int .i64 p1), .d (.int .i64 p2)]] : Heap) = [.cells [.d (.int .i64 p1), .d (.int .i64 p2)]], (((decide (0 ≤ p1) && decide (p1 ≤ 2305843009213693952)) && decide (1 ≤ p2)) && decide (p2 ≤ 1152921504606846976)) = true, evF X k n_ref01_common [(I p1), (I p2)] [] = some ((I x3), [])] ⟨[(2, (B (decide (x3 = 1))))], []⟩ (by kernel_rfl) (AC rfl (AC rfl (AC rfl (AC hx2 (A1 (T_ref01_common_ok k p1 p2 x3 hx3)))))) ?_
      cases H
      exact K_end rfl
    · refine K_reg [.m, .m, .m, .b false] [([.cells [.d (.int .i64 p1), .d (.int .i64 p2)]] : Heap) = [.cells [.d (.int .i64 p1), .d (.int .i64 p2)]], ([.cells [.d (.int .i64 p1), .d (.int .i64 p2)]] : Heap) = [.cells [.d (.int .i64 p1), .d (.int .i64 p2)]], ([.cells [.d (.int .i64 p1), .d (.int .i64 p2)]] : Heap) = [.cells [.d (.int .i64 p1), .d (.int .i64 p2)]], (((decide (0 ≤ p1) && decide (p1 ≤ 2305843009213693952)) && decide (1 ≤ p2)) && decide (p2 ≤ 1152921504606846976)) = false] ⟨[(2, (B false))], []⟩ (by kernel_rfl) (AC rfl (AC rfl (AC rfl (A1 (Bool.eq_false_iff.2 hx2))))) ?_
      cases H
      exact K_end rfl
  refine K_gh ⟨[(2, (B x4))], []⟩ (by kernel_rfl) ?_
  cases H
  refine K_ret ?_
  kernel_rfl
def T_ref01_Make (k : Nat) (p1 : Int) (p2 : Int) : Option (Int × Int × Int) := match k with
 | 0 => none
 | k + 1 => (if (decide (p1 < 0) || decide (p2 < 1)) = true then some (0, 0, 1) else (T_ref01_common k p1 p2).bind fun x2 => (if x2 ≠ 0 then (T_ref01_Valid k (w64 (p1.tdiv x2)) (w64 (p2.tdiv x2))).bind fun x4 => (if (!x4) = true then some (0, 0, 1) else some ((w64 (p1.tdiv x2)), (w64 (p2.tdiv x2)), 0)) else none))
theorem T_ref01_Make_ok (k : Nat) (p1 : Int) (p2 : Int) (r : Int × Int × Int) : T_ref01_Make k p1 p2 = some r → evF X k n_ref01_Make [(I p1), (I p2)] [] = some ((.tup [(true, [.d (.int .i64 r.1), .d (.int .i64 r.2.1)]), (false, [.d (.int .i64 r.2.2)])]), []) := by
 intro H
 cases k with
 | zero => simp [T_ref01_Make] at H
 | succ k =>
  simp only [T_ref01_Make] at H
  refine F_in X_ref01_Make rfl ?_
  refine K_seq ?_
  refine K_reg [] [] ⟨[(0, (I p1)), (1, (I p2)), (4, (.one (.ptr 0 0 0)))], [.cells [.d (.int .i64 0), .d (.int .i64 0)]]⟩ (by kernel_rfl) trivial ?_
  refine K_seq ?_
  refine K_seq ?_
  refine K_reg [.m] [([.cells [.d (.int .i64 0), .d (.int .i64 0)]] : Heap) = [.cells [.d (.int .i64 0), .d (.int .i64 0)]]] ⟨[(0, (I p1)), (1, (I p2)), (4, (.one (.ptr 0 0 0))), (13, (B (decide (p1 < 0) || decide (p2 < 1))))], [.cells [.d (.int .i64 0), .d (.int .i64 0)]]⟩ (by kernel_rfl) (A1 rfl) ?_
  rcases ite_some H with ⟨hx1, H⟩ | ⟨hx1, H⟩
  · refine K_t rfl hx1 ?_
    refine K_seq ?_
    refine K_reg [] [] ⟨[(4, (.one (.ptr 0 0 0))), (5, (I 1))], [.cells [.d (.int .i64 0), .d (.int .i64 0)]]⟩ (by kernel_rfl) trivial ?_
    refine K_gh ⟨[(4, (.one (.ptr 0 0 0))), (5, (I 1))], [.cells [.d (.int .i64 0), .d (.int .i64 0)]]⟩ (by kernel_rfl) ?_
    cases H
    refine K_ret ?_
    kernel_rfl
  · refine K_f rfl (Bool.eq_false_iff.2 hx1) ?_
    refine K_gh ⟨[(0, (I p1)), (1, (I p2)), (4, (.one (.ptr 0 0 0)))], [.cells [.d (.int .i64 0), .d (.int .i64 0)]]⟩ (by kernel_rfl) ?_
    refine K_skip ?_
    refine K_seq ?_
    obtain ⟨x2, hx2, H⟩ := bind_some' H
    refine K_reg [.r (I x2) []] [evF X k n_ref01_common [(I p1), (I p2)] [] = some ((I x2), [])] ⟨[(0, (I p1)), (1, (I p2)), (4, (.one (.ptr 0 0 0))), (6, (I x2))], [.cells [.d (.int .i64 0), .d (.int .i64 0)]]⟩ (by kernel_rfl) (A1 (T_ref01_common_ok k p1 p2 x2 hx2)) ?_
    refine K_seq ?_
    obtain ⟨hx3, H⟩ := guard_some H
    refine K_reg [] [x2 ≠ (0 : Int), x2 ≠ (0 : Int)] ⟨[(4, (.one (.ptr 0 0 0))), (7, (.one (.ptr 1 0 0)))], [.cells [.d (.int .i64 0), .d (.int .i64 0)], .cells [.d (.int .i64 (w64 (p1.tdiv x2))), .d (.int .i64 (w64 (p2.tdiv x2)))]]⟩ (by kernel_rfl) (AC hx3 (A1 hx3)) ?_
    refine K_seq ?_
    refine K_seq ?_
    obtain ⟨x4, hx4, H⟩ := bind_some' H
    refine K_reg [.r (B x4) []] [evF X k n_ref01_Valid [(.agg [.d (.int .i64 (w64 (p1.tdiv x2))), .d (.int .i64 (w64 (p2.tdiv x2)))])] [] = some ((B x4), [])] ⟨[(4, (.one (.ptr 0 0 0))), (7, (.one (.ptr 1 0 0))), (27, (B (!x4)))], [.cells [.d (.int .i64 0), .d (.int .i64 0)], .cells [.d (.int .i64 (w64 (p1.tdiv x2))), .d (.int .i64 (w64 (p2.tdiv x2)))]]⟩ (by kernel_rfl) (A1 (T_ref01_Valid_ok k (w64 (p1.tdiv x2)) (w64 (p2.tdiv x2)) x4 hx4)) ?_
    rcases ite_some H with ⟨hx5, H⟩ | ⟨hx5, H⟩
    · refine K_t rfl hx5 ?_
      refine K_seq ?_
      refine K_reg [] [] ⟨[(4, (.one (.ptr 0 0 0))), (5, (I 1))], [.cells [.d (.int .i64 0), .d (.int .i64 0)]]⟩ (by kernel_rfl) trivial ?_
      refine K_gh ⟨[(4, (.one (.ptr 0 0 0))), (5, (I 1))], [.cells [.d (.int .i64 0), .d (.int .i64 0)]]⟩ (by kernel_rfl) ?_
      cases H
      refine K_ret ?_
      kernel_rfl
    · refine K_f rfl (Bool.eq_false_iff.2 hx5) ?_
      refine K_gh ⟨[(4, (.one (.ptr 0 0 0))), (7, (.one (.ptr 1 0 0)))], [.cells [.d (.int .i64 0), .d (.int .i64 0)], .cells [.d (.int .i64 (w64 (p1.tdiv x2))), .d (.int .i64 (w64 (p2.tdiv x2)))]]⟩ (by kernel_rfl) ?_
      refine K_skip ?_
      refine K_seq ?_
      refine K_reg [] [] ⟨[(4, (.one (.ptr 0 0 0))), (5, (I 0))], [.cells [.d (.int .i64 (w64 (p1.tdiv x2))), .d (.int .i64 (w64 (p2.tdiv x2)))]]⟩ (by kernel_rfl) trivial ?_
      refine K_gh ⟨[(4, (.one (.ptr 0 0 0))), (5, (I 0))], [.cells [.d (.int .i64 (w64 (p1.tdiv x2))), .d (.int .i64 (w64 (p2.tdiv x2)))]]⟩ (by kernel_rfl) ?_
      cases H
      refine K_ret ?_
      kernel_rfl
def T_ref18_Squares_l1 (k : Nat) (p1 : List Int) (p2 : List Int) (p3 : Int) (x6 : Int) (x8 : Int) (x17 : Int × Int) : Option ((Int × Int) ⊕ Int) :=
 (if x17.2 < x8 then (at? p1 x17.2).bind fun x19 => (at? p2 (w64 (x17.2 + 1))).bind fun x20 => (at? p2 x17.2).bind fun x21 => (if (w64 (x20 - x21)) ≠ 0 then some (.inl ((w64 (x17.1 + (w64 ((w64 (x19 * x19)) * (w64 ((w64 (x6 * (w64 (x6 + 1)))).tdiv (w64 (x20 - x21)))))))), (w64 (x17.2 + 1)))) else none) else some (.inr x17.1))
theorem T_ref18_Squares_l1_ok (k : Nat) (p1 : List Int) (p2 : List Int) (p3 : Int) (x6 : Int) (x8 : Int) : ∀ (x17 : Int × Int) (x : (Int × Int) ⊕ Int), T_ref18_Squares_l1 k p1 p2 p3 x6 x8 x17 = some x → evC X (evF X k) k 0 l_ref18_Squares_1 ⟨[(0, (LI p1)), (1, (LI p2)), (2, (I p3)), (6, (.one (.ptr 0 0 0))), (7, (I x6)), (8, (I x17.1)), (23, (I x8)), (24, (I x17.2))], [.cells [.d (.int .i64 0), .d (.int .i64 0)]]⟩ = some (outS (fun (s : Int × Int) => ⟨[(0, (LI p1)), (1, (LI p2)), (2, (I p3)), (6, (.one (.ptr 0 0 0))), (7, (I x6)), (8, (I s.1)), (23, (I x8)), (24, (I s.2))], [.cells [.d (.int .i64 0), .d (.int .i64 0)]]⟩) (fun (r : Int) => (.exit 0, ⟨[(2, (I p3)), (6, (.one (.ptr 0 0 0))), (7, (I x6)), (8, (I r))], [.cells [.d (.int .i64 0), .d (.int .i64 0)]]⟩)) x) := by
 intro x17 x H
 unfold T_ref18_Squares_l1 at H
 refine K_in ?_
 refine K_seq ?_
 refine K_reg [] [] ⟨[(0, (LI p1)), (1, (LI p2)), (2, (I p3)), (6, (.one (.ptr 0 0 0))), (7, (I x6)), (8, (I x17.1)), (23, (I x8)), (24, (I x17.2)), (25, (B (decide (x17.2 < x8))))], [.cells [.d (.int .i64 0), .d (.int .i64 0)]]⟩ (by kernel_rfl) trivial ?_
 refine K_seq ?_
 rcases ite_some H with ⟨hx18, H⟩ | ⟨hx18, H⟩
 · refine K_t rfl (decide_eq_true hx18) ?_
   refine K_gh ⟨[(0, (LI p1)), (1, (LI p2)), (2, (I p3)), (6, (.one (.ptr 0 0 0))), (7, (I x6)), (8, (I x17.1)), (23, (I x8)), (24, (I x17.2))], [.cells [.d (.int .i64 0), .d (.int .i64 0)]]⟩ (by kernel_rfl) ?_
   refine K_skip ?_
   refine K_seq ?_
   refine K_block ?_
   refine K_seq ?_
   refine K_reg [] [] ⟨[(0, (LI p1)), (1, (LI p2)), (2, (I p3)), (6, (.one (.ptr 0 0 0))), (7, (I x6)), (8, (I x17.1)), (9, (I x17.2)), (23, (I x8)), (24, (I x17.2))], [.cells [.d (.int .i64 0), .d (.int .i64 0)]]⟩ (by kernel_rfl) trivial ?_
   obtain ⟨x19, hx19, H⟩ := bind_some' H
   obtain ⟨x20, hx20, H⟩ := bind_some' H
   obtain ⟨x21, hx21, H⟩ := bind_some' H
   obtain ⟨hx22, H⟩ := guard_some H
   refine K_reg [.l [.int .i64 x19], .l [.int .i64 x19], .l [.int .i64 x20], .l [.int .i64 x21]] [(0 : Int) ≤ x17.2 ∧ x17.2 < (((p1.map (D.int .i64))).length : Int), ((p1.map (D.int .i64)).getD x17.2.toNat (.int .i64 0)).cells = [.int .i64 x19], (0 : Int) ≤ x17.2 ∧ x17.2 < (((p1.map (D.int .i64))).length : Int), ((p1.map (D.int .i64)).getD x17.2.toNat (.int .i64 0)).cells = [.int .i64 x19], (0 : Int) ≤ (w64 (x17.2 + 1)) ∧ (w64 (x17.2 + 1)) < (((p2.map (D.int .i64))).length : Int), ((p2.map (D.int .i64)).getD (w64 (x17.2 + 1)).toNat (.int .i64 0)).cells = [.int .i64 x20], (0 : Int) ≤ x17.2 ∧ x17.2 < (((p2.map (D.int .i64))).length : Int), ((p2.map (D.int .i64)).getD x17.2.toNat (.int .i64 0)).cells = [.int .i64 x21], (w64 (x20 - x21)) ≠ (0 : Int)] ⟨[(0, (LI p1)), (1, (LI p2)), (2, (I p3)), (6, (.one (.ptr 0 0 0))), (7, (I x6)), (8, (I (w64 (x17.1 + (w64 ((w64 (x19 * x19)) * (w64 ((w64 (x6 * (w64 (x6 + 1)))).tdiv (w64 (x20 - x21)))))))))), (23, (I x8)), (24, (I x17.2))], [.cells [.d (.int .i64 0), .d (.int .i64 0)]]⟩ (by kernel_rfl) (AC (at_ok hx19 (D.int .i64) (.int .i64 0)).1 (AC (at_ok hx19 (D.int .i64) (.int .i64 0)).2 (AC (at_ok hx19 (D.int .i64) (.int .i64 0)).1 (AC (at_ok hx19 (D.int .i64) (.int .i64 0)).2 (AC (at_ok hx20 (D.int .i64) (.int .i64 0)).1 (AC (at_ok hx20 (D.int .i64) (.int .i64 0)).2 (AC (at_ok hx21 (D.int .i64) (.int .i64 0)).1 (AC (at_ok hx21 (D.int .i64) (.int .i64 0)).2 (A1 hx22))))))))) ?_
   refine K_blk ?_
   refine K_reg [] [] ⟨[(0, (LI p1)), (1, (LI p2)), (2, (I p3)), (6, (.one (.ptr 0 0 0))), (7, (I x6)), (8, (I (w64 (x17.1 + (w64 ((w64 (x19 * x19)) * (w64 ((w64 (x6 * (w64 (x6 + 1)))).tdiv (w64 (x20 - x21)))))))))), (23, (I x8)), (24, (I (w64 (x17.2 + 1))))], [.cells [.d (.int .i64 0), .d (.int .i64 0)]]⟩ (by kernel_rfl) trivial ?_
   cases H
   exact K_end rfl
 · refine K_f rfl (decide_eq_false hx18) ?_
   refine K_gh ⟨[(2, (I p3)), (6, (.one (.ptr 0 0 0))), (7, (I x6)), (8, (I x17.1))], [.cells [.d (.int .i64 0), .d (.int .i64 0)]]⟩ (by kernel_rfl) ?_
   cases H
   exact K_exit0 rfl rfl
def T_ref18_Squares (k : Nat) (p1 : List Int) (p2 : List Int) (p3 : Int) : Option (Int × Int) := match k with
 | 0 => none
 | k + 1 => (at? p2 (w64 ((p2.length : Int) - 1))).bind fun x1 => (if (w64 ((p2.length : Int) - 1)) ≠ 0 then (loopT (T_ref18_Squares_l1 k p1 p2 p3 (w64 (x1.tdiv (w64 ((p2.length : Int) - 1)))) (p1.length : Int)) k (0, 0)).bind fun x23 => (T_ref01_Make k x23 (w64 ((w64 ((w64 (x1.tdiv (w64 ((p2.length : Int) - 1)))) * (w64 ((w64 (x1.tdiv (w64 ((p2.length : Int) - 1)))) + 1)))) * p3))).bind fun x24 => some (x24.1, x24.2.1) else none)
theorem T_ref18_Squares_ok (k : Nat) (p1 : List Int) (p2 : List Int) (p3 : Int) (r : Int × Int) : T_ref18_Squares k p1 p2 p3 = some r → evF X k n_ref18_Squares [(LI p1), (LI p2), (I p3)] [] = some ((.agg [.d (.int .i64 r.1), .d (.int .i64 r.2)]), []) := by
 intro H
 cases k with
 | zero => simp [T_ref18_Squares] at H
 | succ k =>
  simp only [T_ref18_Squares] at H
  refine F_in X_ref18_Squares rfl ?_
  refine K_seq ?_
  refine K_reg [] [] ⟨[(0, (LI p1)), (1, (LI p2)), (2, (I p3)), (6, (.one (.ptr 0 0 0)))], [.cells [.d (.int .i64 0), .d (.int .i64 0)]]⟩ (by kernel_rfl) trivial ?_
  refine K_seq ?_
  obtain ⟨x1, hx1, H⟩ := bind_some' H
  obtain ⟨hx2, H⟩ := guard_some H
  refine K_reg [.n p2.length, .l [.int .i64 x1], .n p2.length] [((p2.map (D.int .i64))).length = p2.length, (0 : Int) ≤ (w64 ((p2.length : Int) - 1)) ∧ (w64 ((p2.length : Int) - 1)) < (((p2.map (D.int .i64))).length : Int), ((p2.map (D.int .i64)).getD (w64 ((p2.length : Int) - 1)).toNat (.int .i64 0)).cells = [.int .i64 x1], ((p2.map (D.int .i64))).length = p2.length, (w64 ((p2.length : Int) - 1)) ≠ (0 : Int)] ⟨[(0, (LI p1)), (1, (LI p2)), (2, (I p3)), (6, (.one (.ptr 0 0 0))), (7, (I (w64 (x1.tdiv (w64 ((p2.length : Int) - 1))))))], [.cells [.d (.int .i64 0), .d (.int .i64 0)]]⟩ (by kernel_rfl) (AC (List.length_map _) (AC (at_ok hx1 (D.int .i64) (.int .i64 0)).1 (AC (at_ok hx1 (D.int .i64) (.int .i64 0)).2 (AC (List.length_map _) (A1 hx2))))) ?_
  refine K_seq ?_
  refine K_reg [] [] ⟨[(0, (LI p1)), (1, (LI p2)), (2, (I p3)), (6, (.one (.ptr 0 0 0))), (7, (I (w64 (x1.tdiv (w64 ((p2.length : Int) - 1)))))), (8, (I 0))], [.cells [.d (.int .i64 0), .d (.int .i64 0)]]⟩ (by kernel_rfl) trivial ?_
  refine K_seq ?_
  refine K_seq ?_
  refine K_reg [.n p1.length] [((p1.map (D.int .i64))).length = p1.length] ⟨[(0, (LI p1)), (1, (LI p2)), (2, (I p3)), (6, (.one (.ptr 0 0 0))), (7, (I (w64 (x1.tdiv (w64 ((p2.length : Int) - 1)))))), (8, (I 0)), (23, (I (p1.length : Int))), (24, (I 0))], [.cells [.d (.int .i64 0), .d (.int .i64 0)]]⟩ (by kernel_rfl) (A1 (List.length_map _)) ?_
  refine K_block ?_
  obtain ⟨x23, hx23, H⟩ := bind_some' H
  refine K_loop ⟨[(2, (I p3)), (6, (.one (.ptr 0 0 0))), (7, (I (w64 (x1.tdiv (w64 ((p2.length : Int) - 1)))))), (8, (I x23))], [.cells [.d (.int .i64 0), .d (.int .i64 0)]]⟩ (loop_ok (fun (s : Int × Int) => ⟨[(0, (LI p1)), (1, (LI p2)), (2, (I p3)), (6, (.one (.ptr 0 0 0))), (7, (I (w64 (x1.tdiv (w64 ((p2.length : Int) - 1)))))), (8, (I s.1)), (23, (I (p1.length : Int))), (24, (I s.2))], [.cells [.d (.int .i64 0), .d (.int .i64 0)]]⟩) (fun (r : Int) => (.exit 0, ⟨[(2, (I p3)), (6, (.one (.ptr 0 0 0))), (7, (I (w64 (x1.tdiv (w64 ((p2.length : Int) - 1)))))), (8, (I r))], [.cells [.d (.int .i64 0), .d (.int .i64 0)]]⟩)) (fun r h => by cases h) (T_ref18_Squares_l1_ok k p1 p2 p3 (w64 (x1.tdiv (w64 ((p2.length : Int) - 1)))) (p1.length : Int)) k (0, 0) x23 hx23) rfl ?_
  refine K_seq ?_
  obtain ⟨x24, hx24, H⟩ := bind_some' H
  refine K_reg [.r (.tup [(true, [.d (.int .i64 x24.1), .d (.int .i64 x24.2.1)]), (false, [.d (.int .i64 x24.2.2)])]) []] [evF X k n_ref01_Make [(I x23), (I (w64 ((w64 ((w64 (x1.tdiv (w64 ((p2.length : Int) - 1)))) * (w64 ((w64 (x1.tdiv (w64 ((p2.length : Int) - 1)))) + 1)))) * p3)))] [] = some ((.tup [(true, [.d (.int .i64 x24.1), .d (.int .i64 x24.2.1)]), (false, [.d (.int .i64 x24.2.2)])]), [])] ⟨[(6, (.one (.ptr 0 0 0))), (10, (.one (.ptr 1 0 0)))], [.cells [.d (.int .i64 0), .d (.int .i64 0)], .cells [.d (.int .i64 x24.1), .d (.int .i64 x24.2.1)]]⟩ (by kernel_rfl) (A1 (T_ref01_Make_ok k x23 (w64 ((w64 ((w64 (x1.tdiv (w64 ((p2.length : Int) - 1)))) * (w64 ((w64 (x1.tdiv (w64 ((p2.length : Int) - 1)))) + 1)))) * p3)) x24 hx24)) ?_
  refine K_seq ?_
  refine K_reg [] [] ⟨[(6, (.one (.ptr 0 0 0)))], [.cells [.d (.int .i64 x24.1), .d (.int .i64 x24.2.1)]]⟩ (by kernel_rfl) trivial ?_
  refine K_gh ⟨[(6, (.one (.ptr 0 0 0)))], [.cells [.d (.int .i64 x24.1), .d (.int .i64 x24.2.1)]]⟩ (by kernel_rfl) ?_
  cases H
  refine K_ret ?_
  kernel_rfl
def T_ref20_Against_l1 (k : Nat) (p3 : List Int) (x3 : (List Int)) (p4 : List Int) (x4 : (List Int)) (p5 : List Int) (x11 : Int) (x22 : Nat × Int × (List Int)) : Option ((Nat × Int × (List Int)) ⊕ ((Nat × (List Int)))) :=
 (if x22.2.1 < x11 then (at? p3 x22.2.1).bind fun x24 => (at? x3 x22.2.1).bind fun x25 => (at? x4 x22.2.1).bind fun x26 => (at? p4 x22.2.1).bind fun x27 => (if x22.1 + 1 ≤ LIM then some (.inl ((x22.1 + 1), (w64 (x22.2.1 + 1)), ((x22.2.2.drop 0).take x22.1 ++ ([(imax (imax 0 (w64 (x24 - x25))) (w64 (x26 - x27)))] : List Int)))) else none) else some (.inr (x22.1, x22.2.2)))
theorem T_ref20_Against_l1_ok (k : Nat) (p3 : List Int) (x3 : (List Int)) (p4 : List Int) (x4 : (List Int)) (p5 : List Int) (x11 : Int) : ∀ (x22 : Nat × Int × (List Int)) (x : (Nat × Int × (List Int)) ⊕ ((Nat × (List Int)))), T_ref20_Against_l1 k p3 x3 p4 x4 p5 x11 x22 = some x → evC X (evF X k) k 0 l_ref20_Against_1 ⟨[(2, (LI p3)), (3, (LI p4)), (4, (LI p5)), (10, (.one (.ptr 0 0 0))), (14, (LI x3)), (15, (LI x4)), (16, (.one (.own 1 0 x22.1))), (38, (I x11)), (39, (I x22.2.1))], [.cells [.d (.int .i64 0), .d (.int .i64 0)], VI x22.2.2]⟩ = some (outS (fun (s : Nat × Int × (List Int)) => ⟨[(2, (LI p3)), (3, (LI p4)), (4, (LI p5)), (10, (.one (.ptr 0 0 0))), (14, (LI x3)), (15, (LI x4)), (16, (.one (.own 1 0 s.1))), (38, (I x11)), (39, (I s.2.1))], [.cells [.d (.int .i64 0), .d (.int .i64 0)], VI s.2.2]⟩) (fun (r : (Nat × (List Int))) => (.exit 0, ⟨[(4, (LI p5)), (10, (.one (.ptr 0 0 0))), (16, (.one (.own 1 0 r.1)))], [.cells [.d (.int .i64 0), .d (.int .i64 0)], VI r.2]⟩)) x) := by
 intro x22 x H
 unfold T_ref20_Against_l1 at H
 refine K_in ?_
 refine K_seq ?_
 refine K_reg [] [] ⟨[(2, (LI p3)), (3, (LI p4)), (4, (LI p5)), (10, (.one (.ptr 0 0 0))), (14, (LI x3)), (15, (LI x4)), (16, (.one (.own 1 0 x22.1))), (38, (I x11)), (39, (I x22.2.1)), (40, (B (decide (x22.2.1 < x11))))], [.cells [.d (.int .i64 0), .d (.int .i64 0)], VI x22.2.2]⟩ (by kernel_rfl) trivial ?_
 refine K_seq ?_
 rcases ite_some H with ⟨hx23, H⟩ | ⟨hx23, H⟩
 · refine K_t rfl (decide_eq_true hx23) ?_
   refine K_gh ⟨[(2, (LI p3)), (3, (LI p4)), (4, (LI p5)), (10, (.one (.ptr 0 0 0))), (14, (LI x3)), (15, (LI x4)), (16, (.one (.own 1 0 x22.1))), (38, (I x11)), (39, (I x22.2.1))], [.cells [.d (.int .i64 0), .d (.int .i64 0)], VI x22.2.2]⟩ (by kernel_rfl) ?_
   refine K_skip ?_
   refine K_seq ?_
   refine K_block ?_
   refine K_seq ?_
   refine K_reg [] [] ⟨[(2, (LI p3)), (3, (LI p4)), (4, (LI p5)), (10, (.one (.ptr 0 0 0))), (14, (LI x3)), (15, (LI x4)), (16, (.one (.own 1 0 x22.1))), (17, (I x22.2.1)), (38, (I x11)), (39, (I x22.2.1))], [.cells [.d (.int .i64 0), .d (.int .i64 0)], VI x22.2.2]⟩ (by kernel_rfl) trivial ?_
   obtain ⟨x24, hx24, H⟩ := bind_some' H
   obtain ⟨x25, hx25, H⟩ := bind_some' H
   obtain ⟨x26, hx26, H⟩ := bind_some' H
   obtain ⟨x27, hx27, H⟩ := bind_some' H
   obtain ⟨hx28, H⟩ := guard_some H
   refine K_reg [.l [.int .i64 x24], .l [.int .i64 x25], .l [.int .i64 x26], .l [.int .i64 x27], .n 1, .l (((x22.2.2.drop 0).take x22.1 ++ ([(imax (imax 0 (w64 (x24 - x25))) (w64 (x26 - x27)))] : List Int)).map (D.int .i64))] [(0 : Int) ≤ x22.2.1 ∧ x22.2.1 < (((p3.map (D.int .i64))).length : Int), ((p3.map (D.int .i64)).getD x22.2.1.toNat (.int .i64 0)).cells = [.int .i64 x24], (0 : Int) ≤ x22.2.1 ∧ x22.2.1 < (((x3.map (D.int .i64))).length : Int), ((x3.map (D.int .i64)).getD x22.2.1.toNat (.int .i64 0)).cells = [.int .i64 x25], (0 : Int) ≤ x22.2.1 ∧ x22.2.1 < (((x4.map (D.int .i64))).length : Int), ((x4.map (D.int .i64)).getD x22.2.1.toNat (.int .i64 0)).cells = [.int .i64 x26], (0 : Int) ≤ x22.2.1 ∧ x22.2.1 < (((p4.map (D.int .i64))).length : Int), ((p4.map (D.int .i64)).getD x22.2.1.toNat (.int .i64 0)).cells = [.int .i64 x27], (List.all (([(imax (imax 0 (w64 (x24 - x25))) (w64 (x26 - x27)))] : List Int).map (D.int .i64)) fun d => d.cells.length == (D.cells (.int .i64 0)).length) = true, x22.1 + 1 ≤ LIM, (([(imax (imax 0 (w64 (x24 - x25))) (w64 (x26 - x27)))] : List Int).map (D.int .i64)).length = 1, ((x22.2.2.map (D.int .i64)).drop 0).take x22.1 ++ (([(imax (imax 0 (w64 (x24 - x25))) (w64 (x26 - x27)))] : List Int).map (D.int .i64)) = ((x22.2.2.drop 0).take x22.1 ++ ([(imax (imax 0 (w64 (x24 - x25))) (w64 (x26 - x27)))] : List Int)).map (D.int .i64)] ⟨[(2, (LI p3)), (3, (LI p4)), (4, (LI p5)), (10, (.one (.ptr 0 0 0))), (14, (LI x3)), (15, (LI x4)), (16, (.one (.own 1 0 (x22.1 + 1)))), (38, (I x11)), (39, (I x22.2.1))], [.cells [.d (.int .i64 0), .d (.int .i64 0)], VI ((x22.2.2.drop 0).take x22.1 ++ ([(imax (imax 0 (w64 (x24 - x25))) (w64 (x26 - x27)))] : List Int))]⟩ (by kernel_rfl) (AC (at_ok hx24 (D.int .i64) (.int .i64 0)).1 (AC (at_ok hx24 (D.int .i64) (.int .i64 0)).2 (AC (at_ok hx25 (D.int .i64) (.int .i64 0)).1 (AC (at_ok hx25 (D.int .i64) (.int .i64 0)).2 (AC (at_ok hx26 (D.int .i64) (.int .i64 0)).1 (AC (at_ok hx26 (D.int .i64) (.int .i64 0)).2 (AC (at_ok hx27 (D.int .i64) (.int .i64 0)).1 (AC (at_ok hx27 (D.int .i64) (.int .i64 0)).2 (AC (all_ok (D.int .i64) 1 ([(imax (imax 0 (w64 (x24 - x25))) (w64 (x26 - x27)))] : List Int) (fun _ => rfl)) (AC hx28 (AC (by simp) (A1 (ap_map (D.int .i64) x22.2.2 ([(imax (imax 0 (w64 (x24 - x25))) (w64 (x26 - x27)))] : List Int) 0 x22.1))))))))))))) ?_
   refine K_blk ?_
   refine K_reg [] [] ⟨[(2, (LI p3)), (3, (LI p4)), (4, (LI p5)), (10, (.one (.ptr 0 0 0))), (14, (LI x3)), (15, (LI x4)), (16, (.one (.own 1 0 (x22.1 + 1)))), (38, (I x11)), (39, (I (w64 (x22.2.1 + 1))))], [.cells [.d (.int .i64 0), .d (.int .i64 0)], VI ((x22.2.2.drop 0).take x22.1 ++ ([(imax (imax 0 (w64 (x24 - x25))) (w64 (x26 - x27)))] : List Int))]⟩ (by kernel_rfl) trivial ?_
   cases H
   exact K_end rfl
 · refine K_f rfl (decide_eq_false hx23) ?_
   refine K_gh ⟨[(4, (LI p5)), (10, (.one (.ptr 0 0 0))), (16, (.one (.own 1 0 x22.1)))], [.cells [.d (.int .i64 0), .d (.int .i64 0)], VI x22.2.2]⟩ (by kernel_rfl) ?_
   cases H
   exact K_exit0 rfl rfl
def T_ref20_Against (k : Nat) (p1 : List Int) (p2 : Int) (p3 : List Int) (p4 : List Int) (p5 : List Int) : Option (Int × Int) := match k with
 | 0 => none
 | k + 1 => ((at? p5 (w64 ((p5.length : Int) - 1))).bind fun x1 => (T_ref20_Of k p1 p2 x1).bind fun x2 => (T_ref18_Fold k x2.1 p5).bind fun x3 => (T_ref18_Fold k x2.2.1 p5).bind fun x4 => (loopT (T_ref20_Against_l1 k p3 x3 p4 x4 p5 (x3.length : Int)) k (0, 0, [])).bind fun x29 => (T_ref18_Squares k ((x29.2.drop 0).take x29.1) p5 1).bind fun x30 => some (x30.1, x30.2))
theorem T_ref20_Against_ok (k : Nat) (p1 : List Int) (p2 : Int) (p3 : List Int) (p4 : List Int) (p5 : List Int) (r : Int × Int) : T_ref20_Against k p1 p2 p3 p4 p5 = some r → evF X k n_ref20_Against [(LI p1), (I p2), (LI p3), (LI p4), (LI p5)] [] = some ((.agg [.d (.int .i64 r.1), .d (.int .i64 r.2)]), []) := by
 intro H
 cases k with
 | zero => simp [T_ref20_Against] at H
 | succ k =>
  simp only [T_ref20_Against] at H
  refine F_in X_ref20_Against rfl ?_
  refine K_seq ?_
  refine K_reg [] [] ⟨[(0, (LI p1)), (1, (I p2)), (2, (LI p3)), (3, (LI p4)), (4, (LI p5)), (10, (.one (.ptr 0 0 0)))], [.cells [.d (.int .i64 0), .d (.int .i64 0)]]⟩ (by kernel_rfl) trivial ?_
  refine K_seq ?_
  obtain ⟨x1, hx1, H⟩ := bind_some' H
  obtain ⟨x2, hx2, H⟩ := bind_some' H
  refine K_reg [.n p5.length, .l [.int .i64 x1], .r (.tup [(false, [.d (.list (x2.1.map (D.int .i64)))]), (false, [.d (.list (x2.2.1.map (D.int .i64)))]), (false, [.d (.int .i64 x2.2.2)])]) []] [((p5.map (D.int .i64))).length = p5.length, (0 : Int) ≤ (w64 ((p5.length : Int) - 1)) ∧ (w64 ((p5.length : Int) - 1)) < (((p5.map (D.int .i64))).length : Int), ((p5.map (D.int .i64)).getD (w64 ((p5.length : Int) - 1)).toNat (.int .i64 0)).cells = [.int .i64 x1], evF X k n_ref20_Of [(LI p1), (I p2), (I x1)] [] = some ((.tup [(false, [.d (.list (x2.1.map (D.int .i64)))]), (false, [.d (.list (x2.2.1.map (D.int .i64)))]), (false, [.d (.int .i64 x2.2.2)])]), [])] ⟨[(2, (LI p3)), (3, (LI p4)), (4, (LI p5)), (10, (.one (.ptr 0 0 0))), (11, (LI x2.1)), (12, (LI x2.2.1))], [.cells [.d (.int .i64 0), .d (.int .i64 0)]]⟩ (by kernel_rfl) (AC (List.length_map _) (AC (at_ok hx1 (D.int .i64) (.int .i64 0)).1 (AC (at_ok hx1 (D.int .i64) (.int .i64 0)).2 (A1 (T_ref20_Of_ok k p1 p2 x1 x2 hx2))))) ?_
  refine K_seq ?_
  obtain ⟨x3, hx3, H⟩ := bind_some' H
  obtain ⟨x4, hx4, H⟩ := bind_some' H
  refine K_reg [.r (LI x3) [], .r (LI x4) []] [evF X k n_ref18_Fold [(LI x2.1), (LI p5)] [] = some ((LI x3), []), evF X k n_ref18_Fold [(LI x2.2.1), (LI p5)] [] = some ((LI x4), [])] ⟨[(2, (LI p3)), (3, (LI p4)), (4, (LI p5)), (10, (.one (.ptr 0 0 0))), (14, (LI x3)), (15, (LI x4))], [.cells [.d (.int .i64 0), .d (.int .i64 0)]]⟩ (by kernel_rfl) (AC (T_ref18_Fold_ok k x2.1 p5 x3 hx3) (A1 (T_ref18_Fold_ok k x2.2.1 p5 x4 hx4))) ?_
  refine K_seq ?_
  refine K_reg [] [] ⟨[(2, (LI p3)), (3, (LI p4)), (4, (LI p5)), (10, (.one (.ptr 0 0 0))), (14, (LI x3)), (15, (LI x4)), (16, (.one (.nil)))], [.cells [.d (.int .i64 0), .d (.int .i64 0)]]⟩ (by kernel_rfl) trivial ?_
  refine K_seq ?_
  refine K_seq ?_
  refine K_reg [.n x3.length] [((x3.map (D.int .i64))).length = x3.length] ⟨[(2, (LI p3)), (3, (LI p4)), (4, (LI p5)), (10, (.one (.ptr 0 0 0))), (14, (LI x3)), (15, (LI x4)), (16, (.one (.nil))), (38, (I (x3.length : Int))), (39, (I 0))], [.cells [.d (.int .i64 0), .d (.int .i64 0)]]⟩ (by kernel_rfl) (A1 (List.length_map _)) ?_
  refine K_block ?_
  refine K_gh ⟨[(2, (LI p3)), (3, (LI p4)), (4, (LI p5)), (10, (.one (.ptr 0 0 0))), (14, (LI x3)), (15, (LI x4)), (16, (.one (.own 1 0 0))), (38, (I (x3.length : Int))), (39, (I 0))], [.cells [.d (.int .i64 0), .d (.int .i64 0)], VI []]⟩ (by kernel_rfl) ?_
  obtain ⟨x29, hx29, H⟩ := bind_some' H
  refine K_loop ⟨[(4, (LI p5)), (10, (.one (.ptr 0 0 0))), (16, (.one (.own 1 0 x29.1)))], [.cells [.d (.int .i64 0), .d (.int .i64 0)], VI x29.2]⟩ (loop_ok (fun (s : Nat × Int × (List Int)) => ⟨[(2, (LI p3)), (3, (LI p4)), (4, (LI p5)), (10, (.one (.ptr 0 0 0))), (14, (LI x3)), (15, (LI x4)), (16, (.one (.own 1 0 s.1))), (38, (I (x3.length : Int))), (39, (I s.2.1))], [.cells [.d (.int .i64 0), .d (.int .i64 0)], VI s.2.2]⟩) (fun (r : (Nat × (List Int))) => (.exit 0, ⟨[(4, (LI p5)), (10, (.one (.ptr 0 0 0))), (16, (.one (.own 1 0 r.1)))], [.cells [.d (.int .i64 0), .d (.int .i64 0)], VI r.2]⟩)) (fun r h => by cases h) (T_ref20_Against_l1_ok k p3 x3 p4 x4 p5 (x3.length : Int)) k (0, 0, []) x29 hx29) rfl ?_
  refine K_seq ?_
  refine K_gh ⟨[(4, (LI p5)), (10, (.one (.ptr 0 0 0))), (16, (.one (.d (.list (((x29.2.map (D.int .i64)).drop 0).take x29.1)))))], [.cells [.d (.int .i64 0), .d (.int .i64 0)]]⟩ (by kernel_rfl) ?_
  refine K_conv (σ' := ⟨[(4, (LI p5)), (10, (.one (.ptr 0 0 0))), (16, (LI ((x29.2.drop 0).take x29.1)))], [.cells [.d (.int .i64 0), .d (.int .i64 0)]]⟩) (by simp only [dt_map, LI, VI]) ?_
  obtain ⟨x30, hx30, H⟩ := bind_some' H
  refine K_reg [.r (.agg [.d (.int .i64 x30.1), .d (.int .i64 x30.2)]) []] [evF X k n_ref18_Squares [(LI ((x29.2.drop 0).take x29.1)), (LI p5), (I 1)] [] = some ((.agg [.d (.int .i64 x30.1), .d (.int .i64 x30.2)]), [])] ⟨[(10, (.one (.ptr 0 0 0)))], [.cells [.d (.int .i64 x30.1), .d (.int .i64 x30.2)]]⟩ (by kernel_rfl) (A1 (T_ref18_Squares_ok k ((x29.2.drop 0).take x29.1) p5 1 x30 hx30)) ?_
  refine K_gh ⟨[(10, (.one (.ptr 0 0 0)))], [.cells [.d (.int .i64 x30.1), .d (.int .i64 x30.2)]]⟩ (by kernel_rfl) ?_
  cases H
  refine K_ret ?_
  kernel_rfl
def T_ref20_Pieces (k : Nat) (p1 : List Int) (p2 : List Int) (p3 : Int) (p4 : Int) : Option (Int × Int × Int) := match k with
 | 0 => none
 | k + 1 => ((T_ref14_Check k p1 p2 p3).bind fun x1 => (if (!decide (x1 = 0)) = true then some (0, 0, x1) else ((T_ref18_Starts k (p2.length : Int) p4).bind fun x3 => (if (!decide (x3.2 = 0)) = true then some (0, 0, x3.2) else ((T_ref18_Fold k p2 x3.1).bind fun x5 => (T_ref20_Against k p1 p3 x5 x5 x3.1).bind fun x6 => some (x6.1, x6.2, 0))))))
theorem T_ref20_Pieces_ok (k : Nat) (p1 : List Int) (p2 : List Int) (p3 : Int) (p4 : Int) (r : Int × Int × Int) : T_ref20_Pieces k p1 p2 p3 p4 = some r → evF X k n_ref20_Pieces [(LI p1), (LI p2), (I p3), (I p4)] [] = some ((.tup [(true, [.d (.int .i64 r.1), .d (.int .i64 r.2.1)]), (false, [.d (.int .i64 r.2.2)])]), []) := by
 intro H
 cases k with
 | zero => simp [T_ref20_Pieces] at H
 | succ k =>
  simp only [T_ref20_Pieces] at H
  refine F_in X_ref20_Pieces rfl ?_
  refine K_seq ?_
  refine K_reg [] [] ⟨[(0, (LI p1)), (1, (LI p2)), (2, (I p3)), (3, (I p4)), (8, (.one (.ptr 0 0 0)))], [.cells [.d (.int .i64 0), .d (.int .i64 0)]]⟩ (by kernel_rfl) trivial ?_
  refine K_seq ?_
  refine K_seq ?_
  obtain ⟨x1, hx1, H⟩ := bind_some' H
  refine K_reg [.r (I x1) []] [evF X k n_ref14_Check [(LI p1), (LI p2), (I p3)] [] = some ((I x1), [])] ⟨[(0, (LI p1)), (1, (LI p2)), (2, (I p3)), (3, (I p4)), (8, (.one (.ptr 0 0 0))), (10, (I x1))], [.cells [.d (.int .i64 0), .d (.int .i64 0)]]⟩ (by kernel_rfl) (A1 (T_ref14_Check_ok k p1 p2 p3 x1 hx1)) ?_
  refine K_seq ?_
  refine K_reg [] [] ⟨[(0, (LI p1)), (1, (LI p2)), (2, (I p3)), (3, (I p4)), (8, (.one (.ptr 0 0 0))), (10, (I x1)), (19, (B (!decide (x1 = 0))))], [.cells [.d (.int .i64 0), .d (.int .i64 0)]]⟩ (by kernel_rfl) trivial ?_
  rcases ite_some H with ⟨hx2, H⟩ | ⟨hx2, H⟩
  · refine K_t rfl hx2 ?_
    refine K_seq ?_
    refine K_reg [] [] ⟨[(8, (.one (.ptr 0 0 0))), (9, (I x1))], [.cells [.d (.int .i64 0), .d (.int .i64 0)]]⟩ (by kernel_rfl) trivial ?_
    refine K_gh ⟨[(8, (.one (.ptr 0 0 0))), (9, (I x1))], [.cells [.d (.int .i64 0), .d (.int .i64 0)]]⟩ (by kernel_rfl) ?_
    cases H
    refine K_ret ?_
    kernel_rfl
  · refine K_f rfl (Bool.eq_false_iff.2 hx2) ?_
    refine K_gh ⟨[(0, (LI p1)), (1, (LI p2)), (2, (I p3)), (3, (I p4)), (8, (.one (.ptr 0 0 0)))], [.cells [.d (.int .i64 0), .d (.int .i64 0)]]⟩ (by kernel_rfl) ?_
    refine K_skip ?_
    refine K_seq ?_
    obtain ⟨x3, hx3, H⟩ := bind_some' H
    refine K_reg [.n p2.length, .r (.tup [(false, [.d (.list (x3.1.map (D.int .i64)))]), (false, [.d (.int .i64 x3.2)])]) []] [((p2.map (D.int .i64))).length = p2.length, evF X k n_ref18_Starts [(I (p2.length : Int)), (I p4)] [] = some ((.tup [(false, [.d (.list (x3.1.map (D.int .i64)))]), (false, [.d (.int .i64 x3.2)])]), [])] ⟨[(0, (LI p1)), (1, (LI p2)), (2, (I p3)), (8, (.one (.ptr 0 0 0))), (11, (LI x3.1)), (12, (I x3.2))], [.cells [.d (.int .i64 0), .d (.int .i64 0)]]⟩ (by kernel_rfl) (AC (List.length_map _) (A1 (T_ref18_Starts_ok k (p2.length : Int) p4 x3 hx3))) ?_
    refine K_seq ?_
    refine K_seq ?_
    refine K_reg [] [] ⟨[(0, (LI p1)), (1, (LI p2)), (2, (I p3)), (8, (.one (.ptr 0 0 0))), (11, (LI x3.1)), (12, (I x3.2)), (30, (B (!decide (x3.2 = 0))))], [.cells [.d (.int .i64 0), .d (.int .i64 0)]]⟩ (by kernel_rfl) trivial ?_
    rcases ite_some H with ⟨hx4, H⟩ | ⟨hx4, H⟩
    · refine K_t rfl hx4 ?_
      refine K_seq ?_
      refine K_reg [] [] ⟨[(8, (.one (.ptr 0 0 0))), (9, (I x3.2))], [.cells [.d (.int .i64 0), .d (.int .i64 0)]]⟩ (by kernel_rfl) trivial ?_
      refine K_gh ⟨[(8, (.one (.ptr 0 0 0))), (9, (I x3.2))], [.cells [.d (.int .i64 0), .d (.int .i64 0)]]⟩ (by kernel_rfl) ?_
      cases H
      refine K_ret ?_
      kernel_rfl
    · refine K_f rfl (Bool.eq_false_iff.2 hx4) ?_
      refine K_gh ⟨[(0, (LI p1)), (1, (LI p2)), (2, (I p3)), (8, (.one (.ptr 0 0 0))), (11, (LI x3.1))], [.cells [.d (.int .i64 0), .d (.int .i64 0)]]⟩ (by kernel_rfl) ?_
      refine K_skip ?_
      refine K_seq ?_
      obtain ⟨x5, hx5, H⟩ := bind_some' H
      refine K_reg [.r (LI x5) []] [evF X k n_ref18_Fold [(LI p2), (LI x3.1)] [] = some ((LI x5), [])] ⟨[(0, (LI p1)), (2, (I p3)), (8, (.one (.ptr 0 0 0))), (11, (LI x3.1)), (13, (LI x5))], [.cells [.d (.int .i64 0), .d (.int .i64 0)]]⟩ (by kernel_rfl) (A1 (T_ref18_Fold_ok k p2 x3.1 x5 hx5)) ?_
      refine K_seq ?_
      obtain ⟨x6, hx6, H⟩ := bind_some' H
      refine K_reg [.r (.agg [.d (.int .i64 x6.1), .d (.int .i64 x6.2)]) []] [evF X k n_ref20_Against [(LI p1), (I p3), (LI x5), (LI x5), (LI x3.1)] [] = some ((.agg [.d (.int .i64 x6.1), .d (.int .i64 x6.2)]), [])] ⟨[(8, (.one (.ptr 0 0 0))), (9, (I 0))], [.cells [.d (.int .i64 x6.1), .d (.int .i64 x6.2)]]⟩ (by kernel_rfl) (A1 (T_ref20_Against_ok k p1 p3 x5 x5 x3.1 x6 hx6)) ?_
      refine K_gh ⟨[(8, (.one (.ptr 0 0 0))), (9, (I 0))], [.cells [.d (.int .i64 x6.1), .d (.int .i64 x6.2)]]⟩ (by kernel_rfl) ?_
      cases H
      refine K_ret ?_
      kernel_rfl
def T_law20_EnvelopeAnswers_l1 (k : Nat) (p3 : Int) (p4 : Int) (p5 : Int) (x10 : Int) (x11 : List ((List Int) × (List Int))) (x12 : Int) (x14 : List Int) (x213 : Int) (x214 : List Int) (x215 : Int) (x219 : List Int) (x220 : List Int) (x306 : Int) (x318 : Int) (x319 : List Int) (x320 : Int) (x323 : Int) (x336 : Int) : Option (Int ⊕ (Unit ⊕ Unit)) :=
 (if x336 < x320 then ((at? x319 x336).bind fun x338 => (T_envelope_Of k x219 x306 x338).bind fun x339 => (T_ref20_Of k x219 x306 x338).bind fun x340 => (((T_keep_Ints k x339.1 x340.1).bind fun x341 => (if (!x341) = true then some true else ((T_keep_Ints k x339.2.1 x340.2.1).bind fun x344 => some ((!x344) || (!decide (x339.2.2 = x340.2.2))))))).bind fun x345 => (if x345 = true then some (.inr (.inr ())) else some (.inl (w64 (x336 + 1))))) else some (.inr (.inl ())))
theorem T_law20_EnvelopeAnswers_l1_ok (k : Nat) (p3 : Int) (p4 : Int) (p5 : Int) (x10 : Int) (x11 : List ((List Int) × (List Int))) (x12 : Int) (x14 : List Int) (x213 : Int) (x214 : List Int) (x215 : Int) (x219 : List Int) (x220 : List Int) (x306 : Int) (x318 : Int) (x319 : List Int) (x320 : Int) (x323 : Int) : ∀ (x336 : Int) (x : Int ⊕ (Unit ⊕ Unit)), T_law20_EnvelopeAnswers_l1 k p3 p4 p5 x10 x11 x12 x14 x213 x214 x215 x219 x220 x306 x318 x319 x320 x323 x336 = some x → evC X (evF X k) k 0 l_law20_EnvelopeAnswers_1 ⟨[(2, (I p3)), (3, (I p4)), (4, (I p5)), (13, (.one (.ptr 0 0 0))), (16, (I x10)), (18, (.one (.ptr 1 0 0))), (20, (I x306)), (76, (.one (.d (.list (x11.map e_st0))))), (77, (I x12)), (78, (I x213)), (87, (LI x214)), (88, (I x215)), (89, (I x318)), (99, (LI x319)), (100, (I x320)), (101, (I x336))], [.cells [.d (.list (x14.map (D.int .i64))), .d (.int .i64 x323)], .cells [.d (.list (x219.map (D.int .i64))), .d (.list (x220.map (D.int .i64)))]]⟩ = some (outS (fun (s : Int) => ⟨[(2, (I p3)), (3, (I p4)), (4, (I p5)), (13, (.one (.ptr 0 0 0))), (16, (I x10)), (18, (.one (.ptr 1 0 0))), (20, (I x306)), (76, (.one (.d (.list (x11.map e_st0))))), (77, (I x12)), (78, (I x213)), (87, (LI x214)), (88, (I x215)), (89, (I x318)), (99, (LI x319)), (100, (I x320)), (101, (I s))], [.cells [.d (.list (x14.map (D.int .i64))), .d (.int .i64 x323)], .cells [.d (.list (x219.map (D.int .i64))), .d (.list (x220.map (D.int .i64)))]]⟩) (fun (r : Unit ⊕ Unit) => Sum.elim (fun y => (.exit 4, ⟨[(2, (I p3)), (3, (I p4)), (4, (I p5)), (13, (.one (.ptr 0 0 0))), (16, (I x10)), (18, (.one (.ptr 1 0 0))), (20, (I x306)), (76, (.one (.d (.list (x11.map e_st0))))), (77, (I x12)), (78, (I x213)), (87, (LI x214)), (88, (I x215)), (89, (I x318))], [.cells [.d (.list (x14.map (D.int .i64))), .d (.int .i64 x323)], .cells [.d (.list (x219.map (D.int .i64))), .d (.list (x220.map (D.int .i64)))]]⟩)) (fun y => (.ret, ⟨[(12, (B false))], []⟩)) r) x) := by
 intro x336 x H
 unfold T_law20_EnvelopeAnswers_l1 at H
 refine K_in ?_
 refine K_seq ?_
 refine K_reg [] [] ⟨[(2, (I p3)), (3, (I p4)), (4, (I p5)), (13, (.one (.ptr 0 0 0))), (16, (I x10)), (18, (.one (.ptr 1 0 0))), (20, (I x306)), (76, (.one (.d (.list (x11.map e_st0))))), (77, (I x12)), (78, (I x213)), (87, (LI x214)), (88, (I x215)), (89, (I x318)), (99, (LI x319)), (100, (I x320)), (101, (I x336)), (102, (B (decide (x336 < x320))))], [.cells [.d (.list (x14.map (D.int .i64))), .d (.int .i64 x323)], .cells [.d (.list (x219.map (D.int .i64))), .d (.list (x220.map (D.int .i64)))]]⟩ (by kernel_rfl) trivial ?_
 refine K_seq ?_
 rcases ite_some H with ⟨hx337, H⟩ | ⟨hx337, H⟩
 · refine K_t rfl (decide_eq_true hx337) ?_
   refine K_gh ⟨[(2, (I p3)), (3, (I p4)), (4, (I p5)), (13, (.one (.ptr 0 0 0))), (16, (I x10)), (18, (.one (.ptr 1 0 0))), (20, (I x306)), (76, (.one (.d (.list (x11.map e_st0))))), (77, (I x12)), (78, (I x213)), (87, (LI x214)), (88, (I x215)), (89, (I x318)), (99, (LI x319)), (100, (I x320)), (101, (I x336))], [.cells [.d (.list (x14.map (D.int .i64))), .d (.int .i64 x323)], .cells [.d (.list (x219.map (D.int .i64))), .d (.list (x220.map (D.int .i64)))]]⟩ (by kernel_rfl) ?_
   refine K_skip ?_
   refine K_seq ?_
   refine K_block ?_
   refine K_seq ?_
   obtain ⟨x338, hx338, H⟩ := bind_some' H
   refine K_reg [.l [.int .i64 x338]] [(0 : Int) ≤ x336 ∧ x336 < (((x319.map (D.int .i64))).length : Int), ((x319.map (D.int .i64)).getD x336.toNat (.int .i64 0)).cells = [.int .i64 x338]] ⟨[(2, (I p3)), (3, (I p4)), (4, (I p5)), (13, (.one (.ptr 0 0 0))), (16, (I x10)), (18, (.one (.ptr 1 0 0))), (20, (I x306)), (22, (I x338)), (76, (.one (.d (.list (x11.map e_st0))))), (77, (I x12)), (78, (I x213)), (87, (LI x214)), (88, (I x215)), (89, (I x318)), (99, (LI x319)), (100, (I x320)), (101, (I x336))], [.cells [.d (.list (x14.map (D.int .i64))), .d (.int .i64 x323)], .cells [.d (.list (x219.map (D.int .i64))), .d (.list (x220.map (D.int .i64)))]]⟩ (by kernel_rfl) (AC (at_ok hx338 (D.int .i64) (.int .i64 0)).1 (A1 (at_ok hx338 (D.int .i64) (.int .i64 0)).2)) ?_
   refine K_seq ?_
   obtain ⟨x339, hx339, H⟩ := bind_some' H
   refine K_reg [.r (.tup [(false, [.d (.list (x339.1.map (D.int .i64)))]), (false, [.d (.list (x339.2.1.map (D.int .i64)))]), (false, [.d (.int .i64 x339.2.2)])]) []] [(0 : Int) ≤ 0 ∧ 0 < ((2 : Nat) : Int), evF X k n_envelope_Of [(LI x219), (I x306), (I x338)] [] = some ((.tup [(false, [.d (.list (x339.1.map (D.int .i64)))]), (false, [.d (.list (x339.2.1.map (D.int .i64)))]), (false, [.d (.int .i64 x339.2.2)])]), [])] ⟨[(2, (I p3)), (3, (I p4)), (4, (I p5)), (13, (.one (.ptr 0 0 0))), (16, (I x10)), (18, (.one (.ptr 1 0 0))), (20, (I x306)), (22, (I x338)), (23, (LI x339.1)), (24, (LI x339.2.1)), (25, (I x339.2.2)), (76, (.one (.d (.list (x11.map e_st0))))), (77, (I x12)), (78, (I x213)), (87, (LI x214)), (88, (I x215)), (89, (I x318)), (99, (LI x319)), (100, (I x320)), (101, (I x336))], [.cells [.d (.list (x14.map (D.int .i64))), .d (.int .i64 x323)], .cells [.d (.list (x219.map (D.int .i64))), .d (.list (x220.map (D.int .i64)))]]⟩ (by kernel_rfl) (AC (by decide) (A1 (T_envelope_Of_ok k x219 x306 x338 x339 hx339))) ?_
   refine K_seq ?_
   obtain ⟨x340, hx340, H⟩ := bind_some' H
   refine K_reg [.r (.tup [(false, [.d (.list (x340.1.map (D.int .i64)))]), (false, [.d (.list (x340.2.1.map (D.int .i64)))]), (false, [.d (.int .i64 x340.2.2)])]) []] [(0 : Int) ≤ 0 ∧ 0 < ((2 : Nat) : Int), evF X k n_ref20_Of [(LI x219), (I x306), (I x338)] [] = some ((.tup [(false, [.d (.list (x340.1.map (D.int .i64)))]), (false, [.d (.list (x340.2.1.map (D.int .i64)))]), (false, [.d (.int .i64 x340.2.2)])]), [])] ⟨[(2, (I p3)), (3, (I p4)), (4, (I p5)), (13, (.one (.ptr 0 0 0))), (16, (I x10)), (18, (.one (.ptr 1 0 0))), (20, (I x306)), (23, (LI x339.1)), (24, (LI x339.2.1)), (25, (I x339.2.2)), (26, (LI x340.1)), (27, (LI x340.2.1)), (28, (I x340.2.2)), (76, (.one (.d (.list (x11.map e_st0))))), (77, (I x12)), (78, (I x213)), (87, (LI x214)), (88, (I x215)), (89, (I x318)), (99, (LI x319)), (100, (I x320)), (101, (I x336))], [.cells [.d (.list (x14.map (D.int .i64))), .d (.int .i64 x323)], .cells [.d (.list (x219.map (D.int .i64))), .d (.list (x220.map (D.int .i64)))]]⟩ (by kernel_rfl) (AC (by decide) (A1 (T_ref20_Of_ok k x219 x306 x338 x340 hx340))) ?_
   refine K_seq ?_
   obtain ⟨x345, hx345, H⟩ := bind_some' H
   refine K_of ⟨[(2, (I p3)), (3, (I p4)), (4, (I p5)), (13, (.one (.ptr 0 0 0))), (16, (I x10)), (18, (.one (.ptr 1 0 0))), (20, (I x306)), (76, (.one (.d (.list (x11.map e_st0))))), (77, (I x12)), (78, (I x213)), (87, (LI x214)), (88, (I x215)), (89, (I x318)), (99, (LI x319)), (100, (I x320)), (101, (I x336)), (137, (B x345))], [.cells [.d (.list (x14.map (D.int .i64))), .d (.int .i64 x323)], .cells [.d (.list (x219.map (D.int .i64))), .d (.list (x220.map (D.int .i64)))]]⟩ ?_ ?_
   · clear H; have H := hx345; clear hx345; refine K_in ?_
     obtain ⟨x341, hx341, H⟩ := bind_some' H
     rcases ite_some H with ⟨hx343, H⟩ | ⟨hx343, H⟩
     · refine K_reg [.r (B x341) [], .b true, .b true] [evF X k n_keep_Ints [(LI x339.1), (LI x340.1)] [] = some ((B x341), []), (!x341) = true, true = true] ⟨[(2, (I p3)), (3, (I p4)), (4, (I p5)), (13, (.one (.ptr 0 0 0))), (16, (I x10)), (18, (.one (.ptr 1 0 0))), (20, (I x306)), (76, (.one (.d (.list (x11.map e_st0))))), (77, (I x12)), (78, (I x213)), (87, (LI x214)), (88, (I x215)), (89, (I x318)), (99, (LI x319)), (100, (I x320)), (101, (I x336)), (137, (B true))], [.cells [.d (.list (x14.map (D.int .i64))), .d (.int .i64 x323)], .cells [.d (.list (x219.map (D.int .i64))), .d (.list (x220.map (D.int .i64)))]]⟩ (by kernel_rfl) (AC (T_keep_Ints_ok k x339.1 x340.1 x341 hx341) (AC hx343 (A1 rfl))) ?_
       cases H
       exact K_end rfl
     · obtain ⟨x344, hx344, H⟩ := bind_some' H
       refine K_reg [.r (B x341) [], .b false, .r (B x344) [], .m] [evF X k n_keep_Ints [(LI x339.1), (LI x340.1)] [] = some ((B x341), []), (!x341) = false, evF X k n_keep_Ints [(LI x339.2.1), (LI x340.2.1)] [] = some ((B x344), []), ([.cells [.d (.list (x14.map (D.int .i64))), .d (.int .i64 x323)], .cells [.d (.list (x219.map (D.int .i64))), .d (.list (x220.map (D.int .i64)))]] : Heap) = [.cells [.d (.list (x14.map (D.int .i64))), .d (.int .i64 x323)], .cells [.d (.list (x219.map (D.int .i64))), .d (.list (x220.map (D.int .i64)))]]] ⟨[(2, (I p3)), (3, (I p4)), (4, (I p5)), (13, (.one (.ptr 0 0 0))), (16, (I x10)), (18, (.one (.ptr 1 0 0))), (20, (I x306)), (76, (.one (.d (.list (x11.map e_st0))))), (77, (I x12)), (78, (I x213)), (87, (LI x214)), (88, (I x215)), (89, (I x318)), (99, (LI x319)), (100, (I x320)), (101, (I x336)), (137, (B ((!x344) || (!decide (x339.2.2 = x340.2.2)))))], [.cells [.d (.list (x14.map (D.int .i64))), .d (.int .i64 x323)], .cells [.d (.list (x219.map (D.int .i64))), .d (.list (x220.map (D.int .i64)))]]⟩ (by kernel_rfl) (AC (T_keep_Ints_ok k x339.1 x340.1 x341 hx341) (AC (Bool.eq_false_iff.2 hx343) (AC (T_keep_Ints_ok k x339.2.1 x340.2.1 x344 hx344) (A1 rfl)))) ?_
       cases H
       exact K_end rfl
   rcases ite_some H with ⟨hx346, H⟩ | ⟨hx346, H⟩
   · refine K_t rfl hx346 ?_
     refine K_seq ?_
     refine K_reg [] [] ⟨[(12, (B false))], []⟩ (by kernel_rfl) trivial ?_
     refine K_gh ⟨[(12, (B false))], []⟩ (by kernel_rfl) ?_
     cases H
     exact K_ret rfl
   · refine K_f rfl (Bool.eq_false_iff.2 hx346) ?_
     refine K_gh ⟨[(2, (I p3)), (3, (I p4)), (4, (I p5)), (13, (.one (.ptr 0 0 0))), (16, (I x10)), (18, (.one (.ptr 1 0 0))), (20, (I x306)), (76, (.one (.d (.list (x11.map e_st0))))), (77, (I x12)), (78, (I x213)), (87, (LI x214)), (88, (I x215)), (89, (I x318)), (99, (LI x319)), (100, (I x320)), (101, (I x336))], [.cells [.d (.list (x14.map (D.int .i64))), .d (.int .i64 x323)], .cells [.d (.list (x219.map (D.int .i64))), .d (.list (x220.map (D.int .i64)))]]⟩ (by kernel_rfl) ?_
     refine K_skip ?_
     refine K_blk ?_
     refine K_reg [] [] ⟨[(2, (I p3)), (3, (I p4)), (4, (I p5)), (13, (.one (.ptr 0 0 0))), (16, (I x10)), (18, (.one (.ptr 1 0 0))), (20, (I x306)), (76, (.one (.d (.list (x11.map e_st0))))), (77, (I x12)), (78, (I x213)), (87, (LI x214)), (88, (I x215)), (89, (I x318)), (99, (LI x319)), (100, (I x320)), (101, (I (w64 (x336 + 1))))], [.cells [.d (.list (x14.map (D.int .i64))), .d (.int .i64 x323)], .cells [.d (.list (x219.map (D.int .i64))), .d (.list (x220.map (D.int .i64)))]]⟩ (by kernel_rfl) trivial ?_
     cases H
     exact K_end rfl
 · refine K_f rfl (decide_eq_false hx337) ?_
   refine K_gh ⟨[(2, (I p3)), (3, (I p4)), (4, (I p5)), (13, (.one (.ptr 0 0 0))), (16, (I x10)), (18, (.one (.ptr 1 0 0))), (20, (I x306)), (76, (.one (.d (.list (x11.map e_st0))))), (77, (I x12)), (78, (I x213)), (87, (LI x214)), (88, (I x215)), (89, (I x318))], [.cells [.d (.list (x14.map (D.int .i64))), .d (.int .i64 x323)], .cells [.d (.list (x219.map (D.int .i64))), .d (.list (x220.map (D.int .i64)))]]⟩ (by kernel_rfl) ?_
   cases H
   exact K_exit0 rfl rfl
def T_law20_EnvelopeAnswers_l2 (k : Nat) (p3 : Int) (p4 : Int) (p5 : Int) (x10 : Int) (x11 : List ((List Int) × (List Int))) (x12 : Int) (x14 : List Int) (x213 : Int) (x214 : List Int) (x215 : Int) (x219 : List Int) (x220 : List Int) (x306 : Int) (x365 : Int) (x366 : List Int) (x367 : Int) (x370 : Int) (x378 : Int) : Option (Int ⊕ (Unit ⊕ Unit)) :=
 (if x378 < x367 then ((at? x366 x378).bind fun x380 => (T_envelope_Pieces k x219 x220 x306 x380).bind fun x381 => (T_ref20_Pieces k x219 x220 x306 x380).bind fun x382 => (if ((!(decide (x381.1 = x382.1) && (decide (x381.2.1 = x382.2.1) && true))) || (!decide (x381.2.2 = x382.2.2))) = true then some (.inr (.inr ())) else some (.inl (w64 (x378 + 1))))) else some (.inr (.inl ())))
theorem T_law20_EnvelopeAnswers_l2_ok (k : Nat) (p3 : Int) (p4 : Int) (p5 : Int) (x10 : Int) (x11 : List ((List Int) × (List Int))) (x12 : Int) (x14 : List Int) (x213 : Int) (x214 : List Int) (x215 : Int) (x219 : List Int) (x220 : List Int) (x306 : Int) (x365 : Int) (x366 : List Int) (x367 : Int) (x370 : Int) : ∀ (x378 : Int) (x : Int ⊕ (Unit ⊕ Unit)), T_law20_EnvelopeAnswers_l2 k p3 p4 p5 x10 x11 x12 x14 x213 x214 x215 x219 x220 x306 x365 x366 x367 x370 x378 = some x → evC X (evF X k) k 0 l_law20_EnvelopeAnswers_2 ⟨[(2, (I p3)), (3, (I p4)), (4, (I p5)), (13, (.one (.ptr 0 0 0))), (16, (I x10)), (18, (.one (.ptr 1 0 0))), (20, (I x306)), (76, (.one (.d (.list (x11.map e_st0))))), (77, (I x12)), (78, (I x213)), (87, (LI x214)), (88, (I x215)), (89, (I x365)), (196, (LI x366)), (197, (I x367)), (198, (I x378))], [.cells [.d (.list (x14.map (D.int .i64))), .d (.int .i64 x370)], .cells [.d (.list (x219.map (D.int .i64))), .d (.list (x220.map (D.int .i64)))]]⟩ = some (outS (fun (s : Int) => ⟨[(2, (I p3)), (3, (I p4)), (4, (I p5)), (13, (.one (.ptr 0 0 0))), (16, (I x10)), (18, (.one (.ptr 1 0 0))), (20, (I x306)), (76, (.one (.d (.list (x11.map e_st0))))), (77, (I x12)), (78, (I x213)), (87, (LI x214)), (88, (I x215)), (89, (I x365)), (196, (LI x366)), (197, (I x367)), (198, (I s))], [.cells [.d (.list (x14.map (D.int .i64))), .d (.int .i64 x370)], .cells [.d (.list (x219.map (D.int .i64))), .d (.list (x220.map (D.int .i64)))]]⟩) (fun (r : Unit ⊕ Unit) => Sum.elim (fun y => (.exit 6, ⟨[(2, (I p3)), (3, (I p4)), (4, (I p5)), (13, (.one (.ptr 0 0 0))), (16, (I x10)), (18, (.one (.ptr 1 0 0))), (76, (.one (.d (.list (x11.map e_st0))))), (77, (I x12)), (78, (I x213)), (87, (LI x214)), (88, (I x215)), (89, (I x365))], [.cells [.d (.list (x14.map (D.int .i64))), .d (.int .i64 x370)], .cells [.d (.list (x219.map (D.int .i64))), .d (.list (x220.map (D.int .i64)))]]⟩)) (fun y => (.ret, ⟨[(12, (B false))], []⟩)) r) x) := by
 intro x378 x H
 unfold T_law20_EnvelopeAnswers_l2 at H
 refine K_in ?_
 refine K_seq ?_
 refine K_reg [] [] ⟨[(2, (I p3)), (3, (I p4)), (4, (I p5)), (13, (.one (.ptr 0 0 0))), (16, (I x10)), (18, (.one (.ptr 1 0 0))), (20, (I x306)), (76, (.one (.d (.list (x11.map e_st0))))), (77, (I x12)), (78, (I x213)), (87, (LI x214)), (88, (I x215)), (89, (I x365)), (196, (LI x366)), (197, (I x367)), (198, (I x378)), (199, (B (decide (x378 < x367))))], [.cells [.d (.list (x14.map (D.int .i64))), .d (.int .i64 x370)], .cells [.d (.list (x219.map (D.int .i64))), .d (.list (x220.map (D.int .i64)))]]⟩ (by kernel_rfl) trivial ?_
 refine K_seq ?_
 rcases ite_some H with ⟨hx379, H⟩ | ⟨hx379, H⟩
 · refine K_t rfl (decide_eq_true hx379) ?_
   refine K_gh ⟨[(2, (I p3)), (3, (I p4)), (4, (I p5)), (13, (.one (.ptr 0 0 0))), (16, (I x10)), (18, (.one (.ptr 1 0 0))), (20, (I x306)), (76, (.one (.d (.list (x11.map e_st0))))), (77, (I x12)), (78, (I x213)), (87, (LI x214)), (88, (I x215)), (89, (I x365)), (196, (LI x366)), (197, (I x367)), (198, (I x378))], [.cells [.d (.list (x14.map (D.int .i64))), .d (.int .i64 x370)], .cells [.d (.list (x219.map (D.int .i64))), .d (.list (x220.map (D.int .i64)))]]⟩ (by kernel_rfl) ?_
   refine K_skip ?_
   refine K_seq ?_
   refine K_block ?_
   refine K_seq ?_
   obtain ⟨x380, hx380, H⟩ := bind_some' H
   refine K_reg [.l [.int .i64 x380]] [(0 : Int) ≤ x378 ∧ x378 < (((x366.map (D.int .i64))).length : Int), ((x366.map (D.int .i64)).getD x378.toNat (.int .i64 0)).cells = [.int .i64 x380]] ⟨[(2, (I p3)), (3, (I p4)), (4, (I p5)), (13, (.one (.ptr 0 0 0))), (16, (I x10)), (18, (.one (.ptr 1 0 0))), (20, (I x306)), (38, (I x380)), (76, (.one (.d (.list (x11.map e_st0))))), (77, (I x12)), (78, (I x213)), (87, (LI x214)), (88, (I x215)), (89, (I x365)), (196, (LI x366)), (197, (I x367)), (198, (I x378))], [.cells [.d (.list (x14.map (D.int .i64))), .d (.int .i64 x370)], .cells [.d (.list (x219.map (D.int .i64))), .d (.list (x220.map (D.int .i64)))]]⟩ (by kernel_rfl) (AC (at_ok hx380 (D.int .i64) (.int .i64 0)).1 (A1 (at_ok hx380 (D.int .i64) (.int .i64 0)).2)) ?_
   refine K_seq ?_
   obtain ⟨x381, hx381, H⟩ := bind_some' H
   refine K_reg [.r (.tup [(true, [.d (.int .i64 x381.1), .d (.int .i64 x381.2.1)]), (false, [.d (.int .i64 x381.2.2)])]) []] [(0 : Int) ≤ 0 ∧ 0 < ((2 : Nat) : Int), (0 : Int) ≤ 1 ∧ 1 < ((2 : Nat) : Int), evF X k n_envelope_Pieces [(LI x219), (LI x220), (I x306), (I x380)] [] = some ((.tup [(true, [.d (.int .i64 x381.1), .d (.int .i64 x381.2.1)]), (false, [.d (.int .i64 x381.2.2)])]), [])] ⟨[(2, (I p3)), (3, (I p4)), (4, (I p5)), (13, (.one (.ptr 0 0 0))), (16, (I x10)), (18, (.one (.ptr 1 0 0))), (20, (I x306)), (38, (I x380)), (39, (.one (.ptr 2 0 0))), (40, (I x381.2.2)), (76, (.one (.d (.list (x11.map e_st0))))), (77, (I x12)), (78, (I x213)), (87, (LI x214)), (88, (I x215)), (89, (I x365)), (196, (LI x366)), (197, (I x367)), (198, (I x378))], [.cells [.d (.list (x14.map (D.int .i64))), .d (.int .i64 x370)], .cells [.d (.list (x219.map (D.int .i64))), .d (.list (x220.map (D.int .i64)))], .cells [.d (.int .i64 x381.1), .d (.int .i64 x381.2.1)]]⟩ (by kernel_rfl) (AC (by decide) (AC (by decide) (A1 (T_envelope_Pieces_ok k x219 x220 x306 x380 x381 hx381)))) ?_
   refine K_seq ?_
   obtain ⟨x382, hx382, H⟩ := bind_some' H
   refine K_reg [.r (.tup [(true, [.d (.int .i64 x382.1), .d (.int .i64 x382.2.1)]), (false, [.d (.int .i64 x382.2.2)])]) []] [(0 : Int) ≤ 0 ∧ 0 < ((2 : Nat) : Int), (0 : Int) ≤ 1 ∧ 1 < ((2 : Nat) : Int), evF X k n_ref20_Pieces [(LI x219), (LI x220), (I x306), (I x380)] [] = some ((.tup [(true, [.d (.int .i64 x382.1), .d (.int .i64 x382.2.1)]), (false, [.d (.int .i64 x382.2.2)])]), [])] ⟨[(2, (I p3)), (3, (I p4)), (4, (I p5)), (13, (.one (.ptr 0 0 0))), (16, (I x10)), (18, (.one (.ptr 1 0 0))), (20, (I x306)), (39, (.one (.ptr 2 0 0))), (40, (I x381.2.2)), (41, (.one (.ptr 3 0 0))), (42, (I x382.2.2)), (76, (.one (.d (.list (x11.map e_st0))))), (77, (I x12)), (78, (I x213)), (87, (LI x214)), (88, (I x215)), (89, (I x365)), (196, (LI x366)), (197, (I x367)), (198, (I x378))], [.cells [.d (.list (x14.map (D.int .i64))), .d (.int .i64 x370)], .cells [.d (.list (x219.map (D.int .i64))), .d (.list (x220.map (D.int .i64)))], .cells [.d (.int .i64 x381.1), .d (.int .i64 x381.2.1)], .cells [.d (.int .i64 x382.1), .d (.int .i64 x382.2.1)]]⟩ (by kernel_rfl) (AC (by decide) (AC (by decide) (A1 (T_ref20_Pieces_ok k x219 x220 x306 x380 x382 hx382)))) ?_
   refine K_seq ?_
   refine K_reg [.m] [([.cells [.d (.list (x14.map (D.int .i64))), .d (.int .i64 x370)], .cells [.d (.list (x219.map (D.int .i64))), .d (.list (x220.map (D.int .i64)))], .cells [.d (.int .i64 x381.1), .d (.int .i64 x381.2.1)], .cells [.d (.int .i64 x382.1), .d (.int .i64 x382.2.1)]] : Heap) = [.cells [.d (.list (x14.map (D.int .i64))), .d (.int .i64 x370)], .cells [.d (.list (x219.map (D.int .i64))), .d (.list (x220.map (D.int .i64)))], .cells [.d (.int .i64 x381.1), .d (.int .i64 x381.2.1)], .cells [.d (.int .i64 x382.1), .d (.int .i64 x382.2.1)]]] ⟨[(2, (I p3)), (3, (I p4)), (4, (I p5)), (13, (.one (.ptr 0 0 0))), (16, (I x10)), (18, (.one (.ptr 1 0 0))), (20, (I x306)), (76, (.one (.d (.list (x11.map e_st0))))), (77, (I x12)), (78, (I x213)), (87, (LI x214)), (88, (I x215)), (89, (I x365)), (196, (LI x366)), (197, (I x367)), (198, (I x378)), (229, (B ((!(decide (x381.1 = x382.1) && (decide (x381.2.1 = x382.2.1) && true))) || (!decide (x381.2.2 = x382.2.2)))))], [.cells [.d (.list (x14.map (D.int .i64))), .d (.int .i64 x370)], .cells [.d (.list (x219.map (D.int .i64))), .d (.list (x220.map (D.int .i64)))]]⟩ (by kernel_rfl) (A1 rfl) ?_
   rcases ite_some H with ⟨hx383, H⟩ | ⟨hx383, H⟩
   · refine K_t rfl hx383 ?_
     refine K_seq ?_
     refine K_reg [] [] ⟨[(12, (B false))], []⟩ (by kernel_rfl) trivial ?_
     refine K_gh ⟨[(12, (B false))], []⟩ (by kernel_rfl) ?_
     cases H
     exact K_ret rfl
   · refine K_f rfl (Bool.eq_false_iff.2 hx383) ?_
     refine K_gh ⟨[(2, (I p3)), (3, (I p4)), (4, (I p5)), (13, (.one (.ptr 0 0 0))), (16, (I x10)), (18, (.one (.ptr 1 0 0))), (20, (I x306)), (76, (.one (.d (.list (x11.map e_st0))))), (77, (I x12)), (78, (I x213)), (87, (LI x214)), (88, (I x215)), (89, (I x365)), (196, (LI x366)), (197, (I x367)), (198, (I x378))], [.cells [.d (.list (x14.map (D.int .i64))), .d (.int .i64 x370)], .cells [.d (.list (x219.map (D.int .i64))), .d (.list (x220.map (D.int .i64)))]]⟩ (by kernel_rfl) ?_
     refine K_skip ?_
     refine K_blk ?_
     refine K_reg [] [] ⟨[(2, (I p3)), (3, (I p4)), (4, (I p5)), (13, (.one (.ptr 0 0 0))), (16, (I x10)), (18, (.one (.ptr 1 0 0))), (20, (I x306)), (76, (.one (.d (.list (x11.map e_st0))))), (77, (I x12)), (78, (I x213)), (87, (LI x214)), (88, (I x215)), (89, (I x365)), (196, (LI x366)), (197, (I x367)), (198, (I (w64 (x378 + 1))))], [.cells [.d (.list (x14.map (D.int .i64))), .d (.int .i64 x370)], .cells [.d (.list (x219.map (D.int .i64))), .d (.list (x220.map (D.int .i64)))]]⟩ (by kernel_rfl) trivial ?_
     cases H
     exact K_end rfl
 · refine K_f rfl (decide_eq_false hx379) ?_
   refine K_gh ⟨[(2, (I p3)), (3, (I p4)), (4, (I p5)), (13, (.one (.ptr 0 0 0))), (16, (I x10)), (18, (.one (.ptr 1 0 0))), (76, (.one (.d (.list (x11.map e_st0))))), (77, (I x12)), (78, (I x213)), (87, (LI x214)), (88, (I x215)), (89, (I x365))], [.cells [.d (.list (x14.map (D.int .i64))), .d (.int .i64 x370)], .cells [.d (.list (x219.map (D.int .i64))), .d (.list (x220.map (D.int .i64)))]]⟩ (by kernel_rfl) ?_
   cases H
   exact K_exit0 rfl rfl
def T_law20_EnvelopeAnswers_l3 (k : Nat) (p3 : Int) (p4 : Int) (p5 : Int) (x10 : Int) (x11 : List ((List Int) × (List Int))) (x12 : Int) (x14 : List Int) (x213 : Int) (x214 : List Int) (x215 : Int) (x219 : List Int) (x220 : List Int) (x304 : Int × Int) : Option ((Int × Int) ⊕ (Int ⊕ Unit)) :=
 (if x304.1 < x215 then ((at? x214 x304.1).bind fun x306 => (T_keep_Mod k p4 40).bind fun x307 => (loopT (T_law20_EnvelopeAnswers_l1 k p3 p4 p5 x10 x11 x12 x14 x213 x214 x215 x219 x220 x306 x304.1 ([p4, (x220.length : Int), x307] : List Int) (([p4, (x220.length : Int), x307] : List Int).length : Int) x304.2) k 0).bind fun x347 => (match x347 with | .inl x348 => ((T_envelope_Keogh k x219 x220 x306).bind fun x349 => (T_ref20_Keogh k x219 x220 x306).bind fun x350 => (T_envelope_Improved k x219 x220 x306).bind fun x351 => (T_ref20_Improved k x219 x220 x306).bind fun x352 => (if ((((!decide (x349.1 = x350.1)) || (!decide (x349.2 = x350.2))) || (!decide (x351.1 = x352.1))) || (!decide (x351.2 = x352.2))) = true then some (.inr (.inr ())) else ((T_keep_Src_Range k 0 9 x14 x304.2).bind fun x354 => (loopT (T_law20_EnvelopeAnswers_l2 k p3 p4 p5 x10 x11 x12 x14 x213 x214 x215 x219 x220 x306 x304.1 ([p5, x354.1] : List Int) (([p5, x354.1] : List Int).length : Int) x354.2) k 0).bind fun x384 => (match x384 with | .inl x385 => some (.inl ((w64 (x304.1 + 1)), x354.2)) | .inr x386 => some (.inr (.inr ())))))) | .inr x387 => some (.inr (.inr ())))) else some (.inr (.inl x304.2)))
theorem T_law20_EnvelopeAnswers_l3_ok (k : Nat) (p3 : Int) (p4 : Int) (p5 : Int) (x10 : Int) (x11 : List ((List Int) × (List Int))) (x12 : Int) (x14 : List Int) (x213 : Int) (x214 : List Int) (x215 : Int) (x219 : List Int) (x220 : List Int) : ∀ (x304 : Int × Int) (x : (Int × Int) ⊕ (Int ⊕ Unit)), T_law20_EnvelopeAnswers_l3 k p3 p4 p5 x10 x11 x12 x14 x213 x214 x215 x219 x220 x304 = some x → evC X (evF X k) k 0 l_law20_EnvelopeAnswers_3 ⟨[(2, (I p3)), (3, (I p4)), (4, (I p5)), (13, (.one (.ptr 0 0 0))), (16, (I x10)), (18, (.one (.ptr 1 0 0))), (76, (.one (.d (.list (x11.map e_st0))))), (77, (I x12)), (78, (I x213)), (87, (LI x214)), (88, (I x215)), (89, (I x304.1))], [.cells [.d (.list (x14.map (D.int .i64))), .d (.int .i64 x304.2)], .cells [.d (.list (x219.map (D.int .i64))), .d (.list (x220.map (D.int .i64)))]]⟩ = some (outS (fun (s : Int × Int) => ⟨[(2, (I p3)), (3, (I p4)), (4, (I p5)), (13, (.one (.ptr 0 0 0))), (16, (I x10)), (18, (.one (.ptr 1 0 0))), (76, (.one (.d (.list (x11.map e_st0))))), (77, (I x12)), (78, (I x213)), (87, (LI x214)), (88, (I x215)), (89, (I s.1))], [.cells [.d (.list (x14.map (D.int .i64))), .d (.int .i64 s.2)], .cells [.d (.list (x219.map (D.int .i64))), .d (.list (x220.map (D.int .i64)))]]⟩) (fun (r : Int ⊕ Unit) => Sum.elim (fun y => (.exit 2, ⟨[(2, (I p3)), (3, (I p4)), (4, (I p5)), (13, (.one (.ptr 0 0 0))), (16, (I x10)), (76, (.one (.d (.list (x11.map e_st0))))), (77, (I x12)), (78, (I x213))], [.cells [.d (.list (x14.map (D.int .i64))), .d (.int .i64 y)]]⟩)) (fun y => (.ret, ⟨[(12, (B false))], []⟩)) r) x) := by
 intro x304 x H
 unfold T_law20_EnvelopeAnswers_l3 at H
 refine K_in ?_
 refine K_seq ?_
 refine K_reg [] [] ⟨[(2, (I p3)), (3, (I p4)), (4, (I p5)), (13, (.one (.ptr 0 0 0))), (16, (I x10)), (18, (.one (.ptr 1 0 0))), (76, (.one (.d (.list (x11.map e_st0))))), (77, (I x12)), (78, (I x213)), (87, (LI x214)), (88, (I x215)), (89, (I x304.1)), (90, (B (decide (x304.1 < x215))))], [.cells [.d (.list (x14.map (D.int .i64))), .d (.int .i64 x304.2)], .cells [.d (.list (x219.map (D.int .i64))), .d (.list (x220.map (D.int .i64)))]]⟩ (by kernel_rfl) trivial ?_
 refine K_seq ?_
 rcases ite_some H with ⟨hx305, H⟩ | ⟨hx305, H⟩
 · refine K_t rfl (decide_eq_true hx305) ?_
   refine K_gh ⟨[(2, (I p3)), (3, (I p4)), (4, (I p5)), (13, (.one (.ptr 0 0 0))), (16, (I x10)), (18, (.one (.ptr 1 0 0))), (76, (.one (.d (.list (x11.map e_st0))))), (77, (I x12)), (78, (I x213)), (87, (LI x214)), (88, (I x215)), (89, (I x304.1))], [.cells [.d (.list (x14.map (D.int .i64))), .d (.int .i64 x304.2)], .cells [.d (.list (x219.map (D.int .i64))), .d (.list (x220.map (D.int .i64)))]]⟩ (by kernel_rfl) ?_
   refine K_skip ?_
   refine K_seq ?_
   refine K_block ?_
   refine K_seq ?_
   obtain ⟨x306, hx306, H⟩ := bind_some' H
   refine K_reg [.l [.int .i64 x306]] [(0 : Int) ≤ x304.1 ∧ x304.1 < (((x214.map (D.int .i64))).length : Int), ((x214.map (D.int .i64)).getD x304.1.toNat (.int .i64 0)).cells = [.int .i64 x306]] ⟨[(2, (I p3)), (3, (I p4)), (4, (I p5)), (13, (.one (.ptr 0 0 0))), (16, (I x10)), (18, (.one (.ptr 1 0 0))), (20, (I x306)), (76, (.one (.d (.list (x11.map e_st0))))), (77, (I x12)), (78, (I x213)), (87, (LI x214)), (88, (I x215)), (89, (I x304.1))], [.cells [.d (.list (x14.map (D.int .i64))), .d (.int .i64 x304.2)], .cells [.d (.list (x219.map (D.int .i64))), .d (.list (x220.map (D.int .i64)))]]⟩ (by kernel_rfl) (AC (at_ok hx306 (D.int .i64) (.int .i64 0)).1 (A1 (at_ok hx306 (D.int .i64) (.int .i64 0)).2)) ?_
   refine K_seq ?_
   refine K_seq ?_
   obtain ⟨x307, hx307, H⟩ := bind_some' H
   refine K_reg [.n x220.length, .r (I x307) [], .n ([p4, (x220.length : Int), x307] : List Int).length] [(0 : Int) ≤ 1 ∧ 1 < ((2 : Nat) : Int), ((x220.map (D.int .i64))).length = x220.length, evF X k n_keep_Mod [(I p4), (I 40)] [] = some ((I x307), []), ((([p4, (x220.length : Int), x307] : List Int).map (D.int .i64))).length = ([p4, (x220.length : Int), x307] : List Int).length] ⟨[(2, (I p3)), (3, (I p4)), (4, (I p5)), (13, (.one (.ptr 0 0 0))), (16, (I x10)), (18, (.one (.ptr 1 0 0))), (20, (I x306)), (76, (.one (.d (.list (x11.map e_st0))))), (77, (I x12)), (78, (I x213)), (87, (LI x214)), (88, (I x215)), (89, (I x304.1)), (99, (LI ([p4, (x220.length : Int), x307] : List Int))), (100, (I (([p4, (x220.length : Int), x307] : List Int).length : Int))), (101, (I 0))], [.cells [.d (.list (x14.map (D.int .i64))), .d (.int .i64 x304.2)], .cells [.d (.list (x219.map (D.int .i64))), .d (.list (x220.map (D.int .i64)))]]⟩ (by kernel_rfl) (AC (by decide) (AC (List.length_map _) (AC (T_keep_Mod_ok k p4 40 x307 hx307) (A1 (List.length_map _))))) ?_
   refine K_block ?_
   obtain ⟨x347, hx347, H⟩ := bind_some' H
   cases x347 with
   | inl x348 =>
    dsimp only at H
    refine K_loop ⟨[(2, (I p3)), (3, (I p4)), (4, (I p5)), (13, (.one (.ptr 0 0 0))), (16, (I x10)), (18, (.one (.ptr 1 0 0))), (20, (I x306)), (76, (.one (.d (.list (x11.map e_st0))))), (77, (I x12)), (78, (I x213)), (87, (LI x214)), (88, (I x215)), (89, (I x304.1))], [.cells [.d (.list (x14.map (D.int .i64))), .d (.int .i64 x304.2)], .cells [.d (.list (x219.map (D.int .i64))), .d (.list (x220.map (D.int .i64)))]]⟩ (loop_ok (fun (s : Int) => ⟨[(2, (I p3)), (3, (I p4)), (4, (I p5)), (13, (.one (.ptr 0 0 0))), (16, (I x10)), (18, (.one (.ptr 1 0 0))), (20, (I x306)), (76, (.one (.d (.list (x11.map e_st0))))), (77, (I x12)), (78, (I x213)), (87, (LI x214)), (88, (I x215)), (89, (I x304.1)), (99, (LI ([p4, (x220.length : Int), x307] : List Int))), (100, (I (([p4, (x220.length : Int), x307] : List Int).length : Int))), (101, (I s))], [.cells [.d (.list (x14.map (D.int .i64))), .d (.int .i64 x304.2)], .cells [.d (.list (x219.map (D.int .i64))), .d (.list (x220.map (D.int .i64)))]]⟩) (fun (r : Unit ⊕ Unit) => Sum.elim (fun y => (.exit 4, ⟨[(2, (I p3)), (3, (I p4)), (4, (I p5)), (13, (.one (.ptr 0 0 0))), (16, (I x10)), (18, (.one (.ptr 1 0 0))), (20, (I x306)), (76, (.one (.d (.list (x11.map e_st0))))), (77, (I x12)), (78, (I x213)), (87, (LI x214)), (88, (I x215)), (89, (I x304.1))], [.cells [.d (.list (x14.map (D.int .i64))), .d (.int .i64 x304.2)], .cells [.d (.list (x219.map (D.int .i64))), .d (.list (x220.map (D.int .i64)))]]⟩)) (fun y => (.ret, ⟨[(12, (B false))], []⟩)) r) (fun r h => by cases r <;> cases h) (T_law20_EnvelopeAnswers_l1_ok k p3 p4 p5 x10 x11 x12 x14 x213 x214 x215 x219 x220 x306 x304.1 ([p4, (x220.length : Int), x307] : List Int) (([p4, (x220.length : Int), x307] : List Int).length : Int) x304.2) k 0 (.inl x348) hx347) rfl ?_
    refine K_seq ?_
    obtain ⟨x349, hx349, H⟩ := bind_some' H
    refine K_reg [.r (.tup [(false, [.d (.int .i64 x349.1)]), (false, [.d (.int .i64 x349.2)])]) []] [(0 : Int) ≤ 0 ∧ 0 < ((2 : Nat) : Int), (0 : Int) ≤ 1 ∧ 1 < ((2 : Nat) : Int), evF X k n_envelope_Keogh [(LI x219), (LI x220), (I x306)] [] = some ((.tup [(false, [.d (.int .i64 x349.1)]), (false, [.d (.int .i64 x349.2)])]), [])] ⟨[(2, (I p3)), (3, (I p4)), (4, (I p5)), (13, (.one (.ptr 0 0 0))), (16, (I x10)), (18, (.one (.ptr 1 0 0))), (20, (I x306)), (29, (I x349.1)), (30, (I x349.2)), (76, (.one (.d (.list (x11.map e_st0))))), (77, (I x12)), (78, (I x213)), (87, (LI x214)), (88, (I x215)), (89, (I x304.1))], [.cells [.d (.list (x14.map (D.int .i64))), .d (.int .i64 x304.2)], .cells [.d (.list (x219.map (D.int .i64))), .d (.list (x220.map (D.int .i64)))]]⟩ (by kernel_rfl) (AC (by decide) (AC (by decide) (A1 (T_envelope_Keogh_ok k x219 x220 x306 x349 hx349)))) ?_
    refine K_seq ?_
    obtain ⟨x350, hx350, H⟩ := bind_some' H
    refine K_reg [.r (.tup [(false, [.d (.int .i64 x350.1)]), (false, [.d (.int .i64 x350.2)])]) []] [(0 : Int) ≤ 0 ∧ 0 < ((2 : Nat) : Int), (0 : Int) ≤ 1 ∧ 1 < ((2 : Nat) : Int), evF X k n_ref20_Keogh [(LI x219), (LI x220), (I x306)] [] = some ((.tup [(false, [.d (.int .i64 x350.1)]), (false, [.d (.int .i64 x350.2)])]), [])] ⟨[(2, (I p3)), (3, (I p4)), (4, (I p5)), (13, (.one (.ptr 0 0 0))), (16, (I x10)), (18, (.one (.ptr 1 0 0))), (20, (I x306)), (29, (I x349.1)), (30, (I x349.2)), (31, (I x350.1)), (32, (I x350.2)), (76, (.one (.d (.list (x11.map e_st0))))), (77, (I x12)), (78, (I x213)), (87, (LI x214)), (88, (I x215)), (89, (I x304.1))], [.cells [.d (.list (x14.map (D.int .i64))), .d (.int .i64 x304.2)], .cells [.d (.list (x219.map (D.int .i64))), .d (.list (x220.map (D.int .i64)))]]⟩ (by kernel_rfl) (AC (by decide) (AC (by decide) (A1 (T_ref20_Keogh_ok k x219 x220 x306 x350 hx350)))) ?_
    refine K_seq ?_
    obtain ⟨x351, hx351, H⟩ := bind_some' H
    refine K_reg [.r (.tup [(false, [.d (.int .i64 x351.1)]), (false, [.d (.int .i64 x351.2)])]) []] [(0 : Int) ≤ 0 ∧ 0 < ((2 : Nat) : Int), (0 : Int) ≤ 1 ∧ 1 < ((2 : Nat) : Int), evF X k n_envelope_Improved [(LI x219), (LI x220), (I x306)] [] = some ((.tup [(false, [.d (.int .i64 x351.1)]), (false, [.d (.int .i64 x351.2)])]), [])] ⟨[(2, (I p3)), (3, (I p4)), (4, (I p5)), (13, (.one (.ptr 0 0 0))), (16, (I x10)), (18, (.one (.ptr 1 0 0))), (20, (I x306)), (29, (I x349.1)), (30, (I x349.2)), (31, (I x350.1)), (32, (I x350.2)), (33, (I x351.1)), (34, (I x351.2)), (76, (.one (.d (.list (x11.map e_st0))))), (77, (I x12)), (78, (I x213)), (87, (LI x214)), (88, (I x215)), (89, (I x304.1))], [.cells [.d (.list (x14.map (D.int .i64))), .d (.int .i64 x304.2)], .cells [.d (.list (x219.map (D.int .i64))), .d (.list (x220.map (D.int .i64)))]]⟩ (by kernel_rfl) (AC (by decide) (AC (by decide) (A1 (T_envelope_Improved_ok k x219 x220 x306 x351 hx351)))) ?_
    refine K_seq ?_
    obtain ⟨x352, hx352, H⟩ := bind_some' H
    refine K_reg [.r (.tup [(false, [.d (.int .i64 x352.1)]), (false, [.d (.int .i64 x352.2)])]) []] [(0 : Int) ≤ 0 ∧ 0 < ((2 : Nat) : Int), (0 : Int) ≤ 1 ∧ 1 < ((2 : Nat) : Int), evF X k n_ref20_Improved [(LI x219), (LI x220), (I x306)] [] = some ((.tup [(false, [.d (.int .i64 x352.1)]), (false, [.d (.int .i64 x352.2)])]), [])] ⟨[(2, (I p3)), (3, (I p4)), (4, (I p5)), (13, (.one (.ptr 0 0 0))), (16, (I x10)), (18, (.one (.ptr 1 0 0))), (20, (I x306)), (29, (I x349.1)), (30, (I x349.2)), (31, (I x350.1)), (32, (I x350.2)), (33, (I x351.1)), (34, (I x351.2)), (35, (I x352.1)), (36, (I x352.2)), (76, (.one (.d (.list (x11.map e_st0))))), (77, (I x12)), (78, (I x213)), (87, (LI x214)), (88, (I x215)), (89, (I x304.1))], [.cells [.d (.list (x14.map (D.int .i64))), .d (.int .i64 x304.2)], .cells [.d (.list (x219.map (D.int .i64))), .d (.list (x220.map (D.int .i64)))]]⟩ (by kernel_rfl) (AC (by decide) (AC (by decide) (A1 (T_ref20_Improved_ok k x219 x220 x306 x352 hx352)))) ?_
    refine K_seq ?_
    refine K_seq ?_
    refine K_reg [.m, .m, .m] [([.cells [.d (.list (x14.map (D.int .i64))), .d (.int .i64 x304.2)], .cells [.d (.list (x219.map (D.int .i64))), .d (.list (x220.map (D.int .i64)))]] : Heap) = [.cells [.d (.list (x14.map (D.int .i64))), .d (.int .i64 x304.2)], .cells [.d (.list (x219.map (D.int .i64))), .d (.list (x220.map (D.int .i64)))]], ([.cells [.d (.list (x14.map (D.int .i64))), .d (.int .i64 x304.2)], .cells [.d (.list (x219.map (D.int .i64))), .d (.list (x220.map (D.int .i64)))]] : Heap) = [.cells [.d (.list (x14.map (D.int .i64))), .d (.int .i64 x304.2)], .cells [.d (.list (x219.map (D.int .i64))), .d (.list (x220.map (D.int .i64)))]], ([.cells [.d (.list (x14.map (D.int .i64))), .d (.int .i64 x304.2)], .cells [.d (.list (x219.map (D.int .i64))), .d (.list (x220.map (D.int .i64)))]] : Heap) = [.cells [.d (.list (x14.map (D.int .i64))), .d (.int .i64 x304.2)], .cells [.d (.list (x219.map (D.int .i64))), .d (.list (x220.map (D.int .i64)))]]] ⟨[(2, (I p3)), (3, (I p4)), (4, (I p5)), (13, (.one (.ptr 0 0 0))), (16, (I x10)), (18, (.one (.ptr 1 0 0))), (20, (I x306)), (76, (.one (.d (.list (x11.map e_st0))))), (77, (I x12)), (78, (I x213)), (87, (LI x214)), (88, (I x215)), (89, (I x304.1)), (192, (B ((((!decide (x349.1 = x350.1)) || (!decide (x349.2 = x350.2))) || (!decide (x351.1 = x352.1))) || (!decide (x351.2 = x352.2)))))], [.cells [.d (.list (x14.map (D.int .i64))), .d (.int .i64 x304.2)], .cells [.d (.list (x219.map (D.int .i64))), .d (.list (x220.map (D.int .i64)))]]⟩ (by kernel_rfl) (AC rfl (AC rfl (A1 rfl))) ?_
    rcases ite_some H with ⟨hx353, H⟩ | ⟨hx353, H⟩
    · refine K_t rfl hx353 ?_
      refine K_seq ?_
      refine K_reg [] [] ⟨[(12, (B false))], []⟩ (by kernel_rfl) trivial ?_
      refine K_gh ⟨[(12, (B false))], []⟩ (by kernel_rfl) ?_
      cases H
      exact K_ret rfl
    · refine K_f rfl (Bool.eq_false_iff.2 hx353) ?_
      refine K_gh ⟨[(2, (I p3)), (3, (I p4)), (4, (I p5)), (13, (.one (.ptr 0 0 0))), (16, (I x10)), (18, (.one (.ptr 1 0 0))), (20, (I x306)), (76, (.one (.d (.list (x11.map e_st0))))), (77, (I x12)), (78, (I x213)), (87, (LI x214)), (88, (I x215)), (89, (I x304.1))], [.cells [.d (.list (x14.map (D.int .i64))), .d (.int .i64 x304.2)], .cells [.d (.list (x219.map (D.int .i64))), .d (.list (x220.map (D.int .i64)))]]⟩ (by kernel_rfl) ?_
      refine K_skip ?_
      refine K_seq ?_
      obtain ⟨x354, hx354, H⟩ := bind_some' H
      refine K_reg [.r (I x354.1) [.cells [.d (.list (x14.map (D.int .i64))), .d (.int .i64 x354.2)]], .n ([p5, x354.1] : List Int).length] [evF X k n_keep_Src_Range [(.one (.ptr 0 0 0)), (I 0), (I 9)] [.cells [.d (.list (x14.map (D.int .i64))), .d (.int .i64 x304.2)]] = some ((I x354.1), [.cells [.d (.list (x14.map (D.int .i64))), .d (.int .i64 x354.2)]]), ((([p5, x354.1] : List Int).map (D.int .i64))).length = ([p5, x354.1] : List Int).length] ⟨[(2, (I p3)), (3, (I p4)), (4, (I p5)), (13, (.one (.ptr 0 0 0))), (16, (I x10)), (18, (.one (.ptr 1 0 0))), (20, (I x306)), (76, (.one (.d (.list (x11.map e_st0))))), (77, (I x12)), (78, (I x213)), (87, (LI x214)), (88, (I x215)), (89, (I x304.1)), (196, (LI ([p5, x354.1] : List Int))), (197, (I (([p5, x354.1] : List Int).length : Int))), (198, (I 0))], [.cells [.d (.list (x14.map (D.int .i64))), .d (.int .i64 x354.2)], .cells [.d (.list (x219.map (D.int .i64))), .d (.list (x220.map (D.int .i64)))]]⟩ (by kernel_rfl) (AC (T_keep_Src_Range_ok k 0 9 x14 x304.2 x354 hx354) (A1 (List.length_map _))) ?_
      refine K_block ?_
      obtain ⟨x384, hx384, H⟩ := bind_some' H
      cases x384 with
      | inl x385 =>
       dsimp only at H
       refine K_loop ⟨[(2, (I p3)), (3, (I p4)), (4, (I p5)), (13, (.one (.ptr 0 0 0))), (16, (I x10)), (18, (.one (.ptr 1 0 0))), (76, (.one (.d (.list (x11.map e_st0))))), (77, (I x12)), (78, (I x213)), (87, (LI x214)), (88, (I x215)), (89, (I x304.1))], [.cells [.d (.list (x14.map (D.int .i64))), .d (.int .i64 x354.2)], .cells [.d (.list (x219.map (D.int .i64))), .d (.list (x220.map (D.int .i64)))]]⟩ (loop_ok (fun (s : Int) => ⟨[(2, (I p3)), (3, (I p4)), (4, (I p5)), (13, (.one (.ptr 0 0 0))), (16, (I x10)), (18, (.one (.ptr 1 0 0))), (20, (I x306)), (76, (.one (.d (.list (x11.map e_st0))))), (77, (I x12)), (78, (I x213)), (87, (LI x214)), (88, (I x215)), (89, (I x304.1)), (196, (LI ([p5, x354.1] : List Int))), (197, (I (([p5, x354.1] : List Int).length : Int))), (198, (I s))], [.cells [.d (.list (x14.map (D.int .i64))), .d (.int .i64 x354.2)], .cells [.d (.list (x219.map (D.int .i64))), .d (.list (x220.map (D.int .i64)))]]⟩) (fun (r : Unit ⊕ Unit) => Sum.elim (fun y => (.exit 6, ⟨[(2, (I p3)), (3, (I p4)), (4, (I p5)), (13, (.one (.ptr 0 0 0))), (16, (I x10)), (18, (.one (.ptr 1 0 0))), (76, (.one (.d (.list (x11.map e_st0))))), (77, (I x12)), (78, (I x213)), (87, (LI x214)), (88, (I x215)), (89, (I x304.1))], [.cells [.d (.list (x14.map (D.int .i64))), .d (.int .i64 x354.2)], .cells [.d (.list (x219.map (D.int .i64))), .d (.list (x220.map (D.int .i64)))]]⟩)) (fun y => (.ret, ⟨[(12, (B false))], []⟩)) r) (fun r h => by cases r <;> cases h) (T_law20_EnvelopeAnswers_l2_ok k p3 p4 p5 x10 x11 x12 x14 x213 x214 x215 x219 x220 x306 x304.1 ([p5, x354.1] : List Int) (([p5, x354.1] : List Int).length : Int) x354.2) k 0 (.inl x385) hx384) rfl ?_
       refine K_blk ?_
       refine K_reg [] [] ⟨[(2, (I p3)), (3, (I p4)), (4, (I p5)), (13, (.one (.ptr 0 0 0))), (16, (I x10)), (18, (.one (.ptr 1 0 0))), (76, (.one (.d (.list (x11.map e_st0))))), (77, (I x12)), (78, (I x213)), (87, (LI x214)), (88, (I x215)), (89, (I (w64 (x304.1 + 1))))], [.cells [.d (.list (x14.map (D.int .i64))), .d (.int .i64 x354.2)], .cells [.d (.list (x219.map (D.int .i64))), .d (.list (x220.map (D.int .i64)))]]⟩ (by kernel_rfl) trivial ?_
       cases H
       exact K_end rfl
      | inr x386 =>
       dsimp only at H
       cases H
       exact K_loopr ⟨[(12, (B false))], []⟩ (loop_ok (fun (s : Int) => ⟨[(2, (I p3)), (3, (I p4)), (4, (I p5)), (13, (.one (.ptr 0 0 0))), (16, (I x10)), (18, (.one (.ptr 1 0 0))), (20, (I x306)), (76, (.one (.d (.list (x11.map e_st0))))), (77, (I x12)), (78, (I x213)), (87, (LI x214)), (88, (I x215)), (89, (I x304.1)), (196, (LI ([p5, x354.1] : List Int))), (197, (I (([p5, x354.1] : List Int).length : Int))), (198, (I s))], [.cells [.d (.list (x14.map (D.int .i64))), .d (.int .i64 x354.2)], .cells [.d (.list (x219.map (D.int .i64))), .d (.list (x220.map (D.int .i64)))]]⟩) (fun (r : Unit ⊕ Unit) => Sum.elim (fun y => (.exit 6, ⟨[(2, (I p3)), (3, (I p4)), (4, (I p5)), (13, (.one (.ptr 0 0 0))), (16, (I x10)), (18, (.one (.ptr 1 0 0))), (76, (.one (.d (.list (x11.map e_st0))))), (77, (I x12)), (78, (I x213)), (87, (LI x214)), (88, (I x215)), (89, (I x304.1))], [.cells [.d (.list (x14.map (D.int .i64))), .d (.int .i64 x354.2)], .cells [.d (.list (x219.map (D.int .i64))), .d (.list (x220.map (D.int .i64)))]]⟩)) (fun y => (.ret, ⟨[(12, (B false))], []⟩)) r) (fun r h => by cases r <;> cases h) (T_law20_EnvelopeAnswers_l2_ok k p3 p4 p5 x10 x11 x12 x14 x213 x214 x215 x219 x220 x306 x304.1 ([p5, x354.1] : List Int) (([p5, x354.1] : List Int).length : Int) x354.2) k 0 (.inr x386) hx384) rfl
   | inr x387 =>
    dsimp only at H
    cases H
    exact K_loopr ⟨[(12, (B false))], []⟩ (loop_ok (fun (s : Int) => ⟨[(2, (I p3)), (3, (I p4)), (4, (I p5)), (13, (.one (.ptr 0 0 0))), (16, (I x10)), (18, (.one (.ptr 1 0 0))), (20, (I x306)), (76, (.one (.d (.list (x11.map e_st0))))), (77, (I x12)), (78, (I x213)), (87, (LI x214)), (88, (I x215)), (89, (I x304.1)), (99, (LI ([p4, (x220.length : Int), x307] : List Int))), (100, (I (([p4, (x220.length : Int), x307] : List Int).length : Int))), (101, (I s))], [.cells [.d (.list (x14.map (D.int .i64))), .d (.int .i64 x304.2)], .cells [.d (.list (x219.map (D.int .i64))), .d (.list (x220.map (D.int .i64)))]]⟩) (fun (r : Unit ⊕ Unit) => Sum.elim (fun y => (.exit 4, ⟨[(2, (I p3)), (3, (I p4)), (4, (I p5)), (13, (.one (.ptr 0 0 0))), (16, (I x10)), (18, (.one (.ptr 1 0 0))), (20, (I x306)), (76, (.one (.d (.list (x11.map e_st0))))), (77, (I x12)), (78, (I x213)), (87, (LI x214)), (88, (I x215)), (89, (I x304.1))], [.cells [.d (.list (x14.map (D.int .i64))), .d (.int .i64 x304.2)], .cells [.d (.list (x219.map (D.int .i64))), .d (.list (x220.map (D.int .i64)))]]⟩)) (fun y => (.ret, ⟨[(12, (B false))], []⟩)) r) (fun r h => by cases r <;> cases h) (T_law20_EnvelopeAnswers_l1_ok k p3 p4 p5 x10 x11 x12 x14 x213 x214 x215 x219 x220 x306 x304.1 ([p4, (x220.length : Int), x307] : List Int) (([p4, (x220.length : Int), x307] : List Int).length : Int) x304.2) k 0 (.inr x387) hx347) rfl
 · refine K_f rfl (decide_eq_false hx305) ?_
   refine K_gh ⟨[(2, (I p3)), (3, (I p4)), (4, (I p5)), (13, (.one (.ptr 0 0 0))), (16, (I x10)), (76, (.one (.d (.list (x11.map e_st0))))), (77, (I x12)), (78, (I x213))], [.cells [.d (.list (x14.map (D.int .i64))), .d (.int .i64 x304.2)]]⟩ (by kernel_rfl) ?_
   cases H
   exact K_exit0 rfl rfl
def T_law20_EnvelopeAnswers_l4 (k : Nat) (p3 : Int) (p4 : Int) (p5 : Int) (x10 : Int) (x11 : List ((List Int) × (List Int))) (x12 : Int) (x14 : List Int) (x203 : Int × Int) : Option ((Int × Int) ⊕ (Unit ⊕ Unit)) :=
 (if x203.1 < x12 then ((at? x11 x203.1).bind fun x205 => (T_keep_Mod k p3 35).bind fun x206 => (loopT (T_law20_EnvelopeAnswers_l3 k p3 p4 p5 x10 x11 x12 x14 x203.1 ([p3, x10, (w64 (x206 - 1))] : List Int) (([p3, x10, (w64 (x206 - 1))] : List Int).length : Int) x205.1 x205.2) k (0, x203.2)).bind fun x388 => (match x388 with | .inl x389 => some (.inl ((w64 (x203.1 + 1)), x389)) | .inr x390 => some (.inr (.inr ())))) else some (.inr (.inl ())))
theorem T_law20_EnvelopeAnswers_l4_ok (k : Nat) (p3 : Int) (p4 : Int) (p5 : Int) (x10 : Int) (x11 : List ((List Int) × (List Int))) (x12 : Int) (x14 : List Int) : ∀ (x203 : Int × Int) (x : (Int × Int) ⊕ (Unit ⊕ Unit)), T_law20_EnvelopeAnswers_l4 k p3 p4 p5 x10 x11 x12 x14 x203 = some x → evC X (evF X k) k 0 l_law20_EnvelopeAnswers_4 ⟨[(2, (I p3)), (3, (I p4)), (4, (I p5)), (13, (.one (.ptr 0 0 0))), (16, (I x10)), (76, (.one (.d (.list (x11.map e_st0))))), (77, (I x12)), (78, (I x203.1))], [.cells [.d (.list (x14.map (D.int .i64))), .d (.int .i64 x203.2)]]⟩ = some (outS (fun (s : Int × Int) => ⟨[(2, (I p3)), (3, (I p4)), (4, (I p5)), (13, (.one (.ptr 0 0 0))), (16, (I x10)), (76, (.one (.d (.list (x11.map e_st0))))), (77, (I x12)), (78, (I s.1))], [.cells [.d (.list (x14.map (D.int .i64))), .d (.int .i64 s.2)]]⟩) (fun (r : Unit ⊕ Unit) => Sum.elim (fun y => (.exit 0, ⟨[], []⟩)) (fun y => (.ret, ⟨[(12, (B false))], []⟩)) r) x) := by
 intro x203 x H
 unfold T_law20_EnvelopeAnswers_l4 at H
 refine K_in ?_
 refine K_seq ?_
 refine K_reg [] [] ⟨[(2, (I p3)), (3, (I p4)), (4, (I p5)), (13, (.one (.ptr 0 0 0))), (16, (I x10)), (76, (.one (.d (.list (x11.map e_st0))))), (77, (I x12)), (78, (I x203.1)), (79, (B (decide (x203.1 < x12))))], [.cells [.d (.list (x14.map (D.int .i64))), .d (.int .i64 x203.2)]]⟩ (by kernel_rfl) trivial ?_
 refine K_seq ?_
 rcases ite_some H with ⟨hx204, H⟩ | ⟨hx204, H⟩
 · refine K_t rfl (decide_eq_true hx204) ?_
   refine K_gh ⟨[(2, (I p3)), (3, (I p4)), (4, (I p5)), (13, (.one (.ptr 0 0 0))), (16, (I x10)), (76, (.one (.d (.list (x11.map e_st0))))), (77, (I x12)), (78, (I x203.1))], [.cells [.d (.list (x14.map (D.int .i64))), .d (.int .i64 x203.2)]]⟩ (by kernel_rfl) ?_
   refine K_skip ?_
   refine K_seq ?_
   refine K_block ?_
   refine K_seq ?_
   obtain ⟨x205, hx205, H⟩ := bind_some' H
   refine K_reg [.l [.list (x205.1.map (D.int .i64)), .list (x205.2.map (D.int .i64))]] [(0 : Int) ≤ x203.1 ∧ x203.1 < (((x11.map e_st0)).length : Int), ((x11.map e_st0).getD x203.1.toNat (.agg [(.list []), (.list [])])).cells = [.list (x205.1.map (D.int .i64)), .list (x205.2.map (D.int .i64))]] ⟨[(2, (I p3)), (3, (I p4)), (4, (I p5)), (13, (.one (.ptr 0 0 0))), (16, (I x10)), (18, (.one (.ptr 1 0 0))), (76, (.one (.d (.list (x11.map e_st0))))), (77, (I x12)), (78, (I x203.1))], [.cells [.d (.list (x14.map (D.int .i64))), .d (.int .i64 x203.2)], .cells [.d (.list (x205.1.map (D.int .i64))), .d (.list (x205.2.map (D.int .i64)))]]⟩ (by kernel_rfl) (AC (at_ok hx205 e_st0 (.agg [(.list []), (.list [])])).1 (A1 (at_ok hx205 e_st0 (.agg [(.list []), (.list [])])).2)) ?_
   refine K_seq ?_
   obtain ⟨x206, hx206, H⟩ := bind_some' H
   refine K_reg [.r (I x206) [], .n ([p3, x10, (w64 (x206 - 1))] : List Int).length] [evF X k n_keep_Mod [(I p3), (I 35)] [] = some ((I x206), []), ((([p3, x10, (w64 (x206 - 1))] : List Int).map (D.int .i64))).length = ([p3, x10, (w64 (x206 - 1))] : List Int).length] ⟨[(2, (I p3)), (3, (I p4)), (4, (I p5)), (13, (.one (.ptr 0 0 0))), (16, (I x10)), (18, (.one (.ptr 1 0 0))), (76, (.one (.d (.list (x11.map e_st0))))), (77, (I x12)), (78, (I x203.1)), (87, (LI ([p3, x10, (w64 (x206 - 1))] : List Int))), (88, (I (([p3, x10, (w64 (x206 - 1))] : List Int).length : Int))), (89, (I 0))], [.cells [.d (.list (x14.map (D.int .i64))), .d (.int .i64 x203.2)], .cells [.d (.list (x205.1.map (D.int .i64))), .d (.list (x205.2.map (D.int .i64)))]]⟩ (by kernel_rfl) (AC (T_keep_Mod_ok k p3 35 x206 hx206) (A1 (List.length_map _))) ?_
   refine K_block ?_
   obtain ⟨x388, hx388, H⟩ := bind_some' H
   cases x388 with
   | inl x389 =>
    dsimp only at H
    refine K_loop ⟨[(2, (I p3)), (3, (I p4)), (4, (I p5)), (13, (.one (.ptr 0 0 0))), (16, (I x10)), (76, (.one (.d (.list (x11.map e_st0))))), (77, (I x12)), (78, (I x203.1))], [.cells [.d (.list (x14.map (D.int .i64))), .d (.int .i64 x389)]]⟩ (loop_ok (fun (s : Int × Int) => ⟨[(2, (I p3)), (3, (I p4)), (4, (I p5)), (13, (.one (.ptr 0 0 0))), (16, (I x10)), (18, (.one (.ptr 1 0 0))), (76, (.one (.d (.list (x11.map e_st0))))), (77, (I x12)), (78, (I x203.1)), (87, (LI ([p3, x10, (w64 (x206 - 1))] : List Int))), (88, (I (([p3, x10, (w64 (x206 - 1))] : List Int).length : Int))), (89, (I s.1))], [.cells [.d (.list (x14.map (D.int .i64))), .d (.int .i64 s.2)], .cells [.d (.list (x205.1.map (D.int .i64))), .d (.list (x205.2.map (D.int .i64)))]]⟩) (fun (r : Int ⊕ Unit) => Sum.elim (fun y => (.exit 2, ⟨[(2, (I p3)), (3, (I p4)), (4, (I p5)), (13, (.one (.ptr 0 0 0))), (16, (I x10)), (76, (.one (.d (.list (x11.map e_st0))))), (77, (I x12)), (78, (I x203.1))], [.cells [.d (.list (x14.map (D.int .i64))), .d (.int .i64 y)]]⟩)) (fun y => (.ret, ⟨[(12, (B false))], []⟩)) r) (fun r h => by cases r <;> cases h) (T_law20_EnvelopeAnswers_l3_ok k p3 p4 p5 x10 x11 x12 x14 x203.1 ([p3, x10, (w64 (x206 - 1))] : List Int) (([p3, x10, (w64 (x206 - 1))] : List Int).length : Int) x205.1 x205.2) k (0, x203.2) (.inl x389) hx388) rfl ?_
    refine K_blk ?_
    refine K_reg [] [] ⟨[(2, (I p3)), (3, (I p4)), (4, (I p5)), (13, (.one (.ptr 0 0 0))), (16, (I x10)), (76, (.one (.d (.list (x11.map e_st0))))), (77, (I x12)), (78, (I (w64 (x203.1 + 1))))], [.cells [.d (.list (x14.map (D.int .i64))), .d (.int .i64 x389)]]⟩ (by kernel_rfl) trivial ?_
    cases H
    exact K_end rfl
   | inr x390 =>
    dsimp only at H
    cases H
    exact K_loopr ⟨[(12, (B false))], []⟩ (loop_ok (fun (s : Int × Int) => ⟨[(2, (I p3)), (3, (I p4)), (4, (I p5)), (13, (.one (.ptr 0 0 0))), (16, (I x10)), (18, (.one (.ptr 1 0 0))), (76, (.one (.d (.list (x11.map e_st0))))), (77, (I x12)), (78, (I x203.1)), (87, (LI ([p3, x10, (w64 (x206 - 1))] : List Int))), (88, (I (([p3, x10, (w64 (x206 - 1))] : List Int).length : Int))), (89, (I s.1))], [.cells [.d (.list (x14.map (D.int .i64))), .d (.int .i64 s.2)], .cells [.d (.list (x205.1.map (D.int .i64))), .d (.list (x205.2.map (D.int .i64)))]]⟩) (fun (r : Int ⊕ Unit) => Sum.elim (fun y => (.exit 2, ⟨[(2, (I p3)), (3, (I p4)), (4, (I p5)), (13, (.one (.ptr 0 0 0))), (16, (I x10)), (76, (.one (.d (.list (x11.map e_st0))))), (77, (I x12)), (78, (I x203.1))], [.cells [.d (.list (x14.map (D.int .i64))), .d (.int .i64 y)]]⟩)) (fun y => (.ret, ⟨[(12, (B false))], []⟩)) r) (fun r h => by cases r <;> cases h) (T_law20_EnvelopeAnswers_l3_ok k p3 p4 p5 x10 x11 x12 x14 x203.1 ([p3, x10, (w64 (x206 - 1))] : List Int) (([p3, x10, (w64 (x206 - 1))] : List Int).length : Int) x205.1 x205.2) k (0, x203.2) (.inr x390) hx388) rfl
 · refine K_f rfl (decide_eq_false hx204) ?_
   refine K_gh ⟨[], []⟩ (by kernel_rfl) ?_
   cases H
   exact K_exit0 rfl rfl
def T_law20_EnvelopeAnswers (k : Nat) (p1 : List Int) (p2 : List Int) (p3 : Int) (p4 : Int) (p5 : Int) (p6 : List Int) : Option Bool := match k with
 | 0 => none
 | k + 1 => (if (decide (100 < (p1.length : Int)) || decide (100 < (p2.length : Int))) = true then ((T_law20_awake k).bind fun x2 => some x2) else ((T_keep_New k p6).bind fun x3 => (T_keep_Src_Uneven k ((p6.drop 0).take ((imin (p6.length : Int) 2000).toNat - 0)) 0).bind fun x4 => (T_keep_Src_Bent k x4.2.1 ((p6.drop 0).take ((imin (p6.length : Int) 2000).toNat - 0)) x4.2.2.2).bind fun x5 => (T_keep_Src_Bent k x4.1 ((p6.drop 0).take ((imin (p6.length : Int) 2000).toNat - 0)) x5.2).bind fun x6 => (loopT (T_law20_EnvelopeAnswers_l4 k p3 p4 p5 x4.2.2.1 ([(p1, p2), (x4.1, x4.2.1), (x4.1, x5.1), (x6.1, x4.2.1)] : List ((List Int) × (List Int))) (([(p1, p2), (x4.1, x4.2.1), (x4.1, x5.1), (x6.1, x4.2.1)] : List ((List Int) × (List Int))).length : Int) ((p6.drop 0).take ((imin (p6.length : Int) 2000).toNat - 0))) k (0, x6.2)).bind fun x391 => (match x391 with | .inl x392 => ((T_law20_awake k).bind fun x393 => some x393) | .inr x394 => some false)))
theorem T_law20_EnvelopeAnswers_ok (k : Nat) (p1 : List Int) (p2 : List Int) (p3 : Int) (p4 : Int) (p5 : Int) (p6 : List Int) (r : Bool) : T_law20_EnvelopeAnswers k p1 p2 p3 p4 p5 p6 = some r → evF X k n_law20_EnvelopeAnswers [(LI p1), (LI p2), (I p3), (I p4), (I p5), (LI p6)] [] = some ((B r), []) := by
 intro H
 cases k with
 | zero => simp [T_law20_EnvelopeAnswers] at H
 | succ k =>
  simp only [T_law20_EnvelopeAnswers] at H
  refine F_in X_law20_EnvelopeAnswers rfl ?_
  refine K_seq ?_
  refine K_reg [] [] ⟨[(0, (LI p1)), (1, (LI p2)), (2, (I p3)), (3, (I p4)), (4, (I p5)), (5, (LI p6))], []⟩ (by kernel_rfl) trivial ?_
  refine K_seq ?_
  refine K_seq ?_
  refine K_reg [.n p1.length, .m, .n p2.length] [((p1.map (D.int .i64))).length = p1.length, decide (100 < (p1.length : Int)) = false → AllT [((p2.map (D.int .i64))).length = p2.length], ([] : Heap) = []] ⟨[(0, (LI p1)), (1, (LI p2)), (2, (I p3)), (3, (I p4)), (4, (I p5)), (5, (LI p6)), (50, (B (decide (100 < (p1.length : Int)) || decide (100 < (p2.length : Int)))))], []⟩ (by kernel_rfl) (AC (List.length_map _) (AC (fun _ => (A1 (List.length_map _))) (A1 rfl))) ?_
  rcases ite_some H with ⟨hx1, H⟩ | ⟨hx1, H⟩
  · refine K_t rfl hx1 ?_
    refine K_seq ?_
    obtain ⟨x2, hx2, H⟩ := bind_some' H
    refine K_reg [.r (B x2) []] [evF X k n_law20_awake [] [] = some ((B x2), [])] ⟨[(12, (B x2))], []⟩ (by kernel_rfl) (A1 (T_law20_awake_ok k x2 hx2)) ?_
    refine K_gh ⟨[(12, (B x2))], []⟩ (by kernel_rfl) ?_
    cases H
    refine K_ret ?_
    kernel_rfl
  · refine K_f rfl (Bool.eq_false_iff.2 hx1) ?_
    refine K_gh ⟨[(0, (LI p1)), (1, (LI p2)), (2, (I p3)), (3, (I p4)), (4, (I p5)), (5, (LI p6))], []⟩ (by kernel_rfl) ?_
    refine K_skip ?_
    refine K_seq ?_
    obtain ⟨x3, hx3, H⟩ := bind_some' H
    refine K_reg [.r (.one (.ptr 0 0 0)) [.cells [.d (.list (((p6.drop 0).take ((imin (p6.length : Int) 2000).toNat - 0)).map (D.int .i64))), .d (.int .i64 0)]]] [evF X k n_keep_New [(LI p6)] [] = some ((.one (.ptr 0 0 0)), [.cells [.d (.list (((p6.drop 0).take ((imin (p6.length : Int) 2000).toNat - 0)).map (D.int .i64))), .d (.int .i64 0)]])] ⟨[(0, (LI p1)), (1, (LI p2)), (2, (I p3)), (3, (I p4)), (4, (I p5)), (13, (.one (.ptr 0 0 0)))], [.cells [.d (.list (((p6.drop 0).take ((imin (p6.length : Int) 2000).toNat - 0)).map (D.int .i64))), .d (.int .i64 0)]]⟩ (by kernel_rfl) (A1 (T_keep_New_ok k p6 x3 hx3)) ?_
    refine K_seq ?_
    obtain ⟨x4, hx4, H⟩ := bind_some' H
    refine K_reg [.r (.tup [(false, [.d (.list (x4.1.map (D.int .i64)))]), (false, [.d (.list (x4.2.1.map (D.int .i64)))]), (false, [.d (.int .i64 x4.2.2.1)])]) [.cells [.d (.list (((p6.drop 0).take ((imin (p6.length : Int) 2000).toNat - 0)).map (D.int .i64))), .d (.int .i64 x4.2.2.2)]]] [evF X k n_keep_Src_Uneven [(.one (.ptr 0 0 0))] [.cells [.d (.list (((p6.drop 0).take ((imin (p6.length : Int) 2000).toNat - 0)).map (D.int .i64))), .d (.int .i64 0)]] = some ((.tup [(false, [.d (.list (x4.1.map (D.int .i64)))]), (false, [.d (.list (x4.2.1.map (D.int .i64)))]), (false, [.d (.int .i64 x4.2.2.1)])]), [.cells [.d (.list (((p6.drop 0).take ((imin (p6.length : Int) 2000).toNat - 0)).map (D.int .i64))), .d (.int .i64 x4.2.2.2)]])] ⟨[(0, (LI p1)), (1, (LI p2)), (2, (I p3)), (3, (I p4)), (4, (I p5)), (13, (.one (.ptr 0 0 0))), (14, (LI x4.1)), (15, (LI x4.2.1)), (16, (I x4.2.2.1))], [.cells [.d (.list (((p6.drop 0).take ((imin (p6.length : Int) 2000).toNat - 0)).map (D.int .i64))), .d (.int .i64 x4.2.2.2)]]⟩ (by kernel_rfl) (A1 (T_keep_Src_Uneven_ok k ((p6.drop 0).take ((imin (p6.length : Int) 2000).toNat - 0)) 0 x4 hx4)) ?_
    refine K_seq ?_
    refine K_seq ?_
    obtain ⟨x5, hx5, H⟩ := bind_some' H
    obtain ⟨x6, hx6, H⟩ := bind_some' H
    refine K_reg [.r (LI x5.1) [.cells [.d (.list (((p6.drop 0).take ((imin (p6.length : Int) 2000).toNat - 0)).map (D.int .i64))), .d (.int .i64 x5.2)]], .r (LI x6.1) [.cells [.d (.list (((p6.drop 0).take ((imin (p6.length : Int) 2000).toNat - 0)).map (D.int .i64))), .d (.int .i64 x6.2)]], .n ([(p1, p2), (x4.1, x4.2.1), (x4.1, x5.1), (x6.1, x4.2.1)] : List ((List Int) × (List Int))).length] [evF X k n_keep_Src_Bent [(.one (.ptr 0 0 0)), (LI x4.2.1)] [.cells [.d (.list (((p6.drop 0).take ((imin (p6.length : Int) 2000).toNat - 0)).map (D.int .i64))), .d (.int .i64 x4.2.2.2)]] = some ((LI x5.1), [.cells [.d (.list (((p6.drop 0).take ((imin (p6.length : Int) 2000).toNat - 0)).map (D.int .i64))), .d (.int .i64 x5.2)]]), evF X k n_keep_Src_Bent [(.one (.ptr 0 0 0)), (LI x4.1)] [.cells [.d (.list (((p6.drop 0).take ((imin (p6.length : Int) 2000).toNat - 0)).map (D.int .i64))), .d (.int .i64 x5.2)]] = some ((LI x6.1), [.cells [.d (.list (((p6.drop 0).take ((imin (p6.length : Int) 2000).toNat - 0)).map (D.int .i64))), .d (.int .i64 x6.2)]]), ((([(p1, p2), (x4.1, x4.2.1), (x4.1, x5.1), (x6.1, x4.2.1)] : List ((List Int) × (List Int))).map e_st0)).length = ([(p1, p2), (x4.1, x4.2.1), (x4.1, x5.1), (x6.1, x4.2.1)] : List ((List Int) × (List Int))).length] ⟨[(2, (I p3)), (3, (I p4)), (4, (I p5)), (13, (.one (.ptr 0 0 0))), (16, (I x4.2.2.1)), (76, (.one (.d (.list (([(p1, p2), (x4.1, x4.2.1), (x4.1, x5.1), (x6.1, x4.2.1)] : List ((List Int) × (List Int))).map e_st0))))), (77, (I (([(p1, p2), (x4.1, x4.2.1), (x4.1, x5.1), (x6.1, x4.2.1)] : List ((List Int) × (List Int))).length : Int))), (78, (I 0))], [.cells [.d (.list (((p6.drop 0).take ((imin (p6.length : Int) 2000).toNat - 0)).map (D.int .i64))), .d (.int .i64 x6.2)]]⟩ (by kernel_rfl) (AC (T_keep_Src_Bent_ok k x4.2.1 ((p6.drop 0).take ((imin (p6.length : Int) 2000).toNat - 0)) x4.2.2.2 x5 hx5) (AC (T_keep_Src_Bent_ok k x4.1 ((p6.drop 0).take ((imin (p6.length : Int) 2000).toNat - 0)) x5.2 x6 hx6) (A1 (List.length_map _)))) ?_
    refine K_block ?_
    obtain ⟨x391, hx391, H⟩ := bind_some' H
    cases x391 with
    | inl x392 =>
     dsimp only at H
     refine K_loop ⟨[], []⟩ (loop_ok (fun (s : Int × Int) => ⟨[(2, (I p3)), (3, (I p4)), (4, (I p5)), (13, (.one (.ptr 0 0 0))), (16, (I x4.2.2.1)), (76, (.one (.d (.list (([(p1, p2), (x4.1, x4.2.1), (x4.1, x5.1), (x6.1, x4.2.1)] : List ((List Int) × (List Int))).map e_st0))))), (77, (I (([(p1, p2), (x4.1, x4.2.1), (x4.1, x5.1), (x6.1, x4.2.1)] : List ((List Int) × (List Int))).length : Int))), (78, (I s.1))], [.cells [.d (.list (((p6.drop 0).take ((imin (p6.length : Int) 2000).toNat - 0)).map (D.int .i64))), .d (.int .i64 s.2)]]⟩) (fun (r : Unit ⊕ Unit) => Sum.elim (fun y => (.exit 0, ⟨[], []⟩)) (fun y => (.ret, ⟨[(12, (B false))], []⟩)) r) (fun r h => by cases r <;> cases h) (T_law20_EnvelopeAnswers_l4_ok k p3 p4 p5 x4.2.2.1 ([(p1, p2), (x4.1, x4.2.1), (x4.1, x5.1), (x6.1, x4.2.1)] : List ((List Int) × (List Int))) (([(p1, p2), (x4.1, x4.2.1), (x4.1, x5.1), (x6.1, x4.2.1)] : List ((List Int) × (List Int))).length : Int) ((p6.drop 0).take ((imin (p6.length : Int) 2000).toNat - 0))) k (0, x6.2) (.inl x392) hx391) rfl ?_
     refine K_seq ?_
     obtain ⟨x393, hx393, H⟩ := bind_some' H
     refine K_reg [.r (B x393) []] [evF X k n_law20_awake [] [] = some ((B x393), [])] ⟨[(12, (B x393))], []⟩ (by kernel_rfl) (A1 (T_law20_awake_ok k x393 hx393)) ?_
     refine K_gh ⟨[(12, (B x393))], []⟩ (by kernel_rfl) ?_
     cases H
     refine K_ret ?_
     kernel_rfl
    | inr x394 =>
     dsimp only at H
     cases H
     refine K_loopr ⟨[(12, (B false))], []⟩ (loop_ok (fun (s : Int × Int) => ⟨[(2, (I p3)), (3, (I p4)), (4, (I p5)), (13, (.one (.ptr 0 0 0))), (16, (I x4.2.2.1)), (76, (.one (.d (.list (([(p1, p2), (x4.1, x4.2.1), (x4.1, x5.1), (x6.1, x4.2.1)] : List ((List Int) × (List Int))).map e_st0))))), (77, (I (([(p1, p2), (x4.1, x4.2.1), (x4.1, x5.1), (x6.1, x4.2.1)] : List ((List Int) × (List Int))).length : Int))), (78, (I s.1))], [.cells [.d (.list (((p6.drop 0).take ((imin (p6.length : Int) 2000).toNat - 0)).map (D.int .i64))), .d (.int .i64 s.2)]]⟩) (fun (r : Unit ⊕ Unit) => Sum.elim (fun y => (.exit 0, ⟨[], []⟩)) (fun y => (.ret, ⟨[(12, (B false))], []⟩)) r) (fun r h => by cases r <;> cases h) (T_law20_EnvelopeAnswers_l4_ok k p3 p4 p5 x4.2.2.1 ([(p1, p2), (x4.1, x4.2.1), (x4.1, x5.1), (x6.1, x4.2.1)] : List ((List Int) × (List Int))) (([(p1, p2), (x4.1, x4.2.1), (x4.1, x5.1), (x6.1, x4.2.1)] : List ((List Int) × (List Int))).length : Int) ((p6.drop 0).take ((imin (p6.length : Int) 2000).toNat - 0))) k (0, x6.2) (.inr x394) hx391) ?_
     kernel_rfl
end Go.Proofs.Ytdelnjemfjihpaa.envelopeAnswers
