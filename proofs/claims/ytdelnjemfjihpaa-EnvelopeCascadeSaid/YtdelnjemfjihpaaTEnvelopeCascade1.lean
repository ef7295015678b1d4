/- What the functions that the statement EnvelopeCascade reaches compute, told as functions of Lean, and that the theory's language computes the same: part 2 of 2. There are no conditions. -/
import Derived.Test.YtdelnjemfjihpaaTEnvelopeCascade0
set_option maxRecDepth 100000
set_option linter.unusedVariables false
set_option linter.unusedSimpArgs false
namespace Go.Proofs.Ytdelnjemfjihpaa.envelopeCascade
open Go
def T_ref14_Fill_l1 (k : Nat) (p1 : List (List Int)) (p2 : Int) (x4 : Nat) (x5 : Int) (x12 : Int × (List (List Int))) : Option ((Int × (List (List Int))) ⊕ (((List (List Int))))) :=
 (if x12.1 < x5 then (at? p1 x12.1).bind fun x14 => (if (0 : Int) ≤ (x14.length : Int) ∧ (x14.length : Int) ≤ (x14.length : Int) ∧ (x14.length : Int) ≤ (LIM : Int) then (if (0 : Int) ≤ x12.1 ∧ x12.1 < ((x4 : Nat) : Int) then some (.inl ((w64 (x12.1 + 1)), (x12.2.set (0 + x12.1.toNat) (List.replicate (x14.length : Int).toNat (0 : Int))))) else none) else none) else some (.inr x12.2))
theorem T_ref14_Fill_l1_ok (k : Nat) (p1 : List (List Int)) (p2 : Int) (x4 : Nat) (x5 : Int) : ∀ (x12 : Int × (List (List Int))) (x : (Int × (List (List Int))) ⊕ (((List (List Int))))), T_ref14_Fill_l1 k p1 p2 x4 x5 x12 = some x → evC X (evF X k) k 0 l_ref14_Fill_1 ⟨[(0, (.one (.d (.list (p1.map (el (D.int .i64))))))), (1, (I p2)), (5, (.one (.own 0 0 x4))), (14, (I x5)), (15, (I x12.1))], [.rows (.int .i64 0) (x12.2.map (List.map (D.int .i64))) []]⟩ = some (outS (fun (s : Int × (List (List Int))) => ⟨[(0, (.one (.d (.list (p1.map (el (D.int .i64))))))), (1, (I p2)), (5, (.one (.own 0 0 x4))), (14, (I x5)), (15, (I s.1))], [.rows (.int .i64 0) (s.2.map (List.map (D.int .i64))) []]⟩) (fun (r : ((List (List Int)))) => (.exit 0, ⟨[(0, (.one (.d (.list (p1.map (el (D.int .i64))))))), (1, (I p2)), (5, (.one (.own 0 0 x4)))], [.rows (.int .i64 0) (r.map (List.map (D.int .i64))) []]⟩)) x) := by
 intro x12 x H
 unfold T_ref14_Fill_l1 at H
 refine K_in ?_
 refine K_seq (K_r [] [] (by kernel_rfl) trivial ?_)
 refine K_seq ?_
 rcases ite_some H with ⟨hx13, H⟩ | ⟨hx13, H⟩
 · refine K_t (by kernel_rfl) (decide_eq_true hx13) ?_
   refine K_g (by kernel_rfl) ?_
   refine K_skip (K_seq (K_block (K_seq (K_r [] [] (by kernel_rfl) trivial ?_))))
   obtain ⟨x14, hx14, H⟩ := bind_some' H
   obtain ⟨hx15, H⟩ := guard_some H
   obtain ⟨hx16, H⟩ := guard_some H
   refine K_r [.l [.list (x14.map (D.int .i64))], .n x14.length, .l ((List.replicate (x14.length : Int).toNat (0 : Int)).map (D.int .i64)), .n (0 + x12.1.toNat), .n ((x14.length : Int).toNat), .ll ((x12.2.set (0 + x12.1.toNat) (List.replicate (x14.length : Int).toNat (0 : Int))).map (List.map (D.int .i64))), .br []] [(0 : Int) ≤ x12.1 ∧ x12.1 < (((p1.map (el (D.int .i64)))).length : Int), ((p1.map (el (D.int .i64))).getD x12.1.toNat (.list [])).cells = [.list (x14.map (D.int .i64))], ((x14.map (D.int .i64))).length = x14.length, (0 : Int) ≤ (x14.length : Int) ∧ (x14.length : Int) ≤ (x14.length : Int) ∧ (x14.length : Int) ≤ (LIM : Int), List.replicate (x14.length : Int).toNat (.int .i64 0) = (List.replicate (x14.length : Int).toNat (0 : Int)).map (D.int .i64), (0 : Int) ≤ x12.1 ∧ x12.1 < ((x4 : Nat) : Int), brHas 1 [((0 + x12.1.toNat), .own 1 0 ((x14.length : Int).toNat))] [((0 + x12.1.toNat), .own 1 0 ((x14.length : Int).toNat))] = some ((0 + x12.1.toNat), (x14.length : Int).toNat), (x12.2.map (List.map (D.int .i64))).set (0 + x12.1.toNat) (((List.replicate (x14.length : Int).toNat (0 : Int)).map (D.int .i64)).take ((x14.length : Int).toNat)) = (x12.2.set (0 + x12.1.toNat) (List.replicate (x14.length : Int).toNat (0 : Int))).map (List.map (D.int .i64)), brDel [((0 + x12.1.toNat), .own 1 0 ((x14.length : Int).toNat))] (0 + x12.1.toNat) = []] (by kernel_rfl) (AC (at_ok hx14 (el (D.int .i64)) (.list [])).1 (AC (at_ok hx14 (el (D.int .i64)) (.list [])).2 (AC (List.length_map _) (AC hx15 (AC (rep_map (D.int .i64) _ (0 : Int)) (AC hx16 (AC bh_1 (AC (bk_all (D.int .i64) x12.2 (0 + x12.1.toNat) (List.replicate (x14.length : Int).toNat (0 : Int)) ((x14.length : Int).toNat) (by simp)) (A1 bd_1))))))))) ?_
   refine K_blk (K_r [] [] (by kernel_rfl) trivial ?_)
   cases H
   exact K_end (by kernel_rfl)
 · refine K_f (by kernel_rfl) (decide_eq_false hx13) ?_
   refine K_g (by kernel_rfl) ?_
   cases H
   exact K_exit0 rfl (by kernel_rfl)
def T_ref14_Fill_l2 (k : Nat) (p1 : List (List Int)) (p2 : Int) (x20 : Nat) (x21 : Int) (x77 : Int) (x79 : Int) (x80 : Int) (x100 : Int × (List (List Int))) : Option ((Int × (List (List Int))) ⊕ (((List (List Int))))) :=
 (if x100.1 < x80 then ((at? p1 x77).bind fun x102 => (T_ref14_out k (p1.length : Int) (x102.length : Int) p2 x77 x100.1).bind fun x103 => (if (((((decide (x77 < 0) || decide (x100.1 < 0)) || decide ((p1.length : Int) ≤ x77)) || decide ((x102.length : Int) ≤ x100.1)) || decide (p2 < (w64 (x77 - x100.1)))) || decide (p2 < (w64 (x100.1 - x77)))) = true then some (.inl ((w64 (x100.1 + 1)), x100.2)) else (at? p1 x77).bind fun x105 => (at? x105 x100.1).bind fun x106 => (if (0 : Int) ≤ x77 ∧ x77 < ((x20 : Nat) : Int) then (x100.2[(0 + x77.toNat)]?).bind fun x108 => (if (0 : Int) ≤ x100.1 ∧ x100.1 < ((x108.length : Nat) : Int) then ((if 0 < (w64 (x77 + x100.1)) then (T_ref14_Before k (((x100.2.set (0 + x77.toNat) (x108.set (0 + x100.1.toNat) x106)).drop 0).take x20) p2 x77 x100.1).bind fun x111 => (if (0 : Int) ≤ x77 ∧ x77 < ((x20 : Nat) : Int) then ((x100.2.set (0 + x77.toNat) (x108.set (0 + x100.1.toNat) x106))[(0 + x77.toNat)]?).bind fun x113 => (if (0 : Int) ≤ x100.1 ∧ x100.1 < ((x113.length : Nat) : Int) then (x113[(0 + x100.1.toNat)]?).bind fun x115 => (T_ref14_At k (((x100.2.set (0 + x77.toNat) (x108.set (0 + x100.1.toNat) x106)).drop 0).take x20) p2 x111.1 x111.2).bind fun x116 => some ((x100.2.set (0 + x77.toNat) (x108.set (0 + x100.1.toNat) x106)).set (0 + x77.toNat) (x113.set (0 + x100.1.toNat) (w64 (x115 + x116)))) else none) else none) else some (x100.2.set (0 + x77.toNat) (x108.set (0 + x100.1.toNat) x106)))).bind fun x117 => some (.inl ((w64 (x100.1 + 1)), x117)) else none) else none))) else some (.inr x100.2))
theorem T_ref14_Fill_l2_ok (k : Nat) (p1 : List (List Int)) (p2 : Int) (x20 : Nat) (x21 : Int) (x77 : Int) (x79 : Int) (x80 : Int) : ∀ (x100 : Int × (List (List Int))) (x : (Int × (List (List Int))) ⊕ (((List (List Int))))), T_ref14_Fill_l2 k p1 p2 x20 x21 x77 x79 x80 x100 = some x → evC X (evF X k) k 0 l_ref14_Fill_2 ⟨[(0, (.one (.d (.list (p1.map (el (D.int .i64))))))), (1, (I p2)), (5, (.one (.own 0 0 x20))), (7, (I x77)), (29, (I x21)), (30, (I x79)), (37, (I x80)), (38, (I x100.1))], [.rows (.int .i64 0) (x100.2.map (List.map (D.int .i64))) []]⟩ = some (outS (fun (s : Int × (List (List Int))) => ⟨[(0, (.one (.d (.list (p1.map (el (D.int .i64))))))), (1, (I p2)), (5, (.one (.own 0 0 x20))), (7, (I x77)), (29, (I x21)), (30, (I x79)), (37, (I x80)), (38, (I s.1))], [.rows (.int .i64 0) (s.2.map (List.map (D.int .i64))) []]⟩) (fun (r : ((List (List Int)))) => (.exit 4, ⟨[(0, (.one (.d (.list (p1.map (el (D.int .i64))))))), (1, (I p2)), (5, (.one (.own 0 0 x20))), (29, (I x21)), (30, (I x79))], [.rows (.int .i64 0) (r.map (List.map (D.int .i64))) []]⟩)) x) := by
 intro x100 x H
 unfold T_ref14_Fill_l2 at H
 refine K_in ?_
 refine K_seq (K_r [] [] (by kernel_rfl) trivial ?_)
 refine K_seq ?_
 rcases ite_some H with ⟨hx101, H⟩ | ⟨hx101, H⟩
 · refine K_t (by kernel_rfl) (decide_eq_true hx101) ?_
   refine K_g (by kernel_rfl) ?_
   refine K_skip (K_seq (K_block (K_seq (K_r [] [] (by kernel_rfl) trivial ?_))))
   refine K_seq ?_
   refine K_seq ?_
   obtain ⟨x102, hx102, H⟩ := bind_some' H
   obtain ⟨x103, hx103, H⟩ := bind_some' H
   refine K_r [.n p1.length, .l [.list (x102.map (D.int .i64))], .n x102.length, .r (B (((((decide (x77 < 0) || decide (x100.1 < 0)) || decide ((p1.length : Int) ≤ x77)) || decide ((x102.length : Int) ≤ x100.1)) || decide (p2 < (w64 (x77 - x100.1)))) || decide (p2 < (w64 (x100.1 - x77))))) []] [((p1.map (el (D.int .i64)))).length = p1.length, (0 : Int) ≤ x77 ∧ x77 < (((p1.map (el (D.int .i64)))).length : Int), ((p1.map (el (D.int .i64))).getD x77.toNat (.list [])).cells = [.list (x102.map (D.int .i64))], ((x102.map (D.int .i64))).length = x102.length, C_T_ref14_out k (p1.length : Int) (x102.length : Int) p2 x77 x100.1 x103] (by kernel_rfl) (AC (List.length_map _) (AC (at_ok hx102 (el (D.int .i64)) (.list [])).1 (AC (at_ok hx102 (el (D.int .i64)) (.list [])).2 (AC (List.length_map _) (A1 (T_ref14_out_ok k (p1.length : Int) (x102.length : Int) p2 x77 x100.1 x103 hx103)))))) ?_
   rcases ite_some H with ⟨hx104, H⟩ | ⟨hx104, H⟩
   · refine K_t (by kernel_rfl) hx104 ?_
     refine K_g (by kernel_rfl) ?_
     refine K_exit rfl ?_
     refine K_r [] [] (by kernel_rfl) trivial ?_
     cases H
     exact K_end (by kernel_rfl)
   · refine K_f (by kernel_rfl) (Bool.eq_false_iff.2 hx104) ?_
     refine K_g (by kernel_rfl) ?_
     refine K_skip ?_
     refine K_seq ?_
     obtain ⟨x105, hx105, H⟩ := bind_some' H
     obtain ⟨x106, hx106, H⟩ := bind_some' H
     obtain ⟨hx107, H⟩ := guard_some H
     obtain ⟨x108, hx108, H⟩ := bind_some' H
     obtain ⟨hx109, H⟩ := guard_some H
     refine K_rD [.l [.list (x105.map (D.int .i64))], .l [.int .i64 x106], .n 0, .l (x108.map (D.int .i64)), .n x108.length, .l ((x108.set (0 + x100.1.toNat) x106).map (D.int .i64)), .n (0 + x77.toNat), .n x108.length, .ll ((x100.2.set (0 + x77.toNat) (x108.set (0 + x100.1.toNat) x106)).map (List.map (D.int .i64))), .br []] [(0 : Int) ≤ x77 ∧ x77 < (((p1.map (el (D.int .i64)))).length : Int), ((p1.map (el (D.int .i64))).getD x77.toNat (.list [])).cells = [.list (x105.map (D.int .i64))], (0 : Int) ≤ x100.1 ∧ x100.1 < (((x105.map (D.int .i64))).length : Int), ((x105.map (D.int .i64)).getD x100.1.toNat (.int .i64 0)).cells = [.int .i64 x106], (0 : Int) ≤ x77 ∧ x77 < ((x20 : Nat) : Int), (x100.2.map (List.map (D.int .i64))).getD (0 + x77.toNat) [] = x108.map (D.int .i64), (x108.map (D.int .i64)).length = x108.length, (0 : Int) ≤ x100.1 ∧ x100.1 < ((x108.length : Nat) : Int), (x108.map (D.int .i64)).set (0 + x100.1.toNat) (elemOf (.int .i64 0) (splice ((x108.map (D.int .i64)).getD (0 + x100.1.toNat) (.int .i64 0)).cells 0 [.int .i64 x106])) = (x108.set (0 + x100.1.toNat) x106).map (D.int .i64), brHas 1 [((0 + x77.toNat), .own 1 0 x108.length)] [((0 + x77.toNat), .own 1 0 x108.length)] = some ((0 + x77.toNat), x108.length), (x100.2.map (List.map (D.int .i64))).set (0 + x77.toNat) (((x108.set (0 + x100.1.toNat) x106).map (D.int .i64)).take x108.length) = (x100.2.set (0 + x77.toNat) (x108.set (0 + x100.1.toNat) x106)).map (List.map (D.int .i64)), brDel [((0 + x77.toNat), .own 1 0 x108.length)] (0 + x77.toNat) = []] (by kernel_rfl) (AC (at_ok hx105 (el (D.int .i64)) (.list [])).1 (AC (at_ok hx105 (el (D.int .i64)) (.list [])).2 (AC (at_ok hx106 (D.int .i64) (.int .i64 0)).1 (AC (at_ok hx106 (D.int .i64) (.int .i64 0)).2 (AC hx107 (AC (rg_ok hx108 (D.int .i64)) (AC (List.length_map _) (AC hx109 (AC (st_one x108 (0 + x100.1.toNat) x106 (D.int .i64) (.int .i64 0) rfl (fun _ => rfl) rfl) (AC bh_1 (AC (bk_all (D.int .i64) x100.2 (0 + x77.toNat) (x108.set (0 + x100.1.toNat) x106) x108.length (by simp)) (A1 bd_1)))))))))))) ?_
     refine K_seq (K_r [] [] (by kernel_rfl) trivial ?_)
     obtain ⟨x117, hx117, H⟩ := bind_some' H
     refine K_of ⟨[(0, (.one (.d (.list (p1.map (el (D.int .i64))))))), (1, (I p2)), (5, (.one (.own 0 0 x20))), (7, (I x77)), (29, (I x21)), (30, (I x79)), (37, (I x80)), (38, (I x100.1))], [.rows (.int .i64 0) (x117.map (List.map (D.int .i64))) []]⟩ ?_ ?_
     · clear H; have H := hx117; clear hx117; refine K_in ?_
       rcases ite_some H with ⟨hx110, H⟩ | ⟨hx110, H⟩
       · refine K_t (by kernel_rfl) (decide_eq_true hx110) ?_
         refine K_seq ?_
         obtain ⟨x111, hx111, H⟩ := bind_some' H
         refine K_r [.l ((((x100.2.set (0 + x77.toNat) (x108.set (0 + x100.1.toNat) x106)).drop 0).take x20).map (el (D.int .i64))), .r (.agg [cI x111.1, cI x111.2]) []] [(((setAll [] ((x100.2.set (0 + x77.toNat) (x108.set (0 + x100.1.toNat) x106)).map (List.map (D.int .i64)))).drop 0).take x20).map D.list = (((x100.2.set (0 + x77.toNat) (x108.set (0 + x100.1.toNat) x106)).drop 0).take x20).map (el (D.int .i64)), C_T_ref14_Before k (((x100.2.set (0 + x77.toNat) (x108.set (0 + x100.1.toNat) x106)).drop 0).take x20) p2 x77 x100.1 x111] (by kernel_rfl) (AC (see0 (D.int .i64) (x100.2.set (0 + x77.toNat) (x108.set (0 + x100.1.toNat) x106)) 0 x20) (A1 (T_ref14_Before_ok k (((x100.2.set (0 + x77.toNat) (x108.set (0 + x100.1.toNat) x106)).drop 0).take x20) p2 x77 x100.1 x111 hx111))) ?_
         obtain ⟨hx112, H⟩ := guard_some H
         obtain ⟨x113, hx113, H⟩ := bind_some' H
         obtain ⟨hx114, H⟩ := guard_some H
         obtain ⟨x115, hx115, H⟩ := bind_some' H
         obtain ⟨x116, hx116, H⟩ := bind_some' H
         refine K_rD [.n 0, .l (x113.map (D.int .i64)), .n x113.length, .l [.int .i64 x115], .l ((((x100.2.set (0 + x77.toNat) (x108.set (0 + x100.1.toNat) x106)).drop 0).take x20).map (el (D.int .i64))), .r (I x116) [], .l ((x113.set (0 + x100.1.toNat) (w64 (x115 + x116))).map (D.int .i64)), .n (0 + x77.toNat), .n x113.length, .ll (((x100.2.set (0 + x77.toNat) (x108.set (0 + x100.1.toNat) x106)).set (0 + x77.toNat) (x113.set (0 + x100.1.toNat) (w64 (x115 + x116)))).map (List.map (D.int .i64))), .br [], .l ((((x100.2.set (0 + x77.toNat) (x108.set (0 + x100.1.toNat) x106)).drop 0).take x20).map (el (D.int .i64))), .r (I x116) [], .l [.int .i64 x115], .l ((x113.set (0 + x100.1.toNat) (w64 (x115 + x116))).map (D.int .i64)), .n (0 + x77.toNat), .n x113.length, .ll (((x100.2.set (0 + x77.toNat) (x108.set (0 + x100.1.toNat) x106)).set (0 + x77.toNat) (x113.set (0 + x100.1.toNat) (w64 (x115 + x116)))).map (List.map (D.int .i64))), .br [], .l ((((x100.2.set (0 + x77.toNat) (x108.set (0 + x100.1.toNat) x106)).drop 0).take x20).map (el (D.int .i64))), .r (I x116) [], .l [.int .i64 x115], .l ((x113.set (0 + x100.1.toNat) (w64 (x115 + x116))).map (D.int .i64)), .n (0 + x77.toNat), .n x113.length, .ll (((x100.2.set (0 + x77.toNat) (x108.set (0 + x100.1.toNat) x106)).set (0 + x77.toNat) (x113.set (0 + x100.1.toNat) (w64 (x115 + x116)))).map (List.map (D.int .i64))), .br [], .l ((((x100.2.set (0 + x77.toNat) (x108.set (0 + x100.1.toNat) x106)).drop 0).take x20).map (el (D.int .i64))), .r (I x116) [], .n 0, .l (x113.map (D.int .i64)), .n x113.length, .l [.int .i64 x115], .l ((x113.set (0 + x100.1.toNat) (w64 (x115 + x116))).map (D.int .i64)), .n (0 + x77.toNat), .n x113.length, .ll (((x100.2.set (0 + x77.toNat) (x108.set (0 + x100.1.toNat) x106)).set (0 + x77.toNat) (x113.set (0 + x100.1.toNat) (w64 (x115 + x116)))).map (List.map (D.int .i64))), .br [], .l ((((x100.2.set (0 + x77.toNat) (x108.set (0 + x100.1.toNat) x106)).drop 0).take x20).map (el (D.int .i64))), .r (I x116) [], .n 0, .l (x113.map (D.int .i64)), .n x113.length, .l [.int .i64 x115], .l ((x113.set (0 + x100.1.toNat) (w64 (x115 + x116))).map (D.int .i64)), .n (0 + x77.toNat), .n x113.length, .ll (((x100.2.set (0 + x77.toNat) (x108.set (0 + x100.1.toNat) x106)).set (0 + x77.toNat) (x113.set (0 + x100.1.toNat) (w64 (x115 + x116)))).map (List.map (D.int .i64))), .br []] ((fun (z1 : St) => [(0 : Int) ≤ x77 ∧ x77 < ((x20 : Nat) : Int), ((x100.2.set (0 + x77.toNat) (x108.set (0 + x100.1.toNat) x106)).map (List.map (D.int .i64))).getD (0 + x77.toNat) [] = x113.map (D.int .i64), (x113.map (D.int .i64)).length = x113.length, (0 : Int) ≤ x100.1 ∧ x100.1 < ((x113.length : Nat) : Int), ((x113.map (D.int .i64)).getD (0 + x100.1.toNat) (.int .i64 0)).cells = [.int .i64 x115], (((setAll [((0 + x77.toNat), ((x113.map (D.int .i64)).drop 0).take x113.length)] ((x100.2.set (0 + x77.toNat) (x108.set (0 + x100.1.toNat) x106)).map (List.map (D.int .i64)))).drop 0).take x20).map D.list = (((x100.2.set (0 + x77.toNat) (x108.set (0 + x100.1.toNat) x106)).drop 0).take x20).map (el (D.int .i64)), C_T_ref14_At k (((x100.2.set (0 + x77.toNat) (x108.set (0 + x100.1.toNat) x106)).drop 0).take x20) p2 x111.1 x111.2 x116, (0 : Int) ≤ x100.1 ∧ x100.1 < ((x113.length : Nat) : Int), (x113.map (D.int .i64)).set (0 + x100.1.toNat) (elemOf (.int .i64 0) (splice ((x113.map (D.int .i64)).getD (0 + x100.1.toNat) (.int .i64 0)).cells 0 [.int .i64 (w64 (x115 + x116))])) = (x113.set (0 + x100.1.toNat) (w64 (x115 + x116))).map (D.int .i64), brHas 1 [((0 + x77.toNat), .own 1 0 x113.length)] [((0 + x77.toNat), .own 1 0 x113.length)] = some ((0 + x77.toNat), x113.length), ((x100.2.set (0 + x77.toNat) (x108.set (0 + x100.1.toNat) x106)).map (List.map (D.int .i64))).set (0 + x77.toNat) (((x113.set (0 + x100.1.toNat) (w64 (x115 + x116))).map (D.int .i64)).take x113.length) = ((x100.2.set (0 + x77.toNat) (x108.set (0 + x100.1.toNat) x106)).set (0 + x77.toNat) (x113.set (0 + x100.1.toNat) (w64 (x115 + x116)))).map (List.map (D.int .i64)), brDel [((0 + x77.toNat), .own 1 0 x113.length)] (0 + x77.toNat) = [], (((setAll [((0 + x77.toNat), ((x113.map (D.int .i64)).drop 0).take x113.length)] ((x100.2.set (0 + x77.toNat) (x108.set (0 + x100.1.toNat) x106)).map (List.map (D.int .i64)))).drop 0).take x20).map D.list = (((x100.2.set (0 + x77.toNat) (x108.set (0 + x100.1.toNat) x106)).drop 0).take x20).map (el (D.int .i64)), C_T_ref14_At k (((x100.2.set (0 + x77.toNat) (x108.set (0 + x100.1.toNat) x106)).drop 0).take x20) p2 x111.1 x111.2 x116, ((x113.map (D.int .i64)).getD (0 + x100.1.toNat) (.int .i64 0)).cells = [.int .i64 x115], (0 : Int) ≤ x100.1 ∧ x100.1 < ((x113.length : Nat) : Int), (x113.map (D.int .i64)).set (0 + x100.1.toNat) (elemOf (.int .i64 0) (splice ((x113.map (D.int .i64)).getD (0 + x100.1.toNat) (.int .i64 0)).cells 0 [.int .i64 (w64 (x115 + x116))])) = (x113.set (0 + x100.1.toNat) (w64 (x115 + x116))).map (D.int .i64), brHas 1 [((0 + x77.toNat), .own 1 0 x113.length)] [((0 + x77.toNat), .own 1 0 x113.length)] = some ((0 + x77.toNat), x113.length), ((x100.2.set (0 + x77.toNat) (x108.set (0 + x100.1.toNat) x106)).map (List.map (D.int .i64))).set (0 + x77.toNat) (((x113.set (0 + x100.1.toNat) (w64 (x115 + x116))).map (D.int .i64)).take x113.length) = ((x100.2.set (0 + x77.toNat) (x108.set (0 + x100.1.toNat) x106)).set (0 + x77.toNat) (x113.set (0 + x100.1.toNat) (w64 (x115 + x116)))).map (List.map (D.int .i64)), brDel [((0 + x77.toNat), .own 1 0 x113.length)] (0 + x77.toNat) = [], z1 = z1, (((setAll [((0 + x77.toNat), ((x113.map (D.int .i64)).drop 0).take x113.length)] ((x100.2.set (0 + x77.toNat) (x108.set (0 + x100.1.toNat) x106)).map (List.map (D.int .i64)))).drop 0).take x20).map D.list = (((x100.2.set (0 + x77.toNat) (x108.set (0 + x100.1.toNat) x106)).drop 0).take x20).map (el (D.int .i64)), C_T_ref14_At k (((x100.2.set (0 + x77.toNat) (x108.set (0 + x100.1.toNat) x106)).drop 0).take x20) p2 x111.1 x111.2 x116, (0 : Int) ≤ x100.1 ∧ x100.1 < ((x113.length : Nat) : Int), ((x113.map (D.int .i64)).getD (0 + x100.1.toNat) (.int .i64 0)).cells = [.int .i64 x115], (0 : Int) ≤ x100.1 ∧ x100.1 < ((x113.length : Nat) : Int), (x113.map (D.int .i64)).set (0 + x100.1.toNat) (elemOf (.int .i64 0) (splice ((x113.map (D.int .i64)).getD (0 + x100.1.toNat) (.int .i64 0)).cells 0 [.int .i64 (w64 (x115 + x116))])) = (x113.set (0 + x100.1.toNat) (w64 (x115 + x116))).map (D.int .i64), brHas 1 [((0 + x77.toNat), .own 1 0 x113.length)] [((0 + x77.toNat), .own 1 0 x113.length)] = some ((0 + x77.toNat), x113.length), ((x100.2.set (0 + x77.toNat) (x108.set (0 + x100.1.toNat) x106)).map (List.map (D.int .i64))).set (0 + x77.toNat) (((x113.set (0 + x100.1.toNat) (w64 (x115 + x116))).map (D.int .i64)).take x113.length) = ((x100.2.set (0 + x77.toNat) (x108.set (0 + x100.1.toNat) x106)).set (0 + x77.toNat) (x113.set (0 + x100.1.toNat) (w64 (x115 + x116)))).map (List.map (D.int .i64)), brDel [((0 + x77.toNat), .own 1 0 x113.length)] (0 + x77.toNat) = [], z1 = z1, (((setAll [] ((x100.2.set (0 + x77.toNat) (x108.set (0 + x100.1.toNat) x106)).map (List.map (D.int .i64)))).drop 0).take x20).map D.list = (((x100.2.set (0 + x77.toNat) (x108.set (0 + x100.1.toNat) x106)).drop 0).take x20).map (el (D.int .i64)), C_T_ref14_At k (((x100.2.set (0 + x77.toNat) (x108.set (0 + x100.1.toNat) x106)).drop 0).take x20) p2 x111.1 x111.2 x116, ((x100.2.set (0 + x77.toNat) (x108.set (0 + x100.1.toNat) x106)).map (List.map (D.int .i64))).getD (0 + x77.toNat) [] = x113.map (D.int .i64), (x113.map (D.int .i64)).length = x113.length, (0 : Int) ≤ x100.1 ∧ x100.1 < ((x113.length : Nat) : Int), ((x113.map (D.int .i64)).getD (0 + x100.1.toNat) (.int .i64 0)).cells = [.int .i64 x115], (0 : Int) ≤ x100.1 ∧ x100.1 < ((x113.length : Nat) : Int), (x113.map (D.int .i64)).set (0 + x100.1.toNat) (elemOf (.int .i64 0) (splice ((x113.map (D.int .i64)).getD (0 + x100.1.toNat) (.int .i64 0)).cells 0 [.int .i64 (w64 (x115 + x116))])) = (x113.set (0 + x100.1.toNat) (w64 (x115 + x116))).map (D.int .i64), brHas 1 [((0 + x77.toNat), .own 1 0 x113.length)] [((0 + x77.toNat), .own 1 0 x113.length)] = some ((0 + x77.toNat), x113.length), ((x100.2.set (0 + x77.toNat) (x108.set (0 + x100.1.toNat) x106)).map (List.map (D.int .i64))).set (0 + x77.toNat) (((x113.set (0 + x100.1.toNat) (w64 (x115 + x116))).map (D.int .i64)).take x113.length) = ((x100.2.set (0 + x77.toNat) (x108.set (0 + x100.1.toNat) x106)).set (0 + x77.toNat) (x113.set (0 + x100.1.toNat) (w64 (x115 + x116)))).map (List.map (D.int .i64)), brDel [((0 + x77.toNat), .own 1 0 x113.length)] (0 + x77.toNat) = [], z1 = z1, (((setAll [] ((x100.2.set (0 + x77.toNat) (x108.set (0 + x100.1.toNat) x106)).map (List.map (D.int .i64)))).drop 0).take x20).map D.list = (((x100.2.set (0 + x77.toNat) (x108.set (0 + x100.1.toNat) x106)).drop 0).take x20).map (el (D.int .i64)), C_T_ref14_At k (((x100.2.set (0 + x77.toNat) (x108.set (0 + x100.1.toNat) x106)).drop 0).take x20) p2 x111.1 x111.2 x116, (0 : Int) ≤ x77 ∧ x77 < ((x20 : Nat) : Int), ((x100.2.set (0 + x77.toNat) (x108.set (0 + x100.1.toNat) x106)).map (List.map (D.int .i64))).getD (0 + x77.toNat) [] = x113.map (D.int .i64), (x113.map (D.int .i64)).length = x113.length, (0 : Int) ≤ x100.1 ∧ x100.1 < ((x113.length : Nat) : Int), ((x113.map (D.int .i64)).getD (0 + x100.1.toNat) (.int .i64 0)).cells = [.int .i64 x115], (0 : Int) ≤ x100.1 ∧ x100.1 < ((x113.length : Nat) : Int), (x113.map (D.int .i64)).set (0 + x100.1.toNat) (elemOf (.int .i64 0) (splice ((x113.map (D.int .i64)).getD (0 + x100.1.toNat) (.int .i64 0)).cells 0 [.int .i64 (w64 (x115 + x116))])) = (x113.set (0 + x100.1.toNat) (w64 (x115 + x116))).map (D.int .i64), brHas 1 [((0 + x77.toNat), .own 1 0 x113.length)] [((0 + x77.toNat), .own 1 0 x113.length)] = some ((0 + x77.toNat), x113.length), ((x100.2.set (0 + x77.toNat) (x108.set (0 + x100.1.toNat) x106)).map (List.map (D.int .i64))).set (0 + x77.toNat) (((x113.set (0 + x100.1.toNat) (w64 (x115 + x116))).map (D.int .i64)).take x113.length) = ((x100.2.set (0 + x77.toNat) (x108.set (0 + x100.1.toNat) x106)).set (0 + x77.toNat) (x113.set (0 + x100.1.toNat) (w64 (x115 + x116)))).map (List.map (D.int .i64)), brDel [((0 + x77.toNat), .own 1 0 x113.length)] (0 + x77.toNat) = [], z1 = z1]) (⟨[(0, (.one (.d (.list (p1.map (el (D.int .i64))))))), (1, (I p2)), (5, (.one (.own 0 0 x20))), (7, (I x77)), (29, (I x21)), (30, (I x79)), (37, (I x80)), (38, (I x100.1))], [.rows (.int .i64 0) (((x100.2.set (0 + x77.toNat) (x108.set (0 + x100.1.toNat) x106)).set (0 + x77.toNat) (x113.set (0 + x100.1.toNat) (w64 (x115 + x116)))).map (List.map (D.int .i64))) []]⟩)) (by kernel_rfl) (AC hx112 (AC (rg_ok hx113 (D.int .i64)) (AC (List.length_map _) (AC hx114 (AC (ld_ok hx115 (D.int .i64) (.int .i64 0)) (AC (see1 (D.int .i64) (x100.2.set (0 + x77.toNat) (x108.set (0 + x100.1.toNat) x106)) (x100.2.set (0 + x77.toNat) (x108.set (0 + x100.1.toNat) x106)) (0 + x77.toNat) x113 0 x113.length 0 x20 (set_self hx113)) (AC (T_ref14_At_ok k (((x100.2.set (0 + x77.toNat) (x108.set (0 + x100.1.toNat) x106)).drop 0).take x20) p2 x111.1 x111.2 x116 hx116) (AC hx114 (AC (st_one x113 (0 + x100.1.toNat) (w64 (x115 + x116)) (D.int .i64) (.int .i64 0) rfl (fun _ => rfl) rfl) (AC bh_1 (AC (bk_all (D.int .i64) (x100.2.set (0 + x77.toNat) (x108.set (0 + x100.1.toNat) x106)) (0 + x77.toNat) (x113.set (0 + x100.1.toNat) (w64 (x115 + x116))) x113.length (by simp)) (AC bd_1 (AC (see1 (D.int .i64) (x100.2.set (0 + x77.toNat) (x108.set (0 + x100.1.toNat) x106)) (x100.2.set (0 + x77.toNat) (x108.set (0 + x100.1.toNat) x106)) (0 + x77.toNat) x113 0 x113.length 0 x20 (set_self hx113)) (AC (T_ref14_At_ok k (((x100.2.set (0 + x77.toNat) (x108.set (0 + x100.1.toNat) x106)).drop 0).take x20) p2 x111.1 x111.2 x116 hx116) (AC (ld_ok hx115 (D.int .i64) (.int .i64 0)) (AC hx114 (AC (st_one x113 (0 + x100.1.toNat) (w64 (x115 + x116)) (D.int .i64) (.int .i64 0) rfl (fun _ => rfl) rfl) (AC bh_1 (AC (bk_all (D.int .i64) (x100.2.set (0 + x77.toNat) (x108.set (0 + x100.1.toNat) x106)) (0 + x77.toNat) (x113.set (0 + x100.1.toNat) (w64 (x115 + x116))) x113.length (by simp)) (AC bd_1 (AC rfl (AC (see1 (D.int .i64) (x100.2.set (0 + x77.toNat) (x108.set (0 + x100.1.toNat) x106)) (x100.2.set (0 + x77.toNat) (x108.set (0 + x100.1.toNat) x106)) (0 + x77.toNat) x113 0 x113.length 0 x20 (set_self hx113)) (AC (T_ref14_At_ok k (((x100.2.set (0 + x77.toNat) (x108.set (0 + x100.1.toNat) x106)).drop 0).take x20) p2 x111.1 x111.2 x116 hx116) (AC hx114 (AC (ld_ok hx115 (D.int .i64) (.int .i64 0)) (AC hx114 (AC (st_one x113 (0 + x100.1.toNat) (w64 (x115 + x116)) (D.int .i64) (.int .i64 0) rfl (fun _ => rfl) rfl) (AC bh_1 (AC (bk_all (D.int .i64) (x100.2.set (0 + x77.toNat) (x108.set (0 + x100.1.toNat) x106)) (0 + x77.toNat) (x113.set (0 + x100.1.toNat) (w64 (x115 + x116))) x113.length (by simp)) (AC bd_1 (AC rfl (AC (see0 (D.int .i64) (x100.2.set (0 + x77.toNat) (x108.set (0 + x100.1.toNat) x106)) 0 x20) (AC (T_ref14_At_ok k (((x100.2.set (0 + x77.toNat) (x108.set (0 + x100.1.toNat) x106)).drop 0).take x20) p2 x111.1 x111.2 x116 hx116) (AC (rg_ok hx113 (D.int .i64)) (AC (List.length_map _) (AC hx114 (AC (ld_ok hx115 (D.int .i64) (.int .i64 0)) (AC hx114 (AC (st_one x113 (0 + x100.1.toNat) (w64 (x115 + x116)) (D.int .i64) (.int .i64 0) rfl (fun _ => rfl) rfl) (AC bh_1 (AC (bk_all (D.int .i64) (x100.2.set (0 + x77.toNat) (x108.set (0 + x100.1.toNat) x106)) (0 + x77.toNat) (x113.set (0 + x100.1.toNat) (w64 (x115 + x116))) x113.length (by simp)) (AC bd_1 (AC rfl (AC (see0 (D.int .i64) (x100.2.set (0 + x77.toNat) (x108.set (0 + x100.1.toNat) x106)) 0 x20) (AC (T_ref14_At_ok k (((x100.2.set (0 + x77.toNat) (x108.set (0 + x100.1.toNat) x106)).drop 0).take x20) p2 x111.1 x111.2 x116 hx116) (AC hx112 (AC (rg_ok hx113 (D.int .i64)) (AC (List.length_map _) (AC hx114 (AC (ld_ok hx115 (D.int .i64) (.int .i64 0)) (AC hx114 (AC (st_one x113 (0 + x100.1.toNat) (w64 (x115 + x116)) (D.int .i64) (.int .i64 0) rfl (fun _ => rfl) rfl) (AC bh_1 (AC (bk_all (D.int .i64) (x100.2.set (0 + x77.toNat) (x108.set (0 + x100.1.toNat) x106)) (0 + x77.toNat) (x113.set (0 + x100.1.toNat) (w64 (x115 + x116))) x113.length (by simp)) (AC bd_1 (A1 rfl)))))))))))))))))))))))))))))))))))))))))))))))))))))))) ?_
         cases H
         exact K_end (by kernel_rfl)
       · refine K_f (by kernel_rfl) (decide_eq_false hx110) ?_
         refine K_g (by kernel_rfl) ?_
         refine K_skip ?_
         cases H
         exact K_end (by kernel_rfl)
     refine K_blk (K_r [] [] (by kernel_rfl) trivial ?_)
     cases H
     exact K_end (by kernel_rfl)
 · refine K_f (by kernel_rfl) (decide_eq_false hx101) ?_
   refine K_g (by kernel_rfl) ?_
   cases H
   exact K_exit0 rfl (by kernel_rfl)
def T_ref14_Fill_l3 (k : Nat) (p1 : List (List Int)) (p2 : Int) (x20 : Nat) (x21 : Int) (x71 : Int × (List (List Int))) : Option ((Int × (List (List Int))) ⊕ (((List (List Int))))) :=
 (if x71.1 < x21 then ((at? p1 x71.1).bind fun x73 => (loopT (T_ref14_Fill_l2 k p1 p2 x20 x21 x71.1 x71.1 (x73.length : Int)) k (0, x71.2)).bind fun x118 => some (.inl ((w64 (x71.1 + 1)), x118))) else some (.inr x71.2))
theorem T_ref14_Fill_l3_ok (k : Nat) (p1 : List (List Int)) (p2 : Int) (x20 : Nat) (x21 : Int) : ∀ (x71 : Int × (List (List Int))) (x : (Int × (List (List Int))) ⊕ (((List (List Int))))), T_ref14_Fill_l3 k p1 p2 x20 x21 x71 = some x → evC X (evF X k) k 0 l_ref14_Fill_3 ⟨[(0, (.one (.d (.list (p1.map (el (D.int .i64))))))), (1, (I p2)), (5, (.one (.own 0 0 x20))), (29, (I x21)), (30, (I x71.1))], [.rows (.int .i64 0) (x71.2.map (List.map (D.int .i64))) []]⟩ = some (outS (fun (s : Int × (List (List Int))) => ⟨[(0, (.one (.d (.list (p1.map (el (D.int .i64))))))), (1, (I p2)), (5, (.one (.own 0 0 x20))), (29, (I x21)), (30, (I s.1))], [.rows (.int .i64 0) (s.2.map (List.map (D.int .i64))) []]⟩) (fun (r : ((List (List Int)))) => (.exit 2, ⟨[(5, (.one (.own 0 0 x20)))], [.rows (.int .i64 0) (r.map (List.map (D.int .i64))) []]⟩)) x) := by
 intro x71 x H
 unfold T_ref14_Fill_l3 at H
 refine K_in ?_
 refine K_seq (K_r [] [] (by kernel_rfl) trivial ?_)
 refine K_seq ?_
 rcases ite_some H with ⟨hx72, H⟩ | ⟨hx72, H⟩
 · refine K_t (by kernel_rfl) (decide_eq_true hx72) ?_
   refine K_g (by kernel_rfl) ?_
   refine K_skip (K_seq (K_block (K_seq (K_r [] [] (by kernel_rfl) trivial ?_))))
   refine K_seq ?_
   obtain ⟨x73, hx73, H⟩ := bind_some' H
   refine K_r [.l [.list (x73.map (D.int .i64))], .n x73.length] [(0 : Int) ≤ x71.1 ∧ x71.1 < (((p1.map (el (D.int .i64)))).length : Int), ((p1.map (el (D.int .i64))).getD x71.1.toNat (.list [])).cells = [.list (x73.map (D.int .i64))], ((x73.map (D.int .i64))).length = x73.length] (by kernel_rfl) (AC (at_ok hx73 (el (D.int .i64)) (.list [])).1 (AC (at_ok hx73 (el (D.int .i64)) (.list [])).2 (A1 (List.length_map _)))) ?_
   refine K_block (K_conv (σ' := ⟨[(0, (.one (.d (.list (p1.map (el (D.int .i64))))))), (1, (I p2)), (5, (.one (.own 0 0 x20))), (7, (I x71.1)), (29, (I x21)), (30, (I x71.1)), (37, (I (x73.length : Int))), (38, (I 0))], [.rows (.int .i64 0) (x71.2.map (List.map (D.int .i64))) []]⟩) (by kernel_rfl) ?_)
   obtain ⟨x118, hx118, H⟩ := bind_some' H
   refine K_loop ⟨[(0, (.one (.d (.list (p1.map (el (D.int .i64))))))), (1, (I p2)), (5, (.one (.own 0 0 x20))), (29, (I x21)), (30, (I x71.1))], [.rows (.int .i64 0) (x118.map (List.map (D.int .i64))) []]⟩ (loop_ok (fun (s : Int × (List (List Int))) => ⟨[(0, (.one (.d (.list (p1.map (el (D.int .i64))))))), (1, (I p2)), (5, (.one (.own 0 0 x20))), (7, (I x71.1)), (29, (I x21)), (30, (I x71.1)), (37, (I (x73.length : Int))), (38, (I s.1))], [.rows (.int .i64 0) (s.2.map (List.map (D.int .i64))) []]⟩) (fun (r : ((List (List Int)))) => (.exit 4, ⟨[(0, (.one (.d (.list (p1.map (el (D.int .i64))))))), (1, (I p2)), (5, (.one (.own 0 0 x20))), (29, (I x21)), (30, (I x71.1))], [.rows (.int .i64 0) (r.map (List.map (D.int .i64))) []]⟩)) (fun r h => by cases h) (T_ref14_Fill_l2_ok k p1 p2 x20 x21 x71.1 x71.1 (x73.length : Int)) k (0, x71.2) x118 hx118) rfl ?_
   refine K_blk (K_r [] [] (by kernel_rfl) trivial ?_)
   cases H
   exact K_end (by kernel_rfl)
 · refine K_f (by kernel_rfl) (decide_eq_false hx72) ?_
   refine K_g (by kernel_rfl) ?_
   cases H
   exact K_exit0 rfl (by kernel_rfl)
def T_ref14_Fill (k : Nat) (p1 : List (List Int)) (p2 : Int) : Option ((List (List Int))) := match k with
 | 0 => none
 | k + 1 => (if (0 : Int) ≤ (p1.length : Int) ∧ (p1.length : Int) ≤ (p1.length : Int) ∧ (p1.length : Int) ≤ (LIM : Int) then (loopT (T_ref14_Fill_l1 k p1 p2 ((p1.length : Int).toNat) (p1.length : Int)) k (0, (List.replicate (p1.length : Int).toNat ([] : List Int)))).bind fun x17 => (loopT (T_ref14_Fill_l3 k p1 p2 ((p1.length : Int).toNat) (p1.length : Int)) k (0, x17)).bind fun x119 => some ((x119.drop 0).take ((p1.length : Int).toNat)) else none)
abbrev C_T_ref14_Fill (k : Nat) (p1 : List (List Int)) (p2 : Int) (r : (List (List Int))) : Prop := evF X k n_ref14_Fill [(.one (.d (.list (p1.map (el (D.int .i64)))))), (I p2)] [] = some ((.one (.d (.list (r.map (el (D.int .i64)))))), [])
theorem T_ref14_Fill_ok (k : Nat) (p1 : List (List Int)) (p2 : Int) (r : (List (List Int))) : T_ref14_Fill k p1 p2 = some r → C_T_ref14_Fill k p1 p2 r := by
 intro H
 cases k with
 | zero => simp [T_ref14_Fill] at H
 | succ k =>
  simp only [T_ref14_Fill] at H
  refine F_in X_ref14_Fill rfl ?_
  refine K_seq (K_r [] [] (by kernel_rfl) trivial ?_)
  refine K_seq ?_
  obtain ⟨hx1, H⟩ := guard_some H
  refine K_r [.n p1.length, .ll ((List.replicate (p1.length : Int).toNat ([] : List Int)).map (List.map (D.int .i64)))] [((p1.map (el (D.int .i64)))).length = p1.length, (0 : Int) ≤ (p1.length : Int) ∧ (p1.length : Int) ≤ (p1.length : Int) ∧ (p1.length : Int) ≤ (LIM : Int), List.replicate (p1.length : Int).toNat ([] : List D) = (List.replicate (p1.length : Int).toNat ([] : List Int)).map (List.map (D.int .i64))] (by kernel_rfl) (AC (List.length_map _) (AC hx1 (A1 (rr_map (D.int .i64) _)))) ?_
  refine K_seq (K_seq (K_r [.n p1.length] [((p1.map (el (D.int .i64)))).length = p1.length] (by kernel_rfl) (A1 (List.length_map _)) ?_))
  refine K_block (K_conv (σ' := ⟨[(0, (.one (.d (.list (p1.map (el (D.int .i64))))))), (1, (I p2)), (5, (.one (.own 0 0 ((p1.length : Int).toNat)))), (14, (I (p1.length : Int))), (15, (I 0))], [.rows (.int .i64 0) ((List.replicate (p1.length : Int).toNat ([] : List Int)).map (List.map (D.int .i64))) []]⟩) (by kernel_rfl) ?_)
  obtain ⟨x17, hx17, H⟩ := bind_some' H
  refine K_loop ⟨[(0, (.one (.d (.list (p1.map (el (D.int .i64))))))), (1, (I p2)), (5, (.one (.own 0 0 ((p1.length : Int).toNat))))], [.rows (.int .i64 0) (x17.map (List.map (D.int .i64))) []]⟩ (loop_ok (fun (s : Int × (List (List Int))) => ⟨[(0, (.one (.d (.list (p1.map (el (D.int .i64))))))), (1, (I p2)), (5, (.one (.own 0 0 ((p1.length : Int).toNat)))), (14, (I (p1.length : Int))), (15, (I s.1))], [.rows (.int .i64 0) (s.2.map (List.map (D.int .i64))) []]⟩) (fun (r : ((List (List Int)))) => (.exit 0, ⟨[(0, (.one (.d (.list (p1.map (el (D.int .i64))))))), (1, (I p2)), (5, (.one (.own 0 0 ((p1.length : Int).toNat))))], [.rows (.int .i64 0) (r.map (List.map (D.int .i64))) []]⟩)) (fun r h => by cases h) (T_ref14_Fill_l1_ok k p1 p2 ((p1.length : Int).toNat) (p1.length : Int)) k (0, (List.replicate (p1.length : Int).toNat ([] : List Int))) x17 hx17) rfl ?_
  refine K_seq (K_seq (K_r [.n p1.length] [((p1.map (el (D.int .i64)))).length = p1.length] (by kernel_rfl) (A1 (List.length_map _)) ?_))
  refine K_block (K_conv (σ' := ⟨[(0, (.one (.d (.list (p1.map (el (D.int .i64))))))), (1, (I p2)), (5, (.one (.own 0 0 ((p1.length : Int).toNat)))), (29, (I (p1.length : Int))), (30, (I 0))], [.rows (.int .i64 0) (x17.map (List.map (D.int .i64))) []]⟩) (by kernel_rfl) ?_)
  obtain ⟨x119, hx119, H⟩ := bind_some' H
  refine K_loop ⟨[(5, (.one (.own 0 0 ((p1.length : Int).toNat))))], [.rows (.int .i64 0) (x119.map (List.map (D.int .i64))) []]⟩ (loop_ok (fun (s : Int × (List (List Int))) => ⟨[(0, (.one (.d (.list (p1.map (el (D.int .i64))))))), (1, (I p2)), (5, (.one (.own 0 0 ((p1.length : Int).toNat)))), (29, (I (p1.length : Int))), (30, (I s.1))], [.rows (.int .i64 0) (s.2.map (List.map (D.int .i64))) []]⟩) (fun (r : ((List (List Int)))) => (.exit 2, ⟨[(5, (.one (.own 0 0 ((p1.length : Int).toNat))))], [.rows (.int .i64 0) (r.map (List.map (D.int .i64))) []]⟩)) (fun r h => by cases h) (T_ref14_Fill_l3_ok k p1 p2 ((p1.length : Int).toNat) (p1.length : Int)) k (0, x17) x119 hx119) rfl ?_
  refine K_seq (K_r [] [] (by kernel_rfl) trivial ?_)
  refine K_g (by kernel_rfl) ?_
  cases H
  refine K_ret ?_
  exact Eq.trans (b := some ((.one (.d (.list ((((x119.map (List.map (D.int .i64))).drop 0).take ((p1.length : Int).toNat)).map D.list)))), [])) (by kernel_rfl) (by simp only [dt_map, rl_map, LI, VI])
def T_ref14_Distance (k : Nat) (p1 : List Int) (p2 : List Int) (p3 : Int) : Option (Int × Int) := match k with
 | 0 => none
 | k + 1 => ((T_ref14_Check k p1 p2 p3).bind fun x1 => (if (!decide (x1 = 0)) = true then some (0, x1) else ((T_ref14_Costs k p1 p2).bind fun x3 => (T_ref14_Fill k x3 p3).bind fun x4 => (at? x4 (w64 ((p1.length : Int) - 1))).bind fun x5 => (at? x5 (w64 ((p2.length : Int) - 1))).bind fun x6 => some (x6, 0))))
abbrev C_T_ref14_Distance (k : Nat) (p1 : List Int) (p2 : List Int) (p3 : Int) (r : Int × Int) : Prop := evF X k n_ref14_Distance [(LI p1), (LI p2), (I p3)] [] = some ((.tup [(false, [cI r.1]), (false, [cI r.2])]), [])
theorem T_ref14_Distance_ok (k : Nat) (p1 : List Int) (p2 : List Int) (p3 : Int) (r : Int × Int) : T_ref14_Distance k p1 p2 p3 = some r → C_T_ref14_Distance k p1 p2 p3 r := by
 intro H
 cases k with
 | zero => simp [T_ref14_Distance] at H
 | succ k =>
  simp only [T_ref14_Distance] at H
  refine F_in X_ref14_Distance rfl ?_
  refine K_seq (K_r [] [] (by kernel_rfl) trivial ?_)
  refine K_seq ?_
  refine K_seq ?_
  obtain ⟨x1, hx1, H⟩ := bind_some' H
  refine K_r [.r (I x1) []] [C_T_ref14_Check k p1 p2 p3 x1] (by kernel_rfl) (A1 (T_ref14_Check_ok k p1 p2 p3 x1 hx1)) ?_
  refine K_seq (K_r [] [] (by kernel_rfl) trivial ?_)
  rcases ite_some H with ⟨hx2, H⟩ | ⟨hx2, H⟩
  · refine K_t (by kernel_rfl) hx2 ?_
    refine K_seq (K_r [] [] (by kernel_rfl) trivial ?_)
    refine K_g (by kernel_rfl) ?_
    cases H
    refine K_ret ?_
    kernel_rfl
  · refine K_f (by kernel_rfl) (Bool.eq_false_iff.2 hx2) ?_
    refine K_g (by kernel_rfl) ?_
    refine K_skip ?_
    refine K_seq ?_
    obtain ⟨x3, hx3, H⟩ := bind_some' H
    obtain ⟨x4, hx4, H⟩ := bind_some' H
    obtain ⟨x5, hx5, H⟩ := bind_some' H
    obtain ⟨x6, hx6, H⟩ := bind_some' H
    refine K_r [.r (.one (.d (.list (x3.map (el (D.int .i64)))))) [], .r (.one (.d (.list (x4.map (el (D.int .i64)))))) [], .n p1.length, .l [.list (x5.map (D.int .i64))], .n p2.length, .l [.int .i64 x6]] [C_T_ref14_Costs k p1 p2 x3, C_T_ref14_Fill k x3 p3 x4, ((p1.map (D.int .i64))).length = p1.length, (0 : Int) ≤ (w64 ((p1.length : Int) - 1)) ∧ (w64 ((p1.length : Int) - 1)) < (((x4.map (el (D.int .i64)))).length : Int), ((x4.map (el (D.int .i64))).getD (w64 ((p1.length : Int) - 1)).toNat (.list [])).cells = [.list (x5.map (D.int .i64))], ((p2.map (D.int .i64))).length = p2.length, (0 : Int) ≤ (w64 ((p2.length : Int) - 1)) ∧ (w64 ((p2.length : Int) - 1)) < (((x5.map (D.int .i64))).length : Int), ((x5.map (D.int .i64)).getD (w64 ((p2.length : Int) - 1)).toNat (.int .i64 0)).cells = [.int .i64 x6]] (by kernel_rfl) (AC (T_ref14_Costs_ok k p1 p2 x3 hx3) (AC (T_ref14_Fill_ok k x3 p3 x4 hx4) (AC (List.length_map _) (AC (at_ok hx5 (el (D.int .i64)) (.list [])).1 (AC (at_ok hx5 (el (D.int .i64)) (.list [])).2 (AC (List.length_map _) (AC (at_ok hx6 (D.int .i64) (.int .i64 0)).1 (A1 (at_ok hx6 (D.int .i64) (.int .i64 0)).2)))))))) ?_
    refine K_g (by kernel_rfl) ?_
    cases H
    refine K_ret ?_
    kernel_rfl
def T_ref01_common_l1 (k : Nat) (x5 : Int × Int) : Option ((Int × Int) ⊕ Int) :=
 (if 0 < x5.2 then (if x5.2 ≠ 0 then some (.inl (x5.2, (x5.1.tmod x5.2))) else none) else some (.inr x5.1))
theorem T_ref01_common_l1_ok (k : Nat) : ∀ (x5 : Int × Int) (x : (Int × Int) ⊕ Int), T_ref01_common_l1 k x5 = some x → evC X (evF X k) k 0 l_ref01_common_1 ⟨[(0, (I x5.1)), (1, (I x5.2))], []⟩ = some (outS (fun (s : Int × Int) => ⟨[(0, (I s.1)), (1, (I s.2))], []⟩) (fun (r : Int) => (.exit 0, ⟨[(0, (I r))], []⟩)) x) := by
 intro x5 x H
 unfold T_ref01_common_l1 at H
 refine K_in ?_
 refine K_seq (K_seq (K_r [] [] (by kernel_rfl) trivial ?_))
 rcases ite_some H with ⟨hx6, H⟩ | ⟨hx6, H⟩
 · refine K_t (by kernel_rfl) (decide_eq_true hx6) ?_
   refine K_g (by kernel_rfl) ?_
   refine K_skip ?_
   refine K_block ?_
   obtain ⟨hx7, H⟩ := guard_some H
   refine K_r [] [x5.2 ≠ (0 : Int)] (by kernel_rfl) (A1 hx7) ?_
   refine K_blk ?_
   cases H
   exact K_end (by kernel_rfl)
 · refine K_f (by kernel_rfl) (decide_eq_false hx6) ?_
   refine K_g (by kernel_rfl) ?_
   cases H
   exact K_exit0 rfl (by kernel_rfl)
def T_ref01_common (k : Nat) (p1 : Int) (p2 : Int) : Option Int := match k with
 | 0 => none
 | k + 1 => ((loopT (T_ref01_common_l1 k) k (p1, p2)).bind fun x8 => some x8)
abbrev C_T_ref01_common (k : Nat) (p1 : Int) (p2 : Int) (r : Int) : Prop := evF X k n_ref01_common [(I p1), (I p2)] [] = some ((I r), [])
theorem T_ref01_common_ok (k : Nat) (p1 : Int) (p2 : Int) (r : Int) : T_ref01_common k p1 p2 = some r → C_T_ref01_common k p1 p2 r := by
 intro H
 cases k with
 | zero => simp [T_ref01_common] at H
 | succ k =>
  simp only [T_ref01_common] at H
  refine F_in X_ref01_common rfl ?_
  refine K_seq (K_r [] [] (by kernel_rfl) trivial ?_)
  refine K_seq (K_block (K_conv (σ' := ⟨[(0, (I p1)), (1, (I p2))], []⟩) (by kernel_rfl) ?_))
  obtain ⟨x8, hx8, H⟩ := bind_some' H
  refine K_loop ⟨[(0, (I x8))], []⟩ (loop_ok (fun (s : Int × Int) => ⟨[(0, (I s.1)), (1, (I s.2))], []⟩) (fun (r : Int) => (.exit 0, ⟨[(0, (I r))], []⟩)) (fun r h => by cases h) (T_ref01_common_l1_ok k) k (p1, p2) x8 hx8) rfl ?_
  refine K_seq (K_r [] [] (by kernel_rfl) trivial ?_)
  refine K_g (by kernel_rfl) ?_
  cases H
  refine K_ret ?_
  kernel_rfl
def T_ref01_Valid (k : Nat) (p1 : Int) (p2 : Int) : Option Bool := match k with
 | 0 => none
 | k + 1 => (((if (((decide (0 ≤ p1) && decide (p1 ≤ 2305843009213693952)) && decide (1 ≤ p2)) && decide (p2 ≤ 1152921504606846976)) = true then ((T_ref01_common k p1 p2).bind fun x3 => some (decide (x3 = 1))) else some false)).bind fun x4 => some x4)
abbrev C_T_ref01_Valid (k : Nat) (p1 : Int) (p2 : Int) (r : Bool) : Prop := evF X k n_ref01_Valid [(.agg [cI p1, cI p2])] [] = some ((B r), [])
theorem T_ref01_Valid_ok (k : Nat) (p1 : Int) (p2 : Int) (r : Bool) : T_ref01_Valid k p1 p2 = some r → C_T_ref01_Valid k p1 p2 r := by
 intro H
 cases k with
 | zero => simp [T_ref01_Valid] at H
 | succ k =>
  simp only [T_ref01_Valid] at H
  refine F_in X_ref01_Valid rfl ?_
  refine K_seq (K_r [] [] (by kernel_rfl) trivial ?_)
  refine K_seq ?_
  obtain ⟨x4, hx4, H⟩ := bind_some' H
  refine K_of ⟨[(2, (B x4))], []⟩ ?_ ?_
  · clear H; have H := hx4; clear hx4; refine K_in ?_
    rcases ite_some H with ⟨hx2, H⟩ | ⟨hx2, H⟩
    · obtain ⟨x3, hx3, H⟩ := bind_some' H
      refine K_r [.m, .m, .m, .b true, .r (I x3) []] ((fun (z1 : Heap) => [z1 = z1, z1 = z1, z1 = z1, (((decide (0 ≤ p1) && decide (p1 ≤ 2305843009213693952)) && decide (1 ≤ p2)) && decide (p2 ≤ 1152921504606846976)) = true, C_T_ref01_common k p1 p2 x3]) [.cells [cI p1, cI p2]]) (by kernel_rfl) (AC rfl (AC rfl (AC rfl (AC hx2 (A1 (T_ref01_common_ok k p1 p2 x3 hx3)))))) ?_
      cases H
      exact K_end (by kernel_rfl)
    · refine K_r [.m, .m, .m, .b false] ((fun (z1 : Heap) => [z1 = z1, z1 = z1, z1 = z1, (((decide (0 ≤ p1) && decide (p1 ≤ 2305843009213693952)) && decide (1 ≤ p2)) && decide (p2 ≤ 1152921504606846976)) = false]) [.cells [cI p1, cI p2]]) (by kernel_rfl) (AC rfl (AC rfl (AC rfl (A1 (Bool.eq_false_iff.2 hx2))))) ?_
      cases H
      exact K_end (by kernel_rfl)
  refine K_g (by kernel_rfl) ?_
  cases H
  refine K_ret ?_
  kernel_rfl
def T_ref01_order (k : Nat) (p1 : Int) (p2 : Int) (p3 : Int) (p4 : Int) : Option Int := match k with
 | 0 => none
 | k + 1 => (if p2 ≠ 0 then (if p4 ≠ 0 then (if (!decide ((w64 (p1.tdiv p2)) = (w64 (p3.tdiv p4)))) = true then (if (w64 (p1.tdiv p2)) < (w64 (p3.tdiv p4)) then some (-1) else some 1) else (if p2 ≠ 0 then (if p4 ≠ 0 then (if (decide ((p1.tmod p2) = 0) && decide ((p3.tmod p4) = 0)) = true then some 0 else (if (p1.tmod p2) = 0 then some (-1) else (if (p3.tmod p4) = 0 then some 1 else ((T_ref01_order k p4 (p3.tmod p4) p2 (p1.tmod p2)).bind fun x10 => some x10)))) else none) else none)) else none) else none)
abbrev C_T_ref01_order (k : Nat) (p1 : Int) (p2 : Int) (p3 : Int) (p4 : Int) (r : Int) : Prop := evF X k n_ref01_order [(I p1), (I p2), (I p3), (I p4)] [] = some ((I r), [])
theorem T_ref01_order_ok (k : Nat) (p1 : Int) (p2 : Int) (p3 : Int) (p4 : Int) (r : Int) : T_ref01_order k p1 p2 p3 p4 = some r → C_T_ref01_order k p1 p2 p3 p4 r := by
 intro H
 cases k with
 | zero => simp [T_ref01_order] at H
 | succ k =>
  simp only [T_ref01_order] at H
  refine F_in X_ref01_order rfl ?_
  refine K_seq (K_r [] [] (by kernel_rfl) trivial ?_)
  refine K_seq ?_
  obtain ⟨hx1, H⟩ := guard_some H
  obtain ⟨hx2, H⟩ := guard_some H
  refine K_r [] [p2 ≠ (0 : Int), p4 ≠ (0 : Int)] (by kernel_rfl) (AC hx1 (A1 hx2)) ?_
  refine K_seq (K_seq (K_r [] [] (by kernel_rfl) trivial ?_))
  rcases ite_some H with ⟨hx3, H⟩ | ⟨hx3, H⟩
  · refine K_t (by kernel_rfl) hx3 ?_
    refine K_seq (K_seq (K_r [] [] (by kernel_rfl) trivial ?_))
    rcases ite_some H with ⟨hx4, H⟩ | ⟨hx4, H⟩
    · refine K_t (by kernel_rfl) (decide_eq_true hx4) ?_
      refine K_seq (K_r [] [] (by kernel_rfl) trivial ?_)
      refine K_g (by kernel_rfl) ?_
      cases H
      refine K_ret ?_
      kernel_rfl
    · refine K_f (by kernel_rfl) (decide_eq_false hx4) ?_
      refine K_g (by kernel_rfl) ?_
      refine K_skip (K_seq (K_r [] [] (by kernel_rfl) trivial ?_))
      refine K_g (by kernel_rfl) ?_
      cases H
      refine K_ret ?_
      kernel_rfl
  · refine K_f (by kernel_rfl) (Bool.eq_false_iff.2 hx3) ?_
    refine K_g (by kernel_rfl) ?_
    refine K_skip ?_
    refine K_seq ?_
    obtain ⟨hx5, H⟩ := guard_some H
    obtain ⟨hx6, H⟩ := guard_some H
    refine K_r [] [p2 ≠ (0 : Int), p4 ≠ (0 : Int)] (by kernel_rfl) (AC hx5 (A1 hx6)) ?_
    refine K_seq (K_block (K_seq (K_r [.m] [([] : Heap) = []] (by kernel_rfl) (A1 rfl) ?_)))
    rcases ite_some H with ⟨hx7, H⟩ | ⟨hx7, H⟩
    · refine K_t (by kernel_rfl) hx7 ?_
      refine K_seq (K_r [] [] (by kernel_rfl) trivial ?_)
      refine K_g (by kernel_rfl) ?_
      cases H
      refine K_ret ?_
      kernel_rfl
    · refine K_f (by kernel_rfl) (Bool.eq_false_iff.2 hx7) ?_
      refine K_seq (K_r [] [] (by kernel_rfl) trivial ?_)
      rcases ite_some H with ⟨hx8, H⟩ | ⟨hx8, H⟩
      · refine K_t (by kernel_rfl) (decide_eq_true hx8) ?_
        refine K_seq (K_r [] [] (by kernel_rfl) trivial ?_)
        refine K_g (by kernel_rfl) ?_
        cases H
        refine K_ret ?_
        kernel_rfl
      · refine K_f (by kernel_rfl) (decide_eq_false hx8) ?_
        refine K_seq (K_r [] [] (by kernel_rfl) trivial ?_)
        rcases ite_some H with ⟨hx9, H⟩ | ⟨hx9, H⟩
        · refine K_t (by kernel_rfl) (decide_eq_true hx9) ?_
          refine K_seq (K_r [] [] (by kernel_rfl) trivial ?_)
          refine K_g (by kernel_rfl) ?_
          cases H
          refine K_ret ?_
          kernel_rfl
        · refine K_f (by kernel_rfl) (decide_eq_false hx9) ?_
          refine K_g (by kernel_rfl) ?_
          refine K_skip ?_
          refine K_blk ?_
          refine K_seq ?_
          obtain ⟨x10, hx10, H⟩ := bind_some' H
          refine K_r [.r (I x10) []] [C_T_ref01_order k p4 (p3.tmod p4) p2 (p1.tmod p2) x10] (by kernel_rfl) (A1 (T_ref01_order_ok k p4 (p3.tmod p4) p2 (p1.tmod p2) x10 hx10)) ?_
          refine K_g (by kernel_rfl) ?_
          cases H
          refine K_ret ?_
          kernel_rfl
def T_ref01_Cmp (k : Nat) (p1 : Int) (p2 : Int) (p3 : Int) (p4 : Int) : Option Int := match k with
 | 0 => none
 | k + 1 => ((((T_ref01_Valid k p1 p2).bind fun x1 => (if (!x1) = true then some true else ((T_ref01_Valid k p3 p4).bind fun x4 => some (!x4))))).bind fun x5 => (if x5 = true then some 0 else ((T_ref01_order k p1 p2 p3 p4).bind fun x7 => some x7)))
abbrev C_T_ref01_Cmp (k : Nat) (p1 : Int) (p2 : Int) (p3 : Int) (p4 : Int) (r : Int) : Prop := evF X k n_ref01_Cmp [(.agg [cI p1, cI p2]), (.agg [cI p3, cI p4])] [] = some ((I r), [])
theorem T_ref01_Cmp_ok (k : Nat) (p1 : Int) (p2 : Int) (p3 : Int) (p4 : Int) (r : Int) : T_ref01_Cmp k p1 p2 p3 p4 = some r → C_T_ref01_Cmp k p1 p2 p3 p4 r := by
 intro H
 cases k with
 | zero => simp [T_ref01_Cmp] at H
 | succ k =>
  simp only [T_ref01_Cmp] at H
  refine F_in X_ref01_Cmp rfl ?_
  refine K_seq (K_r [] [] (by kernel_rfl) trivial ?_)
  refine K_seq ?_
  refine K_seq ?_
  obtain ⟨x5, hx5, H⟩ := bind_some' H
  refine K_of ⟨[(2, (Pt 0)), (3, (Pt 1)), (12, (B x5))], [.cells [cI p1, cI p2], .cells [cI p3, cI p4]]⟩ ?_ ?_
  · clear H; have H := hx5; clear hx5; refine K_in ?_
    obtain ⟨x1, hx1, H⟩ := bind_some' H
    rcases ite_some H with ⟨hx3, H⟩ | ⟨hx3, H⟩
    · refine K_r [.r (B x1) [], .b true] [C_T_ref01_Valid k p1 p2 x1, (!x1) = true] (by kernel_rfl) (AC (T_ref01_Valid_ok k p1 p2 x1 hx1) (A1 hx3)) ?_
      cases H
      exact K_end (by kernel_rfl)
    · obtain ⟨x4, hx4, H⟩ := bind_some' H
      refine K_r [.r (B x1) [], .b false, .r (B x4) []] [C_T_ref01_Valid k p1 p2 x1, (!x1) = false, C_T_ref01_Valid k p3 p4 x4] (by kernel_rfl) (AC (T_ref01_Valid_ok k p1 p2 x1 hx1) (AC (Bool.eq_false_iff.2 hx3) (A1 (T_ref01_Valid_ok k p3 p4 x4 hx4)))) ?_
      cases H
      exact K_end (by kernel_rfl)
  rcases ite_some H with ⟨hx6, H⟩ | ⟨hx6, H⟩
  · refine K_t (by kernel_rfl) hx6 ?_
    refine K_seq (K_r [] [] (by kernel_rfl) trivial ?_)
    refine K_g (by kernel_rfl) ?_
    cases H
    refine K_ret ?_
    kernel_rfl
  · refine K_f (by kernel_rfl) (Bool.eq_false_iff.2 hx6) ?_
    refine K_g (by kernel_rfl) ?_
    refine K_skip ?_
    refine K_seq ?_
    obtain ⟨x7, hx7, H⟩ := bind_some' H
    refine K_r [.r (I x7) []] [C_T_ref01_order k p1 p2 p3 p4 x7] (by kernel_rfl) (A1 (T_ref01_order_ok k p1 p2 p3 p4 x7 hx7)) ?_
    refine K_g (by kernel_rfl) ?_
    cases H
    refine K_ret ?_
    kernel_rfl
def T_envelope_Of (k : Nat) (p1 : List Int) (p2 : Int) (p3 : Int) : Option ((List Int) × (List Int) × Int) := match k with
 | 0 => none
 | k + 1 => (if (decide (p2 < 0) || decide (32 < p2)) = true then some ([], [], 1) else ((T_euclid_Distance k p1 p1).bind fun x2 => (if (!decide (x2.2 = 0)) = true then some ([], [], x2.2) else (if (((decide (p3 < 2) || decide (32 < p3)) || decide (p2 < (w64 (p3 - (p1.length : Int))))) || decide (p2 < (w64 ((p1.length : Int) - p3)))) = true then some ([], [], 8) else ((T_envelope_of k p1 p2 p3).bind fun x5 => some (x5.1, x5.2, 0))))))
abbrev C_T_envelope_Of (k : Nat) (p1 : List Int) (p2 : Int) (p3 : Int) (r : (List Int) × (List Int) × Int) : Prop := evF X k n_envelope_Of [(LI p1), (I p2), (I p3)] [] = some ((.tup [(false, [cL r.1]), (false, [cL r.2.1]), (false, [cI r.2.2])]), [])
theorem T_envelope_Of_ok (k : Nat) (p1 : List Int) (p2 : Int) (p3 : Int) (r : (List Int) × (List Int) × Int) : T_envelope_Of k p1 p2 p3 = some r → C_T_envelope_Of k p1 p2 p3 r := by
 intro H
 cases k with
 | zero => simp [T_envelope_Of] at H
 | succ k =>
  simp only [T_envelope_Of] at H
  refine F_in X_envelope_Of rfl ?_
  refine K_seq (K_r [] [] (by kernel_rfl) trivial ?_)
  refine K_seq (K_seq (K_r [.m] [([] : Heap) = []] (by kernel_rfl) (A1 rfl) ?_))
  rcases ite_some H with ⟨hx1, H⟩ | ⟨hx1, H⟩
  · refine K_t (by kernel_rfl) hx1 ?_
    refine K_seq (K_r [] [] (by kernel_rfl) trivial ?_)
    refine K_g (by kernel_rfl) ?_
    cases H
    refine K_ret ?_
    kernel_rfl
  · refine K_f (by kernel_rfl) (Bool.eq_false_iff.2 hx1) ?_
    refine K_g (by kernel_rfl) ?_
    refine K_skip ?_
    refine K_seq ?_
    refine K_seq ?_
    obtain ⟨x2, hx2, H⟩ := bind_some' H
    refine K_r [.r (.tup [(false, [cI x2.1]), (false, [cI x2.2])]) []] [C_T_euclid_Distance k p1 p1 x2] (by kernel_rfl) (A1 (T_euclid_Distance_ok k p1 p1 x2 hx2)) ?_
    refine K_seq (K_r [] [] (by kernel_rfl) trivial ?_)
    rcases ite_some H with ⟨hx3, H⟩ | ⟨hx3, H⟩
    · refine K_t (by kernel_rfl) hx3 ?_
      refine K_seq (K_r [] [] (by kernel_rfl) trivial ?_)
      refine K_g (by kernel_rfl) ?_
      cases H
      refine K_ret ?_
      kernel_rfl
    · refine K_f (by kernel_rfl) (Bool.eq_false_iff.2 hx3) ?_
      refine K_g (by kernel_rfl) ?_
      refine K_skip (K_seq (K_seq (K_r [.m, .m, .n p1.length, .m, .n p1.length] [([] : Heap) = [], (decide (p3 < 2) || decide (32 < p3)) = false → AllT [((p1.map (D.int .i64))).length = p1.length], ([] : Heap) = [], ((decide (p3 < 2) || decide (32 < p3)) || decide (p2 < (w64 (p3 - (p1.length : Int))))) = false → AllT [((p1.map (D.int .i64))).length = p1.length], ([] : Heap) = []] (by kernel_rfl) (AC rfl (AC (fun _ => (A1 (List.length_map _))) (AC rfl (AC (fun _ => (A1 (List.length_map _))) (A1 rfl))))) ?_)))
      rcases ite_some H with ⟨hx4, H⟩ | ⟨hx4, H⟩
      · refine K_t (by kernel_rfl) hx4 ?_
        refine K_seq (K_r [] [] (by kernel_rfl) trivial ?_)
        refine K_g (by kernel_rfl) ?_
        cases H
        refine K_ret ?_
        kernel_rfl
      · refine K_f (by kernel_rfl) (Bool.eq_false_iff.2 hx4) ?_
        refine K_g (by kernel_rfl) ?_
        refine K_skip ?_
        refine K_seq ?_
        obtain ⟨x5, hx5, H⟩ := bind_some' H
        refine K_r [.r (.agg [cL x5.1, cL x5.2]) []] [C_T_envelope_of k p1 p2 p3 x5] (by kernel_rfl) (A1 (T_envelope_of_ok k p1 p2 p3 x5 hx5)) ?_
        refine K_seq (K_r [] [] (by kernel_rfl) trivial ?_)
        refine K_g (by kernel_rfl) ?_
        cases H
        refine K_ret ?_
        kernel_rfl
def T_keep_Ints_l1 (k : Nat) (p1 : List Int) (p2 : List Int) (x4 : Int) (x10 : Int) : Option (Int ⊕ (Unit ⊕ Unit)) :=
 (if x10 < x4 then ((at? p1 x10).bind fun x12 => (at? p2 x10).bind fun x13 => (if (!decide (x12 = x13)) = true then some (.inr (.inr ())) else some (.inl (w64 (x10 + 1))))) else some (.inr (.inl ())))
theorem T_keep_Ints_l1_ok (k : Nat) (p1 : List Int) (p2 : List Int) (x4 : Int) : ∀ (x10 : Int) (x : Int ⊕ (Unit ⊕ Unit)), T_keep_Ints_l1 k p1 p2 x4 x10 = some x → evC X (evF X k) k 0 l_keep_Ints_1 ⟨[(0, (LI p1)), (1, (LI p2)), (12, (I x4)), (13, (I x10))], []⟩ = some (outS (fun (s : Int) => ⟨[(0, (LI p1)), (1, (LI p2)), (12, (I x4)), (13, (I s))], []⟩) (fun (r : Unit ⊕ Unit) => Sum.elim (fun y => (.exit 0, ⟨[], []⟩)) (fun y => (.ret, ⟨[(4, (B false))], []⟩)) r) x) := by
 intro x10 x H
 unfold T_keep_Ints_l1 at H
 refine K_in ?_
 refine K_seq (K_r [] [] (by kernel_rfl) trivial ?_)
 refine K_seq ?_
 rcases ite_some H with ⟨hx11, H⟩ | ⟨hx11, H⟩
 · refine K_t (by kernel_rfl) (decide_eq_true hx11) ?_
   refine K_g (by kernel_rfl) ?_
   refine K_skip (K_seq (K_block (K_seq (K_r [] [] (by kernel_rfl) trivial ?_))))
   refine K_seq ?_
   obtain ⟨x12, hx12, H⟩ := bind_some' H
   obtain ⟨x13, hx13, H⟩ := bind_some' H
   refine K_r [.l [.int .i64 x12], .l [.int .i64 x13]] [(0 : Int) ≤ x10 ∧ x10 < (((p1.map (D.int .i64))).length : Int), ((p1.map (D.int .i64)).getD x10.toNat (.int .i64 0)).cells = [.int .i64 x12], (0 : Int) ≤ x10 ∧ x10 < (((p2.map (D.int .i64))).length : Int), ((p2.map (D.int .i64)).getD x10.toNat (.int .i64 0)).cells = [.int .i64 x13]] (by kernel_rfl) (AC (at_ok hx12 (D.int .i64) (.int .i64 0)).1 (AC (at_ok hx12 (D.int .i64) (.int .i64 0)).2 (AC (at_ok hx13 (D.int .i64) (.int .i64 0)).1 (A1 (at_ok hx13 (D.int .i64) (.int .i64 0)).2)))) ?_
   rcases ite_some H with ⟨hx14, H⟩ | ⟨hx14, H⟩
   · refine K_t (by kernel_rfl) hx14 ?_
     refine K_seq (K_r [] [] (by kernel_rfl) trivial ?_)
     refine K_g (by kernel_rfl) ?_
     cases H
     exact K_ret (by kernel_rfl)
   · refine K_f (by kernel_rfl) (Bool.eq_false_iff.2 hx14) ?_
     refine K_g (by kernel_rfl) ?_
     refine K_skip (K_blk (K_r [] [] (by kernel_rfl) trivial ?_))
     cases H
     exact K_end (by kernel_rfl)
 · refine K_f (by kernel_rfl) (decide_eq_false hx11) ?_
   refine K_g (by kernel_rfl) ?_
   cases H
   exact K_exit0 rfl (by kernel_rfl)
def T_keep_Ints (k : Nat) (p1 : List Int) (p2 : List Int) : Option Bool := match k with
 | 0 => none
 | k + 1 => (if (!decide ((p1.length : Int) = (p2.length : Int))) = true then some false else ((loopT (T_keep_Ints_l1 k p1 p2 (p1.length : Int)) k 0).bind fun x15 => (match x15 with | .inl x16 => some true | .inr x17 => some false)))
abbrev C_T_keep_Ints (k : Nat) (p1 : List Int) (p2 : List Int) (r : Bool) : Prop := evF X k n_keep_Ints [(LI p1), (LI p2)] [] = some ((B r), [])
theorem T_keep_Ints_ok (k : Nat) (p1 : List Int) (p2 : List Int) (r : Bool) : T_keep_Ints k p1 p2 = some r → C_T_keep_Ints k p1 p2 r := by
 intro H
 cases k with
 | zero => simp [T_keep_Ints] at H
 | succ k =>
  simp only [T_keep_Ints] at H
  refine F_in X_keep_Ints rfl ?_
  refine K_seq (K_r [] [] (by kernel_rfl) trivial ?_)
  refine K_seq (K_seq (K_r [.n p1.length, .n p2.length] [((p1.map (D.int .i64))).length = p1.length, ((p2.map (D.int .i64))).length = p2.length] (by kernel_rfl) (AC (List.length_map _) (A1 (List.length_map _))) ?_))
  rcases ite_some H with ⟨hx1, H⟩ | ⟨hx1, H⟩
  · refine K_t (by kernel_rfl) hx1 ?_
    refine K_seq (K_r [] [] (by kernel_rfl) trivial ?_)
    refine K_g (by kernel_rfl) ?_
    cases H
    refine K_ret ?_
    kernel_rfl
  · refine K_f (by kernel_rfl) (Bool.eq_false_iff.2 hx1) ?_
    refine K_g (by kernel_rfl) ?_
    refine K_skip (K_seq (K_seq (K_r [.n p1.length] [((p1.map (D.int .i64))).length = p1.length] (by kernel_rfl) (A1 (List.length_map _)) ?_)))
    refine K_block (K_conv (σ' := ⟨[(0, (LI p1)), (1, (LI p2)), (12, (I (p1.length : Int))), (13, (I 0))], []⟩) (by kernel_rfl) ?_)
    obtain ⟨x15, hx15, H⟩ := bind_some' H
    cases x15 with
    | inl x16 =>
     dsimp only at H
     refine K_loop ⟨[], []⟩ (loop_ok (fun (s : Int) => ⟨[(0, (LI p1)), (1, (LI p2)), (12, (I (p1.length : Int))), (13, (I s))], []⟩) (fun (r : Unit ⊕ Unit) => Sum.elim (fun y => (.exit 0, ⟨[], []⟩)) (fun y => (.ret, ⟨[(4, (B false))], []⟩)) r) (fun r h => by cases r <;> cases h) (T_keep_Ints_l1_ok k p1 p2 (p1.length : Int)) k 0 (.inl x16) hx15) rfl ?_
     refine K_seq (K_r [] [] (by kernel_rfl) trivial ?_)
     refine K_g (by kernel_rfl) ?_
     cases H
     refine K_ret ?_
     kernel_rfl
    | inr x17 =>
     dsimp only at H
     cases H
     refine K_loopr ⟨[(4, (B false))], []⟩ (loop_ok (fun (s : Int) => ⟨[(0, (LI p1)), (1, (LI p2)), (12, (I (p1.length : Int))), (13, (I s))], []⟩) (fun (r : Unit ⊕ Unit) => Sum.elim (fun y => (.exit 0, ⟨[], []⟩)) (fun y => (.ret, ⟨[(4, (B false))], []⟩)) r) (fun r h => by cases r <;> cases h) (T_keep_Ints_l1_ok k p1 p2 (p1.length : Int)) k 0 (.inr x17) hx15) ?_
     kernel_rfl
def T_law20_awake (k : Nat) : Option Bool := match k with
 | 0 => none
 | k + 1 => ((T_envelope_Of k ([0, 0, 5] : List Int) 1 3).bind fun x1 => (T_envelope_Keogh k ([0, 0, 5] : List Int) ([0, 5, 9] : List Int) 1).bind fun x2 => (T_envelope_Pieces k ([0, 0, 5] : List Int) ([0, 5, 9] : List Int) 1 1).bind fun x3 => ((if x1.2.2 = 0 then ((T_keep_Ints k x1.1 ([0, 5, 5] : List Int)).bind fun x6 => (if x6 = true then ((T_keep_Ints k x1.2.1 ([0, 0, 0] : List Int)).bind fun x9 => some ((((x9 && decide (x2.2 = 0)) && decide (x2.1 = 16)) && decide (x3.2.2 = 0)) && (decide (x3.1 = 16) && (decide (x3.2.1 = 3) && true)))) else some false)) else some false)).bind fun x10 => some x10)
abbrev C_T_law20_awake (k : Nat) (r : Bool) : Prop := evF X k n_law20_awake [] [] = some ((B r), [])
theorem T_law20_awake_ok (k : Nat) (r : Bool) : T_law20_awake k = some r → C_T_law20_awake k r := by
 intro H
 cases k with
 | zero => simp [T_law20_awake] at H
 | succ k =>
  simp only [T_law20_awake] at H
  refine F_in X_law20_awake rfl ?_
  refine K_seq (K_r [] [] (by kernel_rfl) trivial ?_)
  refine K_seq (K_r [] [] (by kernel_rfl) trivial ?_)
  refine K_seq ?_
  obtain ⟨x1, hx1, H⟩ := bind_some' H
  refine K_r [.r (.tup [(false, [cL x1.1]), (false, [cL x1.2.1]), (false, [cI x1.2.2])]) []] [C_T_envelope_Of k ([0, 0, 5] : List Int) 1 3 x1] (by kernel_rfl) (A1 (T_envelope_Of_ok k ([0, 0, 5] : List Int) 1 3 x1 hx1)) ?_
  refine K_seq ?_
  obtain ⟨x2, hx2, H⟩ := bind_some' H
  refine K_r [.r (.tup [(false, [cI x2.1]), (false, [cI x2.2])]) []] [C_T_envelope_Keogh k ([0, 0, 5] : List Int) ([0, 5, 9] : List Int) 1 x2] (by kernel_rfl) (A1 (T_envelope_Keogh_ok k ([0, 0, 5] : List Int) ([0, 5, 9] : List Int) 1 x2 hx2)) ?_
  refine K_seq ?_
  obtain ⟨x3, hx3, H⟩ := bind_some' H
  refine K_r [.r (.tup [(true, [cI x3.1, cI x3.2.1]), (false, [cI x3.2.2])]) []] [C_T_envelope_Pieces k ([0, 0, 5] : List Int) ([0, 5, 9] : List Int) 1 1 x3] (by kernel_rfl) (A1 (T_envelope_Pieces_ok k ([0, 0, 5] : List Int) ([0, 5, 9] : List Int) 1 1 x3 hx3)) ?_
  refine K_seq ?_
  obtain ⟨x10, hx10, H⟩ := bind_some' H
  refine K_of ⟨[(0, (B x10))], []⟩ ?_ ?_
  · clear H; have H := hx10; clear hx10; refine K_in ?_
    rcases ite_some H with ⟨hx5, H⟩ | ⟨hx5, H⟩
    · obtain ⟨x6, hx6, H⟩ := bind_some' H
      rcases ite_some H with ⟨hx8, H⟩ | ⟨hx8, H⟩
      · obtain ⟨x9, hx9, H⟩ := bind_some' H
        refine K_r [.b true, .r (B x6) [], .b true, .r (B x9) [], .m, .m, .m, .m] ((fun (z1 : Heap) => [decide (x1.2.2 = 0) = true, C_T_keep_Ints k x1.1 ([0, 5, 5] : List Int) x6, x6 = true, C_T_keep_Ints k x1.2.1 ([0, 0, 0] : List Int) x9, z1 = z1, z1 = z1, z1 = z1, z1 = z1]) [.cells [cI x3.1, cI x3.2.1]]) (by kernel_rfl) (AC (decide_eq_true hx5) (AC (T_keep_Ints_ok k x1.1 ([0, 5, 5] : List Int) x6 hx6) (AC hx8 (AC (T_keep_Ints_ok k x1.2.1 ([0, 0, 0] : List Int) x9 hx9) (AC rfl (AC rfl (AC rfl (A1 rfl)))))))) ?_
        cases H
        exact K_end (by kernel_rfl)
      · refine K_r [.b true, .r (B x6) [], .b false, .b false, .b false, .b false, .b false] [decide (x1.2.2 = 0) = true, C_T_keep_Ints k x1.1 ([0, 5, 5] : List Int) x6, x6 = false, false = false, false = false, false = false, false = false] (by kernel_rfl) (AC (decide_eq_true hx5) (AC (T_keep_Ints_ok k x1.1 ([0, 5, 5] : List Int) x6 hx6) (AC (Bool.eq_false_iff.2 hx8) (AC rfl (AC rfl (AC rfl (A1 rfl))))))) ?_
        cases H
        exact K_end (by kernel_rfl)
    · refine K_r [.b false, .b false, .b false, .b false, .b false, .b false] [decide (x1.2.2 = 0) = false, false = false, false = false, false = false, false = false, false = false] (by kernel_rfl) (AC (decide_eq_false hx5) (AC rfl (AC rfl (AC rfl (AC rfl (A1 rfl)))))) ?_
      cases H
      exact K_end (by kernel_rfl)
  refine K_g (by kernel_rfl) ?_
  cases H
  refine K_ret ?_
  kernel_rfl
def T_law20_EnvelopeCascade (k : Nat) (p1 : List Int) : Option Bool := match k with
 | 0 => none
 | k + 1 => ((T_keep_New k p1).bind fun x1 => (T_keep_Src_Uneven k ((p1.drop 0).take ((imin (p1.length : Int) 2000).toNat - 0)) 0).bind fun x2 => (T_keep_Src_Range k 1 (imin 8 (x2.2.1.length : Int)) ((p1.drop 0).take ((imin (p1.length : Int) 2000).toNat - 0)) x2.2.2.2).bind fun x3 => (T_envelope_Pieces k x2.1 x2.2.1 x2.2.2.1 x3.1).bind fun x4 => (T_envelope_Keogh k x2.1 x2.2.1 x2.2.2.1).bind fun x5 => (T_envelope_Improved k x2.1 x2.2.1 x2.2.2.1).bind fun x6 => (T_ref14_Distance k x2.1 x2.2.1 x2.2.2.1).bind fun x7 => ((if ((decide (x4.2.2 = 0) && decide (x5.2 = 0)) && decide (x6.2 = 0)) = true then ((T_ref01_Valid k x4.1 x4.2.1).bind fun x10 => (if x10 = true then ((T_ref01_Cmp k x4.1 x4.2.1 x5.1 1).bind fun x13 => (if (((decide (x13 ≤ 0) && decide (0 ≤ x5.1)) && decide (x5.1 ≤ x6.1)) && decide (x6.1 ≤ x7.1)) = true then ((T_law20_awake k).bind fun x16 => some x16) else some false)) else some false)) else some false)).bind fun x17 => some x17)
abbrev C_T_law20_EnvelopeCascade (k : Nat) (p1 : List Int) (r : Bool) : Prop := evF X k n_law20_EnvelopeCascade [(LI p1)] [] = some ((B r), [])
theorem T_law20_EnvelopeCascade_ok (k : Nat) (p1 : List Int) (r : Bool) : T_law20_EnvelopeCascade k p1 = some r → C_T_law20_EnvelopeCascade k p1 r := by
 intro H
 cases k with
 | zero => simp [T_law20_EnvelopeCascade] at H
 | succ k =>
  simp only [T_law20_EnvelopeCascade] at H
  refine F_in X_law20_EnvelopeCascade rfl ?_
  refine K_seq (K_r [] [] (by kernel_rfl) trivial ?_)
  refine K_seq ?_
  obtain ⟨x1, hx1, H⟩ := bind_some' H
  refine K_r [.r (Pt 0) [.cells [cL ((p1.drop 0).take ((imin (p1.length : Int) 2000).toNat - 0)), cI 0]]] [C_T_keep_New k p1 x1] (by kernel_rfl) (A1 (T_keep_New_ok k p1 x1 hx1)) ?_
  refine K_seq ?_
  obtain ⟨x2, hx2, H⟩ := bind_some' H
  refine K_r [.r (.tup [(false, [cL x2.1]), (false, [cL x2.2.1]), (false, [cI x2.2.2.1])]) [.cells [cL ((p1.drop 0).take ((imin (p1.length : Int) 2000).toNat - 0)), cI x2.2.2.2]]] [C_T_keep_Src_Uneven k ((p1.drop 0).take ((imin (p1.length : Int) 2000).toNat - 0)) 0 x2] (by kernel_rfl) (A1 (T_keep_Src_Uneven_ok k ((p1.drop 0).take ((imin (p1.length : Int) 2000).toNat - 0)) 0 x2 hx2)) ?_
  refine K_seq ?_
  obtain ⟨x3, hx3, H⟩ := bind_some' H
  refine K_r [.n x2.2.1.length, .r (I x3.1) [.cells [cL ((p1.drop 0).take ((imin (p1.length : Int) 2000).toNat - 0)), cI x3.2]]] [((x2.2.1.map (D.int .i64))).length = x2.2.1.length, C_T_keep_Src_Range k 1 (imin 8 (x2.2.1.length : Int)) ((p1.drop 0).take ((imin (p1.length : Int) 2000).toNat - 0)) x2.2.2.2 x3] (by kernel_rfl) (AC (List.length_map _) (A1 (T_keep_Src_Range_ok k 1 (imin 8 (x2.2.1.length : Int)) ((p1.drop 0).take ((imin (p1.length : Int) 2000).toNat - 0)) x2.2.2.2 x3 hx3))) ?_
  refine K_seq ?_
  obtain ⟨x4, hx4, H⟩ := bind_some' H
  refine K_r [.r (.tup [(true, [cI x4.1, cI x4.2.1]), (false, [cI x4.2.2])]) []] [C_T_envelope_Pieces k x2.1 x2.2.1 x2.2.2.1 x3.1 x4] (by kernel_rfl) (A1 (T_envelope_Pieces_ok k x2.1 x2.2.1 x2.2.2.1 x3.1 x4 hx4)) ?_
  refine K_seq ?_
  obtain ⟨x5, hx5, H⟩ := bind_some' H
  refine K_r [.r (.tup [(false, [cI x5.1]), (false, [cI x5.2])]) []] [C_T_envelope_Keogh k x2.1 x2.2.1 x2.2.2.1 x5] (by kernel_rfl) (A1 (T_envelope_Keogh_ok k x2.1 x2.2.1 x2.2.2.1 x5 hx5)) ?_
  refine K_seq ?_
  obtain ⟨x6, hx6, H⟩ := bind_some' H
  refine K_r [.r (.tup [(false, [cI x6.1]), (false, [cI x6.2])]) []] [C_T_envelope_Improved k x2.1 x2.2.1 x2.2.2.1 x6] (by kernel_rfl) (A1 (T_envelope_Improved_ok k x2.1 x2.2.1 x2.2.2.1 x6 hx6)) ?_
  refine K_seq ?_
  obtain ⟨x7, hx7, H⟩ := bind_some' H
  refine K_r [.r (.tup [(false, [cI x7.1]), (false, [cI x7.2])]) []] [C_T_ref14_Distance k x2.1 x2.2.1 x2.2.2.1 x7] (by kernel_rfl) (A1 (T_ref14_Distance_ok k x2.1 x2.2.1 x2.2.2.1 x7 hx7)) ?_
  refine K_seq ?_
  obtain ⟨x17, hx17, H⟩ := bind_some' H
  refine K_of ⟨[(2, (B x17))], []⟩ ?_ ?_
  · clear H; have H := hx17; clear hx17; refine K_in ?_
    rcases ite_some H with ⟨hx9, H⟩ | ⟨hx9, H⟩
    · obtain ⟨x10, hx10, H⟩ := bind_some' H
      rcases ite_some H with ⟨hx12, H⟩ | ⟨hx12, H⟩
      · obtain ⟨x13, hx13, H⟩ := bind_some' H
        rcases ite_some H with ⟨hx15, H⟩ | ⟨hx15, H⟩
        · obtain ⟨x16, hx16, H⟩ := bind_some' H
          refine K_r [.m, .m, .b true, .r (B x10) [], .b true, .r (I x13) [], .m, .m, .m, .b true, .r (B x16) []] ((fun (z1 : Heap) => [z1 = z1, z1 = z1, ((decide (x4.2.2 = 0) && decide (x5.2 = 0)) && decide (x6.2 = 0)) = true, C_T_ref01_Valid k x4.1 x4.2.1 x10, x10 = true, C_T_ref01_Cmp k x4.1 x4.2.1 x5.1 1 x13, z1 = z1, z1 = z1, z1 = z1, (((decide (x13 ≤ 0) && decide (0 ≤ x5.1)) && decide (x5.1 ≤ x6.1)) && decide (x6.1 ≤ x7.1)) = true, C_T_law20_awake k x16]) [.cells [cI x4.1, cI x4.2.1]]) (by kernel_rfl) (AC rfl (AC rfl (AC hx9 (AC (T_ref01_Valid_ok k x4.1 x4.2.1 x10 hx10) (AC hx12 (AC (T_ref01_Cmp_ok k x4.1 x4.2.1 x5.1 1 x13 hx13) (AC rfl (AC rfl (AC rfl (AC hx15 (A1 (T_law20_awake_ok k x16 hx16)))))))))))) ?_
          cases H
          exact K_end (by kernel_rfl)
        · refine K_r [.m, .m, .b true, .r (B x10) [], .b true, .r (I x13) [], .m, .m, .m, .b false] ((fun (z1 : Heap) => [z1 = z1, z1 = z1, ((decide (x4.2.2 = 0) && decide (x5.2 = 0)) && decide (x6.2 = 0)) = true, C_T_ref01_Valid k x4.1 x4.2.1 x10, x10 = true, C_T_ref01_Cmp k x4.1 x4.2.1 x5.1 1 x13, z1 = z1, z1 = z1, z1 = z1, (((decide (x13 ≤ 0) && decide (0 ≤ x5.1)) && decide (x5.1 ≤ x6.1)) && decide (x6.1 ≤ x7.1)) = false]) [.cells [cI x4.1, cI x4.2.1]]) (by kernel_rfl) (AC rfl (AC rfl (AC hx9 (AC (T_ref01_Valid_ok k x4.1 x4.2.1 x10 hx10) (AC hx12 (AC (T_ref01_Cmp_ok k x4.1 x4.2.1 x5.1 1 x13 hx13) (AC rfl (AC rfl (AC rfl (A1 (Bool.eq_false_iff.2 hx15))))))))))) ?_
          cases H
          exact K_end (by kernel_rfl)
      · refine K_r [.m, .m, .b true, .r (B x10) [], .b false, .b false, .b false, .b false, .b false] ((fun (z1 : Heap) => [z1 = z1, z1 = z1, ((decide (x4.2.2 = 0) && decide (x5.2 = 0)) && decide (x6.2 = 0)) = true, C_T_ref01_Valid k x4.1 x4.2.1 x10, x10 = false, false = false, false = false, false = false, false = false]) [.cells [cI x4.1, cI x4.2.1]]) (by kernel_rfl) (AC rfl (AC rfl (AC hx9 (AC (T_ref01_Valid_ok k x4.1 x4.2.1 x10 hx10) (AC (Bool.eq_false_iff.2 hx12) (AC rfl (AC rfl (AC rfl (A1 rfl))))))))) ?_
        cases H
        exact K_end (by kernel_rfl)
    · refine K_r [.m, .m, .b false, .b false, .b false, .b false, .b false, .b false] ((fun (z1 : Heap) => [z1 = z1, z1 = z1, ((decide (x4.2.2 = 0) && decide (x5.2 = 0)) && decide (x6.2 = 0)) = false, false = false, false = false, false = false, false = false, false = false]) [.cells [cI x4.1, cI x4.2.1]]) (by kernel_rfl) (AC rfl (AC rfl (AC (Bool.eq_false_iff.2 hx9) (AC rfl (AC rfl (AC rfl (AC rfl (A1 rfl)))))))) ?_
      cases H
      exact K_end (by kernel_rfl)
  refine K_g (by kernel_rfl) ?_
  cases H
  refine K_ret ?_
  kernel_rfl
end Go.Proofs.Ytdelnjemfjihpaa.envelopeCascade
