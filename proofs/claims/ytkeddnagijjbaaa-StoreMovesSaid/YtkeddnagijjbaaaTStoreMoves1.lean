/- What the functions that the statement StoreMoves reaches compute, told as functions of Lean, and that the theory's language computes the same: part 2 of 2. There are no conditions. -/
import Derived.Test.YtkeddnagijjbaaaTStoreMoves0
set_option maxRecDepth 100000
set_option linter.unusedVariables false
set_option linter.unusedSimpArgs false
namespace Go.Proofs.Ytkeddnagijjbaaa.storeMoves
open Go
def T_ref23_Check_l1 (k : Nat) (p1 : List (List Int)) (x8 : Int × Int) : Option ((Int × Int) ⊕ (Unit ⊕ Unit)) :=
 (if x8.2 < (p1.length : Int) then ((at? p1 x8.2).bind fun x10 => (if 2000 < (w64 (x8.1 + (x10.length : Int))) then some (.inr (.inr ())) else some (.inl ((w64 (x8.1 + (x10.length : Int))), (w64 (x8.2 + 1)))))) else some (.inr (.inl ())))
theorem T_ref23_Check_l1_ok (k : Nat) (p1 : List (List Int)) : ∀ (x8 : Int × Int) (x : (Int × Int) ⊕ (Unit ⊕ Unit)), T_ref23_Check_l1 k p1 x8 = some x → evC X (evF X k) k 0 l_ref23_Check_1 ⟨[(1, (Pt 0)), (3, (I x8.1)), (4, (I x8.2))], [.cells [.d (.list (p1.map (el (D.int .i64))))]]⟩ = some (outS (fun (s : Int × Int) => ⟨[(1, (Pt 0)), (3, (I s.1)), (4, (I s.2))], [.cells [.d (.list (p1.map (el (D.int .i64))))]]⟩) (fun (r : Unit ⊕ Unit) => Sum.elim (fun y => (.exit 0, ⟨[(1, (Pt 0))], [.cells [.d (.list (p1.map (el (D.int .i64))))]]⟩)) (fun y => (.ret, ⟨[(2, (I 20))], []⟩)) r) x) := by
 intro x8 x H
 unfold T_ref23_Check_l1 at H
 refine K_in ?_
 refine K_seq (K_seq (K_r [.n p1.length] [((p1.map (el (D.int .i64)))).length = p1.length] (by kernel_rfl) (A1 (List.length_map _)) ?_))
 rcases ite_some H with ⟨hx9, H⟩ | ⟨hx9, H⟩
 · refine K_t (by kernel_rfl) (decide_eq_true hx9) ?_
   refine K_g (by kernel_rfl) ?_
   refine K_skip ?_
   refine K_seq ?_
   refine K_block ?_
   refine K_seq ?_
   obtain ⟨x10, hx10, H⟩ := bind_some' H
   refine K_r [.l [.list (x10.map (D.int .i64))], .n x10.length] [(0 : Int) ≤ x8.2 ∧ x8.2 < (((p1.map (el (D.int .i64)))).length : Int), ((p1.map (el (D.int .i64))).getD x8.2.toNat (.list [])).cells = [.list (x10.map (D.int .i64))], ((x10.map (D.int .i64))).length = x10.length] (by kernel_rfl) (AC (at_ok hx10 (el (D.int .i64)) (.list [])).1 (AC (at_ok hx10 (el (D.int .i64)) (.list [])).2 (A1 (List.length_map _)))) ?_
   refine K_seq (K_r [] [] (by kernel_rfl) trivial ?_)
   rcases ite_some H with ⟨hx11, H⟩ | ⟨hx11, H⟩
   · refine K_t (by kernel_rfl) (decide_eq_true hx11) ?_
     refine K_seq (K_r [] [] (by kernel_rfl) trivial ?_)
     refine K_g (by kernel_rfl) ?_
     cases H
     exact K_ret (by kernel_rfl)
   · refine K_f (by kernel_rfl) (decide_eq_false hx11) ?_
     refine K_g (by kernel_rfl) ?_
     refine K_skip (K_blk (K_r [] [] (by kernel_rfl) trivial ?_))
     cases H
     exact K_end (by kernel_rfl)
 · refine K_f (by kernel_rfl) (decide_eq_false hx9) ?_
   refine K_g (by kernel_rfl) ?_
   cases H
   exact K_exit0 rfl (by kernel_rfl)
def T_ref23_Check_l2 (k : Nat) (p1 : List (List Int)) (x42 : Int) (x56 : Int) : Option (Int ⊕ (Unit ⊕ Unit)) :=
 ((at? p1 x42).bind fun x57 => (if x56 < (x57.length : Int) then ((at? p1 x42).bind fun x59 => (at? x59 x56).bind fun x60 => ((if (!decide (x60 = 1073741824)) = true then ((T_ref23_Sample k x60).bind fun x63 => some (!(decide ((-1000) ≤ x60) && decide (x60 ≤ 1000)))) else some false)).bind fun x64 => (if x64 = true then some (.inr (.inr ())) else some (.inl (w64 (x56 + 1))))) else some (.inr (.inl ()))))
theorem T_ref23_Check_l2_ok (k : Nat) (p1 : List (List Int)) (x42 : Int) : ∀ (x56 : Int) (x : Int ⊕ (Unit ⊕ Unit)), T_ref23_Check_l2 k p1 x42 x56 = some x → evC X (evF X k) k 0 l_ref23_Check_2 ⟨[(1, (Pt 0)), (5, (I x42)), (6, (I x56))], [.cells [.d (.list (p1.map (el (D.int .i64))))]]⟩ = some (outS (fun (s : Int) => ⟨[(1, (Pt 0)), (5, (I x42)), (6, (I s))], [.cells [.d (.list (p1.map (el (D.int .i64))))]]⟩) (fun (r : Unit ⊕ Unit) => Sum.elim (fun y => (.exit 4, ⟨[(1, (Pt 0)), (5, (I x42))], [.cells [.d (.list (p1.map (el (D.int .i64))))]]⟩)) (fun y => (.ret, ⟨[(2, (I 12))], []⟩)) r) x) := by
 intro x56 x H
 unfold T_ref23_Check_l2 at H
 refine K_in ?_
 refine K_seq ?_
 refine K_seq ?_
 obtain ⟨x57, hx57, H⟩ := bind_some' H
 refine K_r [.l [.list (x57.map (D.int .i64))], .n x57.length] [(0 : Int) ≤ x42 ∧ x42 < (((p1.map (el (D.int .i64)))).length : Int), ((p1.map (el (D.int .i64))).getD x42.toNat (.list [])).cells = [.list (x57.map (D.int .i64))], ((x57.map (D.int .i64))).length = x57.length] (by kernel_rfl) (AC (at_ok hx57 (el (D.int .i64)) (.list [])).1 (AC (at_ok hx57 (el (D.int .i64)) (.list [])).2 (A1 (List.length_map _)))) ?_
 rcases ite_some H with ⟨hx58, H⟩ | ⟨hx58, H⟩
 · refine K_t (by kernel_rfl) (decide_eq_true hx58) ?_
   refine K_g (by kernel_rfl) ?_
   refine K_skip ?_
   refine K_seq ?_
   refine K_block ?_
   refine K_seq ?_
   obtain ⟨x59, hx59, H⟩ := bind_some' H
   obtain ⟨x60, hx60, H⟩ := bind_some' H
   refine K_r [.l [.list (x59.map (D.int .i64))], .l [.int .i64 x60]] [(0 : Int) ≤ x42 ∧ x42 < (((p1.map (el (D.int .i64)))).length : Int), ((p1.map (el (D.int .i64))).getD x42.toNat (.list [])).cells = [.list (x59.map (D.int .i64))], (0 : Int) ≤ x56 ∧ x56 < (((x59.map (D.int .i64))).length : Int), ((x59.map (D.int .i64)).getD x56.toNat (.int .i64 0)).cells = [.int .i64 x60]] (by kernel_rfl) (AC (at_ok hx59 (el (D.int .i64)) (.list [])).1 (AC (at_ok hx59 (el (D.int .i64)) (.list [])).2 (AC (at_ok hx60 (D.int .i64) (.int .i64 0)).1 (A1 (at_ok hx60 (D.int .i64) (.int .i64 0)).2)))) ?_
   refine K_seq ?_
   obtain ⟨x64, hx64, H⟩ := bind_some' H
   refine K_of ⟨[(1, (Pt 0)), (5, (I x42)), (6, (I x56)), (60, (B x64))], [.cells [.d (.list (p1.map (el (D.int .i64))))]]⟩ ?_ ?_
   · clear H; have H := hx64; clear hx64; refine K_in ?_
     rcases ite_some H with ⟨hx62, H⟩ | ⟨hx62, H⟩
     · obtain ⟨x63, hx63, H⟩ := bind_some' H
       refine K_r [.b true, .r (B (decide ((-1000) ≤ x60) && decide (x60 ≤ 1000))) []] [(!decide (x60 = 1073741824)) = true, C_T_ref23_Sample k x60 x63] (by kernel_rfl) (AC hx62 (A1 (T_ref23_Sample_ok k x60 x63 hx63))) ?_
       cases H
       exact K_end (by kernel_rfl)
     · refine K_r [.b false] [(!decide (x60 = 1073741824)) = false] (by kernel_rfl) (A1 (Bool.eq_false_iff.2 hx62)) ?_
       cases H
       exact K_end (by kernel_rfl)
   rcases ite_some H with ⟨hx65, H⟩ | ⟨hx65, H⟩
   · refine K_t (by kernel_rfl) hx65 ?_
     refine K_seq (K_r [] [] (by kernel_rfl) trivial ?_)
     refine K_g (by kernel_rfl) ?_
     cases H
     exact K_ret (by kernel_rfl)
   · refine K_f (by kernel_rfl) (Bool.eq_false_iff.2 hx65) ?_
     refine K_g (by kernel_rfl) ?_
     refine K_skip (K_blk (K_r [] [] (by kernel_rfl) trivial ?_))
     cases H
     exact K_end (by kernel_rfl)
 · refine K_f (by kernel_rfl) (decide_eq_false hx58) ?_
   refine K_g (by kernel_rfl) ?_
   cases H
   exact K_exit0 rfl (by kernel_rfl)
def T_ref23_Check_l3 (k : Nat) (p1 : List (List Int)) (x42 : Int) : Option (Int ⊕ (Unit ⊕ Unit)) :=
 (if x42 < (p1.length : Int) then ((loopT (T_ref23_Check_l2 k p1 x42) k 0).bind fun x66 => (match x66 with | .inl x67 => some (.inl (w64 (x42 + 1))) | .inr x68 => some (.inr (.inr ())))) else some (.inr (.inl ())))
theorem T_ref23_Check_l3_ok (k : Nat) (p1 : List (List Int)) : ∀ (x42 : Int) (x : Int ⊕ (Unit ⊕ Unit)), T_ref23_Check_l3 k p1 x42 = some x → evC X (evF X k) k 0 l_ref23_Check_3 ⟨[(1, (Pt 0)), (5, (I x42))], [.cells [.d (.list (p1.map (el (D.int .i64))))]]⟩ = some (outS (fun (s : Int) => ⟨[(1, (Pt 0)), (5, (I s))], [.cells [.d (.list (p1.map (el (D.int .i64))))]]⟩) (fun (r : Unit ⊕ Unit) => Sum.elim (fun y => (.exit 2, ⟨[], []⟩)) (fun y => (.ret, ⟨[(2, (I 12))], []⟩)) r) x) := by
 intro x42 x H
 unfold T_ref23_Check_l3 at H
 refine K_in ?_
 refine K_seq (K_seq (K_r [.n p1.length] [((p1.map (el (D.int .i64)))).length = p1.length] (by kernel_rfl) (A1 (List.length_map _)) ?_))
 rcases ite_some H with ⟨hx43, H⟩ | ⟨hx43, H⟩
 · refine K_t (by kernel_rfl) (decide_eq_true hx43) ?_
   refine K_g (by kernel_rfl) ?_
   refine K_skip (K_seq (K_block (K_seq (K_r [] [] (by kernel_rfl) trivial ?_))))
   refine K_block (K_conv (σ' := ⟨[(1, (Pt 0)), (5, (I x42)), (6, (I 0))], [.cells [.d (.list (p1.map (el (D.int .i64))))]]⟩) (by kernel_rfl) ?_)
   obtain ⟨x66, hx66, H⟩ := bind_some' H
   cases x66 with
   | inl x67 =>
    dsimp only at H
    refine K_loop ⟨[(1, (Pt 0)), (5, (I x42))], [.cells [.d (.list (p1.map (el (D.int .i64))))]]⟩ (loop_ok (fun (s : Int) => ⟨[(1, (Pt 0)), (5, (I x42)), (6, (I s))], [.cells [.d (.list (p1.map (el (D.int .i64))))]]⟩) (fun (r : Unit ⊕ Unit) => Sum.elim (fun y => (.exit 4, ⟨[(1, (Pt 0)), (5, (I x42))], [.cells [.d (.list (p1.map (el (D.int .i64))))]]⟩)) (fun y => (.ret, ⟨[(2, (I 12))], []⟩)) r) (fun r h => by cases r <;> cases h) (T_ref23_Check_l2_ok k p1 x42) k 0 (.inl x67) hx66) rfl ?_
    refine K_blk (K_r [] [] (by kernel_rfl) trivial ?_)
    cases H
    exact K_end (by kernel_rfl)
   | inr x68 =>
    dsimp only at H
    cases H
    exact K_loopr ⟨[(2, (I 12))], []⟩ (loop_ok (fun (s : Int) => ⟨[(1, (Pt 0)), (5, (I x42)), (6, (I s))], [.cells [.d (.list (p1.map (el (D.int .i64))))]]⟩) (fun (r : Unit ⊕ Unit) => Sum.elim (fun y => (.exit 4, ⟨[(1, (Pt 0)), (5, (I x42))], [.cells [.d (.list (p1.map (el (D.int .i64))))]]⟩)) (fun y => (.ret, ⟨[(2, (I 12))], []⟩)) r) (fun r h => by cases r <;> cases h) (T_ref23_Check_l2_ok k p1 x42) k 0 (.inr x68) hx66) (by kernel_rfl)
 · refine K_f (by kernel_rfl) (decide_eq_false hx43) ?_
   refine K_g (by kernel_rfl) ?_
   cases H
   exact K_exit0 rfl (by kernel_rfl)
def T_ref23_Check (k : Nat) (p1 : List (List Int)) : Option Int := match k with
 | 0 => none
 | k + 1 => (if 16 < (p1.length : Int) then some 20 else ((loopT (T_ref23_Check_l1 k p1) k (0, 0)).bind fun x12 => (match x12 with | .inl x13 => ((loopT (T_ref23_Check_l3 k p1) k 0).bind fun x69 => (match x69 with | .inl x70 => some 0 | .inr x71 => some 12)) | .inr x72 => some 20)))
abbrev C_T_ref23_Check (k : Nat) (p1 : List (List Int)) (r : Int) : Prop := evF X k n_ref23_Check [(.agg [.d (.list (p1.map (el (D.int .i64))))])] [] = some ((I r), [])
theorem T_ref23_Check_ok (k : Nat) (p1 : List (List Int)) (r : Int) : T_ref23_Check k p1 = some r → C_T_ref23_Check k p1 r := by
 intro H
 cases k with
 | zero => simp [T_ref23_Check] at H
 | succ k =>
  simp only [T_ref23_Check] at H
  refine F_in X_ref23_Check rfl ?_
  refine K_seq (K_r [] [] (by kernel_rfl) trivial ?_)
  refine K_seq (K_seq (K_r [.n p1.length] [((p1.map (el (D.int .i64)))).length = p1.length] (by kernel_rfl) (A1 (List.length_map _)) ?_))
  rcases ite_some H with ⟨hx1, H⟩ | ⟨hx1, H⟩
  · refine K_t (by kernel_rfl) (decide_eq_true hx1) ?_
    refine K_seq (K_r [] [] (by kernel_rfl) trivial ?_)
    refine K_g (by kernel_rfl) ?_
    cases H
    refine K_ret ?_
    kernel_rfl
  · refine K_f (by kernel_rfl) (decide_eq_false hx1) ?_
    refine K_g (by kernel_rfl) ?_
    refine K_skip (K_seq (K_r [] [] (by kernel_rfl) trivial ?_))
    refine K_seq (K_seq (K_r [] [] (by kernel_rfl) trivial ?_))
    refine K_block (K_conv (σ' := ⟨[(1, (Pt 0)), (3, (I 0)), (4, (I 0))], [.cells [.d (.list (p1.map (el (D.int .i64))))]]⟩) (by kernel_rfl) ?_)
    obtain ⟨x12, hx12, H⟩ := bind_some' H
    cases x12 with
    | inl x13 =>
     dsimp only at H
     refine K_loop ⟨[(1, (Pt 0))], [.cells [.d (.list (p1.map (el (D.int .i64))))]]⟩ (loop_ok (fun (s : Int × Int) => ⟨[(1, (Pt 0)), (3, (I s.1)), (4, (I s.2))], [.cells [.d (.list (p1.map (el (D.int .i64))))]]⟩) (fun (r : Unit ⊕ Unit) => Sum.elim (fun y => (.exit 0, ⟨[(1, (Pt 0))], [.cells [.d (.list (p1.map (el (D.int .i64))))]]⟩)) (fun y => (.ret, ⟨[(2, (I 20))], []⟩)) r) (fun r h => by cases r <;> cases h) (T_ref23_Check_l1_ok k p1) k (0, 0) (.inl x13) hx12) rfl ?_
     refine K_seq (K_seq (K_r [] [] (by kernel_rfl) trivial ?_))
     refine K_block (K_conv (σ' := ⟨[(1, (Pt 0)), (5, (I 0))], [.cells [.d (.list (p1.map (el (D.int .i64))))]]⟩) (by kernel_rfl) ?_)
     obtain ⟨x69, hx69, H⟩ := bind_some' H
     cases x69 with
     | inl x70 =>
      dsimp only at H
      refine K_loop ⟨[], []⟩ (loop_ok (fun (s : Int) => ⟨[(1, (Pt 0)), (5, (I s))], [.cells [.d (.list (p1.map (el (D.int .i64))))]]⟩) (fun (r : Unit ⊕ Unit) => Sum.elim (fun y => (.exit 2, ⟨[], []⟩)) (fun y => (.ret, ⟨[(2, (I 12))], []⟩)) r) (fun r h => by cases r <;> cases h) (T_ref23_Check_l3_ok k p1) k 0 (.inl x70) hx69) rfl ?_
      refine K_seq (K_r [] [] (by kernel_rfl) trivial ?_)
      refine K_g (by kernel_rfl) ?_
      cases H
      refine K_ret ?_
      kernel_rfl
     | inr x71 =>
      dsimp only at H
      cases H
      refine K_loopr ⟨[(2, (I 12))], []⟩ (loop_ok (fun (s : Int) => ⟨[(1, (Pt 0)), (5, (I s))], [.cells [.d (.list (p1.map (el (D.int .i64))))]]⟩) (fun (r : Unit ⊕ Unit) => Sum.elim (fun y => (.exit 2, ⟨[], []⟩)) (fun y => (.ret, ⟨[(2, (I 12))], []⟩)) r) (fun r h => by cases r <;> cases h) (T_ref23_Check_l3_ok k p1) k 0 (.inr x71) hx69) ?_
      kernel_rfl
    | inr x72 =>
     dsimp only at H
     cases H
     refine K_loopr ⟨[(2, (I 20))], []⟩ (loop_ok (fun (s : Int × Int) => ⟨[(1, (Pt 0)), (3, (I s.1)), (4, (I s.2))], [.cells [.d (.list (p1.map (el (D.int .i64))))]]⟩) (fun (r : Unit ⊕ Unit) => Sum.elim (fun y => (.exit 0, ⟨[(1, (Pt 0))], [.cells [.d (.list (p1.map (el (D.int .i64))))]]⟩)) (fun y => (.ret, ⟨[(2, (I 20))], []⟩)) r) (fun r h => by cases r <;> cases h) (T_ref23_Check_l1_ok k p1) k (0, 0) (.inr x72) hx12) ?_
     kernel_rfl
def T_ref23_whole_l1 (k : Nat) (p1 : List Int) (p2 : Int) (p3 : Int) (x9 : Int) : Option (Int ⊕ (Unit ⊕ Unit)) :=
 (if x9 < p3 then ((at? p1 (w64 (p2 + x9))).bind fun x11 => (if x11 = 1073741824 then some (.inr (.inr ())) else some (.inl (w64 (x9 + 1))))) else some (.inr (.inl ())))
theorem T_ref23_whole_l1_ok (k : Nat) (p1 : List Int) (p2 : Int) (p3 : Int) : ∀ (x9 : Int) (x : Int ⊕ (Unit ⊕ Unit)), T_ref23_whole_l1 k p1 p2 p3 x9 = some x → evC X (evF X k) k 0 l_ref23_whole_1 ⟨[(0, (LI p1)), (1, (I p2)), (2, (I p3)), (7, (I x9))], []⟩ = some (outS (fun (s : Int) => ⟨[(0, (LI p1)), (1, (I p2)), (2, (I p3)), (7, (I s))], []⟩) (fun (r : Unit ⊕ Unit) => Sum.elim (fun y => (.exit 0, ⟨[], []⟩)) (fun y => (.ret, ⟨[(6, (B false))], []⟩)) r) x) := by
 intro x9 x H
 unfold T_ref23_whole_l1 at H
 refine K_in ?_
 refine K_seq (K_seq (K_r [] [] (by kernel_rfl) trivial ?_))
 rcases ite_some H with ⟨hx10, H⟩ | ⟨hx10, H⟩
 · refine K_t (by kernel_rfl) (decide_eq_true hx10) ?_
   refine K_g (by kernel_rfl) ?_
   refine K_skip ?_
   refine K_seq ?_
   refine K_block ?_
   refine K_seq ?_
   obtain ⟨x11, hx11, H⟩ := bind_some' H
   refine K_r [.l [.int .i64 x11]] [(0 : Int) ≤ (w64 (p2 + x9)) ∧ (w64 (p2 + x9)) < (((p1.map (D.int .i64))).length : Int), ((p1.map (D.int .i64)).getD (w64 (p2 + x9)).toNat (.int .i64 0)).cells = [.int .i64 x11]] (by kernel_rfl) (AC (at_ok hx11 (D.int .i64) (.int .i64 0)).1 (A1 (at_ok hx11 (D.int .i64) (.int .i64 0)).2)) ?_
   rcases ite_some H with ⟨hx12, H⟩ | ⟨hx12, H⟩
   · refine K_t (by kernel_rfl) (decide_eq_true hx12) ?_
     refine K_seq (K_r [] [] (by kernel_rfl) trivial ?_)
     refine K_g (by kernel_rfl) ?_
     cases H
     exact K_ret (by kernel_rfl)
   · refine K_f (by kernel_rfl) (decide_eq_false hx12) ?_
     refine K_g (by kernel_rfl) ?_
     refine K_skip (K_blk (K_r [] [] (by kernel_rfl) trivial ?_))
     cases H
     exact K_end (by kernel_rfl)
 · refine K_f (by kernel_rfl) (decide_eq_false hx10) ?_
   refine K_g (by kernel_rfl) ?_
   cases H
   exact K_exit0 rfl (by kernel_rfl)
def T_ref23_whole (k : Nat) (p1 : List Int) (p2 : Int) (p3 : Int) : Option Bool := match k with
 | 0 => none
 | k + 1 => (if (decide (p2 < 0) || decide ((w64 ((p1.length : Int) - p3)) < p2)) = true then some false else ((loopT (T_ref23_whole_l1 k p1 p2 p3) k 0).bind fun x13 => (match x13 with | .inl x14 => some true | .inr x15 => some false)))
abbrev C_T_ref23_whole (k : Nat) (p1 : List Int) (p2 : Int) (p3 : Int) (r : Bool) : Prop := evF X k n_ref23_whole [(LI p1), (I p2), (I p3)] [] = some ((B r), [])
theorem T_ref23_whole_ok (k : Nat) (p1 : List Int) (p2 : Int) (p3 : Int) (r : Bool) : T_ref23_whole k p1 p2 p3 = some r → C_T_ref23_whole k p1 p2 p3 r := by
 intro H
 cases k with
 | zero => simp [T_ref23_whole] at H
 | succ k =>
  simp only [T_ref23_whole] at H
  refine F_in X_ref23_whole rfl ?_
  refine K_seq (K_r [] [] (by kernel_rfl) trivial ?_)
  refine K_seq (K_seq (K_r [.m, .n p1.length] [decide (p2 < 0) = false → AllT [((p1.map (D.int .i64))).length = p1.length], ([] : Heap) = []] (by kernel_rfl) (AC (fun _ => (A1 (List.length_map _))) (A1 rfl)) ?_))
  rcases ite_some H with ⟨hx1, H⟩ | ⟨hx1, H⟩
  · refine K_t (by kernel_rfl) hx1 ?_
    refine K_seq (K_r [] [] (by kernel_rfl) trivial ?_)
    refine K_g (by kernel_rfl) ?_
    cases H
    refine K_ret ?_
    kernel_rfl
  · refine K_f (by kernel_rfl) (Bool.eq_false_iff.2 hx1) ?_
    refine K_g (by kernel_rfl) ?_
    refine K_skip (K_seq (K_seq (K_r [] [] (by kernel_rfl) trivial ?_)))
    refine K_block (K_conv (σ' := ⟨[(0, (LI p1)), (1, (I p2)), (2, (I p3)), (7, (I 0))], []⟩) (by kernel_rfl) ?_)
    obtain ⟨x13, hx13, H⟩ := bind_some' H
    cases x13 with
    | inl x14 =>
     dsimp only at H
     refine K_loop ⟨[], []⟩ (loop_ok (fun (s : Int) => ⟨[(0, (LI p1)), (1, (I p2)), (2, (I p3)), (7, (I s))], []⟩) (fun (r : Unit ⊕ Unit) => Sum.elim (fun y => (.exit 0, ⟨[], []⟩)) (fun y => (.ret, ⟨[(6, (B false))], []⟩)) r) (fun r h => by cases r <;> cases h) (T_ref23_whole_l1_ok k p1 p2 p3) k 0 (.inl x14) hx13) rfl ?_
     refine K_seq (K_r [] [] (by kernel_rfl) trivial ?_)
     refine K_g (by kernel_rfl) ?_
     cases H
     refine K_ret ?_
     kernel_rfl
    | inr x15 =>
     dsimp only at H
     cases H
     refine K_loopr ⟨[(6, (B false))], []⟩ (loop_ok (fun (s : Int) => ⟨[(0, (LI p1)), (1, (I p2)), (2, (I p3)), (7, (I s))], []⟩) (fun (r : Unit ⊕ Unit) => Sum.elim (fun y => (.exit 0, ⟨[], []⟩)) (fun y => (.ret, ⟨[(6, (B false))], []⟩)) r) (fun r h => by cases r <;> cases h) (T_ref23_whole_l1_ok k p1 p2 p3) k 0 (.inr x15) hx13) ?_
     kernel_rfl
def T_ref23_Places_l1 (k : Nat) (p1 : List (List Int)) (p2 : Int) (x36 : Int) (x47 : Nat × Int × (List (Int × Int))) : Option ((Nat × Int × (List (Int × Int))) ⊕ ((Nat × (List (Int × Int))))) :=
 ((at? p1 x36).bind fun x48 => (if x47.2.1 < (x48.length : Int) then ((at? p1 x36).bind fun x50 => (T_ref23_whole k x50 x47.2.1 p2).bind fun x51 => ((if x51 = true then (if x47.1 + 1 ≤ LIM then some ((x47.1 + 1), ((x47.2.2.drop 0).take x47.1 ++ ([(x36, x47.2.1)] : List (Int × Int)))) else none) else some (x47.1, x47.2.2))).bind fun x54 => some (.inl (x54.1, (w64 (x47.2.1 + 1)), x54.2))) else some (.inr (x47.1, x47.2.2))))
theorem T_ref23_Places_l1_ok (k : Nat) (p1 : List (List Int)) (p2 : Int) (x36 : Int) : ∀ (x47 : Nat × Int × (List (Int × Int))) (x : (Nat × Int × (List (Int × Int))) ⊕ ((Nat × (List (Int × Int))))), T_ref23_Places_l1 k p1 p2 x36 x47 = some x → evC X (evF X k) k 0 l_ref23_Places_1 ⟨[(1, (I p2)), (2, (Pt 0)), (7, (.one (.own 1 0 x47.1))), (8, (I x36)), (9, (I x47.2.1))], [.cells [.d (.list (p1.map (el (D.int .i64))))], .vals (.agg [(.int .i64 0), (.int .i64 0)]) (x47.2.2.map e_st0)]⟩ = some (outS (fun (s : Nat × Int × (List (Int × Int))) => ⟨[(1, (I p2)), (2, (Pt 0)), (7, (.one (.own 1 0 s.1))), (8, (I x36)), (9, (I s.2.1))], [.cells [.d (.list (p1.map (el (D.int .i64))))], .vals (.agg [(.int .i64 0), (.int .i64 0)]) (s.2.2.map e_st0)]⟩) (fun (r : (Nat × (List (Int × Int)))) => (.exit 2, ⟨[(1, (I p2)), (2, (Pt 0)), (7, (.one (.own 1 0 r.1))), (8, (I x36))], [.cells [.d (.list (p1.map (el (D.int .i64))))], .vals (.agg [(.int .i64 0), (.int .i64 0)]) (r.2.map e_st0)]⟩)) x) := by
 intro x47 x H
 unfold T_ref23_Places_l1 at H
 refine K_in ?_
 refine K_seq ?_
 refine K_seq ?_
 obtain ⟨x48, hx48, H⟩ := bind_some' H
 refine K_r [.l [.list (x48.map (D.int .i64))], .n x48.length] [(0 : Int) ≤ x36 ∧ x36 < (((p1.map (el (D.int .i64)))).length : Int), ((p1.map (el (D.int .i64))).getD x36.toNat (.list [])).cells = [.list (x48.map (D.int .i64))], ((x48.map (D.int .i64))).length = x48.length] (by kernel_rfl) (AC (at_ok hx48 (el (D.int .i64)) (.list [])).1 (AC (at_ok hx48 (el (D.int .i64)) (.list [])).2 (A1 (List.length_map _)))) ?_
 rcases ite_some H with ⟨hx49, H⟩ | ⟨hx49, H⟩
 · refine K_t (by kernel_rfl) (decide_eq_true hx49) ?_
   refine K_g (by kernel_rfl) ?_
   refine K_skip ?_
   refine K_seq ?_
   refine K_block ?_
   refine K_seq ?_
   obtain ⟨x50, hx50, H⟩ := bind_some' H
   obtain ⟨x51, hx51, H⟩ := bind_some' H
   refine K_r [.l [.list (x50.map (D.int .i64))], .r (B x51) []] [(0 : Int) ≤ x36 ∧ x36 < (((p1.map (el (D.int .i64)))).length : Int), ((p1.map (el (D.int .i64))).getD x36.toNat (.list [])).cells = [.list (x50.map (D.int .i64))], C_T_ref23_whole k x50 x47.2.1 p2 x51] (by kernel_rfl) (AC (at_ok hx50 (el (D.int .i64)) (.list [])).1 (AC (at_ok hx50 (el (D.int .i64)) (.list [])).2 (A1 (T_ref23_whole_ok k x50 x47.2.1 p2 x51 hx51)))) ?_
   obtain ⟨x54, hx54, H⟩ := bind_some' H
   refine K_of ⟨[(1, (I p2)), (2, (Pt 0)), (7, (.one (.own 1 0 x54.1))), (8, (I x36)), (9, (I x47.2.1))], [.cells [.d (.list (p1.map (el (D.int .i64))))], .vals (.agg [(.int .i64 0), (.int .i64 0)]) (x54.2.map e_st0)]⟩ ?_ ?_
   · clear H; have H := hx54; clear hx54; refine K_in ?_
     rcases ite_some H with ⟨hx52, H⟩ | ⟨hx52, H⟩
     · refine K_t (by kernel_rfl) hx52 ?_
       obtain ⟨hx53, H⟩ := guard_some H
       refine K_r [.n 1, .l (((x47.2.2.drop 0).take x47.1 ++ ([(x36, x47.2.1)] : List (Int × Int))).map e_st0)] [(List.all (([(x36, x47.2.1)] : List (Int × Int)).map e_st0) fun d => d.cells.length == (D.cells (.agg [(.int .i64 0), (.int .i64 0)])).length) = true, x47.1 + 1 ≤ LIM, (([(x36, x47.2.1)] : List (Int × Int)).map e_st0).length = 1, ((x47.2.2.map e_st0).drop 0).take x47.1 ++ (([(x36, x47.2.1)] : List (Int × Int)).map e_st0) = ((x47.2.2.drop 0).take x47.1 ++ ([(x36, x47.2.1)] : List (Int × Int))).map e_st0] (by kernel_rfl) (AC (all_ok e_st0 2 ([(x36, x47.2.1)] : List (Int × Int)) (fun _ => rfl)) (AC hx53 (AC (by simp) (A1 (ap_map e_st0 x47.2.2 ([(x36, x47.2.1)] : List (Int × Int)) 0 x47.1))))) ?_
       cases H
       exact K_end (by kernel_rfl)
     · refine K_f (by kernel_rfl) (Bool.eq_false_iff.2 hx52) ?_
       refine K_g (by kernel_rfl) ?_
       refine K_skip ?_
       cases H
       exact K_end (by kernel_rfl)
   refine K_blk (K_r [] [] (by kernel_rfl) trivial ?_)
   cases H
   exact K_end (by kernel_rfl)
 · refine K_f (by kernel_rfl) (decide_eq_false hx49) ?_
   refine K_g (by kernel_rfl) ?_
   cases H
   exact K_exit0 rfl (by kernel_rfl)
def T_ref23_Places_l2 (k : Nat) (p1 : List (List Int)) (p2 : Int) (x32 : Nat × Int × (List (Int × Int))) : Option ((Nat × Int × (List (Int × Int))) ⊕ ((Nat × (List (Int × Int))))) :=
 (if x32.2.1 < (p1.length : Int) then ((loopT (T_ref23_Places_l1 k p1 p2 x32.2.1) k (x32.1, 0, x32.2.2)).bind fun x55 => some (.inl (x55.1, (w64 (x32.2.1 + 1)), x55.2))) else some (.inr (x32.1, x32.2.2)))
theorem T_ref23_Places_l2_ok (k : Nat) (p1 : List (List Int)) (p2 : Int) : ∀ (x32 : Nat × Int × (List (Int × Int))) (x : (Nat × Int × (List (Int × Int))) ⊕ ((Nat × (List (Int × Int))))), T_ref23_Places_l2 k p1 p2 x32 = some x → evC X (evF X k) k 0 l_ref23_Places_2 ⟨[(1, (I p2)), (2, (Pt 0)), (7, (.one (.own 1 0 x32.1))), (8, (I x32.2.1))], [.cells [.d (.list (p1.map (el (D.int .i64))))], .vals (.agg [(.int .i64 0), (.int .i64 0)]) (x32.2.2.map e_st0)]⟩ = some (outS (fun (s : Nat × Int × (List (Int × Int))) => ⟨[(1, (I p2)), (2, (Pt 0)), (7, (.one (.own 1 0 s.1))), (8, (I s.2.1))], [.cells [.d (.list (p1.map (el (D.int .i64))))], .vals (.agg [(.int .i64 0), (.int .i64 0)]) (s.2.2.map e_st0)]⟩) (fun (r : (Nat × (List (Int × Int)))) => (.exit 0, ⟨[(7, (.one (.own 0 0 r.1)))], [.vals (.agg [(.int .i64 0), (.int .i64 0)]) (r.2.map e_st0)]⟩)) x) := by
 intro x32 x H
 unfold T_ref23_Places_l2 at H
 refine K_in ?_
 refine K_seq (K_seq (K_r [.n p1.length] [((p1.map (el (D.int .i64)))).length = p1.length] (by kernel_rfl) (A1 (List.length_map _)) ?_))
 rcases ite_some H with ⟨hx33, H⟩ | ⟨hx33, H⟩
 · refine K_t (by kernel_rfl) (decide_eq_true hx33) ?_
   refine K_g (by kernel_rfl) ?_
   refine K_skip (K_seq (K_block (K_seq (K_r [] [] (by kernel_rfl) trivial ?_))))
   refine K_block (K_conv (σ' := ⟨[(1, (I p2)), (2, (Pt 0)), (7, (.one (.own 1 0 x32.1))), (8, (I x32.2.1)), (9, (I 0))], [.cells [.d (.list (p1.map (el (D.int .i64))))], .vals (.agg [(.int .i64 0), (.int .i64 0)]) (x32.2.2.map e_st0)]⟩) (by kernel_rfl) ?_)
   obtain ⟨x55, hx55, H⟩ := bind_some' H
   refine K_loop ⟨[(1, (I p2)), (2, (Pt 0)), (7, (.one (.own 1 0 x55.1))), (8, (I x32.2.1))], [.cells [.d (.list (p1.map (el (D.int .i64))))], .vals (.agg [(.int .i64 0), (.int .i64 0)]) (x55.2.map e_st0)]⟩ (loop_ok (fun (s : Nat × Int × (List (Int × Int))) => ⟨[(1, (I p2)), (2, (Pt 0)), (7, (.one (.own 1 0 s.1))), (8, (I x32.2.1)), (9, (I s.2.1))], [.cells [.d (.list (p1.map (el (D.int .i64))))], .vals (.agg [(.int .i64 0), (.int .i64 0)]) (s.2.2.map e_st0)]⟩) (fun (r : (Nat × (List (Int × Int)))) => (.exit 2, ⟨[(1, (I p2)), (2, (Pt 0)), (7, (.one (.own 1 0 r.1))), (8, (I x32.2.1))], [.cells [.d (.list (p1.map (el (D.int .i64))))], .vals (.agg [(.int .i64 0), (.int .i64 0)]) (r.2.map e_st0)]⟩)) (fun r h => by cases h) (T_ref23_Places_l1_ok k p1 p2 x32.2.1) k (x32.1, 0, x32.2.2) x55 hx55) rfl ?_
   refine K_blk (K_r [] [] (by kernel_rfl) trivial ?_)
   cases H
   exact K_end (by kernel_rfl)
 · refine K_f (by kernel_rfl) (decide_eq_false hx33) ?_
   refine K_g (by kernel_rfl) ?_
   cases H
   exact K_exit0 rfl (by kernel_rfl)
def T_ref23_Places (k : Nat) (p1 : List (List Int)) (p2 : Int) : Option ((List (Int × Int)) × Int) := match k with
 | 0 => none
 | k + 1 => ((T_ref23_Check k p1).bind fun x1 => (if (!decide (x1 = 0)) = true then some ([], x1) else (if (decide (p2 < 2) || decide (32 < p2)) = true then some ([], 8) else ((loopT (T_ref23_Places_l2 k p1 p2) k (0, 0, [])).bind fun x56 => some (((x56.2.drop 0).take x56.1), 0)))))
abbrev C_T_ref23_Places (k : Nat) (p1 : List (List Int)) (p2 : Int) (r : (List (Int × Int)) × Int) : Prop := evF X k n_ref23_Places [(.agg [.d (.list (p1.map (el (D.int .i64))))]), (I p2)] [] = some ((.tup [(false, [.d (.list (r.1.map e_st0))]), (false, [cI r.2])]), [])
theorem T_ref23_Places_ok (k : Nat) (p1 : List (List Int)) (p2 : Int) (r : (List (Int × Int)) × Int) : T_ref23_Places k p1 p2 = some r → C_T_ref23_Places k p1 p2 r := by
 intro H
 cases k with
 | zero => simp [T_ref23_Places] at H
 | succ k =>
  simp only [T_ref23_Places] at H
  refine F_in X_ref23_Places rfl ?_
  refine K_seq (K_r [] [] (by kernel_rfl) trivial ?_)
  refine K_seq ?_
  refine K_seq ?_
  obtain ⟨x1, hx1, H⟩ := bind_some' H
  refine K_r [.r (I x1) []] [C_T_ref23_Check k p1 x1] (by kernel_rfl) (A1 (T_ref23_Check_ok k p1 x1 hx1)) ?_
  refine K_seq (K_r [] [] (by kernel_rfl) trivial ?_)
  rcases ite_some H with ⟨hx2, H⟩ | ⟨hx2, H⟩
  · refine K_t (by kernel_rfl) hx2 ?_
    refine K_seq (K_r [] [] (by kernel_rfl) trivial ?_)
    refine K_g (by kernel_rfl) ?_
    cases H
    refine K_ret ?_
    kernel_rfl
  · refine K_f (by kernel_rfl) (Bool.eq_false_iff.2 hx2) ?_
    refine K_g (by kernel_rfl) ?_
    refine K_skip (K_seq (K_seq (K_r [.m] ((fun (z1 : Heap) => [z1 = z1]) [.cells [.d (.list (p1.map (el (D.int .i64))))]]) (by kernel_rfl) (A1 rfl) ?_)))
    rcases ite_some H with ⟨hx3, H⟩ | ⟨hx3, H⟩
    · refine K_t (by kernel_rfl) hx3 ?_
      refine K_seq (K_r [] [] (by kernel_rfl) trivial ?_)
      refine K_g (by kernel_rfl) ?_
      cases H
      refine K_ret ?_
      kernel_rfl
    · refine K_f (by kernel_rfl) (Bool.eq_false_iff.2 hx3) ?_
      refine K_g (by kernel_rfl) ?_
      refine K_skip (K_seq (K_r [] [] (by kernel_rfl) trivial ?_))
      refine K_seq (K_seq (K_r [] [] (by kernel_rfl) trivial ?_))
      refine K_block (K_g (by kernel_rfl) ?_)
      refine K_conv (σ' := ⟨[(1, (I p2)), (2, (Pt 0)), (7, (.one (.own 1 0 0))), (8, (I 0))], [.cells [.d (.list (p1.map (el (D.int .i64))))], .vals (.agg [(.int .i64 0), (.int .i64 0)]) ([].map e_st0)]⟩) (by kernel_rfl) ?_
      obtain ⟨x56, hx56, H⟩ := bind_some' H
      refine K_loop ⟨[(7, (.one (.own 0 0 x56.1)))], [.vals (.agg [(.int .i64 0), (.int .i64 0)]) (x56.2.map e_st0)]⟩ (loop_ok (fun (s : Nat × Int × (List (Int × Int))) => ⟨[(1, (I p2)), (2, (Pt 0)), (7, (.one (.own 1 0 s.1))), (8, (I s.2.1))], [.cells [.d (.list (p1.map (el (D.int .i64))))], .vals (.agg [(.int .i64 0), (.int .i64 0)]) (s.2.2.map e_st0)]⟩) (fun (r : (Nat × (List (Int × Int)))) => (.exit 0, ⟨[(7, (.one (.own 0 0 r.1)))], [.vals (.agg [(.int .i64 0), (.int .i64 0)]) (r.2.map e_st0)]⟩)) (fun r h => by cases h) (T_ref23_Places_l2_ok k p1 p2) k (0, 0, []) x56 hx56) rfl ?_
      refine K_seq (K_r [] [] (by kernel_rfl) trivial ?_)
      refine K_g (by kernel_rfl) ?_
      cases H
      refine K_ret ?_
      exact Eq.trans (b := some ((.tup [(false, [.d (.list (((x56.2.map e_st0).drop 0).take x56.1))]), (false, [cI 0])]), [])) (by kernel_rfl) (by simp only [dt_map, rl_map, LI, VI])
def T_ref23_Window (k : Nat) (p1 : List (List Int)) (p2 : Int) (p3 : Int) (p4 : Int) : Option (Nat × Int × (List Int)) := match k with
 | 0 => none
 | k + 1 => ((T_ref23_Check k p1).bind fun x1 => (if (!decide (x1 = 0)) = true then some (0, x1, []) else (if (decide (p4 < 2) || decide (32 < p4)) = true then some (0, 8, []) else (((if ((decide (p2 < 0) || decide ((p1.length : Int) ≤ p2)) || decide (p3 < 0)) = true then some true else ((at? p1 p2).bind fun x6 => some (decide ((w64 ((x6.length : Int) - p4)) < p3))))).bind fun x7 => (if x7 = true then some (0, 21, []) else ((at? p1 p2).bind fun x9 => (T_ref23_whole k x9 p3 p4).bind fun x10 => (if (!x10) = true then some (0, 13, []) else (at? p1 p2).bind fun x12 => (if (0 : Int) ≤ p3 ∧ p3 ≤ (w64 (p3 + p4)) ∧ (w64 (p3 + p4)) ≤ (x12.length : Int) ∧ (x12.length : Int) ≤ (x12.length : Int) then (if 0 + ((x12.drop p3.toNat).take ((w64 (p3 + p4)).toNat - p3.toNat)).length ≤ LIM then some ((0 + ((x12.drop p3.toNat).take ((w64 (p3 + p4)).toNat - p3.toNat)).length), 0, ((([] : List Int).drop 0).take 0 ++ ((x12.drop p3.toNat).take ((w64 (p3 + p4)).toNat - p3.toNat)))) else none) else none))))))))
abbrev C_T_ref23_Window (k : Nat) (p1 : List (List Int)) (p2 : Int) (p3 : Int) (p4 : Int) (r : Nat × Int × (List Int)) : Prop := evF X k n_ref23_Window [(.agg [.d (.list (p1.map (el (D.int .i64))))]), (.agg [cI p2, cI p3]), (I p4)] [] = some ((.tup [(false, [.own 0 0 r.1]), (false, [cI r.2.1])]), [VI r.2.2])
theorem T_ref23_Window_ok (k : Nat) (p1 : List (List Int)) (p2 : Int) (p3 : Int) (p4 : Int) (r : Nat × Int × (List Int)) : T_ref23_Window k p1 p2 p3 p4 = some r → C_T_ref23_Window k p1 p2 p3 p4 r := by
 intro H
 cases k with
 | zero => simp [T_ref23_Window] at H
 | succ k =>
  simp only [T_ref23_Window] at H
  refine F_in X_ref23_Window rfl ?_
  refine K_seq (K_r [] [] (by kernel_rfl) trivial ?_)
  refine K_seq ?_
  refine K_seq ?_
  obtain ⟨x1, hx1, H⟩ := bind_some' H
  refine K_r [.r (I x1) []] [C_T_ref23_Check k p1 x1] (by kernel_rfl) (A1 (T_ref23_Check_ok k p1 x1 hx1)) ?_
  refine K_seq (K_r [] [] (by kernel_rfl) trivial ?_)
  rcases ite_some H with ⟨hx2, H⟩ | ⟨hx2, H⟩
  · refine K_t (by kernel_rfl) hx2 ?_
    refine K_seq (K_r [] [] (by kernel_rfl) trivial ?_)
    refine K_g (by kernel_rfl) ?_
    cases H
    refine K_ret ?_
    kernel_rfl
  · refine K_f (by kernel_rfl) (Bool.eq_false_iff.2 hx2) ?_
    refine K_g (by kernel_rfl) ?_
    refine K_skip (K_seq (K_seq (K_r [.m] ((fun (z1 : Heap) => [z1 = z1]) [.cells [.d (.list (p1.map (el (D.int .i64))))], .cells [cI p2, cI p3]]) (by kernel_rfl) (A1 rfl) ?_)))
    rcases ite_some H with ⟨hx3, H⟩ | ⟨hx3, H⟩
    · refine K_t (by kernel_rfl) hx3 ?_
      refine K_seq (K_r [] [] (by kernel_rfl) trivial ?_)
      refine K_g (by kernel_rfl) ?_
      cases H
      refine K_ret ?_
      kernel_rfl
    · refine K_f (by kernel_rfl) (Bool.eq_false_iff.2 hx3) ?_
      refine K_g (by kernel_rfl) ?_
      refine K_skip ?_
      refine K_seq ?_
      refine K_seq ?_
      obtain ⟨x7, hx7, H⟩ := bind_some' H
      refine K_of ⟨[(2, (I p4)), (3, (Pt 0)), (4, (Pt 1)), (49, (B x7))], [.cells [.d (.list (p1.map (el (D.int .i64))))], .cells [cI p2, cI p3]]⟩ ?_ ?_
      · clear H; have H := hx7; clear hx7; refine K_in ?_
        rcases ite_some H with ⟨hx5, H⟩ | ⟨hx5, H⟩
        · refine K_r [.m, .n p1.length, .m, .b true] ((fun (z1 : Heap) => [decide (p2 < 0) = false → AllT [((p1.map (el (D.int .i64)))).length = p1.length], z1 = z1, z1 = z1, ((decide (p2 < 0) || decide ((p1.length : Int) ≤ p2)) || decide (p3 < 0)) = true]) [.cells [.d (.list (p1.map (el (D.int .i64))))], .cells [cI p2, cI p3]]) (by kernel_rfl) (AC (fun _ => (A1 (List.length_map _))) (AC rfl (AC rfl (A1 hx5)))) ?_
          cases H
          exact K_end (by kernel_rfl)
        · obtain ⟨x6, hx6, H⟩ := bind_some' H
          refine K_r [.m, .n p1.length, .m, .b false, .l [.list (x6.map (D.int .i64))], .n x6.length] ((fun (z1 : Heap) => [decide (p2 < 0) = false → AllT [((p1.map (el (D.int .i64)))).length = p1.length], z1 = z1, z1 = z1, ((decide (p2 < 0) || decide ((p1.length : Int) ≤ p2)) || decide (p3 < 0)) = false, (0 : Int) ≤ p2 ∧ p2 < (((p1.map (el (D.int .i64)))).length : Int), ((p1.map (el (D.int .i64))).getD p2.toNat (.list [])).cells = [.list (x6.map (D.int .i64))], ((x6.map (D.int .i64))).length = x6.length]) [.cells [.d (.list (p1.map (el (D.int .i64))))], .cells [cI p2, cI p3]]) (by kernel_rfl) (AC (fun _ => (A1 (List.length_map _))) (AC rfl (AC rfl (AC (Bool.eq_false_iff.2 hx5) (AC (at_ok hx6 (el (D.int .i64)) (.list [])).1 (AC (at_ok hx6 (el (D.int .i64)) (.list [])).2 (A1 (List.length_map _)))))))) ?_
          cases H
          exact K_end (by kernel_rfl)
      rcases ite_some H with ⟨hx8, H⟩ | ⟨hx8, H⟩
      · refine K_t (by kernel_rfl) hx8 ?_
        refine K_seq (K_r [] [] (by kernel_rfl) trivial ?_)
        refine K_g (by kernel_rfl) ?_
        cases H
        refine K_ret ?_
        kernel_rfl
      · refine K_f (by kernel_rfl) (Bool.eq_false_iff.2 hx8) ?_
        refine K_g (by kernel_rfl) ?_
        refine K_skip ?_
        refine K_seq ?_
        refine K_seq ?_
        obtain ⟨x9, hx9, H⟩ := bind_some' H
        obtain ⟨x10, hx10, H⟩ := bind_some' H
        refine K_r [.l [.list (x9.map (D.int .i64))], .r (B x10) []] [(0 : Int) ≤ p2 ∧ p2 < (((p1.map (el (D.int .i64)))).length : Int), ((p1.map (el (D.int .i64))).getD p2.toNat (.list [])).cells = [.list (x9.map (D.int .i64))], C_T_ref23_whole k x9 p3 p4 x10] (by kernel_rfl) (AC (at_ok hx9 (el (D.int .i64)) (.list [])).1 (AC (at_ok hx9 (el (D.int .i64)) (.list [])).2 (A1 (T_ref23_whole_ok k x9 p3 p4 x10 hx10)))) ?_
        rcases ite_some H with ⟨hx11, H⟩ | ⟨hx11, H⟩
        · refine K_t (by kernel_rfl) hx11 ?_
          refine K_seq (K_r [] [] (by kernel_rfl) trivial ?_)
          refine K_g (by kernel_rfl) ?_
          cases H
          refine K_ret ?_
          kernel_rfl
        · refine K_f (by kernel_rfl) (Bool.eq_false_iff.2 hx11) ?_
          refine K_g (by kernel_rfl) ?_
          refine K_skip ?_
          refine K_seq ?_
          obtain ⟨x12, hx12, H⟩ := bind_some' H
          obtain ⟨hx13, H⟩ := guard_some H
          obtain ⟨hx14, H⟩ := guard_some H
          refine K_rI [.l [.list (x12.map (D.int .i64))], .l (((x12.drop p3.toNat).take ((w64 (p3 + p4)).toNat - p3.toNat)).map (D.int .i64)), .n (((x12.drop p3.toNat).take ((w64 (p3 + p4)).toNat - p3.toNat)).length), .l (((([] : List Int).drop 0).take 0 ++ ((x12.drop p3.toNat).take ((w64 (p3 + p4)).toNat - p3.toNat))).map (D.int .i64))] [0, 1, 2, 3, 1, 2, 3, 0, 1, 2, 3, 0, 1, 2, 3, 0, 1, 2, 3, 0, 1, 2, 3, 0, 1, 2, 3, 1, 2, 3, 0, 1, 2, 3, 0, 1, 2, 3, 0, 1, 2, 3, 0, 1, 2, 3, 0, 1, 2, 3, 0, 1, 2, 3, 0, 1, 2, 3, 0, 1, 2, 3, 0, 1, 2, 3, 0, 1, 2, 3, 0, 1, 2, 3, 0, 1, 2, 3, 0, 1, 2, 3, 0, 1, 2, 3, 0, 1, 2, 3, 0, 1, 2, 3, 0, 1, 2, 3, 1, 2, 3, 0, 1, 2, 3, 0, 1, 2, 3, 0, 1, 2, 3, 0, 1, 2, 3, 0, 1, 2, 3, 1, 2, 3, 1, 2, 3, 1, 2, 3, 1, 2, 3, 1, 2, 3, 0, 1, 2, 3, 0, 1, 2, 3, 0, 1, 2, 3, 1, 2, 3, 0, 1, 2, 3, 0, 1, 2, 3, 0, 1, 2, 3, 0, 1, 2, 3, 0, 1, 2, 3, 1, 2, 3, 0, 1, 2, 3, 0, 1, 2, 3, 0, 1, 2, 3, 1, 2, 3, 0, 1, 2, 3, 0, 1, 2, 3, 0, 1, 2, 3, 0, 1, 2, 3, 0, 1, 2, 3, 1, 2, 3, 1, 2, 3, 1, 2, 3, 1, 2, 3, 1, 2, 3, 0, 1, 2, 3, 0, 1, 2, 3, 0, 1, 2, 3, 1, 2, 3, 0, 1, 2, 3, 0, 1, 2, 3, 0, 1, 2, 3, 0, 1, 2, 3, 0, 1, 2, 3, 1, 2, 3, 0, 1, 2, 3, 0, 1, 2, 3, 0, 1, 2, 3, 0, 1, 2, 3, 0, 1, 2, 3, 0, 1, 2, 3, 0, 1, 2, 3, 0, 1, 2, 3, 0, 1, 2, 3, 0, 1, 2, 3, 0, 1, 2, 3, 1, 2, 3, 0, 1, 2, 3, 0, 1, 2, 3, 0, 1, 2, 3, 0, 1, 2, 3, 0, 1, 2, 3, 1, 2, 3, 0, 1, 2, 3, 0, 1, 2, 3, 0, 1, 2, 3, 0, 1, 2, 3, 0, 1, 2, 3, 0, 1, 2, 3, 0, 1, 2, 3, 0, 1, 2, 3, 0, 1, 2, 3, 0, 1, 2, 3, 0, 1, 2, 3, 0, 1, 2, 3, 0, 1, 2, 3, 0, 1, 2, 3, 0, 1, 2, 3, 0, 1, 2, 3, 0, 1, 2, 3, 1, 2, 3, 0, 1, 2, 3, 0, 1, 2, 3, 0, 1, 2, 3, 0, 1, 2, 3, 0, 1, 2, 3, 1, 2, 3, 0, 1, 2, 3, 0, 1, 2, 3, 0, 1, 2, 3, 0, 1, 2, 3, 0, 1, 2, 3, 0, 1, 2, 3, 0, 1, 2, 3, 0, 1, 2, 3] ((fun (z1 : St) => [(0 : Int) ≤ p2 ∧ p2 < (((p1.map (el (D.int .i64)))).length : Int), ((p1.map (el (D.int .i64))).getD p2.toNat (.list [])).cells = [.list (x12.map (D.int .i64))], ((x12.map (D.int .i64)).all fun d => d.cells.length == 1) = true, (0 : Int) ≤ p3 ∧ p3 ≤ (w64 (p3 + p4)) ∧ (w64 (p3 + p4)) ≤ (((x12.map (D.int .i64))).length : Int) ∧ (((x12.map (D.int .i64))).length : Int) ≤ (((x12.map (D.int .i64))).length : Int), ((x12.map (D.int .i64)).drop (p3 : Int).toNat).take (((w64 (p3 + p4)) : Int).toNat - (p3 : Int).toNat) = ((x12.drop p3.toNat).take ((w64 (p3 + p4)).toNat - p3.toNat)).map (D.int .i64), (List.all (((x12.drop p3.toNat).take ((w64 (p3 + p4)).toNat - p3.toNat)).map (D.int .i64)) fun d => d.cells.length == (D.cells (.int .i64 0)).length) = true, 0 + ((x12.drop p3.toNat).take ((w64 (p3 + p4)).toNat - p3.toNat)).length ≤ LIM, (((x12.drop p3.toNat).take ((w64 (p3 + p4)).toNat - p3.toNat)).map (D.int .i64)).length = ((x12.drop p3.toNat).take ((w64 (p3 + p4)).toNat - p3.toNat)).length, ((([] : List Int).map (D.int .i64)).drop 0).take 0 ++ (((x12.drop p3.toNat).take ((w64 (p3 + p4)).toNat - p3.toNat)).map (D.int .i64)) = ((([] : List Int).drop 0).take 0 ++ ((x12.drop p3.toNat).take ((w64 (p3 + p4)).toNat - p3.toNat))).map (D.int .i64), z1 = z1]) (⟨[(6, (.one (.own 0 0 (0 + ((x12.drop p3.toNat).take ((w64 (p3 + p4)).toNat - p3.toNat)).length)))), (7, (I 0))], [VI ((([] : List Int).drop 0).take 0 ++ ((x12.drop p3.toNat).take ((w64 (p3 + p4)).toNat - p3.toNat)))]⟩)) [0, 1, 2, 3, 4, 5, 6, 7, 8, 2, 3, 4, 5, 6, 7, 8, 9, 0, 1, 2, 3, 4, 5, 6, 7, 8, 0, 1, 2, 3, 4, 5, 6, 7, 8, 9, 9, 0, 1, 2, 3, 4, 5, 6, 7, 8, 0, 1, 2, 3, 4, 5, 6, 7, 8, 9, 9, 0, 1, 2, 3, 4, 5, 6, 7, 8, 2, 3, 4, 5, 6, 7, 8, 9, 0, 1, 2, 3, 4, 5, 6, 7, 8, 0, 1, 2, 3, 4, 5, 6, 7, 8, 9, 9, 0, 1, 2, 3, 4, 5, 6, 7, 8, 0, 1, 2, 3, 4, 5, 6, 7, 8, 9, 9, 9, 0, 1, 2, 3, 4, 5, 6, 7, 8, 0, 1, 2, 3, 4, 5, 6, 7, 8, 9, 0, 1, 2, 3, 4, 5, 6, 7, 8, 0, 1, 2, 3, 4, 5, 6, 7, 8, 9, 9, 0, 1, 2, 3, 4, 5, 6, 7, 8, 0, 1, 2, 3, 4, 5, 6, 7, 8, 9, 9, 9, 0, 1, 2, 3, 4, 5, 6, 7, 8, 0, 1, 2, 3, 4, 5, 6, 7, 8, 9, 0, 1, 2, 3, 4, 5, 6, 7, 8, 0, 1, 2, 3, 4, 5, 6, 7, 8, 9, 9, 0, 1, 2, 3, 4, 5, 6, 7, 8, 0, 1, 2, 3, 4, 5, 6, 7, 8, 9, 9, 9, 0, 1, 2, 3, 4, 5, 6, 7, 8, 2, 3, 4, 5, 6, 7, 8, 9, 0, 1, 2, 3, 4, 5, 6, 7, 8, 0, 1, 2, 3, 4, 5, 6, 7, 8, 9, 9, 0, 1, 2, 3, 4, 5, 6, 7, 8, 0, 1, 2, 3, 4, 5, 6, 7, 8, 9, 9, 0, 1, 2, 3, 4, 5, 6, 7, 8, 2, 3, 4, 5, 6, 7, 8, 9, 2, 3, 4, 5, 6, 7, 8, 2, 3, 4, 5, 6, 7, 8, 9, 9, 2, 3, 4, 5, 6, 7, 8, 2, 3, 4, 5, 6, 7, 8, 9, 9, 9, 0, 1, 2, 3, 4, 5, 6, 7, 8, 0, 1, 2, 3, 4, 5, 6, 7, 8, 9, 0, 1, 2, 3, 4, 5, 6, 7, 8, 2, 3, 4, 5, 6, 7, 8, 9, 9, 0, 1, 2, 3, 4, 5, 6, 7, 8, 0, 1, 2, 3, 4, 5, 6, 7, 8, 9, 9, 9, 0, 1, 2, 3, 4, 5, 6, 7, 8, 0, 1, 2, 3, 4, 5, 6, 7, 8, 9, 0, 1, 2, 3, 4, 5, 6, 7, 8, 2, 3, 4, 5, 6, 7, 8, 9, 9, 0, 1, 2, 3, 4, 5, 6, 7, 8, 0, 1, 2, 3, 4, 5, 6, 7, 8, 9, 9, 9, 9, 0, 1, 2, 3, 4, 5, 6, 7, 8, 2, 3, 4, 5, 6, 7, 8, 9, 0, 1, 2, 3, 4, 5, 6, 7, 8, 0, 1, 2, 3, 4, 5, 6, 7, 8, 9, 9, 0, 1, 2, 3, 4, 5, 6, 7, 8, 0, 1, 2, 3, 4, 5, 6, 7, 8, 9, 9, 0, 1, 2, 3, 4, 5, 6, 7, 8, 2, 3, 4, 5, 6, 7, 8, 9, 2, 3, 4, 5, 6, 7, 8, 2, 3, 4, 5, 6, 7, 8, 9, 9, 2, 3, 4, 5, 6, 7, 8, 2, 3, 4, 5, 6, 7, 8, 9, 9, 9, 0, 1, 2, 3, 4, 5, 6, 7, 8, 0, 1, 2, 3, 4, 5, 6, 7, 8, 9, 0, 1, 2, 3, 4, 5, 6, 7, 8, 2, 3, 4, 5, 6, 7, 8, 9, 9, 0, 1, 2, 3, 4, 5, 6, 7, 8, 0, 1, 2, 3, 4, 5, 6, 7, 8, 9, 9, 9, 0, 1, 2, 3, 4, 5, 6, 7, 8, 0, 1, 2, 3, 4, 5, 6, 7, 8, 9, 0, 1, 2, 3, 4, 5, 6, 7, 8, 2, 3, 4, 5, 6, 7, 8, 9, 9, 0, 1, 2, 3, 4, 5, 6, 7, 8, 0, 1, 2, 3, 4, 5, 6, 7, 8, 9, 9, 9, 9, 0, 1, 2, 3, 4, 5, 6, 7, 8, 0, 1, 2, 3, 4, 5, 6, 7, 8, 9, 0, 1, 2, 3, 4, 5, 6, 7, 8, 0, 1, 2, 3, 4, 5, 6, 7, 8, 9, 9, 0, 1, 2, 3, 4, 5, 6, 7, 8, 0, 1, 2, 3, 4, 5, 6, 7, 8, 9, 9, 0, 1, 2, 3, 4, 5, 6, 7, 8, 0, 1, 2, 3, 4, 5, 6, 7, 8, 9, 0, 1, 2, 3, 4, 5, 6, 7, 8, 2, 3, 4, 5, 6, 7, 8, 9, 9, 0, 1, 2, 3, 4, 5, 6, 7, 8, 0, 1, 2, 3, 4, 5, 6, 7, 8, 9, 9, 9, 0, 1, 2, 3, 4, 5, 6, 7, 8, 0, 1, 2, 3, 4, 5, 6, 7, 8, 9, 0, 1, 2, 3, 4, 5, 6, 7, 8, 2, 3, 4, 5, 6, 7, 8, 9, 9, 0, 1, 2, 3, 4, 5, 6, 7, 8, 0, 1, 2, 3, 4, 5, 6, 7, 8, 9, 9, 9, 0, 1, 2, 3, 4, 5, 6, 7, 8, 0, 1, 2, 3, 4, 5, 6, 7, 8, 9, 0, 1, 2, 3, 4, 5, 6, 7, 8, 0, 1, 2, 3, 4, 5, 6, 7, 8, 9, 9, 0, 1, 2, 3, 4, 5, 6, 7, 8, 0, 1, 2, 3, 4, 5, 6, 7, 8, 9, 9, 9, 9, 0, 1, 2, 3, 4, 5, 6, 7, 8, 0, 1, 2, 3, 4, 5, 6, 7, 8, 9, 0, 1, 2, 3, 4, 5, 6, 7, 8, 0, 1, 2, 3, 4, 5, 6, 7, 8, 9, 9, 0, 1, 2, 3, 4, 5, 6, 7, 8, 0, 1, 2, 3, 4, 5, 6, 7, 8, 9, 9, 0, 1, 2, 3, 4, 5, 6, 7, 8, 0, 1, 2, 3, 4, 5, 6, 7, 8, 9, 0, 1, 2, 3, 4, 5, 6, 7, 8, 2, 3, 4, 5, 6, 7, 8, 9, 9, 0, 1, 2, 3, 4, 5, 6, 7, 8, 0, 1, 2, 3, 4, 5, 6, 7, 8, 9, 9, 9, 0, 1, 2, 3, 4, 5, 6, 7, 8, 0, 1, 2, 3, 4, 5, 6, 7, 8, 9, 0, 1, 2, 3, 4, 5, 6, 7, 8, 2, 3, 4, 5, 6, 7, 8, 9, 9, 0, 1, 2, 3, 4, 5, 6, 7, 8, 0, 1, 2, 3, 4, 5, 6, 7, 8, 9, 9, 9, 0, 1, 2, 3, 4, 5, 6, 7, 8, 0, 1, 2, 3, 4, 5, 6, 7, 8, 9, 0, 1, 2, 3, 4, 5, 6, 7, 8, 0, 1, 2, 3, 4, 5, 6, 7, 8, 9, 9, 0, 1, 2, 3, 4, 5, 6, 7, 8, 0, 1, 2, 3, 4, 5, 6, 7, 8, 9, 9, 9, 9] (by kernel_rfl) (AC (at_ok hx12 (el (D.int .i64)) (.list [])).1 (AC (at_ok hx12 (el (D.int .i64)) (.list [])).2 (AC (all_ok (D.int .i64) 1 x12 (fun _ => rfl)) (AC (by simpa using hx13) (AC (dt_map _ _ _ _) (AC (all_ok (D.int .i64) 1 ((x12.drop p3.toNat).take ((w64 (p3 + p4)).toNat - p3.toNat)) (fun _ => rfl)) (AC hx14 (AC (by simp) (AC (ap_map (D.int .i64) ([] : List Int) ((x12.drop p3.toNat).take ((w64 (p3 + p4)).toNat - p3.toNat)) 0 0) (A1 rfl)))))))))) ?_
          refine K_g (by kernel_rfl) ?_
          cases H
          refine K_ret ?_
          kernel_rfl
def T_shapesearchsecond_Deck_Query_l1 (k : Nat) (p2 : Int) (p3 : List Int) (x12 : Nat) (x21 : Int × Int × (List Int)) : Option ((Int × Int × (List Int)) ⊕ ((Int × (List Int)))) :=
 (if 0 < x21.1 then (T_shapesearchsecond_Deck_Next k p2 p3 x21.2.1).bind fun x23 => (T_shapesearchsecond_Deck_Sample k p3 x23.2).bind fun x24 => (if (0 : Int) ≤ x23.1 ∧ x23.1 < ((x12 : Nat) : Int) then some (.inl ((w64 (x21.1 - 1)), x24.2, (x21.2.2.set (0 + x23.1.toNat) x24.1))) else none) else some (.inr (x21.2.1, x21.2.2)))
theorem T_shapesearchsecond_Deck_Query_l1_ok (k : Nat) (p2 : Int) (p3 : List Int) (x12 : Nat) : ∀ (x21 : Int × Int × (List Int)) (x : (Int × Int × (List Int)) ⊕ ((Int × (List Int)))), T_shapesearchsecond_Deck_Query_l1 k p2 p3 x12 x21 = some x → evC X (evF X k) k 1 l_shapesearchsecond_Deck_Query_1 ⟨[(0, (Pt 0)), (2, (I p2)), (9, (.one (.own 1 0 x12))), (10, (I x21.1))], [.cells [cL p3, cI x21.2.1], VI x21.2.2]⟩ = some (outS (fun (s : Int × Int × (List Int)) => ⟨[(0, (Pt 0)), (2, (I p2)), (9, (.one (.own 1 0 x12))), (10, (I s.1))], [.cells [cL p3, cI s.2.1], VI s.2.2]⟩) (fun (r : (Int × (List Int))) => (.exit 0, ⟨[(9, (.one (.own 1 0 x12)))], [.cells [cL p3, cI r.1], VI r.2]⟩)) x) := by
 intro x21 x H
 unfold T_shapesearchsecond_Deck_Query_l1 at H
 refine K_in ?_
 refine K_seq (K_seq (K_r [] [] (by kernel_rfl) trivial ?_))
 rcases ite_some H with ⟨hx22, H⟩ | ⟨hx22, H⟩
 · refine K_t (by kernel_rfl) (decide_eq_true hx22) ?_
   refine K_g (by kernel_rfl) ?_
   refine K_skip ?_
   refine K_seq ?_
   refine K_block ?_
   obtain ⟨x23, hx23, H⟩ := bind_some' H
   obtain ⟨x24, hx24, H⟩ := bind_some' H
   obtain ⟨hx25, H⟩ := guard_some H
   refine K_r [.r (I x23.1) [.cells [cL p3, cI x23.2]], .r (I x24.1) [.cells [cL p3, cI x24.2]], .l ((x21.2.2.set (0 + x23.1.toNat) x24.1).map (D.int .i64))] [C_T_shapesearchsecond_Deck_Next k p2 p3 x21.2.1 x23, C_T_shapesearchsecond_Deck_Sample k p3 x23.2 x24, (0 : Int) ≤ x23.1 ∧ x23.1 < ((x12 : Nat) : Int), (x21.2.2.map (D.int .i64)).set (0 + x23.1.toNat) (elemOf (.int .i64 0) (splice ((x21.2.2.map (D.int .i64)).getD (0 + x23.1.toNat) (.int .i64 0)).cells 0 [.int .i64 x24.1])) = (x21.2.2.set (0 + x23.1.toNat) x24.1).map (D.int .i64)] (by kernel_rfl) (AC (T_shapesearchsecond_Deck_Next_ok k p2 p3 x21.2.1 x23 hx23) (AC (T_shapesearchsecond_Deck_Sample_ok k p3 x23.2 x24 hx24) (AC hx25 (A1 (st_one x21.2.2 (0 + x23.1.toNat) x24.1 (D.int .i64) (.int .i64 0) rfl (fun _ => rfl) rfl))))) ?_
   refine K_blk (K_r [] [] (by kernel_rfl) trivial ?_)
   cases H
   exact K_end (by kernel_rfl)
 · refine K_f (by kernel_rfl) (decide_eq_false hx22) ?_
   refine K_g (by kernel_rfl) ?_
   cases H
   exact K_exit0 rfl (by kernel_rfl)
def T_shapesearchsecond_Deck_Query_l2 (k : Nat) (p2 : Int) (p3 : List Int) (x36 : Nat × Int × Int × (List Int)) : Option ((Nat × Int × Int × (List Int)) ⊕ ((Nat × Int × (List Int)))) :=
 (if x36.2.1 < p2 then (T_shapesearchsecond_Deck_Sample k p3 x36.2.2.1).bind fun x38 => (if x36.1 + 1 ≤ LIM then some (.inl ((x36.1 + 1), (w64 (x36.2.1 + 1)), x38.2, ((x36.2.2.2.drop 0).take x36.1 ++ ([x38.1] : List Int)))) else none) else some (.inr (x36.1, x36.2.2.1, x36.2.2.2)))
theorem T_shapesearchsecond_Deck_Query_l2_ok (k : Nat) (p2 : Int) (p3 : List Int) : ∀ (x36 : Nat × Int × Int × (List Int)) (x : (Nat × Int × Int × (List Int)) ⊕ ((Nat × Int × (List Int)))), T_shapesearchsecond_Deck_Query_l2 k p2 p3 x36 = some x → evC X (evF X k) k 1 l_shapesearchsecond_Deck_Query_2 ⟨[(0, (Pt 0)), (2, (I p2)), (9, (.one (.own 1 0 x36.1))), (11, (I x36.2.1))], [.cells [cL p3, cI x36.2.2.1], VI x36.2.2.2]⟩ = some (outS (fun (s : Nat × Int × Int × (List Int)) => ⟨[(0, (Pt 0)), (2, (I p2)), (9, (.one (.own 1 0 s.1))), (11, (I s.2.1))], [.cells [cL p3, cI s.2.2.1], VI s.2.2.2]⟩) (fun (r : (Nat × Int × (List Int))) => (.exit 2, ⟨[(9, (.one (.own 1 0 r.1)))], [.cells [cL p3, cI r.2.1], VI r.2.2]⟩)) x) := by
 intro x36 x H
 unfold T_shapesearchsecond_Deck_Query_l2 at H
 refine K_in ?_
 refine K_seq (K_seq (K_r [] [] (by kernel_rfl) trivial ?_))
 rcases ite_some H with ⟨hx37, H⟩ | ⟨hx37, H⟩
 · refine K_t (by kernel_rfl) (decide_eq_true hx37) ?_
   refine K_g (by kernel_rfl) ?_
   refine K_skip ?_
   refine K_seq ?_
   refine K_block ?_
   obtain ⟨x38, hx38, H⟩ := bind_some' H
   obtain ⟨hx39, H⟩ := guard_some H
   refine K_r [.r (I x38.1) [.cells [cL p3, cI x38.2]], .n 1, .l (((x36.2.2.2.drop 0).take x36.1 ++ ([x38.1] : List Int)).map (D.int .i64))] [C_T_shapesearchsecond_Deck_Sample k p3 x36.2.2.1 x38, (List.all (([x38.1] : List Int).map (D.int .i64)) fun d => d.cells.length == (D.cells (.int .i64 0)).length) = true, x36.1 + 1 ≤ LIM, (([x38.1] : List Int).map (D.int .i64)).length = 1, ((x36.2.2.2.map (D.int .i64)).drop 0).take x36.1 ++ (([x38.1] : List Int).map (D.int .i64)) = ((x36.2.2.2.drop 0).take x36.1 ++ ([x38.1] : List Int)).map (D.int .i64)] (by kernel_rfl) (AC (T_shapesearchsecond_Deck_Sample_ok k p3 x36.2.2.1 x38 hx38) (AC (all_ok (D.int .i64) 1 ([x38.1] : List Int) (fun _ => rfl)) (AC hx39 (AC (by simp) (A1 (ap_map (D.int .i64) x36.2.2.2 ([x38.1] : List Int) 0 x36.1)))))) ?_
   refine K_blk (K_r [] [] (by kernel_rfl) trivial ?_)
   cases H
   exact K_end (by kernel_rfl)
 · refine K_f (by kernel_rfl) (decide_eq_false hx37) ?_
   refine K_g (by kernel_rfl) ?_
   cases H
   exact K_exit0 rfl (by kernel_rfl)
def T_shapesearchsecond_Deck_Query (k : Nat) (p1 : List (List Int)) (p2 : Int) (p3 : List Int) (p4 : Int) : Option ((List Int) × Int) := match k with
 | 0 => none
 | k + 1 => ((T_ref23_Places k p1 p2).bind fun x1 => ((if 0 < (x1.1.length : Int) then ((T_shapesearchsecond_Deck_Next k 4 p3 p4).bind fun x4 => some (decide (0 < x4.1), x4.2)) else some (false, p4))).bind fun x5 => (if x5.1 = true then ((T_shapesearchsecond_Deck_Next k (x1.1.length : Int) p3 x5.2).bind fun x7 => (at? x1.1 x7.1).bind fun x8 => (T_ref23_Window k p1 x8.1 x8.2 p2).bind fun x9 => (T_shapesearchsecond_Deck_Next k 3 p3 x7.2).bind fun x10 => (loopT (T_shapesearchsecond_Deck_Query_l1 k p2 p3 x9.1) k (x10.1, x10.2, x9.2.2)).bind fun x26 => some (((x26.2.drop 0).take x9.1), x26.1)) else ((loopT (T_shapesearchsecond_Deck_Query_l2 k p2 p3) k (0, 0, x5.2, [])).bind fun x40 => some (((x40.2.2.drop 0).take x40.1), x40.2.1))))
abbrev C_T_shapesearchsecond_Deck_Query (k : Nat) (p1 : List (List Int)) (p2 : Int) (p3 : List Int) (p4 : Int) (r : (List Int) × Int) : Prop := evF X k n_shapesearchsecond_Deck_Query [(Pt 0), (.agg [.d (.list (p1.map (el (D.int .i64))))]), (I p2)] [.cells [cL p3, cI p4]] = some ((LI r.1), [.cells [cL p3, cI r.2]])
theorem T_shapesearchsecond_Deck_Query_ok (k : Nat) (p1 : List (List Int)) (p2 : Int) (p3 : List Int) (p4 : Int) (r : (List Int) × Int) : T_shapesearchsecond_Deck_Query k p1 p2 p3 p4 = some r → C_T_shapesearchsecond_Deck_Query k p1 p2 p3 p4 r := by
 intro H
 cases k with
 | zero => simp [T_shapesearchsecond_Deck_Query] at H
 | succ k =>
  simp only [T_shapesearchsecond_Deck_Query] at H
  refine F_in X_shapesearchsecond_Deck_Query rfl ?_
  refine K_seq (K_r [] [] (by kernel_rfl) trivial ?_)
  refine K_seq ?_
  obtain ⟨x1, hx1, H⟩ := bind_some' H
  refine K_r [.r (.tup [(false, [.d (.list (x1.1.map e_st0))]), (false, [cI x1.2])]) []] [C_T_ref23_Places k p1 p2 x1] (by kernel_rfl) (A1 (T_ref23_Places_ok k p1 p2 x1 hx1)) ?_
  refine K_seq (K_r [] [] (by kernel_rfl) trivial ?_)
  refine K_seq ?_
  refine K_seq ?_
  obtain ⟨x5, hx5, H⟩ := bind_some' H
  refine K_of ⟨[(0, (Pt 0)), (2, (I p2)), (4, (Pt 1)), (7, (.one (.d (.list (x1.1.map e_st0))))), (9, (.one (.nil))), (25, (B x5.1))], [.cells [cL p3, cI x5.2], .cells [.d (.list (p1.map (el (D.int .i64))))]]⟩ ?_ ?_
  · clear H; have H := hx5; clear hx5; refine K_in ?_
    rcases ite_some H with ⟨hx3, H⟩ | ⟨hx3, H⟩
    · obtain ⟨x4, hx4, H⟩ := bind_some' H
      refine K_r [.n x1.1.length, .b true, .r (I x4.1) [.cells [cL p3, cI x4.2]]] [((x1.1.map e_st0)).length = x1.1.length, decide (0 < (x1.1.length : Int)) = true, C_T_shapesearchsecond_Deck_Next k 4 p3 p4 x4] (by kernel_rfl) (AC (List.length_map _) (AC (decide_eq_true hx3) (A1 (T_shapesearchsecond_Deck_Next_ok k 4 p3 p4 x4 hx4)))) ?_
      cases H
      exact K_end (by kernel_rfl)
    · refine K_r [.n x1.1.length, .b false] [((x1.1.map e_st0)).length = x1.1.length, decide (0 < (x1.1.length : Int)) = false] (by kernel_rfl) (AC (List.length_map _) (A1 (decide_eq_false hx3))) ?_
      cases H
      exact K_end (by kernel_rfl)
  rcases ite_some H with ⟨hx6, H⟩ | ⟨hx6, H⟩
  · refine K_t (by kernel_rfl) hx6 ?_
    refine K_seq ?_
    obtain ⟨x7, hx7, H⟩ := bind_some' H
    obtain ⟨x8, hx8, H⟩ := bind_some' H
    obtain ⟨x9, hx9, H⟩ := bind_some' H
    refine K_rI [.n x1.1.length, .r (I x7.1) [.cells [cL p3, cI x7.2]], .l [.int .i64 x8.1, .int .i64 x8.2], .r (.tup [(false, [.own 0 0 x9.1]), (false, [cI x9.2.1])]) [VI x9.2.2]] [0, 1, 2, 3, 1, 2, 3] ((fun (z1 : St) => [((x1.1.map e_st0)).length = x1.1.length, C_T_shapesearchsecond_Deck_Next k (x1.1.length : Int) p3 x5.2 x7, (0 : Int) ≤ x7.1 ∧ x7.1 < (((x1.1.map e_st0)).length : Int), ((x1.1.map e_st0).getD x7.1.toNat (.agg [(.int .i64 0), (.int .i64 0)])).cells = [.int .i64 x8.1, .int .i64 x8.2], C_T_ref23_Window k p1 x8.1 x8.2 p2 x9, z1 = z1]) (⟨[(0, (Pt 0)), (2, (I p2)), (9, (.one (.own 1 0 x9.1)))], [.cells [cL p3, cI x7.2], VI x9.2.2]⟩)) [0, 1, 2, 3, 4, 1, 2, 3, 4, 5] (by kernel_rfl) (AC (List.length_map _) (AC (T_shapesearchsecond_Deck_Next_ok k (x1.1.length : Int) p3 x5.2 x7 hx7) (AC (at_ok hx8 e_st0 (.agg [(.int .i64 0), (.int .i64 0)])).1 (AC (at_ok hx8 e_st0 (.agg [(.int .i64 0), (.int .i64 0)])).2 (AC (T_ref23_Window_ok k p1 x8.1 x8.2 p2 x9 hx9) (A1 rfl)))))) ?_
    refine K_seq ?_
    refine K_seq ?_
    obtain ⟨x10, hx10, H⟩ := bind_some' H
    refine K_r [.r (I x10.1) [.cells [cL p3, cI x10.2]]] [C_T_shapesearchsecond_Deck_Next k 3 p3 x7.2 x10] (by kernel_rfl) (A1 (T_shapesearchsecond_Deck_Next_ok k 3 p3 x7.2 x10 hx10)) ?_
    refine K_block (K_conv (σ' := ⟨[(0, (Pt 0)), (2, (I p2)), (9, (.one (.own 1 0 x9.1))), (10, (I x10.1))], [.cells [cL p3, cI x10.2], VI x9.2.2]⟩) (by kernel_rfl) ?_)
    obtain ⟨x26, hx26, H⟩ := bind_some' H
    refine K_loop ⟨[(9, (.one (.own 1 0 x9.1)))], [.cells [cL p3, cI x26.1], VI x26.2]⟩ (loop_ok (fun (s : Int × Int × (List Int)) => ⟨[(0, (Pt 0)), (2, (I p2)), (9, (.one (.own 1 0 x9.1))), (10, (I s.1))], [.cells [cL p3, cI s.2.1], VI s.2.2]⟩) (fun (r : (Int × (List Int))) => (.exit 0, ⟨[(9, (.one (.own 1 0 x9.1)))], [.cells [cL p3, cI r.1], VI r.2]⟩)) (fun r h => by cases h) (T_shapesearchsecond_Deck_Query_l1_ok k p2 p3 x9.1) k (x10.1, x10.2, x9.2.2) x26 hx26) rfl ?_
    refine K_seq (K_r [] [] (by kernel_rfl) trivial ?_)
    refine K_g (by kernel_rfl) ?_
    cases H
    refine K_ret ?_
    exact Eq.trans (b := some ((.one (.d (.list (((x26.2.map (D.int .i64)).drop 0).take x9.1)))), [.cells [cL p3, cI x26.1]])) (by kernel_rfl) (by simp only [dt_map, rl_map, LI, VI])
  · refine K_f (by kernel_rfl) (Bool.eq_false_iff.2 hx6) ?_
    refine K_g (by kernel_rfl) ?_
    refine K_skip (K_seq (K_seq (K_r [] [] (by kernel_rfl) trivial ?_)))
    refine K_block (K_g (by kernel_rfl) ?_)
    refine K_conv (σ' := ⟨[(0, (Pt 0)), (2, (I p2)), (9, (.one (.own 1 0 0))), (11, (I 0))], [.cells [cL p3, cI x5.2], VI []]⟩) (by kernel_rfl) ?_
    obtain ⟨x40, hx40, H⟩ := bind_some' H
    refine K_loop ⟨[(9, (.one (.own 1 0 x40.1)))], [.cells [cL p3, cI x40.2.1], VI x40.2.2]⟩ (loop_ok (fun (s : Nat × Int × Int × (List Int)) => ⟨[(0, (Pt 0)), (2, (I p2)), (9, (.one (.own 1 0 s.1))), (11, (I s.2.1))], [.cells [cL p3, cI s.2.2.1], VI s.2.2.2]⟩) (fun (r : (Nat × Int × (List Int))) => (.exit 2, ⟨[(9, (.one (.own 1 0 r.1)))], [.cells [cL p3, cI r.2.1], VI r.2.2]⟩)) (fun r h => by cases h) (T_shapesearchsecond_Deck_Query_l2_ok k p2 p3) k (0, 0, x5.2, []) x40 hx40) rfl ?_
    refine K_seq (K_r [] [] (by kernel_rfl) trivial ?_)
    refine K_g (by kernel_rfl) ?_
    cases H
    refine K_ret ?_
    exact Eq.trans (b := some ((.one (.d (.list (((x40.2.2.map (D.int .i64)).drop 0).take x40.1)))), [.cells [cL p3, cI x40.2.1]])) (by kernel_rfl) (by simp only [dt_map, rl_map, LI, VI])
def T_ref23_Same_l1 (k : Nat) (p1 : List (Int × Int × Int × Int)) (p2 : List (Int × Int × Int × Int)) (x9 : Int) : Option (Int ⊕ (Unit ⊕ Unit)) :=
 (if x9 < (p1.length : Int) then ((at? p1 x9).bind fun x11 => (at? p2 x9).bind fun x12 => (if (!(decide (x11.1 = x12.1) && (decide (x11.2.1 = x12.2.1) && (decide (x11.2.2.1 = x12.2.2.1) && (decide (x11.2.2.2 = x12.2.2.2) && true))))) = true then some (.inr (.inr ())) else some (.inl (w64 (x9 + 1))))) else some (.inr (.inl ())))
theorem T_ref23_Same_l1_ok (k : Nat) (p1 : List (Int × Int × Int × Int)) (p2 : List (Int × Int × Int × Int)) : ∀ (x9 : Int) (x : Int ⊕ (Unit ⊕ Unit)), T_ref23_Same_l1 k p1 p2 x9 = some x → evC X (evF X k) k 0 l_ref23_Same_1 ⟨[(0, (.one (.d (.list (p1.map e_st1))))), (1, (.one (.d (.list (p2.map e_st1))))), (5, (I x9))], []⟩ = some (outS (fun (s : Int) => ⟨[(0, (.one (.d (.list (p1.map e_st1))))), (1, (.one (.d (.list (p2.map e_st1))))), (5, (I s))], []⟩) (fun (r : Unit ⊕ Unit) => Sum.elim (fun y => (.exit 0, ⟨[], []⟩)) (fun y => (.ret, ⟨[(4, (B false))], []⟩)) r) x) := by
 intro x9 x H
 unfold T_ref23_Same_l1 at H
 refine K_in ?_
 refine K_seq (K_seq (K_r [.n p1.length] [((p1.map e_st1)).length = p1.length] (by kernel_rfl) (A1 (List.length_map _)) ?_))
 rcases ite_some H with ⟨hx10, H⟩ | ⟨hx10, H⟩
 · refine K_t (by kernel_rfl) (decide_eq_true hx10) ?_
   refine K_g (by kernel_rfl) ?_
   refine K_skip ?_
   refine K_seq ?_
   refine K_block ?_
   refine K_seq ?_
   obtain ⟨x11, hx11, H⟩ := bind_some' H
   obtain ⟨x12, hx12, H⟩ := bind_some' H
   refine K_r [.l [.int .i64 x11.1, .int .i64 x11.2.1, .int .i64 x11.2.2.1, .int .i64 x11.2.2.2], .l [.int .i64 x12.1, .int .i64 x12.2.1, .int .i64 x12.2.2.1, .int .i64 x12.2.2.2]] [(0 : Int) ≤ x9 ∧ x9 < (((p1.map e_st1)).length : Int), ((p1.map e_st1).getD x9.toNat (.agg [(.int .i64 0), (.int .i64 0), (.int .i64 0), (.int .i64 0)])).cells = [.int .i64 x11.1, .int .i64 x11.2.1, .int .i64 x11.2.2.1, .int .i64 x11.2.2.2], (0 : Int) ≤ x9 ∧ x9 < (((p2.map e_st1)).length : Int), ((p2.map e_st1).getD x9.toNat (.agg [(.int .i64 0), (.int .i64 0), (.int .i64 0), (.int .i64 0)])).cells = [.int .i64 x12.1, .int .i64 x12.2.1, .int .i64 x12.2.2.1, .int .i64 x12.2.2.2]] (by kernel_rfl) (AC (at_ok hx11 e_st1 (.agg [(.int .i64 0), (.int .i64 0), (.int .i64 0), (.int .i64 0)])).1 (AC (at_ok hx11 e_st1 (.agg [(.int .i64 0), (.int .i64 0), (.int .i64 0), (.int .i64 0)])).2 (AC (at_ok hx12 e_st1 (.agg [(.int .i64 0), (.int .i64 0), (.int .i64 0), (.int .i64 0)])).1 (A1 (at_ok hx12 e_st1 (.agg [(.int .i64 0), (.int .i64 0), (.int .i64 0), (.int .i64 0)])).2)))) ?_
   rcases ite_some H with ⟨hx13, H⟩ | ⟨hx13, H⟩
   · refine K_t (by kernel_rfl) hx13 ?_
     refine K_seq (K_r [] [] (by kernel_rfl) trivial ?_)
     refine K_g (by kernel_rfl) ?_
     cases H
     exact K_ret (by kernel_rfl)
   · refine K_f (by kernel_rfl) (Bool.eq_false_iff.2 hx13) ?_
     refine K_g (by kernel_rfl) ?_
     refine K_skip (K_blk (K_r [] [] (by kernel_rfl) trivial ?_))
     cases H
     exact K_end (by kernel_rfl)
 · refine K_f (by kernel_rfl) (decide_eq_false hx10) ?_
   refine K_g (by kernel_rfl) ?_
   cases H
   exact K_exit0 rfl (by kernel_rfl)
def T_ref23_Same (k : Nat) (p1 : List (Int × Int × Int × Int)) (p2 : List (Int × Int × Int × Int)) : Option Bool := match k with
 | 0 => none
 | k + 1 => (if (!decide ((p1.length : Int) = (p2.length : Int))) = true then some false else ((loopT (T_ref23_Same_l1 k p1 p2) k 0).bind fun x14 => (match x14 with | .inl x15 => some true | .inr x16 => some false)))
abbrev C_T_ref23_Same (k : Nat) (p1 : List (Int × Int × Int × Int)) (p2 : List (Int × Int × Int × Int)) (r : Bool) : Prop := evF X k n_ref23_Same [(.one (.d (.list (p1.map e_st1)))), (.one (.d (.list (p2.map e_st1))))] [] = some ((B r), [])
theorem T_ref23_Same_ok (k : Nat) (p1 : List (Int × Int × Int × Int)) (p2 : List (Int × Int × Int × Int)) (r : Bool) : T_ref23_Same k p1 p2 = some r → C_T_ref23_Same k p1 p2 r := by
 intro H
 cases k with
 | zero => simp [T_ref23_Same] at H
 | succ k =>
  simp only [T_ref23_Same] at H
  refine F_in X_ref23_Same rfl ?_
  refine K_seq (K_r [] [] (by kernel_rfl) trivial ?_)
  refine K_seq (K_seq (K_r [.n p1.length, .n p2.length] [((p1.map e_st1)).length = p1.length, ((p2.map e_st1)).length = p2.length] (by kernel_rfl) (AC (List.length_map _) (A1 (List.length_map _))) ?_))
  rcases ite_some H with ⟨hx1, H⟩ | ⟨hx1, H⟩
  · refine K_t (by kernel_rfl) hx1 ?_
    refine K_seq (K_r [] [] (by kernel_rfl) trivial ?_)
    refine K_g (by kernel_rfl) ?_
    cases H
    refine K_ret ?_
    kernel_rfl
  · refine K_f (by kernel_rfl) (Bool.eq_false_iff.2 hx1) ?_
    refine K_g (by kernel_rfl) ?_
    refine K_skip (K_seq (K_seq (K_r [] [] (by kernel_rfl) trivial ?_)))
    refine K_block (K_conv (σ' := ⟨[(0, (.one (.d (.list (p1.map e_st1))))), (1, (.one (.d (.list (p2.map e_st1))))), (5, (I 0))], []⟩) (by kernel_rfl) ?_)
    obtain ⟨x14, hx14, H⟩ := bind_some' H
    cases x14 with
    | inl x15 =>
     dsimp only at H
     refine K_loop ⟨[], []⟩ (loop_ok (fun (s : Int) => ⟨[(0, (.one (.d (.list (p1.map e_st1))))), (1, (.one (.d (.list (p2.map e_st1))))), (5, (I s))], []⟩) (fun (r : Unit ⊕ Unit) => Sum.elim (fun y => (.exit 0, ⟨[], []⟩)) (fun y => (.ret, ⟨[(4, (B false))], []⟩)) r) (fun r h => by cases r <;> cases h) (T_ref23_Same_l1_ok k p1 p2) k 0 (.inl x15) hx14) rfl ?_
     refine K_seq (K_r [] [] (by kernel_rfl) trivial ?_)
     refine K_g (by kernel_rfl) ?_
     cases H
     refine K_ret ?_
     kernel_rfl
    | inr x16 =>
     dsimp only at H
     cases H
     refine K_loopr ⟨[(4, (B false))], []⟩ (loop_ok (fun (s : Int) => ⟨[(0, (.one (.d (.list (p1.map e_st1))))), (1, (.one (.d (.list (p2.map e_st1))))), (5, (I s))], []⟩) (fun (r : Unit ⊕ Unit) => Sum.elim (fun y => (.exit 0, ⟨[], []⟩)) (fun y => (.ret, ⟨[(4, (B false))], []⟩)) r) (fun r h => by cases r <;> cases h) (T_ref23_Same_l1_ok k p1 p2) k 0 (.inr x16) hx14) ?_
     kernel_rfl
def T_law23_StoreMoves_l1 (k : Nat) (p2 : Int) (x17 : List Int) (x18 : Nat) (x19 : Nat) (x22 : List (List Int)) (x23 : Int) (x24 : Int) (x25 : Int) (x26 : List (Int × Int × Int × Int)) (x27 : List (Int × Int × Int × Int)) (x43 : Int × Int) : Option ((Int × Int) ⊕ (Int ⊕ Unit)) :=
 (if x43.2 < ((x19 : Nat) : Int) then (if (0 : Int) ≤ x43.2 ∧ x43.2 < ((x19 : Nat) : Int) then (x27[(0 + x43.2.toNat)]?).bind fun x46 => (if x46.2.2.1 = (x22.length : Int) then some (.inl (x43.1, (w64 (x43.2 + 1)))) else (((if ((x18 : Nat) : Int) ≤ x43.1 then some true else (if (0 : Int) ≤ x43.1 ∧ x43.1 < ((x18 : Nat) : Int) then (x26[(0 + x43.1.toNat)]?).bind fun x54 => (if (0 : Int) ≤ x43.2 ∧ x43.2 < ((x19 : Nat) : Int) then (x27[(0 + x43.2.toNat)]?).bind fun x56 => some (!(decide (x54.1 = x56.1) && (decide (x54.2.1 = x56.2.1) && (decide (x54.2.2.1 = x56.2.2.1) && (decide (x54.2.2.2 = x56.2.2.2) && true))))) else none) else none))).bind fun x57 => (if x57 = true then some (.inr (.inr ())) else some (.inl ((w64 (x43.1 + 1)), (w64 (x43.2 + 1))))))) else none) else some (.inr (.inl x43.1)))
theorem T_law23_StoreMoves_l1_ok (k : Nat) (p2 : Int) (x17 : List Int) (x18 : Nat) (x19 : Nat) (x22 : List (List Int)) (x23 : Int) (x24 : Int) (x25 : Int) (x26 : List (Int × Int × Int × Int)) (x27 : List (Int × Int × Int × Int)) : ∀ (x43 : Int × Int) (x : (Int × Int) ⊕ (Int ⊕ Unit)), T_law23_StoreMoves_l1 k p2 x17 x18 x19 x22 x23 x24 x25 x26 x27 x43 = some x → evC X (evF X k) k 0 l_law23_StoreMoves_1 ⟨[(1, (.one (.d (.int .u8 p2)))), (6, (Pt 0)), (7, (Pt 1)), (8, (LI x17)), (10, (.one (.own 2 0 x18))), (12, (.one (.own 3 0 x19))), (14, (I x43.1)), (15, (I x43.2))], [.cells [.d (.list (x22.map (el (D.int .i64))))], .cells [cI x23, cI x24, cI x25], .vals (.agg [(.int .i64 0), (.int .i64 0), (.int .i64 0), (.int .i64 0)]) (x26.map e_st1), .vals (.agg [(.int .i64 0), (.int .i64 0), (.int .i64 0), (.int .i64 0)]) (x27.map e_st1)]⟩ = some (outS (fun (s : Int × Int) => ⟨[(1, (.one (.d (.int .u8 p2)))), (6, (Pt 0)), (7, (Pt 1)), (8, (LI x17)), (10, (.one (.own 2 0 x18))), (12, (.one (.own 3 0 x19))), (14, (I s.1)), (15, (I s.2))], [.cells [.d (.list (x22.map (el (D.int .i64))))], .cells [cI x23, cI x24, cI x25], .vals (.agg [(.int .i64 0), (.int .i64 0), (.int .i64 0), (.int .i64 0)]) (x26.map e_st1), .vals (.agg [(.int .i64 0), (.int .i64 0), (.int .i64 0), (.int .i64 0)]) (x27.map e_st1)]⟩) (fun (r : Int ⊕ Unit) => Sum.elim (fun y => (.exit 0, ⟨[(1, (.one (.d (.int .u8 p2)))), (6, (Pt 0)), (7, (Pt 1)), (8, (LI x17)), (10, (.one (.own 2 0 x18))), (14, (I y))], [.cells [.d (.list (x22.map (el (D.int .i64))))], .cells [cI x23, cI x24, cI x25], .vals (.agg [(.int .i64 0), (.int .i64 0), (.int .i64 0), (.int .i64 0)]) (x26.map e_st1)]⟩)) (fun y => (.ret, ⟨[(4, (B false))], []⟩)) r) x) := by
 intro x43 x H
 unfold T_law23_StoreMoves_l1 at H
 refine K_in ?_
 refine K_seq (K_seq (K_r [] [] (by kernel_rfl) trivial ?_))
 rcases ite_some H with ⟨hx44, H⟩ | ⟨hx44, H⟩
 · refine K_t (by kernel_rfl) (decide_eq_true hx44) ?_
   refine K_g (by kernel_rfl) ?_
   refine K_skip ?_
   refine K_seq ?_
   refine K_block ?_
   refine K_seq ?_
   refine K_seq ?_
   obtain ⟨hx45, H⟩ := guard_some H
   obtain ⟨x46, hx46, H⟩ := bind_some' H
   refine K_r [.l [.int .i64 x46.1, .int .i64 x46.2.1, .int .i64 x46.2.2.1, .int .i64 x46.2.2.2], .n x22.length] [(0 : Int) ≤ x43.2 ∧ x43.2 < ((x19 : Nat) : Int), ((x27.map e_st1).getD (0 + x43.2.toNat) (.agg [(.int .i64 0), (.int .i64 0), (.int .i64 0), (.int .i64 0)])).cells = [.int .i64 x46.1, .int .i64 x46.2.1, .int .i64 x46.2.2.1, .int .i64 x46.2.2.2], ((x22.map (el (D.int .i64)))).length = x22.length] (by kernel_rfl) (AC hx45 (AC (ld_ok hx46 e_st1 (.agg [(.int .i64 0), (.int .i64 0), (.int .i64 0), (.int .i64 0)])) (A1 (List.length_map _)))) ?_
   rcases ite_some H with ⟨hx47, H⟩ | ⟨hx47, H⟩
   · refine K_t (by kernel_rfl) (decide_eq_true hx47) ?_
     refine K_g (by kernel_rfl) ?_
     refine K_exit rfl ?_
     refine K_r [] [] (by kernel_rfl) trivial ?_
     cases H
     exact K_end (by kernel_rfl)
   · refine K_f (by kernel_rfl) (decide_eq_false hx47) ?_
     refine K_g (by kernel_rfl) ?_
     refine K_skip ?_
     refine K_seq ?_
     refine K_seq ?_
     obtain ⟨x57, hx57, H⟩ := bind_some' H
     refine K_of ⟨[(1, (.one (.d (.int .u8 p2)))), (6, (Pt 0)), (7, (Pt 1)), (8, (LI x17)), (10, (.one (.own 2 0 x18))), (12, (.one (.own 3 0 x19))), (14, (I x43.1)), (15, (I x43.2)), (97, (B x57))], [.cells [.d (.list (x22.map (el (D.int .i64))))], .cells [cI x23, cI x24, cI x25], .vals (.agg [(.int .i64 0), (.int .i64 0), (.int .i64 0), (.int .i64 0)]) (x26.map e_st1), .vals (.agg [(.int .i64 0), (.int .i64 0), (.int .i64 0), (.int .i64 0)]) (x27.map e_st1)]⟩ ?_ ?_
     · clear H; have H := hx57; clear hx57; refine K_in ?_
       rcases ite_some H with ⟨hx52, H⟩ | ⟨hx52, H⟩
       · refine K_r [.b true] [decide (((x18 : Nat) : Int) ≤ x43.1) = true] (by kernel_rfl) (A1 (decide_eq_true hx52)) ?_
         cases H
         exact K_end (by kernel_rfl)
       · obtain ⟨hx53, H⟩ := guard_some H
         obtain ⟨x54, hx54, H⟩ := bind_some' H
         obtain ⟨hx55, H⟩ := guard_some H
         obtain ⟨x56, hx56, H⟩ := bind_some' H
         refine K_r [.b false, .l [.int .i64 x54.1, .int .i64 x54.2.1, .int .i64 x54.2.2.1, .int .i64 x54.2.2.2], .l [.int .i64 x56.1, .int .i64 x56.2.1, .int .i64 x56.2.2.1, .int .i64 x56.2.2.2]] [decide (((x18 : Nat) : Int) ≤ x43.1) = false, (0 : Int) ≤ x43.1 ∧ x43.1 < ((x18 : Nat) : Int), ((x26.map e_st1).getD (0 + x43.1.toNat) (.agg [(.int .i64 0), (.int .i64 0), (.int .i64 0), (.int .i64 0)])).cells = [.int .i64 x54.1, .int .i64 x54.2.1, .int .i64 x54.2.2.1, .int .i64 x54.2.2.2], (0 : Int) ≤ x43.2 ∧ x43.2 < ((x19 : Nat) : Int), ((x27.map e_st1).getD (0 + x43.2.toNat) (.agg [(.int .i64 0), (.int .i64 0), (.int .i64 0), (.int .i64 0)])).cells = [.int .i64 x56.1, .int .i64 x56.2.1, .int .i64 x56.2.2.1, .int .i64 x56.2.2.2]] (by kernel_rfl) (AC (decide_eq_false hx52) (AC hx53 (AC (ld_ok hx54 e_st1 (.agg [(.int .i64 0), (.int .i64 0), (.int .i64 0), (.int .i64 0)])) (AC hx55 (A1 (ld_ok hx56 e_st1 (.agg [(.int .i64 0), (.int .i64 0), (.int .i64 0), (.int .i64 0)]))))))) ?_
         cases H
         exact K_end (by kernel_rfl)
     rcases ite_some H with ⟨hx58, H⟩ | ⟨hx58, H⟩
     · refine K_t (by kernel_rfl) hx58 ?_
       refine K_seq (K_r [] [] (by kernel_rfl) trivial ?_)
       refine K_g (by kernel_rfl) ?_
       cases H
       exact K_ret (by kernel_rfl)
     · refine K_f (by kernel_rfl) (Bool.eq_false_iff.2 hx58) ?_
       refine K_g (by kernel_rfl) ?_
       refine K_skip (K_r [] [] (by kernel_rfl) trivial ?_)
       refine K_blk (K_r [] [] (by kernel_rfl) trivial ?_)
       cases H
       exact K_end (by kernel_rfl)
 · refine K_f (by kernel_rfl) (decide_eq_false hx44) ?_
   refine K_g (by kernel_rfl) ?_
   cases H
   exact K_exit0 rfl (by kernel_rfl)
def T_law23_StoreMoves_l2 (k : Nat) (p2 : Int) (x67 : List Int) (x70 : List (List Int)) (x71 : Int) (x72 : Int) (x73 : Int) (x78 : Nat × Int × (List Int)) : Option ((Nat × Int × (List Int)) ⊕ ((Nat × (List Int)))) :=
 (if x78.2.1 < (x67.length : Int) then (at? x67 x78.2.1).bind fun x80 => (if x78.1 + 1 ≤ LIM then some (.inl ((x78.1 + 1), (w64 (x78.2.1 + 1)), ((x78.2.2.drop 0).take x78.1 ++ ([(imax (-500) (imin 500 x80))] : List Int)))) else none) else some (.inr (x78.1, x78.2.2)))
theorem T_law23_StoreMoves_l2_ok (k : Nat) (p2 : Int) (x67 : List Int) (x70 : List (List Int)) (x71 : Int) (x72 : Int) (x73 : Int) : ∀ (x78 : Nat × Int × (List Int)) (x : (Nat × Int × (List Int)) ⊕ ((Nat × (List Int)))), T_law23_StoreMoves_l2 k p2 x67 x70 x71 x72 x73 x78 = some x → evC X (evF X k) k 0 l_law23_StoreMoves_2 ⟨[(1, (.one (.d (.int .u8 p2)))), (6, (Pt 0)), (7, (Pt 1)), (8, (LI x67)), (16, (.one (.own 2 0 x78.1))), (17, (I x78.2.1))], [.cells [.d (.list (x70.map (el (D.int .i64))))], .cells [cI x71, cI x72, cI x73], VI x78.2.2]⟩ = some (outS (fun (s : Nat × Int × (List Int)) => ⟨[(1, (.one (.d (.int .u8 p2)))), (6, (Pt 0)), (7, (Pt 1)), (8, (LI x67)), (16, (.one (.own 2 0 s.1))), (17, (I s.2.1))], [.cells [.d (.list (x70.map (el (D.int .i64))))], .cells [cI x71, cI x72, cI x73], VI s.2.2]⟩) (fun (r : (Nat × (List Int))) => (.exit 2, ⟨[(1, (.one (.d (.int .u8 p2)))), (6, (Pt 0)), (7, (Pt 1)), (16, (.one (.own 2 0 r.1)))], [.cells [.d (.list (x70.map (el (D.int .i64))))], .cells [cI x71, cI x72, cI x73], VI r.2]⟩)) x) := by
 intro x78 x H
 unfold T_law23_StoreMoves_l2 at H
 refine K_in ?_
 refine K_seq (K_seq (K_r [.n x67.length] [((x67.map (D.int .i64))).length = x67.length] (by kernel_rfl) (A1 (List.length_map _)) ?_))
 rcases ite_some H with ⟨hx79, H⟩ | ⟨hx79, H⟩
 · refine K_t (by kernel_rfl) (decide_eq_true hx79) ?_
   refine K_g (by kernel_rfl) ?_
   refine K_skip ?_
   refine K_seq ?_
   refine K_block ?_
   obtain ⟨x80, hx80, H⟩ := bind_some' H
   obtain ⟨hx81, H⟩ := guard_some H
   refine K_r [.l [.int .i64 x80], .n 1, .l (((x78.2.2.drop 0).take x78.1 ++ ([(imax (-500) (imin 500 x80))] : List Int)).map (D.int .i64))] [(0 : Int) ≤ x78.2.1 ∧ x78.2.1 < (((x67.map (D.int .i64))).length : Int), ((x67.map (D.int .i64)).getD x78.2.1.toNat (.int .i64 0)).cells = [.int .i64 x80], (List.all (([(imax (-500) (imin 500 x80))] : List Int).map (D.int .i64)) fun d => d.cells.length == (D.cells (.int .i64 0)).length) = true, x78.1 + 1 ≤ LIM, (([(imax (-500) (imin 500 x80))] : List Int).map (D.int .i64)).length = 1, ((x78.2.2.map (D.int .i64)).drop 0).take x78.1 ++ (([(imax (-500) (imin 500 x80))] : List Int).map (D.int .i64)) = ((x78.2.2.drop 0).take x78.1 ++ ([(imax (-500) (imin 500 x80))] : List Int)).map (D.int .i64)] (by kernel_rfl) (AC (at_ok hx80 (D.int .i64) (.int .i64 0)).1 (AC (at_ok hx80 (D.int .i64) (.int .i64 0)).2 (AC (all_ok (D.int .i64) 1 ([(imax (-500) (imin 500 x80))] : List Int) (fun _ => rfl)) (AC hx81 (AC (by simp) (A1 (ap_map (D.int .i64) x78.2.2 ([(imax (-500) (imin 500 x80))] : List Int) 0 x78.1))))))) ?_
   refine K_blk (K_r [] [] (by kernel_rfl) trivial ?_)
   cases H
   exact K_end (by kernel_rfl)
 · refine K_f (by kernel_rfl) (decide_eq_false hx79) ?_
   refine K_g (by kernel_rfl) ?_
   cases H
   exact K_exit0 rfl (by kernel_rfl)
def T_law23_StoreMoves_l3 (k : Nat) (p2 : Int) (x85 : Int) (x86 : Nat) (x87 : Nat) (x89 : List (List Int)) (x90 : Int) (x91 : Int) (x92 : Int) (x94 : List (Int × Int × Int × Int)) (x98 : Int × (List Int)) : Option ((Int × (List Int)) ⊕ (((List Int)))) :=
 (if x98.1 < ((x86 : Nat) : Int) then (if (0 : Int) ≤ x98.1 ∧ x98.1 < ((x86 : Nat) : Int) then (x98.2[(0 + x98.1.toNat)]?).bind fun x101 => some (.inl ((w64 (x98.1 + 1)), (x98.2.set (0 + x98.1.toNat) (w64 (x101 + (w64 (p2))))))) else none) else some (.inr x98.2))
theorem T_law23_StoreMoves_l3_ok (k : Nat) (p2 : Int) (x85 : Int) (x86 : Nat) (x87 : Nat) (x89 : List (List Int)) (x90 : Int) (x91 : Int) (x92 : Int) (x94 : List (Int × Int × Int × Int)) : ∀ (x98 : Int × (List Int)) (x : (Int × (List Int)) ⊕ (((List Int)))), T_law23_StoreMoves_l3 k p2 x85 x86 x87 x89 x90 x91 x92 x94 x98 = some x → evC X (evF X k) k 0 l_law23_StoreMoves_3 ⟨[(1, (.one (.d (.int .u8 p2)))), (6, (Pt 0)), (7, (Pt 1)), (11, (I x85)), (16, (.one (.own 2 0 x86))), (18, (.one (.own 3 0 x87))), (19, (I x98.1))], [.cells [.d (.list (x89.map (el (D.int .i64))))], .cells [cI x90, cI x91, cI x92], VI x98.2, .vals (.agg [(.int .i64 0), (.int .i64 0), (.int .i64 0), (.int .i64 0)]) (x94.map e_st1)]⟩ = some (outS (fun (s : Int × (List Int)) => ⟨[(1, (.one (.d (.int .u8 p2)))), (6, (Pt 0)), (7, (Pt 1)), (11, (I x85)), (16, (.one (.own 2 0 x86))), (18, (.one (.own 3 0 x87))), (19, (I s.1))], [.cells [.d (.list (x89.map (el (D.int .i64))))], .cells [cI x90, cI x91, cI x92], VI s.2, .vals (.agg [(.int .i64 0), (.int .i64 0), (.int .i64 0), (.int .i64 0)]) (x94.map e_st1)]⟩) (fun (r : ((List Int))) => (.exit 4, ⟨[(6, (Pt 0)), (7, (Pt 1)), (11, (I x85)), (16, (.one (.own 2 0 x86))), (18, (.one (.own 3 0 x87)))], [.cells [.d (.list (x89.map (el (D.int .i64))))], .cells [cI x90, cI x91, cI x92], VI r, .vals (.agg [(.int .i64 0), (.int .i64 0), (.int .i64 0), (.int .i64 0)]) (x94.map e_st1)]⟩)) x) := by
 intro x98 x H
 unfold T_law23_StoreMoves_l3 at H
 refine K_in ?_
 refine K_seq (K_seq (K_r [] [] (by kernel_rfl) trivial ?_))
 rcases ite_some H with ⟨hx99, H⟩ | ⟨hx99, H⟩
 · refine K_t (by kernel_rfl) (decide_eq_true hx99) ?_
   refine K_g (by kernel_rfl) ?_
   refine K_skip ?_
   refine K_seq ?_
   refine K_block ?_
   obtain ⟨hx100, H⟩ := guard_some H
   obtain ⟨x101, hx101, H⟩ := bind_some' H
   refine K_r [.l [.int .i64 x101], .l ((x98.2.set (0 + x98.1.toNat) (w64 (x101 + (w64 (p2))))).map (D.int .i64))] [(0 : Int) ≤ x98.1 ∧ x98.1 < ((x86 : Nat) : Int), ((x98.2.map (D.int .i64)).getD (0 + x98.1.toNat) (.int .i64 0)).cells = [.int .i64 x101], (0 : Int) ≤ x98.1 ∧ x98.1 < ((x86 : Nat) : Int), (x98.2.map (D.int .i64)).set (0 + x98.1.toNat) (elemOf (.int .i64 0) (splice ((x98.2.map (D.int .i64)).getD (0 + x98.1.toNat) (.int .i64 0)).cells 0 [.int .i64 (w64 (x101 + (w64 (p2))))])) = (x98.2.set (0 + x98.1.toNat) (w64 (x101 + (w64 (p2))))).map (D.int .i64)] (by kernel_rfl) (AC hx100 (AC (ld_ok hx101 (D.int .i64) (.int .i64 0)) (AC hx100 (A1 (st_one x98.2 (0 + x98.1.toNat) (w64 (x101 + (w64 (p2)))) (D.int .i64) (.int .i64 0) rfl (fun _ => rfl) rfl))))) ?_
   refine K_blk (K_r [] [] (by kernel_rfl) trivial ?_)
   cases H
   exact K_end (by kernel_rfl)
 · refine K_f (by kernel_rfl) (decide_eq_false hx99) ?_
   refine K_g (by kernel_rfl) ?_
   cases H
   exact K_exit0 rfl (by kernel_rfl)
def T_law23_StoreMoves (k : Nat) (p1 : List Int) (p2 : Int) : Option Bool := match k with
 | 0 => none
 | k + 1 => ((T_shapesearchsecond_Few k p1).bind fun x1 => (if (!decide ((p1.length : Int) ≤ 400)) = true then ((T_law23_awake k).bind fun x3 => some x3) else (T_shapesearchsecond_New k p1).bind fun x4 => (T_shapesearchsecond_Deck_Store k 12 p1 0).bind fun x5 => (T_shapesearchsecond_Deck_Measure k 0 p1 x5.2).bind fun x6 => (T_shapesearchsecond_Deck_Length k p1 x6.2.2.2).bind fun x7 => (T_shapesearchsecond_Deck_Query k x5.1 x7.1 p1 x7.2).bind fun x8 => (if 0 + x5.1.length ≤ LIM then (T_shapesearchsecond_Deck_Next k 12 p1 x8.2).bind fun x10 => (T_shapesearchsecond_Deck_Values k x10.1 p1 x10.2).bind fun x11 => (if (0 + x5.1.length) + 1 ≤ LIM then (T_store_Hits k x5.1 x6.1 x6.2.1 x6.2.2.1 x8.1).bind fun x13 => (T_store_Hits k ((((((([] : List (List Int)).drop 0).take 0 ++ x5.1).drop 0).take (0 + x5.1.length) ++ ([x11.1] : List (List Int))).drop 0).take ((0 + x5.1.length) + 1)) x6.1 x6.2.1 x6.2.2.1 x8.1).bind fun x14 => (if ((!decide (x13.2.1 = 0)) || (!decide (x14.2.1 = 0))) = true then some false else ((loopT (T_law23_StoreMoves_l1 k p2 x8.1 x13.1 x14.1 x5.1 x6.1 x6.2.1 x6.2.2.1 x13.2.2 x14.2.2) k (0, 0)).bind fun x59 => (match x59 with | .inl x60 => (if ((!decide (x60 = ((x13.1 : Nat) : Int))) || ((!decide (x6.1 = 2)) && (!decide (x6.1 = 3)))) = true then (((if x60 = ((x13.1 : Nat) : Int) then ((T_law23_awake k).bind fun x64 => some x64) else some false)).bind fun x65 => some x65) else ((loopT (T_law23_StoreMoves_l2 k p2 x8.1 x5.1 x6.1 x6.2.1 x6.2.2.1) k (0, 0, [])).bind fun x82 => (T_store_Hits k x5.1 x6.1 x6.2.1 x6.2.2.1 ((x82.2.drop 0).take x82.1)).bind fun x83 => (loopT (T_law23_StoreMoves_l3 k p2 x83.2.1 x82.1 x83.1 x5.1 x6.1 x6.2.1 x6.2.2.1 x83.2.2) k (0, x82.2)).bind fun x102 => (T_store_Hits k x5.1 x6.1 x6.2.1 x6.2.2.1 ((x102.drop 0).take x82.1)).bind fun x103 => ((if (decide (x83.2.1 = 0) && decide (x103.2.1 = 0)) = true then ((T_ref23_Same k ((x83.2.2.drop 0).take x83.1) ((x103.2.2.drop 0).take x103.1)).bind fun x106 => (if x106 = true then ((T_law23_awake k).bind fun x109 => some x109) else some false)) else some false)).bind fun x110 => some x110)) | .inr x111 => some false))) else none) else none)))
abbrev C_T_law23_StoreMoves (k : Nat) (p1 : List Int) (p2 : Int) (r : Bool) : Prop := evF X k n_law23_StoreMoves [(LI p1), (.one (.d (.int .u8 p2)))] [] = some ((B r), [])
theorem T_law23_StoreMoves_ok (k : Nat) (p1 : List Int) (p2 : Int) (r : Bool) : T_law23_StoreMoves k p1 p2 = some r → C_T_law23_StoreMoves k p1 p2 r := by
 intro H
 cases k with
 | zero => simp [T_law23_StoreMoves] at H
 | succ k =>
  simp only [T_law23_StoreMoves] at H
  refine F_in X_law23_StoreMoves rfl ?_
  refine K_seq (K_r [] [] (by kernel_rfl) trivial ?_)
  refine K_seq ?_
  refine K_seq ?_
  obtain ⟨x1, hx1, H⟩ := bind_some' H
  refine K_r [.r (B (decide ((p1.length : Int) ≤ 400))) []] [C_T_shapesearchsecond_Few k p1 x1] (by kernel_rfl) (A1 (T_shapesearchsecond_Few_ok k p1 x1 hx1)) ?_
  rcases ite_some H with ⟨hx2, H⟩ | ⟨hx2, H⟩
  · refine K_t (by kernel_rfl) hx2 ?_
    refine K_seq ?_
    obtain ⟨x3, hx3, H⟩ := bind_some' H
    refine K_r [.r (B x3) []] [C_T_law23_awake k x3] (by kernel_rfl) (A1 (T_law23_awake_ok k x3 hx3)) ?_
    refine K_g (by kernel_rfl) ?_
    cases H
    refine K_ret ?_
    kernel_rfl
  · refine K_f (by kernel_rfl) (Bool.eq_false_iff.2 hx2) ?_
    refine K_g (by kernel_rfl) ?_
    refine K_skip ?_
    refine K_seq ?_
    obtain ⟨x4, hx4, H⟩ := bind_some' H
    refine K_r [.r (Pt 0) [.cells [cL p1, cI 0]]] [C_T_shapesearchsecond_New k p1 x4] (by kernel_rfl) (A1 (T_shapesearchsecond_New_ok k p1 x4 hx4)) ?_
    refine K_seq ?_
    obtain ⟨x5, hx5, H⟩ := bind_some' H
    refine K_r [.r (.agg [.d (.list (x5.1.map (el (D.int .i64))))]) [.cells [cL p1, cI x5.2]]] [C_T_shapesearchsecond_Deck_Store k 12 p1 0 x5] (by kernel_rfl) (A1 (T_shapesearchsecond_Deck_Store_ok k 12 p1 0 x5 hx5)) ?_
    refine K_seq ?_
    obtain ⟨x6, hx6, H⟩ := bind_some' H
    refine K_r [.r (.agg [cI x6.1, cI x6.2.1, cI x6.2.2.1]) [.cells [cL p1, cI x6.2.2.2]]] [C_T_shapesearchsecond_Deck_Measure k 0 p1 x5.2 x6] (by kernel_rfl) (A1 (T_shapesearchsecond_Deck_Measure_ok k 0 p1 x5.2 x6 hx6)) ?_
    refine K_seq ?_
    obtain ⟨x7, hx7, H⟩ := bind_some' H
    obtain ⟨x8, hx8, H⟩ := bind_some' H
    refine K_rI [.r (I x7.1) [.cells [cL p1, cI x7.2]], .r (LI x8.1) [.cells [cL p1, cI x8.2]]] [0, 1, 0, 1] ((fun (z1 : St) => [C_T_shapesearchsecond_Deck_Length k p1 x6.2.2.2 x7, C_T_shapesearchsecond_Deck_Query k x5.1 x7.1 p1 x7.2 x8, z1 = z1]) (⟨[(1, (.one (.d (.int .u8 p2)))), (5, (Pt 0)), (6, (Pt 1)), (7, (Pt 2)), (8, (LI x8.1))], [.cells [cL p1, cI x8.2], .cells [.d (.list (x5.1.map (el (D.int .i64))))], .cells [cI x6.1, cI x6.2.1, cI x6.2.2.1]]⟩)) [0, 1, 0, 1, 2] (by kernel_rfl) (AC (T_shapesearchsecond_Deck_Length_ok k p1 x6.2.2.2 x7 hx7) (AC (T_shapesearchsecond_Deck_Query_ok k x5.1 x7.1 p1 x7.2 x8 hx8) (A1 rfl))) ?_
    refine K_seq ?_
    obtain ⟨hx9, H⟩ := guard_some H
    obtain ⟨x10, hx10, H⟩ := bind_some' H
    obtain ⟨x11, hx11, H⟩ := bind_some' H
    obtain ⟨hx12, H⟩ := guard_some H
    refine K_r [.n x5.1.length, .l (((([] : List (List Int)).drop 0).take 0 ++ x5.1).map (el (D.int .i64))), .r (I x10.1) [.cells [cL p1, cI x10.2]], .r (LI x11.1) [.cells [cL p1, cI x11.2]], .n 1, .l (((((([] : List (List Int)).drop 0).take 0 ++ x5.1).drop 0).take (0 + x5.1.length) ++ ([x11.1] : List (List Int))).map (el (D.int .i64)))] [(List.all (x5.1.map (el (D.int .i64))) fun d => d.cells.length == (D.cells (.list [])).length) = true, 0 + x5.1.length ≤ LIM, (x5.1.map (el (D.int .i64))).length = x5.1.length, ((([] : List (List Int)).map (el (D.int .i64))).drop 0).take 0 ++ (x5.1.map (el (D.int .i64))) = ((([] : List (List Int)).drop 0).take 0 ++ x5.1).map (el (D.int .i64)), C_T_shapesearchsecond_Deck_Next k 12 p1 x8.2 x10, C_T_shapesearchsecond_Deck_Values k x10.1 p1 x10.2 x11, (List.all (([x11.1] : List (List Int)).map (el (D.int .i64))) fun d => d.cells.length == (D.cells (.list [])).length) = true, (0 + x5.1.length) + 1 ≤ LIM, (([x11.1] : List (List Int)).map (el (D.int .i64))).length = 1, ((((([] : List (List Int)).drop 0).take 0 ++ x5.1).map (el (D.int .i64))).drop 0).take (0 + x5.1.length) ++ (([x11.1] : List (List Int)).map (el (D.int .i64))) = ((((([] : List (List Int)).drop 0).take 0 ++ x5.1).drop 0).take (0 + x5.1.length) ++ ([x11.1] : List (List Int))).map (el (D.int .i64))] (by kernel_rfl) (AC (all_ok (el (D.int .i64)) 1 x5.1 (fun _ => rfl)) (AC hx9 (AC (by simp) (AC (ap_map (el (D.int .i64)) ([] : List (List Int)) x5.1 0 0) (AC (T_shapesearchsecond_Deck_Next_ok k 12 p1 x8.2 x10 hx10) (AC (T_shapesearchsecond_Deck_Values_ok k x10.1 p1 x10.2 x11 hx11) (AC (all_ok (el (D.int .i64)) 1 ([x11.1] : List (List Int)) (fun _ => rfl)) (AC hx12 (AC (by simp) (A1 (ap_map (el (D.int .i64)) ((([] : List (List Int)).drop 0).take 0 ++ x5.1) ([x11.1] : List (List Int)) 0 (0 + x5.1.length)))))))))))) ?_
    refine K_seq ?_
    obtain ⟨x13, hx13, H⟩ := bind_some' H
    refine K_r [.r (.tup [(false, [.own 0 0 x13.1]), (false, [cI x13.2.1])]) [.vals (.agg [(.int .i64 0), (.int .i64 0), (.int .i64 0), (.int .i64 0)]) (x13.2.2.map e_st1)]] [C_T_store_Hits k x5.1 x6.1 x6.2.1 x6.2.2.1 x8.1 x13, (List.all (x13.2.2.map e_st1) fun d => d.cells.all D.num) = true] (by kernel_rfl) (AC (T_store_Hits_ok k x5.1 x6.1 x6.2.1 x6.2.2.1 x8.1 x13 hx13) (A1 (nm_all e_st1 _ (fun _ => rfl)))) ?_
    refine K_seq ?_
    obtain ⟨x14, hx14, H⟩ := bind_some' H
    refine K_r [.l (((((((([] : List (List Int)).drop 0).take 0 ++ x5.1).drop 0).take (0 + x5.1.length) ++ ([x11.1] : List (List Int))).drop 0).take ((0 + x5.1.length) + 1)).map (el (D.int .i64))), .r (.tup [(false, [.own 0 0 x14.1]), (false, [cI x14.2.1])]) [.vals (.agg [(.int .i64 0), (.int .i64 0), (.int .i64 0), (.int .i64 0)]) (x14.2.2.map e_st1)]] [((((((([] : List (List Int)).drop 0).take 0 ++ x5.1).drop 0).take (0 + x5.1.length) ++ ([x11.1] : List (List Int))).map (el (D.int .i64))).drop 0).take ((0 + x5.1.length) + 1) = ((((((([] : List (List Int)).drop 0).take 0 ++ x5.1).drop 0).take (0 + x5.1.length) ++ ([x11.1] : List (List Int))).drop 0).take ((0 + x5.1.length) + 1)).map (el (D.int .i64)), C_T_store_Hits k ((((((([] : List (List Int)).drop 0).take 0 ++ x5.1).drop 0).take (0 + x5.1.length) ++ ([x11.1] : List (List Int))).drop 0).take ((0 + x5.1.length) + 1)) x6.1 x6.2.1 x6.2.2.1 x8.1 x14, (List.all (x14.2.2.map e_st1) fun d => d.cells.all D.num) = true] (by kernel_rfl) (AC (dt_map _ _ _ _) (AC (T_store_Hits_ok k ((((((([] : List (List Int)).drop 0).take 0 ++ x5.1).drop 0).take (0 + x5.1.length) ++ ([x11.1] : List (List Int))).drop 0).take ((0 + x5.1.length) + 1)) x6.1 x6.2.1 x6.2.2.1 x8.1 x14 hx14) (A1 (nm_all e_st1 _ (fun _ => rfl))))) ?_
    refine K_seq (K_seq (K_r [.m] ((fun (z1 : Heap) => [z1 = z1]) [.cells [.d (.list (x5.1.map (el (D.int .i64))))], .cells [cI x6.1, cI x6.2.1, cI x6.2.2.1], .vals (.agg [(.int .i64 0), (.int .i64 0), (.int .i64 0), (.int .i64 0)]) (x13.2.2.map e_st1), .vals (.agg [(.int .i64 0), (.int .i64 0), (.int .i64 0), (.int .i64 0)]) (x14.2.2.map e_st1)]) (by kernel_rfl) (A1 rfl) ?_))
    rcases ite_some H with ⟨hx15, H⟩ | ⟨hx15, H⟩
    · refine K_t (by kernel_rfl) hx15 ?_
      refine K_seq (K_r [] [] (by kernel_rfl) trivial ?_)
      refine K_g (by kernel_rfl) ?_
      cases H
      refine K_ret ?_
      kernel_rfl
    · refine K_f (by kernel_rfl) (Bool.eq_false_iff.2 hx15) ?_
      refine K_g (by kernel_rfl) ?_
      refine K_skip (K_seq (K_r [] [] (by kernel_rfl) trivial ?_))
      refine K_seq (K_seq (K_r [] [] (by kernel_rfl) trivial ?_))
      refine K_block (K_conv (σ' := ⟨[(1, (.one (.d (.int .u8 p2)))), (6, (Pt 0)), (7, (Pt 1)), (8, (LI x8.1)), (10, (.one (.own 2 0 x13.1))), (12, (.one (.own 3 0 x14.1))), (14, (I 0)), (15, (I 0))], [.cells [.d (.list (x5.1.map (el (D.int .i64))))], .cells [cI x6.1, cI x6.2.1, cI x6.2.2.1], .vals (.agg [(.int .i64 0), (.int .i64 0), (.int .i64 0), (.int .i64 0)]) (x13.2.2.map e_st1), .vals (.agg [(.int .i64 0), (.int .i64 0), (.int .i64 0), (.int .i64 0)]) (x14.2.2.map e_st1)]⟩) (by kernel_rfl) ?_)
      obtain ⟨x59, hx59, H⟩ := bind_some' H
      cases x59 with
      | inl x60 =>
       dsimp only at H
       refine K_loop ⟨[(1, (.one (.d (.int .u8 p2)))), (6, (Pt 0)), (7, (Pt 1)), (8, (LI x8.1)), (10, (.one (.own 2 0 x13.1))), (14, (I x60))], [.cells [.d (.list (x5.1.map (el (D.int .i64))))], .cells [cI x6.1, cI x6.2.1, cI x6.2.2.1], .vals (.agg [(.int .i64 0), (.int .i64 0), (.int .i64 0), (.int .i64 0)]) (x13.2.2.map e_st1)]⟩ (loop_ok (fun (s : Int × Int) => ⟨[(1, (.one (.d (.int .u8 p2)))), (6, (Pt 0)), (7, (Pt 1)), (8, (LI x8.1)), (10, (.one (.own 2 0 x13.1))), (12, (.one (.own 3 0 x14.1))), (14, (I s.1)), (15, (I s.2))], [.cells [.d (.list (x5.1.map (el (D.int .i64))))], .cells [cI x6.1, cI x6.2.1, cI x6.2.2.1], .vals (.agg [(.int .i64 0), (.int .i64 0), (.int .i64 0), (.int .i64 0)]) (x13.2.2.map e_st1), .vals (.agg [(.int .i64 0), (.int .i64 0), (.int .i64 0), (.int .i64 0)]) (x14.2.2.map e_st1)]⟩) (fun (r : Int ⊕ Unit) => Sum.elim (fun y => (.exit 0, ⟨[(1, (.one (.d (.int .u8 p2)))), (6, (Pt 0)), (7, (Pt 1)), (8, (LI x8.1)), (10, (.one (.own 2 0 x13.1))), (14, (I y))], [.cells [.d (.list (x5.1.map (el (D.int .i64))))], .cells [cI x6.1, cI x6.2.1, cI x6.2.2.1], .vals (.agg [(.int .i64 0), (.int .i64 0), (.int .i64 0), (.int .i64 0)]) (x13.2.2.map e_st1)]⟩)) (fun y => (.ret, ⟨[(4, (B false))], []⟩)) r) (fun r h => by cases r <;> cases h) (T_law23_StoreMoves_l1_ok k p2 x8.1 x13.1 x14.1 x5.1 x6.1 x6.2.1 x6.2.2.1 x13.2.2 x14.2.2) k (0, 0) (.inl x60) hx59) rfl ?_
       refine K_seq (K_seq (K_r [.m, .m] ((fun (z1 : Heap) => [(!decide (x60 = ((x13.1 : Nat) : Int))) = false → AllT [z1 = z1], z1 = z1]) [.cells [.d (.list (x5.1.map (el (D.int .i64))))], .cells [cI x6.1, cI x6.2.1, cI x6.2.2.1], .vals (.agg [(.int .i64 0), (.int .i64 0), (.int .i64 0), (.int .i64 0)]) (x13.2.2.map e_st1)]) (by kernel_rfl) (AC (fun _ => (A1 rfl)) (A1 rfl)) ?_))
       rcases ite_some H with ⟨hx61, H⟩ | ⟨hx61, H⟩
       · refine K_t (by kernel_rfl) hx61 ?_
         refine K_seq ?_
         obtain ⟨x65, hx65, H⟩ := bind_some' H
         refine K_of ⟨[(4, (B x65))], []⟩ ?_ ?_
         · clear H; have H := hx65; clear hx65; refine K_in ?_
           rcases ite_some H with ⟨hx63, H⟩ | ⟨hx63, H⟩
           · obtain ⟨x64, hx64, H⟩ := bind_some' H
             refine K_r [.b true, .r (B x64) []] [decide (x60 = ((x13.1 : Nat) : Int)) = true, C_T_law23_awake k x64] (by kernel_rfl) (AC (decide_eq_true hx63) (A1 (T_law23_awake_ok k x64 hx64))) ?_
             cases H
             exact K_end (by kernel_rfl)
           · refine K_r [.b false] [decide (x60 = ((x13.1 : Nat) : Int)) = false] (by kernel_rfl) (A1 (decide_eq_false hx63)) ?_
             cases H
             exact K_end (by kernel_rfl)
         refine K_g (by kernel_rfl) ?_
         cases H
         refine K_ret ?_
         kernel_rfl
       · refine K_f (by kernel_rfl) (Bool.eq_false_iff.2 hx61) ?_
         refine K_g (by kernel_rfl) ?_
         refine K_skip (K_seq (K_r [] [] (by kernel_rfl) trivial ?_))
         refine K_seq (K_seq (K_r [] [] (by kernel_rfl) trivial ?_))
         refine K_block (K_g (by kernel_rfl) ?_)
         refine K_conv (σ' := ⟨[(1, (.one (.d (.int .u8 p2)))), (6, (Pt 0)), (7, (Pt 1)), (8, (LI x8.1)), (16, (.one (.own 2 0 0))), (17, (I 0))], [.cells [.d (.list (x5.1.map (el (D.int .i64))))], .cells [cI x6.1, cI x6.2.1, cI x6.2.2.1], VI []]⟩) (by kernel_rfl) ?_
         obtain ⟨x82, hx82, H⟩ := bind_some' H
         refine K_loop ⟨[(1, (.one (.d (.int .u8 p2)))), (6, (Pt 0)), (7, (Pt 1)), (16, (.one (.own 2 0 x82.1)))], [.cells [.d (.list (x5.1.map (el (D.int .i64))))], .cells [cI x6.1, cI x6.2.1, cI x6.2.2.1], VI x82.2]⟩ (loop_ok (fun (s : Nat × Int × (List Int)) => ⟨[(1, (.one (.d (.int .u8 p2)))), (6, (Pt 0)), (7, (Pt 1)), (8, (LI x8.1)), (16, (.one (.own 2 0 s.1))), (17, (I s.2.1))], [.cells [.d (.list (x5.1.map (el (D.int .i64))))], .cells [cI x6.1, cI x6.2.1, cI x6.2.2.1], VI s.2.2]⟩) (fun (r : (Nat × (List Int))) => (.exit 2, ⟨[(1, (.one (.d (.int .u8 p2)))), (6, (Pt 0)), (7, (Pt 1)), (16, (.one (.own 2 0 r.1)))], [.cells [.d (.list (x5.1.map (el (D.int .i64))))], .cells [cI x6.1, cI x6.2.1, cI x6.2.2.1], VI r.2]⟩)) (fun r h => by cases h) (T_law23_StoreMoves_l2_ok k p2 x8.1 x5.1 x6.1 x6.2.1 x6.2.2.1) k (0, 0, []) x82 hx82) rfl ?_
         refine K_seq ?_
         obtain ⟨x83, hx83, H⟩ := bind_some' H
         refine K_r [.l (((x82.2.drop 0).take x82.1).map (D.int .i64)), .r (.tup [(false, [.own 0 0 x83.1]), (false, [cI x83.2.1])]) [.vals (.agg [(.int .i64 0), (.int .i64 0), (.int .i64 0), (.int .i64 0)]) (x83.2.2.map e_st1)]] [((x82.2.map (D.int .i64)).drop 0).take x82.1 = ((x82.2.drop 0).take x82.1).map (D.int .i64), C_T_store_Hits k x5.1 x6.1 x6.2.1 x6.2.2.1 ((x82.2.drop 0).take x82.1) x83, (List.all (x83.2.2.map e_st1) fun d => d.cells.all D.num) = true] (by kernel_rfl) (AC (dt_map _ _ _ _) (AC (T_store_Hits_ok k x5.1 x6.1 x6.2.1 x6.2.2.1 ((x82.2.drop 0).take x82.1) x83 hx83) (A1 (nm_all e_st1 _ (fun _ => rfl))))) ?_
         refine K_seq (K_seq (K_r [] [] (by kernel_rfl) trivial ?_))
         refine K_block (K_conv (σ' := ⟨[(1, (.one (.d (.int .u8 p2)))), (6, (Pt 0)), (7, (Pt 1)), (11, (I x83.2.1)), (16, (.one (.own 2 0 x82.1))), (18, (.one (.own 3 0 x83.1))), (19, (I 0))], [.cells [.d (.list (x5.1.map (el (D.int .i64))))], .cells [cI x6.1, cI x6.2.1, cI x6.2.2.1], VI x82.2, .vals (.agg [(.int .i64 0), (.int .i64 0), (.int .i64 0), (.int .i64 0)]) (x83.2.2.map e_st1)]⟩) (by kernel_rfl) ?_)
         obtain ⟨x102, hx102, H⟩ := bind_some' H
         refine K_loop ⟨[(6, (Pt 0)), (7, (Pt 1)), (11, (I x83.2.1)), (16, (.one (.own 2 0 x82.1))), (18, (.one (.own 3 0 x83.1)))], [.cells [.d (.list (x5.1.map (el (D.int .i64))))], .cells [cI x6.1, cI x6.2.1, cI x6.2.2.1], VI x102, .vals (.agg [(.int .i64 0), (.int .i64 0), (.int .i64 0), (.int .i64 0)]) (x83.2.2.map e_st1)]⟩ (loop_ok (fun (s : Int × (List Int)) => ⟨[(1, (.one (.d (.int .u8 p2)))), (6, (Pt 0)), (7, (Pt 1)), (11, (I x83.2.1)), (16, (.one (.own 2 0 x82.1))), (18, (.one (.own 3 0 x83.1))), (19, (I s.1))], [.cells [.d (.list (x5.1.map (el (D.int .i64))))], .cells [cI x6.1, cI x6.2.1, cI x6.2.2.1], VI s.2, .vals (.agg [(.int .i64 0), (.int .i64 0), (.int .i64 0), (.int .i64 0)]) (x83.2.2.map e_st1)]⟩) (fun (r : ((List Int))) => (.exit 4, ⟨[(6, (Pt 0)), (7, (Pt 1)), (11, (I x83.2.1)), (16, (.one (.own 2 0 x82.1))), (18, (.one (.own 3 0 x83.1)))], [.cells [.d (.list (x5.1.map (el (D.int .i64))))], .cells [cI x6.1, cI x6.2.1, cI x6.2.2.1], VI r, .vals (.agg [(.int .i64 0), (.int .i64 0), (.int .i64 0), (.int .i64 0)]) (x83.2.2.map e_st1)]⟩)) (fun r h => by cases h) (T_law23_StoreMoves_l3_ok k p2 x83.2.1 x82.1 x83.1 x5.1 x6.1 x6.2.1 x6.2.2.1 x83.2.2) k (0, x82.2) x102 hx102) rfl ?_
         refine K_seq ?_
         obtain ⟨x103, hx103, H⟩ := bind_some' H
         refine K_r [.l (((x102.drop 0).take x82.1).map (D.int .i64)), .r (.tup [(false, [.own 0 0 x103.1]), (false, [cI x103.2.1])]) [.vals (.agg [(.int .i64 0), (.int .i64 0), (.int .i64 0), (.int .i64 0)]) (x103.2.2.map e_st1)]] [((x102.map (D.int .i64)).drop 0).take x82.1 = ((x102.drop 0).take x82.1).map (D.int .i64), C_T_store_Hits k x5.1 x6.1 x6.2.1 x6.2.2.1 ((x102.drop 0).take x82.1) x103, (List.all (x103.2.2.map e_st1) fun d => d.cells.all D.num) = true] (by kernel_rfl) (AC (dt_map _ _ _ _) (AC (T_store_Hits_ok k x5.1 x6.1 x6.2.1 x6.2.2.1 ((x102.drop 0).take x82.1) x103 hx103) (A1 (nm_all e_st1 _ (fun _ => rfl))))) ?_
         refine K_seq ?_
         obtain ⟨x110, hx110, H⟩ := bind_some' H
         refine K_of ⟨[(4, (B x110))], []⟩ ?_ ?_
         · clear H; have H := hx110; clear hx110; refine K_in ?_
           rcases ite_some H with ⟨hx105, H⟩ | ⟨hx105, H⟩
           · obtain ⟨x106, hx106, H⟩ := bind_some' H
             rcases ite_some H with ⟨hx108, H⟩ | ⟨hx108, H⟩
             · obtain ⟨x109, hx109, H⟩ := bind_some' H
               refine K_r [.m, .b true, .l (((x83.2.2.drop 0).take x83.1).map e_st1), .l (((x103.2.2.drop 0).take x103.1).map e_st1), .r (B x106) [], .b true, .r (B x109) []] ((fun (z1 : Heap) => [z1 = z1, (decide (x83.2.1 = 0) && decide (x103.2.1 = 0)) = true, ((x83.2.2.map e_st1).drop 0).take x83.1 = ((x83.2.2.drop 0).take x83.1).map e_st1, ((x103.2.2.map e_st1).drop 0).take x103.1 = ((x103.2.2.drop 0).take x103.1).map e_st1, C_T_ref23_Same k ((x83.2.2.drop 0).take x83.1) ((x103.2.2.drop 0).take x103.1) x106, x106 = true, C_T_law23_awake k x109]) [.vals (.agg [(.int .i64 0), (.int .i64 0), (.int .i64 0), (.int .i64 0)]) (x83.2.2.map e_st1), .vals (.agg [(.int .i64 0), (.int .i64 0), (.int .i64 0), (.int .i64 0)]) (x103.2.2.map e_st1)]) (by kernel_rfl) (AC rfl (AC hx105 (AC (dt_map _ _ _ _) (AC (dt_map _ _ _ _) (AC (T_ref23_Same_ok k ((x83.2.2.drop 0).take x83.1) ((x103.2.2.drop 0).take x103.1) x106 hx106) (AC hx108 (A1 (T_law23_awake_ok k x109 hx109)))))))) ?_
               cases H
               exact K_end (by kernel_rfl)
             · refine K_r [.m, .b true, .l (((x83.2.2.drop 0).take x83.1).map e_st1), .l (((x103.2.2.drop 0).take x103.1).map e_st1), .r (B x106) [], .b false] ((fun (z1 : Heap) => [z1 = z1, (decide (x83.2.1 = 0) && decide (x103.2.1 = 0)) = true, ((x83.2.2.map e_st1).drop 0).take x83.1 = ((x83.2.2.drop 0).take x83.1).map e_st1, ((x103.2.2.map e_st1).drop 0).take x103.1 = ((x103.2.2.drop 0).take x103.1).map e_st1, C_T_ref23_Same k ((x83.2.2.drop 0).take x83.1) ((x103.2.2.drop 0).take x103.1) x106, x106 = false]) [.vals (.agg [(.int .i64 0), (.int .i64 0), (.int .i64 0), (.int .i64 0)]) (x83.2.2.map e_st1), .vals (.agg [(.int .i64 0), (.int .i64 0), (.int .i64 0), (.int .i64 0)]) (x103.2.2.map e_st1)]) (by kernel_rfl) (AC rfl (AC hx105 (AC (dt_map _ _ _ _) (AC (dt_map _ _ _ _) (AC (T_ref23_Same_ok k ((x83.2.2.drop 0).take x83.1) ((x103.2.2.drop 0).take x103.1) x106 hx106) (A1 (Bool.eq_false_iff.2 hx108))))))) ?_
               cases H
               exact K_end (by kernel_rfl)
           · refine K_r [.m, .b false, .b false] ((fun (z1 : Heap) => [z1 = z1, (decide (x83.2.1 = 0) && decide (x103.2.1 = 0)) = false, false = false]) [.vals (.agg [(.int .i64 0), (.int .i64 0), (.int .i64 0), (.int .i64 0)]) (x83.2.2.map e_st1), .vals (.agg [(.int .i64 0), (.int .i64 0), (.int .i64 0), (.int .i64 0)]) (x103.2.2.map e_st1)]) (by kernel_rfl) (AC rfl (AC (Bool.eq_false_iff.2 hx105) (A1 rfl))) ?_
             cases H
             exact K_end (by kernel_rfl)
         refine K_g (by kernel_rfl) ?_
         cases H
         refine K_ret ?_
         kernel_rfl
      | inr x111 =>
       dsimp only at H
       cases H
       refine K_loopr ⟨[(4, (B false))], []⟩ (loop_ok (fun (s : Int × Int) => ⟨[(1, (.one (.d (.int .u8 p2)))), (6, (Pt 0)), (7, (Pt 1)), (8, (LI x8.1)), (10, (.one (.own 2 0 x13.1))), (12, (.one (.own 3 0 x14.1))), (14, (I s.1)), (15, (I s.2))], [.cells [.d (.list (x5.1.map (el (D.int .i64))))], .cells [cI x6.1, cI x6.2.1, cI x6.2.2.1], .vals (.agg [(.int .i64 0), (.int .i64 0), (.int .i64 0), (.int .i64 0)]) (x13.2.2.map e_st1), .vals (.agg [(.int .i64 0), (.int .i64 0), (.int .i64 0), (.int .i64 0)]) (x14.2.2.map e_st1)]⟩) (fun (r : Int ⊕ Unit) => Sum.elim (fun y => (.exit 0, ⟨[(1, (.one (.d (.int .u8 p2)))), (6, (Pt 0)), (7, (Pt 1)), (8, (LI x8.1)), (10, (.one (.own 2 0 x13.1))), (14, (I y))], [.cells [.d (.list (x5.1.map (el (D.int .i64))))], .cells [cI x6.1, cI x6.2.1, cI x6.2.2.1], .vals (.agg [(.int .i64 0), (.int .i64 0), (.int .i64 0), (.int .i64 0)]) (x13.2.2.map e_st1)]⟩)) (fun y => (.ret, ⟨[(4, (B false))], []⟩)) r) (fun r h => by cases r <;> cases h) (T_law23_StoreMoves_l1_ok k p2 x8.1 x13.1 x14.1 x5.1 x6.1 x6.2.1 x6.2.2.1 x13.2.2 x14.2.2) k (0, 0) (.inr x111) hx59) ?_
       kernel_rfl
end Go.Proofs.Ytkeddnagijjbaaa.storeMoves
