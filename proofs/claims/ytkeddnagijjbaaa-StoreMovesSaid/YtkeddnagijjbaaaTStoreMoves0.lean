/- What the functions that the statement StoreMoves reaches compute, told as functions of Lean, and that the theory's language computes the same: part 1 of 2. There are no conditions. -/
import Derived.Test.YtkeddnagijjbaaaMStoreMoves
set_option maxRecDepth 100000
set_option linter.unusedVariables false
set_option linter.unusedSimpArgs false
namespace Go.Proofs.Ytkeddnagijjbaaa.storeMoves
open Go
abbrev e_st0 (p : Int × Int) : D := .agg [.int .i64 p.1, .int .i64 p.2]
abbrev e_st1 (p : Int × Int × Int × Int) : D := .agg [.int .i64 p.1, .int .i64 p.2.1, .int .i64 p.2.2.1, .int .i64 p.2.2.2]
def T_shapesearchsecond_Few (k : Nat) (p1 : List Int) : Option Unit := match k with
 | 0 => none
 | k + 1 => some ()
abbrev C_T_shapesearchsecond_Few (k : Nat) (p1 : List Int) (r : Unit) : Prop := evF X k n_shapesearchsecond_Few [(LI p1)] [] = some ((B (decide ((p1.length : Int) ≤ 400))), [])
theorem T_shapesearchsecond_Few_ok (k : Nat) (p1 : List Int) (r : Unit) : T_shapesearchsecond_Few k p1 = some r → C_T_shapesearchsecond_Few k p1 r := by
 intro H
 cases k with
 | zero => simp [T_shapesearchsecond_Few] at H
 | succ k =>
  simp only [T_shapesearchsecond_Few] at H
  refine F_in X_shapesearchsecond_Few rfl ?_
  refine K_seq (K_r [] [] (by kernel_rfl) trivial ?_)
  refine K_seq (K_r [.n p1.length] [((p1.map (D.int .i64))).length = p1.length] (by kernel_rfl) (A1 (List.length_map _)) ?_)
  refine K_g (by kernel_rfl) ?_
  cases H
  refine K_ret ?_
  kernel_rfl
def T_store_sample (k : Nat) (p1 : Int) : Option Unit := match k with
 | 0 => none
 | k + 1 => some ()
abbrev C_T_store_sample (k : Nat) (p1 : Int) (r : Unit) : Prop := evF X k n_store_sample [(I p1)] [] = some ((B (decide ((-1000) ≤ p1) && decide (p1 ≤ 1000))), [])
theorem T_store_sample_ok (k : Nat) (p1 : Int) (r : Unit) : T_store_sample k p1 = some r → C_T_store_sample k p1 r := by
 intro H
 cases k with
 | zero => simp [T_store_sample] at H
 | succ k =>
  simp only [T_store_sample] at H
  refine F_in X_store_sample rfl ?_
  refine K_seq (K_r [] [] (by kernel_rfl) trivial ?_)
  refine K_seq (K_r [.m] [([] : Heap) = []] (by kernel_rfl) (A1 rfl) ?_)
  refine K_g (by kernel_rfl) ?_
  cases H
  refine K_ret ?_
  kernel_rfl
def T_store_Check_1 (k : Nat) (p1 : Int) : Option Bool := match k with
 | 0 => none
 | k + 1 => (((if (!decide (p1 = 1073741824)) = true then ((T_store_sample k p1).bind fun x3 => some (!(decide ((-1000) ≤ p1) && decide (p1 ≤ 1000)))) else some false)).bind fun x4 => some x4)
abbrev C_T_store_Check_1 (k : Nat) (p1 : Int) (r : Bool) : Prop := evF X k n_store_Check_1 [(I p1)] [] = some ((B r), [])
theorem T_store_Check_1_ok (k : Nat) (p1 : Int) (r : Bool) : T_store_Check_1 k p1 = some r → C_T_store_Check_1 k p1 r := by
 intro H
 cases k with
 | zero => simp [T_store_Check_1] at H
 | succ k =>
  simp only [T_store_Check_1] at H
  refine F_in X_store_Check_1 rfl ?_
  refine K_seq (K_r [] [] (by kernel_rfl) trivial ?_)
  refine K_seq ?_
  obtain ⟨x4, hx4, H⟩ := bind_some' H
  refine K_of ⟨[(2, (B x4))], []⟩ ?_ ?_
  · clear H; have H := hx4; clear hx4; refine K_in ?_
    rcases ite_some H with ⟨hx2, H⟩ | ⟨hx2, H⟩
    · obtain ⟨x3, hx3, H⟩ := bind_some' H
      refine K_r [.b true, .r (B (decide ((-1000) ≤ p1) && decide (p1 ≤ 1000))) []] [(!decide (p1 = 1073741824)) = true, C_T_store_sample k p1 x3] (by kernel_rfl) (AC hx2 (A1 (T_store_sample_ok k p1 x3 hx3))) ?_
      cases H
      exact K_end (by kernel_rfl)
    · refine K_r [.b false] [(!decide (p1 = 1073741824)) = false] (by kernel_rfl) (A1 (Bool.eq_false_iff.2 hx2)) ?_
      cases H
      exact K_end (by kernel_rfl)
  refine K_g (by kernel_rfl) ?_
  cases H
  refine K_ret ?_
  kernel_rfl
def T_slices_IndexFunc_b354_l1 (k : Nat) (p1 : List Int) (x2 : Int) (x8 : Int) : Option (Int ⊕ (Unit ⊕ Int)) :=
 (if x8 < x2 then ((at? p1 x8).bind fun x10 => (T_store_Check_1 k x10).bind fun x11 => (if x11 = true then some (.inr (.inr x8)) else some (.inl (w64 (x8 + 1))))) else some (.inr (.inl ())))
theorem T_slices_IndexFunc_b354_l1_ok (k : Nat) (p1 : List Int) (x2 : Int) : ∀ (x8 : Int) (x : Int ⊕ (Unit ⊕ Int)), T_slices_IndexFunc_b354_l1 k p1 x2 x8 = some x → evC X (evF X k) k 0 l_slices_IndexFunc_b354_1 ⟨[(0, (LI p1)), (1, (.one (.fn (.func n_store_Check_1) []))), (7, (I x2)), (8, (I x8))], []⟩ = some (outS (fun (s : Int) => ⟨[(0, (LI p1)), (1, (.one (.fn (.func n_store_Check_1) []))), (7, (I x2)), (8, (I s))], []⟩) (fun (r : Unit ⊕ Int) => Sum.elim (fun y => (.exit 0, ⟨[], []⟩)) (fun y => (.ret, ⟨[(4, (I y))], []⟩)) r) x) := by
 intro x8 x H
 unfold T_slices_IndexFunc_b354_l1 at H
 refine K_in ?_
 refine K_seq (K_r [] [] (by kernel_rfl) trivial ?_)
 refine K_seq ?_
 rcases ite_some H with ⟨hx9, H⟩ | ⟨hx9, H⟩
 · refine K_t (by kernel_rfl) (decide_eq_true hx9) ?_
   refine K_g (by kernel_rfl) ?_
   refine K_skip (K_seq (K_block (K_seq (K_r [] [] (by kernel_rfl) trivial ?_))))
   refine K_seq ?_
   obtain ⟨x10, hx10, H⟩ := bind_some' H
   obtain ⟨x11, hx11, H⟩ := bind_some' H
   refine K_r [.l [.int .i64 x10], .r (B x11) []] [(0 : Int) ≤ x8 ∧ x8 < (((p1.map (D.int .i64))).length : Int), ((p1.map (D.int .i64)).getD x8.toNat (.int .i64 0)).cells = [.int .i64 x10], C_T_store_Check_1 k x10 x11] (by kernel_rfl) (AC (at_ok hx10 (D.int .i64) (.int .i64 0)).1 (AC (at_ok hx10 (D.int .i64) (.int .i64 0)).2 (A1 (T_store_Check_1_ok k x10 x11 hx11)))) ?_
   rcases ite_some H with ⟨hx12, H⟩ | ⟨hx12, H⟩
   · refine K_t (by kernel_rfl) hx12 ?_
     refine K_seq (K_r [] [] (by kernel_rfl) trivial ?_)
     refine K_g (by kernel_rfl) ?_
     cases H
     exact K_ret (by kernel_rfl)
   · refine K_f (by kernel_rfl) (Bool.eq_false_iff.2 hx12) ?_
     refine K_g (by kernel_rfl) ?_
     refine K_skip (K_blk (K_r [] [] (by kernel_rfl) trivial ?_))
     cases H
     exact K_end (by kernel_rfl)
 · refine K_f (by kernel_rfl) (decide_eq_false hx9) ?_
   refine K_g (by kernel_rfl) ?_
   cases H
   exact K_exit0 rfl (by kernel_rfl)
def T_slices_IndexFunc_b354 (k : Nat) (p1 : List Int) : Option Int := match k with
 | 0 => none
 | k + 1 => ((loopT (T_slices_IndexFunc_b354_l1 k p1 (p1.length : Int)) k 0).bind fun x13 => (match x13 with | .inl x14 => some (-1) | .inr x15 => some x15))
abbrev C_T_slices_IndexFunc_b354 (k : Nat) (p1 : List Int) (r : Int) : Prop := evF X k n_slices_IndexFunc_b354 [(LI p1), (.one (.fn (.func n_store_Check_1) []))] [] = some ((I r), [])
theorem T_slices_IndexFunc_b354_ok (k : Nat) (p1 : List Int) (r : Int) : T_slices_IndexFunc_b354 k p1 = some r → C_T_slices_IndexFunc_b354 k p1 r := by
 intro H
 cases k with
 | zero => simp [T_slices_IndexFunc_b354] at H
 | succ k =>
  simp only [T_slices_IndexFunc_b354] at H
  refine F_in X_slices_IndexFunc_b354 rfl ?_
  refine K_seq (K_r [] [] (by kernel_rfl) trivial ?_)
  refine K_seq (K_seq (K_r [.n p1.length] [((p1.map (D.int .i64))).length = p1.length] (by kernel_rfl) (A1 (List.length_map _)) ?_))
  refine K_block (K_conv (σ' := ⟨[(0, (LI p1)), (1, (.one (.fn (.func n_store_Check_1) []))), (7, (I (p1.length : Int))), (8, (I 0))], []⟩) (by kernel_rfl) ?_)
  obtain ⟨x13, hx13, H⟩ := bind_some' H
  cases x13 with
  | inl x14 =>
   dsimp only at H
   refine K_loop ⟨[], []⟩ (loop_ok (fun (s : Int) => ⟨[(0, (LI p1)), (1, (.one (.fn (.func n_store_Check_1) []))), (7, (I (p1.length : Int))), (8, (I s))], []⟩) (fun (r : Unit ⊕ Int) => Sum.elim (fun y => (.exit 0, ⟨[], []⟩)) (fun y => (.ret, ⟨[(4, (I y))], []⟩)) r) (fun r h => by cases r <;> cases h) (T_slices_IndexFunc_b354_l1_ok k p1 (p1.length : Int)) k 0 (.inl x14) hx13) rfl ?_
   refine K_seq (K_r [] [] (by kernel_rfl) trivial ?_)
   refine K_g (by kernel_rfl) ?_
   cases H
   refine K_ret ?_
   kernel_rfl
  | inr x15 =>
   dsimp only at H
   have H := Option.some.inj H; subst H
   refine K_loopr ⟨[(4, (I x15))], []⟩ (loop_ok (fun (s : Int) => ⟨[(0, (LI p1)), (1, (.one (.fn (.func n_store_Check_1) []))), (7, (I (p1.length : Int))), (8, (I s))], []⟩) (fun (r : Unit ⊕ Int) => Sum.elim (fun y => (.exit 0, ⟨[], []⟩)) (fun y => (.ret, ⟨[(4, (I y))], []⟩)) r) (fun r h => by cases r <;> cases h) (T_slices_IndexFunc_b354_l1_ok k p1 (p1.length : Int)) k 0 (.inr x15) hx13) ?_
   kernel_rfl
def T_slices_ContainsFunc_b354 (k : Nat) (p1 : List Int) : Option Bool := match k with
 | 0 => none
 | k + 1 => ((T_slices_IndexFunc_b354 k p1).bind fun x1 => some (decide (0 ≤ x1)))
abbrev C_T_slices_ContainsFunc_b354 (k : Nat) (p1 : List Int) (r : Bool) : Prop := evF X k n_slices_ContainsFunc_b354 [(LI p1), (.one (.fn (.func n_store_Check_1) []))] [] = some ((B r), [])
theorem T_slices_ContainsFunc_b354_ok (k : Nat) (p1 : List Int) (r : Bool) : T_slices_ContainsFunc_b354 k p1 = some r → C_T_slices_ContainsFunc_b354 k p1 r := by
 intro H
 cases k with
 | zero => simp [T_slices_ContainsFunc_b354] at H
 | succ k =>
  simp only [T_slices_ContainsFunc_b354] at H
  refine F_in X_slices_ContainsFunc_b354 rfl ?_
  refine K_seq (K_r [] [] (by kernel_rfl) trivial ?_)
  refine K_seq ?_
  obtain ⟨x1, hx1, H⟩ := bind_some' H
  refine K_r [.r (I x1) []] [C_T_slices_IndexFunc_b354 k p1 x1] (by kernel_rfl) (A1 (T_slices_IndexFunc_b354_ok k p1 x1 hx1)) ?_
  refine K_g (by kernel_rfl) ?_
  cases H
  refine K_ret ?_
  kernel_rfl
def T_store_Check_l1 (k : Nat) (p1 : List (List Int)) (x3 : Int) (x8 : Int × Int) : Option ((Int × Int) ⊕ Int) :=
 (if x8.2 < x3 then ((at? p1 x8.2).bind fun x10 => some (.inl ((w64 (x8.1 + (x10.length : Int))), (w64 (x8.2 + 1))))) else some (.inr x8.1))
theorem T_store_Check_l1_ok (k : Nat) (p1 : List (List Int)) (x3 : Int) : ∀ (x8 : Int × Int) (x : (Int × Int) ⊕ Int), T_store_Check_l1 k p1 x3 x8 = some x → evC X (evF X k) k 0 l_store_Check_1 ⟨[(1, (Pt 0)), (3, (I x8.1)), (9, (.one (.d (.list (p1.map (el (D.int .i64))))))), (10, (I x3)), (11, (I x8.2))], [.cells [.d (.list (p1.map (el (D.int .i64))))]]⟩ = some (outS (fun (s : Int × Int) => ⟨[(1, (Pt 0)), (3, (I s.1)), (9, (.one (.d (.list (p1.map (el (D.int .i64))))))), (10, (I x3)), (11, (I s.2))], [.cells [.d (.list (p1.map (el (D.int .i64))))]]⟩) (fun (r : Int) => (.exit 0, ⟨[(1, (Pt 0)), (3, (I r))], [.cells [.d (.list (p1.map (el (D.int .i64))))]]⟩)) x) := by
 intro x8 x H
 unfold T_store_Check_l1 at H
 refine K_in ?_
 refine K_seq (K_r [] [] (by kernel_rfl) trivial ?_)
 refine K_seq ?_
 rcases ite_some H with ⟨hx9, H⟩ | ⟨hx9, H⟩
 · refine K_t (by kernel_rfl) (decide_eq_true hx9) ?_
   refine K_g (by kernel_rfl) ?_
   refine K_skip ?_
   refine K_seq ?_
   refine K_block ?_
   refine K_seq ?_
   obtain ⟨x10, hx10, H⟩ := bind_some' H
   refine K_r [.l [.list (x10.map (D.int .i64))]] [(0 : Int) ≤ x8.2 ∧ x8.2 < (((p1.map (el (D.int .i64)))).length : Int), ((p1.map (el (D.int .i64))).getD x8.2.toNat (.list [])).cells = [.list (x10.map (D.int .i64))]] (by kernel_rfl) (AC (at_ok hx10 (el (D.int .i64)) (.list [])).1 (A1 (at_ok hx10 (el (D.int .i64)) (.list [])).2)) ?_
   refine K_r [.n x10.length] [((x10.map (D.int .i64))).length = x10.length] (by kernel_rfl) (A1 (List.length_map _)) ?_
   refine K_blk (K_r [] [] (by kernel_rfl) trivial ?_)
   cases H
   exact K_end (by kernel_rfl)
 · refine K_f (by kernel_rfl) (decide_eq_false hx9) ?_
   refine K_g (by kernel_rfl) ?_
   cases H
   exact K_exit0 rfl (by kernel_rfl)
def T_store_Check_l2 (k : Nat) (p1 : List (List Int)) (x14 : Int) (x20 : Int) : Option (Int ⊕ (Unit ⊕ Unit)) :=
 (if x20 < x14 then ((at? p1 x20).bind fun x22 => (T_slices_ContainsFunc_b354 k x22).bind fun x23 => (if x23 = true then some (.inr (.inr ())) else some (.inl (w64 (x20 + 1))))) else some (.inr (.inl ())))
theorem T_store_Check_l2_ok (k : Nat) (p1 : List (List Int)) (x14 : Int) : ∀ (x20 : Int) (x : Int ⊕ (Unit ⊕ Unit)), T_store_Check_l2 k p1 x14 x20 = some x → evC X (evF X k) k 0 l_store_Check_2 ⟨[(29, (.one (.d (.list (p1.map (el (D.int .i64))))))), (30, (I x14)), (31, (I x20))], []⟩ = some (outS (fun (s : Int) => ⟨[(29, (.one (.d (.list (p1.map (el (D.int .i64))))))), (30, (I x14)), (31, (I s))], []⟩) (fun (r : Unit ⊕ Unit) => Sum.elim (fun y => (.exit 2, ⟨[], []⟩)) (fun y => (.ret, ⟨[(2, (I 12))], []⟩)) r) x) := by
 intro x20 x H
 unfold T_store_Check_l2 at H
 refine K_in ?_
 refine K_seq (K_r [] [] (by kernel_rfl) trivial ?_)
 refine K_seq ?_
 rcases ite_some H with ⟨hx21, H⟩ | ⟨hx21, H⟩
 · refine K_t (by kernel_rfl) (decide_eq_true hx21) ?_
   refine K_g (by kernel_rfl) ?_
   refine K_skip ?_
   refine K_seq ?_
   refine K_block ?_
   refine K_seq ?_
   obtain ⟨x22, hx22, H⟩ := bind_some' H
   refine K_r [.l [.list (x22.map (D.int .i64))]] [(0 : Int) ≤ x20 ∧ x20 < (((p1.map (el (D.int .i64)))).length : Int), ((p1.map (el (D.int .i64))).getD x20.toNat (.list [])).cells = [.list (x22.map (D.int .i64))]] (by kernel_rfl) (AC (at_ok hx22 (el (D.int .i64)) (.list [])).1 (A1 (at_ok hx22 (el (D.int .i64)) (.list [])).2)) ?_
   refine K_seq ?_
   obtain ⟨x23, hx23, H⟩ := bind_some' H
   refine K_r [.r (B x23) []] [C_T_slices_ContainsFunc_b354 k x22 x23] (by kernel_rfl) (A1 (T_slices_ContainsFunc_b354_ok k x22 x23 hx23)) ?_
   rcases ite_some H with ⟨hx24, H⟩ | ⟨hx24, H⟩
   · refine K_t (by kernel_rfl) hx24 ?_
     refine K_seq (K_r [] [] (by kernel_rfl) trivial ?_)
     refine K_g (by kernel_rfl) ?_
     cases H
     exact K_ret (by kernel_rfl)
   · refine K_f (by kernel_rfl) (Bool.eq_false_iff.2 hx24) ?_
     refine K_g (by kernel_rfl) ?_
     refine K_skip (K_blk (K_r [] [] (by kernel_rfl) trivial ?_))
     cases H
     exact K_end (by kernel_rfl)
 · refine K_f (by kernel_rfl) (decide_eq_false hx21) ?_
   refine K_g (by kernel_rfl) ?_
   cases H
   exact K_exit0 rfl (by kernel_rfl)
def T_store_Check (k : Nat) (p1 : List (List Int)) : Option Int := match k with
 | 0 => none
 | k + 1 => ((loopT (T_store_Check_l1 k p1 (p1.length : Int)) k (0, 0)).bind fun x11 => (if (decide (16 < (p1.length : Int)) || decide (2000 < x11)) = true then some 20 else ((loopT (T_store_Check_l2 k p1 (p1.length : Int)) k 0).bind fun x25 => (match x25 with | .inl x26 => some 0 | .inr x27 => some 12))))
abbrev C_T_store_Check (k : Nat) (p1 : List (List Int)) (r : Int) : Prop := evF X k n_store_Check [(.agg [.d (.list (p1.map (el (D.int .i64))))])] [] = some ((I r), [])
theorem T_store_Check_ok (k : Nat) (p1 : List (List Int)) (r : Int) : T_store_Check k p1 = some r → C_T_store_Check k p1 r := by
 intro H
 cases k with
 | zero => simp [T_store_Check] at H
 | succ k =>
  simp only [T_store_Check] at H
  refine F_in X_store_Check rfl ?_
  refine K_seq (K_r [] [] (by kernel_rfl) trivial ?_)
  refine K_seq (K_r [] [] (by kernel_rfl) trivial ?_)
  refine K_seq (K_seq (K_r [.n p1.length] [((p1.map (el (D.int .i64)))).length = p1.length] (by kernel_rfl) (A1 (List.length_map _)) ?_))
  refine K_block (K_conv (σ' := ⟨[(1, (Pt 0)), (3, (I 0)), (9, (.one (.d (.list (p1.map (el (D.int .i64))))))), (10, (I (p1.length : Int))), (11, (I 0))], [.cells [.d (.list (p1.map (el (D.int .i64))))]]⟩) (by kernel_rfl) ?_)
  obtain ⟨x11, hx11, H⟩ := bind_some' H
  refine K_loop ⟨[(1, (Pt 0)), (3, (I x11))], [.cells [.d (.list (p1.map (el (D.int .i64))))]]⟩ (loop_ok (fun (s : Int × Int) => ⟨[(1, (Pt 0)), (3, (I s.1)), (9, (.one (.d (.list (p1.map (el (D.int .i64))))))), (10, (I (p1.length : Int))), (11, (I s.2))], [.cells [.d (.list (p1.map (el (D.int .i64))))]]⟩) (fun (r : Int) => (.exit 0, ⟨[(1, (Pt 0)), (3, (I r))], [.cells [.d (.list (p1.map (el (D.int .i64))))]]⟩)) (fun r h => by cases h) (T_store_Check_l1_ok k p1 (p1.length : Int)) k (0, 0) x11 hx11) rfl ?_
  refine K_seq (K_seq (K_r [.n p1.length, .m] ((fun (z1 : Heap) => [((p1.map (el (D.int .i64)))).length = p1.length, z1 = z1]) [.cells [.d (.list (p1.map (el (D.int .i64))))]]) (by kernel_rfl) (AC (List.length_map _) (A1 rfl)) ?_))
  rcases ite_some H with ⟨hx12, H⟩ | ⟨hx12, H⟩
  · refine K_t (by kernel_rfl) hx12 ?_
    refine K_seq (K_r [] [] (by kernel_rfl) trivial ?_)
    refine K_g (by kernel_rfl) ?_
    cases H
    refine K_ret ?_
    kernel_rfl
  · refine K_f (by kernel_rfl) (Bool.eq_false_iff.2 hx12) ?_
    refine K_g (by kernel_rfl) ?_
    refine K_skip (K_seq (K_seq (K_r [.n p1.length] [((p1.map (el (D.int .i64)))).length = p1.length] (by kernel_rfl) (A1 (List.length_map _)) ?_)))
    refine K_block (K_conv (σ' := ⟨[(29, (.one (.d (.list (p1.map (el (D.int .i64))))))), (30, (I (p1.length : Int))), (31, (I 0))], []⟩) (by kernel_rfl) ?_)
    obtain ⟨x25, hx25, H⟩ := bind_some' H
    cases x25 with
    | inl x26 =>
     dsimp only at H
     refine K_loop ⟨[], []⟩ (loop_ok (fun (s : Int) => ⟨[(29, (.one (.d (.list (p1.map (el (D.int .i64))))))), (30, (I (p1.length : Int))), (31, (I s))], []⟩) (fun (r : Unit ⊕ Unit) => Sum.elim (fun y => (.exit 2, ⟨[], []⟩)) (fun y => (.ret, ⟨[(2, (I 12))], []⟩)) r) (fun r h => by cases r <;> cases h) (T_store_Check_l2_ok k p1 (p1.length : Int)) k 0 (.inl x26) hx25) rfl ?_
     refine K_seq (K_r [] [] (by kernel_rfl) trivial ?_)
     refine K_g (by kernel_rfl) ?_
     cases H
     refine K_ret ?_
     kernel_rfl
    | inr x27 =>
     dsimp only at H
     cases H
     refine K_loopr ⟨[(2, (I 12))], []⟩ (loop_ok (fun (s : Int) => ⟨[(29, (.one (.d (.list (p1.map (el (D.int .i64))))))), (30, (I (p1.length : Int))), (31, (I s))], []⟩) (fun (r : Unit ⊕ Unit) => Sum.elim (fun y => (.exit 2, ⟨[], []⟩)) (fun y => (.ret, ⟨[(2, (I 12))], []⟩)) r) (fun r h => by cases r <;> cases h) (T_store_Check_l2_ok k p1 (p1.length : Int)) k 0 (.inr x27) hx25) ?_
     kernel_rfl
def T_store_length (k : Nat) (p1 : Int) : Option Unit := match k with
 | 0 => none
 | k + 1 => some ()
abbrev C_T_store_length (k : Nat) (p1 : Int) (r : Unit) : Prop := evF X k n_store_length [(I p1)] [] = some ((B (decide (2 ≤ p1) && decide (p1 ≤ 32))), [])
theorem T_store_length_ok (k : Nat) (p1 : Int) (r : Unit) : T_store_length k p1 = some r → C_T_store_length k p1 r := by
 intro H
 cases k with
 | zero => simp [T_store_length] at H
 | succ k =>
  simp only [T_store_length] at H
  refine F_in X_store_length rfl ?_
  refine K_seq (K_r [] [] (by kernel_rfl) trivial ?_)
  refine K_seq (K_r [.m] [([] : Heap) = []] (by kernel_rfl) (A1 rfl) ?_)
  refine K_g (by kernel_rfl) ?_
  cases H
  refine K_ret ?_
  kernel_rfl
def T_store_check (k : Nat) (p1 : List (List Int)) (p2 : Int) : Option Int := match k with
 | 0 => none
 | k + 1 => ((T_store_Check k p1).bind fun x1 => (if (!decide (x1 = 0)) = true then some x1 else ((T_store_length k p2).bind fun x3 => (if (!(decide (2 ≤ p2) && decide (p2 ≤ 32))) = true then some 8 else some 0))))
abbrev C_T_store_check (k : Nat) (p1 : List (List Int)) (p2 : Int) (r : Int) : Prop := evF X k n_store_check [(.agg [.d (.list (p1.map (el (D.int .i64))))]), (I p2)] [] = some ((I r), [])
theorem T_store_check_ok (k : Nat) (p1 : List (List Int)) (p2 : Int) (r : Int) : T_store_check k p1 p2 = some r → C_T_store_check k p1 p2 r := by
 intro H
 cases k with
 | zero => simp [T_store_check] at H
 | succ k =>
  simp only [T_store_check] at H
  refine F_in X_store_check rfl ?_
  refine K_seq (K_r [] [] (by kernel_rfl) trivial ?_)
  refine K_seq ?_
  refine K_seq ?_
  obtain ⟨x1, hx1, H⟩ := bind_some' H
  refine K_r [.r (I x1) []] [C_T_store_Check k p1 x1] (by kernel_rfl) (A1 (T_store_Check_ok k p1 x1 hx1)) ?_
  refine K_seq (K_r [] [] (by kernel_rfl) trivial ?_)
  rcases ite_some H with ⟨hx2, H⟩ | ⟨hx2, H⟩
  · refine K_t (by kernel_rfl) hx2 ?_
    refine K_seq (K_r [] [] (by kernel_rfl) trivial ?_)
    refine K_g (by kernel_rfl) ?_
    cases H
    refine K_ret ?_
    kernel_rfl
  · refine K_f (by kernel_rfl) (Bool.eq_false_iff.2 hx2) ?_
    refine K_g (by kernel_rfl) ?_
    refine K_skip ?_
    refine K_seq ?_
    refine K_seq ?_
    obtain ⟨x3, hx3, H⟩ := bind_some' H
    refine K_r [.r (B (decide (2 ≤ p2) && decide (p2 ≤ 32))) []] [C_T_store_length k p2 x3] (by kernel_rfl) (A1 (T_store_length_ok k p2 x3 hx3)) ?_
    rcases ite_some H with ⟨hx4, H⟩ | ⟨hx4, H⟩
    · refine K_t (by kernel_rfl) hx4 ?_
      refine K_seq (K_r [] [] (by kernel_rfl) trivial ?_)
      refine K_g (by kernel_rfl) ?_
      cases H
      refine K_ret ?_
      kernel_rfl
    · refine K_f (by kernel_rfl) (Bool.eq_false_iff.2 hx4) ?_
      refine K_g (by kernel_rfl) ?_
      refine K_skip (K_seq (K_r [] [] (by kernel_rfl) trivial ?_))
      refine K_g (by kernel_rfl) ?_
      cases H
      refine K_ret ?_
      kernel_rfl
def T_store_Starts_l1 (k : Nat) (p1 : List Int) (p2 : Int) (x5 : Int) (x15 : Nat × Int × Int × (List Int)) : Option ((Nat × Int × Int × (List Int)) ⊕ ((Nat × (List Int)))) :=
 (if x15.2.2.1 < x5 then ((at? p1 x15.2.2.1).bind fun x17 => ((if x17 = 1073741824 then some (w64 (x15.2.2.1 + 1)) else some x15.2.1)).bind fun x19 => ((if x19 ≤ (w64 ((w64 (x15.2.2.1 + 1)) - p2)) then (if x15.1 + 1 ≤ LIM then some ((x15.1 + 1), ((x15.2.2.2.drop 0).take x15.1 ++ ([(w64 ((w64 (x15.2.2.1 + 1)) - p2))] : List Int))) else none) else some (x15.1, x15.2.2.2))).bind fun x22 => some (.inl (x22.1, x19, (w64 (x15.2.2.1 + 1)), x22.2))) else some (.inr (x15.1, x15.2.2.2)))
theorem T_store_Starts_l1_ok (k : Nat) (p1 : List Int) (p2 : Int) (x5 : Int) : ∀ (x15 : Nat × Int × Int × (List Int)) (x : (Nat × Int × Int × (List Int)) ⊕ ((Nat × (List Int)))), T_store_Starts_l1 k p1 p2 x5 x15 = some x → evC X (evF X k) k 0 l_store_Starts_1 ⟨[(1, (I p2)), (5, (.one (.own 0 0 x15.1))), (6, (I x15.2.1)), (10, (LI p1)), (11, (I x5)), (12, (I x15.2.2.1))], [VI x15.2.2.2]⟩ = some (outS (fun (s : Nat × Int × Int × (List Int)) => ⟨[(1, (I p2)), (5, (.one (.own 0 0 s.1))), (6, (I s.2.1)), (10, (LI p1)), (11, (I x5)), (12, (I s.2.2.1))], [VI s.2.2.2]⟩) (fun (r : (Nat × (List Int))) => (.exit 0, ⟨[(5, (.one (.own 0 0 r.1)))], [VI r.2]⟩)) x) := by
 intro x15 x H
 unfold T_store_Starts_l1 at H
 refine K_in ?_
 refine K_seq (K_r [] [] (by kernel_rfl) trivial ?_)
 refine K_seq ?_
 rcases ite_some H with ⟨hx16, H⟩ | ⟨hx16, H⟩
 · refine K_t (by kernel_rfl) (decide_eq_true hx16) ?_
   refine K_g (by kernel_rfl) ?_
   refine K_skip ?_
   refine K_seq ?_
   refine K_block ?_
   refine K_seq ?_
   obtain ⟨x17, hx17, H⟩ := bind_some' H
   refine K_r [.l [.int .i64 x17]] [(0 : Int) ≤ x15.2.2.1 ∧ x15.2.2.1 < (((p1.map (D.int .i64))).length : Int), ((p1.map (D.int .i64)).getD x15.2.2.1.toNat (.int .i64 0)).cells = [.int .i64 x17]] (by kernel_rfl) (AC (at_ok hx17 (D.int .i64) (.int .i64 0)).1 (A1 (at_ok hx17 (D.int .i64) (.int .i64 0)).2)) ?_
   refine K_seq (K_seq (K_r [] [] (by kernel_rfl) trivial ?_))
   obtain ⟨x19, hx19, H⟩ := bind_some' H
   refine K_of ⟨[(1, (I p2)), (5, (.one (.own 0 0 x15.1))), (6, (I x19)), (7, (I x15.2.2.1)), (10, (LI p1)), (11, (I x5)), (12, (I x15.2.2.1))], [VI x15.2.2.2]⟩ ?_ ?_
   · clear H; have H := hx19; clear hx19; refine K_in ?_
     rcases ite_some H with ⟨hx18, H⟩ | ⟨hx18, H⟩
     · refine K_t (by kernel_rfl) (decide_eq_true hx18) ?_
       refine K_r [] [] (by kernel_rfl) trivial ?_
       cases H
       exact K_end (by kernel_rfl)
     · refine K_f (by kernel_rfl) (decide_eq_false hx18) ?_
       refine K_g (by kernel_rfl) ?_
       refine K_skip ?_
       cases H
       exact K_end (by kernel_rfl)
   refine K_seq (K_r [] [] (by kernel_rfl) trivial ?_)
   refine K_seq (K_r [] [] (by kernel_rfl) trivial ?_)
   obtain ⟨x22, hx22, H⟩ := bind_some' H
   refine K_of ⟨[(1, (I p2)), (5, (.one (.own 0 0 x22.1))), (6, (I x19)), (10, (LI p1)), (11, (I x5)), (12, (I x15.2.2.1))], [VI x22.2]⟩ ?_ ?_
   · clear H; have H := hx22; clear hx22; refine K_in ?_
     rcases ite_some H with ⟨hx20, H⟩ | ⟨hx20, H⟩
     · refine K_t (by kernel_rfl) (decide_eq_true hx20) ?_
       obtain ⟨hx21, H⟩ := guard_some H
       refine K_r [.n 1, .l (((x15.2.2.2.drop 0).take x15.1 ++ ([(w64 ((w64 (x15.2.2.1 + 1)) - p2))] : List Int)).map (D.int .i64))] [(List.all (([(w64 ((w64 (x15.2.2.1 + 1)) - p2))] : List Int).map (D.int .i64)) fun d => d.cells.length == (D.cells (.int .i64 0)).length) = true, x15.1 + 1 ≤ LIM, (([(w64 ((w64 (x15.2.2.1 + 1)) - p2))] : List Int).map (D.int .i64)).length = 1, ((x15.2.2.2.map (D.int .i64)).drop 0).take x15.1 ++ (([(w64 ((w64 (x15.2.2.1 + 1)) - p2))] : List Int).map (D.int .i64)) = ((x15.2.2.2.drop 0).take x15.1 ++ ([(w64 ((w64 (x15.2.2.1 + 1)) - p2))] : List Int)).map (D.int .i64)] (by kernel_rfl) (AC (all_ok (D.int .i64) 1 ([(w64 ((w64 (x15.2.2.1 + 1)) - p2))] : List Int) (fun _ => rfl)) (AC hx21 (AC (by simp) (A1 (ap_map (D.int .i64) x15.2.2.2 ([(w64 ((w64 (x15.2.2.1 + 1)) - p2))] : List Int) 0 x15.1))))) ?_
       cases H
       exact K_end (by kernel_rfl)
     · refine K_f (by kernel_rfl) (decide_eq_false hx20) ?_
       refine K_g (by kernel_rfl) ?_
       refine K_skip ?_
       cases H
       exact K_end (by kernel_rfl)
   refine K_blk (K_r [] [] (by kernel_rfl) trivial ?_)
   cases H
   exact K_end (by kernel_rfl)
 · refine K_f (by kernel_rfl) (decide_eq_false hx16) ?_
   refine K_g (by kernel_rfl) ?_
   cases H
   exact K_exit0 rfl (by kernel_rfl)
def T_store_Starts (k : Nat) (p1 : List Int) (p2 : Int) : Option ((List Int)) := match k with
 | 0 => none
 | k + 1 => ((loopT (T_store_Starts_l1 k p1 p2 (p1.length : Int)) k (0, 0, 0, [])).bind fun x23 => some ((x23.2.drop 0).take x23.1))
abbrev C_T_store_Starts (k : Nat) (p1 : List Int) (p2 : Int) (r : (List Int)) : Prop := evF X k n_store_Starts [(LI p1), (I p2)] [] = some ((LI r), [])
theorem T_store_Starts_ok (k : Nat) (p1 : List Int) (p2 : Int) (r : (List Int)) : T_store_Starts k p1 p2 = some r → C_T_store_Starts k p1 p2 r := by
 intro H
 cases k with
 | zero => simp [T_store_Starts] at H
 | succ k =>
  simp only [T_store_Starts] at H
  refine F_in X_store_Starts rfl ?_
  refine K_seq (K_r [] [] (by kernel_rfl) trivial ?_)
  refine K_seq (K_r [] [] (by kernel_rfl) trivial ?_)
  refine K_seq (K_r [] [] (by kernel_rfl) trivial ?_)
  refine K_seq (K_seq (K_r [.n p1.length] [((p1.map (D.int .i64))).length = p1.length] (by kernel_rfl) (A1 (List.length_map _)) ?_))
  refine K_block (K_g (by kernel_rfl) ?_)
  refine K_conv (σ' := ⟨[(1, (I p2)), (5, (.one (.own 0 0 0))), (6, (I 0)), (10, (LI p1)), (11, (I (p1.length : Int))), (12, (I 0))], [VI []]⟩) (by kernel_rfl) ?_
  obtain ⟨x23, hx23, H⟩ := bind_some' H
  refine K_loop ⟨[(5, (.one (.own 0 0 x23.1)))], [VI x23.2]⟩ (loop_ok (fun (s : Nat × Int × Int × (List Int)) => ⟨[(1, (I p2)), (5, (.one (.own 0 0 s.1))), (6, (I s.2.1)), (10, (LI p1)), (11, (I (p1.length : Int))), (12, (I s.2.2.1))], [VI s.2.2.2]⟩) (fun (r : (Nat × (List Int))) => (.exit 0, ⟨[(5, (.one (.own 0 0 r.1)))], [VI r.2]⟩)) (fun r h => by cases h) (T_store_Starts_l1_ok k p1 p2 (p1.length : Int)) k (0, 0, 0, []) x23 hx23) rfl ?_
  refine K_seq (K_r [] [] (by kernel_rfl) trivial ?_)
  refine K_g (by kernel_rfl) ?_
  cases H
  refine K_ret ?_
  exact Eq.trans (b := some ((.one (.d (.list (((x23.2.map (D.int .i64)).drop 0).take x23.1)))), [])) (by kernel_rfl) (by simp only [dt_map, rl_map, LI, VI])
def T_store_Places_l1 (k : Nat) (p1 : List (List Int)) (p2 : Int) (x6 : Int) (x33 : (List Int)) (x36 : Int) (x39 : Int) (x41 : Int) (x47 : Nat × Int × (List (Int × Int))) : Option ((Nat × Int × (List (Int × Int))) ⊕ ((Nat × (List (Int × Int))))) :=
 (if x47.2.1 < x41 then (at? x33 x47.2.1).bind fun x49 => (if x47.1 + 1 ≤ LIM then some (.inl ((x47.1 + 1), (w64 (x47.2.1 + 1)), ((x47.2.2.drop 0).take x47.1 ++ ([(x36, x49)] : List (Int × Int))))) else none) else some (.inr (x47.1, x47.2.2)))
theorem T_store_Places_l1_ok (k : Nat) (p1 : List (List Int)) (p2 : Int) (x6 : Int) (x33 : (List Int)) (x36 : Int) (x39 : Int) (x41 : Int) : ∀ (x47 : Nat × Int × (List (Int × Int))) (x : (Nat × Int × (List (Int × Int))) ⊕ ((Nat × (List (Int × Int))))), T_store_Places_l1 k p1 p2 x6 x33 x36 x39 x41 x47 = some x → evC X (evF X k) k 0 l_store_Places_1 ⟨[(1, (I p2)), (7, (.one (.own 0 0 x47.1))), (8, (I x36)), (19, (.one (.d (.list (p1.map (el (D.int .i64))))))), (20, (I x6)), (21, (I x39)), (28, (LI x33)), (29, (I x41)), (30, (I x47.2.1))], [.vals (.agg [(.int .i64 0), (.int .i64 0)]) (x47.2.2.map e_st0)]⟩ = some (outS (fun (s : Nat × Int × (List (Int × Int))) => ⟨[(1, (I p2)), (7, (.one (.own 0 0 s.1))), (8, (I x36)), (19, (.one (.d (.list (p1.map (el (D.int .i64))))))), (20, (I x6)), (21, (I x39)), (28, (LI x33)), (29, (I x41)), (30, (I s.2.1))], [.vals (.agg [(.int .i64 0), (.int .i64 0)]) (s.2.2.map e_st0)]⟩) (fun (r : (Nat × (List (Int × Int)))) => (.exit 2, ⟨[(1, (I p2)), (7, (.one (.own 0 0 r.1))), (19, (.one (.d (.list (p1.map (el (D.int .i64))))))), (20, (I x6)), (21, (I x39))], [.vals (.agg [(.int .i64 0), (.int .i64 0)]) (r.2.map e_st0)]⟩)) x) := by
 intro x47 x H
 unfold T_store_Places_l1 at H
 refine K_in ?_
 refine K_seq (K_r [] [] (by kernel_rfl) trivial ?_)
 refine K_seq ?_
 rcases ite_some H with ⟨hx48, H⟩ | ⟨hx48, H⟩
 · refine K_t (by kernel_rfl) (decide_eq_true hx48) ?_
   refine K_g (by kernel_rfl) ?_
   refine K_skip ?_
   refine K_seq ?_
   refine K_block ?_
   refine K_seq ?_
   obtain ⟨x49, hx49, H⟩ := bind_some' H
   refine K_r [.l [.int .i64 x49]] [(0 : Int) ≤ x47.2.1 ∧ x47.2.1 < (((x33.map (D.int .i64))).length : Int), ((x33.map (D.int .i64)).getD x47.2.1.toNat (.int .i64 0)).cells = [.int .i64 x49]] (by kernel_rfl) (AC (at_ok hx49 (D.int .i64) (.int .i64 0)).1 (A1 (at_ok hx49 (D.int .i64) (.int .i64 0)).2)) ?_
   obtain ⟨hx50, H⟩ := guard_some H
   refine K_r [.n 1, .l (((x47.2.2.drop 0).take x47.1 ++ ([(x36, x49)] : List (Int × Int))).map e_st0)] [(List.all (([(x36, x49)] : List (Int × Int)).map e_st0) fun d => d.cells.length == (D.cells (.agg [(.int .i64 0), (.int .i64 0)])).length) = true, x47.1 + 1 ≤ LIM, (([(x36, x49)] : List (Int × Int)).map e_st0).length = 1, ((x47.2.2.map e_st0).drop 0).take x47.1 ++ (([(x36, x49)] : List (Int × Int)).map e_st0) = ((x47.2.2.drop 0).take x47.1 ++ ([(x36, x49)] : List (Int × Int))).map e_st0] (by kernel_rfl) (AC (all_ok e_st0 2 ([(x36, x49)] : List (Int × Int)) (fun _ => rfl)) (AC hx50 (AC (by simp) (A1 (ap_map e_st0 x47.2.2 ([(x36, x49)] : List (Int × Int)) 0 x47.1))))) ?_
   refine K_blk (K_r [] [] (by kernel_rfl) trivial ?_)
   cases H
   exact K_end (by kernel_rfl)
 · refine K_f (by kernel_rfl) (decide_eq_false hx48) ?_
   refine K_g (by kernel_rfl) ?_
   cases H
   exact K_exit0 rfl (by kernel_rfl)
def T_store_Places_l2 (k : Nat) (p1 : List (List Int)) (p2 : Int) (x6 : Int) (x30 : Nat × Int × (List (Int × Int))) : Option ((Nat × Int × (List (Int × Int))) ⊕ ((Nat × (List (Int × Int))))) :=
 (if x30.2.1 < x6 then ((at? p1 x30.2.1).bind fun x32 => (T_store_Starts k x32 p2).bind fun x33 => (loopT (T_store_Places_l1 k p1 p2 x6 x33 x30.2.1 x30.2.1 (x33.length : Int)) k (x30.1, 0, x30.2.2)).bind fun x51 => some (.inl (x51.1, (w64 (x30.2.1 + 1)), x51.2))) else some (.inr (x30.1, x30.2.2)))
theorem T_store_Places_l2_ok (k : Nat) (p1 : List (List Int)) (p2 : Int) (x6 : Int) : ∀ (x30 : Nat × Int × (List (Int × Int))) (x : (Nat × Int × (List (Int × Int))) ⊕ ((Nat × (List (Int × Int))))), T_store_Places_l2 k p1 p2 x6 x30 = some x → evC X (evF X k) k 0 l_store_Places_2 ⟨[(1, (I p2)), (7, (.one (.own 0 0 x30.1))), (19, (.one (.d (.list (p1.map (el (D.int .i64))))))), (20, (I x6)), (21, (I x30.2.1))], [.vals (.agg [(.int .i64 0), (.int .i64 0)]) (x30.2.2.map e_st0)]⟩ = some (outS (fun (s : Nat × Int × (List (Int × Int))) => ⟨[(1, (I p2)), (7, (.one (.own 0 0 s.1))), (19, (.one (.d (.list (p1.map (el (D.int .i64))))))), (20, (I x6)), (21, (I s.2.1))], [.vals (.agg [(.int .i64 0), (.int .i64 0)]) (s.2.2.map e_st0)]⟩) (fun (r : (Nat × (List (Int × Int)))) => (.exit 0, ⟨[(7, (.one (.own 0 0 r.1)))], [.vals (.agg [(.int .i64 0), (.int .i64 0)]) (r.2.map e_st0)]⟩)) x) := by
 intro x30 x H
 unfold T_store_Places_l2 at H
 refine K_in ?_
 refine K_seq (K_r [] [] (by kernel_rfl) trivial ?_)
 refine K_seq ?_
 rcases ite_some H with ⟨hx31, H⟩ | ⟨hx31, H⟩
 · refine K_t (by kernel_rfl) (decide_eq_true hx31) ?_
   refine K_g (by kernel_rfl) ?_
   refine K_skip ?_
   refine K_seq ?_
   refine K_block ?_
   refine K_seq ?_
   obtain ⟨x32, hx32, H⟩ := bind_some' H
   refine K_r [.l [.list (x32.map (D.int .i64))]] [(0 : Int) ≤ x30.2.1 ∧ x30.2.1 < (((p1.map (el (D.int .i64)))).length : Int), ((p1.map (el (D.int .i64))).getD x30.2.1.toNat (.list [])).cells = [.list (x32.map (D.int .i64))]] (by kernel_rfl) (AC (at_ok hx32 (el (D.int .i64)) (.list [])).1 (A1 (at_ok hx32 (el (D.int .i64)) (.list [])).2)) ?_
   refine K_seq ?_
   obtain ⟨x33, hx33, H⟩ := bind_some' H
   refine K_r [.r (LI x33) [], .n x33.length] [C_T_store_Starts k x32 p2 x33, ((x33.map (D.int .i64))).length = x33.length] (by kernel_rfl) (AC (T_store_Starts_ok k x32 p2 x33 hx33) (A1 (List.length_map _))) ?_
   refine K_block (K_conv (σ' := ⟨[(1, (I p2)), (7, (.one (.own 0 0 x30.1))), (8, (I x30.2.1)), (19, (.one (.d (.list (p1.map (el (D.int .i64))))))), (20, (I x6)), (21, (I x30.2.1)), (28, (LI x33)), (29, (I (x33.length : Int))), (30, (I 0))], [.vals (.agg [(.int .i64 0), (.int .i64 0)]) (x30.2.2.map e_st0)]⟩) (by kernel_rfl) ?_)
   obtain ⟨x51, hx51, H⟩ := bind_some' H
   refine K_loop ⟨[(1, (I p2)), (7, (.one (.own 0 0 x51.1))), (19, (.one (.d (.list (p1.map (el (D.int .i64))))))), (20, (I x6)), (21, (I x30.2.1))], [.vals (.agg [(.int .i64 0), (.int .i64 0)]) (x51.2.map e_st0)]⟩ (loop_ok (fun (s : Nat × Int × (List (Int × Int))) => ⟨[(1, (I p2)), (7, (.one (.own 0 0 s.1))), (8, (I x30.2.1)), (19, (.one (.d (.list (p1.map (el (D.int .i64))))))), (20, (I x6)), (21, (I x30.2.1)), (28, (LI x33)), (29, (I (x33.length : Int))), (30, (I s.2.1))], [.vals (.agg [(.int .i64 0), (.int .i64 0)]) (s.2.2.map e_st0)]⟩) (fun (r : (Nat × (List (Int × Int)))) => (.exit 2, ⟨[(1, (I p2)), (7, (.one (.own 0 0 r.1))), (19, (.one (.d (.list (p1.map (el (D.int .i64))))))), (20, (I x6)), (21, (I x30.2.1))], [.vals (.agg [(.int .i64 0), (.int .i64 0)]) (r.2.map e_st0)]⟩)) (fun r h => by cases h) (T_store_Places_l1_ok k p1 p2 x6 x33 x30.2.1 x30.2.1 (x33.length : Int)) k (x30.1, 0, x30.2.2) x51 hx51) rfl ?_
   refine K_blk (K_r [] [] (by kernel_rfl) trivial ?_)
   cases H
   exact K_end (by kernel_rfl)
 · refine K_f (by kernel_rfl) (decide_eq_false hx31) ?_
   refine K_g (by kernel_rfl) ?_
   cases H
   exact K_exit0 rfl (by kernel_rfl)
def T_store_Places (k : Nat) (p1 : List (List Int)) (p2 : Int) : Option ((List (Int × Int)) × Int) := match k with
 | 0 => none
 | k + 1 => ((T_store_check k p1 p2).bind fun x1 => (if (!decide (x1 = 0)) = true then some ([], x1) else ((loopT (T_store_Places_l2 k p1 p2 (p1.length : Int)) k (0, 0, [])).bind fun x52 => some (((x52.2.drop 0).take x52.1), 0))))
abbrev C_T_store_Places (k : Nat) (p1 : List (List Int)) (p2 : Int) (r : (List (Int × Int)) × Int) : Prop := evF X k n_store_Places [(.agg [.d (.list (p1.map (el (D.int .i64))))]), (I p2)] [] = some ((.tup [(false, [.d (.list (r.1.map e_st0))]), (false, [cI r.2])]), [])
theorem T_store_Places_ok (k : Nat) (p1 : List (List Int)) (p2 : Int) (r : (List (Int × Int)) × Int) : T_store_Places k p1 p2 = some r → C_T_store_Places k p1 p2 r := by
 intro H
 cases k with
 | zero => simp [T_store_Places] at H
 | succ k =>
  simp only [T_store_Places] at H
  refine F_in X_store_Places rfl ?_
  refine K_seq (K_r [] [] (by kernel_rfl) trivial ?_)
  refine K_seq ?_
  refine K_seq ?_
  obtain ⟨x1, hx1, H⟩ := bind_some' H
  refine K_r [.r (I x1) []] [C_T_store_check k p1 p2 x1] (by kernel_rfl) (A1 (T_store_check_ok k p1 p2 x1 hx1)) ?_
  refine K_seq (K_r [] [] (by kernel_rfl) trivial ?_)
  rcases ite_some H with ⟨hx2, H⟩ | ⟨hx2, H⟩
  · refine K_t (by kernel_rfl) hx2 ?_
    refine K_seq (K_r [] [] (by kernel_rfl) trivial ?_)
    refine K_g (by kernel_rfl) ?_
    cases H
    refine K_ret ?_
    kernel_rfl
  · refine K_f (by kernel_rfl) (Bool.eq_false_iff.2 hx2) ?_
    refine K_g (by kernel_rfl) ?_
    refine K_skip (K_seq (K_r [] [] (by kernel_rfl) trivial ?_))
    refine K_seq (K_seq (K_r [.n p1.length] [((p1.map (el (D.int .i64)))).length = p1.length] (by kernel_rfl) (A1 (List.length_map _)) ?_))
    refine K_block (K_g (by kernel_rfl) ?_)
    refine K_conv (σ' := ⟨[(1, (I p2)), (7, (.one (.own 0 0 0))), (19, (.one (.d (.list (p1.map (el (D.int .i64))))))), (20, (I (p1.length : Int))), (21, (I 0))], [.vals (.agg [(.int .i64 0), (.int .i64 0)]) ([].map e_st0)]⟩) (by kernel_rfl) ?_
    obtain ⟨x52, hx52, H⟩ := bind_some' H
    refine K_loop ⟨[(7, (.one (.own 0 0 x52.1)))], [.vals (.agg [(.int .i64 0), (.int .i64 0)]) (x52.2.map e_st0)]⟩ (loop_ok (fun (s : Nat × Int × (List (Int × Int))) => ⟨[(1, (I p2)), (7, (.one (.own 0 0 s.1))), (19, (.one (.d (.list (p1.map (el (D.int .i64))))))), (20, (I (p1.length : Int))), (21, (I s.2.1))], [.vals (.agg [(.int .i64 0), (.int .i64 0)]) (s.2.2.map e_st0)]⟩) (fun (r : (Nat × (List (Int × Int)))) => (.exit 0, ⟨[(7, (.one (.own 0 0 r.1)))], [.vals (.agg [(.int .i64 0), (.int .i64 0)]) (r.2.map e_st0)]⟩)) (fun r h => by cases h) (T_store_Places_l2_ok k p1 p2 (p1.length : Int)) k (0, 0, []) x52 hx52) rfl ?_
    refine K_seq (K_r [] [] (by kernel_rfl) trivial ?_)
    refine K_g (by kernel_rfl) ?_
    cases H
    refine K_ret ?_
    exact Eq.trans (b := some ((.tup [(false, [.d (.list (((x52.2.map e_st0).drop 0).take x52.1))]), (false, [cI 0])]), [])) (by kernel_rfl) (by simp only [dt_map, rl_map, LI, VI])
def T_measure_name (k : Nat) (p1 : Int) : Option ByteArray := match k with
 | 0 => none
 | k + 1 => (if p1 = 1 then some (⟨#[101, 117, 99, 108, 105, 100]⟩ : ByteArray) else (if p1 = 2 then some (⟨#[115, 104, 105, 102, 116, 101, 100]⟩ : ByteArray) else (if p1 = 3 then some (⟨#[110, 111, 114, 109, 97, 108]⟩ : ByteArray) else (if p1 = 4 then some (⟨#[119, 97, 114, 112]⟩ : ByteArray) else (if p1 = 5 then some (⟨#[101, 100, 105, 116]⟩ : ByteArray) else some (⟨#[]⟩ : ByteArray))))))
abbrev C_T_measure_name (k : Nat) (p1 : Int) (r : ByteArray) : Prop := evF X k n_measure_name [(I p1)] [] = some ((.one (.d (.str r))), [])
theorem T_measure_name_ok (k : Nat) (p1 : Int) (r : ByteArray) : T_measure_name k p1 = some r → C_T_measure_name k p1 r := by
 intro H
 cases k with
 | zero => simp [T_measure_name] at H
 | succ k =>
  simp only [T_measure_name] at H
  refine F_in X_measure_name rfl ?_
  refine K_seq (K_r [] [] (by kernel_rfl) trivial ?_)
  refine K_seq (K_seq (K_r [] [] (by kernel_rfl) trivial ?_))
  refine K_block (K_seq (K_r [] [] (by kernel_rfl) trivial ?_))
  rcases ite_some H with ⟨hx1, H⟩ | ⟨hx1, H⟩
  · refine K_t (by kernel_rfl) (decide_eq_true hx1) ?_
    refine K_seq (K_r [] [] (by kernel_rfl) trivial ?_)
    refine K_g (by kernel_rfl) ?_
    cases H
    refine K_ret ?_
    kernel_rfl
  · refine K_f (by kernel_rfl) (decide_eq_false hx1) ?_
    refine K_seq (K_r [] [] (by kernel_rfl) trivial ?_)
    rcases ite_some H with ⟨hx2, H⟩ | ⟨hx2, H⟩
    · refine K_t (by kernel_rfl) (decide_eq_true hx2) ?_
      refine K_seq (K_r [] [] (by kernel_rfl) trivial ?_)
      refine K_g (by kernel_rfl) ?_
      cases H
      refine K_ret ?_
      kernel_rfl
    · refine K_f (by kernel_rfl) (decide_eq_false hx2) ?_
      refine K_seq (K_r [] [] (by kernel_rfl) trivial ?_)
      rcases ite_some H with ⟨hx3, H⟩ | ⟨hx3, H⟩
      · refine K_t (by kernel_rfl) (decide_eq_true hx3) ?_
        refine K_seq (K_r [] [] (by kernel_rfl) trivial ?_)
        refine K_g (by kernel_rfl) ?_
        cases H
        refine K_ret ?_
        kernel_rfl
      · refine K_f (by kernel_rfl) (decide_eq_false hx3) ?_
        refine K_seq (K_r [] [] (by kernel_rfl) trivial ?_)
        rcases ite_some H with ⟨hx4, H⟩ | ⟨hx4, H⟩
        · refine K_t (by kernel_rfl) (decide_eq_true hx4) ?_
          refine K_seq (K_r [] [] (by kernel_rfl) trivial ?_)
          refine K_g (by kernel_rfl) ?_
          cases H
          refine K_ret ?_
          kernel_rfl
        · refine K_f (by kernel_rfl) (decide_eq_false hx4) ?_
          refine K_seq (K_r [] [] (by kernel_rfl) trivial ?_)
          rcases ite_some H with ⟨hx5, H⟩ | ⟨hx5, H⟩
          · refine K_t (by kernel_rfl) (decide_eq_true hx5) ?_
            refine K_seq (K_r [] [] (by kernel_rfl) trivial ?_)
            refine K_g (by kernel_rfl) ?_
            cases H
            refine K_ret ?_
            kernel_rfl
          · refine K_f (by kernel_rfl) (decide_eq_false hx5) ?_
            refine K_g (by kernel_rfl) ?_
            refine K_skip (K_blk (K_seq (K_r [] [] (by kernel_rfl) trivial ?_)))
            refine K_g (by kernel_rfl) ?_
            cases H
            refine K_ret ?_
            kernel_rfl
def T_measure_Check (k : Nat) (p1 : Int) (p2 : Int) (p3 : Int) : Option Int := match k with
 | 0 => none
 | k + 1 => ((T_measure_name k p1).bind fun x1 => ((if ((x1 == (⟨#[]⟩ : ByteArray)) && true) = true then some ((x1 == (⟨#[]⟩ : ByteArray)) && true) else (if ((decide (p2 < 0) || decide (32 < p2)) || ((!decide (p2 = 0)) && (!decide (p1 = 4)))) = true then some ((decide (p2 < 0) || decide (32 < p2)) || ((!decide (p2 = 0)) && (!decide (p1 = 4)))) else some ((decide (p3 < (-1000)) || decide (1000 < p3)) || ((!decide (p3 = 0)) && (!decide (p1 = 5))))))).bind fun x4 => (if x4 = true then some 9 else some 0))
abbrev C_T_measure_Check (k : Nat) (p1 : Int) (p2 : Int) (p3 : Int) (r : Int) : Prop := evF X k n_measure_Check [(.agg [cI p1, cI p2, cI p3])] [] = some ((I r), [])
theorem T_measure_Check_ok (k : Nat) (p1 : Int) (p2 : Int) (p3 : Int) (r : Int) : T_measure_Check k p1 p2 p3 = some r → C_T_measure_Check k p1 p2 p3 r := by
 intro H
 cases k with
 | zero => simp [T_measure_Check] at H
 | succ k =>
  simp only [T_measure_Check] at H
  refine F_in X_measure_Check rfl ?_
  refine K_seq (K_r [] [] (by kernel_rfl) trivial ?_)
  refine K_seq ?_
  refine K_block ?_
  refine K_seq ?_
  refine K_seq ?_
  obtain ⟨x1, hx1, H⟩ := bind_some' H
  refine K_r [.r (.one (.d (.str x1))) []] [C_T_measure_name k p1 x1] (by kernel_rfl) (A1 (T_measure_name_ok k p1 x1 hx1)) ?_
  obtain ⟨x4, hx4, H⟩ := bind_some' H
  refine K_of ⟨[(3, (B x4))], []⟩ ?_ ?_
  · clear H; have H := hx4; clear hx4; refine K_in ?_
    rcases ite_some H with ⟨hx2, H⟩ | ⟨hx2, H⟩
    · refine K_t (by kernel_rfl) hx2 ?_
      refine K_g (by kernel_rfl) ?_
      refine K_skip ?_
      cases H
      exact K_end (by kernel_rfl)
    · refine K_f (by kernel_rfl) (Bool.eq_false_iff.2 hx2) ?_
      refine K_seq (K_r [.m, .m, .m] ((fun (z1 : Heap) => [z1 = z1, (decide (p2 < 0) || decide (32 < p2)) = false → AllT [z1 = z1], z1 = z1]) [.cells [cI p1, cI p2, cI p3]]) (by kernel_rfl) (AC rfl (AC (fun _ => (A1 rfl)) (A1 rfl))) ?_)
      rcases ite_some H with ⟨hx3, H⟩ | ⟨hx3, H⟩
      · refine K_t (by kernel_rfl) hx3 ?_
        refine K_g (by kernel_rfl) ?_
        refine K_skip ?_
        cases H
        exact K_end (by kernel_rfl)
      · refine K_f (by kernel_rfl) (Bool.eq_false_iff.2 hx3) ?_
        refine K_r [.m, .m, .m] ((fun (z1 : Heap) => [z1 = z1, (decide (p3 < (-1000)) || decide (1000 < p3)) = false → AllT [z1 = z1], z1 = z1]) [.cells [cI p1, cI p2, cI p3]]) (by kernel_rfl) (AC rfl (AC (fun _ => (A1 rfl)) (A1 rfl))) ?_
        cases H
        exact K_end (by kernel_rfl)
  rcases ite_some H with ⟨hx5, H⟩ | ⟨hx5, H⟩
  · refine K_t (by kernel_rfl) hx5 ?_
    refine K_seq (K_r [] [] (by kernel_rfl) trivial ?_)
    refine K_g (by kernel_rfl) ?_
    cases H
    refine K_ret ?_
    kernel_rfl
  · refine K_f (by kernel_rfl) (Bool.eq_false_iff.2 hx5) ?_
    refine K_g (by kernel_rfl) ?_
    refine K_skip (K_blk (K_seq (K_r [] [] (by kernel_rfl) trivial ?_)))
    refine K_g (by kernel_rfl) ?_
    cases H
    refine K_ret ?_
    kernel_rfl
def T_store_Query_1 (k : Nat) (p1 : Int) : Option Unit := match k with
 | 0 => none
 | k + 1 => ((T_store_sample k p1).bind fun x1 => some ())
abbrev C_T_store_Query_1 (k : Nat) (p1 : Int) (r : Unit) : Prop := evF X k n_store_Query_1 [(I p1)] [] = some ((B (!(decide ((-1000) ≤ p1) && decide (p1 ≤ 1000)))), [])
theorem T_store_Query_1_ok (k : Nat) (p1 : Int) (r : Unit) : T_store_Query_1 k p1 = some r → C_T_store_Query_1 k p1 r := by
 intro H
 cases k with
 | zero => simp [T_store_Query_1] at H
 | succ k =>
  simp only [T_store_Query_1] at H
  refine F_in X_store_Query_1 rfl ?_
  refine K_seq (K_r [] [] (by kernel_rfl) trivial ?_)
  refine K_seq ?_
  obtain ⟨x1, hx1, H⟩ := bind_some' H
  refine K_r [.r (B (decide ((-1000) ≤ p1) && decide (p1 ≤ 1000))) []] [C_T_store_sample k p1 x1] (by kernel_rfl) (A1 (T_store_sample_ok k p1 x1 hx1)) ?_
  refine K_g (by kernel_rfl) ?_
  cases H
  refine K_ret ?_
  kernel_rfl
def T_slices_IndexFunc_b354_v2_l1 (k : Nat) (p1 : List Int) (x2 : Int) (x8 : Int) : Option (Int ⊕ (Unit ⊕ Int)) :=
 (if x8 < x2 then ((at? p1 x8).bind fun x10 => (T_store_Query_1 k x10).bind fun x11 => (if (!(decide ((-1000) ≤ x10) && decide (x10 ≤ 1000))) = true then some (.inr (.inr x8)) else some (.inl (w64 (x8 + 1))))) else some (.inr (.inl ())))
theorem T_slices_IndexFunc_b354_v2_l1_ok (k : Nat) (p1 : List Int) (x2 : Int) : ∀ (x8 : Int) (x : Int ⊕ (Unit ⊕ Int)), T_slices_IndexFunc_b354_v2_l1 k p1 x2 x8 = some x → evC X (evF X k) k 0 l_slices_IndexFunc_b354_1 ⟨[(0, (LI p1)), (1, (.one (.fn (.func n_store_Query_1) []))), (7, (I x2)), (8, (I x8))], []⟩ = some (outS (fun (s : Int) => ⟨[(0, (LI p1)), (1, (.one (.fn (.func n_store_Query_1) []))), (7, (I x2)), (8, (I s))], []⟩) (fun (r : Unit ⊕ Int) => Sum.elim (fun y => (.exit 0, ⟨[], []⟩)) (fun y => (.ret, ⟨[(4, (I y))], []⟩)) r) x) := by
 intro x8 x H
 unfold T_slices_IndexFunc_b354_v2_l1 at H
 refine K_in ?_
 refine K_seq (K_r [] [] (by kernel_rfl) trivial ?_)
 refine K_seq ?_
 rcases ite_some H with ⟨hx9, H⟩ | ⟨hx9, H⟩
 · refine K_t (by kernel_rfl) (decide_eq_true hx9) ?_
   refine K_g (by kernel_rfl) ?_
   refine K_skip (K_seq (K_block (K_seq (K_r [] [] (by kernel_rfl) trivial ?_))))
   refine K_seq ?_
   obtain ⟨x10, hx10, H⟩ := bind_some' H
   obtain ⟨x11, hx11, H⟩ := bind_some' H
   refine K_r [.l [.int .i64 x10], .r (B (!(decide ((-1000) ≤ x10) && decide (x10 ≤ 1000)))) []] [(0 : Int) ≤ x8 ∧ x8 < (((p1.map (D.int .i64))).length : Int), ((p1.map (D.int .i64)).getD x8.toNat (.int .i64 0)).cells = [.int .i64 x10], C_T_store_Query_1 k x10 x11] (by kernel_rfl) (AC (at_ok hx10 (D.int .i64) (.int .i64 0)).1 (AC (at_ok hx10 (D.int .i64) (.int .i64 0)).2 (A1 (T_store_Query_1_ok k x10 x11 hx11)))) ?_
   rcases ite_some H with ⟨hx12, H⟩ | ⟨hx12, H⟩
   · refine K_t (by kernel_rfl) hx12 ?_
     refine K_seq (K_r [] [] (by kernel_rfl) trivial ?_)
     refine K_g (by kernel_rfl) ?_
     cases H
     exact K_ret (by kernel_rfl)
   · refine K_f (by kernel_rfl) (Bool.eq_false_iff.2 hx12) ?_
     refine K_g (by kernel_rfl) ?_
     refine K_skip (K_blk (K_r [] [] (by kernel_rfl) trivial ?_))
     cases H
     exact K_end (by kernel_rfl)
 · refine K_f (by kernel_rfl) (decide_eq_false hx9) ?_
   refine K_g (by kernel_rfl) ?_
   cases H
   exact K_exit0 rfl (by kernel_rfl)
def T_slices_IndexFunc_b354_v2 (k : Nat) (p1 : List Int) : Option Int := match k with
 | 0 => none
 | k + 1 => ((loopT (T_slices_IndexFunc_b354_v2_l1 k p1 (p1.length : Int)) k 0).bind fun x13 => (match x13 with | .inl x14 => some (-1) | .inr x15 => some x15))
abbrev C_T_slices_IndexFunc_b354_v2 (k : Nat) (p1 : List Int) (r : Int) : Prop := evF X k n_slices_IndexFunc_b354 [(LI p1), (.one (.fn (.func n_store_Query_1) []))] [] = some ((I r), [])
theorem T_slices_IndexFunc_b354_v2_ok (k : Nat) (p1 : List Int) (r : Int) : T_slices_IndexFunc_b354_v2 k p1 = some r → C_T_slices_IndexFunc_b354_v2 k p1 r := by
 intro H
 cases k with
 | zero => simp [T_slices_IndexFunc_b354_v2] at H
 | succ k =>
  simp only [T_slices_IndexFunc_b354_v2] at H
  refine F_in X_slices_IndexFunc_b354 rfl ?_
  refine K_seq (K_r [] [] (by kernel_rfl) trivial ?_)
  refine K_seq (K_seq (K_r [.n p1.length] [((p1.map (D.int .i64))).length = p1.length] (by kernel_rfl) (A1 (List.length_map _)) ?_))
  refine K_block (K_conv (σ' := ⟨[(0, (LI p1)), (1, (.one (.fn (.func n_store_Query_1) []))), (7, (I (p1.length : Int))), (8, (I 0))], []⟩) (by kernel_rfl) ?_)
  obtain ⟨x13, hx13, H⟩ := bind_some' H
  cases x13 with
  | inl x14 =>
   dsimp only at H
   refine K_loop ⟨[], []⟩ (loop_ok (fun (s : Int) => ⟨[(0, (LI p1)), (1, (.one (.fn (.func n_store_Query_1) []))), (7, (I (p1.length : Int))), (8, (I s))], []⟩) (fun (r : Unit ⊕ Int) => Sum.elim (fun y => (.exit 0, ⟨[], []⟩)) (fun y => (.ret, ⟨[(4, (I y))], []⟩)) r) (fun r h => by cases r <;> cases h) (T_slices_IndexFunc_b354_v2_l1_ok k p1 (p1.length : Int)) k 0 (.inl x14) hx13) rfl ?_
   refine K_seq (K_r [] [] (by kernel_rfl) trivial ?_)
   refine K_g (by kernel_rfl) ?_
   cases H
   refine K_ret ?_
   kernel_rfl
  | inr x15 =>
   dsimp only at H
   have H := Option.some.inj H; subst H
   refine K_loopr ⟨[(4, (I x15))], []⟩ (loop_ok (fun (s : Int) => ⟨[(0, (LI p1)), (1, (.one (.fn (.func n_store_Query_1) []))), (7, (I (p1.length : Int))), (8, (I s))], []⟩) (fun (r : Unit ⊕ Int) => Sum.elim (fun y => (.exit 0, ⟨[], []⟩)) (fun y => (.ret, ⟨[(4, (I y))], []⟩)) r) (fun r h => by cases r <;> cases h) (T_slices_IndexFunc_b354_v2_l1_ok k p1 (p1.length : Int)) k 0 (.inr x15) hx13) ?_
   kernel_rfl
def T_slices_ContainsFunc_b354_v2 (k : Nat) (p1 : List Int) : Option Bool := match k with
 | 0 => none
 | k + 1 => ((T_slices_IndexFunc_b354_v2 k p1).bind fun x1 => some (decide (0 ≤ x1)))
abbrev C_T_slices_ContainsFunc_b354_v2 (k : Nat) (p1 : List Int) (r : Bool) : Prop := evF X k n_slices_ContainsFunc_b354 [(LI p1), (.one (.fn (.func n_store_Query_1) []))] [] = some ((B r), [])
theorem T_slices_ContainsFunc_b354_v2_ok (k : Nat) (p1 : List Int) (r : Bool) : T_slices_ContainsFunc_b354_v2 k p1 = some r → C_T_slices_ContainsFunc_b354_v2 k p1 r := by
 intro H
 cases k with
 | zero => simp [T_slices_ContainsFunc_b354_v2] at H
 | succ k =>
  simp only [T_slices_ContainsFunc_b354_v2] at H
  refine F_in X_slices_ContainsFunc_b354 rfl ?_
  refine K_seq (K_r [] [] (by kernel_rfl) trivial ?_)
  refine K_seq ?_
  obtain ⟨x1, hx1, H⟩ := bind_some' H
  refine K_r [.r (I x1) []] [C_T_slices_IndexFunc_b354_v2 k p1 x1] (by kernel_rfl) (A1 (T_slices_IndexFunc_b354_v2_ok k p1 x1 hx1)) ?_
  refine K_g (by kernel_rfl) ?_
  cases H
  refine K_ret ?_
  kernel_rfl
def T_store_Query (k : Nat) (p1 : Int) (p2 : Int) (p3 : Int) (p4 : List Int) : Option Int := match k with
 | 0 => none
 | k + 1 => ((T_measure_Check k p1 p2 p3).bind fun x1 => (if (!decide (x1 = 0)) = true then some x1 else ((T_store_length k (p4.length : Int)).bind fun x3 => (if (!(decide (2 ≤ (p4.length : Int)) && decide ((p4.length : Int) ≤ 32))) = true then some 8 else ((T_slices_ContainsFunc_b354_v2 k p4).bind fun x5 => (if x5 = true then some 12 else some 0))))))
abbrev C_T_store_Query (k : Nat) (p1 : Int) (p2 : Int) (p3 : Int) (p4 : List Int) (r : Int) : Prop := evF X k n_store_Query [(.agg [cI p1, cI p2, cI p3]), (LI p4)] [] = some ((I r), [])
theorem T_store_Query_ok (k : Nat) (p1 : Int) (p2 : Int) (p3 : Int) (p4 : List Int) (r : Int) : T_store_Query k p1 p2 p3 p4 = some r → C_T_store_Query k p1 p2 p3 p4 r := by
 intro H
 cases k with
 | zero => simp [T_store_Query] at H
 | succ k =>
  simp only [T_store_Query] at H
  refine F_in X_store_Query rfl ?_
  refine K_seq (K_r [] [] (by kernel_rfl) trivial ?_)
  refine K_seq ?_
  refine K_seq ?_
  obtain ⟨x1, hx1, H⟩ := bind_some' H
  refine K_r [.r (I x1) []] [C_T_measure_Check k p1 p2 p3 x1] (by kernel_rfl) (A1 (T_measure_Check_ok k p1 p2 p3 x1 hx1)) ?_
  refine K_seq (K_r [] [] (by kernel_rfl) trivial ?_)
  rcases ite_some H with ⟨hx2, H⟩ | ⟨hx2, H⟩
  · refine K_t (by kernel_rfl) hx2 ?_
    refine K_seq (K_r [] [] (by kernel_rfl) trivial ?_)
    refine K_g (by kernel_rfl) ?_
    cases H
    refine K_ret ?_
    kernel_rfl
  · refine K_f (by kernel_rfl) (Bool.eq_false_iff.2 hx2) ?_
    refine K_g (by kernel_rfl) ?_
    refine K_skip ?_
    refine K_seq ?_
    refine K_seq ?_
    obtain ⟨x3, hx3, H⟩ := bind_some' H
    refine K_r [.n p4.length, .r (B (decide (2 ≤ (p4.length : Int)) && decide ((p4.length : Int) ≤ 32))) []] [((p4.map (D.int .i64))).length = p4.length, C_T_store_length k (p4.length : Int) x3] (by kernel_rfl) (AC (List.length_map _) (A1 (T_store_length_ok k (p4.length : Int) x3 hx3))) ?_
    rcases ite_some H with ⟨hx4, H⟩ | ⟨hx4, H⟩
    · refine K_t (by kernel_rfl) hx4 ?_
      refine K_seq (K_r [] [] (by kernel_rfl) trivial ?_)
      refine K_g (by kernel_rfl) ?_
      cases H
      refine K_ret ?_
      kernel_rfl
    · refine K_f (by kernel_rfl) (Bool.eq_false_iff.2 hx4) ?_
      refine K_g (by kernel_rfl) ?_
      refine K_skip ?_
      refine K_seq ?_
      refine K_seq ?_
      obtain ⟨x5, hx5, H⟩ := bind_some' H
      refine K_r [.r (B x5) []] [C_T_slices_ContainsFunc_b354_v2 k p4 x5] (by kernel_rfl) (A1 (T_slices_ContainsFunc_b354_v2_ok k p4 x5 hx5)) ?_
      rcases ite_some H with ⟨hx6, H⟩ | ⟨hx6, H⟩
      · refine K_t (by kernel_rfl) hx6 ?_
        refine K_seq (K_r [] [] (by kernel_rfl) trivial ?_)
        refine K_g (by kernel_rfl) ?_
        cases H
        refine K_ret ?_
        kernel_rfl
      · refine K_f (by kernel_rfl) (Bool.eq_false_iff.2 hx6) ?_
        refine K_g (by kernel_rfl) ?_
        refine K_skip (K_seq (K_r [] [] (by kernel_rfl) trivial ?_))
        refine K_g (by kernel_rfl) ?_
        cases H
        refine K_ret ?_
        kernel_rfl
def T_measure_distances (k : Nat) (p1 : Int) (p2 : Int) (p3 : Int) : Option Unit := match k with
 | 0 => none
 | k + 1 => some ()
abbrev C_T_measure_distances (k : Nat) (p1 : Int) (p2 : Int) (p3 : Int) (r : Unit) : Prop := evF X k n_measure_distances [(.agg [cI p1, cI p2, cI p3])] [] = some ((.one (.mp 0)), [.map [(1, .fn (.func n_measure_distances_1) []), (2, .fn (.func n_euclid_Shifted) []), (3, .fn (.func n_normal_Gap) []), (4, .fn (.func n_measure_distances_2) [.ref [.int .i64 p1, .int .i64 p2, .int .i64 p3]]), (5, .fn (.func n_measure_distances_3) [.ref [.int .i64 p1, .int .i64 p2, .int .i64 p3]])]])
theorem T_measure_distances_ok (k : Nat) (p1 : Int) (p2 : Int) (p3 : Int) (r : Unit) : T_measure_distances k p1 p2 p3 = some r → C_T_measure_distances k p1 p2 p3 r := by
 intro H
 cases k with
 | zero => simp [T_measure_distances] at H
 | succ k =>
  simp only [T_measure_distances] at H
  refine F_in X_measure_distances rfl ?_
  refine K_seq (K_r [] [] (by kernel_rfl) trivial ?_)
  refine K_seq (K_g (by kernel_rfl) ?_)
  refine K_r [] [] (by kernel_rfl) trivial ?_
  refine K_g (by kernel_rfl) ?_
  cases H
  refine K_ret ?_
  kernel_rfl
def T_euclid_length (k : Nat) (p1 : List Int) : Option Unit := match k with
 | 0 => none
 | k + 1 => some ()
abbrev C_T_euclid_length (k : Nat) (p1 : List Int) (r : Unit) : Prop := evF X k n_euclid_length [(LI p1)] [] = some ((B (decide (2 ≤ (p1.length : Int)) && decide ((p1.length : Int) ≤ 32))), [])
theorem T_euclid_length_ok (k : Nat) (p1 : List Int) (r : Unit) : T_euclid_length k p1 = some r → C_T_euclid_length k p1 r := by
 intro H
 cases k with
 | zero => simp [T_euclid_length] at H
 | succ k =>
  simp only [T_euclid_length] at H
  refine F_in X_euclid_length rfl ?_
  refine K_seq (K_r [] [] (by kernel_rfl) trivial ?_)
  refine K_seq (K_r [.n p1.length, .m, .n p1.length] [((p1.map (D.int .i64))).length = p1.length, decide (2 ≤ (p1.length : Int)) = true → AllT [((p1.map (D.int .i64))).length = p1.length], ([] : Heap) = []] (by kernel_rfl) (AC (List.length_map _) (AC (fun _ => (A1 (List.length_map _))) (A1 rfl))) ?_)
  refine K_g (by kernel_rfl) ?_
  cases H
  refine K_ret ?_
  kernel_rfl
def T_euclid_samples_l1 (k : Nat) (p1 : List Int) (x2 : Int) (x7 : Int) : Option (Int ⊕ (Unit ⊕ Unit)) :=
 (if x7 < x2 then ((at? p1 x7).bind fun x9 => (if (decide (x9 < (-1000)) || decide (1000 < x9)) = true then some (.inr (.inr ())) else some (.inl (w64 (x7 + 1))))) else some (.inr (.inl ())))
theorem T_euclid_samples_l1_ok (k : Nat) (p1 : List Int) (x2 : Int) : ∀ (x7 : Int) (x : Int ⊕ (Unit ⊕ Unit)), T_euclid_samples_l1 k p1 x2 x7 = some x → evC X (evF X k) k 0 l_euclid_samples_1 ⟨[(5, (LI p1)), (6, (I x2)), (7, (I x7))], []⟩ = some (outS (fun (s : Int) => ⟨[(5, (LI p1)), (6, (I x2)), (7, (I s))], []⟩) (fun (r : Unit ⊕ Unit) => Sum.elim (fun y => (.exit 0, ⟨[], []⟩)) (fun y => (.ret, ⟨[(2, (B false))], []⟩)) r) x) := by
 intro x7 x H
 unfold T_euclid_samples_l1 at H
 refine K_in ?_
 refine K_seq (K_r [] [] (by kernel_rfl) trivial ?_)
 refine K_seq ?_
 rcases ite_some H with ⟨hx8, H⟩ | ⟨hx8, H⟩
 · refine K_t (by kernel_rfl) (decide_eq_true hx8) ?_
   refine K_g (by kernel_rfl) ?_
   refine K_skip ?_
   refine K_seq ?_
   refine K_block ?_
   refine K_seq ?_
   obtain ⟨x9, hx9, H⟩ := bind_some' H
   refine K_r [.l [.int .i64 x9]] [(0 : Int) ≤ x7 ∧ x7 < (((p1.map (D.int .i64))).length : Int), ((p1.map (D.int .i64)).getD x7.toNat (.int .i64 0)).cells = [.int .i64 x9]] (by kernel_rfl) (AC (at_ok hx9 (D.int .i64) (.int .i64 0)).1 (A1 (at_ok hx9 (D.int .i64) (.int .i64 0)).2)) ?_
   refine K_seq (K_r [.m] [([] : Heap) = []] (by kernel_rfl) (A1 rfl) ?_)
   rcases ite_some H with ⟨hx10, H⟩ | ⟨hx10, H⟩
   · refine K_t (by kernel_rfl) hx10 ?_
     refine K_seq (K_r [] [] (by kernel_rfl) trivial ?_)
     refine K_g (by kernel_rfl) ?_
     cases H
     exact K_ret (by kernel_rfl)
   · refine K_f (by kernel_rfl) (Bool.eq_false_iff.2 hx10) ?_
     refine K_g (by kernel_rfl) ?_
     refine K_skip (K_blk (K_r [] [] (by kernel_rfl) trivial ?_))
     cases H
     exact K_end (by kernel_rfl)
 · refine K_f (by kernel_rfl) (decide_eq_false hx8) ?_
   refine K_g (by kernel_rfl) ?_
   cases H
   exact K_exit0 rfl (by kernel_rfl)
def T_euclid_samples (k : Nat) (p1 : List Int) : Option Bool := match k with
 | 0 => none
 | k + 1 => ((loopT (T_euclid_samples_l1 k p1 (p1.length : Int)) k 0).bind fun x11 => (match x11 with | .inl x12 => some true | .inr x13 => some false))
abbrev C_T_euclid_samples (k : Nat) (p1 : List Int) (r : Bool) : Prop := evF X k n_euclid_samples [(LI p1)] [] = some ((B r), [])
theorem T_euclid_samples_ok (k : Nat) (p1 : List Int) (r : Bool) : T_euclid_samples k p1 = some r → C_T_euclid_samples k p1 r := by
 intro H
 cases k with
 | zero => simp [T_euclid_samples] at H
 | succ k =>
  simp only [T_euclid_samples] at H
  refine F_in X_euclid_samples rfl ?_
  refine K_seq (K_r [] [] (by kernel_rfl) trivial ?_)
  refine K_seq (K_seq (K_r [.n p1.length] [((p1.map (D.int .i64))).length = p1.length] (by kernel_rfl) (A1 (List.length_map _)) ?_))
  refine K_block (K_conv (σ' := ⟨[(5, (LI p1)), (6, (I (p1.length : Int))), (7, (I 0))], []⟩) (by kernel_rfl) ?_)
  obtain ⟨x11, hx11, H⟩ := bind_some' H
  cases x11 with
  | inl x12 =>
   dsimp only at H
   refine K_loop ⟨[], []⟩ (loop_ok (fun (s : Int) => ⟨[(5, (LI p1)), (6, (I (p1.length : Int))), (7, (I s))], []⟩) (fun (r : Unit ⊕ Unit) => Sum.elim (fun y => (.exit 0, ⟨[], []⟩)) (fun y => (.ret, ⟨[(2, (B false))], []⟩)) r) (fun r h => by cases r <;> cases h) (T_euclid_samples_l1_ok k p1 (p1.length : Int)) k 0 (.inl x12) hx11) rfl ?_
   refine K_seq (K_r [] [] (by kernel_rfl) trivial ?_)
   refine K_g (by kernel_rfl) ?_
   cases H
   refine K_ret ?_
   kernel_rfl
  | inr x13 =>
   dsimp only at H
   cases H
   refine K_loopr ⟨[(2, (B false))], []⟩ (loop_ok (fun (s : Int) => ⟨[(5, (LI p1)), (6, (I (p1.length : Int))), (7, (I s))], []⟩) (fun (r : Unit ⊕ Unit) => Sum.elim (fun y => (.exit 0, ⟨[], []⟩)) (fun y => (.ret, ⟨[(2, (B false))], []⟩)) r) (fun r h => by cases r <;> cases h) (T_euclid_samples_l1_ok k p1 (p1.length : Int)) k 0 (.inr x13) hx11) ?_
   kernel_rfl
def T_euclid_check (k : Nat) (p1 : List Int) (p2 : List Int) : Option Int := match k with
 | 0 => none
 | k + 1 => ((((T_euclid_length k p1).bind fun x1 => (if (!(decide (2 ≤ (p1.length : Int)) && decide ((p1.length : Int) ≤ 32))) = true then some true else ((T_euclid_length k p2).bind fun x4 => some (!(decide (2 ≤ (p2.length : Int)) && decide ((p2.length : Int) ≤ 32))))))).bind fun x5 => (if x5 = true then some 8 else ((((T_euclid_samples k p1).bind fun x7 => (if (!x7) = true then some true else ((T_euclid_samples k p2).bind fun x10 => some (!x10))))).bind fun x11 => (if x11 = true then some 12 else (if (!decide ((p1.length : Int) = (p2.length : Int))) = true then some 8 else some 0)))))
abbrev C_T_euclid_check (k : Nat) (p1 : List Int) (p2 : List Int) (r : Int) : Prop := evF X k n_euclid_check [(LI p1), (LI p2)] [] = some ((I r), [])
theorem T_euclid_check_ok (k : Nat) (p1 : List Int) (p2 : List Int) (r : Int) : T_euclid_check k p1 p2 = some r → C_T_euclid_check k p1 p2 r := by
 intro H
 cases k with
 | zero => simp [T_euclid_check] at H
 | succ k =>
  simp only [T_euclid_check] at H
  refine F_in X_euclid_check rfl ?_
  refine K_seq (K_r [] [] (by kernel_rfl) trivial ?_)
  refine K_seq ?_
  refine K_block ?_
  refine K_seq ?_
  obtain ⟨x5, hx5, H⟩ := bind_some' H
  refine K_of ⟨[(0, (LI p1)), (1, (LI p2)), (5, (B x5))], []⟩ ?_ ?_
  · clear H; have H := hx5; clear hx5; refine K_in ?_
    obtain ⟨x1, hx1, H⟩ := bind_some' H
    rcases ite_some H with ⟨hx3, H⟩ | ⟨hx3, H⟩
    · refine K_r [.r (B (decide (2 ≤ (p1.length : Int)) && decide ((p1.length : Int) ≤ 32))) [], .b true] [C_T_euclid_length k p1 x1, (!(decide (2 ≤ (p1.length : Int)) && decide ((p1.length : Int) ≤ 32))) = true] (by kernel_rfl) (AC (T_euclid_length_ok k p1 x1 hx1) (A1 hx3)) ?_
      cases H
      exact K_end (by kernel_rfl)
    · obtain ⟨x4, hx4, H⟩ := bind_some' H
      refine K_r [.r (B (decide (2 ≤ (p1.length : Int)) && decide ((p1.length : Int) ≤ 32))) [], .b false, .r (B (decide (2 ≤ (p2.length : Int)) && decide ((p2.length : Int) ≤ 32))) []] [C_T_euclid_length k p1 x1, (!(decide (2 ≤ (p1.length : Int)) && decide ((p1.length : Int) ≤ 32))) = false, C_T_euclid_length k p2 x4] (by kernel_rfl) (AC (T_euclid_length_ok k p1 x1 hx1) (AC (Bool.eq_false_iff.2 hx3) (A1 (T_euclid_length_ok k p2 x4 hx4)))) ?_
      cases H
      exact K_end (by kernel_rfl)
  rcases ite_some H with ⟨hx6, H⟩ | ⟨hx6, H⟩
  · refine K_t (by kernel_rfl) hx6 ?_
    refine K_seq (K_r [] [] (by kernel_rfl) trivial ?_)
    refine K_g (by kernel_rfl) ?_
    cases H
    refine K_ret ?_
    kernel_rfl
  · refine K_f (by kernel_rfl) (Bool.eq_false_iff.2 hx6) ?_
    refine K_seq ?_
    obtain ⟨x11, hx11, H⟩ := bind_some' H
    refine K_of ⟨[(0, (LI p1)), (1, (LI p2)), (14, (B x11))], []⟩ ?_ ?_
    · clear H; have H := hx11; clear hx11; refine K_in ?_
      obtain ⟨x7, hx7, H⟩ := bind_some' H
      rcases ite_some H with ⟨hx9, H⟩ | ⟨hx9, H⟩
      · refine K_r [.r (B x7) [], .b true] [C_T_euclid_samples k p1 x7, (!x7) = true] (by kernel_rfl) (AC (T_euclid_samples_ok k p1 x7 hx7) (A1 hx9)) ?_
        cases H
        exact K_end (by kernel_rfl)
      · obtain ⟨x10, hx10, H⟩ := bind_some' H
        refine K_r [.r (B x7) [], .b false, .r (B x10) []] [C_T_euclid_samples k p1 x7, (!x7) = false, C_T_euclid_samples k p2 x10] (by kernel_rfl) (AC (T_euclid_samples_ok k p1 x7 hx7) (AC (Bool.eq_false_iff.2 hx9) (A1 (T_euclid_samples_ok k p2 x10 hx10)))) ?_
        cases H
        exact K_end (by kernel_rfl)
    rcases ite_some H with ⟨hx12, H⟩ | ⟨hx12, H⟩
    · refine K_t (by kernel_rfl) hx12 ?_
      refine K_seq (K_r [] [] (by kernel_rfl) trivial ?_)
      refine K_g (by kernel_rfl) ?_
      cases H
      refine K_ret ?_
      kernel_rfl
    · refine K_f (by kernel_rfl) (Bool.eq_false_iff.2 hx12) ?_
      refine K_seq (K_r [.n p1.length, .n p2.length] [((p1.map (D.int .i64))).length = p1.length, ((p2.map (D.int .i64))).length = p2.length] (by kernel_rfl) (AC (List.length_map _) (A1 (List.length_map _))) ?_)
      rcases ite_some H with ⟨hx13, H⟩ | ⟨hx13, H⟩
      · refine K_t (by kernel_rfl) hx13 ?_
        refine K_seq (K_r [] [] (by kernel_rfl) trivial ?_)
        refine K_g (by kernel_rfl) ?_
        cases H
        refine K_ret ?_
        kernel_rfl
      · refine K_f (by kernel_rfl) (Bool.eq_false_iff.2 hx13) ?_
        refine K_g (by kernel_rfl) ?_
        refine K_skip (K_blk (K_seq (K_r [] [] (by kernel_rfl) trivial ?_)))
        refine K_g (by kernel_rfl) ?_
        cases H
        refine K_ret ?_
        kernel_rfl
def T_euclid_square_l1 (k : Nat) (p1 : List Int) (p2 : List Int) (x4 : Int) (x9 : Int × Int) : Option ((Int × Int) ⊕ Int) :=
 (if x9.2 < x4 then ((at? p1 x9.2).bind fun x11 => (at? p2 x9.2).bind fun x12 => some (.inl ((w64 (x9.1 + (w64 ((w64 (x11 - x12)) * (w64 (x11 - x12)))))), (w64 (x9.2 + 1))))) else some (.inr x9.1))
theorem T_euclid_square_l1_ok (k : Nat) (p1 : List Int) (p2 : List Int) (x4 : Int) : ∀ (x9 : Int × Int) (x : (Int × Int) ⊕ Int), T_euclid_square_l1 k p1 p2 x4 x9 = some x → evC X (evF X k) k 0 l_euclid_square_1 ⟨[(1, (LI p2)), (5, (I x9.1)), (8, (LI p1)), (9, (I x4)), (10, (I x9.2))], []⟩ = some (outS (fun (s : Int × Int) => ⟨[(1, (LI p2)), (5, (I s.1)), (8, (LI p1)), (9, (I x4)), (10, (I s.2))], []⟩) (fun (r : Int) => (.exit 0, ⟨[(5, (I r))], []⟩)) x) := by
 intro x9 x H
 unfold T_euclid_square_l1 at H
 refine K_in ?_
 refine K_seq (K_r [] [] (by kernel_rfl) trivial ?_)
 refine K_seq ?_
 rcases ite_some H with ⟨hx10, H⟩ | ⟨hx10, H⟩
 · refine K_t (by kernel_rfl) (decide_eq_true hx10) ?_
   refine K_g (by kernel_rfl) ?_
   refine K_skip ?_
   refine K_seq ?_
   refine K_block ?_
   refine K_seq ?_
   obtain ⟨x11, hx11, H⟩ := bind_some' H
   refine K_r [.l [.int .i64 x11]] [(0 : Int) ≤ x9.2 ∧ x9.2 < (((p1.map (D.int .i64))).length : Int), ((p1.map (D.int .i64)).getD x9.2.toNat (.int .i64 0)).cells = [.int .i64 x11]] (by kernel_rfl) (AC (at_ok hx11 (D.int .i64) (.int .i64 0)).1 (A1 (at_ok hx11 (D.int .i64) (.int .i64 0)).2)) ?_
   obtain ⟨x12, hx12, H⟩ := bind_some' H
   refine K_r [.l [.int .i64 x12], .l [.int .i64 x12]] [(0 : Int) ≤ x9.2 ∧ x9.2 < (((p2.map (D.int .i64))).length : Int), ((p2.map (D.int .i64)).getD x9.2.toNat (.int .i64 0)).cells = [.int .i64 x12], (0 : Int) ≤ x9.2 ∧ x9.2 < (((p2.map (D.int .i64))).length : Int), ((p2.map (D.int .i64)).getD x9.2.toNat (.int .i64 0)).cells = [.int .i64 x12]] (by kernel_rfl) (AC (at_ok hx12 (D.int .i64) (.int .i64 0)).1 (AC (at_ok hx12 (D.int .i64) (.int .i64 0)).2 (AC (at_ok hx12 (D.int .i64) (.int .i64 0)).1 (A1 (at_ok hx12 (D.int .i64) (.int .i64 0)).2)))) ?_
   refine K_blk (K_r [] [] (by kernel_rfl) trivial ?_)
   cases H
   exact K_end (by kernel_rfl)
 · refine K_f (by kernel_rfl) (decide_eq_false hx10) ?_
   refine K_g (by kernel_rfl) ?_
   cases H
   exact K_exit0 rfl (by kernel_rfl)
def T_euclid_square (k : Nat) (p1 : List Int) (p2 : List Int) : Option Int := match k with
 | 0 => none
 | k + 1 => ((loopT (T_euclid_square_l1 k p1 p2 (p1.length : Int)) k (0, 0)).bind fun x13 => some x13)
abbrev C_T_euclid_square (k : Nat) (p1 : List Int) (p2 : List Int) (r : Int) : Prop := evF X k n_euclid_square [(LI p1), (LI p2)] [] = some ((I r), [])
theorem T_euclid_square_ok (k : Nat) (p1 : List Int) (p2 : List Int) (r : Int) : T_euclid_square k p1 p2 = some r → C_T_euclid_square k p1 p2 r := by
 intro H
 cases k with
 | zero => simp [T_euclid_square] at H
 | succ k =>
  simp only [T_euclid_square] at H
  refine F_in X_euclid_square rfl ?_
  refine K_seq (K_r [] [] (by kernel_rfl) trivial ?_)
  refine K_seq (K_r [] [] (by kernel_rfl) trivial ?_)
  refine K_seq (K_seq (K_r [.n p1.length] [((p1.map (D.int .i64))).length = p1.length] (by kernel_rfl) (A1 (List.length_map _)) ?_))
  refine K_block (K_conv (σ' := ⟨[(1, (LI p2)), (5, (I 0)), (8, (LI p1)), (9, (I (p1.length : Int))), (10, (I 0))], []⟩) (by kernel_rfl) ?_)
  obtain ⟨x13, hx13, H⟩ := bind_some' H
  refine K_loop ⟨[(5, (I x13))], []⟩ (loop_ok (fun (s : Int × Int) => ⟨[(1, (LI p2)), (5, (I s.1)), (8, (LI p1)), (9, (I (p1.length : Int))), (10, (I s.2))], []⟩) (fun (r : Int) => (.exit 0, ⟨[(5, (I r))], []⟩)) (fun r h => by cases h) (T_euclid_square_l1_ok k p1 p2 (p1.length : Int)) k (0, 0) x13 hx13) rfl ?_
  refine K_seq (K_r [] [] (by kernel_rfl) trivial ?_)
  refine K_g (by kernel_rfl) ?_
  cases H
  refine K_ret ?_
  kernel_rfl
def T_euclid_Distance (k : Nat) (p1 : List Int) (p2 : List Int) : Option (Int × Int) := match k with
 | 0 => none
 | k + 1 => ((T_euclid_check k p1 p2).bind fun x1 => (if (!decide (x1 = 0)) = true then some (0, x1) else ((T_euclid_square k p1 p2).bind fun x3 => some (x3, 0))))
abbrev C_T_euclid_Distance (k : Nat) (p1 : List Int) (p2 : List Int) (r : Int × Int) : Prop := evF X k n_euclid_Distance [(LI p1), (LI p2)] [] = some ((.tup [(false, [cI r.1]), (false, [cI r.2])]), [])
theorem T_euclid_Distance_ok (k : Nat) (p1 : List Int) (p2 : List Int) (r : Int × Int) : T_euclid_Distance k p1 p2 = some r → C_T_euclid_Distance k p1 p2 r := by
 intro H
 cases k with
 | zero => simp [T_euclid_Distance] at H
 | succ k =>
  simp only [T_euclid_Distance] at H
  refine F_in X_euclid_Distance rfl ?_
  refine K_seq (K_r [] [] (by kernel_rfl) trivial ?_)
  refine K_seq ?_
  refine K_seq ?_
  obtain ⟨x1, hx1, H⟩ := bind_some' H
  refine K_r [.r (I x1) []] [C_T_euclid_check k p1 p2 x1] (by kernel_rfl) (A1 (T_euclid_check_ok k p1 p2 x1 hx1)) ?_
  refine K_seq (K_r [] [] (by kernel_rfl) trivial ?_)
  rcases ite_some H with ⟨hx2, H⟩ | ⟨hx2, H⟩
  · refine K_t (by kernel_rfl) hx2 ?_
    refine K_seq (K_r [] [] (by kernel_rfl) trivial ?_)
    refine K_g (by kernel_rfl) ?_
    cases H
    refine K_ret ?_
    kernel_rfl
  · refine K_f (by kernel_rfl) (Bool.eq_false_iff.2 hx2) ?_
    refine K_g (by kernel_rfl) ?_
    refine K_skip ?_
    refine K_seq ?_
    obtain ⟨x3, hx3, H⟩ := bind_some' H
    refine K_r [.r (I x3) []] [C_T_euclid_square k p1 p2 x3] (by kernel_rfl) (A1 (T_euclid_square_ok k p1 p2 x3 hx3)) ?_
    refine K_g (by kernel_rfl) ?_
    cases H
    refine K_ret ?_
    kernel_rfl
def T_ratio_divisor_l1 (k : Nat) (x5 : Int × Int) : Option ((Int × Int) ⊕ Int) :=
 (if (!decide (x5.2 = 0)) = true then (if x5.2 ≠ 0 then some (.inl (x5.2, (x5.1.tmod x5.2))) else none) else some (.inr x5.1))
theorem T_ratio_divisor_l1_ok (k : Nat) : ∀ (x5 : Int × Int) (x : (Int × Int) ⊕ Int), T_ratio_divisor_l1 k x5 = some x → evC X (evF X k) k 0 l_ratio_divisor_1 ⟨[(0, (I x5.1)), (1, (I x5.2))], []⟩ = some (outS (fun (s : Int × Int) => ⟨[(0, (I s.1)), (1, (I s.2))], []⟩) (fun (r : Int) => (.exit 0, ⟨[(0, (I r))], []⟩)) x) := by
 intro x5 x H
 unfold T_ratio_divisor_l1 at H
 refine K_in ?_
 refine K_seq (K_seq (K_r [] [] (by kernel_rfl) trivial ?_))
 rcases ite_some H with ⟨hx6, H⟩ | ⟨hx6, H⟩
 · refine K_t (by kernel_rfl) hx6 ?_
   refine K_g (by kernel_rfl) ?_
   refine K_skip ?_
   refine K_block ?_
   obtain ⟨hx7, H⟩ := guard_some H
   refine K_r [] [x5.2 ≠ (0 : Int)] (by kernel_rfl) (A1 hx7) ?_
   refine K_blk ?_
   cases H
   exact K_end (by kernel_rfl)
 · refine K_f (by kernel_rfl) (Bool.eq_false_iff.2 hx6) ?_
   refine K_g (by kernel_rfl) ?_
   cases H
   exact K_exit0 rfl (by kernel_rfl)
def T_ratio_divisor (k : Nat) (p1 : Int) (p2 : Int) : Option Int := match k with
 | 0 => none
 | k + 1 => ((loopT (T_ratio_divisor_l1 k) k (p1, p2)).bind fun x8 => some x8)
abbrev C_T_ratio_divisor (k : Nat) (p1 : Int) (p2 : Int) (r : Int) : Prop := evF X k n_ratio_divisor [(I p1), (I p2)] [] = some ((I r), [])
theorem T_ratio_divisor_ok (k : Nat) (p1 : Int) (p2 : Int) (r : Int) : T_ratio_divisor k p1 p2 = some r → C_T_ratio_divisor k p1 p2 r := by
 intro H
 cases k with
 | zero => simp [T_ratio_divisor] at H
 | succ k =>
  simp only [T_ratio_divisor] at H
  refine F_in X_ratio_divisor rfl ?_
  refine K_seq (K_r [] [] (by kernel_rfl) trivial ?_)
  refine K_seq (K_block (K_conv (σ' := ⟨[(0, (I p1)), (1, (I p2))], []⟩) (by kernel_rfl) ?_))
  obtain ⟨x8, hx8, H⟩ := bind_some' H
  refine K_loop ⟨[(0, (I x8))], []⟩ (loop_ok (fun (s : Int × Int) => ⟨[(0, (I s.1)), (1, (I s.2))], []⟩) (fun (r : Int) => (.exit 0, ⟨[(0, (I r))], []⟩)) (fun r h => by cases h) (T_ratio_divisor_l1_ok k) k (p1, p2) x8 hx8) rfl ?_
  refine K_seq (K_r [] [] (by kernel_rfl) trivial ?_)
  refine K_g (by kernel_rfl) ?_
  cases H
  refine K_ret ?_
  kernel_rfl
def T_ratio_within (k : Nat) (p1 : Int) (p2 : Int) : Option Unit := match k with
 | 0 => none
 | k + 1 => some ()
abbrev C_T_ratio_within (k : Nat) (p1 : Int) (p2 : Int) (r : Unit) : Prop := evF X k n_ratio_within [(.agg [cI p1, cI p2])] [] = some ((B (((decide (0 ≤ p1) && decide (p1 ≤ 2305843009213693952)) && decide (1 ≤ p2)) && decide (p2 ≤ 1152921504606846976))), [])
theorem T_ratio_within_ok (k : Nat) (p1 : Int) (p2 : Int) (r : Unit) : T_ratio_within k p1 p2 = some r → C_T_ratio_within k p1 p2 r := by
 intro H
 cases k with
 | zero => simp [T_ratio_within] at H
 | succ k =>
  simp only [T_ratio_within] at H
  refine F_in X_ratio_within rfl ?_
  refine K_seq (K_r [] [] (by kernel_rfl) trivial ?_)
  refine K_seq (K_r [.m, .m, .m] ((fun (z1 : Heap) => [z1 = z1, z1 = z1, z1 = z1]) [.cells [cI p1, cI p2]]) (by kernel_rfl) (AC rfl (AC rfl (A1 rfl))) ?_)
  refine K_g (by kernel_rfl) ?_
  cases H
  refine K_ret ?_
  kernel_rfl
def T_ratio_Make (k : Nat) (p1 : Int) (p2 : Int) : Option (Int × Int × Int) := match k with
 | 0 => none
 | k + 1 => (if (decide (p1 < 0) || decide (p2 < 1)) = true then some (0, 0, 1) else (T_ratio_divisor k p1 p2).bind fun x2 => (if x2 ≠ 0 then (T_ratio_within k (w64 (p1.tdiv x2)) (w64 (p2.tdiv x2))).bind fun x4 => (if (!(((decide (0 ≤ (w64 (p1.tdiv x2))) && decide ((w64 (p1.tdiv x2)) ≤ 2305843009213693952)) && decide (1 ≤ (w64 (p2.tdiv x2)))) && decide ((w64 (p2.tdiv x2)) ≤ 1152921504606846976))) = true then some (0, 0, 1) else some ((w64 (p1.tdiv x2)), (w64 (p2.tdiv x2)), 0)) else none))
abbrev C_T_ratio_Make (k : Nat) (p1 : Int) (p2 : Int) (r : Int × Int × Int) : Prop := evF X k n_ratio_Make [(I p1), (I p2)] [] = some ((.tup [(true, [cI r.1, cI r.2.1]), (false, [cI r.2.2])]), [])
theorem T_ratio_Make_ok (k : Nat) (p1 : Int) (p2 : Int) (r : Int × Int × Int) : T_ratio_Make k p1 p2 = some r → C_T_ratio_Make k p1 p2 r := by
 intro H
 cases k with
 | zero => simp [T_ratio_Make] at H
 | succ k =>
  simp only [T_ratio_Make] at H
  refine F_in X_ratio_Make rfl ?_
  refine K_seq (K_r [] [] (by kernel_rfl) trivial ?_)
  refine K_seq (K_seq (K_r [.m] [([.cells [cI 0, cI 0]] : Heap) = [.cells [cI 0, cI 0]]] (by kernel_rfl) (A1 rfl) ?_))
  rcases ite_some H with ⟨hx1, H⟩ | ⟨hx1, H⟩
  · refine K_t (by kernel_rfl) hx1 ?_
    refine K_seq (K_r [] [] (by kernel_rfl) trivial ?_)
    refine K_g (by kernel_rfl) ?_
    cases H
    refine K_ret ?_
    kernel_rfl
  · refine K_f (by kernel_rfl) (Bool.eq_false_iff.2 hx1) ?_
    refine K_g (by kernel_rfl) ?_
    refine K_skip ?_
    refine K_seq ?_
    obtain ⟨x2, hx2, H⟩ := bind_some' H
    refine K_r [.r (I x2) []] [C_T_ratio_divisor k p1 p2 x2] (by kernel_rfl) (A1 (T_ratio_divisor_ok k p1 p2 x2 hx2)) ?_
    refine K_seq ?_
    obtain ⟨hx3, H⟩ := guard_some H
    refine K_r [] [x2 ≠ (0 : Int), x2 ≠ (0 : Int)] (by kernel_rfl) (AC hx3 (A1 hx3)) ?_
    refine K_seq ?_
    refine K_seq ?_
    obtain ⟨x4, hx4, H⟩ := bind_some' H
    refine K_r [.r (B (((decide (0 ≤ (w64 (p1.tdiv x2))) && decide ((w64 (p1.tdiv x2)) ≤ 2305843009213693952)) && decide (1 ≤ (w64 (p2.tdiv x2)))) && decide ((w64 (p2.tdiv x2)) ≤ 1152921504606846976))) []] [C_T_ratio_within k (w64 (p1.tdiv x2)) (w64 (p2.tdiv x2)) x4] (by kernel_rfl) (A1 (T_ratio_within_ok k (w64 (p1.tdiv x2)) (w64 (p2.tdiv x2)) x4 hx4)) ?_
    rcases ite_some H with ⟨hx5, H⟩ | ⟨hx5, H⟩
    · refine K_t (by kernel_rfl) hx5 ?_
      refine K_seq (K_r [] [] (by kernel_rfl) trivial ?_)
      refine K_g (by kernel_rfl) ?_
      cases H
      refine K_ret ?_
      kernel_rfl
    · refine K_f (by kernel_rfl) (Bool.eq_false_iff.2 hx5) ?_
      refine K_g (by kernel_rfl) ?_
      refine K_skip (K_seq (K_r [] [] (by kernel_rfl) trivial ?_))
      refine K_g (by kernel_rfl) ?_
      cases H
      refine K_ret ?_
      kernel_rfl
def T_measure_whole (k : Nat) (p1 : Int) (p2 : Int) : Option (Int × Int × Int) := match k with
 | 0 => none
 | k + 1 => (if (!decide (p2 = 0)) = true then some (0, 0, p2) else ((T_ratio_Make k p1 1).bind fun x2 => some (x2.1, x2.2.1, x2.2.2)))
abbrev C_T_measure_whole (k : Nat) (p1 : Int) (p2 : Int) (r : Int × Int × Int) : Prop := evF X k n_measure_whole [(I p1), (I p2)] [] = some ((.tup [(true, [cI r.1, cI r.2.1]), (false, [cI r.2.2])]), [])
theorem T_measure_whole_ok (k : Nat) (p1 : Int) (p2 : Int) (r : Int × Int × Int) : T_measure_whole k p1 p2 = some r → C_T_measure_whole k p1 p2 r := by
 intro H
 cases k with
 | zero => simp [T_measure_whole] at H
 | succ k =>
  simp only [T_measure_whole] at H
  refine F_in X_measure_whole rfl ?_
  refine K_seq (K_r [] [] (by kernel_rfl) trivial ?_)
  refine K_seq (K_seq (K_r [] [] (by kernel_rfl) trivial ?_))
  rcases ite_some H with ⟨hx1, H⟩ | ⟨hx1, H⟩
  · refine K_t (by kernel_rfl) hx1 ?_
    refine K_seq (K_r [] [] (by kernel_rfl) trivial ?_)
    refine K_g (by kernel_rfl) ?_
    cases H
    refine K_ret ?_
    kernel_rfl
  · refine K_f (by kernel_rfl) (Bool.eq_false_iff.2 hx1) ?_
    refine K_g (by kernel_rfl) ?_
    refine K_skip ?_
    refine K_seq ?_
    obtain ⟨x2, hx2, H⟩ := bind_some' H
    refine K_r [.r (.tup [(true, [cI x2.1, cI x2.2.1]), (false, [cI x2.2.2])]) []] [C_T_ratio_Make k p1 1 x2] (by kernel_rfl) (A1 (T_ratio_Make_ok k p1 1 x2 hx2)) ?_
    refine K_g (by kernel_rfl) ?_
    cases H
    refine K_ret ?_
    kernel_rfl
def T_measure_distances_1 (k : Nat) (p1 : List Int) (p2 : List Int) : Option (Int × Int × Int) := match k with
 | 0 => none
 | k + 1 => ((T_euclid_Distance k p1 p2).bind fun x1 => (T_measure_whole k x1.1 x1.2).bind fun x2 => some (x2.1, x2.2.1, x2.2.2))
abbrev C_T_measure_distances_1 (k : Nat) (p1 : List Int) (p2 : List Int) (r : Int × Int × Int) : Prop := evF X k n_measure_distances_1 [(LI p1), (LI p2)] [] = some ((.tup [(true, [cI r.1, cI r.2.1]), (false, [cI r.2.2])]), [])
theorem T_measure_distances_1_ok (k : Nat) (p1 : List Int) (p2 : List Int) (r : Int × Int × Int) : T_measure_distances_1 k p1 p2 = some r → C_T_measure_distances_1 k p1 p2 r := by
 intro H
 cases k with
 | zero => simp [T_measure_distances_1] at H
 | succ k =>
  simp only [T_measure_distances_1] at H
  refine F_in X_measure_distances_1 rfl ?_
  refine K_seq (K_r [] [] (by kernel_rfl) trivial ?_)
  refine K_seq ?_
  obtain ⟨x1, hx1, H⟩ := bind_some' H
  obtain ⟨x2, hx2, H⟩ := bind_some' H
  refine K_r [.r (.tup [(false, [cI x1.1]), (false, [cI x1.2])]) [], .r (.tup [(true, [cI x2.1, cI x2.2.1]), (false, [cI x2.2.2])]) []] [C_T_euclid_Distance k p1 p2 x1, C_T_measure_whole k x1.1 x1.2 x2] (by kernel_rfl) (AC (T_euclid_Distance_ok k p1 p2 x1 hx1) (A1 (T_measure_whole_ok k x1.1 x1.2 x2 hx2))) ?_
  refine K_g (by kernel_rfl) ?_
  cases H
  refine K_ret ?_
  kernel_rfl
def T_euclid_Shifted_l1 (k : Nat) (p1 : List Int) (p2 : List Int) (x6 : Int) (x8 : Int) (x15 : Int × Int) : Option ((Int × Int) ⊕ Int) :=
 (if x15.2 < x8 then ((at? p1 x15.2).bind fun x17 => (at? p2 x15.2).bind fun x18 => some (.inl ((w64 (x15.1 + (w64 (x17 - x18)))), (w64 (x15.2 + 1))))) else some (.inr x15.1))
theorem T_euclid_Shifted_l1_ok (k : Nat) (p1 : List Int) (p2 : List Int) (x6 : Int) (x8 : Int) : ∀ (x15 : Int × Int) (x : (Int × Int) ⊕ Int), T_euclid_Shifted_l1 k p1 p2 x6 x8 x15 = some x → evC X (evF X k) k 0 l_euclid_Shifted_1 ⟨[(0, (LI p1)), (1, (LI p2)), (4, (Pt 0)), (7, (I x15.1)), (8, (I x6)), (20, (LI p1)), (21, (I x8)), (22, (I x15.2))], [.cells [cI 0, cI 0]]⟩ = some (outS (fun (s : Int × Int) => ⟨[(0, (LI p1)), (1, (LI p2)), (4, (Pt 0)), (7, (I s.1)), (8, (I x6)), (20, (LI p1)), (21, (I x8)), (22, (I s.2))], [.cells [cI 0, cI 0]]⟩) (fun (r : Int) => (.exit 0, ⟨[(0, (LI p1)), (1, (LI p2)), (4, (Pt 0)), (7, (I r)), (8, (I x6))], [.cells [cI 0, cI 0]]⟩)) x) := by
 intro x15 x H
 unfold T_euclid_Shifted_l1 at H
 refine K_in ?_
 refine K_seq (K_r [] [] (by kernel_rfl) trivial ?_)
 refine K_seq ?_
 rcases ite_some H with ⟨hx16, H⟩ | ⟨hx16, H⟩
 · refine K_t (by kernel_rfl) (decide_eq_true hx16) ?_
   refine K_g (by kernel_rfl) ?_
   refine K_skip ?_
   refine K_seq ?_
   refine K_block ?_
   refine K_seq ?_
   obtain ⟨x17, hx17, H⟩ := bind_some' H
   refine K_r [.l [.int .i64 x17]] [(0 : Int) ≤ x15.2 ∧ x15.2 < (((p1.map (D.int .i64))).length : Int), ((p1.map (D.int .i64)).getD x15.2.toNat (.int .i64 0)).cells = [.int .i64 x17]] (by kernel_rfl) (AC (at_ok hx17 (D.int .i64) (.int .i64 0)).1 (A1 (at_ok hx17 (D.int .i64) (.int .i64 0)).2)) ?_
   obtain ⟨x18, hx18, H⟩ := bind_some' H
   refine K_r [.l [.int .i64 x18]] [(0 : Int) ≤ x15.2 ∧ x15.2 < (((p2.map (D.int .i64))).length : Int), ((p2.map (D.int .i64)).getD x15.2.toNat (.int .i64 0)).cells = [.int .i64 x18]] (by kernel_rfl) (AC (at_ok hx18 (D.int .i64) (.int .i64 0)).1 (A1 (at_ok hx18 (D.int .i64) (.int .i64 0)).2)) ?_
   refine K_blk (K_r [] [] (by kernel_rfl) trivial ?_)
   cases H
   exact K_end (by kernel_rfl)
 · refine K_f (by kernel_rfl) (decide_eq_false hx16) ?_
   refine K_g (by kernel_rfl) ?_
   cases H
   exact K_exit0 rfl (by kernel_rfl)
def T_euclid_Shifted (k : Nat) (p1 : List Int) (p2 : List Int) : Option (Int × Int × Int) := match k with
 | 0 => none
 | k + 1 => ((T_euclid_check k p1 p2).bind fun x1 => (if (!decide (x1 = 0)) = true then some (0, 0, x1) else ((loopT (T_euclid_Shifted_l1 k p1 p2 (p1.length : Int) (p1.length : Int)) k (0, 0)).bind fun x19 => (T_euclid_square k p1 p2).bind fun x20 => (T_ratio_Make k (w64 ((w64 ((p1.length : Int) * x20)) - (w64 (x19 * x19)))) (p1.length : Int)).bind fun x21 => some (x21.1, x21.2.1, x21.2.2))))
abbrev C_T_euclid_Shifted (k : Nat) (p1 : List Int) (p2 : List Int) (r : Int × Int × Int) : Prop := evF X k n_euclid_Shifted [(LI p1), (LI p2)] [] = some ((.tup [(true, [cI r.1, cI r.2.1]), (false, [cI r.2.2])]), [])
theorem T_euclid_Shifted_ok (k : Nat) (p1 : List Int) (p2 : List Int) (r : Int × Int × Int) : T_euclid_Shifted k p1 p2 = some r → C_T_euclid_Shifted k p1 p2 r := by
 intro H
 cases k with
 | zero => simp [T_euclid_Shifted] at H
 | succ k =>
  simp only [T_euclid_Shifted] at H
  refine F_in X_euclid_Shifted rfl ?_
  refine K_seq (K_r [] [] (by kernel_rfl) trivial ?_)
  refine K_seq ?_
  refine K_seq ?_
  obtain ⟨x1, hx1, H⟩ := bind_some' H
  refine K_r [.r (I x1) []] [C_T_euclid_check k p1 p2 x1] (by kernel_rfl) (A1 (T_euclid_check_ok k p1 p2 x1 hx1)) ?_
  refine K_seq (K_r [] [] (by kernel_rfl) trivial ?_)
  rcases ite_some H with ⟨hx2, H⟩ | ⟨hx2, H⟩
  · refine K_t (by kernel_rfl) hx2 ?_
    refine K_seq (K_r [] [] (by kernel_rfl) trivial ?_)
    refine K_g (by kernel_rfl) ?_
    cases H
    refine K_ret ?_
    kernel_rfl
  · refine K_f (by kernel_rfl) (Bool.eq_false_iff.2 hx2) ?_
    refine K_g (by kernel_rfl) ?_
    refine K_skip (K_seq (K_r [.n p1.length] [((p1.map (D.int .i64))).length = p1.length] (by kernel_rfl) (A1 (List.length_map _)) ?_))
    refine K_seq (K_seq (K_r [.n p1.length] [((p1.map (D.int .i64))).length = p1.length] (by kernel_rfl) (A1 (List.length_map _)) ?_))
    refine K_block (K_conv (σ' := ⟨[(0, (LI p1)), (1, (LI p2)), (4, (Pt 0)), (7, (I 0)), (8, (I (p1.length : Int))), (20, (LI p1)), (21, (I (p1.length : Int))), (22, (I 0))], [.cells [cI 0, cI 0]]⟩) (by kernel_rfl) ?_)
    obtain ⟨x19, hx19, H⟩ := bind_some' H
    refine K_loop ⟨[(0, (LI p1)), (1, (LI p2)), (4, (Pt 0)), (7, (I x19)), (8, (I (p1.length : Int)))], [.cells [cI 0, cI 0]]⟩ (loop_ok (fun (s : Int × Int) => ⟨[(0, (LI p1)), (1, (LI p2)), (4, (Pt 0)), (7, (I s.1)), (8, (I (p1.length : Int))), (20, (LI p1)), (21, (I (p1.length : Int))), (22, (I s.2))], [.cells [cI 0, cI 0]]⟩) (fun (r : Int) => (.exit 0, ⟨[(0, (LI p1)), (1, (LI p2)), (4, (Pt 0)), (7, (I r)), (8, (I (p1.length : Int)))], [.cells [cI 0, cI 0]]⟩)) (fun r h => by cases h) (T_euclid_Shifted_l1_ok k p1 p2 (p1.length : Int) (p1.length : Int)) k (0, 0) x19 hx19) rfl ?_
    refine K_seq ?_
    obtain ⟨x20, hx20, H⟩ := bind_some' H
    obtain ⟨x21, hx21, H⟩ := bind_some' H
    refine K_r [.r (I x20) [], .r (.tup [(true, [cI x21.1, cI x21.2.1]), (false, [cI x21.2.2])]) []] [C_T_euclid_square k p1 p2 x20, C_T_ratio_Make k (w64 ((w64 ((p1.length : Int) * x20)) - (w64 (x19 * x19)))) (p1.length : Int) x21] (by kernel_rfl) (AC (T_euclid_square_ok k p1 p2 x20 hx20) (A1 (T_ratio_Make_ok k (w64 ((w64 ((p1.length : Int) * x20)) - (w64 (x19 * x19)))) (p1.length : Int) x21 hx21))) ?_
    refine K_g (by kernel_rfl) ?_
    cases H
    refine K_ret ?_
    kernel_rfl
def T_window_Variance (k : Nat) (p1 : Int) (p2 : Int) (p3 : Int) : Option Int := match k with
 | 0 => none
 | k + 1 => (if (((((decide (p1 < 1) || decide (2000 < p1)) || decide (p2 < (w64 ((-1000) * p1)))) || decide ((w64 (1000 * p1)) < p2)) || decide (p3 < 0)) || decide ((w64 (1000000 * p1)) < p3)) = true then some 0 else some (imax 0 (w64 ((w64 (p1 * p3)) - (w64 (p2 * p2))))))
abbrev C_T_window_Variance (k : Nat) (p1 : Int) (p2 : Int) (p3 : Int) (r : Int) : Prop := evF X k n_window_Variance [(.agg [cI p1, cI p2, cI p3])] [] = some ((I r), [])
theorem T_window_Variance_ok (k : Nat) (p1 : Int) (p2 : Int) (p3 : Int) (r : Int) : T_window_Variance k p1 p2 p3 = some r → C_T_window_Variance k p1 p2 p3 r := by
 intro H
 cases k with
 | zero => simp [T_window_Variance] at H
 | succ k =>
  simp only [T_window_Variance] at H
  refine F_in X_window_Variance rfl ?_
  refine K_seq (K_r [] [] (by kernel_rfl) trivial ?_)
  refine K_seq (K_seq (K_r [.m, .m, .m, .m, .m] ((fun (z1 : Heap) => [z1 = z1, z1 = z1, z1 = z1, z1 = z1, z1 = z1]) [.cells [cI p1, cI p2, cI p3]]) (by kernel_rfl) (AC rfl (AC rfl (AC rfl (AC rfl (A1 rfl))))) ?_))
  rcases ite_some H with ⟨hx1, H⟩ | ⟨hx1, H⟩
  · refine K_t (by kernel_rfl) hx1 ?_
    refine K_seq (K_r [] [] (by kernel_rfl) trivial ?_)
    refine K_g (by kernel_rfl) ?_
    cases H
    refine K_ret ?_
    kernel_rfl
  · refine K_f (by kernel_rfl) (Bool.eq_false_iff.2 hx1) ?_
    refine K_g (by kernel_rfl) ?_
    refine K_skip (K_seq (K_r [] [] (by kernel_rfl) trivial ?_))
    refine K_g (by kernel_rfl) ?_
    cases H
    refine K_ret ?_
    kernel_rfl
def T_normal_variance_l1 (k : Nat) (p1 : List Int) (x2 : Int) (x4 : Int) (x9 : Int × Int × Int) : Option ((Int × Int × Int) ⊕ ((Int × Int))) :=
 (if x9.1 < x2 then ((at? p1 x9.1).bind fun x11 => some (.inl ((w64 (x9.1 + 1)), (w64 (x9.2.1 + x11)), (w64 (x9.2.2 + (w64 (x11 * x11))))))) else some (.inr (x9.2.1, x9.2.2)))
theorem T_normal_variance_l1_ok (k : Nat) (p1 : List Int) (x2 : Int) (x4 : Int) : ∀ (x9 : Int × Int × Int) (x : (Int × Int × Int) ⊕ ((Int × Int))), T_normal_variance_l1 k p1 x2 x4 x9 = some x → evC X (evF X k) k 0 l_normal_variance_1 ⟨[(3, (Pt 0)), (9, (LI p1)), (10, (I x2)), (11, (I x9.1))], [.cells [cI x4, cI x9.2.1, cI x9.2.2]]⟩ = some (outS (fun (s : Int × Int × Int) => ⟨[(3, (Pt 0)), (9, (LI p1)), (10, (I x2)), (11, (I s.1))], [.cells [cI x4, cI s.2.1, cI s.2.2]]⟩) (fun (r : (Int × Int)) => (.exit 0, ⟨[(3, (Pt 0))], [.cells [cI x4, cI r.1, cI r.2]]⟩)) x) := by
 intro x9 x H
 unfold T_normal_variance_l1 at H
 refine K_in ?_
 refine K_seq (K_r [] [] (by kernel_rfl) trivial ?_)
 refine K_seq ?_
 rcases ite_some H with ⟨hx10, H⟩ | ⟨hx10, H⟩
 · refine K_t (by kernel_rfl) (decide_eq_true hx10) ?_
   refine K_g (by kernel_rfl) ?_
   refine K_skip ?_
   refine K_seq ?_
   refine K_block ?_
   refine K_seq ?_
   obtain ⟨x11, hx11, H⟩ := bind_some' H
   refine K_r [.l [.int .i64 x11]] [(0 : Int) ≤ x9.1 ∧ x9.1 < (((p1.map (D.int .i64))).length : Int), ((p1.map (D.int .i64)).getD x9.1.toNat (.int .i64 0)).cells = [.int .i64 x11]] (by kernel_rfl) (AC (at_ok hx11 (D.int .i64) (.int .i64 0)).1 (A1 (at_ok hx11 (D.int .i64) (.int .i64 0)).2)) ?_
   refine K_seq (K_r [] [] (by kernel_rfl) trivial ?_)
   refine K_r [] [] (by kernel_rfl) trivial ?_
   refine K_blk (K_r [] [] (by kernel_rfl) trivial ?_)
   cases H
   exact K_end (by kernel_rfl)
 · refine K_f (by kernel_rfl) (decide_eq_false hx10) ?_
   refine K_g (by kernel_rfl) ?_
   cases H
   exact K_exit0 rfl (by kernel_rfl)
def T_normal_variance (k : Nat) (p1 : List Int) : Option Int := match k with
 | 0 => none
 | k + 1 => ((loopT (T_normal_variance_l1 k p1 (p1.length : Int) (p1.length : Int)) k (0, 0, 0)).bind fun x12 => (T_window_Variance k (p1.length : Int) x12.1 x12.2).bind fun x13 => some x13)
abbrev C_T_normal_variance (k : Nat) (p1 : List Int) (r : Int) : Prop := evF X k n_normal_variance [(LI p1)] [] = some ((I r), [])
theorem T_normal_variance_ok (k : Nat) (p1 : List Int) (r : Int) : T_normal_variance k p1 = some r → C_T_normal_variance k p1 r := by
 intro H
 cases k with
 | zero => simp [T_normal_variance] at H
 | succ k =>
  simp only [T_normal_variance] at H
  refine F_in X_normal_variance rfl ?_
  refine K_seq (K_r [] [] (by kernel_rfl) trivial ?_)
  refine K_seq (K_r [.n p1.length] [((p1.map (D.int .i64))).length = p1.length] (by kernel_rfl) (A1 (List.length_map _)) ?_)
  refine K_seq (K_seq (K_r [.n p1.length] [((p1.map (D.int .i64))).length = p1.length] (by kernel_rfl) (A1 (List.length_map _)) ?_))
  refine K_block (K_conv (σ' := ⟨[(3, (Pt 0)), (9, (LI p1)), (10, (I (p1.length : Int))), (11, (I 0))], [.cells [cI (p1.length : Int), cI 0, cI 0]]⟩) (by kernel_rfl) ?_)
  obtain ⟨x12, hx12, H⟩ := bind_some' H
  refine K_loop ⟨[(3, (Pt 0))], [.cells [cI (p1.length : Int), cI x12.1, cI x12.2]]⟩ (loop_ok (fun (s : Int × Int × Int) => ⟨[(3, (Pt 0)), (9, (LI p1)), (10, (I (p1.length : Int))), (11, (I s.1))], [.cells [cI (p1.length : Int), cI s.2.1, cI s.2.2]]⟩) (fun (r : (Int × Int)) => (.exit 0, ⟨[(3, (Pt 0))], [.cells [cI (p1.length : Int), cI r.1, cI r.2]]⟩)) (fun r h => by cases h) (T_normal_variance_l1_ok k p1 (p1.length : Int) (p1.length : Int)) k (0, 0, 0) x12 hx12) rfl ?_
  refine K_seq ?_
  obtain ⟨x13, hx13, H⟩ := bind_some' H
  refine K_r [.r (I x13) []] [C_T_window_Variance k (p1.length : Int) x12.1 x12.2 x13] (by kernel_rfl) (A1 (T_window_Variance_ok k (p1.length : Int) x12.1 x12.2 x13 hx13)) ?_
  refine K_g (by kernel_rfl) ?_
  cases H
  refine K_ret ?_
  kernel_rfl
def T_normal_product_l1 (k : Nat) (p1 : List Int) (p2 : List Int) (x7 : Int) (x12 : Int × Int × Int × Int) : Option ((Int × Int × Int × Int) ⊕ ((Int × Int × Int))) :=
 (if x12.2.2.2 < x7 then ((at? p1 x12.2.2.2).bind fun x14 => (at? p2 x12.2.2.2).bind fun x15 => some (.inl ((w64 (x12.1 + (w64 (x14 * x15)))), (w64 (x12.2.1 + x14)), (w64 (x12.2.2.1 + x15)), (w64 (x12.2.2.2 + 1))))) else some (.inr (x12.1, x12.2.1, x12.2.2.1)))
theorem T_normal_product_l1_ok (k : Nat) (p1 : List Int) (p2 : List Int) (x7 : Int) : ∀ (x12 : Int × Int × Int × Int) (x : (Int × Int × Int × Int) ⊕ ((Int × Int × Int))), T_normal_product_l1 k p1 p2 x7 x12 = some x → evC X (evF X k) k 0 l_normal_product_1 ⟨[(0, (LI p1)), (1, (LI p2)), (5, (I x12.1)), (6, (I x12.2.1)), (7, (I x12.2.2.1)), (10, (LI p1)), (11, (I x7)), (12, (I x12.2.2.2))], []⟩ = some (outS (fun (s : Int × Int × Int × Int) => ⟨[(0, (LI p1)), (1, (LI p2)), (5, (I s.1)), (6, (I s.2.1)), (7, (I s.2.2.1)), (10, (LI p1)), (11, (I x7)), (12, (I s.2.2.2))], []⟩) (fun (r : (Int × Int × Int)) => (.exit 0, ⟨[(0, (LI p1)), (5, (I r.1)), (6, (I r.2.1)), (7, (I r.2.2))], []⟩)) x) := by
 intro x12 x H
 unfold T_normal_product_l1 at H
 refine K_in ?_
 refine K_seq (K_r [] [] (by kernel_rfl) trivial ?_)
 refine K_seq ?_
 rcases ite_some H with ⟨hx13, H⟩ | ⟨hx13, H⟩
 · refine K_t (by kernel_rfl) (decide_eq_true hx13) ?_
   refine K_g (by kernel_rfl) ?_
   refine K_skip ?_
   refine K_seq ?_
   refine K_block ?_
   refine K_seq ?_
   obtain ⟨x14, hx14, H⟩ := bind_some' H
   refine K_r [.l [.int .i64 x14]] [(0 : Int) ≤ x12.2.2.2 ∧ x12.2.2.2 < (((p1.map (D.int .i64))).length : Int), ((p1.map (D.int .i64)).getD x12.2.2.2.toNat (.int .i64 0)).cells = [.int .i64 x14]] (by kernel_rfl) (AC (at_ok hx14 (D.int .i64) (.int .i64 0)).1 (A1 (at_ok hx14 (D.int .i64) (.int .i64 0)).2)) ?_
   obtain ⟨x15, hx15, H⟩ := bind_some' H
   refine K_r [.l [.int .i64 x15], .l [.int .i64 x15]] [(0 : Int) ≤ x12.2.2.2 ∧ x12.2.2.2 < (((p2.map (D.int .i64))).length : Int), ((p2.map (D.int .i64)).getD x12.2.2.2.toNat (.int .i64 0)).cells = [.int .i64 x15], (0 : Int) ≤ x12.2.2.2 ∧ x12.2.2.2 < (((p2.map (D.int .i64))).length : Int), ((p2.map (D.int .i64)).getD x12.2.2.2.toNat (.int .i64 0)).cells = [.int .i64 x15]] (by kernel_rfl) (AC (at_ok hx15 (D.int .i64) (.int .i64 0)).1 (AC (at_ok hx15 (D.int .i64) (.int .i64 0)).2 (AC (at_ok hx15 (D.int .i64) (.int .i64 0)).1 (A1 (at_ok hx15 (D.int .i64) (.int .i64 0)).2)))) ?_
   refine K_blk (K_r [] [] (by kernel_rfl) trivial ?_)
   cases H
   exact K_end (by kernel_rfl)
 · refine K_f (by kernel_rfl) (decide_eq_false hx13) ?_
   refine K_g (by kernel_rfl) ?_
   cases H
   exact K_exit0 rfl (by kernel_rfl)
def T_normal_product (k : Nat) (p1 : List Int) (p2 : List Int) : Option Int := match k with
 | 0 => none
 | k + 1 => ((loopT (T_normal_product_l1 k p1 p2 (p1.length : Int)) k (0, 0, 0, 0)).bind fun x16 => some (w64 ((w64 ((p1.length : Int) * x16.1)) - (w64 (x16.2.1 * x16.2.2)))))
abbrev C_T_normal_product (k : Nat) (p1 : List Int) (p2 : List Int) (r : Int) : Prop := evF X k n_normal_product [(LI p1), (LI p2)] [] = some ((I r), [])
theorem T_normal_product_ok (k : Nat) (p1 : List Int) (p2 : List Int) (r : Int) : T_normal_product k p1 p2 = some r → C_T_normal_product k p1 p2 r := by
 intro H
 cases k with
 | zero => simp [T_normal_product] at H
 | succ k =>
  simp only [T_normal_product] at H
  refine F_in X_normal_product rfl ?_
  refine K_seq (K_r [] [] (by kernel_rfl) trivial ?_)
  refine K_seq (K_r [] [] (by kernel_rfl) trivial ?_)
  refine K_seq (K_seq (K_r [.n p1.length] [((p1.map (D.int .i64))).length = p1.length] (by kernel_rfl) (A1 (List.length_map _)) ?_))
  refine K_block (K_conv (σ' := ⟨[(0, (LI p1)), (1, (LI p2)), (5, (I 0)), (6, (I 0)), (7, (I 0)), (10, (LI p1)), (11, (I (p1.length : Int))), (12, (I 0))], []⟩) (by kernel_rfl) ?_)
  obtain ⟨x16, hx16, H⟩ := bind_some' H
  refine K_loop ⟨[(0, (LI p1)), (5, (I x16.1)), (6, (I x16.2.1)), (7, (I x16.2.2))], []⟩ (loop_ok (fun (s : Int × Int × Int × Int) => ⟨[(0, (LI p1)), (1, (LI p2)), (5, (I s.1)), (6, (I s.2.1)), (7, (I s.2.2.1)), (10, (LI p1)), (11, (I (p1.length : Int))), (12, (I s.2.2.2))], []⟩) (fun (r : (Int × Int × Int)) => (.exit 0, ⟨[(0, (LI p1)), (5, (I r.1)), (6, (I r.2.1)), (7, (I r.2.2))], []⟩)) (fun r h => by cases h) (T_normal_product_l1_ok k p1 p2 (p1.length : Int)) k (0, 0, 0, 0) x16 hx16) rfl ?_
  refine K_seq (K_r [.n p1.length] [((p1.map (D.int .i64))).length = p1.length] (by kernel_rfl) (A1 (List.length_map _)) ?_)
  refine K_g (by kernel_rfl) ?_
  cases H
  refine K_ret ?_
  kernel_rfl
def T_normal_gap (k : Nat) (p1 : List Int) (p2 : List Int) : Option (Int × Int × Int) := match k with
 | 0 => none
 | k + 1 => ((T_normal_variance k p1).bind fun x1 => (T_normal_variance k p2).bind fun x2 => (if (decide (x1 = 0) && decide (x2 = 0)) = true then ((T_ratio_Make k 0 1).bind fun x4 => some (x4.1, x4.2.1, x4.2.2)) else (if (decide (x1 = 0) || decide (x2 = 0)) = true then ((T_ratio_Make k 1 1).bind fun x6 => some (x6.1, x6.2.1, x6.2.2)) else ((T_normal_product k p1 p2).bind fun x7 => (if x7 < 0 then ((T_ratio_Make k (w64 ((w64 (x1 * x2)) + (w64 (x7 * x7)))) (w64 (x1 * x2))).bind fun x9 => some (x9.1, x9.2.1, x9.2.2)) else ((T_ratio_Make k (w64 ((w64 (x1 * x2)) - (w64 (x7 * x7)))) (w64 (x1 * x2))).bind fun x10 => some (x10.1, x10.2.1, x10.2.2)))))))
abbrev C_T_normal_gap (k : Nat) (p1 : List Int) (p2 : List Int) (r : Int × Int × Int) : Prop := evF X k n_normal_gap [(LI p1), (LI p2)] [] = some ((.tup [(true, [cI r.1, cI r.2.1]), (false, [cI r.2.2])]), [])
theorem T_normal_gap_ok (k : Nat) (p1 : List Int) (p2 : List Int) (r : Int × Int × Int) : T_normal_gap k p1 p2 = some r → C_T_normal_gap k p1 p2 r := by
 intro H
 cases k with
 | zero => simp [T_normal_gap] at H
 | succ k =>
  simp only [T_normal_gap] at H
  refine F_in X_normal_gap rfl ?_
  refine K_seq (K_r [] [] (by kernel_rfl) trivial ?_)
  refine K_seq ?_
  obtain ⟨x1, hx1, H⟩ := bind_some' H
  obtain ⟨x2, hx2, H⟩ := bind_some' H
  refine K_r [.r (I x1) [], .r (I x2) []] [C_T_normal_variance k p1 x1, C_T_normal_variance k p2 x2] (by kernel_rfl) (AC (T_normal_variance_ok k p1 x1 hx1) (A1 (T_normal_variance_ok k p2 x2 hx2))) ?_
  refine K_seq (K_block (K_seq (K_r [.m] [([.cells [cI 0, cI 0]] : Heap) = [.cells [cI 0, cI 0]]] (by kernel_rfl) (A1 rfl) ?_)))
  rcases ite_some H with ⟨hx3, H⟩ | ⟨hx3, H⟩
  · refine K_t (by kernel_rfl) hx3 ?_
    refine K_seq ?_
    obtain ⟨x4, hx4, H⟩ := bind_some' H
    refine K_r [.r (.tup [(true, [cI x4.1, cI x4.2.1]), (false, [cI x4.2.2])]) []] [C_T_ratio_Make k 0 1 x4] (by kernel_rfl) (A1 (T_ratio_Make_ok k 0 1 x4 hx4)) ?_
    refine K_g (by kernel_rfl) ?_
    cases H
    refine K_ret ?_
    kernel_rfl
  · refine K_f (by kernel_rfl) (Bool.eq_false_iff.2 hx3) ?_
    refine K_seq (K_r [.m] [([.cells [cI 0, cI 0]] : Heap) = [.cells [cI 0, cI 0]]] (by kernel_rfl) (A1 rfl) ?_)
    rcases ite_some H with ⟨hx5, H⟩ | ⟨hx5, H⟩
    · refine K_t (by kernel_rfl) hx5 ?_
      refine K_seq ?_
      obtain ⟨x6, hx6, H⟩ := bind_some' H
      refine K_r [.r (.tup [(true, [cI x6.1, cI x6.2.1]), (false, [cI x6.2.2])]) []] [C_T_ratio_Make k 1 1 x6] (by kernel_rfl) (A1 (T_ratio_Make_ok k 1 1 x6 hx6)) ?_
      refine K_g (by kernel_rfl) ?_
      cases H
      refine K_ret ?_
      kernel_rfl
    · refine K_f (by kernel_rfl) (Bool.eq_false_iff.2 hx5) ?_
      refine K_g (by kernel_rfl) ?_
      refine K_skip ?_
      refine K_blk ?_
      refine K_seq ?_
      obtain ⟨x7, hx7, H⟩ := bind_some' H
      refine K_r [.r (I x7) []] [C_T_normal_product k p1 p2 x7] (by kernel_rfl) (A1 (T_normal_product_ok k p1 p2 x7 hx7)) ?_
      refine K_seq (K_seq (K_r [] [] (by kernel_rfl) trivial ?_))
      rcases ite_some H with ⟨hx8, H⟩ | ⟨hx8, H⟩
      · refine K_t (by kernel_rfl) (decide_eq_true hx8) ?_
        refine K_seq ?_
        obtain ⟨x9, hx9, H⟩ := bind_some' H
        refine K_r [.r (.tup [(true, [cI x9.1, cI x9.2.1]), (false, [cI x9.2.2])]) []] [C_T_ratio_Make k (w64 ((w64 (x1 * x2)) + (w64 (x7 * x7)))) (w64 (x1 * x2)) x9] (by kernel_rfl) (A1 (T_ratio_Make_ok k (w64 ((w64 (x1 * x2)) + (w64 (x7 * x7)))) (w64 (x1 * x2)) x9 hx9)) ?_
        refine K_g (by kernel_rfl) ?_
        cases H
        refine K_ret ?_
        kernel_rfl
      · refine K_f (by kernel_rfl) (decide_eq_false hx8) ?_
        refine K_g (by kernel_rfl) ?_
        refine K_skip ?_
        refine K_seq ?_
        obtain ⟨x10, hx10, H⟩ := bind_some' H
        refine K_r [.r (.tup [(true, [cI x10.1, cI x10.2.1]), (false, [cI x10.2.2])]) []] [C_T_ratio_Make k (w64 ((w64 (x1 * x2)) - (w64 (x7 * x7)))) (w64 (x1 * x2)) x10] (by kernel_rfl) (A1 (T_ratio_Make_ok k (w64 ((w64 (x1 * x2)) - (w64 (x7 * x7)))) (w64 (x1 * x2)) x10 hx10)) ?_
        refine K_g (by kernel_rfl) ?_
        cases H
        refine K_ret ?_
        kernel_rfl
def T_normal_Gap (k : Nat) (p1 : List Int) (p2 : List Int) : Option (Int × Int × Int) := match k with
 | 0 => none
 | k + 1 => ((T_euclid_Distance k p1 p2).bind fun x1 => (if (!decide (x1.2 = 0)) = true then some (0, 0, x1.2) else ((T_normal_gap k p1 p2).bind fun x3 => some (x3.1, x3.2.1, x3.2.2))))
abbrev C_T_normal_Gap (k : Nat) (p1 : List Int) (p2 : List Int) (r : Int × Int × Int) : Prop := evF X k n_normal_Gap [(LI p1), (LI p2)] [] = some ((.tup [(true, [cI r.1, cI r.2.1]), (false, [cI r.2.2])]), [])
theorem T_normal_Gap_ok (k : Nat) (p1 : List Int) (p2 : List Int) (r : Int × Int × Int) : T_normal_Gap k p1 p2 = some r → C_T_normal_Gap k p1 p2 r := by
 intro H
 cases k with
 | zero => simp [T_normal_Gap] at H
 | succ k =>
  simp only [T_normal_Gap] at H
  refine F_in X_normal_Gap rfl ?_
  refine K_seq (K_r [] [] (by kernel_rfl) trivial ?_)
  refine K_seq ?_
  refine K_seq ?_
  obtain ⟨x1, hx1, H⟩ := bind_some' H
  refine K_r [.r (.tup [(false, [cI x1.1]), (false, [cI x1.2])]) []] [C_T_euclid_Distance k p1 p2 x1] (by kernel_rfl) (A1 (T_euclid_Distance_ok k p1 p2 x1 hx1)) ?_
  refine K_seq (K_r [] [] (by kernel_rfl) trivial ?_)
  rcases ite_some H with ⟨hx2, H⟩ | ⟨hx2, H⟩
  · refine K_t (by kernel_rfl) hx2 ?_
    refine K_seq (K_r [] [] (by kernel_rfl) trivial ?_)
    refine K_g (by kernel_rfl) ?_
    cases H
    refine K_ret ?_
    kernel_rfl
  · refine K_f (by kernel_rfl) (Bool.eq_false_iff.2 hx2) ?_
    refine K_g (by kernel_rfl) ?_
    refine K_skip ?_
    refine K_seq ?_
    obtain ⟨x3, hx3, H⟩ := bind_some' H
    refine K_r [.r (.tup [(true, [cI x3.1, cI x3.2.1]), (false, [cI x3.2.2])]) []] [C_T_normal_gap k p1 p2 x3] (by kernel_rfl) (A1 (T_normal_gap_ok k p1 p2 x3 hx3)) ?_
    refine K_g (by kernel_rfl) ?_
    cases H
    refine K_ret ?_
    kernel_rfl
def T_warp_check (k : Nat) (p1 : List Int) (p2 : List Int) (p3 : Int) : Option Int := match k with
 | 0 => none
 | k + 1 => (if (decide (p3 < 0) || decide (32 < p3)) = true then some 1 else ((T_euclid_Distance k p1 p1).bind fun x2 => (T_euclid_Distance k p2 p2).bind fun x3 => (if (decide (x2.2 = 8) || decide (x3.2 = 8)) = true then some 8 else (if (!decide (x2.2 = 0)) = true then some x2.2 else (if (!decide (x3.2 = 0)) = true then some x3.2 else (if (decide (p3 < (w64 ((p1.length : Int) - (p2.length : Int)))) || decide (p3 < (w64 ((p2.length : Int) - (p1.length : Int))))) = true then some 8 else some 0))))))
abbrev C_T_warp_check (k : Nat) (p1 : List Int) (p2 : List Int) (p3 : Int) (r : Int) : Prop := evF X k n_warp_check [(LI p1), (LI p2), (I p3)] [] = some ((I r), [])
theorem T_warp_check_ok (k : Nat) (p1 : List Int) (p2 : List Int) (p3 : Int) (r : Int) : T_warp_check k p1 p2 p3 = some r → C_T_warp_check k p1 p2 p3 r := by
 intro H
 cases k with
 | zero => simp [T_warp_check] at H
 | succ k =>
  simp only [T_warp_check] at H
  refine F_in X_warp_check rfl ?_
  refine K_seq (K_r [] [] (by kernel_rfl) trivial ?_)
  refine K_seq (K_seq (K_r [.m] [([] : Heap) = []] (by kernel_rfl) (A1 rfl) ?_))
  rcases ite_some H with ⟨hx1, H⟩ | ⟨hx1, H⟩
  · refine K_t (by kernel_rfl) hx1 ?_
    refine K_seq (K_r [] [] (by kernel_rfl) trivial ?_)
    refine K_g (by kernel_rfl) ?_
    cases H
    refine K_ret ?_
    kernel_rfl
  · refine K_f (by kernel_rfl) (Bool.eq_false_iff.2 hx1) ?_
    refine K_g (by kernel_rfl) ?_
    refine K_skip ?_
    refine K_seq ?_
    obtain ⟨x2, hx2, H⟩ := bind_some' H
    refine K_r [.r (.tup [(false, [cI x2.1]), (false, [cI x2.2])]) []] [C_T_euclid_Distance k p1 p1 x2] (by kernel_rfl) (A1 (T_euclid_Distance_ok k p1 p1 x2 hx2)) ?_
    refine K_seq ?_
    obtain ⟨x3, hx3, H⟩ := bind_some' H
    refine K_r [.r (.tup [(false, [cI x3.1]), (false, [cI x3.2])]) []] [C_T_euclid_Distance k p2 p2 x3] (by kernel_rfl) (A1 (T_euclid_Distance_ok k p2 p2 x3 hx3)) ?_
    refine K_seq (K_block (K_seq (K_r [.m] [([] : Heap) = []] (by kernel_rfl) (A1 rfl) ?_)))
    rcases ite_some H with ⟨hx4, H⟩ | ⟨hx4, H⟩
    · refine K_t (by kernel_rfl) hx4 ?_
      refine K_seq (K_r [] [] (by kernel_rfl) trivial ?_)
      refine K_g (by kernel_rfl) ?_
      cases H
      refine K_ret ?_
      kernel_rfl
    · refine K_f (by kernel_rfl) (Bool.eq_false_iff.2 hx4) ?_
      refine K_seq (K_r [] [] (by kernel_rfl) trivial ?_)
      rcases ite_some H with ⟨hx5, H⟩ | ⟨hx5, H⟩
      · refine K_t (by kernel_rfl) hx5 ?_
        refine K_seq (K_r [] [] (by kernel_rfl) trivial ?_)
        refine K_g (by kernel_rfl) ?_
        cases H
        refine K_ret ?_
        kernel_rfl
      · refine K_f (by kernel_rfl) (Bool.eq_false_iff.2 hx5) ?_
        refine K_seq (K_r [] [] (by kernel_rfl) trivial ?_)
        rcases ite_some H with ⟨hx6, H⟩ | ⟨hx6, H⟩
        · refine K_t (by kernel_rfl) hx6 ?_
          refine K_seq (K_r [] [] (by kernel_rfl) trivial ?_)
          refine K_g (by kernel_rfl) ?_
          cases H
          refine K_ret ?_
          kernel_rfl
        · refine K_f (by kernel_rfl) (Bool.eq_false_iff.2 hx6) ?_
          refine K_seq (K_r [.n p1.length, .n p2.length, .m, .n p2.length, .n p1.length] [((p1.map (D.int .i64))).length = p1.length, ((p2.map (D.int .i64))).length = p2.length, decide (p3 < (w64 ((p1.length : Int) - (p2.length : Int)))) = false → AllT [((p2.map (D.int .i64))).length = p2.length, ((p1.map (D.int .i64))).length = p1.length], ([] : Heap) = []] (by kernel_rfl) (AC (List.length_map _) (AC (List.length_map _) (AC (fun _ => (AC (List.length_map _) (A1 (List.length_map _)))) (A1 rfl)))) ?_)
          rcases ite_some H with ⟨hx7, H⟩ | ⟨hx7, H⟩
          · refine K_t (by kernel_rfl) hx7 ?_
            refine K_seq (K_r [] [] (by kernel_rfl) trivial ?_)
            refine K_g (by kernel_rfl) ?_
            cases H
            refine K_ret ?_
            kernel_rfl
          · refine K_f (by kernel_rfl) (Bool.eq_false_iff.2 hx7) ?_
            refine K_g (by kernel_rfl) ?_
            refine K_skip (K_blk (K_seq (K_r [] [] (by kernel_rfl) trivial ?_)))
            refine K_g (by kernel_rfl) ?_
            cases H
            refine K_ret ?_
            kernel_rfl
def T_warp_near (k : Nat) (p1 : Int) (p2 : Int) (p3 : Int) : Option Unit := match k with
 | 0 => none
 | k + 1 => some ()
abbrev C_T_warp_near (k : Nat) (p1 : Int) (p2 : Int) (p3 : Int) (r : Unit) : Prop := evF X k n_warp_near [(I p1), (I p2), (I p3)] [] = some ((B (decide ((w64 (p1 - p2)) ≤ p3) && decide ((w64 (p2 - p1)) ≤ p3))), [])
theorem T_warp_near_ok (k : Nat) (p1 : Int) (p2 : Int) (p3 : Int) (r : Unit) : T_warp_near k p1 p2 p3 = some r → C_T_warp_near k p1 p2 p3 r := by
 intro H
 cases k with
 | zero => simp [T_warp_near] at H
 | succ k =>
  simp only [T_warp_near] at H
  refine F_in X_warp_near rfl ?_
  refine K_seq (K_r [] [] (by kernel_rfl) trivial ?_)
  refine K_seq (K_r [.m] [([] : Heap) = []] (by kernel_rfl) (A1 rfl) ?_)
  refine K_g (by kernel_rfl) ?_
  cases H
  refine K_ret ?_
  kernel_rfl
def T_warp_fill_l1 (k : Nat) (p1 : Nat) (p2 : Nat) (p3 : List Int) (p4 : List Int) (p5 : Int) (p6 : Int) (x7 : Int) (p8 : List Int) (x34 : Int × (List Int)) : Option ((Int × (List Int)) ⊕ (((List Int)))) :=
 (if x34.1 < x7 then (if (0 : Int) ≤ x34.1 ∧ x34.1 < ((p1 : Nat) : Int) then (T_warp_near k p6 x34.1 p5).bind fun x37 => (if (!(decide ((w64 (p6 - x34.1)) ≤ p5) && decide ((w64 (x34.1 - p6)) ≤ p5))) = true then some (.inl ((w64 (x34.1 + 1)), (x34.2.set (0 + x34.1.toNat) 4611686018427387904))) else ((if (decide (p6 = 0) && decide (x34.1 = 0)) = true then some 0 else some 4611686018427387904)).bind fun x40 => ((if 0 < x34.1 then (if (0 : Int) ≤ (w64 (x34.1 - 1)) ∧ (w64 (x34.1 - 1)) < ((p1 : Nat) : Int) then ((x34.2.set (0 + x34.1.toNat) 4611686018427387904)[(0 + (w64 (x34.1 - 1)).toNat)]?).bind fun x43 => some (imin x40 x43) else none) else some x40)).bind fun x44 => ((if 0 < p6 then (if (0 : Int) ≤ x34.1 ∧ x34.1 < ((p2 : Nat) : Int) then (p8[(0 + x34.1.toNat)]?).bind fun x47 => some (imin x44 x47) else none) else some x44)).bind fun x48 => ((if (decide (0 < p6) && decide (0 < x34.1)) = true then (if (0 : Int) ≤ x34.1 ∧ x34.1 < ((p2 : Nat) : Int) then (p8[(0 + x34.1.toNat)]?).bind fun x51 => (if (0 : Int) ≤ (w64 (x34.1 - 1)) ∧ (w64 (x34.1 - 1)) < ((p2 : Nat) : Int) then (p8[(0 + (w64 (x34.1 - 1)).toNat)]?).bind fun x53 => some (imin (imin x48 x51) x53) else none) else none) else some x48)).bind fun x54 => (at? p3 p6).bind fun x55 => (at? p4 x34.1).bind fun x56 => (if (0 : Int) ≤ x34.1 ∧ x34.1 < ((p1 : Nat) : Int) then some (.inl ((w64 (x34.1 + 1)), ((x34.2.set (0 + x34.1.toNat) 4611686018427387904).set (0 + x34.1.toNat) (imin 4611686018427387904 (w64 (x54 + (w64 ((w64 (x55 - x56)) * (w64 (x55 - x56)))))))))) else none)) else none) else some (.inr x34.2))
theorem T_warp_fill_l1_ok (k : Nat) (p1 : Nat) (p2 : Nat) (p3 : List Int) (p4 : List Int) (p5 : Int) (p6 : Int) (x7 : Int) (p8 : List Int) : ∀ (x34 : Int × (List Int)) (x : (Int × (List Int)) ⊕ (((List Int)))), T_warp_fill_l1 k p1 p2 p3 p4 p5 p6 x7 p8 x34 = some x → evC X (evF X k) k 2 l_warp_fill_1 ⟨[(0, (.one (.own 0 0 p1))), (1, (.one (.own 1 0 p2))), (2, (LI p3)), (3, (LI p4)), (4, (I p5)), (5, (I p6)), (15, (I x7)), (16, (I x34.1))], [VI x34.2, VI p8]⟩ = some (outS (fun (s : Int × (List Int)) => ⟨[(0, (.one (.own 0 0 p1))), (1, (.one (.own 1 0 p2))), (2, (LI p3)), (3, (LI p4)), (4, (I p5)), (5, (I p6)), (15, (I x7)), (16, (I s.1))], [VI s.2, VI p8]⟩) (fun (r : ((List Int))) => (.exit 0, ⟨[], [VI r, VI p8]⟩)) x) := by
 intro x34 x H
 unfold T_warp_fill_l1 at H
 refine K_in ?_
 refine K_seq (K_r [] [] (by kernel_rfl) trivial ?_)
 refine K_seq ?_
 rcases ite_some H with ⟨hx35, H⟩ | ⟨hx35, H⟩
 · refine K_t (by kernel_rfl) (decide_eq_true hx35) ?_
   refine K_g (by kernel_rfl) ?_
   refine K_skip (K_seq (K_block (K_seq (K_r [] [] (by kernel_rfl) trivial ?_))))
   refine K_seq ?_
   obtain ⟨hx36, H⟩ := guard_some H
   refine K_r [.l ((x34.2.set (0 + x34.1.toNat) 4611686018427387904).map (D.int .i64))] [(0 : Int) ≤ x34.1 ∧ x34.1 < ((p1 : Nat) : Int), (x34.2.map (D.int .i64)).set (0 + x34.1.toNat) (elemOf (.int .i64 0) (splice ((x34.2.map (D.int .i64)).getD (0 + x34.1.toNat) (.int .i64 0)).cells 0 [.int .i64 4611686018427387904])) = (x34.2.set (0 + x34.1.toNat) 4611686018427387904).map (D.int .i64)] (by kernel_rfl) (AC hx36 (A1 (st_one x34.2 (0 + x34.1.toNat) 4611686018427387904 (D.int .i64) (.int .i64 0) rfl (fun _ => rfl) rfl))) ?_
   refine K_seq ?_
   refine K_seq ?_
   obtain ⟨x37, hx37, H⟩ := bind_some' H
   refine K_r [.r (B (decide ((w64 (p6 - x34.1)) ≤ p5) && decide ((w64 (x34.1 - p6)) ≤ p5))) []] [C_T_warp_near k p6 x34.1 p5 x37] (by kernel_rfl) (A1 (T_warp_near_ok k p6 x34.1 p5 x37 hx37)) ?_
   rcases ite_some H with ⟨hx38, H⟩ | ⟨hx38, H⟩
   · refine K_t (by kernel_rfl) hx38 ?_
     refine K_g (by kernel_rfl) ?_
     refine K_exit rfl ?_
     refine K_r [] [] (by kernel_rfl) trivial ?_
     cases H
     exact K_end (by kernel_rfl)
   · refine K_f (by kernel_rfl) (Bool.eq_false_iff.2 hx38) ?_
     refine K_g (by kernel_rfl) ?_
     refine K_skip (K_seq (K_r [] [] (by kernel_rfl) trivial ?_))
     refine K_seq (K_seq (K_r [.m] ((fun (z1 : Heap) => [z1 = z1]) [VI (x34.2.set (0 + x34.1.toNat) 4611686018427387904), VI p8]) (by kernel_rfl) (A1 rfl) ?_))
     obtain ⟨x40, hx40, H⟩ := bind_some' H
     refine K_of ⟨[(0, (.one (.own 0 0 p1))), (1, (.one (.own 1 0 p2))), (2, (LI p3)), (3, (LI p4)), (4, (I p5)), (5, (I p6)), (12, (I x34.1)), (13, (I x40)), (15, (I x7)), (16, (I x34.1))], [VI (x34.2.set (0 + x34.1.toNat) 4611686018427387904), VI p8]⟩ ?_ ?_
     · clear H; have H := hx40; clear hx40; refine K_in ?_
       rcases ite_some H with ⟨hx39, H⟩ | ⟨hx39, H⟩
       · refine K_t (by kernel_rfl) hx39 ?_
         refine K_r [] [] (by kernel_rfl) trivial ?_
         cases H
         exact K_end (by kernel_rfl)
       · refine K_f (by kernel_rfl) (Bool.eq_false_iff.2 hx39) ?_
         refine K_g (by kernel_rfl) ?_
         refine K_skip ?_
         cases H
         exact K_end (by kernel_rfl)
     refine K_seq (K_seq (K_r [] [] (by kernel_rfl) trivial ?_))
     obtain ⟨x44, hx44, H⟩ := bind_some' H
     refine K_of ⟨[(0, (.one (.own 0 0 p1))), (1, (.one (.own 1 0 p2))), (2, (LI p3)), (3, (LI p4)), (4, (I p5)), (5, (I p6)), (12, (I x34.1)), (13, (I x44)), (15, (I x7)), (16, (I x34.1))], [VI (x34.2.set (0 + x34.1.toNat) 4611686018427387904), VI p8]⟩ ?_ ?_
     · clear H; have H := hx44; clear hx44; refine K_in ?_
       rcases ite_some H with ⟨hx41, H⟩ | ⟨hx41, H⟩
       · refine K_t (by kernel_rfl) (decide_eq_true hx41) ?_
         obtain ⟨hx42, H⟩ := guard_some H
         obtain ⟨x43, hx43, H⟩ := bind_some' H
         refine K_r [.l [.int .i64 x43]] [(0 : Int) ≤ (w64 (x34.1 - 1)) ∧ (w64 (x34.1 - 1)) < ((p1 : Nat) : Int), (((x34.2.set (0 + x34.1.toNat) 4611686018427387904).map (D.int .i64)).getD (0 + (w64 (x34.1 - 1)).toNat) (.int .i64 0)).cells = [.int .i64 x43]] (by kernel_rfl) (AC hx42 (A1 (ld_ok hx43 (D.int .i64) (.int .i64 0)))) ?_
         cases H
         exact K_end (by kernel_rfl)
       · refine K_f (by kernel_rfl) (decide_eq_false hx41) ?_
         refine K_g (by kernel_rfl) ?_
         refine K_skip ?_
         cases H
         exact K_end (by kernel_rfl)
     refine K_seq (K_seq (K_r [] [] (by kernel_rfl) trivial ?_))
     obtain ⟨x48, hx48, H⟩ := bind_some' H
     refine K_of ⟨[(0, (.one (.own 0 0 p1))), (1, (.one (.own 1 0 p2))), (2, (LI p3)), (3, (LI p4)), (4, (I p5)), (5, (I p6)), (12, (I x34.1)), (13, (I x48)), (15, (I x7)), (16, (I x34.1))], [VI (x34.2.set (0 + x34.1.toNat) 4611686018427387904), VI p8]⟩ ?_ ?_
     · clear H; have H := hx48; clear hx48; refine K_in ?_
       rcases ite_some H with ⟨hx45, H⟩ | ⟨hx45, H⟩
       · refine K_t (by kernel_rfl) (decide_eq_true hx45) ?_
         obtain ⟨hx46, H⟩ := guard_some H
         obtain ⟨x47, hx47, H⟩ := bind_some' H
         refine K_r [.l [.int .i64 x47]] [(0 : Int) ≤ x34.1 ∧ x34.1 < ((p2 : Nat) : Int), ((p8.map (D.int .i64)).getD (0 + x34.1.toNat) (.int .i64 0)).cells = [.int .i64 x47]] (by kernel_rfl) (AC hx46 (A1 (ld_ok hx47 (D.int .i64) (.int .i64 0)))) ?_
         cases H
         exact K_end (by kernel_rfl)
       · refine K_f (by kernel_rfl) (decide_eq_false hx45) ?_
         refine K_g (by kernel_rfl) ?_
         refine K_skip ?_
         cases H
         exact K_end (by kernel_rfl)
     refine K_seq (K_seq (K_r [.m] ((fun (z1 : Heap) => [z1 = z1]) [VI (x34.2.set (0 + x34.1.toNat) 4611686018427387904), VI p8]) (by kernel_rfl) (A1 rfl) ?_))
     obtain ⟨x54, hx54, H⟩ := bind_some' H
     refine K_of ⟨[(0, (.one (.own 0 0 p1))), (1, (.one (.own 1 0 p2))), (2, (LI p3)), (3, (LI p4)), (4, (I p5)), (5, (I p6)), (12, (I x34.1)), (13, (I x54)), (15, (I x7)), (16, (I x34.1))], [VI (x34.2.set (0 + x34.1.toNat) 4611686018427387904), VI p8]⟩ ?_ ?_
     · clear H; have H := hx54; clear hx54; refine K_in ?_
       rcases ite_some H with ⟨hx49, H⟩ | ⟨hx49, H⟩
       · refine K_t (by kernel_rfl) hx49 ?_
         obtain ⟨hx50, H⟩ := guard_some H
         obtain ⟨x51, hx51, H⟩ := bind_some' H
         obtain ⟨hx52, H⟩ := guard_some H
         obtain ⟨x53, hx53, H⟩ := bind_some' H
         refine K_r [.l [.int .i64 x51], .l [.int .i64 x53]] [(0 : Int) ≤ x34.1 ∧ x34.1 < ((p2 : Nat) : Int), ((p8.map (D.int .i64)).getD (0 + x34.1.toNat) (.int .i64 0)).cells = [.int .i64 x51], (0 : Int) ≤ (w64 (x34.1 - 1)) ∧ (w64 (x34.1 - 1)) < ((p2 : Nat) : Int), ((p8.map (D.int .i64)).getD (0 + (w64 (x34.1 - 1)).toNat) (.int .i64 0)).cells = [.int .i64 x53]] (by kernel_rfl) (AC hx50 (AC (ld_ok hx51 (D.int .i64) (.int .i64 0)) (AC hx52 (A1 (ld_ok hx53 (D.int .i64) (.int .i64 0)))))) ?_
         cases H
         exact K_end (by kernel_rfl)
       · refine K_f (by kernel_rfl) (Bool.eq_false_iff.2 hx49) ?_
         refine K_g (by kernel_rfl) ?_
         refine K_skip ?_
         cases H
         exact K_end (by kernel_rfl)
     obtain ⟨x55, hx55, H⟩ := bind_some' H
     obtain ⟨x56, hx56, H⟩ := bind_some' H
     obtain ⟨hx57, H⟩ := guard_some H
     refine K_r [.l [.int .i64 x55], .l [.int .i64 x56], .l [.int .i64 x55], .l [.int .i64 x56], .l (((x34.2.set (0 + x34.1.toNat) 4611686018427387904).set (0 + x34.1.toNat) (imin 4611686018427387904 (w64 (x54 + (w64 ((w64 (x55 - x56)) * (w64 (x55 - x56)))))))).map (D.int .i64))] [(0 : Int) ≤ p6 ∧ p6 < (((p3.map (D.int .i64))).length : Int), ((p3.map (D.int .i64)).getD p6.toNat (.int .i64 0)).cells = [.int .i64 x55], (0 : Int) ≤ x34.1 ∧ x34.1 < (((p4.map (D.int .i64))).length : Int), ((p4.map (D.int .i64)).getD x34.1.toNat (.int .i64 0)).cells = [.int .i64 x56], (0 : Int) ≤ p6 ∧ p6 < (((p3.map (D.int .i64))).length : Int), ((p3.map (D.int .i64)).getD p6.toNat (.int .i64 0)).cells = [.int .i64 x55], (0 : Int) ≤ x34.1 ∧ x34.1 < (((p4.map (D.int .i64))).length : Int), ((p4.map (D.int .i64)).getD x34.1.toNat (.int .i64 0)).cells = [.int .i64 x56], (0 : Int) ≤ x34.1 ∧ x34.1 < ((p1 : Nat) : Int), ((x34.2.set (0 + x34.1.toNat) 4611686018427387904).map (D.int .i64)).set (0 + x34.1.toNat) (elemOf (.int .i64 0) (splice (((x34.2.set (0 + x34.1.toNat) 4611686018427387904).map (D.int .i64)).getD (0 + x34.1.toNat) (.int .i64 0)).cells 0 [.int .i64 (imin 4611686018427387904 (w64 (x54 + (w64 ((w64 (x55 - x56)) * (w64 (x55 - x56)))))))])) = ((x34.2.set (0 + x34.1.toNat) 4611686018427387904).set (0 + x34.1.toNat) (imin 4611686018427387904 (w64 (x54 + (w64 ((w64 (x55 - x56)) * (w64 (x55 - x56)))))))).map (D.int .i64)] (by kernel_rfl) (AC (at_ok hx55 (D.int .i64) (.int .i64 0)).1 (AC (at_ok hx55 (D.int .i64) (.int .i64 0)).2 (AC (at_ok hx56 (D.int .i64) (.int .i64 0)).1 (AC (at_ok hx56 (D.int .i64) (.int .i64 0)).2 (AC (at_ok hx55 (D.int .i64) (.int .i64 0)).1 (AC (at_ok hx55 (D.int .i64) (.int .i64 0)).2 (AC (at_ok hx56 (D.int .i64) (.int .i64 0)).1 (AC (at_ok hx56 (D.int .i64) (.int .i64 0)).2 (AC hx57 (A1 (st_one (x34.2.set (0 + x34.1.toNat) 4611686018427387904) (0 + x34.1.toNat) (imin 4611686018427387904 (w64 (x54 + (w64 ((w64 (x55 - x56)) * (w64 (x55 - x56))))))) (D.int .i64) (.int .i64 0) rfl (fun _ => rfl) rfl))))))))))) ?_
     refine K_blk (K_r [] [] (by kernel_rfl) trivial ?_)
     cases H
     exact K_end (by kernel_rfl)
 · refine K_f (by kernel_rfl) (decide_eq_false hx35) ?_
   refine K_g (by kernel_rfl) ?_
   cases H
   exact K_exit0 rfl (by kernel_rfl)
def T_warp_fill (k : Nat) (p1 : Nat) (p2 : Nat) (p3 : List Int) (p4 : List Int) (p5 : Int) (p6 : Int) (p7 : List Int) (p8 : List Int) : Option ((List Int)) := match k with
 | 0 => none
 | k + 1 => ((loopT (T_warp_fill_l1 k p1 p2 p3 p4 p5 p6 (p4.length : Int) p8) k (0, p7)).bind fun x58 => some x58)
abbrev C_T_warp_fill (k : Nat) (p1 : Nat) (p2 : Nat) (p3 : List Int) (p4 : List Int) (p5 : Int) (p6 : Int) (p7 : List Int) (p8 : List Int) (r : (List Int)) : Prop := evF X k n_warp_fill [(.one (.own 0 0 p1)), (.one (.own 1 0 p2)), (LI p3), (LI p4), (I p5), (I p6)] [VI p7, VI p8] = some ((.tup []), [VI r, VI p8])
theorem T_warp_fill_ok (k : Nat) (p1 : Nat) (p2 : Nat) (p3 : List Int) (p4 : List Int) (p5 : Int) (p6 : Int) (p7 : List Int) (p8 : List Int) (r : (List Int)) : T_warp_fill k p1 p2 p3 p4 p5 p6 p7 p8 = some r → C_T_warp_fill k p1 p2 p3 p4 p5 p6 p7 p8 r := by
 intro H
 cases k with
 | zero => simp [T_warp_fill] at H
 | succ k =>
  simp only [T_warp_fill] at H
  refine F_in X_warp_fill rfl ?_
  refine K_seq (K_r [.n p4.length] [((p4.map (D.int .i64))).length = p4.length] (by kernel_rfl) (A1 (List.length_map _)) ?_)
  refine K_block (K_conv (σ' := ⟨[(0, (.one (.own 0 0 p1))), (1, (.one (.own 1 0 p2))), (2, (LI p3)), (3, (LI p4)), (4, (I p5)), (5, (I p6)), (15, (I (p4.length : Int))), (16, (I 0))], [VI p7, VI p8]⟩) (by kernel_rfl) ?_)
  obtain ⟨x58, hx58, H⟩ := bind_some' H
  refine K_loop ⟨[], [VI x58, VI p8]⟩ (loop_ok (fun (s : Int × (List Int)) => ⟨[(0, (.one (.own 0 0 p1))), (1, (.one (.own 1 0 p2))), (2, (LI p3)), (3, (LI p4)), (4, (I p5)), (5, (I p6)), (15, (I (p4.length : Int))), (16, (I s.1))], [VI s.2, VI p8]⟩) (fun (r : ((List Int))) => (.exit 0, ⟨[], [VI r, VI p8]⟩)) (fun r h => by cases h) (T_warp_fill_l1_ok k p1 p2 p3 p4 p5 p6 (p4.length : Int) p8) k (0, p7) x58 hx58) rfl ?_
  cases H
  refine K_end ?_
  kernel_rfl
def T_slices_Min_b354_l1 (k : Nat) (p1 : Nat) (p2 : List Int) (x11 : Int × Int) : Option ((Int × Int) ⊕ Int) :=
 (if x11.2 < ((p1 : Nat) : Int) then (if (0 : Int) ≤ x11.2 ∧ x11.2 < ((p1 : Nat) : Int) then (p2[(0 + x11.2.toNat)]?).bind fun x14 => some (.inl ((imin x11.1 x14), (w64 (x11.2 + 1)))) else none) else some (.inr x11.1))
theorem T_slices_Min_b354_l1_ok (k : Nat) (p1 : Nat) (p2 : List Int) : ∀ (x11 : Int × Int) (x : (Int × Int) ⊕ Int), T_slices_Min_b354_l1 k p1 p2 x11 = some x → evC X (evF X k) k 1 l_slices_Min_b354_1 ⟨[(0, (.one (.own 0 0 p1))), (3, (I x11.1)), (4, (I x11.2))], [VI p2]⟩ = some (outS (fun (s : Int × Int) => ⟨[(0, (.one (.own 0 0 p1))), (3, (I s.1)), (4, (I s.2))], [VI p2]⟩) (fun (r : Int) => (.exit 0, ⟨[(3, (I r))], [VI p2]⟩)) x) := by
 intro x11 x H
 unfold T_slices_Min_b354_l1 at H
 refine K_in ?_
 refine K_seq (K_seq (K_r [] [] (by kernel_rfl) trivial ?_))
 rcases ite_some H with ⟨hx12, H⟩ | ⟨hx12, H⟩
 · refine K_t (by kernel_rfl) (decide_eq_true hx12) ?_
   refine K_g (by kernel_rfl) ?_
   refine K_skip ?_
   refine K_seq ?_
   refine K_block ?_
   obtain ⟨hx13, H⟩ := guard_some H
   obtain ⟨x14, hx14, H⟩ := bind_some' H
   refine K_r [.l [.int .i64 x14]] [(0 : Int) ≤ x11.2 ∧ x11.2 < ((p1 : Nat) : Int), ((p2.map (D.int .i64)).getD (0 + x11.2.toNat) (.int .i64 0)).cells = [.int .i64 x14]] (by kernel_rfl) (AC hx13 (A1 (ld_ok hx14 (D.int .i64) (.int .i64 0)))) ?_
   refine K_blk (K_r [] [] (by kernel_rfl) trivial ?_)
   cases H
   exact K_end (by kernel_rfl)
 · refine K_f (by kernel_rfl) (decide_eq_false hx12) ?_
   refine K_g (by kernel_rfl) ?_
   cases H
   exact K_exit0 rfl (by kernel_rfl)
def T_slices_Min_b354 (k : Nat) (p1 : Nat) (p2 : List Int) : Option Int := match k with
 | 0 => none
 | k + 1 => (if ((p1 : Nat) : Int) < 1 then none else (if (0 : Int) ≤ 0 ∧ 0 < ((p1 : Nat) : Int) then (p2[(0 + 0)]?).bind fun x3 => (loopT (T_slices_Min_b354_l1 k p1 p2) k (x3, 1)).bind fun x15 => some x15 else none))
abbrev C_T_slices_Min_b354 (k : Nat) (p1 : Nat) (p2 : List Int) (r : Int) : Prop := evF X k n_slices_Min_b354 [(.one (.own 0 0 p1))] [VI p2] = some ((I r), [VI p2])
theorem T_slices_Min_b354_ok (k : Nat) (p1 : Nat) (p2 : List Int) (r : Int) : T_slices_Min_b354 k p1 p2 = some r → C_T_slices_Min_b354 k p1 p2 r := by
 intro H
 cases k with
 | zero => simp [T_slices_Min_b354] at H
 | succ k =>
  simp only [T_slices_Min_b354] at H
  refine F_in X_slices_Min_b354 rfl ?_
  refine K_seq (K_r [] [] (by kernel_rfl) trivial ?_)
  refine K_seq (K_seq (K_r [] [] (by kernel_rfl) trivial ?_))
  rcases ite_some H with ⟨hx1, H⟩ | ⟨hx1, H⟩
  · refine K_t (by kernel_rfl) (decide_eq_true hx1) ?_
    cases H
  · refine K_f (by kernel_rfl) (decide_eq_false hx1) ?_
    refine K_g (by kernel_rfl) ?_
    refine K_skip ?_
    refine K_seq ?_
    obtain ⟨hx2, H⟩ := guard_some H
    obtain ⟨x3, hx3, H⟩ := bind_some' H
    refine K_r [.l [.int .i64 x3]] [(0 : Int) ≤ 0 ∧ 0 < ((p1 : Nat) : Int), ((p2.map (D.int .i64)).getD (0 + 0) (.int .i64 0)).cells = [.int .i64 x3]] (by kernel_rfl) (AC hx2 (A1 (ld_ok hx3 (D.int .i64) (.int .i64 0)))) ?_
    refine K_seq (K_seq (K_r [] [] (by kernel_rfl) trivial ?_))
    refine K_block (K_conv (σ' := ⟨[(0, (.one (.own 0 0 p1))), (3, (I x3)), (4, (I 1))], [VI p2]⟩) (by kernel_rfl) ?_)
    obtain ⟨x15, hx15, H⟩ := bind_some' H
    refine K_loop ⟨[(3, (I x15))], [VI p2]⟩ (loop_ok (fun (s : Int × Int) => ⟨[(0, (.one (.own 0 0 p1))), (3, (I s.1)), (4, (I s.2))], [VI p2]⟩) (fun (r : Int) => (.exit 0, ⟨[(3, (I r))], [VI p2]⟩)) (fun r h => by cases h) (T_slices_Min_b354_l1_ok k p1 p2) k (x3, 1) x15 hx15) rfl ?_
    refine K_seq (K_r [] [] (by kernel_rfl) trivial ?_)
    refine K_g (by kernel_rfl) ?_
    cases H
    refine K_ret ?_
    kernel_rfl
def T_warp_distance_l1 (k : Nat) (p1 : List Int) (p2 : List Int) (p3 : Int) (p4 : Int) (x8 : Int) (x16 : Nat × Nat × Int × (List Int) × (List Int)) : Option ((Nat × Nat × Int × (List Int) × (List Int)) ⊕ ((Nat × (List Int)) ⊕ Unit)) :=
 (if x16.2.2.1 < x8 then ((T_warp_fill k x16.1 x16.2.1 p1 p2 p3 x16.2.2.1 x16.2.2.2.1 x16.2.2.2.2).bind fun x18 => (T_slices_Min_b354 k x16.1 x18).bind fun x19 => (if p4 < x19 then some (.inr (.inr ())) else some (.inl (x16.2.1, x16.1, (w64 (x16.2.2.1 + 1)), x16.2.2.2.2, x18)))) else some (.inr (.inl (x16.2.1, x16.2.2.2.2))))
theorem T_warp_distance_l1_ok (k : Nat) (p1 : List Int) (p2 : List Int) (p3 : Int) (p4 : Int) (x8 : Int) : ∀ (x16 : Nat × Nat × Int × (List Int) × (List Int)) (x : (Nat × Nat × Int × (List Int) × (List Int)) ⊕ ((Nat × (List Int)) ⊕ Unit)), T_warp_distance_l1 k p1 p2 p3 p4 x8 x16 = some x → evC X (evF X k) k 0 l_warp_distance_1 ⟨[(0, (LI p1)), (1, (LI p2)), (2, (I p3)), (3, (I p4)), (9, (.one (.own 0 0 x16.1))), (10, (.one (.own 1 0 x16.2.1))), (19, (I x8)), (20, (I x16.2.2.1))], [VI x16.2.2.2.1, VI x16.2.2.2.2]⟩ = some (outS (fun (s : Nat × Nat × Int × (List Int) × (List Int)) => ⟨[(0, (LI p1)), (1, (LI p2)), (2, (I p3)), (3, (I p4)), (9, (.one (.own 0 0 s.1))), (10, (.one (.own 1 0 s.2.1))), (19, (I x8)), (20, (I s.2.2.1))], [VI s.2.2.2.1, VI s.2.2.2.2]⟩) (fun (r : (Nat × (List Int)) ⊕ Unit) => Sum.elim (fun y => (.exit 0, ⟨[(1, (LI p2)), (10, (.one (.own 0 0 y.1)))], [VI y.2]⟩)) (fun y => (.ret, ⟨[(8, (I 4611686018427387904))], []⟩)) r) x) := by
 intro x16 x H
 unfold T_warp_distance_l1 at H
 refine K_in ?_
 refine K_seq (K_r [] [] (by kernel_rfl) trivial ?_)
 refine K_seq ?_
 rcases ite_some H with ⟨hx17, H⟩ | ⟨hx17, H⟩
 · refine K_t (by kernel_rfl) (decide_eq_true hx17) ?_
   refine K_g (by kernel_rfl) ?_
   refine K_skip (K_seq (K_block (K_seq (K_r [] [] (by kernel_rfl) trivial ?_))))
   refine K_seq (K_r [] [] (by kernel_rfl) trivial ?_)
   refine K_seq ?_
   obtain ⟨x18, hx18, H⟩ := bind_some' H
   refine K_r [.r (.tup []) [VI x18, VI x16.2.2.2.2]] [C_T_warp_fill k x16.1 x16.2.1 p1 p2 p3 x16.2.2.1 x16.2.2.2.1 x16.2.2.2.2 x18] (by kernel_rfl) (A1 (T_warp_fill_ok k x16.1 x16.2.1 p1 p2 p3 x16.2.2.1 x16.2.2.2.1 x16.2.2.2.2 x18 hx18)) ?_
   refine K_seq ?_
   obtain ⟨x19, hx19, H⟩ := bind_some' H
   refine K_r [.r (I x19) [VI x18]] [C_T_slices_Min_b354 k x16.1 x18 x19] (by kernel_rfl) (A1 (T_slices_Min_b354_ok k x16.1 x18 x19 hx19)) ?_
   rcases ite_some H with ⟨hx20, H⟩ | ⟨hx20, H⟩
   · refine K_t (by kernel_rfl) (decide_eq_true hx20) ?_
     refine K_seq (K_r [] [] (by kernel_rfl) trivial ?_)
     refine K_g (by kernel_rfl) ?_
     cases H
     exact K_ret (by kernel_rfl)
   · refine K_f (by kernel_rfl) (decide_eq_false hx20) ?_
     refine K_g (by kernel_rfl) ?_
     refine K_skip (K_blk (K_r [] [] (by kernel_rfl) trivial ?_))
     cases H
     exact K_end (by kernel_rfl)
 · refine K_f (by kernel_rfl) (decide_eq_false hx17) ?_
   refine K_g (by kernel_rfl) ?_
   cases H
   exact K_exit0 rfl (by kernel_rfl)
def T_warp_distance (k : Nat) (p1 : List Int) (p2 : List Int) (p3 : Int) (p4 : Int) : Option Int := match k with
 | 0 => none
 | k + 1 => (if (0 : Int) ≤ (p2.length : Int) ∧ (p2.length : Int) ≤ (p2.length : Int) ∧ (p2.length : Int) ≤ (LIM : Int) then (loopT (T_warp_distance_l1 k p1 p2 p3 p4 (p1.length : Int)) k ((p2.length : Int).toNat, (p2.length : Int).toNat, 0, (List.replicate (p2.length : Int).toNat (0 : Int)), (List.replicate (p2.length : Int).toNat (0 : Int)))).bind fun x21 => (match x21 with | .inl x22 => (if (0 : Int) ≤ (w64 ((p2.length : Int) - 1)) ∧ (w64 ((p2.length : Int) - 1)) < ((x22.1 : Nat) : Int) then (x22.2[(0 + (w64 ((p2.length : Int) - 1)).toNat)]?).bind fun x24 => some x24 else none) | .inr x25 => some 4611686018427387904) else none)
abbrev C_T_warp_distance (k : Nat) (p1 : List Int) (p2 : List Int) (p3 : Int) (p4 : Int) (r : Int) : Prop := evF X k n_warp_distance [(LI p1), (LI p2), (I p3), (I p4)] [] = some ((I r), [])
theorem T_warp_distance_ok (k : Nat) (p1 : List Int) (p2 : List Int) (p3 : Int) (p4 : Int) (r : Int) : T_warp_distance k p1 p2 p3 p4 = some r → C_T_warp_distance k p1 p2 p3 p4 r := by
 intro H
 cases k with
 | zero => simp [T_warp_distance] at H
 | succ k =>
  simp only [T_warp_distance] at H
  refine F_in X_warp_distance rfl ?_
  refine K_seq (K_r [] [] (by kernel_rfl) trivial ?_)
  refine K_seq ?_
  obtain ⟨hx1, H⟩ := guard_some H
  refine K_rI [.n p2.length, .l ((List.replicate (p2.length : Int).toNat (0 : Int)).map (D.int .i64))] [0, 0, 1, 1, 1, 1] ((fun (z1 : St) => [((p2.map (D.int .i64))).length = p2.length, (0 : Int) ≤ (p2.length : Int) ∧ (p2.length : Int) ≤ (p2.length : Int) ∧ (p2.length : Int) ≤ (LIM : Int), List.replicate (p2.length : Int).toNat (.int .i64 0) = (List.replicate (p2.length : Int).toNat (0 : Int)).map (D.int .i64), z1 = z1]) (⟨[(0, (LI p1)), (1, (LI p2)), (2, (I p3)), (3, (I p4)), (9, (.one (.own 0 0 ((p2.length : Int).toNat)))), (10, (.one (.own 1 0 ((p2.length : Int).toNat))))], [VI (List.replicate (p2.length : Int).toNat (0 : Int)), VI (List.replicate (p2.length : Int).toNat (0 : Int))]⟩)) [0, 0, 1, 2, 1, 2, 1, 2, 1, 2, 3] (by kernel_rfl) (AC (List.length_map _) (AC hx1 (AC (rep_map (D.int .i64) _ (0 : Int)) (A1 rfl)))) ?_
  refine K_seq (K_seq (K_r [.n p1.length] [((p1.map (D.int .i64))).length = p1.length] (by kernel_rfl) (A1 (List.length_map _)) ?_))
  refine K_block (K_conv (σ' := ⟨[(0, (LI p1)), (1, (LI p2)), (2, (I p3)), (3, (I p4)), (9, (.one (.own 0 0 ((p2.length : Int).toNat)))), (10, (.one (.own 1 0 ((p2.length : Int).toNat)))), (19, (I (p1.length : Int))), (20, (I 0))], [VI (List.replicate (p2.length : Int).toNat (0 : Int)), VI (List.replicate (p2.length : Int).toNat (0 : Int))]⟩) (by kernel_rfl) ?_)
  obtain ⟨x21, hx21, H⟩ := bind_some' H
  cases x21 with
  | inl x22 =>
   dsimp only at H
   refine K_loop ⟨[(1, (LI p2)), (10, (.one (.own 0 0 x22.1)))], [VI x22.2]⟩ (loop_ok (fun (s : Nat × Nat × Int × (List Int) × (List Int)) => ⟨[(0, (LI p1)), (1, (LI p2)), (2, (I p3)), (3, (I p4)), (9, (.one (.own 0 0 s.1))), (10, (.one (.own 1 0 s.2.1))), (19, (I (p1.length : Int))), (20, (I s.2.2.1))], [VI s.2.2.2.1, VI s.2.2.2.2]⟩) (fun (r : (Nat × (List Int)) ⊕ Unit) => Sum.elim (fun y => (.exit 0, ⟨[(1, (LI p2)), (10, (.one (.own 0 0 y.1)))], [VI y.2]⟩)) (fun y => (.ret, ⟨[(8, (I 4611686018427387904))], []⟩)) r) (fun r h => by cases r <;> cases h) (T_warp_distance_l1_ok k p1 p2 p3 p4 (p1.length : Int)) k ((p2.length : Int).toNat, (p2.length : Int).toNat, 0, (List.replicate (p2.length : Int).toNat (0 : Int)), (List.replicate (p2.length : Int).toNat (0 : Int))) (.inl x22) hx21) rfl ?_
   refine K_seq ?_
   obtain ⟨hx23, H⟩ := guard_some H
   obtain ⟨x24, hx24, H⟩ := bind_some' H
   refine K_r [.n p2.length, .l [.int .i64 x24]] [((p2.map (D.int .i64))).length = p2.length, (0 : Int) ≤ (w64 ((p2.length : Int) - 1)) ∧ (w64 ((p2.length : Int) - 1)) < ((x22.1 : Nat) : Int), ((x22.2.map (D.int .i64)).getD (0 + (w64 ((p2.length : Int) - 1)).toNat) (.int .i64 0)).cells = [.int .i64 x24]] (by kernel_rfl) (AC (List.length_map _) (AC hx23 (A1 (ld_ok hx24 (D.int .i64) (.int .i64 0))))) ?_
   refine K_g (by kernel_rfl) ?_
   cases H
   refine K_ret ?_
   kernel_rfl
  | inr x25 =>
   dsimp only at H
   cases H
   refine K_loopr ⟨[(8, (I 4611686018427387904))], []⟩ (loop_ok (fun (s : Nat × Nat × Int × (List Int) × (List Int)) => ⟨[(0, (LI p1)), (1, (LI p2)), (2, (I p3)), (3, (I p4)), (9, (.one (.own 0 0 s.1))), (10, (.one (.own 1 0 s.2.1))), (19, (I (p1.length : Int))), (20, (I s.2.2.1))], [VI s.2.2.2.1, VI s.2.2.2.2]⟩) (fun (r : (Nat × (List Int)) ⊕ Unit) => Sum.elim (fun y => (.exit 0, ⟨[(1, (LI p2)), (10, (.one (.own 0 0 y.1)))], [VI y.2]⟩)) (fun y => (.ret, ⟨[(8, (I 4611686018427387904))], []⟩)) r) (fun r h => by cases r <;> cases h) (T_warp_distance_l1_ok k p1 p2 p3 p4 (p1.length : Int)) k ((p2.length : Int).toNat, (p2.length : Int).toNat, 0, (List.replicate (p2.length : Int).toNat (0 : Int)), (List.replicate (p2.length : Int).toNat (0 : Int))) (.inr x25) hx21) ?_
   kernel_rfl
def T_warp_Distance (k : Nat) (p1 : List Int) (p2 : List Int) (p3 : Int) : Option (Int × Int) := match k with
 | 0 => none
 | k + 1 => ((T_warp_check k p1 p2 p3).bind fun x1 => (if (!decide (x1 = 0)) = true then some (0, x1) else ((T_warp_distance k p1 p2 p3 4611686018427387904).bind fun x3 => some (x3, 0))))
abbrev C_T_warp_Distance (k : Nat) (p1 : List Int) (p2 : List Int) (p3 : Int) (r : Int × Int) : Prop := evF X k n_warp_Distance [(LI p1), (LI p2), (I p3)] [] = some ((.tup [(false, [cI r.1]), (false, [cI r.2])]), [])
theorem T_warp_Distance_ok (k : Nat) (p1 : List Int) (p2 : List Int) (p3 : Int) (r : Int × Int) : T_warp_Distance k p1 p2 p3 = some r → C_T_warp_Distance k p1 p2 p3 r := by
 intro H
 cases k with
 | zero => simp [T_warp_Distance] at H
 | succ k =>
  simp only [T_warp_Distance] at H
  refine F_in X_warp_Distance rfl ?_
  refine K_seq (K_r [] [] (by kernel_rfl) trivial ?_)
  refine K_seq ?_
  refine K_seq ?_
  obtain ⟨x1, hx1, H⟩ := bind_some' H
  refine K_r [.r (I x1) []] [C_T_warp_check k p1 p2 p3 x1] (by kernel_rfl) (A1 (T_warp_check_ok k p1 p2 p3 x1 hx1)) ?_
  refine K_seq (K_r [] [] (by kernel_rfl) trivial ?_)
  rcases ite_some H with ⟨hx2, H⟩ | ⟨hx2, H⟩
  · refine K_t (by kernel_rfl) hx2 ?_
    refine K_seq (K_r [] [] (by kernel_rfl) trivial ?_)
    refine K_g (by kernel_rfl) ?_
    cases H
    refine K_ret ?_
    kernel_rfl
  · refine K_f (by kernel_rfl) (Bool.eq_false_iff.2 hx2) ?_
    refine K_g (by kernel_rfl) ?_
    refine K_skip ?_
    refine K_seq ?_
    obtain ⟨x3, hx3, H⟩ := bind_some' H
    refine K_r [.r (I x3) []] [C_T_warp_distance k p1 p2 p3 4611686018427387904 x3] (by kernel_rfl) (A1 (T_warp_distance_ok k p1 p2 p3 4611686018427387904 x3 hx3)) ?_
    refine K_g (by kernel_rfl) ?_
    cases H
    refine K_ret ?_
    kernel_rfl
def T_measure_distances_2 (k : Nat) (p1 : List Int) (p2 : List Int) (p3 : Int) (p4 : Int) (p5 : Int) : Option (Int × Int × Int) := match k with
 | 0 => none
 | k + 1 => ((T_warp_Distance k p1 p2 p4).bind fun x1 => (T_measure_whole k x1.1 x1.2).bind fun x2 => some (x2.1, x2.2.1, x2.2.2))
abbrev C_T_measure_distances_2 (k : Nat) (p1 : List Int) (p2 : List Int) (p3 : Int) (p4 : Int) (p5 : Int) (r : Int × Int × Int) : Prop := evF X k n_measure_distances_2 [(LI p1), (LI p2), (.one (.d (.ref [.int .i64 p3, .int .i64 p4, .int .i64 p5])))] [] = some ((.tup [(true, [cI r.1, cI r.2.1]), (false, [cI r.2.2])]), [])
theorem T_measure_distances_2_ok (k : Nat) (p1 : List Int) (p2 : List Int) (p3 : Int) (p4 : Int) (p5 : Int) (r : Int × Int × Int) : T_measure_distances_2 k p1 p2 p3 p4 p5 = some r → C_T_measure_distances_2 k p1 p2 p3 p4 p5 r := by
 intro H
 cases k with
 | zero => simp [T_measure_distances_2] at H
 | succ k =>
  simp only [T_measure_distances_2] at H
  refine F_in X_measure_distances_2 rfl ?_
  refine K_seq (K_r [] [] (by kernel_rfl) trivial ?_)
  refine K_seq ?_
  obtain ⟨x1, hx1, H⟩ := bind_some' H
  obtain ⟨x2, hx2, H⟩ := bind_some' H
  refine K_r [.r (.tup [(false, [cI x1.1]), (false, [cI x1.2])]) [], .r (.tup [(true, [cI x2.1, cI x2.2.1]), (false, [cI x2.2.2])]) []] [C_T_warp_Distance k p1 p2 p4 x1, C_T_measure_whole k x1.1 x1.2 x2] (by kernel_rfl) (AC (T_warp_Distance_ok k p1 p2 p4 x1 hx1) (A1 (T_measure_whole_ok k x1.1 x1.2 x2 hx2))) ?_
  refine K_g (by kernel_rfl) ?_
  cases H
  refine K_ret ?_
  kernel_rfl
def T_edit_check (k : Nat) (p1 : List Int) (p2 : List Int) (p3 : Int) : Option Int := match k with
 | 0 => none
 | k + 1 => (if (decide (p3 < (-1000)) || decide (1000 < p3)) = true then some 1 else ((T_euclid_Distance k p1 p1).bind fun x2 => (T_euclid_Distance k p2 p2).bind fun x3 => (if (decide (x2.2 = 8) || decide (x3.2 = 8)) = true then some 8 else some (imax x2.2 x3.2))))
abbrev C_T_edit_check (k : Nat) (p1 : List Int) (p2 : List Int) (p3 : Int) (r : Int) : Prop := evF X k n_edit_check [(LI p1), (LI p2), (I p3)] [] = some ((I r), [])
theorem T_edit_check_ok (k : Nat) (p1 : List Int) (p2 : List Int) (p3 : Int) (r : Int) : T_edit_check k p1 p2 p3 = some r → C_T_edit_check k p1 p2 p3 r := by
 intro H
 cases k with
 | zero => simp [T_edit_check] at H
 | succ k =>
  simp only [T_edit_check] at H
  refine F_in X_edit_check rfl ?_
  refine K_seq (K_r [] [] (by kernel_rfl) trivial ?_)
  refine K_seq (K_seq (K_r [.m] [([] : Heap) = []] (by kernel_rfl) (A1 rfl) ?_))
  rcases ite_some H with ⟨hx1, H⟩ | ⟨hx1, H⟩
  · refine K_t (by kernel_rfl) hx1 ?_
    refine K_seq (K_r [] [] (by kernel_rfl) trivial ?_)
    refine K_g (by kernel_rfl) ?_
    cases H
    refine K_ret ?_
    kernel_rfl
  · refine K_f (by kernel_rfl) (Bool.eq_false_iff.2 hx1) ?_
    refine K_g (by kernel_rfl) ?_
    refine K_skip ?_
    refine K_seq ?_
    obtain ⟨x2, hx2, H⟩ := bind_some' H
    refine K_r [.r (.tup [(false, [cI x2.1]), (false, [cI x2.2])]) []] [C_T_euclid_Distance k p1 p1 x2] (by kernel_rfl) (A1 (T_euclid_Distance_ok k p1 p1 x2 hx2)) ?_
    refine K_seq ?_
    obtain ⟨x3, hx3, H⟩ := bind_some' H
    refine K_r [.r (.tup [(false, [cI x3.1]), (false, [cI x3.2])]) []] [C_T_euclid_Distance k p2 p2 x3] (by kernel_rfl) (A1 (T_euclid_Distance_ok k p2 p2 x3 hx3)) ?_
    refine K_seq (K_seq (K_r [.m] [([] : Heap) = []] (by kernel_rfl) (A1 rfl) ?_))
    rcases ite_some H with ⟨hx4, H⟩ | ⟨hx4, H⟩
    · refine K_t (by kernel_rfl) hx4 ?_
      refine K_seq (K_r [] [] (by kernel_rfl) trivial ?_)
      refine K_g (by kernel_rfl) ?_
      cases H
      refine K_ret ?_
      kernel_rfl
    · refine K_f (by kernel_rfl) (Bool.eq_false_iff.2 hx4) ?_
      refine K_g (by kernel_rfl) ?_
      refine K_skip (K_seq (K_r [] [] (by kernel_rfl) trivial ?_))
      refine K_g (by kernel_rfl) ?_
      cases H
      refine K_ret ?_
      kernel_rfl
def T_edit_apart (k : Nat) (p1 : Int) (p2 : Int) : Option Unit := match k with
 | 0 => none
 | k + 1 => some ()
abbrev C_T_edit_apart (k : Nat) (p1 : Int) (p2 : Int) (r : Unit) : Prop := evF X k n_edit_apart [(I p1), (I p2)] [] = some ((I (imax (w64 (p1 - p2)) (w64 (p2 - p1)))), [])
theorem T_edit_apart_ok (k : Nat) (p1 : Int) (p2 : Int) (r : Unit) : T_edit_apart k p1 p2 = some r → C_T_edit_apart k p1 p2 r := by
 intro H
 cases k with
 | zero => simp [T_edit_apart] at H
 | succ k =>
  simp only [T_edit_apart] at H
  refine F_in X_edit_apart rfl ?_
  refine K_seq (K_r [] [] (by kernel_rfl) trivial ?_)
  refine K_seq (K_r [] [] (by kernel_rfl) trivial ?_)
  refine K_g (by kernel_rfl) ?_
  cases H
  refine K_ret ?_
  kernel_rfl
def T_edit_last (k : Nat) (p1 : Int) (p2 : List Int) (p3 : List Int) (p4 : Int) (p5 : Int) (p6 : Int) : Option (Int × Int × Int × Bool) := match k with
 | 0 => none
 | k + 1 => (if ((decide (p1 = 1) && decide (0 < p5)) && decide (0 < p6)) = true then ((at? p2 (w64 (p5 - 1))).bind fun x2 => (at? p3 (w64 (p6 - 1))).bind fun x3 => (T_edit_apart k x2 x3).bind fun x4 => some ((imax (w64 (x2 - x3)) (w64 (x3 - x2))), (w64 (p5 - 1)), (w64 (p6 - 1)), true)) else (if (decide (p1 = 2) && decide (0 < p5)) = true then ((at? p2 (w64 (p5 - 1))).bind fun x6 => (T_edit_apart k x6 p4).bind fun x7 => some ((imax (w64 (x6 - p4)) (w64 (p4 - x6))), (w64 (p5 - 1)), p6, true)) else (if (decide (p1 = 3) && decide (0 < p6)) = true then ((at? p3 (w64 (p6 - 1))).bind fun x9 => (T_edit_apart k x9 p4).bind fun x10 => some ((imax (w64 (x9 - p4)) (w64 (p4 - x9))), p5, (w64 (p6 - 1)), true)) else some (0, 0, 0, false))))
abbrev C_T_edit_last (k : Nat) (p1 : Int) (p2 : List Int) (p3 : List Int) (p4 : Int) (p5 : Int) (p6 : Int) (r : Int × Int × Int × Bool) : Prop := evF X k n_edit_last [(I p1), (LI p2), (LI p3), (I p4), (I p5), (I p6)] [] = some ((.tup [(false, [cI r.1]), (false, [cI r.2.1]), (false, [cI r.2.2.1]), (false, [cB r.2.2.2])]), [])
theorem T_edit_last_ok (k : Nat) (p1 : Int) (p2 : List Int) (p3 : List Int) (p4 : Int) (p5 : Int) (p6 : Int) (r : Int × Int × Int × Bool) : T_edit_last k p1 p2 p3 p4 p5 p6 = some r → C_T_edit_last k p1 p2 p3 p4 p5 p6 r := by
 intro H
 cases k with
 | zero => simp [T_edit_last] at H
 | succ k =>
  simp only [T_edit_last] at H
  refine F_in X_edit_last rfl ?_
  refine K_seq (K_r [] [] (by kernel_rfl) trivial ?_)
  refine K_seq (K_block (K_seq (K_r [.m, .m] [([] : Heap) = [], ([] : Heap) = []] (by kernel_rfl) (AC rfl (A1 rfl)) ?_)))
  rcases ite_some H with ⟨hx1, H⟩ | ⟨hx1, H⟩
  · refine K_t (by kernel_rfl) hx1 ?_
    refine K_seq ?_
    obtain ⟨x2, hx2, H⟩ := bind_some' H
    obtain ⟨x3, hx3, H⟩ := bind_some' H
    obtain ⟨x4, hx4, H⟩ := bind_some' H
    refine K_r [.l [.int .i64 x2], .l [.int .i64 x3], .r (I (imax (w64 (x2 - x3)) (w64 (x3 - x2)))) []] [(0 : Int) ≤ (w64 (p5 - 1)) ∧ (w64 (p5 - 1)) < (((p2.map (D.int .i64))).length : Int), ((p2.map (D.int .i64)).getD (w64 (p5 - 1)).toNat (.int .i64 0)).cells = [.int .i64 x2], (0 : Int) ≤ (w64 (p6 - 1)) ∧ (w64 (p6 - 1)) < (((p3.map (D.int .i64))).length : Int), ((p3.map (D.int .i64)).getD (w64 (p6 - 1)).toNat (.int .i64 0)).cells = [.int .i64 x3], C_T_edit_apart k x2 x3 x4] (by kernel_rfl) (AC (at_ok hx2 (D.int .i64) (.int .i64 0)).1 (AC (at_ok hx2 (D.int .i64) (.int .i64 0)).2 (AC (at_ok hx3 (D.int .i64) (.int .i64 0)).1 (AC (at_ok hx3 (D.int .i64) (.int .i64 0)).2 (A1 (T_edit_apart_ok k x2 x3 x4 hx4)))))) ?_
    refine K_g (by kernel_rfl) ?_
    cases H
    refine K_ret ?_
    kernel_rfl
  · refine K_f (by kernel_rfl) (Bool.eq_false_iff.2 hx1) ?_
    refine K_seq (K_r [.m] [([] : Heap) = []] (by kernel_rfl) (A1 rfl) ?_)
    rcases ite_some H with ⟨hx5, H⟩ | ⟨hx5, H⟩
    · refine K_t (by kernel_rfl) hx5 ?_
      refine K_seq ?_
      obtain ⟨x6, hx6, H⟩ := bind_some' H
      obtain ⟨x7, hx7, H⟩ := bind_some' H
      refine K_r [.l [.int .i64 x6], .r (I (imax (w64 (x6 - p4)) (w64 (p4 - x6)))) []] [(0 : Int) ≤ (w64 (p5 - 1)) ∧ (w64 (p5 - 1)) < (((p2.map (D.int .i64))).length : Int), ((p2.map (D.int .i64)).getD (w64 (p5 - 1)).toNat (.int .i64 0)).cells = [.int .i64 x6], C_T_edit_apart k x6 p4 x7] (by kernel_rfl) (AC (at_ok hx6 (D.int .i64) (.int .i64 0)).1 (AC (at_ok hx6 (D.int .i64) (.int .i64 0)).2 (A1 (T_edit_apart_ok k x6 p4 x7 hx7)))) ?_
      refine K_g (by kernel_rfl) ?_
      cases H
      refine K_ret ?_
      kernel_rfl
    · refine K_f (by kernel_rfl) (Bool.eq_false_iff.2 hx5) ?_
      refine K_seq (K_r [.m] [([] : Heap) = []] (by kernel_rfl) (A1 rfl) ?_)
      rcases ite_some H with ⟨hx8, H⟩ | ⟨hx8, H⟩
      · refine K_t (by kernel_rfl) hx8 ?_
        refine K_seq ?_
        obtain ⟨x9, hx9, H⟩ := bind_some' H
        obtain ⟨x10, hx10, H⟩ := bind_some' H
        refine K_r [.l [.int .i64 x9], .r (I (imax (w64 (x9 - p4)) (w64 (p4 - x9)))) []] [(0 : Int) ≤ (w64 (p6 - 1)) ∧ (w64 (p6 - 1)) < (((p3.map (D.int .i64))).length : Int), ((p3.map (D.int .i64)).getD (w64 (p6 - 1)).toNat (.int .i64 0)).cells = [.int .i64 x9], C_T_edit_apart k x9 p4 x10] (by kernel_rfl) (AC (at_ok hx9 (D.int .i64) (.int .i64 0)).1 (AC (at_ok hx9 (D.int .i64) (.int .i64 0)).2 (A1 (T_edit_apart_ok k x9 p4 x10 hx10)))) ?_
        refine K_g (by kernel_rfl) ?_
        cases H
        refine K_ret ?_
        kernel_rfl
      · refine K_f (by kernel_rfl) (Bool.eq_false_iff.2 hx8) ?_
        refine K_g (by kernel_rfl) ?_
        refine K_skip (K_blk (K_seq (K_r [] [] (by kernel_rfl) trivial ?_)))
        refine K_g (by kernel_rfl) ?_
        cases H
        refine K_ret ?_
        kernel_rfl
def T_edit_table_l1 (k : Nat) (p1 : List Int) (p2 : List Int) (p3 : Int) (x5 : List Int) (x230 : Int) (x344 : Int) (x395 : Bool × Int × (List Int)) : Option ((Bool × Int × (List Int)) ⊕ (((List Int)))) :=
 (if x395.2.1 ≤ 3 then ((T_edit_last k x395.2.1 p1 p2 p3 x230 x344).bind fun x397 => ((if x397.2.2.2 = true then (if x395.1 = true then some true else (if (0 : Int) ≤ x397.2.1 ∧ x397.2.1 < 33 then (if (x397.2.1.toNat * 33) < x395.2.2.length then (if (0 : Int) ≤ x397.2.2.1 ∧ x397.2.2.1 < 33 then (if ((x397.2.1.toNat * 33) + x397.2.2.1.toNat) < x395.2.2.length then (x395.2.2[((x397.2.1.toNat * 33) + x397.2.2.1.toNat)]?).bind fun x424 => (if (0 : Int) ≤ x230 ∧ x230 < 33 then (if (x230.toNat * 33) < x395.2.2.length then (if (0 : Int) ≤ x344 ∧ x344 < 33 then (if ((x230.toNat * 33) + x344.toNat) < x395.2.2.length then (x395.2.2[((x230.toNat * 33) + x344.toNat)]?).bind fun x429 => some (decide ((w64 (x424 + x397.1)) < x429)) else none) else none) else none) else none) else none) else none) else none) else none)) else some false)).bind fun x430 => ((if x430 = true then (if (0 : Int) ≤ x397.2.1 ∧ x397.2.1 < 33 then (if (x397.2.1.toNat * 33) < x395.2.2.length then (if (0 : Int) ≤ x397.2.2.1 ∧ x397.2.2.1 < 33 then (if ((x397.2.1.toNat * 33) + x397.2.2.1.toNat) < x395.2.2.length then (x395.2.2[((x397.2.1.toNat * 33) + x397.2.2.1.toNat)]?).bind fun x436 => (if (0 : Int) ≤ x230 ∧ x230 < 33 then (if (x230.toNat * 33) < x395.2.2.length then (if (0 : Int) ≤ x344 ∧ x344 < 33 then (if ((x230.toNat * 33) + x344.toNat) < x395.2.2.length then some (false, (x395.2.2.set ((x230.toNat * 33) + x344.toNat) (w64 (x436 + x397.1)))) else none) else none) else none) else none) else none) else none) else none) else none) else some (x395.1, x395.2.2))).bind fun x441 => some (.inl (x441.1, (w64 (x395.2.1 + 1)), x441.2))) else some (.inr x395.2.2))
theorem T_edit_table_l1_ok (k : Nat) (p1 : List Int) (p2 : List Int) (p3 : Int) (x5 : List Int) (x230 : Int) (x344 : Int) : ∀ (x395 : Bool × Int × (List Int)) (x : (Bool × Int × (List Int)) ⊕ (((List Int)))), T_edit_table_l1 k p1 p2 p3 x5 x230 x344 x395 = some x → evC X (evF X k) k 0 l_edit_table_1 ⟨[(0, (LI p1)), (1, (LI p2)), (2, (I p3)), (6, (Pt 0)), (7, (Pt 1)), (8, (I x230)), (9, (I x344)), (10, (B x395.1)), (11, (I x395.2.1))], [VI x5, VI x395.2.2]⟩ = some (outS (fun (s : Bool × Int × (List Int)) => ⟨[(0, (LI p1)), (1, (LI p2)), (2, (I p3)), (6, (Pt 0)), (7, (Pt 1)), (8, (I x230)), (9, (I x344)), (10, (B s.1)), (11, (I s.2.1))], [VI x5, VI s.2.2]⟩) (fun (r : ((List Int))) => (.exit 4, ⟨[(0, (LI p1)), (1, (LI p2)), (2, (I p3)), (6, (Pt 0)), (7, (Pt 1)), (8, (I x230)), (9, (I x344))], [VI x5, VI r]⟩)) x) := by
 intro x395 x H
 unfold T_edit_table_l1 at H
 refine K_in ?_
 refine K_seq (K_seq (K_r [] [] (by kernel_rfl) trivial ?_))
 rcases ite_some H with ⟨hx396, H⟩ | ⟨hx396, H⟩
 · refine K_t (by kernel_rfl) (decide_eq_true hx396) ?_
   refine K_g (by kernel_rfl) ?_
   refine K_skip ?_
   refine K_seq ?_
   refine K_block ?_
   refine K_seq ?_
   obtain ⟨x397, hx397, H⟩ := bind_some' H
   refine K_r [.r (.tup [(false, [cI x397.1]), (false, [cI x397.2.1]), (false, [cI x397.2.2.1]), (false, [cB x397.2.2.2])]) []] [C_T_edit_last k x395.2.1 p1 p2 p3 x230 x344 x397] (by kernel_rfl) (A1 (T_edit_last_ok k x395.2.1 p1 p2 p3 x230 x344 x397 hx397)) ?_
   refine K_seq ?_
   obtain ⟨x430, hx430, H⟩ := bind_some' H
   refine K_of ⟨[(0, (LI p1)), (1, (LI p2)), (2, (I p3)), (6, (Pt 0)), (7, (Pt 1)), (8, (I x230)), (9, (I x344)), (10, (B x395.1)), (11, (I x395.2.1)), (12, (I x397.1)), (13, (I x397.2.1)), (14, (I x397.2.2.1)), (62, (B x430))], [VI x5, VI x395.2.2]⟩ ?_ ?_
   · clear H; have H := hx430; clear hx430; refine K_in ?_
     rcases ite_some H with ⟨hx408, H⟩ | ⟨hx408, H⟩
     · rcases ite_some H with ⟨hx419, H⟩ | ⟨hx419, H⟩
       · refine K_r [.b true, .b true] [x397.2.2.2 = true, x395.1 = true] (by kernel_rfl) (AC hx408 (A1 hx419)) ?_
         cases H
         exact K_end (by kernel_rfl)
       · obtain ⟨hx420, H⟩ := guard_some H
         obtain ⟨hx421, H⟩ := guard_some H
         obtain ⟨hx422, H⟩ := guard_some H
         obtain ⟨hx423, H⟩ := guard_some H
         obtain ⟨x424, hx424, H⟩ := bind_some' H
         obtain ⟨hx425, H⟩ := guard_some H
         obtain ⟨hx426, H⟩ := guard_some H
         obtain ⟨hx427, H⟩ := guard_some H
         obtain ⟨hx428, H⟩ := guard_some H
         obtain ⟨x429, hx429, H⟩ := bind_some' H
         refine K_r [.b true, .b false, .n (x397.2.1.toNat * 33), .n ((x397.2.1.toNat * 33) + x397.2.2.1.toNat), .l [.int .i64 x424], .n (x230.toNat * 33), .n ((x230.toNat * 33) + x344.toNat), .l [.int .i64 x429]] [x397.2.2.2 = true, x395.1 = false, (0 : Int) ≤ x397.2.1 ∧ x397.2.1 < ((33 : Nat) : Int), 0 + x397.2.1.toNat * 33 = (x397.2.1.toNat * 33), (x397.2.1.toNat * 33) < (x395.2.2.map (D.int .i64)).length, (0 : Int) ≤ x397.2.2.1 ∧ x397.2.2.1 < ((33 : Nat) : Int), (x397.2.1.toNat * 33) + x397.2.2.1.toNat * 1 = ((x397.2.1.toNat * 33) + x397.2.2.1.toNat), ((x397.2.1.toNat * 33) + x397.2.2.1.toNat) < (x395.2.2.map (D.int .i64)).length, ((x395.2.2.map (D.int .i64)).getD ((x397.2.1.toNat * 33) + x397.2.2.1.toNat) (.int .i64 0)).cells = [.int .i64 x424], (0 : Int) ≤ x230 ∧ x230 < ((33 : Nat) : Int), 0 + x230.toNat * 33 = (x230.toNat * 33), (x230.toNat * 33) < (x395.2.2.map (D.int .i64)).length, (0 : Int) ≤ x344 ∧ x344 < ((33 : Nat) : Int), (x230.toNat * 33) + x344.toNat * 1 = ((x230.toNat * 33) + x344.toNat), ((x230.toNat * 33) + x344.toNat) < (x395.2.2.map (D.int .i64)).length, ((x395.2.2.map (D.int .i64)).getD ((x230.toNat * 33) + x344.toNat) (.int .i64 0)).cells = [.int .i64 x429]] (by kernel_rfl) (AC hx408 (AC (Bool.eq_false_iff.2 hx419) (AC hx420 (AC (Nat.zero_add _) (AC (by simpa using hx421) (AC hx422 (AC (congrArg ((x397.2.1.toNat * 33) + ·) (Nat.mul_one _)) (AC (by simpa using hx423) (AC (ld_ok hx424 (D.int .i64) (.int .i64 0)) (AC hx425 (AC (Nat.zero_add _) (AC (by simpa using hx426) (AC hx427 (AC (congrArg ((x230.toNat * 33) + ·) (Nat.mul_one _)) (AC (by simpa using hx428) (A1 (ld_ok hx429 (D.int .i64) (.int .i64 0)))))))))))))))))) ?_
         cases H
         exact K_end (by kernel_rfl)
     · refine K_r [.b false] [x397.2.2.2 = false] (by kernel_rfl) (A1 (Bool.eq_false_iff.2 hx408)) ?_
       cases H
       exact K_end (by kernel_rfl)
   obtain ⟨x441, hx441, H⟩ := bind_some' H
   refine K_of ⟨[(0, (LI p1)), (1, (LI p2)), (2, (I p3)), (6, (Pt 0)), (7, (Pt 1)), (8, (I x230)), (9, (I x344)), (10, (B x441.1)), (11, (I x395.2.1))], [VI x5, VI x441.2]⟩ ?_ ?_
   · clear H; have H := hx441; clear hx441; refine K_in ?_
     rcases ite_some H with ⟨hx431, H⟩ | ⟨hx431, H⟩
     · refine K_t (by kernel_rfl) hx431 ?_
       obtain ⟨hx432, H⟩ := guard_some H
       obtain ⟨hx433, H⟩ := guard_some H
       obtain ⟨hx434, H⟩ := guard_some H
       obtain ⟨hx435, H⟩ := guard_some H
       obtain ⟨x436, hx436, H⟩ := bind_some' H
       obtain ⟨hx437, H⟩ := guard_some H
       obtain ⟨hx438, H⟩ := guard_some H
       obtain ⟨hx439, H⟩ := guard_some H
       obtain ⟨hx440, H⟩ := guard_some H
       refine K_r [.n (x397.2.1.toNat * 33), .n ((x397.2.1.toNat * 33) + x397.2.2.1.toNat), .l [.int .i64 x436], .n (x230.toNat * 33), .n ((x230.toNat * 33) + x344.toNat), .l ((x395.2.2.set ((x230.toNat * 33) + x344.toNat) (w64 (x436 + x397.1))).map (D.int .i64))] [(0 : Int) ≤ x397.2.1 ∧ x397.2.1 < ((33 : Nat) : Int), 0 + x397.2.1.toNat * 33 = (x397.2.1.toNat * 33), (x397.2.1.toNat * 33) < (x395.2.2.map (D.int .i64)).length, (0 : Int) ≤ x397.2.2.1 ∧ x397.2.2.1 < ((33 : Nat) : Int), (x397.2.1.toNat * 33) + x397.2.2.1.toNat * 1 = ((x397.2.1.toNat * 33) + x397.2.2.1.toNat), ((x397.2.1.toNat * 33) + x397.2.2.1.toNat) < (x395.2.2.map (D.int .i64)).length, ((x395.2.2.map (D.int .i64)).getD ((x397.2.1.toNat * 33) + x397.2.2.1.toNat) (.int .i64 0)).cells = [.int .i64 x436], (0 : Int) ≤ x230 ∧ x230 < ((33 : Nat) : Int), 0 + x230.toNat * 33 = (x230.toNat * 33), (x230.toNat * 33) < (x395.2.2.map (D.int .i64)).length, (0 : Int) ≤ x344 ∧ x344 < ((33 : Nat) : Int), (x230.toNat * 33) + x344.toNat * 1 = ((x230.toNat * 33) + x344.toNat), ((x230.toNat * 33) + x344.toNat) < (x395.2.2.map (D.int .i64)).length, (x395.2.2.map (D.int .i64)).set ((x230.toNat * 33) + x344.toNat) (elemOf (.int .i64 0) (splice ((x395.2.2.map (D.int .i64)).getD ((x230.toNat * 33) + x344.toNat) (.int .i64 0)).cells 0 [.int .i64 (w64 (x436 + x397.1))])) = (x395.2.2.set ((x230.toNat * 33) + x344.toNat) (w64 (x436 + x397.1))).map (D.int .i64)] (by kernel_rfl) (AC hx432 (AC (Nat.zero_add _) (AC (by simpa using hx433) (AC hx434 (AC (congrArg ((x397.2.1.toNat * 33) + ·) (Nat.mul_one _)) (AC (by simpa using hx435) (AC (ld_ok hx436 (D.int .i64) (.int .i64 0)) (AC hx437 (AC (Nat.zero_add _) (AC (by simpa using hx438) (AC hx439 (AC (congrArg ((x230.toNat * 33) + ·) (Nat.mul_one _)) (AC (by simpa using hx440) (A1 (st_one x395.2.2 ((x230.toNat * 33) + x344.toNat) (w64 (x436 + x397.1)) (D.int .i64) (.int .i64 0) rfl (fun _ => rfl) rfl))))))))))))))) ?_
       cases H
       exact K_end (by kernel_rfl)
     · refine K_f (by kernel_rfl) (Bool.eq_false_iff.2 hx431) ?_
       refine K_g (by kernel_rfl) ?_
       refine K_skip ?_
       cases H
       exact K_end (by kernel_rfl)
   refine K_blk (K_r [] [] (by kernel_rfl) trivial ?_)
   cases H
   exact K_end (by kernel_rfl)
 · refine K_f (by kernel_rfl) (decide_eq_false hx396) ?_
   refine K_g (by kernel_rfl) ?_
   cases H
   exact K_exit0 rfl (by kernel_rfl)
def T_edit_table_l2 (k : Nat) (p1 : List Int) (p2 : List Int) (p3 : Int) (x5 : List Int) (x230 : Int) (x338 : Int × (List Int)) : Option ((Int × (List Int)) ⊕ (((List Int)))) :=
 (if x338.1 ≤ (p2.length : Int) then ((loopT (T_edit_table_l1 k p1 p2 p3 x5 x230 x338.1) k (true, 1, x338.2)).bind fun x442 => some (.inl ((w64 (x338.1 + 1)), x442))) else some (.inr x338.2))
theorem T_edit_table_l2_ok (k : Nat) (p1 : List Int) (p2 : List Int) (p3 : Int) (x5 : List Int) (x230 : Int) : ∀ (x338 : Int × (List Int)) (x : (Int × (List Int)) ⊕ (((List Int)))), T_edit_table_l2 k p1 p2 p3 x5 x230 x338 = some x → evC X (evF X k) k 0 l_edit_table_2 ⟨[(0, (LI p1)), (1, (LI p2)), (2, (I p3)), (6, (Pt 0)), (7, (Pt 1)), (8, (I x230)), (9, (I x338.1))], [VI x5, VI x338.2]⟩ = some (outS (fun (s : Int × (List Int)) => ⟨[(0, (LI p1)), (1, (LI p2)), (2, (I p3)), (6, (Pt 0)), (7, (Pt 1)), (8, (I x230)), (9, (I s.1))], [VI x5, VI s.2]⟩) (fun (r : ((List Int))) => (.exit 2, ⟨[(0, (LI p1)), (1, (LI p2)), (2, (I p3)), (6, (Pt 0)), (7, (Pt 1)), (8, (I x230))], [VI x5, VI r]⟩)) x) := by
 intro x338 x H
 unfold T_edit_table_l2 at H
 refine K_in ?_
 refine K_seq (K_seq (K_r [.n p2.length] [((p2.map (D.int .i64))).length = p2.length] (by kernel_rfl) (A1 (List.length_map _)) ?_))
 rcases ite_some H with ⟨hx339, H⟩ | ⟨hx339, H⟩
 · refine K_t (by kernel_rfl) (decide_eq_true hx339) ?_
   refine K_g (by kernel_rfl) ?_
   refine K_skip (K_seq (K_block (K_seq (K_r [] [] (by kernel_rfl) trivial ?_))))
   refine K_seq (K_r [] [] (by kernel_rfl) trivial ?_)
   refine K_block (K_conv (σ' := ⟨[(0, (LI p1)), (1, (LI p2)), (2, (I p3)), (6, (Pt 0)), (7, (Pt 1)), (8, (I x230)), (9, (I x338.1)), (10, (B true)), (11, (I 1))], [VI x5, VI x338.2]⟩) (by kernel_rfl) ?_)
   obtain ⟨x442, hx442, H⟩ := bind_some' H
   refine K_loop ⟨[(0, (LI p1)), (1, (LI p2)), (2, (I p3)), (6, (Pt 0)), (7, (Pt 1)), (8, (I x230)), (9, (I x338.1))], [VI x5, VI x442]⟩ (loop_ok (fun (s : Bool × Int × (List Int)) => ⟨[(0, (LI p1)), (1, (LI p2)), (2, (I p3)), (6, (Pt 0)), (7, (Pt 1)), (8, (I x230)), (9, (I x338.1)), (10, (B s.1)), (11, (I s.2.1))], [VI x5, VI s.2.2]⟩) (fun (r : ((List Int))) => (.exit 4, ⟨[(0, (LI p1)), (1, (LI p2)), (2, (I p3)), (6, (Pt 0)), (7, (Pt 1)), (8, (I x230)), (9, (I x338.1))], [VI x5, VI r]⟩)) (fun r h => by cases h) (T_edit_table_l1_ok k p1 p2 p3 x5 x230 x338.1) k (true, 1, x338.2) x442 hx442) rfl ?_
   refine K_blk (K_r [] [] (by kernel_rfl) trivial ?_)
   cases H
   exact K_end (by kernel_rfl)
 · refine K_f (by kernel_rfl) (decide_eq_false hx339) ?_
   refine K_g (by kernel_rfl) ?_
   cases H
   exact K_exit0 rfl (by kernel_rfl)
def T_edit_table_l3 (k : Nat) (p1 : List Int) (p2 : List Int) (p3 : Int) (x5 : List Int) (x225 : Int × (List Int)) : Option ((Int × (List Int)) ⊕ (((List Int)))) :=
 (if x225.1 ≤ (p1.length : Int) then ((loopT (T_edit_table_l2 k p1 p2 p3 x5 x225.1) k (0, x225.2)).bind fun x443 => some (.inl ((w64 (x225.1 + 1)), x443))) else some (.inr x225.2))
theorem T_edit_table_l3_ok (k : Nat) (p1 : List Int) (p2 : List Int) (p3 : Int) (x5 : List Int) : ∀ (x225 : Int × (List Int)) (x : (Int × (List Int)) ⊕ (((List Int)))), T_edit_table_l3 k p1 p2 p3 x5 x225 = some x → evC X (evF X k) k 0 l_edit_table_3 ⟨[(0, (LI p1)), (1, (LI p2)), (2, (I p3)), (6, (Pt 0)), (7, (Pt 1)), (8, (I x225.1))], [VI x5, VI x225.2]⟩ = some (outS (fun (s : Int × (List Int)) => ⟨[(0, (LI p1)), (1, (LI p2)), (2, (I p3)), (6, (Pt 0)), (7, (Pt 1)), (8, (I s.1))], [VI x5, VI s.2]⟩) (fun (r : ((List Int))) => (.exit 0, ⟨[(6, (Pt 0)), (7, (Pt 1))], [VI x5, VI r]⟩)) x) := by
 intro x225 x H
 unfold T_edit_table_l3 at H
 refine K_in ?_
 refine K_seq (K_seq (K_r [.n p1.length] [((p1.map (D.int .i64))).length = p1.length] (by kernel_rfl) (A1 (List.length_map _)) ?_))
 rcases ite_some H with ⟨hx226, H⟩ | ⟨hx226, H⟩
 · refine K_t (by kernel_rfl) (decide_eq_true hx226) ?_
   refine K_g (by kernel_rfl) ?_
   refine K_skip (K_seq (K_block (K_seq (K_r [] [] (by kernel_rfl) trivial ?_))))
   refine K_block (K_conv (σ' := ⟨[(0, (LI p1)), (1, (LI p2)), (2, (I p3)), (6, (Pt 0)), (7, (Pt 1)), (8, (I x225.1)), (9, (I 0))], [VI x5, VI x225.2]⟩) (by kernel_rfl) ?_)
   obtain ⟨x443, hx443, H⟩ := bind_some' H
   refine K_loop ⟨[(0, (LI p1)), (1, (LI p2)), (2, (I p3)), (6, (Pt 0)), (7, (Pt 1)), (8, (I x225.1))], [VI x5, VI x443]⟩ (loop_ok (fun (s : Int × (List Int)) => ⟨[(0, (LI p1)), (1, (LI p2)), (2, (I p3)), (6, (Pt 0)), (7, (Pt 1)), (8, (I x225.1)), (9, (I s.1))], [VI x5, VI s.2]⟩) (fun (r : ((List Int))) => (.exit 2, ⟨[(0, (LI p1)), (1, (LI p2)), (2, (I p3)), (6, (Pt 0)), (7, (Pt 1)), (8, (I x225.1))], [VI x5, VI r]⟩)) (fun r h => by cases h) (T_edit_table_l2_ok k p1 p2 p3 x5 x225.1) k (0, x225.2) x443 hx443) rfl ?_
   refine K_blk (K_r [] [] (by kernel_rfl) trivial ?_)
   cases H
   exact K_end (by kernel_rfl)
 · refine K_f (by kernel_rfl) (decide_eq_false hx226) ?_
   refine K_g (by kernel_rfl) ?_
   cases H
   exact K_exit0 rfl (by kernel_rfl)
def T_edit_table (k : Nat) (p1 : List Int) (p2 : List Int) (p3 : Int) : Option ((List Int)) := match k with
 | 0 => none
 | k + 1 => (loopT (T_edit_table_l3 k p1 p2 p3 (List.replicate 1089 (0 : Int))) k (0, (List.replicate 1089 (0 : Int)))).bind fun x444 => (if x444.length = 1089 then some x444 else none)
abbrev C_T_edit_table (k : Nat) (p1 : List Int) (p2 : List Int) (p3 : Int) (r : (List Int)) : Prop := evF X k n_edit_table [(LI p1), (LI p2), (I p3)] [] = some ((.agg ((r.map (D.int .i64)).map .d)), [])
theorem T_edit_table_ok (k : Nat) (p1 : List Int) (p2 : List Int) (p3 : Int) (r : (List Int)) : T_edit_table k p1 p2 p3 = some r → C_T_edit_table k p1 p2 p3 r := by
 intro H
 cases k with
 | zero => simp [T_edit_table] at H
 | succ k =>
  simp only [T_edit_table] at H
  refine F_in X_edit_table rfl ?_
  refine K_seq (K_r [] [] (by kernel_rfl) trivial ?_)
  refine K_seq (K_r [] [] (by kernel_rfl) trivial ?_)
  refine K_seq (K_seq (K_r [] [] (by kernel_rfl) trivial ?_))
  refine K_block (K_conv (σ' := ⟨[(0, (LI p1)), (1, (LI p2)), (2, (I p3)), (6, (Pt 0)), (7, (Pt 1)), (8, (I 0))], [VI (List.replicate 1089 (0 : Int)), VI (List.replicate 1089 (0 : Int))]⟩) (by kernel_rfl) ?_)
  obtain ⟨x444, hx444, H⟩ := bind_some' H
  refine K_loop ⟨[(6, (Pt 0)), (7, (Pt 1))], [VI (List.replicate 1089 (0 : Int)), VI x444]⟩ (loop_ok (fun (s : Int × (List Int)) => ⟨[(0, (LI p1)), (1, (LI p2)), (2, (I p3)), (6, (Pt 0)), (7, (Pt 1)), (8, (I s.1))], [VI (List.replicate 1089 (0 : Int)), VI s.2]⟩) (fun (r : ((List Int))) => (.exit 0, ⟨[(6, (Pt 0)), (7, (Pt 1))], [VI (List.replicate 1089 (0 : Int)), VI r]⟩)) (fun r h => by cases h) (T_edit_table_l3_ok k p1 p2 p3 (List.replicate 1089 (0 : Int))) k (0, (List.replicate 1089 (0 : Int))) x444 hx444) rfl ?_
  refine K_seq ?_
  obtain ⟨hx445, H⟩ := guard_some H
  refine K_r [.l (x444.map (D.int .i64)), .l (x444.map (D.int .i64))] [(x444.map (D.int .i64)).length = 1089, (x444.map (D.int .i64)).flatMap D.cells = x444.map (D.int .i64), ((x444.map (D.int .i64)).map C.d) = (x444.map (D.int .i64)).map C.d, (x444.map (D.int .i64)).length = 1089, ((List.replicate 1089 (0 : Int)).map (D.int .i64)).length = 1089] (by kernel_rfl) (AC (by simpa using hx445) (AC (fm_int x444) (AC rfl (AC (by simpa using hx445) (A1 (by simp)))))) ?_
  refine K_g (by kernel_rfl) ?_
  have H := Option.some.inj H; subst H
  refine K_ret ?_
  exact fin_flat (fn := m_edit_table) (n := 1089) (t := 6) (xs := x444) (env := [(6, (Pt 0))]) (e := .ret) rfl rfl rfl (by decide) (by assumption) (fun i h => by cases h)
def T_edit_Distance (k : Nat) (p1 : List Int) (p2 : List Int) (p3 : Int) : Option (Int × Int) := match k with
 | 0 => none
 | k + 1 => ((T_edit_check k p1 p2 p3).bind fun x1 => (if (!decide (x1 = 0)) = true then some (0, x1) else (T_edit_table k p1 p2 p3).bind fun x3 => (if (0 : Int) ≤ (p1.length : Int) ∧ (p1.length : Int) < 33 then (if (0 : Int) ≤ (p2.length : Int) ∧ (p2.length : Int) < 33 then (at? ((x3.drop ((p1.length : Int).toNat * 33)).take 33) (p2.length : Int)).bind fun x6 => some (x6, 0) else none) else none)))
abbrev C_T_edit_Distance (k : Nat) (p1 : List Int) (p2 : List Int) (p3 : Int) (r : Int × Int) : Prop := evF X k n_edit_Distance [(LI p1), (LI p2), (I p3)] [] = some ((.tup [(false, [cI r.1]), (false, [cI r.2])]), [])
theorem T_edit_Distance_ok (k : Nat) (p1 : List Int) (p2 : List Int) (p3 : Int) (r : Int × Int) : T_edit_Distance k p1 p2 p3 = some r → C_T_edit_Distance k p1 p2 p3 r := by
 intro H
 cases k with
 | zero => simp [T_edit_Distance] at H
 | succ k =>
  simp only [T_edit_Distance] at H
  refine F_in X_edit_Distance rfl ?_
  refine K_seq (K_r [] [] (by kernel_rfl) trivial ?_)
  refine K_seq ?_
  refine K_seq ?_
  obtain ⟨x1, hx1, H⟩ := bind_some' H
  refine K_r [.r (I x1) []] [C_T_edit_check k p1 p2 p3 x1] (by kernel_rfl) (A1 (T_edit_check_ok k p1 p2 p3 x1 hx1)) ?_
  refine K_seq (K_r [] [] (by kernel_rfl) trivial ?_)
  rcases ite_some H with ⟨hx2, H⟩ | ⟨hx2, H⟩
  · refine K_t (by kernel_rfl) hx2 ?_
    refine K_seq (K_r [] [] (by kernel_rfl) trivial ?_)
    refine K_g (by kernel_rfl) ?_
    cases H
    refine K_ret ?_
    kernel_rfl
  · refine K_f (by kernel_rfl) (Bool.eq_false_iff.2 hx2) ?_
    refine K_g (by kernel_rfl) ?_
    refine K_skip ?_
    refine K_seq ?_
    obtain ⟨x3, hx3, H⟩ := bind_some' H
    obtain ⟨hx4, H⟩ := guard_some H
    obtain ⟨hx5, H⟩ := guard_some H
    obtain ⟨x6, hx6, H⟩ := bind_some' H
    refine K_r [.r (.agg ((x3.map (D.int .i64)).map .d)) [], .n p1.length, .l (((x3.drop ((p1.length : Int).toNat * 33)).take 33).map (D.int .i64)), .n p2.length, .l [.int .i64 x6]] [C_T_edit_table k p1 p2 p3 x3, ((p1.map (D.int .i64))).length = p1.length, (0 : Int) ≤ (p1.length : Int) ∧ (p1.length : Int) < ((33 : Nat) : Int), (List.drop ((p1.length : Int).toNat * 33) ((x3.map (D.int .i64)).map C.d)).take 33 = (((x3.drop ((p1.length : Int).toNat * 33)).take 33).map (D.int .i64)).map C.d, ((p2.map (D.int .i64))).length = p2.length, (0 : Int) ≤ (p2.length : Int) ∧ (p2.length : Int) < ((33 : Nat) : Int), (List.drop ((p2.length : Int).toNat * 1) ((((x3.drop ((p1.length : Int).toNat * 33)).take 33).map (D.int .i64)).map C.d)).take 1 = [cI x6]] (by kernel_rfl) (AC (T_edit_table_ok k p1 p2 p3 x3 hx3) (AC (List.length_map _) (AC hx4 (AC (ag_map (D.int .i64) x3 _ _) (AC (List.length_map _) (AC hx5 (A1 (ag_one (D.int .i64) hx6)))))))) ?_
    refine K_g (by kernel_rfl) ?_
    cases H
    refine K_ret ?_
    kernel_rfl
def T_measure_distances_3 (k : Nat) (p1 : List Int) (p2 : List Int) (p3 : Int) (p4 : Int) (p5 : Int) : Option (Int × Int × Int) := match k with
 | 0 => none
 | k + 1 => ((T_edit_Distance k p1 p2 p5).bind fun x1 => (T_measure_whole k x1.1 x1.2).bind fun x2 => some (x2.1, x2.2.1, x2.2.2))
abbrev C_T_measure_distances_3 (k : Nat) (p1 : List Int) (p2 : List Int) (p3 : Int) (p4 : Int) (p5 : Int) (r : Int × Int × Int) : Prop := evF X k n_measure_distances_3 [(LI p1), (LI p2), (.one (.d (.ref [.int .i64 p3, .int .i64 p4, .int .i64 p5])))] [] = some ((.tup [(true, [cI r.1, cI r.2.1]), (false, [cI r.2.2])]), [])
theorem T_measure_distances_3_ok (k : Nat) (p1 : List Int) (p2 : List Int) (p3 : Int) (p4 : Int) (p5 : Int) (r : Int × Int × Int) : T_measure_distances_3 k p1 p2 p3 p4 p5 = some r → C_T_measure_distances_3 k p1 p2 p3 p4 p5 r := by
 intro H
 cases k with
 | zero => simp [T_measure_distances_3] at H
 | succ k =>
  simp only [T_measure_distances_3] at H
  refine F_in X_measure_distances_3 rfl ?_
  refine K_seq (K_r [] [] (by kernel_rfl) trivial ?_)
  refine K_seq ?_
  obtain ⟨x1, hx1, H⟩ := bind_some' H
  obtain ⟨x2, hx2, H⟩ := bind_some' H
  refine K_r [.r (.tup [(false, [cI x1.1]), (false, [cI x1.2])]) [], .r (.tup [(true, [cI x2.1, cI x2.2.1]), (false, [cI x2.2.2])]) []] [C_T_edit_Distance k p1 p2 p5 x1, C_T_measure_whole k x1.1 x1.2 x2] (by kernel_rfl) (AC (T_edit_Distance_ok k p1 p2 p5 x1 hx1) (A1 (T_measure_whole_ok k x1.1 x1.2 x2 hx2))) ?_
  refine K_g (by kernel_rfl) ?_
  cases H
  refine K_ret ?_
  kernel_rfl
def T_measure_Distance (k : Nat) (p1 : Int) (p2 : Int) (p3 : Int) (p4 : List Int) (p5 : List Int) : Option (Int × Int × Int) := match k with
 | 0 => none
 | k + 1 => ((T_measure_Check k p1 p2 p3).bind fun x1 => (if (!decide (x1 = 0)) = true then some (0, 0, x1) else ((((T_measure_distances k p1 p2 p3).bind fun x3 => (if p1 = 1 then ((T_measure_distances_1 k p4 p5).bind fun x5 => some (x5.2.2, x5.1, x5.2.1)) else (if p1 = 2 then ((T_euclid_Shifted k p4 p5).bind fun x7 => some (x7.2.2, x7.1, x7.2.1)) else (if p1 = 3 then ((T_normal_Gap k p4 p5).bind fun x9 => some (x9.2.2, x9.1, x9.2.1)) else (if p1 = 4 then ((T_measure_distances_2 k p4 p5 p1 p2 p3).bind fun x11 => some (x11.2.2, x11.1, x11.2.1)) else (if p1 = 5 then ((T_measure_distances_3 k p4 p5 p1 p2 p3).bind fun x13 => some (x13.2.2, x13.1, x13.2.1)) else none))))))).bind fun x14 => some (x14.2.1, x14.2.2, x14.1))))
abbrev C_T_measure_Distance (k : Nat) (p1 : Int) (p2 : Int) (p3 : Int) (p4 : List Int) (p5 : List Int) (r : Int × Int × Int) : Prop := evF X k n_measure_Distance [(.agg [cI p1, cI p2, cI p3]), (LI p4), (LI p5)] [] = some ((.tup [(true, [cI r.1, cI r.2.1]), (false, [cI r.2.2])]), [])
theorem T_measure_Distance_ok (k : Nat) (p1 : Int) (p2 : Int) (p3 : Int) (p4 : List Int) (p5 : List Int) (r : Int × Int × Int) : T_measure_Distance k p1 p2 p3 p4 p5 = some r → C_T_measure_Distance k p1 p2 p3 p4 p5 r := by
 intro H
 cases k with
 | zero => simp [T_measure_Distance] at H
 | succ k =>
  simp only [T_measure_Distance] at H
  refine F_in X_measure_Distance rfl ?_
  refine K_seq (K_r [] [] (by kernel_rfl) trivial ?_)
  refine K_seq ?_
  refine K_seq ?_
  obtain ⟨x1, hx1, H⟩ := bind_some' H
  refine K_r [.r (I x1) []] [C_T_measure_Check k p1 p2 p3 x1] (by kernel_rfl) (A1 (T_measure_Check_ok k p1 p2 p3 x1 hx1)) ?_
  refine K_seq (K_r [] [] (by kernel_rfl) trivial ?_)
  rcases ite_some H with ⟨hx2, H⟩ | ⟨hx2, H⟩
  · refine K_t (by kernel_rfl) hx2 ?_
    refine K_seq (K_r [] [] (by kernel_rfl) trivial ?_)
    refine K_g (by kernel_rfl) ?_
    cases H
    refine K_ret ?_
    kernel_rfl
  · refine K_f (by kernel_rfl) (Bool.eq_false_iff.2 hx2) ?_
    refine K_g (by kernel_rfl) ?_
    refine K_skip ?_
    refine K_seq ?_
    obtain ⟨x14, hx14, H⟩ := bind_some' H
    refine K_of ⟨[(6, (Pt 0)), (7, (I x14.1))], [.cells [cI x14.2.1, cI x14.2.2]]⟩ ?_ ?_
    · clear H; have H := hx14; clear hx14; refine K_in ?_
      obtain ⟨x3, hx3, H⟩ := bind_some' H
      rcases ite_some H with ⟨hx4, H⟩ | ⟨hx4, H⟩
      · obtain ⟨x5, hx5, H⟩ := bind_some' H
        refine K_rI [.r (.one (.mp 0)) [.map [(1, .fn (.func n_measure_distances_1) []), (2, .fn (.func n_euclid_Shifted) []), (3, .fn (.func n_normal_Gap) []), (4, .fn (.func n_measure_distances_2) [.ref [.int .i64 p1, .int .i64 p2, .int .i64 p3]]), (5, .fn (.func n_measure_distances_3) [.ref [.int .i64 p1, .int .i64 p2, .int .i64 p3]])]], .n 1, .r (.tup [(true, [cI x5.1, cI x5.2.1]), (false, [cI x5.2.2])]) []] [0, 1, 2, 0, 1, 2, 0, 1, 2] ((fun (z1 : St) => [C_T_measure_distances k p1 p2 p3 x3, p1 = ((1 : Nat) : Int), C_T_measure_distances_1 k p4 p5 x5, z1 = z1]) (⟨[(6, (Pt 0)), (7, (I x5.2.2))], [.cells [cI x5.1, cI x5.2.1]]⟩)) [0, 1, 2, 0, 1, 2, 3, 0, 1, 2, 3] (by kernel_rfl) (AC (T_measure_distances_ok k p1 p2 p3 x3 hx3) (AC (of_decide_eq_true (decide_eq_true hx4)) (AC (T_measure_distances_1_ok k p4 p5 x5 hx5) (A1 rfl)))) ?_
        cases H
        exact K_end (by kernel_rfl)
      · rcases ite_some H with ⟨hx6, H⟩ | ⟨hx6, H⟩
        · obtain ⟨x7, hx7, H⟩ := bind_some' H
          refine K_rI [.r (.one (.mp 0)) [.map [(1, .fn (.func n_measure_distances_1) []), (2, .fn (.func n_euclid_Shifted) []), (3, .fn (.func n_normal_Gap) []), (4, .fn (.func n_measure_distances_2) [.ref [.int .i64 p1, .int .i64 p2, .int .i64 p3]]), (5, .fn (.func n_measure_distances_3) [.ref [.int .i64 p1, .int .i64 p2, .int .i64 p3]])]], .n 2, .r (.tup [(true, [cI x7.1, cI x7.2.1]), (false, [cI x7.2.2])]) []] [0, 1, 2, 0, 1, 2, 0, 1, 2] ((fun (z1 : St) => [C_T_measure_distances k p1 p2 p3 x3, p1 = ((2 : Nat) : Int), C_T_euclid_Shifted k p4 p5 x7, z1 = z1]) (⟨[(6, (Pt 0)), (7, (I x7.2.2))], [.cells [cI x7.1, cI x7.2.1]]⟩)) [0, 1, 2, 0, 1, 2, 3, 0, 1, 2, 3] (by kernel_rfl) (AC (T_measure_distances_ok k p1 p2 p3 x3 hx3) (AC (of_decide_eq_true (decide_eq_true hx6)) (AC (T_euclid_Shifted_ok k p4 p5 x7 hx7) (A1 rfl)))) ?_
          cases H
          exact K_end (by kernel_rfl)
        · rcases ite_some H with ⟨hx8, H⟩ | ⟨hx8, H⟩
          · obtain ⟨x9, hx9, H⟩ := bind_some' H
            refine K_rI [.r (.one (.mp 0)) [.map [(1, .fn (.func n_measure_distances_1) []), (2, .fn (.func n_euclid_Shifted) []), (3, .fn (.func n_normal_Gap) []), (4, .fn (.func n_measure_distances_2) [.ref [.int .i64 p1, .int .i64 p2, .int .i64 p3]]), (5, .fn (.func n_measure_distances_3) [.ref [.int .i64 p1, .int .i64 p2, .int .i64 p3]])]], .n 3, .r (.tup [(true, [cI x9.1, cI x9.2.1]), (false, [cI x9.2.2])]) []] [0, 1, 2, 0, 1, 2, 0, 1, 2] ((fun (z1 : St) => [C_T_measure_distances k p1 p2 p3 x3, p1 = ((3 : Nat) : Int), C_T_normal_Gap k p4 p5 x9, z1 = z1]) (⟨[(6, (Pt 0)), (7, (I x9.2.2))], [.cells [cI x9.1, cI x9.2.1]]⟩)) [0, 1, 2, 0, 1, 2, 3, 0, 1, 2, 3] (by kernel_rfl) (AC (T_measure_distances_ok k p1 p2 p3 x3 hx3) (AC (of_decide_eq_true (decide_eq_true hx8)) (AC (T_normal_Gap_ok k p4 p5 x9 hx9) (A1 rfl)))) ?_
            cases H
            exact K_end (by kernel_rfl)
          · rcases ite_some H with ⟨hx10, H⟩ | ⟨hx10, H⟩
            · obtain ⟨x11, hx11, H⟩ := bind_some' H
              refine K_rI [.r (.one (.mp 0)) [.map [(1, .fn (.func n_measure_distances_1) []), (2, .fn (.func n_euclid_Shifted) []), (3, .fn (.func n_normal_Gap) []), (4, .fn (.func n_measure_distances_2) [.ref [.int .i64 p1, .int .i64 p2, .int .i64 p3]]), (5, .fn (.func n_measure_distances_3) [.ref [.int .i64 p1, .int .i64 p2, .int .i64 p3]])]], .n 4, .r (.tup [(true, [cI x11.1, cI x11.2.1]), (false, [cI x11.2.2])]) []] [0, 1, 2, 0, 1, 2, 0, 1, 2] ((fun (z1 : St) => [C_T_measure_distances k p1 p2 p3 x3, p1 = ((4 : Nat) : Int), C_T_measure_distances_2 k p4 p5 p1 p2 p3 x11, z1 = z1]) (⟨[(6, (Pt 0)), (7, (I x11.2.2))], [.cells [cI x11.1, cI x11.2.1]]⟩)) [0, 1, 2, 0, 1, 2, 3, 0, 1, 2, 3] (by kernel_rfl) (AC (T_measure_distances_ok k p1 p2 p3 x3 hx3) (AC (of_decide_eq_true (decide_eq_true hx10)) (AC (T_measure_distances_2_ok k p4 p5 p1 p2 p3 x11 hx11) (A1 rfl)))) ?_
              cases H
              exact K_end (by kernel_rfl)
            · rcases ite_some H with ⟨hx12, H⟩ | ⟨hx12, H⟩
              · obtain ⟨x13, hx13, H⟩ := bind_some' H
                refine K_rI [.r (.one (.mp 0)) [.map [(1, .fn (.func n_measure_distances_1) []), (2, .fn (.func n_euclid_Shifted) []), (3, .fn (.func n_normal_Gap) []), (4, .fn (.func n_measure_distances_2) [.ref [.int .i64 p1, .int .i64 p2, .int .i64 p3]]), (5, .fn (.func n_measure_distances_3) [.ref [.int .i64 p1, .int .i64 p2, .int .i64 p3]])]], .n 5, .r (.tup [(true, [cI x13.1, cI x13.2.1]), (false, [cI x13.2.2])]) []] [0, 1, 2, 0, 1, 2, 0, 1, 2] ((fun (z1 : St) => [C_T_measure_distances k p1 p2 p3 x3, p1 = ((5 : Nat) : Int), C_T_measure_distances_3 k p4 p5 p1 p2 p3 x13, z1 = z1]) (⟨[(6, (Pt 0)), (7, (I x13.2.2))], [.cells [cI x13.1, cI x13.2.1]]⟩)) [0, 1, 2, 0, 1, 2, 3, 0, 1, 2, 3] (by kernel_rfl) (AC (T_measure_distances_ok k p1 p2 p3 x3 hx3) (AC (of_decide_eq_true (decide_eq_true hx12)) (AC (T_measure_distances_3_ok k p4 p5 p1 p2 p3 x13 hx13) (A1 rfl)))) ?_
                cases H
                exact K_end (by kernel_rfl)
              · cases H
    refine K_g (by kernel_rfl) ?_
    cases H
    refine K_ret ?_
    kernel_rfl
def T_ratio_Valid (k : Nat) (p1 : Int) (p2 : Int) : Option Bool := match k with
 | 0 => none
 | k + 1 => ((((T_ratio_within k p1 p2).bind fun x1 => (if (((decide (0 ≤ p1) && decide (p1 ≤ 2305843009213693952)) && decide (1 ≤ p2)) && decide (p2 ≤ 1152921504606846976)) = true then ((T_ratio_divisor k p1 p2).bind fun x4 => some (decide (x4 = 1))) else some false))).bind fun x5 => some x5)
abbrev C_T_ratio_Valid (k : Nat) (p1 : Int) (p2 : Int) (r : Bool) : Prop := evF X k n_ratio_Valid [(.agg [cI p1, cI p2])] [] = some ((B r), [])
theorem T_ratio_Valid_ok (k : Nat) (p1 : Int) (p2 : Int) (r : Bool) : T_ratio_Valid k p1 p2 = some r → C_T_ratio_Valid k p1 p2 r := by
 intro H
 cases k with
 | zero => simp [T_ratio_Valid] at H
 | succ k =>
  simp only [T_ratio_Valid] at H
  refine F_in X_ratio_Valid rfl ?_
  refine K_seq (K_r [] [] (by kernel_rfl) trivial ?_)
  refine K_seq ?_
  obtain ⟨x5, hx5, H⟩ := bind_some' H
  refine K_of ⟨[(2, (B x5))], []⟩ ?_ ?_
  · clear H; have H := hx5; clear hx5; refine K_in ?_
    obtain ⟨x1, hx1, H⟩ := bind_some' H
    rcases ite_some H with ⟨hx3, H⟩ | ⟨hx3, H⟩
    · obtain ⟨x4, hx4, H⟩ := bind_some' H
      refine K_r [.r (B (((decide (0 ≤ p1) && decide (p1 ≤ 2305843009213693952)) && decide (1 ≤ p2)) && decide (p2 ≤ 1152921504606846976))) [], .b true, .r (I x4) []] [C_T_ratio_within k p1 p2 x1, (((decide (0 ≤ p1) && decide (p1 ≤ 2305843009213693952)) && decide (1 ≤ p2)) && decide (p2 ≤ 1152921504606846976)) = true, C_T_ratio_divisor k p1 p2 x4] (by kernel_rfl) (AC (T_ratio_within_ok k p1 p2 x1 hx1) (AC hx3 (A1 (T_ratio_divisor_ok k p1 p2 x4 hx4)))) ?_
      cases H
      exact K_end (by kernel_rfl)
    · refine K_r [.r (B (((decide (0 ≤ p1) && decide (p1 ≤ 2305843009213693952)) && decide (1 ≤ p2)) && decide (p2 ≤ 1152921504606846976))) [], .b false] [C_T_ratio_within k p1 p2 x1, (((decide (0 ≤ p1) && decide (p1 ≤ 2305843009213693952)) && decide (1 ≤ p2)) && decide (p2 ≤ 1152921504606846976)) = false] (by kernel_rfl) (AC (T_ratio_within_ok k p1 p2 x1 hx1) (A1 (Bool.eq_false_iff.2 hx3))) ?_
      cases H
      exact K_end (by kernel_rfl)
  refine K_g (by kernel_rfl) ?_
  cases H
  refine K_ret ?_
  kernel_rfl
def T_math_bits_Mul64 (k : Nat) (p1 : Int) (p2 : Int) : Option Unit := match k with
 | 0 => none
 | k + 1 => some ()
abbrev C_T_math_bits_Mul64 (k : Nat) (p1 : Int) (p2 : Int) (r : Unit) : Prop := evF X k n_math_bits_Mul64 [(.one (.d (.int .u64 p1))), (.one (.d (.int .u64 p2)))] [] = some ((.tup [(false, [.d (.int .u64 (IntKind.wrap .u64 ((IntKind.wrap .u64 ((IntKind.wrap .u64 ((p1.fdiv (2 ^ 32)) * (p2.fdiv (2 ^ 32)))) + ((IntKind.wrap .u64 ((IntKind.wrap .u64 ((p1.fdiv (2 ^ 32)) * (bAnd .u64 p2 4294967295))) + ((IntKind.wrap .u64 ((bAnd .u64 p1 4294967295) * (bAnd .u64 p2 4294967295))).fdiv (2 ^ 32)))).fdiv (2 ^ 32)))) + ((IntKind.wrap .u64 ((bAnd .u64 (IntKind.wrap .u64 ((IntKind.wrap .u64 ((p1.fdiv (2 ^ 32)) * (bAnd .u64 p2 4294967295))) + ((IntKind.wrap .u64 ((bAnd .u64 p1 4294967295) * (bAnd .u64 p2 4294967295))).fdiv (2 ^ 32)))) 4294967295) + (IntKind.wrap .u64 ((bAnd .u64 p1 4294967295) * (p2.fdiv (2 ^ 32)))))).fdiv (2 ^ 32)))))]), (false, [.d (.int .u64 (IntKind.wrap .u64 (p1 * p2)))])]), [])
theorem T_math_bits_Mul64_ok (k : Nat) (p1 : Int) (p2 : Int) (r : Unit) : T_math_bits_Mul64 k p1 p2 = some r → C_T_math_bits_Mul64 k p1 p2 r := by
 intro H
 cases k with
 | zero => simp [T_math_bits_Mul64] at H
 | succ k =>
  simp only [T_math_bits_Mul64] at H
  refine F_in X_math_bits_Mul64 rfl ?_
  refine K_seq (K_r [] [] (by kernel_rfl) trivial ?_)
  refine K_seq (K_r [] [] (by kernel_rfl) trivial ?_)
  refine K_seq (K_r [] [(0 : Int) ≤ 32] (by kernel_rfl) (A1 (by decide)) ?_)
  refine K_seq (K_r [] [] (by kernel_rfl) trivial ?_)
  refine K_seq (K_r [] [(0 : Int) ≤ 32] (by kernel_rfl) (A1 (by decide)) ?_)
  refine K_seq (K_r [] [] (by kernel_rfl) trivial ?_)
  refine K_seq (K_r [] [(0 : Int) ≤ 32] (by kernel_rfl) (A1 (by decide)) ?_)
  refine K_seq (K_r [] [] (by kernel_rfl) trivial ?_)
  refine K_seq (K_r [] [(0 : Int) ≤ 32] (by kernel_rfl) (A1 (by decide)) ?_)
  refine K_seq (K_r [] [] (by kernel_rfl) trivial ?_)
  refine K_seq (K_r [] [(0 : Int) ≤ 32] (by kernel_rfl) (A1 (by decide)) ?_)
  refine K_seq (K_r [] [] (by kernel_rfl) trivial ?_)
  refine K_g (by kernel_rfl) ?_
  cases H
  refine K_ret ?_
  kernel_rfl
def T_ratio_Cmp (k : Nat) (p1 : Int) (p2 : Int) (p3 : Int) (p4 : Int) : Option Int := match k with
 | 0 => none
 | k + 1 => ((((T_ratio_Valid k p1 p2).bind fun x1 => (if (!x1) = true then some true else ((T_ratio_Valid k p3 p4).bind fun x4 => some (!x4))))).bind fun x5 => (if x5 = true then some 0 else ((T_math_bits_Mul64 k (IntKind.wrap .u64 (p1)) (IntKind.wrap .u64 (p4))).bind fun x7 => (T_math_bits_Mul64 k (IntKind.wrap .u64 (p3)) (IntKind.wrap .u64 (p2))).bind fun x8 => (if (decide ((IntKind.wrap .u64 ((IntKind.wrap .u64 ((IntKind.wrap .u64 (((IntKind.wrap .u64 (p1)).fdiv (2 ^ 32)) * ((IntKind.wrap .u64 (p4)).fdiv (2 ^ 32)))) + ((IntKind.wrap .u64 ((IntKind.wrap .u64 (((IntKind.wrap .u64 (p1)).fdiv (2 ^ 32)) * (bAnd .u64 (IntKind.wrap .u64 (p4)) 4294967295))) + ((IntKind.wrap .u64 ((bAnd .u64 (IntKind.wrap .u64 (p1)) 4294967295) * (bAnd .u64 (IntKind.wrap .u64 (p4)) 4294967295))).fdiv (2 ^ 32)))).fdiv (2 ^ 32)))) + ((IntKind.wrap .u64 ((bAnd .u64 (IntKind.wrap .u64 ((IntKind.wrap .u64 (((IntKind.wrap .u64 (p1)).fdiv (2 ^ 32)) * (bAnd .u64 (IntKind.wrap .u64 (p4)) 4294967295))) + ((IntKind.wrap .u64 ((bAnd .u64 (IntKind.wrap .u64 (p1)) 4294967295) * (bAnd .u64 (IntKind.wrap .u64 (p4)) 4294967295))).fdiv (2 ^ 32)))) 4294967295) + (IntKind.wrap .u64 ((bAnd .u64 (IntKind.wrap .u64 (p1)) 4294967295) * ((IntKind.wrap .u64 (p4)).fdiv (2 ^ 32)))))).fdiv (2 ^ 32)))) < (IntKind.wrap .u64 ((IntKind.wrap .u64 ((IntKind.wrap .u64 (((IntKind.wrap .u64 (p3)).fdiv (2 ^ 32)) * ((IntKind.wrap .u64 (p2)).fdiv (2 ^ 32)))) + ((IntKind.wrap .u64 ((IntKind.wrap .u64 (((IntKind.wrap .u64 (p3)).fdiv (2 ^ 32)) * (bAnd .u64 (IntKind.wrap .u64 (p2)) 4294967295))) + ((IntKind.wrap .u64 ((bAnd .u64 (IntKind.wrap .u64 (p3)) 4294967295) * (bAnd .u64 (IntKind.wrap .u64 (p2)) 4294967295))).fdiv (2 ^ 32)))).fdiv (2 ^ 32)))) + ((IntKind.wrap .u64 ((bAnd .u64 (IntKind.wrap .u64 ((IntKind.wrap .u64 (((IntKind.wrap .u64 (p3)).fdiv (2 ^ 32)) * (bAnd .u64 (IntKind.wrap .u64 (p2)) 4294967295))) + ((IntKind.wrap .u64 ((bAnd .u64 (IntKind.wrap .u64 (p3)) 4294967295) * (bAnd .u64 (IntKind.wrap .u64 (p2)) 4294967295))).fdiv (2 ^ 32)))) 4294967295) + (IntKind.wrap .u64 ((bAnd .u64 (IntKind.wrap .u64 (p3)) 4294967295) * ((IntKind.wrap .u64 (p2)).fdiv (2 ^ 32)))))).fdiv (2 ^ 32))))) || (decide ((IntKind.wrap .u64 ((IntKind.wrap .u64 ((IntKind.wrap .u64 (((IntKind.wrap .u64 (p1)).fdiv (2 ^ 32)) * ((IntKind.wrap .u64 (p4)).fdiv (2 ^ 32)))) + ((IntKind.wrap .u64 ((IntKind.wrap .u64 (((IntKind.wrap .u64 (p1)).fdiv (2 ^ 32)) * (bAnd .u64 (IntKind.wrap .u64 (p4)) 4294967295))) + ((IntKind.wrap .u64 ((bAnd .u64 (IntKind.wrap .u64 (p1)) 4294967295) * (bAnd .u64 (IntKind.wrap .u64 (p4)) 4294967295))).fdiv (2 ^ 32)))).fdiv (2 ^ 32)))) + ((IntKind.wrap .u64 ((bAnd .u64 (IntKind.wrap .u64 ((IntKind.wrap .u64 (((IntKind.wrap .u64 (p1)).fdiv (2 ^ 32)) * (bAnd .u64 (IntKind.wrap .u64 (p4)) 4294967295))) + ((IntKind.wrap .u64 ((bAnd .u64 (IntKind.wrap .u64 (p1)) 4294967295) * (bAnd .u64 (IntKind.wrap .u64 (p4)) 4294967295))).fdiv (2 ^ 32)))) 4294967295) + (IntKind.wrap .u64 ((bAnd .u64 (IntKind.wrap .u64 (p1)) 4294967295) * ((IntKind.wrap .u64 (p4)).fdiv (2 ^ 32)))))).fdiv (2 ^ 32)))) = (IntKind.wrap .u64 ((IntKind.wrap .u64 ((IntKind.wrap .u64 (((IntKind.wrap .u64 (p3)).fdiv (2 ^ 32)) * ((IntKind.wrap .u64 (p2)).fdiv (2 ^ 32)))) + ((IntKind.wrap .u64 ((IntKind.wrap .u64 (((IntKind.wrap .u64 (p3)).fdiv (2 ^ 32)) * (bAnd .u64 (IntKind.wrap .u64 (p2)) 4294967295))) + ((IntKind.wrap .u64 ((bAnd .u64 (IntKind.wrap .u64 (p3)) 4294967295) * (bAnd .u64 (IntKind.wrap .u64 (p2)) 4294967295))).fdiv (2 ^ 32)))).fdiv (2 ^ 32)))) + ((IntKind.wrap .u64 ((bAnd .u64 (IntKind.wrap .u64 ((IntKind.wrap .u64 (((IntKind.wrap .u64 (p3)).fdiv (2 ^ 32)) * (bAnd .u64 (IntKind.wrap .u64 (p2)) 4294967295))) + ((IntKind.wrap .u64 ((bAnd .u64 (IntKind.wrap .u64 (p3)) 4294967295) * (bAnd .u64 (IntKind.wrap .u64 (p2)) 4294967295))).fdiv (2 ^ 32)))) 4294967295) + (IntKind.wrap .u64 ((bAnd .u64 (IntKind.wrap .u64 (p3)) 4294967295) * ((IntKind.wrap .u64 (p2)).fdiv (2 ^ 32)))))).fdiv (2 ^ 32))))) && decide ((IntKind.wrap .u64 ((IntKind.wrap .u64 (p1)) * (IntKind.wrap .u64 (p4)))) < (IntKind.wrap .u64 ((IntKind.wrap .u64 (p3)) * (IntKind.wrap .u64 (p2))))))) = true then some (-1) else (if (decide ((IntKind.wrap .u64 ((IntKind.wrap .u64 ((IntKind.wrap .u64 (((IntKind.wrap .u64 (p1)).fdiv (2 ^ 32)) * ((IntKind.wrap .u64 (p4)).fdiv (2 ^ 32)))) + ((IntKind.wrap .u64 ((IntKind.wrap .u64 (((IntKind.wrap .u64 (p1)).fdiv (2 ^ 32)) * (bAnd .u64 (IntKind.wrap .u64 (p4)) 4294967295))) + ((IntKind.wrap .u64 ((bAnd .u64 (IntKind.wrap .u64 (p1)) 4294967295) * (bAnd .u64 (IntKind.wrap .u64 (p4)) 4294967295))).fdiv (2 ^ 32)))).fdiv (2 ^ 32)))) + ((IntKind.wrap .u64 ((bAnd .u64 (IntKind.wrap .u64 ((IntKind.wrap .u64 (((IntKind.wrap .u64 (p1)).fdiv (2 ^ 32)) * (bAnd .u64 (IntKind.wrap .u64 (p4)) 4294967295))) + ((IntKind.wrap .u64 ((bAnd .u64 (IntKind.wrap .u64 (p1)) 4294967295) * (bAnd .u64 (IntKind.wrap .u64 (p4)) 4294967295))).fdiv (2 ^ 32)))) 4294967295) + (IntKind.wrap .u64 ((bAnd .u64 (IntKind.wrap .u64 (p1)) 4294967295) * ((IntKind.wrap .u64 (p4)).fdiv (2 ^ 32)))))).fdiv (2 ^ 32)))) = (IntKind.wrap .u64 ((IntKind.wrap .u64 ((IntKind.wrap .u64 (((IntKind.wrap .u64 (p3)).fdiv (2 ^ 32)) * ((IntKind.wrap .u64 (p2)).fdiv (2 ^ 32)))) + ((IntKind.wrap .u64 ((IntKind.wrap .u64 (((IntKind.wrap .u64 (p3)).fdiv (2 ^ 32)) * (bAnd .u64 (IntKind.wrap .u64 (p2)) 4294967295))) + ((IntKind.wrap .u64 ((bAnd .u64 (IntKind.wrap .u64 (p3)) 4294967295) * (bAnd .u64 (IntKind.wrap .u64 (p2)) 4294967295))).fdiv (2 ^ 32)))).fdiv (2 ^ 32)))) + ((IntKind.wrap .u64 ((bAnd .u64 (IntKind.wrap .u64 ((IntKind.wrap .u64 (((IntKind.wrap .u64 (p3)).fdiv (2 ^ 32)) * (bAnd .u64 (IntKind.wrap .u64 (p2)) 4294967295))) + ((IntKind.wrap .u64 ((bAnd .u64 (IntKind.wrap .u64 (p3)) 4294967295) * (bAnd .u64 (IntKind.wrap .u64 (p2)) 4294967295))).fdiv (2 ^ 32)))) 4294967295) + (IntKind.wrap .u64 ((bAnd .u64 (IntKind.wrap .u64 (p3)) 4294967295) * ((IntKind.wrap .u64 (p2)).fdiv (2 ^ 32)))))).fdiv (2 ^ 32))))) && decide ((IntKind.wrap .u64 ((IntKind.wrap .u64 (p1)) * (IntKind.wrap .u64 (p4)))) = (IntKind.wrap .u64 ((IntKind.wrap .u64 (p3)) * (IntKind.wrap .u64 (p2)))))) = true then some 0 else some 1)))))
abbrev C_T_ratio_Cmp (k : Nat) (p1 : Int) (p2 : Int) (p3 : Int) (p4 : Int) (r : Int) : Prop := evF X k n_ratio_Cmp [(.agg [cI p1, cI p2]), (.agg [cI p3, cI p4])] [] = some ((I r), [])
theorem T_ratio_Cmp_ok (k : Nat) (p1 : Int) (p2 : Int) (p3 : Int) (p4 : Int) (r : Int) : T_ratio_Cmp k p1 p2 p3 p4 = some r → C_T_ratio_Cmp k p1 p2 p3 p4 r := by
 intro H
 cases k with
 | zero => simp [T_ratio_Cmp] at H
 | succ k =>
  simp only [T_ratio_Cmp] at H
  refine F_in X_ratio_Cmp rfl ?_
  refine K_seq (K_r [] [] (by kernel_rfl) trivial ?_)
  refine K_seq ?_
  refine K_seq ?_
  obtain ⟨x5, hx5, H⟩ := bind_some' H
  refine K_of ⟨[(2, (Pt 0)), (3, (Pt 1)), (16, (B x5))], [.cells [cI p1, cI p2], .cells [cI p3, cI p4]]⟩ ?_ ?_
  · clear H; have H := hx5; clear hx5; refine K_in ?_
    obtain ⟨x1, hx1, H⟩ := bind_some' H
    rcases ite_some H with ⟨hx3, H⟩ | ⟨hx3, H⟩
    · refine K_r [.r (B x1) [], .b true] [C_T_ratio_Valid k p1 p2 x1, (!x1) = true] (by kernel_rfl) (AC (T_ratio_Valid_ok k p1 p2 x1 hx1) (A1 hx3)) ?_
      cases H
      exact K_end (by kernel_rfl)
    · obtain ⟨x4, hx4, H⟩ := bind_some' H
      refine K_r [.r (B x1) [], .b false, .r (B x4) []] [C_T_ratio_Valid k p1 p2 x1, (!x1) = false, C_T_ratio_Valid k p3 p4 x4] (by kernel_rfl) (AC (T_ratio_Valid_ok k p1 p2 x1 hx1) (AC (Bool.eq_false_iff.2 hx3) (A1 (T_ratio_Valid_ok k p3 p4 x4 hx4)))) ?_
      cases H
      exact K_end (by kernel_rfl)
  rcases ite_some H with ⟨hx6, H⟩ | ⟨hx6, H⟩
  · refine K_t (by kernel_rfl) hx6 ?_
    refine K_seq (K_r [] [] (by kernel_rfl) trivial ?_)
    refine K_g (by kernel_rfl) ?_
    cases H
    refine K_ret ?_
    kernel_rfl
  · refine K_f (by kernel_rfl) (Bool.eq_false_iff.2 hx6) ?_
    refine K_g (by kernel_rfl) ?_
    refine K_skip ?_
    refine K_seq ?_
    obtain ⟨x7, hx7, H⟩ := bind_some' H
    refine K_r [.r (.tup [(false, [.d (.int .u64 (IntKind.wrap .u64 ((IntKind.wrap .u64 ((IntKind.wrap .u64 (((IntKind.wrap .u64 (p1)).fdiv (2 ^ 32)) * ((IntKind.wrap .u64 (p4)).fdiv (2 ^ 32)))) + ((IntKind.wrap .u64 ((IntKind.wrap .u64 (((IntKind.wrap .u64 (p1)).fdiv (2 ^ 32)) * (bAnd .u64 (IntKind.wrap .u64 (p4)) 4294967295))) + ((IntKind.wrap .u64 ((bAnd .u64 (IntKind.wrap .u64 (p1)) 4294967295) * (bAnd .u64 (IntKind.wrap .u64 (p4)) 4294967295))).fdiv (2 ^ 32)))).fdiv (2 ^ 32)))) + ((IntKind.wrap .u64 ((bAnd .u64 (IntKind.wrap .u64 ((IntKind.wrap .u64 (((IntKind.wrap .u64 (p1)).fdiv (2 ^ 32)) * (bAnd .u64 (IntKind.wrap .u64 (p4)) 4294967295))) + ((IntKind.wrap .u64 ((bAnd .u64 (IntKind.wrap .u64 (p1)) 4294967295) * (bAnd .u64 (IntKind.wrap .u64 (p4)) 4294967295))).fdiv (2 ^ 32)))) 4294967295) + (IntKind.wrap .u64 ((bAnd .u64 (IntKind.wrap .u64 (p1)) 4294967295) * ((IntKind.wrap .u64 (p4)).fdiv (2 ^ 32)))))).fdiv (2 ^ 32)))))]), (false, [.d (.int .u64 (IntKind.wrap .u64 ((IntKind.wrap .u64 (p1)) * (IntKind.wrap .u64 (p4)))))])]) []] [C_T_math_bits_Mul64 k (IntKind.wrap .u64 (p1)) (IntKind.wrap .u64 (p4)) x7] (by kernel_rfl) (A1 (T_math_bits_Mul64_ok k (IntKind.wrap .u64 (p1)) (IntKind.wrap .u64 (p4)) x7 hx7)) ?_
    refine K_seq ?_
    obtain ⟨x8, hx8, H⟩ := bind_some' H
    refine K_r [.r (.tup [(false, [.d (.int .u64 (IntKind.wrap .u64 ((IntKind.wrap .u64 ((IntKind.wrap .u64 (((IntKind.wrap .u64 (p3)).fdiv (2 ^ 32)) * ((IntKind.wrap .u64 (p2)).fdiv (2 ^ 32)))) + ((IntKind.wrap .u64 ((IntKind.wrap .u64 (((IntKind.wrap .u64 (p3)).fdiv (2 ^ 32)) * (bAnd .u64 (IntKind.wrap .u64 (p2)) 4294967295))) + ((IntKind.wrap .u64 ((bAnd .u64 (IntKind.wrap .u64 (p3)) 4294967295) * (bAnd .u64 (IntKind.wrap .u64 (p2)) 4294967295))).fdiv (2 ^ 32)))).fdiv (2 ^ 32)))) + ((IntKind.wrap .u64 ((bAnd .u64 (IntKind.wrap .u64 ((IntKind.wrap .u64 (((IntKind.wrap .u64 (p3)).fdiv (2 ^ 32)) * (bAnd .u64 (IntKind.wrap .u64 (p2)) 4294967295))) + ((IntKind.wrap .u64 ((bAnd .u64 (IntKind.wrap .u64 (p3)) 4294967295) * (bAnd .u64 (IntKind.wrap .u64 (p2)) 4294967295))).fdiv (2 ^ 32)))) 4294967295) + (IntKind.wrap .u64 ((bAnd .u64 (IntKind.wrap .u64 (p3)) 4294967295) * ((IntKind.wrap .u64 (p2)).fdiv (2 ^ 32)))))).fdiv (2 ^ 32)))))]), (false, [.d (.int .u64 (IntKind.wrap .u64 ((IntKind.wrap .u64 (p3)) * (IntKind.wrap .u64 (p2)))))])]) []] [C_T_math_bits_Mul64 k (IntKind.wrap .u64 (p3)) (IntKind.wrap .u64 (p2)) x8] (by kernel_rfl) (A1 (T_math_bits_Mul64_ok k (IntKind.wrap .u64 (p3)) (IntKind.wrap .u64 (p2)) x8 hx8)) ?_
    refine K_seq (K_block (K_seq (K_r [.m, .m] [decide ((IntKind.wrap .u64 ((IntKind.wrap .u64 ((IntKind.wrap .u64 (((IntKind.wrap .u64 (p1)).fdiv (2 ^ 32)) * ((IntKind.wrap .u64 (p4)).fdiv (2 ^ 32)))) + ((IntKind.wrap .u64 ((IntKind.wrap .u64 (((IntKind.wrap .u64 (p1)).fdiv (2 ^ 32)) * (bAnd .u64 (IntKind.wrap .u64 (p4)) 4294967295))) + ((IntKind.wrap .u64 ((bAnd .u64 (IntKind.wrap .u64 (p1)) 4294967295) * (bAnd .u64 (IntKind.wrap .u64 (p4)) 4294967295))).fdiv (2 ^ 32)))).fdiv (2 ^ 32)))) + ((IntKind.wrap .u64 ((bAnd .u64 (IntKind.wrap .u64 ((IntKind.wrap .u64 (((IntKind.wrap .u64 (p1)).fdiv (2 ^ 32)) * (bAnd .u64 (IntKind.wrap .u64 (p4)) 4294967295))) + ((IntKind.wrap .u64 ((bAnd .u64 (IntKind.wrap .u64 (p1)) 4294967295) * (bAnd .u64 (IntKind.wrap .u64 (p4)) 4294967295))).fdiv (2 ^ 32)))) 4294967295) + (IntKind.wrap .u64 ((bAnd .u64 (IntKind.wrap .u64 (p1)) 4294967295) * ((IntKind.wrap .u64 (p4)).fdiv (2 ^ 32)))))).fdiv (2 ^ 32)))) < (IntKind.wrap .u64 ((IntKind.wrap .u64 ((IntKind.wrap .u64 (((IntKind.wrap .u64 (p3)).fdiv (2 ^ 32)) * ((IntKind.wrap .u64 (p2)).fdiv (2 ^ 32)))) + ((IntKind.wrap .u64 ((IntKind.wrap .u64 (((IntKind.wrap .u64 (p3)).fdiv (2 ^ 32)) * (bAnd .u64 (IntKind.wrap .u64 (p2)) 4294967295))) + ((IntKind.wrap .u64 ((bAnd .u64 (IntKind.wrap .u64 (p3)) 4294967295) * (bAnd .u64 (IntKind.wrap .u64 (p2)) 4294967295))).fdiv (2 ^ 32)))).fdiv (2 ^ 32)))) + ((IntKind.wrap .u64 ((bAnd .u64 (IntKind.wrap .u64 ((IntKind.wrap .u64 (((IntKind.wrap .u64 (p3)).fdiv (2 ^ 32)) * (bAnd .u64 (IntKind.wrap .u64 (p2)) 4294967295))) + ((IntKind.wrap .u64 ((bAnd .u64 (IntKind.wrap .u64 (p3)) 4294967295) * (bAnd .u64 (IntKind.wrap .u64 (p2)) 4294967295))).fdiv (2 ^ 32)))) 4294967295) + (IntKind.wrap .u64 ((bAnd .u64 (IntKind.wrap .u64 (p3)) 4294967295) * ((IntKind.wrap .u64 (p2)).fdiv (2 ^ 32)))))).fdiv (2 ^ 32))))) = false → AllT [([] : Heap) = []], ([] : Heap) = []] (by kernel_rfl) (AC (fun _ => (A1 rfl)) (A1 rfl)) ?_)))
    rcases ite_some H with ⟨hx9, H⟩ | ⟨hx9, H⟩
    · refine K_t (by kernel_rfl) hx9 ?_
      refine K_seq (K_r [] [] (by kernel_rfl) trivial ?_)
      refine K_g (by kernel_rfl) ?_
      cases H
      refine K_ret ?_
      kernel_rfl
    · refine K_f (by kernel_rfl) (Bool.eq_false_iff.2 hx9) ?_
      refine K_seq (K_r [.m] [([] : Heap) = []] (by kernel_rfl) (A1 rfl) ?_)
      rcases ite_some H with ⟨hx10, H⟩ | ⟨hx10, H⟩
      · refine K_t (by kernel_rfl) hx10 ?_
        refine K_seq (K_r [] [] (by kernel_rfl) trivial ?_)
        refine K_g (by kernel_rfl) ?_
        cases H
        refine K_ret ?_
        kernel_rfl
      · refine K_f (by kernel_rfl) (Bool.eq_false_iff.2 hx10) ?_
        refine K_g (by kernel_rfl) ?_
        refine K_skip (K_blk (K_seq (K_r [] [] (by kernel_rfl) trivial ?_)))
        refine K_g (by kernel_rfl) ?_
        cases H
        refine K_ret ?_
        kernel_rfl
def T_ratio_Less (k : Nat) (p1 : Int) (p2 : Int) (p3 : Int) (p4 : Int) : Option Bool := match k with
 | 0 => none
 | k + 1 => ((T_ratio_Cmp k p1 p2 p3 p4).bind fun x1 => some (decide (x1 < 0)))
abbrev C_T_ratio_Less (k : Nat) (p1 : Int) (p2 : Int) (p3 : Int) (p4 : Int) (r : Bool) : Prop := evF X k n_ratio_Less [(.agg [cI p1, cI p2]), (.agg [cI p3, cI p4])] [] = some ((B r), [])
theorem T_ratio_Less_ok (k : Nat) (p1 : Int) (p2 : Int) (p3 : Int) (p4 : Int) (r : Bool) : T_ratio_Less k p1 p2 p3 p4 = some r → C_T_ratio_Less k p1 p2 p3 p4 r := by
 intro H
 cases k with
 | zero => simp [T_ratio_Less] at H
 | succ k =>
  simp only [T_ratio_Less] at H
  refine F_in X_ratio_Less rfl ?_
  refine K_seq (K_r [] [] (by kernel_rfl) trivial ?_)
  refine K_seq ?_
  obtain ⟨x1, hx1, H⟩ := bind_some' H
  refine K_r [.r (I x1) []] [C_T_ratio_Cmp k p1 p2 p3 p4 x1] (by kernel_rfl) (A1 (T_ratio_Cmp_ok k p1 p2 p3 p4 x1 hx1)) ?_
  refine K_g (by kernel_rfl) ?_
  cases H
  refine K_ret ?_
  kernel_rfl
def T_cmp_isNaN_557a (k : Nat) (p1 : Int) : Option Unit := match k with
 | 0 => none
 | k + 1 => some ()
abbrev C_T_cmp_isNaN_557a (k : Nat) (p1 : Int) (r : Unit) : Prop := evF X k n_cmp_isNaN_557a [(I p1)] [] = some ((B (!decide (p1 = p1))), [])
theorem T_cmp_isNaN_557a_ok (k : Nat) (p1 : Int) (r : Unit) : T_cmp_isNaN_557a k p1 = some r → C_T_cmp_isNaN_557a k p1 r := by
 intro H
 cases k with
 | zero => simp [T_cmp_isNaN_557a] at H
 | succ k =>
  simp only [T_cmp_isNaN_557a] at H
  refine F_in X_cmp_isNaN_557a rfl ?_
  refine K_seq (K_r [] [] (by kernel_rfl) trivial ?_)
  refine K_seq (K_r [] [] (by kernel_rfl) trivial ?_)
  refine K_g (by kernel_rfl) ?_
  cases H
  refine K_ret ?_
  kernel_rfl
def T_cmp_Compare_557a (k : Nat) (p1 : Int) (p2 : Int) : Option Int := match k with
 | 0 => none
 | k + 1 => ((T_cmp_isNaN_557a k p1).bind fun x1 => (T_cmp_isNaN_557a k p2).bind fun x2 => (if (!decide (p1 = p1)) = true then (if (!decide (p2 = p2)) = true then some 0 else some (-1)) else (if (!decide (p2 = p2)) = true then some 1 else (if p1 < p2 then some (-1) else (if p2 < p1 then some 1 else some 0)))))
abbrev C_T_cmp_Compare_557a (k : Nat) (p1 : Int) (p2 : Int) (r : Int) : Prop := evF X k n_cmp_Compare_557a [(I p1), (I p2)] [] = some ((I r), [])
theorem T_cmp_Compare_557a_ok (k : Nat) (p1 : Int) (p2 : Int) (r : Int) : T_cmp_Compare_557a k p1 p2 = some r → C_T_cmp_Compare_557a k p1 p2 r := by
 intro H
 cases k with
 | zero => simp [T_cmp_Compare_557a] at H
 | succ k =>
  rw [T_cmp_Compare_557a] at H
  refine F_in X_cmp_Compare_557a rfl ?_
  refine K_seq (K_r [] [] (by kernel_rfl) trivial ?_)
  refine K_seq ?_
  obtain ⟨x1, hx1, H⟩ := bind_some' H
  refine K_r [.r (B (!decide (p1 = p1))) []] [C_T_cmp_isNaN_557a k p1 x1] (by kernel_rfl) (A1 (T_cmp_isNaN_557a_ok k p1 x1 hx1)) ?_
  refine K_seq ?_
  obtain ⟨x2, hx2, H⟩ := bind_some' H
  refine K_r [.r (B (!decide (p2 = p2))) []] [C_T_cmp_isNaN_557a k p2 x2] (by kernel_rfl) (A1 (T_cmp_isNaN_557a_ok k p2 x2 hx2)) ?_
  refine K_seq (K_seq (K_r [] [] (by kernel_rfl) trivial ?_))
  rcases ite_some H with ⟨hx3, H⟩ | ⟨hx3, H⟩
  · refine K_t (by kernel_rfl) hx3 ?_
    refine K_seq (K_seq (K_r [] [] (by kernel_rfl) trivial ?_))
    rcases ite_some H with ⟨hx4, H⟩ | ⟨hx4, H⟩
    · refine K_t (by kernel_rfl) hx4 ?_
      refine K_seq (K_r [] [] (by kernel_rfl) trivial ?_)
      refine K_g (by kernel_rfl) ?_
      cases H
      refine K_ret ?_
      kernel_rfl
    · refine K_f (by kernel_rfl) (Bool.eq_false_iff.2 hx4) ?_
      refine K_g (by kernel_rfl) ?_
      refine K_skip (K_seq (K_r [] [] (by kernel_rfl) trivial ?_))
      refine K_g (by kernel_rfl) ?_
      cases H
      refine K_ret ?_
      kernel_rfl
  · refine K_f (by kernel_rfl) (Bool.eq_false_iff.2 hx3) ?_
    refine K_g (by kernel_rfl) ?_
    refine K_skip (K_seq (K_seq (K_r [] [] (by kernel_rfl) trivial ?_)))
    rcases ite_some H with ⟨hx5, H⟩ | ⟨hx5, H⟩
    · refine K_t (by kernel_rfl) hx5 ?_
      refine K_seq (K_r [] [] (by kernel_rfl) trivial ?_)
      refine K_g (by kernel_rfl) ?_
      cases H
      refine K_ret ?_
      kernel_rfl
    · refine K_f (by kernel_rfl) (Bool.eq_false_iff.2 hx5) ?_
      refine K_g (by kernel_rfl) ?_
      refine K_skip (K_seq (K_seq (K_r [] [] (by kernel_rfl) trivial ?_)))
      rcases ite_some H with ⟨hx6, H⟩ | ⟨hx6, H⟩
      · refine K_t (by kernel_rfl) (decide_eq_true hx6) ?_
        refine K_seq (K_r [] [] (by kernel_rfl) trivial ?_)
        refine K_g (by kernel_rfl) ?_
        cases H
        refine K_ret ?_
        kernel_rfl
      · refine K_f (by kernel_rfl) (decide_eq_false hx6) ?_
        refine K_g (by kernel_rfl) ?_
        refine K_skip (K_seq (K_seq (K_r [] [] (by kernel_rfl) trivial ?_)))
        rcases ite_some H with ⟨hx7, H⟩ | ⟨hx7, H⟩
        · refine K_t (by kernel_rfl) (decide_eq_true hx7) ?_
          refine K_seq (K_r [] [] (by kernel_rfl) trivial ?_)
          refine K_g (by kernel_rfl) ?_
          cases H
          refine K_ret ?_
          kernel_rfl
        · refine K_f (by kernel_rfl) (decide_eq_false hx7) ?_
          refine K_g (by kernel_rfl) ?_
          refine K_skip (K_seq (K_r [] [] (by kernel_rfl) trivial ?_))
          refine K_g (by kernel_rfl) ?_
          cases H
          refine K_ret ?_
          kernel_rfl
def T_cmp_Or_557a_l1 (k : Nat) (p1 : List Int) (x3 : Int) (x8 : Int) : Option (Int ⊕ (Unit ⊕ Int)) :=
 (if x8 < x3 then ((at? p1 x8).bind fun x10 => (if (!decide (x10 = 0)) = true then some (.inr (.inr x10)) else some (.inl (w64 (x8 + 1))))) else some (.inr (.inl ())))
theorem T_cmp_Or_557a_l1_ok (k : Nat) (p1 : List Int) (x3 : Int) : ∀ (x8 : Int) (x : Int ⊕ (Unit ⊕ Int)), T_cmp_Or_557a_l1 k p1 x3 x8 = some x → evC X (evF X k) k 0 l_cmp_Or_557a_1 ⟨[(3, (I 0)), (6, (LI p1)), (7, (I x3)), (8, (I x8))], []⟩ = some (outS (fun (s : Int) => ⟨[(3, (I 0)), (6, (LI p1)), (7, (I x3)), (8, (I s))], []⟩) (fun (r : Unit ⊕ Int) => Sum.elim (fun y => (.exit 0, ⟨[(3, (I 0))], []⟩)) (fun y => (.ret, ⟨[(2, (I y))], []⟩)) r) x) := by
 intro x8 x H
 unfold T_cmp_Or_557a_l1 at H
 refine K_in ?_
 refine K_seq (K_r [] [] (by kernel_rfl) trivial ?_)
 refine K_seq ?_
 rcases ite_some H with ⟨hx9, H⟩ | ⟨hx9, H⟩
 · refine K_t (by kernel_rfl) (decide_eq_true hx9) ?_
   refine K_g (by kernel_rfl) ?_
   refine K_skip ?_
   refine K_seq ?_
   refine K_block ?_
   refine K_seq ?_
   obtain ⟨x10, hx10, H⟩ := bind_some' H
   refine K_r [.l [.int .i64 x10]] [(0 : Int) ≤ x8 ∧ x8 < (((p1.map (D.int .i64))).length : Int), ((p1.map (D.int .i64)).getD x8.toNat (.int .i64 0)).cells = [.int .i64 x10]] (by kernel_rfl) (AC (at_ok hx10 (D.int .i64) (.int .i64 0)).1 (A1 (at_ok hx10 (D.int .i64) (.int .i64 0)).2)) ?_
   refine K_seq (K_r [] [] (by kernel_rfl) trivial ?_)
   rcases ite_some H with ⟨hx11, H⟩ | ⟨hx11, H⟩
   · refine K_t (by kernel_rfl) hx11 ?_
     refine K_seq (K_r [] [] (by kernel_rfl) trivial ?_)
     refine K_g (by kernel_rfl) ?_
     cases H
     exact K_ret (by kernel_rfl)
   · refine K_f (by kernel_rfl) (Bool.eq_false_iff.2 hx11) ?_
     refine K_g (by kernel_rfl) ?_
     refine K_skip (K_blk (K_r [] [] (by kernel_rfl) trivial ?_))
     cases H
     exact K_end (by kernel_rfl)
 · refine K_f (by kernel_rfl) (decide_eq_false hx9) ?_
   refine K_g (by kernel_rfl) ?_
   cases H
   exact K_exit0 rfl (by kernel_rfl)
def T_cmp_Or_557a (k : Nat) (p1 : List Int) : Option Int := match k with
 | 0 => none
 | k + 1 => ((loopT (T_cmp_Or_557a_l1 k p1 (p1.length : Int)) k 0).bind fun x12 => (match x12 with | .inl x13 => some 0 | .inr x14 => some x14))
abbrev C_T_cmp_Or_557a (k : Nat) (p1 : List Int) (r : Int) : Prop := evF X k n_cmp_Or_557a [(LI p1)] [] = some ((I r), [])
theorem T_cmp_Or_557a_ok (k : Nat) (p1 : List Int) (r : Int) : T_cmp_Or_557a k p1 = some r → C_T_cmp_Or_557a k p1 r := by
 intro H
 cases k with
 | zero => simp [T_cmp_Or_557a] at H
 | succ k =>
  simp only [T_cmp_Or_557a] at H
  refine F_in X_cmp_Or_557a rfl ?_
  refine K_seq (K_r [] [] (by kernel_rfl) trivial ?_)
  refine K_seq (K_r [] [] (by kernel_rfl) trivial ?_)
  refine K_seq (K_seq (K_r [.n p1.length] [((p1.map (D.int .i64))).length = p1.length] (by kernel_rfl) (A1 (List.length_map _)) ?_))
  refine K_block (K_conv (σ' := ⟨[(3, (I 0)), (6, (LI p1)), (7, (I (p1.length : Int))), (8, (I 0))], []⟩) (by kernel_rfl) ?_)
  obtain ⟨x12, hx12, H⟩ := bind_some' H
  cases x12 with
  | inl x13 =>
   dsimp only at H
   refine K_loop ⟨[(3, (I 0))], []⟩ (loop_ok (fun (s : Int) => ⟨[(3, (I 0)), (6, (LI p1)), (7, (I (p1.length : Int))), (8, (I s))], []⟩) (fun (r : Unit ⊕ Int) => Sum.elim (fun y => (.exit 0, ⟨[(3, (I 0))], []⟩)) (fun y => (.ret, ⟨[(2, (I y))], []⟩)) r) (fun r h => by cases r <;> cases h) (T_cmp_Or_557a_l1_ok k p1 (p1.length : Int)) k 0 (.inl x13) hx12) rfl ?_
   refine K_seq (K_r [] [] (by kernel_rfl) trivial ?_)
   refine K_g (by kernel_rfl) ?_
   cases H
   refine K_ret ?_
   kernel_rfl
  | inr x14 =>
   dsimp only at H
   have H := Option.some.inj H; subst H
   refine K_loopr ⟨[(2, (I x14))], []⟩ (loop_ok (fun (s : Int) => ⟨[(3, (I 0)), (6, (LI p1)), (7, (I (p1.length : Int))), (8, (I s))], []⟩) (fun (r : Unit ⊕ Int) => Sum.elim (fun y => (.exit 0, ⟨[(3, (I 0))], []⟩)) (fun y => (.ret, ⟨[(2, (I y))], []⟩)) r) (fun r h => by cases r <;> cases h) (T_cmp_Or_557a_l1_ok k p1 (p1.length : Int)) k 0 (.inr x14) hx12) ?_
   kernel_rfl
def T_store_Compare (k : Nat) (p1 : Int) (p2 : Int) (p3 : Int) (p4 : Int) : Option Int := match k with
 | 0 => none
 | k + 1 => ((T_cmp_Compare_557a k p1 p3).bind fun x1 => (T_cmp_Compare_557a k p2 p4).bind fun x2 => (T_cmp_Or_557a k ([x1, x2] : List Int)).bind fun x3 => some x3)
abbrev C_T_store_Compare (k : Nat) (p1 : Int) (p2 : Int) (p3 : Int) (p4 : Int) (r : Int) : Prop := evF X k n_store_Compare [(.agg [cI p1, cI p2]), (.agg [cI p3, cI p4])] [] = some ((I r), [])
theorem T_store_Compare_ok (k : Nat) (p1 : Int) (p2 : Int) (p3 : Int) (p4 : Int) (r : Int) : T_store_Compare k p1 p2 p3 p4 = some r → C_T_store_Compare k p1 p2 p3 p4 r := by
 intro H
 cases k with
 | zero => simp [T_store_Compare] at H
 | succ k =>
  simp only [T_store_Compare] at H
  refine F_in X_store_Compare rfl ?_
  refine K_seq (K_r [] [] (by kernel_rfl) trivial ?_)
  refine K_seq ?_
  obtain ⟨x1, hx1, H⟩ := bind_some' H
  obtain ⟨x2, hx2, H⟩ := bind_some' H
  obtain ⟨x3, hx3, H⟩ := bind_some' H
  refine K_r [.r (I x1) [], .r (I x2) [], .r (I x3) []] [C_T_cmp_Compare_557a k p1 p3 x1, C_T_cmp_Compare_557a k p2 p4 x2, C_T_cmp_Or_557a k ([x1, x2] : List Int) x3] (by kernel_rfl) (AC (T_cmp_Compare_557a_ok k p1 p3 x1 hx1) (AC (T_cmp_Compare_557a_ok k p2 p4 x2 hx2) (A1 (T_cmp_Or_557a_ok k ([x1, x2] : List Int) x3 hx3)))) ?_
  refine K_g (by kernel_rfl) ?_
  cases H
  refine K_ret ?_
  kernel_rfl
def T_store_Before (k : Nat) (p1 : Int) (p2 : Int) (p3 : Int) (p4 : Int) (p5 : Int) (p6 : Int) (p7 : Int) (p8 : Int) : Option Bool := match k with
 | 0 => none
 | k + 1 => ((T_ratio_Less k p1 p2 p5 p6).bind fun x1 => (if x1 = true then some true else ((T_ratio_Less k p5 p6 p1 p2).bind fun x3 => (if x3 = true then some false else ((T_store_Compare k p3 p4 p7 p8).bind fun x5 => some (decide (x5 < 0)))))))
abbrev C_T_store_Before (k : Nat) (p1 : Int) (p2 : Int) (p3 : Int) (p4 : Int) (p5 : Int) (p6 : Int) (p7 : Int) (p8 : Int) (r : Bool) : Prop := evF X k n_store_Before [(.agg [cI p1, cI p2, cI p3, cI p4]), (.agg [cI p5, cI p6, cI p7, cI p8])] [] = some ((B r), [])
theorem T_store_Before_ok (k : Nat) (p1 : Int) (p2 : Int) (p3 : Int) (p4 : Int) (p5 : Int) (p6 : Int) (p7 : Int) (p8 : Int) (r : Bool) : T_store_Before k p1 p2 p3 p4 p5 p6 p7 p8 = some r → C_T_store_Before k p1 p2 p3 p4 p5 p6 p7 p8 r := by
 intro H
 cases k with
 | zero => simp [T_store_Before] at H
 | succ k =>
  simp only [T_store_Before] at H
  refine F_in X_store_Before rfl ?_
  refine K_seq (K_r [] [] (by kernel_rfl) trivial ?_)
  refine K_seq ?_
  refine K_block ?_
  refine K_seq ?_
  obtain ⟨x1, hx1, H⟩ := bind_some' H
  refine K_r [.r (B x1) []] [C_T_ratio_Less k p1 p2 p5 p6 x1] (by kernel_rfl) (A1 (T_ratio_Less_ok k p1 p2 p5 p6 x1 hx1)) ?_
  rcases ite_some H with ⟨hx2, H⟩ | ⟨hx2, H⟩
  · refine K_t (by kernel_rfl) hx2 ?_
    refine K_seq (K_r [] [] (by kernel_rfl) trivial ?_)
    refine K_g (by kernel_rfl) ?_
    cases H
    refine K_ret ?_
    kernel_rfl
  · refine K_f (by kernel_rfl) (Bool.eq_false_iff.2 hx2) ?_
    refine K_seq ?_
    obtain ⟨x3, hx3, H⟩ := bind_some' H
    refine K_r [.r (B x3) []] [C_T_ratio_Less k p5 p6 p1 p2 x3] (by kernel_rfl) (A1 (T_ratio_Less_ok k p5 p6 p1 p2 x3 hx3)) ?_
    rcases ite_some H with ⟨hx4, H⟩ | ⟨hx4, H⟩
    · refine K_t (by kernel_rfl) hx4 ?_
      refine K_seq (K_r [] [] (by kernel_rfl) trivial ?_)
      refine K_g (by kernel_rfl) ?_
      cases H
      refine K_ret ?_
      kernel_rfl
    · refine K_f (by kernel_rfl) (Bool.eq_false_iff.2 hx4) ?_
      refine K_g (by kernel_rfl) ?_
      refine K_skip ?_
      refine K_blk ?_
      refine K_seq ?_
      obtain ⟨x5, hx5, H⟩ := bind_some' H
      refine K_r [.r (I x5) []] [C_T_store_Compare k p3 p4 p7 p8 x5] (by kernel_rfl) (A1 (T_store_Compare_ok k p3 p4 p7 p8 x5 hx5)) ?_
      refine K_g (by kernel_rfl) ?_
      cases H
      refine K_ret ?_
      kernel_rfl
def T_store_Sort_1 (k : Nat) (p1 : Int) (p2 : Int) (p3 : Int) (p4 : Int) (p5 : Int) (p6 : Int) (p7 : Int) (p8 : Int) : Option Int := match k with
 | 0 => none
 | k + 1 => ((T_store_Before k p1 p2 p3 p4 p5 p6 p7 p8).bind fun x1 => (if x1 = true then some (-1) else ((T_store_Before k p5 p6 p7 p8 p1 p2 p3 p4).bind fun x3 => (if x3 = true then some 1 else some 0))))
abbrev C_T_store_Sort_1 (k : Nat) (p1 : Int) (p2 : Int) (p3 : Int) (p4 : Int) (p5 : Int) (p6 : Int) (p7 : Int) (p8 : Int) (r : Int) : Prop := evF X k n_store_Sort_1 [(.agg [cI p1, cI p2, cI p3, cI p4]), (.agg [cI p5, cI p6, cI p7, cI p8])] [] = some ((I r), [])
theorem T_store_Sort_1_ok (k : Nat) (p1 : Int) (p2 : Int) (p3 : Int) (p4 : Int) (p5 : Int) (p6 : Int) (p7 : Int) (p8 : Int) (r : Int) : T_store_Sort_1 k p1 p2 p3 p4 p5 p6 p7 p8 = some r → C_T_store_Sort_1 k p1 p2 p3 p4 p5 p6 p7 p8 r := by
 intro H
 cases k with
 | zero => simp [T_store_Sort_1] at H
 | succ k =>
  simp only [T_store_Sort_1] at H
  refine F_in X_store_Sort_1 rfl ?_
  refine K_seq (K_r [] [] (by kernel_rfl) trivial ?_)
  refine K_seq ?_
  refine K_block ?_
  refine K_seq ?_
  obtain ⟨x1, hx1, H⟩ := bind_some' H
  refine K_r [.r (B x1) []] [C_T_store_Before k p1 p2 p3 p4 p5 p6 p7 p8 x1] (by kernel_rfl) (A1 (T_store_Before_ok k p1 p2 p3 p4 p5 p6 p7 p8 x1 hx1)) ?_
  rcases ite_some H with ⟨hx2, H⟩ | ⟨hx2, H⟩
  · refine K_t (by kernel_rfl) hx2 ?_
    refine K_seq (K_r [] [] (by kernel_rfl) trivial ?_)
    refine K_g (by kernel_rfl) ?_
    cases H
    refine K_ret ?_
    kernel_rfl
  · refine K_f (by kernel_rfl) (Bool.eq_false_iff.2 hx2) ?_
    refine K_seq ?_
    obtain ⟨x3, hx3, H⟩ := bind_some' H
    refine K_r [.r (B x3) []] [C_T_store_Before k p5 p6 p7 p8 p1 p2 p3 p4 x3] (by kernel_rfl) (A1 (T_store_Before_ok k p5 p6 p7 p8 p1 p2 p3 p4 x3 hx3)) ?_
    rcases ite_some H with ⟨hx4, H⟩ | ⟨hx4, H⟩
    · refine K_t (by kernel_rfl) hx4 ?_
      refine K_seq (K_r [] [] (by kernel_rfl) trivial ?_)
      refine K_g (by kernel_rfl) ?_
      cases H
      refine K_ret ?_
      kernel_rfl
    · refine K_f (by kernel_rfl) (Bool.eq_false_iff.2 hx4) ?_
      refine K_g (by kernel_rfl) ?_
      refine K_skip (K_blk (K_seq (K_r [] [] (by kernel_rfl) trivial ?_)))
      refine K_g (by kernel_rfl) ?_
      cases H
      refine K_ret ?_
      kernel_rfl
def T_slices_SortFunc_8a0a (k : Nat) (p1 : Nat) (p2 : List (Int × Int × Int × Int)) : Option (List (Int × Int × Int × Int)) := match k with
 | 0 => none
 | k + 1 => sortT (fun x y : Int × Int × Int × Int => T_store_Sort_1 k x.1 x.2.1 x.2.2.1 x.2.2.2 y.1 y.2.1 y.2.2.1 y.2.2.2) p1 p2
abbrev C_T_slices_SortFunc_8a0a (k : Nat) (p1 : Nat) (p2 : List (Int × Int × Int × Int)) (r : List (Int × Int × Int × Int)) : Prop := evF X k n_slices_SortFunc_8a0a [(.one (.own 0 0 p1)), (.one (.fn (.func n_store_Sort_1) []))] [.vals (.agg [(.int .i64 0), (.int .i64 0), (.int .i64 0), (.int .i64 0)]) (p2.map e_st1)] = some (.tup [], [.vals (.agg [(.int .i64 0), (.int .i64 0), (.int .i64 0), (.int .i64 0)]) (r.map e_st1)])
theorem T_slices_SortFunc_8a0a_ok (k : Nat) (p1 : Nat) (p2 : List (Int × Int × Int × Int)) (r : List (Int × Int × Int × Int)) : T_slices_SortFunc_8a0a k p1 p2 = some r → C_T_slices_SortFunc_8a0a k p1 p2 r := by
 intro H
 cases k with
 | zero => cases H
 | succ k => exact sortT_ok X_slices_SortFunc_8a0a rfl rfl (fun x => ⟨rfl, fun c hc => by simp only [D.cells, List.mem_cons, List.not_mem_nil, or_false] at hc; rcases hc with rfl | rfl | rfl | rfl <;> rfl⟩) (fun x y r h => T_store_Sort_1_ok k x.1 x.2.1 x.2.2.1 x.2.2.2 y.1 y.2.1 y.2.2.1 y.2.2.2 r h) H
def T_store_Sort (k : Nat) (p1 : Nat) (p2 : List (Int × Int × Int × Int)) : Option ((List (Int × Int × Int × Int))) := match k with
 | 0 => none
 | k + 1 => ((T_slices_SortFunc_8a0a k p1 p2).bind fun x1 => some x1)
abbrev C_T_store_Sort (k : Nat) (p1 : Nat) (p2 : List (Int × Int × Int × Int)) (r : (List (Int × Int × Int × Int))) : Prop := evF X k n_store_Sort [(.one (.own 0 0 p1))] [.vals (.agg [(.int .i64 0), (.int .i64 0), (.int .i64 0), (.int .i64 0)]) (p2.map e_st1)] = some ((.tup []), [.vals (.agg [(.int .i64 0), (.int .i64 0), (.int .i64 0), (.int .i64 0)]) (r.map e_st1)])
theorem T_store_Sort_ok (k : Nat) (p1 : Nat) (p2 : List (Int × Int × Int × Int)) (r : (List (Int × Int × Int × Int))) : T_store_Sort k p1 p2 = some r → C_T_store_Sort k p1 p2 r := by
 intro H
 cases k with
 | zero => simp [T_store_Sort] at H
 | succ k =>
  simp only [T_store_Sort] at H
  refine F_in X_store_Sort rfl ?_
  refine K_seq (K_r [] [] (by kernel_rfl) trivial ?_)
  obtain ⟨x1, hx1, H⟩ := bind_some' H
  refine K_r [.r (.tup []) [.vals (.agg [(.int .i64 0), (.int .i64 0), (.int .i64 0), (.int .i64 0)]) (x1.map e_st1)]] [C_T_slices_SortFunc_8a0a k p1 p2 x1] (by kernel_rfl) (A1 (T_slices_SortFunc_8a0a_ok k p1 p2 x1 hx1)) ?_
  cases H
  refine K_end ?_
  kernel_rfl
def T_store_Hits_l1 (k : Nat) (p1 : List (List Int)) (p2 : Int) (p3 : Int) (p4 : Int) (p5 : List Int) (x8 : Int) (x49 : List Int) (x50 : (List Int)) (x53 : Int) (x57 : Int) (x59 : Int) (x71 : Nat × Int × (List (Int × Int × Int × Int))) : Option ((Nat × Int × (List (Int × Int × Int × Int))) ⊕ ((Nat × (List (Int × Int × Int × Int))) ⊕ Int)) :=
 (if x71.2.1 < x59 then (at? x50 x71.2.1).bind fun x73 => (if (0 : Int) ≤ x73 ∧ x73 ≤ (w64 (x73 + (p5.length : Int))) ∧ (w64 (x73 + (p5.length : Int))) ≤ (x49.length : Int) ∧ (x49.length : Int) ≤ (x49.length : Int) then (T_measure_Distance k p2 p3 p4 p5 ((x49.drop x73.toNat).take ((w64 (x73 + (p5.length : Int))).toNat - x73.toNat))).bind fun x75 => (if (!decide (x75.2.2 = 0)) = true then some (.inr (.inr x75.2.2)) else (if x71.1 + 1 ≤ LIM then some (.inl ((x71.1 + 1), (w64 (x71.2.1 + 1)), ((x71.2.2.drop 0).take x71.1 ++ ([(x75.1, x75.2.1, x53, x73)] : List (Int × Int × Int × Int))))) else none)) else none) else some (.inr (.inl (x71.1, x71.2.2))))
theorem T_store_Hits_l1_ok (k : Nat) (p1 : List (List Int)) (p2 : Int) (p3 : Int) (p4 : Int) (p5 : List Int) (x8 : Int) (x49 : List Int) (x50 : (List Int)) (x53 : Int) (x57 : Int) (x59 : Int) : ∀ (x71 : Nat × Int × (List (Int × Int × Int × Int))) (x : (Nat × Int × (List (Int × Int × Int × Int))) ⊕ ((Nat × (List (Int × Int × Int × Int))) ⊕ Int)), T_store_Hits_l1 k p1 p2 p3 p4 p5 x8 x49 x50 x53 x57 x59 x71 = some x → evC X (evF X k) k 0 l_store_Hits_1 ⟨[(2, (LI p5)), (4, (Pt 0)), (10, (.one (.own 1 0 x71.1))), (11, (I x53)), (12, (LI x49)), (29, (.one (.d (.list (p1.map (el (D.int .i64))))))), (30, (I x8)), (31, (I x57)), (39, (LI x50)), (40, (I x59)), (41, (I x71.2.1))], [.cells [cI p2, cI p3, cI p4], .vals (.agg [(.int .i64 0), (.int .i64 0), (.int .i64 0), (.int .i64 0)]) (x71.2.2.map e_st1)]⟩ = some (outS (fun (s : Nat × Int × (List (Int × Int × Int × Int))) => ⟨[(2, (LI p5)), (4, (Pt 0)), (10, (.one (.own 1 0 s.1))), (11, (I x53)), (12, (LI x49)), (29, (.one (.d (.list (p1.map (el (D.int .i64))))))), (30, (I x8)), (31, (I x57)), (39, (LI x50)), (40, (I x59)), (41, (I s.2.1))], [.cells [cI p2, cI p3, cI p4], .vals (.agg [(.int .i64 0), (.int .i64 0), (.int .i64 0), (.int .i64 0)]) (s.2.2.map e_st1)]⟩) (fun (r : (Nat × (List (Int × Int × Int × Int))) ⊕ Int) => Sum.elim (fun y => (.exit 2, ⟨[(2, (LI p5)), (4, (Pt 0)), (10, (.one (.own 1 0 y.1))), (29, (.one (.d (.list (p1.map (el (D.int .i64))))))), (30, (I x8)), (31, (I x57))], [.cells [cI p2, cI p3, cI p4], .vals (.agg [(.int .i64 0), (.int .i64 0), (.int .i64 0), (.int .i64 0)]) (y.2.map e_st1)]⟩)) (fun y => (.ret, ⟨[(6, (.one (.nil))), (7, (I y))], []⟩)) r) x) := by
 intro x71 x H
 unfold T_store_Hits_l1 at H
 refine K_in ?_
 refine K_seq (K_r [] [] (by kernel_rfl) trivial ?_)
 refine K_seq ?_
 rcases ite_some H with ⟨hx72, H⟩ | ⟨hx72, H⟩
 · refine K_t (by kernel_rfl) (decide_eq_true hx72) ?_
   refine K_g (by kernel_rfl) ?_
   refine K_skip ?_
   refine K_seq ?_
   refine K_block ?_
   refine K_seq ?_
   obtain ⟨x73, hx73, H⟩ := bind_some' H
   refine K_r [.l [.int .i64 x73]] [(0 : Int) ≤ x71.2.1 ∧ x71.2.1 < (((x50.map (D.int .i64))).length : Int), ((x50.map (D.int .i64)).getD x71.2.1.toNat (.int .i64 0)).cells = [.int .i64 x73]] (by kernel_rfl) (AC (at_ok hx73 (D.int .i64) (.int .i64 0)).1 (A1 (at_ok hx73 (D.int .i64) (.int .i64 0)).2)) ?_
   refine K_seq ?_
   obtain ⟨hx74, H⟩ := guard_some H
   obtain ⟨x75, hx75, H⟩ := bind_some' H
   refine K_rI [.n p5.length, .l (((x49.drop x73.toNat).take ((w64 (x73 + (p5.length : Int))).toNat - x73.toNat)).map (D.int .i64)), .r (.tup [(true, [cI x75.1, cI x75.2.1]), (false, [cI x75.2.2])]) []] [0, 1, 2, 2] ((fun (z1 : St) => [((p5.map (D.int .i64))).length = p5.length, ((x49.map (D.int .i64)).all fun d => d.cells.length == 1) = true, (0 : Int) ≤ x73 ∧ x73 ≤ (w64 (x73 + (p5.length : Int))) ∧ (w64 (x73 + (p5.length : Int))) ≤ (((x49.map (D.int .i64))).length : Int) ∧ (((x49.map (D.int .i64))).length : Int) ≤ (((x49.map (D.int .i64))).length : Int), ((x49.map (D.int .i64)).drop (x73 : Int).toNat).take (((w64 (x73 + (p5.length : Int))) : Int).toNat - (x73 : Int).toNat) = ((x49.drop x73.toNat).take ((w64 (x73 + (p5.length : Int))).toNat - x73.toNat)).map (D.int .i64), C_T_measure_Distance k p2 p3 p4 p5 ((x49.drop x73.toNat).take ((w64 (x73 + (p5.length : Int))).toNat - x73.toNat)) x75, z1 = z1]) (⟨[(2, (LI p5)), (4, (Pt 0)), (10, (.one (.own 1 0 x71.1))), (11, (I x53)), (12, (LI x49)), (14, (I x73)), (15, (Pt 2)), (16, (I x75.2.2)), (29, (.one (.d (.list (p1.map (el (D.int .i64))))))), (30, (I x8)), (31, (I x57)), (39, (LI x50)), (40, (I x59)), (41, (I x71.2.1))], [.cells [cI p2, cI p3, cI p4], .vals (.agg [(.int .i64 0), (.int .i64 0), (.int .i64 0), (.int .i64 0)]) (x71.2.2.map e_st1), .cells [cI x75.1, cI x75.2.1]]⟩)) [0, 1, 2, 3, 4, 4, 5] (by kernel_rfl) (AC (List.length_map _) (AC (all_ok (D.int .i64) 1 x49 (fun _ => rfl)) (AC (by simpa using hx74) (AC (dt_map _ _ _ _) (AC (T_measure_Distance_ok k p2 p3 p4 p5 ((x49.drop x73.toNat).take ((w64 (x73 + (p5.length : Int))).toNat - x73.toNat)) x75 hx75) (A1 rfl)))))) ?_
   refine K_seq (K_seq (K_r [] [] (by kernel_rfl) trivial ?_))
   rcases ite_some H with ⟨hx76, H⟩ | ⟨hx76, H⟩
   · refine K_t (by kernel_rfl) hx76 ?_
     refine K_seq (K_r [] [] (by kernel_rfl) trivial ?_)
     refine K_g (by kernel_rfl) ?_
     cases H
     exact K_ret (by kernel_rfl)
   · refine K_f (by kernel_rfl) (Bool.eq_false_iff.2 hx76) ?_
     refine K_g (by kernel_rfl) ?_
     refine K_skip ?_
     obtain ⟨hx77, H⟩ := guard_some H
     refine K_r [.n 1, .l (((x71.2.2.drop 0).take x71.1 ++ ([(x75.1, x75.2.1, x53, x73)] : List (Int × Int × Int × Int))).map e_st1)] [(List.all (([(x75.1, x75.2.1, x53, x73)] : List (Int × Int × Int × Int)).map e_st1) fun d => d.cells.length == (D.cells (.agg [(.int .i64 0), (.int .i64 0), (.int .i64 0), (.int .i64 0)])).length) = true, x71.1 + 1 ≤ LIM, (([(x75.1, x75.2.1, x53, x73)] : List (Int × Int × Int × Int)).map e_st1).length = 1, ((x71.2.2.map e_st1).drop 0).take x71.1 ++ (([(x75.1, x75.2.1, x53, x73)] : List (Int × Int × Int × Int)).map e_st1) = ((x71.2.2.drop 0).take x71.1 ++ ([(x75.1, x75.2.1, x53, x73)] : List (Int × Int × Int × Int))).map e_st1] (by kernel_rfl) (AC (all_ok e_st1 4 ([(x75.1, x75.2.1, x53, x73)] : List (Int × Int × Int × Int)) (fun _ => rfl)) (AC hx77 (AC (by simp) (A1 (ap_map e_st1 x71.2.2 ([(x75.1, x75.2.1, x53, x73)] : List (Int × Int × Int × Int)) 0 x71.1))))) ?_
     refine K_blk (K_r [] [] (by kernel_rfl) trivial ?_)
     cases H
     exact K_end (by kernel_rfl)
 · refine K_f (by kernel_rfl) (decide_eq_false hx72) ?_
   refine K_g (by kernel_rfl) ?_
   cases H
   exact K_exit0 rfl (by kernel_rfl)
def T_store_Hits_l2 (k : Nat) (p1 : List (List Int)) (p2 : Int) (p3 : Int) (p4 : Int) (p5 : List Int) (x8 : Int) (x47 : Nat × Int × (List (Int × Int × Int × Int))) : Option ((Nat × Int × (List (Int × Int × Int × Int))) ⊕ ((Nat × (List (Int × Int × Int × Int))) ⊕ Int)) :=
 (if x47.2.1 < x8 then ((at? p1 x47.2.1).bind fun x49 => (T_store_Starts k x49 (p5.length : Int)).bind fun x50 => (loopT (T_store_Hits_l1 k p1 p2 p3 p4 p5 x8 x49 x50 x47.2.1 x47.2.1 (x50.length : Int)) k (x47.1, 0, x47.2.2)).bind fun x78 => (match x78 with | .inl x79 => some (.inl (x79.1, (w64 (x47.2.1 + 1)), x79.2)) | .inr x80 => some (.inr (.inr x80)))) else some (.inr (.inl (x47.1, x47.2.2))))
theorem T_store_Hits_l2_ok (k : Nat) (p1 : List (List Int)) (p2 : Int) (p3 : Int) (p4 : Int) (p5 : List Int) (x8 : Int) : ∀ (x47 : Nat × Int × (List (Int × Int × Int × Int))) (x : (Nat × Int × (List (Int × Int × Int × Int))) ⊕ ((Nat × (List (Int × Int × Int × Int))) ⊕ Int)), T_store_Hits_l2 k p1 p2 p3 p4 p5 x8 x47 = some x → evC X (evF X k) k 0 l_store_Hits_2 ⟨[(2, (LI p5)), (4, (Pt 0)), (10, (.one (.own 1 0 x47.1))), (29, (.one (.d (.list (p1.map (el (D.int .i64))))))), (30, (I x8)), (31, (I x47.2.1))], [.cells [cI p2, cI p3, cI p4], .vals (.agg [(.int .i64 0), (.int .i64 0), (.int .i64 0), (.int .i64 0)]) (x47.2.2.map e_st1)]⟩ = some (outS (fun (s : Nat × Int × (List (Int × Int × Int × Int))) => ⟨[(2, (LI p5)), (4, (Pt 0)), (10, (.one (.own 1 0 s.1))), (29, (.one (.d (.list (p1.map (el (D.int .i64))))))), (30, (I x8)), (31, (I s.2.1))], [.cells [cI p2, cI p3, cI p4], .vals (.agg [(.int .i64 0), (.int .i64 0), (.int .i64 0), (.int .i64 0)]) (s.2.2.map e_st1)]⟩) (fun (r : (Nat × (List (Int × Int × Int × Int))) ⊕ Int) => Sum.elim (fun y => (.exit 0, ⟨[(10, (.one (.own 0 0 y.1)))], [.vals (.agg [(.int .i64 0), (.int .i64 0), (.int .i64 0), (.int .i64 0)]) (y.2.map e_st1)]⟩)) (fun y => (.ret, ⟨[(6, (.one (.nil))), (7, (I y))], []⟩)) r) x) := by
 intro x47 x H
 unfold T_store_Hits_l2 at H
 refine K_in ?_
 refine K_seq (K_r [] [] (by kernel_rfl) trivial ?_)
 refine K_seq ?_
 rcases ite_some H with ⟨hx48, H⟩ | ⟨hx48, H⟩
 · refine K_t (by kernel_rfl) (decide_eq_true hx48) ?_
   refine K_g (by kernel_rfl) ?_
   refine K_skip ?_
   refine K_seq ?_
   refine K_block ?_
   refine K_seq ?_
   obtain ⟨x49, hx49, H⟩ := bind_some' H
   refine K_r [.l [.list (x49.map (D.int .i64))]] [(0 : Int) ≤ x47.2.1 ∧ x47.2.1 < (((p1.map (el (D.int .i64)))).length : Int), ((p1.map (el (D.int .i64))).getD x47.2.1.toNat (.list [])).cells = [.list (x49.map (D.int .i64))]] (by kernel_rfl) (AC (at_ok hx49 (el (D.int .i64)) (.list [])).1 (A1 (at_ok hx49 (el (D.int .i64)) (.list [])).2)) ?_
   refine K_seq ?_
   obtain ⟨x50, hx50, H⟩ := bind_some' H
   refine K_r [.n p5.length, .r (LI x50) [], .n x50.length] [((p5.map (D.int .i64))).length = p5.length, C_T_store_Starts k x49 (p5.length : Int) x50, ((x50.map (D.int .i64))).length = x50.length] (by kernel_rfl) (AC (List.length_map _) (AC (T_store_Starts_ok k x49 (p5.length : Int) x50 hx50) (A1 (List.length_map _)))) ?_
   refine K_block (K_conv (σ' := ⟨[(2, (LI p5)), (4, (Pt 0)), (10, (.one (.own 1 0 x47.1))), (11, (I x47.2.1)), (12, (LI x49)), (29, (.one (.d (.list (p1.map (el (D.int .i64))))))), (30, (I x8)), (31, (I x47.2.1)), (39, (LI x50)), (40, (I (x50.length : Int))), (41, (I 0))], [.cells [cI p2, cI p3, cI p4], .vals (.agg [(.int .i64 0), (.int .i64 0), (.int .i64 0), (.int .i64 0)]) (x47.2.2.map e_st1)]⟩) (by kernel_rfl) ?_)
   obtain ⟨x78, hx78, H⟩ := bind_some' H
   cases x78 with
   | inl x79 =>
    dsimp only at H
    refine K_loop ⟨[(2, (LI p5)), (4, (Pt 0)), (10, (.one (.own 1 0 x79.1))), (29, (.one (.d (.list (p1.map (el (D.int .i64))))))), (30, (I x8)), (31, (I x47.2.1))], [.cells [cI p2, cI p3, cI p4], .vals (.agg [(.int .i64 0), (.int .i64 0), (.int .i64 0), (.int .i64 0)]) (x79.2.map e_st1)]⟩ (loop_ok (fun (s : Nat × Int × (List (Int × Int × Int × Int))) => ⟨[(2, (LI p5)), (4, (Pt 0)), (10, (.one (.own 1 0 s.1))), (11, (I x47.2.1)), (12, (LI x49)), (29, (.one (.d (.list (p1.map (el (D.int .i64))))))), (30, (I x8)), (31, (I x47.2.1)), (39, (LI x50)), (40, (I (x50.length : Int))), (41, (I s.2.1))], [.cells [cI p2, cI p3, cI p4], .vals (.agg [(.int .i64 0), (.int .i64 0), (.int .i64 0), (.int .i64 0)]) (s.2.2.map e_st1)]⟩) (fun (r : (Nat × (List (Int × Int × Int × Int))) ⊕ Int) => Sum.elim (fun y => (.exit 2, ⟨[(2, (LI p5)), (4, (Pt 0)), (10, (.one (.own 1 0 y.1))), (29, (.one (.d (.list (p1.map (el (D.int .i64))))))), (30, (I x8)), (31, (I x47.2.1))], [.cells [cI p2, cI p3, cI p4], .vals (.agg [(.int .i64 0), (.int .i64 0), (.int .i64 0), (.int .i64 0)]) (y.2.map e_st1)]⟩)) (fun y => (.ret, ⟨[(6, (.one (.nil))), (7, (I y))], []⟩)) r) (fun r h => by cases r <;> cases h) (T_store_Hits_l1_ok k p1 p2 p3 p4 p5 x8 x49 x50 x47.2.1 x47.2.1 (x50.length : Int)) k (x47.1, 0, x47.2.2) (.inl x79) hx78) rfl ?_
    refine K_blk (K_r [] [] (by kernel_rfl) trivial ?_)
    cases H
    exact K_end (by kernel_rfl)
   | inr x80 =>
    dsimp only at H
    cases H
    exact K_loopr ⟨[(6, (.one (.nil))), (7, (I x80))], []⟩ (loop_ok (fun (s : Nat × Int × (List (Int × Int × Int × Int))) => ⟨[(2, (LI p5)), (4, (Pt 0)), (10, (.one (.own 1 0 s.1))), (11, (I x47.2.1)), (12, (LI x49)), (29, (.one (.d (.list (p1.map (el (D.int .i64))))))), (30, (I x8)), (31, (I x47.2.1)), (39, (LI x50)), (40, (I (x50.length : Int))), (41, (I s.2.1))], [.cells [cI p2, cI p3, cI p4], .vals (.agg [(.int .i64 0), (.int .i64 0), (.int .i64 0), (.int .i64 0)]) (s.2.2.map e_st1)]⟩) (fun (r : (Nat × (List (Int × Int × Int × Int))) ⊕ Int) => Sum.elim (fun y => (.exit 2, ⟨[(2, (LI p5)), (4, (Pt 0)), (10, (.one (.own 1 0 y.1))), (29, (.one (.d (.list (p1.map (el (D.int .i64))))))), (30, (I x8)), (31, (I x47.2.1))], [.cells [cI p2, cI p3, cI p4], .vals (.agg [(.int .i64 0), (.int .i64 0), (.int .i64 0), (.int .i64 0)]) (y.2.map e_st1)]⟩)) (fun y => (.ret, ⟨[(6, (.one (.nil))), (7, (I y))], []⟩)) r) (fun r h => by cases r <;> cases h) (T_store_Hits_l1_ok k p1 p2 p3 p4 p5 x8 x49 x50 x47.2.1 x47.2.1 (x50.length : Int)) k (x47.1, 0, x47.2.2) (.inr x80) hx78) (by kernel_rfl)
 · refine K_f (by kernel_rfl) (decide_eq_false hx48) ?_
   refine K_g (by kernel_rfl) ?_
   cases H
   exact K_exit0 rfl (by kernel_rfl)
def T_store_Hits (k : Nat) (p1 : List (List Int)) (p2 : Int) (p3 : Int) (p4 : Int) (p5 : List Int) : Option (Nat × Int × (List (Int × Int × Int × Int))) := match k with
 | 0 => none
 | k + 1 => ((T_store_Check k p1).bind fun x1 => (if (!decide (x1 = 0)) = true then some (0, x1, []) else ((T_store_Query k p2 p3 p4 p5).bind fun x3 => (if (!decide (x3 = 0)) = true then some (0, x3, []) else ((loopT (T_store_Hits_l2 k p1 p2 p3 p4 p5 (p1.length : Int)) k (0, 0, [])).bind fun x81 => (match x81 with | .inl x82 => ((T_store_Sort k x82.1 x82.2).bind fun x83 => some (x82.1, 0, x83)) | .inr x84 => some (0, x84, [])))))))
abbrev C_T_store_Hits (k : Nat) (p1 : List (List Int)) (p2 : Int) (p3 : Int) (p4 : Int) (p5 : List Int) (r : Nat × Int × (List (Int × Int × Int × Int))) : Prop := evF X k n_store_Hits [(.agg [.d (.list (p1.map (el (D.int .i64))))]), (.agg [cI p2, cI p3, cI p4]), (LI p5)] [] = some ((.tup [(false, [.own 0 0 r.1]), (false, [cI r.2.1])]), [.vals (.agg [(.int .i64 0), (.int .i64 0), (.int .i64 0), (.int .i64 0)]) (r.2.2.map e_st1)])
theorem T_store_Hits_ok (k : Nat) (p1 : List (List Int)) (p2 : Int) (p3 : Int) (p4 : Int) (p5 : List Int) (r : Nat × Int × (List (Int × Int × Int × Int))) : T_store_Hits k p1 p2 p3 p4 p5 = some r → C_T_store_Hits k p1 p2 p3 p4 p5 r := by
 intro H
 cases k with
 | zero => simp [T_store_Hits] at H
 | succ k =>
  simp only [T_store_Hits] at H
  refine F_in X_store_Hits rfl ?_
  refine K_seq (K_r [] [] (by kernel_rfl) trivial ?_)
  refine K_seq ?_
  refine K_seq ?_
  obtain ⟨x1, hx1, H⟩ := bind_some' H
  refine K_r [.r (I x1) []] [C_T_store_Check k p1 x1] (by kernel_rfl) (A1 (T_store_Check_ok k p1 x1 hx1)) ?_
  refine K_seq (K_r [] [] (by kernel_rfl) trivial ?_)
  rcases ite_some H with ⟨hx2, H⟩ | ⟨hx2, H⟩
  · refine K_t (by kernel_rfl) hx2 ?_
    refine K_seq (K_r [] [] (by kernel_rfl) trivial ?_)
    refine K_g (by kernel_rfl) ?_
    cases H
    refine K_ret ?_
    kernel_rfl
  · refine K_f (by kernel_rfl) (Bool.eq_false_iff.2 hx2) ?_
    refine K_g (by kernel_rfl) ?_
    refine K_skip ?_
    refine K_seq ?_
    refine K_seq ?_
    obtain ⟨x3, hx3, H⟩ := bind_some' H
    refine K_r [.r (I x3) []] [C_T_store_Query k p2 p3 p4 p5 x3] (by kernel_rfl) (A1 (T_store_Query_ok k p2 p3 p4 p5 x3 hx3)) ?_
    refine K_seq (K_r [] [] (by kernel_rfl) trivial ?_)
    rcases ite_some H with ⟨hx4, H⟩ | ⟨hx4, H⟩
    · refine K_t (by kernel_rfl) hx4 ?_
      refine K_seq (K_r [] [] (by kernel_rfl) trivial ?_)
      refine K_g (by kernel_rfl) ?_
      cases H
      refine K_ret ?_
      kernel_rfl
    · refine K_f (by kernel_rfl) (Bool.eq_false_iff.2 hx4) ?_
      refine K_g (by kernel_rfl) ?_
      refine K_skip (K_seq (K_r [] [] (by kernel_rfl) trivial ?_))
      refine K_seq (K_seq (K_r [.n p1.length] [((p1.map (el (D.int .i64)))).length = p1.length] (by kernel_rfl) (A1 (List.length_map _)) ?_))
      refine K_block (K_g (by kernel_rfl) ?_)
      refine K_conv (σ' := ⟨[(2, (LI p5)), (4, (Pt 0)), (10, (.one (.own 1 0 0))), (29, (.one (.d (.list (p1.map (el (D.int .i64))))))), (30, (I (p1.length : Int))), (31, (I 0))], [.cells [cI p2, cI p3, cI p4], .vals (.agg [(.int .i64 0), (.int .i64 0), (.int .i64 0), (.int .i64 0)]) ([].map e_st1)]⟩) (by kernel_rfl) ?_
      obtain ⟨x81, hx81, H⟩ := bind_some' H
      cases x81 with
      | inl x82 =>
       dsimp only at H
       refine K_loop ⟨[(10, (.one (.own 0 0 x82.1)))], [.vals (.agg [(.int .i64 0), (.int .i64 0), (.int .i64 0), (.int .i64 0)]) (x82.2.map e_st1)]⟩ (loop_ok (fun (s : Nat × Int × (List (Int × Int × Int × Int))) => ⟨[(2, (LI p5)), (4, (Pt 0)), (10, (.one (.own 1 0 s.1))), (29, (.one (.d (.list (p1.map (el (D.int .i64))))))), (30, (I (p1.length : Int))), (31, (I s.2.1))], [.cells [cI p2, cI p3, cI p4], .vals (.agg [(.int .i64 0), (.int .i64 0), (.int .i64 0), (.int .i64 0)]) (s.2.2.map e_st1)]⟩) (fun (r : (Nat × (List (Int × Int × Int × Int))) ⊕ Int) => Sum.elim (fun y => (.exit 0, ⟨[(10, (.one (.own 0 0 y.1)))], [.vals (.agg [(.int .i64 0), (.int .i64 0), (.int .i64 0), (.int .i64 0)]) (y.2.map e_st1)]⟩)) (fun y => (.ret, ⟨[(6, (.one (.nil))), (7, (I y))], []⟩)) r) (fun r h => by cases r <;> cases h) (T_store_Hits_l2_ok k p1 p2 p3 p4 p5 (p1.length : Int)) k (0, 0, []) (.inl x82) hx81) rfl ?_
       refine K_seq ?_
       obtain ⟨x83, hx83, H⟩ := bind_some' H
       refine K_r [.r (.tup []) [.vals (.agg [(.int .i64 0), (.int .i64 0), (.int .i64 0), (.int .i64 0)]) (x83.map e_st1)]] [C_T_store_Sort k x82.1 x82.2 x83] (by kernel_rfl) (A1 (T_store_Sort_ok k x82.1 x82.2 x83 hx83)) ?_
       refine K_seq (K_r [] [] (by kernel_rfl) trivial ?_)
       refine K_g (by kernel_rfl) ?_
       cases H
       refine K_ret ?_
       kernel_rfl
      | inr x84 =>
       dsimp only at H
       cases H
       refine K_loopr ⟨[(6, (.one (.nil))), (7, (I x84))], []⟩ (loop_ok (fun (s : Nat × Int × (List (Int × Int × Int × Int))) => ⟨[(2, (LI p5)), (4, (Pt 0)), (10, (.one (.own 1 0 s.1))), (29, (.one (.d (.list (p1.map (el (D.int .i64))))))), (30, (I (p1.length : Int))), (31, (I s.2.1))], [.cells [cI p2, cI p3, cI p4], .vals (.agg [(.int .i64 0), (.int .i64 0), (.int .i64 0), (.int .i64 0)]) (s.2.2.map e_st1)]⟩) (fun (r : (Nat × (List (Int × Int × Int × Int))) ⊕ Int) => Sum.elim (fun y => (.exit 0, ⟨[(10, (.one (.own 0 0 y.1)))], [.vals (.agg [(.int .i64 0), (.int .i64 0), (.int .i64 0), (.int .i64 0)]) (y.2.map e_st1)]⟩)) (fun y => (.ret, ⟨[(6, (.one (.nil))), (7, (I y))], []⟩)) r) (fun r h => by cases r <;> cases h) (T_store_Hits_l2_ok k p1 p2 p3 p4 p5 (p1.length : Int)) k (0, 0, []) (.inr x84) hx81) ?_
       kernel_rfl
def T_store_Count (k : Nat) (p1 : Int) : Option Unit := match k with
 | 0 => none
 | k + 1 => some ()
abbrev C_T_store_Count (k : Nat) (p1 : Int) (r : Unit) : Prop := evF X k n_store_Count [(I p1)] [] = some ((B (decide (1 ≤ p1) && decide (p1 ≤ 64))), [])
theorem T_store_Count_ok (k : Nat) (p1 : Int) (r : Unit) : T_store_Count k p1 = some r → C_T_store_Count k p1 r := by
 intro H
 cases k with
 | zero => simp [T_store_Count] at H
 | succ k =>
  simp only [T_store_Count] at H
  refine F_in X_store_Count rfl ?_
  refine K_seq (K_r [] [] (by kernel_rfl) trivial ?_)
  refine K_seq (K_r [.m] [([] : Heap) = []] (by kernel_rfl) (A1 rfl) ?_)
  refine K_g (by kernel_rfl) ?_
  cases H
  refine K_ret ?_
  kernel_rfl
def T_store_Nearest (k : Nat) (p1 : List (List Int)) (p2 : Int) (p3 : Int) (p4 : Int) (p5 : List Int) (p6 : Int) : Option ((List (Int × Int × Int × Int)) × Int) := match k with
 | 0 => none
 | k + 1 => ((T_store_Hits k p1 p2 p3 p4 p5).bind fun x1 => (if (!decide (x1.2.1 = 0)) = true then some ([], x1.2.1) else ((T_store_Count k p6).bind fun x3 => (if (!(decide (1 ≤ p6) && decide (p6 ≤ 64))) = true then some ([], 24) else (if (0 : Int) ≤ 0 ∧ 0 ≤ (imin p6 ((x1.1 : Nat) : Int)) ∧ (imin p6 ((x1.1 : Nat) : Int)) ≤ ((x1.1 : Nat) : Int) ∧ ((x1.1 : Nat) : Int) ≤ ((x1.1 : Nat) : Int) then some (((x1.2.2.drop (0 + 0)).take ((imin p6 ((x1.1 : Nat) : Int)).toNat - 0)), 0) else none)))))
abbrev C_T_store_Nearest (k : Nat) (p1 : List (List Int)) (p2 : Int) (p3 : Int) (p4 : Int) (p5 : List Int) (p6 : Int) (r : (List (Int × Int × Int × Int)) × Int) : Prop := evF X k n_store_Nearest [(.agg [.d (.list (p1.map (el (D.int .i64))))]), (.agg [cI p2, cI p3, cI p4]), (LI p5), (I p6)] [] = some ((.tup [(false, [.d (.list (r.1.map e_st1))]), (false, [cI r.2])]), [])
theorem T_store_Nearest_ok (k : Nat) (p1 : List (List Int)) (p2 : Int) (p3 : Int) (p4 : Int) (p5 : List Int) (p6 : Int) (r : (List (Int × Int × Int × Int)) × Int) : T_store_Nearest k p1 p2 p3 p4 p5 p6 = some r → C_T_store_Nearest k p1 p2 p3 p4 p5 p6 r := by
 intro H
 cases k with
 | zero => simp [T_store_Nearest] at H
 | succ k =>
  simp only [T_store_Nearest] at H
  refine F_in X_store_Nearest rfl ?_
  refine K_seq (K_r [] [] (by kernel_rfl) trivial ?_)
  refine K_seq ?_
  obtain ⟨x1, hx1, H⟩ := bind_some' H
  refine K_r [.r (.tup [(false, [.own 0 0 x1.1]), (false, [cI x1.2.1])]) [.vals (.agg [(.int .i64 0), (.int .i64 0), (.int .i64 0), (.int .i64 0)]) (x1.2.2.map e_st1)]] [C_T_store_Hits k p1 p2 p3 p4 p5 x1, (List.all (x1.2.2.map e_st1) fun d => d.cells.all D.num) = true] (by kernel_rfl) (AC (T_store_Hits_ok k p1 p2 p3 p4 p5 x1 hx1) (A1 (nm_all e_st1 _ (fun _ => rfl)))) ?_
  refine K_seq (K_seq (K_r [] [] (by kernel_rfl) trivial ?_))
  rcases ite_some H with ⟨hx2, H⟩ | ⟨hx2, H⟩
  · refine K_t (by kernel_rfl) hx2 ?_
    refine K_seq (K_r [] [] (by kernel_rfl) trivial ?_)
    refine K_g (by kernel_rfl) ?_
    cases H
    refine K_ret ?_
    kernel_rfl
  · refine K_f (by kernel_rfl) (Bool.eq_false_iff.2 hx2) ?_
    refine K_g (by kernel_rfl) ?_
    refine K_skip ?_
    refine K_seq ?_
    refine K_seq ?_
    obtain ⟨x3, hx3, H⟩ := bind_some' H
    refine K_r [.r (B (decide (1 ≤ p6) && decide (p6 ≤ 64))) []] [C_T_store_Count k p6 x3] (by kernel_rfl) (A1 (T_store_Count_ok k p6 x3 hx3)) ?_
    rcases ite_some H with ⟨hx4, H⟩ | ⟨hx4, H⟩
    · refine K_t (by kernel_rfl) hx4 ?_
      refine K_seq (K_r [] [] (by kernel_rfl) trivial ?_)
      refine K_g (by kernel_rfl) ?_
      cases H
      refine K_ret ?_
      kernel_rfl
    · refine K_f (by kernel_rfl) (Bool.eq_false_iff.2 hx4) ?_
      refine K_g (by kernel_rfl) ?_
      refine K_skip ?_
      refine K_seq ?_
      obtain ⟨hx5, H⟩ := guard_some H
      refine K_r [] [(0 : Int) ≤ 0 ∧ 0 ≤ (imin p6 ((x1.1 : Nat) : Int)) ∧ (imin p6 ((x1.1 : Nat) : Int)) ≤ ((x1.1 : Nat) : Int) ∧ ((x1.1 : Nat) : Int) ≤ ((x1.1 : Nat) : Int)] (by kernel_rfl) (A1 hx5) ?_
      refine K_g (by kernel_rfl) ?_
      cases H
      refine K_ret ?_
      exact Eq.trans (b := some ((.tup [(false, [.d (.list (((x1.2.2.map e_st1).drop (0 + 0)).take ((imin p6 ((x1.1 : Nat) : Int)).toNat - 0)))]), (false, [cI 0])]), [])) (by kernel_rfl) (by simp only [dt_map, rl_map, LI, VI])
def T_law23_awake (k : Nat) : Option Bool := match k with
 | 0 => none
 | k + 1 => ((T_store_Places k ([([0, 1, 1073741824, 3, 4] : List Int)] : List (List Int)) 2).bind fun x1 => (T_store_Nearest k ([([0, 1, 1073741824, 3, 4] : List Int)] : List (List Int)) 1 0 0 ([3, 5] : List Int) 1).bind fun x2 => ((if ((decide (x1.2 = 0) && decide (x2.2 = 0)) && decide ((x1.1.length : Int) = 2)) = true then ((at? x1.1 1).bind fun x5 => (if ((decide (x5.1 = 0) && (decide (x5.2 = 3) && true)) && decide ((x2.1.length : Int) = 1)) = true then ((at? x2.1 0).bind fun x8 => some (decide (x8.2.2.2 = 3) && (decide (x8.1 = 1) && (decide (x8.2.1 = 1) && true)))) else some false)) else some false)).bind fun x9 => some x9)
abbrev C_T_law23_awake (k : Nat) (r : Bool) : Prop := evF X k n_law23_awake [] [] = some ((B r), [])
theorem T_law23_awake_ok (k : Nat) (r : Bool) : T_law23_awake k = some r → C_T_law23_awake k r := by
 intro H
 cases k with
 | zero => simp [T_law23_awake] at H
 | succ k =>
  simp only [T_law23_awake] at H
  refine F_in X_law23_awake rfl ?_
  refine K_seq (K_r [] [] (by kernel_rfl) trivial ?_)
  refine K_seq (K_r [] [] (by kernel_rfl) trivial ?_)
  refine K_seq ?_
  obtain ⟨x1, hx1, H⟩ := bind_some' H
  refine K_r [.r (.tup [(false, [.d (.list (x1.1.map e_st0))]), (false, [cI x1.2])]) []] [C_T_store_Places k ([([0, 1, 1073741824, 3, 4] : List Int)] : List (List Int)) 2 x1] (by kernel_rfl) (A1 (T_store_Places_ok k ([([0, 1, 1073741824, 3, 4] : List Int)] : List (List Int)) 2 x1 hx1)) ?_
  refine K_seq ?_
  obtain ⟨x2, hx2, H⟩ := bind_some' H
  refine K_r [.r (.tup [(false, [.d (.list (x2.1.map e_st1))]), (false, [cI x2.2])]) []] [C_T_store_Nearest k ([([0, 1, 1073741824, 3, 4] : List Int)] : List (List Int)) 1 0 0 ([3, 5] : List Int) 1 x2] (by kernel_rfl) (A1 (T_store_Nearest_ok k ([([0, 1, 1073741824, 3, 4] : List Int)] : List (List Int)) 1 0 0 ([3, 5] : List Int) 1 x2 hx2)) ?_
  refine K_seq ?_
  obtain ⟨x9, hx9, H⟩ := bind_some' H
  refine K_of ⟨[(0, (B x9))], []⟩ ?_ ?_
  · clear H; have H := hx9; clear hx9; refine K_in ?_
    rcases ite_some H with ⟨hx4, H⟩ | ⟨hx4, H⟩
    · obtain ⟨x5, hx5, H⟩ := bind_some' H
      rcases ite_some H with ⟨hx7, H⟩ | ⟨hx7, H⟩
      · obtain ⟨x8, hx8, H⟩ := bind_some' H
        refine K_r [.m, .m, .n x1.1.length, .b true, .l [.int .i64 x5.1, .int .i64 x5.2], .m, .n x2.1.length, .b true, .l [.int .i64 x8.1, .int .i64 x8.2.1, .int .i64 x8.2.2.1, .int .i64 x8.2.2.2], .m, .l [.int .i64 x8.1, .int .i64 x8.2.1, .int .i64 x8.2.2.1, .int .i64 x8.2.2.2]] [([] : Heap) = [], (decide (x1.2 = 0) && decide (x2.2 = 0)) = true → AllT [((x1.1.map e_st0)).length = x1.1.length], ([] : Heap) = [], ((decide (x1.2 = 0) && decide (x2.2 = 0)) && decide ((x1.1.length : Int) = 2)) = true, (0 : Int) ≤ 1 ∧ 1 < (((x1.1.map e_st0)).length : Int), ((x1.1.map e_st0).getD 1 (.agg [(.int .i64 0), (.int .i64 0)])).cells = [.int .i64 x5.1, .int .i64 x5.2], (decide (x5.1 = 0) && (decide (x5.2 = 3) && true)) = true → AllT [((x2.1.map e_st1)).length = x2.1.length], ([] : Heap) = [], ((decide (x5.1 = 0) && (decide (x5.2 = 3) && true)) && decide ((x2.1.length : Int) = 1)) = true, (0 : Int) ≤ 0 ∧ 0 < (((x2.1.map e_st1)).length : Int), ((x2.1.map e_st1).getD 0 (.agg [(.int .i64 0), (.int .i64 0), (.int .i64 0), (.int .i64 0)])).cells = [.int .i64 x8.1, .int .i64 x8.2.1, .int .i64 x8.2.2.1, .int .i64 x8.2.2.2], decide (x8.2.2.2 = 3) = true → AllT [(0 : Int) ≤ 0 ∧ 0 < (((x2.1.map e_st1)).length : Int), ((x2.1.map e_st1).getD 0 (.agg [(.int .i64 0), (.int .i64 0), (.int .i64 0), (.int .i64 0)])).cells = [.int .i64 x8.1, .int .i64 x8.2.1, .int .i64 x8.2.2.1, .int .i64 x8.2.2.2]], ([] : Heap) = []] (by kernel_rfl) (AC rfl (AC (fun _ => (A1 (List.length_map _))) (AC rfl (AC hx4 (AC (at_ok hx5 e_st0 (.agg [(.int .i64 0), (.int .i64 0)])).1 (AC (at_ok hx5 e_st0 (.agg [(.int .i64 0), (.int .i64 0)])).2 (AC (fun _ => (A1 (List.length_map _))) (AC rfl (AC hx7 (AC (at_ok hx8 e_st1 (.agg [(.int .i64 0), (.int .i64 0), (.int .i64 0), (.int .i64 0)])).1 (AC (at_ok hx8 e_st1 (.agg [(.int .i64 0), (.int .i64 0), (.int .i64 0), (.int .i64 0)])).2 (AC (fun _ => (AC (at_ok hx8 e_st1 (.agg [(.int .i64 0), (.int .i64 0), (.int .i64 0), (.int .i64 0)])).1 (A1 (at_ok hx8 e_st1 (.agg [(.int .i64 0), (.int .i64 0), (.int .i64 0), (.int .i64 0)])).2))) (A1 rfl))))))))))))) ?_
        cases H
        exact K_end (by kernel_rfl)
      · refine K_r [.m, .m, .n x1.1.length, .b true, .l [.int .i64 x5.1, .int .i64 x5.2], .m, .n x2.1.length, .b false, .b false] [([] : Heap) = [], (decide (x1.2 = 0) && decide (x2.2 = 0)) = true → AllT [((x1.1.map e_st0)).length = x1.1.length], ([] : Heap) = [], ((decide (x1.2 = 0) && decide (x2.2 = 0)) && decide ((x1.1.length : Int) = 2)) = true, (0 : Int) ≤ 1 ∧ 1 < (((x1.1.map e_st0)).length : Int), ((x1.1.map e_st0).getD 1 (.agg [(.int .i64 0), (.int .i64 0)])).cells = [.int .i64 x5.1, .int .i64 x5.2], (decide (x5.1 = 0) && (decide (x5.2 = 3) && true)) = true → AllT [((x2.1.map e_st1)).length = x2.1.length], ([] : Heap) = [], ((decide (x5.1 = 0) && (decide (x5.2 = 3) && true)) && decide ((x2.1.length : Int) = 1)) = false, false = false] (by kernel_rfl) (AC rfl (AC (fun _ => (A1 (List.length_map _))) (AC rfl (AC hx4 (AC (at_ok hx5 e_st0 (.agg [(.int .i64 0), (.int .i64 0)])).1 (AC (at_ok hx5 e_st0 (.agg [(.int .i64 0), (.int .i64 0)])).2 (AC (fun _ => (A1 (List.length_map _))) (AC rfl (AC (Bool.eq_false_iff.2 hx7) (A1 rfl)))))))))) ?_
        cases H
        exact K_end (by kernel_rfl)
    · refine K_r [.m, .m, .n x1.1.length, .b false, .b false, .b false, .b false] [([] : Heap) = [], (decide (x1.2 = 0) && decide (x2.2 = 0)) = true → AllT [((x1.1.map e_st0)).length = x1.1.length], ([] : Heap) = [], ((decide (x1.2 = 0) && decide (x2.2 = 0)) && decide ((x1.1.length : Int) = 2)) = false, false = false, false = false, false = false] (by kernel_rfl) (AC rfl (AC (fun _ => (A1 (List.length_map _))) (AC rfl (AC (Bool.eq_false_iff.2 hx4) (AC rfl (AC rfl (A1 rfl))))))) ?_
      cases H
      exact K_end (by kernel_rfl)
  refine K_g (by kernel_rfl) ?_
  cases H
  refine K_ret ?_
  kernel_rfl
def T_shapesearchsecond_New (k : Nat) (p1 : List Int) : Option Unit := match k with
 | 0 => none
 | k + 1 => some ()
abbrev C_T_shapesearchsecond_New (k : Nat) (p1 : List Int) (r : Unit) : Prop := evF X k n_shapesearchsecond_New [(LI p1)] [] = some ((Pt 0), [.cells [cL p1, cI 0]])
theorem T_shapesearchsecond_New_ok (k : Nat) (p1 : List Int) (r : Unit) : T_shapesearchsecond_New k p1 = some r → C_T_shapesearchsecond_New k p1 r := by
 intro H
 cases k with
 | zero => simp [T_shapesearchsecond_New] at H
 | succ k =>
  simp only [T_shapesearchsecond_New] at H
  refine F_in X_shapesearchsecond_New rfl ?_
  refine K_seq (K_r [] [] (by kernel_rfl) trivial ?_)
  refine K_seq (K_r [] [] (by kernel_rfl) trivial ?_)
  refine K_g (by kernel_rfl) ?_
  cases H
  refine K_ret ?_
  kernel_rfl
def T_shapesearchsecond_Mod (k : Nat) (p1 : Int) (p2 : Int) : Option Unit := match k with
 | 0 => none
 | k + 1 => (if p2 ≠ 0 then some () else none)
abbrev C_T_shapesearchsecond_Mod (k : Nat) (p1 : Int) (p2 : Int) (r : Unit) : Prop := evF X k n_shapesearchsecond_Mod [(I p1), (I p2)] [] = some ((I ((w64 ((p1.tmod p2) + p2)).tmod p2)), [])
theorem T_shapesearchsecond_Mod_ok (k : Nat) (p1 : Int) (p2 : Int) (r : Unit) : T_shapesearchsecond_Mod k p1 p2 = some r → C_T_shapesearchsecond_Mod k p1 p2 r := by
 intro H
 cases k with
 | zero => simp [T_shapesearchsecond_Mod] at H
 | succ k =>
  simp only [T_shapesearchsecond_Mod] at H
  refine F_in X_shapesearchsecond_Mod rfl ?_
  refine K_seq (K_r [] [] (by kernel_rfl) trivial ?_)
  refine K_seq ?_
  obtain ⟨hx1, H⟩ := guard_some H
  refine K_r [] [p2 ≠ (0 : Int), p2 ≠ (0 : Int)] (by kernel_rfl) (AC hx1 (A1 hx1)) ?_
  refine K_g (by kernel_rfl) ?_
  cases H
  refine K_ret ?_
  kernel_rfl
def T_shapesearchsecond_Deck_Next (k : Nat) (p1 : Int) (p2 : List Int) (p3 : Int) : Option (Int × Int) := match k with
 | 0 => none
 | k + 1 => (if (decide ((p2.length : Int) ≤ p3) || decide (p1 ≤ 1)) = true then some (0, p3) else ((at? p2 (w64 ((w64 (p3 + 1)) - 1))).bind fun x2 => (T_shapesearchsecond_Mod k x2 p1).bind fun x3 => some (((w64 ((x2.tmod p1) + p1)).tmod p1), (w64 (p3 + 1)))))
abbrev C_T_shapesearchsecond_Deck_Next (k : Nat) (p1 : Int) (p2 : List Int) (p3 : Int) (r : Int × Int) : Prop := evF X k n_shapesearchsecond_Deck_Next [(Pt 0), (I p1)] [.cells [cL p2, cI p3]] = some ((I r.1), [.cells [cL p2, cI r.2]])
theorem T_shapesearchsecond_Deck_Next_ok (k : Nat) (p1 : Int) (p2 : List Int) (p3 : Int) (r : Int × Int) : T_shapesearchsecond_Deck_Next k p1 p2 p3 = some r → C_T_shapesearchsecond_Deck_Next k p1 p2 p3 r := by
 intro H
 cases k with
 | zero => simp [T_shapesearchsecond_Deck_Next] at H
 | succ k =>
  simp only [T_shapesearchsecond_Deck_Next] at H
  refine F_in X_shapesearchsecond_Deck_Next rfl ?_
  refine K_seq (K_r [] [] (by kernel_rfl) trivial ?_)
  refine K_seq (K_seq (K_r [.n p2.length, .m] [((p2.map (D.int .i64))).length = p2.length, ([.cells [cL p2, cI p3]] : Heap) = [.cells [cL p2, cI p3]]] (by kernel_rfl) (AC (List.length_map _) (A1 rfl)) ?_))
  rcases ite_some H with ⟨hx1, H⟩ | ⟨hx1, H⟩
  · refine K_t (by kernel_rfl) hx1 ?_
    refine K_seq (K_r [] [] (by kernel_rfl) trivial ?_)
    refine K_g (by kernel_rfl) ?_
    cases H
    refine K_ret ?_
    kernel_rfl
  · refine K_f (by kernel_rfl) (Bool.eq_false_iff.2 hx1) ?_
    refine K_g (by kernel_rfl) ?_
    refine K_skip (K_seq (K_r [] [] (by kernel_rfl) trivial ?_))
    refine K_seq ?_
    obtain ⟨x2, hx2, H⟩ := bind_some' H
    obtain ⟨x3, hx3, H⟩ := bind_some' H
    refine K_r [.l [.int .i64 x2], .r (I ((w64 ((x2.tmod p1) + p1)).tmod p1)) []] [(0 : Int) ≤ (w64 ((w64 (p3 + 1)) - 1)) ∧ (w64 ((w64 (p3 + 1)) - 1)) < (((p2.map (D.int .i64))).length : Int), ((p2.map (D.int .i64)).getD (w64 ((w64 (p3 + 1)) - 1)).toNat (.int .i64 0)).cells = [.int .i64 x2], C_T_shapesearchsecond_Mod k x2 p1 x3] (by kernel_rfl) (AC (at_ok hx2 (D.int .i64) (.int .i64 0)).1 (AC (at_ok hx2 (D.int .i64) (.int .i64 0)).2 (A1 (T_shapesearchsecond_Mod_ok k x2 p1 x3 hx3)))) ?_
    refine K_g (by kernel_rfl) ?_
    cases H
    refine K_ret ?_
    kernel_rfl
def T_shapesearchsecond_Deck_Sample (k : Nat) (p1 : List Int) (p2 : Int) : Option (Int × Int) := match k with
 | 0 => none
 | k + 1 => ((T_shapesearchsecond_Deck_Next k 12 p1 p2).bind fun x1 => (if x1.1 = 0 then ((T_shapesearchsecond_Deck_Next k 2001 p1 x1.2).bind fun x3 => some ((w64 (x3.1 - 1000)), x3.2)) else (if x1.1 = 1 then ((T_shapesearchsecond_Deck_Next k 2 p1 x1.2).bind fun x5 => (at? ([1000, (-1000)] : List Int) x5.1).bind fun x6 => some (x6, x5.2)) else ((T_shapesearchsecond_Deck_Next k 13 p1 x1.2).bind fun x7 => some ((w64 (x7.1 - 4)), x7.2)))))
abbrev C_T_shapesearchsecond_Deck_Sample (k : Nat) (p1 : List Int) (p2 : Int) (r : Int × Int) : Prop := evF X k n_shapesearchsecond_Deck_Sample [(Pt 0)] [.cells [cL p1, cI p2]] = some ((I r.1), [.cells [cL p1, cI r.2]])
theorem T_shapesearchsecond_Deck_Sample_ok (k : Nat) (p1 : List Int) (p2 : Int) (r : Int × Int) : T_shapesearchsecond_Deck_Sample k p1 p2 = some r → C_T_shapesearchsecond_Deck_Sample k p1 p2 r := by
 intro H
 cases k with
 | zero => simp [T_shapesearchsecond_Deck_Sample] at H
 | succ k =>
  simp only [T_shapesearchsecond_Deck_Sample] at H
  refine F_in X_shapesearchsecond_Deck_Sample rfl ?_
  refine K_seq (K_r [] [] (by kernel_rfl) trivial ?_)
  refine K_seq ?_
  refine K_seq ?_
  obtain ⟨x1, hx1, H⟩ := bind_some' H
  refine K_r [.r (I x1.1) [.cells [cL p1, cI x1.2]]] [C_T_shapesearchsecond_Deck_Next k 12 p1 p2 x1] (by kernel_rfl) (A1 (T_shapesearchsecond_Deck_Next_ok k 12 p1 p2 x1 hx1)) ?_
  refine K_block (K_seq (K_r [] [] (by kernel_rfl) trivial ?_))
  rcases ite_some H with ⟨hx2, H⟩ | ⟨hx2, H⟩
  · refine K_t (by kernel_rfl) (decide_eq_true hx2) ?_
    refine K_seq ?_
    obtain ⟨x3, hx3, H⟩ := bind_some' H
    refine K_r [.r (I x3.1) [.cells [cL p1, cI x3.2]]] [C_T_shapesearchsecond_Deck_Next k 2001 p1 x1.2 x3] (by kernel_rfl) (A1 (T_shapesearchsecond_Deck_Next_ok k 2001 p1 x1.2 x3 hx3)) ?_
    refine K_g (by kernel_rfl) ?_
    cases H
    refine K_ret ?_
    kernel_rfl
  · refine K_f (by kernel_rfl) (decide_eq_false hx2) ?_
    refine K_seq (K_r [] [] (by kernel_rfl) trivial ?_)
    rcases ite_some H with ⟨hx4, H⟩ | ⟨hx4, H⟩
    · refine K_t (by kernel_rfl) (decide_eq_true hx4) ?_
      refine K_seq ?_
      obtain ⟨x5, hx5, H⟩ := bind_some' H
      obtain ⟨x6, hx6, H⟩ := bind_some' H
      refine K_r [.r (I x5.1) [.cells [cL p1, cI x5.2]], .l [.int .i64 x6]] [C_T_shapesearchsecond_Deck_Next k 2 p1 x1.2 x5, (0 : Int) ≤ x5.1 ∧ x5.1 < (((([1000, (-1000)] : List Int).map (D.int .i64))).length : Int), ((([1000, (-1000)] : List Int).map (D.int .i64)).getD x5.1.toNat (.int .i64 0)).cells = [.int .i64 x6]] (by kernel_rfl) (AC (T_shapesearchsecond_Deck_Next_ok k 2 p1 x1.2 x5 hx5) (AC (at_ok hx6 (D.int .i64) (.int .i64 0)).1 (A1 (at_ok hx6 (D.int .i64) (.int .i64 0)).2))) ?_
      refine K_g (by kernel_rfl) ?_
      cases H
      refine K_ret ?_
      kernel_rfl
    · refine K_f (by kernel_rfl) (decide_eq_false hx4) ?_
      refine K_g (by kernel_rfl) ?_
      refine K_skip ?_
      refine K_blk ?_
      refine K_seq ?_
      obtain ⟨x7, hx7, H⟩ := bind_some' H
      refine K_r [.r (I x7.1) [.cells [cL p1, cI x7.2]]] [C_T_shapesearchsecond_Deck_Next k 13 p1 x1.2 x7] (by kernel_rfl) (A1 (T_shapesearchsecond_Deck_Next_ok k 13 p1 x1.2 x7 hx7)) ?_
      refine K_g (by kernel_rfl) ?_
      cases H
      refine K_ret ?_
      kernel_rfl
def T_shapesearchsecond_Deck_Values_l1 (k : Nat) (p1 : Int) (p2 : List Int) (x5 : Int) (x6 : Int) (x25 : Nat × Int × Int × (List Int)) : Option ((Nat × Int × Int × (List Int)) ⊕ ((Nat × Int × (List Int)))) :=
 (if x25.2.1 < p1 then (T_shapesearchsecond_Deck_Sample k p2 x25.2.2.1).bind fun x27 => ((if x5 = 0 then (if x6 ≠ 0 then some ((w64 ((x25.2.1.tmod x6) * 3)), x27.2) else none) else (if x5 = 1 then (if x6 ≠ 0 then (T_shapesearchsecond_Deck_Next k 2 p2 x27.2).bind fun x32 => some ((w64 ((w64 ((x25.2.1.tmod x6) * 4)) + x32.1)), x32.2) else none) else (if x5 = 2 then (if x6 ≠ 0 then some ((w64 ((w64 (x25.2.1.tdiv x6)) * 2)), x27.2) else none) else some (x27.1, x27.2))))).bind fun x35 => (T_shapesearchsecond_Deck_Next k 30 p2 x35.2).bind fun x36 => ((if x36.1 = 29 then some 1073741824 else some x35.1)).bind fun x38 => (if x25.1 + 1 ≤ LIM then some (.inl ((x25.1 + 1), (w64 (x25.2.1 + 1)), x36.2, ((x25.2.2.2.drop 0).take x25.1 ++ ([x38] : List Int)))) else none) else some (.inr (x25.1, x25.2.2.1, x25.2.2.2)))
theorem T_shapesearchsecond_Deck_Values_l1_ok (k : Nat) (p1 : Int) (p2 : List Int) (x5 : Int) (x6 : Int) : ∀ (x25 : Nat × Int × Int × (List Int)) (x : (Nat × Int × Int × (List Int)) ⊕ ((Nat × Int × (List Int)))), T_shapesearchsecond_Deck_Values_l1 k p1 p2 x5 x6 x25 = some x → evC X (evF X k) k 1 l_shapesearchsecond_Deck_Values_1 ⟨[(0, (Pt 0)), (1, (I p1)), (5, (.one (.own 1 0 x25.1))), (6, (I x5)), (7, (I x6)), (8, (I x25.2.1))], [.cells [cL p2, cI x25.2.2.1], VI x25.2.2.2]⟩ = some (outS (fun (s : Nat × Int × Int × (List Int)) => ⟨[(0, (Pt 0)), (1, (I p1)), (5, (.one (.own 1 0 s.1))), (6, (I x5)), (7, (I x6)), (8, (I s.2.1))], [.cells [cL p2, cI s.2.2.1], VI s.2.2.2]⟩) (fun (r : (Nat × Int × (List Int))) => (.exit 0, ⟨[(5, (.one (.own 1 0 r.1)))], [.cells [cL p2, cI r.2.1], VI r.2.2]⟩)) x) := by
 intro x25 x H
 unfold T_shapesearchsecond_Deck_Values_l1 at H
 refine K_in ?_
 refine K_seq (K_seq (K_r [] [] (by kernel_rfl) trivial ?_))
 rcases ite_some H with ⟨hx26, H⟩ | ⟨hx26, H⟩
 · refine K_t (by kernel_rfl) (decide_eq_true hx26) ?_
   refine K_g (by kernel_rfl) ?_
   refine K_skip ?_
   refine K_seq ?_
   refine K_block ?_
   refine K_seq ?_
   obtain ⟨x27, hx27, H⟩ := bind_some' H
   refine K_r [.r (I x27.1) [.cells [cL p2, cI x27.2]]] [C_T_shapesearchsecond_Deck_Sample k p2 x25.2.2.1 x27] (by kernel_rfl) (A1 (T_shapesearchsecond_Deck_Sample_ok k p2 x25.2.2.1 x27 hx27)) ?_
   refine K_seq (K_seq (K_r [] [] (by kernel_rfl) trivial ?_))
   refine K_block (K_seq (K_r [] [] (by kernel_rfl) trivial ?_))
   obtain ⟨x35, hx35, H⟩ := bind_some' H
   refine K_of ⟨[(0, (Pt 0)), (1, (I p1)), (5, (.one (.own 1 0 x25.1))), (6, (I x5)), (7, (I x6)), (8, (I x25.2.1)), (9, (I x35.1))], [.cells [cL p2, cI x35.2], VI x25.2.2.2]⟩ ?_ ?_
   · clear H; have H := hx35; clear hx35; refine K_in ?_
     rcases ite_some H with ⟨hx28, H⟩ | ⟨hx28, H⟩
     · refine K_t (by kernel_rfl) (decide_eq_true hx28) ?_
       obtain ⟨hx29, H⟩ := guard_some H
       refine K_r [] [x6 ≠ (0 : Int)] (by kernel_rfl) (A1 hx29) ?_
       cases H
       exact K_end (by kernel_rfl)
     · refine K_f (by kernel_rfl) (decide_eq_false hx28) ?_
       refine K_seq (K_r [] [] (by kernel_rfl) trivial ?_)
       rcases ite_some H with ⟨hx30, H⟩ | ⟨hx30, H⟩
       · refine K_t (by kernel_rfl) (decide_eq_true hx30) ?_
         obtain ⟨hx31, H⟩ := guard_some H
         obtain ⟨x32, hx32, H⟩ := bind_some' H
         refine K_r [.r (I x32.1) [.cells [cL p2, cI x32.2]]] [x6 ≠ (0 : Int), C_T_shapesearchsecond_Deck_Next k 2 p2 x27.2 x32] (by kernel_rfl) (AC hx31 (A1 (T_shapesearchsecond_Deck_Next_ok k 2 p2 x27.2 x32 hx32))) ?_
         cases H
         exact K_end (by kernel_rfl)
       · refine K_f (by kernel_rfl) (decide_eq_false hx30) ?_
         refine K_seq (K_r [] [] (by kernel_rfl) trivial ?_)
         rcases ite_some H with ⟨hx33, H⟩ | ⟨hx33, H⟩
         · refine K_t (by kernel_rfl) (decide_eq_true hx33) ?_
           obtain ⟨hx34, H⟩ := guard_some H
           refine K_r [] [x6 ≠ (0 : Int)] (by kernel_rfl) (A1 hx34) ?_
           cases H
           exact K_end (by kernel_rfl)
         · refine K_f (by kernel_rfl) (decide_eq_false hx33) ?_
           refine K_g (by kernel_rfl) ?_
           refine K_skip ?_
           cases H
           exact K_end (by kernel_rfl)
   refine K_blk ?_
   refine K_seq ?_
   refine K_seq ?_
   obtain ⟨x36, hx36, H⟩ := bind_some' H
   refine K_r [.r (I x36.1) [.cells [cL p2, cI x36.2]]] [C_T_shapesearchsecond_Deck_Next k 30 p2 x35.2 x36] (by kernel_rfl) (A1 (T_shapesearchsecond_Deck_Next_ok k 30 p2 x35.2 x36 hx36)) ?_
   obtain ⟨x38, hx38, H⟩ := bind_some' H
   refine K_of ⟨[(0, (Pt 0)), (1, (I p1)), (5, (.one (.own 1 0 x25.1))), (6, (I x5)), (7, (I x6)), (8, (I x25.2.1)), (9, (I x38))], [.cells [cL p2, cI x36.2], VI x25.2.2.2]⟩ ?_ ?_
   · clear H; have H := hx38; clear hx38; refine K_in ?_
     rcases ite_some H with ⟨hx37, H⟩ | ⟨hx37, H⟩
     · refine K_t (by kernel_rfl) (decide_eq_true hx37) ?_
       refine K_r [] [] (by kernel_rfl) trivial ?_
       cases H
       exact K_end (by kernel_rfl)
     · refine K_f (by kernel_rfl) (decide_eq_false hx37) ?_
       refine K_g (by kernel_rfl) ?_
       refine K_skip ?_
       cases H
       exact K_end (by kernel_rfl)
   obtain ⟨hx39, H⟩ := guard_some H
   refine K_r [.n 1, .l (((x25.2.2.2.drop 0).take x25.1 ++ ([x38] : List Int)).map (D.int .i64))] [(List.all (([x38] : List Int).map (D.int .i64)) fun d => d.cells.length == (D.cells (.int .i64 0)).length) = true, x25.1 + 1 ≤ LIM, (([x38] : List Int).map (D.int .i64)).length = 1, ((x25.2.2.2.map (D.int .i64)).drop 0).take x25.1 ++ (([x38] : List Int).map (D.int .i64)) = ((x25.2.2.2.drop 0).take x25.1 ++ ([x38] : List Int)).map (D.int .i64)] (by kernel_rfl) (AC (all_ok (D.int .i64) 1 ([x38] : List Int) (fun _ => rfl)) (AC hx39 (AC (by simp) (A1 (ap_map (D.int .i64) x25.2.2.2 ([x38] : List Int) 0 x25.1))))) ?_
   refine K_blk (K_r [] [] (by kernel_rfl) trivial ?_)
   cases H
   exact K_end (by kernel_rfl)
 · refine K_f (by kernel_rfl) (decide_eq_false hx26) ?_
   refine K_g (by kernel_rfl) ?_
   cases H
   exact K_exit0 rfl (by kernel_rfl)
def T_shapesearchsecond_Deck_Values (k : Nat) (p1 : Int) (p2 : List Int) (p3 : Int) : Option ((List Int) × Int) := match k with
 | 0 => none
 | k + 1 => ((T_shapesearchsecond_Deck_Next k 5 p2 p3).bind fun x1 => (T_shapesearchsecond_Deck_Next k 4 p2 x1.2).bind fun x2 => (loopT (T_shapesearchsecond_Deck_Values_l1 k p1 p2 x1.1 (w64 (2 + x2.1))) k (0, 0, x2.2, [])).bind fun x40 => some (((x40.2.2.drop 0).take x40.1), x40.2.1))
abbrev C_T_shapesearchsecond_Deck_Values (k : Nat) (p1 : Int) (p2 : List Int) (p3 : Int) (r : (List Int) × Int) : Prop := evF X k n_shapesearchsecond_Deck_Values [(Pt 0), (I p1)] [.cells [cL p2, cI p3]] = some ((LI r.1), [.cells [cL p2, cI r.2]])
theorem T_shapesearchsecond_Deck_Values_ok (k : Nat) (p1 : Int) (p2 : List Int) (p3 : Int) (r : (List Int) × Int) : T_shapesearchsecond_Deck_Values k p1 p2 p3 = some r → C_T_shapesearchsecond_Deck_Values k p1 p2 p3 r := by
 intro H
 cases k with
 | zero => simp [T_shapesearchsecond_Deck_Values] at H
 | succ k =>
  simp only [T_shapesearchsecond_Deck_Values] at H
  refine F_in X_shapesearchsecond_Deck_Values rfl ?_
  refine K_seq (K_r [] [] (by kernel_rfl) trivial ?_)
  refine K_seq (K_r [] [] (by kernel_rfl) trivial ?_)
  refine K_seq ?_
  obtain ⟨x1, hx1, H⟩ := bind_some' H
  refine K_r [.r (I x1.1) [.cells [cL p2, cI x1.2]]] [C_T_shapesearchsecond_Deck_Next k 5 p2 p3 x1] (by kernel_rfl) (A1 (T_shapesearchsecond_Deck_Next_ok k 5 p2 p3 x1 hx1)) ?_
  refine K_seq ?_
  obtain ⟨x2, hx2, H⟩ := bind_some' H
  refine K_r [.r (I x2.1) [.cells [cL p2, cI x2.2]]] [C_T_shapesearchsecond_Deck_Next k 4 p2 x1.2 x2] (by kernel_rfl) (A1 (T_shapesearchsecond_Deck_Next_ok k 4 p2 x1.2 x2 hx2)) ?_
  refine K_seq (K_seq (K_r [] [] (by kernel_rfl) trivial ?_))
  refine K_block (K_g (by kernel_rfl) ?_)
  refine K_conv (σ' := ⟨[(0, (Pt 0)), (1, (I p1)), (5, (.one (.own 1 0 0))), (6, (I x1.1)), (7, (I (w64 (2 + x2.1)))), (8, (I 0))], [.cells [cL p2, cI x2.2], VI []]⟩) (by kernel_rfl) ?_
  obtain ⟨x40, hx40, H⟩ := bind_some' H
  refine K_loop ⟨[(5, (.one (.own 1 0 x40.1)))], [.cells [cL p2, cI x40.2.1], VI x40.2.2]⟩ (loop_ok (fun (s : Nat × Int × Int × (List Int)) => ⟨[(0, (Pt 0)), (1, (I p1)), (5, (.one (.own 1 0 s.1))), (6, (I x1.1)), (7, (I (w64 (2 + x2.1)))), (8, (I s.2.1))], [.cells [cL p2, cI s.2.2.1], VI s.2.2.2]⟩) (fun (r : (Nat × Int × (List Int))) => (.exit 0, ⟨[(5, (.one (.own 1 0 r.1)))], [.cells [cL p2, cI r.2.1], VI r.2.2]⟩)) (fun r h => by cases h) (T_shapesearchsecond_Deck_Values_l1_ok k p1 p2 x1.1 (w64 (2 + x2.1))) k (0, 0, x2.2, []) x40 hx40) rfl ?_
  refine K_seq (K_r [] [] (by kernel_rfl) trivial ?_)
  refine K_g (by kernel_rfl) ?_
  cases H
  refine K_ret ?_
  exact Eq.trans (b := some ((.one (.d (.list (((x40.2.2.map (D.int .i64)).drop 0).take x40.1)))), [.cells [cL p2, cI x40.2.1]])) (by kernel_rfl) (by simp only [dt_map, rl_map, LI, VI])
def T_shapesearchsecond_Deck_Store_l1 (k : Nat) (p1 : Int) (p2 : List Int) (x12 : Int × Int × Nat × (List (List Int))) : Option ((Int × Int × Nat × (List (List Int))) ⊕ ((Int × Nat × (List (List Int))))) :=
 (if 0 ≤ x12.1 then (T_shapesearchsecond_Deck_Next k (w64 (p1 + 1)) p2 x12.2.1).bind fun x14 => (T_shapesearchsecond_Deck_Values k x14.1 p2 x14.2).bind fun x15 => (if x12.2.2.1 + 1 ≤ LIM then some (.inl ((w64 (x12.1 - 1)), x15.2, (x12.2.2.1 + 1), ((x12.2.2.2.drop 0).take x12.2.2.1 ++ ([x15.1] : List (List Int))))) else none) else some (.inr (x12.2.1, x12.2.2.1, x12.2.2.2)))
theorem T_shapesearchsecond_Deck_Store_l1_ok (k : Nat) (p1 : Int) (p2 : List Int) : ∀ (x12 : Int × Int × Nat × (List (List Int))) (x : (Int × Int × Nat × (List (List Int))) ⊕ ((Int × Nat × (List (List Int))))), T_shapesearchsecond_Deck_Store_l1 k p1 p2 x12 = some x → evC X (evF X k) k 1 l_shapesearchsecond_Deck_Store_1 ⟨[(0, (Pt 0)), (1, (I p1)), (4, (Pt 1)), (5, (Pt 2)), (6, (I x12.1))], [.cells [cL p2, cI x12.2.1], .cells [.nil], .cells [.own 3 0 x12.2.2.1], .vals (.list []) (x12.2.2.2.map (el (D.int .i64)))]⟩ = some (outS (fun (s : Int × Int × Nat × (List (List Int))) => ⟨[(0, (Pt 0)), (1, (I p1)), (4, (Pt 1)), (5, (Pt 2)), (6, (I s.1))], [.cells [cL p2, cI s.2.1], .cells [.nil], .cells [.own 3 0 s.2.2.1], .vals (.list []) (s.2.2.2.map (el (D.int .i64)))]⟩) (fun (r : (Int × Nat × (List (List Int)))) => (.exit 0, ⟨[(4, (Pt 1)), (5, (Pt 2))], [.cells [cL p2, cI r.1], .cells [.nil], .cells [.own 3 0 r.2.1], .vals (.list []) (r.2.2.map (el (D.int .i64)))]⟩)) x) := by
 intro x12 x H
 unfold T_shapesearchsecond_Deck_Store_l1 at H
 refine K_in ?_
 refine K_seq (K_seq (K_r [] [] (by kernel_rfl) trivial ?_))
 rcases ite_some H with ⟨hx13, H⟩ | ⟨hx13, H⟩
 · refine K_t (by kernel_rfl) (decide_eq_true hx13) ?_
   refine K_g (by kernel_rfl) ?_
   refine K_skip ?_
   refine K_seq ?_
   refine K_block ?_
   obtain ⟨x14, hx14, H⟩ := bind_some' H
   obtain ⟨x15, hx15, H⟩ := bind_some' H
   obtain ⟨hx16, H⟩ := guard_some H
   refine K_rI [.r (I x14.1) [.cells [cL p2, cI x14.2]], .r (LI x15.1) [.cells [cL p2, cI x15.2]], .n 1, .l (((x12.2.2.2.drop 0).take x12.2.2.1 ++ ([x15.1] : List (List Int))).map (el (D.int .i64)))] [0, 1, 2, 3, 0, 1, 2, 3, 1, 2, 3] ((fun (z1 : St) => [C_T_shapesearchsecond_Deck_Next k (w64 (p1 + 1)) p2 x12.2.1 x14, C_T_shapesearchsecond_Deck_Values k x14.1 p2 x14.2 x15, (List.all (([x15.1] : List (List Int)).map (el (D.int .i64))) fun d => d.cells.length == (D.cells (.list [])).length) = true, x12.2.2.1 + 1 ≤ LIM, (([x15.1] : List (List Int)).map (el (D.int .i64))).length = 1, ((x12.2.2.2.map (el (D.int .i64))).drop 0).take x12.2.2.1 ++ (([x15.1] : List (List Int)).map (el (D.int .i64))) = ((x12.2.2.2.drop 0).take x12.2.2.1 ++ ([x15.1] : List (List Int))).map (el (D.int .i64)), z1 = z1]) (⟨[(0, (Pt 0)), (1, (I p1)), (4, (Pt 1)), (5, (Pt 2)), (6, (I x12.1))], [.cells [cL p2, cI x15.2], .cells [.nil], .cells [.own 3 0 (x12.2.2.1 + 1)], .vals (.list []) (((x12.2.2.2.drop 0).take x12.2.2.1 ++ ([x15.1] : List (List Int))).map (el (D.int .i64)))]⟩)) [0, 1, 2, 3, 4, 5, 0, 1, 2, 3, 4, 5, 1, 2, 3, 4, 5, 6, 6] (by kernel_rfl) (AC (T_shapesearchsecond_Deck_Next_ok k (w64 (p1 + 1)) p2 x12.2.1 x14 hx14) (AC (T_shapesearchsecond_Deck_Values_ok k x14.1 p2 x14.2 x15 hx15) (AC (all_ok (el (D.int .i64)) 1 ([x15.1] : List (List Int)) (fun _ => rfl)) (AC hx16 (AC (by simp) (AC (ap_map (el (D.int .i64)) x12.2.2.2 ([x15.1] : List (List Int)) 0 x12.2.2.1) (A1 rfl))))))) ?_
   refine K_blk (K_r [] [] (by kernel_rfl) trivial ?_)
   cases H
   exact K_end (by kernel_rfl)
 · refine K_f (by kernel_rfl) (decide_eq_false hx13) ?_
   refine K_g (by kernel_rfl) ?_
   cases H
   exact K_exit0 rfl (by kernel_rfl)
def T_shapesearchsecond_Deck_Store (k : Nat) (p1 : Int) (p2 : List Int) (p3 : Int) : Option ((List (List Int)) × Int) := match k with
 | 0 => none
 | k + 1 => ((T_shapesearchsecond_Deck_Next k 4 p2 p3).bind fun x1 => (loopT (T_shapesearchsecond_Deck_Store_l1 k p1 p2) k (x1.1, x1.2, 0, [])).bind fun x17 => some (((x17.2.2.drop 0).take x17.2.1), x17.1))
abbrev C_T_shapesearchsecond_Deck_Store (k : Nat) (p1 : Int) (p2 : List Int) (p3 : Int) (r : (List (List Int)) × Int) : Prop := evF X k n_shapesearchsecond_Deck_Store [(Pt 0), (I p1)] [.cells [cL p2, cI p3]] = some ((.agg [.d (.list (r.1.map (el (D.int .i64))))]), [.cells [cL p2, cI r.2]])
theorem T_shapesearchsecond_Deck_Store_ok (k : Nat) (p1 : Int) (p2 : List Int) (p3 : Int) (r : (List (List Int)) × Int) : T_shapesearchsecond_Deck_Store k p1 p2 p3 = some r → C_T_shapesearchsecond_Deck_Store k p1 p2 p3 r := by
 intro H
 cases k with
 | zero => simp [T_shapesearchsecond_Deck_Store] at H
 | succ k =>
  simp only [T_shapesearchsecond_Deck_Store] at H
  refine F_in X_shapesearchsecond_Deck_Store rfl ?_
  refine K_seq (K_r [] [] (by kernel_rfl) trivial ?_)
  refine K_seq (K_r [] [] (by kernel_rfl) trivial ?_)
  refine K_seq ?_
  refine K_seq ?_
  obtain ⟨x1, hx1, H⟩ := bind_some' H
  refine K_r [.r (I x1.1) [.cells [cL p2, cI x1.2]]] [C_T_shapesearchsecond_Deck_Next k 4 p2 p3 x1] (by kernel_rfl) (A1 (T_shapesearchsecond_Deck_Next_ok k 4 p2 p3 x1 hx1)) ?_
  refine K_block (K_g (by kernel_rfl) ?_)
  refine K_conv (σ' := ⟨[(0, (Pt 0)), (1, (I p1)), (4, (Pt 1)), (5, (Pt 2)), (6, (I x1.1))], [.cells [cL p2, cI x1.2], .cells [.nil], .cells [.own 3 0 0], .vals (.list []) ([].map (el (D.int .i64)))]⟩) (by kernel_rfl) ?_
  obtain ⟨x17, hx17, H⟩ := bind_some' H
  refine K_loop ⟨[(4, (Pt 1)), (5, (Pt 2))], [.cells [cL p2, cI x17.1], .cells [.nil], .cells [.own 3 0 x17.2.1], .vals (.list []) (x17.2.2.map (el (D.int .i64)))]⟩ (loop_ok (fun (s : Int × Int × Nat × (List (List Int))) => ⟨[(0, (Pt 0)), (1, (I p1)), (4, (Pt 1)), (5, (Pt 2)), (6, (I s.1))], [.cells [cL p2, cI s.2.1], .cells [.nil], .cells [.own 3 0 s.2.2.1], .vals (.list []) (s.2.2.2.map (el (D.int .i64)))]⟩) (fun (r : (Int × Nat × (List (List Int)))) => (.exit 0, ⟨[(4, (Pt 1)), (5, (Pt 2))], [.cells [cL p2, cI r.1], .cells [.nil], .cells [.own 3 0 r.2.1], .vals (.list []) (r.2.2.map (el (D.int .i64)))]⟩)) (fun r h => by cases h) (T_shapesearchsecond_Deck_Store_l1_ok k p1 p2) k (x1.1, x1.2, 0, []) x17 hx17) rfl ?_
  refine K_seq (K_r [] [] (by kernel_rfl) trivial ?_)
  refine K_g (by kernel_rfl) ?_
  cases H
  refine K_ret ?_
  exact Eq.trans (b := some ((.agg [.d (.list (((x17.2.2.map (el (D.int .i64))).drop 0).take x17.2.1))]), [.cells [cL p2, cI x17.1]])) (by kernel_rfl) (by simp only [dt_map, rl_map, LI, VI])
def T_shapesearchsecond_Deck_Measure (k : Nat) (p1 : Int) (p2 : List Int) (p3 : Int) : Option (Int × Int × Int × Int) := match k with
 | 0 => none
 | k + 1 => (((if p1 = 0 then ((T_shapesearchsecond_Deck_Next k 5 p2 p3).bind fun x2 => some (x2.2, (w64 (1 + x2.1)))) else some (p3, p1))).bind fun x3 => ((if x3.2 = 4 then ((T_shapesearchsecond_Deck_Next k 5 p2 x3.1).bind fun x5 => (at? ([0, 1, 2, 5, 32] : List Int) x5.1).bind fun x6 => some (x5.2, x6, 0)) else (if x3.2 = 5 then ((T_shapesearchsecond_Deck_Next k 9 p2 x3.1).bind fun x8 => some (x8.2, 0, (w64 (x8.1 - 3)))) else some (x3.1, 0, 0)))).bind fun x9 => some (x3.2, x9.2.1, x9.2.2, x9.1))
abbrev C_T_shapesearchsecond_Deck_Measure (k : Nat) (p1 : Int) (p2 : List Int) (p3 : Int) (r : Int × Int × Int × Int) : Prop := evF X k n_shapesearchsecond_Deck_Measure [(Pt 0), (I p1)] [.cells [cL p2, cI p3]] = some ((.agg [cI r.1, cI r.2.1, cI r.2.2.1]), [.cells [cL p2, cI r.2.2.2]])
theorem T_shapesearchsecond_Deck_Measure_ok (k : Nat) (p1 : Int) (p2 : List Int) (p3 : Int) (r : Int × Int × Int × Int) : T_shapesearchsecond_Deck_Measure k p1 p2 p3 = some r → C_T_shapesearchsecond_Deck_Measure k p1 p2 p3 r := by
 intro H
 cases k with
 | zero => simp [T_shapesearchsecond_Deck_Measure] at H
 | succ k =>
  simp only [T_shapesearchsecond_Deck_Measure] at H
  refine F_in X_shapesearchsecond_Deck_Measure rfl ?_
  refine K_seq (K_r [] [] (by kernel_rfl) trivial ?_)
  refine K_seq (K_r [] [] (by kernel_rfl) trivial ?_)
  refine K_seq (K_seq (K_r [] [] (by kernel_rfl) trivial ?_))
  obtain ⟨x3, hx3, H⟩ := bind_some' H
  refine K_of ⟨[(0, (Pt 0)), (4, (Pt 1)), (5, (Pt 2))], [.cells [cL p2, cI x3.1], .cells [cI 0, cI 0, cI 0], .cells [cI x3.2, cI 0, cI 0]]⟩ ?_ ?_
  · clear H; have H := hx3; clear hx3; refine K_in ?_
    rcases ite_some H with ⟨hx1, H⟩ | ⟨hx1, H⟩
    · refine K_t (by kernel_rfl) (decide_eq_true hx1) ?_
      obtain ⟨x2, hx2, H⟩ := bind_some' H
      refine K_r [.r (I x2.1) [.cells [cL p2, cI x2.2]]] [C_T_shapesearchsecond_Deck_Next k 5 p2 p3 x2] (by kernel_rfl) (A1 (T_shapesearchsecond_Deck_Next_ok k 5 p2 p3 x2 hx2)) ?_
      cases H
      exact K_end (by kernel_rfl)
    · refine K_f (by kernel_rfl) (decide_eq_false hx1) ?_
      refine K_g (by kernel_rfl) ?_
      refine K_skip ?_
      cases H
      exact K_end (by kernel_rfl)
  refine K_seq (K_seq (K_r [] [] (by kernel_rfl) trivial ?_))
  refine K_block (K_seq (K_r [] [] (by kernel_rfl) trivial ?_))
  obtain ⟨x9, hx9, H⟩ := bind_some' H
  refine K_of ⟨[(4, (Pt 1)), (5, (Pt 2))], [.cells [cL p2, cI x9.1], .cells [cI 0, cI 0, cI 0], .cells [cI x3.2, cI x9.2.1, cI x9.2.2]]⟩ ?_ ?_
  · clear H; have H := hx9; clear hx9; refine K_in ?_
    rcases ite_some H with ⟨hx4, H⟩ | ⟨hx4, H⟩
    · refine K_t (by kernel_rfl) (decide_eq_true hx4) ?_
      obtain ⟨x5, hx5, H⟩ := bind_some' H
      obtain ⟨x6, hx6, H⟩ := bind_some' H
      refine K_r [.r (I x5.1) [.cells [cL p2, cI x5.2]], .l [.int .i64 x6]] [C_T_shapesearchsecond_Deck_Next k 5 p2 x3.1 x5, (0 : Int) ≤ x5.1 ∧ x5.1 < (((([0, 1, 2, 5, 32] : List Int).map (D.int .i64))).length : Int), ((([0, 1, 2, 5, 32] : List Int).map (D.int .i64)).getD x5.1.toNat (.int .i64 0)).cells = [.int .i64 x6]] (by kernel_rfl) (AC (T_shapesearchsecond_Deck_Next_ok k 5 p2 x3.1 x5 hx5) (AC (at_ok hx6 (D.int .i64) (.int .i64 0)).1 (A1 (at_ok hx6 (D.int .i64) (.int .i64 0)).2))) ?_
      cases H
      exact K_end (by kernel_rfl)
    · refine K_f (by kernel_rfl) (decide_eq_false hx4) ?_
      refine K_seq (K_r [] [] (by kernel_rfl) trivial ?_)
      rcases ite_some H with ⟨hx7, H⟩ | ⟨hx7, H⟩
      · refine K_t (by kernel_rfl) (decide_eq_true hx7) ?_
        obtain ⟨x8, hx8, H⟩ := bind_some' H
        refine K_r [.r (I x8.1) [.cells [cL p2, cI x8.2]]] [C_T_shapesearchsecond_Deck_Next k 9 p2 x3.1 x8] (by kernel_rfl) (A1 (T_shapesearchsecond_Deck_Next_ok k 9 p2 x3.1 x8 hx8)) ?_
        cases H
        exact K_end (by kernel_rfl)
      · refine K_f (by kernel_rfl) (decide_eq_false hx7) ?_
        refine K_g (by kernel_rfl) ?_
        refine K_skip ?_
        cases H
        exact K_end (by kernel_rfl)
  refine K_blk (K_seq (K_r [] [] (by kernel_rfl) trivial ?_))
  refine K_g (by kernel_rfl) ?_
  cases H
  refine K_ret ?_
  kernel_rfl
def T_shapesearchsecond_Deck_Length (k : Nat) (p1 : List Int) (p2 : Int) : Option (Int × Int) := match k with
 | 0 => none
 | k + 1 => ((T_shapesearchsecond_Deck_Next k 5 p1 p2).bind fun x1 => some ((w64 (2 + x1.1)), x1.2))
abbrev C_T_shapesearchsecond_Deck_Length (k : Nat) (p1 : List Int) (p2 : Int) (r : Int × Int) : Prop := evF X k n_shapesearchsecond_Deck_Length [(Pt 0)] [.cells [cL p1, cI p2]] = some ((I r.1), [.cells [cL p1, cI r.2]])
theorem T_shapesearchsecond_Deck_Length_ok (k : Nat) (p1 : List Int) (p2 : Int) (r : Int × Int) : T_shapesearchsecond_Deck_Length k p1 p2 = some r → C_T_shapesearchsecond_Deck_Length k p1 p2 r := by
 intro H
 cases k with
 | zero => simp [T_shapesearchsecond_Deck_Length] at H
 | succ k =>
  simp only [T_shapesearchsecond_Deck_Length] at H
  refine F_in X_shapesearchsecond_Deck_Length rfl ?_
  refine K_seq (K_r [] [] (by kernel_rfl) trivial ?_)
  refine K_seq ?_
  obtain ⟨x1, hx1, H⟩ := bind_some' H
  refine K_r [.r (I x1.1) [.cells [cL p1, cI x1.2]]] [C_T_shapesearchsecond_Deck_Next k 5 p1 p2 x1] (by kernel_rfl) (A1 (T_shapesearchsecond_Deck_Next_ok k 5 p1 p2 x1 hx1)) ?_
  refine K_g (by kernel_rfl) ?_
  cases H
  refine K_ret ?_
  kernel_rfl
def T_ref23_Sample (k : Nat) (p1 : Int) : Option Unit := match k with
 | 0 => none
 | k + 1 => some ()
abbrev C_T_ref23_Sample (k : Nat) (p1 : Int) (r : Unit) : Prop := evF X k n_ref23_Sample [(I p1)] [] = some ((B (decide ((-1000) ≤ p1) && decide (p1 ≤ 1000))), [])
theorem T_ref23_Sample_ok (k : Nat) (p1 : Int) (r : Unit) : T_ref23_Sample k p1 = some r → C_T_ref23_Sample k p1 r := by
 intro H
 cases k with
 | zero => simp [T_ref23_Sample] at H
 | succ k =>
  simp only [T_ref23_Sample] at H
  refine F_in X_ref23_Sample rfl ?_
  refine K_seq (K_r [] [] (by kernel_rfl) trivial ?_)
  refine K_seq (K_r [.m] [([] : Heap) = []] (by kernel_rfl) (A1 rfl) ?_)
  refine K_g (by kernel_rfl) ?_
  cases H
  refine K_ret ?_
  kernel_rfl
end Go.Proofs.Ytkeddnagijjbaaa.storeMoves
