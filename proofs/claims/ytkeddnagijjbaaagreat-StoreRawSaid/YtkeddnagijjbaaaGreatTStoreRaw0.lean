/- What the functions that the statement StoreRaw reaches compute, told as functions of Lean, and that the theory's language computes the same: part 1 of 3. There are no conditions. -/
import Derived.Test.YtkeddnagijjbaaaGreatMStoreRaw
set_option maxRecDepth 100000
set_option linter.unusedVariables false
set_option linter.unusedSimpArgs false
namespace Go.Proofs.YtkeddnagijjbaaaGreat.storeRaw
open Go
abbrev e_st0 (p : Int × Int) : D := .agg [.int .i64 p.1, .int .i64 p.2]
def T_law23_light_l1 (k : Nat) (p1 : List (List Int)) (x6 : Int × Int) : Option ((Int × Int) ⊕ Int) :=
 (if x6.2 < (p1.length : Int) then ((at? p1 x6.2).bind fun x8 => some (.inl ((w64 (x6.1 + (x8.length : Int))), (w64 (x6.2 + 1))))) else some (.inr x6.1))
theorem T_law23_light_l1_ok (k : Nat) (p1 : List (List Int)) : ∀ (x6 : Int × Int) (x : (Int × Int) ⊕ Int), T_law23_light_l1 k p1 x6 = some x → evC X (evF X k) k 0 l_law23_light_1 ⟨[(1, (Pt 0)), (3, (I x6.1)), (4, (I x6.2))], [.cells [.d (.list (p1.map (el (D.int .i64))))]]⟩ = some (outS (fun (s : Int × Int) => ⟨[(1, (Pt 0)), (3, (I s.1)), (4, (I s.2))], [.cells [.d (.list (p1.map (el (D.int .i64))))]]⟩) (fun (r : Int) => (.exit 0, ⟨[(3, (I r))], []⟩)) x) := by
 intro x6 x H
 unfold T_law23_light_l1 at H
 refine K_in ?_
 refine K_seq (K_seq (K_r [.n p1.length] [((p1.map (el (D.int .i64)))).length = p1.length] (by kernel_rfl) (A1 (List.length_map _)) ?_))
 rcases ite_some H with ⟨hx7, H⟩ | ⟨hx7, H⟩
 · refine K_t (by kernel_rfl) (decide_eq_true hx7) ?_
   refine K_g (by kernel_rfl) ?_
   refine K_skip ?_
   refine K_seq ?_
   refine K_block ?_
   obtain ⟨x8, hx8, H⟩ := bind_some' H
   refine K_r [.l [.list (x8.map (D.int .i64))], .n x8.length] [(0 : Int) ≤ x6.2 ∧ x6.2 < (((p1.map (el (D.int .i64)))).length : Int), ((p1.map (el (D.int .i64))).getD x6.2.toNat (.list [])).cells = [.list (x8.map (D.int .i64))], ((x8.map (D.int .i64))).length = x8.length] (by kernel_rfl) (AC (at_ok hx8 (el (D.int .i64)) (.list [])).1 (AC (at_ok hx8 (el (D.int .i64)) (.list [])).2 (A1 (List.length_map _)))) ?_
   refine K_blk (K_r [] [] (by kernel_rfl) trivial ?_)
   cases H
   exact K_end (by kernel_rfl)
 · refine K_f (by kernel_rfl) (decide_eq_false hx7) ?_
   refine K_g (by kernel_rfl) ?_
   cases H
   exact K_exit0 rfl (by kernel_rfl)
def T_law23_light (k : Nat) (p1 : List (List Int)) : Option Bool := match k with
 | 0 => none
 | k + 1 => ((loopT (T_law23_light_l1 k p1) k ((p1.length : Int), 0)).bind fun x9 => some (decide (x9 ≤ 3000)))
abbrev C_T_law23_light (k : Nat) (p1 : List (List Int)) (r : Bool) : Prop := evF X k n_law23_light [(.agg [.d (.list (p1.map (el (D.int .i64))))])] [] = some ((B r), [])
theorem T_law23_light_ok (k : Nat) (p1 : List (List Int)) (r : Bool) : T_law23_light k p1 = some r → C_T_law23_light k p1 r := by
 intro H
 cases k with
 | zero => simp [T_law23_light] at H
 | succ k =>
  simp only [T_law23_light] at H
  refine F_in X_law23_light rfl ?_
  refine K_seq (K_r [] [] (by kernel_rfl) trivial ?_)
  refine K_seq (K_r [.n p1.length] [((p1.map (el (D.int .i64)))).length = p1.length] (by kernel_rfl) (A1 (List.length_map _)) ?_)
  refine K_seq (K_seq (K_r [] [] (by kernel_rfl) trivial ?_))
  refine K_block (K_conv (σ' := ⟨[(1, (Pt 0)), (3, (I (p1.length : Int))), (4, (I 0))], [.cells [.d (.list (p1.map (el (D.int .i64))))]]⟩) (by kernel_rfl) ?_)
  obtain ⟨x9, hx9, H⟩ := bind_some' H
  refine K_loop ⟨[(3, (I x9))], []⟩ (loop_ok (fun (s : Int × Int) => ⟨[(1, (Pt 0)), (3, (I s.1)), (4, (I s.2))], [.cells [.d (.list (p1.map (el (D.int .i64))))]]⟩) (fun (r : Int) => (.exit 0, ⟨[(3, (I r))], []⟩)) (fun r h => by cases h) (T_law23_light_l1_ok k p1) k ((p1.length : Int), 0) x9 hx9) rfl ?_
  refine K_seq (K_r [] [] (by kernel_rfl) trivial ?_)
  refine K_g (by kernel_rfl) ?_
  cases H
  refine K_ret ?_
  kernel_rfl
def T_store_sample (k : Nat) (p1 : Int) : Option Unit := match k with
 | 0 => none
 | k + 1 => some ()
abbrev C_T_store_sample (k : Nat) (p1 : Int) (r : Unit) : Prop := evF X k n_store_sample [(I p1)] [] = some ((B (decide ((-1000) ≤ p1) && decide (p1 ≤ 1000))), [])
theorem T_store_sample_ok (k : Nat) (p1 : Int) (r : Unit) : T_store_sample k p1 = some r → C_T_store_sample k p1 r := by
 intro H
 cases k with
 | zero => simp [T_store_sample] at H
 | succ k =>
  simp only [T_store_sample] at H
  refine F_in X_store_sample rfl ?_
  refine K_seq (K_r [] [] (by kernel_rfl) trivial ?_)
  refine K_seq (K_r [.m] [([] : Heap) = []] (by kernel_rfl) (A1 rfl) ?_)
  refine K_g (by kernel_rfl) ?_
  cases H
  refine K_ret ?_
  kernel_rfl
def T_store_Check_1 (k : Nat) (p1 : Int) : Option Bool := match k with
 | 0 => none
 | k + 1 => (((if (!decide (p1 = 1073741824)) = true then ((T_store_sample k p1).bind fun x3 => some (!(decide ((-1000) ≤ p1) && decide (p1 ≤ 1000)))) else some false)).bind fun x4 => some x4)
abbrev C_T_store_Check_1 (k : Nat) (p1 : Int) (r : Bool) : Prop := evF X k n_store_Check_1 [(I p1)] [] = some ((B r), [])
theorem T_store_Check_1_ok (k : Nat) (p1 : Int) (r : Bool) : T_store_Check_1 k p1 = some r → C_T_store_Check_1 k p1 r := by
 intro H
 cases k with
 | zero => simp [T_store_Check_1] at H
 | succ k =>
  simp only [T_store_Check_1] at H
  refine F_in X_store_Check_1 rfl ?_
  refine K_seq (K_r [] [] (by kernel_rfl) trivial ?_)
  refine K_seq ?_
  obtain ⟨x4, hx4, H⟩ := bind_some' H
  refine K_of ⟨[(2, (B x4))], []⟩ ?_ ?_
  · clear H; have H := hx4; clear hx4; refine K_in ?_
    rcases ite_some H with ⟨hx2, H⟩ | ⟨hx2, H⟩
    · obtain ⟨x3, hx3, H⟩ := bind_some' H
      refine K_r [.b true, .r (B (decide ((-1000) ≤ p1) && decide (p1 ≤ 1000))) []] [(!decide (p1 = 1073741824)) = true, C_T_store_sample k p1 x3] (by kernel_rfl) (AC hx2 (A1 (T_store_sample_ok k p1 x3 hx3))) ?_
      cases H
      exact K_end (by kernel_rfl)
    · refine K_r [.b false] [(!decide (p1 = 1073741824)) = false] (by kernel_rfl) (A1 (Bool.eq_false_iff.2 hx2)) ?_
      cases H
      exact K_end (by kernel_rfl)
  refine K_g (by kernel_rfl) ?_
  cases H
  refine K_ret ?_
  kernel_rfl
def T_slices_IndexFunc_b354_l1 (k : Nat) (p1 : List Int) (x2 : Int) (x8 : Int) : Option (Int ⊕ (Unit ⊕ Int)) :=
 (if x8 < x2 then ((at? p1 x8).bind fun x10 => (T_store_Check_1 k x10).bind fun x11 => (if x11 = true then some (.inr (.inr x8)) else some (.inl (w64 (x8 + 1))))) else some (.inr (.inl ())))
theorem T_slices_IndexFunc_b354_l1_ok (k : Nat) (p1 : List Int) (x2 : Int) : ∀ (x8 : Int) (x : Int ⊕ (Unit ⊕ Int)), T_slices_IndexFunc_b354_l1 k p1 x2 x8 = some x → evC X (evF X k) k 0 l_slices_IndexFunc_b354_1 ⟨[(0, (LI p1)), (1, (.one (.fn (.func n_store_Check_1) []))), (7, (I x2)), (8, (I x8))], []⟩ = some (outS (fun (s : Int) => ⟨[(0, (LI p1)), (1, (.one (.fn (.func n_store_Check_1) []))), (7, (I x2)), (8, (I s))], []⟩) (fun (r : Unit ⊕ Int) => Sum.elim (fun y => (.exit 0, ⟨[], []⟩)) (fun y => (.ret, ⟨[(4, (I y))], []⟩)) r) x) := by
 intro x8 x H
 unfold T_slices_IndexFunc_b354_l1 at H
 refine K_in ?_
 refine K_seq (K_r [] [] (by kernel_rfl) trivial ?_)
 refine K_seq ?_
 rcases ite_some H with ⟨hx9, H⟩ | ⟨hx9, H⟩
 · refine K_t (by kernel_rfl) (decide_eq_true hx9) ?_
   refine K_g (by kernel_rfl) ?_
   refine K_skip (K_seq (K_block (K_seq (K_r [] [] (by kernel_rfl) trivial ?_))))
   refine K_seq ?_
   obtain ⟨x10, hx10, H⟩ := bind_some' H
   obtain ⟨x11, hx11, H⟩ := bind_some' H
   refine K_r [.l [.int .i64 x10], .r (B x11) []] [(0 : Int) ≤ x8 ∧ x8 < (((p1.map (D.int .i64))).length : Int), ((p1.map (D.int .i64)).getD x8.toNat (.int .i64 0)).cells = [.int .i64 x10], C_T_store_Check_1 k x10 x11] (by kernel_rfl) (AC (at_ok hx10 (D.int .i64) (.int .i64 0)).1 (AC (at_ok hx10 (D.int .i64) (.int .i64 0)).2 (A1 (T_store_Check_1_ok k x10 x11 hx11)))) ?_
   rcases ite_some H with ⟨hx12, H⟩ | ⟨hx12, H⟩
   · refine K_t (by kernel_rfl) hx12 ?_
     refine K_seq (K_r [] [] (by kernel_rfl) trivial ?_)
     refine K_g (by kernel_rfl) ?_
     cases H
     exact K_ret (by kernel_rfl)
   · refine K_f (by kernel_rfl) (Bool.eq_false_iff.2 hx12) ?_
     refine K_g (by kernel_rfl) ?_
     refine K_skip (K_blk (K_r [] [] (by kernel_rfl) trivial ?_))
     cases H
     exact K_end (by kernel_rfl)
 · refine K_f (by kernel_rfl) (decide_eq_false hx9) ?_
   refine K_g (by kernel_rfl) ?_
   cases H
   exact K_exit0 rfl (by kernel_rfl)
def T_slices_IndexFunc_b354 (k : Nat) (p1 : List Int) : Option Int := match k with
 | 0 => none
 | k + 1 => ((loopT (T_slices_IndexFunc_b354_l1 k p1 (p1.length : Int)) k 0).bind fun x13 => (match x13 with | .inl x14 => some (-1) | .inr x15 => some x15))
abbrev C_T_slices_IndexFunc_b354 (k : Nat) (p1 : List Int) (r : Int) : Prop := evF X k n_slices_IndexFunc_b354 [(LI p1), (.one (.fn (.func n_store_Check_1) []))] [] = some ((I r), [])
theorem T_slices_IndexFunc_b354_ok (k : Nat) (p1 : List Int) (r : Int) : T_slices_IndexFunc_b354 k p1 = some r → C_T_slices_IndexFunc_b354 k p1 r := by
 intro H
 cases k with
 | zero => simp [T_slices_IndexFunc_b354] at H
 | succ k =>
  simp only [T_slices_IndexFunc_b354] at H
  refine F_in X_slices_IndexFunc_b354 rfl ?_
  refine K_seq (K_r [] [] (by kernel_rfl) trivial ?_)
  refine K_seq (K_seq (K_r [.n p1.length] [((p1.map (D.int .i64))).length = p1.length] (by kernel_rfl) (A1 (List.length_map _)) ?_))
  refine K_block (K_conv (σ' := ⟨[(0, (LI p1)), (1, (.one (.fn (.func n_store_Check_1) []))), (7, (I (p1.length : Int))), (8, (I 0))], []⟩) (by kernel_rfl) ?_)
  obtain ⟨x13, hx13, H⟩ := bind_some' H
  cases x13 with
  | inl x14 =>
   dsimp only at H
   refine K_loop ⟨[], []⟩ (loop_ok (fun (s : Int) => ⟨[(0, (LI p1)), (1, (.one (.fn (.func n_store_Check_1) []))), (7, (I (p1.length : Int))), (8, (I s))], []⟩) (fun (r : Unit ⊕ Int) => Sum.elim (fun y => (.exit 0, ⟨[], []⟩)) (fun y => (.ret, ⟨[(4, (I y))], []⟩)) r) (fun r h => by cases r <;> cases h) (T_slices_IndexFunc_b354_l1_ok k p1 (p1.length : Int)) k 0 (.inl x14) hx13) rfl ?_
   refine K_seq (K_r [] [] (by kernel_rfl) trivial ?_)
   refine K_g (by kernel_rfl) ?_
   cases H
   refine K_ret ?_
   kernel_rfl
  | inr x15 =>
   dsimp only at H
   have H := Option.some.inj H; subst H
   refine K_loopr ⟨[(4, (I x15))], []⟩ (loop_ok (fun (s : Int) => ⟨[(0, (LI p1)), (1, (.one (.fn (.func n_store_Check_1) []))), (7, (I (p1.length : Int))), (8, (I s))], []⟩) (fun (r : Unit ⊕ Int) => Sum.elim (fun y => (.exit 0, ⟨[], []⟩)) (fun y => (.ret, ⟨[(4, (I y))], []⟩)) r) (fun r h => by cases r <;> cases h) (T_slices_IndexFunc_b354_l1_ok k p1 (p1.length : Int)) k 0 (.inr x15) hx13) ?_
   kernel_rfl
def T_slices_ContainsFunc_b354 (k : Nat) (p1 : List Int) : Option Bool := match k with
 | 0 => none
 | k + 1 => ((T_slices_IndexFunc_b354 k p1).bind fun x1 => some (decide (0 ≤ x1)))
abbrev C_T_slices_ContainsFunc_b354 (k : Nat) (p1 : List Int) (r : Bool) : Prop := evF X k n_slices_ContainsFunc_b354 [(LI p1), (.one (.fn (.func n_store_Check_1) []))] [] = some ((B r), [])
theorem T_slices_ContainsFunc_b354_ok (k : Nat) (p1 : List Int) (r : Bool) : T_slices_ContainsFunc_b354 k p1 = some r → C_T_slices_ContainsFunc_b354 k p1 r := by
 intro H
 cases k with
 | zero => simp [T_slices_ContainsFunc_b354] at H
 | succ k =>
  simp only [T_slices_ContainsFunc_b354] at H
  refine F_in X_slices_ContainsFunc_b354 rfl ?_
  refine K_seq (K_r [] [] (by kernel_rfl) trivial ?_)
  refine K_seq ?_
  obtain ⟨x1, hx1, H⟩ := bind_some' H
  refine K_r [.r (I x1) []] [C_T_slices_IndexFunc_b354 k p1 x1] (by kernel_rfl) (A1 (T_slices_IndexFunc_b354_ok k p1 x1 hx1)) ?_
  refine K_g (by kernel_rfl) ?_
  cases H
  refine K_ret ?_
  kernel_rfl
def T_store_Check_l1 (k : Nat) (p1 : List (List Int)) (x3 : Int) (x8 : Int × Int) : Option ((Int × Int) ⊕ Int) :=
 (if x8.2 < x3 then ((at? p1 x8.2).bind fun x10 => some (.inl ((w64 (x8.1 + (x10.length : Int))), (w64 (x8.2 + 1))))) else some (.inr x8.1))
theorem T_store_Check_l1_ok (k : Nat) (p1 : List (List Int)) (x3 : Int) : ∀ (x8 : Int × Int) (x : (Int × Int) ⊕ Int), T_store_Check_l1 k p1 x3 x8 = some x → evC X (evF X k) k 0 l_store_Check_1 ⟨[(1, (Pt 0)), (3, (I x8.1)), (9, (.one (.d (.list (p1.map (el (D.int .i64))))))), (10, (I x3)), (11, (I x8.2))], [.cells [.d (.list (p1.map (el (D.int .i64))))]]⟩ = some (outS (fun (s : Int × Int) => ⟨[(1, (Pt 0)), (3, (I s.1)), (9, (.one (.d (.list (p1.map (el (D.int .i64))))))), (10, (I x3)), (11, (I s.2))], [.cells [.d (.list (p1.map (el (D.int .i64))))]]⟩) (fun (r : Int) => (.exit 0, ⟨[(1, (Pt 0)), (3, (I r))], [.cells [.d (.list (p1.map (el (D.int .i64))))]]⟩)) x) := by
 intro x8 x H
 unfold T_store_Check_l1 at H
 refine K_in ?_
 refine K_seq (K_r [] [] (by kernel_rfl) trivial ?_)
 refine K_seq ?_
 rcases ite_some H with ⟨hx9, H⟩ | ⟨hx9, H⟩
 · refine K_t (by kernel_rfl) (decide_eq_true hx9) ?_
   refine K_g (by kernel_rfl) ?_
   refine K_skip ?_
   refine K_seq ?_
   refine K_block ?_
   refine K_seq ?_
   obtain ⟨x10, hx10, H⟩ := bind_some' H
   refine K_r [.l [.list (x10.map (D.int .i64))]] [(0 : Int) ≤ x8.2 ∧ x8.2 < (((p1.map (el (D.int .i64)))).length : Int), ((p1.map (el (D.int .i64))).getD x8.2.toNat (.list [])).cells = [.list (x10.map (D.int .i64))]] (by kernel_rfl) (AC (at_ok hx10 (el (D.int .i64)) (.list [])).1 (A1 (at_ok hx10 (el (D.int .i64)) (.list [])).2)) ?_
   refine K_r [.n x10.length] [((x10.map (D.int .i64))).length = x10.length] (by kernel_rfl) (A1 (List.length_map _)) ?_
   refine K_blk (K_r [] [] (by kernel_rfl) trivial ?_)
   cases H
   exact K_end (by kernel_rfl)
 · refine K_f (by kernel_rfl) (decide_eq_false hx9) ?_
   refine K_g (by kernel_rfl) ?_
   cases H
   exact K_exit0 rfl (by kernel_rfl)
def T_store_Check_l2 (k : Nat) (p1 : List (List Int)) (x14 : Int) (x20 : Int) : Option (Int ⊕ (Unit ⊕ Unit)) :=
 (if x20 < x14 then ((at? p1 x20).bind fun x22 => (T_slices_ContainsFunc_b354 k x22).bind fun x23 => (if x23 = true then some (.inr (.inr ())) else some (.inl (w64 (x20 + 1))))) else some (.inr (.inl ())))
theorem T_store_Check_l2_ok (k : Nat) (p1 : List (List Int)) (x14 : Int) : ∀ (x20 : Int) (x : Int ⊕ (Unit ⊕ Unit)), T_store_Check_l2 k p1 x14 x20 = some x → evC X (evF X k) k 0 l_store_Check_2 ⟨[(29, (.one (.d (.list (p1.map (el (D.int .i64))))))), (30, (I x14)), (31, (I x20))], []⟩ = some (outS (fun (s : Int) => ⟨[(29, (.one (.d (.list (p1.map (el (D.int .i64))))))), (30, (I x14)), (31, (I s))], []⟩) (fun (r : Unit ⊕ Unit) => Sum.elim (fun y => (.exit 2, ⟨[], []⟩)) (fun y => (.ret, ⟨[(2, (I 12))], []⟩)) r) x) := by
 intro x20 x H
 unfold T_store_Check_l2 at H
 refine K_in ?_
 refine K_seq (K_r [] [] (by kernel_rfl) trivial ?_)
 refine K_seq ?_
 rcases ite_some H with ⟨hx21, H⟩ | ⟨hx21, H⟩
 · refine K_t (by kernel_rfl) (decide_eq_true hx21) ?_
   refine K_g (by kernel_rfl) ?_
   refine K_skip ?_
   refine K_seq ?_
   refine K_block ?_
   refine K_seq ?_
   obtain ⟨x22, hx22, H⟩ := bind_some' H
   refine K_r [.l [.list (x22.map (D.int .i64))]] [(0 : Int) ≤ x20 ∧ x20 < (((p1.map (el (D.int .i64)))).length : Int), ((p1.map (el (D.int .i64))).getD x20.toNat (.list [])).cells = [.list (x22.map (D.int .i64))]] (by kernel_rfl) (AC (at_ok hx22 (el (D.int .i64)) (.list [])).1 (A1 (at_ok hx22 (el (D.int .i64)) (.list [])).2)) ?_
   refine K_seq ?_
   obtain ⟨x23, hx23, H⟩ := bind_some' H
   refine K_r [.r (B x23) []] [C_T_slices_ContainsFunc_b354 k x22 x23] (by kernel_rfl) (A1 (T_slices_ContainsFunc_b354_ok k x22 x23 hx23)) ?_
   rcases ite_some H with ⟨hx24, H⟩ | ⟨hx24, H⟩
   · refine K_t (by kernel_rfl) hx24 ?_
     refine K_seq (K_r [] [] (by kernel_rfl) trivial ?_)
     refine K_g (by kernel_rfl) ?_
     cases H
     exact K_ret (by kernel_rfl)
   · refine K_f (by kernel_rfl) (Bool.eq_false_iff.2 hx24) ?_
     refine K_g (by kernel_rfl) ?_
     refine K_skip (K_blk (K_r [] [] (by kernel_rfl) trivial ?_))
     cases H
     exact K_end (by kernel_rfl)
 · refine K_f (by kernel_rfl) (decide_eq_false hx21) ?_
   refine K_g (by kernel_rfl) ?_
   cases H
   exact K_exit0 rfl (by kernel_rfl)
def T_store_Check (k : Nat) (p1 : List (List Int)) : Option Int := match k with
 | 0 => none
 | k + 1 => ((loopT (T_store_Check_l1 k p1 (p1.length : Int)) k (0, 0)).bind fun x11 => (if (decide (16 < (p1.length : Int)) || decide (2000 < x11)) = true then some 20 else ((loopT (T_store_Check_l2 k p1 (p1.length : Int)) k 0).bind fun x25 => (match x25 with | .inl x26 => some 0 | .inr x27 => some 12))))
abbrev C_T_store_Check (k : Nat) (p1 : List (List Int)) (r : Int) : Prop := evF X k n_store_Check [(.agg [.d (.list (p1.map (el (D.int .i64))))])] [] = some ((I r), [])
theorem T_store_Check_ok (k : Nat) (p1 : List (List Int)) (r : Int) : T_store_Check k p1 = some r → C_T_store_Check k p1 r := by
 intro H
 cases k with
 | zero => simp [T_store_Check] at H
 | succ k =>
  simp only [T_store_Check] at H
  refine F_in X_store_Check rfl ?_
  refine K_seq (K_r [] [] (by kernel_rfl) trivial ?_)
  refine K_seq (K_r [] [] (by kernel_rfl) trivial ?_)
  refine K_seq (K_seq (K_r [.n p1.length] [((p1.map (el (D.int .i64)))).length = p1.length] (by kernel_rfl) (A1 (List.length_map _)) ?_))
  refine K_block (K_conv (σ' := ⟨[(1, (Pt 0)), (3, (I 0)), (9, (.one (.d (.list (p1.map (el (D.int .i64))))))), (10, (I (p1.length : Int))), (11, (I 0))], [.cells [.d (.list (p1.map (el (D.int .i64))))]]⟩) (by kernel_rfl) ?_)
  obtain ⟨x11, hx11, H⟩ := bind_some' H
  refine K_loop ⟨[(1, (Pt 0)), (3, (I x11))], [.cells [.d (.list (p1.map (el (D.int .i64))))]]⟩ (loop_ok (fun (s : Int × Int) => ⟨[(1, (Pt 0)), (3, (I s.1)), (9, (.one (.d (.list (p1.map (el (D.int .i64))))))), (10, (I (p1.length : Int))), (11, (I s.2))], [.cells [.d (.list (p1.map (el (D.int .i64))))]]⟩) (fun (r : Int) => (.exit 0, ⟨[(1, (Pt 0)), (3, (I r))], [.cells [.d (.list (p1.map (el (D.int .i64))))]]⟩)) (fun r h => by cases h) (T_store_Check_l1_ok k p1 (p1.length : Int)) k (0, 0) x11 hx11) rfl ?_
  refine K_seq (K_seq (K_r [.n p1.length, .m] ((fun (z1 : Heap) => [((p1.map (el (D.int .i64)))).length = p1.length, z1 = z1]) [.cells [.d (.list (p1.map (el (D.int .i64))))]]) (by kernel_rfl) (AC (List.length_map _) (A1 rfl)) ?_))
  rcases ite_some H with ⟨hx12, H⟩ | ⟨hx12, H⟩
  · refine K_t (by kernel_rfl) hx12 ?_
    refine K_seq (K_r [] [] (by kernel_rfl) trivial ?_)
    refine K_g (by kernel_rfl) ?_
    cases H
    refine K_ret ?_
    kernel_rfl
  · refine K_f (by kernel_rfl) (Bool.eq_false_iff.2 hx12) ?_
    refine K_g (by kernel_rfl) ?_
    refine K_skip (K_seq (K_seq (K_r [.n p1.length] [((p1.map (el (D.int .i64)))).length = p1.length] (by kernel_rfl) (A1 (List.length_map _)) ?_)))
    refine K_block (K_conv (σ' := ⟨[(29, (.one (.d (.list (p1.map (el (D.int .i64))))))), (30, (I (p1.length : Int))), (31, (I 0))], []⟩) (by kernel_rfl) ?_)
    obtain ⟨x25, hx25, H⟩ := bind_some' H
    cases x25 with
    | inl x26 =>
     dsimp only at H
     refine K_loop ⟨[], []⟩ (loop_ok (fun (s : Int) => ⟨[(29, (.one (.d (.list (p1.map (el (D.int .i64))))))), (30, (I (p1.length : Int))), (31, (I s))], []⟩) (fun (r : Unit ⊕ Unit) => Sum.elim (fun y => (.exit 2, ⟨[], []⟩)) (fun y => (.ret, ⟨[(2, (I 12))], []⟩)) r) (fun r h => by cases r <;> cases h) (T_store_Check_l2_ok k p1 (p1.length : Int)) k 0 (.inl x26) hx25) rfl ?_
     refine K_seq (K_r [] [] (by kernel_rfl) trivial ?_)
     refine K_g (by kernel_rfl) ?_
     cases H
     refine K_ret ?_
     kernel_rfl
    | inr x27 =>
     dsimp only at H
     cases H
     refine K_loopr ⟨[(2, (I 12))], []⟩ (loop_ok (fun (s : Int) => ⟨[(29, (.one (.d (.list (p1.map (el (D.int .i64))))))), (30, (I (p1.length : Int))), (31, (I s))], []⟩) (fun (r : Unit ⊕ Unit) => Sum.elim (fun y => (.exit 2, ⟨[], []⟩)) (fun y => (.ret, ⟨[(2, (I 12))], []⟩)) r) (fun r h => by cases r <;> cases h) (T_store_Check_l2_ok k p1 (p1.length : Int)) k 0 (.inr x27) hx25) ?_
     kernel_rfl
def T_store_length (k : Nat) (p1 : Int) : Option Unit := match k with
 | 0 => none
 | k + 1 => some ()
abbrev C_T_store_length (k : Nat) (p1 : Int) (r : Unit) : Prop := evF X k n_store_length [(I p1)] [] = some ((B (decide (2 ≤ p1) && decide (p1 ≤ 32))), [])
theorem T_store_length_ok (k : Nat) (p1 : Int) (r : Unit) : T_store_length k p1 = some r → C_T_store_length k p1 r := by
 intro H
 cases k with
 | zero => simp [T_store_length] at H
 | succ k =>
  simp only [T_store_length] at H
  refine F_in X_store_length rfl ?_
  refine K_seq (K_r [] [] (by kernel_rfl) trivial ?_)
  refine K_seq (K_r [.m] [([] : Heap) = []] (by kernel_rfl) (A1 rfl) ?_)
  refine K_g (by kernel_rfl) ?_
  cases H
  refine K_ret ?_
  kernel_rfl
def T_store_check (k : Nat) (p1 : List (List Int)) (p2 : Int) : Option Int := match k with
 | 0 => none
 | k + 1 => ((T_store_Check k p1).bind fun x1 => (if (!decide (x1 = 0)) = true then some x1 else ((T_store_length k p2).bind fun x3 => (if (!(decide (2 ≤ p2) && decide (p2 ≤ 32))) = true then some 8 else some 0))))
abbrev C_T_store_check (k : Nat) (p1 : List (List Int)) (p2 : Int) (r : Int) : Prop := evF X k n_store_check [(.agg [.d (.list (p1.map (el (D.int .i64))))]), (I p2)] [] = some ((I r), [])
theorem T_store_check_ok (k : Nat) (p1 : List (List Int)) (p2 : Int) (r : Int) : T_store_check k p1 p2 = some r → C_T_store_check k p1 p2 r := by
 intro H
 cases k with
 | zero => simp [T_store_check] at H
 | succ k =>
  simp only [T_store_check] at H
  refine F_in X_store_check rfl ?_
  refine K_seq (K_r [] [] (by kernel_rfl) trivial ?_)
  refine K_seq ?_
  refine K_seq ?_
  obtain ⟨x1, hx1, H⟩ := bind_some' H
  refine K_r [.r (I x1) []] [C_T_store_Check k p1 x1] (by kernel_rfl) (A1 (T_store_Check_ok k p1 x1 hx1)) ?_
  refine K_seq (K_r [] [] (by kernel_rfl) trivial ?_)
  rcases ite_some H with ⟨hx2, H⟩ | ⟨hx2, H⟩
  · refine K_t (by kernel_rfl) hx2 ?_
    refine K_seq (K_r [] [] (by kernel_rfl) trivial ?_)
    refine K_g (by kernel_rfl) ?_
    cases H
    refine K_ret ?_
    kernel_rfl
  · refine K_f (by kernel_rfl) (Bool.eq_false_iff.2 hx2) ?_
    refine K_g (by kernel_rfl) ?_
    refine K_skip ?_
    refine K_seq ?_
    refine K_seq ?_
    obtain ⟨x3, hx3, H⟩ := bind_some' H
    refine K_r [.r (B (decide (2 ≤ p2) && decide (p2 ≤ 32))) []] [C_T_store_length k p2 x3] (by kernel_rfl) (A1 (T_store_length_ok k p2 x3 hx3)) ?_
    rcases ite_some H with ⟨hx4, H⟩ | ⟨hx4, H⟩
    · refine K_t (by kernel_rfl) hx4 ?_
      refine K_seq (K_r [] [] (by kernel_rfl) trivial ?_)
      refine K_g (by kernel_rfl) ?_
      cases H
      refine K_ret ?_
      kernel_rfl
    · refine K_f (by kernel_rfl) (Bool.eq_false_iff.2 hx4) ?_
      refine K_g (by kernel_rfl) ?_
      refine K_skip (K_seq (K_r [] [] (by kernel_rfl) trivial ?_))
      refine K_g (by kernel_rfl) ?_
      cases H
      refine K_ret ?_
      kernel_rfl
def T_store_Starts_l1 (k : Nat) (p1 : List Int) (p2 : Int) (x5 : Int) (x15 : Nat × Int × Int × (List Int)) : Option ((Nat × Int × Int × (List Int)) ⊕ ((Nat × (List Int)))) :=
 (if x15.2.2.1 < x5 then ((at? p1 x15.2.2.1).bind fun x17 => ((if x17 = 1073741824 then some (w64 (x15.2.2.1 + 1)) else some x15.2.1)).bind fun x19 => ((if x19 ≤ (w64 ((w64 (x15.2.2.1 + 1)) - p2)) then (if x15.1 + 1 ≤ LIM then some ((x15.1 + 1), ((x15.2.2.2.drop 0).take x15.1 ++ ([(w64 ((w64 (x15.2.2.1 + 1)) - p2))] : List Int))) else none) else some (x15.1, x15.2.2.2))).bind fun x22 => some (.inl (x22.1, x19, (w64 (x15.2.2.1 + 1)), x22.2))) else some (.inr (x15.1, x15.2.2.2)))
theorem T_store_Starts_l1_ok (k : Nat) (p1 : List Int) (p2 : Int) (x5 : Int) : ∀ (x15 : Nat × Int × Int × (List Int)) (x : (Nat × Int × Int × (List Int)) ⊕ ((Nat × (List Int)))), T_store_Starts_l1 k p1 p2 x5 x15 = some x → evC X (evF X k) k 0 l_store_Starts_1 ⟨[(1, (I p2)), (5, (.one (.own 0 0 x15.1))), (6, (I x15.2.1)), (10, (LI p1)), (11, (I x5)), (12, (I x15.2.2.1))], [VI x15.2.2.2]⟩ = some (outS (fun (s : Nat × Int × Int × (List Int)) => ⟨[(1, (I p2)), (5, (.one (.own 0 0 s.1))), (6, (I s.2.1)), (10, (LI p1)), (11, (I x5)), (12, (I s.2.2.1))], [VI s.2.2.2]⟩) (fun (r : (Nat × (List Int))) => (.exit 0, ⟨[(5, (.one (.own 0 0 r.1)))], [VI r.2]⟩)) x) := by
 intro x15 x H
 unfold T_store_Starts_l1 at H
 refine K_in ?_
 refine K_seq (K_r [] [] (by kernel_rfl) trivial ?_)
 refine K_seq ?_
 rcases ite_some H with ⟨hx16, H⟩ | ⟨hx16, H⟩
 · refine K_t (by kernel_rfl) (decide_eq_true hx16) ?_
   refine K_g (by kernel_rfl) ?_
   refine K_skip ?_
   refine K_seq ?_
   refine K_block ?_
   refine K_seq ?_
   obtain ⟨x17, hx17, H⟩ := bind_some' H
   refine K_r [.l [.int .i64 x17]] [(0 : Int) ≤ x15.2.2.1 ∧ x15.2.2.1 < (((p1.map (D.int .i64))).length : Int), ((p1.map (D.int .i64)).getD x15.2.2.1.toNat (.int .i64 0)).cells = [.int .i64 x17]] (by kernel_rfl) (AC (at_ok hx17 (D.int .i64) (.int .i64 0)).1 (A1 (at_ok hx17 (D.int .i64) (.int .i64 0)).2)) ?_
   refine K_seq (K_seq (K_r [] [] (by kernel_rfl) trivial ?_))
   obtain ⟨x19, hx19, H⟩ := bind_some' H
   refine K_of ⟨[(1, (I p2)), (5, (.one (.own 0 0 x15.1))), (6, (I x19)), (7, (I x15.2.2.1)), (10, (LI p1)), (11, (I x5)), (12, (I x15.2.2.1))], [VI x15.2.2.2]⟩ ?_ ?_
   · clear H; have H := hx19; clear hx19; refine K_in ?_
     rcases ite_some H with ⟨hx18, H⟩ | ⟨hx18, H⟩
     · refine K_t (by kernel_rfl) (decide_eq_true hx18) ?_
       refine K_r [] [] (by kernel_rfl) trivial ?_
       cases H
       exact K_end (by kernel_rfl)
     · refine K_f (by kernel_rfl) (decide_eq_false hx18) ?_
       refine K_g (by kernel_rfl) ?_
       refine K_skip ?_
       cases H
       exact K_end (by kernel_rfl)
   refine K_seq (K_r [] [] (by kernel_rfl) trivial ?_)
   refine K_seq (K_r [] [] (by kernel_rfl) trivial ?_)
   obtain ⟨x22, hx22, H⟩ := bind_some' H
   refine K_of ⟨[(1, (I p2)), (5, (.one (.own 0 0 x22.1))), (6, (I x19)), (10, (LI p1)), (11, (I x5)), (12, (I x15.2.2.1))], [VI x22.2]⟩ ?_ ?_
   · clear H; have H := hx22; clear hx22; refine K_in ?_
     rcases ite_some H with ⟨hx20, H⟩ | ⟨hx20, H⟩
     · refine K_t (by kernel_rfl) (decide_eq_true hx20) ?_
       obtain ⟨hx21, H⟩ := guard_some H
       refine K_r [.n 1, .l (((x15.2.2.2.drop 0).take x15.1 ++ ([(w64 ((w64 (x15.2.2.1 + 1)) - p2))] : List Int)).map (D.int .i64))] [(List.all (([(w64 ((w64 (x15.2.2.1 + 1)) - p2))] : List Int).map (D.int .i64)) fun d => d.cells.length == (D.cells (.int .i64 0)).length) = true, x15.1 + 1 ≤ LIM, (([(w64 ((w64 (x15.2.2.1 + 1)) - p2))] : List Int).map (D.int .i64)).length = 1, ((x15.2.2.2.map (D.int .i64)).drop 0).take x15.1 ++ (([(w64 ((w64 (x15.2.2.1 + 1)) - p2))] : List Int).map (D.int .i64)) = ((x15.2.2.2.drop 0).take x15.1 ++ ([(w64 ((w64 (x15.2.2.1 + 1)) - p2))] : List Int)).map (D.int .i64)] (by kernel_rfl) (AC (all_ok (D.int .i64) 1 ([(w64 ((w64 (x15.2.2.1 + 1)) - p2))] : List Int) (fun _ => rfl)) (AC hx21 (AC (by simp) (A1 (ap_map (D.int .i64) x15.2.2.2 ([(w64 ((w64 (x15.2.2.1 + 1)) - p2))] : List Int) 0 x15.1))))) ?_
       cases H
       exact K_end (by kernel_rfl)
     · refine K_f (by kernel_rfl) (decide_eq_false hx20) ?_
       refine K_g (by kernel_rfl) ?_
       refine K_skip ?_
       cases H
       exact K_end (by kernel_rfl)
   refine K_blk (K_r [] [] (by kernel_rfl) trivial ?_)
   cases H
   exact K_end (by kernel_rfl)
 · refine K_f (by kernel_rfl) (decide_eq_false hx16) ?_
   refine K_g (by kernel_rfl) ?_
   cases H
   exact K_exit0 rfl (by kernel_rfl)
def T_store_Starts (k : Nat) (p1 : List Int) (p2 : Int) : Option ((List Int)) := match k with
 | 0 => none
 | k + 1 => ((loopT (T_store_Starts_l1 k p1 p2 (p1.length : Int)) k (0, 0, 0, [])).bind fun x23 => some ((x23.2.drop 0).take x23.1))
abbrev C_T_store_Starts (k : Nat) (p1 : List Int) (p2 : Int) (r : (List Int)) : Prop := evF X k n_store_Starts [(LI p1), (I p2)] [] = some ((LI r), [])
theorem T_store_Starts_ok (k : Nat) (p1 : List Int) (p2 : Int) (r : (List Int)) : T_store_Starts k p1 p2 = some r → C_T_store_Starts k p1 p2 r := by
 intro H
 cases k with
 | zero => simp [T_store_Starts] at H
 | succ k =>
  simp only [T_store_Starts] at H
  refine F_in X_store_Starts rfl ?_
  refine K_seq (K_r [] [] (by kernel_rfl) trivial ?_)
  refine K_seq (K_r [] [] (by kernel_rfl) trivial ?_)
  refine K_seq (K_r [] [] (by kernel_rfl) trivial ?_)
  refine K_seq (K_seq (K_r [.n p1.length] [((p1.map (D.int .i64))).length = p1.length] (by kernel_rfl) (A1 (List.length_map _)) ?_))
  refine K_block (K_g (by kernel_rfl) ?_)
  refine K_conv (σ' := ⟨[(1, (I p2)), (5, (.one (.own 0 0 0))), (6, (I 0)), (10, (LI p1)), (11, (I (p1.length : Int))), (12, (I 0))], [VI []]⟩) (by kernel_rfl) ?_
  obtain ⟨x23, hx23, H⟩ := bind_some' H
  refine K_loop ⟨[(5, (.one (.own 0 0 x23.1)))], [VI x23.2]⟩ (loop_ok (fun (s : Nat × Int × Int × (List Int)) => ⟨[(1, (I p2)), (5, (.one (.own 0 0 s.1))), (6, (I s.2.1)), (10, (LI p1)), (11, (I (p1.length : Int))), (12, (I s.2.2.1))], [VI s.2.2.2]⟩) (fun (r : (Nat × (List Int))) => (.exit 0, ⟨[(5, (.one (.own 0 0 r.1)))], [VI r.2]⟩)) (fun r h => by cases h) (T_store_Starts_l1_ok k p1 p2 (p1.length : Int)) k (0, 0, 0, []) x23 hx23) rfl ?_
  refine K_seq (K_r [] [] (by kernel_rfl) trivial ?_)
  refine K_g (by kernel_rfl) ?_
  cases H
  refine K_ret ?_
  exact Eq.trans (b := some ((.one (.d (.list (((x23.2.map (D.int .i64)).drop 0).take x23.1)))), [])) (by kernel_rfl) (by simp only [dt_map, LI, VI])
def T_store_Places_l1 (k : Nat) (p1 : List (List Int)) (p2 : Int) (x6 : Int) (x33 : (List Int)) (x36 : Int) (x39 : Int) (x41 : Int) (x47 : Nat × Int × (List (Int × Int))) : Option ((Nat × Int × (List (Int × Int))) ⊕ ((Nat × (List (Int × Int))))) :=
 (if x47.2.1 < x41 then (at? x33 x47.2.1).bind fun x49 => (if x47.1 + 1 ≤ LIM then some (.inl ((x47.1 + 1), (w64 (x47.2.1 + 1)), ((x47.2.2.drop 0).take x47.1 ++ ([(x36, x49)] : List (Int × Int))))) else none) else some (.inr (x47.1, x47.2.2)))
theorem T_store_Places_l1_ok (k : Nat) (p1 : List (List Int)) (p2 : Int) (x6 : Int) (x33 : (List Int)) (x36 : Int) (x39 : Int) (x41 : Int) : ∀ (x47 : Nat × Int × (List (Int × Int))) (x : (Nat × Int × (List (Int × Int))) ⊕ ((Nat × (List (Int × Int))))), T_store_Places_l1 k p1 p2 x6 x33 x36 x39 x41 x47 = some x → evC X (evF X k) k 0 l_store_Places_1 ⟨[(1, (I p2)), (7, (.one (.own 0 0 x47.1))), (8, (I x36)), (19, (.one (.d (.list (p1.map (el (D.int .i64))))))), (20, (I x6)), (21, (I x39)), (28, (LI x33)), (29, (I x41)), (30, (I x47.2.1))], [.vals (.agg [(.int .i64 0), (.int .i64 0)]) (x47.2.2.map e_st0)]⟩ = some (outS (fun (s : Nat × Int × (List (Int × Int))) => ⟨[(1, (I p2)), (7, (.one (.own 0 0 s.1))), (8, (I x36)), (19, (.one (.d (.list (p1.map (el (D.int .i64))))))), (20, (I x6)), (21, (I x39)), (28, (LI x33)), (29, (I x41)), (30, (I s.2.1))], [.vals (.agg [(.int .i64 0), (.int .i64 0)]) (s.2.2.map e_st0)]⟩) (fun (r : (Nat × (List (Int × Int)))) => (.exit 2, ⟨[(1, (I p2)), (7, (.one (.own 0 0 r.1))), (19, (.one (.d (.list (p1.map (el (D.int .i64))))))), (20, (I x6)), (21, (I x39))], [.vals (.agg [(.int .i64 0), (.int .i64 0)]) (r.2.map e_st0)]⟩)) x) := by
 intro x47 x H
 unfold T_store_Places_l1 at H
 refine K_in ?_
 refine K_seq (K_r [] [] (by kernel_rfl) trivial ?_)
 refine K_seq ?_
 rcases ite_some H with ⟨hx48, H⟩ | ⟨hx48, H⟩
 · refine K_t (by kernel_rfl) (decide_eq_true hx48) ?_
   refine K_g (by kernel_rfl) ?_
   refine K_skip ?_
   refine K_seq ?_
   refine K_block ?_
   refine K_seq ?_
   obtain ⟨x49, hx49, H⟩ := bind_some' H
   refine K_r [.l [.int .i64 x49]] [(0 : Int) ≤ x47.2.1 ∧ x47.2.1 < (((x33.map (D.int .i64))).length : Int), ((x33.map (D.int .i64)).getD x47.2.1.toNat (.int .i64 0)).cells = [.int .i64 x49]] (by kernel_rfl) (AC (at_ok hx49 (D.int .i64) (.int .i64 0)).1 (A1 (at_ok hx49 (D.int .i64) (.int .i64 0)).2)) ?_
   obtain ⟨hx50, H⟩ := guard_some H
   refine K_r [.n 1, .l (((x47.2.2.drop 0).take x47.1 ++ ([(x36, x49)] : List (Int × Int))).map e_st0)] [(List.all (([(x36, x49)] : List (Int × Int)).map e_st0) fun d => d.cells.length == (D.cells (.agg [(.int .i64 0), (.int .i64 0)])).length) = true, x47.1 + 1 ≤ LIM, (([(x36, x49)] : List (Int × Int)).map e_st0).length = 1, ((x47.2.2.map e_st0).drop 0).take x47.1 ++ (([(x36, x49)] : List (Int × Int)).map e_st0) = ((x47.2.2.drop 0).take x47.1 ++ ([(x36, x49)] : List (Int × Int))).map e_st0] (by kernel_rfl) (AC (all_ok e_st0 2 ([(x36, x49)] : List (Int × Int)) (fun _ => rfl)) (AC hx50 (AC (by simp) (A1 (ap_map e_st0 x47.2.2 ([(x36, x49)] : List (Int × Int)) 0 x47.1))))) ?_
   refine K_blk (K_r [] [] (by kernel_rfl) trivial ?_)
   cases H
   exact K_end (by kernel_rfl)
 · refine K_f (by kernel_rfl) (decide_eq_false hx48) ?_
   refine K_g (by kernel_rfl) ?_
   cases H
   exact K_exit0 rfl (by kernel_rfl)
def T_store_Places_l2 (k : Nat) (p1 : List (List Int)) (p2 : Int) (x6 : Int) (x30 : Nat × Int × (List (Int × Int))) : Option ((Nat × Int × (List (Int × Int))) ⊕ ((Nat × (List (Int × Int))))) :=
 (if x30.2.1 < x6 then ((at? p1 x30.2.1).bind fun x32 => (T_store_Starts k x32 p2).bind fun x33 => (loopT (T_store_Places_l1 k p1 p2 x6 x33 x30.2.1 x30.2.1 (x33.length : Int)) k (x30.1, 0, x30.2.2)).bind fun x51 => some (.inl (x51.1, (w64 (x30.2.1 + 1)), x51.2))) else some (.inr (x30.1, x30.2.2)))
theorem T_store_Places_l2_ok (k : Nat) (p1 : List (List Int)) (p2 : Int) (x6 : Int) : ∀ (x30 : Nat × Int × (List (Int × Int))) (x : (Nat × Int × (List (Int × Int))) ⊕ ((Nat × (List (Int × Int))))), T_store_Places_l2 k p1 p2 x6 x30 = some x → evC X (evF X k) k 0 l_store_Places_2 ⟨[(1, (I p2)), (7, (.one (.own 0 0 x30.1))), (19, (.one (.d (.list (p1.map (el (D.int .i64))))))), (20, (I x6)), (21, (I x30.2.1))], [.vals (.agg [(.int .i64 0), (.int .i64 0)]) (x30.2.2.map e_st0)]⟩ = some (outS (fun (s : Nat × Int × (List (Int × Int))) => ⟨[(1, (I p2)), (7, (.one (.own 0 0 s.1))), (19, (.one (.d (.list (p1.map (el (D.int .i64))))))), (20, (I x6)), (21, (I s.2.1))], [.vals (.agg [(.int .i64 0), (.int .i64 0)]) (s.2.2.map e_st0)]⟩) (fun (r : (Nat × (List (Int × Int)))) => (.exit 0, ⟨[(7, (.one (.own 0 0 r.1)))], [.vals (.agg [(.int .i64 0), (.int .i64 0)]) (r.2.map e_st0)]⟩)) x) := by
 intro x30 x H
 unfold T_store_Places_l2 at H
 refine K_in ?_
 refine K_seq (K_r [] [] (by kernel_rfl) trivial ?_)
 refine K_seq ?_
 rcases ite_some H with ⟨hx31, H⟩ | ⟨hx31, H⟩
 · refine K_t (by kernel_rfl) (decide_eq_true hx31) ?_
   refine K_g (by kernel_rfl) ?_
   refine K_skip ?_
   refine K_seq ?_
   refine K_block ?_
   refine K_seq ?_
   obtain ⟨x32, hx32, H⟩ := bind_some' H
   refine K_r [.l [.list (x32.map (D.int .i64))]] [(0 : Int) ≤ x30.2.1 ∧ x30.2.1 < (((p1.map (el (D.int .i64)))).length : Int), ((p1.map (el (D.int .i64))).getD x30.2.1.toNat (.list [])).cells = [.list (x32.map (D.int .i64))]] (by kernel_rfl) (AC (at_ok hx32 (el (D.int .i64)) (.list [])).1 (A1 (at_ok hx32 (el (D.int .i64)) (.list [])).2)) ?_
   refine K_seq ?_
   obtain ⟨x33, hx33, H⟩ := bind_some' H
   refine K_r [.r (LI x33) [], .n x33.length] [C_T_store_Starts k x32 p2 x33, ((x33.map (D.int .i64))).length = x33.length] (by kernel_rfl) (AC (T_store_Starts_ok k x32 p2 x33 hx33) (A1 (List.length_map _))) ?_
   refine K_block (K_conv (σ' := ⟨[(1, (I p2)), (7, (.one (.own 0 0 x30.1))), (8, (I x30.2.1)), (19, (.one (.d (.list (p1.map (el (D.int .i64))))))), (20, (I x6)), (21, (I x30.2.1)), (28, (LI x33)), (29, (I (x33.length : Int))), (30, (I 0))], [.vals (.agg [(.int .i64 0), (.int .i64 0)]) (x30.2.2.map e_st0)]⟩) (by kernel_rfl) ?_)
   obtain ⟨x51, hx51, H⟩ := bind_some' H
   refine K_loop ⟨[(1, (I p2)), (7, (.one (.own 0 0 x51.1))), (19, (.one (.d (.list (p1.map (el (D.int .i64))))))), (20, (I x6)), (21, (I x30.2.1))], [.vals (.agg [(.int .i64 0), (.int .i64 0)]) (x51.2.map e_st0)]⟩ (loop_ok (fun (s : Nat × Int × (List (Int × Int))) => ⟨[(1, (I p2)), (7, (.one (.own 0 0 s.1))), (8, (I x30.2.1)), (19, (.one (.d (.list (p1.map (el (D.int .i64))))))), (20, (I x6)), (21, (I x30.2.1)), (28, (LI x33)), (29, (I (x33.length : Int))), (30, (I s.2.1))], [.vals (.agg [(.int .i64 0), (.int .i64 0)]) (s.2.2.map e_st0)]⟩) (fun (r : (Nat × (List (Int × Int)))) => (.exit 2, ⟨[(1, (I p2)), (7, (.one (.own 0 0 r.1))), (19, (.one (.d (.list (p1.map (el (D.int .i64))))))), (20, (I x6)), (21, (I x30.2.1))], [.vals (.agg [(.int .i64 0), (.int .i64 0)]) (r.2.map e_st0)]⟩)) (fun r h => by cases h) (T_store_Places_l1_ok k p1 p2 x6 x33 x30.2.1 x30.2.1 (x33.length : Int)) k (x30.1, 0, x30.2.2) x51 hx51) rfl ?_
   refine K_blk (K_r [] [] (by kernel_rfl) trivial ?_)
   cases H
   exact K_end (by kernel_rfl)
 · refine K_f (by kernel_rfl) (decide_eq_false hx31) ?_
   refine K_g (by kernel_rfl) ?_
   cases H
   exact K_exit0 rfl (by kernel_rfl)
def T_store_Places (k : Nat) (p1 : List (List Int)) (p2 : Int) : Option ((List (Int × Int)) × Int) := match k with
 | 0 => none
 | k + 1 => ((T_store_check k p1 p2).bind fun x1 => (if (!decide (x1 = 0)) = true then some ([], x1) else ((loopT (T_store_Places_l2 k p1 p2 (p1.length : Int)) k (0, 0, [])).bind fun x52 => some (((x52.2.drop 0).take x52.1), 0))))
abbrev C_T_store_Places (k : Nat) (p1 : List (List Int)) (p2 : Int) (r : (List (Int × Int)) × Int) : Prop := evF X k n_store_Places [(.agg [.d (.list (p1.map (el (D.int .i64))))]), (I p2)] [] = some ((.tup [(false, [.d (.list (r.1.map e_st0))]), (false, [cI r.2])]), [])
theorem T_store_Places_ok (k : Nat) (p1 : List (List Int)) (p2 : Int) (r : (List (Int × Int)) × Int) : T_store_Places k p1 p2 = some r → C_T_store_Places k p1 p2 r := by
 intro H
 cases k with
 | zero => simp [T_store_Places] at H
 | succ k =>
  simp only [T_store_Places] at H
  refine F_in X_store_Places rfl ?_
  refine K_seq (K_r [] [] (by kernel_rfl) trivial ?_)
  refine K_seq ?_
  refine K_seq ?_
  obtain ⟨x1, hx1, H⟩ := bind_some' H
  refine K_r [.r (I x1) []] [C_T_store_check k p1 p2 x1] (by kernel_rfl) (A1 (T_store_check_ok k p1 p2 x1 hx1)) ?_
  refine K_seq (K_r [] [] (by kernel_rfl) trivial ?_)
  rcases ite_some H with ⟨hx2, H⟩ | ⟨hx2, H⟩
  · refine K_t (by kernel_rfl) hx2 ?_
    refine K_seq (K_r [] [] (by kernel_rfl) trivial ?_)
    refine K_g (by kernel_rfl) ?_
    cases H
    refine K_ret ?_
    kernel_rfl
  · refine K_f (by kernel_rfl) (Bool.eq_false_iff.2 hx2) ?_
    refine K_g (by kernel_rfl) ?_
    refine K_skip (K_seq (K_r [] [] (by kernel_rfl) trivial ?_))
    refine K_seq (K_seq (K_r [.n p1.length] [((p1.map (el (D.int .i64)))).length = p1.length] (by kernel_rfl) (A1 (List.length_map _)) ?_))
    refine K_block (K_g (by kernel_rfl) ?_)
    refine K_conv (σ' := ⟨[(1, (I p2)), (7, (.one (.own 0 0 0))), (19, (.one (.d (.list (p1.map (el (D.int .i64))))))), (20, (I (p1.length : Int))), (21, (I 0))], [.vals (.agg [(.int .i64 0), (.int .i64 0)]) ([].map e_st0)]⟩) (by kernel_rfl) ?_
    obtain ⟨x52, hx52, H⟩ := bind_some' H
    refine K_loop ⟨[(7, (.one (.own 0 0 x52.1)))], [.vals (.agg [(.int .i64 0), (.int .i64 0)]) (x52.2.map e_st0)]⟩ (loop_ok (fun (s : Nat × Int × (List (Int × Int))) => ⟨[(1, (I p2)), (7, (.one (.own 0 0 s.1))), (19, (.one (.d (.list (p1.map (el (D.int .i64))))))), (20, (I (p1.length : Int))), (21, (I s.2.1))], [.vals (.agg [(.int .i64 0), (.int .i64 0)]) (s.2.2.map e_st0)]⟩) (fun (r : (Nat × (List (Int × Int)))) => (.exit 0, ⟨[(7, (.one (.own 0 0 r.1)))], [.vals (.agg [(.int .i64 0), (.int .i64 0)]) (r.2.map e_st0)]⟩)) (fun r h => by cases h) (T_store_Places_l2_ok k p1 p2 (p1.length : Int)) k (0, 0, []) x52 hx52) rfl ?_
    refine K_seq (K_r [] [] (by kernel_rfl) trivial ?_)
    refine K_g (by kernel_rfl) ?_
    cases H
    refine K_ret ?_
    exact Eq.trans (b := some ((.tup [(false, [.d (.list (((x52.2.map e_st0).drop 0).take x52.1))]), (false, [cI 0])]), [])) (by kernel_rfl) (by simp only [dt_map, LI, VI])
def T_ref23_Sample (k : Nat) (p1 : Int) : Option Unit := match k with
 | 0 => none
 | k + 1 => some ()
abbrev C_T_ref23_Sample (k : Nat) (p1 : Int) (r : Unit) : Prop := evF X k n_ref23_Sample [(I p1)] [] = some ((B (decide ((-1000) ≤ p1) && decide (p1 ≤ 1000))), [])
theorem T_ref23_Sample_ok (k : Nat) (p1 : Int) (r : Unit) : T_ref23_Sample k p1 = some r → C_T_ref23_Sample k p1 r := by
 intro H
 cases k with
 | zero => simp [T_ref23_Sample] at H
 | succ k =>
  simp only [T_ref23_Sample] at H
  refine F_in X_ref23_Sample rfl ?_
  refine K_seq (K_r [] [] (by kernel_rfl) trivial ?_)
  refine K_seq (K_r [.m] [([] : Heap) = []] (by kernel_rfl) (A1 rfl) ?_)
  refine K_g (by kernel_rfl) ?_
  cases H
  refine K_ret ?_
  kernel_rfl
def T_ref23_Check_l1 (k : Nat) (p1 : List (List Int)) (x8 : Int × Int) : Option ((Int × Int) ⊕ (Unit ⊕ Unit)) :=
 (if x8.2 < (p1.length : Int) then ((at? p1 x8.2).bind fun x10 => (if 2000 < (w64 (x8.1 + (x10.length : Int))) then some (.inr (.inr ())) else some (.inl ((w64 (x8.1 + (x10.length : Int))), (w64 (x8.2 + 1)))))) else some (.inr (.inl ())))
theorem T_ref23_Check_l1_ok (k : Nat) (p1 : List (List Int)) : ∀ (x8 : Int × Int) (x : (Int × Int) ⊕ (Unit ⊕ Unit)), T_ref23_Check_l1 k p1 x8 = some x → evC X (evF X k) k 0 l_ref23_Check_1 ⟨[(1, (Pt 0)), (3, (I x8.1)), (4, (I x8.2))], [.cells [.d (.list (p1.map (el (D.int .i64))))]]⟩ = some (outS (fun (s : Int × Int) => ⟨[(1, (Pt 0)), (3, (I s.1)), (4, (I s.2))], [.cells [.d (.list (p1.map (el (D.int .i64))))]]⟩) (fun (r : Unit ⊕ Unit) => Sum.elim (fun y => (.exit 0, ⟨[(1, (Pt 0))], [.cells [.d (.list (p1.map (el (D.int .i64))))]]⟩)) (fun y => (.ret, ⟨[(2, (I 20))], []⟩)) r) x) := by
 intro x8 x H
 unfold T_ref23_Check_l1 at H
 refine K_in ?_
 refine K_seq (K_seq (K_r [.n p1.length] [((p1.map (el (D.int .i64)))).length = p1.length] (by kernel_rfl) (A1 (List.length_map _)) ?_))
 rcases ite_some H with ⟨hx9, H⟩ | ⟨hx9, H⟩
 · refine K_t (by kernel_rfl) (decide_eq_true hx9) ?_
   refine K_g (by kernel_rfl) ?_
   refine K_skip ?_
   refine K_seq ?_
   refine K_block ?_
   refine K_seq ?_
   obtain ⟨x10, hx10, H⟩ := bind_some' H
   refine K_r [.l [.list (x10.map (D.int .i64))], .n x10.length] [(0 : Int) ≤ x8.2 ∧ x8.2 < (((p1.map (el (D.int .i64)))).length : Int), ((p1.map (el (D.int .i64))).getD x8.2.toNat (.list [])).cells = [.list (x10.map (D.int .i64))], ((x10.map (D.int .i64))).length = x10.length] (by kernel_rfl) (AC (at_ok hx10 (el (D.int .i64)) (.list [])).1 (AC (at_ok hx10 (el (D.int .i64)) (.list [])).2 (A1 (List.length_map _)))) ?_
   refine K_seq (K_r [] [] (by kernel_rfl) trivial ?_)
   rcases ite_some H with ⟨hx11, H⟩ | ⟨hx11, H⟩
   · refine K_t (by kernel_rfl) (decide_eq_true hx11) ?_
     refine K_seq (K_r [] [] (by kernel_rfl) trivial ?_)
     refine K_g (by kernel_rfl) ?_
     cases H
     exact K_ret (by kernel_rfl)
   · refine K_f (by kernel_rfl) (decide_eq_false hx11) ?_
     refine K_g (by kernel_rfl) ?_
     refine K_skip (K_blk (K_r [] [] (by kernel_rfl) trivial ?_))
     cases H
     exact K_end (by kernel_rfl)
 · refine K_f (by kernel_rfl) (decide_eq_false hx9) ?_
   refine K_g (by kernel_rfl) ?_
   cases H
   exact K_exit0 rfl (by kernel_rfl)
def T_ref23_Check_l2 (k : Nat) (p1 : List (List Int)) (x42 : Int) (x56 : Int) : Option (Int ⊕ (Unit ⊕ Unit)) :=
 ((at? p1 x42).bind fun x57 => (if x56 < (x57.length : Int) then ((at? p1 x42).bind fun x59 => (at? x59 x56).bind fun x60 => ((if (!decide (x60 = 1073741824)) = true then ((T_ref23_Sample k x60).bind fun x63 => some (!(decide ((-1000) ≤ x60) && decide (x60 ≤ 1000)))) else some false)).bind fun x64 => (if x64 = true then some (.inr (.inr ())) else some (.inl (w64 (x56 + 1))))) else some (.inr (.inl ()))))
theorem T_ref23_Check_l2_ok (k : Nat) (p1 : List (List Int)) (x42 : Int) : ∀ (x56 : Int) (x : Int ⊕ (Unit ⊕ Unit)), T_ref23_Check_l2 k p1 x42 x56 = some x → evC X (evF X k) k 0 l_ref23_Check_2 ⟨[(1, (Pt 0)), (5, (I x42)), (6, (I x56))], [.cells [.d (.list (p1.map (el (D.int .i64))))]]⟩ = some (outS (fun (s : Int) => ⟨[(1, (Pt 0)), (5, (I x42)), (6, (I s))], [.cells [.d (.list (p1.map (el (D.int .i64))))]]⟩) (fun (r : Unit ⊕ Unit) => Sum.elim (fun y => (.exit 4, ⟨[(1, (Pt 0)), (5, (I x42))], [.cells [.d (.list (p1.map (el (D.int .i64))))]]⟩)) (fun y => (.ret, ⟨[(2, (I 12))], []⟩)) r) x) := by
 intro x56 x H
 unfold T_ref23_Check_l2 at H
 refine K_in ?_
 refine K_seq ?_
 refine K_seq ?_
 obtain ⟨x57, hx57, H⟩ := bind_some' H
 refine K_r [.l [.list (x57.map (D.int .i64))], .n x57.length] [(0 : Int) ≤ x42 ∧ x42 < (((p1.map (el (D.int .i64)))).length : Int), ((p1.map (el (D.int .i64))).getD x42.toNat (.list [])).cells = [.list (x57.map (D.int .i64))], ((x57.map (D.int .i64))).length = x57.length] (by kernel_rfl) (AC (at_ok hx57 (el (D.int .i64)) (.list [])).1 (AC (at_ok hx57 (el (D.int .i64)) (.list [])).2 (A1 (List.length_map _)))) ?_
 rcases ite_some H with ⟨hx58, H⟩ | ⟨hx58, H⟩
 · refine K_t (by kernel_rfl) (decide_eq_true hx58) ?_
   refine K_g (by kernel_rfl) ?_
   refine K_skip ?_
   refine K_seq ?_
   refine K_block ?_
   refine K_seq ?_
   obtain ⟨x59, hx59, H⟩ := bind_some' H
   obtain ⟨x60, hx60, H⟩ := bind_some' H
   refine K_r [.l [.list (x59.map (D.int .i64))], .l [.int .i64 x60]] [(0 : Int) ≤ x42 ∧ x42 < (((p1.map (el (D.int .i64)))).length : Int), ((p1.map (el (D.int .i64))).getD x42.toNat (.list [])).cells = [.list (x59.map (D.int .i64))], (0 : Int) ≤ x56 ∧ x56 < (((x59.map (D.int .i64))).length : Int), ((x59.map (D.int .i64)).getD x56.toNat (.int .i64 0)).cells = [.int .i64 x60]] (by kernel_rfl) (AC (at_ok hx59 (el (D.int .i64)) (.list [])).1 (AC (at_ok hx59 (el (D.int .i64)) (.list [])).2 (AC (at_ok hx60 (D.int .i64) (.int .i64 0)).1 (A1 (at_ok hx60 (D.int .i64) (.int .i64 0)).2)))) ?_
   refine K_seq ?_
   obtain ⟨x64, hx64, H⟩ := bind_some' H
   refine K_of ⟨[(1, (Pt 0)), (5, (I x42)), (6, (I x56)), (60, (B x64))], [.cells [.d (.list (p1.map (el (D.int .i64))))]]⟩ ?_ ?_
   · clear H; have H := hx64; clear hx64; refine K_in ?_
     rcases ite_some H with ⟨hx62, H⟩ | ⟨hx62, H⟩
     · obtain ⟨x63, hx63, H⟩ := bind_some' H
       refine K_r [.b true, .r (B (decide ((-1000) ≤ x60) && decide (x60 ≤ 1000))) []] [(!decide (x60 = 1073741824)) = true, C_T_ref23_Sample k x60 x63] (by kernel_rfl) (AC hx62 (A1 (T_ref23_Sample_ok k x60 x63 hx63))) ?_
       cases H
       exact K_end (by kernel_rfl)
     · refine K_r [.b false] [(!decide (x60 = 1073741824)) = false] (by kernel_rfl) (A1 (Bool.eq_false_iff.2 hx62)) ?_
       cases H
       exact K_end (by kernel_rfl)
   rcases ite_some H with ⟨hx65, H⟩ | ⟨hx65, H⟩
   · refine K_t (by kernel_rfl) hx65 ?_
     refine K_seq (K_r [] [] (by kernel_rfl) trivial ?_)
     refine K_g (by kernel_rfl) ?_
     cases H
     exact K_ret (by kernel_rfl)
   · refine K_f (by kernel_rfl) (Bool.eq_false_iff.2 hx65) ?_
     refine K_g (by kernel_rfl) ?_
     refine K_skip (K_blk (K_r [] [] (by kernel_rfl) trivial ?_))
     cases H
     exact K_end (by kernel_rfl)
 · refine K_f (by kernel_rfl) (decide_eq_false hx58) ?_
   refine K_g (by kernel_rfl) ?_
   cases H
   exact K_exit0 rfl (by kernel_rfl)
def T_ref23_Check_l3 (k : Nat) (p1 : List (List Int)) (x42 : Int) : Option (Int ⊕ (Unit ⊕ Unit)) :=
 (if x42 < (p1.length : Int) then ((loopT (T_ref23_Check_l2 k p1 x42) k 0).bind fun x66 => (match x66 with | .inl x67 => some (.inl (w64 (x42 + 1))) | .inr x68 => some (.inr (.inr ())))) else some (.inr (.inl ())))
theorem T_ref23_Check_l3_ok (k : Nat) (p1 : List (List Int)) : ∀ (x42 : Int) (x : Int ⊕ (Unit ⊕ Unit)), T_ref23_Check_l3 k p1 x42 = some x → evC X (evF X k) k 0 l_ref23_Check_3 ⟨[(1, (Pt 0)), (5, (I x42))], [.cells [.d (.list (p1.map (el (D.int .i64))))]]⟩ = some (outS (fun (s : Int) => ⟨[(1, (Pt 0)), (5, (I s))], [.cells [.d (.list (p1.map (el (D.int .i64))))]]⟩) (fun (r : Unit ⊕ Unit) => Sum.elim (fun y => (.exit 2, ⟨[], []⟩)) (fun y => (.ret, ⟨[(2, (I 12))], []⟩)) r) x) := by
 intro x42 x H
 unfold T_ref23_Check_l3 at H
 refine K_in ?_
 refine K_seq (K_seq (K_r [.n p1.length] [((p1.map (el (D.int .i64)))).length = p1.length] (by kernel_rfl) (A1 (List.length_map _)) ?_))
 rcases ite_some H with ⟨hx43, H⟩ | ⟨hx43, H⟩
 · refine K_t (by kernel_rfl) (decide_eq_true hx43) ?_
   refine K_g (by kernel_rfl) ?_
   refine K_skip (K_seq (K_block (K_seq (K_r [] [] (by kernel_rfl) trivial ?_))))
   refine K_block (K_conv (σ' := ⟨[(1, (Pt 0)), (5, (I x42)), (6, (I 0))], [.cells [.d (.list (p1.map (el (D.int .i64))))]]⟩) (by kernel_rfl) ?_)
   obtain ⟨x66, hx66, H⟩ := bind_some' H
   cases x66 with
   | inl x67 =>
    dsimp only at H
    refine K_loop ⟨[(1, (Pt 0)), (5, (I x42))], [.cells [.d (.list (p1.map (el (D.int .i64))))]]⟩ (loop_ok (fun (s : Int) => ⟨[(1, (Pt 0)), (5, (I x42)), (6, (I s))], [.cells [.d (.list (p1.map (el (D.int .i64))))]]⟩) (fun (r : Unit ⊕ Unit) => Sum.elim (fun y => (.exit 4, ⟨[(1, (Pt 0)), (5, (I x42))], [.cells [.d (.list (p1.map (el (D.int .i64))))]]⟩)) (fun y => (.ret, ⟨[(2, (I 12))], []⟩)) r) (fun r h => by cases r <;> cases h) (T_ref23_Check_l2_ok k p1 x42) k 0 (.inl x67) hx66) rfl ?_
    refine K_blk (K_r [] [] (by kernel_rfl) trivial ?_)
    cases H
    exact K_end (by kernel_rfl)
   | inr x68 =>
    dsimp only at H
    cases H
    exact K_loopr ⟨[(2, (I 12))], []⟩ (loop_ok (fun (s : Int) => ⟨[(1, (Pt 0)), (5, (I x42)), (6, (I s))], [.cells [.d (.list (p1.map (el (D.int .i64))))]]⟩) (fun (r : Unit ⊕ Unit) => Sum.elim (fun y => (.exit 4, ⟨[(1, (Pt 0)), (5, (I x42))], [.cells [.d (.list (p1.map (el (D.int .i64))))]]⟩)) (fun y => (.ret, ⟨[(2, (I 12))], []⟩)) r) (fun r h => by cases r <;> cases h) (T_ref23_Check_l2_ok k p1 x42) k 0 (.inr x68) hx66) (by kernel_rfl)
 · refine K_f (by kernel_rfl) (decide_eq_false hx43) ?_
   refine K_g (by kernel_rfl) ?_
   cases H
   exact K_exit0 rfl (by kernel_rfl)
def T_ref23_Check (k : Nat) (p1 : List (List Int)) : Option Int := match k with
 | 0 => none
 | k + 1 => (if 16 < (p1.length : Int) then some 20 else ((loopT (T_ref23_Check_l1 k p1) k (0, 0)).bind fun x12 => (match x12 with | .inl x13 => ((loopT (T_ref23_Check_l3 k p1) k 0).bind fun x69 => (match x69 with | .inl x70 => some 0 | .inr x71 => some 12)) | .inr x72 => some 20)))
abbrev C_T_ref23_Check (k : Nat) (p1 : List (List Int)) (r : Int) : Prop := evF X k n_ref23_Check [(.agg [.d (.list (p1.map (el (D.int .i64))))])] [] = some ((I r), [])
theorem T_ref23_Check_ok (k : Nat) (p1 : List (List Int)) (r : Int) : T_ref23_Check k p1 = some r → C_T_ref23_Check k p1 r := by
 intro H
 cases k with
 | zero => simp [T_ref23_Check] at H
 | succ k =>
  simp only [T_ref23_Check] at H
  refine F_in X_ref23_Check rfl ?_
  refine K_seq (K_r [] [] (by kernel_rfl) trivial ?_)
  refine K_seq (K_seq (K_r [.n p1.length] [((p1.map (el (D.int .i64)))).length = p1.length] (by kernel_rfl) (A1 (List.length_map _)) ?_))
  rcases ite_some H with ⟨hx1, H⟩ | ⟨hx1, H⟩
  · refine K_t (by kernel_rfl) (decide_eq_true hx1) ?_
    refine K_seq (K_r [] [] (by kernel_rfl) trivial ?_)
    refine K_g (by kernel_rfl) ?_
    cases H
    refine K_ret ?_
    kernel_rfl
  · refine K_f (by kernel_rfl) (decide_eq_false hx1) ?_
    refine K_g (by kernel_rfl) ?_
    refine K_skip (K_seq (K_r [] [] (by kernel_rfl) trivial ?_))
    refine K_seq (K_seq (K_r [] [] (by kernel_rfl) trivial ?_))
    refine K_block (K_conv (σ' := ⟨[(1, (Pt 0)), (3, (I 0)), (4, (I 0))], [.cells [.d (.list (p1.map (el (D.int .i64))))]]⟩) (by kernel_rfl) ?_)
    obtain ⟨x12, hx12, H⟩ := bind_some' H
    cases x12 with
    | inl x13 =>
     dsimp only at H
     refine K_loop ⟨[(1, (Pt 0))], [.cells [.d (.list (p1.map (el (D.int .i64))))]]⟩ (loop_ok (fun (s : Int × Int) => ⟨[(1, (Pt 0)), (3, (I s.1)), (4, (I s.2))], [.cells [.d (.list (p1.map (el (D.int .i64))))]]⟩) (fun (r : Unit ⊕ Unit) => Sum.elim (fun y => (.exit 0, ⟨[(1, (Pt 0))], [.cells [.d (.list (p1.map (el (D.int .i64))))]]⟩)) (fun y => (.ret, ⟨[(2, (I 20))], []⟩)) r) (fun r h => by cases r <;> cases h) (T_ref23_Check_l1_ok k p1) k (0, 0) (.inl x13) hx12) rfl ?_
     refine K_seq (K_seq (K_r [] [] (by kernel_rfl) trivial ?_))
     refine K_block (K_conv (σ' := ⟨[(1, (Pt 0)), (5, (I 0))], [.cells [.d (.list (p1.map (el (D.int .i64))))]]⟩) (by kernel_rfl) ?_)
     obtain ⟨x69, hx69, H⟩ := bind_some' H
     cases x69 with
     | inl x70 =>
      dsimp only at H
      refine K_loop ⟨[], []⟩ (loop_ok (fun (s : Int) => ⟨[(1, (Pt 0)), (5, (I s))], [.cells [.d (.list (p1.map (el (D.int .i64))))]]⟩) (fun (r : Unit ⊕ Unit) => Sum.elim (fun y => (.exit 2, ⟨[], []⟩)) (fun y => (.ret, ⟨[(2, (I 12))], []⟩)) r) (fun r h => by cases r <;> cases h) (T_ref23_Check_l3_ok k p1) k 0 (.inl x70) hx69) rfl ?_
      refine K_seq (K_r [] [] (by kernel_rfl) trivial ?_)
      refine K_g (by kernel_rfl) ?_
      cases H
      refine K_ret ?_
      kernel_rfl
     | inr x71 =>
      dsimp only at H
      cases H
      refine K_loopr ⟨[(2, (I 12))], []⟩ (loop_ok (fun (s : Int) => ⟨[(1, (Pt 0)), (5, (I s))], [.cells [.d (.list (p1.map (el (D.int .i64))))]]⟩) (fun (r : Unit ⊕ Unit) => Sum.elim (fun y => (.exit 2, ⟨[], []⟩)) (fun y => (.ret, ⟨[(2, (I 12))], []⟩)) r) (fun r h => by cases r <;> cases h) (T_ref23_Check_l3_ok k p1) k 0 (.inr x71) hx69) ?_
      kernel_rfl
    | inr x72 =>
     dsimp only at H
     cases H
     refine K_loopr ⟨[(2, (I 20))], []⟩ (loop_ok (fun (s : Int × Int) => ⟨[(1, (Pt 0)), (3, (I s.1)), (4, (I s.2))], [.cells [.d (.list (p1.map (el (D.int .i64))))]]⟩) (fun (r : Unit ⊕ Unit) => Sum.elim (fun y => (.exit 0, ⟨[(1, (Pt 0))], [.cells [.d (.list (p1.map (el (D.int .i64))))]]⟩)) (fun y => (.ret, ⟨[(2, (I 20))], []⟩)) r) (fun r h => by cases r <;> cases h) (T_ref23_Check_l1_ok k p1) k (0, 0) (.inr x72) hx12) ?_
     kernel_rfl
def T_ref23_whole_l1 (k : Nat) (p1 : List Int) (p2 : Int) (p3 : Int) (x9 : Int) : Option (Int ⊕ (Unit ⊕ Unit)) :=
 (if x9 < p3 then ((at? p1 (w64 (p2 + x9))).bind fun x11 => (if x11 = 1073741824 then some (.inr (.inr ())) else some (.inl (w64 (x9 + 1))))) else some (.inr (.inl ())))
theorem T_ref23_whole_l1_ok (k : Nat) (p1 : List Int) (p2 : Int) (p3 : Int) : ∀ (x9 : Int) (x : Int ⊕ (Unit ⊕ Unit)), T_ref23_whole_l1 k p1 p2 p3 x9 = some x → evC X (evF X k) k 0 l_ref23_whole_1 ⟨[(0, (LI p1)), (1, (I p2)), (2, (I p3)), (7, (I x9))], []⟩ = some (outS (fun (s : Int) => ⟨[(0, (LI p1)), (1, (I p2)), (2, (I p3)), (7, (I s))], []⟩) (fun (r : Unit ⊕ Unit) => Sum.elim (fun y => (.exit 0, ⟨[], []⟩)) (fun y => (.ret, ⟨[(6, (B false))], []⟩)) r) x) := by
 intro x9 x H
 unfold T_ref23_whole_l1 at H
 refine K_in ?_
 refine K_seq (K_seq (K_r [] [] (by kernel_rfl) trivial ?_))
 rcases ite_some H with ⟨hx10, H⟩ | ⟨hx10, H⟩
 · refine K_t (by kernel_rfl) (decide_eq_true hx10) ?_
   refine K_g (by kernel_rfl) ?_
   refine K_skip ?_
   refine K_seq ?_
   refine K_block ?_
   refine K_seq ?_
   obtain ⟨x11, hx11, H⟩ := bind_some' H
   refine K_r [.l [.int .i64 x11]] [(0 : Int) ≤ (w64 (p2 + x9)) ∧ (w64 (p2 + x9)) < (((p1.map (D.int .i64))).length : Int), ((p1.map (D.int .i64)).getD (w64 (p2 + x9)).toNat (.int .i64 0)).cells = [.int .i64 x11]] (by kernel_rfl) (AC (at_ok hx11 (D.int .i64) (.int .i64 0)).1 (A1 (at_ok hx11 (D.int .i64) (.int .i64 0)).2)) ?_
   rcases ite_some H with ⟨hx12, H⟩ | ⟨hx12, H⟩
   · refine K_t (by kernel_rfl) (decide_eq_true hx12) ?_
     refine K_seq (K_r [] [] (by kernel_rfl) trivial ?_)
     refine K_g (by kernel_rfl) ?_
     cases H
     exact K_ret (by kernel_rfl)
   · refine K_f (by kernel_rfl) (decide_eq_false hx12) ?_
     refine K_g (by kernel_rfl) ?_
     refine K_skip (K_blk (K_r [] [] (by kernel_rfl) trivial ?_))
     cases H
     exact K_end (by kernel_rfl)
 · refine K_f (by kernel_rfl) (decide_eq_false hx10) ?_
   refine K_g (by kernel_rfl) ?_
   cases H
   exact K_exit0 rfl (by kernel_rfl)
def T_ref23_whole (k : Nat) (p1 : List Int) (p2 : Int) (p3 : Int) : Option Bool := match k with
 | 0 => none
 | k + 1 => (if (decide (p2 < 0) || decide ((w64 ((p1.length : Int) - p3)) < p2)) = true then some false else ((loopT (T_ref23_whole_l1 k p1 p2 p3) k 0).bind fun x13 => (match x13 with | .inl x14 => some true | .inr x15 => some false)))
abbrev C_T_ref23_whole (k : Nat) (p1 : List Int) (p2 : Int) (p3 : Int) (r : Bool) : Prop := evF X k n_ref23_whole [(LI p1), (I p2), (I p3)] [] = some ((B r), [])
theorem T_ref23_whole_ok (k : Nat) (p1 : List Int) (p2 : Int) (p3 : Int) (r : Bool) : T_ref23_whole k p1 p2 p3 = some r → C_T_ref23_whole k p1 p2 p3 r := by
 intro H
 cases k with
 | zero => simp [T_ref23_whole] at H
 | succ k =>
  simp only [T_ref23_whole] at H
  refine F_in X_ref23_whole rfl ?_
  refine K_seq (K_r [] [] (by kernel_rfl) trivial ?_)
  refine K_seq (K_seq (K_r [.m, .n p1.length] [decide (p2 < 0) = false → AllT [((p1.map (D.int .i64))).length = p1.length], ([] : Heap) = []] (by kernel_rfl) (AC (fun _ => (A1 (List.length_map _))) (A1 rfl)) ?_))
  rcases ite_some H with ⟨hx1, H⟩ | ⟨hx1, H⟩
  · refine K_t (by kernel_rfl) hx1 ?_
    refine K_seq (K_r [] [] (by kernel_rfl) trivial ?_)
    refine K_g (by kernel_rfl) ?_
    cases H
    refine K_ret ?_
    kernel_rfl
  · refine K_f (by kernel_rfl) (Bool.eq_false_iff.2 hx1) ?_
    refine K_g (by kernel_rfl) ?_
    refine K_skip (K_seq (K_seq (K_r [] [] (by kernel_rfl) trivial ?_)))
    refine K_block (K_conv (σ' := ⟨[(0, (LI p1)), (1, (I p2)), (2, (I p3)), (7, (I 0))], []⟩) (by kernel_rfl) ?_)
    obtain ⟨x13, hx13, H⟩ := bind_some' H
    cases x13 with
    | inl x14 =>
     dsimp only at H
     refine K_loop ⟨[], []⟩ (loop_ok (fun (s : Int) => ⟨[(0, (LI p1)), (1, (I p2)), (2, (I p3)), (7, (I s))], []⟩) (fun (r : Unit ⊕ Unit) => Sum.elim (fun y => (.exit 0, ⟨[], []⟩)) (fun y => (.ret, ⟨[(6, (B false))], []⟩)) r) (fun r h => by cases r <;> cases h) (T_ref23_whole_l1_ok k p1 p2 p3) k 0 (.inl x14) hx13) rfl ?_
     refine K_seq (K_r [] [] (by kernel_rfl) trivial ?_)
     refine K_g (by kernel_rfl) ?_
     cases H
     refine K_ret ?_
     kernel_rfl
    | inr x15 =>
     dsimp only at H
     cases H
     refine K_loopr ⟨[(6, (B false))], []⟩ (loop_ok (fun (s : Int) => ⟨[(0, (LI p1)), (1, (I p2)), (2, (I p3)), (7, (I s))], []⟩) (fun (r : Unit ⊕ Unit) => Sum.elim (fun y => (.exit 0, ⟨[], []⟩)) (fun y => (.ret, ⟨[(6, (B false))], []⟩)) r) (fun r h => by cases r <;> cases h) (T_ref23_whole_l1_ok k p1 p2 p3) k 0 (.inr x15) hx13) ?_
     kernel_rfl
def T_ref23_Places_l1 (k : Nat) (p1 : List (List Int)) (p2 : Int) (x36 : Int) (x47 : Nat × Int × (List (Int × Int))) : Option ((Nat × Int × (List (Int × Int))) ⊕ ((Nat × (List (Int × Int))))) :=
 ((at? p1 x36).bind fun x48 => (if x47.2.1 < (x48.length : Int) then ((at? p1 x36).bind fun x50 => (T_ref23_whole k x50 x47.2.1 p2).bind fun x51 => ((if x51 = true then (if x47.1 + 1 ≤ LIM then some ((x47.1 + 1), ((x47.2.2.drop 0).take x47.1 ++ ([(x36, x47.2.1)] : List (Int × Int)))) else none) else some (x47.1, x47.2.2))).bind fun x54 => some (.inl (x54.1, (w64 (x47.2.1 + 1)), x54.2))) else some (.inr (x47.1, x47.2.2))))
theorem T_ref23_Places_l1_ok (k : Nat) (p1 : List (List Int)) (p2 : Int) (x36 : Int) : ∀ (x47 : Nat × Int × (List (Int × Int))) (x : (Nat × Int × (List (Int × Int))) ⊕ ((Nat × (List (Int × Int))))), T_ref23_Places_l1 k p1 p2 x36 x47 = some x → evC X (evF X k) k 0 l_ref23_Places_1 ⟨[(1, (I p2)), (2, (Pt 0)), (7, (.one (.own 1 0 x47.1))), (8, (I x36)), (9, (I x47.2.1))], [.cells [.d (.list (p1.map (el (D.int .i64))))], .vals (.agg [(.int .i64 0), (.int .i64 0)]) (x47.2.2.map e_st0)]⟩ = some (outS (fun (s : Nat × Int × (List (Int × Int))) => ⟨[(1, (I p2)), (2, (Pt 0)), (7, (.one (.own 1 0 s.1))), (8, (I x36)), (9, (I s.2.1))], [.cells [.d (.list (p1.map (el (D.int .i64))))], .vals (.agg [(.int .i64 0), (.int .i64 0)]) (s.2.2.map e_st0)]⟩) (fun (r : (Nat × (List (Int × Int)))) => (.exit 2, ⟨[(1, (I p2)), (2, (Pt 0)), (7, (.one (.own 1 0 r.1))), (8, (I x36))], [.cells [.d (.list (p1.map (el (D.int .i64))))], .vals (.agg [(.int .i64 0), (.int .i64 0)]) (r.2.map e_st0)]⟩)) x) := by
 intro x47 x H
 unfold T_ref23_Places_l1 at H
 refine K_in ?_
 refine K_seq ?_
 refine K_seq ?_
 obtain ⟨x48, hx48, H⟩ := bind_some' H
 refine K_r [.l [.list (x48.map (D.int .i64))], .n x48.length] [(0 : Int) ≤ x36 ∧ x36 < (((p1.map (el (D.int .i64)))).length : Int), ((p1.map (el (D.int .i64))).getD x36.toNat (.list [])).cells = [.list (x48.map (D.int .i64))], ((x48.map (D.int .i64))).length = x48.length] (by kernel_rfl) (AC (at_ok hx48 (el (D.int .i64)) (.list [])).1 (AC (at_ok hx48 (el (D.int .i64)) (.list [])).2 (A1 (List.length_map _)))) ?_
 rcases ite_some H with ⟨hx49, H⟩ | ⟨hx49, H⟩
 · refine K_t (by kernel_rfl) (decide_eq_true hx49) ?_
   refine K_g (by kernel_rfl) ?_
   refine K_skip ?_
   refine K_seq ?_
   refine K_block ?_
   refine K_seq ?_
   obtain ⟨x50, hx50, H⟩ := bind_some' H
   obtain ⟨x51, hx51, H⟩ := bind_some' H
   refine K_r [.l [.list (x50.map (D.int .i64))], .r (B x51) []] [(0 : Int) ≤ x36 ∧ x36 < (((p1.map (el (D.int .i64)))).length : Int), ((p1.map (el (D.int .i64))).getD x36.toNat (.list [])).cells = [.list (x50.map (D.int .i64))], C_T_ref23_whole k x50 x47.2.1 p2 x51] (by kernel_rfl) (AC (at_ok hx50 (el (D.int .i64)) (.list [])).1 (AC (at_ok hx50 (el (D.int .i64)) (.list [])).2 (A1 (T_ref23_whole_ok k x50 x47.2.1 p2 x51 hx51)))) ?_
   obtain ⟨x54, hx54, H⟩ := bind_some' H
   refine K_of ⟨[(1, (I p2)), (2, (Pt 0)), (7, (.one (.own 1 0 x54.1))), (8, (I x36)), (9, (I x47.2.1))], [.cells [.d (.list (p1.map (el (D.int .i64))))], .vals (.agg [(.int .i64 0), (.int .i64 0)]) (x54.2.map e_st0)]⟩ ?_ ?_
   · clear H; have H := hx54; clear hx54; refine K_in ?_
     rcases ite_some H with ⟨hx52, H⟩ | ⟨hx52, H⟩
     · refine K_t (by kernel_rfl) hx52 ?_
       obtain ⟨hx53, H⟩ := guard_some H
       refine K_r [.n 1, .l (((x47.2.2.drop 0).take x47.1 ++ ([(x36, x47.2.1)] : List (Int × Int))).map e_st0)] [(List.all (([(x36, x47.2.1)] : List (Int × Int)).map e_st0) fun d => d.cells.length == (D.cells (.agg [(.int .i64 0), (.int .i64 0)])).length) = true, x47.1 + 1 ≤ LIM, (([(x36, x47.2.1)] : List (Int × Int)).map e_st0).length = 1, ((x47.2.2.map e_st0).drop 0).take x47.1 ++ (([(x36, x47.2.1)] : List (Int × Int)).map e_st0) = ((x47.2.2.drop 0).take x47.1 ++ ([(x36, x47.2.1)] : List (Int × Int))).map e_st0] (by kernel_rfl) (AC (all_ok e_st0 2 ([(x36, x47.2.1)] : List (Int × Int)) (fun _ => rfl)) (AC hx53 (AC (by simp) (A1 (ap_map e_st0 x47.2.2 ([(x36, x47.2.1)] : List (Int × Int)) 0 x47.1))))) ?_
       cases H
       exact K_end (by kernel_rfl)
     · refine K_f (by kernel_rfl) (Bool.eq_false_iff.2 hx52) ?_
       refine K_g (by kernel_rfl) ?_
       refine K_skip ?_
       cases H
       exact K_end (by kernel_rfl)
   refine K_blk (K_r [] [] (by kernel_rfl) trivial ?_)
   cases H
   exact K_end (by kernel_rfl)
 · refine K_f (by kernel_rfl) (decide_eq_false hx49) ?_
   refine K_g (by kernel_rfl) ?_
   cases H
   exact K_exit0 rfl (by kernel_rfl)
def T_ref23_Places_l2 (k : Nat) (p1 : List (List Int)) (p2 : Int) (x32 : Nat × Int × (List (Int × Int))) : Option ((Nat × Int × (List (Int × Int))) ⊕ ((Nat × (List (Int × Int))))) :=
 (if x32.2.1 < (p1.length : Int) then ((loopT (T_ref23_Places_l1 k p1 p2 x32.2.1) k (x32.1, 0, x32.2.2)).bind fun x55 => some (.inl (x55.1, (w64 (x32.2.1 + 1)), x55.2))) else some (.inr (x32.1, x32.2.2)))
theorem T_ref23_Places_l2_ok (k : Nat) (p1 : List (List Int)) (p2 : Int) : ∀ (x32 : Nat × Int × (List (Int × Int))) (x : (Nat × Int × (List (Int × Int))) ⊕ ((Nat × (List (Int × Int))))), T_ref23_Places_l2 k p1 p2 x32 = some x → evC X (evF X k) k 0 l_ref23_Places_2 ⟨[(1, (I p2)), (2, (Pt 0)), (7, (.one (.own 1 0 x32.1))), (8, (I x32.2.1))], [.cells [.d (.list (p1.map (el (D.int .i64))))], .vals (.agg [(.int .i64 0), (.int .i64 0)]) (x32.2.2.map e_st0)]⟩ = some (outS (fun (s : Nat × Int × (List (Int × Int))) => ⟨[(1, (I p2)), (2, (Pt 0)), (7, (.one (.own 1 0 s.1))), (8, (I s.2.1))], [.cells [.d (.list (p1.map (el (D.int .i64))))], .vals (.agg [(.int .i64 0), (.int .i64 0)]) (s.2.2.map e_st0)]⟩) (fun (r : (Nat × (List (Int × Int)))) => (.exit 0, ⟨[(7, (.one (.own 0 0 r.1)))], [.vals (.agg [(.int .i64 0), (.int .i64 0)]) (r.2.map e_st0)]⟩)) x) := by
 intro x32 x H
 unfold T_ref23_Places_l2 at H
 refine K_in ?_
 refine K_seq (K_seq (K_r [.n p1.length] [((p1.map (el (D.int .i64)))).length = p1.length] (by kernel_rfl) (A1 (List.length_map _)) ?_))
 rcases ite_some H with ⟨hx33, H⟩ | ⟨hx33, H⟩
 · refine K_t (by kernel_rfl) (decide_eq_true hx33) ?_
   refine K_g (by kernel_rfl) ?_
   refine K_skip (K_seq (K_block (K_seq (K_r [] [] (by kernel_rfl) trivial ?_))))
   refine K_block (K_conv (σ' := ⟨[(1, (I p2)), (2, (Pt 0)), (7, (.one (.own 1 0 x32.1))), (8, (I x32.2.1)), (9, (I 0))], [.cells [.d (.list (p1.map (el (D.int .i64))))], .vals (.agg [(.int .i64 0), (.int .i64 0)]) (x32.2.2.map e_st0)]⟩) (by kernel_rfl) ?_)
   obtain ⟨x55, hx55, H⟩ := bind_some' H
   refine K_loop ⟨[(1, (I p2)), (2, (Pt 0)), (7, (.one (.own 1 0 x55.1))), (8, (I x32.2.1))], [.cells [.d (.list (p1.map (el (D.int .i64))))], .vals (.agg [(.int .i64 0), (.int .i64 0)]) (x55.2.map e_st0)]⟩ (loop_ok (fun (s : Nat × Int × (List (Int × Int))) => ⟨[(1, (I p2)), (2, (Pt 0)), (7, (.one (.own 1 0 s.1))), (8, (I x32.2.1)), (9, (I s.2.1))], [.cells [.d (.list (p1.map (el (D.int .i64))))], .vals (.agg [(.int .i64 0), (.int .i64 0)]) (s.2.2.map e_st0)]⟩) (fun (r : (Nat × (List (Int × Int)))) => (.exit 2, ⟨[(1, (I p2)), (2, (Pt 0)), (7, (.one (.own 1 0 r.1))), (8, (I x32.2.1))], [.cells [.d (.list (p1.map (el (D.int .i64))))], .vals (.agg [(.int .i64 0), (.int .i64 0)]) (r.2.map e_st0)]⟩)) (fun r h => by cases h) (T_ref23_Places_l1_ok k p1 p2 x32.2.1) k (x32.1, 0, x32.2.2) x55 hx55) rfl ?_
   refine K_blk (K_r [] [] (by kernel_rfl) trivial ?_)
   cases H
   exact K_end (by kernel_rfl)
 · refine K_f (by kernel_rfl) (decide_eq_false hx33) ?_
   refine K_g (by kernel_rfl) ?_
   cases H
   exact K_exit0 rfl (by kernel_rfl)
def T_ref23_Places (k : Nat) (p1 : List (List Int)) (p2 : Int) : Option ((List (Int × Int)) × Int) := match k with
 | 0 => none
 | k + 1 => ((T_ref23_Check k p1).bind fun x1 => (if (!decide (x1 = 0)) = true then some ([], x1) else (if (decide (p2 < 2) || decide (32 < p2)) = true then some ([], 8) else ((loopT (T_ref23_Places_l2 k p1 p2) k (0, 0, [])).bind fun x56 => some (((x56.2.drop 0).take x56.1), 0)))))
abbrev C_T_ref23_Places (k : Nat) (p1 : List (List Int)) (p2 : Int) (r : (List (Int × Int)) × Int) : Prop := evF X k n_ref23_Places [(.agg [.d (.list (p1.map (el (D.int .i64))))]), (I p2)] [] = some ((.tup [(false, [.d (.list (r.1.map e_st0))]), (false, [cI r.2])]), [])
theorem T_ref23_Places_ok (k : Nat) (p1 : List (List Int)) (p2 : Int) (r : (List (Int × Int)) × Int) : T_ref23_Places k p1 p2 = some r → C_T_ref23_Places k p1 p2 r := by
 intro H
 cases k with
 | zero => simp [T_ref23_Places] at H
 | succ k =>
  simp only [T_ref23_Places] at H
  refine F_in X_ref23_Places rfl ?_
  refine K_seq (K_r [] [] (by kernel_rfl) trivial ?_)
  refine K_seq ?_
  refine K_seq ?_
  obtain ⟨x1, hx1, H⟩ := bind_some' H
  refine K_r [.r (I x1) []] [C_T_ref23_Check k p1 x1] (by kernel_rfl) (A1 (T_ref23_Check_ok k p1 x1 hx1)) ?_
  refine K_seq (K_r [] [] (by kernel_rfl) trivial ?_)
  rcases ite_some H with ⟨hx2, H⟩ | ⟨hx2, H⟩
  · refine K_t (by kernel_rfl) hx2 ?_
    refine K_seq (K_r [] [] (by kernel_rfl) trivial ?_)
    refine K_g (by kernel_rfl) ?_
    cases H
    refine K_ret ?_
    kernel_rfl
  · refine K_f (by kernel_rfl) (Bool.eq_false_iff.2 hx2) ?_
    refine K_g (by kernel_rfl) ?_
    refine K_skip (K_seq (K_seq (K_r [.m] ((fun (z1 : Heap) => [z1 = z1]) [.cells [.d (.list (p1.map (el (D.int .i64))))]]) (by kernel_rfl) (A1 rfl) ?_)))
    rcases ite_some H with ⟨hx3, H⟩ | ⟨hx3, H⟩
    · refine K_t (by kernel_rfl) hx3 ?_
      refine K_seq (K_r [] [] (by kernel_rfl) trivial ?_)
      refine K_g (by kernel_rfl) ?_
      cases H
      refine K_ret ?_
      kernel_rfl
    · refine K_f (by kernel_rfl) (Bool.eq_false_iff.2 hx3) ?_
      refine K_g (by kernel_rfl) ?_
      refine K_skip (K_seq (K_r [] [] (by kernel_rfl) trivial ?_))
      refine K_seq (K_seq (K_r [] [] (by kernel_rfl) trivial ?_))
      refine K_block (K_g (by kernel_rfl) ?_)
      refine K_conv (σ' := ⟨[(1, (I p2)), (2, (Pt 0)), (7, (.one (.own 1 0 0))), (8, (I 0))], [.cells [.d (.list (p1.map (el (D.int .i64))))], .vals (.agg [(.int .i64 0), (.int .i64 0)]) ([].map e_st0)]⟩) (by kernel_rfl) ?_
      obtain ⟨x56, hx56, H⟩ := bind_some' H
      refine K_loop ⟨[(7, (.one (.own 0 0 x56.1)))], [.vals (.agg [(.int .i64 0), (.int .i64 0)]) (x56.2.map e_st0)]⟩ (loop_ok (fun (s : Nat × Int × (List (Int × Int))) => ⟨[(1, (I p2)), (2, (Pt 0)), (7, (.one (.own 1 0 s.1))), (8, (I s.2.1))], [.cells [.d (.list (p1.map (el (D.int .i64))))], .vals (.agg [(.int .i64 0), (.int .i64 0)]) (s.2.2.map e_st0)]⟩) (fun (r : (Nat × (List (Int × Int)))) => (.exit 0, ⟨[(7, (.one (.own 0 0 r.1)))], [.vals (.agg [(.int .i64 0), (.int .i64 0)]) (r.2.map e_st0)]⟩)) (fun r h => by cases h) (T_ref23_Places_l2_ok k p1 p2) k (0, 0, []) x56 hx56) rfl ?_
      refine K_seq (K_r [] [] (by kernel_rfl) trivial ?_)
      refine K_g (by kernel_rfl) ?_
      cases H
      refine K_ret ?_
      exact Eq.trans (b := some ((.tup [(false, [.d (.list (((x56.2.map e_st0).drop 0).take x56.1))]), (false, [cI 0])]), [])) (by kernel_rfl) (by simp only [dt_map, LI, VI])
def T_slices_Clone_b354 (k : Nat) (p1 : List Int) : Option Unit := match k with
 | 0 => none
 | k + 1 => (if 0 < p1.length then (if 0 + p1.length ≤ LIM then some () else none) else none)
abbrev C_T_slices_Clone_b354 (k : Nat) (p1 : List Int) (r : Unit) : Prop := evF X k n_slices_Clone_b354 [(LI p1)] [] = some ((LI ((((([] : List Int).drop 0).take 0 ++ p1).drop 0).take (0 + p1.length))), [])
theorem T_slices_Clone_b354_ok (k : Nat) (p1 : List Int) (r : Unit) : T_slices_Clone_b354 k p1 = some r → C_T_slices_Clone_b354 k p1 r := by
 intro H
 cases k with
 | zero => simp [T_slices_Clone_b354] at H
 | succ k =>
  simp only [T_slices_Clone_b354] at H
  refine F_in X_slices_Clone_b354 rfl ?_
  refine K_seq (K_r [] [] (by kernel_rfl) trivial ?_)
  refine K_seq ?_
  refine K_seq ?_
  obtain ⟨hx1, H⟩ := guard_some H
  refine K_r [] [0 < ((p1.map (D.int .i64))).length] (by kernel_rfl) (A1 (by simpa using hx1)) ?_
  refine K_f (by kernel_rfl) rfl ?_
  refine K_g (by kernel_rfl) ?_
  refine K_skip ?_
  refine K_seq ?_
  obtain ⟨hx2, H⟩ := guard_some H
  refine K_r [.n p1.length, .l (((([] : List Int).drop 0).take 0 ++ p1).map (D.int .i64))] [(List.all (p1.map (D.int .i64)) fun d => d.cells.length == (D.cells (.int .i64 0)).length) = true, 0 + p1.length ≤ LIM, (p1.map (D.int .i64)).length = p1.length, ((([] : List Int).map (D.int .i64)).drop 0).take 0 ++ (p1.map (D.int .i64)) = ((([] : List Int).drop 0).take 0 ++ p1).map (D.int .i64)] (by kernel_rfl) (AC (all_ok (D.int .i64) 1 p1 (fun _ => rfl)) (AC hx2 (AC (by simp) (A1 (ap_map (D.int .i64) ([] : List Int) p1 0 0))))) ?_
  refine K_g (by kernel_rfl) ?_
  cases H
  refine K_ret ?_
  exact Eq.trans (b := some ((.one (.d (.list (((((([] : List Int).drop 0).take 0 ++ p1).map (D.int .i64)).drop 0).take (0 + p1.length))))), [])) (by kernel_rfl) (by simp only [dt_map, LI, VI])
def T_slices_Index_b354_l1 (k : Nat) (p1 : List Int) (p2 : Int) (x3 : Int) (x8 : Int) : Option (Int ⊕ (Unit ⊕ Int)) :=
 (if x8 < x3 then ((at? p1 x8).bind fun x10 => (if p2 = x10 then some (.inr (.inr x8)) else some (.inl (w64 (x8 + 1))))) else some (.inr (.inl ())))
theorem T_slices_Index_b354_l1_ok (k : Nat) (p1 : List Int) (p2 : Int) (x3 : Int) : ∀ (x8 : Int) (x : Int ⊕ (Unit ⊕ Int)), T_slices_Index_b354_l1 k p1 p2 x3 x8 = some x → evC X (evF X k) k 0 l_slices_Index_b354_1 ⟨[(0, (LI p1)), (1, (I p2)), (7, (I x3)), (8, (I x8))], []⟩ = some (outS (fun (s : Int) => ⟨[(0, (LI p1)), (1, (I p2)), (7, (I x3)), (8, (I s))], []⟩) (fun (r : Unit ⊕ Int) => Sum.elim (fun y => (.exit 0, ⟨[], []⟩)) (fun y => (.ret, ⟨[(4, (I y))], []⟩)) r) x) := by
 intro x8 x H
 unfold T_slices_Index_b354_l1 at H
 refine K_in ?_
 refine K_seq (K_r [] [] (by kernel_rfl) trivial ?_)
 refine K_seq ?_
 rcases ite_some H with ⟨hx9, H⟩ | ⟨hx9, H⟩
 · refine K_t (by kernel_rfl) (decide_eq_true hx9) ?_
   refine K_g (by kernel_rfl) ?_
   refine K_skip (K_seq (K_block (K_seq (K_r [] [] (by kernel_rfl) trivial ?_))))
   refine K_seq ?_
   obtain ⟨x10, hx10, H⟩ := bind_some' H
   refine K_r [.l [.int .i64 x10]] [(0 : Int) ≤ x8 ∧ x8 < (((p1.map (D.int .i64))).length : Int), ((p1.map (D.int .i64)).getD x8.toNat (.int .i64 0)).cells = [.int .i64 x10]] (by kernel_rfl) (AC (at_ok hx10 (D.int .i64) (.int .i64 0)).1 (A1 (at_ok hx10 (D.int .i64) (.int .i64 0)).2)) ?_
   rcases ite_some H with ⟨hx11, H⟩ | ⟨hx11, H⟩
   · refine K_t (by kernel_rfl) (decide_eq_true hx11) ?_
     refine K_seq (K_r [] [] (by kernel_rfl) trivial ?_)
     refine K_g (by kernel_rfl) ?_
     cases H
     exact K_ret (by kernel_rfl)
   · refine K_f (by kernel_rfl) (decide_eq_false hx11) ?_
     refine K_g (by kernel_rfl) ?_
     refine K_skip (K_blk (K_r [] [] (by kernel_rfl) trivial ?_))
     cases H
     exact K_end (by kernel_rfl)
 · refine K_f (by kernel_rfl) (decide_eq_false hx9) ?_
   refine K_g (by kernel_rfl) ?_
   cases H
   exact K_exit0 rfl (by kernel_rfl)
def T_slices_Index_b354 (k : Nat) (p1 : List Int) (p2 : Int) : Option Int := match k with
 | 0 => none
 | k + 1 => ((loopT (T_slices_Index_b354_l1 k p1 p2 (p1.length : Int)) k 0).bind fun x12 => (match x12 with | .inl x13 => some (-1) | .inr x14 => some x14))
abbrev C_T_slices_Index_b354 (k : Nat) (p1 : List Int) (p2 : Int) (r : Int) : Prop := evF X k n_slices_Index_b354 [(LI p1), (I p2)] [] = some ((I r), [])
theorem T_slices_Index_b354_ok (k : Nat) (p1 : List Int) (p2 : Int) (r : Int) : T_slices_Index_b354 k p1 p2 = some r → C_T_slices_Index_b354 k p1 p2 r := by
 intro H
 cases k with
 | zero => simp [T_slices_Index_b354] at H
 | succ k =>
  simp only [T_slices_Index_b354] at H
  refine F_in X_slices_Index_b354 rfl ?_
  refine K_seq (K_r [] [] (by kernel_rfl) trivial ?_)
  refine K_seq (K_seq (K_r [.n p1.length] [((p1.map (D.int .i64))).length = p1.length] (by kernel_rfl) (A1 (List.length_map _)) ?_))
  refine K_block (K_conv (σ' := ⟨[(0, (LI p1)), (1, (I p2)), (7, (I (p1.length : Int))), (8, (I 0))], []⟩) (by kernel_rfl) ?_)
  obtain ⟨x12, hx12, H⟩ := bind_some' H
  cases x12 with
  | inl x13 =>
   dsimp only at H
   refine K_loop ⟨[], []⟩ (loop_ok (fun (s : Int) => ⟨[(0, (LI p1)), (1, (I p2)), (7, (I (p1.length : Int))), (8, (I s))], []⟩) (fun (r : Unit ⊕ Int) => Sum.elim (fun y => (.exit 0, ⟨[], []⟩)) (fun y => (.ret, ⟨[(4, (I y))], []⟩)) r) (fun r h => by cases r <;> cases h) (T_slices_Index_b354_l1_ok k p1 p2 (p1.length : Int)) k 0 (.inl x13) hx12) rfl ?_
   refine K_seq (K_r [] [] (by kernel_rfl) trivial ?_)
   refine K_g (by kernel_rfl) ?_
   cases H
   refine K_ret ?_
   kernel_rfl
  | inr x14 =>
   dsimp only at H
   have H := Option.some.inj H; subst H
   refine K_loopr ⟨[(4, (I x14))], []⟩ (loop_ok (fun (s : Int) => ⟨[(0, (LI p1)), (1, (I p2)), (7, (I (p1.length : Int))), (8, (I s))], []⟩) (fun (r : Unit ⊕ Int) => Sum.elim (fun y => (.exit 0, ⟨[], []⟩)) (fun y => (.ret, ⟨[(4, (I y))], []⟩)) r) (fun r h => by cases r <;> cases h) (T_slices_Index_b354_l1_ok k p1 p2 (p1.length : Int)) k 0 (.inr x14) hx12) ?_
   kernel_rfl
def T_slices_Contains_b354 (k : Nat) (p1 : List Int) (p2 : Int) : Option Bool := match k with
 | 0 => none
 | k + 1 => ((T_slices_Index_b354 k p1 p2).bind fun x1 => some (decide (0 ≤ x1)))
abbrev C_T_slices_Contains_b354 (k : Nat) (p1 : List Int) (p2 : Int) (r : Bool) : Prop := evF X k n_slices_Contains_b354 [(LI p1), (I p2)] [] = some ((B r), [])
theorem T_slices_Contains_b354_ok (k : Nat) (p1 : List Int) (p2 : Int) (r : Bool) : T_slices_Contains_b354 k p1 p2 = some r → C_T_slices_Contains_b354 k p1 p2 r := by
 intro H
 cases k with
 | zero => simp [T_slices_Contains_b354] at H
 | succ k =>
  simp only [T_slices_Contains_b354] at H
  refine F_in X_slices_Contains_b354 rfl ?_
  refine K_seq (K_r [] [] (by kernel_rfl) trivial ?_)
  refine K_seq ?_
  obtain ⟨x1, hx1, H⟩ := bind_some' H
  refine K_r [.r (I x1) []] [C_T_slices_Index_b354 k p1 p2 x1] (by kernel_rfl) (A1 (T_slices_Index_b354_ok k p1 p2 x1 hx1)) ?_
  refine K_g (by kernel_rfl) ?_
  cases H
  refine K_ret ?_
  kernel_rfl
def T_store_Window (k : Nat) (p1 : List (List Int)) (p2 : Int) (p3 : Int) (p4 : Int) : Option ((List Int) × Int) := match k with
 | 0 => none
 | k + 1 => ((T_store_check k p1 p4).bind fun x1 => (if (!decide (x1 = 0)) = true then some ([], x1) else (((if ((decide (p2 < 0) || decide ((p1.length : Int) ≤ p2)) || decide (p3 < 0)) = true then some true else ((at? p1 p2).bind fun x5 => some (decide ((w64 ((x5.length : Int) - p4)) < p3))))).bind fun x6 => (if x6 = true then some ([], 21) else (at? p1 p2).bind fun x8 => (if (0 : Int) ≤ p3 ∧ p3 ≤ (w64 (p3 + p4)) ∧ (w64 (p3 + p4)) ≤ (x8.length : Int) ∧ (x8.length : Int) ≤ (x8.length : Int) then (T_slices_Clone_b354 k ((x8.drop p3.toNat).take ((w64 (p3 + p4)).toNat - p3.toNat))).bind fun x10 => (T_slices_Contains_b354 k ((((([] : List Int).drop 0).take 0 ++ ((x8.drop p3.toNat).take ((w64 (p3 + p4)).toNat - p3.toNat))).drop 0).take (0 + ((x8.drop p3.toNat).take ((w64 (p3 + p4)).toNat - p3.toNat)).length)) 1073741824).bind fun x11 => (if x11 = true then some ([], 13) else some (((((([] : List Int).drop 0).take 0 ++ ((x8.drop p3.toNat).take ((w64 (p3 + p4)).toNat - p3.toNat))).drop 0).take (0 + ((x8.drop p3.toNat).take ((w64 (p3 + p4)).toNat - p3.toNat)).length)), 0)) else none)))))
abbrev C_T_store_Window (k : Nat) (p1 : List (List Int)) (p2 : Int) (p3 : Int) (p4 : Int) (r : (List Int) × Int) : Prop := evF X k n_store_Window [(.agg [.d (.list (p1.map (el (D.int .i64))))]), (.agg [cI p2, cI p3]), (I p4)] [] = some ((.tup [(false, [cL r.1]), (false, [cI r.2])]), [])
theorem T_store_Window_ok (k : Nat) (p1 : List (List Int)) (p2 : Int) (p3 : Int) (p4 : Int) (r : (List Int) × Int) : T_store_Window k p1 p2 p3 p4 = some r → C_T_store_Window k p1 p2 p3 p4 r := by
 intro H
 cases k with
 | zero => simp [T_store_Window] at H
 | succ k =>
  simp only [T_store_Window] at H
  refine F_in X_store_Window rfl ?_
  refine K_seq (K_r [] [] (by kernel_rfl) trivial ?_)
  refine K_seq ?_
  refine K_seq ?_
  obtain ⟨x1, hx1, H⟩ := bind_some' H
  refine K_r [.r (I x1) []] [C_T_store_check k p1 p4 x1] (by kernel_rfl) (A1 (T_store_check_ok k p1 p4 x1 hx1)) ?_
  refine K_seq (K_r [] [] (by kernel_rfl) trivial ?_)
  rcases ite_some H with ⟨hx2, H⟩ | ⟨hx2, H⟩
  · refine K_t (by kernel_rfl) hx2 ?_
    refine K_seq (K_r [] [] (by kernel_rfl) trivial ?_)
    refine K_g (by kernel_rfl) ?_
    cases H
    refine K_ret ?_
    kernel_rfl
  · refine K_f (by kernel_rfl) (Bool.eq_false_iff.2 hx2) ?_
    refine K_g (by kernel_rfl) ?_
    refine K_skip ?_
    refine K_seq ?_
    refine K_seq ?_
    obtain ⟨x6, hx6, H⟩ := bind_some' H
    refine K_of ⟨[(2, (I p4)), (3, (Pt 0)), (4, (Pt 1)), (45, (B x6))], [.cells [.d (.list (p1.map (el (D.int .i64))))], .cells [cI p2, cI p3]]⟩ ?_ ?_
    · clear H; have H := hx6; clear hx6; refine K_in ?_
      rcases ite_some H with ⟨hx4, H⟩ | ⟨hx4, H⟩
      · refine K_r [.m, .n p1.length, .m, .b true] ((fun (z1 : Heap) => [decide (p2 < 0) = false → AllT [((p1.map (el (D.int .i64)))).length = p1.length], z1 = z1, z1 = z1, ((decide (p2 < 0) || decide ((p1.length : Int) ≤ p2)) || decide (p3 < 0)) = true]) [.cells [.d (.list (p1.map (el (D.int .i64))))], .cells [cI p2, cI p3]]) (by kernel_rfl) (AC (fun _ => (A1 (List.length_map _))) (AC rfl (AC rfl (A1 hx4)))) ?_
        cases H
        exact K_end (by kernel_rfl)
      · obtain ⟨x5, hx5, H⟩ := bind_some' H
        refine K_r [.m, .n p1.length, .m, .b false, .l [.list (x5.map (D.int .i64))], .n x5.length] ((fun (z1 : Heap) => [decide (p2 < 0) = false → AllT [((p1.map (el (D.int .i64)))).length = p1.length], z1 = z1, z1 = z1, ((decide (p2 < 0) || decide ((p1.length : Int) ≤ p2)) || decide (p3 < 0)) = false, (0 : Int) ≤ p2 ∧ p2 < (((p1.map (el (D.int .i64)))).length : Int), ((p1.map (el (D.int .i64))).getD p2.toNat (.list [])).cells = [.list (x5.map (D.int .i64))], ((x5.map (D.int .i64))).length = x5.length]) [.cells [.d (.list (p1.map (el (D.int .i64))))], .cells [cI p2, cI p3]]) (by kernel_rfl) (AC (fun _ => (A1 (List.length_map _))) (AC rfl (AC rfl (AC (Bool.eq_false_iff.2 hx4) (AC (at_ok hx5 (el (D.int .i64)) (.list [])).1 (AC (at_ok hx5 (el (D.int .i64)) (.list [])).2 (A1 (List.length_map _)))))))) ?_
        cases H
        exact K_end (by kernel_rfl)
    rcases ite_some H with ⟨hx7, H⟩ | ⟨hx7, H⟩
    · refine K_t (by kernel_rfl) hx7 ?_
      refine K_seq (K_r [] [] (by kernel_rfl) trivial ?_)
      refine K_g (by kernel_rfl) ?_
      cases H
      refine K_ret ?_
      kernel_rfl
    · refine K_f (by kernel_rfl) (Bool.eq_false_iff.2 hx7) ?_
      refine K_g (by kernel_rfl) ?_
      refine K_skip ?_
      refine K_seq ?_
      obtain ⟨x8, hx8, H⟩ := bind_some' H
      obtain ⟨hx9, H⟩ := guard_some H
      obtain ⟨x10, hx10, H⟩ := bind_some' H
      refine K_r [.l [.list (x8.map (D.int .i64))], .l (((x8.drop p3.toNat).take ((w64 (p3 + p4)).toNat - p3.toNat)).map (D.int .i64)), .r (LI ((((([] : List Int).drop 0).take 0 ++ ((x8.drop p3.toNat).take ((w64 (p3 + p4)).toNat - p3.toNat))).drop 0).take (0 + ((x8.drop p3.toNat).take ((w64 (p3 + p4)).toNat - p3.toNat)).length))) []] [(0 : Int) ≤ p2 ∧ p2 < (((p1.map (el (D.int .i64)))).length : Int), ((p1.map (el (D.int .i64))).getD p2.toNat (.list [])).cells = [.list (x8.map (D.int .i64))], ((x8.map (D.int .i64)).all fun d => d.cells.length == 1) = true, (0 : Int) ≤ p3 ∧ p3 ≤ (w64 (p3 + p4)) ∧ (w64 (p3 + p4)) ≤ (((x8.map (D.int .i64))).length : Int) ∧ (((x8.map (D.int .i64))).length : Int) ≤ (((x8.map (D.int .i64))).length : Int), ((x8.map (D.int .i64)).drop (p3 : Int).toNat).take (((w64 (p3 + p4)) : Int).toNat - (p3 : Int).toNat) = ((x8.drop p3.toNat).take ((w64 (p3 + p4)).toNat - p3.toNat)).map (D.int .i64), C_T_slices_Clone_b354 k ((x8.drop p3.toNat).take ((w64 (p3 + p4)).toNat - p3.toNat)) x10] (by kernel_rfl) (AC (at_ok hx8 (el (D.int .i64)) (.list [])).1 (AC (at_ok hx8 (el (D.int .i64)) (.list [])).2 (AC (all_ok (D.int .i64) 1 x8 (fun _ => rfl)) (AC (by simpa using hx9) (AC (dt_map _ _ _ _) (A1 (T_slices_Clone_b354_ok k ((x8.drop p3.toNat).take ((w64 (p3 + p4)).toNat - p3.toNat)) x10 hx10))))))) ?_
      refine K_seq ?_
      refine K_seq ?_
      obtain ⟨x11, hx11, H⟩ := bind_some' H
      refine K_r [.r (B x11) []] [C_T_slices_Contains_b354 k ((((([] : List Int).drop 0).take 0 ++ ((x8.drop p3.toNat).take ((w64 (p3 + p4)).toNat - p3.toNat))).drop 0).take (0 + ((x8.drop p3.toNat).take ((w64 (p3 + p4)).toNat - p3.toNat)).length)) 1073741824 x11] (by kernel_rfl) (A1 (T_slices_Contains_b354_ok k ((((([] : List Int).drop 0).take 0 ++ ((x8.drop p3.toNat).take ((w64 (p3 + p4)).toNat - p3.toNat))).drop 0).take (0 + ((x8.drop p3.toNat).take ((w64 (p3 + p4)).toNat - p3.toNat)).length)) 1073741824 x11 hx11)) ?_
      rcases ite_some H with ⟨hx12, H⟩ | ⟨hx12, H⟩
      · refine K_t (by kernel_rfl) hx12 ?_
        refine K_seq (K_r [] [] (by kernel_rfl) trivial ?_)
        refine K_g (by kernel_rfl) ?_
        cases H
        refine K_ret ?_
        kernel_rfl
      · refine K_f (by kernel_rfl) (Bool.eq_false_iff.2 hx12) ?_
        refine K_g (by kernel_rfl) ?_
        refine K_skip (K_seq (K_r [] [] (by kernel_rfl) trivial ?_))
        refine K_g (by kernel_rfl) ?_
        cases H
        refine K_ret ?_
        kernel_rfl
end Go.Proofs.YtkeddnagijjbaaaGreat.storeRaw
