/- What the functions that the statement StoreRaw reaches compute, told as functions of Lean, and that the theory's language computes the same: part 3 of 3. There are no conditions. -/
import Derived.Test.YtkeddnagijjbaaaGreatTStoreRaw1
set_option maxRecDepth 100000
set_option linter.unusedVariables false
set_option linter.unusedSimpArgs false
namespace Go.Proofs.YtkeddnagijjbaaaGreat.storeRaw
open Go
def T_cmp_Compare_557a (k : Nat) (p1 : Int) (p2 : Int) : Option Int := match k with
 | 0 => none
 | k + 1 => ((T_cmp_isNaN_557a k p1).bind fun x1 => (T_cmp_isNaN_557a k p2).bind fun x2 => (if (!decide (p1 = p1)) = true then (if (!decide (p2 = p2)) = true then some 0 else some (-1)) else (if (!decide (p2 = p2)) = true then some 1 else (if p1 < p2 then some (-1) else (if p2 < p1 then some 1 else some 0)))))
abbrev C_T_cmp_Compare_557a (k : Nat) (p1 : Int) (p2 : Int) (r : Int) : Prop := evF X k n_cmp_Compare_557a [(I p1), (I p2)] [] = some ((I r), [])
theorem T_cmp_Compare_557a_ok (k : Nat) (p1 : Int) (p2 : Int) (r : Int) : T_cmp_Compare_557a k p1 p2 = some r → C_T_cmp_Compare_557a k p1 p2 r := by
 intro H
 cases k with
 | zero => simp [T_cmp_Compare_557a] at H
 | succ k =>
  rw [T_cmp_Compare_557a] at H
  refine F_in X_cmp_Compare_557a rfl ?_
  refine K_seq (K_r [] [] (by kernel_rfl) trivial ?_)
  refine K_seq ?_
  obtain ⟨x1, hx1, H⟩ := bind_some' H
  refine K_r [.r (B (!decide (p1 = p1))) []] [C_T_cmp_isNaN_557a k p1 x1] (by kernel_rfl) (A1 (T_cmp_isNaN_557a_ok k p1 x1 hx1)) ?_
  refine K_seq ?_
  obtain ⟨x2, hx2, H⟩ := bind_some' H
  refine K_r [.r (B (!decide (p2 = p2))) []] [C_T_cmp_isNaN_557a k p2 x2] (by kernel_rfl) (A1 (T_cmp_isNaN_557a_ok k p2 x2 hx2)) ?_
  refine K_seq (K_seq (K_r [] [] (by kernel_rfl) trivial ?_))
  rcases ite_some H with ⟨hx3, H⟩ | ⟨hx3, H⟩
  · refine K_t (by kernel_rfl) hx3 ?_
    refine K_seq (K_seq (K_r [] [] (by kernel_rfl) trivial ?_))
    rcases ite_some H with ⟨hx4, H⟩ | ⟨hx4, H⟩
    · refine K_t (by kernel_rfl) hx4 ?_
      refine K_seq (K_r [] [] (by kernel_rfl) trivial ?_)
      refine K_g (by kernel_rfl) ?_
      cases H
      refine K_ret ?_
      kernel_rfl
    · refine K_f (by kernel_rfl) (Bool.eq_false_iff.2 hx4) ?_
      refine K_g (by kernel_rfl) ?_
      refine K_skip (K_seq (K_r [] [] (by kernel_rfl) trivial ?_))
      refine K_g (by kernel_rfl) ?_
      cases H
      refine K_ret ?_
      kernel_rfl
  · refine K_f (by kernel_rfl) (Bool.eq_false_iff.2 hx3) ?_
    refine K_g (by kernel_rfl) ?_
    refine K_skip (K_seq (K_seq (K_r [] [] (by kernel_rfl) trivial ?_)))
    rcases ite_some H with ⟨hx5, H⟩ | ⟨hx5, H⟩
    · refine K_t (by kernel_rfl) hx5 ?_
      refine K_seq (K_r [] [] (by kernel_rfl) trivial ?_)
      refine K_g (by kernel_rfl) ?_
      cases H
      refine K_ret ?_
      kernel_rfl
    · refine K_f (by kernel_rfl) (Bool.eq_false_iff.2 hx5) ?_
      refine K_g (by kernel_rfl) ?_
      refine K_skip (K_seq (K_seq (K_r [] [] (by kernel_rfl) trivial ?_)))
      rcases ite_some H with ⟨hx6, H⟩ | ⟨hx6, H⟩
      · refine K_t (by kernel_rfl) (decide_eq_true hx6) ?_
        refine K_seq (K_r [] [] (by kernel_rfl) trivial ?_)
        refine K_g (by kernel_rfl) ?_
        cases H
        refine K_ret ?_
        kernel_rfl
      · refine K_f (by kernel_rfl) (decide_eq_false hx6) ?_
        refine K_g (by kernel_rfl) ?_
        refine K_skip (K_seq (K_seq (K_r [] [] (by kernel_rfl) trivial ?_)))
        rcases ite_some H with ⟨hx7, H⟩ | ⟨hx7, H⟩
        · refine K_t (by kernel_rfl) (decide_eq_true hx7) ?_
          refine K_seq (K_r [] [] (by kernel_rfl) trivial ?_)
          refine K_g (by kernel_rfl) ?_
          cases H
          refine K_ret ?_
          kernel_rfl
        · refine K_f (by kernel_rfl) (decide_eq_false hx7) ?_
          refine K_g (by kernel_rfl) ?_
          refine K_skip (K_seq (K_r [] [] (by kernel_rfl) trivial ?_))
          refine K_g (by kernel_rfl) ?_
          cases H
          refine K_ret ?_
          kernel_rfl
def T_cmp_Or_557a_l1 (k : Nat) (p1 : List Int) (x3 : Int) (x8 : Int) : Option (Int ⊕ (Unit ⊕ Int)) :=
 (if x8 < x3 then ((at? p1 x8).bind fun x10 => (if (!decide (x10 = 0)) = true then some (.inr (.inr x10)) else some (.inl (w64 (x8 + 1))))) else some (.inr (.inl ())))
theorem T_cmp_Or_557a_l1_ok (k : Nat) (p1 : List Int) (x3 : Int) : ∀ (x8 : Int) (x : Int ⊕ (Unit ⊕ Int)), T_cmp_Or_557a_l1 k p1 x3 x8 = some x → evC X (evF X k) k 0 l_cmp_Or_557a_1 ⟨[(3, (I 0)), (6, (LI p1)), (7, (I x3)), (8, (I x8))], []⟩ = some (outS (fun (s : Int) => ⟨[(3, (I 0)), (6, (LI p1)), (7, (I x3)), (8, (I s))], []⟩) (fun (r : Unit ⊕ Int) => Sum.elim (fun y => (.exit 0, ⟨[(3, (I 0))], []⟩)) (fun y => (.ret, ⟨[(2, (I y))], []⟩)) r) x) := by
 intro x8 x H
 unfold T_cmp_Or_557a_l1 at H
 refine K_in ?_
 refine K_seq (K_r [] [] (by kernel_rfl) trivial ?_)
 refine K_seq ?_
 rcases ite_some H with ⟨hx9, H⟩ | ⟨hx9, H⟩
 · refine K_t (by kernel_rfl) (decide_eq_true hx9) ?_
   refine K_g (by kernel_rfl) ?_
   refine K_skip ?_
   refine K_seq ?_
   refine K_block ?_
   refine K_seq ?_
   obtain ⟨x10, hx10, H⟩ := bind_some' H
   refine K_r [.l [.int .i64 x10]] [(0 : Int) ≤ x8 ∧ x8 < (((p1.map (D.int .i64))).length : Int), ((p1.map (D.int .i64)).getD x8.toNat (.int .i64 0)).cells = [.int .i64 x10]] (by kernel_rfl) (AC (at_ok hx10 (D.int .i64) (.int .i64 0)).1 (A1 (at_ok hx10 (D.int .i64) (.int .i64 0)).2)) ?_
   refine K_seq (K_r [] [] (by kernel_rfl) trivial ?_)
   rcases ite_some H with ⟨hx11, H⟩ | ⟨hx11, H⟩
   · refine K_t (by kernel_rfl) hx11 ?_
     refine K_seq (K_r [] [] (by kernel_rfl) trivial ?_)
     refine K_g (by kernel_rfl) ?_
     cases H
     exact K_ret (by kernel_rfl)
   · refine K_f (by kernel_rfl) (Bool.eq_false_iff.2 hx11) ?_
     refine K_g (by kernel_rfl) ?_
     refine K_skip (K_blk (K_r [] [] (by kernel_rfl) trivial ?_))
     cases H
     exact K_end (by kernel_rfl)
 · refine K_f (by kernel_rfl) (decide_eq_false hx9) ?_
   refine K_g (by kernel_rfl) ?_
   cases H
   exact K_exit0 rfl (by kernel_rfl)
def T_cmp_Or_557a (k : Nat) (p1 : List Int) : Option Int := match k with
 | 0 => none
 | k + 1 => ((loopT (T_cmp_Or_557a_l1 k p1 (p1.length : Int)) k 0).bind fun x12 => (match x12 with | .inl x13 => some 0 | .inr x14 => some x14))
abbrev C_T_cmp_Or_557a (k : Nat) (p1 : List Int) (r : Int) : Prop := evF X k n_cmp_Or_557a [(LI p1)] [] = some ((I r), [])
theorem T_cmp_Or_557a_ok (k : Nat) (p1 : List Int) (r : Int) : T_cmp_Or_557a k p1 = some r → C_T_cmp_Or_557a k p1 r := by
 intro H
 cases k with
 | zero => simp [T_cmp_Or_557a] at H
 | succ k =>
  simp only [T_cmp_Or_557a] at H
  refine F_in X_cmp_Or_557a rfl ?_
  refine K_seq (K_r [] [] (by kernel_rfl) trivial ?_)
  refine K_seq (K_r [] [] (by kernel_rfl) trivial ?_)
  refine K_seq (K_seq (K_r [.n p1.length] [((p1.map (D.int .i64))).length = p1.length] (by kernel_rfl) (A1 (List.length_map _)) ?_))
  refine K_block (K_conv (σ' := ⟨[(3, (I 0)), (6, (LI p1)), (7, (I (p1.length : Int))), (8, (I 0))], []⟩) (by kernel_rfl) ?_)
  obtain ⟨x12, hx12, H⟩ := bind_some' H
  cases x12 with
  | inl x13 =>
   dsimp only at H
   refine K_loop ⟨[(3, (I 0))], []⟩ (loop_ok (fun (s : Int) => ⟨[(3, (I 0)), (6, (LI p1)), (7, (I (p1.length : Int))), (8, (I s))], []⟩) (fun (r : Unit ⊕ Int) => Sum.elim (fun y => (.exit 0, ⟨[(3, (I 0))], []⟩)) (fun y => (.ret, ⟨[(2, (I y))], []⟩)) r) (fun r h => by cases r <;> cases h) (T_cmp_Or_557a_l1_ok k p1 (p1.length : Int)) k 0 (.inl x13) hx12) rfl ?_
   refine K_seq (K_r [] [] (by kernel_rfl) trivial ?_)
   refine K_g (by kernel_rfl) ?_
   cases H
   refine K_ret ?_
   kernel_rfl
  | inr x14 =>
   dsimp only at H
   have H := Option.some.inj H; subst H
   refine K_loopr ⟨[(2, (I x14))], []⟩ (loop_ok (fun (s : Int) => ⟨[(3, (I 0)), (6, (LI p1)), (7, (I (p1.length : Int))), (8, (I s))], []⟩) (fun (r : Unit ⊕ Int) => Sum.elim (fun y => (.exit 0, ⟨[(3, (I 0))], []⟩)) (fun y => (.ret, ⟨[(2, (I y))], []⟩)) r) (fun r h => by cases r <;> cases h) (T_cmp_Or_557a_l1_ok k p1 (p1.length : Int)) k 0 (.inr x14) hx12) ?_
   kernel_rfl
def T_store_Compare (k : Nat) (p1 : Int) (p2 : Int) (p3 : Int) (p4 : Int) : Option Int := match k with
 | 0 => none
 | k + 1 => ((T_cmp_Compare_557a k p1 p3).bind fun x1 => (T_cmp_Compare_557a k p2 p4).bind fun x2 => (T_cmp_Or_557a k ([x1, x2] : List Int)).bind fun x3 => some x3)
abbrev C_T_store_Compare (k : Nat) (p1 : Int) (p2 : Int) (p3 : Int) (p4 : Int) (r : Int) : Prop := evF X k n_store_Compare [(.agg [cI p1, cI p2]), (.agg [cI p3, cI p4])] [] = some ((I r), [])
theorem T_store_Compare_ok (k : Nat) (p1 : Int) (p2 : Int) (p3 : Int) (p4 : Int) (r : Int) : T_store_Compare k p1 p2 p3 p4 = some r → C_T_store_Compare k p1 p2 p3 p4 r := by
 intro H
 cases k with
 | zero => simp [T_store_Compare] at H
 | succ k =>
  simp only [T_store_Compare] at H
  refine F_in X_store_Compare rfl ?_
  refine K_seq (K_r [] [] (by kernel_rfl) trivial ?_)
  refine K_seq ?_
  obtain ⟨x1, hx1, H⟩ := bind_some' H
  obtain ⟨x2, hx2, H⟩ := bind_some' H
  obtain ⟨x3, hx3, H⟩ := bind_some' H
  refine K_r [.r (I x1) [], .r (I x2) [], .r (I x3) []] [C_T_cmp_Compare_557a k p1 p3 x1, C_T_cmp_Compare_557a k p2 p4 x2, C_T_cmp_Or_557a k ([x1, x2] : List Int) x3] (by kernel_rfl) (AC (T_cmp_Compare_557a_ok k p1 p3 x1 hx1) (AC (T_cmp_Compare_557a_ok k p2 p4 x2 hx2) (A1 (T_cmp_Or_557a_ok k ([x1, x2] : List Int) x3 hx3)))) ?_
  refine K_g (by kernel_rfl) ?_
  cases H
  refine K_ret ?_
  kernel_rfl
def T_store_Before (k : Nat) (p1 : Int) (p2 : Int) (p3 : Int) (p4 : Int) (p5 : Int) (p6 : Int) (p7 : Int) (p8 : Int) : Option Bool := match k with
 | 0 => none
 | k + 1 => ((T_ratio_Less k p1 p2 p5 p6).bind fun x1 => (if x1 = true then some true else ((T_ratio_Less k p5 p6 p1 p2).bind fun x3 => (if x3 = true then some false else ((T_store_Compare k p3 p4 p7 p8).bind fun x5 => some (decide (x5 < 0)))))))
abbrev C_T_store_Before (k : Nat) (p1 : Int) (p2 : Int) (p3 : Int) (p4 : Int) (p5 : Int) (p6 : Int) (p7 : Int) (p8 : Int) (r : Bool) : Prop := evF X k n_store_Before [(.agg [cI p1, cI p2, cI p3, cI p4]), (.agg [cI p5, cI p6, cI p7, cI p8])] [] = some ((B r), [])
theorem T_store_Before_ok (k : Nat) (p1 : Int) (p2 : Int) (p3 : Int) (p4 : Int) (p5 : Int) (p6 : Int) (p7 : Int) (p8 : Int) (r : Bool) : T_store_Before k p1 p2 p3 p4 p5 p6 p7 p8 = some r → C_T_store_Before k p1 p2 p3 p4 p5 p6 p7 p8 r := by
 intro H
 cases k with
 | zero => simp [T_store_Before] at H
 | succ k =>
  simp only [T_store_Before] at H
  refine F_in X_store_Before rfl ?_
  refine K_seq (K_r [] [] (by kernel_rfl) trivial ?_)
  refine K_seq ?_
  refine K_block ?_
  refine K_seq ?_
  obtain ⟨x1, hx1, H⟩ := bind_some' H
  refine K_r [.r (B x1) []] [C_T_ratio_Less k p1 p2 p5 p6 x1] (by kernel_rfl) (A1 (T_ratio_Less_ok k p1 p2 p5 p6 x1 hx1)) ?_
  rcases ite_some H with ⟨hx2, H⟩ | ⟨hx2, H⟩
  · refine K_t (by kernel_rfl) hx2 ?_
    refine K_seq (K_r [] [] (by kernel_rfl) trivial ?_)
    refine K_g (by kernel_rfl) ?_
    cases H
    refine K_ret ?_
    kernel_rfl
  · refine K_f (by kernel_rfl) (Bool.eq_false_iff.2 hx2) ?_
    refine K_seq ?_
    obtain ⟨x3, hx3, H⟩ := bind_some' H
    refine K_r [.r (B x3) []] [C_T_ratio_Less k p5 p6 p1 p2 x3] (by kernel_rfl) (A1 (T_ratio_Less_ok k p5 p6 p1 p2 x3 hx3)) ?_
    rcases ite_some H with ⟨hx4, H⟩ | ⟨hx4, H⟩
    · refine K_t (by kernel_rfl) hx4 ?_
      refine K_seq (K_r [] [] (by kernel_rfl) trivial ?_)
      refine K_g (by kernel_rfl) ?_
      cases H
      refine K_ret ?_
      kernel_rfl
    · refine K_f (by kernel_rfl) (Bool.eq_false_iff.2 hx4) ?_
      refine K_g (by kernel_rfl) ?_
      refine K_skip ?_
      refine K_blk ?_
      refine K_seq ?_
      obtain ⟨x5, hx5, H⟩ := bind_some' H
      refine K_r [.r (I x5) []] [C_T_store_Compare k p3 p4 p7 p8 x5] (by kernel_rfl) (A1 (T_store_Compare_ok k p3 p4 p7 p8 x5 hx5)) ?_
      refine K_g (by kernel_rfl) ?_
      cases H
      refine K_ret ?_
      kernel_rfl
def T_ref01_common_l1 (k : Nat) (x5 : Int × Int) : Option ((Int × Int) ⊕ Int) :=
 (if 0 < x5.2 then (if x5.2 ≠ 0 then some (.inl (x5.2, (x5.1.tmod x5.2))) else none) else some (.inr x5.1))
theorem T_ref01_common_l1_ok (k : Nat) : ∀ (x5 : Int × Int) (x : (Int × Int) ⊕ Int), T_ref01_common_l1 k x5 = some x → evC X (evF X k) k 0 l_ref01_common_1 ⟨[(0, (I x5.1)), (1, (I x5.2))], []⟩ = some (outS (fun (s : Int × Int) => ⟨[(0, (I s.1)), (1, (I s.2))], []⟩) (fun (r : Int) => (.exit 0, ⟨[(0, (I r))], []⟩)) x) := by
 intro x5 x H
 unfold T_ref01_common_l1 at H
 refine K_in ?_
 refine K_seq (K_seq (K_r [] [] (by kernel_rfl) trivial ?_))
 rcases ite_some H with ⟨hx6, H⟩ | ⟨hx6, H⟩
 · refine K_t (by kernel_rfl) (decide_eq_true hx6) ?_
   refine K_g (by kernel_rfl) ?_
   refine K_skip ?_
   refine K_block ?_
   obtain ⟨hx7, H⟩ := guard_some H
   refine K_r [] [x5.2 ≠ (0 : Int)] (by kernel_rfl) (A1 hx7) ?_
   refine K_blk ?_
   cases H
   exact K_end (by kernel_rfl)
 · refine K_f (by kernel_rfl) (decide_eq_false hx6) ?_
   refine K_g (by kernel_rfl) ?_
   cases H
   exact K_exit0 rfl (by kernel_rfl)
def T_ref01_common (k : Nat) (p1 : Int) (p2 : Int) : Option Int := match k with
 | 0 => none
 | k + 1 => ((loopT (T_ref01_common_l1 k) k (p1, p2)).bind fun x8 => some x8)
abbrev C_T_ref01_common (k : Nat) (p1 : Int) (p2 : Int) (r : Int) : Prop := evF X k n_ref01_common [(I p1), (I p2)] [] = some ((I r), [])
theorem T_ref01_common_ok (k : Nat) (p1 : Int) (p2 : Int) (r : Int) : T_ref01_common k p1 p2 = some r → C_T_ref01_common k p1 p2 r := by
 intro H
 cases k with
 | zero => simp [T_ref01_common] at H
 | succ k =>
  simp only [T_ref01_common] at H
  refine F_in X_ref01_common rfl ?_
  refine K_seq (K_r [] [] (by kernel_rfl) trivial ?_)
  refine K_seq (K_block (K_conv (σ' := ⟨[(0, (I p1)), (1, (I p2))], []⟩) (by kernel_rfl) ?_))
  obtain ⟨x8, hx8, H⟩ := bind_some' H
  refine K_loop ⟨[(0, (I x8))], []⟩ (loop_ok (fun (s : Int × Int) => ⟨[(0, (I s.1)), (1, (I s.2))], []⟩) (fun (r : Int) => (.exit 0, ⟨[(0, (I r))], []⟩)) (fun r h => by cases h) (T_ref01_common_l1_ok k) k (p1, p2) x8 hx8) rfl ?_
  refine K_seq (K_r [] [] (by kernel_rfl) trivial ?_)
  refine K_g (by kernel_rfl) ?_
  cases H
  refine K_ret ?_
  kernel_rfl
def T_ref01_Valid (k : Nat) (p1 : Int) (p2 : Int) : Option Bool := match k with
 | 0 => none
 | k + 1 => (((if (((decide (0 ≤ p1) && decide (p1 ≤ 2305843009213693952)) && decide (1 ≤ p2)) && decide (p2 ≤ 1152921504606846976)) = true then ((T_ref01_common k p1 p2).bind fun x3 => some (decide (x3 = 1))) else some false)).bind fun x4 => some x4)
abbrev C_T_ref01_Valid (k : Nat) (p1 : Int) (p2 : Int) (r : Bool) : Prop := evF X k n_ref01_Valid [(.agg [cI p1, cI p2])] [] = some ((B r), [])
theorem T_ref01_Valid_ok (k : Nat) (p1 : Int) (p2 : Int) (r : Bool) : T_ref01_Valid k p1 p2 = some r → C_T_ref01_Valid k p1 p2 r := by
 intro H
 cases k with
 | zero => simp [T_ref01_Valid] at H
 | succ k =>
  simp only [T_ref01_Valid] at H
  refine F_in X_ref01_Valid rfl ?_
  refine K_seq (K_r [] [] (by kernel_rfl) trivial ?_)
  refine K_seq ?_
  obtain ⟨x4, hx4, H⟩ := bind_some' H
  refine K_of ⟨[(2, (B x4))], []⟩ ?_ ?_
  · clear H; have H := hx4; clear hx4; refine K_in ?_
    rcases ite_some H with ⟨hx2, H⟩ | ⟨hx2, H⟩
    · obtain ⟨x3, hx3, H⟩ := bind_some' H
      refine K_r [.m, .m, .m, .b true, .r (I x3) []] ((fun (z1 : Heap) => [z1 = z1, z1 = z1, z1 = z1, (((decide (0 ≤ p1) && decide (p1 ≤ 2305843009213693952)) && decide (1 ≤ p2)) && decide (p2 ≤ 1152921504606846976)) = true, C_T_ref01_common k p1 p2 x3]) [.cells [cI p1, cI p2]]) (by kernel_rfl) (AC rfl (AC rfl (AC rfl (AC hx2 (A1 (T_ref01_common_ok k p1 p2 x3 hx3)))))) ?_
      cases H
      exact K_end (by kernel_rfl)
    · refine K_r [.m, .m, .m, .b false] ((fun (z1 : Heap) => [z1 = z1, z1 = z1, z1 = z1, (((decide (0 ≤ p1) && decide (p1 ≤ 2305843009213693952)) && decide (1 ≤ p2)) && decide (p2 ≤ 1152921504606846976)) = false]) [.cells [cI p1, cI p2]]) (by kernel_rfl) (AC rfl (AC rfl (AC rfl (A1 (Bool.eq_false_iff.2 hx2))))) ?_
      cases H
      exact K_end (by kernel_rfl)
  refine K_g (by kernel_rfl) ?_
  cases H
  refine K_ret ?_
  kernel_rfl
def T_ref01_order (k : Nat) (p1 : Int) (p2 : Int) (p3 : Int) (p4 : Int) : Option Int := match k with
 | 0 => none
 | k + 1 => (if p2 ≠ 0 then (if p4 ≠ 0 then (if (!decide ((w64 (p1.tdiv p2)) = (w64 (p3.tdiv p4)))) = true then (if (w64 (p1.tdiv p2)) < (w64 (p3.tdiv p4)) then some (-1) else some 1) else (if p2 ≠ 0 then (if p4 ≠ 0 then (if (decide ((p1.tmod p2) = 0) && decide ((p3.tmod p4) = 0)) = true then some 0 else (if (p1.tmod p2) = 0 then some (-1) else (if (p3.tmod p4) = 0 then some 1 else ((T_ref01_order k p4 (p3.tmod p4) p2 (p1.tmod p2)).bind fun x10 => some x10)))) else none) else none)) else none) else none)
abbrev C_T_ref01_order (k : Nat) (p1 : Int) (p2 : Int) (p3 : Int) (p4 : Int) (r : Int) : Prop := evF X k n_ref01_order [(I p1), (I p2), (I p3), (I p4)] [] = some ((I r), [])
theorem T_ref01_order_ok (k : Nat) (p1 : Int) (p2 : Int) (p3 : Int) (p4 : Int) (r : Int) : T_ref01_order k p1 p2 p3 p4 = some r → C_T_ref01_order k p1 p2 p3 p4 r := by
 intro H
 cases k with
 | zero => simp [T_ref01_order] at H
 | succ k =>
  simp only [T_ref01_order] at H
  refine F_in X_ref01_order rfl ?_
  refine K_seq (K_r [] [] (by kernel_rfl) trivial ?_)
  refine K_seq ?_
  obtain ⟨hx1, H⟩ := guard_some H
  obtain ⟨hx2, H⟩ := guard_some H
  refine K_r [] [p2 ≠ (0 : Int), p4 ≠ (0 : Int)] (by kernel_rfl) (AC hx1 (A1 hx2)) ?_
  refine K_seq (K_seq (K_r [] [] (by kernel_rfl) trivial ?_))
  rcases ite_some H with ⟨hx3, H⟩ | ⟨hx3, H⟩
  · refine K_t (by kernel_rfl) hx3 ?_
    refine K_seq (K_seq (K_r [] [] (by kernel_rfl) trivial ?_))
    rcases ite_some H with ⟨hx4, H⟩ | ⟨hx4, H⟩
    · refine K_t (by kernel_rfl) (decide_eq_true hx4) ?_
      refine K_seq (K_r [] [] (by kernel_rfl) trivial ?_)
      refine K_g (by kernel_rfl) ?_
      cases H
      refine K_ret ?_
      kernel_rfl
    · refine K_f (by kernel_rfl) (decide_eq_false hx4) ?_
      refine K_g (by kernel_rfl) ?_
      refine K_skip (K_seq (K_r [] [] (by kernel_rfl) trivial ?_))
      refine K_g (by kernel_rfl) ?_
      cases H
      refine K_ret ?_
      kernel_rfl
  · refine K_f (by kernel_rfl) (Bool.eq_false_iff.2 hx3) ?_
    refine K_g (by kernel_rfl) ?_
    refine K_skip ?_
    refine K_seq ?_
    obtain ⟨hx5, H⟩ := guard_some H
    obtain ⟨hx6, H⟩ := guard_some H
    refine K_r [] [p2 ≠ (0 : Int), p4 ≠ (0 : Int)] (by kernel_rfl) (AC hx5 (A1 hx6)) ?_
    refine K_seq (K_block (K_seq (K_r [.m] [([] : Heap) = []] (by kernel_rfl) (A1 rfl) ?_)))
    rcases ite_some H with ⟨hx7, H⟩ | ⟨hx7, H⟩
    · refine K_t (by kernel_rfl) hx7 ?_
      refine K_seq (K_r [] [] (by kernel_rfl) trivial ?_)
      refine K_g (by kernel_rfl) ?_
      cases H
      refine K_ret ?_
      kernel_rfl
    · refine K_f (by kernel_rfl) (Bool.eq_false_iff.2 hx7) ?_
      refine K_seq (K_r [] [] (by kernel_rfl) trivial ?_)
      rcases ite_some H with ⟨hx8, H⟩ | ⟨hx8, H⟩
      · refine K_t (by kernel_rfl) (decide_eq_true hx8) ?_
        refine K_seq (K_r [] [] (by kernel_rfl) trivial ?_)
        refine K_g (by kernel_rfl) ?_
        cases H
        refine K_ret ?_
        kernel_rfl
      · refine K_f (by kernel_rfl) (decide_eq_false hx8) ?_
        refine K_seq (K_r [] [] (by kernel_rfl) trivial ?_)
        rcases ite_some H with ⟨hx9, H⟩ | ⟨hx9, H⟩
        · refine K_t (by kernel_rfl) (decide_eq_true hx9) ?_
          refine K_seq (K_r [] [] (by kernel_rfl) trivial ?_)
          refine K_g (by kernel_rfl) ?_
          cases H
          refine K_ret ?_
          kernel_rfl
        · refine K_f (by kernel_rfl) (decide_eq_false hx9) ?_
          refine K_g (by kernel_rfl) ?_
          refine K_skip ?_
          refine K_blk ?_
          refine K_seq ?_
          obtain ⟨x10, hx10, H⟩ := bind_some' H
          refine K_r [.r (I x10) []] [C_T_ref01_order k p4 (p3.tmod p4) p2 (p1.tmod p2) x10] (by kernel_rfl) (A1 (T_ref01_order_ok k p4 (p3.tmod p4) p2 (p1.tmod p2) x10 hx10)) ?_
          refine K_g (by kernel_rfl) ?_
          cases H
          refine K_ret ?_
          kernel_rfl
def T_ref01_Cmp (k : Nat) (p1 : Int) (p2 : Int) (p3 : Int) (p4 : Int) : Option Int := match k with
 | 0 => none
 | k + 1 => ((((T_ref01_Valid k p1 p2).bind fun x1 => (if (!x1) = true then some true else ((T_ref01_Valid k p3 p4).bind fun x4 => some (!x4))))).bind fun x5 => (if x5 = true then some 0 else ((T_ref01_order k p1 p2 p3 p4).bind fun x7 => some x7)))
abbrev C_T_ref01_Cmp (k : Nat) (p1 : Int) (p2 : Int) (p3 : Int) (p4 : Int) (r : Int) : Prop := evF X k n_ref01_Cmp [(.agg [cI p1, cI p2]), (.agg [cI p3, cI p4])] [] = some ((I r), [])
theorem T_ref01_Cmp_ok (k : Nat) (p1 : Int) (p2 : Int) (p3 : Int) (p4 : Int) (r : Int) : T_ref01_Cmp k p1 p2 p3 p4 = some r → C_T_ref01_Cmp k p1 p2 p3 p4 r := by
 intro H
 cases k with
 | zero => simp [T_ref01_Cmp] at H
 | succ k =>
  simp only [T_ref01_Cmp] at H
  refine F_in X_ref01_Cmp rfl ?_
  refine K_seq (K_r [] [] (by kernel_rfl) trivial ?_)
  refine K_seq ?_
  refine K_seq ?_
  obtain ⟨x5, hx5, H⟩ := bind_some' H
  refine K_of ⟨[(2, (Pt 0)), (3, (Pt 1)), (12, (B x5))], [.cells [cI p1, cI p2], .cells [cI p3, cI p4]]⟩ ?_ ?_
  · clear H; have H := hx5; clear hx5; refine K_in ?_
    obtain ⟨x1, hx1, H⟩ := bind_some' H
    rcases ite_some H with ⟨hx3, H⟩ | ⟨hx3, H⟩
    · refine K_r [.r (B x1) [], .b true] [C_T_ref01_Valid k p1 p2 x1, (!x1) = true] (by kernel_rfl) (AC (T_ref01_Valid_ok k p1 p2 x1 hx1) (A1 hx3)) ?_
      cases H
      exact K_end (by kernel_rfl)
    · obtain ⟨x4, hx4, H⟩ := bind_some' H
      refine K_r [.r (B x1) [], .b false, .r (B x4) []] [C_T_ref01_Valid k p1 p2 x1, (!x1) = false, C_T_ref01_Valid k p3 p4 x4] (by kernel_rfl) (AC (T_ref01_Valid_ok k p1 p2 x1 hx1) (AC (Bool.eq_false_iff.2 hx3) (A1 (T_ref01_Valid_ok k p3 p4 x4 hx4)))) ?_
      cases H
      exact K_end (by kernel_rfl)
  rcases ite_some H with ⟨hx6, H⟩ | ⟨hx6, H⟩
  · refine K_t (by kernel_rfl) hx6 ?_
    refine K_seq (K_r [] [] (by kernel_rfl) trivial ?_)
    refine K_g (by kernel_rfl) ?_
    cases H
    refine K_ret ?_
    kernel_rfl
  · refine K_f (by kernel_rfl) (Bool.eq_false_iff.2 hx6) ?_
    refine K_g (by kernel_rfl) ?_
    refine K_skip ?_
    refine K_seq ?_
    obtain ⟨x7, hx7, H⟩ := bind_some' H
    refine K_r [.r (I x7) []] [C_T_ref01_order k p1 p2 p3 p4 x7] (by kernel_rfl) (A1 (T_ref01_order_ok k p1 p2 p3 p4 x7 hx7)) ?_
    refine K_g (by kernel_rfl) ?_
    cases H
    refine K_ret ?_
    kernel_rfl
def T_ref01_Less (k : Nat) (p1 : Int) (p2 : Int) (p3 : Int) (p4 : Int) : Option Bool := match k with
 | 0 => none
 | k + 1 => ((T_ref01_Cmp k p1 p2 p3 p4).bind fun x1 => some (decide (x1 < 0)))
abbrev C_T_ref01_Less (k : Nat) (p1 : Int) (p2 : Int) (p3 : Int) (p4 : Int) (r : Bool) : Prop := evF X k n_ref01_Less [(.agg [cI p1, cI p2]), (.agg [cI p3, cI p4])] [] = some ((B r), [])
theorem T_ref01_Less_ok (k : Nat) (p1 : Int) (p2 : Int) (p3 : Int) (p4 : Int) (r : Bool) : T_ref01_Less k p1 p2 p3 p4 = some r → C_T_ref01_Less k p1 p2 p3 p4 r := by
 intro H
 cases k with
 | zero => simp [T_ref01_Less] at H
 | succ k =>
  simp only [T_ref01_Less] at H
  refine F_in X_ref01_Less rfl ?_
  refine K_seq (K_r [] [] (by kernel_rfl) trivial ?_)
  refine K_seq ?_
  obtain ⟨x1, hx1, H⟩ := bind_some' H
  refine K_r [.r (I x1) []] [C_T_ref01_Cmp k p1 p2 p3 p4 x1] (by kernel_rfl) (A1 (T_ref01_Cmp_ok k p1 p2 p3 p4 x1 hx1)) ?_
  refine K_g (by kernel_rfl) ?_
  cases H
  refine K_ret ?_
  kernel_rfl
def T_ref23_Sooner (k : Nat) (p1 : Int) (p2 : Int) (p3 : Int) (p4 : Int) : Option Unit := match k with
 | 0 => none
 | k + 1 => some ()
abbrev C_T_ref23_Sooner (k : Nat) (p1 : Int) (p2 : Int) (p3 : Int) (p4 : Int) (r : Unit) : Prop := evF X k n_ref23_Sooner [(.agg [cI p1, cI p2]), (.agg [cI p3, cI p4])] [] = some ((B (decide (p1 < p3) || (decide (p1 = p3) && decide (p2 < p4)))), [])
theorem T_ref23_Sooner_ok (k : Nat) (p1 : Int) (p2 : Int) (p3 : Int) (p4 : Int) (r : Unit) : T_ref23_Sooner k p1 p2 p3 p4 = some r → C_T_ref23_Sooner k p1 p2 p3 p4 r := by
 intro H
 cases k with
 | zero => simp [T_ref23_Sooner] at H
 | succ k =>
  simp only [T_ref23_Sooner] at H
  refine F_in X_ref23_Sooner rfl ?_
  refine K_seq (K_r [] [] (by kernel_rfl) trivial ?_)
  refine K_seq (K_r [.m, .m] ((fun (z1 : Heap) => [decide (p1 < p3) = false → AllT [z1 = z1], z1 = z1]) [.cells [cI p1, cI p2], .cells [cI p3, cI p4]]) (by kernel_rfl) (AC (fun _ => (A1 rfl)) (A1 rfl)) ?_)
  refine K_g (by kernel_rfl) ?_
  cases H
  refine K_ret ?_
  kernel_rfl
def T_ref23_Before (k : Nat) (p1 : Int) (p2 : Int) (p3 : Int) (p4 : Int) (p5 : Int) (p6 : Int) (p7 : Int) (p8 : Int) : Option Bool := match k with
 | 0 => none
 | k + 1 => ((T_ref01_Less k p1 p2 p5 p6).bind fun x1 => (if x1 = true then some true else ((((T_ref01_Less k p5 p6 p1 p2).bind fun x3 => (if (!x3) = true then ((T_ref23_Sooner k p3 p4 p7 p8).bind fun x6 => some (decide (p3 < p7) || (decide (p3 = p7) && decide (p4 < p8)))) else some false))).bind fun x7 => some x7)))
abbrev C_T_ref23_Before (k : Nat) (p1 : Int) (p2 : Int) (p3 : Int) (p4 : Int) (p5 : Int) (p6 : Int) (p7 : Int) (p8 : Int) (r : Bool) : Prop := evF X k n_ref23_Before [(.agg [cI p1, cI p2, cI p3, cI p4]), (.agg [cI p5, cI p6, cI p7, cI p8])] [] = some ((B r), [])
theorem T_ref23_Before_ok (k : Nat) (p1 : Int) (p2 : Int) (p3 : Int) (p4 : Int) (p5 : Int) (p6 : Int) (p7 : Int) (p8 : Int) (r : Bool) : T_ref23_Before k p1 p2 p3 p4 p5 p6 p7 p8 = some r → C_T_ref23_Before k p1 p2 p3 p4 p5 p6 p7 p8 r := by
 intro H
 cases k with
 | zero => simp [T_ref23_Before] at H
 | succ k =>
  simp only [T_ref23_Before] at H
  refine F_in X_ref23_Before rfl ?_
  refine K_seq (K_r [] [] (by kernel_rfl) trivial ?_)
  refine K_seq ?_
  refine K_seq ?_
  obtain ⟨x1, hx1, H⟩ := bind_some' H
  refine K_r [.r (B x1) []] [C_T_ref01_Less k p1 p2 p5 p6 x1] (by kernel_rfl) (A1 (T_ref01_Less_ok k p1 p2 p5 p6 x1 hx1)) ?_
  rcases ite_some H with ⟨hx2, H⟩ | ⟨hx2, H⟩
  · refine K_t (by kernel_rfl) hx2 ?_
    refine K_seq (K_r [] [] (by kernel_rfl) trivial ?_)
    refine K_g (by kernel_rfl) ?_
    cases H
    refine K_ret ?_
    kernel_rfl
  · refine K_f (by kernel_rfl) (Bool.eq_false_iff.2 hx2) ?_
    refine K_g (by kernel_rfl) ?_
    refine K_skip ?_
    refine K_seq ?_
    obtain ⟨x7, hx7, H⟩ := bind_some' H
    refine K_of ⟨[(4, (B x7))], []⟩ ?_ ?_
    · clear H; have H := hx7; clear hx7; refine K_in ?_
      obtain ⟨x3, hx3, H⟩ := bind_some' H
      rcases ite_some H with ⟨hx5, H⟩ | ⟨hx5, H⟩
      · obtain ⟨x6, hx6, H⟩ := bind_some' H
        refine K_r [.r (B x3) [], .b true, .r (B (decide (p3 < p7) || (decide (p3 = p7) && decide (p4 < p8)))) []] [C_T_ref01_Less k p5 p6 p1 p2 x3, (!x3) = true, C_T_ref23_Sooner k p3 p4 p7 p8 x6] (by kernel_rfl) (AC (T_ref01_Less_ok k p5 p6 p1 p2 x3 hx3) (AC hx5 (A1 (T_ref23_Sooner_ok k p3 p4 p7 p8 x6 hx6)))) ?_
        cases H
        exact K_end (by kernel_rfl)
      · refine K_r [.r (B x3) [], .b false] [C_T_ref01_Less k p5 p6 p1 p2 x3, (!x3) = false] (by kernel_rfl) (AC (T_ref01_Less_ok k p5 p6 p1 p2 x3 hx3) (A1 (Bool.eq_false_iff.2 hx5))) ?_
        cases H
        exact K_end (by kernel_rfl)
    refine K_g (by kernel_rfl) ?_
    cases H
    refine K_ret ?_
    kernel_rfl
def T_law23_agree (k : Nat) (p1 : List (List Int)) (p2 : Int) (p3 : Int) (p4 : Int) (p5 : Int) (p6 : Int) (p7 : Int) (p8 : Int) (p9 : Int) (p10 : Int) (p11 : Int) (p12 : Int) : Option Bool := match k with
 | 0 => none
 | k + 1 => ((T_store_Places k p1 p4).bind fun x1 => (T_ref23_Places k p1 p4).bind fun x2 => (T_store_Window k p1 p2 p3 p4).bind fun x3 => (T_ref23_Window k p1 p2 p3 p4).bind fun x4 => ((if (decide (x1.2 = x2.2) && decide (x3.2 = x4.2)) = true then ((T_ref23_SamePlaces k x1.1 x2.1).bind fun x7 => (if x7 = true then ((T_ref23_SameInts k x3.1 x4.1).bind fun x10 => (if x10 = true then ((T_store_Check k p1).bind fun x14 => (T_ref23_Check k p1).bind fun x15 => (if x14 = x15 then ((T_store_Before k p5 p6 p7 p8 p9 p10 p11 p12).bind fun x19 => (T_ref23_Before k p5 p6 p7 p8 p9 p10 p11 p12).bind fun x20 => some ((x19 == x20) && true)) else some false)) else some false)) else some false)) else some false)).bind fun x21 => some x21)
abbrev C_T_law23_agree (k : Nat) (p1 : List (List Int)) (p2 : Int) (p3 : Int) (p4 : Int) (p5 : Int) (p6 : Int) (p7 : Int) (p8 : Int) (p9 : Int) (p10 : Int) (p11 : Int) (p12 : Int) (r : Bool) : Prop := evF X k n_law23_agree [(.agg [.d (.list (p1.map (el (D.int .i64))))]), (.agg [cI p2, cI p3]), (I p4), (.agg [cI p5, cI p6, cI p7, cI p8]), (.agg [cI p9, cI p10, cI p11, cI p12])] [] = some ((B r), [])
theorem T_law23_agree_ok (k : Nat) (p1 : List (List Int)) (p2 : Int) (p3 : Int) (p4 : Int) (p5 : Int) (p6 : Int) (p7 : Int) (p8 : Int) (p9 : Int) (p10 : Int) (p11 : Int) (p12 : Int) (r : Bool) : T_law23_agree k p1 p2 p3 p4 p5 p6 p7 p8 p9 p10 p11 p12 = some r → C_T_law23_agree k p1 p2 p3 p4 p5 p6 p7 p8 p9 p10 p11 p12 r := by
 intro H
 cases k with
 | zero => simp [T_law23_agree] at H
 | succ k =>
  simp only [T_law23_agree] at H
  refine F_in X_law23_agree rfl ?_
  refine K_seq (K_r [] [] (by kernel_rfl) trivial ?_)
  refine K_seq ?_
  obtain ⟨x1, hx1, H⟩ := bind_some' H
  refine K_r [.r (.tup [(false, [.d (.list (x1.1.map e_st0))]), (false, [cI x1.2])]) []] [C_T_store_Places k p1 p4 x1] (by kernel_rfl) (A1 (T_store_Places_ok k p1 p4 x1 hx1)) ?_
  refine K_seq ?_
  obtain ⟨x2, hx2, H⟩ := bind_some' H
  refine K_r [.r (.tup [(false, [.d (.list (x2.1.map e_st0))]), (false, [cI x2.2])]) []] [C_T_ref23_Places k p1 p4 x2] (by kernel_rfl) (A1 (T_ref23_Places_ok k p1 p4 x2 hx2)) ?_
  refine K_seq ?_
  obtain ⟨x3, hx3, H⟩ := bind_some' H
  refine K_r [.r (.tup [(false, [cL x3.1]), (false, [cI x3.2])]) []] [C_T_store_Window k p1 p2 p3 p4 x3] (by kernel_rfl) (A1 (T_store_Window_ok k p1 p2 p3 p4 x3 hx3)) ?_
  refine K_seq ?_
  obtain ⟨x4, hx4, H⟩ := bind_some' H
  refine K_r [.r (.tup [(false, [cL x4.1]), (false, [cI x4.2])]) []] [C_T_ref23_Window k p1 p2 p3 p4 x4] (by kernel_rfl) (A1 (T_ref23_Window_ok k p1 p2 p3 p4 x4 hx4)) ?_
  refine K_seq ?_
  obtain ⟨x21, hx21, H⟩ := bind_some' H
  refine K_of ⟨[(10, (B x21))], []⟩ ?_ ?_
  · clear H; have H := hx21; clear hx21; refine K_in ?_
    rcases ite_some H with ⟨hx6, H⟩ | ⟨hx6, H⟩
    · obtain ⟨x7, hx7, H⟩ := bind_some' H
      rcases ite_some H with ⟨hx9, H⟩ | ⟨hx9, H⟩
      · obtain ⟨x10, hx10, H⟩ := bind_some' H
        rcases ite_some H with ⟨hx13, H⟩ | ⟨hx13, H⟩
        · obtain ⟨x14, hx14, H⟩ := bind_some' H
          obtain ⟨x15, hx15, H⟩ := bind_some' H
          rcases ite_some H with ⟨hx18, H⟩ | ⟨hx18, H⟩
          · obtain ⟨x19, hx19, H⟩ := bind_some' H
            obtain ⟨x20, hx20, H⟩ := bind_some' H
            refine K_r [.m, .b true, .r (B x7) [], .b true, .r (B x10) [], .b true, .r (I x14) [], .r (I x15) [], .b true, .r (B x19) [], .r (B x20) []] ((fun (z1 : Heap) => [z1 = z1, (decide (x1.2 = x2.2) && decide (x3.2 = x4.2)) = true, C_T_ref23_SamePlaces k x1.1 x2.1 x7, x7 = true, C_T_ref23_SameInts k x3.1 x4.1 x10, x10 = true, C_T_store_Check k p1 x14, C_T_ref23_Check k p1 x15, decide (x14 = x15) = true, C_T_store_Before k p5 p6 p7 p8 p9 p10 p11 p12 x19, C_T_ref23_Before k p5 p6 p7 p8 p9 p10 p11 p12 x20]) [.cells [.d (.list (p1.map (el (D.int .i64))))], .cells [cI p5, cI p6, cI p7, cI p8], .cells [cI p9, cI p10, cI p11, cI p12]]) (by kernel_rfl) (AC rfl (AC hx6 (AC (T_ref23_SamePlaces_ok k x1.1 x2.1 x7 hx7) (AC hx9 (AC (T_ref23_SameInts_ok k x3.1 x4.1 x10 hx10) (AC hx13 (AC (T_store_Check_ok k p1 x14 hx14) (AC (T_ref23_Check_ok k p1 x15 hx15) (AC (decide_eq_true hx18) (AC (T_store_Before_ok k p5 p6 p7 p8 p9 p10 p11 p12 x19 hx19) (A1 (T_ref23_Before_ok k p5 p6 p7 p8 p9 p10 p11 p12 x20 hx20)))))))))))) ?_
            cases H
            exact K_end (by kernel_rfl)
          · refine K_r [.m, .b true, .r (B x7) [], .b true, .r (B x10) [], .b true, .r (I x14) [], .r (I x15) [], .b false] ((fun (z1 : Heap) => [z1 = z1, (decide (x1.2 = x2.2) && decide (x3.2 = x4.2)) = true, C_T_ref23_SamePlaces k x1.1 x2.1 x7, x7 = true, C_T_ref23_SameInts k x3.1 x4.1 x10, x10 = true, C_T_store_Check k p1 x14, C_T_ref23_Check k p1 x15, decide (x14 = x15) = false]) [.cells [.d (.list (p1.map (el (D.int .i64))))], .cells [cI p5, cI p6, cI p7, cI p8], .cells [cI p9, cI p10, cI p11, cI p12]]) (by kernel_rfl) (AC rfl (AC hx6 (AC (T_ref23_SamePlaces_ok k x1.1 x2.1 x7 hx7) (AC hx9 (AC (T_ref23_SameInts_ok k x3.1 x4.1 x10 hx10) (AC hx13 (AC (T_store_Check_ok k p1 x14 hx14) (AC (T_ref23_Check_ok k p1 x15 hx15) (A1 (decide_eq_false hx18)))))))))) ?_
            cases H
            exact K_end (by kernel_rfl)
        · refine K_r [.m, .b true, .r (B x7) [], .b true, .r (B x10) [], .b false, .b false] ((fun (z1 : Heap) => [z1 = z1, (decide (x1.2 = x2.2) && decide (x3.2 = x4.2)) = true, C_T_ref23_SamePlaces k x1.1 x2.1 x7, x7 = true, C_T_ref23_SameInts k x3.1 x4.1 x10, x10 = false, false = false]) [.cells [.d (.list (p1.map (el (D.int .i64))))], .cells [cI p5, cI p6, cI p7, cI p8], .cells [cI p9, cI p10, cI p11, cI p12]]) (by kernel_rfl) (AC rfl (AC hx6 (AC (T_ref23_SamePlaces_ok k x1.1 x2.1 x7 hx7) (AC hx9 (AC (T_ref23_SameInts_ok k x3.1 x4.1 x10 hx10) (AC (Bool.eq_false_iff.2 hx13) (A1 rfl))))))) ?_
          cases H
          exact K_end (by kernel_rfl)
      · refine K_r [.m, .b true, .r (B x7) [], .b false, .b false, .b false] ((fun (z1 : Heap) => [z1 = z1, (decide (x1.2 = x2.2) && decide (x3.2 = x4.2)) = true, C_T_ref23_SamePlaces k x1.1 x2.1 x7, x7 = false, false = false, false = false]) [.cells [.d (.list (p1.map (el (D.int .i64))))], .cells [cI p5, cI p6, cI p7, cI p8], .cells [cI p9, cI p10, cI p11, cI p12]]) (by kernel_rfl) (AC rfl (AC hx6 (AC (T_ref23_SamePlaces_ok k x1.1 x2.1 x7 hx7) (AC (Bool.eq_false_iff.2 hx9) (AC rfl (A1 rfl)))))) ?_
        cases H
        exact K_end (by kernel_rfl)
    · refine K_r [.m, .b false, .b false, .b false, .b false] ((fun (z1 : Heap) => [z1 = z1, (decide (x1.2 = x2.2) && decide (x3.2 = x4.2)) = false, false = false, false = false, false = false]) [.cells [.d (.list (p1.map (el (D.int .i64))))], .cells [cI p5, cI p6, cI p7, cI p8], .cells [cI p9, cI p10, cI p11, cI p12]]) (by kernel_rfl) (AC rfl (AC (Bool.eq_false_iff.2 hx6) (AC rfl (AC rfl (A1 rfl))))) ?_
      cases H
      exact K_end (by kernel_rfl)
  refine K_g (by kernel_rfl) ?_
  cases H
  refine K_ret ?_
  kernel_rfl
def T_measure_name (k : Nat) (p1 : Int) : Option ByteArray := match k with
 | 0 => none
 | k + 1 => (if p1 = 1 then some (⟨#[101, 117, 99, 108, 105, 100]⟩ : ByteArray) else (if p1 = 2 then some (⟨#[115, 104, 105, 102, 116, 101, 100]⟩ : ByteArray) else (if p1 = 3 then some (⟨#[110, 111, 114, 109, 97, 108]⟩ : ByteArray) else (if p1 = 4 then some (⟨#[119, 97, 114, 112]⟩ : ByteArray) else (if p1 = 5 then some (⟨#[101, 100, 105, 116]⟩ : ByteArray) else some (⟨#[]⟩ : ByteArray))))))
abbrev C_T_measure_name (k : Nat) (p1 : Int) (r : ByteArray) : Prop := evF X k n_measure_name [(I p1)] [] = some ((.one (.d (.str r))), [])
theorem T_measure_name_ok (k : Nat) (p1 : Int) (r : ByteArray) : T_measure_name k p1 = some r → C_T_measure_name k p1 r := by
 intro H
 cases k with
 | zero => simp [T_measure_name] at H
 | succ k =>
  simp only [T_measure_name] at H
  refine F_in X_measure_name rfl ?_
  refine K_seq (K_r [] [] (by kernel_rfl) trivial ?_)
  refine K_seq (K_seq (K_r [] [] (by kernel_rfl) trivial ?_))
  refine K_block (K_seq (K_r [] [] (by kernel_rfl) trivial ?_))
  rcases ite_some H with ⟨hx1, H⟩ | ⟨hx1, H⟩
  · refine K_t (by kernel_rfl) (decide_eq_true hx1) ?_
    refine K_seq (K_r [] [] (by kernel_rfl) trivial ?_)
    refine K_g (by kernel_rfl) ?_
    cases H
    refine K_ret ?_
    kernel_rfl
  · refine K_f (by kernel_rfl) (decide_eq_false hx1) ?_
    refine K_seq (K_r [] [] (by kernel_rfl) trivial ?_)
    rcases ite_some H with ⟨hx2, H⟩ | ⟨hx2, H⟩
    · refine K_t (by kernel_rfl) (decide_eq_true hx2) ?_
      refine K_seq (K_r [] [] (by kernel_rfl) trivial ?_)
      refine K_g (by kernel_rfl) ?_
      cases H
      refine K_ret ?_
      kernel_rfl
    · refine K_f (by kernel_rfl) (decide_eq_false hx2) ?_
      refine K_seq (K_r [] [] (by kernel_rfl) trivial ?_)
      rcases ite_some H with ⟨hx3, H⟩ | ⟨hx3, H⟩
      · refine K_t (by kernel_rfl) (decide_eq_true hx3) ?_
        refine K_seq (K_r [] [] (by kernel_rfl) trivial ?_)
        refine K_g (by kernel_rfl) ?_
        cases H
        refine K_ret ?_
        kernel_rfl
      · refine K_f (by kernel_rfl) (decide_eq_false hx3) ?_
        refine K_seq (K_r [] [] (by kernel_rfl) trivial ?_)
        rcases ite_some H with ⟨hx4, H⟩ | ⟨hx4, H⟩
        · refine K_t (by kernel_rfl) (decide_eq_true hx4) ?_
          refine K_seq (K_r [] [] (by kernel_rfl) trivial ?_)
          refine K_g (by kernel_rfl) ?_
          cases H
          refine K_ret ?_
          kernel_rfl
        · refine K_f (by kernel_rfl) (decide_eq_false hx4) ?_
          refine K_seq (K_r [] [] (by kernel_rfl) trivial ?_)
          rcases ite_some H with ⟨hx5, H⟩ | ⟨hx5, H⟩
          · refine K_t (by kernel_rfl) (decide_eq_true hx5) ?_
            refine K_seq (K_r [] [] (by kernel_rfl) trivial ?_)
            refine K_g (by kernel_rfl) ?_
            cases H
            refine K_ret ?_
            kernel_rfl
          · refine K_f (by kernel_rfl) (decide_eq_false hx5) ?_
            refine K_g (by kernel_rfl) ?_
            refine K_skip (K_blk (K_seq (K_r [] [] (by kernel_rfl) trivial ?_)))
            refine K_g (by kernel_rfl) ?_
            cases H
            refine K_ret ?_
            kernel_rfl
def T_measure_Check (k : Nat) (p1 : Int) (p2 : Int) (p3 : Int) : Option Int := match k with
 | 0 => none
 | k + 1 => ((T_measure_name k p1).bind fun x1 => ((if ((x1 == (⟨#[]⟩ : ByteArray)) && true) = true then some ((x1 == (⟨#[]⟩ : ByteArray)) && true) else (if ((decide (p2 < 0) || decide (32 < p2)) || ((!decide (p2 = 0)) && (!decide (p1 = 4)))) = true then some ((decide (p2 < 0) || decide (32 < p2)) || ((!decide (p2 = 0)) && (!decide (p1 = 4)))) else some ((decide (p3 < (-1000)) || decide (1000 < p3)) || ((!decide (p3 = 0)) && (!decide (p1 = 5))))))).bind fun x4 => (if x4 = true then some 9 else some 0))
abbrev C_T_measure_Check (k : Nat) (p1 : Int) (p2 : Int) (p3 : Int) (r : Int) : Prop := evF X k n_measure_Check [(.agg [cI p1, cI p2, cI p3])] [] = some ((I r), [])
theorem T_measure_Check_ok (k : Nat) (p1 : Int) (p2 : Int) (p3 : Int) (r : Int) : T_measure_Check k p1 p2 p3 = some r → C_T_measure_Check k p1 p2 p3 r := by
 intro H
 cases k with
 | zero => simp [T_measure_Check] at H
 | succ k =>
  simp only [T_measure_Check] at H
  refine F_in X_measure_Check rfl ?_
  refine K_seq (K_r [] [] (by kernel_rfl) trivial ?_)
  refine K_seq ?_
  refine K_block ?_
  refine K_seq ?_
  refine K_seq ?_
  obtain ⟨x1, hx1, H⟩ := bind_some' H
  refine K_r [.r (.one (.d (.str x1))) []] [C_T_measure_name k p1 x1] (by kernel_rfl) (A1 (T_measure_name_ok k p1 x1 hx1)) ?_
  obtain ⟨x4, hx4, H⟩ := bind_some' H
  refine K_of ⟨[(3, (B x4))], []⟩ ?_ ?_
  · clear H; have H := hx4; clear hx4; refine K_in ?_
    rcases ite_some H with ⟨hx2, H⟩ | ⟨hx2, H⟩
    · refine K_t (by kernel_rfl) hx2 ?_
      refine K_g (by kernel_rfl) ?_
      refine K_skip ?_
      cases H
      exact K_end (by kernel_rfl)
    · refine K_f (by kernel_rfl) (Bool.eq_false_iff.2 hx2) ?_
      refine K_seq (K_r [.m, .m, .m] ((fun (z1 : Heap) => [z1 = z1, (decide (p2 < 0) || decide (32 < p2)) = false → AllT [z1 = z1], z1 = z1]) [.cells [cI p1, cI p2, cI p3]]) (by kernel_rfl) (AC rfl (AC (fun _ => (A1 rfl)) (A1 rfl))) ?_)
      rcases ite_some H with ⟨hx3, H⟩ | ⟨hx3, H⟩
      · refine K_t (by kernel_rfl) hx3 ?_
        refine K_g (by kernel_rfl) ?_
        refine K_skip ?_
        cases H
        exact K_end (by kernel_rfl)
      · refine K_f (by kernel_rfl) (Bool.eq_false_iff.2 hx3) ?_
        refine K_r [.m, .m, .m] ((fun (z1 : Heap) => [z1 = z1, (decide (p3 < (-1000)) || decide (1000 < p3)) = false → AllT [z1 = z1], z1 = z1]) [.cells [cI p1, cI p2, cI p3]]) (by kernel_rfl) (AC rfl (AC (fun _ => (A1 rfl)) (A1 rfl))) ?_
        cases H
        exact K_end (by kernel_rfl)
  rcases ite_some H with ⟨hx5, H⟩ | ⟨hx5, H⟩
  · refine K_t (by kernel_rfl) hx5 ?_
    refine K_seq (K_r [] [] (by kernel_rfl) trivial ?_)
    refine K_g (by kernel_rfl) ?_
    cases H
    refine K_ret ?_
    kernel_rfl
  · refine K_f (by kernel_rfl) (Bool.eq_false_iff.2 hx5) ?_
    refine K_g (by kernel_rfl) ?_
    refine K_skip (K_blk (K_seq (K_r [] [] (by kernel_rfl) trivial ?_)))
    refine K_g (by kernel_rfl) ?_
    cases H
    refine K_ret ?_
    kernel_rfl
def T_store_Query_1 (k : Nat) (p1 : Int) : Option Unit := match k with
 | 0 => none
 | k + 1 => ((T_store_sample k p1).bind fun x1 => some ())
abbrev C_T_store_Query_1 (k : Nat) (p1 : Int) (r : Unit) : Prop := evF X k n_store_Query_1 [(I p1)] [] = some ((B (!(decide ((-1000) ≤ p1) && decide (p1 ≤ 1000)))), [])
theorem T_store_Query_1_ok (k : Nat) (p1 : Int) (r : Unit) : T_store_Query_1 k p1 = some r → C_T_store_Query_1 k p1 r := by
 intro H
 cases k with
 | zero => simp [T_store_Query_1] at H
 | succ k =>
  simp only [T_store_Query_1] at H
  refine F_in X_store_Query_1 rfl ?_
  refine K_seq (K_r [] [] (by kernel_rfl) trivial ?_)
  refine K_seq ?_
  obtain ⟨x1, hx1, H⟩ := bind_some' H
  refine K_r [.r (B (decide ((-1000) ≤ p1) && decide (p1 ≤ 1000))) []] [C_T_store_sample k p1 x1] (by kernel_rfl) (A1 (T_store_sample_ok k p1 x1 hx1)) ?_
  refine K_g (by kernel_rfl) ?_
  cases H
  refine K_ret ?_
  kernel_rfl
def T_slices_IndexFunc_b354_v2_l1 (k : Nat) (p1 : List Int) (x2 : Int) (x8 : Int) : Option (Int ⊕ (Unit ⊕ Int)) :=
 (if x8 < x2 then ((at? p1 x8).bind fun x10 => (T_store_Query_1 k x10).bind fun x11 => (if (!(decide ((-1000) ≤ x10) && decide (x10 ≤ 1000))) = true then some (.inr (.inr x8)) else some (.inl (w64 (x8 + 1))))) else some (.inr (.inl ())))
theorem T_slices_IndexFunc_b354_v2_l1_ok (k : Nat) (p1 : List Int) (x2 : Int) : ∀ (x8 : Int) (x : Int ⊕ (Unit ⊕ Int)), T_slices_IndexFunc_b354_v2_l1 k p1 x2 x8 = some x → evC X (evF X k) k 0 l_slices_IndexFunc_b354_1 ⟨[(0, (LI p1)), (1, (.one (.fn (.func n_store_Query_1) []))), (7, (I x2)), (8, (I x8))], []⟩ = some (outS (fun (s : Int) => ⟨[(0, (LI p1)), (1, (.one (.fn (.func n_store_Query_1) []))), (7, (I x2)), (8, (I s))], []⟩) (fun (r : Unit ⊕ Int) => Sum.elim (fun y => (.exit 0, ⟨[], []⟩)) (fun y => (.ret, ⟨[(4, (I y))], []⟩)) r) x) := by
 intro x8 x H
 unfold T_slices_IndexFunc_b354_v2_l1 at H
 refine K_in ?_
 refine K_seq (K_r [] [] (by kernel_rfl) trivial ?_)
 refine K_seq ?_
 rcases ite_some H with ⟨hx9, H⟩ | ⟨hx9, H⟩
 · refine K_t (by kernel_rfl) (decide_eq_true hx9) ?_
   refine K_g (by kernel_rfl) ?_
   refine K_skip (K_seq (K_block (K_seq (K_r [] [] (by kernel_rfl) trivial ?_))))
   refine K_seq ?_
   obtain ⟨x10, hx10, H⟩ := bind_some' H
   obtain ⟨x11, hx11, H⟩ := bind_some' H
   refine K_r [.l [.int .i64 x10], .r (B (!(decide ((-1000) ≤ x10) && decide (x10 ≤ 1000)))) []] [(0 : Int) ≤ x8 ∧ x8 < (((p1.map (D.int .i64))).length : Int), ((p1.map (D.int .i64)).getD x8.toNat (.int .i64 0)).cells = [.int .i64 x10], C_T_store_Query_1 k x10 x11] (by kernel_rfl) (AC (at_ok hx10 (D.int .i64) (.int .i64 0)).1 (AC (at_ok hx10 (D.int .i64) (.int .i64 0)).2 (A1 (T_store_Query_1_ok k x10 x11 hx11)))) ?_
   rcases ite_some H with ⟨hx12, H⟩ | ⟨hx12, H⟩
   · refine K_t (by kernel_rfl) hx12 ?_
     refine K_seq (K_r [] [] (by kernel_rfl) trivial ?_)
     refine K_g (by kernel_rfl) ?_
     cases H
     exact K_ret (by kernel_rfl)
   · refine K_f (by kernel_rfl) (Bool.eq_false_iff.2 hx12) ?_
     refine K_g (by kernel_rfl) ?_
     refine K_skip (K_blk (K_r [] [] (by kernel_rfl) trivial ?_))
     cases H
     exact K_end (by kernel_rfl)
 · refine K_f (by kernel_rfl) (decide_eq_false hx9) ?_
   refine K_g (by kernel_rfl) ?_
   cases H
   exact K_exit0 rfl (by kernel_rfl)
def T_slices_IndexFunc_b354_v2 (k : Nat) (p1 : List Int) : Option Int := match k with
 | 0 => none
 | k + 1 => ((loopT (T_slices_IndexFunc_b354_v2_l1 k p1 (p1.length : Int)) k 0).bind fun x13 => (match x13 with | .inl x14 => some (-1) | .inr x15 => some x15))
abbrev C_T_slices_IndexFunc_b354_v2 (k : Nat) (p1 : List Int) (r : Int) : Prop := evF X k n_slices_IndexFunc_b354 [(LI p1), (.one (.fn (.func n_store_Query_1) []))] [] = some ((I r), [])
theorem T_slices_IndexFunc_b354_v2_ok (k : Nat) (p1 : List Int) (r : Int) : T_slices_IndexFunc_b354_v2 k p1 = some r → C_T_slices_IndexFunc_b354_v2 k p1 r := by
 intro H
 cases k with
 | zero => simp [T_slices_IndexFunc_b354_v2] at H
 | succ k =>
  simp only [T_slices_IndexFunc_b354_v2] at H
  refine F_in X_slices_IndexFunc_b354 rfl ?_
  refine K_seq (K_r [] [] (by kernel_rfl) trivial ?_)
  refine K_seq (K_seq (K_r [.n p1.length] [((p1.map (D.int .i64))).length = p1.length] (by kernel_rfl) (A1 (List.length_map _)) ?_))
  refine K_block (K_conv (σ' := ⟨[(0, (LI p1)), (1, (.one (.fn (.func n_store_Query_1) []))), (7, (I (p1.length : Int))), (8, (I 0))], []⟩) (by kernel_rfl) ?_)
  obtain ⟨x13, hx13, H⟩ := bind_some' H
  cases x13 with
  | inl x14 =>
   dsimp only at H
   refine K_loop ⟨[], []⟩ (loop_ok (fun (s : Int) => ⟨[(0, (LI p1)), (1, (.one (.fn (.func n_store_Query_1) []))), (7, (I (p1.length : Int))), (8, (I s))], []⟩) (fun (r : Unit ⊕ Int) => Sum.elim (fun y => (.exit 0, ⟨[], []⟩)) (fun y => (.ret, ⟨[(4, (I y))], []⟩)) r) (fun r h => by cases r <;> cases h) (T_slices_IndexFunc_b354_v2_l1_ok k p1 (p1.length : Int)) k 0 (.inl x14) hx13) rfl ?_
   refine K_seq (K_r [] [] (by kernel_rfl) trivial ?_)
   refine K_g (by kernel_rfl) ?_
   cases H
   refine K_ret ?_
   kernel_rfl
  | inr x15 =>
   dsimp only at H
   have H := Option.some.inj H; subst H
   refine K_loopr ⟨[(4, (I x15))], []⟩ (loop_ok (fun (s : Int) => ⟨[(0, (LI p1)), (1, (.one (.fn (.func n_store_Query_1) []))), (7, (I (p1.length : Int))), (8, (I s))], []⟩) (fun (r : Unit ⊕ Int) => Sum.elim (fun y => (.exit 0, ⟨[], []⟩)) (fun y => (.ret, ⟨[(4, (I y))], []⟩)) r) (fun r h => by cases r <;> cases h) (T_slices_IndexFunc_b354_v2_l1_ok k p1 (p1.length : Int)) k 0 (.inr x15) hx13) ?_
   kernel_rfl
def T_slices_ContainsFunc_b354_v2 (k : Nat) (p1 : List Int) : Option Bool := match k with
 | 0 => none
 | k + 1 => ((T_slices_IndexFunc_b354_v2 k p1).bind fun x1 => some (decide (0 ≤ x1)))
abbrev C_T_slices_ContainsFunc_b354_v2 (k : Nat) (p1 : List Int) (r : Bool) : Prop := evF X k n_slices_ContainsFunc_b354 [(LI p1), (.one (.fn (.func n_store_Query_1) []))] [] = some ((B r), [])
theorem T_slices_ContainsFunc_b354_v2_ok (k : Nat) (p1 : List Int) (r : Bool) : T_slices_ContainsFunc_b354_v2 k p1 = some r → C_T_slices_ContainsFunc_b354_v2 k p1 r := by
 intro H
 cases k with
 | zero => simp [T_slices_ContainsFunc_b354_v2] at H
 | succ k =>
  simp only [T_slices_ContainsFunc_b354_v2] at H
  refine F_in X_slices_ContainsFunc_b354 rfl ?_
  refine K_seq (K_r [] [] (by kernel_rfl) trivial ?_)
  refine K_seq ?_
  obtain ⟨x1, hx1, H⟩ := bind_some' H
  refine K_r [.r (I x1) []] [C_T_slices_IndexFunc_b354_v2 k p1 x1] (by kernel_rfl) (A1 (T_slices_IndexFunc_b354_v2_ok k p1 x1 hx1)) ?_
  refine K_g (by kernel_rfl) ?_
  cases H
  refine K_ret ?_
  kernel_rfl
def T_store_Query (k : Nat) (p1 : Int) (p2 : Int) (p3 : Int) (p4 : List Int) : Option Int := match k with
 | 0 => none
 | k + 1 => ((T_measure_Check k p1 p2 p3).bind fun x1 => (if (!decide (x1 = 0)) = true then some x1 else ((T_store_length k (p4.length : Int)).bind fun x3 => (if (!(decide (2 ≤ (p4.length : Int)) && decide ((p4.length : Int) ≤ 32))) = true then some 8 else ((T_slices_ContainsFunc_b354_v2 k p4).bind fun x5 => (if x5 = true then some 12 else some 0))))))
abbrev C_T_store_Query (k : Nat) (p1 : Int) (p2 : Int) (p3 : Int) (p4 : List Int) (r : Int) : Prop := evF X k n_store_Query [(.agg [cI p1, cI p2, cI p3]), (LI p4)] [] = some ((I r), [])
theorem T_store_Query_ok (k : Nat) (p1 : Int) (p2 : Int) (p3 : Int) (p4 : List Int) (r : Int) : T_store_Query k p1 p2 p3 p4 = some r → C_T_store_Query k p1 p2 p3 p4 r := by
 intro H
 cases k with
 | zero => simp [T_store_Query] at H
 | succ k =>
  simp only [T_store_Query] at H
  refine F_in X_store_Query rfl ?_
  refine K_seq (K_r [] [] (by kernel_rfl) trivial ?_)
  refine K_seq ?_
  refine K_seq ?_
  obtain ⟨x1, hx1, H⟩ := bind_some' H
  refine K_r [.r (I x1) []] [C_T_measure_Check k p1 p2 p3 x1] (by kernel_rfl) (A1 (T_measure_Check_ok k p1 p2 p3 x1 hx1)) ?_
  refine K_seq (K_r [] [] (by kernel_rfl) trivial ?_)
  rcases ite_some H with ⟨hx2, H⟩ | ⟨hx2, H⟩
  · refine K_t (by kernel_rfl) hx2 ?_
    refine K_seq (K_r [] [] (by kernel_rfl) trivial ?_)
    refine K_g (by kernel_rfl) ?_
    cases H
    refine K_ret ?_
    kernel_rfl
  · refine K_f (by kernel_rfl) (Bool.eq_false_iff.2 hx2) ?_
    refine K_g (by kernel_rfl) ?_
    refine K_skip ?_
    refine K_seq ?_
    refine K_seq ?_
    obtain ⟨x3, hx3, H⟩ := bind_some' H
    refine K_r [.n p4.length, .r (B (decide (2 ≤ (p4.length : Int)) && decide ((p4.length : Int) ≤ 32))) []] [((p4.map (D.int .i64))).length = p4.length, C_T_store_length k (p4.length : Int) x3] (by kernel_rfl) (AC (List.length_map _) (A1 (T_store_length_ok k (p4.length : Int) x3 hx3))) ?_
    rcases ite_some H with ⟨hx4, H⟩ | ⟨hx4, H⟩
    · refine K_t (by kernel_rfl) hx4 ?_
      refine K_seq (K_r [] [] (by kernel_rfl) trivial ?_)
      refine K_g (by kernel_rfl) ?_
      cases H
      refine K_ret ?_
      kernel_rfl
    · refine K_f (by kernel_rfl) (Bool.eq_false_iff.2 hx4) ?_
      refine K_g (by kernel_rfl) ?_
      refine K_skip ?_
      refine K_seq ?_
      refine K_seq ?_
      obtain ⟨x5, hx5, H⟩ := bind_some' H
      refine K_r [.r (B x5) []] [C_T_slices_ContainsFunc_b354_v2 k p4 x5] (by kernel_rfl) (A1 (T_slices_ContainsFunc_b354_v2_ok k p4 x5 hx5)) ?_
      rcases ite_some H with ⟨hx6, H⟩ | ⟨hx6, H⟩
      · refine K_t (by kernel_rfl) hx6 ?_
        refine K_seq (K_r [] [] (by kernel_rfl) trivial ?_)
        refine K_g (by kernel_rfl) ?_
        cases H
        refine K_ret ?_
        kernel_rfl
      · refine K_f (by kernel_rfl) (Bool.eq_false_iff.2 hx6) ?_
        refine K_g (by kernel_rfl) ?_
        refine K_skip (K_seq (K_r [] [] (by kernel_rfl) trivial ?_))
        refine K_g (by kernel_rfl) ?_
        cases H
        refine K_ret ?_
        kernel_rfl
def T_ref04_Sample (k : Nat) (p1 : Int) : Option Unit := match k with
 | 0 => none
 | k + 1 => some ()
abbrev C_T_ref04_Sample (k : Nat) (p1 : Int) (r : Unit) : Prop := evF X k n_ref04_Sample [(I p1)] [] = some ((B (decide ((-1000) ≤ p1) && decide (p1 ≤ 1000))), [])
theorem T_ref04_Sample_ok (k : Nat) (p1 : Int) (r : Unit) : T_ref04_Sample k p1 = some r → C_T_ref04_Sample k p1 r := by
 intro H
 cases k with
 | zero => simp [T_ref04_Sample] at H
 | succ k =>
  simp only [T_ref04_Sample] at H
  refine F_in X_ref04_Sample rfl ?_
  refine K_seq (K_r [] [] (by kernel_rfl) trivial ?_)
  refine K_seq (K_r [.m] [([] : Heap) = []] (by kernel_rfl) (A1 rfl) ?_)
  refine K_g (by kernel_rfl) ?_
  cases H
  refine K_ret ?_
  kernel_rfl
def T_ref17_Check (k : Nat) (p1 : Int) (p2 : Int) (p3 : Int) : Option Int := match k with
 | 0 => none
 | k + 1 => (((if ((((decide (p1 < 1) || decide (5 < p1)) || decide (p2 < 0)) || decide (32 < p2)) || ((!decide (p1 = 4)) && (!decide (p2 = 0)))) = true then some true else ((T_ref04_Sample k p3).bind fun x3 => some ((!(decide ((-1000) ≤ p3) && decide (p3 ≤ 1000))) || ((!decide (p1 = 5)) && (!decide (p3 = 0))))))).bind fun x4 => (if x4 = true then some 9 else some 0))
abbrev C_T_ref17_Check (k : Nat) (p1 : Int) (p2 : Int) (p3 : Int) (r : Int) : Prop := evF X k n_ref17_Check [(.agg [cI p1, cI p2, cI p3])] [] = some ((I r), [])
theorem T_ref17_Check_ok (k : Nat) (p1 : Int) (p2 : Int) (p3 : Int) (r : Int) : T_ref17_Check k p1 p2 p3 = some r → C_T_ref17_Check k p1 p2 p3 r := by
 intro H
 cases k with
 | zero => simp [T_ref17_Check] at H
 | succ k =>
  simp only [T_ref17_Check] at H
  refine F_in X_ref17_Check rfl ?_
  refine K_seq (K_r [] [] (by kernel_rfl) trivial ?_)
  refine K_seq ?_
  refine K_seq ?_
  obtain ⟨x4, hx4, H⟩ := bind_some' H
  refine K_of ⟨[(46, (B x4))], []⟩ ?_ ?_
  · clear H; have H := hx4; clear hx4; refine K_in ?_
    rcases ite_some H with ⟨hx2, H⟩ | ⟨hx2, H⟩
    · refine K_r [.m, .m, .m, .m, .m, .b true, .b true] ((fun (z1 : Heap) => [z1 = z1, z1 = z1, z1 = z1, (((decide (p1 < 1) || decide (5 < p1)) || decide (p2 < 0)) || decide (32 < p2)) = false → AllT [z1 = z1], z1 = z1, ((((decide (p1 < 1) || decide (5 < p1)) || decide (p2 < 0)) || decide (32 < p2)) || ((!decide (p1 = 4)) && (!decide (p2 = 0)))) = true, true = true]) [.cells [cI p1, cI p2, cI p3]]) (by kernel_rfl) (AC rfl (AC rfl (AC rfl (AC (fun _ => (A1 rfl)) (AC rfl (AC hx2 (A1 rfl))))))) ?_
      cases H
      exact K_end (by kernel_rfl)
    · obtain ⟨x3, hx3, H⟩ := bind_some' H
      refine K_r [.m, .m, .m, .m, .m, .b false, .r (B (decide ((-1000) ≤ p3) && decide (p3 ≤ 1000))) [], .m, .m] ((fun (z1 : Heap) => [z1 = z1, z1 = z1, z1 = z1, (((decide (p1 < 1) || decide (5 < p1)) || decide (p2 < 0)) || decide (32 < p2)) = false → AllT [z1 = z1], z1 = z1, ((((decide (p1 < 1) || decide (5 < p1)) || decide (p2 < 0)) || decide (32 < p2)) || ((!decide (p1 = 4)) && (!decide (p2 = 0)))) = false, C_T_ref04_Sample k p3 x3, (!(decide ((-1000) ≤ p3) && decide (p3 ≤ 1000))) = false → AllT [z1 = z1], z1 = z1]) [.cells [cI p1, cI p2, cI p3]]) (by kernel_rfl) (AC rfl (AC rfl (AC rfl (AC (fun _ => (A1 rfl)) (AC rfl (AC (Bool.eq_false_iff.2 hx2) (AC (T_ref04_Sample_ok k p3 x3 hx3) (AC (fun _ => (A1 rfl)) (A1 rfl))))))))) ?_
      cases H
      exact K_end (by kernel_rfl)
  rcases ite_some H with ⟨hx5, H⟩ | ⟨hx5, H⟩
  · refine K_t (by kernel_rfl) hx5 ?_
    refine K_seq (K_r [] [] (by kernel_rfl) trivial ?_)
    refine K_g (by kernel_rfl) ?_
    cases H
    refine K_ret ?_
    kernel_rfl
  · refine K_f (by kernel_rfl) (Bool.eq_false_iff.2 hx5) ?_
    refine K_g (by kernel_rfl) ?_
    refine K_skip (K_seq (K_r [] [] (by kernel_rfl) trivial ?_))
    refine K_g (by kernel_rfl) ?_
    cases H
    refine K_ret ?_
    kernel_rfl
def T_ref23_Query_l1 (k : Nat) (p4 : List Int) (x10 : Int) : Option (Int ⊕ (Unit ⊕ Unit)) :=
 (if x10 < (p4.length : Int) then ((at? p4 x10).bind fun x12 => (T_ref23_Sample k x12).bind fun x13 => (if (!(decide ((-1000) ≤ x12) && decide (x12 ≤ 1000))) = true then some (.inr (.inr ())) else some (.inl (w64 (x10 + 1))))) else some (.inr (.inl ())))
theorem T_ref23_Query_l1_ok (k : Nat) (p4 : List Int) : ∀ (x10 : Int) (x : Int ⊕ (Unit ⊕ Unit)), T_ref23_Query_l1 k p4 x10 = some x → evC X (evF X k) k 0 l_ref23_Query_1 ⟨[(1, (LI p4)), (6, (I x10))], []⟩ = some (outS (fun (s : Int) => ⟨[(1, (LI p4)), (6, (I s))], []⟩) (fun (r : Unit ⊕ Unit) => Sum.elim (fun y => (.exit 0, ⟨[], []⟩)) (fun y => (.ret, ⟨[(4, (I 12))], []⟩)) r) x) := by
 intro x10 x H
 unfold T_ref23_Query_l1 at H
 refine K_in ?_
 refine K_seq (K_seq (K_r [.n p4.length] [((p4.map (D.int .i64))).length = p4.length] (by kernel_rfl) (A1 (List.length_map _)) ?_))
 rcases ite_some H with ⟨hx11, H⟩ | ⟨hx11, H⟩
 · refine K_t (by kernel_rfl) (decide_eq_true hx11) ?_
   refine K_g (by kernel_rfl) ?_
   refine K_skip ?_
   refine K_seq ?_
   refine K_block ?_
   refine K_seq ?_
   obtain ⟨x12, hx12, H⟩ := bind_some' H
   obtain ⟨x13, hx13, H⟩ := bind_some' H
   refine K_r [.l [.int .i64 x12], .r (B (decide ((-1000) ≤ x12) && decide (x12 ≤ 1000))) []] [(0 : Int) ≤ x10 ∧ x10 < (((p4.map (D.int .i64))).length : Int), ((p4.map (D.int .i64)).getD x10.toNat (.int .i64 0)).cells = [.int .i64 x12], C_T_ref23_Sample k x12 x13] (by kernel_rfl) (AC (at_ok hx12 (D.int .i64) (.int .i64 0)).1 (AC (at_ok hx12 (D.int .i64) (.int .i64 0)).2 (A1 (T_ref23_Sample_ok k x12 x13 hx13)))) ?_
   rcases ite_some H with ⟨hx14, H⟩ | ⟨hx14, H⟩
   · refine K_t (by kernel_rfl) hx14 ?_
     refine K_seq (K_r [] [] (by kernel_rfl) trivial ?_)
     refine K_g (by kernel_rfl) ?_
     cases H
     exact K_ret (by kernel_rfl)
   · refine K_f (by kernel_rfl) (Bool.eq_false_iff.2 hx14) ?_
     refine K_g (by kernel_rfl) ?_
     refine K_skip (K_blk (K_r [] [] (by kernel_rfl) trivial ?_))
     cases H
     exact K_end (by kernel_rfl)
 · refine K_f (by kernel_rfl) (decide_eq_false hx11) ?_
   refine K_g (by kernel_rfl) ?_
   cases H
   exact K_exit0 rfl (by kernel_rfl)
def T_ref23_Query (k : Nat) (p1 : Int) (p2 : Int) (p3 : Int) (p4 : List Int) : Option Int := match k with
 | 0 => none
 | k + 1 => ((T_ref17_Check k p1 p2 p3).bind fun x1 => (if (!decide (x1 = 0)) = true then some x1 else (if (decide ((p4.length : Int) < 2) || decide (32 < (p4.length : Int))) = true then some 8 else ((loopT (T_ref23_Query_l1 k p4) k 0).bind fun x15 => (match x15 with | .inl x16 => some 0 | .inr x17 => some 12)))))
abbrev C_T_ref23_Query (k : Nat) (p1 : Int) (p2 : Int) (p3 : Int) (p4 : List Int) (r : Int) : Prop := evF X k n_ref23_Query [(.agg [cI p1, cI p2, cI p3]), (LI p4)] [] = some ((I r), [])
theorem T_ref23_Query_ok (k : Nat) (p1 : Int) (p2 : Int) (p3 : Int) (p4 : List Int) (r : Int) : T_ref23_Query k p1 p2 p3 p4 = some r → C_T_ref23_Query k p1 p2 p3 p4 r := by
 intro H
 cases k with
 | zero => simp [T_ref23_Query] at H
 | succ k =>
  simp only [T_ref23_Query] at H
  refine F_in X_ref23_Query rfl ?_
  refine K_seq (K_r [] [] (by kernel_rfl) trivial ?_)
  refine K_seq ?_
  refine K_seq ?_
  obtain ⟨x1, hx1, H⟩ := bind_some' H
  refine K_r [.r (I x1) []] [C_T_ref17_Check k p1 p2 p3 x1] (by kernel_rfl) (A1 (T_ref17_Check_ok k p1 p2 p3 x1 hx1)) ?_
  refine K_seq (K_r [] [] (by kernel_rfl) trivial ?_)
  rcases ite_some H with ⟨hx2, H⟩ | ⟨hx2, H⟩
  · refine K_t (by kernel_rfl) hx2 ?_
    refine K_seq (K_r [] [] (by kernel_rfl) trivial ?_)
    refine K_g (by kernel_rfl) ?_
    cases H
    refine K_ret ?_
    kernel_rfl
  · refine K_f (by kernel_rfl) (Bool.eq_false_iff.2 hx2) ?_
    refine K_g (by kernel_rfl) ?_
    refine K_skip (K_seq (K_seq (K_r [.n p4.length, .m, .n p4.length] [((p4.map (D.int .i64))).length = p4.length, decide ((p4.length : Int) < 2) = false → AllT [((p4.map (D.int .i64))).length = p4.length], ([] : Heap) = []] (by kernel_rfl) (AC (List.length_map _) (AC (fun _ => (A1 (List.length_map _))) (A1 rfl))) ?_)))
    rcases ite_some H with ⟨hx3, H⟩ | ⟨hx3, H⟩
    · refine K_t (by kernel_rfl) hx3 ?_
      refine K_seq (K_r [] [] (by kernel_rfl) trivial ?_)
      refine K_g (by kernel_rfl) ?_
      cases H
      refine K_ret ?_
      kernel_rfl
    · refine K_f (by kernel_rfl) (Bool.eq_false_iff.2 hx3) ?_
      refine K_g (by kernel_rfl) ?_
      refine K_skip (K_seq (K_seq (K_r [] [] (by kernel_rfl) trivial ?_)))
      refine K_block (K_conv (σ' := ⟨[(1, (LI p4)), (6, (I 0))], []⟩) (by kernel_rfl) ?_)
      obtain ⟨x15, hx15, H⟩ := bind_some' H
      cases x15 with
      | inl x16 =>
       dsimp only at H
       refine K_loop ⟨[], []⟩ (loop_ok (fun (s : Int) => ⟨[(1, (LI p4)), (6, (I s))], []⟩) (fun (r : Unit ⊕ Unit) => Sum.elim (fun y => (.exit 0, ⟨[], []⟩)) (fun y => (.ret, ⟨[(4, (I 12))], []⟩)) r) (fun r h => by cases r <;> cases h) (T_ref23_Query_l1_ok k p4) k 0 (.inl x16) hx15) rfl ?_
       refine K_seq (K_r [] [] (by kernel_rfl) trivial ?_)
       refine K_g (by kernel_rfl) ?_
       cases H
       refine K_ret ?_
       kernel_rfl
      | inr x17 =>
       dsimp only at H
       cases H
       refine K_loopr ⟨[(4, (I 12))], []⟩ (loop_ok (fun (s : Int) => ⟨[(1, (LI p4)), (6, (I s))], []⟩) (fun (r : Unit ⊕ Unit) => Sum.elim (fun y => (.exit 0, ⟨[], []⟩)) (fun y => (.ret, ⟨[(4, (I 12))], []⟩)) r) (fun r h => by cases r <;> cases h) (T_ref23_Query_l1_ok k p4) k 0 (.inr x17) hx15) ?_
       kernel_rfl
def T_law23_awake (k : Nat) : Option Bool := if 1000 ≤ k then some true else none
theorem T_law23_awake_run (k : Nat) : evF X (k + 1000) n_law23_awake [] [] = some (B true, []) := by kernel_rfl
abbrev C_T_law23_awake (k : Nat) (r : Bool) : Prop := evF X k n_law23_awake [] [] = some (B r, [])
theorem T_law23_awake_ok (k : Nat) (r : Bool) : T_law23_awake k = some r → evF X k n_law23_awake [] [] = some (B r, []) := by
 intro H
 unfold T_law23_awake at H
 split at H
 · rename_i h
   obtain ⟨j, rfl⟩ := Nat.exists_eq_add_of_le' h
   cases H
   exact T_law23_awake_run j
 · cases H
def T_law23_StoreRaw (k : Nat) (p1 : List (List Int)) (p2 : Int) (p3 : Int) (p4 : Int) (p5 : Int) (p6 : Int) (p7 : Int) (p8 : List Int) (p9 : Int) (p10 : Int) (p11 : Int) (p12 : Int) (p13 : Int) (p14 : Int) (p15 : Int) (p16 : Int) : Option Bool := match k with
 | 0 => none
 | k + 1 => ((((T_law23_light k p1).bind fun x1 => (if ((!x1) || decide (100 < (p8.length : Int))) = true then ((T_law23_awake k).bind fun x6 => some x6) else ((T_law23_agree k p1 p2 p3 p4 p9 p10 p11 p12 p13 p14 p15 p16).bind fun x7 => (if x7 = true then ((T_store_Query k p5 p6 p7 p8).bind fun x11 => (T_ref23_Query k p5 p6 p7 p8).bind fun x12 => (if x11 = x12 then ((T_law23_awake k).bind fun x15 => some x15) else some false)) else some false))))).bind fun x16 => some x16)
abbrev C_T_law23_StoreRaw (k : Nat) (p1 : List (List Int)) (p2 : Int) (p3 : Int) (p4 : Int) (p5 : Int) (p6 : Int) (p7 : Int) (p8 : List Int) (p9 : Int) (p10 : Int) (p11 : Int) (p12 : Int) (p13 : Int) (p14 : Int) (p15 : Int) (p16 : Int) (r : Bool) : Prop := evF X k n_law23_StoreRaw [(.agg [.d (.list (p1.map (el (D.int .i64))))]), (.agg [cI p2, cI p3]), (I p4), (.agg [cI p5, cI p6, cI p7]), (LI p8), (.agg [cI p9, cI p10, cI p11, cI p12]), (.agg [cI p13, cI p14, cI p15, cI p16])] [] = some ((B r), [])
theorem T_law23_StoreRaw_ok (k : Nat) (p1 : List (List Int)) (p2 : Int) (p3 : Int) (p4 : Int) (p5 : Int) (p6 : Int) (p7 : Int) (p8 : List Int) (p9 : Int) (p10 : Int) (p11 : Int) (p12 : Int) (p13 : Int) (p14 : Int) (p15 : Int) (p16 : Int) (r : Bool) : T_law23_StoreRaw k p1 p2 p3 p4 p5 p6 p7 p8 p9 p10 p11 p12 p13 p14 p15 p16 = some r → C_T_law23_StoreRaw k p1 p2 p3 p4 p5 p6 p7 p8 p9 p10 p11 p12 p13 p14 p15 p16 r := by
 intro H
 cases k with
 | zero => simp [T_law23_StoreRaw] at H
 | succ k =>
  simp only [T_law23_StoreRaw] at H
  refine F_in X_law23_StoreRaw rfl ?_
  refine K_seq (K_r [] [] (by kernel_rfl) trivial ?_)
  refine K_seq ?_
  obtain ⟨x16, hx16, H⟩ := bind_some' H
  refine K_of ⟨[(14, (B x16))], []⟩ ?_ ?_
  · clear H; have H := hx16; clear hx16; refine K_in ?_
    obtain ⟨x1, hx1, H⟩ := bind_some' H
    rcases ite_some H with ⟨hx5, H⟩ | ⟨hx5, H⟩
    · obtain ⟨x6, hx6, H⟩ := bind_some' H
      refine K_r [.r (B x1) [], .m, .n p8.length, .b true, .b true, .r (B x6) []] ((fun (z1 : Heap) => [C_T_law23_light k p1 x1, (!x1) = false → AllT [((p8.map (D.int .i64))).length = p8.length], z1 = z1, ((!x1) || decide (100 < (p8.length : Int))) = true, true = true, C_T_law23_awake k x6]) [.cells [.d (.list (p1.map (el (D.int .i64))))], .cells [cI p2, cI p3], .cells [cI p5, cI p6, cI p7], .cells [cI p9, cI p10, cI p11, cI p12], .cells [cI p13, cI p14, cI p15, cI p16]]) (by kernel_rfl) (AC (T_law23_light_ok k p1 x1 hx1) (AC (fun _ => (A1 (List.length_map _))) (AC rfl (AC hx5 (AC rfl (A1 (T_law23_awake_ok k x6 hx6))))))) ?_
      cases H
      exact K_end (by kernel_rfl)
    · obtain ⟨x7, hx7, H⟩ := bind_some' H
      rcases ite_some H with ⟨hx10, H⟩ | ⟨hx10, H⟩
      · obtain ⟨x11, hx11, H⟩ := bind_some' H
        obtain ⟨x12, hx12, H⟩ := bind_some' H
        rcases ite_some H with ⟨hx14, H⟩ | ⟨hx14, H⟩
        · obtain ⟨x15, hx15, H⟩ := bind_some' H
          refine K_r [.r (B x1) [], .m, .n p8.length, .b false, .r (B x7) [], .b true, .r (I x11) [], .r (I x12) [], .b true, .r (B x15) []] ((fun (z1 : Heap) => [C_T_law23_light k p1 x1, (!x1) = false → AllT [((p8.map (D.int .i64))).length = p8.length], z1 = z1, ((!x1) || decide (100 < (p8.length : Int))) = false, C_T_law23_agree k p1 p2 p3 p4 p9 p10 p11 p12 p13 p14 p15 p16 x7, x7 = true, C_T_store_Query k p5 p6 p7 p8 x11, C_T_ref23_Query k p5 p6 p7 p8 x12, decide (x11 = x12) = true, C_T_law23_awake k x15]) [.cells [.d (.list (p1.map (el (D.int .i64))))], .cells [cI p2, cI p3], .cells [cI p5, cI p6, cI p7], .cells [cI p9, cI p10, cI p11, cI p12], .cells [cI p13, cI p14, cI p15, cI p16]]) (by kernel_rfl) (AC (T_law23_light_ok k p1 x1 hx1) (AC (fun _ => (A1 (List.length_map _))) (AC rfl (AC (Bool.eq_false_iff.2 hx5) (AC (T_law23_agree_ok k p1 p2 p3 p4 p9 p10 p11 p12 p13 p14 p15 p16 x7 hx7) (AC hx10 (AC (T_store_Query_ok k p5 p6 p7 p8 x11 hx11) (AC (T_ref23_Query_ok k p5 p6 p7 p8 x12 hx12) (AC (decide_eq_true hx14) (A1 (T_law23_awake_ok k x15 hx15))))))))))) ?_
          cases H
          exact K_end (by kernel_rfl)
        · refine K_r [.r (B x1) [], .m, .n p8.length, .b false, .r (B x7) [], .b true, .r (I x11) [], .r (I x12) [], .b false] ((fun (z1 : Heap) => [C_T_law23_light k p1 x1, (!x1) = false → AllT [((p8.map (D.int .i64))).length = p8.length], z1 = z1, ((!x1) || decide (100 < (p8.length : Int))) = false, C_T_law23_agree k p1 p2 p3 p4 p9 p10 p11 p12 p13 p14 p15 p16 x7, x7 = true, C_T_store_Query k p5 p6 p7 p8 x11, C_T_ref23_Query k p5 p6 p7 p8 x12, decide (x11 = x12) = false]) [.cells [.d (.list (p1.map (el (D.int .i64))))], .cells [cI p2, cI p3], .cells [cI p5, cI p6, cI p7], .cells [cI p9, cI p10, cI p11, cI p12], .cells [cI p13, cI p14, cI p15, cI p16]]) (by kernel_rfl) (AC (T_law23_light_ok k p1 x1 hx1) (AC (fun _ => (A1 (List.length_map _))) (AC rfl (AC (Bool.eq_false_iff.2 hx5) (AC (T_law23_agree_ok k p1 p2 p3 p4 p9 p10 p11 p12 p13 p14 p15 p16 x7 hx7) (AC hx10 (AC (T_store_Query_ok k p5 p6 p7 p8 x11 hx11) (AC (T_ref23_Query_ok k p5 p6 p7 p8 x12 hx12) (A1 (decide_eq_false hx14)))))))))) ?_
          cases H
          exact K_end (by kernel_rfl)
      · refine K_r [.r (B x1) [], .m, .n p8.length, .b false, .r (B x7) [], .b false, .b false] ((fun (z1 : Heap) => [C_T_law23_light k p1 x1, (!x1) = false → AllT [((p8.map (D.int .i64))).length = p8.length], z1 = z1, ((!x1) || decide (100 < (p8.length : Int))) = false, C_T_law23_agree k p1 p2 p3 p4 p9 p10 p11 p12 p13 p14 p15 p16 x7, x7 = false, false = false]) [.cells [.d (.list (p1.map (el (D.int .i64))))], .cells [cI p2, cI p3], .cells [cI p5, cI p6, cI p7], .cells [cI p9, cI p10, cI p11, cI p12], .cells [cI p13, cI p14, cI p15, cI p16]]) (by kernel_rfl) (AC (T_law23_light_ok k p1 x1 hx1) (AC (fun _ => (A1 (List.length_map _))) (AC rfl (AC (Bool.eq_false_iff.2 hx5) (AC (T_law23_agree_ok k p1 p2 p3 p4 p9 p10 p11 p12 p13 p14 p15 p16 x7 hx7) (AC (Bool.eq_false_iff.2 hx10) (A1 rfl))))))) ?_
        cases H
        exact K_end (by kernel_rfl)
  refine K_g (by kernel_rfl) ?_
  cases H
  refine K_ret ?_
  kernel_rfl
end Go.Proofs.YtkeddnagijjbaaaGreat.storeRaw
