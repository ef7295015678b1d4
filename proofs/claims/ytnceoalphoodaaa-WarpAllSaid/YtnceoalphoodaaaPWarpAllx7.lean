/- Told by a program of this session out of the translation: Lean functions with the same answers as the Go functions that the law reaches, and proofs of that; no conditions. -/
import Derived.Test.YtnceoalphoodaaaPWarpAllx0
import Derived.Test.YtnceoalphoodaaaPWarpAllx5
import Derived.Test.YtnceoalphoodaaaPWarpAllx6
namespace Go.Proofs.Ytnceoalphoodaaa.PWarpAll
open Go.RowKit Go.Proofs.YtnceoalphoodaaaW.PrintWords Go.Proofs.YtnceoalphoodaaaW.PrintLast Go.Proofs.YtnceoalphoodaaaW.PrintMore
attribute [local go_sem] max2_int min2_int max_two min_two max_three min_three max_four min_four   -- for this text's walks alone
set_option linter.unusedVariables false
set_option linter.unusedSimpArgs false

/-! ### slices_Min_int_int: function 50 -/
def slices_Min_int_int.l0 : Nat → List Int → Int → Int → Option (Int)
  | 0, _, _, _ => none
  | k + 1, x0, x3, x4 => if x4 < (x0.length : Int) then (if 0 ≤ x4 then (slices_Min_int_int.l0 k x0 (mn x3 (rd x0 x4)) (wrap64 (x4 + 1))) else (none)) else (some x3)
def slices_Min_int_int.f (k : Nat) (l0 : List Int) : Option (Int) := if (l0.length : Int) < 1 then (none) else (if 0 < (l0.length : Int) then (slices_Min_int_int.l0 k l0 (rd l0 0) 1) else (none))
theorem slices_Min_int_int.mono_l : ∀ k, (∀ y0 y1 y2, LeO (slices_Min_int_int.l0 k y0 y1 y2) (slices_Min_int_int.l0 (k + 1) y0 y1 y2))
  | 0 => fun _ _ _ r h => by simp [slices_Min_int_int.l0] at h
  | k + 1 => by
    have ih0 := slices_Min_int_int.mono_l k
    · intro y0 y1 y2
      unfold slices_Min_int_int.l0
      repeat' first
      | (with_reducible exact ih0 _ _ _)
      | (with_reducible exact LeO.refl _)
      | (with_reducible exact LeO.none _)
      | (with_reducible refine LeO.ite ?_ ?_)
      | (with_reducible refine LeO.bind ?_ (fun _ => ?_))
      | exact ih0 _ _ _
      | exact LeO.none _
      | refine LeO.ite ?_ ?_
      | refine LeO.bind ?_ (fun _ => ?_)
theorem slices_Min_int_int.mono : ∀ a0 k, LeO (slices_Min_int_int.f k a0) (slices_Min_int_int.f (k + 1) a0) := by
  intro a0 k
  have ih0 := slices_Min_int_int.mono_l k
  unfold slices_Min_int_int.f
  repeat' first
      | (with_reducible exact ih0 _ _ _)
      | (with_reducible exact LeO.refl _)
      | (with_reducible exact LeO.none _)
      | (with_reducible refine LeO.ite ?_ ?_)
      | (with_reducible refine LeO.bind ?_ (fun _ => ?_))
      | exact ih0 _ _ _
      | exact LeO.none _
      | refine LeO.ite ?_ ?_
      | refine LeO.bind ?_ (fun _ => ?_)
set_option maxHeartbeats 8000000 in
set_option maxRecDepth 100000 in
theorem slices_Min_int_int.calls (k : Nat) (A0 : Option Addr) (c0 : Nat) (l0 : List Int) (r : Int) (w : World) (hr0 : Kd.C (Kd.int .i64) w A0 l0.length l0) (hc0 : l0.length ≤ c0) (h : slices_Min_int_int.f k l0 = some r) :
    Calls Try.prog 50 #[.slice A0 l0.length c0] w fun e w' => e = .returned (.int .i64 r) ∧ Below w.heap.size w w' := by
 have HR0 := Aside0.mk hr0
 have HC0 := Aside0.mk hc0
 clear hr0 hc0
 have HB := Aside0.mk (Below.refl w.heap.size w)
 have H : (if (l0.length : Int) < 1 then (none) else (if 0 < (l0.length : Int) then (slices_Min_int_int.l0 k l0 (rd l0 0) 1) else (none))) = some r := h
 clear h
 by_cases c2 : (l0.length : Int) < 1
 ·rw [if_pos c2] at H
  exact absurd H (by simp)
 ·rw [if_neg c2] at H
  have c2b0 : decide ((l0.length : Int) < 1) = false := decide_eq_false c2
  have c2b1 : decide (l0.length < 1) = false := decide_eq_false (by omega)
  clear c2
  by_cases c3 : 0 < (l0.length : Int)
  ·rw [if_pos c3] at H
   have c3b0 : decide (0 < (l0.length : Int)) = true := decide_eq_true c3
   have c3b1 : decide (0 < l0.length) = true := decide_eq_true (by omega)
   clear c3
   have H' := Aside0.mk H
   clear H
   have p264 : 0 ≤ (0 : Int) := (by omega)
   have q264 : 0 < (l0.length : Int) := of_decide_eq_true (by first | (with_reducible assumption) | assumption)
   obtain ⟨ad264, e264, hx264_0⟩ := Kd.at_int HR0.out 0 p264 q264
   cases e264
   have qi264 : (0 < l0.length) = True := eq_true (by omega)
   (try rw [show ((0 : Int)).toNat = 0 from rfl] at hx264_0)
   (try rw [Addr.add_zero'] at hx264_0)
   replace p264 := eq_true p264
   replace q264 := eq_true q264
   go_enter Try.func50, Try.ntmps50
   go_wp2
   go_loopg [3, 4] k (fun kq v3 v4 w' => ∃ (x3_1 : Int) (x4_1 : Int), v3 = .int .i64 x3_1 ∧ v4 = .int .i64 x4_1 ∧ Aside0 (slices_Min_int_int.l0 kq l0 x3_1 x4_1 = some r) ∧ Aside0 (kq ≤ k) ∧ Aside0 (Below w.heap.size w w'))
   case atStart => exact ⟨(rd l0 0), (1), (by first | rfl | (simp; done) | (simp [*]; done)), (by first | rfl | (simp; done) | (simp [*]; done)), H', ⟨Nat.le_refl _⟩, ⟨by repeat (first | (with_reducible first | exact HB.out | apply below_alloc | apply pw_below_drewN | apply below_drew1) | exact HB.out)⟩⟩
   case round =>
    clear H'
    try clear c2
    try clear c2b0
    try clear c2b1
    try clear p2
    try clear q2
    try clear hx2
    try clear qi2
    try clear c3
    try clear c3b0
    try clear c3b1
    try clear hx264_0
    try clear p264
    try clear q264
    obtain ⟨x3_1, x4_1, rfl, rfl, HA, HK1, HB⟩ := hrel
    cases gk with
    | zero => exact absurd HA.out (by simp [slices_Min_int_int.l0])
    | succ k1 =>
     have H := HA.out
     clear HA
     simp only [slices_Min_int_int.l0] at H
     by_cases c4 : x4_1 < (l0.length : Int)
     ·rw [if_pos c4] at H
      have c4b0 : decide (x4_1 < (l0.length : Int)) = true := decide_eq_true c4
      clear c4
      by_cases c5 : 0 ≤ x4_1
      ·rw [if_pos c5] at H
       have c5b0 : decide (0 ≤ x4_1) = true := decide_eq_true c5
       clear c5
       obtain ⟨ji6, hji6⟩ : ∃ j_ : Int, (mn x3_1 (rd l0 x4_1)) = j_ := ⟨_, rfl⟩
       replace H : (slices_Min_int_int.l0 k1 l0 ji6 (wrap64 (x4_1 + 1))) = some r := by first | (rw [hji6] at H; exact H) | (simp only [hji6] at H ⊢; exact H)
       have hji6_ : (if (rd l0 x4_1) < x3_1 then (rd l0 x4_1) else x3_1) = ji6 := hji6
       have H' := Aside0.mk H
       clear H
       have p265 : 0 ≤ (x4_1 : Int) := of_decide_eq_true (by first | (with_reducible assumption) | assumption)
       have q265 : x4_1 < (l0.length : Int) := of_decide_eq_true (by first | (with_reducible assumption) | assumption)
       obtain ⟨ad265, e265, hx265_0⟩ := Kd.at_int HR0.out x4_1 p265 q265
       obtain rfl : ad264 = ad265 := (by injection e265)
       replace hx265_0 := (HB.out.cell (World.block_lt_of_cell? w _ hx265_0)).trans hx265_0
       replace p265 := eq_true p265
       replace q265 := eq_true q265
       go_wp2
       go_roundg k1
       case measure => have := HK1.out; omega
       case rel => exact ⟨(ji6), (wrap64 (x4_1 + 1)), (by first | rfl | (simp; done) | (simp only [← hji6] <;> (first | rfl | simp)) | (simp [*]; done)), (by first | rfl | (simp; done) | (simp [*]; done)), H', ⟨by have := HK1.out; omega⟩, ⟨by repeat (first | (with_reducible first | exact HB.out | apply below_alloc | apply pw_below_drewN | apply below_drew1) | exact HB.out)⟩⟩
      ·rw [if_neg c5] at H
       exact absurd H (by simp)
     ·rw [if_neg c4] at H
      have c4b0 : decide (x4_1 < (l0.length : Int)) = false := decide_eq_false c4
      clear c4
      obtain rfl := Option.some.inj H
      go_wp2
      go_ret
      exact ⟨by first | rfl | (simp [errW_none, errW_some] <;> rfl) | (simp [*, errW_none, errW_some] <;> rfl), by repeat (first | (with_reducible first | exact HB.out | apply below_alloc | apply pw_below_drewN | apply below_drew1) | exact HB.out)⟩
  ·rw [if_neg c3] at H
   exact absurd H (by simp)

/-! ### warp_distance: function 32 -/
def warp_distance.l0 : Nat → List Int → List Int → Int → Int → List Int → List Int → Int → Int → Option (Int)
  | 0, _, _, _, _, _, _, _, _ => none
  | k + 1, x0, x1, x2, x3, x9, x10, x19, x20 => if x20 < x19 then ((warp_fill.f k x9 x10 x0 x1 x2 x20).bind fun t273 => ((slices_Min_int_int.f k t273).bind fun t274 => (if t274 > x3 then (some 4611686018427387904) else (warp_distance.l0 k x0 x1 x2 x3 x10 t273 x19 (wrap64 (x20 + 1)))))) else (if 0 ≤ (wrap64 ((x1.length : Int) - 1)) then (if (wrap64 ((x1.length : Int) - 1)) < (x10.length : Int) then (some (rd x10 (wrap64 ((x1.length : Int) - 1)))) else (none)) else (none))
def warp_distance.f (k : Nat) (l0 : List Int) (l1 : List Int) (a2 : Int) (a3 : Int) : Option (Int) := if 0 ≤ (l1.length : Int) then (if ((l1.length : Int) : Int).toNat ≤ 35184372088832 then (warp_distance.l0 k l0 l1 a2 a3 (List.replicate ((l1.length : Int) : Int).toNat 0) (List.replicate ((l1.length : Int) : Int).toNat 0) (l0.length : Int) 0) else (none)) else (none)
theorem warp_distance.mono_l : ∀ k, (∀ y0 y1 y2 y3 y4 y5 y6 y7, LeO (warp_distance.l0 k y0 y1 y2 y3 y4 y5 y6 y7) (warp_distance.l0 (k + 1) y0 y1 y2 y3 y4 y5 y6 y7))
  | 0 => fun _ _ _ _ _ _ _ _ r h => by simp [warp_distance.l0] at h
  | k + 1 => by
    have ih0 := warp_distance.mono_l k
    · intro y0 y1 y2 y3 y4 y5 y6 y7
      unfold warp_distance.l0
      repeat' first
      | (with_reducible exact ih0 _ _ _ _ _ _ _ _)
      | (with_reducible exact slices_Min_int_int.mono _ _)
      | (with_reducible exact warp_fill.mono _ _ _ _ _ _ _)
      | (with_reducible exact LeO.refl _)
      | (with_reducible exact LeO.none _)
      | (with_reducible refine LeO.ite ?_ ?_)
      | (with_reducible refine LeO.bind ?_ (fun _ => ?_))
      | exact ih0 _ _ _ _ _ _ _ _
      | exact slices_Min_int_int.mono _ _
      | exact warp_fill.mono _ _ _ _ _ _ _
      | exact LeO.none _
      | refine LeO.ite ?_ ?_
      | refine LeO.bind ?_ (fun _ => ?_)
theorem warp_distance.mono : ∀ a0 a1 a2 a3 k, LeO (warp_distance.f k a0 a1 a2 a3) (warp_distance.f (k + 1) a0 a1 a2 a3) := by
  intro a0 a1 a2 a3 k
  have ih0 := warp_distance.mono_l k
  unfold warp_distance.f
  repeat' first
      | (with_reducible exact ih0 _ _ _ _ _ _ _ _)
      | (with_reducible exact slices_Min_int_int.mono _ _)
      | (with_reducible exact warp_fill.mono _ _ _ _ _ _ _)
      | (with_reducible exact LeO.refl _)
      | (with_reducible exact LeO.none _)
      | (with_reducible refine LeO.ite ?_ ?_)
      | (with_reducible refine LeO.bind ?_ (fun _ => ?_))
      | exact ih0 _ _ _ _ _ _ _ _
      | exact slices_Min_int_int.mono _ _
      | exact warp_fill.mono _ _ _ _ _ _ _
      | exact LeO.none _
      | refine LeO.ite ?_ ?_
      | refine LeO.bind ?_ (fun _ => ?_)
def warp_distance.T1 : Bool × List (List Nat × List Nat) := (true, [([], []), ([0], [0]), ([1, 1], [1]), ([], []), ([3], [3]), ([4, 4], [4]), ([2, 0, 1, 2], [2]), ([5, 6, 0, 1, 2, 3, 4, 5, 6], [5])])
def warp_distance.B1 : List Nat := [0, 1, 3, 0, 8, 24, 7, 127]
theorem warp_distance.tab1 : rtab .any (opsOf Try.f32 1) = warp_distance.T1 := by kernel_rfl
theorem warp_distance.bits1 : waitsOk warp_distance.T1.2 warp_distance.B1 = true := by kernel_rfl
set_option maxHeartbeats 8000000 in
set_option maxRecDepth 100000 in
theorem warp_distance.calls (k : Nat) (A0 : Option Addr) (c0 : Nat) (l0 : List Int) (A1 : Option Addr) (c1 : Nat) (l1 : List Int) (a2 : Int) (a3 : Int) (r : Int) (w : World) (hr0 : Kd.C (Kd.int .i64) w A0 l0.length l0) (hc0 : l0.length ≤ c0) (hr1 : Kd.C (Kd.int .i64) w A1 l1.length l1) (hc1 : l1.length ≤ c1) (h : warp_distance.f k l0 l1 a2 a3 = some r) :
    Calls Try.prog 32 #[.slice A0 l0.length c0, .slice A1 l1.length c1, .int .i64 a2, .int .i64 a3] w fun e w' => e = .returned (.int .i64 r) ∧ Below w.heap.size w w' := by
 have HR0 := Aside0.mk hr0
 have HC0 := Aside0.mk hc0
 clear hr0 hc0
 have HR1 := Aside0.mk hr1
 have HC1 := Aside0.mk hc1
 clear hr1 hc1
 have HB := Aside0.mk (Below.refl w.heap.size w)
 have H : (if 0 ≤ (l1.length : Int) then (if ((l1.length : Int) : Int).toNat ≤ 35184372088832 then (warp_distance.l0 k l0 l1 a2 a3 (List.replicate ((l1.length : Int) : Int).toNat 0) (List.replicate ((l1.length : Int) : Int).toNat 0) (l0.length : Int) 0) else (none)) else (none)) = some r := h
 clear h
 by_cases c5 : 0 ≤ (l1.length : Int)
 ·rw [if_pos c5] at H
  have c5b0 := eq_true c5
  have c5b1 : decide (0 ≤ (l1.length : Int)) = true := decide_eq_true c5
  clear c5
  by_cases c6 : ((l1.length : Int) : Int).toNat ≤ 35184372088832
  ·rw [if_pos c6] at H
   have c6b0 := eq_true c6
   have c6b1 : decide (((l1.length : Int) : Int).toNat ≤ 35184372088832) = true := decide_eq_true c6
   clear c6
   obtain ⟨y266, hy266⟩ : ∃ y_ : List Int, y_ = (List.replicate ((l1.length : Int) : Int).toNat 0) := ⟨_, rfl⟩
   replace H : (warp_distance.l0 k l0 l1 a2 a3 y266 (List.replicate ((l1.length : Int) : Int).toNat 0) (l0.length : Int) 0) = some r := by first | (rw [hy266]; with_reducible exact H) | (have H2_ := (Option.bind_some _ _).symm.trans H; rw [hy266]; with_reducible exact H2_) | (have H2_ := (Option.bind_some _ _).symm.trans H; with_reducible exact H2_) | with_reducible exact H | (rw [hy266]; exact H) | exact H
   have Ny266 := Aside0.mk hy266
   clear hy266
   obtain ⟨y269, hy269⟩ : ∃ y_ : List Int, y_ = (List.replicate ((l1.length : Int) : Int).toNat 0) := ⟨_, rfl⟩
   replace H : (warp_distance.l0 k l0 l1 a2 a3 y266 y269 (l0.length : Int) 0) = some r := by first | (rw [hy269]; with_reducible exact H) | (have H2_ := (Option.bind_some _ _).symm.trans H; rw [hy269]; with_reducible exact H2_) | (have H2_ := (Option.bind_some _ _).symm.trans H; with_reducible exact H2_) | with_reducible exact H | (rw [hy269]; exact H) | exact H
   have Ny269 := Aside0.mk hy269
   clear hy269
   have H' := Aside0.mk H
   clear H
   go_enter Try.func32, Try.ntmps32
   try go_wp2
   have n0_ := Aside0.mk (below_drew1 HB.out)
   clear HB
   have HB := n0_
   clear n0_
   refine start_ (n := 8) (S := fun w' => True) (ds := []) #[false,false,false,false,false,false,false,false] (by kernel_rfl) rfl rfl trivial (fun hHeld => ?_); refine with_tabW warp_distance.tab1 warp_distance.bits1 (fun HT_ HW_ => ?_)
   generalize w.drew = w7 at HB hHeld ⊢
   refine pure_ (i := 0) (N := some 12) (v := ?_) (a' := ?_) #[true,false,false,false,false,false,false,false] rfl rfl (any_of HT_.out (by kernel_rfl)) (fun _ _ _ h => h) (Or.inl ⟨by rfl, ?_⟩) ?_ ?_
   rotate_left
   ·intro w'
    go_simp
    with_reducible rfl
   rotate_left
   ·simp only [Act.put, List.setIfInBounds_toArray, List.set_cons_zero, List.set_cons_succ, i64_w, i32_w]
    rfl
   refine pure_ (i := 1) (N := some 13) (v := ?_) (a' := ?_) #[true,true,false,false,false,false,false,false] rfl rfl (any_of HT_.out (by kernel_rfl)) (fun _ _ _ h => h) (Or.inl ⟨by rfl, ?_⟩) ?_ ?_
   rotate_left
   ·intro w'
    go_simp
    with_reducible rfl
   rotate_left
   ·simp only [Act.put, List.setIfInBounds_toArray, List.set_cons_zero, List.set_cons_succ, i64_w, i32_w]
    rfl
   refine pure_ (i := 3) (N := some 15) (v := ?_) (a' := ?_) #[true,true,false,true,false,false,false,false] rfl rfl (any_of HT_.out (by kernel_rfl)) (fun _ _ _ h => h) (Or.inl ⟨by rfl, ?_⟩) ?_ ?_
   rotate_left
   ·intro w'
    go_simp
    with_reducible rfl
   rotate_left
   ·simp only [Act.put, List.setIfInBounds_toArray, List.set_cons_zero, List.set_cons_succ, i64_w, i32_w]
    rfl
   refine pure_ (i := 4) (N := some 16) (v := ?_) (a' := ?_) #[true,true,false,true,true,false,false,false] rfl rfl (any_of HT_.out (by kernel_rfl)) (fun _ _ _ h => h) (Or.inl ⟨by rfl, ?_⟩) ?_ ?_
   rotate_left
   ·intro w'
    go_simp
    with_reducible rfl
   rotate_left
   ·simp only [Act.put, List.setIfInBounds_toArray, List.set_cons_zero, List.set_cons_succ, i64_w, i32_w]
    rfl
   refine join_ (σ := Value × Value) 1 #[true,true,true,true,true,true,true,false] (fun s_ => [(14, s_.1), (17, s_.2), (9, s_.1)]) (fun s_ w' => (Kd.R (Kd.int .i64) 3 w' w.heap.size (fun k_ => some k_ ≠ (s_.2 : Value).ownBlock) s_.1 y266) ∧ (Kd.R (Kd.int .i64) 3 w' w.heap.size (fun k_ => some k_ ≠ (s_.1 : Value).ownBlock) s_.2 y269) ∧ (Below w.heap.size w w')) ?_ ?_
   rotate_left
   ·intro hCont
    refine two_ (i := 2) (j := 5) (Ni := some 14) (Nj := some 17) #[true,true,true,true,true,false,false,false] #[true,true,false,true,true,true,false,false] rfl rfl rfl rfl (two_of HT_.out (by kernel_rfl)) (by decide) (by decide) (fun K hK => ?_) (fun K hK => ?_)
    ·skip
     refine Kd.R_make_step (Kd.int .i64) _ 3 (by rfl) (N := 14) rfl 22 _ _ rfl (l1.length : Int) rfl rfl Try.underlying22 (.int .i64 0) 8 info3 rfl (by decide) (by omega) 0 (ok := fun _ => True) (okp := fun _ => True) rfl (fun _ hk => hk) trivial (of_decide_eq_true (by first | (with_reducible assumption) | assumption)) (Nat.le_trans (Nat.mul_le_mul_right _ (of_decide_eq_true (by first | (with_reducible assumption) | assumption) : (l1.length : Int).toNat ≤ 35184372088832)) (by omega)) (Below.refl _ _) (Nat.le_refl _) ?_
     intro v267 w8 ho9 hb hg_ hnew_
     clear hg_ hnew_
     (first | rw [← Ny266.out] at ho9 | (simp only [Int.reduceToNat] at ho9; rw [← Ny266.out] at ho9))
     have n0_ := Aside0.mk (Kd.R_lower ho9 (below_size (by repeat (first | (with_reducible first | exact HB.out | apply below_alloc | apply pw_below_drewN | apply below_drew1) | exact HB.out))))
     have n1_ := Aside0.mk (below_step (by repeat (first | (with_reducible first | exact HB.out | apply below_alloc | apply pw_below_drewN | apply below_drew1) | exact HB.out)) hb)
     clear HB
     have HO268 := n0_
     have HB := n1_
     clear n0_ n1_
     clear hb ho9
     refine hK.out _ _ trivial (fun hHeld => ?_)
     clear hK K
     refine norm_ (a' := ?_) ?_ ?_
     rotate_left
     ·show Act.put _ (some 14) _ = _
      simp only [Act.put, List.setIfInBounds_toArray, List.set_cons_zero, List.set_cons_succ, i64_w, i32_w]
      rfl
     refine pure_ (i := 6) (N := some 9) (v := ?_) (a' := ?_) #[true,true,true,true,true,false,true,false] rfl rfl (any_of HT_.out (by kernel_rfl)) (fun _ _ _ h => h) (Or.inl ⟨by rfl, ?_⟩) ?_ ?_
     rotate_left
     ·intro w'
      go_simp
      with_reducible rfl
     rotate_left
     ·simp only [Act.put, List.setIfInBounds_toArray, List.set_cons_zero, List.set_cons_succ, i64_w, i32_w]
      rfl
     refine one_ (i := 5) (N := some 17) #[true,true,true,true,true,true,true,false] rfl rfl (one_of HT_.out (by kernel_rfl)) (by decide) (fun K hK => ?_)
     refine Kd.R_make_step (Kd.int .i64) _ 3 (by rfl) (N := 17) rfl 22 _ _ rfl (l1.length : Int) rfl rfl Try.underlying22 (.int .i64 0) 8 info3 rfl (by decide) (by omega) 0 (ok := fun _ => True) (okp := fun _ => True) rfl (fun _ hk => hk) trivial (of_decide_eq_true (by first | (with_reducible assumption) | assumption)) (Nat.le_trans (Nat.mul_le_mul_right _ (of_decide_eq_true (by first | (with_reducible assumption) | assumption) : (l1.length : Int).toNat ≤ 35184372088832)) (by omega)) (Below.refl _ _) (Nat.le_refl _) ?_
     intro v270 w10 ho11 hb hg_ hnew_
     clear hg_ hnew_
     (first | rw [← Ny269.out] at ho11 | (simp only [Int.reduceToNat] at ho11; rw [← Ny269.out] at ho11))
     have n0_ := Aside0.mk (Kd.R_elder' (by (with_reducible repeat (first | apply Kd.R_alloc | apply Kd.R_drewN | apply Kd.R_drew)); exact HO268.out) (Kd.R_base ho11) hb)
     have n1_ := Aside0.mk (Kd.R_lower (Kd.R_new' ho11 (Kd.R_lt (by (with_reducible repeat (first | apply Kd.R_alloc | apply Kd.R_drewN | apply Kd.R_drew)); exact HO268.out))) (below_size (by repeat (first | (with_reducible first | exact HB.out | apply below_alloc | apply pw_below_drewN | apply below_drew1) | exact HB.out))))
     have n2_ := Aside0.mk (below_step (by repeat (first | (with_reducible first | exact HB.out | apply below_alloc | apply pw_below_drewN | apply below_drew1) | exact HB.out)) hb)
     clear HO268
     clear HB
     have HO268 := n0_
     have HO271 := n1_
     have HB := n2_
     clear n0_ n1_ n2_
     clear hb ho11
     refine hK.out _ _ trivial (fun hHeld => ?_)
     clear hK K
     refine norm_ (a' := ?_) ?_ ?_
     rotate_left
     ·show Act.put _ (some 17) _ = _
      simp only [Act.put, List.setIfInBounds_toArray, List.set_cons_zero, List.set_cons_succ, i64_w, i32_w]
      rfl
     exact norm_ (by simp only [putAll, Act.put, List.setIfInBounds_toArray, List.set_cons_zero, List.set_cons_succ]) (hCont (v267, v270) _ ⟨(by (with_reducible repeat (first | apply Kd.R_alloc | apply Kd.R_drewN | apply Kd.R_drew)); exact Kd.R_mono HO268.out (fun _ hk => hk.2)), (by (with_reducible repeat (first | apply Kd.R_alloc | apply Kd.R_drewN | apply Kd.R_drew)); exact Kd.R_mono HO271.out (fun _ hk => hk.2)), (by repeat (first | (with_reducible first | exact HB.out | apply below_alloc | apply pw_below_drewN | apply below_drew1) | exact HB.out))⟩)
    ·skip
     refine Kd.R_make_step (Kd.int .i64) _ 3 (by rfl) (N := 17) rfl 22 _ _ rfl (l1.length : Int) rfl rfl Try.underlying22 (.int .i64 0) 8 info3 rfl (by decide) (by omega) 0 (ok := fun _ => True) (okp := fun _ => True) rfl (fun _ hk => hk) trivial (of_decide_eq_true (by first | (with_reducible assumption) | assumption)) (Nat.le_trans (Nat.mul_le_mul_right _ (of_decide_eq_true (by first | (with_reducible assumption) | assumption) : (l1.length : Int).toNat ≤ 35184372088832)) (by omega)) (Below.refl _ _) (Nat.le_refl _) ?_
     intro v270 w8 ho9 hb hg_ hnew_
     clear hg_ hnew_
     (first | rw [← Ny269.out] at ho9 | (simp only [Int.reduceToNat] at ho9; rw [← Ny269.out] at ho9))
     have n0_ := Aside0.mk (Kd.R_lower ho9 (below_size (by repeat (first | (with_reducible first | exact HB.out | apply below_alloc | apply pw_below_drewN | apply below_drew1) | exact HB.out))))
     have n1_ := Aside0.mk (below_step (by repeat (first | (with_reducible first | exact HB.out | apply below_alloc | apply pw_below_drewN | apply below_drew1) | exact HB.out)) hb)
     clear HB
     have HO271 := n0_
     have HB := n1_
     clear n0_ n1_
     clear hb ho9
     refine hK.out _ _ trivial (fun hHeld => ?_)
     clear hK K
     refine norm_ (a' := ?_) ?_ ?_
     rotate_left
     ·show Act.put _ (some 17) _ = _
      simp only [Act.put, List.setIfInBounds_toArray, List.set_cons_zero, List.set_cons_succ, i64_w, i32_w]
      rfl
     refine one_ (i := 2) (N := some 14) #[true,true,true,true,true,true,false,false] rfl rfl (one_of HT_.out (by kernel_rfl)) (by decide) (fun K hK => ?_)
     refine Kd.R_make_step (Kd.int .i64) _ 3 (by rfl) (N := 14) rfl 22 _ _ rfl (l1.length : Int) rfl rfl Try.underlying22 (.int .i64 0) 8 info3 rfl (by decide) (by omega) 0 (ok := fun _ => True) (okp := fun _ => True) rfl (fun _ hk => hk) trivial (of_decide_eq_true (by first | (with_reducible assumption) | assumption)) (Nat.le_trans (Nat.mul_le_mul_right _ (of_decide_eq_true (by first | (with_reducible assumption) | assumption) : (l1.length : Int).toNat ≤ 35184372088832)) (by omega)) (Below.refl _ _) (Nat.le_refl _) ?_
     intro v267 w10 ho11 hb hg_ hnew_
     clear hg_ hnew_
     (first | rw [← Ny266.out] at ho11 | (simp only [Int.reduceToNat] at ho11; rw [← Ny266.out] at ho11))
     have n0_ := Aside0.mk (Kd.R_elder' (by (with_reducible repeat (first | apply Kd.R_alloc | apply Kd.R_drewN | apply Kd.R_drew)); exact HO271.out) (Kd.R_base ho11) hb)
     have n1_ := Aside0.mk (Kd.R_lower (Kd.R_new' ho11 (Kd.R_lt (by (with_reducible repeat (first | apply Kd.R_alloc | apply Kd.R_drewN | apply Kd.R_drew)); exact HO271.out))) (below_size (by repeat (first | (with_reducible first | exact HB.out | apply below_alloc | apply pw_below_drewN | apply below_drew1) | exact HB.out))))
     have n2_ := Aside0.mk (below_step (by repeat (first | (with_reducible first | exact HB.out | apply below_alloc | apply pw_below_drewN | apply below_drew1) | exact HB.out)) hb)
     clear HO271
     clear HB
     have HO271 := n0_
     have HO268 := n1_
     have HB := n2_
     clear n0_ n1_ n2_
     clear hb ho11
     refine hK.out _ _ trivial (fun hHeld => ?_)
     clear hK K
     refine norm_ (a' := ?_) ?_ ?_
     rotate_left
     ·show Act.put _ (some 14) _ = _
      simp only [Act.put, List.setIfInBounds_toArray, List.set_cons_zero, List.set_cons_succ, i64_w, i32_w]
      rfl
     refine pure_ (i := 6) (N := some 9) (v := ?_) (a' := ?_) #[true,true,true,true,true,true,true,false] rfl rfl (any_of HT_.out (by kernel_rfl)) (fun _ _ _ h => h) (Or.inl ⟨by rfl, ?_⟩) ?_ ?_
     rotate_left
     ·intro w'
      go_simp
      with_reducible rfl
     rotate_left
     ·simp only [Act.put, List.setIfInBounds_toArray, List.set_cons_zero, List.set_cons_succ, i64_w, i32_w]
      rfl
     exact norm_ (by simp only [putAll, Act.put, List.setIfInBounds_toArray, List.set_cons_zero, List.set_cons_succ]) (hCont (v267, v270) _ ⟨(by (with_reducible repeat (first | apply Kd.R_alloc | apply Kd.R_drewN | apply Kd.R_drew)); exact Kd.R_mono HO268.out (fun _ hk => hk.2)), (by (with_reducible repeat (first | apply Kd.R_alloc | apply Kd.R_drewN | apply Kd.R_drew)); exact Kd.R_mono HO271.out (fun _ hk => hk.2)), (by repeat (first | (with_reducible first | exact HB.out | apply below_alloc | apply pw_below_drewN | apply below_drew1) | exact HB.out))⟩)
   rintro ⟨v267, v270⟩ w12 ⟨h0_, h1_, h2_⟩
   have n0_ : Aside0 (Kd.R (Kd.int .i64) 3 w12 w.heap.size (fun k_ => some k_ ≠ (v270 : Value).ownBlock) v267 y266) := ⟨h0_⟩
   have n1_ : Aside0 (Kd.R (Kd.int .i64) 3 w12 w.heap.size (fun k_ => some k_ ≠ (v267 : Value).ownBlock) v270 y269) := ⟨h1_⟩
   have n2_ : Aside0 (Below w.heap.size w w12) := ⟨h2_⟩
   clear HB
   clear h0_ h1_ h2_
   have HO268 := n0_
   have HO271 := n1_
   have HB := n2_
   clear n0_ n1_ n2_
   have hHeld := trivial
   refine norm_ (a' := ?_) ?_ ?_
   rotate_left
   ·simp only [putAll, Act.put, List.setIfInBounds_toArray, List.set_cons_zero, List.set_cons_succ]
    rfl
   refine pure_ (i := 7) (N := some 10) (v := ?_) (a' := ?_) #[true,true,true,true,true,true,true,true] rfl rfl (any_of HT_.out (by kernel_rfl)) (fun _ _ _ h => h) (Or.inl ⟨by rfl, ?_⟩) ?_ ?_
   rotate_left
   ·intro w'
    go_simp
    with_reducible rfl
   rotate_left
   ·simp only [Act.put, List.setIfInBounds_toArray, List.set_cons_zero, List.set_cons_succ, i64_w, i32_w]
    rfl
   refine done_ (done_of HT_.out (by kernel_rfl)) ?_
   try go_wp2
   go_loopg [9, 10, 20] k (fun kq v9 v10 v20 w' => ∃ (x9_1 : List Int) (x10_1 : List Int) (x20_1 : Int), v20 = .int .i64 x20_1 ∧ Aside0 (warp_distance.l0 kq l0 l1 a2 a3 x9_1 x10_1 (l0.length : Int) x20_1 = some r) ∧ Aside0 (kq ≤ k) ∧ Aside0 (Kd.R (Kd.int .i64) 3 w' w.heap.size (fun k_ => some k_ ≠ (v10 : Value).ownBlock) v9 x9_1) ∧ Aside0 (Kd.R (Kd.int .i64) 3 w' w.heap.size (fun k_ => some k_ ≠ (v9 : Value).ownBlock) v10 x10_1) ∧ Aside0 (Below w.heap.size w w'))
   case atStart => exact ⟨(y266), (y269), (0), (by first | rfl | (simp; done) | (simp [*]; done)), H', ⟨Nat.le_refl _⟩, ⟨by (with_reducible repeat (first | apply Kd.R_alloc | apply Kd.R_drewN | apply Kd.R_drew)); exact HO268.out⟩, ⟨by (with_reducible repeat (first | apply Kd.R_alloc | apply Kd.R_drewN | apply Kd.R_drew)); exact HO271.out⟩, ⟨by repeat (first | (with_reducible first | exact HB.out | apply below_alloc | apply pw_below_drewN | apply below_drew1) | exact HB.out)⟩⟩
   case round =>
    clear H'
    try clear c1
    try clear p2
    try clear c3
    try clear c5
    try clear c5b0
    try clear c5b1
    try clear c6
    try clear c6b0
    try clear c6b1
    obtain ⟨x9_1, x10_1, x20_1, rfl, HA, HK1, HO_9, HO_10, HB⟩ := hrel
    cases gk with
    | zero => exact absurd HA.out (by simp [warp_distance.l0])
    | succ k1 =>
     have H := HA.out
     clear HA
     simp only [warp_distance.l0] at H
     by_cases c13 : x20_1 < (l0.length : Int)
     ·rw [if_pos c13] at H
      have c13b0 : decide (x20_1 < (l0.length : Int)) = true := decide_eq_true c13
      clear c13
      replace H := Option.bind_eq_some_iff.mp H
      obtain ⟨t273, A140, H⟩ := H
      replace H : ((slices_Min_int_int.f k1 t273).bind fun t274 => (if t274 > a3 then (some 4611686018427387904) else (warp_distance.l0 k1 l0 l1 a2 a3 x10_1 t273 (l0.length : Int) (wrap64 (x20_1 + 1))))) = some r := H
      have A14 := Aside0.mk A140
      clear A140
      replace H := Option.bind_eq_some_iff.mp H
      obtain ⟨t274, A150, H⟩ := H
      replace H : (if t274 > a3 then (some 4611686018427387904) else (warp_distance.l0 k1 l0 l1 a2 a3 x10_1 t273 (l0.length : Int) (wrap64 (x20_1 + 1)))) = some r := H
      have A15 := Aside0.mk A150
      clear A150
      by_cases c16 : t274 > a3
      ·rw [if_pos c16] at H
       have c16b0 : decide (a3 < t274) = true := decide_eq_true c16
       clear c16
       obtain rfl := Option.some.inj H
       obtain ⟨Ao17, co17, eo17⟩ := Kd.R_slice HO_9.out
       subst eo17
       obtain ⟨Ao18, co18, eo18⟩ := Kd.R_slice HO_10.out
       subst eo18
       go_wp2_with (first | ((with_reducible refine gate_callee (f := 37) rfl ?_); refine goesL_ (some 31) rfl rfl Try.func37 (by kernel_rfl) rfl #[.slice Ao17 x9_1.length co17, .slice Ao18 x10_1.length co18, .slice A0 l0.length c0, .slice A1 l1.length c1, .int .i64 a2, .int .i64 x20_1] rfl (by (try simp only [List.map_toArray, List.map_cons, List.map_nil]); first | done | rfl | (simp only [List.length_drop, List.length_take]; rfl)) ?_; (with_reducible refine (warp_fill.calls k1 (fun k_ => some k_ = (.slice Ao17 x9_1.length co17 : Value).ownBlock) (.slice Ao17 x9_1.length co17) x9_1 _ _ x10_1 _ _ l0 _ _ l1 a2 x20_1 t273 w _ ?side1 ?side2 ?side3 ?side4 ?side5 ?side6 ?side7 ?side8 A14.out).mono ?_); (case side1 => repeat (first | (with_reducible first | exact HB.out | apply below_alloc | apply pw_below_drewN | apply below_drew1) | exact HB.out)); (case side2 => exact Kd.R_tight rfl HO_9.out); (case side3 => exact Kd.C_kept_own (HO_10.out) (fun k_ hk_ hs_ => (hk_) hs_)); (case side4 => exact (Kd.R_reads' HO_10.out).2.1); (case side5 => exact Kd.C_kept_came (Kd.heap_int .i64) HR0.out (by repeat (first | (with_reducible first | exact HB.out | apply below_alloc | apply pw_below_drewN | apply below_drew1) | exact HB.out)) (fun k_ hs_ => (fun e_ => Kd.R_base HO_9.out k_ e_.symm) hs_)); (case side6 => exact HC0.out); (case side7 => exact Kd.C_kept_came (Kd.heap_int .i64) HR1.out (by repeat (first | (with_reducible first | exact HB.out | apply below_alloc | apply pw_below_drewN | apply below_drew1) | exact HB.out)) (fun k_ hs_ => (fun e_ => Kd.R_base HO_9.out k_ e_.symm) hs_)); (case side8 => exact HC1.out); rintro e w19 ⟨rfl, hy0, hb, hkp⟩; refine ⟨_, rfl, ?_⟩; have n0_ := Aside0.mk (Kd.R_reok rfl hy0 (fun k_ e_ => HO_9.out.1 k_ e_)); have n1_ := Aside0.mk (Kd.R_mono (ok' := fun k_ => some k_ ≠ (.slice Ao17 x9_1.length co17 : Value).ownBlock) (Kd.R_keptB (HO_10.out) hkp (fun k_ hk_ hs_ => (hk_) hs_)) (fun k_ hk_ => hk_.1)); have n2_ := Aside0.mk (hb); clear HO_9; clear HO_10; clear HB; have HO_9 := n0_; have HO_10 := n1_; have HB := n2_; clear n0_ n1_ n2_; (try clear hb); (try clear hkp); (try clear hy0)) | ((with_reducible refine gate_callee (f := 50) rfl ?_); refine goesL_ (some 33) rfl rfl Try.func50 (by kernel_rfl) rfl #[.slice Ao17 t273.length co17] rfl (by (try simp only [List.map_toArray, List.map_cons, List.map_nil]); first | done | (rw [show t273.length = x9_1.length from (Kd.R_reads' HO_9.out).1.symm] <;> rfl) | rfl | (simp only [List.length_drop, List.length_take]; rfl)) ?_; (with_reducible refine (slices_Min_int_int.calls k1 _ _ t273 t274 _ ?side1 ?side2 A15.out).mono ?_); (case side1 => repeat (first | exact (Kd.R_reads' HO_9.out).2.2 | (with_reducible refine Kd.C_alloc ?_ _) | (with_reducible refine Kd.C_drewN ?_ _) | (with_reducible refine Kd.C_drew ?_))); (case side2 => rw [show t273.length = x9_1.length from (Kd.R_reads' HO_9.out).1.symm]; exact (Kd.R_reads' HO_9.out).2.1); rintro e w20 ⟨rfl, hb⟩; refine ⟨_, rfl, ?_⟩; have n0_ := Aside0.mk (Kd.R_below (by (with_reducible repeat (first | apply Kd.R_alloc | apply Kd.R_drewN | apply Kd.R_drew)); exact HO_9.out) hb); have n1_ := Aside0.mk (Kd.R_below (by (with_reducible repeat (first | apply Kd.R_alloc | apply Kd.R_drewN | apply Kd.R_drew)); exact HO_10.out) hb); have n2_ := Aside0.mk (below_step (by repeat (first | (with_reducible first | exact HB.out | apply below_alloc | apply pw_below_drewN | apply below_drew1) | exact HB.out)) hb); clear HO_9; clear HO_10; clear HB; have HO_9 := n0_; have HO_10 := n1_; have HB := n2_; clear n0_ n1_ n2_; (try clear hb); (try clear hb2); (try clear hk); (try clear hi)))
       go_ret
       exact ⟨by first | rfl | (simp [errW_none, errW_some] <;> rfl) | (simp [*, errW_none, errW_some] <;> rfl), by repeat (first | (with_reducible first | exact HB.out | apply below_alloc | apply pw_below_drewN | apply below_drew1) | exact HB.out)⟩
      ·rw [if_neg c16] at H
       have c16b0 : decide (a3 < t274) = false := decide_eq_false c16
       clear c16
       have H' := Aside0.mk H
       clear H
       obtain ⟨Ao21, co21, eo21⟩ := Kd.R_slice HO_9.out
       subst eo21
       obtain ⟨Ao22, co22, eo22⟩ := Kd.R_slice HO_10.out
       subst eo22
       go_wp2_with (first | ((with_reducible refine gate_callee (f := 37) rfl ?_); refine goesL_ (some 31) rfl rfl Try.func37 (by kernel_rfl) rfl #[.slice Ao21 x9_1.length co21, .slice Ao22 x10_1.length co22, .slice A0 l0.length c0, .slice A1 l1.length c1, .int .i64 a2, .int .i64 x20_1] rfl (by (try simp only [List.map_toArray, List.map_cons, List.map_nil]); first | done | rfl | (simp only [List.length_drop, List.length_take]; rfl)) ?_; (with_reducible refine (warp_fill.calls k1 (fun k_ => some k_ = (.slice Ao21 x9_1.length co21 : Value).ownBlock) (.slice Ao21 x9_1.length co21) x9_1 _ _ x10_1 _ _ l0 _ _ l1 a2 x20_1 t273 w _ ?side1 ?side2 ?side3 ?side4 ?side5 ?side6 ?side7 ?side8 A14.out).mono ?_); (case side1 => repeat (first | (with_reducible first | exact HB.out | apply below_alloc | apply pw_below_drewN | apply below_drew1) | exact HB.out)); (case side2 => exact Kd.R_tight rfl HO_9.out); (case side3 => exact Kd.C_kept_own (HO_10.out) (fun k_ hk_ hs_ => (hk_) hs_)); (case side4 => exact (Kd.R_reads' HO_10.out).2.1); (case side5 => exact Kd.C_kept_came (Kd.heap_int .i64) HR0.out (by repeat (first | (with_reducible first | exact HB.out | apply below_alloc | apply pw_below_drewN | apply below_drew1) | exact HB.out)) (fun k_ hs_ => (fun e_ => Kd.R_base HO_9.out k_ e_.symm) hs_)); (case side6 => exact HC0.out); (case side7 => exact Kd.C_kept_came (Kd.heap_int .i64) HR1.out (by repeat (first | (with_reducible first | exact HB.out | apply below_alloc | apply pw_below_drewN | apply below_drew1) | exact HB.out)) (fun k_ hs_ => (fun e_ => Kd.R_base HO_9.out k_ e_.symm) hs_)); (case side8 => exact HC1.out); rintro e w23 ⟨rfl, hy0, hb, hkp⟩; refine ⟨_, rfl, ?_⟩; have n0_ := Aside0.mk (Kd.R_reok rfl hy0 (fun k_ e_ => HO_9.out.1 k_ e_)); have n1_ := Aside0.mk (Kd.R_mono (ok' := fun k_ => some k_ ≠ (.slice Ao21 x9_1.length co21 : Value).ownBlock) (Kd.R_keptB (HO_10.out) hkp (fun k_ hk_ hs_ => (hk_) hs_)) (fun k_ hk_ => hk_.1)); have n2_ := Aside0.mk (hb); clear HO_9; clear HO_10; clear HB; have HO_9 := n0_; have HO_10 := n1_; have HB := n2_; clear n0_ n1_ n2_; (try clear hb); (try clear hkp); (try clear hy0)) | ((with_reducible refine gate_callee (f := 50) rfl ?_); refine goesL_ (some 33) rfl rfl Try.func50 (by kernel_rfl) rfl #[.slice Ao21 t273.length co21] rfl (by (try simp only [List.map_toArray, List.map_cons, List.map_nil]); first | done | (rw [show t273.length = x9_1.length from (Kd.R_reads' HO_9.out).1.symm] <;> rfl) | rfl | (simp only [List.length_drop, List.length_take]; rfl)) ?_; (with_reducible refine (slices_Min_int_int.calls k1 _ _ t273 t274 _ ?side1 ?side2 A15.out).mono ?_); (case side1 => repeat (first | exact (Kd.R_reads' HO_9.out).2.2 | (with_reducible refine Kd.C_alloc ?_ _) | (with_reducible refine Kd.C_drewN ?_ _) | (with_reducible refine Kd.C_drew ?_))); (case side2 => rw [show t273.length = x9_1.length from (Kd.R_reads' HO_9.out).1.symm]; exact (Kd.R_reads' HO_9.out).2.1); rintro e w24 ⟨rfl, hb⟩; refine ⟨_, rfl, ?_⟩; have n0_ := Aside0.mk (Kd.R_below (by (with_reducible repeat (first | apply Kd.R_alloc | apply Kd.R_drewN | apply Kd.R_drew)); exact HO_9.out) hb); have n1_ := Aside0.mk (Kd.R_below (by (with_reducible repeat (first | apply Kd.R_alloc | apply Kd.R_drewN | apply Kd.R_drew)); exact HO_10.out) hb); have n2_ := Aside0.mk (below_step (by repeat (first | (with_reducible first | exact HB.out | apply below_alloc | apply pw_below_drewN | apply below_drew1) | exact HB.out)) hb); clear HO_9; clear HO_10; clear HB; have HO_9 := n0_; have HO_10 := n1_; have HB := n2_; clear n0_ n1_ n2_; (try clear hb); (try clear hb2); (try clear hk); (try clear hi)))
       go_roundg k1
       case measure => have := HK1.out; omega
       case rel => exact ⟨(x10_1), (t273), (wrap64 (x20_1 + 1)), (by first | rfl | (simp; done) | (simp [*]; done)), H', ⟨by have := HK1.out; omega⟩, ⟨by (with_reducible repeat (first | apply Kd.R_alloc | apply Kd.R_drewN | apply Kd.R_drew)); exact HO_10.out⟩, ⟨by (with_reducible repeat (first | apply Kd.R_alloc | apply Kd.R_drewN | apply Kd.R_drew)); exact HO_9.out⟩, ⟨by repeat (first | (with_reducible first | exact HB.out | apply below_alloc | apply pw_below_drewN | apply below_drew1) | exact HB.out)⟩⟩
     ·rw [if_neg c13] at H
      have c13b0 : decide (x20_1 < (l0.length : Int)) = false := decide_eq_false c13
      clear c13
      obtain ⟨ji25, hji25⟩ : ∃ j_ : Int, (wrap64 ((l1.length : Int) - 1)) = j_ := ⟨_, rfl⟩
      replace H : (if 0 ≤ (ji25) then (if (ji25) < (x10_1.length : Int) then (some (rd x10_1 (ji25))) else (none)) else (none)) = some r := by first | (rw [hji25] at H; exact H) | (simp only [hji25] at H ⊢; exact H)
      have hji25w : (IntKind.i64.wrap ((l1.length : Int) - 1)) = ji25 := (i64_w _).trans hji25
      by_cases c26 : 0 ≤ (ji25)
      ·rw [if_pos c26] at H
       have c26b0 : decide (0 ≤ (ji25)) = true := decide_eq_true c26
       clear c26
       by_cases c27 : (ji25) < (x10_1.length : Int)
       ·rw [if_pos c27] at H
        have c27b0 : decide ((ji25) < (x10_1.length : Int)) = true := decide_eq_true c27
        clear c27
        obtain rfl := Option.some.inj H
        obtain ⟨Ao28, co28, eo28⟩ := Kd.R_slice HO_10.out
        subst eo28
        have p272 : 0 ≤ ((ji25) : Int) := of_decide_eq_true (by first | (with_reducible assumption) | assumption)
        have q272 : (ji25) < (x10_1.length : Int) := of_decide_eq_true (by first | (with_reducible assumption) | assumption)
        obtain ⟨ad272, e272, hx272_0⟩ := Kd.at_int (Kd.R_reads' HO_10.out).2.2 (ji25) p272 q272
        cases e272
        replace p272 := eq_true p272
        replace q272 := eq_true q272
        go_wp2
        go_ret
        exact ⟨by first | rfl | (simp [errW_none, errW_some] <;> rfl) | (simp only [← hji25]; first | rfl | (simp [errW_none, errW_some] <;> rfl)) | (simp [*, errW_none, errW_some] <;> rfl), by repeat (first | (with_reducible first | exact HB.out | apply below_alloc | apply pw_below_drewN | apply below_drew1) | exact HB.out)⟩
       ·rw [if_neg c27] at H
        exact absurd H (by simp)
      ·rw [if_neg c26] at H
       exact absurd H (by simp)
  ·rw [if_neg c6] at H
   exact absurd H (by simp)
 ·rw [if_neg c5] at H
  exact absurd H (by simp)

/-! ### warp_Distance: function 12 -/
def warp_Distance.f (k : Nat) (l0 : List Int) (l1 : List Int) (a2 : Int) : Option (Int × Int) := (warp_check.f k l0 l1 a2).bind fun t275 => (if t275 = 0 then ((warp_distance.f k l0 l1 a2 4611686018427387904).bind fun t276 => (some (t276, 0))) else (some (0, t275)))
theorem warp_Distance.mono : ∀ a0 a1 a2 k, LeO (warp_Distance.f k a0 a1 a2) (warp_Distance.f (k + 1) a0 a1 a2) := by
  intro a0 a1 a2 k
  unfold warp_Distance.f
  repeat' first
      | (with_reducible exact warp_check.mono _ _ _ _)
      | (with_reducible exact warp_distance.mono _ _ _ _ _)
      | (with_reducible exact LeO.refl _)
      | (with_reducible exact LeO.none _)
      | (with_reducible refine LeO.ite ?_ ?_)
      | (with_reducible refine LeO.bind ?_ (fun _ => ?_))
      | exact warp_check.mono _ _ _ _
      | exact warp_distance.mono _ _ _ _ _
      | exact LeO.none _
      | refine LeO.ite ?_ ?_
      | refine LeO.bind ?_ (fun _ => ?_)
set_option maxHeartbeats 8000000 in
set_option maxRecDepth 100000 in
theorem warp_Distance.calls (k : Nat) (A0 : Option Addr) (c0 : Nat) (l0 : List Int) (A1 : Option Addr) (c1 : Nat) (l1 : List Int) (a2 : Int) (r1 : Int) (r2 : Int) (w : World) (hr0 : Kd.C (Kd.int .i64) w A0 l0.length l0) (hc0 : l0.length ≤ c0) (hr1 : Kd.C (Kd.int .i64) w A1 l1.length l1) (hc1 : l1.length ≤ c1) (h : warp_Distance.f k l0 l1 a2 = some (r1, r2)) :
    Calls Try.prog 12 #[.slice A0 l0.length c0, .slice A1 l1.length c1, .int .i64 a2] w fun e w' => e = .returned (.tuple #[.int .i64 r1, .int .i64 r2]) ∧ Below w.heap.size w w' := by
 have HR0 := Aside0.mk hr0
 have HC0 := Aside0.mk hc0
 clear hr0 hc0
 have HR1 := Aside0.mk hr1
 have HC1 := Aside0.mk hc1
 clear hr1 hc1
 have HB := Aside0.mk (Below.refl w.heap.size w)
 have H : ((warp_check.f k l0 l1 a2).bind fun t275 => (if t275 = 0 then ((warp_distance.f k l0 l1 a2 4611686018427387904).bind fun t276 => (some (t276, 0))) else (some (0, t275)))) = some (r1, r2) := h
 clear h
 replace H := Option.bind_eq_some_iff.mp H
 obtain ⟨t275, A40, H⟩ := H
 replace H : (if t275 = 0 then ((warp_distance.f k l0 l1 a2 4611686018427387904).bind fun t276 => (some (t276, 0))) else (some (0, t275))) = some (r1, r2) := H
 have A4 := Aside0.mk A40
 clear A40
 by_cases c5 : t275 = 0
 ·rw [if_pos c5] at H
  have c5b0 : (t275 == 0) = true := beq_iff_eq.mpr c5
  have c5b1 : (t275 != 0) = false := bne_eq_false_iff_eq.mpr c5
  clear c5
  replace H := Option.bind_eq_some_iff.mp H
  obtain ⟨t276, A60, H⟩ := H
  replace H : (some (t276, 0)) = some (r1, r2) := H
  have A6 := Aside0.mk A60
  clear A60
  simp only [Option.some.injEq, Prod.mk.injEq] at H
  obtain ⟨rfl, rfl⟩ := H
  go_enter Try.func12, Try.ntmps12
  go_wp2_with (first | ((with_reducible refine gate_callee (f := 31) rfl ?_); refine goesL_ (some 12) rfl rfl Try.func31 (by kernel_rfl) rfl #[.slice A0 l0.length c0, .slice A1 l1.length c1, .int .i64 a2] rfl (by (try simp only [List.map_toArray, List.map_cons, List.map_nil]); first | done | rfl | (simp only [List.length_drop, List.length_take]; rfl)) ?_; (with_reducible refine (warp_check.calls k _ _ l0 _ _ l1 a2 t275 _ ?side1 ?side2 ?side3 ?side4 A4.out).mono ?_); (case side1 => repeat (first | exact HR0.out | (with_reducible refine Kd.C_alloc ?_ _) | (with_reducible refine Kd.C_drewN ?_ _) | (with_reducible refine Kd.C_drew ?_))); (case side2 => exact HC0.out); (case side3 => repeat (first | exact HR1.out | (with_reducible refine Kd.C_alloc ?_ _) | (with_reducible refine Kd.C_drewN ?_ _) | (with_reducible refine Kd.C_drew ?_))); (case side4 => exact HC1.out); rintro e w' ⟨rfl, ⟨nd, rfl⟩⟩; refine ⟨_, rfl, ?_⟩) | ((with_reducible refine gate_callee (f := 32) rfl ?_); refine goesL_ (some 19) rfl rfl Try.func32 (by kernel_rfl) rfl #[.slice A0 l0.length c0, .slice A1 l1.length c1, .int .i64 a2, .int .i64 4611686018427387904] rfl (by (try simp only [List.map_toArray, List.map_cons, List.map_nil]); first | done | rfl | (simp only [List.length_drop, List.length_take]; rfl)) ?_; (with_reducible refine (warp_distance.calls k _ _ l0 _ _ l1 a2 4611686018427387904 t276 _ ?side1 ?side2 ?side3 ?side4 A6.out).mono ?_); (case side1 => repeat (first | exact HR0.out | (with_reducible refine Kd.C_alloc ?_ _) | (with_reducible refine Kd.C_drewN ?_ _) | (with_reducible refine Kd.C_drew ?_))); (case side2 => exact HC0.out); (case side3 => repeat (first | exact HR1.out | (with_reducible refine Kd.C_alloc ?_ _) | (with_reducible refine Kd.C_drewN ?_ _) | (with_reducible refine Kd.C_drew ?_))); (case side4 => exact HC1.out); rintro e w7 ⟨rfl, hb⟩; refine ⟨_, rfl, ?_⟩; have n0_ := Aside0.mk (below_step (by repeat (first | (with_reducible first | exact HB.out | apply below_alloc | apply pw_below_drewN | apply below_drew1) | exact HB.out)) hb); clear HB; have HB := n0_; clear n0_; (try clear hb); (try clear hb2); (try clear hk); (try clear hi)))
  go_ret2
  exact ⟨by first | rfl | (simp [errW_none, errW_some] <;> rfl) | (simp [*, errW_none, errW_some] <;> rfl), by repeat (first | (with_reducible first | exact HB.out | apply below_alloc | apply pw_below_drewN | apply below_drew1) | exact HB.out)⟩
 ·rw [if_neg c5] at H
  have c5b0 : (t275 == 0) = false := beq_eq_false_iff_ne.mpr c5
  have c5b1 : (t275 != 0) = true := bne_iff_ne.mpr c5
  simp only [Option.some.injEq, Prod.mk.injEq] at H
  obtain ⟨rfl, rfl⟩ := H
  go_enter Try.func12, Try.ntmps12
  go_wp2_with (first | ((with_reducible refine gate_callee (f := 31) rfl ?_); refine goesL_ (some 12) rfl rfl Try.func31 (by kernel_rfl) rfl #[.slice A0 l0.length c0, .slice A1 l1.length c1, .int .i64 a2] rfl (by (try simp only [List.map_toArray, List.map_cons, List.map_nil]); first | done | rfl | (simp only [List.length_drop, List.length_take]; rfl)) ?_; (with_reducible refine (warp_check.calls k _ _ l0 _ _ l1 a2 t275 _ ?side1 ?side2 ?side3 ?side4 A4.out).mono ?_); (case side1 => repeat (first | exact HR0.out | (with_reducible refine Kd.C_alloc ?_ _) | (with_reducible refine Kd.C_drewN ?_ _) | (with_reducible refine Kd.C_drew ?_))); (case side2 => exact HC0.out); (case side3 => repeat (first | exact HR1.out | (with_reducible refine Kd.C_alloc ?_ _) | (with_reducible refine Kd.C_drewN ?_ _) | (with_reducible refine Kd.C_drew ?_))); (case side4 => exact HC1.out); rintro e w' ⟨rfl, ⟨nd, rfl⟩⟩; refine ⟨_, rfl, ?_⟩))
  go_ret2
  exact ⟨by first | rfl | (simp [errW_none, errW_some] <;> rfl) | (simp [*, errW_none, errW_some] <;> rfl), by repeat (first | (with_reducible first | exact HB.out | apply below_alloc | apply pw_below_drewN | apply below_drew1) | exact HB.out)⟩

/-! ### shapesearchlaw14_all: function 13 -/
mutual
def shapesearchlaw14_all.j0 : Nat → List Int → List Int → Int → Int → Int → Bool → Option (Int)
  | 0, _, _, _, _, _, _ => none
  | k + 1, x0, x1, x2, x3, x4, x35 => if x35 = true then (some 4611686018427387904) else (if 0 ≤ x3 then (if x3 < (x0.length : Int) then (if 0 ≤ x4 then (if x4 < (x1.length : Int) then (if x3 = (wrap64 ((x0.length : Int) - 1)) then (shapesearchlaw14_all.j1 k x0 x1 x2 x3 x4 (wrap64 ((wrap64 ((rd x0 x3) - (rd x1 x4))) * (wrap64 ((rd x0 x3) - (rd x1 x4))))) (x4 == (wrap64 ((x1.length : Int) - 1)))) else (shapesearchlaw14_all.j1 k x0 x1 x2 x3 x4 (wrap64 ((wrap64 ((rd x0 x3) - (rd x1 x4))) * (wrap64 ((rd x0 x3) - (rd x1 x4))))) false)) else (none)) else (none)) else (none)) else (none))
def shapesearchlaw14_all.j1 : Nat → List Int → List Int → Int → Int → Int → Int → Bool → Option (Int)
  | 0, _, _, _, _, _, _, _ => none
  | k + 1, x0, x1, x2, x3, x4, x11, x66 => if x66 = true then (some x11) else ((shapesearchlaw14_all.f k x0 x1 x2 (wrap64 (x3 + 1)) (wrap64 (x4 + 1))).bind fun t281 => ((shapesearchlaw14_all.f k x0 x1 x2 (wrap64 (x3 + 1)) x4).bind fun t282 => ((shapesearchlaw14_all.f k x0 x1 x2 x3 (wrap64 (x4 + 1))).bind fun t283 => (some (mn 4611686018427387904 (wrap64 (x11 + (mn (mn t281 t282) t283))))))))
def shapesearchlaw14_all.f : Nat → List Int → List Int → Int → Int → Int → Option (Int)
  | 0, _, _, _, _, _ => none
  | k + 1, l0, l1, a2, a3, a4 => if a3 ≥ (l0.length : Int) then (shapesearchlaw14_all.j0 k l0 l1 a2 a3 a4 true) else (if a4 ≥ (l1.length : Int) then (shapesearchlaw14_all.j0 k l0 l1 a2 a3 a4 true) else (if (wrap64 (a3 - a4)) > a2 then (shapesearchlaw14_all.j0 k l0 l1 a2 a3 a4 true) else (shapesearchlaw14_all.j0 k l0 l1 a2 a3 a4 (decide ((wrap64 (a4 - a3)) > a2)))))
end
theorem shapesearchlaw14_all.mono_l : ∀ k, (∀ y0 y1 y2 y3 y4, LeO (shapesearchlaw14_all.f k y0 y1 y2 y3 y4) (shapesearchlaw14_all.f (k + 1) y0 y1 y2 y3 y4)) ∧ (∀ y0 y1 y2 y3 y4 y5, LeO (shapesearchlaw14_all.j0 k y0 y1 y2 y3 y4 y5) (shapesearchlaw14_all.j0 (k + 1) y0 y1 y2 y3 y4 y5)) ∧ (∀ y0 y1 y2 y3 y4 y5 y6, LeO (shapesearchlaw14_all.j1 k y0 y1 y2 y3 y4 y5 y6) (shapesearchlaw14_all.j1 (k + 1) y0 y1 y2 y3 y4 y5 y6))
  | 0 => ⟨fun _ _ _ _ _ r h => by simp [shapesearchlaw14_all.f] at h, fun _ _ _ _ _ _ r h => by simp [shapesearchlaw14_all.j0] at h, fun _ _ _ _ _ _ _ r h => by simp [shapesearchlaw14_all.j1] at h⟩
  | k + 1 => by
    obtain ⟨ih0, ih1, ih2⟩ := shapesearchlaw14_all.mono_l k
    refine ⟨?_, ?_, ?_⟩
    · intro y0 y1 y2 y3 y4
      unfold shapesearchlaw14_all.f
      repeat' first
      | (with_reducible exact ih0 _ _ _ _ _)
      | (with_reducible exact ih1 _ _ _ _ _ _)
      | (with_reducible exact ih2 _ _ _ _ _ _ _)
      | (with_reducible exact LeO.refl _)
      | (with_reducible exact LeO.none _)
      | (with_reducible refine LeO.ite ?_ ?_)
      | (with_reducible refine LeO.bind ?_ (fun _ => ?_))
      | exact ih0 _ _ _ _ _
      | exact ih1 _ _ _ _ _ _
      | exact ih2 _ _ _ _ _ _ _
      | exact LeO.none _
      | refine LeO.ite ?_ ?_
      | refine LeO.bind ?_ (fun _ => ?_)
    · intro y0 y1 y2 y3 y4 y5
      unfold shapesearchlaw14_all.j0
      repeat' first
      | (with_reducible exact ih0 _ _ _ _ _)
      | (with_reducible exact ih1 _ _ _ _ _ _)
      | (with_reducible exact ih2 _ _ _ _ _ _ _)
      | (with_reducible exact LeO.refl _)
      | (with_reducible exact LeO.none _)
      | (with_reducible refine LeO.ite ?_ ?_)
      | (with_reducible refine LeO.bind ?_ (fun _ => ?_))
      | exact ih0 _ _ _ _ _
      | exact ih1 _ _ _ _ _ _
      | exact ih2 _ _ _ _ _ _ _
      | exact LeO.none _
      | refine LeO.ite ?_ ?_
      | refine LeO.bind ?_ (fun _ => ?_)
    · intro y0 y1 y2 y3 y4 y5 y6
      unfold shapesearchlaw14_all.j1
      repeat' first
      | (with_reducible exact ih0 _ _ _ _ _)
      | (with_reducible exact ih1 _ _ _ _ _ _)
      | (with_reducible exact ih2 _ _ _ _ _ _ _)
      | (with_reducible exact LeO.refl _)
      | (with_reducible exact LeO.none _)
      | (with_reducible refine LeO.ite ?_ ?_)
      | (with_reducible refine LeO.bind ?_ (fun _ => ?_))
      | exact ih0 _ _ _ _ _
      | exact ih1 _ _ _ _ _ _
      | exact ih2 _ _ _ _ _ _ _
      | exact LeO.none _
      | refine LeO.ite ?_ ?_
      | refine LeO.bind ?_ (fun _ => ?_)
theorem shapesearchlaw14_all.mono : ∀ a0 a1 a2 a3 a4 k, LeO (shapesearchlaw14_all.f k a0 a1 a2 a3 a4) (shapesearchlaw14_all.f (k + 1) a0 a1 a2 a3 a4) := by
  intro a0 a1 a2 a3 a4 k
  obtain ⟨ih0, ih1, ih2⟩ := shapesearchlaw14_all.mono_l k
  exact ih0 a0 a1 a2 a3 a4
set_option maxHeartbeats 8000000 in
set_option maxRecDepth 100000 in
theorem shapesearchlaw14_all.calls (k : Nat) : ∀ (A0 : Option Addr) (c0 : Nat) (l0 : List Int) (A1 : Option Addr) (c1 : Nat) (l1 : List Int) (a2 : Int) (a3 : Int) (a4 : Int) (r : Int) (w : World) (hr0 : Kd.C (Kd.int .i64) w A0 l0.length l0) (hc0 : l0.length ≤ c0) (hr1 : Kd.C (Kd.int .i64) w A1 l1.length l1) (hc1 : l1.length ≤ c1) (h : shapesearchlaw14_all.f k l0 l1 a2 a3 a4 = some r),
    Calls Try.prog 13 #[.slice A0 l0.length c0, .slice A1 l1.length c1, .int .i64 a2, .int .i64 a3, .int .i64 a4] w fun e w' => e = .returned (.int .i64 r) ∧ Below w.heap.size w w' := by
 induction k using Nat.strongRecOn with
 | _ k ih =>
 intro A0 c0 l0 A1 c1 l1 a2 a3 a4 r w hr0 hc0 hr1 hc1 h
 cases k with
 | zero => exact absurd h (by simp [shapesearchlaw14_all.f])
 | succ k =>
 simp only [shapesearchlaw14_all.f] at h
 have HR0 := Aside0.mk hr0
 have HC0 := Aside0.mk hc0
 clear hr0 hc0
 have HR1 := Aside0.mk hr1
 have HC1 := Aside0.mk hc1
 clear hr1 hc1
 have HB := Aside0.mk (Below.refl w.heap.size w)
 have H : (if a3 ≥ (l0.length : Int) then (shapesearchlaw14_all.j0 k l0 l1 a2 a3 a4 true) else (if a4 ≥ (l1.length : Int) then (shapesearchlaw14_all.j0 k l0 l1 a2 a3 a4 true) else (if (wrap64 (a3 - a4)) > a2 then (shapesearchlaw14_all.j0 k l0 l1 a2 a3 a4 true) else (shapesearchlaw14_all.j0 k l0 l1 a2 a3 a4 (decide ((wrap64 (a4 - a3)) > a2)))))) = some r := h
 clear h
 have HC6 := Aside0.mk H
 clear H
 go_enter Try.func13, Try.ntmps13
 go_upto_region 1 with (fail)
 repeat (go_quiet (fail); go_upto_region 1 with (fail))
 go_cut [35] (fun v35 wc => ∃ (kq : Nat) (x35_5 : Bool), v35 = .bool x35_5 ∧ Aside0 (shapesearchlaw14_all.j0 kq l0 l1 a2 a3 a4 x35_5 = some r) ∧ Aside0 (kq ≤ k) ∧ Aside0 (Below w.heap.size w wc))
 case first =>
  have H := HC6.out
  clear HC6
  by_cases c7 : a3 ≥ (l0.length : Int)
  ·rw [if_pos c7] at H
   have c7b0 : decide ((l0.length : Int) ≤ a3) = true := decide_eq_true c7
   clear c7
   (first | rw [c7b0] | (simp only [i64_w, i32_w]; rw [c7b0]) | skip)
   have H' := Aside0.mk H
   clear H
   go_wp2
   repeat (go_quiet (fail); try go_wp2)
   go_meet
   case rel => exact ⟨_, (true), (by first | rfl | (simp; done) | (simp [*]; done)), H', ⟨by first | omega | exact Nat.le_refl _⟩, ⟨by repeat (first | (with_reducible first | exact HB.out | apply below_alloc | apply pw_below_drewN | apply below_drew1) | exact HB.out)⟩⟩
  ·rw [if_neg c7] at H
   have c7b0 : decide ((l0.length : Int) ≤ a3) = false := decide_eq_false c7
   clear c7
   (first | rw [c7b0] | (simp only [i64_w, i32_w]; rw [c7b0]) | skip)
   by_cases c8 : a4 ≥ (l1.length : Int)
   ·rw [if_pos c8] at H
    have c8b0 : decide ((l1.length : Int) ≤ a4) = true := decide_eq_true c8
    clear c8
    have H' := Aside0.mk H
    clear H
    go_wp2
    repeat (go_quiet (fail); try go_wp2)
    go_meet
    case rel => exact ⟨_, (true), (by first | rfl | (simp; done) | (simp [*]; done)), H', ⟨by first | omega | exact Nat.le_refl _⟩, ⟨by repeat (first | (with_reducible first | exact HB.out | apply below_alloc | apply pw_below_drewN | apply below_drew1) | exact HB.out)⟩⟩
   ·rw [if_neg c8] at H
    have c8b0 : decide ((l1.length : Int) ≤ a4) = false := decide_eq_false c8
    clear c8
    by_cases c9 : (wrap64 (a3 - a4)) > a2
    ·rw [if_pos c9] at H
     have c9b0 : decide (a2 < (wrap64 (a3 - a4))) = true := decide_eq_true c9
     clear c9
     have H' := Aside0.mk H
     clear H
     go_wp2
     repeat (go_quiet (fail); try go_wp2)
     go_meet
     case rel => exact ⟨_, (true), (by first | rfl | (simp; done) | (simp [*]; done)), H', ⟨by first | omega | exact Nat.le_refl _⟩, ⟨by repeat (first | (with_reducible first | exact HB.out | apply below_alloc | apply pw_below_drewN | apply below_drew1) | exact HB.out)⟩⟩
    ·rw [if_neg c9] at H
     have c9b0 : decide (a2 < (wrap64 (a3 - a4))) = false := decide_eq_false c9
     clear c9
     have H' := Aside0.mk H
     clear H
     go_wp2
     repeat (go_quiet (fail); try go_wp2)
     go_meet
     case rel => exact ⟨_, (decide ((wrap64 (a4 - a3)) > a2)), (by first | rfl | (simp; done) | (simp [*]; done)), H', ⟨by first | omega | exact Nat.le_refl _⟩, ⟨by repeat (first | (with_reducible first | exact HB.out | apply below_alloc | apply pw_below_drewN | apply below_drew1) | exact HB.out)⟩⟩
 case rest =>
  clear HC6
  try clear c1
  try clear p2
  try clear p6
  try clear c7
  try clear c7b0
  try clear c8
  try clear c8b0
  try clear c9
  try clear c9b0
  obtain ⟨kq, x35_5, rfl, HA, HJ5, HB⟩ := hcut
  cases kq with
  | zero => exact absurd HA.out (by simp [shapesearchlaw14_all.j0])
  | succ kj5 =>
   have H := HA.out
   clear HA
   simp only [shapesearchlaw14_all.j0] at H
   by_cases c10 : x35_5 = true
   ·subst c10
    have H1 : (some 4611686018427387904) = some r := by rw [if_pos rfl] at H; exact H
    clear H
    have H := H1
    clear H1
    obtain rfl := Option.some.inj H
    go_wp2
    repeat (go_quiet (fail); try go_wp2)
    go_ret
    exact ⟨by first | rfl | (simp [errW_none, errW_some] <;> rfl) | (simp [*, errW_none, errW_some] <;> rfl), by repeat (first | (with_reducible first | exact HB.out | apply below_alloc | apply pw_below_drewN | apply below_drew1) | exact HB.out)⟩
   ·replace c10 := Bool.eq_false_iff.mpr c10
    subst c10
    have H1 : (if 0 ≤ a3 then (if a3 < (l0.length : Int) then (if 0 ≤ a4 then (if a4 < (l1.length : Int) then (if a3 = (wrap64 ((l0.length : Int) - 1)) then (shapesearchlaw14_all.j1 kj5 l0 l1 a2 a3 a4 (wrap64 ((wrap64 ((rd l0 a3) - (rd l1 a4))) * (wrap64 ((rd l0 a3) - (rd l1 a4))))) (a4 == (wrap64 ((l1.length : Int) - 1)))) else (shapesearchlaw14_all.j1 kj5 l0 l1 a2 a3 a4 (wrap64 ((wrap64 ((rd l0 a3) - (rd l1 a4))) * (wrap64 ((rd l0 a3) - (rd l1 a4))))) false)) else (none)) else (none)) else (none)) else (none)) = some r := by rw [if_neg (show ¬ (false = true) by decide)] at H; exact H
    clear H
    have H := H1
    clear H1
    by_cases c11 : 0 ≤ a3
    ·rw [if_pos c11] at H
     have c11b0 : decide (0 ≤ a3) = true := decide_eq_true c11
     clear c11
     by_cases c12 : a3 < (l0.length : Int)
     ·rw [if_pos c12] at H
      have c12b0 : decide (a3 < (l0.length : Int)) = true := decide_eq_true c12
      clear c12
      by_cases c13 : 0 ≤ a4
      ·rw [if_pos c13] at H
       have c13b0 : decide (0 ≤ a4) = true := decide_eq_true c13
       clear c13
       by_cases c14 : a4 < (l1.length : Int)
       ·rw [if_pos c14] at H
        have c14b0 : decide (a4 < (l1.length : Int)) = true := decide_eq_true c14
        clear c14
        have HC15 := Aside0.mk H
        clear H
        have p277 : 0 ≤ (a3 : Int) := of_decide_eq_true (by first | (with_reducible assumption) | assumption)
        have q277 : a3 < (l0.length : Int) := of_decide_eq_true (by first | (with_reducible assumption) | assumption)
        obtain ⟨ad277, e277, hx277_0⟩ := Kd.at_int HR0.out a3 p277 q277
        cases e277
        replace hx277_0 := (HB.out.cell (World.block_lt_of_cell? w _ hx277_0)).trans hx277_0
        replace p277 := eq_true p277
        replace q277 := eq_true q277
        have p278 : 0 ≤ (a4 : Int) := of_decide_eq_true (by first | (with_reducible assumption) | assumption)
        have q278 : a4 < (l1.length : Int) := of_decide_eq_true (by first | (with_reducible assumption) | assumption)
        obtain ⟨ad278, e278, hx278_0⟩ := Kd.at_int HR1.out a4 p278 q278
        cases e278
        replace hx278_0 := (HB.out.cell (World.block_lt_of_cell? w _ hx278_0)).trans hx278_0
        replace p278 := eq_true p278
        replace q278 := eq_true q278
        have p279 : 0 ≤ (a3 : Int) := of_decide_eq_true (by first | (with_reducible assumption) | assumption)
        have q279 : a3 < (l0.length : Int) := of_decide_eq_true (by first | (with_reducible assumption) | assumption)
        obtain ⟨ad279, e279, hx279_0⟩ := Kd.at_int HR0.out a3 p279 q279
        obtain rfl : ad277 = ad279 := (by injection e279)
        replace hx279_0 := (HB.out.cell (World.block_lt_of_cell? w _ hx279_0)).trans hx279_0
        replace p279 := eq_true p279
        replace q279 := eq_true q279
        have p280 : 0 ≤ (a4 : Int) := of_decide_eq_true (by first | (with_reducible assumption) | assumption)
        have q280 : a4 < (l1.length : Int) := of_decide_eq_true (by first | (with_reducible assumption) | assumption)
        obtain ⟨ad280, e280, hx280_0⟩ := Kd.at_int HR1.out a4 p280 q280
        obtain rfl : ad278 = ad280 := (by injection e280)
        replace hx280_0 := (HB.out.cell (World.block_lt_of_cell? w _ hx280_0)).trans hx280_0
        replace p280 := eq_true p280
        replace q280 := eq_true q280
        go_upto_region 4 with (fail)
        repeat (go_quiet (fail); go_upto_region 4 with (fail))
        go_cut [66] (fun v66 wc => ∃ (kq : Nat) (x66_14 : Bool), v66 = .bool x66_14 ∧ Aside0 (shapesearchlaw14_all.j1 kq l0 l1 a2 a3 a4 (wrap64 ((wrap64 ((rd l0 a3) - (rd l1 a4))) * (wrap64 ((rd l0 a3) - (rd l1 a4))))) x66_14 = some r) ∧ Aside0 (kq ≤ kj5) ∧ Aside0 (Below w.heap.size w wc))
        case first =>
         have H := HC15.out
         clear HC15
         by_cases c16 : a3 = (wrap64 ((l0.length : Int) - 1))
         ·rw [if_pos c16] at H
          have c16b0 : (a3 == (wrap64 ((l0.length : Int) - 1))) = true := beq_iff_eq.mpr c16
          have c16b1 : (a3 != (wrap64 ((l0.length : Int) - 1))) = false := bne_eq_false_iff_eq.mpr c16
          clear c16
          (first | rw [c16b0] | (simp only [i64_w, i32_w]; rw [c16b0]) | skip)
          have H' := Aside0.mk H
          clear H
          go_wp2
          repeat (go_quiet (fail); try go_wp2)
          go_meet
          case rel => exact ⟨_, ((a4 == (wrap64 ((l1.length : Int) - 1)))), (by first | rfl | (simp; done) | (simp [*]; done)), H', ⟨by have := HJ5.out; first | omega | exact Nat.le_refl _⟩, ⟨by repeat (first | (with_reducible first | exact HB.out | apply below_alloc | apply pw_below_drewN | apply below_drew1) | exact HB.out)⟩⟩
         ·rw [if_neg c16] at H
          have c16b0 : (a3 == (wrap64 ((l0.length : Int) - 1))) = false := beq_eq_false_iff_ne.mpr c16
          have c16b1 : (a3 != (wrap64 ((l0.length : Int) - 1))) = true := bne_iff_ne.mpr c16
          (first | rw [c16b0] | (simp only [i64_w, i32_w]; rw [c16b0]) | skip)
          have H' := Aside0.mk H
          clear H
          go_wp2
          repeat (go_quiet (fail); try go_wp2)
          go_meet
          case rel => exact ⟨_, (false), (by first | rfl | (simp; done) | (simp [*]; done)), H', ⟨by have := HJ5.out; first | omega | exact Nat.le_refl _⟩, ⟨by repeat (first | (with_reducible first | exact HB.out | apply below_alloc | apply pw_below_drewN | apply below_drew1) | exact HB.out)⟩⟩
        case rest =>
         clear HC15
         try clear c1
         try clear p2
         try clear q2
         try clear hx2
         try clear p6
         try clear c7
         try clear c7b0
         try clear c8
         try clear c8b0
         try clear c9
         try clear c9b0
         try clear c10
         try clear c11
         try clear c11b0
         try clear c12
         try clear c12b0
         try clear c13
         try clear c13b0
         try clear c14
         try clear c14b0
         try clear c16
         try clear c16b0
         try clear c16b1
         try clear hx277_0
         try clear hx278_0
         try clear hx279_0
         try clear hx280_0
         try clear p2
         try clear p277
         try clear p278
         try clear p279
         try clear p280
         try clear p6
         try clear q277
         try clear q278
         try clear q279
         try clear q280
         obtain ⟨kq, x66_14, rfl, HA, HJ14, HB⟩ := hcut
         cases kq with
         | zero => exact absurd HA.out (by simp [shapesearchlaw14_all.j1])
         | succ kj14 =>
          have H := HA.out
          clear HA
          simp only [shapesearchlaw14_all.j1] at H
          by_cases c17 : x66_14 = true
          ·subst c17
           have H1 : (some (wrap64 ((wrap64 ((rd l0 a3) - (rd l1 a4))) * (wrap64 ((rd l0 a3) - (rd l1 a4)))))) = some r := by rw [if_pos rfl] at H; exact H
           clear H
           have H := H1
           clear H1
           obtain rfl := Option.some.inj H
           go_wp2
           repeat (go_quiet (fail); try go_wp2)
           go_ret
           exact ⟨by first | rfl | (simp [errW_none, errW_some] <;> rfl) | (simp [*, errW_none, errW_some] <;> rfl), by repeat (first | (with_reducible first | exact HB.out | apply below_alloc | apply pw_below_drewN | apply below_drew1) | exact HB.out)⟩
          ·replace c17 := Bool.eq_false_iff.mpr c17
           subst c17
           have H1 : ((shapesearchlaw14_all.f kj14 l0 l1 a2 (wrap64 (a3 + 1)) (wrap64 (a4 + 1))).bind fun t281 => ((shapesearchlaw14_all.f kj14 l0 l1 a2 (wrap64 (a3 + 1)) a4).bind fun t282 => ((shapesearchlaw14_all.f kj14 l0 l1 a2 a3 (wrap64 (a4 + 1))).bind fun t283 => (some (mn 4611686018427387904 (wrap64 ((wrap64 ((wrap64 ((rd l0 a3) - (rd l1 a4))) * (wrap64 ((rd l0 a3) - (rd l1 a4))))) + (mn (mn t281 t282) t283)))))))) = some r := by rw [if_neg (show ¬ (false = true) by decide)] at H; exact H
           clear H
           have H := H1
           clear H1
           replace H := Option.bind_eq_some_iff.mp H
           obtain ⟨t281, A180, H⟩ := H
           replace H : ((shapesearchlaw14_all.f kj14 l0 l1 a2 (wrap64 (a3 + 1)) a4).bind fun t282 => ((shapesearchlaw14_all.f kj14 l0 l1 a2 a3 (wrap64 (a4 + 1))).bind fun t283 => (some (mn 4611686018427387904 (wrap64 ((wrap64 ((wrap64 ((rd l0 a3) - (rd l1 a4))) * (wrap64 ((rd l0 a3) - (rd l1 a4))))) + (mn (mn t281 t282) t283))))))) = some r := H
           have A18 := Aside0.mk A180
           clear A180
           replace H := Option.bind_eq_some_iff.mp H
           obtain ⟨t282, A190, H⟩ := H
           replace H : ((shapesearchlaw14_all.f kj14 l0 l1 a2 a3 (wrap64 (a4 + 1))).bind fun t283 => (some (mn 4611686018427387904 (wrap64 ((wrap64 ((wrap64 ((rd l0 a3) - (rd l1 a4))) * (wrap64 ((rd l0 a3) - (rd l1 a4))))) + (mn (mn t281 t282) t283)))))) = some r := H
           have A19 := Aside0.mk A190
           clear A190
           replace H := Option.bind_eq_some_iff.mp H
           obtain ⟨t283, A200, H⟩ := H
           replace H : (some (mn 4611686018427387904 (wrap64 ((wrap64 ((wrap64 ((rd l0 a3) - (rd l1 a4))) * (wrap64 ((rd l0 a3) - (rd l1 a4))))) + (mn (mn t281 t282) t283))))) = some r := H
           have A20 := Aside0.mk A200
           clear A200
           obtain ⟨ji21, hji21⟩ : ∃ j_ : Int, (mn t281 t282) = j_ := ⟨_, rfl⟩
           replace H : (some (mn 4611686018427387904 (wrap64 ((wrap64 ((wrap64 ((rd l0 a3) - (rd l1 a4))) * (wrap64 ((rd l0 a3) - (rd l1 a4))))) + (mn (ji21) t283))))) = some r := by first | (rw [hji21] at H; exact H) | (simp only [hji21] at H ⊢; exact H)
           (try rw [hji21] at A18)
           (try rw [hji21] at A19)
           (try rw [hji21] at A20)
           have hji21_ : (if t282 < t281 then t282 else t281) = ji21 := hji21
           obtain ⟨ji22, hji22⟩ : ∃ j_ : Int, (mn (ji21) t283) = j_ := ⟨_, rfl⟩
           replace H : (some (mn 4611686018427387904 (wrap64 ((wrap64 ((wrap64 ((rd l0 a3) - (rd l1 a4))) * (wrap64 ((rd l0 a3) - (rd l1 a4))))) + (ji22))))) = some r := by first | (rw [hji22] at H; exact H) | (simp only [hji22] at H ⊢; exact H)
           (try rw [hji22] at A18)
           (try rw [hji22] at A19)
           (try rw [hji22] at A20)
           have hji22_ : (if t283 < (ji21) then t283 else (ji21)) = ji22 := hji22
           obtain ⟨ji23, hji23⟩ : ∃ j_ : Int, (mn 4611686018427387904 (wrap64 ((wrap64 ((wrap64 ((rd l0 a3) - (rd l1 a4))) * (wrap64 ((rd l0 a3) - (rd l1 a4))))) + (ji22)))) = j_ := ⟨_, rfl⟩
           replace H : (some ji23) = some r := by first | (rw [hji23] at H; exact H) | (simp only [hji23] at H ⊢; exact H)
           (try rw [hji23] at A18)
           (try rw [hji23] at A19)
           (try rw [hji23] at A20)
           have hji23_ : (if (wrap64 ((wrap64 ((wrap64 ((rd l0 a3) - (rd l1 a4))) * (wrap64 ((rd l0 a3) - (rd l1 a4))))) + (ji22))) < 4611686018427387904 then (wrap64 ((wrap64 ((wrap64 ((rd l0 a3) - (rd l1 a4))) * (wrap64 ((rd l0 a3) - (rd l1 a4))))) + (ji22))) else 4611686018427387904) = ji23 := hji23
           obtain rfl := Option.some.inj H
           go_wp2_with (first | (go_at_call 13; (with_reducible refine (ih kj14 (by have := HJ5.out; have := HJ14.out; omega) _ _ l0 _ _ l1 a2 (wrap64 (a3 + 1)) (wrap64 (a4 + 1)) t281 _ ?side1 ?side2 ?side3 ?side4 A18.out).mono ?_); (case side1 => repeat (first | exact (Kd.C_below HR0.out HB.out) | (with_reducible refine Kd.C_alloc ?_ _) | (with_reducible refine Kd.C_drewN ?_ _) | (with_reducible refine Kd.C_drew ?_))); (case side2 => exact HC0.out); (case side3 => repeat (first | exact (Kd.C_below HR1.out HB.out) | (with_reducible refine Kd.C_alloc ?_ _) | (with_reducible refine Kd.C_drewN ?_ _) | (with_reducible refine Kd.C_drew ?_))); (case side4 => exact HC1.out); rintro e w24 ⟨rfl, hb⟩; have n0_ := Aside0.mk (below_step (by repeat (first | (with_reducible first | exact HB.out | apply below_alloc | apply pw_below_drewN | apply below_drew1) | exact HB.out)) hb); clear HB; have HB := n0_; clear n0_; (try clear hb); (try clear hb2); (try clear hk); (try clear hi)) | (go_at_call 13; (with_reducible refine (ih kj14 (by have := HJ5.out; have := HJ14.out; omega) _ _ l0 _ _ l1 a2 (wrap64 (a3 + 1)) a4 t282 _ ?side1 ?side2 ?side3 ?side4 A19.out).mono ?_); (case side1 => repeat (first | exact (Kd.C_below HR0.out HB.out) | (with_reducible refine Kd.C_alloc ?_ _) | (with_reducible refine Kd.C_drewN ?_ _) | (with_reducible refine Kd.C_drew ?_))); (case side2 => exact HC0.out); (case side3 => repeat (first | exact (Kd.C_below HR1.out HB.out) | (with_reducible refine Kd.C_alloc ?_ _) | (with_reducible refine Kd.C_drewN ?_ _) | (with_reducible refine Kd.C_drew ?_))); (case side4 => exact HC1.out); rintro e w25 ⟨rfl, hb⟩; have n0_ := Aside0.mk (below_step (by repeat (first | (with_reducible first | exact HB.out | apply below_alloc | apply pw_below_drewN | apply below_drew1) | exact HB.out)) hb); clear HB; have HB := n0_; clear n0_; (try clear hb); (try clear hb2); (try clear hk); (try clear hi)) | (go_at_call 13; (with_reducible refine (ih kj14 (by have := HJ5.out; have := HJ14.out; omega) _ _ l0 _ _ l1 a2 a3 (wrap64 (a4 + 1)) t283 _ ?side1 ?side2 ?side3 ?side4 A20.out).mono ?_); (case side1 => repeat (first | exact (Kd.C_below HR0.out HB.out) | (with_reducible refine Kd.C_alloc ?_ _) | (with_reducible refine Kd.C_drewN ?_ _) | (with_reducible refine Kd.C_drew ?_))); (case side2 => exact HC0.out); (case side3 => repeat (first | exact (Kd.C_below HR1.out HB.out) | (with_reducible refine Kd.C_alloc ?_ _) | (with_reducible refine Kd.C_drewN ?_ _) | (with_reducible refine Kd.C_drew ?_))); (case side4 => exact HC1.out); rintro e w26 ⟨rfl, hb⟩; have n0_ := Aside0.mk (below_step (by repeat (first | (with_reducible first | exact HB.out | apply below_alloc | apply pw_below_drewN | apply below_drew1) | exact HB.out)) hb); clear HB; have HB := n0_; clear n0_; (try clear hb); (try clear hb2); (try clear hk); (try clear hi)))
           repeat (go_quiet (first | (go_at_call 13; (with_reducible refine (ih kj14 (by have := HJ5.out; have := HJ14.out; omega) _ _ l0 _ _ l1 a2 (wrap64 (a3 + 1)) (wrap64 (a4 + 1)) t281 _ ?side1 ?side2 ?side3 ?side4 A18.out).mono ?_); (case side1 => repeat (first | exact (Kd.C_below HR0.out HB.out) | (with_reducible refine Kd.C_alloc ?_ _) | (with_reducible refine Kd.C_drewN ?_ _) | (with_reducible refine Kd.C_drew ?_))); (case side2 => exact HC0.out); (case side3 => repeat (first | exact (Kd.C_below HR1.out HB.out) | (with_reducible refine Kd.C_alloc ?_ _) | (with_reducible refine Kd.C_drewN ?_ _) | (with_reducible refine Kd.C_drew ?_))); (case side4 => exact HC1.out); rintro e w24 ⟨rfl, hb⟩; have n0_ := Aside0.mk (below_step (by repeat (first | (with_reducible first | exact HB.out | apply below_alloc | apply pw_below_drewN | apply below_drew1) | exact HB.out)) hb); clear HB; have HB := n0_; clear n0_; (try clear hb); (try clear hb2); (try clear hk); (try clear hi)) | (go_at_call 13; (with_reducible refine (ih kj14 (by have := HJ5.out; have := HJ14.out; omega) _ _ l0 _ _ l1 a2 (wrap64 (a3 + 1)) a4 t282 _ ?side1 ?side2 ?side3 ?side4 A19.out).mono ?_); (case side1 => repeat (first | exact (Kd.C_below HR0.out HB.out) | (with_reducible refine Kd.C_alloc ?_ _) | (with_reducible refine Kd.C_drewN ?_ _) | (with_reducible refine Kd.C_drew ?_))); (case side2 => exact HC0.out); (case side3 => repeat (first | exact (Kd.C_below HR1.out HB.out) | (with_reducible refine Kd.C_alloc ?_ _) | (with_reducible refine Kd.C_drewN ?_ _) | (with_reducible refine Kd.C_drew ?_))); (case side4 => exact HC1.out); rintro e w25 ⟨rfl, hb⟩; have n0_ := Aside0.mk (below_step (by repeat (first | (with_reducible first | exact HB.out | apply below_alloc | apply pw_below_drewN | apply below_drew1) | exact HB.out)) hb); clear HB; have HB := n0_; clear n0_; (try clear hb); (try clear hb2); (try clear hk); (try clear hi)) | (go_at_call 13; (with_reducible refine (ih kj14 (by have := HJ5.out; have := HJ14.out; omega) _ _ l0 _ _ l1 a2 a3 (wrap64 (a4 + 1)) t283 _ ?side1 ?side2 ?side3 ?side4 A20.out).mono ?_); (case side1 => repeat (first | exact (Kd.C_below HR0.out HB.out) | (with_reducible refine Kd.C_alloc ?_ _) | (with_reducible refine Kd.C_drewN ?_ _) | (with_reducible refine Kd.C_drew ?_))); (case side2 => exact HC0.out); (case side3 => repeat (first | exact (Kd.C_below HR1.out HB.out) | (with_reducible refine Kd.C_alloc ?_ _) | (with_reducible refine Kd.C_drewN ?_ _) | (with_reducible refine Kd.C_drew ?_))); (case side4 => exact HC1.out); rintro e w26 ⟨rfl, hb⟩; have n0_ := Aside0.mk (below_step (by repeat (first | (with_reducible first | exact HB.out | apply below_alloc | apply pw_below_drewN | apply below_drew1) | exact HB.out)) hb); clear HB; have HB := n0_; clear n0_; (try clear hb); (try clear hb2); (try clear hk); (try clear hi))); try go_wp2_with (first | (go_at_call 13; (with_reducible refine (ih kj14 (by have := HJ5.out; have := HJ14.out; omega) _ _ l0 _ _ l1 a2 (wrap64 (a3 + 1)) (wrap64 (a4 + 1)) t281 _ ?side1 ?side2 ?side3 ?side4 A18.out).mono ?_); (case side1 => repeat (first | exact (Kd.C_below HR0.out HB.out) | (with_reducible refine Kd.C_alloc ?_ _) | (with_reducible refine Kd.C_drewN ?_ _) | (with_reducible refine Kd.C_drew ?_))); (case side2 => exact HC0.out); (case side3 => repeat (first | exact (Kd.C_below HR1.out HB.out) | (with_reducible refine Kd.C_alloc ?_ _) | (with_reducible refine Kd.C_drewN ?_ _) | (with_reducible refine Kd.C_drew ?_))); (case side4 => exact HC1.out); rintro e w24 ⟨rfl, hb⟩; have n0_ := Aside0.mk (below_step (by repeat (first | (with_reducible first | exact HB.out | apply below_alloc | apply pw_below_drewN | apply below_drew1) | exact HB.out)) hb); clear HB; have HB := n0_; clear n0_; (try clear hb); (try clear hb2); (try clear hk); (try clear hi)) | (go_at_call 13; (with_reducible refine (ih kj14 (by have := HJ5.out; have := HJ14.out; omega) _ _ l0 _ _ l1 a2 (wrap64 (a3 + 1)) a4 t282 _ ?side1 ?side2 ?side3 ?side4 A19.out).mono ?_); (case side1 => repeat (first | exact (Kd.C_below HR0.out HB.out) | (with_reducible refine Kd.C_alloc ?_ _) | (with_reducible refine Kd.C_drewN ?_ _) | (with_reducible refine Kd.C_drew ?_))); (case side2 => exact HC0.out); (case side3 => repeat (first | exact (Kd.C_below HR1.out HB.out) | (with_reducible refine Kd.C_alloc ?_ _) | (with_reducible refine Kd.C_drewN ?_ _) | (with_reducible refine Kd.C_drew ?_))); (case side4 => exact HC1.out); rintro e w25 ⟨rfl, hb⟩; have n0_ := Aside0.mk (below_step (by repeat (first | (with_reducible first | exact HB.out | apply below_alloc | apply pw_below_drewN | apply below_drew1) | exact HB.out)) hb); clear HB; have HB := n0_; clear n0_; (try clear hb); (try clear hb2); (try clear hk); (try clear hi)) | (go_at_call 13; (with_reducible refine (ih kj14 (by have := HJ5.out; have := HJ14.out; omega) _ _ l0 _ _ l1 a2 a3 (wrap64 (a4 + 1)) t283 _ ?side1 ?side2 ?side3 ?side4 A20.out).mono ?_); (case side1 => repeat (first | exact (Kd.C_below HR0.out HB.out) | (with_reducible refine Kd.C_alloc ?_ _) | (with_reducible refine Kd.C_drewN ?_ _) | (with_reducible refine Kd.C_drew ?_))); (case side2 => exact HC0.out); (case side3 => repeat (first | exact (Kd.C_below HR1.out HB.out) | (with_reducible refine Kd.C_alloc ?_ _) | (with_reducible refine Kd.C_drewN ?_ _) | (with_reducible refine Kd.C_drew ?_))); (case side4 => exact HC1.out); rintro e w26 ⟨rfl, hb⟩; have n0_ := Aside0.mk (below_step (by repeat (first | (with_reducible first | exact HB.out | apply below_alloc | apply pw_below_drewN | apply below_drew1) | exact HB.out)) hb); clear HB; have HB := n0_; clear n0_; (try clear hb); (try clear hb2); (try clear hk); (try clear hi))))
           go_ret
           exact ⟨by first | rfl | (simp [errW_none, errW_some] <;> rfl) | (simp only [← hji21, ← hji22, ← hji23]; first | rfl | (simp [errW_none, errW_some] <;> rfl)) | (simp [*, errW_none, errW_some] <;> rfl), by repeat (first | (with_reducible first | exact HB.out | apply below_alloc | apply pw_below_drewN | apply below_drew1) | exact HB.out)⟩
       ·rw [if_neg c14] at H
        exact absurd H (by simp)
      ·rw [if_neg c13] at H
       exact absurd H (by simp)
     ·rw [if_neg c12] at H
      exact absurd H (by simp)
    ·rw [if_neg c11] at H
     exact absurd H (by simp)

end Go.Proofs.Ytnceoalphoodaaa.PWarpAll
