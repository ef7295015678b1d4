/- Told by a program of this session out of the translation: Lean functions with the same answers as the Go functions that the law reaches, and proofs of that; no conditions. -/
import Derived.Test.YtnceoalphoodaaaPWarpAllx0
import Derived.Test.YtnceoalphoodaaaPWarpAllx5
namespace Go.Proofs.Ytnceoalphoodaaa.PWarpAll
open Go.RowKit Go.Proofs.YtnceoalphoodaaaW.PrintWords Go.Proofs.YtnceoalphoodaaaW.PrintLast Go.Proofs.YtnceoalphoodaaaW.PrintMore
attribute [local go_sem] max2_int min2_int max_two min_two max_three min_three max_four min_four   -- for this text's walks alone
set_option linter.unusedVariables false
set_option linter.unusedSimpArgs false

/-! ### warp_fill: function 37 -/
mutual
def warp_fill.l0 : Nat → List Int → List Int → List Int → List Int → Int → Int → Int → Int → Option (List Int)
  | 0, _, _, _, _, _, _, _, _ => none
  | k + 1, x0, x1, x2, x3, x4, x5, x15, x16 => if x16 < x15 then (if 0 ≤ x16 then (if x16 < (x0.length : Int) then ((some (x0.set (x16 : Int).toNat 4611686018427387904 : List Int)).bind fun y243 => ((warp_near.f x5 x16 x4).bind fun t244 => (if t244 = true then (if x5 = 0 then (warp_fill.j1 k y243 x1 x2 x3 x4 x5 x16 4611686018427387904 x15 x16 (x16 == 0)) else (warp_fill.j1 k y243 x1 x2 x3 x4 x5 x16 4611686018427387904 x15 x16 false)) else (warp_fill.l0 k y243 x1 x2 x3 x4 x5 x15 (wrap64 (x16 + 1)))))) else (none)) else (none)) else (some x0)
def warp_fill.j1 : Nat → List Int → List Int → List Int → List Int → Int → Int → Int → Int → Int → Int → Bool → Option (List Int)
  | 0, _, _, _, _, _, _, _, _, _, _, _ => none
  | k + 1, x0, x1, x2, x3, x4, x5, x12, x13, x15, x16, x32 => if x32 = true then (warp_fill.j2 k x0 x1 x2 x3 x4 x5 x12 0 x15 x16) else (warp_fill.j2 k x0 x1 x2 x3 x4 x5 x12 x13 x15 x16)
def warp_fill.j2 : Nat → List Int → List Int → List Int → List Int → Int → Int → Int → Int → Int → Int → Option (List Int)
  | 0, _, _, _, _, _, _, _, _, _, _ => none
  | k + 1, x0, x1, x2, x3, x4, x5, x12, x13, x15, x16 => if x12 > 0 then (if 0 ≤ (wrap64 (x12 - 1)) then (if (wrap64 (x12 - 1)) < (x0.length : Int) then (warp_fill.j3 k x0 x1 x2 x3 x4 x5 x12 (mn x13 (rd x0 (wrap64 (x12 - 1)))) x15 x16) else (none)) else (none)) else (warp_fill.j3 k x0 x1 x2 x3 x4 x5 x12 x13 x15 x16)
def warp_fill.j3 : Nat → List Int → List Int → List Int → List Int → Int → Int → Int → Int → Int → Int → Option (List Int)
  | 0, _, _, _, _, _, _, _, _, _, _ => none
  | k + 1, x0, x1, x2, x3, x4, x5, x12, x13, x15, x16 => if x5 > 0 then (if 0 ≤ x12 then (if x12 < (x1.length : Int) then (if x12 > 0 then (if 0 ≤ (wrap64 (x12 - 1)) then (if (wrap64 (x12 - 1)) < (x1.length : Int) then (if 0 ≤ x5 then (if x5 < (x2.length : Int) then (if x12 < (x3.length : Int) then (if x12 < (x0.length : Int) then (warp_fill.l0 k (x0.set (x12 : Int).toNat (mn 4611686018427387904 (wrap64 ((mn (mn (mn x13 (rd x1 x12)) (rd x1 x12)) (rd x1 (wrap64 (x12 - 1)))) + (wrap64 ((wrap64 ((rd x2 x5) - (rd x3 x12))) * (wrap64 ((rd x2 x5) - (rd x3 x12))))))))) x1 x2 x3 x4 x5 x15 (wrap64 (x16 + 1))) else (none)) else (none)) else (none)) else (none)) else (none)) else (none)) else (if 0 ≤ x5 then (if x5 < (x2.length : Int) then (if x12 < (x3.length : Int) then (if x12 < (x0.length : Int) then (warp_fill.l0 k (x0.set (x12 : Int).toNat (mn 4611686018427387904 (wrap64 ((mn x13 (rd x1 x12)) + (wrap64 ((wrap64 ((rd x2 x5) - (rd x3 x12))) * (wrap64 ((rd x2 x5) - (rd x3 x12))))))))) x1 x2 x3 x4 x5 x15 (wrap64 (x16 + 1))) else (none)) else (none)) else (none)) else (none))) else (none)) else (none)) else (if 0 ≤ x5 then (if x5 < (x2.length : Int) then (if 0 ≤ x12 then (if x12 < (x3.length : Int) then (if x12 < (x0.length : Int) then (warp_fill.l0 k (x0.set (x12 : Int).toNat (mn 4611686018427387904 (wrap64 (x13 + (wrap64 ((wrap64 ((rd x2 x5) - (rd x3 x12))) * (wrap64 ((rd x2 x5) - (rd x3 x12))))))))) x1 x2 x3 x4 x5 x15 (wrap64 (x16 + 1))) else (none)) else (none)) else (none)) else (none)) else (none))
end
def warp_fill.f (k : Nat) (l0 : List Int) (l1 : List Int) (l2 : List Int) (l3 : List Int) (a4 : Int) (a5 : Int) : Option (List Int) := warp_fill.l0 k l0 l1 l2 l3 a4 a5 (l3.length : Int) 0
theorem warp_fill.mono_l : ∀ k, (∀ y0 y1 y2 y3 y4 y5 y6 y7, LeO (warp_fill.l0 k y0 y1 y2 y3 y4 y5 y6 y7) (warp_fill.l0 (k + 1) y0 y1 y2 y3 y4 y5 y6 y7)) ∧ (∀ y0 y1 y2 y3 y4 y5 y6 y7 y8 y9 y10, LeO (warp_fill.j1 k y0 y1 y2 y3 y4 y5 y6 y7 y8 y9 y10) (warp_fill.j1 (k + 1) y0 y1 y2 y3 y4 y5 y6 y7 y8 y9 y10)) ∧ (∀ y0 y1 y2 y3 y4 y5 y6 y7 y8 y9, LeO (warp_fill.j2 k y0 y1 y2 y3 y4 y5 y6 y7 y8 y9) (warp_fill.j2 (k + 1) y0 y1 y2 y3 y4 y5 y6 y7 y8 y9)) ∧ (∀ y0 y1 y2 y3 y4 y5 y6 y7 y8 y9, LeO (warp_fill.j3 k y0 y1 y2 y3 y4 y5 y6 y7 y8 y9) (warp_fill.j3 (k + 1) y0 y1 y2 y3 y4 y5 y6 y7 y8 y9))
  | 0 => ⟨fun _ _ _ _ _ _ _ _ r h => by simp [warp_fill.l0] at h, fun _ _ _ _ _ _ _ _ _ _ _ r h => by simp [warp_fill.j1] at h, fun _ _ _ _ _ _ _ _ _ _ r h => by simp [warp_fill.j2] at h, fun _ _ _ _ _ _ _ _ _ _ r h => by simp [warp_fill.j3] at h⟩
  | k + 1 => by
    obtain ⟨ih0, ih1, ih2, ih3⟩ := warp_fill.mono_l k
    refine ⟨?_, ?_, ?_, ?_⟩
    · intro y0 y1 y2 y3 y4 y5 y6 y7
      unfold warp_fill.l0
      repeat' first
      | (with_reducible exact ih0 _ _ _ _ _ _ _ _)
      | (with_reducible exact ih1 _ _ _ _ _ _ _ _ _ _ _)
      | (with_reducible exact ih2 _ _ _ _ _ _ _ _ _ _)
      | (with_reducible exact ih3 _ _ _ _ _ _ _ _ _ _)
      | (with_reducible exact LeO.refl _)
      | (with_reducible exact LeO.none _)
      | (with_reducible refine LeO.ite ?_ ?_)
      | (with_reducible refine LeO.bind ?_ (fun _ => ?_))
      | exact ih0 _ _ _ _ _ _ _ _
      | exact ih1 _ _ _ _ _ _ _ _ _ _ _
      | exact ih2 _ _ _ _ _ _ _ _ _ _
      | exact ih3 _ _ _ _ _ _ _ _ _ _
      | exact LeO.none _
      | refine LeO.ite ?_ ?_
      | refine LeO.bind ?_ (fun _ => ?_)
    · intro y0 y1 y2 y3 y4 y5 y6 y7 y8 y9 y10
      unfold warp_fill.j1
      repeat' first
      | (with_reducible exact ih0 _ _ _ _ _ _ _ _)
      | (with_reducible exact ih1 _ _ _ _ _ _ _ _ _ _ _)
      | (with_reducible exact ih2 _ _ _ _ _ _ _ _ _ _)
      | (with_reducible exact ih3 _ _ _ _ _ _ _ _ _ _)
      | (with_reducible exact LeO.refl _)
      | (with_reducible exact LeO.none _)
      | (with_reducible refine LeO.ite ?_ ?_)
      | (with_reducible refine LeO.bind ?_ (fun _ => ?_))
      | exact ih0 _ _ _ _ _ _ _ _
      | exact ih1 _ _ _ _ _ _ _ _ _ _ _
      | exact ih2 _ _ _ _ _ _ _ _ _ _
      | exact ih3 _ _ _ _ _ _ _ _ _ _
      | exact LeO.none _
      | refine LeO.ite ?_ ?_
      | refine LeO.bind ?_ (fun _ => ?_)
    · intro y0 y1 y2 y3 y4 y5 y6 y7 y8 y9
      unfold warp_fill.j2
      repeat' first
      | (with_reducible exact ih0 _ _ _ _ _ _ _ _)
      | (with_reducible exact ih1 _ _ _ _ _ _ _ _ _ _ _)
      | (with_reducible exact ih2 _ _ _ _ _ _ _ _ _ _)
      | (with_reducible exact ih3 _ _ _ _ _ _ _ _ _ _)
      | (with_reducible exact LeO.refl _)
      | (with_reducible exact LeO.none _)
      | (with_reducible refine LeO.ite ?_ ?_)
      | (with_reducible refine LeO.bind ?_ (fun _ => ?_))
      | exact ih0 _ _ _ _ _ _ _ _
      | exact ih1 _ _ _ _ _ _ _ _ _ _ _
      | exact ih2 _ _ _ _ _ _ _ _ _ _
      | exact ih3 _ _ _ _ _ _ _ _ _ _
      | exact LeO.none _
      | refine LeO.ite ?_ ?_
      | refine LeO.bind ?_ (fun _ => ?_)
    · intro y0 y1 y2 y3 y4 y5 y6 y7 y8 y9
      unfold warp_fill.j3
      repeat' first
      | (with_reducible exact ih0 _ _ _ _ _ _ _ _)
      | (with_reducible exact ih1 _ _ _ _ _ _ _ _ _ _ _)
      | (with_reducible exact ih2 _ _ _ _ _ _ _ _ _ _)
      | (with_reducible exact ih3 _ _ _ _ _ _ _ _ _ _)
      | (with_reducible exact LeO.refl _)
      | (with_reducible exact LeO.none _)
      | (with_reducible refine LeO.ite ?_ ?_)
      | (with_reducible refine LeO.bind ?_ (fun _ => ?_))
      | exact ih0 _ _ _ _ _ _ _ _
      | exact ih1 _ _ _ _ _ _ _ _ _ _ _
      | exact ih2 _ _ _ _ _ _ _ _ _ _
      | exact ih3 _ _ _ _ _ _ _ _ _ _
      | exact LeO.none _
      | refine LeO.ite ?_ ?_
      | refine LeO.bind ?_ (fun _ => ?_)
theorem warp_fill.mono : ∀ a0 a1 a2 a3 a4 a5 k, LeO (warp_fill.f k a0 a1 a2 a3 a4 a5) (warp_fill.f (k + 1) a0 a1 a2 a3 a4 a5) := by
  intro a0 a1 a2 a3 a4 a5 k
  obtain ⟨ih0, ih1, ih2, ih3⟩ := warp_fill.mono_l k
  unfold warp_fill.f
  repeat' first
      | (with_reducible exact ih0 _ _ _ _ _ _ _ _)
      | (with_reducible exact ih1 _ _ _ _ _ _ _ _ _ _ _)
      | (with_reducible exact ih2 _ _ _ _ _ _ _ _ _ _)
      | (with_reducible exact ih3 _ _ _ _ _ _ _ _ _ _)
      | (with_reducible exact LeO.refl _)
      | (with_reducible exact LeO.none _)
      | (with_reducible refine LeO.ite ?_ ?_)
      | (with_reducible refine LeO.bind ?_ (fun _ => ?_))
      | exact ih0 _ _ _ _ _ _ _ _
      | exact ih1 _ _ _ _ _ _ _ _ _ _ _
      | exact ih2 _ _ _ _ _ _ _ _ _ _
      | exact ih3 _ _ _ _ _ _ _ _ _ _
      | exact LeO.none _
      | refine LeO.ite ?_ ?_
      | refine LeO.bind ?_ (fun _ => ?_)
def warp_fill.T13 : Bool × List (List Nat × List Nat) := (true, [([], []), ([], []), ([], []), ([1, 2], [1, 2]), ([3], [3]), ([], []), ([], []), ([6], [6]), ([5, 7], [5, 7]), ([8], [8]), ([0, 4, 9], [0, 4, 9]), ([10, 0, 1, 2, 3, 4, 5, 6, 7, 8, 9, 10], [0, 10])])
def warp_fill.B13 : List Nat := [0, 0, 0, 6, 14, 0, 0, 64, 224, 480, 1023, 2047]
theorem warp_fill.tab13 : rtab .any (opsOf Try.f37 13) = warp_fill.T13 := by kernel_rfl
theorem warp_fill.bits13 : waitsOk warp_fill.T13.2 warp_fill.B13 = true := by kernel_rfl
def warp_fill.T14 : Bool × List (List Nat × List Nat) := (true, [([], []), ([], []), ([], []), ([], []), ([], []), ([3, 4], [3, 4]), ([5], [5]), ([], []), ([], []), ([7, 8], [7, 8]), ([9], [9]), ([6, 10], [6, 10]), ([], []), ([], []), ([12, 13], [12, 13]), ([14], [14]), ([], []), ([], []), ([16, 17], [16, 17]), ([18], [18]), ([15, 19], [15, 19]), ([11, 20], [11, 20]), ([2, 21], [2, 21]), ([22], [22]), ([0, 1, 0, 1, 2, 3, 4, 5, 6, 7, 8, 9, 10, 11, 12, 13, 14, 15, 16, 17, 18, 19, 20, 21, 22, 23], [0, 1]), ([24, 23, 0, 1, 2, 3, 4, 5, 6, 7, 8, 9, 10, 11, 12, 13, 14, 15, 16, 17, 18, 19, 20, 21, 22, 23], [23, 24])])
def warp_fill.B14 : List Nat := [0, 0, 0, 0, 0, 24, 56, 0, 0, 384, 896, 2040, 0, 0, 12288, 28672, 0, 0, 196608, 458752, 1044480, 2097144, 4194300, 8388604, 16777215, 33554431]
theorem warp_fill.tab14 : rtab .any (opsOf Try.f37 14) = warp_fill.T14 := by kernel_rfl
theorem warp_fill.bits14 : waitsOk warp_fill.T14.2 warp_fill.B14 = true := by kernel_rfl
set_option maxHeartbeats 8000000 in
set_option maxRecDepth 100000 in
theorem warp_fill.calls (k : Nat) (P0_ : Nat → Prop) (u9000_ : Value) (l0 : List Int) (A1 : Option Addr) (c1 : Nat) (l1 : List Int) (A2 : Option Addr) (c2 : Nat) (l2 : List Int) (A3 : Option Addr) (c3 : Nat) (l3 : List Int) (a4 : Int) (a5 : Int) (r : List Int) (w0 w : World) (hB : Below w0.heap.size w0 w) (ho0 : Kd.R (Kd.int .i64) 3 w w0.heap.size P0_ u9000_ l0) (hr1 : ∀ W_, Kept w W_ (fun k_ => P0_ k_) → Kd.C (Kd.int .i64) W_ A1 l1.length l1) (hc1 : l1.length ≤ c1) (hr2 : ∀ W_, Kept w W_ (fun k_ => P0_ k_) → Kd.C (Kd.int .i64) W_ A2 l2.length l2) (hc2 : l2.length ≤ c2) (hr3 : ∀ W_, Kept w W_ (fun k_ => P0_ k_) → Kd.C (Kd.int .i64) W_ A3 l3.length l3) (hc3 : l3.length ≤ c3) (h : warp_fill.f k l0 l1 l2 l3 a4 a5 = some r) :
    Calls Try.prog 37 #[u9000_, .slice A1 l1.length c1, .slice A2 l2.length c2, .slice A3 l3.length c3, .int .i64 a4, .int .i64 a5] w fun e w' => e = .returned (.tuple #[]) ∧ Kd.R (Kd.int .i64) 3 w' w0.heap.size (fun k_ => (P0_ k_ ∨ w.heap.size ≤ k_)) u9000_ r ∧ Below w0.heap.size w0 w' ∧ Kept w w' (fun k_ => P0_ k_) := by
 have HO0 := Aside0.mk (show Kd.R (Kd.int .i64) 3 w w0.heap.size (fun k_ => (P0_ k_ ∨ w.heap.size ≤ k_)) u9000_ l0 from Kd.R_mono ho0 (fun k_ hk => (.inl hk)))
 have HR1 := Aside0.mk hr1
 have HC1 := Aside0.mk hc1
 clear hr1 hc1
 have HR2 := Aside0.mk hr2
 have HC2 := Aside0.mk hc2
 clear hr2 hc2
 have HR3 := Aside0.mk hr3
 have HC3 := Aside0.mk hc3
 clear hr3 hc3
 have HK := Aside0.mk (Kept.refl w (fun k_ => P0_ k_))
 have HW0 := Aside0.mk hB.size
 have HB := Aside0.mk hB
 clear hB
 have H : (warp_fill.l0 k l0 l1 l2 l3 a4 a5 (l3.length : Int) 0) = some r := h
 clear h
 have H' := Aside0.mk H
 clear H
 go_enter Try.func37, Try.ntmps37
 go_wp2
 go_loopg [16] k (fun kq v16 w' => ∃ (x0_1 : List Int) (x16_1 : Int), v16 = .int .i64 x16_1 ∧ Aside0 (warp_fill.l0 kq x0_1 l1 l2 l3 a4 a5 (l3.length : Int) x16_1 = some r) ∧ Aside0 (kq ≤ k) ∧ Aside0 (Kd.R (Kd.int .i64) 3 w' w0.heap.size (fun k_ => (P0_ k_ ∨ w.heap.size ≤ k_)) u9000_ x0_1) ∧ Aside0 (Kept w w' (fun k_ => P0_ k_)) ∧ Aside0 (Below w0.heap.size w0 w'))
 case atStart => exact ⟨(l0), (0), (by first | rfl | (simp; done) | (simp [*]; done)), H', ⟨Nat.le_refl _⟩, ⟨by (with_reducible repeat (first | apply Kd.R_alloc | apply Kd.R_drewN | apply Kd.R_drew)); exact HO0.out⟩, ⟨by repeat (first | (with_reducible first | exact HK.out | apply Kept.alloc | apply Kept.drewN | apply Kept.drew) | exact HK.out)⟩, ⟨by repeat (first | (with_reducible first | exact HB.out | apply below_alloc | apply pw_below_drewN | apply below_drew1) | exact HB.out)⟩⟩
 case round =>
  clear H'
  try clear c1
  try clear c2
  try clear p2
  try clear c3
  obtain ⟨x0_1, x16_1, rfl, HA, HK1, HO_0, HK, HB⟩ := hrel
  cases gk with
  | zero => exact absurd HA.out (by simp [warp_fill.l0])
  | succ k1 =>
   have H := HA.out
   clear HA
   simp only [warp_fill.l0] at H
   by_cases c7 : x16_1 < (l3.length : Int)
   ·rw [if_pos c7] at H
    have c7b0 : decide (x16_1 < (l3.length : Int)) = true := decide_eq_true c7
    clear c7
    by_cases c8 : 0 ≤ x16_1
    ·rw [if_pos c8] at H
     have c8b0 : decide (0 ≤ x16_1) = true := decide_eq_true c8
     clear c8
     by_cases c9 : x16_1 < (x0_1.length : Int)
     ·rw [if_pos c9] at H
      have c9b0 : decide (x16_1 < (x0_1.length : Int)) = true := decide_eq_true c9
      clear c9
      obtain ⟨y243, hy243⟩ : ∃ y_ : List Int, y_ = (x0_1.set (x16_1 : Int).toNat 4611686018427387904) := ⟨_, rfl⟩
      replace H : ((warp_near.f a5 x16_1 a4).bind fun t244 => (if t244 = true then (if a5 = 0 then (warp_fill.j1 k1 y243 l1 l2 l3 a4 a5 x16_1 4611686018427387904 (l3.length : Int) x16_1 (x16_1 == 0)) else (warp_fill.j1 k1 y243 l1 l2 l3 a4 a5 x16_1 4611686018427387904 (l3.length : Int) x16_1 false)) else (warp_fill.l0 k1 y243 l1 l2 l3 a4 a5 (l3.length : Int) (wrap64 (x16_1 + 1))))) = some r := by first | (rw [hy243]; with_reducible exact H) | (have H2_ := (Option.bind_some _ _).symm.trans H; rw [hy243]; with_reducible exact H2_) | (have H2_ := (Option.bind_some _ _).symm.trans H; with_reducible exact H2_) | with_reducible exact H | (rw [hy243]; exact H) | exact H
      have Ny243 := Aside0.mk hy243
      clear hy243
      replace H := Option.bind_eq_some_iff.mp H
      obtain ⟨t244, A110, H⟩ := H
      replace H : (if t244 = true then (if a5 = 0 then (warp_fill.j1 k1 y243 l1 l2 l3 a4 a5 x16_1 4611686018427387904 (l3.length : Int) x16_1 (x16_1 == 0)) else (warp_fill.j1 k1 y243 l1 l2 l3 a4 a5 x16_1 4611686018427387904 (l3.length : Int) x16_1 false)) else (warp_fill.l0 k1 y243 l1 l2 l3 a4 a5 (l3.length : Int) (wrap64 (x16_1 + 1)))) = some r := H
      have A11 := Aside0.mk A110
      clear A110
      by_cases c12 : t244 = true
      ·subst c12
       have H1 : (if a5 = 0 then (warp_fill.j1 k1 y243 l1 l2 l3 a4 a5 x16_1 4611686018427387904 (l3.length : Int) x16_1 (x16_1 == 0)) else (warp_fill.j1 k1 y243 l1 l2 l3 a4 a5 x16_1 4611686018427387904 (l3.length : Int) x16_1 false)) = some r := by rw [if_pos rfl] at H; exact H
       clear H
       have H := H1
       clear H1
       have HC13 := Aside0.mk H
       clear H
       have p10 : 0 ≤ (x16_1 : Int) := of_decide_eq_true (by first | (with_reducible assumption) | assumption)
       have q10 : (x16_1 : Int) < ((x0_1.length : Int) : Int) := of_decide_eq_true (by first | (with_reducible assumption) | assumption)
       obtain ⟨go10, co10, eo10, gb10, gl10, cl10, HG10⟩ := Kd.R_form HO_0.out (by omega)
       (first | cases eo10 | (injection eo10 with ea_ en_ ec_; (first | subst ea_ | (injection ea_ with ea_; subst ea_)); subst ec_; clear en_))
       have GB10 := Aside0.mk gb10
       have GG10 := Aside0.mk HG10
       clear gb10 gl10 HG10
       have HMgo10 := Aside0.mk (show (P0_ go10 ∨ w.heap.size ≤ go10) from (HO_0.out.1 _ rfl))
       obtain ⟨hx10_0, hf10_0⟩ := Kd.R_celln 0 HO_0.out (x16_1 : Int) p10 q10
       replace p10 := eq_true p10
       replace q10 := eq_true q10
       have HP14 := Kd.R_putg HO_0.out (x16_1 : Int) 4611686018427387904
       go_upto_region 6 with (first | ((with_reducible refine gate_store (t := 3) (p := 21) rfl ?_); refine store_event (t := 3) (p := 21) (v := ?vo_w15) (w1 := (wr.setCell ⟨go10, (x16_1 : Int).toNat, none⟩ (.int .i64 4611686018427387904))) ?hg ?ho ?hn ?hr ?_; (case ho => rfl); (case hg => rfl); (case hn => rfl); (case hr => first | (go_simp; done) | (go_simp; rfl)); intro w15 hw; have hg : wr.grownBy w15 (some go10) := (by rw [hw]; exact HP14.2); have hp_ : Kd.R (Kd.int .i64) 3 w15 w0.heap.size (fun k_ => (P0_ k_ ∨ w.heap.size ≤ k_)) (.slice (some ⟨go10, 0, none⟩) x0_1.length co10) y243 := (by rw [hw, Ny243.out]; exact HP14.1); clear HP14; have n0_ := Aside0.mk (hp_); have n1_ := Aside0.mk ((by rw [hw]; exact below_set (HB.out) GB10.out : Below w0.heap.size w0 w15)); have n2_ := Aside0.mk (Kept.of_grown (S := (fun k_ => P0_ k_)) hg (by repeat (first | (with_reducible first | exact HK.out | apply Kept.alloc | apply Kept.drewN | apply Kept.drew) | exact HK.out)) (fun k_ e_ => (HO_0.out.1 k_ e_))); clear HO_0; clear HB; clear HK; have HO_0 := n0_; have HB := n1_; have HK := n2_; clear n0_ n1_ n2_; clear hg hw hp_) | ((with_reducible refine gate_callee (f := 39) rfl ?_); refine goesL_ (some 25) rfl rfl Try.func39 (by kernel_rfl) rfl #[.int .i64 a5, .int .i64 x16_1, .int .i64 a4] rfl (by (try simp only [List.map_toArray, List.map_cons, List.map_nil]); first | done | rfl | (simp only [List.length_drop, List.length_take]; rfl)) ?_; (with_reducible refine (warp_near.calls a5 x16_1 a4 true _ A11.out).mono ?_); rintro e w' ⟨rfl, ⟨nd, rfl⟩⟩; refine ⟨_, rfl, ?_⟩))
       (try simp only [Act.put, List.setIfInBounds_toArray, List.set_cons_zero, List.set_cons_succ])
       go_cut [32] (fun v32 wc => ∃ (kq : Nat) (x32_12 : Bool), v32 = .bool x32_12 ∧ Aside0 (warp_fill.j1 kq y243 l1 l2 l3 a4 a5 x16_1 4611686018427387904 (l3.length : Int) x16_1 x32_12 = some r) ∧ Aside0 (kq ≤ k1) ∧ Aside0 (Kd.R (Kd.int .i64) 3 wc w0.heap.size (fun k_ => (P0_ k_ ∨ w.heap.size ≤ k_)) (.slice (some ⟨go10, 0, none⟩) x0_1.length co10) y243) ∧ Aside0 (Kept w wc (fun k_ => P0_ k_)) ∧ Aside0 (Below w0.heap.size w0 wc))
       case first =>
        have H := HC13.out
        clear HC13
        by_cases c16 : a5 = 0
        ·rw [if_pos c16] at H
         have c16b0 : (a5 == 0) = true := beq_iff_eq.mpr c16
         have c16b1 : (a5 != 0) = false := bne_eq_false_iff_eq.mpr c16
         clear c16
         (first | rw [c16b0] | (simp only [i64_w, i32_w]; rw [c16b0]) | skip)
         have H' := Aside0.mk H
         clear H
         go_wp2
         go_meet
         case rel => exact ⟨_, ((x16_1 == 0)), (by first | rfl | (simp; done) | (simp [*]; done)), H', ⟨by have := HK1.out; first | omega | exact Nat.le_refl _⟩, ⟨by (with_reducible repeat (first | apply Kd.R_alloc | apply Kd.R_drewN | apply Kd.R_drew)); exact HO_0.out⟩, ⟨by repeat (first | (with_reducible first | exact HK.out | apply Kept.alloc | apply Kept.drewN | apply Kept.drew) | exact HK.out)⟩, ⟨by repeat (first | (with_reducible first | exact HB.out | apply below_alloc | apply pw_below_drewN | apply below_drew1) | exact HB.out)⟩⟩
        ·rw [if_neg c16] at H
         have c16b0 : (a5 == 0) = false := beq_eq_false_iff_ne.mpr c16
         have c16b1 : (a5 != 0) = true := bne_iff_ne.mpr c16
         (first | rw [c16b0] | (simp only [i64_w, i32_w]; rw [c16b0]) | skip)
         have H' := Aside0.mk H
         clear H
         go_wp2
         go_meet
         case rel => exact ⟨_, (false), (by first | rfl | (simp; done) | (simp [*]; done)), H', ⟨by have := HK1.out; first | omega | exact Nat.le_refl _⟩, ⟨by (with_reducible repeat (first | apply Kd.R_alloc | apply Kd.R_drewN | apply Kd.R_drew)); exact HO_0.out⟩, ⟨by repeat (first | (with_reducible first | exact HK.out | apply Kept.alloc | apply Kept.drewN | apply Kept.drew) | exact HK.out)⟩, ⟨by repeat (first | (with_reducible first | exact HB.out | apply below_alloc | apply pw_below_drewN | apply below_drew1) | exact HB.out)⟩⟩
       case rest =>
        clear HC13
        try clear c1
        try clear p1
        try clear q1
        try clear hx1
        try clear c2
        try clear p2
        try clear c3
        try clear p6
        try clear c7
        try clear c7b0
        try clear c8
        try clear c8b0
        try clear c9
        try clear c9b0
        try clear p10
        try clear q10
        try clear hx10
        try clear hf10
        try clear c12
        try clear c16
        try clear c16b0
        try clear c16b1
        try clear hx10_0
        try clear p10
        try clear p2
        try clear q10
        obtain ⟨kq, x32_12, rfl, HA, HJ12, HO_0, HK, HB⟩ := hcut
        have hl0_12 := (Kd.R_reads' HO_0.out).1
        rw [hl0_12] at HO_0
        (try simp only [hl0_12])
        cases kq with
        | zero => exact absurd HA.out (by simp [warp_fill.j1])
        | succ kj12 =>
         have H := HA.out
         clear HA
         simp only [warp_fill.j1] at H
         have HC17 := Aside0.mk H
         clear H
         go_upto_if 32 with (fail)
         go_cut [13] (fun v13 wc => ∃ (kq : Nat) (x13_16 : Int), v13 = .int .i64 x13_16 ∧ Aside0 (warp_fill.j2 kq y243 l1 l2 l3 a4 a5 x16_1 x13_16 (l3.length : Int) x16_1 = some r) ∧ Aside0 (kq ≤ kj12) ∧ Aside0 (Kd.R (Kd.int .i64) 3 wc w0.heap.size (fun k_ => (P0_ k_ ∨ w.heap.size ≤ k_)) (.slice (some ⟨go10, 0, none⟩) y243.length co10) y243) ∧ Aside0 (Kept w wc (fun k_ => P0_ k_)) ∧ Aside0 (Below w0.heap.size w0 wc))
         case first =>
          have H := HC17.out
          clear HC17
          by_cases c18 : x32_12 = true
          ·subst c18
           have H1 : (warp_fill.j2 kj12 y243 l1 l2 l3 a4 a5 x16_1 0 (l3.length : Int) x16_1) = some r := by rw [if_pos rfl] at H; exact H
           clear H
           have H := H1
           clear H1
           have H' := Aside0.mk H
           clear H
           go_wp2
           go_meet
           case rel => exact ⟨_, (0), (by first | rfl | (simp; done) | (simp [*]; done)), H', ⟨by have := HK1.out; have := HJ12.out; first | omega | exact Nat.le_refl _⟩, ⟨by (try simp only [hl0_12]); (with_reducible repeat (first | apply Kd.R_alloc | apply Kd.R_drewN | apply Kd.R_drew)); exact HO_0.out⟩, ⟨by repeat (first | (with_reducible first | exact HK.out | apply Kept.alloc | apply Kept.drewN | apply Kept.drew) | exact HK.out)⟩, ⟨by repeat (first | (with_reducible first | exact HB.out | apply below_alloc | apply pw_below_drewN | apply below_drew1) | exact HB.out)⟩⟩
          ·replace c18 := Bool.eq_false_iff.mpr c18
           subst c18
           have H1 : (warp_fill.j2 kj12 y243 l1 l2 l3 a4 a5 x16_1 4611686018427387904 (l3.length : Int) x16_1) = some r := by rw [if_neg (show ¬ (false = true) by decide)] at H; exact H
           clear H
           have H := H1
           clear H1
           have H' := Aside0.mk H
           clear H
           go_wp2
           go_meet
           case rel => exact ⟨_, (4611686018427387904), (by first | rfl | (simp; done) | (simp [*]; done)), H', ⟨by have := HK1.out; have := HJ12.out; first | omega | exact Nat.le_refl _⟩, ⟨by (try simp only [hl0_12]); (with_reducible repeat (first | apply Kd.R_alloc | apply Kd.R_drewN | apply Kd.R_drew)); exact HO_0.out⟩, ⟨by repeat (first | (with_reducible first | exact HK.out | apply Kept.alloc | apply Kept.drewN | apply Kept.drew) | exact HK.out)⟩, ⟨by repeat (first | (with_reducible first | exact HB.out | apply below_alloc | apply pw_below_drewN | apply below_drew1) | exact HB.out)⟩⟩
         case rest =>
          clear HC17
          try clear c1
          try clear p1
          try clear q1
          try clear hx1
          try clear c2
          try clear p2
          try clear c3
          try clear p6
          try clear c7
          try clear c7b0
          try clear c8
          try clear c8b0
          try clear c9
          try clear c9b0
          try clear p10
          try clear q10
          try clear hx10
          try clear hf10
          try clear c12
          try clear c16
          try clear c16b0
          try clear c16b1
          try clear c18
          try clear hx10_0
          try clear p1
          try clear p10
          try clear p2
          try clear p6
          try clear q1
          try clear q10
          obtain ⟨kq, x13_16, rfl, HA, HJ16, HO_0, HK, HB⟩ := hcut
          cases kq with
          | zero => exact absurd HA.out (by simp [warp_fill.j2])
          | succ kj16 =>
           have H := HA.out
           clear HA
           simp only [warp_fill.j2] at H
           have HC19 := Aside0.mk H
           clear H
           go_upto_if 34 with (fail)
           go_cut [13] (fun v13 wc => ∃ (kq : Nat) (x13_18 : Int), v13 = .int .i64 x13_18 ∧ Aside0 (warp_fill.j3 kq y243 l1 l2 l3 a4 a5 x16_1 x13_18 (l3.length : Int) x16_1 = some r) ∧ Aside0 (kq ≤ kj16) ∧ Aside0 (Kd.R (Kd.int .i64) 3 wc w0.heap.size (fun k_ => (P0_ k_ ∨ w.heap.size ≤ k_)) (.slice (some ⟨go10, 0, none⟩) y243.length co10) y243) ∧ Aside0 (Kept w wc (fun k_ => P0_ k_)) ∧ Aside0 (Below w0.heap.size w0 wc))
           case first =>
            have H := HC19.out
            clear HC19
            by_cases c20 : x16_1 > 0
            ·rw [if_pos c20] at H
             have c20b0 : decide (0 < x16_1) = true := decide_eq_true c20
             clear c20
             (first | rw [c20b0] | (simp only [i64_w, i32_w]; rw [c20b0]) | skip)
             obtain ⟨ji21, hji21⟩ : ∃ j_ : Int, (wrap64 (x16_1 - 1)) = j_ := ⟨_, rfl⟩
             replace H : (if 0 ≤ (ji21) then (if (ji21) < (y243.length : Int) then (warp_fill.j3 kj16 y243 l1 l2 l3 a4 a5 x16_1 (mn x13_16 (rd y243 (ji21))) (l3.length : Int) x16_1) else (none)) else (none)) = some r := by first | (rw [hji21] at H; exact H) | (simp only [hji21] at H ⊢; exact H)
             have hji21w : (IntKind.i64.wrap (x16_1 - 1)) = ji21 := (i64_w _).trans hji21
             by_cases c22 : 0 ≤ (ji21)
             ·rw [if_pos c22] at H
              have c22b0 : decide (0 ≤ (ji21)) = true := decide_eq_true c22
              clear c22
              by_cases c23 : (ji21) < (y243.length : Int)
              ·rw [if_pos c23] at H
               have c23b0 : decide ((ji21) < (y243.length : Int)) = true := decide_eq_true c23
               (try (have c23b0h := c23b0; simp only [hl0_12] at c23b0h))
               clear c23
               obtain ⟨ji24, hji24⟩ : ∃ j_ : Int, (mn x13_16 (rd y243 (ji21))) = j_ := ⟨_, rfl⟩
               replace H : (warp_fill.j3 kj16 y243 l1 l2 l3 a4 a5 x16_1 ji24 (l3.length : Int) x16_1) = some r := by first | (rw [hji24] at H; exact H) | (simp only [hji24] at H ⊢; exact H)
               have hji24_ : (if (rd y243 (ji21)) < x13_16 then (rd y243 (ji21)) else x13_16) = ji24 := hji24
               have H' := Aside0.mk H
               clear H
               have p245 : 0 ≤ ((ji21) : Int) := of_decide_eq_true (by first | (with_reducible assumption) | assumption)
               have q245 : (ji21) < (y243.length : Int) := of_decide_eq_true (by first | (with_reducible assumption) | assumption)
               obtain ⟨ad245, e245, hx245_0⟩ := Kd.at_int (Kd.R_reads' HO_0.out).2.2 (ji21) p245 q245
               obtain rfl : (⟨go10, 0, none⟩ : Addr) = ad245 := (by injection e245)
               (first | simp only [add_plain] at hx245_0 | simp only [add_at] at hx245_0 | simp only [Addr.add, Nat.zero_add] at hx245_0 | skip)
               replace p245 := eq_true p245
               replace q245 := eq_true q245
               go_wp2
               go_meet
               case rel => exact ⟨_, (ji24), (by first | rfl | (simp; done) | (simp only [← hji24] <;> (first | rfl | simp)) | (simp [*]; done)), H', ⟨by have := HK1.out; have := HJ12.out; have := HJ16.out; first | omega | exact Nat.le_refl _⟩, ⟨by (try simp only [hl0_12]); (with_reducible repeat (first | apply Kd.R_alloc | apply Kd.R_drewN | apply Kd.R_drew)); exact HO_0.out⟩, ⟨by repeat (first | (with_reducible first | exact HK.out | apply Kept.alloc | apply Kept.drewN | apply Kept.drew) | exact HK.out)⟩, ⟨by repeat (first | (with_reducible first | exact HB.out | apply below_alloc | apply pw_below_drewN | apply below_drew1) | exact HB.out)⟩⟩
              ·rw [if_neg c23] at H
               exact absurd H (by simp)
             ·rw [if_neg c22] at H
              exact absurd H (by simp)
            ·rw [if_neg c20] at H
             have c20b0 : decide (0 < x16_1) = false := decide_eq_false c20
             clear c20
             (first | rw [c20b0] | (simp only [i64_w, i32_w]; rw [c20b0]) | skip)
             have H' := Aside0.mk H
             clear H
             go_wp2
             go_meet
             case rel => exact ⟨_, (x13_16), (by first | rfl | (simp; done) | (simp [*]; done)), H', ⟨by have := HK1.out; have := HJ12.out; have := HJ16.out; first | omega | exact Nat.le_refl _⟩, ⟨by (try simp only [hl0_12]); (with_reducible repeat (first | apply Kd.R_alloc | apply Kd.R_drewN | apply Kd.R_drew)); exact HO_0.out⟩, ⟨by repeat (first | (with_reducible first | exact HK.out | apply Kept.alloc | apply Kept.drewN | apply Kept.drew) | exact HK.out)⟩, ⟨by repeat (first | (with_reducible first | exact HB.out | apply below_alloc | apply pw_below_drewN | apply below_drew1) | exact HB.out)⟩⟩
           case rest =>
            clear HC19
            try clear c1
            try clear p1
            try clear q1
            try clear hx1
            try clear c2
            try clear p2
            try clear q2
            try clear hx2
            try clear c3
            try clear p6
            try clear c7
            try clear c7b0
            try clear c8
            try clear c8b0
            try clear c9
            try clear c9b0
            try clear p10
            try clear q10
            try clear hx10
            try clear hf10
            try clear c12
            try clear c16
            try clear c16b0
            try clear c16b1
            try clear c18
            try clear c20
            try clear c20b0
            try clear c22
            try clear c22b0
            try clear c23
            try clear c23b0
            try clear p24
            try clear q24
            try clear hx24
            try clear hx10_0
            try clear hx245_0
            try clear p1
            try clear p10
            try clear p2
            try clear p245
            try clear p6
            try clear q1
            try clear q10
            try clear q245
            obtain ⟨kq, x13_18, rfl, HA, HJ18, HO_0, HK, HB⟩ := hcut
            cases kq with
            | zero => exact absurd HA.out (by simp [warp_fill.j3])
            | succ kj18 =>
             have H := HA.out
             clear HA
             simp only [warp_fill.j3] at H
             by_cases c25 : a5 > 0
             ·rw [if_pos c25] at H
              have c25b0 : decide (0 < a5) = true := decide_eq_true c25
              clear c25
              by_cases c26 : 0 ≤ x16_1
              ·rw [if_pos c26] at H
               have c26b0 : decide (0 ≤ x16_1) = true := decide_eq_true c26
               clear c26
               by_cases c27 : x16_1 < (l1.length : Int)
               ·rw [if_pos c27] at H
                have c27b0 : decide (x16_1 < (l1.length : Int)) = true := decide_eq_true c27
                (try (have c27b0h := c27b0; simp only [hl0_12] at c27b0h))
                clear c27
                obtain ⟨ji28, hji28⟩ : ∃ j_ : Int, (mn x13_18 (rd l1 x16_1)) = j_ := ⟨_, rfl⟩
                replace H : (if x16_1 > 0 then (if 0 ≤ (wrap64 (x16_1 - 1)) then (if (wrap64 (x16_1 - 1)) < (l1.length : Int) then (if 0 ≤ a5 then (if a5 < (l2.length : Int) then (if x16_1 < (l3.length : Int) then (if x16_1 < (y243.length : Int) then (warp_fill.l0 kj18 (y243.set (x16_1 : Int).toNat (mn 4611686018427387904 (wrap64 ((mn (mn (ji28) (rd l1 x16_1)) (rd l1 (wrap64 (x16_1 - 1)))) + (wrap64 ((wrap64 ((rd l2 a5) - (rd l3 x16_1))) * (wrap64 ((rd l2 a5) - (rd l3 x16_1))))))))) l1 l2 l3 a4 a5 (l3.length : Int) (wrap64 (x16_1 + 1))) else (none)) else (none)) else (none)) else (none)) else (none)) else (none)) else (if 0 ≤ a5 then (if a5 < (l2.length : Int) then (if x16_1 < (l3.length : Int) then (if x16_1 < (y243.length : Int) then (warp_fill.l0 kj18 (y243.set (x16_1 : Int).toNat (mn 4611686018427387904 (wrap64 ((ji28) + (wrap64 ((wrap64 ((rd l2 a5) - (rd l3 x16_1))) * (wrap64 ((rd l2 a5) - (rd l3 x16_1))))))))) l1 l2 l3 a4 a5 (l3.length : Int) (wrap64 (x16_1 + 1))) else (none)) else (none)) else (none)) else (none))) = some r := by first | (rw [hji28] at H; exact H) | (simp only [hji28] at H ⊢; exact H)
                have hji28_ : (if (rd l1 x16_1) < x13_18 then (rd l1 x16_1) else x13_18) = ji28 := hji28
                by_cases c29 : x16_1 > 0
                ·rw [if_pos c29] at H
                 have c29b0 : decide (0 < x16_1) = true := decide_eq_true c29
                 clear c29
                 obtain ⟨ji30, hji30⟩ : ∃ j_ : Int, (wrap64 (x16_1 - 1)) = j_ := ⟨_, rfl⟩
                 replace H : (if 0 ≤ (ji30) then (if (ji30) < (l1.length : Int) then (if 0 ≤ a5 then (if a5 < (l2.length : Int) then (if x16_1 < (l3.length : Int) then (if x16_1 < (y243.length : Int) then (warp_fill.l0 kj18 (y243.set (x16_1 : Int).toNat (mn 4611686018427387904 (wrap64 ((mn (mn (ji28) (rd l1 x16_1)) (rd l1 (ji30))) + (wrap64 ((wrap64 ((rd l2 a5) - (rd l3 x16_1))) * (wrap64 ((rd l2 a5) - (rd l3 x16_1))))))))) l1 l2 l3 a4 a5 (l3.length : Int) (wrap64 (x16_1 + 1))) else (none)) else (none)) else (none)) else (none)) else (none)) else (none)) = some r := by first | (rw [hji30] at H; exact H) | (simp only [hji30] at H ⊢; exact H)
                 have hji30w : (IntKind.i64.wrap (x16_1 - 1)) = ji30 := (i64_w _).trans hji30
                 by_cases c31 : 0 ≤ (ji30)
                 ·rw [if_pos c31] at H
                  have c31b0 : decide (0 ≤ (ji30)) = true := decide_eq_true c31
                  clear c31
                  by_cases c32 : (ji30) < (l1.length : Int)
                  ·rw [if_pos c32] at H
                   have c32b0 : decide ((ji30) < (l1.length : Int)) = true := decide_eq_true c32
                   (try (have c32b0h := c32b0; simp only [hl0_12] at c32b0h))
                   clear c32
                   obtain ⟨ji33, hji33⟩ : ∃ j_ : Int, (mn (ji28) (rd l1 x16_1)) = j_ := ⟨_, rfl⟩
                   replace H : (if 0 ≤ a5 then (if a5 < (l2.length : Int) then (if x16_1 < (l3.length : Int) then (if x16_1 < (y243.length : Int) then (warp_fill.l0 kj18 (y243.set (x16_1 : Int).toNat (mn 4611686018427387904 (wrap64 ((mn (ji33) (rd l1 (ji30))) + (wrap64 ((wrap64 ((rd l2 a5) - (rd l3 x16_1))) * (wrap64 ((rd l2 a5) - (rd l3 x16_1))))))))) l1 l2 l3 a4 a5 (l3.length : Int) (wrap64 (x16_1 + 1))) else (none)) else (none)) else (none)) else (none)) = some r := by first | (rw [hji33] at H; exact H) | (simp only [hji33] at H ⊢; exact H)
                   have hji33_ : (if (rd l1 x16_1) < (ji28) then (rd l1 x16_1) else (ji28)) = ji33 := hji33
                   obtain ⟨ji34, hji34⟩ : ∃ j_ : Int, (mn (ji33) (rd l1 (ji30))) = j_ := ⟨_, rfl⟩
                   replace H : (if 0 ≤ a5 then (if a5 < (l2.length : Int) then (if x16_1 < (l3.length : Int) then (if x16_1 < (y243.length : Int) then (warp_fill.l0 kj18 (y243.set (x16_1 : Int).toNat (mn 4611686018427387904 (wrap64 ((ji34) + (wrap64 ((wrap64 ((rd l2 a5) - (rd l3 x16_1))) * (wrap64 ((rd l2 a5) - (rd l3 x16_1))))))))) l1 l2 l3 a4 a5 (l3.length : Int) (wrap64 (x16_1 + 1))) else (none)) else (none)) else (none)) else (none)) = some r := by first | (rw [hji34] at H; exact H) | (simp only [hji34] at H ⊢; exact H)
                   have hji34_ : (if (rd l1 (ji30)) < (ji33) then (rd l1 (ji30)) else (ji33)) = ji34 := hji34
                   by_cases c35 : 0 ≤ a5
                   ·rw [if_pos c35] at H
                    have c35b0 : decide (0 ≤ a5) = true := decide_eq_true c35
                    clear c35
                    by_cases c36 : a5 < (l2.length : Int)
                    ·rw [if_pos c36] at H
                     have c36b0 : decide (a5 < (l2.length : Int)) = true := decide_eq_true c36
                     (try (have c36b0h := c36b0; simp only [hl0_12] at c36b0h))
                     clear c36
                     by_cases c37 : x16_1 < (l3.length : Int)
                     ·rw [if_pos c37] at H
                      have c37b0 : decide (x16_1 < (l3.length : Int)) = true := decide_eq_true c37
                      (try (have c37b0h := c37b0; simp only [hl0_12] at c37b0h))
                      clear c37
                      obtain ⟨ji38, hji38⟩ : ∃ j_ : Int, (mn 4611686018427387904 (wrap64 ((ji34) + (wrap64 ((wrap64 ((rd l2 a5) - (rd l3 x16_1))) * (wrap64 ((rd l2 a5) - (rd l3 x16_1)))))))) = j_ := ⟨_, rfl⟩
                      replace H : (if x16_1 < (y243.length : Int) then (warp_fill.l0 kj18 (y243.set (x16_1 : Int).toNat (ji38)) l1 l2 l3 a4 a5 (l3.length : Int) (wrap64 (x16_1 + 1))) else (none)) = some r := by first | (rw [hji38] at H; exact H) | (simp only [hji38] at H ⊢; exact H)
                      have hji38_ : (if (wrap64 ((ji34) + (wrap64 ((wrap64 ((rd l2 a5) - (rd l3 x16_1))) * (wrap64 ((rd l2 a5) - (rd l3 x16_1))))))) < 4611686018427387904 then (wrap64 ((ji34) + (wrap64 ((wrap64 ((rd l2 a5) - (rd l3 x16_1))) * (wrap64 ((rd l2 a5) - (rd l3 x16_1))))))) else 4611686018427387904) = ji38 := hji38
                      by_cases c39 : x16_1 < (y243.length : Int)
                      ·rw [if_pos c39] at H
                       have c39b0 : decide (x16_1 < (y243.length : Int)) = true := decide_eq_true c39
                       (try (have c39b0h := c39b0; simp only [hl0_12] at c39b0h))
                       clear c39
                       obtain ⟨y253, hy253⟩ : ∃ y_ : List Int, y_ = (y243.set (x16_1 : Int).toNat (ji38)) := ⟨_, rfl⟩
                       replace H : (warp_fill.l0 kj18 y253 l1 l2 l3 a4 a5 (l3.length : Int) (wrap64 (x16_1 + 1))) = some r := by first | (rw [hy253]; with_reducible exact H) | (have H2_ := (Option.bind_some _ _).symm.trans H; rw [hy253]; with_reducible exact H2_) | (have H2_ := (Option.bind_some _ _).symm.trans H; with_reducible exact H2_) | with_reducible exact H | (rw [hy253]; exact H) | exact H
                       have Ny253 := Aside0.mk hy253
                       clear hy253
                       have H' := Aside0.mk H
                       clear H
                       have p246 : 0 ≤ (x16_1 : Int) := of_decide_eq_true (by first | (with_reducible assumption) | assumption)
                       have q246 : x16_1 < (l1.length : Int) := of_decide_eq_true (by first | (with_reducible assumption) | assumption)
                       obtain ⟨ad246, e246, hx246_0⟩ := Kd.at_int (Kd.C_kept_now HR1.out HK.out) x16_1 p246 q246
                       cases e246
                       replace p246 := eq_true p246
                       replace q246 := eq_true q246
                       try go_wp2
                       have n0_ := Aside0.mk (Kd.R_drew HO_0.out)
                       have n1_ := Aside0.mk (Kept.drew HK.out)
                       have n2_ := Aside0.mk (below_drew1 HB.out)
                       clear HO_0
                       clear HK
                       clear HB
                       have HO_0 := n0_
                       have HK := n1_
                       have HB := n2_
                       clear n0_ n1_ n2_
                       have p247 : 0 ≤ (x16_1 : Int) := of_decide_eq_true (by first | (with_reducible assumption) | assumption)
                       have q247 : x16_1 < (l1.length : Int) := of_decide_eq_true (by first | (with_reducible assumption) | assumption)
                       obtain ⟨ad247, e247, hx247_0⟩ := Kd.at_int (Kd.C_kept_now HR1.out HK.out) x16_1 p247 q247
                       have hw247_0 := hx247_0
                       obtain rfl : ad246 = ad247 := (by injection e247)
                       replace p247 := eq_true p247
                       replace q247 := eq_true q247
                       have p248 : 0 ≤ ((ji30) : Int) := of_decide_eq_true (by first | (with_reducible assumption) | assumption)
                       have q248 : (ji30) < (l1.length : Int) := of_decide_eq_true (by first | (with_reducible assumption) | assumption)
                       obtain ⟨ad248, e248, hx248_0⟩ := Kd.at_int (Kd.C_kept_now HR1.out HK.out) (ji30) p248 q248
                       have hw248_0 := hx248_0
                       obtain rfl : ad246 = ad248 := (by injection e248)
                       replace p248 := eq_true p248
                       replace q248 := eq_true q248
                       refine start_ (n := 12) (S := fun w' => w'.cell? (ad246.add (x16_1).toNat) = some (.int .i64 (rd l1 x16_1)) ∧ w'.cell? (ad246.add ((ji30)).toNat) = some (.int .i64 (rd l1 (ji30)))) (ds := []) #[false,false,false,false,false,false,false,false,false,false,false,false] (by kernel_rfl) rfl rfl ⟨(Kd.foot_int (HR1.out _ (by repeat (first | exact HK.out | apply Kept.alloc | apply Kept.drewN | apply Kept.drew))) x16_1 (of_eq_true p247) (of_eq_true q247)), (Kd.foot_int (HR1.out _ (by repeat (first | exact HK.out | apply Kept.alloc | apply Kept.drewN | apply Kept.drew))) (ji30) (of_eq_true p248) (of_eq_true q248))⟩ (fun hHeld => ?_); refine with_tabW warp_fill.tab13 warp_fill.bits13 (fun HT_ HW_ => ?_)
                       generalize wc.drew = w41 at HO_0 HK HB hx247_0 hx248_0 hHeld ⊢
                       refine pure_ (i := 0) (N := some 56) (v := ?_) (a' := ?_) #[true,false,false,false,false,false,false,false,false,false,false,false] rfl rfl (any_of HT_.out (by kernel_rfl)) (fun _ _ _ h => h) (Or.inl ⟨by rfl, ?_⟩) ?_ ?_
                       rotate_left
                       ·intro w'
                        go_simp
                        with_reducible rfl
                       rotate_left
                       ·simp only [Act.put, List.setIfInBounds_toArray, List.set_cons_zero, List.set_cons_succ, i64_w, i32_w]
                        rfl
                       refine pure_ (i := 1) (N := some 57) (v := ?_) (a' := ?_) #[true,true,false,false,false,false,false,false,false,false,false,false] rfl rfl (any_of HT_.out (by kernel_rfl)) (fun _ _ _ h => h) (Or.inl ⟨by rfl, ?_⟩) ?_ ?_
                       rotate_left
                       ·intro w'
                        go_simp
                        with_reducible rfl
                       rotate_left
                       ·simp only [Act.put, List.setIfInBounds_toArray, List.set_cons_zero, List.set_cons_succ, i64_w, i32_w]
                        rfl
                       refine pure_ (i := 2) (N := some 58) (v := ?_) (a' := ?_) #[true,true,true,false,false,false,false,false,false,false,false,false] rfl rfl (any_of HT_.out (by kernel_rfl)) (fun _ _ _ h => h) (Or.inl ⟨by rfl, ?_⟩) ?_ ?_
                       rotate_left
                       ·intro w'
                        go_simp
                        with_reducible rfl
                       rotate_left
                       ·simp only [Act.put, List.setIfInBounds_toArray, List.set_cons_zero, List.set_cons_succ, i64_w, i32_w]
                        rfl
                       refine pure_ (i := 3) (N := some 59) (v := ?_) (a' := ?_) #[true,true,true,true,false,false,false,false,false,false,false,false] rfl rfl (any_of HT_.out (by kernel_rfl)) (fun _ _ _ h => h) (Or.inl ⟨by rfl, ?_⟩) ?_ ?_
                       rotate_left
                       ·intro w'
                        go_simp
                        with_reducible rfl
                       rotate_left
                       ·simp only [Act.put, List.setIfInBounds_toArray, List.set_cons_zero, List.set_cons_succ, i64_w, i32_w]
                        rfl
                       refine pure_ (i := 5) (N := some 61) (v := ?_) (a' := ?_) #[true,true,true,true,false,true,false,false,false,false,false,false] rfl rfl (any_of HT_.out (by kernel_rfl)) (fun _ _ _ h => h) (Or.inl ⟨by rfl, ?_⟩) ?_ ?_
                       rotate_left
                       ·intro w'
                        go_simp
                        with_reducible rfl
                       rotate_left
                       ·simp only [Act.put, List.setIfInBounds_toArray, List.set_cons_zero, List.set_cons_succ, i64_w, i32_w]
                        rfl
                       refine pure_ (i := 6) (N := some 62) (v := ?_) (a' := ?_) #[true,true,true,true,false,true,true,false,false,false,false,false] rfl rfl (any_of HT_.out (by kernel_rfl)) (fun _ _ _ h => h) (Or.inl ⟨by rfl, ?_⟩) ?_ ?_
                       rotate_left
                       ·intro w'
                        go_simp
                        with_reducible rfl
                       rotate_left
                       ·simp only [Act.put, List.setIfInBounds_toArray, List.set_cons_zero, List.set_cons_succ, i64_w, i32_w]
                        rfl
                       refine pure_ (i := 7) (N := some 63) (v := ?_) (a' := ?_) #[true,true,true,true,false,true,true,true,false,false,false,false] rfl rfl (any_of HT_.out (by kernel_rfl)) (fun _ _ _ h => h) (Or.inl ⟨by rfl, ?_⟩) ?_ ?_
                       rotate_left
                       ·intro w'
                        go_simp
                        with_reducible rfl
                       rotate_left
                       ·simp only [Act.put, List.setIfInBounds_toArray, List.set_cons_zero, List.set_cons_succ, i64_w, i32_w]
                        rfl
                       refine pure_ (i := 8) (N := some 64) (v := ?_) (a' := ?_) #[true,true,true,true,false,true,true,true,true,false,false,false] rfl rfl (any_of HT_.out (by kernel_rfl)) (fun _ _ _ h => h) (Or.inl ⟨by rfl, ?_⟩) ?_ ?_
                       rotate_left
                       ·intro w'
                        go_simp
                        with_reducible rfl
                       rotate_left
                       ·simp only [Act.put, List.setIfInBounds_toArray, List.set_cons_zero, List.set_cons_succ, i64_w, i32_w]
                        rfl
                       refine take_ (i := 4) (N := some 60) (v := ?_) (a' := ?_) #[true,true,true,true,true,true,true,true,true,false,false,false] rfl rfl (take_ofW HT_.out HW_.out (by kernel_rfl)) (fun _ _ _ h => h) (Or.inl ⟨by rfl, ?_⟩) hHeld ?_ ?_
                       rotate_left
                       ·rintro w' ⟨s0, s1⟩
                        go_simp
                        with_reducible rfl
                       rotate_left
                       ·simp only [Act.put, List.setIfInBounds_toArray, List.set_cons_zero, List.set_cons_succ, i64_w, i32_w]
                        rfl
                       refine take_ (i := 9) (N := some 65) (v := ?_) (a' := ?_) #[true,true,true,true,true,true,true,true,true,true,false,false] rfl rfl (take_ofW HT_.out HW_.out (by kernel_rfl)) (fun _ _ _ h => h) (Or.inl ⟨by rfl, ?_⟩) hHeld ?_ ?_
                       rotate_left
                       ·rintro w' ⟨s0, s1⟩
                        go_simp
                        with_reducible rfl
                       rotate_left
                       ·simp only [Act.put, List.setIfInBounds_toArray, List.set_cons_zero, List.set_cons_succ, i64_w, i32_w]
                        rfl
                       refine pure_ (i := 10) (N := some 66) (v := ?_) (a' := ?_) #[true,true,true,true,true,true,true,true,true,true,true,false] rfl rfl (any_of HT_.out (by kernel_rfl)) (fun _ _ _ h => h) (Or.inl ⟨by rfl, ?_⟩) ?_ ?_
                       rotate_left
                       ·intro w'
                        go_simp
                        with_reducible rfl
                       rotate_left
                       ·simp only [Act.put, List.setIfInBounds_toArray, List.set_cons_zero, List.set_cons_succ, i64_w, i32_w]
                        rfl
                       refine pure_ (i := 11) (N := some 13) (v := ?_) (a' := ?_) #[true,true,true,true,true,true,true,true,true,true,true,true] rfl rfl (any_of HT_.out (by kernel_rfl)) (fun _ _ _ h => h) (Or.inl ⟨by rfl, ?_⟩) ?_ ?_
                       rotate_left
                       ·intro w'
                        go_simp
                        with_reducible rfl
                       rotate_left
                       ·simp only [Act.put, List.setIfInBounds_toArray, List.set_cons_zero, List.set_cons_succ, i64_w, i32_w]
                        rfl
                       refine done_ (done_of HT_.out (by kernel_rfl)) ?_
                       try go_wp2
                       have n0_ := Aside0.mk (Kd.R_drew HO_0.out)
                       have n1_ := Aside0.mk (Kept.drew HK.out)
                       have n2_ := Aside0.mk (below_drew1 HB.out)
                       clear HO_0
                       clear HK
                       clear HB
                       have HO_0 := n0_
                       have HK := n1_
                       have HB := n2_
                       clear n0_ n1_ n2_
                       have p249 : 0 ≤ (a5 : Int) := of_decide_eq_true (by first | (with_reducible assumption) | assumption)
                       have q249 : a5 < (l2.length : Int) := of_decide_eq_true (by first | (with_reducible assumption) | assumption)
                       obtain ⟨ad249, e249, hx249_0⟩ := Kd.at_int (Kd.C_kept_now HR2.out HK.out) a5 p249 q249
                       have hw249_0 := hx249_0
                       cases e249
                       replace p249 := eq_true p249
                       replace q249 := eq_true q249
                       have p250 : 0 ≤ (x16_1 : Int) := of_decide_eq_true (by first | (with_reducible assumption) | assumption)
                       have q250 : x16_1 < (l3.length : Int) := of_decide_eq_true (by first | (with_reducible assumption) | assumption)
                       obtain ⟨ad250, e250, hx250_0⟩ := Kd.at_int (Kd.C_kept_now HR3.out HK.out) x16_1 p250 q250
                       have hw250_0 := hx250_0
                       cases e250
                       replace p250 := eq_true p250
                       replace q250 := eq_true q250
                       have p251 : 0 ≤ (a5 : Int) := of_decide_eq_true (by first | (with_reducible assumption) | assumption)
                       have q251 : a5 < (l2.length : Int) := of_decide_eq_true (by first | (with_reducible assumption) | assumption)
                       obtain ⟨ad251, e251, hx251_0⟩ := Kd.at_int (Kd.C_kept_now HR2.out HK.out) a5 p251 q251
                       have hw251_0 := hx251_0
                       obtain rfl : ad249 = ad251 := (by injection e251)
                       replace p251 := eq_true p251
                       replace q251 := eq_true q251
                       have p252 : 0 ≤ (x16_1 : Int) := of_decide_eq_true (by first | (with_reducible assumption) | assumption)
                       have q252 : x16_1 < (l3.length : Int) := of_decide_eq_true (by first | (with_reducible assumption) | assumption)
                       obtain ⟨ad252, e252, hx252_0⟩ := Kd.at_int (Kd.C_kept_now HR3.out HK.out) x16_1 p252 q252
                       have hw252_0 := hx252_0
                       obtain rfl : ad250 = ad252 := (by injection e252)
                       replace p252 := eq_true p252
                       replace q252 := eq_true q252
                       have p40 : 0 ≤ (x16_1 : Int) := of_decide_eq_true (by first | (with_reducible assumption) | assumption)
                       have q40 : (x16_1 : Int) < ((y243.length : Int) : Int) := of_decide_eq_true (by first | (with_reducible assumption) | assumption)
                       obtain ⟨hx40_0, hf40_0⟩ := Kd.R_celln 0 HO_0.out (x16_1 : Int) p40 q40
                       replace p40 := eq_true p40
                       replace q40 := eq_true q40
                       have HP43 := Kd.R_putn HO_0.out (x16_1 : Int) ji38
                       rw [← Ny253.out] at HP43
                       have HQ43 := Aside0.mk HP43
                       clear HP43
                       refine start_ (n := 26) (S := fun w' => w'.cell? (ad249.add (a5).toNat) = some (.int .i64 (rd l2 a5)) ∧ w'.cell? (ad250.add (x16_1).toNat) = some (.int .i64 (rd l3 x16_1)) ∧ w'.cell? (ad249.add (a5).toNat) = some (.int .i64 (rd l2 a5)) ∧ w'.cell? (ad250.add (x16_1).toNat) = some (.int .i64 (rd l3 x16_1))) (ds := [25]) #[false,false,false,false,false,false,false,false,false,false,false,false,false,false,false,false,false,false,false,false,false,false,false,false,false,false] (by kernel_rfl) rfl rfl ⟨(Kd.foot_int (HR2.out _ (by repeat (first | exact HK.out | apply Kept.alloc | apply Kept.drewN | apply Kept.drew | refine Kept.setCell ?_ HMgo10.out _))) a5 (of_eq_true p249) (of_eq_true q249)), (Kd.foot_int (HR3.out _ (by repeat (first | exact HK.out | apply Kept.alloc | apply Kept.drewN | apply Kept.drew | refine Kept.setCell ?_ HMgo10.out _))) x16_1 (of_eq_true p250) (of_eq_true q250)), (Kd.foot_int (HR2.out _ (by repeat (first | exact HK.out | apply Kept.alloc | apply Kept.drewN | apply Kept.drew | refine Kept.setCell ?_ HMgo10.out _))) a5 (of_eq_true p251) (of_eq_true q251)), (Kd.foot_int (HR3.out _ (by repeat (first | exact HK.out | apply Kept.alloc | apply Kept.drewN | apply Kept.drew | refine Kept.setCell ?_ HMgo10.out _))) x16_1 (of_eq_true p252) (of_eq_true q252))⟩ (fun hHeld => ?_); refine with_tabW warp_fill.tab14 warp_fill.bits14 (fun HT_ HW_ => ?_)
                       generalize w41.drew = w42 at HO_0 HK HB HQ43 hf40_0 hx249_0 hx250_0 hx251_0 hx252_0 hx40_0 hHeld ⊢
                       refine pure_ (i := 0) (N := some 67) (v := ?_) (a' := ?_) #[true,false,false,false,false,false,false,false,false,false,false,false,false,false,false,false,false,false,false,false,false,false,false,false,false,false] rfl rfl (any_of HT_.out (by kernel_rfl)) (fun _ _ _ h => h) (Or.inl ⟨by rfl, ?_⟩) ?_ ?_
                       rotate_left
                       ·intro w'
                        go_simp
                        with_reducible rfl
                       rotate_left
                       ·simp only [Act.put, List.setIfInBounds_toArray, List.set_cons_zero, List.set_cons_succ, i64_w, i32_w]
                        rfl
                       refine pure_ (i := 1) (N := some 68) (v := ?_) (a' := ?_) #[true,true,false,false,false,false,false,false,false,false,false,false,false,false,false,false,false,false,false,false,false,false,false,false,false,false] rfl rfl (any_of HT_.out (by kernel_rfl)) (fun _ _ _ h => h) (Or.inl ⟨by rfl, ?_⟩) ?_ ?_
                       rotate_left
                       ·intro w'
                        go_simp
                        with_reducible rfl
                       rotate_left
                       ·simp only [Act.put, List.setIfInBounds_toArray, List.set_cons_zero, List.set_cons_succ, i64_w, i32_w]
                        rfl
                       refine pure_ (i := 2) (N := some 69) (v := ?_) (a' := ?_) #[true,true,true,false,false,false,false,false,false,false,false,false,false,false,false,false,false,false,false,false,false,false,false,false,false,false] rfl rfl (any_of HT_.out (by kernel_rfl)) (fun _ _ _ h => h) (Or.inl ⟨by rfl, ?_⟩) ?_ ?_
                       rotate_left
                       ·intro w'
                        go_simp
                        with_reducible rfl
                       rotate_left
                       ·simp only [Act.put, List.setIfInBounds_toArray, List.set_cons_zero, List.set_cons_succ, i64_w, i32_w]
                        rfl
                       refine pure_ (i := 3) (N := some 70) (v := ?_) (a' := ?_) #[true,true,true,true,false,false,false,false,false,false,false,false,false,false,false,false,false,false,false,false,false,false,false,false,false,false] rfl rfl (any_of HT_.out (by kernel_rfl)) (fun _ _ _ h => h) (Or.inl ⟨by rfl, ?_⟩) ?_ ?_
                       rotate_left
                       ·intro w'
                        go_simp
                        with_reducible rfl
                       rotate_left
                       ·simp only [Act.put, List.setIfInBounds_toArray, List.set_cons_zero, List.set_cons_succ, i64_w, i32_w]
                        rfl
                       refine pure_ (i := 4) (N := some 71) (v := ?_) (a' := ?_) #[true,true,true,true,true,false,false,false,false,false,false,false,false,false,false,false,false,false,false,false,false,false,false,false,false,false] rfl rfl (any_of HT_.out (by kernel_rfl)) (fun _ _ _ h => h) (Or.inl ⟨by rfl, ?_⟩) ?_ ?_
                       rotate_left
                       ·intro w'
                        go_simp
                        with_reducible rfl
                       rotate_left
                       ·simp only [Act.put, List.setIfInBounds_toArray, List.set_cons_zero, List.set_cons_succ, i64_w, i32_w]
                        rfl
                       refine pure_ (i := 5) (N := some 72) (v := ?_) (a' := ?_) #[true,true,true,true,true,true,false,false,false,false,false,false,false,false,false,false,false,false,false,false,false,false,false,false,false,false] rfl rfl (any_of HT_.out (by kernel_rfl)) (fun _ _ _ h => h) (Or.inl ⟨by rfl, ?_⟩) ?_ ?_
                       rotate_left
                       ·intro w'
                        go_simp
                        with_reducible rfl
                       rotate_left
                       ·simp only [Act.put, List.setIfInBounds_toArray, List.set_cons_zero, List.set_cons_succ, i64_w, i32_w]
                        rfl
                       refine pure_ (i := 7) (N := some 74) (v := ?_) (a' := ?_) #[true,true,true,true,true,true,false,true,false,false,false,false,false,false,false,false,false,false,false,false,false,false,false,false,false,false] rfl rfl (any_of HT_.out (by kernel_rfl)) (fun _ _ _ h => h) (Or.inl ⟨by rfl, ?_⟩) ?_ ?_
                       rotate_left
                       ·intro w'
                        go_simp
                        with_reducible rfl
                       rotate_left
                       ·simp only [Act.put, List.setIfInBounds_toArray, List.set_cons_zero, List.set_cons_succ, i64_w, i32_w]
                        rfl
                       refine pure_ (i := 8) (N := some 75) (v := ?_) (a' := ?_) #[true,true,true,true,true,true,false,true,true,false,false,false,false,false,false,false,false,false,false,false,false,false,false,false,false,false] rfl rfl (any_of HT_.out (by kernel_rfl)) (fun _ _ _ h => h) (Or.inl ⟨by rfl, ?_⟩) ?_ ?_
                       rotate_left
                       ·intro w'
                        go_simp
                        with_reducible rfl
                       rotate_left
                       ·simp only [Act.put, List.setIfInBounds_toArray, List.set_cons_zero, List.set_cons_succ, i64_w, i32_w]
                        rfl
                       refine pure_ (i := 9) (N := some 76) (v := ?_) (a' := ?_) #[true,true,true,true,true,true,false,true,true,true,false,false,false,false,false,false,false,false,false,false,false,false,false,false,false,false] rfl rfl (any_of HT_.out (by kernel_rfl)) (fun _ _ _ h => h) (Or.inl ⟨by rfl, ?_⟩) ?_ ?_
                       rotate_left
                       ·intro w'
                        go_simp
                        with_reducible rfl
                       rotate_left
                       ·simp only [Act.put, List.setIfInBounds_toArray, List.set_cons_zero, List.set_cons_succ, i64_w, i32_w]
                        rfl
                       refine pure_ (i := 12) (N := some 79) (v := ?_) (a' := ?_) #[true,true,true,true,true,true,false,true,true,true,false,false,true,false,false,false,false,false,false,false,false,false,false,false,false,false] rfl rfl (any_of HT_.out (by kernel_rfl)) (fun _ _ _ h => h) (Or.inl ⟨by rfl, ?_⟩) ?_ ?_
                       rotate_left
                       ·intro w'
                        go_simp
                        with_reducible rfl
                       rotate_left
                       ·simp only [Act.put, List.setIfInBounds_toArray, List.set_cons_zero, List.set_cons_succ, i64_w, i32_w]
                        rfl
                       refine pure_ (i := 13) (N := some 80) (v := ?_) (a' := ?_) #[true,true,true,true,true,true,false,true,true,true,false,false,true,true,false,false,false,false,false,false,false,false,false,false,false,false] rfl rfl (any_of HT_.out (by kernel_rfl)) (fun _ _ _ h => h) (Or.inl ⟨by rfl, ?_⟩) ?_ ?_
                       rotate_left
                       ·intro w'
                        go_simp
                        with_reducible rfl
                       rotate_left
                       ·simp only [Act.put, List.setIfInBounds_toArray, List.set_cons_zero, List.set_cons_succ, i64_w, i32_w]
                        rfl
                       refine pure_ (i := 14) (N := some 81) (v := ?_) (a' := ?_) #[true,true,true,true,true,true,false,true,true,true,false,false,true,true,true,false,false,false,false,false,false,false,false,false,false,false] rfl rfl (any_of HT_.out (by kernel_rfl)) (fun _ _ _ h => h) (Or.inl ⟨by rfl, ?_⟩) ?_ ?_
                       rotate_left
                       ·intro w'
                        go_simp
                        with_reducible rfl
                       rotate_left
                       ·simp only [Act.put, List.setIfInBounds_toArray, List.set_cons_zero, List.set_cons_succ, i64_w, i32_w]
                        rfl
                       refine pure_ (i := 16) (N := some 83) (v := ?_) (a' := ?_) #[true,true,true,true,true,true,false,true,true,true,false,false,true,true,true,false,true,false,false,false,false,false,false,false,false,false] rfl rfl (any_of HT_.out (by kernel_rfl)) (fun _ _ _ h => h) (Or.inl ⟨by rfl, ?_⟩) ?_ ?_
                       rotate_left
                       ·intro w'
                        go_simp
                        with_reducible rfl
                       rotate_left
                       ·simp only [Act.put, List.setIfInBounds_toArray, List.set_cons_zero, List.set_cons_succ, i64_w, i32_w]
                        rfl
                       refine pure_ (i := 17) (N := some 84) (v := ?_) (a' := ?_) #[true,true,true,true,true,true,false,true,true,true,false,false,true,true,true,false,true,true,false,false,false,false,false,false,false,false] rfl rfl (any_of HT_.out (by kernel_rfl)) (fun _ _ _ h => h) (Or.inl ⟨by rfl, ?_⟩) ?_ ?_
                       rotate_left
                       ·intro w'
                        go_simp
                        with_reducible rfl
                       rotate_left
                       ·simp only [Act.put, List.setIfInBounds_toArray, List.set_cons_zero, List.set_cons_succ, i64_w, i32_w]
                        rfl
                       refine pure_ (i := 18) (N := some 85) (v := ?_) (a' := ?_) #[true,true,true,true,true,true,false,true,true,true,false,false,true,true,true,false,true,true,true,false,false,false,false,false,false,false] rfl rfl (any_of HT_.out (by kernel_rfl)) (fun _ _ _ h => h) (Or.inl ⟨by rfl, ?_⟩) ?_ ?_
                       rotate_left
                       ·intro w'
                        go_simp
                        with_reducible rfl
                       rotate_left
                       ·simp only [Act.put, List.setIfInBounds_toArray, List.set_cons_zero, List.set_cons_succ, i64_w, i32_w]
                        rfl
                       refine take_ (i := 6) (N := some 73) (v := ?_) (a' := ?_) #[true,true,true,true,true,true,true,true,true,true,false,false,true,true,true,false,true,true,true,false,false,false,false,false,false,false] rfl rfl (take_ofW HT_.out HW_.out (by kernel_rfl)) (fun _ _ _ h => h) (Or.inl ⟨by rfl, ?_⟩) hHeld ?_ ?_
                       rotate_left
                       ·rintro w' ⟨s0, s1, s2, s3⟩
                        go_simp
                        with_reducible rfl
                       rotate_left
                       ·simp only [Act.put, List.setIfInBounds_toArray, List.set_cons_zero, List.set_cons_succ, i64_w, i32_w]
                        rfl
                       refine take_ (i := 10) (N := some 77) (v := ?_) (a' := ?_) #[true,true,true,true,true,true,true,true,true,true,true,false,true,true,true,false,true,true,true,false,false,false,false,false,false,false] rfl rfl (take_ofW HT_.out HW_.out (by kernel_rfl)) (fun _ _ _ h => h) (Or.inl ⟨by rfl, ?_⟩) hHeld ?_ ?_
                       rotate_left
                       ·rintro w' ⟨s0, s1, s2, s3⟩
                        go_simp
                        with_reducible rfl
                       rotate_left
                       ·simp only [Act.put, List.setIfInBounds_toArray, List.set_cons_zero, List.set_cons_succ, i64_w, i32_w]
                        rfl
                       refine pure_ (i := 11) (N := some 78) (v := ?_) (a' := ?_) #[true,true,true,true,true,true,true,true,true,true,true,true,true,true,true,false,true,true,true,false,false,false,false,false,false,false] rfl rfl (any_of HT_.out (by kernel_rfl)) (fun _ _ _ h => h) (Or.inl ⟨by rfl, ?_⟩) ?_ ?_
                       rotate_left
                       ·intro w'
                        go_simp
                        with_reducible rfl
                       rotate_left
                       ·simp only [Act.put, List.setIfInBounds_toArray, List.set_cons_zero, List.set_cons_succ, i64_w, i32_w]
                        rfl
                       refine take_ (i := 15) (N := some 82) (v := ?_) (a' := ?_) #[true,true,true,true,true,true,true,true,true,true,true,true,true,true,true,true,true,true,true,false,false,false,false,false,false,false] rfl rfl (take_ofW HT_.out HW_.out (by kernel_rfl)) (fun _ _ _ h => h) (Or.inl ⟨by rfl, ?_⟩) hHeld ?_ ?_
                       rotate_left
                       ·rintro w' ⟨s0, s1, s2, s3⟩
                        go_simp
                        with_reducible rfl
                       rotate_left
                       ·simp only [Act.put, List.setIfInBounds_toArray, List.set_cons_zero, List.set_cons_succ, i64_w, i32_w]
                        rfl
                       refine take_ (i := 19) (N := some 86) (v := ?_) (a' := ?_) #[true,true,true,true,true,true,true,true,true,true,true,true,true,true,true,true,true,true,true,true,false,false,false,false,false,false] rfl rfl (take_ofW HT_.out HW_.out (by kernel_rfl)) (fun _ _ _ h => h) (Or.inl ⟨by rfl, ?_⟩) hHeld ?_ ?_
                       rotate_left
                       ·rintro w' ⟨s0, s1, s2, s3⟩
                        go_simp
                        with_reducible rfl
                       rotate_left
                       ·simp only [Act.put, List.setIfInBounds_toArray, List.set_cons_zero, List.set_cons_succ, i64_w, i32_w]
                        rfl
                       refine pure_ (i := 20) (N := some 87) (v := ?_) (a' := ?_) #[true,true,true,true,true,true,true,true,true,true,true,true,true,true,true,true,true,true,true,true,true,false,false,false,false,false] rfl rfl (any_of HT_.out (by kernel_rfl)) (fun _ _ _ h => h) (Or.inl ⟨by rfl, ?_⟩) ?_ ?_
                       rotate_left
                       ·intro w'
                        go_simp
                        with_reducible rfl
                       rotate_left
                       ·simp only [Act.put, List.setIfInBounds_toArray, List.set_cons_zero, List.set_cons_succ, i64_w, i32_w]
                        rfl
                       refine pure_ (i := 21) (N := some 88) (v := ?_) (a' := ?_) #[true,true,true,true,true,true,true,true,true,true,true,true,true,true,true,true,true,true,true,true,true,true,false,false,false,false] rfl rfl (any_of HT_.out (by kernel_rfl)) (fun _ _ _ h => h) (Or.inl ⟨by rfl, ?_⟩) ?_ ?_
                       rotate_left
                       ·intro w'
                        go_simp
                        with_reducible rfl
                       rotate_left
                       ·simp only [Act.put, List.setIfInBounds_toArray, List.set_cons_zero, List.set_cons_succ, i64_w, i32_w]
                        rfl
                       refine pure_ (i := 22) (N := some 89) (v := ?_) (a' := ?_) #[true,true,true,true,true,true,true,true,true,true,true,true,true,true,true,true,true,true,true,true,true,true,true,false,false,false] rfl rfl (any_of HT_.out (by kernel_rfl)) (fun _ _ _ h => h) (Or.inl ⟨by rfl, ?_⟩) ?_ ?_
                       rotate_left
                       ·intro w'
                        go_simp
                        with_reducible rfl
                       rotate_left
                       ·simp only [Act.put, List.setIfInBounds_toArray, List.set_cons_zero, List.set_cons_succ, i64_w, i32_w]
                        rfl
                       refine pure_ (i := 23) (N := some 90) (v := ?_) (a' := ?_) #[true,true,true,true,true,true,true,true,true,true,true,true,true,true,true,true,true,true,true,true,true,true,true,true,false,false] rfl rfl (any_of HT_.out (by kernel_rfl)) (fun _ _ _ h => h) (Or.inl ⟨by rfl, ?_⟩) ?_ ?_
                       rotate_left
                       ·intro w'
                        go_simp
                        with_reducible rfl
                       rotate_left
                       ·simp only [Act.put, List.setIfInBounds_toArray, List.set_cons_zero, List.set_cons_succ, i64_w, i32_w]
                        rfl
                       refine pure_ (i := 24) (N := some 91) (v := ?_) (a' := ?_) #[true,true,true,true,true,true,true,true,true,true,true,true,true,true,true,true,true,true,true,true,true,true,true,true,true,false] rfl rfl (any_of HT_.out (by kernel_rfl)) (fun _ _ _ h => h) (Or.inl ⟨by rfl, ?_⟩) ?_ ?_
                       rotate_left
                       ·intro w'
                        go_simp
                        with_reducible rfl
                       rotate_left
                       ·simp only [Act.put, List.setIfInBounds_toArray, List.set_cons_zero, List.set_cons_succ, i64_w, i32_w]
                        rfl
                       refine last_ (i := 25) (N := none) #[true,true,true,true,true,true,true,true,true,true,true,true,true,true,true,true,true,true,true,true,true,true,true,true,true,true] rfl rfl (one_of HT_.out (by kernel_rfl)) (by decide) (fun K hK => ?_)
                       refine skip_ (w1 := ?_) (by rfl) rfl ?_ ?_
                       rotate_left
                       ·go_simp
                        rfl
                       refine hK.out _ _ ?_
                       clear hK K
                       refine done_ (done_of HT_.out (by kernel_rfl)) ?_
                       try go_wp2
                       (try simp only [← hl0_12])
                       go_roundg kj18
                       case measure => have := HK1.out; have := HJ12.out; have := HJ16.out; have := HJ18.out; omega
                       case rel => exact ⟨(y253), (wrap64 (x16_1 + 1)), (by first | rfl | (simp; done) | (simp [*]; done)), H', ⟨by have := HK1.out; have := HJ12.out; have := HJ16.out; have := HJ18.out; omega⟩, ⟨by (try simp only [hl0_12]); (with_reducible repeat (first | apply Kd.R_alloc | apply Kd.R_drewN | apply Kd.R_drew)); exact HQ43.out⟩, ⟨by repeat (first | (with_reducible first | exact HK.out | apply Kept.alloc | apply Kept.drewN | apply Kept.drew | refine Kept.setCell ?_ HMgo10.out _) | exact HK.out)⟩, ⟨by repeat (first | (with_reducible first | exact HB.out | apply below_alloc | apply pw_below_drewN | apply below_drew1 | refine below_set ?_ GB10.out) | exact HB.out)⟩⟩
                      ·rw [if_neg c39] at H
                       exact absurd H (by simp)
                     ·rw [if_neg c37] at H
                      exact absurd H (by simp)
                    ·rw [if_neg c36] at H
                     exact absurd H (by simp)
                   ·rw [if_neg c35] at H
                    exact absurd H (by simp)
                  ·rw [if_neg c32] at H
                   exact absurd H (by simp)
                 ·rw [if_neg c31] at H
                  exact absurd H (by simp)
                ·rw [if_neg c29] at H
                 have c29b0 : decide (0 < x16_1) = false := decide_eq_false c29
                 clear c29
                 by_cases c44 : 0 ≤ a5
                 ·rw [if_pos c44] at H
                  have c44b0 : decide (0 ≤ a5) = true := decide_eq_true c44
                  clear c44
                  by_cases c45 : a5 < (l2.length : Int)
                  ·rw [if_pos c45] at H
                   have c45b0 : decide (a5 < (l2.length : Int)) = true := decide_eq_true c45
                   (try (have c45b0h := c45b0; simp only [hl0_12] at c45b0h))
                   clear c45
                   by_cases c46 : x16_1 < (l3.length : Int)
                   ·rw [if_pos c46] at H
                    have c46b0 : decide (x16_1 < (l3.length : Int)) = true := decide_eq_true c46
                    (try (have c46b0h := c46b0; simp only [hl0_12] at c46b0h))
                    clear c46
                    obtain ⟨ji47, hji47⟩ : ∃ j_ : Int, (mn 4611686018427387904 (wrap64 ((ji28) + (wrap64 ((wrap64 ((rd l2 a5) - (rd l3 x16_1))) * (wrap64 ((rd l2 a5) - (rd l3 x16_1)))))))) = j_ := ⟨_, rfl⟩
                    replace H : (if x16_1 < (y243.length : Int) then (warp_fill.l0 kj18 (y243.set (x16_1 : Int).toNat (ji47)) l1 l2 l3 a4 a5 (l3.length : Int) (wrap64 (x16_1 + 1))) else (none)) = some r := by first | (rw [hji47] at H; exact H) | (simp only [hji47] at H ⊢; exact H)
                    have hji47_ : (if (wrap64 ((ji28) + (wrap64 ((wrap64 ((rd l2 a5) - (rd l3 x16_1))) * (wrap64 ((rd l2 a5) - (rd l3 x16_1))))))) < 4611686018427387904 then (wrap64 ((ji28) + (wrap64 ((wrap64 ((rd l2 a5) - (rd l3 x16_1))) * (wrap64 ((rd l2 a5) - (rd l3 x16_1))))))) else 4611686018427387904) = ji47 := hji47
                    by_cases c48 : x16_1 < (y243.length : Int)
                    ·rw [if_pos c48] at H
                     have c48b0 : decide (x16_1 < (y243.length : Int)) = true := decide_eq_true c48
                     (try (have c48b0h := c48b0; simp only [hl0_12] at c48b0h))
                     clear c48
                     obtain ⟨y258, hy258⟩ : ∃ y_ : List Int, y_ = (y243.set (x16_1 : Int).toNat (ji47)) := ⟨_, rfl⟩
                     replace H : (warp_fill.l0 kj18 y258 l1 l2 l3 a4 a5 (l3.length : Int) (wrap64 (x16_1 + 1))) = some r := by first | (rw [hy258]; with_reducible exact H) | (have H2_ := (Option.bind_some _ _).symm.trans H; rw [hy258]; with_reducible exact H2_) | (have H2_ := (Option.bind_some _ _).symm.trans H; with_reducible exact H2_) | with_reducible exact H | (rw [hy258]; exact H) | exact H
                     have Ny258 := Aside0.mk hy258
                     clear hy258
                     have H' := Aside0.mk H
                     clear H
                     have p246 : 0 ≤ (x16_1 : Int) := of_decide_eq_true (by first | (with_reducible assumption) | assumption)
                     have q246 : x16_1 < (l1.length : Int) := of_decide_eq_true (by first | (with_reducible assumption) | assumption)
                     obtain ⟨ad246, e246, hx246_0⟩ := Kd.at_int (Kd.C_kept_now HR1.out HK.out) x16_1 p246 q246
                     cases e246
                     replace p246 := eq_true p246
                     replace q246 := eq_true q246
                     try go_wp2
                     have n0_ := Aside0.mk (Kd.R_drew HO_0.out)
                     have n1_ := Aside0.mk (Kept.drew HK.out)
                     have n2_ := Aside0.mk (below_drew1 HB.out)
                     clear HO_0
                     clear HK
                     clear HB
                     have HO_0 := n0_
                     have HK := n1_
                     have HB := n2_
                     clear n0_ n1_ n2_
                     have p254 : 0 ≤ (a5 : Int) := of_decide_eq_true (by first | (with_reducible assumption) | assumption)
                     have q254 : a5 < (l2.length : Int) := of_decide_eq_true (by first | (with_reducible assumption) | assumption)
                     obtain ⟨ad254, e254, hx254_0⟩ := Kd.at_int (Kd.C_kept_now HR2.out HK.out) a5 p254 q254
                     have hw254_0 := hx254_0
                     cases e254
                     replace p254 := eq_true p254
                     replace q254 := eq_true q254
                     have p255 : 0 ≤ (x16_1 : Int) := of_decide_eq_true (by first | (with_reducible assumption) | assumption)
                     have q255 : x16_1 < (l3.length : Int) := of_decide_eq_true (by first | (with_reducible assumption) | assumption)
                     obtain ⟨ad255, e255, hx255_0⟩ := Kd.at_int (Kd.C_kept_now HR3.out HK.out) x16_1 p255 q255
                     have hw255_0 := hx255_0
                     cases e255
                     replace p255 := eq_true p255
                     replace q255 := eq_true q255
                     have p256 : 0 ≤ (a5 : Int) := of_decide_eq_true (by first | (with_reducible assumption) | assumption)
                     have q256 : a5 < (l2.length : Int) := of_decide_eq_true (by first | (with_reducible assumption) | assumption)
                     obtain ⟨ad256, e256, hx256_0⟩ := Kd.at_int (Kd.C_kept_now HR2.out HK.out) a5 p256 q256
                     have hw256_0 := hx256_0
                     obtain rfl : ad254 = ad256 := (by injection e256)
                     replace p256 := eq_true p256
                     replace q256 := eq_true q256
                     have p257 : 0 ≤ (x16_1 : Int) := of_decide_eq_true (by first | (with_reducible assumption) | assumption)
                     have q257 : x16_1 < (l3.length : Int) := of_decide_eq_true (by first | (with_reducible assumption) | assumption)
                     obtain ⟨ad257, e257, hx257_0⟩ := Kd.at_int (Kd.C_kept_now HR3.out HK.out) x16_1 p257 q257
                     have hw257_0 := hx257_0
                     obtain rfl : ad255 = ad257 := (by injection e257)
                     replace p257 := eq_true p257
                     replace q257 := eq_true q257
                     have p49 : 0 ≤ (x16_1 : Int) := of_decide_eq_true (by first | (with_reducible assumption) | assumption)
                     have q49 : (x16_1 : Int) < ((y243.length : Int) : Int) := of_decide_eq_true (by first | (with_reducible assumption) | assumption)
                     obtain ⟨hx49_0, hf49_0⟩ := Kd.R_celln 0 HO_0.out (x16_1 : Int) p49 q49
                     replace p49 := eq_true p49
                     replace q49 := eq_true q49
                     have HP51 := Kd.R_putn HO_0.out (x16_1 : Int) ji47
                     rw [← Ny258.out] at HP51
                     have HQ51 := Aside0.mk HP51
                     clear HP51
                     refine start_ (n := 26) (S := fun w' => w'.cell? (ad254.add (a5).toNat) = some (.int .i64 (rd l2 a5)) ∧ w'.cell? (ad255.add (x16_1).toNat) = some (.int .i64 (rd l3 x16_1)) ∧ w'.cell? (ad254.add (a5).toNat) = some (.int .i64 (rd l2 a5)) ∧ w'.cell? (ad255.add (x16_1).toNat) = some (.int .i64 (rd l3 x16_1))) (ds := [25]) #[false,false,false,false,false,false,false,false,false,false,false,false,false,false,false,false,false,false,false,false,false,false,false,false,false,false] (by kernel_rfl) rfl rfl ⟨(Kd.foot_int (HR2.out _ (by repeat (first | exact HK.out | apply Kept.alloc | apply Kept.drewN | apply Kept.drew | refine Kept.setCell ?_ HMgo10.out _))) a5 (of_eq_true p254) (of_eq_true q254)), (Kd.foot_int (HR3.out _ (by repeat (first | exact HK.out | apply Kept.alloc | apply Kept.drewN | apply Kept.drew | refine Kept.setCell ?_ HMgo10.out _))) x16_1 (of_eq_true p255) (of_eq_true q255)), (Kd.foot_int (HR2.out _ (by repeat (first | exact HK.out | apply Kept.alloc | apply Kept.drewN | apply Kept.drew | refine Kept.setCell ?_ HMgo10.out _))) a5 (of_eq_true p256) (of_eq_true q256)), (Kd.foot_int (HR3.out _ (by repeat (first | exact HK.out | apply Kept.alloc | apply Kept.drewN | apply Kept.drew | refine Kept.setCell ?_ HMgo10.out _))) x16_1 (of_eq_true p257) (of_eq_true q257))⟩ (fun hHeld => ?_); refine with_tabW warp_fill.tab14 warp_fill.bits14 (fun HT_ HW_ => ?_)
                     generalize wc.drew = w50 at HO_0 HK HB HQ51 hf49_0 hx254_0 hx255_0 hx256_0 hx257_0 hx49_0 hHeld ⊢
                     refine pure_ (i := 0) (N := some 67) (v := ?_) (a' := ?_) #[true,false,false,false,false,false,false,false,false,false,false,false,false,false,false,false,false,false,false,false,false,false,false,false,false,false] rfl rfl (any_of HT_.out (by kernel_rfl)) (fun _ _ _ h => h) (Or.inl ⟨by rfl, ?_⟩) ?_ ?_
                     rotate_left
                     ·intro w'
                      go_simp
                      with_reducible rfl
                     rotate_left
                     ·simp only [Act.put, List.setIfInBounds_toArray, List.set_cons_zero, List.set_cons_succ, i64_w, i32_w]
                      rfl
                     refine pure_ (i := 1) (N := some 68) (v := ?_) (a' := ?_) #[true,true,false,false,false,false,false,false,false,false,false,false,false,false,false,false,false,false,false,false,false,false,false,false,false,false] rfl rfl (any_of HT_.out (by kernel_rfl)) (fun _ _ _ h => h) (Or.inl ⟨by rfl, ?_⟩) ?_ ?_
                     rotate_left
                     ·intro w'
                      go_simp
                      with_reducible rfl
                     rotate_left
                     ·simp only [Act.put, List.setIfInBounds_toArray, List.set_cons_zero, List.set_cons_succ, i64_w, i32_w]
                      rfl
                     refine pure_ (i := 2) (N := some 69) (v := ?_) (a' := ?_) #[true,true,true,false,false,false,false,false,false,false,false,false,false,false,false,false,false,false,false,false,false,false,false,false,false,false] rfl rfl (any_of HT_.out (by kernel_rfl)) (fun _ _ _ h => h) (Or.inl ⟨by rfl, ?_⟩) ?_ ?_
                     rotate_left
                     ·intro w'
                      go_simp
                      with_reducible rfl
                     rotate_left
                     ·simp only [Act.put, List.setIfInBounds_toArray, List.set_cons_zero, List.set_cons_succ, i64_w, i32_w]
                      rfl
                     refine pure_ (i := 3) (N := some 70) (v := ?_) (a' := ?_) #[true,true,true,true,false,false,false,false,false,false,false,false,false,false,false,false,false,false,false,false,false,false,false,false,false,false] rfl rfl (any_of HT_.out (by kernel_rfl)) (fun _ _ _ h => h) (Or.inl ⟨by rfl, ?_⟩) ?_ ?_
                     rotate_left
                     ·intro w'
                      go_simp
                      with_reducible rfl
                     rotate_left
                     ·simp only [Act.put, List.setIfInBounds_toArray, List.set_cons_zero, List.set_cons_succ, i64_w, i32_w]
                      rfl
                     refine pure_ (i := 4) (N := some 71) (v := ?_) (a' := ?_) #[true,true,true,true,true,false,false,false,false,false,false,false,false,false,false,false,false,false,false,false,false,false,false,false,false,false] rfl rfl (any_of HT_.out (by kernel_rfl)) (fun _ _ _ h => h) (Or.inl ⟨by rfl, ?_⟩) ?_ ?_
                     rotate_left
                     ·intro w'
                      go_simp
                      with_reducible rfl
                     rotate_left
                     ·simp only [Act.put, List.setIfInBounds_toArray, List.set_cons_zero, List.set_cons_succ, i64_w, i32_w]
                      rfl
                     refine pure_ (i := 5) (N := some 72) (v := ?_) (a' := ?_) #[true,true,true,true,true,true,false,false,false,false,false,false,false,false,false,false,false,false,false,false,false,false,false,false,false,false] rfl rfl (any_of HT_.out (by kernel_rfl)) (fun _ _ _ h => h) (Or.inl ⟨by rfl, ?_⟩) ?_ ?_
                     rotate_left
                     ·intro w'
                      go_simp
                      with_reducible rfl
                     rotate_left
                     ·simp only [Act.put, List.setIfInBounds_toArray, List.set_cons_zero, List.set_cons_succ, i64_w, i32_w]
                      rfl
                     refine pure_ (i := 7) (N := some 74) (v := ?_) (a' := ?_) #[true,true,true,true,true,true,false,true,false,false,false,false,false,false,false,false,false,false,false,false,false,false,false,false,false,false] rfl rfl (any_of HT_.out (by kernel_rfl)) (fun _ _ _ h => h) (Or.inl ⟨by rfl, ?_⟩) ?_ ?_
                     rotate_left
                     ·intro w'
                      go_simp
                      with_reducible rfl
                     rotate_left
                     ·simp only [Act.put, List.setIfInBounds_toArray, List.set_cons_zero, List.set_cons_succ, i64_w, i32_w]
                      rfl
                     refine pure_ (i := 8) (N := some 75) (v := ?_) (a' := ?_) #[true,true,true,true,true,true,false,true,true,false,false,false,false,false,false,false,false,false,false,false,false,false,false,false,false,false] rfl rfl (any_of HT_.out (by kernel_rfl)) (fun _ _ _ h => h) (Or.inl ⟨by rfl, ?_⟩) ?_ ?_
                     rotate_left
                     ·intro w'
                      go_simp
                      with_reducible rfl
                     rotate_left
                     ·simp only [Act.put, List.setIfInBounds_toArray, List.set_cons_zero, List.set_cons_succ, i64_w, i32_w]
                      rfl
                     refine pure_ (i := 9) (N := some 76) (v := ?_) (a' := ?_) #[true,true,true,true,true,true,false,true,true,true,false,false,false,false,false,false,false,false,false,false,false,false,false,false,false,false] rfl rfl (any_of HT_.out (by kernel_rfl)) (fun _ _ _ h => h) (Or.inl ⟨by rfl, ?_⟩) ?_ ?_
                     rotate_left
                     ·intro w'
                      go_simp
                      with_reducible rfl
                     rotate_left
                     ·simp only [Act.put, List.setIfInBounds_toArray, List.set_cons_zero, List.set_cons_succ, i64_w, i32_w]
                      rfl
                     refine pure_ (i := 12) (N := some 79) (v := ?_) (a' := ?_) #[true,true,true,true,true,true,false,true,true,true,false,false,true,false,false,false,false,false,false,false,false,false,false,false,false,false] rfl rfl (any_of HT_.out (by kernel_rfl)) (fun _ _ _ h => h) (Or.inl ⟨by rfl, ?_⟩) ?_ ?_
                     rotate_left
                     ·intro w'
                      go_simp
                      with_reducible rfl
                     rotate_left
                     ·simp only [Act.put, List.setIfInBounds_toArray, List.set_cons_zero, List.set_cons_succ, i64_w, i32_w]
                      rfl
                     refine pure_ (i := 13) (N := some 80) (v := ?_) (a' := ?_) #[true,true,true,true,true,true,false,true,true,true,false,false,true,true,false,false,false,false,false,false,false,false,false,false,false,false] rfl rfl (any_of HT_.out (by kernel_rfl)) (fun _ _ _ h => h) (Or.inl ⟨by rfl, ?_⟩) ?_ ?_
                     rotate_left
                     ·intro w'
                      go_simp
                      with_reducible rfl
                     rotate_left
                     ·simp only [Act.put, List.setIfInBounds_toArray, List.set_cons_zero, List.set_cons_succ, i64_w, i32_w]
                      rfl
                     refine pure_ (i := 14) (N := some 81) (v := ?_) (a' := ?_) #[true,true,true,true,true,true,false,true,true,true,false,false,true,true,true,false,false,false,false,false,false,false,false,false,false,false] rfl rfl (any_of HT_.out (by kernel_rfl)) (fun _ _ _ h => h) (Or.inl ⟨by rfl, ?_⟩) ?_ ?_
                     rotate_left
                     ·intro w'
                      go_simp
                      with_reducible rfl
                     rotate_left
                     ·simp only [Act.put, List.setIfInBounds_toArray, List.set_cons_zero, List.set_cons_succ, i64_w, i32_w]
                      rfl
                     refine pure_ (i := 16) (N := some 83) (v := ?_) (a' := ?_) #[true,true,true,true,true,true,false,true,true,true,false,false,true,true,true,false,true,false,false,false,false,false,false,false,false,false] rfl rfl (any_of HT_.out (by kernel_rfl)) (fun _ _ _ h => h) (Or.inl ⟨by rfl, ?_⟩) ?_ ?_
                     rotate_left
                     ·intro w'
                      go_simp
                      with_reducible rfl
                     rotate_left
                     ·simp only [Act.put, List.setIfInBounds_toArray, List.set_cons_zero, List.set_cons_succ, i64_w, i32_w]
                      rfl
                     refine pure_ (i := 17) (N := some 84) (v := ?_) (a' := ?_) #[true,true,true,true,true,true,false,true,true,true,false,false,true,true,true,false,true,true,false,false,false,false,false,false,false,false] rfl rfl (any_of HT_.out (by kernel_rfl)) (fun _ _ _ h => h) (Or.inl ⟨by rfl, ?_⟩) ?_ ?_
                     rotate_left
                     ·intro w'
                      go_simp
                      with_reducible rfl
                     rotate_left
                     ·simp only [Act.put, List.setIfInBounds_toArray, List.set_cons_zero, List.set_cons_succ, i64_w, i32_w]
                      rfl
                     refine pure_ (i := 18) (N := some 85) (v := ?_) (a' := ?_) #[true,true,true,true,true,true,false,true,true,true,false,false,true,true,true,false,true,true,true,false,false,false,false,false,false,false] rfl rfl (any_of HT_.out (by kernel_rfl)) (fun _ _ _ h => h) (Or.inl ⟨by rfl, ?_⟩) ?_ ?_
                     rotate_left
                     ·intro w'
                      go_simp
                      with_reducible rfl
                     rotate_left
                     ·simp only [Act.put, List.setIfInBounds_toArray, List.set_cons_zero, List.set_cons_succ, i64_w, i32_w]
                      rfl
                     refine take_ (i := 6) (N := some 73) (v := ?_) (a' := ?_) #[true,true,true,true,true,true,true,true,true,true,false,false,true,true,true,false,true,true,true,false,false,false,false,false,false,false] rfl rfl (take_ofW HT_.out HW_.out (by kernel_rfl)) (fun _ _ _ h => h) (Or.inl ⟨by rfl, ?_⟩) hHeld ?_ ?_
                     rotate_left
                     ·rintro w' ⟨s0, s1, s2, s3⟩
                      go_simp
                      with_reducible rfl
                     rotate_left
                     ·simp only [Act.put, List.setIfInBounds_toArray, List.set_cons_zero, List.set_cons_succ, i64_w, i32_w]
                      rfl
                     refine take_ (i := 10) (N := some 77) (v := ?_) (a' := ?_) #[true,true,true,true,true,true,true,true,true,true,true,false,true,true,true,false,true,true,true,false,false,false,false,false,false,false] rfl rfl (take_ofW HT_.out HW_.out (by kernel_rfl)) (fun _ _ _ h => h) (Or.inl ⟨by rfl, ?_⟩) hHeld ?_ ?_
                     rotate_left
                     ·rintro w' ⟨s0, s1, s2, s3⟩
                      go_simp
                      with_reducible rfl
                     rotate_left
                     ·simp only [Act.put, List.setIfInBounds_toArray, List.set_cons_zero, List.set_cons_succ, i64_w, i32_w]
                      rfl
                     refine pure_ (i := 11) (N := some 78) (v := ?_) (a' := ?_) #[true,true,true,true,true,true,true,true,true,true,true,true,true,true,true,false,true,true,true,false,false,false,false,false,false,false] rfl rfl (any_of HT_.out (by kernel_rfl)) (fun _ _ _ h => h) (Or.inl ⟨by rfl, ?_⟩) ?_ ?_
                     rotate_left
                     ·intro w'
                      go_simp
                      with_reducible rfl
                     rotate_left
                     ·simp only [Act.put, List.setIfInBounds_toArray, List.set_cons_zero, List.set_cons_succ, i64_w, i32_w]
                      rfl
                     refine take_ (i := 15) (N := some 82) (v := ?_) (a' := ?_) #[true,true,true,true,true,true,true,true,true,true,true,true,true,true,true,true,true,true,true,false,false,false,false,false,false,false] rfl rfl (take_ofW HT_.out HW_.out (by kernel_rfl)) (fun _ _ _ h => h) (Or.inl ⟨by rfl, ?_⟩) hHeld ?_ ?_
                     rotate_left
                     ·rintro w' ⟨s0, s1, s2, s3⟩
                      go_simp
                      with_reducible rfl
                     rotate_left
                     ·simp only [Act.put, List.setIfInBounds_toArray, List.set_cons_zero, List.set_cons_succ, i64_w, i32_w]
                      rfl
                     refine take_ (i := 19) (N := some 86) (v := ?_) (a' := ?_) #[true,true,true,true,true,true,true,true,true,true,true,true,true,true,true,true,true,true,true,true,false,false,false,false,false,false] rfl rfl (take_ofW HT_.out HW_.out (by kernel_rfl)) (fun _ _ _ h => h) (Or.inl ⟨by rfl, ?_⟩) hHeld ?_ ?_
                     rotate_left
                     ·rintro w' ⟨s0, s1, s2, s3⟩
                      go_simp
                      with_reducible rfl
                     rotate_left
                     ·simp only [Act.put, List.setIfInBounds_toArray, List.set_cons_zero, List.set_cons_succ, i64_w, i32_w]
                      rfl
                     refine pure_ (i := 20) (N := some 87) (v := ?_) (a' := ?_) #[true,true,true,true,true,true,true,true,true,true,true,true,true,true,true,true,true,true,true,true,true,false,false,false,false,false] rfl rfl (any_of HT_.out (by kernel_rfl)) (fun _ _ _ h => h) (Or.inl ⟨by rfl, ?_⟩) ?_ ?_
                     rotate_left
                     ·intro w'
                      go_simp
                      with_reducible rfl
                     rotate_left
                     ·simp only [Act.put, List.setIfInBounds_toArray, List.set_cons_zero, List.set_cons_succ, i64_w, i32_w]
                      rfl
                     refine pure_ (i := 21) (N := some 88) (v := ?_) (a' := ?_) #[true,true,true,true,true,true,true,true,true,true,true,true,true,true,true,true,true,true,true,true,true,true,false,false,false,false] rfl rfl (any_of HT_.out (by kernel_rfl)) (fun _ _ _ h => h) (Or.inl ⟨by rfl, ?_⟩) ?_ ?_
                     rotate_left
                     ·intro w'
                      go_simp
                      with_reducible rfl
                     rotate_left
                     ·simp only [Act.put, List.setIfInBounds_toArray, List.set_cons_zero, List.set_cons_succ, i64_w, i32_w]
                      rfl
                     refine pure_ (i := 22) (N := some 89) (v := ?_) (a' := ?_) #[true,true,true,true,true,true,true,true,true,true,true,true,true,true,true,true,true,true,true,true,true,true,true,false,false,false] rfl rfl (any_of HT_.out (by kernel_rfl)) (fun _ _ _ h => h) (Or.inl ⟨by rfl, ?_⟩) ?_ ?_
                     rotate_left
                     ·intro w'
                      go_simp
                      with_reducible rfl
                     rotate_left
                     ·simp only [Act.put, List.setIfInBounds_toArray, List.set_cons_zero, List.set_cons_succ, i64_w, i32_w]
                      rfl
                     refine pure_ (i := 23) (N := some 90) (v := ?_) (a' := ?_) #[true,true,true,true,true,true,true,true,true,true,true,true,true,true,true,true,true,true,true,true,true,true,true,true,false,false] rfl rfl (any_of HT_.out (by kernel_rfl)) (fun _ _ _ h => h) (Or.inl ⟨by rfl, ?_⟩) ?_ ?_
                     rotate_left
                     ·intro w'
                      go_simp
                      with_reducible rfl
                     rotate_left
                     ·simp only [Act.put, List.setIfInBounds_toArray, List.set_cons_zero, List.set_cons_succ, i64_w, i32_w]
                      rfl
                     refine pure_ (i := 24) (N := some 91) (v := ?_) (a' := ?_) #[true,true,true,true,true,true,true,true,true,true,true,true,true,true,true,true,true,true,true,true,true,true,true,true,true,false] rfl rfl (any_of HT_.out (by kernel_rfl)) (fun _ _ _ h => h) (Or.inl ⟨by rfl, ?_⟩) ?_ ?_
                     rotate_left
                     ·intro w'
                      go_simp
                      with_reducible rfl
                     rotate_left
                     ·simp only [Act.put, List.setIfInBounds_toArray, List.set_cons_zero, List.set_cons_succ, i64_w, i32_w]
                      rfl
                     refine last_ (i := 25) (N := none) #[true,true,true,true,true,true,true,true,true,true,true,true,true,true,true,true,true,true,true,true,true,true,true,true,true,true] rfl rfl (one_of HT_.out (by kernel_rfl)) (by decide) (fun K hK => ?_)
                     refine skip_ (w1 := ?_) (by rfl) rfl ?_ ?_
                     rotate_left
                     ·go_simp
                      rfl
                     refine hK.out _ _ ?_
                     clear hK K
                     refine done_ (done_of HT_.out (by kernel_rfl)) ?_
                     try go_wp2
                     (try simp only [← hl0_12])
                     go_roundg kj18
                     case measure => have := HK1.out; have := HJ12.out; have := HJ16.out; have := HJ18.out; omega
                     case rel => exact ⟨(y258), (wrap64 (x16_1 + 1)), (by first | rfl | (simp; done) | (simp [*]; done)), H', ⟨by have := HK1.out; have := HJ12.out; have := HJ16.out; have := HJ18.out; omega⟩, ⟨by (try simp only [hl0_12]); (with_reducible repeat (first | apply Kd.R_alloc | apply Kd.R_drewN | apply Kd.R_drew)); exact HQ51.out⟩, ⟨by repeat (first | (with_reducible first | exact HK.out | apply Kept.alloc | apply Kept.drewN | apply Kept.drew | refine Kept.setCell ?_ HMgo10.out _) | exact HK.out)⟩, ⟨by repeat (first | (with_reducible first | exact HB.out | apply below_alloc | apply pw_below_drewN | apply below_drew1 | refine below_set ?_ GB10.out) | exact HB.out)⟩⟩
                    ·rw [if_neg c48] at H
                     exact absurd H (by simp)
                   ·rw [if_neg c46] at H
                    exact absurd H (by simp)
                  ·rw [if_neg c45] at H
                   exact absurd H (by simp)
                 ·rw [if_neg c44] at H
                  exact absurd H (by simp)
               ·rw [if_neg c27] at H
                exact absurd H (by simp)
              ·rw [if_neg c26] at H
               exact absurd H (by simp)
             ·rw [if_neg c25] at H
              have c25b0 : decide (0 < a5) = false := decide_eq_false c25
              clear c25
              by_cases c52 : 0 ≤ a5
              ·rw [if_pos c52] at H
               have c52b0 : decide (0 ≤ a5) = true := decide_eq_true c52
               clear c52
               by_cases c53 : a5 < (l2.length : Int)
               ·rw [if_pos c53] at H
                have c53b0 : decide (a5 < (l2.length : Int)) = true := decide_eq_true c53
                (try (have c53b0h := c53b0; simp only [hl0_12] at c53b0h))
                clear c53
                by_cases c54 : 0 ≤ x16_1
                ·rw [if_pos c54] at H
                 have c54b0 : decide (0 ≤ x16_1) = true := decide_eq_true c54
                 clear c54
                 by_cases c55 : x16_1 < (l3.length : Int)
                 ·rw [if_pos c55] at H
                  have c55b0 : decide (x16_1 < (l3.length : Int)) = true := decide_eq_true c55
                  (try (have c55b0h := c55b0; simp only [hl0_12] at c55b0h))
                  clear c55
                  obtain ⟨ji56, hji56⟩ : ∃ j_ : Int, (mn 4611686018427387904 (wrap64 (x13_18 + (wrap64 ((wrap64 ((rd l2 a5) - (rd l3 x16_1))) * (wrap64 ((rd l2 a5) - (rd l3 x16_1)))))))) = j_ := ⟨_, rfl⟩
                  replace H : (if x16_1 < (y243.length : Int) then (warp_fill.l0 kj18 (y243.set (x16_1 : Int).toNat (ji56)) l1 l2 l3 a4 a5 (l3.length : Int) (wrap64 (x16_1 + 1))) else (none)) = some r := by first | (rw [hji56] at H; exact H) | (simp only [hji56] at H ⊢; exact H)
                  have hji56_ : (if (wrap64 (x13_18 + (wrap64 ((wrap64 ((rd l2 a5) - (rd l3 x16_1))) * (wrap64 ((rd l2 a5) - (rd l3 x16_1))))))) < 4611686018427387904 then (wrap64 (x13_18 + (wrap64 ((wrap64 ((rd l2 a5) - (rd l3 x16_1))) * (wrap64 ((rd l2 a5) - (rd l3 x16_1))))))) else 4611686018427387904) = ji56 := hji56
                  by_cases c57 : x16_1 < (y243.length : Int)
                  ·rw [if_pos c57] at H
                   have c57b0 : decide (x16_1 < (y243.length : Int)) = true := decide_eq_true c57
                   (try (have c57b0h := c57b0; simp only [hl0_12] at c57b0h))
                   clear c57
                   obtain ⟨y263, hy263⟩ : ∃ y_ : List Int, y_ = (y243.set (x16_1 : Int).toNat (ji56)) := ⟨_, rfl⟩
                   replace H : (warp_fill.l0 kj18 y263 l1 l2 l3 a4 a5 (l3.length : Int) (wrap64 (x16_1 + 1))) = some r := by first | (rw [hy263]; with_reducible exact H) | (have H2_ := (Option.bind_some _ _).symm.trans H; rw [hy263]; with_reducible exact H2_) | (have H2_ := (Option.bind_some _ _).symm.trans H; with_reducible exact H2_) | with_reducible exact H | (rw [hy263]; exact H) | exact H
                   have Ny263 := Aside0.mk hy263
                   clear hy263
                   have H' := Aside0.mk H
                   clear H
                   try go_wp2
                   have n0_ := Aside0.mk (Kd.R_drew HO_0.out)
                   have n1_ := Aside0.mk (Kept.drew HK.out)
                   have n2_ := Aside0.mk (below_drew1 HB.out)
                   clear HO_0
                   clear HK
                   clear HB
                   have HO_0 := n0_
                   have HK := n1_
                   have HB := n2_
                   clear n0_ n1_ n2_
                   have p259 : 0 ≤ (a5 : Int) := of_decide_eq_true (by first | (with_reducible assumption) | assumption)
                   have q259 : a5 < (l2.length : Int) := of_decide_eq_true (by first | (with_reducible assumption) | assumption)
                   obtain ⟨ad259, e259, hx259_0⟩ := Kd.at_int (Kd.C_kept_now HR2.out HK.out) a5 p259 q259
                   have hw259_0 := hx259_0
                   cases e259
                   replace p259 := eq_true p259
                   replace q259 := eq_true q259
                   have p260 : 0 ≤ (x16_1 : Int) := of_decide_eq_true (by first | (with_reducible assumption) | assumption)
                   have q260 : x16_1 < (l3.length : Int) := of_decide_eq_true (by first | (with_reducible assumption) | assumption)
                   obtain ⟨ad260, e260, hx260_0⟩ := Kd.at_int (Kd.C_kept_now HR3.out HK.out) x16_1 p260 q260
                   have hw260_0 := hx260_0
                   cases e260
                   replace p260 := eq_true p260
                   replace q260 := eq_true q260
                   have p261 : 0 ≤ (a5 : Int) := of_decide_eq_true (by first | (with_reducible assumption) | assumption)
                   have q261 : a5 < (l2.length : Int) := of_decide_eq_true (by first | (with_reducible assumption) | assumption)
                   obtain ⟨ad261, e261, hx261_0⟩ := Kd.at_int (Kd.C_kept_now HR2.out HK.out) a5 p261 q261
                   have hw261_0 := hx261_0
                   obtain rfl : ad259 = ad261 := (by injection e261)
                   replace p261 := eq_true p261
                   replace q261 := eq_true q261
                   have p262 : 0 ≤ (x16_1 : Int) := of_decide_eq_true (by first | (with_reducible assumption) | assumption)
                   have q262 : x16_1 < (l3.length : Int) := of_decide_eq_true (by first | (with_reducible assumption) | assumption)
                   obtain ⟨ad262, e262, hx262_0⟩ := Kd.at_int (Kd.C_kept_now HR3.out HK.out) x16_1 p262 q262
                   have hw262_0 := hx262_0
                   obtain rfl : ad260 = ad262 := (by injection e262)
                   replace p262 := eq_true p262
                   replace q262 := eq_true q262
                   have p58 : 0 ≤ (x16_1 : Int) := of_decide_eq_true (by first | (with_reducible assumption) | assumption)
                   have q58 : (x16_1 : Int) < ((y243.length : Int) : Int) := of_decide_eq_true (by first | (with_reducible assumption) | assumption)
                   obtain ⟨hx58_0, hf58_0⟩ := Kd.R_celln 0 HO_0.out (x16_1 : Int) p58 q58
                   replace p58 := eq_true p58
                   replace q58 := eq_true q58
                   have HP60 := Kd.R_putn HO_0.out (x16_1 : Int) ji56
                   rw [← Ny263.out] at HP60
                   have HQ60 := Aside0.mk HP60
                   clear HP60
                   refine start_ (n := 26) (S := fun w' => w'.cell? (ad259.add (a5).toNat) = some (.int .i64 (rd l2 a5)) ∧ w'.cell? (ad260.add (x16_1).toNat) = some (.int .i64 (rd l3 x16_1)) ∧ w'.cell? (ad259.add (a5).toNat) = some (.int .i64 (rd l2 a5)) ∧ w'.cell? (ad260.add (x16_1).toNat) = some (.int .i64 (rd l3 x16_1))) (ds := [25]) #[false,false,false,false,false,false,false,false,false,false,false,false,false,false,false,false,false,false,false,false,false,false,false,false,false,false] (by kernel_rfl) rfl rfl ⟨(Kd.foot_int (HR2.out _ (by repeat (first | exact HK.out | apply Kept.alloc | apply Kept.drewN | apply Kept.drew | refine Kept.setCell ?_ HMgo10.out _))) a5 (of_eq_true p259) (of_eq_true q259)), (Kd.foot_int (HR3.out _ (by repeat (first | exact HK.out | apply Kept.alloc | apply Kept.drewN | apply Kept.drew | refine Kept.setCell ?_ HMgo10.out _))) x16_1 (of_eq_true p260) (of_eq_true q260)), (Kd.foot_int (HR2.out _ (by repeat (first | exact HK.out | apply Kept.alloc | apply Kept.drewN | apply Kept.drew | refine Kept.setCell ?_ HMgo10.out _))) a5 (of_eq_true p261) (of_eq_true q261)), (Kd.foot_int (HR3.out _ (by repeat (first | exact HK.out | apply Kept.alloc | apply Kept.drewN | apply Kept.drew | refine Kept.setCell ?_ HMgo10.out _))) x16_1 (of_eq_true p262) (of_eq_true q262))⟩ (fun hHeld => ?_); refine with_tabW warp_fill.tab14 warp_fill.bits14 (fun HT_ HW_ => ?_)
                   generalize wc.drew = w59 at HO_0 HK HB HQ60 hf58_0 hx259_0 hx260_0 hx261_0 hx262_0 hx58_0 hHeld ⊢
                   refine pure_ (i := 0) (N := some 67) (v := ?_) (a' := ?_) #[true,false,false,false,false,false,false,false,false,false,false,false,false,false,false,false,false,false,false,false,false,false,false,false,false,false] rfl rfl (any_of HT_.out (by kernel_rfl)) (fun _ _ _ h => h) (Or.inl ⟨by rfl, ?_⟩) ?_ ?_
                   rotate_left
                   ·intro w'
                    go_simp
                    with_reducible rfl
                   rotate_left
                   ·simp only [Act.put, List.setIfInBounds_toArray, List.set_cons_zero, List.set_cons_succ, i64_w, i32_w]
                    rfl
                   refine pure_ (i := 1) (N := some 68) (v := ?_) (a' := ?_) #[true,true,false,false,false,false,false,false,false,false,false,false,false,false,false,false,false,false,false,false,false,false,false,false,false,false] rfl rfl (any_of HT_.out (by kernel_rfl)) (fun _ _ _ h => h) (Or.inl ⟨by rfl, ?_⟩) ?_ ?_
                   rotate_left
                   ·intro w'
                    go_simp
                    with_reducible rfl
                   rotate_left
                   ·simp only [Act.put, List.setIfInBounds_toArray, List.set_cons_zero, List.set_cons_succ, i64_w, i32_w]
                    rfl
                   refine pure_ (i := 2) (N := some 69) (v := ?_) (a' := ?_) #[true,true,true,false,false,false,false,false,false,false,false,false,false,false,false,false,false,false,false,false,false,false,false,false,false,false] rfl rfl (any_of HT_.out (by kernel_rfl)) (fun _ _ _ h => h) (Or.inl ⟨by rfl, ?_⟩) ?_ ?_
                   rotate_left
                   ·intro w'
                    go_simp
                    with_reducible rfl
                   rotate_left
                   ·simp only [Act.put, List.setIfInBounds_toArray, List.set_cons_zero, List.set_cons_succ, i64_w, i32_w]
                    rfl
                   refine pure_ (i := 3) (N := some 70) (v := ?_) (a' := ?_) #[true,true,true,true,false,false,false,false,false,false,false,false,false,false,false,false,false,false,false,false,false,false,false,false,false,false] rfl rfl (any_of HT_.out (by kernel_rfl)) (fun _ _ _ h => h) (Or.inl ⟨by rfl, ?_⟩) ?_ ?_
                   rotate_left
                   ·intro w'
                    go_simp
                    with_reducible rfl
                   rotate_left
                   ·simp only [Act.put, List.setIfInBounds_toArray, List.set_cons_zero, List.set_cons_succ, i64_w, i32_w]
                    rfl
                   refine pure_ (i := 4) (N := some 71) (v := ?_) (a' := ?_) #[true,true,true,true,true,false,false,false,false,false,false,false,false,false,false,false,false,false,false,false,false,false,false,false,false,false] rfl rfl (any_of HT_.out (by kernel_rfl)) (fun _ _ _ h => h) (Or.inl ⟨by rfl, ?_⟩) ?_ ?_
                   rotate_left
                   ·intro w'
                    go_simp
                    with_reducible rfl
                   rotate_left
                   ·simp only [Act.put, List.setIfInBounds_toArray, List.set_cons_zero, List.set_cons_succ, i64_w, i32_w]
                    rfl
                   refine pure_ (i := 5) (N := some 72) (v := ?_) (a' := ?_) #[true,true,true,true,true,true,false,false,false,false,false,false,false,false,false,false,false,false,false,false,false,false,false,false,false,false] rfl rfl (any_of HT_.out (by kernel_rfl)) (fun _ _ _ h => h) (Or.inl ⟨by rfl, ?_⟩) ?_ ?_
                   rotate_left
                   ·intro w'
                    go_simp
                    with_reducible rfl
                   rotate_left
                   ·simp only [Act.put, List.setIfInBounds_toArray, List.set_cons_zero, List.set_cons_succ, i64_w, i32_w]
                    rfl
                   refine pure_ (i := 7) (N := some 74) (v := ?_) (a' := ?_) #[true,true,true,true,true,true,false,true,false,false,false,false,false,false,false,false,false,false,false,false,false,false,false,false,false,false] rfl rfl (any_of HT_.out (by kernel_rfl)) (fun _ _ _ h => h) (Or.inl ⟨by rfl, ?_⟩) ?_ ?_
                   rotate_left
                   ·intro w'
                    go_simp
                    with_reducible rfl
                   rotate_left
                   ·simp only [Act.put, List.setIfInBounds_toArray, List.set_cons_zero, List.set_cons_succ, i64_w, i32_w]
                    rfl
                   refine pure_ (i := 8) (N := some 75) (v := ?_) (a' := ?_) #[true,true,true,true,true,true,false,true,true,false,false,false,false,false,false,false,false,false,false,false,false,false,false,false,false,false] rfl rfl (any_of HT_.out (by kernel_rfl)) (fun _ _ _ h => h) (Or.inl ⟨by rfl, ?_⟩) ?_ ?_
                   rotate_left
                   ·intro w'
                    go_simp
                    with_reducible rfl
                   rotate_left
                   ·simp only [Act.put, List.setIfInBounds_toArray, List.set_cons_zero, List.set_cons_succ, i64_w, i32_w]
                    rfl
                   refine pure_ (i := 9) (N := some 76) (v := ?_) (a' := ?_) #[true,true,true,true,true,true,false,true,true,true,false,false,false,false,false,false,false,false,false,false,false,false,false,false,false,false] rfl rfl (any_of HT_.out (by kernel_rfl)) (fun _ _ _ h => h) (Or.inl ⟨by rfl, ?_⟩) ?_ ?_
                   rotate_left
                   ·intro w'
                    go_simp
                    with_reducible rfl
                   rotate_left
                   ·simp only [Act.put, List.setIfInBounds_toArray, List.set_cons_zero, List.set_cons_succ, i64_w, i32_w]
                    rfl
                   refine pure_ (i := 12) (N := some 79) (v := ?_) (a' := ?_) #[true,true,true,true,true,true,false,true,true,true,false,false,true,false,false,false,false,false,false,false,false,false,false,false,false,false] rfl rfl (any_of HT_.out (by kernel_rfl)) (fun _ _ _ h => h) (Or.inl ⟨by rfl, ?_⟩) ?_ ?_
                   rotate_left
                   ·intro w'
                    go_simp
                    with_reducible rfl
                   rotate_left
                   ·simp only [Act.put, List.setIfInBounds_toArray, List.set_cons_zero, List.set_cons_succ, i64_w, i32_w]
                    rfl
                   refine pure_ (i := 13) (N := some 80) (v := ?_) (a' := ?_) #[true,true,true,true,true,true,false,true,true,true,false,false,true,true,false,false,false,false,false,false,false,false,false,false,false,false] rfl rfl (any_of HT_.out (by kernel_rfl)) (fun _ _ _ h => h) (Or.inl ⟨by rfl, ?_⟩) ?_ ?_
                   rotate_left
                   ·intro w'
                    go_simp
                    with_reducible rfl
                   rotate_left
                   ·simp only [Act.put, List.setIfInBounds_toArray, List.set_cons_zero, List.set_cons_succ, i64_w, i32_w]
                    rfl
                   refine pure_ (i := 14) (N := some 81) (v := ?_) (a' := ?_) #[true,true,true,true,true,true,false,true,true,true,false,false,true,true,true,false,false,false,false,false,false,false,false,false,false,false] rfl rfl (any_of HT_.out (by kernel_rfl)) (fun _ _ _ h => h) (Or.inl ⟨by rfl, ?_⟩) ?_ ?_
                   rotate_left
                   ·intro w'
                    go_simp
                    with_reducible rfl
                   rotate_left
                   ·simp only [Act.put, List.setIfInBounds_toArray, List.set_cons_zero, List.set_cons_succ, i64_w, i32_w]
                    rfl
                   refine pure_ (i := 16) (N := some 83) (v := ?_) (a' := ?_) #[true,true,true,true,true,true,false,true,true,true,false,false,true,true,true,false,true,false,false,false,false,false,false,false,false,false] rfl rfl (any_of HT_.out (by kernel_rfl)) (fun _ _ _ h => h) (Or.inl ⟨by rfl, ?_⟩) ?_ ?_
                   rotate_left
                   ·intro w'
                    go_simp
                    with_reducible rfl
                   rotate_left
                   ·simp only [Act.put, List.setIfInBounds_toArray, List.set_cons_zero, List.set_cons_succ, i64_w, i32_w]
                    rfl
                   refine pure_ (i := 17) (N := some 84) (v := ?_) (a' := ?_) #[true,true,true,true,true,true,false,true,true,true,false,false,true,true,true,false,true,true,false,false,false,false,false,false,false,false] rfl rfl (any_of HT_.out (by kernel_rfl)) (fun _ _ _ h => h) (Or.inl ⟨by rfl, ?_⟩) ?_ ?_
                   rotate_left
                   ·intro w'
                    go_simp
                    with_reducible rfl
                   rotate_left
                   ·simp only [Act.put, List.setIfInBounds_toArray, List.set_cons_zero, List.set_cons_succ, i64_w, i32_w]
                    rfl
                   refine pure_ (i := 18) (N := some 85) (v := ?_) (a' := ?_) #[true,true,true,true,true,true,false,true,true,true,false,false,true,true,true,false,true,true,true,false,false,false,false,false,false,false] rfl rfl (any_of HT_.out (by kernel_rfl)) (fun _ _ _ h => h) (Or.inl ⟨by rfl, ?_⟩) ?_ ?_
                   rotate_left
                   ·intro w'
                    go_simp
                    with_reducible rfl
                   rotate_left
                   ·simp only [Act.put, List.setIfInBounds_toArray, List.set_cons_zero, List.set_cons_succ, i64_w, i32_w]
                    rfl
                   refine take_ (i := 6) (N := some 73) (v := ?_) (a' := ?_) #[true,true,true,true,true,true,true,true,true,true,false,false,true,true,true,false,true,true,true,false,false,false,false,false,false,false] rfl rfl (take_ofW HT_.out HW_.out (by kernel_rfl)) (fun _ _ _ h => h) (Or.inl ⟨by rfl, ?_⟩) hHeld ?_ ?_
                   rotate_left
                   ·rintro w' ⟨s0, s1, s2, s3⟩
                    go_simp
                    with_reducible rfl
                   rotate_left
                   ·simp only [Act.put, List.setIfInBounds_toArray, List.set_cons_zero, List.set_cons_succ, i64_w, i32_w]
                    rfl
                   refine take_ (i := 10) (N := some 77) (v := ?_) (a' := ?_) #[true,true,true,true,true,true,true,true,true,true,true,false,true,true,true,false,true,true,true,false,false,false,false,false,false,false] rfl rfl (take_ofW HT_.out HW_.out (by kernel_rfl)) (fun _ _ _ h => h) (Or.inl ⟨by rfl, ?_⟩) hHeld ?_ ?_
                   rotate_left
                   ·rintro w' ⟨s0, s1, s2, s3⟩
                    go_simp
                    with_reducible rfl
                   rotate_left
                   ·simp only [Act.put, List.setIfInBounds_toArray, List.set_cons_zero, List.set_cons_succ, i64_w, i32_w]
                    rfl
                   refine pure_ (i := 11) (N := some 78) (v := ?_) (a' := ?_) #[true,true,true,true,true,true,true,true,true,true,true,true,true,true,true,false,true,true,true,false,false,false,false,false,false,false] rfl rfl (any_of HT_.out (by kernel_rfl)) (fun _ _ _ h => h) (Or.inl ⟨by rfl, ?_⟩) ?_ ?_
                   rotate_left
                   ·intro w'
                    go_simp
                    with_reducible rfl
                   rotate_left
                   ·simp only [Act.put, List.setIfInBounds_toArray, List.set_cons_zero, List.set_cons_succ, i64_w, i32_w]
                    rfl
                   refine take_ (i := 15) (N := some 82) (v := ?_) (a' := ?_) #[true,true,true,true,true,true,true,true,true,true,true,true,true,true,true,true,true,true,true,false,false,false,false,false,false,false] rfl rfl (take_ofW HT_.out HW_.out (by kernel_rfl)) (fun _ _ _ h => h) (Or.inl ⟨by rfl, ?_⟩) hHeld ?_ ?_
                   rotate_left
                   ·rintro w' ⟨s0, s1, s2, s3⟩
                    go_simp
                    with_reducible rfl
                   rotate_left
                   ·simp only [Act.put, List.setIfInBounds_toArray, List.set_cons_zero, List.set_cons_succ, i64_w, i32_w]
                    rfl
                   refine take_ (i := 19) (N := some 86) (v := ?_) (a' := ?_) #[true,true,true,true,true,true,true,true,true,true,true,true,true,true,true,true,true,true,true,true,false,false,false,false,false,false] rfl rfl (take_ofW HT_.out HW_.out (by kernel_rfl)) (fun _ _ _ h => h) (Or.inl ⟨by rfl, ?_⟩) hHeld ?_ ?_
                   rotate_left
                   ·rintro w' ⟨s0, s1, s2, s3⟩
                    go_simp
                    with_reducible rfl
                   rotate_left
                   ·simp only [Act.put, List.setIfInBounds_toArray, List.set_cons_zero, List.set_cons_succ, i64_w, i32_w]
                    rfl
                   refine pure_ (i := 20) (N := some 87) (v := ?_) (a' := ?_) #[true,true,true,true,true,true,true,true,true,true,true,true,true,true,true,true,true,true,true,true,true,false,false,false,false,false] rfl rfl (any_of HT_.out (by kernel_rfl)) (fun _ _ _ h => h) (Or.inl ⟨by rfl, ?_⟩) ?_ ?_
                   rotate_left
                   ·intro w'
                    go_simp
                    with_reducible rfl
                   rotate_left
                   ·simp only [Act.put, List.setIfInBounds_toArray, List.set_cons_zero, List.set_cons_succ, i64_w, i32_w]
                    rfl
                   refine pure_ (i := 21) (N := some 88) (v := ?_) (a' := ?_) #[true,true,true,true,true,true,true,true,true,true,true,true,true,true,true,true,true,true,true,true,true,true,false,false,false,false] rfl rfl (any_of HT_.out (by kernel_rfl)) (fun _ _ _ h => h) (Or.inl ⟨by rfl, ?_⟩) ?_ ?_
                   rotate_left
                   ·intro w'
                    go_simp
                    with_reducible rfl
                   rotate_left
                   ·simp only [Act.put, List.setIfInBounds_toArray, List.set_cons_zero, List.set_cons_succ, i64_w, i32_w]
                    rfl
                   refine pure_ (i := 22) (N := some 89) (v := ?_) (a' := ?_) #[true,true,true,true,true,true,true,true,true,true,true,true,true,true,true,true,true,true,true,true,true,true,true,false,false,false] rfl rfl (any_of HT_.out (by kernel_rfl)) (fun _ _ _ h => h) (Or.inl ⟨by rfl, ?_⟩) ?_ ?_
                   rotate_left
                   ·intro w'
                    go_simp
                    with_reducible rfl
                   rotate_left
                   ·simp only [Act.put, List.setIfInBounds_toArray, List.set_cons_zero, List.set_cons_succ, i64_w, i32_w]
                    rfl
                   refine pure_ (i := 23) (N := some 90) (v := ?_) (a' := ?_) #[true,true,true,true,true,true,true,true,true,true,true,true,true,true,true,true,true,true,true,true,true,true,true,true,false,false] rfl rfl (any_of HT_.out (by kernel_rfl)) (fun _ _ _ h => h) (Or.inl ⟨by rfl, ?_⟩) ?_ ?_
                   rotate_left
                   ·intro w'
                    go_simp
                    with_reducible rfl
                   rotate_left
                   ·simp only [Act.put, List.setIfInBounds_toArray, List.set_cons_zero, List.set_cons_succ, i64_w, i32_w]
                    rfl
                   refine pure_ (i := 24) (N := some 91) (v := ?_) (a' := ?_) #[true,true,true,true,true,true,true,true,true,true,true,true,true,true,true,true,true,true,true,true,true,true,true,true,true,false] rfl rfl (any_of HT_.out (by kernel_rfl)) (fun _ _ _ h => h) (Or.inl ⟨by rfl, ?_⟩) ?_ ?_
                   rotate_left
                   ·intro w'
                    go_simp
                    with_reducible rfl
                   rotate_left
                   ·simp only [Act.put, List.setIfInBounds_toArray, List.set_cons_zero, List.set_cons_succ, i64_w, i32_w]
                    rfl
                   refine last_ (i := 25) (N := none) #[true,true,true,true,true,true,true,true,true,true,true,true,true,true,true,true,true,true,true,true,true,true,true,true,true,true] rfl rfl (one_of HT_.out (by kernel_rfl)) (by decide) (fun K hK => ?_)
                   refine skip_ (w1 := ?_) (by rfl) rfl ?_ ?_
                   rotate_left
                   ·go_simp
                    rfl
                   refine hK.out _ _ ?_
                   clear hK K
                   refine done_ (done_of HT_.out (by kernel_rfl)) ?_
                   try go_wp2
                   (try simp only [← hl0_12])
                   go_roundg kj18
                   case measure => have := HK1.out; have := HJ12.out; have := HJ16.out; have := HJ18.out; omega
                   case rel => exact ⟨(y263), (wrap64 (x16_1 + 1)), (by first | rfl | (simp; done) | (simp [*]; done)), H', ⟨by have := HK1.out; have := HJ12.out; have := HJ16.out; have := HJ18.out; omega⟩, ⟨by (try simp only [hl0_12]); (with_reducible repeat (first | apply Kd.R_alloc | apply Kd.R_drewN | apply Kd.R_drew)); exact HQ60.out⟩, ⟨by repeat (first | (with_reducible first | exact HK.out | apply Kept.alloc | apply Kept.drewN | apply Kept.drew | refine Kept.setCell ?_ HMgo10.out _) | exact HK.out)⟩, ⟨by repeat (first | (with_reducible first | exact HB.out | apply below_alloc | apply pw_below_drewN | apply below_drew1 | refine below_set ?_ GB10.out) | exact HB.out)⟩⟩
                  ·rw [if_neg c57] at H
                   exact absurd H (by simp)
                 ·rw [if_neg c55] at H
                  exact absurd H (by simp)
                ·rw [if_neg c54] at H
                 exact absurd H (by simp)
               ·rw [if_neg c53] at H
                exact absurd H (by simp)
              ·rw [if_neg c52] at H
               exact absurd H (by simp)
      ·replace c12 := Bool.eq_false_iff.mpr c12
       subst c12
       have H1 : (warp_fill.l0 k1 y243 l1 l2 l3 a4 a5 (l3.length : Int) (wrap64 (x16_1 + 1))) = some r := by rw [if_neg (show ¬ (false = true) by decide)] at H; exact H
       clear H
       have H := H1
       clear H1
       have H' := Aside0.mk H
       clear H
       have p10 : 0 ≤ (x16_1 : Int) := of_decide_eq_true (by first | (with_reducible assumption) | assumption)
       have q10 : (x16_1 : Int) < ((x0_1.length : Int) : Int) := of_decide_eq_true (by first | (with_reducible assumption) | assumption)
       obtain ⟨go10, co10, eo10, gb10, gl10, cl10, HG10⟩ := Kd.R_form HO_0.out (by omega)
       (first | cases eo10 | (injection eo10 with ea_ en_ ec_; (first | subst ea_ | (injection ea_ with ea_; subst ea_)); subst ec_; clear en_))
       have GB10 := Aside0.mk gb10
       have GG10 := Aside0.mk HG10
       clear gb10 gl10 HG10
       have HMgo10 := Aside0.mk (show (P0_ go10 ∨ w.heap.size ≤ go10) from (HO_0.out.1 _ rfl))
       obtain ⟨hx10_0, hf10_0⟩ := Kd.R_celln 0 HO_0.out (x16_1 : Int) p10 q10
       replace p10 := eq_true p10
       replace q10 := eq_true q10
       have HP61 := Kd.R_putg HO_0.out (x16_1 : Int) 4611686018427387904
       go_wp2_with (first | ((with_reducible refine gate_store (t := 3) (p := 21) rfl ?_); refine store_event (t := 3) (p := 21) (v := ?vo_w62) (w1 := (wr.setCell ⟨go10, (x16_1 : Int).toNat, none⟩ (.int .i64 4611686018427387904))) ?hg ?ho ?hn ?hr ?_; (case ho => rfl); (case hg => rfl); (case hn => rfl); (case hr => first | (go_simp; done) | (go_simp; rfl)); intro w62 hw; have hg : wr.grownBy w62 (some go10) := (by rw [hw]; exact HP61.2); have hp_ : Kd.R (Kd.int .i64) 3 w62 w0.heap.size (fun k_ => (P0_ k_ ∨ w.heap.size ≤ k_)) (.slice (some ⟨go10, 0, none⟩) x0_1.length co10) y243 := (by rw [hw, Ny243.out]; exact HP61.1); clear HP61; have n0_ := Aside0.mk (hp_); have n1_ := Aside0.mk ((by rw [hw]; exact below_set (HB.out) GB10.out : Below w0.heap.size w0 w62)); have n2_ := Aside0.mk (Kept.of_grown (S := (fun k_ => P0_ k_)) hg (by repeat (first | (with_reducible first | exact HK.out | apply Kept.alloc | apply Kept.drewN | apply Kept.drew) | exact HK.out)) (fun k_ e_ => (HO_0.out.1 k_ e_))); clear HO_0; clear HB; clear HK; have HO_0 := n0_; have HB := n1_; have HK := n2_; clear n0_ n1_ n2_; clear hg hw hp_) | ((with_reducible refine gate_callee (f := 39) rfl ?_); refine goesL_ (some 25) rfl rfl Try.func39 (by kernel_rfl) rfl #[.int .i64 a5, .int .i64 x16_1, .int .i64 a4] rfl (by (try simp only [List.map_toArray, List.map_cons, List.map_nil]); first | done | rfl | (simp only [List.length_drop, List.length_take]; rfl)) ?_; (with_reducible refine (warp_near.calls a5 x16_1 a4 false _ A11.out).mono ?_); rintro e w' ⟨rfl, ⟨nd, rfl⟩⟩; refine ⟨_, rfl, ?_⟩))
       go_roundg k1
       case measure => have := HK1.out; omega
       case rel => exact ⟨(y243), (wrap64 (x16_1 + 1)), (by first | rfl | (simp; done) | (simp [*]; done)), H', ⟨by have := HK1.out; omega⟩, ⟨by (with_reducible repeat (first | apply Kd.R_alloc | apply Kd.R_drewN | apply Kd.R_drew)); exact HO_0.out⟩, ⟨by repeat (first | (with_reducible first | exact HK.out | apply Kept.alloc | apply Kept.drewN | apply Kept.drew) | exact HK.out)⟩, ⟨by repeat (first | (with_reducible first | exact HB.out | apply below_alloc | apply pw_below_drewN | apply below_drew1) | exact HB.out)⟩⟩
     ·rw [if_neg c9] at H
      exact absurd H (by simp)
    ·rw [if_neg c8] at H
     exact absurd H (by simp)
   ·rw [if_neg c7] at H
    have c7b0 : decide (x16_1 < (l3.length : Int)) = false := decide_eq_false c7
    clear c7
    obtain rfl := Option.some.inj H
    go_wp2
    first | go_end0 | ((try simp only [Exit.inBlock, Exit.then]); refine bodyPost_ret (results_none rfl _ _ _) rfl ?_)
    exact ⟨by first | rfl | (simp [errW_none, errW_some] <;> rfl) | (simp [*, errW_none, errW_some] <;> rfl), by (with_reducible repeat (first | apply Kd.R_alloc | apply Kd.R_drewN | apply Kd.R_drew)); exact HO_0.out, by repeat (first | (with_reducible first | exact HB.out | apply below_alloc | apply pw_below_drewN | apply below_drew1) | exact HB.out), by repeat (first | (with_reducible first | exact HK.out | apply Kept.alloc | apply Kept.drewN | apply Kept.drew) | exact HK.out)⟩

end Go.Proofs.Ytnceoalphoodaaa.PWarpAll
