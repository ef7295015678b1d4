/- Told by a program of this session out of the translation: Lean functions with the same answers as the Go functions that the law reaches, and proofs of that; no conditions. -/
import Derived.Test.YtnceoalphoodaaaPWarpMovesx0
import Derived.Test.YtnceoalphoodaaaPWarpMovesx2
import Derived.Test.YtnceoalphoodaaaPWarpMovesx4
import Derived.Test.YtnceoalphoodaaaPWarpMovesx7
import Derived.Test.YtnceoalphoodaaaPWarpMovesx9
namespace Go.Proofs.Ytnceoalphoodaaa.PWarpMoves
open Go.RowKit Go.Proofs.YtnceoalphoodaaaW.PrintWords Go.Proofs.YtnceoalphoodaaaW.PrintLast Go.Proofs.YtnceoalphoodaaaW.PrintMore
attribute [local go_sem] max2_int min2_int max_two min_two max_three min_three max_four min_four   -- for this text's walks alone
set_option linter.unusedVariables false
set_option linter.unusedSimpArgs false

/-! ### shapesearchlaw14_WarpMoves: function 5 -/
mutual
def shapesearchlaw14_WarpMoves.l0 : Nat → Int → List Int → List Int → Int → List Int → Int → Int → Option (Bool)
  | 0, _, _, _, _, _, _, _ => none
  | k + 1, x1, x5, x6, x7, x8, x30, x31 => if x31 < x30 then (if 0 ≤ x31 then (if x31 < (x5.length : Int) then ((some (x5.set (x31 : Int).toNat (wrap64 (Int.tdiv (wrap64 ((rd x5 x31) * 4)) 5)) : List Int)).bind fun y351 => (if x8.length < 17592186044416 then (shapesearchlaw14_WarpMoves.l0 k x1 y351 x6 x7 (x8 ++ [wrap64 ((rd y351 x31) + (wrap64 (x1)))]) x30 (wrap64 (x31 + 1))) else (none))) else (none)) else (none)) else (shapesearchlaw14_WarpMoves.l1 k x1 x5 x6 x7 x8 ([] : List Int) (x6.length : Int) 0)
def shapesearchlaw14_WarpMoves.l1 : Nat → Int → List Int → List Int → Int → List Int → List Int → Int → Int → Option (Bool)
  | 0, _, _, _, _, _, _, _, _ => none
  | k + 1, x1, x5, x6, x7, x8, x9, x55, x56 => if x56 < x55 then (if 0 ≤ x56 then (if x56 < (x6.length : Int) then ((some (x6.set (x56 : Int).toNat (wrap64 (Int.tdiv (wrap64 ((rd x6 x56) * 4)) 5)) : List Int)).bind fun y357 => (if x9.length < 17592186044416 then (shapesearchlaw14_WarpMoves.l1 k x1 x5 y357 x7 x8 (x9 ++ [wrap64 ((rd y357 x56) + (wrap64 (x1)))]) x55 (wrap64 (x56 + 1))) else (none))) else (none)) else (none)) else (shapesearchlaw14_WarpMoves.l2 k x5 x6 x7 x8 x9 ([] : List Int) (x5.length : Int) 0)
def shapesearchlaw14_WarpMoves.l2 : Nat → List Int → List Int → Int → List Int → List Int → List Int → Int → Int → Option (Bool)
  | 0, _, _, _, _, _, _, _, _ => none
  | k + 1, x5, x6, x7, x8, x9, x10, x80, x81 => if x81 < x80 then (if 0 ≤ (wrap64 ((wrap64 ((x5.length : Int) - 1)) - x81)) then (if (wrap64 ((wrap64 ((x5.length : Int) - 1)) - x81)) < (x5.length : Int) then (if x10.length < 17592186044416 then (shapesearchlaw14_WarpMoves.l2 k x5 x6 x7 x8 x9 (x10 ++ [rd x5 (wrap64 ((wrap64 ((x5.length : Int) - 1)) - x81))]) x80 (wrap64 (x81 + 1))) else (none)) else (none)) else (none)) else (shapesearchlaw14_WarpMoves.l3 k x5 x6 x7 x8 x9 x10 ([] : List Int) (x6.length : Int) 0)
def shapesearchlaw14_WarpMoves.l3 : Nat → List Int → List Int → Int → List Int → List Int → List Int → List Int → Int → Int → Option (Bool)
  | 0, _, _, _, _, _, _, _, _, _ => none
  | k + 1, x5, x6, x7, x8, x9, x10, x11, x97, x98 => if x98 < x97 then (if 0 ≤ (wrap64 ((wrap64 ((x6.length : Int) - 1)) - x98)) then (if (wrap64 ((wrap64 ((x6.length : Int) - 1)) - x98)) < (x6.length : Int) then (if x11.length < 17592186044416 then (shapesearchlaw14_WarpMoves.l3 k x5 x6 x7 x8 x9 x10 (x11 ++ [rd x6 (wrap64 ((wrap64 ((x6.length : Int) - 1)) - x98))]) x97 (wrap64 (x98 + 1))) else (none)) else (none)) else (none)) else ((warp_Distance.f k x5 x6 x7).bind fun bt370 => ((warp_Distance.f k x8 x9 x7).bind fun bt372 => ((warp_Distance.f k x10 x11 x7).bind fun bt374 => (if bt370.2 = 0 then (if bt372.2 = 0 then (if bt374.2 = 0 then (if bt370.1 = bt372.1 then (if (x5.length : Int) = (x6.length : Int) then (if bt370.1 = bt374.1 then ((shapesearchlaw14_awake.f k).bind fun t376 => (some t376)) else (some false)) else ((shapesearchlaw14_awake.f k).bind fun t377 => (some t377))) else (some false)) else (some false)) else (some false)) else (some false)))))
end
def shapesearchlaw14_WarpMoves.f (k : Nat) (l0 : List Int) (a1 : Int) : Option (Bool) := (shapesearchkeep_New.f l0).bind fun bt339 => ((shapesearchkeep_Src_Uneven.f k bt339.1 bt339.2).bind fun bt342 => (shapesearchlaw14_WarpMoves.l0 k a1 bt342.1 bt342.2.1 bt342.2.2.1 ([] : List Int) (bt342.1.length : Int) 0))
theorem shapesearchlaw14_WarpMoves.mono_l : ∀ k, (∀ y0 y1 y2 y3 y4 y5 y6, LeO (shapesearchlaw14_WarpMoves.l0 k y0 y1 y2 y3 y4 y5 y6) (shapesearchlaw14_WarpMoves.l0 (k + 1) y0 y1 y2 y3 y4 y5 y6)) ∧ (∀ y0 y1 y2 y3 y4 y5 y6 y7, LeO (shapesearchlaw14_WarpMoves.l1 k y0 y1 y2 y3 y4 y5 y6 y7) (shapesearchlaw14_WarpMoves.l1 (k + 1) y0 y1 y2 y3 y4 y5 y6 y7)) ∧ (∀ y0 y1 y2 y3 y4 y5 y6 y7, LeO (shapesearchlaw14_WarpMoves.l2 k y0 y1 y2 y3 y4 y5 y6 y7) (shapesearchlaw14_WarpMoves.l2 (k + 1) y0 y1 y2 y3 y4 y5 y6 y7)) ∧ (∀ y0 y1 y2 y3 y4 y5 y6 y7 y8, LeO (shapesearchlaw14_WarpMoves.l3 k y0 y1 y2 y3 y4 y5 y6 y7 y8) (shapesearchlaw14_WarpMoves.l3 (k + 1) y0 y1 y2 y3 y4 y5 y6 y7 y8))
  | 0 => ⟨fun _ _ _ _ _ _ _ r h => by simp [shapesearchlaw14_WarpMoves.l0] at h, fun _ _ _ _ _ _ _ _ r h => by simp [shapesearchlaw14_WarpMoves.l1] at h, fun _ _ _ _ _ _ _ _ r h => by simp [shapesearchlaw14_WarpMoves.l2] at h, fun _ _ _ _ _ _ _ _ _ r h => by simp [shapesearchlaw14_WarpMoves.l3] at h⟩
  | k + 1 => by
    obtain ⟨ih0, ih1, ih2, ih3⟩ := shapesearchlaw14_WarpMoves.mono_l k
    refine ⟨?_, ?_, ?_, ?_⟩
    · intro y0 y1 y2 y3 y4 y5 y6
      unfold shapesearchlaw14_WarpMoves.l0
      repeat' first
      | (with_reducible exact ih0 _ _ _ _ _ _ _)
      | (with_reducible exact ih1 _ _ _ _ _ _ _ _)
      | (with_reducible exact ih2 _ _ _ _ _ _ _ _)
      | (with_reducible exact ih3 _ _ _ _ _ _ _ _ _)
      | (with_reducible exact shapesearchkeep_Src_Uneven.mono _ _ _)
      | (with_reducible exact shapesearchlaw14_awake.mono _)
      | (with_reducible exact warp_Distance.mono _ _ _ _)
      | (with_reducible exact LeO.refl _)
      | (with_reducible exact LeO.none _)
      | (with_reducible refine LeO.ite ?_ ?_)
      | (with_reducible refine LeO.bind ?_ (fun _ => ?_))
      | exact ih0 _ _ _ _ _ _ _
      | exact ih1 _ _ _ _ _ _ _ _
      | exact ih2 _ _ _ _ _ _ _ _
      | exact ih3 _ _ _ _ _ _ _ _ _
      | exact shapesearchkeep_Src_Uneven.mono _ _ _
      | exact shapesearchlaw14_awake.mono _
      | exact warp_Distance.mono _ _ _ _
      | exact LeO.none _
      | refine LeO.ite ?_ ?_
      | refine LeO.bind ?_ (fun _ => ?_)
    · intro y0 y1 y2 y3 y4 y5 y6 y7
      unfold shapesearchlaw14_WarpMoves.l1
      repeat' first
      | (with_reducible exact ih0 _ _ _ _ _ _ _)
      | (with_reducible exact ih1 _ _ _ _ _ _ _ _)
      | (with_reducible exact ih2 _ _ _ _ _ _ _ _)
      | (with_reducible exact ih3 _ _ _ _ _ _ _ _ _)
      | (with_reducible exact shapesearchkeep_Src_Uneven.mono _ _ _)
      | (with_reducible exact shapesearchlaw14_awake.mono _)
      | (with_reducible exact warp_Distance.mono _ _ _ _)
      | (with_reducible exact LeO.refl _)
      | (with_reducible exact LeO.none _)
      | (with_reducible refine LeO.ite ?_ ?_)
      | (with_reducible refine LeO.bind ?_ (fun _ => ?_))
      | exact ih0 _ _ _ _ _ _ _
      | exact ih1 _ _ _ _ _ _ _ _
      | exact ih2 _ _ _ _ _ _ _ _
      | exact ih3 _ _ _ _ _ _ _ _ _
      | exact shapesearchkeep_Src_Uneven.mono _ _ _
      | exact shapesearchlaw14_awake.mono _
      | exact warp_Distance.mono _ _ _ _
      | exact LeO.none _
      | refine LeO.ite ?_ ?_
      | refine LeO.bind ?_ (fun _ => ?_)
    · intro y0 y1 y2 y3 y4 y5 y6 y7
      unfold shapesearchlaw14_WarpMoves.l2
      repeat' first
      | (with_reducible exact ih0 _ _ _ _ _ _ _)
      | (with_reducible exact ih1 _ _ _ _ _ _ _ _)
      | (with_reducible exact ih2 _ _ _ _ _ _ _ _)
      | (with_reducible exact ih3 _ _ _ _ _ _ _ _ _)
      | (with_reducible exact shapesearchkeep_Src_Uneven.mono _ _ _)
      | (with_reducible exact shapesearchlaw14_awake.mono _)
      | (with_reducible exact warp_Distance.mono _ _ _ _)
      | (with_reducible exact LeO.refl _)
      | (with_reducible exact LeO.none _)
      | (with_reducible refine LeO.ite ?_ ?_)
      | (with_reducible refine LeO.bind ?_ (fun _ => ?_))
      | exact ih0 _ _ _ _ _ _ _
      | exact ih1 _ _ _ _ _ _ _ _
      | exact ih2 _ _ _ _ _ _ _ _
      | exact ih3 _ _ _ _ _ _ _ _ _
      | exact shapesearchkeep_Src_Uneven.mono _ _ _
      | exact shapesearchlaw14_awake.mono _
      | exact warp_Distance.mono _ _ _ _
      | exact LeO.none _
      | refine LeO.ite ?_ ?_
      | refine LeO.bind ?_ (fun _ => ?_)
    · intro y0 y1 y2 y3 y4 y5 y6 y7 y8
      unfold shapesearchlaw14_WarpMoves.l3
      repeat' first
      | (with_reducible exact ih0 _ _ _ _ _ _ _)
      | (with_reducible exact ih1 _ _ _ _ _ _ _ _)
      | (with_reducible exact ih2 _ _ _ _ _ _ _ _)
      | (with_reducible exact ih3 _ _ _ _ _ _ _ _ _)
      | (with_reducible exact shapesearchkeep_Src_Uneven.mono _ _ _)
      | (with_reducible exact shapesearchlaw14_awake.mono _)
      | (with_reducible exact warp_Distance.mono _ _ _ _)
      | (with_reducible exact LeO.refl _)
      | (with_reducible exact LeO.none _)
      | (with_reducible refine LeO.ite ?_ ?_)
      | (with_reducible refine LeO.bind ?_ (fun _ => ?_))
      | exact ih0 _ _ _ _ _ _ _
      | exact ih1 _ _ _ _ _ _ _ _
      | exact ih2 _ _ _ _ _ _ _ _
      | exact ih3 _ _ _ _ _ _ _ _ _
      | exact shapesearchkeep_Src_Uneven.mono _ _ _
      | exact shapesearchlaw14_awake.mono _
      | exact warp_Distance.mono _ _ _ _
      | exact LeO.none _
      | refine LeO.ite ?_ ?_
      | refine LeO.bind ?_ (fun _ => ?_)
theorem shapesearchlaw14_WarpMoves.mono : ∀ a0 a1 k, LeO (shapesearchlaw14_WarpMoves.f k a0 a1) (shapesearchlaw14_WarpMoves.f (k + 1) a0 a1) := by
  intro a0 a1 k
  obtain ⟨ih0, ih1, ih2, ih3⟩ := shapesearchlaw14_WarpMoves.mono_l k
  unfold shapesearchlaw14_WarpMoves.f
  repeat' first
      | (with_reducible exact ih0 _ _ _ _ _ _ _)
      | (with_reducible exact ih1 _ _ _ _ _ _ _ _)
      | (with_reducible exact ih2 _ _ _ _ _ _ _ _)
      | (with_reducible exact ih3 _ _ _ _ _ _ _ _ _)
      | (with_reducible exact shapesearchkeep_Src_Uneven.mono _ _ _)
      | (with_reducible exact shapesearchlaw14_awake.mono _)
      | (with_reducible exact warp_Distance.mono _ _ _ _)
      | (with_reducible exact LeO.refl _)
      | (with_reducible exact LeO.none _)
      | (with_reducible refine LeO.ite ?_ ?_)
      | (with_reducible refine LeO.bind ?_ (fun _ => ?_))
      | exact ih0 _ _ _ _ _ _ _
      | exact ih1 _ _ _ _ _ _ _ _
      | exact ih2 _ _ _ _ _ _ _ _
      | exact ih3 _ _ _ _ _ _ _ _ _
      | exact shapesearchkeep_Src_Uneven.mono _ _ _
      | exact shapesearchlaw14_awake.mono _
      | exact warp_Distance.mono _ _ _ _
      | exact LeO.none _
      | refine LeO.ite ?_ ?_
      | refine LeO.bind ?_ (fun _ => ?_)
set_option maxHeartbeats 8000000 in
set_option maxRecDepth 100000 in
theorem shapesearchlaw14_WarpMoves.calls (k : Nat) (A0 : Option Addr) (c0 : Nat) (l0 : List Int) (a1 : Int) (r : Bool) (w : World) (hr0 : Kd.C (Kd.int .i64) w A0 l0.length l0) (hc0 : l0.length ≤ c0) (h : shapesearchlaw14_WarpMoves.f k l0 a1 = some r) :
    Calls Try.prog 5 #[.slice A0 l0.length c0, .int .i8 a1] w fun e w' => e = .returned (.bool r) ∧ Below w.heap.size w w' := by
 have HR0 := Aside0.mk hr0
 have HC0 := Aside0.mk hc0
 clear hr0 hc0
 have HB := Aside0.mk (Below.refl w.heap.size w)
 have H : ((shapesearchkeep_New.f l0).bind fun bt339 => ((shapesearchkeep_Src_Uneven.f k bt339.1 bt339.2).bind fun bt342 => (shapesearchlaw14_WarpMoves.l0 k a1 bt342.1 bt342.2.1 bt342.2.2.1 ([] : List Int) (bt342.1.length : Int) 0))) = some r := h
 clear h
 replace H := Option.bind_eq_some_iff.mp H
 obtain ⟨⟨t339, t340⟩, A30, H⟩ := H
 replace H : ((shapesearchkeep_Src_Uneven.f k t339 t340).bind fun bt342 => (shapesearchlaw14_WarpMoves.l0 k a1 bt342.1 bt342.2.1 bt342.2.2.1 ([] : List Int) (bt342.1.length : Int) 0)) = some r := H
 have A3 := Aside0.mk A30
 clear A30
 replace H := Option.bind_eq_some_iff.mp H
 obtain ⟨⟨t342, t345, t348, t349⟩, A40, H⟩ := H
 replace H : (shapesearchlaw14_WarpMoves.l0 k a1 t342 t345 t348 ([] : List Int) (t342.length : Int) 0) = some r := H
 have A4 := Aside0.mk A40
 clear A40
 have H' := Aside0.mk H
 clear H
 go_enter Try.func5, Try.ntmps5
 go_wp2_with (first | ((with_reducible refine gate_callee (f := 10) rfl ?_); refine goesL_ (some 24) rfl rfl Try.func10 (by kernel_rfl) rfl #[.slice A0 l0.length c0] rfl (by (try simp only [List.map_toArray, List.map_cons, List.map_nil]); first | done | rfl | (simp only [List.length_drop, List.length_take]; rfl)) ?_; (with_reducible refine (shapesearchkeep_New.calls _ _ l0 t339 t340 w _ ?side1 ?side2 ?side3 A3.out).mono ?_); (case side1 => repeat (first | (with_reducible first | exact HB.out | apply below_alloc | apply pw_below_drewN | apply below_drew1) | exact HB.out)); (case side2 => exact HR0.out); (case side3 => exact HC0.out); rintro e w5 ⟨g341, rfl, hi, hb, hb2⟩; refine ⟨_, rfl, ?_⟩; have n0_ := Aside0.mk (hb); have n1_ := Aside0.mk (hi); clear HB; have HB := n0_; have HI341 := n1_; clear n0_ n1_; (try clear hb); (try clear hb2); (try clear hk); (try clear hi)) | ((with_reducible refine gate_callee (f := 11) rfl ?_); refine goesL_ (some 25) rfl rfl Try.func11 (by kernel_rfl) rfl #[.pointer (some ⟨g341, 0, none⟩)] rfl (by (try simp only [List.map_toArray, List.map_cons, List.map_nil]); first | done | rfl | (simp only [List.length_drop, List.length_take]; rfl)) ?_; (with_reducible refine (shapesearchkeep_Src_Uneven.calls k g341 t339 t340 t342 t345 t348 t349 w _ ?side1 ?side2 A4.out).mono ?_); (case side1 => repeat (first | (with_reducible first | exact HI341.out | apply IsS59.alloc | apply IsS59.drewN | apply IsS59.drew | apply IsS59.set_1) | exact HI341.out)); (case side2 => repeat (first | (with_reducible first | exact HB.out | apply below_alloc | apply pw_below_drewN | apply below_drew1 | refine below_set ?_ (IsS59.ge HI341.out)) | exact HB.out)); rintro e w6 ⟨v343, v346, rfl, ho0, ho1, hi, hb, hk⟩; refine ⟨_, rfl, ?_⟩; have n0_ := Aside0.mk (Kd.R_lower ho0 (below_size (by repeat (first | (with_reducible first | exact HB.out | apply below_alloc | apply pw_below_drewN | apply below_drew1 | refine below_set ?_ (IsS59.ge HI341.out)) | exact HB.out)))); have n1_ := Aside0.mk (Kd.R_lower ho1 (below_size (by repeat (first | (with_reducible first | exact HB.out | apply below_alloc | apply pw_below_drewN | apply below_drew1 | refine below_set ?_ (IsS59.ge HI341.out)) | exact HB.out)))); have n2_ := Aside0.mk (hb); have n3_ := Aside0.mk (hi); clear HB; clear HI341; have HO344 := n0_; have HO347 := n1_; have HB := n2_; have HI341 := n3_; clear n0_ n1_ n2_ n3_; (try clear hb); (try clear hb2); (try clear hk); (try clear hi); (try clear ho0); (try clear ho1); obtain ⟨Ao7, co7, eo7⟩ := Kd.R_slice HO344.out; subst eo7))
 go_loopg [8, 31] k (fun kq v8 v31 w' => ∃ (x5_1 : List Int) (x8_1 : List Int) (x31_1 : Int), v31 = .int .i64 x31_1 ∧ Aside0 (shapesearchlaw14_WarpMoves.l0 kq a1 x5_1 t345 t348 x8_1 (t342.length : Int) x31_1 = some r) ∧ Aside0 (kq ≤ k) ∧ Aside0 (Kd.R (Kd.int .i64) 3 w' w.heap.size (fun k_ => some k_ ≠ (v346 : Value).ownBlock ∧ some k_ ≠ (v8 : Value).ownBlock) (.slice Ao7 t342.length co7) x5_1) ∧ Aside0 (Kd.R (Kd.int .i64) 3 w' w.heap.size (fun k_ => some k_ ≠ ((.slice Ao7 t342.length co7) : Value).ownBlock ∧ some k_ ≠ (v8 : Value).ownBlock) v346 t345) ∧ Aside0 (Kd.R (Kd.int .i64) 3 w' w.heap.size (fun k_ => some k_ ≠ ((.slice Ao7 t342.length co7) : Value).ownBlock ∧ some k_ ≠ (v346 : Value).ownBlock) v8 x8_1) ∧ Aside0 (Below w.heap.size w w'))
 case atStart => exact ⟨(t342), (([] : List Int)), (0), (by first | rfl | (simp; done) | (simp [*]; done)), H', ⟨Nat.le_refl _⟩, ⟨by (with_reducible repeat (first | apply Kd.R_alloc | apply Kd.R_drewN | apply Kd.R_drew)); exact Kd.R_mono HO344.out (fun _ hk => ⟨hk, (by simp [Value.ownBlock])⟩)⟩, ⟨by (with_reducible repeat (first | apply Kd.R_alloc | apply Kd.R_drewN | apply Kd.R_drew)); exact Kd.R_mono HO347.out (fun _ hk => ⟨hk, (by simp [Value.ownBlock])⟩)⟩, ⟨by first | exact Kd.R_nil _ _ _ _ _ | exact Kd.N_nil _ _ _ _ _ | exact Kd.V_nil _ _ _ _ _ | exact Kd.Q_nil _ _ _ _ _ | exact Kd.S_nil _ _ _ _ _⟩, ⟨by repeat (first | (with_reducible first | exact HB.out | apply below_alloc | apply pw_below_drewN | apply below_drew1 | refine below_set ?_ (IsS59.ge HI341.out)) | exact HB.out)⟩⟩
 case round =>
  clear H'
  try clear c1
  try clear p2
  try clear c5
  obtain ⟨x5_1, x8_1, x31_1, rfl, HA, HK1, HO_5, HO_6, HO_8, HB⟩ := hrel
  have hl5_1 := (Kd.R_reads' HO_5.out).1
  rw [hl5_1] at HO_5
  (try simp only [hl5_1])
  (try simp only [hl5_1] at HO_6)
  (try simp only [hl5_1] at HO_8)
  cases gk with
  | zero => exact absurd HA.out (by simp [shapesearchlaw14_WarpMoves.l0])
  | succ k1 =>
   have H := HA.out
   clear HA
   simp only [shapesearchlaw14_WarpMoves.l0] at H
   by_cases c8 : x31_1 < (t342.length : Int)
   ·rw [if_pos c8] at H
    have c8b0 : decide (x31_1 < (t342.length : Int)) = true := decide_eq_true c8
    (try (have c8b0h := c8b0; simp only [hl5_1] at c8b0h))
    clear c8
    by_cases c9 : 0 ≤ x31_1
    ·rw [if_pos c9] at H
     have c9b0 : decide (0 ≤ x31_1) = true := decide_eq_true c9
     clear c9
     by_cases c10 : x31_1 < (x5_1.length : Int)
     ·rw [if_pos c10] at H
      have c10b0 : decide (x31_1 < (x5_1.length : Int)) = true := decide_eq_true c10
      (try (have c10b0h := c10b0; simp only [hl5_1] at c10b0h))
      clear c10
      obtain ⟨y351, hy351⟩ : ∃ y_ : List Int, y_ = (x5_1.set (x31_1 : Int).toNat (wrap64 (Int.tdiv (wrap64 ((rd x5_1 x31_1) * 4)) 5))) := ⟨_, rfl⟩
      replace H : (if x8_1.length < 17592186044416 then (shapesearchlaw14_WarpMoves.l0 k1 a1 y351 t345 t348 (x8_1 ++ [wrap64 ((rd y351 x31_1) + (wrap64 (a1)))]) (t342.length : Int) (wrap64 (x31_1 + 1))) else (none)) = some r := by first | (rw [hy351]; with_reducible exact H) | (have H2_ := (Option.bind_some _ _).symm.trans H; rw [hy351]; with_reducible exact H2_) | (have H2_ := (Option.bind_some _ _).symm.trans H; with_reducible exact H2_) | with_reducible exact H | (rw [hy351]; exact H) | exact H
      have Ny351 := Aside0.mk hy351
      clear hy351
      by_cases c12 : x8_1.length < 17592186044416
      ·rw [if_pos c12] at H
       have LMc12 := Aside0.mk c12
       clear c12
       obtain ⟨y353, hy353⟩ : ∃ y_ : List Int, y_ = (x8_1 ++ [wrap64 ((rd y351 x31_1) + (wrap64 (a1)))]) := ⟨_, rfl⟩
       replace H : (shapesearchlaw14_WarpMoves.l0 k1 a1 y351 t345 t348 y353 (t342.length : Int) (wrap64 (x31_1 + 1))) = some r := by first | (rw [hy353]; with_reducible exact H) | (have H2_ := (Option.bind_some _ _).symm.trans H; rw [hy353]; with_reducible exact H2_) | (have H2_ := (Option.bind_some _ _).symm.trans H; with_reducible exact H2_) | with_reducible exact H | (rw [hy353]; exact H) | exact H
       have Ny353 := Aside0.mk hy353
       clear hy353
       have H' := Aside0.mk H
       clear H
       have p350 : 0 ≤ (x31_1 : Int) := of_decide_eq_true (by first | (with_reducible assumption) | assumption)
       have q350 : x31_1 < (x5_1.length : Int) := of_decide_eq_true (by first | (with_reducible assumption) | assumption)
       obtain ⟨ad350, e350, hx350_0⟩ := Kd.at_int (Kd.R_reads' HO_5.out).2.2 x31_1 p350 q350
       cases e350
       replace p350 := eq_true p350
       replace q350 := eq_true q350
       have p11 : 0 ≤ (x31_1 : Int) := of_decide_eq_true (by first | (with_reducible assumption) | assumption)
       have q11 : (x31_1 : Int) < ((x5_1.length : Int) : Int) := of_decide_eq_true (by first | (with_reducible assumption) | assumption)
       obtain ⟨go11, co11, eo11, gb11, gl11, cl11, HG11⟩ := Kd.R_form HO_5.out (by omega)
       (first | cases eo11 | (injection eo11 with ea_ en_ ec_; (first | subst ea_ | (injection ea_ with ea_; subst ea_)); subst ec_; clear en_))
       have GB11 := Aside0.mk gb11
       have GG11 := Aside0.mk HG11
       clear gb11 gl11 HG11
       (first | simp only [add_plain] at hx350_0 | skip)
       obtain ⟨hx11_0, hf11_0⟩ := Kd.R_celln 0 HO_5.out (x31_1 : Int) p11 q11
       replace p11 := eq_true p11
       replace q11 := eq_true q11
       have HP13 := Kd.R_putg HO_5.out (x31_1 : Int) (wrap64 (Int.tdiv (wrap64 ((rd x5_1 x31_1) * 4)) 5))
       go_wp2_with (first | ((with_reducible refine gate_store (t := 3) (p := 42) rfl ?_); refine store_event (t := 3) (p := 42) (v := ?vo_w14) (w1 := (wr.setCell ⟨go11, (x31_1 : Int).toNat, none⟩ (.int .i64 (wrap64 (Int.tdiv (wrap64 ((rd x5_1 x31_1) * 4)) 5))))) ?hg ?ho ?hn ?hr ?_; (case ho => rfl); (case hg => rfl); (case hn => rfl); (case hr => first | (go_simp; done) | (go_simp; rfl)); intro w14 hw; have hg : wr.grownBy w14 (some go11) := (by rw [hw]; exact HP13.2); have hp_ : Kd.R (Kd.int .i64) 3 w14 w.heap.size (fun k_ => some k_ ≠ (v346 : Value).ownBlock ∧ some k_ ≠ (u8 : Value).ownBlock) (.slice (some ⟨go11, 0, none⟩) x5_1.length co7) y351 := (by rw [hw, Ny351.out]; exact HP13.1); clear HP13; have n0_ := Aside0.mk (hp_); have n1_ := Aside0.mk (Kd.R_after (v := (.slice (some ⟨go11, 0, none⟩) x5_1.length co7)) (v1 := (.slice (some ⟨go11, 0, none⟩) x5_1.length co7)) (ok := (fun k_ => some k_ ≠ (u8 : Value).ownBlock)) (by (with_reducible repeat (first | apply Kd.R_alloc | apply Kd.R_drewN | apply Kd.R_drew)); exact Kd.R_mono HO_6.out (fun _ hk => ⟨hk.2, hk.1⟩)) hg (.inl rfl)); have n2_ := Aside0.mk (Kd.R_after (v := (.slice (some ⟨go11, 0, none⟩) x5_1.length co7)) (v1 := (.slice (some ⟨go11, 0, none⟩) x5_1.length co7)) (ok := (fun k_ => some k_ ≠ (v346 : Value).ownBlock)) (by (with_reducible repeat (first | apply Kd.R_alloc | apply Kd.R_drewN | apply Kd.R_drew)); exact Kd.R_mono HO_8.out (fun _ hk => ⟨hk.2, hk.1⟩)) hg (.inl rfl)); have n3_ := Aside0.mk ((by rw [hw]; exact below_set (HB.out) GB11.out : Below w.heap.size w w14)); clear HO_5; clear HO_6; clear HO_8; clear HB; have HO_5 := n0_; have HO_6 := n1_; have HO_8 := n2_; have HB := n3_; clear n0_ n1_ n2_ n3_; clear hg hw hp_; have p352 : 0 ≤ (x31_1 : Int) := of_decide_eq_true (by first | (with_reducible assumption) | assumption); have q352 : x31_1 < (y351.length : Int) := (by have h_ : (x31_1 : Int) < ((x5_1.length : Int) : Int) := of_decide_eq_true (by first | (with_reducible assumption) | assumption); first | (have e_ := (Kd.R_reads' HO_5.out).1; omega) | simpa only [Ny351.out, List.length_set] using h_); have ql352 : ((x31_1 : Int) < ((x5_1.length : Int) : Int)) = True := eq_true (of_decide_eq_true (by first | (with_reducible assumption) | assumption)); obtain ⟨ad352, e352, hx352_0⟩ := Kd.at_int (Kd.R_reads' HO_5.out).2.2 x31_1 p352 q352; obtain rfl : (⟨go11, 0, none⟩ : Addr) = ad352 := (by injection e352); (first | simp only [add_plain] at hx352_0 | simp only [add_at] at hx352_0 | simp only [Addr.add, Nat.zero_add] at hx352_0 | skip); replace p352 := eq_true p352; replace q352 := eq_true q352) | ((with_reducible refine gate_builtin (b := .append) (xs := #[.tmp 43, .tmp 51]) rfl ?_); (try (refine gate_guard (by rfl) ?_; dsimp only)); at_builtin; refine Kd.R_append (Kd.int .i64) (w0 := w) w.heap.size rfl (.tmp 43) (.tmp 51) 22 3 (.int .i64 0) 8 rfl Try.underlying22 info3 rfl (by decide) (by omega) u8 x8_1 (wrap64 ((rd y351 x31_1) + (wrap64 (a1)))) [.int .i64 (wrap64 ((rd y351 x31_1) + (wrap64 (a1))))] (fun k_ => some k_ ≠ (.slice (some ⟨go11, 0, none⟩) x5_1.length co7 : Value).ownBlock ∧ some k_ ≠ (v346 : Value).ownBlock) (fun _ => False) rfl rfl ?aP (fun _ hk => hk.elim) ?aF ?aO ?aB ?aS ?aL ?_; (case aP => exact rfl); (case aB => exact (by repeat (first | (with_reducible first | exact HB.out | apply below_alloc | apply pw_below_drewN | apply below_drew1) | exact HB.out))); (case aF => exact (fun k_ hk => ⟨Kd.fresh' (Kd.R_lt (by (with_reducible repeat (first | apply Kd.R_alloc | apply Kd.R_drewN | apply Kd.R_drew)); exact HO_5.out)) k_ hk, Kd.fresh' (Kd.R_lt (by (with_reducible repeat (first | apply Kd.R_alloc | apply Kd.R_drewN | apply Kd.R_drew)); exact HO_6.out)) k_ hk⟩)); (case aO => exact (by (with_reducible repeat (first | apply Kd.R_alloc | apply Kd.R_drewN | apply Kd.R_drew)); exact Kd.R_mono HO_8.out (fun _ hk => ⟨hk.2, hk.1⟩))); (case aS => exact (below_size (by repeat (first | (with_reducible first | exact HB.out | apply below_alloc | apply pw_below_drewN | apply below_drew1) | exact HB.out)))); (case aL => have := LMc12.out; omega); intro v354 w15 ho hb hg hat; rw [← Ny353.out] at ho; have n0_ := Aside0.mk (Kd.R_after (ok := (fun k_ => some k_ ≠ (v346 : Value).ownBlock)) (by (with_reducible repeat (first | apply Kd.R_alloc | apply Kd.R_drewN | apply Kd.R_drew)); exact HO_5.out) hg hat); have n1_ := Aside0.mk (Kd.R_after (ok := (fun k_ => some k_ ≠ (.slice (some ⟨go11, 0, none⟩) x5_1.length co7 : Value).ownBlock)) (by (with_reducible repeat (first | apply Kd.R_alloc | apply Kd.R_drewN | apply Kd.R_drew)); exact Kd.R_mono HO_6.out (fun _ hk => ⟨hk.2, hk.1⟩)) hg hat); have n2_ := Aside0.mk (hb); have n3_ := Aside0.mk (ho); clear HO_5; clear HO_6; clear HB; clear HO_8; have HO_5 := n0_; have HO_6 := n1_; have HB := n2_; have HO355 := n3_; clear n0_ n1_ n2_ n3_; clear ho hb hg hat))
       (try simp only [← hl5_1])
       go_roundg k1
       case measure => have := HK1.out; omega
       case rel => exact ⟨(y351), (y353), (wrap64 (x31_1 + 1)), (by first | rfl | (simp; done) | (simp [*]; done)), H', ⟨by have := HK1.out; omega⟩, ⟨by (try simp only [hl5_1]); (with_reducible repeat (first | apply Kd.R_alloc | apply Kd.R_drewN | apply Kd.R_drew)); exact HO_5.out⟩, ⟨by (try simp only [hl5_1]); (with_reducible repeat (first | apply Kd.R_alloc | apply Kd.R_drewN | apply Kd.R_drew)); exact HO_6.out⟩, ⟨by (try simp only [hl5_1]); (with_reducible repeat (first | apply Kd.R_alloc | apply Kd.R_drewN | apply Kd.R_drew)); exact HO355.out⟩, ⟨by repeat (first | (with_reducible first | exact HB.out | apply below_alloc | apply pw_below_drewN | apply below_drew1) | exact HB.out)⟩⟩
      ·rw [if_neg c12] at H
       exact absurd H (by simp)
     ·rw [if_neg c10] at H
      exact absurd H (by simp)
    ·rw [if_neg c9] at H
     exact absurd H (by simp)
   ·rw [if_neg c8] at H
    have c8b0 : decide (x31_1 < (t342.length : Int)) = false := decide_eq_false c8
    (try (have c8b0h := c8b0; simp only [hl5_1] at c8b0h))
    clear c8
    have H' := Aside0.mk H
    clear H
    obtain ⟨Ao16, co16, eo16⟩ := Kd.R_slice HO_6.out
    subst eo16
    go_wp2
    go_loopg [9, 56] k1 (fun kq v9 v56 w' => ∃ (x6_2 : List Int) (x9_2 : List Int) (x56_2 : Int), v56 = .int .i64 x56_2 ∧ Aside0 (shapesearchlaw14_WarpMoves.l1 kq a1 x5_1 x6_2 t348 x8_1 x9_2 (t345.length : Int) x56_2 = some r) ∧ Aside0 (kq ≤ k1) ∧ Aside0 (Kd.R (Kd.int .i64) 3 w' w.heap.size (fun k_ => some k_ ≠ ((.slice Ao16 t345.length co16) : Value).ownBlock ∧ some k_ ≠ (u8 : Value).ownBlock ∧ some k_ ≠ (v9 : Value).ownBlock) (.slice Ao7 x5_1.length co7) x5_1) ∧ Aside0 (Kd.R (Kd.int .i64) 3 w' w.heap.size (fun k_ => some k_ ≠ ((.slice Ao7 x5_1.length co7) : Value).ownBlock ∧ some k_ ≠ (u8 : Value).ownBlock ∧ some k_ ≠ (v9 : Value).ownBlock) (.slice Ao16 t345.length co16) x6_2) ∧ Aside0 (Kd.R (Kd.int .i64) 3 w' w.heap.size (fun k_ => some k_ ≠ ((.slice Ao7 x5_1.length co7) : Value).ownBlock ∧ some k_ ≠ ((.slice Ao16 t345.length co16) : Value).ownBlock ∧ some k_ ≠ (v9 : Value).ownBlock) u8 x8_1) ∧ Aside0 (Kd.R (Kd.int .i64) 3 w' w.heap.size (fun k_ => some k_ ≠ ((.slice Ao7 x5_1.length co7) : Value).ownBlock ∧ some k_ ≠ ((.slice Ao16 t345.length co16) : Value).ownBlock ∧ some k_ ≠ (u8 : Value).ownBlock) v9 x9_2) ∧ Aside0 (Below w.heap.size w w'))
    case atStart => exact ⟨(t345), (([] : List Int)), (0), (by first | rfl | (simp; done) | (simp [*]; done)), H', ⟨Nat.le_refl _⟩, ⟨by (try simp only [hl5_1]); (with_reducible repeat (first | apply Kd.R_alloc | apply Kd.R_drewN | apply Kd.R_drew)); exact Kd.R_mono HO_5.out (fun _ hk => ⟨hk.1, ⟨hk.2, (by simp [Value.ownBlock])⟩⟩)⟩, ⟨by (try simp only [hl5_1]); (with_reducible repeat (first | apply Kd.R_alloc | apply Kd.R_drewN | apply Kd.R_drew)); exact Kd.R_mono HO_6.out (fun _ hk => ⟨hk.1, ⟨hk.2, (by simp [Value.ownBlock])⟩⟩)⟩, ⟨by (try simp only [hl5_1]); (with_reducible repeat (first | apply Kd.R_alloc | apply Kd.R_drewN | apply Kd.R_drew)); exact Kd.R_mono HO_8.out (fun _ hk => ⟨hk.1, ⟨hk.2, (by simp [Value.ownBlock])⟩⟩)⟩, ⟨by (try simp only [hl5_1]); first | exact Kd.R_nil _ _ _ _ _ | exact Kd.N_nil _ _ _ _ _ | exact Kd.V_nil _ _ _ _ _ | exact Kd.Q_nil _ _ _ _ _ | exact Kd.S_nil _ _ _ _ _⟩, ⟨by repeat (first | (with_reducible first | exact HB.out | apply below_alloc | apply pw_below_drewN | apply below_drew1) | exact HB.out)⟩⟩
    case round =>
     clear H'
     try clear c1
     try clear p1
     try clear q1
     try clear hx1
     try clear p2
     try clear p3
     try clear q3
     try clear hx3
     try clear c5
     try clear p6
     try clear c8
     try clear c8b0
     try clear c9
     try clear c9b0
     try clear c10
     try clear c10b0
     try clear c11
     try clear p11
     try clear q11
     try clear hx11
     try clear hf11
     try clear c12
     try clear hx11_0
     try clear hx350_0
     try clear hx352_0
     try clear p11
     try clear p2
     try clear p350
     try clear p352
     try clear q11
     try clear q350
     try clear q352
     obtain ⟨x6_2, x9_2, x56_2, rfl, HA, HK2, HO_5, HO_6, HO_8, HO_9, HB⟩ := hrel
     have hl6_2 := (Kd.R_reads' HO_6.out).1
     rw [hl6_2] at HO_6
     (try simp only [hl6_2])
     (try simp only [hl6_2] at HO_5)
     (try simp only [hl6_2] at HO_8)
     (try simp only [hl6_2] at HO_9)
     cases gk with
     | zero => exact absurd HA.out (by simp [shapesearchlaw14_WarpMoves.l1])
     | succ k2 =>
      have H := HA.out
      clear HA
      simp only [shapesearchlaw14_WarpMoves.l1] at H
      by_cases c17 : x56_2 < (t345.length : Int)
      ·rw [if_pos c17] at H
       have c17b0 : decide (x56_2 < (t345.length : Int)) = true := decide_eq_true c17
       (try (have c17b0h := c17b0; simp only [hl5_1, hl6_2] at c17b0h))
       clear c17
       by_cases c18 : 0 ≤ x56_2
       ·rw [if_pos c18] at H
        have c18b0 : decide (0 ≤ x56_2) = true := decide_eq_true c18
        clear c18
        by_cases c19 : x56_2 < (x6_2.length : Int)
        ·rw [if_pos c19] at H
         have c19b0 : decide (x56_2 < (x6_2.length : Int)) = true := decide_eq_true c19
         (try (have c19b0h := c19b0; simp only [hl5_1, hl6_2] at c19b0h))
         clear c19
         obtain ⟨y357, hy357⟩ : ∃ y_ : List Int, y_ = (x6_2.set (x56_2 : Int).toNat (wrap64 (Int.tdiv (wrap64 ((rd x6_2 x56_2) * 4)) 5))) := ⟨_, rfl⟩
         replace H : (if x9_2.length < 17592186044416 then (shapesearchlaw14_WarpMoves.l1 k2 a1 x5_1 y357 t348 x8_1 (x9_2 ++ [wrap64 ((rd y357 x56_2) + (wrap64 (a1)))]) (t345.length : Int) (wrap64 (x56_2 + 1))) else (none)) = some r := by first | (rw [hy357]; with_reducible exact H) | (have H2_ := (Option.bind_some _ _).symm.trans H; rw [hy357]; with_reducible exact H2_) | (have H2_ := (Option.bind_some _ _).symm.trans H; with_reducible exact H2_) | with_reducible exact H | (rw [hy357]; exact H) | exact H
         have Ny357 := Aside0.mk hy357
         clear hy357
         by_cases c21 : x9_2.length < 17592186044416
         ·rw [if_pos c21] at H
          have LMc21 := Aside0.mk c21
          clear c21
          obtain ⟨y359, hy359⟩ : ∃ y_ : List Int, y_ = (x9_2 ++ [wrap64 ((rd y357 x56_2) + (wrap64 (a1)))]) := ⟨_, rfl⟩
          replace H : (shapesearchlaw14_WarpMoves.l1 k2 a1 x5_1 y357 t348 x8_1 y359 (t345.length : Int) (wrap64 (x56_2 + 1))) = some r := by first | (rw [hy359]; with_reducible exact H) | (have H2_ := (Option.bind_some _ _).symm.trans H; rw [hy359]; with_reducible exact H2_) | (have H2_ := (Option.bind_some _ _).symm.trans H; with_reducible exact H2_) | with_reducible exact H | (rw [hy359]; exact H) | exact H
          have Ny359 := Aside0.mk hy359
          clear hy359
          have H' := Aside0.mk H
          clear H
          have p356 : 0 ≤ (x56_2 : Int) := of_decide_eq_true (by first | (with_reducible assumption) | assumption)
          have q356 : x56_2 < (x6_2.length : Int) := of_decide_eq_true (by first | (with_reducible assumption) | assumption)
          obtain ⟨ad356, e356, hx356_0⟩ := Kd.at_int (Kd.R_reads' HO_6.out).2.2 x56_2 p356 q356
          cases e356
          replace p356 := eq_true p356
          replace q356 := eq_true q356
          have p20 : 0 ≤ (x56_2 : Int) := of_decide_eq_true (by first | (with_reducible assumption) | assumption)
          have q20 : (x56_2 : Int) < ((x6_2.length : Int) : Int) := of_decide_eq_true (by first | (with_reducible assumption) | assumption)
          obtain ⟨go20, co20, eo20, gb20, gl20, cl20, HG20⟩ := Kd.R_form HO_6.out (by omega)
          (first | cases eo20 | (injection eo20 with ea_ en_ ec_; (first | subst ea_ | (injection ea_ with ea_; subst ea_)); subst ec_; clear en_))
          have GB20 := Aside0.mk gb20
          have GG20 := Aside0.mk HG20
          clear gb20 gl20 HG20
          (first | simp only [add_plain] at hx356_0 | skip)
          obtain ⟨hx20_0, hf20_0⟩ := Kd.R_celln 0 HO_6.out (x56_2 : Int) p20 q20
          replace p20 := eq_true p20
          replace q20 := eq_true q20
          have HP22 := Kd.R_putg HO_6.out (x56_2 : Int) (wrap64 (Int.tdiv (wrap64 ((rd x6_2 x56_2) * 4)) 5))
          go_wp2_with (first | ((with_reducible refine gate_store (t := 3) (p := 67) rfl ?_); refine store_event (t := 3) (p := 67) (v := ?vo_w23) (w1 := (wr.setCell ⟨go20, (x56_2 : Int).toNat, none⟩ (.int .i64 (wrap64 (Int.tdiv (wrap64 ((rd x6_2 x56_2) * 4)) 5))))) ?hg ?ho ?hn ?hr ?_; (case ho => rfl); (case hg => rfl); (case hn => rfl); (case hr => first | (go_simp; done) | (go_simp; rfl)); intro w23 hw; have hg : wr.grownBy w23 (some go20) := (by rw [hw]; exact HP22.2); have hp_ : Kd.R (Kd.int .i64) 3 w23 w.heap.size (fun k_ => some k_ ≠ (.slice Ao7 x5_1.length co7 : Value).ownBlock ∧ some k_ ≠ (u8 : Value).ownBlock ∧ some k_ ≠ (u9 : Value).ownBlock) (.slice (some ⟨go20, 0, none⟩) x6_2.length co16) y357 := (by rw [hw, Ny357.out]; exact HP22.1); clear HP22; have n0_ := Aside0.mk (Kd.R_after (v := (.slice (some ⟨go20, 0, none⟩) x6_2.length co16)) (v1 := (.slice (some ⟨go20, 0, none⟩) x6_2.length co16)) (ok := (fun k_ => some k_ ≠ (u8 : Value).ownBlock ∧ some k_ ≠ (u9 : Value).ownBlock)) (by (with_reducible repeat (first | apply Kd.R_alloc | apply Kd.R_drewN | apply Kd.R_drew)); exact Kd.R_mono HO_5.out (fun _ hk => ⟨⟨hk.2.1, hk.2.2⟩, hk.1⟩)) hg (.inl rfl)); have n1_ := Aside0.mk (hp_); have n2_ := Aside0.mk (Kd.R_after (v := (.slice (some ⟨go20, 0, none⟩) x6_2.length co16)) (v1 := (.slice (some ⟨go20, 0, none⟩) x6_2.length co16)) (ok := (fun k_ => some k_ ≠ (.slice Ao7 x5_1.length co7 : Value).ownBlock ∧ some k_ ≠ (u9 : Value).ownBlock)) (by (with_reducible repeat (first | apply Kd.R_alloc | apply Kd.R_drewN | apply Kd.R_drew)); exact Kd.R_mono HO_8.out (fun _ hk => ⟨⟨hk.1, hk.2.2⟩, hk.2.1⟩)) hg (.inl rfl)); have n3_ := Aside0.mk (Kd.R_after (v := (.slice (some ⟨go20, 0, none⟩) x6_2.length co16)) (v1 := (.slice (some ⟨go20, 0, none⟩) x6_2.length co16)) (ok := (fun k_ => some k_ ≠ (.slice Ao7 x5_1.length co7 : Value).ownBlock ∧ some k_ ≠ (u8 : Value).ownBlock)) (by (with_reducible repeat (first | apply Kd.R_alloc | apply Kd.R_drewN | apply Kd.R_drew)); exact Kd.R_mono HO_9.out (fun _ hk => ⟨⟨hk.1, hk.2.2⟩, hk.2.1⟩)) hg (.inl rfl)); have n4_ := Aside0.mk ((by rw [hw]; exact below_set (HB.out) GB20.out : Below w.heap.size w w23)); clear HO_5; clear HO_6; clear HO_8; clear HO_9; clear HB; have HO_5 := n0_; have HO_6 := n1_; have HO_8 := n2_; have HO_9 := n3_; have HB := n4_; clear n0_ n1_ n2_ n3_ n4_; clear hg hw hp_; have p358 : 0 ≤ (x56_2 : Int) := of_decide_eq_true (by first | (with_reducible assumption) | assumption); have q358 : x56_2 < (y357.length : Int) := (by have h_ : (x56_2 : Int) < ((x6_2.length : Int) : Int) := of_decide_eq_true (by first | (with_reducible assumption) | assumption); first | (have e_ := (Kd.R_reads' HO_6.out).1; omega) | simpa only [Ny357.out, List.length_set] using h_); have ql358 : ((x56_2 : Int) < ((x6_2.length : Int) : Int)) = True := eq_true (of_decide_eq_true (by first | (with_reducible assumption) | assumption)); obtain ⟨ad358, e358, hx358_0⟩ := Kd.at_int (Kd.R_reads' HO_6.out).2.2 x56_2 p358 q358; obtain rfl : (⟨go20, 0, none⟩ : Addr) = ad358 := (by injection e358); (first | simp only [add_plain] at hx358_0 | simp only [add_at] at hx358_0 | simp only [Addr.add, Nat.zero_add] at hx358_0 | skip); replace p358 := eq_true p358; replace q358 := eq_true q358) | ((with_reducible refine gate_builtin (b := .append) (xs := #[.tmp 68, .tmp 76]) rfl ?_); (try (refine gate_guard (by rfl) ?_; dsimp only)); at_builtin; refine Kd.R_append (Kd.int .i64) (w0 := w) w.heap.size rfl (.tmp 68) (.tmp 76) 22 3 (.int .i64 0) 8 rfl Try.underlying22 info3 rfl (by decide) (by omega) u9 x9_2 (wrap64 ((rd y357 x56_2) + (wrap64 (a1)))) [.int .i64 (wrap64 ((rd y357 x56_2) + (wrap64 (a1))))] (fun k_ => some k_ ≠ (.slice Ao7 x5_1.length co7 : Value).ownBlock ∧ some k_ ≠ (.slice (some ⟨go20, 0, none⟩) x6_2.length co16 : Value).ownBlock ∧ some k_ ≠ (u8 : Value).ownBlock) (fun _ => False) rfl rfl ?aP (fun _ hk => hk.elim) ?aF ?aO ?aB ?aS ?aL ?_; (case aP => exact rfl); (case aB => exact (by repeat (first | (with_reducible first | exact HB.out | apply below_alloc | apply pw_below_drewN | apply below_drew1) | exact HB.out))); (case aF => exact (fun k_ hk => ⟨Kd.fresh' (Kd.R_lt (by (with_reducible repeat (first | apply Kd.R_alloc | apply Kd.R_drewN | apply Kd.R_drew)); exact HO_5.out)) k_ hk, Kd.fresh' (Kd.R_lt (by (with_reducible repeat (first | apply Kd.R_alloc | apply Kd.R_drewN | apply Kd.R_drew)); exact HO_6.out)) k_ hk, Kd.fresh' (Kd.R_lt (by (with_reducible repeat (first | apply Kd.R_alloc | apply Kd.R_drewN | apply Kd.R_drew)); exact HO_8.out)) k_ hk⟩)); (case aO => exact (by (with_reducible repeat (first | apply Kd.R_alloc | apply Kd.R_drewN | apply Kd.R_drew)); exact Kd.R_mono HO_9.out (fun _ hk => ⟨hk.1.1, ⟨hk.2, hk.1.2⟩⟩))); (case aS => exact (below_size (by repeat (first | (with_reducible first | exact HB.out | apply below_alloc | apply pw_below_drewN | apply below_drew1) | exact HB.out)))); (case aL => have := LMc21.out; omega); intro v360 w24 ho hb hg hat; rw [← Ny359.out] at ho; have n0_ := Aside0.mk (Kd.R_after (ok := (fun k_ => some k_ ≠ (.slice (some ⟨go20, 0, none⟩) x6_2.length co16 : Value).ownBlock ∧ some k_ ≠ (u8 : Value).ownBlock)) (by (with_reducible repeat (first | apply Kd.R_alloc | apply Kd.R_drewN | apply Kd.R_drew)); exact Kd.R_mono HO_5.out (fun _ hk => ⟨⟨hk.2, hk.1.1⟩, hk.1.2⟩)) hg hat); have n1_ := Aside0.mk (Kd.R_after (ok := (fun k_ => some k_ ≠ (.slice Ao7 x5_1.length co7 : Value).ownBlock ∧ some k_ ≠ (u8 : Value).ownBlock)) (by (with_reducible repeat (first | apply Kd.R_alloc | apply Kd.R_drewN | apply Kd.R_drew)); exact Kd.R_mono HO_6.out (fun _ hk => ⟨⟨hk.1, hk.2.1⟩, hk.2.2⟩)) hg hat); have n2_ := Aside0.mk (Kd.R_after (ok := (fun k_ => some k_ ≠ (.slice Ao7 x5_1.length co7 : Value).ownBlock ∧ some k_ ≠ (.slice (some ⟨go20, 0, none⟩) x6_2.length co16 : Value).ownBlock)) (by (with_reducible repeat (first | apply Kd.R_alloc | apply Kd.R_drewN | apply Kd.R_drew)); exact Kd.R_mono HO_8.out (fun _ hk => ⟨⟨hk.1.1, hk.2⟩, hk.1.2⟩)) hg hat); have n3_ := Aside0.mk (hb); have n4_ := Aside0.mk (ho); clear HO_5; clear HO_6; clear HO_8; clear HB; clear HO_9; have HO_5 := n0_; have HO_6 := n1_; have HO_8 := n2_; have HB := n3_; have HO361 := n4_; clear n0_ n1_ n2_ n3_ n4_; clear ho hb hg hat))
          (try simp only [← hl6_2])
          go_roundg k2
          case measure => have := HK1.out; have := HK2.out; omega
          case rel => exact ⟨(y357), (y359), (wrap64 (x56_2 + 1)), (by first | rfl | (simp; done) | (simp [*]; done)), H', ⟨by have := HK1.out; have := HK2.out; omega⟩, ⟨by (try simp only [hl5_1]); (try simp only [hl6_2]); (with_reducible repeat (first | apply Kd.R_alloc | apply Kd.R_drewN | apply Kd.R_drew)); exact Kd.R_mono HO_5.out (fun _ hk => ⟨hk.1.1, ⟨hk.1.2, hk.2⟩⟩)⟩, ⟨by (try simp only [hl5_1]); (try simp only [hl6_2]); (with_reducible repeat (first | apply Kd.R_alloc | apply Kd.R_drewN | apply Kd.R_drew)); exact Kd.R_mono HO_6.out (fun _ hk => ⟨hk.1.1, ⟨hk.1.2, hk.2⟩⟩)⟩, ⟨by (try simp only [hl5_1]); (try simp only [hl6_2]); (with_reducible repeat (first | apply Kd.R_alloc | apply Kd.R_drewN | apply Kd.R_drew)); exact Kd.R_mono HO_8.out (fun _ hk => ⟨hk.1.1, ⟨hk.1.2, hk.2⟩⟩)⟩, ⟨by (try simp only [hl5_1]); (try simp only [hl6_2]); (with_reducible repeat (first | apply Kd.R_alloc | apply Kd.R_drewN | apply Kd.R_drew)); exact HO361.out⟩, ⟨by repeat (first | (with_reducible first | exact HB.out | apply below_alloc | apply pw_below_drewN | apply below_drew1) | exact HB.out)⟩⟩
         ·rw [if_neg c21] at H
          exact absurd H (by simp)
        ·rw [if_neg c19] at H
         exact absurd H (by simp)
       ·rw [if_neg c18] at H
        exact absurd H (by simp)
      ·rw [if_neg c17] at H
       have c17b0 : decide (x56_2 < (t345.length : Int)) = false := decide_eq_false c17
       (try (have c17b0h := c17b0; simp only [hl5_1, hl6_2] at c17b0h))
       clear c17
       have H' := Aside0.mk H
       clear H
       go_wp2
       go_loopg [10, 81] k2 (fun kq v10 v81 w' => ∃ (x10_3 : List Int) (x81_3 : Int), v81 = .int .i64 x81_3 ∧ Aside0 (shapesearchlaw14_WarpMoves.l2 kq x5_1 x6_2 t348 x8_1 x9_2 x10_3 (x5_1.length : Int) x81_3 = some r) ∧ Aside0 (kq ≤ k2) ∧ Aside0 (Kd.R (Kd.int .i64) 3 w' w.heap.size (fun k_ => some k_ ≠ ((.slice Ao16 x6_2.length co16) : Value).ownBlock ∧ some k_ ≠ (u8 : Value).ownBlock ∧ some k_ ≠ (u9 : Value).ownBlock ∧ some k_ ≠ (v10 : Value).ownBlock) (.slice Ao7 x5_1.length co7) x5_1) ∧ Aside0 (Kd.R (Kd.int .i64) 3 w' w.heap.size (fun k_ => some k_ ≠ ((.slice Ao7 x5_1.length co7) : Value).ownBlock ∧ some k_ ≠ (u8 : Value).ownBlock ∧ some k_ ≠ (u9 : Value).ownBlock ∧ some k_ ≠ (v10 : Value).ownBlock) (.slice Ao16 x6_2.length co16) x6_2) ∧ Aside0 (Kd.R (Kd.int .i64) 3 w' w.heap.size (fun k_ => some k_ ≠ ((.slice Ao7 x5_1.length co7) : Value).ownBlock ∧ some k_ ≠ ((.slice Ao16 x6_2.length co16) : Value).ownBlock ∧ some k_ ≠ (u9 : Value).ownBlock ∧ some k_ ≠ (v10 : Value).ownBlock) u8 x8_1) ∧ Aside0 (Kd.R (Kd.int .i64) 3 w' w.heap.size (fun k_ => some k_ ≠ ((.slice Ao7 x5_1.length co7) : Value).ownBlock ∧ some k_ ≠ ((.slice Ao16 x6_2.length co16) : Value).ownBlock ∧ some k_ ≠ (u8 : Value).ownBlock ∧ some k_ ≠ (v10 : Value).ownBlock) u9 x9_2) ∧ Aside0 (Kd.R (Kd.int .i64) 3 w' w.heap.size (fun k_ => some k_ ≠ ((.slice Ao7 x5_1.length co7) : Value).ownBlock ∧ some k_ ≠ ((.slice Ao16 x6_2.length co16) : Value).ownBlock ∧ some k_ ≠ (u8 : Value).ownBlock ∧ some k_ ≠ (u9 : Value).ownBlock) v10 x10_3) ∧ Aside0 (Below w.heap.size w w'))
       case atStart => exact ⟨(([] : List Int)), (0), (by first | rfl | (simp; done) | (simp [*]; done)), H', ⟨Nat.le_refl _⟩, ⟨by (try simp only [hl5_1]); (try simp only [hl6_2]); (with_reducible repeat (first | apply Kd.R_alloc | apply Kd.R_drewN | apply Kd.R_drew)); exact Kd.R_mono HO_5.out (fun _ hk => ⟨hk.1, ⟨hk.2.1, ⟨hk.2.2, (by simp [Value.ownBlock])⟩⟩⟩)⟩, ⟨by (try simp only [hl5_1]); (try simp only [hl6_2]); (with_reducible repeat (first | apply Kd.R_alloc | apply Kd.R_drewN | apply Kd.R_drew)); exact Kd.R_mono HO_6.out (fun _ hk => ⟨hk.1, ⟨hk.2.1, ⟨hk.2.2, (by simp [Value.ownBlock])⟩⟩⟩)⟩, ⟨by (try simp only [hl5_1]); (try simp only [hl6_2]); (with_reducible repeat (first | apply Kd.R_alloc | apply Kd.R_drewN | apply Kd.R_drew)); exact Kd.R_mono HO_8.out (fun _ hk => ⟨hk.1, ⟨hk.2.1, ⟨hk.2.2, (by simp [Value.ownBlock])⟩⟩⟩)⟩, ⟨by (try simp only [hl5_1]); (try simp only [hl6_2]); (with_reducible repeat (first | apply Kd.R_alloc | apply Kd.R_drewN | apply Kd.R_drew)); exact Kd.R_mono HO_9.out (fun _ hk => ⟨hk.1, ⟨hk.2.1, ⟨hk.2.2, (by simp [Value.ownBlock])⟩⟩⟩)⟩, ⟨by (try simp only [hl5_1]); (try simp only [hl6_2]); first | exact Kd.R_nil _ _ _ _ _ | exact Kd.N_nil _ _ _ _ _ | exact Kd.V_nil _ _ _ _ _ | exact Kd.Q_nil _ _ _ _ _ | exact Kd.S_nil _ _ _ _ _⟩, ⟨by repeat (first | (with_reducible first | exact HB.out | apply below_alloc | apply pw_below_drewN | apply below_drew1) | exact HB.out)⟩⟩
       case round =>
        clear H'
        try clear c1
        try clear p1
        try clear q1
        try clear hx1
        try clear c2
        try clear p2
        try clear q2
        try clear hx2
        try clear hf2
        try clear p3
        try clear q3
        try clear hx3
        try clear c5
        try clear p6
        try clear c8
        try clear c8b0
        try clear c9
        try clear c9b0
        try clear c10
        try clear c10b0
        try clear c11
        try clear p11
        try clear q11
        try clear hx11
        try clear hf11
        try clear c12
        try clear c17
        try clear c17b0
        try clear c18
        try clear c18b0
        try clear c19
        try clear c19b0
        try clear p20
        try clear q20
        try clear hx20
        try clear hf20
        try clear c21
        try clear hx11_0
        try clear hx20_0
        try clear hx350_0
        try clear hx352_0
        try clear hx356_0
        try clear hx358_0
        try clear p1
        try clear p11
        try clear p2
        try clear p20
        try clear p3
        try clear p350
        try clear p352
        try clear p356
        try clear p358
        try clear p6
        try clear q1
        try clear q11
        try clear q20
        try clear q3
        try clear q350
        try clear q352
        try clear q356
        try clear q358
        obtain ⟨x10_3, x81_3, rfl, HA, HK3, HO_5, HO_6, HO_8, HO_9, HO_10, HB⟩ := hrel
        cases gk with
        | zero => exact absurd HA.out (by simp [shapesearchlaw14_WarpMoves.l2])
        | succ k3 =>
         have H := HA.out
         clear HA
         simp only [shapesearchlaw14_WarpMoves.l2] at H
         by_cases c25 : x81_3 < (x5_1.length : Int)
         ·rw [if_pos c25] at H
          have c25b0 : decide (x81_3 < (x5_1.length : Int)) = true := decide_eq_true c25
          (try (have c25b0h := c25b0; simp only [hl5_1, hl6_2] at c25b0h))
          clear c25
          obtain ⟨ji26, hji26⟩ : ∃ j_ : Int, (wrap64 ((wrap64 ((x5_1.length : Int) - 1)) - x81_3)) = j_ := ⟨_, rfl⟩
          replace H : (if 0 ≤ (ji26) then (if (ji26) < (x5_1.length : Int) then (if x10_3.length < 17592186044416 then (shapesearchlaw14_WarpMoves.l2 k3 x5_1 x6_2 t348 x8_1 x9_2 (x10_3 ++ [rd x5_1 (ji26)]) (x5_1.length : Int) (wrap64 (x81_3 + 1))) else (none)) else (none)) else (none)) = some r := by first | (rw [hji26] at H; exact H) | (simp only [hji26] at H ⊢; exact H)
          have hji26w : (IntKind.i64.wrap ((wrap64 ((x5_1.length : Int) - 1)) - x81_3)) = ji26 := (i64_w _).trans hji26
          by_cases c27 : 0 ≤ (ji26)
          ·rw [if_pos c27] at H
           have c27b0 : decide (0 ≤ (ji26)) = true := decide_eq_true c27
           clear c27
           by_cases c28 : (ji26) < (x5_1.length : Int)
           ·rw [if_pos c28] at H
            have c28b0 : decide ((ji26) < (x5_1.length : Int)) = true := decide_eq_true c28
            (try (have c28b0h := c28b0; simp only [hl5_1, hl6_2] at c28b0h))
            clear c28
            by_cases c29 : x10_3.length < 17592186044416
            ·rw [if_pos c29] at H
             have LMc29 := Aside0.mk c29
             clear c29
             obtain ⟨y363, hy363⟩ : ∃ y_ : List Int, y_ = (x10_3 ++ [rd x5_1 (ji26)]) := ⟨_, rfl⟩
             replace H : (shapesearchlaw14_WarpMoves.l2 k3 x5_1 x6_2 t348 x8_1 x9_2 y363 (x5_1.length : Int) (wrap64 (x81_3 + 1))) = some r := by first | (rw [hy363]; with_reducible exact H) | (have H2_ := (Option.bind_some _ _).symm.trans H; rw [hy363]; with_reducible exact H2_) | (have H2_ := (Option.bind_some _ _).symm.trans H; with_reducible exact H2_) | with_reducible exact H | (rw [hy363]; exact H) | exact H
             have Ny363 := Aside0.mk hy363
             clear hy363
             have H' := Aside0.mk H
             clear H
             have p362 : 0 ≤ ((ji26) : Int) := of_decide_eq_true (by first | (with_reducible assumption) | assumption)
             have q362 : (ji26) < (x5_1.length : Int) := of_decide_eq_true (by first | (with_reducible assumption) | assumption)
             obtain ⟨ad362, e362, hx362_0⟩ := Kd.at_int (Kd.R_reads' HO_5.out).2.2 (ji26) p362 q362
             cases e362
             replace p362 := eq_true p362
             replace q362 := eq_true q362
             go_wp2_with (first | ((with_reducible refine gate_builtin (b := .append) (xs := #[.tmp 84, .tmp 93]) rfl ?_); (try (refine gate_guard (by rfl) ?_; dsimp only)); at_builtin; refine Kd.R_append (Kd.int .i64) (w0 := w) w.heap.size rfl (.tmp 84) (.tmp 93) 22 3 (.int .i64 0) 8 rfl Try.underlying22 info3 rfl (by decide) (by omega) u10 x10_3 (rd x5_1 (ji26)) [.int .i64 (rd x5_1 (ji26))] (fun k_ => some k_ ≠ (.slice (some ad362) x5_1.length co7 : Value).ownBlock ∧ some k_ ≠ (.slice Ao16 x6_2.length co16 : Value).ownBlock ∧ some k_ ≠ (u8 : Value).ownBlock ∧ some k_ ≠ (u9 : Value).ownBlock) (fun _ => False) rfl rfl ?aP (fun _ hk => hk.elim) ?aF ?aO ?aB ?aS ?aL ?_; (case aP => exact rfl); (case aB => exact (by repeat (first | (with_reducible first | exact HB.out | apply below_alloc | apply pw_below_drewN | apply below_drew1) | exact HB.out))); (case aF => exact (fun k_ hk => ⟨Kd.fresh' (Kd.R_lt (by (with_reducible repeat (first | apply Kd.R_alloc | apply Kd.R_drewN | apply Kd.R_drew)); exact HO_5.out)) k_ hk, Kd.fresh' (Kd.R_lt (by (with_reducible repeat (first | apply Kd.R_alloc | apply Kd.R_drewN | apply Kd.R_drew)); exact HO_6.out)) k_ hk, Kd.fresh' (Kd.R_lt (by (with_reducible repeat (first | apply Kd.R_alloc | apply Kd.R_drewN | apply Kd.R_drew)); exact HO_8.out)) k_ hk, Kd.fresh' (Kd.R_lt (by (with_reducible repeat (first | apply Kd.R_alloc | apply Kd.R_drewN | apply Kd.R_drew)); exact HO_9.out)) k_ hk⟩)); (case aO => exact (by (with_reducible repeat (first | apply Kd.R_alloc | apply Kd.R_drewN | apply Kd.R_drew)); exact HO_10.out)); (case aS => exact (below_size (by repeat (first | (with_reducible first | exact HB.out | apply below_alloc | apply pw_below_drewN | apply below_drew1) | exact HB.out)))); (case aL => have := LMc29.out; omega); intro v364 w30 ho hb hg hat; rw [← Ny363.out] at ho; have n0_ := Aside0.mk (Kd.R_after (ok := (fun k_ => some k_ ≠ (.slice Ao16 x6_2.length co16 : Value).ownBlock ∧ some k_ ≠ (u8 : Value).ownBlock ∧ some k_ ≠ (u9 : Value).ownBlock)) (by (with_reducible repeat (first | apply Kd.R_alloc | apply Kd.R_drewN | apply Kd.R_drew)); exact Kd.R_mono HO_5.out (fun _ hk => ⟨⟨hk.1, ⟨hk.2.1, hk.2.2.1⟩⟩, hk.2.2.2⟩)) hg hat); have n1_ := Aside0.mk (Kd.R_after (ok := (fun k_ => some k_ ≠ (.slice (some ad362) x5_1.length co7 : Value).ownBlock ∧ some k_ ≠ (u8 : Value).ownBlock ∧ some k_ ≠ (u9 : Value).ownBlock)) (by (with_reducible repeat (first | apply Kd.R_alloc | apply Kd.R_drewN | apply Kd.R_drew)); exact Kd.R_mono HO_6.out (fun _ hk => ⟨⟨hk.1, ⟨hk.2.1, hk.2.2.1⟩⟩, hk.2.2.2⟩)) hg hat); have n2_ := Aside0.mk (Kd.R_after (ok := (fun k_ => some k_ ≠ (.slice (some ad362) x5_1.length co7 : Value).ownBlock ∧ some k_ ≠ (.slice Ao16 x6_2.length co16 : Value).ownBlock ∧ some k_ ≠ (u9 : Value).ownBlock)) (by (with_reducible repeat (first | apply Kd.R_alloc | apply Kd.R_drewN | apply Kd.R_drew)); exact Kd.R_mono HO_8.out (fun _ hk => ⟨⟨hk.1, ⟨hk.2.1, hk.2.2.1⟩⟩, hk.2.2.2⟩)) hg hat); have n3_ := Aside0.mk (Kd.R_after (ok := (fun k_ => some k_ ≠ (.slice (some ad362) x5_1.length co7 : Value).ownBlock ∧ some k_ ≠ (.slice Ao16 x6_2.length co16 : Value).ownBlock ∧ some k_ ≠ (u8 : Value).ownBlock)) (by (with_reducible repeat (first | apply Kd.R_alloc | apply Kd.R_drewN | apply Kd.R_drew)); exact Kd.R_mono HO_9.out (fun _ hk => ⟨⟨hk.1, ⟨hk.2.1, hk.2.2.1⟩⟩, hk.2.2.2⟩)) hg hat); have n4_ := Aside0.mk (hb); have n5_ := Aside0.mk (ho); clear HO_5; clear HO_6; clear HO_8; clear HO_9; clear HB; clear HO_10; have HO_5 := n0_; have HO_6 := n1_; have HO_8 := n2_; have HO_9 := n3_; have HB := n4_; have HO365 := n5_; clear n0_ n1_ n2_ n3_ n4_ n5_; clear ho hb hg hat))
             go_roundg k3
             case measure => have := HK1.out; have := HK2.out; have := HK3.out; omega
             case rel => exact ⟨(y363), (wrap64 (x81_3 + 1)), (by first | rfl | (simp; done) | (simp [*]; done)), H', ⟨by have := HK1.out; have := HK2.out; have := HK3.out; omega⟩, ⟨by (try simp only [hl5_1]); (try simp only [hl6_2]); (with_reducible repeat (first | apply Kd.R_alloc | apply Kd.R_drewN | apply Kd.R_drew)); exact Kd.R_mono HO_5.out (fun _ hk => ⟨hk.1.1, ⟨hk.1.2.1, ⟨hk.1.2.2, hk.2⟩⟩⟩)⟩, ⟨by (try simp only [hl5_1]); (try simp only [hl6_2]); (with_reducible repeat (first | apply Kd.R_alloc | apply Kd.R_drewN | apply Kd.R_drew)); exact Kd.R_mono HO_6.out (fun _ hk => ⟨hk.1.1, ⟨hk.1.2.1, ⟨hk.1.2.2, hk.2⟩⟩⟩)⟩, ⟨by (try simp only [hl5_1]); (try simp only [hl6_2]); (with_reducible repeat (first | apply Kd.R_alloc | apply Kd.R_drewN | apply Kd.R_drew)); exact Kd.R_mono HO_8.out (fun _ hk => ⟨hk.1.1, ⟨hk.1.2.1, ⟨hk.1.2.2, hk.2⟩⟩⟩)⟩, ⟨by (try simp only [hl5_1]); (try simp only [hl6_2]); (with_reducible repeat (first | apply Kd.R_alloc | apply Kd.R_drewN | apply Kd.R_drew)); exact Kd.R_mono HO_9.out (fun _ hk => ⟨hk.1.1, ⟨hk.1.2.1, ⟨hk.1.2.2, hk.2⟩⟩⟩)⟩, ⟨by (try simp only [hl5_1]); (try simp only [hl6_2]); (with_reducible repeat (first | apply Kd.R_alloc | apply Kd.R_drewN | apply Kd.R_drew)); exact HO365.out⟩, ⟨by repeat (first | (with_reducible first | exact HB.out | apply below_alloc | apply pw_below_drewN | apply below_drew1) | exact HB.out)⟩⟩
            ·rw [if_neg c29] at H
             exact absurd H (by simp)
           ·rw [if_neg c28] at H
            exact absurd H (by simp)
          ·rw [if_neg c27] at H
           exact absurd H (by simp)
         ·rw [if_neg c25] at H
          have c25b0 : decide (x81_3 < (x5_1.length : Int)) = false := decide_eq_false c25
          (try (have c25b0h := c25b0; simp only [hl5_1, hl6_2] at c25b0h))
          clear c25
          have H' := Aside0.mk H
          clear H
          go_wp2
          go_loopg [11, 98] k3 (fun kq v11 v98 w' => ∃ (x11_4 : List Int) (x98_4 : Int), v98 = .int .i64 x98_4 ∧ Aside0 (shapesearchlaw14_WarpMoves.l3 kq x5_1 x6_2 t348 x8_1 x9_2 x10_3 x11_4 (x6_2.length : Int) x98_4 = some r) ∧ Aside0 (kq ≤ k3) ∧ Aside0 (Kd.R (Kd.int .i64) 3 w' w.heap.size (fun k_ => some k_ ≠ ((.slice Ao16 x6_2.length co16) : Value).ownBlock ∧ some k_ ≠ (u8 : Value).ownBlock ∧ some k_ ≠ (u9 : Value).ownBlock ∧ some k_ ≠ (u10 : Value).ownBlock ∧ some k_ ≠ (v11 : Value).ownBlock) (.slice Ao7 x5_1.length co7) x5_1) ∧ Aside0 (Kd.R (Kd.int .i64) 3 w' w.heap.size (fun k_ => some k_ ≠ ((.slice Ao7 x5_1.length co7) : Value).ownBlock ∧ some k_ ≠ (u8 : Value).ownBlock ∧ some k_ ≠ (u9 : Value).ownBlock ∧ some k_ ≠ (u10 : Value).ownBlock ∧ some k_ ≠ (v11 : Value).ownBlock) (.slice Ao16 x6_2.length co16) x6_2) ∧ Aside0 (Kd.R (Kd.int .i64) 3 w' w.heap.size (fun k_ => some k_ ≠ ((.slice Ao7 x5_1.length co7) : Value).ownBlock ∧ some k_ ≠ ((.slice Ao16 x6_2.length co16) : Value).ownBlock ∧ some k_ ≠ (u9 : Value).ownBlock ∧ some k_ ≠ (u10 : Value).ownBlock ∧ some k_ ≠ (v11 : Value).ownBlock) u8 x8_1) ∧ Aside0 (Kd.R (Kd.int .i64) 3 w' w.heap.size (fun k_ => some k_ ≠ ((.slice Ao7 x5_1.length co7) : Value).ownBlock ∧ some k_ ≠ ((.slice Ao16 x6_2.length co16) : Value).ownBlock ∧ some k_ ≠ (u8 : Value).ownBlock ∧ some k_ ≠ (u10 : Value).ownBlock ∧ some k_ ≠ (v11 : Value).ownBlock) u9 x9_2) ∧ Aside0 (Kd.R (Kd.int .i64) 3 w' w.heap.size (fun k_ => some k_ ≠ ((.slice Ao7 x5_1.length co7) : Value).ownBlock ∧ some k_ ≠ ((.slice Ao16 x6_2.length co16) : Value).ownBlock ∧ some k_ ≠ (u8 : Value).ownBlock ∧ some k_ ≠ (u9 : Value).ownBlock ∧ some k_ ≠ (v11 : Value).ownBlock) u10 x10_3) ∧ Aside0 (Kd.R (Kd.int .i64) 3 w' w.heap.size (fun k_ => some k_ ≠ ((.slice Ao7 x5_1.length co7) : Value).ownBlock ∧ some k_ ≠ ((.slice Ao16 x6_2.length co16) : Value).ownBlock ∧ some k_ ≠ (u8 : Value).ownBlock ∧ some k_ ≠ (u9 : Value).ownBlock ∧ some k_ ≠ (u10 : Value).ownBlock) v11 x11_4) ∧ Aside0 (Below w.heap.size w w'))
          case atStart => exact ⟨(([] : List Int)), (0), (by first | rfl | (simp; done) | (simp [*]; done)), H', ⟨Nat.le_refl _⟩, ⟨by (try simp only [hl5_1]); (try simp only [hl6_2]); (with_reducible repeat (first | apply Kd.R_alloc | apply Kd.R_drewN | apply Kd.R_drew)); exact Kd.R_mono HO_5.out (fun _ hk => ⟨hk.1, ⟨hk.2.1, ⟨hk.2.2.1, ⟨hk.2.2.2, (by simp [Value.ownBlock])⟩⟩⟩⟩)⟩, ⟨by (try simp only [hl5_1]); (try simp only [hl6_2]); (with_reducible repeat (first | apply Kd.R_alloc | apply Kd.R_drewN | apply Kd.R_drew)); exact Kd.R_mono HO_6.out (fun _ hk => ⟨hk.1, ⟨hk.2.1, ⟨hk.2.2.1, ⟨hk.2.2.2, (by simp [Value.ownBlock])⟩⟩⟩⟩)⟩, ⟨by (try simp only [hl5_1]); (try simp only [hl6_2]); (with_reducible repeat (first | apply Kd.R_alloc | apply Kd.R_drewN | apply Kd.R_drew)); exact Kd.R_mono HO_8.out (fun _ hk => ⟨hk.1, ⟨hk.2.1, ⟨hk.2.2.1, ⟨hk.2.2.2, (by simp [Value.ownBlock])⟩⟩⟩⟩)⟩, ⟨by (try simp only [hl5_1]); (try simp only [hl6_2]); (with_reducible repeat (first | apply Kd.R_alloc | apply Kd.R_drewN | apply Kd.R_drew)); exact Kd.R_mono HO_9.out (fun _ hk => ⟨hk.1, ⟨hk.2.1, ⟨hk.2.2.1, ⟨hk.2.2.2, (by simp [Value.ownBlock])⟩⟩⟩⟩)⟩, ⟨by (try simp only [hl5_1]); (try simp only [hl6_2]); (with_reducible repeat (first | apply Kd.R_alloc | apply Kd.R_drewN | apply Kd.R_drew)); exact Kd.R_mono HO_10.out (fun _ hk => ⟨hk.1, ⟨hk.2.1, ⟨hk.2.2.1, ⟨hk.2.2.2, (by simp [Value.ownBlock])⟩⟩⟩⟩)⟩, ⟨by (try simp only [hl5_1]); (try simp only [hl6_2]); first | exact Kd.R_nil _ _ _ _ _ | exact Kd.N_nil _ _ _ _ _ | exact Kd.V_nil _ _ _ _ _ | exact Kd.Q_nil _ _ _ _ _ | exact Kd.S_nil _ _ _ _ _⟩, ⟨by repeat (first | (with_reducible first | exact HB.out | apply below_alloc | apply pw_below_drewN | apply below_drew1) | exact HB.out)⟩⟩
          case round =>
           clear H'
           try clear c1
           try clear p1
           try clear q1
           try clear hx1
           try clear c2
           try clear p2
           try clear q2
           try clear hx2
           try clear hf2
           try clear p3
           try clear q3
           try clear hx3
           try clear c5
           try clear p6
           try clear c8
           try clear c8b0
           try clear c9
           try clear c9b0
           try clear c10
           try clear c10b0
           try clear c11
           try clear p11
           try clear q11
           try clear hx11
           try clear hf11
           try clear c12
           try clear c17
           try clear c17b0
           try clear c18
           try clear c18b0
           try clear c19
           try clear c19b0
           try clear p20
           try clear q20
           try clear hx20
           try clear hf20
           try clear c21
           try clear c25
           try clear c25b0
           try clear c27
           try clear c27b0
           try clear c28
           try clear c28b0
           try clear c29
           try clear hx11_0
           try clear hx20_0
           try clear hx350_0
           try clear hx352_0
           try clear hx356_0
           try clear hx358_0
           try clear hx362_0
           try clear p1
           try clear p11
           try clear p2
           try clear p20
           try clear p3
           try clear p350
           try clear p352
           try clear p356
           try clear p358
           try clear p362
           try clear p6
           try clear q1
           try clear q11
           try clear q2
           try clear q20
           try clear q3
           try clear q350
           try clear q352
           try clear q356
           try clear q358
           try clear q362
           obtain ⟨x11_4, x98_4, rfl, HA, HK4, HO_5, HO_6, HO_8, HO_9, HO_10, HO_11, HB⟩ := hrel
           cases gk with
           | zero => exact absurd HA.out (by simp [shapesearchlaw14_WarpMoves.l3])
           | succ k4 =>
            have H := HA.out
            clear HA
            simp only [shapesearchlaw14_WarpMoves.l3] at H
            by_cases c31 : x98_4 < (x6_2.length : Int)
            ·rw [if_pos c31] at H
             have c31b0 : decide (x98_4 < (x6_2.length : Int)) = true := decide_eq_true c31
             (try (have c31b0h := c31b0; simp only [hl5_1, hl6_2] at c31b0h))
             clear c31
             obtain ⟨ji32, hji32⟩ : ∃ j_ : Int, (wrap64 ((wrap64 ((x6_2.length : Int) - 1)) - x98_4)) = j_ := ⟨_, rfl⟩
             replace H : (if 0 ≤ (ji32) then (if (ji32) < (x6_2.length : Int) then (if x11_4.length < 17592186044416 then (shapesearchlaw14_WarpMoves.l3 k4 x5_1 x6_2 t348 x8_1 x9_2 x10_3 (x11_4 ++ [rd x6_2 (ji32)]) (x6_2.length : Int) (wrap64 (x98_4 + 1))) else (none)) else (none)) else (none)) = some r := by first | (rw [hji32] at H; exact H) | (simp only [hji32] at H ⊢; exact H)
             have hji32w : (IntKind.i64.wrap ((wrap64 ((x6_2.length : Int) - 1)) - x98_4)) = ji32 := (i64_w _).trans hji32
             by_cases c33 : 0 ≤ (ji32)
             ·rw [if_pos c33] at H
              have c33b0 : decide (0 ≤ (ji32)) = true := decide_eq_true c33
              clear c33
              by_cases c34 : (ji32) < (x6_2.length : Int)
              ·rw [if_pos c34] at H
               have c34b0 : decide ((ji32) < (x6_2.length : Int)) = true := decide_eq_true c34
               (try (have c34b0h := c34b0; simp only [hl5_1, hl6_2] at c34b0h))
               clear c34
               by_cases c35 : x11_4.length < 17592186044416
               ·rw [if_pos c35] at H
                have LMc35 := Aside0.mk c35
                clear c35
                obtain ⟨y367, hy367⟩ : ∃ y_ : List Int, y_ = (x11_4 ++ [rd x6_2 (ji32)]) := ⟨_, rfl⟩
                replace H : (shapesearchlaw14_WarpMoves.l3 k4 x5_1 x6_2 t348 x8_1 x9_2 x10_3 y367 (x6_2.length : Int) (wrap64 (x98_4 + 1))) = some r := by first | (rw [hy367]; with_reducible exact H) | (have H2_ := (Option.bind_some _ _).symm.trans H; rw [hy367]; with_reducible exact H2_) | (have H2_ := (Option.bind_some _ _).symm.trans H; with_reducible exact H2_) | with_reducible exact H | (rw [hy367]; exact H) | exact H
                have Ny367 := Aside0.mk hy367
                clear hy367
                have H' := Aside0.mk H
                clear H
                have p366 : 0 ≤ ((ji32) : Int) := of_decide_eq_true (by first | (with_reducible assumption) | assumption)
                have q366 : (ji32) < (x6_2.length : Int) := of_decide_eq_true (by first | (with_reducible assumption) | assumption)
                obtain ⟨ad366, e366, hx366_0⟩ := Kd.at_int (Kd.R_reads' HO_6.out).2.2 (ji32) p366 q366
                cases e366
                replace p366 := eq_true p366
                replace q366 := eq_true q366
                go_wp2_with (first | ((with_reducible refine gate_builtin (b := .append) (xs := #[.tmp 101, .tmp 110]) rfl ?_); (try (refine gate_guard (by rfl) ?_; dsimp only)); at_builtin; refine Kd.R_append (Kd.int .i64) (w0 := w) w.heap.size rfl (.tmp 101) (.tmp 110) 22 3 (.int .i64 0) 8 rfl Try.underlying22 info3 rfl (by decide) (by omega) u11 x11_4 (rd x6_2 (ji32)) [.int .i64 (rd x6_2 (ji32))] (fun k_ => some k_ ≠ (.slice Ao7 x5_1.length co7 : Value).ownBlock ∧ some k_ ≠ (.slice (some ad366) x6_2.length co16 : Value).ownBlock ∧ some k_ ≠ (u8 : Value).ownBlock ∧ some k_ ≠ (u9 : Value).ownBlock ∧ some k_ ≠ (u10 : Value).ownBlock) (fun _ => False) rfl rfl ?aP (fun _ hk => hk.elim) ?aF ?aO ?aB ?aS ?aL ?_; (case aP => exact rfl); (case aB => exact (by repeat (first | (with_reducible first | exact HB.out | apply below_alloc | apply pw_below_drewN | apply below_drew1) | exact HB.out))); (case aF => exact (fun k_ hk => ⟨Kd.fresh' (Kd.R_lt (by (with_reducible repeat (first | apply Kd.R_alloc | apply Kd.R_drewN | apply Kd.R_drew)); exact HO_5.out)) k_ hk, Kd.fresh' (Kd.R_lt (by (with_reducible repeat (first | apply Kd.R_alloc | apply Kd.R_drewN | apply Kd.R_drew)); exact HO_6.out)) k_ hk, Kd.fresh' (Kd.R_lt (by (with_reducible repeat (first | apply Kd.R_alloc | apply Kd.R_drewN | apply Kd.R_drew)); exact HO_8.out)) k_ hk, Kd.fresh' (Kd.R_lt (by (with_reducible repeat (first | apply Kd.R_alloc | apply Kd.R_drewN | apply Kd.R_drew)); exact HO_9.out)) k_ hk, Kd.fresh' (Kd.R_lt (by (with_reducible repeat (first | apply Kd.R_alloc | apply Kd.R_drewN | apply Kd.R_drew)); exact HO_10.out)) k_ hk⟩)); (case aO => exact (by (with_reducible repeat (first | apply Kd.R_alloc | apply Kd.R_drewN | apply Kd.R_drew)); exact HO_11.out)); (case aS => exact (below_size (by repeat (first | (with_reducible first | exact HB.out | apply below_alloc | apply pw_below_drewN | apply below_drew1) | exact HB.out)))); (case aL => have := LMc35.out; omega); intro v368 w36 ho hb hg hat; rw [← Ny367.out] at ho; have n0_ := Aside0.mk (Kd.R_after (ok := (fun k_ => some k_ ≠ (.slice (some ad366) x6_2.length co16 : Value).ownBlock ∧ some k_ ≠ (u8 : Value).ownBlock ∧ some k_ ≠ (u9 : Value).ownBlock ∧ some k_ ≠ (u10 : Value).ownBlock)) (by (with_reducible repeat (first | apply Kd.R_alloc | apply Kd.R_drewN | apply Kd.R_drew)); exact Kd.R_mono HO_5.out (fun _ hk => ⟨⟨hk.1, ⟨hk.2.1, ⟨hk.2.2.1, hk.2.2.2.1⟩⟩⟩, hk.2.2.2.2⟩)) hg hat); have n1_ := Aside0.mk (Kd.R_after (ok := (fun k_ => some k_ ≠ (.slice Ao7 x5_1.length co7 : Value).ownBlock ∧ some k_ ≠ (u8 : Value).ownBlock ∧ some k_ ≠ (u9 : Value).ownBlock ∧ some k_ ≠ (u10 : Value).ownBlock)) (by (with_reducible repeat (first | apply Kd.R_alloc | apply Kd.R_drewN | apply Kd.R_drew)); exact Kd.R_mono HO_6.out (fun _ hk => ⟨⟨hk.1, ⟨hk.2.1, ⟨hk.2.2.1, hk.2.2.2.1⟩⟩⟩, hk.2.2.2.2⟩)) hg hat); have n2_ := Aside0.mk (Kd.R_after (ok := (fun k_ => some k_ ≠ (.slice Ao7 x5_1.length co7 : Value).ownBlock ∧ some k_ ≠ (.slice (some ad366) x6_2.length co16 : Value).ownBlock ∧ some k_ ≠ (u9 : Value).ownBlock ∧ some k_ ≠ (u10 : Value).ownBlock)) (by (with_reducible repeat (first | apply Kd.R_alloc | apply Kd.R_drewN | apply Kd.R_drew)); exact Kd.R_mono HO_8.out (fun _ hk => ⟨⟨hk.1, ⟨hk.2.1, ⟨hk.2.2.1, hk.2.2.2.1⟩⟩⟩, hk.2.2.2.2⟩)) hg hat); have n3_ := Aside0.mk (Kd.R_after (ok := (fun k_ => some k_ ≠ (.slice Ao7 x5_1.length co7 : Value).ownBlock ∧ some k_ ≠ (.slice (some ad366) x6_2.length co16 : Value).ownBlock ∧ some k_ ≠ (u8 : Value).ownBlock ∧ some k_ ≠ (u10 : Value).ownBlock)) (by (with_reducible repeat (first | apply Kd.R_alloc | apply Kd.R_drewN | apply Kd.R_drew)); exact Kd.R_mono HO_9.out (fun _ hk => ⟨⟨hk.1, ⟨hk.2.1, ⟨hk.2.2.1, hk.2.2.2.1⟩⟩⟩, hk.2.2.2.2⟩)) hg hat); have n4_ := Aside0.mk (Kd.R_after (ok := (fun k_ => some k_ ≠ (.slice Ao7 x5_1.length co7 : Value).ownBlock ∧ some k_ ≠ (.slice (some ad366) x6_2.length co16 : Value).ownBlock ∧ some k_ ≠ (u8 : Value).ownBlock ∧ some k_ ≠ (u9 : Value).ownBlock)) (by (with_reducible repeat (first | apply Kd.R_alloc | apply Kd.R_drewN | apply Kd.R_drew)); exact Kd.R_mono HO_10.out (fun _ hk => ⟨⟨hk.1, ⟨hk.2.1, ⟨hk.2.2.1, hk.2.2.2.1⟩⟩⟩, hk.2.2.2.2⟩)) hg hat); have n5_ := Aside0.mk (hb); have n6_ := Aside0.mk (ho); clear HO_5; clear HO_6; clear HO_8; clear HO_9; clear HO_10; clear HB; clear HO_11; have HO_5 := n0_; have HO_6 := n1_; have HO_8 := n2_; have HO_9 := n3_; have HO_10 := n4_; have HB := n5_; have HO369 := n6_; clear n0_ n1_ n2_ n3_ n4_ n5_ n6_; clear ho hb hg hat))
                go_roundg k4
                case measure => have := HK1.out; have := HK2.out; have := HK3.out; have := HK4.out; omega
                case rel => exact ⟨(y367), (wrap64 (x98_4 + 1)), (by first | rfl | (simp; done) | (simp [*]; done)), H', ⟨by have := HK1.out; have := HK2.out; have := HK3.out; have := HK4.out; omega⟩, ⟨by (try simp only [hl5_1]); (try simp only [hl6_2]); (with_reducible repeat (first | apply Kd.R_alloc | apply Kd.R_drewN | apply Kd.R_drew)); exact Kd.R_mono HO_5.out (fun _ hk => ⟨hk.1.1, ⟨hk.1.2.1, ⟨hk.1.2.2.1, ⟨hk.1.2.2.2, hk.2⟩⟩⟩⟩)⟩, ⟨by (try simp only [hl5_1]); (try simp only [hl6_2]); (with_reducible repeat (first | apply Kd.R_alloc | apply Kd.R_drewN | apply Kd.R_drew)); exact Kd.R_mono HO_6.out (fun _ hk => ⟨hk.1.1, ⟨hk.1.2.1, ⟨hk.1.2.2.1, ⟨hk.1.2.2.2, hk.2⟩⟩⟩⟩)⟩, ⟨by (try simp only [hl5_1]); (try simp only [hl6_2]); (with_reducible repeat (first | apply Kd.R_alloc | apply Kd.R_drewN | apply Kd.R_drew)); exact Kd.R_mono HO_8.out (fun _ hk => ⟨hk.1.1, ⟨hk.1.2.1, ⟨hk.1.2.2.1, ⟨hk.1.2.2.2, hk.2⟩⟩⟩⟩)⟩, ⟨by (try simp only [hl5_1]); (try simp only [hl6_2]); (with_reducible repeat (first | apply Kd.R_alloc | apply Kd.R_drewN | apply Kd.R_drew)); exact Kd.R_mono HO_9.out (fun _ hk => ⟨hk.1.1, ⟨hk.1.2.1, ⟨hk.1.2.2.1, ⟨hk.1.2.2.2, hk.2⟩⟩⟩⟩)⟩, ⟨by (try simp only [hl5_1]); (try simp only [hl6_2]); (with_reducible repeat (first | apply Kd.R_alloc | apply Kd.R_drewN | apply Kd.R_drew)); exact Kd.R_mono HO_10.out (fun _ hk => ⟨hk.1.1, ⟨hk.1.2.1, ⟨hk.1.2.2.1, ⟨hk.1.2.2.2, hk.2⟩⟩⟩⟩)⟩, ⟨by (try simp only [hl5_1]); (try simp only [hl6_2]); (with_reducible repeat (first | apply Kd.R_alloc | apply Kd.R_drewN | apply Kd.R_drew)); exact HO369.out⟩, ⟨by repeat (first | (with_reducible first | exact HB.out | apply below_alloc | apply pw_below_drewN | apply below_drew1) | exact HB.out)⟩⟩
               ·rw [if_neg c35] at H
                exact absurd H (by simp)
              ·rw [if_neg c34] at H
               exact absurd H (by simp)
             ·rw [if_neg c33] at H
              exact absurd H (by simp)
            ·rw [if_neg c31] at H
             have c31b0 : decide (x98_4 < (x6_2.length : Int)) = false := decide_eq_false c31
             (try (have c31b0h := c31b0; simp only [hl5_1, hl6_2] at c31b0h))
             clear c31
             replace H := Option.bind_eq_some_iff.mp H
             obtain ⟨⟨t370, t371⟩, A370, H⟩ := H
             replace H : ((warp_Distance.f k4 x8_1 x9_2 t348).bind fun bt372 => ((warp_Distance.f k4 x10_3 x11_4 t348).bind fun bt374 => (if t371 = 0 then (if bt372.2 = 0 then (if bt374.2 = 0 then (if t370 = bt372.1 then (if (x5_1.length : Int) = (x6_2.length : Int) then (if t370 = bt374.1 then ((shapesearchlaw14_awake.f k4).bind fun t376 => (some t376)) else (some false)) else ((shapesearchlaw14_awake.f k4).bind fun t377 => (some t377))) else (some false)) else (some false)) else (some false)) else (some false)))) = some r := H
             have A37 := Aside0.mk A370
             clear A370
             replace H := Option.bind_eq_some_iff.mp H
             obtain ⟨⟨t372, t373⟩, A380, H⟩ := H
             replace H : ((warp_Distance.f k4 x10_3 x11_4 t348).bind fun bt374 => (if t371 = 0 then (if t373 = 0 then (if bt374.2 = 0 then (if t370 = t372 then (if (x5_1.length : Int) = (x6_2.length : Int) then (if t370 = bt374.1 then ((shapesearchlaw14_awake.f k4).bind fun t376 => (some t376)) else (some false)) else ((shapesearchlaw14_awake.f k4).bind fun t377 => (some t377))) else (some false)) else (some false)) else (some false)) else (some false))) = some r := H
             have A38 := Aside0.mk A380
             clear A380
             replace H := Option.bind_eq_some_iff.mp H
             obtain ⟨⟨t374, t375⟩, A390, H⟩ := H
             replace H : (if t371 = 0 then (if t373 = 0 then (if t375 = 0 then (if t370 = t372 then (if (x5_1.length : Int) = (x6_2.length : Int) then (if t370 = t374 then ((shapesearchlaw14_awake.f k4).bind fun t376 => (some t376)) else (some false)) else ((shapesearchlaw14_awake.f k4).bind fun t377 => (some t377))) else (some false)) else (some false)) else (some false)) else (some false)) = some r := H
             have A39 := Aside0.mk A390
             clear A390
             by_cases c40 : t371 = 0
             ·rw [if_pos c40] at H
              have c40b0 : (t371 == 0) = true := beq_iff_eq.mpr c40
              have c40b1 : (t371 != 0) = false := bne_eq_false_iff_eq.mpr c40
              clear c40
              by_cases c41 : t373 = 0
              ·rw [if_pos c41] at H
               have c41b0 : (t373 == 0) = true := beq_iff_eq.mpr c41
               have c41b1 : (t373 != 0) = false := bne_eq_false_iff_eq.mpr c41
               clear c41
               by_cases c42 : t375 = 0
               ·rw [if_pos c42] at H
                have c42b0 : (t375 == 0) = true := beq_iff_eq.mpr c42
                have c42b1 : (t375 != 0) = false := bne_eq_false_iff_eq.mpr c42
                clear c42
                by_cases c43 : t370 = t372
                ·rw [if_pos c43] at H
                 have c43b0 : (t370 == t372) = true := beq_iff_eq.mpr c43
                 have c43b1 : (t370 != t372) = false := bne_eq_false_iff_eq.mpr c43
                 clear c43
                 by_cases c44 : (x5_1.length : Int) = (x6_2.length : Int)
                 ·rw [if_pos c44] at H
                  have c44b0 : ((x5_1.length : Int) == (x6_2.length : Int)) = true := beq_iff_eq.mpr c44
                  have c44b1 : ((x5_1.length : Int) != (x6_2.length : Int)) = false := bne_eq_false_iff_eq.mpr c44
                  have c44b2 : (x5_1.length == x6_2.length) = true := by first | simpa using c44 | (simp at c44 ⊢; omega)
                  (try (have c44b0h := c44b0; simp only [hl5_1, hl6_2] at c44b0h))
                  clear c44
                  by_cases c45 : t370 = t374
                  ·rw [if_pos c45] at H
                   have c45b0 : (t370 == t374) = true := beq_iff_eq.mpr c45
                   have c45b1 : (t370 != t374) = false := bne_eq_false_iff_eq.mpr c45
                   clear c45
                   replace H := Option.bind_eq_some_iff.mp H
                   obtain ⟨t376, A460, H⟩ := H
                   replace H : (some t376) = some r := H
                   have A46 := Aside0.mk A460
                   clear A460
                   obtain rfl := Option.some.inj H
                   go_wp2_with (first | ((with_reducible refine gate_callee (f := 12) rfl ?_); refine goesL_ (some 117) rfl rfl Try.func12 (by kernel_rfl) rfl #[.slice Ao7 x5_1.length co7, .slice Ao16 x6_2.length co16, .int .i64 t348] rfl (by (try simp only [List.map_toArray, List.map_cons, List.map_nil]); first | done | rfl | (simp only [List.length_drop, List.length_take]; rfl)) ?_; (with_reducible refine (warp_Distance.calls k4 _ _ x5_1 _ _ x6_2 t348 t370 t371 _ ?side1 ?side2 ?side3 ?side4 A37.out).mono ?_); (case side1 => repeat (first | exact (Kd.R_reads' HO_5.out).2.2 | (with_reducible refine Kd.C_alloc ?_ _) | (with_reducible refine Kd.C_drewN ?_ _) | (with_reducible refine Kd.C_drew ?_))); (case side2 => exact (Kd.R_reads' HO_5.out).2.1); (case side3 => repeat (first | exact (Kd.R_reads' HO_6.out).2.2 | (with_reducible refine Kd.C_alloc ?_ _) | (with_reducible refine Kd.C_drewN ?_ _) | (with_reducible refine Kd.C_drew ?_))); (case side4 => exact (Kd.R_reads' HO_6.out).2.1); rintro e w47 ⟨rfl, hb⟩; refine ⟨_, rfl, ?_⟩; have n0_ := Aside0.mk (Kd.R_below (by (with_reducible repeat (first | apply Kd.R_alloc | apply Kd.R_drewN | apply Kd.R_drew)); exact HO_5.out) hb); have n1_ := Aside0.mk (Kd.R_below (by (with_reducible repeat (first | apply Kd.R_alloc | apply Kd.R_drewN | apply Kd.R_drew)); exact HO_6.out) hb); have n2_ := Aside0.mk (Kd.R_below (by (with_reducible repeat (first | apply Kd.R_alloc | apply Kd.R_drewN | apply Kd.R_drew)); exact HO_8.out) hb); have n3_ := Aside0.mk (Kd.R_below (by (with_reducible repeat (first | apply Kd.R_alloc | apply Kd.R_drewN | apply Kd.R_drew)); exact HO_9.out) hb); have n4_ := Aside0.mk (Kd.R_below (by (with_reducible repeat (first | apply Kd.R_alloc | apply Kd.R_drewN | apply Kd.R_drew)); exact HO_10.out) hb); have n5_ := Aside0.mk (Kd.R_below (by (with_reducible repeat (first | apply Kd.R_alloc | apply Kd.R_drewN | apply Kd.R_drew)); exact HO_11.out) hb); have n6_ := Aside0.mk (below_step (by repeat (first | (with_reducible first | exact HB.out | apply below_alloc | apply pw_below_drewN | apply below_drew1) | exact HB.out)) hb); clear HO_5; clear HO_6; clear HO_8; clear HO_9; clear HO_10; clear HO_11; clear HB; have HO_5 := n0_; have HO_6 := n1_; have HO_8 := n2_; have HO_9 := n3_; have HO_10 := n4_; have HO_11 := n5_; have HB := n6_; clear n0_ n1_ n2_ n3_ n4_ n5_ n6_; (try clear hb); (try clear hb2); (try clear hk); (try clear hi); obtain ⟨Ao48, co48, eo48⟩ := Kd.R_slice HO_8.out; subst eo48; obtain ⟨Ao49, co49, eo49⟩ := Kd.R_slice HO_9.out; subst eo49) | ((with_reducible refine gate_callee (f := 12) rfl ?_); refine goesL_ (some 124) rfl rfl Try.func12 (by kernel_rfl) rfl #[.slice Ao48 x8_1.length co48, .slice Ao49 x9_2.length co49, .int .i64 t348] rfl (by (try simp only [List.map_toArray, List.map_cons, List.map_nil]); first | done | rfl | (simp only [List.length_drop, List.length_take]; rfl)) ?_; (with_reducible refine (warp_Distance.calls k4 _ _ x8_1 _ _ x9_2 t348 t372 t373 _ ?side1 ?side2 ?side3 ?side4 A38.out).mono ?_); (case side1 => repeat (first | exact (Kd.R_reads' HO_8.out).2.2 | (with_reducible refine Kd.C_alloc ?_ _) | (with_reducible refine Kd.C_drewN ?_ _) | (with_reducible refine Kd.C_drew ?_))); (case side2 => exact (Kd.R_reads' HO_8.out).2.1); (case side3 => repeat (first | exact (Kd.R_reads' HO_9.out).2.2 | (with_reducible refine Kd.C_alloc ?_ _) | (with_reducible refine Kd.C_drewN ?_ _) | (with_reducible refine Kd.C_drew ?_))); (case side4 => exact (Kd.R_reads' HO_9.out).2.1); rintro e w50 ⟨rfl, hb⟩; refine ⟨_, rfl, ?_⟩; have n0_ := Aside0.mk (Kd.R_below (by (with_reducible repeat (first | apply Kd.R_alloc | apply Kd.R_drewN | apply Kd.R_drew)); exact HO_5.out) hb); have n1_ := Aside0.mk (Kd.R_below (by (with_reducible repeat (first | apply Kd.R_alloc | apply Kd.R_drewN | apply Kd.R_drew)); exact HO_6.out) hb); have n2_ := Aside0.mk (Kd.R_below (by (with_reducible repeat (first | apply Kd.R_alloc | apply Kd.R_drewN | apply Kd.R_drew)); exact HO_8.out) hb); have n3_ := Aside0.mk (Kd.R_below (by (with_reducible repeat (first | apply Kd.R_alloc | apply Kd.R_drewN | apply Kd.R_drew)); exact HO_9.out) hb); have n4_ := Aside0.mk (Kd.R_below (by (with_reducible repeat (first | apply Kd.R_alloc | apply Kd.R_drewN | apply Kd.R_drew)); exact HO_10.out) hb); have n5_ := Aside0.mk (Kd.R_below (by (with_reducible repeat (first | apply Kd.R_alloc | apply Kd.R_drewN | apply Kd.R_drew)); exact HO_11.out) hb); have n6_ := Aside0.mk (below_step (by repeat (first | (with_reducible first | exact HB.out | apply below_alloc | apply pw_below_drewN | apply below_drew1) | exact HB.out)) hb); clear HO_5; clear HO_6; clear HO_8; clear HO_9; clear HO_10; clear HO_11; clear HB; have HO_5 := n0_; have HO_6 := n1_; have HO_8 := n2_; have HO_9 := n3_; have HO_10 := n4_; have HO_11 := n5_; have HB := n6_; clear n0_ n1_ n2_ n3_ n4_ n5_ n6_; (try clear hb); (try clear hb2); (try clear hk); (try clear hi); obtain ⟨Ao51, co51, eo51⟩ := Kd.R_slice HO_10.out; subst eo51; obtain ⟨Ao52, co52, eo52⟩ := Kd.R_slice HO_11.out; subst eo52) | ((with_reducible refine gate_callee (f := 12) rfl ?_); refine goesL_ (some 131) rfl rfl Try.func12 (by kernel_rfl) rfl #[.slice Ao51 x10_3.length co51, .slice Ao52 x11_4.length co52, .int .i64 t348] rfl (by (try simp only [List.map_toArray, List.map_cons, List.map_nil]); first | done | rfl | (simp only [List.length_drop, List.length_take]; rfl)) ?_; (with_reducible refine (warp_Distance.calls k4 _ _ x10_3 _ _ x11_4 t348 t374 t375 _ ?side1 ?side2 ?side3 ?side4 A39.out).mono ?_); (case side1 => repeat (first | exact (Kd.R_reads' HO_10.out).2.2 | (with_reducible refine Kd.C_alloc ?_ _) | (with_reducible refine Kd.C_drewN ?_ _) | (with_reducible refine Kd.C_drew ?_))); (case side2 => exact (Kd.R_reads' HO_10.out).2.1); (case side3 => repeat (first | exact (Kd.R_reads' HO_11.out).2.2 | (with_reducible refine Kd.C_alloc ?_ _) | (with_reducible refine Kd.C_drewN ?_ _) | (with_reducible refine Kd.C_drew ?_))); (case side4 => exact (Kd.R_reads' HO_11.out).2.1); rintro e w53 ⟨rfl, hb⟩; refine ⟨_, rfl, ?_⟩; have n0_ := Aside0.mk (Kd.R_below (by (with_reducible repeat (first | apply Kd.R_alloc | apply Kd.R_drewN | apply Kd.R_drew)); exact HO_5.out) hb); have n1_ := Aside0.mk (Kd.R_below (by (with_reducible repeat (first | apply Kd.R_alloc | apply Kd.R_drewN | apply Kd.R_drew)); exact HO_6.out) hb); have n2_ := Aside0.mk (Kd.R_below (by (with_reducible repeat (first | apply Kd.R_alloc | apply Kd.R_drewN | apply Kd.R_drew)); exact HO_8.out) hb); have n3_ := Aside0.mk (Kd.R_below (by (with_reducible repeat (first | apply Kd.R_alloc | apply Kd.R_drewN | apply Kd.R_drew)); exact HO_9.out) hb); have n4_ := Aside0.mk (Kd.R_below (by (with_reducible repeat (first | apply Kd.R_alloc | apply Kd.R_drewN | apply Kd.R_drew)); exact HO_10.out) hb); have n5_ := Aside0.mk (Kd.R_below (by (with_reducible repeat (first | apply Kd.R_alloc | apply Kd.R_drewN | apply Kd.R_drew)); exact HO_11.out) hb); have n6_ := Aside0.mk (below_step (by repeat (first | (with_reducible first | exact HB.out | apply below_alloc | apply pw_below_drewN | apply below_drew1) | exact HB.out)) hb); clear HO_5; clear HO_6; clear HO_8; clear HO_9; clear HO_10; clear HO_11; clear HB; have HO_5 := n0_; have HO_6 := n1_; have HO_8 := n2_; have HO_9 := n3_; have HO_10 := n4_; have HO_11 := n5_; have HB := n6_; clear n0_ n1_ n2_ n3_ n4_ n5_ n6_; (try clear hb); (try clear hb2); (try clear hk); (try clear hi)) | (go_at_call 14; (with_reducible refine (shapesearchlaw14_awake.calls k4  t376 _ A46.out).mono ?_); rintro e w54 ⟨rfl, hb⟩; have n0_ := Aside0.mk (Kd.R_below (by (with_reducible repeat (first | apply Kd.R_alloc | apply Kd.R_drewN | apply Kd.R_drew)); exact HO_5.out) hb); have n1_ := Aside0.mk (Kd.R_below (by (with_reducible repeat (first | apply Kd.R_alloc | apply Kd.R_drewN | apply Kd.R_drew)); exact HO_6.out) hb); have n2_ := Aside0.mk (Kd.R_below (by (with_reducible repeat (first | apply Kd.R_alloc | apply Kd.R_drewN | apply Kd.R_drew)); exact HO_8.out) hb); have n3_ := Aside0.mk (Kd.R_below (by (with_reducible repeat (first | apply Kd.R_alloc | apply Kd.R_drewN | apply Kd.R_drew)); exact HO_9.out) hb); have n4_ := Aside0.mk (Kd.R_below (by (with_reducible repeat (first | apply Kd.R_alloc | apply Kd.R_drewN | apply Kd.R_drew)); exact HO_10.out) hb); have n5_ := Aside0.mk (Kd.R_below (by (with_reducible repeat (first | apply Kd.R_alloc | apply Kd.R_drewN | apply Kd.R_drew)); exact HO_11.out) hb); have n6_ := Aside0.mk (below_step (by repeat (first | (with_reducible first | exact HB.out | apply below_alloc | apply pw_below_drewN | apply below_drew1) | exact HB.out)) hb); clear HO_5; clear HO_6; clear HO_8; clear HO_9; clear HO_10; clear HO_11; clear HB; have HO_5 := n0_; have HO_6 := n1_; have HO_8 := n2_; have HO_9 := n3_; have HO_10 := n4_; have HO_11 := n5_; have HB := n6_; clear n0_ n1_ n2_ n3_ n4_ n5_ n6_; (try clear hb); (try clear hb2); (try clear hk); (try clear hi)))
                   go_ret
                   exact ⟨by first | rfl | (simp [errW_none, errW_some] <;> rfl) | (simp [*, errW_none, errW_some] <;> rfl), by repeat (first | (with_reducible first | exact HB.out | apply below_alloc | apply pw_below_drewN | apply below_drew1) | exact HB.out)⟩
                  ·rw [if_neg c45] at H
                   have c45b0 : (t370 == t374) = false := beq_eq_false_iff_ne.mpr c45
                   have c45b1 : (t370 != t374) = true := bne_iff_ne.mpr c45
                   obtain rfl := Option.some.inj H
                   go_wp2_with (first | ((with_reducible refine gate_callee (f := 12) rfl ?_); refine goesL_ (some 117) rfl rfl Try.func12 (by kernel_rfl) rfl #[.slice Ao7 x5_1.length co7, .slice Ao16 x6_2.length co16, .int .i64 t348] rfl (by (try simp only [List.map_toArray, List.map_cons, List.map_nil]); first | done | rfl | (simp only [List.length_drop, List.length_take]; rfl)) ?_; (with_reducible refine (warp_Distance.calls k4 _ _ x5_1 _ _ x6_2 t348 t370 t371 _ ?side1 ?side2 ?side3 ?side4 A37.out).mono ?_); (case side1 => repeat (first | exact (Kd.R_reads' HO_5.out).2.2 | (with_reducible refine Kd.C_alloc ?_ _) | (with_reducible refine Kd.C_drewN ?_ _) | (with_reducible refine Kd.C_drew ?_))); (case side2 => exact (Kd.R_reads' HO_5.out).2.1); (case side3 => repeat (first | exact (Kd.R_reads' HO_6.out).2.2 | (with_reducible refine Kd.C_alloc ?_ _) | (with_reducible refine Kd.C_drewN ?_ _) | (with_reducible refine Kd.C_drew ?_))); (case side4 => exact (Kd.R_reads' HO_6.out).2.1); rintro e w55 ⟨rfl, hb⟩; refine ⟨_, rfl, ?_⟩; have n0_ := Aside0.mk (Kd.R_below (by (with_reducible repeat (first | apply Kd.R_alloc | apply Kd.R_drewN | apply Kd.R_drew)); exact HO_5.out) hb); have n1_ := Aside0.mk (Kd.R_below (by (with_reducible repeat (first | apply Kd.R_alloc | apply Kd.R_drewN | apply Kd.R_drew)); exact HO_6.out) hb); have n2_ := Aside0.mk (Kd.R_below (by (with_reducible repeat (first | apply Kd.R_alloc | apply Kd.R_drewN | apply Kd.R_drew)); exact HO_8.out) hb); have n3_ := Aside0.mk (Kd.R_below (by (with_reducible repeat (first | apply Kd.R_alloc | apply Kd.R_drewN | apply Kd.R_drew)); exact HO_9.out) hb); have n4_ := Aside0.mk (Kd.R_below (by (with_reducible repeat (first | apply Kd.R_alloc | apply Kd.R_drewN | apply Kd.R_drew)); exact HO_10.out) hb); have n5_ := Aside0.mk (Kd.R_below (by (with_reducible repeat (first | apply Kd.R_alloc | apply Kd.R_drewN | apply Kd.R_drew)); exact HO_11.out) hb); have n6_ := Aside0.mk (below_step (by repeat (first | (with_reducible first | exact HB.out | apply below_alloc | apply pw_below_drewN | apply below_drew1) | exact HB.out)) hb); clear HO_5; clear HO_6; clear HO_8; clear HO_9; clear HO_10; clear HO_11; clear HB; have HO_5 := n0_; have HO_6 := n1_; have HO_8 := n2_; have HO_9 := n3_; have HO_10 := n4_; have HO_11 := n5_; have HB := n6_; clear n0_ n1_ n2_ n3_ n4_ n5_ n6_; (try clear hb); (try clear hb2); (try clear hk); (try clear hi); obtain ⟨Ao56, co56, eo56⟩ := Kd.R_slice HO_8.out; subst eo56; obtain ⟨Ao57, co57, eo57⟩ := Kd.R_slice HO_9.out; subst eo57) | ((with_reducible refine gate_callee (f := 12) rfl ?_); refine goesL_ (some 124) rfl rfl Try.func12 (by kernel_rfl) rfl #[.slice Ao56 x8_1.length co56, .slice Ao57 x9_2.length co57, .int .i64 t348] rfl (by (try simp only [List.map_toArray, List.map_cons, List.map_nil]); first | done | rfl | (simp only [List.length_drop, List.length_take]; rfl)) ?_; (with_reducible refine (warp_Distance.calls k4 _ _ x8_1 _ _ x9_2 t348 t372 t373 _ ?side1 ?side2 ?side3 ?side4 A38.out).mono ?_); (case side1 => repeat (first | exact (Kd.R_reads' HO_8.out).2.2 | (with_reducible refine Kd.C_alloc ?_ _) | (with_reducible refine Kd.C_drewN ?_ _) | (with_reducible refine Kd.C_drew ?_))); (case side2 => exact (Kd.R_reads' HO_8.out).2.1); (case side3 => repeat (first | exact (Kd.R_reads' HO_9.out).2.2 | (with_reducible refine Kd.C_alloc ?_ _) | (with_reducible refine Kd.C_drewN ?_ _) | (with_reducible refine Kd.C_drew ?_))); (case side4 => exact (Kd.R_reads' HO_9.out).2.1); rintro e w58 ⟨rfl, hb⟩; refine ⟨_, rfl, ?_⟩; have n0_ := Aside0.mk (Kd.R_below (by (with_reducible repeat (first | apply Kd.R_alloc | apply Kd.R_drewN | apply Kd.R_drew)); exact HO_5.out) hb); have n1_ := Aside0.mk (Kd.R_below (by (with_reducible repeat (first | apply Kd.R_alloc | apply Kd.R_drewN | apply Kd.R_drew)); exact HO_6.out) hb); have n2_ := Aside0.mk (Kd.R_below (by (with_reducible repeat (first | apply Kd.R_alloc | apply Kd.R_drewN | apply Kd.R_drew)); exact HO_8.out) hb); have n3_ := Aside0.mk (Kd.R_below (by (with_reducible repeat (first | apply Kd.R_alloc | apply Kd.R_drewN | apply Kd.R_drew)); exact HO_9.out) hb); have n4_ := Aside0.mk (Kd.R_below (by (with_reducible repeat (first | apply Kd.R_alloc | apply Kd.R_drewN | apply Kd.R_drew)); exact HO_10.out) hb); have n5_ := Aside0.mk (Kd.R_below (by (with_reducible repeat (first | apply Kd.R_alloc | apply Kd.R_drewN | apply Kd.R_drew)); exact HO_11.out) hb); have n6_ := Aside0.mk (below_step (by repeat (first | (with_reducible first | exact HB.out | apply below_alloc | apply pw_below_drewN | apply below_drew1) | exact HB.out)) hb); clear HO_5; clear HO_6; clear HO_8; clear HO_9; clear HO_10; clear HO_11; clear HB; have HO_5 := n0_; have HO_6 := n1_; have HO_8 := n2_; have HO_9 := n3_; have HO_10 := n4_; have HO_11 := n5_; have HB := n6_; clear n0_ n1_ n2_ n3_ n4_ n5_ n6_; (try clear hb); (try clear hb2); (try clear hk); (try clear hi); obtain ⟨Ao59, co59, eo59⟩ := Kd.R_slice HO_10.out; subst eo59; obtain ⟨Ao60, co60, eo60⟩ := Kd.R_slice HO_11.out; subst eo60) | ((with_reducible refine gate_callee (f := 12) rfl ?_); refine goesL_ (some 131) rfl rfl Try.func12 (by kernel_rfl) rfl #[.slice Ao59 x10_3.length co59, .slice Ao60 x11_4.length co60, .int .i64 t348] rfl (by (try simp only [List.map_toArray, List.map_cons, List.map_nil]); first | done | rfl | (simp only [List.length_drop, List.length_take]; rfl)) ?_; (with_reducible refine (warp_Distance.calls k4 _ _ x10_3 _ _ x11_4 t348 t374 t375 _ ?side1 ?side2 ?side3 ?side4 A39.out).mono ?_); (case side1 => repeat (first | exact (Kd.R_reads' HO_10.out).2.2 | (with_reducible refine Kd.C_alloc ?_ _) | (with_reducible refine Kd.C_drewN ?_ _) | (with_reducible refine Kd.C_drew ?_))); (case side2 => exact (Kd.R_reads' HO_10.out).2.1); (case side3 => repeat (first | exact (Kd.R_reads' HO_11.out).2.2 | (with_reducible refine Kd.C_alloc ?_ _) | (with_reducible refine Kd.C_drewN ?_ _) | (with_reducible refine Kd.C_drew ?_))); (case side4 => exact (Kd.R_reads' HO_11.out).2.1); rintro e w61 ⟨rfl, hb⟩; refine ⟨_, rfl, ?_⟩; have n0_ := Aside0.mk (Kd.R_below (by (with_reducible repeat (first | apply Kd.R_alloc | apply Kd.R_drewN | apply Kd.R_drew)); exact HO_5.out) hb); have n1_ := Aside0.mk (Kd.R_below (by (with_reducible repeat (first | apply Kd.R_alloc | apply Kd.R_drewN | apply Kd.R_drew)); exact HO_6.out) hb); have n2_ := Aside0.mk (Kd.R_below (by (with_reducible repeat (first | apply Kd.R_alloc | apply Kd.R_drewN | apply Kd.R_drew)); exact HO_8.out) hb); have n3_ := Aside0.mk (Kd.R_below (by (with_reducible repeat (first | apply Kd.R_alloc | apply Kd.R_drewN | apply Kd.R_drew)); exact HO_9.out) hb); have n4_ := Aside0.mk (Kd.R_below (by (with_reducible repeat (first | apply Kd.R_alloc | apply Kd.R_drewN | apply Kd.R_drew)); exact HO_10.out) hb); have n5_ := Aside0.mk (Kd.R_below (by (with_reducible repeat (first | apply Kd.R_alloc | apply Kd.R_drewN | apply Kd.R_drew)); exact HO_11.out) hb); have n6_ := Aside0.mk (below_step (by repeat (first | (with_reducible first | exact HB.out | apply below_alloc | apply pw_below_drewN | apply below_drew1) | exact HB.out)) hb); clear HO_5; clear HO_6; clear HO_8; clear HO_9; clear HO_10; clear HO_11; clear HB; have HO_5 := n0_; have HO_6 := n1_; have HO_8 := n2_; have HO_9 := n3_; have HO_10 := n4_; have HO_11 := n5_; have HB := n6_; clear n0_ n1_ n2_ n3_ n4_ n5_ n6_; (try clear hb); (try clear hb2); (try clear hk); (try clear hi)))
                   go_ret
                   exact ⟨by first | rfl | (simp [errW_none, errW_some] <;> rfl) | (simp [*, errW_none, errW_some] <;> rfl), by repeat (first | (with_reducible first | exact HB.out | apply below_alloc | apply pw_below_drewN | apply below_drew1) | exact HB.out)⟩
                 ·rw [if_neg c44] at H
                  have c44b0 : ((x5_1.length : Int) == (x6_2.length : Int)) = false := beq_eq_false_iff_ne.mpr c44
                  have c44b1 : ((x5_1.length : Int) != (x6_2.length : Int)) = true := bne_iff_ne.mpr c44
                  have c44b2 : (x5_1.length == x6_2.length) = false := by first | simpa using c44 | (simp at c44 ⊢; omega)
                  (try (have c44b0h := c44b0; simp only [hl5_1, hl6_2] at c44b0h))
                  replace H := Option.bind_eq_some_iff.mp H
                  obtain ⟨t377, A620, H⟩ := H
                  replace H : (some t377) = some r := H
                  have A62 := Aside0.mk A620
                  clear A620
                  obtain rfl := Option.some.inj H
                  go_wp2_with (first | ((with_reducible refine gate_callee (f := 12) rfl ?_); refine goesL_ (some 117) rfl rfl Try.func12 (by kernel_rfl) rfl #[.slice Ao7 x5_1.length co7, .slice Ao16 x6_2.length co16, .int .i64 t348] rfl (by (try simp only [List.map_toArray, List.map_cons, List.map_nil]); first | done | rfl | (simp only [List.length_drop, List.length_take]; rfl)) ?_; (with_reducible refine (warp_Distance.calls k4 _ _ x5_1 _ _ x6_2 t348 t370 t371 _ ?side1 ?side2 ?side3 ?side4 A37.out).mono ?_); (case side1 => repeat (first | exact (Kd.R_reads' HO_5.out).2.2 | (with_reducible refine Kd.C_alloc ?_ _) | (with_reducible refine Kd.C_drewN ?_ _) | (with_reducible refine Kd.C_drew ?_))); (case side2 => exact (Kd.R_reads' HO_5.out).2.1); (case side3 => repeat (first | exact (Kd.R_reads' HO_6.out).2.2 | (with_reducible refine Kd.C_alloc ?_ _) | (with_reducible refine Kd.C_drewN ?_ _) | (with_reducible refine Kd.C_drew ?_))); (case side4 => exact (Kd.R_reads' HO_6.out).2.1); rintro e w63 ⟨rfl, hb⟩; refine ⟨_, rfl, ?_⟩; have n0_ := Aside0.mk (Kd.R_below (by (with_reducible repeat (first | apply Kd.R_alloc | apply Kd.R_drewN | apply Kd.R_drew)); exact HO_5.out) hb); have n1_ := Aside0.mk (Kd.R_below (by (with_reducible repeat (first | apply Kd.R_alloc | apply Kd.R_drewN | apply Kd.R_drew)); exact HO_6.out) hb); have n2_ := Aside0.mk (Kd.R_below (by (with_reducible repeat (first | apply Kd.R_alloc | apply Kd.R_drewN | apply Kd.R_drew)); exact HO_8.out) hb); have n3_ := Aside0.mk (Kd.R_below (by (with_reducible repeat (first | apply Kd.R_alloc | apply Kd.R_drewN | apply Kd.R_drew)); exact HO_9.out) hb); have n4_ := Aside0.mk (Kd.R_below (by (with_reducible repeat (first | apply Kd.R_alloc | apply Kd.R_drewN | apply Kd.R_drew)); exact HO_10.out) hb); have n5_ := Aside0.mk (Kd.R_below (by (with_reducible repeat (first | apply Kd.R_alloc | apply Kd.R_drewN | apply Kd.R_drew)); exact HO_11.out) hb); have n6_ := Aside0.mk (below_step (by repeat (first | (with_reducible first | exact HB.out | apply below_alloc | apply pw_below_drewN | apply below_drew1) | exact HB.out)) hb); clear HO_5; clear HO_6; clear HO_8; clear HO_9; clear HO_10; clear HO_11; clear HB; have HO_5 := n0_; have HO_6 := n1_; have HO_8 := n2_; have HO_9 := n3_; have HO_10 := n4_; have HO_11 := n5_; have HB := n6_; clear n0_ n1_ n2_ n3_ n4_ n5_ n6_; (try clear hb); (try clear hb2); (try clear hk); (try clear hi); obtain ⟨Ao64, co64, eo64⟩ := Kd.R_slice HO_8.out; subst eo64; obtain ⟨Ao65, co65, eo65⟩ := Kd.R_slice HO_9.out; subst eo65) | ((with_reducible refine gate_callee (f := 12) rfl ?_); refine goesL_ (some 124) rfl rfl Try.func12 (by kernel_rfl) rfl #[.slice Ao64 x8_1.length co64, .slice Ao65 x9_2.length co65, .int .i64 t348] rfl (by (try simp only [List.map_toArray, List.map_cons, List.map_nil]); first | done | rfl | (simp only [List.length_drop, List.length_take]; rfl)) ?_; (with_reducible refine (warp_Distance.calls k4 _ _ x8_1 _ _ x9_2 t348 t372 t373 _ ?side1 ?side2 ?side3 ?side4 A38.out).mono ?_); (case side1 => repeat (first | exact (Kd.R_reads' HO_8.out).2.2 | (with_reducible refine Kd.C_alloc ?_ _) | (with_reducible refine Kd.C_drewN ?_ _) | (with_reducible refine Kd.C_drew ?_))); (case side2 => exact (Kd.R_reads' HO_8.out).2.1); (case side3 => repeat (first | exact (Kd.R_reads' HO_9.out).2.2 | (with_reducible refine Kd.C_alloc ?_ _) | (with_reducible refine Kd.C_drewN ?_ _) | (with_reducible refine Kd.C_drew ?_))); (case side4 => exact (Kd.R_reads' HO_9.out).2.1); rintro e w66 ⟨rfl, hb⟩; refine ⟨_, rfl, ?_⟩; have n0_ := Aside0.mk (Kd.R_below (by (with_reducible repeat (first | apply Kd.R_alloc | apply Kd.R_drewN | apply Kd.R_drew)); exact HO_5.out) hb); have n1_ := Aside0.mk (Kd.R_below (by (with_reducible repeat (first | apply Kd.R_alloc | apply Kd.R_drewN | apply Kd.R_drew)); exact HO_6.out) hb); have n2_ := Aside0.mk (Kd.R_below (by (with_reducible repeat (first | apply Kd.R_alloc | apply Kd.R_drewN | apply Kd.R_drew)); exact HO_8.out) hb); have n3_ := Aside0.mk (Kd.R_below (by (with_reducible repeat (first | apply Kd.R_alloc | apply Kd.R_drewN | apply Kd.R_drew)); exact HO_9.out) hb); have n4_ := Aside0.mk (Kd.R_below (by (with_reducible repeat (first | apply Kd.R_alloc | apply Kd.R_drewN | apply Kd.R_drew)); exact HO_10.out) hb); have n5_ := Aside0.mk (Kd.R_below (by (with_reducible repeat (first | apply Kd.R_alloc | apply Kd.R_drewN | apply Kd.R_drew)); exact HO_11.out) hb); have n6_ := Aside0.mk (below_step (by repeat (first | (with_reducible first | exact HB.out | apply below_alloc | apply pw_below_drewN | apply below_drew1) | exact HB.out)) hb); clear HO_5; clear HO_6; clear HO_8; clear HO_9; clear HO_10; clear HO_11; clear HB; have HO_5 := n0_; have HO_6 := n1_; have HO_8 := n2_; have HO_9 := n3_; have HO_10 := n4_; have HO_11 := n5_; have HB := n6_; clear n0_ n1_ n2_ n3_ n4_ n5_ n6_; (try clear hb); (try clear hb2); (try clear hk); (try clear hi); obtain ⟨Ao67, co67, eo67⟩ := Kd.R_slice HO_10.out; subst eo67; obtain ⟨Ao68, co68, eo68⟩ := Kd.R_slice HO_11.out; subst eo68) | ((with_reducible refine gate_callee (f := 12) rfl ?_); refine goesL_ (some 131) rfl rfl Try.func12 (by kernel_rfl) rfl #[.slice Ao67 x10_3.length co67, .slice Ao68 x11_4.length co68, .int .i64 t348] rfl (by (try simp only [List.map_toArray, List.map_cons, List.map_nil]); first | done | rfl | (simp only [List.length_drop, List.length_take]; rfl)) ?_; (with_reducible refine (warp_Distance.calls k4 _ _ x10_3 _ _ x11_4 t348 t374 t375 _ ?side1 ?side2 ?side3 ?side4 A39.out).mono ?_); (case side1 => repeat (first | exact (Kd.R_reads' HO_10.out).2.2 | (with_reducible refine Kd.C_alloc ?_ _) | (with_reducible refine Kd.C_drewN ?_ _) | (with_reducible refine Kd.C_drew ?_))); (case side2 => exact (Kd.R_reads' HO_10.out).2.1); (case side3 => repeat (first | exact (Kd.R_reads' HO_11.out).2.2 | (with_reducible refine Kd.C_alloc ?_ _) | (with_reducible refine Kd.C_drewN ?_ _) | (with_reducible refine Kd.C_drew ?_))); (case side4 => exact (Kd.R_reads' HO_11.out).2.1); rintro e w69 ⟨rfl, hb⟩; refine ⟨_, rfl, ?_⟩; have n0_ := Aside0.mk (Kd.R_below (by (with_reducible repeat (first | apply Kd.R_alloc | apply Kd.R_drewN | apply Kd.R_drew)); exact HO_5.out) hb); have n1_ := Aside0.mk (Kd.R_below (by (with_reducible repeat (first | apply Kd.R_alloc | apply Kd.R_drewN | apply Kd.R_drew)); exact HO_6.out) hb); have n2_ := Aside0.mk (Kd.R_below (by (with_reducible repeat (first | apply Kd.R_alloc | apply Kd.R_drewN | apply Kd.R_drew)); exact HO_8.out) hb); have n3_ := Aside0.mk (Kd.R_below (by (with_reducible repeat (first | apply Kd.R_alloc | apply Kd.R_drewN | apply Kd.R_drew)); exact HO_9.out) hb); have n4_ := Aside0.mk (Kd.R_below (by (with_reducible repeat (first | apply Kd.R_alloc | apply Kd.R_drewN | apply Kd.R_drew)); exact HO_10.out) hb); have n5_ := Aside0.mk (Kd.R_below (by (with_reducible repeat (first | apply Kd.R_alloc | apply Kd.R_drewN | apply Kd.R_drew)); exact HO_11.out) hb); have n6_ := Aside0.mk (below_step (by repeat (first | (with_reducible first | exact HB.out | apply below_alloc | apply pw_below_drewN | apply below_drew1) | exact HB.out)) hb); clear HO_5; clear HO_6; clear HO_8; clear HO_9; clear HO_10; clear HO_11; clear HB; have HO_5 := n0_; have HO_6 := n1_; have HO_8 := n2_; have HO_9 := n3_; have HO_10 := n4_; have HO_11 := n5_; have HB := n6_; clear n0_ n1_ n2_ n3_ n4_ n5_ n6_; (try clear hb); (try clear hb2); (try clear hk); (try clear hi)) | (go_at_call 14; (with_reducible refine (shapesearchlaw14_awake.calls k4  t377 _ A62.out).mono ?_); rintro e w70 ⟨rfl, hb⟩; have n0_ := Aside0.mk (Kd.R_below (by (with_reducible repeat (first | apply Kd.R_alloc | apply Kd.R_drewN | apply Kd.R_drew)); exact HO_5.out) hb); have n1_ := Aside0.mk (Kd.R_below (by (with_reducible repeat (first | apply Kd.R_alloc | apply Kd.R_drewN | apply Kd.R_drew)); exact HO_6.out) hb); have n2_ := Aside0.mk (Kd.R_below (by (with_reducible repeat (first | apply Kd.R_alloc | apply Kd.R_drewN | apply Kd.R_drew)); exact HO_8.out) hb); have n3_ := Aside0.mk (Kd.R_below (by (with_reducible repeat (first | apply Kd.R_alloc | apply Kd.R_drewN | apply Kd.R_drew)); exact HO_9.out) hb); have n4_ := Aside0.mk (Kd.R_below (by (with_reducible repeat (first | apply Kd.R_alloc | apply Kd.R_drewN | apply Kd.R_drew)); exact HO_10.out) hb); have n5_ := Aside0.mk (Kd.R_below (by (with_reducible repeat (first | apply Kd.R_alloc | apply Kd.R_drewN | apply Kd.R_drew)); exact HO_11.out) hb); have n6_ := Aside0.mk (below_step (by repeat (first | (with_reducible first | exact HB.out | apply below_alloc | apply pw_below_drewN | apply below_drew1) | exact HB.out)) hb); clear HO_5; clear HO_6; clear HO_8; clear HO_9; clear HO_10; clear HO_11; clear HB; have HO_5 := n0_; have HO_6 := n1_; have HO_8 := n2_; have HO_9 := n3_; have HO_10 := n4_; have HO_11 := n5_; have HB := n6_; clear n0_ n1_ n2_ n3_ n4_ n5_ n6_; (try clear hb); (try clear hb2); (try clear hk); (try clear hi)))
                  go_ret
                  exact ⟨by first | rfl | (simp [errW_none, errW_some] <;> rfl) | (simp [*, errW_none, errW_some] <;> rfl), by repeat (first | (with_reducible first | exact HB.out | apply below_alloc | apply pw_below_drewN | apply below_drew1) | exact HB.out)⟩
                ·rw [if_neg c43] at H
                 have c43b0 : (t370 == t372) = false := beq_eq_false_iff_ne.mpr c43
                 have c43b1 : (t370 != t372) = true := bne_iff_ne.mpr c43
                 obtain rfl := Option.some.inj H
                 go_wp2_with (first | ((with_reducible refine gate_callee (f := 12) rfl ?_); refine goesL_ (some 117) rfl rfl Try.func12 (by kernel_rfl) rfl #[.slice Ao7 x5_1.length co7, .slice Ao16 x6_2.length co16, .int .i64 t348] rfl (by (try simp only [List.map_toArray, List.map_cons, List.map_nil]); first | done | rfl | (simp only [List.length_drop, List.length_take]; rfl)) ?_; (with_reducible refine (warp_Distance.calls k4 _ _ x5_1 _ _ x6_2 t348 t370 t371 _ ?side1 ?side2 ?side3 ?side4 A37.out).mono ?_); (case side1 => repeat (first | exact (Kd.R_reads' HO_5.out).2.2 | (with_reducible refine Kd.C_alloc ?_ _) | (with_reducible refine Kd.C_drewN ?_ _) | (with_reducible refine Kd.C_drew ?_))); (case side2 => exact (Kd.R_reads' HO_5.out).2.1); (case side3 => repeat (first | exact (Kd.R_reads' HO_6.out).2.2 | (with_reducible refine Kd.C_alloc ?_ _) | (with_reducible refine Kd.C_drewN ?_ _) | (with_reducible refine Kd.C_drew ?_))); (case side4 => exact (Kd.R_reads' HO_6.out).2.1); rintro e w71 ⟨rfl, hb⟩; refine ⟨_, rfl, ?_⟩; have n0_ := Aside0.mk (Kd.R_below (by (with_reducible repeat (first | apply Kd.R_alloc | apply Kd.R_drewN | apply Kd.R_drew)); exact HO_5.out) hb); have n1_ := Aside0.mk (Kd.R_below (by (with_reducible repeat (first | apply Kd.R_alloc | apply Kd.R_drewN | apply Kd.R_drew)); exact HO_6.out) hb); have n2_ := Aside0.mk (Kd.R_below (by (with_reducible repeat (first | apply Kd.R_alloc | apply Kd.R_drewN | apply Kd.R_drew)); exact HO_8.out) hb); have n3_ := Aside0.mk (Kd.R_below (by (with_reducible repeat (first | apply Kd.R_alloc | apply Kd.R_drewN | apply Kd.R_drew)); exact HO_9.out) hb); have n4_ := Aside0.mk (Kd.R_below (by (with_reducible repeat (first | apply Kd.R_alloc | apply Kd.R_drewN | apply Kd.R_drew)); exact HO_10.out) hb); have n5_ := Aside0.mk (Kd.R_below (by (with_reducible repeat (first | apply Kd.R_alloc | apply Kd.R_drewN | apply Kd.R_drew)); exact HO_11.out) hb); have n6_ := Aside0.mk (below_step (by repeat (first | (with_reducible first | exact HB.out | apply below_alloc | apply pw_below_drewN | apply below_drew1) | exact HB.out)) hb); clear HO_5; clear HO_6; clear HO_8; clear HO_9; clear HO_10; clear HO_11; clear HB; have HO_5 := n0_; have HO_6 := n1_; have HO_8 := n2_; have HO_9 := n3_; have HO_10 := n4_; have HO_11 := n5_; have HB := n6_; clear n0_ n1_ n2_ n3_ n4_ n5_ n6_; (try clear hb); (try clear hb2); (try clear hk); (try clear hi); obtain ⟨Ao72, co72, eo72⟩ := Kd.R_slice HO_8.out; subst eo72; obtain ⟨Ao73, co73, eo73⟩ := Kd.R_slice HO_9.out; subst eo73) | ((with_reducible refine gate_callee (f := 12) rfl ?_); refine goesL_ (some 124) rfl rfl Try.func12 (by kernel_rfl) rfl #[.slice Ao72 x8_1.length co72, .slice Ao73 x9_2.length co73, .int .i64 t348] rfl (by (try simp only [List.map_toArray, List.map_cons, List.map_nil]); first | done | rfl | (simp only [List.length_drop, List.length_take]; rfl)) ?_; (with_reducible refine (warp_Distance.calls k4 _ _ x8_1 _ _ x9_2 t348 t372 t373 _ ?side1 ?side2 ?side3 ?side4 A38.out).mono ?_); (case side1 => repeat (first | exact (Kd.R_reads' HO_8.out).2.2 | (with_reducible refine Kd.C_alloc ?_ _) | (with_reducible refine Kd.C_drewN ?_ _) | (with_reducible refine Kd.C_drew ?_))); (case side2 => exact (Kd.R_reads' HO_8.out).2.1); (case side3 => repeat (first | exact (Kd.R_reads' HO_9.out).2.2 | (with_reducible refine Kd.C_alloc ?_ _) | (with_reducible refine Kd.C_drewN ?_ _) | (with_reducible refine Kd.C_drew ?_))); (case side4 => exact (Kd.R_reads' HO_9.out).2.1); rintro e w74 ⟨rfl, hb⟩; refine ⟨_, rfl, ?_⟩; have n0_ := Aside0.mk (Kd.R_below (by (with_reducible repeat (first | apply Kd.R_alloc | apply Kd.R_drewN | apply Kd.R_drew)); exact HO_5.out) hb); have n1_ := Aside0.mk (Kd.R_below (by (with_reducible repeat (first | apply Kd.R_alloc | apply Kd.R_drewN | apply Kd.R_drew)); exact HO_6.out) hb); have n2_ := Aside0.mk (Kd.R_below (by (with_reducible repeat (first | apply Kd.R_alloc | apply Kd.R_drewN | apply Kd.R_drew)); exact HO_8.out) hb); have n3_ := Aside0.mk (Kd.R_below (by (with_reducible repeat (first | apply Kd.R_alloc | apply Kd.R_drewN | apply Kd.R_drew)); exact HO_9.out) hb); have n4_ := Aside0.mk (Kd.R_below (by (with_reducible repeat (first | apply Kd.R_alloc | apply Kd.R_drewN | apply Kd.R_drew)); exact HO_10.out) hb); have n5_ := Aside0.mk (Kd.R_below (by (with_reducible repeat (first | apply Kd.R_alloc | apply Kd.R_drewN | apply Kd.R_drew)); exact HO_11.out) hb); have n6_ := Aside0.mk (below_step (by repeat (first | (with_reducible first | exact HB.out | apply below_alloc | apply pw_below_drewN | apply below_drew1) | exact HB.out)) hb); clear HO_5; clear HO_6; clear HO_8; clear HO_9; clear HO_10; clear HO_11; clear HB; have HO_5 := n0_; have HO_6 := n1_; have HO_8 := n2_; have HO_9 := n3_; have HO_10 := n4_; have HO_11 := n5_; have HB := n6_; clear n0_ n1_ n2_ n3_ n4_ n5_ n6_; (try clear hb); (try clear hb2); (try clear hk); (try clear hi); obtain ⟨Ao75, co75, eo75⟩ := Kd.R_slice HO_10.out; subst eo75; obtain ⟨Ao76, co76, eo76⟩ := Kd.R_slice HO_11.out; subst eo76) | ((with_reducible refine gate_callee (f := 12) rfl ?_); refine goesL_ (some 131) rfl rfl Try.func12 (by kernel_rfl) rfl #[.slice Ao75 x10_3.length co75, .slice Ao76 x11_4.length co76, .int .i64 t348] rfl (by (try simp only [List.map_toArray, List.map_cons, List.map_nil]); first | done | rfl | (simp only [List.length_drop, List.length_take]; rfl)) ?_; (with_reducible refine (warp_Distance.calls k4 _ _ x10_3 _ _ x11_4 t348 t374 t375 _ ?side1 ?side2 ?side3 ?side4 A39.out).mono ?_); (case side1 => repeat (first | exact (Kd.R_reads' HO_10.out).2.2 | (with_reducible refine Kd.C_alloc ?_ _) | (with_reducible refine Kd.C_drewN ?_ _) | (with_reducible refine Kd.C_drew ?_))); (case side2 => exact (Kd.R_reads' HO_10.out).2.1); (case side3 => repeat (first | exact (Kd.R_reads' HO_11.out).2.2 | (with_reducible refine Kd.C_alloc ?_ _) | (with_reducible refine Kd.C_drewN ?_ _) | (with_reducible refine Kd.C_drew ?_))); (case side4 => exact (Kd.R_reads' HO_11.out).2.1); rintro e w77 ⟨rfl, hb⟩; refine ⟨_, rfl, ?_⟩; have n0_ := Aside0.mk (Kd.R_below (by (with_reducible repeat (first | apply Kd.R_alloc | apply Kd.R_drewN | apply Kd.R_drew)); exact HO_5.out) hb); have n1_ := Aside0.mk (Kd.R_below (by (with_reducible repeat (first | apply Kd.R_alloc | apply Kd.R_drewN | apply Kd.R_drew)); exact HO_6.out) hb); have n2_ := Aside0.mk (Kd.R_below (by (with_reducible repeat (first | apply Kd.R_alloc | apply Kd.R_drewN | apply Kd.R_drew)); exact HO_8.out) hb); have n3_ := Aside0.mk (Kd.R_below (by (with_reducible repeat (first | apply Kd.R_alloc | apply Kd.R_drewN | apply Kd.R_drew)); exact HO_9.out) hb); have n4_ := Aside0.mk (Kd.R_below (by (with_reducible repeat (first | apply Kd.R_alloc | apply Kd.R_drewN | apply Kd.R_drew)); exact HO_10.out) hb); have n5_ := Aside0.mk (Kd.R_below (by (with_reducible repeat (first | apply Kd.R_alloc | apply Kd.R_drewN | apply Kd.R_drew)); exact HO_11.out) hb); have n6_ := Aside0.mk (below_step (by repeat (first | (with_reducible first | exact HB.out | apply below_alloc | apply pw_below_drewN | apply below_drew1) | exact HB.out)) hb); clear HO_5; clear HO_6; clear HO_8; clear HO_9; clear HO_10; clear HO_11; clear HB; have HO_5 := n0_; have HO_6 := n1_; have HO_8 := n2_; have HO_9 := n3_; have HO_10 := n4_; have HO_11 := n5_; have HB := n6_; clear n0_ n1_ n2_ n3_ n4_ n5_ n6_; (try clear hb); (try clear hb2); (try clear hk); (try clear hi)))
                 go_ret
                 exact ⟨by first | rfl | (simp [errW_none, errW_some] <;> rfl) | (simp [*, errW_none, errW_some] <;> rfl), by repeat (first | (with_reducible first | exact HB.out | apply below_alloc | apply pw_below_drewN | apply below_drew1) | exact HB.out)⟩
               ·rw [if_neg c42] at H
                have c42b0 : (t375 == 0) = false := beq_eq_false_iff_ne.mpr c42
                have c42b1 : (t375 != 0) = true := bne_iff_ne.mpr c42
                obtain rfl := Option.some.inj H
                go_wp2_with (first | ((with_reducible refine gate_callee (f := 12) rfl ?_); refine goesL_ (some 117) rfl rfl Try.func12 (by kernel_rfl) rfl #[.slice Ao7 x5_1.length co7, .slice Ao16 x6_2.length co16, .int .i64 t348] rfl (by (try simp only [List.map_toArray, List.map_cons, List.map_nil]); first | done | rfl | (simp only [List.length_drop, List.length_take]; rfl)) ?_; (with_reducible refine (warp_Distance.calls k4 _ _ x5_1 _ _ x6_2 t348 t370 t371 _ ?side1 ?side2 ?side3 ?side4 A37.out).mono ?_); (case side1 => repeat (first | exact (Kd.R_reads' HO_5.out).2.2 | (with_reducible refine Kd.C_alloc ?_ _) | (with_reducible refine Kd.C_drewN ?_ _) | (with_reducible refine Kd.C_drew ?_))); (case side2 => exact (Kd.R_reads' HO_5.out).2.1); (case side3 => repeat (first | exact (Kd.R_reads' HO_6.out).2.2 | (with_reducible refine Kd.C_alloc ?_ _) | (with_reducible refine Kd.C_drewN ?_ _) | (with_reducible refine Kd.C_drew ?_))); (case side4 => exact (Kd.R_reads' HO_6.out).2.1); rintro e w78 ⟨rfl, hb⟩; refine ⟨_, rfl, ?_⟩; have n0_ := Aside0.mk (Kd.R_below (by (with_reducible repeat (first | apply Kd.R_alloc | apply Kd.R_drewN | apply Kd.R_drew)); exact HO_5.out) hb); have n1_ := Aside0.mk (Kd.R_below (by (with_reducible repeat (first | apply Kd.R_alloc | apply Kd.R_drewN | apply Kd.R_drew)); exact HO_6.out) hb); have n2_ := Aside0.mk (Kd.R_below (by (with_reducible repeat (first | apply Kd.R_alloc | apply Kd.R_drewN | apply Kd.R_drew)); exact HO_8.out) hb); have n3_ := Aside0.mk (Kd.R_below (by (with_reducible repeat (first | apply Kd.R_alloc | apply Kd.R_drewN | apply Kd.R_drew)); exact HO_9.out) hb); have n4_ := Aside0.mk (Kd.R_below (by (with_reducible repeat (first | apply Kd.R_alloc | apply Kd.R_drewN | apply Kd.R_drew)); exact HO_10.out) hb); have n5_ := Aside0.mk (Kd.R_below (by (with_reducible repeat (first | apply Kd.R_alloc | apply Kd.R_drewN | apply Kd.R_drew)); exact HO_11.out) hb); have n6_ := Aside0.mk (below_step (by repeat (first | (with_reducible first | exact HB.out | apply below_alloc | apply pw_below_drewN | apply below_drew1) | exact HB.out)) hb); clear HO_5; clear HO_6; clear HO_8; clear HO_9; clear HO_10; clear HO_11; clear HB; have HO_5 := n0_; have HO_6 := n1_; have HO_8 := n2_; have HO_9 := n3_; have HO_10 := n4_; have HO_11 := n5_; have HB := n6_; clear n0_ n1_ n2_ n3_ n4_ n5_ n6_; (try clear hb); (try clear hb2); (try clear hk); (try clear hi); obtain ⟨Ao79, co79, eo79⟩ := Kd.R_slice HO_8.out; subst eo79; obtain ⟨Ao80, co80, eo80⟩ := Kd.R_slice HO_9.out; subst eo80) | ((with_reducible refine gate_callee (f := 12) rfl ?_); refine goesL_ (some 124) rfl rfl Try.func12 (by kernel_rfl) rfl #[.slice Ao79 x8_1.length co79, .slice Ao80 x9_2.length co80, .int .i64 t348] rfl (by (try simp only [List.map_toArray, List.map_cons, List.map_nil]); first | done | rfl | (simp only [List.length_drop, List.length_take]; rfl)) ?_; (with_reducible refine (warp_Distance.calls k4 _ _ x8_1 _ _ x9_2 t348 t372 t373 _ ?side1 ?side2 ?side3 ?side4 A38.out).mono ?_); (case side1 => repeat (first | exact (Kd.R_reads' HO_8.out).2.2 | (with_reducible refine Kd.C_alloc ?_ _) | (with_reducible refine Kd.C_drewN ?_ _) | (with_reducible refine Kd.C_drew ?_))); (case side2 => exact (Kd.R_reads' HO_8.out).2.1); (case side3 => repeat (first | exact (Kd.R_reads' HO_9.out).2.2 | (with_reducible refine Kd.C_alloc ?_ _) | (with_reducible refine Kd.C_drewN ?_ _) | (with_reducible refine Kd.C_drew ?_))); (case side4 => exact (Kd.R_reads' HO_9.out).2.1); rintro e w81 ⟨rfl, hb⟩; refine ⟨_, rfl, ?_⟩; have n0_ := Aside0.mk (Kd.R_below (by (with_reducible repeat (first | apply Kd.R_alloc | apply Kd.R_drewN | apply Kd.R_drew)); exact HO_5.out) hb); have n1_ := Aside0.mk (Kd.R_below (by (with_reducible repeat (first | apply Kd.R_alloc | apply Kd.R_drewN | apply Kd.R_drew)); exact HO_6.out) hb); have n2_ := Aside0.mk (Kd.R_below (by (with_reducible repeat (first | apply Kd.R_alloc | apply Kd.R_drewN | apply Kd.R_drew)); exact HO_8.out) hb); have n3_ := Aside0.mk (Kd.R_below (by (with_reducible repeat (first | apply Kd.R_alloc | apply Kd.R_drewN | apply Kd.R_drew)); exact HO_9.out) hb); have n4_ := Aside0.mk (Kd.R_below (by (with_reducible repeat (first | apply Kd.R_alloc | apply Kd.R_drewN | apply Kd.R_drew)); exact HO_10.out) hb); have n5_ := Aside0.mk (Kd.R_below (by (with_reducible repeat (first | apply Kd.R_alloc | apply Kd.R_drewN | apply Kd.R_drew)); exact HO_11.out) hb); have n6_ := Aside0.mk (below_step (by repeat (first | (with_reducible first | exact HB.out | apply below_alloc | apply pw_below_drewN | apply below_drew1) | exact HB.out)) hb); clear HO_5; clear HO_6; clear HO_8; clear HO_9; clear HO_10; clear HO_11; clear HB; have HO_5 := n0_; have HO_6 := n1_; have HO_8 := n2_; have HO_9 := n3_; have HO_10 := n4_; have HO_11 := n5_; have HB := n6_; clear n0_ n1_ n2_ n3_ n4_ n5_ n6_; (try clear hb); (try clear hb2); (try clear hk); (try clear hi); obtain ⟨Ao82, co82, eo82⟩ := Kd.R_slice HO_10.out; subst eo82; obtain ⟨Ao83, co83, eo83⟩ := Kd.R_slice HO_11.out; subst eo83) | ((with_reducible refine gate_callee (f := 12) rfl ?_); refine goesL_ (some 131) rfl rfl Try.func12 (by kernel_rfl) rfl #[.slice Ao82 x10_3.length co82, .slice Ao83 x11_4.length co83, .int .i64 t348] rfl (by (try simp only [List.map_toArray, List.map_cons, List.map_nil]); first | done | rfl | (simp only [List.length_drop, List.length_take]; rfl)) ?_; (with_reducible refine (warp_Distance.calls k4 _ _ x10_3 _ _ x11_4 t348 t374 t375 _ ?side1 ?side2 ?side3 ?side4 A39.out).mono ?_); (case side1 => repeat (first | exact (Kd.R_reads' HO_10.out).2.2 | (with_reducible refine Kd.C_alloc ?_ _) | (with_reducible refine Kd.C_drewN ?_ _) | (with_reducible refine Kd.C_drew ?_))); (case side2 => exact (Kd.R_reads' HO_10.out).2.1); (case side3 => repeat (first | exact (Kd.R_reads' HO_11.out).2.2 | (with_reducible refine Kd.C_alloc ?_ _) | (with_reducible refine Kd.C_drewN ?_ _) | (with_reducible refine Kd.C_drew ?_))); (case side4 => exact (Kd.R_reads' HO_11.out).2.1); rintro e w84 ⟨rfl, hb⟩; refine ⟨_, rfl, ?_⟩; have n0_ := Aside0.mk (Kd.R_below (by (with_reducible repeat (first | apply Kd.R_alloc | apply Kd.R_drewN | apply Kd.R_drew)); exact HO_5.out) hb); have n1_ := Aside0.mk (Kd.R_below (by (with_reducible repeat (first | apply Kd.R_alloc | apply Kd.R_drewN | apply Kd.R_drew)); exact HO_6.out) hb); have n2_ := Aside0.mk (Kd.R_below (by (with_reducible repeat (first | apply Kd.R_alloc | apply Kd.R_drewN | apply Kd.R_drew)); exact HO_8.out) hb); have n3_ := Aside0.mk (Kd.R_below (by (with_reducible repeat (first | apply Kd.R_alloc | apply Kd.R_drewN | apply Kd.R_drew)); exact HO_9.out) hb); have n4_ := Aside0.mk (Kd.R_below (by (with_reducible repeat (first | apply Kd.R_alloc | apply Kd.R_drewN | apply Kd.R_drew)); exact HO_10.out) hb); have n5_ := Aside0.mk (Kd.R_below (by (with_reducible repeat (first | apply Kd.R_alloc | apply Kd.R_drewN | apply Kd.R_drew)); exact HO_11.out) hb); have n6_ := Aside0.mk (below_step (by repeat (first | (with_reducible first | exact HB.out | apply below_alloc | apply pw_below_drewN | apply below_drew1) | exact HB.out)) hb); clear HO_5; clear HO_6; clear HO_8; clear HO_9; clear HO_10; clear HO_11; clear HB; have HO_5 := n0_; have HO_6 := n1_; have HO_8 := n2_; have HO_9 := n3_; have HO_10 := n4_; have HO_11 := n5_; have HB := n6_; clear n0_ n1_ n2_ n3_ n4_ n5_ n6_; (try clear hb); (try clear hb2); (try clear hk); (try clear hi)))
                go_ret
                exact ⟨by first | rfl | (simp [errW_none, errW_some] <;> rfl) | (simp [*, errW_none, errW_some] <;> rfl), by repeat (first | (with_reducible first | exact HB.out | apply below_alloc | apply pw_below_drewN | apply below_drew1) | exact HB.out)⟩
              ·rw [if_neg c41] at H
               have c41b0 : (t373 == 0) = false := beq_eq_false_iff_ne.mpr c41
               have c41b1 : (t373 != 0) = true := bne_iff_ne.mpr c41
               obtain rfl := Option.some.inj H
               go_wp2_with (first | ((with_reducible refine gate_callee (f := 12) rfl ?_); refine goesL_ (some 117) rfl rfl Try.func12 (by kernel_rfl) rfl #[.slice Ao7 x5_1.length co7, .slice Ao16 x6_2.length co16, .int .i64 t348] rfl (by (try simp only [List.map_toArray, List.map_cons, List.map_nil]); first | done | rfl | (simp only [List.length_drop, List.length_take]; rfl)) ?_; (with_reducible refine (warp_Distance.calls k4 _ _ x5_1 _ _ x6_2 t348 t370 t371 _ ?side1 ?side2 ?side3 ?side4 A37.out).mono ?_); (case side1 => repeat (first | exact (Kd.R_reads' HO_5.out).2.2 | (with_reducible refine Kd.C_alloc ?_ _) | (with_reducible refine Kd.C_drewN ?_ _) | (with_reducible refine Kd.C_drew ?_))); (case side2 => exact (Kd.R_reads' HO_5.out).2.1); (case side3 => repeat (first | exact (Kd.R_reads' HO_6.out).2.2 | (with_reducible refine Kd.C_alloc ?_ _) | (with_reducible refine Kd.C_drewN ?_ _) | (with_reducible refine Kd.C_drew ?_))); (case side4 => exact (Kd.R_reads' HO_6.out).2.1); rintro e w85 ⟨rfl, hb⟩; refine ⟨_, rfl, ?_⟩; have n0_ := Aside0.mk (Kd.R_below (by (with_reducible repeat (first | apply Kd.R_alloc | apply Kd.R_drewN | apply Kd.R_drew)); exact HO_5.out) hb); have n1_ := Aside0.mk (Kd.R_below (by (with_reducible repeat (first | apply Kd.R_alloc | apply Kd.R_drewN | apply Kd.R_drew)); exact HO_6.out) hb); have n2_ := Aside0.mk (Kd.R_below (by (with_reducible repeat (first | apply Kd.R_alloc | apply Kd.R_drewN | apply Kd.R_drew)); exact HO_8.out) hb); have n3_ := Aside0.mk (Kd.R_below (by (with_reducible repeat (first | apply Kd.R_alloc | apply Kd.R_drewN | apply Kd.R_drew)); exact HO_9.out) hb); have n4_ := Aside0.mk (Kd.R_below (by (with_reducible repeat (first | apply Kd.R_alloc | apply Kd.R_drewN | apply Kd.R_drew)); exact HO_10.out) hb); have n5_ := Aside0.mk (Kd.R_below (by (with_reducible repeat (first | apply Kd.R_alloc | apply Kd.R_drewN | apply Kd.R_drew)); exact HO_11.out) hb); have n6_ := Aside0.mk (below_step (by repeat (first | (with_reducible first | exact HB.out | apply below_alloc | apply pw_below_drewN | apply below_drew1) | exact HB.out)) hb); clear HO_5; clear HO_6; clear HO_8; clear HO_9; clear HO_10; clear HO_11; clear HB; have HO_5 := n0_; have HO_6 := n1_; have HO_8 := n2_; have HO_9 := n3_; have HO_10 := n4_; have HO_11 := n5_; have HB := n6_; clear n0_ n1_ n2_ n3_ n4_ n5_ n6_; (try clear hb); (try clear hb2); (try clear hk); (try clear hi); obtain ⟨Ao86, co86, eo86⟩ := Kd.R_slice HO_8.out; subst eo86; obtain ⟨Ao87, co87, eo87⟩ := Kd.R_slice HO_9.out; subst eo87) | ((with_reducible refine gate_callee (f := 12) rfl ?_); refine goesL_ (some 124) rfl rfl Try.func12 (by kernel_rfl) rfl #[.slice Ao86 x8_1.length co86, .slice Ao87 x9_2.length co87, .int .i64 t348] rfl (by (try simp only [List.map_toArray, List.map_cons, List.map_nil]); first | done | rfl | (simp only [List.length_drop, List.length_take]; rfl)) ?_; (with_reducible refine (warp_Distance.calls k4 _ _ x8_1 _ _ x9_2 t348 t372 t373 _ ?side1 ?side2 ?side3 ?side4 A38.out).mono ?_); (case side1 => repeat (first | exact (Kd.R_reads' HO_8.out).2.2 | (with_reducible refine Kd.C_alloc ?_ _) | (with_reducible refine Kd.C_drewN ?_ _) | (with_reducible refine Kd.C_drew ?_))); (case side2 => exact (Kd.R_reads' HO_8.out).2.1); (case side3 => repeat (first | exact (Kd.R_reads' HO_9.out).2.2 | (with_reducible refine Kd.C_alloc ?_ _) | (with_reducible refine Kd.C_drewN ?_ _) | (with_reducible refine Kd.C_drew ?_))); (case side4 => exact (Kd.R_reads' HO_9.out).2.1); rintro e w88 ⟨rfl, hb⟩; refine ⟨_, rfl, ?_⟩; have n0_ := Aside0.mk (Kd.R_below (by (with_reducible repeat (first | apply Kd.R_alloc | apply Kd.R_drewN | apply Kd.R_drew)); exact HO_5.out) hb); have n1_ := Aside0.mk (Kd.R_below (by (with_reducible repeat (first | apply Kd.R_alloc | apply Kd.R_drewN | apply Kd.R_drew)); exact HO_6.out) hb); have n2_ := Aside0.mk (Kd.R_below (by (with_reducible repeat (first | apply Kd.R_alloc | apply Kd.R_drewN | apply Kd.R_drew)); exact HO_8.out) hb); have n3_ := Aside0.mk (Kd.R_below (by (with_reducible repeat (first | apply Kd.R_alloc | apply Kd.R_drewN | apply Kd.R_drew)); exact HO_9.out) hb); have n4_ := Aside0.mk (Kd.R_below (by (with_reducible repeat (first | apply Kd.R_alloc | apply Kd.R_drewN | apply Kd.R_drew)); exact HO_10.out) hb); have n5_ := Aside0.mk (Kd.R_below (by (with_reducible repeat (first | apply Kd.R_alloc | apply Kd.R_drewN | apply Kd.R_drew)); exact HO_11.out) hb); have n6_ := Aside0.mk (below_step (by repeat (first | (with_reducible first | exact HB.out | apply below_alloc | apply pw_below_drewN | apply below_drew1) | exact HB.out)) hb); clear HO_5; clear HO_6; clear HO_8; clear HO_9; clear HO_10; clear HO_11; clear HB; have HO_5 := n0_; have HO_6 := n1_; have HO_8 := n2_; have HO_9 := n3_; have HO_10 := n4_; have HO_11 := n5_; have HB := n6_; clear n0_ n1_ n2_ n3_ n4_ n5_ n6_; (try clear hb); (try clear hb2); (try clear hk); (try clear hi); obtain ⟨Ao89, co89, eo89⟩ := Kd.R_slice HO_10.out; subst eo89; obtain ⟨Ao90, co90, eo90⟩ := Kd.R_slice HO_11.out; subst eo90) | ((with_reducible refine gate_callee (f := 12) rfl ?_); refine goesL_ (some 131) rfl rfl Try.func12 (by kernel_rfl) rfl #[.slice Ao89 x10_3.length co89, .slice Ao90 x11_4.length co90, .int .i64 t348] rfl (by (try simp only [List.map_toArray, List.map_cons, List.map_nil]); first | done | rfl | (simp only [List.length_drop, List.length_take]; rfl)) ?_; (with_reducible refine (warp_Distance.calls k4 _ _ x10_3 _ _ x11_4 t348 t374 t375 _ ?side1 ?side2 ?side3 ?side4 A39.out).mono ?_); (case side1 => repeat (first | exact (Kd.R_reads' HO_10.out).2.2 | (with_reducible refine Kd.C_alloc ?_ _) | (with_reducible refine Kd.C_drewN ?_ _) | (with_reducible refine Kd.C_drew ?_))); (case side2 => exact (Kd.R_reads' HO_10.out).2.1); (case side3 => repeat (first | exact (Kd.R_reads' HO_11.out).2.2 | (with_reducible refine Kd.C_alloc ?_ _) | (with_reducible refine Kd.C_drewN ?_ _) | (with_reducible refine Kd.C_drew ?_))); (case side4 => exact (Kd.R_reads' HO_11.out).2.1); rintro e w91 ⟨rfl, hb⟩; refine ⟨_, rfl, ?_⟩; have n0_ := Aside0.mk (Kd.R_below (by (with_reducible repeat (first | apply Kd.R_alloc | apply Kd.R_drewN | apply Kd.R_drew)); exact HO_5.out) hb); have n1_ := Aside0.mk (Kd.R_below (by (with_reducible repeat (first | apply Kd.R_alloc | apply Kd.R_drewN | apply Kd.R_drew)); exact HO_6.out) hb); have n2_ := Aside0.mk (Kd.R_below (by (with_reducible repeat (first | apply Kd.R_alloc | apply Kd.R_drewN | apply Kd.R_drew)); exact HO_8.out) hb); have n3_ := Aside0.mk (Kd.R_below (by (with_reducible repeat (first | apply Kd.R_alloc | apply Kd.R_drewN | apply Kd.R_drew)); exact HO_9.out) hb); have n4_ := Aside0.mk (Kd.R_below (by (with_reducible repeat (first | apply Kd.R_alloc | apply Kd.R_drewN | apply Kd.R_drew)); exact HO_10.out) hb); have n5_ := Aside0.mk (Kd.R_below (by (with_reducible repeat (first | apply Kd.R_alloc | apply Kd.R_drewN | apply Kd.R_drew)); exact HO_11.out) hb); have n6_ := Aside0.mk (below_step (by repeat (first | (with_reducible first | exact HB.out | apply below_alloc | apply pw_below_drewN | apply below_drew1) | exact HB.out)) hb); clear HO_5; clear HO_6; clear HO_8; clear HO_9; clear HO_10; clear HO_11; clear HB; have HO_5 := n0_; have HO_6 := n1_; have HO_8 := n2_; have HO_9 := n3_; have HO_10 := n4_; have HO_11 := n5_; have HB := n6_; clear n0_ n1_ n2_ n3_ n4_ n5_ n6_; (try clear hb); (try clear hb2); (try clear hk); (try clear hi)))
               go_ret
               exact ⟨by first | rfl | (simp [errW_none, errW_some] <;> rfl) | (simp [*, errW_none, errW_some] <;> rfl), by repeat (first | (with_reducible first | exact HB.out | apply below_alloc | apply pw_below_drewN | apply below_drew1) | exact HB.out)⟩
             ·rw [if_neg c40] at H
              have c40b0 : (t371 == 0) = false := beq_eq_false_iff_ne.mpr c40
              have c40b1 : (t371 != 0) = true := bne_iff_ne.mpr c40
              obtain rfl := Option.some.inj H
              go_wp2_with (first | ((with_reducible refine gate_callee (f := 12) rfl ?_); refine goesL_ (some 117) rfl rfl Try.func12 (by kernel_rfl) rfl #[.slice Ao7 x5_1.length co7, .slice Ao16 x6_2.length co16, .int .i64 t348] rfl (by (try simp only [List.map_toArray, List.map_cons, List.map_nil]); first | done | rfl | (simp only [List.length_drop, List.length_take]; rfl)) ?_; (with_reducible refine (warp_Distance.calls k4 _ _ x5_1 _ _ x6_2 t348 t370 t371 _ ?side1 ?side2 ?side3 ?side4 A37.out).mono ?_); (case side1 => repeat (first | exact (Kd.R_reads' HO_5.out).2.2 | (with_reducible refine Kd.C_alloc ?_ _) | (with_reducible refine Kd.C_drewN ?_ _) | (with_reducible refine Kd.C_drew ?_))); (case side2 => exact (Kd.R_reads' HO_5.out).2.1); (case side3 => repeat (first | exact (Kd.R_reads' HO_6.out).2.2 | (with_reducible refine Kd.C_alloc ?_ _) | (with_reducible refine Kd.C_drewN ?_ _) | (with_reducible refine Kd.C_drew ?_))); (case side4 => exact (Kd.R_reads' HO_6.out).2.1); rintro e w92 ⟨rfl, hb⟩; refine ⟨_, rfl, ?_⟩; have n0_ := Aside0.mk (Kd.R_below (by (with_reducible repeat (first | apply Kd.R_alloc | apply Kd.R_drewN | apply Kd.R_drew)); exact HO_5.out) hb); have n1_ := Aside0.mk (Kd.R_below (by (with_reducible repeat (first | apply Kd.R_alloc | apply Kd.R_drewN | apply Kd.R_drew)); exact HO_6.out) hb); have n2_ := Aside0.mk (Kd.R_below (by (with_reducible repeat (first | apply Kd.R_alloc | apply Kd.R_drewN | apply Kd.R_drew)); exact HO_8.out) hb); have n3_ := Aside0.mk (Kd.R_below (by (with_reducible repeat (first | apply Kd.R_alloc | apply Kd.R_drewN | apply Kd.R_drew)); exact HO_9.out) hb); have n4_ := Aside0.mk (Kd.R_below (by (with_reducible repeat (first | apply Kd.R_alloc | apply Kd.R_drewN | apply Kd.R_drew)); exact HO_10.out) hb); have n5_ := Aside0.mk (Kd.R_below (by (with_reducible repeat (first | apply Kd.R_alloc | apply Kd.R_drewN | apply Kd.R_drew)); exact HO_11.out) hb); have n6_ := Aside0.mk (below_step (by repeat (first | (with_reducible first | exact HB.out | apply below_alloc | apply pw_below_drewN | apply below_drew1) | exact HB.out)) hb); clear HO_5; clear HO_6; clear HO_8; clear HO_9; clear HO_10; clear HO_11; clear HB; have HO_5 := n0_; have HO_6 := n1_; have HO_8 := n2_; have HO_9 := n3_; have HO_10 := n4_; have HO_11 := n5_; have HB := n6_; clear n0_ n1_ n2_ n3_ n4_ n5_ n6_; (try clear hb); (try clear hb2); (try clear hk); (try clear hi); obtain ⟨Ao93, co93, eo93⟩ := Kd.R_slice HO_8.out; subst eo93; obtain ⟨Ao94, co94, eo94⟩ := Kd.R_slice HO_9.out; subst eo94) | ((with_reducible refine gate_callee (f := 12) rfl ?_); refine goesL_ (some 124) rfl rfl Try.func12 (by kernel_rfl) rfl #[.slice Ao93 x8_1.length co93, .slice Ao94 x9_2.length co94, .int .i64 t348] rfl (by (try simp only [List.map_toArray, List.map_cons, List.map_nil]); first | done | rfl | (simp only [List.length_drop, List.length_take]; rfl)) ?_; (with_reducible refine (warp_Distance.calls k4 _ _ x8_1 _ _ x9_2 t348 t372 t373 _ ?side1 ?side2 ?side3 ?side4 A38.out).mono ?_); (case side1 => repeat (first | exact (Kd.R_reads' HO_8.out).2.2 | (with_reducible refine Kd.C_alloc ?_ _) | (with_reducible refine Kd.C_drewN ?_ _) | (with_reducible refine Kd.C_drew ?_))); (case side2 => exact (Kd.R_reads' HO_8.out).2.1); (case side3 => repeat (first | exact (Kd.R_reads' HO_9.out).2.2 | (with_reducible refine Kd.C_alloc ?_ _) | (with_reducible refine Kd.C_drewN ?_ _) | (with_reducible refine Kd.C_drew ?_))); (case side4 => exact (Kd.R_reads' HO_9.out).2.1); rintro e w95 ⟨rfl, hb⟩; refine ⟨_, rfl, ?_⟩; have n0_ := Aside0.mk (Kd.R_below (by (with_reducible repeat (first | apply Kd.R_alloc | apply Kd.R_drewN | apply Kd.R_drew)); exact HO_5.out) hb); have n1_ := Aside0.mk (Kd.R_below (by (with_reducible repeat (first | apply Kd.R_alloc | apply Kd.R_drewN | apply Kd.R_drew)); exact HO_6.out) hb); have n2_ := Aside0.mk (Kd.R_below (by (with_reducible repeat (first | apply Kd.R_alloc | apply Kd.R_drewN | apply Kd.R_drew)); exact HO_8.out) hb); have n3_ := Aside0.mk (Kd.R_below (by (with_reducible repeat (first | apply Kd.R_alloc | apply Kd.R_drewN | apply Kd.R_drew)); exact HO_9.out) hb); have n4_ := Aside0.mk (Kd.R_below (by (with_reducible repeat (first | apply Kd.R_alloc | apply Kd.R_drewN | apply Kd.R_drew)); exact HO_10.out) hb); have n5_ := Aside0.mk (Kd.R_below (by (with_reducible repeat (first | apply Kd.R_alloc | apply Kd.R_drewN | apply Kd.R_drew)); exact HO_11.out) hb); have n6_ := Aside0.mk (below_step (by repeat (first | (with_reducible first | exact HB.out | apply below_alloc | apply pw_below_drewN | apply below_drew1) | exact HB.out)) hb); clear HO_5; clear HO_6; clear HO_8; clear HO_9; clear HO_10; clear HO_11; clear HB; have HO_5 := n0_; have HO_6 := n1_; have HO_8 := n2_; have HO_9 := n3_; have HO_10 := n4_; have HO_11 := n5_; have HB := n6_; clear n0_ n1_ n2_ n3_ n4_ n5_ n6_; (try clear hb); (try clear hb2); (try clear hk); (try clear hi); obtain ⟨Ao96, co96, eo96⟩ := Kd.R_slice HO_10.out; subst eo96; obtain ⟨Ao97, co97, eo97⟩ := Kd.R_slice HO_11.out; subst eo97) | ((with_reducible refine gate_callee (f := 12) rfl ?_); refine goesL_ (some 131) rfl rfl Try.func12 (by kernel_rfl) rfl #[.slice Ao96 x10_3.length co96, .slice Ao97 x11_4.length co97, .int .i64 t348] rfl (by (try simp only [List.map_toArray, List.map_cons, List.map_nil]); first | done | rfl | (simp only [List.length_drop, List.length_take]; rfl)) ?_; (with_reducible refine (warp_Distance.calls k4 _ _ x10_3 _ _ x11_4 t348 t374 t375 _ ?side1 ?side2 ?side3 ?side4 A39.out).mono ?_); (case side1 => repeat (first | exact (Kd.R_reads' HO_10.out).2.2 | (with_reducible refine Kd.C_alloc ?_ _) | (with_reducible refine Kd.C_drewN ?_ _) | (with_reducible refine Kd.C_drew ?_))); (case side2 => exact (Kd.R_reads' HO_10.out).2.1); (case side3 => repeat (first | exact (Kd.R_reads' HO_11.out).2.2 | (with_reducible refine Kd.C_alloc ?_ _) | (with_reducible refine Kd.C_drewN ?_ _) | (with_reducible refine Kd.C_drew ?_))); (case side4 => exact (Kd.R_reads' HO_11.out).2.1); rintro e w98 ⟨rfl, hb⟩; refine ⟨_, rfl, ?_⟩; have n0_ := Aside0.mk (Kd.R_below (by (with_reducible repeat (first | apply Kd.R_alloc | apply Kd.R_drewN | apply Kd.R_drew)); exact HO_5.out) hb); have n1_ := Aside0.mk (Kd.R_below (by (with_reducible repeat (first | apply Kd.R_alloc | apply Kd.R_drewN | apply Kd.R_drew)); exact HO_6.out) hb); have n2_ := Aside0.mk (Kd.R_below (by (with_reducible repeat (first | apply Kd.R_alloc | apply Kd.R_drewN | apply Kd.R_drew)); exact HO_8.out) hb); have n3_ := Aside0.mk (Kd.R_below (by (with_reducible repeat (first | apply Kd.R_alloc | apply Kd.R_drewN | apply Kd.R_drew)); exact HO_9.out) hb); have n4_ := Aside0.mk (Kd.R_below (by (with_reducible repeat (first | apply Kd.R_alloc | apply Kd.R_drewN | apply Kd.R_drew)); exact HO_10.out) hb); have n5_ := Aside0.mk (Kd.R_below (by (with_reducible repeat (first | apply Kd.R_alloc | apply Kd.R_drewN | apply Kd.R_drew)); exact HO_11.out) hb); have n6_ := Aside0.mk (below_step (by repeat (first | (with_reducible first | exact HB.out | apply below_alloc | apply pw_below_drewN | apply below_drew1) | exact HB.out)) hb); clear HO_5; clear HO_6; clear HO_8; clear HO_9; clear HO_10; clear HO_11; clear HB; have HO_5 := n0_; have HO_6 := n1_; have HO_8 := n2_; have HO_9 := n3_; have HO_10 := n4_; have HO_11 := n5_; have HB := n6_; clear n0_ n1_ n2_ n3_ n4_ n5_ n6_; (try clear hb); (try clear hb2); (try clear hk); (try clear hi)))
              go_ret
              exact ⟨by first | rfl | (simp [errW_none, errW_some] <;> rfl) | (simp [*, errW_none, errW_some] <;> rfl), by repeat (first | (with_reducible first | exact HB.out | apply below_alloc | apply pw_below_drewN | apply below_drew1) | exact HB.out)⟩

/-- THE ONE PURE STATEMENT of shapesearchlaw14_WarpMoves: yours. -/
def shapesearchlaw14_WarpMoves.Pure : Prop := ∀ (l0 : List Int) (a1 : Int), l0.length ≤ maxLen → l0.length * 8 ≤ 140737488351232 → (∀ x ∈ l0, (Lit.int .i64 x).wf = true) → (Lit.int .i8 a1).wf = true → ∃ k, shapesearchlaw14_WarpMoves.f k l0 a1 = some true
theorem shapesearchlaw14_WarpMoves.walk (P : shapesearchlaw14_WarpMoves.Pure) (a0 : Option Addr) (len0 cap0 : Nat) (z0 : List Int) (a1 : Int) (w : World) (w0 : (a0 = none ∧ len0 = 0 ∧ cap0 = 0 ∧ z0 = []) ∨ ∃ x, a0 = some x ∧ len0 ≤ cap0 ∧ cap0 ≤ maxLen ∧ z0.length = cap0 ∧ (∀ i, i < z0.length → w.cell? (x.add i) = some (.int .i64 (z0.getD i 0))) ∧ ∀ n ∈ z0, (Lit.int .i64 n).wf = true) (y0 : len0 * 8 ≤ 140737488351232) (w1 : (Lit.int .i8 a1).wf = true) :
  Calls Try.prog 5 #[.slice a0 len0 cap0, .int .i8 a1] w fun e w' => e = .returned (.bool true) ∧ Below w.heap.size w w' := by
 obtain ⟨l0, rfl, hr0, hm0, hw0, hc0⟩ := ReadsInt.ofRowC w0
 obtain ⟨k, h⟩ := P l0 a1 hm0 y0 hw0 w1
 refine (shapesearchlaw14_WarpMoves.calls k _ _ l0 a1 true w (Kd.C_of_reads (d := (0 : Int)) (h1 := fun _ => rfl) hr0) hc0 h).mono ?_
 rintro e w' ⟨rfl, hd⟩
 exact ⟨rfl, hd⟩

end Go.Proofs.Ytnceoalphoodaaa.PWarpMoves
