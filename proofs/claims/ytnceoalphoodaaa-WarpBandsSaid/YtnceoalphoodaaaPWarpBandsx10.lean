/- Told by a program of this session out of the translation: Lean functions with the same answers as the Go functions that the law reaches, and proofs of that; no conditions. -/
import Derived.Test.YtnceoalphoodaaaPWarpBandsx0
import Derived.Test.YtnceoalphoodaaaPWarpBandsx2
import Derived.Test.YtnceoalphoodaaaPWarpBandsx4
import Derived.Test.YtnceoalphoodaaaPWarpBandsx7
import Derived.Test.YtnceoalphoodaaaPWarpBandsx9
namespace Go.Proofs.Ytnceoalphoodaaa.PWarpBands
open Go.RowKit Go.Proofs.YtnceoalphoodaaaW.PrintWords Go.Proofs.YtnceoalphoodaaaW.PrintLast Go.Proofs.YtnceoalphoodaaaW.PrintMore
attribute [local go_sem] max2_int min2_int max_two min_two max_three min_three max_four min_four   -- for this text's walks alone
set_option linter.unusedVariables false
set_option linter.unusedSimpArgs false

/-! ### shapesearchlaw14_WarpBands: function 4 -/
def shapesearchlaw14_WarpBands.j0 : Nat → List Int → List Int → Int → Bool → Option (Bool)
  | 0, _, _, _, _ => none
  | k + 1, x5, x6, x8, x69 => if x69 = true then (some false) else (if (x5.length : Int) = (x6.length : Int) then ((warp_Distance.f k x5 x6 0).bind fun bt369 => ((shapesearchref12_Distance.f k x5 x6).bind fun bt371 => (if bt369.2 = 0 then (if bt369.1 = bt371.1 then (if x8 ≤ bt371.1 then ((shapesearchlaw14_awake.f k).bind fun t373 => (some t373)) else (some false)) else (some false)) else (some false)))) else ((shapesearchlaw14_awake.f k).bind fun t374 => (some t374)))
def shapesearchlaw14_WarpBands.f (k : Nat) (l0 : List Int) (a1 : Int) : Option (Bool) := (shapesearchkeep_New.f l0).bind fun bt352 => ((shapesearchkeep_Src_Uneven.f k bt352.1 bt352.2).bind fun bt355 => ((warp_Distance.f k bt355.1 bt355.2.1 bt355.2.2.1).bind fun bt363 => ((warp_Distance.f k bt355.2.1 bt355.1 bt355.2.2.1).bind fun bt365 => ((warp_Distance.f k bt355.1 bt355.2.1 (mn 32 (wrap64 (bt355.2.2.1 + (wrap64 (a1)))))).bind fun bt367 => (if bt363.2 = 0 then (if bt365.2 = 0 then (if bt367.2 = 0 then (if bt363.1 = bt365.1 then (shapesearchlaw14_WarpBands.j0 k bt355.1 bt355.2.1 bt363.1 (decide (bt367.1 > bt363.1))) else (shapesearchlaw14_WarpBands.j0 k bt355.1 bt355.2.1 bt363.1 true)) else (shapesearchlaw14_WarpBands.j0 k bt355.1 bt355.2.1 bt363.1 true)) else (shapesearchlaw14_WarpBands.j0 k bt355.1 bt355.2.1 bt363.1 true)) else (shapesearchlaw14_WarpBands.j0 k bt355.1 bt355.2.1 bt363.1 true))))))
theorem shapesearchlaw14_WarpBands.mono_l : ∀ k, (∀ y0 y1 y2 y3, LeO (shapesearchlaw14_WarpBands.j0 k y0 y1 y2 y3) (shapesearchlaw14_WarpBands.j0 (k + 1) y0 y1 y2 y3))
  | 0 => fun _ _ _ _ r h => by simp [shapesearchlaw14_WarpBands.j0] at h
  | k + 1 => by
    have ih0 := shapesearchlaw14_WarpBands.mono_l k
    · intro y0 y1 y2 y3
      unfold shapesearchlaw14_WarpBands.j0
      repeat' first
      | (with_reducible exact ih0 _ _ _ _)
      | (with_reducible exact shapesearchkeep_Src_Uneven.mono _ _ _)
      | (with_reducible exact shapesearchlaw14_awake.mono _)
      | (with_reducible exact shapesearchref12_Distance.mono _ _ _)
      | (with_reducible exact warp_Distance.mono _ _ _ _)
      | (with_reducible exact LeO.refl _)
      | (with_reducible exact LeO.none _)
      | (with_reducible refine LeO.ite ?_ ?_)
      | (with_reducible refine LeO.bind ?_ (fun _ => ?_))
      | exact ih0 _ _ _ _
      | exact shapesearchkeep_Src_Uneven.mono _ _ _
      | exact shapesearchlaw14_awake.mono _
      | exact shapesearchref12_Distance.mono _ _ _
      | exact warp_Distance.mono _ _ _ _
      | exact LeO.none _
      | refine LeO.ite ?_ ?_
      | refine LeO.bind ?_ (fun _ => ?_)
theorem shapesearchlaw14_WarpBands.mono : ∀ a0 a1 k, LeO (shapesearchlaw14_WarpBands.f k a0 a1) (shapesearchlaw14_WarpBands.f (k + 1) a0 a1) := by
  intro a0 a1 k
  have ih0 := shapesearchlaw14_WarpBands.mono_l k
  unfold shapesearchlaw14_WarpBands.f
  repeat' first
      | (with_reducible exact ih0 _ _ _ _)
      | (with_reducible exact shapesearchkeep_Src_Uneven.mono _ _ _)
      | (with_reducible exact shapesearchlaw14_awake.mono _)
      | (with_reducible exact shapesearchref12_Distance.mono _ _ _)
      | (with_reducible exact warp_Distance.mono _ _ _ _)
      | (with_reducible exact LeO.refl _)
      | (with_reducible exact LeO.none _)
      | (with_reducible refine LeO.ite ?_ ?_)
      | (with_reducible refine LeO.bind ?_ (fun _ => ?_))
      | exact ih0 _ _ _ _
      | exact shapesearchkeep_Src_Uneven.mono _ _ _
      | exact shapesearchlaw14_awake.mono _
      | exact shapesearchref12_Distance.mono _ _ _
      | exact warp_Distance.mono _ _ _ _
      | exact LeO.none _
      | refine LeO.ite ?_ ?_
      | refine LeO.bind ?_ (fun _ => ?_)
set_option maxHeartbeats 8000000 in
set_option maxRecDepth 100000 in
theorem shapesearchlaw14_WarpBands.calls (k : Nat) (A0 : Option Addr) (c0 : Nat) (l0 : List Int) (a1 : Int) (r : Bool) (w : World) (hr0 : Kd.C (Kd.int .i64) w A0 l0.length l0) (hc0 : l0.length ≤ c0) (h : shapesearchlaw14_WarpBands.f k l0 a1 = some r) :
    Calls Try.prog 4 #[.slice A0 l0.length c0, .int .u8 a1] w fun e w' => e = .returned (.bool r) ∧ Below w.heap.size w w' := by
 have HR0 := Aside0.mk hr0
 have HC0 := Aside0.mk hc0
 clear hr0 hc0
 have HB := Aside0.mk (Below.refl w.heap.size w)
 have H : ((shapesearchkeep_New.f l0).bind fun bt352 => ((shapesearchkeep_Src_Uneven.f k bt352.1 bt352.2).bind fun bt355 => ((warp_Distance.f k bt355.1 bt355.2.1 bt355.2.2.1).bind fun bt363 => ((warp_Distance.f k bt355.2.1 bt355.1 bt355.2.2.1).bind fun bt365 => ((warp_Distance.f k bt355.1 bt355.2.1 (mn 32 (wrap64 (bt355.2.2.1 + (wrap64 (a1)))))).bind fun bt367 => (if bt363.2 = 0 then (if bt365.2 = 0 then (if bt367.2 = 0 then (if bt363.1 = bt365.1 then (shapesearchlaw14_WarpBands.j0 k bt355.1 bt355.2.1 bt363.1 (decide (bt367.1 > bt363.1))) else (shapesearchlaw14_WarpBands.j0 k bt355.1 bt355.2.1 bt363.1 true)) else (shapesearchlaw14_WarpBands.j0 k bt355.1 bt355.2.1 bt363.1 true)) else (shapesearchlaw14_WarpBands.j0 k bt355.1 bt355.2.1 bt363.1 true)) else (shapesearchlaw14_WarpBands.j0 k bt355.1 bt355.2.1 bt363.1 true))))))) = some r := h
 clear h
 replace H := Option.bind_eq_some_iff.mp H
 obtain ⟨⟨t352, t353⟩, A30, H⟩ := H
 replace H : ((shapesearchkeep_Src_Uneven.f k t352 t353).bind fun bt355 => ((warp_Distance.f k bt355.1 bt355.2.1 bt355.2.2.1).bind fun bt363 => ((warp_Distance.f k bt355.2.1 bt355.1 bt355.2.2.1).bind fun bt365 => ((warp_Distance.f k bt355.1 bt355.2.1 (mn 32 (wrap64 (bt355.2.2.1 + (wrap64 (a1)))))).bind fun bt367 => (if bt363.2 = 0 then (if bt365.2 = 0 then (if bt367.2 = 0 then (if bt363.1 = bt365.1 then (shapesearchlaw14_WarpBands.j0 k bt355.1 bt355.2.1 bt363.1 (decide (bt367.1 > bt363.1))) else (shapesearchlaw14_WarpBands.j0 k bt355.1 bt355.2.1 bt363.1 true)) else (shapesearchlaw14_WarpBands.j0 k bt355.1 bt355.2.1 bt363.1 true)) else (shapesearchlaw14_WarpBands.j0 k bt355.1 bt355.2.1 bt363.1 true)) else (shapesearchlaw14_WarpBands.j0 k bt355.1 bt355.2.1 bt363.1 true)))))) = some r := H
 have A3 := Aside0.mk A30
 clear A30
 replace H := Option.bind_eq_some_iff.mp H
 obtain ⟨⟨t355, t358, t361, t362⟩, A40, H⟩ := H
 replace H : ((warp_Distance.f k t355 t358 t361).bind fun bt363 => ((warp_Distance.f k t358 t355 t361).bind fun bt365 => ((warp_Distance.f k t355 t358 (mn 32 (wrap64 (t361 + (wrap64 (a1)))))).bind fun bt367 => (if bt363.2 = 0 then (if bt365.2 = 0 then (if bt367.2 = 0 then (if bt363.1 = bt365.1 then (shapesearchlaw14_WarpBands.j0 k t355 t358 bt363.1 (decide (bt367.1 > bt363.1))) else (shapesearchlaw14_WarpBands.j0 k t355 t358 bt363.1 true)) else (shapesearchlaw14_WarpBands.j0 k t355 t358 bt363.1 true)) else (shapesearchlaw14_WarpBands.j0 k t355 t358 bt363.1 true)) else (shapesearchlaw14_WarpBands.j0 k t355 t358 bt363.1 true))))) = some r := H
 have A4 := Aside0.mk A40
 clear A40
 replace H := Option.bind_eq_some_iff.mp H
 obtain ⟨⟨t363, t364⟩, A50, H⟩ := H
 replace H : ((warp_Distance.f k t358 t355 t361).bind fun bt365 => ((warp_Distance.f k t355 t358 (mn 32 (wrap64 (t361 + (wrap64 (a1)))))).bind fun bt367 => (if t364 = 0 then (if bt365.2 = 0 then (if bt367.2 = 0 then (if t363 = bt365.1 then (shapesearchlaw14_WarpBands.j0 k t355 t358 t363 (decide (bt367.1 > t363))) else (shapesearchlaw14_WarpBands.j0 k t355 t358 t363 true)) else (shapesearchlaw14_WarpBands.j0 k t355 t358 t363 true)) else (shapesearchlaw14_WarpBands.j0 k t355 t358 t363 true)) else (shapesearchlaw14_WarpBands.j0 k t355 t358 t363 true)))) = some r := H
 have A5 := Aside0.mk A50
 clear A50
 replace H := Option.bind_eq_some_iff.mp H
 obtain ⟨⟨t365, t366⟩, A60, H⟩ := H
 replace H : ((warp_Distance.f k t355 t358 (mn 32 (wrap64 (t361 + (wrap64 (a1)))))).bind fun bt367 => (if t364 = 0 then (if t366 = 0 then (if bt367.2 = 0 then (if t363 = t365 then (shapesearchlaw14_WarpBands.j0 k t355 t358 t363 (decide (bt367.1 > t363))) else (shapesearchlaw14_WarpBands.j0 k t355 t358 t363 true)) else (shapesearchlaw14_WarpBands.j0 k t355 t358 t363 true)) else (shapesearchlaw14_WarpBands.j0 k t355 t358 t363 true)) else (shapesearchlaw14_WarpBands.j0 k t355 t358 t363 true))) = some r := H
 have A6 := Aside0.mk A60
 clear A60
 obtain ⟨ji7, hji7⟩ : ∃ j_ : Int, (mn 32 (wrap64 (t361 + (wrap64 (a1))))) = j_ := ⟨_, rfl⟩
 replace H : ((warp_Distance.f k t355 t358 (ji7)).bind fun bt367 => (if t364 = 0 then (if t366 = 0 then (if bt367.2 = 0 then (if t363 = t365 then (shapesearchlaw14_WarpBands.j0 k t355 t358 t363 (decide (bt367.1 > t363))) else (shapesearchlaw14_WarpBands.j0 k t355 t358 t363 true)) else (shapesearchlaw14_WarpBands.j0 k t355 t358 t363 true)) else (shapesearchlaw14_WarpBands.j0 k t355 t358 t363 true)) else (shapesearchlaw14_WarpBands.j0 k t355 t358 t363 true))) = some r := by first | (rw [hji7] at H; exact H) | (simp only [hji7] at H ⊢; exact H)
 (try rw [hji7] at A3)
 (try rw [hji7] at A4)
 (try rw [hji7] at A5)
 (try rw [hji7] at A6)
 (try (have hji7h : ji7 ≤ 32 := by (rw [← hji7]; unfold mn; (repeat' split) <;> omega)))
 (try (have hji7g : ji7 ≤ 64 := by omega))
 have hji7_ : (if (wrap64 (t361 + (wrap64 (a1)))) < 32 then (wrap64 (t361 + (wrap64 (a1)))) else 32) = ji7 := hji7
 replace H := Option.bind_eq_some_iff.mp H
 obtain ⟨⟨t367, t368⟩, A80, H⟩ := H
 replace H : (if t364 = 0 then (if t366 = 0 then (if t368 = 0 then (if t363 = t365 then (shapesearchlaw14_WarpBands.j0 k t355 t358 t363 (decide (t367 > t363))) else (shapesearchlaw14_WarpBands.j0 k t355 t358 t363 true)) else (shapesearchlaw14_WarpBands.j0 k t355 t358 t363 true)) else (shapesearchlaw14_WarpBands.j0 k t355 t358 t363 true)) else (shapesearchlaw14_WarpBands.j0 k t355 t358 t363 true)) = some r := H
 have A8 := Aside0.mk A80
 clear A80
 have HC9 := Aside0.mk H
 clear H
 go_enter Try.func4, Try.ntmps4
 go_upto_region 5 with (first | ((with_reducible refine gate_callee (f := 10) rfl ?_); refine goesL_ (some 20) rfl rfl Try.func10 (by kernel_rfl) rfl #[.slice A0 l0.length c0] rfl (by (try simp only [List.map_toArray, List.map_cons, List.map_nil]); first | done | rfl | (simp only [List.length_drop, List.length_take]; rfl)) ?_; (with_reducible refine (shapesearchkeep_New.calls _ _ l0 t352 t353 w _ ?side1 ?side2 ?side3 A3.out).mono ?_); (case side1 => repeat (first | (with_reducible first | exact HB.out | apply below_alloc | apply pw_below_drewN | apply below_drew1) | exact HB.out)); (case side2 => exact HR0.out); (case side3 => exact HC0.out); rintro e w10 ⟨g354, rfl, hi, hb, hb2⟩; refine ⟨_, rfl, ?_⟩; have n0_ := Aside0.mk (hb); have n1_ := Aside0.mk (hi); clear HB; have HB := n0_; have HI354 := n1_; clear n0_ n1_; (try clear hb); (try clear hb2); (try clear hk); (try clear hi)) | ((with_reducible refine gate_callee (f := 11) rfl ?_); refine goesL_ (some 21) rfl rfl Try.func11 (by kernel_rfl) rfl #[.pointer (some ⟨g354, 0, none⟩)] rfl (by (try simp only [List.map_toArray, List.map_cons, List.map_nil]); first | done | rfl | (simp only [List.length_drop, List.length_take]; rfl)) ?_; (with_reducible refine (shapesearchkeep_Src_Uneven.calls k g354 t352 t353 t355 t358 t361 t362 w _ ?side1 ?side2 A4.out).mono ?_); (case side1 => repeat (first | (with_reducible first | exact HI354.out | apply IsS59.alloc | apply IsS59.drewN | apply IsS59.drew | apply IsS59.set_1) | exact HI354.out)); (case side2 => repeat (first | (with_reducible first | exact HB.out | apply below_alloc | apply pw_below_drewN | apply below_drew1 | refine below_set ?_ (IsS59.ge HI354.out)) | exact HB.out)); rintro e w11 ⟨v356, v359, rfl, ho0, ho1, hi, hb, hk⟩; refine ⟨_, rfl, ?_⟩; have n0_ := Aside0.mk (Kd.R_lower ho0 (below_size (by repeat (first | (with_reducible first | exact HB.out | apply below_alloc | apply pw_below_drewN | apply below_drew1 | refine below_set ?_ (IsS59.ge HI354.out)) | exact HB.out)))); have n1_ := Aside0.mk (Kd.R_lower ho1 (below_size (by repeat (first | (with_reducible first | exact HB.out | apply below_alloc | apply pw_below_drewN | apply below_drew1 | refine below_set ?_ (IsS59.ge HI354.out)) | exact HB.out)))); have n2_ := Aside0.mk (hb); have n3_ := Aside0.mk (hi); clear HB; clear HI354; have HO357 := n0_; have HO360 := n1_; have HB := n2_; have HI354 := n3_; clear n0_ n1_ n2_ n3_; (try clear hb); (try clear hb2); (try clear hk); (try clear hi); (try clear ho0); (try clear ho1); obtain ⟨Ao12, co12, eo12⟩ := Kd.R_slice HO357.out; subst eo12; obtain ⟨Ao13, co13, eo13⟩ := Kd.R_slice HO360.out; subst eo13) | ((with_reducible refine gate_callee (f := 12) rfl ?_); refine goesL_ (some 29) rfl rfl Try.func12 (by kernel_rfl) rfl #[.slice Ao12 t355.length co12, .slice Ao13 t358.length co13, .int .i64 t361] rfl (by (try simp only [List.map_toArray, List.map_cons, List.map_nil]); first | done | rfl | (simp only [List.length_drop, List.length_take]; rfl)) ?_; (with_reducible refine (warp_Distance.calls k _ _ t355 _ _ t358 t361 t363 t364 _ ?side1 ?side2 ?side3 ?side4 A5.out).mono ?_); (case side1 => repeat (first | exact (Kd.R_reads' HO357.out).2.2 | (with_reducible refine Kd.C_alloc ?_ _) | (with_reducible refine Kd.C_drewN ?_ _) | (with_reducible refine Kd.C_drew ?_))); (case side2 => exact (Kd.R_reads' HO357.out).2.1); (case side3 => repeat (first | exact (Kd.R_reads' HO360.out).2.2 | (with_reducible refine Kd.C_alloc ?_ _) | (with_reducible refine Kd.C_drewN ?_ _) | (with_reducible refine Kd.C_drew ?_))); (case side4 => exact (Kd.R_reads' HO360.out).2.1); rintro e w14 ⟨rfl, hb⟩; refine ⟨_, rfl, ?_⟩; have n0_ := Aside0.mk (Kd.R_below (by (with_reducible repeat (first | apply Kd.R_alloc | apply Kd.R_drewN | apply Kd.R_drew)); exact HO357.out) hb); have n1_ := Aside0.mk (Kd.R_below (by (with_reducible repeat (first | apply Kd.R_alloc | apply Kd.R_drewN | apply Kd.R_drew)); exact HO360.out) hb); have n2_ := Aside0.mk (IsS59.below (by repeat (first | (with_reducible first | exact HI354.out | apply IsS59.alloc | apply IsS59.drewN | apply IsS59.drew | apply IsS59.set_1) | exact HI354.out)) hb); have n3_ := Aside0.mk (below_step (by repeat (first | (with_reducible first | exact HB.out | apply below_alloc | apply pw_below_drewN | apply below_drew1 | refine below_set ?_ (IsS59.ge HI354.out)) | exact HB.out)) hb); clear HO357; clear HO360; clear HI354; clear HB; have HO357 := n0_; have HO360 := n1_; have HI354 := n2_; have HB := n3_; clear n0_ n1_ n2_ n3_; (try clear hb); (try clear hb2); (try clear hk); (try clear hi)) | ((with_reducible refine gate_callee (f := 12) rfl ?_); refine goesL_ (some 36) rfl rfl Try.func12 (by kernel_rfl) rfl #[.slice Ao13 t358.length co13, .slice Ao12 t355.length co12, .int .i64 t361] rfl (by (try simp only [List.map_toArray, List.map_cons, List.map_nil]); first | done | rfl | (simp only [List.length_drop, List.length_take]; rfl)) ?_; (with_reducible refine (warp_Distance.calls k _ _ t358 _ _ t355 t361 t365 t366 _ ?side1 ?side2 ?side3 ?side4 A6.out).mono ?_); (case side1 => repeat (first | exact (Kd.R_reads' HO360.out).2.2 | (with_reducible refine Kd.C_alloc ?_ _) | (with_reducible refine Kd.C_drewN ?_ _) | (with_reducible refine Kd.C_drew ?_))); (case side2 => exact (Kd.R_reads' HO360.out).2.1); (case side3 => repeat (first | exact (Kd.R_reads' HO357.out).2.2 | (with_reducible refine Kd.C_alloc ?_ _) | (with_reducible refine Kd.C_drewN ?_ _) | (with_reducible refine Kd.C_drew ?_))); (case side4 => exact (Kd.R_reads' HO357.out).2.1); rintro e w15 ⟨rfl, hb⟩; refine ⟨_, rfl, ?_⟩; have n0_ := Aside0.mk (Kd.R_below (by (with_reducible repeat (first | apply Kd.R_alloc | apply Kd.R_drewN | apply Kd.R_drew)); exact HO357.out) hb); have n1_ := Aside0.mk (Kd.R_below (by (with_reducible repeat (first | apply Kd.R_alloc | apply Kd.R_drewN | apply Kd.R_drew)); exact HO360.out) hb); have n2_ := Aside0.mk (IsS59.below (by repeat (first | (with_reducible first | exact HI354.out | apply IsS59.alloc | apply IsS59.drewN | apply IsS59.drew | apply IsS59.set_1) | exact HI354.out)) hb); have n3_ := Aside0.mk (below_step (by repeat (first | (with_reducible first | exact HB.out | apply below_alloc | apply pw_below_drewN | apply below_drew1 | refine below_set ?_ (IsS59.ge HI354.out)) | exact HB.out)) hb); clear HO357; clear HO360; clear HI354; clear HB; have HO357 := n0_; have HO360 := n1_; have HI354 := n2_; have HB := n3_; clear n0_ n1_ n2_ n3_; (try clear hb); (try clear hb2); (try clear hk); (try clear hi)) | ((with_reducible refine gate_callee (f := 12) rfl ?_); refine goesL_ (some 47) rfl rfl Try.func12 (by kernel_rfl) rfl #[.slice Ao12 t355.length co12, .slice Ao13 t358.length co13, .int .i64 ji7] rfl (by (try simp only [List.map_toArray, List.map_cons, List.map_nil]); first | done | (simp only [hji7]; rfl) | rfl | (simp only [List.length_drop, List.length_take]; rfl)) ?_; (with_reducible refine (warp_Distance.calls k _ _ t355 _ _ t358 ji7 t367 t368 _ ?side1 ?side2 ?side3 ?side4 A8.out).mono ?_); (case side1 => repeat (first | exact (Kd.R_reads' HO357.out).2.2 | (with_reducible refine Kd.C_alloc ?_ _) | (with_reducible refine Kd.C_drewN ?_ _) | (with_reducible refine Kd.C_drew ?_))); (case side2 => exact (Kd.R_reads' HO357.out).2.1); (case side3 => repeat (first | exact (Kd.R_reads' HO360.out).2.2 | (with_reducible refine Kd.C_alloc ?_ _) | (with_reducible refine Kd.C_drewN ?_ _) | (with_reducible refine Kd.C_drew ?_))); (case side4 => exact (Kd.R_reads' HO360.out).2.1); rintro e w16 ⟨rfl, hb⟩; refine ⟨_, rfl, ?_⟩; have n0_ := Aside0.mk (Kd.R_below (by (with_reducible repeat (first | apply Kd.R_alloc | apply Kd.R_drewN | apply Kd.R_drew)); exact HO357.out) hb); have n1_ := Aside0.mk (Kd.R_below (by (with_reducible repeat (first | apply Kd.R_alloc | apply Kd.R_drewN | apply Kd.R_drew)); exact HO360.out) hb); have n2_ := Aside0.mk (IsS59.below (by repeat (first | (with_reducible first | exact HI354.out | apply IsS59.alloc | apply IsS59.drewN | apply IsS59.drew | apply IsS59.set_1) | exact HI354.out)) hb); have n3_ := Aside0.mk (below_step (by repeat (first | (with_reducible first | exact HB.out | apply below_alloc | apply pw_below_drewN | apply below_drew1 | refine below_set ?_ (IsS59.ge HI354.out)) | exact HB.out)) hb); clear HO357; clear HO360; clear HI354; clear HB; have HO357 := n0_; have HO360 := n1_; have HI354 := n2_; have HB := n3_; clear n0_ n1_ n2_ n3_; (try clear hb); (try clear hb2); (try clear hk); (try clear hi)))
 (try simp only [Act.put, List.setIfInBounds_toArray, List.set_cons_zero, List.set_cons_succ])
 go_cut [69] (fun v69 wc => ∃ (kq : Nat) (x69_8 : Bool), v69 = .bool x69_8 ∧ Aside0 (shapesearchlaw14_WarpBands.j0 kq t355 t358 t363 x69_8 = some r) ∧ Aside0 (kq ≤ k) ∧ Aside0 (Kd.R (Kd.int .i64) 3 wc w.heap.size (fun k_ => some k_ ≠ ((.slice Ao13 t358.length co13) : Value).ownBlock) (.slice Ao12 t355.length co12) t355) ∧ Aside0 (Kd.R (Kd.int .i64) 3 wc w.heap.size (fun k_ => some k_ ≠ ((.slice Ao12 t355.length co12) : Value).ownBlock) (.slice Ao13 t358.length co13) t358) ∧ Aside0 (Below w.heap.size w wc))
 case first =>
  have H := HC9.out
  clear HC9
  by_cases c17 : t364 = 0
  ·rw [if_pos c17] at H
   have c17b0 : (t364 == 0) = true := beq_iff_eq.mpr c17
   have c17b1 : (t364 != 0) = false := bne_eq_false_iff_eq.mpr c17
   clear c17
   (first | rw [c17b0] | (simp only [i64_w, i32_w]; rw [c17b0]) | skip)
   by_cases c18 : t366 = 0
   ·rw [if_pos c18] at H
    have c18b0 : (t366 == 0) = true := beq_iff_eq.mpr c18
    have c18b1 : (t366 != 0) = false := bne_eq_false_iff_eq.mpr c18
    clear c18
    by_cases c19 : t368 = 0
    ·rw [if_pos c19] at H
     have c19b0 : (t368 == 0) = true := beq_iff_eq.mpr c19
     have c19b1 : (t368 != 0) = false := bne_eq_false_iff_eq.mpr c19
     clear c19
     by_cases c20 : t363 = t365
     ·rw [if_pos c20] at H
      have c20b0 : (t363 == t365) = true := beq_iff_eq.mpr c20
      have c20b1 : (t363 != t365) = false := bne_eq_false_iff_eq.mpr c20
      clear c20
      have H' := Aside0.mk H
      clear H
      go_wp2
      go_meet
      case rel => exact ⟨_, (decide (t367 > t363)), (by first | rfl | (simp; done) | (simp [*]; done)), H', ⟨by first | omega | exact Nat.le_refl _⟩, ⟨by (with_reducible repeat (first | apply Kd.R_alloc | apply Kd.R_drewN | apply Kd.R_drew)); exact HO357.out⟩, ⟨by (with_reducible repeat (first | apply Kd.R_alloc | apply Kd.R_drewN | apply Kd.R_drew)); exact HO360.out⟩, ⟨by repeat (first | (with_reducible first | exact HB.out | apply below_alloc | apply pw_below_drewN | apply below_drew1 | refine below_set ?_ (IsS59.ge HI354.out)) | exact HB.out)⟩⟩
     ·rw [if_neg c20] at H
      have c20b0 : (t363 == t365) = false := beq_eq_false_iff_ne.mpr c20
      have c20b1 : (t363 != t365) = true := bne_iff_ne.mpr c20
      have H' := Aside0.mk H
      clear H
      go_wp2
      go_meet
      case rel => exact ⟨_, (true), (by first | rfl | (simp; done) | (simp [*]; done)), H', ⟨by first | omega | exact Nat.le_refl _⟩, ⟨by (with_reducible repeat (first | apply Kd.R_alloc | apply Kd.R_drewN | apply Kd.R_drew)); exact HO357.out⟩, ⟨by (with_reducible repeat (first | apply Kd.R_alloc | apply Kd.R_drewN | apply Kd.R_drew)); exact HO360.out⟩, ⟨by repeat (first | (with_reducible first | exact HB.out | apply below_alloc | apply pw_below_drewN | apply below_drew1 | refine below_set ?_ (IsS59.ge HI354.out)) | exact HB.out)⟩⟩
    ·rw [if_neg c19] at H
     have c19b0 : (t368 == 0) = false := beq_eq_false_iff_ne.mpr c19
     have c19b1 : (t368 != 0) = true := bne_iff_ne.mpr c19
     have H' := Aside0.mk H
     clear H
     go_wp2
     go_meet
     case rel => exact ⟨_, (true), (by first | rfl | (simp; done) | (simp [*]; done)), H', ⟨by first | omega | exact Nat.le_refl _⟩, ⟨by (with_reducible repeat (first | apply Kd.R_alloc | apply Kd.R_drewN | apply Kd.R_drew)); exact HO357.out⟩, ⟨by (with_reducible repeat (first | apply Kd.R_alloc | apply Kd.R_drewN | apply Kd.R_drew)); exact HO360.out⟩, ⟨by repeat (first | (with_reducible first | exact HB.out | apply below_alloc | apply pw_below_drewN | apply below_drew1 | refine below_set ?_ (IsS59.ge HI354.out)) | exact HB.out)⟩⟩
   ·rw [if_neg c18] at H
    have c18b0 : (t366 == 0) = false := beq_eq_false_iff_ne.mpr c18
    have c18b1 : (t366 != 0) = true := bne_iff_ne.mpr c18
    have H' := Aside0.mk H
    clear H
    go_wp2
    go_meet
    case rel => exact ⟨_, (true), (by first | rfl | (simp; done) | (simp [*]; done)), H', ⟨by first | omega | exact Nat.le_refl _⟩, ⟨by (with_reducible repeat (first | apply Kd.R_alloc | apply Kd.R_drewN | apply Kd.R_drew)); exact HO357.out⟩, ⟨by (with_reducible repeat (first | apply Kd.R_alloc | apply Kd.R_drewN | apply Kd.R_drew)); exact HO360.out⟩, ⟨by repeat (first | (with_reducible first | exact HB.out | apply below_alloc | apply pw_below_drewN | apply below_drew1 | refine below_set ?_ (IsS59.ge HI354.out)) | exact HB.out)⟩⟩
  ·rw [if_neg c17] at H
   have c17b0 : (t364 == 0) = false := beq_eq_false_iff_ne.mpr c17
   have c17b1 : (t364 != 0) = true := bne_iff_ne.mpr c17
   (first | rw [c17b0] | (simp only [i64_w, i32_w]; rw [c17b0]) | skip)
   have H' := Aside0.mk H
   clear H
   go_wp2
   go_meet
   case rel => exact ⟨_, (true), (by first | rfl | (simp; done) | (simp [*]; done)), H', ⟨by first | omega | exact Nat.le_refl _⟩, ⟨by (with_reducible repeat (first | apply Kd.R_alloc | apply Kd.R_drewN | apply Kd.R_drew)); exact HO357.out⟩, ⟨by (with_reducible repeat (first | apply Kd.R_alloc | apply Kd.R_drewN | apply Kd.R_drew)); exact HO360.out⟩, ⟨by repeat (first | (with_reducible first | exact HB.out | apply below_alloc | apply pw_below_drewN | apply below_drew1 | refine below_set ?_ (IsS59.ge HI354.out)) | exact HB.out)⟩⟩
 case rest =>
  clear HC9
  try clear c1
  try clear c2
  try clear p2
  try clear c4
  try clear p6
  try clear c10
  try clear c11
  try clear c12
  try clear c17
  try clear c17b0
  try clear c17b1
  try clear c18
  try clear c18b0
  try clear c18b1
  try clear c19
  try clear c19b0
  try clear c19b1
  try clear c20
  try clear c20b0
  try clear c20b1
  obtain ⟨kq, x69_8, rfl, HA, HJ8, HO_5, HO_6, HB⟩ := hcut
  cases kq with
  | zero => exact absurd HA.out (by simp [shapesearchlaw14_WarpBands.j0])
  | succ kj8 =>
   have H := HA.out
   clear HA
   simp only [shapesearchlaw14_WarpBands.j0] at H
   by_cases c21 : x69_8 = true
   ·subst c21
    have H1 : (some false) = some r := by rw [if_pos rfl] at H; exact H
    clear H
    have H := H1
    clear H1
    obtain rfl := Option.some.inj H
    go_wp2
    go_ret
    exact ⟨by first | rfl | (simp [errW_none, errW_some] <;> rfl) | (simp only [← hji7]; first | rfl | (simp [errW_none, errW_some] <;> rfl)) | (simp [*, errW_none, errW_some] <;> rfl), by repeat (first | (with_reducible first | exact HB.out | apply below_alloc | apply pw_below_drewN | apply below_drew1) | exact HB.out)⟩
   ·replace c21 := Bool.eq_false_iff.mpr c21
    subst c21
    have H1 : (if (t355.length : Int) = (t358.length : Int) then ((warp_Distance.f kj8 t355 t358 0).bind fun bt369 => ((shapesearchref12_Distance.f kj8 t355 t358).bind fun bt371 => (if bt369.2 = 0 then (if bt369.1 = bt371.1 then (if t363 ≤ bt371.1 then ((shapesearchlaw14_awake.f kj8).bind fun t373 => (some t373)) else (some false)) else (some false)) else (some false)))) else ((shapesearchlaw14_awake.f kj8).bind fun t374 => (some t374))) = some r := by rw [if_neg (show ¬ (false = true) by decide)] at H; exact H
    clear H
    have H := H1
    clear H1
    by_cases c22 : (t355.length : Int) = (t358.length : Int)
    ·rw [if_pos c22] at H
     have c22b0 : ((t355.length : Int) == (t358.length : Int)) = true := beq_iff_eq.mpr c22
     have c22b1 : ((t355.length : Int) != (t358.length : Int)) = false := bne_eq_false_iff_eq.mpr c22
     have c22b2 : (t355.length == t358.length) = true := by first | simpa using c22 | (simp at c22 ⊢; omega)
     clear c22
     replace H := Option.bind_eq_some_iff.mp H
     obtain ⟨⟨t369, t370⟩, A230, H⟩ := H
     replace H : ((shapesearchref12_Distance.f kj8 t355 t358).bind fun bt371 => (if t370 = 0 then (if t369 = bt371.1 then (if t363 ≤ bt371.1 then ((shapesearchlaw14_awake.f kj8).bind fun t373 => (some t373)) else (some false)) else (some false)) else (some false))) = some r := H
     have A23 := Aside0.mk A230
     clear A230
     replace H := Option.bind_eq_some_iff.mp H
     obtain ⟨⟨t371, t372⟩, A240, H⟩ := H
     replace H : (if t370 = 0 then (if t369 = t371 then (if t363 ≤ t371 then ((shapesearchlaw14_awake.f kj8).bind fun t373 => (some t373)) else (some false)) else (some false)) else (some false)) = some r := H
     have A24 := Aside0.mk A240
     clear A240
     by_cases c25 : t370 = 0
     ·rw [if_pos c25] at H
      have c25b0 : (t370 == 0) = true := beq_iff_eq.mpr c25
      have c25b1 : (t370 != 0) = false := bne_eq_false_iff_eq.mpr c25
      clear c25
      by_cases c26 : t369 = t371
      ·rw [if_pos c26] at H
       have c26b0 : (t369 == t371) = true := beq_iff_eq.mpr c26
       have c26b1 : (t369 != t371) = false := bne_eq_false_iff_eq.mpr c26
       clear c26
       by_cases c27 : t363 ≤ t371
       ·rw [if_pos c27] at H
        have c27b0 : decide (t363 ≤ t371) = true := decide_eq_true c27
        clear c27
        replace H := Option.bind_eq_some_iff.mp H
        obtain ⟨t373, A280, H⟩ := H
        replace H : (some t373) = some r := H
        have A28 := Aside0.mk A280
        clear A280
        obtain rfl := Option.some.inj H
        go_wp2_with (first | ((with_reducible refine gate_callee (f := 12) rfl ?_); refine goesL_ (some 78) rfl rfl Try.func12 (by kernel_rfl) rfl #[.slice Ao12 t355.length co12, .slice Ao13 t358.length co13, .int .i64 0] rfl (by (try simp only [List.map_toArray, List.map_cons, List.map_nil]); first | done | rfl | (simp only [List.length_drop, List.length_take]; rfl)) ?_; (with_reducible refine (warp_Distance.calls kj8 _ _ t355 _ _ t358 0 t369 t370 _ ?side1 ?side2 ?side3 ?side4 A23.out).mono ?_); (case side1 => repeat (first | exact (Kd.R_reads' HO_5.out).2.2 | (with_reducible refine Kd.C_alloc ?_ _) | (with_reducible refine Kd.C_drewN ?_ _) | (with_reducible refine Kd.C_drew ?_))); (case side2 => exact (Kd.R_reads' HO_5.out).2.1); (case side3 => repeat (first | exact (Kd.R_reads' HO_6.out).2.2 | (with_reducible refine Kd.C_alloc ?_ _) | (with_reducible refine Kd.C_drewN ?_ _) | (with_reducible refine Kd.C_drew ?_))); (case side4 => exact (Kd.R_reads' HO_6.out).2.1); rintro e w29 ⟨rfl, hb⟩; refine ⟨_, rfl, ?_⟩; have n0_ := Aside0.mk (Kd.R_below (by (with_reducible repeat (first | apply Kd.R_alloc | apply Kd.R_drewN | apply Kd.R_drew)); exact HO_5.out) hb); have n1_ := Aside0.mk (Kd.R_below (by (with_reducible repeat (first | apply Kd.R_alloc | apply Kd.R_drewN | apply Kd.R_drew)); exact HO_6.out) hb); have n2_ := Aside0.mk (below_step (by repeat (first | (with_reducible first | exact HB.out | apply below_alloc | apply pw_below_drewN | apply below_drew1) | exact HB.out)) hb); clear HO_5; clear HO_6; clear HB; have HO_5 := n0_; have HO_6 := n1_; have HB := n2_; clear n0_ n1_ n2_; (try clear hb); (try clear hb2); (try clear hk); (try clear hi)) | ((with_reducible refine gate_callee (f := 15) rfl ?_); refine goesL_ (some 84) rfl rfl Try.func15 (by kernel_rfl) rfl #[.slice Ao12 t355.length co12, .slice Ao13 t358.length co13] rfl (by (try simp only [List.map_toArray, List.map_cons, List.map_nil]); first | done | rfl | (simp only [List.length_drop, List.length_take]; rfl)) ?_; (with_reducible refine (shapesearchref12_Distance.calls kj8 _ _ t355 _ _ t358 t371 t372 _ ?side1 ?side2 ?side3 ?side4 A24.out).mono ?_); (case side1 => repeat (first | exact (Kd.R_reads' HO_5.out).2.2 | (with_reducible refine Kd.C_alloc ?_ _) | (with_reducible refine Kd.C_drewN ?_ _) | (with_reducible refine Kd.C_drew ?_))); (case side2 => exact (Kd.R_reads' HO_5.out).2.1); (case side3 => repeat (first | exact (Kd.R_reads' HO_6.out).2.2 | (with_reducible refine Kd.C_alloc ?_ _) | (with_reducible refine Kd.C_drewN ?_ _) | (with_reducible refine Kd.C_drew ?_))); (case side4 => exact (Kd.R_reads' HO_6.out).2.1); rintro e w' ⟨rfl, ⟨nd, rfl⟩⟩; refine ⟨_, rfl, ?_⟩) | (go_at_call 14; (with_reducible refine (shapesearchlaw14_awake.calls kj8  t373 _ A28.out).mono ?_); rintro e w30 ⟨rfl, hb⟩; have n0_ := Aside0.mk (Kd.R_below (by (with_reducible repeat (first | apply Kd.R_alloc | apply Kd.R_drewN | apply Kd.R_drew)); exact HO_5.out) hb); have n1_ := Aside0.mk (Kd.R_below (by (with_reducible repeat (first | apply Kd.R_alloc | apply Kd.R_drewN | apply Kd.R_drew)); exact HO_6.out) hb); have n2_ := Aside0.mk (below_step (by repeat (first | (with_reducible first | exact HB.out | apply below_alloc | apply pw_below_drewN | apply below_drew1) | exact HB.out)) hb); clear HO_5; clear HO_6; clear HB; have HO_5 := n0_; have HO_6 := n1_; have HB := n2_; clear n0_ n1_ n2_; (try clear hb); (try clear hb2); (try clear hk); (try clear hi)))
        go_ret
        exact ⟨by first | rfl | (simp [errW_none, errW_some] <;> rfl) | (simp only [← hji7]; first | rfl | (simp [errW_none, errW_some] <;> rfl)) | (simp [*, errW_none, errW_some] <;> rfl), by repeat (first | (with_reducible first | exact HB.out | apply below_alloc | apply pw_below_drewN | apply below_drew1) | exact HB.out)⟩
       ·rw [if_neg c27] at H
        have c27b0 : decide (t363 ≤ t371) = false := decide_eq_false c27
        clear c27
        obtain rfl := Option.some.inj H
        go_wp2_with (first | ((with_reducible refine gate_callee (f := 12) rfl ?_); refine goesL_ (some 78) rfl rfl Try.func12 (by kernel_rfl) rfl #[.slice Ao12 t355.length co12, .slice Ao13 t358.length co13, .int .i64 0] rfl (by (try simp only [List.map_toArray, List.map_cons, List.map_nil]); first | done | rfl | (simp only [List.length_drop, List.length_take]; rfl)) ?_; (with_reducible refine (warp_Distance.calls kj8 _ _ t355 _ _ t358 0 t369 t370 _ ?side1 ?side2 ?side3 ?side4 A23.out).mono ?_); (case side1 => repeat (first | exact (Kd.R_reads' HO_5.out).2.2 | (with_reducible refine Kd.C_alloc ?_ _) | (with_reducible refine Kd.C_drewN ?_ _) | (with_reducible refine Kd.C_drew ?_))); (case side2 => exact (Kd.R_reads' HO_5.out).2.1); (case side3 => repeat (first | exact (Kd.R_reads' HO_6.out).2.2 | (with_reducible refine Kd.C_alloc ?_ _) | (with_reducible refine Kd.C_drewN ?_ _) | (with_reducible refine Kd.C_drew ?_))); (case side4 => exact (Kd.R_reads' HO_6.out).2.1); rintro e w31 ⟨rfl, hb⟩; refine ⟨_, rfl, ?_⟩; have n0_ := Aside0.mk (Kd.R_below (by (with_reducible repeat (first | apply Kd.R_alloc | apply Kd.R_drewN | apply Kd.R_drew)); exact HO_5.out) hb); have n1_ := Aside0.mk (Kd.R_below (by (with_reducible repeat (first | apply Kd.R_alloc | apply Kd.R_drewN | apply Kd.R_drew)); exact HO_6.out) hb); have n2_ := Aside0.mk (below_step (by repeat (first | (with_reducible first | exact HB.out | apply below_alloc | apply pw_below_drewN | apply below_drew1) | exact HB.out)) hb); clear HO_5; clear HO_6; clear HB; have HO_5 := n0_; have HO_6 := n1_; have HB := n2_; clear n0_ n1_ n2_; (try clear hb); (try clear hb2); (try clear hk); (try clear hi)) | ((with_reducible refine gate_callee (f := 15) rfl ?_); refine goesL_ (some 84) rfl rfl Try.func15 (by kernel_rfl) rfl #[.slice Ao12 t355.length co12, .slice Ao13 t358.length co13] rfl (by (try simp only [List.map_toArray, List.map_cons, List.map_nil]); first | done | rfl | (simp only [List.length_drop, List.length_take]; rfl)) ?_; (with_reducible refine (shapesearchref12_Distance.calls kj8 _ _ t355 _ _ t358 t371 t372 _ ?side1 ?side2 ?side3 ?side4 A24.out).mono ?_); (case side1 => repeat (first | exact (Kd.R_reads' HO_5.out).2.2 | (with_reducible refine Kd.C_alloc ?_ _) | (with_reducible refine Kd.C_drewN ?_ _) | (with_reducible refine Kd.C_drew ?_))); (case side2 => exact (Kd.R_reads' HO_5.out).2.1); (case side3 => repeat (first | exact (Kd.R_reads' HO_6.out).2.2 | (with_reducible refine Kd.C_alloc ?_ _) | (with_reducible refine Kd.C_drewN ?_ _) | (with_reducible refine Kd.C_drew ?_))); (case side4 => exact (Kd.R_reads' HO_6.out).2.1); rintro e w' ⟨rfl, ⟨nd, rfl⟩⟩; refine ⟨_, rfl, ?_⟩))
        go_ret
        exact ⟨by first | rfl | (simp [errW_none, errW_some] <;> rfl) | (simp only [← hji7]; first | rfl | (simp [errW_none, errW_some] <;> rfl)) | (simp [*, errW_none, errW_some] <;> rfl), by repeat (first | (with_reducible first | exact HB.out | apply below_alloc | apply pw_below_drewN | apply below_drew1) | exact HB.out)⟩
      ·rw [if_neg c26] at H
       have c26b0 : (t369 == t371) = false := beq_eq_false_iff_ne.mpr c26
       have c26b1 : (t369 != t371) = true := bne_iff_ne.mpr c26
       obtain rfl := Option.some.inj H
       go_wp2_with (first | ((with_reducible refine gate_callee (f := 12) rfl ?_); refine goesL_ (some 78) rfl rfl Try.func12 (by kernel_rfl) rfl #[.slice Ao12 t355.length co12, .slice Ao13 t358.length co13, .int .i64 0] rfl (by (try simp only [List.map_toArray, List.map_cons, List.map_nil]); first | done | rfl | (simp only [List.length_drop, List.length_take]; rfl)) ?_; (with_reducible refine (warp_Distance.calls kj8 _ _ t355 _ _ t358 0 t369 t370 _ ?side1 ?side2 ?side3 ?side4 A23.out).mono ?_); (case side1 => repeat (first | exact (Kd.R_reads' HO_5.out).2.2 | (with_reducible refine Kd.C_alloc ?_ _) | (with_reducible refine Kd.C_drewN ?_ _) | (with_reducible refine Kd.C_drew ?_))); (case side2 => exact (Kd.R_reads' HO_5.out).2.1); (case side3 => repeat (first | exact (Kd.R_reads' HO_6.out).2.2 | (with_reducible refine Kd.C_alloc ?_ _) | (with_reducible refine Kd.C_drewN ?_ _) | (with_reducible refine Kd.C_drew ?_))); (case side4 => exact (Kd.R_reads' HO_6.out).2.1); rintro e w32 ⟨rfl, hb⟩; refine ⟨_, rfl, ?_⟩; have n0_ := Aside0.mk (Kd.R_below (by (with_reducible repeat (first | apply Kd.R_alloc | apply Kd.R_drewN | apply Kd.R_drew)); exact HO_5.out) hb); have n1_ := Aside0.mk (Kd.R_below (by (with_reducible repeat (first | apply Kd.R_alloc | apply Kd.R_drewN | apply Kd.R_drew)); exact HO_6.out) hb); have n2_ := Aside0.mk (below_step (by repeat (first | (with_reducible first | exact HB.out | apply below_alloc | apply pw_below_drewN | apply below_drew1) | exact HB.out)) hb); clear HO_5; clear HO_6; clear HB; have HO_5 := n0_; have HO_6 := n1_; have HB := n2_; clear n0_ n1_ n2_; (try clear hb); (try clear hb2); (try clear hk); (try clear hi)) | ((with_reducible refine gate_callee (f := 15) rfl ?_); refine goesL_ (some 84) rfl rfl Try.func15 (by kernel_rfl) rfl #[.slice Ao12 t355.length co12, .slice Ao13 t358.length co13] rfl (by (try simp only [List.map_toArray, List.map_cons, List.map_nil]); first | done | rfl | (simp only [List.length_drop, List.length_take]; rfl)) ?_; (with_reducible refine (shapesearchref12_Distance.calls kj8 _ _ t355 _ _ t358 t371 t372 _ ?side1 ?side2 ?side3 ?side4 A24.out).mono ?_); (case side1 => repeat (first | exact (Kd.R_reads' HO_5.out).2.2 | (with_reducible refine Kd.C_alloc ?_ _) | (with_reducible refine Kd.C_drewN ?_ _) | (with_reducible refine Kd.C_drew ?_))); (case side2 => exact (Kd.R_reads' HO_5.out).2.1); (case side3 => repeat (first | exact (Kd.R_reads' HO_6.out).2.2 | (with_reducible refine Kd.C_alloc ?_ _) | (with_reducible refine Kd.C_drewN ?_ _) | (with_reducible refine Kd.C_drew ?_))); (case side4 => exact (Kd.R_reads' HO_6.out).2.1); rintro e w' ⟨rfl, ⟨nd, rfl⟩⟩; refine ⟨_, rfl, ?_⟩))
       go_ret
       exact ⟨by first | rfl | (simp [errW_none, errW_some] <;> rfl) | (simp only [← hji7]; first | rfl | (simp [errW_none, errW_some] <;> rfl)) | (simp [*, errW_none, errW_some] <;> rfl), by repeat (first | (with_reducible first | exact HB.out | apply below_alloc | apply pw_below_drewN | apply below_drew1) | exact HB.out)⟩
     ·rw [if_neg c25] at H
      have c25b0 : (t370 == 0) = false := beq_eq_false_iff_ne.mpr c25
      have c25b1 : (t370 != 0) = true := bne_iff_ne.mpr c25
      obtain rfl := Option.some.inj H
      go_wp2_with (first | ((with_reducible refine gate_callee (f := 12) rfl ?_); refine goesL_ (some 78) rfl rfl Try.func12 (by kernel_rfl) rfl #[.slice Ao12 t355.length co12, .slice Ao13 t358.length co13, .int .i64 0] rfl (by (try simp only [List.map_toArray, List.map_cons, List.map_nil]); first | done | rfl | (simp only [List.length_drop, List.length_take]; rfl)) ?_; (with_reducible refine (warp_Distance.calls kj8 _ _ t355 _ _ t358 0 t369 t370 _ ?side1 ?side2 ?side3 ?side4 A23.out).mono ?_); (case side1 => repeat (first | exact (Kd.R_reads' HO_5.out).2.2 | (with_reducible refine Kd.C_alloc ?_ _) | (with_reducible refine Kd.C_drewN ?_ _) | (with_reducible refine Kd.C_drew ?_))); (case side2 => exact (Kd.R_reads' HO_5.out).2.1); (case side3 => repeat (first | exact (Kd.R_reads' HO_6.out).2.2 | (with_reducible refine Kd.C_alloc ?_ _) | (with_reducible refine Kd.C_drewN ?_ _) | (with_reducible refine Kd.C_drew ?_))); (case side4 => exact (Kd.R_reads' HO_6.out).2.1); rintro e w33 ⟨rfl, hb⟩; refine ⟨_, rfl, ?_⟩; have n0_ := Aside0.mk (Kd.R_below (by (with_reducible repeat (first | apply Kd.R_alloc | apply Kd.R_drewN | apply Kd.R_drew)); exact HO_5.out) hb); have n1_ := Aside0.mk (Kd.R_below (by (with_reducible repeat (first | apply Kd.R_alloc | apply Kd.R_drewN | apply Kd.R_drew)); exact HO_6.out) hb); have n2_ := Aside0.mk (below_step (by repeat (first | (with_reducible first | exact HB.out | apply below_alloc | apply pw_below_drewN | apply below_drew1) | exact HB.out)) hb); clear HO_5; clear HO_6; clear HB; have HO_5 := n0_; have HO_6 := n1_; have HB := n2_; clear n0_ n1_ n2_; (try clear hb); (try clear hb2); (try clear hk); (try clear hi)) | ((with_reducible refine gate_callee (f := 15) rfl ?_); refine goesL_ (some 84) rfl rfl Try.func15 (by kernel_rfl) rfl #[.slice Ao12 t355.length co12, .slice Ao13 t358.length co13] rfl (by (try simp only [List.map_toArray, List.map_cons, List.map_nil]); first | done | rfl | (simp only [List.length_drop, List.length_take]; rfl)) ?_; (with_reducible refine (shapesearchref12_Distance.calls kj8 _ _ t355 _ _ t358 t371 t372 _ ?side1 ?side2 ?side3 ?side4 A24.out).mono ?_); (case side1 => repeat (first | exact (Kd.R_reads' HO_5.out).2.2 | (with_reducible refine Kd.C_alloc ?_ _) | (with_reducible refine Kd.C_drewN ?_ _) | (with_reducible refine Kd.C_drew ?_))); (case side2 => exact (Kd.R_reads' HO_5.out).2.1); (case side3 => repeat (first | exact (Kd.R_reads' HO_6.out).2.2 | (with_reducible refine Kd.C_alloc ?_ _) | (with_reducible refine Kd.C_drewN ?_ _) | (with_reducible refine Kd.C_drew ?_))); (case side4 => exact (Kd.R_reads' HO_6.out).2.1); rintro e w' ⟨rfl, ⟨nd, rfl⟩⟩; refine ⟨_, rfl, ?_⟩))
      go_ret
      exact ⟨by first | rfl | (simp [errW_none, errW_some] <;> rfl) | (simp only [← hji7]; first | rfl | (simp [errW_none, errW_some] <;> rfl)) | (simp [*, errW_none, errW_some] <;> rfl), by repeat (first | (with_reducible first | exact HB.out | apply below_alloc | apply pw_below_drewN | apply below_drew1) | exact HB.out)⟩
    ·rw [if_neg c22] at H
     have c22b0 : ((t355.length : Int) == (t358.length : Int)) = false := beq_eq_false_iff_ne.mpr c22
     have c22b1 : ((t355.length : Int) != (t358.length : Int)) = true := bne_iff_ne.mpr c22
     have c22b2 : (t355.length == t358.length) = false := by first | simpa using c22 | (simp at c22 ⊢; omega)
     replace H := Option.bind_eq_some_iff.mp H
     obtain ⟨t374, A340, H⟩ := H
     replace H : (some t374) = some r := H
     have A34 := Aside0.mk A340
     clear A340
     obtain rfl := Option.some.inj H
     go_wp2_with (first | ((with_reducible refine gate_callee (f := 14) rfl ?_); refine goesL_ (some 102) rfl rfl Try.func14 (by kernel_rfl) rfl #[] rfl (by (try simp only [List.map_toArray, List.map_cons, List.map_nil]); first | done | rfl | (simp only [List.length_drop, List.length_take]; rfl)) ?_; (with_reducible refine (shapesearchlaw14_awake.calls kj8  t374 _ A34.out).mono ?_); rintro e w35 ⟨rfl, hb⟩; refine ⟨_, rfl, ?_⟩; have n0_ := Aside0.mk (Kd.R_below (by (with_reducible repeat (first | apply Kd.R_alloc | apply Kd.R_drewN | apply Kd.R_drew)); exact HO_5.out) hb); have n1_ := Aside0.mk (Kd.R_below (by (with_reducible repeat (first | apply Kd.R_alloc | apply Kd.R_drewN | apply Kd.R_drew)); exact HO_6.out) hb); have n2_ := Aside0.mk (below_step (by repeat (first | (with_reducible first | exact HB.out | apply below_alloc | apply pw_below_drewN | apply below_drew1) | exact HB.out)) hb); clear HO_5; clear HO_6; clear HB; have HO_5 := n0_; have HO_6 := n1_; have HB := n2_; clear n0_ n1_ n2_; (try clear hb); (try clear hb2); (try clear hk); (try clear hi)))
     go_ret
     exact ⟨by first | rfl | (simp [errW_none, errW_some] <;> rfl) | (simp only [← hji7]; first | rfl | (simp [errW_none, errW_some] <;> rfl)) | (simp [*, errW_none, errW_some] <;> rfl), by repeat (first | (with_reducible first | exact HB.out | apply below_alloc | apply pw_below_drewN | apply below_drew1) | exact HB.out)⟩

/-- THE ONE PURE STATEMENT of shapesearchlaw14_WarpBands: yours. -/
def shapesearchlaw14_WarpBands.Pure : Prop := ∀ (l0 : List Int) (a1 : Int), l0.length ≤ maxLen → l0.length * 8 ≤ 140737488351232 → (∀ x ∈ l0, (Lit.int .i64 x).wf = true) → (Lit.int .u8 a1).wf = true → ∃ k, shapesearchlaw14_WarpBands.f k l0 a1 = some true
theorem shapesearchlaw14_WarpBands.walk (P : shapesearchlaw14_WarpBands.Pure) (a0 : Option Addr) (len0 cap0 : Nat) (z0 : List Int) (a1 : Int) (w : World) (w0 : (a0 = none ∧ len0 = 0 ∧ cap0 = 0 ∧ z0 = []) ∨ ∃ x, a0 = some x ∧ len0 ≤ cap0 ∧ cap0 ≤ maxLen ∧ z0.length = cap0 ∧ (∀ i, i < z0.length → w.cell? (x.add i) = some (.int .i64 (z0.getD i 0))) ∧ ∀ n ∈ z0, (Lit.int .i64 n).wf = true) (y0 : len0 * 8 ≤ 140737488351232) (w1 : (Lit.int .u8 a1).wf = true) :
  Calls Try.prog 4 #[.slice a0 len0 cap0, .int .u8 a1] w fun e w' => e = .returned (.bool true) ∧ Below w.heap.size w w' := by
 obtain ⟨l0, rfl, hr0, hm0, hw0, hc0⟩ := ReadsInt.ofRowC w0
 obtain ⟨k, h⟩ := P l0 a1 hm0 y0 hw0 w1
 refine (shapesearchlaw14_WarpBands.calls k _ _ l0 a1 true w (Kd.C_of_reads (d := (0 : Int)) (h1 := fun _ => rfl) hr0) hc0 h).mono ?_
 rintro e w' ⟨rfl, hd⟩
 exact ⟨rfl, hd⟩

end Go.Proofs.Ytnceoalphoodaaa.PWarpBands
