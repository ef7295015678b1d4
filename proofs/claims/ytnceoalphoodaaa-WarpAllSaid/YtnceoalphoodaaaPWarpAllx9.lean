/- Told by a program of this session out of the translation: Lean functions with the same answers as the Go functions that the law reaches, and proofs of that; no conditions. -/
import Derived.Test.YtnceoalphoodaaaPWarpAllx0
import Derived.Test.YtnceoalphoodaaaPWarpAllx1
import Derived.Test.YtnceoalphoodaaaPWarpAllx5
import Derived.Test.YtnceoalphoodaaaPWarpAllx6
import Derived.Test.YtnceoalphoodaaaPWarpAllx8
namespace Go.Proofs.Ytnceoalphoodaaa.PWarpAll
open Go.RowKit Go.Proofs.YtnceoalphoodaaaW.PrintWords Go.Proofs.YtnceoalphoodaaaW.PrintLast Go.Proofs.YtnceoalphoodaaaW.PrintMore
attribute [local go_sem] max2_int min2_int max_two min_two max_three min_three max_four min_four   -- for this text's walks alone
set_option linter.unusedVariables false
set_option linter.unusedSimpArgs false

attribute [local go_sem high] eqA54
/-! ### warp_Path: function 18 -/
mutual
def warp_Path.l0 : Nat → List Int → List Int → Int → List (List Int) → Int → Int → Option ((List (S54)) × Int)
  | 0, _, _, _, _, _, _ => none
  | k + 1, x0, x1, x2, x9, x29, x30 => if x30 < x29 then (if 0 ≤ (x1.length : Int) then (if ((x1.length : Int) : Int).toNat ≤ 35184372088832 then (if x9.length < 5864062014805 then ((some (x9 ++ [(List.replicate ((x1.length : Int) : Int).toNat 0)] : List (List Int))).bind fun y => (if 0 ≤ (wrap64 (x30 + 1)) then (if (wrap64 (x30 + 1)) < (y.length : Int) then (if 0 ≤ x30 then (if x30 < (y.length : Int) then ((warp_fill.f k (rd_L2 y (wrap64 (x30 + 1))) (rd_L2 y x30) x0 x1 x2 x30).bind fun t => (warp_Path.l0 k x0 x1 x2 (y.set (wrap64 (x30 + 1)).toNat t) x29 (wrap64 (x30 + 1)))) else (none)) else (none)) else (none)) else (none))) else (none)) else (none)) else (none)) else (if 1 ≤ (x9.length : Int) then (warp_Path.l1 k (x9.drop (1 : Int).toNat) (([(⟨wrap64 ((x0.length : Int) - 1), wrap64 ((x1.length : Int) - 1)⟩ : S54)] : List (S54))) (wrap64 ((x0.length : Int) - 1)) (wrap64 ((x1.length : Int) - 1))) else (none))
def warp_Path.l1 : Nat → List (List Int) → List (S54) → Int → Int → Option ((List (S54)) × Int)
  | 0, _, _, _, _ => none
  | k + 1, x9, x12, x305000, x305001 => if (!(x305000 == 0) || (!(x305001 == 0))) = true then ((some (([(⟨wrap64 (x305000 - 1), wrap64 (x305001 - 1)⟩ : S54), (⟨wrap64 (x305000 - 1), x305001⟩ : S54), (⟨x305000, wrap64 (x305001 - 1)⟩ : S54)] : List (S54)) : List (S54))).bind fun y310 => (warp_Path.l2 k x9 x12 4611686018427387904 y310 (y310.length : Int) 0 x305000 x305001)) else ((api_Pair.f k x12).bind fun t308 => (some (t308, 0)))
def warp_Path.l2 : Nat → List (List Int) → List (S54) → Int → List (S54) → Int → Int → Int → Int → Option ((List (S54)) × Int)
  | 0, _, _, _, _, _, _, _, _ => none
  | k + 1, x9, x12, x14, x88, x89, x90, x310000, x310001 => if x90 < x89 then (if 0 ≤ x90 then (if x90 < (x88.length : Int) then (if ((rd_T54 x88 x90).f0) ≥ 0 then (if ((rd_T54 x88 x90).f1) ≥ 0 then (if 0 ≤ ((rd_T54 x88 x90).f0) then (if ((rd_T54 x88 x90).f0) < (x9.length : Int) then (if 0 ≤ ((rd_T54 x88 x90).f1) then (if ((rd_T54 x88 x90).f1) < ((rd_L2 x9 ((rd_T54 x88 x90).f0)).length : Int) then (if (rd (rd_L2 x9 ((rd_T54 x88 x90).f0)) ((rd_T54 x88 x90).f1)) < x14 then (warp_Path.l2 k x9 x12 (rd (rd_L2 x9 ((rd_T54 x88 x90).f0)) ((rd_T54 x88 x90).f1)) x88 x89 (wrap64 (x90 + 1)) ((rd_T54 x88 x90).f0) ((rd_T54 x88 x90).f1)) else (warp_Path.l2 k x9 x12 x14 x88 x89 (wrap64 (x90 + 1)) x310000 x310001)) else (none)) else (none)) else (none)) else (none)) else (warp_Path.l2 k x9 x12 x14 x88 x89 (wrap64 (x90 + 1)) x310000 x310001)) else (warp_Path.l2 k x9 x12 x14 x88 x89 (wrap64 (x90 + 1)) x310000 x310001)) else (none)) else (none)) else (if x12.length < 8796093022208 then (warp_Path.l1 k x9 (x12 ++ [(⟨x310000, x310001⟩ : S54)]) x310000 x310001) else (none))
end
def warp_Path.f (k : Nat) (l0 : List Int) (l1 : List Int) (a2 : Int) : Option ((List (S54)) × Int) := (warp_check.f k l0 l1 a2).bind fun t288 => (if t288 = 0 then (if 0 ≤ (l1.length : Int) then (if ((l1.length : Int) : Int).toNat ≤ 35184372088832 then (warp_Path.l0 k l0 l1 a2 ([(List.replicate ((l1.length : Int) : Int).toNat 0)] : List (List Int)) (l0.length : Int) 0) else (none)) else (none)) else (some (([] : List (S54)), t288)))
theorem warp_Path.mono_l : ∀ k, (∀ y0 y1 y2 y3 y4 y5, LeO (warp_Path.l0 k y0 y1 y2 y3 y4 y5) (warp_Path.l0 (k + 1) y0 y1 y2 y3 y4 y5)) ∧ (∀ y0 y1 y2 y3, LeO (warp_Path.l1 k y0 y1 y2 y3) (warp_Path.l1 (k + 1) y0 y1 y2 y3)) ∧ (∀ y0 y1 y2 y3 y4 y5 y6 y7, LeO (warp_Path.l2 k y0 y1 y2 y3 y4 y5 y6 y7) (warp_Path.l2 (k + 1) y0 y1 y2 y3 y4 y5 y6 y7))
  | 0 => ⟨fun _ _ _ _ _ _ r h => by simp [warp_Path.l0] at h, fun _ _ _ _ r h => by simp [warp_Path.l1] at h, fun _ _ _ _ _ _ _ _ r h => by simp [warp_Path.l2] at h⟩
  | k + 1 => by
    obtain ⟨ih0, ih1, ih2⟩ := warp_Path.mono_l k
    refine ⟨?_, ?_, ?_⟩
    · intro y0 y1 y2 y3 y4 y5
      unfold warp_Path.l0
      repeat' first
      | (with_reducible exact ih0 _ _ _ _ _ _)
      | (with_reducible exact ih1 _ _ _ _)
      | (with_reducible exact ih2 _ _ _ _ _ _ _ _)
      | (with_reducible exact api_Pair.mono _ _)
      | (with_reducible exact warp_check.mono _ _ _ _)
      | (with_reducible exact warp_fill.mono _ _ _ _ _ _ _)
      | (with_reducible exact LeO.refl _)
      | (with_reducible exact LeO.none _)
      | (with_reducible refine LeO.ite ?_ ?_)
      | (with_reducible refine LeO.bind ?_ (fun _ => ?_))
      | exact ih0 _ _ _ _ _ _
      | exact ih1 _ _ _ _
      | exact ih2 _ _ _ _ _ _ _ _
      | exact api_Pair.mono _ _
      | exact warp_check.mono _ _ _ _
      | exact warp_fill.mono _ _ _ _ _ _ _
      | exact LeO.none _
      | refine LeO.ite ?_ ?_
      | refine LeO.bind ?_ (fun _ => ?_)
    · intro y0 y1 y2 y3
      unfold warp_Path.l1
      repeat' first
      | (with_reducible exact ih0 _ _ _ _ _ _)
      | (with_reducible exact ih1 _ _ _ _)
      | (with_reducible exact ih2 _ _ _ _ _ _ _ _)
      | (with_reducible exact api_Pair.mono _ _)
      | (with_reducible exact warp_check.mono _ _ _ _)
      | (with_reducible exact warp_fill.mono _ _ _ _ _ _ _)
      | (with_reducible exact LeO.refl _)
      | (with_reducible exact LeO.none _)
      | (with_reducible refine LeO.ite ?_ ?_)
      | (with_reducible refine LeO.bind ?_ (fun _ => ?_))
      | exact ih0 _ _ _ _ _ _
      | exact ih1 _ _ _ _
      | exact ih2 _ _ _ _ _ _ _ _
      | exact api_Pair.mono _ _
      | exact warp_check.mono _ _ _ _
      | exact warp_fill.mono _ _ _ _ _ _ _
      | exact LeO.none _
      | refine LeO.ite ?_ ?_
      | refine LeO.bind ?_ (fun _ => ?_)
    · intro y0 y1 y2 y3 y4 y5 y6 y7
      unfold warp_Path.l2
      repeat' first
      | (with_reducible exact ih0 _ _ _ _ _ _)
      | (with_reducible exact ih1 _ _ _ _)
      | (with_reducible exact ih2 _ _ _ _ _ _ _ _)
      | (with_reducible exact api_Pair.mono _ _)
      | (with_reducible exact warp_check.mono _ _ _ _)
      | (with_reducible exact warp_fill.mono _ _ _ _ _ _ _)
      | (with_reducible exact LeO.refl _)
      | (with_reducible exact LeO.none _)
      | (with_reducible refine LeO.ite ?_ ?_)
      | (with_reducible refine LeO.bind ?_ (fun _ => ?_))
      | exact ih0 _ _ _ _ _ _
      | exact ih1 _ _ _ _
      | exact ih2 _ _ _ _ _ _ _ _
      | exact api_Pair.mono _ _
      | exact warp_check.mono _ _ _ _
      | exact warp_fill.mono _ _ _ _ _ _ _
      | exact LeO.none _
      | refine LeO.ite ?_ ?_
      | refine LeO.bind ?_ (fun _ => ?_)
theorem warp_Path.mono : ∀ a0 a1 a2 k, LeO (warp_Path.f k a0 a1 a2) (warp_Path.f (k + 1) a0 a1 a2) := by
  intro a0 a1 a2 k
  obtain ⟨ih0, ih1, ih2⟩ := warp_Path.mono_l k
  unfold warp_Path.f
  repeat' first
      | (with_reducible exact ih0 _ _ _ _ _ _)
      | (with_reducible exact ih1 _ _ _ _)
      | (with_reducible exact ih2 _ _ _ _ _ _ _ _)
      | (with_reducible exact api_Pair.mono _ _)
      | (with_reducible exact warp_check.mono _ _ _ _)
      | (with_reducible exact warp_fill.mono _ _ _ _ _ _ _)
      | (with_reducible exact LeO.refl _)
      | (with_reducible exact LeO.none _)
      | (with_reducible refine LeO.ite ?_ ?_)
      | (with_reducible refine LeO.bind ?_ (fun _ => ?_))
      | exact ih0 _ _ _ _ _ _
      | exact ih1 _ _ _ _
      | exact ih2 _ _ _ _ _ _ _ _
      | exact api_Pair.mono _ _
      | exact warp_check.mono _ _ _ _
      | exact warp_fill.mono _ _ _ _ _ _ _
      | exact LeO.none _
      | refine LeO.ite ?_ ?_
      | refine LeO.bind ?_ (fun _ => ?_)
/-- Two elements' rows of a row of rows: what each is, that they are two, and that the whole is whole again behind what writes the first of them alone. -/
theorem S_pair {α : Type} {d : Kd α} {e e' g n cap base : Nat} {W : World} {ok : Nat → Prop} {xs : List (List α)} (hE : d.E = [])
    (h : Kd.S (Kd.slice e' d) e W base ok (.slice (some ⟨g, 0, none⟩) n cap) xs) (i j : Int) (hi0 : 0 ≤ i) (hi : i < n) (hj0 : 0 ≤ j) (hj : j < n) (hij : i ≠ j) :
    ∃ v u : Value, W.cell? ⟨g, i.toNat, none⟩ = some v ∧ W.cell? ⟨g, j.toNat, none⟩ = some u ∧
      d.R e' W base (fun k => some k = v.ownBlock) v (xs.getD i.toNat []) ∧ d.R e' W base (fun k => some k = u.ownBlock) u (xs.getD j.toNat []) ∧
      (∀ k, some k = u.ownBlock → ¬ some k = v.ownBlock) ∧
      ∀ {w1 : World} {r : List α} {ok1 : Nat → Prop}, Kept W w1 (fun k => some k = v.ownBlock) → d.R e' w1 base ok1 v r →
        Kd.S (Kd.slice e' d) e w1 base ok (.slice (some ⟨g, 0, none⟩) n cap) (xs.set i.toNat r) := by
  have hn := (Kd.S_reads' h).1
  obtain ⟨oki, c, hcl, hM, hcc, hoki, hH⟩ := Kd.S_lend h [] i hi0 hi
  obtain ⟨v, rfl, hv⟩ := hM
  have hH' := hH
  obtain ⟨ho, f, hR⟩ := hH'
  obtain ⟨c2, hcl2, hM2, hcc2, _⟩ := Kd.R_elem hR (([] : List α), 0) j hj0 hj
  have hjl : j.toNat < xs.length := by omega
  have e1 : xs.zipIdx.getD j.toNat (([] : List α), 0) = (xs.getD j.toNat [], j.toNat) := by
    rw [List.getD_eq_getElem?_getD, List.getD_eq_getElem?_getD, List.getElem?_zipIdx, List.getElem?_eq_getElem hjl]; simp
  rw [e1] at hM2
  obtain ⟨u, rfl, hu⟩ := hM2.2 (by simp only; omega)
  refine ⟨v, u, ?_, ?_, Kd.R_tight hE hv, Kd.R_tight hE hu, ?_, ?_⟩
  · have := hcc 0 v rfl
    rwa [show (Kd.slice e' d).sz = 1 from rfl, Nat.mul_one, Nat.add_zero] at this
  · have := hcc2 0 u rfl
    rwa [show (Kd.gap f (Kd.slice e' d) i.toNat [v]).sz = 1 from rfl, Nat.mul_one, Nat.add_zero] at this
  · intro k h1 h2
    exact (hu.1 k h1.symm).1.1.2 (hv.1 k h2.symm)
  · intro w1 r ok1 hk hr
    refine Kd.H_back (okp := fun k => some k = v.ownBlock) (Kd.H_step hH (fun k _ hn2 hlt => hk.2 k hlt (fun h2 => hn2 (hv.1 k h2.symm)))) ⟨v, rfl, Kd.R_tight hE hr⟩ (fun k h2 => hv.1 k h2.symm)
theorem Q_inner_ne {α : Type} {d : Kd α} {e e' gk n cap t n1 c1 base : Nat} {W : World} {ok : Nat → Prop} {A : Option Addr} {ad B : Addr} {xs : List (List α)} {cells : Array Value}
    (h : Kd.Q (Kd.slice e' d) e W base ok (.slice A n cap) xs) (hA : A = some ad) (i : Int) (h0 : 0 ≤ i) (h1 : i < n) (hx : W.cell? (ad.add i.toNat) = some (.slice (some B) n1 c1)) (hb : W.heap[gk]? = some (.cells cells t (0, 0))) (ht : ∀ q, q ∈ e :: e' :: d.E → q ≠ t) : B.block ≠ gk := by
  have hn := (Kd.Q_reads' h).1
  obtain ⟨g, o, cap', hv, _⟩ := Kd.Q_form h (by omega)
  subst hA
  injection hv with ha hb2 hc
  injection ha with ha
  subst ha hb2 hc
  obtain ⟨c, hcl, hM, hcc, _⟩ := Kd.Q_elem (Kd.Q_types h hb ht) [] i h0 h1
  obtain ⟨v, rfl, hR⟩ := hM
  have h3 := hcc 0 v rfl
  rw [show (Kd.slice e' d).sz = 1 from rfl, Nat.mul_one, Nat.add_zero] at h3
  rw [show (⟨g, o, none⟩ : Addr).add i.toNat = ⟨g, o + i.toNat, none⟩ from by unfold Addr.add; split <;> simp_all] at hx
  have h4 := Option.some.inj (h3.symm.trans hx)
  subst h4
  exact (hR.1 B.block rfl).1.2
def warp_Path.T19 : Bool × List (List Nat × List Nat) := (true, [([], []), ([0], [0]), ([1], [1]), ([2], [2]), ([3], [3]), ([4, 3], [3, 4]), ([5, 3], [3, 5]), ([3, 6], [3, 6]), ([7, 3], [7]), ([8], [8]), ([8], [8]), ([10, 8], [8, 10]), ([9, 11, 8], [8, 9, 11]), ([12, 8], [8, 12]), ([8], [8]), ([14, 8], [8, 14]), ([13, 15, 8], [8, 13, 15]), ([16, 8], [8, 16]), ([8], [8]), ([17, 18, 8], [8, 17, 18]), ([8, 19], [8, 19])])
def warp_Path.B19 : List Nat := [0, 1, 3, 7, 15, 31, 63, 127, 255, 511, 511, 1535, 4095, 8191, 511, 16895, 65535, 131071, 511, 524287, 1048575]
theorem warp_Path.tab19 : rtab .any (opsOf Try.f18 19) = warp_Path.T19 := by kernel_rfl
theorem warp_Path.bits19 : waitsOk warp_Path.T19.2 warp_Path.B19 = true := by kernel_rfl
def warp_Path.T20 : Bool × List (List Nat × List Nat) := (true, [([], []), ([], []), ([], []), ([2], [2]), ([1, 3], [1, 3]), ([4], [4]), ([], []), ([6], [6]), ([5, 7], [5, 7]), ([8], [8]), ([0, 0], [0]), ([9, 10, 0, 1, 2, 3, 4, 5, 6, 7, 8, 9, 10], [9])])
def warp_Path.B20 : List Nat := [0, 0, 0, 4, 14, 30, 0, 64, 254, 510, 1, 2047]
theorem warp_Path.tab20 : rtab .any (opsOf Try.f18 20) = warp_Path.T20 := by kernel_rfl
theorem warp_Path.bits20 : waitsOk warp_Path.T20.2 warp_Path.B20 = true := by kernel_rfl
set_option maxHeartbeats 8000000 in
set_option maxRecDepth 100000 in
theorem warp_Path.calls (k : Nat) (A0 : Option Addr) (c0 : Nat) (l0 : List Int) (A1 : Option Addr) (c1 : Nat) (l1 : List Int) (a2 : Int) (r1 : List (S54)) (r2 : Int) (w : World) (hr0 : Kd.C (Kd.int .i64) w A0 l0.length l0) (hc0 : l0.length ≤ c0) (hr1 : Kd.C (Kd.int .i64) w A1 l1.length l1) (hc1 : l1.length ≤ c1) (h : warp_Path.f k l0 l1 a2 = some (r1, r2)) :
    Calls Try.prog 18 #[.slice A0 l0.length c0, .slice A1 l1.length c1, .int .i64 a2] w fun e w' => ∃ v0_ : Value, e = .returned (.tuple #[v0_, .int .i64 r2]) ∧ Kd.R k54 54 w' w.heap.size (fun _ => True) v0_ r1 ∧ Below w.heap.size w w' := by
 have hu54 := Try.underlying54
 have HR0 := Aside0.mk hr0
 have HC0 := Aside0.mk hc0
 clear hr0 hc0
 have HR1 := Aside0.mk hr1
 have HC1 := Aside0.mk hc1
 clear hr1 hc1
 have HB := Aside0.mk (Below.refl w.heap.size w)
 have H : ((warp_check.f k l0 l1 a2).bind fun t288 => (if t288 = 0 then (if 0 ≤ (l1.length : Int) then (if ((l1.length : Int) : Int).toNat ≤ 35184372088832 then (warp_Path.l0 k l0 l1 a2 ([(List.replicate ((l1.length : Int) : Int).toNat 0)] : List (List Int)) (l0.length : Int) 0) else (none)) else (none)) else (some (([] : List (S54)), t288)))) = some (r1, r2) := h
 clear h
 replace H := Option.bind_eq_some_iff.mp H
 obtain ⟨t288, A40, H⟩ := H
 replace H : (if t288 = 0 then (if 0 ≤ (l1.length : Int) then (if ((l1.length : Int) : Int).toNat ≤ 35184372088832 then (warp_Path.l0 k l0 l1 a2 ([(List.replicate ((l1.length : Int) : Int).toNat 0)] : List (List Int)) (l0.length : Int) 0) else (none)) else (none)) else (some (([] : List (S54)), t288))) = some (r1, r2) := H
 have A4 := Aside0.mk A40
 clear A40
 by_cases c5 : t288 = 0
 ·rw [if_pos c5] at H
  have c5b0 : (t288 == 0) = true := beq_iff_eq.mpr c5
  have c5b1 : (t288 != 0) = false := bne_eq_false_iff_eq.mpr c5
  clear c5
  by_cases c6 : 0 ≤ (l1.length : Int)
  ·rw [if_pos c6] at H
   have c6b0 := eq_true c6
   have c6b1 : decide (0 ≤ (l1.length : Int)) = true := decide_eq_true c6
   clear c6
   by_cases c7 : ((l1.length : Int) : Int).toNat ≤ 35184372088832
   ·rw [if_pos c7] at H
    have c7b0 := eq_true c7
    have c7b1 : decide (((l1.length : Int) : Int).toNat ≤ 35184372088832) = true := decide_eq_true c7
    clear c7
    obtain ⟨y289, hy289⟩ : ∃ y_ : List Int, y_ = (List.replicate ((l1.length : Int) : Int).toNat 0) := ⟨_, rfl⟩
    replace H : (warp_Path.l0 k l0 l1 a2 ([y289] : List (List Int)) (l0.length : Int) 0) = some (r1, r2) := by first | (rw [hy289]; with_reducible exact H) | (have H2_ := (Option.bind_some _ _).symm.trans H; rw [hy289]; with_reducible exact H2_) | (have H2_ := (Option.bind_some _ _).symm.trans H; with_reducible exact H2_) | with_reducible exact H | (rw [hy289]; exact H) | exact H
    have Ny289 := Aside0.mk hy289
    clear hy289
    obtain ⟨y292, hy292⟩ : ∃ y_ : List (List Int), y_ = ([y289] : List (List Int)) := ⟨_, rfl⟩
    replace H : (warp_Path.l0 k l0 l1 a2 y292 (l0.length : Int) 0) = some (r1, r2) := by first | (rw [hy292]; with_reducible exact H) | (have H2_ := (Option.bind_some _ _).symm.trans H; rw [hy292]; with_reducible exact H2_) | (have H2_ := (Option.bind_some _ _).symm.trans H; with_reducible exact H2_) | with_reducible exact H | (rw [hy292]; exact H) | exact H
    have Ny292 := Aside0.mk hy292
    clear hy292
    have H' := Aside0.mk H
    clear H
    go_enter Try.func18, Try.ntmps18
    go_wp2_with (first | ((with_reducible refine gate_callee (f := 31) rfl ?_); refine goesL_ (some 20) rfl rfl Try.func31 (by kernel_rfl) rfl #[.slice A0 l0.length c0, .slice A1 l1.length c1, .int .i64 a2] rfl (by (try simp only [List.map_toArray, List.map_cons, List.map_nil]); first | done | rfl | (simp only [List.length_drop, List.length_take]; rfl)) ?_; (with_reducible refine (warp_check.calls k _ _ l0 _ _ l1 a2 t288 _ ?side1 ?side2 ?side3 ?side4 A4.out).mono ?_); (case side1 => repeat (first | exact HR0.out | (with_reducible refine Kd.C_alloc ?_ _) | (with_reducible refine Kd.C_drewN ?_ _) | (with_reducible refine Kd.C_drew ?_))); (case side2 => exact HC0.out); (case side3 => repeat (first | exact HR1.out | (with_reducible refine Kd.C_alloc ?_ _) | (with_reducible refine Kd.C_drewN ?_ _) | (with_reducible refine Kd.C_drew ?_))); (case side4 => exact HC1.out); rintro e w' ⟨rfl, ⟨nd, rfl⟩⟩; refine ⟨_, rfl, ?_⟩) | ((with_reducible refine gate_dst (N := 26) rfl ?_); refine Kd.R_make (Kd.int .i64) _ 3 rfl (N := 26) rfl 22 _ _ rfl (l1.length : Int) rfl rfl Try.underlying22 (.int .i64 0) 8 info3 rfl (by decide) (by omega) 0 (ok := fun _ => True) (okp := fun _ => True) rfl (fun _ hk => hk) trivial (of_decide_eq_true (by first | (with_reducible assumption) | assumption)) (Nat.le_trans (Nat.mul_le_mul_right _ (of_decide_eq_true (by first | (with_reducible assumption) | assumption) : (l1.length : Int).toNat ≤ 35184372088832)) (by omega)) (Below.refl _ _) (Nat.le_refl _) ?_; intro v290 w8 ho9 hb hg_ hnew_; clear hg_ hnew_; (first | rw [← Ny289.out] at ho9 | (simp only [Int.reduceToNat] at ho9; rw [← Ny289.out] at ho9)); have n0_ := Aside0.mk (Kd.R_lower ho9 (below_size (by repeat (first | (with_reducible first | exact HB.out | apply below_alloc | apply pw_below_drewN | apply below_drew1) | exact HB.out)))); have n1_ := Aside0.mk (below_step (by repeat (first | (with_reducible first | exact HB.out | apply below_alloc | apply pw_below_drewN | apply below_drew1) | exact HB.out)) hb); clear HB; have HO291 := n0_; have HB := n1_; clear n0_ n1_; clear hb ho9; obtain ⟨Az_, cz_, ez_⟩ := Kd.R_slice HO291.out; subst ez_) | ((with_reducible refine gate_dst (N := 27) rfl ?_); refine Kd.S_lits (Kd.slice 3 (Kd.int .i64)) (w0 := w) w.heap.size 22 ?hg (N := 27) ?hd (xs := ([y289] : List (List Int))) (inner := [.slice Az_ y289.length cz_]) (ok := fun _ => True) (fun j_ _ => j_ = 0) ?hr rfl ?hp ?ha (fun _ _ _ => trivial) trivial ?hB ?hz (by simp) ?_; (case hd => rfl); (case hg => rfl); (case hr => first | (go_simp; done) | (go_simp; rfl)); (case hp => intro j_ x_ hx_; rcases j_ with _ | j_; (· (injection hx_ with hx_; subst hx_; exact Kd.M_row (Kd.R_mono HO291.out (fun _ _ => rfl)))); (· simp at hx_)); (case ha => intro i_ j_ k_ h1_ h2_; exact h1_.trans h2_.symm); (case hB => exact (by repeat (first | (with_reducible first | exact HB.out | apply below_alloc | apply pw_below_drewN | apply below_drew1) | exact HB.out))); (case hz => exact below_size (by repeat (first | (with_reducible first | exact HB.out | apply below_alloc | apply pw_below_drewN | apply below_drew1) | exact HB.out))); intro v293 w10 ho11 hb hg_ hnew_; clear hg_ hnew_; rw [← Ny292.out] at ho11; have n1_ := Aside0.mk ho11; have n2_ := Aside0.mk hb; clear HO291; clear HB; have HO294 := n1_; have HB := n2_; clear n1_ n2_; clear hb ho11))
    go_loopg [9, 30] k (fun kq v9 v30 w' => ∃ (x9_1 : List (List Int)) (x30_1 : Int), v30 = .int .i64 x30_1 ∧ Aside0 (warp_Path.l0 kq l0 l1 a2 x9_1 (l0.length : Int) x30_1 = some (r1, r2)) ∧ Aside0 (kq ≤ k) ∧ Aside0 (Kd.S (Kd.slice 3 (Kd.int .i64)) 22 w' w.heap.size (fun _ => True) v9 x9_1) ∧ Aside0 (Below w.heap.size w w'))
    case atStart => exact ⟨(y292), (0), (by first | rfl | (simp; done) | (simp [*]; done)), H', ⟨Nat.le_refl _⟩, ⟨by (with_reducible repeat (first | apply Kd.S_alloc | apply Kd.S_drewN | apply Kd.S_drew)); exact Kd.S_mono HO294.out (fun _ hk => trivial)⟩, ⟨by repeat (first | (with_reducible first | exact HB.out | apply below_alloc | apply pw_below_drewN | apply below_drew1) | exact HB.out)⟩⟩
    case round =>
     clear H'
     try clear c1
     try clear p2
     try clear c3
     try clear c5
     try clear c5b0
     try clear c5b1
     try clear c6
     try clear c6b0
     try clear c6b1
     try clear c7
     try clear c7b0
     try clear c7b1
     obtain ⟨x9_1, x30_1, rfl, HA, HK1, HO_9, HB⟩ := hrel
     cases gk with
     | zero => exact absurd HA.out (by simp [warp_Path.l0])
     | succ k1 =>
      have H := HA.out
      clear HA
      simp only [warp_Path.l0] at H
      by_cases c12 : x30_1 < (l0.length : Int)
      ·rw [if_pos c12] at H
       have c12b0 : decide (x30_1 < (l0.length : Int)) = true := decide_eq_true c12
       clear c12
       by_cases c13 : 0 ≤ (l1.length : Int)
       ·rw [if_pos c13] at H
        have c13b0 := eq_true c13
        have c13b1 : decide (0 ≤ (l1.length : Int)) = true := decide_eq_true c13
        clear c13
        by_cases c14 : ((l1.length : Int) : Int).toNat ≤ 35184372088832
        ·rw [if_pos c14] at H
         have c14b0 := eq_true c14
         have c14b1 : decide (((l1.length : Int) : Int).toNat ≤ 35184372088832) = true := decide_eq_true c14
         clear c14
         obtain ⟨y295, hy295⟩ : ∃ y_ : List Int, y_ = (List.replicate ((l1.length : Int) : Int).toNat 0) := ⟨_, rfl⟩
         replace H : (if x9_1.length < 5864062014805 then ((some (x9_1 ++ [y295] : List (List Int))).bind fun y => (if 0 ≤ (wrap64 (x30_1 + 1)) then (if (wrap64 (x30_1 + 1)) < (y.length : Int) then (if 0 ≤ x30_1 then (if x30_1 < (y.length : Int) then ((warp_fill.f k1 (rd_L2 y (wrap64 (x30_1 + 1))) (rd_L2 y x30_1) l0 l1 a2 x30_1).bind fun t => (warp_Path.l0 k1 l0 l1 a2 (y.set (wrap64 (x30_1 + 1)).toNat t) (l0.length : Int) (wrap64 (x30_1 + 1)))) else (none)) else (none)) else (none)) else (none))) else (none)) = some (r1, r2) := by first | (rw [hy295]; with_reducible exact H) | (have H2_ := (Option.bind_some _ _).symm.trans H; rw [hy295]; with_reducible exact H2_) | (have H2_ := (Option.bind_some _ _).symm.trans H; with_reducible exact H2_) | with_reducible exact H | (rw [hy295]; exact H) | exact H
         have Ny295 := Aside0.mk hy295
         clear hy295
         by_cases c15 : x9_1.length < 5864062014805
         ·rw [if_pos c15] at H
          have LMc15 := Aside0.mk c15
          clear c15
          obtain ⟨y298, hy298⟩ : ∃ y_ : List (List Int), y_ = (x9_1 ++ [y295]) := ⟨_, rfl⟩
          replace H : (if 0 ≤ (wrap64 (x30_1 + 1)) then (if (wrap64 (x30_1 + 1)) < (y298.length : Int) then (if 0 ≤ x30_1 then (if x30_1 < (y298.length : Int) then ((warp_fill.f k1 (rd_L2 y298 (wrap64 (x30_1 + 1))) (rd_L2 y298 x30_1) l0 l1 a2 x30_1).bind fun t => (warp_Path.l0 k1 l0 l1 a2 (y298.set (wrap64 (x30_1 + 1)).toNat t) (l0.length : Int) (wrap64 (x30_1 + 1)))) else (none)) else (none)) else (none)) else (none)) = some (r1, r2) := by first | (rw [hy298]; with_reducible exact H) | (have H2_ := (Option.bind_some _ _).symm.trans H; rw [hy298]; with_reducible exact H2_) | (have H2_ := (Option.bind_some _ _).symm.trans H; with_reducible exact H2_) | with_reducible exact H | (rw [hy298]; exact H) | exact H
          have Ny298 := Aside0.mk hy298
          clear hy298
          have pI0 : 0 ≤ (wrap64 (x30_1 + 1)) := by rcases Int.lt_or_le (wrap64 (x30_1 + 1)) 0 with h_ | h_; (· rw [if_neg (by omega)] at H; cases H); exact h_
          rw [if_pos pI0] at H
          have pI1 : (wrap64 (x30_1 + 1)) < (y298.length : Int) := by rcases Int.lt_or_le (wrap64 (x30_1 + 1)) (y298.length : Int) with h_ | h_; exact h_; (· rw [if_neg (by omega)] at H; cases H)
          rw [if_pos pI1] at H
          have pJ0 : 0 ≤ x30_1 := by rcases Int.lt_or_le x30_1 0 with h_ | h_; (· rw [if_neg (by omega)] at H; cases H); exact h_
          rw [if_pos pJ0] at H
          have pJ1 : x30_1 < (y298.length : Int) := by rcases Int.lt_or_le x30_1 (y298.length : Int) with h_ | h_; exact h_; (· rw [if_neg (by omega)] at H; cases H)
          rw [if_pos pJ1] at H
          replace H := Option.bind_eq_some_iff.mp H
          obtain ⟨tF, AF0, H⟩ := H
          have AF := Aside0.mk AF0
          clear AF0
          have H' := Aside0.mk H
          clear H
          go_wp2_with (first | ((with_reducible refine gate_dst (N := 36) rfl ?_); refine Kd.R_make (Kd.int .i64) _ 3 rfl (N := 36) rfl 22 _ _ rfl (l1.length : Int) rfl rfl Try.underlying22 (.int .i64 0) 8 info3 rfl (by decide) (by omega) 0 (ok := fun _ => True) (okp := fun _ => True) rfl (fun _ hk => hk) trivial (of_decide_eq_true (by first | (with_reducible assumption) | assumption)) (Nat.le_trans (Nat.mul_le_mul_right _ (of_decide_eq_true (by first | (with_reducible assumption) | assumption) : (l1.length : Int).toNat ≤ 35184372088832)) (by omega)) (Below.refl _ _) (Nat.le_refl _) ?_; intro v296 w16 ho17 hb hg_ hnew_; clear hg_ hnew_; (first | rw [← Ny295.out] at ho17 | (simp only [Int.reduceToNat] at ho17; rw [← Ny295.out] at ho17)); have n0_ := Aside0.mk (Kd.S_elder' (by (with_reducible repeat (first | apply Kd.S_alloc | apply Kd.S_drewN | apply Kd.S_drew)); exact HO_9.out) (Kd.R_base ho17) hb); have n1_ := Aside0.mk (Kd.R_lower ho17 (below_size (by repeat (first | (with_reducible first | exact HB.out | apply below_alloc | apply pw_below_drewN | apply below_drew1) | exact HB.out)))); have n2_ := Aside0.mk (below_step (by repeat (first | (with_reducible first | exact HB.out | apply below_alloc | apply pw_below_drewN | apply below_drew1) | exact HB.out)) hb); clear HO_9; clear HB; have HO_9 := n0_; have HO297 := n1_; have HB := n2_; clear n0_ n1_ n2_; clear hb ho17; obtain ⟨Ao19, co19, eo19⟩ := Kd.R_slice HO297.out; subst eo19) | ((with_reducible refine gate_builtin (b := .append) (xs := #[.tmp 33, .tmp 37]) rfl ?_); at_builtin; refine Kd.S_append (Kd.slice 3 (Kd.int .i64)) (w0 := w) w.heap.size rfl (.tmp 33) (.tmp 37) 67 22 (.slice none 0 0) 24 rfl Try.underlying67 info22 rfl (by decide) (by omega) u9 x9_1 y295 [.slice Ao19 y295.length co19] (fun _ => True) (fun k_ => some k_ = (.slice Ao19 y295.length co19 : Value).ownBlock) rfl rfl ?aP ?aK ?aF ?aO ?aB ?aS ?aL ?_; (case aP => exact Kd.M_row (Kd.R_tight rfl HO297.out)); (case aK => exact fun k_ hk => ⟨trivial, fun e_ => ((Kd.S_R HO_9.out).1 k_ e_.symm).2 hk⟩); (case aB => exact (by repeat (first | (with_reducible first | exact HB.out | apply below_alloc | apply pw_below_drewN | apply below_drew1) | exact HB.out))); (case aF => exact (fun _ _ => trivial)); (case aO => exact Kd.S_mono HO_9.out (fun k_ hk => ⟨trivial, fun e_ => hk.2 e_⟩)); (case aS => exact (below_size (by repeat (first | (with_reducible first | exact HB.out | apply below_alloc | apply pw_below_drewN | apply below_drew1) | exact HB.out)))); (case aL => have := LMc15.out; omega); intro v299 w18 ho hb hg hat; rw [← Ny298.out] at ho; have n0_ := Aside0.mk (hb); have n1_ := Aside0.mk (ho); clear HB; clear HO_9; clear HO297; have HB := n0_; have HO300 := n1_; clear n0_ n1_; clear ho hb hg hat))
          have hlen_ : y298.length = x9_1.length + 1 := by rw [Ny298.out]; simp
          obtain ⟨gR, cR, eR, gbR, glR, _⟩ := Kd.S_form HO300.out (by omega)
          subst eR
          obtain ⟨vI, vJ, hcI, hcJ, hRI, hRJ, hneq, hback⟩ := S_pair rfl HO300.out (wrap64 (x30_1 + 1)) x30_1 pI0 pI1 pJ0 pJ1 (by unfold wrap64; omega)
          obtain ⟨AI, cI, eI⟩ := Kd.R_slice hRI
          subst eI
          obtain ⟨AJ, cJ, eJ⟩ := Kd.R_slice hRJ
          subst eJ
          change Kd.R (Kd.int .i64) 3 _ _ _ (.slice AI (rd_L2 y298 (wrap64 (x30_1 + 1))).length cI) (rd_L2 y298 (wrap64 (x30_1 + 1))) at hRI
          change Kd.R (Kd.int .i64) 3 _ _ _ (.slice AJ (rd_L2 y298 x30_1).length cJ) (rd_L2 y298 x30_1) at hRJ
          change _ = some (Value.slice AI (rd_L2 y298 (wrap64 (x30_1 + 1))).length cI) at hcI
          change _ = some (Value.slice AJ (rd_L2 y298 x30_1).length cJ) at hcJ
          have HRI := Aside0.mk hRI
          have HRJ := Aside0.mk hRJ
          have HNEQ := Aside0.mk hneq
          have HBACK := Aside0.mk @hback
          clear hRI hRJ hneq hback hlen_ glR
          replace pI0 := eq_true pI0
          replace pI1 := eq_true pI1
          replace pJ0 := eq_true pJ0
          replace pJ1 := eq_true pJ1
          have hw_ : IntKind.i64.wrap (x30_1 + 1) = wrap64 (x30_1 + 1) := i64_w _
          go_still_tail 13, (by kernel_rfl)
          clear hw_
          change wpList _ _ _ _ _ (World.drew _)
          go_wp2_with (go_at_call 37; (refine (warp_fill.calls k1 (fun k_ => some k_ = (Value.slice AI (rd_L2 y298 (wrap64 (x30_1 + 1))).length cI).ownBlock) (.slice AI (rd_L2 y298 (wrap64 (x30_1 + 1))).length cI) (rd_L2 y298 (wrap64 (x30_1 + 1))) AJ cJ (rd_L2 y298 x30_1) A0 c0 l0 A1 c1 l1 a2 x30_1 tF w _ ?sB ?s0 ?s1 ?s2 ?s3 ?s4 ?s5 ?s6 AF.out).mono ?_); (case sB => exact (by repeat (first | (with_reducible first | exact HB.out | apply below_alloc | apply pw_below_drewN | apply below_drew1) | exact HB.out))); (case s0 => exact Kd.R_drew HRI.out); (case s1 => exact Kd.C_kept_own (Kd.R_drew HRJ.out) (fun k_ h_ => HNEQ.out k_ h_)); (case s2 => exact (Kd.R_reads' HRJ.out).2.1); (case s3 => exact Kd.C_kept_came (Kd.heap_int .i64) HR0.out (by repeat (first | (with_reducible first | exact HB.out | apply below_alloc | apply pw_below_drewN | apply below_drew1) | exact HB.out)) (fun k_ h_ => Kd.R_base HRI.out k_ h_.symm)); (case s4 => exact HC0.out); (case s5 => exact Kd.C_kept_came (Kd.heap_int .i64) HR1.out (by repeat (first | (with_reducible first | exact HB.out | apply below_alloc | apply pw_below_drewN | apply below_drew1) | exact HB.out)) (fun k_ h_ => Kd.R_base HRI.out k_ h_.symm)); (case s6 => exact HC1.out); rintro e wF ⟨rfl, hRF, hBF, hKF⟩; have HOF := Aside0.mk (HBACK.out (hKF) hRF); have HBF := Aside0.mk hBF; clear hRF hBF hKF)
          go_roundg k1
          case measure => have := HK1.out; omega
          case rel => exact ⟨(y298.set (wrap64 (x30_1 + 1)).toNat tF), (wrap64 (x30_1 + 1)), (by first | rfl | (simp; done) | (simp [*]; done)), H', ⟨by have := HK1.out; omega⟩, HOF, HBF⟩
         ·rw [if_neg c15] at H
          exact absurd H (by simp)
        ·rw [if_neg c14] at H
         exact absurd H (by simp)
       ·rw [if_neg c13] at H
        exact absurd H (by simp)
      ·rw [if_neg c12] at H
       have c12b0 : decide (x30_1 < (l0.length : Int)) = false := decide_eq_false c12
       clear c12
       by_cases c20 : 1 ≤ (x9_1.length : Int)
       ·rw [if_pos c20] at H
        have c20b0 := eq_true c20
        have c20b1 : decide (1 ≤ (x9_1.length : Int)) = true := decide_eq_true c20
        clear c20
        obtain ⟨y301, hy301⟩ : ∃ y_ : List (List Int), y_ = (x9_1.drop (1 : Int).toNat) := ⟨_, rfl⟩
        replace H : (warp_Path.l1 k1 y301 (([(⟨wrap64 ((l0.length : Int) - 1), wrap64 ((l1.length : Int) - 1)⟩ : S54)] : List (S54))) (wrap64 ((l0.length : Int) - 1)) (wrap64 ((l1.length : Int) - 1))) = some (r1, r2) := by first | (rw [hy301]; with_reducible exact H) | (have H2_ := (Option.bind_some _ _).symm.trans H; rw [hy301]; with_reducible exact H2_) | (have H2_ := (Option.bind_some _ _).symm.trans H; with_reducible exact H2_) | with_reducible exact H | (rw [hy301]; exact H) | exact H
        have Ny301 := Aside0.mk hy301
        clear hy301
        obtain ⟨y305, hy305⟩ : ∃ y_ : List (S54), y_ = (([(⟨wrap64 ((l0.length : Int) - 1), wrap64 ((l1.length : Int) - 1)⟩ : S54)] : List (S54))) := ⟨_, rfl⟩
        replace H : (warp_Path.l1 k1 y301 y305 (wrap64 ((l0.length : Int) - 1)) (wrap64 ((l1.length : Int) - 1))) = some (r1, r2) := by first | (rw [hy305]; with_reducible exact H) | (have H2_ := (Option.bind_some _ _).symm.trans H; rw [hy305]; with_reducible exact H2_) | (have H2_ := (Option.bind_some _ _).symm.trans H; with_reducible exact H2_) | with_reducible exact H | (rw [hy305]; exact H) | exact H
        have Ny305 := Aside0.mk hy305
        clear hy305
        have H' := Aside0.mk H
        clear H
        have HQ_ := Aside0.mk (Kd.Q_of_R (Kd.S_R HO_9.out))
        clear HO_9
        have HO_9 := HQ_
        clear HQ_
        obtain ⟨Ao21, co21, eo21, _⟩ := Kd.Q_slice HO_9.out
        subst eo21
        have q22 : (1 : Int) ≤ ((x9_1.length : Int) : Int) := of_decide_eq_true (by first | (with_reducible assumption) | assumption)
        obtain ⟨i022, hi022, _, hsz22, _⟩ := info_parts info22
        have hcut22 := cut_from (P := Try.prog) 67 22 .i64 Try.underlying67 hi022 1 hsz22 Ao21 x9_1.length co21 1 (by omega) q22
        have hr22 := Kd.Q_drop (k := (1 : Int).toNat) HO_9.out (by omega)
        obtain ⟨A22, hA22⟩ : ∃ A1, A1 = (if co21 = (1 : Int).toNat then Ao21 else (Ao21 : Option Addr).map (·.add ((1 : Int).toNat * 1))) := ⟨_, rfl⟩
        obtain ⟨c22, hc22⟩ : ∃ c1, c1 = co21 - (1 : Int).toNat := ⟨_, rfl⟩
        have hy22 : y301.length = x9_1.length - (1 : Int).toNat := (by rw [Ny301.out, List.length_drop])
        rw [← Ny301.out] at hr22
        rw [← hy22, ← hA22, ← hc22] at hcut22
        replace hr22 : Kd.Q (Kd.slice 3 (Kd.int .i64)) 22 wr w.heap.size (fun _ => True) (.slice A22 y301.length c22) y301 := (by rw [hA22, hc22, hy22]; exact hr22)
        have HE22 : Aside0 ((Value.slice A22 y301.length c22).ownBlock = (.slice Ao21 x9_1.length co21 : Value).ownBlock) := ⟨by rw [hA22]; split <;> (cases (Ao21 : Option Addr) <;> rfl)⟩
        clear hy22 hi022 hsz22 HO_9 hA22 hc22
        have HO303 := Aside0.mk hr22
        clear hr22
        replace q22 := eq_true q22
        go_wp2_with (first | ((with_reducible refine gate_dst (N := 11) rfl ?_); refine box_event ?hg (N := 11) ?hd (cs := #[.int .i64 0, .int .i64 0]) (t := 54) ?hr ?_; (case hd => rfl); (case hg => rfl); (case hr => first | (go_simp; done) | (go_simp; rfl)); intro gb304 hg w23 hbox hb; have n0_ := Aside0.mk (Kd.Q_below (by (with_reducible repeat (first | apply Kd.Q_alloc | apply Kd.Q_drewN | apply Kd.Q_drew)); exact HO303.out) hb); have n1_ := Aside0.mk (below_step (by repeat (first | (with_reducible first | exact HB.out | apply below_alloc | apply pw_below_drewN | apply below_drew1) | exact HB.out)) hb); have n2_ := Aside0.mk (hbox); have n3_ := Aside0.mk ((by rw [hg]; exact (below_size (by repeat (first | (with_reducible first | exact HB.out | apply below_alloc | apply pw_below_drewN | apply below_drew1) | exact HB.out))) : w.heap.size ≤ gb304)); have n4_ := Aside0.mk ((by rw [hg]; exact (below_size (by repeat (first | (with_reducible first | exact HB.out | apply below_alloc | apply pw_below_drewN | apply below_drew1) | exact HB.out))) : w.heap.size ≤ gb304)); clear HO303; clear HB; have HO303 := n0_; have HB := n1_; have BK304 := n2_; have GW304 := n3_; have GE304 := n4_; clear n0_ n1_ n2_ n3_ n4_; clear hb hbox hg; have hcz24_0 : w23.cell? ⟨gb304, 0, none⟩ = some (.int .i64 0) := (blk_cell BK304.out 0).trans rfl; have hcz24_1 : w23.cell? ⟨gb304, 1, none⟩ = some (.int .i64 0) := (blk_cell BK304.out 1).trans rfl; have hfz24_0 := blk_frozen BK304.out 0; have hfz24_1 := blk_frozen BK304.out 1) | ((with_reducible refine gate_dst (N := 64) rfl ?_); refine Kd.R_lit k54 _ 54 ?hg (N := 64) ?hd (xs := ([(⟨wrap64 ((l0.length : Int) - 1), wrap64 ((l1.length : Int) - 1)⟩ : S54)] : List (S54))) (inner := [.int .i64 (wrap64 ((l0.length : Int) - 1)), .int .i64 (wrap64 ((l1.length : Int) - 1))]) (ok := fun _ => True) (okp := fun _ => True) ?hr ?hp (fun _ hk => hk) trivial (Below.refl _ _) (Nat.le_refl _) (by simp) ?_; (case hd => rfl); (case hg => rfl); (case hr => first | (go_simp; done) | (go_simp; rfl)); (case hp => exact (Reps.c2 (show Kd.M k54 _ _ _ (⟨wrap64 ((l0.length : Int) - 1), wrap64 ((l1.length : Int) - 1)⟩ : S54) [.int .i64 (wrap64 ((l0.length : Int) - 1)), .int .i64 (wrap64 ((l1.length : Int) - 1))] from (k54_mkM _ _ _ (⟨wrap64 ((l0.length : Int) - 1), wrap64 ((l1.length : Int) - 1)⟩ : S54) )) (Reps.none _ _))); intro v306 w25 ho26 hb hg_ hnew_; clear hg_ hnew_; (first | rw [← Ny305.out] at ho26 | (simp only [Int.reduceToNat] at ho26; rw [← Ny305.out] at ho26)); have n0_ := Aside0.mk (Kd.Q_below (by (with_reducible repeat (first | apply Kd.Q_alloc | apply Kd.Q_drewN | apply Kd.Q_drew)); exact (Kd.Q_mono (Kd.Q_far (p := ⟨gb304, 1, none⟩) (Kd.Q_far (p := ⟨gb304, 0, none⟩) (Kd.Q_types HO303.out BK304.out (by decide)) (fun _ hk => hk.2) (.int .i64 (wrap64 ((l0.length : Int) - 1)))) (fun _ hk => hk.2) (.int .i64 (wrap64 ((l1.length : Int) - 1)))) (fun _ h_ => h_.1))) hb); have n1_ := Aside0.mk (Kd.R_lower (Kd.R_newB ho26 (g := gb304) (o := .cells #[.int .i64 (wrap64 ((l0.length : Int) - 1)), .int .i64 (wrap64 ((l1.length : Int) - 1))] 54 (0, 0)) (by (with_reducible repeat (first | refine blk_drewN ?_ _ | refine blk_drew ?_ | refine blk_alloc ?_ _)); refine blk_put (cs := #[.int .i64 (wrap64 ((l0.length : Int) - 1)), .int .i64 0]) ?_ 1 _ rfl; (with_reducible repeat (first | refine blk_drewN ?_ _ | refine blk_drew ?_ | refine blk_alloc ?_ _)); refine blk_put (cs := #[.int .i64 0, .int .i64 0]) ?_ 0 _ rfl; (with_reducible repeat (first | refine blk_drewN ?_ _ | refine blk_drew ?_ | refine blk_alloc ?_ _)); exact BK304.out)) (below_size (by repeat (first | (with_reducible first | exact HB.out | apply below_alloc | apply pw_below_drewN | apply below_drew1 | refine below_set ?_ GE304.out) | exact HB.out)))); have n2_ := Aside0.mk (blk_below (g := gb304) (o := .cells #[.int .i64 (wrap64 ((l0.length : Int) - 1)), .int .i64 (wrap64 ((l1.length : Int) - 1))] 54 (0, 0)) (by (with_reducible repeat (first | refine blk_drewN ?_ _ | refine blk_drew ?_ | refine blk_alloc ?_ _)); refine blk_put (cs := #[.int .i64 (wrap64 ((l0.length : Int) - 1)), .int .i64 0]) ?_ 1 _ rfl; (with_reducible repeat (first | refine blk_drewN ?_ _ | refine blk_drew ?_ | refine blk_alloc ?_ _)); refine blk_put (cs := #[.int .i64 0, .int .i64 0]) ?_ 0 _ rfl; (with_reducible repeat (first | refine blk_drewN ?_ _ | refine blk_drew ?_ | refine blk_alloc ?_ _)); exact BK304.out) hb); have n3_ := Aside0.mk (below_step (by repeat (first | (with_reducible first | exact HB.out | apply below_alloc | apply pw_below_drewN | apply below_drew1 | refine below_set ?_ GE304.out) | exact HB.out)) hb); clear HO303; clear BK304; clear HB; have HO303 := n0_; have HO307 := n1_; have BK304 := n2_; have HB := n3_; clear n0_ n1_ n2_ n3_; clear hb ho26))
        go_loopg [12] k1 (fun kq v12 w' => ∃ (x12_2 : List (S54)) (x305000_2 : Int) (x305001_2 : Int), Aside0 (warp_Path.l1 kq y301 x12_2 x305000_2 x305001_2 = some (r1, r2)) ∧ Aside0 (kq ≤ k1) ∧ Aside0 (Kd.Q (Kd.slice 3 (Kd.int .i64)) 22 w' w.heap.size (fun _ => True) (.slice A22 y301.length c22) y301) ∧ Aside0 (Kd.R k54 54 w' w.heap.size (fun k_ => k_ ≠ gb304) v12 x12_2) ∧ Aside0 (w'.heap[gb304]? = some (.cells #[.int .i64 x305000_2, .int .i64 x305001_2] 54 (0, 0))) ∧ Aside0 (Below w.heap.size w w'))
        case atStart => exact ⟨(y305), (wrap64 ((l0.length : Int) - 1)), (wrap64 ((l1.length : Int) - 1)), H', ⟨Nat.le_refl _⟩, ⟨by (with_reducible repeat (first | apply Kd.Q_alloc | apply Kd.Q_drewN | apply Kd.Q_drew)); exact HO303.out⟩, ⟨by (with_reducible repeat (first | apply Kd.R_alloc | apply Kd.R_drewN | apply Kd.R_drew)); exact Kd.R_mono HO307.out (fun _ hk => hk.2)⟩, ⟨by (with_reducible repeat (first | refine blk_drewN ?_ _ | refine blk_drew ?_ | refine blk_alloc ?_ _)); exact BK304.out⟩, ⟨by repeat (first | (with_reducible first | exact HB.out | apply below_alloc | apply pw_below_drewN | apply below_drew1 | refine below_set ?_ GE304.out) | exact HB.out)⟩⟩
        case round =>
         clear H'
         try clear c1
         try clear c2
         try clear p2
         try clear q2
         try clear c3
         try clear c5
         try clear c5b0
         try clear c5b1
         try clear c6
         try clear c6b0
         try clear c6b1
         try clear p6
         try clear c7
         try clear c7b0
         try clear c7b1
         try clear c12
         try clear c12b0
         try clear c13
         try clear c13b0
         try clear c13b1
         try clear c14
         try clear c14b0
         try clear c14b1
         try clear c15
         try clear c18
         try clear c20
         try clear c20b0
         try clear c20b1
         try clear c22
         try clear q22
         try clear hcz24_0
         try clear hcz24_1
         try clear hfz24_0
         try clear hfz24_1
         try clear p2
         try clear q22
         obtain ⟨x12_2, x305000_2, x305001_2, HA, HK2, HO_9, HO_12, BK304, HB⟩ := hrel
         cases gk with
         | zero => exact absurd HA.out (by simp [warp_Path.l1])
         | succ k2 =>
          have H := HA.out
          clear HA
          simp only [warp_Path.l1] at H
          by_cases c27 : (!(x305000_2 == 0) || (!(x305001_2 == 0))) = true
          ·rw [if_pos c27] at H
           have c27b0 : (!(x305000_2 == 0) || (!(x305001_2 == 0))) = true := c27
           clear c27
           obtain ⟨y310, hy310⟩ : ∃ y_ : List (S54), y_ = (([(⟨wrap64 (x305000_2 - 1), wrap64 (x305001_2 - 1)⟩ : S54), (⟨wrap64 (x305000_2 - 1), x305001_2⟩ : S54), (⟨x305000_2, wrap64 (x305001_2 - 1)⟩ : S54)] : List (S54))) := ⟨_, rfl⟩
           replace H : (warp_Path.l2 k2 y301 x12_2 4611686018427387904 y310 (y310.length : Int) 0 x305000_2 x305001_2) = some (r1, r2) := by first | (rw [hy310]; with_reducible exact H) | (have H2_ := (Option.bind_some _ _).symm.trans H; rw [hy310]; with_reducible exact H2_) | (have H2_ := (Option.bind_some _ _).symm.trans H; with_reducible exact H2_) | with_reducible exact H | (rw [hy310]; exact H) | exact H
           have Ny310 := Aside0.mk hy310
           clear hy310
           have H' := Aside0.mk H
           clear H
           have hcz28_0 : wr.cell? ⟨gb304, 0, none⟩ = some (.int .i64 x305000_2) := (blk_cell BK304.out 0).trans rfl
           have hcz28_1 : wr.cell? ⟨gb304, 1, none⟩ = some (.int .i64 x305001_2) := (blk_cell BK304.out 1).trans rfl
           have hfz28_0 := blk_frozen BK304.out 0
           have hfz28_1 := blk_frozen BK304.out 1
           go_wp2_with (first | ((with_reducible refine gate_dst (N := 13) rfl ?_); refine box_event ?hg (N := 13) ?hd (cs := #[.int .i64 0, .int .i64 0]) (t := 54) ?hr ?_; (case hd => rfl); (case hg => rfl); (case hr => first | (go_simp; done) | (go_simp; rfl)); intro gb309 hg w29 hbox hb; have n0_ := Aside0.mk (Kd.Q_below (by (with_reducible repeat (first | apply Kd.Q_alloc | apply Kd.Q_drewN | apply Kd.Q_drew)); exact HO_9.out) hb); have n1_ := Aside0.mk (Kd.R_below (Kd.R_elderB (by (with_reducible repeat (first | apply Kd.R_alloc | apply Kd.R_drewN | apply Kd.R_drew)); exact HO_12.out) gb309 (Nat.le_of_eq hg.symm)) hb); have n2_ := Aside0.mk (blk_below (g := gb304) (o := .cells #[.int .i64 x305000_2, .int .i64 x305001_2] 54 (0, 0)) (by (with_reducible repeat (first | refine blk_drewN ?_ _ | refine blk_drew ?_ | refine blk_alloc ?_ _)); exact BK304.out) hb); have n3_ := Aside0.mk (below_step (by repeat (first | (with_reducible first | exact HB.out | apply below_alloc | apply pw_below_drewN | apply below_drew1 | refine below_set ?_ GE304.out) | exact HB.out)) hb); have n4_ := Aside0.mk (hbox); have n5_ := Aside0.mk ((by rw [hg]; exact (below_size (by repeat (first | (with_reducible first | exact HB.out | apply below_alloc | apply pw_below_drewN | apply below_drew1 | refine below_set ?_ GE304.out) | exact HB.out))) : w.heap.size ≤ gb309)); have n6_ := Aside0.mk ((by rw [hg]; exact (below_size (by repeat (first | (with_reducible first | exact HB.out | apply below_alloc | apply pw_below_drewN | apply below_drew1 | refine below_set ?_ GE304.out) | exact HB.out))) : w.heap.size ≤ gb309)); have n7_ := Aside0.mk ((by rw [hg]; exact Nat.ne_of_lt (blk_lt (g := gb304) (o := .cells #[.int .i64 x305000_2, .int .i64 x305001_2] 54 (0, 0)) (by (with_reducible repeat (first | refine blk_drewN ?_ _ | refine blk_drew ?_ | refine blk_alloc ?_ _)); exact BK304.out)) : gb304 ≠ gb309)); have n8_ := Aside0.mk ((by rw [hg]; exact Nat.ne_of_gt (blk_lt (g := gb304) (o := .cells #[.int .i64 x305000_2, .int .i64 x305001_2] 54 (0, 0)) (by (with_reducible repeat (first | refine blk_drewN ?_ _ | refine blk_drew ?_ | refine blk_alloc ?_ _)); exact BK304.out)) : gb309 ≠ gb304)); clear HO_9; clear HO_12; clear BK304; clear HB; have HO_9 := n0_; have HO_12 := n1_; have BK304 := n2_; have HB := n3_; have BK309 := n4_; have GW309 := n5_; have GE309 := n6_; have NB304_309 := n7_; have NB309_304 := n8_; clear n0_ n1_ n2_ n3_ n4_ n5_ n6_ n7_ n8_; clear hb hbox hg; have hnb30 := NB309_304.out; have hnc30 := NB304_309.out; have hcz31_0 : w29.cell? ⟨gb309, 0, none⟩ = some (.int .i64 0) := (blk_cell BK309.out 0).trans rfl; have hcz31_1 : w29.cell? ⟨gb309, 1, none⟩ = some (.int .i64 0) := (blk_cell BK309.out 1).trans rfl; have hfz31_0 := blk_frozen BK309.out 0; have hfz31_1 := blk_frozen BK309.out 1; have hcz32_0 : w29.cell? ⟨gb304, 0, none⟩ = some (.int .i64 x305000_2) := (blk_cell BK304.out 0).trans rfl; have hcz32_1 : w29.cell? ⟨gb304, 1, none⟩ = some (.int .i64 x305001_2) := (blk_cell BK304.out 1).trans rfl; have hfz32_0 := blk_frozen BK304.out 0; have hfz32_1 := blk_frozen BK304.out 1) | ((with_reducible refine gate_dst (N := 88) rfl ?_); refine Kd.R_lit k54 _ 54 ?hg (N := 88) ?hd (xs := ([(⟨wrap64 (x305000_2 - 1), wrap64 (x305001_2 - 1)⟩ : S54), (⟨wrap64 (x305000_2 - 1), x305001_2⟩ : S54), (⟨x305000_2, wrap64 (x305001_2 - 1)⟩ : S54)] : List (S54))) (inner := [.int .i64 (wrap64 (x305000_2 - 1)), .int .i64 (wrap64 (x305001_2 - 1)), .int .i64 (wrap64 (x305000_2 - 1)), .int .i64 x305001_2, .int .i64 x305000_2, .int .i64 (wrap64 (x305001_2 - 1))]) (ok := fun _ => True) (okp := fun _ => True) ?hr ?hp (fun _ hk => hk) trivial (Below.refl _ _) (Nat.le_refl _) (by simp) ?_; (case hd => rfl); (case hg => rfl); (case hr => first | (go_simp; done) | (go_simp; rfl)); (case hp => exact (Reps.c2 (show Kd.M k54 _ _ _ (⟨wrap64 (x305000_2 - 1), wrap64 (x305001_2 - 1)⟩ : S54) [.int .i64 (wrap64 (x305000_2 - 1)), .int .i64 (wrap64 (x305001_2 - 1))] from (k54_mkM _ _ _ (⟨wrap64 (x305000_2 - 1), wrap64 (x305001_2 - 1)⟩ : S54) )) (Reps.c2 (show Kd.M k54 _ _ _ (⟨wrap64 (x305000_2 - 1), x305001_2⟩ : S54) [.int .i64 (wrap64 (x305000_2 - 1)), .int .i64 x305001_2] from (k54_mkM _ _ _ (⟨wrap64 (x305000_2 - 1), x305001_2⟩ : S54) )) (Reps.c2 (show Kd.M k54 _ _ _ (⟨x305000_2, wrap64 (x305001_2 - 1)⟩ : S54) [.int .i64 x305000_2, .int .i64 (wrap64 (x305001_2 - 1))] from (k54_mkM _ _ _ (⟨x305000_2, wrap64 (x305001_2 - 1)⟩ : S54) )) (Reps.none _ _))))); intro v311 w33 ho34 hb hg_ hnew_; clear hg_ hnew_; (first | rw [← Ny310.out] at ho34 | (simp only [Int.reduceToNat] at ho34; rw [← Ny310.out] at ho34)); have n0_ := Aside0.mk (Kd.Q_below (by (with_reducible repeat (first | apply Kd.Q_alloc | apply Kd.Q_drewN | apply Kd.Q_drew)); exact (Kd.Q_mono (Kd.Q_far (p := ⟨gb309, 1, none⟩) (Kd.Q_far (p := ⟨gb309, 0, none⟩) (Kd.Q_types HO_9.out BK309.out (by decide)) (fun _ hk => hk.2) (.int .i64 x305000_2)) (fun _ hk => hk.2) (.int .i64 x305001_2)) (fun _ h_ => h_.1))) hb); have n1_ := Aside0.mk (Kd.R_elder' (by (with_reducible repeat (first | apply Kd.R_alloc | apply Kd.R_drewN | apply Kd.R_drew)); exact (Kd.R_mono (Kd.R_far (p := ⟨gb309, 1, none⟩) (Kd.R_far (p := ⟨gb309, 0, none⟩) (Kd.R_mono HO_12.out (fun k_ hk => (⟨hk, hk.2⟩ : _ ∧ k_ ≠ gb309))) (fun _ hk => hk.2) (.int .i64 x305000_2)) (fun _ hk => hk.2) (.int .i64 x305001_2)) (fun _ h_ => h_.1))) (Kd.R_base ho34) hb); have n2_ := Aside0.mk (Kd.R_lower (Kd.R_newB (Kd.R_newB (Kd.R_new' ho34 (Kd.R_lt (by (with_reducible repeat (first | apply Kd.R_alloc | apply Kd.R_drewN | apply Kd.R_drew)); exact (Kd.R_mono (Kd.R_far (p := ⟨gb309, 1, none⟩) (Kd.R_far (p := ⟨gb309, 0, none⟩) (Kd.R_mono HO_12.out (fun k_ hk => (⟨hk, hk.2⟩ : _ ∧ k_ ≠ gb309))) (fun _ hk => hk.2) (.int .i64 x305000_2)) (fun _ hk => hk.2) (.int .i64 x305001_2)) (fun _ h_ => h_.1))))) (g := gb304) (o := .cells #[.int .i64 x305000_2, .int .i64 x305001_2] 54 (0, 0)) (by (with_reducible repeat (first | refine blk_drewN ?_ _ | refine blk_drew ?_ | refine blk_alloc ?_ _)); refine blk_far ?_ NB304_309.out _; (with_reducible repeat (first | refine blk_drewN ?_ _ | refine blk_drew ?_ | refine blk_alloc ?_ _)); refine blk_far ?_ NB304_309.out _; (with_reducible repeat (first | refine blk_drewN ?_ _ | refine blk_drew ?_ | refine blk_alloc ?_ _)); exact BK304.out)) (g := gb309) (o := .cells #[.int .i64 x305000_2, .int .i64 x305001_2] 54 (0, 0)) (by (with_reducible repeat (first | refine blk_drewN ?_ _ | refine blk_drew ?_ | refine blk_alloc ?_ _)); refine blk_put (cs := #[.int .i64 x305000_2, .int .i64 0]) ?_ 1 _ rfl; (with_reducible repeat (first | refine blk_drewN ?_ _ | refine blk_drew ?_ | refine blk_alloc ?_ _)); refine blk_put (cs := #[.int .i64 0, .int .i64 0]) ?_ 0 _ rfl; (with_reducible repeat (first | refine blk_drewN ?_ _ | refine blk_drew ?_ | refine blk_alloc ?_ _)); exact BK309.out)) (below_size (by repeat (first | (with_reducible first | exact HB.out | apply below_alloc | apply pw_below_drewN | apply below_drew1 | refine below_set ?_ GE304.out | refine below_set ?_ GE309.out) | exact HB.out)))); have n3_ := Aside0.mk (blk_below (g := gb304) (o := .cells #[.int .i64 x305000_2, .int .i64 x305001_2] 54 (0, 0)) (by (with_reducible repeat (first | refine blk_drewN ?_ _ | refine blk_drew ?_ | refine blk_alloc ?_ _)); refine blk_far ?_ NB304_309.out _; (with_reducible repeat (first | refine blk_drewN ?_ _ | refine blk_drew ?_ | refine blk_alloc ?_ _)); refine blk_far ?_ NB304_309.out _; (with_reducible repeat (first | refine blk_drewN ?_ _ | refine blk_drew ?_ | refine blk_alloc ?_ _)); exact BK304.out) hb); have n4_ := Aside0.mk (blk_below (g := gb309) (o := .cells #[.int .i64 x305000_2, .int .i64 x305001_2] 54 (0, 0)) (by (with_reducible repeat (first | refine blk_drewN ?_ _ | refine blk_drew ?_ | refine blk_alloc ?_ _)); refine blk_put (cs := #[.int .i64 x305000_2, .int .i64 0]) ?_ 1 _ rfl; (with_reducible repeat (first | refine blk_drewN ?_ _ | refine blk_drew ?_ | refine blk_alloc ?_ _)); refine blk_put (cs := #[.int .i64 0, .int .i64 0]) ?_ 0 _ rfl; (with_reducible repeat (first | refine blk_drewN ?_ _ | refine blk_drew ?_ | refine blk_alloc ?_ _)); exact BK309.out) hb); have n5_ := Aside0.mk (below_step (by repeat (first | (with_reducible first | exact HB.out | apply below_alloc | apply pw_below_drewN | apply below_drew1 | refine below_set ?_ GE304.out | refine below_set ?_ GE309.out) | exact HB.out)) hb); clear HO_9; clear HO_12; clear BK304; clear BK309; clear HB; have HO_9 := n0_; have HO_12 := n1_; have HO312 := n2_; have BK304 := n3_; have BK309 := n4_; have HB := n5_; clear n0_ n1_ n2_ n3_ n4_ n5_; clear hb ho34; obtain ⟨Ao35, co35, eo35⟩ := Kd.R_slice HO312.out; subst eo35))
           go_loopg [14, 90] k2 (fun kq v14 v90 w' => ∃ (x14_3 : Int) (x90_3 : Int) (x310000_3 : Int) (x310001_3 : Int), v14 = .int .i64 x14_3 ∧ v90 = .int .i64 x90_3 ∧ Aside0 (warp_Path.l2 kq y301 x12_2 x14_3 y310 (y310.length : Int) x90_3 x310000_3 x310001_3 = some (r1, r2)) ∧ Aside0 (kq ≤ k2) ∧ Aside0 (Kd.Q (Kd.slice 3 (Kd.int .i64)) 22 w' w.heap.size (fun _ => True) (.slice A22 y301.length c22) y301) ∧ Aside0 (Kd.R k54 54 w' w.heap.size (fun k_ => some k_ ≠ ((.slice Ao35 y310.length co35) : Value).ownBlock ∧ k_ ≠ gb304 ∧ k_ ≠ gb309) u12 x12_2) ∧ Aside0 (Kd.R k54 54 w' w.heap.size (fun k_ => some k_ ≠ (u12 : Value).ownBlock ∧ k_ ≠ gb304 ∧ k_ ≠ gb309) (.slice Ao35 y310.length co35) y310) ∧ Aside0 (w'.heap[gb304]? = some (.cells #[.int .i64 x305000_2, .int .i64 x305001_2] 54 (0, 0))) ∧ Aside0 (w'.heap[gb309]? = some (.cells #[.int .i64 x310000_3, .int .i64 x310001_3] 54 (0, 0))) ∧ Aside0 (Below w.heap.size w w'))
           case atStart => exact ⟨(4611686018427387904), (0), (x305000_2), (x305001_2), (by first | rfl | (simp; done) | (simp [*]; done)), (by first | rfl | (simp; done) | (simp [*]; done)), H', ⟨Nat.le_refl _⟩, ⟨by (with_reducible repeat (first | apply Kd.Q_alloc | apply Kd.Q_drewN | apply Kd.Q_drew)); exact HO_9.out⟩, ⟨by (with_reducible repeat (first | apply Kd.R_alloc | apply Kd.R_drewN | apply Kd.R_drew)); exact Kd.R_mono HO_12.out (fun _ hk => ⟨hk.2, ⟨hk.1.1, hk.1.2⟩⟩)⟩, ⟨by (with_reducible repeat (first | apply Kd.R_alloc | apply Kd.R_drewN | apply Kd.R_drew)); exact Kd.R_mono HO312.out (fun _ hk => ⟨hk.1.1.2, ⟨hk.1.2, hk.2⟩⟩)⟩, ⟨by (with_reducible repeat (first | refine blk_drewN ?_ _ | refine blk_drew ?_ | refine blk_alloc ?_ _)); exact BK304.out⟩, ⟨by (with_reducible repeat (first | refine blk_drewN ?_ _ | refine blk_drew ?_ | refine blk_alloc ?_ _)); exact BK309.out⟩, ⟨by repeat (first | (with_reducible first | exact HB.out | apply below_alloc | apply pw_below_drewN | apply below_drew1 | refine below_set ?_ GE304.out | refine below_set ?_ GE309.out) | exact HB.out)⟩⟩
           case round =>
            clear H'
            try clear c1
            try clear c2
            try clear p2
            try clear q2
            try clear c3
            try clear c5
            try clear c5b0
            try clear c5b1
            try clear c6
            try clear c6b0
            try clear c6b1
            try clear p6
            try clear c7
            try clear c7b0
            try clear c7b1
            try clear c12
            try clear c12b0
            try clear c13
            try clear c13b0
            try clear c13b1
            try clear c14
            try clear c14b0
            try clear c14b1
            try clear c15
            try clear c18
            try clear c20
            try clear c20b0
            try clear c20b1
            try clear c22
            try clear q22
            try clear c27
            try clear c27b0
            try clear c30
            try clear c31
            try clear hcz24_0
            try clear hcz24_1
            try clear hcz28_0
            try clear hcz28_1
            try clear hcz31_0
            try clear hcz31_1
            try clear hcz32_0
            try clear hcz32_1
            try clear hfz24_0
            try clear hfz24_1
            try clear hfz28_0
            try clear hfz28_1
            try clear hfz31_0
            try clear hfz31_1
            try clear hfz32_0
            try clear hfz32_1
            try clear p2
            try clear p6
            try clear q2
            try clear q22
            obtain ⟨x14_3, x90_3, x310000_3, x310001_3, rfl, rfl, HA, HK3, HO_9, HO_12, HO_88, BK304, BK309, HB⟩ := hrel
            cases gk with
            | zero => exact absurd HA.out (by simp [warp_Path.l2])
            | succ k3 =>
             have H := HA.out
             clear HA
             simp only [warp_Path.l2] at H
             by_cases c36 : x90_3 < (y310.length : Int)
             ·rw [if_pos c36] at H
              have c36b0 : decide (x90_3 < (y310.length : Int)) = true := decide_eq_true c36
              clear c36
              by_cases c37 : 0 ≤ x90_3
              ·rw [if_pos c37] at H
               have c37b0 : decide (0 ≤ x90_3) = true := decide_eq_true c37
               clear c37
               by_cases c38 : x90_3 < (y310.length : Int)
               ·rw [if_pos c38] at H
                have c38b0 : decide (x90_3 < (y310.length : Int)) = true := decide_eq_true c38
                clear c38
                by_cases c39 : ((rd_T54 y310 x90_3).f0) ≥ 0
                ·rw [if_pos c39] at H
                 have c39b0 : decide (0 ≤ ((rd_T54 y310 x90_3).f0)) = true := decide_eq_true c39
                 clear c39
                 by_cases c40 : ((rd_T54 y310 x90_3).f1) ≥ 0
                 ·rw [if_pos c40] at H
                  have c40b0 : decide (0 ≤ ((rd_T54 y310 x90_3).f1)) = true := decide_eq_true c40
                  clear c40
                  by_cases c41 : 0 ≤ ((rd_T54 y310 x90_3).f0)
                  ·rw [if_pos c41] at H
                   have c41b0 : decide (0 ≤ ((rd_T54 y310 x90_3).f0)) = true := decide_eq_true c41
                   clear c41
                   by_cases c42 : ((rd_T54 y310 x90_3).f0) < (y301.length : Int)
                   ·rw [if_pos c42] at H
                    have c42b0 : decide (((rd_T54 y310 x90_3).f0) < (y301.length : Int)) = true := decide_eq_true c42
                    clear c42
                    by_cases c43 : 0 ≤ ((rd_T54 y310 x90_3).f1)
                    ·rw [if_pos c43] at H
                     have c43b0 : decide (0 ≤ ((rd_T54 y310 x90_3).f1)) = true := decide_eq_true c43
                     clear c43
                     by_cases c44 : ((rd_T54 y310 x90_3).f1) < ((rd_L2 y301 ((rd_T54 y310 x90_3).f0)).length : Int)
                     ·rw [if_pos c44] at H
                      have c44b0 : decide (((rd_T54 y310 x90_3).f1) < ((rd_L2 y301 ((rd_T54 y310 x90_3).f0)).length : Int)) = true := decide_eq_true c44
                      clear c44
                      by_cases c45 : (rd (rd_L2 y301 ((rd_T54 y310 x90_3).f0)) ((rd_T54 y310 x90_3).f1)) < x14_3
                      ·rw [if_pos c45] at H
                       have c45b0 : decide ((rd (rd_L2 y301 ((rd_T54 y310 x90_3).f0)) ((rd_T54 y310 x90_3).f1)) < x14_3) = true := decide_eq_true c45
                       clear c45
                       have H' := Aside0.mk H
                       clear H
                       have p313 : 0 ≤ (x90_3 : Int) := of_decide_eq_true (by first | (with_reducible assumption) | assumption)
                       have q313 : x90_3 < (y310.length : Int) := of_decide_eq_true (by first | (with_reducible assumption) | assumption)
                       obtain ⟨ad313, e313, hx313_0, hx313_1⟩ := at_T54 (Kd.R_reads' HO_88.out).2.2 x90_3 p313 q313
                       cases e313
                       replace p313 := eq_true p313
                       replace q313 := eq_true q313
                       try go_wp2_with (first | ((with_reducible refine gate_dst (N := 16) rfl ?_); refine box_event ?hg (N := 16) ?hd (cs := #[.int .i64 0, .int .i64 0]) (t := 54) ?hr ?_; (case hd => rfl); (case hg => rfl); (case hr => first | (go_simp; done) | (go_simp; rfl)); intro gb314 hg w46 hbox hb; have n0_ := Aside0.mk (Kd.Q_below (by (with_reducible repeat (first | apply Kd.Q_alloc | apply Kd.Q_drewN | apply Kd.Q_drew)); exact HO_9.out) hb); have n1_ := Aside0.mk (Kd.R_below (Kd.R_elderB (by (with_reducible repeat (first | apply Kd.R_alloc | apply Kd.R_drewN | apply Kd.R_drew)); exact HO_12.out) gb314 (Nat.le_of_eq hg.symm)) hb); have n2_ := Aside0.mk (Kd.R_below (Kd.R_elderB (by (with_reducible repeat (first | apply Kd.R_alloc | apply Kd.R_drewN | apply Kd.R_drew)); exact HO_88.out) gb314 (Nat.le_of_eq hg.symm)) hb); have n3_ := Aside0.mk (blk_below (g := gb304) (o := .cells #[.int .i64 x305000_2, .int .i64 x305001_2] 54 (0, 0)) (by (with_reducible repeat (first | refine blk_drewN ?_ _ | refine blk_drew ?_ | refine blk_alloc ?_ _)); exact BK304.out) hb); have n4_ := Aside0.mk (blk_below (g := gb309) (o := .cells #[.int .i64 x310000_3, .int .i64 x310001_3] 54 (0, 0)) (by (with_reducible repeat (first | refine blk_drewN ?_ _ | refine blk_drew ?_ | refine blk_alloc ?_ _)); exact BK309.out) hb); have n5_ := Aside0.mk (below_step (by repeat (first | (with_reducible first | exact HB.out | apply below_alloc | apply pw_below_drewN | apply below_drew1 | refine below_set ?_ GE304.out | refine below_set ?_ GE309.out) | exact HB.out)) hb); have n6_ := Aside0.mk (hbox); have n7_ := Aside0.mk ((by rw [hg]; exact (below_size (by repeat (first | (with_reducible first | exact HB.out | apply below_alloc | apply pw_below_drewN | apply below_drew1 | refine below_set ?_ GE304.out | refine below_set ?_ GE309.out) | exact HB.out))) : w.heap.size ≤ gb314)); have n8_ := Aside0.mk ((by rw [hg]; exact (below_size (by repeat (first | (with_reducible first | exact HB.out | apply below_alloc | apply pw_below_drewN | apply below_drew1 | refine below_set ?_ GE304.out | refine below_set ?_ GE309.out) | exact HB.out))) : w.heap.size ≤ gb314)); have n9_ := Aside0.mk ((by rw [hg]; exact Nat.ne_of_lt (blk_lt (g := gb304) (o := .cells #[.int .i64 x305000_2, .int .i64 x305001_2] 54 (0, 0)) (by (with_reducible repeat (first | refine blk_drewN ?_ _ | refine blk_drew ?_ | refine blk_alloc ?_ _)); exact BK304.out)) : gb304 ≠ gb314)); have n10_ := Aside0.mk ((by rw [hg]; exact Nat.ne_of_gt (blk_lt (g := gb304) (o := .cells #[.int .i64 x305000_2, .int .i64 x305001_2] 54 (0, 0)) (by (with_reducible repeat (first | refine blk_drewN ?_ _ | refine blk_drew ?_ | refine blk_alloc ?_ _)); exact BK304.out)) : gb314 ≠ gb304)); have n11_ := Aside0.mk ((by rw [hg]; exact Nat.ne_of_lt (blk_lt (g := gb309) (o := .cells #[.int .i64 x310000_3, .int .i64 x310001_3] 54 (0, 0)) (by (with_reducible repeat (first | refine blk_drewN ?_ _ | refine blk_drew ?_ | refine blk_alloc ?_ _)); exact BK309.out)) : gb309 ≠ gb314)); have n12_ := Aside0.mk ((by rw [hg]; exact Nat.ne_of_gt (blk_lt (g := gb309) (o := .cells #[.int .i64 x310000_3, .int .i64 x310001_3] 54 (0, 0)) (by (with_reducible repeat (first | refine blk_drewN ?_ _ | refine blk_drew ?_ | refine blk_alloc ?_ _)); exact BK309.out)) : gb314 ≠ gb309)); clear HO_9; clear HO_12; clear HO_88; clear BK304; clear BK309; clear HB; have HO_9 := n0_; have HO_12 := n1_; have HO_88 := n2_; have BK304 := n3_; have BK309 := n4_; have HB := n5_; have BK314 := n6_; have GW314 := n7_; have GE314 := n8_; have NB304_314 := n9_; have NB314_304 := n10_; have NB309_314 := n11_; have NB314_309 := n12_; clear n0_ n1_ n2_ n3_ n4_ n5_ n6_ n7_ n8_ n9_ n10_ n11_ n12_; clear hb hbox hg; have hnb47 := NB314_304.out; have hnc47 := NB304_314.out; have hnb48 := NB314_309.out; have hnc48 := NB309_314.out; have hcz49_0 : w46.cell? ⟨gb314, 0, none⟩ = some (.int .i64 0) := (blk_cell BK314.out 0).trans rfl; have hcz49_1 : w46.cell? ⟨gb314, 1, none⟩ = some (.int .i64 0) := (blk_cell BK314.out 1).trans rfl; have hfz49_0 := blk_frozen BK314.out 0; have hfz49_1 := blk_frozen BK314.out 1))
                       have n0_ : Aside0 (Kd.Q (Kd.slice 3 (Kd.int .i64)) 22 ((w46.setCell ⟨gb314, 0, none⟩ (.int .i64 ((rd_T54 y310 x90_3).f0))).setCell ⟨gb314, 1, none⟩ (.int .i64 ((rd_T54 y310 x90_3).f1))) w.heap.size (fun _ => True) (.slice A22 y301.length c22) y301) := ⟨by (with_reducible repeat (first | apply Kd.Q_alloc | apply Kd.Q_drewN | apply Kd.Q_drew)); exact Kd.Q_mono (Kd.Q_far (p := ⟨gb314, 1, none⟩) (Kd.Q_far (p := ⟨gb314, 0, none⟩) (Kd.Q_types HO_9.out BK314.out (by decide)) (fun _ hk => hk.2) (.int .i64 ((rd_T54 y310 x90_3).f0))) (fun _ hk => hk.2) (.int .i64 ((rd_T54 y310 x90_3).f1))) (fun _ hk => trivial)⟩
                       have n1_ : Aside0 (Kd.R k54 54 ((w46.setCell ⟨gb314, 0, none⟩ (.int .i64 ((rd_T54 y310 x90_3).f0))).setCell ⟨gb314, 1, none⟩ (.int .i64 ((rd_T54 y310 x90_3).f1))) w.heap.size (fun k_ => some k_ ≠ (.slice (some ad313) y310.length co35 : Value).ownBlock ∧ k_ ≠ gb304 ∧ k_ ≠ gb309 ∧ k_ ≠ gb314) u12 x12_2) := ⟨by (with_reducible repeat (first | apply Kd.R_alloc | apply Kd.R_drewN | apply Kd.R_drew)); exact Kd.R_mono (Kd.R_far (p := ⟨gb314, 1, none⟩) (Kd.R_far (p := ⟨gb314, 0, none⟩) (Kd.R_mono HO_12.out (fun k_ hk => (⟨hk, hk.2⟩ : _ ∧ k_ ≠ gb314))) (fun _ hk => hk.2) (.int .i64 ((rd_T54 y310 x90_3).f0))) (fun _ hk => hk.2) (.int .i64 ((rd_T54 y310 x90_3).f1))) (fun _ hk => ⟨hk.1.1.1, ⟨hk.1.1.2.1, ⟨hk.1.1.2.2, hk.1.2⟩⟩⟩)⟩
                       have n2_ : Aside0 (Kd.R k54 54 ((w46.setCell ⟨gb314, 0, none⟩ (.int .i64 ((rd_T54 y310 x90_3).f0))).setCell ⟨gb314, 1, none⟩ (.int .i64 ((rd_T54 y310 x90_3).f1))) w.heap.size (fun k_ => some k_ ≠ (u12 : Value).ownBlock ∧ k_ ≠ gb304 ∧ k_ ≠ gb309 ∧ k_ ≠ gb314) (.slice (some ad313) y310.length co35) y310) := ⟨by (with_reducible repeat (first | apply Kd.R_alloc | apply Kd.R_drewN | apply Kd.R_drew)); exact Kd.R_mono (Kd.R_far (p := ⟨gb314, 1, none⟩) (Kd.R_far (p := ⟨gb314, 0, none⟩) (Kd.R_mono HO_88.out (fun k_ hk => (⟨hk, hk.2⟩ : _ ∧ k_ ≠ gb314))) (fun _ hk => hk.2) (.int .i64 ((rd_T54 y310 x90_3).f0))) (fun _ hk => hk.2) (.int .i64 ((rd_T54 y310 x90_3).f1))) (fun _ hk => ⟨hk.1.1.1, ⟨hk.1.1.2.1, ⟨hk.1.1.2.2, hk.1.2⟩⟩⟩)⟩
                       have n3_ : Aside0 (((w46.setCell ⟨gb314, 0, none⟩ (.int .i64 ((rd_T54 y310 x90_3).f0))).setCell ⟨gb314, 1, none⟩ (.int .i64 ((rd_T54 y310 x90_3).f1))).heap[gb304]? = some (.cells #[.int .i64 x305000_2, .int .i64 x305001_2] 54 (0, 0))) := ⟨by (with_reducible repeat (first | refine blk_drewN ?_ _ | refine blk_drew ?_ | refine blk_alloc ?_ _)); refine blk_far ?_ NB304_314.out _; (with_reducible repeat (first | refine blk_drewN ?_ _ | refine blk_drew ?_ | refine blk_alloc ?_ _)); refine blk_far ?_ NB304_314.out _; (with_reducible repeat (first | refine blk_drewN ?_ _ | refine blk_drew ?_ | refine blk_alloc ?_ _)); exact BK304.out⟩
                       have n4_ : Aside0 (((w46.setCell ⟨gb314, 0, none⟩ (.int .i64 ((rd_T54 y310 x90_3).f0))).setCell ⟨gb314, 1, none⟩ (.int .i64 ((rd_T54 y310 x90_3).f1))).heap[gb309]? = some (.cells #[.int .i64 x310000_3, .int .i64 x310001_3] 54 (0, 0))) := ⟨by (with_reducible repeat (first | refine blk_drewN ?_ _ | refine blk_drew ?_ | refine blk_alloc ?_ _)); refine blk_far ?_ NB309_314.out _; (with_reducible repeat (first | refine blk_drewN ?_ _ | refine blk_drew ?_ | refine blk_alloc ?_ _)); refine blk_far ?_ NB309_314.out _; (with_reducible repeat (first | refine blk_drewN ?_ _ | refine blk_drew ?_ | refine blk_alloc ?_ _)); exact BK309.out⟩
                       have n5_ : Aside0 (((w46.setCell ⟨gb314, 0, none⟩ (.int .i64 ((rd_T54 y310 x90_3).f0))).setCell ⟨gb314, 1, none⟩ (.int .i64 ((rd_T54 y310 x90_3).f1))).heap[gb314]? = some (.cells #[.int .i64 ((rd_T54 y310 x90_3).f0), .int .i64 ((rd_T54 y310 x90_3).f1)] 54 (0, 0))) := ⟨by (with_reducible repeat (first | refine blk_drewN ?_ _ | refine blk_drew ?_ | refine blk_alloc ?_ _)); refine blk_put (cs := #[.int .i64 ((rd_T54 y310 x90_3).f0), .int .i64 0]) ?_ 1 _ rfl; (with_reducible repeat (first | refine blk_drewN ?_ _ | refine blk_drew ?_ | refine blk_alloc ?_ _)); refine blk_put (cs := #[.int .i64 0, .int .i64 0]) ?_ 0 _ rfl; (with_reducible repeat (first | refine blk_drewN ?_ _ | refine blk_drew ?_ | refine blk_alloc ?_ _)); exact BK314.out⟩
                       have n6_ : Aside0 (Below w.heap.size w ((w46.setCell ⟨gb314, 0, none⟩ (.int .i64 ((rd_T54 y310 x90_3).f0))).setCell ⟨gb314, 1, none⟩ (.int .i64 ((rd_T54 y310 x90_3).f1)))) := ⟨by repeat (first | (with_reducible first | exact HB.out | apply below_alloc | apply pw_below_drewN | apply below_drew1 | refine below_set ?_ GE304.out | refine below_set ?_ GE309.out | refine below_set ?_ GE314.out) | exact HB.out)⟩
                       (try clear HO_9)
                       (try clear HO_12)
                       (try clear HO_88)
                       (try clear BK304)
                       (try clear BK309)
                       (try clear BK314)
                       (try clear HB)
                       generalize ((w46.setCell ⟨gb314, 0, none⟩ (.int .i64 ((rd_T54 y310 x90_3).f0))).setCell ⟨gb314, 1, none⟩ (.int .i64 ((rd_T54 y310 x90_3).f1))) = w50 at n0_ n1_ n2_ n3_ n4_ n5_ n6_ ⊢
                       have HO_9 := n0_
                       have HO_12 := n1_
                       have HO_88 := n2_
                       have BK304 := n3_
                       have BK309 := n4_
                       have BK314 := n5_
                       have HB := n6_
                       clear n0_ n1_ n2_ n3_ n4_ n5_ n6_
                       have n0_ := Aside0.mk (Kd.Q_drew HO_9.out)
                       have n1_ := Aside0.mk (Kd.R_drew HO_12.out)
                       have n2_ := Aside0.mk (Kd.R_drew HO_88.out)
                       have n3_ := Aside0.mk (blk_drew BK304.out)
                       have n4_ := Aside0.mk (blk_drew BK309.out)
                       have n5_ := Aside0.mk (blk_drew BK314.out)
                       have n6_ := Aside0.mk (below_drew1 HB.out)
                       clear HO_9
                       clear HO_12
                       clear HO_88
                       clear BK304
                       clear BK309
                       clear BK314
                       clear HB
                       have HO_9 := n0_
                       have HO_12 := n1_
                       have HO_88 := n2_
                       have BK304 := n3_
                       have BK309 := n4_
                       have BK314 := n5_
                       have HB := n6_
                       clear n0_ n1_ n2_ n3_ n4_ n5_ n6_
                       have p315 : 0 ≤ (((rd_T54 y310 x90_3).f0) : Int) := of_decide_eq_true (by first | (with_reducible assumption) | assumption)
                       have q315 : ((rd_T54 y310 x90_3).f0) < (y301.length : Int) := of_decide_eq_true (by first | (with_reducible assumption) | assumption)
                       obtain ⟨ad315, A315_0, c315_0, e315, hx315_0, hl315_0, hi315_0⟩ := at_L2 (Kd.Q_reads' HO_9.out).2.2 ((rd_T54 y310 x90_3).f0) p315 q315
                       cases e315
                       have HR315_0 := Aside0.mk hi315_0
                       have HC315_0 := Aside0.mk hl315_0
                       clear hi315_0 hl315_0
                       replace p315 := eq_true p315
                       replace q315 := eq_true q315
                       have p316 : 0 ≤ (((rd_T54 y310 x90_3).f1) : Int) := of_decide_eq_true (by first | (with_reducible assumption) | assumption)
                       have q316 : ((rd_T54 y310 x90_3).f1) < ((rd_L2 y301 ((rd_T54 y310 x90_3).f0)).length : Int) := of_decide_eq_true (by first | (with_reducible assumption) | assumption)
                       obtain ⟨ad316, e316, hx316_0⟩ := Kd.at_int (by repeat (first | (with_reducible exact HR315_0.out) | (with_reducible refine Kd.C_alloc ?_ _) | (with_reducible refine Kd.C_drewN ?_ _) | (with_reducible refine Kd.C_drew ?_) | exact HR315_0.out)) ((rd_T54 y310 x90_3).f1) p316 q316
                       cases e316
                       replace p316 := eq_true p316
                       replace q316 := eq_true q316
                       refine start_ (n := 21) (S := fun w' => w'.cell? ⟨gb314, 0, none⟩ = some (.int .i64 ((rd_T54 y310 x90_3).f0)) ∧ w'.cell? ⟨gb314, 1, none⟩ = some (.int .i64 ((rd_T54 y310 x90_3).f1)) ∧ w'.cell? (ad315.add (((rd_T54 y310 x90_3).f0)).toNat) = some (.slice (some ad316) (rd_L2 y301 ((rd_T54 y310 x90_3).f0)).length c315_0) ∧ w'.cell? (ad316.add (((rd_T54 y310 x90_3).f1)).toNat) = some (.int .i64 (rd (rd_L2 y301 ((rd_T54 y310 x90_3).f0)) ((rd_T54 y310 x90_3).f1)))) (ds := []) #[false,false,false,false,false,false,false,false,false,false,false,false,false,false,false,false,false,false,false,false,false] (by kernel_rfl) rfl rfl ⟨(blk_cell BK314.out 0).trans rfl, (blk_cell BK314.out 1).trans rfl, hx315_0, hx316_0⟩ (fun hHeld => ?_); refine with_tabW warp_Path.tab19 warp_Path.bits19 (fun HT_ HW_ => ?_)
                       generalize w50.drew = w51 at HO_9 HO_12 HO_88 BK304 BK309 BK314 HB HR315_0 hx315_0 hx316_0 hHeld ⊢
                       refine pure_ (i := 0) (N := some 94) (v := ?_) (a' := ?_) #[true,false,false,false,false,false,false,false,false,false,false,false,false,false,false,false,false,false,false,false,false] rfl rfl (any_of HT_.out (by kernel_rfl)) (fun _ _ _ h => h) (Or.inl ⟨by rfl, ?_⟩) ?_ ?_
                       rotate_left
                       ·intro w'
                        go_simp
                        with_reducible rfl
                       rotate_left
                       ·simp only [Act.put, List.setIfInBounds_toArray, List.set_cons_zero, List.set_cons_succ, i64_w, i32_w]
                        rfl
                       refine take_ (i := 1) (N := some 95) (v := ?_) (a' := ?_) #[true,true,false,false,false,false,false,false,false,false,false,false,false,false,false,false,false,false,false,false,false] rfl rfl (take_ofW HT_.out HW_.out (by kernel_rfl)) (fun _ _ _ h => h) (Or.inl ⟨by rfl, ?_⟩) hHeld ?_ ?_
                       rotate_left
                       ·rintro w' ⟨s0, s1, s2, s3⟩
                        go_simp
                        with_reducible rfl
                       rotate_left
                       ·simp only [Act.put, List.setIfInBounds_toArray, List.set_cons_zero, List.set_cons_succ, i64_w, i32_w]
                        rfl
                       refine pure_ (i := 2) (N := some 96) (v := ?_) (a' := ?_) #[true,true,true,false,false,false,false,false,false,false,false,false,false,false,false,false,false,false,false,false,false] rfl rfl (any_of HT_.out (by kernel_rfl)) (fun _ _ _ h => h) (Or.inl ⟨by rfl, ?_⟩) ?_ ?_
                       rotate_left
                       ·intro w'
                        go_simp
                        with_reducible rfl
                       rotate_left
                       ·simp only [Act.put, List.setIfInBounds_toArray, List.set_cons_zero, List.set_cons_succ, i64_w, i32_w]
                        rfl
                       refine pure_ (i := 3) (N := some 97) (v := ?_) (a' := ?_) #[true,true,true,true,false,false,false,false,false,false,false,false,false,false,false,false,false,false,false,false,false] rfl rfl (any_of HT_.out (by kernel_rfl)) (fun _ _ _ h => h) (Or.inl ⟨by rfl, ?_⟩) ?_ ?_
                       rotate_left
                       ·intro w'
                        go_simp
                        with_reducible rfl
                       rotate_left
                       ·simp only [Act.put, List.setIfInBounds_toArray, List.set_cons_zero, List.set_cons_succ, i64_w, i32_w]
                        rfl
                       refine pure_ (i := 4) (N := some 98) (v := ?_) (a' := ?_) #[true,true,true,true,true,false,false,false,false,false,false,false,false,false,false,false,false,false,false,false,false] rfl rfl (any_of HT_.out (by kernel_rfl)) (fun _ _ _ h => h) (Or.inl ⟨by rfl, ?_⟩) ?_ ?_
                       rotate_left
                       ·intro w'
                        go_simp
                        with_reducible rfl
                       rotate_left
                       ·simp only [Act.put, List.setIfInBounds_toArray, List.set_cons_zero, List.set_cons_succ, i64_w, i32_w]
                        rfl
                       refine take_ (i := 5) (N := some 99) (v := ?_) (a' := ?_) #[true,true,true,true,true,true,false,false,false,false,false,false,false,false,false,false,false,false,false,false,false] rfl rfl (take_ofW HT_.out HW_.out (by kernel_rfl)) (fun _ _ _ h => h) (Or.inl ⟨by rfl, ?_⟩) hHeld ?_ ?_
                       rotate_left
                       ·rintro w' ⟨s0, s1, s2, s3⟩
                        go_simp
                        with_reducible rfl
                       rotate_left
                       ·simp only [Act.put, List.setIfInBounds_toArray, List.set_cons_zero, List.set_cons_succ, i64_w, i32_w]
                        rfl
                       refine pure_ (i := 6) (N := some 100) (v := ?_) (a' := ?_) #[true,true,true,true,true,true,true,false,false,false,false,false,false,false,false,false,false,false,false,false,false] rfl rfl (any_of HT_.out (by kernel_rfl)) (fun _ _ _ h => h) (Or.inl ⟨by rfl, ?_⟩) ?_ ?_
                       rotate_left
                       ·intro w'
                        go_simp
                        with_reducible rfl
                       rotate_left
                       ·simp only [Act.put, List.setIfInBounds_toArray, List.set_cons_zero, List.set_cons_succ, i64_w, i32_w]
                        rfl
                       refine pure_ (i := 7) (N := some 101) (v := ?_) (a' := ?_) #[true,true,true,true,true,true,true,true,false,false,false,false,false,false,false,false,false,false,false,false,false] rfl rfl (any_of HT_.out (by kernel_rfl)) (fun _ _ _ h => h) (Or.inl ⟨by rfl, ?_⟩) ?_ ?_
                       rotate_left
                       ·intro w'
                        go_simp
                        with_reducible rfl
                       rotate_left
                       ·simp only [Act.put, List.setIfInBounds_toArray, List.set_cons_zero, List.set_cons_succ, i64_w, i32_w]
                        rfl
                       refine pure_ (i := 8) (N := some 102) (v := ?_) (a' := ?_) #[true,true,true,true,true,true,true,true,true,false,false,false,false,false,false,false,false,false,false,false,false] rfl rfl (any_of HT_.out (by kernel_rfl)) (fun _ _ _ h => h) (Or.inl ⟨by rfl, ?_⟩) ?_ ?_
                       rotate_left
                       ·intro w'
                        go_simp
                        with_reducible rfl
                       rotate_left
                       ·simp only [Act.put, List.setIfInBounds_toArray, List.set_cons_zero, List.set_cons_succ, i64_w, i32_w]
                        rfl
                       refine pure_ (i := 9) (N := some 103) (v := ?_) (a' := ?_) #[true,true,true,true,true,true,true,true,true,true,false,false,false,false,false,false,false,false,false,false,false] rfl rfl (any_of HT_.out (by kernel_rfl)) (fun _ _ _ h => h) (Or.inl ⟨by rfl, ?_⟩) ?_ ?_
                       rotate_left
                       ·intro w'
                        go_simp
                        with_reducible rfl
                       rotate_left
                       ·simp only [Act.put, List.setIfInBounds_toArray, List.set_cons_zero, List.set_cons_succ, i64_w, i32_w]
                        rfl
                       refine pure_ (i := 10) (N := some 104) (v := ?_) (a' := ?_) #[true,true,true,true,true,true,true,true,true,true,true,false,false,false,false,false,false,false,false,false,false] rfl rfl (any_of HT_.out (by kernel_rfl)) (fun _ _ _ h => h) (Or.inl ⟨by rfl, ?_⟩) ?_ ?_
                       rotate_left
                       ·intro w'
                        go_simp
                        with_reducible rfl
                       rotate_left
                       ·simp only [Act.put, List.setIfInBounds_toArray, List.set_cons_zero, List.set_cons_succ, i64_w, i32_w]
                        rfl
                       refine pure_ (i := 14) (N := some 108) (v := ?_) (a' := ?_) #[true,true,true,true,true,true,true,true,true,true,true,false,false,false,true,false,false,false,false,false,false] rfl rfl (any_of HT_.out (by kernel_rfl)) (fun _ _ _ h => h) (Or.inl ⟨by rfl, ?_⟩) ?_ ?_
                       rotate_left
                       ·intro w'
                        go_simp
                        with_reducible rfl
                       rotate_left
                       ·simp only [Act.put, List.setIfInBounds_toArray, List.set_cons_zero, List.set_cons_succ, i64_w, i32_w]
                        rfl
                       refine pure_ (i := 18) (N := some 112) (v := ?_) (a' := ?_) #[true,true,true,true,true,true,true,true,true,true,true,false,false,false,true,false,false,false,true,false,false] rfl rfl (any_of HT_.out (by kernel_rfl)) (fun _ _ _ h => h) (Or.inl ⟨by rfl, ?_⟩) ?_ ?_
                       rotate_left
                       ·intro w'
                        go_simp
                        with_reducible rfl
                       rotate_left
                       ·simp only [Act.put, List.setIfInBounds_toArray, List.set_cons_zero, List.set_cons_succ, i64_w, i32_w]
                        rfl
                       refine take_ (i := 11) (N := some 105) (v := ?_) (a' := ?_) #[true,true,true,true,true,true,true,true,true,true,true,true,false,false,true,false,false,false,true,false,false] rfl rfl (take_ofW HT_.out HW_.out (by kernel_rfl)) (fun _ _ _ h => h) (Or.inl ⟨by rfl, ?_⟩) hHeld ?_ ?_
                       rotate_left
                       ·rintro w' ⟨s0, s1, s2, s3⟩
                        go_simp
                        with_reducible rfl
                       rotate_left
                       ·simp only [Act.put, List.setIfInBounds_toArray, List.set_cons_zero, List.set_cons_succ, i64_w, i32_w]
                        rfl
                       refine pure_ (i := 12) (N := some 106) (v := ?_) (a' := ?_) #[true,true,true,true,true,true,true,true,true,true,true,true,true,false,true,false,false,false,true,false,false] rfl rfl (any_of HT_.out (by kernel_rfl)) (fun _ _ _ h => h) (Or.inl ⟨by rfl, ?_⟩) ?_ ?_
                       rotate_left
                       ·intro w'
                        go_simp
                        with_reducible rfl
                       rotate_left
                       ·simp only [Act.put, List.setIfInBounds_toArray, List.set_cons_zero, List.set_cons_succ, i64_w, i32_w]
                        rfl
                       refine take_ (i := 13) (N := some 107) (v := ?_) (a' := ?_) #[true,true,true,true,true,true,true,true,true,true,true,true,true,true,true,false,false,false,true,false,false] rfl rfl (take_ofW HT_.out HW_.out (by kernel_rfl)) (fun _ _ _ h => h) (Or.inl ⟨by rfl, ?_⟩) hHeld ?_ ?_
                       rotate_left
                       ·rintro w' ⟨s0, s1, s2, s3⟩
                        go_simp
                        with_reducible rfl
                       rotate_left
                       ·simp only [Act.put, List.setIfInBounds_toArray, List.set_cons_zero, List.set_cons_succ, i64_w, i32_w]
                        rfl
                       refine take_ (i := 15) (N := some 109) (v := ?_) (a' := ?_) #[true,true,true,true,true,true,true,true,true,true,true,true,true,true,true,true,false,false,true,false,false] rfl rfl (take_ofW HT_.out HW_.out (by kernel_rfl)) (fun _ _ _ h => h) (Or.inl ⟨by rfl, ?_⟩) hHeld ?_ ?_
                       rotate_left
                       ·rintro w' ⟨s0, s1, s2, s3⟩
                        go_simp
                        with_reducible rfl
                       rotate_left
                       ·simp only [Act.put, List.setIfInBounds_toArray, List.set_cons_zero, List.set_cons_succ, i64_w, i32_w]
                        rfl
                       refine pure_ (i := 16) (N := some 110) (v := ?_) (a' := ?_) #[true,true,true,true,true,true,true,true,true,true,true,true,true,true,true,true,true,false,true,false,false] rfl rfl (any_of HT_.out (by kernel_rfl)) (fun _ _ _ h => h) (Or.inl ⟨by rfl, ?_⟩) ?_ ?_
                       rotate_left
                       ·intro w'
                        go_simp
                        with_reducible rfl
                       rotate_left
                       ·simp only [Act.put, List.setIfInBounds_toArray, List.set_cons_zero, List.set_cons_succ, i64_w, i32_w]
                        rfl
                       refine take_ (i := 17) (N := some 111) (v := ?_) (a' := ?_) #[true,true,true,true,true,true,true,true,true,true,true,true,true,true,true,true,true,true,true,false,false] rfl rfl (take_ofW HT_.out HW_.out (by kernel_rfl)) (fun _ _ _ h => h) (Or.inl ⟨by rfl, ?_⟩) hHeld ?_ ?_
                       rotate_left
                       ·rintro w' ⟨s0, s1, s2, s3⟩
                        go_simp
                        with_reducible rfl
                       rotate_left
                       ·simp only [Act.put, List.setIfInBounds_toArray, List.set_cons_zero, List.set_cons_succ, i64_w, i32_w]
                        rfl
                       refine pure_ (i := 19) (N := some 113) (v := ?_) (a' := ?_) #[true,true,true,true,true,true,true,true,true,true,true,true,true,true,true,true,true,true,true,true,false] rfl rfl (any_of HT_.out (by kernel_rfl)) (fun _ _ _ h => h) (Or.inl ⟨by rfl, ?_⟩) ?_ ?_
                       rotate_left
                       ·intro w'
                        go_simp
                        with_reducible rfl
                       rotate_left
                       ·simp only [Act.put, List.setIfInBounds_toArray, List.set_cons_zero, List.set_cons_succ, i64_w, i32_w]
                        rfl
                       refine pure_ (i := 20) (N := some 114) (v := ?_) (a' := ?_) #[true,true,true,true,true,true,true,true,true,true,true,true,true,true,true,true,true,true,true,true,true] rfl rfl (any_of HT_.out (by kernel_rfl)) (fun _ _ _ h => h) (Or.inl ⟨by rfl, ?_⟩) ?_ ?_
                       rotate_left
                       ·intro w'
                        go_simp
                        with_reducible rfl
                       rotate_left
                       ·simp only [Act.put, List.setIfInBounds_toArray, List.set_cons_zero, List.set_cons_succ, i64_w, i32_w]
                        rfl
                       refine done_ (done_of HT_.out (by kernel_rfl)) ?_
                       try go_wp2
                       have n0_ := Aside0.mk (Kd.Q_drew HO_9.out)
                       have n1_ := Aside0.mk (Kd.R_drew HO_12.out)
                       have n2_ := Aside0.mk (Kd.R_drew HO_88.out)
                       have n3_ := Aside0.mk (blk_drew BK304.out)
                       have n4_ := Aside0.mk (blk_drew BK309.out)
                       have n5_ := Aside0.mk (blk_drew BK314.out)
                       have n6_ := Aside0.mk (Kd.C_drew HR315_0.out)
                       have n7_ := Aside0.mk (below_drew1 HB.out)
                       clear HO_9
                       clear HO_12
                       clear HO_88
                       clear BK304
                       clear BK309
                       clear BK314
                       clear HR315_0
                       clear HB
                       have HO_9 := n0_
                       have HO_12 := n1_
                       have HO_88 := n2_
                       have BK304 := n3_
                       have BK309 := n4_
                       have BK314 := n5_
                       have HR315_0 := n6_
                       have HB := n7_
                       clear n0_ n1_ n2_ n3_ n4_ n5_ n6_ n7_
                       have p317 : 0 ≤ (((rd_T54 y310 x90_3).f0) : Int) := of_decide_eq_true (by first | (with_reducible assumption) | assumption)
                       have q317 : ((rd_T54 y310 x90_3).f0) < (y301.length : Int) := of_decide_eq_true (by first | (with_reducible assumption) | assumption)
                       obtain ⟨ad317, A317_0, c317_0, e317, hx317_0, hl317_0, hi317_0⟩ := at_L2 (Kd.Q_reads' HO_9.out).2.2 ((rd_T54 y310 x90_3).f0) p317 q317
                       obtain rfl : ad315 = ad317 := (by injection e317)
                       have HR317_0 := Aside0.mk hi317_0
                       have HC317_0 := Aside0.mk hl317_0
                       clear hi317_0 hl317_0
                       replace p317 := eq_true p317
                       replace q317 := eq_true q317
                       have p318 : 0 ≤ (((rd_T54 y310 x90_3).f1) : Int) := of_decide_eq_true (by first | (with_reducible assumption) | assumption)
                       have q318 : ((rd_T54 y310 x90_3).f1) < ((rd_L2 y301 ((rd_T54 y310 x90_3).f0)).length : Int) := of_decide_eq_true (by first | (with_reducible assumption) | assumption)
                       obtain ⟨ad318, e318, hx318_0⟩ := Kd.at_int (by repeat (first | (with_reducible exact HR317_0.out) | (with_reducible refine Kd.C_alloc ?_ _) | (with_reducible refine Kd.C_drewN ?_ _) | (with_reducible refine Kd.C_drew ?_) | exact HR317_0.out)) ((rd_T54 y310 x90_3).f1) p318 q318
                       cases e318
                       replace p318 := eq_true p318
                       replace q318 := eq_true q318
                       have hnr_ := Q_inner_ne (gk := gb309) HO_9.out rfl (((rd_T54 y310 x90_3).f0) : Int) (of_eq_true p317) (of_eq_true q317) hx317_0 BK309.out (by decide)
                       refine start_ (n := 12) (S := fun w' => w'.cell? ⟨gb314, 0, none⟩ = some (.int .i64 ((rd_T54 y310 x90_3).f0)) ∧ w'.cell? ⟨gb314, 1, none⟩ = some (.int .i64 ((rd_T54 y310 x90_3).f1)) ∧ w'.cell? (ad315.add (((rd_T54 y310 x90_3).f0)).toNat) = some (.slice (some ad318) (rd_L2 y301 ((rd_T54 y310 x90_3).f0)).length c317_0) ∧ w'.cell? (ad318.add (((rd_T54 y310 x90_3).f1)).toNat) = some (.int .i64 (rd (rd_L2 y301 ((rd_T54 y310 x90_3).f0)) ((rd_T54 y310 x90_3).f1)))) (ds := []) #[false,false,false,false,false,false,false,false,false,false,false,false] (by kernel_rfl) rfl rfl ⟨(blk_cell BK314.out 0).trans rfl, (blk_cell BK314.out 1).trans rfl, hx317_0, hx318_0⟩ (fun hHeld => ?_); refine with_tabW warp_Path.tab20 warp_Path.bits20 (fun HT_ HW_ => ?_)
                       generalize w51.drew = w52 at HO_9 HO_12 HO_88 BK304 BK309 BK314 HR315_0 HB HR317_0 hx317_0 hx318_0 hHeld ⊢
                       refine pure_ (i := 1) (N := some 116) (v := ?_) (a' := ?_) #[false,true,false,false,false,false,false,false,false,false,false,false] rfl rfl (any_of HT_.out (by kernel_rfl)) (fun _ _ _ h => h) (Or.inl ⟨by rfl, ?_⟩) ?_ ?_
                       rotate_left
                       ·intro w'
                        go_simp
                        with_reducible rfl
                       rotate_left
                       ·simp only [Act.put, List.setIfInBounds_toArray, List.set_cons_zero, List.set_cons_succ, i64_w, i32_w]
                        rfl
                       refine pure_ (i := 2) (N := some 117) (v := ?_) (a' := ?_) #[false,true,true,false,false,false,false,false,false,false,false,false] rfl rfl (any_of HT_.out (by kernel_rfl)) (fun _ _ _ h => h) (Or.inl ⟨by rfl, ?_⟩) ?_ ?_
                       rotate_left
                       ·intro w'
                        go_simp
                        with_reducible rfl
                       rotate_left
                       ·simp only [Act.put, List.setIfInBounds_toArray, List.set_cons_zero, List.set_cons_succ, i64_w, i32_w]
                        rfl
                       refine pure_ (i := 6) (N := some 121) (v := ?_) (a' := ?_) #[false,true,true,false,false,false,true,false,false,false,false,false] rfl rfl (any_of HT_.out (by kernel_rfl)) (fun _ _ _ h => h) (Or.inl ⟨by rfl, ?_⟩) ?_ ?_
                       rotate_left
                       ·intro w'
                        go_simp
                        with_reducible rfl
                       rotate_left
                       ·simp only [Act.put, List.setIfInBounds_toArray, List.set_cons_zero, List.set_cons_succ, i64_w, i32_w]
                        rfl
                       refine take_ (i := 0) (N := some 115) (v := ?_) (a' := ?_) #[true,true,true,false,false,false,true,false,false,false,false,false] rfl rfl (take_ofW HT_.out HW_.out (by kernel_rfl)) (fun _ _ _ h => h) (Or.inl ⟨by rfl, ?_⟩) hHeld ?_ ?_
                       rotate_left
                       ·rintro w' ⟨s0, s1, s2, s3⟩
                        go_simp
                        with_reducible rfl
                       rotate_left
                       ·simp only [Act.put, List.setIfInBounds_toArray, List.set_cons_zero, List.set_cons_succ, i64_w, i32_w]
                        rfl
                       refine take_ (i := 3) (N := some 118) (v := ?_) (a' := ?_) #[true,true,true,true,false,false,true,false,false,false,false,false] rfl rfl (take_ofW HT_.out HW_.out (by kernel_rfl)) (fun _ _ _ h => h) (Or.inl ⟨by rfl, ?_⟩) hHeld ?_ ?_
                       rotate_left
                       ·rintro w' ⟨s0, s1, s2, s3⟩
                        go_simp
                        with_reducible rfl
                       rotate_left
                       ·simp only [Act.put, List.setIfInBounds_toArray, List.set_cons_zero, List.set_cons_succ, i64_w, i32_w]
                        rfl
                       refine pure_ (i := 4) (N := some 119) (v := ?_) (a' := ?_) #[true,true,true,true,true,false,true,false,false,false,false,false] rfl rfl (any_of HT_.out (by kernel_rfl)) (fun _ _ _ h => h) (Or.inl ⟨by rfl, ?_⟩) ?_ ?_
                       rotate_left
                       ·intro w'
                        go_simp
                        with_reducible rfl
                       rotate_left
                       ·simp only [Act.put, List.setIfInBounds_toArray, List.set_cons_zero, List.set_cons_succ, i64_w, i32_w]
                        rfl
                       refine take_ (i := 5) (N := some 120) (v := ?_) (a' := ?_) #[true,true,true,true,true,true,true,false,false,false,false,false] rfl rfl (take_ofW HT_.out HW_.out (by kernel_rfl)) (fun _ _ _ h => h) (Or.inl ⟨by rfl, ?_⟩) hHeld ?_ ?_
                       rotate_left
                       ·rintro w' ⟨s0, s1, s2, s3⟩
                        go_simp
                        with_reducible rfl
                       rotate_left
                       ·simp only [Act.put, List.setIfInBounds_toArray, List.set_cons_zero, List.set_cons_succ, i64_w, i32_w]
                        rfl
                       refine take_ (i := 7) (N := some 122) (v := ?_) (a' := ?_) #[true,true,true,true,true,true,true,true,false,false,false,false] rfl rfl (take_ofW HT_.out HW_.out (by kernel_rfl)) (fun _ _ _ h => h) (Or.inl ⟨by rfl, ?_⟩) hHeld ?_ ?_
                       rotate_left
                       ·rintro w' ⟨s0, s1, s2, s3⟩
                        go_simp
                        with_reducible rfl
                       rotate_left
                       ·simp only [Act.put, List.setIfInBounds_toArray, List.set_cons_zero, List.set_cons_succ, i64_w, i32_w]
                        rfl
                       refine pure_ (i := 8) (N := some 123) (v := ?_) (a' := ?_) #[true,true,true,true,true,true,true,true,true,false,false,false] rfl rfl (any_of HT_.out (by kernel_rfl)) (fun _ _ _ h => h) (Or.inl ⟨by rfl, ?_⟩) ?_ ?_
                       rotate_left
                       ·intro w'
                        go_simp
                        with_reducible rfl
                       rotate_left
                       ·simp only [Act.put, List.setIfInBounds_toArray, List.set_cons_zero, List.set_cons_succ, i64_w, i32_w]
                        rfl
                       refine take_ (i := 9) (N := some 124) (v := ?_) (a' := ?_) #[true,true,true,true,true,true,true,true,true,true,false,false] rfl rfl (take_ofW HT_.out HW_.out (by kernel_rfl)) (fun _ _ _ h => h) (Or.inl ⟨by rfl, ?_⟩) hHeld ?_ ?_
                       rotate_left
                       ·rintro w' ⟨s0, s1, s2, s3⟩
                        go_simp
                        with_reducible rfl
                       rotate_left
                       ·simp only [Act.put, List.setIfInBounds_toArray, List.set_cons_zero, List.set_cons_succ, i64_w, i32_w]
                        rfl
                       refine one_ (i := 10) (N := none) #[true,true,true,true,true,true,true,true,true,true,true,false] rfl rfl (one_of HT_.out (by kernel_rfl)) (by decide) (fun K hK => ?_)
                       have hs53 : w52.cell? ⟨gb309, 0, none⟩ = some (.int .i64 x310000_3) := (blk_cell BK309.out 0).trans rfl
                       have hfs53 := blk_frozen BK309.out 0
                       have hns53_0 := NB304_309.out
                       have hns53_2 := NB314_309.out
                       have hms53_0 := NB309_304.out
                       have hms53_2 := NB309_314.out
                       have hs54 : w52.cell? ⟨gb309, 1, none⟩ = some (.int .i64 x310001_3) := (blk_cell BK309.out 1).trans rfl
                       have hfs54 := blk_frozen BK309.out 1
                       have hns54_0 := NB304_309.out
                       have hns54_2 := NB314_309.out
                       have hms54_0 := NB309_304.out
                       have hms54_2 := NB309_314.out
                       refine skip_ (w1 := ?_) (by rfl) rfl ?_ ?_
                       rotate_left
                       ·go_simp
                        rfl
                       refine hK.out _ _ ⟨((cell_far (p := ⟨gb309, _, none⟩) NB314_309.out _).trans (((cell_far (p := ⟨gb309, _, none⟩) NB314_309.out _).trans (hHeld.1)))), ((cell_far (p := ⟨gb309, _, none⟩) NB314_309.out _).trans (((cell_far (p := ⟨gb309, _, none⟩) NB314_309.out _).trans (hHeld.2.1)))), ((cell_far (p := ⟨gb309, _, none⟩) (by first | exact Kd.own_blk (Kd.Q_ne HO_9.out BK309.out (by decide)) | (rw [add_block]; exact Kd.own_blk (Kd.Q_ne HO_9.out BK309.out (by decide))) | (show (Addr.add _ _).block ≠ _; rw [add_block]; exact Kd.own_blk (Kd.Q_ne HO_9.out BK309.out (by decide))) | (dsimp only; exact Kd.own_blk (Kd.Q_ne HO_9.out BK309.out (by decide)))) _).trans (((cell_far (p := ⟨gb309, _, none⟩) (by first | exact Kd.own_blk (Kd.Q_ne HO_9.out BK309.out (by decide)) | (rw [add_block]; exact Kd.own_blk (Kd.Q_ne HO_9.out BK309.out (by decide))) | (show (Addr.add _ _).block ≠ _; rw [add_block]; exact Kd.own_blk (Kd.Q_ne HO_9.out BK309.out (by decide))) | (dsimp only; exact Kd.own_blk (Kd.Q_ne HO_9.out BK309.out (by decide)))) _).trans (hHeld.2.2.1)))), ((cell_far (p := ⟨gb309, _, none⟩) (by first | exact hnr_ | exact hnr_.symm | (rw [add_block]; exact hnr_) | (rw [add_block]; exact hnr_.symm) | exact Kd.own_blk (Kd.R_ne HR317_0.out BK309.out (by decide)) | (rw [add_block]; exact Kd.own_blk (Kd.R_ne HR317_0.out BK309.out (by decide))) | (show (Addr.add _ _).block ≠ _; rw [add_block]; exact Kd.own_blk (Kd.R_ne HR317_0.out BK309.out (by decide))) | (dsimp only; exact Kd.own_blk (Kd.R_ne HR317_0.out BK309.out (by decide)))) _).trans (((cell_far (p := ⟨gb309, _, none⟩) (by first | exact hnr_ | exact hnr_.symm | (rw [add_block]; exact hnr_) | (rw [add_block]; exact hnr_.symm) | exact Kd.own_blk (Kd.R_ne HR317_0.out BK309.out (by decide)) | (rw [add_block]; exact Kd.own_blk (Kd.R_ne HR317_0.out BK309.out (by decide))) | (show (Addr.add _ _).block ≠ _; rw [add_block]; exact Kd.own_blk (Kd.R_ne HR317_0.out BK309.out (by decide))) | (dsimp only; exact Kd.own_blk (Kd.R_ne HR317_0.out BK309.out (by decide)))) _).trans (hHeld.2.2.2))))⟩ (fun hHeld => ?_)
                       clear hK K
                       refine pure_ (i := 11) (N := some 14) (v := ?_) (a' := ?_) #[true,true,true,true,true,true,true,true,true,true,true,true] rfl rfl (any_of HT_.out (by kernel_rfl)) (fun _ _ _ h => h) (Or.inl ⟨by rfl, ?_⟩) ?_ ?_
                       rotate_left
                       ·intro w'
                        go_simp
                        with_reducible rfl
                       rotate_left
                       ·simp only [Act.put, List.setIfInBounds_toArray, List.set_cons_zero, List.set_cons_succ, i64_w, i32_w]
                        rfl
                       refine done_ (done_of HT_.out (by kernel_rfl)) ?_
                       try go_wp2
                       go_roundg k3
                       case measure => have := HK1.out; have := HK2.out; have := HK3.out; omega
                       case rel => exact ⟨(rd (rd_L2 y301 ((rd_T54 y310 x90_3).f0)) ((rd_T54 y310 x90_3).f1)), (wrap64 (x90_3 + 1)), ((rd_T54 y310 x90_3).f0), ((rd_T54 y310 x90_3).f1), (by first | rfl | (simp; done) | (simp [*]; done)), (by first | rfl | (simp; done) | (simp [*]; done)), H', ⟨by have := HK1.out; have := HK2.out; have := HK3.out; omega⟩, ⟨by (with_reducible repeat (first | apply Kd.Q_alloc | apply Kd.Q_drewN | apply Kd.Q_drew)); exact Kd.Q_mono (Kd.Q_far (p := ⟨gb309, 1, none⟩) (Kd.Q_far (p := ⟨gb309, 0, none⟩) (Kd.Q_types HO_9.out BK309.out (by decide)) (fun _ hk => hk.2) (.int .i64 ((rd_T54 y310 x90_3).f0))) (fun _ hk => hk.2) (.int .i64 ((rd_T54 y310 x90_3).f1))) (fun _ hk => trivial)⟩, ⟨by (with_reducible repeat (first | apply Kd.R_alloc | apply Kd.R_drewN | apply Kd.R_drew)); exact Kd.R_mono (Kd.R_far (p := ⟨gb309, 1, none⟩) (Kd.R_far (p := ⟨gb309, 0, none⟩) (Kd.R_mono HO_12.out (fun k_ hk => (⟨hk, hk.2.2.1⟩ : _ ∧ k_ ≠ gb309))) (fun _ hk => hk.2) (.int .i64 ((rd_T54 y310 x90_3).f0))) (fun _ hk => hk.2) (.int .i64 ((rd_T54 y310 x90_3).f1))) (fun _ hk => ⟨hk.1.1, ⟨hk.1.2.1, hk.1.2.2.1⟩⟩)⟩, ⟨by (with_reducible repeat (first | apply Kd.R_alloc | apply Kd.R_drewN | apply Kd.R_drew)); exact Kd.R_mono (Kd.R_far (p := ⟨gb309, 1, none⟩) (Kd.R_far (p := ⟨gb309, 0, none⟩) (Kd.R_mono HO_88.out (fun k_ hk => (⟨hk, hk.2.2.1⟩ : _ ∧ k_ ≠ gb309))) (fun _ hk => hk.2) (.int .i64 ((rd_T54 y310 x90_3).f0))) (fun _ hk => hk.2) (.int .i64 ((rd_T54 y310 x90_3).f1))) (fun _ hk => ⟨hk.1.1, ⟨hk.1.2.1, hk.1.2.2.1⟩⟩)⟩, ⟨by (with_reducible repeat (first | refine blk_drewN ?_ _ | refine blk_drew ?_ | refine blk_alloc ?_ _)); refine blk_far ?_ NB304_309.out _; (with_reducible repeat (first | refine blk_drewN ?_ _ | refine blk_drew ?_ | refine blk_alloc ?_ _)); refine blk_far ?_ NB304_309.out _; (with_reducible repeat (first | refine blk_drewN ?_ _ | refine blk_drew ?_ | refine blk_alloc ?_ _)); exact BK304.out⟩, ⟨by (with_reducible repeat (first | refine blk_drewN ?_ _ | refine blk_drew ?_ | refine blk_alloc ?_ _)); refine blk_put (cs := #[.int .i64 ((rd_T54 y310 x90_3).f0), .int .i64 x310001_3]) ?_ 1 _ rfl; (with_reducible repeat (first | refine blk_drewN ?_ _ | refine blk_drew ?_ | refine blk_alloc ?_ _)); refine blk_put (cs := #[.int .i64 x310000_3, .int .i64 x310001_3]) ?_ 0 _ rfl; (with_reducible repeat (first | refine blk_drewN ?_ _ | refine blk_drew ?_ | refine blk_alloc ?_ _)); exact BK309.out⟩, ⟨by repeat (first | (with_reducible first | exact HB.out | apply below_alloc | apply pw_below_drewN | apply below_drew1 | refine below_set ?_ GE304.out | refine below_set ?_ GE309.out | refine below_set ?_ GE314.out) | exact HB.out)⟩⟩
                      ·rw [if_neg c45] at H
                       have c45b0 : decide ((rd (rd_L2 y301 ((rd_T54 y310 x90_3).f0)) ((rd_T54 y310 x90_3).f1)) < x14_3) = false := decide_eq_false c45
                       clear c45
                       have H' := Aside0.mk H
                       clear H
                       have p313 : 0 ≤ (x90_3 : Int) := of_decide_eq_true (by first | (with_reducible assumption) | assumption)
                       have q313 : x90_3 < (y310.length : Int) := of_decide_eq_true (by first | (with_reducible assumption) | assumption)
                       obtain ⟨ad313, e313, hx313_0, hx313_1⟩ := at_T54 (Kd.R_reads' HO_88.out).2.2 x90_3 p313 q313
                       cases e313
                       replace p313 := eq_true p313
                       replace q313 := eq_true q313
                       try go_wp2_with (first | ((with_reducible refine gate_dst (N := 16) rfl ?_); refine box_event ?hg (N := 16) ?hd (cs := #[.int .i64 0, .int .i64 0]) (t := 54) ?hr ?_; (case hd => rfl); (case hg => rfl); (case hr => first | (go_simp; done) | (go_simp; rfl)); intro gb314 hg w55 hbox hb; have n0_ := Aside0.mk (Kd.Q_below (by (with_reducible repeat (first | apply Kd.Q_alloc | apply Kd.Q_drewN | apply Kd.Q_drew)); exact HO_9.out) hb); have n1_ := Aside0.mk (Kd.R_below (Kd.R_elderB (by (with_reducible repeat (first | apply Kd.R_alloc | apply Kd.R_drewN | apply Kd.R_drew)); exact HO_12.out) gb314 (Nat.le_of_eq hg.symm)) hb); have n2_ := Aside0.mk (Kd.R_below (Kd.R_elderB (by (with_reducible repeat (first | apply Kd.R_alloc | apply Kd.R_drewN | apply Kd.R_drew)); exact HO_88.out) gb314 (Nat.le_of_eq hg.symm)) hb); have n3_ := Aside0.mk (blk_below (g := gb304) (o := .cells #[.int .i64 x305000_2, .int .i64 x305001_2] 54 (0, 0)) (by (with_reducible repeat (first | refine blk_drewN ?_ _ | refine blk_drew ?_ | refine blk_alloc ?_ _)); exact BK304.out) hb); have n4_ := Aside0.mk (blk_below (g := gb309) (o := .cells #[.int .i64 x310000_3, .int .i64 x310001_3] 54 (0, 0)) (by (with_reducible repeat (first | refine blk_drewN ?_ _ | refine blk_drew ?_ | refine blk_alloc ?_ _)); exact BK309.out) hb); have n5_ := Aside0.mk (below_step (by repeat (first | (with_reducible first | exact HB.out | apply below_alloc | apply pw_below_drewN | apply below_drew1 | refine below_set ?_ GE304.out | refine below_set ?_ GE309.out) | exact HB.out)) hb); have n6_ := Aside0.mk (hbox); have n7_ := Aside0.mk ((by rw [hg]; exact (below_size (by repeat (first | (with_reducible first | exact HB.out | apply below_alloc | apply pw_below_drewN | apply below_drew1 | refine below_set ?_ GE304.out | refine below_set ?_ GE309.out) | exact HB.out))) : w.heap.size ≤ gb314)); have n8_ := Aside0.mk ((by rw [hg]; exact (below_size (by repeat (first | (with_reducible first | exact HB.out | apply below_alloc | apply pw_below_drewN | apply below_drew1 | refine below_set ?_ GE304.out | refine below_set ?_ GE309.out) | exact HB.out))) : w.heap.size ≤ gb314)); have n9_ := Aside0.mk ((by rw [hg]; exact Nat.ne_of_lt (blk_lt (g := gb304) (o := .cells #[.int .i64 x305000_2, .int .i64 x305001_2] 54 (0, 0)) (by (with_reducible repeat (first | refine blk_drewN ?_ _ | refine blk_drew ?_ | refine blk_alloc ?_ _)); exact BK304.out)) : gb304 ≠ gb314)); have n10_ := Aside0.mk ((by rw [hg]; exact Nat.ne_of_gt (blk_lt (g := gb304) (o := .cells #[.int .i64 x305000_2, .int .i64 x305001_2] 54 (0, 0)) (by (with_reducible repeat (first | refine blk_drewN ?_ _ | refine blk_drew ?_ | refine blk_alloc ?_ _)); exact BK304.out)) : gb314 ≠ gb304)); have n11_ := Aside0.mk ((by rw [hg]; exact Nat.ne_of_lt (blk_lt (g := gb309) (o := .cells #[.int .i64 x310000_3, .int .i64 x310001_3] 54 (0, 0)) (by (with_reducible repeat (first | refine blk_drewN ?_ _ | refine blk_drew ?_ | refine blk_alloc ?_ _)); exact BK309.out)) : gb309 ≠ gb314)); have n12_ := Aside0.mk ((by rw [hg]; exact Nat.ne_of_gt (blk_lt (g := gb309) (o := .cells #[.int .i64 x310000_3, .int .i64 x310001_3] 54 (0, 0)) (by (with_reducible repeat (first | refine blk_drewN ?_ _ | refine blk_drew ?_ | refine blk_alloc ?_ _)); exact BK309.out)) : gb314 ≠ gb309)); clear HO_9; clear HO_12; clear HO_88; clear BK304; clear BK309; clear HB; have HO_9 := n0_; have HO_12 := n1_; have HO_88 := n2_; have BK304 := n3_; have BK309 := n4_; have HB := n5_; have BK314 := n6_; have GW314 := n7_; have GE314 := n8_; have NB304_314 := n9_; have NB314_304 := n10_; have NB309_314 := n11_; have NB314_309 := n12_; clear n0_ n1_ n2_ n3_ n4_ n5_ n6_ n7_ n8_ n9_ n10_ n11_ n12_; clear hb hbox hg; have hnb56 := NB314_304.out; have hnc56 := NB304_314.out; have hnb57 := NB314_309.out; have hnc57 := NB309_314.out; have hcz58_0 : w55.cell? ⟨gb314, 0, none⟩ = some (.int .i64 0) := (blk_cell BK314.out 0).trans rfl; have hcz58_1 : w55.cell? ⟨gb314, 1, none⟩ = some (.int .i64 0) := (blk_cell BK314.out 1).trans rfl; have hfz58_0 := blk_frozen BK314.out 0; have hfz58_1 := blk_frozen BK314.out 1))
                       have n0_ : Aside0 (Kd.Q (Kd.slice 3 (Kd.int .i64)) 22 ((w55.setCell ⟨gb314, 0, none⟩ (.int .i64 ((rd_T54 y310 x90_3).f0))).setCell ⟨gb314, 1, none⟩ (.int .i64 ((rd_T54 y310 x90_3).f1))) w.heap.size (fun _ => True) (.slice A22 y301.length c22) y301) := ⟨by (with_reducible repeat (first | apply Kd.Q_alloc | apply Kd.Q_drewN | apply Kd.Q_drew)); exact Kd.Q_mono (Kd.Q_far (p := ⟨gb314, 1, none⟩) (Kd.Q_far (p := ⟨gb314, 0, none⟩) (Kd.Q_types HO_9.out BK314.out (by decide)) (fun _ hk => hk.2) (.int .i64 ((rd_T54 y310 x90_3).f0))) (fun _ hk => hk.2) (.int .i64 ((rd_T54 y310 x90_3).f1))) (fun _ hk => trivial)⟩
                       have n1_ : Aside0 (Kd.R k54 54 ((w55.setCell ⟨gb314, 0, none⟩ (.int .i64 ((rd_T54 y310 x90_3).f0))).setCell ⟨gb314, 1, none⟩ (.int .i64 ((rd_T54 y310 x90_3).f1))) w.heap.size (fun k_ => some k_ ≠ (.slice (some ad313) y310.length co35 : Value).ownBlock ∧ k_ ≠ gb304 ∧ k_ ≠ gb309 ∧ k_ ≠ gb314) u12 x12_2) := ⟨by (with_reducible repeat (first | apply Kd.R_alloc | apply Kd.R_drewN | apply Kd.R_drew)); exact Kd.R_mono (Kd.R_far (p := ⟨gb314, 1, none⟩) (Kd.R_far (p := ⟨gb314, 0, none⟩) (Kd.R_mono HO_12.out (fun k_ hk => (⟨hk, hk.2⟩ : _ ∧ k_ ≠ gb314))) (fun _ hk => hk.2) (.int .i64 ((rd_T54 y310 x90_3).f0))) (fun _ hk => hk.2) (.int .i64 ((rd_T54 y310 x90_3).f1))) (fun _ hk => ⟨hk.1.1.1, ⟨hk.1.1.2.1, ⟨hk.1.1.2.2, hk.1.2⟩⟩⟩)⟩
                       have n2_ : Aside0 (Kd.R k54 54 ((w55.setCell ⟨gb314, 0, none⟩ (.int .i64 ((rd_T54 y310 x90_3).f0))).setCell ⟨gb314, 1, none⟩ (.int .i64 ((rd_T54 y310 x90_3).f1))) w.heap.size (fun k_ => some k_ ≠ (u12 : Value).ownBlock ∧ k_ ≠ gb304 ∧ k_ ≠ gb309 ∧ k_ ≠ gb314) (.slice (some ad313) y310.length co35) y310) := ⟨by (with_reducible repeat (first | apply Kd.R_alloc | apply Kd.R_drewN | apply Kd.R_drew)); exact Kd.R_mono (Kd.R_far (p := ⟨gb314, 1, none⟩) (Kd.R_far (p := ⟨gb314, 0, none⟩) (Kd.R_mono HO_88.out (fun k_ hk => (⟨hk, hk.2⟩ : _ ∧ k_ ≠ gb314))) (fun _ hk => hk.2) (.int .i64 ((rd_T54 y310 x90_3).f0))) (fun _ hk => hk.2) (.int .i64 ((rd_T54 y310 x90_3).f1))) (fun _ hk => ⟨hk.1.1.1, ⟨hk.1.1.2.1, ⟨hk.1.1.2.2, hk.1.2⟩⟩⟩)⟩
                       have n3_ : Aside0 (((w55.setCell ⟨gb314, 0, none⟩ (.int .i64 ((rd_T54 y310 x90_3).f0))).setCell ⟨gb314, 1, none⟩ (.int .i64 ((rd_T54 y310 x90_3).f1))).heap[gb304]? = some (.cells #[.int .i64 x305000_2, .int .i64 x305001_2] 54 (0, 0))) := ⟨by (with_reducible repeat (first | refine blk_drewN ?_ _ | refine blk_drew ?_ | refine blk_alloc ?_ _)); refine blk_far ?_ NB304_314.out _; (with_reducible repeat (first | refine blk_drewN ?_ _ | refine blk_drew ?_ | refine blk_alloc ?_ _)); refine blk_far ?_ NB304_314.out _; (with_reducible repeat (first | refine blk_drewN ?_ _ | refine blk_drew ?_ | refine blk_alloc ?_ _)); exact BK304.out⟩
                       have n4_ : Aside0 (((w55.setCell ⟨gb314, 0, none⟩ (.int .i64 ((rd_T54 y310 x90_3).f0))).setCell ⟨gb314, 1, none⟩ (.int .i64 ((rd_T54 y310 x90_3).f1))).heap[gb309]? = some (.cells #[.int .i64 x310000_3, .int .i64 x310001_3] 54 (0, 0))) := ⟨by (with_reducible repeat (first | refine blk_drewN ?_ _ | refine blk_drew ?_ | refine blk_alloc ?_ _)); refine blk_far ?_ NB309_314.out _; (with_reducible repeat (first | refine blk_drewN ?_ _ | refine blk_drew ?_ | refine blk_alloc ?_ _)); refine blk_far ?_ NB309_314.out _; (with_reducible repeat (first | refine blk_drewN ?_ _ | refine blk_drew ?_ | refine blk_alloc ?_ _)); exact BK309.out⟩
                       have n5_ : Aside0 (((w55.setCell ⟨gb314, 0, none⟩ (.int .i64 ((rd_T54 y310 x90_3).f0))).setCell ⟨gb314, 1, none⟩ (.int .i64 ((rd_T54 y310 x90_3).f1))).heap[gb314]? = some (.cells #[.int .i64 ((rd_T54 y310 x90_3).f0), .int .i64 ((rd_T54 y310 x90_3).f1)] 54 (0, 0))) := ⟨by (with_reducible repeat (first | refine blk_drewN ?_ _ | refine blk_drew ?_ | refine blk_alloc ?_ _)); refine blk_put (cs := #[.int .i64 ((rd_T54 y310 x90_3).f0), .int .i64 0]) ?_ 1 _ rfl; (with_reducible repeat (first | refine blk_drewN ?_ _ | refine blk_drew ?_ | refine blk_alloc ?_ _)); refine blk_put (cs := #[.int .i64 0, .int .i64 0]) ?_ 0 _ rfl; (with_reducible repeat (first | refine blk_drewN ?_ _ | refine blk_drew ?_ | refine blk_alloc ?_ _)); exact BK314.out⟩
                       have n6_ : Aside0 (Below w.heap.size w ((w55.setCell ⟨gb314, 0, none⟩ (.int .i64 ((rd_T54 y310 x90_3).f0))).setCell ⟨gb314, 1, none⟩ (.int .i64 ((rd_T54 y310 x90_3).f1)))) := ⟨by repeat (first | (with_reducible first | exact HB.out | apply below_alloc | apply pw_below_drewN | apply below_drew1 | refine below_set ?_ GE304.out | refine below_set ?_ GE309.out | refine below_set ?_ GE314.out) | exact HB.out)⟩
                       (try clear HO_9)
                       (try clear HO_12)
                       (try clear HO_88)
                       (try clear BK304)
                       (try clear BK309)
                       (try clear BK314)
                       (try clear HB)
                       generalize ((w55.setCell ⟨gb314, 0, none⟩ (.int .i64 ((rd_T54 y310 x90_3).f0))).setCell ⟨gb314, 1, none⟩ (.int .i64 ((rd_T54 y310 x90_3).f1))) = w59 at n0_ n1_ n2_ n3_ n4_ n5_ n6_ ⊢
                       have HO_9 := n0_
                       have HO_12 := n1_
                       have HO_88 := n2_
                       have BK304 := n3_
                       have BK309 := n4_
                       have BK314 := n5_
                       have HB := n6_
                       clear n0_ n1_ n2_ n3_ n4_ n5_ n6_
                       have n0_ := Aside0.mk (Kd.Q_drew HO_9.out)
                       have n1_ := Aside0.mk (Kd.R_drew HO_12.out)
                       have n2_ := Aside0.mk (Kd.R_drew HO_88.out)
                       have n3_ := Aside0.mk (blk_drew BK304.out)
                       have n4_ := Aside0.mk (blk_drew BK309.out)
                       have n5_ := Aside0.mk (blk_drew BK314.out)
                       have n6_ := Aside0.mk (below_drew1 HB.out)
                       clear HO_9
                       clear HO_12
                       clear HO_88
                       clear BK304
                       clear BK309
                       clear BK314
                       clear HB
                       have HO_9 := n0_
                       have HO_12 := n1_
                       have HO_88 := n2_
                       have BK304 := n3_
                       have BK309 := n4_
                       have BK314 := n5_
                       have HB := n6_
                       clear n0_ n1_ n2_ n3_ n4_ n5_ n6_
                       have p315 : 0 ≤ (((rd_T54 y310 x90_3).f0) : Int) := of_decide_eq_true (by first | (with_reducible assumption) | assumption)
                       have q315 : ((rd_T54 y310 x90_3).f0) < (y301.length : Int) := of_decide_eq_true (by first | (with_reducible assumption) | assumption)
                       obtain ⟨ad315, A315_0, c315_0, e315, hx315_0, hl315_0, hi315_0⟩ := at_L2 (Kd.Q_reads' HO_9.out).2.2 ((rd_T54 y310 x90_3).f0) p315 q315
                       cases e315
                       have HR315_0 := Aside0.mk hi315_0
                       have HC315_0 := Aside0.mk hl315_0
                       clear hi315_0 hl315_0
                       replace p315 := eq_true p315
                       replace q315 := eq_true q315
                       have p316 : 0 ≤ (((rd_T54 y310 x90_3).f1) : Int) := of_decide_eq_true (by first | (with_reducible assumption) | assumption)
                       have q316 : ((rd_T54 y310 x90_3).f1) < ((rd_L2 y301 ((rd_T54 y310 x90_3).f0)).length : Int) := of_decide_eq_true (by first | (with_reducible assumption) | assumption)
                       obtain ⟨ad316, e316, hx316_0⟩ := Kd.at_int (by repeat (first | (with_reducible exact HR315_0.out) | (with_reducible refine Kd.C_alloc ?_ _) | (with_reducible refine Kd.C_drewN ?_ _) | (with_reducible refine Kd.C_drew ?_) | exact HR315_0.out)) ((rd_T54 y310 x90_3).f1) p316 q316
                       cases e316
                       replace p316 := eq_true p316
                       replace q316 := eq_true q316
                       refine start_ (n := 21) (S := fun w' => w'.cell? ⟨gb314, 0, none⟩ = some (.int .i64 ((rd_T54 y310 x90_3).f0)) ∧ w'.cell? ⟨gb314, 1, none⟩ = some (.int .i64 ((rd_T54 y310 x90_3).f1)) ∧ w'.cell? (ad315.add (((rd_T54 y310 x90_3).f0)).toNat) = some (.slice (some ad316) (rd_L2 y301 ((rd_T54 y310 x90_3).f0)).length c315_0) ∧ w'.cell? (ad316.add (((rd_T54 y310 x90_3).f1)).toNat) = some (.int .i64 (rd (rd_L2 y301 ((rd_T54 y310 x90_3).f0)) ((rd_T54 y310 x90_3).f1)))) (ds := []) #[false,false,false,false,false,false,false,false,false,false,false,false,false,false,false,false,false,false,false,false,false] (by kernel_rfl) rfl rfl ⟨(blk_cell BK314.out 0).trans rfl, (blk_cell BK314.out 1).trans rfl, hx315_0, hx316_0⟩ (fun hHeld => ?_); refine with_tabW warp_Path.tab19 warp_Path.bits19 (fun HT_ HW_ => ?_)
                       generalize w59.drew = w60 at HO_9 HO_12 HO_88 BK304 BK309 BK314 HB HR315_0 hx315_0 hx316_0 hHeld ⊢
                       refine pure_ (i := 0) (N := some 94) (v := ?_) (a' := ?_) #[true,false,false,false,false,false,false,false,false,false,false,false,false,false,false,false,false,false,false,false,false] rfl rfl (any_of HT_.out (by kernel_rfl)) (fun _ _ _ h => h) (Or.inl ⟨by rfl, ?_⟩) ?_ ?_
                       rotate_left
                       ·intro w'
                        go_simp
                        with_reducible rfl
                       rotate_left
                       ·simp only [Act.put, List.setIfInBounds_toArray, List.set_cons_zero, List.set_cons_succ, i64_w, i32_w]
                        rfl
                       refine take_ (i := 1) (N := some 95) (v := ?_) (a' := ?_) #[true,true,false,false,false,false,false,false,false,false,false,false,false,false,false,false,false,false,false,false,false] rfl rfl (take_ofW HT_.out HW_.out (by kernel_rfl)) (fun _ _ _ h => h) (Or.inl ⟨by rfl, ?_⟩) hHeld ?_ ?_
                       rotate_left
                       ·rintro w' ⟨s0, s1, s2, s3⟩
                        go_simp
                        with_reducible rfl
                       rotate_left
                       ·simp only [Act.put, List.setIfInBounds_toArray, List.set_cons_zero, List.set_cons_succ, i64_w, i32_w]
                        rfl
                       refine pure_ (i := 2) (N := some 96) (v := ?_) (a' := ?_) #[true,true,true,false,false,false,false,false,false,false,false,false,false,false,false,false,false,false,false,false,false] rfl rfl (any_of HT_.out (by kernel_rfl)) (fun _ _ _ h => h) (Or.inl ⟨by rfl, ?_⟩) ?_ ?_
                       rotate_left
                       ·intro w'
                        go_simp
                        with_reducible rfl
                       rotate_left
                       ·simp only [Act.put, List.setIfInBounds_toArray, List.set_cons_zero, List.set_cons_succ, i64_w, i32_w]
                        rfl
                       refine pure_ (i := 3) (N := some 97) (v := ?_) (a' := ?_) #[true,true,true,true,false,false,false,false,false,false,false,false,false,false,false,false,false,false,false,false,false] rfl rfl (any_of HT_.out (by kernel_rfl)) (fun _ _ _ h => h) (Or.inl ⟨by rfl, ?_⟩) ?_ ?_
                       rotate_left
                       ·intro w'
                        go_simp
                        with_reducible rfl
                       rotate_left
                       ·simp only [Act.put, List.setIfInBounds_toArray, List.set_cons_zero, List.set_cons_succ, i64_w, i32_w]
                        rfl
                       refine pure_ (i := 4) (N := some 98) (v := ?_) (a' := ?_) #[true,true,true,true,true,false,false,false,false,false,false,false,false,false,false,false,false,false,false,false,false] rfl rfl (any_of HT_.out (by kernel_rfl)) (fun _ _ _ h => h) (Or.inl ⟨by rfl, ?_⟩) ?_ ?_
                       rotate_left
                       ·intro w'
                        go_simp
                        with_reducible rfl
                       rotate_left
                       ·simp only [Act.put, List.setIfInBounds_toArray, List.set_cons_zero, List.set_cons_succ, i64_w, i32_w]
                        rfl
                       refine take_ (i := 5) (N := some 99) (v := ?_) (a' := ?_) #[true,true,true,true,true,true,false,false,false,false,false,false,false,false,false,false,false,false,false,false,false] rfl rfl (take_ofW HT_.out HW_.out (by kernel_rfl)) (fun _ _ _ h => h) (Or.inl ⟨by rfl, ?_⟩) hHeld ?_ ?_
                       rotate_left
                       ·rintro w' ⟨s0, s1, s2, s3⟩
                        go_simp
                        with_reducible rfl
                       rotate_left
                       ·simp only [Act.put, List.setIfInBounds_toArray, List.set_cons_zero, List.set_cons_succ, i64_w, i32_w]
                        rfl
                       refine pure_ (i := 6) (N := some 100) (v := ?_) (a' := ?_) #[true,true,true,true,true,true,true,false,false,false,false,false,false,false,false,false,false,false,false,false,false] rfl rfl (any_of HT_.out (by kernel_rfl)) (fun _ _ _ h => h) (Or.inl ⟨by rfl, ?_⟩) ?_ ?_
                       rotate_left
                       ·intro w'
                        go_simp
                        with_reducible rfl
                       rotate_left
                       ·simp only [Act.put, List.setIfInBounds_toArray, List.set_cons_zero, List.set_cons_succ, i64_w, i32_w]
                        rfl
                       refine pure_ (i := 7) (N := some 101) (v := ?_) (a' := ?_) #[true,true,true,true,true,true,true,true,false,false,false,false,false,false,false,false,false,false,false,false,false] rfl rfl (any_of HT_.out (by kernel_rfl)) (fun _ _ _ h => h) (Or.inl ⟨by rfl, ?_⟩) ?_ ?_
                       rotate_left
                       ·intro w'
                        go_simp
                        with_reducible rfl
                       rotate_left
                       ·simp only [Act.put, List.setIfInBounds_toArray, List.set_cons_zero, List.set_cons_succ, i64_w, i32_w]
                        rfl
                       refine pure_ (i := 8) (N := some 102) (v := ?_) (a' := ?_) #[true,true,true,true,true,true,true,true,true,false,false,false,false,false,false,false,false,false,false,false,false] rfl rfl (any_of HT_.out (by kernel_rfl)) (fun _ _ _ h => h) (Or.inl ⟨by rfl, ?_⟩) ?_ ?_
                       rotate_left
                       ·intro w'
                        go_simp
                        with_reducible rfl
                       rotate_left
                       ·simp only [Act.put, List.setIfInBounds_toArray, List.set_cons_zero, List.set_cons_succ, i64_w, i32_w]
                        rfl
                       refine pure_ (i := 9) (N := some 103) (v := ?_) (a' := ?_) #[true,true,true,true,true,true,true,true,true,true,false,false,false,false,false,false,false,false,false,false,false] rfl rfl (any_of HT_.out (by kernel_rfl)) (fun _ _ _ h => h) (Or.inl ⟨by rfl, ?_⟩) ?_ ?_
                       rotate_left
                       ·intro w'
                        go_simp
                        with_reducible rfl
                       rotate_left
                       ·simp only [Act.put, List.setIfInBounds_toArray, List.set_cons_zero, List.set_cons_succ, i64_w, i32_w]
                        rfl
                       refine pure_ (i := 10) (N := some 104) (v := ?_) (a' := ?_) #[true,true,true,true,true,true,true,true,true,true,true,false,false,false,false,false,false,false,false,false,false] rfl rfl (any_of HT_.out (by kernel_rfl)) (fun _ _ _ h => h) (Or.inl ⟨by rfl, ?_⟩) ?_ ?_
                       rotate_left
                       ·intro w'
                        go_simp
                        with_reducible rfl
                       rotate_left
                       ·simp only [Act.put, List.setIfInBounds_toArray, List.set_cons_zero, List.set_cons_succ, i64_w, i32_w]
                        rfl
                       refine pure_ (i := 14) (N := some 108) (v := ?_) (a' := ?_) #[true,true,true,true,true,true,true,true,true,true,true,false,false,false,true,false,false,false,false,false,false] rfl rfl (any_of HT_.out (by kernel_rfl)) (fun _ _ _ h => h) (Or.inl ⟨by rfl, ?_⟩) ?_ ?_
                       rotate_left
                       ·intro w'
                        go_simp
                        with_reducible rfl
                       rotate_left
                       ·simp only [Act.put, List.setIfInBounds_toArray, List.set_cons_zero, List.set_cons_succ, i64_w, i32_w]
                        rfl
                       refine pure_ (i := 18) (N := some 112) (v := ?_) (a' := ?_) #[true,true,true,true,true,true,true,true,true,true,true,false,false,false,true,false,false,false,true,false,false] rfl rfl (any_of HT_.out (by kernel_rfl)) (fun _ _ _ h => h) (Or.inl ⟨by rfl, ?_⟩) ?_ ?_
                       rotate_left
                       ·intro w'
                        go_simp
                        with_reducible rfl
                       rotate_left
                       ·simp only [Act.put, List.setIfInBounds_toArray, List.set_cons_zero, List.set_cons_succ, i64_w, i32_w]
                        rfl
                       refine take_ (i := 11) (N := some 105) (v := ?_) (a' := ?_) #[true,true,true,true,true,true,true,true,true,true,true,true,false,false,true,false,false,false,true,false,false] rfl rfl (take_ofW HT_.out HW_.out (by kernel_rfl)) (fun _ _ _ h => h) (Or.inl ⟨by rfl, ?_⟩) hHeld ?_ ?_
                       rotate_left
                       ·rintro w' ⟨s0, s1, s2, s3⟩
                        go_simp
                        with_reducible rfl
                       rotate_left
                       ·simp only [Act.put, List.setIfInBounds_toArray, List.set_cons_zero, List.set_cons_succ, i64_w, i32_w]
                        rfl
                       refine pure_ (i := 12) (N := some 106) (v := ?_) (a' := ?_) #[true,true,true,true,true,true,true,true,true,true,true,true,true,false,true,false,false,false,true,false,false] rfl rfl (any_of HT_.out (by kernel_rfl)) (fun _ _ _ h => h) (Or.inl ⟨by rfl, ?_⟩) ?_ ?_
                       rotate_left
                       ·intro w'
                        go_simp
                        with_reducible rfl
                       rotate_left
                       ·simp only [Act.put, List.setIfInBounds_toArray, List.set_cons_zero, List.set_cons_succ, i64_w, i32_w]
                        rfl
                       refine take_ (i := 13) (N := some 107) (v := ?_) (a' := ?_) #[true,true,true,true,true,true,true,true,true,true,true,true,true,true,true,false,false,false,true,false,false] rfl rfl (take_ofW HT_.out HW_.out (by kernel_rfl)) (fun _ _ _ h => h) (Or.inl ⟨by rfl, ?_⟩) hHeld ?_ ?_
                       rotate_left
                       ·rintro w' ⟨s0, s1, s2, s3⟩
                        go_simp
                        with_reducible rfl
                       rotate_left
                       ·simp only [Act.put, List.setIfInBounds_toArray, List.set_cons_zero, List.set_cons_succ, i64_w, i32_w]
                        rfl
                       refine take_ (i := 15) (N := some 109) (v := ?_) (a' := ?_) #[true,true,true,true,true,true,true,true,true,true,true,true,true,true,true,true,false,false,true,false,false] rfl rfl (take_ofW HT_.out HW_.out (by kernel_rfl)) (fun _ _ _ h => h) (Or.inl ⟨by rfl, ?_⟩) hHeld ?_ ?_
                       rotate_left
                       ·rintro w' ⟨s0, s1, s2, s3⟩
                        go_simp
                        with_reducible rfl
                       rotate_left
                       ·simp only [Act.put, List.setIfInBounds_toArray, List.set_cons_zero, List.set_cons_succ, i64_w, i32_w]
                        rfl
                       refine pure_ (i := 16) (N := some 110) (v := ?_) (a' := ?_) #[true,true,true,true,true,true,true,true,true,true,true,true,true,true,true,true,true,false,true,false,false] rfl rfl (any_of HT_.out (by kernel_rfl)) (fun _ _ _ h => h) (Or.inl ⟨by rfl, ?_⟩) ?_ ?_
                       rotate_left
                       ·intro w'
                        go_simp
                        with_reducible rfl
                       rotate_left
                       ·simp only [Act.put, List.setIfInBounds_toArray, List.set_cons_zero, List.set_cons_succ, i64_w, i32_w]
                        rfl
                       refine take_ (i := 17) (N := some 111) (v := ?_) (a' := ?_) #[true,true,true,true,true,true,true,true,true,true,true,true,true,true,true,true,true,true,true,false,false] rfl rfl (take_ofW HT_.out HW_.out (by kernel_rfl)) (fun _ _ _ h => h) (Or.inl ⟨by rfl, ?_⟩) hHeld ?_ ?_
                       rotate_left
                       ·rintro w' ⟨s0, s1, s2, s3⟩
                        go_simp
                        with_reducible rfl
                       rotate_left
                       ·simp only [Act.put, List.setIfInBounds_toArray, List.set_cons_zero, List.set_cons_succ, i64_w, i32_w]
                        rfl
                       refine pure_ (i := 19) (N := some 113) (v := ?_) (a' := ?_) #[true,true,true,true,true,true,true,true,true,true,true,true,true,true,true,true,true,true,true,true,false] rfl rfl (any_of HT_.out (by kernel_rfl)) (fun _ _ _ h => h) (Or.inl ⟨by rfl, ?_⟩) ?_ ?_
                       rotate_left
                       ·intro w'
                        go_simp
                        with_reducible rfl
                       rotate_left
                       ·simp only [Act.put, List.setIfInBounds_toArray, List.set_cons_zero, List.set_cons_succ, i64_w, i32_w]
                        rfl
                       refine pure_ (i := 20) (N := some 114) (v := ?_) (a' := ?_) #[true,true,true,true,true,true,true,true,true,true,true,true,true,true,true,true,true,true,true,true,true] rfl rfl (any_of HT_.out (by kernel_rfl)) (fun _ _ _ h => h) (Or.inl ⟨by rfl, ?_⟩) ?_ ?_
                       rotate_left
                       ·intro w'
                        go_simp
                        with_reducible rfl
                       rotate_left
                       ·simp only [Act.put, List.setIfInBounds_toArray, List.set_cons_zero, List.set_cons_succ, i64_w, i32_w]
                        rfl
                       refine done_ (done_of HT_.out (by kernel_rfl)) ?_
                       try go_wp2
                       go_roundg k3
                       case measure => have := HK1.out; have := HK2.out; have := HK3.out; omega
                       case rel => exact ⟨(x14_3), (wrap64 (x90_3 + 1)), (x310000_3), (x310001_3), (by first | rfl | (simp; done) | (simp [*]; done)), (by first | rfl | (simp; done) | (simp [*]; done)), H', ⟨by have := HK1.out; have := HK2.out; have := HK3.out; omega⟩, ⟨by (with_reducible repeat (first | apply Kd.Q_alloc | apply Kd.Q_drewN | apply Kd.Q_drew)); exact HO_9.out⟩, ⟨by (with_reducible repeat (first | apply Kd.R_alloc | apply Kd.R_drewN | apply Kd.R_drew)); exact Kd.R_mono HO_12.out (fun _ hk => ⟨hk.1, ⟨hk.2.1, hk.2.2.1⟩⟩)⟩, ⟨by (with_reducible repeat (first | apply Kd.R_alloc | apply Kd.R_drewN | apply Kd.R_drew)); exact Kd.R_mono HO_88.out (fun _ hk => ⟨hk.1, ⟨hk.2.1, hk.2.2.1⟩⟩)⟩, ⟨by (with_reducible repeat (first | refine blk_drewN ?_ _ | refine blk_drew ?_ | refine blk_alloc ?_ _)); exact BK304.out⟩, ⟨by (with_reducible repeat (first | refine blk_drewN ?_ _ | refine blk_drew ?_ | refine blk_alloc ?_ _)); exact BK309.out⟩, ⟨by repeat (first | (with_reducible first | exact HB.out | apply below_alloc | apply pw_below_drewN | apply below_drew1 | refine below_set ?_ GE304.out | refine below_set ?_ GE309.out | refine below_set ?_ GE314.out) | exact HB.out)⟩⟩
                     ·rw [if_neg c44] at H
                      exact absurd H (by simp)
                    ·rw [if_neg c43] at H
                     exact absurd H (by simp)
                   ·rw [if_neg c42] at H
                    exact absurd H (by simp)
                  ·rw [if_neg c41] at H
                   exact absurd H (by simp)
                 ·rw [if_neg c40] at H
                  have c40b0 : decide (0 ≤ ((rd_T54 y310 x90_3).f1)) = false := decide_eq_false c40
                  clear c40
                  have H' := Aside0.mk H
                  clear H
                  have p313 : 0 ≤ (x90_3 : Int) := of_decide_eq_true (by first | (with_reducible assumption) | assumption)
                  have q313 : x90_3 < (y310.length : Int) := of_decide_eq_true (by first | (with_reducible assumption) | assumption)
                  obtain ⟨ad313, e313, hx313_0, hx313_1⟩ := at_T54 (Kd.R_reads' HO_88.out).2.2 x90_3 p313 q313
                  cases e313
                  replace p313 := eq_true p313
                  replace q313 := eq_true q313
                  try go_wp2_with (first | ((with_reducible refine gate_dst (N := 16) rfl ?_); refine box_event ?hg (N := 16) ?hd (cs := #[.int .i64 0, .int .i64 0]) (t := 54) ?hr ?_; (case hd => rfl); (case hg => rfl); (case hr => first | (go_simp; done) | (go_simp; rfl)); intro gb314 hg w61 hbox hb; have n0_ := Aside0.mk (Kd.Q_below (by (with_reducible repeat (first | apply Kd.Q_alloc | apply Kd.Q_drewN | apply Kd.Q_drew)); exact HO_9.out) hb); have n1_ := Aside0.mk (Kd.R_below (Kd.R_elderB (by (with_reducible repeat (first | apply Kd.R_alloc | apply Kd.R_drewN | apply Kd.R_drew)); exact HO_12.out) gb314 (Nat.le_of_eq hg.symm)) hb); have n2_ := Aside0.mk (Kd.R_below (Kd.R_elderB (by (with_reducible repeat (first | apply Kd.R_alloc | apply Kd.R_drewN | apply Kd.R_drew)); exact HO_88.out) gb314 (Nat.le_of_eq hg.symm)) hb); have n3_ := Aside0.mk (blk_below (g := gb304) (o := .cells #[.int .i64 x305000_2, .int .i64 x305001_2] 54 (0, 0)) (by (with_reducible repeat (first | refine blk_drewN ?_ _ | refine blk_drew ?_ | refine blk_alloc ?_ _)); exact BK304.out) hb); have n4_ := Aside0.mk (blk_below (g := gb309) (o := .cells #[.int .i64 x310000_3, .int .i64 x310001_3] 54 (0, 0)) (by (with_reducible repeat (first | refine blk_drewN ?_ _ | refine blk_drew ?_ | refine blk_alloc ?_ _)); exact BK309.out) hb); have n5_ := Aside0.mk (below_step (by repeat (first | (with_reducible first | exact HB.out | apply below_alloc | apply pw_below_drewN | apply below_drew1 | refine below_set ?_ GE304.out | refine below_set ?_ GE309.out) | exact HB.out)) hb); have n6_ := Aside0.mk (hbox); have n7_ := Aside0.mk ((by rw [hg]; exact (below_size (by repeat (first | (with_reducible first | exact HB.out | apply below_alloc | apply pw_below_drewN | apply below_drew1 | refine below_set ?_ GE304.out | refine below_set ?_ GE309.out) | exact HB.out))) : w.heap.size ≤ gb314)); have n8_ := Aside0.mk ((by rw [hg]; exact (below_size (by repeat (first | (with_reducible first | exact HB.out | apply below_alloc | apply pw_below_drewN | apply below_drew1 | refine below_set ?_ GE304.out | refine below_set ?_ GE309.out) | exact HB.out))) : w.heap.size ≤ gb314)); have n9_ := Aside0.mk ((by rw [hg]; exact Nat.ne_of_lt (blk_lt (g := gb304) (o := .cells #[.int .i64 x305000_2, .int .i64 x305001_2] 54 (0, 0)) (by (with_reducible repeat (first | refine blk_drewN ?_ _ | refine blk_drew ?_ | refine blk_alloc ?_ _)); exact BK304.out)) : gb304 ≠ gb314)); have n10_ := Aside0.mk ((by rw [hg]; exact Nat.ne_of_gt (blk_lt (g := gb304) (o := .cells #[.int .i64 x305000_2, .int .i64 x305001_2] 54 (0, 0)) (by (with_reducible repeat (first | refine blk_drewN ?_ _ | refine blk_drew ?_ | refine blk_alloc ?_ _)); exact BK304.out)) : gb314 ≠ gb304)); have n11_ := Aside0.mk ((by rw [hg]; exact Nat.ne_of_lt (blk_lt (g := gb309) (o := .cells #[.int .i64 x310000_3, .int .i64 x310001_3] 54 (0, 0)) (by (with_reducible repeat (first | refine blk_drewN ?_ _ | refine blk_drew ?_ | refine blk_alloc ?_ _)); exact BK309.out)) : gb309 ≠ gb314)); have n12_ := Aside0.mk ((by rw [hg]; exact Nat.ne_of_gt (blk_lt (g := gb309) (o := .cells #[.int .i64 x310000_3, .int .i64 x310001_3] 54 (0, 0)) (by (with_reducible repeat (first | refine blk_drewN ?_ _ | refine blk_drew ?_ | refine blk_alloc ?_ _)); exact BK309.out)) : gb314 ≠ gb309)); clear HO_9; clear HO_12; clear HO_88; clear BK304; clear BK309; clear HB; have HO_9 := n0_; have HO_12 := n1_; have HO_88 := n2_; have BK304 := n3_; have BK309 := n4_; have HB := n5_; have BK314 := n6_; have GW314 := n7_; have GE314 := n8_; have NB304_314 := n9_; have NB314_304 := n10_; have NB309_314 := n11_; have NB314_309 := n12_; clear n0_ n1_ n2_ n3_ n4_ n5_ n6_ n7_ n8_ n9_ n10_ n11_ n12_; clear hb hbox hg; have hnb62 := NB314_304.out; have hnc62 := NB304_314.out; have hnb63 := NB314_309.out; have hnc63 := NB309_314.out; have hcz64_0 : w61.cell? ⟨gb314, 0, none⟩ = some (.int .i64 0) := (blk_cell BK314.out 0).trans rfl; have hcz64_1 : w61.cell? ⟨gb314, 1, none⟩ = some (.int .i64 0) := (blk_cell BK314.out 1).trans rfl; have hfz64_0 := blk_frozen BK314.out 0; have hfz64_1 := blk_frozen BK314.out 1))
                  have n0_ : Aside0 (Kd.Q (Kd.slice 3 (Kd.int .i64)) 22 ((w61.setCell ⟨gb314, 0, none⟩ (.int .i64 ((rd_T54 y310 x90_3).f0))).setCell ⟨gb314, 1, none⟩ (.int .i64 ((rd_T54 y310 x90_3).f1))) w.heap.size (fun _ => True) (.slice A22 y301.length c22) y301) := ⟨by (with_reducible repeat (first | apply Kd.Q_alloc | apply Kd.Q_drewN | apply Kd.Q_drew)); exact Kd.Q_mono (Kd.Q_far (p := ⟨gb314, 1, none⟩) (Kd.Q_far (p := ⟨gb314, 0, none⟩) (Kd.Q_types HO_9.out BK314.out (by decide)) (fun _ hk => hk.2) (.int .i64 ((rd_T54 y310 x90_3).f0))) (fun _ hk => hk.2) (.int .i64 ((rd_T54 y310 x90_3).f1))) (fun _ hk => trivial)⟩
                  have n1_ : Aside0 (Kd.R k54 54 ((w61.setCell ⟨gb314, 0, none⟩ (.int .i64 ((rd_T54 y310 x90_3).f0))).setCell ⟨gb314, 1, none⟩ (.int .i64 ((rd_T54 y310 x90_3).f1))) w.heap.size (fun k_ => some k_ ≠ (.slice (some ad313) y310.length co35 : Value).ownBlock ∧ k_ ≠ gb304 ∧ k_ ≠ gb309 ∧ k_ ≠ gb314) u12 x12_2) := ⟨by (with_reducible repeat (first | apply Kd.R_alloc | apply Kd.R_drewN | apply Kd.R_drew)); exact Kd.R_mono (Kd.R_far (p := ⟨gb314, 1, none⟩) (Kd.R_far (p := ⟨gb314, 0, none⟩) (Kd.R_mono HO_12.out (fun k_ hk => (⟨hk, hk.2⟩ : _ ∧ k_ ≠ gb314))) (fun _ hk => hk.2) (.int .i64 ((rd_T54 y310 x90_3).f0))) (fun _ hk => hk.2) (.int .i64 ((rd_T54 y310 x90_3).f1))) (fun _ hk => ⟨hk.1.1.1, ⟨hk.1.1.2.1, ⟨hk.1.1.2.2, hk.1.2⟩⟩⟩)⟩
                  have n2_ : Aside0 (Kd.R k54 54 ((w61.setCell ⟨gb314, 0, none⟩ (.int .i64 ((rd_T54 y310 x90_3).f0))).setCell ⟨gb314, 1, none⟩ (.int .i64 ((rd_T54 y310 x90_3).f1))) w.heap.size (fun k_ => some k_ ≠ (u12 : Value).ownBlock ∧ k_ ≠ gb304 ∧ k_ ≠ gb309 ∧ k_ ≠ gb314) (.slice (some ad313) y310.length co35) y310) := ⟨by (with_reducible repeat (first | apply Kd.R_alloc | apply Kd.R_drewN | apply Kd.R_drew)); exact Kd.R_mono (Kd.R_far (p := ⟨gb314, 1, none⟩) (Kd.R_far (p := ⟨gb314, 0, none⟩) (Kd.R_mono HO_88.out (fun k_ hk => (⟨hk, hk.2⟩ : _ ∧ k_ ≠ gb314))) (fun _ hk => hk.2) (.int .i64 ((rd_T54 y310 x90_3).f0))) (fun _ hk => hk.2) (.int .i64 ((rd_T54 y310 x90_3).f1))) (fun _ hk => ⟨hk.1.1.1, ⟨hk.1.1.2.1, ⟨hk.1.1.2.2, hk.1.2⟩⟩⟩)⟩
                  have n3_ : Aside0 (((w61.setCell ⟨gb314, 0, none⟩ (.int .i64 ((rd_T54 y310 x90_3).f0))).setCell ⟨gb314, 1, none⟩ (.int .i64 ((rd_T54 y310 x90_3).f1))).heap[gb304]? = some (.cells #[.int .i64 x305000_2, .int .i64 x305001_2] 54 (0, 0))) := ⟨by (with_reducible repeat (first | refine blk_drewN ?_ _ | refine blk_drew ?_ | refine blk_alloc ?_ _)); refine blk_far ?_ NB304_314.out _; (with_reducible repeat (first | refine blk_drewN ?_ _ | refine blk_drew ?_ | refine blk_alloc ?_ _)); refine blk_far ?_ NB304_314.out _; (with_reducible repeat (first | refine blk_drewN ?_ _ | refine blk_drew ?_ | refine blk_alloc ?_ _)); exact BK304.out⟩
                  have n4_ : Aside0 (((w61.setCell ⟨gb314, 0, none⟩ (.int .i64 ((rd_T54 y310 x90_3).f0))).setCell ⟨gb314, 1, none⟩ (.int .i64 ((rd_T54 y310 x90_3).f1))).heap[gb309]? = some (.cells #[.int .i64 x310000_3, .int .i64 x310001_3] 54 (0, 0))) := ⟨by (with_reducible repeat (first | refine blk_drewN ?_ _ | refine blk_drew ?_ | refine blk_alloc ?_ _)); refine blk_far ?_ NB309_314.out _; (with_reducible repeat (first | refine blk_drewN ?_ _ | refine blk_drew ?_ | refine blk_alloc ?_ _)); refine blk_far ?_ NB309_314.out _; (with_reducible repeat (first | refine blk_drewN ?_ _ | refine blk_drew ?_ | refine blk_alloc ?_ _)); exact BK309.out⟩
                  have n5_ : Aside0 (((w61.setCell ⟨gb314, 0, none⟩ (.int .i64 ((rd_T54 y310 x90_3).f0))).setCell ⟨gb314, 1, none⟩ (.int .i64 ((rd_T54 y310 x90_3).f1))).heap[gb314]? = some (.cells #[.int .i64 ((rd_T54 y310 x90_3).f0), .int .i64 ((rd_T54 y310 x90_3).f1)] 54 (0, 0))) := ⟨by (with_reducible repeat (first | refine blk_drewN ?_ _ | refine blk_drew ?_ | refine blk_alloc ?_ _)); refine blk_put (cs := #[.int .i64 ((rd_T54 y310 x90_3).f0), .int .i64 0]) ?_ 1 _ rfl; (with_reducible repeat (first | refine blk_drewN ?_ _ | refine blk_drew ?_ | refine blk_alloc ?_ _)); refine blk_put (cs := #[.int .i64 0, .int .i64 0]) ?_ 0 _ rfl; (with_reducible repeat (first | refine blk_drewN ?_ _ | refine blk_drew ?_ | refine blk_alloc ?_ _)); exact BK314.out⟩
                  have n6_ : Aside0 (Below w.heap.size w ((w61.setCell ⟨gb314, 0, none⟩ (.int .i64 ((rd_T54 y310 x90_3).f0))).setCell ⟨gb314, 1, none⟩ (.int .i64 ((rd_T54 y310 x90_3).f1)))) := ⟨by repeat (first | (with_reducible first | exact HB.out | apply below_alloc | apply pw_below_drewN | apply below_drew1 | refine below_set ?_ GE304.out | refine below_set ?_ GE309.out | refine below_set ?_ GE314.out) | exact HB.out)⟩
                  (try clear HO_9)
                  (try clear HO_12)
                  (try clear HO_88)
                  (try clear BK304)
                  (try clear BK309)
                  (try clear BK314)
                  (try clear HB)
                  generalize ((w61.setCell ⟨gb314, 0, none⟩ (.int .i64 ((rd_T54 y310 x90_3).f0))).setCell ⟨gb314, 1, none⟩ (.int .i64 ((rd_T54 y310 x90_3).f1))) = w65 at n0_ n1_ n2_ n3_ n4_ n5_ n6_ ⊢
                  have HO_9 := n0_
                  have HO_12 := n1_
                  have HO_88 := n2_
                  have BK304 := n3_
                  have BK309 := n4_
                  have BK314 := n5_
                  have HB := n6_
                  clear n0_ n1_ n2_ n3_ n4_ n5_ n6_
                  have n0_ := Aside0.mk (Kd.Q_drew HO_9.out)
                  have n1_ := Aside0.mk (Kd.R_drew HO_12.out)
                  have n2_ := Aside0.mk (Kd.R_drew HO_88.out)
                  have n3_ := Aside0.mk (blk_drew BK304.out)
                  have n4_ := Aside0.mk (blk_drew BK309.out)
                  have n5_ := Aside0.mk (blk_drew BK314.out)
                  have n6_ := Aside0.mk (below_drew1 HB.out)
                  clear HO_9
                  clear HO_12
                  clear HO_88
                  clear BK304
                  clear BK309
                  clear BK314
                  clear HB
                  have HO_9 := n0_
                  have HO_12 := n1_
                  have HO_88 := n2_
                  have BK304 := n3_
                  have BK309 := n4_
                  have BK314 := n5_
                  have HB := n6_
                  clear n0_ n1_ n2_ n3_ n4_ n5_ n6_
                  refine start_ (n := 21) (S := fun w' => w'.cell? ⟨gb314, 0, none⟩ = some (.int .i64 ((rd_T54 y310 x90_3).f0)) ∧ w'.cell? ⟨gb314, 1, none⟩ = some (.int .i64 ((rd_T54 y310 x90_3).f1))) (ds := []) #[false,false,false,false,false,false,false,false,false,false,false,false,false,false,false,false,false,false,false,false,false] (by kernel_rfl) rfl rfl ⟨(blk_cell BK314.out 0).trans rfl, (blk_cell BK314.out 1).trans rfl⟩ (fun hHeld => ?_); refine with_tabW warp_Path.tab19 warp_Path.bits19 (fun HT_ HW_ => ?_)
                  generalize w65.drew = w66 at HO_9 HO_12 HO_88 BK304 BK309 BK314 HB hHeld ⊢
                  refine pure_ (i := 0) (N := some 94) (v := ?_) (a' := ?_) #[true,false,false,false,false,false,false,false,false,false,false,false,false,false,false,false,false,false,false,false,false] rfl rfl (any_of HT_.out (by kernel_rfl)) (fun _ _ _ h => h) (Or.inl ⟨by rfl, ?_⟩) ?_ ?_
                  rotate_left
                  ·intro w'
                   go_simp
                   with_reducible rfl
                  rotate_left
                  ·simp only [Act.put, List.setIfInBounds_toArray, List.set_cons_zero, List.set_cons_succ, i64_w, i32_w]
                   rfl
                  refine take_ (i := 1) (N := some 95) (v := ?_) (a' := ?_) #[true,true,false,false,false,false,false,false,false,false,false,false,false,false,false,false,false,false,false,false,false] rfl rfl (take_ofW HT_.out HW_.out (by kernel_rfl)) (fun _ _ _ h => h) (Or.inl ⟨by rfl, ?_⟩) hHeld ?_ ?_
                  rotate_left
                  ·rintro w' ⟨s0, s1⟩
                   go_simp
                   with_reducible rfl
                  rotate_left
                  ·simp only [Act.put, List.setIfInBounds_toArray, List.set_cons_zero, List.set_cons_succ, i64_w, i32_w]
                   rfl
                  refine pure_ (i := 2) (N := some 96) (v := ?_) (a' := ?_) #[true,true,true,false,false,false,false,false,false,false,false,false,false,false,false,false,false,false,false,false,false] rfl rfl (any_of HT_.out (by kernel_rfl)) (fun _ _ _ h => h) (Or.inl ⟨by rfl, ?_⟩) ?_ ?_
                  rotate_left
                  ·intro w'
                   go_simp
                   with_reducible rfl
                  rotate_left
                  ·simp only [Act.put, List.setIfInBounds_toArray, List.set_cons_zero, List.set_cons_succ, i64_w, i32_w]
                   rfl
                  refine pure_ (i := 3) (N := some 97) (v := ?_) (a' := ?_) #[true,true,true,true,false,false,false,false,false,false,false,false,false,false,false,false,false,false,false,false,false] rfl rfl (any_of HT_.out (by kernel_rfl)) (fun _ _ _ h => h) (Or.inl ⟨by rfl, ?_⟩) ?_ ?_
                  rotate_left
                  ·intro w'
                   go_simp
                   with_reducible rfl
                  rotate_left
                  ·simp only [Act.put, List.setIfInBounds_toArray, List.set_cons_zero, List.set_cons_succ, i64_w, i32_w]
                   rfl
                  refine pure_ (i := 4) (N := some 98) (v := ?_) (a' := ?_) #[true,true,true,true,true,false,false,false,false,false,false,false,false,false,false,false,false,false,false,false,false] rfl rfl (any_of HT_.out (by kernel_rfl)) (fun _ _ _ h => h) (Or.inl ⟨by rfl, ?_⟩) ?_ ?_
                  rotate_left
                  ·intro w'
                   go_simp
                   with_reducible rfl
                  rotate_left
                  ·simp only [Act.put, List.setIfInBounds_toArray, List.set_cons_zero, List.set_cons_succ, i64_w, i32_w]
                   rfl
                  refine take_ (i := 5) (N := some 99) (v := ?_) (a' := ?_) #[true,true,true,true,true,true,false,false,false,false,false,false,false,false,false,false,false,false,false,false,false] rfl rfl (take_ofW HT_.out HW_.out (by kernel_rfl)) (fun _ _ _ h => h) (Or.inl ⟨by rfl, ?_⟩) hHeld ?_ ?_
                  rotate_left
                  ·rintro w' ⟨s0, s1⟩
                   go_simp
                   with_reducible rfl
                  rotate_left
                  ·simp only [Act.put, List.setIfInBounds_toArray, List.set_cons_zero, List.set_cons_succ, i64_w, i32_w]
                   rfl
                  refine pure_ (i := 6) (N := some 100) (v := ?_) (a' := ?_) #[true,true,true,true,true,true,true,false,false,false,false,false,false,false,false,false,false,false,false,false,false] rfl rfl (any_of HT_.out (by kernel_rfl)) (fun _ _ _ h => h) (Or.inl ⟨by rfl, ?_⟩) ?_ ?_
                  rotate_left
                  ·intro w'
                   go_simp
                   with_reducible rfl
                  rotate_left
                  ·simp only [Act.put, List.setIfInBounds_toArray, List.set_cons_zero, List.set_cons_succ, i64_w, i32_w]
                   rfl
                  refine pure_ (i := 7) (N := some 101) (v := ?_) (a' := ?_) #[true,true,true,true,true,true,true,true,false,false,false,false,false,false,false,false,false,false,false,false,false] rfl rfl (any_of HT_.out (by kernel_rfl)) (fun _ _ _ h => h) (Or.inl ⟨by rfl, ?_⟩) ?_ ?_
                  rotate_left
                  ·intro w'
                   go_simp
                   with_reducible rfl
                  rotate_left
                  ·simp only [Act.put, List.setIfInBounds_toArray, List.set_cons_zero, List.set_cons_succ, i64_w, i32_w]
                   rfl
                  refine pure_ (i := 8) (N := some 102) (v := ?_) (a' := ?_) #[true,true,true,true,true,true,true,true,true,false,false,false,false,false,false,false,false,false,false,false,false] rfl rfl (any_of HT_.out (by kernel_rfl)) (fun _ _ _ h => h) (Or.inl ⟨by rfl, ?_⟩) ?_ ?_
                  rotate_left
                  ·intro w'
                   go_simp
                   with_reducible rfl
                  rotate_left
                  ·simp only [Act.put, List.setIfInBounds_toArray, List.set_cons_zero, List.set_cons_succ, i64_w, i32_w]
                   rfl
                  refine pure_ (i := 9) (N := some 103) (v := undef) (a' := ?_) #[true,true,true,true,true,true,true,true,true,true,false,false,false,false,false,false,false,false,false,false,false] rfl rfl (any_of HT_.out (by kernel_rfl)) (fun _ _ _ h => h) (Or.inr ⟨by rfl, rfl⟩) ?_ ?_
                  rotate_left
                  ·simp only [Act.put, List.setIfInBounds_toArray, List.set_cons_zero, List.set_cons_succ, i64_w, i32_w]
                   rfl
                  refine pure_ (i := 10) (N := some 104) (v := undef) (a' := ?_) #[true,true,true,true,true,true,true,true,true,true,true,false,false,false,false,false,false,false,false,false,false] rfl rfl (any_of HT_.out (by kernel_rfl)) (fun _ _ _ h => h) (Or.inr ⟨by rfl, rfl⟩) ?_ ?_
                  rotate_left
                  ·simp only [Act.put, List.setIfInBounds_toArray, List.set_cons_zero, List.set_cons_succ, i64_w, i32_w]
                   rfl
                  refine pure_ (i := 11) (N := some 105) (v := undef) (a' := ?_) #[true,true,true,true,true,true,true,true,true,true,true,true,false,false,false,false,false,false,false,false,false] rfl rfl (any_of HT_.out (by kernel_rfl)) (fun _ _ _ h => h) (Or.inr ⟨by rfl, rfl⟩) ?_ ?_
                  rotate_left
                  ·simp only [Act.put, List.setIfInBounds_toArray, List.set_cons_zero, List.set_cons_succ, i64_w, i32_w]
                   rfl
                  refine pure_ (i := 12) (N := some 106) (v := undef) (a' := ?_) #[true,true,true,true,true,true,true,true,true,true,true,true,true,false,false,false,false,false,false,false,false] rfl rfl (any_of HT_.out (by kernel_rfl)) (fun _ _ _ h => h) (Or.inr ⟨by rfl, rfl⟩) ?_ ?_
                  rotate_left
                  ·simp only [Act.put, List.setIfInBounds_toArray, List.set_cons_zero, List.set_cons_succ, i64_w, i32_w]
                   rfl
                  refine pure_ (i := 13) (N := some 107) (v := undef) (a' := ?_) #[true,true,true,true,true,true,true,true,true,true,true,true,true,true,false,false,false,false,false,false,false] rfl rfl (any_of HT_.out (by kernel_rfl)) (fun _ _ _ h => h) (Or.inr ⟨by rfl, rfl⟩) ?_ ?_
                  rotate_left
                  ·simp only [Act.put, List.setIfInBounds_toArray, List.set_cons_zero, List.set_cons_succ, i64_w, i32_w]
                   rfl
                  refine pure_ (i := 14) (N := some 108) (v := undef) (a' := ?_) #[true,true,true,true,true,true,true,true,true,true,true,true,true,true,true,false,false,false,false,false,false] rfl rfl (any_of HT_.out (by kernel_rfl)) (fun _ _ _ h => h) (Or.inr ⟨by rfl, rfl⟩) ?_ ?_
                  rotate_left
                  ·simp only [Act.put, List.setIfInBounds_toArray, List.set_cons_zero, List.set_cons_succ, i64_w, i32_w]
                   rfl
                  refine pure_ (i := 15) (N := some 109) (v := undef) (a' := ?_) #[true,true,true,true,true,true,true,true,true,true,true,true,true,true,true,true,false,false,false,false,false] rfl rfl (any_of HT_.out (by kernel_rfl)) (fun _ _ _ h => h) (Or.inr ⟨by rfl, rfl⟩) ?_ ?_
                  rotate_left
                  ·simp only [Act.put, List.setIfInBounds_toArray, List.set_cons_zero, List.set_cons_succ, i64_w, i32_w]
                   rfl
                  refine pure_ (i := 16) (N := some 110) (v := undef) (a' := ?_) #[true,true,true,true,true,true,true,true,true,true,true,true,true,true,true,true,true,false,false,false,false] rfl rfl (any_of HT_.out (by kernel_rfl)) (fun _ _ _ h => h) (Or.inr ⟨by rfl, rfl⟩) ?_ ?_
                  rotate_left
                  ·simp only [Act.put, List.setIfInBounds_toArray, List.set_cons_zero, List.set_cons_succ, i64_w, i32_w]
                   rfl
                  refine pure_ (i := 17) (N := some 111) (v := undef) (a' := ?_) #[true,true,true,true,true,true,true,true,true,true,true,true,true,true,true,true,true,true,false,false,false] rfl rfl (any_of HT_.out (by kernel_rfl)) (fun _ _ _ h => h) (Or.inr ⟨by rfl, rfl⟩) ?_ ?_
                  rotate_left
                  ·simp only [Act.put, List.setIfInBounds_toArray, List.set_cons_zero, List.set_cons_succ, i64_w, i32_w]
                   rfl
                  refine pure_ (i := 18) (N := some 112) (v := undef) (a' := ?_) #[true,true,true,true,true,true,true,true,true,true,true,true,true,true,true,true,true,true,true,false,false] rfl rfl (any_of HT_.out (by kernel_rfl)) (fun _ _ _ h => h) (Or.inr ⟨by rfl, rfl⟩) ?_ ?_
                  rotate_left
                  ·simp only [Act.put, List.setIfInBounds_toArray, List.set_cons_zero, List.set_cons_succ, i64_w, i32_w]
                   rfl
                  refine pure_ (i := 19) (N := some 113) (v := undef) (a' := ?_) #[true,true,true,true,true,true,true,true,true,true,true,true,true,true,true,true,true,true,true,true,false] rfl rfl (any_of HT_.out (by kernel_rfl)) (fun _ _ _ h => h) (Or.inr ⟨by rfl, rfl⟩) ?_ ?_
                  rotate_left
                  ·simp only [Act.put, List.setIfInBounds_toArray, List.set_cons_zero, List.set_cons_succ, i64_w, i32_w]
                   rfl
                  refine pure_ (i := 20) (N := some 114) (v := ?_) (a' := ?_) #[true,true,true,true,true,true,true,true,true,true,true,true,true,true,true,true,true,true,true,true,true] rfl rfl (any_of HT_.out (by kernel_rfl)) (fun _ _ _ h => h) (Or.inl ⟨by rfl, ?_⟩) ?_ ?_
                  rotate_left
                  ·intro w'
                   go_simp
                   with_reducible rfl
                  rotate_left
                  ·simp only [Act.put, List.setIfInBounds_toArray, List.set_cons_zero, List.set_cons_succ, i64_w, i32_w]
                   rfl
                  refine done_ (done_of HT_.out (by kernel_rfl)) ?_
                  try go_wp2
                  go_roundg k3
                  case measure => have := HK1.out; have := HK2.out; have := HK3.out; omega
                  case rel => exact ⟨(x14_3), (wrap64 (x90_3 + 1)), (x310000_3), (x310001_3), (by first | rfl | (simp; done) | (simp [*]; done)), (by first | rfl | (simp; done) | (simp [*]; done)), H', ⟨by have := HK1.out; have := HK2.out; have := HK3.out; omega⟩, ⟨by (with_reducible repeat (first | apply Kd.Q_alloc | apply Kd.Q_drewN | apply Kd.Q_drew)); exact HO_9.out⟩, ⟨by (with_reducible repeat (first | apply Kd.R_alloc | apply Kd.R_drewN | apply Kd.R_drew)); exact Kd.R_mono HO_12.out (fun _ hk => ⟨hk.1, ⟨hk.2.1, hk.2.2.1⟩⟩)⟩, ⟨by (with_reducible repeat (first | apply Kd.R_alloc | apply Kd.R_drewN | apply Kd.R_drew)); exact Kd.R_mono HO_88.out (fun _ hk => ⟨hk.1, ⟨hk.2.1, hk.2.2.1⟩⟩)⟩, ⟨by (with_reducible repeat (first | refine blk_drewN ?_ _ | refine blk_drew ?_ | refine blk_alloc ?_ _)); exact BK304.out⟩, ⟨by (with_reducible repeat (first | refine blk_drewN ?_ _ | refine blk_drew ?_ | refine blk_alloc ?_ _)); exact BK309.out⟩, ⟨by repeat (first | (with_reducible first | exact HB.out | apply below_alloc | apply pw_below_drewN | apply below_drew1 | refine below_set ?_ GE304.out | refine below_set ?_ GE309.out | refine below_set ?_ GE314.out) | exact HB.out)⟩⟩
                ·rw [if_neg c39] at H
                 have c39b0 : decide (0 ≤ ((rd_T54 y310 x90_3).f0)) = false := decide_eq_false c39
                 clear c39
                 have H' := Aside0.mk H
                 clear H
                 have p313 : 0 ≤ (x90_3 : Int) := of_decide_eq_true (by first | (with_reducible assumption) | assumption)
                 have q313 : x90_3 < (y310.length : Int) := of_decide_eq_true (by first | (with_reducible assumption) | assumption)
                 obtain ⟨ad313, e313, hx313_0, hx313_1⟩ := at_T54 (Kd.R_reads' HO_88.out).2.2 x90_3 p313 q313
                 cases e313
                 replace p313 := eq_true p313
                 replace q313 := eq_true q313
                 try go_wp2_with (first | ((with_reducible refine gate_dst (N := 16) rfl ?_); refine box_event ?hg (N := 16) ?hd (cs := #[.int .i64 0, .int .i64 0]) (t := 54) ?hr ?_; (case hd => rfl); (case hg => rfl); (case hr => first | (go_simp; done) | (go_simp; rfl)); intro gb314 hg w67 hbox hb; have n0_ := Aside0.mk (Kd.Q_below (by (with_reducible repeat (first | apply Kd.Q_alloc | apply Kd.Q_drewN | apply Kd.Q_drew)); exact HO_9.out) hb); have n1_ := Aside0.mk (Kd.R_below (Kd.R_elderB (by (with_reducible repeat (first | apply Kd.R_alloc | apply Kd.R_drewN | apply Kd.R_drew)); exact HO_12.out) gb314 (Nat.le_of_eq hg.symm)) hb); have n2_ := Aside0.mk (Kd.R_below (Kd.R_elderB (by (with_reducible repeat (first | apply Kd.R_alloc | apply Kd.R_drewN | apply Kd.R_drew)); exact HO_88.out) gb314 (Nat.le_of_eq hg.symm)) hb); have n3_ := Aside0.mk (blk_below (g := gb304) (o := .cells #[.int .i64 x305000_2, .int .i64 x305001_2] 54 (0, 0)) (by (with_reducible repeat (first | refine blk_drewN ?_ _ | refine blk_drew ?_ | refine blk_alloc ?_ _)); exact BK304.out) hb); have n4_ := Aside0.mk (blk_below (g := gb309) (o := .cells #[.int .i64 x310000_3, .int .i64 x310001_3] 54 (0, 0)) (by (with_reducible repeat (first | refine blk_drewN ?_ _ | refine blk_drew ?_ | refine blk_alloc ?_ _)); exact BK309.out) hb); have n5_ := Aside0.mk (below_step (by repeat (first | (with_reducible first | exact HB.out | apply below_alloc | apply pw_below_drewN | apply below_drew1 | refine below_set ?_ GE304.out | refine below_set ?_ GE309.out) | exact HB.out)) hb); have n6_ := Aside0.mk (hbox); have n7_ := Aside0.mk ((by rw [hg]; exact (below_size (by repeat (first | (with_reducible first | exact HB.out | apply below_alloc | apply pw_below_drewN | apply below_drew1 | refine below_set ?_ GE304.out | refine below_set ?_ GE309.out) | exact HB.out))) : w.heap.size ≤ gb314)); have n8_ := Aside0.mk ((by rw [hg]; exact (below_size (by repeat (first | (with_reducible first | exact HB.out | apply below_alloc | apply pw_below_drewN | apply below_drew1 | refine below_set ?_ GE304.out | refine below_set ?_ GE309.out) | exact HB.out))) : w.heap.size ≤ gb314)); have n9_ := Aside0.mk ((by rw [hg]; exact Nat.ne_of_lt (blk_lt (g := gb304) (o := .cells #[.int .i64 x305000_2, .int .i64 x305001_2] 54 (0, 0)) (by (with_reducible repeat (first | refine blk_drewN ?_ _ | refine blk_drew ?_ | refine blk_alloc ?_ _)); exact BK304.out)) : gb304 ≠ gb314)); have n10_ := Aside0.mk ((by rw [hg]; exact Nat.ne_of_gt (blk_lt (g := gb304) (o := .cells #[.int .i64 x305000_2, .int .i64 x305001_2] 54 (0, 0)) (by (with_reducible repeat (first | refine blk_drewN ?_ _ | refine blk_drew ?_ | refine blk_alloc ?_ _)); exact BK304.out)) : gb314 ≠ gb304)); have n11_ := Aside0.mk ((by rw [hg]; exact Nat.ne_of_lt (blk_lt (g := gb309) (o := .cells #[.int .i64 x310000_3, .int .i64 x310001_3] 54 (0, 0)) (by (with_reducible repeat (first | refine blk_drewN ?_ _ | refine blk_drew ?_ | refine blk_alloc ?_ _)); exact BK309.out)) : gb309 ≠ gb314)); have n12_ := Aside0.mk ((by rw [hg]; exact Nat.ne_of_gt (blk_lt (g := gb309) (o := .cells #[.int .i64 x310000_3, .int .i64 x310001_3] 54 (0, 0)) (by (with_reducible repeat (first | refine blk_drewN ?_ _ | refine blk_drew ?_ | refine blk_alloc ?_ _)); exact BK309.out)) : gb314 ≠ gb309)); clear HO_9; clear HO_12; clear HO_88; clear BK304; clear BK309; clear HB; have HO_9 := n0_; have HO_12 := n1_; have HO_88 := n2_; have BK304 := n3_; have BK309 := n4_; have HB := n5_; have BK314 := n6_; have GW314 := n7_; have GE314 := n8_; have NB304_314 := n9_; have NB314_304 := n10_; have NB309_314 := n11_; have NB314_309 := n12_; clear n0_ n1_ n2_ n3_ n4_ n5_ n6_ n7_ n8_ n9_ n10_ n11_ n12_; clear hb hbox hg; have hnb68 := NB314_304.out; have hnc68 := NB304_314.out; have hnb69 := NB314_309.out; have hnc69 := NB309_314.out; have hcz70_0 : w67.cell? ⟨gb314, 0, none⟩ = some (.int .i64 0) := (blk_cell BK314.out 0).trans rfl; have hcz70_1 : w67.cell? ⟨gb314, 1, none⟩ = some (.int .i64 0) := (blk_cell BK314.out 1).trans rfl; have hfz70_0 := blk_frozen BK314.out 0; have hfz70_1 := blk_frozen BK314.out 1))
                 have n0_ : Aside0 (Kd.Q (Kd.slice 3 (Kd.int .i64)) 22 ((w67.setCell ⟨gb314, 0, none⟩ (.int .i64 ((rd_T54 y310 x90_3).f0))).setCell ⟨gb314, 1, none⟩ (.int .i64 ((rd_T54 y310 x90_3).f1))) w.heap.size (fun _ => True) (.slice A22 y301.length c22) y301) := ⟨by (with_reducible repeat (first | apply Kd.Q_alloc | apply Kd.Q_drewN | apply Kd.Q_drew)); exact Kd.Q_mono (Kd.Q_far (p := ⟨gb314, 1, none⟩) (Kd.Q_far (p := ⟨gb314, 0, none⟩) (Kd.Q_types HO_9.out BK314.out (by decide)) (fun _ hk => hk.2) (.int .i64 ((rd_T54 y310 x90_3).f0))) (fun _ hk => hk.2) (.int .i64 ((rd_T54 y310 x90_3).f1))) (fun _ hk => trivial)⟩
                 have n1_ : Aside0 (Kd.R k54 54 ((w67.setCell ⟨gb314, 0, none⟩ (.int .i64 ((rd_T54 y310 x90_3).f0))).setCell ⟨gb314, 1, none⟩ (.int .i64 ((rd_T54 y310 x90_3).f1))) w.heap.size (fun k_ => some k_ ≠ (.slice (some ad313) y310.length co35 : Value).ownBlock ∧ k_ ≠ gb304 ∧ k_ ≠ gb309 ∧ k_ ≠ gb314) u12 x12_2) := ⟨by (with_reducible repeat (first | apply Kd.R_alloc | apply Kd.R_drewN | apply Kd.R_drew)); exact Kd.R_mono (Kd.R_far (p := ⟨gb314, 1, none⟩) (Kd.R_far (p := ⟨gb314, 0, none⟩) (Kd.R_mono HO_12.out (fun k_ hk => (⟨hk, hk.2⟩ : _ ∧ k_ ≠ gb314))) (fun _ hk => hk.2) (.int .i64 ((rd_T54 y310 x90_3).f0))) (fun _ hk => hk.2) (.int .i64 ((rd_T54 y310 x90_3).f1))) (fun _ hk => ⟨hk.1.1.1, ⟨hk.1.1.2.1, ⟨hk.1.1.2.2, hk.1.2⟩⟩⟩)⟩
                 have n2_ : Aside0 (Kd.R k54 54 ((w67.setCell ⟨gb314, 0, none⟩ (.int .i64 ((rd_T54 y310 x90_3).f0))).setCell ⟨gb314, 1, none⟩ (.int .i64 ((rd_T54 y310 x90_3).f1))) w.heap.size (fun k_ => some k_ ≠ (u12 : Value).ownBlock ∧ k_ ≠ gb304 ∧ k_ ≠ gb309 ∧ k_ ≠ gb314) (.slice (some ad313) y310.length co35) y310) := ⟨by (with_reducible repeat (first | apply Kd.R_alloc | apply Kd.R_drewN | apply Kd.R_drew)); exact Kd.R_mono (Kd.R_far (p := ⟨gb314, 1, none⟩) (Kd.R_far (p := ⟨gb314, 0, none⟩) (Kd.R_mono HO_88.out (fun k_ hk => (⟨hk, hk.2⟩ : _ ∧ k_ ≠ gb314))) (fun _ hk => hk.2) (.int .i64 ((rd_T54 y310 x90_3).f0))) (fun _ hk => hk.2) (.int .i64 ((rd_T54 y310 x90_3).f1))) (fun _ hk => ⟨hk.1.1.1, ⟨hk.1.1.2.1, ⟨hk.1.1.2.2, hk.1.2⟩⟩⟩)⟩
                 have n3_ : Aside0 (((w67.setCell ⟨gb314, 0, none⟩ (.int .i64 ((rd_T54 y310 x90_3).f0))).setCell ⟨gb314, 1, none⟩ (.int .i64 ((rd_T54 y310 x90_3).f1))).heap[gb304]? = some (.cells #[.int .i64 x305000_2, .int .i64 x305001_2] 54 (0, 0))) := ⟨by (with_reducible repeat (first | refine blk_drewN ?_ _ | refine blk_drew ?_ | refine blk_alloc ?_ _)); refine blk_far ?_ NB304_314.out _; (with_reducible repeat (first | refine blk_drewN ?_ _ | refine blk_drew ?_ | refine blk_alloc ?_ _)); refine blk_far ?_ NB304_314.out _; (with_reducible repeat (first | refine blk_drewN ?_ _ | refine blk_drew ?_ | refine blk_alloc ?_ _)); exact BK304.out⟩
                 have n4_ : Aside0 (((w67.setCell ⟨gb314, 0, none⟩ (.int .i64 ((rd_T54 y310 x90_3).f0))).setCell ⟨gb314, 1, none⟩ (.int .i64 ((rd_T54 y310 x90_3).f1))).heap[gb309]? = some (.cells #[.int .i64 x310000_3, .int .i64 x310001_3] 54 (0, 0))) := ⟨by (with_reducible repeat (first | refine blk_drewN ?_ _ | refine blk_drew ?_ | refine blk_alloc ?_ _)); refine blk_far ?_ NB309_314.out _; (with_reducible repeat (first | refine blk_drewN ?_ _ | refine blk_drew ?_ | refine blk_alloc ?_ _)); refine blk_far ?_ NB309_314.out _; (with_reducible repeat (first | refine blk_drewN ?_ _ | refine blk_drew ?_ | refine blk_alloc ?_ _)); exact BK309.out⟩
                 have n5_ : Aside0 (((w67.setCell ⟨gb314, 0, none⟩ (.int .i64 ((rd_T54 y310 x90_3).f0))).setCell ⟨gb314, 1, none⟩ (.int .i64 ((rd_T54 y310 x90_3).f1))).heap[gb314]? = some (.cells #[.int .i64 ((rd_T54 y310 x90_3).f0), .int .i64 ((rd_T54 y310 x90_3).f1)] 54 (0, 0))) := ⟨by (with_reducible repeat (first | refine blk_drewN ?_ _ | refine blk_drew ?_ | refine blk_alloc ?_ _)); refine blk_put (cs := #[.int .i64 ((rd_T54 y310 x90_3).f0), .int .i64 0]) ?_ 1 _ rfl; (with_reducible repeat (first | refine blk_drewN ?_ _ | refine blk_drew ?_ | refine blk_alloc ?_ _)); refine blk_put (cs := #[.int .i64 0, .int .i64 0]) ?_ 0 _ rfl; (with_reducible repeat (first | refine blk_drewN ?_ _ | refine blk_drew ?_ | refine blk_alloc ?_ _)); exact BK314.out⟩
                 have n6_ : Aside0 (Below w.heap.size w ((w67.setCell ⟨gb314, 0, none⟩ (.int .i64 ((rd_T54 y310 x90_3).f0))).setCell ⟨gb314, 1, none⟩ (.int .i64 ((rd_T54 y310 x90_3).f1)))) := ⟨by repeat (first | (with_reducible first | exact HB.out | apply below_alloc | apply pw_below_drewN | apply below_drew1 | refine below_set ?_ GE304.out | refine below_set ?_ GE309.out | refine below_set ?_ GE314.out) | exact HB.out)⟩
                 (try clear HO_9)
                 (try clear HO_12)
                 (try clear HO_88)
                 (try clear BK304)
                 (try clear BK309)
                 (try clear BK314)
                 (try clear HB)
                 generalize ((w67.setCell ⟨gb314, 0, none⟩ (.int .i64 ((rd_T54 y310 x90_3).f0))).setCell ⟨gb314, 1, none⟩ (.int .i64 ((rd_T54 y310 x90_3).f1))) = w71 at n0_ n1_ n2_ n3_ n4_ n5_ n6_ ⊢
                 have HO_9 := n0_
                 have HO_12 := n1_
                 have HO_88 := n2_
                 have BK304 := n3_
                 have BK309 := n4_
                 have BK314 := n5_
                 have HB := n6_
                 clear n0_ n1_ n2_ n3_ n4_ n5_ n6_
                 have n0_ := Aside0.mk (Kd.Q_drew HO_9.out)
                 have n1_ := Aside0.mk (Kd.R_drew HO_12.out)
                 have n2_ := Aside0.mk (Kd.R_drew HO_88.out)
                 have n3_ := Aside0.mk (blk_drew BK304.out)
                 have n4_ := Aside0.mk (blk_drew BK309.out)
                 have n5_ := Aside0.mk (blk_drew BK314.out)
                 have n6_ := Aside0.mk (below_drew1 HB.out)
                 clear HO_9
                 clear HO_12
                 clear HO_88
                 clear BK304
                 clear BK309
                 clear BK314
                 clear HB
                 have HO_9 := n0_
                 have HO_12 := n1_
                 have HO_88 := n2_
                 have BK304 := n3_
                 have BK309 := n4_
                 have BK314 := n5_
                 have HB := n6_
                 clear n0_ n1_ n2_ n3_ n4_ n5_ n6_
                 refine start_ (n := 21) (S := fun w' => w'.cell? ⟨gb314, 0, none⟩ = some (.int .i64 ((rd_T54 y310 x90_3).f0)) ∧ w'.cell? ⟨gb314, 1, none⟩ = some (.int .i64 ((rd_T54 y310 x90_3).f1))) (ds := []) #[false,false,false,false,false,false,false,false,false,false,false,false,false,false,false,false,false,false,false,false,false] (by kernel_rfl) rfl rfl ⟨(blk_cell BK314.out 0).trans rfl, (blk_cell BK314.out 1).trans rfl⟩ (fun hHeld => ?_); refine with_tabW warp_Path.tab19 warp_Path.bits19 (fun HT_ HW_ => ?_)
                 generalize w71.drew = w72 at HO_9 HO_12 HO_88 BK304 BK309 BK314 HB hHeld ⊢
                 refine pure_ (i := 0) (N := some 94) (v := ?_) (a' := ?_) #[true,false,false,false,false,false,false,false,false,false,false,false,false,false,false,false,false,false,false,false,false] rfl rfl (any_of HT_.out (by kernel_rfl)) (fun _ _ _ h => h) (Or.inl ⟨by rfl, ?_⟩) ?_ ?_
                 rotate_left
                 ·intro w'
                  go_simp
                  with_reducible rfl
                 rotate_left
                 ·simp only [Act.put, List.setIfInBounds_toArray, List.set_cons_zero, List.set_cons_succ, i64_w, i32_w]
                  rfl
                 refine take_ (i := 1) (N := some 95) (v := ?_) (a' := ?_) #[true,true,false,false,false,false,false,false,false,false,false,false,false,false,false,false,false,false,false,false,false] rfl rfl (take_ofW HT_.out HW_.out (by kernel_rfl)) (fun _ _ _ h => h) (Or.inl ⟨by rfl, ?_⟩) hHeld ?_ ?_
                 rotate_left
                 ·rintro w' ⟨s0, s1⟩
                  go_simp
                  with_reducible rfl
                 rotate_left
                 ·simp only [Act.put, List.setIfInBounds_toArray, List.set_cons_zero, List.set_cons_succ, i64_w, i32_w]
                  rfl
                 refine pure_ (i := 2) (N := some 96) (v := ?_) (a' := ?_) #[true,true,true,false,false,false,false,false,false,false,false,false,false,false,false,false,false,false,false,false,false] rfl rfl (any_of HT_.out (by kernel_rfl)) (fun _ _ _ h => h) (Or.inl ⟨by rfl, ?_⟩) ?_ ?_
                 rotate_left
                 ·intro w'
                  go_simp
                  with_reducible rfl
                 rotate_left
                 ·simp only [Act.put, List.setIfInBounds_toArray, List.set_cons_zero, List.set_cons_succ, i64_w, i32_w]
                  rfl
                 refine pure_ (i := 3) (N := some 97) (v := ?_) (a' := ?_) #[true,true,true,true,false,false,false,false,false,false,false,false,false,false,false,false,false,false,false,false,false] rfl rfl (any_of HT_.out (by kernel_rfl)) (fun _ _ _ h => h) (Or.inl ⟨by rfl, ?_⟩) ?_ ?_
                 rotate_left
                 ·intro w'
                  go_simp
                  with_reducible rfl
                 rotate_left
                 ·simp only [Act.put, List.setIfInBounds_toArray, List.set_cons_zero, List.set_cons_succ, i64_w, i32_w]
                  rfl
                 refine pure_ (i := 4) (N := some 98) (v := undef) (a' := ?_) #[true,true,true,true,true,false,false,false,false,false,false,false,false,false,false,false,false,false,false,false,false] rfl rfl (any_of HT_.out (by kernel_rfl)) (fun _ _ _ h => h) (Or.inr ⟨by rfl, rfl⟩) ?_ ?_
                 rotate_left
                 ·simp only [Act.put, List.setIfInBounds_toArray, List.set_cons_zero, List.set_cons_succ, i64_w, i32_w]
                  rfl
                 refine pure_ (i := 5) (N := some 99) (v := undef) (a' := ?_) #[true,true,true,true,true,true,false,false,false,false,false,false,false,false,false,false,false,false,false,false,false] rfl rfl (any_of HT_.out (by kernel_rfl)) (fun _ _ _ h => h) (Or.inr ⟨by rfl, rfl⟩) ?_ ?_
                 rotate_left
                 ·simp only [Act.put, List.setIfInBounds_toArray, List.set_cons_zero, List.set_cons_succ, i64_w, i32_w]
                  rfl
                 refine pure_ (i := 6) (N := some 100) (v := undef) (a' := ?_) #[true,true,true,true,true,true,true,false,false,false,false,false,false,false,false,false,false,false,false,false,false] rfl rfl (any_of HT_.out (by kernel_rfl)) (fun _ _ _ h => h) (Or.inr ⟨by rfl, rfl⟩) ?_ ?_
                 rotate_left
                 ·simp only [Act.put, List.setIfInBounds_toArray, List.set_cons_zero, List.set_cons_succ, i64_w, i32_w]
                  rfl
                 refine pure_ (i := 7) (N := some 101) (v := ?_) (a' := ?_) #[true,true,true,true,true,true,true,true,false,false,false,false,false,false,false,false,false,false,false,false,false] rfl rfl (any_of HT_.out (by kernel_rfl)) (fun _ _ _ h => h) (Or.inl ⟨by rfl, ?_⟩) ?_ ?_
                 rotate_left
                 ·intro w'
                  go_simp
                  with_reducible rfl
                 rotate_left
                 ·simp only [Act.put, List.setIfInBounds_toArray, List.set_cons_zero, List.set_cons_succ, i64_w, i32_w]
                  rfl
                 refine pure_ (i := 8) (N := some 102) (v := ?_) (a' := ?_) #[true,true,true,true,true,true,true,true,true,false,false,false,false,false,false,false,false,false,false,false,false] rfl rfl (any_of HT_.out (by kernel_rfl)) (fun _ _ _ h => h) (Or.inl ⟨by rfl, ?_⟩) ?_ ?_
                 rotate_left
                 ·intro w'
                  go_simp
                  with_reducible rfl
                 rotate_left
                 ·simp only [Act.put, List.setIfInBounds_toArray, List.set_cons_zero, List.set_cons_succ, i64_w, i32_w]
                  rfl
                 refine pure_ (i := 9) (N := some 103) (v := undef) (a' := ?_) #[true,true,true,true,true,true,true,true,true,true,false,false,false,false,false,false,false,false,false,false,false] rfl rfl (any_of HT_.out (by kernel_rfl)) (fun _ _ _ h => h) (Or.inr ⟨by rfl, rfl⟩) ?_ ?_
                 rotate_left
                 ·simp only [Act.put, List.setIfInBounds_toArray, List.set_cons_zero, List.set_cons_succ, i64_w, i32_w]
                  rfl
                 refine pure_ (i := 10) (N := some 104) (v := undef) (a' := ?_) #[true,true,true,true,true,true,true,true,true,true,true,false,false,false,false,false,false,false,false,false,false] rfl rfl (any_of HT_.out (by kernel_rfl)) (fun _ _ _ h => h) (Or.inr ⟨by rfl, rfl⟩) ?_ ?_
                 rotate_left
                 ·simp only [Act.put, List.setIfInBounds_toArray, List.set_cons_zero, List.set_cons_succ, i64_w, i32_w]
                  rfl
                 refine pure_ (i := 11) (N := some 105) (v := undef) (a' := ?_) #[true,true,true,true,true,true,true,true,true,true,true,true,false,false,false,false,false,false,false,false,false] rfl rfl (any_of HT_.out (by kernel_rfl)) (fun _ _ _ h => h) (Or.inr ⟨by rfl, rfl⟩) ?_ ?_
                 rotate_left
                 ·simp only [Act.put, List.setIfInBounds_toArray, List.set_cons_zero, List.set_cons_succ, i64_w, i32_w]
                  rfl
                 refine pure_ (i := 12) (N := some 106) (v := undef) (a' := ?_) #[true,true,true,true,true,true,true,true,true,true,true,true,true,false,false,false,false,false,false,false,false] rfl rfl (any_of HT_.out (by kernel_rfl)) (fun _ _ _ h => h) (Or.inr ⟨by rfl, rfl⟩) ?_ ?_
                 rotate_left
                 ·simp only [Act.put, List.setIfInBounds_toArray, List.set_cons_zero, List.set_cons_succ, i64_w, i32_w]
                  rfl
                 refine pure_ (i := 13) (N := some 107) (v := undef) (a' := ?_) #[true,true,true,true,true,true,true,true,true,true,true,true,true,true,false,false,false,false,false,false,false] rfl rfl (any_of HT_.out (by kernel_rfl)) (fun _ _ _ h => h) (Or.inr ⟨by rfl, rfl⟩) ?_ ?_
                 rotate_left
                 ·simp only [Act.put, List.setIfInBounds_toArray, List.set_cons_zero, List.set_cons_succ, i64_w, i32_w]
                  rfl
                 refine pure_ (i := 14) (N := some 108) (v := undef) (a' := ?_) #[true,true,true,true,true,true,true,true,true,true,true,true,true,true,true,false,false,false,false,false,false] rfl rfl (any_of HT_.out (by kernel_rfl)) (fun _ _ _ h => h) (Or.inr ⟨by rfl, rfl⟩) ?_ ?_
                 rotate_left
                 ·simp only [Act.put, List.setIfInBounds_toArray, List.set_cons_zero, List.set_cons_succ, i64_w, i32_w]
                  rfl
                 refine pure_ (i := 15) (N := some 109) (v := undef) (a' := ?_) #[true,true,true,true,true,true,true,true,true,true,true,true,true,true,true,true,false,false,false,false,false] rfl rfl (any_of HT_.out (by kernel_rfl)) (fun _ _ _ h => h) (Or.inr ⟨by rfl, rfl⟩) ?_ ?_
                 rotate_left
                 ·simp only [Act.put, List.setIfInBounds_toArray, List.set_cons_zero, List.set_cons_succ, i64_w, i32_w]
                  rfl
                 refine pure_ (i := 16) (N := some 110) (v := undef) (a' := ?_) #[true,true,true,true,true,true,true,true,true,true,true,true,true,true,true,true,true,false,false,false,false] rfl rfl (any_of HT_.out (by kernel_rfl)) (fun _ _ _ h => h) (Or.inr ⟨by rfl, rfl⟩) ?_ ?_
                 rotate_left
                 ·simp only [Act.put, List.setIfInBounds_toArray, List.set_cons_zero, List.set_cons_succ, i64_w, i32_w]
                  rfl
                 refine pure_ (i := 17) (N := some 111) (v := undef) (a' := ?_) #[true,true,true,true,true,true,true,true,true,true,true,true,true,true,true,true,true,true,false,false,false] rfl rfl (any_of HT_.out (by kernel_rfl)) (fun _ _ _ h => h) (Or.inr ⟨by rfl, rfl⟩) ?_ ?_
                 rotate_left
                 ·simp only [Act.put, List.setIfInBounds_toArray, List.set_cons_zero, List.set_cons_succ, i64_w, i32_w]
                  rfl
                 refine pure_ (i := 18) (N := some 112) (v := undef) (a' := ?_) #[true,true,true,true,true,true,true,true,true,true,true,true,true,true,true,true,true,true,true,false,false] rfl rfl (any_of HT_.out (by kernel_rfl)) (fun _ _ _ h => h) (Or.inr ⟨by rfl, rfl⟩) ?_ ?_
                 rotate_left
                 ·simp only [Act.put, List.setIfInBounds_toArray, List.set_cons_zero, List.set_cons_succ, i64_w, i32_w]
                  rfl
                 refine pure_ (i := 19) (N := some 113) (v := undef) (a' := ?_) #[true,true,true,true,true,true,true,true,true,true,true,true,true,true,true,true,true,true,true,true,false] rfl rfl (any_of HT_.out (by kernel_rfl)) (fun _ _ _ h => h) (Or.inr ⟨by rfl, rfl⟩) ?_ ?_
                 rotate_left
                 ·simp only [Act.put, List.setIfInBounds_toArray, List.set_cons_zero, List.set_cons_succ, i64_w, i32_w]
                  rfl
                 refine pure_ (i := 20) (N := some 114) (v := ?_) (a' := ?_) #[true,true,true,true,true,true,true,true,true,true,true,true,true,true,true,true,true,true,true,true,true] rfl rfl (any_of HT_.out (by kernel_rfl)) (fun _ _ _ h => h) (Or.inl ⟨by rfl, ?_⟩) ?_ ?_
                 rotate_left
                 ·intro w'
                  go_simp
                  with_reducible rfl
                 rotate_left
                 ·simp only [Act.put, List.setIfInBounds_toArray, List.set_cons_zero, List.set_cons_succ, i64_w, i32_w]
                  rfl
                 refine done_ (done_of HT_.out (by kernel_rfl)) ?_
                 try go_wp2
                 go_roundg k3
                 case measure => have := HK1.out; have := HK2.out; have := HK3.out; omega
                 case rel => exact ⟨(x14_3), (wrap64 (x90_3 + 1)), (x310000_3), (x310001_3), (by first | rfl | (simp; done) | (simp [*]; done)), (by first | rfl | (simp; done) | (simp [*]; done)), H', ⟨by have := HK1.out; have := HK2.out; have := HK3.out; omega⟩, ⟨by (with_reducible repeat (first | apply Kd.Q_alloc | apply Kd.Q_drewN | apply Kd.Q_drew)); exact HO_9.out⟩, ⟨by (with_reducible repeat (first | apply Kd.R_alloc | apply Kd.R_drewN | apply Kd.R_drew)); exact Kd.R_mono HO_12.out (fun _ hk => ⟨hk.1, ⟨hk.2.1, hk.2.2.1⟩⟩)⟩, ⟨by (with_reducible repeat (first | apply Kd.R_alloc | apply Kd.R_drewN | apply Kd.R_drew)); exact Kd.R_mono HO_88.out (fun _ hk => ⟨hk.1, ⟨hk.2.1, hk.2.2.1⟩⟩)⟩, ⟨by (with_reducible repeat (first | refine blk_drewN ?_ _ | refine blk_drew ?_ | refine blk_alloc ?_ _)); exact BK304.out⟩, ⟨by (with_reducible repeat (first | refine blk_drewN ?_ _ | refine blk_drew ?_ | refine blk_alloc ?_ _)); exact BK309.out⟩, ⟨by repeat (first | (with_reducible first | exact HB.out | apply below_alloc | apply pw_below_drewN | apply below_drew1 | refine below_set ?_ GE304.out | refine below_set ?_ GE309.out | refine below_set ?_ GE314.out) | exact HB.out)⟩⟩
               ·rw [if_neg c38] at H
                exact absurd H (by simp)
              ·rw [if_neg c37] at H
               exact absurd H (by simp)
             ·rw [if_neg c36] at H
              have c36b0 : decide (x90_3 < (y310.length : Int)) = false := decide_eq_false c36
              clear c36
              by_cases c73 : x12_2.length < 8796093022208
              ·rw [if_pos c73] at H
               have LMc73 := Aside0.mk c73
               clear c73
               obtain ⟨y319, hy319⟩ : ∃ y_ : List (S54), y_ = (x12_2 ++ [(⟨x310000_3, x310001_3⟩ : S54)]) := ⟨_, rfl⟩
               replace H : (warp_Path.l1 k3 y301 y319 x310000_3 x310001_3) = some (r1, r2) := by first | (rw [hy319]; with_reducible exact H) | (have H2_ := (Option.bind_some _ _).symm.trans H; rw [hy319]; with_reducible exact H2_) | (have H2_ := (Option.bind_some _ _).symm.trans H; with_reducible exact H2_) | with_reducible exact H | (rw [hy319]; exact H) | exact H
               have Ny319 := Aside0.mk hy319
               clear hy319
               have H' := Aside0.mk H
               clear H
               have hnb74 := NB309_304.out
               have hnc74 := NB304_309.out
               have hcz75_0 : wr.cell? ⟨gb309, 0, none⟩ = some (.int .i64 x310000_3) := (blk_cell BK309.out 0).trans rfl
               have hcz75_1 : wr.cell? ⟨gb309, 1, none⟩ = some (.int .i64 x310001_3) := (blk_cell BK309.out 1).trans rfl
               have hfz75_0 := blk_frozen BK309.out 0
               have hfz75_1 := blk_frozen BK309.out 1
               have hcz76_0 : wr.cell? ⟨gb304, 0, none⟩ = some (.int .i64 x305000_2) := (blk_cell BK304.out 0).trans rfl
               have hcz76_1 : wr.cell? ⟨gb304, 1, none⟩ = some (.int .i64 x305001_2) := (blk_cell BK304.out 1).trans rfl
               have hfz76_0 := blk_frozen BK304.out 0
               have hfz76_1 := blk_frozen BK304.out 1
               go_wp2_with (first | ((with_reducible refine gate_builtin (b := .append) (xs := #[.tmp 127, .tmp 129]) rfl ?_); at_builtin; refine Kd.R_append k54 (w0 := w) w.heap.size rfl (.tmp 127) (.tmp 129) 41 54 (.agg #[(.int .i64 0), (.int .i64 0)]) 16 rfl Try.underlying41 info54 rfl (by decide) (by omega) u12 x12_2 (⟨x310000_3, x310001_3⟩ : S54) [.int .i64 x310000_3, .int .i64 x310001_3] (fun k_ => some k_ ≠ (.slice Ao35 y310.length co35 : Value).ownBlock ∧ k_ ≠ gb304 ∧ k_ ≠ gb309) (fun _ => False) rfl (by first | (go_simp; done) | (go_simp; rfl)) ?aP (fun _ hk => hk.elim) ?aF ?aO ?aB ?aS ?aL ?_; (case aP => exact k54_mkM _ _ _ (⟨x310000_3, x310001_3⟩ : S54)); (case aB => exact (by repeat (first | (with_reducible first | exact HB.out | apply below_alloc | apply pw_below_drewN | apply below_drew1 | refine below_set ?_ GE304.out | refine below_set ?_ GE309.out) | exact HB.out))); (case aF => exact (fun k_ hk => ⟨Kd.fresh' (Kd.R_lt (by (with_reducible repeat (first | apply Kd.R_alloc | apply Kd.R_drewN | apply Kd.R_drew)); exact (Kd.R_mono (Kd.R_far (p := ⟨gb304, 1, none⟩) (Kd.R_far (p := ⟨gb304, 0, none⟩) (Kd.R_mono HO_88.out (fun k_ hk => (⟨hk, hk.2.1⟩ : _ ∧ k_ ≠ gb304))) (fun _ hk => hk.2) (.int .i64 x310000_3)) (fun _ hk => hk.2) (.int .i64 x310001_3)) (fun _ h_ => h_.1)))) k_ hk, Kd.freshB (g := gb304) (o := .cells #[.int .i64 x310000_3, .int .i64 x310001_3] 54 (0, 0)) (by (with_reducible repeat (first | refine blk_drewN ?_ _ | refine blk_drew ?_ | refine blk_alloc ?_ _)); refine blk_put (cs := #[.int .i64 x310000_3, .int .i64 x305001_2]) ?_ 1 _ rfl; (with_reducible repeat (first | refine blk_drewN ?_ _ | refine blk_drew ?_ | refine blk_alloc ?_ _)); refine blk_put (cs := #[.int .i64 x305000_2, .int .i64 x305001_2]) ?_ 0 _ rfl; (with_reducible repeat (first | refine blk_drewN ?_ _ | refine blk_drew ?_ | refine blk_alloc ?_ _)); exact BK304.out) k_ hk, Kd.freshB (g := gb309) (o := .cells #[.int .i64 x310000_3, .int .i64 x310001_3] 54 (0, 0)) (by (with_reducible repeat (first | refine blk_drewN ?_ _ | refine blk_drew ?_ | refine blk_alloc ?_ _)); refine blk_far ?_ NB309_304.out _; (with_reducible repeat (first | refine blk_drewN ?_ _ | refine blk_drew ?_ | refine blk_alloc ?_ _)); refine blk_far ?_ NB309_304.out _; (with_reducible repeat (first | refine blk_drewN ?_ _ | refine blk_drew ?_ | refine blk_alloc ?_ _)); exact BK309.out) k_ hk⟩)); (case aO => exact (by (with_reducible repeat (first | apply Kd.R_alloc | apply Kd.R_drewN | apply Kd.R_drew)); exact Kd.R_mono (Kd.R_far (p := ⟨gb304, 1, none⟩) (Kd.R_far (p := ⟨gb304, 0, none⟩) (Kd.R_mono HO_12.out (fun k_ hk => (⟨hk, hk.2.1⟩ : _ ∧ k_ ≠ gb304))) (fun _ hk => hk.2) (.int .i64 x310000_3)) (fun _ hk => hk.2) (.int .i64 x310001_3)) (fun _ hk => ⟨hk.1.1, ⟨hk.1.2.1, hk.1.2.2⟩⟩))); (case aS => exact (below_size (by repeat (first | (with_reducible first | exact HB.out | apply below_alloc | apply pw_below_drewN | apply below_drew1 | refine below_set ?_ GE304.out | refine below_set ?_ GE309.out) | exact HB.out)))); (case aL => have := LMc73.out; omega); intro v320 w77 ho hb hg hat; rw [← Ny319.out] at ho; have n0_ := Aside0.mk (Kd.Q_over' (by (with_reducible repeat (first | apply Kd.Q_alloc | apply Kd.Q_drewN | apply Kd.Q_drew)); exact (Kd.Q_mono (Kd.Q_far (p := ⟨gb304, 1, none⟩) (Kd.Q_far (p := ⟨gb304, 0, none⟩) (Kd.Q_types HO_9.out BK304.out (by decide)) (fun _ hk => hk.2) (.int .i64 x310000_3)) (fun _ hk => hk.2) (.int .i64 x310001_3)) (fun _ h_ => h_.1))) (Kd.R_typed (by (with_reducible repeat (first | apply Kd.R_alloc | apply Kd.R_drewN | apply Kd.R_drew)); exact (Kd.R_mono (Kd.R_far (p := ⟨gb304, 1, none⟩) (Kd.R_far (p := ⟨gb304, 0, none⟩) (Kd.R_mono HO_12.out (fun k_ hk => (⟨hk, hk.2.1⟩ : _ ∧ k_ ≠ gb304))) (fun _ hk => hk.2) (.int .i64 x310000_3)) (fun _ hk => hk.2) (.int .i64 x310001_3)) (fun _ h_ => h_.1)))) (by decide) hg); have n1_ := Aside0.mk (Kd.R_after (ok := (fun k_ => k_ ≠ gb304 ∧ k_ ≠ gb309)) (by (with_reducible repeat (first | apply Kd.R_alloc | apply Kd.R_drewN | apply Kd.R_drew)); exact Kd.R_mono (Kd.R_far (p := ⟨gb304, 1, none⟩) (Kd.R_far (p := ⟨gb304, 0, none⟩) (Kd.R_mono HO_88.out (fun k_ hk => (⟨hk, hk.2.1⟩ : _ ∧ k_ ≠ gb304))) (fun _ hk => hk.2) (.int .i64 x310000_3)) (fun _ hk => hk.2) (.int .i64 x310001_3)) (fun _ hk => ⟨⟨hk.1.2.1, hk.1.2.2⟩, hk.1.1⟩)) hg hat); have n2_ := Aside0.mk (blk_grown (g := gb304) (o := .cells #[.int .i64 x310000_3, .int .i64 x310001_3] 54 (0, 0)) (by (with_reducible repeat (first | refine blk_drewN ?_ _ | refine blk_drew ?_ | refine blk_alloc ?_ _)); refine blk_put (cs := #[.int .i64 x310000_3, .int .i64 x305001_2]) ?_ 1 _ rfl; (with_reducible repeat (first | refine blk_drewN ?_ _ | refine blk_drew ?_ | refine blk_alloc ?_ _)); refine blk_put (cs := #[.int .i64 x305000_2, .int .i64 x305001_2]) ?_ 0 _ rfl; (with_reducible repeat (first | refine blk_drewN ?_ _ | refine blk_drew ?_ | refine blk_alloc ?_ _)); exact BK304.out) hg (Kd.R_away HO_12.out (fun _ hk => hk.2.1))); have n3_ := Aside0.mk (blk_grown (g := gb309) (o := .cells #[.int .i64 x310000_3, .int .i64 x310001_3] 54 (0, 0)) (by (with_reducible repeat (first | refine blk_drewN ?_ _ | refine blk_drew ?_ | refine blk_alloc ?_ _)); refine blk_far ?_ NB309_304.out _; (with_reducible repeat (first | refine blk_drewN ?_ _ | refine blk_drew ?_ | refine blk_alloc ?_ _)); refine blk_far ?_ NB309_304.out _; (with_reducible repeat (first | refine blk_drewN ?_ _ | refine blk_drew ?_ | refine blk_alloc ?_ _)); exact BK309.out) hg (Kd.R_away HO_12.out (fun _ hk => hk.2.2))); have n4_ := Aside0.mk (hb); have n5_ := Aside0.mk (ho); clear HO_9; clear HO_88; clear BK304; clear BK309; clear HB; clear HO_12; have HO_9 := n0_; have HO_88 := n1_; have BK304 := n2_; have BK309 := n3_; have HB := n4_; have HO321 := n5_; clear n0_ n1_ n2_ n3_ n4_ n5_; clear ho hb hg hat))
               go_roundg k3
               case measure => have := HK1.out; have := HK2.out; have := HK3.out; omega
               case rel => exact ⟨(y319), (x310000_3), (x310001_3), H', ⟨by have := HK1.out; have := HK2.out; have := HK3.out; omega⟩, ⟨by (with_reducible repeat (first | apply Kd.Q_alloc | apply Kd.Q_drewN | apply Kd.Q_drew)); exact HO_9.out⟩, ⟨by (with_reducible repeat (first | apply Kd.R_alloc | apply Kd.R_drewN | apply Kd.R_drew)); exact Kd.R_mono HO321.out (fun _ hk => hk.2.1)⟩, ⟨by (with_reducible repeat (first | refine blk_drewN ?_ _ | refine blk_drew ?_ | refine blk_alloc ?_ _)); exact BK304.out⟩, ⟨by repeat (first | (with_reducible first | exact HB.out | apply below_alloc | apply pw_below_drewN | apply below_drew1 | refine below_set ?_ GE304.out | refine below_set ?_ GE309.out) | exact HB.out)⟩⟩
              ·rw [if_neg c73] at H
               exact absurd H (by simp)
          ·rw [if_neg c27] at H
           have c27b0 : (!(x305000_2 == 0) || (!(x305001_2 == 0))) = false := by simpa using c27
           clear c27
           replace H := Option.bind_eq_some_iff.mp H
           obtain ⟨t308, A780, H⟩ := H
           replace H : (some (t308, 0)) = some (r1, r2) := H
           have A78 := Aside0.mk A780
           clear A780
           simp only [Option.some.injEq, Prod.mk.injEq] at H
           obtain ⟨rfl, rfl⟩ := H
           have hcz79_0 : wr.cell? ⟨gb304, 0, none⟩ = some (.int .i64 x305000_2) := (blk_cell BK304.out 0).trans rfl
           have hcz79_1 : wr.cell? ⟨gb304, 1, none⟩ = some (.int .i64 x305001_2) := (blk_cell BK304.out 1).trans rfl
           have hfz79_0 := blk_frozen BK304.out 0
           have hfz79_1 := blk_frozen BK304.out 1
           obtain ⟨Ao80, co80, eo80⟩ := Kd.R_slice HO_12.out
           subst eo80
           go_wp2_with (first | ((with_reducible refine gate_callee (f := 38) rfl ?_); refine goesL_ (some 132) rfl rfl Try.func38 (by kernel_rfl) rfl #[.slice Ao80 x12_2.length co80] rfl (by (try simp only [List.map_toArray, List.map_cons, List.map_nil]); first | done | rfl | (simp only [List.length_drop, List.length_take]; rfl)) ?_; (with_reducible refine (api_Pair.calls k2 (fun k_ => some k_ = (.slice Ao80 x12_2.length co80 : Value).ownBlock) (.slice Ao80 x12_2.length co80) x12_2 t308 w _ ?side1 ?side2 A78.out).mono ?_); (case side1 => repeat (first | (with_reducible first | exact HB.out | apply below_alloc | apply pw_below_drewN | apply below_drew1 | refine below_set ?_ GE304.out) | exact HB.out)); (case side2 => exact Kd.R_tight rfl HO_12.out); rintro e w81 ⟨rfl, hy0, hb, hkp⟩; refine ⟨_, rfl, ?_⟩; have n0_ := Aside0.mk (Kd.Q_mono (ok' := fun k_ => True) (Kd.Q_keptB ((Kd.Q_apart' HO_9.out (Kd.R_typed HO_12.out) (by decide))) hkp (fun k_ hk_ hs_ => (hk_.2) hs_)) (fun k_ hk_ => trivial)); have n1_ := Aside0.mk (Kd.R_reok rfl hy0 (fun k_ e_ => HO_12.out.1 k_ e_)); have n2_ := Aside0.mk (blk_kept (by (with_reducible repeat (first | refine blk_drewN ?_ _ | refine blk_drew ?_ | refine blk_alloc ?_ _)); exact BK304.out) hkp (fun hs_ => (fun e_ => (Kd.R_away HO_12.out (fun _ hk => hk)) e_) hs_)); have n3_ := Aside0.mk (hb); clear HO_9; clear HO_12; clear BK304; clear HB; have HO_9 := n0_; have HO_12 := n1_; have BK304 := n2_; have HB := n3_; clear n0_ n1_ n2_ n3_; (try clear hb); (try clear hkp); (try clear hy0)))
           go_ret2
           exact ⟨_, by first | rfl | (simp [errW_none, errW_some] <;> rfl) | (simp [*, errW_none, errW_some] <;> rfl), by (with_reducible repeat (first | apply Kd.R_alloc | apply Kd.R_drewN | apply Kd.R_drew)); exact Kd.R_mono HO_12.out (fun _ hk => trivial), by repeat (first | (with_reducible first | exact HB.out | apply below_alloc | apply pw_below_drewN | apply below_drew1 | refine below_set ?_ GE304.out) | exact HB.out)⟩
       ·rw [if_neg c20] at H
        exact absurd H (by simp)
   ·rw [if_neg c7] at H
    exact absurd H (by simp)
  ·rw [if_neg c6] at H
   exact absurd H (by simp)
 ·rw [if_neg c5] at H
  have c5b0 : (t288 == 0) = false := beq_eq_false_iff_ne.mpr c5
  have c5b1 : (t288 != 0) = true := bne_iff_ne.mpr c5
  simp only [Option.some.injEq, Prod.mk.injEq] at H
  obtain ⟨rfl, rfl⟩ := H
  go_enter Try.func18, Try.ntmps18
  go_wp2_with (first | ((with_reducible refine gate_callee (f := 31) rfl ?_); refine goesL_ (some 20) rfl rfl Try.func31 (by kernel_rfl) rfl #[.slice A0 l0.length c0, .slice A1 l1.length c1, .int .i64 a2] rfl (by (try simp only [List.map_toArray, List.map_cons, List.map_nil]); first | done | rfl | (simp only [List.length_drop, List.length_take]; rfl)) ?_; (with_reducible refine (warp_check.calls k _ _ l0 _ _ l1 a2 t288 _ ?side1 ?side2 ?side3 ?side4 A4.out).mono ?_); (case side1 => repeat (first | exact HR0.out | (with_reducible refine Kd.C_alloc ?_ _) | (with_reducible refine Kd.C_drewN ?_ _) | (with_reducible refine Kd.C_drew ?_))); (case side2 => exact HC0.out); (case side3 => repeat (first | exact HR1.out | (with_reducible refine Kd.C_alloc ?_ _) | (with_reducible refine Kd.C_drewN ?_ _) | (with_reducible refine Kd.C_drew ?_))); (case side4 => exact HC1.out); rintro e w' ⟨rfl, ⟨nd, rfl⟩⟩; refine ⟨_, rfl, ?_⟩))
  go_ret2
  exact ⟨_, by first | rfl | (simp [errW_none, errW_some] <;> rfl) | (simp [*, errW_none, errW_some] <;> rfl), by first | exact Kd.R_nil _ _ _ _ _ | exact Kd.N_nil _ _ _ _ _ | exact Kd.V_nil _ _ _ _ _ | exact Kd.Q_nil _ _ _ _ _ | exact Kd.S_nil _ _ _ _ _, by repeat (first | (with_reducible first | exact HB.out | apply below_alloc | apply pw_below_drewN | apply below_drew1) | exact HB.out)⟩

end Go.Proofs.Ytnceoalphoodaaa.PWarpAll
