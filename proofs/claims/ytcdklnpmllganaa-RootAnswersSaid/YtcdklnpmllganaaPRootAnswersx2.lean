/- Told by a program of this session out of the translation: Lean functions with the same answers as the Go functions that the law reaches, and proofs of that; no conditions. -/
import Derived.Test.YtcdklnpmllganaaPRootAnswersx0
import Derived.Test.YtcdklnpmllganaaPRootAnswersx1
namespace Go.Proofs.Ytcdklnpmllganaa.PRootAnswers
open Go.RowKit Go.Proofs.YtcdklnpmllganaaW.PrintWords Go.Proofs.YtcdklnpmllganaaW.PrintLast Go.Proofs.YtcdklnpmllganaaW.PrintMore
attribute [local go_sem] max2_int min2_int max_two min_two max_three min_three max_four min_four   -- for this text's walks alone
set_option linter.unusedVariables false
set_option linter.unusedSimpArgs false

/-! ### shapesearchlaw02_awake: function 15 -/
def shapesearchlaw02_awake.f (k : Nat)  : Option (Bool) := (root_Quotient.f k (-10) 2).bind fun bt107 => ((root_Floor.f k 8).bind fun t109 => (if t109 = 2 then ((root_Ceil.f k 8).bind fun t110 => (if t110 = 3 then ((root_Ceil.f k 9).bind fun t111 => (if t111 = 3 then (if bt107.2 = 0 then (some (bt107.1 == (-8))) else (some false)) else (some false))) else (some false))) else (some false)))
theorem shapesearchlaw02_awake.mono : ∀ k, LeO (shapesearchlaw02_awake.f k ) (shapesearchlaw02_awake.f (k + 1) ) := by
  intro  k
  unfold shapesearchlaw02_awake.f
  repeat' first
      | (with_reducible exact root_Ceil.mono _ _)
      | (with_reducible exact root_Floor.mono _ _)
      | (with_reducible exact root_Quotient.mono _ _ _)
      | (with_reducible exact LeO.refl _)
      | (with_reducible exact LeO.none _)
      | (with_reducible refine LeO.ite ?_ ?_)
      | (with_reducible refine LeO.bind ?_ (fun _ => ?_))
      | exact root_Ceil.mono _ _
      | exact root_Floor.mono _ _
      | exact root_Quotient.mono _ _ _
      | exact LeO.none _
      | refine LeO.ite ?_ ?_
      | refine LeO.bind ?_ (fun _ => ?_)
set_option maxHeartbeats 8000000 in
set_option maxRecDepth 100000 in
theorem shapesearchlaw02_awake.calls (k : Nat)  (r : Bool) (w : World) (h : shapesearchlaw02_awake.f k  = some r) :
    Calls Try.prog 15 #[] w fun e w' => e = .returned (.bool r) ∧ Drawn0 w w' := by
  have H : ((root_Quotient.f k (-10) 2).bind fun bt107 => ((root_Floor.f k 8).bind fun t109 => (if t109 = 2 then ((root_Ceil.f k 8).bind fun t110 => (if t110 = 3 then ((root_Ceil.f k 9).bind fun t111 => (if t111 = 3 then (if bt107.2 = 0 then (some (bt107.1 == (-8))) else (some false)) else (some false))) else (some false))) else (some false)))) = some r := h
  clear h
  replace H := Option.bind_eq_some_iff.mp H
  obtain ⟨⟨t107, t108⟩, A10, H⟩ := H
  replace H : ((root_Floor.f k 8).bind fun t109 => (if t109 = 2 then ((root_Ceil.f k 8).bind fun t110 => (if t110 = 3 then ((root_Ceil.f k 9).bind fun t111 => (if t111 = 3 then (if t108 = 0 then (some (t107 == (-8))) else (some false)) else (some false))) else (some false))) else (some false))) = some r := H
  have A1 := Aside0.mk A10
  clear A10
  replace H := Option.bind_eq_some_iff.mp H
  obtain ⟨t109, A20, H⟩ := H
  replace H : (if t109 = 2 then ((root_Ceil.f k 8).bind fun t110 => (if t110 = 3 then ((root_Ceil.f k 9).bind fun t111 => (if t111 = 3 then (if t108 = 0 then (some (t107 == (-8))) else (some false)) else (some false))) else (some false))) else (some false)) = some r := H
  have A2 := Aside0.mk A20
  clear A20
  by_cases c3 : t109 = 2
  · rw [if_pos c3] at H
    have c3b0 : (t109 == 2) = true := beq_iff_eq.mpr c3
    have c3b1 : (t109 != 2) = false := bne_eq_false_iff_eq.mpr c3
    clear c3
    replace H := Option.bind_eq_some_iff.mp H
    obtain ⟨t110, A40, H⟩ := H
    replace H : (if t110 = 3 then ((root_Ceil.f k 9).bind fun t111 => (if t111 = 3 then (if t108 = 0 then (some (t107 == (-8))) else (some false)) else (some false))) else (some false)) = some r := H
    have A4 := Aside0.mk A40
    clear A40
    by_cases c5 : t110 = 3
    · rw [if_pos c5] at H
      have c5b0 : (t110 == 3) = true := beq_iff_eq.mpr c5
      have c5b1 : (t110 != 3) = false := bne_eq_false_iff_eq.mpr c5
      clear c5
      replace H := Option.bind_eq_some_iff.mp H
      obtain ⟨t111, A60, H⟩ := H
      replace H : (if t111 = 3 then (if t108 = 0 then (some (t107 == (-8))) else (some false)) else (some false)) = some r := H
      have A6 := Aside0.mk A60
      clear A60
      by_cases c7 : t111 = 3
      · rw [if_pos c7] at H
        have c7b0 : (t111 == 3) = true := beq_iff_eq.mpr c7
        have c7b1 : (t111 != 3) = false := bne_eq_false_iff_eq.mpr c7
        clear c7
        by_cases c8 : t108 = 0
        · rw [if_pos c8] at H
          have c8b0 : (t108 == 0) = true := beq_iff_eq.mpr c8
          have c8b1 : (t108 != 0) = false := bne_eq_false_iff_eq.mpr c8
          clear c8
          obtain rfl := Option.some.inj H
          go_enter Try.func15, Try.ntmps15
          go_wp2_with (first | ((with_reducible refine gate_callee (f := 13) rfl ?_); refine goesL_ (some 4) rfl rfl Try.func13 (by kernel_rfl) rfl #[.int .i64 (-10), .int .i64 2] rfl (by (try simp only [List.map_toArray, List.map_cons, List.map_nil]); first | done | rfl | (simp only [List.length_drop, List.length_take]; rfl)) ?_; (with_reducible refine (root_Quotient.calls k (-10) 2 t107 t108 _ A1.out).mono ?_); rintro e w' ⟨rfl, ⟨nd, rfl⟩⟩; refine ⟨_, rfl, ?_⟩) | ((with_reducible refine gate_callee (f := 9) rfl ?_); refine goesL_ (some 7) rfl rfl Try.func9 (by kernel_rfl) rfl #[.int .i64 8] rfl (by (try simp only [List.map_toArray, List.map_cons, List.map_nil]); first | done | rfl | (simp only [List.length_drop, List.length_take]; rfl)) ?_; (with_reducible refine (root_Floor.calls k 8 t109 _ A2.out).mono ?_); rintro e w' ⟨rfl, ⟨nd, rfl⟩⟩; refine ⟨_, rfl, ?_⟩) | (go_at_call 11; (with_reducible refine (root_Ceil.calls k 8 t110 _ A4.out).mono ?_); rintro e w' ⟨rfl, ⟨nd, rfl⟩⟩) | (go_at_call 11; (with_reducible refine (root_Ceil.calls k 9 t111 _ A6.out).mono ?_); rintro e w' ⟨rfl, ⟨nd, rfl⟩⟩))
          go_ret
          exact ⟨by first | rfl | (simp; done) | (simp [*]; done), by repeat (first | exact Drawn0.refl _ | apply Drawn0.step)⟩
        · rw [if_neg c8] at H
          have c8b0 : (t108 == 0) = false := beq_eq_false_iff_ne.mpr c8
          have c8b1 : (t108 != 0) = true := bne_iff_ne.mpr c8
          obtain rfl := Option.some.inj H
          go_enter Try.func15, Try.ntmps15
          go_wp2_with (first | ((with_reducible refine gate_callee (f := 13) rfl ?_); refine goesL_ (some 4) rfl rfl Try.func13 (by kernel_rfl) rfl #[.int .i64 (-10), .int .i64 2] rfl (by (try simp only [List.map_toArray, List.map_cons, List.map_nil]); first | done | rfl | (simp only [List.length_drop, List.length_take]; rfl)) ?_; (with_reducible refine (root_Quotient.calls k (-10) 2 t107 t108 _ A1.out).mono ?_); rintro e w' ⟨rfl, ⟨nd, rfl⟩⟩; refine ⟨_, rfl, ?_⟩) | ((with_reducible refine gate_callee (f := 9) rfl ?_); refine goesL_ (some 7) rfl rfl Try.func9 (by kernel_rfl) rfl #[.int .i64 8] rfl (by (try simp only [List.map_toArray, List.map_cons, List.map_nil]); first | done | rfl | (simp only [List.length_drop, List.length_take]; rfl)) ?_; (with_reducible refine (root_Floor.calls k 8 t109 _ A2.out).mono ?_); rintro e w' ⟨rfl, ⟨nd, rfl⟩⟩; refine ⟨_, rfl, ?_⟩) | (go_at_call 11; (with_reducible refine (root_Ceil.calls k 8 t110 _ A4.out).mono ?_); rintro e w' ⟨rfl, ⟨nd, rfl⟩⟩) | (go_at_call 11; (with_reducible refine (root_Ceil.calls k 9 t111 _ A6.out).mono ?_); rintro e w' ⟨rfl, ⟨nd, rfl⟩⟩))
          go_ret
          exact ⟨by first | rfl | (simp; done) | (simp [*]; done), by repeat (first | exact Drawn0.refl _ | apply Drawn0.step)⟩
      · rw [if_neg c7] at H
        have c7b0 : (t111 == 3) = false := beq_eq_false_iff_ne.mpr c7
        have c7b1 : (t111 != 3) = true := bne_iff_ne.mpr c7
        obtain rfl := Option.some.inj H
        go_enter Try.func15, Try.ntmps15
        go_wp2_with (first | ((with_reducible refine gate_callee (f := 13) rfl ?_); refine goesL_ (some 4) rfl rfl Try.func13 (by kernel_rfl) rfl #[.int .i64 (-10), .int .i64 2] rfl (by (try simp only [List.map_toArray, List.map_cons, List.map_nil]); first | done | rfl | (simp only [List.length_drop, List.length_take]; rfl)) ?_; (with_reducible refine (root_Quotient.calls k (-10) 2 t107 t108 _ A1.out).mono ?_); rintro e w' ⟨rfl, ⟨nd, rfl⟩⟩; refine ⟨_, rfl, ?_⟩) | ((with_reducible refine gate_callee (f := 9) rfl ?_); refine goesL_ (some 7) rfl rfl Try.func9 (by kernel_rfl) rfl #[.int .i64 8] rfl (by (try simp only [List.map_toArray, List.map_cons, List.map_nil]); first | done | rfl | (simp only [List.length_drop, List.length_take]; rfl)) ?_; (with_reducible refine (root_Floor.calls k 8 t109 _ A2.out).mono ?_); rintro e w' ⟨rfl, ⟨nd, rfl⟩⟩; refine ⟨_, rfl, ?_⟩) | (go_at_call 11; (with_reducible refine (root_Ceil.calls k 8 t110 _ A4.out).mono ?_); rintro e w' ⟨rfl, ⟨nd, rfl⟩⟩) | (go_at_call 11; (with_reducible refine (root_Ceil.calls k 9 t111 _ A6.out).mono ?_); rintro e w' ⟨rfl, ⟨nd, rfl⟩⟩))
        go_ret
        exact ⟨by first | rfl | (simp; done) | (simp [*]; done), by repeat (first | exact Drawn0.refl _ | apply Drawn0.step)⟩
    · rw [if_neg c5] at H
      have c5b0 : (t110 == 3) = false := beq_eq_false_iff_ne.mpr c5
      have c5b1 : (t110 != 3) = true := bne_iff_ne.mpr c5
      obtain rfl := Option.some.inj H
      go_enter Try.func15, Try.ntmps15
      go_wp2_with (first | ((with_reducible refine gate_callee (f := 13) rfl ?_); refine goesL_ (some 4) rfl rfl Try.func13 (by kernel_rfl) rfl #[.int .i64 (-10), .int .i64 2] rfl (by (try simp only [List.map_toArray, List.map_cons, List.map_nil]); first | done | rfl | (simp only [List.length_drop, List.length_take]; rfl)) ?_; (with_reducible refine (root_Quotient.calls k (-10) 2 t107 t108 _ A1.out).mono ?_); rintro e w' ⟨rfl, ⟨nd, rfl⟩⟩; refine ⟨_, rfl, ?_⟩) | ((with_reducible refine gate_callee (f := 9) rfl ?_); refine goesL_ (some 7) rfl rfl Try.func9 (by kernel_rfl) rfl #[.int .i64 8] rfl (by (try simp only [List.map_toArray, List.map_cons, List.map_nil]); first | done | rfl | (simp only [List.length_drop, List.length_take]; rfl)) ?_; (with_reducible refine (root_Floor.calls k 8 t109 _ A2.out).mono ?_); rintro e w' ⟨rfl, ⟨nd, rfl⟩⟩; refine ⟨_, rfl, ?_⟩) | (go_at_call 11; (with_reducible refine (root_Ceil.calls k 8 t110 _ A4.out).mono ?_); rintro e w' ⟨rfl, ⟨nd, rfl⟩⟩))
      go_ret
      exact ⟨by first | rfl | (simp; done) | (simp [*]; done), by repeat (first | exact Drawn0.refl _ | apply Drawn0.step)⟩
  · rw [if_neg c3] at H
    have c3b0 : (t109 == 2) = false := beq_eq_false_iff_ne.mpr c3
    have c3b1 : (t109 != 2) = true := bne_iff_ne.mpr c3
    obtain rfl := Option.some.inj H
    go_enter Try.func15, Try.ntmps15
    go_wp2_with (first | ((with_reducible refine gate_callee (f := 13) rfl ?_); refine goesL_ (some 4) rfl rfl Try.func13 (by kernel_rfl) rfl #[.int .i64 (-10), .int .i64 2] rfl (by (try simp only [List.map_toArray, List.map_cons, List.map_nil]); first | done | rfl | (simp only [List.length_drop, List.length_take]; rfl)) ?_; (with_reducible refine (root_Quotient.calls k (-10) 2 t107 t108 _ A1.out).mono ?_); rintro e w' ⟨rfl, ⟨nd, rfl⟩⟩; refine ⟨_, rfl, ?_⟩) | ((with_reducible refine gate_callee (f := 9) rfl ?_); refine goesL_ (some 7) rfl rfl Try.func9 (by kernel_rfl) rfl #[.int .i64 8] rfl (by (try simp only [List.map_toArray, List.map_cons, List.map_nil]); first | done | rfl | (simp only [List.length_drop, List.length_take]; rfl)) ?_; (with_reducible refine (root_Floor.calls k 8 t109 _ A2.out).mono ?_); rintro e w' ⟨rfl, ⟨nd, rfl⟩⟩; refine ⟨_, rfl, ?_⟩))
    go_ret
    exact ⟨by first | rfl | (simp; done) | (simp [*]; done), by repeat (first | exact Drawn0.refl _ | apply Drawn0.step)⟩

/-! ### shapesearchlaw02_RootAnswers: function 3 -/
mutual
def shapesearchlaw02_RootAnswers.l0 : Nat → Int → Int → List Int → Int → Int → Option (Bool)
  | 0, _, _, _, _, _ => none
  | k + 1, x1, x2, x19, x20, x21 => if x21 < x20 then (if 0 ≤ x21 then (if x21 < (x19.length : Int) then ((root_Floor.f k (rd x19 x21)).bind fun t116 => ((shapesearchref02_Floor.f k (rd x19 x21)).bind fun t117 => (if t116 = t117 then ((root_Ceil.f k (rd x19 x21)).bind fun t118 => ((shapesearchref02_Ceil.f k (rd x19 x21)).bind fun t119 => (if t118 = t119 then (shapesearchlaw02_RootAnswers.l0 k x1 x2 x19 x20 (wrap64 (x21 + 1))) else (some false)))) else (some false)))) else (none)) else (none)) else ((some (([(⟨x1, x2⟩ : S24), (⟨Int.tmod x1 2147483648, wrap64 (1 + (Int.tmod (wrap64 ((Int.tmod x2 1099511627776) + 1099511627776)) 1099511627776))⟩ : S24), (⟨Int.tmod x1 100, Int.tmod x2 100⟩ : S24), (⟨2147483648, 4611686018427387904⟩ : S24), (⟨(-2147483649), 1⟩ : S24)] : List (S24)) : List (S24))).bind fun y120 => (shapesearchlaw02_RootAnswers.l1 k y120 (y120.length : Int) 0))
def shapesearchlaw02_RootAnswers.l1 : Nat → List (S24) → Int → Int → Option (Bool)
  | 0, _, _, _ => none
  | k + 1, x56, x57, x58 => if x58 < x57 then (if 0 ≤ x58 then (if x58 < (x56.length : Int) then ((root_Quotient.f k ((rd_T24 x56 x58).f0) ((rd_T24 x56 x58).f1)).bind fun bt126 => ((shapesearchref02_Quotient.f k ((rd_T24 x56 x58).f0) ((rd_T24 x56 x58).f1)).bind fun bt128 => (if bt126.1 = bt128.1 then (if bt126.2 = bt128.2 then (shapesearchlaw02_RootAnswers.l1 k x56 x57 (wrap64 (x58 + 1))) else (some false)) else (some false)))) else (none)) else (none)) else ((shapesearchlaw02_awake.f k).bind fun t123 => (some t123))
end
def shapesearchlaw02_RootAnswers.f (k : Nat) (a0 : Int) (a1 : Int) (a2 : Int) : Option (Bool) := (some (([a0, Int.tmod a0 1000, a1, 4611686018427387904, 4611686018427387905, 4611686018427387903] : List Int) : List Int)).bind fun y112 => (shapesearchlaw02_RootAnswers.l0 k a1 a2 y112 (y112.length : Int) 0)
theorem shapesearchlaw02_RootAnswers.mono_l : ∀ k, (∀ y0 y1 y2 y3 y4, LeO (shapesearchlaw02_RootAnswers.l0 k y0 y1 y2 y3 y4) (shapesearchlaw02_RootAnswers.l0 (k + 1) y0 y1 y2 y3 y4)) ∧ (∀ y0 y1 y2, LeO (shapesearchlaw02_RootAnswers.l1 k y0 y1 y2) (shapesearchlaw02_RootAnswers.l1 (k + 1) y0 y1 y2))
  | 0 => ⟨fun _ _ _ _ _ r h => by simp [shapesearchlaw02_RootAnswers.l0] at h, fun _ _ _ r h => by simp [shapesearchlaw02_RootAnswers.l1] at h⟩
  | k + 1 => by
    obtain ⟨ih0, ih1⟩ := shapesearchlaw02_RootAnswers.mono_l k
    refine ⟨?_, ?_⟩
    · intro y0 y1 y2 y3 y4
      unfold shapesearchlaw02_RootAnswers.l0
      repeat' first
      | (with_reducible exact ih0 _ _ _ _ _)
      | (with_reducible exact ih1 _ _ _)
      | (with_reducible exact root_Ceil.mono _ _)
      | (with_reducible exact root_Floor.mono _ _)
      | (with_reducible exact root_Quotient.mono _ _ _)
      | (with_reducible exact shapesearchlaw02_awake.mono _)
      | (with_reducible exact shapesearchref02_Ceil.mono _ _)
      | (with_reducible exact shapesearchref02_Floor.mono _ _)
      | (with_reducible exact shapesearchref02_Quotient.mono _ _ _)
      | (with_reducible exact LeO.refl _)
      | (with_reducible exact LeO.none _)
      | (with_reducible refine LeO.ite ?_ ?_)
      | (with_reducible refine LeO.bind ?_ (fun _ => ?_))
      | exact ih0 _ _ _ _ _
      | exact ih1 _ _ _
      | exact root_Ceil.mono _ _
      | exact root_Floor.mono _ _
      | exact root_Quotient.mono _ _ _
      | exact shapesearchlaw02_awake.mono _
      | exact shapesearchref02_Ceil.mono _ _
      | exact shapesearchref02_Floor.mono _ _
      | exact shapesearchref02_Quotient.mono _ _ _
      | exact LeO.none _
      | refine LeO.ite ?_ ?_
      | refine LeO.bind ?_ (fun _ => ?_)
    · intro y0 y1 y2
      unfold shapesearchlaw02_RootAnswers.l1
      repeat' first
      | (with_reducible exact ih0 _ _ _ _ _)
      | (with_reducible exact ih1 _ _ _)
      | (with_reducible exact root_Ceil.mono _ _)
      | (with_reducible exact root_Floor.mono _ _)
      | (with_reducible exact root_Quotient.mono _ _ _)
      | (with_reducible exact shapesearchlaw02_awake.mono _)
      | (with_reducible exact shapesearchref02_Ceil.mono _ _)
      | (with_reducible exact shapesearchref02_Floor.mono _ _)
      | (with_reducible exact shapesearchref02_Quotient.mono _ _ _)
      | (with_reducible exact LeO.refl _)
      | (with_reducible exact LeO.none _)
      | (with_reducible refine LeO.ite ?_ ?_)
      | (with_reducible refine LeO.bind ?_ (fun _ => ?_))
      | exact ih0 _ _ _ _ _
      | exact ih1 _ _ _
      | exact root_Ceil.mono _ _
      | exact root_Floor.mono _ _
      | exact root_Quotient.mono _ _ _
      | exact shapesearchlaw02_awake.mono _
      | exact shapesearchref02_Ceil.mono _ _
      | exact shapesearchref02_Floor.mono _ _
      | exact shapesearchref02_Quotient.mono _ _ _
      | exact LeO.none _
      | refine LeO.ite ?_ ?_
      | refine LeO.bind ?_ (fun _ => ?_)
theorem shapesearchlaw02_RootAnswers.mono : ∀ a0 a1 a2 k, LeO (shapesearchlaw02_RootAnswers.f k a0 a1 a2) (shapesearchlaw02_RootAnswers.f (k + 1) a0 a1 a2) := by
  intro a0 a1 a2 k
  obtain ⟨ih0, ih1⟩ := shapesearchlaw02_RootAnswers.mono_l k
  unfold shapesearchlaw02_RootAnswers.f
  repeat' first
      | (with_reducible exact ih0 _ _ _ _ _)
      | (with_reducible exact ih1 _ _ _)
      | (with_reducible exact root_Ceil.mono _ _)
      | (with_reducible exact root_Floor.mono _ _)
      | (with_reducible exact root_Quotient.mono _ _ _)
      | (with_reducible exact shapesearchlaw02_awake.mono _)
      | (with_reducible exact shapesearchref02_Ceil.mono _ _)
      | (with_reducible exact shapesearchref02_Floor.mono _ _)
      | (with_reducible exact shapesearchref02_Quotient.mono _ _ _)
      | (with_reducible exact LeO.refl _)
      | (with_reducible exact LeO.none _)
      | (with_reducible refine LeO.ite ?_ ?_)
      | (with_reducible refine LeO.bind ?_ (fun _ => ?_))
      | exact ih0 _ _ _ _ _
      | exact ih1 _ _ _
      | exact root_Ceil.mono _ _
      | exact root_Floor.mono _ _
      | exact root_Quotient.mono _ _ _
      | exact shapesearchlaw02_awake.mono _
      | exact shapesearchref02_Ceil.mono _ _
      | exact shapesearchref02_Floor.mono _ _
      | exact shapesearchref02_Quotient.mono _ _ _
      | exact LeO.none _
      | refine LeO.ite ?_ ?_
      | refine LeO.bind ?_ (fun _ => ?_)
set_option maxHeartbeats 8000000 in
set_option maxRecDepth 100000 in
theorem shapesearchlaw02_RootAnswers.calls (k : Nat) (a0 : Int) (a1 : Int) (a2 : Int) (r : Bool) (w : World) (h : shapesearchlaw02_RootAnswers.f k a0 a1 a2 = some r) :
    Calls Try.prog 3 #[.int .i64 a0, .int .i64 a1, .int .i64 a2] w fun e w' => e = .returned (.bool r) ∧ Below w.heap.size w w' := by
  have hu24 := Try.underlying24
  have HB := Aside0.mk (Below.refl w.heap.size w)
  have H : ((some (([a0, Int.tmod a0 1000, a1, 4611686018427387904, 4611686018427387905, 4611686018427387903] : List Int) : List Int)).bind fun y112 => (shapesearchlaw02_RootAnswers.l0 k a1 a2 y112 (y112.length : Int) 0)) = some r := h
  clear h
  obtain ⟨y112, hy112⟩ : ∃ y_ : List Int, y_ = (([a0, Int.tmod a0 1000, a1, 4611686018427387904, 4611686018427387905, 4611686018427387903] : List Int)) := ⟨_, rfl⟩
  replace H : (shapesearchlaw02_RootAnswers.l0 k a1 a2 y112 (y112.length : Int) 0) = some r := by first | (rw [hy112]; with_reducible exact H) | (have H2_ := (Option.bind_some _ _).symm.trans H; rw [hy112]; with_reducible exact H2_) | (have H2_ := (Option.bind_some _ _).symm.trans H; with_reducible exact H2_) | with_reducible exact H | (rw [hy112]; exact H) | exact H
  have Ny112 := Aside0.mk hy112
  clear hy112
  have H' := Aside0.mk H
  clear H
  go_enter Try.func3, Try.ntmps3
  go_wp2_with (first | ((with_reducible refine gate_dst (N := 19) rfl ?_); refine Kd.R_lit (Kd.int .i64) _ 3 ?hg (N := 19) ?hd (xs := ([a0, Int.tmod a0 1000, a1, 4611686018427387904, 4611686018427387905, 4611686018427387903] : List Int)) (inner := [.int .i64 a0, .int .i64 (Int.tmod a0 1000), .int .i64 a1, .int .i64 4611686018427387904, .int .i64 4611686018427387905, .int .i64 4611686018427387903]) (ok := fun _ => True) (okp := fun _ => True) ?hr ?hp (fun _ hk => hk) trivial (Below.refl _ _) (Nat.le_refl _) (by simp) ?_; (case hd => rfl); (case hg => rfl); (case hr => first | (go_simp; done) | (go_simp; rfl)); (case hp => exact (Reps.one (show Kd.M (Kd.int .i64) _ _ _ a0 [.int .i64 a0] from rfl) (Reps.one (show Kd.M (Kd.int .i64) _ _ _ (Int.tmod a0 1000) [.int .i64 (Int.tmod a0 1000)] from rfl) (Reps.one (show Kd.M (Kd.int .i64) _ _ _ a1 [.int .i64 a1] from rfl) (Reps.one (show Kd.M (Kd.int .i64) _ _ _ 4611686018427387904 [.int .i64 4611686018427387904] from rfl) (Reps.one (show Kd.M (Kd.int .i64) _ _ _ 4611686018427387905 [.int .i64 4611686018427387905] from rfl) (Reps.one (show Kd.M (Kd.int .i64) _ _ _ 4611686018427387903 [.int .i64 4611686018427387903] from rfl) (Reps.none _ _)))))))); intro v113 w4 ho5 hb hg_ hnew_; clear hg_ hnew_; (first | rw [← Ny112.out] at ho5 | (simp only [Int.reduceToNat] at ho5; rw [← Ny112.out] at ho5)); have n0_ := Aside0.mk (Kd.R_lower ho5 (below_size (by repeat (first | (with_reducible first | exact HB.out | apply below_alloc | apply pw_below_drewN | apply below_drew1) | exact HB.out)))); have n1_ := Aside0.mk (below_step (by repeat (first | (with_reducible first | exact HB.out | apply below_alloc | apply pw_below_drewN | apply below_drew1) | exact HB.out)) hb); clear HB; have HO114 := n0_; have HB := n1_; clear n0_ n1_; clear hb ho5; obtain ⟨Ao6, co6, eo6⟩ := Kd.R_slice HO114.out; subst eo6))
  go_loopg [21] k (fun kq v21 w' => ∃ (x21_1 : Int), v21 = .int .i64 x21_1 ∧ Aside0 (shapesearchlaw02_RootAnswers.l0 kq a1 a2 y112 (y112.length : Int) x21_1 = some r) ∧ Aside0 (kq ≤ k) ∧ Aside0 (Kd.R (Kd.int .i64) 3 w' w.heap.size (fun _ => True) (.slice Ao6 y112.length co6) y112) ∧ Aside0 (Below w.heap.size w w'))
  case atStart => exact ⟨(0), (by first | rfl | (simp; done) | (simp [*]; done)), H', ⟨Nat.le_refl _⟩, ⟨by (with_reducible repeat (first | apply Kd.R_alloc | apply Kd.R_drewN | apply Kd.R_drew)); exact HO114.out⟩, ⟨by repeat (first | (with_reducible first | exact HB.out | apply below_alloc | apply pw_below_drewN | apply below_drew1) | exact HB.out)⟩⟩
  case round =>
    clear H'
    try clear p2
    try clear c3
    obtain ⟨x21_1, rfl, HA, HK1, HO_19, HB⟩ := hrel
    cases gk with
    | zero => exact absurd HA.out (by simp [shapesearchlaw02_RootAnswers.l0])
    | succ k1 =>
      have H := HA.out
      clear HA
      simp only [shapesearchlaw02_RootAnswers.l0] at H
      by_cases c7 : x21_1 < (y112.length : Int)
      · rw [if_pos c7] at H
        have c7b0 : decide (x21_1 < (y112.length : Int)) = true := decide_eq_true c7
        clear c7
        by_cases c8 : 0 ≤ x21_1
        · rw [if_pos c8] at H
          have c8b0 : decide (0 ≤ x21_1) = true := decide_eq_true c8
          clear c8
          by_cases c9 : x21_1 < (y112.length : Int)
          · rw [if_pos c9] at H
            have c9b0 : decide (x21_1 < (y112.length : Int)) = true := decide_eq_true c9
            clear c9
            replace H := Option.bind_eq_some_iff.mp H
            obtain ⟨t116, A100, H⟩ := H
            replace H : ((shapesearchref02_Floor.f k1 (rd y112 x21_1)).bind fun t117 => (if t116 = t117 then ((root_Ceil.f k1 (rd y112 x21_1)).bind fun t118 => ((shapesearchref02_Ceil.f k1 (rd y112 x21_1)).bind fun t119 => (if t118 = t119 then (shapesearchlaw02_RootAnswers.l0 k1 a1 a2 y112 (y112.length : Int) (wrap64 (x21_1 + 1))) else (some false)))) else (some false))) = some r := H
            have A10 := Aside0.mk A100
            clear A100
            replace H := Option.bind_eq_some_iff.mp H
            obtain ⟨t117, A110, H⟩ := H
            replace H : (if t116 = t117 then ((root_Ceil.f k1 (rd y112 x21_1)).bind fun t118 => ((shapesearchref02_Ceil.f k1 (rd y112 x21_1)).bind fun t119 => (if t118 = t119 then (shapesearchlaw02_RootAnswers.l0 k1 a1 a2 y112 (y112.length : Int) (wrap64 (x21_1 + 1))) else (some false)))) else (some false)) = some r := H
            have A11 := Aside0.mk A110
            clear A110
            by_cases c12 : t116 = t117
            · rw [if_pos c12] at H
              have c12b0 : (t116 == t117) = true := beq_iff_eq.mpr c12
              have c12b1 : (t116 != t117) = false := bne_eq_false_iff_eq.mpr c12
              clear c12
              replace H := Option.bind_eq_some_iff.mp H
              obtain ⟨t118, A130, H⟩ := H
              replace H : ((shapesearchref02_Ceil.f k1 (rd y112 x21_1)).bind fun t119 => (if t118 = t119 then (shapesearchlaw02_RootAnswers.l0 k1 a1 a2 y112 (y112.length : Int) (wrap64 (x21_1 + 1))) else (some false))) = some r := H
              have A13 := Aside0.mk A130
              clear A130
              replace H := Option.bind_eq_some_iff.mp H
              obtain ⟨t119, A140, H⟩ := H
              replace H : (if t118 = t119 then (shapesearchlaw02_RootAnswers.l0 k1 a1 a2 y112 (y112.length : Int) (wrap64 (x21_1 + 1))) else (some false)) = some r := H
              have A14 := Aside0.mk A140
              clear A140
              by_cases c15 : t118 = t119
              · rw [if_pos c15] at H
                have c15b0 : (t118 == t119) = true := beq_iff_eq.mpr c15
                have c15b1 : (t118 != t119) = false := bne_eq_false_iff_eq.mpr c15
                clear c15
                have H' := Aside0.mk H
                clear H
                have p115 : 0 ≤ (x21_1 : Int) := of_decide_eq_true (by first | (with_reducible assumption) | assumption)
                have q115 : x21_1 < (y112.length : Int) := of_decide_eq_true (by first | (with_reducible assumption) | assumption)
                obtain ⟨ad115, e115, hx115_0⟩ := Kd.at_int (Kd.R_reads' HO_19.out).2.2 x21_1 p115 q115
                cases e115
                replace p115 := eq_true p115
                replace q115 := eq_true q115
                go_wp2_with (first | ((with_reducible refine gate_callee (f := 9) rfl ?_); refine goesL_ (some 26) rfl rfl Try.func9 (by kernel_rfl) rfl #[.int .i64 (rd y112 x21_1)] rfl (by (try simp only [List.map_toArray, List.map_cons, List.map_nil]); first | done | rfl | (simp only [List.length_drop, List.length_take]; rfl)) ?_; (with_reducible refine (root_Floor.calls k1 (rd y112 x21_1) t116 _ A10.out).mono ?_); rintro e w' ⟨rfl, ⟨nd, rfl⟩⟩; refine ⟨_, rfl, ?_⟩) | ((with_reducible refine gate_callee (f := 10) rfl ?_); refine goesL_ (some 28) rfl rfl Try.func10 (by kernel_rfl) rfl #[.int .i64 (rd y112 x21_1)] rfl (by (try simp only [List.map_toArray, List.map_cons, List.map_nil]); first | done | rfl | (simp only [List.length_drop, List.length_take]; rfl)) ?_; (with_reducible refine (shapesearchref02_Floor.calls k1 (rd y112 x21_1) t117 _ A11.out).mono ?_); rintro e w' ⟨rfl, ⟨nd, rfl⟩⟩; refine ⟨_, rfl, ?_⟩) | (go_at_call 11; (with_reducible refine (root_Ceil.calls k1 (rd y112 x21_1) t118 _ A13.out).mono ?_); rintro e w' ⟨rfl, ⟨nd, rfl⟩⟩) | (go_at_call 12; (with_reducible refine (shapesearchref02_Ceil.calls k1 (rd y112 x21_1) t119 _ A14.out).mono ?_); rintro e w' ⟨rfl, ⟨nd, rfl⟩⟩))
                go_roundg k1
                case measure => have := HK1.out; omega
                case rel => exact ⟨(wrap64 (x21_1 + 1)), (by first | rfl | (simp; done) | (simp [*]; done)), H', ⟨by have := HK1.out; omega⟩, ⟨by (with_reducible repeat (first | apply Kd.R_alloc | apply Kd.R_drewN | apply Kd.R_drew)); exact HO_19.out⟩, ⟨by repeat (first | (with_reducible first | exact HB.out | apply below_alloc | apply pw_below_drewN | apply below_drew1) | exact HB.out)⟩⟩
              · rw [if_neg c15] at H
                have c15b0 : (t118 == t119) = false := beq_eq_false_iff_ne.mpr c15
                have c15b1 : (t118 != t119) = true := bne_iff_ne.mpr c15
                obtain rfl := Option.some.inj H
                have p115 : 0 ≤ (x21_1 : Int) := of_decide_eq_true (by first | (with_reducible assumption) | assumption)
                have q115 : x21_1 < (y112.length : Int) := of_decide_eq_true (by first | (with_reducible assumption) | assumption)
                obtain ⟨ad115, e115, hx115_0⟩ := Kd.at_int (Kd.R_reads' HO_19.out).2.2 x21_1 p115 q115
                cases e115
                replace p115 := eq_true p115
                replace q115 := eq_true q115
                go_wp2_with (first | ((with_reducible refine gate_callee (f := 9) rfl ?_); refine goesL_ (some 26) rfl rfl Try.func9 (by kernel_rfl) rfl #[.int .i64 (rd y112 x21_1)] rfl (by (try simp only [List.map_toArray, List.map_cons, List.map_nil]); first | done | rfl | (simp only [List.length_drop, List.length_take]; rfl)) ?_; (with_reducible refine (root_Floor.calls k1 (rd y112 x21_1) t116 _ A10.out).mono ?_); rintro e w' ⟨rfl, ⟨nd, rfl⟩⟩; refine ⟨_, rfl, ?_⟩) | ((with_reducible refine gate_callee (f := 10) rfl ?_); refine goesL_ (some 28) rfl rfl Try.func10 (by kernel_rfl) rfl #[.int .i64 (rd y112 x21_1)] rfl (by (try simp only [List.map_toArray, List.map_cons, List.map_nil]); first | done | rfl | (simp only [List.length_drop, List.length_take]; rfl)) ?_; (with_reducible refine (shapesearchref02_Floor.calls k1 (rd y112 x21_1) t117 _ A11.out).mono ?_); rintro e w' ⟨rfl, ⟨nd, rfl⟩⟩; refine ⟨_, rfl, ?_⟩) | (go_at_call 11; (with_reducible refine (root_Ceil.calls k1 (rd y112 x21_1) t118 _ A13.out).mono ?_); rintro e w' ⟨rfl, ⟨nd, rfl⟩⟩) | (go_at_call 12; (with_reducible refine (shapesearchref02_Ceil.calls k1 (rd y112 x21_1) t119 _ A14.out).mono ?_); rintro e w' ⟨rfl, ⟨nd, rfl⟩⟩))
                go_ret
                exact ⟨by first | rfl | (simp [errW_none, errW_some] <;> rfl) | (simp [*, errW_none, errW_some] <;> rfl), by repeat (first | (with_reducible first | exact HB.out | apply below_alloc | apply pw_below_drewN | apply below_drew1) | exact HB.out)⟩
            · rw [if_neg c12] at H
              have c12b0 : (t116 == t117) = false := beq_eq_false_iff_ne.mpr c12
              have c12b1 : (t116 != t117) = true := bne_iff_ne.mpr c12
              obtain rfl := Option.some.inj H
              have p115 : 0 ≤ (x21_1 : Int) := of_decide_eq_true (by first | (with_reducible assumption) | assumption)
              have q115 : x21_1 < (y112.length : Int) := of_decide_eq_true (by first | (with_reducible assumption) | assumption)
              obtain ⟨ad115, e115, hx115_0⟩ := Kd.at_int (Kd.R_reads' HO_19.out).2.2 x21_1 p115 q115
              cases e115
              replace p115 := eq_true p115
              replace q115 := eq_true q115
              go_wp2_with (first | ((with_reducible refine gate_callee (f := 9) rfl ?_); refine goesL_ (some 26) rfl rfl Try.func9 (by kernel_rfl) rfl #[.int .i64 (rd y112 x21_1)] rfl (by (try simp only [List.map_toArray, List.map_cons, List.map_nil]); first | done | rfl | (simp only [List.length_drop, List.length_take]; rfl)) ?_; (with_reducible refine (root_Floor.calls k1 (rd y112 x21_1) t116 _ A10.out).mono ?_); rintro e w' ⟨rfl, ⟨nd, rfl⟩⟩; refine ⟨_, rfl, ?_⟩) | ((with_reducible refine gate_callee (f := 10) rfl ?_); refine goesL_ (some 28) rfl rfl Try.func10 (by kernel_rfl) rfl #[.int .i64 (rd y112 x21_1)] rfl (by (try simp only [List.map_toArray, List.map_cons, List.map_nil]); first | done | rfl | (simp only [List.length_drop, List.length_take]; rfl)) ?_; (with_reducible refine (shapesearchref02_Floor.calls k1 (rd y112 x21_1) t117 _ A11.out).mono ?_); rintro e w' ⟨rfl, ⟨nd, rfl⟩⟩; refine ⟨_, rfl, ?_⟩))
              go_ret
              exact ⟨by first | rfl | (simp [errW_none, errW_some] <;> rfl) | (simp [*, errW_none, errW_some] <;> rfl), by repeat (first | (with_reducible first | exact HB.out | apply below_alloc | apply pw_below_drewN | apply below_drew1) | exact HB.out)⟩
          · rw [if_neg c9] at H
            exact absurd H (by simp)
        · rw [if_neg c8] at H
          exact absurd H (by simp)
      · rw [if_neg c7] at H
        have c7b0 : decide (x21_1 < (y112.length : Int)) = false := decide_eq_false c7
        clear c7
        obtain ⟨y120, hy120⟩ : ∃ y_ : List (S24), y_ = (([(⟨a1, a2⟩ : S24), (⟨Int.tmod a1 2147483648, wrap64 (1 + (Int.tmod (wrap64 ((Int.tmod a2 1099511627776) + 1099511627776)) 1099511627776))⟩ : S24), (⟨Int.tmod a1 100, Int.tmod a2 100⟩ : S24), (⟨2147483648, 4611686018427387904⟩ : S24), (⟨(-2147483649), 1⟩ : S24)] : List (S24))) := ⟨_, rfl⟩
        replace H : (shapesearchlaw02_RootAnswers.l1 k1 y120 (y120.length : Int) 0) = some r := by first | (rw [hy120]; with_reducible exact H) | (have H2_ := (Option.bind_some _ _).symm.trans H; rw [hy120]; with_reducible exact H2_) | (have H2_ := (Option.bind_some _ _).symm.trans H; with_reducible exact H2_) | with_reducible exact H | (rw [hy120]; exact H) | exact H
        have Ny120 := Aside0.mk hy120
        clear hy120
        have H' := Aside0.mk H
        clear H
        go_wp2_with (first | ((with_reducible refine gate_dst (N := 56) rfl ?_); refine Kd.R_lit k24 _ 24 ?hg (N := 56) ?hd (xs := ([(⟨a1, a2⟩ : S24), (⟨Int.tmod a1 2147483648, wrap64 (1 + (Int.tmod (wrap64 ((Int.tmod a2 1099511627776) + 1099511627776)) 1099511627776))⟩ : S24), (⟨Int.tmod a1 100, Int.tmod a2 100⟩ : S24), (⟨2147483648, 4611686018427387904⟩ : S24), (⟨(-2147483649), 1⟩ : S24)] : List (S24))) (inner := [.int .i64 a1, .int .i64 a2, .int .i64 (Int.tmod a1 2147483648), .int .i64 (wrap64 (1 + (Int.tmod (wrap64 ((Int.tmod a2 1099511627776) + 1099511627776)) 1099511627776))), .int .i64 (Int.tmod a1 100), .int .i64 (Int.tmod a2 100), .int .i64 2147483648, .int .i64 4611686018427387904, .int .i64 (-2147483649), .int .i64 1]) (ok := fun _ => True) (okp := fun _ => True) ?hr ?hp (fun _ hk => hk) trivial (Below.refl _ _) (Nat.le_refl _) (by simp) ?_; (case hd => rfl); (case hg => rfl); (case hr => first | (go_simp; done) | (go_simp; rfl)); (case hp => exact (Reps.c2 (show Kd.M k24 _ _ _ (⟨a1, a2⟩ : S24) [.int .i64 a1, .int .i64 a2] from (k24_mkM _ _ _ (⟨a1, a2⟩ : S24) )) (Reps.c2 (show Kd.M k24 _ _ _ (⟨Int.tmod a1 2147483648, wrap64 (1 + (Int.tmod (wrap64 ((Int.tmod a2 1099511627776) + 1099511627776)) 1099511627776))⟩ : S24) [.int .i64 (Int.tmod a1 2147483648), .int .i64 (wrap64 (1 + (Int.tmod (wrap64 ((Int.tmod a2 1099511627776) + 1099511627776)) 1099511627776)))] from (k24_mkM _ _ _ (⟨Int.tmod a1 2147483648, wrap64 (1 + (Int.tmod (wrap64 ((Int.tmod a2 1099511627776) + 1099511627776)) 1099511627776))⟩ : S24) )) (Reps.c2 (show Kd.M k24 _ _ _ (⟨Int.tmod a1 100, Int.tmod a2 100⟩ : S24) [.int .i64 (Int.tmod a1 100), .int .i64 (Int.tmod a2 100)] from (k24_mkM _ _ _ (⟨Int.tmod a1 100, Int.tmod a2 100⟩ : S24) )) (Reps.c2 (show Kd.M k24 _ _ _ (⟨2147483648, 4611686018427387904⟩ : S24) [.int .i64 2147483648, .int .i64 4611686018427387904] from (k24_mkM _ _ _ (⟨2147483648, 4611686018427387904⟩ : S24) )) (Reps.c2 (show Kd.M k24 _ _ _ (⟨(-2147483649), 1⟩ : S24) [.int .i64 (-2147483649), .int .i64 1] from (k24_mkM _ _ _ (⟨(-2147483649), 1⟩ : S24) )) (Reps.none _ _))))))); intro v121 w16 ho17 hb hg_ hnew_; clear hg_ hnew_; (first | rw [← Ny120.out] at ho17 | (simp only [Int.reduceToNat] at ho17; rw [← Ny120.out] at ho17)); have n0_ := Aside0.mk (Kd.R_below (by (with_reducible repeat (first | apply Kd.R_alloc | apply Kd.R_drewN | apply Kd.R_drew)); exact HO_19.out) hb); have n1_ := Aside0.mk (Kd.R_lower ho17 (below_size (by repeat (first | (with_reducible first | exact HB.out | apply below_alloc | apply pw_below_drewN | apply below_drew1) | exact HB.out)))); have n2_ := Aside0.mk (below_step (by repeat (first | (with_reducible first | exact HB.out | apply below_alloc | apply pw_below_drewN | apply below_drew1) | exact HB.out)) hb); clear HO_19; clear HB; have HO_19 := n0_; have HO122 := n1_; have HB := n2_; clear n0_ n1_ n2_; clear hb ho17; obtain ⟨Ao18, co18, eo18⟩ := Kd.R_slice HO122.out; subst eo18))
        go_loopg [58] k1 (fun kq v58 w' => ∃ (x58_2 : Int), v58 = .int .i64 x58_2 ∧ Aside0 (shapesearchlaw02_RootAnswers.l1 kq y120 (y120.length : Int) x58_2 = some r) ∧ Aside0 (kq ≤ k1) ∧ Aside0 (Kd.R k24 24 w' w.heap.size (fun _ => True) (.slice Ao18 y120.length co18) y120) ∧ Aside0 (Below w.heap.size w w'))
        case atStart => exact ⟨(0), (by first | rfl | (simp; done) | (simp [*]; done)), H', ⟨Nat.le_refl _⟩, ⟨by (with_reducible repeat (first | apply Kd.R_alloc | apply Kd.R_drewN | apply Kd.R_drew)); exact HO122.out⟩, ⟨by repeat (first | (with_reducible first | exact HB.out | apply below_alloc | apply pw_below_drewN | apply below_drew1) | exact HB.out)⟩⟩
        case round =>
          clear H'
          try clear c1
          try clear p1
          try clear q1
          try clear hx1
          try clear c2
          try clear p2
          try clear c3
          try clear p6
          try clear c7
          try clear c7b0
          try clear c8
          try clear c8b0
          try clear c9
          try clear c9b0
          try clear c10
          try clear p11
          try clear q11
          try clear hx11
          try clear c12
          try clear c12b0
          try clear c12b1
          try clear c15
          try clear c15b0
          try clear c15b1
          try clear hx115_0
          try clear p115
          try clear p2
          try clear q115
          obtain ⟨x58_2, rfl, HA, HK2, HO_56, HB⟩ := hrel
          cases gk with
          | zero => exact absurd HA.out (by simp [shapesearchlaw02_RootAnswers.l1])
          | succ k2 =>
            have H := HA.out
            clear HA
            simp only [shapesearchlaw02_RootAnswers.l1] at H
            by_cases c19 : x58_2 < (y120.length : Int)
            · rw [if_pos c19] at H
              have c19b0 : decide (x58_2 < (y120.length : Int)) = true := decide_eq_true c19
              clear c19
              by_cases c20 : 0 ≤ x58_2
              · rw [if_pos c20] at H
                have c20b0 : decide (0 ≤ x58_2) = true := decide_eq_true c20
                clear c20
                by_cases c21 : x58_2 < (y120.length : Int)
                · rw [if_pos c21] at H
                  have c21b0 : decide (x58_2 < (y120.length : Int)) = true := decide_eq_true c21
                  clear c21
                  replace H := Option.bind_eq_some_iff.mp H
                  obtain ⟨⟨t126, t127⟩, A220, H⟩ := H
                  replace H : ((shapesearchref02_Quotient.f k2 ((rd_T24 y120 x58_2).f0) ((rd_T24 y120 x58_2).f1)).bind fun bt128 => (if t126 = bt128.1 then (if t127 = bt128.2 then (shapesearchlaw02_RootAnswers.l1 k2 y120 (y120.length : Int) (wrap64 (x58_2 + 1))) else (some false)) else (some false))) = some r := H
                  have A22 := Aside0.mk A220
                  clear A220
                  replace H := Option.bind_eq_some_iff.mp H
                  obtain ⟨⟨t128, t129⟩, A230, H⟩ := H
                  replace H : (if t126 = t128 then (if t127 = t129 then (shapesearchlaw02_RootAnswers.l1 k2 y120 (y120.length : Int) (wrap64 (x58_2 + 1))) else (some false)) else (some false)) = some r := H
                  have A23 := Aside0.mk A230
                  clear A230
                  by_cases c24 : t126 = t128
                  · rw [if_pos c24] at H
                    have c24b0 : (t126 == t128) = true := beq_iff_eq.mpr c24
                    have c24b1 : (t126 != t128) = false := bne_eq_false_iff_eq.mpr c24
                    clear c24
                    by_cases c25 : t127 = t129
                    · rw [if_pos c25] at H
                      have c25b0 : (t127 == t129) = true := beq_iff_eq.mpr c25
                      have c25b1 : (t127 != t129) = false := bne_eq_false_iff_eq.mpr c25
                      clear c25
                      have H' := Aside0.mk H
                      clear H
                      have p124 : 0 ≤ (x58_2 : Int) := of_decide_eq_true (by first | (with_reducible assumption) | assumption)
                      have q124 : x58_2 < (y120.length : Int) := of_decide_eq_true (by first | (with_reducible assumption) | assumption)
                      obtain ⟨ad124, e124, hx124_0, hx124_1⟩ := at_T24 (Kd.R_reads' HO_56.out).2.2 x58_2 p124 q124
                      cases e124
                      replace p124 := eq_true p124
                      replace q124 := eq_true q124
                      go_wp2_with (first | ((with_reducible refine gate_dst (N := 10) rfl ?_); refine box_event ?hg (N := 10) ?hd (cs := #[.int .i64 0, .int .i64 0]) (t := 24) ?hr ?_; (case hd => rfl); (case hg => rfl); (case hr => first | (go_simp; done) | (go_simp; rfl)); intro gb125 hg w26 hbox hb; have n0_ := Aside0.mk (Kd.R_below (Kd.R_elderB (by (with_reducible repeat (first | apply Kd.R_alloc | apply Kd.R_drewN | apply Kd.R_drew)); exact HO_56.out) gb125 (Nat.le_of_eq hg.symm)) hb); have n1_ := Aside0.mk (below_step (by repeat (first | (with_reducible first | exact HB.out | apply below_alloc | apply pw_below_drewN | apply below_drew1) | exact HB.out)) hb); have n2_ := Aside0.mk (hbox); have n3_ := Aside0.mk ((by rw [hg]; exact (below_size (by repeat (first | (with_reducible first | exact HB.out | apply below_alloc | apply pw_below_drewN | apply below_drew1) | exact HB.out))) : w.heap.size ≤ gb125)); have n4_ := Aside0.mk ((by rw [hg]; exact (below_size (by repeat (first | (with_reducible first | exact HB.out | apply below_alloc | apply pw_below_drewN | apply below_drew1) | exact HB.out))) : w.heap.size ≤ gb125)); clear HO_56; clear HB; have HO_56 := n0_; have HB := n1_; have BK125 := n2_; have GW125 := n3_; have GE125 := n4_; clear n0_ n1_ n2_ n3_ n4_; clear hb hbox hg; have hcz27_0 : w26.cell? ⟨gb125, 0, none⟩ = some (.int .i64 0) := (blk_cell BK125.out 0).trans rfl; have hcz27_1 : w26.cell? ⟨gb125, 1, none⟩ = some (.int .i64 0) := (blk_cell BK125.out 1).trans rfl; have hfz27_0 := blk_frozen BK125.out 0; have hfz27_1 := blk_frozen BK125.out 1) | ((with_reducible refine gate_callee (f := 13) rfl ?_); refine goesL_ (some 67) rfl rfl Try.func13 (by kernel_rfl) rfl #[.int .i64 ((rd_T24 y120 x58_2).f0), .int .i64 ((rd_T24 y120 x58_2).f1)] rfl (by (try simp only [List.map_toArray, List.map_cons, List.map_nil]); first | done | rfl | (simp only [List.length_drop, List.length_take]; rfl)) ?_; (with_reducible refine (root_Quotient.calls k2 ((rd_T24 y120 x58_2).f0) ((rd_T24 y120 x58_2).f1) t126 t127 _ A22.out).mono ?_); rintro e w' ⟨rfl, ⟨nd, rfl⟩⟩; refine ⟨_, rfl, ?_⟩) | ((with_reducible refine gate_callee (f := 14) rfl ?_); refine goesL_ (some 75) rfl rfl Try.func14 (by kernel_rfl) rfl #[.int .i64 ((rd_T24 y120 x58_2).f0), .int .i64 ((rd_T24 y120 x58_2).f1)] rfl (by (try simp only [List.map_toArray, List.map_cons, List.map_nil]); first | done | rfl | (simp only [List.length_drop, List.length_take]; rfl)) ?_; (with_reducible refine (shapesearchref02_Quotient.calls k2 ((rd_T24 y120 x58_2).f0) ((rd_T24 y120 x58_2).f1) t128 t129 _ A23.out).mono ?_); rintro e w' ⟨rfl, ⟨nd, rfl⟩⟩; refine ⟨_, rfl, ?_⟩))
                      go_roundg k2
                      case measure => have := HK1.out; have := HK2.out; omega
                      case rel => exact ⟨(wrap64 (x58_2 + 1)), (by first | rfl | (simp; done) | (simp [*]; done)), H', ⟨by have := HK1.out; have := HK2.out; omega⟩, ⟨by (with_reducible repeat (first | apply Kd.R_alloc | apply Kd.R_drewN | apply Kd.R_drew)); exact Kd.R_mono (Kd.R_far (p := ⟨gb125, 1, none⟩) (Kd.R_far (p := ⟨gb125, 0, none⟩) (Kd.R_mono HO_56.out (fun k_ hk => (⟨hk, hk.2⟩ : _ ∧ k_ ≠ gb125))) (fun _ hk => hk.2) (.int .i64 ((rd_T24 y120 x58_2).f0))) (fun _ hk => hk.2) (.int .i64 ((rd_T24 y120 x58_2).f1))) (fun _ hk => trivial)⟩, ⟨by repeat (first | (with_reducible first | exact HB.out | apply below_alloc | apply pw_below_drewN | apply below_drew1 | refine below_set ?_ GE125.out) | exact HB.out)⟩⟩
                    · rw [if_neg c25] at H
                      have c25b0 : (t127 == t129) = false := beq_eq_false_iff_ne.mpr c25
                      have c25b1 : (t127 != t129) = true := bne_iff_ne.mpr c25
                      obtain rfl := Option.some.inj H
                      have p124 : 0 ≤ (x58_2 : Int) := of_decide_eq_true (by first | (with_reducible assumption) | assumption)
                      have q124 : x58_2 < (y120.length : Int) := of_decide_eq_true (by first | (with_reducible assumption) | assumption)
                      obtain ⟨ad124, e124, hx124_0, hx124_1⟩ := at_T24 (Kd.R_reads' HO_56.out).2.2 x58_2 p124 q124
                      cases e124
                      replace p124 := eq_true p124
                      replace q124 := eq_true q124
                      go_wp2_with (first | ((with_reducible refine gate_dst (N := 10) rfl ?_); refine box_event ?hg (N := 10) ?hd (cs := #[.int .i64 0, .int .i64 0]) (t := 24) ?hr ?_; (case hd => rfl); (case hg => rfl); (case hr => first | (go_simp; done) | (go_simp; rfl)); intro gb125 hg w28 hbox hb; have n0_ := Aside0.mk (Kd.R_below (Kd.R_elderB (by (with_reducible repeat (first | apply Kd.R_alloc | apply Kd.R_drewN | apply Kd.R_drew)); exact HO_56.out) gb125 (Nat.le_of_eq hg.symm)) hb); have n1_ := Aside0.mk (below_step (by repeat (first | (with_reducible first | exact HB.out | apply below_alloc | apply pw_below_drewN | apply below_drew1) | exact HB.out)) hb); have n2_ := Aside0.mk (hbox); have n3_ := Aside0.mk ((by rw [hg]; exact (below_size (by repeat (first | (with_reducible first | exact HB.out | apply below_alloc | apply pw_below_drewN | apply below_drew1) | exact HB.out))) : w.heap.size ≤ gb125)); have n4_ := Aside0.mk ((by rw [hg]; exact (below_size (by repeat (first | (with_reducible first | exact HB.out | apply below_alloc | apply pw_below_drewN | apply below_drew1) | exact HB.out))) : w.heap.size ≤ gb125)); clear HO_56; clear HB; have HO_56 := n0_; have HB := n1_; have BK125 := n2_; have GW125 := n3_; have GE125 := n4_; clear n0_ n1_ n2_ n3_ n4_; clear hb hbox hg; have hcz29_0 : w28.cell? ⟨gb125, 0, none⟩ = some (.int .i64 0) := (blk_cell BK125.out 0).trans rfl; have hcz29_1 : w28.cell? ⟨gb125, 1, none⟩ = some (.int .i64 0) := (blk_cell BK125.out 1).trans rfl; have hfz29_0 := blk_frozen BK125.out 0; have hfz29_1 := blk_frozen BK125.out 1) | ((with_reducible refine gate_callee (f := 13) rfl ?_); refine goesL_ (some 67) rfl rfl Try.func13 (by kernel_rfl) rfl #[.int .i64 ((rd_T24 y120 x58_2).f0), .int .i64 ((rd_T24 y120 x58_2).f1)] rfl (by (try simp only [List.map_toArray, List.map_cons, List.map_nil]); first | done | rfl | (simp only [List.length_drop, List.length_take]; rfl)) ?_; (with_reducible refine (root_Quotient.calls k2 ((rd_T24 y120 x58_2).f0) ((rd_T24 y120 x58_2).f1) t126 t127 _ A22.out).mono ?_); rintro e w' ⟨rfl, ⟨nd, rfl⟩⟩; refine ⟨_, rfl, ?_⟩) | ((with_reducible refine gate_callee (f := 14) rfl ?_); refine goesL_ (some 75) rfl rfl Try.func14 (by kernel_rfl) rfl #[.int .i64 ((rd_T24 y120 x58_2).f0), .int .i64 ((rd_T24 y120 x58_2).f1)] rfl (by (try simp only [List.map_toArray, List.map_cons, List.map_nil]); first | done | rfl | (simp only [List.length_drop, List.length_take]; rfl)) ?_; (with_reducible refine (shapesearchref02_Quotient.calls k2 ((rd_T24 y120 x58_2).f0) ((rd_T24 y120 x58_2).f1) t128 t129 _ A23.out).mono ?_); rintro e w' ⟨rfl, ⟨nd, rfl⟩⟩; refine ⟨_, rfl, ?_⟩))
                      go_ret
                      exact ⟨by first | rfl | (simp [errW_none, errW_some] <;> rfl) | (simp [*, errW_none, errW_some] <;> rfl), by repeat (first | (with_reducible first | exact HB.out | apply below_alloc | apply pw_below_drewN | apply below_drew1 | refine below_set ?_ GE125.out) | exact HB.out)⟩
                  · rw [if_neg c24] at H
                    have c24b0 : (t126 == t128) = false := beq_eq_false_iff_ne.mpr c24
                    have c24b1 : (t126 != t128) = true := bne_iff_ne.mpr c24
                    obtain rfl := Option.some.inj H
                    have p124 : 0 ≤ (x58_2 : Int) := of_decide_eq_true (by first | (with_reducible assumption) | assumption)
                    have q124 : x58_2 < (y120.length : Int) := of_decide_eq_true (by first | (with_reducible assumption) | assumption)
                    obtain ⟨ad124, e124, hx124_0, hx124_1⟩ := at_T24 (Kd.R_reads' HO_56.out).2.2 x58_2 p124 q124
                    cases e124
                    replace p124 := eq_true p124
                    replace q124 := eq_true q124
                    go_wp2_with (first | ((with_reducible refine gate_dst (N := 10) rfl ?_); refine box_event ?hg (N := 10) ?hd (cs := #[.int .i64 0, .int .i64 0]) (t := 24) ?hr ?_; (case hd => rfl); (case hg => rfl); (case hr => first | (go_simp; done) | (go_simp; rfl)); intro gb125 hg w30 hbox hb; have n0_ := Aside0.mk (Kd.R_below (Kd.R_elderB (by (with_reducible repeat (first | apply Kd.R_alloc | apply Kd.R_drewN | apply Kd.R_drew)); exact HO_56.out) gb125 (Nat.le_of_eq hg.symm)) hb); have n1_ := Aside0.mk (below_step (by repeat (first | (with_reducible first | exact HB.out | apply below_alloc | apply pw_below_drewN | apply below_drew1) | exact HB.out)) hb); have n2_ := Aside0.mk (hbox); have n3_ := Aside0.mk ((by rw [hg]; exact (below_size (by repeat (first | (with_reducible first | exact HB.out | apply below_alloc | apply pw_below_drewN | apply below_drew1) | exact HB.out))) : w.heap.size ≤ gb125)); have n4_ := Aside0.mk ((by rw [hg]; exact (below_size (by repeat (first | (with_reducible first | exact HB.out | apply below_alloc | apply pw_below_drewN | apply below_drew1) | exact HB.out))) : w.heap.size ≤ gb125)); clear HO_56; clear HB; have HO_56 := n0_; have HB := n1_; have BK125 := n2_; have GW125 := n3_; have GE125 := n4_; clear n0_ n1_ n2_ n3_ n4_; clear hb hbox hg; have hcz31_0 : w30.cell? ⟨gb125, 0, none⟩ = some (.int .i64 0) := (blk_cell BK125.out 0).trans rfl; have hcz31_1 : w30.cell? ⟨gb125, 1, none⟩ = some (.int .i64 0) := (blk_cell BK125.out 1).trans rfl; have hfz31_0 := blk_frozen BK125.out 0; have hfz31_1 := blk_frozen BK125.out 1) | ((with_reducible refine gate_callee (f := 13) rfl ?_); refine goesL_ (some 67) rfl rfl Try.func13 (by kernel_rfl) rfl #[.int .i64 ((rd_T24 y120 x58_2).f0), .int .i64 ((rd_T24 y120 x58_2).f1)] rfl (by (try simp only [List.map_toArray, List.map_cons, List.map_nil]); first | done | rfl | (simp only [List.length_drop, List.length_take]; rfl)) ?_; (with_reducible refine (root_Quotient.calls k2 ((rd_T24 y120 x58_2).f0) ((rd_T24 y120 x58_2).f1) t126 t127 _ A22.out).mono ?_); rintro e w' ⟨rfl, ⟨nd, rfl⟩⟩; refine ⟨_, rfl, ?_⟩) | ((with_reducible refine gate_callee (f := 14) rfl ?_); refine goesL_ (some 75) rfl rfl Try.func14 (by kernel_rfl) rfl #[.int .i64 ((rd_T24 y120 x58_2).f0), .int .i64 ((rd_T24 y120 x58_2).f1)] rfl (by (try simp only [List.map_toArray, List.map_cons, List.map_nil]); first | done | rfl | (simp only [List.length_drop, List.length_take]; rfl)) ?_; (with_reducible refine (shapesearchref02_Quotient.calls k2 ((rd_T24 y120 x58_2).f0) ((rd_T24 y120 x58_2).f1) t128 t129 _ A23.out).mono ?_); rintro e w' ⟨rfl, ⟨nd, rfl⟩⟩; refine ⟨_, rfl, ?_⟩))
                    go_ret
                    exact ⟨by first | rfl | (simp [errW_none, errW_some] <;> rfl) | (simp [*, errW_none, errW_some] <;> rfl), by repeat (first | (with_reducible first | exact HB.out | apply below_alloc | apply pw_below_drewN | apply below_drew1 | refine below_set ?_ GE125.out) | exact HB.out)⟩
                · rw [if_neg c21] at H
                  exact absurd H (by simp)
              · rw [if_neg c20] at H
                exact absurd H (by simp)
            · rw [if_neg c19] at H
              have c19b0 : decide (x58_2 < (y120.length : Int)) = false := decide_eq_false c19
              clear c19
              replace H := Option.bind_eq_some_iff.mp H
              obtain ⟨t123, A320, H⟩ := H
              replace H : (some t123) = some r := H
              have A32 := Aside0.mk A320
              clear A320
              obtain rfl := Option.some.inj H
              go_wp2_with (first | ((with_reducible refine gate_callee (f := 15) rfl ?_); refine goesL_ (some 87) rfl rfl Try.func15 (by kernel_rfl) rfl #[] rfl (by (try simp only [List.map_toArray, List.map_cons, List.map_nil]); first | done | rfl | (simp only [List.length_drop, List.length_take]; rfl)) ?_; (with_reducible refine (shapesearchlaw02_awake.calls k2  t123 _ A32.out).mono ?_); rintro e w' ⟨rfl, ⟨nd, rfl⟩⟩; refine ⟨_, rfl, ?_⟩))
              go_ret
              exact ⟨by first | rfl | (simp [errW_none, errW_some] <;> rfl) | (simp [*, errW_none, errW_some] <;> rfl), by repeat (first | (with_reducible first | exact HB.out | apply below_alloc | apply pw_below_drewN | apply below_drew1) | exact HB.out)⟩

/-- THE ONE PURE STATEMENT of shapesearchlaw02_RootAnswers: yours. -/
def shapesearchlaw02_RootAnswers.Pure : Prop := ∀ (a0 : Int) (a1 : Int) (a2 : Int), (Lit.int .i64 a0).wf = true → (Lit.int .i64 a1).wf = true → (Lit.int .i64 a2).wf = true → ∃ k, shapesearchlaw02_RootAnswers.f k a0 a1 a2 = some true
theorem shapesearchlaw02_RootAnswers.walk (P : shapesearchlaw02_RootAnswers.Pure) (a0 : Int) (a1 : Int) (a2 : Int) (w : World) (w0 : (Lit.int .i64 a0).wf = true) (w1 : (Lit.int .i64 a1).wf = true) (w2 : (Lit.int .i64 a2).wf = true) :
    Calls Try.prog 3 #[.int .i64 a0, .int .i64 a1, .int .i64 a2] w fun e w' => e = .returned (.bool true) ∧ Below w.heap.size w w' := by
  obtain ⟨k, h⟩ := P a0 a1 a2 w0 w1 w2
  refine (shapesearchlaw02_RootAnswers.calls k a0 a1 a2 true w h).mono ?_
  rintro e w' ⟨rfl, hd⟩
  exact ⟨rfl, hd⟩

end Go.Proofs.Ytcdklnpmllganaa.PRootAnswers
