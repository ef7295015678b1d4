/-
  Floor, Ceil and Quotient answer as the reference does: RootAnswers returns true for all arguments; no conditions.
-/
import Derived.Test.YtcdklnpmllganaaPRootAnswersx2
namespace Go.Proofs.Ytcdklnpmllganaa.Pure
open Go.RowKit Go.Proofs.Ytcdklnpmllganaa.PRootAnswers Go.Proofs.YtcdklnpmllganaaW.PrintWords Go.Proofs.YtcdklnpmllganaaW.PrintLast
set_option linter.unusedVariables false

-- PART Root: the contracts of package root over the told functions (template; @NS@ is opened by the head)
/-- r is the root of n rounded down. -/
def IsRoot (n r : Int) : Prop := 0 ≤ r ∧ r * r ≤ n ∧ n < (r + 1) * (r + 1)

theorem w64 {x : Int} (h0 : -9223372036854775808 ≤ x) (h1 : x ≤ 9223372036854775807) : wrap64 x = x := by
  unfold wrap64; omega

theorem sq_mono {a b : Int} (h0 : 0 ≤ a) (h : a ≤ b) : a * a ≤ b * b := Int.mul_le_mul h h h0 (by omega)

theorem lt_of_sq {a b : Int} (h0 : 0 ≤ b) (h : a * a < b * b) : a < b := by
  rcases Int.lt_or_le a b with h1 | h1
  · exact h1
  · have := sq_mono h0 h1; omega

theorem IsRoot.unique {n a b : Int} (ha : IsRoot n a) (hb : IsRoot n b) : a = b := by
  obtain ⟨a0, a1, a2⟩ := ha
  obtain ⟨b0, b1, b2⟩ := hb
  have h1 : a < b + 1 := lt_of_sq (by omega) (by omega)
  have h2 : b < a + 1 := lt_of_sq (by omega) (by omega)
  omega

theorem sq_lt {a : Int} (h : 0 ≤ a) : a * a < (a + 1) * (a + 1) := by
  have : (a + 1) * (a + 1) = a * a + 2 * a + 1 := by grind
  omega

theorem floor_loop (n : Int) : ∀ (j : Nat) (r b : Int), b = 2 ^ j → 0 ≤ r → r * r ≤ n → n < (r + 2 * b) * (r + 2 * b) → r + 2 * b ≤ 2147483648 →
    ∃ q, Ev (fun k => root_Floor.l0 k n r b) q ∧ IsRoot n q ∧ q ≤ 2147483648 := by
  intro j
  induction j with
  | zero =>
    intro r b hb h0 h1 h2 h3
    have hb1 : b = 1 := by simpa using hb
    subst hb1
    have hs : (r + 1) * (r + 1) ≤ 2147483648 * 2147483648 := sq_mono (by omega) (by omega)
    have hn : 0 ≤ (r + 1) * (r + 1) := Int.mul_nonneg (by omega) (by omega)
    have e1 : wrap64 (r + 1) = r + 1 := w64 (by omega) (by omega)
    have e2 : wrap64 ((r + 1) * (r + 1)) = (r + 1) * (r + 1) := w64 (by omega) (by omega)
    have lq : ∀ q, Ev (fun k => root_Floor.l0 k n q (1 / 2)) q := fun q =>
      Ev.step (f := fun _ => some q) (fun k => by simp only [root_Floor.l0]; rw [if_neg (by decide)]) (Ev.now q)
    by_cases c1 : (r + 1) * (r + 1) = n
    · exact ⟨r + 1, Ev.step (f := fun _ => some (r + 1)) (fun k => by simp only [root_Floor.l0, e1, e2]; rw [if_pos (by decide), if_pos c1]) (Ev.now _),
        ⟨by omega, by omega, by rw [← c1]; exact sq_lt (by omega)⟩, by omega⟩
    · by_cases c2 : (r + 1) * (r + 1) < n
      · exact ⟨r + 1, Ev.step (fun k => by simp only [root_Floor.l0, e1, e2]; rw [if_pos (by decide), if_neg c1, if_pos c2]) (lq (r + 1)),
          ⟨by omega, by omega, by rw [show r + 1 + 1 = r + 2 * 1 by omega]; exact h2⟩, by omega⟩
      · exact ⟨r, Ev.step (fun k => by simp only [root_Floor.l0, e1, e2]; rw [if_pos (by decide), if_neg c1, if_neg c2]) (lq r), ⟨h0, h1, by omega⟩, by omega⟩
  | succ j ih =>
    intro r b hb h0 h1 h2 h3
    have hp : (0 : Int) < 2 ^ j := Int.pow_pos (by decide)
    have hb2 : b = 2 * 2 ^ j := by rw [hb, Int.pow_succ]; omega
    have hb3 : b / 2 = 2 ^ j := by omega
    have hs : (r + b) * (r + b) ≤ 2147483648 * 2147483648 := sq_mono (by omega) (by omega)
    have hn : 0 ≤ (r + b) * (r + b) := Int.mul_nonneg (by omega) (by omega)
    have e1 : wrap64 (r + b) = r + b := w64 (by omega) (by omega)
    have e2 : wrap64 ((r + b) * (r + b)) = (r + b) * (r + b) := w64 (by omega) (by omega)
    by_cases c1 : (r + b) * (r + b) = n
    · exact ⟨r + b, Ev.step (f := fun _ => some (r + b)) (fun k => by simp only [root_Floor.l0, e1, e2]; rw [if_pos (by omega), if_pos c1]) (Ev.now _),
        ⟨by omega, by omega, by rw [← c1]; exact sq_lt (by omega)⟩, by omega⟩
    · by_cases c2 : (r + b) * (r + b) < n
      · obtain ⟨q, hq, h⟩ := ih (r + b) (b / 2) hb3 (by omega) (by omega) (by rw [show r + b + 2 * (b / 2) = r + 2 * b by omega]; exact h2) (by omega)
        exact ⟨q, Ev.step (fun k => by simp only [root_Floor.l0, e1, e2]; rw [if_pos (by omega), if_neg c1, if_pos c2]) hq, h⟩
      · obtain ⟨q, hq, h⟩ := ih r (b / 2) hb3 h0 h1 (by rw [show r + 2 * (b / 2) = r + b by omega]; omega) (by omega)
        exact ⟨q, Ev.step (fun k => by simp only [root_Floor.l0, e1, e2]; rw [if_pos (by omega), if_neg c1, if_neg c2]) hq, h⟩

/-- Floor of a number in range is the root. -/
theorem floor_ex {n : Int} (h0 : 0 ≤ n) (h1 : n ≤ 4611686018427387904) :
    ∃ q, Ev (fun k => root_Floor.f k n) q ∧ IsRoot n q ∧ q ≤ 2147483648 := by
  have hf : ∀ k, root_Floor.f (k + 1) n = root_Floor.l0 k n 0 2147483648 := fun k => by
    unfold root_Floor.f; rw [if_neg (by omega)]; simp only [root_Floor.j0]
    rw [if_neg (by simp; omega)]
  by_cases c : n = 4611686018427387904
  · subst c
    exact ⟨2147483648, Ev.step (f := fun k => root_Floor.l0 k 4611686018427387904 0 2147483648) hf (Ev.step (f := fun _ => some 2147483648) (fun k => by simp only [root_Floor.l0]; rw [if_pos (by decide), if_pos (by decide +kernel)]; exact congrArg some (by decide +kernel)) (Ev.now _)), ⟨by decide, by decide, by decide⟩, by decide⟩
  · obtain ⟨q, hq, h⟩ := floor_loop n 30 0 (2147483648 / 2) (by decide) (by decide) (by simpa using h0) (by omega) (by decide)
    exact ⟨q, Ev.step hf (Ev.step (fun k => by simp only [root_Floor.l0]; rw [if_pos (by decide), if_neg (by simp [wrap64]; omega), if_neg (by simp [wrap64]; omega)]) hq), h⟩

theorem floor_ev {n q : Int} (h : IsRoot n q) (h1 : n ≤ 4611686018427387904) : Ev (fun k => root_Floor.f k n) q := by
  obtain ⟨a0, a1, a2⟩ := h
  have hn : 0 ≤ n := Int.le_trans (Int.mul_nonneg a0 a0) a1
  obtain ⟨q', hq, h', _⟩ := floor_ex hn h1
  rw [IsRoot.unique ⟨a0, a1, a2⟩ h']; exact hq

theorem root_ex {n : Int} (h0 : 0 ≤ n) (h1 : n ≤ 4611686018427387904) : ∃ q, IsRoot n q ∧ q ≤ 2147483648 := by
  obtain ⟨q, _, h⟩ := floor_ex h0 h1; exact ⟨q, h⟩

theorem Ev.pos {α : Type} {c : Prop} [Decidable c] {g f : Nat → Option α} {r : α} (h : c) (k : Ev g r) : Ev (fun n => if c then g n else f n) r := by
  simp only [if_pos h]; exact k
theorem Ev.neg {α : Type} {c : Prop} [Decidable c] {g f : Nat → Option α} {r : α} (h : ¬ c) (k : Ev f r) : Ev (fun n => if c then g n else f n) r := by
  simp only [if_neg h]; exact k

/-- Ceil of a number in range. -/
theorem ceil_ev {n q : Int} (h : IsRoot n q) (h1 : n ≤ 4611686018427387904) : Ev (fun k => root_Ceil.f k n) (if q * q < n then q + 1 else q) := by
  have hF := floor_ev h h1
  obtain ⟨a0, a1, a2⟩ := h
  obtain ⟨q', h', hq'⟩ := root_ex (Int.le_trans (Int.mul_nonneg a0 a0) a1) h1
  obtain rfl := IsRoot.unique ⟨a0, a1, a2⟩ h'
  have hs : q * q ≤ 2147483648 * 2147483648 := sq_mono (by omega) (by omega)
  have hs0 : 0 ≤ q * q := Int.mul_nonneg a0 a0
  have e1 : wrap64 (q * q) = q * q := w64 (by omega) (by omega)
  have e2 : wrap64 (q + 1) = q + 1 := w64 (by omega) (by omega)
  unfold root_Ceil.f
  refine Ev.bind hF ?_
  by_cases c0 : n > 0
  · refine Ev.pos c0 (Ev.pos h1 ?_)
    by_cases c1 : q * q < n
    · rw [if_pos c1]; exact Ev.pos (by rw [e1]; exact c1) (by rw [e2]; exact Ev.now _)
    · rw [if_neg c1]; exact Ev.neg (by rw [e1]; exact c1) (Ev.now _)
  · have : ¬ q * q < n := by omega
    rw [if_neg this]; exact Ev.neg c0 (Ev.now _)

/-- What Quotient returns for arguments in range, out of the root q of t t / e. -/
def quot (t e q : Int) : Int := if 0 ≤ t then q else if q * q * e < t * t then -(q + 1) else -q

theorem quot_ev {t e q : Int} (h : IsRoot (t * t / e) q) (t0 : -2147483648 ≤ t) (t1 : t ≤ 2147483648) (e0 : 1 ≤ e) (e1 : e ≤ 4611686018427387904) :
    Ev (fun k => root_Quotient.f k t e) (quot t e q, 0) ∧ q * q * e ≤ t * t ∧ q ≤ 2147483648 := by
  have hs : t * t ≤ 2147483648 * 2147483648 := by
    rcases Int.le_total 0 t with c | c
    · exact sq_mono c t1
    · have := sq_mono (a := -t) (b := 2147483648) (by omega) (by omega); rw [Int.neg_mul_neg] at this; exact this
  have hs0 : 0 ≤ t * t := by
    rcases Int.le_total 0 t with c | c
    · exact Int.mul_nonneg c c
    · have := Int.mul_nonneg (a := -t) (b := -t) (by omega) (by omega); rw [Int.neg_mul_neg] at this; exact this
  have hd0 : 0 ≤ t * t / e := Int.ediv_nonneg hs0 (by omega)
  have hd1 : t * t / e ≤ t * t := Int.ediv_le_self _ hs0
  have hF := floor_ev h (by omega)
  obtain ⟨a0, a1, a2⟩ := h
  obtain ⟨q', h', hq'⟩ := root_ex hd0 (by omega)
  obtain rfl := IsRoot.unique ⟨a0, a1, a2⟩ h'
  have hqs : q * q ≤ 2147483648 * 2147483648 := sq_mono (by omega) (by omega)
  have hq0 : 0 ≤ q * q := Int.mul_nonneg a0 a0
  have hqe : q * q * e ≤ t * t := Int.le_trans (Int.mul_le_mul_of_nonneg_right a1 (by omega)) (Int.ediv_mul_le _ (by omega))
  have hqe0 : 0 ≤ q * q * e := Int.mul_nonneg hq0 (by omega)
  have w1 : wrap64 (t * t) = t * t := w64 (by omega) (by omega)
  have w2 : wrap64 (Int.tdiv (t * t) e) = t * t / e := by rw [Int.tdiv_eq_ediv_of_nonneg hs0]; exact w64 (by omega) (by omega)
  have w3 : wrap64 (q * q) = q * q := w64 (by omega) (by omega)
  have w4 : wrap64 (q * q * e) = q * q * e := w64 (by omega) (by omega)
  have w5 : wrap64 (q + 1) = q + 1 := w64 (by omega) (by omega)
  have w6 : wrap64 (-(q + 1)) = -(q + 1) := w64 (by omega) (by omega)
  have w7 : wrap64 (-q) = -q := w64 (by omega) (by omega)
  refine ⟨?_, hqe, hq'⟩
  have hf : ∀ k, root_Quotient.f (k + 1) t e = (root_Floor.f k (t * t / e)).bind fun t102 => (if t ≥ 0 then (some (t102, 0)) else (if (wrap64 ((wrap64 (t102 * t102)) * e)) < t * t then (some (wrap64 (-(wrap64 (t102 + 1))), 0)) else (some (wrap64 (-t102), 0)))) := fun k => by
    unfold root_Quotient.f
    rw [if_neg (by omega), if_neg (by omega), if_neg (by omega)]
    simp only [root_Quotient.j0]
    rw [if_neg (by simp; omega), if_neg (by omega), w1, w2]
  refine Ev.step hf (Ev.bind hF ?_)
  by_cases c : 0 ≤ t
  · rw [show quot t e q = q from if_pos c]; exact Ev.pos c (Ev.now _)
  · refine Ev.neg c ?_
    rw [w3, w4, w5, w6, w7]
    by_cases c1 : q * q * e < t * t
    · rw [show quot t e q = -(q + 1) by unfold quot; rw [if_neg c, if_pos c1]]; exact Ev.pos c1 (Ev.now _)
    · rw [show quot t e q = -q by unfold quot; rw [if_neg c, if_neg c1]]; exact Ev.neg c1 (Ev.now _)

theorem awake_ev : Ev (fun k => shapesearchlaw02_awake.f k) true :=
  Ev.of shapesearchlaw02_awake.mono (k := 100) (by decide +kernel)

theorem awake_and : Ev (fun k => (shapesearchlaw02_awake.f k).bind fun t => some t) true := Ev.bind awake_ev (Ev.now _)

theorem wf_u64 {n : Int} (h : (Lit.int .u64 n).wf = true) : 0 ≤ n ∧ n ≤ 18446744073709551615 := by
  simpa [Lit.wf, IntKind.min, IntKind.max, IntKind.signed, IntKind.bits] using h
theorem wf_u32 {n : Int} (h : (Lit.int .u32 n).wf = true) : 0 ≤ n ∧ n ≤ 4294967295 := by
  simpa [Lit.wf, IntKind.min, IntKind.max, IntKind.signed, IntKind.bits] using h
theorem wf_u16 {n : Int} (h : (Lit.int .u16 n).wf = true) : 0 ≤ n ∧ n ≤ 65535 := by
  simpa [Lit.wf, IntKind.min, IntKind.max, IntKind.signed, IntKind.bits] using h
theorem wf_u8 {n : Int} (h : (Lit.int .u8 n).wf = true) : 0 ≤ n ∧ n ≤ 255 := by
  simpa [Lit.wf, IntKind.min, IntKind.max, IntKind.signed, IntKind.bits] using h
theorem wf_i16 {n : Int} (h : (Lit.int .i16 n).wf = true) : -32768 ≤ n ∧ n ≤ 32767 := by
  simpa [Lit.wf, IntKind.min, IntKind.max, IntKind.signed, IntKind.bits] using h
theorem wf_i64 {n : Int} (h : (Lit.int .i64 n).wf = true) : -9223372036854775808 ≤ n ∧ n ≤ 9223372036854775807 := by
  simpa [Lit.wf, IntKind.min, IntKind.max, IntKind.signed, IntKind.bits] using h

theorem ref_floor_loop (n : Int) (hn : n ≤ 4611686018427387904) : ∀ (j : Nat) (r b : Int), b = 2 ^ j → b ≤ 2147483648 → 0 ≤ r → r ≤ 2147483648 → r * r ≤ n → n < (r + 2 * b) * (r + 2 * b) →
    ∃ q, Ev (fun k => shapesearchref02_Floor.l0 k n r b) q ∧ IsRoot n q := by
  intro j
  induction j with
  | zero =>
    intro r b hb hb9 h0 h9 h1 h2
    have hb1 : b = 1 := by simpa using hb
    subst hb1
    have e1 : wrap64 (r + 1) = r + 1 := w64 (by omega) (by omega)
    have lq : ∀ q, Ev (fun k => shapesearchref02_Floor.l0 k n q (1 / 2)) q := fun q =>
      Ev.step (f := fun _ => some q) (fun k => by simp only [shapesearchref02_Floor.l0]; rw [if_neg (by decide)]) (Ev.now q)
    by_cases c0 : r + 1 ≤ 2147483648
    · have hs : (r + 1) * (r + 1) ≤ 2147483648 * 2147483648 := sq_mono (by omega) (by omega)
      have hp : 0 ≤ (r + 1) * (r + 1) := Int.mul_nonneg (by omega) (by omega)
      have e2 : wrap64 ((r + 1) * (r + 1)) = (r + 1) * (r + 1) := w64 (by omega) (by omega)
      by_cases c1 : (r + 1) * (r + 1) ≤ n
      · exact ⟨r + 1, Ev.step (fun k => by simp only [shapesearchref02_Floor.l0, e1, e2]; rw [if_pos (by decide), if_pos c0, if_pos c1]) (lq (r + 1)), ⟨by omega, c1, by rw [show r + 1 + 1 = r + 2 * 1 by omega]; exact h2⟩⟩
      · exact ⟨r, Ev.step (fun k => by simp only [shapesearchref02_Floor.l0, e1, e2]; rw [if_pos (by decide), if_pos c0, if_neg c1]) (lq r), ⟨h0, h1, by omega⟩⟩
    · have hs : 2147483648 * 2147483648 < (r + 1) * (r + 1) := by have := sq_mono (a := 2147483649) (b := r + 1) (by omega) (by omega); omega
      exact ⟨r, Ev.step (fun k => by simp only [shapesearchref02_Floor.l0, e1]; rw [if_pos (by decide), if_neg c0]) (lq r), ⟨h0, h1, by omega⟩⟩
  | succ j ih =>
    intro r b hb hb9 h0 h9 h1 h2
    have hp : (0 : Int) < 2 ^ j := Int.pow_pos (by decide)
    have hb2 : b = 2 * 2 ^ j := by rw [hb, Int.pow_succ]; omega
    have hb3 : b / 2 = 2 ^ j := by omega
    have e1 : wrap64 (r + b) = r + b := w64 (by omega) (by omega)
    by_cases c0 : r + b ≤ 2147483648
    · have hs : (r + b) * (r + b) ≤ 2147483648 * 2147483648 := sq_mono (by omega) (by omega)
      have hp : 0 ≤ (r + b) * (r + b) := Int.mul_nonneg (by omega) (by omega)
      have e2 : wrap64 ((r + b) * (r + b)) = (r + b) * (r + b) := w64 (by omega) (by omega)
      by_cases c1 : (r + b) * (r + b) ≤ n
      · obtain ⟨q, hq, h⟩ := ih (r + b) (b / 2) hb3 (by omega) (by omega) (by omega) c1 (by rw [show r + b + 2 * (b / 2) = r + 2 * b by omega]; exact h2)
        exact ⟨q, Ev.step (fun k => by simp only [shapesearchref02_Floor.l0, e1, e2]; rw [if_pos (by omega), if_pos c0, if_pos c1]) hq, h⟩
      · obtain ⟨q, hq, h⟩ := ih r (b / 2) hb3 (by omega) h0 h9 h1 (by rw [show r + 2 * (b / 2) = r + b by omega]; omega)
        exact ⟨q, Ev.step (fun k => by simp only [shapesearchref02_Floor.l0, e1, e2]; rw [if_pos (by omega), if_pos c0, if_neg c1]) hq, h⟩
    · have hs : 2147483648 * 2147483648 < (r + b) * (r + b) := by have := sq_mono (a := 2147483649) (b := r + b) (by omega) (by omega); omega
      obtain ⟨q, hq, h⟩ := ih r (b / 2) hb3 (by omega) h0 h9 h1 (by rw [show r + 2 * (b / 2) = r + b by omega]; omega)
      exact ⟨q, Ev.step (fun k => by simp only [shapesearchref02_Floor.l0, e1]; rw [if_pos (by omega), if_neg c0]) hq, h⟩

theorem ref_floor_ev {n q : Int} (h : IsRoot n q) (h1 : n ≤ 4611686018427387904) : Ev (fun k => shapesearchref02_Floor.f k n) q := by
  have h0 : 0 ≤ n := Int.le_trans (Int.mul_nonneg h.1 h.1) h.2.1
  have hf : ∀ k, shapesearchref02_Floor.f (k + 1) n = shapesearchref02_Floor.l0 k n 0 2147483648 := fun k => by
    unfold shapesearchref02_Floor.f; rw [if_neg (by omega)]; simp only [shapesearchref02_Floor.j0]
    rw [if_neg (by simp; omega)]
  obtain ⟨q', hq, h'⟩ := ref_floor_loop n h1 31 0 2147483648 (by decide) (by decide) (by decide) (by decide) (by simpa using h0) (by omega)
  rw [IsRoot.unique h h']; exact Ev.step hf hq

theorem ref_ceil_ev {n q : Int} (h : IsRoot n q) (h1 : n ≤ 4611686018427387904) : Ev (fun k => shapesearchref02_Ceil.f k n) (if q * q < n then q + 1 else q) := by
  have hF := ref_floor_ev h h1
  obtain ⟨a0, a1, a2⟩ := h
  have hn := Int.le_trans (Int.mul_nonneg a0 a0) a1
  obtain ⟨q', h', hq'⟩ := root_ex hn h1
  obtain rfl := IsRoot.unique ⟨a0, a1, a2⟩ h'
  have hs : q * q ≤ 2147483648 * 2147483648 := sq_mono (by omega) (by omega)
  have hs0 : 0 ≤ q * q := Int.mul_nonneg a0 a0
  have e1 : wrap64 (q * q) = q * q := w64 (by omega) (by omega)
  have e2 : wrap64 (q + 1) = q + 1 := w64 (by omega) (by omega)
  unfold shapesearchref02_Ceil.f
  refine Ev.bind hF (Ev.pos hn (Ev.pos h1 ?_))
  by_cases c1 : q * q < n
  · rw [if_pos c1]; exact Ev.pos (by rw [e1]; exact c1) (by rw [e2]; exact Ev.now _)
  · rw [if_neg c1]; exact Ev.neg (by rw [e1]; exact c1) (Ev.now _)

theorem ref_quot_ev {t e q : Int} (h : IsRoot (t * t / e) q) (t0 : -2147483648 ≤ t) (t1 : t ≤ 2147483648) (e0 : 1 ≤ e) (e1 : e ≤ 4611686018427387904) :
    Ev (fun k => shapesearchref02_Quotient.f k t e) (quot t e q, 0) := by
  obtain ⟨_, hqe, hq9⟩ := quot_ev h t0 t1 e0 e1
  have hs : t * t ≤ 2147483648 * 2147483648 := by
    rcases Int.le_total 0 t with c | c
    · exact sq_mono c t1
    · have := sq_mono (a := -t) (b := 2147483648) (by omega) (by omega); rw [Int.neg_mul_neg] at this; exact this
  have hs0 : 0 ≤ t * t := by
    rcases Int.le_total 0 t with c | c
    · exact Int.mul_nonneg c c
    · have := Int.mul_nonneg (a := -t) (b := -t) (by omega) (by omega); rw [Int.neg_mul_neg] at this; exact this
  have hd0 : 0 ≤ t * t / e := Int.ediv_nonneg hs0 (by omega)
  have hd1 : t * t / e ≤ t * t := Int.ediv_le_self _ hs0
  have hdm : e * (t * t / e) + t * t % e = t * t := Int.mul_ediv_add_emod _ _
  have hm0 : 0 ≤ t * t % e := Int.emod_nonneg _ (by omega)
  have w1 : wrap64 (t * t) = t * t := w64 (by omega) (by omega)
  have w2 : wrap64 (Int.tdiv (t * t) e) = t * t / e := by rw [Int.tdiv_eq_ediv_of_nonneg hs0]; exact w64 (by omega) (by omega)
  have w3 : Int.tmod (t * t) e = t * t % e := Int.tmod_eq_emod_of_nonneg hs0
  have hf : ∀ k, shapesearchref02_Quotient.f (k + 1) t e = (if t ≥ 0 then ((shapesearchref02_Floor.f k (t * t / e)).bind fun t102 => (some (t102, 0))) else (if t * t % e = 0 then ((shapesearchref02_Ceil.f k (t * t / e)).bind fun t103 => (some (wrap64 (-t103), 0))) else ((shapesearchref02_Ceil.f k (wrap64 (t * t / e + 1))).bind fun t104 => (some (wrap64 (-t104), 0))))) := fun k => by
    unfold shapesearchref02_Quotient.f
    rw [if_neg (by omega), if_neg (by omega), if_neg (by omega)]
    simp only [shapesearchref02_Quotient.j0]
    rw [if_neg (by simp; omega), if_neg (by omega), w1, w2, w3]
  refine Ev.step hf ?_
  by_cases c : 0 ≤ t
  · rw [show quot t e q = q from if_pos c]; exact Ev.pos c (Ev.bind (ref_floor_ev h (by omega)) (Ev.now _))
  · refine Ev.neg c ?_
    have w7 : wrap64 (-q) = -q := w64 (by have := h.1; omega) (by have := h.1; omega)
    have w6 : wrap64 (-(q + 1)) = -(q + 1) := w64 (by have := h.1; omega) (by have := h.1; omega)
    by_cases cm : t * t % e = 0
    · refine Ev.pos cm ?_
      have he : e * (t * t / e) = t * t := by omega
      have hC := ref_ceil_ev h (by omega)
      have hiff : q * q * e < t * t ↔ q * q < t * t / e := by
        have hc := Int.mul_comm (q * q) e
        exact ⟨fun x => Int.lt_of_mul_lt_mul_left (a := e) (by omega) (by omega), fun x => by have := Int.mul_lt_mul_of_pos_left x (show 0 < e by omega); omega⟩
      by_cases c1 : q * q < t * t / e
      · rw [if_pos c1] at hC
        rw [show quot t e q = -(q + 1) by unfold quot; rw [if_neg c, if_pos (hiff.2 c1)]]
        exact Ev.bind hC (by rw [w6]; exact Ev.now _)
      · rw [if_neg c1] at hC
        rw [show quot t e q = -q by unfold quot; rw [if_neg c, if_neg (fun x => c1 (hiff.1 x))]]
        exact Ev.bind hC (by rw [w7]; exact Ev.now _)
    · refine Ev.neg cm ?_
      have he2 : e ≠ 1 := by intro x; subst x; simp at cm
      have hd2 : t * t / e ≤ t * t / 2 := by
        refine Int.le_ediv_of_mul_le (by decide) ?_
        have : t * t / e * 2 ≤ t * t / e * e := Int.mul_le_mul_of_nonneg_left (by omega) hd0
        have : t * t / e * e ≤ t * t := Int.ediv_mul_le _ (by omega)
        omega
      have w8 : wrap64 (t * t / e + 1) = t * t / e + 1 := w64 (by omega) (by omega)
      rw [w8]
      have hlt : q * q * e < t * t := by
        have h1 : q * q * e ≤ t * t / e * e := Int.mul_le_mul_of_nonneg_right h.2.1 (by omega)
        have h2 : t * t / e * e = e * (t * t / e) := Int.mul_comm _ _
        omega
      rw [show quot t e q = -(q + 1) by unfold quot; rw [if_neg c, if_pos hlt]]
      have h2 := h.2.2
      by_cases c1 : (q + 1) * (q + 1) = t * t / e + 1
      · have hC := ref_ceil_ev (n := t * t / e + 1) (q := q + 1) ⟨by have := h.1; omega, by omega, by rw [← c1]; exact sq_lt (by have := h.1; omega)⟩ (by omega)
        rw [if_neg (by omega)] at hC
        exact Ev.bind hC (by rw [w6]; exact Ev.now _)
      · have hC := ref_ceil_ev (n := t * t / e + 1) (q := q) ⟨h.1, by have := h.2.1; omega, by omega⟩ (by omega)
        rw [if_pos (by have := h.2.1; omega)] at hC
        exact Ev.bind hC (by rw [w6]; exact Ev.now _)

/-- For any number both Floors, and both Ceils, answer alike. -/
theorem floor_same (n : Int) : ∃ a b, Ev (fun k => root_Floor.f k n) a ∧ Ev (fun k => shapesearchref02_Floor.f k n) a ∧ Ev (fun k => root_Ceil.f k n) b ∧ Ev (fun k => shapesearchref02_Ceil.f k n) b := by
  by_cases h : 0 ≤ n ∧ n ≤ 4611686018427387904
  · obtain ⟨q, hq, _⟩ := root_ex h.1 h.2
    exact ⟨q, _, floor_ev hq h.2, ref_floor_ev hq h.2, ceil_ev hq h.2, ref_ceil_ev hq h.2⟩
  · have f1 : Ev (fun k => root_Floor.f k n) 0 := by
      refine Ev.step (f := fun _ => some 0) (fun k => ?_) (Ev.now 0)
      unfold root_Floor.f; simp only [root_Floor.j0]
      by_cases c : n < 0
      · rw [if_pos c]; simp
      · rw [if_neg c, if_pos (by simp; omega)]
    have f2 : Ev (fun k => shapesearchref02_Floor.f k n) 0 := by
      refine Ev.step (f := fun _ => some 0) (fun k => ?_) (Ev.now 0)
      unfold shapesearchref02_Floor.f; simp only [shapesearchref02_Floor.j0]
      by_cases c : n < 0
      · rw [if_pos c]; simp
      · rw [if_neg c, if_pos (by simp; omega)]
    refine ⟨0, 0, f1, f2, ?_, ?_⟩
    · unfold root_Ceil.f; refine Ev.bind f1 ?_
      by_cases c : n > 0
      · exact Ev.pos c (Ev.neg (by omega) (Ev.now _))
      · exact Ev.neg c (Ev.now _)
    · unfold shapesearchref02_Ceil.f; refine Ev.bind f2 ?_
      by_cases c : n ≥ 0
      · exact Ev.pos c (Ev.neg (by omega) (Ev.now _))
      · exact Ev.neg c (Ev.now _)

theorem quot_same (t e : Int) : ∃ a b, Ev (fun k => root_Quotient.f k t e) (a, b) ∧ Ev (fun k => shapesearchref02_Quotient.f k t e) (a, b) := by
  by_cases h : -2147483648 ≤ t ∧ t ≤ 2147483648 ∧ 1 ≤ e ∧ e ≤ 4611686018427387904
  · have hs : t * t ≤ 2147483648 * 2147483648 ∧ 0 ≤ t * t := by
      rcases Int.le_total 0 t with c | c
      · exact ⟨sq_mono c (by omega), Int.mul_nonneg c c⟩
      · have h1 := sq_mono (a := -t) (b := 2147483648) (by omega) (by omega); have h2 := Int.mul_nonneg (a := -t) (b := -t) (by omega) (by omega)
        rw [Int.neg_mul_neg] at h1 h2; exact ⟨h1, h2⟩
    have hd1 : t * t / e ≤ t * t := Int.ediv_le_self _ hs.2
    obtain ⟨q, hq, _⟩ := root_ex (n := t * t / e) (Int.ediv_nonneg hs.2 (by omega)) (by omega)
    exact ⟨_, _, (quot_ev hq h.1 h.2.1 h.2.2.1 h.2.2.2).1, ref_quot_ev hq h.1 h.2.1 h.2.2.1 h.2.2.2⟩
  · refine ⟨0, 1, ?_, ?_⟩
    · refine Ev.step (f := fun _ => some (0, 1)) (fun k => ?_) (Ev.now _)
      unfold root_Quotient.f; simp only [root_Quotient.j0]
      by_cases c1 : t < -2147483648
      · rw [if_pos c1]; simp
      · by_cases c2 : t > 2147483648
        · rw [if_neg c1, if_pos c2]; simp
        · by_cases c3 : e < 1
          · rw [if_neg c1, if_neg c2, if_pos c3]; simp
          · rw [if_neg c1, if_neg c2, if_neg c3, if_pos (by simp; omega)]
    · refine Ev.step (f := fun _ => some (0, 1)) (fun k => ?_) (Ev.now _)
      unfold shapesearchref02_Quotient.f; simp only [shapesearchref02_Quotient.j0]
      by_cases c1 : t < -2147483648
      · rw [if_pos c1]; simp
      · by_cases c2 : t > 2147483648
        · rw [if_neg c1, if_pos c2]; simp
        · by_cases c3 : e < 1
          · rw [if_neg c1, if_neg c2, if_pos c3]; simp
          · rw [if_neg c1, if_neg c2, if_neg c3, if_pos (by simp; omega)]

theorem answers_l1 (l : List S24) (hl : l.length < 1000) : ∀ (d : Nat) (i : Int), 0 ≤ i → i ≤ l.length → (l.length : Int) - i = d → Ev (fun k => shapesearchlaw02_RootAnswers.l1 k l l.length i) true := by
  intro d
  induction d with
  | zero =>
    intro i h0 h1 hd
    exact Ev.step (fun k => by simp only [shapesearchlaw02_RootAnswers.l1]; rw [if_neg (by omega)]) awake_and
  | succ d ih =>
    intro i h0 h1 hd
    obtain ⟨a, b, ha, hb⟩ := quot_same (rd_T24 l i).f0 (rd_T24 l i).f1
    refine Ev.step (fun k => by simp only [shapesearchlaw02_RootAnswers.l1]; rw [if_pos (by omega), if_pos h0, if_pos (by omega)]) (Ev.bind ha (Ev.bind hb (Ev.pos rfl (Ev.pos rfl ?_))))
    rw [w64 (by omega) (by omega)]
    exact ih (i + 1) (by omega) (by omega) (by omega)

theorem answers_l0 (t e : Int) (l : List Int) (hl : l.length < 1000) : ∀ (d : Nat) (i : Int), 0 ≤ i → i ≤ l.length → (l.length : Int) - i = d → Ev (fun k => shapesearchlaw02_RootAnswers.l0 k t e l l.length i) true := by
  intro d
  induction d with
  | zero =>
    intro i h0 h1 hd
    refine Ev.step (fun k => by simp only [shapesearchlaw02_RootAnswers.l0]; rw [if_neg (by omega)]) (Ev.bind (Ev.now _) ?_)
    exact answers_l1 _ (by simp) 5 0 (by omega) (by simp) (by simp)
  | succ d ih =>
    intro i h0 h1 hd
    obtain ⟨a, b, h1', h2', h3', h4'⟩ := floor_same (rd l i)
    refine Ev.step (fun k => by simp only [shapesearchlaw02_RootAnswers.l0]; rw [if_pos (by omega), if_pos h0, if_pos (by omega)]) (Ev.bind h1' (Ev.bind h2' (Ev.pos rfl (Ev.bind h3' (Ev.bind h4' (Ev.pos rfl ?_))))))
    rw [w64 (by omega) (by omega)]
    exact ih (i + 1) (by omega) (by omega) (by omega)

theorem RootAnswers : shapesearchlaw02_RootAnswers.Pure := by
  intro n t e _ _ _
  refine Ev.rounds ?_
  unfold shapesearchlaw02_RootAnswers.f
  exact Ev.bind (Ev.now _) (answers_l0 t e _ (by simp) 6 0 (by omega) (by simp) (by simp))

end Go.Proofs.Ytcdklnpmllganaa.Pure
