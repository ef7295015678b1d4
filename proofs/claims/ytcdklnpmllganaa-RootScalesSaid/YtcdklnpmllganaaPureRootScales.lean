/-
  A factor of the dividend and its square of the number leave the quotient as it is: RootScales returns true for all arguments; no conditions.
-/
import Derived.Test.YtcdklnpmllganaaPRootScalesx1
namespace Go.Proofs.Ytcdklnpmllganaa.Pure
open Go.RowKit Go.Proofs.Ytcdklnpmllganaa.PRootScales Go.Proofs.YtcdklnpmllganaaW.PrintWords Go.Proofs.YtcdklnpmllganaaW.PrintLast
set_option linter.unusedVariables false

-- PART Root: the contracts of package root over the told functions (template; @NS@ is opened by the head)
/-- r is the root of n rounded down. -/
def IsRoot (n r : Int) : Prop := 0 ≤ r ∧ r * r ≤ n ∧ n < (r + 1) * (r + 1)

theorem w64 {x : Int} (h0 : -9223372036854775808 ≤ x) (h1 : x ≤ 9223372036854775807) : wrap64 x = x := by
  unfold wrap64; omega

theorem sq_mono {a b : Int} (h0 : 0 ≤ a) (h : a ≤ b) : a * a ≤ b * b := Int.mul_le_mul h h h0 (by omega)

theorem lt_of_sq {a b : Int} (h0 : 0 ≤ b) (h : a * a < b * b) : a < b := by
  rcases Int.lt_or_le a b with h1 | h1
  · exact h1
  · have := sq_mono h0 h1; omega

theorem IsRoot.unique {n a b : Int} (ha : IsRoot n a) (hb : IsRoot n b) : a = b := by
  obtain ⟨a0, a1, a2⟩ := ha
  obtain ⟨b0, b1, b2⟩ := hb
  have h1 : a < b + 1 := lt_of_sq (by omega) (by omega)
  have h2 : b < a + 1 := lt_of_sq (by omega) (by omega)
  omega

theorem sq_lt {a : Int} (h : 0 ≤ a) : a * a < (a + 1) * (a + 1) := by
  have : (a + 1) * (a + 1) = a * a + 2 * a + 1 := by grind
  omega

theorem floor_loop (n : Int) : ∀ (j : Nat) (r b : Int), b = 2 ^ j → 0 ≤ r → r * r ≤ n → n < (r + 2 * b) * (r + 2 * b) → r + 2 * b ≤ 2147483648 →
    ∃ q, Ev (fun k => root_Floor.l0 k n r b) q ∧ IsRoot n q ∧ q ≤ 2147483648 := by
  intro j
  induction j with
  | zero =>
    intro r b hb h0 h1 h2 h3
    have hb1 : b = 1 := by simpa using hb
    subst hb1
    have hs : (r + 1) * (r + 1) ≤ 2147483648 * 2147483648 := sq_mono (by omega) (by omega)
    have hn : 0 ≤ (r + 1) * (r + 1) := Int.mul_nonneg (by omega) (by omega)
    have e1 : wrap64 (r + 1) = r + 1 := w64 (by omega) (by omega)
    have e2 : wrap64 ((r + 1) * (r + 1)) = (r + 1) * (r + 1) := w64 (by omega) (by omega)
    have lq : ∀ q, Ev (fun k => root_Floor.l0 k n q (1 / 2)) q := fun q =>
      Ev.step (f := fun _ => some q) (fun k => by simp only [root_Floor.l0]; rw [if_neg (by decide)]) (Ev.now q)
    by_cases c1 : (r + 1) * (r + 1) = n
    · exact ⟨r + 1, Ev.step (f := fun _ => some (r + 1)) (fun k => by simp only [root_Floor.l0, e1, e2]; rw [if_pos (by decide), if_pos c1]) (Ev.now _),
        ⟨by omega, by omega, by rw [← c1]; exact sq_lt (by omega)⟩, by omega⟩
    · by_cases c2 : (r + 1) * (r + 1) < n
      · exact ⟨r + 1, Ev.step (fun k => by simp only [root_Floor.l0, e1, e2]; rw [if_pos (by decide), if_neg c1, if_pos c2]) (lq (r + 1)),
          ⟨by omega, by omega, by rw [show r + 1 + 1 = r + 2 * 1 by omega]; exact h2⟩, by omega⟩
      · exact ⟨r, Ev.step (fun k => by simp only [root_Floor.l0, e1, e2]; rw [if_pos (by decide), if_neg c1, if_neg c2]) (lq r), ⟨h0, h1, by omega⟩, by omega⟩
  | succ j ih =>
    intro r b hb h0 h1 h2 h3
    have hp : (0 : Int) < 2 ^ j := Int.pow_pos (by decide)
    have hb2 : b = 2 * 2 ^ j := by rw [hb, Int.pow_succ]; omega
    have hb3 : b / 2 = 2 ^ j := by omega
    have hs : (r + b) * (r + b) ≤ 2147483648 * 2147483648 := sq_mono (by omega) (by omega)
    have hn : 0 ≤ (r + b) * (r + b) := Int.mul_nonneg (by omega) (by omega)
    have e1 : wrap64 (r + b) = r + b := w64 (by omega) (by omega)
    have e2 : wrap64 ((r + b) * (r + b)) = (r + b) * (r + b) := w64 (by omega) (by omega)
    by_cases c1 : (r + b) * (r + b) = n
    · exact ⟨r + b, Ev.step (f := fun _ => some (r + b)) (fun k => by simp only [root_Floor.l0, e1, e2]; rw [if_pos (by omega), if_pos c1]) (Ev.now _),
        ⟨by omega, by omega, by rw [← c1]; exact sq_lt (by omega)⟩, by omega⟩
    · by_cases c2 : (r + b) * (r + b) < n
      · obtain ⟨q, hq, h⟩ := ih (r + b) (b / 2) hb3 (by omega) (by omega) (by rw [show r + b + 2 * (b / 2) = r + 2 * b by omega]; exact h2) (by omega)
        exact ⟨q, Ev.step (fun k => by simp only [root_Floor.l0, e1, e2]; rw [if_pos (by omega), if_neg c1, if_pos c2]) hq, h⟩
      · obtain ⟨q, hq, h⟩ := ih r (b / 2) hb3 h0 h1 (by rw [show r + 2 * (b / 2) = r + b by omega]; omega) (by omega)
        exact ⟨q, Ev.step (fun k => by simp only [root_Floor.l0, e1, e2]; rw [if_pos (by omega), if_neg c1, if_neg c2]) hq, h⟩

/-- Floor of a number in range is the root. -/
theorem floor_ex {n : Int} (h0 : 0 ≤ n) (h1 : n ≤ 4611686018427387904) :
    ∃ q, Ev (fun k => root_Floor.f k n) q ∧ IsRoot n q ∧ q ≤ 2147483648 := by
  have hf : ∀ k, root_Floor.f (k + 1) n = root_Floor.l0 k n 0 2147483648 := fun k => by
    unfold root_Floor.f; rw [if_neg (by omega)]; simp only [root_Floor.j0]
    rw [if_neg (by simp; omega)]
  by_cases c : n = 4611686018427387904
  · subst c
    exact ⟨2147483648, Ev.step (f := fun k => root_Floor.l0 k 4611686018427387904 0 2147483648) hf (Ev.step (f := fun _ => some 2147483648) (fun k => by simp only [root_Floor.l0]; rw [if_pos (by decide), if_pos (by decide +kernel)]; exact congrArg some (by decide +kernel)) (Ev.now _)), ⟨by decide, by decide, by decide⟩, by decide⟩
  · obtain ⟨q, hq, h⟩ := floor_loop n 30 0 (2147483648 / 2) (by decide) (by decide) (by simpa using h0) (by omega) (by decide)
    exact ⟨q, Ev.step hf (Ev.step (fun k => by simp only [root_Floor.l0]; rw [if_pos (by decide), if_neg (by simp [wrap64]; omega), if_neg (by simp [wrap64]; omega)]) hq), h⟩

theorem floor_ev {n q : Int} (h : IsRoot n q) (h1 : n ≤ 4611686018427387904) : Ev (fun k => root_Floor.f k n) q := by
  obtain ⟨a0, a1, a2⟩ := h
  have hn : 0 ≤ n := Int.le_trans (Int.mul_nonneg a0 a0) a1
  obtain ⟨q', hq, h', _⟩ := floor_ex hn h1
  rw [IsRoot.unique ⟨a0, a1, a2⟩ h']; exact hq

theorem root_ex {n : Int} (h0 : 0 ≤ n) (h1 : n ≤ 4611686018427387904) : ∃ q, IsRoot n q ∧ q ≤ 2147483648 := by
  obtain ⟨q, _, h⟩ := floor_ex h0 h1; exact ⟨q, h⟩

theorem Ev.pos {α : Type} {c : Prop} [Decidable c] {g f : Nat → Option α} {r : α} (h : c) (k : Ev g r) : Ev (fun n => if c then g n else f n) r := by
  simp only [if_pos h]; exact k
theorem Ev.neg {α : Type} {c : Prop} [Decidable c] {g f : Nat → Option α} {r : α} (h : ¬ c) (k : Ev f r) : Ev (fun n => if c then g n else f n) r := by
  simp only [if_neg h]; exact k

/-- Ceil of a number in range. -/
theorem ceil_ev {n q : Int} (h : IsRoot n q) (h1 : n ≤ 4611686018427387904) : Ev (fun k => root_Ceil.f k n) (if q * q < n then q + 1 else q) := by
  have hF := floor_ev h h1
  obtain ⟨a0, a1, a2⟩ := h
  obtain ⟨q', h', hq'⟩ := root_ex (Int.le_trans (Int.mul_nonneg a0 a0) a1) h1
  obtain rfl := IsRoot.unique ⟨a0, a1, a2⟩ h'
  have hs : q * q ≤ 2147483648 * 2147483648 := sq_mono (by omega) (by omega)
  have hs0 : 0 ≤ q * q := Int.mul_nonneg a0 a0
  have e1 : wrap64 (q * q) = q * q := w64 (by omega) (by omega)
  have e2 : wrap64 (q + 1) = q + 1 := w64 (by omega) (by omega)
  unfold root_Ceil.f
  refine Ev.bind hF ?_
  by_cases c0 : n > 0
  · refine Ev.pos c0 (Ev.pos h1 ?_)
    by_cases c1 : q * q < n
    · rw [if_pos c1]; exact Ev.pos (by rw [e1]; exact c1) (by rw [e2]; exact Ev.now _)
    · rw [if_neg c1]; exact Ev.neg (by rw [e1]; exact c1) (Ev.now _)
  · have : ¬ q * q < n := by omega
    rw [if_neg this]; exact Ev.neg c0 (Ev.now _)

/-- What Quotient returns for arguments in range, out of the root q of t t / e. -/
def quot (t e q : Int) : Int := if 0 ≤ t then q else if q * q * e < t * t then -(q + 1) else -q

theorem quot_ev {t e q : Int} (h : IsRoot (t * t / e) q) (t0 : -2147483648 ≤ t) (t1 : t ≤ 2147483648) (e0 : 1 ≤ e) (e1 : e ≤ 4611686018427387904) :
    Ev (fun k => root_Quotient.f k t e) (quot t e q, 0) ∧ q * q * e ≤ t * t ∧ q ≤ 2147483648 := by
  have hs : t * t ≤ 2147483648 * 2147483648 := by
    rcases Int.le_total 0 t with c | c
    · exact sq_mono c t1
    · have := sq_mono (a := -t) (b := 2147483648) (by omega) (by omega); rw [Int.neg_mul_neg] at this; exact this
  have hs0 : 0 ≤ t * t := by
    rcases Int.le_total 0 t with c | c
    · exact Int.mul_nonneg c c
    · have := Int.mul_nonneg (a := -t) (b := -t) (by omega) (by omega); rw [Int.neg_mul_neg] at this; exact this
  have hd0 : 0 ≤ t * t / e := Int.ediv_nonneg hs0 (by omega)
  have hd1 : t * t / e ≤ t * t := Int.ediv_le_self _ hs0
  have hF := floor_ev h (by omega)
  obtain ⟨a0, a1, a2⟩ := h
  obtain ⟨q', h', hq'⟩ := root_ex hd0 (by omega)
  obtain rfl := IsRoot.unique ⟨a0, a1, a2⟩ h'
  have hqs : q * q ≤ 2147483648 * 2147483648 := sq_mono (by omega) (by omega)
  have hq0 : 0 ≤ q * q := Int.mul_nonneg a0 a0
  have hqe : q * q * e ≤ t * t := Int.le_trans (Int.mul_le_mul_of_nonneg_right a1 (by omega)) (Int.ediv_mul_le _ (by omega))
  have hqe0 : 0 ≤ q * q * e := Int.mul_nonneg hq0 (by omega)
  have w1 : wrap64 (t * t) = t * t := w64 (by omega) (by omega)
  have w2 : wrap64 (Int.tdiv (t * t) e) = t * t / e := by rw [Int.tdiv_eq_ediv_of_nonneg hs0]; exact w64 (by omega) (by omega)
  have w3 : wrap64 (q * q) = q * q := w64 (by omega) (by omega)
  have w4 : wrap64 (q * q * e) = q * q * e := w64 (by omega) (by omega)
  have w5 : wrap64 (q + 1) = q + 1 := w64 (by omega) (by omega)
  have w6 : wrap64 (-(q + 1)) = -(q + 1) := w64 (by omega) (by omega)
  have w7 : wrap64 (-q) = -q := w64 (by omega) (by omega)
  refine ⟨?_, hqe, hq'⟩
  have hf : ∀ k, root_Quotient.f (k + 1) t e = (root_Floor.f k (t * t / e)).bind fun t102 => (if t ≥ 0 then (some (t102, 0)) else (if (wrap64 ((wrap64 (t102 * t102)) * e)) < t * t then (some (wrap64 (-(wrap64 (t102 + 1))), 0)) else (some (wrap64 (-t102), 0)))) := fun k => by
    unfold root_Quotient.f
    rw [if_neg (by omega), if_neg (by omega), if_neg (by omega)]
    simp only [root_Quotient.j0]
    rw [if_neg (by simp; omega), if_neg (by omega), w1, w2]
  refine Ev.step hf (Ev.bind hF ?_)
  by_cases c : 0 ≤ t
  · rw [show quot t e q = q from if_pos c]; exact Ev.pos c (Ev.now _)
  · refine Ev.neg c ?_
    rw [w3, w4, w5, w6, w7]
    by_cases c1 : q * q * e < t * t
    · rw [show quot t e q = -(q + 1) by unfold quot; rw [if_neg c, if_pos c1]]; exact Ev.pos c1 (Ev.now _)
    · rw [show quot t e q = -q by unfold quot; rw [if_neg c, if_neg c1]]; exact Ev.neg c1 (Ev.now _)

theorem awake_ev : Ev (fun k => shapesearchlaw02_awake.f k) true :=
  Ev.of shapesearchlaw02_awake.mono (k := 100) (by decide +kernel)

theorem awake_and : Ev (fun k => (shapesearchlaw02_awake.f k).bind fun t => some t) true := Ev.bind awake_ev (Ev.now _)

theorem wf_u64 {n : Int} (h : (Lit.int .u64 n).wf = true) : 0 ≤ n ∧ n ≤ 18446744073709551615 := by
  simpa [Lit.wf, IntKind.min, IntKind.max, IntKind.signed, IntKind.bits] using h
theorem wf_u32 {n : Int} (h : (Lit.int .u32 n).wf = true) : 0 ≤ n ∧ n ≤ 4294967295 := by
  simpa [Lit.wf, IntKind.min, IntKind.max, IntKind.signed, IntKind.bits] using h
theorem wf_u16 {n : Int} (h : (Lit.int .u16 n).wf = true) : 0 ≤ n ∧ n ≤ 65535 := by
  simpa [Lit.wf, IntKind.min, IntKind.max, IntKind.signed, IntKind.bits] using h
theorem wf_u8 {n : Int} (h : (Lit.int .u8 n).wf = true) : 0 ≤ n ∧ n ≤ 255 := by
  simpa [Lit.wf, IntKind.min, IntKind.max, IntKind.signed, IntKind.bits] using h
theorem wf_i16 {n : Int} (h : (Lit.int .i16 n).wf = true) : -32768 ≤ n ∧ n ≤ 32767 := by
  simpa [Lit.wf, IntKind.min, IntKind.max, IntKind.signed, IntKind.bits] using h
theorem wf_i64 {n : Int} (h : (Lit.int .i64 n).wf = true) : -9223372036854775808 ≤ n ∧ n ≤ 9223372036854775807 := by
  simpa [Lit.wf, IntKind.min, IntKind.max, IntKind.signed, IntKind.bits] using h

theorem RootScales : shapesearchlaw02_RootScales.Pure := by
  intro t e k ht he hk
  have ht' := wf_i16 ht
  have he' := wf_u16 he
  have hk' := wf_u8 hk
  have e0 : wrap64 t = t := w64 (by omega) (by omega)
  have e1 : wrap64 (1 + wrap64 e) = 1 + e := by rw [w64 (x := e) (by omega) (by omega)]; exact w64 (by omega) (by omega)
  have e2 : wrap64 (1 + wrap64 k) = 1 + k := by rw [w64 (x := k) (by omega) (by omega)]; exact w64 (by omega) (by omega)
  refine Ev.rounds ?_
  unfold shapesearchlaw02_RootScales.f
  simp only [e0, e1, e2]
  generalize hd : 1 + e = d
  generalize hf : 1 + k = f
  have hA : ∀ n : Int, -32768 ≤ n → n ≤ 32767 → -8388608 ≤ n * f ∧ n * f ≤ 8388608 := by
    intro n h0 h1
    have a := Int.mul_le_mul_of_nonneg_right (c := f) h0 (by omega)
    have b := Int.mul_le_mul_of_nonneg_right (c := f) h1 (by omega)
    omega
  have hdf0 : 1 ≤ d * f := by have := Int.mul_le_mul (a := 1) (c := d) (b := 1) (d := f) (by omega) (by omega) (by omega) (by omega); omega
  have hdf : d * f ≤ 65536 * 256 := Int.mul_le_mul (by omega) (by omega) (by omega) (by omega)
  have hdff0 : 1 ≤ d * f * f := by have := Int.mul_le_mul (a := 1) (c := d * f) (b := 1) (d := f) (by omega) (by omega) (by omega) (by omega); omega
  have hdff : d * f * f ≤ 65536 * 256 * 256 := Int.mul_le_mul hdf (by omega) (by omega) (by omega)
  have w1 : wrap64 (t * f) = t * f := by have := hA t (by omega) (by omega); exact w64 (by omega) (by omega)
  have w2 : wrap64 (d * f) = d * f := w64 (by omega) (by omega)
  have w3 : wrap64 (d * f * f) = d * f * f := w64 (by omega) (by omega)
  simp only [w1, w2, w3]
  have hs : t * t ≤ 32768 * 32768 ∧ 0 ≤ t * t := by
    rcases Int.le_total 0 t with c | c
    · exact ⟨sq_mono c (by omega), Int.mul_nonneg c c⟩
    · have h1 := sq_mono (a := -t) (b := 32768) (by omega) (by omega); have h2 := Int.mul_nonneg (a := -t) (b := -t) (by omega) (by omega)
      rw [Int.neg_mul_neg] at h1 h2; exact ⟨h1, h2⟩
  have hq1 : t * t / d ≤ t * t := Int.ediv_le_self _ hs.2
  obtain ⟨q, hq, _⟩ := root_ex (n := t * t / d) (Int.ediv_nonneg hs.2 (by omega)) (by omega)
  obtain ⟨hQ, hqd, _⟩ := quot_ev hq (by omega) (by omega) (by omega) (by omega)
  have hff : 0 < f * f := Int.mul_pos (by omega) (by omega)
  have hsame : t * f * (t * f) / (d * f * f) = t * t / d := by
    have h1 : t * f * (t * f) = t * t * (f * f) := by grind
    have h2 : d * f * f = d * (f * f) := by grind
    rw [h1, h2]; exact Int.mul_ediv_mul_of_pos_left _ _ hff
  have htf := hA t (by omega) (by omega)
  obtain ⟨hQ', hqd', _⟩ := quot_ev (t := t * f) (e := d * f * f) (by rw [hsame]; exact hq) (by omega) (by omega) (by omega) (by omega)
  refine Ev.bind hQ (Ev.bind hQ' (Ev.pos rfl (Ev.pos rfl (Ev.pos ?_ awake_and))))
  have hc : (0 ≤ t * f ↔ 0 ≤ t) := by
    constructor
    · intro h; exact Int.le_of_mul_le_mul_right (a := f) (by simpa using h) (by omega)
    · intro h; exact Int.mul_nonneg h (by omega)
  have hc2 : (q * q * (d * f * f) < t * f * (t * f) ↔ q * q * d < t * t) := by
    have h1 : q * q * (d * f * f) = q * q * d * (f * f) := by grind
    have h2 : t * f * (t * f) = t * t * (f * f) := by grind
    rw [h1, h2]
    exact ⟨fun h => Int.lt_of_mul_lt_mul_right h (by omega), fun h => Int.mul_lt_mul_of_pos_right h hff⟩
  unfold quot; simp only [hc, hc2]

end Go.Proofs.Ytcdklnpmllganaa.Pure
