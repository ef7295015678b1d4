/-
  Roots and quotients do not fall where their arguments grow as stated: RootMonotone returns true for all arguments; no conditions.
-/
import Derived.Test.YtcdklnpmllganaaPRootMonotonex1
namespace Go.Proofs.Ytcdklnpmllganaa.Pure
open Go.RowKit Go.Proofs.Ytcdklnpmllganaa.PRootMonotone Go.Proofs.YtcdklnpmllganaaW.PrintWords Go.Proofs.YtcdklnpmllganaaW.PrintLast
set_option linter.unusedVariables false

-- PART Root: the contracts of package root over the told functions (template; @NS@ is opened by the head)
/-- r is the root of n rounded down. -/
def IsRoot (n r : Int) : Prop := 0 ≤ r ∧ r * r ≤ n ∧ n < (r + 1) * (r + 1)

theorem w64 {x : Int} (h0 : -9223372036854775808 ≤ x) (h1 : x ≤ 9223372036854775807) : wrap64 x = x := by
  unfold wrap64; omega

theorem sq_mono {a b : Int} (h0 : 0 ≤ a) (h : a ≤ b) : a * a ≤ b * b := Int.mul_le_mul h h h0 (by omega)

theorem lt_of_sq {a b : Int} (h0 : 0 ≤ b) (h : a * a < b * b) : a < b := by
  rcases Int.lt_or_le a b with h1 | h1
  · exact h1
  · have := sq_mono h0 h1; omega

theorem IsRoot.unique {n a b : Int} (ha : IsRoot n a) (hb : IsRoot n b) : a = b := by
  obtain ⟨a0, a1, a2⟩ := ha
  obtain ⟨b0, b1, b2⟩ := hb
  have h1 : a < b + 1 := lt_of_sq (by omega) (by omega)
  have h2 : b < a + 1 := lt_of_sq (by omega) (by omega)
  omega

theorem sq_lt {a : Int} (h : 0 ≤ a) : a * a < (a + 1) * (a + 1) := by
  have : (a + 1) * (a + 1) = a * a + 2 * a + 1 := by grind
  omega

theorem floor_loop (n : Int) : ∀ (j : Nat) (r b : Int), b = 2 ^ j → 0 ≤ r → r * r ≤ n → n < (r + 2 * b) * (r + 2 * b) → r + 2 * b ≤ 2147483648 →
    ∃ q, Ev (fun k => root_Floor.l0 k n r b) q ∧ IsRoot n q ∧ q ≤ 2147483648 := by
  intro j
  induction j with
  | zero =>
    intro r b hb h0 h1 h2 h3
    have hb1 : b = 1 := by simpa using hb
    subst hb1
    have hs : (r + 1) * (r + 1) ≤ 2147483648 * 2147483648 := sq_mono (by omega) (by omega)
    have hn : 0 ≤ (r + 1) * (r + 1) := Int.mul_nonneg (by omega) (by omega)
    have e1 : wrap64 (r + 1) = r + 1 := w64 (by omega) (by omega)
    have e2 : wrap64 ((r + 1) * (r + 1)) = (r + 1) * (r + 1) := w64 (by omega) (by omega)
    have lq : ∀ q, Ev (fun k => root_Floor.l0 k n q (1 / 2)) q := fun q =>
      Ev.step (f := fun _ => some q) (fun k => by simp only [root_Floor.l0]; rw [if_neg (by decide)]) (Ev.now q)
    by_cases c1 : (r + 1) * (r + 1) = n
    · exact ⟨r + 1, Ev.step (f := fun _ => some (r + 1)) (fun k => by simp only [root_Floor.l0, e1, e2]; rw [if_pos (by decide), if_pos c1]) (Ev.now _),
        ⟨by omega, by omega, by rw [← c1]; exact sq_lt (by omega)⟩, by omega⟩
    · by_cases c2 : (r + 1) * (r + 1) < n
      · exact ⟨r + 1, Ev.step (fun k => by simp only [root_Floor.l0, e1, e2]; rw [if_pos (by decide), if_neg c1, if_pos c2]) (lq (r + 1)),
          ⟨by omega, by omega, by rw [show r + 1 + 1 = r + 2 * 1 by omega]; exact h2⟩, by omega⟩
      · exact ⟨r, Ev.step (fun k => by simp only [root_Floor.l0, e1, e2]; rw [if_pos (by decide), if_neg c1, if_neg c2]) (lq r), ⟨h0, h1, by omega⟩, by omega⟩
  | succ j ih =>
    intro r b hb h0 h1 h2 h3
    have hp : (0 : Int) < 2 ^ j := Int.pow_pos (by decide)
    have hb2 : b = 2 * 2 ^ j := by rw [hb, Int.pow_succ]; omega
    have hb3 : b / 2 = 2 ^ j := by omega
    have hs : (r + b) * (r + b) ≤ 2147483648 * 2147483648 := sq_mono (by omega) (by omega)
    have hn : 0 ≤ (r + b) * (r + b) := Int.mul_nonneg (by omega) (by omega)
    have e1 : wrap64 (r + b) = r + b := w64 (by omega) (by omega)
    have e2 : wrap64 ((r + b) * (r + b)) = (r + b) * (r + b) := w64 (by omega) (by omega)
    by_cases c1 : (r + b) * (r + b) = n
    · exact ⟨r + b, Ev.step (f := fun _ => some (r + b)) (fun k => by simp only [root_Floor.l0, e1, e2]; rw [if_pos (by omega), if_pos c1]) (Ev.now _),
        ⟨by omega, by omega, by rw [← c1]; exact sq_lt (by omega)⟩, by omega⟩
    · by_cases c2 : (r + b) * (r + b) < n
      · obtain ⟨q, hq, h⟩ := ih (r + b) (b / 2) hb3 (by omega) (by omega) (by rw [show r + b + 2 * (b / 2) = r + 2 * b by omega]; exact h2) (by omega)
        exact ⟨q, Ev.step (fun k => by simp only [root_Floor.l0, e1, e2]; rw [if_pos (by omega), if_neg c1, if_pos c2]) hq, h⟩
      · obtain ⟨q, hq, h⟩ := ih r (b / 2) hb3 h0 h1 (by rw [show r + 2 * (b / 2) = r + b by omega]; omega) (by omega)
        exact ⟨q, Ev.step (fun k => by simp only [root_Floor.l0, e1, e2]; rw [if_pos (by omega), if_neg c1, if_neg c2]) hq, h⟩

/-- Floor of a number in range is the root. -/
theorem floor_ex {n : Int} (h0 : 0 ≤ n) (h1 : n ≤ 4611686018427387904) :
    ∃ q, Ev (fun k => root_Floor.f k n) q ∧ IsRoot n q ∧ q ≤ 2147483648 := by
  have hf : ∀ k, root_Floor.f (k + 1) n = root_Floor.l0 k n 0 2147483648 := fun k => by
    unfold root_Floor.f; rw [if_neg (by omega)]; simp only [root_Floor.j0]
    rw [if_neg (by simp; omega)]
  by_cases c : n = 4611686018427387904
  · subst c
    exact ⟨2147483648, Ev.step (f := fun k => root_Floor.l0 k 4611686018427387904 0 2147483648) hf (Ev.step (f := fun _ => some 2147483648) (fun k => by simp only [root_Floor.l0]; rw [if_pos (by decide), if_pos (by decide +kernel)]; exact congrArg some (by decide +kernel)) (Ev.now _)), ⟨by decide, by decide, by decide⟩, by decide⟩
  · obtain ⟨q, hq, h⟩ := floor_loop n 30 0 (2147483648 / 2) (by decide) (by decide) (by simpa using h0) (by omega) (by decide)
    exact ⟨q, Ev.step hf (Ev.step (fun k => by simp only [root_Floor.l0]; rw [if_pos (by decide), if_neg (by simp [wrap64]; omega), if_neg (by simp [wrap64]; omega)]) hq), h⟩

theorem floor_ev {n q : Int} (h : IsRoot n q) (h1 : n ≤ 4611686018427387904) : Ev (fun k => root_Floor.f k n) q := by
  obtain ⟨a0, a1, a2⟩ := h
  have hn : 0 ≤ n := Int.le_trans (Int.mul_nonneg a0 a0) a1
  obtain ⟨q', hq, h', _⟩ := floor_ex hn h1
  rw [IsRoot.unique ⟨a0, a1, a2⟩ h']; exact hq

theorem root_ex {n : Int} (h0 : 0 ≤ n) (h1 : n ≤ 4611686018427387904) : ∃ q, IsRoot n q ∧ q ≤ 2147483648 := by
  obtain ⟨q, _, h⟩ := floor_ex h0 h1; exact ⟨q, h⟩

theorem Ev.pos {α : Type} {c : Prop} [Decidable c] {g f : Nat → Option α} {r : α} (h : c) (k : Ev g r) : Ev (fun n => if c then g n else f n) r := by
  simp only [if_pos h]; exact k
theorem Ev.neg {α : Type} {c : Prop} [Decidable c] {g f : Nat → Option α} {r : α} (h : ¬ c) (k : Ev f r) : Ev (fun n => if c then g n else f n) r := by
  simp only [if_neg h]; exact k

/-- Ceil of a number in range. -/
theorem ceil_ev {n q : Int} (h : IsRoot n q) (h1 : n ≤ 4611686018427387904) : Ev (fun k => root_Ceil.f k n) (if q * q < n then q + 1 else q) := by
  have hF := floor_ev h h1
  obtain ⟨a0, a1, a2⟩ := h
  obtain ⟨q', h', hq'⟩ := root_ex (Int.le_trans (Int.mul_nonneg a0 a0) a1) h1
  obtain rfl := IsRoot.unique ⟨a0, a1, a2⟩ h'
  have hs : q * q ≤ 2147483648 * 2147483648 := sq_mono (by omega) (by omega)
  have hs0 : 0 ≤ q * q := Int.mul_nonneg a0 a0
  have e1 : wrap64 (q * q) = q * q := w64 (by omega) (by omega)
  have e2 : wrap64 (q + 1) = q + 1 := w64 (by omega) (by omega)
  unfold root_Ceil.f
  refine Ev.bind hF ?_
  by_cases c0 : n > 0
  · refine Ev.pos c0 (Ev.pos h1 ?_)
    by_cases c1 : q * q < n
    · rw [if_pos c1]; exact Ev.pos (by rw [e1]; exact c1) (by rw [e2]; exact Ev.now _)
    · rw [if_neg c1]; exact Ev.neg (by rw [e1]; exact c1) (Ev.now _)
  · have : ¬ q * q < n := by omega
    rw [if_neg this]; exact Ev.neg c0 (Ev.now _)

/-- What Quotient returns for arguments in range, out of the root q of t t / e. -/
def quot (t e q : Int) : Int := if 0 ≤ t then q else if q * q * e < t * t then -(q + 1) else -q

theorem quot_ev {t e q : Int} (h : IsRoot (t * t / e) q) (t0 : -2147483648 ≤ t) (t1 : t ≤ 2147483648) (e0 : 1 ≤ e) (e1 : e ≤ 4611686018427387904) :
    Ev (fun k => root_Quotient.f k t e) (quot t e q, 0) ∧ q * q * e ≤ t * t ∧ q ≤ 2147483648 := by
  have hs : t * t ≤ 2147483648 * 2147483648 := by
    rcases Int.le_total 0 t with c | c
    · exact sq_mono c t1
    · have := sq_mono (a := -t) (b := 2147483648) (by omega) (by omega); rw [Int.neg_mul_neg] at this; exact this
  have hs0 : 0 ≤ t * t := by
    rcases Int.le_total 0 t with c | c
    · exact Int.mul_nonneg c c
    · have := Int.mul_nonneg (a := -t) (b := -t) (by omega) (by omega); rw [Int.neg_mul_neg] at this; exact this
  have hd0 : 0 ≤ t * t / e := Int.ediv_nonneg hs0 (by omega)
  have hd1 : t * t / e ≤ t * t := Int.ediv_le_self _ hs0
  have hF := floor_ev h (by omega)
  obtain ⟨a0, a1, a2⟩ := h
  obtain ⟨q', h', hq'⟩ := root_ex hd0 (by omega)
  obtain rfl := IsRoot.unique ⟨a0, a1, a2⟩ h'
  have hqs : q * q ≤ 2147483648 * 2147483648 := sq_mono (by omega) (by omega)
  have hq0 : 0 ≤ q * q := Int.mul_nonneg a0 a0
  have hqe : q * q * e ≤ t * t := Int.le_trans (Int.mul_le_mul_of_nonneg_right a1 (by omega)) (Int.ediv_mul_le _ (by omega))
  have hqe0 : 0 ≤ q * q * e := Int.mul_nonneg hq0 (by omega)
  have w1 : wrap64 (t * t) = t * t := w64 (by omega) (by omega)
  have w2 : wrap64 (Int.tdiv (t * t) e) = t * t / e := by rw [Int.tdiv_eq_ediv_of_nonneg hs0]; exact w64 (by omega) (by omega)
  have w3 : wrap64 (q * q) = q * q := w64 (by omega) (by omega)
  have w4 : wrap64 (q * q * e) = q * q * e := w64 (by omega) (by omega)
  have w5 : wrap64 (q + 1) = q + 1 := w64 (by omega) (by omega)
  have w6 : wrap64 (-(q + 1)) = -(q + 1) := w64 (by omega) (by omega)
  have w7 : wrap64 (-q) = -q := w64 (by omega) (by omega)
  refine ⟨?_, hqe, hq'⟩
  have hf : ∀ k, root_Quotient.f (k + 1) t e = (root_Floor.f k (t * t / e)).bind fun t102 => (if t ≥ 0 then (some (t102, 0)) else (if (wrap64 ((wrap64 (t102 * t102)) * e)) < t * t then (some (wrap64 (-(wrap64 (t102 + 1))), 0)) else (some (wrap64 (-t102), 0)))) := fun k => by
    unfold root_Quotient.f
    rw [if_neg (by omega), if_neg (by omega), if_neg (by omega)]
    simp only [root_Quotient.j0]
    rw [if_neg (by simp; omega), if_neg (by omega), w1, w2]
  refine Ev.step hf (Ev.bind hF ?_)
  by_cases c : 0 ≤ t
  · rw [show quot t e q = q from if_pos c]; exact Ev.pos c (Ev.now _)
  · refine Ev.neg c ?_
    rw [w3, w4, w5, w6, w7]
    by_cases c1 : q * q * e < t * t
    · rw [show quot t e q = -(q + 1) by unfold quot; rw [if_neg c, if_pos c1]]; exact Ev.pos c1 (Ev.now _)
    · rw [show quot t e q = -q by unfold quot; rw [if_neg c, if_neg c1]]; exact Ev.neg c1 (Ev.now _)

theorem awake_ev : Ev (fun k => shapesearchlaw02_awake.f k) true :=
  Ev.of shapesearchlaw02_awake.mono (k := 100) (by decide +kernel)

theorem awake_and : Ev (fun k => (shapesearchlaw02_awake.f k).bind fun t => some t) true := Ev.bind awake_ev (Ev.now _)

theorem wf_u64 {n : Int} (h : (Lit.int .u64 n).wf = true) : 0 ≤ n ∧ n ≤ 18446744073709551615 := by
  simpa [Lit.wf, IntKind.min, IntKind.max, IntKind.signed, IntKind.bits] using h
theorem wf_u32 {n : Int} (h : (Lit.int .u32 n).wf = true) : 0 ≤ n ∧ n ≤ 4294967295 := by
  simpa [Lit.wf, IntKind.min, IntKind.max, IntKind.signed, IntKind.bits] using h
theorem wf_u16 {n : Int} (h : (Lit.int .u16 n).wf = true) : 0 ≤ n ∧ n ≤ 65535 := by
  simpa [Lit.wf, IntKind.min, IntKind.max, IntKind.signed, IntKind.bits] using h
theorem wf_u8 {n : Int} (h : (Lit.int .u8 n).wf = true) : 0 ≤ n ∧ n ≤ 255 := by
  simpa [Lit.wf, IntKind.min, IntKind.max, IntKind.signed, IntKind.bits] using h
theorem wf_i16 {n : Int} (h : (Lit.int .i16 n).wf = true) : -32768 ≤ n ∧ n ≤ 32767 := by
  simpa [Lit.wf, IntKind.min, IntKind.max, IntKind.signed, IntKind.bits] using h
theorem wf_i64 {n : Int} (h : (Lit.int .i64 n).wf = true) : -9223372036854775808 ≤ n ∧ n ≤ 9223372036854775807 := by
  simpa [Lit.wf, IntKind.min, IntKind.max, IntKind.signed, IntKind.bits] using h

theorem root_mono {a b p q : Int} (h : a ≤ b) (hp : IsRoot a p) (hq : IsRoot b q) : p ≤ q := by
  have := lt_of_sq (a := p) (b := q + 1) (by have := hq.1; omega) (by have := hp.2.1; have := hq.2.2; omega)
  omega

theorem quot_mono_t {t t' e q q' : Int} (he : 1 ≤ e) (h : t ≤ t') (hq : IsRoot (t * t / e) q) (hq' : IsRoot (t' * t' / e) q') : quot t e q ≤ quot t' e q' := by
  unfold quot
  by_cases c : 0 ≤ t
  · rw [if_pos c, if_pos (by omega)]
    exact root_mono (Int.ediv_le_ediv (by omega) (sq_mono c h)) hq hq'
  · rw [if_neg c]
    by_cases c' : 0 ≤ t'
    · rw [if_pos c']; have := hq.1; have := hq'.1; split <;> omega
    · rw [if_neg c']
      have hs : t' * t' ≤ t * t := by have := sq_mono (a := -t') (b := -t) (by omega) (by omega); rw [Int.neg_mul_neg, Int.neg_mul_neg] at this; exact this
      have hm := root_mono (Int.ediv_le_ediv (by omega) hs) hq' hq
      by_cases e : q' = q
      · subst e; split <;> split <;> omega
      · split <;> split <;> omega

theorem ediv_anti {a b b' : Int} (ha : 0 ≤ a) (hb : 0 < b) (h : b ≤ b') : a / b' ≤ a / b := by
  refine Int.le_ediv_of_mul_le hb ?_
  have h1 : a / b' * b ≤ a / b' * b' := Int.mul_le_mul_of_nonneg_left h (Int.ediv_nonneg ha (by omega))
  have h2 : a / b' * b' ≤ a := Int.ediv_mul_le _ (by omega)
  omega

theorem RootMonotone : shapesearchlaw02_RootMonotone.Pure := by
  intro a b t m ha hb ht hm
  have ha' := wf_u32 ha
  have hb' := wf_u32 hb
  have ht' := wf_i16 ht
  have hm' := wf_i16 hm
  have e0 : wrap64 a = a := w64 (by omega) (by omega)
  have e1 : wrap64 b = b := w64 (by omega) (by omega)
  have e2 : wrap64 t = t := w64 (by omega) (by omega)
  have e3 : wrap64 m = m := w64 (by omega) (by omega)
  refine Ev.rounds ?_
  unfold shapesearchlaw02_RootMonotone.f
  simp only [e0, e1, e2, e3]
  have hlo : mn a b ≤ mx a b ∧ 0 ≤ mn a b ∧ mx a b ≤ 4294967295 := by unfold mn mx; omega
  generalize mn a b = lo at hlo
  generalize mx a b = hi at hlo
  have hT : t ≤ mx t m ∧ mx t m ≤ 32767 := by unfold mx; omega
  generalize mx t m = T at hT
  have w1 : wrap64 (1 + lo) = 1 + lo := w64 (by omega) (by omega)
  have w2 : wrap64 (1 + hi) = 1 + hi := w64 (by omega) (by omega)
  simp only [w1, w2]
  have hsq : ∀ x : Int, -32768 ≤ x → x ≤ 32767 → x * x ≤ 32768 * 32768 ∧ 0 ≤ x * x := by
    intro x h0 h1
    rcases Int.le_total 0 x with c | c
    · exact ⟨sq_mono c (by omega), Int.mul_nonneg c c⟩
    · have h1 := sq_mono (a := -x) (b := 32768) (by omega) (by omega); have h2 := Int.mul_nonneg (a := -x) (b := -x) (by omega) (by omega)
      rw [Int.neg_mul_neg] at h1 h2; exact ⟨h1, h2⟩
  have hQ : ∀ x d : Int, -32768 ≤ x → x ≤ 32767 → 1 ≤ d → d ≤ 4294967296 → ∃ q, IsRoot (x * x / d) q ∧ Ev (fun k => root_Quotient.f k x d) (quot x d q, 0) := by
    intro x d h0 h1 h2 h3
    obtain ⟨s1, s0⟩ := hsq x h0 h1
    have hq1 : x * x / d ≤ x * x := Int.ediv_le_self _ s0
    obtain ⟨q, hq, _⟩ := root_ex (n := x * x / d) (Int.ediv_nonneg s0 (by omega)) (by omega)
    exact ⟨q, hq, (quot_ev hq (by omega) (by omega) (by omega) (by omega)).1⟩
  obtain ⟨x, hx, hX⟩ := hQ t (1 + lo) (by omega) (by omega) (by omega) (by omega)
  obtain ⟨y, hy, hY⟩ := hQ T (1 + lo) (by omega) (by omega) (by omega) (by omega)
  obtain ⟨z, hz, hZ⟩ := hQ t (1 + hi) (by omega) (by omega) (by omega) (by omega)
  obtain ⟨p, hp, _⟩ := root_ex (n := lo) (by omega) (by omega)
  obtain ⟨r, hr, _⟩ := root_ex (n := hi) (by omega) (by omega)
  have hpr := root_mono hlo.1 hp hr
  have hc : (if p * p < lo then p + 1 else p) ≤ (if r * r < hi then r + 1 else r) := by
    by_cases e : p = r
    · subst e; split <;> split <;> omega
    · split <;> split <;> omega
  refine Ev.bind hX (Ev.bind hY (Ev.bind hZ (Ev.bind (floor_ev hp (by omega)) (Ev.bind (floor_ev hr (by omega)) (Ev.pos hpr (Ev.bind (ceil_ev hp (by omega)) (Ev.bind (ceil_ev hr (by omega)) (Ev.pos hc (Ev.pos rfl (Ev.pos rfl (Ev.pos rfl (Ev.pos (quot_mono_t (by omega) hT.1 hx hy) ?_))))))))))))
  by_cases c : t < 0
  · exact Ev.pos c awake_and
  · refine Ev.neg c (Ev.pos ?_ awake_and)
    show quot t (1 + hi) z ≤ quot t (1 + lo) x
    unfold quot; rw [if_pos (by omega), if_pos (by omega)]
    exact root_mono (ediv_anti (hsq t (by omega) (by omega)).2 (by omega) (by omega)) hz hx

end Go.Proofs.Ytcdklnpmllganaa.Pure
