/- That the told functions answer as the statement StoreMade says, in plain Lean. There are no conditions. -/
import Derived.Test.YtkeddnagijjbaaaGreatTStoreMade0
set_option maxRecDepth 100000
set_option linter.unusedVariables false
set_option linter.unusedSimpArgs false
namespace Go.Proofs.YtkeddnagijjbaaaGreat.storeMade
open Go
theorem w64_id {x : Int} (h1 : -9223372036854775808 ≤ x) (h2 : x < 9223372036854775808) : w64 x = x := wrap_id h1 h2

/-- With enough rounds the answer is there, and it is as asked. -/
def Gives {α : Type} (f : Nat → Option α) (Q : α → Prop) : Prop := ∃ r, (∃ K, ∀ k, K ≤ k → f k = some r) ∧ Q r
theorem Gives.mono {α : Type} {f : Nat → Option α} {Q Q' : α → Prop} (h : Gives f Q) (k : ∀ r, Q r → Q' r) : Gives f Q' := by
 obtain ⟨r, h1, h2⟩ := h; exact ⟨r, h1, k r h2⟩
theorem Gives.now {α : Type} {r : α} {Q : α → Prop} (h : Q r) : Gives (fun _ => some r) Q := ⟨r, ⟨0, fun _ _ => rfl⟩, h⟩
theorem Gives.bind {α β : Type} {f : Nat → Option α} {g : Nat → α → Option β} {Q : α → Prop} {Q' : β → Prop} (h : Gives f Q) (k : ∀ a, Q a → Gives (fun n => g n a) Q') : Gives (fun n => (f n).bind (g n)) Q' := by
 obtain ⟨a, ⟨K, hK⟩, ha⟩ := h
 obtain ⟨r, ⟨K2, hK2⟩, hr⟩ := k a ha
 exact ⟨r, ⟨max K K2, fun n hn => by show (f n).bind (g n) = some r; rw [hK n (by omega), Option.bind_some]; exact hK2 n (by omega)⟩, hr⟩
theorem Gives.opt {α β : Type} {x : Option α} {a : α} {g : Nat → α → Option β} {Q : β → Prop} (h : x = some a) (k : Gives (fun n => g n a) Q) : Gives (fun n => x.bind (g n)) Q := by
 subst h; exact k
theorem Gives.step {α : Type} {f : Nat → Option α} {Q : α → Prop} (h : Gives (fun k => f (k + 1)) Q) : Gives f Q := by
 obtain ⟨r, ⟨K, hK⟩, hr⟩ := h
 refine ⟨r, ⟨K + 1, fun n hn => ?_⟩, hr⟩
 obtain ⟨m, rfl⟩ : ∃ m, n = m + 1 := ⟨n - 1, by omega⟩
 exact hK m (by omega)
theorem Gives.ite {α : Type} {c : Prop} [Decidable c] {f g : Nat → Option α} {Q : α → Prop} (h : c → Gives f Q) (k : ¬ c → Gives g Q) : Gives (fun n => if c then f n else g n) Q := by
 by_cases hc : c
 · simp only [if_pos hc]; exact h hc
 · simp only [if_neg hc]; exact k hc
theorem Gives.pos {α : Type} {c : Prop} [Decidable c] {f g : Nat → Option α} {Q : α → Prop} (hc : c) (h : Gives f Q) : Gives (fun n => if c then f n else g n) Q := by
 simp only [if_pos hc]; exact h
theorem Gives.neg {α : Type} {c : Prop} [Decidable c] {f g : Nat → Option α} {Q : α → Prop} (hc : ¬ c) (h : Gives g Q) : Gives (fun n => if c then f n else g n) Q := by
 simp only [if_neg hc]; exact h
theorem Gives.loop {S R : Type} {f : Nat → S → Option (S ⊕ R)} {Q : R → Prop} (Inv : S → Prop) (m : S → Nat)
 (h : ∀ s, Inv s → Gives (fun k => f k s) (fun x => match x with | .inl s' => Inv s' ∧ m s' < m s | .inr r => Q r)) {s : S} (hs : Inv s) : Gives (fun k => loopT (f k) k s) Q := by
 suffices H : ∀ (n : Nat) (s : S), m s < n → Inv s → ∃ r, (∃ K N, ∀ k, K ≤ k → ∀ j, N ≤ j → loopT (f k) j s = some r) ∧ Q r by
  obtain ⟨r, ⟨K, N, hK⟩, hr⟩ := H (m s + 1) s (by omega) hs
  exact ⟨r, ⟨max K N, fun k hk => hK k (by omega) k (by omega)⟩, hr⟩
 intro n
 induction n with
 | zero => intro s hs; omega
 | succ n ih =>
  intro s hs hI
  obtain ⟨x, ⟨K, hK⟩, hx⟩ := h s hI
  cases x with
  | inl s' =>
   obtain ⟨r, ⟨K2, N, hK2⟩, hr⟩ := ih s' (by have := hx.2; omega) hx.1
   refine ⟨r, ⟨max K K2, N + 1, fun k hk j hj => ?_⟩, hr⟩
   obtain ⟨j', rfl⟩ : ∃ j', j = j' + 1 := ⟨j - 1, by omega⟩
   simp only [loopT, hK k (by omega), Option.bind_some]
   exact hK2 k (by omega) j' (by omega)
  | inr r =>
   refine ⟨r, ⟨K, 1, fun k hk j hj => ?_⟩, hx⟩
   obtain ⟨j', rfl⟩ : ∃ j', j = j' + 1 := ⟨j - 1, by omega⟩
   simp only [loopT, hK k hk, Option.bind_some]
theorem Gives.true {f : Nat → Option Bool} (h : Gives f (· = true)) : ∃ k, f k = some true := by
 obtain ⟨r, ⟨K, hK⟩, hr⟩ := h
 subst hr
 exact ⟨K, hK K (Nat.le_refl _)⟩
/-- An element of a list, 0 outside of it. -/
def rd (xs : List Int) (i : Int) : Int := xs.getD i.toNat 0
theorem at_rd {xs : List Int} {i : Int} (h0 : 0 ≤ i) (h1 : i < (xs.length : Int)) : at? xs i = some (rd xs i) := by
 unfold at? rd
 rw [if_pos h0, List.getD_eq_getElem?_getD, List.getElem?_eq_getElem (by omega)]; rfl
/-- All numbers are samples. -/
def Smp (xs : List Int) : Prop := ∀ v ∈ xs, -1000 ≤ v ∧ v ≤ 1000
theorem Smp.rd {xs : List Int} (h : Smp xs) (i : Int) : -1000 ≤ rd xs i ∧ rd xs i ≤ 1000 := by
 show -1000 ≤ xs.getD i.toNat 0 ∧ xs.getD i.toNat 0 ≤ 1000
 rw [List.getD_eq_getElem?_getD]
 rcases Nat.lt_or_ge i.toNat xs.length with c | c
 · rw [List.getElem?_eq_getElem c]; exact h _ (List.getElem_mem c)
 · rw [List.getElem?_eq_none c]; decide
theorem Smp.nil : Smp [] := fun _ h => by simp at h
theorem Smp.one {v : Int} (h0 : -1000 ≤ v) (h1 : v ≤ 1000) : Smp [v] := fun u hu => by
 obtain rfl := List.mem_singleton.1 hu; exact ⟨h0, h1⟩
theorem Smp.take {xs : List Int} (h : Smp xs) (n : Nat) : Smp (xs.take n) := fun v hv => h v (List.mem_of_mem_take hv)
theorem Smp.drop {xs : List Int} (h : Smp xs) (n : Nat) : Smp (xs.drop n) := fun v hv => h v (List.mem_of_mem_drop hv)
theorem Smp.set {xs : List Int} (h : Smp xs) (n : Nat) {v : Int} (h0 : -1000 ≤ v) (h1 : v ≤ 1000) : Smp (xs.set n v) := fun u hu => by
 rcases List.mem_or_eq_of_mem_set hu with h2 | h2
 · exact h u h2
 · subst h2; exact ⟨h0, h1⟩
/-! The greatest common divisor. -/
theorem gcd_step (m n : Nat) (h : n ≠ 0) : Nat.gcd n (m % n) = Nat.gcd m n := by
 rw [Nat.gcd_comm m n, Nat.gcd_rec n m, Nat.gcd_comm]
theorem tmod_nat (m n : Nat) : (m : Int).tmod n = ((m % n : Nat) : Int) := by
 rw [Int.tmod_eq_emod_of_nonneg (by omega)]; rfl
theorem ra_divisor (m n : Nat) : Gives (fun k => T_ratio_divisor k m n) (fun r => r = (Nat.gcd m n : Nat)) := by
 refine Gives.step ?_
 simp only [T_ratio_divisor]
 refine Gives.bind (Q := fun r => r = ((Nat.gcd m n : Nat) : Int)) ?_ fun r hr => Gives.now hr
 refine Gives.loop (fun s => ∃ a b : Nat, s = ((a : Int), (b : Int)) ∧ Nat.gcd a b = Nat.gcd m n) (fun s => s.2.toNat) ?_ ⟨m, n, rfl, rfl⟩
 intro s ⟨a, b, hs, hg⟩
 subst hs
 unfold T_ratio_divisor_l1
 simp only []
 by_cases c : b = 0
 · subst c
   refine Gives.neg (by simp) (Gives.now ?_)
   rw [← hg]; simp
 · refine Gives.pos (by simp; omega) (Gives.pos (by omega) (Gives.now ⟨⟨b, a % b, by rw [tmod_nat], by rw [gcd_step a b c, hg]⟩, ?_⟩))
   simp only [tmod_nat]
   have := Nat.mod_lt a (show 0 < b by omega)
   omega
theorem ra_common (m n : Nat) : Gives (fun k => T_ref01_common k m n) (fun r => r = (Nat.gcd m n : Nat)) := by
 refine Gives.step ?_
 simp only [T_ref01_common]
 refine Gives.bind (Q := fun r => r = ((Nat.gcd m n : Nat) : Int)) ?_ fun r hr => Gives.now hr
 refine Gives.loop (fun s => ∃ a b : Nat, s = ((a : Int), (b : Int)) ∧ Nat.gcd a b = Nat.gcd m n) (fun s => s.2.toNat) ?_ ⟨m, n, rfl, rfl⟩
 intro s ⟨a, b, hs, hg⟩
 subst hs
 unfold T_ref01_common_l1
 simp only []
 by_cases c : b = 0
 · subst c
   refine Gives.neg (by simp) (Gives.now ?_)
   rw [← hg]; simp
 · refine Gives.pos (by omega) (Gives.pos (by omega) (Gives.now ⟨⟨b, a % b, by rw [tmod_nat], by rw [gcd_step a b c, hg]⟩, ?_⟩))
   simp only [tmod_nat]
   have := Nat.mod_lt a (show 0 < b by omega)
   omega
theorem tdiv_nat (m n : Nat) : (m : Int).tdiv n = ((m / n : Nat) : Int) := by
 rw [Int.tdiv_eq_ediv_of_nonneg (by omega)]; rfl
/-! Sums of ratios. -/
/-- p / q is T / M, in lowest terms. -/
structure Rep (p q T M : Nat) : Prop where
 pos : 0 < q
 cop : Nat.gcd p q = 1
 eq : p * M = T * q
theorem Rep.dvd {p q T M : Nat} (h : Rep p q T M) : q ∣ M := by
 have : q ∣ p * M := ⟨T, by rw [h.eq, Nat.mul_comm]⟩
 exact Nat.Coprime.dvd_of_dvd_mul_left (Nat.coprime_comm.1 h.cop) this
theorem Rep.le {p q T M : Nat} (h : Rep p q T M) (hM : 0 < M) : p ≤ T ∧ q ≤ M := by
 obtain ⟨m, hm⟩ := h.dvd
 have e := h.eq
 have hm0 : 0 < m := by
  rcases Nat.eq_zero_or_pos m with c | c
  · subst c; omega
  · exact c
 refine ⟨?_, Nat.le_of_dvd hM h.dvd⟩
 have : p * m = T := by
  have h1 : q * (p * m) = q * T := by
   rw [hm] at e
   calc q * (p * m) = p * (q * m) := by grind
    _ = T * q := e
    _ = q * T := Nat.mul_comm _ _
  exact Nat.eq_of_mul_eq_mul_left h.pos h1
 calc p = p * 1 := by omega
  _ ≤ p * m := Nat.mul_le_mul_left p hm0
  _ = T := this
theorem Rep.make {m n w : Nat} (hn : 0 < n) : Rep (m / Nat.gcd m n) (n / Nat.gcd m n) (m * w) (n * w) := by
 have g0 : 0 < Nat.gcd m n := Nat.gcd_pos_of_pos_right m hn
 refine ⟨Nat.div_pos (Nat.gcd_le_right m hn) g0, by rw [Nat.gcd_div (Nat.gcd_dvd_left m n) (Nat.gcd_dvd_right m n), Nat.div_self g0], ?_⟩
 obtain ⟨a, ha⟩ := Nat.gcd_dvd_left m n
 obtain ⟨b, hb⟩ := Nat.gcd_dvd_right m n
 generalize Nat.gcd m n = g at ha hb g0
 subst ha hb
 rw [Nat.mul_div_cancel_left _ g0, Nat.mul_div_cancel_left _ g0]
 grind
/-! Words of 64 bits. -/

/-! Sums of ratios, as they are reckoned. -/
theorem u64_id {x : Int} (h1 : 0 ≤ x) (h2 : x < 18446744073709551616) : IntKind.wrap .u64 x = x := by
 show (if (false && decide (x % 18446744073709551616 ≥ 9223372036854775808)) = true then x % 18446744073709551616 - 18446744073709551616 else x % 18446744073709551616) = x
 simp only [Bool.false_and, Bool.false_eq_true, if_false]
 omega
theorem and_mask {x : Int} (h1 : 0 ≤ x) (h2 : x < 18446744073709551616) : bAnd .u64 x 4294967295 = x % 4294967296 := by
 obtain ⟨n, rfl⟩ : ∃ n : Nat, x = n := ⟨x.toNat, by omega⟩
 unfold bAnd
 have e : (BitVec.ofInt (IntKind.bits .u64) (n : Int) &&& BitVec.ofInt (IntKind.bits .u64) 4294967295).toNat = n % 4294967296 := by
  show (BitVec.ofInt 64 (n : Int) &&& BitVec.ofInt 64 4294967295).toNat = _
  rw [BitVec.toNat_and, BitVec.ofInt_natCast, BitVec.toNat_ofNat, Nat.mod_eq_of_lt (by omega)]
  have : (BitVec.ofInt 64 4294967295).toNat = 2 ^ 32 - 1 := by decide
  rw [this, Nat.and_two_pow_sub_one_eq_mod]
 rw [e, u64_id (by omega) (by omega)]
 rfl
/-- The high word of a product that fits one word. -/
def hiE (x y : Int) : Int := IntKind.wrap .u64 ((IntKind.wrap .u64 ((IntKind.wrap .u64 ((x.fdiv (2 ^ 32)) * (y.fdiv (2 ^ 32)))) + ((IntKind.wrap .u64 ((IntKind.wrap .u64 ((x.fdiv (2 ^ 32)) * (bAnd .u64 y 4294967295))) + ((IntKind.wrap .u64 ((bAnd .u64 x 4294967295) * (bAnd .u64 y 4294967295))).fdiv (2 ^ 32)))).fdiv (2 ^ 32)))) + ((IntKind.wrap .u64 ((bAnd .u64 (IntKind.wrap .u64 ((IntKind.wrap .u64 ((x.fdiv (2 ^ 32)) * (bAnd .u64 y 4294967295))) + ((IntKind.wrap .u64 ((bAnd .u64 x 4294967295) * (bAnd .u64 y 4294967295))).fdiv (2 ^ 32)))) 4294967295) + (IntKind.wrap .u64 ((bAnd .u64 x 4294967295) * (y.fdiv (2 ^ 32)))))).fdiv (2 ^ 32)))
theorem ra_mul (x y : Int) : Gives (fun k => T_math_bits_Mul64 k x y) (fun _ => True) := by
 refine Gives.step ?_
 simp only [T_math_bits_Mul64]
 exact Gives.now trivial
theorem r01_valid {p q : Nat} (h : Nat.gcd p q = 1) (h0 : 0 < q) (h1 : p ≤ 2305843009213693952) (h2 : q ≤ 1152921504606846976) : Gives (fun k => T_ref01_Valid k p q) (· = true) := by
 refine Gives.step ?_
 simp only [T_ref01_Valid]
 refine Gives.bind (Q := fun b => b = true) ?_ fun b hb => Gives.now hb
 refine Gives.pos (by simp; omega) (Gives.bind (ra_common p q) fun g hg => Gives.now ?_)
 rw [hg, h]; rfl

theorem r01_make {m n : Nat} (hn : 0 < n) (h1 : m ≤ 2305843009213693952) (h2 : n ≤ 1152921504606846976) : Gives (fun k => T_ref01_Make k m n) (fun r => ∃ p q : Nat, r = ((p : Int), (q : Int), 0) ∧ Rep p q m n) := by
 have R := Rep.make (m := m) (n := n) (w := 1) hn
 rw [Nat.mul_one, Nat.mul_one] at R
 have l := R.le hn
 have g0 : 0 < Nat.gcd m n := Nat.gcd_pos_of_pos_right m hn
 refine Gives.step ?_
 simp only [T_ref01_Make]
 refine Gives.neg (by simp; omega) (Gives.bind (ra_common m n) fun g hg => ?_)
 subst hg
 simp only [tdiv_nat]
 generalize m / Nat.gcd m n = u at R l ⊢
 generalize n / Nat.gcd m n = v at R l ⊢
 rw [w64_id (x := (u : Int)) (by omega) (by omega), w64_id (x := (v : Int)) (by omega) (by omega)]
 refine Gives.pos (by omega) (Gives.bind (r01_valid R.cop R.pos (by omega) (by omega)) fun v hv => Gives.neg (by simp [hv]) (Gives.now ⟨_, _, rfl, R⟩))

/-! The order of ratios. -/
theorem ro_order : ∀ (n a b c d : Nat), b + d < n → 0 < b → 0 < d → a < 4611686018427387904 → c < 4611686018427387904 → b < 4611686018427387904 → d < 4611686018427387904 → Gives (fun k => T_ref01_order k a b c d) (fun r => (a * d < c * b ∧ r = -1) ∨ (a * d = c * b ∧ r = 0) ∨ (c * b < a * d ∧ r = 1))
 | 0, _, _, _, _, h, _, _, _, _, _, _ => by omega
 | n + 1, a, b, c, d, h, hb, hd, la, lc, lb, ld => by
  refine Gives.step ?_
  simp only [T_ref01_order, tdiv_nat, tmod_nat]
  have q1 : a / b ≤ a := Nat.div_le_self _ _
  have q2 : c / d ≤ c := Nat.div_le_self _ _
  have ea := Nat.div_add_mod a b
  have ec := Nat.div_add_mod c d
  have ra := Nat.mod_lt a hb
  have rc := Nat.mod_lt c hd
  have fin : ∀ (u v : Nat) (r : Int), (u < v ↔ a * d < c * b) → (u = v ↔ a * d = c * b) → ((u < v ∧ r = -1) ∨ (u = v ∧ r = 0) ∨ (v < u ∧ r = 1)) → (a * d < c * b ∧ r = -1) ∨ (a * d = c * b ∧ r = 0) ∨ (c * b < a * d ∧ r = 1) := by
   intro u v r h1 h2 h3
   rcases h3 with ⟨h, e⟩ | ⟨h, e⟩ | ⟨h, e⟩
   · exact Or.inl ⟨h1.1 h, e⟩
   · exact Or.inr (Or.inl ⟨h2.1 h, e⟩)
   · refine Or.inr (Or.inr ⟨?_, e⟩)
     have n1 : ¬ a * d < c * b := fun g => by have := h1.2 g; omega
     have n2 : ¬ a * d = c * b := fun g => by have := h2.2 g; omega
     omega
  generalize a / b = p at ea q1 ⊢
  generalize c / d = q at ec q2 ⊢
  generalize a % b = a' at ea ra ⊢
  generalize c % d = c' at ec rc ⊢
  rw [w64_id (x := (p : Int)) (by omega) (by omega), w64_id (x := (q : Int)) (by omega) (by omega)]
  have eA : a * d = p * (b * d) + a' * d := by rw [← ea]; grind
  have eC : c * b = q * (b * d) + c' * b := by rw [← ec]; grind
  have lA : a' * d < b * d := Nat.mul_lt_mul_of_pos_right ra hd
  have lC : c' * b < b * d := by rw [Nat.mul_comm b d]; exact Nat.mul_lt_mul_of_pos_right rc hb
  refine Gives.pos (by omega) (Gives.pos (by omega) (Gives.ite (fun cc => ?_) fun cc => ?_))
  · have ne : p ≠ q := by
     intro e; subst e; simp at cc
    refine Gives.ite (fun lt => Gives.now ?_) fun lt => Gives.now ?_
    · have : (p + 1) * (b * d) ≤ q * (b * d) := Nat.mul_le_mul_right _ (by omega)
      rw [Nat.add_mul] at this
      exact Or.inl ⟨by omega, rfl⟩
    · have : (q + 1) * (b * d) ≤ p * (b * d) := Nat.mul_le_mul_right _ (by omega)
      rw [Nat.add_mul] at this
      exact Or.inr (Or.inr ⟨by omega, rfl⟩)
  · have eq : p = q := by
     simp at cc; omega
    subst eq
    refine Gives.pos (by omega) (Gives.pos (by omega) (Gives.ite (fun z => Gives.now ?_) fun z => Gives.ite (fun z1 => Gives.now ?_) fun z1 => Gives.ite (fun z2 => Gives.now ?_) fun z2 => ?_))
    · simp at z
      obtain ⟨rfl, rfl⟩ := z
      exact Or.inr (Or.inl ⟨by omega, rfl⟩)
    · have e1 : a' = 0 := by omega
      subst e1
      simp at z
      have : 0 < c' * b := Nat.mul_pos (by omega) hb
      exact Or.inl ⟨by omega, rfl⟩
    · have e1 : c' = 0 := by omega
      subst e1
      have : 0 < a' * d := Nat.mul_pos (by omega) hd
      exact Or.inr (Or.inr ⟨by omega, rfl⟩)
    · refine Gives.bind (ro_order n d c' b a' (by omega) (by omega) (by omega) (by omega) (by omega) (by omega) (by omega)) fun r hr => Gives.now ?_
      rw [Nat.mul_comm d a', Nat.mul_comm b c'] at hr
      exact fin (a' * d) (c' * b) r (by omega) (by omega) hr
/-! Products of two words; ratios of any numbers compared. -/
/-- The high word of a product. -/
theorem hi_eq {x y : Int} (hx : 0 ≤ x) (hx2 : x < 18446744073709551616) (hy : 0 ≤ y) (hy2 : y < 18446744073709551616) : hiE x y = x * y / 18446744073709551616 := by
 have p : ((2 : Int) ^ 32) = 4294967296 := by decide
 have f1 : y.fdiv 4294967296 = y / 4294967296 := Int.fdiv_eq_ediv_of_nonneg _ (by omega)
 have f2 : x.fdiv 4294967296 = x / 4294967296 := Int.fdiv_eq_ediv_of_nonneg _ (by omega)
 unfold hiE
 rw [p, f1, f2, and_mask hx hx2, and_mask hy hy2]
 have dx := Int.emod_add_mul_ediv x 4294967296
 have dy := Int.emod_add_mul_ediv y 4294967296
 have qx0 : 0 ≤ x / 4294967296 := by omega
 have qx1 : x / 4294967296 ≤ 4294967295 := by omega
 have rx0 : 0 ≤ x % 4294967296 := by omega
 have rx1 : x % 4294967296 ≤ 4294967295 := by omega
 have qy0 : 0 ≤ y / 4294967296 := by omega
 have qy1 : y / 4294967296 ≤ 4294967295 := by omega
 have ry0 : 0 ≤ y % 4294967296 := by omega
 have ry1 : y % 4294967296 ≤ 4294967295 := by omega
 generalize x / 4294967296 = a at dx qx0 qx1 ⊢
 generalize x % 4294967296 = b at dx rx0 rx1 ⊢
 generalize y / 4294967296 = c at dy qy0 qy1 ⊢
 generalize y % 4294967296 = d at dy ry0 ry1 ⊢
 have bound : ∀ u v : Int, 0 ≤ u → u ≤ 4294967295 → 0 ≤ v → v ≤ 4294967295 → 0 ≤ u * v ∧ u * v ≤ 18446744065119617025 := fun u v u0 u1 v0 v1 =>
  ⟨Int.mul_nonneg u0 v0, Int.le_trans (Int.mul_le_mul u1 v1 v0 (by omega)) (by omega)⟩
 have e : x * y = a * c * 18446744073709551616 + (a * d + b * c) * 4294967296 + b * d := by rw [← dx, ← dy]; grind
 obtain ⟨ac0, ac1⟩ := bound a c qx0 qx1 qy0 qy1
 obtain ⟨ad0, ad1⟩ := bound a d qx0 qx1 ry0 ry1
 obtain ⟨bc0, bc1⟩ := bound b c rx0 rx1 qy0 qy1
 obtain ⟨bd0, bd1⟩ := bound b d rx0 rx1 ry0 ry1
 rw [e]
 generalize a * c = A at *
 generalize a * d = X at *
 generalize b * c = Y at *
 generalize b * d = Z at *
 have f3 : Z.fdiv 4294967296 = Z / 4294967296 := Int.fdiv_eq_ediv_of_nonneg _ (by omega)
 rw [u64_id ac0 (by omega), u64_id ad0 (by omega), u64_id bd0 (by omega), u64_id bc0 (by omega), f3, u64_id (x := X + Z / 4294967296) (by omega) (by omega)]
 have f4 : (X + Z / 4294967296).fdiv 4294967296 = (X + Z / 4294967296) / 4294967296 := Int.fdiv_eq_ediv_of_nonneg _ (by omega)
 rw [f4, and_mask (by omega) (by omega), u64_id (x := (X + Z / 4294967296) % 4294967296 + Y) (by omega) (by omega)]
 have f5 : ((X + Z / 4294967296) % 4294967296 + Y).fdiv 4294967296 = ((X + Z / 4294967296) % 4294967296 + Y) / 4294967296 := Int.fdiv_eq_ediv_of_nonneg _ (by omega)
 rw [f5, u64_id (x := A + (X + Z / 4294967296) / 4294967296) (by omega) (by omega)]
 rw [u64_id (by omega) (by omega)]
 omega
/-- A ratio is valid. -/
def vR (p q : Int) : Bool := decide (0 ≤ p) && decide (p ≤ 2305843009213693952) && decide (1 ≤ q) && decide (q ≤ 1152921504606846976) && decide (Nat.gcd p.toNat q.toNat = 1)
theorem vR_spec {p q : Int} (h : vR p q = true) : ∃ m n : Nat, p = m ∧ q = n ∧ Nat.gcd m n = 1 ∧ 0 < n ∧ m ≤ 2305843009213693952 ∧ n ≤ 1152921504606846976 := by
 simp only [vR, Bool.and_eq_true, decide_eq_true_eq] at h
 exact ⟨p.toNat, q.toNat, by omega, by omega, h.2, by omega, by omega, by omega⟩
theorem ra_validI (p q : Int) : Gives (fun k => T_ratio_Valid k p q) (· = vR p q) := by
 refine Gives.step ?_
 simp only [T_ratio_Valid]
 refine Gives.bind (Q := fun b => b = vR p q) ?_ fun b hb => Gives.now hb
 refine Gives.bind (Q := fun _ => True) (Gives.step (by simp only [T_ratio_within]; exact Gives.now trivial)) fun _ _ => Gives.ite (fun h => ?_) fun h => Gives.now ?_
 · simp only [Bool.and_eq_true, decide_eq_true_eq] at h
   obtain ⟨m, rfl⟩ : ∃ m : Nat, p = m := ⟨p.toNat, by omega⟩
   obtain ⟨n, rfl⟩ : ∃ n : Nat, q = n := ⟨q.toNat, by omega⟩
   refine Gives.bind (ra_divisor m n) fun g hg => Gives.now ?_
   simp only [vR, hg, Int.toNat_natCast]
   have e1 : decide ((0 : Int) ≤ m) = true := by simp
   have e2 : decide ((m : Int) ≤ 2305843009213693952) = true := by simp; omega
   have e3 : decide ((1 : Int) ≤ n) = true := by simp; omega
   have e4 : decide ((n : Int) ≤ 1152921504606846976) = true := by simp; omega
   rw [e1, e2, e3, e4]
   simp only [Bool.and_true, Bool.true_and]
   exact decide_eq_decide.2 (by omega)
 · cases hv : vR p q with
   | false => rfl
   | true => exact absurd (by obtain ⟨m, n, rfl, rfl, _, h1, h2, h3⟩ := vR_spec hv; simp; omega) h
theorem r01_validI (p q : Int) : Gives (fun k => T_ref01_Valid k p q) (· = vR p q) := by
 refine Gives.step ?_
 simp only [T_ref01_Valid]
 refine Gives.bind (Q := fun b => b = vR p q) ?_ fun b hb => Gives.now hb
 refine Gives.ite (fun h => ?_) fun h => Gives.now ?_
 · simp only [Bool.and_eq_true, decide_eq_true_eq] at h
   obtain ⟨m, rfl⟩ : ∃ m : Nat, p = m := ⟨p.toNat, by omega⟩
   obtain ⟨n, rfl⟩ : ∃ n : Nat, q = n := ⟨q.toNat, by omega⟩
   refine Gives.bind (ra_common m n) fun g hg => Gives.now ?_
   simp only [vR, hg, Int.toNat_natCast]
   have e1 : decide ((0 : Int) ≤ m) = true := by simp
   have e2 : decide ((m : Int) ≤ 2305843009213693952) = true := by simp; omega
   have e3 : decide ((1 : Int) ≤ n) = true := by simp; omega
   have e4 : decide ((n : Int) ≤ 1152921504606846976) = true := by simp; omega
   rw [e1, e2, e3, e4]
   simp only [Bool.and_true, Bool.true_and]
   exact decide_eq_decide.2 (by omega)
 · cases hv : vR p q with
   | false => rfl
   | true => exact absurd (by obtain ⟨m, n, rfl, rfl, _, h1, h2, h3⟩ := vR_spec hv; simp; omega) h
/-- Less, for valid ratios. -/
def lR (a b c d : Int) : Bool := vR a b && (vR c d && decide (a * d < c * b))
theorem ra_less (a b c d : Int) : Gives (fun k => T_ratio_Less k a b c d) (· = lR a b c d) := by
 refine Gives.step ?_
 simp only [T_ratio_Less]
 refine Gives.bind (Q := fun r => decide (r < 0) = lR a b c d) ?_ fun r hr => Gives.now hr
 refine Gives.step ?_
 simp only [T_ratio_Cmp]
 refine Gives.bind (Q := fun r => r = !(vR a b && vR c d)) ?_ fun r hr => ?_
 · refine Gives.bind (ra_validI a b) fun v hv => Gives.ite (fun h => Gives.now ?_) fun h => Gives.bind (ra_validI c d) fun w hw => Gives.now ?_
   · rw [← hv]; simp only [Bool.not_eq_true'] at h; rw [h]; rfl
   · rw [← hv, hw]; simp only [Bool.not_eq_true', Bool.not_eq_false] at h; rw [h]; rfl
 subst hr
 cases h1 : vR a b with
 | false => exact Gives.pos (by simp) (Gives.now (by simp [lR, h1]))
 | true =>
  cases h2 : vR c d with
  | false => exact Gives.pos (by simp) (Gives.now (by simp [lR, h1, h2]))
  | true =>
   refine Gives.neg (by simp) ?_
   obtain ⟨m, n, rfl, rfl, _, n0, m1, n1⟩ := vR_spec h1
   obtain ⟨p, q, rfl, rfl, _, q0, p1, q1⟩ := vR_spec h2
   have hl : lR m n p q = decide ((m : Int) * q < p * n) := by simp [lR, h1, h2]
   rw [hl]
   refine Gives.bind (ra_mul _ _) fun _ _ => Gives.bind (ra_mul _ _) fun _ _ => ?_
   rw [u64_id (x := (m : Int)) (by omega) (by omega), u64_id (x := (n : Int)) (by omega) (by omega), u64_id (x := (p : Int)) (by omega) (by omega), u64_id (x := (q : Int)) (by omega) (by omega)]
   have g1 := hi_eq (x := (m : Int)) (y := q) (by omega) (by omega) (by omega) (by omega)
   have g2 := hi_eq (x := (p : Int)) (y := n) (by omega) (by omega) (by omega) (by omega)
   unfold hiE at g1 g2
   rw [g1, g2]
   have lo : ∀ z : Int, IntKind.wrap .u64 z = z % 18446744073709551616 := fun z => by
    show (if (false && decide (z % 18446744073709551616 ≥ 9223372036854775808)) = true then z % 18446744073709551616 - 18446744073709551616 else z % 18446744073709551616) = _
    simp
   rw [lo, lo]
   generalize (m : Int) * q = X
   generalize (p : Int) * n = Y
   refine Gives.ite (fun h => Gives.now ?_) fun h => Gives.ite (fun h' => Gives.now ?_) fun h' => Gives.now ?_
   · simp only [Bool.or_eq_true, Bool.and_eq_true, decide_eq_true_eq] at h
     have : X < Y := by omega
     simp [this]
   · simp only [Bool.or_eq_true, Bool.and_eq_true, decide_eq_true_eq] at h h'
     have : ¬ X < Y := by omega
     simp [this]
   · simp only [Bool.or_eq_true, Bool.and_eq_true, decide_eq_true_eq] at h h'
     have : ¬ X < Y := by omega
     simp [this]
theorem r01_less (a b c d : Int) : Gives (fun k => T_ref01_Less k a b c d) (· = lR a b c d) := by
 refine Gives.step ?_
 simp only [T_ref01_Less]
 refine Gives.bind (Q := fun r => decide (r < 0) = lR a b c d) ?_ fun r hr => Gives.now hr
 refine Gives.step ?_
 simp only [T_ref01_Cmp]
 refine Gives.bind (Q := fun r => r = !(vR a b && vR c d)) ?_ fun r hr => ?_
 · refine Gives.bind (r01_validI a b) fun v hv => Gives.ite (fun h => Gives.now ?_) fun h => Gives.bind (r01_validI c d) fun w hw => Gives.now ?_
   · rw [← hv]; simp only [Bool.not_eq_true'] at h; rw [h]; rfl
   · rw [← hv, hw]; simp only [Bool.not_eq_true', Bool.not_eq_false] at h; rw [h]; rfl
 subst hr
 cases h1 : vR a b with
 | false => exact Gives.pos (by simp) (Gives.now (by simp [lR, h1]))
 | true =>
  cases h2 : vR c d with
  | false => exact Gives.pos (by simp) (Gives.now (by simp [lR, h1, h2]))
  | true =>
   refine Gives.neg (by simp) ?_
   obtain ⟨m, n, rfl, rfl, _, n0, m1, n1⟩ := vR_spec h1
   obtain ⟨p, q, rfl, rfl, _, q0, p1, q1⟩ := vR_spec h2
   have hl : lR m n p q = decide ((m : Int) * q < p * n) := by simp [lR, h1, h2]
   rw [hl]
   refine Gives.bind (ro_order (n + q + 1) m n p q (by omega) n0 q0 (by omega) (by omega) (by omega) (by omega)) fun r hr => Gives.now ?_
   have c1 : ((m * q : Nat) : Int) = (m : Int) * q := by simp
   have c2 : ((p * n : Nat) : Int) = (p : Int) * n := by simp
   rw [← c1, ← c2]
   rcases hr with ⟨h, rfl⟩ | ⟨h, rfl⟩ | ⟨h, rfl⟩
   · have : ((m * q : Nat) : Int) < ((p * n : Nat) : Int) := by omega
     simp only [this]; decide
   · have : ¬ ((m * q : Nat) : Int) < ((p * n : Nat) : Int) := by omega
     simp only [this]; decide
   · have : ¬ ((m * q : Nat) : Int) < ((p * n : Nat) : Int) := by omega
     simp only [this]; decide

/-! Stores: their checks, the starts of windows, places, windows. -/
theorem at_nat {α : Type} {xs : List α} {n : Nat} (h : n < xs.length) : at? xs (n : Int) = some xs[n] := by
 unfold at?
 rw [if_pos (by omega), Int.toNat_natCast, List.getElem?_eq_getElem h]
theorem w64_nat {n : Nat} (h : n ≤ 140737488351232) : w64 ((n : Int) + 1) = ((n + 1 : Nat) : Int) := by
 rw [w64_id (by omega) (by omega)]; omega
theorem any_take {α : Type} {p : α → Bool} {xs : List α} {n : Nat} (h : n < xs.length) : (xs.take (n + 1)).any p = ((xs.take n).any p || p xs[n]) := by
 rw [List.take_succ_eq_append_getElem h, List.any_append]
 simp
theorem any_at {α : Type} {p : α → Bool} {xs : List α} {n : Nat} (h : n < xs.length) (hp : p xs[n] = true) : xs.any p = true := List.any_eq_true.2 ⟨_, List.getElem_mem h, hp⟩
/-- A number that is neither a sample nor what stands for a missing one. -/
def badS (v : Int) : Bool := !decide (v = 1073741824) && !(decide (-1000 ≤ v) && decide (v ≤ 1000))
/-- A row that is not too long. -/
def Short (l : List Int) : Prop := l.length ≤ 140737488351232
theorem sto_bad (v : Int) : Gives (fun k => T_store_Check_1 k v) (· = badS v) := by
 refine Gives.step ?_
 simp only [T_store_Check_1]
 refine Gives.bind (Q := fun b => b = badS v) ?_ fun b hb => Gives.now hb
 refine Gives.ite (fun h => ?_) fun h => Gives.now ?_
 · refine Gives.bind (Q := fun _ => True) (Gives.step (by simp only [T_store_sample]; exact Gives.now trivial)) fun _ _ => Gives.now ?_
   simp only [badS, h, Bool.true_and]
 · simp only [Bool.not_eq_true', Bool.not_eq_false] at h
   simp only [badS, h, Bool.not_true, Bool.false_and]
theorem sto_any {xs : List Int} (hx : Short xs) : Gives (fun k => T_slices_ContainsFunc_b354 k xs) (· = xs.any badS) := by
 refine Gives.step ?_
 simp only [T_slices_ContainsFunc_b354]
 refine Gives.bind (Q := fun r => decide (0 ≤ r) = xs.any badS) ?_ fun r hr => Gives.now hr
 refine Gives.step ?_
 simp only [T_slices_IndexFunc_b354]
 refine Gives.bind (Q := fun (r : Unit ⊕ Int) => match r with | .inl _ => xs.any badS = false | .inr i => 0 ≤ i ∧ xs.any badS = true) ?_ fun r hr => ?_
 · refine Gives.loop (fun (s : Int) => ∃ n : Nat, s = n ∧ n ≤ xs.length ∧ (xs.take n).any badS = false) (fun s => xs.length - s.toNat) ?_ ⟨0, rfl, by omega, by simp⟩
   rintro s ⟨n, rfl, hn, ha⟩
   unfold T_slices_IndexFunc_b354_l1
   refine Gives.ite (fun h => ?_) fun h => Gives.now ?_
   · have h : n < xs.length := by omega
     refine Gives.opt (at_nat h) (Gives.bind (sto_bad _) fun b hb => ?_)
     subst hb
     refine Gives.ite (fun hb => Gives.now ?_) fun hb => Gives.now ?_
     · exact ⟨by omega, any_at h hb⟩
     · unfold Short at hx
       rw [w64_nat (by omega)]
       refine ⟨⟨n + 1, rfl, h, by rw [any_take h, ha]; simpa using hb⟩, by simp only [Int.toNat_natCast]; omega⟩
   · have : n = xs.length := by omega
     rw [this, List.take_length] at ha
     exact ha
 · cases r with
   | inl u => exact Gives.now (by simp only at hr; rw [hr]; decide)
   | inr i => exact Gives.now (by simp only at hr; rw [hr.2]; simpa using hr.1)
/-- The number of all samples. -/
def tot (xss : List (List Int)) : Nat := (xss.map List.length).sum
theorem tot_take {xss : List (List Int)} {n : Nat} (h : n < xss.length) : tot (xss.take (n + 1)) = tot (xss.take n) + xss[n].length := by
 unfold tot
 rw [List.take_succ_eq_append_getElem h, List.map_append, List.sum_append]
 simp only [List.map_cons, List.map_nil, List.sum_cons, List.sum_nil, Nat.add_zero]
theorem tot_le {xss : List (List Int)} (n : Nat) : tot (xss.take n) ≤ tot xss := by
 unfold tot
 conv => rhs; rw [← List.take_append_drop n xss]
 rw [List.map_append, List.sum_append]
 omega
theorem tot_bound : ∀ {xss : List (List Int)}, (∀ l ∈ xss, Short l) → tot xss ≤ xss.length * 140737488351232
 | [], _ => by simp [tot]
 | l :: r, h => by
  have ih := tot_bound (xss := r) fun x hx => h x (by simp [hx])
  have h1 : l.length ≤ 140737488351232 := h l (by simp)
  simp only [tot, List.map_cons, List.sum_cons, List.length_cons] at ih ⊢
  omega
theorem row_le {xss : List (List Int)} {l : List Int} (h : l ∈ xss) : l.length ≤ tot xss := by
 induction xss with
 | nil => simp at h
 | cons x r ih =>
  simp only [tot, List.map_cons, List.sum_cons]
  rcases List.mem_cons.1 h with rfl | h
  · omega
  · have := ih h; unfold tot at this; omega
/-- The error of a store. -/
def chkV (xss : List (List Int)) : Int := if 16 < xss.length ∨ 2000 < tot xss then 20 else if xss.any (·.any badS) = true then 12 else 0
/-- Rows that can be handed over. -/
def Wide (xss : List (List Int)) : Prop := xss.length ≤ 140737488351232 ∧ ∀ l ∈ xss, Short l
theorem sto_check {xss : List (List Int)} (hx : Wide xss) : Gives (fun k => T_store_Check k xss) (· = chkV xss) := by
 refine Gives.step ?_
 simp only [T_store_Check]
 refine Gives.bind (Q := fun (r : Int) => xss.length ≤ 16 → r = tot xss) ?_ fun r hr => ?_
 · refine Gives.loop (fun (s : Int × Int) => ∃ n : Nat, s.2 = n ∧ n ≤ xss.length ∧ (xss.length ≤ 16 → s.1 = tot (xss.take n))) (fun s => xss.length - s.2.toNat) ?_ ⟨0, rfl, by omega, fun _ => by simp [tot]⟩
   rintro ⟨a, i⟩ ⟨n, e, hn, ha⟩
   simp only at e ha
   subst e
   unfold T_store_Check_l1
   refine Gives.ite (fun h => ?_) fun h => Gives.now fun h16 => ?_
   · have h : n < xss.length := by simp only at h; omega
     refine Gives.opt (at_nat h) (Gives.now ?_)
     have := hx.1
     simp only
     rw [w64_nat (by omega)]
     refine ⟨⟨n + 1, rfl, h, fun h16 => ?_⟩, by simp only [Int.toNat_natCast]; omega⟩
     have b := tot_bound (xss := xss) hx.2
     have b1 := tot_le (xss := xss) (n + 1)
     rw [tot_take h] at b1 ⊢
     rw [ha h16, w64_id (by omega) (by omega)]
     omega
   · have : n = xss.length := by simp only at h; omega
     rw [this, List.take_length] at ha
     exact ha h16
 have e0 : (decide (16 < (xss.length : Int)) || decide (2000 < r)) = true ↔ (16 < xss.length ∨ 2000 < tot xss) := by
  simp only [Bool.or_eq_true, decide_eq_true_eq]
  constructor
  · rintro (h | h)
    · exact .inl (by omega)
    · rcases Nat.lt_or_ge 16 xss.length with c | c
      · exact .inl c
      · have := hr c; exact .inr (by omega)
  · rintro (h | h)
    · exact .inl (by omega)
    · rcases Nat.lt_or_ge 16 xss.length with c | c
      · exact .inl (by omega)
      · have := hr c; exact .inr (by omega)
 refine Gives.ite (fun h => Gives.now ?_) fun h => ?_
 · unfold chkV; rw [if_pos (e0.1 h)]
 have hc : ¬ (16 < xss.length ∨ 2000 < tot xss) := fun c => h (e0.2 c)
 refine Gives.bind (Q := fun (r : Unit ⊕ Unit) => match r with | .inl _ => xss.any (·.any badS) = false | .inr _ => xss.any (·.any badS) = true) ?_ fun r hr => ?_
 · refine Gives.loop (fun (s : Int) => ∃ n : Nat, s = n ∧ n ≤ xss.length ∧ (xss.take n).any (·.any badS) = false) (fun s => xss.length - s.toNat) ?_ ⟨0, rfl, by omega, by simp⟩
   rintro s ⟨n, rfl, hn, ha⟩
   unfold T_store_Check_l2
   refine Gives.ite (fun h => ?_) fun h => Gives.now ?_
   · have h : n < xss.length := by omega
     refine Gives.opt (at_nat h) (Gives.bind (sto_any (hx.2 _ (List.getElem_mem h))) fun b hb => ?_)
     subst hb
     refine Gives.ite (fun hb => Gives.now ?_) fun hb => Gives.now ?_
     · exact any_at (p := fun l : List Int => l.any badS) h hb
     · have := hx.1
       rw [w64_nat (by omega)]
       refine ⟨⟨n + 1, rfl, h, by rw [any_take h, ha]; simpa using hb⟩, by simp only [Int.toNat_natCast]; omega⟩
   · have : n = xss.length := by omega
     rw [this, List.take_length] at ha
     exact ha
 · unfold chkV
   rw [if_neg hc]
   cases r with
   | inl u => exact Gives.now (by simp only at hr; rw [hr]; rfl)
   | inr u => exact Gives.now (by simp only at hr; rw [hr]; rfl)
theorem ref_check {xss : List (List Int)} (hx : Wide xss) : Gives (fun k => T_ref23_Check k xss) (· = chkV xss) := by
 refine Gives.step ?_
 simp only [T_ref23_Check]
 refine Gives.ite (fun h => Gives.now ?_) fun h => ?_
 · unfold chkV; rw [if_pos (.inl (by omega))]
 have h16 : xss.length ≤ 16 := by omega
 have b := tot_bound (xss := xss) hx.2
 refine Gives.bind (Q := fun (r : Unit ⊕ Unit) => match r with | .inl _ => tot xss ≤ 2000 | .inr _ => 2000 < tot xss) ?_ fun r hr => ?_
 · refine Gives.loop (fun (s : Int × Int) => ∃ n : Nat, s.2 = n ∧ n ≤ xss.length ∧ s.1 = tot (xss.take n) ∧ tot (xss.take n) ≤ 2000) (fun s => xss.length - s.2.toNat) ?_ ⟨0, rfl, by omega, by simp [tot], by simp [tot]⟩
   rintro ⟨a, i⟩ ⟨n, e, hn, ha, hb⟩
   simp only at e ha
   subst e ha
   unfold T_ref23_Check_l1
   refine Gives.ite (fun h => ?_) fun h => Gives.now ?_
   · have h : n < xss.length := by simp only at h; omega
     refine Gives.opt (at_nat h) ?_
     have b1 := tot_le (xss := xss) (n + 1)
     have t := tot_take h
     simp only
     rw [w64_id (x := ((tot (xss.take n) : Nat) : Int) + (xss[n].length : Int)) (by omega) (by omega)]
     refine Gives.ite (fun hb => Gives.now ?_) fun hb => Gives.now ?_
     · show 2000 < tot xss
       omega
     · have := hx.1
       rw [w64_nat (by omega)]
       refine ⟨⟨n + 1, rfl, h, by rw [t]; simp, by omega⟩, by simp only [Int.toNat_natCast]; omega⟩
   · have : n = xss.length := by simp only at h; omega
     rw [this, List.take_length] at hb
     exact hb
 cases r with
 | inr u => exact Gives.now (by simp only at hr; unfold chkV; rw [if_pos (.inr hr)])
 | inl u =>
  simp only at hr
  have hc : ¬ (16 < xss.length ∨ 2000 < tot xss) := by omega
  refine Gives.bind (Q := fun (r : Unit ⊕ Unit) => match r with | .inl _ => xss.any (·.any badS) = false | .inr _ => xss.any (·.any badS) = true) ?_ fun r hr => ?_
  · refine Gives.loop (fun (s : Int) => ∃ n : Nat, s = n ∧ n ≤ xss.length ∧ (xss.take n).any (·.any badS) = false) (fun s => xss.length - s.toNat) ?_ ⟨0, rfl, by omega, by simp⟩
    rintro s ⟨n, rfl, hn, ha⟩
    unfold T_ref23_Check_l3
    refine Gives.ite (fun h => ?_) fun h => Gives.now ?_
    · have h : n < xss.length := by omega
      have hs := hx.2 _ (List.getElem_mem h)
      unfold Short at hs
      refine Gives.bind (Q := fun (r : Unit ⊕ Unit) => match r with | .inl _ => xss[n].any badS = false | .inr _ => xss[n].any badS = true) ?_ fun r hr => ?_
      · refine Gives.loop (fun (s : Int) => ∃ j : Nat, s = j ∧ j ≤ xss[n].length ∧ (xss[n].take j).any badS = false) (fun s => xss[n].length - s.toNat) ?_ ⟨0, rfl, by omega, by simp⟩
        rintro s ⟨j, rfl, hj, hja⟩
        unfold T_ref23_Check_l2
        refine Gives.opt (at_nat h) (Gives.ite (fun hl => ?_) fun hl => Gives.now ?_)
        · have hl : j < xss[n].length := by omega
          refine Gives.opt (at_nat h) (Gives.opt (at_nat hl) (Gives.bind (Q := fun b => b = badS xss[n][j]) ?_ fun b hb => ?_))
          · refine Gives.ite (fun h => ?_) fun h => Gives.now ?_
            · refine Gives.bind (Q := fun _ => True) (Gives.step (by simp only [T_ref23_Sample]; exact Gives.now trivial)) fun _ _ => Gives.now ?_
              simp only [badS, h, Bool.true_and]
            · simp only [Bool.not_eq_true', Bool.not_eq_false] at h
              simp only [badS, h, Bool.not_true, Bool.false_and]
          · subst hb
            refine Gives.ite (fun hb => Gives.now (any_at hl hb)) fun hb => Gives.now ?_
            rw [w64_nat (by omega)]
            exact ⟨⟨j + 1, rfl, hl, by rw [any_take hl, hja]; simpa using hb⟩, by simp only [Int.toNat_natCast]; omega⟩
        · have : j = xss[n].length := by omega
          rw [this, List.take_length] at hja
          exact hja
      · cases r with
        | inl u =>
         simp only at hr
         refine Gives.now ?_
         have := hx.1
         rw [w64_nat (by omega)]
         exact ⟨⟨n + 1, rfl, h, by rw [any_take h, ha, hr]; rfl⟩, by simp only [Int.toNat_natCast]; omega⟩
        | inr u => exact Gives.now (any_at (p := fun l : List Int => l.any badS) h hr)
    · have : n = xss.length := by omega
      rw [this, List.take_length] at ha
      exact ha
  · unfold chkV
    rw [if_neg hc]
    cases r with
    | inl u => exact Gives.now (by simp only at hr; rw [hr]; rfl)
    | inr u => exact Gives.now (by simp only at hr; rw [hr]; rfl)
theorem chk_ok {xss : List (List Int)} (h : chkV xss = 0) : xss.length ≤ 16 ∧ tot xss ≤ 2000 := by
 unfold chkV at h
 split at h
 · cases h
 · omega

/-! The starts of windows; places; windows. -/
def miss (v : Int) : Bool := decide (v = 1073741824)
/-- A whole window begins here. -/
def cl (l : List Int) (m k : Nat) : Bool := decide (k + m ≤ l.length) && !((l.drop k).take m).any miss
theorem cl_iff {l : List Int} {m k : Nat} : cl l m k = true ↔ k + m ≤ l.length ∧ ∀ (j : Nat) (h : j < l.length), k ≤ j → j < k + m → l[j] ≠ 1073741824 := by
 simp only [cl, Bool.and_eq_true, decide_eq_true_eq, Bool.not_eq_true']
 refine and_congr_right fun hk => ?_
 rw [Bool.eq_false_iff]
 constructor
 · intro h j hj h1 h2 e
   refine h (List.any_eq_true.2 ⟨l[j], ?_, by simp [miss, e]⟩)
   refine List.mem_of_getElem? (i := j - k) ?_
   rw [List.getElem?_take, if_pos (by omega), List.getElem?_drop, List.getElem?_eq_getElem (by omega : k + (j - k) < l.length)]
   congr 2; omega
 · intro h e
   obtain ⟨v, hv, hm⟩ := List.any_eq_true.1 e
   obtain ⟨i, hi⟩ := List.getElem?_of_mem hv
   rw [List.getElem?_take] at hi
   split at hi
   · rw [List.getElem?_drop] at hi
     obtain ⟨hlt, he⟩ := List.getElem?_eq_some_iff.1 hi
     refine h (k + i) hlt (by omega) (by omega) ?_
     rw [he]
     simpa [miss] using hm
   · cases hi
/-- The starts below a place. -/
def stN (l : List Int) (m n : Nat) : List Nat := (List.range n).filter (cl l m)
theorem stN_succ (l : List Int) (m n : Nat) : stN l m (n + 1) = if cl l m n = true then stN l m n ++ [n] else stN l m n := by
 unfold stN
 rw [List.range_succ, List.filter_append]
 split
 · rename_i h; simp [h]
 · rename_i h; simp [h]
theorem stN_more {l : List Int} {m n : Nat} (h : l.length < n + m) : ∀ d, stN l m (n + d) = stN l m n
 | 0 => rfl
 | d + 1 => by
  rw [← Nat.add_assoc, stN_succ, stN_more h d, if_neg]
  intro c
  have := (cl_iff.1 c).1
  omega
theorem stN_len (l : List Int) (m n : Nat) : (stN l m n).length ≤ n := by
 unfold stN
 have := List.length_filter_le (cl l m) (List.range n)
 simpa using this
def stI (l : List Int) (m n : Nat) : List Int := (stN l m n).map fun (k : Nat) => (k : Int)
theorem stI_len (l : List Int) (m n : Nat) : (stI l m n).length ≤ n := by unfold stI; rw [List.length_map]; exact stN_len l m n
theorem take_all {α : Type} {n : Nat} {xs : List α} (h : n = xs.length) : (xs.drop 0).take n = xs := by subst h; simp
theorem sto_starts {l : List Int} {m : Nat} (hl : l.length ≤ 2000) (h2 : 2 ≤ m) (h32 : m ≤ 32) : Gives (fun k => T_store_Starts k l m) (· = stI l m l.length) := by
 refine Gives.step ?_
 simp only [T_store_Starts]
 refine Gives.bind (Q := fun (r : Nat × List Int) => r.1 = r.2.length ∧ r.2 = stI l m (l.length + 1 - m)) ?_ fun r hr => Gives.now ?_
 · refine Gives.loop (fun (s : Nat × Int × Int × List Int) => ∃ n b : Nat, s.2.2.1 = n ∧ n ≤ l.length ∧ s.2.1 = b ∧ b ≤ n ∧ s.1 = s.2.2.2.length ∧ s.2.2.2 = stI l m (n + 1 - m) ∧ (∀ (j : Nat) (h : j < l.length), b ≤ j → j < n → l[j] ≠ 1073741824) ∧
    (b = 0 ∨ ∃ h : b - 1 < l.length, l[b - 1] = 1073741824)) (fun s => l.length - s.2.2.1.toNat) ?_ ⟨0, 0, rfl, by omega, rfl, by omega, rfl, ?_, fun j h h1 h2 => by omega, .inl rfl⟩
   · rintro ⟨c, b', i, out⟩ ⟨n, b, e1, hn, e2, hb, hc, ho, hfree, hmiss⟩
     simp only at e1 e2 hc ho
     subst e1 e2
     unfold T_store_Starts_l1
     refine Gives.ite (fun h => ?_) fun h => Gives.now ?_
     · have h : n < l.length := by simp only at h; omega
       refine Gives.opt (at_nat h) ?_
       simp only
       rw [w64_nat (by omega), w64_id (x := ((n + 1 : Nat) : Int) - m) (by omega) (by omega)]
       obtain ⟨q, hq1, hq2, hq3, hq4⟩ : ∃ q : Nat, (if l[n] = 1073741824 then some (((n + 1 : Nat) : Int)) else some (b : Int)) = some (q : Int) ∧ q ≤ n + 1 ∧ (∀ (j : Nat) (h : j < l.length), q ≤ j → j < n + 1 → l[j] ≠ 1073741824) ∧ (q = 0 ∨ ∃ h : q - 1 < l.length, l[q - 1] = 1073741824) := by
        by_cases c : l[n] = 1073741824
        · refine ⟨n + 1, by rw [if_pos c], by omega, fun j hj h1 h2 => by omega, .inr ⟨by simpa using h, by simpa using c⟩⟩
        · refine ⟨b, by rw [if_neg c], by omega, fun j hj h1 h2 => ?_, hmiss⟩
          rcases Nat.lt_or_ge j n with c2 | c2
          · exact hfree j hj h1 c2
          · have : j = n := by omega
            subst this; exact c
       refine Gives.opt hq1 ?_
       have key : ((q : Int) ≤ ((n + 1 : Nat) : Int) - m) ↔ (m ≤ n + 1 ∧ cl l m (n + 1 - m) = true) := by
        constructor
        · intro hle
          refine ⟨by omega, cl_iff.2 ⟨by omega, fun j hj h1 h2 => hq3 j hj (by omega) (by omega)⟩⟩
        · rintro ⟨hm, hcl⟩
          rcases Nat.lt_or_ge (n + 1 - m) q with c | c
          · rcases hq4 with hq4 | ⟨hlt, hq4⟩
            · omega
            · exact absurd hq4 ((cl_iff.1 hcl).2 (q - 1) hlt (by omega) (by omega))
          · omega
       have olen : out.length ≤ n + 1 := by rw [ho]; have := stI_len l m (n + 1 - m); omega
       refine Gives.bind (Q := fun (r : Nat × List Int) => r.1 = r.2.length ∧ r.2 = stI l m (n + 1 + 1 - m)) ?_ fun r hr => Gives.now ?_
       · refine Gives.ite (fun hle => Gives.pos (by show c + 1 ≤ 4294967296; omega) (Gives.now ?_)) fun hle => Gives.now ?_
         · obtain ⟨hm, hcl⟩ := key.1 hle
           simp only
           rw [take_all hc]
           have e : n + 1 + 1 - m = (n + 1 - m) + 1 := by omega
           refine ⟨by simp [hc], ?_⟩
           rw [e]
           unfold stI
           rw [stN_succ, if_pos hcl, List.map_append, ho]
           unfold stI
           congr 1
           simp
           omega
         · refine ⟨hc, ?_⟩
           simp only
           rw [ho]
           by_cases hm : m ≤ n + 1
           · have hcl : ¬ cl l m (n + 1 - m) = true := fun c => hle (key.2 ⟨hm, c⟩)
             have e : n + 1 + 1 - m = (n + 1 - m) + 1 := by omega
             rw [e]
             unfold stI
             rw [stN_succ, if_neg hcl]
           · have e1 : n + 1 + 1 - m = 0 := by omega
             have e2 : n + 1 - m = 0 := by omega
             rw [e1, e2]
       · obtain ⟨r1, r2⟩ := r
         simp only at hr
         exact ⟨⟨n + 1, q, rfl, h, rfl, hq2, hr.1, hr.2, hq3, hq4⟩, by simp only [Int.toNat_natCast]; omega⟩
     · have : n = l.length := by simp only at h; omega
       subst this
       exact ⟨hc, ho⟩
   · show [] = stI l m (0 + 1 - m)
     have : 0 + 1 - m = 0 := by omega
     rw [this]; rfl
 · obtain ⟨h1, h3⟩ := hr
   rw [take_all h1, h3]
   unfold stI
   rcases Nat.lt_or_ge l.length (m - 1) with c | c
   · have e : l.length + 1 - m = 0 := by omega
     rw [e]
     have := stN_more (l := l) (m := m) (n := 0) (by omega) l.length
     rw [Nat.zero_add] at this
     rw [this]
   · have := stN_more (l := l) (m := m) (n := l.length + 1 - m) (by omega) (m - 1)
     have e : l.length + 1 - m + (m - 1) = l.length := by omega
     rw [e] at this
     rw [this]
theorem ref_whole {l : List Int} {m : Nat} {p : Int} (hl : l.length ≤ 2000) (h2 : 2 ≤ m) (h32 : m ≤ 32) (hp : 0 ≤ p) (hp2 : p ≤ 9223372036854775807) : Gives (fun k => T_ref23_whole k l p m) (· = cl l m p.toNat) := by
 obtain ⟨q, rfl⟩ : ∃ q : Nat, p = q := ⟨p.toNat, by omega⟩
 refine Gives.step ?_
 simp only [T_ref23_whole, Int.toNat_natCast]
 rw [w64_id (x := (l.length : Int) - m) (by omega) (by omega)]
 refine Gives.ite (fun h => Gives.now ?_) fun h => ?_
 · simp only [Bool.or_eq_true, decide_eq_true_eq] at h
   have : ¬ q + m ≤ l.length := by omega
   simp [cl, this]
 · simp only [Bool.or_eq_true, decide_eq_true_eq, not_or] at h
   have hk : q + m ≤ l.length := by omega
   refine Gives.bind (Q := fun (r : Unit ⊕ Unit) => match r with | .inl _ => cl l m q = true | .inr _ => cl l m q = false) ?_ fun r hr => ?_
   · refine Gives.loop (fun (s : Int) => ∃ n : Nat, s = n ∧ n ≤ m ∧ ∀ (j : Nat) (h : j < l.length), q ≤ j → j < q + n → l[j] ≠ 1073741824) (fun s => m - s.toNat) ?_ ⟨0, rfl, by omega, fun j h h1 h2 => by omega⟩
     rintro s ⟨n, rfl, hn, ha⟩
     unfold T_ref23_whole_l1
     refine Gives.ite (fun h => ?_) fun h => Gives.now ?_
     · have h : n < m := by omega
       have hlt : q + n < l.length := by omega
       have e : w64 ((q : Int) + n) = ((q + n : Nat) : Int) := by rw [w64_id (by omega) (by omega)]; omega
       rw [e]
       refine Gives.opt (at_nat hlt) (Gives.ite (fun hb => Gives.now ?_) fun hb => Gives.now ?_)
       · show cl l m q = false
         rw [Bool.eq_false_iff]
         intro c
         exact (cl_iff.1 c).2 (q + n) hlt (by omega) (by omega) hb
       · rw [w64_nat (by omega)]
         refine ⟨⟨n + 1, rfl, h, fun j hj h1 h2 => ?_⟩, by simp only [Int.toNat_natCast]; omega⟩
         rcases Nat.lt_or_ge j (q + n) with c | c
         · exact ha j hj h1 c
         · have : j = q + n := by omega
           subst this; exact hb
     · have : n = m := by omega
       subst this
       exact cl_iff.2 ⟨hk, ha⟩
   · cases r with
     | inl u => exact Gives.now (by simp only at hr; rw [hr])
     | inr u => exact Gives.now (by simp only at hr; rw [hr])
/-- The places of the first rows. -/
def plN (xss : List (List Int)) (m n : Nat) : List (Int × Int) := (List.range n).flatMap fun i => (stI (xss.getD i []) m (xss.getD i []).length).map fun k => ((i : Int), k)
theorem plN_succ (xss : List (List Int)) (m n : Nat) : plN xss m (n + 1) = plN xss m n ++ (stI (xss.getD n []) m (xss.getD n []).length).map fun k => ((n : Int), k) := by
 unfold plN
 rw [List.range_succ, List.flatMap_append]
 simp
theorem plN_len {xss : List (List Int)} {m : Nat} : ∀ {n : Nat}, n ≤ xss.length → (plN xss m n).length ≤ tot (xss.take n)
 | 0, _ => by simp [plN]
 | n + 1, h => by
  have ih := plN_len (xss := xss) (m := m) (n := n) (by omega)
  rw [plN_succ, tot_take (by omega), List.length_append, List.length_map]
  have := stI_len (xss.getD n []) m (xss.getD n []).length
  have e : xss.getD n [] = xss[n] := by rw [List.getD_eq_getElem?_getD, List.getElem?_eq_getElem (by omega)]; rfl
  rw [e] at this ⊢
  omega
theorem getD_at {xss : List (List Int)} {n : Nat} (h : n < xss.length) : xss.getD n [] = xss[n] := by rw [List.getD_eq_getElem?_getD, List.getElem?_eq_getElem h]; rfl
theorem LIM_ok {c : Nat} (h : c ≤ 4000) : c + 1 ≤ LIM := by show c + 1 ≤ 4294967296; omega
theorem sto_lencheck {xss : List (List Int)} (hx : Wide xss) (p : Int) : Gives (fun k => T_store_check k xss p) (· = if chkV xss = 0 then (if 2 ≤ p ∧ p ≤ 32 then 0 else 8) else chkV xss) := by
 refine Gives.step ?_
 simp only [T_store_check]
 refine Gives.bind (sto_check hx) fun r hr => ?_
 subst hr
 refine Gives.ite (fun h => Gives.now ?_) fun h => ?_
 · simp only [Bool.not_eq_true', decide_eq_false_iff_not] at h
   rw [if_neg h]
 · simp only [Bool.not_eq_true', Bool.not_eq_false, decide_eq_true_eq] at h
   rw [if_pos h]
   refine Gives.bind (Q := fun _ => True) (Gives.step (by simp only [T_store_length]; exact Gives.now trivial)) fun _ _ => Gives.ite (fun h => Gives.now ?_) fun h => Gives.now ?_
   · rw [if_neg]; simp at h; omega
   · rw [if_pos]; simp at h; omega
/-- What the places of all windows are. -/
def plV (xss : List (List Int)) (p : Int) : List (Int × Int) × Int := if chkV xss = 0 then (if 2 ≤ p ∧ p ≤ 32 then (plN xss p.toNat xss.length, 0) else ([], 8)) else ([], chkV xss)
theorem sto_places {xss : List (List Int)} (hx : Wide xss) (p : Int) : Gives (fun k => T_store_Places k xss p) (· = plV xss p) := by
 refine Gives.step ?_
 simp only [T_store_Places]
 refine Gives.bind (sto_lencheck hx p) fun r hr => ?_
 subst hr
 unfold plV
 by_cases h0 : chkV xss = 0
 · rw [if_pos h0, if_pos h0]
   by_cases hp : 2 ≤ p ∧ p ≤ 32
   · rw [if_pos hp, if_pos hp]
     obtain ⟨m, rfl⟩ : ∃ m : Nat, p = m := ⟨p.toNat, by omega⟩
     rw [Int.toNat_natCast]
     obtain ⟨h16, h2000⟩ := chk_ok h0
     refine Gives.neg (by simp) (Gives.bind (Q := fun (r : Nat × List (Int × Int)) => r.1 = r.2.length ∧ r.2 = plN xss m xss.length) ?_ fun r hr => Gives.now (by rw [take_all hr.1, hr.2]))
     refine Gives.loop (fun (s : Nat × Int × List (Int × Int)) => ∃ n : Nat, s.2.1 = n ∧ n ≤ xss.length ∧ s.1 = s.2.2.length ∧ s.2.2 = plN xss m n) (fun s => xss.length - s.2.1.toNat) ?_ ⟨0, rfl, by omega, rfl, rfl⟩
     rintro ⟨c, i, out⟩ ⟨n, e1, hn, hc, ho⟩
     simp only at e1 hc ho
     subst e1
     unfold T_store_Places_l2
     refine Gives.ite (fun h => ?_) fun h => Gives.now ?_
     · have h : n < xss.length := by simp only at h; omega
       have hrow := row_le (List.getElem_mem h)
       have hlen := plN_len (xss := xss) (m := m) (n := n) hn
       have hle := tot_le (xss := xss) n
       have hle1 := tot_le (xss := xss) (n + 1)
       have htk := tot_take h
       refine Gives.opt (at_nat h) (Gives.bind (sto_starts (l := xss[n]) (m := m) (by omega) (by omega) (by omega)) fun ss hs => ?_)
       have hsl := stI_len xss[n] m xss[n].length
       rw [← hs] at hsl
       refine Gives.bind (Q := fun (r : Nat × List (Int × Int)) => r.1 = r.2.length ∧ r.2 = plN xss m (n + 1)) ?_ fun r hr => Gives.now ?_
       · refine Gives.loop (fun (s : Nat × Int × List (Int × Int)) => ∃ j : Nat, s.2.1 = j ∧ j ≤ ss.length ∧ s.1 = s.2.2.length ∧ s.2.2 = out ++ (ss.take j).map fun k => ((n : Int), k)) (fun s => ss.length - s.2.1.toNat) ?_ ⟨0, rfl, by omega, hc, by simp⟩
         rintro ⟨c', i', out'⟩ ⟨j, e1, hj, hc', ho'⟩
         simp only at e1 hc' ho'
         subst e1
         unfold T_store_Places_l1
         have ol : out'.length ≤ 4000 := by
          rw [ho', List.length_append, List.length_map, List.length_take, ho]; omega
         refine Gives.ite (fun h => ?_) fun h => Gives.now ?_
         · have h : j < ss.length := by simp only at h; omega
           refine Gives.opt (at_nat h) (Gives.pos (LIM_ok (by simp only; omega)) (Gives.now ?_))
           simp only
           rw [w64_nat (by omega), take_all hc']
           refine ⟨⟨j + 1, rfl, h, by simp [hc'], ?_⟩, by simp only [Int.toNat_natCast]; omega⟩
           rw [List.take_succ_eq_append_getElem h, List.map_append, ← List.append_assoc, ← ho']
           rfl
         · have : j = ss.length := by simp only at h; omega
           subst this
           refine ⟨hc', ?_⟩
           simp only
           rw [ho', List.take_length, plN_succ, ho, getD_at (by assumption), hs]
       · have := hx.1
         simp only
         rw [w64_nat (by omega)]
         exact ⟨⟨n + 1, rfl, h, hr.1, hr.2⟩, by simp only [Int.toNat_natCast]; omega⟩
     · have : n = xss.length := by simp only at h; omega
       subst this
       exact ⟨hc, ho⟩
   · rw [if_neg hp, if_neg hp]
     exact Gives.pos (by simp) (Gives.now rfl)
 · rw [if_neg h0, if_neg h0]
   exact Gives.pos (by simp [h0]) (Gives.now rfl)
theorem ref_places {xss : List (List Int)} (hx : Wide xss) (p : Int) : Gives (fun k => T_ref23_Places k xss p) (· = plV xss p) := by
 refine Gives.step ?_
 simp only [T_ref23_Places]
 refine Gives.bind (ref_check hx) fun r hr => ?_
 subst hr
 unfold plV
 by_cases h0 : chkV xss = 0
 · rw [if_pos h0]
   refine Gives.neg (by simp [h0]) ?_
   by_cases hp : 2 ≤ p ∧ p ≤ 32
   · rw [if_pos hp]
     refine Gives.neg (by simp; omega) ?_
     obtain ⟨m, rfl⟩ : ∃ m : Nat, p = m := ⟨p.toNat, by omega⟩
     rw [Int.toNat_natCast]
     obtain ⟨h16, h2000⟩ := chk_ok h0
     refine Gives.bind (Q := fun (r : Nat × List (Int × Int)) => r.1 = r.2.length ∧ r.2 = plN xss m xss.length) ?_ fun r hr => Gives.now (by rw [take_all hr.1, hr.2])
     refine Gives.loop (fun (s : Nat × Int × List (Int × Int)) => ∃ n : Nat, s.2.1 = n ∧ n ≤ xss.length ∧ s.1 = s.2.2.length ∧ s.2.2 = plN xss m n) (fun s => xss.length - s.2.1.toNat) ?_ ⟨0, rfl, by omega, rfl, rfl⟩
     rintro ⟨c, i, out⟩ ⟨n, e1, hn, hc, ho⟩
     simp only at e1 hc ho
     subst e1
     unfold T_ref23_Places_l2
     refine Gives.ite (fun h => ?_) fun h => Gives.now ?_
     · have h : n < xss.length := by simp only at h; omega
       have hrow := row_le (List.getElem_mem h)
       have hlen := plN_len (xss := xss) (m := m) (n := n) hn
       have hle := tot_le (xss := xss) n
       refine Gives.bind (Q := fun (r : Nat × List (Int × Int)) => r.1 = r.2.length ∧ r.2 = plN xss m (n + 1)) ?_ fun r hr => Gives.now ?_
       · refine Gives.loop (fun (s : Nat × Int × List (Int × Int)) => ∃ j : Nat, s.2.1 = j ∧ j ≤ xss[n].length ∧ s.1 = s.2.2.length ∧ s.2.2 = out ++ (stI xss[n] m j).map fun k => ((n : Int), k)) (fun s => xss[n].length - s.2.1.toNat) ?_ ⟨0, rfl, by omega, hc, by simp [stI, stN]⟩
         rintro ⟨c', i', out'⟩ ⟨j, e1, hj, hc', ho'⟩
         simp only at e1 hc' ho'
         subst e1
         unfold T_ref23_Places_l1
         have ol : out'.length ≤ 4000 := by
          rw [ho', List.length_append, List.length_map, ho]; have := stI_len xss[n] m j; omega
         refine Gives.opt (at_nat h) (Gives.ite (fun hl => ?_) fun hl => Gives.now ?_)
         · have hl : j < xss[n].length := by simp only at hl; omega
           refine Gives.opt (at_nat h) (Gives.bind (ref_whole (l := xss[n]) (m := m) (p := (j : Int)) (by omega) (by omega) (by omega) (by omega) (by omega)) fun b hb => ?_)
           rw [Int.toNat_natCast] at hb
           refine Gives.bind (Q := fun (r : Nat × List (Int × Int)) => r.1 = r.2.length ∧ r.2 = out ++ (stI xss[n] m (j + 1)).map fun k => ((n : Int), k)) ?_ fun r hr => Gives.now ?_
           · refine Gives.ite (fun hbt => Gives.pos (LIM_ok (by simp only; omega)) (Gives.now ?_)) fun hbt => Gives.now ?_
             · simp only
               rw [take_all hc']
               refine ⟨by simp [hc'], ?_⟩
               rw [ho']
               unfold stI
               rw [stN_succ, if_pos (by rw [← hb]; exact hbt)]
               simp
             · refine ⟨hc', ?_⟩
               simp only
               rw [ho']
               unfold stI
               rw [stN_succ, if_neg (by rw [← hb]; exact hbt)]
           · rw [w64_nat (by omega)]
             exact ⟨⟨j + 1, rfl, hl, hr.1, hr.2⟩, by simp only [Int.toNat_natCast]; omega⟩
         · have : j = xss[n].length := by simp only at hl; omega
           subst this
           refine ⟨hc', ?_⟩
           simp only
           rw [ho', plN_succ, ho, getD_at h]
       · have := hx.1
         simp only
         rw [w64_nat (by omega)]
         exact ⟨⟨n + 1, rfl, h, hr.1, hr.2⟩, by simp only [Int.toNat_natCast]; omega⟩
     · have : n = xss.length := by simp only at h; omega
       subst this
       exact ⟨hc, ho⟩
   · rw [if_neg hp]
     exact Gives.pos (by simp; omega) (Gives.now rfl)
 · rw [if_neg h0]
   exact Gives.pos (by simp [h0]) (Gives.now rfl)

/-! Windows, queries, the order of hits. -/
/-- What a window is. -/
def wiV (xss : List (List Int)) (s p m : Int) : List Int × Int :=
 if chkV xss = 0 then (if 2 ≤ m ∧ m ≤ 32 then
  (if s < 0 ∨ (xss.length : Int) ≤ s ∨ p < 0 ∨ ((xss.getD s.toNat []).length : Int) - m < p then ([], 21) else
   if ((xss.getD s.toNat []).drop p.toNat |>.take m.toNat).any miss = true then ([], 13) else ((xss.getD s.toNat []).drop p.toNat |>.take m.toNat, 0)) else ([], 8)) else ([], chkV xss)
theorem any_miss {xs : List Int} (hx : Short xs) : Gives (fun k => T_slices_Contains_b354 k xs 1073741824) (· = xs.any miss) := by
 refine Gives.step ?_
 simp only [T_slices_Contains_b354]
 refine Gives.bind (Q := fun r => decide (0 ≤ r) = xs.any miss) ?_ fun r hr => Gives.now hr
 refine Gives.step ?_
 simp only [T_slices_Index_b354]
 refine Gives.bind (Q := fun (r : Unit ⊕ Int) => match r with | .inl _ => xs.any miss = false | .inr i => 0 ≤ i ∧ xs.any miss = true) ?_ fun r hr => ?_
 · refine Gives.loop (fun (s : Int) => ∃ n : Nat, s = n ∧ n ≤ xs.length ∧ (xs.take n).any miss = false) (fun s => xs.length - s.toNat) ?_ ⟨0, rfl, by omega, by simp⟩
   rintro s ⟨n, rfl, hn, ha⟩
   unfold T_slices_Index_b354_l1
   refine Gives.ite (fun h => ?_) fun h => Gives.now ?_
   · have h : n < xs.length := by omega
     refine Gives.opt (at_nat h) (Gives.ite (fun hb => Gives.now ?_) fun hb => Gives.now ?_)
     · exact ⟨by omega, any_at h (by simp [miss, ← hb])⟩
     · unfold Short at hx
       rw [w64_nat (by omega)]
       refine ⟨⟨n + 1, rfl, h, by rw [any_take h, ha]; simp [miss]; exact fun c => hb c.symm⟩, by simp only [Int.toNat_natCast]; omega⟩
   · have : n = xs.length := by omega
     rw [this, List.take_length] at ha
     exact ha
 · cases r with
   | inl u => exact Gives.now (by simp only at hr; rw [hr]; decide)
   | inr i => exact Gives.now (by simp only at hr; rw [hr.2]; simpa using hr.1)
theorem sub_all {α : Type} (xs : List α) : (((([] : List α).drop 0).take 0 ++ xs).drop 0).take (0 + xs.length) = xs := by simp
theorem sto_window {xss : List (List Int)} (hx : Wide xss) {s p m : Int} (s0 : -9223372036854775808 ≤ s) (s1 : s ≤ 9223372036854775807) (p0 : -9223372036854775808 ≤ p) (p1 : p ≤ 9223372036854775807) : Gives (fun k => T_store_Window k xss s p m) (· = wiV xss s p m) := by
 refine Gives.step ?_
 simp only [T_store_Window]
 refine Gives.bind (sto_lencheck hx m) fun r hr => ?_
 subst hr
 unfold wiV
 by_cases h0 : chkV xss = 0
 · rw [if_pos h0, if_pos h0]
   by_cases hm : 2 ≤ m ∧ m ≤ 32
   · rw [if_pos hm, if_pos hm]
     obtain ⟨h16, h2000⟩ := chk_ok h0
     refine Gives.neg (by simp) ?_
     refine Gives.bind (Q := fun b => b = decide (s < 0 ∨ (xss.length : Int) ≤ s ∨ p < 0 ∨ ((xss.getD s.toNat []).length : Int) - m < p)) ?_ fun b hb => ?_
     · refine Gives.ite (fun h => Gives.now ?_) fun h => ?_
       · simp only [Bool.or_eq_true, decide_eq_true_eq] at h
         symm; simp only [decide_eq_true_eq]; omega
       · simp only [Bool.or_eq_true, decide_eq_true_eq, not_or] at h
         obtain ⟨n, rfl⟩ : ∃ n : Nat, s = n := ⟨s.toNat, by omega⟩
         have hn : n < xss.length := by omega
         refine Gives.opt (at_nat hn) (Gives.now ?_)
         have := row_le (List.getElem_mem hn)
         rw [w64_id (by omega) (by omega), Int.toNat_natCast, getD_at hn]
         exact decide_eq_decide.2 (by omega)
     · subst hb
       refine Gives.ite (fun h => Gives.now ?_) fun h => ?_
       · rw [if_pos (of_decide_eq_true h)]
       · have h := of_decide_eq_false (Bool.eq_false_iff.2 h)
         rw [if_neg h]
         obtain ⟨n, rfl⟩ : ∃ n : Nat, s = n := ⟨s.toNat, by omega⟩
         obtain ⟨q, rfl⟩ : ∃ q : Nat, p = q := ⟨p.toNat, by omega⟩
         obtain ⟨d, rfl⟩ : ∃ d : Nat, m = d := ⟨m.toNat, by omega⟩
         have hn : n < xss.length := by omega
         simp only [Int.toNat_natCast, getD_at hn] at h ⊢
         have := row_le (List.getElem_mem hn)
         have hqd : q + d ≤ xss[n].length := by omega
         refine Gives.opt (at_nat hn) ?_
         have e : w64 ((q : Int) + d) = ((q + d : Nat) : Int) := by rw [w64_id (by omega) (by omega)]; omega
         rw [e, Int.toNat_natCast]
         have e2 : q + d - q = d := by omega
         rw [e2]
         have hl : ((xss[n].drop q).take d).length = d := by simp; omega
         refine Gives.pos (by omega) (Gives.bind (Q := fun _ => True) ?_ fun _ _ => ?_)
         · refine Gives.step ?_
           simp only [T_slices_Clone_b354]
           exact Gives.pos (by omega) (Gives.pos (by show _ ≤ 4294967296; omega) (Gives.now trivial))
         · rw [sub_all]
           refine Gives.bind (any_miss (by unfold Short; omega)) fun b hb => ?_
           subst hb
           refine Gives.ite (fun hb => Gives.now ?_) fun hb => Gives.now ?_
           · rw [if_pos hb]
           · rw [if_neg hb]
   · rw [if_neg hm, if_neg hm]
     exact Gives.pos (by simp) (Gives.now rfl)
 · rw [if_neg h0, if_neg h0]
   exact Gives.pos (by simp [h0]) (Gives.now rfl)
theorem ref_window {xss : List (List Int)} (hx : Wide xss) {s p m : Int} (s0 : -9223372036854775808 ≤ s) (s1 : s ≤ 9223372036854775807) (p0 : -9223372036854775808 ≤ p) (p1 : p ≤ 9223372036854775807) : Gives (fun k => T_ref23_Window k xss s p m) (· = wiV xss s p m) := by
 refine Gives.step ?_
 simp only [T_ref23_Window]
 refine Gives.bind (ref_check hx) fun r hr => ?_
 subst hr
 unfold wiV
 by_cases h0 : chkV xss = 0
 · rw [if_pos h0]
   refine Gives.neg (by simp [h0]) ?_
   by_cases hm : 2 ≤ m ∧ m ≤ 32
   · rw [if_pos hm]
     obtain ⟨h16, h2000⟩ := chk_ok h0
     refine Gives.neg (by simp; omega) ?_
     refine Gives.bind (Q := fun b => b = decide (s < 0 ∨ (xss.length : Int) ≤ s ∨ p < 0 ∨ ((xss.getD s.toNat []).length : Int) - m < p)) ?_ fun b hb => ?_
     · refine Gives.ite (fun h => Gives.now ?_) fun h => ?_
       · simp only [Bool.or_eq_true, decide_eq_true_eq] at h
         symm; simp only [decide_eq_true_eq]; omega
       · simp only [Bool.or_eq_true, decide_eq_true_eq, not_or] at h
         obtain ⟨n, rfl⟩ : ∃ n : Nat, s = n := ⟨s.toNat, by omega⟩
         have hn : n < xss.length := by omega
         refine Gives.opt (at_nat hn) (Gives.now ?_)
         have := row_le (List.getElem_mem hn)
         rw [w64_id (by omega) (by omega), Int.toNat_natCast, getD_at hn]
         exact decide_eq_decide.2 (by omega)
     · subst hb
       refine Gives.ite (fun h => Gives.now ?_) fun h => ?_
       · rw [if_pos (of_decide_eq_true h)]
       · have h := of_decide_eq_false (Bool.eq_false_iff.2 h)
         rw [if_neg h]
         obtain ⟨n, rfl⟩ : ∃ n : Nat, s = n := ⟨s.toNat, by omega⟩
         obtain ⟨q, rfl⟩ : ∃ q : Nat, p = q := ⟨p.toNat, by omega⟩
         obtain ⟨d, rfl⟩ : ∃ d : Nat, m = d := ⟨m.toNat, by omega⟩
         have hn : n < xss.length := by omega
         simp only [Int.toNat_natCast, getD_at hn] at h ⊢
         have := row_le (List.getElem_mem hn)
         have hqd : q + d ≤ xss[n].length := by omega
         refine Gives.opt (at_nat hn) (Gives.bind (ref_whole (l := xss[n]) (m := d) (p := (q : Int)) (by omega) (by omega) (by omega) (by omega) (by omega)) fun b hb => ?_)
         rw [Int.toNat_natCast] at hb
         have hcl : cl xss[n] d q = !((xss[n].drop q).take d).any miss := by
          unfold cl
          rw [show decide (q + d ≤ xss[n].length) = true from decide_eq_true hqd, Bool.true_and]
         rw [hcl] at hb
         subst hb
         refine Gives.ite (fun hb => Gives.now ?_) fun hb => ?_
         · simp only [Bool.not_not] at hb; rw [if_pos hb]
         · simp only [Bool.not_not] at hb
           rw [if_neg hb]
           refine Gives.opt (at_nat hn) ?_
           have e : w64 ((q : Int) + d) = ((q + d : Nat) : Int) := by rw [w64_id (by omega) (by omega)]; omega
           rw [e, Int.toNat_natCast]
           have e2 : q + d - q = d := by omega
           rw [e2]
           have hl : ((xss[n].drop q).take d).length = d := by simp; omega
           refine Gives.pos (by omega) (Gives.pos (by show _ ≤ 4294967296; omega) (Gives.now ?_))
           rw [sub_all]
   · rw [if_neg hm]
     exact Gives.pos (by simp; omega) (Gives.now rfl)
 · rw [if_neg h0]
   exact Gives.pos (by simp [h0]) (Gives.now rfl)
theorem same_places {l : List (Int × Int)} (hl : l.length ≤ 140737488351232) : Gives (fun k => T_ref23_SamePlaces k l l) (· = true) := by
 refine Gives.step ?_
 simp only [T_ref23_SamePlaces]
 refine Gives.neg (by simp) (Gives.bind (Q := fun (r : Unit ⊕ Unit) => ∃ u, r = .inl u) ?_ fun r ⟨u, hr⟩ => ?_)
 · refine Gives.loop (fun (s : Int) => ∃ n : Nat, s = n ∧ n ≤ l.length) (fun s => l.length - s.toNat) ?_ ⟨0, rfl, by omega⟩
   rintro s ⟨n, rfl, hn⟩
   unfold T_ref23_SamePlaces_l1
   refine Gives.ite (fun h => ?_) fun h => Gives.now ⟨_, rfl⟩
   have h : n < l.length := by omega
   refine Gives.opt (at_nat h) (Gives.opt (at_nat h) (Gives.neg (by simp) (Gives.now ?_)))
   rw [w64_nat (by omega)]
   exact ⟨⟨n + 1, rfl, h⟩, by simp only [Int.toNat_natCast]; omega⟩
 · subst hr; exact Gives.now rfl
theorem same_ints {l : List Int} (hl : l.length ≤ 140737488351232) : Gives (fun k => T_ref23_SameInts k l l) (· = true) := by
 refine Gives.step ?_
 simp only [T_ref23_SameInts]
 refine Gives.neg (by simp) (Gives.bind (Q := fun (r : Unit ⊕ Unit) => ∃ u, r = .inl u) ?_ fun r ⟨u, hr⟩ => ?_)
 · refine Gives.loop (fun (s : Int) => ∃ n : Nat, s = n ∧ n ≤ l.length) (fun s => l.length - s.toNat) ?_ ⟨0, rfl, by omega⟩
   rintro s ⟨n, rfl, hn⟩
   unfold T_ref23_SameInts_l1
   refine Gives.ite (fun h => ?_) fun h => Gives.now ⟨_, rfl⟩
   have h : n < l.length := by omega
   refine Gives.opt (at_nat h) (Gives.opt (at_nat h) (Gives.neg (by simp) (Gives.now ?_)))
   rw [w64_nat (by omega)]
   exact ⟨⟨n + 1, rfl, h⟩, by simp only [Int.toNat_natCast]; omega⟩
 · subst hr; exact Gives.now rfl
theorem plV_len {xss : List (List Int)} (p : Int) : (plV xss p).1.length ≤ 140737488351232 := by
 unfold plV
 split
 · rename_i h0
   split
   · have := plN_len (xss := xss) (m := p.toNat) (n := xss.length) (Nat.le_refl _)
     rw [List.take_length] at this
     have := (chk_ok h0).2
     simp only; omega
   · simp
 · simp
theorem wiV_len {xss : List (List Int)} (s p m : Int) : (wiV xss s p m).1.length ≤ 140737488351232 := by
 unfold wiV
 split
 · split
   · split
     · simp
     · split
       · simp
       · simp only [List.length_take]; omega
   · simp
 · simp
/-- The order of hits. -/
def beV (a b c d a' b' c' d' : Int) : Bool := if lR a b a' b' = true then true else if lR a' b' a b = true then false else decide (c < c') || (decide (c = c') && decide (d < d'))
theorem sto_before (a b c d a' b' c' d' : Int) : Gives (fun k => T_store_Before k a b c d a' b' c' d') (· = beV a b c d a' b' c' d') := by
 refine Gives.step ?_
 simp only [T_store_Before]
 unfold beV
 refine Gives.bind (ra_less a b a' b') fun v hv => ?_
 subst hv
 refine Gives.ite (fun h => Gives.now (by rw [if_pos h])) fun h => ?_
 rw [if_neg h]
 refine Gives.bind (ra_less a' b' a b) fun v hv => ?_
 subst hv
 refine Gives.ite (fun h => Gives.now (by rw [if_pos h])) fun h => ?_
 rw [if_neg h]
 refine Gives.bind (Q := fun r => decide (r < 0) = (decide (c < c') || (decide (c = c') && decide (d < d')))) ?_ fun r hr => Gives.now hr
 refine Gives.step ?_
 simp only [T_store_Compare]
 have cmq : ∀ x y : Int, Gives (fun k => T_cmp_Compare_557a k x y) (· = if x < y then -1 else if y < x then 1 else 0) := by
  intro x y
  refine Gives.step ?_
  have e : ∀ k, T_cmp_Compare_557a (k + 1) x y = ((T_cmp_isNaN_557a k x).bind fun _ => (T_cmp_isNaN_557a k y).bind fun _ => if x < y then some (-1) else if y < x then some 1 else some 0) := fun k => by
   rw [T_cmp_Compare_557a]; simp
  simp only [e]
  have nan : ∀ z, Gives (fun k => T_cmp_isNaN_557a k z) (fun _ => True) := fun z => Gives.step (by simp only [T_cmp_isNaN_557a]; exact Gives.now trivial)
  refine Gives.bind (nan x) fun _ _ => Gives.bind (nan y) fun _ _ => Gives.ite (fun h => Gives.now (by rw [if_pos h])) fun h => ?_
  rw [if_neg h]
  exact Gives.ite (fun h => Gives.now (by rw [if_pos h])) fun h => Gives.now (by rw [if_neg h])
 refine Gives.bind (cmq c c') fun u hu => Gives.bind (cmq d d') fun v hv => Gives.bind (Q := fun r => r = if u = 0 then v else u) ?_ fun r hr => Gives.now ?_
 · refine Gives.step ?_
   simp only [T_cmp_Or_557a]
   refine Gives.bind (Q := fun (r : Unit ⊕ Int) => match r with | .inl _ => u = 0 ∧ v = 0 | .inr x => x = if u = 0 then v else u) ?_ fun r hr => ?_
   · refine Gives.loop (fun (s : Int) => s = 0 ∨ (s = 1 ∧ u = 0) ∨ (s = 2 ∧ u = 0 ∧ v = 0)) (fun s => 2 - s.toNat) ?_ (.inl rfl)
     intro s hs
     unfold T_cmp_Or_557a_l1
     rcases hs with rfl | ⟨rfl, h0⟩ | ⟨rfl, h0, h1⟩
     · refine Gives.pos (by simp) (Gives.opt (a := u) rfl (Gives.ite (fun h => Gives.now ?_) fun h => Gives.now ?_))
       · simp only [Bool.not_eq_true', decide_eq_false_iff_not] at h
         show u = if u = 0 then v else u
         rw [if_neg h]
       · simp only [Bool.not_eq_true', Bool.not_eq_false, decide_eq_true_eq] at h
         exact ⟨.inr (.inl ⟨rfl, h⟩), by decide⟩
     · refine Gives.pos (by simp) (Gives.opt (a := v) rfl (Gives.ite (fun h => Gives.now ?_) fun h => Gives.now ?_))
       · show v = if u = 0 then v else u
         rw [if_pos h0]
       · simp only [Bool.not_eq_true', Bool.not_eq_false, decide_eq_true_eq] at h
         exact ⟨.inr (.inr ⟨rfl, h0, h⟩), by decide⟩
     · exact Gives.neg (by simp) (Gives.now ⟨h0, h1⟩)
   · cases r with
     | inl x => simp only at hr; exact Gives.now (by rw [if_pos hr.1, hr.2])
     | inr x => simp only at hr; exact Gives.now hr
 · subst hu hv hr
   rcases Int.lt_trichotomy c c' with h | h | h
   · have h1 : ¬ c = c' := by omega
     rw [if_pos h]
     simp [h]
   · subst h
     simp only [Int.lt_irrefl, if_false, if_true, decide_false, Bool.false_or, decide_true, Bool.true_and]
     rcases Int.lt_trichotomy d d' with h | h | h
     · rw [if_pos h]; simp [h]
     · subst h; simp
     · rw [if_neg (by omega), if_pos h]
       have : ¬ d < d' := by omega
       simp [this]
   · have h1 : ¬ c = c' := by omega
     have h2 : ¬ c < c' := by omega
     rw [if_neg h2, if_pos h]
     simp [h1, h2]
theorem ref_before (a b c d a' b' c' d' : Int) : Gives (fun k => T_ref23_Before k a b c d a' b' c' d') (· = beV a b c d a' b' c' d') := by
 refine Gives.step ?_
 simp only [T_ref23_Before]
 unfold beV
 refine Gives.bind (r01_less a b a' b') fun v hv => ?_
 subst hv
 refine Gives.ite (fun h => Gives.now (by rw [if_pos h])) fun h => ?_
 rw [if_neg h]
 refine Gives.bind (Q := fun r => r = if lR a' b' a b = true then false else decide (c < c') || (decide (c = c') && decide (d < d'))) ?_ fun r hr => Gives.now hr
 refine Gives.bind (r01_less a' b' a b) fun v hv => ?_
 subst hv
 refine Gives.ite (fun h => ?_) fun h => Gives.now ?_
 · refine Gives.bind (Q := fun _ => True) (Gives.step (by simp only [T_ref23_Sooner]; exact Gives.now trivial)) fun _ _ => Gives.now ?_
   rw [if_neg (by simpa using h)]
 · rw [if_pos (by simpa using h)]
theorem ag_store {xss : List (List Int)} (hx : Wide xss) {s p m : Int} (s0 : -9223372036854775808 ≤ s) (s1 : s ≤ 9223372036854775807) (p0 : -9223372036854775808 ≤ p) (p1 : p ≤ 9223372036854775807) (a b c d a' b' c' d' : Int) :
 Gives (fun k => T_law23_agree k xss s p m a b c d a' b' c' d') (· = true) := by
 refine Gives.step ?_
 simp only [T_law23_agree]
 refine Gives.bind (sto_places hx m) fun x1 h1 => Gives.bind (ref_places hx m) fun x2 h2 => Gives.bind (sto_window hx s0 s1 p0 p1) fun x3 h3 => Gives.bind (ref_window hx s0 s1 p0 p1) fun x4 h4 => ?_
 subst h1 h2 h3 h4
 refine Gives.bind (Q := fun b => b = true) ?_ fun b hb => Gives.now hb
 refine Gives.pos (by simp) (Gives.bind (same_places (plV_len m)) fun y hy => Gives.pos hy (Gives.bind (same_ints (wiV_len s p m)) fun z hz => Gives.pos hz ?_))
 refine Gives.bind (sto_check hx) fun u hu => Gives.bind (ref_check hx) fun v hv => ?_
 subst hu hv
 refine Gives.pos rfl (Gives.bind (sto_before a b c d a' b' c' d') fun u hu => Gives.bind (ref_before a b c d a' b' c' d') fun v hv => Gives.now ?_)
 subst hu hv
 simp

theorem row_get {R : List (List Int)} {i : Nat} (h : i < R.length) : R[i]? = some (R.getD i []) := by
 rw [List.getD_eq_getElem?_getD, List.getElem?_eq_getElem h]; rfl
theorem tk_all {α : Type} {R : List α} {n : Nat} (h : R.length = n) : (R.drop 0).take n = R := by subst h; simp
theorem app_set {α : Type} {R : List (List α)} {n : Nat} {r : List α} (h : R.length = n) : (R.take n ++ [[]]).set n r = R ++ [r] := by
 subst h
 rw [List.take_length, List.set_append_right _ _ (Nat.le_refl _), Nat.sub_self]; rfl
/-! Decks of numbers. -/
theorem Gives.loop1 {S R : Type} {f : Nat → S → Option (S ⊕ R)} {Q : R → Prop} (Inv : S → Prop) (m : S → Nat)
 (h : ∀ s, Inv s → Gives (fun k => f k s) (fun x => match x with | .inl s' => Inv s' ∧ m s' < m s | .inr r => Q r)) {s : S} (hs : Inv s) : Gives (fun k => loopT (f k) (k - 1) s) Q := by
 suffices H : ∀ (n : Nat) (s : S), m s < n → Inv s → ∃ r, (∃ K N, ∀ k, K ≤ k → ∀ j, N ≤ j → loopT (f k) j s = some r) ∧ Q r by
  obtain ⟨r, ⟨K, N, hK⟩, hr⟩ := H (m s + 1) s (by omega) hs
  exact ⟨r, ⟨max K (N + 1), fun k hk => hK k (by omega) (k - 1) (by omega)⟩, hr⟩
 intro n
 induction n with
 | zero => intro s hs; omega
 | succ n ih =>
  intro s hs hI
  obtain ⟨x, ⟨K, hK⟩, hx⟩ := h s hI
  cases x with
  | inl s' =>
   obtain ⟨r, ⟨K2, N, hK2⟩, hr⟩ := ih s' (by have := hx.2; omega) hx.1
   refine ⟨r, ⟨max K K2, N + 1, fun k hk j hj => ?_⟩, hr⟩
   obtain ⟨j', rfl⟩ : ∃ j', j = j' + 1 := ⟨j - 1, by omega⟩
   simp only [loopT, hK k (by omega), Option.bind_some]
   exact hK2 k (by omega) j' (by omega)
  | inr r =>
   refine ⟨r, ⟨K, 1, fun k hk j hj => ?_⟩, hx⟩
   obtain ⟨j', rfl⟩ : ∃ j', j = j' + 1 := ⟨j - 1, by omega⟩
   simp only [loopT, hK k hk, Option.bind_some]
/-- A remainder from 0 on. -/
theorem mod_ok {x n : Int} (hn : 1 ≤ n) (hn2 : n ≤ 1000000) : 0 ≤ (w64 (x.tmod n + n)).tmod n ∧ (w64 (x.tmod n + n)).tmod n < n := by
 have h1 := Int.tmod_lt_of_pos x (show 0 < n by omega)
 have h2 : -n < x.tmod n := by
  have := Int.lt_tmod_of_pos x (show 0 < n by omega)
  omega
 rw [w64_id (by omega) (by omega)]
 exact ⟨Int.tmod_nonneg _ (by omega), Int.tmod_lt_of_pos _ (by omega)⟩
theorem dk_mod {x n : Int} (hn : n ≠ 0) : Gives (fun k => T_shapesearchsecond_Mod k x n) (fun _ => True) := by
 refine Gives.step ?_
 simp only [T_shapesearchsecond_Mod]
 exact Gives.pos hn (Gives.now trivial)
structure Dk (L : List Int) (p : Int) : Prop where
 len : L.length ≤ 400
 lo : 0 ≤ p
 hi : p ≤ (L.length : Int)
theorem dk_next {L : List Int} {p : Int} (h : Dk L p) (n : Int) (hn : n ≤ 1000000) : Gives (fun k => T_shapesearchsecond_Deck_Next k n L p) (fun r => (0 ≤ r.1 ∧ (r.1 < n ∨ r.1 = 0)) ∧ Dk L r.2) := by
 have h1 := h.len
 have h2 := h.lo
 have h3 := h.hi
 refine Gives.step ?_
 simp only [T_shapesearchsecond_Deck_Next]
 refine Gives.ite (fun _ => Gives.now ⟨⟨by simp only []; omega, .inr rfl⟩, h⟩) fun c => ?_
 simp at c
 rw [w64_id (x := p + 1) (by omega) (by omega), w64_id (x := p + 1 - 1) (by omega) (by omega)]
 refine Gives.opt (at_rd (by omega) (by omega)) (Gives.bind (dk_mod (by omega)) fun _ _ => Gives.now ?_)
 have m := mod_ok (x := rd L (p + 1 - 1)) (n := n) (by omega) hn
 exact ⟨⟨m.1, .inl m.2⟩, ⟨h1, by simp only []; omega, by simp only []; omega⟩⟩
theorem dk_sample {L : List Int} {p : Int} (h : Dk L p) : Gives (fun k => T_shapesearchsecond_Deck_Sample k L p) (fun r => Dk L r.2) := by
 refine Gives.step ?_
 simp only [T_shapesearchsecond_Deck_Sample]
 refine Gives.bind (dk_next h 12 (by omega)) fun a ha => Gives.ite (fun _ => Gives.bind (dk_next ha.2 2001 (by omega)) fun b hb => Gives.now hb.2) fun _ => Gives.ite (fun _ => Gives.bind (dk_next ha.2 2 (by omega)) fun b hb => ?_) fun _ => Gives.bind (dk_next ha.2 13 (by omega)) fun b hb => Gives.now hb.2
 exact Gives.opt (at_rd hb.1.1 (by simp; omega)) (Gives.now hb.2)
theorem dk_values {L : List Int} {p : Int} (h : Dk L p) (n : Int) (hn : n ≤ 1000) : Gives (fun k => T_shapesearchsecond_Deck_Values k n L p) (fun r => r.1 = r.2.2.length ∧ r.1 ≤ 1000 ∧ Dk L r.2.1) := by
 refine Gives.step ?_
 simp only [T_shapesearchsecond_Deck_Values]
 refine Gives.bind (dk_next h 5 (by omega)) fun a ha => Gives.bind (dk_next ha.2 4 (by omega)) fun b hb => ?_
 have b1 := hb.1
 rw [w64_id (x := 2 + b.1) (by omega) (by omega)]
 refine Gives.bind (Q := fun r => r.1 = r.2.2.length ∧ r.1 ≤ 1000 ∧ Dk L r.2.1) ?_ fun r hr => Gives.now hr
 refine Gives.loop (fun s => 0 ≤ s.2.1 ∧ s.2.1 ≤ 1000 ∧ s.1 = s.2.1.toNat ∧ s.2.2.2.length = s.1 ∧ Dk L s.2.2.1) (fun s => (n - s.2.1).toNat) ?_ ⟨by simp only []; omega, by simp only []; omega, rfl, rfl, hb.2⟩
 intro ⟨cnt, i, q, l⟩ ⟨i0, i1, i2, i3, i4⟩
 simp only at i0 i1 i2 i3 i4
 unfold T_shapesearchsecond_Deck_Values_l1
 simp only []
 refine Gives.ite (fun c => Gives.bind (dk_sample i4) fun u hu => ?_) fun c => Gives.now ⟨i3.symm, by simp only []; omega, i4⟩
 refine Gives.bind (Q := fun r => Dk L r.2) ?_ fun v hv => ?_
 · refine Gives.ite (fun _ => Gives.pos (by omega) (Gives.now hu)) fun _ => Gives.ite (fun _ => Gives.pos (by omega) (Gives.bind (dk_next hu 2 (by omega)) fun w hw => Gives.now hw.2)) fun _ => Gives.ite (fun _ => Gives.pos (by omega) (Gives.now hu)) fun _ => Gives.now hu
 refine Gives.bind (dk_next hv 30 (by omega)) fun w hw => Gives.bind (Q := fun _ => True) (Gives.ite (fun _ => Gives.now trivial) fun _ => Gives.now trivial) fun z _ => ?_
 rw [w64_id (x := i + 1) (by omega) (by omega), tk_all i3]
 exact Gives.pos (by unfold LIM; omega) (Gives.now ⟨⟨by simp only []; omega, by simp only []; omega, by simp only []; omega, by simp only []; rw [List.length_append, i3]; rfl, hw.2⟩, by simp only []; omega⟩)
theorem dk_store {L : List Int} {p : Int} (h : Dk L p) (n : Int) (n0 : 0 ≤ n) (hn : n ≤ 900) : Gives (fun k => T_shapesearchsecond_Deck_Store k n L p) (fun r => r.1 = r.2.2.length ∧ 1 ≤ r.1 ∧ r.1 ≤ 5 ∧ (∀ l ∈ r.2.2, l.length ≤ 1000) ∧ Dk L r.2.1) := by
 refine Gives.step ?_
 simp only [T_shapesearchsecond_Deck_Store]
 refine Gives.bind (dk_next h 4 (by omega)) fun a ha => ?_
 have a1 := ha.1
 rw [w64_id (x := n + 1) (by omega) (by omega), w64_id (x := a.1 - 1) (by omega) (by omega)]
 refine Gives.bind (Q := fun r => Dk L r.1 ∧ r.2.length = 1 ∧ ∀ l ∈ r.2, l.length ≤ 1000) ?_ fun b hb => ?_
 · refine Gives.pos (by omega) (Gives.bind (dk_next ha.2 (n + 1) (by omega)) fun u hu => Gives.bind (dk_values hu.2 u.1 (by have := hu.1; omega)) fun v hv => Gives.now ⟨hv.2.2, rfl, fun l hl => ?_⟩)
   simp at hl
   subst hl
   rw [List.length_take]; omega
 refine Gives.bind (Q := fun r => r.2.1 = r.2.2.length ∧ 1 ≤ r.2.1 ∧ r.2.1 ≤ 5 ∧ (∀ l ∈ r.2.2, l.length ≤ 1000) ∧ Dk L r.1) ?_ fun r hr => Gives.now hr
 refine Gives.loop1 (fun s => -1 ≤ s.1 ∧ (s.2.2.1 : Int) + s.1 ≤ 4 ∧ 1 ≤ s.2.2.1 ∧ s.2.2.1 = s.2.2.2.length ∧ (∀ l ∈ s.2.2.2, l.length ≤ 1000) ∧ Dk L s.2.1) (fun s => (s.1 + 1).toNat) ?_ ⟨by simp only []; omega, by simp only []; omega, Nat.le_refl 1, hb.2.1.symm, hb.2.2, hb.1⟩
 intro ⟨i, q, cnt, R⟩ ⟨i0, i1, i2, i3, i4, i5⟩
 simp only at i0 i1 i2 i3 i4 i5
 unfold T_shapesearchsecond_Deck_Store_l1
 simp only []
 refine Gives.ite (fun c => ?_) fun c => Gives.now ⟨i3, i2, by simp only []; omega, i4, i5⟩
 rw [w64_id (x := n + 1) (by omega) (by omega), w64_id (x := i - 1) (by omega) (by omega)]
 refine Gives.bind (dk_next i5 (n + 1) (by omega)) fun u hu => Gives.bind (dk_values hu.2 u.1 (by have := hu.1; omega)) fun v hv => Gives.pos (by unfold LIM; omega) ?_
 rw [app_set i3.symm]
 refine Gives.now ⟨⟨by simp only []; omega, by simp only []; omega, by simp only []; omega, by simp only []; rw [List.length_append, i3]; rfl, fun l hl => ?_, hv.2.2⟩, by simp only []; omega⟩
 rcases List.mem_append.1 hl with hl | hl
 · exact i4 l hl
 · simp at hl
   subst hl
   rw [List.length_take]; omega

-- What stores, places, windows and the order of hits are, for stores that are made of numbers, with one number that may be wrong.
theorem awake_ok : Gives (fun k => T_law23_awake k) (· = true) := ⟨true, ⟨1000, fun k hk => by unfold T_law23_awake; exact if_pos hk⟩, rfl⟩
theorem dk_make {a b : Int} (h0 : 0 ≤ a) (h1 : a ≤ 100) (h2 : 1 ≤ b) (h3 : b ≤ 100) : Gives (fun k => T_ref01_Make k a b) (fun _ => True) := by
 obtain ⟨m, rfl⟩ : ∃ m : Nat, a = m := ⟨a.toNat, by omega⟩
 obtain ⟨n, rfl⟩ : ∃ n : Nat, b = n := ⟨b.toNat, by omega⟩
 exact (r01_make (by omega) (by omega) (by omega)).mono fun _ _ => trivial
theorem pure_storeMade (a0 : List Int) (w0 : ∀ n ∈ a0, (Lit.int .i64 n).wf = true) (a1 : Int) (w1 : (Lit.int .i64 a1).wf = true) (a2 : Int) (w2 : (Lit.int .i64 a2).wf = true) (a3 : Int) (w3 : (Lit.int .i64 a3).wf = true) (a4 : Int) (w4 : (Lit.int .i64 a4).wf = true) : ∃ k, T_law23_StoreMade k a0 a1 a2 a3 a4 = some true := by
 refine Gives.true (f := fun k => T_law23_StoreMade k a0 a1 a2 a3 a4) (Gives.step ?_)
 simp only [T_law23_StoreMade]
 refine Gives.bind (Q := fun _ => True) (Gives.step (by simp only [T_shapesearchsecond_Few]; exact Gives.now trivial)) fun _ _ => Gives.ite (fun _ => Gives.bind awake_ok fun b hb => Gives.now hb) fun c => ?_
 have d0 : Dk a0 0 := ⟨by simp at c; omega, by omega, by omega⟩
 refine Gives.bind (Q := fun _ => True) (Gives.step (by simp only [T_shapesearchsecond_New]; exact Gives.now trivial)) fun _ _ => Gives.bind (dk_store d0 40 (by omega) (by omega)) fun s hs => ?_
 obtain ⟨s1, s2, s3, s4, s5⟩ := hs
 refine Gives.pos ⟨by omega, by omega⟩ (Gives.opt (row_get (by omega)) (Gives.bind (dk_mod (by omega)) fun _ _ => ?_))
 have hx : (s.2.2.getD (0 + 0) []).length ≤ 1000 := s4 _ (List.mem_of_getElem? (row_get (R := s.2.2) (i := 0 + 0) (by omega)))
 generalize s.2.2.getD (0 + 0) [] = x at hx ⊢
 refine Gives.bind (Q := fun R => R.length = s.1 ∧ ∀ l ∈ R, l.length ≤ 1000) ?_ fun R hR => ?_
 · refine Gives.ite (fun g => ?_) fun g => Gives.now ⟨by rw [List.length_set]; omega, fun l hl => ?_⟩
   · have g : 0 < x.length := by simp at g; omega
     have m := mod_ok (x := a2) (n := (x.length : Int)) (by omega) (by omega)
     refine Gives.bind (dk_mod (by omega)) fun _ _ => Gives.pos m (Gives.now ⟨by rw [List.length_set]; omega, fun l hl => ?_⟩)
     rcases List.mem_or_eq_of_mem_set hl with hl | rfl
     · exact s4 l hl
     · rw [List.length_set]; exact hx
   · rcases List.mem_or_eq_of_mem_set hl with hl | rfl
     · exact s4 l hl
     · exact hx
 obtain ⟨r1, r2⟩ := hR
 rw [tk_all r1]
 refine Gives.bind (dk_mod (by omega)) fun _ _ => Gives.bind (dk_mod (by omega)) fun _ _ => Gives.bind (dk_next s5 5 (by omega)) fun u1 h1 => Gives.bind (dk_next h1.2 3 (by omega)) fun u2 h2 => ?_
 have b1 := h1.1
 have b2 := h2.1
 rw [w64_id (x := 1 + u2.1) (by omega) (by omega)]
 refine Gives.bind (dk_make b1.1 (by omega) (by omega) (by omega)) fun _ _ => Gives.bind (dk_next h2.2 5 (by omega)) fun u3 h3 => Gives.bind (dk_next h3.2 3 (by omega)) fun u4 h4 => ?_
 have b3 := h3.1
 have b4 := h4.1
 rw [w64_id (x := 1 + u4.1) (by omega) (by omega)]
 refine Gives.bind (dk_make b3.1 (by omega) (by omega) (by omega)) fun _ _ => Gives.bind (dk_next h4.2 2 (by omega)) fun u5 h5 => Gives.bind (dk_next h5.2 2 (by omega)) fun u6 h6 => Gives.bind (dk_next h6.2 2 (by omega)) fun u7 h7 => Gives.bind (dk_next h7.2 2 (by omega)) fun u8 h8 => ?_
 refine Gives.bind (Q := fun b => b = true) (Gives.bind (dk_mod (by omega)) fun _ _ => ?_) fun b hb => Gives.now hb
 have m1 := mod_ok (x := a3) (n := 6) (by omega) (by omega)
 have m2 := mod_ok (x := a4) (n := 45) (by omega) (by omega)
 rw [w64_id (x := (w64 (a3.tmod 6 + 6)).tmod 6 - 1) (by omega) (by omega), w64_id (x := (w64 (a4.tmod 45 + 45)).tmod 45 - 2) (by omega) (by omega)]
 refine Gives.bind (ag_store ⟨by omega, fun l hl => Nat.le_trans (r2 l hl) (by omega)⟩ (by omega) (by omega) (by omega) (by omega) _ _ _ _ _ _ _ _) fun b hb => Gives.pos hb (Gives.bind awake_ok fun b hb => Gives.now hb)

end Go.Proofs.YtkeddnagijjbaaaGreat.storeMade
