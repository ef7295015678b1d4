/- That the told functions answer as the statement SketchShifts says, in plain Lean. There are no conditions. -/
import Derived.Test.YtdmipmhpjdmopaaTSketchShifts0
set_option maxRecDepth 100000
set_option linter.unusedVariables false
set_option linter.unusedSimpArgs false
namespace Go.Proofs.Ytdmipmhpjdmopaa.sketchShifts
open Go
theorem wf_u8 {n : Int} (h : (Lit.int .u8 n).wf = true) : 0 ≤ n ∧ n ≤ 255 := by
  simpa [Lit.wf, IntKind.min, IntKind.max, IntKind.signed, IntKind.bits] using h
theorem wf_i8 {n : Int} (h : (Lit.int .i8 n).wf = true) : -128 ≤ n ∧ n ≤ 127 := by
  simpa [Lit.wf, IntKind.min, IntKind.max, IntKind.signed, IntKind.bits] using h
theorem wf_i64 {n : Int} (h : (Lit.int .i64 n).wf = true) : -9223372036854775808 ≤ n ∧ n ≤ 9223372036854775807 := by
  simpa [Lit.wf, IntKind.min, IntKind.max, IntKind.signed, IntKind.bits] using h
theorem w64_id {x : Int} (h1 : -9223372036854775808 ≤ x) (h2 : x < 9223372036854775808) : w64 x = x := wrap_id h1 h2

/-- With enough rounds the answer is there, and it is as asked. -/
def Gives {α : Type} (f : Nat → Option α) (Q : α → Prop) : Prop := ∃ r, (∃ K, ∀ k, K ≤ k → f k = some r) ∧ Q r
theorem Gives.mono {α : Type} {f : Nat → Option α} {Q Q' : α → Prop} (h : Gives f Q) (k : ∀ r, Q r → Q' r) : Gives f Q' := by
  obtain ⟨r, h1, h2⟩ := h; exact ⟨r, h1, k r h2⟩
theorem Gives.now {α : Type} {r : α} {Q : α → Prop} (h : Q r) : Gives (fun _ => some r) Q := ⟨r, ⟨0, fun _ _ => rfl⟩, h⟩
theorem Gives.con {α : Type} {x : Option α} {r : α} {Q : α → Prop} (h : x = some r) (k : Q r) : Gives (fun _ => x) Q := ⟨r, ⟨0, fun _ _ => h⟩, k⟩
theorem Gives.bind {α β : Type} {f : Nat → Option α} {g : Nat → α → Option β} {Q : α → Prop} {Q' : β → Prop} (h : Gives f Q) (k : ∀ a, Q a → Gives (fun n => g n a) Q') : Gives (fun n => (f n).bind (g n)) Q' := by
  obtain ⟨a, ⟨K, hK⟩, ha⟩ := h
  obtain ⟨r, ⟨K2, hK2⟩, hr⟩ := k a ha
  exact ⟨r, ⟨max K K2, fun n hn => by show (f n).bind (g n) = some r; rw [hK n (by omega), Option.bind_some]; exact hK2 n (by omega)⟩, hr⟩
theorem Gives.opt {α β : Type} {x : Option α} {a : α} {g : Nat → α → Option β} {Q : β → Prop} (h : x = some a) (k : Gives (fun n => g n a) Q) : Gives (fun n => x.bind (g n)) Q := by
  subst h; exact k
theorem Gives.step {α : Type} {f : Nat → Option α} {Q : α → Prop} (h : Gives (fun k => f (k + 1)) Q) : Gives f Q := by
  obtain ⟨r, ⟨K, hK⟩, hr⟩ := h
  refine ⟨r, ⟨K + 1, fun n hn => ?_⟩, hr⟩
  obtain ⟨m, rfl⟩ : ∃ m, n = m + 1 := ⟨n - 1, by omega⟩
  exact hK m (by omega)
theorem Gives.ite {α : Type} {c : Prop} [Decidable c] {f g : Nat → Option α} {Q : α → Prop} (h : c → Gives f Q) (k : ¬ c → Gives g Q) : Gives (fun n => if c then f n else g n) Q := by
  by_cases hc : c
  · simp only [if_pos hc]; exact h hc
  · simp only [if_neg hc]; exact k hc
theorem Gives.pos {α : Type} {c : Prop} [Decidable c] {f g : Nat → Option α} {Q : α → Prop} (hc : c) (h : Gives f Q) : Gives (fun n => if c then f n else g n) Q := by
  simp only [if_pos hc]; exact h
theorem Gives.neg {α : Type} {c : Prop} [Decidable c] {f g : Nat → Option α} {Q : α → Prop} (hc : ¬ c) (h : Gives g Q) : Gives (fun n => if c then f n else g n) Q := by
  simp only [if_neg hc]; exact h
theorem Gives.loop {S R : Type} {f : Nat → S → Option (S ⊕ R)} {Q : R → Prop} (Inv : S → Prop) (m : S → Nat)
    (h : ∀ s, Inv s → Gives (fun k => f k s) (fun x => match x with | .inl s' => Inv s' ∧ m s' < m s | .inr r => Q r)) {s : S} (hs : Inv s) : Gives (fun k => loopT (f k) k s) Q := by
  suffices H : ∀ (n : Nat) (s : S), m s < n → Inv s → ∃ r, (∃ K N, ∀ k, K ≤ k → ∀ j, N ≤ j → loopT (f k) j s = some r) ∧ Q r by
    obtain ⟨r, ⟨K, N, hK⟩, hr⟩ := H (m s + 1) s (by omega) hs
    exact ⟨r, ⟨max K N, fun k hk => hK k (by omega) k (by omega)⟩, hr⟩
  intro n
  induction n with
  | zero => intro s hs; omega
  | succ n ih =>
    intro s hs hI
    obtain ⟨x, ⟨K, hK⟩, hx⟩ := h s hI
    cases x with
    | inl s' =>
      obtain ⟨r, ⟨K2, N, hK2⟩, hr⟩ := ih s' (by have := hx.2; omega) hx.1
      refine ⟨r, ⟨max K K2, N + 1, fun k hk j hj => ?_⟩, hr⟩
      obtain ⟨j', rfl⟩ : ∃ j', j = j' + 1 := ⟨j - 1, by omega⟩
      simp only [loopT, hK k (by omega), Option.bind_some]
      exact hK2 k (by omega) j' (by omega)
    | inr r =>
      refine ⟨r, ⟨K, 1, fun k hk j hj => ?_⟩, hx⟩
      obtain ⟨j', rfl⟩ : ∃ j', j = j' + 1 := ⟨j - 1, by omega⟩
      simp only [loopT, hK k hk, Option.bind_some]
theorem Gives.true {f : Nat → Option Bool} (h : Gives f (· = true)) : ∃ k, f k = some true := by
  obtain ⟨r, ⟨K, hK⟩, hr⟩ := h
  subst hr
  exact ⟨K, hK K (Nat.le_refl _)⟩
/-- An element of a list, 0 outside of it. -/
def rd (xs : List Int) (i : Int) : Int := xs.getD i.toNat 0
theorem at_rd {xs : List Int} {i : Int} (h0 : 0 ≤ i) (h1 : i < (xs.length : Int)) : at? xs i = some (rd xs i) := by
  unfold at? rd
  rw [if_pos h0, List.getD_eq_getElem?_getD, List.getElem?_eq_getElem (by omega)]; rfl
theorem get_rd {xs : List Int} {n : Nat} (h1 : n < xs.length) : xs[n]? = some (rd xs n) := by
  unfold rd
  rw [List.getD_eq_getElem?_getD, List.getElem?_eq_getElem h1]
  simp [h1]
theorem rd_mem {xs : List Int} {i : Int} (h0 : 0 ≤ i) (h1 : i < (xs.length : Int)) : rd xs i ∈ xs := by
  unfold rd
  have h : i.toNat < xs.length := by omega
  rw [List.getD_eq_getElem?_getD, List.getElem?_eq_getElem h]; exact List.getElem_mem h
/-- All numbers are samples. -/
def Smp (xs : List Int) : Prop := ∀ v ∈ xs, -1000 ≤ v ∧ v ≤ 1000
theorem Smp.rd {xs : List Int} (h : Smp xs) (i : Int) : -1000 ≤ rd xs i ∧ rd xs i ≤ 1000 := by
  show -1000 ≤ xs.getD i.toNat 0 ∧ xs.getD i.toNat 0 ≤ 1000
  rw [List.getD_eq_getElem?_getD]
  rcases Nat.lt_or_ge i.toNat xs.length with c | c
  · rw [List.getElem?_eq_getElem c]; exact h _ (List.getElem_mem c)
  · rw [List.getElem?_eq_none c]; decide
theorem Smp.nil : Smp [] := fun _ h => by simp at h
theorem Smp.app {xs ys : List Int} (h : Smp xs) (k : Smp ys) : Smp (xs ++ ys) := fun v hv => by
  rcases List.mem_append.1 hv with h1 | h1
  · exact h v h1
  · exact k v h1
theorem Smp.one {v : Int} (h0 : -1000 ≤ v) (h1 : v ≤ 1000) : Smp [v] := fun u hu => by
  obtain rfl := List.mem_singleton.1 hu; exact ⟨h0, h1⟩
theorem Smp.take {xs : List Int} (h : Smp xs) (n : Nat) : Smp (xs.take n) := fun v hv => h v (List.mem_of_mem_take hv)
theorem Smp.drop {xs : List Int} (h : Smp xs) (n : Nat) : Smp (xs.drop n) := fun v hv => h v (List.mem_of_mem_drop hv)
theorem Smp.set {xs : List Int} (h : Smp xs) (n : Nat) {v : Int} (h0 : -1000 ≤ v) (h1 : v ≤ 1000) : Smp (xs.set n v) := fun u hu => by
  rcases List.mem_or_eq_of_mem_set hu with h2 | h2
  · exact h u h2
  · subst h2; exact ⟨h0, h1⟩
/-- A window. -/
structure Win (xs : List Int) : Prop where
  lo : 2 ≤ xs.length
  hi : xs.length ≤ 32
  smp : Smp xs

/-- A reader of numbers. -/
structure SrcOk (L : List Int) (p : Int) : Prop where
  lo : 0 ≤ p
  hi : p ≤ (L.length : Int)
  len : L.length ≤ 2000
theorem src_raw {L : List Int} {p : Int} (h : SrcOk L p) : Gives (fun k => T_keep_Src_Raw k L p) (fun r => SrcOk L r.2) := by
  obtain ⟨h0, h1, h2⟩ := h
  refine Gives.step ?_
  simp only [T_keep_Src_Raw]
  have e1 : w64 (p + 1) = p + 1 := w64_id (by omega) (by omega)
  have e2 : w64 (w64 (p + 1) - 1) = p := by rw [e1, w64_id (by omega) (by omega)]; omega
  refine Gives.ite (fun c => Gives.now ⟨h0, h1, h2⟩) fun c => ?_
  rw [e2, e1]
  exact Gives.opt (at_rd h0 (by omega)) (Gives.now ⟨by simp only []; omega, by simp only []; omega, h2⟩)
theorem src_mod (x n : Int) (h : 1 ≤ n) (hn : n ≤ 4611686018427387904) : Gives (fun k => T_keep_Mod k x n) (fun v => 0 ≤ v ∧ v < n) := by
  have h1 : Int.tmod x n < n := Int.tmod_lt_of_pos _ (by omega)
  have h2 : -n < Int.tmod x n := by
    rcases Int.le_total 0 x with c | c
    · have := Int.tmod_nonneg n c; omega
    · have h3 : Int.tmod (-x) n < n := Int.tmod_lt_of_pos _ (by omega)
      rw [Int.neg_tmod] at h3; omega
  refine Gives.step ?_
  simp only [T_keep_Mod]
  refine Gives.neg (by omega) (Gives.pos (by omega) (Gives.bind (Q := fun v => 0 ≤ v ∧ v < n) ?_ fun a ha => Gives.now ha))
  refine Gives.ite (fun c => ?_) fun c => Gives.now ⟨by omega, by omega⟩
  rw [w64_id (by omega) (by omega)]
  exact Gives.now ⟨by omega, by omega⟩
theorem src_n {L : List Int} {p : Int} (h : SrcOk L p) (n : Int) (h1 : 1 ≤ n) (hn : n ≤ 4611686018427387904) : Gives (fun k => T_keep_Src_N k n L p) (fun r => 0 ≤ r.1 ∧ r.1 < n ∧ SrcOk L r.2) := by
  refine Gives.step ?_
  simp only [T_keep_Src_N]
  exact Gives.bind (src_raw h) fun a ha => Gives.bind (src_mod a.1 n h1 hn) fun v hv => Gives.now ⟨hv.1, hv.2, ha⟩
theorem src_range {L : List Int} {p : Int} (h : SrcOk L p) (lo hi : Int) (h1 : lo ≤ hi) (h0 : -1000000000000 ≤ lo) (h2 : hi ≤ 1000000000000) : Gives (fun k => T_keep_Src_Range k lo hi L p) (fun r => lo ≤ r.1 ∧ r.1 ≤ hi ∧ SrcOk L r.2) := by
  have e1 : w64 (w64 (hi - lo) + 1) = hi - lo + 1 := by rw [w64_id (x := hi - lo) (by omega) (by omega), w64_id (by omega) (by omega)]
  refine Gives.step ?_
  simp only [T_keep_Src_Range]
  rw [e1]
  refine Gives.bind (src_n h (hi - lo + 1) (by omega) (by omega)) fun a ha => ?_
  rw [w64_id (by omega) (by omega)]
  exact Gives.now ⟨by simp only []; omega, by simp only []; omega, ha.2.2⟩
theorem src_pick {L : List Int} {p : Int} (h : SrcOk L p) (l : List Int) (h1 : 1 ≤ l.length) (h2 : l.length ≤ 1000) : Gives (fun k => T_keep_Src_Pick k l L p) (fun r => r.1 ∈ l ∧ SrcOk L r.2) := by
  refine Gives.step ?_
  simp only [T_keep_Src_Pick]
  exact Gives.bind (src_n h (l.length : Int) (by omega) (by omega)) fun a ha => Gives.opt (at_rd ha.1 ha.2.1) (Gives.now ⟨rd_mem ha.1 ha.2.1, ha.2.2⟩)
theorem src_clip (x : Int) : Gives (fun k => T_keep_clip k x) (fun _ => True) := by
  refine Gives.step ?_
  simp only [T_keep_clip]
  exact Gives.now trivial
theorem clip_smp (x : Int) : -1000 ≤ imin (imax x (-1000)) 1000 ∧ imin (imax x (-1000)) 1000 ≤ 1000 := by unfold imin imax; split <;> split <;> omega
theorem src_length {L : List Int} {p : Int} (h : SrcOk L p) : Gives (fun k => T_keep_Src_Length k L p) (fun r => 2 ≤ r.1 ∧ r.1 ≤ 32 ∧ SrcOk L r.2) := by
  refine Gives.step ?_
  simp only [T_keep_Src_Length]
  refine Gives.bind (src_n h 8 (by omega) (by omega)) fun a ha => Gives.ite (fun c => ?_) fun c => ?_
  · exact Gives.bind (src_range ha.2.2 13 32 (by omega) (by omega) (by omega)) fun b hb => Gives.now ⟨by simp only []; omega, by simp only []; omega, hb.2.2⟩
  · exact Gives.bind (src_range ha.2.2 2 12 (by omega) (by omega) (by omega)) fun b hb => Gives.now ⟨by simp only []; omega, by simp only []; omega, hb.2.2⟩
theorem drop_take_len {xs : List Int} {n : Nat} (h : xs.length = n) : (xs.drop 0).take n = xs := by rw [List.drop_zero, ← h, List.take_length]
theorem src_list {L : List Int} {p : Int} (h : SrcOk L p) (n : Int) (h1 : 2 ≤ n) (h2 : n ≤ 32) : Gives (fun k => T_keep_Src_List k n L p) (fun r => (r.1 : Int) = n ∧ r.2.2.length = r.1 ∧ Smp r.2.2 ∧ SrcOk L r.2.1) := by
  refine Gives.step ?_
  simp only [T_keep_Src_List]
  refine Gives.bind (src_n h 6 (by omega) (by omega)) fun a ha => Gives.bind (src_pick ha.2.2 [1, 3, 10, 100, 1000] (by decide) (by decide)) fun b hb => Gives.bind (src_n hb.2 3 (by omega) (by omega)) fun c hc => ?_
  have hb1 : 1 ≤ b.1 ∧ b.1 ≤ 1000 := by have := hb.1; simp at this; omega
  have em : w64 (0 - b.1) = -b.1 := by rw [w64_id (by omega) (by omega)]; omega
  refine Gives.bind (Q := fun d => -1000 ≤ d.1 ∧ d.1 ≤ 1000 ∧ SrcOk L d.2) ?_ fun d hd => ?_
  · refine Gives.ite (fun _ => ?_) fun _ => Gives.now ⟨by simp only []; omega, by simp only []; omega, hc.2.2⟩
    exact Gives.bind (src_range hc.2.2 (-1000) 1000 (by omega) (by omega) (by omega)) fun e he => Gives.now he
  refine Gives.bind (Q := fun r => (r.1 : Int) = n ∧ r.2.2.length = r.1 ∧ Smp r.2.2 ∧ SrcOk L r.2.1) ?_ fun r hr => ?_
  · refine Gives.loop (fun s => -1000 ≤ s.1 ∧ s.1 ≤ 1000 ∧ (s.2.1 : Int) = s.2.2.1 ∧ s.2.2.1 ≤ n ∧ SrcOk L s.2.2.2.1 ∧ s.2.2.2.2.length = s.2.1 ∧ Smp s.2.2.2.2) (fun s => (n - s.2.2.1).toNat) ?_ ⟨hd.1, hd.2.1, rfl, by simp only []; omega, hd.2.2, rfl, Smp.nil⟩
    intro s ⟨i1, i2, i3, i4, i5, i6, i7⟩
    have ed : (s.2.2.2.2.drop 0).take s.2.1 = s.2.2.2.2 := drop_take_len i6
    unfold T_keep_Src_List_l1
    refine Gives.ite (fun c => ?_) fun c => Gives.now ⟨by simp only []; omega, i6, i7, i5⟩
    rw [em, ed]
    have hlim : s.2.1 + 1 ≤ LIM := by unfold LIM; omega
    refine Gives.bind (Q := fun _ => True) (Gives.ite (fun _ => Gives.now trivial) fun _ => Gives.now trivial) fun t _ => ?_
    refine Gives.bind (Q := fun r => -1000 ≤ r.1 ∧ r.1 ≤ 1000 ∧ SrcOk L r.2.1 ∧ r.2.2.length = s.2.1 + 1 ∧ Smp r.2.2) ?_ fun r hr => ?_
    · refine Gives.ite (fun _ => ?_) fun _ => ?_
      · refine Gives.bind (src_range i5 (-b.1) b.1 (by omega) (by omega) (by omega)) fun v hv => Gives.pos hlim (Gives.now ⟨i1, i2, hv.2.2, by simp [i6], i7.app (Smp.one (by omega) (by omega))⟩)
      · refine Gives.bind (Q := fun _ => True) (Gives.ite (fun _ => Gives.now trivial) fun _ => Gives.now trivial) fun t2 _ => Gives.ite (fun _ => ?_) fun _ => Gives.ite (fun _ => ?_) fun _ => ?_
        · refine Gives.bind (src_range i5 (-b.1) b.1 (by omega) (by omega) (by omega)) fun v hv => Gives.bind (src_clip _) fun _ _ => Gives.pos hlim (Gives.now ?_)
          have := clip_smp (w64 (s.1 + v.1))
          exact ⟨this.1, this.2, hv.2.2, by simp [i6], i7.app (Smp.one this.1 this.2)⟩
        · refine Gives.bind (src_n i5 4 (by omega) (by omega)) fun v hv => Gives.bind (Q := fun r => -1000 ≤ r.1 ∧ r.1 ≤ 1000 ∧ SrcOk L r.2) (Gives.ite (fun _ => ?_) fun _ => Gives.now ⟨i1, i2, hv.2.2⟩) fun u hu => Gives.pos hlim (Gives.now ⟨hu.1, hu.2.1, hu.2.2, by simp [i6], i7.app (Smp.one hu.1 hu.2.1)⟩)
          exact Gives.bind (src_range hv.2.2 (-b.1) b.1 (by omega) (by omega) (by omega)) fun e he => Gives.now ⟨by simp only []; omega, by simp only []; omega, he.2.2⟩
        · refine Gives.bind (src_pick i5 [-1000, 1000, 1000, 0] (by decide) (by decide)) fun v hv => Gives.pos hlim (Gives.now ?_)
          have : -1000 ≤ v.1 ∧ v.1 ≤ 1000 := by have := hv.1; simp at this; omega
          exact ⟨i1, i2, hv.2, by simp [i6], i7.app (Smp.one this.1 this.2)⟩
    · have ei : w64 (s.2.2.1 + 1) = s.2.2.1 + 1 := w64_id (by omega) (by omega)
      rw [ei]
      exact Gives.now ⟨⟨hr.1, hr.2.1, by simp only []; omega, by simp only []; omega, hr.2.2.1, hr.2.2.2.1, hr.2.2.2.2⟩, by simp only []; omega⟩
  · exact Gives.now hr

theorem get_rd0 {xs : List Int} {i : Int} (h0 : 0 ≤ i) (h1 : i < (xs.length : Int)) : xs[0 + i.toNat]? = some (rd xs i) := by
  rw [Nat.zero_add, get_rd (by omega), Int.toNat_of_nonneg h0]
theorem src_new (l : List Int) : SrcOk ((l.drop 0).take ((imin (l.length : Int) 2000).toNat - 0)) 0 ∧ Gives (fun k => T_keep_New k l) (fun _ => True) := by
  have h1 : 0 ≤ imin (l.length : Int) 2000 := by unfold imin; split <;> omega
  have h2 : imin (l.length : Int) 2000 ≤ l.length := by unfold imin; split <;> omega
  have h3 : imin (l.length : Int) 2000 ≤ 2000 := by unfold imin; split <;> omega
  refine ⟨⟨by omega, by omega, ?_⟩, ?_⟩
  · simp; omega
  · refine Gives.step ?_
    simp only [T_keep_New]
    exact Gives.pos (by omega) (Gives.now trivial)
/-! The distance of chapter 12. -/
theorem eu_samples {xs : List Int} (h : Win xs) : Gives (fun k => T_euclid_samples k xs) (· = true) := by
  have h2 := h.hi
  refine Gives.step ?_
  simp only [T_euclid_samples]
  refine Gives.bind (Q := fun r => r = .inl ()) ?_ fun r hr => by subst hr; exact Gives.now rfl
  refine Gives.loop (fun s => 0 ≤ s ∧ s ≤ (xs.length : Int)) (fun s => ((xs.length : Int) - s).toNat) ?_ ⟨by omega, by omega⟩
  intro s ⟨i1, i2⟩
  unfold T_euclid_samples_l1
  refine Gives.ite (fun c => Gives.opt (at_rd i1 c) ?_) fun c => Gives.now rfl
  have := h.smp.rd s
  refine Gives.neg (by simp; omega) ?_
  rw [w64_id (by omega) (by omega)]
  exact Gives.now ⟨⟨by omega, by omega⟩, by omega⟩
theorem eu_len (xs : List Int) : Gives (fun k => T_euclid_length k xs) (fun _ => True) := by
  refine Gives.step ?_
  simp only [T_euclid_length]
  exact Gives.now trivial
theorem eu_check {xs ys : List Int} (hx : Win xs) (hy : Win ys) (hl : xs.length = ys.length) : Gives (fun k => T_euclid_check k xs ys) (· = 0) := by
  have x1 := hx.lo
  have x2 := hx.hi
  refine Gives.step ?_
  simp only [T_euclid_check]
  refine Gives.bind (Q := fun b => b = false) ?_ fun b hb => ?_
  · refine Gives.bind (eu_len xs) fun _ _ => Gives.neg (by simp; omega) ?_
    refine Gives.bind (eu_len ys) fun _ _ => Gives.now ?_
    simp; omega
  subst hb
  refine Gives.neg (by simp) ?_
  refine Gives.bind (Q := fun b => b = false) ?_ fun b hb => ?_
  · refine Gives.bind (eu_samples hx) fun u hu => ?_
    subst hu
    refine Gives.neg (by simp) (Gives.bind (eu_samples hy) fun u hu => ?_)
    subst hu
    exact Gives.now rfl
  subst hb
  refine Gives.neg (by simp) (Gives.neg (by simp [hl]) (Gives.now rfl))
theorem eu_square {xs ys : List Int} (hx : Win xs) (hl : xs.length = ys.length) : Gives (fun k => T_euclid_square k xs ys) (fun _ => True) := by
  have x2 := hx.hi
  refine Gives.step ?_
  simp only [T_euclid_square]
  refine Gives.bind (Q := fun _ => True) ?_ fun r hr => Gives.now trivial
  refine Gives.loop (fun s => 0 ≤ s.2 ∧ s.2 ≤ (xs.length : Int)) (fun s => ((xs.length : Int) - s.2).toNat) ?_ ⟨by simp only []; omega, by simp only []; omega⟩
  intro s ⟨i1, i2⟩
  unfold T_euclid_square_l1
  refine Gives.ite (fun c => Gives.opt (at_rd i1 c) (Gives.opt (at_rd i1 (by omega)) ?_)) fun c => Gives.now trivial
  rw [w64_id (x := s.2 + 1) (by omega) (by omega)]
  exact Gives.now ⟨⟨by simp only []; omega, by simp only []; omega⟩, by simp only []; omega⟩
theorem eu_distance {xs ys : List Int} (hx : Win xs) (hy : Win ys) (hl : xs.length = ys.length) : Gives (fun k => T_euclid_Distance k xs ys) (fun r => r.2 = 0) := by
  refine Gives.step ?_
  simp only [T_euclid_Distance]
  refine Gives.bind (eu_check hx hy hl) fun e he => ?_
  subst he
  exact Gives.neg (by simp) (Gives.bind (eu_square hx hl) fun v _ => Gives.now rfl)

/-! Sums of the first samples. -/
def psum (x : List Int) (i : Int) : Int := (x.take i.toNat).sum
theorem psum_zero (x : List Int) : psum x 0 = 0 := by simp [psum]
theorem psum_succ {x : List Int} {i : Int} (h0 : 0 ≤ i) (h1 : i < (x.length : Int)) : psum x (i + 1) = psum x i + rd x i := by
  unfold psum rd
  rw [show (i + 1).toNat = i.toNat + 1 by omega, List.take_succ_eq_append_getElem (show i.toNat < x.length by omega), List.sum_append]
  rw [List.getD_eq_getElem?_getD, List.getElem?_eq_getElem (show i.toNat < x.length by omega)]
  simp
theorem psum_bound {x : List Int} {B : Int} (hB : ∀ v ∈ x, -B ≤ v ∧ v ≤ B) : ∀ n : Nat, n ≤ x.length → -(B * n) ≤ psum x n ∧ psum x n ≤ B * n
  | 0, _ => by simp [psum]
  | n + 1, h => by
    have ih := psum_bound hB n (by omega)
    have e := psum_succ (x := x) (i := (n : Int)) (by omega) (by omega)
    have hb := hB _ (rd_mem (xs := x) (i := (n : Int)) (by omega) (by omega))
    have : (((n + 1 : Nat)) : Int) = (n : Int) + 1 := by omega
    rw [this, e, Int.mul_add, Int.mul_one]
    omega
theorem psum_all {x : List Int} : psum x x.length = x.sum := by simp [psum]
theorem part_sum {x : List Int} {a b : Int} (h0 : 0 ≤ a) (h1 : a ≤ b) : ((x.drop a.toNat).take (b.toNat - a.toNat)).sum = psum x b - psum x a := by
  have e : x.take b.toNat = x.take a.toNat ++ (x.drop a.toNat).take (b.toNat - a.toNat) := by
    conv => lhs; rw [show b.toNat = a.toNat + (b.toNat - a.toNat) by omega]
    rw [List.take_add]
  unfold psum
  rw [e, List.sum_append]
  omega
theorem psum_shift {x z : List Int} {c : Int} (hl : z.length = x.length) (h : ∀ q, 0 ≤ q → q < (x.length : Int) → rd z q = rd x q + c) : ∀ n : Nat, n ≤ x.length → psum z n = psum x n + n * c
  | 0, _ => by simp [psum]
  | n + 1, hn => by
    have ih := psum_shift hl h n (by omega)
    have e1 := psum_succ (x := x) (i := (n : Int)) (by omega) (by omega)
    have e2 := psum_succ (x := z) (i := (n : Int)) (by omega) (by omega)
    have e3 := h n (by omega) (by omega)
    have : (((n + 1 : Nat)) : Int) = (n : Int) + 1 := by omega
    rw [this, e1, e2, e3, ih, Int.add_mul, Int.one_mul]
    omega
/-! Where the pieces of a window begin. -/
def cut (m n p : Int) : Int := p * m / n
theorem cut_zero (m n : Int) : cut m n 0 = 0 := by simp [cut]
theorem cut_last {m n : Int} (hn : 1 ≤ n) : cut m n n = m := by unfold cut; exact Int.mul_ediv_cancel_left _ (by omega)
theorem cut_mono {m n p q : Int} (hn : 1 ≤ n) (hm : 0 ≤ m) (h : p ≤ q) : cut m n p ≤ cut m n q := by
  unfold cut
  exact Int.ediv_le_ediv (by omega) (Int.mul_le_mul_of_nonneg_right h hm)
theorem cut_range {m n p : Int} (hn : 1 ≤ n) (hm : 0 ≤ m) (h0 : 0 ≤ p) (h1 : p ≤ n) : 0 ≤ cut m n p ∧ cut m n p ≤ m := by
  have a := cut_mono (m := m) hn hm h0
  have b := cut_mono (m := m) hn hm h1
  rw [cut_zero] at a
  rw [cut_last hn] at b
  exact ⟨a, b⟩
theorem cut_w {m n p : Int} (hn : 1 ≤ n) (hn2 : n ≤ 8) (hm : 0 ≤ m) (hm2 : m ≤ 32) (h0 : 0 ≤ p) (h1 : p ≤ n) : w64 ((w64 (p * m)).tdiv n) = cut m n p := by
  have h2 : 0 ≤ p * m := Int.mul_nonneg h0 hm
  have h3 : p * m ≤ 8 * 32 := Int.le_trans (Int.mul_le_mul_of_nonneg_right (show p ≤ 8 by omega) hm) (Int.mul_le_mul_of_nonneg_left hm2 (by omega))
  have h4 := cut_range hn hm h0 h1
  rw [w64_id (x := p * m) (by omega) (by omega), Int.tdiv_eq_ediv_of_nonneg h2, w64_id]
  · rfl
  · have : cut m n p = p * m / n := rfl
    omega
  · have : cut m n p = p * m / n := rfl
    omega
theorem Gives.rangeT {S R : Type} {f : Nat → Int → Int → Int → S → Option (S ⊕ R)} {m n : Int} (hn : 1 ≤ n) (hn2 : n ≤ 8) (hm : 0 ≤ m) (hm2 : m ≤ 32) (Inv : Int → S → Prop)
    (h : ∀ p s, 0 ≤ p → p < n → Inv p s → Gives (fun k => f k p (cut m n p) (cut m n (p + 1)) s) (fun x => ∃ s', x = .inl s' ∧ Inv (p + 1) s')) {s : S} (hs : Inv 0 s) :
    Gives (fun k => allT (f k) m n k 0 s) (fun x => ∃ s', x = .inl s' ∧ Inv n s') := by
  suffices H : ∀ (d : Nat) (p : Int) (s : S), 0 ≤ p → p ≤ n → (n - p).toNat < d → Inv p s → ∃ r, (∃ K N, ∀ k, K ≤ k → ∀ j, N ≤ j → allT (f k) m n j p s = some r) ∧ ∃ s', r = .inl s' ∧ Inv n s' by
    obtain ⟨r, ⟨K, N, hK⟩, hr⟩ := H (n.toNat + 1) 0 s (by omega) (by omega) (by omega) hs
    exact ⟨r, ⟨max K N, fun k hk => hK k (by omega) k (by omega)⟩, hr⟩
  intro d
  induction d with
  | zero => intro p s _ _ h; omega
  | succ d ih =>
    intro p s h0 h1 hd hI
    by_cases c : p < n
    · obtain ⟨x, ⟨K, hK⟩, s', rfl, hs'⟩ := h p s h0 c hI
      obtain ⟨r, ⟨K2, N, hK2⟩, hr⟩ := ih (p + 1) s' (by omega) (by omega) (by omega) hs'
      refine ⟨r, ⟨max K K2, N + 1, fun k hk j hj => ?_⟩, hr⟩
      obtain ⟨j', rfl⟩ : ∃ j', j = j' + 1 := ⟨j - 1, by omega⟩
      simp only [allT]
      rw [if_pos c, if_pos (by omega), w64_id (x := p + 1) (by omega) (by omega), cut_w hn hn2 hm hm2 h0 (by omega), cut_w hn hn2 hm hm2 (by omega) (by omega), show f k p (cut m n p) (cut m n (p + 1)) s = some (.inl s') from hK k (by omega)]
      exact hK2 k (by omega) j' (by omega)
    · have : p = n := by omega
      subst this
      refine ⟨.inl s, ⟨0, 1, fun k _ j hj => ?_⟩, s, rfl, hI⟩
      obtain ⟨j', rfl⟩ : ∃ j', j = j' + 1 := ⟨j - 1, by omega⟩
      simp only [allT]
      rw [if_neg c]
/-! What the functions of the chapter compute. -/
theorem pc_total {x : List Int} (hs : Smp x) (hl : x.length ≤ 32) : Gives (fun k => T_pieces_total k x) (fun r => r = x.sum) := by
  have hB : ∀ v ∈ x, -(1000 : Int) ≤ v ∧ v ≤ 1000 := hs
  refine Gives.step ?_
  simp only [T_pieces_total]
  refine Gives.bind (Q := fun r => r = x.sum) ?_ fun r hr => Gives.now hr
  refine Gives.loop (fun s => 0 ≤ s.2 ∧ s.2 ≤ (x.length : Int) ∧ s.1 = psum x s.2) (fun s => ((x.length : Int) - s.2).toNat) ?_ ⟨by simp only []; omega, by simp only []; omega, (psum_zero x).symm⟩
  intro ⟨t, i⟩ ⟨i1, i2, i3⟩
  simp only at i1 i2 i3
  unfold T_pieces_total_l1
  simp only []
  refine Gives.ite (fun c => Gives.opt (at_rd i1 c) ?_) fun c => Gives.now ?_
  · have e := psum_succ i1 c
    have b := psum_bound hB (i.toNat + 1) (by omega)
    have : ((i.toNat + 1 : Nat) : Int) = i + 1 := by omega
    rw [this] at b
    rw [w64_id (x := i + 1) (by omega) (by omega), w64_id (x := t + rd x i) (by omega) (by omega)]
    exact Gives.now ⟨⟨by simp only []; omega, by simp only []; omega, by simp only []; omega⟩, by simp only []; omega⟩
  · have : i = x.length := by omega
    subst this
    rw [i3]; exact psum_all
theorem pc_all (m n : Int) : Gives (fun k => T_pieces_all k m n) (fun _ => True) := by
  refine Gives.step ?_
  simp only [T_pieces_all]
  exact Gives.now trivial
theorem pc_number (m n : Int) : Gives (fun k => T_pieces_number k m n) (fun _ => True) := by
  refine Gives.step ?_
  simp only [T_pieces_number]
  exact Gives.now trivial
theorem pc_check {x : List Int} {n : Int} (hx : Win x) (hn : 1 ≤ n) (hn2 : n ≤ 8) (hn3 : n ≤ (x.length : Int)) : Gives (fun k => T_pieces_check k x n) (fun r => r = 0) := by
  refine Gives.step ?_
  simp only [T_pieces_check]
  refine Gives.bind (eu_distance hx hx rfl) fun e he => Gives.neg (by simp [he]) (Gives.bind (pc_number _ _) fun _ _ => Gives.neg (by simp; omega) (Gives.now rfl))
theorem rd_set_eq {xs : List Int} {i v : Int} (h0 : 0 ≤ i) (h1 : i < (xs.length : Int)) : rd (xs.set (0 + i.toNat) v) i = v := by
  unfold rd
  rw [Nat.zero_add, List.getD_eq_getElem?_getD, List.getElem?_set_self (by omega)]; rfl
theorem rd_set_ne {xs : List Int} {i j v : Int} (h0 : 0 ≤ i) (h1 : 0 ≤ j) (h : i ≠ j) : rd (xs.set (0 + i.toNat) v) j = rd xs j := by
  unfold rd
  rw [Nat.zero_add, List.getD_eq_getElem?_getD, List.getElem?_set_ne (by omega), List.getD_eq_getElem?_getD]
theorem pc_part {x : List Int} {n p : Int} (hx : Win x) (hn : 1 ≤ n) (h0 : 0 ≤ p) (h1 : p < n) : 0 ≤ cut x.length n p ∧ cut x.length n p ≤ cut x.length n (p + 1) ∧ cut x.length n (p + 1) ≤ (x.length : Int) ∧
    Gives (fun k => T_pieces_total k ((x.drop (cut x.length n p).toNat).take ((cut x.length n (p + 1)).toNat - (cut x.length n p).toNat))) (fun r => r = psum x (cut x.length n (p + 1)) - psum x (cut x.length n p)) := by
  have a := cut_range (m := x.length) hn (by omega) h0 (by omega)
  have b := cut_range (m := x.length) (p := p + 1) hn (by omega) (by omega) (by omega)
  have c := cut_mono (m := x.length) (p := p) (q := p + 1) hn (by omega) (by omega)
  refine ⟨a.1, c, b.2, ?_⟩
  have x2 := hx.hi
  refine (pc_total ((hx.smp.drop _).take _) (by simp; omega)).mono fun r hr => ?_
  rw [hr]; exact part_sum a.1 c
theorem prod_bound {a b A B : Int} (h1 : -A ≤ a) (h2 : a ≤ A) (h3 : -B ≤ b) (h4 : b ≤ B) : -(A * B) ≤ a * b ∧ a * b ≤ A * B := by
  have hA : 0 ≤ A := by omega
  have hB : 0 ≤ B := by omega
  have p1 : 0 ≤ (A - a) * (B - b) := Int.mul_nonneg (by omega) (by omega)
  have p2 : 0 ≤ (A + a) * (B + b) := Int.mul_nonneg (by omega) (by omega)
  have p3 : 0 ≤ (A - a) * (B + b) := Int.mul_nonneg (by omega) (by omega)
  have p4 : 0 ≤ (A + a) * (B - b) := Int.mul_nonneg (by omega) (by omega)
  rw [Int.sub_mul, Int.mul_sub, Int.mul_sub] at p1
  rw [Int.add_mul, Int.mul_add, Int.mul_add] at p2
  rw [Int.sub_mul, Int.mul_add, Int.mul_add] at p3
  rw [Int.add_mul, Int.mul_sub, Int.mul_sub] at p4
  omega
theorem pc_bounds {x : List Int} (hx : Win x) {i : Int} (h0 : 0 ≤ i) (h1 : i ≤ (x.length : Int)) : -32000 ≤ psum x i ∧ psum x i ≤ 32000 := by
  have x2 := hx.hi
  have := psum_bound (B := 1000) hx.smp i.toNat (by omega)
  rw [Int.toNat_of_nonneg h0] at this
  omega
theorem pc_centred {x : List Int} {n : Int} (hx : Win x) (hn : 1 ≤ n) (hn2 : n ≤ 8) (hn3 : n ≤ (x.length : Int)) :
    Gives (fun k => T_pieces_Centred k x n) (fun r => r.2 = 0 ∧ (r.1.length : Int) = n ∧ ∀ p, 0 ≤ p → p < n → rd r.1 p = (x.length : Int) * (psum x (cut x.length n (p + 1)) - psum x (cut x.length n p)) - (cut x.length n (p + 1) - cut x.length n p) * x.sum) := by
  have x2 := hx.hi
  refine Gives.step ?_
  simp only [T_pieces_Centred]
  refine Gives.bind (pc_check hx hn hn2 hn3) fun e he => ?_
  subst he
  refine Gives.neg (by simp) (Gives.bind (pc_total hx.smp hx.hi) fun t ht => Gives.pos (by unfold LIM; omega) (Gives.bind (pc_all _ _) fun _ _ => ?_))
  subst ht
  refine Gives.bind (Gives.rangeT (m := (x.length : Int)) (n := n) hn hn2 (by omega) (by omega) (fun p s => s.length = n.toNat ∧ ∀ q, 0 ≤ q → q < p → rd s q = (x.length : Int) * (psum x (cut x.length n (q + 1)) - psum x (cut x.length n q)) - (cut x.length n (q + 1) - cut x.length n q) * x.sum) ?_ ⟨by simp, fun q h1 h2 => by omega⟩) fun r hr => ?_
  · intro p s h0 h1 ⟨i1, i2⟩
    obtain ⟨c1, c2, c3, c4⟩ := pc_part hx hn h0 h1
    unfold T_pieces_Centred_r1
    refine Gives.pos (by omega) (Gives.bind c4 fun v hv => Gives.pos (by omega) ?_)
    have b1 := pc_bounds hx (i := cut x.length n (p + 1)) (by omega) c3
    have b2 := pc_bounds hx (i := cut x.length n p) c1 (by omega)
    have b3 := pc_bounds hx (i := x.length) (by omega) (by omega)
    rw [psum_all] at b3
    have e1 := prod_bound (a := (x.length : Int)) (b := v) (A := 32) (B := 64000) (by omega) (by omega) (by omega) (by omega)
    have e2 := prod_bound (a := cut x.length n (p + 1) - cut x.length n p) (b := x.sum) (A := 32) (B := 32000) (by omega) (by omega) (by omega) (by omega)
    rw [w64_id (x := (x.length : Int) * v) (by omega) (by omega), w64_id (x := cut x.length n (p + 1) - cut x.length n p) (by omega) (by omega), w64_id (x := (cut x.length n (p + 1) - cut x.length n p) * x.sum) (by omega) (by omega), w64_id (by omega) (by omega)]
    refine Gives.now ⟨_, rfl, by simp [i1], fun q h2 h3 => ?_⟩
    by_cases c : q = p
    · subst c; rw [rd_set_eq h2 (by omega), hv]
    · rw [rd_set_ne h0 h2 (by omega)]; exact i2 q h2 (by omega)
  · obtain ⟨s', rfl, k1, k2⟩ := hr
    simp only []
    rw [drop_take_len k1]
    exact Gives.now ⟨rfl, by simp only []; omega, k2⟩
theorem rd_app_l {xs ys : List Int} {i : Int} (h1 : i.toNat < xs.length) : rd (xs ++ ys) i = rd xs i := by
  unfold rd
  rw [List.getD_eq_getElem?_getD, List.getElem?_append_left h1, List.getD_eq_getElem?_getD]
theorem rd_app_1 {xs : List Int} {v i : Int} (h0 : 0 ≤ i) (h1 : (xs.length : Int) = i) : rd (xs ++ [v]) i = v := by
  unfold rd
  rw [List.getD_eq_getElem?_getD, List.getElem?_append_right (by omega)]
  simp [show i.toNat - xs.length = 0 by omega]
theorem pc_starts {m n : Int} (hm : 2 ≤ m) (hm2 : m ≤ 32) (hn : 1 ≤ n) (hn2 : n ≤ 8) (hn3 : n ≤ m) :
    Gives (fun k => T_pieces_Starts k m n) (fun r => r.2 = 0 ∧ (r.1.length : Int) = n + 1 ∧ ∀ p, 0 ≤ p → p ≤ n → rd r.1 p = cut m n p) := by
  refine Gives.step ?_
  simp only [T_pieces_Starts]
  refine Gives.neg (by simp; omega) (Gives.bind (pc_number _ _) fun _ _ => Gives.neg (by simp; omega) (Gives.bind (pc_all _ _) fun _ _ => ?_))
  refine Gives.bind (Gives.rangeT (m := m) (n := n) hn hn2 (by omega) (by omega) (fun p s => (s.1 : Int) = p + 1 ∧ s.2.length = s.1 ∧ ∀ q, 0 ≤ q → q ≤ p → rd s.2 q = cut m n q) ?_ ⟨by simp, by simp, fun q h1 h2 => by
      have : q = 0 := by omega
      subst this; rw [cut_zero]; rfl⟩) fun r hr => ?_
  · intro p s h0 h1 ⟨i1, i2, i3⟩
    unfold T_pieces_Starts_r1
    rw [drop_take_len i2]
    refine Gives.pos (by unfold LIM; omega) (Gives.now ⟨_, rfl, by simp only []; omega, by simp [i2], fun q h2 h3 => ?_⟩)
    simp only []
    by_cases c : q = p + 1
    · subst c; rw [rd_app_1 (by omega) (by omega)]
    · rw [rd_app_l (by omega)]; exact i3 q h2 (by omega)
  · obtain ⟨s', rfl, k1, k2, k3⟩ := hr
    simp only []
    rw [drop_take_len k2]
    exact Gives.now ⟨rfl, by simp only []; omega, k3⟩

theorem ints_refl {xs ys : List Int} (h : xs = ys) (hl : xs.length ≤ 1000) : Gives (fun k => T_keep_Ints k xs ys) (· = true) := by
  subst h
  refine Gives.step ?_
  simp only [T_keep_Ints]
  refine Gives.neg (by simp) (Gives.bind (Q := fun r => r = .inl ()) ?_ fun r hr => by subst hr; exact Gives.now rfl)
  refine Gives.loop (fun s => 0 ≤ s ∧ s ≤ (xs.length : Int)) (fun s => ((xs.length : Int) - s).toNat) ?_ ⟨by omega, by omega⟩
  intro s ⟨i1, i2⟩
  unfold T_keep_Ints_l1
  refine Gives.ite (fun c => Gives.opt (at_rd i1 c) (Gives.opt (at_rd i1 c) (Gives.neg (by simp) ?_))) fun c => Gives.now rfl
  rw [w64_id (by omega) (by omega)]
  exact Gives.now ⟨⟨by omega, by omega⟩, by omega⟩
theorem ext_rd {xs ys : List Int} (hl : xs.length = ys.length) (h : ∀ p, 0 ≤ p → p < (xs.length : Int) → rd xs p = rd ys p) : xs = ys := by
  refine List.ext_getElem hl fun i h1 h2 => ?_
  have := h i (by omega) (by omega)
  unfold rd at this
  rw [List.getD_eq_getElem?_getD, List.getD_eq_getElem?_getD] at this
  simpa [h1, h2] using this

/-- The squares of a list. -/
def sqs (x : List Int) : List Int := x.map fun v => v * v
theorem sqs_len (x : List Int) : (sqs x).length = x.length := by simp [sqs]
theorem rd_sqs {x : List Int} {i : Int} (h0 : 0 ≤ i) (h1 : i < (x.length : Int)) : rd (sqs x) i = rd x i * rd x i := by
  unfold rd sqs
  rw [List.getD_eq_getElem?_getD, List.getD_eq_getElem?_getD, List.getElem?_map, List.getElem?_eq_getElem (show i.toNat < x.length by omega)]
  rfl
theorem sqs_bound {x : List Int} (hx : Smp x) : ∀ v ∈ sqs x, -(1000000 : Int) ≤ v ∧ v ≤ 1000000 := by
  intro v hv
  obtain ⟨u, hu, rfl⟩ := List.mem_map.1 hv
  have h := hx u hu
  have := prod_bound (a := u) (b := u) (A := 1000) (B := 1000) h.1 h.2 h.1 h.2
  omega
/-- What the product of a window with itself is. -/
def selfP (x : List Int) : Int := (x.length : Int) * (sqs x).sum - x.sum * x.sum
theorem selfP_bound {x : List Int} (hx : Win x) : -4000000000 ≤ selfP x ∧ selfP x ≤ 4000000000 ∧ -32000000 ≤ (sqs x).sum ∧ (sqs x).sum ≤ 32000000 ∧ -32000 ≤ x.sum ∧ x.sum ≤ 32000 := by
  have x2 := hx.hi
  have b1 := psum_bound (sqs_bound hx.smp) x.length (by rw [sqs_len]; omega)
  have e1 : psum (sqs x) (x.length : Int) = (sqs x).sum := by rw [← sqs_len x]; exact psum_all
  rw [e1] at b1
  have b2 := pc_bounds hx (i := x.length) (by omega) (by omega)
  rw [psum_all] at b2
  have q1 := prod_bound (a := (x.length : Int)) (b := (sqs x).sum) (A := 32) (B := 32000000) (by omega) (by omega) (by omega) (by omega)
  have q2 := prod_bound (a := x.sum) (b := x.sum) (A := 32000) (B := 32000) (by omega) (by omega) (by omega) (by omega)
  unfold selfP
  omega
theorem nm_product {x : List Int} (hx : Win x) : Gives (fun k => T_normal_product k x x) (fun r => r = selfP x) := by
  have x2 := hx.hi
  obtain ⟨p1, p2, p3, p4, p5, p6⟩ := selfP_bound hx
  refine Gives.step ?_
  simp only [T_normal_product]
  refine Gives.bind (Q := fun r => r.1 = (sqs x).sum ∧ r.2.1 = x.sum ∧ r.2.2 = x.sum) ?_ fun r hr => ?_
  · refine Gives.loop (fun s => 0 ≤ s.2.2.2 ∧ s.2.2.2 ≤ (x.length : Int) ∧ s.1 = psum (sqs x) s.2.2.2 ∧ s.2.1 = psum x s.2.2.2 ∧ s.2.2.1 = psum x s.2.2.2) (fun s => ((x.length : Int) - s.2.2.2).toNat) ?_ ⟨by simp only []; omega, by simp only []; omega, (psum_zero _).symm, (psum_zero _).symm, (psum_zero _).symm⟩
    intro ⟨a, b, c, i⟩ ⟨i1, i2, i3, i4, i5⟩
    simp only at i1 i2 i3 i4 i5
    unfold T_normal_product_l1
    simp only []
    refine Gives.ite (fun cc => Gives.opt (at_rd i1 cc) (Gives.opt (at_rd i1 cc) ?_)) fun cc => Gives.now ?_
    · have e1 := psum_succ (x := sqs x) i1 (by rw [sqs_len]; exact cc)
      rw [rd_sqs i1 cc] at e1
      have e2 := psum_succ (x := x) i1 cc
      have b1 := psum_bound (sqs_bound hx.smp) i.toNat (by rw [sqs_len]; omega)
      rw [Int.toNat_of_nonneg i1] at b1
      have b2 := pc_bounds hx i1 (by omega)
      have hs := hx.smp.rd i
      have b3 := prod_bound (a := rd x i) (b := rd x i) (A := 1000) (B := 1000) hs.1 hs.2 hs.1 hs.2
      rw [w64_id (x := rd x i * rd x i) (by omega) (by omega), w64_id (x := a + rd x i * rd x i) (by omega) (by omega), w64_id (x := b + rd x i) (by omega) (by omega), w64_id (x := c + rd x i) (by omega) (by omega), w64_id (x := i + 1) (by omega) (by omega)]
      exact Gives.now ⟨⟨by simp only []; omega, by simp only []; omega, by simp only []; omega, by simp only []; omega, by simp only []; omega⟩, by simp only []; omega⟩
    · have : i = x.length := by omega
      subst this
      have e1 : psum (sqs x) (x.length : Int) = (sqs x).sum := by rw [← sqs_len x]; exact psum_all
      exact ⟨i3.trans e1, i4.trans psum_all, i5.trans psum_all⟩
  · obtain ⟨r1, r2, r3⟩ := hr
    rw [r1, r2, r3]
    have q1 := prod_bound (a := (x.length : Int)) (b := (sqs x).sum) (A := 32) (B := 32000000) (by omega) (by omega) (by omega) (by omega)
    have q2 := prod_bound (a := x.sum) (b := x.sum) (A := 32000) (B := 32000) (by omega) (by omega) (by omega) (by omega)
    rw [w64_id (x := (x.length : Int) * (sqs x).sum) (by omega) (by omega), w64_id (x := x.sum * x.sum) (by omega) (by omega), w64_id (by omega) (by omega)]
    exact Gives.now rfl
theorem nm_Product {x : List Int} (hx : Win x) : Gives (fun k => T_normal_Product k x x) (fun r => r.1 = selfP x ∧ r.2 = 0) := by
  refine Gives.step ?_
  simp only [T_normal_Product]
  exact Gives.bind (eu_distance hx hx rfl) fun e he => Gives.neg (by simp [he]) (Gives.bind (nm_product hx) fun v hv => Gives.now ⟨hv, rfl⟩)
theorem sqs_shift {x z : List Int} {c : Int} (hl : z.length = x.length) (h : ∀ q, 0 ≤ q → q < (x.length : Int) → rd z q = rd x q + c) : ∀ n : Nat, n ≤ x.length → psum (sqs z) n = psum (sqs x) n + 2 * (c * psum x n) + n * (c * c)
  | 0, _ => by simp [psum]
  | n + 1, hn => by
    have ih := sqs_shift hl h n (by omega)
    have e1 := psum_succ (x := sqs x) (i := (n : Int)) (by omega) (by rw [sqs_len]; omega)
    have e2 := psum_succ (x := sqs z) (i := (n : Int)) (by omega) (by rw [sqs_len]; omega)
    have e4 := psum_succ (x := x) (i := (n : Int)) (by omega) (by omega)
    have e3 := h n (by omega) (by omega)
    rw [rd_sqs (by omega) (by omega)] at e1 e2
    have : (((n + 1 : Nat)) : Int) = (n : Int) + 1 := by omega
    rw [this, e1, e2, e3, e4, ih, Int.add_mul (n : Int), Int.one_mul, Int.mul_add c, Int.add_mul, Int.mul_add, Int.mul_add, Int.mul_comm (rd x n) c]
    omega
theorem selfP_shift {x z : List Int} {c : Int} (hl : z.length = x.length) (h : ∀ q, 0 ≤ q → q < (x.length : Int) → rd z q = rd x q + c) : selfP z = selfP x := by
  have a := sqs_shift hl h x.length (Nat.le_refl _)
  have b := psum_shift hl h x.length (Nat.le_refl _)
  have e1 : psum (sqs x) (x.length : Int) = (sqs x).sum := by rw [← sqs_len x]; exact psum_all
  have e2 : psum (sqs z) (x.length : Int) = (sqs z).sum := by rw [← hl, ← sqs_len z]; exact psum_all
  have e3 : psum z (x.length : Int) = z.sum := by rw [← hl]; exact psum_all
  rw [e1, e2, psum_all] at a
  rw [e3, psum_all] at b
  unfold selfP
  rw [hl, a, b]
  generalize (x.length : Int) = L
  generalize x.sum = S
  generalize (sqs x).sum = Q
  have p1 : L * (Q + 2 * (c * S) + L * (c * c)) = L * Q + 2 * (L * (c * S)) + L * (L * (c * c)) := by
    rw [Int.mul_add, Int.mul_add, Int.mul_left_comm L 2]
  have p2 : (S + L * c) * (S + L * c) = S * S + 2 * (L * (c * S)) + L * (L * (c * c)) := by
    rw [Int.add_mul, Int.mul_add, Int.mul_add]
    have q1 : S * (L * c) = L * (c * S) := by rw [Int.mul_comm S, Int.mul_assoc]
    have q2 : L * c * S = L * (c * S) := Int.mul_assoc _ _ _
    have q3 : L * c * (L * c) = L * (L * (c * c)) := by rw [Int.mul_assoc, Int.mul_left_comm c L]
    rw [q1, q2, q3]; omega
  rw [p1, p2]; omega
theorem psum_scale {x z : List Int} {f : Int} (hl : z.length = x.length) (h : ∀ q, 0 ≤ q → q < (x.length : Int) → rd z q = rd x q * f) : ∀ n : Nat, n ≤ x.length → psum z n = psum x n * f
  | 0, _ => by simp [psum]
  | n + 1, hn => by
    have ih := psum_scale hl h n (by omega)
    have e1 := psum_succ (x := x) (i := (n : Int)) (by omega) (by omega)
    have e2 := psum_succ (x := z) (i := (n : Int)) (by omega) (by omega)
    have e3 := h n (by omega) (by omega)
    have : (((n + 1 : Nat)) : Int) = (n : Int) + 1 := by omega
    rw [this, e1, e2, e3, ih, Int.add_mul]
theorem selfP_scale {x z : List Int} {f : Int} (hl : z.length = x.length) (h : ∀ q, 0 ≤ q → q < (x.length : Int) → rd z q = rd x q * f) : selfP z = selfP x * f * f := by
  have a := psum_scale (x := sqs x) (z := sqs z) (f := f * f) (by rw [sqs_len, sqs_len, hl]) (fun q h1 h2 => by
    rw [sqs_len] at h2
    rw [rd_sqs h1 h2, rd_sqs h1 (by omega), h q h1 h2]
    rw [Int.mul_assoc, Int.mul_assoc, Int.mul_left_comm f]) x.length (by rw [sqs_len]; omega)
  have b := psum_scale hl h x.length (Nat.le_refl _)
  have e1 : psum (sqs x) (x.length : Int) = (sqs x).sum := by rw [← sqs_len x]; exact psum_all
  have e2 : psum (sqs z) (x.length : Int) = (sqs z).sum := by rw [← hl, ← sqs_len z]; exact psum_all
  have e3 : psum z (x.length : Int) = z.sum := by rw [← hl]; exact psum_all
  rw [e1, e2] at a
  rw [e3, psum_all] at b
  unfold selfP
  rw [hl, a, b]
  generalize (x.length : Int) = L
  generalize x.sum = S
  generalize (sqs x).sum = Q
  have e4 : S * f * (S * f) = S * S * (f * f) := by rw [Int.mul_assoc, Int.mul_left_comm f, ← Int.mul_assoc]
  rw [e4, Int.mul_assoc (L * Q - S * S) f f, Int.sub_mul, Int.mul_assoc L Q]

-- The sketch of a shifted window is the same, and scaling a window by a number multiplies the sums of its sketch by the number and its energy by the square: SketchShifts returns true for every list and numbers.
theorem awake_k (k : Nat) : T_law21_awake (k + 50) = some true := by kernel_rfl
theorem awake_ok : Gives (fun k => T_law21_awake k) (· = true) := ⟨true, ⟨50, fun k hk => by
  obtain ⟨m, rfl⟩ : ∃ m, k = m + 50 := ⟨k - 50, by omega⟩
  exact awake_k m⟩, rfl⟩
theorem sk_of {x : List Int} {n : Int} (hx : Win x) (hn : 1 ≤ n) (hn2 : n ≤ 8) (hn3 : n ≤ (x.length : Int)) :
    Gives (fun k => T_sketch_Of k x n) (fun r => r.1 = x.length ∧ ((r.2.1.length : Int) = n ∧ ∀ p, 0 ≤ p → p < n → rd r.2.1 p = (x.length : Int) * (psum x (cut x.length n (p + 1)) - psum x (cut x.length n p)) - (cut x.length n (p + 1) - cut x.length n p) * x.sum) ∧ r.2.2.1 = (x.length : Int) * selfP x ∧ r.2.2.2 = 0) := by
  have x2 := hx.hi
  refine Gives.step ?_
  simp only [T_sketch_Of]
  refine Gives.bind (pc_centred hx hn hn2 hn3) fun a ha => Gives.neg (by simp [ha.1]) (Gives.bind (nm_Product hx) fun b hb => Gives.neg (by simp [hb.2]) ?_)
  obtain ⟨p1, p2, _⟩ := selfP_bound hx
  have q := prod_bound (a := (x.length : Int)) (b := selfP x) (A := 32) (B := 4000000000) (by omega) (by omega) (by omega) (by omega)
  rw [hb.1, w64_id (x := (x.length : Int) * selfP x) (by omega) (by omega)]
  exact Gives.now ⟨rfl, ha.2, rfl, rfl⟩
theorem sk_same {l m e f : Int} {xs ys : List Int} (h1 : l = m) (h2 : xs = ys) (h3 : e = f) (hl : xs.length ≤ 1000) : Gives (fun k => T_ref21_Same k l xs e m ys f) (· = true) := by
  refine Gives.step ?_
  simp only [T_ref21_Same]
  refine Gives.bind (Q := fun v => v = true) ?_ fun v hv => Gives.now hv
  exact Gives.pos (by simp [h1, h3]) (Gives.bind (ints_refl h2 hl) fun v hv => Gives.now hv)
/-- A list that lies nearer to 0. -/
def Small (xs : List Int) (i : Int) : Prop := ∀ q, 0 ≤ q → q < i → -200 ≤ rd xs q ∧ rd xs q ≤ 200
theorem Small.smp {xs : List Int} (h : Small xs xs.length) : ∀ v ∈ xs, -200 ≤ v ∧ v ≤ 200 := by
  intro v hv
  obtain ⟨i, hi, rfl⟩ := List.getElem_of_mem hv
  have := h i (by omega) (by omega)
  have e : rd xs (i : Int) = xs[i] := by unfold rd; rw [List.getD_eq_getElem?_getD]; simp [hi]
  rw [e] at this
  exact this
theorem ss_loop {by' n0 f : Int} {len : Nat} (hb : -128 ≤ by' ∧ by' ≤ 127) (hf : 1 ≤ f ∧ f ≤ 4) (hl : len ≤ 32) {row : List Int} (hr : row.length = len) (hs : Smp row) :
    Gives (fun k => loopT (T_law21_SketchShifts_l1 k by' len n0 f (len : Int)) k (0, 0, 0, row, [], [])) (fun r => r.2.2.1.length = len ∧ Small r.2.2.1 len ∧ r.1 = len ∧ r.2.2.2.1.length = len ∧ r.2.1 = len ∧ r.2.2.2.2.length = len ∧ (∀ q, 0 ≤ q → q < (len : Int) → rd r.2.2.2.1 q = rd r.2.2.1 q + by') ∧ ∀ q, 0 ≤ q → q < (len : Int) → rd r.2.2.2.2 q = rd r.2.2.1 q * f) := by
  refine Gives.loop (fun s => 0 ≤ s.2.2.1 ∧ s.2.2.1 ≤ (len : Int) ∧ s.2.2.2.1.length = len ∧ Smp s.2.2.2.1 ∧ Small s.2.2.2.1 s.2.2.1 ∧ (s.1 : Int) = s.2.2.1 ∧ s.2.2.2.2.1.length = s.1 ∧ (s.2.1 : Int) = s.2.2.1 ∧ s.2.2.2.2.2.length = s.2.1 ∧ (∀ q, 0 ≤ q → q < s.2.2.1 → rd s.2.2.2.2.1 q = rd s.2.2.2.1 q + by') ∧ ∀ q, 0 ≤ q → q < s.2.2.1 → rd s.2.2.2.2.2 q = rd s.2.2.2.1 q * f) (fun s => ((len : Int) - s.2.2.1).toNat) ?_
    ⟨by simp only []; omega, by simp only []; omega, hr, hs, fun q h1 h2 => by simp only at h2; omega, rfl, rfl, rfl, rfl, fun q h1 h2 => by simp only at h2; omega, fun q h1 h2 => by simp only at h2; omega⟩
  intro ⟨yl, zl, i, xr, yr, zr⟩ ⟨i1, i2, i3, i4, i5, i6, i7, i8, i9, i10, i11⟩
  simp only at i1 i2 i3 i4 i5 i6 i7 i8 i9 i10 i11
  unfold T_law21_SketchShifts_l1
  simp only []
  refine Gives.ite (fun c => ?_) fun c => Gives.now ?_
  · obtain ⟨v, hv⟩ : ∃ v, v = w64 ((rd xr i).tdiv 5) := ⟨_, rfl⟩
    have hsm := i4.rd i
    have hv1 : -200 ≤ v ∧ v ≤ 200 := by
      have a1 : (rd xr i).tdiv 5 ≤ 200 ∧ -200 ≤ (rd xr i).tdiv 5 := by
        rcases Int.le_total 0 (rd xr i) with h | h
        · rw [Int.tdiv_eq_ediv_of_nonneg (by omega)]; omega
        · have : rd xr i = -(-(rd xr i)) := by omega
          rw [this, Int.neg_tdiv, Int.tdiv_eq_ediv_of_nonneg (by omega)]; omega
      rw [hv, w64_id (by omega) (by omega)]
      omega
    have hset : (xr.set (0 + i.toNat) v)[0 + i.toNat]? = some v := by rw [List.getElem?_set_self (by omega)]
    refine Gives.pos ⟨i1, c⟩ (Gives.opt (get_rd0 i1 (by omega)) ?_)
    rw [← hv]
    have q1 := prod_bound (a := v) (b := f) (A := 200) (B := 4) (by omega) (by omega) (by omega) (by omega)
    refine Gives.pos ⟨i1, c⟩ (Gives.opt hset (Gives.pos (by unfold LIM; omega) (Gives.pos (by unfold LIM; omega) ?_)))
    rw [w64_id (x := i + 1) (by omega) (by omega), w64_id (x := by') (by omega) (by omega), w64_id (x := v + by') (by omega) (by omega), w64_id (x := v * f) (by omega) (by omega), drop_take_len i7, drop_take_len i9]
    refine Gives.now ⟨⟨?_, ?_, ?_, ?_, fun q h1 h2 => ?_, ?_, ?_, ?_, ?_, fun q h1 h2 => ?_, fun q h1 h2 => ?_⟩, ?_⟩
    · simp only []; omega
    · simp only []; omega
    · simpa using i3
    · exact i4.set _ (by omega) (by omega)
    · simp only at h2 ⊢
      by_cases e : q = i
      · subst e; rw [rd_set_eq h1 (by omega)]; exact hv1
      · rw [rd_set_ne i1 h1 (by omega)]; exact i5 q h1 (by omega)
    · simp only []; omega
    · simp [i7]
    · simp only []; omega
    · simp [i9]
    · simp only at h2 ⊢
      by_cases e : q = i
      · subst e; rw [rd_app_1 h1 (by omega), rd_set_eq h1 (by omega)]
      · rw [rd_app_l (by omega), rd_set_ne i1 h1 (by omega)]; exact i10 q h1 (by omega)
    · simp only at h2 ⊢
      by_cases e : q = i
      · subst e; rw [rd_app_1 h1 (by omega), rd_set_eq h1 (by omega)]
      · rw [rd_app_l (by omega), rd_set_ne i1 h1 (by omega)]; exact i11 q h1 (by omega)
    · simp only []; omega
  · have e : i = len := by omega
    subst e
    exact ⟨i3, i5, by simp only []; omega, by simp only []; omega, by simp only []; omega, by simp only []; omega, i10, i11⟩
theorem ss_last {s t : List Int} {f n c1 c2 c3 c4 : Int} (hf : 1 ≤ f ∧ f ≤ 4) (hn : n ≤ 8) (hs : (s.length : Int) = n) (ht : (t.length : Int) = n) (h : ∀ p, 0 ≤ p → p < n → rd t p = rd s p * f ∧ -5000000 ≤ rd s p ∧ rd s p ≤ 5000000) :
    Gives (fun k => loopT (T_law21_SketchShifts_l2 k f (s.length : Int) c1 s c2 c3 t c4) k 0) (fun r => r = .inl ()) := by
  refine Gives.loop (fun j => 0 ≤ j ∧ j ≤ n) (fun j => (n - j).toNat) ?_ ⟨by omega, by omega⟩
  intro j ⟨j1, j2⟩
  unfold T_law21_SketchShifts_l2
  rw [hs]
  refine Gives.ite (fun c => Gives.opt (at_rd j1 (by omega)) (Gives.opt (at_rd j1 (by omega)) ?_)) fun c => Gives.now rfl
  obtain ⟨k1, k2, k3⟩ := h j j1 c
  have q1 := prod_bound (a := rd s j) (b := f) (A := 5000000) (B := 4) (by omega) (by omega) (by omega) (by omega)
  rw [w64_id (x := rd s j * f) (by omega) (by omega), w64_id (x := j + 1) (by omega) (by omega)]
  exact Gives.neg (by simp [k1]) (Gives.now ⟨⟨by omega, by omega⟩, by omega⟩)
theorem pure_sketchShifts (a0 : List Int) (w0 : ∀ n ∈ a0, (Lit.int .i64 n).wf = true) (a1 : Int) (w1 : (Lit.int .i8 a1).wf = true) (a2 : Int) (w2 : (Lit.int .u8 a2).wf = true) : ∃ k, T_law21_SketchShifts k a0 a1 a2 = some true := by
  have hb := wf_i8 w1
  obtain ⟨hk1, hk2⟩ := wf_u8 w2
  refine Gives.true (f := fun k => T_law21_SketchShifts k a0 a1 a2) ?_
  obtain ⟨s0, s1⟩ := src_new a0
  refine Gives.step ?_
  simp only [T_law21_SketchShifts]
  have ef : w64 (1 + (w64 a2).tmod 4) = 1 + a2 % 4 := by
    rw [w64_id (x := a2) (by omega) (by omega), Int.tmod_eq_emod_of_nonneg hk1, w64_id (by omega) (by omega)]
  rw [ef]
  have hf : 1 ≤ 1 + a2 % 4 ∧ 1 + a2 % 4 ≤ 4 := by omega
  generalize 1 + a2 % 4 = fac at hf ⊢
  refine Gives.bind s1 fun _ _ => Gives.bind (src_length s0) fun a ha => Gives.bind (src_list ha.2.2 a.1 ha.1 ha.2.1) fun b hb' => ?_
  obtain ⟨b1, b2, b3, b4⟩ := hb'
  have em : 1 ≤ imin 8 (b.1 : Int) ∧ imin 8 (b.1 : Int) ≤ 8 ∧ imin 8 (b.1 : Int) ≤ b.1 := by unfold imin; split <;> omega
  refine Gives.bind (src_range b4 1 (imin 8 (b.1 : Int)) (by omega) (by omega) (by omega)) fun c hc => ?_
  obtain ⟨n1, n2, _⟩ := hc
  refine Gives.bind (ss_loop hb hf (by omega) b2 b3) fun r hr => ?_
  obtain ⟨r1, r2, r3, r4, r5, r6, r7, r8⟩ := hr
  rw [drop_take_len r1, drop_take_len (xs := r.2.2.2.1) (by omega), drop_take_len (xs := r.2.2.2.2) (by omega)]
  generalize r.2.2.1 = x at r1 r2 r7 r8 ⊢
  generalize r.2.2.2.1 = y at r4 r7 ⊢
  generalize r.2.2.2.2 = z at r6 r8 ⊢
  have sm := Small.smp (xs := x) (by rw [r1]; exact r2)
  have mem : ∀ (l : List Int) (v : Int), v ∈ l → ∃ i, 0 ≤ i ∧ i < (l.length : Int) ∧ rd l i = v := by
    intro l v hv
    obtain ⟨i, hi, rfl⟩ := List.getElem_of_mem hv
    exact ⟨i, by omega, by omega, by unfold rd; rw [List.getD_eq_getElem?_getD]; simp [hi]⟩
  have hx : Win x := ⟨by omega, by omega, fun v hv => by have := sm v hv; omega⟩
  have hy : Win y := ⟨by omega, by omega, fun v hv => by
    obtain ⟨i, k1, k2, rfl⟩ := mem y v hv
    have := r2 i k1 (by omega)
    rw [r7 i k1 (by omega)]; omega⟩
  have hz : Win z := ⟨by omega, by omega, fun v hv => by
    obtain ⟨i, k1, k2, rfl⟩ := mem z v hv
    have := r2 i k1 (by omega)
    have q1 := prod_bound (a := rd x i) (b := fac) (A := 200) (B := 4) (by omega) (by omega) (by omega) (by omega)
    rw [r8 i k1 (by omega)]; omega⟩
  have ly : y.length = x.length := by omega
  have lz : z.length = x.length := by omega
  have hy' : ∀ q, 0 ≤ q → q < (x.length : Int) → rd y q = rd x q + a1 := fun q q1 q2 => r7 q q1 (by omega)
  have hz' : ∀ q, 0 ≤ q → q < (x.length : Int) → rd z q = rd x q * fac := fun q q1 q2 => r8 q q1 (by omega)
  have sh : ∀ i, 0 ≤ i → i ≤ (x.length : Int) → psum y i = psum x i + i * a1 := by
    intro i h1 h2
    have := psum_shift ly hy' i.toNat (by omega)
    rwa [Int.toNat_of_nonneg h1] at this
  have sc : ∀ i, 0 ≤ i → i ≤ (x.length : Int) → psum z i = psum x i * fac := by
    intro i h1 h2
    have := psum_scale lz hz' i.toNat (by omega)
    rwa [Int.toNat_of_nonneg h1] at this
  have sT : y.sum = x.sum + (x.length : Int) * a1 := by
    rw [← psum_all (x := y), ← psum_all (x := x), ly]; exact sh _ (by omega) (by omega)
  have sZ : z.sum = x.sum * fac := by
    rw [← psum_all (x := z), ← psum_all (x := x), lz]; exact sc _ (by omega) (by omega)
  have cr : ∀ p, 0 ≤ p → p ≤ c.1 → 0 ≤ cut x.length c.1 p ∧ cut x.length c.1 p ≤ (x.length : Int) := fun p h1 h2 => cut_range n1 (by omega) h1 h2
  refine Gives.bind (sk_of hx n1 (by omega) (by omega)) fun f hff => Gives.bind (sk_of hy n1 (by omega) (by omega)) fun g hg => Gives.bind (sk_of hz n1 (by omega) (by omega)) fun h hh => ?_
  obtain ⟨f1, ⟨f2, f3⟩, f4, f5⟩ := hff
  obtain ⟨g1, ⟨g2, g3⟩, g4, g5⟩ := hg
  obtain ⟨h1, ⟨h2, h3⟩, h4, h5⟩ := hh
  have et : f.2.1 = g.2.1 := by
    refine ext_rd (by omega) fun p p1 p2 => ?_
    rw [f3 p p1 (by omega), g3 p p1 (by omega), ly, sT]
    have k1 := cr p p1 (by omega)
    have k2 := cr (p + 1) (by omega) (by omega)
    rw [sh _ k1.1 k1.2, sh _ k2.1 k2.2]
    obtain ⟨d0, hd0⟩ : ∃ d0, d0 = cut x.length c.1 p := ⟨_, rfl⟩
    obtain ⟨d1, hd1⟩ : ∃ d1, d1 = cut x.length c.1 (p + 1) := ⟨_, rfl⟩
    rw [← hd0, ← hd1]
    have e1 : psum x d1 + d1 * a1 - (psum x d0 + d0 * a1) = (psum x d1 - psum x d0) + (d1 - d0) * a1 := by rw [Int.sub_mul]; omega
    have e2 : (x.length : Int) * ((d1 - d0) * a1) = (d1 - d0) * ((x.length : Int) * a1) := Int.mul_left_comm _ _ _
    rw [e1, Int.mul_add, Int.mul_add, e2]; omega
  obtain ⟨u1, u2, _⟩ := selfP_bound hx
  have eE : h.2.2.1 = f.2.2.1 * fac * fac := by
    rw [h4, f4, lz, selfP_scale lz hz', Int.mul_assoc, Int.mul_assoc, Int.mul_assoc]
  have qE := prod_bound (a := (x.length : Int)) (b := selfP x) (A := 32) (B := 4000000000) (by omega) (by omega) (by omega) (by omega)
  have qE2 := prod_bound (a := f.2.2.1) (b := fac) (A := 128000000000) (B := 4) (by omega) (by omega) (by omega) (by omega)
  have qE3 := prod_bound (a := f.2.2.1 * fac) (b := fac) (A := 512000000000) (B := 4) (by omega) (by omega) (by omega) (by omega)
  refine Gives.bind (Q := fun v => v = false) ?_ fun v hv => ?_
  · refine Gives.neg (by simp [f5, g5, h5]) (Gives.bind (sk_same (by rw [f1, g1, ly]) et (by rw [f4, g4, ly, selfP_shift ly hy']) (by omega)) fun v hv => ?_)
    subst hv
    rw [w64_id (x := f.2.2.1 * fac) (by omega) (by omega), w64_id (x := f.2.2.1 * fac * fac) (by omega) (by omega)]
    exact Gives.now (by simp [h2, f2, eE])
  subst hv
  refine Gives.neg (by simp) ?_
  refine Gives.bind (ss_last hf (by omega) f2 h2 fun p p1 p2 => ?_) fun w hw => ?_
  · have k1 := cr p p1 (by omega)
    have k2 := cr (p + 1) (by omega) (by omega)
    have b1 := pc_bounds hx k1.1 k1.2
    have b2 := pc_bounds hx k2.1 k2.2
    have b3 := pc_bounds hx (i := x.length) (by omega) (by omega)
    rw [psum_all] at b3
    rw [h3 p p1 p2, f3 p p1 p2, lz, sZ, sc _ k1.1 k1.2, sc _ k2.1 k2.2]
    generalize psum x (cut x.length c.1 p) = A at b1 ⊢
    generalize psum x (cut x.length c.1 (p + 1)) = Bv at b2 ⊢
    generalize cut x.length c.1 p = d0 at k1 ⊢
    generalize cut x.length c.1 (p + 1) = d1 at k2 ⊢
    have q2 := prod_bound (a := (x.length : Int)) (b := Bv - A) (A := 32) (B := 64000) (by omega) (by omega) (by omega) (by omega)
    have q3 := prod_bound (a := d1 - d0) (b := x.sum) (A := 32) (B := 32000) (by omega) (by omega) (by omega) (by omega)
    refine ⟨?_, by omega, by omega⟩
    rw [← Int.sub_mul, ← Int.mul_assoc, ← Int.mul_assoc, ← Int.sub_mul]
  subst hw
  exact Gives.bind awake_ok fun v hv => Gives.now hv

end Go.Proofs.Ytdmipmhpjdmopaa.sketchShifts
