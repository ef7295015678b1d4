/- That the told functions answer as the statement SketchNarrow says, in plain Lean. There are no conditions. -/
import Derived.Test.YtdmipmhpjdmopaaTSketchNarrow1
set_option maxRecDepth 100000
set_option linter.unusedVariables false
set_option linter.unusedSimpArgs false
namespace Go.Proofs.Ytdmipmhpjdmopaa.sketchNarrow
open Go
theorem wf_u8 {n : Int} (h : (Lit.int .u8 n).wf = true) : 0 ≤ n ∧ n ≤ 255 := by
  simpa [Lit.wf, IntKind.min, IntKind.max, IntKind.signed, IntKind.bits] using h
theorem wf_i8 {n : Int} (h : (Lit.int .i8 n).wf = true) : -128 ≤ n ∧ n ≤ 127 := by
  simpa [Lit.wf, IntKind.min, IntKind.max, IntKind.signed, IntKind.bits] using h
theorem wf_i64 {n : Int} (h : (Lit.int .i64 n).wf = true) : -9223372036854775808 ≤ n ∧ n ≤ 9223372036854775807 := by
  simpa [Lit.wf, IntKind.min, IntKind.max, IntKind.signed, IntKind.bits] using h
theorem w64_id {x : Int} (h1 : -9223372036854775808 ≤ x) (h2 : x < 9223372036854775808) : w64 x = x := wrap_id h1 h2

/-- With enough rounds the answer is there, and it is as asked. -/
def Gives {α : Type} (f : Nat → Option α) (Q : α → Prop) : Prop := ∃ r, (∃ K, ∀ k, K ≤ k → f k = some r) ∧ Q r
theorem Gives.mono {α : Type} {f : Nat → Option α} {Q Q' : α → Prop} (h : Gives f Q) (k : ∀ r, Q r → Q' r) : Gives f Q' := by
  obtain ⟨r, h1, h2⟩ := h; exact ⟨r, h1, k r h2⟩
theorem Gives.now {α : Type} {r : α} {Q : α → Prop} (h : Q r) : Gives (fun _ => some r) Q := ⟨r, ⟨0, fun _ _ => rfl⟩, h⟩
theorem Gives.con {α : Type} {x : Option α} {r : α} {Q : α → Prop} (h : x = some r) (k : Q r) : Gives (fun _ => x) Q := ⟨r, ⟨0, fun _ _ => h⟩, k⟩
theorem Gives.bind {α β : Type} {f : Nat → Option α} {g : Nat → α → Option β} {Q : α → Prop} {Q' : β → Prop} (h : Gives f Q) (k : ∀ a, Q a → Gives (fun n => g n a) Q') : Gives (fun n => (f n).bind (g n)) Q' := by
  obtain ⟨a, ⟨K, hK⟩, ha⟩ := h
  obtain ⟨r, ⟨K2, hK2⟩, hr⟩ := k a ha
  exact ⟨r, ⟨max K K2, fun n hn => by show (f n).bind (g n) = some r; rw [hK n (by omega), Option.bind_some]; exact hK2 n (by omega)⟩, hr⟩
theorem Gives.opt {α β : Type} {x : Option α} {a : α} {g : Nat → α → Option β} {Q : β → Prop} (h : x = some a) (k : Gives (fun n => g n a) Q) : Gives (fun n => x.bind (g n)) Q := by
  subst h; exact k
theorem Gives.step {α : Type} {f : Nat → Option α} {Q : α → Prop} (h : Gives (fun k => f (k + 1)) Q) : Gives f Q := by
  obtain ⟨r, ⟨K, hK⟩, hr⟩ := h
  refine ⟨r, ⟨K + 1, fun n hn => ?_⟩, hr⟩
  obtain ⟨m, rfl⟩ : ∃ m, n = m + 1 := ⟨n - 1, by omega⟩
  exact hK m (by omega)
theorem Gives.ite {α : Type} {c : Prop} [Decidable c] {f g : Nat → Option α} {Q : α → Prop} (h : c → Gives f Q) (k : ¬ c → Gives g Q) : Gives (fun n => if c then f n else g n) Q := by
  by_cases hc : c
  · simp only [if_pos hc]; exact h hc
  · simp only [if_neg hc]; exact k hc
theorem Gives.pos {α : Type} {c : Prop} [Decidable c] {f g : Nat → Option α} {Q : α → Prop} (hc : c) (h : Gives f Q) : Gives (fun n => if c then f n else g n) Q := by
  simp only [if_pos hc]; exact h
theorem Gives.neg {α : Type} {c : Prop} [Decidable c] {f g : Nat → Option α} {Q : α → Prop} (hc : ¬ c) (h : Gives g Q) : Gives (fun n => if c then f n else g n) Q := by
  simp only [if_neg hc]; exact h
theorem Gives.loop {S R : Type} {f : Nat → S → Option (S ⊕ R)} {Q : R → Prop} (Inv : S → Prop) (m : S → Nat)
    (h : ∀ s, Inv s → Gives (fun k => f k s) (fun x => match x with | .inl s' => Inv s' ∧ m s' < m s | .inr r => Q r)) {s : S} (hs : Inv s) : Gives (fun k => loopT (f k) k s) Q := by
  suffices H : ∀ (n : Nat) (s : S), m s < n → Inv s → ∃ r, (∃ K N, ∀ k, K ≤ k → ∀ j, N ≤ j → loopT (f k) j s = some r) ∧ Q r by
    obtain ⟨r, ⟨K, N, hK⟩, hr⟩ := H (m s + 1) s (by omega) hs
    exact ⟨r, ⟨max K N, fun k hk => hK k (by omega) k (by omega)⟩, hr⟩
  intro n
  induction n with
  | zero => intro s hs; omega
  | succ n ih =>
    intro s hs hI
    obtain ⟨x, ⟨K, hK⟩, hx⟩ := h s hI
    cases x with
    | inl s' =>
      obtain ⟨r, ⟨K2, N, hK2⟩, hr⟩ := ih s' (by have := hx.2; omega) hx.1
      refine ⟨r, ⟨max K K2, N + 1, fun k hk j hj => ?_⟩, hr⟩
      obtain ⟨j', rfl⟩ : ∃ j', j = j' + 1 := ⟨j - 1, by omega⟩
      simp only [loopT, hK k (by omega), Option.bind_some]
      exact hK2 k (by omega) j' (by omega)
    | inr r =>
      refine ⟨r, ⟨K, 1, fun k hk j hj => ?_⟩, hx⟩
      obtain ⟨j', rfl⟩ : ∃ j', j = j' + 1 := ⟨j - 1, by omega⟩
      simp only [loopT, hK k hk, Option.bind_some]
theorem Gives.true {f : Nat → Option Bool} (h : Gives f (· = true)) : ∃ k, f k = some true := by
  obtain ⟨r, ⟨K, hK⟩, hr⟩ := h
  subst hr
  exact ⟨K, hK K (Nat.le_refl _)⟩
/-- An element of a list, 0 outside of it. -/
def rd (xs : List Int) (i : Int) : Int := xs.getD i.toNat 0
theorem at_rd {xs : List Int} {i : Int} (h0 : 0 ≤ i) (h1 : i < (xs.length : Int)) : at? xs i = some (rd xs i) := by
  unfold at? rd
  rw [if_pos h0, List.getD_eq_getElem?_getD, List.getElem?_eq_getElem (by omega)]; rfl
theorem get_rd {xs : List Int} {n : Nat} (h1 : n < xs.length) : xs[n]? = some (rd xs n) := by
  unfold rd
  rw [List.getD_eq_getElem?_getD, List.getElem?_eq_getElem h1]
  simp [h1]
theorem rd_mem {xs : List Int} {i : Int} (h0 : 0 ≤ i) (h1 : i < (xs.length : Int)) : rd xs i ∈ xs := by
  unfold rd
  have h : i.toNat < xs.length := by omega
  rw [List.getD_eq_getElem?_getD, List.getElem?_eq_getElem h]; exact List.getElem_mem h
/-- All numbers are samples. -/
def Smp (xs : List Int) : Prop := ∀ v ∈ xs, -1000 ≤ v ∧ v ≤ 1000
theorem Smp.rd {xs : List Int} (h : Smp xs) (i : Int) : -1000 ≤ rd xs i ∧ rd xs i ≤ 1000 := by
  show -1000 ≤ xs.getD i.toNat 0 ∧ xs.getD i.toNat 0 ≤ 1000
  rw [List.getD_eq_getElem?_getD]
  rcases Nat.lt_or_ge i.toNat xs.length with c | c
  · rw [List.getElem?_eq_getElem c]; exact h _ (List.getElem_mem c)
  · rw [List.getElem?_eq_none c]; decide
theorem Smp.nil : Smp [] := fun _ h => by simp at h
theorem Smp.app {xs ys : List Int} (h : Smp xs) (k : Smp ys) : Smp (xs ++ ys) := fun v hv => by
  rcases List.mem_append.1 hv with h1 | h1
  · exact h v h1
  · exact k v h1
theorem Smp.one {v : Int} (h0 : -1000 ≤ v) (h1 : v ≤ 1000) : Smp [v] := fun u hu => by
  obtain rfl := List.mem_singleton.1 hu; exact ⟨h0, h1⟩
theorem Smp.take {xs : List Int} (h : Smp xs) (n : Nat) : Smp (xs.take n) := fun v hv => h v (List.mem_of_mem_take hv)
theorem Smp.drop {xs : List Int} (h : Smp xs) (n : Nat) : Smp (xs.drop n) := fun v hv => h v (List.mem_of_mem_drop hv)
theorem Smp.set {xs : List Int} (h : Smp xs) (n : Nat) {v : Int} (h0 : -1000 ≤ v) (h1 : v ≤ 1000) : Smp (xs.set n v) := fun u hu => by
  rcases List.mem_or_eq_of_mem_set hu with h2 | h2
  · exact h u h2
  · subst h2; exact ⟨h0, h1⟩
/-- A window. -/
structure Win (xs : List Int) : Prop where
  lo : 2 ≤ xs.length
  hi : xs.length ≤ 32
  smp : Smp xs

/-- A reader of numbers. -/
structure SrcOk (L : List Int) (p : Int) : Prop where
  lo : 0 ≤ p
  hi : p ≤ (L.length : Int)
  len : L.length ≤ 2000
theorem src_raw {L : List Int} {p : Int} (h : SrcOk L p) : Gives (fun k => T_keep_Src_Raw k L p) (fun r => SrcOk L r.2) := by
  obtain ⟨h0, h1, h2⟩ := h
  refine Gives.step ?_
  simp only [T_keep_Src_Raw]
  have e1 : w64 (p + 1) = p + 1 := w64_id (by omega) (by omega)
  have e2 : w64 (w64 (p + 1) - 1) = p := by rw [e1, w64_id (by omega) (by omega)]; omega
  refine Gives.ite (fun c => Gives.now ⟨h0, h1, h2⟩) fun c => ?_
  rw [e2, e1]
  exact Gives.opt (at_rd h0 (by omega)) (Gives.now ⟨by simp only []; omega, by simp only []; omega, h2⟩)
theorem src_mod (x n : Int) (h : 1 ≤ n) (hn : n ≤ 4611686018427387904) : Gives (fun k => T_keep_Mod k x n) (fun v => 0 ≤ v ∧ v < n) := by
  have h1 : Int.tmod x n < n := Int.tmod_lt_of_pos _ (by omega)
  have h2 : -n < Int.tmod x n := by
    rcases Int.le_total 0 x with c | c
    · have := Int.tmod_nonneg n c; omega
    · have h3 : Int.tmod (-x) n < n := Int.tmod_lt_of_pos _ (by omega)
      rw [Int.neg_tmod] at h3; omega
  refine Gives.step ?_
  simp only [T_keep_Mod]
  refine Gives.neg (by omega) (Gives.pos (by omega) (Gives.bind (Q := fun v => 0 ≤ v ∧ v < n) ?_ fun a ha => Gives.now ha))
  refine Gives.ite (fun c => ?_) fun c => Gives.now ⟨by omega, by omega⟩
  rw [w64_id (by omega) (by omega)]
  exact Gives.now ⟨by omega, by omega⟩
theorem src_n {L : List Int} {p : Int} (h : SrcOk L p) (n : Int) (h1 : 1 ≤ n) (hn : n ≤ 4611686018427387904) : Gives (fun k => T_keep_Src_N k n L p) (fun r => 0 ≤ r.1 ∧ r.1 < n ∧ SrcOk L r.2) := by
  refine Gives.step ?_
  simp only [T_keep_Src_N]
  exact Gives.bind (src_raw h) fun a ha => Gives.bind (src_mod a.1 n h1 hn) fun v hv => Gives.now ⟨hv.1, hv.2, ha⟩
theorem src_range {L : List Int} {p : Int} (h : SrcOk L p) (lo hi : Int) (h1 : lo ≤ hi) (h0 : -1000000000000 ≤ lo) (h2 : hi ≤ 1000000000000) : Gives (fun k => T_keep_Src_Range k lo hi L p) (fun r => lo ≤ r.1 ∧ r.1 ≤ hi ∧ SrcOk L r.2) := by
  have e1 : w64 (w64 (hi - lo) + 1) = hi - lo + 1 := by rw [w64_id (x := hi - lo) (by omega) (by omega), w64_id (by omega) (by omega)]
  refine Gives.step ?_
  simp only [T_keep_Src_Range]
  rw [e1]
  refine Gives.bind (src_n h (hi - lo + 1) (by omega) (by omega)) fun a ha => ?_
  rw [w64_id (by omega) (by omega)]
  exact Gives.now ⟨by simp only []; omega, by simp only []; omega, ha.2.2⟩
theorem src_pick {L : List Int} {p : Int} (h : SrcOk L p) (l : List Int) (h1 : 1 ≤ l.length) (h2 : l.length ≤ 1000) : Gives (fun k => T_keep_Src_Pick k l L p) (fun r => r.1 ∈ l ∧ SrcOk L r.2) := by
  refine Gives.step ?_
  simp only [T_keep_Src_Pick]
  exact Gives.bind (src_n h (l.length : Int) (by omega) (by omega)) fun a ha => Gives.opt (at_rd ha.1 ha.2.1) (Gives.now ⟨rd_mem ha.1 ha.2.1, ha.2.2⟩)
theorem src_clip (x : Int) : Gives (fun k => T_keep_clip k x) (fun _ => True) := by
  refine Gives.step ?_
  simp only [T_keep_clip]
  exact Gives.now trivial
theorem clip_smp (x : Int) : -1000 ≤ imin (imax x (-1000)) 1000 ∧ imin (imax x (-1000)) 1000 ≤ 1000 := by unfold imin imax; split <;> split <;> omega
theorem src_length {L : List Int} {p : Int} (h : SrcOk L p) : Gives (fun k => T_keep_Src_Length k L p) (fun r => 2 ≤ r.1 ∧ r.1 ≤ 32 ∧ SrcOk L r.2) := by
  refine Gives.step ?_
  simp only [T_keep_Src_Length]
  refine Gives.bind (src_n h 8 (by omega) (by omega)) fun a ha => Gives.ite (fun c => ?_) fun c => ?_
  · exact Gives.bind (src_range ha.2.2 13 32 (by omega) (by omega) (by omega)) fun b hb => Gives.now ⟨by simp only []; omega, by simp only []; omega, hb.2.2⟩
  · exact Gives.bind (src_range ha.2.2 2 12 (by omega) (by omega) (by omega)) fun b hb => Gives.now ⟨by simp only []; omega, by simp only []; omega, hb.2.2⟩
theorem drop_take_len {xs : List Int} {n : Nat} (h : xs.length = n) : (xs.drop 0).take n = xs := by rw [List.drop_zero, ← h, List.take_length]
theorem src_list {L : List Int} {p : Int} (h : SrcOk L p) (n : Int) (h1 : 2 ≤ n) (h2 : n ≤ 32) : Gives (fun k => T_keep_Src_List k n L p) (fun r => (r.1.length : Int) = n ∧ Smp r.1 ∧ SrcOk L r.2) := by
  refine Gives.step ?_
  simp only [T_keep_Src_List]
  refine Gives.bind (src_n h 6 (by omega) (by omega)) fun a ha => Gives.bind (src_pick ha.2.2 [1, 3, 10, 100, 1000] (by decide) (by decide)) fun b hb => Gives.bind (src_n hb.2 3 (by omega) (by omega)) fun c hc => ?_
  have hb1 : 1 ≤ b.1 ∧ b.1 ≤ 1000 := by have := hb.1; simp at this; omega
  have em : w64 (0 - b.1) = -b.1 := by rw [w64_id (by omega) (by omega)]; omega
  refine Gives.bind (Q := fun d => -1000 ≤ d.1 ∧ d.1 ≤ 1000 ∧ SrcOk L d.2) ?_ fun d hd => ?_
  · refine Gives.ite (fun _ => ?_) fun _ => Gives.now ⟨by simp only []; omega, by simp only []; omega, hc.2.2⟩
    exact Gives.bind (src_range hc.2.2 (-1000) 1000 (by omega) (by omega) (by omega)) fun e he => Gives.now he
  refine Gives.bind (Q := fun r => (r.1 : Int) = n ∧ r.2.2.length = r.1 ∧ Smp r.2.2 ∧ SrcOk L r.2.1) ?_ fun r hr => ?_
  · refine Gives.loop (fun s => -1000 ≤ s.1 ∧ s.1 ≤ 1000 ∧ (s.2.1 : Int) = s.2.2.1 ∧ s.2.2.1 ≤ n ∧ SrcOk L s.2.2.2.1 ∧ s.2.2.2.2.length = s.2.1 ∧ Smp s.2.2.2.2) (fun s => (n - s.2.2.1).toNat) ?_ ⟨hd.1, hd.2.1, rfl, by simp only []; omega, hd.2.2, rfl, Smp.nil⟩
    intro s ⟨i1, i2, i3, i4, i5, i6, i7⟩
    have ed : (s.2.2.2.2.drop 0).take s.2.1 = s.2.2.2.2 := drop_take_len i6
    unfold T_keep_Src_List_l1
    refine Gives.ite (fun c => ?_) fun c => Gives.now ⟨by simp only []; omega, i6, i7, i5⟩
    rw [em, ed]
    have hlim : s.2.1 + 1 ≤ LIM := by unfold LIM; omega
    refine Gives.bind (Q := fun _ => True) (Gives.ite (fun _ => Gives.now trivial) fun _ => Gives.now trivial) fun t _ => ?_
    refine Gives.bind (Q := fun r => -1000 ≤ r.1 ∧ r.1 ≤ 1000 ∧ SrcOk L r.2.1 ∧ r.2.2.length = s.2.1 + 1 ∧ Smp r.2.2) ?_ fun r hr => ?_
    · refine Gives.ite (fun _ => ?_) fun _ => ?_
      · refine Gives.bind (src_range i5 (-b.1) b.1 (by omega) (by omega) (by omega)) fun v hv => Gives.pos hlim (Gives.now ⟨i1, i2, hv.2.2, by simp [i6], i7.app (Smp.one (by omega) (by omega))⟩)
      · refine Gives.bind (Q := fun _ => True) (Gives.ite (fun _ => Gives.now trivial) fun _ => Gives.now trivial) fun t2 _ => Gives.ite (fun _ => ?_) fun _ => Gives.ite (fun _ => ?_) fun _ => ?_
        · refine Gives.bind (src_range i5 (-b.1) b.1 (by omega) (by omega) (by omega)) fun v hv => Gives.bind (src_clip _) fun _ _ => Gives.pos hlim (Gives.now ?_)
          have := clip_smp (w64 (s.1 + v.1))
          exact ⟨this.1, this.2, hv.2.2, by simp [i6], i7.app (Smp.one this.1 this.2)⟩
        · refine Gives.bind (src_n i5 4 (by omega) (by omega)) fun v hv => Gives.bind (Q := fun r => -1000 ≤ r.1 ∧ r.1 ≤ 1000 ∧ SrcOk L r.2) (Gives.ite (fun _ => ?_) fun _ => Gives.now ⟨i1, i2, hv.2.2⟩) fun u hu => Gives.pos hlim (Gives.now ⟨hu.1, hu.2.1, hu.2.2, by simp [i6], i7.app (Smp.one hu.1 hu.2.1)⟩)
          exact Gives.bind (src_range hv.2.2 (-b.1) b.1 (by omega) (by omega) (by omega)) fun e he => Gives.now ⟨by simp only []; omega, by simp only []; omega, he.2.2⟩
        · refine Gives.bind (src_pick i5 [-1000, 1000, 1000, 0] (by decide) (by decide)) fun v hv => Gives.pos hlim (Gives.now ?_)
          have : -1000 ≤ v.1 ∧ v.1 ≤ 1000 := by have := hv.1; simp at this; omega
          exact ⟨i1, i2, hv.2, by simp [i6], i7.app (Smp.one this.1 this.2)⟩
    · have ei : w64 (s.2.2.1 + 1) = s.2.2.1 + 1 := w64_id (by omega) (by omega)
      rw [ei]
      exact Gives.now ⟨⟨hr.1, hr.2.1, by simp only []; omega, by simp only []; omega, hr.2.2.1, hr.2.2.2.1, hr.2.2.2.2⟩, by simp only []; omega⟩
  · rw [drop_take_len hr.2.1]
    exact Gives.now ⟨by simp only []; omega, hr.2.2.1, hr.2.2.2⟩

theorem get_rd0 {xs : List Int} {i : Int} (h0 : 0 ≤ i) (h1 : i < (xs.length : Int)) : xs[0 + i.toNat]? = some (rd xs i) := by
  rw [Nat.zero_add, get_rd (by omega), Int.toNat_of_nonneg h0]
theorem src_new (l : List Int) : SrcOk ((l.drop 0).take ((imin (l.length : Int) 2000).toNat - 0)) 0 ∧ Gives (fun k => T_keep_New k l) (fun _ => True) := by
  have h1 : 0 ≤ imin (l.length : Int) 2000 := by unfold imin; split <;> omega
  have h2 : imin (l.length : Int) 2000 ≤ l.length := by unfold imin; split <;> omega
  have h3 : imin (l.length : Int) 2000 ≤ 2000 := by unfold imin; split <;> omega
  refine ⟨⟨by omega, by omega, ?_⟩, ?_⟩
  · simp; omega
  · refine Gives.step ?_
    simp only [T_keep_New]
    exact Gives.pos (by omega) (Gives.now trivial)
/-! The distance of chapter 12. -/
theorem eu_samples {xs : List Int} (h : Win xs) : Gives (fun k => T_euclid_samples k xs) (· = true) := by
  have h2 := h.hi
  refine Gives.step ?_
  simp only [T_euclid_samples]
  refine Gives.bind (Q := fun r => r = .inl ()) ?_ fun r hr => by subst hr; exact Gives.now rfl
  refine Gives.loop (fun s => 0 ≤ s ∧ s ≤ (xs.length : Int)) (fun s => ((xs.length : Int) - s).toNat) ?_ ⟨by omega, by omega⟩
  intro s ⟨i1, i2⟩
  unfold T_euclid_samples_l1
  refine Gives.ite (fun c => Gives.opt (at_rd i1 c) ?_) fun c => Gives.now rfl
  have := h.smp.rd s
  refine Gives.neg (by simp; omega) ?_
  rw [w64_id (by omega) (by omega)]
  exact Gives.now ⟨⟨by omega, by omega⟩, by omega⟩
theorem eu_len (xs : List Int) : Gives (fun k => T_euclid_length k xs) (fun _ => True) := by
  refine Gives.step ?_
  simp only [T_euclid_length]
  exact Gives.now trivial
theorem eu_check {xs ys : List Int} (hx : Win xs) (hy : Win ys) (hl : xs.length = ys.length) : Gives (fun k => T_euclid_check k xs ys) (· = 0) := by
  have x1 := hx.lo
  have x2 := hx.hi
  refine Gives.step ?_
  simp only [T_euclid_check]
  refine Gives.bind (Q := fun b => b = false) ?_ fun b hb => ?_
  · refine Gives.bind (eu_len xs) fun _ _ => Gives.neg (by simp; omega) ?_
    refine Gives.bind (eu_len ys) fun _ _ => Gives.now ?_
    simp; omega
  subst hb
  refine Gives.neg (by simp) ?_
  refine Gives.bind (Q := fun b => b = false) ?_ fun b hb => ?_
  · refine Gives.bind (eu_samples hx) fun u hu => ?_
    subst hu
    refine Gives.neg (by simp) (Gives.bind (eu_samples hy) fun u hu => ?_)
    subst hu
    exact Gives.now rfl
  subst hb
  refine Gives.neg (by simp) (Gives.neg (by simp [hl]) (Gives.now rfl))
theorem eu_square {xs ys : List Int} (hx : Win xs) (hl : xs.length = ys.length) : Gives (fun k => T_euclid_square k xs ys) (fun _ => True) := by
  have x2 := hx.hi
  refine Gives.step ?_
  simp only [T_euclid_square]
  refine Gives.bind (Q := fun _ => True) ?_ fun r hr => Gives.now trivial
  refine Gives.loop (fun s => 0 ≤ s.2 ∧ s.2 ≤ (xs.length : Int)) (fun s => ((xs.length : Int) - s.2).toNat) ?_ ⟨by simp only []; omega, by simp only []; omega⟩
  intro s ⟨i1, i2⟩
  unfold T_euclid_square_l1
  refine Gives.ite (fun c => Gives.opt (at_rd i1 c) (Gives.opt (at_rd i1 (by omega)) ?_)) fun c => Gives.now trivial
  rw [w64_id (x := s.2 + 1) (by omega) (by omega)]
  exact Gives.now ⟨⟨by simp only []; omega, by simp only []; omega⟩, by simp only []; omega⟩
theorem eu_distance {xs ys : List Int} (hx : Win xs) (hy : Win ys) (hl : xs.length = ys.length) : Gives (fun k => T_euclid_Distance k xs ys) (fun r => r.2 = 0) := by
  refine Gives.step ?_
  simp only [T_euclid_Distance]
  refine Gives.bind (eu_check hx hy hl) fun e he => ?_
  subst he
  exact Gives.neg (by simp) (Gives.bind (eu_square hx hl) fun v _ => Gives.now rfl)

/-! Sums of the first samples. -/
def psum (x : List Int) (i : Int) : Int := (x.take i.toNat).sum
theorem psum_zero (x : List Int) : psum x 0 = 0 := by simp [psum]
theorem psum_succ {x : List Int} {i : Int} (h0 : 0 ≤ i) (h1 : i < (x.length : Int)) : psum x (i + 1) = psum x i + rd x i := by
  unfold psum rd
  rw [show (i + 1).toNat = i.toNat + 1 by omega, List.take_succ_eq_append_getElem (show i.toNat < x.length by omega), List.sum_append]
  rw [List.getD_eq_getElem?_getD, List.getElem?_eq_getElem (show i.toNat < x.length by omega)]
  simp
theorem psum_bound {x : List Int} {B : Int} (hB : ∀ v ∈ x, -B ≤ v ∧ v ≤ B) : ∀ n : Nat, n ≤ x.length → -(B * n) ≤ psum x n ∧ psum x n ≤ B * n
  | 0, _ => by simp [psum]
  | n + 1, h => by
    have ih := psum_bound hB n (by omega)
    have e := psum_succ (x := x) (i := (n : Int)) (by omega) (by omega)
    have hb := hB _ (rd_mem (xs := x) (i := (n : Int)) (by omega) (by omega))
    have : (((n + 1 : Nat)) : Int) = (n : Int) + 1 := by omega
    rw [this, e, Int.mul_add, Int.mul_one]
    omega
theorem psum_all {x : List Int} : psum x x.length = x.sum := by simp [psum]
theorem part_sum {x : List Int} {a b : Int} (h0 : 0 ≤ a) (h1 : a ≤ b) : ((x.drop a.toNat).take (b.toNat - a.toNat)).sum = psum x b - psum x a := by
  have e : x.take b.toNat = x.take a.toNat ++ (x.drop a.toNat).take (b.toNat - a.toNat) := by
    conv => lhs; rw [show b.toNat = a.toNat + (b.toNat - a.toNat) by omega]
    rw [List.take_add]
  unfold psum
  rw [e, List.sum_append]
  omega
theorem psum_shift {x z : List Int} {c : Int} (hl : z.length = x.length) (h : ∀ q, 0 ≤ q → q < (x.length : Int) → rd z q = rd x q + c) : ∀ n : Nat, n ≤ x.length → psum z n = psum x n + n * c
  | 0, _ => by simp [psum]
  | n + 1, hn => by
    have ih := psum_shift hl h n (by omega)
    have e1 := psum_succ (x := x) (i := (n : Int)) (by omega) (by omega)
    have e2 := psum_succ (x := z) (i := (n : Int)) (by omega) (by omega)
    have e3 := h n (by omega) (by omega)
    have : (((n + 1 : Nat)) : Int) = (n : Int) + 1 := by omega
    rw [this, e1, e2, e3, ih, Int.add_mul, Int.one_mul]
    omega
/-! Where the pieces of a window begin. -/
def cut (m n p : Int) : Int := p * m / n
theorem cut_zero (m n : Int) : cut m n 0 = 0 := by simp [cut]
theorem cut_last {m n : Int} (hn : 1 ≤ n) : cut m n n = m := by unfold cut; exact Int.mul_ediv_cancel_left _ (by omega)
theorem cut_mono {m n p q : Int} (hn : 1 ≤ n) (hm : 0 ≤ m) (h : p ≤ q) : cut m n p ≤ cut m n q := by
  unfold cut
  exact Int.ediv_le_ediv (by omega) (Int.mul_le_mul_of_nonneg_right h hm)
theorem cut_range {m n p : Int} (hn : 1 ≤ n) (hm : 0 ≤ m) (h0 : 0 ≤ p) (h1 : p ≤ n) : 0 ≤ cut m n p ∧ cut m n p ≤ m := by
  have a := cut_mono (m := m) hn hm h0
  have b := cut_mono (m := m) hn hm h1
  rw [cut_zero] at a
  rw [cut_last hn] at b
  exact ⟨a, b⟩
theorem cut_w {m n p : Int} (hn : 1 ≤ n) (hn2 : n ≤ 8) (hm : 0 ≤ m) (hm2 : m ≤ 32) (h0 : 0 ≤ p) (h1 : p ≤ n) : w64 ((w64 (p * m)).tdiv n) = cut m n p := by
  have h2 : 0 ≤ p * m := Int.mul_nonneg h0 hm
  have h3 : p * m ≤ 8 * 32 := Int.le_trans (Int.mul_le_mul_of_nonneg_right (show p ≤ 8 by omega) hm) (Int.mul_le_mul_of_nonneg_left hm2 (by omega))
  have h4 := cut_range hn hm h0 h1
  rw [w64_id (x := p * m) (by omega) (by omega), Int.tdiv_eq_ediv_of_nonneg h2, w64_id]
  · rfl
  · have : cut m n p = p * m / n := rfl
    omega
  · have : cut m n p = p * m / n := rfl
    omega
theorem Gives.rangeT {S R : Type} {f : Nat → Int → Int → Int → S → Option (S ⊕ R)} {m n : Int} (hn : 1 ≤ n) (hn2 : n ≤ 8) (hm : 0 ≤ m) (hm2 : m ≤ 32) (Inv : Int → S → Prop)
    (h : ∀ p s, 0 ≤ p → p < n → Inv p s → Gives (fun k => f k p (cut m n p) (cut m n (p + 1)) s) (fun x => ∃ s', x = .inl s' ∧ Inv (p + 1) s')) {s : S} (hs : Inv 0 s) :
    Gives (fun k => allT (f k) m n k 0 s) (fun x => ∃ s', x = .inl s' ∧ Inv n s') := by
  suffices H : ∀ (d : Nat) (p : Int) (s : S), 0 ≤ p → p ≤ n → (n - p).toNat < d → Inv p s → ∃ r, (∃ K N, ∀ k, K ≤ k → ∀ j, N ≤ j → allT (f k) m n j p s = some r) ∧ ∃ s', r = .inl s' ∧ Inv n s' by
    obtain ⟨r, ⟨K, N, hK⟩, hr⟩ := H (n.toNat + 1) 0 s (by omega) (by omega) (by omega) hs
    exact ⟨r, ⟨max K N, fun k hk => hK k (by omega) k (by omega)⟩, hr⟩
  intro d
  induction d with
  | zero => intro p s _ _ h; omega
  | succ d ih =>
    intro p s h0 h1 hd hI
    by_cases c : p < n
    · obtain ⟨x, ⟨K, hK⟩, s', rfl, hs'⟩ := h p s h0 c hI
      obtain ⟨r, ⟨K2, N, hK2⟩, hr⟩ := ih (p + 1) s' (by omega) (by omega) (by omega) hs'
      refine ⟨r, ⟨max K K2, N + 1, fun k hk j hj => ?_⟩, hr⟩
      obtain ⟨j', rfl⟩ : ∃ j', j = j' + 1 := ⟨j - 1, by omega⟩
      simp only [allT]
      rw [if_pos c, if_pos (by omega), w64_id (x := p + 1) (by omega) (by omega), cut_w hn hn2 hm hm2 h0 (by omega), cut_w hn hn2 hm hm2 (by omega) (by omega), show f k p (cut m n p) (cut m n (p + 1)) s = some (.inl s') from hK k (by omega)]
      exact hK2 k (by omega) j' (by omega)
    · have : p = n := by omega
      subst this
      refine ⟨.inl s, ⟨0, 1, fun k _ j hj => ?_⟩, s, rfl, hI⟩
      obtain ⟨j', rfl⟩ : ∃ j', j = j' + 1 := ⟨j - 1, by omega⟩
      simp only [allT]
      rw [if_neg c]
/-! What the functions of the chapter compute. -/
theorem pc_total {x : List Int} (hs : Smp x) (hl : x.length ≤ 32) : Gives (fun k => T_pieces_total k x) (fun r => r = x.sum) := by
  have hB : ∀ v ∈ x, -(1000 : Int) ≤ v ∧ v ≤ 1000 := hs
  refine Gives.step ?_
  simp only [T_pieces_total]
  refine Gives.bind (Q := fun r => r = x.sum) ?_ fun r hr => Gives.now hr
  refine Gives.loop (fun s => 0 ≤ s.2 ∧ s.2 ≤ (x.length : Int) ∧ s.1 = psum x s.2) (fun s => ((x.length : Int) - s.2).toNat) ?_ ⟨by simp only []; omega, by simp only []; omega, (psum_zero x).symm⟩
  intro ⟨t, i⟩ ⟨i1, i2, i3⟩
  simp only at i1 i2 i3
  unfold T_pieces_total_l1
  simp only []
  refine Gives.ite (fun c => Gives.opt (at_rd i1 c) ?_) fun c => Gives.now ?_
  · have e := psum_succ i1 c
    have b := psum_bound hB (i.toNat + 1) (by omega)
    have : ((i.toNat + 1 : Nat) : Int) = i + 1 := by omega
    rw [this] at b
    rw [w64_id (x := i + 1) (by omega) (by omega), w64_id (x := t + rd x i) (by omega) (by omega)]
    exact Gives.now ⟨⟨by simp only []; omega, by simp only []; omega, by simp only []; omega⟩, by simp only []; omega⟩
  · have : i = x.length := by omega
    subst this
    rw [i3]; exact psum_all
theorem pc_all (m n : Int) : Gives (fun k => T_pieces_all k m n) (fun _ => True) := by
  refine Gives.step ?_
  simp only [T_pieces_all]
  exact Gives.now trivial
theorem pc_number (m n : Int) : Gives (fun k => T_pieces_number k m n) (fun _ => True) := by
  refine Gives.step ?_
  simp only [T_pieces_number]
  exact Gives.now trivial
theorem pc_check {x : List Int} {n : Int} (hx : Win x) (hn : 1 ≤ n) (hn2 : n ≤ 8) (hn3 : n ≤ (x.length : Int)) : Gives (fun k => T_pieces_check k x n) (fun r => r = 0) := by
  refine Gives.step ?_
  simp only [T_pieces_check]
  refine Gives.bind (eu_distance hx hx rfl) fun e he => Gives.neg (by simp [he]) (Gives.bind (pc_number _ _) fun _ _ => Gives.neg (by simp; omega) (Gives.now rfl))
theorem rd_set_eq {xs : List Int} {i v : Int} (h0 : 0 ≤ i) (h1 : i < (xs.length : Int)) : rd (xs.set (0 + i.toNat) v) i = v := by
  unfold rd
  rw [Nat.zero_add, List.getD_eq_getElem?_getD, List.getElem?_set_self (by omega)]; rfl
theorem rd_set_ne {xs : List Int} {i j v : Int} (h0 : 0 ≤ i) (h1 : 0 ≤ j) (h : i ≠ j) : rd (xs.set (0 + i.toNat) v) j = rd xs j := by
  unfold rd
  rw [Nat.zero_add, List.getD_eq_getElem?_getD, List.getElem?_set_ne (by omega), List.getD_eq_getElem?_getD]
theorem pc_part {x : List Int} {n p : Int} (hx : Win x) (hn : 1 ≤ n) (h0 : 0 ≤ p) (h1 : p < n) : 0 ≤ cut x.length n p ∧ cut x.length n p ≤ cut x.length n (p + 1) ∧ cut x.length n (p + 1) ≤ (x.length : Int) ∧
    Gives (fun k => T_pieces_total k ((x.drop (cut x.length n p).toNat).take ((cut x.length n (p + 1)).toNat - (cut x.length n p).toNat))) (fun r => r = psum x (cut x.length n (p + 1)) - psum x (cut x.length n p)) := by
  have a := cut_range (m := x.length) hn (by omega) h0 (by omega)
  have b := cut_range (m := x.length) (p := p + 1) hn (by omega) (by omega) (by omega)
  have c := cut_mono (m := x.length) (p := p) (q := p + 1) hn (by omega) (by omega)
  refine ⟨a.1, c, b.2, ?_⟩
  have x2 := hx.hi
  refine (pc_total ((hx.smp.drop _).take _) (by simp; omega)).mono fun r hr => ?_
  rw [hr]; exact part_sum a.1 c
theorem prod_bound {a b A B : Int} (h1 : -A ≤ a) (h2 : a ≤ A) (h3 : -B ≤ b) (h4 : b ≤ B) : -(A * B) ≤ a * b ∧ a * b ≤ A * B := by
  have hA : 0 ≤ A := by omega
  have hB : 0 ≤ B := by omega
  have p1 : 0 ≤ (A - a) * (B - b) := Int.mul_nonneg (by omega) (by omega)
  have p2 : 0 ≤ (A + a) * (B + b) := Int.mul_nonneg (by omega) (by omega)
  have p3 : 0 ≤ (A - a) * (B + b) := Int.mul_nonneg (by omega) (by omega)
  have p4 : 0 ≤ (A + a) * (B - b) := Int.mul_nonneg (by omega) (by omega)
  rw [Int.sub_mul, Int.mul_sub, Int.mul_sub] at p1
  rw [Int.add_mul, Int.mul_add, Int.mul_add] at p2
  rw [Int.sub_mul, Int.mul_add, Int.mul_add] at p3
  rw [Int.add_mul, Int.mul_sub, Int.mul_sub] at p4
  omega
theorem pc_bounds {x : List Int} (hx : Win x) {i : Int} (h0 : 0 ≤ i) (h1 : i ≤ (x.length : Int)) : -32000 ≤ psum x i ∧ psum x i ≤ 32000 := by
  have x2 := hx.hi
  have := psum_bound (B := 1000) hx.smp i.toNat (by omega)
  rw [Int.toNat_of_nonneg h0] at this
  omega
theorem pc_centred {x : List Int} {n : Int} (hx : Win x) (hn : 1 ≤ n) (hn2 : n ≤ 8) (hn3 : n ≤ (x.length : Int)) :
    Gives (fun k => T_pieces_Centred k x n) (fun r => r.2 = 0 ∧ (r.1.length : Int) = n ∧ ∀ p, 0 ≤ p → p < n → rd r.1 p = (x.length : Int) * (psum x (cut x.length n (p + 1)) - psum x (cut x.length n p)) - (cut x.length n (p + 1) - cut x.length n p) * x.sum) := by
  have x2 := hx.hi
  refine Gives.step ?_
  simp only [T_pieces_Centred]
  refine Gives.bind (pc_check hx hn hn2 hn3) fun e he => ?_
  subst he
  refine Gives.neg (by simp) (Gives.bind (pc_total hx.smp hx.hi) fun t ht => Gives.pos (by unfold LIM; omega) (Gives.bind (pc_all _ _) fun _ _ => ?_))
  subst ht
  refine Gives.bind (Gives.rangeT (m := (x.length : Int)) (n := n) hn hn2 (by omega) (by omega) (fun p s => s.length = n.toNat ∧ ∀ q, 0 ≤ q → q < p → rd s q = (x.length : Int) * (psum x (cut x.length n (q + 1)) - psum x (cut x.length n q)) - (cut x.length n (q + 1) - cut x.length n q) * x.sum) ?_ ⟨by simp, fun q h1 h2 => by omega⟩) fun r hr => ?_
  · intro p s h0 h1 ⟨i1, i2⟩
    obtain ⟨c1, c2, c3, c4⟩ := pc_part hx hn h0 h1
    unfold T_pieces_Centred_r1
    refine Gives.pos (by omega) (Gives.bind c4 fun v hv => Gives.pos (by omega) ?_)
    have b1 := pc_bounds hx (i := cut x.length n (p + 1)) (by omega) c3
    have b2 := pc_bounds hx (i := cut x.length n p) c1 (by omega)
    have b3 := pc_bounds hx (i := x.length) (by omega) (by omega)
    rw [psum_all] at b3
    have e1 := prod_bound (a := (x.length : Int)) (b := v) (A := 32) (B := 64000) (by omega) (by omega) (by omega) (by omega)
    have e2 := prod_bound (a := cut x.length n (p + 1) - cut x.length n p) (b := x.sum) (A := 32) (B := 32000) (by omega) (by omega) (by omega) (by omega)
    rw [w64_id (x := (x.length : Int) * v) (by omega) (by omega), w64_id (x := cut x.length n (p + 1) - cut x.length n p) (by omega) (by omega), w64_id (x := (cut x.length n (p + 1) - cut x.length n p) * x.sum) (by omega) (by omega), w64_id (by omega) (by omega)]
    refine Gives.now ⟨_, rfl, by simp [i1], fun q h2 h3 => ?_⟩
    by_cases c : q = p
    · subst c; rw [rd_set_eq h2 (by omega), hv]
    · rw [rd_set_ne h0 h2 (by omega)]; exact i2 q h2 (by omega)
  · obtain ⟨s', rfl, k1, k2⟩ := hr
    simp only []
    rw [drop_take_len k1]
    exact Gives.now ⟨rfl, by simp only []; omega, k2⟩
theorem rd_app_l {xs ys : List Int} {i : Int} (h1 : i.toNat < xs.length) : rd (xs ++ ys) i = rd xs i := by
  unfold rd
  rw [List.getD_eq_getElem?_getD, List.getElem?_append_left h1, List.getD_eq_getElem?_getD]
theorem rd_app_1 {xs : List Int} {v i : Int} (h0 : 0 ≤ i) (h1 : (xs.length : Int) = i) : rd (xs ++ [v]) i = v := by
  unfold rd
  rw [List.getD_eq_getElem?_getD, List.getElem?_append_right (by omega)]
  simp [show i.toNat - xs.length = 0 by omega]
theorem pc_starts {m n : Int} (hm : 2 ≤ m) (hm2 : m ≤ 32) (hn : 1 ≤ n) (hn2 : n ≤ 8) (hn3 : n ≤ m) :
    Gives (fun k => T_pieces_Starts k m n) (fun r => r.2 = 0 ∧ (r.1.length : Int) = n + 1 ∧ ∀ p, 0 ≤ p → p ≤ n → rd r.1 p = cut m n p) := by
  refine Gives.step ?_
  simp only [T_pieces_Starts]
  refine Gives.neg (by simp; omega) (Gives.bind (pc_number _ _) fun _ _ => Gives.neg (by simp; omega) (Gives.bind (pc_all _ _) fun _ _ => ?_))
  refine Gives.bind (Gives.rangeT (m := m) (n := n) hn hn2 (by omega) (by omega) (fun p s => (s.1 : Int) = p + 1 ∧ s.2.length = s.1 ∧ ∀ q, 0 ≤ q → q ≤ p → rd s.2 q = cut m n q) ?_ ⟨by simp, by simp, fun q h1 h2 => by
      have : q = 0 := by omega
      subst this; rw [cut_zero]; rfl⟩) fun r hr => ?_
  · intro p s h0 h1 ⟨i1, i2, i3⟩
    unfold T_pieces_Starts_r1
    rw [drop_take_len i2]
    refine Gives.pos (by unfold LIM; omega) (Gives.now ⟨_, rfl, by simp only []; omega, by simp [i2], fun q h2 h3 => ?_⟩)
    simp only []
    by_cases c : q = p + 1
    · subst c; rw [rd_app_1 (by omega) (by omega)]
    · rw [rd_app_l (by omega)]; exact i3 q h2 (by omega)
  · obtain ⟨s', rfl, k1, k2, k3⟩ := hr
    simp only []
    rw [drop_take_len k2]
    exact Gives.now ⟨rfl, by simp only []; omega, k3⟩

/-- The squares of a list. -/
def sqs (x : List Int) : List Int := x.map fun v => v * v
theorem sqs_len (x : List Int) : (sqs x).length = x.length := by simp [sqs]
theorem rd_sqs {x : List Int} {i : Int} (h0 : 0 ≤ i) (h1 : i < (x.length : Int)) : rd (sqs x) i = rd x i * rd x i := by
  unfold rd sqs
  rw [List.getD_eq_getElem?_getD, List.getD_eq_getElem?_getD, List.getElem?_map, List.getElem?_eq_getElem (show i.toNat < x.length by omega)]
  rfl
theorem sqs_bound {x : List Int} (hx : Smp x) : ∀ v ∈ sqs x, -(1000000 : Int) ≤ v ∧ v ≤ 1000000 := by
  intro v hv
  obtain ⟨u, hu, rfl⟩ := List.mem_map.1 hv
  have h := hx u hu
  have := prod_bound (a := u) (b := u) (A := 1000) (B := 1000) h.1 h.2 h.1 h.2
  omega
/-- What the product of a window with itself is. -/
def selfP (x : List Int) : Int := (x.length : Int) * (sqs x).sum - x.sum * x.sum
theorem selfP_bound {x : List Int} (hx : Win x) : -4000000000 ≤ selfP x ∧ selfP x ≤ 4000000000 ∧ -32000000 ≤ (sqs x).sum ∧ (sqs x).sum ≤ 32000000 ∧ -32000 ≤ x.sum ∧ x.sum ≤ 32000 := by
  have x2 := hx.hi
  have b1 := psum_bound (sqs_bound hx.smp) x.length (by rw [sqs_len]; omega)
  have e1 : psum (sqs x) (x.length : Int) = (sqs x).sum := by rw [← sqs_len x]; exact psum_all
  rw [e1] at b1
  have b2 := pc_bounds hx (i := x.length) (by omega) (by omega)
  rw [psum_all] at b2
  have q1 := prod_bound (a := (x.length : Int)) (b := (sqs x).sum) (A := 32) (B := 32000000) (by omega) (by omega) (by omega) (by omega)
  have q2 := prod_bound (a := x.sum) (b := x.sum) (A := 32000) (B := 32000) (by omega) (by omega) (by omega) (by omega)
  unfold selfP
  omega
theorem nm_product {x : List Int} (hx : Win x) : Gives (fun k => T_normal_product k x x) (fun r => r = selfP x) := by
  have x2 := hx.hi
  obtain ⟨p1, p2, p3, p4, p5, p6⟩ := selfP_bound hx
  refine Gives.step ?_
  simp only [T_normal_product]
  refine Gives.bind (Q := fun r => r.1 = (sqs x).sum ∧ r.2.1 = x.sum ∧ r.2.2 = x.sum) ?_ fun r hr => ?_
  · refine Gives.loop (fun s => 0 ≤ s.2.2.2 ∧ s.2.2.2 ≤ (x.length : Int) ∧ s.1 = psum (sqs x) s.2.2.2 ∧ s.2.1 = psum x s.2.2.2 ∧ s.2.2.1 = psum x s.2.2.2) (fun s => ((x.length : Int) - s.2.2.2).toNat) ?_ ⟨by simp only []; omega, by simp only []; omega, (psum_zero _).symm, (psum_zero _).symm, (psum_zero _).symm⟩
    intro ⟨a, b, c, i⟩ ⟨i1, i2, i3, i4, i5⟩
    simp only at i1 i2 i3 i4 i5
    unfold T_normal_product_l1
    simp only []
    refine Gives.ite (fun cc => Gives.opt (at_rd i1 cc) (Gives.opt (at_rd i1 cc) ?_)) fun cc => Gives.now ?_
    · have e1 := psum_succ (x := sqs x) i1 (by rw [sqs_len]; exact cc)
      rw [rd_sqs i1 cc] at e1
      have e2 := psum_succ (x := x) i1 cc
      have b1 := psum_bound (sqs_bound hx.smp) i.toNat (by rw [sqs_len]; omega)
      rw [Int.toNat_of_nonneg i1] at b1
      have b2 := pc_bounds hx i1 (by omega)
      have hs := hx.smp.rd i
      have b3 := prod_bound (a := rd x i) (b := rd x i) (A := 1000) (B := 1000) hs.1 hs.2 hs.1 hs.2
      rw [w64_id (x := rd x i * rd x i) (by omega) (by omega), w64_id (x := a + rd x i * rd x i) (by omega) (by omega), w64_id (x := b + rd x i) (by omega) (by omega), w64_id (x := c + rd x i) (by omega) (by omega), w64_id (x := i + 1) (by omega) (by omega)]
      exact Gives.now ⟨⟨by simp only []; omega, by simp only []; omega, by simp only []; omega, by simp only []; omega, by simp only []; omega⟩, by simp only []; omega⟩
    · have : i = x.length := by omega
      subst this
      have e1 : psum (sqs x) (x.length : Int) = (sqs x).sum := by rw [← sqs_len x]; exact psum_all
      exact ⟨i3.trans e1, i4.trans psum_all, i5.trans psum_all⟩
  · obtain ⟨r1, r2, r3⟩ := hr
    rw [r1, r2, r3]
    have q1 := prod_bound (a := (x.length : Int)) (b := (sqs x).sum) (A := 32) (B := 32000000) (by omega) (by omega) (by omega) (by omega)
    have q2 := prod_bound (a := x.sum) (b := x.sum) (A := 32000) (B := 32000) (by omega) (by omega) (by omega) (by omega)
    rw [w64_id (x := (x.length : Int) * (sqs x).sum) (by omega) (by omega), w64_id (x := x.sum * x.sum) (by omega) (by omega), w64_id (by omega) (by omega)]
    exact Gives.now rfl
theorem nm_Product {x : List Int} (hx : Win x) : Gives (fun k => T_normal_Product k x x) (fun r => r.1 = selfP x ∧ r.2 = 0) := by
  refine Gives.step ?_
  simp only [T_normal_Product]
  exact Gives.bind (eu_distance hx hx rfl) fun e he => Gives.neg (by simp [he]) (Gives.bind (nm_product hx) fun v hv => Gives.now ⟨hv, rfl⟩)
theorem sqs_shift {x z : List Int} {c : Int} (hl : z.length = x.length) (h : ∀ q, 0 ≤ q → q < (x.length : Int) → rd z q = rd x q + c) : ∀ n : Nat, n ≤ x.length → psum (sqs z) n = psum (sqs x) n + 2 * (c * psum x n) + n * (c * c)
  | 0, _ => by simp [psum]
  | n + 1, hn => by
    have ih := sqs_shift hl h n (by omega)
    have e1 := psum_succ (x := sqs x) (i := (n : Int)) (by omega) (by rw [sqs_len]; omega)
    have e2 := psum_succ (x := sqs z) (i := (n : Int)) (by omega) (by rw [sqs_len]; omega)
    have e4 := psum_succ (x := x) (i := (n : Int)) (by omega) (by omega)
    have e3 := h n (by omega) (by omega)
    rw [rd_sqs (by omega) (by omega)] at e1 e2
    have : (((n + 1 : Nat)) : Int) = (n : Int) + 1 := by omega
    rw [this, e1, e2, e3, e4, ih, Int.add_mul (n : Int), Int.one_mul, Int.mul_add c, Int.add_mul, Int.mul_add, Int.mul_add, Int.mul_comm (rd x n) c]
    omega
theorem selfP_shift {x z : List Int} {c : Int} (hl : z.length = x.length) (h : ∀ q, 0 ≤ q → q < (x.length : Int) → rd z q = rd x q + c) : selfP z = selfP x := by
  have a := sqs_shift hl h x.length (Nat.le_refl _)
  have b := psum_shift hl h x.length (Nat.le_refl _)
  have e1 : psum (sqs x) (x.length : Int) = (sqs x).sum := by rw [← sqs_len x]; exact psum_all
  have e2 : psum (sqs z) (x.length : Int) = (sqs z).sum := by rw [← hl, ← sqs_len z]; exact psum_all
  have e3 : psum z (x.length : Int) = z.sum := by rw [← hl]; exact psum_all
  rw [e1, e2, psum_all] at a
  rw [e3, psum_all] at b
  unfold selfP
  rw [hl, a, b]
  generalize (x.length : Int) = L
  generalize x.sum = S
  generalize (sqs x).sum = Q
  have p1 : L * (Q + 2 * (c * S) + L * (c * c)) = L * Q + 2 * (L * (c * S)) + L * (L * (c * c)) := by
    rw [Int.mul_add, Int.mul_add, Int.mul_left_comm L 2]
  have p2 : (S + L * c) * (S + L * c) = S * S + 2 * (L * (c * S)) + L * (L * (c * c)) := by
    rw [Int.add_mul, Int.mul_add, Int.mul_add]
    have q1 : S * (L * c) = L * (c * S) := by rw [Int.mul_comm S, Int.mul_assoc]
    have q2 : L * c * S = L * (c * S) := Int.mul_assoc _ _ _
    have q3 : L * c * (L * c) = L * (L * (c * c)) := by rw [Int.mul_assoc, Int.mul_left_comm c L]
    rw [q1, q2, q3]; omega
  rw [p1, p2]; omega
theorem psum_scale {x z : List Int} {f : Int} (hl : z.length = x.length) (h : ∀ q, 0 ≤ q → q < (x.length : Int) → rd z q = rd x q * f) : ∀ n : Nat, n ≤ x.length → psum z n = psum x n * f
  | 0, _ => by simp [psum]
  | n + 1, hn => by
    have ih := psum_scale hl h n (by omega)
    have e1 := psum_succ (x := x) (i := (n : Int)) (by omega) (by omega)
    have e2 := psum_succ (x := z) (i := (n : Int)) (by omega) (by omega)
    have e3 := h n (by omega) (by omega)
    have : (((n + 1 : Nat)) : Int) = (n : Int) + 1 := by omega
    rw [this, e1, e2, e3, ih, Int.add_mul]
theorem selfP_scale {x z : List Int} {f : Int} (hl : z.length = x.length) (h : ∀ q, 0 ≤ q → q < (x.length : Int) → rd z q = rd x q * f) : selfP z = selfP x * f * f := by
  have a := psum_scale (x := sqs x) (z := sqs z) (f := f * f) (by rw [sqs_len, sqs_len, hl]) (fun q h1 h2 => by
    rw [sqs_len] at h2
    rw [rd_sqs h1 h2, rd_sqs h1 (by omega), h q h1 h2]
    rw [Int.mul_assoc, Int.mul_assoc, Int.mul_left_comm f]) x.length (by rw [sqs_len]; omega)
  have b := psum_scale hl h x.length (Nat.le_refl _)
  have e1 : psum (sqs x) (x.length : Int) = (sqs x).sum := by rw [← sqs_len x]; exact psum_all
  have e2 : psum (sqs z) (x.length : Int) = (sqs z).sum := by rw [← hl, ← sqs_len z]; exact psum_all
  have e3 : psum z (x.length : Int) = z.sum := by rw [← hl]; exact psum_all
  rw [e1, e2] at a
  rw [e3, psum_all] at b
  unfold selfP
  rw [hl, a, b]
  generalize (x.length : Int) = L
  generalize x.sum = S
  generalize (sqs x).sum = Q
  have e4 : S * f * (S * f) = S * S * (f * f) := by rw [Int.mul_assoc, Int.mul_left_comm f, ← Int.mul_assoc]
  rw [e4, Int.mul_assoc (L * Q - S * S) f f, Int.sub_mul, Int.mul_assoc L Q]

/-! Sums over the first places. -/
def sg (f : Int → Int) : Nat → Int
  | 0 => 0
  | n + 1 => sg f n + f n
theorem sg_congr {f g : Int → Int} : ∀ {n : Nat}, (∀ i : Int, 0 ≤ i → i < n → f i = g i) → sg f n = sg g n
  | 0, _ => rfl
  | n + 1, h => by
    rw [sg, sg, sg_congr (n := n) fun i h1 h2 => h i h1 (by omega), h n (by omega) (by omega)]
theorem sg_psum {x : List Int} : ∀ {n : Nat}, n ≤ x.length → sg (rd x) n = psum x n
  | 0, _ => by simp [sg, psum]
  | n + 1, h => by
    have e := psum_succ (x := x) (i := (n : Int)) (by omega) (by omega)
    have : (((n + 1 : Nat)) : Int) = (n : Int) + 1 := by omega
    rw [sg, sg_psum (n := n) (by omega), this, e]
theorem sg_bound {f : Int → Int} {B : Int} : ∀ {n : Nat}, (∀ i : Int, 0 ≤ i → i < n → -B ≤ f i ∧ f i ≤ B) → -(B * n) ≤ sg f n ∧ sg f n ≤ B * n
  | 0, _ => by simp [sg]
  | n + 1, h => by
    have ih := sg_bound (n := n) fun i h1 h2 => h i h1 (by omega)
    have hb := h n (by omega) (by omega)
    have : (((n + 1 : Nat)) : Int) = (n : Int) + 1 := by omega
    rw [sg, this, Int.mul_add, Int.mul_one]
    omega
theorem sg_nonneg {f : Int → Int} : ∀ {n : Nat}, (∀ i : Int, 0 ≤ i → i < n → 0 ≤ f i) → 0 ≤ sg f n
  | 0, _ => by simp [sg]
  | n + 1, h => by
    have ih := sg_nonneg (n := n) fun i h1 h2 => h i h1 (by omega)
    have hb := h n (by omega) (by omega)
    rw [sg]; omega
theorem sg_cent (a b : Int → Int) (L S T : Int) : ∀ n : Nat, sg (fun i => (L * a i - S) * (L * b i - T)) n = L * L * sg (fun i => a i * b i) n - L * T * sg a n - L * S * sg b n + n * (S * T)
  | 0 => by simp [sg]
  | n + 1 => by
    have ih := sg_cent a b L S T n
    have : (((n + 1 : Nat)) : Int) = (n : Int) + 1 := by omega
    rw [sg, sg, sg, sg, ih, this]
    grind
theorem sg_quad (u v : Int → Int) (A B : Int) : ∀ n : Nat, sg (fun i => (A * v i - B * u i) * (A * v i - B * u i)) n = A * A * sg (fun i => v i * v i) n - 2 * (A * B * sg (fun i => u i * v i) n) + B * B * sg (fun i => u i * u i) n
  | 0 => by simp [sg]
  | n + 1 => by
    have ih := sg_quad u v A B n
    rw [sg, sg, sg, sg, ih]
    grind
theorem sq_nonneg (a : Int) : 0 ≤ a * a := by
  rcases Int.le_total 0 a with h | h
  · exact Int.mul_nonneg h h
  · exact Int.mul_nonneg_of_nonpos_of_nonpos h h
/-- The inequality of Cauchy and Schwarz. -/
theorem sg_cs (u v : Int → Int) (n : Nat) : sg (fun i => u i * v i) n * sg (fun i => u i * v i) n ≤ sg (fun i => u i * u i) n * sg (fun i => v i * v i) n := by
  obtain ⟨A, hA⟩ : ∃ A, A = sg (fun i => u i * u i) n := ⟨_, rfl⟩
  obtain ⟨B, hB⟩ : ∃ B, B = sg (fun i => u i * v i) n := ⟨_, rfl⟩
  obtain ⟨C, hC⟩ : ∃ C, C = sg (fun i => v i * v i) n := ⟨_, rfl⟩
  rw [← hA, ← hB, ← hC]
  have hA0 : 0 ≤ A := by rw [hA]; exact sg_nonneg fun i _ _ => sq_nonneg _
  have hC0 : 0 ≤ C := by rw [hC]; exact sg_nonneg fun i _ _ => sq_nonneg _
  have q : ∀ s t : Int, 0 ≤ s * s * C - 2 * (s * t * B) + t * t * A := fun s t => by
    rw [hA, hB, hC, ← sg_quad u v s t n]
    exact sg_nonneg fun i _ _ => sq_nonneg _
  have q1 := q A B
  have q2 := q B C
  have q3 := q 1 1
  have q4 := q 1 (-1)
  have e1 : A * A * C - 2 * (A * B * B) + B * B * A = A * (A * C - B * B) := by grind
  have e2 : B * B * C - 2 * (B * C * B) + C * C * A = C * (A * C - B * B) := by grind
  rw [e1] at q1
  rw [e2] at q2
  by_cases h1 : 0 < A
  · have := Int.nonneg_of_mul_nonneg_right q1 h1
    omega
  · by_cases h2 : 0 < C
    · have := Int.nonneg_of_mul_nonneg_right q2 h2
      omega
    · have a0 : A = 0 := by omega
      have c0 : C = 0 := by omega
      subst a0 c0
      have : B = 0 := by omega
      subst this
      simp
/-! What two windows' product is. -/
def prodP (x y : List Int) : Int := (x.length : Int) * sg (fun i => rd x i * rd y i) x.length - x.sum * y.sum
theorem cent_sum {x y : List Int} (hl : x.length = y.length) : sg (fun i => ((x.length : Int) * rd x i - x.sum) * ((x.length : Int) * rd y i - y.sum)) x.length = (x.length : Int) * prodP x y := by
  have e1 : sg (rd x) x.length = x.sum := by rw [sg_psum (Nat.le_refl _)]; exact psum_all
  have e2 : sg (rd y) x.length = y.sum := by rw [hl, sg_psum (Nat.le_refl _)]; exact psum_all
  rw [sg_cent, e1, e2]
  unfold prodP
  grind
theorem prodP_nonneg {x : List Int} (h : 0 < x.length) : 0 ≤ prodP x x := by
  have e := cent_sum (x := x) (y := x) rfl
  have : 0 ≤ (x.length : Int) * prodP x x := by rw [← e]; exact sg_nonneg fun i _ _ => sq_nonneg _
  exact Int.nonneg_of_mul_nonneg_right this (by omega)
theorem prodP_cs {x y : List Int} (hl : x.length = y.length) (h : 0 < x.length) : prodP x y * prodP x y ≤ prodP x x * prodP y y := by
  have c := sg_cs (fun i => (x.length : Int) * rd x i - x.sum) (fun i => (x.length : Int) * rd y i - y.sum) x.length
  have e1 := cent_sum (x := x) (y := x) rfl
  have e2 := cent_sum hl
  have e3 := cent_sum (x := y) (y := y) rfl
  rw [← hl] at e3
  rw [e1, e2, e3] at c
  generalize prodP x y = p at c ⊢
  generalize prodP x x = q at c ⊢
  generalize prodP y y = r at c ⊢
  have hL : 0 < (x.length : Int) := by omega
  generalize (x.length : Int) = L at c hL
  have : 0 ≤ L * (L * (q * r - p * p)) := by
    have : L * (L * (q * r - p * p)) = L * q * (L * r) - L * p * (L * p) := by grind
    omega
  have := Int.nonneg_of_mul_nonneg_right (Int.nonneg_of_mul_nonneg_right this hL) hL
  omega
theorem selfP_prod {x : List Int} : selfP x = prodP x x := by
  have e : sg (fun i => rd x i * rd x i) x.length = (sqs x).sum := by
    rw [← psum_all (x := sqs x), sqs_len, ← sg_psum (by rw [sqs_len]; exact Nat.le_refl _)]
    exact sg_congr fun i h1 h2 => (rd_sqs h1 h2).symm
  unfold selfP prodP
  rw [e]

/-! The lengths of pieces, and what they all divide. -/
theorem len_fin : ∀ m : Fin 33, ∀ n : Fin 9, ∀ p : Fin 8, 1 ≤ n.val → p.val < n.val → n.val ≤ m.val → ((p.val + 1) * m.val / n.val - p.val * m.val / n.val = m.val / n.val ∨ (p.val + 1) * m.val / n.val - p.val * m.val / n.val = m.val / n.val + 1) := by decide +kernel
/-- What all lengths of pieces divide. -/
def mm (m n : Nat) : Nat := (m / n) * (m / n + 1)
/-- How often a piece's length goes into it. -/
def wt (m n : Nat) (p : Int) : Nat := mm m n / (cut m n (p + 1) - cut m n p).toNat
theorem wt_ok {m n : Nat} {p : Int} (hm : m ≤ 32) (hn : 1 ≤ n) (hn2 : n ≤ 8) (hn3 : n ≤ m) (h0 : 0 ≤ p) (h1 : p < (n : Int)) :
    (cut m n (p + 1) - cut m n p).toNat * wt m n p = mm m n ∧ wt m n p ≤ 33 ∧ 1 ≤ cut m n (p + 1) - cut m n p ∧ cut m n (p + 1) - cut m n p ≤ 32 ∧ 0 < mm m n ∧ mm m n ≤ 1056 := by
  obtain ⟨q, rfl⟩ : ∃ q : Nat, p = q := ⟨p.toNat, by omega⟩
  have dl : cut m n ((q : Int) + 1) - cut m n (q : Int) ≤ 32 := by
    have a := cut_range (m := m) (n := n) (p := (q : Int) + 1) (by omega) (by omega) (by omega) (by omega)
    have b := cut_range (m := m) (n := n) (p := (q : Int)) (by omega) (by omega) (by omega) (by omega)
    omega
  have f := len_fin ⟨m, by omega⟩ ⟨n, by omega⟩ ⟨q, by omega⟩ hn (by simp only []; omega) hn3
  simp only [] at f
  have e1 : cut (m : Int) n ((q : Int) + 1) = (((q + 1) * m / n : Nat) : Int) := by
    unfold cut
    have : ((q : Int) + 1) * m = (((q + 1) * m : Nat) : Int) := by simp
    rw [this]; rfl
  have e2 : cut (m : Int) n (q : Int) = ((q * m / n : Nat) : Int) := by
    unfold cut
    have : (q : Int) * m = ((q * m : Nat) : Int) := by simp
    rw [this]; rfl
  have d0 : 1 ≤ m / n := Nat.div_pos hn3 hn
  have d1 : m / n ≤ 32 := Nat.le_trans (Nat.div_le_self _ _) hm
  have mono : q * m / n ≤ (q + 1) * m / n := Nat.div_le_div_right (Nat.mul_le_mul_right m (by omega))
  unfold wt mm
  rw [e1, e2] at dl ⊢
  generalize (q + 1) * m / n = c1 at f mono dl ⊢
  generalize q * m / n = c0 at f mono dl ⊢
  generalize m / n = a at f d0 d1 ⊢
  have el : ((c1 : Int) - (c0 : Int)).toNat = c1 - c0 := by omega
  rw [el]
  have hb : a * (a + 1) ≤ 32 * 33 := Nat.mul_le_mul d1 (by omega)
  have hb0 : 0 < a * (a + 1) := Nat.mul_pos d0 (by omega)
  rcases f with f | f
  · rw [f, Nat.mul_div_cancel_left _ d0]
    refine ⟨rfl, by omega, by omega, by omega, hb0, by omega⟩
  · rw [f, Nat.mul_comm a (a + 1), Nat.mul_div_cancel_left _ (by omega)]
    refine ⟨rfl, by omega, by omega, by omega, by rw [Nat.mul_comm]; exact hb0, by rw [Nat.mul_comm]; omega⟩
/-- The sum of squares, each as often as its piece goes into what all divide. -/
def TT (d : Int → Int) (w : Int → Nat) : Nat → Nat
  | 0 => 0
  | n + 1 => TT d w n + (d n * d n).toNat * w n
theorem TT_congr {d d' : Int → Int} {w : Int → Nat} : ∀ {n : Nat}, (∀ p : Int, 0 ≤ p → p < n → d p * d p = d' p * d' p) → TT d w n = TT d' w n
  | 0, _ => rfl
  | n + 1, h => by rw [TT, TT, TT_congr (n := n) fun p h1 h2 => h p h1 (by omega), h n (by omega) (by omega)]
theorem TT_bound {d : Int → Int} {w : Int → Nat} : ∀ {n : Nat}, (∀ p : Int, 0 ≤ p → p < n → -6300000 ≤ d p ∧ d p ≤ 6300000 ∧ w p ≤ 33) → TT d w n ≤ 1309770000000000 * n
  | 0, _ => by simp [TT]
  | n + 1, h => by
    have ih := TT_bound (n := n) fun p h1 h2 => h p h1 (by omega)
    obtain ⟨h1, h2, h3⟩ := h n (by omega) (by omega)
    have b := prod_bound (a := d n) (b := d n) (A := 6300000) (B := 6300000) h1 h2 h1 h2
    have : (d n * d n).toNat * w n ≤ 39690000000000 * 33 := Nat.mul_le_mul (by omega) h3
    rw [TT]; omega

/-! What the sums of pieces leave of a product. -/
/-- The sum over a piece. -/
def dP (f : Int → Int) (m n p : Int) : Int := sg f (cut m n (p + 1)).toNat - sg f (cut m n p).toNat
/-- What is left of the product of two, by the least common length. -/
def bl (f g : Int → Int) (m n : Nat) : Int := mm m n * sg (fun i => f i * g i) m - sg (fun p => dP f m n p * dP g m n p * wt m n p) n
theorem sg_lin (u v : Int → Int) (A B : Int) : ∀ n : Nat, sg (fun i => A * v i - B * u i) n = A * sg v n - B * sg u n
  | 0 => by simp [sg]
  | n + 1 => by
    have ih := sg_lin u v A B n
    rw [sg, sg, sg, ih]
    grind
theorem sg_quadw (u v : Int → Int) (w : Int → Nat) (A B : Int) : ∀ n : Nat, sg (fun i => (A * v i - B * u i) * (A * v i - B * u i) * w i) n = A * A * sg (fun i => v i * v i * w i) n - 2 * (A * B * sg (fun i => u i * v i * w i) n) + B * B * sg (fun i => u i * u i * w i) n
  | 0 => by simp [sg]
  | n + 1 => by
    have ih := sg_quadw u v w A B n
    rw [sg, sg, sg, sg, ih]
    grind
theorem bl_quad (f g : Int → Int) (A B : Int) (m n : Nat) : bl (fun i => A * g i - B * f i) (fun i => A * g i - B * f i) m n = A * A * bl g g m n - 2 * (A * B * bl f g m n) + B * B * bl f f m n := by
  have e : ∀ p : Int, dP (fun i => A * g i - B * f i) m n p = A * dP g m n p - B * dP f m n p := fun p => by
    unfold dP
    rw [sg_lin, sg_lin]
    grind
  have e2 : sg (fun p => dP (fun i => A * g i - B * f i) m n p * dP (fun i => A * g i - B * f i) m n p * wt m n p) n = sg (fun p => (A * dP g m n p - B * dP f m n p) * (A * dP g m n p - B * dP f m n p) * wt m n p) n := sg_congr fun p _ _ => by rw [e p]
  have e3 : sg (fun i => (A * g i - B * f i) * (A * g i - B * f i)) m = A * A * sg (fun i => g i * g i) m - 2 * (A * B * sg (fun i => f i * g i) m) + B * B * sg (fun i => f i * f i) m := sg_quad f g A B m
  have e4 := sg_quadw (fun p => dP f m n p) (fun p => dP g m n p) (wt m n) A B n
  unfold bl
  rw [e2, e3, e4]
  grind
theorem quads (f : Int → Int) (a : Nat) (c e : Int) : ∀ j : Nat, 0 ≤ c * c * (sg (fun i => f i * f i) (a + j) - sg (fun i => f i * f i) a) - 2 * (c * e * (sg f (a + j) - sg f a)) + j * (e * e)
  | 0 => by simp
  | j + 1 => by
    have ih := quads f a c e j
    have p := sq_nonneg (c * f ((a + j : Nat) : Int) - e)
    rw [show a + (j + 1) = a + j + 1 by omega, sg, sg]
    generalize f ((a + j : Nat) : Int) = v at p ⊢
    generalize sg f (a + j) = s at ih ⊢
    generalize sg (fun i => f i * f i) (a + j) = q at ih ⊢
    generalize sg f a = s0 at ih ⊢
    generalize sg (fun i => f i * f i) a = q0 at ih ⊢
    have : c * c * (q + v * v - q0) - 2 * (c * e * (s + v - s0)) + ((j + 1 : Nat) : Int) * (e * e) = (c * c * (q - q0) - 2 * (c * e * (s - s0)) + j * (e * e)) + (c * v - e) * (c * v - e) := by
      have : ((j + 1 : Nat) : Int) = (j : Int) + 1 := by omega
      rw [this]
      grind
    rw [this]
    omega
theorem cauchys (f : Int → Int) (a j : Nat) : (sg f (a + j) - sg f a) * (sg f (a + j) - sg f a) ≤ j * (sg (fun i => f i * f i) (a + j) - sg (fun i => f i * f i) a) := by
  rcases Nat.eq_zero_or_pos j with hj | hj
  · subst hj; simp
  have := quads f a j (sg f (a + j) - sg f a) j
  generalize sg f (a + j) - sg f a = s at this ⊢
  generalize sg (fun i => f i * f i) (a + j) - sg (fun i => f i * f i) a = q at this ⊢
  have e : (j : Int) * j * q - 2 * (j * s * s) + j * (s * s) = j * (j * q - s * s) := by grind
  rw [e] at this
  have := Int.nonneg_of_mul_nonneg_right this (show (0 : Int) < j by omega)
  omega
theorem pw_eq {m n : Nat} {p : Int} (hm : m ≤ 32) (hn : 1 ≤ n) (hn2 : n ≤ 8) (hn3 : n ≤ m) (h0 : 0 ≤ p) (h1 : p < (n : Int)) : (cut m n (p + 1) - cut m n p) * (wt m n p : Int) = mm m n := by
  have w := wt_ok hm hn hn2 hn3 h0 h1
  rw [← w.1, Int.natCast_mul, Int.toNat_of_nonneg (by omega)]
theorem bl_part (f : Int → Int) {m n : Nat} (hm : m ≤ 32) (hn : 1 ≤ n) (hn2 : n ≤ 8) (hn3 : n ≤ m) : ∀ p : Nat, p ≤ n → sg (fun p => dP f m n p * dP f m n p * wt m n p) p ≤ mm m n * sg (fun i => f i * f i) (cut m n p).toNat
  | 0, _ => by simp [sg, cut]
  | p + 1, h => by
    have ih := bl_part f hm hn hn2 hn3 p (by omega)
    have k1 := cut_range (m := (m : Int)) (n := (n : Int)) (p := (p : Int)) (by omega) (by omega) (by omega) (by omega)
    have k2 := cut_range (m := (m : Int)) (n := (n : Int)) (p := (p : Int) + 1) (by omega) (by omega) (by omega) (by omega)
    have k3 := cut_mono (m := (m : Int)) (n := (n : Int)) (p := (p : Int)) (q := (p : Int) + 1) (by omega) (by omega) (by omega)
    have w := pw_eq (p := (p : Int)) hm hn hn2 hn3 (by omega) (by omega)
    have c := cauchys f (cut m n p).toNat ((cut m n ((p : Int) + 1)).toNat - (cut m n p).toNat)
    rw [Nat.add_sub_cancel' (by omega), show (((cut m n ((p : Int) + 1)).toNat - (cut m n p).toNat : Nat) : Int) = cut m n ((p : Int) + 1) - cut m n p by omega] at c
    have c2 := Int.mul_le_mul_of_nonneg_right c (show (0 : Int) ≤ (wt m n p : Int) by omega)
    rw [sg, show ((p + 1 : Nat) : Int) = (p : Int) + 1 by omega]
    show _ + dP f m n p * dP f m n p * wt m n p ≤ _
    unfold dP at ih ⊢
    have e : ∀ l t q : Int, l * t = mm m n → l * q * t = mm m n * q := fun l t q h => by rw [← h]; grind
    rw [e _ _ _ w, Int.mul_sub ((mm m n : Nat) : Int)] at c2
    omega
theorem bl_nonneg (f : Int → Int) {m n : Nat} (hm : m ≤ 32) (hn : 1 ≤ n) (hn2 : n ≤ 8) (hn3 : n ≤ m) : 0 ≤ bl f f m n := by
  have h := bl_part f hm hn hn2 hn3 n (by omega)
  rw [cut_last (by omega), Int.toNat_natCast] at h
  unfold bl
  omega
theorem bl_cs (f g : Int → Int) {m n : Nat} (hm : m ≤ 32) (hn : 1 ≤ n) (hn2 : n ≤ 8) (hn3 : n ≤ m) : bl f g m n * bl f g m n ≤ bl f f m n * bl g g m n := by
  have hA0 := bl_nonneg f hm hn hn2 hn3
  have hC0 := bl_nonneg g hm hn hn2 hn3
  have q : ∀ s t : Int, 0 ≤ s * s * bl g g m n - 2 * (s * t * bl f g m n) + t * t * bl f f m n := fun s t => by
    rw [← bl_quad f g s t m n]
    exact bl_nonneg _ hm hn hn2 hn3
  generalize bl f f m n = A at *
  generalize bl f g m n = B at *
  generalize bl g g m n = C at *
  have q1 := q A B
  have q2 := q B C
  have q3 := q 1 1
  have q4 := q 1 (-1)
  have e1 : A * A * C - 2 * (A * B * B) + B * B * A = A * (A * C - B * B) := by grind
  have e2 : B * B * C - 2 * (B * C * B) + C * C * A = C * (A * C - B * B) := by grind
  rw [e1] at q1
  rw [e2] at q2
  by_cases h1 : 0 < A
  · have := Int.nonneg_of_mul_nonneg_right q1 h1
    omega
  · by_cases h2 : 0 < C
    · have := Int.nonneg_of_mul_nonneg_right q2 h2
      omega
    · have a0 : A = 0 := by omega
      have c0 : C = 0 := by omega
      subst a0 c0
      have : B = 0 := by omega
      subst this
      simp
theorem sq_le {a b : Int} (hb : 0 ≤ b) (h : a * a ≤ b * b) : a ≤ b := by
  refine Decidable.byContradiction fun hn => ?_
  have := Int.mul_le_mul (a := b + 1) (b := b + 1) (c := a) (d := a) (by omega) (by omega) (by omega) (by omega)
  have e : (b + 1) * (b + 1) = b * b + b + b + 1 := by grind
  omega
theorem sg_le {f g : Int → Int} : ∀ {n : Nat}, (∀ i : Int, 0 ≤ i → i < n → f i ≤ g i) → sg f n ≤ sg g n
  | 0, _ => by simp [sg]
  | n + 1, h => by
    have ih := sg_le (n := n) fun i h1 h2 => h i h1 (by omega)
    have hb := h n (by omega) (by omega)
    rw [sg, sg]; omega
theorem sg_mul (f : Int → Int) (c : Int) : ∀ n : Nat, sg (fun i => c * f i) n = c * sg f n
  | 0 => by simp [sg]
  | n + 1 => by
    have ih := sg_mul f c n
    rw [sg, sg, ih]
    grind
theorem kn_part (h : Int → Int) {m n : Nat} (hm : m ≤ 32) (hn : 1 ≤ n) (hn2 : n ≤ 8) (hn3 : n ≤ m) : mm m n * sg (fun p => (dP h m n p * dP h m n p) / (cut m n (p + 1) - cut m n p)) n ≤ sg (fun p => dP h m n p * dP h m n p * wt m n p) n := by
  rw [← sg_mul]
  refine sg_le fun p p0 p1 => ?_
  have o := wt_ok hm hn hn2 hn3 p0 p1
  have w := pw_eq hm hn hn2 hn3 p0 p1
  generalize cut m n (p + 1) - cut m n p = l at o w ⊢
  generalize dP h m n p * dP h m n p = v
  have d := Int.mul_ediv_self_le (x := v) (k := l) (by omega)
  have := Int.mul_le_mul_of_nonneg_right d (show (0 : Int) ≤ (wt m n p : Int) by omega)
  have e : l * (v / l) * (wt m n p : Int) = l * (wt m n p : Int) * (v / l) := by grind
  rw [e, w] at this
  exact this
theorem kn_le (f : Int → Int) {m n : Nat} (hm : m ≤ 32) (hn : 1 ≤ n) (hn2 : n ≤ 8) (hn3 : n ≤ m) : sg (fun p => (dP f m n p * dP f m n p) / (cut m n (p + 1) - cut m n p)) n ≤ sg (fun i => f i * f i) m := by
  have M0 := (wt_ok (p := 0) hm hn hn2 hn3 (by omega) (by omega)).2.2.2.2.1
  have k := kn_part f hm hn hn2 hn3
  have b := bl_nonneg f hm hn hn2 hn3
  unfold bl at b
  exact Int.le_of_mul_le_mul_left (a := (mm m n : Int)) (by omega) (by omega)
theorem kn_nonneg (f : Int → Int) {m n : Nat} (hm : m ≤ 32) (hn : 1 ≤ n) (hn2 : n ≤ 8) (hn3 : n ≤ m) : 0 ≤ sg (fun p => (dP f m n p * dP f m n p) / (cut m n (p + 1) - cut m n p)) n :=
  sg_nonneg fun p p0 p1 => by
    have o := wt_ok hm hn hn2 hn3 p0 p1
    exact Int.ediv_nonneg (sq_nonneg _) (by omega)
theorem sg_neg (f : Int → Int) : ∀ n : Nat, sg (fun i => -f i) n = -sg f n
  | 0 => by simp [sg]
  | n + 1 => by
    have ih := sg_neg f n
    rw [sg, sg, ih]
    omega
theorem sg_add (f g : Int → Int) : ∀ n : Nat, sg (fun i => f i + g i) n = sg f n + sg g n
  | 0 => by simp [sg]
  | n + 1 => by
    have ih := sg_add f g n
    rw [sg, sg, sg, ih]
    omega
theorem sg_const (c : Int) : ∀ n : Nat, sg (fun _ => c) n = n * c
  | 0 => by simp [sg]
  | n + 1 => by
    have ih := sg_const c n
    have : ((n + 1 : Nat) : Int) = (n : Int) + 1 := by omega
    rw [sg, ih, this, Int.add_mul]
    omega
/-- The sums of pieces are not far away. -/
theorem up_bd (f g : Int → Int) {m n : Nat} (hm : m ≤ 32) (hn : 1 ≤ n) (hn2 : n ≤ 8) (hn3 : n ≤ m) :
    -(sg (fun i => f i * f i) m + sg (fun i => g i * g i) m) ≤ 2 * sg (fun p => -((-(dP f m n p * dP g m n p)) / (cut m n (p + 1) - cut m n p))) n ∧
    2 * sg (fun p => -((-(dP f m n p * dP g m n p)) / (cut m n (p + 1) - cut m n p))) n ≤ sg (fun i => f i * f i) m + sg (fun i => g i * g i) m + 16 := by
  have M0 := (wt_ok (p := 0) hm hn hn2 hn3 (by omega) (by omega)).2.2.2.2.1
  have bf := bl_nonneg f hm hn hn2 hn3
  have bg := bl_nonneg g hm hn hn2 hn3
  unfold bl at bf bg
  have each : ∀ p : Int, 0 ≤ p → p < n → 2 * (mm m n * -((-(dP f m n p * dP g m n p)) / (cut m n (p + 1) - cut m n p))) ≤ dP f m n p * dP f m n p * wt m n p + dP g m n p * dP g m n p * wt m n p + 2 * mm m n ∧
      -(dP f m n p * dP f m n p * wt m n p + dP g m n p * dP g m n p * wt m n p) ≤ 2 * (mm m n * -((-(dP f m n p * dP g m n p)) / (cut m n (p + 1) - cut m n p))) := by
    intro p p0 p1
    have o := wt_ok hm hn hn2 hn3 p0 p1
    have w := pw_eq hm hn hn2 hn3 p0 p1
    generalize cut m n (p + 1) - cut m n p = l at o w ⊢
    generalize dP f m n p = s
    generalize dP g m n p = t
    have d := Int.mul_ediv_self_le (x := -(s * t)) (k := l) (by omega)
    have d2 := Int.lt_mul_ediv_self_add (x := -(s * t)) (k := l) (by omega)
    generalize -(s * t) / l = c at d d2 ⊢
    have w0 : (0 : Int) ≤ (wt m n p : Int) := by omega
    generalize (wt m n p : Int) = u at w w0 ⊢
    have f1 := Int.mul_le_mul_of_nonneg_right d w0
    have f2 := Int.mul_le_mul_of_nonneg_right (Int.le_of_lt d2) w0
    have q1 := Int.mul_nonneg (sq_nonneg (s - t)) w0
    have q2 := Int.mul_nonneg (sq_nonneg (s + t)) w0
    have e1 : (s - t) * (s - t) * u = s * s * u + t * t * u - 2 * (s * t * u) := by grind
    have e2 : (s + t) * (s + t) * u = s * s * u + t * t * u + 2 * (s * t * u) := by grind
    have e3 : l * c * u = l * u * c := by grind
    have e4 : (l * c + l) * u = l * u * c + l * u := by grind
    rw [e3, w, Int.neg_mul] at f1
    rw [e4, w, Int.neg_mul] at f2
    rw [Int.mul_neg]
    omega
  have s1 := sg_le (n := n) fun p p0 p1 => (each p p0 p1).1
  have s2 := sg_le (n := n) fun p p0 p1 => (each p p0 p1).2
  rw [sg_mul, sg_mul, sg_add, sg_add, sg_const] at s1
  rw [sg_neg (fun p => dP f m n p * dP f m n p * wt m n p + dP g m n p * dP g m n p * wt m n p), sg_mul, sg_mul, sg_add] at s2
  generalize sg (fun p => -((-(dP f m n p * dP g m n p)) / (cut m n (p + 1) - cut m n p))) n = U at *
  generalize sg (fun i => f i * f i) m = F at *
  generalize sg (fun i => g i * g i) m = G at *
  have M1 : (0 : Int) < mm m n := by omega
  have k : (n : Int) * (2 * mm m n) ≤ 8 * (2 * mm m n) := Int.mul_le_mul_of_nonneg_right (by omega) (by omega)
  generalize (mm m n : Int) = M at *
  have r1 : M * (2 * U) ≤ M * (F + G + 16) := by
    have : M * (2 * U) = 2 * (M * U) := by grind
    have : M * (F + G + 16) = M * F + M * G + 16 * M := by grind
    omega
  have r2 : M * (-(F + G)) ≤ M * (2 * U) := by
    have : M * (2 * U) = 2 * (M * U) := by grind
    have : M * (-(F + G)) = -(M * F) - M * G := by grind
    omega
  exact ⟨Int.le_of_mul_le_mul_left r2 M1, Int.le_of_mul_le_mul_left r1 M1⟩
/-- The bound holds: the sums of pieces, rounded, and the roots of what is left, rounded up, are at least the product. -/
theorem up_ge {f g : Int → Int} {m n : Nat} (hm : m ≤ 32) (hn : 1 ≤ n) (hn2 : n ≤ 8) (hn3 : n ≤ m) {ra rb : Int} (a0 : 0 ≤ ra) (b0 : 0 ≤ rb)
    (ha : sg (fun i => f i * f i) m - sg (fun p => (dP f m n p * dP f m n p) / (cut m n (p + 1) - cut m n p)) n ≤ ra * ra)
    (hb : sg (fun i => g i * g i) m - sg (fun p => (dP g m n p * dP g m n p) / (cut m n (p + 1) - cut m n p)) n ≤ rb * rb) :
    sg (fun i => f i * g i) m ≤ sg (fun p => -((-(dP f m n p * dP g m n p)) / (cut m n (p + 1) - cut m n p))) n + ra * rb := by
  have M0 := (wt_ok (p := 0) hm hn hn2 hn3 (by omega) (by omega)).2.2.2.2.1
  have ceil : sg (fun p => dP f m n p * dP g m n p * wt m n p) n ≤ mm m n * sg (fun p => -((-(dP f m n p * dP g m n p)) / (cut m n (p + 1) - cut m n p))) n := by
    rw [← sg_mul]
    refine sg_le fun p p0 p1 => ?_
    have o := wt_ok hm hn hn2 hn3 p0 p1
    have w := pw_eq hm hn hn2 hn3 p0 p1
    generalize cut m n (p + 1) - cut m n p = l at o w ⊢
    generalize dP f m n p * dP g m n p = v
    have d := Int.mul_ediv_self_le (x := -v) (k := l) (by omega)
    have := Int.mul_le_mul_of_nonneg_right d (show (0 : Int) ≤ (wt m n p : Int) by omega)
    have e : l * (-v / l) * (wt m n p : Int) = l * (wt m n p : Int) * (-v / l) := by grind
    rw [e, w, Int.neg_mul] at this
    rw [Int.mul_neg]
    omega
  have cs := bl_cs f g hm hn hn2 hn3
  have kf := kn_part f hm hn hn2 hn3
  have kg := kn_part g hm hn hn2 hn3
  have M1 : (0 : Int) < mm m n := by omega
  have bf : bl f f m n ≤ mm m n * (ra * ra) := by
    have := Int.mul_le_mul_of_nonneg_left ha (show (0 : Int) ≤ mm m n by omega)
    rw [Int.mul_sub] at this
    unfold bl; omega
  have bg : bl g g m n ≤ mm m n * (rb * rb) := by
    have := Int.mul_le_mul_of_nonneg_left hb (show (0 : Int) ≤ mm m n by omega)
    rw [Int.mul_sub] at this
    unfold bl; omega
  have top : bl f g m n ≤ mm m n * (ra * rb) := by
    refine sq_le (Int.mul_nonneg (by omega) (Int.mul_nonneg a0 b0)) (Int.le_trans cs ?_)
    have := Int.mul_le_mul bf bg (bl_nonneg g hm hn hn2 hn3) (Int.mul_nonneg (by omega) (sq_nonneg _))
    have e : (mm m n : Int) * (ra * ra) * (mm m n * (rb * rb)) = mm m n * (ra * rb) * (mm m n * (ra * rb)) := by grind
    omega
  have fin : (mm m n : Int) * sg (fun i => f i * g i) m ≤ mm m n * (sg (fun p => -((-(dP f m n p * dP g m n p)) / (cut m n (p + 1) - cut m n p))) n + ra * rb) := by
    rw [Int.mul_add]
    unfold bl at top
    omega
  exact Int.le_of_mul_le_mul_left fin M1

/-! Roots of small numbers. -/
theorem rt_floor {v : Int} (h0 : 0 ≤ v) (h1 : v ≤ 68719476736) : Gives (fun k => T_root_Floor k v) (fun r => 0 ≤ r ∧ r ≤ 262144 ∧ r * r ≤ v ∧ v < (r + 1) * (r + 1)) := by
  have small : ∀ r : Int, 0 ≤ r → r * r ≤ v → r ≤ 262144 := fun r r0 r1 => by
    refine Decidable.byContradiction fun hn => ?_
    have := Int.mul_le_mul (a := 262145) (b := 262145) (c := r) (d := r) (by omega) (by omega) (by omega) (by omega)
    omega
  refine Gives.step ?_
  simp only [T_root_Floor]
  refine Gives.neg (by simp; omega) (Gives.bind (Q := fun r => 0 ≤ r ∧ r ≤ 262144 ∧ r * r ≤ v ∧ v < (r + 1) * (r + 1)) ?_ fun r hr => Gives.now hr)
  refine Gives.loop (fun s => ∃ k : Nat, s.2 = ((2 ^ k / 2 : Nat) : Int) ∧ k ≤ 32 ∧ 0 ≤ s.1 ∧ s.1 * s.1 ≤ v ∧ v < (s.1 + (2 ^ k : Nat)) * (s.1 + (2 ^ k : Nat))) (fun s => s.2.toNat) ?_ ⟨32, by decide, by omega, by simp only []; omega, by simp only []; omega, by simp only []; omega⟩
  intro ⟨r, b⟩ ⟨k, e, hk, r0, r1, r2⟩
  simp only at e r0 r1 r2
  have rs := small r r0 r1
  unfold T_root_Floor_l1
  simp only []
  cases k with
  | zero =>
    simp at e
    subst e
    refine Gives.neg (by omega) (Gives.now ⟨r0, rs, r1, by simpa using r2⟩)
  | succ k =>
    have p : 2 ^ (k + 1) = 2 * 2 ^ k := by rw [Nat.pow_succ, Nat.mul_comm]
    have p0 : 0 < 2 ^ k := Nat.pow_pos (by omega)
    have p1 : 2 ^ k ≤ 2 ^ 31 := Nat.pow_le_pow_right (by omega) (by omega)
    rw [p] at e r2
    obtain ⟨w, hw⟩ : ∃ w, 2 ^ k = w := ⟨_, rfl⟩
    rw [hw] at e r2 p0 p1
    have e2 : b = w := by rw [e]; omega
    subst e2
    have q := prod_bound (a := r + w) (b := r + w) (A := 2148000000) (B := 2148000000) (by omega) (by omega) (by omega) (by omega)
    rw [w64_id (x := r + w) (by omega) (by omega), w64_id (x := (r + w) * (r + w)) (by omega) (by omega)]
    refine Gives.pos (by omega) (Gives.ite (fun c => Gives.now ?_) fun c => ?_)
    · have : (r + w + 1) * (r + w + 1) = (r + w) * (r + w) + (r + w) + (r + w) + 1 := by grind
      exact ⟨by omega, small _ (by omega) (by omega), by omega, by omega⟩
    · have ed : (w : Int).fdiv (2 ^ 1) = ((w / 2 : Nat) : Int) := by
        rw [Int.fdiv_eq_ediv_of_nonneg _ (by omega)]; rfl
      rw [ed]
      refine Gives.bind (Q := fun t => 0 ≤ t ∧ t * t ≤ v ∧ v < (t + w) * (t + w)) ?_ fun t ht => Gives.now ?_
      · refine Gives.ite (fun c2 => Gives.now ⟨by omega, by omega, ?_⟩) fun c2 => Gives.now ⟨r0, r1, by omega⟩
        have : r + w + (w : Int) = r + ((2 * w : Nat) : Int) := by omega
        rw [this]; exact r2
      · refine ⟨⟨k, by rw [hw], by omega, ht.1, ht.2.1, by rw [hw]; exact ht.2.2⟩, ?_⟩
        simp only []
        omega
theorem rt_ceil {v : Int} (h0 : 0 ≤ v) (h1 : v ≤ 68719476736) : ∃ r : Int, Gives (fun k => T_root_Ceil k v) (fun x => x = r) ∧ 0 ≤ r ∧ r ≤ 262145 ∧ v ≤ r * r ∧ r * r ≤ v + 524289 := by
  have h : Gives (fun k => T_root_Ceil k v) (fun r => 0 ≤ r ∧ r ≤ 262145 ∧ v ≤ r * r ∧ r * r ≤ v + 524289) := by
    refine Gives.step ?_
    simp only [T_root_Ceil]
    refine Gives.bind (rt_floor h0 h1) fun r hr => Gives.bind (Q := fun r => 0 ≤ r ∧ r ≤ 262145 ∧ v ≤ r * r ∧ r * r ≤ v + 524289) ?_ fun r hr => Gives.now hr
    obtain ⟨r0, r1, r2, r3⟩ := hr
    have rr := sq_nonneg r
    have e : (r + 1) * (r + 1) = r * r + r + r + 1 := by grind
    rw [w64_id (x := r * r) (by omega) (by omega), w64_id (x := r + 1) (by omega) (by omega)]
    refine Gives.ite (fun c => Gives.now ⟨by omega, by omega, by omega, by omega⟩) fun c => Gives.now ⟨r0, by omega, ?_, by omega⟩
    simp at c
    by_cases z : 0 < v
    · have := c z (by omega); omega
    · omega
  obtain ⟨r, hr, hq⟩ := h
  exact ⟨r, ⟨r, hr, rfl⟩, hq⟩

theorem sk_of {x : List Int} {n : Int} (hx : Win x) (hn : 1 ≤ n) (hn2 : n ≤ 8) (hn3 : n ≤ (x.length : Int)) :
    Gives (fun k => T_sketch_Of k x n) (fun r => r.1 = x.length ∧ ((r.2.1.length : Int) = n ∧ ∀ p, 0 ≤ p → p < n → rd r.2.1 p = (x.length : Int) * (psum x (cut x.length n (p + 1)) - psum x (cut x.length n p)) - (cut x.length n (p + 1) - cut x.length n p) * x.sum) ∧ r.2.2.1 = (x.length : Int) * selfP x ∧ r.2.2.2 = 0) := by
  have x2 := hx.hi
  refine Gives.step ?_
  simp only [T_sketch_Of]
  refine Gives.bind (pc_centred hx hn hn2 hn3) fun a ha => Gives.neg (by simp [ha.1]) (Gives.bind (nm_Product hx) fun b hb => Gives.neg (by simp [hb.2]) ?_)
  obtain ⟨p1, p2, _⟩ := selfP_bound hx
  have q := prod_bound (a := (x.length : Int)) (b := selfP x) (A := 32) (B := 4000000000) (by omega) (by omega) (by omega) (by omega)
  rw [hb.1, w64_id (x := (x.length : Int) * selfP x) (by omega) (by omega)]
  exact Gives.now ⟨rfl, ha.2, rfl, rfl⟩

/-! Sketches with any number of pieces. -/
/-- The centred samples. -/
def cx (L : Int) (x : List Int) (i : Int) : Int := L * rd x i - x.sum
theorem sg_cx (L : Int) (x : List Int) : ∀ j : Nat, j ≤ x.length → sg (cx L x) j = L * psum x j - j * x.sum
  | 0, _ => by simp [sg, psum]
  | j + 1, h => by
    have ih := sg_cx L x j (by omega)
    have e := psum_succ (x := x) (i := (j : Int)) (by omega) (by omega)
    have : ((j + 1 : Nat) : Int) = (j : Int) + 1 := by omega
    rw [sg, ih, this, e]
    unfold cx
    grind
theorem cx_bound {L : Int} {x : List Int} (hx : Win x) (h0 : 0 ≤ L) (h1 : L ≤ 32) (i : Int) : -64000 ≤ cx L x i ∧ cx L x i ≤ 64000 := by
  have b := pc_bounds hx (i := x.length) (by omega) (by omega)
  rw [psum_all] at b
  have s := hx.smp.rd i
  have q := prod_bound (a := L) (b := rd x i) (A := 32) (B := 1000) (by omega) (by omega) (by omega) (by omega)
  unfold cx
  omega
theorem sg_gap (f : Int → Int) (B : Int) (h : ∀ i, -B ≤ f i ∧ f i ≤ B) (a : Nat) : ∀ j : Nat, -(B * j) ≤ sg f (a + j) - sg f a ∧ sg f (a + j) - sg f a ≤ B * j
  | 0 => by simp
  | j + 1 => by
    have ih := sg_gap f B h a j
    have b := h ((a + j : Nat) : Int)
    have : ((j + 1 : Nat) : Int) = (j : Int) + 1 := by omega
    rw [show a + (j + 1) = a + j + 1 by omega, sg, this, Int.mul_add]
    omega
/-- The sketch of a window. -/
structure Skn (x s : List Int) (E : Int) (n : Nat) : Prop where
  win : Win x
  n1 : 1 ≤ n
  n2 : n ≤ 8
  n3 : n ≤ x.length
  len : s.length = n
  val : ∀ p, 0 ≤ p → p < (n : Int) → rd s p = dP (cx x.length x) x.length n p
  en : E = (x.length : Int) * prodP x x
theorem skn_of {x : List Int} {n : Nat} (hx : Win x) (hn : 1 ≤ n) (hn2 : n ≤ 8) (hn3 : n ≤ x.length) : Gives (fun k => T_sketch_Of k x n) (fun r => r.1 = x.length ∧ Skn x r.2.1 r.2.2.1 n ∧ r.2.2.2 = 0) := by
  refine (sk_of hx (n := (n : Int)) (by omega) (by omega) (by omega)).mono fun r ⟨h1, ⟨h2, h3⟩, h4, h5⟩ => ⟨h1, ⟨hx, hn, hn2, hn3, by omega, fun p p0 p1 => ?_, ?_⟩, h5⟩
  · have k1 := cut_range (m := (x.length : Int)) (n := (n : Int)) (p := p) (by omega) (by omega) (by omega) (by omega)
    have k2 := cut_range (m := (x.length : Int)) (n := (n : Int)) (p := p + 1) (by omega) (by omega) (by omega) (by omega)
    rw [h3 p p0 p1]
    unfold dP
    rw [sg_cx _ _ _ (by omega), sg_cx _ _ _ (by omega), Int.toNat_of_nonneg k1.1, Int.toNat_of_nonneg k2.1]
    grind
  · rw [h4, selfP_prod]
theorem Skn.bd {x s : List Int} {E : Int} {n : Nat} (h : Skn x s E n) {p : Int} (h0 : 0 ≤ p) (h1 : p < (n : Int)) : -2048000 ≤ rd s p ∧ rd s p ≤ 2048000 := by
  have n1 := h.n1
  have x2 := h.win.hi
  have k1 := cut_range (m := (x.length : Int)) (n := (n : Int)) (p := p) (by omega) (by omega) (by omega) (by omega)
  have k2 := cut_range (m := (x.length : Int)) (n := (n : Int)) (p := p + 1) (by omega) (by omega) (by omega) (by omega)
  have k3 := cut_mono (m := (x.length : Int)) (n := (n : Int)) (p := p) (q := p + 1) (by omega) (by omega) (by omega)
  rw [h.val p h0 h1]
  have g := sg_gap (cx x.length x) 64000 (fun i => cx_bound h.win (by omega) (by omega) i) (cut x.length n p).toNat ((cut x.length n (p + 1)).toNat - (cut x.length n p).toNat)
  rw [Nat.add_sub_cancel' (by omega)] at g
  unfold dP
  omega
theorem Skn.cent {x y : List Int} (hl : x.length = y.length) : sg (fun i => cx x.length x i * cx x.length y i) x.length = (x.length : Int) * prodP x y := cent_sum hl
theorem prod_self {x : List Int} (h : Win x) : 0 ≤ prodP x x ∧ prodP x x ≤ (x.length : Int) * ((x.length : Int) * 1000000) ∧ prodP x x ≤ 1024000000 := by
  have lo := h.lo
  have hi := h.hi
  have p0 := prodP_nonneg (x := x) (by omega)
  have q : sg (fun i => rd x i * rd x i) x.length ≤ 1000000 * (x.length : Int) := (sg_bound (B := 1000000) fun i h1 h2 => by
    have a := h.smp.rd i
    have := prod_bound (a := rd x i) (b := rd x i) (A := 1000) (B := 1000) a.1 a.2 a.1 a.2
    omega).2
  have s0 := sq_nonneg x.sum
  have e : prodP x x ≤ (x.length : Int) * ((x.length : Int) * 1000000) := by
    have : prodP x x = (x.length : Int) * sg (fun i => rd x i * rd x i) x.length - x.sum * x.sum := rfl
    have m : (x.length : Int) * sg (fun i => rd x i * rd x i) x.length ≤ (x.length : Int) * (1000000 * (x.length : Int)) := Int.mul_le_mul_of_nonneg_left q (by omega)
    rw [this, Int.mul_comm (x.length : Int) 1000000]; omega
  have q2 := prod_bound (a := (x.length : Int)) (b := (x.length : Int) * 1000000) (A := 32) (B := 32000000) (by omega) (by omega) (by omega) (by omega)
  exact ⟨p0, e, by omega⟩
theorem prod_two {x y : List Int} (hx : Win x) (hy : Win y) (hl : x.length = y.length) : -1024000000 ≤ prodP x y ∧ prodP x y ≤ 1024000000 ∧ prodP x y * prodP x y ≤ prodP x x * prodP y y := by
  have lo := hx.lo
  have a := prod_self hx
  have b := prod_self hy
  have c := prodP_cs hl (by omega)
  have d := Int.mul_le_mul a.2.2 b.2.2 b.1 (by omega)
  have e : prodP x y ≤ 1024000000 := sq_le (by omega) (by omega)
  have e2 : -prodP x y ≤ 1024000000 := sq_le (by omega) (by rw [Int.neg_mul_neg]; omega)
  exact ⟨by omega, e, c⟩
theorem sk_floor {a b : Int} (hb : 0 < b) (h1 : -4611686018427387904 ≤ a) (h2 : a ≤ 4611686018427387904) : Gives (fun k => T_sketch_floor k a b) (· = a / b) := by
  refine Gives.step ?_
  simp only [T_sketch_floor]
  have bd : -4611686018427387904 ≤ a / b ∧ a / b ≤ 4611686018427387904 := by
    have d1 := Int.mul_ediv_self_le (x := a) (k := b) (by omega)
    have d2 := Int.lt_mul_ediv_self_add (x := a) (k := b) hb
    constructor
    · exact Int.le_ediv_of_mul_le hb (by have := Int.mul_le_mul_of_nonneg_left (c := 4611686018427387904) (show 1 ≤ b by omega) (by omega); omega)
    · exact Int.le_trans (Int.ediv_le_ediv hb h2) (Int.ediv_le_self _ (by omega))
  refine Gives.pos (by omega) (Gives.pos (by omega) (Gives.bind (Q := fun r => r = a / b) ?_ fun r hr => Gives.now hr))
  rcases Int.le_total 0 a with c | c
  · rw [Int.tdiv_eq_ediv_of_nonneg c, Int.tmod_eq_emod_of_nonneg c]
    have := Int.emod_nonneg a (show b ≠ 0 by omega)
    rw [w64_id (x := a / b) (by omega) (by omega)]
    exact Gives.neg (by omega) (Gives.now rfl)
  · obtain ⟨m, rfl⟩ : ∃ m, a = -m := ⟨-a, by omega⟩
    have em := Int.mul_ediv_add_emod m b
    have r0 := Int.emod_nonneg m (show b ≠ 0 by omega)
    have r1 := Int.emod_lt_of_pos m hb
    have bm : 0 ≤ m / b ∧ m / b ≤ 4611686018427387904 := ⟨Int.ediv_nonneg (by omega) (by omega), Int.le_trans (Int.ediv_le_self _ (by omega)) (by omega)⟩
    rw [Int.neg_tdiv, Int.neg_tmod, Int.tdiv_eq_ediv_of_nonneg (by omega), Int.tmod_eq_emod_of_nonneg (by omega)]
    generalize m / b = q at em bm ⊢
    generalize m % b = r at em r0 r1 ⊢
    rw [w64_id (x := -q) (by omega) (by omega), w64_id (x := -q - 1) (by omega) (by omega)]
    refine Gives.ite (fun c2 => Gives.now ?_) fun c2 => Gives.now ?_
    · have : b * (-q - 1) = -(b * q) - b := by grind
      exact (((Int.ediv_emod_unique (a := -m) (b := b) (r := b - r) (q := -q - 1) hb).2 ⟨by omega, by omega, by omega⟩).1).symm
    · have : b * (-q) = -(b * q) := by grind
      exact (((Int.ediv_emod_unique (a := -m) (b := b) (r := 0) (q := -q) hb).2 ⟨by omega, by omega, by omega⟩).1).symm
theorem sk_lengths {x s : List Int} {E : Int} {n : Nat} (h : Skn x s E n) : Gives (fun k => T_sketch_lengths k x.length s E) (fun r => (r.length : Int) = n ∧ ∀ p, 0 ≤ p → p < (n : Int) → rd r p = cut x.length n (p + 1) - cut x.length n p) := by
  have lo := h.win.lo
  have hi := h.win.hi
  have n1 := h.n1
  have n2 := h.n2
  have n3 := h.n3
  have hl := h.len
  refine Gives.step ?_
  simp only [T_sketch_lengths]
  rw [hl]
  refine Gives.bind (pc_starts (m := (x.length : Int)) (n := (n : Int)) (by omega) (by omega) (by omega) (by omega) (by omega)) fun a ha => ?_
  obtain ⟨a1, a2, a3⟩ := ha
  refine Gives.neg (by simp [a1]) (Gives.bind (Q := fun r => (r.1 : Int) = n ∧ r.2.length = r.1 ∧ ∀ p, 0 ≤ p → p < (n : Int) → rd r.2 p = cut x.length n (p + 1) - cut x.length n p) ?_ fun r hr => ?_)
  · refine Gives.loop (fun t => 0 ≤ t.2.1 ∧ t.2.1 ≤ (n : Int) ∧ (t.1 : Int) = t.2.1 ∧ t.2.2.length = t.1 ∧ ∀ p, 0 ≤ p → p < t.2.1 → rd t.2.2 p = cut x.length n (p + 1) - cut x.length n p) (fun t => ((n : Int) - t.2.1).toNat) ?_ ⟨by simp only []; omega, by simp only []; omega, rfl, rfl, fun p h1 h2 => by simp only at h2; omega⟩
    intro ⟨l, i, o⟩ ⟨i1, i2, i3, i4, i5⟩
    simp only at i1 i2 i3 i4 i5
    unfold T_sketch_lengths_l1
    simp only []
    refine Gives.ite (fun c => ?_) fun c => Gives.now ⟨by simp only []; omega, i4, fun p h1 h2 => i5 p h1 (by omega)⟩
    have k1 := cut_range (m := (x.length : Int)) (n := (n : Int)) (p := i) (by omega) (by omega) (by omega) (by omega)
    have k2 := cut_range (m := (x.length : Int)) (n := (n : Int)) (p := i + 1) (by omega) (by omega) (by omega) (by omega)
    rw [w64_id (x := i + 1) (by omega) (by omega), drop_take_len i4]
    refine Gives.opt (at_rd (by omega) (by omega)) (Gives.opt (at_rd i1 (by omega)) (Gives.pos (by unfold LIM; omega) ?_))
    rw [a3 (i + 1) (by omega) (by omega), a3 i i1 (by omega), w64_id (x := cut x.length n (i + 1) - cut x.length n i) (by omega) (by omega)]
    refine Gives.now ⟨⟨by simp only []; omega, by simp only []; omega, by simp only []; omega, by simp [i4], fun p h1 h2 => ?_⟩, by simp only []; omega⟩
    simp only at h2 ⊢
    by_cases e : p = i
    · subst e; rw [rd_app_1 h1 (by omega)]
    · rw [rd_app_l (by omega)]; exact i5 p h1 (by omega)
  · rw [drop_take_len hr.2.1]
    exact Gives.now ⟨by rw [hr.2.1]; exact hr.1, hr.2.2⟩
theorem Skn.wt {x s : List Int} {E : Int} {n : Nat} (h : Skn x s E n) {p : Int} (h0 : 0 ≤ p) (h1 : p < (n : Int)) : 1 ≤ cut x.length n (p + 1) - cut x.length n p ∧ cut x.length n (p + 1) - cut x.length n p ≤ 32 := by
  have w := wt_ok h.win.hi h.n1 h.n2 h.n3 h0 h1
  exact ⟨w.2.2.1, w.2.2.2.1⟩
/-- What the sums of pieces know of the energy. -/
def kn (x s : List Int) (n : Nat) : Int := sg (fun p => (rd s p * rd s p) / (cut x.length n (p + 1) - cut x.length n p)) n
theorem Skn.kn_eq {x s : List Int} {E : Int} {n : Nat} (h : Skn x s E n) : kn x s n = sg (fun p => (dP (cx x.length x) x.length n p * dP (cx x.length x) x.length n p) / (cut x.length n (p + 1) - cut x.length n p)) n :=
  sg_congr fun p p0 p1 => by rw [h.val p p0 p1]
theorem Skn.energy {x s : List Int} {E : Int} {n : Nat} (h : Skn x s E n) : 0 ≤ kn x s n ∧ kn x s n ≤ E ∧ 0 ≤ E ∧ E ≤ 32768000000 ∧ E = sg (fun i => cx x.length x i * cx x.length x i) x.length := by
  have p := prod_self h.win
  have hi := h.win.hi
  have e : E = sg (fun i => cx x.length x i * cx x.length x i) x.length := by rw [h.en]; exact (Skn.cent rfl).symm
  have q := prod_bound (a := (x.length : Int)) (b := prodP x x) (A := 32) (B := 1024000000) (by omega) (by omega) (by omega) (by omega)
  refine ⟨?_, ?_, ?_, by rw [h.en]; omega, e⟩
  · rw [h.kn_eq]; exact kn_nonneg _ h.win.hi h.n1 h.n2 h.n3
  · rw [h.kn_eq, e]; exact kn_le _ h.win.hi h.n1 h.n2 h.n3
  · rw [h.en]; exact Int.mul_nonneg (by omega) p.1
theorem sk_known {x s : List Int} {E : Int} {n : Nat} (h : Skn x s E n) : Gives (fun k => T_sketch_known k x.length s E) (fun r => r = kn x s n) := by
  have hl := h.len
  have n2 := h.n2
  refine Gives.step ?_
  simp only [T_sketch_known]
  refine Gives.bind (sk_lengths h) fun o ho => ?_
  refine Gives.bind (Q := fun r => r = kn x s n) ?_ fun r hr => Gives.now hr
  rw [ho.1]
  refine Gives.loop (fun t => 0 ≤ t.2 ∧ t.2 ≤ (n : Int) ∧ t.1 = sg (fun p => (rd s p * rd s p) / (cut x.length n (p + 1) - cut x.length n p)) t.2.toNat) (fun t => ((n : Int) - t.2).toNat) ?_ ⟨by simp only []; omega, by simp only []; omega, rfl⟩
  intro ⟨a, i⟩ ⟨i1, i2, i3⟩
  simp only at i1 i2 i3
  unfold T_sketch_known_l1
  simp only []
  refine Gives.ite (fun c => Gives.opt (at_rd i1 (by omega)) (Gives.opt (at_rd i1 (by omega)) ?_)) fun c => Gives.now ?_
  · have eb : ∀ j : Int, 0 ≤ j → j < n → 0 ≤ (rd s j * rd s j) / (cut x.length n (j + 1) - cut x.length n j) ∧ (rd s j * rd s j) / (cut x.length n (j + 1) - cut x.length n j) ≤ 4194304000000 ∧ 0 ≤ rd s j * rd s j ∧ rd s j * rd s j ≤ 4194304000000 := fun j j0 j1 => by
      have b := h.bd j0 j1
      have w := h.wt j0 j1
      have q := prod_bound (a := rd s j) (b := rd s j) (A := 2048000) (B := 2048000) b.1 b.2 b.1 b.2
      have z := sq_nonneg (rd s j)
      exact ⟨Int.ediv_nonneg z (by omega), Int.le_trans (Int.ediv_le_self _ z) (by omega), z, by omega⟩
    have g := sg_bound (f := fun p => (rd s p * rd s p) / (cut x.length n (p + 1) - cut x.length n p)) (B := 4194304000000) (n := i.toNat) fun j h1 h2 => by
      have := eb j h1 (by omega)
      omega
    rw [← i3] at g
    have ei := eb i i1 c
    have w := h.wt i1 c
    rw [ho.2 i i1 c, w64_id (x := rd s i * rd s i) (by omega) (by omega), Int.tdiv_eq_ediv_of_nonneg ei.2.2.1, w64_id (x := (rd s i * rd s i) / (cut x.length n (i + 1) - cut x.length n i)) (by omega) (by omega), w64_id (x := a + _) (by omega) (by omega), w64_id (x := i + 1) (by omega) (by omega)]
    refine Gives.pos (by omega) (Gives.now ⟨⟨by simp only []; omega, by simp only []; omega, ?_⟩, by simp only []; omega⟩)
    simp only []
    rw [show (i + 1).toNat = i.toNat + 1 by omega, sg, ← i3, Int.toNat_of_nonneg i1]
  · have : i.toNat = n := by omega
    rw [i3, this]
    rfl
theorem sk_valid {x s : List Int} {E : Int} {n : Nat} (h : Skn x s E n) : Gives (fun k => T_sketch_valid k x.length s E) (· = true) := by
  have lo := h.win.lo
  have hi := h.win.hi
  have hl := h.len
  have n1 := h.n1
  obtain ⟨e0, e1, e2, e3, _⟩ := h.energy
  refine Gives.step ?_
  simp only [T_sketch_valid]
  refine Gives.bind (Q := fun b => b = false) ?_ fun b hb => ?_
  · refine Gives.bind (sk_lengths h) fun o ho => Gives.neg ?_ (Gives.pos (by omega) (Gives.now ?_))
    · have q1 := prod_bound (a := (x.length : Int)) (b := (x.length : Int)) (A := 32) (B := 32) (by omega) (by omega) (by omega) (by omega)
      have q2 := prod_bound (a := (x.length : Int) * (x.length : Int)) (b := (x.length : Int)) (A := 1024) (B := 32) (by omega) (by omega) (by omega) (by omega)
      rw [w64_id (x := (x.length : Int) * (x.length : Int)) (by omega) (by omega), w64_id (x := (x.length : Int) * (x.length : Int) * (x.length : Int)) (by omega) (by omega), w64_id (x := (x.length : Int) * (x.length : Int) * (x.length : Int) * 1000) (by omega) (by omega), w64_id (x := (x.length : Int) * (x.length : Int) * (x.length : Int) * 1000 * 1000) (by omega) (by omega)]
      have n3 : E ≤ (x.length : Int) * ((x.length : Int) * ((x.length : Int) * 1000000)) := by
        rw [h.en]; exact Int.mul_le_mul_of_nonneg_left (prod_self h.win).2.1 (by omega)
      have e : (x.length : Int) * ((x.length : Int) * ((x.length : Int) * 1000000)) = (x.length : Int) * (x.length : Int) * (x.length : Int) * 1000 * 1000 := by grind
      rw [e] at n3
      simp only [Bool.or_eq_true, decide_eq_true_eq]; omega
    · rw [h.en, Int.mul_tmod_right]; rfl
  subst hb
  refine Gives.neg (by simp) (Gives.bind (Q := fun r => r = .inl ()) ?_ fun r hr => ?_)
  · refine Gives.loop (fun i => 0 ≤ i ∧ i ≤ (n : Int)) (fun i => ((n : Int) - i).toNat) ?_ ⟨by omega, by omega⟩
    intro i ⟨i1, i2⟩
    unfold T_sketch_valid_l1
    rw [hl]
    refine Gives.ite (fun c => Gives.opt (at_rd i1 (by omega)) ?_) fun c => Gives.now rfl
    have b := h.bd i1 c
    have := h.n2
    rw [w64_id (x := i + 1) (by omega) (by omega)]
    exact Gives.neg (by simp; omega) (Gives.now ⟨⟨by omega, by omega⟩, by omega⟩)
  · subst hr
    exact Gives.bind (sk_known h) fun v hv => Gives.now (by simp; omega)
theorem sk_check {x s y t : List Int} {E F : Int} {n : Nat} (h : Skn x s E n) (k : Skn y t F n) (hl : x.length = y.length) : Gives (fun j => T_sketch_check j x.length s E y.length t F) (· = 0) := by
  refine Gives.step ?_
  simp only [T_sketch_check]
  refine Gives.bind (Q := fun b => b = false) ?_ fun b hb => ?_
  · refine Gives.bind (sk_valid h) fun v hv => ?_
    subst hv
    refine Gives.neg (by simp) (Gives.bind (sk_valid k) fun v hv => ?_)
    subst hv
    exact Gives.now rfl
  subst hb
  exact Gives.neg (by simp) (Gives.neg (by simp [hl, h.len, k.len]) (Gives.now rfl))
/-- The sum of the products of the pieces' sums, rounded up. -/
def up (m : Int) (s t : List Int) (n : Nat) : Int := sg (fun p => -((-(rd s p * rd t p)) / (cut m n (p + 1) - cut m n p))) n
theorem up_comm (m : Int) (s t : List Int) (n : Nat) : up m s t n = up m t s n := sg_congr fun p _ _ => by rw [Int.mul_comm]
theorem sk_upper {x s y t : List Int} {E F : Int} {n : Nat} (h : Skn x s E n) (k : Skn y t F n) (hl : x.length = y.length) {ra rb : Int}
    (hra : Gives (fun j => T_root_Ceil j (E - kn x s n)) (fun v => v = ra)) (hrb : Gives (fun j => T_root_Ceil j (F - kn y t n)) (fun v => v = rb)) (a0 : 0 ≤ ra) (a1 : ra ≤ 262145) (b0 : 0 ≤ rb) (b1 : rb ≤ 262145) :
    Gives (fun j => T_sketch_upper j x.length s E y.length t F) (· = (up x.length s t n + ra * rb) / x.length) := by
  have lo := h.win.lo
  have hi := h.win.hi
  have l1 := h.len
  have l2 := k.len
  have n2 := h.n2
  obtain ⟨e0, e1, e2, e3, _⟩ := h.energy
  obtain ⟨f0, f1, f2, f3, _⟩ := k.energy
  have eb : ∀ j : Int, 0 ≤ j → j < n → -4194304000001 ≤ (-(rd s j * rd t j)) / (cut x.length n (j + 1) - cut x.length n j) ∧ (-(rd s j * rd t j)) / (cut x.length n (j + 1) - cut x.length n j) ≤ 4194304000001 ∧ -4194304000000 ≤ rd s j * rd t j ∧ rd s j * rd t j ≤ 4194304000000 := fun j j0 j1 => by
    have b := h.bd j0 j1
    have b2 := k.bd j0 j1
    have w := h.wt j0 j1
    have q := prod_bound (a := rd s j) (b := rd t j) (A := 2048000) (B := 2048000) b.1 b.2 b2.1 b2.2
    generalize rd s j * rd t j = v at q ⊢
    generalize cut x.length n (j + 1) - cut x.length n j = l at w ⊢
    have g1 : (-4194304000000) / l ≤ -v / l := Int.ediv_le_ediv (by omega) (by omega)
    have g2 : -v / l ≤ 4194304000000 / l := Int.ediv_le_ediv (by omega) (by omega)
    have g3 : -4194304000000 ≤ (-4194304000000) / l := Int.le_ediv_of_mul_le (by omega) (by have := Int.mul_le_mul_of_nonneg_left (c := 4194304000000) (show 1 ≤ l by omega) (by omega); omega)
    have g4 : 4194304000000 / l ≤ 4194304000000 := Int.ediv_le_self _ (by omega)
    omega
  have gb : ∀ i : Nat, i ≤ n → -(4194304000001 * (i : Int)) ≤ sg (fun p => -((-(rd s p * rd t p)) / (cut x.length n (p + 1) - cut x.length n p))) i ∧ sg (fun p => -((-(rd s p * rd t p)) / (cut x.length n (p + 1) - cut x.length n p))) i ≤ 4194304000001 * (i : Int) := fun i hi => sg_bound fun j h1 h2 => by
    have := eb j h1 (by omega)
    omega
  refine Gives.step ?_
  simp only [T_sketch_upper]
  refine Gives.bind (sk_lengths h) fun o ho => ?_
  rw [ho.1]
  refine Gives.bind (Q := fun r => r = up x.length s t n) ?_ fun a ha => ?_
  · refine Gives.loop (fun u => 0 ≤ u.2 ∧ u.2 ≤ (n : Int) ∧ u.1 = sg (fun p => -((-(rd s p * rd t p)) / (cut x.length n (p + 1) - cut x.length n p))) u.2.toNat) (fun u => ((n : Int) - u.2).toNat) ?_ ⟨by simp only []; omega, by simp only []; omega, rfl⟩
    intro ⟨a, i⟩ ⟨i1, i2, i3⟩
    simp only at i1 i2 i3
    unfold T_sketch_upper_l1
    simp only []
    refine Gives.ite (fun c => Gives.opt (at_rd i1 (by omega)) (Gives.opt (at_rd i1 (by omega)) (Gives.opt (at_rd i1 (by omega)) ?_))) fun c => Gives.now ?_
    · have b := h.bd i1 c
      have g := gb i.toNat (by omega)
      rw [← i3] at g
      have ei := eb i i1 c
      have w := h.wt i1 c
      have en : (0 - rd s i) * rd t i = -(rd s i * rd t i) := by grind
      rw [ho.2 i i1 c, w64_id (x := 0 - rd s i) (by omega) (by omega), en, w64_id (x := -(rd s i * rd t i)) (by omega) (by omega)]
      refine Gives.bind (sk_floor (by omega) (by omega) (by omega)) fun v hv => ?_
      rw [hv, w64_id (x := a - _) (by omega) (by omega), w64_id (x := i + 1) (by omega) (by omega)]
      refine Gives.now ⟨⟨by simp only []; omega, by simp only []; omega, ?_⟩, by simp only []; omega⟩
      simp only []
      rw [show (i + 1).toNat = i.toNat + 1 by omega, sg, ← i3, Int.toNat_of_nonneg i1]
      omega
    · have : i.toNat = n := by omega
      rw [i3, this]
      rfl
  subst ha
  have g : -(4194304000001 * (n : Int)) ≤ up x.length s t n ∧ up x.length s t n ≤ 4194304000001 * (n : Int) := gb n (by omega)
  have q := prod_bound (a := ra) (b := rb) (A := 262145) (B := 262145) (by omega) (by omega) (by omega) (by omega)
  refine Gives.bind (sk_known h) fun v hv => ?_
  subst hv
  rw [w64_id (x := E - kn x s n) (by omega) (by omega)]
  refine Gives.bind hra fun w hw => Gives.bind (sk_known k) fun v2 hv2 => ?_
  subst hv2
  rw [w64_id (x := F - kn y t n) (by omega) (by omega)]
  refine Gives.bind hrb fun w2 hw2 => ?_
  subst hw hw2
  rw [w64_id (x := w * w2) (by omega) (by omega), w64_id (x := up x.length s t n + w * w2) (by omega) (by omega)]
  exact Gives.bind (sk_floor (by omega) (by omega) (by omega)) fun r hr => Gives.now hr

/-! The bound of a region. -/
theorem Gives.ex {α : Type} {f : Nat → Option α} {Q : α → Prop} (h : Gives f Q) : ∃ r, Gives f (fun x => x = r) ∧ Q r := by
  obtain ⟨r, hr, hq⟩ := h
  exact ⟨r, ⟨r, hr, rfl⟩, hq⟩
/-- An interval of a list. -/
def rp (l : List (Int × Int)) (i : Int) : Int × Int := l.getD i.toNat (0, 0)
theorem get_rp {l : List (Int × Int)} {i : Int} (h0 : 0 ≤ i) (h1 : i < (l.length : Int)) : l[0 + i.toNat]? = some (rp l i) := by
  unfold rp
  rw [Nat.zero_add, List.getD_eq_getElem?_getD, List.getElem?_eq_getElem (by omega)]; rfl
theorem rp_app_l {xs ys : List (Int × Int)} {i : Int} (h1 : i.toNat < xs.length) : rp (xs ++ ys) i = rp xs i := by
  unfold rp
  rw [List.getD_eq_getElem?_getD, List.getD_eq_getElem?_getD, List.getElem?_append_left h1]
theorem rp_app_1 {xs : List (Int × Int)} {v : Int × Int} {i : Int} (h0 : 0 ≤ i) (h1 : (xs.length : Int) = i) : rp (xs ++ [v]) i = v := by
  unfold rp
  rw [List.getD_eq_getElem?_getD, List.getElem?_append_right (by omega), show i.toNat - xs.length = 0 by omega]
  rfl
/-- Intervals of moderate size. -/
structure Ivs (n : Nat) (l : List (Int × Int)) : Prop where
  len : l.length = n
  ok : ∀ p, 0 ≤ p → p < (n : Int) → -400 ≤ (rp l p).1 ∧ (rp l p).1 ≤ (rp l p).2 ∧ (rp l p).2 ≤ 1000
def dp (q : Int) (v : Int × Int) : Int := imax (imax 0 (16 * v.1 - (q + 1))) (q - 16 * (v.2 + 1))
theorem dp_bd {q : Int} {v : Int × Int} (h1 : -8193 ≤ q) (h2 : q ≤ 8193) (v1 : -400 ≤ v.1) (v2 : v.1 ≤ v.2) (v3 : v.2 ≤ 1000) : 0 ≤ dp q v ∧ dp q v ≤ 24200 := by
  unfold dp imax; split <;> split <;> omega
theorem dp_mono {q : Int} {v w : Int × Int} (h1 : v.1 ≤ w.1) (h2 : w.2 ≤ v.2) : dp q v ≤ dp q w := by
  unfold dp imax; split <;> split <;> split <;> split <;> omega
theorem sg_term {f : Int → Int} : ∀ {n : Nat}, (∀ i : Int, 0 ≤ i → i < n → 0 ≤ f i) → ∀ p : Int, 0 ≤ p → p < n → f p ≤ sg f n
  | 0, _, p, h0, h1 => by omega
  | n + 1, h, p, h0, h1 => by
    have nn := sg_nonneg (n := n) fun i i0 i1 => h i i0 (by omega)
    have hn := h n (by omega) (by omega)
    rw [sg]
    by_cases c : p = n
    · subst c; omega
    · have := sg_term (n := n) (fun i i0 i1 => h i i0 (by omega)) p h0 (by omega)
      omega
theorem Skn.small {x s : List Int} {E : Int} {n : Nat} (h : Skn x s E n) (hE : 1 ≤ E) {p : Int} (h0 : 0 ≤ p) (h1 : p < (n : Int)) : rd s p * rd s p ≤ 64 * E := by
  have e := h.energy
  have w := h.wt h0 h1
  have t := sg_term (f := fun p => (rd s p * rd s p) / (cut x.length n (p + 1) - cut x.length n p)) (n := n) (fun i i0 i1 => by
    have := h.wt i0 i1
    exact Int.ediv_nonneg (sq_nonneg _) (by omega)) p h0 h1
  have k : sg (fun p => (rd s p * rd s p) / (cut x.length n (p + 1) - cut x.length n p)) n = kn x s n := rfl
  rw [k] at t
  have z := sq_nonneg (rd s p)
  generalize rd s p * rd s p = v at *
  generalize cut x.length n (p + 1) - cut x.length n p = l at *
  have d := Int.lt_mul_ediv_self_add (x := v) (k := l) (by omega)
  have m : l * (v / l) ≤ 32 * (v / l) := Int.mul_le_mul_of_nonneg_right (by omega) (Int.ediv_nonneg z (by omega))
  omega
theorem rt_quotient {a E : Int} (hE : 1 ≤ E) (hE2 : E ≤ 32768000000) (ha : -2097152000 ≤ a) (ha2 : a ≤ 2097152000) (hs : a * a ≤ 67108864 * E) : Gives (fun k => T_root_Quotient k a E) (fun r => -8193 ≤ r.1 ∧ r.1 ≤ 8193) := by
  have z := sq_nonneg a
  have q := prod_bound (a := a) (b := a) (A := 2097152000) (B := 2097152000) ha ha2 ha ha2
  have v0 : 0 ≤ a * a / E := Int.ediv_nonneg z (by omega)
  have v1 : a * a / E ≤ 67108864 := Int.ediv_le_of_le_mul (by omega) hs
  have v2 := Int.mul_ediv_self_le (x := a * a) (k := E) (by omega)
  refine Gives.step ?_
  simp only [T_root_Quotient]
  refine Gives.neg (by simp; omega) (Gives.pos (by omega) ?_)
  rw [w64_id (x := a * a) (by omega) (by omega), Int.tdiv_eq_ediv_of_nonneg z, w64_id (x := a * a / E) (by omega) (by omega)]
  refine Gives.bind (rt_floor v0 (by omega)) fun r hr => ?_
  obtain ⟨r0, r1, r2, r3⟩ := hr
  have r4 : r ≤ 8192 := by
    refine Decidable.byContradiction fun hn => ?_
    have := Int.mul_le_mul (a := 8193) (b := 8193) (c := r) (d := r) (by omega) (by omega) (by omega) (by omega)
    omega
  have rr := sq_nonneg r
  have m : r * r * E ≤ a * a / E * E := Int.mul_le_mul_of_nonneg_right r2 (by omega)
  have m0 := Int.mul_nonneg rr (show 0 ≤ E by omega)
  rw [Int.mul_comm (a * a / E) E] at m
  refine Gives.ite (fun c => Gives.now ⟨by simp only []; omega, by simp only []; omega⟩) fun c => ?_
  rw [w64_id (x := r * r) (by omega) (by omega), w64_id (x := r * r * E) (by omega) (by omega), w64_id (x := r + 1) (by omega) (by omega)]
  refine Gives.bind (Q := fun t => 0 ≤ t ∧ t ≤ 8193) (Gives.ite (fun _ => Gives.now ⟨by omega, by omega⟩) fun _ => Gives.now ⟨r0, by omega⟩) fun t ht => ?_
  rw [w64_id (x := 0 - t) (by omega) (by omega)]
  exact Gives.now ⟨by simp only []; omega, by simp only []; omega⟩
theorem sl_min {xs : List Int} (h : 1 ≤ xs.length) (hl : xs.length ≤ 1000) : Gives (fun k => T_slices_Min_b354 k xs) (fun r => ∃ i, 0 ≤ i ∧ i < (xs.length : Int) ∧ r = rd xs i) := by
  refine Gives.step ?_
  simp only [T_slices_Min_b354]
  refine Gives.neg (by omega) (Gives.opt (at_rd (by omega) (by omega)) (Gives.bind (Q := fun r => ∃ i, 0 ≤ i ∧ i < (xs.length : Int) ∧ r = rd xs i) ?_ fun r hr => Gives.now hr))
  refine Gives.loop (fun t => 0 ≤ t.2 ∧ t.2 ≤ (xs.length : Int) ∧ ∃ i, 0 ≤ i ∧ i < (xs.length : Int) ∧ t.1 = rd xs i) (fun t => ((xs.length : Int) - t.2).toNat) ?_ ⟨by simp only []; omega, by simp only []; omega, 0, by omega, by omega, rfl⟩
  intro ⟨m, i⟩ ⟨i1, i2, j, j0, j1, j2⟩
  simp only at i1 i2 j2
  unfold T_slices_Min_b354_l1
  simp only []
  refine Gives.ite (fun c => Gives.opt (at_rd i1 c) ?_) fun c => Gives.now ⟨j, j0, j1, j2⟩
  rw [w64_id (x := i + 1) (by omega) (by omega)]
  refine Gives.now ⟨⟨by simp only []; omega, by simp only []; omega, ?_⟩, by simp only []; omega⟩
  simp only []
  unfold imin
  split
  · exact ⟨i, i1, c, rfl⟩
  · exact ⟨j, j0, j1, j2⟩
theorem sl_max {xs : List Int} (h : 1 ≤ xs.length) (hl : xs.length ≤ 1000) : Gives (fun k => T_slices_Max_b354 k xs) (fun r => ∃ i, 0 ≤ i ∧ i < (xs.length : Int) ∧ r = rd xs i) := by
  refine Gives.step ?_
  simp only [T_slices_Max_b354]
  refine Gives.neg (by omega) (Gives.opt (at_rd (by omega) (by omega)) (Gives.bind (Q := fun r => ∃ i, 0 ≤ i ∧ i < (xs.length : Int) ∧ r = rd xs i) ?_ fun r hr => Gives.now hr))
  refine Gives.loop (fun t => 0 ≤ t.2 ∧ t.2 ≤ (xs.length : Int) ∧ ∃ i, 0 ≤ i ∧ i < (xs.length : Int) ∧ t.1 = rd xs i) (fun t => ((xs.length : Int) - t.2).toNat) ?_ ⟨by simp only []; omega, by simp only []; omega, 0, by omega, by omega, rfl⟩
  intro ⟨m, i⟩ ⟨i1, i2, j, j0, j1, j2⟩
  simp only at i1 i2 j2
  unfold T_slices_Max_b354_l1
  simp only []
  refine Gives.ite (fun c => Gives.opt (at_rd i1 c) ?_) fun c => Gives.now ⟨j, j0, j1, j2⟩
  rw [w64_id (x := i + 1) (by omega) (by omega)]
  refine Gives.now ⟨⟨by simp only []; omega, by simp only []; omega, ?_⟩, by simp only []; omega⟩
  simp only []
  unfold imax
  split
  · exact ⟨i, i1, c, rfl⟩
  · exact ⟨j, j0, j1, j2⟩
/-- A piece has one of two lengths. -/
theorem two_lens {m n : Nat} {p : Int} (hm : m ≤ 32) (hn : 1 ≤ n) (hn2 : n ≤ 8) (hn3 : n ≤ m) (h0 : 0 ≤ p) (h1 : p < (n : Int)) : cut m n (p + 1) - cut m n p = ((m / n : Nat) : Int) ∨ cut m n (p + 1) - cut m n p = ((m / n : Nat) : Int) + 1 := by
  obtain ⟨q, rfl⟩ : ∃ q : Nat, p = q := ⟨p.toNat, by omega⟩
  have f := len_fin ⟨m, by omega⟩ ⟨n, by omega⟩ ⟨q, by omega⟩ hn (by simp only []; omega) hn3
  simp only [] at f
  have e1 : cut (m : Int) n ((q : Int) + 1) = (((q + 1) * m / n : Nat) : Int) := by
    unfold cut
    have : ((q : Int) + 1) * m = (((q + 1) * m : Nat) : Int) := by simp
    rw [this]; rfl
  have e2 : cut (m : Int) n (q : Int) = ((q * m / n : Nat) : Int) := by
    unfold cut
    have : (q : Int) * m = ((q * m : Nat) : Int) := by simp
    rw [this]; rfl
  have mono : q * m / n ≤ (q + 1) * m / n := Nat.div_le_div_right (Nat.mul_le_mul_right m (by omega))
  rw [e1, e2]
  generalize (q + 1) * m / n = c1 at f mono ⊢
  generalize q * m / n = c0 at f mono ⊢
  generalize m / n = a at f ⊢
  omega
/-- What a region's distance comes to. -/
def tot (K qs : Int → Int) (n : Nat) (l : List (Int × Int)) : Int := sg (fun p => dp (qs p) (rp l p) * dp (qs p) (rp l p) * K p) n
theorem sk_outside {x s : List Int} {E : Int} {n : Nat} (h : Skn x s E n) (hE : 1 ≤ E) : ∃ (C : Int) (qs K : Int → Int), 2097152 ≤ C ∧ C ≤ 570425344 ∧ (∀ p, 0 ≤ p → p < (n : Int) → 0 ≤ K p) ∧ (∀ p, 0 ≤ p → p < (n : Int) → -8193 ≤ qs p ∧ qs p ≤ 8193) ∧
    ∀ l, Ivs n l → Gives (fun k => T_sketch_outside k x.length s E n l) (fun r => (r.2.2 = true ∧ 2 * C < tot K qs n l) ∨ (r = (tot K qs n l, C, false) ∧ tot K qs n l ≤ 2 * C)) := by
  have e := h.energy
  have n1 := h.n1
  have n2 := h.n2
  have n3 := h.n3
  have hi := h.win.hi
  have hl := h.len
  have hq : ∀ p : Int, ∃ q : Int, 0 ≤ p → p < (n : Int) → Gives (fun k => T_root_Quotient k (1024 * rd s p) E) (fun r => r.1 = q) ∧ -8193 ≤ q ∧ q ≤ 8193 := by
    intro p
    by_cases c : 0 ≤ p ∧ p < (n : Int)
    · have b := h.bd c.1 c.2
      have sm := h.small hE c.1 c.2
      have es : 1024 * rd s p * (1024 * rd s p) = 1048576 * (rd s p * rd s p) := by grind
      obtain ⟨r, r1, r2⟩ := (rt_quotient (a := 1024 * rd s p) hE e.2.2.2.1 (by omega) (by omega) (by omega)).ex
      exact ⟨r.1, fun _ _ => ⟨r1.mono fun y hy => by rw [hy], r2.1, r2.2⟩⟩
    · exact ⟨0, fun a b => absurd ⟨a, b⟩ c⟩
  obtain ⟨qs, hqs⟩ := Classical.axiomOfChoice hq
  obtain ⟨o, o1, o2, o3⟩ := (sk_lengths h).ex
  obtain ⟨mn, a1, i, i0, i1, i2⟩ := (sl_min (xs := o) (by omega) (by omega)).ex
  obtain ⟨mx, b1, j, j0, j1, j2⟩ := (sl_max (xs := o) (by omega) (by omega)).ex
  have wi := two_lens hi n1 n2 n3 i0 (by omega)
  have wj := two_lens hi n1 n2 n3 j0 (by omega)
  have vi := h.wt i0 (by omega)
  have vj := h.wt j0 (by omega)
  rw [o3 i i0 (by omega)] at i2
  rw [o3 j j0 (by omega)] at j2
  obtain ⟨C, hC, c1, c2⟩ : ∃ C : Int, (if mx = mn then 2097152 * mn else 2097152 * mn * mx) = C ∧ 2097152 ≤ C ∧ C ≤ 570425344 := by
    refine ⟨_, rfl, ?_⟩
    split
    · constructor <;> omega
    · rename_i ne
      have two : 2 ≤ n := by
        refine Decidable.byContradiction fun hn => ?_
        have : i = j := by omega
        subst this
        omega
      have dq : x.length / n ≤ 16 := by
        have : x.length / n ≤ x.length / 2 := Nat.div_le_div_left two (by omega)
        omega
      have : mn * mx ≤ 272 := by
        generalize x.length / n = q at *
        have : mn * mx = (q : Int) * (q + 1) := by
          rcases wi with w | w <;> rcases wj with w' | w'
          · omega
          · rw [i2, j2, w, w']
          · rw [i2, j2, w, w', Int.mul_comm]
          · omega
        rw [this]
        have := Int.mul_le_mul (a := (q : Int)) (b := q + 1) (c := 16) (d := 17) (by omega) (by omega) (by omega) (by omega)
        omega
      have p1 : 1 ≤ mn * mx := by
        have := Int.mul_le_mul (a := 1) (b := 1) (c := mn) (d := mx) (by omega) (by omega) (by omega) (by omega)
        omega
      rw [Int.mul_assoc]
      constructor <;> omega
  refine ⟨C, qs, fun p => C.tdiv (2097152 * rd o p) , c1, c2, ?_, ?_, ?_⟩
  · intro p p0 p1
    have w := h.wt p0 p1
    show 0 ≤ C.tdiv (2097152 * rd o p)
    rw [o3 p p0 p1, Int.tdiv_eq_ediv_of_nonneg (by omega)]
    exact Int.ediv_nonneg (by omega) (by omega)
  · exact fun p p0 p1 => (hqs p p0 p1).2
  intro l hI
  have lI := hI.len
  have Kb : ∀ p, 0 ≤ p → p < (n : Int) → 0 ≤ C.tdiv (2097152 * rd o p) ∧ C.tdiv (2097152 * rd o p) ≤ 272 ∧ 1 ≤ rd o p ∧ rd o p ≤ 32 := fun p p0 p1 => by
    have w := h.wt p0 p1
    rw [o3 p p0 p1, Int.tdiv_eq_ediv_of_nonneg (by omega)]
    refine ⟨Int.ediv_nonneg (by omega) (by omega), Int.ediv_le_of_le_mul (by omega) (by omega), by omega, by omega⟩
  generalize hK : (fun p => C.tdiv (2097152 * rd o p)) = K
  have hK' : ∀ p, C.tdiv (2097152 * rd o p) = K p := fun p => by rw [← hK]
  have tb : ∀ p, 0 ≤ p → p < (n : Int) → 0 ≤ dp (qs p) (rp l p) * dp (qs p) (rp l p) * K p ∧ dp (qs p) (rp l p) * dp (qs p) (rp l p) * K p ≤ 159294080000 ∧ dp (qs p) (rp l p) * dp (qs p) (rp l p) ≤ 585640000 ∧ 0 ≤ dp (qs p) (rp l p) * dp (qs p) (rp l p) := fun p p0 p1 => by
    have kb := Kb p p0 p1
    rw [hK'] at kb
    have d := dp_bd (hqs p p0 p1).2.1 (hqs p p0 p1).2.2 (hI.ok p p0 p1).1 (hI.ok p p0 p1).2.1 (hI.ok p p0 p1).2.2
    have q := prod_bound (a := dp (qs p) (rp l p)) (b := dp (qs p) (rp l p)) (A := 24200) (B := 24200) (by omega) (by omega) (by omega) (by omega)
    have z := sq_nonneg (dp (qs p) (rp l p))
    have q2 := prod_bound (a := dp (qs p) (rp l p) * dp (qs p) (rp l p)) (b := K p) (A := 585640000) (B := 272) (by omega) (by omega) (by omega) (by omega)
    exact ⟨Int.mul_nonneg z kb.1, by omega, by omega, z⟩
  refine Gives.step ?_
  simp only [T_sketch_outside]
  refine Gives.bind o1 fun y hy => ?_
  subst hy
  refine Gives.bind a1 fun y2 hy2 => Gives.bind b1 fun y3 hy3 => Gives.bind a1 fun y4 hy4 => ?_
  subst hy2 hy3 hy4
  refine Gives.bind (Q := fun r => r = C) ?_ fun r hr => ?_
  · by_cases c : y3 = y4
    · rw [if_pos c] at hC
      refine Gives.neg (by simp [c]) ?_
      rw [w64_id (x := 2097152 * y4) (by omega) (by omega)]
      exact Gives.now hC
    · rw [if_neg c] at hC
      refine Gives.pos (by simp [c]) (Gives.bind b1 fun y5 hy5 => ?_)
      subst hy5
      rw [w64_id (x := 2097152 * y4) (by omega) (by omega), w64_id (x := 2097152 * y4 * y5) (by omega) (by omega)]
      exact Gives.now hC
  subst hr
  refine Gives.bind (Q := fun (v : Int × Int × Bool) => (v.2.2 = true ∧ 2 * r < tot K qs n l) ∨ (v = (tot K qs n l, r, false) ∧ tot K qs n l ≤ 2 * r)) ?_ fun v hv => Gives.now hv
  refine Gives.loop (fun t => 0 ≤ t.1 ∧ t.1 ≤ (n : Int) ∧ 0 ≤ t.2.1 ∧ t.2.1 ≤ 2 * r ∧ (t.2.2.1 = r ∨ (t.2.2.1 = 1 ∧ t.2.1 = 0)) ∧ ((t.2.2.2 = true ∧ 2 * r < sg (fun p => dp (qs p) (rp l p) * dp (qs p) (rp l p) * K p) t.1.toNat) ∨ (t.2.2.2 = false ∧ t.2.1 = sg (fun p => dp (qs p) (rp l p) * dp (qs p) (rp l p) * K p) t.1.toNat ∧ (t.1 = 0 ∨ t.2.2.1 = r)))) (fun t => ((n : Int) - t.1).toNat) ?_
    ⟨by simp only []; omega, by simp only []; omega, by simp only []; omega, by simp only []; omega, Or.inr ⟨rfl, rfl⟩, Or.inr ⟨rfl, rfl, Or.inl rfl⟩⟩
  intro ⟨i, nu, de, be⟩ ⟨t1, t2, t3, t4, t5, t6⟩
  simp only at t1 t2 t3 t4 t5 t6
  unfold T_sketch_outside_l1
  simp only []
  refine Gives.ite (fun c => Gives.pos ⟨t1, c⟩ (Gives.opt (get_rp t1 (by omega)) (Gives.opt (at_rd t1 (by omega)) ?_))) fun c => Gives.now ?_
  · have b := h.bd t1 c
    have kb := Kb i t1 c
    rw [hK'] at kb
    have tbi := tb i t1 c
    have qi := hqs i t1 c
    have iv := hI.ok i t1 c
    rw [w64_id (x := 1024 * rd s i) (by omega) (by omega)]
    refine Gives.bind qi.1 fun z hz => ?_
    rw [hz]
    refine Gives.bind (Q := fun _ => True) (Gives.step (by simp only [T_sketch_passed]; exact Gives.now trivial)) fun _ _ => ?_
    rw [w64_id (x := 16 * (rp l i).1) (by omega) (by omega), w64_id (x := qs i + 1) (by omega) (by omega), w64_id (x := 16 * (rp l i).1 - (qs i + 1)) (by omega) (by omega), w64_id (x := (rp l i).2 + 1) (by omega) (by omega), w64_id (x := 16 * ((rp l i).2 + 1)) (by omega) (by omega), w64_id (x := qs i - 16 * ((rp l i).2 + 1)) (by omega) (by omega)]
    have ed : imax (imax 0 (16 * (rp l i).1 - (qs i + 1))) (qs i - 16 * ((rp l i).2 + 1)) = dp (qs i) (rp l i) := rfl
    have db := dp_bd qi.2.1 qi.2.2 iv.1 iv.2.1 iv.2.2
    rw [ed]
    refine Gives.neg (by omega) (Gives.opt (at_rd t1 (by omega)) ?_)
    rw [w64_id (x := i + 1) (by omega) (by omega), w64_id (x := dp (qs i) (rp l i) * dp (qs i) (rp l i)) (by omega) (by omega), w64_id (x := 2097152 * rd y i) (by omega) (by omega), hK', w64_id (x := K i) (by omega) (by omega)]
    refine Gives.bind (Q := fun _ => True) (Gives.step (by
      simp only [T_sketch_fraction_plus]
      exact Gives.pos (by omega) (Gives.pos (by omega) (Gives.now trivial)))) fun _ _ => ?_
    have en : w64 (nu * w64 (r.tdiv de)) = nu := by
      rcases t5 with t5 | ⟨_, t5⟩
      · rw [t5, Int.tdiv_self (by omega), w64_id (x := 1) (by omega) (by omega), Int.mul_one, w64_id (by omega) (by omega)]
      · rw [t5, Int.zero_mul]; rfl
    rw [en, w64_id (x := dp (qs i) (rp l i) * dp (qs i) (rp l i) * K i) (by omega) (by omega), w64_id (x := nu + _) (by omega) (by omega), w64_id (x := 2 * r) (by omega) (by omega)]
    have es : sg (fun p => dp (qs p) (rp l p) * dp (qs p) (rp l p) * K p) (i + 1).toNat = sg (fun p => dp (qs p) (rp l p) * dp (qs p) (rp l p) * K p) i.toNat + dp (qs i) (rp l i) * dp (qs i) (rp l i) * K i := by
      rw [show (i + 1).toNat = i.toNat + 1 by omega, sg, Int.toNat_of_nonneg t1]
    refine Gives.bind (Q := fun w => 0 ≤ w.1 ∧ w.1 ≤ 2 * r ∧ (w.2.1 = r ∨ (w.2.1 = 1 ∧ w.1 = 0)) ∧ ((w.2.2 = true ∧ 2 * r < sg (fun p => dp (qs p) (rp l p) * dp (qs p) (rp l p) * K p) (i + 1).toNat) ∨ (w.2.2 = false ∧ w.1 = sg (fun p => dp (qs p) (rp l p) * dp (qs p) (rp l p) * K p) (i + 1).toNat ∧ (i + 1 = 0 ∨ w.2.1 = r)))) ?_ fun w hw => Gives.now ⟨⟨by simp only []; omega, by simp only []; omega, hw⟩, by simp only []; omega⟩
    rw [es]
    refine Gives.ite (fun c2 => Gives.now ⟨by simp only []; omega, by simp only []; omega, Or.inr ⟨rfl, rfl⟩, Or.inl ⟨rfl, ?_⟩⟩) fun c2 => Gives.now ⟨by simp only []; omega, by simp only []; omega, Or.inl rfl, ?_⟩
    · rcases t6 with t6 | t6 <;> omega
    · rcases t6 with ⟨t6, t7⟩ | ⟨t6, t7, _⟩
      · exact Or.inl ⟨t6, by omega⟩
      · exact Or.inr ⟨t6, by simp only []; omega, Or.inr rfl⟩
  · have ei : i = n := by omega
    subst ei
    rw [Int.toNat_natCast] at t6
    rcases t6 with ⟨t6, t7⟩ | ⟨t6, t7, t8⟩
    · exact Or.inl ⟨t6, t7⟩
    · have e8 : de = r := by omega
      refine Or.inr ⟨by rw [t6, t7, e8]; rfl, ?_⟩
      show sg _ _ ≤ _
      omega

/-! The greatest common divisor. -/
theorem gcd_step (m n : Nat) (h : n ≠ 0) : Nat.gcd n (m % n) = Nat.gcd m n := by
  rw [Nat.gcd_comm m n, Nat.gcd_rec n m, Nat.gcd_comm]
theorem tmod_nat (m n : Nat) : (m : Int).tmod n = ((m % n : Nat) : Int) := by
  rw [Int.tmod_eq_emod_of_nonneg (by omega)]; rfl
theorem ra_divisor (m n : Nat) : Gives (fun k => T_ratio_divisor k m n) (fun r => r = (Nat.gcd m n : Nat)) := by
  refine Gives.step ?_
  simp only [T_ratio_divisor]
  refine Gives.bind (Q := fun r => r = ((Nat.gcd m n : Nat) : Int)) ?_ fun r hr => Gives.now hr
  refine Gives.loop (fun s => ∃ a b : Nat, s = ((a : Int), (b : Int)) ∧ Nat.gcd a b = Nat.gcd m n) (fun s => s.2.toNat) ?_ ⟨m, n, rfl, rfl⟩
  intro s ⟨a, b, hs, hg⟩
  subst hs
  unfold T_ratio_divisor_l1
  simp only []
  by_cases c : b = 0
  · subst c
    refine Gives.neg (by simp) (Gives.now ?_)
    rw [← hg]; simp
  · refine Gives.pos (by simp; omega) (Gives.pos (by omega) (Gives.now ⟨⟨b, a % b, by rw [tmod_nat], by rw [gcd_step a b c, hg]⟩, ?_⟩))
    simp only [tmod_nat]
    have := Nat.mod_lt a (show 0 < b by omega)
    omega
theorem ra_common (m n : Nat) : Gives (fun k => T_ref01_common k m n) (fun r => r = (Nat.gcd m n : Nat)) := by
  refine Gives.step ?_
  simp only [T_ref01_common]
  refine Gives.bind (Q := fun r => r = ((Nat.gcd m n : Nat) : Int)) ?_ fun r hr => Gives.now hr
  refine Gives.loop (fun s => ∃ a b : Nat, s = ((a : Int), (b : Int)) ∧ Nat.gcd a b = Nat.gcd m n) (fun s => s.2.toNat) ?_ ⟨m, n, rfl, rfl⟩
  intro s ⟨a, b, hs, hg⟩
  subst hs
  unfold T_ref01_common_l1
  simp only []
  by_cases c : b = 0
  · subst c
    refine Gives.neg (by simp) (Gives.now ?_)
    rw [← hg]; simp
  · refine Gives.pos (by omega) (Gives.pos (by omega) (Gives.now ⟨⟨b, a % b, by rw [tmod_nat], by rw [gcd_step a b c, hg]⟩, ?_⟩))
    simp only [tmod_nat]
    have := Nat.mod_lt a (show 0 < b by omega)
    omega
theorem tdiv_nat (m n : Nat) : (m : Int).tdiv n = ((m / n : Nat) : Int) := by
  rw [Int.tdiv_eq_ediv_of_nonneg (by omega)]; rfl
theorem ra_Make {m n : Nat} (hn : 0 < n) (h1 : m ≤ 2305843009213693952) (h2 : n ≤ 1152921504606846976) : Gives (fun k => T_ratio_Make k m n) (fun r => r = (((m / Nat.gcd m n : Nat) : Int), ((n / Nat.gcd m n : Nat) : Int), 0)) := by
  have g0 : 0 < Nat.gcd m n := Nat.gcd_pos_of_pos_right m hn
  have d1 : m / Nat.gcd m n ≤ m := Nat.div_le_self _ _
  have d2 : n / Nat.gcd m n ≤ n := Nat.div_le_self _ _
  have d3 : 0 < n / Nat.gcd m n := Nat.div_pos (Nat.gcd_le_right m hn) g0
  refine Gives.step ?_
  simp only [T_ratio_Make]
  refine Gives.neg (by simp; omega) (Gives.bind (ra_divisor m n) fun g hg => ?_)
  subst hg
  simp only [tdiv_nat]
  generalize m / Nat.gcd m n = qa at d1 ⊢
  generalize n / Nat.gcd m n = qb at d2 d3 ⊢
  rw [w64_id (x := (qa : Int)) (by omega) (by omega), w64_id (x := (qb : Int)) (by omega) (by omega)]
  refine Gives.pos (by omega) (Gives.bind (Q := fun _ => True) ?_ fun _ _ => Gives.neg (by simp; omega) (Gives.now rfl))
  refine Gives.step ?_
  simp only [T_ratio_within]
  exact Gives.now trivial

/-! Sums of ratios. -/
/-- p / q is T / M, in lowest terms. -/
structure Rep (p q T M : Nat) : Prop where
  pos : 0 < q
  cop : Nat.gcd p q = 1
  eq : p * M = T * q
theorem Rep.dvd {p q T M : Nat} (h : Rep p q T M) : q ∣ M := by
  have : q ∣ p * M := ⟨T, by rw [h.eq, Nat.mul_comm]⟩
  exact Nat.Coprime.dvd_of_dvd_mul_left (Nat.coprime_comm.1 h.cop) this
theorem Rep.le {p q T M : Nat} (h : Rep p q T M) (hM : 0 < M) : p ≤ T ∧ q ≤ M := by
  obtain ⟨m, hm⟩ := h.dvd
  have e := h.eq
  have hm0 : 0 < m := by
    rcases Nat.eq_zero_or_pos m with c | c
    · subst c; omega
    · exact c
  refine ⟨?_, Nat.le_of_dvd hM h.dvd⟩
  have : p * m = T := by
    have h1 : q * (p * m) = q * T := by
      rw [hm] at e
      calc q * (p * m) = p * (q * m) := by grind
        _ = T * q := e
        _ = q * T := Nat.mul_comm _ _
    exact Nat.eq_of_mul_eq_mul_left h.pos h1
  calc p = p * 1 := by omega
    _ ≤ p * m := Nat.mul_le_mul_left p hm0
    _ = T := this
theorem Rep.uniq {p q p' q' T M : Nat} (h : Rep p q T M) (k : Rep p' q' T M) (hM : 0 < M) : p = p' ∧ q = q' := by
  have e : p * q' = p' * q := by
    have h1 : M * (p * q') = M * (p' * q) := by
      calc M * (p * q') = (p * M) * q' := by grind
        _ = (T * q) * q' := by rw [h.eq]
        _ = (T * q') * q := by grind
        _ = (p' * M) * q := by rw [k.eq]
        _ = M * (p' * q) := by grind
    exact Nat.eq_of_mul_eq_mul_left hM h1
  have d1 : q ∣ q' := Nat.Coprime.dvd_of_dvd_mul_left (Nat.coprime_comm.1 h.cop) ⟨p', by rw [e, Nat.mul_comm]⟩
  have d2 : q' ∣ q := Nat.Coprime.dvd_of_dvd_mul_left (Nat.coprime_comm.1 k.cop) ⟨p, by rw [← e, Nat.mul_comm]⟩
  have eq : q = q' := Nat.dvd_antisymm d1 d2
  subst eq
  exact ⟨Nat.eq_of_mul_eq_mul_right h.pos e, rfl⟩
theorem Rep.make {m n w : Nat} (hn : 0 < n) : Rep (m / Nat.gcd m n) (n / Nat.gcd m n) (m * w) (n * w) := by
  have g0 : 0 < Nat.gcd m n := Nat.gcd_pos_of_pos_right m hn
  refine ⟨Nat.div_pos (Nat.gcd_le_right m hn) g0, by rw [Nat.gcd_div (Nat.gcd_dvd_left m n) (Nat.gcd_dvd_right m n), Nat.div_self g0], ?_⟩
  obtain ⟨a, ha⟩ := Nat.gcd_dvd_left m n
  obtain ⟨b, hb⟩ := Nat.gcd_dvd_right m n
  generalize Nat.gcd m n = g at ha hb g0
  subst ha hb
  rw [Nat.mul_div_cancel_left _ g0, Nat.mul_div_cancel_left _ g0]
  grind
/-- The sum of two, as the function makes it. -/
theorem Rep.add {a b c d T U M : Nat} (h : Rep a b T M) (k : Rep c d U M) (hM : 0 < M) :
    let g := Nat.gcd b d
    let t := a * (d / g) + c * (b / g)
    let e := Nat.gcd t g
    Rep (t / e) (b / g * (d / e)) (T + U) M ∧ t ≤ T + U ∧ b / g * (d / e) ≤ M := by
  intro g t e
  have g0 : 0 < g := Nat.gcd_pos_of_pos_right b k.pos
  obtain ⟨B, hB⟩ : g ∣ b := Nat.gcd_dvd_left b d
  obtain ⟨D, hD⟩ : g ∣ d := Nat.gcd_dvd_right b d
  have eB : b / g = B := by rw [hB, Nat.mul_div_cancel_left _ g0]
  have eD : d / g = D := by rw [hD, Nat.mul_div_cancel_left _ g0]
  have cBD : Nat.gcd B D = 1 := by
    have := Nat.gcd_div (Nat.gcd_dvd_left b d) (Nat.gcd_dvd_right b d)
    rw [show Nat.gcd b d = g from rfl, eB, eD, Nat.div_self g0] at this
    exact this
  have ht : t = a * D + c * B := by show a * (d / g) + c * (b / g) = _; rw [eB, eD]
  have e0 : 0 < e := Nat.gcd_pos_of_pos_right t g0
  obtain ⟨t', ht'⟩ : e ∣ t := Nat.gcd_dvd_left t g
  obtain ⟨g', hg'⟩ : e ∣ g := Nat.gcd_dvd_right t g
  have et : t / e = t' := by rw [ht', Nat.mul_div_cancel_left _ e0]
  have ed : d / e = g' * D := by
    rw [hD, hg', Nat.mul_assoc, Nat.mul_div_cancel_left _ e0]
  have B0 : 0 < B := by
    rcases Nat.eq_zero_or_pos B with c | c
    · have := h.pos; subst c; omega
    · exact c
  have D0 : 0 < D := by
    rcases Nat.eq_zero_or_pos D with c | c
    · have := k.pos; subst c; omega
    · exact c
  have g'0 : 0 < g' := by
    rcases Nat.eq_zero_or_pos g' with c | c
    · subst c; omega
    · exact c
  have c1 : Nat.gcd t' g' = 1 := by
    have := Nat.gcd_div (Nat.gcd_dvd_left t g) (Nat.gcd_dvd_right t g)
    rw [show Nat.gcd t g = e from rfl, et, Nat.div_self e0] at this
    have e2 : g / e = g' := by rw [hg', Nat.mul_div_cancel_left _ e0]
    rwa [e2] at this
  have caB : Nat.Coprime a B := Nat.Coprime.coprime_dvd_right ⟨g, by rw [hB, Nat.mul_comm]⟩ h.cop
  have ccD : Nat.Coprime c D := Nat.Coprime.coprime_dvd_right ⟨g, by rw [hD, Nat.mul_comm]⟩ k.cop
  have ctB : Nat.Coprime t B := by
    show Nat.gcd t B = 1
    rw [ht, Nat.gcd_add_mul_right_left]
    exact Nat.Coprime.mul_left caB (Nat.coprime_comm.1 cBD)
  have ctD : Nat.Coprime t D := by
    show Nat.gcd t D = 1
    rw [ht, Nat.gcd_mul_right_add_left]
    exact Nat.Coprime.mul_left ccD cBD
  have td : t' ∣ t := ⟨e, by rw [ht', Nat.mul_comm]⟩
  have c2 : Nat.Coprime t' B := Nat.Coprime.coprime_dvd_left td ctB
  have c3 : Nat.Coprime t' D := Nat.Coprime.coprime_dvd_left td ctD
  have main : t * M = (T + U) * (g * B * D) := by
    have e1 : a * M = T * (g * B) := by rw [← hB]; exact h.eq
    have e2 : c * M = U * (g * D) := by rw [← hD]; exact k.eq
    calc t * M = (a * M) * D + (c * M) * B := by rw [ht]; grind
      _ = T * (g * B) * D + U * (g * D) * B := by rw [e1, e2]
      _ = (T + U) * (g * B * D) := by grind
  have lcm : g * B * D ∣ M := by
    have h1 : b ∣ M := h.dvd
    have h2 : d ∣ M := k.dvd
    have : Nat.lcm b d ∣ M := Nat.lcm_dvd h1 h2
    have e3 : Nat.lcm b d = g * B * D := by
      show b * d / g = _
      rw [hD, ← Nat.mul_assoc, Nat.mul_comm b g, Nat.mul_assoc, Nat.mul_div_cancel_left _ g0, hB]
    rwa [e3] at this
  obtain ⟨w, hw⟩ := lcm
  have w0 : 0 < w := by
    rcases Nat.eq_zero_or_pos w with c | c
    · subst c; omega
    · exact c
  have L0 : 0 < g * B * D := Nat.mul_pos (Nat.mul_pos g0 B0) D0
  rw [et, eB, ed]
  refine ⟨⟨Nat.mul_pos B0 (Nat.mul_pos g'0 D0), Nat.Coprime.mul_right c2 (Nat.Coprime.mul_right c1 c3), ?_⟩, ?_, ?_⟩
  · have h1 : e * (t' * M) = e * ((T + U) * (B * (g' * D))) := by
      calc e * (t' * M) = t * M := by rw [ht']; grind
        _ = (T + U) * (g * B * D) := main
        _ = e * ((T + U) * (B * (g' * D))) := by rw [hg']; grind
    exact Nat.eq_of_mul_eq_mul_left e0 h1
  · have h1 : (g * B * D) * (t * w) = (g * B * D) * (T + U) := by
      calc (g * B * D) * (t * w) = t * (g * B * D * w) := by grind
        _ = t * M := by rw [← hw]
        _ = (T + U) * (g * B * D) := main
        _ = _ := Nat.mul_comm _ _
    have h2 := Nat.eq_of_mul_eq_mul_left L0 h1
    calc t = t * 1 := by omega
      _ ≤ t * w := Nat.mul_le_mul_left t w0
      _ = T + U := h2
  · have : B * (g' * D) ∣ M := by
      refine ⟨e * w, ?_⟩
      rw [hw, hg']; grind
    exact Nat.le_of_dvd hM this
/-! Words of 64 bits. -/

theorem r01_valid {p q : Nat} (h : Nat.gcd p q = 1) (h0 : 0 < q) (h1 : p ≤ 2305843009213693952) (h2 : q ≤ 1152921504606846976) : Gives (fun k => T_ref01_Valid k p q) (· = true) := by
  refine Gives.step ?_
  simp only [T_ref01_Valid]
  refine Gives.bind (Q := fun b => b = true) ?_ fun b hb => Gives.now hb
  refine Gives.pos (by simp; omega) (Gives.bind (ra_common p q) fun g hg => Gives.now ?_)
  rw [hg, h]; rfl

/-! The order of ratios. -/
theorem ro_order : ∀ (n a b c d : Nat), b + d < n → 0 < b → 0 < d → a < 4611686018427387904 → c < 4611686018427387904 → b < 4611686018427387904 → d < 4611686018427387904 → Gives (fun k => T_ref01_order k a b c d) (fun r => (a * d < c * b ∧ r = -1) ∨ (a * d = c * b ∧ r = 0) ∨ (c * b < a * d ∧ r = 1))
  | 0, _, _, _, _, h, _, _, _, _, _, _ => by omega
  | n + 1, a, b, c, d, h, hb, hd, la, lc, lb, ld => by
    refine Gives.step ?_
    simp only [T_ref01_order, tdiv_nat, tmod_nat]
    have q1 : a / b ≤ a := Nat.div_le_self _ _
    have q2 : c / d ≤ c := Nat.div_le_self _ _
    have ea := Nat.div_add_mod a b
    have ec := Nat.div_add_mod c d
    have ra := Nat.mod_lt a hb
    have rc := Nat.mod_lt c hd
    have fin : ∀ (u v : Nat) (r : Int), (u < v ↔ a * d < c * b) → (u = v ↔ a * d = c * b) → ((u < v ∧ r = -1) ∨ (u = v ∧ r = 0) ∨ (v < u ∧ r = 1)) → (a * d < c * b ∧ r = -1) ∨ (a * d = c * b ∧ r = 0) ∨ (c * b < a * d ∧ r = 1) := by
      intro u v r h1 h2 h3
      rcases h3 with ⟨h, e⟩ | ⟨h, e⟩ | ⟨h, e⟩
      · exact Or.inl ⟨h1.1 h, e⟩
      · exact Or.inr (Or.inl ⟨h2.1 h, e⟩)
      · refine Or.inr (Or.inr ⟨?_, e⟩)
        have n1 : ¬ a * d < c * b := fun g => by have := h1.2 g; omega
        have n2 : ¬ a * d = c * b := fun g => by have := h2.2 g; omega
        omega
    generalize a / b = p at ea q1 ⊢
    generalize c / d = q at ec q2 ⊢
    generalize a % b = a' at ea ra ⊢
    generalize c % d = c' at ec rc ⊢
    rw [w64_id (x := (p : Int)) (by omega) (by omega), w64_id (x := (q : Int)) (by omega) (by omega)]
    have eA : a * d = p * (b * d) + a' * d := by rw [← ea]; grind
    have eC : c * b = q * (b * d) + c' * b := by rw [← ec]; grind
    have lA : a' * d < b * d := Nat.mul_lt_mul_of_pos_right ra hd
    have lC : c' * b < b * d := by rw [Nat.mul_comm b d]; exact Nat.mul_lt_mul_of_pos_right rc hb
    refine Gives.pos (by omega) (Gives.pos (by omega) (Gives.ite (fun cc => ?_) fun cc => ?_))
    · have ne : p ≠ q := by
        intro e; subst e; simp at cc
      refine Gives.ite (fun lt => Gives.now ?_) fun lt => Gives.now ?_
      · have : (p + 1) * (b * d) ≤ q * (b * d) := Nat.mul_le_mul_right _ (by omega)
        rw [Nat.add_mul] at this
        exact Or.inl ⟨by omega, rfl⟩
      · have : (q + 1) * (b * d) ≤ p * (b * d) := Nat.mul_le_mul_right _ (by omega)
        rw [Nat.add_mul] at this
        exact Or.inr (Or.inr ⟨by omega, rfl⟩)
    · have eq : p = q := by
        simp at cc; omega
      subst eq
      refine Gives.pos (by omega) (Gives.pos (by omega) (Gives.ite (fun z => Gives.now ?_) fun z => Gives.ite (fun z1 => Gives.now ?_) fun z1 => Gives.ite (fun z2 => Gives.now ?_) fun z2 => ?_))
      · simp at z
        obtain ⟨rfl, rfl⟩ := z
        exact Or.inr (Or.inl ⟨by omega, rfl⟩)
      · have e1 : a' = 0 := by omega
        subst e1
        simp at z
        have : 0 < c' * b := Nat.mul_pos (by omega) hb
        exact Or.inl ⟨by omega, rfl⟩
      · have e1 : c' = 0 := by omega
        subst e1
        have : 0 < a' * d := Nat.mul_pos (by omega) hd
        exact Or.inr (Or.inr ⟨by omega, rfl⟩)
      · refine Gives.bind (ro_order n d c' b a' (by omega) (by omega) (by omega) (by omega) (by omega) (by omega) (by omega)) fun r hr => Gives.now ?_
        rw [Nat.mul_comm d a', Nat.mul_comm b c'] at hr
        exact fin (a' * d) (c' * b) r (by omega) (by omega) hr
theorem ro_cmp {p q p' q' : Nat} (h : Nat.gcd p q = 1) (h0 : 0 < q) (h1 : p ≤ 2305843009213693952) (h2 : q ≤ 1152921504606846976) (g : Nat.gcd p' q' = 1) (g0 : 0 < q') (g1 : p' ≤ 2305843009213693952) (g2 : q' ≤ 1152921504606846976) :
    Gives (fun k => T_ref01_Cmp k p q p' q') (fun r => (p * q' < p' * q ∧ r = -1) ∨ (p * q' = p' * q ∧ r = 0) ∨ (p' * q < p * q' ∧ r = 1)) := by
  refine Gives.step ?_
  simp only [T_ref01_Cmp]
  refine Gives.bind (Q := fun r => r = false) ?_ fun r hr => ?_
  · refine Gives.bind (r01_valid h h0 h1 h2) fun v hv => Gives.neg (by simp [hv]) (Gives.bind (r01_valid g g0 g1 g2) fun w hw => Gives.now (by simp [hw]))
  · subst hr
    refine Gives.neg (by simp) (Gives.bind (ro_order (q + q' + 1) p q p' q' (by omega) h0 g0 (by omega) (by omega) (by omega) (by omega)) fun r hr => Gives.now hr)
theorem Rep.scale {p q T M : Nat} (h : Rep p q T M) (k : Nat) : Rep p q (T * k) (M * k) := ⟨h.pos, h.cop, by have := h.eq; grind⟩
theorem Rep.cmp {p q T M p' q' T' M' : Nat} (h : Rep p q T M) (k : Rep p' q' T' M') (hM : 0 < M) (hM' : 0 < M') (l : T * M' ≤ T' * M) : p * q' ≤ p' * q := by
  have e1 : (p * q') * (M * M') = (T * M') * (q * q') := by have := h.eq; grind
  have e2 : (p' * q) * (M * M') = (T' * M) * (q * q') := by have := k.eq; grind
  have : (p * q') * (M * M') ≤ (p' * q) * (M * M') := by rw [e1, e2]; exact Nat.mul_le_mul_right _ l
  exact Nat.le_of_mul_le_mul_right this (Nat.mul_pos hM hM')
theorem Rep.same {p q T M p' q' T' M' : Nat} (h : Rep p q T M) (k : Rep p' q' T' M') (hM : 0 < M) (hM' : 0 < M') (l : T * M' = T' * M) : p = p' ∧ q = q' := by
  have a := h.scale M'
  have b := k.scale M
  rw [l, Nat.mul_comm M M'] at a
  exact a.uniq b (Nat.mul_pos hM' hM)

theorem mk_rep {m n : Int} (hm : 0 ≤ m) (hn : 0 < n) (h1 : m ≤ 2305843009213693952) (h2 : n ≤ 1152921504606846976) : Gives (fun k => T_ratio_Make k m n) (fun r => ∃ P Q : Nat, r = ((P : Int), (Q : Int), 0) ∧ Rep P Q m.toNat n.toNat) := by
  have := ra_Make (m := m.toNat) (n := n.toNat) (by omega) (by omega) (by omega)
  rw [Int.toNat_of_nonneg hm, Int.toNat_of_nonneg (show 0 ≤ n by omega)] at this
  refine this.mono fun r hr => ⟨_, _, hr, ?_⟩
  have R := Rep.make (m := m.toNat) (n := n.toNat) (w := 1) (by omega)
  rw [Nat.mul_one, Nat.mul_one] at R
  exact R
/-- Whether a flat query lies outside. -/
def FlOk (f n : Nat) (l : List (Int × Int)) : Prop := (f = 0 ∧ ∀ p, 0 ≤ p → p < (n : Int) → (rp l p).1 ≤ 0 ∧ 0 ≤ (rp l p).2) ∨ (f = 1 ∧ ∃ p, 0 ≤ p ∧ p < (n : Int) ∧ (0 < (rp l p).1 ∨ (rp l p).2 < 0))
def rnum (E C T : Int) (f : Nat) : Nat := if E = 0 then f else if 2 * C < T then 2 else if C < T then (C * C + (C - T) * (C - T)).toNat else (C * C - (C - T) * (C - T)).toNat
def rden (E C T : Int) : Nat := if E = 0 then 1 else if 2 * C < T then 1 else (C * C).toNat
theorem sq_abs {a b : Int} (h1 : -b ≤ a) (h2 : a ≤ b) : a * a ≤ b * b := by
  have := prod_bound (a := a) (b := a) (A := b) (B := b) h1 h2 h1 h2
  omega
theorem r_bound {E C T : Int} {f : Nat} (hf : f ≤ 1) (c1 : 2097152 ≤ C) (c2 : C ≤ 570425344) (t0 : 0 ≤ T) : rnum E C T f ≤ 2305843009213693952 ∧ 0 < rden E C T ∧ rden E C T ≤ 1152921504606846976 := by
  have q := prod_bound (a := C) (b := C) (A := 570425344) (B := 570425344) (by omega) c2 (by omega) c2
  have q1 := Int.mul_le_mul (a := 2097152) (b := 2097152) (c := C) (d := C) c1 c1 (by omega) (by omega)
  have z := sq_nonneg (C - T)
  unfold rnum rden
  by_cases hE : E = 0
  · rw [if_pos hE, if_pos hE]; omega
  rw [if_neg hE, if_neg hE]
  by_cases h : 2 * C < T
  · rw [if_pos h, if_pos h]; omega
  rw [if_neg h, if_neg h]
  have s := sq_abs (a := C - T) (b := C) (by omega) (by omega)
  split <;> omega
theorem r_mono {E C T T' : Int} {f f' : Nat} (hf : f ≤ f') (c1 : 2097152 ≤ C) (t0 : 0 ≤ T) (t1 : T ≤ T') : rnum E C T f * rden E C T' ≤ rnum E C T' f' * rden E C T := by
  have z := sq_nonneg (C - T)
  have z' := sq_nonneg (C - T')
  unfold rnum rden
  by_cases hE : E = 0
  · rw [if_pos hE, if_pos hE, if_pos hE, if_pos hE]; omega
  rw [if_neg hE, if_neg hE, if_neg hE, if_neg hE]
  by_cases h : 2 * C < T
  · rw [if_pos h, if_pos h, if_pos (by omega), if_pos (by omega)]
    exact Nat.le_refl _
  rw [if_neg h, if_neg h]
  have s := sq_abs (a := C - T) (b := C) (by omega) (by omega)
  by_cases h' : 2 * C < T'
  · rw [if_pos h', if_pos h']
    split <;> omega
  rw [if_neg h', if_neg h']
  refine Nat.mul_le_mul_right _ ?_
  have s' := sq_abs (a := C - T') (b := C) (by omega) (by omega)
  by_cases d : C < T
  · rw [if_pos d, if_pos (by omega)]
    have := sq_abs (a := T - C) (b := T' - C) (by omega) (by omega)
    have e1 : (T - C) * (T - C) = (C - T) * (C - T) := by grind
    have e2 : (T' - C) * (T' - C) = (C - T') * (C - T') := by grind
    omega
  · rw [if_neg d]
    by_cases d' : C < T'
    · rw [if_pos d']; omega
    · rw [if_neg d']
      have := sq_abs (a := C - T') (b := C - T) (by omega) (by omega)
      omega
theorem sk_flat {n : Nat} {l : List (Int × Int)} (hn : n ≤ 8) (hI : Ivs n l) : Gives (fun k => T_sketch_flat k n l) (fun r => ∃ f P Q : Nat, FlOk f n l ∧ r = ((P : Int), (Q : Int), 0) ∧ Rep P Q f 1) := by
  have lI := hI.len
  refine Gives.step ?_
  simp only [T_sketch_flat]
  refine Gives.bind (Q := fun v => (v = .inl () ∧ ∀ p, 0 ≤ p → p < (n : Int) → (rp l p).1 ≤ 0 ∧ 0 ≤ (rp l p).2) ∨ ∃ r, v = .inr r ∧ (∃ P Q : Nat, r = ((0 : Int), (P : Int), (Q : Int)) ∧ Rep P Q 1 1) ∧ ∃ p, 0 ≤ p ∧ p < (n : Int) ∧ (0 < (rp l p).1 ∨ (rp l p).2 < 0)) ?_ fun v hv => ?_
  · refine Gives.loop (fun i => 0 ≤ i ∧ i ≤ (n : Int) ∧ ∀ p, 0 ≤ p → p < i → (rp l p).1 ≤ 0 ∧ 0 ≤ (rp l p).2) (fun i => ((n : Int) - i).toNat) ?_ ⟨by omega, by omega, fun p h1 h2 => by omega⟩
    intro i ⟨i1, i2, i3⟩
    unfold T_sketch_flat_l1
    refine Gives.ite (fun c => Gives.pos ⟨i1, c⟩ (Gives.opt (get_rp i1 (by omega)) (Gives.ite (fun c2 => ?_) fun c2 => ?_))) fun c => Gives.now (Or.inl ⟨rfl, fun p h1 h2 => i3 p h1 (by omega)⟩)
    · refine Gives.bind (mk_rep (m := 1) (n := 1) (by omega) (by omega) (by omega) (by omega)) fun r hr => Gives.now (Or.inr ?_)
      obtain ⟨P, Q, rfl, R⟩ := hr
      simp at c2
      exact ⟨_, rfl, ⟨P, Q, rfl, R⟩, i, i1, c, c2⟩
    · rw [w64_id (by omega) (by omega)]
      simp at c2
      refine Gives.now ⟨⟨by omega, by omega, fun p h1 h2 => ?_⟩, by omega⟩
      by_cases e : p = i
      · subst e; omega
      · exact i3 p h1 (by omega)
  · rcases hv with ⟨rfl, hv⟩ | ⟨r, rfl, ⟨P, Q, rfl, R⟩, hv⟩
    · refine Gives.bind (mk_rep (m := 0) (n := 1) (by omega) (by omega) (by omega) (by omega)) fun r hr => Gives.now ?_
      obtain ⟨P, Q, rfl, R⟩ := hr
      exact ⟨0, P, Q, Or.inl ⟨rfl, hv⟩, rfl, R⟩
    · exact Gives.now ⟨1, P, Q, Or.inr ⟨rfl, hv⟩, rfl, R⟩
theorem tot_nonneg {K qs : Int → Int} {n : Nat} {l : List (Int × Int)} (hK : ∀ p, 0 ≤ p → p < (n : Int) → 0 ≤ K p) : 0 ≤ tot K qs n l :=
  sg_nonneg fun p p0 p1 => Int.mul_nonneg (sq_nonneg _) (hK p p0 p1)
theorem sk_region {x s : List Int} {E : Int} {n : Nat} (h : Skn x s E n) : ∃ (C : Int) (qs K : Int → Int), 2097152 ≤ C ∧ C ≤ 570425344 ∧ (∀ p, 0 ≤ p → p < (n : Int) → 0 ≤ K p) ∧
    ∀ l, Ivs n l → Gives (fun k => T_sketch_Region k x.length s E n l) (fun r => ∃ f P Q : Nat, (E = 0 → FlOk f n l) ∧ f ≤ 1 ∧ r = ((P : Int), (Q : Int), 0) ∧ Rep P Q (rnum E C (tot K qs n l) f) (rden E C (tot K qs n l))) := by
  have n2 := h.n2
  have e := h.energy
  have main : ∀ (C : Int) (qs K : Int → Int), 2097152 ≤ C → C ≤ 570425344 → (∀ p, 0 ≤ p → p < (n : Int) → 0 ≤ K p) → (1 ≤ E → ∀ l, Ivs n l → Gives (fun k => T_sketch_outside k x.length s E n l) (fun r => (r.2.2 = true ∧ 2 * C < tot K qs n l) ∨ (r = (tot K qs n l, C, false) ∧ tot K qs n l ≤ 2 * C))) →
      ∀ l, Ivs n l → Gives (fun k => T_sketch_Region k x.length s E n l) (fun r => ∃ f P Q : Nat, (E = 0 → FlOk f n l) ∧ f ≤ 1 ∧ r = ((P : Int), (Q : Int), 0) ∧ Rep P Q (rnum E C (tot K qs n l) f) (rden E C (tot K qs n l))) := by
    intro C qs K c1 c2 hK ho l hI
    have lI := hI.len
    have t0 := tot_nonneg (qs := qs) (l := l) hK
    refine Gives.step ?_
    simp only [T_sketch_Region]
    refine Gives.bind (sk_valid h) fun v hv => Gives.neg (by simp [hv]) (Gives.neg (by simp [h.len]) (Gives.bind (Q := fun v => v = .inl false) ?_ fun v hv => ?_))
    · refine Gives.loop (fun t => t.1 = false ∧ 0 ≤ t.2 ∧ t.2 ≤ (n : Int)) (fun t => ((n : Int) - t.2).toNat) ?_ ⟨rfl, by simp only []; omega, by simp only []; omega⟩
      intro ⟨b, i⟩ ⟨i0, i1, i2⟩
      simp only at i0 i1 i2
      subst i0
      unfold T_sketch_Region_l1
      simp only []
      refine Gives.ite (fun c => Gives.pos ⟨i1, c⟩ (Gives.opt (get_rp i1 (by omega)) ?_)) fun c => Gives.now rfl
      have iv := hI.ok i i1 c
      have e1 : imin (rp l i).1 (rp l i).2 = (rp l i).1 := by unfold imin; split <;> omega
      have e2 : imax (rp l i).1 (rp l i).2 = (rp l i).2 := by unfold imax; split <;> omega
      rw [e1, e2, w64_id (by omega) (by omega)]
      refine Gives.neg (by simp; omega) (Gives.now ⟨⟨?_, by simp only []; omega, by simp only []; omega⟩, by simp only []; omega⟩)
      simp only []
      simp; omega
    · subst hv
      simp only []
      refine Gives.neg (by simp) (Gives.ite (fun z => ?_) fun z => ?_)
      · refine Gives.bind (sk_flat n2 hI) fun r hr => ?_
        obtain ⟨f, P, Q, hf, rfl, R⟩ := hr
        have f1 : f ≤ 1 := by rcases hf with ⟨hf, _⟩ | ⟨hf, _⟩ <;> omega
        refine Gives.now ⟨f, P, Q, fun _ => hf, f1, rfl, ?_⟩
        unfold rnum rden
        rw [if_pos z, if_pos z]
        exact R
      · have q := prod_bound (a := C) (b := C) (A := 570425344) (B := 570425344) (by omega) c2 (by omega) c2
        have q1 := Int.mul_le_mul (a := 2097152) (b := 2097152) (c := C) (d := C) c1 c1 (by omega) (by omega)
        refine Gives.bind (ho (by omega) l hI) fun r hr => ?_
        have rn : ∀ f : Nat, rnum E C (tot K qs n l) f = if 2 * C < tot K qs n l then 2 else if C < tot K qs n l then (C * C + (C - tot K qs n l) * (C - tot K qs n l)).toNat else (C * C - (C - tot K qs n l) * (C - tot K qs n l)).toNat := fun f => by unfold rnum; rw [if_neg z]
        have rd' : rden E C (tot K qs n l) = if 2 * C < tot K qs n l then 1 else (C * C).toNat := by unfold rden; rw [if_neg z]
        rcases hr with ⟨r1, r2⟩ | ⟨rfl, r2⟩
        · refine Gives.pos r1 (Gives.bind (mk_rep (m := 2) (n := 1) (by omega) (by omega) (by omega) (by omega)) fun r hr => ?_)
          obtain ⟨P, Q, rfl, R⟩ := hr
          refine Gives.now ⟨0, P, Q, fun hE => absurd hE z, by omega, rfl, ?_⟩
          rw [rn, rd', if_pos r2, if_pos r2]
          exact R
        · simp only []
          generalize tot K qs n l = T at *
          have s1 := sq_abs (a := C - T) (b := C) (by omega) (by omega)
          have z0 := sq_nonneg (C - T)
          rw [w64_id (x := C - T) (by omega) (by omega), w64_id (x := C * C) (by omega) (by omega), w64_id (x := (C - T) * (C - T)) (by omega) (by omega), w64_id (x := C * C + (C - T) * (C - T)) (by omega) (by omega), w64_id (x := C * C - (C - T) * (C - T)) (by omega) (by omega)]
          refine Gives.neg (by simp) (Gives.ite (fun c => ?_) fun c => ?_)
          · refine Gives.bind (mk_rep (by omega) (by omega) (by omega) (by omega)) fun r hr => ?_
            obtain ⟨P, Q, rfl, R⟩ := hr
            refine Gives.now ⟨0, P, Q, fun hE => absurd hE z, by omega, rfl, ?_⟩
            rw [rn, rd', if_neg (show ¬ 2 * C < T by omega), if_neg (show ¬ 2 * C < T by omega), if_pos (show C < T by omega)]
            exact R
          · refine Gives.bind (mk_rep (by omega) (by omega) (by omega) (by omega)) fun r hr => ?_
            obtain ⟨P, Q, rfl, R⟩ := hr
            refine Gives.now ⟨0, P, Q, fun hE => absurd hE z, by omega, rfl, ?_⟩
            rw [rn, rd', if_neg (show ¬ 2 * C < T by omega), if_neg (show ¬ 2 * C < T by omega), if_neg (show ¬ C < T by omega)]
            exact R
  by_cases hE : 1 ≤ E
  · obtain ⟨C, qs, K, c1, c2, hK, _, ho⟩ := sk_outside h hE
    exact ⟨C, qs, K, c1, c2, hK, main C qs K c1 c2 hK fun _ => ho⟩
  · exact ⟨2097152, fun _ => 0, fun _ => 0, by omega, by omega, fun _ _ _ => Int.le_refl _, main _ _ _ (by omega) (by omega) (fun _ _ _ => Int.le_refl _) fun hh => absurd hh hE⟩

-- Intervals within others, of which none is empty, never give a lesser bound of a region: SketchNarrow returns true for every list.
theorem awake_k (k : Nat) : T_law21_awake (k + 50) = some true := by kernel_rfl
theorem awake_ok : Gives (fun k => T_law21_awake k) (· = true) := ⟨true, ⟨50, fun k hk => by
  obtain ⟨m, rfl⟩ : ∃ m, k = m + 50 := ⟨k - 50, by omega⟩
  exact awake_k m⟩, rfl⟩
theorem src_measure {L : List Int} {p : Int} (h : SrcOk L p) : Gives (fun k => T_keep_Src_Measure k L p) (fun r => SrcOk L r.2.2.2) := by
  refine Gives.step ?_
  simp only [T_keep_Src_Measure]
  refine Gives.bind (src_range h 1 5 (by omega) (by omega) (by omega)) fun a ha => Gives.bind (Q := fun r => SrcOk L r.1) ?_ fun b hb => Gives.bind (Q := fun r => SrcOk L r.1) ?_ fun c hc => Gives.now hc
  · refine Gives.ite (fun _ => Gives.bind (src_pick ha.2.2 _ (by simp) (by simp)) fun v hv => Gives.now hv.2) fun _ => Gives.now ha.2.2
  · refine Gives.ite (fun _ => Gives.bind (src_pick hb _ (by simp) (by simp)) fun v hv => Gives.now hv.2) fun _ => Gives.now hb
theorem src_cuts {L : List Int} {p : Int} (h : SrcOk L p) : Gives (fun k => T_keep_Src_Cuts k L p) (fun r => SrcOk L r.2) := by
  refine Gives.step ?_
  simp only [T_keep_Src_Cuts]
  refine Gives.bind (src_pick h _ (by simp) (by simp)) fun a ha => Gives.bind (src_pick ha.2 _ (by simp) (by simp)) fun b hb => Gives.bind (src_n hb.2 16 (by omega) (by omega)) fun c hc => Gives.bind (Q := fun r => SrcOk L r.2.1) ?_ fun d hd => Gives.now hd
  have b1 : 1 ≤ b.1 ∧ b.1 ≤ 60 := by
    have := hb.1
    simp at this
    omega
  refine Gives.loop (fun t => SrcOk L t.2.2.2.1 ∧ (t.1 : Int) + t.2.2.1 ≤ 16 ∧ t.2.2.1 ≤ 16) (fun t => t.2.2.1.toNat) ?_ ⟨hc.2.2, by simp only []; omega, by simp only []; omega⟩
  intro ⟨l, v, n, q, o⟩ ⟨i1, i2, i3⟩
  simp only at i1 i2 i3
  unfold T_keep_Src_Cuts_l1
  simp only []
  refine Gives.ite (fun cc => ?_) fun cc => Gives.now i1
  refine Gives.bind (src_range i1 1 b.1 (by omega) (by omega) (by omega)) fun d hd => Gives.pos (by unfold LIM; omega) ?_
  rw [w64_id (x := n - 1) (by omega) (by omega)]
  exact Gives.now ⟨⟨hd.2.2, by simp only []; omega, by simp only []; omega⟩, by simp only []; omega⟩
theorem src_normal {L : List Int} {p : Int} (h : SrcOk L p) : Gives (fun k => T_law21_normal k L p) (fun r => 2 ≤ r.1 ∧ r.1 ≤ 32 ∧ 1 ≤ r.2.1 ∧ r.2.1 ≤ 8 ∧ r.2.1 ≤ r.1 ∧ SrcOk L r.2.2.2) := by
  refine Gives.step ?_
  simp only [T_law21_normal]
  refine Gives.bind (Q := fun r => 2 ≤ r.2.2.2.1 ∧ r.2.2.2.1 ≤ 32 ∧ 1 ≤ r.2.2.2.2.1 ∧ r.2.2.2.2.1 ≤ 8 ∧ r.2.2.2.2.1 ≤ r.2.2.2.1 ∧ SrcOk L r.2.2.2.2.2.2) ?_ fun r hr => Gives.now hr
  refine Gives.step ?_
  simp only [T_keep_Src_Scheme]
  refine Gives.bind (src_measure h) fun a ha => Gives.bind (src_length ha) fun b hb => ?_
  have e : 1 ≤ imin 8 b.1 ∧ imin 8 b.1 ≤ 8 ∧ imin 8 b.1 ≤ b.1 := by unfold imin; split <;> omega
  refine Gives.bind (src_range hb.2.2 1 (imin 8 b.1) (by omega) (by omega) (by omega)) fun c hc => Gives.bind (src_cuts hc.2.2) fun d hd => Gives.now ⟨hb.1, hb.2.1, hc.1, by simp only []; omega, by simp only []; omega, hd⟩
theorem sn_loop {L : List Int} {p : Int} (h : SrcOk L p) {n : Nat} (hn : n ≤ 8) {a1 b1 d1 f1 : Int} {c1 e1 : List Int} :
    Gives (fun k => loopT (T_law21_SketchNarrow_l1 k a1 L b1 n c1 d1 e1 f1) k (0, 0, 0, p, [], [])) (fun r => r.1 = n ∧ r.2.1 = n ∧ Ivs n r.2.2.1 ∧ Ivs n r.2.2.2 ∧ ∀ q, 0 ≤ q → q < (n : Int) → (rp r.2.2.1 q).1 ≤ (rp r.2.2.2 q).1 ∧ (rp r.2.2.2 q).2 ≤ (rp r.2.2.1 q).2) := by
  refine Gives.loop (fun t => 0 ≤ t.2.2.1 ∧ t.2.2.1 ≤ (n : Int) ∧ (t.1 : Int) = t.2.2.1 ∧ (t.2.1 : Int) = t.2.2.1 ∧ SrcOk L t.2.2.2.1 ∧ Ivs t.1 t.2.2.2.2.1 ∧ Ivs t.2.1 t.2.2.2.2.2 ∧ ∀ q, 0 ≤ q → q < t.2.2.1 → (rp t.2.2.2.2.1 q).1 ≤ (rp t.2.2.2.2.2 q).1 ∧ (rp t.2.2.2.2.2 q).2 ≤ (rp t.2.2.2.2.1 q).2) (fun t => ((n : Int) - t.2.2.1).toNat) ?_
    ⟨by simp only []; omega, by simp only []; omega, rfl, rfl, h, ⟨rfl, fun q h1 h2 => by simp only at h2; omega⟩, ⟨rfl, fun q h1 h2 => by simp only at h2; omega⟩, fun q h1 h2 => by simp only at h2; omega⟩
  intro ⟨wl, nl, i, pos, W, N⟩ ⟨i1, i2, i3, i4, i5, i6, i7, i8⟩
  simp only at i1 i2 i3 i4 i5 i6 i7 i8
  have w1 := i6.len
  have w2 := i7.len
  unfold T_law21_SketchNarrow_l1
  simp only []
  refine Gives.ite (fun c => ?_) fun c => Gives.now ?_
  · refine Gives.bind (src_range i5 (-400) 400 (by omega) (by omega) (by omega)) fun a ha => Gives.bind (src_n ha.2.2 300 (by omega) (by omega)) fun b hb => Gives.pos (by unfold LIM; omega) ?_
    obtain ⟨a1, a2, a3⟩ := ha
    obtain ⟨b1, b2, b3⟩ := hb
    rw [w64_id (x := a.1 + b.1) (by omega) (by omega), w64_id (x := a.1 + b.1 - a.1) (by omega) (by omega), w64_id (x := a.1 + b.1 - a.1 + 1) (by omega) (by omega)]
    refine Gives.bind (src_n b3 (a.1 + b.1 - a.1 + 1) (by omega) (by omega)) fun d hd => ?_
    obtain ⟨d1, d2, d3⟩ := hd
    rw [w64_id (x := a.1 + d.1) (by omega) (by omega), w64_id (x := a.1 + b.1 - (a.1 + d.1)) (by omega) (by omega), w64_id (x := a.1 + b.1 - (a.1 + d.1) + 1) (by omega) (by omega)]
    refine Gives.bind (src_n d3 (a.1 + b.1 - (a.1 + d.1) + 1) (by omega) (by omega)) fun e he => Gives.pos (by unfold LIM; omega) ?_
    obtain ⟨e1, e2, e3⟩ := he
    rw [w64_id (x := a.1 + d.1 + e.1) (by omega) (by omega), w64_id (x := i + 1) (by omega) (by omega), List.drop_zero, List.drop_zero, List.take_of_length_le (by omega), List.take_of_length_le (by omega)]
    refine Gives.now ⟨⟨by simp only []; omega, by simp only []; omega, by simp only []; omega, by simp only []; omega, e3, ⟨by simp [w1], fun q h1 h2 => ?_⟩, ⟨by simp [w2], fun q h1 h2 => ?_⟩, fun q h1 h2 => ?_⟩, by simp only []; omega⟩
    · simp only at h2 ⊢
      by_cases eq : q = i
      · rw [rp_app_1 h1 (by omega)]; simp only []; omega
      · rw [rp_app_l (by omega)]; exact i6.ok q h1 (by omega)
    · simp only at h2 ⊢
      by_cases eq : q = i
      · rw [rp_app_1 h1 (by omega)]; simp only []; omega
      · rw [rp_app_l (by omega)]; exact i7.ok q h1 (by omega)
    · simp only at h2 ⊢
      by_cases eq : q = i
      · rw [rp_app_1 h1 (by omega), rp_app_1 h1 (by omega)]; simp only []; omega
      · rw [rp_app_l (by omega), rp_app_l (by omega)]; exact i8 q h1 (by omega)
  · have e : i = n := by omega
    have ew : wl = n := by omega
    have en : nl = n := by omega
    subst e ew
    subst en
    exact ⟨rfl, rfl, i6, i7, i8⟩
theorem pure_sketchNarrow (a0 : List Int) (w0 : ∀ n ∈ a0, (Lit.int .i64 n).wf = true) : ∃ k, T_law21_SketchNarrow k a0 = some true := by
  refine Gives.true (f := fun k => T_law21_SketchNarrow k a0) ?_
  obtain ⟨s0, s1⟩ := src_new a0
  refine Gives.step ?_
  simp only [T_law21_SketchNarrow]
  refine Gives.bind s1 fun _ _ => Gives.bind (src_normal s0) fun a ha => ?_
  obtain ⟨a1, a2, a3, a4, a5, a6⟩ := ha
  refine Gives.bind (src_list a6 a.1 a1 a2) fun b hb => ?_
  obtain ⟨b1, b2, b3⟩ := hb
  have hx : Win b.1 := ⟨by omega, by omega, b2⟩
  obtain ⟨n, en⟩ : ∃ n : Nat, a.2.1 = n := ⟨a.2.1.toNat, by omega⟩
  rw [en] at a3 a4 a5 ⊢
  refine Gives.bind (skn_of hx (n := n) (by omega) (by omega) (by omega)) fun f hf => ?_
  obtain ⟨f1, f2, f3⟩ := hf
  refine Gives.bind (sn_loop b3 (by omega)) fun g hg => ?_
  obtain ⟨g1, g2, g3, g4, g5⟩ := hg
  rw [g1, g2, f1]
  obtain ⟨C, qs, K, c1, c2, hK, ho⟩ := sk_region f2
  refine Gives.bind (ho _ g3) fun u hu => Gives.bind (ho _ g4) fun v hv => ?_
  obtain ⟨fu, P, Q, u1, u2, rfl, uR⟩ := hu
  obtain ⟨fv, P', Q', v1, v2, rfl, vR⟩ := hv
  have tm : tot K qs n g.2.2.1 ≤ tot K qs n g.2.2.2 := sg_le fun p p0 p1 => by
    have d := dp_mono (q := qs p) (g5 p p0 p1).1 (g5 p p0 p1).2
    have d0 : 0 ≤ dp (qs p) (rp g.2.2.1 p) := by unfold dp imax; split <;> split <;> omega
    exact Int.mul_le_mul_of_nonneg_right (Int.mul_le_mul d d d0 (by omega)) (hK p p0 p1)
  have t0 := tot_nonneg (qs := qs) (l := g.2.2.1) hK
  have t1 := tot_nonneg (qs := qs) (l := g.2.2.2) hK
  have bu := r_bound (E := f.2.2.1) (f := fu) u2 c1 c2 t0
  have bv := r_bound (E := f.2.2.1) (f := fv) v2 c1 c2 t1
  have le : rnum f.2.2.1 C (tot K qs n g.2.2.1) fu * rden f.2.2.1 C (tot K qs n g.2.2.2) ≤ rnum f.2.2.1 C (tot K qs n g.2.2.2) fv * rden f.2.2.1 C (tot K qs n g.2.2.1) := by
    by_cases hE : f.2.2.1 = 0
    · refine r_mono ?_ c1 t0 tm
      have k1 := u1 hE
      have k2 := v1 hE
      rcases k1 with ⟨k1, _⟩ | ⟨k1, q, q0, q1, q2⟩
      · omega
      · rcases k2 with ⟨_, k2⟩ | ⟨k2, _⟩
        · have := k2 q q0 q1
          have := g5 q q0 q1
          omega
        · omega
    · have : ∀ T f', rnum f.2.2.1 C T f' = rnum f.2.2.1 C T 0 := fun T f' => by unfold rnum; rw [if_neg hE, if_neg hE]
      rw [this _ fu, this _ fv]
      exact r_mono (Nat.le_refl _) c1 t0 tm
  have cmp := uR.cmp vR bu.2.1 bv.2.1 le
  have lU := uR.le bu.2.1
  have lV := vR.le bv.2.1
  have cw : Gives (fun k => T_ref01_Cmp k P Q P' Q') (fun r => r ≤ 0) := (ro_cmp uR.cop uR.pos (by omega) (by omega) vR.cop vR.pos (by omega) (by omega)).mono fun r h => by omega
  refine Gives.bind (Q := fun v => v = true) ?_ fun v hv => Gives.now hv
  exact Gives.pos (by simp [f3]) (Gives.bind (r01_valid uR.cop uR.pos (by omega) (by omega)) fun v hv => Gives.pos hv (Gives.bind (r01_valid vR.cop vR.pos (by omega) (by omega)) fun v hv => Gives.pos hv (Gives.bind cw fun r hr => Gives.pos hr (Gives.bind awake_ok fun v hv => Gives.now hv))))

end Go.Proofs.Ytdmipmhpjdmopaa.sketchNarrow
