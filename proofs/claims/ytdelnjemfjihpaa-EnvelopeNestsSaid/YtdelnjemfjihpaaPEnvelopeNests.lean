/- That the told functions answer as the statement EnvelopeNests says, in plain Lean. There are no conditions. -/
import Derived.Test.YtdelnjemfjihpaaTEnvelopeNests1
set_option maxRecDepth 100000
set_option linter.unusedVariables false
set_option linter.unusedSimpArgs false
namespace Go.Proofs.Ytdelnjemfjihpaa.envelopeNests
open Go
theorem wf_u8 {n : Int} (h : (Lit.int .u8 n).wf = true) : 0 ≤ n ∧ n ≤ 255 := by
  simpa [Lit.wf, IntKind.min, IntKind.max, IntKind.signed, IntKind.bits] using h
theorem wf_i8 {n : Int} (h : (Lit.int .i8 n).wf = true) : -128 ≤ n ∧ n ≤ 127 := by
  simpa [Lit.wf, IntKind.min, IntKind.max, IntKind.signed, IntKind.bits] using h
theorem wf_i64 {n : Int} (h : (Lit.int .i64 n).wf = true) : -9223372036854775808 ≤ n ∧ n ≤ 9223372036854775807 := by
  simpa [Lit.wf, IntKind.min, IntKind.max, IntKind.signed, IntKind.bits] using h
theorem w64_id {x : Int} (h1 : -9223372036854775808 ≤ x) (h2 : x < 9223372036854775808) : w64 x = x := wrap_id h1 h2

/-- With enough rounds the answer is there, and it is as asked. -/
def Gives {α : Type} (f : Nat → Option α) (Q : α → Prop) : Prop := ∃ r, (∃ K, ∀ k, K ≤ k → f k = some r) ∧ Q r
theorem Gives.mono {α : Type} {f : Nat → Option α} {Q Q' : α → Prop} (h : Gives f Q) (k : ∀ r, Q r → Q' r) : Gives f Q' := by
  obtain ⟨r, h1, h2⟩ := h; exact ⟨r, h1, k r h2⟩
theorem Gives.now {α : Type} {r : α} {Q : α → Prop} (h : Q r) : Gives (fun _ => some r) Q := ⟨r, ⟨0, fun _ _ => rfl⟩, h⟩
theorem Gives.con {α : Type} {x : Option α} {r : α} {Q : α → Prop} (h : x = some r) (k : Q r) : Gives (fun _ => x) Q := ⟨r, ⟨0, fun _ _ => h⟩, k⟩
theorem Gives.bind {α β : Type} {f : Nat → Option α} {g : Nat → α → Option β} {Q : α → Prop} {Q' : β → Prop} (h : Gives f Q) (k : ∀ a, Q a → Gives (fun n => g n a) Q') : Gives (fun n => (f n).bind (g n)) Q' := by
  obtain ⟨a, ⟨K, hK⟩, ha⟩ := h
  obtain ⟨r, ⟨K2, hK2⟩, hr⟩ := k a ha
  exact ⟨r, ⟨max K K2, fun n hn => by show (f n).bind (g n) = some r; rw [hK n (by omega), Option.bind_some]; exact hK2 n (by omega)⟩, hr⟩
theorem Gives.opt {α β : Type} {x : Option α} {a : α} {g : Nat → α → Option β} {Q : β → Prop} (h : x = some a) (k : Gives (fun n => g n a) Q) : Gives (fun n => x.bind (g n)) Q := by
  subst h; exact k
theorem Gives.step {α : Type} {f : Nat → Option α} {Q : α → Prop} (h : Gives (fun k => f (k + 1)) Q) : Gives f Q := by
  obtain ⟨r, ⟨K, hK⟩, hr⟩ := h
  refine ⟨r, ⟨K + 1, fun n hn => ?_⟩, hr⟩
  obtain ⟨m, rfl⟩ : ∃ m, n = m + 1 := ⟨n - 1, by omega⟩
  exact hK m (by omega)
theorem Gives.ite {α : Type} {c : Prop} [Decidable c] {f g : Nat → Option α} {Q : α → Prop} (h : c → Gives f Q) (k : ¬ c → Gives g Q) : Gives (fun n => if c then f n else g n) Q := by
  by_cases hc : c
  · simp only [if_pos hc]; exact h hc
  · simp only [if_neg hc]; exact k hc
theorem Gives.pos {α : Type} {c : Prop} [Decidable c] {f g : Nat → Option α} {Q : α → Prop} (hc : c) (h : Gives f Q) : Gives (fun n => if c then f n else g n) Q := by
  simp only [if_pos hc]; exact h
theorem Gives.neg {α : Type} {c : Prop} [Decidable c] {f g : Nat → Option α} {Q : α → Prop} (hc : ¬ c) (h : Gives g Q) : Gives (fun n => if c then f n else g n) Q := by
  simp only [if_neg hc]; exact h
theorem Gives.loop {S R : Type} {f : Nat → S → Option (S ⊕ R)} {Q : R → Prop} (Inv : S → Prop) (m : S → Nat)
    (h : ∀ s, Inv s → Gives (fun k => f k s) (fun x => match x with | .inl s' => Inv s' ∧ m s' < m s | .inr r => Q r)) {s : S} (hs : Inv s) : Gives (fun k => loopT (f k) k s) Q := by
  suffices H : ∀ (n : Nat) (s : S), m s < n → Inv s → ∃ r, (∃ K N, ∀ k, K ≤ k → ∀ j, N ≤ j → loopT (f k) j s = some r) ∧ Q r by
    obtain ⟨r, ⟨K, N, hK⟩, hr⟩ := H (m s + 1) s (by omega) hs
    exact ⟨r, ⟨max K N, fun k hk => hK k (by omega) k (by omega)⟩, hr⟩
  intro n
  induction n with
  | zero => intro s hs; omega
  | succ n ih =>
    intro s hs hI
    obtain ⟨x, ⟨K, hK⟩, hx⟩ := h s hI
    cases x with
    | inl s' =>
      obtain ⟨r, ⟨K2, N, hK2⟩, hr⟩ := ih s' (by have := hx.2; omega) hx.1
      refine ⟨r, ⟨max K K2, N + 1, fun k hk j hj => ?_⟩, hr⟩
      obtain ⟨j', rfl⟩ : ∃ j', j = j' + 1 := ⟨j - 1, by omega⟩
      simp only [loopT, hK k (by omega), Option.bind_some]
      exact hK2 k (by omega) j' (by omega)
    | inr r =>
      refine ⟨r, ⟨K, 1, fun k hk j hj => ?_⟩, hx⟩
      obtain ⟨j', rfl⟩ : ∃ j', j = j' + 1 := ⟨j - 1, by omega⟩
      simp only [loopT, hK k hk, Option.bind_some]
theorem Gives.true {f : Nat → Option Bool} (h : Gives f (· = true)) : ∃ k, f k = some true := by
  obtain ⟨r, ⟨K, hK⟩, hr⟩ := h
  subst hr
  exact ⟨K, hK K (Nat.le_refl _)⟩
/-- An element of a list, 0 outside of it. -/
def rd (xs : List Int) (i : Int) : Int := xs.getD i.toNat 0
theorem at_rd {xs : List Int} {i : Int} (h0 : 0 ≤ i) (h1 : i < (xs.length : Int)) : at? xs i = some (rd xs i) := by
  unfold at? rd
  rw [if_pos h0, List.getD_eq_getElem?_getD, List.getElem?_eq_getElem (by omega)]; rfl
theorem get_rd {xs : List Int} {n : Nat} (h1 : n < xs.length) : xs[n]? = some (rd xs n) := by
  unfold rd
  rw [List.getD_eq_getElem?_getD, List.getElem?_eq_getElem h1]
  simp [h1]
theorem rd_mem {xs : List Int} {i : Int} (h0 : 0 ≤ i) (h1 : i < (xs.length : Int)) : rd xs i ∈ xs := by
  unfold rd
  have h : i.toNat < xs.length := by omega
  rw [List.getD_eq_getElem?_getD, List.getElem?_eq_getElem h]; exact List.getElem_mem h
/-- All numbers are samples. -/
def Smp (xs : List Int) : Prop := ∀ v ∈ xs, -1000 ≤ v ∧ v ≤ 1000
theorem Smp.rd {xs : List Int} (h : Smp xs) (i : Int) : -1000 ≤ rd xs i ∧ rd xs i ≤ 1000 := by
  show -1000 ≤ xs.getD i.toNat 0 ∧ xs.getD i.toNat 0 ≤ 1000
  rw [List.getD_eq_getElem?_getD]
  rcases Nat.lt_or_ge i.toNat xs.length with c | c
  · rw [List.getElem?_eq_getElem c]; exact h _ (List.getElem_mem c)
  · rw [List.getElem?_eq_none c]; decide
theorem Smp.nil : Smp [] := fun _ h => by simp at h
theorem Smp.app {xs ys : List Int} (h : Smp xs) (k : Smp ys) : Smp (xs ++ ys) := fun v hv => by
  rcases List.mem_append.1 hv with h1 | h1
  · exact h v h1
  · exact k v h1
theorem Smp.one {v : Int} (h0 : -1000 ≤ v) (h1 : v ≤ 1000) : Smp [v] := fun u hu => by
  obtain rfl := List.mem_singleton.1 hu; exact ⟨h0, h1⟩
theorem Smp.take {xs : List Int} (h : Smp xs) (n : Nat) : Smp (xs.take n) := fun v hv => h v (List.mem_of_mem_take hv)
theorem Smp.drop {xs : List Int} (h : Smp xs) (n : Nat) : Smp (xs.drop n) := fun v hv => h v (List.mem_of_mem_drop hv)
theorem Smp.set {xs : List Int} (h : Smp xs) (n : Nat) {v : Int} (h0 : -1000 ≤ v) (h1 : v ≤ 1000) : Smp (xs.set n v) := fun u hu => by
  rcases List.mem_or_eq_of_mem_set hu with h2 | h2
  · exact h u h2
  · subst h2; exact ⟨h0, h1⟩
/-- A window. -/
structure Win (xs : List Int) : Prop where
  lo : 2 ≤ xs.length
  hi : xs.length ≤ 32
  smp : Smp xs

/-- A reader of numbers. -/
structure SrcOk (L : List Int) (p : Int) : Prop where
  lo : 0 ≤ p
  hi : p ≤ (L.length : Int)
  len : L.length ≤ 2000
theorem src_raw {L : List Int} {p : Int} (h : SrcOk L p) : Gives (fun k => T_keep_Src_Raw k L p) (fun r => SrcOk L r.2) := by
  obtain ⟨h0, h1, h2⟩ := h
  refine Gives.step ?_
  simp only [T_keep_Src_Raw]
  have e1 : w64 (p + 1) = p + 1 := w64_id (by omega) (by omega)
  have e2 : w64 (w64 (p + 1) - 1) = p := by rw [e1, w64_id (by omega) (by omega)]; omega
  refine Gives.ite (fun c => Gives.now ⟨h0, h1, h2⟩) fun c => ?_
  rw [e2, e1]
  exact Gives.opt (at_rd h0 (by omega)) (Gives.now ⟨by simp only []; omega, by simp only []; omega, h2⟩)
theorem src_mod (x n : Int) (h : 1 ≤ n) (hn : n ≤ 4611686018427387904) : Gives (fun k => T_keep_Mod k x n) (fun v => 0 ≤ v ∧ v < n) := by
  have h1 : Int.tmod x n < n := Int.tmod_lt_of_pos _ (by omega)
  have h2 : -n < Int.tmod x n := by
    rcases Int.le_total 0 x with c | c
    · have := Int.tmod_nonneg n c; omega
    · have h3 : Int.tmod (-x) n < n := Int.tmod_lt_of_pos _ (by omega)
      rw [Int.neg_tmod] at h3; omega
  refine Gives.step ?_
  simp only [T_keep_Mod]
  refine Gives.neg (by omega) (Gives.pos (by omega) (Gives.bind (Q := fun v => 0 ≤ v ∧ v < n) ?_ fun a ha => Gives.now ha))
  refine Gives.ite (fun c => ?_) fun c => Gives.now ⟨by omega, by omega⟩
  rw [w64_id (by omega) (by omega)]
  exact Gives.now ⟨by omega, by omega⟩
theorem src_n {L : List Int} {p : Int} (h : SrcOk L p) (n : Int) (h1 : 1 ≤ n) (hn : n ≤ 4611686018427387904) : Gives (fun k => T_keep_Src_N k n L p) (fun r => 0 ≤ r.1 ∧ r.1 < n ∧ SrcOk L r.2) := by
  refine Gives.step ?_
  simp only [T_keep_Src_N]
  exact Gives.bind (src_raw h) fun a ha => Gives.bind (src_mod a.1 n h1 hn) fun v hv => Gives.now ⟨hv.1, hv.2, ha⟩
theorem src_range {L : List Int} {p : Int} (h : SrcOk L p) (lo hi : Int) (h1 : lo ≤ hi) (h0 : -1000000000000 ≤ lo) (h2 : hi ≤ 1000000000000) : Gives (fun k => T_keep_Src_Range k lo hi L p) (fun r => lo ≤ r.1 ∧ r.1 ≤ hi ∧ SrcOk L r.2) := by
  have e1 : w64 (w64 (hi - lo) + 1) = hi - lo + 1 := by rw [w64_id (x := hi - lo) (by omega) (by omega), w64_id (by omega) (by omega)]
  refine Gives.step ?_
  simp only [T_keep_Src_Range]
  rw [e1]
  refine Gives.bind (src_n h (hi - lo + 1) (by omega) (by omega)) fun a ha => ?_
  rw [w64_id (by omega) (by omega)]
  exact Gives.now ⟨by simp only []; omega, by simp only []; omega, ha.2.2⟩
theorem src_pick {L : List Int} {p : Int} (h : SrcOk L p) (l : List Int) (h1 : 1 ≤ l.length) (h2 : l.length ≤ 1000) : Gives (fun k => T_keep_Src_Pick k l L p) (fun r => r.1 ∈ l ∧ SrcOk L r.2) := by
  refine Gives.step ?_
  simp only [T_keep_Src_Pick]
  exact Gives.bind (src_n h (l.length : Int) (by omega) (by omega)) fun a ha => Gives.opt (at_rd ha.1 ha.2.1) (Gives.now ⟨rd_mem ha.1 ha.2.1, ha.2.2⟩)
theorem src_clip (x : Int) : Gives (fun k => T_keep_clip k x) (fun _ => True) := by
  refine Gives.step ?_
  simp only [T_keep_clip]
  exact Gives.now trivial
theorem clip_smp (x : Int) : -1000 ≤ imin (imax x (-1000)) 1000 ∧ imin (imax x (-1000)) 1000 ≤ 1000 := by unfold imin imax; split <;> split <;> omega
theorem src_length {L : List Int} {p : Int} (h : SrcOk L p) : Gives (fun k => T_keep_Src_Length k L p) (fun r => 2 ≤ r.1 ∧ r.1 ≤ 32 ∧ SrcOk L r.2) := by
  refine Gives.step ?_
  simp only [T_keep_Src_Length]
  refine Gives.bind (src_n h 8 (by omega) (by omega)) fun a ha => Gives.ite (fun c => ?_) fun c => ?_
  · exact Gives.bind (src_range ha.2.2 13 32 (by omega) (by omega) (by omega)) fun b hb => Gives.now ⟨by simp only []; omega, by simp only []; omega, hb.2.2⟩
  · exact Gives.bind (src_range ha.2.2 2 12 (by omega) (by omega) (by omega)) fun b hb => Gives.now ⟨by simp only []; omega, by simp only []; omega, hb.2.2⟩
theorem drop_take_len {xs : List Int} {n : Nat} (h : xs.length = n) : (xs.drop 0).take n = xs := by rw [List.drop_zero, ← h, List.take_length]
theorem src_list {L : List Int} {p : Int} (h : SrcOk L p) (n : Int) (h1 : 2 ≤ n) (h2 : n ≤ 32) : Gives (fun k => T_keep_Src_List k n L p) (fun r => (r.1.length : Int) = n ∧ Smp r.1 ∧ SrcOk L r.2) := by
  refine Gives.step ?_
  simp only [T_keep_Src_List]
  refine Gives.bind (src_n h 6 (by omega) (by omega)) fun a ha => Gives.bind (src_pick ha.2.2 [1, 3, 10, 100, 1000] (by decide) (by decide)) fun b hb => Gives.bind (src_n hb.2 3 (by omega) (by omega)) fun c hc => ?_
  have hb1 : 1 ≤ b.1 ∧ b.1 ≤ 1000 := by have := hb.1; simp at this; omega
  have em : w64 (0 - b.1) = -b.1 := by rw [w64_id (by omega) (by omega)]; omega
  refine Gives.bind (Q := fun d => -1000 ≤ d.1 ∧ d.1 ≤ 1000 ∧ SrcOk L d.2) ?_ fun d hd => ?_
  · refine Gives.ite (fun _ => ?_) fun _ => Gives.now ⟨by simp only []; omega, by simp only []; omega, hc.2.2⟩
    exact Gives.bind (src_range hc.2.2 (-1000) 1000 (by omega) (by omega) (by omega)) fun e he => Gives.now he
  refine Gives.bind (Q := fun r => (r.1 : Int) = n ∧ r.2.2.length = r.1 ∧ Smp r.2.2 ∧ SrcOk L r.2.1) ?_ fun r hr => ?_
  · refine Gives.loop (fun s => -1000 ≤ s.1 ∧ s.1 ≤ 1000 ∧ (s.2.1 : Int) = s.2.2.1 ∧ s.2.2.1 ≤ n ∧ SrcOk L s.2.2.2.1 ∧ s.2.2.2.2.length = s.2.1 ∧ Smp s.2.2.2.2) (fun s => (n - s.2.2.1).toNat) ?_ ⟨hd.1, hd.2.1, rfl, by simp only []; omega, hd.2.2, rfl, Smp.nil⟩
    intro s ⟨i1, i2, i3, i4, i5, i6, i7⟩
    have ed : (s.2.2.2.2.drop 0).take s.2.1 = s.2.2.2.2 := drop_take_len i6
    unfold T_keep_Src_List_l1
    refine Gives.ite (fun c => ?_) fun c => Gives.now ⟨by simp only []; omega, i6, i7, i5⟩
    rw [em, ed]
    have hlim : s.2.1 + 1 ≤ LIM := by unfold LIM; omega
    refine Gives.bind (Q := fun _ => True) (Gives.ite (fun _ => Gives.now trivial) fun _ => Gives.now trivial) fun t _ => ?_
    refine Gives.bind (Q := fun r => -1000 ≤ r.1 ∧ r.1 ≤ 1000 ∧ SrcOk L r.2.1 ∧ r.2.2.length = s.2.1 + 1 ∧ Smp r.2.2) ?_ fun r hr => ?_
    · refine Gives.ite (fun _ => ?_) fun _ => ?_
      · refine Gives.bind (src_range i5 (-b.1) b.1 (by omega) (by omega) (by omega)) fun v hv => Gives.pos hlim (Gives.now ⟨i1, i2, hv.2.2, by simp [i6], i7.app (Smp.one (by omega) (by omega))⟩)
      · refine Gives.bind (Q := fun _ => True) (Gives.ite (fun _ => Gives.now trivial) fun _ => Gives.now trivial) fun t2 _ => Gives.ite (fun _ => ?_) fun _ => Gives.ite (fun _ => ?_) fun _ => ?_
        · refine Gives.bind (src_range i5 (-b.1) b.1 (by omega) (by omega) (by omega)) fun v hv => Gives.bind (src_clip _) fun _ _ => Gives.pos hlim (Gives.now ?_)
          have := clip_smp (w64 (s.1 + v.1))
          exact ⟨this.1, this.2, hv.2.2, by simp [i6], i7.app (Smp.one this.1 this.2)⟩
        · refine Gives.bind (src_n i5 4 (by omega) (by omega)) fun v hv => Gives.bind (Q := fun r => -1000 ≤ r.1 ∧ r.1 ≤ 1000 ∧ SrcOk L r.2) (Gives.ite (fun _ => ?_) fun _ => Gives.now ⟨i1, i2, hv.2.2⟩) fun u hu => Gives.pos hlim (Gives.now ⟨hu.1, hu.2.1, hu.2.2, by simp [i6], i7.app (Smp.one hu.1 hu.2.1)⟩)
          exact Gives.bind (src_range hv.2.2 (-b.1) b.1 (by omega) (by omega) (by omega)) fun e he => Gives.now ⟨by simp only []; omega, by simp only []; omega, he.2.2⟩
        · refine Gives.bind (src_pick i5 [-1000, 1000, 1000, 0] (by decide) (by decide)) fun v hv => Gives.pos hlim (Gives.now ?_)
          have : -1000 ≤ v.1 ∧ v.1 ≤ 1000 := by have := hv.1; simp at this; omega
          exact ⟨i1, i2, hv.2, by simp [i6], i7.app (Smp.one this.1 this.2)⟩
    · have ei : w64 (s.2.2.1 + 1) = s.2.2.1 + 1 := w64_id (by omega) (by omega)
      rw [ei]
      exact Gives.now ⟨⟨hr.1, hr.2.1, by simp only []; omega, by simp only []; omega, hr.2.2.1, hr.2.2.2.1, hr.2.2.2.2⟩, by simp only []; omega⟩
  · rw [drop_take_len hr.2.1]
    exact Gives.now ⟨by simp only []; omega, hr.2.2.1, hr.2.2.2⟩

theorem get_rd0 {xs : List Int} {i : Int} (h0 : 0 ≤ i) (h1 : i < (xs.length : Int)) : xs[0 + i.toNat]? = some (rd xs i) := by
  rw [Nat.zero_add, get_rd (by omega), Int.toNat_of_nonneg h0]
theorem src_near {L : List Int} {p : Int} (h : SrcOk L p) {xs : List Int} (hx : Win xs) : Gives (fun k => T_keep_Src_Near k xs L p) (fun r => r.1.length = xs.length ∧ Smp r.1 ∧ SrcOk L r.2) := by
  have l1 := hx.lo
  have l2 := hx.hi
  refine Gives.step ?_
  simp only [T_keep_Src_Near]
  refine Gives.bind (src_n h 7 (by omega) (by omega)) fun a ha => Gives.bind (src_range ha.2.2 (-20) 20 (by omega) (by omega) (by omega)) fun b hb => Gives.bind (src_range hb.2.2 1 3 (by omega) (by omega) (by omega)) fun c hc => Gives.pos (by unfold LIM; omega) ?_
  refine Gives.bind (Q := fun r => r.2.length = xs.length ∧ Smp r.2 ∧ SrcOk L r.1) ?_ fun r hr => ?_
  · refine Gives.loop (fun s => 0 ≤ s.1 ∧ s.1 ≤ (xs.length : Int) ∧ SrcOk L s.2.1 ∧ s.2.2.length = xs.length ∧ Smp s.2.2) (fun s => ((xs.length : Int) - s.1).toNat) ?_ ⟨by simp only []; omega, by simp only []; omega, hc.2.2, by simp, by simpa using hx.smp⟩
    intro s ⟨i1, i2, i3, i4, i5⟩
    unfold T_keep_Src_Near_l1
    refine Gives.ite (fun cc => ?_) fun cc => Gives.now ⟨i4, i5, i3⟩
    have g : (0 : Int) ≤ s.1 ∧ s.1 < ((0 + xs.length : Nat) : Int) := ⟨i1, cc⟩
    have g2 : s.1 < (xs.length : Int) := by omega
    refine Gives.bind (Q := fun r => SrcOk L r.1 ∧ r.2.length = xs.length ∧ Smp r.2) ?_ fun r hr => ?_
    · refine Gives.ite (fun _ => Gives.pos g (Gives.opt (get_rd0 i1 (by omega)) ?_)) fun _ => Gives.ite (fun _ => Gives.pos g (Gives.opt (get_rd0 i1 (by omega)) ?_)) fun _ => Gives.ite (fun _ => Gives.pos g (Gives.opt (get_rd0 i1 (by omega)) ?_)) fun _ =>
        Gives.ite (fun _ => ?_) fun _ => Gives.ite (fun _ => ?_) fun _ => Gives.ite (fun _ => Gives.pos g (Gives.opt (get_rd0 i1 (by omega)) ?_)) fun _ => Gives.now ⟨i3, i4, i5⟩
      · refine Gives.bind (src_range i3 (-2) 2 (by omega) (by omega) (by omega)) fun v hv => Gives.bind (src_clip _) fun _ _ => Gives.now ?_
        have := clip_smp (w64 (rd s.2.2 s.1 + v.1))
        exact ⟨hv.2.2, by simp [i4], i5.set _ this.1 this.2⟩
      · refine Gives.bind (src_clip _) fun _ _ => Gives.now ?_
        have := clip_smp (w64 (rd s.2.2 s.1 + b.1))
        exact ⟨i3, by simp [i4], i5.set _ this.1 this.2⟩
      · refine Gives.bind (src_clip _) fun _ _ => Gives.now ?_
        have := clip_smp (w64 (w64 (rd s.2.2 s.1 * c.1) + b.1))
        exact ⟨i3, by simp [i4], i5.set _ this.1 this.2⟩
      · have e : w64 (w64 ((xs.length : Int) - 1) - s.1) = (xs.length : Int) - 1 - s.1 := by rw [w64_id (x := (xs.length : Int) - 1) (by omega) (by omega), w64_id (by omega) (by omega)]
        rw [e]
        refine Gives.opt (at_rd (by omega) (by omega)) (Gives.pos g (Gives.now ?_))
        have := hx.smp.rd ((xs.length : Int) - 1 - s.1)
        exact ⟨i3, by simp [i4], i5.set _ this.1 this.2⟩
      · refine Gives.bind (src_range i3 (-1) 1 (by omega) (by omega) (by omega)) fun v hv => Gives.bind (src_mod _ (xs.length : Int) (by omega) (by omega)) fun u hu => Gives.opt (at_rd hu.1 hu.2) (Gives.pos g (Gives.now ?_))
        have := hx.smp.rd u
        exact ⟨hv.2.2, by simp [i4], i5.set _ this.1 this.2⟩
      · refine Gives.bind (src_clip _) fun _ _ => Gives.now ?_
        have := clip_smp (w64 (b.1 - w64 (rd s.2.2 s.1 * c.1)))
        exact ⟨i3, by simp [i4], i5.set _ this.1 this.2⟩
    · have ei : w64 (s.1 + 1) = s.1 + 1 := w64_id (by omega) (by omega)
      rw [ei]
      exact Gives.now ⟨⟨by simp only []; omega, by simp only []; omega, hr.1, hr.2.1, hr.2.2⟩, by simp only []; omega⟩
  · rw [drop_take_len (by rw [hr.1, Nat.zero_add])]
    exact Gives.now ⟨hr.1, hr.2.1, hr.2.2⟩
theorem src_pair {L : List Int} {p : Int} (h : SrcOk L p) : Gives (fun k => T_keep_Src_Pair k L p) (fun r => Win r.1 ∧ Win r.2.1 ∧ r.1.length = r.2.1.length ∧ SrcOk L r.2.2) := by
  refine Gives.step ?_
  simp only [T_keep_Src_Pair]
  refine Gives.bind (src_length h) fun a ha => Gives.bind (src_list ha.2.2 a.1 ha.1 ha.2.1) fun b hb => ?_
  have wb : Win b.1 := ⟨by omega, by omega, hb.2.1⟩
  refine Gives.bind (src_n hb.2.2 3 (by omega) (by omega)) fun c hc => Gives.ite (fun _ => ?_) fun _ => ?_
  · refine Gives.bind (src_list hc.2.2 (b.1.length : Int) (by omega) (by omega)) fun d hd => Gives.now ⟨wb, ⟨?_, ?_, hd.2.1⟩, ?_, hd.2.2⟩ <;> simp only [] <;> omega
  · refine Gives.bind (src_near hc.2.2 wb) fun d hd => Gives.now ⟨wb, ⟨?_, ?_, hd.2.1⟩, ?_, hd.2.2⟩ <;> simp only [] <;> omega
/-- Two windows, and a band that they fit. -/
structure Fits (xs ys : List Int) (b : Int) : Prop where
  wx : Win xs
  wy : Win ys
  lo : 0 ≤ b
  hi : b ≤ 32
  ab : (xs.length : Int) - ys.length ≤ b
  ba : (ys.length : Int) - xs.length ≤ b
theorem src_uneven {L : List Int} {p : Int} (h : SrcOk L p) : Gives (fun k => T_keep_Src_Uneven k L p) (fun r => Fits r.1 r.2.1 r.2.2.1 ∧ SrcOk L r.2.2.2) := by
  refine Gives.step ?_
  simp only [T_keep_Src_Uneven]
  refine Gives.bind (src_pair h) fun a ha => ?_
  obtain ⟨a1, a2, a3, a4⟩ := ha
  have q1 := a1.lo
  have q2 := a1.hi
  refine Gives.bind (src_n a4 2 (by omega) (by omega)) fun b hb => ?_
  refine Gives.bind (Q := fun r => Win r.1 ∧ r.1.length ≤ a.1.length ∧ SrcOk L r.2) ?_ fun r hr => ?_
  · refine Gives.ite (fun _ => ?_) fun _ => Gives.now ⟨a2, by simp only []; omega, hb.2.2⟩
    refine Gives.bind (src_range hb.2.2 2 (a.2.1.length : Int) (by omega) (by omega) (by omega)) fun c hc => Gives.pos (by omega) (Gives.now ⟨⟨?_, ?_, ?_⟩, ?_, hc.2.2⟩)
    · simp; omega
    · simp; omega
    · simpa using a2.smp.take _
    · simp; omega
  obtain ⟨r1, r2, r3⟩ := hr
  have t1 := r1.lo
  refine Gives.bind (src_n r3 4 (by omega) (by omega)) fun c hc => Gives.bind (src_n hc.2.2 5 (by omega) (by omega)) fun d hd => ?_
  refine Gives.bind (Q := fun v => (a.1.length : Int) - r.1.length ≤ v ∧ 0 ≤ v ∧ v ≤ 32) ?_ fun v hv => ?_
  · refine Gives.ite (fun _ => Gives.now ⟨by omega, by omega, by omega⟩) fun _ => ?_
    rw [w64_id (x := (a.1.length : Int) - r.1.length) (by omega) (by omega), w64_id (by omega) (by omega)]
    refine Gives.now ?_
    unfold imin
    split <;> omega
  refine Gives.bind (src_n hd.2.2 2 (by omega) (by omega)) fun e he => Gives.ite (fun _ => ?_) fun _ => ?_
  · exact Gives.now ⟨⟨r1, a1, hv.2.1, hv.2.2, by simp only []; omega, by simp only []; omega⟩, he.2.2⟩
  · exact Gives.now ⟨⟨a1, r1, hv.2.1, hv.2.2, by simp only []; omega, by simp only []; omega⟩, he.2.2⟩
theorem src_new (l : List Int) : SrcOk ((l.drop 0).take ((imin (l.length : Int) 2000).toNat - 0)) 0 ∧ Gives (fun k => T_keep_New k l) (fun _ => True) := by
  have h1 : 0 ≤ imin (l.length : Int) 2000 := by unfold imin; split <;> omega
  have h2 : imin (l.length : Int) 2000 ≤ l.length := by unfold imin; split <;> omega
  have h3 : imin (l.length : Int) 2000 ≤ 2000 := by unfold imin; split <;> omega
  refine ⟨⟨by omega, by omega, ?_⟩, ?_⟩
  · simp; omega
  · refine Gives.step ?_
    simp only [T_keep_New]
    exact Gives.pos (by omega) (Gives.now trivial)
/-! The distance of chapter 12. -/
theorem eu_samples {xs : List Int} (h : Win xs) : Gives (fun k => T_euclid_samples k xs) (· = true) := by
  have h2 := h.hi
  refine Gives.step ?_
  simp only [T_euclid_samples]
  refine Gives.bind (Q := fun r => r = .inl ()) ?_ fun r hr => by subst hr; exact Gives.now rfl
  refine Gives.loop (fun s => 0 ≤ s ∧ s ≤ (xs.length : Int)) (fun s => ((xs.length : Int) - s).toNat) ?_ ⟨by omega, by omega⟩
  intro s ⟨i1, i2⟩
  unfold T_euclid_samples_l1
  refine Gives.ite (fun c => Gives.opt (at_rd i1 c) ?_) fun c => Gives.now rfl
  have := h.smp.rd s
  refine Gives.neg (by simp; omega) ?_
  rw [w64_id (by omega) (by omega)]
  exact Gives.now ⟨⟨by omega, by omega⟩, by omega⟩
theorem eu_len (xs : List Int) : Gives (fun k => T_euclid_length k xs) (fun _ => True) := by
  refine Gives.step ?_
  simp only [T_euclid_length]
  exact Gives.now trivial
theorem eu_check {xs ys : List Int} (hx : Win xs) (hy : Win ys) (hl : xs.length = ys.length) : Gives (fun k => T_euclid_check k xs ys) (· = 0) := by
  have x1 := hx.lo
  have x2 := hx.hi
  refine Gives.step ?_
  simp only [T_euclid_check]
  refine Gives.bind (Q := fun b => b = false) ?_ fun b hb => ?_
  · refine Gives.bind (eu_len xs) fun _ _ => Gives.neg (by simp; omega) ?_
    refine Gives.bind (eu_len ys) fun _ _ => Gives.now ?_
    simp; omega
  subst hb
  refine Gives.neg (by simp) ?_
  refine Gives.bind (Q := fun b => b = false) ?_ fun b hb => ?_
  · refine Gives.bind (eu_samples hx) fun u hu => ?_
    subst hu
    refine Gives.neg (by simp) (Gives.bind (eu_samples hy) fun u hu => ?_)
    subst hu
    exact Gives.now rfl
  subst hb
  refine Gives.neg (by simp) (Gives.neg (by simp [hl]) (Gives.now rfl))
theorem eu_square {xs ys : List Int} (hx : Win xs) (hl : xs.length = ys.length) : Gives (fun k => T_euclid_square k xs ys) (fun _ => True) := by
  have x2 := hx.hi
  refine Gives.step ?_
  simp only [T_euclid_square]
  refine Gives.bind (Q := fun _ => True) ?_ fun r hr => Gives.now trivial
  refine Gives.loop (fun s => 0 ≤ s.2 ∧ s.2 ≤ (xs.length : Int)) (fun s => ((xs.length : Int) - s.2).toNat) ?_ ⟨by simp only []; omega, by simp only []; omega⟩
  intro s ⟨i1, i2⟩
  unfold T_euclid_square_l1
  refine Gives.ite (fun c => Gives.opt (at_rd i1 c) (Gives.opt (at_rd i1 (by omega)) ?_)) fun c => Gives.now trivial
  rw [w64_id (x := s.2 + 1) (by omega) (by omega)]
  exact Gives.now ⟨⟨by simp only []; omega, by simp only []; omega⟩, by simp only []; omega⟩
theorem eu_distance {xs ys : List Int} (hx : Win xs) (hy : Win ys) (hl : xs.length = ys.length) : Gives (fun k => T_euclid_Distance k xs ys) (fun r => r.2 = 0) := by
  refine Gives.step ?_
  simp only [T_euclid_Distance]
  refine Gives.bind (eu_check hx hy hl) fun e he => ?_
  subst he
  exact Gives.neg (by simp) (Gives.bind (eu_square hx hl) fun v _ => Gives.now rfl)

/-- A part of a row. -/
def qu (off len : Nat) (row : List Int) : List Int := (row.drop off).take len
theorem qu_len {off len : Nat} {row : List Int} (h : off + len ≤ row.length) : (qu off len row).length = len := by unfold qu; simp; omega
theorem qu_get {off len m : Nat} {row : List Int} (h : off + len ≤ row.length) (hm : m < len) : row[off + m]? = some (rd (qu off len row) m) := by
  have e : (qu off len row)[m]? = row[off + m]? := by
    unfold qu
    rw [List.getElem?_take, if_pos hm, List.getElem?_drop]
  rw [← e]
  exact get_rd (by rw [qu_len h]; exact hm)

/-- The numbers of a queue's samples ascend, and the samples themselves fall off. -/
structure QOkA (x : List Int) (nx : Int) (Q : List Int) : Prop where
  mem : ∀ q ∈ Q, 0 ≤ q ∧ q < nx
  dec : Q.Pairwise (fun a b => a < b ∧ (rd x b < rd x a))
/-- Each sample from lo on is covered by one in the queue that does not stand before it. -/
def CovA (x : List Int) (lo nx : Int) (Q : List Int) : Prop := ∀ i, 0 ≤ i → lo ≤ i → i < nx → ∃ q ∈ Q, i ≤ q ∧ (rd x i ≤ rd x q)
/-- The best sample that a place looks at. -/
def BestA (x : List Int) (band j v : Int) : Prop :=
  (∃ i, 0 ≤ i ∧ i < (x.length : Int) ∧ j - band ≤ i ∧ i ≤ j + band ∧ rd x i = v) ∧ ∀ i, 0 ≤ i → i < (x.length : Int) → j - band ≤ i → i ≤ j + band → (rd x i ≤ v)
theorem rd_pairA {x Q : List Int} {nx : Int} (h : QOkA x nx Q) {a b : Nat} (hab : a < b) (hb : b < Q.length) : rd Q a < rd Q b ∧ (rd x (rd Q b) < rd x (rd Q a)) := by
  have := List.pairwise_iff_getElem.1 h.dec a b (by omega) hb hab
  have e1 : rd Q (a : Int) = Q[a]'(by omega) := by unfold rd; rw [List.getD_eq_getElem?_getD]; simp [show a < Q.length by omega]
  have e2 : rd Q (b : Int) = Q[b] := by unfold rd; rw [List.getD_eq_getElem?_getD]; simp [hb]
  rw [e1, e2]; exact this
theorem ex_l1A {x row : List Int} {off len : Nat} {nx p2 c1 c2 c3 : Int} {c0 : Nat} {c4 : List Int} (hq : off + len ≤ row.length) (hl : len ≤ 1000) (hQ : ∀ q ∈ qu off len row, 0 ≤ q ∧ q < (x.length : Int)) (h0 : 0 ≤ nx) (h1 : nx < (x.length : Int)) :
    Gives (fun k => loopT (T_envelope_extremes_l1 k x p2 c0 c1 c2 c3 c4 off len nx row) k (len : Int)) (fun n => 0 ≤ n ∧ n ≤ len ∧ (∀ m : Nat, n ≤ (m : Int) → m < len → ¬ (rd x nx < rd x (rd (qu off len row) m))) ∧ (n = 0 ∨ (rd x nx < rd x (rd (qu off len row) (n - 1))))) := by
  refine Gives.loop (fun s => 0 ≤ s ∧ s ≤ (len : Int) ∧ ∀ m : Nat, s ≤ (m : Int) → m < len → ¬ (rd x nx < rd x (rd (qu off len row) m))) (fun s => s.toNat) ?_ ⟨by omega, by omega, fun m h1 h2 => by omega⟩
  intro s ⟨i1, i2, i3⟩
  unfold T_envelope_extremes_l1
  refine Gives.bind (Q := fun b => (b = true → 0 < s ∧ ¬ (rd x nx < rd x (rd (qu off len row) (s - 1)))) ∧ (b = false → s = 0 ∨ (rd x nx < rd x (rd (qu off len row) (s - 1))))) ?_ fun b hb => ?_
  · refine Gives.ite (fun c => ?_) fun c => Gives.now ⟨(fun h => by cases h), fun _ => .inl (by omega)⟩
    have e : w64 (s - 1) = s - 1 := w64_id (by omega) (by omega)
    rw [e]
    have g := qu_get (m := (s - 1).toNat) hq (by omega)
    rw [Int.toNat_of_nonneg (by omega)] at g
    refine Gives.pos (by omega) (Gives.opt g ?_)
    have hm : rd (qu off len row) (s - 1) ∈ qu off len row := rd_mem (by omega) (by rw [qu_len hq]; omega)
    obtain ⟨k1, k2⟩ := hQ _ hm
    refine Gives.opt (at_rd k1 k2) (Gives.opt (at_rd h0 h1) (Gives.bind (Q := fun _ => True) ?_ fun _ _ => Gives.now ⟨fun h => ⟨c, by simpa using h⟩, fun h => .inr (by simpa using h)⟩))
    refine Gives.step ?_
    simp only [T_envelope_of_1]
    exact Gives.now trivial
  · cases b with
    | true =>
      obtain ⟨k1, k2⟩ := hb.1 rfl
      refine Gives.pos rfl ?_
      rw [w64_id (by omega) (by omega)]
      refine Gives.now ⟨⟨by omega, by omega, fun m h1 h2 => ?_⟩, by omega⟩
      by_cases c : s ≤ (m : Int)
      · exact i3 m c h2
      · have : (m : Int) = s - 1 := by omega
        rw [this]; exact k2
    | false => exact Gives.neg (by simp) (Gives.now ⟨i1, i2, i3, hb.2 rfl⟩)
theorem ex_l2A {x : List Int} {p2 j lo : Int} {c0 : Nat} {c1 c3 : Int} {c4 : List Int} (hx : x.length ≤ 32) (hj : 0 ≤ j) (hj2 : j ≤ 1000) (hp : 0 ≤ p2) (hp2 : p2 ≤ 1000) {s : Nat × Nat × Int × List Int}
    (hs : s.1 + s.2.1 ≤ s.2.2.2.length ∧ (s.2.1 : Int) ≤ s.2.2.1 ∧ 0 ≤ s.2.2.1 ∧ s.2.2.1 ≤ (x.length : Int) ∧ s.2.2.1 ≤ j + p2 + 1 ∧ QOkA x s.2.2.1 (qu s.1 s.2.1 s.2.2.2) ∧ CovA x lo s.2.2.1 (qu s.1 s.2.1 s.2.2.2)) :
    Gives (fun k => loopT (T_envelope_extremes_l2 k x p2 c0 c1 j c3 c4) k s) (fun s => (s.1 + s.2.1 ≤ s.2.2.2.length ∧ (s.2.1 : Int) ≤ s.2.2.1 ∧ 0 ≤ s.2.2.1 ∧ s.2.2.1 ≤ (x.length : Int) ∧ s.2.2.1 ≤ j + p2 + 1 ∧ QOkA x s.2.2.1 (qu s.1 s.2.1 s.2.2.2) ∧ CovA x lo s.2.2.1 (qu s.1 s.2.1 s.2.2.2)) ∧ ((x.length : Int) ≤ s.2.2.1 ∨ j + p2 < s.2.2.1)) := by
  refine Gives.loop (fun s => s.1 + s.2.1 ≤ s.2.2.2.length ∧ (s.2.1 : Int) ≤ s.2.2.1 ∧ 0 ≤ s.2.2.1 ∧ s.2.2.1 ≤ (x.length : Int) ∧ s.2.2.1 ≤ j + p2 + 1 ∧ QOkA x s.2.2.1 (qu s.1 s.2.1 s.2.2.2) ∧ CovA x lo s.2.2.1 (qu s.1 s.2.1 s.2.2.2)) (fun s => ((x.length : Int) - s.2.2.1).toNat) ?_ hs
  clear hs s
  intro ⟨off, len, nx, row⟩ ⟨i1, i2, i3, i4, i5, i6, i7⟩
  simp only at i1 i2 i3 i4 i5 i6 i7
  unfold T_envelope_extremes_l2
  simp only []
  rw [w64_id (x := j + p2) (by omega) (by omega)]
  by_cases c : nx < (x.length : Int) ∧ nx ≤ j + p2
  · refine Gives.pos (by simpa using c) ?_
    refine Gives.bind (ex_l1A i1 (by omega) (fun q hq => by have := i6.mem q hq; omega) i3 c.1) fun n hn => ?_
    obtain ⟨n1, n2, n3, n4⟩ := hn
    refine Gives.pos (by omega) (Gives.pos (by unfold LIM; omega) ?_)
    rw [w64_id (x := nx + 1) (by omega) (by omega)]
    have hQl := qu_len i1
    have e1 : (row.drop (off + 0)).take (n.toNat - 0) = (qu off len row).take n.toNat := by
      unfold qu
      rw [List.take_take, Nat.add_zero, Nat.sub_zero, Nat.min_eq_left (by omega)]
    rw [e1]
    have hrl : ((qu off len row).take n.toNat ++ [nx]).length = n.toNat - 0 + 1 := by simp [hQl]; omega
    have e2 : qu 0 (n.toNat - 0 + 1) ((qu off len row).take n.toNat ++ [nx]) = (qu off len row).take n.toNat ++ [nx] := by
      rw [← hrl]
      unfold qu
      rw [List.drop_zero, List.take_length]
    have key : ∀ a ∈ (qu off len row).take n.toNat, a < nx ∧ (rd x nx < rd x a) := by
      intro a ha
      obtain ⟨i, hi, rfl⟩ := List.getElem_of_mem ha
      have hi' : i < n.toNat := by simp at hi; omega
      have e3 : ((qu off len row).take n.toNat)[i] = rd (qu off len row) i := by
        have hiq : i < (qu off len row).length := by omega
        unfold rd
        rw [List.getD_eq_getElem?_getD, List.getElem_take]
        simp [hiq]
      rw [e3]
      have hlast : (rd x nx < rd x (rd (qu off len row) (n - 1))) := n4.resolve_left (by omega)
      have hm : rd (qu off len row) (i : Int) ∈ qu off len row := rd_mem (by omega) (by omega)
      refine ⟨(i6.mem _ hm).2, ?_⟩
      by_cases c2 : (i : Int) = n - 1
      · rw [c2]; exact hlast
      · have := (rd_pairA i6 (a := i) (b := (n - 1).toNat) (by omega) (by omega)).2
        rw [Int.toNat_of_nonneg (by omega)] at this
        omega
    refine Gives.now ⟨⟨?_, ?_, ?_, ?_, ?_, ⟨fun q hq => ?_, ?_⟩, fun i h1 h2 h3 => ?_⟩, ?_⟩
    · simp only []; omega
    · simp only []; omega
    · simp only []; omega
    · simp only []; omega
    · simp only []; omega
    · show 0 ≤ q ∧ q < nx + 1
      simp only [e2] at hq
      rcases List.mem_append.1 hq with hq | hq
      · have := i6.mem q (List.mem_of_mem_take hq); omega
      · simp at hq; omega
    · simp only [e2]
      refine List.pairwise_append.2 ⟨i6.dec.sublist (List.take_sublist _ _), by simp, fun a ha b hb => ?_⟩
      simp at hb
      subst hb
      exact key a ha
    · simp only [e2]
      by_cases c2 : i = nx
      · exact ⟨nx, by simp, by omega, by subst c2; omega⟩
      · obtain ⟨q, hq, hq1, hq2⟩ := i7 i h1 h2 (by simp only at h3; omega)
        obtain ⟨m, hm, rfl⟩ := List.getElem_of_mem hq
        have e3 : (qu off len row)[m] = rd (qu off len row) m := by
          unfold rd
          rw [List.getD_eq_getElem?_getD]
          simp [hm]
        rw [e3] at hq1 hq2
        by_cases c3 : n ≤ (m : Int)
        · have := n3 m c3 (by omega)
          exact ⟨nx, by simp, by simp only at h3; omega, by omega⟩
        · refine ⟨rd (qu off len row) m, List.mem_append_left _ ?_, hq1, hq2⟩
          rw [← e3]
          exact List.mem_take_iff_getElem.2 ⟨m, by omega, rfl⟩
    · simp only []; omega
  · refine Gives.neg (by simpa using c) (Gives.now ⟨⟨i1, i2, i3, i4, i5, i6, i7⟩, by simp only []; omega⟩)
theorem ex_l3A {x row : List Int} {p2 j nx : Int} {c0 : Nat} {c1 c2 c3 : Int} {c4 : List Int} (hj : 0 ≤ j) (hj2 : j ≤ 1000) (hp : 0 ≤ p2) (hp2 : p2 ≤ 1000) (hnx : nx ≤ 32) (h0 : 0 < nx) (h1 : j - p2 < nx) {s : Nat × Nat}
    (hs : s.1 + s.2 ≤ row.length ∧ (s.2 : Int) ≤ nx ∧ QOkA x nx (qu s.1 s.2 row) ∧ CovA x (j - p2) nx (qu s.1 s.2 row)) :
    Gives (fun k => loopT (T_envelope_extremes_l3 k x p2 c0 c1 c2 j c3 row c4) k s) (fun s => (s.1 + s.2 ≤ row.length ∧ (s.2 : Int) ≤ nx ∧ QOkA x nx (qu s.1 s.2 row) ∧ CovA x (j - p2) nx (qu s.1 s.2 row)) ∧ 0 < s.2 ∧ j - p2 ≤ rd (qu s.1 s.2 row) 0) := by
  refine Gives.loop (fun s => s.1 + s.2 ≤ row.length ∧ (s.2 : Int) ≤ nx ∧ QOkA x nx (qu s.1 s.2 row) ∧ CovA x (j - p2) nx (qu s.1 s.2 row)) (fun s => s.2) ?_ hs
  clear hs s
  intro ⟨off, len⟩ ⟨i1, i2, i3, i4⟩
  simp only at i1 i2 i3 i4
  unfold T_envelope_extremes_l3
  simp only []
  have hQl := qu_len i1
  have hpos : 0 < len := by
    obtain ⟨q, hq, _⟩ := i4 (if j - p2 < 0 then 0 else j - p2) (by split <;> omega) (by split <;> omega) (by split <;> omega)
    have := List.length_pos_of_mem hq
    omega
  have g := qu_get (m := 0) i1 hpos
  refine Gives.pos (by omega) (Gives.opt g ?_)
  rw [w64_id (x := j - p2) (by omega) (by omega)]
  refine Gives.ite (fun c => Gives.pos (by omega) ?_) fun c => Gives.now ⟨⟨i1, i2, i3, i4⟩, hpos, by simp only [] at c ⊢; simpa using c⟩
  have eq : qu off len row = rd (qu off len row) 0 :: qu (off + 1) (len - 1) row := by
    obtain ⟨l', rfl⟩ : ∃ l', len = l' + 1 := ⟨len - 1, by omega⟩
    have hc : qu off (l' + 1) row = row[off]'(by omega) :: qu (off + 1) l' row := by
      unfold qu
      rw [List.drop_eq_getElem_cons (by omega), List.take_succ_cons]
    rw [hc]
    rfl
  have hsub : ∀ q ∈ qu (off + 1) (len - 1) row, q ∈ qu off len row := fun q hq => by rw [eq]; exact List.mem_cons_of_mem _ hq
  refine Gives.now ⟨⟨?_, ?_, ⟨fun q hq => i3.mem q (hsub q ?_), ?_⟩, fun i h1 h2 h3 => ?_⟩, ?_⟩
  · simp only []; omega
  · simp only []; omega
  · simpa using hq
  · have := i3.dec
    rw [eq] at this
    simpa using (List.pairwise_cons.1 this).2
  · obtain ⟨q, hq, hq1, hq2⟩ := i4 i h1 h2 h3
    rw [eq] at hq
    rcases List.mem_cons.1 hq with hq | hq
    · exfalso
      have c : rd (qu off len row) ((0 : Nat) : Int) < j - p2 := c
      have : rd (qu off len row) ((0 : Nat) : Int) = rd (qu off len row) 0 := rfl
      omega
    · exact ⟨q, by simpa using hq, hq1, hq2⟩
  · simp only []; omega
theorem ex_okA {x : List Int} {p2 n : Int} (hx : Win x) (hp : 0 ≤ p2) (hp2 : p2 ≤ 32) (hn : 0 ≤ n) (hn2 : n ≤ 32) (hf : n - (x.length : Int) ≤ p2) :
    Gives (fun k => T_envelope_extremes k x p2 n) (fun r => (r.length : Int) = n ∧ ∀ j, 0 ≤ j → j < n → BestA x p2 j (rd r j)) := by
  have x1 := hx.lo
  have x2 := hx.hi
  refine Gives.step ?_
  simp only [T_envelope_extremes]
  refine Gives.pos (by unfold LIM; omega) (Gives.bind (Q := fun r => r.length = n.toNat ∧ ∀ j, 0 ≤ j → j < n → BestA x p2 j (rd r j)) ?_ fun r hr => ?_)
  · refine Gives.loop (fun s => s.1 + s.2.1 ≤ s.2.2.2.2.1.length ∧ (s.2.1 : Int) ≤ s.2.2.1 ∧ 0 ≤ s.2.2.1 ∧ s.2.2.1 ≤ (x.length : Int) ∧ 0 ≤ s.2.2.2.1 ∧ s.2.2.2.1 ≤ n ∧ s.2.2.1 ≤ s.2.2.2.1 + p2 ∧ QOkA x s.2.2.1 (qu s.1 s.2.1 s.2.2.2.2.1) ∧ CovA x (s.2.2.2.1 - 1 - p2) s.2.2.1 (qu s.1 s.2.1 s.2.2.2.2.1) ∧
        s.2.2.2.2.2.length = n.toNat ∧ ∀ j, 0 ≤ j → j < s.2.2.2.1 → BestA x p2 j (rd s.2.2.2.2.2 j)) (fun s => (n - s.2.2.2.1).toNat) ?_ ?_
    · intro ⟨off, len, nx, j, row, out⟩ ⟨i1, i2, i3, i4, i5, i6, i7, i8, i9, i10, i11⟩
      simp only at i1 i2 i3 i4 i5 i6 i7 i8 i9 i10 i11
      unfold T_envelope_extremes_l4
      simp only []
      refine Gives.ite (fun c => ?_) fun c => Gives.now ⟨i10, fun j' h1 h2 => i11 j' h1 (by omega)⟩
      refine Gives.bind (ex_l2A (lo := j - 1 - p2) x2 i5 (by omega) hp (by omega) ⟨i1, i2, i3, i4, by simp only []; omega, i8, i9⟩) fun a ha => ?_
      obtain ⟨⟨a1, a2, a3, a4, a5, a6, a7⟩, a8⟩ := ha
      have hi0 : j - p2 < a.2.2.1 ∧ 0 < a.2.2.1 := by omega
      refine Gives.bind (ex_l3A (x := x) (nx := a.2.2.1) i5 (by omega) hp (by omega) (by omega) hi0.2 hi0.1 ⟨a1, a2, a6, fun i h1 h2 h3 => a7 i h1 (by omega) h3⟩) fun b hb => ?_
      obtain ⟨⟨b1, b2, b3, b4⟩, b5, b6⟩ := hb
      have g := qu_get (m := 0) b1 b5
      have hQl := qu_len b1
      have hm : rd (qu b.1 b.2 a.2.2.2) 0 ∈ qu b.1 b.2 a.2.2.2 := rd_mem (by omega) (by rw [hQl]; omega)
      obtain ⟨m1, m2⟩ := b3.mem _ hm
      refine Gives.pos (by omega) (Gives.opt g (Gives.opt (at_rd (xs := x) (i := rd (qu b.1 b.2 a.2.2.2) 0) m1 (by omega)) (Gives.pos (by omega) ?_)))
      rw [w64_id (x := j + 1) (by omega) (by omega)]
      refine Gives.now ⟨⟨b1, b2, a3, a4, ?_, ?_, ?_, b3, fun i h1 h2 h3 => b4 i h1 (by simp only at h2; omega) h3, ?_, fun j' h1 h2 => ?_⟩, ?_⟩
      · simp only []; omega
      · simp only []; omega
      · simp only []; omega
      · simp [i10]
      · simp only at h2
        by_cases cj : j' = j
        · subst cj
          have : rd (out.set (0 + j'.toNat) (rd x (rd (qu b.1 b.2 a.2.2.2) 0))) j' = rd x (rd (qu b.1 b.2 a.2.2.2) 0) := by
            unfold rd
            rw [Nat.zero_add, List.getD_eq_getElem?_getD, List.getElem?_set_self (by omega)]; rfl
          simp only [this]
          refine ⟨⟨_, m1, by omega, b6, by omega, rfl⟩, fun i k1 k2 k3 k4 => ?_⟩
          obtain ⟨q, hq, q1, q2⟩ := b4 i k1 k3 (by omega)
          obtain ⟨m, hm2, rfl⟩ := List.getElem_of_mem hq
          have e3 : (qu b.1 b.2 a.2.2.2)[m] = rd (qu b.1 b.2 a.2.2.2) m := by
            unfold rd
            rw [List.getD_eq_getElem?_getD]
            simp [hm2]
          rw [e3] at q2
          by_cases c0 : m = 0
          · subst c0; exact q2
          · have := (rd_pairA b3 (a := 0) (b := m) (by omega) hm2).2
            have e0 : ((0 : Nat) : Int) = 0 := rfl
            rw [e0] at this
            omega
        · have : rd (out.set (0 + j.toNat) (rd x (rd (qu b.1 b.2 a.2.2.2) 0))) j' = rd out j' := by
            unfold rd
            rw [Nat.zero_add, List.getD_eq_getElem?_getD, List.getElem?_set_ne (by omega), List.getD_eq_getElem?_getD]
          simp only [this]
          exact i11 j' h1 (by omega)
      · simp only []; omega
    · refine ⟨by simp, by simp, by simp, by simp, by simp, by simpa using hn, by simpa using hp, ⟨fun q hq => by simp [qu] at hq, by simp [qu]⟩, fun i h1 h2 h3 => by simp only at h3; omega, by simp, fun j h1 h2 => by simp only at h2; omega⟩
  · rw [drop_take_len hr.1]
    exact Gives.now ⟨by rw [hr.1]; omega, hr.2⟩

/-- The numbers of a queue's samples ascend, and the samples themselves fall off. -/
structure QOkB (x : List Int) (nx : Int) (Q : List Int) : Prop where
  mem : ∀ q ∈ Q, 0 ≤ q ∧ q < nx
  dec : Q.Pairwise (fun a b => a < b ∧ (rd x a < rd x b))
/-- Each sample from lo on is covered by one in the queue that does not stand before it. -/
def CovB (x : List Int) (lo nx : Int) (Q : List Int) : Prop := ∀ i, 0 ≤ i → lo ≤ i → i < nx → ∃ q ∈ Q, i ≤ q ∧ (rd x q ≤ rd x i)
/-- The best sample that a place looks at. -/
def BestB (x : List Int) (band j v : Int) : Prop :=
  (∃ i, 0 ≤ i ∧ i < (x.length : Int) ∧ j - band ≤ i ∧ i ≤ j + band ∧ rd x i = v) ∧ ∀ i, 0 ≤ i → i < (x.length : Int) → j - band ≤ i → i ≤ j + band → (v ≤ rd x i)
theorem rd_pairB {x Q : List Int} {nx : Int} (h : QOkB x nx Q) {a b : Nat} (hab : a < b) (hb : b < Q.length) : rd Q a < rd Q b ∧ (rd x (rd Q a) < rd x (rd Q b)) := by
  have := List.pairwise_iff_getElem.1 h.dec a b (by omega) hb hab
  have e1 : rd Q (a : Int) = Q[a]'(by omega) := by unfold rd; rw [List.getD_eq_getElem?_getD]; simp [show a < Q.length by omega]
  have e2 : rd Q (b : Int) = Q[b] := by unfold rd; rw [List.getD_eq_getElem?_getD]; simp [hb]
  rw [e1, e2]; exact this
theorem ex_l1B {x row : List Int} {off len : Nat} {nx p2 c1 c2 c3 : Int} {c0 : Nat} {c4 : List Int} (hq : off + len ≤ row.length) (hl : len ≤ 1000) (hQ : ∀ q ∈ qu off len row, 0 ≤ q ∧ q < (x.length : Int)) (h0 : 0 ≤ nx) (h1 : nx < (x.length : Int)) :
    Gives (fun k => loopT (T_envelope_extremes_v2_l1 k x p2 c0 c1 c2 c3 c4 off len nx row) k (len : Int)) (fun n => 0 ≤ n ∧ n ≤ len ∧ (∀ m : Nat, n ≤ (m : Int) → m < len → ¬ (rd x (rd (qu off len row) m) < rd x nx)) ∧ (n = 0 ∨ (rd x (rd (qu off len row) (n - 1)) < rd x nx))) := by
  refine Gives.loop (fun s => 0 ≤ s ∧ s ≤ (len : Int) ∧ ∀ m : Nat, s ≤ (m : Int) → m < len → ¬ (rd x (rd (qu off len row) m) < rd x nx)) (fun s => s.toNat) ?_ ⟨by omega, by omega, fun m h1 h2 => by omega⟩
  intro s ⟨i1, i2, i3⟩
  unfold T_envelope_extremes_v2_l1
  refine Gives.bind (Q := fun b => (b = true → 0 < s ∧ ¬ (rd x (rd (qu off len row) (s - 1)) < rd x nx)) ∧ (b = false → s = 0 ∨ (rd x (rd (qu off len row) (s - 1)) < rd x nx))) ?_ fun b hb => ?_
  · refine Gives.ite (fun c => ?_) fun c => Gives.now ⟨(fun h => by cases h), fun _ => .inl (by omega)⟩
    have e : w64 (s - 1) = s - 1 := w64_id (by omega) (by omega)
    rw [e]
    have g := qu_get (m := (s - 1).toNat) hq (by omega)
    rw [Int.toNat_of_nonneg (by omega)] at g
    refine Gives.pos (by omega) (Gives.opt g ?_)
    have hm : rd (qu off len row) (s - 1) ∈ qu off len row := rd_mem (by omega) (by rw [qu_len hq]; omega)
    obtain ⟨k1, k2⟩ := hQ _ hm
    refine Gives.opt (at_rd k1 k2) (Gives.opt (at_rd h0 h1) (Gives.bind (Q := fun _ => True) ?_ fun _ _ => Gives.now ⟨fun h => ⟨c, by simpa using h⟩, fun h => .inr (by simpa using h)⟩))
    refine Gives.step ?_
    simp only [T_envelope_of_2]
    exact Gives.now trivial
  · cases b with
    | true =>
      obtain ⟨k1, k2⟩ := hb.1 rfl
      refine Gives.pos rfl ?_
      rw [w64_id (by omega) (by omega)]
      refine Gives.now ⟨⟨by omega, by omega, fun m h1 h2 => ?_⟩, by omega⟩
      by_cases c : s ≤ (m : Int)
      · exact i3 m c h2
      · have : (m : Int) = s - 1 := by omega
        rw [this]; exact k2
    | false => exact Gives.neg (by simp) (Gives.now ⟨i1, i2, i3, hb.2 rfl⟩)
theorem ex_l2B {x : List Int} {p2 j lo : Int} {c0 : Nat} {c1 c3 : Int} {c4 : List Int} (hx : x.length ≤ 32) (hj : 0 ≤ j) (hj2 : j ≤ 1000) (hp : 0 ≤ p2) (hp2 : p2 ≤ 1000) {s : Nat × Nat × Int × List Int}
    (hs : s.1 + s.2.1 ≤ s.2.2.2.length ∧ (s.2.1 : Int) ≤ s.2.2.1 ∧ 0 ≤ s.2.2.1 ∧ s.2.2.1 ≤ (x.length : Int) ∧ s.2.2.1 ≤ j + p2 + 1 ∧ QOkB x s.2.2.1 (qu s.1 s.2.1 s.2.2.2) ∧ CovB x lo s.2.2.1 (qu s.1 s.2.1 s.2.2.2)) :
    Gives (fun k => loopT (T_envelope_extremes_v2_l2 k x p2 c0 c1 j c3 c4) k s) (fun s => (s.1 + s.2.1 ≤ s.2.2.2.length ∧ (s.2.1 : Int) ≤ s.2.2.1 ∧ 0 ≤ s.2.2.1 ∧ s.2.2.1 ≤ (x.length : Int) ∧ s.2.2.1 ≤ j + p2 + 1 ∧ QOkB x s.2.2.1 (qu s.1 s.2.1 s.2.2.2) ∧ CovB x lo s.2.2.1 (qu s.1 s.2.1 s.2.2.2)) ∧ ((x.length : Int) ≤ s.2.2.1 ∨ j + p2 < s.2.2.1)) := by
  refine Gives.loop (fun s => s.1 + s.2.1 ≤ s.2.2.2.length ∧ (s.2.1 : Int) ≤ s.2.2.1 ∧ 0 ≤ s.2.2.1 ∧ s.2.2.1 ≤ (x.length : Int) ∧ s.2.2.1 ≤ j + p2 + 1 ∧ QOkB x s.2.2.1 (qu s.1 s.2.1 s.2.2.2) ∧ CovB x lo s.2.2.1 (qu s.1 s.2.1 s.2.2.2)) (fun s => ((x.length : Int) - s.2.2.1).toNat) ?_ hs
  clear hs s
  intro ⟨off, len, nx, row⟩ ⟨i1, i2, i3, i4, i5, i6, i7⟩
  simp only at i1 i2 i3 i4 i5 i6 i7
  unfold T_envelope_extremes_v2_l2
  simp only []
  rw [w64_id (x := j + p2) (by omega) (by omega)]
  by_cases c : nx < (x.length : Int) ∧ nx ≤ j + p2
  · refine Gives.pos (by simpa using c) ?_
    refine Gives.bind (ex_l1B i1 (by omega) (fun q hq => by have := i6.mem q hq; omega) i3 c.1) fun n hn => ?_
    obtain ⟨n1, n2, n3, n4⟩ := hn
    refine Gives.pos (by omega) (Gives.pos (by unfold LIM; omega) ?_)
    rw [w64_id (x := nx + 1) (by omega) (by omega)]
    have hQl := qu_len i1
    have e1 : (row.drop (off + 0)).take (n.toNat - 0) = (qu off len row).take n.toNat := by
      unfold qu
      rw [List.take_take, Nat.add_zero, Nat.sub_zero, Nat.min_eq_left (by omega)]
    rw [e1]
    have hrl : ((qu off len row).take n.toNat ++ [nx]).length = n.toNat - 0 + 1 := by simp [hQl]; omega
    have e2 : qu 0 (n.toNat - 0 + 1) ((qu off len row).take n.toNat ++ [nx]) = (qu off len row).take n.toNat ++ [nx] := by
      rw [← hrl]
      unfold qu
      rw [List.drop_zero, List.take_length]
    have key : ∀ a ∈ (qu off len row).take n.toNat, a < nx ∧ (rd x a < rd x nx) := by
      intro a ha
      obtain ⟨i, hi, rfl⟩ := List.getElem_of_mem ha
      have hi' : i < n.toNat := by simp at hi; omega
      have e3 : ((qu off len row).take n.toNat)[i] = rd (qu off len row) i := by
        have hiq : i < (qu off len row).length := by omega
        unfold rd
        rw [List.getD_eq_getElem?_getD, List.getElem_take]
        simp [hiq]
      rw [e3]
      have hlast : (rd x (rd (qu off len row) (n - 1)) < rd x nx) := n4.resolve_left (by omega)
      have hm : rd (qu off len row) (i : Int) ∈ qu off len row := rd_mem (by omega) (by omega)
      refine ⟨(i6.mem _ hm).2, ?_⟩
      by_cases c2 : (i : Int) = n - 1
      · rw [c2]; exact hlast
      · have := (rd_pairB i6 (a := i) (b := (n - 1).toNat) (by omega) (by omega)).2
        rw [Int.toNat_of_nonneg (by omega)] at this
        omega
    refine Gives.now ⟨⟨?_, ?_, ?_, ?_, ?_, ⟨fun q hq => ?_, ?_⟩, fun i h1 h2 h3 => ?_⟩, ?_⟩
    · simp only []; omega
    · simp only []; omega
    · simp only []; omega
    · simp only []; omega
    · simp only []; omega
    · show 0 ≤ q ∧ q < nx + 1
      simp only [e2] at hq
      rcases List.mem_append.1 hq with hq | hq
      · have := i6.mem q (List.mem_of_mem_take hq); omega
      · simp at hq; omega
    · simp only [e2]
      refine List.pairwise_append.2 ⟨i6.dec.sublist (List.take_sublist _ _), by simp, fun a ha b hb => ?_⟩
      simp at hb
      subst hb
      exact key a ha
    · simp only [e2]
      by_cases c2 : i = nx
      · exact ⟨nx, by simp, by omega, by subst c2; omega⟩
      · obtain ⟨q, hq, hq1, hq2⟩ := i7 i h1 h2 (by simp only at h3; omega)
        obtain ⟨m, hm, rfl⟩ := List.getElem_of_mem hq
        have e3 : (qu off len row)[m] = rd (qu off len row) m := by
          unfold rd
          rw [List.getD_eq_getElem?_getD]
          simp [hm]
        rw [e3] at hq1 hq2
        by_cases c3 : n ≤ (m : Int)
        · have := n3 m c3 (by omega)
          exact ⟨nx, by simp, by simp only at h3; omega, by omega⟩
        · refine ⟨rd (qu off len row) m, List.mem_append_left _ ?_, hq1, hq2⟩
          rw [← e3]
          exact List.mem_take_iff_getElem.2 ⟨m, by omega, rfl⟩
    · simp only []; omega
  · refine Gives.neg (by simpa using c) (Gives.now ⟨⟨i1, i2, i3, i4, i5, i6, i7⟩, by simp only []; omega⟩)
theorem ex_l3B {x row : List Int} {p2 j nx : Int} {c0 : Nat} {c1 c2 c3 : Int} {c4 : List Int} (hj : 0 ≤ j) (hj2 : j ≤ 1000) (hp : 0 ≤ p2) (hp2 : p2 ≤ 1000) (hnx : nx ≤ 32) (h0 : 0 < nx) (h1 : j - p2 < nx) {s : Nat × Nat}
    (hs : s.1 + s.2 ≤ row.length ∧ (s.2 : Int) ≤ nx ∧ QOkB x nx (qu s.1 s.2 row) ∧ CovB x (j - p2) nx (qu s.1 s.2 row)) :
    Gives (fun k => loopT (T_envelope_extremes_v2_l3 k x p2 c0 c1 c2 j c3 row c4) k s) (fun s => (s.1 + s.2 ≤ row.length ∧ (s.2 : Int) ≤ nx ∧ QOkB x nx (qu s.1 s.2 row) ∧ CovB x (j - p2) nx (qu s.1 s.2 row)) ∧ 0 < s.2 ∧ j - p2 ≤ rd (qu s.1 s.2 row) 0) := by
  refine Gives.loop (fun s => s.1 + s.2 ≤ row.length ∧ (s.2 : Int) ≤ nx ∧ QOkB x nx (qu s.1 s.2 row) ∧ CovB x (j - p2) nx (qu s.1 s.2 row)) (fun s => s.2) ?_ hs
  clear hs s
  intro ⟨off, len⟩ ⟨i1, i2, i3, i4⟩
  simp only at i1 i2 i3 i4
  unfold T_envelope_extremes_v2_l3
  simp only []
  have hQl := qu_len i1
  have hpos : 0 < len := by
    obtain ⟨q, hq, _⟩ := i4 (if j - p2 < 0 then 0 else j - p2) (by split <;> omega) (by split <;> omega) (by split <;> omega)
    have := List.length_pos_of_mem hq
    omega
  have g := qu_get (m := 0) i1 hpos
  refine Gives.pos (by omega) (Gives.opt g ?_)
  rw [w64_id (x := j - p2) (by omega) (by omega)]
  refine Gives.ite (fun c => Gives.pos (by omega) ?_) fun c => Gives.now ⟨⟨i1, i2, i3, i4⟩, hpos, by simp only [] at c ⊢; simpa using c⟩
  have eq : qu off len row = rd (qu off len row) 0 :: qu (off + 1) (len - 1) row := by
    obtain ⟨l', rfl⟩ : ∃ l', len = l' + 1 := ⟨len - 1, by omega⟩
    have hc : qu off (l' + 1) row = row[off]'(by omega) :: qu (off + 1) l' row := by
      unfold qu
      rw [List.drop_eq_getElem_cons (by omega), List.take_succ_cons]
    rw [hc]
    rfl
  have hsub : ∀ q ∈ qu (off + 1) (len - 1) row, q ∈ qu off len row := fun q hq => by rw [eq]; exact List.mem_cons_of_mem _ hq
  refine Gives.now ⟨⟨?_, ?_, ⟨fun q hq => i3.mem q (hsub q ?_), ?_⟩, fun i h1 h2 h3 => ?_⟩, ?_⟩
  · simp only []; omega
  · simp only []; omega
  · simpa using hq
  · have := i3.dec
    rw [eq] at this
    simpa using (List.pairwise_cons.1 this).2
  · obtain ⟨q, hq, hq1, hq2⟩ := i4 i h1 h2 h3
    rw [eq] at hq
    rcases List.mem_cons.1 hq with hq | hq
    · exfalso
      have c : rd (qu off len row) ((0 : Nat) : Int) < j - p2 := c
      have : rd (qu off len row) ((0 : Nat) : Int) = rd (qu off len row) 0 := rfl
      omega
    · exact ⟨q, by simpa using hq, hq1, hq2⟩
  · simp only []; omega
theorem ex_okB {x : List Int} {p2 n : Int} (hx : Win x) (hp : 0 ≤ p2) (hp2 : p2 ≤ 32) (hn : 0 ≤ n) (hn2 : n ≤ 32) (hf : n - (x.length : Int) ≤ p2) :
    Gives (fun k => T_envelope_extremes_v2 k x p2 n) (fun r => (r.length : Int) = n ∧ ∀ j, 0 ≤ j → j < n → BestB x p2 j (rd r j)) := by
  have x1 := hx.lo
  have x2 := hx.hi
  refine Gives.step ?_
  simp only [T_envelope_extremes_v2]
  refine Gives.pos (by unfold LIM; omega) (Gives.bind (Q := fun r => r.length = n.toNat ∧ ∀ j, 0 ≤ j → j < n → BestB x p2 j (rd r j)) ?_ fun r hr => ?_)
  · refine Gives.loop (fun s => s.1 + s.2.1 ≤ s.2.2.2.2.1.length ∧ (s.2.1 : Int) ≤ s.2.2.1 ∧ 0 ≤ s.2.2.1 ∧ s.2.2.1 ≤ (x.length : Int) ∧ 0 ≤ s.2.2.2.1 ∧ s.2.2.2.1 ≤ n ∧ s.2.2.1 ≤ s.2.2.2.1 + p2 ∧ QOkB x s.2.2.1 (qu s.1 s.2.1 s.2.2.2.2.1) ∧ CovB x (s.2.2.2.1 - 1 - p2) s.2.2.1 (qu s.1 s.2.1 s.2.2.2.2.1) ∧
        s.2.2.2.2.2.length = n.toNat ∧ ∀ j, 0 ≤ j → j < s.2.2.2.1 → BestB x p2 j (rd s.2.2.2.2.2 j)) (fun s => (n - s.2.2.2.1).toNat) ?_ ?_
    · intro ⟨off, len, nx, j, row, out⟩ ⟨i1, i2, i3, i4, i5, i6, i7, i8, i9, i10, i11⟩
      simp only at i1 i2 i3 i4 i5 i6 i7 i8 i9 i10 i11
      unfold T_envelope_extremes_v2_l4
      simp only []
      refine Gives.ite (fun c => ?_) fun c => Gives.now ⟨i10, fun j' h1 h2 => i11 j' h1 (by omega)⟩
      refine Gives.bind (ex_l2B (lo := j - 1 - p2) x2 i5 (by omega) hp (by omega) ⟨i1, i2, i3, i4, by simp only []; omega, i8, i9⟩) fun a ha => ?_
      obtain ⟨⟨a1, a2, a3, a4, a5, a6, a7⟩, a8⟩ := ha
      have hi0 : j - p2 < a.2.2.1 ∧ 0 < a.2.2.1 := by omega
      refine Gives.bind (ex_l3B (x := x) (nx := a.2.2.1) i5 (by omega) hp (by omega) (by omega) hi0.2 hi0.1 ⟨a1, a2, a6, fun i h1 h2 h3 => a7 i h1 (by omega) h3⟩) fun b hb => ?_
      obtain ⟨⟨b1, b2, b3, b4⟩, b5, b6⟩ := hb
      have g := qu_get (m := 0) b1 b5
      have hQl := qu_len b1
      have hm : rd (qu b.1 b.2 a.2.2.2) 0 ∈ qu b.1 b.2 a.2.2.2 := rd_mem (by omega) (by rw [hQl]; omega)
      obtain ⟨m1, m2⟩ := b3.mem _ hm
      refine Gives.pos (by omega) (Gives.opt g (Gives.opt (at_rd (xs := x) (i := rd (qu b.1 b.2 a.2.2.2) 0) m1 (by omega)) (Gives.pos (by omega) ?_)))
      rw [w64_id (x := j + 1) (by omega) (by omega)]
      refine Gives.now ⟨⟨b1, b2, a3, a4, ?_, ?_, ?_, b3, fun i h1 h2 h3 => b4 i h1 (by simp only at h2; omega) h3, ?_, fun j' h1 h2 => ?_⟩, ?_⟩
      · simp only []; omega
      · simp only []; omega
      · simp only []; omega
      · simp [i10]
      · simp only at h2
        by_cases cj : j' = j
        · subst cj
          have : rd (out.set (0 + j'.toNat) (rd x (rd (qu b.1 b.2 a.2.2.2) 0))) j' = rd x (rd (qu b.1 b.2 a.2.2.2) 0) := by
            unfold rd
            rw [Nat.zero_add, List.getD_eq_getElem?_getD, List.getElem?_set_self (by omega)]; rfl
          simp only [this]
          refine ⟨⟨_, m1, by omega, b6, by omega, rfl⟩, fun i k1 k2 k3 k4 => ?_⟩
          obtain ⟨q, hq, q1, q2⟩ := b4 i k1 k3 (by omega)
          obtain ⟨m, hm2, rfl⟩ := List.getElem_of_mem hq
          have e3 : (qu b.1 b.2 a.2.2.2)[m] = rd (qu b.1 b.2 a.2.2.2) m := by
            unfold rd
            rw [List.getD_eq_getElem?_getD]
            simp [hm2]
          rw [e3] at q2
          by_cases c0 : m = 0
          · subst c0; exact q2
          · have := (rd_pairB b3 (a := 0) (b := m) (by omega) hm2).2
            have e0 : ((0 : Nat) : Int) = 0 := rfl
            rw [e0] at this
            omega
        · have : rd (out.set (0 + j.toNat) (rd x (rd (qu b.1 b.2 a.2.2.2) 0))) j' = rd out j' := by
            unfold rd
            rw [Nat.zero_add, List.getD_eq_getElem?_getD, List.getElem?_set_ne (by omega), List.getD_eq_getElem?_getD]
          simp only [this]
          exact i11 j' h1 (by omega)
      · simp only []; omega
    · refine ⟨by simp, by simp, by simp, by simp, by simp, by simpa using hn, by simpa using hp, ⟨fun q hq => by simp [qu] at hq, by simp [qu]⟩, fun i h1 h2 h3 => by simp only at h3; omega, by simp, fun j h1 h2 => by simp only at h2; omega⟩
  · rw [drop_take_len hr.1]
    exact Gives.now ⟨by rw [hr.1]; omega, hr.2⟩

theorem env_of {x : List Int} {p2 n : Int} (hx : Win x) (hp : 0 ≤ p2) (hp2 : p2 ≤ 32) (hn : 2 ≤ n) (hn2 : n ≤ 32) (hf : n - (x.length : Int) ≤ p2) :
    Gives (fun k => T_envelope_of k x p2 n) (fun r => ((r.1.length : Int) = n ∧ ∀ j, 0 ≤ j → j < n → BestA x p2 j (rd r.1 j)) ∧ ((r.2.length : Int) = n ∧ ∀ j, 0 ≤ j → j < n → BestB x p2 j (rd r.2 j))) := by
  refine Gives.step ?_
  simp only [T_envelope_of]
  exact Gives.bind (ex_okA hx hp hp2 (by omega) hn2 hf) fun a ha => Gives.bind (ex_okB hx hp hp2 (by omega) hn2 hf) fun b hb => Gives.now ⟨ha, hb⟩
theorem env_Of {x : List Int} {p2 n : Int} (hx : Win x) (hp : 0 ≤ p2) (hp2 : p2 ≤ 32) (hn : 2 ≤ n) (hn2 : n ≤ 32) (hf : n - (x.length : Int) ≤ p2) (hf2 : (x.length : Int) - n ≤ p2) :
    Gives (fun k => T_envelope_Of k x p2 n) (fun r => ((r.1.length : Int) = n ∧ ∀ j, 0 ≤ j → j < n → BestA x p2 j (rd r.1 j)) ∧ ((r.2.1.length : Int) = n ∧ ∀ j, 0 ≤ j → j < n → BestB x p2 j (rd r.2.1 j)) ∧ r.2.2 = 0) := by
  have x1 := hx.lo
  have x2 := hx.hi
  refine Gives.step ?_
  simp only [T_envelope_Of]
  refine Gives.neg (by simp; omega) (Gives.bind (eu_distance hx hx rfl) fun e he => ?_)
  refine Gives.neg (by simp [he]) (Gives.neg ?_ ?_)
  · rw [w64_id (x := n - (x.length : Int)) (by omega) (by omega), w64_id (x := (x.length : Int) - n) (by omega) (by omega)]
    simp; omega
  · exact Gives.bind (env_of hx hp hp2 hn hn2 hf) fun r hr => Gives.now ⟨hr.1, hr.2, rfl⟩

-- The envelope of a wider band holds that of a narrower one, and without a limit to the band it is the greatest and the least sample everywhere: EnvelopeNests returns true for every list and number.
theorem awake_k (k : Nat) : T_law20_awake (k + 40) = some true := by kernel_rfl
theorem awake_ok : Gives (fun k => T_law20_awake k) (· = true) := ⟨true, ⟨40, fun k hk => by
  obtain ⟨m, rfl⟩ : ∃ m, k = m + 40 := ⟨k - 40, by omega⟩
  exact awake_k m⟩, rfl⟩
theorem nests_most {x c1 c2 c3 c4 c5 c6 : List Int} (hx : Win x) : Gives (fun k => loopT (T_law20_EnvelopeNests_l1 k x c1 c2 c3 c4 c5 c6 (x.length : Int)) k (rd x 0, rd x 0, 0))
    (fun r => ((∃ m, 0 ≤ m ∧ m < (x.length : Int) ∧ rd x m = r.1) ∧ ∀ i, 0 ≤ i → i < (x.length : Int) → rd x i ≤ r.1) ∧ ((∃ m, 0 ≤ m ∧ m < (x.length : Int) ∧ rd x m = r.2) ∧ ∀ i, 0 ≤ i → i < (x.length : Int) → r.2 ≤ rd x i)) := by
  have x1 := hx.lo
  have x2 := hx.hi
  refine Gives.loop (fun t => 0 ≤ t.2.2 ∧ t.2.2 ≤ (x.length : Int) ∧ (∃ m, 0 ≤ m ∧ m < (x.length : Int) ∧ rd x m = t.1) ∧ (∀ i, 0 ≤ i → i < t.2.2 → rd x i ≤ t.1) ∧ (∃ m, 0 ≤ m ∧ m < (x.length : Int) ∧ rd x m = t.2.1) ∧ ∀ i, 0 ≤ i → i < t.2.2 → t.2.1 ≤ rd x i) (fun t => ((x.length : Int) - t.2.2).toNat) ?_
    ⟨by simp only []; omega, by simp only []; omega, ⟨0, by omega, by omega, rfl⟩, fun i h1 h2 => by simp only at h2; omega, ⟨0, by omega, by omega, rfl⟩, fun i h1 h2 => by simp only at h2; omega⟩
  intro ⟨most, least, i⟩ ⟨i1, i2, ⟨m, m1, m2, m3⟩, i4, ⟨q, q1, q2, q3⟩, i6⟩
  simp only at i1 i2 i4 i6 m3 q3
  unfold T_law20_EnvelopeNests_l1
  simp only []
  refine Gives.ite (fun c => Gives.opt (at_rd i1 c) ?_) fun c => Gives.now ⟨⟨⟨m, m1, m2, m3⟩, fun j h1 h2 => i4 j h1 (by omega)⟩, ⟨q, q1, q2, q3⟩, fun j h1 h2 => i6 j h1 (by omega)⟩
  rw [w64_id (x := i + 1) (by omega) (by omega)]
  have e1 : (imax most (rd x i) = most ∧ rd x i ≤ most) ∨ (imax most (rd x i) = rd x i ∧ most ≤ rd x i) := by unfold imax; split <;> omega
  have e2 : (imin least (rd x i) = least ∧ least ≤ rd x i) ∨ (imin least (rd x i) = rd x i ∧ rd x i ≤ least) := by unfold imin; split <;> omega
  refine Gives.now ⟨⟨by simp only []; omega, by simp only []; omega, ?_, fun j h1 h2 => ?_, ?_, fun j h1 h2 => ?_⟩, by simp only []; omega⟩
  · rcases e1 with e1 | e1
    · exact ⟨m, m1, m2, by simp only []; omega⟩
    · exact ⟨i, i1, c, by simp only []; omega⟩
  · simp only at h2 ⊢
    by_cases e : j = i
    · subst e; omega
    · have := i4 j h1 (by omega); omega
  · rcases e2 with e2 | e2
    · exact ⟨q, q1, q2, by simp only []; omega⟩
    · exact ⟨i, i1, c, by simp only []; omega⟩
  · simp only at h2 ⊢
    by_cases e : j = i
    · subst e; omega
    · have := i6 j h1 (by omega); omega
theorem nests_loop {x u s v t w r : List Int} {b b2 n most least : Int} (hx : Win x) (hb : 0 ≤ b) (hbb : b ≤ b2) (hb2 : b2 ≤ 32) (hn : 0 ≤ n) (hn2 : n ≤ 32)
    (hu : (u.length : Int) = n ∧ ∀ j, 0 ≤ j → j < n → BestA x b j (rd u j)) (hs : (s.length : Int) = n ∧ ∀ j, 0 ≤ j → j < n → BestB x b j (rd s j))
    (hv : (v.length : Int) = n ∧ ∀ j, 0 ≤ j → j < n → BestA x b2 j (rd v j)) (ht : (t.length : Int) = n ∧ ∀ j, 0 ≤ j → j < n → BestB x b2 j (rd t j))
    (hw : (w.length : Int) = n ∧ ∀ j, 0 ≤ j → j < n → BestA x 32 j (rd w j)) (hr : (r.length : Int) = n ∧ ∀ j, 0 ≤ j → j < n → BestB x 32 j (rd r j))
    (hm : (∃ m, 0 ≤ m ∧ m < (x.length : Int) ∧ rd x m = most) ∧ ∀ i, 0 ≤ i → i < (x.length : Int) → rd x i ≤ most) (hl : (∃ m, 0 ≤ m ∧ m < (x.length : Int) ∧ rd x m = least) ∧ ∀ i, 0 ≤ i → i < (x.length : Int) → least ≤ rd x i) :
    Gives (fun k => loopT (T_law20_EnvelopeNests_l2 k u s v t w r most least (u.length : Int)) k 0) (fun y => y = .inl ()) := by
  have x2 := hx.hi
  refine Gives.loop (fun j => 0 ≤ j ∧ j ≤ n) (fun j => (n - j).toNat) ?_ ⟨by omega, by omega⟩
  intro j ⟨j1, j2⟩
  unfold T_law20_EnvelopeNests_l2
  rw [hu.1]
  refine Gives.ite (fun c => ?_) fun c => Gives.now rfl
  have bu := hu.2 j j1 c
  have bs := hs.2 j j1 c
  have bv := hv.2 j j1 c
  have bt := ht.2 j j1 c
  have bw := hw.2 j j1 c
  have br := hr.2 j j1 c
  obtain ⟨iu, u1, u2, u3, u4, u5⟩ := bu.1
  obtain ⟨is, s1, s2, s3, s4, s5⟩ := bs.1
  obtain ⟨iw, w1, w2, w3, w4, w5⟩ := bw.1
  obtain ⟨ir, r1, r2, r3, r4, r5⟩ := br.1
  obtain ⟨im, m1, m2, m3⟩ := hm.1
  obtain ⟨il, l1, l2, l3⟩ := hl.1
  have k1 := bs.2 iu u1 u2 u3 u4
  have k2 := bv.2 iu u1 u2 (by omega) (by omega)
  have k3 := bt.2 is s1 s2 (by omega) (by omega)
  have k4 := hm.2 iw w1 w2
  have k5 := bw.2 im m1 m2 (by omega) (by omega)
  have k6 := hl.2 ir r1 r2
  have k7 := br.2 il l1 l2 (by omega) (by omega)
  refine Gives.bind (Q := fun y => y = false) ?_ fun y hy => ?_
  · refine Gives.opt (at_rd j1 (by omega)) (Gives.opt (at_rd j1 (by omega)) (Gives.neg (by omega) (Gives.opt (at_rd j1 (by omega)) (Gives.neg (by omega) (Gives.opt (at_rd j1 (by omega)) (Gives.neg (by omega) (Gives.opt (at_rd j1 (by omega)) (Gives.neg ?_ (Gives.opt (at_rd j1 (by omega)) (Gives.now ?_))))))))))
    · simp; omega
    · simp; omega
  subst hy
  refine Gives.neg (by simp) ?_
  rw [w64_id (x := j + 1) (by omega) (by omega)]
  exact Gives.now ⟨⟨by omega, by omega⟩, by omega⟩
theorem pure_envelopeNests (a0 : List Int) (w0 : ∀ n ∈ a0, (Lit.int .i64 n).wf = true) (a1 : Int) (w1 : (Lit.int .u8 a1).wf = true) : ∃ k, T_law20_EnvelopeNests k a0 a1 = some true := by
  obtain ⟨h1, h2⟩ := wf_u8 w1
  refine Gives.true (f := fun k => T_law20_EnvelopeNests k a0 a1) ?_
  obtain ⟨s0, s1⟩ := src_new a0
  refine Gives.step ?_
  simp only [T_law20_EnvelopeNests]
  refine Gives.bind s1 fun _ _ => Gives.bind (src_uneven s0) fun a ha => ?_
  obtain ⟨⟨f1, f2, f3, f4, f5, f6⟩, _⟩ := ha
  have x1 := f1.lo
  have x2 := f1.hi
  have y1 := f2.lo
  have y2 := f2.hi
  have eb : a.2.2.1 ≤ imin 32 (w64 (a.2.2.1 + w64 a1)) ∧ imin 32 (w64 (a.2.2.1 + w64 a1)) ≤ 32 := by
    rw [w64_id (x := a1) (by omega) (by omega), w64_id (by omega) (by omega)]
    unfold imin; split <;> omega
  refine Gives.bind (env_Of f1 f3 f4 (by omega) (by omega) f6 f5) fun e he => ?_
  refine Gives.bind (env_Of f1 (by omega) eb.2 (by omega) (by omega) (by omega) (by omega)) fun g hg => ?_
  refine Gives.bind (env_Of f1 (by omega) (by omega) (by omega) (by omega) (by omega) (by omega)) fun q hq => ?_
  obtain ⟨e1, e3, e5⟩ := he
  obtain ⟨g1, g3, g5⟩ := hg
  obtain ⟨q1, q3, q5⟩ := hq
  refine Gives.neg (by simp [e1.1, e3.1, e5, g1.1, g3.1, g5, q1.1, q3.1, q5]) (Gives.opt (at_rd (by omega) (by omega)) ?_)
  refine Gives.bind (nests_most f1) fun m hm => ?_
  refine Gives.bind (nests_loop f1 f3 eb.1 eb.2 (by omega) (by omega) e1 e3 g1 g3 q1 q3 hm.1 hm.2) fun r hr => ?_
  subst hr
  exact Gives.bind awake_ok fun v hv => Gives.now hv

end Go.Proofs.Ytdelnjemfjihpaa.envelopeNests
