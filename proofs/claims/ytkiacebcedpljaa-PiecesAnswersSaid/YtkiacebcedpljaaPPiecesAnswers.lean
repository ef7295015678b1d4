/- That the told functions answer as the statement PiecesAnswers says, in plain Lean. There are no conditions. -/
import Derived.Test.YtkiacebcedpljaaTPiecesAnswers1
set_option maxRecDepth 100000
set_option linter.unusedVariables false
set_option linter.unusedSimpArgs false
namespace Go.Proofs.Ytkiacebcedpljaa.piecesAnswers
open Go
theorem wf_u8 {n : Int} (h : (Lit.int .u8 n).wf = true) : 0 ≤ n ∧ n ≤ 255 := by
  simpa [Lit.wf, IntKind.min, IntKind.max, IntKind.signed, IntKind.bits] using h
theorem wf_i8 {n : Int} (h : (Lit.int .i8 n).wf = true) : -128 ≤ n ∧ n ≤ 127 := by
  simpa [Lit.wf, IntKind.min, IntKind.max, IntKind.signed, IntKind.bits] using h
theorem wf_i64 {n : Int} (h : (Lit.int .i64 n).wf = true) : -9223372036854775808 ≤ n ∧ n ≤ 9223372036854775807 := by
  simpa [Lit.wf, IntKind.min, IntKind.max, IntKind.signed, IntKind.bits] using h
theorem w64_id {x : Int} (h1 : -9223372036854775808 ≤ x) (h2 : x < 9223372036854775808) : w64 x = x := wrap_id h1 h2

/-- With enough rounds the answer is there, and it is as asked. -/
def Gives {α : Type} (f : Nat → Option α) (Q : α → Prop) : Prop := ∃ r, (∃ K, ∀ k, K ≤ k → f k = some r) ∧ Q r
theorem Gives.mono {α : Type} {f : Nat → Option α} {Q Q' : α → Prop} (h : Gives f Q) (k : ∀ r, Q r → Q' r) : Gives f Q' := by
  obtain ⟨r, h1, h2⟩ := h; exact ⟨r, h1, k r h2⟩
theorem Gives.now {α : Type} {r : α} {Q : α → Prop} (h : Q r) : Gives (fun _ => some r) Q := ⟨r, ⟨0, fun _ _ => rfl⟩, h⟩
theorem Gives.con {α : Type} {x : Option α} {r : α} {Q : α → Prop} (h : x = some r) (k : Q r) : Gives (fun _ => x) Q := ⟨r, ⟨0, fun _ _ => h⟩, k⟩
theorem Gives.bind {α β : Type} {f : Nat → Option α} {g : Nat → α → Option β} {Q : α → Prop} {Q' : β → Prop} (h : Gives f Q) (k : ∀ a, Q a → Gives (fun n => g n a) Q') : Gives (fun n => (f n).bind (g n)) Q' := by
  obtain ⟨a, ⟨K, hK⟩, ha⟩ := h
  obtain ⟨r, ⟨K2, hK2⟩, hr⟩ := k a ha
  exact ⟨r, ⟨max K K2, fun n hn => by show (f n).bind (g n) = some r; rw [hK n (by omega), Option.bind_some]; exact hK2 n (by omega)⟩, hr⟩
theorem Gives.opt {α β : Type} {x : Option α} {a : α} {g : Nat → α → Option β} {Q : β → Prop} (h : x = some a) (k : Gives (fun n => g n a) Q) : Gives (fun n => x.bind (g n)) Q := by
  subst h; exact k
theorem Gives.step {α : Type} {f : Nat → Option α} {Q : α → Prop} (h : Gives (fun k => f (k + 1)) Q) : Gives f Q := by
  obtain ⟨r, ⟨K, hK⟩, hr⟩ := h
  refine ⟨r, ⟨K + 1, fun n hn => ?_⟩, hr⟩
  obtain ⟨m, rfl⟩ : ∃ m, n = m + 1 := ⟨n - 1, by omega⟩
  exact hK m (by omega)
theorem Gives.ite {α : Type} {c : Prop} [Decidable c] {f g : Nat → Option α} {Q : α → Prop} (h : c → Gives f Q) (k : ¬ c → Gives g Q) : Gives (fun n => if c then f n else g n) Q := by
  by_cases hc : c
  · simp only [if_pos hc]; exact h hc
  · simp only [if_neg hc]; exact k hc
theorem Gives.pos {α : Type} {c : Prop} [Decidable c] {f g : Nat → Option α} {Q : α → Prop} (hc : c) (h : Gives f Q) : Gives (fun n => if c then f n else g n) Q := by
  simp only [if_pos hc]; exact h
theorem Gives.neg {α : Type} {c : Prop} [Decidable c] {f g : Nat → Option α} {Q : α → Prop} (hc : ¬ c) (h : Gives g Q) : Gives (fun n => if c then f n else g n) Q := by
  simp only [if_neg hc]; exact h
theorem Gives.loop {S R : Type} {f : Nat → S → Option (S ⊕ R)} {Q : R → Prop} (Inv : S → Prop) (m : S → Nat)
    (h : ∀ s, Inv s → Gives (fun k => f k s) (fun x => match x with | .inl s' => Inv s' ∧ m s' < m s | .inr r => Q r)) {s : S} (hs : Inv s) : Gives (fun k => loopT (f k) k s) Q := by
  suffices H : ∀ (n : Nat) (s : S), m s < n → Inv s → ∃ r, (∃ K N, ∀ k, K ≤ k → ∀ j, N ≤ j → loopT (f k) j s = some r) ∧ Q r by
    obtain ⟨r, ⟨K, N, hK⟩, hr⟩ := H (m s + 1) s (by omega) hs
    exact ⟨r, ⟨max K N, fun k hk => hK k (by omega) k (by omega)⟩, hr⟩
  intro n
  induction n with
  | zero => intro s hs; omega
  | succ n ih =>
    intro s hs hI
    obtain ⟨x, ⟨K, hK⟩, hx⟩ := h s hI
    cases x with
    | inl s' =>
      obtain ⟨r, ⟨K2, N, hK2⟩, hr⟩ := ih s' (by have := hx.2; omega) hx.1
      refine ⟨r, ⟨max K K2, N + 1, fun k hk j hj => ?_⟩, hr⟩
      obtain ⟨j', rfl⟩ : ∃ j', j = j' + 1 := ⟨j - 1, by omega⟩
      simp only [loopT, hK k (by omega), Option.bind_some]
      exact hK2 k (by omega) j' (by omega)
    | inr r =>
      refine ⟨r, ⟨K, 1, fun k hk j hj => ?_⟩, hx⟩
      obtain ⟨j', rfl⟩ : ∃ j', j = j' + 1 := ⟨j - 1, by omega⟩
      simp only [loopT, hK k hk, Option.bind_some]
theorem Gives.true {f : Nat → Option Bool} (h : Gives f (· = true)) : ∃ k, f k = some true := by
  obtain ⟨r, ⟨K, hK⟩, hr⟩ := h
  subst hr
  exact ⟨K, hK K (Nat.le_refl _)⟩
/-- An element of a list, 0 outside of it. -/
def rd (xs : List Int) (i : Int) : Int := xs.getD i.toNat 0
theorem at_rd {xs : List Int} {i : Int} (h0 : 0 ≤ i) (h1 : i < (xs.length : Int)) : at? xs i = some (rd xs i) := by
  unfold at? rd
  rw [if_pos h0, List.getD_eq_getElem?_getD, List.getElem?_eq_getElem (by omega)]; rfl
theorem get_rd {xs : List Int} {n : Nat} (h1 : n < xs.length) : xs[n]? = some (rd xs n) := by
  unfold rd
  rw [List.getD_eq_getElem?_getD, List.getElem?_eq_getElem h1]
  simp [h1]
theorem rd_mem {xs : List Int} {i : Int} (h0 : 0 ≤ i) (h1 : i < (xs.length : Int)) : rd xs i ∈ xs := by
  unfold rd
  have h : i.toNat < xs.length := by omega
  rw [List.getD_eq_getElem?_getD, List.getElem?_eq_getElem h]; exact List.getElem_mem h
/-- All numbers are samples. -/
def Smp (xs : List Int) : Prop := ∀ v ∈ xs, -1000 ≤ v ∧ v ≤ 1000
theorem Smp.rd {xs : List Int} (h : Smp xs) (i : Int) : -1000 ≤ rd xs i ∧ rd xs i ≤ 1000 := by
  show -1000 ≤ xs.getD i.toNat 0 ∧ xs.getD i.toNat 0 ≤ 1000
  rw [List.getD_eq_getElem?_getD]
  rcases Nat.lt_or_ge i.toNat xs.length with c | c
  · rw [List.getElem?_eq_getElem c]; exact h _ (List.getElem_mem c)
  · rw [List.getElem?_eq_none c]; decide
theorem Smp.nil : Smp [] := fun _ h => by simp at h
theorem Smp.app {xs ys : List Int} (h : Smp xs) (k : Smp ys) : Smp (xs ++ ys) := fun v hv => by
  rcases List.mem_append.1 hv with h1 | h1
  · exact h v h1
  · exact k v h1
theorem Smp.one {v : Int} (h0 : -1000 ≤ v) (h1 : v ≤ 1000) : Smp [v] := fun u hu => by
  obtain rfl := List.mem_singleton.1 hu; exact ⟨h0, h1⟩
theorem Smp.take {xs : List Int} (h : Smp xs) (n : Nat) : Smp (xs.take n) := fun v hv => h v (List.mem_of_mem_take hv)
theorem Smp.drop {xs : List Int} (h : Smp xs) (n : Nat) : Smp (xs.drop n) := fun v hv => h v (List.mem_of_mem_drop hv)
theorem Smp.set {xs : List Int} (h : Smp xs) (n : Nat) {v : Int} (h0 : -1000 ≤ v) (h1 : v ≤ 1000) : Smp (xs.set n v) := fun u hu => by
  rcases List.mem_or_eq_of_mem_set hu with h2 | h2
  · exact h u h2
  · subst h2; exact ⟨h0, h1⟩
/-- A window. -/
structure Win (xs : List Int) : Prop where
  lo : 2 ≤ xs.length
  hi : xs.length ≤ 32
  smp : Smp xs

/-- A reader of numbers. -/
structure SrcOk (L : List Int) (p : Int) : Prop where
  lo : 0 ≤ p
  hi : p ≤ (L.length : Int)
  len : L.length ≤ 2000
theorem src_raw {L : List Int} {p : Int} (h : SrcOk L p) : Gives (fun k => T_keep_Src_Raw k L p) (fun r => SrcOk L r.2) := by
  obtain ⟨h0, h1, h2⟩ := h
  refine Gives.step ?_
  simp only [T_keep_Src_Raw]
  have e1 : w64 (p + 1) = p + 1 := w64_id (by omega) (by omega)
  have e2 : w64 (w64 (p + 1) - 1) = p := by rw [e1, w64_id (by omega) (by omega)]; omega
  refine Gives.ite (fun c => Gives.now ⟨h0, h1, h2⟩) fun c => ?_
  rw [e2, e1]
  exact Gives.opt (at_rd h0 (by omega)) (Gives.now ⟨by simp only []; omega, by simp only []; omega, h2⟩)
theorem src_mod (x n : Int) (h : 1 ≤ n) (hn : n ≤ 4611686018427387904) : Gives (fun k => T_keep_Mod k x n) (fun v => 0 ≤ v ∧ v < n) := by
  have h1 : Int.tmod x n < n := Int.tmod_lt_of_pos _ (by omega)
  have h2 : -n < Int.tmod x n := by
    rcases Int.le_total 0 x with c | c
    · have := Int.tmod_nonneg n c; omega
    · have h3 : Int.tmod (-x) n < n := Int.tmod_lt_of_pos _ (by omega)
      rw [Int.neg_tmod] at h3; omega
  refine Gives.step ?_
  simp only [T_keep_Mod]
  refine Gives.neg (by omega) (Gives.pos (by omega) (Gives.bind (Q := fun v => 0 ≤ v ∧ v < n) ?_ fun a ha => Gives.now ha))
  refine Gives.ite (fun c => ?_) fun c => Gives.now ⟨by omega, by omega⟩
  rw [w64_id (by omega) (by omega)]
  exact Gives.now ⟨by omega, by omega⟩
theorem src_n {L : List Int} {p : Int} (h : SrcOk L p) (n : Int) (h1 : 1 ≤ n) (hn : n ≤ 4611686018427387904) : Gives (fun k => T_keep_Src_N k n L p) (fun r => 0 ≤ r.1 ∧ r.1 < n ∧ SrcOk L r.2) := by
  refine Gives.step ?_
  simp only [T_keep_Src_N]
  exact Gives.bind (src_raw h) fun a ha => Gives.bind (src_mod a.1 n h1 hn) fun v hv => Gives.now ⟨hv.1, hv.2, ha⟩
theorem src_range {L : List Int} {p : Int} (h : SrcOk L p) (lo hi : Int) (h1 : lo ≤ hi) (h0 : -1000000000000 ≤ lo) (h2 : hi ≤ 1000000000000) : Gives (fun k => T_keep_Src_Range k lo hi L p) (fun r => lo ≤ r.1 ∧ r.1 ≤ hi ∧ SrcOk L r.2) := by
  have e1 : w64 (w64 (hi - lo) + 1) = hi - lo + 1 := by rw [w64_id (x := hi - lo) (by omega) (by omega), w64_id (by omega) (by omega)]
  refine Gives.step ?_
  simp only [T_keep_Src_Range]
  rw [e1]
  refine Gives.bind (src_n h (hi - lo + 1) (by omega) (by omega)) fun a ha => ?_
  rw [w64_id (by omega) (by omega)]
  exact Gives.now ⟨by simp only []; omega, by simp only []; omega, ha.2.2⟩
theorem src_pick {L : List Int} {p : Int} (h : SrcOk L p) (l : List Int) (h1 : 1 ≤ l.length) (h2 : l.length ≤ 1000) : Gives (fun k => T_keep_Src_Pick k l L p) (fun r => r.1 ∈ l ∧ SrcOk L r.2) := by
  refine Gives.step ?_
  simp only [T_keep_Src_Pick]
  exact Gives.bind (src_n h (l.length : Int) (by omega) (by omega)) fun a ha => Gives.opt (at_rd ha.1 ha.2.1) (Gives.now ⟨rd_mem ha.1 ha.2.1, ha.2.2⟩)
theorem src_clip (x : Int) : Gives (fun k => T_keep_clip k x) (fun _ => True) := by
  refine Gives.step ?_
  simp only [T_keep_clip]
  exact Gives.now trivial
theorem clip_smp (x : Int) : -1000 ≤ imin (imax x (-1000)) 1000 ∧ imin (imax x (-1000)) 1000 ≤ 1000 := by unfold imin imax; split <;> split <;> omega
theorem src_length {L : List Int} {p : Int} (h : SrcOk L p) : Gives (fun k => T_keep_Src_Length k L p) (fun r => 2 ≤ r.1 ∧ r.1 ≤ 32 ∧ SrcOk L r.2) := by
  refine Gives.step ?_
  simp only [T_keep_Src_Length]
  refine Gives.bind (src_n h 8 (by omega) (by omega)) fun a ha => Gives.ite (fun c => ?_) fun c => ?_
  · exact Gives.bind (src_range ha.2.2 13 32 (by omega) (by omega) (by omega)) fun b hb => Gives.now ⟨by simp only []; omega, by simp only []; omega, hb.2.2⟩
  · exact Gives.bind (src_range ha.2.2 2 12 (by omega) (by omega) (by omega)) fun b hb => Gives.now ⟨by simp only []; omega, by simp only []; omega, hb.2.2⟩
theorem drop_take_len {xs : List Int} {n : Nat} (h : xs.length = n) : (xs.drop 0).take n = xs := by rw [List.drop_zero, ← h, List.take_length]
theorem src_list {L : List Int} {p : Int} (h : SrcOk L p) (n : Int) (h1 : 2 ≤ n) (h2 : n ≤ 32) : Gives (fun k => T_keep_Src_List k n L p) (fun r => (r.1.length : Int) = n ∧ Smp r.1 ∧ SrcOk L r.2) := by
  refine Gives.step ?_
  simp only [T_keep_Src_List]
  refine Gives.bind (src_n h 6 (by omega) (by omega)) fun a ha => Gives.bind (src_pick ha.2.2 [1, 3, 10, 100, 1000] (by decide) (by decide)) fun b hb => Gives.bind (src_n hb.2 3 (by omega) (by omega)) fun c hc => ?_
  have hb1 : 1 ≤ b.1 ∧ b.1 ≤ 1000 := by have := hb.1; simp at this; omega
  have em : w64 (0 - b.1) = -b.1 := by rw [w64_id (by omega) (by omega)]; omega
  refine Gives.bind (Q := fun d => -1000 ≤ d.1 ∧ d.1 ≤ 1000 ∧ SrcOk L d.2) ?_ fun d hd => ?_
  · refine Gives.ite (fun _ => ?_) fun _ => Gives.now ⟨by simp only []; omega, by simp only []; omega, hc.2.2⟩
    exact Gives.bind (src_range hc.2.2 (-1000) 1000 (by omega) (by omega) (by omega)) fun e he => Gives.now he
  refine Gives.bind (Q := fun r => (r.1 : Int) = n ∧ r.2.2.length = r.1 ∧ Smp r.2.2 ∧ SrcOk L r.2.1) ?_ fun r hr => ?_
  · refine Gives.loop (fun s => -1000 ≤ s.1 ∧ s.1 ≤ 1000 ∧ (s.2.1 : Int) = s.2.2.1 ∧ s.2.2.1 ≤ n ∧ SrcOk L s.2.2.2.1 ∧ s.2.2.2.2.length = s.2.1 ∧ Smp s.2.2.2.2) (fun s => (n - s.2.2.1).toNat) ?_ ⟨hd.1, hd.2.1, rfl, by simp only []; omega, hd.2.2, rfl, Smp.nil⟩
    intro s ⟨i1, i2, i3, i4, i5, i6, i7⟩
    have ed : (s.2.2.2.2.drop 0).take s.2.1 = s.2.2.2.2 := drop_take_len i6
    unfold T_keep_Src_List_l1
    refine Gives.ite (fun c => ?_) fun c => Gives.now ⟨by simp only []; omega, i6, i7, i5⟩
    rw [em, ed]
    have hlim : s.2.1 + 1 ≤ LIM := by unfold LIM; omega
    refine Gives.bind (Q := fun _ => True) (Gives.ite (fun _ => Gives.now trivial) fun _ => Gives.now trivial) fun t _ => ?_
    refine Gives.bind (Q := fun r => -1000 ≤ r.1 ∧ r.1 ≤ 1000 ∧ SrcOk L r.2.1 ∧ r.2.2.length = s.2.1 + 1 ∧ Smp r.2.2) ?_ fun r hr => ?_
    · refine Gives.ite (fun _ => ?_) fun _ => ?_
      · refine Gives.bind (src_range i5 (-b.1) b.1 (by omega) (by omega) (by omega)) fun v hv => Gives.pos hlim (Gives.now ⟨i1, i2, hv.2.2, by simp [i6], i7.app (Smp.one (by omega) (by omega))⟩)
      · refine Gives.bind (Q := fun _ => True) (Gives.ite (fun _ => Gives.now trivial) fun _ => Gives.now trivial) fun t2 _ => Gives.ite (fun _ => ?_) fun _ => Gives.ite (fun _ => ?_) fun _ => ?_
        · refine Gives.bind (src_range i5 (-b.1) b.1 (by omega) (by omega) (by omega)) fun v hv => Gives.bind (src_clip _) fun _ _ => Gives.pos hlim (Gives.now ?_)
          have := clip_smp (w64 (s.1 + v.1))
          exact ⟨this.1, this.2, hv.2.2, by simp [i6], i7.app (Smp.one this.1 this.2)⟩
        · refine Gives.bind (src_n i5 4 (by omega) (by omega)) fun v hv => Gives.bind (Q := fun r => -1000 ≤ r.1 ∧ r.1 ≤ 1000 ∧ SrcOk L r.2) (Gives.ite (fun _ => ?_) fun _ => Gives.now ⟨i1, i2, hv.2.2⟩) fun u hu => Gives.pos hlim (Gives.now ⟨hu.1, hu.2.1, hu.2.2, by simp [i6], i7.app (Smp.one hu.1 hu.2.1)⟩)
          exact Gives.bind (src_range hv.2.2 (-b.1) b.1 (by omega) (by omega) (by omega)) fun e he => Gives.now ⟨by simp only []; omega, by simp only []; omega, he.2.2⟩
        · refine Gives.bind (src_pick i5 [-1000, 1000, 1000, 0] (by decide) (by decide)) fun v hv => Gives.pos hlim (Gives.now ?_)
          have : -1000 ≤ v.1 ∧ v.1 ≤ 1000 := by have := hv.1; simp at this; omega
          exact ⟨i1, i2, hv.2, by simp [i6], i7.app (Smp.one this.1 this.2)⟩
    · have ei : w64 (s.2.2.1 + 1) = s.2.2.1 + 1 := w64_id (by omega) (by omega)
      rw [ei]
      exact Gives.now ⟨⟨hr.1, hr.2.1, by simp only []; omega, by simp only []; omega, hr.2.2.1, hr.2.2.2.1, hr.2.2.2.2⟩, by simp only []; omega⟩
  · rw [drop_take_len hr.2.1]
    exact Gives.now ⟨by simp only []; omega, hr.2.2.1, hr.2.2.2⟩

theorem get_rd0 {xs : List Int} {i : Int} (h0 : 0 ≤ i) (h1 : i < (xs.length : Int)) : xs[0 + i.toNat]? = some (rd xs i) := by
  rw [Nat.zero_add, get_rd (by omega), Int.toNat_of_nonneg h0]
theorem src_near {L : List Int} {p : Int} (h : SrcOk L p) {xs : List Int} (hx : Win xs) : Gives (fun k => T_keep_Src_Near k xs L p) (fun r => r.1.length = xs.length ∧ Smp r.1 ∧ SrcOk L r.2) := by
  have l1 := hx.lo
  have l2 := hx.hi
  refine Gives.step ?_
  simp only [T_keep_Src_Near]
  refine Gives.bind (src_n h 7 (by omega) (by omega)) fun a ha => Gives.bind (src_range ha.2.2 (-20) 20 (by omega) (by omega) (by omega)) fun b hb => Gives.bind (src_range hb.2.2 1 3 (by omega) (by omega) (by omega)) fun c hc => Gives.pos (by unfold LIM; omega) ?_
  refine Gives.bind (Q := fun r => r.2.length = xs.length ∧ Smp r.2 ∧ SrcOk L r.1) ?_ fun r hr => ?_
  · refine Gives.loop (fun s => 0 ≤ s.1 ∧ s.1 ≤ (xs.length : Int) ∧ SrcOk L s.2.1 ∧ s.2.2.length = xs.length ∧ Smp s.2.2) (fun s => ((xs.length : Int) - s.1).toNat) ?_ ⟨by simp only []; omega, by simp only []; omega, hc.2.2, by simp, by simpa using hx.smp⟩
    intro s ⟨i1, i2, i3, i4, i5⟩
    unfold T_keep_Src_Near_l1
    refine Gives.ite (fun cc => ?_) fun cc => Gives.now ⟨i4, i5, i3⟩
    have g : (0 : Int) ≤ s.1 ∧ s.1 < ((0 + xs.length : Nat) : Int) := ⟨i1, cc⟩
    have g2 : s.1 < (xs.length : Int) := by omega
    refine Gives.bind (Q := fun r => SrcOk L r.1 ∧ r.2.length = xs.length ∧ Smp r.2) ?_ fun r hr => ?_
    · refine Gives.ite (fun _ => Gives.pos g (Gives.opt (get_rd0 i1 (by omega)) ?_)) fun _ => Gives.ite (fun _ => Gives.pos g (Gives.opt (get_rd0 i1 (by omega)) ?_)) fun _ => Gives.ite (fun _ => Gives.pos g (Gives.opt (get_rd0 i1 (by omega)) ?_)) fun _ =>
        Gives.ite (fun _ => ?_) fun _ => Gives.ite (fun _ => ?_) fun _ => Gives.ite (fun _ => Gives.pos g (Gives.opt (get_rd0 i1 (by omega)) ?_)) fun _ => Gives.now ⟨i3, i4, i5⟩
      · refine Gives.bind (src_range i3 (-2) 2 (by omega) (by omega) (by omega)) fun v hv => Gives.bind (src_clip _) fun _ _ => Gives.now ?_
        have := clip_smp (w64 (rd s.2.2 s.1 + v.1))
        exact ⟨hv.2.2, by simp [i4], i5.set _ this.1 this.2⟩
      · refine Gives.bind (src_clip _) fun _ _ => Gives.now ?_
        have := clip_smp (w64 (rd s.2.2 s.1 + b.1))
        exact ⟨i3, by simp [i4], i5.set _ this.1 this.2⟩
      · refine Gives.bind (src_clip _) fun _ _ => Gives.now ?_
        have := clip_smp (w64 (w64 (rd s.2.2 s.1 * c.1) + b.1))
        exact ⟨i3, by simp [i4], i5.set _ this.1 this.2⟩
      · have e : w64 (w64 ((xs.length : Int) - 1) - s.1) = (xs.length : Int) - 1 - s.1 := by rw [w64_id (x := (xs.length : Int) - 1) (by omega) (by omega), w64_id (by omega) (by omega)]
        rw [e]
        refine Gives.opt (at_rd (by omega) (by omega)) (Gives.pos g (Gives.now ?_))
        have := hx.smp.rd ((xs.length : Int) - 1 - s.1)
        exact ⟨i3, by simp [i4], i5.set _ this.1 this.2⟩
      · refine Gives.bind (src_range i3 (-1) 1 (by omega) (by omega) (by omega)) fun v hv => Gives.bind (src_mod _ (xs.length : Int) (by omega) (by omega)) fun u hu => Gives.opt (at_rd hu.1 hu.2) (Gives.pos g (Gives.now ?_))
        have := hx.smp.rd u
        exact ⟨hv.2.2, by simp [i4], i5.set _ this.1 this.2⟩
      · refine Gives.bind (src_clip _) fun _ _ => Gives.now ?_
        have := clip_smp (w64 (b.1 - w64 (rd s.2.2 s.1 * c.1)))
        exact ⟨i3, by simp [i4], i5.set _ this.1 this.2⟩
    · have ei : w64 (s.1 + 1) = s.1 + 1 := w64_id (by omega) (by omega)
      rw [ei]
      exact Gives.now ⟨⟨by simp only []; omega, by simp only []; omega, hr.1, hr.2.1, hr.2.2⟩, by simp only []; omega⟩
  · rw [drop_take_len (by rw [hr.1, Nat.zero_add])]
    exact Gives.now ⟨hr.1, hr.2.1, hr.2.2⟩
theorem src_pair {L : List Int} {p : Int} (h : SrcOk L p) : Gives (fun k => T_keep_Src_Pair k L p) (fun r => Win r.1 ∧ Win r.2.1 ∧ r.1.length = r.2.1.length ∧ SrcOk L r.2.2) := by
  refine Gives.step ?_
  simp only [T_keep_Src_Pair]
  refine Gives.bind (src_length h) fun a ha => Gives.bind (src_list ha.2.2 a.1 ha.1 ha.2.1) fun b hb => ?_
  have wb : Win b.1 := ⟨by omega, by omega, hb.2.1⟩
  refine Gives.bind (src_n hb.2.2 3 (by omega) (by omega)) fun c hc => Gives.ite (fun _ => ?_) fun _ => ?_
  · refine Gives.bind (src_list hc.2.2 (b.1.length : Int) (by omega) (by omega)) fun d hd => Gives.now ⟨wb, ⟨?_, ?_, hd.2.1⟩, ?_, hd.2.2⟩ <;> simp only [] <;> omega
  · refine Gives.bind (src_near hc.2.2 wb) fun d hd => Gives.now ⟨wb, ⟨?_, ?_, hd.2.1⟩, ?_, hd.2.2⟩ <;> simp only [] <;> omega
/-- Two windows, and a band that they fit. -/
structure Fits (xs ys : List Int) (b : Int) : Prop where
  wx : Win xs
  wy : Win ys
  lo : 0 ≤ b
  hi : b ≤ 32
  ab : (xs.length : Int) - ys.length ≤ b
  ba : (ys.length : Int) - xs.length ≤ b
theorem src_new (l : List Int) : SrcOk ((l.drop 0).take ((imin (l.length : Int) 2000).toNat - 0)) 0 ∧ Gives (fun k => T_keep_New k l) (fun _ => True) := by
  have h1 : 0 ≤ imin (l.length : Int) 2000 := by unfold imin; split <;> omega
  have h2 : imin (l.length : Int) 2000 ≤ l.length := by unfold imin; split <;> omega
  have h3 : imin (l.length : Int) 2000 ≤ 2000 := by unfold imin; split <;> omega
  refine ⟨⟨by omega, by omega, ?_⟩, ?_⟩
  · simp; omega
  · refine Gives.step ?_
    simp only [T_keep_New]
    exact Gives.pos (by omega) (Gives.now trivial)
/-! The distance of chapter 12. -/
theorem eu_samples {xs : List Int} (h : Win xs) : Gives (fun k => T_euclid_samples k xs) (· = true) := by
  have h2 := h.hi
  refine Gives.step ?_
  simp only [T_euclid_samples]
  refine Gives.bind (Q := fun r => r = .inl ()) ?_ fun r hr => by subst hr; exact Gives.now rfl
  refine Gives.loop (fun s => 0 ≤ s ∧ s ≤ (xs.length : Int)) (fun s => ((xs.length : Int) - s).toNat) ?_ ⟨by omega, by omega⟩
  intro s ⟨i1, i2⟩
  unfold T_euclid_samples_l1
  refine Gives.ite (fun c => Gives.opt (at_rd i1 c) ?_) fun c => Gives.now rfl
  have := h.smp.rd s
  refine Gives.neg (by simp; omega) ?_
  rw [w64_id (by omega) (by omega)]
  exact Gives.now ⟨⟨by omega, by omega⟩, by omega⟩
theorem eu_len (xs : List Int) : Gives (fun k => T_euclid_length k xs) (fun _ => True) := by
  refine Gives.step ?_
  simp only [T_euclid_length]
  exact Gives.now trivial
theorem eu_check {xs ys : List Int} (hx : Win xs) (hy : Win ys) (hl : xs.length = ys.length) : Gives (fun k => T_euclid_check k xs ys) (· = 0) := by
  have x1 := hx.lo
  have x2 := hx.hi
  refine Gives.step ?_
  simp only [T_euclid_check]
  refine Gives.bind (Q := fun b => b = false) ?_ fun b hb => ?_
  · refine Gives.bind (eu_len xs) fun _ _ => Gives.neg (by simp; omega) ?_
    refine Gives.bind (eu_len ys) fun _ _ => Gives.now ?_
    simp; omega
  subst hb
  refine Gives.neg (by simp) ?_
  refine Gives.bind (Q := fun b => b = false) ?_ fun b hb => ?_
  · refine Gives.bind (eu_samples hx) fun u hu => ?_
    subst hu
    refine Gives.neg (by simp) (Gives.bind (eu_samples hy) fun u hu => ?_)
    subst hu
    exact Gives.now rfl
  subst hb
  refine Gives.neg (by simp) (Gives.neg (by simp [hl]) (Gives.now rfl))
theorem eu_square {xs ys : List Int} (hx : Win xs) (hl : xs.length = ys.length) : Gives (fun k => T_euclid_square k xs ys) (fun _ => True) := by
  have x2 := hx.hi
  refine Gives.step ?_
  simp only [T_euclid_square]
  refine Gives.bind (Q := fun _ => True) ?_ fun r hr => Gives.now trivial
  refine Gives.loop (fun s => 0 ≤ s.2 ∧ s.2 ≤ (xs.length : Int)) (fun s => ((xs.length : Int) - s.2).toNat) ?_ ⟨by simp only []; omega, by simp only []; omega⟩
  intro s ⟨i1, i2⟩
  unfold T_euclid_square_l1
  refine Gives.ite (fun c => Gives.opt (at_rd i1 c) (Gives.opt (at_rd i1 (by omega)) ?_)) fun c => Gives.now trivial
  rw [w64_id (x := s.2 + 1) (by omega) (by omega)]
  exact Gives.now ⟨⟨by simp only []; omega, by simp only []; omega⟩, by simp only []; omega⟩
theorem eu_distance {xs ys : List Int} (hx : Win xs) (hy : Win ys) (hl : xs.length = ys.length) : Gives (fun k => T_euclid_Distance k xs ys) (fun r => r.2 = 0) := by
  refine Gives.step ?_
  simp only [T_euclid_Distance]
  refine Gives.bind (eu_check hx hy hl) fun e he => ?_
  subst he
  exact Gives.neg (by simp) (Gives.bind (eu_square hx hl) fun v _ => Gives.now rfl)

/-! Sums of the first samples. -/
def psum (x : List Int) (i : Int) : Int := (x.take i.toNat).sum
theorem psum_zero (x : List Int) : psum x 0 = 0 := by simp [psum]
theorem psum_succ {x : List Int} {i : Int} (h0 : 0 ≤ i) (h1 : i < (x.length : Int)) : psum x (i + 1) = psum x i + rd x i := by
  unfold psum rd
  rw [show (i + 1).toNat = i.toNat + 1 by omega, List.take_succ_eq_append_getElem (show i.toNat < x.length by omega), List.sum_append]
  rw [List.getD_eq_getElem?_getD, List.getElem?_eq_getElem (show i.toNat < x.length by omega)]
  simp
theorem psum_bound {x : List Int} {B : Int} (hB : ∀ v ∈ x, -B ≤ v ∧ v ≤ B) : ∀ n : Nat, n ≤ x.length → -(B * n) ≤ psum x n ∧ psum x n ≤ B * n
  | 0, _ => by simp [psum]
  | n + 1, h => by
    have ih := psum_bound hB n (by omega)
    have e := psum_succ (x := x) (i := (n : Int)) (by omega) (by omega)
    have hb := hB _ (rd_mem (xs := x) (i := (n : Int)) (by omega) (by omega))
    have : (((n + 1 : Nat)) : Int) = (n : Int) + 1 := by omega
    rw [this, e, Int.mul_add, Int.mul_one]
    omega
theorem psum_all {x : List Int} : psum x x.length = x.sum := by simp [psum]
theorem part_sum {x : List Int} {a b : Int} (h0 : 0 ≤ a) (h1 : a ≤ b) : ((x.drop a.toNat).take (b.toNat - a.toNat)).sum = psum x b - psum x a := by
  have e : x.take b.toNat = x.take a.toNat ++ (x.drop a.toNat).take (b.toNat - a.toNat) := by
    conv => lhs; rw [show b.toNat = a.toNat + (b.toNat - a.toNat) by omega]
    rw [List.take_add]
  unfold psum
  rw [e, List.sum_append]
  omega
theorem psum_shift {x z : List Int} {c : Int} (hl : z.length = x.length) (h : ∀ q, 0 ≤ q → q < (x.length : Int) → rd z q = rd x q + c) : ∀ n : Nat, n ≤ x.length → psum z n = psum x n + n * c
  | 0, _ => by simp [psum]
  | n + 1, hn => by
    have ih := psum_shift hl h n (by omega)
    have e1 := psum_succ (x := x) (i := (n : Int)) (by omega) (by omega)
    have e2 := psum_succ (x := z) (i := (n : Int)) (by omega) (by omega)
    have e3 := h n (by omega) (by omega)
    have : (((n + 1 : Nat)) : Int) = (n : Int) + 1 := by omega
    rw [this, e1, e2, e3, ih, Int.add_mul, Int.one_mul]
    omega
/-! Where the pieces of a window begin. -/
def cut (m n p : Int) : Int := p * m / n
theorem cut_zero (m n : Int) : cut m n 0 = 0 := by simp [cut]
theorem cut_last {m n : Int} (hn : 1 ≤ n) : cut m n n = m := by unfold cut; exact Int.mul_ediv_cancel_left _ (by omega)
theorem cut_mono {m n p q : Int} (hn : 1 ≤ n) (hm : 0 ≤ m) (h : p ≤ q) : cut m n p ≤ cut m n q := by
  unfold cut
  exact Int.ediv_le_ediv (by omega) (Int.mul_le_mul_of_nonneg_right h hm)
theorem cut_range {m n p : Int} (hn : 1 ≤ n) (hm : 0 ≤ m) (h0 : 0 ≤ p) (h1 : p ≤ n) : 0 ≤ cut m n p ∧ cut m n p ≤ m := by
  have a := cut_mono (m := m) hn hm h0
  have b := cut_mono (m := m) hn hm h1
  rw [cut_zero] at a
  rw [cut_last hn] at b
  exact ⟨a, b⟩
theorem cut_w {m n p : Int} (hn : 1 ≤ n) (hn2 : n ≤ 8) (hm : 0 ≤ m) (hm2 : m ≤ 32) (h0 : 0 ≤ p) (h1 : p ≤ n) : w64 ((w64 (p * m)).tdiv n) = cut m n p := by
  have h2 : 0 ≤ p * m := Int.mul_nonneg h0 hm
  have h3 : p * m ≤ 8 * 32 := Int.le_trans (Int.mul_le_mul_of_nonneg_right (show p ≤ 8 by omega) hm) (Int.mul_le_mul_of_nonneg_left hm2 (by omega))
  have h4 := cut_range hn hm h0 h1
  rw [w64_id (x := p * m) (by omega) (by omega), Int.tdiv_eq_ediv_of_nonneg h2, w64_id]
  · rfl
  · have : cut m n p = p * m / n := rfl
    omega
  · have : cut m n p = p * m / n := rfl
    omega
theorem Gives.rangeT {S R : Type} {f : Nat → Int → Int → Int → S → Option (S ⊕ R)} {m n : Int} (hn : 1 ≤ n) (hn2 : n ≤ 8) (hm : 0 ≤ m) (hm2 : m ≤ 32) (Inv : Int → S → Prop)
    (h : ∀ p s, 0 ≤ p → p < n → Inv p s → Gives (fun k => f k p (cut m n p) (cut m n (p + 1)) s) (fun x => ∃ s', x = .inl s' ∧ Inv (p + 1) s')) {s : S} (hs : Inv 0 s) :
    Gives (fun k => allT (f k) m n k 0 s) (fun x => ∃ s', x = .inl s' ∧ Inv n s') := by
  suffices H : ∀ (d : Nat) (p : Int) (s : S), 0 ≤ p → p ≤ n → (n - p).toNat < d → Inv p s → ∃ r, (∃ K N, ∀ k, K ≤ k → ∀ j, N ≤ j → allT (f k) m n j p s = some r) ∧ ∃ s', r = .inl s' ∧ Inv n s' by
    obtain ⟨r, ⟨K, N, hK⟩, hr⟩ := H (n.toNat + 1) 0 s (by omega) (by omega) (by omega) hs
    exact ⟨r, ⟨max K N, fun k hk => hK k (by omega) k (by omega)⟩, hr⟩
  intro d
  induction d with
  | zero => intro p s _ _ h; omega
  | succ d ih =>
    intro p s h0 h1 hd hI
    by_cases c : p < n
    · obtain ⟨x, ⟨K, hK⟩, s', rfl, hs'⟩ := h p s h0 c hI
      obtain ⟨r, ⟨K2, N, hK2⟩, hr⟩ := ih (p + 1) s' (by omega) (by omega) (by omega) hs'
      refine ⟨r, ⟨max K K2, N + 1, fun k hk j hj => ?_⟩, hr⟩
      obtain ⟨j', rfl⟩ : ∃ j', j = j' + 1 := ⟨j - 1, by omega⟩
      simp only [allT]
      rw [if_pos c, if_pos (by omega), w64_id (x := p + 1) (by omega) (by omega), cut_w hn hn2 hm hm2 h0 (by omega), cut_w hn hn2 hm hm2 (by omega) (by omega), show f k p (cut m n p) (cut m n (p + 1)) s = some (.inl s') from hK k (by omega)]
      exact hK2 k (by omega) j' (by omega)
    · have : p = n := by omega
      subst this
      refine ⟨.inl s, ⟨0, 1, fun k _ j hj => ?_⟩, s, rfl, hI⟩
      obtain ⟨j', rfl⟩ : ∃ j', j = j' + 1 := ⟨j - 1, by omega⟩
      simp only [allT]
      rw [if_neg c]
/-! What the functions of the chapter compute. -/
theorem pc_total {x : List Int} (hs : Smp x) (hl : x.length ≤ 32) : Gives (fun k => T_pieces_total k x) (fun r => r = x.sum) := by
  have hB : ∀ v ∈ x, -(1000 : Int) ≤ v ∧ v ≤ 1000 := hs
  refine Gives.step ?_
  simp only [T_pieces_total]
  refine Gives.bind (Q := fun r => r = x.sum) ?_ fun r hr => Gives.now hr
  refine Gives.loop (fun s => 0 ≤ s.2 ∧ s.2 ≤ (x.length : Int) ∧ s.1 = psum x s.2) (fun s => ((x.length : Int) - s.2).toNat) ?_ ⟨by simp only []; omega, by simp only []; omega, (psum_zero x).symm⟩
  intro ⟨t, i⟩ ⟨i1, i2, i3⟩
  simp only at i1 i2 i3
  unfold T_pieces_total_l1
  simp only []
  refine Gives.ite (fun c => Gives.opt (at_rd i1 c) ?_) fun c => Gives.now ?_
  · have e := psum_succ i1 c
    have b := psum_bound hB (i.toNat + 1) (by omega)
    have : ((i.toNat + 1 : Nat) : Int) = i + 1 := by omega
    rw [this] at b
    rw [w64_id (x := i + 1) (by omega) (by omega), w64_id (x := t + rd x i) (by omega) (by omega)]
    exact Gives.now ⟨⟨by simp only []; omega, by simp only []; omega, by simp only []; omega⟩, by simp only []; omega⟩
  · have : i = x.length := by omega
    subst this
    rw [i3]; exact psum_all
theorem pc_all (m n : Int) : Gives (fun k => T_pieces_all k m n) (fun _ => True) := by
  refine Gives.step ?_
  simp only [T_pieces_all]
  exact Gives.now trivial
theorem pc_number (m n : Int) : Gives (fun k => T_pieces_number k m n) (fun _ => True) := by
  refine Gives.step ?_
  simp only [T_pieces_number]
  exact Gives.now trivial
theorem pc_check {x : List Int} {n : Int} (hx : Win x) (hn : 1 ≤ n) (hn2 : n ≤ 8) (hn3 : n ≤ (x.length : Int)) : Gives (fun k => T_pieces_check k x n) (fun r => r = 0) := by
  refine Gives.step ?_
  simp only [T_pieces_check]
  refine Gives.bind (eu_distance hx hx rfl) fun e he => Gives.neg (by simp [he]) (Gives.bind (pc_number _ _) fun _ _ => Gives.neg (by simp; omega) (Gives.now rfl))
theorem rd_set_eq {xs : List Int} {i v : Int} (h0 : 0 ≤ i) (h1 : i < (xs.length : Int)) : rd (xs.set (0 + i.toNat) v) i = v := by
  unfold rd
  rw [Nat.zero_add, List.getD_eq_getElem?_getD, List.getElem?_set_self (by omega)]; rfl
theorem rd_set_ne {xs : List Int} {i j v : Int} (h0 : 0 ≤ i) (h1 : 0 ≤ j) (h : i ≠ j) : rd (xs.set (0 + i.toNat) v) j = rd xs j := by
  unfold rd
  rw [Nat.zero_add, List.getD_eq_getElem?_getD, List.getElem?_set_ne (by omega), List.getD_eq_getElem?_getD]
theorem pc_part {x : List Int} {n p : Int} (hx : Win x) (hn : 1 ≤ n) (h0 : 0 ≤ p) (h1 : p < n) : 0 ≤ cut x.length n p ∧ cut x.length n p ≤ cut x.length n (p + 1) ∧ cut x.length n (p + 1) ≤ (x.length : Int) ∧
    Gives (fun k => T_pieces_total k ((x.drop (cut x.length n p).toNat).take ((cut x.length n (p + 1)).toNat - (cut x.length n p).toNat))) (fun r => r = psum x (cut x.length n (p + 1)) - psum x (cut x.length n p)) := by
  have a := cut_range (m := x.length) hn (by omega) h0 (by omega)
  have b := cut_range (m := x.length) (p := p + 1) hn (by omega) (by omega) (by omega)
  have c := cut_mono (m := x.length) (p := p) (q := p + 1) hn (by omega) (by omega)
  refine ⟨a.1, c, b.2, ?_⟩
  have x2 := hx.hi
  refine (pc_total ((hx.smp.drop _).take _) (by simp; omega)).mono fun r hr => ?_
  rw [hr]; exact part_sum a.1 c
theorem prod_bound {a b A B : Int} (h1 : -A ≤ a) (h2 : a ≤ A) (h3 : -B ≤ b) (h4 : b ≤ B) : -(A * B) ≤ a * b ∧ a * b ≤ A * B := by
  have hA : 0 ≤ A := by omega
  have hB : 0 ≤ B := by omega
  have p1 : 0 ≤ (A - a) * (B - b) := Int.mul_nonneg (by omega) (by omega)
  have p2 : 0 ≤ (A + a) * (B + b) := Int.mul_nonneg (by omega) (by omega)
  have p3 : 0 ≤ (A - a) * (B + b) := Int.mul_nonneg (by omega) (by omega)
  have p4 : 0 ≤ (A + a) * (B - b) := Int.mul_nonneg (by omega) (by omega)
  rw [Int.sub_mul, Int.mul_sub, Int.mul_sub] at p1
  rw [Int.add_mul, Int.mul_add, Int.mul_add] at p2
  rw [Int.sub_mul, Int.mul_add, Int.mul_add] at p3
  rw [Int.add_mul, Int.mul_sub, Int.mul_sub] at p4
  omega
theorem pc_bounds {x : List Int} (hx : Win x) {i : Int} (h0 : 0 ≤ i) (h1 : i ≤ (x.length : Int)) : -32000 ≤ psum x i ∧ psum x i ≤ 32000 := by
  have x2 := hx.hi
  have := psum_bound (B := 1000) hx.smp i.toNat (by omega)
  rw [Int.toNat_of_nonneg h0] at this
  omega
theorem rd_app_l {xs ys : List Int} {i : Int} (h1 : i.toNat < xs.length) : rd (xs ++ ys) i = rd xs i := by
  unfold rd
  rw [List.getD_eq_getElem?_getD, List.getElem?_append_left h1, List.getD_eq_getElem?_getD]
theorem rd_app_1 {xs : List Int} {v i : Int} (h0 : 0 ≤ i) (h1 : (xs.length : Int) = i) : rd (xs ++ [v]) i = v := by
  unfold rd
  rw [List.getD_eq_getElem?_getD, List.getElem?_append_right (by omega)]
  simp [show i.toNat - xs.length = 0 by omega]
theorem pc_starts {m n : Int} (hm : 2 ≤ m) (hm2 : m ≤ 32) (hn : 1 ≤ n) (hn2 : n ≤ 8) (hn3 : n ≤ m) :
    Gives (fun k => T_pieces_Starts k m n) (fun r => r.2 = 0 ∧ (r.1.length : Int) = n + 1 ∧ ∀ p, 0 ≤ p → p ≤ n → rd r.1 p = cut m n p) := by
  refine Gives.step ?_
  simp only [T_pieces_Starts]
  refine Gives.neg (by simp; omega) (Gives.bind (pc_number _ _) fun _ _ => Gives.neg (by simp; omega) (Gives.bind (pc_all _ _) fun _ _ => ?_))
  refine Gives.bind (Gives.rangeT (m := m) (n := n) hn hn2 (by omega) (by omega) (fun p s => (s.1 : Int) = p + 1 ∧ s.2.length = s.1 ∧ ∀ q, 0 ≤ q → q ≤ p → rd s.2 q = cut m n q) ?_ ⟨by simp, by simp, fun q h1 h2 => by
      have : q = 0 := by omega
      subst this; rw [cut_zero]; rfl⟩) fun r hr => ?_
  · intro p s h0 h1 ⟨i1, i2, i3⟩
    unfold T_pieces_Starts_r1
    rw [drop_take_len i2]
    refine Gives.pos (by unfold LIM; omega) (Gives.now ⟨_, rfl, by simp only []; omega, by simp [i2], fun q h2 h3 => ?_⟩)
    simp only []
    by_cases c : q = p + 1
    · subst c; rw [rd_app_1 (by omega) (by omega)]
    · rw [rd_app_l (by omega)]; exact i3 q h2 (by omega)
  · obtain ⟨s', rfl, k1, k2, k3⟩ := hr
    simp only []
    rw [drop_take_len k2]
    exact Gives.now ⟨rfl, by simp only []; omega, k3⟩

/-! The centred sums. -/
theorem pc_centred {x : List Int} {n : Int} (hx : Win x) (hn : 1 ≤ n) (hn2 : n ≤ 8) (hn3 : n ≤ (x.length : Int)) :
    Gives (fun k => T_pieces_Centred k x n) (fun r => r.2 = 0 ∧ (r.1.length : Int) = n ∧ ∀ p, 0 ≤ p → p < n → rd r.1 p = (x.length : Int) * (psum x (cut x.length n (p + 1)) - psum x (cut x.length n p)) - (cut x.length n (p + 1) - cut x.length n p) * x.sum) := by
  have x2 := hx.hi
  refine Gives.step ?_
  simp only [T_pieces_Centred]
  refine Gives.bind (pc_check hx hn hn2 hn3) fun e he => ?_
  subst he
  refine Gives.neg (by simp) (Gives.bind (pc_total hx.smp hx.hi) fun t ht => Gives.pos (by unfold LIM; omega) (Gives.bind (pc_all _ _) fun _ _ => ?_))
  subst ht
  refine Gives.bind (Gives.rangeT (m := (x.length : Int)) (n := n) hn hn2 (by omega) (by omega) (fun p s => s.length = n.toNat ∧ ∀ q, 0 ≤ q → q < p → rd s q = (x.length : Int) * (psum x (cut x.length n (q + 1)) - psum x (cut x.length n q)) - (cut x.length n (q + 1) - cut x.length n q) * x.sum) ?_ ⟨by simp, fun q h1 h2 => by omega⟩) fun r hr => ?_
  · intro p s h0 h1 ⟨i1, i2⟩
    obtain ⟨c1, c2, c3, c4⟩ := pc_part hx hn h0 h1
    unfold T_pieces_Centred_r1
    refine Gives.pos (by omega) (Gives.bind c4 fun v hv => Gives.pos (by omega) ?_)
    have b1 := pc_bounds hx (i := cut x.length n (p + 1)) (by omega) c3
    have b2 := pc_bounds hx (i := cut x.length n p) c1 (by omega)
    have b3 := pc_bounds hx (i := x.length) (by omega) (by omega)
    rw [psum_all] at b3
    have e1 := prod_bound (a := (x.length : Int)) (b := v) (A := 32) (B := 64000) (by omega) (by omega) (by omega) (by omega)
    have e2 := prod_bound (a := cut x.length n (p + 1) - cut x.length n p) (b := x.sum) (A := 32) (B := 32000) (by omega) (by omega) (by omega) (by omega)
    rw [w64_id (x := (x.length : Int) * v) (by omega) (by omega), w64_id (x := cut x.length n (p + 1) - cut x.length n p) (by omega) (by omega), w64_id (x := (cut x.length n (p + 1) - cut x.length n p) * x.sum) (by omega) (by omega), w64_id (by omega) (by omega)]
    refine Gives.now ⟨_, rfl, by simp [i1], fun q h2 h3 => ?_⟩
    by_cases c : q = p
    · subst c; rw [rd_set_eq h2 (by omega), hv]
    · rw [rd_set_ne h0 h2 (by omega)]; exact i2 q h2 (by omega)
  · obtain ⟨s', rfl, k1, k2⟩ := hr
    simp only []
    rw [drop_take_len k1]
    exact Gives.now ⟨rfl, by simp only []; omega, k2⟩

theorem pc_sums {x : List Int} {n : Int} (hx : Win x) (hn : 1 ≤ n) (hn2 : n ≤ 8) (hn3 : n ≤ (x.length : Int)) :
    Gives (fun k => T_pieces_Sums k x n) (fun r => r.2 = 0 ∧ (r.1.length : Int) = n ∧ ∀ p, 0 ≤ p → p < n → rd r.1 p = psum x (cut x.length n (p + 1)) - psum x (cut x.length n p)) := by
  have x2 := hx.hi
  refine Gives.step ?_
  simp only [T_pieces_Sums]
  refine Gives.bind (pc_check hx hn hn2 hn3) fun e he => ?_
  subst he
  refine Gives.neg (by simp) (Gives.pos (by unfold LIM; omega) (Gives.bind (pc_all _ _) fun _ _ => ?_))
  refine Gives.bind (Gives.rangeT (m := (x.length : Int)) (n := n) hn hn2 (by omega) (by omega) (fun p s => s.length = n.toNat ∧ ∀ q, 0 ≤ q → q < p → rd s q = psum x (cut x.length n (q + 1)) - psum x (cut x.length n q)) ?_ ⟨by simp, fun q h1 h2 => by omega⟩) fun r hr => ?_
  · intro p s h0 h1 ⟨i1, i2⟩
    obtain ⟨c1, c2, c3, c4⟩ := pc_part hx hn h0 h1
    unfold T_pieces_Sums_r1
    refine Gives.pos (by omega) (Gives.bind c4 fun v hv => Gives.pos (by omega) (Gives.now ⟨_, rfl, by simp [i1], fun q h2 h3 => ?_⟩))
    by_cases c : q = p
    · subst c; rw [rd_set_eq h2 (by omega)]; exact hv
    · rw [rd_set_ne h0 h2 (by omega)]; exact i2 q h2 (by omega)
  · obtain ⟨s', rfl, k1, k2⟩ := hr
    simp only []
    rw [drop_take_len k1]
    exact Gives.now ⟨rfl, by simp only []; omega, k2⟩

/-! The greatest common divisor. -/
theorem gcd_step (m n : Nat) (h : n ≠ 0) : Nat.gcd n (m % n) = Nat.gcd m n := by
  rw [Nat.gcd_comm m n, Nat.gcd_rec n m, Nat.gcd_comm]
theorem tmod_nat (m n : Nat) : (m : Int).tmod n = ((m % n : Nat) : Int) := by
  rw [Int.tmod_eq_emod_of_nonneg (by omega)]; rfl
theorem ra_divisor (m n : Nat) : Gives (fun k => T_ratio_divisor k m n) (fun r => r = (Nat.gcd m n : Nat)) := by
  refine Gives.step ?_
  simp only [T_ratio_divisor]
  refine Gives.bind (Q := fun r => r = ((Nat.gcd m n : Nat) : Int)) ?_ fun r hr => Gives.now hr
  refine Gives.loop (fun s => ∃ a b : Nat, s = ((a : Int), (b : Int)) ∧ Nat.gcd a b = Nat.gcd m n) (fun s => s.2.toNat) ?_ ⟨m, n, rfl, rfl⟩
  intro s ⟨a, b, hs, hg⟩
  subst hs
  unfold T_ratio_divisor_l1
  simp only []
  by_cases c : b = 0
  · subst c
    refine Gives.neg (by simp) (Gives.now ?_)
    rw [← hg]; simp
  · refine Gives.pos (by simp; omega) (Gives.pos (by omega) (Gives.now ⟨⟨b, a % b, by rw [tmod_nat], by rw [gcd_step a b c, hg]⟩, ?_⟩))
    simp only [tmod_nat]
    have := Nat.mod_lt a (show 0 < b by omega)
    omega
theorem ra_common (m n : Nat) : Gives (fun k => T_ref01_common k m n) (fun r => r = (Nat.gcd m n : Nat)) := by
  refine Gives.step ?_
  simp only [T_ref01_common]
  refine Gives.bind (Q := fun r => r = ((Nat.gcd m n : Nat) : Int)) ?_ fun r hr => Gives.now hr
  refine Gives.loop (fun s => ∃ a b : Nat, s = ((a : Int), (b : Int)) ∧ Nat.gcd a b = Nat.gcd m n) (fun s => s.2.toNat) ?_ ⟨m, n, rfl, rfl⟩
  intro s ⟨a, b, hs, hg⟩
  subst hs
  unfold T_ref01_common_l1
  simp only []
  by_cases c : b = 0
  · subst c
    refine Gives.neg (by simp) (Gives.now ?_)
    rw [← hg]; simp
  · refine Gives.pos (by omega) (Gives.pos (by omega) (Gives.now ⟨⟨b, a % b, by rw [tmod_nat], by rw [gcd_step a b c, hg]⟩, ?_⟩))
    simp only [tmod_nat]
    have := Nat.mod_lt a (show 0 < b by omega)
    omega
theorem tdiv_nat (m n : Nat) : (m : Int).tdiv n = ((m / n : Nat) : Int) := by
  rw [Int.tdiv_eq_ediv_of_nonneg (by omega)]; rfl
theorem ra_Make {m n : Nat} (hn : 0 < n) (h1 : m ≤ 2305843009213693952) (h2 : n ≤ 1152921504606846976) : Gives (fun k => T_ratio_Make k m n) (fun r => r = (((m / Nat.gcd m n : Nat) : Int), ((n / Nat.gcd m n : Nat) : Int), 0)) := by
  have g0 : 0 < Nat.gcd m n := Nat.gcd_pos_of_pos_right m hn
  have d1 : m / Nat.gcd m n ≤ m := Nat.div_le_self _ _
  have d2 : n / Nat.gcd m n ≤ n := Nat.div_le_self _ _
  have d3 : 0 < n / Nat.gcd m n := Nat.div_pos (Nat.gcd_le_right m hn) g0
  refine Gives.step ?_
  simp only [T_ratio_Make]
  refine Gives.neg (by simp; omega) (Gives.bind (ra_divisor m n) fun g hg => ?_)
  subst hg
  simp only [tdiv_nat]
  generalize m / Nat.gcd m n = qa at d1 ⊢
  generalize n / Nat.gcd m n = qb at d2 d3 ⊢
  rw [w64_id (x := (qa : Int)) (by omega) (by omega), w64_id (x := (qb : Int)) (by omega) (by omega)]
  refine Gives.pos (by omega) (Gives.bind (Q := fun _ => True) ?_ fun _ _ => Gives.neg (by simp; omega) (Gives.now rfl))
  refine Gives.step ?_
  simp only [T_ratio_within]
  exact Gives.now trivial

/-! Sums of ratios. -/
/-- p / q is T / M, in lowest terms. -/
structure Rep (p q T M : Nat) : Prop where
  pos : 0 < q
  cop : Nat.gcd p q = 1
  eq : p * M = T * q
theorem Rep.dvd {p q T M : Nat} (h : Rep p q T M) : q ∣ M := by
  have : q ∣ p * M := ⟨T, by rw [h.eq, Nat.mul_comm]⟩
  exact Nat.Coprime.dvd_of_dvd_mul_left (Nat.coprime_comm.1 h.cop) this
theorem Rep.le {p q T M : Nat} (h : Rep p q T M) (hM : 0 < M) : p ≤ T ∧ q ≤ M := by
  obtain ⟨m, hm⟩ := h.dvd
  have e := h.eq
  have hm0 : 0 < m := by
    rcases Nat.eq_zero_or_pos m with c | c
    · subst c; omega
    · exact c
  refine ⟨?_, Nat.le_of_dvd hM h.dvd⟩
  have : p * m = T := by
    have h1 : q * (p * m) = q * T := by
      rw [hm] at e
      calc q * (p * m) = p * (q * m) := by grind
        _ = T * q := e
        _ = q * T := Nat.mul_comm _ _
    exact Nat.eq_of_mul_eq_mul_left h.pos h1
  calc p = p * 1 := by omega
    _ ≤ p * m := Nat.mul_le_mul_left p hm0
    _ = T := this
theorem Rep.uniq {p q p' q' T M : Nat} (h : Rep p q T M) (k : Rep p' q' T M) (hM : 0 < M) : p = p' ∧ q = q' := by
  have e : p * q' = p' * q := by
    have h1 : M * (p * q') = M * (p' * q) := by
      calc M * (p * q') = (p * M) * q' := by grind
        _ = (T * q) * q' := by rw [h.eq]
        _ = (T * q') * q := by grind
        _ = (p' * M) * q := by rw [k.eq]
        _ = M * (p' * q) := by grind
    exact Nat.eq_of_mul_eq_mul_left hM h1
  have d1 : q ∣ q' := Nat.Coprime.dvd_of_dvd_mul_left (Nat.coprime_comm.1 h.cop) ⟨p', by rw [e, Nat.mul_comm]⟩
  have d2 : q' ∣ q := Nat.Coprime.dvd_of_dvd_mul_left (Nat.coprime_comm.1 k.cop) ⟨p, by rw [← e, Nat.mul_comm]⟩
  have eq : q = q' := Nat.dvd_antisymm d1 d2
  subst eq
  exact ⟨Nat.eq_of_mul_eq_mul_right h.pos e, rfl⟩
theorem Rep.make {m n w : Nat} (hn : 0 < n) : Rep (m / Nat.gcd m n) (n / Nat.gcd m n) (m * w) (n * w) := by
  have g0 : 0 < Nat.gcd m n := Nat.gcd_pos_of_pos_right m hn
  refine ⟨Nat.div_pos (Nat.gcd_le_right m hn) g0, by rw [Nat.gcd_div (Nat.gcd_dvd_left m n) (Nat.gcd_dvd_right m n), Nat.div_self g0], ?_⟩
  obtain ⟨a, ha⟩ := Nat.gcd_dvd_left m n
  obtain ⟨b, hb⟩ := Nat.gcd_dvd_right m n
  generalize Nat.gcd m n = g at ha hb g0
  subst ha hb
  rw [Nat.mul_div_cancel_left _ g0, Nat.mul_div_cancel_left _ g0]
  grind
/-- The sum of two, as the function makes it. -/
theorem Rep.add {a b c d T U M : Nat} (h : Rep a b T M) (k : Rep c d U M) (hM : 0 < M) :
    let g := Nat.gcd b d
    let t := a * (d / g) + c * (b / g)
    let e := Nat.gcd t g
    Rep (t / e) (b / g * (d / e)) (T + U) M ∧ t ≤ T + U ∧ b / g * (d / e) ≤ M := by
  intro g t e
  have g0 : 0 < g := Nat.gcd_pos_of_pos_right b k.pos
  obtain ⟨B, hB⟩ : g ∣ b := Nat.gcd_dvd_left b d
  obtain ⟨D, hD⟩ : g ∣ d := Nat.gcd_dvd_right b d
  have eB : b / g = B := by rw [hB, Nat.mul_div_cancel_left _ g0]
  have eD : d / g = D := by rw [hD, Nat.mul_div_cancel_left _ g0]
  have cBD : Nat.gcd B D = 1 := by
    have := Nat.gcd_div (Nat.gcd_dvd_left b d) (Nat.gcd_dvd_right b d)
    rw [show Nat.gcd b d = g from rfl, eB, eD, Nat.div_self g0] at this
    exact this
  have ht : t = a * D + c * B := by show a * (d / g) + c * (b / g) = _; rw [eB, eD]
  have e0 : 0 < e := Nat.gcd_pos_of_pos_right t g0
  obtain ⟨t', ht'⟩ : e ∣ t := Nat.gcd_dvd_left t g
  obtain ⟨g', hg'⟩ : e ∣ g := Nat.gcd_dvd_right t g
  have et : t / e = t' := by rw [ht', Nat.mul_div_cancel_left _ e0]
  have ed : d / e = g' * D := by
    rw [hD, hg', Nat.mul_assoc, Nat.mul_div_cancel_left _ e0]
  have B0 : 0 < B := by
    rcases Nat.eq_zero_or_pos B with c | c
    · have := h.pos; subst c; omega
    · exact c
  have D0 : 0 < D := by
    rcases Nat.eq_zero_or_pos D with c | c
    · have := k.pos; subst c; omega
    · exact c
  have g'0 : 0 < g' := by
    rcases Nat.eq_zero_or_pos g' with c | c
    · subst c; omega
    · exact c
  have c1 : Nat.gcd t' g' = 1 := by
    have := Nat.gcd_div (Nat.gcd_dvd_left t g) (Nat.gcd_dvd_right t g)
    rw [show Nat.gcd t g = e from rfl, et, Nat.div_self e0] at this
    have e2 : g / e = g' := by rw [hg', Nat.mul_div_cancel_left _ e0]
    rwa [e2] at this
  have caB : Nat.Coprime a B := Nat.Coprime.coprime_dvd_right ⟨g, by rw [hB, Nat.mul_comm]⟩ h.cop
  have ccD : Nat.Coprime c D := Nat.Coprime.coprime_dvd_right ⟨g, by rw [hD, Nat.mul_comm]⟩ k.cop
  have ctB : Nat.Coprime t B := by
    show Nat.gcd t B = 1
    rw [ht, Nat.gcd_add_mul_right_left]
    exact Nat.Coprime.mul_left caB (Nat.coprime_comm.1 cBD)
  have ctD : Nat.Coprime t D := by
    show Nat.gcd t D = 1
    rw [ht, Nat.gcd_mul_right_add_left]
    exact Nat.Coprime.mul_left ccD cBD
  have td : t' ∣ t := ⟨e, by rw [ht', Nat.mul_comm]⟩
  have c2 : Nat.Coprime t' B := Nat.Coprime.coprime_dvd_left td ctB
  have c3 : Nat.Coprime t' D := Nat.Coprime.coprime_dvd_left td ctD
  have main : t * M = (T + U) * (g * B * D) := by
    have e1 : a * M = T * (g * B) := by rw [← hB]; exact h.eq
    have e2 : c * M = U * (g * D) := by rw [← hD]; exact k.eq
    calc t * M = (a * M) * D + (c * M) * B := by rw [ht]; grind
      _ = T * (g * B) * D + U * (g * D) * B := by rw [e1, e2]
      _ = (T + U) * (g * B * D) := by grind
  have lcm : g * B * D ∣ M := by
    have h1 : b ∣ M := h.dvd
    have h2 : d ∣ M := k.dvd
    have : Nat.lcm b d ∣ M := Nat.lcm_dvd h1 h2
    have e3 : Nat.lcm b d = g * B * D := by
      show b * d / g = _
      rw [hD, ← Nat.mul_assoc, Nat.mul_comm b g, Nat.mul_assoc, Nat.mul_div_cancel_left _ g0, hB]
    rwa [e3] at this
  obtain ⟨w, hw⟩ := lcm
  have w0 : 0 < w := by
    rcases Nat.eq_zero_or_pos w with c | c
    · subst c; omega
    · exact c
  have L0 : 0 < g * B * D := Nat.mul_pos (Nat.mul_pos g0 B0) D0
  rw [et, eB, ed]
  refine ⟨⟨Nat.mul_pos B0 (Nat.mul_pos g'0 D0), Nat.Coprime.mul_right c2 (Nat.Coprime.mul_right c1 c3), ?_⟩, ?_, ?_⟩
  · have h1 : e * (t' * M) = e * ((T + U) * (B * (g' * D))) := by
      calc e * (t' * M) = t * M := by rw [ht']; grind
        _ = (T + U) * (g * B * D) := main
        _ = e * ((T + U) * (B * (g' * D))) := by rw [hg']; grind
    exact Nat.eq_of_mul_eq_mul_left e0 h1
  · have h1 : (g * B * D) * (t * w) = (g * B * D) * (T + U) := by
      calc (g * B * D) * (t * w) = t * (g * B * D * w) := by grind
        _ = t * M := by rw [← hw]
        _ = (T + U) * (g * B * D) := main
        _ = _ := Nat.mul_comm _ _
    have h2 := Nat.eq_of_mul_eq_mul_left L0 h1
    calc t = t * 1 := by omega
      _ ≤ t * w := Nat.mul_le_mul_left t w0
      _ = T + U := h2
  · have : B * (g' * D) ∣ M := by
      refine ⟨e * w, ?_⟩
      rw [hw, hg']; grind
    exact Nat.le_of_dvd hM this
/-! Words of 64 bits. -/

/-! Sums of ratios, as they are reckoned. -/
theorem u64_id {x : Int} (h1 : 0 ≤ x) (h2 : x < 18446744073709551616) : IntKind.wrap .u64 x = x := by
  show (if (false && decide (x % 18446744073709551616 ≥ 9223372036854775808)) = true then x % 18446744073709551616 - 18446744073709551616 else x % 18446744073709551616) = x
  simp only [Bool.false_and, Bool.false_eq_true, if_false]
  omega
theorem and_mask {x : Int} (h1 : 0 ≤ x) (h2 : x < 18446744073709551616) : bAnd .u64 x 4294967295 = x % 4294967296 := by
  obtain ⟨n, rfl⟩ : ∃ n : Nat, x = n := ⟨x.toNat, by omega⟩
  unfold bAnd
  have e : (BitVec.ofInt (IntKind.bits .u64) (n : Int) &&& BitVec.ofInt (IntKind.bits .u64) 4294967295).toNat = n % 4294967296 := by
    show (BitVec.ofInt 64 (n : Int) &&& BitVec.ofInt 64 4294967295).toNat = _
    rw [BitVec.toNat_and, BitVec.ofInt_natCast, BitVec.toNat_ofNat, Nat.mod_eq_of_lt (by omega)]
    have : (BitVec.ofInt 64 4294967295).toNat = 2 ^ 32 - 1 := by decide
    rw [this, Nat.and_two_pow_sub_one_eq_mod]
  rw [e, u64_id (by omega) (by omega)]
  rfl
/-- The high word of a product that fits one word. -/
def hiE (x y : Int) : Int := IntKind.wrap .u64 ((IntKind.wrap .u64 ((IntKind.wrap .u64 ((x.fdiv (2 ^ 32)) * (y.fdiv (2 ^ 32)))) + ((IntKind.wrap .u64 ((IntKind.wrap .u64 ((x.fdiv (2 ^ 32)) * (bAnd .u64 y 4294967295))) + ((IntKind.wrap .u64 ((bAnd .u64 x 4294967295) * (bAnd .u64 y 4294967295))).fdiv (2 ^ 32)))).fdiv (2 ^ 32)))) + ((IntKind.wrap .u64 ((bAnd .u64 (IntKind.wrap .u64 ((IntKind.wrap .u64 ((x.fdiv (2 ^ 32)) * (bAnd .u64 y 4294967295))) + ((IntKind.wrap .u64 ((bAnd .u64 x 4294967295) * (bAnd .u64 y 4294967295))).fdiv (2 ^ 32)))) 4294967295) + (IntKind.wrap .u64 ((bAnd .u64 x 4294967295) * (y.fdiv (2 ^ 32)))))).fdiv (2 ^ 32)))
theorem hi_zero {x y : Int} (hx : 0 ≤ x) (hx2 : x < 18446744073709551616) (hy : 0 ≤ y) (hy2 : y < 4294967296) (h : x * y < 18446744073709551616) : hiE x y = 0 := by
  have p : ((2 : Int) ^ 32) = 4294967296 := by decide
  have f1 : y.fdiv 4294967296 = 0 := by rw [Int.fdiv_eq_ediv_of_nonneg _ (by omega)]; omega
  have f2 : x.fdiv 4294967296 = x / 4294967296 := Int.fdiv_eq_ediv_of_nonneg _ (by omega)
  unfold hiE
  rw [p, f1, f2, and_mask hx hx2, and_mask hy (by omega), Int.emod_eq_of_lt hy (by omega), Int.mul_zero, Int.mul_zero]
  have dx := Int.emod_add_mul_ediv x 4294967296
  have q0 : 0 ≤ x / 4294967296 := by omega
  have r0 : 0 ≤ x % 4294967296 := by omega
  generalize x / 4294967296 = x1 at dx q0 ⊢
  generalize x % 4294967296 = x0 at dx r0 ⊢
  have e : x * y = x0 * y + 4294967296 * (x1 * y) := by rw [← dx]; grind
  have m0 : 0 ≤ x0 * y := Int.mul_nonneg r0 hy
  have m1 : 0 ≤ x1 * y := Int.mul_nonneg q0 hy
  have z : IntKind.wrap .u64 0 = 0 := rfl
  rw [z, u64_id m1 (by omega), u64_id m0 (by omega)]
  have f3 : (x0 * y).fdiv 4294967296 = (x0 * y) / 4294967296 := Int.fdiv_eq_ediv_of_nonneg _ (by omega)
  rw [f3, u64_id (x := x1 * y + x0 * y / 4294967296) (by omega) (by omega)]
  have f4 : (x1 * y + x0 * y / 4294967296).fdiv 4294967296 = 0 := by rw [Int.fdiv_eq_ediv_of_nonneg _ (by omega)]; omega
  rw [f4, and_mask (by omega) (by omega), Int.emod_eq_of_lt (by omega) (by omega)]
  simp only [Int.add_zero, Int.zero_add, z]
  rw [u64_id (x := x1 * y + x0 * y / 4294967296) (by omega) (by omega), f4]
  rfl
theorem ra_valid {p q : Nat} (h : Nat.gcd p q = 1) (h0 : 0 < q) (h1 : p ≤ 2305843009213693952) (h2 : q ≤ 1152921504606846976) : Gives (fun k => T_ratio_Valid k p q) (· = true) := by
  refine Gives.step ?_
  simp only [T_ratio_Valid]
  refine Gives.bind (Q := fun b => b = true) ?_ fun b hb => Gives.now hb
  refine Gives.bind (Q := fun _ => True) ?_ fun _ _ => Gives.pos (by simp; omega) (Gives.bind (ra_divisor p q) fun g hg => Gives.now ?_)
  · refine Gives.step ?_
    simp only [T_ratio_within]
    exact Gives.now trivial
  · rw [hg, h]; rfl
theorem ra_mul (x y : Int) : Gives (fun k => T_math_bits_Mul64 k x y) (fun _ => True) := by
  refine Gives.step ?_
  simp only [T_math_bits_Mul64]
  exact Gives.now trivial
theorem ra_div {y lo : Int} (h : 0 < y) : Gives (fun k => T_math_bits_Div64 k 0 lo y) (fun _ => True) := by
  refine Gives.step ?_
  simp only [T_math_bits_Div64]
  exact Gives.neg (by omega) (Gives.neg (by omega) (Gives.pos trivial (Gives.pos (by omega) (Gives.now trivial))))
theorem ra_addT {x y c : Int} (hx : 0 ≤ x) (hy : 0 ≤ y) (hc : c = 0) (h : x + y < 18446744073709551616) : Gives (fun k => addT k x y c) (fun r => r = (x + y, 0)) := by
  subst hc
  refine Gives.step ?_
  simp only [addT]
  refine Gives.pos (by decide) (Gives.now ?_)
  have e1 : (x.toNat + y.toNat + (0 : Int).toNat) % 18446744073709551616 = x.toNat + y.toNat := by
    rw [Nat.mod_eq_of_lt (by omega)]; rfl
  have e2 : (x.toNat + y.toNat + (0 : Int).toNat) / 18446744073709551616 = 0 := by
    rw [Nat.div_eq_of_lt (by omega)]
  rw [e1, e2]
  simp only [Prod.mk.injEq]
  exact ⟨by show ((x.toNat + y.toNat : Nat) : Int) = _; omega, rfl⟩
theorem ra_Add {a b c d T U M : Nat} (h : Rep a b T M) (k : Rep c d U M) (hM : 0 < M) (hM2 : M < 4294967296) (hT : T + U < 1152921504606846976) :
    Gives (fun n => T_ratio_Add n a b c d) (fun r => ∃ p q : Nat, r = ((p : Int), (q : Int), 0) ∧ Rep p q (T + U) M) := by
  have l1 := h.le hM
  have l2 := k.le hM
  have bp := h.pos
  have dp := k.pos
  have R := Rep.add h k hM
  simp only [] at R
  obtain ⟨hr, ht, hq⟩ := R
  have g0 : 0 < Nat.gcd b d := Nat.gcd_pos_of_pos_right b k.pos
  refine Gives.step ?_
  simp only [T_ratio_Add]
  refine Gives.bind (Q := fun v => v = false) ?_ fun v hv => ?_
  · refine Gives.bind (ra_valid h.cop h.pos (by omega) (by omega)) fun v hv => ?_
    subst hv
    refine Gives.neg (by simp) (Gives.bind (ra_valid k.cop k.pos (by omega) (by omega)) fun v hv => ?_)
    subst hv
    exact Gives.now rfl
  subst hv
  refine Gives.neg (by simp) (Gives.bind (ra_divisor b d) fun g hg => ?_)
  subst hg
  have eg : Nat.gcd b d ≤ b := Nat.gcd_le_left d h.pos
  simp only [tdiv_nat]
  generalize hg : Nat.gcd b d = g at hr ht hq g0 eg ⊢
  have qb : b / g ≤ b := Nat.div_le_self _ _
  have qd : d / g ≤ d := Nat.div_le_self _ _
  generalize hB : b / g = B at hr ht hq qb ⊢
  generalize hD : d / g = D at hr ht hq qd ⊢
  have wB : w64 ((B : Nat) : Int) = B := w64_id (by omega) (by omega)
  have wD : w64 ((D : Nat) : Int) = D := w64_id (by omega) (by omega)
  rw [wB, wD]
  have uB : IntKind.wrap .u64 ((B : Nat) : Int) = B := u64_id (by omega) (by omega)
  have uD : IntKind.wrap .u64 ((D : Nat) : Int) = D := u64_id (by omega) (by omega)
  have ua : IntKind.wrap .u64 ((a : Nat) : Int) = a := u64_id (by omega) (by omega)
  have uc : IntKind.wrap .u64 ((c : Nat) : Int) = c := u64_id (by omega) (by omega)
  have ug : IntKind.wrap .u64 ((g : Nat) : Int) = g := u64_id (by omega) (by omega)
  have ud : IntKind.wrap .u64 ((d : Nat) : Int) = d := u64_id (by omega) (by omega)
  rw [uB, uD, ua, uc, ug, ud]
  have pa : ((a : Int) * D) = ((a * D : Nat) : Int) := by simp
  have pc : ((c : Int) * B) = ((c * B : Nat) : Int) := by simp
  have h1 := hi_zero (x := a) (y := D) (by omega) (by omega) (by omega) (by omega) (by rw [pa]; omega)
  have h2 := hi_zero (x := c) (y := B) (by omega) (by omega) (by omega) (by omega) (by rw [pc]; omega)
  unfold hiE at h1 h2
  rw [h1, h2, pa, pc, u64_id (x := ((a * D : Nat) : Int)) (by omega) (by omega), u64_id (x := ((c * B : Nat) : Int)) (by omega) (by omega)]
  refine Gives.pos (by omega) (Gives.bind (ra_mul _ _) fun _ _ => Gives.pos (by omega) (Gives.bind (ra_mul _ _) fun _ _ => ?_))
  refine Gives.bind (ra_addT (by omega) (by omega) rfl (by omega)) fun s hs => ?_
  subst hs
  refine Gives.bind (ra_addT (by omega) (by omega) rfl (by omega)) fun s hs => ?_
  subst hs
  simp only []
  have et : (((a * D : Nat) : Int) + ((c * B : Nat) : Int)) = ((a * D + c * B : Nat) : Int) := by omega
  rw [et]
  generalize a * D + c * B = t at hr ht hq ⊢
  have z : ((0 : Int) + 0).tmod (g : Int) = 0 := by simp
  rw [z, tmod_nat]
  refine Gives.pos (by omega) (Gives.bind (ra_div (by omega)) fun _ _ => ?_)
  have tg : t % g < g := Nat.mod_lt _ g0
  rw [w64_id (x := ((t % g : Nat) : Int)) (by omega) (by omega)]
  refine Gives.bind (ra_divisor (t % g) g) fun e he => ?_
  subst he
  have ee : Nat.gcd (t % g) g = Nat.gcd t g := by rw [Nat.gcd_comm t g, Nat.gcd_rec g t]
  rw [ee]
  have e0 : 0 < Nat.gcd t g := Nat.gcd_pos_of_pos_right t g0
  have e1 : Nat.gcd t g ≤ g := Nat.gcd_le_right t g0
  generalize Nat.gcd t g = e at hr hq e0 e1 ⊢
  have ue : IntKind.wrap .u64 ((e : Nat) : Int) = e := u64_id (by omega) (by omega)
  rw [ue, tdiv_nat, tdiv_nat]
  have q1 : t / e ≤ t := Nat.div_le_self _ _
  have q2 : d / e ≤ d := Nat.div_le_self _ _
  have q3 : 0 < B * (d / e) := hr.pos
  generalize t / e = p at hr q1 ⊢
  generalize d / e = f at hr hq q2 q3 ⊢
  rw [u64_id (x := ((f : Nat) : Int)) (by omega) (by omega), u64_id (x := ((p : Nat) : Int)) (by omega) (by omega)]
  have pf : ((B : Int) * f) = ((B * f : Nat) : Int) := by simp
  have h3 := hi_zero (x := B) (y := f) (by omega) (by omega) (by omega) (by omega) (by rw [pf]; omega)
  unfold hiE at h3
  rw [h3, pf, u64_id (x := ((B * f : Nat) : Int)) (by omega) (by omega)]
  have z2 : (0 : Int) + 0 = 0 := by omega
  rw [z2]
  refine Gives.neg (by omega) (Gives.bind (ra_div (by omega)) fun _ _ => Gives.pos (by omega) (Gives.pos (by omega) (Gives.bind (ra_mul _ _) fun _ _ => Gives.neg ?_ (Gives.now ?_))))
  · simp only [Bool.or_eq_true, decide_eq_true_eq]; omega
  · rw [w64_id (x := ((p : Nat) : Int)) (by omega) (by omega), w64_id (x := ((B * f : Nat) : Int)) (by omega) (by omega)]
    exact ⟨p, B * f, rfl, hr⟩

theorem r01_valid {p q : Nat} (h : Nat.gcd p q = 1) (h0 : 0 < q) (h1 : p ≤ 2305843009213693952) (h2 : q ≤ 1152921504606846976) : Gives (fun k => T_ref01_Valid k p q) (· = true) := by
  refine Gives.step ?_
  simp only [T_ref01_Valid]
  refine Gives.bind (Q := fun b => b = true) ?_ fun b hb => Gives.now hb
  refine Gives.pos (by simp; omega) (Gives.bind (ra_common p q) fun g hg => Gives.now ?_)
  rw [hg, h]; rfl

theorem r01_make {m n : Nat} (hn : 0 < n) (h1 : m ≤ 2305843009213693952) (h2 : n ≤ 1152921504606846976) : Gives (fun k => T_ref01_Make k m n) (fun r => ∃ p q : Nat, r = ((p : Int), (q : Int), 0) ∧ Rep p q m n) := by
  have R := Rep.make (m := m) (n := n) (w := 1) hn
  rw [Nat.mul_one, Nat.mul_one] at R
  have l := R.le hn
  have g0 : 0 < Nat.gcd m n := Nat.gcd_pos_of_pos_right m hn
  refine Gives.step ?_
  simp only [T_ref01_Make]
  refine Gives.neg (by simp; omega) (Gives.bind (ra_common m n) fun g hg => ?_)
  subst hg
  simp only [tdiv_nat]
  generalize m / Nat.gcd m n = u at R l ⊢
  generalize n / Nat.gcd m n = v at R l ⊢
  rw [w64_id (x := (u : Int)) (by omega) (by omega), w64_id (x := (v : Int)) (by omega) (by omega)]
  refine Gives.pos (by omega) (Gives.bind (r01_valid R.cop R.pos (by omega) (by omega)) fun v hv => Gives.neg (by simp [hv]) (Gives.now ⟨_, _, rfl, R⟩))

theorem r12_samples {x : List Int} (hx : Win x) : Gives (fun k => T_ref12_Samples k x) (fun r => r = 0) := by
  have x2 := hx.hi
  refine Gives.step ?_
  simp only [T_ref12_Samples]
  refine Gives.bind (Q := fun r => r = .inl ()) ?_ fun r hr => by subst hr; exact Gives.now rfl
  refine Gives.loop (fun s => 0 ≤ s ∧ s ≤ (x.length : Int)) (fun s => ((x.length : Int) - s).toNat) ?_ ⟨by omega, by omega⟩
  intro s ⟨i1, i2⟩
  unfold T_ref12_Samples_l1
  refine Gives.ite (fun c => Gives.opt (at_rd i1 c) (Gives.bind (Q := fun _ => True) ?_ fun _ _ => ?_)) fun c => Gives.now rfl
  · refine Gives.step ?_
    simp only [T_ref04_Sample]
    exact Gives.now trivial
  · have h := hx.smp.rd s
    rw [w64_id (by omega) (by omega)]
    exact Gives.neg (by simp; omega) (Gives.now ⟨⟨by omega, by omega⟩, by omega⟩)
theorem r12_two {x y : List Int} (hx : Win x) (hy : Win y) (hl : x.length = y.length) : Gives (fun k => T_ref12_Two k x y 0) (fun r => r = 0) := by
  have x1 := hx.lo
  have x2 := hx.hi
  refine Gives.step ?_
  simp only [T_ref12_Two]
  refine Gives.neg (by simp; omega) (Gives.bind (Q := fun b => b = false) ?_ fun b hb => ?_)
  · exact Gives.bind (r12_samples hx) fun r hr => Gives.neg (by simp [hr]) (Gives.bind (r12_samples hy) fun r hr => Gives.now (by simp [hr]))
  · subst hb
    rw [← hl, Int.sub_self, w64_id (x := 0) (by omega) (by omega)]
    exact Gives.neg (by simp) (Gives.neg (by simp) (Gives.now rfl))

/-! The lengths of pieces, and what they all divide. -/
theorem len_fin : ∀ m : Fin 33, ∀ n : Fin 9, ∀ p : Fin 8, 1 ≤ n.val → p.val < n.val → n.val ≤ m.val → ((p.val + 1) * m.val / n.val - p.val * m.val / n.val = m.val / n.val ∨ (p.val + 1) * m.val / n.val - p.val * m.val / n.val = m.val / n.val + 1) := by decide +kernel
/-- What all lengths of pieces divide. -/
def mm (m n : Nat) : Nat := (m / n) * (m / n + 1)
/-- How often a piece's length goes into it. -/
def wt (m n : Nat) (p : Int) : Nat := mm m n / (cut m n (p + 1) - cut m n p).toNat
theorem wt_ok {m n : Nat} {p : Int} (hm : m ≤ 32) (hn : 1 ≤ n) (hn2 : n ≤ 8) (hn3 : n ≤ m) (h0 : 0 ≤ p) (h1 : p < (n : Int)) :
    (cut m n (p + 1) - cut m n p).toNat * wt m n p = mm m n ∧ wt m n p ≤ 33 ∧ 1 ≤ cut m n (p + 1) - cut m n p ∧ cut m n (p + 1) - cut m n p ≤ 32 ∧ 0 < mm m n ∧ mm m n ≤ 1056 := by
  obtain ⟨q, rfl⟩ : ∃ q : Nat, p = q := ⟨p.toNat, by omega⟩
  have dl : cut m n ((q : Int) + 1) - cut m n (q : Int) ≤ 32 := by
    have a := cut_range (m := m) (n := n) (p := (q : Int) + 1) (by omega) (by omega) (by omega) (by omega)
    have b := cut_range (m := m) (n := n) (p := (q : Int)) (by omega) (by omega) (by omega) (by omega)
    omega
  have f := len_fin ⟨m, by omega⟩ ⟨n, by omega⟩ ⟨q, by omega⟩ hn (by simp only []; omega) hn3
  simp only [] at f
  have e1 : cut (m : Int) n ((q : Int) + 1) = (((q + 1) * m / n : Nat) : Int) := by
    unfold cut
    have : ((q : Int) + 1) * m = (((q + 1) * m : Nat) : Int) := by simp
    rw [this]; rfl
  have e2 : cut (m : Int) n (q : Int) = ((q * m / n : Nat) : Int) := by
    unfold cut
    have : (q : Int) * m = ((q * m : Nat) : Int) := by simp
    rw [this]; rfl
  have d0 : 1 ≤ m / n := Nat.div_pos hn3 hn
  have d1 : m / n ≤ 32 := Nat.le_trans (Nat.div_le_self _ _) hm
  have mono : q * m / n ≤ (q + 1) * m / n := Nat.div_le_div_right (Nat.mul_le_mul_right m (by omega))
  unfold wt mm
  rw [e1, e2] at dl ⊢
  generalize (q + 1) * m / n = c1 at f mono dl ⊢
  generalize q * m / n = c0 at f mono dl ⊢
  generalize m / n = a at f d0 d1 ⊢
  have el : ((c1 : Int) - (c0 : Int)).toNat = c1 - c0 := by omega
  rw [el]
  have hb : a * (a + 1) ≤ 32 * 33 := Nat.mul_le_mul d1 (by omega)
  have hb0 : 0 < a * (a + 1) := Nat.mul_pos d0 (by omega)
  rcases f with f | f
  · rw [f, Nat.mul_div_cancel_left _ d0]
    refine ⟨rfl, by omega, by omega, by omega, hb0, by omega⟩
  · rw [f, Nat.mul_comm a (a + 1), Nat.mul_div_cancel_left _ (by omega)]
    refine ⟨rfl, by omega, by omega, by omega, by rw [Nat.mul_comm]; exact hb0, by rw [Nat.mul_comm]; omega⟩
/-- The sum of squares, each as often as its piece goes into what all divide. -/
def TT (d : Int → Int) (w : Int → Nat) : Nat → Nat
  | 0 => 0
  | n + 1 => TT d w n + (d n * d n).toNat * w n
theorem TT_congr {d d' : Int → Int} {w : Int → Nat} : ∀ {n : Nat}, (∀ p : Int, 0 ≤ p → p < n → d p * d p = d' p * d' p) → TT d w n = TT d' w n
  | 0, _ => rfl
  | n + 1, h => by rw [TT, TT, TT_congr (n := n) fun p h1 h2 => h p h1 (by omega), h n (by omega) (by omega)]
theorem TT_bound {d : Int → Int} {w : Int → Nat} : ∀ {n : Nat}, (∀ p : Int, 0 ≤ p → p < n → -6300000 ≤ d p ∧ d p ≤ 6300000 ∧ w p ≤ 33) → TT d w n ≤ 1309770000000000 * n
  | 0, _ => by simp [TT]
  | n + 1, h => by
    have ih := TT_bound (n := n) fun p h1 h2 => h p h1 (by omega)
    obtain ⟨h1, h2, h3⟩ := h n (by omega) (by omega)
    have b := prod_bound (a := d n) (b := d n) (A := 6300000) (B := 6300000) h1 h2 h1 h2
    have : (d n * d n).toNat * w n ≤ 39690000000000 * 33 := Nat.mul_le_mul (by omega) h3
    rw [TT]; omega

theorem sq_nonneg (a : Int) : 0 ≤ a * a := by
  rcases Int.le_total 0 a with h | h
  · exact Int.mul_nonneg h h
  · exact Int.mul_nonneg_of_nonpos_of_nonpos h h
theorem sq_loopA {m n unit : Nat} {A B : List Int} {c0 : Int} (hm : m ≤ 32) (hn : 1 ≤ n) (hn2 : n ≤ 8) (hn3 : n ≤ m) (hu : 1 ≤ unit) (hu2 : unit ≤ 1024) (hA : A.length = n) (hB : B.length = n)
    (hd : ∀ p : Int, 0 ≤ p → p < n → -6300000 ≤ rd A p - rd B p ∧ rd A p - rd B p ≤ 6300000) :
    Gives (fun k => allT (T_pieces_squares_r1 k n unit c0 A B) m n k 0 (0, 0, 1)) (fun x => ∃ s', x = .inl s' ∧ (s'.1 = 0 ∧ ∃ P Q : Nat, s'.2 = ((P : Int), (Q : Int)) ∧ Rep P Q (TT (fun p => rd A p - rd B p) (wt m n) (n : Int).toNat) (unit * mm m n))) := by
  have w0 := wt_ok (p := 0) hm hn hn2 hn3 (by omega) (by omega)
  have M0 : 0 < unit * mm m n := Nat.mul_pos hu w0.2.2.2.2.1
  have M1 : unit * mm m n < 4294967296 := by
    have := Nat.mul_le_mul hu2 w0.2.2.2.2.2
    omega
  refine Gives.rangeT (m := (m : Int)) (n := (n : Int)) (by omega) (by omega) (by omega) (by omega) (fun (p : Int) (s : Int × Int × Int) => s.1 = 0 ∧ ∃ P Q : Nat, s.2 = ((P : Int), (Q : Int)) ∧ Rep P Q (TT (fun p => rd A p - rd B p) (wt m n) p.toNat) (unit * mm m n)) ?_ ⟨rfl, 0, 1, rfl, ⟨by omega, by simp, by simp [TT]⟩⟩
  intro p s h0 h1 ⟨i1, P, Q, i2, i3⟩
  obtain ⟨s1, s2, s3⟩ := s
  simp only [Prod.mk.injEq] at i1 i2
  obtain ⟨rfl, rfl⟩ := i2
  subst i1
  obtain ⟨q1, q2, q3, q4, q5, q6⟩ := wt_ok hm hn hn2 hn3 h0 h1
  obtain ⟨d1, d2⟩ := hd p h0 h1
  have dd := prod_bound (a := rd A p - rd B p) (b := rd A p - rd B p) (A := 6300000) (B := 6300000) d1 d2 d1 d2
  have d0 := sq_nonneg (rd A p - rd B p)
  unfold T_pieces_squares_r1
  refine Gives.opt (at_rd h0 (by omega)) (Gives.opt (at_rd h0 (by omega)) ?_)
  simp only []
  have ul := prod_bound (a := (unit : Int)) (b := cut m n (p + 1) - cut m n p) (A := 1024) (B := 32) (by omega) (by omega) (by omega) (by omega)
  obtain ⟨l, hl⟩ : ∃ l : Nat, cut m n (p + 1) - cut m n p = l := ⟨(cut m n (p + 1) - cut m n p).toNat, by omega⟩
  obtain ⟨u, hu'⟩ : ∃ u : Nat, (rd A p - rd B p) * (rd A p - rd B p) = u := ⟨((rd A p - rd B p) * (rd A p - rd B p)).toNat, by omega⟩
  rw [w64_id (x := rd A p - rd B p) (by omega) (by omega), w64_id (x := (rd A p - rd B p) * (rd A p - rd B p)) (by omega) (by omega), w64_id (x := cut m n (p + 1) - cut m n p) (by omega) (by omega), w64_id (x := (unit : Int) * (cut m n (p + 1) - cut m n p)) (by omega) (by omega), hu', hl]
  have el : (unit : Int) * (l : Int) = ((unit * l : Nat) : Int) := by simp
  rw [el]
  have l0 : 0 < unit * l := Nat.mul_pos hu (by omega)
  have l1 : unit * l ≤ 1024 * 32 := Nat.mul_le_mul hu2 (by omega)
  refine Gives.bind (ra_Make l0 (by omega) (by omega)) fun r hr => ?_
  subst hr
  have el2 : (cut m n (p + 1) - cut m n p).toNat = l := by omega
  rw [el2] at q1
  have R := Rep.make (m := u) (n := unit * l) (w := wt m n p) l0
  rw [Nat.mul_assoc, q1] at R
  have et : TT (fun p => rd A p - rd B p) (wt m n) (p + 1).toNat = TT (fun p => rd A p - rd B p) (wt m n) p.toNat + u * wt m n p := by
    rw [show (p + 1).toNat = p.toNat + 1 by omega, TT, Int.toNat_of_nonneg h0]
    have : ((rd A p - rd B p) * (rd A p - rd B p)).toNat = u := by omega
    rw [this]
  have tb := TT_bound (d := fun p => rd A p - rd B p) (w := wt m n) (n := p.toNat + 1) fun j j0 j1 => by
    obtain ⟨_, k2, _⟩ := wt_ok (p := j) hm hn hn2 hn3 j0 (by omega)
    have := hd j j0 (by omega)
    exact ⟨this.1, this.2, k2⟩
  rw [show p.toNat + 1 = (p + 1).toNat by omega, et] at tb
  refine Gives.bind (ra_Add i3 R M0 M1 (by omega)) fun z hz => ?_
  obtain ⟨P', Q', rfl, hR⟩ := hz
  refine Gives.neg (by simp) (Gives.now ⟨_, rfl, rfl, P', Q', rfl, ?_⟩)
  rw [et]
  exact hR
theorem sq_loopB {m n unit : Nat} {A B : List Int} {c0 : Int} (hm : m ≤ 32) (hn : 1 ≤ n) (hn2 : n ≤ 8) (hn3 : n ≤ m) (hu : 1 ≤ unit) (hu2 : unit ≤ 1024) (hA : A.length = n) (hB : B.length = n)
    (hd : ∀ p : Int, 0 ≤ p → p < n → -6300000 ≤ rd A p - rd B p ∧ rd A p - rd B p ≤ 6300000) :
    Gives (fun k => allT (T_pieces_squares_v2_r1 k n unit c0 A B) m n k 0 (0, 0, 1)) (fun x => ∃ s', x = .inl s' ∧ (s'.1 = 0 ∧ ∃ P Q : Nat, s'.2 = ((P : Int), (Q : Int)) ∧ Rep P Q (TT (fun p => rd A p - rd B p) (wt m n) (n : Int).toNat) (unit * mm m n))) := by
  have w0 := wt_ok (p := 0) hm hn hn2 hn3 (by omega) (by omega)
  have M0 : 0 < unit * mm m n := Nat.mul_pos hu w0.2.2.2.2.1
  have M1 : unit * mm m n < 4294967296 := by
    have := Nat.mul_le_mul hu2 w0.2.2.2.2.2
    omega
  refine Gives.rangeT (m := (m : Int)) (n := (n : Int)) (by omega) (by omega) (by omega) (by omega) (fun (p : Int) (s : Int × Int × Int) => s.1 = 0 ∧ ∃ P Q : Nat, s.2 = ((P : Int), (Q : Int)) ∧ Rep P Q (TT (fun p => rd A p - rd B p) (wt m n) p.toNat) (unit * mm m n)) ?_ ⟨rfl, 0, 1, rfl, ⟨by omega, by simp, by simp [TT]⟩⟩
  intro p s h0 h1 ⟨i1, P, Q, i2, i3⟩
  obtain ⟨s1, s2, s3⟩ := s
  simp only [Prod.mk.injEq] at i1 i2
  obtain ⟨rfl, rfl⟩ := i2
  subst i1
  obtain ⟨q1, q2, q3, q4, q5, q6⟩ := wt_ok hm hn hn2 hn3 h0 h1
  obtain ⟨d1, d2⟩ := hd p h0 h1
  have dd := prod_bound (a := rd A p - rd B p) (b := rd A p - rd B p) (A := 6300000) (B := 6300000) d1 d2 d1 d2
  have d0 := sq_nonneg (rd A p - rd B p)
  unfold T_pieces_squares_v2_r1
  refine Gives.opt (at_rd h0 (by omega)) (Gives.opt (at_rd h0 (by omega)) ?_)
  simp only []
  have ul := prod_bound (a := (unit : Int)) (b := cut m n (p + 1) - cut m n p) (A := 1024) (B := 32) (by omega) (by omega) (by omega) (by omega)
  obtain ⟨l, hl⟩ : ∃ l : Nat, cut m n (p + 1) - cut m n p = l := ⟨(cut m n (p + 1) - cut m n p).toNat, by omega⟩
  obtain ⟨u, hu'⟩ : ∃ u : Nat, (rd A p - rd B p) * (rd A p - rd B p) = u := ⟨((rd A p - rd B p) * (rd A p - rd B p)).toNat, by omega⟩
  rw [w64_id (x := rd A p - rd B p) (by omega) (by omega), w64_id (x := (rd A p - rd B p) * (rd A p - rd B p)) (by omega) (by omega), w64_id (x := cut m n (p + 1) - cut m n p) (by omega) (by omega), w64_id (x := (unit : Int) * (cut m n (p + 1) - cut m n p)) (by omega) (by omega), hu', hl]
  have el : (unit : Int) * (l : Int) = ((unit * l : Nat) : Int) := by simp
  rw [el]
  have l0 : 0 < unit * l := Nat.mul_pos hu (by omega)
  have l1 : unit * l ≤ 1024 * 32 := Nat.mul_le_mul hu2 (by omega)
  refine Gives.bind (ra_Make l0 (by omega) (by omega)) fun r hr => ?_
  subst hr
  have el2 : (cut m n (p + 1) - cut m n p).toNat = l := by omega
  rw [el2] at q1
  have R := Rep.make (m := u) (n := unit * l) (w := wt m n p) l0
  rw [Nat.mul_assoc, q1] at R
  have et : TT (fun p => rd A p - rd B p) (wt m n) (p + 1).toNat = TT (fun p => rd A p - rd B p) (wt m n) p.toNat + u * wt m n p := by
    rw [show (p + 1).toNat = p.toNat + 1 by omega, TT, Int.toNat_of_nonneg h0]
    have : ((rd A p - rd B p) * (rd A p - rd B p)).toNat = u := by omega
    rw [this]
  have tb := TT_bound (d := fun p => rd A p - rd B p) (w := wt m n) (n := p.toNat + 1) fun j j0 j1 => by
    obtain ⟨_, k2, _⟩ := wt_ok (p := j) hm hn hn2 hn3 j0 (by omega)
    have := hd j j0 (by omega)
    exact ⟨this.1, this.2, k2⟩
  rw [show p.toNat + 1 = (p + 1).toNat by omega, et] at tb
  refine Gives.bind (ra_Add i3 R M0 M1 (by omega)) fun z hz => ?_
  obtain ⟨P', Q', rfl, hR⟩ := hz
  refine Gives.neg (by simp) (Gives.now ⟨_, rfl, rfl, P', Q', rfl, ?_⟩)
  rw [et]
  exact hR

/-- The sum of a piece, and the centred one. -/
def pcs (x : List Int) (n p : Int) : Int := psum x (cut x.length n (p + 1)) - psum x (cut x.length n p)
def pcc (x : List Int) (n p : Int) : Int := (x.length : Int) * pcs x n p - (cut x.length n (p + 1) - cut x.length n p) * x.sum
theorem pcs_bound {x : List Int} {n p : Int} (hx : Win x) (hn : 1 ≤ n) (h0 : 0 ≤ p) (h1 : p < n) : -64000 ≤ pcs x n p ∧ pcs x n p ≤ 64000 := by
  have k1 := cut_range (m := (x.length : Int)) hn (by omega) h0 (by omega)
  have k2 := cut_range (m := (x.length : Int)) (p := p + 1) hn (by omega) (by omega) (by omega)
  have b1 := pc_bounds hx k1.1 k1.2
  have b2 := pc_bounds hx k2.1 k2.2
  unfold pcs
  omega
theorem pcc_bound {x : List Int} {n p : Int} (hx : Win x) (hn : 1 ≤ n) (h0 : 0 ≤ p) (h1 : p < n) : -3120000 ≤ pcc x n p ∧ pcc x n p ≤ 3120000 := by
  have k1 := cut_range (m := (x.length : Int)) hn (by omega) h0 (by omega)
  have k2 := cut_range (m := (x.length : Int)) (p := p + 1) hn (by omega) (by omega) (by omega)
  have b0 := pcs_bound hx hn h0 h1
  have b1 := pc_bounds hx (i := x.length) (by omega) (by omega)
  have x1 := hx.hi
  rw [psum_all] at b1
  have q1 := prod_bound (a := (x.length : Int)) (b := pcs x n p) (A := 32) (B := 64000) (by omega) (by omega) (by omega) (by omega)
  have q2 := prod_bound (a := cut x.length n (p + 1) - cut x.length n p) (b := x.sum) (A := 32) (B := 32000) (by omega) (by omega) (by omega) (by omega)
  unfold pcc
  omega

/-! The bounds of chapter 18. -/
theorem pc_lower {x y : List Int} {n : Nat} (hx : Win x) (hy : Win y) (hl : x.length = y.length) (hn : 1 ≤ n) (hn2 : n ≤ 8) (hn3 : n ≤ x.length) :
    Gives (fun k => T_pieces_Lower k x y n) (fun r => ∃ P Q : Nat, r = ((P : Int), (Q : Int), 0) ∧ Rep P Q (TT (fun p => pcs x n p - pcs y n p) (wt x.length n) n) (1 * mm x.length n)) := by
  have x1 := hx.hi
  refine Gives.step ?_
  simp only [T_pieces_Lower]
  refine Gives.bind (Q := fun r => ∃ P Q : Nat, r = ((P : Int), (Q : Int), 0) ∧ Rep P Q (TT (fun p => pcs x n p - pcs y n p) (wt x.length n) n) (1 * mm x.length n)) ?_ fun r hr => Gives.now ?_
  · refine Gives.step ?_
    simp only [T_pieces_squares]
    refine Gives.bind (eu_distance hx hy hl) fun a ha => Gives.neg (by simp [ha]) (Gives.bind (pc_sums (n := (n : Int)) hx (by omega) (by omega) (by omega)) fun f hf => Gives.neg (by simp [hf.1]) (Gives.bind (pc_sums (n := (n : Int)) hy (by omega) (by omega) (by omega)) fun g hg => Gives.neg (by simp [hg.1]) (Gives.bind (pc_all _ _) fun _ _ => ?_)))
    obtain ⟨f1, f2, f3⟩ := hf
    obtain ⟨g1, g2, g3⟩ := hg
    rw [g1]
    have ed : ∀ p : Int, 0 ≤ p → p < (n : Int) → rd f.1 p - rd g.1 p = pcs x n p - pcs y n p := fun p p0 p1 => by
      rw [f3 p p0 p1, g3 p p0 p1]; rfl
    refine Gives.bind (sq_loopA (m := x.length) (n := n) (unit := 1) (A := f.1) (B := g.1) (by omega) hn hn2 hn3 (by omega) (by omega) (by omega) (by omega) fun p p0 p1 => ?_) fun v hv => ?_
    · rw [ed p p0 p1]
      have b1 := pcs_bound hx (n := (n : Int)) (by omega) p0 p1
      have b2 := pcs_bound hy (n := (n : Int)) (by omega) p0 p1
      omega
    obtain ⟨s', rfl, e, P, Q, e2, R⟩ := hv
    simp only []
    rw [e2]
    refine Gives.now ⟨P, Q, rfl, ?_⟩
    rw [Int.toNat_natCast, TT_congr (d' := fun p => pcs x n p - pcs y n p) fun p p0 p1 => by rw [ed p p0 p1]] at R
    exact R
  · obtain ⟨P, Q, rfl, R⟩ := hr
    exact ⟨P, Q, rfl, R⟩
theorem pc_shifted {x y : List Int} {n : Nat} (hx : Win x) (hy : Win y) (hl : x.length = y.length) (hn : 1 ≤ n) (hn2 : n ≤ 8) (hn3 : n ≤ x.length) :
    Gives (fun k => T_pieces_Shifted k x y n) (fun r => ∃ P Q : Nat, r = ((P : Int), (Q : Int), 0) ∧ Rep P Q (TT (fun p => pcc x n p - pcc y n p) (wt x.length n) n) (x.length * x.length * mm x.length n)) := by
  have x1 := hx.hi
  have x2 := hx.lo
  have xx : x.length * x.length ≤ 32 * 32 := Nat.mul_le_mul x1 x1
  have xx0 : 2 * 2 ≤ x.length * x.length := Nat.mul_le_mul x2 x2
  have eu : imax 1 (w64 ((x.length : Int) * (x.length : Int))) = ((x.length * x.length : Nat) : Int) := by
    have e : (x.length : Int) * (x.length : Int) = ((x.length * x.length : Nat) : Int) := by simp
    rw [e, w64_id (by omega) (by omega)]
    unfold imax
    split <;> omega
  refine Gives.step ?_
  simp only [T_pieces_Shifted]
  rw [eu]
  refine Gives.bind (Q := fun r => ∃ P Q : Nat, r = ((P : Int), (Q : Int), 0) ∧ Rep P Q (TT (fun p => pcc x n p - pcc y n p) (wt x.length n) n) (x.length * x.length * mm x.length n)) ?_ fun r hr => Gives.now ?_
  · refine Gives.step ?_
    simp only [T_pieces_squares_v2]
    refine Gives.bind (eu_distance hx hy hl) fun a ha => Gives.neg (by simp [ha]) (Gives.bind (pc_centred (n := (n : Int)) hx (by omega) (by omega) (by omega)) fun f hf => Gives.neg (by simp [hf.1]) (Gives.bind (pc_centred (n := (n : Int)) hy (by omega) (by omega) (by omega)) fun g hg => Gives.neg (by simp [hg.1]) (Gives.bind (pc_all _ _) fun _ _ => ?_)))
    obtain ⟨f1, f2, f3⟩ := hf
    obtain ⟨g1, g2, g3⟩ := hg
    rw [g1]
    have ed : ∀ p : Int, 0 ≤ p → p < (n : Int) → rd f.1 p - rd g.1 p = pcc x n p - pcc y n p := fun p p0 p1 => by
      rw [f3 p p0 p1, g3 p p0 p1]; rfl
    refine Gives.bind (sq_loopB (m := x.length) (n := n) (unit := x.length * x.length) (A := f.1) (B := g.1) (by omega) hn hn2 hn3 (by omega) (by omega) (by omega) (by omega) fun p p0 p1 => ?_) fun v hv => ?_
    · rw [ed p p0 p1]
      have b1 := pcc_bound hx (n := (n : Int)) (by omega) p0 p1
      have b2 := pcc_bound hy (n := (n : Int)) (by omega) p0 p1
      omega
    obtain ⟨s', rfl, e, P, Q, e2, R⟩ := hv
    simp only []
    rw [e2]
    refine Gives.now ⟨P, Q, rfl, ?_⟩
    rw [Int.toNat_natCast, TT_congr (d' := fun p => pcc x n p - pcc y n p) fun p p0 p1 => by rw [ed p p0 p1]] at R
    exact R
  · obtain ⟨P, Q, rfl, R⟩ := hr
    exact ⟨P, Q, rfl, R⟩

/-! Chapter 18 of the document. -/
theorem f18_starts {m n : Nat} (hm : 2 ≤ m) (hm2 : m ≤ 32) (hn : 1 ≤ n) (hn2 : n ≤ 8) (hn3 : n ≤ m) : Gives (fun k => T_ref18_Starts k m n) (fun r => r.2 = 0 ∧ r.1.length = n + 1 ∧ ∀ p, 0 ≤ p → p ≤ (n : Int) → rd r.1 p = cut m n p) := by
  refine Gives.step ?_
  simp only [T_ref18_Starts]
  refine Gives.neg (by simp; omega) (Gives.neg (by simp; omega) (Gives.bind (Q := fun r => r.2.length = r.1 ∧ r.1 = n + 1 ∧ ∀ p, 0 ≤ p → p ≤ (n : Int) → rd r.2 p = cut m n p) ?_ fun r hr => ?_))
  · refine Gives.loop (fun s => 0 ≤ s.2.1 ∧ s.2.1 ≤ (n : Int) + 1 ∧ (s.1 : Int) = s.2.1 ∧ s.2.2.length = s.1 ∧ ∀ p, 0 ≤ p → p < s.2.1 → rd s.2.2 p = cut m n p) (fun s => ((n : Int) + 1 - s.2.1).toNat) ?_ ⟨by simp only []; omega, by simp only []; omega, rfl, rfl, fun p h1 h2 => by simp only at h2; omega⟩
    intro ⟨l, i, o⟩ ⟨i0, i1, i2, i3, i4⟩
    simp only at i0 i1 i2 i3 i4
    unfold T_ref18_Starts_l1
    simp only []
    refine Gives.ite (fun c => Gives.pos (by omega) (Gives.pos (by unfold LIM; omega) ?_)) fun c => Gives.now ⟨i3, by simp only []; omega, fun p h1 h2 => i4 p h1 (by omega)⟩
    rw [cut_w (m := (m : Int)) (n := (n : Int)) (p := i) (by omega) (by omega) (by omega) (by omega) i0 c, w64_id (x := i + 1) (by omega) (by omega), drop_take_len i3]
    refine Gives.now ⟨⟨by simp only []; omega, by simp only []; omega, by simp only []; omega, by simp [i3], fun p h1 h2 => ?_⟩, by simp only []; omega⟩
    simp only at h2 ⊢
    by_cases e : p = i
    · subst e; rw [rd_app_1 h1 (by omega)]
    · rw [rd_app_l (by omega)]; exact i4 p h1 (by omega)
  · rw [drop_take_len hr.1]
    exact Gives.now ⟨rfl, by rw [hr.1]; exact hr.2.1, hr.2.2⟩
theorem f18_fold {x S : List Int} {n : Nat} (hx : Win x) (hn : 1 ≤ n) (hn2 : n ≤ 8) (hS : S.length = n + 1) (hv : ∀ p, 0 ≤ p → p ≤ (n : Int) → rd S p = cut x.length n p) : Gives (fun k => T_ref18_Fold k x S) (fun r => r.length = n ∧ ∀ p, 0 ≤ p → p < (n : Int) → rd r p = pcs x n p) := by
  have x2 := hx.hi
  refine Gives.step ?_
  simp only [T_ref18_Fold]
  refine Gives.bind (Q := fun r => r.2.length = r.1 ∧ r.1 = n ∧ ∀ p, 0 ≤ p → p < (n : Int) → rd r.2 p = pcs x n p) ?_ fun r hr => ?_
  · refine Gives.loop (fun s => 1 ≤ s.2.1 ∧ s.2.1 ≤ (n : Int) + 1 ∧ (s.1 : Int) = s.2.1 - 1 ∧ s.2.2.length = s.1 ∧ ∀ p, 0 ≤ p → p < s.2.1 - 1 → rd s.2.2 p = pcs x n p) (fun s => ((n : Int) + 1 - s.2.1).toNat) ?_ ⟨by simp only []; omega, by simp only []; omega, rfl, rfl, fun p h1 h2 => by simp only at h2; omega⟩
    intro ⟨l, i, o⟩ ⟨i0, i1, i2, i3, i4⟩
    simp only at i0 i1 i2 i3 i4
    unfold T_ref18_Fold_l2
    simp only []
    rw [hS, w64_id (x := i - 1) (by omega) (by omega)]
    refine Gives.ite (fun c => Gives.opt (at_rd (by omega) (by omega)) ?_) fun c => Gives.now ⟨i3, by simp only []; omega, fun p h1 h2 => i4 p h1 (by omega)⟩
    have k1 := cut_range (m := (x.length : Int)) (n := (n : Int)) (p := i - 1) (by omega) (by omega) (by omega) (by omega)
    have k2 := cut_range (m := (x.length : Int)) (n := (n : Int)) (p := i) (by omega) (by omega) (by omega) (by omega)
    have k3 := cut_mono (m := (x.length : Int)) (n := (n : Int)) (p := i - 1) (q := i) (by omega) (by omega) (by omega)
    have s1 := hv (i - 1) (by omega) (by omega)
    have s2 := hv i (by omega) (by omega)
    have b1 := pc_bounds hx (i := cut x.length n (i - 1)) k1.1 k1.2
    rw [s1]
    refine Gives.bind (Q := fun r => r = pcs x n (i - 1)) ?_ fun r hr => ?_
    · refine Gives.loop (fun t => cut x.length n (i - 1) ≤ t.2 ∧ t.2 ≤ cut x.length n i ∧ t.1 = psum x t.2 - psum x (cut x.length n (i - 1))) (fun t => (cut x.length n i - t.2).toNat) ?_ ⟨by simp only []; omega, by simp only []; omega, by simp only []; omega⟩
      intro ⟨a, j⟩ ⟨j0, j1, j2⟩
      simp only at j0 j1 j2
      unfold T_ref18_Fold_l1
      simp only []
      refine Gives.opt (at_rd (by omega) (by omega)) ?_
      rw [s2]
      refine Gives.ite (fun cc => Gives.opt (at_rd (by omega) (by omega)) ?_) fun cc => Gives.now ?_
      · have ex := psum_succ (x := x) (i := j) (by omega) (by omega)
        have bj := pc_bounds hx (i := j) (by omega) (by omega)
        have sj := hx.smp.rd j
        rw [w64_id (x := a + rd x j) (by omega) (by omega), w64_id (x := j + 1) (by omega) (by omega)]
        exact Gives.now ⟨⟨by simp only []; omega, by simp only []; omega, by simp only []; omega⟩, by simp only []; omega⟩
      · have : j = cut x.length n i := by omega
        subst this
        unfold pcs
        rw [j2, show i - 1 + 1 = i by omega]
    subst hr
    rw [w64_id (x := i + 1) (by omega) (by omega), drop_take_len i3]
    refine Gives.pos (by unfold LIM; omega) (Gives.now ⟨⟨by simp only []; omega, by simp only []; omega, by simp only []; omega, by simp [i3], fun p h1 h2 => ?_⟩, by simp only []; omega⟩)
    simp only at h2 ⊢
    by_cases e : p = i - 1
    · rw [rd_app_1 h1 (by omega), e]
    · rw [rd_app_l (by omega)]; exact i4 p h1 (by omega)
  · rw [drop_take_len hr.1]
    exact Gives.now ⟨by rw [hr.1]; exact hr.2.1, hr.2.2⟩
theorem f18_diff {a b : List Int} {n : Nat} (hn2 : n ≤ 8) (ha : a.length = n) (hb : b.length = n) (bd : ∀ p, 0 ≤ p → p < (n : Int) → -1000000000 ≤ rd a p - rd b p ∧ rd a p - rd b p ≤ 1000000000) : Gives (fun k => T_ref18_differences k a b) (fun r => r.length = n ∧ ∀ p, 0 ≤ p → p < (n : Int) → rd r p = rd a p - rd b p) := by
  refine Gives.step ?_
  simp only [T_ref18_differences]
  refine Gives.bind (Q := fun r => r.2.length = r.1 ∧ r.1 = n ∧ ∀ p, 0 ≤ p → p < (n : Int) → rd r.2 p = rd a p - rd b p) ?_ fun r hr => ?_
  · refine Gives.loop (fun s => 0 ≤ s.2.1 ∧ s.2.1 ≤ (n : Int) ∧ (s.1 : Int) = s.2.1 ∧ s.2.2.length = s.1 ∧ ∀ p, 0 ≤ p → p < s.2.1 → rd s.2.2 p = rd a p - rd b p) (fun s => ((n : Int) - s.2.1).toNat) ?_ ⟨by simp only []; omega, by simp only []; omega, rfl, rfl, fun p h1 h2 => by simp only at h2; omega⟩
    intro ⟨l, i, o⟩ ⟨i0, i1, i2, i3, i4⟩
    simp only at i0 i1 i2 i3 i4
    unfold T_ref18_differences_l1
    simp only []
    rw [ha]
    refine Gives.ite (fun c => Gives.opt (at_rd i0 (by omega)) (Gives.opt (at_rd i0 (by omega)) (Gives.pos (by unfold LIM; omega) ?_))) fun c => Gives.now ⟨i3, by simp only []; omega, fun p h1 h2 => i4 p h1 (by omega)⟩
    have b := bd i i0 c
    rw [w64_id (x := i + 1) (by omega) (by omega), w64_id (x := rd a i - rd _ i) (by omega) (by omega), drop_take_len i3]
    refine Gives.now ⟨⟨by simp only []; omega, by simp only []; omega, by simp only []; omega, by simp [i3], fun p h1 h2 => ?_⟩, by simp only []; omega⟩
    simp only at h2 ⊢
    by_cases e : p = i
    · subst e; rw [rd_app_1 h1 (by omega)]
    · rw [rd_app_l (by omega)]; exact i4 p h1 (by omega)
  · rw [drop_take_len hr.1]
    exact Gives.now ⟨by rw [hr.1]; exact hr.2.1, hr.2.2⟩
theorem f18_squares {d S : List Int} {m n : Nat} (hm : m ≤ 32) (hn : 1 ≤ n) (hn2 : n ≤ 8) (hn3 : n ≤ m) (hd : d.length = n) (hS : S.length = n + 1) (hv : ∀ p, 0 ≤ p → p ≤ (n : Int) → rd S p = cut m n p) (bd : ∀ p, 0 ≤ p → p < (n : Int) → -6300000 ≤ rd d p ∧ rd d p ≤ 6300000) :
    Gives (fun k => T_ref18_Squares k d S 1) (fun r => ∃ P Q : Nat, r = ((P : Int), (Q : Int)) ∧ Rep P Q (TT (rd d) (wt m n) n) (mm m n)) := by
  have w0 := wt_ok (p := 0) hm hn hn2 hn3 (by omega) (by omega)
  have d1 : m / n ≤ 32 := Nat.le_trans (Nat.div_le_self _ _) hm
  have tb := TT_bound (d := rd d) (w := wt m n) (n := n) fun j j0 j1 => ⟨(bd j j0 j1).1, (bd j j0 j1).2, (wt_ok hm hn hn2 hn3 j0 j1).2.1⟩
  have em : w64 (w64 (((m / n : Nat) : Int)) * w64 (w64 (((m / n : Nat) : Int)) + 1)) = ((mm m n : Nat) : Int) := by
    have p : m / n * (m / n + 1) ≤ 32 * 33 := Nat.mul_le_mul d1 (by omega)
    unfold mm
    generalize m / n = q at *
    rw [w64_id (x := (q : Int)) (by omega) (by omega), w64_id (x := (q : Int) + 1) (by omega) (by omega)]
    have e : (q : Int) * ((q : Int) + 1) = ((q * (q + 1) : Nat) : Int) := by simp
    rw [e, w64_id (by omega) (by omega)]
  refine Gives.step ?_
  simp only [T_ref18_Squares]
  rw [hS, w64_id (x := ((n + 1 : Nat) : Int) - 1) (by omega) (by omega), show ((n + 1 : Nat) : Int) - 1 = n by omega]
  refine Gives.opt (at_rd (by omega) (by omega)) (Gives.pos (by omega) ?_)
  rw [hv n (by omega) (by omega), cut_last (by omega), tdiv_nat, em, Int.mul_one, hd]
  refine Gives.bind (Q := fun r => r = ((TT (rd d) (wt m n) n : Nat) : Int)) ?_ fun r hr => ?_
  · refine Gives.loop (fun s => 0 ≤ s.2 ∧ s.2 ≤ (n : Int) ∧ s.1 = ((TT (rd d) (wt m n) s.2.toNat : Nat) : Int)) (fun s => ((n : Int) - s.2).toNat) ?_ ⟨by simp only []; omega, by simp only []; omega, rfl⟩
    intro ⟨a, i⟩ ⟨i0, i1, i2⟩
    simp only at i0 i1 i2
    unfold T_ref18_Squares_l1
    simp only []
    refine Gives.ite (fun c => Gives.opt (at_rd i0 (by omega)) ?_) fun c => Gives.now ?_
    · have q := wt_ok (p := i) hm hn hn2 hn3 i0 c
      have b := bd i i0 c
      have dd := prod_bound (a := rd d i) (b := rd d i) (A := 6300000) (B := 6300000) b.1 b.2 b.1 b.2
      have d0 := sq_nonneg (rd d i)
      have s1 := hv i i0 (by omega)
      have s2 := hv (i + 1) (by omega) (by omega)
      rw [w64_id (x := i + 1) (by omega) (by omega)]
      refine Gives.opt (at_rd (by omega) (by omega)) (Gives.opt (at_rd i0 (by omega)) ?_)
      rw [s1, s2, w64_id (x := cut m n (i + 1) - cut m n i) (by omega) (by omega)]
      have ew : ((mm m n : Nat) : Int).tdiv (cut m n (i + 1) - cut m n i) = ((wt m n i : Nat) : Int) := by
        obtain ⟨l, hl⟩ : ∃ l : Nat, cut m n (i + 1) - cut m n i = l := ⟨(cut m n (i + 1) - cut m n i).toNat, by omega⟩
        unfold wt
        rw [hl, tdiv_nat, Int.toNat_natCast]
      have em' : ((mm m n : Nat) : Int) = w64 ((mm m n : Nat) : Int) := (w64_id (by omega) (by omega)).symm
      have w33 := q.2.1
      have tw : rd d i * rd d i * ((wt m n i : Nat) : Int) = (((rd d i * rd d i).toNat * wt m n i : Nat) : Int) := by
        rw [Int.natCast_mul, Int.toNat_of_nonneg d0]
      have tbi := TT_bound (d := rd d) (w := wt m n) (n := i.toNat + 1) fun j j0 j1 => ⟨(bd j j0 (by omega)).1, (bd j j0 (by omega)).2, (wt_ok hm hn hn2 hn3 j0 (by omega)).2.1⟩
      rw [TT, Int.toNat_of_nonneg i0] at tbi
      refine Gives.pos (by omega) ?_
      rw [em, ew, w64_id (x := rd d i * rd d i) (by omega) (by omega), w64_id (x := ((wt m n i : Nat) : Int)) (by omega) (by omega), tw, w64_id (x := (((rd d i * rd d i).toNat * wt m n i : Nat) : Int)) (by omega) (by omega), w64_id (x := a + _) (by omega) (by omega)]
      refine Gives.now ⟨⟨by simp only []; omega, by simp only []; omega, ?_⟩, by simp only []; omega⟩
      simp only []
      rw [show (i + 1).toNat = i.toNat + 1 by omega, TT, Int.toNat_of_nonneg i0, i2]
      omega
    · have : i.toNat = n := by omega
      rw [i2, this]
  subst hr
  rw [w64_id (x := ((mm m n : Nat) : Int)) (by omega) (by omega)]
  refine Gives.bind (r01_make (m := TT (rd d) (wt m n) n) (n := mm m n) (by omega) (by omega) (by omega)) fun r hr => ?_
  obtain ⟨P, Q, rfl, R⟩ := hr
  exact Gives.now ⟨P, Q, rfl, R⟩
theorem f18_lower {x y : List Int} {n : Nat} (hx : Win x) (hy : Win y) (hl : x.length = y.length) (hn : 1 ≤ n) (hn2 : n ≤ 8) (hn3 : n ≤ x.length) :
    Gives (fun k => T_ref18_Lower k x y n) (fun r => ∃ P Q : Nat, r = ((P : Int), (Q : Int), 0) ∧ Rep P Q (TT (fun p => pcs x n p - pcs y n p) (wt x.length n) n) (mm x.length n)) := by
  have x1 := hx.lo
  have x2 := hx.hi
  have pd : ∀ p, 0 ≤ p → p < (n : Int) → -128000 ≤ pcs x n p - pcs y n p ∧ pcs x n p - pcs y n p ≤ 128000 := fun p p0 p1 => by
    have px := pcs_bound hx (n := (n : Int)) (by omega) p0 p1
    have py := pcs_bound hy (n := (n : Int)) (by omega) p0 p1
    omega
  refine Gives.step ?_
  simp only [T_ref18_Lower]
  refine Gives.bind (r12_two hx hy hl) fun v hv => Gives.neg (by simp [hv]) (Gives.bind (f18_starts (m := x.length) (n := n) x1 x2 hn hn2 hn3) fun S hS => Gives.neg (by simp [hS.1]) ?_)
  obtain ⟨S1, S2, S3⟩ := hS
  refine Gives.bind (f18_fold hx hn hn2 S2 S3) fun a ha => Gives.bind (f18_fold hy hn hn2 S2 (by rw [← hl]; exact S3)) fun b hb => ?_
  obtain ⟨a1, a2⟩ := ha
  obtain ⟨b1, b2⟩ := hb
  refine Gives.bind (f18_diff hn2 a1 b1 fun p p0 p1 => by rw [a2 p p0 p1, b2 p p0 p1]; have := pd p p0 p1; omega) fun d hd => ?_
  obtain ⟨d1, d2⟩ := hd
  have dv : ∀ p, 0 ≤ p → p < (n : Int) → rd d p = pcs x n p - pcs y n p := fun p p0 p1 => by rw [d2 p p0 p1, a2 p p0 p1, b2 p p0 p1]
  refine Gives.bind (f18_squares (m := x.length) x2 hn hn2 hn3 d1 S2 S3 fun p p0 p1 => by rw [dv p p0 p1]; have := pd p p0 p1; omega) fun r hr => ?_
  obtain ⟨P, Q, rfl, R⟩ := hr
  refine Gives.now ⟨P, Q, rfl, ?_⟩
  rw [TT_congr (d' := fun p => pcs x n p - pcs y n p) fun p p0 p1 => by rw [dv p p0 p1]] at R
  exact R

theorem ints_refl {xs ys : List Int} (h : xs = ys) (hl : xs.length ≤ 1000) : Gives (fun k => T_keep_Ints k xs ys) (· = true) := by
  subst h
  refine Gives.step ?_
  simp only [T_keep_Ints]
  refine Gives.neg (by simp) (Gives.bind (Q := fun r => r = .inl ()) ?_ fun r hr => by subst hr; exact Gives.now rfl)
  refine Gives.loop (fun s => 0 ≤ s ∧ s ≤ (xs.length : Int)) (fun s => ((xs.length : Int) - s).toNat) ?_ ⟨by omega, by omega⟩
  intro s ⟨i1, i2⟩
  unfold T_keep_Ints_l1
  refine Gives.ite (fun c => Gives.opt (at_rd i1 c) (Gives.opt (at_rd i1 c) (Gives.neg (by simp) ?_))) fun c => Gives.now rfl
  rw [w64_id (by omega) (by omega)]
  exact Gives.now ⟨⟨by omega, by omega⟩, by omega⟩
theorem ext_rd {xs ys : List Int} (hl : xs.length = ys.length) (h : ∀ p, 0 ≤ p → p < (xs.length : Int) → rd xs p = rd ys p) : xs = ys := by
  refine List.ext_getElem hl fun i h1 h2 => ?_
  have := h i (by omega) (by omega)
  unfold rd at this
  rw [List.getD_eq_getElem?_getD, List.getD_eq_getElem?_getD] at this
  simpa [h1, h2] using this

/-! Errors of windows of any kind. -/
theorem Gives.get {α : Type} {f : Nat → Option α} {Q : α → Prop} (h : Gives f Q) : ∃ v, Gives f (· = v) ∧ Q v := by
  obtain ⟨r, h1, h2⟩ := h
  exact ⟨r, ⟨r, h1, rfl⟩, h2⟩
theorem at_mem {α : Type} {xs : List α} {i : Int} (h0 : 0 ≤ i) (h1 : i < (xs.length : Int)) : ∃ v, at? xs i = some v ∧ v ∈ xs := by
  have h : i.toNat < xs.length := by omega
  exact ⟨xs[i.toNat], by unfold at?; rw [if_pos h0, List.getElem?_eq_getElem h], List.getElem_mem h⟩
def smpB (xs : List Int) : Bool := xs.all fun v => decide (-1000 ≤ v ∧ v ≤ 1000)
theorem smpB_iff {xs : List Int} : smpB xs = true ↔ Smp xs := by
  unfold smpB Smp
  rw [List.all_eq_true]
  exact ⟨fun h v hv => by simpa using h v hv, fun h v hv => by simpa using h v hv⟩
theorem smp_of_rd {xs : List Int} (h : ∀ q, 0 ≤ q → q < (xs.length : Int) → -1000 ≤ rd xs q ∧ rd xs q ≤ 1000) : Smp xs := by
  intro v hv
  obtain ⟨i, hi, rfl⟩ := List.getElem_of_mem hv
  have e : rd xs (i : Int) = xs[i] := by unfold rd; rw [List.getD_eq_getElem?_getD]; simp [hi]
  rw [← e]
  exact h i (by omega) (by omega)
def lenB (xs : List Int) : Bool := decide (2 ≤ xs.length) && decide (xs.length ≤ 32)
/-- The first error of two windows and a band. -/
def errM (xs ys : List Int) (m : Int) : Int :=
  if (lenB xs && lenB ys) = true then if (smpB xs && smpB ys) = true then if (xs.length : Int) - ys.length ≤ m ∧ (ys.length : Int) - xs.length ≤ m then 0 else 8 else 12 else 8
theorem errM_zero {xs ys : List Int} {m : Int} (h : errM xs ys m = 0) : Win xs ∧ Win ys ∧ (xs.length : Int) - ys.length ≤ m ∧ (ys.length : Int) - xs.length ≤ m := by
  unfold errM at h
  split at h
  · rename_i h1
    split at h
    · rename_i h2
      split at h
      · rename_i h3
        simp only [lenB, Bool.and_eq_true, decide_eq_true_eq] at h1
        simp only [Bool.and_eq_true, smpB_iff] at h2
        exact ⟨⟨h1.1.1, h1.1.2, h2.1⟩, ⟨h1.2.1, h1.2.2, h2.2⟩, h3.1, h3.2⟩
      · cases h
    · cases h
  · cases h
theorem errM_win {xs ys : List Int} {m : Int} (hx : Win xs) (hy : Win ys) (h1 : (xs.length : Int) - ys.length ≤ m) (h2 : (ys.length : Int) - xs.length ≤ m) : errM xs ys m = 0 := by
  have a1 := hx.lo
  have a2 := hx.hi
  have b1 := hy.lo
  have b2 := hy.hi
  unfold errM
  rw [if_pos (by simp [lenB]; omega), if_pos (by rw [smpB_iff.2 hx.smp, smpB_iff.2 hy.smp]; rfl), if_pos ⟨h1, h2⟩]
theorem errM_self {xs ys : List Int} {m : Int} (h : errM xs ys m = 0) : errM xs xs 0 = 0 ∧ errM ys ys 0 = 0 := by
  obtain ⟨a, b, _⟩ := errM_zero h
  exact ⟨errM_win a a (by omega) (by omega), errM_win b b (by omega) (by omega)⟩
theorem eu_samplesG {xs : List Int} (hl : xs.length ≤ 1000) : Gives (fun k => T_euclid_samples k xs) (· = smpB xs) := by
  refine Gives.step ?_
  simp only [T_euclid_samples]
  refine Gives.bind (Q := fun r => (r = .inl () ∧ smpB xs = true) ∨ (r = .inr () ∧ smpB xs = false)) ?_ fun r hr => ?_
  · refine Gives.loop (fun s => 0 ≤ s ∧ s ≤ (xs.length : Int) ∧ ∀ q, 0 ≤ q → q < s → -1000 ≤ rd xs q ∧ rd xs q ≤ 1000) (fun s => ((xs.length : Int) - s).toNat) ?_ ⟨by omega, by omega, fun q h1 h2 => by omega⟩
    intro s ⟨i1, i2, i3⟩
    unfold T_euclid_samples_l1
    refine Gives.ite (fun c => Gives.opt (at_rd i1 c) (Gives.ite (fun b => Gives.now (.inr ⟨rfl, ?_⟩)) fun b => ?_)) fun c => Gives.now (.inl ⟨rfl, smpB_iff.2 (smp_of_rd fun q h1 h2 => i3 q h1 (by omega))⟩)
    · rcases e : smpB xs with _ | _
      · rfl
      · have := (smpB_iff.1 e).rd s
        simp only [Bool.or_eq_true, decide_eq_true_eq] at b
        omega
    · simp only [Bool.or_eq_true, decide_eq_true_eq] at b
      rw [w64_id (by omega) (by omega)]
      refine Gives.now ⟨⟨by omega, by omega, fun q h1 h2 => ?_⟩, by omega⟩
      by_cases e : q = s
      · subst e; omega
      · exact i3 q h1 (by omega)
  · rcases hr with ⟨rfl, h⟩ | ⟨rfl, h⟩
    · exact Gives.now h.symm
    · exact Gives.now h.symm
theorem eu_checkG {xs ys : List Int} (hx : xs.length ≤ 1000) (hy : ys.length ≤ 1000) : Gives (fun k => T_euclid_check k xs ys) (· = errM xs ys 0) := by
  refine Gives.step ?_
  simp only [T_euclid_check]
  refine Gives.bind (Q := fun b => b = !(lenB xs && lenB ys)) ?_ fun b hb => ?_
  · refine Gives.bind (eu_len xs) fun _ _ => Gives.ite (fun c => Gives.now ?_) fun c => Gives.bind (eu_len ys) fun _ _ => Gives.now ?_
    · have : lenB xs = false := by
        unfold lenB
        simp at c ⊢; omega
      rw [this]; rfl
    · have : lenB xs = true := by
        unfold lenB
        simp at c ⊢; omega
      rw [this, Bool.true_and]
      unfold lenB
      congr 2
      · simp; omega
      · simp; omega
  subst hb
  refine Gives.ite (fun c => Gives.now ?_) fun c => ?_
  · unfold errM
    rw [if_neg (by intro hh; rw [hh] at c; cases c)]
  · refine Gives.bind (Q := fun b => b = !(smpB xs && smpB ys)) ?_ fun b hb => ?_
    · refine Gives.bind (eu_samplesG hx) fun u hu => ?_
      subst hu
      refine Gives.ite (fun d => Gives.now ?_) fun d => Gives.bind (eu_samplesG hy) fun u hu => Gives.now ?_
      · have : smpB xs = false := by simpa using d
        rw [this]; rfl
      · have : smpB xs = true := by simpa using d
        rw [this, hu]; rfl
    subst hb
    have c' : (lenB xs && lenB ys) = true := by simpa using c
    refine Gives.ite (fun d => Gives.now ?_) fun d => ?_
    · unfold errM
      rw [if_pos c', if_neg (by intro hh; rw [hh] at d; cases d)]
    · have d' : (smpB xs && smpB ys) = true := by simpa using d
      refine Gives.ite (fun e => Gives.now ?_) fun e => Gives.now ?_
      · unfold errM
        rw [if_pos c', if_pos d', if_neg (by simp at e; omega)]
      · unfold errM
        rw [if_pos c', if_pos d', if_pos (by simp at e; omega)]
theorem eu_distanceG {xs ys : List Int} (hx : xs.length ≤ 1000) (hy : ys.length ≤ 1000) : Gives (fun k => T_euclid_Distance k xs ys) (fun r => r.2 = errM xs ys 0) := by
  by_cases h : errM xs ys 0 = 0
  · obtain ⟨a, b, c, d⟩ := errM_zero h
    exact Gives.mono (eu_distance a b (by omega)) fun r hr => by rw [hr, h]
  · refine Gives.step ?_
    simp only [T_euclid_Distance]
    refine Gives.bind (eu_checkG hx hy) fun e he => ?_
    subst he
    exact Gives.pos (by simpa using h) (Gives.now rfl)

/-! The errors of chapter 12. -/
theorem r12_samplesG {x : List Int} (hl : x.length ≤ 1000) : Gives (fun k => T_ref12_Samples k x) (fun r => r = if smpB x = true then 0 else 12) := by
  refine Gives.step ?_
  simp only [T_ref12_Samples]
  refine Gives.bind (Q := fun r => (r = .inl () ∧ smpB x = true) ∨ (r = .inr () ∧ smpB x = false)) ?_ fun r hr => ?_
  · refine Gives.loop (fun s => 0 ≤ s ∧ s ≤ (x.length : Int) ∧ ∀ q, 0 ≤ q → q < s → -1000 ≤ rd x q ∧ rd x q ≤ 1000) (fun s => ((x.length : Int) - s).toNat) ?_ ⟨by omega, by omega, fun q h1 h2 => by omega⟩
    intro s ⟨i1, i2, i3⟩
    unfold T_ref12_Samples_l1
    refine Gives.ite (fun c => Gives.opt (at_rd i1 c) (Gives.bind (Q := fun _ => True) ?_ fun _ _ => Gives.ite (fun b => Gives.now (.inr ⟨rfl, ?_⟩)) fun b => ?_)) fun c => Gives.now (.inl ⟨rfl, smpB_iff.2 (smp_of_rd fun q h1 h2 => i3 q h1 (by omega))⟩)
    · refine Gives.step ?_
      simp only [T_ref04_Sample]
      exact Gives.now trivial
    · rcases e : smpB x with _ | _
      · rfl
      · have := (smpB_iff.1 e).rd s
        simp at b
        omega
    · simp at b
      rw [w64_id (by omega) (by omega)]
      refine Gives.now ⟨⟨by omega, by omega, fun q h1 h2 => ?_⟩, by omega⟩
      by_cases e : q = s
      · subst e; omega
      · exact i3 q h1 (by omega)
  · rcases hr with ⟨rfl, h⟩ | ⟨rfl, h⟩
    · exact Gives.now (by rw [h]; rfl)
    · exact Gives.now (by rw [h]; rfl)
theorem r12_windowG {x : List Int} (hl : x.length ≤ 1000) : Gives (fun k => T_ref12_Window k x) (fun r => r = errM x x 0) := by
  refine Gives.step ?_
  simp only [T_ref12_Window]
  refine Gives.ite (fun c => Gives.now ?_) fun c => Gives.bind (r12_samplesG hl) fun r hr => Gives.now ?_
  · unfold errM
    rw [if_neg (by simp [lenB] at c ⊢; omega)]
  · unfold errM
    rw [if_pos (by simp [lenB] at c ⊢; omega), hr, Bool.and_self]
    split
    · rw [if_pos (by omega)]
    · rfl
theorem r12_twoG {x y : List Int} {m : Int} (hx : x.length ≤ 1000) (hy : y.length ≤ 1000) : Gives (fun k => T_ref12_Two k x y m) (fun r => r = errM x y m) := by
  refine Gives.step ?_
  simp only [T_ref12_Two]
  refine Gives.ite (fun c => Gives.now ?_) fun c => Gives.bind (Q := fun b => b = !(smpB x && smpB y)) ?_ fun b hb => ?_
  · unfold errM
    rw [if_neg (by simp [lenB] at c ⊢; omega)]
  · refine Gives.bind (r12_samplesG hx) fun r hr => Gives.ite (fun d => Gives.now ?_) fun d => Gives.bind (r12_samplesG hy) fun r' hr' => Gives.now ?_
    · subst hr
      have : smpB x = false := by
        rcases e : smpB x with _ | _
        · rfl
        · rw [e] at d; simp at d
      rw [this]; rfl
    · subst hr hr'
      have : smpB x = true := by
        rcases e : smpB x with _ | _
        · rw [e] at d; simp at d
        · rfl
      rw [this, Bool.true_and]
      rcases smpB y <;> rfl
  · subst hb
    have c' : (lenB x && lenB y) = true := by simp [lenB] at c ⊢; omega
    rw [w64_id (x := (x.length : Int) - y.length) (by omega) (by omega), w64_id (x := (y.length : Int) - x.length) (by omega) (by omega)]
    refine Gives.ite (fun d => Gives.now ?_) fun d => Gives.ite (fun e => Gives.now ?_) fun e => Gives.now ?_
    · unfold errM
      rw [if_pos c', if_neg (by intro hh; rw [hh] at d; cases d)]
    · have d' : (smpB x && smpB y) = true := by simpa using d
      unfold errM
      rw [if_pos c', if_pos d', if_neg (by simp at e; omega)]
    · have d' : (smpB x && smpB y) = true := by simpa using d
      unfold errM
      rw [if_pos c', if_pos d', if_pos (by simp at e; omega)]

/-! Chapter 18 of the document: centred sums, and all errors. -/
theorem f18_foldB {x S : List Int} {n : Nat} (x2 : x.length ≤ 32) (hb : ∀ i, 0 ≤ i → i ≤ (x.length : Int) → -4096000 ≤ psum x i ∧ psum x i ≤ 4096000) (hr : ∀ i, -128000 ≤ rd x i ∧ rd x i ≤ 128000) (hn : 1 ≤ n) (hn2 : n ≤ 8) (hS : S.length = n + 1) (hv : ∀ p, 0 ≤ p → p ≤ (n : Int) → rd S p = cut x.length n p) : Gives (fun k => T_ref18_Fold k x S) (fun r => r.length = n ∧ ∀ p, 0 ≤ p → p < (n : Int) → rd r p = pcs x n p) := by
  refine Gives.step ?_
  simp only [T_ref18_Fold]
  refine Gives.bind (Q := fun r => r.2.length = r.1 ∧ r.1 = n ∧ ∀ p, 0 ≤ p → p < (n : Int) → rd r.2 p = pcs x n p) ?_ fun r hr => ?_
  · refine Gives.loop (fun s => 1 ≤ s.2.1 ∧ s.2.1 ≤ (n : Int) + 1 ∧ (s.1 : Int) = s.2.1 - 1 ∧ s.2.2.length = s.1 ∧ ∀ p, 0 ≤ p → p < s.2.1 - 1 → rd s.2.2 p = pcs x n p) (fun s => ((n : Int) + 1 - s.2.1).toNat) ?_ ⟨by simp only []; omega, by simp only []; omega, rfl, rfl, fun p h1 h2 => by simp only at h2; omega⟩
    intro ⟨l, i, o⟩ ⟨i0, i1, i2, i3, i4⟩
    simp only at i0 i1 i2 i3 i4
    unfold T_ref18_Fold_l2
    simp only []
    rw [hS, w64_id (x := i - 1) (by omega) (by omega)]
    refine Gives.ite (fun c => Gives.opt (at_rd (by omega) (by omega)) ?_) fun c => Gives.now ⟨i3, by simp only []; omega, fun p h1 h2 => i4 p h1 (by omega)⟩
    have k1 := cut_range (m := (x.length : Int)) (n := (n : Int)) (p := i - 1) (by omega) (by omega) (by omega) (by omega)
    have k2 := cut_range (m := (x.length : Int)) (n := (n : Int)) (p := i) (by omega) (by omega) (by omega) (by omega)
    have k3 := cut_mono (m := (x.length : Int)) (n := (n : Int)) (p := i - 1) (q := i) (by omega) (by omega) (by omega)
    have s1 := hv (i - 1) (by omega) (by omega)
    have s2 := hv i (by omega) (by omega)
    have b1 := hb (cut x.length n (i - 1)) k1.1 k1.2
    rw [s1]
    refine Gives.bind (Q := fun r => r = pcs x n (i - 1)) ?_ fun r hr => ?_
    · refine Gives.loop (fun t => cut x.length n (i - 1) ≤ t.2 ∧ t.2 ≤ cut x.length n i ∧ t.1 = psum x t.2 - psum x (cut x.length n (i - 1))) (fun t => (cut x.length n i - t.2).toNat) ?_ ⟨by simp only []; omega, by simp only []; omega, by simp only []; omega⟩
      intro ⟨a, j⟩ ⟨j0, j1, j2⟩
      simp only at j0 j1 j2
      unfold T_ref18_Fold_l1
      simp only []
      refine Gives.opt (at_rd (by omega) (by omega)) ?_
      rw [s2]
      refine Gives.ite (fun cc => Gives.opt (at_rd (by omega) (by omega)) ?_) fun cc => Gives.now ?_
      · have ex := psum_succ (x := x) (i := j) (by omega) (by omega)
        have bj := hb j (by omega) (by omega)
        have sj := hr j
        rw [w64_id (x := a + rd x j) (by omega) (by omega), w64_id (x := j + 1) (by omega) (by omega)]
        exact Gives.now ⟨⟨by simp only []; omega, by simp only []; omega, by simp only []; omega⟩, by simp only []; omega⟩
      · have : j = cut x.length n i := by omega
        subst this
        unfold pcs
        rw [j2, show i - 1 + 1 = i by omega]
    subst hr
    rw [w64_id (x := i + 1) (by omega) (by omega), drop_take_len i3]
    refine Gives.pos (by unfold LIM; omega) (Gives.now ⟨⟨by simp only []; omega, by simp only []; omega, by simp only []; omega, by simp [i3], fun p h1 h2 => ?_⟩, by simp only []; omega⟩)
    simp only at h2 ⊢
    by_cases e : p = i - 1
    · rw [rd_app_1 h1 (by omega), e]
    · rw [rd_app_l (by omega)]; exact i4 p h1 (by omega)
  · rw [drop_take_len hr.1]
    exact Gives.now ⟨by rw [hr.1]; exact hr.2.1, hr.2.2⟩
theorem f18_squaresU {d S : List Int} {m n u : Nat} (hu : 1 ≤ u) (hu2 : u ≤ 1024) (hm : m ≤ 32) (hn : 1 ≤ n) (hn2 : n ≤ 8) (hn3 : n ≤ m) (hd : d.length = n) (hS : S.length = n + 1) (hv : ∀ p, 0 ≤ p → p ≤ (n : Int) → rd S p = cut m n p) (bd : ∀ p, 0 ≤ p → p < (n : Int) → -6300000 ≤ rd d p ∧ rd d p ≤ 6300000) :
    Gives (fun k => T_ref18_Squares k d S u) (fun r => ∃ P Q : Nat, r = ((P : Int), (Q : Int)) ∧ Rep P Q (TT (rd d) (wt m n) n) (mm m n * u)) := by
  have w0 := wt_ok (p := 0) hm hn hn2 hn3 (by omega) (by omega)
  have d1 : m / n ≤ 32 := Nat.le_trans (Nat.div_le_self _ _) hm
  have tb := TT_bound (d := rd d) (w := wt m n) (n := n) fun j j0 j1 => ⟨(bd j j0 j1).1, (bd j j0 j1).2, (wt_ok hm hn hn2 hn3 j0 j1).2.1⟩
  have em : w64 (w64 (((m / n : Nat) : Int)) * w64 (w64 (((m / n : Nat) : Int)) + 1)) = ((mm m n : Nat) : Int) := by
    have p : m / n * (m / n + 1) ≤ 32 * 33 := Nat.mul_le_mul d1 (by omega)
    unfold mm
    generalize m / n = q at *
    rw [w64_id (x := (q : Int)) (by omega) (by omega), w64_id (x := (q : Int) + 1) (by omega) (by omega)]
    have e : (q : Int) * ((q : Int) + 1) = ((q * (q + 1) : Nat) : Int) := by simp
    rw [e, w64_id (by omega) (by omega)]
  refine Gives.step ?_
  simp only [T_ref18_Squares]
  rw [hS, w64_id (x := ((n + 1 : Nat) : Int) - 1) (by omega) (by omega), show ((n + 1 : Nat) : Int) - 1 = n by omega]
  refine Gives.opt (at_rd (by omega) (by omega)) (Gives.pos (by omega) ?_)
  rw [hv n (by omega) (by omega), cut_last (by omega), tdiv_nat, em, hd]
  refine Gives.bind (Q := fun r => r = ((TT (rd d) (wt m n) n : Nat) : Int)) ?_ fun r hr => ?_
  · refine Gives.loop (fun s => 0 ≤ s.2 ∧ s.2 ≤ (n : Int) ∧ s.1 = ((TT (rd d) (wt m n) s.2.toNat : Nat) : Int)) (fun s => ((n : Int) - s.2).toNat) ?_ ⟨by simp only []; omega, by simp only []; omega, rfl⟩
    intro ⟨a, i⟩ ⟨i0, i1, i2⟩
    simp only at i0 i1 i2
    unfold T_ref18_Squares_l1
    simp only []
    refine Gives.ite (fun c => Gives.opt (at_rd i0 (by omega)) ?_) fun c => Gives.now ?_
    · have q := wt_ok (p := i) hm hn hn2 hn3 i0 c
      have b := bd i i0 c
      have dd := prod_bound (a := rd d i) (b := rd d i) (A := 6300000) (B := 6300000) b.1 b.2 b.1 b.2
      have d0 := sq_nonneg (rd d i)
      have s1 := hv i i0 (by omega)
      have s2 := hv (i + 1) (by omega) (by omega)
      rw [w64_id (x := i + 1) (by omega) (by omega)]
      refine Gives.opt (at_rd (by omega) (by omega)) (Gives.opt (at_rd i0 (by omega)) ?_)
      rw [s1, s2, w64_id (x := cut m n (i + 1) - cut m n i) (by omega) (by omega)]
      have ew : ((mm m n : Nat) : Int).tdiv (cut m n (i + 1) - cut m n i) = ((wt m n i : Nat) : Int) := by
        obtain ⟨l, hl⟩ : ∃ l : Nat, cut m n (i + 1) - cut m n i = l := ⟨(cut m n (i + 1) - cut m n i).toNat, by omega⟩
        unfold wt
        rw [hl, tdiv_nat, Int.toNat_natCast]
      have em' : ((mm m n : Nat) : Int) = w64 ((mm m n : Nat) : Int) := (w64_id (by omega) (by omega)).symm
      have w33 := q.2.1
      have tw : rd d i * rd d i * ((wt m n i : Nat) : Int) = (((rd d i * rd d i).toNat * wt m n i : Nat) : Int) := by
        rw [Int.natCast_mul, Int.toNat_of_nonneg d0]
      have tbi := TT_bound (d := rd d) (w := wt m n) (n := i.toNat + 1) fun j j0 j1 => ⟨(bd j j0 (by omega)).1, (bd j j0 (by omega)).2, (wt_ok hm hn hn2 hn3 j0 (by omega)).2.1⟩
      rw [TT, Int.toNat_of_nonneg i0] at tbi
      refine Gives.pos (by omega) ?_
      rw [em, ew, w64_id (x := rd d i * rd d i) (by omega) (by omega), w64_id (x := ((wt m n i : Nat) : Int)) (by omega) (by omega), tw, w64_id (x := (((rd d i * rd d i).toNat * wt m n i : Nat) : Int)) (by omega) (by omega), w64_id (x := a + _) (by omega) (by omega)]
      refine Gives.now ⟨⟨by simp only []; omega, by simp only []; omega, ?_⟩, by simp only []; omega⟩
      simp only []
      rw [show (i + 1).toNat = i.toNat + 1 by omega, TT, Int.toNat_of_nonneg i0, i2]
      omega
    · have : i.toNat = n := by omega
      rw [i2, this]
  subst hr
  have mu : mm m n * u ≤ 1056 * 1024 := Nat.mul_le_mul (by omega) hu2
  have mu0 : 0 < mm m n * u := Nat.mul_pos (by omega) (by omega)
  have eu : ((mm m n : Nat) : Int) * (u : Int) = ((mm m n * u : Nat) : Int) := by simp
  rw [eu, w64_id (x := ((mm m n * u : Nat) : Int)) (by omega) (by omega)]
  refine Gives.bind (r01_make (m := TT (rd d) (wt m n) n) (n := mm m n * u) (by omega) (by omega) (by omega)) fun r hr => ?_
  obtain ⟨P, Q, rfl, R⟩ := hr
  exact Gives.now ⟨P, Q, rfl, R⟩
/-- The centred samples. -/
def Cent (x c : List Int) : Prop := c.length = x.length ∧ ∀ i, 0 ≤ i → i < (x.length : Int) → rd c i = (x.length : Int) * rd x i - x.sum
theorem cent_psum {x c : List Int} (h : Cent x c) : ∀ n : Nat, n ≤ x.length → psum c n = (x.length : Int) * psum x n - n * x.sum
  | 0, _ => by
    have a := psum_zero c
    have b := psum_zero x
    simp only [Int.natCast_zero] at *
    rw [a, b]; simp
  | n + 1, hn => by
    have ih := cent_psum h n (by omega)
    have e1 := psum_succ (x := c) (i := n) (by omega) (by rw [h.1]; omega)
    have e2 := psum_succ (x := x) (i := n) (by omega) (by omega)
    have e3 := h.2 n (by omega) (by omega)
    rw [Int.natCast_add, Int.natCast_one, e1, e2, e3, ih]
    grind
theorem cent_pcs {x c : List Int} {n p : Int} (h : Cent x c) (hn : 1 ≤ n) (h0 : 0 ≤ p) (h1 : p < n) : pcs c n p = pcc x n p := by
  have k1 := cut_range (m := (x.length : Int)) hn (by omega) h0 (by omega)
  have k2 := cut_range (m := (x.length : Int)) (p := p + 1) hn (by omega) (by omega) (by omega)
  have q : ∀ i : Int, 0 ≤ i → i ≤ (x.length : Int) → psum c i = (x.length : Int) * psum x i - i * x.sum := fun i h0 h1 => by
    have := cent_psum h i.toNat (by omega)
    rwa [Int.toNat_of_nonneg h0] at this
  unfold pcc pcs
  rw [h.1, q _ k1.1 k1.2, q _ k2.1 k2.2]
  grind
theorem cent_bd {x c : List Int} (hx : Win x) (h : Cent x c) : (∀ i, 0 ≤ i → i ≤ (c.length : Int) → -4096000 ≤ psum c i ∧ psum c i ≤ 4096000) ∧ ∀ i, -128000 ≤ rd c i ∧ rd c i ≤ 128000 := by
  have x2 := hx.hi
  have b := pc_bounds hx (i := x.length) (by omega) (by omega)
  rw [psum_all] at b
  refine ⟨fun i h0 h1 => ?_, fun i => ?_⟩
  · have := cent_psum h i.toNat (by have := h.1; omega)
    rw [Int.toNat_of_nonneg h0] at this
    have p := pc_bounds hx (i := i) h0 (by have := h.1; omega)
    have e1 := prod_bound (a := (x.length : Int)) (b := psum x i) (A := 32) (B := 32000) (by omega) (by omega) (by omega) (by omega)
    have e2 := prod_bound (a := i) (b := x.sum) (A := 32) (B := 32000) (by omega) (by have := h.1; omega) (by omega) (by omega)
    omega
  · by_cases k : 0 ≤ i ∧ i < (x.length : Int)
    · rw [h.2 i k.1 k.2]
      have s := hx.smp.rd i
      have e1 := prod_bound (a := (x.length : Int)) (b := rd x i) (A := 32) (B := 1000) (by omega) (by omega) (by omega) (by omega)
      omega
    · by_cases k2 : i < 0
      · have e0 : rd c i = rd c 0 := by unfold rd; rw [show i.toNat = 0 by omega]; rfl
        have x1 := hx.lo
        rw [e0, h.2 0 (by omega) (by omega)]
        have s := hx.smp.rd 0
        have e1 := prod_bound (a := (x.length : Int)) (b := rd x 0) (A := 32) (B := 1000) (by omega) (by omega) (by omega) (by omega)
        omega
      · unfold rd
        rw [List.getD_eq_getElem?_getD, List.getElem?_eq_none (by have := h.1; omega)]
        simp
theorem rf_centred {x : List Int} (hx : Win x) : Gives (fun k => T_ref13_Centred k x) (fun r => r.2 = 0 ∧ Cent x r.1) := by
  have x1 := hx.lo
  have x2 := hx.hi
  have bs := pc_bounds hx (i := x.length) (by omega) (by omega)
  rw [psum_all] at bs
  refine Gives.step ?_
  simp only [T_ref13_Centred]
  refine Gives.bind (r12_windowG (x := x) (by omega)) fun e he => ?_
  rw [errM_win hx hx (by omega) (by omega)] at he
  subst he
  refine Gives.neg (by simp) (Gives.bind (Q := fun r => r = x.sum) ?_ fun s hs => Gives.bind (Q := fun r => r.2.length = r.1 ∧ r.1 = x.length ∧ ∀ p, 0 ≤ p → p < (x.length : Int) → rd r.2 p = (x.length : Int) * rd x p - x.sum) ?_ fun r hr => ?_)
  · refine Gives.loop (fun s => 0 ≤ s.2 ∧ s.2 ≤ (x.length : Int) ∧ s.1 = psum x s.2) (fun s => ((x.length : Int) - s.2).toNat) ?_ ⟨by simp only []; omega, by simp only []; omega, by simp only [psum_zero]⟩
    intro ⟨a, i⟩ ⟨i0, i1, i2⟩
    simp only at i0 i1 i2
    unfold T_ref13_Centred_l1
    simp only []
    refine Gives.ite (fun c => Gives.opt (at_rd i0 c) ?_) fun c => Gives.now ?_
    · have ex := psum_succ (x := x) (i := i) (by omega) (by omega)
      have bj := pc_bounds hx (i := i) (by omega) (by omega)
      have sj := hx.smp.rd i
      rw [w64_id (x := a + rd x i) (by omega) (by omega), w64_id (x := i + 1) (by omega) (by omega)]
      exact Gives.now ⟨⟨by simp only []; omega, by simp only []; omega, by simp only []; omega⟩, by simp only []; omega⟩
    · rw [i2, ← psum_all (x := x), show i = (x.length : Int) by omega]
  · subst hs
    refine Gives.loop (fun s => 0 ≤ s.2.1 ∧ s.2.1 ≤ (x.length : Int) ∧ (s.1 : Int) = s.2.1 ∧ s.2.2.length = s.1 ∧ ∀ p, 0 ≤ p → p < s.2.1 → rd s.2.2 p = (x.length : Int) * rd x p - x.sum) (fun s => ((x.length : Int) - s.2.1).toNat) ?_ ⟨by simp only []; omega, by simp only []; omega, rfl, rfl, fun p h1 h2 => by simp only at h2; omega⟩
    intro ⟨l, i, o⟩ ⟨i0, i1, i2, i3, i4⟩
    simp only at i0 i1 i2 i3 i4
    unfold T_ref13_Centred_l2
    simp only []
    refine Gives.ite (fun c => Gives.opt (at_rd i0 c) (Gives.pos (by unfold LIM; omega) ?_)) fun c => Gives.now ⟨i3, by simp only []; omega, fun p h1 h2 => i4 p h1 (by omega)⟩
    have sj := hx.smp.rd i
    have e1 := prod_bound (a := (x.length : Int)) (b := rd x i) (A := 32) (B := 1000) (by omega) (by omega) (by omega) (by omega)
    rw [w64_id (x := i + 1) (by omega) (by omega), w64_id (x := (x.length : Int) * rd x i) (by omega) (by omega), w64_id (x := (x.length : Int) * rd x i - x.sum) (by omega) (by omega), drop_take_len i3]
    refine Gives.now ⟨⟨by simp only []; omega, by simp only []; omega, by simp only []; omega, by simp [i3], fun p h1 h2 => ?_⟩, by simp only []; omega⟩
    simp only at h2 ⊢
    by_cases e : p = i
    · subst e; rw [rd_app_1 h1 (by omega)]
    · rw [rd_app_l (by omega)]; exact i4 p h1 (by omega)
  · rw [drop_take_len hr.1]
    exact Gives.now ⟨rfl, by rw [hr.1]; exact hr.2.1, hr.2.2⟩
/-- The error of a window's number of pieces. -/
def badN (m n : Int) : Prop := ¬ (1 ≤ n ∧ n ≤ 8 ∧ n ≤ m)
theorem f18_startsG {m n : Int} (h : m < 2 ∨ 32 < m ∨ badN m n) : Gives (fun k => T_ref18_Starts k m n) (fun r => r = ([], if m < 2 ∨ 32 < m then 8 else 1)) := by
  refine Gives.step ?_
  simp only [T_ref18_Starts]
  refine Gives.ite (fun c => Gives.now ?_) fun c => Gives.pos ?_ (Gives.now ?_)
  · rw [if_pos (by simpa using c)]
  · unfold badN at h; simp at c ⊢; omega
  · rw [if_neg (by simpa using c)]
theorem f18_centred {x : List Int} {n : Nat} (hx : Win x) (hn : 1 ≤ n) (hn2 : n ≤ 8) (hn3 : n ≤ x.length) : Gives (fun k => T_ref18_Centred k x n) (fun r => r.2 = 0 ∧ r.1.length = n ∧ ∀ p, 0 ≤ p → p < (n : Int) → rd r.1 p = pcc x n p) := by
  have x1 := hx.lo
  have x2 := hx.hi
  refine Gives.step ?_
  simp only [T_ref18_Centred]
  refine Gives.bind (rf_centred hx) fun c hc => Gives.neg (by simp [hc.1]) (Gives.bind (f18_starts (m := x.length) (n := n) x1 x2 hn hn2 hn3) fun S hS => Gives.neg (by simp [hS.1]) ?_)
  obtain ⟨c1, c2⟩ := hc
  have b := cent_bd hx c2
  refine Gives.bind (f18_foldB (by rw [c2.1]; exact x2) b.1 b.2 hn hn2 hS.2.1 (by rw [c2.1]; exact hS.2.2)) fun r hr => Gives.now ⟨rfl, hr.1, fun p h0 h1 => by rw [hr.2 p h0 h1, cent_pcs c2 (by omega) h0 h1]⟩
theorem f18_sums {x : List Int} {n : Nat} (hx : Win x) (hn : 1 ≤ n) (hn2 : n ≤ 8) (hn3 : n ≤ x.length) : Gives (fun k => T_ref18_Sums k x n) (fun r => r.2 = 0 ∧ r.1.length = n ∧ ∀ p, 0 ≤ p → p < (n : Int) → rd r.1 p = pcs x n p) := by
  have x1 := hx.lo
  have x2 := hx.hi
  refine Gives.step ?_
  simp only [T_ref18_Sums]
  refine Gives.bind (r12_windowG (x := x) (by omega)) fun e he => ?_
  rw [errM_win hx hx (by omega) (by omega)] at he
  subst he
  refine Gives.neg (by simp) (Gives.bind (f18_starts (m := x.length) (n := n) x1 x2 hn hn2 hn3) fun S hS => Gives.neg (by simp [hS.1]) ?_)
  exact Gives.bind (f18_fold hx hn hn2 hS.2.1 hS.2.2) fun r hr => Gives.now ⟨rfl, hr.1, hr.2⟩
theorem f18_shifted {x y : List Int} {n : Nat} (hx : Win x) (hy : Win y) (hl : x.length = y.length) (hn : 1 ≤ n) (hn2 : n ≤ 8) (hn3 : n ≤ x.length) :
    Gives (fun k => T_ref18_Shifted k x y n) (fun r => ∃ P Q : Nat, r = ((P : Int), (Q : Int), 0) ∧ Rep P Q (TT (fun p => pcc x n p - pcc y n p) (wt x.length n) n) (mm x.length n * (x.length * x.length))) := by
  have x1 := hx.lo
  have x2 := hx.hi
  have xx : x.length * x.length ≤ 32 * 32 := Nat.mul_le_mul x2 x2
  have xx0 : 2 * 2 ≤ x.length * x.length := Nat.mul_le_mul x1 x1
  have pd : ∀ p, 0 ≤ p → p < (n : Int) → -6300000 ≤ pcc x n p - pcc y n p ∧ pcc x n p - pcc y n p ≤ 6300000 := fun p p0 p1 => by
    have px := pcc_bound hx (n := (n : Int)) (by omega) p0 p1
    have py := pcc_bound hy (n := (n : Int)) (by omega) p0 p1
    omega
  have eu : w64 ((x.length : Int) * (x.length : Int)) = ((x.length * x.length : Nat) : Int) := by
    have e : (x.length : Int) * (x.length : Int) = ((x.length * x.length : Nat) : Int) := by simp
    rw [e, w64_id (by omega) (by omega)]
  refine Gives.step ?_
  simp only [T_ref18_Shifted]
  rw [eu]
  refine Gives.bind (r12_two hx hy hl) fun v hv => Gives.neg (by simp [hv]) (Gives.bind (f18_starts (m := x.length) (n := n) x1 x2 hn hn2 hn3) fun S hS => Gives.neg (by simp [hS.1]) ?_)
  obtain ⟨S1, S2, S3⟩ := hS
  refine Gives.bind (f18_centred hx hn hn2 hn3) fun a ha => Gives.bind (f18_centred hy hn hn2 (by omega)) fun b hb => ?_
  obtain ⟨_, a1, a2⟩ := ha
  obtain ⟨_, b1, b2⟩ := hb
  refine Gives.bind (f18_diff hn2 a1 b1 fun p p0 p1 => by rw [a2 p p0 p1, b2 p p0 p1]; have := pd p p0 p1; omega) fun d hd => ?_
  obtain ⟨d1, d2⟩ := hd
  have dv : ∀ p, 0 ≤ p → p < (n : Int) → rd d p = pcc x n p - pcc y n p := fun p p0 p1 => by rw [d2 p p0 p1, a2 p p0 p1, b2 p p0 p1]
  refine Gives.bind (f18_squaresU (m := x.length) (u := x.length * x.length) (by omega) (by omega) x2 hn hn2 hn3 d1 S2 S3 fun p p0 p1 => by rw [dv p p0 p1]; exact pd p p0 p1) fun r hr => ?_
  obtain ⟨P, Q, rfl, R⟩ := hr
  refine Gives.now ⟨P, Q, rfl, ?_⟩
  rw [TT_congr (d' := fun p => pcc x n p - pcc y n p) fun p p0 p1 => by rw [dv p p0 p1]] at R
  exact R

/-! Chapter 18 for windows of any kind. -/
/-- The first error of a window and a number of pieces. -/
def errN (x : List Int) (n : Int) : Int := if errM x x 0 = 0 then if 1 ≤ n ∧ n ≤ 8 ∧ n ≤ (x.length : Int) then 0 else 1 else errM x x 0
theorem errN_zero {x : List Int} {n : Int} (h : errN x n = 0) : Win x ∧ 1 ≤ n ∧ n ≤ 8 ∧ n ≤ (x.length : Int) := by
  unfold errN at h
  split at h
  · rename_i h1
    split at h
    · rename_i h2
      exact ⟨(errM_zero h1).1, h2⟩
    · cases h
  · rename_i h1
    exact absurd h h1
theorem pc_checkG {x : List Int} {n : Int} (hl : x.length ≤ 1000) : Gives (fun k => T_pieces_check k x n) (fun r => r = errN x n) := by
  refine Gives.step ?_
  simp only [T_pieces_check]
  refine Gives.bind (eu_distanceG hl hl) fun e he => Gives.ite (fun c => Gives.now ?_) fun c => Gives.bind (pc_number _ _) fun _ _ => Gives.ite (fun d => Gives.now ?_) fun d => Gives.now ?_
  · rw [he] at c ⊢
    unfold errN
    rw [if_neg (by simpa using c)]
  · rw [he] at c
    unfold errN
    rw [if_pos (by simpa using c), if_neg (by simp at d; omega)]
  · rw [he] at c
    unfold errN
    rw [if_pos (by simpa using c), if_pos (by simp at d; omega)]
theorem pc_sumsG {x : List Int} {n : Int} (hl : x.length ≤ 1000) (h : errN x n ≠ 0) : Gives (fun k => T_pieces_Sums k x n) (fun r => r = ([], errN x n)) := by
  refine Gives.step ?_
  simp only [T_pieces_Sums]
  refine Gives.bind (pc_checkG hl) fun e he => ?_
  subst he
  exact Gives.pos (by simpa using h) (Gives.now rfl)
theorem pc_centredG {x : List Int} {n : Int} (hl : x.length ≤ 1000) (h : errN x n ≠ 0) : Gives (fun k => T_pieces_Centred k x n) (fun r => r = ([], errN x n)) := by
  refine Gives.step ?_
  simp only [T_pieces_Centred]
  refine Gives.bind (pc_checkG hl) fun e he => ?_
  subst he
  exact Gives.pos (by simpa using h) (Gives.now rfl)
theorem f18_sumsG {x : List Int} {n : Int} (hl : x.length ≤ 1000) (h : errN x n ≠ 0) : Gives (fun k => T_ref18_Sums k x n) (fun r => r = ([], errN x n)) := by
  refine Gives.step ?_
  simp only [T_ref18_Sums]
  refine Gives.bind (r12_windowG hl) fun e he => ?_
  subst he
  refine Gives.ite (fun c => Gives.now ?_) fun c => ?_
  · unfold errN
    rw [if_neg (by simpa using c)]
  · have e0 : errM x x 0 = 0 := by simpa using c
    have w := (errM_zero e0).1
    have w1 := w.lo
    have w2 := w.hi
    unfold errN at h ⊢
    rw [if_pos e0] at h ⊢
    have hb : ¬ (1 ≤ n ∧ n ≤ 8 ∧ n ≤ (x.length : Int)) := fun hc => h (if_pos hc)
    rw [if_neg hb]
    refine Gives.bind (f18_startsG (m := (x.length : Int)) (n := n) (.inr (.inr hb))) fun r hr => ?_
    rw [if_neg (by omega)] at hr
    subst hr
    exact Gives.pos (by simp) (Gives.now rfl)
theorem f18_centredG {x : List Int} {n : Int} (hl : x.length ≤ 1000) (h : errN x n ≠ 0) : Gives (fun k => T_ref18_Centred k x n) (fun r => r = ([], errN x n)) := by
  refine Gives.step ?_
  simp only [T_ref18_Centred]
  by_cases e0 : errM x x 0 = 0
  · have w := (errM_zero e0).1
    have w1 := w.lo
    have w2 := w.hi
    unfold errN at h ⊢
    rw [if_pos e0] at h ⊢
    have hb : ¬ (1 ≤ n ∧ n ≤ 8 ∧ n ≤ (x.length : Int)) := fun hc => h (if_pos hc)
    rw [if_neg hb]
    refine Gives.bind (rf_centred w) fun c hc => Gives.neg (by simp [hc.1]) (Gives.bind (f18_startsG (m := (x.length : Int)) (n := n) (.inr (.inr hb))) fun r hr => ?_)
    rw [if_neg (by omega)] at hr
    subst hr
    exact Gives.pos (by simp) (Gives.now rfl)
  · refine Gives.bind (Q := fun r => r = ([], errM x x 0)) ?_ fun r hr => ?_
    · refine Gives.step ?_
      simp only [T_ref13_Centred]
      refine Gives.bind (r12_windowG hl) fun e he => ?_
      subst he
      exact Gives.pos (by simpa using e0) (Gives.now rfl)
    · subst hr
      refine Gives.pos (by simpa using e0) (Gives.now ?_)
      unfold errN
      rw [if_neg e0]
/-- The first error of two windows and a number of pieces. -/
def errL (x y : List Int) (n : Int) : Int := if errM x y 0 = 0 then if 1 ≤ n ∧ n ≤ 8 ∧ n ≤ (x.length : Int) then 0 else 1 else errM x y 0
theorem errL_zero {x y : List Int} {n : Int} (h : errL x y n = 0) : Win x ∧ Win y ∧ x.length = y.length ∧ 1 ≤ n ∧ n ≤ 8 ∧ n ≤ (x.length : Int) := by
  unfold errL at h
  split at h
  · rename_i h1
    split at h
    · rename_i h2
      obtain ⟨a, b, c, d⟩ := errM_zero h1
      exact ⟨a, b, by omega, h2⟩
    · cases h
  · rename_i h1
    exact absurd h h1
theorem pc_lowerG {x y : List Int} {n : Int} (hx : x.length ≤ 1000) (hy : y.length ≤ 1000) (h : errL x y n ≠ 0) : Gives (fun k => T_pieces_Lower k x y n) (fun r => r = (0, 0, errL x y n)) := by
  refine Gives.step ?_
  simp only [T_pieces_Lower]
  refine Gives.bind (Q := fun r => r = (0, 0, errL x y n)) ?_ fun r hr => by subst hr; exact Gives.now rfl
  refine Gives.step ?_
  simp only [T_pieces_squares]
  refine Gives.bind (eu_distanceG hx hy) fun e he => ?_
  by_cases e0 : errM x y 0 = 0
  · have e1 := (errM_self e0).1
    have hb : ¬ (1 ≤ n ∧ n ≤ 8 ∧ n ≤ (x.length : Int)) := fun hc => h (by unfold errL; rw [if_pos e0, if_pos hc])
    have en : errN x n = 1 := by unfold errN; rw [if_pos e1, if_neg hb]
    refine Gives.neg (by simp [he, e0]) (Gives.bind (pc_sumsG hx (by omega)) fun r hr => ?_)
    subst hr
    refine Gives.pos (by simp [en]) (Gives.now ?_)
    unfold errL
    rw [if_pos e0, if_neg hb, en]
  · refine Gives.pos (by simp [he, e0]) (Gives.now ?_)
    unfold errL
    rw [if_neg e0, he]
theorem pc_shiftedG {x y : List Int} {n : Int} (hx : x.length ≤ 1000) (hy : y.length ≤ 1000) (h : errL x y n ≠ 0) : Gives (fun k => T_pieces_Shifted k x y n) (fun r => r = (0, 0, errL x y n)) := by
  refine Gives.step ?_
  simp only [T_pieces_Shifted]
  refine Gives.bind (Q := fun r => r = (0, 0, errL x y n)) ?_ fun r hr => by subst hr; exact Gives.now rfl
  refine Gives.step ?_
  simp only [T_pieces_squares_v2]
  refine Gives.bind (eu_distanceG hx hy) fun e he => ?_
  by_cases e0 : errM x y 0 = 0
  · have e1 := (errM_self e0).1
    have hb : ¬ (1 ≤ n ∧ n ≤ 8 ∧ n ≤ (x.length : Int)) := fun hc => h (by unfold errL; rw [if_pos e0, if_pos hc])
    have en : errN x n = 1 := by unfold errN; rw [if_pos e1, if_neg hb]
    refine Gives.neg (by simp [he, e0]) (Gives.bind (pc_centredG hx (by omega)) fun r hr => ?_)
    subst hr
    refine Gives.pos (by simp [en]) (Gives.now ?_)
    unfold errL
    rw [if_pos e0, if_neg hb, en]
  · refine Gives.pos (by simp [he, e0]) (Gives.now ?_)
    unfold errL
    rw [if_neg e0, he]
theorem f18_lowerG {x y : List Int} {n : Int} (hx : x.length ≤ 1000) (hy : y.length ≤ 1000) (h : errL x y n ≠ 0) : Gives (fun k => T_ref18_Lower k x y n) (fun r => r = (0, 0, errL x y n)) := by
  refine Gives.step ?_
  simp only [T_ref18_Lower]
  refine Gives.bind (r12_twoG (m := 0) hx hy) fun e he => ?_
  subst he
  by_cases e0 : errM x y 0 = 0
  · have hb : ¬ (1 ≤ n ∧ n ≤ 8 ∧ n ≤ (x.length : Int)) := fun hc => h (by unfold errL; rw [if_pos e0, if_pos hc])
    have w := (errM_zero e0).1
    have w1 := w.lo
    have w2 := w.hi
    refine Gives.neg (by simp [e0]) (Gives.bind (f18_startsG (m := (x.length : Int)) (n := n) (.inr (.inr hb))) fun r hr => ?_)
    rw [if_neg (by omega)] at hr
    subst hr
    refine Gives.pos (by simp) (Gives.now ?_)
    unfold errL
    rw [if_pos e0, if_neg hb]
  · refine Gives.pos (by simp [e0]) (Gives.now ?_)
    unfold errL
    rw [if_neg e0]
theorem f18_shiftedG {x y : List Int} {n : Int} (hx : x.length ≤ 1000) (hy : y.length ≤ 1000) (h : errL x y n ≠ 0) : Gives (fun k => T_ref18_Shifted k x y n) (fun r => r = (0, 0, errL x y n)) := by
  refine Gives.step ?_
  simp only [T_ref18_Shifted]
  refine Gives.bind (r12_twoG (m := 0) hx hy) fun e he => ?_
  subst he
  by_cases e0 : errM x y 0 = 0
  · have hb : ¬ (1 ≤ n ∧ n ≤ 8 ∧ n ≤ (x.length : Int)) := fun hc => h (by unfold errL; rw [if_pos e0, if_pos hc])
    have w := (errM_zero e0).1
    have w1 := w.lo
    have w2 := w.hi
    refine Gives.neg (by simp [e0]) (Gives.bind (f18_startsG (m := (x.length : Int)) (n := n) (.inr (.inr hb))) fun r hr => ?_)
    rw [if_neg (by omega)] at hr
    subst hr
    refine Gives.pos (by simp) (Gives.now ?_)
    unfold errL
    rw [if_pos e0, if_neg hb]
  · refine Gives.pos (by simp [e0]) (Gives.now ?_)
    unfold errL
    rw [if_neg e0]

/-! A list changed at one place, or in its length. -/
theorem src_bent {L : List Int} {p : Int} (h : SrcOk L p) {xs : List Int} (hl : xs.length ≤ 40) : Gives (fun k => T_keep_Src_Bent k xs L p) (fun r => r.1.length ≤ 41 ∧ SrcOk L r.2) := by
  refine Gives.step ?_
  simp only [T_keep_Src_Bent]
  have e1 : (([] : List Int).drop 0).take 0 ++ xs = xs := by simp
  rw [e1]
  refine Gives.pos (by unfold LIM; omega) (Gives.bind (src_n h 4 (by omega) (by omega)) fun a ha => Gives.ite (fun _ => ?_) fun _ => ?_)
  · refine Gives.bind (src_n ha.2.2 2 (by omega) (by omega)) fun b hb => ?_
    have q : 0 ≤ imin (((0 + xs.length) : Nat) : Int) b.1 ∧ imin (((0 + xs.length) : Nat) : Int) b.1 ≤ ((xs.length : Nat) : Int) := by unfold imin; split <;> omega
    refine Gives.pos (by omega) (Gives.now ⟨?_, hb.2.2⟩)
    simp; omega
  · refine Gives.bind (Q := fun r => r.2.2.length ≤ 41 ∧ SrcOk L r.2.1) ?_ fun r hr => Gives.now ⟨by simp; omega, hr.2⟩
    refine Gives.ite (fun _ => ?_) fun _ => Gives.ite (fun c => ?_) fun _ => Gives.now ⟨by simp only []; omega, ha.2.2⟩
    · refine Gives.bind (Q := fun r => r.2.2.length ≤ 41 ∧ SrcOk L r.2.1) ?_ fun r hr => Gives.now hr
      refine Gives.loop (fun s => s.2.2.length = s.1 ∧ s.1 ≤ 41 ∧ SrcOk L s.2.1) (fun s => 41 - s.1) ?_ ⟨by simp, by simp only []; omega, ha.2.2⟩
      intro ⟨n, q, o⟩ ⟨i1, i2, i3⟩
      simp only at i1 i2 i3
      unfold T_keep_Src_Bent_l2
      simp only []
      refine Gives.ite (fun c => Gives.bind (src_n i3 9 (by omega) (by omega)) fun b hb => Gives.pos (by unfold LIM; omega) (Gives.now ⟨⟨?_, ?_, hb.2.2⟩, ?_⟩)) fun c => Gives.now ⟨by simp only []; omega, i3⟩
      · rw [drop_take_len i1]; simp [i1]
      · simp only []; omega
      · simp only []; omega
    · refine Gives.bind (src_n ha.2.2 _ (by omega) (by omega)) fun b hb => Gives.bind (src_pick hb.2.2 _ (by simp) (by simp)) fun c hc => Gives.pos (by omega) (Gives.now ⟨?_, hc.2⟩)
      simp; omega

-- All functions of chapter 18 return what its reference returns, errors included: PiecesAnswers returns true for all lists and numbers.
theorem awake_k (k : Nat) : T_law18_awake (k + 40) = some true := by kernel_rfl
theorem awake_ok : Gives (fun k => T_law18_awake k) (· = true) := ⟨true, ⟨40, fun k hk => by
  obtain ⟨m, rfl⟩ : ∃ m, k = m + 40 := ⟨k - 40, by omega⟩
  exact awake_k m⟩, rfl⟩
theorem src_count {L : List Int} {p : Int} (h : SrcOk L p) {m : Int} (hm : 1 ≤ m) (hm2 : m ≤ 1000) : Gives (fun k => T_law18_count k m L p) (fun r => 1 ≤ r.1 ∧ r.1 ≤ 8 ∧ r.1 ≤ m ∧ SrcOk L r.2) := by
  have e : 1 ≤ imin 8 m ∧ imin 8 m ≤ 8 ∧ imin 8 m ≤ m := by unfold imin; split <;> omega
  refine Gives.step ?_
  simp only [T_law18_count]
  exact Gives.bind (src_range h 1 (imin 8 m) (by omega) (by omega) (by omega)) fun a ha => Gives.now ⟨ha.1, by simp only []; omega, by simp only []; omega, ha.2.2⟩
/-- Two functions answer alike. -/
def Agree {α : Type} (f g : Nat → Option α) (Q : α → Prop) : Prop := ∃ v, Gives f (· = v) ∧ Gives g (· = v) ∧ Q v
theorem Agree.both {α : Type} {f g : Nat → Option α} {Q P P' : α → Prop} (h : Gives f P) (k : Gives g P') (e : ∀ a b, P a → P' b → a = b) (q : ∀ a, P a → Q a) : Agree f g Q := by
  obtain ⟨a, ha, pa⟩ := h.get
  obtain ⟨b, hb, pb⟩ := k.get
  have := e a b pa pb
  subst this
  exact ⟨a, ha, hb, q a pa⟩
theorem rows_eq {a b : List Int × Int} {n : Int} {F : Int → Int} (h1 : a.2 = 0) (h2 : (a.1.length : Int) = n) (h3 : ∀ p, 0 ≤ p → p < n → rd a.1 p = F p) (k1 : b.2 = 0) (k2 : (b.1.length : Int) = n) (k3 : ∀ p, 0 ≤ p → p < n → rd b.1 p = F p) : a = b := by
  have : a.1 = b.1 := ext_rd (by omega) fun p h0 h1 => by rw [h3 p h0 (by omega), k3 p h0 (by omega)]
  exact Prod.ext this (by rw [h1, k1])
theorem ag_sums {x : List Int} {n : Int} (hl : x.length ≤ 1000) : Agree (fun k => T_pieces_Sums k x n) (fun k => T_ref18_Sums k x n) (fun v => v.1.length ≤ 1000) := by
  by_cases h : errN x n = 0
  · obtain ⟨w, n1, n2, n3⟩ := errN_zero h
    obtain ⟨m, rfl⟩ : ∃ m : Nat, n = m := ⟨n.toNat, by omega⟩
    exact Agree.both (pc_sums w n1 n2 n3) (f18_sums w (by omega) (by omega) (by omega)) (fun a b ⟨a1, a2, a3⟩ ⟨b1, b2, b3⟩ => rows_eq (F := fun p => pcs x m p) a1 a2 a3 b1 (by omega) b3) fun a ⟨a1, a2, a3⟩ => by omega
  · exact Agree.both (pc_sumsG hl h) (f18_sumsG hl h) (fun a b h k => by rw [h, k]) fun a h => by rw [h]; simp
theorem ag_centred {x : List Int} {n : Int} (hl : x.length ≤ 1000) : Agree (fun k => T_pieces_Centred k x n) (fun k => T_ref18_Centred k x n) (fun v => v.1.length ≤ 1000) := by
  by_cases h : errN x n = 0
  · obtain ⟨w, n1, n2, n3⟩ := errN_zero h
    obtain ⟨m, rfl⟩ : ∃ m : Nat, n = m := ⟨n.toNat, by omega⟩
    exact Agree.both (pc_centred w n1 n2 n3) (f18_centred w (by omega) (by omega) (by omega)) (fun a b ⟨a1, a2, a3⟩ ⟨b1, b2, b3⟩ => rows_eq (F := fun p => pcc x m p) a1 a2 a3 b1 (by omega) b3) fun a ⟨a1, a2, a3⟩ => by omega
  · exact Agree.both (pc_centredG hl h) (f18_centredG hl h) (fun a b h k => by rw [h, k]) fun a h => by rw [h]; simp
theorem ag_lower {x y : List Int} {n : Int} (hx : x.length ≤ 1000) (hy : y.length ≤ 1000) : Agree (fun k => T_pieces_Lower k x y n) (fun k => T_ref18_Lower k x y n) (fun _ => True) := by
  by_cases h : errL x y n = 0
  · obtain ⟨w, w', e, n1, n2, n3⟩ := errL_zero h
    obtain ⟨m, rfl⟩ : ∃ m : Nat, n = m := ⟨n.toNat, by omega⟩
    have m0 := wt_ok (m := x.length) (n := m) (p := 0) w.hi (by omega) (by omega) (by omega) (by omega) (by omega)
    refine Agree.both (pc_lower w w' e (by omega) (by omega) (by omega)) (f18_lower w w' e (by omega) (by omega) (by omega)) (fun a b ⟨A, A', ea, ra⟩ ⟨B, B', eb, rb⟩ => ?_) fun _ _ => trivial
    rw [Nat.one_mul] at ra
    obtain ⟨e1, e2⟩ := ra.uniq rb m0.2.2.2.2.1
    rw [ea, eb, e1, e2]
  · exact Agree.both (pc_lowerG hx hy h) (f18_lowerG hx hy h) (fun a b h k => by rw [h, k]) fun _ _ => trivial
theorem ag_shifted {x y : List Int} {n : Int} (hx : x.length ≤ 1000) (hy : y.length ≤ 1000) : Agree (fun k => T_pieces_Shifted k x y n) (fun k => T_ref18_Shifted k x y n) (fun _ => True) := by
  by_cases h : errL x y n = 0
  · obtain ⟨w, w', e, n1, n2, n3⟩ := errL_zero h
    obtain ⟨m, rfl⟩ : ∃ m : Nat, n = m := ⟨n.toNat, by omega⟩
    have m0 := wt_ok (m := x.length) (n := m) (p := 0) w.hi (by omega) (by omega) (by omega) (by omega) (by omega)
    refine Agree.both (pc_shifted w w' e (by omega) (by omega) (by omega)) (f18_shifted w w' e (by omega) (by omega) (by omega)) (fun a b ⟨A, A', ea, ra⟩ ⟨B, B', eb, rb⟩ => ?_) fun _ _ => trivial
    rw [Nat.mul_comm] at rb
    have xx0 : 2 * 2 ≤ x.length * x.length := Nat.mul_le_mul w.lo w.lo
    obtain ⟨e1, e2⟩ := ra.uniq rb (Nat.mul_pos (by omega) m0.2.2.2.2.1)
    rw [ea, eb, e1, e2]
  · exact Agree.both (pc_shiftedG hx hy h) (f18_shiftedG hx hy h) (fun a b h k => by rw [h, k]) fun _ _ => trivial
theorem ag_starts {m n : Int} : Agree (fun k => T_pieces_Starts k m n) (fun k => T_ref18_Starts k m n) (fun v => v.1.length ≤ 1000) := by
  by_cases h : m < 2 ∨ 32 < m ∨ badN m n
  · refine Agree.both (P := fun r => r = ([], if m < 2 ∨ 32 < m then 8 else 1)) ?_ (f18_startsG h) (fun a b h k => by rw [h, k]) fun a h => by rw [h]; simp
    refine Gives.step ?_
    simp only [T_pieces_Starts]
    refine Gives.ite (fun c => Gives.now ?_) fun c => Gives.bind (pc_number _ _) fun _ _ => Gives.pos ?_ (Gives.now ?_)
    · rw [if_pos (by simpa using c)]
    · unfold badN at h; simp at c ⊢; omega
    · rw [if_neg (by simpa using c)]
  · unfold badN at h
    obtain ⟨a, rfl⟩ : ∃ a : Nat, m = a := ⟨m.toNat, by omega⟩
    obtain ⟨b, rfl⟩ : ∃ b : Nat, n = b := ⟨n.toNat, by omega⟩
    exact Agree.both (pc_starts (by omega) (by omega) (by omega) (by omega) (by omega)) (f18_starts (by omega) (by omega) (by omega) (by omega) (by omega)) (fun u v ⟨a1, a2, a3⟩ ⟨b1, b2, b3⟩ => rows_eq (n := (b : Int) + 1) (F := fun p => cut a b p) a1 a2 (fun p h0 h1 => a3 p h0 (by omega)) b1 (by omega) fun p h0 h1 => b3 p h0 (by omega)) fun u ⟨a1, a2, a3⟩ => by omega
theorem pa_l1 {p1 p2 x10 x11 x12 x15 : List Int} {p3 x13 n x117 x122 : Int} {ps : List (List Int × List Int)} (hl : ps.length ≤ 10) (h : ∀ e ∈ ps, e.1.length ≤ 1000 ∧ e.2.length ≤ 1000) :
    Gives (fun k => loopT (T_law18_PiecesAnswers_l1 k p1 p2 p3 x10 x11 x12 x13 x15 n x117 ps (ps.length : Int) x122) k 0) (fun r => r = .inl ()) := by
  refine Gives.loop (fun s => 0 ≤ s ∧ s ≤ (ps.length : Int)) (fun s => ((ps.length : Int) - s).toNat) ?_ ⟨by omega, by omega⟩
  intro s ⟨i0, i1⟩
  unfold T_law18_PiecesAnswers_l1
  refine Gives.ite (fun c => ?_) fun c => Gives.now rfl
  obtain ⟨v, ev, mv⟩ := at_mem i0 c
  obtain ⟨h1, h2⟩ := h v mv
  refine Gives.opt ev ?_
  obtain ⟨a, a1, a2, a3⟩ := ag_sums (n := n) h1
  obtain ⟨b, b1, b2, b3⟩ := ag_centred (n := n) h1
  obtain ⟨c', c1, c2, _⟩ := ag_lower (n := n) h1 h2
  obtain ⟨d, d1, d2, _⟩ := ag_shifted (n := n) h1 h2
  refine Gives.bind a1 fun _ e => Gives.bind a2 fun _ e' => Gives.bind b1 fun _ f => Gives.bind b2 fun _ f' => ?_
  subst e e' f f'
  refine Gives.bind (Q := fun r => r = false) (Gives.bind (ints_refl rfl a3) fun u hu => Gives.neg (by simp [hu]) (Gives.bind (ints_refl rfl b3) fun u hu => Gives.now (by simp [hu]))) fun u hu => ?_
  subst hu
  refine Gives.neg (by simp) (Gives.bind c1 fun _ e => Gives.bind c2 fun _ e' => Gives.bind d1 fun _ f => Gives.bind d2 fun _ f' => ?_)
  subst e e' f f'
  refine Gives.neg (by simp) ?_
  rw [w64_id (by omega) (by omega)]
  exact Gives.now ⟨⟨by omega, by omega⟩, by omega⟩
theorem pa_l2 {p1 p2 x10 x11 x12 x15 ps : List Int} {p3 x13 n x117 x122 : Int} (hl : ps.length ≤ 10) :
    Gives (fun k => loopT (T_law18_PiecesAnswers_l2 k p1 p2 p3 x10 x11 x12 x13 x15 n x117 ps (ps.length : Int) x122) k 0) (fun r => r = .inl ()) := by
  refine Gives.loop (fun s => 0 ≤ s ∧ s ≤ (ps.length : Int)) (fun s => ((ps.length : Int) - s).toNat) ?_ ⟨by omega, by omega⟩
  intro s ⟨i0, i1⟩
  unfold T_law18_PiecesAnswers_l2
  refine Gives.ite (fun c => Gives.opt (at_rd i0 c) ?_) fun c => Gives.now rfl
  obtain ⟨a, a1, a2, a3⟩ := ag_starts (m := rd ps s) (n := n)
  refine Gives.bind a1 fun _ e => Gives.bind a2 fun _ e' => ?_
  subst e e'
  refine Gives.bind (ints_refl rfl a3) fun u hu => Gives.neg (by simp [hu]) ?_
  rw [w64_id (by omega) (by omega)]
  exact Gives.now ⟨⟨by omega, by omega⟩, by omega⟩
theorem pure_piecesAnswers (a0 : List Int) (w0 : ∀ n ∈ a0, (Lit.int .i64 n).wf = true) (a1 : List Int) (w1 : ∀ n ∈ a1, (Lit.int .i64 n).wf = true) (a2 : Int) (w2 : (Lit.int .i64 a2).wf = true) (a3 : Int) (w3 : (Lit.int .i64 a3).wf = true) (a4 : List Int) (w4 : ∀ n ∈ a4, (Lit.int .i64 n).wf = true) : ∃ k, T_law18_PiecesAnswers k a0 a1 a2 a3 a4 = some true := by
  refine Gives.true (f := fun k => T_law18_PiecesAnswers k a0 a1 a2 a3 a4) ?_
  obtain ⟨s0, s1⟩ := src_new a4
  refine Gives.step ?_
  simp only [T_law18_PiecesAnswers]
  refine Gives.ite (fun _ => Gives.bind awake_ok fun v hv => Gives.now hv) fun hc => ?_
  have h0 : a0.length ≤ 100 ∧ a1.length ≤ 100 := by simp at hc; omega
  refine Gives.bind s1 fun _ _ => Gives.bind (src_pair s0) fun a ha => ?_
  obtain ⟨hx, hy, hl, a8⟩ := ha
  have x1 := hx.lo
  have x2 := hx.hi
  refine Gives.bind (src_count a8 (by omega) (by omega)) fun c hc => Gives.bind (src_mod _ 11 (by omega) (by omega)) fun m _ => ?_
  obtain ⟨_, _, _, c8⟩ := hc
  refine Gives.bind (Q := fun r => r = .inl ()) ?_ fun r hr => by subst hr; exact Gives.bind awake_ok fun v hv => Gives.now hv
  generalize hk : ([a3, c.1, m, (a.1.length : Int), w64 ((a.1.length : Int) + 1)] : List Int) = ks
  have lk : ks.length = 5 := by rw [← hk]; rfl
  refine Gives.loop (fun s => 0 ≤ s.1 ∧ s.1 ≤ (ks.length : Int) ∧ SrcOk ((a4.drop 0).take ((imin (a4.length : Int) 2000).toNat - 0)) s.2) (fun s => ((ks.length : Int) - s.1).toNat) ?_ ⟨by simp only []; omega, by simp only []; omega, c8⟩
  intro ⟨i, q⟩ ⟨i0, i1, i2⟩
  simp only at i0 i1 i2
  unfold T_law18_PiecesAnswers_l3
  simp only []
  refine Gives.ite (fun c => Gives.opt (at_rd i0 c) (Gives.pos (by omega) (Gives.bind (src_bent i2 (by omega)) fun b hb => ?_))) fun c => Gives.now rfl
  refine Gives.bind (pa_l1 (by simp) ?_) fun r hr => ?_
  · intro e he
    have y2 := hy.hi
    simp only [List.mem_cons, List.not_mem_nil, or_false] at he
    rcases he with rfl | rfl | rfl | rfl
    · simp only []; omega
    · simp only []; omega
    · simp only []; omega
    · simp only [List.length_take, List.length_drop]; omega
  subst hr
  refine Gives.bind (src_mod _ 40 (by omega) (by omega)) fun u _ => Gives.bind (pa_l2 (by simp)) fun r hr => ?_
  subst hr
  simp only []
  rw [w64_id (by omega) (by omega)]
  exact Gives.now ⟨⟨by simp only []; omega, by simp only []; omega, hb.2⟩, by simp only []; omega⟩

end Go.Proofs.Ytkiacebcedpljaa.piecesAnswers
