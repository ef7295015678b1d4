/- That the told functions answer as the statement PiecesFiner says, in plain Lean. There are no conditions. -/
import Derived.Test.YtkiacebcedpljaaTPiecesFiner1
set_option maxRecDepth 100000
set_option linter.unusedVariables false
set_option linter.unusedSimpArgs false
namespace Go.Proofs.Ytkiacebcedpljaa.piecesFiner
open Go
theorem wf_u8 {n : Int} (h : (Lit.int .u8 n).wf = true) : 0 ≤ n ∧ n ≤ 255 := by
  simpa [Lit.wf, IntKind.min, IntKind.max, IntKind.signed, IntKind.bits] using h
theorem wf_i8 {n : Int} (h : (Lit.int .i8 n).wf = true) : -128 ≤ n ∧ n ≤ 127 := by
  simpa [Lit.wf, IntKind.min, IntKind.max, IntKind.signed, IntKind.bits] using h
theorem wf_i64 {n : Int} (h : (Lit.int .i64 n).wf = true) : -9223372036854775808 ≤ n ∧ n ≤ 9223372036854775807 := by
  simpa [Lit.wf, IntKind.min, IntKind.max, IntKind.signed, IntKind.bits] using h
theorem w64_id {x : Int} (h1 : -9223372036854775808 ≤ x) (h2 : x < 9223372036854775808) : w64 x = x := wrap_id h1 h2

/-- With enough rounds the answer is there, and it is as asked. -/
def Gives {α : Type} (f : Nat → Option α) (Q : α → Prop) : Prop := ∃ r, (∃ K, ∀ k, K ≤ k → f k = some r) ∧ Q r
theorem Gives.mono {α : Type} {f : Nat → Option α} {Q Q' : α → Prop} (h : Gives f Q) (k : ∀ r, Q r → Q' r) : Gives f Q' := by
  obtain ⟨r, h1, h2⟩ := h; exact ⟨r, h1, k r h2⟩
theorem Gives.now {α : Type} {r : α} {Q : α → Prop} (h : Q r) : Gives (fun _ => some r) Q := ⟨r, ⟨0, fun _ _ => rfl⟩, h⟩
theorem Gives.con {α : Type} {x : Option α} {r : α} {Q : α → Prop} (h : x = some r) (k : Q r) : Gives (fun _ => x) Q := ⟨r, ⟨0, fun _ _ => h⟩, k⟩
theorem Gives.bind {α β : Type} {f : Nat → Option α} {g : Nat → α → Option β} {Q : α → Prop} {Q' : β → Prop} (h : Gives f Q) (k : ∀ a, Q a → Gives (fun n => g n a) Q') : Gives (fun n => (f n).bind (g n)) Q' := by
  obtain ⟨a, ⟨K, hK⟩, ha⟩ := h
  obtain ⟨r, ⟨K2, hK2⟩, hr⟩ := k a ha
  exact ⟨r, ⟨max K K2, fun n hn => by show (f n).bind (g n) = some r; rw [hK n (by omega), Option.bind_some]; exact hK2 n (by omega)⟩, hr⟩
theorem Gives.opt {α β : Type} {x : Option α} {a : α} {g : Nat → α → Option β} {Q : β → Prop} (h : x = some a) (k : Gives (fun n => g n a) Q) : Gives (fun n => x.bind (g n)) Q := by
  subst h; exact k
theorem Gives.step {α : Type} {f : Nat → Option α} {Q : α → Prop} (h : Gives (fun k => f (k + 1)) Q) : Gives f Q := by
  obtain ⟨r, ⟨K, hK⟩, hr⟩ := h
  refine ⟨r, ⟨K + 1, fun n hn => ?_⟩, hr⟩
  obtain ⟨m, rfl⟩ : ∃ m, n = m + 1 := ⟨n - 1, by omega⟩
  exact hK m (by omega)
theorem Gives.ite {α : Type} {c : Prop} [Decidable c] {f g : Nat → Option α} {Q : α → Prop} (h : c → Gives f Q) (k : ¬ c → Gives g Q) : Gives (fun n => if c then f n else g n) Q := by
  by_cases hc : c
  · simp only [if_pos hc]; exact h hc
  · simp only [if_neg hc]; exact k hc
theorem Gives.pos {α : Type} {c : Prop} [Decidable c] {f g : Nat → Option α} {Q : α → Prop} (hc : c) (h : Gives f Q) : Gives (fun n => if c then f n else g n) Q := by
  simp only [if_pos hc]; exact h
theorem Gives.neg {α : Type} {c : Prop} [Decidable c] {f g : Nat → Option α} {Q : α → Prop} (hc : ¬ c) (h : Gives g Q) : Gives (fun n => if c then f n else g n) Q := by
  simp only [if_neg hc]; exact h
theorem Gives.loop {S R : Type} {f : Nat → S → Option (S ⊕ R)} {Q : R → Prop} (Inv : S → Prop) (m : S → Nat)
    (h : ∀ s, Inv s → Gives (fun k => f k s) (fun x => match x with | .inl s' => Inv s' ∧ m s' < m s | .inr r => Q r)) {s : S} (hs : Inv s) : Gives (fun k => loopT (f k) k s) Q := by
  suffices H : ∀ (n : Nat) (s : S), m s < n → Inv s → ∃ r, (∃ K N, ∀ k, K ≤ k → ∀ j, N ≤ j → loopT (f k) j s = some r) ∧ Q r by
    obtain ⟨r, ⟨K, N, hK⟩, hr⟩ := H (m s + 1) s (by omega) hs
    exact ⟨r, ⟨max K N, fun k hk => hK k (by omega) k (by omega)⟩, hr⟩
  intro n
  induction n with
  | zero => intro s hs; omega
  | succ n ih =>
    intro s hs hI
    obtain ⟨x, ⟨K, hK⟩, hx⟩ := h s hI
    cases x with
    | inl s' =>
      obtain ⟨r, ⟨K2, N, hK2⟩, hr⟩ := ih s' (by have := hx.2; omega) hx.1
      refine ⟨r, ⟨max K K2, N + 1, fun k hk j hj => ?_⟩, hr⟩
      obtain ⟨j', rfl⟩ : ∃ j', j = j' + 1 := ⟨j - 1, by omega⟩
      simp only [loopT, hK k (by omega), Option.bind_some]
      exact hK2 k (by omega) j' (by omega)
    | inr r =>
      refine ⟨r, ⟨K, 1, fun k hk j hj => ?_⟩, hx⟩
      obtain ⟨j', rfl⟩ : ∃ j', j = j' + 1 := ⟨j - 1, by omega⟩
      simp only [loopT, hK k hk, Option.bind_some]
theorem Gives.true {f : Nat → Option Bool} (h : Gives f (· = true)) : ∃ k, f k = some true := by
  obtain ⟨r, ⟨K, hK⟩, hr⟩ := h
  subst hr
  exact ⟨K, hK K (Nat.le_refl _)⟩
/-- An element of a list, 0 outside of it. -/
def rd (xs : List Int) (i : Int) : Int := xs.getD i.toNat 0
theorem at_rd {xs : List Int} {i : Int} (h0 : 0 ≤ i) (h1 : i < (xs.length : Int)) : at? xs i = some (rd xs i) := by
  unfold at? rd
  rw [if_pos h0, List.getD_eq_getElem?_getD, List.getElem?_eq_getElem (by omega)]; rfl
theorem get_rd {xs : List Int} {n : Nat} (h1 : n < xs.length) : xs[n]? = some (rd xs n) := by
  unfold rd
  rw [List.getD_eq_getElem?_getD, List.getElem?_eq_getElem h1]
  simp [h1]
theorem rd_mem {xs : List Int} {i : Int} (h0 : 0 ≤ i) (h1 : i < (xs.length : Int)) : rd xs i ∈ xs := by
  unfold rd
  have h : i.toNat < xs.length := by omega
  rw [List.getD_eq_getElem?_getD, List.getElem?_eq_getElem h]; exact List.getElem_mem h
/-- All numbers are samples. -/
def Smp (xs : List Int) : Prop := ∀ v ∈ xs, -1000 ≤ v ∧ v ≤ 1000
theorem Smp.rd {xs : List Int} (h : Smp xs) (i : Int) : -1000 ≤ rd xs i ∧ rd xs i ≤ 1000 := by
  show -1000 ≤ xs.getD i.toNat 0 ∧ xs.getD i.toNat 0 ≤ 1000
  rw [List.getD_eq_getElem?_getD]
  rcases Nat.lt_or_ge i.toNat xs.length with c | c
  · rw [List.getElem?_eq_getElem c]; exact h _ (List.getElem_mem c)
  · rw [List.getElem?_eq_none c]; decide
theorem Smp.nil : Smp [] := fun _ h => by simp at h
theorem Smp.app {xs ys : List Int} (h : Smp xs) (k : Smp ys) : Smp (xs ++ ys) := fun v hv => by
  rcases List.mem_append.1 hv with h1 | h1
  · exact h v h1
  · exact k v h1
theorem Smp.one {v : Int} (h0 : -1000 ≤ v) (h1 : v ≤ 1000) : Smp [v] := fun u hu => by
  obtain rfl := List.mem_singleton.1 hu; exact ⟨h0, h1⟩
theorem Smp.take {xs : List Int} (h : Smp xs) (n : Nat) : Smp (xs.take n) := fun v hv => h v (List.mem_of_mem_take hv)
theorem Smp.drop {xs : List Int} (h : Smp xs) (n : Nat) : Smp (xs.drop n) := fun v hv => h v (List.mem_of_mem_drop hv)
theorem Smp.set {xs : List Int} (h : Smp xs) (n : Nat) {v : Int} (h0 : -1000 ≤ v) (h1 : v ≤ 1000) : Smp (xs.set n v) := fun u hu => by
  rcases List.mem_or_eq_of_mem_set hu with h2 | h2
  · exact h u h2
  · subst h2; exact ⟨h0, h1⟩
/-- A window. -/
structure Win (xs : List Int) : Prop where
  lo : 2 ≤ xs.length
  hi : xs.length ≤ 32
  smp : Smp xs

/-- A reader of numbers. -/
structure SrcOk (L : List Int) (p : Int) : Prop where
  lo : 0 ≤ p
  hi : p ≤ (L.length : Int)
  len : L.length ≤ 2000
theorem src_raw {L : List Int} {p : Int} (h : SrcOk L p) : Gives (fun k => T_keep_Src_Raw k L p) (fun r => SrcOk L r.2) := by
  obtain ⟨h0, h1, h2⟩ := h
  refine Gives.step ?_
  simp only [T_keep_Src_Raw]
  have e1 : w64 (p + 1) = p + 1 := w64_id (by omega) (by omega)
  have e2 : w64 (w64 (p + 1) - 1) = p := by rw [e1, w64_id (by omega) (by omega)]; omega
  refine Gives.ite (fun c => Gives.now ⟨h0, h1, h2⟩) fun c => ?_
  rw [e2, e1]
  exact Gives.opt (at_rd h0 (by omega)) (Gives.now ⟨by simp only []; omega, by simp only []; omega, h2⟩)
theorem src_mod (x n : Int) (h : 1 ≤ n) (hn : n ≤ 4611686018427387904) : Gives (fun k => T_keep_Mod k x n) (fun v => 0 ≤ v ∧ v < n) := by
  have h1 : Int.tmod x n < n := Int.tmod_lt_of_pos _ (by omega)
  have h2 : -n < Int.tmod x n := by
    rcases Int.le_total 0 x with c | c
    · have := Int.tmod_nonneg n c; omega
    · have h3 : Int.tmod (-x) n < n := Int.tmod_lt_of_pos _ (by omega)
      rw [Int.neg_tmod] at h3; omega
  refine Gives.step ?_
  simp only [T_keep_Mod]
  refine Gives.neg (by omega) (Gives.pos (by omega) (Gives.bind (Q := fun v => 0 ≤ v ∧ v < n) ?_ fun a ha => Gives.now ha))
  refine Gives.ite (fun c => ?_) fun c => Gives.now ⟨by omega, by omega⟩
  rw [w64_id (by omega) (by omega)]
  exact Gives.now ⟨by omega, by omega⟩
theorem src_n {L : List Int} {p : Int} (h : SrcOk L p) (n : Int) (h1 : 1 ≤ n) (hn : n ≤ 4611686018427387904) : Gives (fun k => T_keep_Src_N k n L p) (fun r => 0 ≤ r.1 ∧ r.1 < n ∧ SrcOk L r.2) := by
  refine Gives.step ?_
  simp only [T_keep_Src_N]
  exact Gives.bind (src_raw h) fun a ha => Gives.bind (src_mod a.1 n h1 hn) fun v hv => Gives.now ⟨hv.1, hv.2, ha⟩
theorem src_range {L : List Int} {p : Int} (h : SrcOk L p) (lo hi : Int) (h1 : lo ≤ hi) (h0 : -1000000000000 ≤ lo) (h2 : hi ≤ 1000000000000) : Gives (fun k => T_keep_Src_Range k lo hi L p) (fun r => lo ≤ r.1 ∧ r.1 ≤ hi ∧ SrcOk L r.2) := by
  have e1 : w64 (w64 (hi - lo) + 1) = hi - lo + 1 := by rw [w64_id (x := hi - lo) (by omega) (by omega), w64_id (by omega) (by omega)]
  refine Gives.step ?_
  simp only [T_keep_Src_Range]
  rw [e1]
  refine Gives.bind (src_n h (hi - lo + 1) (by omega) (by omega)) fun a ha => ?_
  rw [w64_id (by omega) (by omega)]
  exact Gives.now ⟨by simp only []; omega, by simp only []; omega, ha.2.2⟩
theorem src_pick {L : List Int} {p : Int} (h : SrcOk L p) (l : List Int) (h1 : 1 ≤ l.length) (h2 : l.length ≤ 1000) : Gives (fun k => T_keep_Src_Pick k l L p) (fun r => r.1 ∈ l ∧ SrcOk L r.2) := by
  refine Gives.step ?_
  simp only [T_keep_Src_Pick]
  exact Gives.bind (src_n h (l.length : Int) (by omega) (by omega)) fun a ha => Gives.opt (at_rd ha.1 ha.2.1) (Gives.now ⟨rd_mem ha.1 ha.2.1, ha.2.2⟩)
theorem src_clip (x : Int) : Gives (fun k => T_keep_clip k x) (fun _ => True) := by
  refine Gives.step ?_
  simp only [T_keep_clip]
  exact Gives.now trivial
theorem clip_smp (x : Int) : -1000 ≤ imin (imax x (-1000)) 1000 ∧ imin (imax x (-1000)) 1000 ≤ 1000 := by unfold imin imax; split <;> split <;> omega
theorem src_length {L : List Int} {p : Int} (h : SrcOk L p) : Gives (fun k => T_keep_Src_Length k L p) (fun r => 2 ≤ r.1 ∧ r.1 ≤ 32 ∧ SrcOk L r.2) := by
  refine Gives.step ?_
  simp only [T_keep_Src_Length]
  refine Gives.bind (src_n h 8 (by omega) (by omega)) fun a ha => Gives.ite (fun c => ?_) fun c => ?_
  · exact Gives.bind (src_range ha.2.2 13 32 (by omega) (by omega) (by omega)) fun b hb => Gives.now ⟨by simp only []; omega, by simp only []; omega, hb.2.2⟩
  · exact Gives.bind (src_range ha.2.2 2 12 (by omega) (by omega) (by omega)) fun b hb => Gives.now ⟨by simp only []; omega, by simp only []; omega, hb.2.2⟩
theorem drop_take_len {xs : List Int} {n : Nat} (h : xs.length = n) : (xs.drop 0).take n = xs := by rw [List.drop_zero, ← h, List.take_length]
theorem src_list {L : List Int} {p : Int} (h : SrcOk L p) (n : Int) (h1 : 2 ≤ n) (h2 : n ≤ 32) : Gives (fun k => T_keep_Src_List k n L p) (fun r => (r.1.length : Int) = n ∧ Smp r.1 ∧ SrcOk L r.2) := by
  refine Gives.step ?_
  simp only [T_keep_Src_List]
  refine Gives.bind (src_n h 6 (by omega) (by omega)) fun a ha => Gives.bind (src_pick ha.2.2 [1, 3, 10, 100, 1000] (by decide) (by decide)) fun b hb => Gives.bind (src_n hb.2 3 (by omega) (by omega)) fun c hc => ?_
  have hb1 : 1 ≤ b.1 ∧ b.1 ≤ 1000 := by have := hb.1; simp at this; omega
  have em : w64 (0 - b.1) = -b.1 := by rw [w64_id (by omega) (by omega)]; omega
  refine Gives.bind (Q := fun d => -1000 ≤ d.1 ∧ d.1 ≤ 1000 ∧ SrcOk L d.2) ?_ fun d hd => ?_
  · refine Gives.ite (fun _ => ?_) fun _ => Gives.now ⟨by simp only []; omega, by simp only []; omega, hc.2.2⟩
    exact Gives.bind (src_range hc.2.2 (-1000) 1000 (by omega) (by omega) (by omega)) fun e he => Gives.now he
  refine Gives.bind (Q := fun r => (r.1 : Int) = n ∧ r.2.2.length = r.1 ∧ Smp r.2.2 ∧ SrcOk L r.2.1) ?_ fun r hr => ?_
  · refine Gives.loop (fun s => -1000 ≤ s.1 ∧ s.1 ≤ 1000 ∧ (s.2.1 : Int) = s.2.2.1 ∧ s.2.2.1 ≤ n ∧ SrcOk L s.2.2.2.1 ∧ s.2.2.2.2.length = s.2.1 ∧ Smp s.2.2.2.2) (fun s => (n - s.2.2.1).toNat) ?_ ⟨hd.1, hd.2.1, rfl, by simp only []; omega, hd.2.2, rfl, Smp.nil⟩
    intro s ⟨i1, i2, i3, i4, i5, i6, i7⟩
    have ed : (s.2.2.2.2.drop 0).take s.2.1 = s.2.2.2.2 := drop_take_len i6
    unfold T_keep_Src_List_l1
    refine Gives.ite (fun c => ?_) fun c => Gives.now ⟨by simp only []; omega, i6, i7, i5⟩
    rw [em, ed]
    have hlim : s.2.1 + 1 ≤ LIM := by unfold LIM; omega
    refine Gives.bind (Q := fun _ => True) (Gives.ite (fun _ => Gives.now trivial) fun _ => Gives.now trivial) fun t _ => ?_
    refine Gives.bind (Q := fun r => -1000 ≤ r.1 ∧ r.1 ≤ 1000 ∧ SrcOk L r.2.1 ∧ r.2.2.length = s.2.1 + 1 ∧ Smp r.2.2) ?_ fun r hr => ?_
    · refine Gives.ite (fun _ => ?_) fun _ => ?_
      · refine Gives.bind (src_range i5 (-b.1) b.1 (by omega) (by omega) (by omega)) fun v hv => Gives.pos hlim (Gives.now ⟨i1, i2, hv.2.2, by simp [i6], i7.app (Smp.one (by omega) (by omega))⟩)
      · refine Gives.bind (Q := fun _ => True) (Gives.ite (fun _ => Gives.now trivial) fun _ => Gives.now trivial) fun t2 _ => Gives.ite (fun _ => ?_) fun _ => Gives.ite (fun _ => ?_) fun _ => ?_
        · refine Gives.bind (src_range i5 (-b.1) b.1 (by omega) (by omega) (by omega)) fun v hv => Gives.bind (src_clip _) fun _ _ => Gives.pos hlim (Gives.now ?_)
          have := clip_smp (w64 (s.1 + v.1))
          exact ⟨this.1, this.2, hv.2.2, by simp [i6], i7.app (Smp.one this.1 this.2)⟩
        · refine Gives.bind (src_n i5 4 (by omega) (by omega)) fun v hv => Gives.bind (Q := fun r => -1000 ≤ r.1 ∧ r.1 ≤ 1000 ∧ SrcOk L r.2) (Gives.ite (fun _ => ?_) fun _ => Gives.now ⟨i1, i2, hv.2.2⟩) fun u hu => Gives.pos hlim (Gives.now ⟨hu.1, hu.2.1, hu.2.2, by simp [i6], i7.app (Smp.one hu.1 hu.2.1)⟩)
          exact Gives.bind (src_range hv.2.2 (-b.1) b.1 (by omega) (by omega) (by omega)) fun e he => Gives.now ⟨by simp only []; omega, by simp only []; omega, he.2.2⟩
        · refine Gives.bind (src_pick i5 [-1000, 1000, 1000, 0] (by decide) (by decide)) fun v hv => Gives.pos hlim (Gives.now ?_)
          have : -1000 ≤ v.1 ∧ v.1 ≤ 1000 := by have := hv.1; simp at this; omega
          exact ⟨i1, i2, hv.2, by simp [i6], i7.app (Smp.one this.1 this.2)⟩
    · have ei : w64 (s.2.2.1 + 1) = s.2.2.1 + 1 := w64_id (by omega) (by omega)
      rw [ei]
      exact Gives.now ⟨⟨hr.1, hr.2.1, by simp only []; omega, by simp only []; omega, hr.2.2.1, hr.2.2.2.1, hr.2.2.2.2⟩, by simp only []; omega⟩
  · rw [drop_take_len hr.2.1]
    exact Gives.now ⟨by simp only []; omega, hr.2.2.1, hr.2.2.2⟩

theorem get_rd0 {xs : List Int} {i : Int} (h0 : 0 ≤ i) (h1 : i < (xs.length : Int)) : xs[0 + i.toNat]? = some (rd xs i) := by
  rw [Nat.zero_add, get_rd (by omega), Int.toNat_of_nonneg h0]
theorem src_near {L : List Int} {p : Int} (h : SrcOk L p) {xs : List Int} (hx : Win xs) : Gives (fun k => T_keep_Src_Near k xs L p) (fun r => r.1.length = xs.length ∧ Smp r.1 ∧ SrcOk L r.2) := by
  have l1 := hx.lo
  have l2 := hx.hi
  refine Gives.step ?_
  simp only [T_keep_Src_Near]
  refine Gives.bind (src_n h 7 (by omega) (by omega)) fun a ha => Gives.bind (src_range ha.2.2 (-20) 20 (by omega) (by omega) (by omega)) fun b hb => Gives.bind (src_range hb.2.2 1 3 (by omega) (by omega) (by omega)) fun c hc => Gives.pos (by unfold LIM; omega) ?_
  refine Gives.bind (Q := fun r => r.2.length = xs.length ∧ Smp r.2 ∧ SrcOk L r.1) ?_ fun r hr => ?_
  · refine Gives.loop (fun s => 0 ≤ s.1 ∧ s.1 ≤ (xs.length : Int) ∧ SrcOk L s.2.1 ∧ s.2.2.length = xs.length ∧ Smp s.2.2) (fun s => ((xs.length : Int) - s.1).toNat) ?_ ⟨by simp only []; omega, by simp only []; omega, hc.2.2, by simp, by simpa using hx.smp⟩
    intro s ⟨i1, i2, i3, i4, i5⟩
    unfold T_keep_Src_Near_l1
    refine Gives.ite (fun cc => ?_) fun cc => Gives.now ⟨i4, i5, i3⟩
    have g : (0 : Int) ≤ s.1 ∧ s.1 < ((0 + xs.length : Nat) : Int) := ⟨i1, cc⟩
    have g2 : s.1 < (xs.length : Int) := by omega
    refine Gives.bind (Q := fun r => SrcOk L r.1 ∧ r.2.length = xs.length ∧ Smp r.2) ?_ fun r hr => ?_
    · refine Gives.ite (fun _ => Gives.pos g (Gives.opt (get_rd0 i1 (by omega)) ?_)) fun _ => Gives.ite (fun _ => Gives.pos g (Gives.opt (get_rd0 i1 (by omega)) ?_)) fun _ => Gives.ite (fun _ => Gives.pos g (Gives.opt (get_rd0 i1 (by omega)) ?_)) fun _ =>
        Gives.ite (fun _ => ?_) fun _ => Gives.ite (fun _ => ?_) fun _ => Gives.ite (fun _ => Gives.pos g (Gives.opt (get_rd0 i1 (by omega)) ?_)) fun _ => Gives.now ⟨i3, i4, i5⟩
      · refine Gives.bind (src_range i3 (-2) 2 (by omega) (by omega) (by omega)) fun v hv => Gives.bind (src_clip _) fun _ _ => Gives.now ?_
        have := clip_smp (w64 (rd s.2.2 s.1 + v.1))
        exact ⟨hv.2.2, by simp [i4], i5.set _ this.1 this.2⟩
      · refine Gives.bind (src_clip _) fun _ _ => Gives.now ?_
        have := clip_smp (w64 (rd s.2.2 s.1 + b.1))
        exact ⟨i3, by simp [i4], i5.set _ this.1 this.2⟩
      · refine Gives.bind (src_clip _) fun _ _ => Gives.now ?_
        have := clip_smp (w64 (w64 (rd s.2.2 s.1 * c.1) + b.1))
        exact ⟨i3, by simp [i4], i5.set _ this.1 this.2⟩
      · have e : w64 (w64 ((xs.length : Int) - 1) - s.1) = (xs.length : Int) - 1 - s.1 := by rw [w64_id (x := (xs.length : Int) - 1) (by omega) (by omega), w64_id (by omega) (by omega)]
        rw [e]
        refine Gives.opt (at_rd (by omega) (by omega)) (Gives.pos g (Gives.now ?_))
        have := hx.smp.rd ((xs.length : Int) - 1 - s.1)
        exact ⟨i3, by simp [i4], i5.set _ this.1 this.2⟩
      · refine Gives.bind (src_range i3 (-1) 1 (by omega) (by omega) (by omega)) fun v hv => Gives.bind (src_mod _ (xs.length : Int) (by omega) (by omega)) fun u hu => Gives.opt (at_rd hu.1 hu.2) (Gives.pos g (Gives.now ?_))
        have := hx.smp.rd u
        exact ⟨hv.2.2, by simp [i4], i5.set _ this.1 this.2⟩
      · refine Gives.bind (src_clip _) fun _ _ => Gives.now ?_
        have := clip_smp (w64 (b.1 - w64 (rd s.2.2 s.1 * c.1)))
        exact ⟨i3, by simp [i4], i5.set _ this.1 this.2⟩
    · have ei : w64 (s.1 + 1) = s.1 + 1 := w64_id (by omega) (by omega)
      rw [ei]
      exact Gives.now ⟨⟨by simp only []; omega, by simp only []; omega, hr.1, hr.2.1, hr.2.2⟩, by simp only []; omega⟩
  · rw [drop_take_len (by rw [hr.1, Nat.zero_add])]
    exact Gives.now ⟨hr.1, hr.2.1, hr.2.2⟩
theorem src_pair {L : List Int} {p : Int} (h : SrcOk L p) : Gives (fun k => T_keep_Src_Pair k L p) (fun r => Win r.1 ∧ Win r.2.1 ∧ r.1.length = r.2.1.length ∧ SrcOk L r.2.2) := by
  refine Gives.step ?_
  simp only [T_keep_Src_Pair]
  refine Gives.bind (src_length h) fun a ha => Gives.bind (src_list ha.2.2 a.1 ha.1 ha.2.1) fun b hb => ?_
  have wb : Win b.1 := ⟨by omega, by omega, hb.2.1⟩
  refine Gives.bind (src_n hb.2.2 3 (by omega) (by omega)) fun c hc => Gives.ite (fun _ => ?_) fun _ => ?_
  · refine Gives.bind (src_list hc.2.2 (b.1.length : Int) (by omega) (by omega)) fun d hd => Gives.now ⟨wb, ⟨?_, ?_, hd.2.1⟩, ?_, hd.2.2⟩ <;> simp only [] <;> omega
  · refine Gives.bind (src_near hc.2.2 wb) fun d hd => Gives.now ⟨wb, ⟨?_, ?_, hd.2.1⟩, ?_, hd.2.2⟩ <;> simp only [] <;> omega
/-- Two windows, and a band that they fit. -/
structure Fits (xs ys : List Int) (b : Int) : Prop where
  wx : Win xs
  wy : Win ys
  lo : 0 ≤ b
  hi : b ≤ 32
  ab : (xs.length : Int) - ys.length ≤ b
  ba : (ys.length : Int) - xs.length ≤ b
theorem src_new (l : List Int) : SrcOk ((l.drop 0).take ((imin (l.length : Int) 2000).toNat - 0)) 0 ∧ Gives (fun k => T_keep_New k l) (fun _ => True) := by
  have h1 : 0 ≤ imin (l.length : Int) 2000 := by unfold imin; split <;> omega
  have h2 : imin (l.length : Int) 2000 ≤ l.length := by unfold imin; split <;> omega
  have h3 : imin (l.length : Int) 2000 ≤ 2000 := by unfold imin; split <;> omega
  refine ⟨⟨by omega, by omega, ?_⟩, ?_⟩
  · simp; omega
  · refine Gives.step ?_
    simp only [T_keep_New]
    exact Gives.pos (by omega) (Gives.now trivial)
/-! The distance of chapter 12. -/
theorem eu_samples {xs : List Int} (h : Win xs) : Gives (fun k => T_euclid_samples k xs) (· = true) := by
  have h2 := h.hi
  refine Gives.step ?_
  simp only [T_euclid_samples]
  refine Gives.bind (Q := fun r => r = .inl ()) ?_ fun r hr => by subst hr; exact Gives.now rfl
  refine Gives.loop (fun s => 0 ≤ s ∧ s ≤ (xs.length : Int)) (fun s => ((xs.length : Int) - s).toNat) ?_ ⟨by omega, by omega⟩
  intro s ⟨i1, i2⟩
  unfold T_euclid_samples_l1
  refine Gives.ite (fun c => Gives.opt (at_rd i1 c) ?_) fun c => Gives.now rfl
  have := h.smp.rd s
  refine Gives.neg (by simp; omega) ?_
  rw [w64_id (by omega) (by omega)]
  exact Gives.now ⟨⟨by omega, by omega⟩, by omega⟩
theorem eu_len (xs : List Int) : Gives (fun k => T_euclid_length k xs) (fun _ => True) := by
  refine Gives.step ?_
  simp only [T_euclid_length]
  exact Gives.now trivial
theorem eu_check {xs ys : List Int} (hx : Win xs) (hy : Win ys) (hl : xs.length = ys.length) : Gives (fun k => T_euclid_check k xs ys) (· = 0) := by
  have x1 := hx.lo
  have x2 := hx.hi
  refine Gives.step ?_
  simp only [T_euclid_check]
  refine Gives.bind (Q := fun b => b = false) ?_ fun b hb => ?_
  · refine Gives.bind (eu_len xs) fun _ _ => Gives.neg (by simp; omega) ?_
    refine Gives.bind (eu_len ys) fun _ _ => Gives.now ?_
    simp; omega
  subst hb
  refine Gives.neg (by simp) ?_
  refine Gives.bind (Q := fun b => b = false) ?_ fun b hb => ?_
  · refine Gives.bind (eu_samples hx) fun u hu => ?_
    subst hu
    refine Gives.neg (by simp) (Gives.bind (eu_samples hy) fun u hu => ?_)
    subst hu
    exact Gives.now rfl
  subst hb
  refine Gives.neg (by simp) (Gives.neg (by simp [hl]) (Gives.now rfl))
theorem eu_square {xs ys : List Int} (hx : Win xs) (hl : xs.length = ys.length) : Gives (fun k => T_euclid_square k xs ys) (fun _ => True) := by
  have x2 := hx.hi
  refine Gives.step ?_
  simp only [T_euclid_square]
  refine Gives.bind (Q := fun _ => True) ?_ fun r hr => Gives.now trivial
  refine Gives.loop (fun s => 0 ≤ s.2 ∧ s.2 ≤ (xs.length : Int)) (fun s => ((xs.length : Int) - s.2).toNat) ?_ ⟨by simp only []; omega, by simp only []; omega⟩
  intro s ⟨i1, i2⟩
  unfold T_euclid_square_l1
  refine Gives.ite (fun c => Gives.opt (at_rd i1 c) (Gives.opt (at_rd i1 (by omega)) ?_)) fun c => Gives.now trivial
  rw [w64_id (x := s.2 + 1) (by omega) (by omega)]
  exact Gives.now ⟨⟨by simp only []; omega, by simp only []; omega⟩, by simp only []; omega⟩
theorem eu_distance {xs ys : List Int} (hx : Win xs) (hy : Win ys) (hl : xs.length = ys.length) : Gives (fun k => T_euclid_Distance k xs ys) (fun r => r.2 = 0) := by
  refine Gives.step ?_
  simp only [T_euclid_Distance]
  refine Gives.bind (eu_check hx hy hl) fun e he => ?_
  subst he
  exact Gives.neg (by simp) (Gives.bind (eu_square hx hl) fun v _ => Gives.now rfl)

/-! Sums of the first samples. -/
def psum (x : List Int) (i : Int) : Int := (x.take i.toNat).sum
theorem psum_zero (x : List Int) : psum x 0 = 0 := by simp [psum]
theorem psum_succ {x : List Int} {i : Int} (h0 : 0 ≤ i) (h1 : i < (x.length : Int)) : psum x (i + 1) = psum x i + rd x i := by
  unfold psum rd
  rw [show (i + 1).toNat = i.toNat + 1 by omega, List.take_succ_eq_append_getElem (show i.toNat < x.length by omega), List.sum_append]
  rw [List.getD_eq_getElem?_getD, List.getElem?_eq_getElem (show i.toNat < x.length by omega)]
  simp
theorem psum_bound {x : List Int} {B : Int} (hB : ∀ v ∈ x, -B ≤ v ∧ v ≤ B) : ∀ n : Nat, n ≤ x.length → -(B * n) ≤ psum x n ∧ psum x n ≤ B * n
  | 0, _ => by simp [psum]
  | n + 1, h => by
    have ih := psum_bound hB n (by omega)
    have e := psum_succ (x := x) (i := (n : Int)) (by omega) (by omega)
    have hb := hB _ (rd_mem (xs := x) (i := (n : Int)) (by omega) (by omega))
    have : (((n + 1 : Nat)) : Int) = (n : Int) + 1 := by omega
    rw [this, e, Int.mul_add, Int.mul_one]
    omega
theorem psum_all {x : List Int} : psum x x.length = x.sum := by simp [psum]
theorem part_sum {x : List Int} {a b : Int} (h0 : 0 ≤ a) (h1 : a ≤ b) : ((x.drop a.toNat).take (b.toNat - a.toNat)).sum = psum x b - psum x a := by
  have e : x.take b.toNat = x.take a.toNat ++ (x.drop a.toNat).take (b.toNat - a.toNat) := by
    conv => lhs; rw [show b.toNat = a.toNat + (b.toNat - a.toNat) by omega]
    rw [List.take_add]
  unfold psum
  rw [e, List.sum_append]
  omega
theorem psum_shift {x z : List Int} {c : Int} (hl : z.length = x.length) (h : ∀ q, 0 ≤ q → q < (x.length : Int) → rd z q = rd x q + c) : ∀ n : Nat, n ≤ x.length → psum z n = psum x n + n * c
  | 0, _ => by simp [psum]
  | n + 1, hn => by
    have ih := psum_shift hl h n (by omega)
    have e1 := psum_succ (x := x) (i := (n : Int)) (by omega) (by omega)
    have e2 := psum_succ (x := z) (i := (n : Int)) (by omega) (by omega)
    have e3 := h n (by omega) (by omega)
    have : (((n + 1 : Nat)) : Int) = (n : Int) + 1 := by omega
    rw [this, e1, e2, e3, ih, Int.add_mul, Int.one_mul]
    omega
/-! Where the pieces of a window begin. -/
def cut (m n p : Int) : Int := p * m / n
theorem cut_zero (m n : Int) : cut m n 0 = 0 := by simp [cut]
theorem cut_last {m n : Int} (hn : 1 ≤ n) : cut m n n = m := by unfold cut; exact Int.mul_ediv_cancel_left _ (by omega)
theorem cut_mono {m n p q : Int} (hn : 1 ≤ n) (hm : 0 ≤ m) (h : p ≤ q) : cut m n p ≤ cut m n q := by
  unfold cut
  exact Int.ediv_le_ediv (by omega) (Int.mul_le_mul_of_nonneg_right h hm)
theorem cut_range {m n p : Int} (hn : 1 ≤ n) (hm : 0 ≤ m) (h0 : 0 ≤ p) (h1 : p ≤ n) : 0 ≤ cut m n p ∧ cut m n p ≤ m := by
  have a := cut_mono (m := m) hn hm h0
  have b := cut_mono (m := m) hn hm h1
  rw [cut_zero] at a
  rw [cut_last hn] at b
  exact ⟨a, b⟩
theorem cut_w {m n p : Int} (hn : 1 ≤ n) (hn2 : n ≤ 8) (hm : 0 ≤ m) (hm2 : m ≤ 32) (h0 : 0 ≤ p) (h1 : p ≤ n) : w64 ((w64 (p * m)).tdiv n) = cut m n p := by
  have h2 : 0 ≤ p * m := Int.mul_nonneg h0 hm
  have h3 : p * m ≤ 8 * 32 := Int.le_trans (Int.mul_le_mul_of_nonneg_right (show p ≤ 8 by omega) hm) (Int.mul_le_mul_of_nonneg_left hm2 (by omega))
  have h4 := cut_range hn hm h0 h1
  rw [w64_id (x := p * m) (by omega) (by omega), Int.tdiv_eq_ediv_of_nonneg h2, w64_id]
  · rfl
  · have : cut m n p = p * m / n := rfl
    omega
  · have : cut m n p = p * m / n := rfl
    omega
theorem Gives.rangeT {S R : Type} {f : Nat → Int → Int → Int → S → Option (S ⊕ R)} {m n : Int} (hn : 1 ≤ n) (hn2 : n ≤ 8) (hm : 0 ≤ m) (hm2 : m ≤ 32) (Inv : Int → S → Prop)
    (h : ∀ p s, 0 ≤ p → p < n → Inv p s → Gives (fun k => f k p (cut m n p) (cut m n (p + 1)) s) (fun x => ∃ s', x = .inl s' ∧ Inv (p + 1) s')) {s : S} (hs : Inv 0 s) :
    Gives (fun k => allT (f k) m n k 0 s) (fun x => ∃ s', x = .inl s' ∧ Inv n s') := by
  suffices H : ∀ (d : Nat) (p : Int) (s : S), 0 ≤ p → p ≤ n → (n - p).toNat < d → Inv p s → ∃ r, (∃ K N, ∀ k, K ≤ k → ∀ j, N ≤ j → allT (f k) m n j p s = some r) ∧ ∃ s', r = .inl s' ∧ Inv n s' by
    obtain ⟨r, ⟨K, N, hK⟩, hr⟩ := H (n.toNat + 1) 0 s (by omega) (by omega) (by omega) hs
    exact ⟨r, ⟨max K N, fun k hk => hK k (by omega) k (by omega)⟩, hr⟩
  intro d
  induction d with
  | zero => intro p s _ _ h; omega
  | succ d ih =>
    intro p s h0 h1 hd hI
    by_cases c : p < n
    · obtain ⟨x, ⟨K, hK⟩, s', rfl, hs'⟩ := h p s h0 c hI
      obtain ⟨r, ⟨K2, N, hK2⟩, hr⟩ := ih (p + 1) s' (by omega) (by omega) (by omega) hs'
      refine ⟨r, ⟨max K K2, N + 1, fun k hk j hj => ?_⟩, hr⟩
      obtain ⟨j', rfl⟩ : ∃ j', j = j' + 1 := ⟨j - 1, by omega⟩
      simp only [allT]
      rw [if_pos c, if_pos (by omega), w64_id (x := p + 1) (by omega) (by omega), cut_w hn hn2 hm hm2 h0 (by omega), cut_w hn hn2 hm hm2 (by omega) (by omega), show f k p (cut m n p) (cut m n (p + 1)) s = some (.inl s') from hK k (by omega)]
      exact hK2 k (by omega) j' (by omega)
    · have : p = n := by omega
      subst this
      refine ⟨.inl s, ⟨0, 1, fun k _ j hj => ?_⟩, s, rfl, hI⟩
      obtain ⟨j', rfl⟩ : ∃ j', j = j' + 1 := ⟨j - 1, by omega⟩
      simp only [allT]
      rw [if_neg c]
/-! What the functions of the chapter compute. -/
theorem pc_total {x : List Int} (hs : Smp x) (hl : x.length ≤ 32) : Gives (fun k => T_pieces_total k x) (fun r => r = x.sum) := by
  have hB : ∀ v ∈ x, -(1000 : Int) ≤ v ∧ v ≤ 1000 := hs
  refine Gives.step ?_
  simp only [T_pieces_total]
  refine Gives.bind (Q := fun r => r = x.sum) ?_ fun r hr => Gives.now hr
  refine Gives.loop (fun s => 0 ≤ s.2 ∧ s.2 ≤ (x.length : Int) ∧ s.1 = psum x s.2) (fun s => ((x.length : Int) - s.2).toNat) ?_ ⟨by simp only []; omega, by simp only []; omega, (psum_zero x).symm⟩
  intro ⟨t, i⟩ ⟨i1, i2, i3⟩
  simp only at i1 i2 i3
  unfold T_pieces_total_l1
  simp only []
  refine Gives.ite (fun c => Gives.opt (at_rd i1 c) ?_) fun c => Gives.now ?_
  · have e := psum_succ i1 c
    have b := psum_bound hB (i.toNat + 1) (by omega)
    have : ((i.toNat + 1 : Nat) : Int) = i + 1 := by omega
    rw [this] at b
    rw [w64_id (x := i + 1) (by omega) (by omega), w64_id (x := t + rd x i) (by omega) (by omega)]
    exact Gives.now ⟨⟨by simp only []; omega, by simp only []; omega, by simp only []; omega⟩, by simp only []; omega⟩
  · have : i = x.length := by omega
    subst this
    rw [i3]; exact psum_all
theorem pc_all (m n : Int) : Gives (fun k => T_pieces_all k m n) (fun _ => True) := by
  refine Gives.step ?_
  simp only [T_pieces_all]
  exact Gives.now trivial
theorem pc_number (m n : Int) : Gives (fun k => T_pieces_number k m n) (fun _ => True) := by
  refine Gives.step ?_
  simp only [T_pieces_number]
  exact Gives.now trivial
theorem pc_check {x : List Int} {n : Int} (hx : Win x) (hn : 1 ≤ n) (hn2 : n ≤ 8) (hn3 : n ≤ (x.length : Int)) : Gives (fun k => T_pieces_check k x n) (fun r => r = 0) := by
  refine Gives.step ?_
  simp only [T_pieces_check]
  refine Gives.bind (eu_distance hx hx rfl) fun e he => Gives.neg (by simp [he]) (Gives.bind (pc_number _ _) fun _ _ => Gives.neg (by simp; omega) (Gives.now rfl))
theorem rd_set_eq {xs : List Int} {i v : Int} (h0 : 0 ≤ i) (h1 : i < (xs.length : Int)) : rd (xs.set (0 + i.toNat) v) i = v := by
  unfold rd
  rw [Nat.zero_add, List.getD_eq_getElem?_getD, List.getElem?_set_self (by omega)]; rfl
theorem rd_set_ne {xs : List Int} {i j v : Int} (h0 : 0 ≤ i) (h1 : 0 ≤ j) (h : i ≠ j) : rd (xs.set (0 + i.toNat) v) j = rd xs j := by
  unfold rd
  rw [Nat.zero_add, List.getD_eq_getElem?_getD, List.getElem?_set_ne (by omega), List.getD_eq_getElem?_getD]
theorem pc_part {x : List Int} {n p : Int} (hx : Win x) (hn : 1 ≤ n) (h0 : 0 ≤ p) (h1 : p < n) : 0 ≤ cut x.length n p ∧ cut x.length n p ≤ cut x.length n (p + 1) ∧ cut x.length n (p + 1) ≤ (x.length : Int) ∧
    Gives (fun k => T_pieces_total k ((x.drop (cut x.length n p).toNat).take ((cut x.length n (p + 1)).toNat - (cut x.length n p).toNat))) (fun r => r = psum x (cut x.length n (p + 1)) - psum x (cut x.length n p)) := by
  have a := cut_range (m := x.length) hn (by omega) h0 (by omega)
  have b := cut_range (m := x.length) (p := p + 1) hn (by omega) (by omega) (by omega)
  have c := cut_mono (m := x.length) (p := p) (q := p + 1) hn (by omega) (by omega)
  refine ⟨a.1, c, b.2, ?_⟩
  have x2 := hx.hi
  refine (pc_total ((hx.smp.drop _).take _) (by simp; omega)).mono fun r hr => ?_
  rw [hr]; exact part_sum a.1 c
theorem prod_bound {a b A B : Int} (h1 : -A ≤ a) (h2 : a ≤ A) (h3 : -B ≤ b) (h4 : b ≤ B) : -(A * B) ≤ a * b ∧ a * b ≤ A * B := by
  have hA : 0 ≤ A := by omega
  have hB : 0 ≤ B := by omega
  have p1 : 0 ≤ (A - a) * (B - b) := Int.mul_nonneg (by omega) (by omega)
  have p2 : 0 ≤ (A + a) * (B + b) := Int.mul_nonneg (by omega) (by omega)
  have p3 : 0 ≤ (A - a) * (B + b) := Int.mul_nonneg (by omega) (by omega)
  have p4 : 0 ≤ (A + a) * (B - b) := Int.mul_nonneg (by omega) (by omega)
  rw [Int.sub_mul, Int.mul_sub, Int.mul_sub] at p1
  rw [Int.add_mul, Int.mul_add, Int.mul_add] at p2
  rw [Int.sub_mul, Int.mul_add, Int.mul_add] at p3
  rw [Int.add_mul, Int.mul_sub, Int.mul_sub] at p4
  omega
theorem pc_bounds {x : List Int} (hx : Win x) {i : Int} (h0 : 0 ≤ i) (h1 : i ≤ (x.length : Int)) : -32000 ≤ psum x i ∧ psum x i ≤ 32000 := by
  have x2 := hx.hi
  have := psum_bound (B := 1000) hx.smp i.toNat (by omega)
  rw [Int.toNat_of_nonneg h0] at this
  omega
theorem pc_centred {x : List Int} {n : Int} (hx : Win x) (hn : 1 ≤ n) (hn2 : n ≤ 8) (hn3 : n ≤ (x.length : Int)) :
    Gives (fun k => T_pieces_Centred k x n) (fun r => r.2 = 0 ∧ (r.1.length : Int) = n ∧ ∀ p, 0 ≤ p → p < n → rd r.1 p = (x.length : Int) * (psum x (cut x.length n (p + 1)) - psum x (cut x.length n p)) - (cut x.length n (p + 1) - cut x.length n p) * x.sum) := by
  have x2 := hx.hi
  refine Gives.step ?_
  simp only [T_pieces_Centred]
  refine Gives.bind (pc_check hx hn hn2 hn3) fun e he => ?_
  subst he
  refine Gives.neg (by simp) (Gives.bind (pc_total hx.smp hx.hi) fun t ht => Gives.pos (by unfold LIM; omega) (Gives.bind (pc_all _ _) fun _ _ => ?_))
  subst ht
  refine Gives.bind (Gives.rangeT (m := (x.length : Int)) (n := n) hn hn2 (by omega) (by omega) (fun p s => s.length = n.toNat ∧ ∀ q, 0 ≤ q → q < p → rd s q = (x.length : Int) * (psum x (cut x.length n (q + 1)) - psum x (cut x.length n q)) - (cut x.length n (q + 1) - cut x.length n q) * x.sum) ?_ ⟨by simp, fun q h1 h2 => by omega⟩) fun r hr => ?_
  · intro p s h0 h1 ⟨i1, i2⟩
    obtain ⟨c1, c2, c3, c4⟩ := pc_part hx hn h0 h1
    unfold T_pieces_Centred_r1
    refine Gives.pos (by omega) (Gives.bind c4 fun v hv => Gives.pos (by omega) ?_)
    have b1 := pc_bounds hx (i := cut x.length n (p + 1)) (by omega) c3
    have b2 := pc_bounds hx (i := cut x.length n p) c1 (by omega)
    have b3 := pc_bounds hx (i := x.length) (by omega) (by omega)
    rw [psum_all] at b3
    have e1 := prod_bound (a := (x.length : Int)) (b := v) (A := 32) (B := 64000) (by omega) (by omega) (by omega) (by omega)
    have e2 := prod_bound (a := cut x.length n (p + 1) - cut x.length n p) (b := x.sum) (A := 32) (B := 32000) (by omega) (by omega) (by omega) (by omega)
    rw [w64_id (x := (x.length : Int) * v) (by omega) (by omega), w64_id (x := cut x.length n (p + 1) - cut x.length n p) (by omega) (by omega), w64_id (x := (cut x.length n (p + 1) - cut x.length n p) * x.sum) (by omega) (by omega), w64_id (by omega) (by omega)]
    refine Gives.now ⟨_, rfl, by simp [i1], fun q h2 h3 => ?_⟩
    by_cases c : q = p
    · subst c; rw [rd_set_eq h2 (by omega), hv]
    · rw [rd_set_ne h0 h2 (by omega)]; exact i2 q h2 (by omega)
  · obtain ⟨s', rfl, k1, k2⟩ := hr
    simp only []
    rw [drop_take_len k1]
    exact Gives.now ⟨rfl, by simp only []; omega, k2⟩
theorem rd_app_l {xs ys : List Int} {i : Int} (h1 : i.toNat < xs.length) : rd (xs ++ ys) i = rd xs i := by
  unfold rd
  rw [List.getD_eq_getElem?_getD, List.getElem?_append_left h1, List.getD_eq_getElem?_getD]
theorem rd_app_1 {xs : List Int} {v i : Int} (h0 : 0 ≤ i) (h1 : (xs.length : Int) = i) : rd (xs ++ [v]) i = v := by
  unfold rd
  rw [List.getD_eq_getElem?_getD, List.getElem?_append_right (by omega)]
  simp [show i.toNat - xs.length = 0 by omega]
theorem pc_starts {m n : Int} (hm : 2 ≤ m) (hm2 : m ≤ 32) (hn : 1 ≤ n) (hn2 : n ≤ 8) (hn3 : n ≤ m) :
    Gives (fun k => T_pieces_Starts k m n) (fun r => r.2 = 0 ∧ (r.1.length : Int) = n + 1 ∧ ∀ p, 0 ≤ p → p ≤ n → rd r.1 p = cut m n p) := by
  refine Gives.step ?_
  simp only [T_pieces_Starts]
  refine Gives.neg (by simp; omega) (Gives.bind (pc_number _ _) fun _ _ => Gives.neg (by simp; omega) (Gives.bind (pc_all _ _) fun _ _ => ?_))
  refine Gives.bind (Gives.rangeT (m := m) (n := n) hn hn2 (by omega) (by omega) (fun p s => (s.1 : Int) = p + 1 ∧ s.2.length = s.1 ∧ ∀ q, 0 ≤ q → q ≤ p → rd s.2 q = cut m n q) ?_ ⟨by simp, by simp, fun q h1 h2 => by
      have : q = 0 := by omega
      subst this; rw [cut_zero]; rfl⟩) fun r hr => ?_
  · intro p s h0 h1 ⟨i1, i2, i3⟩
    unfold T_pieces_Starts_r1
    rw [drop_take_len i2]
    refine Gives.pos (by unfold LIM; omega) (Gives.now ⟨_, rfl, by simp only []; omega, by simp [i2], fun q h2 h3 => ?_⟩)
    simp only []
    by_cases c : q = p + 1
    · subst c; rw [rd_app_1 (by omega) (by omega)]
    · rw [rd_app_l (by omega)]; exact i3 q h2 (by omega)
  · obtain ⟨s', rfl, k1, k2, k3⟩ := hr
    simp only []
    rw [drop_take_len k2]
    exact Gives.now ⟨rfl, by simp only []; omega, k3⟩

theorem pc_sums {x : List Int} {n : Int} (hx : Win x) (hn : 1 ≤ n) (hn2 : n ≤ 8) (hn3 : n ≤ (x.length : Int)) :
    Gives (fun k => T_pieces_Sums k x n) (fun r => r.2 = 0 ∧ (r.1.length : Int) = n ∧ ∀ p, 0 ≤ p → p < n → rd r.1 p = psum x (cut x.length n (p + 1)) - psum x (cut x.length n p)) := by
  have x2 := hx.hi
  refine Gives.step ?_
  simp only [T_pieces_Sums]
  refine Gives.bind (pc_check hx hn hn2 hn3) fun e he => ?_
  subst he
  refine Gives.neg (by simp) (Gives.pos (by unfold LIM; omega) (Gives.bind (pc_all _ _) fun _ _ => ?_))
  refine Gives.bind (Gives.rangeT (m := (x.length : Int)) (n := n) hn hn2 (by omega) (by omega) (fun p s => s.length = n.toNat ∧ ∀ q, 0 ≤ q → q < p → rd s q = psum x (cut x.length n (q + 1)) - psum x (cut x.length n q)) ?_ ⟨by simp, fun q h1 h2 => by omega⟩) fun r hr => ?_
  · intro p s h0 h1 ⟨i1, i2⟩
    obtain ⟨c1, c2, c3, c4⟩ := pc_part hx hn h0 h1
    unfold T_pieces_Sums_r1
    refine Gives.pos (by omega) (Gives.bind c4 fun v hv => Gives.pos (by omega) (Gives.now ⟨_, rfl, by simp [i1], fun q h2 h3 => ?_⟩))
    by_cases c : q = p
    · subst c; rw [rd_set_eq h2 (by omega)]; exact hv
    · rw [rd_set_ne h0 h2 (by omega)]; exact i2 q h2 (by omega)
  · obtain ⟨s', rfl, k1, k2⟩ := hr
    simp only []
    rw [drop_take_len k1]
    exact Gives.now ⟨rfl, by simp only []; omega, k2⟩

/-! The greatest common divisor. -/
theorem gcd_step (m n : Nat) (h : n ≠ 0) : Nat.gcd n (m % n) = Nat.gcd m n := by
  rw [Nat.gcd_comm m n, Nat.gcd_rec n m, Nat.gcd_comm]
theorem tmod_nat (m n : Nat) : (m : Int).tmod n = ((m % n : Nat) : Int) := by
  rw [Int.tmod_eq_emod_of_nonneg (by omega)]; rfl
theorem ra_divisor (m n : Nat) : Gives (fun k => T_ratio_divisor k m n) (fun r => r = (Nat.gcd m n : Nat)) := by
  refine Gives.step ?_
  simp only [T_ratio_divisor]
  refine Gives.bind (Q := fun r => r = ((Nat.gcd m n : Nat) : Int)) ?_ fun r hr => Gives.now hr
  refine Gives.loop (fun s => ∃ a b : Nat, s = ((a : Int), (b : Int)) ∧ Nat.gcd a b = Nat.gcd m n) (fun s => s.2.toNat) ?_ ⟨m, n, rfl, rfl⟩
  intro s ⟨a, b, hs, hg⟩
  subst hs
  unfold T_ratio_divisor_l1
  simp only []
  by_cases c : b = 0
  · subst c
    refine Gives.neg (by simp) (Gives.now ?_)
    rw [← hg]; simp
  · refine Gives.pos (by simp; omega) (Gives.pos (by omega) (Gives.now ⟨⟨b, a % b, by rw [tmod_nat], by rw [gcd_step a b c, hg]⟩, ?_⟩))
    simp only [tmod_nat]
    have := Nat.mod_lt a (show 0 < b by omega)
    omega
theorem ra_common (m n : Nat) : Gives (fun k => T_ref01_common k m n) (fun r => r = (Nat.gcd m n : Nat)) := by
  refine Gives.step ?_
  simp only [T_ref01_common]
  refine Gives.bind (Q := fun r => r = ((Nat.gcd m n : Nat) : Int)) ?_ fun r hr => Gives.now hr
  refine Gives.loop (fun s => ∃ a b : Nat, s = ((a : Int), (b : Int)) ∧ Nat.gcd a b = Nat.gcd m n) (fun s => s.2.toNat) ?_ ⟨m, n, rfl, rfl⟩
  intro s ⟨a, b, hs, hg⟩
  subst hs
  unfold T_ref01_common_l1
  simp only []
  by_cases c : b = 0
  · subst c
    refine Gives.neg (by simp) (Gives.now ?_)
    rw [← hg]; simp
  · refine Gives.pos (by omega) (Gives.pos (by omega) (Gives.now ⟨⟨b, a % b, by rw [tmod_nat], by rw [gcd_step a b c, hg]⟩, ?_⟩))
    simp only [tmod_nat]
    have := Nat.mod_lt a (show 0 < b by omega)
    omega
theorem tdiv_nat (m n : Nat) : (m : Int).tdiv n = ((m / n : Nat) : Int) := by
  rw [Int.tdiv_eq_ediv_of_nonneg (by omega)]; rfl
theorem ra_Make {m n : Nat} (hn : 0 < n) (h1 : m ≤ 2305843009213693952) (h2 : n ≤ 1152921504606846976) : Gives (fun k => T_ratio_Make k m n) (fun r => r = (((m / Nat.gcd m n : Nat) : Int), ((n / Nat.gcd m n : Nat) : Int), 0)) := by
  have g0 : 0 < Nat.gcd m n := Nat.gcd_pos_of_pos_right m hn
  have d1 : m / Nat.gcd m n ≤ m := Nat.div_le_self _ _
  have d2 : n / Nat.gcd m n ≤ n := Nat.div_le_self _ _
  have d3 : 0 < n / Nat.gcd m n := Nat.div_pos (Nat.gcd_le_right m hn) g0
  refine Gives.step ?_
  simp only [T_ratio_Make]
  refine Gives.neg (by simp; omega) (Gives.bind (ra_divisor m n) fun g hg => ?_)
  subst hg
  simp only [tdiv_nat]
  generalize m / Nat.gcd m n = qa at d1 ⊢
  generalize n / Nat.gcd m n = qb at d2 d3 ⊢
  rw [w64_id (x := (qa : Int)) (by omega) (by omega), w64_id (x := (qb : Int)) (by omega) (by omega)]
  refine Gives.pos (by omega) (Gives.bind (Q := fun _ => True) ?_ fun _ _ => Gives.neg (by simp; omega) (Gives.now rfl))
  refine Gives.step ?_
  simp only [T_ratio_within]
  exact Gives.now trivial

/-! Sums of ratios. -/
/-- p / q is T / M, in lowest terms. -/
structure Rep (p q T M : Nat) : Prop where
  pos : 0 < q
  cop : Nat.gcd p q = 1
  eq : p * M = T * q
theorem Rep.dvd {p q T M : Nat} (h : Rep p q T M) : q ∣ M := by
  have : q ∣ p * M := ⟨T, by rw [h.eq, Nat.mul_comm]⟩
  exact Nat.Coprime.dvd_of_dvd_mul_left (Nat.coprime_comm.1 h.cop) this
theorem Rep.le {p q T M : Nat} (h : Rep p q T M) (hM : 0 < M) : p ≤ T ∧ q ≤ M := by
  obtain ⟨m, hm⟩ := h.dvd
  have e := h.eq
  have hm0 : 0 < m := by
    rcases Nat.eq_zero_or_pos m with c | c
    · subst c; omega
    · exact c
  refine ⟨?_, Nat.le_of_dvd hM h.dvd⟩
  have : p * m = T := by
    have h1 : q * (p * m) = q * T := by
      rw [hm] at e
      calc q * (p * m) = p * (q * m) := by grind
        _ = T * q := e
        _ = q * T := Nat.mul_comm _ _
    exact Nat.eq_of_mul_eq_mul_left h.pos h1
  calc p = p * 1 := by omega
    _ ≤ p * m := Nat.mul_le_mul_left p hm0
    _ = T := this
theorem Rep.uniq {p q p' q' T M : Nat} (h : Rep p q T M) (k : Rep p' q' T M) (hM : 0 < M) : p = p' ∧ q = q' := by
  have e : p * q' = p' * q := by
    have h1 : M * (p * q') = M * (p' * q) := by
      calc M * (p * q') = (p * M) * q' := by grind
        _ = (T * q) * q' := by rw [h.eq]
        _ = (T * q') * q := by grind
        _ = (p' * M) * q := by rw [k.eq]
        _ = M * (p' * q) := by grind
    exact Nat.eq_of_mul_eq_mul_left hM h1
  have d1 : q ∣ q' := Nat.Coprime.dvd_of_dvd_mul_left (Nat.coprime_comm.1 h.cop) ⟨p', by rw [e, Nat.mul_comm]⟩
  have d2 : q' ∣ q := Nat.Coprime.dvd_of_dvd_mul_left (Nat.coprime_comm.1 k.cop) ⟨p, by rw [← e, Nat.mul_comm]⟩
  have eq : q = q' := Nat.dvd_antisymm d1 d2
  subst eq
  exact ⟨Nat.eq_of_mul_eq_mul_right h.pos e, rfl⟩
theorem Rep.make {m n w : Nat} (hn : 0 < n) : Rep (m / Nat.gcd m n) (n / Nat.gcd m n) (m * w) (n * w) := by
  have g0 : 0 < Nat.gcd m n := Nat.gcd_pos_of_pos_right m hn
  refine ⟨Nat.div_pos (Nat.gcd_le_right m hn) g0, by rw [Nat.gcd_div (Nat.gcd_dvd_left m n) (Nat.gcd_dvd_right m n), Nat.div_self g0], ?_⟩
  obtain ⟨a, ha⟩ := Nat.gcd_dvd_left m n
  obtain ⟨b, hb⟩ := Nat.gcd_dvd_right m n
  generalize Nat.gcd m n = g at ha hb g0
  subst ha hb
  rw [Nat.mul_div_cancel_left _ g0, Nat.mul_div_cancel_left _ g0]
  grind
/-- The sum of two, as the function makes it. -/
theorem Rep.add {a b c d T U M : Nat} (h : Rep a b T M) (k : Rep c d U M) (hM : 0 < M) :
    let g := Nat.gcd b d
    let t := a * (d / g) + c * (b / g)
    let e := Nat.gcd t g
    Rep (t / e) (b / g * (d / e)) (T + U) M ∧ t ≤ T + U ∧ b / g * (d / e) ≤ M := by
  intro g t e
  have g0 : 0 < g := Nat.gcd_pos_of_pos_right b k.pos
  obtain ⟨B, hB⟩ : g ∣ b := Nat.gcd_dvd_left b d
  obtain ⟨D, hD⟩ : g ∣ d := Nat.gcd_dvd_right b d
  have eB : b / g = B := by rw [hB, Nat.mul_div_cancel_left _ g0]
  have eD : d / g = D := by rw [hD, Nat.mul_div_cancel_left _ g0]
  have cBD : Nat.gcd B D = 1 := by
    have := Nat.gcd_div (Nat.gcd_dvd_left b d) (Nat.gcd_dvd_right b d)
    rw [show Nat.gcd b d = g from rfl, eB, eD, Nat.div_self g0] at this
    exact this
  have ht : t = a * D + c * B := by show a * (d / g) + c * (b / g) = _; rw [eB, eD]
  have e0 : 0 < e := Nat.gcd_pos_of_pos_right t g0
  obtain ⟨t', ht'⟩ : e ∣ t := Nat.gcd_dvd_left t g
  obtain ⟨g', hg'⟩ : e ∣ g := Nat.gcd_dvd_right t g
  have et : t / e = t' := by rw [ht', Nat.mul_div_cancel_left _ e0]
  have ed : d / e = g' * D := by
    rw [hD, hg', Nat.mul_assoc, Nat.mul_div_cancel_left _ e0]
  have B0 : 0 < B := by
    rcases Nat.eq_zero_or_pos B with c | c
    · have := h.pos; subst c; omega
    · exact c
  have D0 : 0 < D := by
    rcases Nat.eq_zero_or_pos D with c | c
    · have := k.pos; subst c; omega
    · exact c
  have g'0 : 0 < g' := by
    rcases Nat.eq_zero_or_pos g' with c | c
    · subst c; omega
    · exact c
  have c1 : Nat.gcd t' g' = 1 := by
    have := Nat.gcd_div (Nat.gcd_dvd_left t g) (Nat.gcd_dvd_right t g)
    rw [show Nat.gcd t g = e from rfl, et, Nat.div_self e0] at this
    have e2 : g / e = g' := by rw [hg', Nat.mul_div_cancel_left _ e0]
    rwa [e2] at this
  have caB : Nat.Coprime a B := Nat.Coprime.coprime_dvd_right ⟨g, by rw [hB, Nat.mul_comm]⟩ h.cop
  have ccD : Nat.Coprime c D := Nat.Coprime.coprime_dvd_right ⟨g, by rw [hD, Nat.mul_comm]⟩ k.cop
  have ctB : Nat.Coprime t B := by
    show Nat.gcd t B = 1
    rw [ht, Nat.gcd_add_mul_right_left]
    exact Nat.Coprime.mul_left caB (Nat.coprime_comm.1 cBD)
  have ctD : Nat.Coprime t D := by
    show Nat.gcd t D = 1
    rw [ht, Nat.gcd_mul_right_add_left]
    exact Nat.Coprime.mul_left ccD cBD
  have td : t' ∣ t := ⟨e, by rw [ht', Nat.mul_comm]⟩
  have c2 : Nat.Coprime t' B := Nat.Coprime.coprime_dvd_left td ctB
  have c3 : Nat.Coprime t' D := Nat.Coprime.coprime_dvd_left td ctD
  have main : t * M = (T + U) * (g * B * D) := by
    have e1 : a * M = T * (g * B) := by rw [← hB]; exact h.eq
    have e2 : c * M = U * (g * D) := by rw [← hD]; exact k.eq
    calc t * M = (a * M) * D + (c * M) * B := by rw [ht]; grind
      _ = T * (g * B) * D + U * (g * D) * B := by rw [e1, e2]
      _ = (T + U) * (g * B * D) := by grind
  have lcm : g * B * D ∣ M := by
    have h1 : b ∣ M := h.dvd
    have h2 : d ∣ M := k.dvd
    have : Nat.lcm b d ∣ M := Nat.lcm_dvd h1 h2
    have e3 : Nat.lcm b d = g * B * D := by
      show b * d / g = _
      rw [hD, ← Nat.mul_assoc, Nat.mul_comm b g, Nat.mul_assoc, Nat.mul_div_cancel_left _ g0, hB]
    rwa [e3] at this
  obtain ⟨w, hw⟩ := lcm
  have w0 : 0 < w := by
    rcases Nat.eq_zero_or_pos w with c | c
    · subst c; omega
    · exact c
  have L0 : 0 < g * B * D := Nat.mul_pos (Nat.mul_pos g0 B0) D0
  rw [et, eB, ed]
  refine ⟨⟨Nat.mul_pos B0 (Nat.mul_pos g'0 D0), Nat.Coprime.mul_right c2 (Nat.Coprime.mul_right c1 c3), ?_⟩, ?_, ?_⟩
  · have h1 : e * (t' * M) = e * ((T + U) * (B * (g' * D))) := by
      calc e * (t' * M) = t * M := by rw [ht']; grind
        _ = (T + U) * (g * B * D) := main
        _ = e * ((T + U) * (B * (g' * D))) := by rw [hg']; grind
    exact Nat.eq_of_mul_eq_mul_left e0 h1
  · have h1 : (g * B * D) * (t * w) = (g * B * D) * (T + U) := by
      calc (g * B * D) * (t * w) = t * (g * B * D * w) := by grind
        _ = t * M := by rw [← hw]
        _ = (T + U) * (g * B * D) := main
        _ = _ := Nat.mul_comm _ _
    have h2 := Nat.eq_of_mul_eq_mul_left L0 h1
    calc t = t * 1 := by omega
      _ ≤ t * w := Nat.mul_le_mul_left t w0
      _ = T + U := h2
  · have : B * (g' * D) ∣ M := by
      refine ⟨e * w, ?_⟩
      rw [hw, hg']; grind
    exact Nat.le_of_dvd hM this
/-! Words of 64 bits. -/

/-! Sums of ratios, as they are reckoned. -/
theorem u64_id {x : Int} (h1 : 0 ≤ x) (h2 : x < 18446744073709551616) : IntKind.wrap .u64 x = x := by
  show (if (false && decide (x % 18446744073709551616 ≥ 9223372036854775808)) = true then x % 18446744073709551616 - 18446744073709551616 else x % 18446744073709551616) = x
  simp only [Bool.false_and, Bool.false_eq_true, if_false]
  omega
theorem and_mask {x : Int} (h1 : 0 ≤ x) (h2 : x < 18446744073709551616) : bAnd .u64 x 4294967295 = x % 4294967296 := by
  obtain ⟨n, rfl⟩ : ∃ n : Nat, x = n := ⟨x.toNat, by omega⟩
  unfold bAnd
  have e : (BitVec.ofInt (IntKind.bits .u64) (n : Int) &&& BitVec.ofInt (IntKind.bits .u64) 4294967295).toNat = n % 4294967296 := by
    show (BitVec.ofInt 64 (n : Int) &&& BitVec.ofInt 64 4294967295).toNat = _
    rw [BitVec.toNat_and, BitVec.ofInt_natCast, BitVec.toNat_ofNat, Nat.mod_eq_of_lt (by omega)]
    have : (BitVec.ofInt 64 4294967295).toNat = 2 ^ 32 - 1 := by decide
    rw [this, Nat.and_two_pow_sub_one_eq_mod]
  rw [e, u64_id (by omega) (by omega)]
  rfl
/-- The high word of a product that fits one word. -/
def hiE (x y : Int) : Int := IntKind.wrap .u64 ((IntKind.wrap .u64 ((IntKind.wrap .u64 ((x.fdiv (2 ^ 32)) * (y.fdiv (2 ^ 32)))) + ((IntKind.wrap .u64 ((IntKind.wrap .u64 ((x.fdiv (2 ^ 32)) * (bAnd .u64 y 4294967295))) + ((IntKind.wrap .u64 ((bAnd .u64 x 4294967295) * (bAnd .u64 y 4294967295))).fdiv (2 ^ 32)))).fdiv (2 ^ 32)))) + ((IntKind.wrap .u64 ((bAnd .u64 (IntKind.wrap .u64 ((IntKind.wrap .u64 ((x.fdiv (2 ^ 32)) * (bAnd .u64 y 4294967295))) + ((IntKind.wrap .u64 ((bAnd .u64 x 4294967295) * (bAnd .u64 y 4294967295))).fdiv (2 ^ 32)))) 4294967295) + (IntKind.wrap .u64 ((bAnd .u64 x 4294967295) * (y.fdiv (2 ^ 32)))))).fdiv (2 ^ 32)))
theorem hi_zero {x y : Int} (hx : 0 ≤ x) (hx2 : x < 18446744073709551616) (hy : 0 ≤ y) (hy2 : y < 4294967296) (h : x * y < 18446744073709551616) : hiE x y = 0 := by
  have p : ((2 : Int) ^ 32) = 4294967296 := by decide
  have f1 : y.fdiv 4294967296 = 0 := by rw [Int.fdiv_eq_ediv_of_nonneg _ (by omega)]; omega
  have f2 : x.fdiv 4294967296 = x / 4294967296 := Int.fdiv_eq_ediv_of_nonneg _ (by omega)
  unfold hiE
  rw [p, f1, f2, and_mask hx hx2, and_mask hy (by omega), Int.emod_eq_of_lt hy (by omega), Int.mul_zero, Int.mul_zero]
  have dx := Int.emod_add_mul_ediv x 4294967296
  have q0 : 0 ≤ x / 4294967296 := by omega
  have r0 : 0 ≤ x % 4294967296 := by omega
  generalize x / 4294967296 = x1 at dx q0 ⊢
  generalize x % 4294967296 = x0 at dx r0 ⊢
  have e : x * y = x0 * y + 4294967296 * (x1 * y) := by rw [← dx]; grind
  have m0 : 0 ≤ x0 * y := Int.mul_nonneg r0 hy
  have m1 : 0 ≤ x1 * y := Int.mul_nonneg q0 hy
  have z : IntKind.wrap .u64 0 = 0 := rfl
  rw [z, u64_id m1 (by omega), u64_id m0 (by omega)]
  have f3 : (x0 * y).fdiv 4294967296 = (x0 * y) / 4294967296 := Int.fdiv_eq_ediv_of_nonneg _ (by omega)
  rw [f3, u64_id (x := x1 * y + x0 * y / 4294967296) (by omega) (by omega)]
  have f4 : (x1 * y + x0 * y / 4294967296).fdiv 4294967296 = 0 := by rw [Int.fdiv_eq_ediv_of_nonneg _ (by omega)]; omega
  rw [f4, and_mask (by omega) (by omega), Int.emod_eq_of_lt (by omega) (by omega)]
  simp only [Int.add_zero, Int.zero_add, z]
  rw [u64_id (x := x1 * y + x0 * y / 4294967296) (by omega) (by omega), f4]
  rfl
theorem ra_valid {p q : Nat} (h : Nat.gcd p q = 1) (h0 : 0 < q) (h1 : p ≤ 2305843009213693952) (h2 : q ≤ 1152921504606846976) : Gives (fun k => T_ratio_Valid k p q) (· = true) := by
  refine Gives.step ?_
  simp only [T_ratio_Valid]
  refine Gives.bind (Q := fun b => b = true) ?_ fun b hb => Gives.now hb
  refine Gives.bind (Q := fun _ => True) ?_ fun _ _ => Gives.pos (by simp; omega) (Gives.bind (ra_divisor p q) fun g hg => Gives.now ?_)
  · refine Gives.step ?_
    simp only [T_ratio_within]
    exact Gives.now trivial
  · rw [hg, h]; rfl
theorem ra_mul (x y : Int) : Gives (fun k => T_math_bits_Mul64 k x y) (fun _ => True) := by
  refine Gives.step ?_
  simp only [T_math_bits_Mul64]
  exact Gives.now trivial
theorem ra_div {y lo : Int} (h : 0 < y) : Gives (fun k => T_math_bits_Div64 k 0 lo y) (fun _ => True) := by
  refine Gives.step ?_
  simp only [T_math_bits_Div64]
  exact Gives.neg (by omega) (Gives.neg (by omega) (Gives.pos trivial (Gives.pos (by omega) (Gives.now trivial))))
theorem ra_addT {x y c : Int} (hx : 0 ≤ x) (hy : 0 ≤ y) (hc : c = 0) (h : x + y < 18446744073709551616) : Gives (fun k => addT k x y c) (fun r => r = (x + y, 0)) := by
  subst hc
  refine Gives.step ?_
  simp only [addT]
  refine Gives.pos (by decide) (Gives.now ?_)
  have e1 : (x.toNat + y.toNat + (0 : Int).toNat) % 18446744073709551616 = x.toNat + y.toNat := by
    rw [Nat.mod_eq_of_lt (by omega)]; rfl
  have e2 : (x.toNat + y.toNat + (0 : Int).toNat) / 18446744073709551616 = 0 := by
    rw [Nat.div_eq_of_lt (by omega)]
  rw [e1, e2]
  simp only [Prod.mk.injEq]
  exact ⟨by show ((x.toNat + y.toNat : Nat) : Int) = _; omega, rfl⟩
theorem ra_Add {a b c d T U M : Nat} (h : Rep a b T M) (k : Rep c d U M) (hM : 0 < M) (hM2 : M < 4294967296) (hT : T + U < 1152921504606846976) :
    Gives (fun n => T_ratio_Add n a b c d) (fun r => ∃ p q : Nat, r = ((p : Int), (q : Int), 0) ∧ Rep p q (T + U) M) := by
  have l1 := h.le hM
  have l2 := k.le hM
  have bp := h.pos
  have dp := k.pos
  have R := Rep.add h k hM
  simp only [] at R
  obtain ⟨hr, ht, hq⟩ := R
  have g0 : 0 < Nat.gcd b d := Nat.gcd_pos_of_pos_right b k.pos
  refine Gives.step ?_
  simp only [T_ratio_Add]
  refine Gives.bind (Q := fun v => v = false) ?_ fun v hv => ?_
  · refine Gives.bind (ra_valid h.cop h.pos (by omega) (by omega)) fun v hv => ?_
    subst hv
    refine Gives.neg (by simp) (Gives.bind (ra_valid k.cop k.pos (by omega) (by omega)) fun v hv => ?_)
    subst hv
    exact Gives.now rfl
  subst hv
  refine Gives.neg (by simp) (Gives.bind (ra_divisor b d) fun g hg => ?_)
  subst hg
  have eg : Nat.gcd b d ≤ b := Nat.gcd_le_left d h.pos
  simp only [tdiv_nat]
  generalize hg : Nat.gcd b d = g at hr ht hq g0 eg ⊢
  have qb : b / g ≤ b := Nat.div_le_self _ _
  have qd : d / g ≤ d := Nat.div_le_self _ _
  generalize hB : b / g = B at hr ht hq qb ⊢
  generalize hD : d / g = D at hr ht hq qd ⊢
  have wB : w64 ((B : Nat) : Int) = B := w64_id (by omega) (by omega)
  have wD : w64 ((D : Nat) : Int) = D := w64_id (by omega) (by omega)
  rw [wB, wD]
  have uB : IntKind.wrap .u64 ((B : Nat) : Int) = B := u64_id (by omega) (by omega)
  have uD : IntKind.wrap .u64 ((D : Nat) : Int) = D := u64_id (by omega) (by omega)
  have ua : IntKind.wrap .u64 ((a : Nat) : Int) = a := u64_id (by omega) (by omega)
  have uc : IntKind.wrap .u64 ((c : Nat) : Int) = c := u64_id (by omega) (by omega)
  have ug : IntKind.wrap .u64 ((g : Nat) : Int) = g := u64_id (by omega) (by omega)
  have ud : IntKind.wrap .u64 ((d : Nat) : Int) = d := u64_id (by omega) (by omega)
  rw [uB, uD, ua, uc, ug, ud]
  have pa : ((a : Int) * D) = ((a * D : Nat) : Int) := by simp
  have pc : ((c : Int) * B) = ((c * B : Nat) : Int) := by simp
  have h1 := hi_zero (x := a) (y := D) (by omega) (by omega) (by omega) (by omega) (by rw [pa]; omega)
  have h2 := hi_zero (x := c) (y := B) (by omega) (by omega) (by omega) (by omega) (by rw [pc]; omega)
  unfold hiE at h1 h2
  rw [h1, h2, pa, pc, u64_id (x := ((a * D : Nat) : Int)) (by omega) (by omega), u64_id (x := ((c * B : Nat) : Int)) (by omega) (by omega)]
  refine Gives.pos (by omega) (Gives.bind (ra_mul _ _) fun _ _ => Gives.pos (by omega) (Gives.bind (ra_mul _ _) fun _ _ => ?_))
  refine Gives.bind (ra_addT (by omega) (by omega) rfl (by omega)) fun s hs => ?_
  subst hs
  refine Gives.bind (ra_addT (by omega) (by omega) rfl (by omega)) fun s hs => ?_
  subst hs
  simp only []
  have et : (((a * D : Nat) : Int) + ((c * B : Nat) : Int)) = ((a * D + c * B : Nat) : Int) := by omega
  rw [et]
  generalize a * D + c * B = t at hr ht hq ⊢
  have z : ((0 : Int) + 0).tmod (g : Int) = 0 := by simp
  rw [z, tmod_nat]
  refine Gives.pos (by omega) (Gives.bind (ra_div (by omega)) fun _ _ => ?_)
  have tg : t % g < g := Nat.mod_lt _ g0
  rw [w64_id (x := ((t % g : Nat) : Int)) (by omega) (by omega)]
  refine Gives.bind (ra_divisor (t % g) g) fun e he => ?_
  subst he
  have ee : Nat.gcd (t % g) g = Nat.gcd t g := by rw [Nat.gcd_comm t g, Nat.gcd_rec g t]
  rw [ee]
  have e0 : 0 < Nat.gcd t g := Nat.gcd_pos_of_pos_right t g0
  have e1 : Nat.gcd t g ≤ g := Nat.gcd_le_right t g0
  generalize Nat.gcd t g = e at hr hq e0 e1 ⊢
  have ue : IntKind.wrap .u64 ((e : Nat) : Int) = e := u64_id (by omega) (by omega)
  rw [ue, tdiv_nat, tdiv_nat]
  have q1 : t / e ≤ t := Nat.div_le_self _ _
  have q2 : d / e ≤ d := Nat.div_le_self _ _
  have q3 : 0 < B * (d / e) := hr.pos
  generalize t / e = p at hr q1 ⊢
  generalize d / e = f at hr hq q2 q3 ⊢
  rw [u64_id (x := ((f : Nat) : Int)) (by omega) (by omega), u64_id (x := ((p : Nat) : Int)) (by omega) (by omega)]
  have pf : ((B : Int) * f) = ((B * f : Nat) : Int) := by simp
  have h3 := hi_zero (x := B) (y := f) (by omega) (by omega) (by omega) (by omega) (by rw [pf]; omega)
  unfold hiE at h3
  rw [h3, pf, u64_id (x := ((B * f : Nat) : Int)) (by omega) (by omega)]
  have z2 : (0 : Int) + 0 = 0 := by omega
  rw [z2]
  refine Gives.neg (by omega) (Gives.bind (ra_div (by omega)) fun _ _ => Gives.pos (by omega) (Gives.pos (by omega) (Gives.bind (ra_mul _ _) fun _ _ => Gives.neg ?_ (Gives.now ?_))))
  · simp only [Bool.or_eq_true, decide_eq_true_eq]; omega
  · rw [w64_id (x := ((p : Nat) : Int)) (by omega) (by omega), w64_id (x := ((B * f : Nat) : Int)) (by omega) (by omega)]
    exact ⟨p, B * f, rfl, hr⟩

theorem r01_valid {p q : Nat} (h : Nat.gcd p q = 1) (h0 : 0 < q) (h1 : p ≤ 2305843009213693952) (h2 : q ≤ 1152921504606846976) : Gives (fun k => T_ref01_Valid k p q) (· = true) := by
  refine Gives.step ?_
  simp only [T_ref01_Valid]
  refine Gives.bind (Q := fun b => b = true) ?_ fun b hb => Gives.now hb
  refine Gives.pos (by simp; omega) (Gives.bind (ra_common p q) fun g hg => Gives.now ?_)
  rw [hg, h]; rfl

/-! The order of ratios. -/
theorem ro_order : ∀ (n a b c d : Nat), b + d < n → 0 < b → 0 < d → a < 4611686018427387904 → c < 4611686018427387904 → b < 4611686018427387904 → d < 4611686018427387904 → Gives (fun k => T_ref01_order k a b c d) (fun r => (a * d < c * b ∧ r = -1) ∨ (a * d = c * b ∧ r = 0) ∨ (c * b < a * d ∧ r = 1))
  | 0, _, _, _, _, h, _, _, _, _, _, _ => by omega
  | n + 1, a, b, c, d, h, hb, hd, la, lc, lb, ld => by
    refine Gives.step ?_
    simp only [T_ref01_order, tdiv_nat, tmod_nat]
    have q1 : a / b ≤ a := Nat.div_le_self _ _
    have q2 : c / d ≤ c := Nat.div_le_self _ _
    have ea := Nat.div_add_mod a b
    have ec := Nat.div_add_mod c d
    have ra := Nat.mod_lt a hb
    have rc := Nat.mod_lt c hd
    have fin : ∀ (u v : Nat) (r : Int), (u < v ↔ a * d < c * b) → (u = v ↔ a * d = c * b) → ((u < v ∧ r = -1) ∨ (u = v ∧ r = 0) ∨ (v < u ∧ r = 1)) → (a * d < c * b ∧ r = -1) ∨ (a * d = c * b ∧ r = 0) ∨ (c * b < a * d ∧ r = 1) := by
      intro u v r h1 h2 h3
      rcases h3 with ⟨h, e⟩ | ⟨h, e⟩ | ⟨h, e⟩
      · exact Or.inl ⟨h1.1 h, e⟩
      · exact Or.inr (Or.inl ⟨h2.1 h, e⟩)
      · refine Or.inr (Or.inr ⟨?_, e⟩)
        have n1 : ¬ a * d < c * b := fun g => by have := h1.2 g; omega
        have n2 : ¬ a * d = c * b := fun g => by have := h2.2 g; omega
        omega
    generalize a / b = p at ea q1 ⊢
    generalize c / d = q at ec q2 ⊢
    generalize a % b = a' at ea ra ⊢
    generalize c % d = c' at ec rc ⊢
    rw [w64_id (x := (p : Int)) (by omega) (by omega), w64_id (x := (q : Int)) (by omega) (by omega)]
    have eA : a * d = p * (b * d) + a' * d := by rw [← ea]; grind
    have eC : c * b = q * (b * d) + c' * b := by rw [← ec]; grind
    have lA : a' * d < b * d := Nat.mul_lt_mul_of_pos_right ra hd
    have lC : c' * b < b * d := by rw [Nat.mul_comm b d]; exact Nat.mul_lt_mul_of_pos_right rc hb
    refine Gives.pos (by omega) (Gives.pos (by omega) (Gives.ite (fun cc => ?_) fun cc => ?_))
    · have ne : p ≠ q := by
        intro e; subst e; simp at cc
      refine Gives.ite (fun lt => Gives.now ?_) fun lt => Gives.now ?_
      · have : (p + 1) * (b * d) ≤ q * (b * d) := Nat.mul_le_mul_right _ (by omega)
        rw [Nat.add_mul] at this
        exact Or.inl ⟨by omega, rfl⟩
      · have : (q + 1) * (b * d) ≤ p * (b * d) := Nat.mul_le_mul_right _ (by omega)
        rw [Nat.add_mul] at this
        exact Or.inr (Or.inr ⟨by omega, rfl⟩)
    · have eq : p = q := by
        simp at cc; omega
      subst eq
      refine Gives.pos (by omega) (Gives.pos (by omega) (Gives.ite (fun z => Gives.now ?_) fun z => Gives.ite (fun z1 => Gives.now ?_) fun z1 => Gives.ite (fun z2 => Gives.now ?_) fun z2 => ?_))
      · simp at z
        obtain ⟨rfl, rfl⟩ := z
        exact Or.inr (Or.inl ⟨by omega, rfl⟩)
      · have e1 : a' = 0 := by omega
        subst e1
        simp at z
        have : 0 < c' * b := Nat.mul_pos (by omega) hb
        exact Or.inl ⟨by omega, rfl⟩
      · have e1 : c' = 0 := by omega
        subst e1
        have : 0 < a' * d := Nat.mul_pos (by omega) hd
        exact Or.inr (Or.inr ⟨by omega, rfl⟩)
      · refine Gives.bind (ro_order n d c' b a' (by omega) (by omega) (by omega) (by omega) (by omega) (by omega) (by omega)) fun r hr => Gives.now ?_
        rw [Nat.mul_comm d a', Nat.mul_comm b c'] at hr
        exact fin (a' * d) (c' * b) r (by omega) (by omega) hr
theorem ro_cmp {p q p' q' : Nat} (h : Nat.gcd p q = 1) (h0 : 0 < q) (h1 : p ≤ 2305843009213693952) (h2 : q ≤ 1152921504606846976) (g : Nat.gcd p' q' = 1) (g0 : 0 < q') (g1 : p' ≤ 2305843009213693952) (g2 : q' ≤ 1152921504606846976) :
    Gives (fun k => T_ref01_Cmp k p q p' q') (fun r => (p * q' < p' * q ∧ r = -1) ∨ (p * q' = p' * q ∧ r = 0) ∨ (p' * q < p * q' ∧ r = 1)) := by
  refine Gives.step ?_
  simp only [T_ref01_Cmp]
  refine Gives.bind (Q := fun r => r = false) ?_ fun r hr => ?_
  · refine Gives.bind (r01_valid h h0 h1 h2) fun v hv => Gives.neg (by simp [hv]) (Gives.bind (r01_valid g g0 g1 g2) fun w hw => Gives.now (by simp [hw]))
  · subst hr
    refine Gives.neg (by simp) (Gives.bind (ro_order (q + q' + 1) p q p' q' (by omega) h0 g0 (by omega) (by omega) (by omega) (by omega)) fun r hr => Gives.now hr)
theorem Rep.scale {p q T M : Nat} (h : Rep p q T M) (k : Nat) : Rep p q (T * k) (M * k) := ⟨h.pos, h.cop, by have := h.eq; grind⟩
theorem Rep.cmp {p q T M p' q' T' M' : Nat} (h : Rep p q T M) (k : Rep p' q' T' M') (hM : 0 < M) (hM' : 0 < M') (l : T * M' ≤ T' * M) : p * q' ≤ p' * q := by
  have e1 : (p * q') * (M * M') = (T * M') * (q * q') := by have := h.eq; grind
  have e2 : (p' * q) * (M * M') = (T' * M) * (q * q') := by have := k.eq; grind
  have : (p * q') * (M * M') ≤ (p' * q) * (M * M') := by rw [e1, e2]; exact Nat.mul_le_mul_right _ l
  exact Nat.le_of_mul_le_mul_right this (Nat.mul_pos hM hM')
theorem Rep.same {p q T M p' q' T' M' : Nat} (h : Rep p q T M) (k : Rep p' q' T' M') (hM : 0 < M) (hM' : 0 < M') (l : T * M' = T' * M) : p = p' ∧ q = q' := by
  have a := h.scale M'
  have b := k.scale M
  rw [l, Nat.mul_comm M M'] at a
  exact a.uniq b (Nat.mul_pos hM' hM)

/-! Two windows' differences. -/
def dif (x y : List Int) : List Int := List.zipWith (fun a b => a - b) x y
def sqs (x : List Int) : List Int := x.map fun v => v * v
theorem sqs_len (x : List Int) : (sqs x).length = x.length := by simp [sqs]
theorem rd_sqs {x : List Int} {i : Int} (h0 : 0 ≤ i) (h1 : i < (x.length : Int)) : rd (sqs x) i = rd x i * rd x i := by
  unfold rd sqs
  rw [List.getD_eq_getElem?_getD, List.getD_eq_getElem?_getD, List.getElem?_map, List.getElem?_eq_getElem (show i.toNat < x.length by omega)]
  rfl
theorem dif_len {x y : List Int} (h : x.length = y.length) : (dif x y).length = x.length := by unfold dif; rw [List.length_zipWith]; omega
theorem rd_dif {x y : List Int} {i : Int} (h : x.length = y.length) (h0 : 0 ≤ i) (h1 : i < (x.length : Int)) : rd (dif x y) i = rd x i - rd y i := by
  unfold rd dif
  rw [List.getD_eq_getElem?_getD, List.getD_eq_getElem?_getD, List.getD_eq_getElem?_getD, List.getElem?_eq_getElem (show i.toNat < x.length by omega), List.getElem?_eq_getElem (show i.toNat < y.length by omega), List.getElem?_eq_getElem (show i.toNat < (List.zipWith (fun a b => a - b) x y).length by rw [List.length_zipWith]; omega)]
  simp
theorem psum_dif {x y : List Int} (h : x.length = y.length) : ∀ n : Nat, n ≤ x.length → psum (dif x y) n = psum x n - psum y n
  | 0, _ => by simp [psum]
  | n + 1, hn => by
    have e1 := psum_succ (x := dif x y) (i := (n : Int)) (by omega) (by rw [dif_len h]; omega)
    have e2 := psum_succ (x := x) (i := (n : Int)) (by omega) (by omega)
    have e3 := psum_succ (x := y) (i := (n : Int)) (by omega) (by omega)
    rw [rd_dif h (by omega) (by omega)] at e1
    have ih := psum_dif h n (by omega)
    rw [show ((n + 1 : Nat) : Int) = (n : Int) + 1 by omega, e1, e2, e3, ih]
    omega
theorem sq_pos (a : Int) : 0 ≤ a * a := by
  rcases Int.le_total 0 a with h | h
  · exact Int.mul_nonneg h h
  · exact Int.mul_nonneg_of_nonpos_of_nonpos h h
theorem quad {w : List Int} {a : Nat} (c e : Int) : ∀ j : Nat, a + j ≤ w.length → 0 ≤ c * c * (psum (sqs w) (a + j : Nat) - psum (sqs w) a) - 2 * (c * e * (psum w (a + j : Nat) - psum w a)) + j * (e * e)
  | 0, _ => by simp
  | j + 1, h => by
    have ih := quad (w := w) (a := a) c e j (by omega)
    have e1 := psum_succ (x := w) (i := ((a + j : Nat) : Int)) (by omega) (by omega)
    have e2 := psum_succ (x := sqs w) (i := ((a + j : Nat) : Int)) (by omega) (by rw [sqs_len]; omega)
    rw [rd_sqs (by omega) (by omega)] at e2
    have p := sq_pos (c * rd w ((a + j : Nat) : Int) - e)
    rw [show ((a + (j + 1) : Nat) : Int) = ((a + j : Nat) : Int) + 1 by omega, e1, e2]
    generalize rd w ((a + j : Nat) : Int) = v at p ⊢
    generalize psum w ((a + j : Nat) : Int) = s at ih ⊢
    generalize psum (sqs w) ((a + j : Nat) : Int) = q at ih ⊢
    generalize psum w a = s0 at ih ⊢
    generalize psum (sqs w) a = q0 at ih ⊢
    have : c * c * (q + v * v - q0) - 2 * (c * e * (s + v - s0)) + ((j + 1 : Nat) : Int) * (e * e) = (c * c * (q - q0) - 2 * (c * e * (s - s0)) + j * (e * e)) + (c * v - e) * (c * v - e) := by
      have : ((j + 1 : Nat) : Int) = (j : Int) + 1 := by omega
      rw [this]
      grind
    rw [this]
    omega
/-- The square of a sum of so many is at most so many times the sum of squares. -/
theorem cauchy {w : List Int} {a b : Int} (h0 : 0 ≤ a) (h1 : a ≤ b) (h2 : b ≤ (w.length : Int)) : (psum w b - psum w a) * (psum w b - psum w a) ≤ (b - a) * (psum (sqs w) b - psum (sqs w) a) := by
  obtain ⟨m, rfl⟩ : ∃ m : Nat, a = m := ⟨a.toNat, by omega⟩
  obtain ⟨j, rfl⟩ : ∃ j : Nat, b = ((m + j : Nat) : Int) := ⟨(b - m).toNat, by omega⟩
  have el : ((m + j : Nat) : Int) - (m : Int) = j := by omega
  rw [el]
  rcases Nat.eq_zero_or_pos j with hj | hj
  · subst hj; simp
  have := quad (w := w) (a := m) j (psum w ((m + j : Nat) : Int) - psum w m) j (by omega)
  generalize psum w ((m + j : Nat) : Int) - psum w m = s at this ⊢
  generalize psum (sqs w) ((m + j : Nat) : Int) - psum (sqs w) m = q at this ⊢
  have e : (j : Int) * j * q - 2 * (j * s * s) + j * (s * s) = j * (j * q - s * s) := by grind
  rw [e] at this
  have : 0 ≤ (j : Int) * q - s * s := by
    rcases Int.le_total 0 ((j : Int) * q - s * s) with h | h
    · exact h
    · have h3 : (j : Int) * (j * q - s * s) ≤ 0 := Int.mul_nonpos_of_nonneg_of_nonpos (by omega) h
      have h4 : (j : Int) * (j * q - s * s) = 0 := by omega
      rcases Int.mul_eq_zero.1 h4 with h5 | h5 <;> omega
  omega
theorem dif_bounds {x y : List Int} (hx : Win x) (hy : Win y) (hl : x.length = y.length) {i : Int} (h0 : 0 ≤ i) (h1 : i ≤ (x.length : Int)) :
    -64000 ≤ psum (dif x y) i ∧ psum (dif x y) i ≤ 64000 ∧ 0 ≤ psum (sqs (dif x y)) i ∧ psum (sqs (dif x y)) i ≤ 128000000 := by
  have x2 := hx.hi
  have b1 := pc_bounds hx h0 h1
  have b2 := pc_bounds hy h0 (by omega)
  obtain ⟨m, rfl⟩ : ∃ m : Nat, i = m := ⟨i.toNat, by omega⟩
  have : ∀ n : Nat, n ≤ x.length → 0 ≤ psum (sqs (dif x y)) n ∧ psum (sqs (dif x y)) n ≤ 4000000 * n := by
    intro n
    induction n with
    | zero => intro _; simp [psum]
    | succ n ih =>
      intro hn
      have ih := ih (by omega)
      have e := psum_succ (x := sqs (dif x y)) (i := (n : Int)) (by omega) (by rw [sqs_len, dif_len hl]; omega)
      rw [rd_sqs (by omega) (by rw [dif_len hl]; omega), rd_dif hl (by omega) (by omega)] at e
      have s1 := hx.smp.rd n
      have s2 := hy.smp.rd n
      have p := prod_bound (a := rd x n - rd y n) (b := rd x n - rd y n) (A := 2000) (B := 2000) (by omega) (by omega) (by omega) (by omega)
      have p0 := sq_pos (rd x n - rd y n)
      rw [show ((n + 1 : Nat) : Int) = (n : Int) + 1 by omega, e]
      omega
  have t := this m (by omega)
  rw [psum_dif hl m (by omega)]
  omega

/-! The lengths of pieces, and what they all divide. -/
theorem len_fin : ∀ m : Fin 33, ∀ n : Fin 9, ∀ p : Fin 8, 1 ≤ n.val → p.val < n.val → n.val ≤ m.val → ((p.val + 1) * m.val / n.val - p.val * m.val / n.val = m.val / n.val ∨ (p.val + 1) * m.val / n.val - p.val * m.val / n.val = m.val / n.val + 1) := by decide +kernel
/-- What all lengths of pieces divide. -/
def mm (m n : Nat) : Nat := (m / n) * (m / n + 1)
/-- How often a piece's length goes into it. -/
def wt (m n : Nat) (p : Int) : Nat := mm m n / (cut m n (p + 1) - cut m n p).toNat
theorem wt_ok {m n : Nat} {p : Int} (hm : m ≤ 32) (hn : 1 ≤ n) (hn2 : n ≤ 8) (hn3 : n ≤ m) (h0 : 0 ≤ p) (h1 : p < (n : Int)) :
    (cut m n (p + 1) - cut m n p).toNat * wt m n p = mm m n ∧ wt m n p ≤ 33 ∧ 1 ≤ cut m n (p + 1) - cut m n p ∧ cut m n (p + 1) - cut m n p ≤ 32 ∧ 0 < mm m n ∧ mm m n ≤ 1056 := by
  obtain ⟨q, rfl⟩ : ∃ q : Nat, p = q := ⟨p.toNat, by omega⟩
  have dl : cut m n ((q : Int) + 1) - cut m n (q : Int) ≤ 32 := by
    have a := cut_range (m := m) (n := n) (p := (q : Int) + 1) (by omega) (by omega) (by omega) (by omega)
    have b := cut_range (m := m) (n := n) (p := (q : Int)) (by omega) (by omega) (by omega) (by omega)
    omega
  have f := len_fin ⟨m, by omega⟩ ⟨n, by omega⟩ ⟨q, by omega⟩ hn (by simp only []; omega) hn3
  simp only [] at f
  have e1 : cut (m : Int) n ((q : Int) + 1) = (((q + 1) * m / n : Nat) : Int) := by
    unfold cut
    have : ((q : Int) + 1) * m = (((q + 1) * m : Nat) : Int) := by simp
    rw [this]; rfl
  have e2 : cut (m : Int) n (q : Int) = ((q * m / n : Nat) : Int) := by
    unfold cut
    have : (q : Int) * m = ((q * m : Nat) : Int) := by simp
    rw [this]; rfl
  have d0 : 1 ≤ m / n := Nat.div_pos hn3 hn
  have d1 : m / n ≤ 32 := Nat.le_trans (Nat.div_le_self _ _) hm
  have mono : q * m / n ≤ (q + 1) * m / n := Nat.div_le_div_right (Nat.mul_le_mul_right m (by omega))
  unfold wt mm
  rw [e1, e2] at dl ⊢
  generalize (q + 1) * m / n = c1 at f mono dl ⊢
  generalize q * m / n = c0 at f mono dl ⊢
  generalize m / n = a at f d0 d1 ⊢
  have el : ((c1 : Int) - (c0 : Int)).toNat = c1 - c0 := by omega
  rw [el]
  have hb : a * (a + 1) ≤ 32 * 33 := Nat.mul_le_mul d1 (by omega)
  have hb0 : 0 < a * (a + 1) := Nat.mul_pos d0 (by omega)
  rcases f with f | f
  · rw [f, Nat.mul_div_cancel_left _ d0]
    refine ⟨rfl, by omega, by omega, by omega, hb0, by omega⟩
  · rw [f, Nat.mul_comm a (a + 1), Nat.mul_div_cancel_left _ (by omega)]
    refine ⟨rfl, by omega, by omega, by omega, by rw [Nat.mul_comm]; exact hb0, by rw [Nat.mul_comm]; omega⟩
/-- The sum of squares, each as often as its piece goes into what all divide. -/
def TT (d : Int → Int) (w : Int → Nat) : Nat → Nat
  | 0 => 0
  | n + 1 => TT d w n + (d n * d n).toNat * w n
theorem TT_congr {d d' : Int → Int} {w : Int → Nat} : ∀ {n : Nat}, (∀ p : Int, 0 ≤ p → p < n → d p * d p = d' p * d' p) → TT d w n = TT d' w n
  | 0, _ => rfl
  | n + 1, h => by rw [TT, TT, TT_congr (n := n) fun p h1 h2 => h p h1 (by omega), h n (by omega) (by omega)]
theorem TT_bound {d : Int → Int} {w : Int → Nat} : ∀ {n : Nat}, (∀ p : Int, 0 ≤ p → p < n → -6300000 ≤ d p ∧ d p ≤ 6300000 ∧ w p ≤ 33) → TT d w n ≤ 1309770000000000 * n
  | 0, _ => by simp [TT]
  | n + 1, h => by
    have ih := TT_bound (n := n) fun p h1 h2 => h p h1 (by omega)
    obtain ⟨h1, h2, h3⟩ := h n (by omega) (by omega)
    have b := prod_bound (a := d n) (b := d n) (A := 6300000) (B := 6300000) h1 h2 h1 h2
    have : (d n * d n).toNat * w n ≤ 39690000000000 * 33 := Nat.mul_le_mul (by omega) h3
    rw [TT]; omega

theorem sq_nonneg (a : Int) : 0 ≤ a * a := by
  rcases Int.le_total 0 a with h | h
  · exact Int.mul_nonneg h h
  · exact Int.mul_nonneg_of_nonpos_of_nonpos h h
theorem sq_loopA {m n unit : Nat} {A B : List Int} {c0 : Int} (hm : m ≤ 32) (hn : 1 ≤ n) (hn2 : n ≤ 8) (hn3 : n ≤ m) (hu : 1 ≤ unit) (hu2 : unit ≤ 1024) (hA : A.length = n) (hB : B.length = n)
    (hd : ∀ p : Int, 0 ≤ p → p < n → -6300000 ≤ rd A p - rd B p ∧ rd A p - rd B p ≤ 6300000) :
    Gives (fun k => allT (T_pieces_squares_r1 k n unit c0 A B) m n k 0 (0, 0, 1)) (fun x => ∃ s', x = .inl s' ∧ (s'.1 = 0 ∧ ∃ P Q : Nat, s'.2 = ((P : Int), (Q : Int)) ∧ Rep P Q (TT (fun p => rd A p - rd B p) (wt m n) (n : Int).toNat) (unit * mm m n))) := by
  have w0 := wt_ok (p := 0) hm hn hn2 hn3 (by omega) (by omega)
  have M0 : 0 < unit * mm m n := Nat.mul_pos hu w0.2.2.2.2.1
  have M1 : unit * mm m n < 4294967296 := by
    have := Nat.mul_le_mul hu2 w0.2.2.2.2.2
    omega
  refine Gives.rangeT (m := (m : Int)) (n := (n : Int)) (by omega) (by omega) (by omega) (by omega) (fun (p : Int) (s : Int × Int × Int) => s.1 = 0 ∧ ∃ P Q : Nat, s.2 = ((P : Int), (Q : Int)) ∧ Rep P Q (TT (fun p => rd A p - rd B p) (wt m n) p.toNat) (unit * mm m n)) ?_ ⟨rfl, 0, 1, rfl, ⟨by omega, by simp, by simp [TT]⟩⟩
  intro p s h0 h1 ⟨i1, P, Q, i2, i3⟩
  obtain ⟨s1, s2, s3⟩ := s
  simp only [Prod.mk.injEq] at i1 i2
  obtain ⟨rfl, rfl⟩ := i2
  subst i1
  obtain ⟨q1, q2, q3, q4, q5, q6⟩ := wt_ok hm hn hn2 hn3 h0 h1
  obtain ⟨d1, d2⟩ := hd p h0 h1
  have dd := prod_bound (a := rd A p - rd B p) (b := rd A p - rd B p) (A := 6300000) (B := 6300000) d1 d2 d1 d2
  have d0 := sq_nonneg (rd A p - rd B p)
  unfold T_pieces_squares_r1
  refine Gives.opt (at_rd h0 (by omega)) (Gives.opt (at_rd h0 (by omega)) ?_)
  simp only []
  have ul := prod_bound (a := (unit : Int)) (b := cut m n (p + 1) - cut m n p) (A := 1024) (B := 32) (by omega) (by omega) (by omega) (by omega)
  obtain ⟨l, hl⟩ : ∃ l : Nat, cut m n (p + 1) - cut m n p = l := ⟨(cut m n (p + 1) - cut m n p).toNat, by omega⟩
  obtain ⟨u, hu'⟩ : ∃ u : Nat, (rd A p - rd B p) * (rd A p - rd B p) = u := ⟨((rd A p - rd B p) * (rd A p - rd B p)).toNat, by omega⟩
  rw [w64_id (x := rd A p - rd B p) (by omega) (by omega), w64_id (x := (rd A p - rd B p) * (rd A p - rd B p)) (by omega) (by omega), w64_id (x := cut m n (p + 1) - cut m n p) (by omega) (by omega), w64_id (x := (unit : Int) * (cut m n (p + 1) - cut m n p)) (by omega) (by omega), hu', hl]
  have el : (unit : Int) * (l : Int) = ((unit * l : Nat) : Int) := by simp
  rw [el]
  have l0 : 0 < unit * l := Nat.mul_pos hu (by omega)
  have l1 : unit * l ≤ 1024 * 32 := Nat.mul_le_mul hu2 (by omega)
  refine Gives.bind (ra_Make l0 (by omega) (by omega)) fun r hr => ?_
  subst hr
  have el2 : (cut m n (p + 1) - cut m n p).toNat = l := by omega
  rw [el2] at q1
  have R := Rep.make (m := u) (n := unit * l) (w := wt m n p) l0
  rw [Nat.mul_assoc, q1] at R
  have et : TT (fun p => rd A p - rd B p) (wt m n) (p + 1).toNat = TT (fun p => rd A p - rd B p) (wt m n) p.toNat + u * wt m n p := by
    rw [show (p + 1).toNat = p.toNat + 1 by omega, TT, Int.toNat_of_nonneg h0]
    have : ((rd A p - rd B p) * (rd A p - rd B p)).toNat = u := by omega
    rw [this]
  have tb := TT_bound (d := fun p => rd A p - rd B p) (w := wt m n) (n := p.toNat + 1) fun j j0 j1 => by
    obtain ⟨_, k2, _⟩ := wt_ok (p := j) hm hn hn2 hn3 j0 (by omega)
    have := hd j j0 (by omega)
    exact ⟨this.1, this.2, k2⟩
  rw [show p.toNat + 1 = (p + 1).toNat by omega, et] at tb
  refine Gives.bind (ra_Add i3 R M0 M1 (by omega)) fun z hz => ?_
  obtain ⟨P', Q', rfl, hR⟩ := hz
  refine Gives.neg (by simp) (Gives.now ⟨_, rfl, rfl, P', Q', rfl, ?_⟩)
  rw [et]
  exact hR
theorem sq_loopB {m n unit : Nat} {A B : List Int} {c0 : Int} (hm : m ≤ 32) (hn : 1 ≤ n) (hn2 : n ≤ 8) (hn3 : n ≤ m) (hu : 1 ≤ unit) (hu2 : unit ≤ 1024) (hA : A.length = n) (hB : B.length = n)
    (hd : ∀ p : Int, 0 ≤ p → p < n → -6300000 ≤ rd A p - rd B p ∧ rd A p - rd B p ≤ 6300000) :
    Gives (fun k => allT (T_pieces_squares_v2_r1 k n unit c0 A B) m n k 0 (0, 0, 1)) (fun x => ∃ s', x = .inl s' ∧ (s'.1 = 0 ∧ ∃ P Q : Nat, s'.2 = ((P : Int), (Q : Int)) ∧ Rep P Q (TT (fun p => rd A p - rd B p) (wt m n) (n : Int).toNat) (unit * mm m n))) := by
  have w0 := wt_ok (p := 0) hm hn hn2 hn3 (by omega) (by omega)
  have M0 : 0 < unit * mm m n := Nat.mul_pos hu w0.2.2.2.2.1
  have M1 : unit * mm m n < 4294967296 := by
    have := Nat.mul_le_mul hu2 w0.2.2.2.2.2
    omega
  refine Gives.rangeT (m := (m : Int)) (n := (n : Int)) (by omega) (by omega) (by omega) (by omega) (fun (p : Int) (s : Int × Int × Int) => s.1 = 0 ∧ ∃ P Q : Nat, s.2 = ((P : Int), (Q : Int)) ∧ Rep P Q (TT (fun p => rd A p - rd B p) (wt m n) p.toNat) (unit * mm m n)) ?_ ⟨rfl, 0, 1, rfl, ⟨by omega, by simp, by simp [TT]⟩⟩
  intro p s h0 h1 ⟨i1, P, Q, i2, i3⟩
  obtain ⟨s1, s2, s3⟩ := s
  simp only [Prod.mk.injEq] at i1 i2
  obtain ⟨rfl, rfl⟩ := i2
  subst i1
  obtain ⟨q1, q2, q3, q4, q5, q6⟩ := wt_ok hm hn hn2 hn3 h0 h1
  obtain ⟨d1, d2⟩ := hd p h0 h1
  have dd := prod_bound (a := rd A p - rd B p) (b := rd A p - rd B p) (A := 6300000) (B := 6300000) d1 d2 d1 d2
  have d0 := sq_nonneg (rd A p - rd B p)
  unfold T_pieces_squares_v2_r1
  refine Gives.opt (at_rd h0 (by omega)) (Gives.opt (at_rd h0 (by omega)) ?_)
  simp only []
  have ul := prod_bound (a := (unit : Int)) (b := cut m n (p + 1) - cut m n p) (A := 1024) (B := 32) (by omega) (by omega) (by omega) (by omega)
  obtain ⟨l, hl⟩ : ∃ l : Nat, cut m n (p + 1) - cut m n p = l := ⟨(cut m n (p + 1) - cut m n p).toNat, by omega⟩
  obtain ⟨u, hu'⟩ : ∃ u : Nat, (rd A p - rd B p) * (rd A p - rd B p) = u := ⟨((rd A p - rd B p) * (rd A p - rd B p)).toNat, by omega⟩
  rw [w64_id (x := rd A p - rd B p) (by omega) (by omega), w64_id (x := (rd A p - rd B p) * (rd A p - rd B p)) (by omega) (by omega), w64_id (x := cut m n (p + 1) - cut m n p) (by omega) (by omega), w64_id (x := (unit : Int) * (cut m n (p + 1) - cut m n p)) (by omega) (by omega), hu', hl]
  have el : (unit : Int) * (l : Int) = ((unit * l : Nat) : Int) := by simp
  rw [el]
  have l0 : 0 < unit * l := Nat.mul_pos hu (by omega)
  have l1 : unit * l ≤ 1024 * 32 := Nat.mul_le_mul hu2 (by omega)
  refine Gives.bind (ra_Make l0 (by omega) (by omega)) fun r hr => ?_
  subst hr
  have el2 : (cut m n (p + 1) - cut m n p).toNat = l := by omega
  rw [el2] at q1
  have R := Rep.make (m := u) (n := unit * l) (w := wt m n p) l0
  rw [Nat.mul_assoc, q1] at R
  have et : TT (fun p => rd A p - rd B p) (wt m n) (p + 1).toNat = TT (fun p => rd A p - rd B p) (wt m n) p.toNat + u * wt m n p := by
    rw [show (p + 1).toNat = p.toNat + 1 by omega, TT, Int.toNat_of_nonneg h0]
    have : ((rd A p - rd B p) * (rd A p - rd B p)).toNat = u := by omega
    rw [this]
  have tb := TT_bound (d := fun p => rd A p - rd B p) (w := wt m n) (n := p.toNat + 1) fun j j0 j1 => by
    obtain ⟨_, k2, _⟩ := wt_ok (p := j) hm hn hn2 hn3 j0 (by omega)
    have := hd j j0 (by omega)
    exact ⟨this.1, this.2, k2⟩
  rw [show p.toNat + 1 = (p + 1).toNat by omega, et] at tb
  refine Gives.bind (ra_Add i3 R M0 M1 (by omega)) fun z hz => ?_
  obtain ⟨P', Q', rfl, hR⟩ := hz
  refine Gives.neg (by simp) (Gives.now ⟨_, rfl, rfl, P', Q', rfl, ?_⟩)
  rw [et]
  exact hR

/-- The sum of a piece, and the centred one. -/
def pcs (x : List Int) (n p : Int) : Int := psum x (cut x.length n (p + 1)) - psum x (cut x.length n p)
def pcc (x : List Int) (n p : Int) : Int := (x.length : Int) * pcs x n p - (cut x.length n (p + 1) - cut x.length n p) * x.sum
theorem pcs_bound {x : List Int} {n p : Int} (hx : Win x) (hn : 1 ≤ n) (h0 : 0 ≤ p) (h1 : p < n) : -64000 ≤ pcs x n p ∧ pcs x n p ≤ 64000 := by
  have k1 := cut_range (m := (x.length : Int)) hn (by omega) h0 (by omega)
  have k2 := cut_range (m := (x.length : Int)) (p := p + 1) hn (by omega) (by omega) (by omega)
  have b1 := pc_bounds hx k1.1 k1.2
  have b2 := pc_bounds hx k2.1 k2.2
  unfold pcs
  omega
theorem pcc_bound {x : List Int} {n p : Int} (hx : Win x) (hn : 1 ≤ n) (h0 : 0 ≤ p) (h1 : p < n) : -3120000 ≤ pcc x n p ∧ pcc x n p ≤ 3120000 := by
  have k1 := cut_range (m := (x.length : Int)) hn (by omega) h0 (by omega)
  have k2 := cut_range (m := (x.length : Int)) (p := p + 1) hn (by omega) (by omega) (by omega)
  have b0 := pcs_bound hx hn h0 h1
  have b1 := pc_bounds hx (i := x.length) (by omega) (by omega)
  have x1 := hx.hi
  rw [psum_all] at b1
  have q1 := prod_bound (a := (x.length : Int)) (b := pcs x n p) (A := 32) (B := 64000) (by omega) (by omega) (by omega) (by omega)
  have q2 := prod_bound (a := cut x.length n (p + 1) - cut x.length n p) (b := x.sum) (A := 32) (B := 32000) (by omega) (by omega) (by omega) (by omega)
  unfold pcc
  omega
theorem pc_lower {x y : List Int} {n : Nat} (hx : Win x) (hy : Win y) (hl : x.length = y.length) (hn : 1 ≤ n) (hn2 : n ≤ 8) (hn3 : n ≤ x.length) :
    Gives (fun k => T_pieces_Lower k x y n) (fun r => ∃ P Q : Nat, r = ((P : Int), (Q : Int), 0) ∧ Rep P Q (TT (fun p => pcs x n p - pcs y n p) (wt x.length n) n) (1 * mm x.length n)) := by
  have x1 := hx.hi
  refine Gives.step ?_
  simp only [T_pieces_Lower]
  refine Gives.bind (Q := fun r => ∃ P Q : Nat, r = ((P : Int), (Q : Int), 0) ∧ Rep P Q (TT (fun p => pcs x n p - pcs y n p) (wt x.length n) n) (1 * mm x.length n)) ?_ fun r hr => Gives.now ?_
  · refine Gives.step ?_
    simp only [T_pieces_squares]
    refine Gives.bind (eu_distance hx hy hl) fun a ha => Gives.neg (by simp [ha]) (Gives.bind (pc_sums (n := (n : Int)) hx (by omega) (by omega) (by omega)) fun f hf => Gives.neg (by simp [hf.1]) (Gives.bind (pc_sums (n := (n : Int)) hy (by omega) (by omega) (by omega)) fun g hg => Gives.neg (by simp [hg.1]) (Gives.bind (pc_all _ _) fun _ _ => ?_)))
    obtain ⟨f1, f2, f3⟩ := hf
    obtain ⟨g1, g2, g3⟩ := hg
    rw [g1]
    have ed : ∀ p : Int, 0 ≤ p → p < (n : Int) → rd f.1 p - rd g.1 p = pcs x n p - pcs y n p := fun p p0 p1 => by
      rw [f3 p p0 p1, g3 p p0 p1]; rfl
    refine Gives.bind (sq_loopA (m := x.length) (n := n) (unit := 1) (A := f.1) (B := g.1) (by omega) hn hn2 hn3 (by omega) (by omega) (by omega) (by omega) fun p p0 p1 => ?_) fun v hv => ?_
    · rw [ed p p0 p1]
      have b1 := pcs_bound hx (n := (n : Int)) (by omega) p0 p1
      have b2 := pcs_bound hy (n := (n : Int)) (by omega) p0 p1
      omega
    obtain ⟨s', rfl, e, P, Q, e2, R⟩ := hv
    simp only []
    rw [e2]
    refine Gives.now ⟨P, Q, rfl, ?_⟩
    rw [Int.toNat_natCast, TT_congr (d' := fun p => pcs x n p - pcs y n p) fun p p0 p1 => by rw [ed p p0 p1]] at R
    exact R
  · obtain ⟨P, Q, rfl, R⟩ := hr
    exact ⟨P, Q, rfl, R⟩
theorem pc_shifted {x y : List Int} {n : Nat} (hx : Win x) (hy : Win y) (hl : x.length = y.length) (hn : 1 ≤ n) (hn2 : n ≤ 8) (hn3 : n ≤ x.length) :
    Gives (fun k => T_pieces_Shifted k x y n) (fun r => ∃ P Q : Nat, r = ((P : Int), (Q : Int), 0) ∧ Rep P Q (TT (fun p => pcc x n p - pcc y n p) (wt x.length n) n) (x.length * x.length * mm x.length n)) := by
  have x1 := hx.hi
  have x2 := hx.lo
  have xx : x.length * x.length ≤ 32 * 32 := Nat.mul_le_mul x1 x1
  have xx0 : 2 * 2 ≤ x.length * x.length := Nat.mul_le_mul x2 x2
  have eu : imax 1 (w64 ((x.length : Int) * (x.length : Int))) = ((x.length * x.length : Nat) : Int) := by
    have e : (x.length : Int) * (x.length : Int) = ((x.length * x.length : Nat) : Int) := by simp
    rw [e, w64_id (by omega) (by omega)]
    unfold imax
    split <;> omega
  refine Gives.step ?_
  simp only [T_pieces_Shifted]
  rw [eu]
  refine Gives.bind (Q := fun r => ∃ P Q : Nat, r = ((P : Int), (Q : Int), 0) ∧ Rep P Q (TT (fun p => pcc x n p - pcc y n p) (wt x.length n) n) (x.length * x.length * mm x.length n)) ?_ fun r hr => Gives.now ?_
  · refine Gives.step ?_
    simp only [T_pieces_squares_v2]
    refine Gives.bind (eu_distance hx hy hl) fun a ha => Gives.neg (by simp [ha]) (Gives.bind (pc_centred (n := (n : Int)) hx (by omega) (by omega) (by omega)) fun f hf => Gives.neg (by simp [hf.1]) (Gives.bind (pc_centred (n := (n : Int)) hy (by omega) (by omega) (by omega)) fun g hg => Gives.neg (by simp [hg.1]) (Gives.bind (pc_all _ _) fun _ _ => ?_)))
    obtain ⟨f1, f2, f3⟩ := hf
    obtain ⟨g1, g2, g3⟩ := hg
    rw [g1]
    have ed : ∀ p : Int, 0 ≤ p → p < (n : Int) → rd f.1 p - rd g.1 p = pcc x n p - pcc y n p := fun p p0 p1 => by
      rw [f3 p p0 p1, g3 p p0 p1]; rfl
    refine Gives.bind (sq_loopB (m := x.length) (n := n) (unit := x.length * x.length) (A := f.1) (B := g.1) (by omega) hn hn2 hn3 (by omega) (by omega) (by omega) (by omega) fun p p0 p1 => ?_) fun v hv => ?_
    · rw [ed p p0 p1]
      have b1 := pcc_bound hx (n := (n : Int)) (by omega) p0 p1
      have b2 := pcc_bound hy (n := (n : Int)) (by omega) p0 p1
      omega
    obtain ⟨s', rfl, e, P, Q, e2, R⟩ := hv
    simp only []
    rw [e2]
    refine Gives.now ⟨P, Q, rfl, ?_⟩
    rw [Int.toNat_natCast, TT_congr (d' := fun p => pcc x n p - pcc y n p) fun p p0 p1 => by rw [ed p p0 p1]] at R
    exact R
  · obtain ⟨P, Q, rfl, R⟩ := hr
    exact ⟨P, Q, rfl, R⟩

/-! The bounds by pieces and the distances. -/
theorem tt_succ (d : Int → Int) (w : Int → Nat) (n : Nat) : ((TT d w (n + 1) : Nat) : Int) = (TT d w n : Nat) + d n * d n * (w n : Int) := by
  rw [TT, Int.natCast_add, Int.natCast_mul, Int.toNat_of_nonneg (sq_pos _)]
theorem pd_eq {x y : List Int} {n : Int} (hl : x.length = y.length) (hn : 1 ≤ n) {p : Int} (h0 : 0 ≤ p) (h1 : p < n) :
    pcs x n p - pcs y n p = psum (dif x y) (cut x.length n (p + 1)) - psum (dif x y) (cut x.length n p) := by
  have k1 := cut_range (m := (x.length : Int)) hn (by omega) h0 (by omega)
  have k2 := cut_range (m := (x.length : Int)) (p := p + 1) hn (by omega) (by omega) (by omega)
  have e1 := psum_dif hl (cut x.length n p).toNat (by omega)
  have e2 := psum_dif hl (cut x.length n (p + 1)).toNat (by omega)
  rw [Int.toNat_of_nonneg k1.1] at e1
  rw [Int.toNat_of_nonneg k2.1] at e2
  unfold pcs
  rw [e1, e2, ← hl]
  omega
theorem pw_eq {m n : Nat} {p : Int} (hm : m ≤ 32) (hn : 1 ≤ n) (hn2 : n ≤ 8) (hn3 : n ≤ m) (h0 : 0 ≤ p) (h1 : p < (n : Int)) : (cut m n (p + 1) - cut m n p) * (wt m n p : Int) = mm m n := by
  have w := wt_ok hm hn hn2 hn3 h0 h1
  rw [← w.1, Int.natCast_mul, Int.toNat_of_nonneg (by omega)]
theorem tt_le {x y : List Int} {n : Nat} (hm : x.length ≤ 32) (hl : x.length = y.length) (hn : 1 ≤ n) (hn2 : n ≤ 8) (hn3 : n ≤ x.length) : ∀ p : Nat, p ≤ n →
    ((TT (fun p => pcs x n p - pcs y n p) (wt x.length n) p : Nat) : Int) ≤ mm x.length n * psum (sqs (dif x y)) (cut x.length n p)
  | 0, _ => by simp [TT, cut, psum]
  | p + 1, h => by
    have ih := tt_le hm hl hn hn2 hn3 p (by omega)
    have k1 := cut_range (m := (x.length : Int)) (n := (n : Int)) (p := (p : Int)) (by omega) (by omega) (by omega) (by omega)
    have k2 := cut_range (m := (x.length : Int)) (n := (n : Int)) (p := (p : Int) + 1) (by omega) (by omega) (by omega) (by omega)
    have k3 := cut_mono (m := (x.length : Int)) (n := (n : Int)) (p := (p : Int)) (q := (p : Int) + 1) (by omega) (by omega) (by omega)
    have w := pw_eq (m := x.length) (n := n) (p := (p : Int)) hm hn hn2 hn3 (by omega) (by omega)
    have c := cauchy (w := dif x y) k1.1 k3 (by rw [dif_len hl]; exact k2.2)
    rw [tt_succ]
    rw [pd_eq hl (by omega) (by omega) (by omega), show ((p + 1 : Nat) : Int) = (p : Int) + 1 by omega]
    have c2 := Int.mul_le_mul_of_nonneg_right c (show (0 : Int) ≤ (wt x.length n p : Int) by omega)
    have e : ∀ l t q : Int, l * t = mm x.length n → l * q * t = mm x.length n * q := fun l t q h => by rw [← h]; grind
    rw [e _ _ _ w, Int.mul_sub ((mm x.length n : Nat) : Int)] at c2
    omega
theorem mm_one {n : Nat} (hn : 1 ≤ n) : mm n n = 2 := by unfold mm; rw [Nat.div_self hn]
theorem cut_one {n : Nat} (hn : 1 ≤ n) (p : Int) : cut n n p = p := by unfold cut; exact Int.mul_ediv_cancel _ (by omega)
theorem tt_eq {x y : List Int} (hx : 1 ≤ x.length) (hx8 : x.length ≤ 8) (hl : x.length = y.length) : ∀ p : Nat, p ≤ x.length →
    ((TT (fun p => pcs x x.length p - pcs y x.length p) (wt x.length x.length) p : Nat) : Int) = mm x.length x.length * psum (sqs (dif x y)) p
  | 0, _ => by simp [TT, psum]
  | p + 1, h => by
    have ih := tt_eq hx hx8 hl p (by omega)
    have w := pw_eq (m := x.length) (n := x.length) (p := (p : Int)) (by omega) hx (by omega) (by omega) (by omega) (by omega)
    rw [tt_succ, ih]
    rw [pd_eq hl (by omega) (by omega) (by omega)]
    rw [cut_one hx, cut_one hx] at w ⊢
    have e1 := psum_succ (x := dif x y) (i := (p : Int)) (by omega) (by rw [dif_len hl]; omega)
    have e2 := psum_succ (x := sqs (dif x y)) (i := (p : Int)) (by omega) (by rw [sqs_len, dif_len hl]; omega)
    rw [rd_sqs (by omega) (by rw [dif_len hl]; omega)] at e2
    rw [show ((p + 1 : Nat) : Int) = (p : Int) + 1 by omega, e1, e2]
    have : (wt x.length x.length p : Int) = mm x.length x.length := by
      rw [← w, show (p : Int) + 1 - p = 1 by omega, Int.one_mul]
    rw [this]
    generalize psum (dif x y) p = s
    generalize rd (dif x y) p = v
    grind
theorem tc_eq {x y : List Int} {n : Nat} (hm : x.length ≤ 32) (hl : x.length = y.length) (hn : 1 ≤ n) (hn2 : n ≤ 8) (hn3 : n ≤ x.length) : ∀ p : Nat, p ≤ n →
    ((TT (fun p => pcc x n p - pcc y n p) (wt x.length n) p : Nat) : Int) = (x.length : Int) * x.length * (TT (fun p => pcs x n p - pcs y n p) (wt x.length n) p : Nat) - 2 * (x.length * psum (dif x y) x.length * mm x.length n * psum (dif x y) (cut x.length n p)) + psum (dif x y) x.length * psum (dif x y) x.length * mm x.length n * cut x.length n p
  | 0, _ => by simp [TT, cut, psum]
  | p + 1, h => by
    have ih := tc_eq hm hl hn hn2 hn3 p (by omega)
    have w := pw_eq (m := x.length) (n := n) (p := (p : Int)) hm hn hn2 hn3 (by omega) (by omega)
    have d := pd_eq (x := x) (y := y) (n := (n : Int)) hl (by omega) (p := (p : Int)) (by omega) (by omega)
    have hS : psum (dif x y) x.length = x.sum - y.sum := by
      rw [psum_dif hl x.length (by omega), psum_all]
      have : (x.length : Int) = (y.length : Int) := by omega
      rw [this, psum_all]
    rw [tt_succ, tt_succ, ih, show ((p + 1 : Nat) : Int) = (p : Int) + 1 by omega]
    have e : pcc x n p - pcc y n p = (x.length : Int) * (pcs x n p - pcs y n p) - (cut x.length n (p + 1) - cut x.length n p) * psum (dif x y) x.length := by
      unfold pcc
      rw [hS, ← hl]
      grind
    rw [e, d, ← w]
    generalize psum (dif x y) x.length = S
    generalize psum (dif x y) (cut x.length n p) = a
    generalize psum (dif x y) (cut x.length n (p + 1)) = b
    generalize cut x.length n p = i
    generalize cut x.length n (p + 1) = j
    generalize ((TT (fun p => pcs x n p - pcs y n p) (wt x.length n) p : Nat) : Int) = t
    generalize (wt x.length n p : Int) = u
    generalize (x.length : Int) = l
    grind
/-- The one from the other. -/
theorem tc_fin {x y : List Int} {n : Nat} (hm : x.length ≤ 32) (hl : x.length = y.length) (hn : 1 ≤ n) (hn2 : n ≤ 8) (hn3 : n ≤ x.length) :
    ((TT (fun p => pcc x n p - pcc y n p) (wt x.length n) n : Nat) : Int) = (x.length : Int) * x.length * (TT (fun p => pcs x n p - pcs y n p) (wt x.length n) n : Nat) - x.length * mm x.length n * (psum (dif x y) x.length * psum (dif x y) x.length) := by
  have h := tc_eq hm hl hn hn2 hn3 n (by omega)
  rw [cut_last (by omega)] at h
  rw [h]
  grind

/-- What all comparisons of the law are about. -/
theorem pb_facts {x y : List Int} {n : Nat} (hx : Win x) (hy : Win y) (hl : x.length = y.length) (hn : 1 ≤ n) (hn2 : n ≤ 8) (hn3 : n ≤ x.length) :
    ∃ D E : Nat, psum (sqs (dif x y)) x.length = D ∧ (x.length : Int) * psum (sqs (dif x y)) x.length - psum (dif x y) x.length * psum (dif x y) x.length = E ∧ D ≤ 128000000 ∧ E ≤ 8200000000 ∧
      0 < mm x.length n ∧ mm x.length n ≤ 1056 ∧
      TT (fun p => pcs x n p - pcs y n p) (wt x.length n) n ≤ D * mm x.length n ∧
      TT (fun p => pcc x n p - pcc y n p) (wt x.length n) n * x.length ≤ E * (x.length * x.length * mm x.length n) ∧
      TT (fun p => pcc x n p - pcc y n p) (wt x.length n) n ≤ TT (fun p => pcs x n p - pcs y n p) (wt x.length n) n * (x.length * x.length) ∧
      (n = x.length → TT (fun p => pcs x n p - pcs y n p) (wt x.length n) n = D * mm x.length n ∧ TT (fun p => pcc x n p - pcc y n p) (wt x.length n) n * x.length = E * (x.length * x.length * mm x.length n)) := by
  have x1 := hx.lo
  have x2 := hx.hi
  have b := dif_bounds hx hy hl (i := x.length) (by omega) (by omega)
  have c := cauchy (w := dif x y) (a := 0) (b := x.length) (by omega) (by omega) (by rw [dif_len hl]; omega)
  rw [psum_zero, psum_zero, Int.sub_zero, Int.sub_zero, Int.sub_zero] at c
  have p2 := prod_bound (a := (x.length : Int)) (b := psum (sqs (dif x y)) x.length) (A := 32) (B := 128000000) (by omega) (by omega) (by omega) (by omega)
  have p3 := sq_pos (psum (dif x y) x.length)
  have w0 := wt_ok (m := x.length) (n := n) (p := 0) (by omega) hn hn2 hn3 (by omega) (by omega)
  have t1 := tt_le (x := x) (y := y) x2 hl hn hn2 hn3 n (by omega)
  rw [cut_last (by omega)] at t1
  have t2 := tc_fin (x := x) (y := y) x2 hl hn hn2 hn3
  have t3 : n = x.length → ((TT (fun p => pcs x n p - pcs y n p) (wt x.length n) n : Nat) : Int) = mm x.length n * psum (sqs (dif x y)) x.length := by
    intro e
    subst e
    exact tt_eq (x := x) (y := y) hn hn2 hl x.length (by omega)
  obtain ⟨D, hD⟩ : ∃ D : Nat, psum (sqs (dif x y)) x.length = D := ⟨(psum (sqs (dif x y)) x.length).toNat, by omega⟩
  obtain ⟨E, hE⟩ : ∃ E : Nat, (x.length : Int) * psum (sqs (dif x y)) x.length - psum (dif x y) x.length * psum (dif x y) x.length = E := ⟨((x.length : Int) * psum (sqs (dif x y)) x.length - psum (dif x y) x.length * psum (dif x y) x.length).toNat, by omega⟩
  refine ⟨D, E, hD, hE, by omega, by omega, w0.2.2.2.2.1, w0.2.2.2.2.2, ?_⟩
  rw [hD] at t1 t3 hE
  generalize TT (fun p => pcs x n p - pcs y n p) (wt x.length n) n = T at t1 t2 t3 ⊢
  generalize TT (fun p => pcc x n p - pcc y n p) (wt x.length n) n = U at t2 ⊢
  generalize psum (dif x y) x.length * psum (dif x y) x.length = S at t2 hE p3
  obtain ⟨s, rfl⟩ : ∃ s : Nat, S = s := ⟨S.toNat, by omega⟩
  generalize mm x.length n = M at t1 t2 t3 ⊢
  generalize x.length = l at *
  have t1' : T ≤ D * M := by
    have : (M : Int) * D = ((D * M : Nat) : Int) := by rw [Int.natCast_mul, Int.mul_comm]
    omega
  have hE' : l * D = E + s := by
    have : (l : Int) * D = ((l * D : Nat) : Int) := by simp
    omega
  have t2' : U + l * M * s = l * l * T := by
    have a1 : (l : Int) * l * T = ((l * l * T : Nat) : Int) := by simp
    have a2 : (l : Int) * M * s = ((l * M * s : Nat) : Int) := by simp
    omega
  have key : U * l + (l * l * l) * (D * M - T) = E * (l * l * M) := by
    obtain ⟨v, hv⟩ : ∃ v, D * M = T + v := ⟨D * M - T, by omega⟩
    rw [hv, Nat.add_sub_cancel_left]
    have h1 : U * l + l * l * M * s = l * l * l * T := by
      have := congrArg (· * l) t2'
      grind
    have h2 : l * l * l * (T + v) = E * (l * l * M) + s * (l * l * M) := by
      rw [← hv]
      have := congrArg (· * (l * l * M)) hE'
      grind
    grind
  refine ⟨t1', by omega, ?_, fun e => ?_⟩
  · have : l * l * T = T * (l * l) := Nat.mul_comm _ _
    omega
  · have t3' : T = D * M := by
      have h := t3 e
      have : (M : Int) * D = ((D * M : Nat) : Int) := by rw [Int.natCast_mul, Int.mul_comm]
      omega
    refine ⟨t3', ?_⟩
    rw [t3', Nat.sub_self, Nat.mul_zero] at key
    omega

-- Dividing each piece into two never makes a bound less: PiecesFiner returns true for every list.
theorem awake_k (k : Nat) : T_law18_awake (k + 40) = some true := by kernel_rfl
theorem awake_ok : Gives (fun k => T_law18_awake k) (· = true) := ⟨true, ⟨40, fun k hk => by
  obtain ⟨m, rfl⟩ : ∃ m, k = m + 40 := ⟨k - 40, by omega⟩
  exact awake_k m⟩, rfl⟩
theorem cut_even {m n : Nat} (hn : 1 ≤ n) (p : Nat) : cut m (2 * n : Nat) (2 * p : Nat) = cut m n p := by
  unfold cut
  have e : ((2 * p : Nat) : Int) * m = (2 : Int) * (p * m) := by
    rw [Int.natCast_mul, Int.mul_assoc]; rfl
  rw [e, show ((2 * n : Nat) : Int) = (2 : Int) * n by simp, Int.mul_ediv_mul_of_pos _ _ (by omega)]
/-- The law of two parts. -/
theorem two_parts {s t l1 l2 w1 w2 M : Int} (h1 : l1 * w1 = M) (h2 : l2 * w2 = M) (p1 : 0 < l1) (p2 : 0 < l2) (pm : 0 ≤ M) : (s + t) * (s + t) * M ≤ (l1 + l2) * (s * s * w1 + t * t * w2) := by
  have k : 0 ≤ M * ((l2 * s - l1 * t) * (l2 * s - l1 * t)) := Int.mul_nonneg pm (sq_pos _)
  have e : M * ((l2 * s - l1 * t) * (l2 * s - l1 * t)) = l1 * l2 * ((l1 + l2) * (s * s * w1 + t * t * w2) - (s + t) * (s + t) * M) := by
    have a1 : l1 * l2 * ((l1 + l2) * (s * s * w1 + t * t * w2)) = l1 * (l1 * w1) * l2 * (s * s) + (l1 * w1) * l2 * l2 * (s * s) + l1 * l1 * (l2 * w2) * (t * t) + l1 * l2 * (l2 * w2) * (t * t) := by grind
    rw [Int.mul_sub (l1 * l2), a1, h1, h2]
    grind
  rw [e] at k
  have := Int.nonneg_of_mul_nonneg_right k (Int.mul_pos p1 p2)
  omega
theorem fine_le {x y : List Int} {n : Nat} (hm : x.length ≤ 32) (hl : x.length = y.length) (hn : 1 ≤ n) (hn2 : 2 * n ≤ 8) (hn3 : 2 * n ≤ x.length) : ∀ p : Nat, p ≤ n →
    ((TT (fun p => pcs x n p - pcs y n p) (wt x.length n) p : Nat) : Int) * mm x.length (2 * n) ≤ ((TT (fun p => pcs x (2 * n : Nat) p - pcs y (2 * n : Nat) p) (wt x.length (2 * n)) (2 * p) : Nat) : Int) * mm x.length n
  | 0, _ => by simp [TT]
  | p + 1, h => by
    have ih := fine_le hm hl hn hn2 hn3 p (by omega)
    have w := pw_eq (m := x.length) (n := n) (p := (p : Int)) hm hn (by omega) (by omega) (by omega) (by omega)
    have v1 := pw_eq (m := x.length) (n := 2 * n) (p := ((2 * p : Nat) : Int)) hm (by omega) hn2 hn3 (by omega) (by omega)
    have v2 := pw_eq (m := x.length) (n := 2 * n) (p := ((2 * p + 1 : Nat) : Int)) hm (by omega) hn2 hn3 (by omega) (by omega)
    have o1 := wt_ok (m := x.length) (n := 2 * n) (p := ((2 * p : Nat) : Int)) hm (by omega) hn2 hn3 (by omega) (by omega)
    have o2 := wt_ok (m := x.length) (n := 2 * n) (p := ((2 * p + 1 : Nat) : Int)) hm (by omega) hn2 hn3 (by omega) (by omega)
    have d := pd_eq (x := x) (y := y) (n := (n : Int)) hl (by omega) (p := (p : Int)) (by omega) (by omega)
    have d1 := pd_eq (x := x) (y := y) (n := ((2 * n : Nat) : Int)) hl (by omega) (p := ((2 * p : Nat) : Int)) (by omega) (by omega)
    have d2 := pd_eq (x := x) (y := y) (n := ((2 * n : Nat) : Int)) hl (by omega) (p := ((2 * p + 1 : Nat) : Int)) (by omega) (by omega)
    have c0 := cut_even (m := x.length) hn p
    have c1 := cut_even (m := x.length) hn (p + 1)
    have i1 : ((2 * p : Nat) : Int) + 1 = ((2 * p + 1 : Nat) : Int) := by omega
    have i2 : ((2 * p + 1 : Nat) : Int) + 1 = ((2 * (p + 1) : Nat) : Int) := by omega
    have i3 : ((p : Nat) : Int) + 1 = ((p + 1 : Nat) : Int) := by omega
    rw [i1] at v1 d1 o1
    rw [i2] at v2 d2 o2
    rw [i3] at w d
    rw [c0] at v1 d1 o1
    rw [c1] at v2 d2 o2
    rw [show 2 * (p + 1) = 2 * p + 1 + 1 by omega, tt_succ, tt_succ, tt_succ, d, d1, d2]
    generalize cut x.length ((2 * n : Nat) : Int) ((2 * p + 1 : Nat) : Int) = j at *
    generalize cut x.length n p = i at *
    generalize cut x.length n ((p + 1 : Nat) : Int) = k at *
    generalize psum (dif x y) i = a at *
    generalize psum (dif x y) j = b at *
    generalize psum (dif x y) k = c at *
    have t := two_parts (s := b - a) (t := c - b) v1 v2 (by omega) (by omega) (by omega)
    generalize ((wt x.length (2 * n) ((2 * p : Nat) : Int) : Nat) : Int) = w1 at *
    generalize ((wt x.length (2 * n) ((2 * p + 1 : Nat) : Int) : Nat) : Int) = w2 at *
    have wp : (0 : Int) ≤ (wt x.length n p : Int) := by omega
    generalize ((wt x.length n (p : Int) : Nat) : Int) = u at *
    generalize ((mm x.length n : Nat) : Int) = M at *
    generalize ((mm x.length (2 * n) : Nat) : Int) = N at *
    have t2 := Int.mul_le_mul_of_nonneg_right t wp
    have e1 : (b - a + (c - b)) * (b - a + (c - b)) * N * u = (c - a) * (c - a) * u * N := by grind
    have e2 : (j - i + (k - j)) * ((b - a) * (b - a) * w1 + (c - b) * (c - b) * w2) * u = ((b - a) * (b - a) * w1 + (c - b) * (c - b) * w2) * ((k - i) * u) := by grind
    rw [e1, e2, w] at t2
    generalize (c - a) * (c - a) * u = A at *
    generalize (b - a) * (b - a) * w1 = B at *
    generalize (c - b) * (c - b) * w2 = C at *
    rw [Int.add_mul, Int.add_mul, Int.add_mul]
    rw [Int.add_mul] at t2
    omega
theorem pure_piecesFiner (a0 : List Int) (w0 : ∀ n ∈ a0, (Lit.int .i64 n).wf = true) : ∃ k, T_law18_PiecesFiner k a0 = some true := by
  refine Gives.true (f := fun k => T_law18_PiecesFiner k a0) ?_
  obtain ⟨s0, s1⟩ := src_new a0
  refine Gives.step ?_
  simp only [T_law18_PiecesFiner]
  refine Gives.bind s1 fun _ _ => Gives.bind (src_pair s0) fun a ha => ?_
  obtain ⟨hx, hy, hl, a8⟩ := ha
  have x1 := hx.lo
  have x2 := hx.hi
  obtain ⟨h, eh, h1, h2, h3⟩ : ∃ h : Int, w64 ((imin 8 (a.1.length : Int)).tdiv 2) = h ∧ 1 ≤ h ∧ 2 * h ≤ 8 ∧ 2 * h ≤ (a.1.length : Int) := by
    have e : imin 8 (a.1.length : Int) ≤ 8 ∧ imin 8 (a.1.length : Int) ≤ (a.1.length : Int) ∧ 2 ≤ imin 8 (a.1.length : Int) := by unfold imin; split <;> omega
    generalize imin 8 (a.1.length : Int) = v at e ⊢
    rw [Int.tdiv_eq_ediv_of_nonneg (by omega), w64_id (by omega) (by omega)]
    exact ⟨_, rfl, by omega, by omega, by omega⟩
  rw [eh]
  refine Gives.bind (src_range a8 1 h h1 (by omega) (by omega)) fun c hc => ?_
  obtain ⟨n1, n2, _⟩ := hc
  obtain ⟨n, en⟩ : ∃ n : Nat, c.1 = n := ⟨c.1.toNat, by omega⟩
  rw [en] at n1 n2 ⊢
  rw [w64_id (x := 2 * (n : Int)) (by omega) (by omega)]
  have e2 : (2 : Int) * (n : Int) = ((2 * n : Nat) : Int) := by simp
  rw [e2]
  generalize a.1 = x at hx hl x1 x2 h3 ⊢
  generalize a.2.1 = y at hy hl ⊢
  obtain ⟨D, E, hD, hE, d1, e1, m1, m2, f1, f2, f3, f4⟩ := pb_facts hx hy hl (n := n) (by omega) (by omega) (by omega)
  obtain ⟨D', E', hD', hE', d1', e1', m1', m2', f1', f2', f3', f4'⟩ := pb_facts hx hy hl (n := 2 * n) (by omega) (by omega) (by omega)
  have t1 := fine_le (x := x) (y := y) (n := n) x2 hl (by omega) (by omega) (by omega) n (by omega)
  have t2 := tc_fin (x := x) (y := y) (n := n) x2 hl (by omega) (by omega) (by omega)
  have t3 := tc_fin (x := x) (y := y) (n := 2 * n) x2 hl (by omega) (by omega) (by omega)
  refine Gives.bind (pc_lower hx hy hl (n := n) (by omega) (by omega) (by omega)) fun ra ha => Gives.bind (pc_lower hx hy hl (n := 2 * n) (by omega) (by omega) (by omega)) fun rb hb => Gives.bind (pc_shifted hx hy hl (n := n) (by omega) (by omega) (by omega)) fun rc hc => Gives.bind (pc_shifted hx hy hl (n := 2 * n) (by omega) (by omega) (by omega)) fun rd hd => ?_
  obtain ⟨A, A', rfl, hA⟩ := ha
  obtain ⟨B, B', rfl, hB⟩ := hb
  obtain ⟨U, U', rfl, hU⟩ := hc
  obtain ⟨V, V', rfl, hV⟩ := hd
  have l1 : 2 * 2 ≤ x.length * x.length := Nat.mul_le_mul x1 x1
  have l2 : x.length * x.length ≤ 32 * 32 := Nat.mul_le_mul x2 x2
  have M1 : 0 < 1 * mm x.length n := by omega
  have M2 : 0 < x.length * x.length * mm x.length n := Nat.mul_pos (by omega) m1
  have M3 : x.length * x.length * mm x.length n ≤ 1024 * 1056 := Nat.mul_le_mul (by omega) m2
  have N1 : 0 < 1 * mm x.length (2 * n) := by omega
  have N2 : 0 < x.length * x.length * mm x.length (2 * n) := Nat.mul_pos (by omega) m1'
  have N3 : x.length * x.length * mm x.length (2 * n) ≤ 1024 * 1056 := Nat.mul_le_mul (by omega) m2'
  have bA : D * mm x.length n ≤ 128000000 * 1056 := Nat.mul_le_mul d1 m2
  have bE : E * (x.length * x.length * mm x.length n) ≤ 8200000000 * (1024 * 1056) := Nat.mul_le_mul e1 M3
  have bA' : D' * mm x.length (2 * n) ≤ 128000000 * 1056 := Nat.mul_le_mul d1' m2'
  have bE' : E' * (x.length * x.length * mm x.length (2 * n)) ≤ 8200000000 * (1024 * 1056) := Nat.mul_le_mul e1' N3
  have lA := hA.le M1
  have lU := hU.le M2
  have lB := hB.le N1
  have lV := hV.le N2
  generalize TT (fun p => pcs x n p - pcs y n p) (wt x.length n) n = T at *
  generalize TT (fun p => pcc x n p - pcc y n p) (wt x.length n) n = Tc at *
  generalize TT (fun p => pcs x (2 * n : Nat) p - pcs y (2 * n : Nat) p) (wt x.length (2 * n)) (2 * n) = F at *
  generalize TT (fun p => pcc x (2 * n : Nat) p - pcc y (2 * n : Nat) p) (wt x.length (2 * n)) (2 * n) = Fc at *
  have bU : Tc * 2 ≤ Tc * x.length := Nat.mul_le_mul_left _ x1
  have bV : Fc * 2 ≤ Fc * x.length := Nat.mul_le_mul_left _ x1
  generalize psum (dif x y) x.length * psum (dif x y) x.length = S at *
  generalize mm x.length n = M at *
  generalize mm x.length (2 * n) = N at *
  have k1 : T * N ≤ F * M := by
    have a1 : (T : Int) * N = ((T * N : Nat) : Int) := by simp
    have a2 : (F : Int) * M = ((F * M : Nat) : Int) := by simp
    omega
  have k2 : Tc * (x.length * x.length * N) ≤ Fc * (x.length * x.length * M) := by
    have g1 : (Tc : Int) * N ≤ (Fc : Int) * M := by
      rw [t2, t3]
      have b1 : ((x.length : Int) * x.length * T - x.length * M * S) * N = (x.length : Int) * x.length * (T * N) - x.length * M * S * N := by grind
      have b2 : ((x.length : Int) * x.length * F - x.length * N * S) * M = (x.length : Int) * x.length * (F * M) - x.length * M * S * N := by grind
      rw [b1, b2]
      have b3 : (x.length : Int) * x.length * (T * N) ≤ (x.length : Int) * x.length * (F * M) := Int.mul_le_mul_of_nonneg_left t1 (Int.mul_nonneg (by omega) (by omega))
      omega
    have g2 : Tc * N ≤ Fc * M := by
      have a1 : (Tc : Int) * N = ((Tc * N : Nat) : Int) := by simp
      have a2 : (Fc : Int) * M = ((Fc * M : Nat) : Int) := by simp
      omega
    have := Nat.mul_le_mul_left (x.length * x.length) g2
    have e3 : x.length * x.length * (Tc * N) = Tc * (x.length * x.length * N) := Nat.mul_left_comm _ _ _
    have e4 : x.length * x.length * (Fc * M) = Fc * (x.length * x.length * M) := Nat.mul_left_comm _ _ _
    omega
  have c1 := hA.cmp hB M1 N1 (by rw [Nat.one_mul, Nat.one_mul]; exact k1)
  have c2 := hU.cmp hV M2 N2 k2
  have cw : Gives (fun k => T_ref01_Cmp k A A' B B') (fun r => r ≤ 0) := (ro_cmp hA.cop hA.pos (by omega) (by omega) hB.cop hB.pos (by omega) (by omega)).mono fun r h => by omega
  have cv : Gives (fun k => T_ref01_Cmp k U U' V V') (fun r => r ≤ 0) := (ro_cmp hU.cop hU.pos (by omega) (by omega) hV.cop hV.pos (by omega) (by omega)).mono fun r h => by omega
  refine Gives.bind (Q := fun v => v = true) ?_ fun v hv => Gives.now hv
  refine Gives.pos (by simp) (Gives.bind cw fun r hr => Gives.pos hr (Gives.bind cv fun r hr => Gives.pos hr (Gives.bind (r01_valid hB.cop hB.pos (by omega) (by omega)) fun v hv => Gives.pos hv (Gives.bind (r01_valid hV.cop hV.pos (by omega) (by omega)) fun v hv => Gives.pos hv (Gives.bind awake_ok fun v hv => Gives.now hv)))))

end Go.Proofs.Ytkiacebcedpljaa.piecesFiner
