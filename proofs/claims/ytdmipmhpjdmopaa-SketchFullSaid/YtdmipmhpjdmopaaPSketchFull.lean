/- That the told functions answer as the statement SketchFull says, in plain Lean. There are no conditions. -/
import Derived.Test.YtdmipmhpjdmopaaTSketchFull1
set_option maxRecDepth 100000
set_option linter.unusedVariables false
set_option linter.unusedSimpArgs false
namespace Go.Proofs.Ytdmipmhpjdmopaa.sketchFull
open Go
theorem wf_u8 {n : Int} (h : (Lit.int .u8 n).wf = true) : 0 ≤ n ∧ n ≤ 255 := by
  simpa [Lit.wf, IntKind.min, IntKind.max, IntKind.signed, IntKind.bits] using h
theorem wf_i8 {n : Int} (h : (Lit.int .i8 n).wf = true) : -128 ≤ n ∧ n ≤ 127 := by
  simpa [Lit.wf, IntKind.min, IntKind.max, IntKind.signed, IntKind.bits] using h
theorem wf_i64 {n : Int} (h : (Lit.int .i64 n).wf = true) : -9223372036854775808 ≤ n ∧ n ≤ 9223372036854775807 := by
  simpa [Lit.wf, IntKind.min, IntKind.max, IntKind.signed, IntKind.bits] using h
theorem w64_id {x : Int} (h1 : -9223372036854775808 ≤ x) (h2 : x < 9223372036854775808) : w64 x = x := wrap_id h1 h2

/-- With enough rounds the answer is there, and it is as asked. -/
def Gives {α : Type} (f : Nat → Option α) (Q : α → Prop) : Prop := ∃ r, (∃ K, ∀ k, K ≤ k → f k = some r) ∧ Q r
theorem Gives.mono {α : Type} {f : Nat → Option α} {Q Q' : α → Prop} (h : Gives f Q) (k : ∀ r, Q r → Q' r) : Gives f Q' := by
  obtain ⟨r, h1, h2⟩ := h; exact ⟨r, h1, k r h2⟩
theorem Gives.now {α : Type} {r : α} {Q : α → Prop} (h : Q r) : Gives (fun _ => some r) Q := ⟨r, ⟨0, fun _ _ => rfl⟩, h⟩
theorem Gives.con {α : Type} {x : Option α} {r : α} {Q : α → Prop} (h : x = some r) (k : Q r) : Gives (fun _ => x) Q := ⟨r, ⟨0, fun _ _ => h⟩, k⟩
theorem Gives.bind {α β : Type} {f : Nat → Option α} {g : Nat → α → Option β} {Q : α → Prop} {Q' : β → Prop} (h : Gives f Q) (k : ∀ a, Q a → Gives (fun n => g n a) Q') : Gives (fun n => (f n).bind (g n)) Q' := by
  obtain ⟨a, ⟨K, hK⟩, ha⟩ := h
  obtain ⟨r, ⟨K2, hK2⟩, hr⟩ := k a ha
  exact ⟨r, ⟨max K K2, fun n hn => by show (f n).bind (g n) = some r; rw [hK n (by omega), Option.bind_some]; exact hK2 n (by omega)⟩, hr⟩
theorem Gives.opt {α β : Type} {x : Option α} {a : α} {g : Nat → α → Option β} {Q : β → Prop} (h : x = some a) (k : Gives (fun n => g n a) Q) : Gives (fun n => x.bind (g n)) Q := by
  subst h; exact k
theorem Gives.step {α : Type} {f : Nat → Option α} {Q : α → Prop} (h : Gives (fun k => f (k + 1)) Q) : Gives f Q := by
  obtain ⟨r, ⟨K, hK⟩, hr⟩ := h
  refine ⟨r, ⟨K + 1, fun n hn => ?_⟩, hr⟩
  obtain ⟨m, rfl⟩ : ∃ m, n = m + 1 := ⟨n - 1, by omega⟩
  exact hK m (by omega)
theorem Gives.ite {α : Type} {c : Prop} [Decidable c] {f g : Nat → Option α} {Q : α → Prop} (h : c → Gives f Q) (k : ¬ c → Gives g Q) : Gives (fun n => if c then f n else g n) Q := by
  by_cases hc : c
  · simp only [if_pos hc]; exact h hc
  · simp only [if_neg hc]; exact k hc
theorem Gives.pos {α : Type} {c : Prop} [Decidable c] {f g : Nat → Option α} {Q : α → Prop} (hc : c) (h : Gives f Q) : Gives (fun n => if c then f n else g n) Q := by
  simp only [if_pos hc]; exact h
theorem Gives.neg {α : Type} {c : Prop} [Decidable c] {f g : Nat → Option α} {Q : α → Prop} (hc : ¬ c) (h : Gives g Q) : Gives (fun n => if c then f n else g n) Q := by
  simp only [if_neg hc]; exact h
theorem Gives.loop {S R : Type} {f : Nat → S → Option (S ⊕ R)} {Q : R → Prop} (Inv : S → Prop) (m : S → Nat)
    (h : ∀ s, Inv s → Gives (fun k => f k s) (fun x => match x with | .inl s' => Inv s' ∧ m s' < m s | .inr r => Q r)) {s : S} (hs : Inv s) : Gives (fun k => loopT (f k) k s) Q := by
  suffices H : ∀ (n : Nat) (s : S), m s < n → Inv s → ∃ r, (∃ K N, ∀ k, K ≤ k → ∀ j, N ≤ j → loopT (f k) j s = some r) ∧ Q r by
    obtain ⟨r, ⟨K, N, hK⟩, hr⟩ := H (m s + 1) s (by omega) hs
    exact ⟨r, ⟨max K N, fun k hk => hK k (by omega) k (by omega)⟩, hr⟩
  intro n
  induction n with
  | zero => intro s hs; omega
  | succ n ih =>
    intro s hs hI
    obtain ⟨x, ⟨K, hK⟩, hx⟩ := h s hI
    cases x with
    | inl s' =>
      obtain ⟨r, ⟨K2, N, hK2⟩, hr⟩ := ih s' (by have := hx.2; omega) hx.1
      refine ⟨r, ⟨max K K2, N + 1, fun k hk j hj => ?_⟩, hr⟩
      obtain ⟨j', rfl⟩ : ∃ j', j = j' + 1 := ⟨j - 1, by omega⟩
      simp only [loopT, hK k (by omega), Option.bind_some]
      exact hK2 k (by omega) j' (by omega)
    | inr r =>
      refine ⟨r, ⟨K, 1, fun k hk j hj => ?_⟩, hx⟩
      obtain ⟨j', rfl⟩ : ∃ j', j = j' + 1 := ⟨j - 1, by omega⟩
      simp only [loopT, hK k hk, Option.bind_some]
theorem Gives.true {f : Nat → Option Bool} (h : Gives f (· = true)) : ∃ k, f k = some true := by
  obtain ⟨r, ⟨K, hK⟩, hr⟩ := h
  subst hr
  exact ⟨K, hK K (Nat.le_refl _)⟩
/-- An element of a list, 0 outside of it. -/
def rd (xs : List Int) (i : Int) : Int := xs.getD i.toNat 0
theorem at_rd {xs : List Int} {i : Int} (h0 : 0 ≤ i) (h1 : i < (xs.length : Int)) : at? xs i = some (rd xs i) := by
  unfold at? rd
  rw [if_pos h0, List.getD_eq_getElem?_getD, List.getElem?_eq_getElem (by omega)]; rfl
theorem get_rd {xs : List Int} {n : Nat} (h1 : n < xs.length) : xs[n]? = some (rd xs n) := by
  unfold rd
  rw [List.getD_eq_getElem?_getD, List.getElem?_eq_getElem h1]
  simp [h1]
theorem rd_mem {xs : List Int} {i : Int} (h0 : 0 ≤ i) (h1 : i < (xs.length : Int)) : rd xs i ∈ xs := by
  unfold rd
  have h : i.toNat < xs.length := by omega
  rw [List.getD_eq_getElem?_getD, List.getElem?_eq_getElem h]; exact List.getElem_mem h
/-- All numbers are samples. -/
def Smp (xs : List Int) : Prop := ∀ v ∈ xs, -1000 ≤ v ∧ v ≤ 1000
theorem Smp.rd {xs : List Int} (h : Smp xs) (i : Int) : -1000 ≤ rd xs i ∧ rd xs i ≤ 1000 := by
  show -1000 ≤ xs.getD i.toNat 0 ∧ xs.getD i.toNat 0 ≤ 1000
  rw [List.getD_eq_getElem?_getD]
  rcases Nat.lt_or_ge i.toNat xs.length with c | c
  · rw [List.getElem?_eq_getElem c]; exact h _ (List.getElem_mem c)
  · rw [List.getElem?_eq_none c]; decide
theorem Smp.nil : Smp [] := fun _ h => by simp at h
theorem Smp.app {xs ys : List Int} (h : Smp xs) (k : Smp ys) : Smp (xs ++ ys) := fun v hv => by
  rcases List.mem_append.1 hv with h1 | h1
  · exact h v h1
  · exact k v h1
theorem Smp.one {v : Int} (h0 : -1000 ≤ v) (h1 : v ≤ 1000) : Smp [v] := fun u hu => by
  obtain rfl := List.mem_singleton.1 hu; exact ⟨h0, h1⟩
theorem Smp.take {xs : List Int} (h : Smp xs) (n : Nat) : Smp (xs.take n) := fun v hv => h v (List.mem_of_mem_take hv)
theorem Smp.drop {xs : List Int} (h : Smp xs) (n : Nat) : Smp (xs.drop n) := fun v hv => h v (List.mem_of_mem_drop hv)
theorem Smp.set {xs : List Int} (h : Smp xs) (n : Nat) {v : Int} (h0 : -1000 ≤ v) (h1 : v ≤ 1000) : Smp (xs.set n v) := fun u hu => by
  rcases List.mem_or_eq_of_mem_set hu with h2 | h2
  · exact h u h2
  · subst h2; exact ⟨h0, h1⟩
/-- A window. -/
structure Win (xs : List Int) : Prop where
  lo : 2 ≤ xs.length
  hi : xs.length ≤ 32
  smp : Smp xs

/-- A reader of numbers. -/
structure SrcOk (L : List Int) (p : Int) : Prop where
  lo : 0 ≤ p
  hi : p ≤ (L.length : Int)
  len : L.length ≤ 2000
theorem src_raw {L : List Int} {p : Int} (h : SrcOk L p) : Gives (fun k => T_keep_Src_Raw k L p) (fun r => SrcOk L r.2) := by
  obtain ⟨h0, h1, h2⟩ := h
  refine Gives.step ?_
  simp only [T_keep_Src_Raw]
  have e1 : w64 (p + 1) = p + 1 := w64_id (by omega) (by omega)
  have e2 : w64 (w64 (p + 1) - 1) = p := by rw [e1, w64_id (by omega) (by omega)]; omega
  refine Gives.ite (fun c => Gives.now ⟨h0, h1, h2⟩) fun c => ?_
  rw [e2, e1]
  exact Gives.opt (at_rd h0 (by omega)) (Gives.now ⟨by simp only []; omega, by simp only []; omega, h2⟩)
theorem src_mod (x n : Int) (h : 1 ≤ n) (hn : n ≤ 4611686018427387904) : Gives (fun k => T_keep_Mod k x n) (fun v => 0 ≤ v ∧ v < n) := by
  have h1 : Int.tmod x n < n := Int.tmod_lt_of_pos _ (by omega)
  have h2 : -n < Int.tmod x n := by
    rcases Int.le_total 0 x with c | c
    · have := Int.tmod_nonneg n c; omega
    · have h3 : Int.tmod (-x) n < n := Int.tmod_lt_of_pos _ (by omega)
      rw [Int.neg_tmod] at h3; omega
  refine Gives.step ?_
  simp only [T_keep_Mod]
  refine Gives.neg (by omega) (Gives.pos (by omega) (Gives.bind (Q := fun v => 0 ≤ v ∧ v < n) ?_ fun a ha => Gives.now ha))
  refine Gives.ite (fun c => ?_) fun c => Gives.now ⟨by omega, by omega⟩
  rw [w64_id (by omega) (by omega)]
  exact Gives.now ⟨by omega, by omega⟩
theorem src_n {L : List Int} {p : Int} (h : SrcOk L p) (n : Int) (h1 : 1 ≤ n) (hn : n ≤ 4611686018427387904) : Gives (fun k => T_keep_Src_N k n L p) (fun r => 0 ≤ r.1 ∧ r.1 < n ∧ SrcOk L r.2) := by
  refine Gives.step ?_
  simp only [T_keep_Src_N]
  exact Gives.bind (src_raw h) fun a ha => Gives.bind (src_mod a.1 n h1 hn) fun v hv => Gives.now ⟨hv.1, hv.2, ha⟩
theorem src_range {L : List Int} {p : Int} (h : SrcOk L p) (lo hi : Int) (h1 : lo ≤ hi) (h0 : -1000000000000 ≤ lo) (h2 : hi ≤ 1000000000000) : Gives (fun k => T_keep_Src_Range k lo hi L p) (fun r => lo ≤ r.1 ∧ r.1 ≤ hi ∧ SrcOk L r.2) := by
  have e1 : w64 (w64 (hi - lo) + 1) = hi - lo + 1 := by rw [w64_id (x := hi - lo) (by omega) (by omega), w64_id (by omega) (by omega)]
  refine Gives.step ?_
  simp only [T_keep_Src_Range]
  rw [e1]
  refine Gives.bind (src_n h (hi - lo + 1) (by omega) (by omega)) fun a ha => ?_
  rw [w64_id (by omega) (by omega)]
  exact Gives.now ⟨by simp only []; omega, by simp only []; omega, ha.2.2⟩
theorem src_pick {L : List Int} {p : Int} (h : SrcOk L p) (l : List Int) (h1 : 1 ≤ l.length) (h2 : l.length ≤ 1000) : Gives (fun k => T_keep_Src_Pick k l L p) (fun r => r.1 ∈ l ∧ SrcOk L r.2) := by
  refine Gives.step ?_
  simp only [T_keep_Src_Pick]
  exact Gives.bind (src_n h (l.length : Int) (by omega) (by omega)) fun a ha => Gives.opt (at_rd ha.1 ha.2.1) (Gives.now ⟨rd_mem ha.1 ha.2.1, ha.2.2⟩)
theorem src_clip (x : Int) : Gives (fun k => T_keep_clip k x) (fun _ => True) := by
  refine Gives.step ?_
  simp only [T_keep_clip]
  exact Gives.now trivial
theorem clip_smp (x : Int) : -1000 ≤ imin (imax x (-1000)) 1000 ∧ imin (imax x (-1000)) 1000 ≤ 1000 := by unfold imin imax; split <;> split <;> omega
theorem drop_take_len {xs : List Int} {n : Nat} (h : xs.length = n) : (xs.drop 0).take n = xs := by rw [List.drop_zero, ← h, List.take_length]
theorem src_list {L : List Int} {p : Int} (h : SrcOk L p) (n : Int) (h1 : 2 ≤ n) (h2 : n ≤ 32) : Gives (fun k => T_keep_Src_List k n L p) (fun r => (r.1.length : Int) = n ∧ Smp r.1 ∧ SrcOk L r.2) := by
  refine Gives.step ?_
  simp only [T_keep_Src_List]
  refine Gives.bind (src_n h 6 (by omega) (by omega)) fun a ha => Gives.bind (src_pick ha.2.2 [1, 3, 10, 100, 1000] (by decide) (by decide)) fun b hb => Gives.bind (src_n hb.2 3 (by omega) (by omega)) fun c hc => ?_
  have hb1 : 1 ≤ b.1 ∧ b.1 ≤ 1000 := by have := hb.1; simp at this; omega
  have em : w64 (0 - b.1) = -b.1 := by rw [w64_id (by omega) (by omega)]; omega
  refine Gives.bind (Q := fun d => -1000 ≤ d.1 ∧ d.1 ≤ 1000 ∧ SrcOk L d.2) ?_ fun d hd => ?_
  · refine Gives.ite (fun _ => ?_) fun _ => Gives.now ⟨by simp only []; omega, by simp only []; omega, hc.2.2⟩
    exact Gives.bind (src_range hc.2.2 (-1000) 1000 (by omega) (by omega) (by omega)) fun e he => Gives.now he
  refine Gives.bind (Q := fun r => (r.1 : Int) = n ∧ r.2.2.length = r.1 ∧ Smp r.2.2 ∧ SrcOk L r.2.1) ?_ fun r hr => ?_
  · refine Gives.loop (fun s => -1000 ≤ s.1 ∧ s.1 ≤ 1000 ∧ (s.2.1 : Int) = s.2.2.1 ∧ s.2.2.1 ≤ n ∧ SrcOk L s.2.2.2.1 ∧ s.2.2.2.2.length = s.2.1 ∧ Smp s.2.2.2.2) (fun s => (n - s.2.2.1).toNat) ?_ ⟨hd.1, hd.2.1, rfl, by simp only []; omega, hd.2.2, rfl, Smp.nil⟩
    intro s ⟨i1, i2, i3, i4, i5, i6, i7⟩
    have ed : (s.2.2.2.2.drop 0).take s.2.1 = s.2.2.2.2 := drop_take_len i6
    unfold T_keep_Src_List_l1
    refine Gives.ite (fun c => ?_) fun c => Gives.now ⟨by simp only []; omega, i6, i7, i5⟩
    rw [em, ed]
    have hlim : s.2.1 + 1 ≤ LIM := by unfold LIM; omega
    refine Gives.bind (Q := fun _ => True) (Gives.ite (fun _ => Gives.now trivial) fun _ => Gives.now trivial) fun t _ => ?_
    refine Gives.bind (Q := fun r => -1000 ≤ r.1 ∧ r.1 ≤ 1000 ∧ SrcOk L r.2.1 ∧ r.2.2.length = s.2.1 + 1 ∧ Smp r.2.2) ?_ fun r hr => ?_
    · refine Gives.ite (fun _ => ?_) fun _ => ?_
      · refine Gives.bind (src_range i5 (-b.1) b.1 (by omega) (by omega) (by omega)) fun v hv => Gives.pos hlim (Gives.now ⟨i1, i2, hv.2.2, by simp [i6], i7.app (Smp.one (by omega) (by omega))⟩)
      · refine Gives.bind (Q := fun _ => True) (Gives.ite (fun _ => Gives.now trivial) fun _ => Gives.now trivial) fun t2 _ => Gives.ite (fun _ => ?_) fun _ => Gives.ite (fun _ => ?_) fun _ => ?_
        · refine Gives.bind (src_range i5 (-b.1) b.1 (by omega) (by omega) (by omega)) fun v hv => Gives.bind (src_clip _) fun _ _ => Gives.pos hlim (Gives.now ?_)
          have := clip_smp (w64 (s.1 + v.1))
          exact ⟨this.1, this.2, hv.2.2, by simp [i6], i7.app (Smp.one this.1 this.2)⟩
        · refine Gives.bind (src_n i5 4 (by omega) (by omega)) fun v hv => Gives.bind (Q := fun r => -1000 ≤ r.1 ∧ r.1 ≤ 1000 ∧ SrcOk L r.2) (Gives.ite (fun _ => ?_) fun _ => Gives.now ⟨i1, i2, hv.2.2⟩) fun u hu => Gives.pos hlim (Gives.now ⟨hu.1, hu.2.1, hu.2.2, by simp [i6], i7.app (Smp.one hu.1 hu.2.1)⟩)
          exact Gives.bind (src_range hv.2.2 (-b.1) b.1 (by omega) (by omega) (by omega)) fun e he => Gives.now ⟨by simp only []; omega, by simp only []; omega, he.2.2⟩
        · refine Gives.bind (src_pick i5 [-1000, 1000, 1000, 0] (by decide) (by decide)) fun v hv => Gives.pos hlim (Gives.now ?_)
          have : -1000 ≤ v.1 ∧ v.1 ≤ 1000 := by have := hv.1; simp at this; omega
          exact ⟨i1, i2, hv.2, by simp [i6], i7.app (Smp.one this.1 this.2)⟩
    · have ei : w64 (s.2.2.1 + 1) = s.2.2.1 + 1 := w64_id (by omega) (by omega)
      rw [ei]
      exact Gives.now ⟨⟨hr.1, hr.2.1, by simp only []; omega, by simp only []; omega, hr.2.2.1, hr.2.2.2.1, hr.2.2.2.2⟩, by simp only []; omega⟩
  · rw [drop_take_len hr.2.1]
    exact Gives.now ⟨by simp only []; omega, hr.2.2.1, hr.2.2.2⟩

theorem get_rd0 {xs : List Int} {i : Int} (h0 : 0 ≤ i) (h1 : i < (xs.length : Int)) : xs[0 + i.toNat]? = some (rd xs i) := by
  rw [Nat.zero_add, get_rd (by omega), Int.toNat_of_nonneg h0]
theorem src_near {L : List Int} {p : Int} (h : SrcOk L p) {xs : List Int} (hx : Win xs) : Gives (fun k => T_keep_Src_Near k xs L p) (fun r => r.1.length = xs.length ∧ Smp r.1 ∧ SrcOk L r.2) := by
  have l1 := hx.lo
  have l2 := hx.hi
  refine Gives.step ?_
  simp only [T_keep_Src_Near]
  refine Gives.bind (src_n h 7 (by omega) (by omega)) fun a ha => Gives.bind (src_range ha.2.2 (-20) 20 (by omega) (by omega) (by omega)) fun b hb => Gives.bind (src_range hb.2.2 1 3 (by omega) (by omega) (by omega)) fun c hc => Gives.pos (by unfold LIM; omega) ?_
  refine Gives.bind (Q := fun r => r.2.length = xs.length ∧ Smp r.2 ∧ SrcOk L r.1) ?_ fun r hr => ?_
  · refine Gives.loop (fun s => 0 ≤ s.1 ∧ s.1 ≤ (xs.length : Int) ∧ SrcOk L s.2.1 ∧ s.2.2.length = xs.length ∧ Smp s.2.2) (fun s => ((xs.length : Int) - s.1).toNat) ?_ ⟨by simp only []; omega, by simp only []; omega, hc.2.2, by simp, by simpa using hx.smp⟩
    intro s ⟨i1, i2, i3, i4, i5⟩
    unfold T_keep_Src_Near_l1
    refine Gives.ite (fun cc => ?_) fun cc => Gives.now ⟨i4, i5, i3⟩
    have g : (0 : Int) ≤ s.1 ∧ s.1 < ((0 + xs.length : Nat) : Int) := ⟨i1, cc⟩
    have g2 : s.1 < (xs.length : Int) := by omega
    refine Gives.bind (Q := fun r => SrcOk L r.1 ∧ r.2.length = xs.length ∧ Smp r.2) ?_ fun r hr => ?_
    · refine Gives.ite (fun _ => Gives.pos g (Gives.opt (get_rd0 i1 (by omega)) ?_)) fun _ => Gives.ite (fun _ => Gives.pos g (Gives.opt (get_rd0 i1 (by omega)) ?_)) fun _ => Gives.ite (fun _ => Gives.pos g (Gives.opt (get_rd0 i1 (by omega)) ?_)) fun _ =>
        Gives.ite (fun _ => ?_) fun _ => Gives.ite (fun _ => ?_) fun _ => Gives.ite (fun _ => Gives.pos g (Gives.opt (get_rd0 i1 (by omega)) ?_)) fun _ => Gives.now ⟨i3, i4, i5⟩
      · refine Gives.bind (src_range i3 (-2) 2 (by omega) (by omega) (by omega)) fun v hv => Gives.bind (src_clip _) fun _ _ => Gives.now ?_
        have := clip_smp (w64 (rd s.2.2 s.1 + v.1))
        exact ⟨hv.2.2, by simp [i4], i5.set _ this.1 this.2⟩
      · refine Gives.bind (src_clip _) fun _ _ => Gives.now ?_
        have := clip_smp (w64 (rd s.2.2 s.1 + b.1))
        exact ⟨i3, by simp [i4], i5.set _ this.1 this.2⟩
      · refine Gives.bind (src_clip _) fun _ _ => Gives.now ?_
        have := clip_smp (w64 (w64 (rd s.2.2 s.1 * c.1) + b.1))
        exact ⟨i3, by simp [i4], i5.set _ this.1 this.2⟩
      · have e : w64 (w64 ((xs.length : Int) - 1) - s.1) = (xs.length : Int) - 1 - s.1 := by rw [w64_id (x := (xs.length : Int) - 1) (by omega) (by omega), w64_id (by omega) (by omega)]
        rw [e]
        refine Gives.opt (at_rd (by omega) (by omega)) (Gives.pos g (Gives.now ?_))
        have := hx.smp.rd ((xs.length : Int) - 1 - s.1)
        exact ⟨i3, by simp [i4], i5.set _ this.1 this.2⟩
      · refine Gives.bind (src_range i3 (-1) 1 (by omega) (by omega) (by omega)) fun v hv => Gives.bind (src_mod _ (xs.length : Int) (by omega) (by omega)) fun u hu => Gives.opt (at_rd hu.1 hu.2) (Gives.pos g (Gives.now ?_))
        have := hx.smp.rd u
        exact ⟨hv.2.2, by simp [i4], i5.set _ this.1 this.2⟩
      · refine Gives.bind (src_clip _) fun _ _ => Gives.now ?_
        have := clip_smp (w64 (b.1 - w64 (rd s.2.2 s.1 * c.1)))
        exact ⟨i3, by simp [i4], i5.set _ this.1 this.2⟩
    · have ei : w64 (s.1 + 1) = s.1 + 1 := w64_id (by omega) (by omega)
      rw [ei]
      exact Gives.now ⟨⟨by simp only []; omega, by simp only []; omega, hr.1, hr.2.1, hr.2.2⟩, by simp only []; omega⟩
  · rw [drop_take_len (by rw [hr.1, Nat.zero_add])]
    exact Gives.now ⟨hr.1, hr.2.1, hr.2.2⟩
theorem src_new (l : List Int) : SrcOk ((l.drop 0).take ((imin (l.length : Int) 2000).toNat - 0)) 0 ∧ Gives (fun k => T_keep_New k l) (fun _ => True) := by
  have h1 : 0 ≤ imin (l.length : Int) 2000 := by unfold imin; split <;> omega
  have h2 : imin (l.length : Int) 2000 ≤ l.length := by unfold imin; split <;> omega
  have h3 : imin (l.length : Int) 2000 ≤ 2000 := by unfold imin; split <;> omega
  refine ⟨⟨by omega, by omega, ?_⟩, ?_⟩
  · simp; omega
  · refine Gives.step ?_
    simp only [T_keep_New]
    exact Gives.pos (by omega) (Gives.now trivial)
/-! The distance of chapter 12. -/
theorem eu_samples {xs : List Int} (h : Win xs) : Gives (fun k => T_euclid_samples k xs) (· = true) := by
  have h2 := h.hi
  refine Gives.step ?_
  simp only [T_euclid_samples]
  refine Gives.bind (Q := fun r => r = .inl ()) ?_ fun r hr => by subst hr; exact Gives.now rfl
  refine Gives.loop (fun s => 0 ≤ s ∧ s ≤ (xs.length : Int)) (fun s => ((xs.length : Int) - s).toNat) ?_ ⟨by omega, by omega⟩
  intro s ⟨i1, i2⟩
  unfold T_euclid_samples_l1
  refine Gives.ite (fun c => Gives.opt (at_rd i1 c) ?_) fun c => Gives.now rfl
  have := h.smp.rd s
  refine Gives.neg (by simp; omega) ?_
  rw [w64_id (by omega) (by omega)]
  exact Gives.now ⟨⟨by omega, by omega⟩, by omega⟩
theorem eu_len (xs : List Int) : Gives (fun k => T_euclid_length k xs) (fun _ => True) := by
  refine Gives.step ?_
  simp only [T_euclid_length]
  exact Gives.now trivial
theorem eu_check {xs ys : List Int} (hx : Win xs) (hy : Win ys) (hl : xs.length = ys.length) : Gives (fun k => T_euclid_check k xs ys) (· = 0) := by
  have x1 := hx.lo
  have x2 := hx.hi
  refine Gives.step ?_
  simp only [T_euclid_check]
  refine Gives.bind (Q := fun b => b = false) ?_ fun b hb => ?_
  · refine Gives.bind (eu_len xs) fun _ _ => Gives.neg (by simp; omega) ?_
    refine Gives.bind (eu_len ys) fun _ _ => Gives.now ?_
    simp; omega
  subst hb
  refine Gives.neg (by simp) ?_
  refine Gives.bind (Q := fun b => b = false) ?_ fun b hb => ?_
  · refine Gives.bind (eu_samples hx) fun u hu => ?_
    subst hu
    refine Gives.neg (by simp) (Gives.bind (eu_samples hy) fun u hu => ?_)
    subst hu
    exact Gives.now rfl
  subst hb
  refine Gives.neg (by simp) (Gives.neg (by simp [hl]) (Gives.now rfl))
theorem eu_square {xs ys : List Int} (hx : Win xs) (hl : xs.length = ys.length) : Gives (fun k => T_euclid_square k xs ys) (fun _ => True) := by
  have x2 := hx.hi
  refine Gives.step ?_
  simp only [T_euclid_square]
  refine Gives.bind (Q := fun _ => True) ?_ fun r hr => Gives.now trivial
  refine Gives.loop (fun s => 0 ≤ s.2 ∧ s.2 ≤ (xs.length : Int)) (fun s => ((xs.length : Int) - s.2).toNat) ?_ ⟨by simp only []; omega, by simp only []; omega⟩
  intro s ⟨i1, i2⟩
  unfold T_euclid_square_l1
  refine Gives.ite (fun c => Gives.opt (at_rd i1 c) (Gives.opt (at_rd i1 (by omega)) ?_)) fun c => Gives.now trivial
  rw [w64_id (x := s.2 + 1) (by omega) (by omega)]
  exact Gives.now ⟨⟨by simp only []; omega, by simp only []; omega⟩, by simp only []; omega⟩
theorem eu_distance {xs ys : List Int} (hx : Win xs) (hy : Win ys) (hl : xs.length = ys.length) : Gives (fun k => T_euclid_Distance k xs ys) (fun r => r.2 = 0) := by
  refine Gives.step ?_
  simp only [T_euclid_Distance]
  refine Gives.bind (eu_check hx hy hl) fun e he => ?_
  subst he
  exact Gives.neg (by simp) (Gives.bind (eu_square hx hl) fun v _ => Gives.now rfl)

/-! Sums of the first samples. -/
def psum (x : List Int) (i : Int) : Int := (x.take i.toNat).sum
theorem psum_zero (x : List Int) : psum x 0 = 0 := by simp [psum]
theorem psum_succ {x : List Int} {i : Int} (h0 : 0 ≤ i) (h1 : i < (x.length : Int)) : psum x (i + 1) = psum x i + rd x i := by
  unfold psum rd
  rw [show (i + 1).toNat = i.toNat + 1 by omega, List.take_succ_eq_append_getElem (show i.toNat < x.length by omega), List.sum_append]
  rw [List.getD_eq_getElem?_getD, List.getElem?_eq_getElem (show i.toNat < x.length by omega)]
  simp
theorem psum_bound {x : List Int} {B : Int} (hB : ∀ v ∈ x, -B ≤ v ∧ v ≤ B) : ∀ n : Nat, n ≤ x.length → -(B * n) ≤ psum x n ∧ psum x n ≤ B * n
  | 0, _ => by simp [psum]
  | n + 1, h => by
    have ih := psum_bound hB n (by omega)
    have e := psum_succ (x := x) (i := (n : Int)) (by omega) (by omega)
    have hb := hB _ (rd_mem (xs := x) (i := (n : Int)) (by omega) (by omega))
    have : (((n + 1 : Nat)) : Int) = (n : Int) + 1 := by omega
    rw [this, e, Int.mul_add, Int.mul_one]
    omega
theorem psum_all {x : List Int} : psum x x.length = x.sum := by simp [psum]
theorem part_sum {x : List Int} {a b : Int} (h0 : 0 ≤ a) (h1 : a ≤ b) : ((x.drop a.toNat).take (b.toNat - a.toNat)).sum = psum x b - psum x a := by
  have e : x.take b.toNat = x.take a.toNat ++ (x.drop a.toNat).take (b.toNat - a.toNat) := by
    conv => lhs; rw [show b.toNat = a.toNat + (b.toNat - a.toNat) by omega]
    rw [List.take_add]
  unfold psum
  rw [e, List.sum_append]
  omega
theorem psum_shift {x z : List Int} {c : Int} (hl : z.length = x.length) (h : ∀ q, 0 ≤ q → q < (x.length : Int) → rd z q = rd x q + c) : ∀ n : Nat, n ≤ x.length → psum z n = psum x n + n * c
  | 0, _ => by simp [psum]
  | n + 1, hn => by
    have ih := psum_shift hl h n (by omega)
    have e1 := psum_succ (x := x) (i := (n : Int)) (by omega) (by omega)
    have e2 := psum_succ (x := z) (i := (n : Int)) (by omega) (by omega)
    have e3 := h n (by omega) (by omega)
    have : (((n + 1 : Nat)) : Int) = (n : Int) + 1 := by omega
    rw [this, e1, e2, e3, ih, Int.add_mul, Int.one_mul]
    omega
/-! Where the pieces of a window begin. -/
def cut (m n p : Int) : Int := p * m / n
theorem cut_zero (m n : Int) : cut m n 0 = 0 := by simp [cut]
theorem cut_last {m n : Int} (hn : 1 ≤ n) : cut m n n = m := by unfold cut; exact Int.mul_ediv_cancel_left _ (by omega)
theorem cut_mono {m n p q : Int} (hn : 1 ≤ n) (hm : 0 ≤ m) (h : p ≤ q) : cut m n p ≤ cut m n q := by
  unfold cut
  exact Int.ediv_le_ediv (by omega) (Int.mul_le_mul_of_nonneg_right h hm)
theorem cut_range {m n p : Int} (hn : 1 ≤ n) (hm : 0 ≤ m) (h0 : 0 ≤ p) (h1 : p ≤ n) : 0 ≤ cut m n p ∧ cut m n p ≤ m := by
  have a := cut_mono (m := m) hn hm h0
  have b := cut_mono (m := m) hn hm h1
  rw [cut_zero] at a
  rw [cut_last hn] at b
  exact ⟨a, b⟩
theorem cut_w {m n p : Int} (hn : 1 ≤ n) (hn2 : n ≤ 8) (hm : 0 ≤ m) (hm2 : m ≤ 32) (h0 : 0 ≤ p) (h1 : p ≤ n) : w64 ((w64 (p * m)).tdiv n) = cut m n p := by
  have h2 : 0 ≤ p * m := Int.mul_nonneg h0 hm
  have h3 : p * m ≤ 8 * 32 := Int.le_trans (Int.mul_le_mul_of_nonneg_right (show p ≤ 8 by omega) hm) (Int.mul_le_mul_of_nonneg_left hm2 (by omega))
  have h4 := cut_range hn hm h0 h1
  rw [w64_id (x := p * m) (by omega) (by omega), Int.tdiv_eq_ediv_of_nonneg h2, w64_id]
  · rfl
  · have : cut m n p = p * m / n := rfl
    omega
  · have : cut m n p = p * m / n := rfl
    omega
theorem Gives.rangeT {S R : Type} {f : Nat → Int → Int → Int → S → Option (S ⊕ R)} {m n : Int} (hn : 1 ≤ n) (hn2 : n ≤ 8) (hm : 0 ≤ m) (hm2 : m ≤ 32) (Inv : Int → S → Prop)
    (h : ∀ p s, 0 ≤ p → p < n → Inv p s → Gives (fun k => f k p (cut m n p) (cut m n (p + 1)) s) (fun x => ∃ s', x = .inl s' ∧ Inv (p + 1) s')) {s : S} (hs : Inv 0 s) :
    Gives (fun k => allT (f k) m n k 0 s) (fun x => ∃ s', x = .inl s' ∧ Inv n s') := by
  suffices H : ∀ (d : Nat) (p : Int) (s : S), 0 ≤ p → p ≤ n → (n - p).toNat < d → Inv p s → ∃ r, (∃ K N, ∀ k, K ≤ k → ∀ j, N ≤ j → allT (f k) m n j p s = some r) ∧ ∃ s', r = .inl s' ∧ Inv n s' by
    obtain ⟨r, ⟨K, N, hK⟩, hr⟩ := H (n.toNat + 1) 0 s (by omega) (by omega) (by omega) hs
    exact ⟨r, ⟨max K N, fun k hk => hK k (by omega) k (by omega)⟩, hr⟩
  intro d
  induction d with
  | zero => intro p s _ _ h; omega
  | succ d ih =>
    intro p s h0 h1 hd hI
    by_cases c : p < n
    · obtain ⟨x, ⟨K, hK⟩, s', rfl, hs'⟩ := h p s h0 c hI
      obtain ⟨r, ⟨K2, N, hK2⟩, hr⟩ := ih (p + 1) s' (by omega) (by omega) (by omega) hs'
      refine ⟨r, ⟨max K K2, N + 1, fun k hk j hj => ?_⟩, hr⟩
      obtain ⟨j', rfl⟩ : ∃ j', j = j' + 1 := ⟨j - 1, by omega⟩
      simp only [allT]
      rw [if_pos c, if_pos (by omega), w64_id (x := p + 1) (by omega) (by omega), cut_w hn hn2 hm hm2 h0 (by omega), cut_w hn hn2 hm hm2 (by omega) (by omega), show f k p (cut m n p) (cut m n (p + 1)) s = some (.inl s') from hK k (by omega)]
      exact hK2 k (by omega) j' (by omega)
    · have : p = n := by omega
      subst this
      refine ⟨.inl s, ⟨0, 1, fun k _ j hj => ?_⟩, s, rfl, hI⟩
      obtain ⟨j', rfl⟩ : ∃ j', j = j' + 1 := ⟨j - 1, by omega⟩
      simp only [allT]
      rw [if_neg c]
/-! What the functions of the chapter compute. -/
theorem pc_total {x : List Int} (hs : Smp x) (hl : x.length ≤ 32) : Gives (fun k => T_pieces_total k x) (fun r => r = x.sum) := by
  have hB : ∀ v ∈ x, -(1000 : Int) ≤ v ∧ v ≤ 1000 := hs
  refine Gives.step ?_
  simp only [T_pieces_total]
  refine Gives.bind (Q := fun r => r = x.sum) ?_ fun r hr => Gives.now hr
  refine Gives.loop (fun s => 0 ≤ s.2 ∧ s.2 ≤ (x.length : Int) ∧ s.1 = psum x s.2) (fun s => ((x.length : Int) - s.2).toNat) ?_ ⟨by simp only []; omega, by simp only []; omega, (psum_zero x).symm⟩
  intro ⟨t, i⟩ ⟨i1, i2, i3⟩
  simp only at i1 i2 i3
  unfold T_pieces_total_l1
  simp only []
  refine Gives.ite (fun c => Gives.opt (at_rd i1 c) ?_) fun c => Gives.now ?_
  · have e := psum_succ i1 c
    have b := psum_bound hB (i.toNat + 1) (by omega)
    have : ((i.toNat + 1 : Nat) : Int) = i + 1 := by omega
    rw [this] at b
    rw [w64_id (x := i + 1) (by omega) (by omega), w64_id (x := t + rd x i) (by omega) (by omega)]
    exact Gives.now ⟨⟨by simp only []; omega, by simp only []; omega, by simp only []; omega⟩, by simp only []; omega⟩
  · have : i = x.length := by omega
    subst this
    rw [i3]; exact psum_all
theorem pc_all (m n : Int) : Gives (fun k => T_pieces_all k m n) (fun _ => True) := by
  refine Gives.step ?_
  simp only [T_pieces_all]
  exact Gives.now trivial
theorem pc_number (m n : Int) : Gives (fun k => T_pieces_number k m n) (fun _ => True) := by
  refine Gives.step ?_
  simp only [T_pieces_number]
  exact Gives.now trivial
theorem pc_check {x : List Int} {n : Int} (hx : Win x) (hn : 1 ≤ n) (hn2 : n ≤ 8) (hn3 : n ≤ (x.length : Int)) : Gives (fun k => T_pieces_check k x n) (fun r => r = 0) := by
  refine Gives.step ?_
  simp only [T_pieces_check]
  refine Gives.bind (eu_distance hx hx rfl) fun e he => Gives.neg (by simp [he]) (Gives.bind (pc_number _ _) fun _ _ => Gives.neg (by simp; omega) (Gives.now rfl))
theorem rd_set_eq {xs : List Int} {i v : Int} (h0 : 0 ≤ i) (h1 : i < (xs.length : Int)) : rd (xs.set (0 + i.toNat) v) i = v := by
  unfold rd
  rw [Nat.zero_add, List.getD_eq_getElem?_getD, List.getElem?_set_self (by omega)]; rfl
theorem rd_set_ne {xs : List Int} {i j v : Int} (h0 : 0 ≤ i) (h1 : 0 ≤ j) (h : i ≠ j) : rd (xs.set (0 + i.toNat) v) j = rd xs j := by
  unfold rd
  rw [Nat.zero_add, List.getD_eq_getElem?_getD, List.getElem?_set_ne (by omega), List.getD_eq_getElem?_getD]
theorem pc_part {x : List Int} {n p : Int} (hx : Win x) (hn : 1 ≤ n) (h0 : 0 ≤ p) (h1 : p < n) : 0 ≤ cut x.length n p ∧ cut x.length n p ≤ cut x.length n (p + 1) ∧ cut x.length n (p + 1) ≤ (x.length : Int) ∧
    Gives (fun k => T_pieces_total k ((x.drop (cut x.length n p).toNat).take ((cut x.length n (p + 1)).toNat - (cut x.length n p).toNat))) (fun r => r = psum x (cut x.length n (p + 1)) - psum x (cut x.length n p)) := by
  have a := cut_range (m := x.length) hn (by omega) h0 (by omega)
  have b := cut_range (m := x.length) (p := p + 1) hn (by omega) (by omega) (by omega)
  have c := cut_mono (m := x.length) (p := p) (q := p + 1) hn (by omega) (by omega)
  refine ⟨a.1, c, b.2, ?_⟩
  have x2 := hx.hi
  refine (pc_total ((hx.smp.drop _).take _) (by simp; omega)).mono fun r hr => ?_
  rw [hr]; exact part_sum a.1 c
theorem prod_bound {a b A B : Int} (h1 : -A ≤ a) (h2 : a ≤ A) (h3 : -B ≤ b) (h4 : b ≤ B) : -(A * B) ≤ a * b ∧ a * b ≤ A * B := by
  have hA : 0 ≤ A := by omega
  have hB : 0 ≤ B := by omega
  have p1 : 0 ≤ (A - a) * (B - b) := Int.mul_nonneg (by omega) (by omega)
  have p2 : 0 ≤ (A + a) * (B + b) := Int.mul_nonneg (by omega) (by omega)
  have p3 : 0 ≤ (A - a) * (B + b) := Int.mul_nonneg (by omega) (by omega)
  have p4 : 0 ≤ (A + a) * (B - b) := Int.mul_nonneg (by omega) (by omega)
  rw [Int.sub_mul, Int.mul_sub, Int.mul_sub] at p1
  rw [Int.add_mul, Int.mul_add, Int.mul_add] at p2
  rw [Int.sub_mul, Int.mul_add, Int.mul_add] at p3
  rw [Int.add_mul, Int.mul_sub, Int.mul_sub] at p4
  omega
theorem pc_bounds {x : List Int} (hx : Win x) {i : Int} (h0 : 0 ≤ i) (h1 : i ≤ (x.length : Int)) : -32000 ≤ psum x i ∧ psum x i ≤ 32000 := by
  have x2 := hx.hi
  have := psum_bound (B := 1000) hx.smp i.toNat (by omega)
  rw [Int.toNat_of_nonneg h0] at this
  omega
theorem pc_centred {x : List Int} {n : Int} (hx : Win x) (hn : 1 ≤ n) (hn2 : n ≤ 8) (hn3 : n ≤ (x.length : Int)) :
    Gives (fun k => T_pieces_Centred k x n) (fun r => r.2 = 0 ∧ (r.1.length : Int) = n ∧ ∀ p, 0 ≤ p → p < n → rd r.1 p = (x.length : Int) * (psum x (cut x.length n (p + 1)) - psum x (cut x.length n p)) - (cut x.length n (p + 1) - cut x.length n p) * x.sum) := by
  have x2 := hx.hi
  refine Gives.step ?_
  simp only [T_pieces_Centred]
  refine Gives.bind (pc_check hx hn hn2 hn3) fun e he => ?_
  subst he
  refine Gives.neg (by simp) (Gives.bind (pc_total hx.smp hx.hi) fun t ht => Gives.pos (by unfold LIM; omega) (Gives.bind (pc_all _ _) fun _ _ => ?_))
  subst ht
  refine Gives.bind (Gives.rangeT (m := (x.length : Int)) (n := n) hn hn2 (by omega) (by omega) (fun p s => s.length = n.toNat ∧ ∀ q, 0 ≤ q → q < p → rd s q = (x.length : Int) * (psum x (cut x.length n (q + 1)) - psum x (cut x.length n q)) - (cut x.length n (q + 1) - cut x.length n q) * x.sum) ?_ ⟨by simp, fun q h1 h2 => by omega⟩) fun r hr => ?_
  · intro p s h0 h1 ⟨i1, i2⟩
    obtain ⟨c1, c2, c3, c4⟩ := pc_part hx hn h0 h1
    unfold T_pieces_Centred_r1
    refine Gives.pos (by omega) (Gives.bind c4 fun v hv => Gives.pos (by omega) ?_)
    have b1 := pc_bounds hx (i := cut x.length n (p + 1)) (by omega) c3
    have b2 := pc_bounds hx (i := cut x.length n p) c1 (by omega)
    have b3 := pc_bounds hx (i := x.length) (by omega) (by omega)
    rw [psum_all] at b3
    have e1 := prod_bound (a := (x.length : Int)) (b := v) (A := 32) (B := 64000) (by omega) (by omega) (by omega) (by omega)
    have e2 := prod_bound (a := cut x.length n (p + 1) - cut x.length n p) (b := x.sum) (A := 32) (B := 32000) (by omega) (by omega) (by omega) (by omega)
    rw [w64_id (x := (x.length : Int) * v) (by omega) (by omega), w64_id (x := cut x.length n (p + 1) - cut x.length n p) (by omega) (by omega), w64_id (x := (cut x.length n (p + 1) - cut x.length n p) * x.sum) (by omega) (by omega), w64_id (by omega) (by omega)]
    refine Gives.now ⟨_, rfl, by simp [i1], fun q h2 h3 => ?_⟩
    by_cases c : q = p
    · subst c; rw [rd_set_eq h2 (by omega), hv]
    · rw [rd_set_ne h0 h2 (by omega)]; exact i2 q h2 (by omega)
  · obtain ⟨s', rfl, k1, k2⟩ := hr
    simp only []
    rw [drop_take_len k1]
    exact Gives.now ⟨rfl, by simp only []; omega, k2⟩
theorem rd_app_l {xs ys : List Int} {i : Int} (h1 : i.toNat < xs.length) : rd (xs ++ ys) i = rd xs i := by
  unfold rd
  rw [List.getD_eq_getElem?_getD, List.getElem?_append_left h1, List.getD_eq_getElem?_getD]
theorem rd_app_1 {xs : List Int} {v i : Int} (h0 : 0 ≤ i) (h1 : (xs.length : Int) = i) : rd (xs ++ [v]) i = v := by
  unfold rd
  rw [List.getD_eq_getElem?_getD, List.getElem?_append_right (by omega)]
  simp [show i.toNat - xs.length = 0 by omega]
theorem pc_starts {m n : Int} (hm : 2 ≤ m) (hm2 : m ≤ 32) (hn : 1 ≤ n) (hn2 : n ≤ 8) (hn3 : n ≤ m) :
    Gives (fun k => T_pieces_Starts k m n) (fun r => r.2 = 0 ∧ (r.1.length : Int) = n + 1 ∧ ∀ p, 0 ≤ p → p ≤ n → rd r.1 p = cut m n p) := by
  refine Gives.step ?_
  simp only [T_pieces_Starts]
  refine Gives.neg (by simp; omega) (Gives.bind (pc_number _ _) fun _ _ => Gives.neg (by simp; omega) (Gives.bind (pc_all _ _) fun _ _ => ?_))
  refine Gives.bind (Gives.rangeT (m := m) (n := n) hn hn2 (by omega) (by omega) (fun p s => (s.1 : Int) = p + 1 ∧ s.2.length = s.1 ∧ ∀ q, 0 ≤ q → q ≤ p → rd s.2 q = cut m n q) ?_ ⟨by simp, by simp, fun q h1 h2 => by
      have : q = 0 := by omega
      subst this; rw [cut_zero]; rfl⟩) fun r hr => ?_
  · intro p s h0 h1 ⟨i1, i2, i3⟩
    unfold T_pieces_Starts_r1
    rw [drop_take_len i2]
    refine Gives.pos (by unfold LIM; omega) (Gives.now ⟨_, rfl, by simp only []; omega, by simp [i2], fun q h2 h3 => ?_⟩)
    simp only []
    by_cases c : q = p + 1
    · subst c; rw [rd_app_1 (by omega) (by omega)]
    · rw [rd_app_l (by omega)]; exact i3 q h2 (by omega)
  · obtain ⟨s', rfl, k1, k2, k3⟩ := hr
    simp only []
    rw [drop_take_len k2]
    exact Gives.now ⟨rfl, by simp only []; omega, k3⟩

/-- The squares of a list. -/
def sqs (x : List Int) : List Int := x.map fun v => v * v
theorem sqs_len (x : List Int) : (sqs x).length = x.length := by simp [sqs]
theorem rd_sqs {x : List Int} {i : Int} (h0 : 0 ≤ i) (h1 : i < (x.length : Int)) : rd (sqs x) i = rd x i * rd x i := by
  unfold rd sqs
  rw [List.getD_eq_getElem?_getD, List.getD_eq_getElem?_getD, List.getElem?_map, List.getElem?_eq_getElem (show i.toNat < x.length by omega)]
  rfl
theorem sqs_bound {x : List Int} (hx : Smp x) : ∀ v ∈ sqs x, -(1000000 : Int) ≤ v ∧ v ≤ 1000000 := by
  intro v hv
  obtain ⟨u, hu, rfl⟩ := List.mem_map.1 hv
  have h := hx u hu
  have := prod_bound (a := u) (b := u) (A := 1000) (B := 1000) h.1 h.2 h.1 h.2
  omega
/-- What the product of a window with itself is. -/
def selfP (x : List Int) : Int := (x.length : Int) * (sqs x).sum - x.sum * x.sum
theorem selfP_bound {x : List Int} (hx : Win x) : -4000000000 ≤ selfP x ∧ selfP x ≤ 4000000000 ∧ -32000000 ≤ (sqs x).sum ∧ (sqs x).sum ≤ 32000000 ∧ -32000 ≤ x.sum ∧ x.sum ≤ 32000 := by
  have x2 := hx.hi
  have b1 := psum_bound (sqs_bound hx.smp) x.length (by rw [sqs_len]; omega)
  have e1 : psum (sqs x) (x.length : Int) = (sqs x).sum := by rw [← sqs_len x]; exact psum_all
  rw [e1] at b1
  have b2 := pc_bounds hx (i := x.length) (by omega) (by omega)
  rw [psum_all] at b2
  have q1 := prod_bound (a := (x.length : Int)) (b := (sqs x).sum) (A := 32) (B := 32000000) (by omega) (by omega) (by omega) (by omega)
  have q2 := prod_bound (a := x.sum) (b := x.sum) (A := 32000) (B := 32000) (by omega) (by omega) (by omega) (by omega)
  unfold selfP
  omega
theorem nm_product {x : List Int} (hx : Win x) : Gives (fun k => T_normal_product k x x) (fun r => r = selfP x) := by
  have x2 := hx.hi
  obtain ⟨p1, p2, p3, p4, p5, p6⟩ := selfP_bound hx
  refine Gives.step ?_
  simp only [T_normal_product]
  refine Gives.bind (Q := fun r => r.1 = (sqs x).sum ∧ r.2.1 = x.sum ∧ r.2.2 = x.sum) ?_ fun r hr => ?_
  · refine Gives.loop (fun s => 0 ≤ s.2.2.2 ∧ s.2.2.2 ≤ (x.length : Int) ∧ s.1 = psum (sqs x) s.2.2.2 ∧ s.2.1 = psum x s.2.2.2 ∧ s.2.2.1 = psum x s.2.2.2) (fun s => ((x.length : Int) - s.2.2.2).toNat) ?_ ⟨by simp only []; omega, by simp only []; omega, (psum_zero _).symm, (psum_zero _).symm, (psum_zero _).symm⟩
    intro ⟨a, b, c, i⟩ ⟨i1, i2, i3, i4, i5⟩
    simp only at i1 i2 i3 i4 i5
    unfold T_normal_product_l1
    simp only []
    refine Gives.ite (fun cc => Gives.opt (at_rd i1 cc) (Gives.opt (at_rd i1 cc) ?_)) fun cc => Gives.now ?_
    · have e1 := psum_succ (x := sqs x) i1 (by rw [sqs_len]; exact cc)
      rw [rd_sqs i1 cc] at e1
      have e2 := psum_succ (x := x) i1 cc
      have b1 := psum_bound (sqs_bound hx.smp) i.toNat (by rw [sqs_len]; omega)
      rw [Int.toNat_of_nonneg i1] at b1
      have b2 := pc_bounds hx i1 (by omega)
      have hs := hx.smp.rd i
      have b3 := prod_bound (a := rd x i) (b := rd x i) (A := 1000) (B := 1000) hs.1 hs.2 hs.1 hs.2
      rw [w64_id (x := rd x i * rd x i) (by omega) (by omega), w64_id (x := a + rd x i * rd x i) (by omega) (by omega), w64_id (x := b + rd x i) (by omega) (by omega), w64_id (x := c + rd x i) (by omega) (by omega), w64_id (x := i + 1) (by omega) (by omega)]
      exact Gives.now ⟨⟨by simp only []; omega, by simp only []; omega, by simp only []; omega, by simp only []; omega, by simp only []; omega⟩, by simp only []; omega⟩
    · have : i = x.length := by omega
      subst this
      have e1 : psum (sqs x) (x.length : Int) = (sqs x).sum := by rw [← sqs_len x]; exact psum_all
      exact ⟨i3.trans e1, i4.trans psum_all, i5.trans psum_all⟩
  · obtain ⟨r1, r2, r3⟩ := hr
    rw [r1, r2, r3]
    have q1 := prod_bound (a := (x.length : Int)) (b := (sqs x).sum) (A := 32) (B := 32000000) (by omega) (by omega) (by omega) (by omega)
    have q2 := prod_bound (a := x.sum) (b := x.sum) (A := 32000) (B := 32000) (by omega) (by omega) (by omega) (by omega)
    rw [w64_id (x := (x.length : Int) * (sqs x).sum) (by omega) (by omega), w64_id (x := x.sum * x.sum) (by omega) (by omega), w64_id (by omega) (by omega)]
    exact Gives.now rfl
theorem nm_Product {x : List Int} (hx : Win x) : Gives (fun k => T_normal_Product k x x) (fun r => r.1 = selfP x ∧ r.2 = 0) := by
  refine Gives.step ?_
  simp only [T_normal_Product]
  exact Gives.bind (eu_distance hx hx rfl) fun e he => Gives.neg (by simp [he]) (Gives.bind (nm_product hx) fun v hv => Gives.now ⟨hv, rfl⟩)
theorem sqs_shift {x z : List Int} {c : Int} (hl : z.length = x.length) (h : ∀ q, 0 ≤ q → q < (x.length : Int) → rd z q = rd x q + c) : ∀ n : Nat, n ≤ x.length → psum (sqs z) n = psum (sqs x) n + 2 * (c * psum x n) + n * (c * c)
  | 0, _ => by simp [psum]
  | n + 1, hn => by
    have ih := sqs_shift hl h n (by omega)
    have e1 := psum_succ (x := sqs x) (i := (n : Int)) (by omega) (by rw [sqs_len]; omega)
    have e2 := psum_succ (x := sqs z) (i := (n : Int)) (by omega) (by rw [sqs_len]; omega)
    have e4 := psum_succ (x := x) (i := (n : Int)) (by omega) (by omega)
    have e3 := h n (by omega) (by omega)
    rw [rd_sqs (by omega) (by omega)] at e1 e2
    have : (((n + 1 : Nat)) : Int) = (n : Int) + 1 := by omega
    rw [this, e1, e2, e3, e4, ih, Int.add_mul (n : Int), Int.one_mul, Int.mul_add c, Int.add_mul, Int.mul_add, Int.mul_add, Int.mul_comm (rd x n) c]
    omega
theorem selfP_shift {x z : List Int} {c : Int} (hl : z.length = x.length) (h : ∀ q, 0 ≤ q → q < (x.length : Int) → rd z q = rd x q + c) : selfP z = selfP x := by
  have a := sqs_shift hl h x.length (Nat.le_refl _)
  have b := psum_shift hl h x.length (Nat.le_refl _)
  have e1 : psum (sqs x) (x.length : Int) = (sqs x).sum := by rw [← sqs_len x]; exact psum_all
  have e2 : psum (sqs z) (x.length : Int) = (sqs z).sum := by rw [← hl, ← sqs_len z]; exact psum_all
  have e3 : psum z (x.length : Int) = z.sum := by rw [← hl]; exact psum_all
  rw [e1, e2, psum_all] at a
  rw [e3, psum_all] at b
  unfold selfP
  rw [hl, a, b]
  generalize (x.length : Int) = L
  generalize x.sum = S
  generalize (sqs x).sum = Q
  have p1 : L * (Q + 2 * (c * S) + L * (c * c)) = L * Q + 2 * (L * (c * S)) + L * (L * (c * c)) := by
    rw [Int.mul_add, Int.mul_add, Int.mul_left_comm L 2]
  have p2 : (S + L * c) * (S + L * c) = S * S + 2 * (L * (c * S)) + L * (L * (c * c)) := by
    rw [Int.add_mul, Int.mul_add, Int.mul_add]
    have q1 : S * (L * c) = L * (c * S) := by rw [Int.mul_comm S, Int.mul_assoc]
    have q2 : L * c * S = L * (c * S) := Int.mul_assoc _ _ _
    have q3 : L * c * (L * c) = L * (L * (c * c)) := by rw [Int.mul_assoc, Int.mul_left_comm c L]
    rw [q1, q2, q3]; omega
  rw [p1, p2]; omega
theorem psum_scale {x z : List Int} {f : Int} (hl : z.length = x.length) (h : ∀ q, 0 ≤ q → q < (x.length : Int) → rd z q = rd x q * f) : ∀ n : Nat, n ≤ x.length → psum z n = psum x n * f
  | 0, _ => by simp [psum]
  | n + 1, hn => by
    have ih := psum_scale hl h n (by omega)
    have e1 := psum_succ (x := x) (i := (n : Int)) (by omega) (by omega)
    have e2 := psum_succ (x := z) (i := (n : Int)) (by omega) (by omega)
    have e3 := h n (by omega) (by omega)
    have : (((n + 1 : Nat)) : Int) = (n : Int) + 1 := by omega
    rw [this, e1, e2, e3, ih, Int.add_mul]
theorem selfP_scale {x z : List Int} {f : Int} (hl : z.length = x.length) (h : ∀ q, 0 ≤ q → q < (x.length : Int) → rd z q = rd x q * f) : selfP z = selfP x * f * f := by
  have a := psum_scale (x := sqs x) (z := sqs z) (f := f * f) (by rw [sqs_len, sqs_len, hl]) (fun q h1 h2 => by
    rw [sqs_len] at h2
    rw [rd_sqs h1 h2, rd_sqs h1 (by omega), h q h1 h2]
    rw [Int.mul_assoc, Int.mul_assoc, Int.mul_left_comm f]) x.length (by rw [sqs_len]; omega)
  have b := psum_scale hl h x.length (Nat.le_refl _)
  have e1 : psum (sqs x) (x.length : Int) = (sqs x).sum := by rw [← sqs_len x]; exact psum_all
  have e2 : psum (sqs z) (x.length : Int) = (sqs z).sum := by rw [← hl, ← sqs_len z]; exact psum_all
  have e3 : psum z (x.length : Int) = z.sum := by rw [← hl]; exact psum_all
  rw [e1, e2] at a
  rw [e3, psum_all] at b
  unfold selfP
  rw [hl, a, b]
  generalize (x.length : Int) = L
  generalize x.sum = S
  generalize (sqs x).sum = Q
  have e4 : S * f * (S * f) = S * S * (f * f) := by rw [Int.mul_assoc, Int.mul_left_comm f, ← Int.mul_assoc]
  rw [e4, Int.mul_assoc (L * Q - S * S) f f, Int.sub_mul, Int.mul_assoc L Q]

/-! Sums over the first places. -/
def sg (f : Int → Int) : Nat → Int
  | 0 => 0
  | n + 1 => sg f n + f n
theorem sg_congr {f g : Int → Int} : ∀ {n : Nat}, (∀ i : Int, 0 ≤ i → i < n → f i = g i) → sg f n = sg g n
  | 0, _ => rfl
  | n + 1, h => by
    rw [sg, sg, sg_congr (n := n) fun i h1 h2 => h i h1 (by omega), h n (by omega) (by omega)]
theorem sg_psum {x : List Int} : ∀ {n : Nat}, n ≤ x.length → sg (rd x) n = psum x n
  | 0, _ => by simp [sg, psum]
  | n + 1, h => by
    have e := psum_succ (x := x) (i := (n : Int)) (by omega) (by omega)
    have : (((n + 1 : Nat)) : Int) = (n : Int) + 1 := by omega
    rw [sg, sg_psum (n := n) (by omega), this, e]
theorem sg_bound {f : Int → Int} {B : Int} : ∀ {n : Nat}, (∀ i : Int, 0 ≤ i → i < n → -B ≤ f i ∧ f i ≤ B) → -(B * n) ≤ sg f n ∧ sg f n ≤ B * n
  | 0, _ => by simp [sg]
  | n + 1, h => by
    have ih := sg_bound (n := n) fun i h1 h2 => h i h1 (by omega)
    have hb := h n (by omega) (by omega)
    have : (((n + 1 : Nat)) : Int) = (n : Int) + 1 := by omega
    rw [sg, this, Int.mul_add, Int.mul_one]
    omega
theorem sg_nonneg {f : Int → Int} : ∀ {n : Nat}, (∀ i : Int, 0 ≤ i → i < n → 0 ≤ f i) → 0 ≤ sg f n
  | 0, _ => by simp [sg]
  | n + 1, h => by
    have ih := sg_nonneg (n := n) fun i h1 h2 => h i h1 (by omega)
    have hb := h n (by omega) (by omega)
    rw [sg]; omega
theorem sg_cent (a b : Int → Int) (L S T : Int) : ∀ n : Nat, sg (fun i => (L * a i - S) * (L * b i - T)) n = L * L * sg (fun i => a i * b i) n - L * T * sg a n - L * S * sg b n + n * (S * T)
  | 0 => by simp [sg]
  | n + 1 => by
    have ih := sg_cent a b L S T n
    have : (((n + 1 : Nat)) : Int) = (n : Int) + 1 := by omega
    rw [sg, sg, sg, sg, ih, this]
    grind
theorem sg_quad (u v : Int → Int) (A B : Int) : ∀ n : Nat, sg (fun i => (A * v i - B * u i) * (A * v i - B * u i)) n = A * A * sg (fun i => v i * v i) n - 2 * (A * B * sg (fun i => u i * v i) n) + B * B * sg (fun i => u i * u i) n
  | 0 => by simp [sg]
  | n + 1 => by
    have ih := sg_quad u v A B n
    rw [sg, sg, sg, sg, ih]
    grind
theorem sq_nonneg (a : Int) : 0 ≤ a * a := by
  rcases Int.le_total 0 a with h | h
  · exact Int.mul_nonneg h h
  · exact Int.mul_nonneg_of_nonpos_of_nonpos h h
/-- The inequality of Cauchy and Schwarz. -/
theorem sg_cs (u v : Int → Int) (n : Nat) : sg (fun i => u i * v i) n * sg (fun i => u i * v i) n ≤ sg (fun i => u i * u i) n * sg (fun i => v i * v i) n := by
  obtain ⟨A, hA⟩ : ∃ A, A = sg (fun i => u i * u i) n := ⟨_, rfl⟩
  obtain ⟨B, hB⟩ : ∃ B, B = sg (fun i => u i * v i) n := ⟨_, rfl⟩
  obtain ⟨C, hC⟩ : ∃ C, C = sg (fun i => v i * v i) n := ⟨_, rfl⟩
  rw [← hA, ← hB, ← hC]
  have hA0 : 0 ≤ A := by rw [hA]; exact sg_nonneg fun i _ _ => sq_nonneg _
  have hC0 : 0 ≤ C := by rw [hC]; exact sg_nonneg fun i _ _ => sq_nonneg _
  have q : ∀ s t : Int, 0 ≤ s * s * C - 2 * (s * t * B) + t * t * A := fun s t => by
    rw [hA, hB, hC, ← sg_quad u v s t n]
    exact sg_nonneg fun i _ _ => sq_nonneg _
  have q1 := q A B
  have q2 := q B C
  have q3 := q 1 1
  have q4 := q 1 (-1)
  have e1 : A * A * C - 2 * (A * B * B) + B * B * A = A * (A * C - B * B) := by grind
  have e2 : B * B * C - 2 * (B * C * B) + C * C * A = C * (A * C - B * B) := by grind
  rw [e1] at q1
  rw [e2] at q2
  by_cases h1 : 0 < A
  · have := Int.nonneg_of_mul_nonneg_right q1 h1
    omega
  · by_cases h2 : 0 < C
    · have := Int.nonneg_of_mul_nonneg_right q2 h2
      omega
    · have a0 : A = 0 := by omega
      have c0 : C = 0 := by omega
      subst a0 c0
      have : B = 0 := by omega
      subst this
      simp
/-! What two windows' product is. -/
def prodP (x y : List Int) : Int := (x.length : Int) * sg (fun i => rd x i * rd y i) x.length - x.sum * y.sum
theorem cent_sum {x y : List Int} (hl : x.length = y.length) : sg (fun i => ((x.length : Int) * rd x i - x.sum) * ((x.length : Int) * rd y i - y.sum)) x.length = (x.length : Int) * prodP x y := by
  have e1 : sg (rd x) x.length = x.sum := by rw [sg_psum (Nat.le_refl _)]; exact psum_all
  have e2 : sg (rd y) x.length = y.sum := by rw [hl, sg_psum (Nat.le_refl _)]; exact psum_all
  rw [sg_cent, e1, e2]
  unfold prodP
  grind
theorem prodP_nonneg {x : List Int} (h : 0 < x.length) : 0 ≤ prodP x x := by
  have e := cent_sum (x := x) (y := x) rfl
  have : 0 ≤ (x.length : Int) * prodP x x := by rw [← e]; exact sg_nonneg fun i _ _ => sq_nonneg _
  exact Int.nonneg_of_mul_nonneg_right this (by omega)
theorem prodP_cs {x y : List Int} (hl : x.length = y.length) (h : 0 < x.length) : prodP x y * prodP x y ≤ prodP x x * prodP y y := by
  have c := sg_cs (fun i => (x.length : Int) * rd x i - x.sum) (fun i => (x.length : Int) * rd y i - y.sum) x.length
  have e1 := cent_sum (x := x) (y := x) rfl
  have e2 := cent_sum hl
  have e3 := cent_sum (x := y) (y := y) rfl
  rw [← hl] at e3
  rw [e1, e2, e3] at c
  generalize prodP x y = p at c ⊢
  generalize prodP x x = q at c ⊢
  generalize prodP y y = r at c ⊢
  have hL : 0 < (x.length : Int) := by omega
  generalize (x.length : Int) = L at c hL
  have : 0 ≤ L * (L * (q * r - p * p)) := by
    have : L * (L * (q * r - p * p)) = L * q * (L * r) - L * p * (L * p) := by grind
    omega
  have := Int.nonneg_of_mul_nonneg_right (Int.nonneg_of_mul_nonneg_right this hL) hL
  omega
theorem selfP_prod {x : List Int} : selfP x = prodP x x := by
  have e : sg (fun i => rd x i * rd x i) x.length = (sqs x).sum := by
    rw [← psum_all (x := sqs x), sqs_len, ← sg_psum (by rw [sqs_len]; exact Nat.le_refl _)]
    exact sg_congr fun i h1 h2 => (rd_sqs h1 h2).symm
  unfold selfP prodP
  rw [e]
/-! The greatest common divisor. -/
theorem gcd_step (m n : Nat) (h : n ≠ 0) : Nat.gcd n (m % n) = Nat.gcd m n := by
  rw [Nat.gcd_comm m n, Nat.gcd_rec n m, Nat.gcd_comm]
theorem tmod_nat (m n : Nat) : (m : Int).tmod n = ((m % n : Nat) : Int) := by
  rw [Int.tmod_eq_emod_of_nonneg (by omega)]; rfl
theorem ra_divisor (m n : Nat) : Gives (fun k => T_ratio_divisor k m n) (fun r => r = (Nat.gcd m n : Nat)) := by
  refine Gives.step ?_
  simp only [T_ratio_divisor]
  refine Gives.bind (Q := fun r => r = ((Nat.gcd m n : Nat) : Int)) ?_ fun r hr => Gives.now hr
  refine Gives.loop (fun s => ∃ a b : Nat, s = ((a : Int), (b : Int)) ∧ Nat.gcd a b = Nat.gcd m n) (fun s => s.2.toNat) ?_ ⟨m, n, rfl, rfl⟩
  intro s ⟨a, b, hs, hg⟩
  subst hs
  unfold T_ratio_divisor_l1
  simp only []
  by_cases c : b = 0
  · subst c
    refine Gives.neg (by simp) (Gives.now ?_)
    rw [← hg]; simp
  · refine Gives.pos (by simp; omega) (Gives.pos (by omega) (Gives.now ⟨⟨b, a % b, by rw [tmod_nat], by rw [gcd_step a b c, hg]⟩, ?_⟩))
    simp only [tmod_nat]
    have := Nat.mod_lt a (show 0 < b by omega)
    omega
theorem ra_common (m n : Nat) : Gives (fun k => T_ref01_common k m n) (fun r => r = (Nat.gcd m n : Nat)) := by
  refine Gives.step ?_
  simp only [T_ref01_common]
  refine Gives.bind (Q := fun r => r = ((Nat.gcd m n : Nat) : Int)) ?_ fun r hr => Gives.now hr
  refine Gives.loop (fun s => ∃ a b : Nat, s = ((a : Int), (b : Int)) ∧ Nat.gcd a b = Nat.gcd m n) (fun s => s.2.toNat) ?_ ⟨m, n, rfl, rfl⟩
  intro s ⟨a, b, hs, hg⟩
  subst hs
  unfold T_ref01_common_l1
  simp only []
  by_cases c : b = 0
  · subst c
    refine Gives.neg (by simp) (Gives.now ?_)
    rw [← hg]; simp
  · refine Gives.pos (by omega) (Gives.pos (by omega) (Gives.now ⟨⟨b, a % b, by rw [tmod_nat], by rw [gcd_step a b c, hg]⟩, ?_⟩))
    simp only [tmod_nat]
    have := Nat.mod_lt a (show 0 < b by omega)
    omega
theorem tdiv_nat (m n : Nat) : (m : Int).tdiv n = ((m / n : Nat) : Int) := by
  rw [Int.tdiv_eq_ediv_of_nonneg (by omega)]; rfl
theorem ra_Make {m n : Nat} (hn : 0 < n) (h1 : m ≤ 2305843009213693952) (h2 : n ≤ 1152921504606846976) : Gives (fun k => T_ratio_Make k m n) (fun r => r = (((m / Nat.gcd m n : Nat) : Int), ((n / Nat.gcd m n : Nat) : Int), 0)) := by
  have g0 : 0 < Nat.gcd m n := Nat.gcd_pos_of_pos_right m hn
  have d1 : m / Nat.gcd m n ≤ m := Nat.div_le_self _ _
  have d2 : n / Nat.gcd m n ≤ n := Nat.div_le_self _ _
  have d3 : 0 < n / Nat.gcd m n := Nat.div_pos (Nat.gcd_le_right m hn) g0
  refine Gives.step ?_
  simp only [T_ratio_Make]
  refine Gives.neg (by simp; omega) (Gives.bind (ra_divisor m n) fun g hg => ?_)
  subst hg
  simp only [tdiv_nat]
  generalize m / Nat.gcd m n = qa at d1 ⊢
  generalize n / Nat.gcd m n = qb at d2 d3 ⊢
  rw [w64_id (x := (qa : Int)) (by omega) (by omega), w64_id (x := (qb : Int)) (by omega) (by omega)]
  refine Gives.pos (by omega) (Gives.bind (Q := fun _ => True) ?_ fun _ _ => Gives.neg (by simp; omega) (Gives.now rfl))
  refine Gives.step ?_
  simp only [T_ratio_within]
  exact Gives.now trivial
theorem ra_Make1 {m n : Nat} (hn : 0 < n) (h1 : m ≤ 2305843009213693952) (h2 : n ≤ 1152921504606846976) : Gives (fun k => T_ref01_Make k m n) (fun r => r = (((m / Nat.gcd m n : Nat) : Int), ((n / Nat.gcd m n : Nat) : Int), 0)) := by
  have g0 : 0 < Nat.gcd m n := Nat.gcd_pos_of_pos_right m hn
  have d1 : m / Nat.gcd m n ≤ m := Nat.div_le_self _ _
  have d2 : n / Nat.gcd m n ≤ n := Nat.div_le_self _ _
  have d3 : 0 < n / Nat.gcd m n := Nat.div_pos (Nat.gcd_le_right m hn) g0
  have d4 : Nat.gcd (m / Nat.gcd m n) (n / Nat.gcd m n) = 1 := by rw [Nat.gcd_div (Nat.gcd_dvd_left m n) (Nat.gcd_dvd_right m n), Nat.div_self g0]
  refine Gives.step ?_
  simp only [T_ref01_Make]
  refine Gives.neg (by simp; omega) (Gives.bind (ra_common m n) fun g hg => ?_)
  subst hg
  simp only [tdiv_nat]
  generalize m / Nat.gcd m n = qa at d1 d4 ⊢
  generalize n / Nat.gcd m n = qb at d2 d3 d4 ⊢
  rw [w64_id (x := (qa : Int)) (by omega) (by omega), w64_id (x := (qb : Int)) (by omega) (by omega)]
  refine Gives.pos (by omega) (Gives.bind (Q := fun b => b = true) ?_ fun b hb => ?_)
  · refine Gives.step ?_
    simp only [T_ref01_Valid]
    refine Gives.bind (Q := fun b => b = true) ?_ fun b hb => Gives.now hb
    refine Gives.pos (by simp; omega) (Gives.bind (ra_common _ _) fun g hg => Gives.now ?_)
    rw [hg, d4]; rfl
  · subst hb
    exact Gives.neg (by simp) (Gives.now rfl)

theorem sk_of {x : List Int} {n : Int} (hx : Win x) (hn : 1 ≤ n) (hn2 : n ≤ 8) (hn3 : n ≤ (x.length : Int)) :
    Gives (fun k => T_sketch_Of k x n) (fun r => r.1 = x.length ∧ ((r.2.1.length : Int) = n ∧ ∀ p, 0 ≤ p → p < n → rd r.2.1 p = (x.length : Int) * (psum x (cut x.length n (p + 1)) - psum x (cut x.length n p)) - (cut x.length n (p + 1) - cut x.length n p) * x.sum) ∧ r.2.2.1 = (x.length : Int) * selfP x ∧ r.2.2.2 = 0) := by
  have x2 := hx.hi
  refine Gives.step ?_
  simp only [T_sketch_Of]
  refine Gives.bind (pc_centred hx hn hn2 hn3) fun a ha => Gives.neg (by simp [ha.1]) (Gives.bind (nm_Product hx) fun b hb => Gives.neg (by simp [hb.2]) ?_)
  obtain ⟨p1, p2, _⟩ := selfP_bound hx
  have q := prod_bound (a := (x.length : Int)) (b := selfP x) (A := 32) (B := 4000000000) (by omega) (by omega) (by omega) (by omega)
  rw [hb.1, w64_id (x := (x.length : Int) * selfP x) (by omega) (by omega)]
  exact Gives.now ⟨rfl, ha.2, rfl, rfl⟩

-- With as many pieces as samples the sketch of a window knows everything: the bound of the product is the product itself, and that of the gap the gap: SketchFull returns true for every list.
theorem awake_k (k : Nat) : T_law21_awake (k + 50) = some true := by kernel_rfl
theorem awake_ok : Gives (fun k => T_law21_awake k) (· = true) := ⟨true, ⟨50, fun k hk => by
  obtain ⟨m, rfl⟩ : ∃ m, k = m + 50 := ⟨k - 50, by omega⟩
  exact awake_k m⟩, rfl⟩
theorem ceil_k (k : Nat) : T_root_Ceil (k + 50) 0 = some 0 := by kernel_rfl
theorem ceil_ok : Gives (fun k => T_root_Ceil k 0) (· = 0) := ⟨0, ⟨50, fun k hk => by
  obtain ⟨m, rfl⟩ : ∃ m, k = m + 50 := ⟨k - 50, by omega⟩
  exact ceil_k m⟩, rfl⟩
theorem cut_same {m p : Int} (hm : 1 ≤ m) : cut m m p = p := by unfold cut; exact Int.mul_ediv_cancel _ (by omega)
/-- The sketch of a short window with as many pieces as samples. -/
structure Sk (x s : List Int) (E : Int) : Prop where
  win : Win x
  short : x.length ≤ 8
  len : s.length = x.length
  val : ∀ p, 0 ≤ p → p < (x.length : Int) → rd s p = (x.length : Int) * rd x p - x.sum
  en : E = (x.length : Int) * prodP x x
theorem sum_short {x : List Int} (hx : Win x) (hs : x.length ≤ 8) : -8000 ≤ x.sum ∧ x.sum ≤ 8000 := by
  have := psum_bound (B := 1000) hx.smp x.length (Nat.le_refl _)
  rw [psum_all] at this
  omega
theorem Sk.bd {x s : List Int} {E : Int} (h : Sk x s E) {p : Int} (h0 : 0 ≤ p) (h1 : p < (x.length : Int)) : -16000 ≤ rd s p ∧ rd s p ≤ 16000 := by
  have a := h.win.smp.rd p
  have b := sum_short h.win h.short
  have c := h.short
  have q := prod_bound (a := (x.length : Int)) (b := rd x p) (A := 8) (B := 1000) (by omega) (by omega) (by omega) (by omega)
  rw [h.val p h0 h1]
  omega
theorem Sk.dot {x s y t : List Int} {E F : Int} (h : Sk x s E) (k : Sk y t F) (hl : x.length = y.length) : sg (fun i => rd s i * rd t i) x.length = (x.length : Int) * prodP x y := by
  rw [← cent_sum hl]
  exact sg_congr fun i h1 h2 => by rw [h.val i h1 h2, k.val i h1 (by omega), hl]
theorem Sk.nonneg {x s : List Int} {E : Int} (h : Sk x s E) : 0 ≤ prodP x x ∧ prodP x x ≤ 64000000 ∧ E ≤ (x.length : Int) * ((x.length : Int) * ((x.length : Int) * 1000000)) := by
  have c := h.short
  have lo := h.win.lo
  have p0 := prodP_nonneg (x := x) (by omega)
  have q : sg (fun i => rd x i * rd x i) x.length ≤ 1000000 * (x.length : Int) := (sg_bound (B := 1000000) fun i h1 h2 => by
    have a := h.win.smp.rd i
    have := prod_bound (a := rd x i) (b := rd x i) (A := 1000) (B := 1000) a.1 a.2 a.1 a.2
    omega).2
  have s0 := sq_nonneg x.sum
  have e : prodP x x ≤ (x.length : Int) * ((x.length : Int) * 1000000) := by
    have : prodP x x = (x.length : Int) * sg (fun i => rd x i * rd x i) x.length - x.sum * x.sum := rfl
    have m : (x.length : Int) * sg (fun i => rd x i * rd x i) x.length ≤ (x.length : Int) * (1000000 * (x.length : Int)) := Int.mul_le_mul_of_nonneg_left q (by omega)
    rw [this, Int.mul_comm (x.length : Int) 1000000]; omega
  have e2 : (x.length : Int) * prodP x x ≤ (x.length : Int) * ((x.length : Int) * ((x.length : Int) * 1000000)) := Int.mul_le_mul_of_nonneg_left e (by omega)
  refine ⟨p0, ?_, by rw [h.en]; exact e2⟩
  have q2 := prod_bound (a := (x.length : Int)) (b := (x.length : Int) * 1000000) (A := 8) (B := 8000000) (by omega) (by omega) (by omega) (by omega)
  omega
theorem Sk.prod {x s y t : List Int} {E F : Int} (h : Sk x s E) (k : Sk y t F) (hl : x.length = y.length) : -64000000 ≤ prodP x y ∧ prodP x y ≤ 64000000 := by
  have a := h.nonneg
  have b := k.nonneg
  have c := prodP_cs hl (by have := h.win.lo; omega)
  have d := prod_bound (a := prodP x x) (b := prodP y y) (A := 64000000) (B := 64000000) (by omega) (by omega) (by omega) (by omega)
  constructor
  · refine Decidable.byContradiction fun hn => ?_
    have : 64000001 * 64000001 ≤ prodP x y * prodP x y := by
      have := Int.mul_le_mul (a := 64000001) (b := 64000001) (c := -prodP x y) (d := -prodP x y) (by omega) (by omega) (by omega) (by omega)
      have e : -prodP x y * -prodP x y = prodP x y * prodP x y := by grind
      omega
    omega
  · refine Decidable.byContradiction fun hn => ?_
    have : 64000001 * 64000001 ≤ prodP x y * prodP x y := Int.mul_le_mul (by omega) (by omega) (by omega) (by omega)
    omega
theorem fl_of {x : List Int} (hx : Win x) (hs : x.length ≤ 8) : Gives (fun k => T_sketch_Of k x x.length) (fun r => r.1 = x.length ∧ Sk x r.2.1 r.2.2.1 ∧ r.2.2.2 = 0) := by
  have lo := hx.lo
  refine (sk_of hx (n := (x.length : Int)) (by omega) (by omega) (by omega)).mono fun r ⟨h1, ⟨h2, h3⟩, h4, h5⟩ => ⟨h1, ⟨hx, hs, by omega, fun p p0 p1 => ?_, ?_⟩, h5⟩
  · rw [h3 p p0 p1, cut_same (by omega), cut_same (by omega), psum_succ p0 p1]
    grind
  · rw [h4, selfP_prod]
theorem fl_lengths {x s : List Int} {E : Int} (h : Sk x s E) : Gives (fun k => T_sketch_lengths k x.length s E) (fun r => (r.length : Int) = x.length ∧ ∀ p, 0 ≤ p → p < (x.length : Int) → rd r p = 1) := by
  have lo := h.win.lo
  have hi := h.short
  have hl := h.len
  refine Gives.step ?_
  simp only [T_sketch_lengths]
  rw [hl]
  refine Gives.bind (pc_starts (m := (x.length : Int)) (n := (x.length : Int)) (by omega) (by omega) (by omega) (by omega) (by omega)) fun a ha => ?_
  obtain ⟨a1, a2, a3⟩ := ha
  refine Gives.neg (by simp [a1]) (Gives.bind (Q := fun r => (r.1 : Int) = x.length ∧ r.2.length = r.1 ∧ ∀ p, 0 ≤ p → p < (x.length : Int) → rd r.2 p = 1) ?_ fun r hr => ?_)
  · refine Gives.loop (fun t => 0 ≤ t.2.1 ∧ t.2.1 ≤ (x.length : Int) ∧ (t.1 : Int) = t.2.1 ∧ t.2.2.length = t.1 ∧ ∀ p, 0 ≤ p → p < t.2.1 → rd t.2.2 p = 1) (fun t => ((x.length : Int) - t.2.1).toNat) ?_ ⟨by simp only []; omega, by simp only []; omega, rfl, rfl, fun p h1 h2 => by simp only at h2; omega⟩
    intro ⟨l, i, o⟩ ⟨i1, i2, i3, i4, i5⟩
    simp only at i1 i2 i3 i4 i5
    unfold T_sketch_lengths_l1
    simp only []
    refine Gives.ite (fun c => ?_) fun c => Gives.now ⟨by simp only []; omega, i4, fun p h1 h2 => i5 p h1 (by omega)⟩
    rw [w64_id (x := i + 1) (by omega) (by omega), drop_take_len i4]
    refine Gives.opt (at_rd (by omega) (by omega)) (Gives.opt (at_rd i1 (by omega)) (Gives.pos (by unfold LIM; omega) ?_))
    rw [a3 (i + 1) (by omega) (by omega), a3 i i1 (by omega), cut_same (by omega), cut_same (by omega), w64_id (x := i + 1 - i) (by omega) (by omega)]
    refine Gives.now ⟨⟨by simp only []; omega, by simp only []; omega, by simp only []; omega, by simp [i4], fun p h1 h2 => ?_⟩, by simp only []; omega⟩
    simp only at h2 ⊢
    by_cases e : p = i
    · subst e; rw [rd_app_1 h1 (by omega)]; omega
    · rw [rd_app_l (by omega)]; exact i5 p h1 (by omega)
  · rw [drop_take_len hr.2.1]
    exact Gives.now ⟨by rw [hr.2.1]; exact hr.1, hr.2.2⟩
theorem fl_known {x s : List Int} {E : Int} (h : Sk x s E) : Gives (fun k => T_sketch_known k x.length s E) (fun r => r = E) := by
  have hi := h.short
  have hl := h.len
  have hE : sg (fun i => rd s i * rd s i) x.length = E := by rw [h.dot h rfl, h.en]
  refine Gives.step ?_
  simp only [T_sketch_known]
  refine Gives.bind (fl_lengths h) fun o ho => ?_
  refine Gives.bind (Q := fun r => r = E) ?_ fun r hr => Gives.now hr
  rw [ho.1]
  refine Gives.loop (fun t => 0 ≤ t.2 ∧ t.2 ≤ (x.length : Int) ∧ t.1 = sg (fun i => rd s i * rd s i) t.2.toNat) (fun t => ((x.length : Int) - t.2).toNat) ?_ ⟨by simp only []; omega, by simp only []; omega, rfl⟩
  intro ⟨a, i⟩ ⟨i1, i2, i3⟩
  simp only at i1 i2 i3
  unfold T_sketch_known_l1
  simp only []
  refine Gives.ite (fun c => Gives.opt (at_rd i1 (by omega)) (Gives.opt (at_rd i1 (by omega)) ?_)) fun c => Gives.now ?_
  · rw [ho.2 i i1 c]
    have b := h.bd i1 c
    have q := prod_bound (a := rd s i) (b := rd s i) (A := 16000) (B := 16000) b.1 b.2 b.1 b.2
    have g := sg_bound (f := fun i => rd s i * rd s i) (B := 256000000) (n := i.toNat) fun j h1 h2 => by
      have b := h.bd h1 (by omega)
      have := prod_bound (a := rd s j) (b := rd s j) (A := 16000) (B := 16000) b.1 b.2 b.1 b.2
      omega
    rw [← i3] at g
    rw [w64_id (x := rd s i * rd s i) (by omega) (by omega), Int.tdiv_one, w64_id (x := rd s i * rd s i) (by omega) (by omega), w64_id (x := a + rd s i * rd s i) (by omega) (by omega), w64_id (x := i + 1) (by omega) (by omega)]
    refine Gives.pos (by omega) (Gives.now ⟨⟨by simp only []; omega, by simp only []; omega, ?_⟩, by simp only []; omega⟩)
    simp only []
    rw [show (i + 1).toNat = i.toNat + 1 by omega, sg, ← i3, Int.toNat_of_nonneg i1]
  · have : i.toNat = x.length := by omega
    rw [i3, this, hE]
theorem fl_valid {x s : List Int} {E : Int} (h : Sk x s E) : Gives (fun k => T_sketch_valid k x.length s E) (· = true) := by
  have lo := h.win.lo
  have hi := h.short
  have hl := h.len
  obtain ⟨n1, n2, n3⟩ := h.nonneg
  have e0 : 0 ≤ E := by rw [h.en]; exact Int.mul_nonneg (by omega) n1
  refine Gives.step ?_
  simp only [T_sketch_valid]
  refine Gives.bind (Q := fun b => b = false) ?_ fun b hb => ?_
  · refine Gives.bind (fl_lengths h) fun o ho => Gives.neg ?_ (Gives.pos (by omega) (Gives.now ?_))
    · have q1 := prod_bound (a := (x.length : Int)) (b := (x.length : Int)) (A := 8) (B := 8) (by omega) (by omega) (by omega) (by omega)
      have q2 := prod_bound (a := (x.length : Int) * (x.length : Int)) (b := (x.length : Int)) (A := 64) (B := 8) (by omega) (by omega) (by omega) (by omega)
      rw [w64_id (x := (x.length : Int) * (x.length : Int)) (by omega) (by omega), w64_id (x := (x.length : Int) * (x.length : Int) * (x.length : Int)) (by omega) (by omega), w64_id (x := (x.length : Int) * (x.length : Int) * (x.length : Int) * 1000) (by omega) (by omega), w64_id (x := (x.length : Int) * (x.length : Int) * (x.length : Int) * 1000 * 1000) (by omega) (by omega)]
      have e : (x.length : Int) * ((x.length : Int) * ((x.length : Int) * 1000000)) = (x.length : Int) * (x.length : Int) * (x.length : Int) * 1000 * 1000 := by grind
      rw [e] at n3
      simp only [Bool.or_eq_true, decide_eq_true_eq]; omega
    · rw [h.en, Int.mul_tmod_right]; rfl
  subst hb
  refine Gives.neg (by simp) (Gives.bind (Q := fun r => r = .inl ()) ?_ fun r hr => ?_)
  · refine Gives.loop (fun i => 0 ≤ i ∧ i ≤ (x.length : Int)) (fun i => ((x.length : Int) - i).toNat) ?_ ⟨by omega, by omega⟩
    intro i ⟨i1, i2⟩
    unfold T_sketch_valid_l1
    rw [hl]
    refine Gives.ite (fun c => Gives.opt (at_rd i1 (by omega)) ?_) fun c => Gives.now rfl
    have b := h.bd i1 c
    rw [w64_id (x := i + 1) (by omega) (by omega)]
    exact Gives.neg (by simp; omega) (Gives.now ⟨⟨by omega, by omega⟩, by omega⟩)
  · subst hr
    exact Gives.bind (fl_known h) fun v hv => Gives.now (by simp; omega)
theorem fl_check {x s y t : List Int} {E F : Int} (h : Sk x s E) (k : Sk y t F) (hl : x.length = y.length) : Gives (fun n => T_sketch_check n x.length s E y.length t F) (· = 0) := by
  refine Gives.step ?_
  simp only [T_sketch_check]
  refine Gives.bind (Q := fun b => b = false) ?_ fun b hb => ?_
  · refine Gives.bind (fl_valid h) fun v hv => ?_
    subst hv
    refine Gives.neg (by simp) (Gives.bind (fl_valid k) fun v hv => ?_)
    subst hv
    exact Gives.now rfl
  subst hb
  exact Gives.neg (by simp) (Gives.neg (by simp [hl, h.len, k.len]) (Gives.now rfl))
theorem fl_floor1 {m : Int} (h1 : -9223372036854775808 ≤ m) (h2 : m < 9223372036854775808) : Gives (fun k => T_sketch_floor k m 1) (· = m) := by
  refine Gives.step ?_
  simp only [T_sketch_floor]
  refine Gives.pos (by omega) (Gives.pos (by omega) (Gives.bind (Q := fun r => r = m) (Gives.neg (by simp) ?_) fun r hr => Gives.now hr))
  rw [Int.tdiv_one, w64_id h1 h2]
  exact Gives.now rfl
theorem fl_floorL {m L : Int} (hL : 1 ≤ L) (h1 : -9223372036854775808 ≤ m) (h2 : m < 9223372036854775808) : Gives (fun k => T_sketch_floor k (L * m) L) (· = m) := by
  refine Gives.step ?_
  simp only [T_sketch_floor]
  refine Gives.pos (by omega) (Gives.pos (by omega) (Gives.bind (Q := fun r => r = m) (Gives.neg (by rw [Int.mul_tmod_right]; omega) ?_) fun r hr => Gives.now hr))
  rw [Int.mul_tdiv_cancel_left _ (by omega), w64_id h1 h2]
  exact Gives.now rfl
theorem fl_upper {x s y t : List Int} {E F : Int} (h : Sk x s E) (k : Sk y t F) (hl : x.length = y.length) : Gives (fun n => T_sketch_upper n x.length s E y.length t F) (· = prodP x y) := by
  have lo := h.win.lo
  have hi := h.short
  have l1 := h.len
  have l2 := k.len
  have pb := h.prod k hl
  refine Gives.step ?_
  simp only [T_sketch_upper]
  refine Gives.bind (fl_lengths h) fun o ho => ?_
  rw [ho.1]
  refine Gives.bind (Q := fun r => r = (x.length : Int) * prodP x y) ?_ fun a ha => ?_
  · refine Gives.loop (fun u => 0 ≤ u.2 ∧ u.2 ≤ (x.length : Int) ∧ u.1 = sg (fun i => rd s i * rd t i) u.2.toNat) (fun u => ((x.length : Int) - u.2).toNat) ?_ ⟨by simp only []; omega, by simp only []; omega, rfl⟩
    intro ⟨a, i⟩ ⟨i1, i2, i3⟩
    simp only at i1 i2 i3
    unfold T_sketch_upper_l1
    simp only []
    refine Gives.ite (fun c => Gives.opt (at_rd i1 (by omega)) (Gives.opt (at_rd i1 (by omega)) (Gives.opt (at_rd i1 (by omega)) ?_))) fun c => Gives.now ?_
    · rw [ho.2 i i1 c]
      have b := h.bd i1 c
      have b2 := k.bd (p := i) i1 (by omega)
      have q := prod_bound (a := rd s i) (b := rd t i) (A := 16000) (B := 16000) b.1 b.2 b2.1 b2.2
      have g := sg_bound (f := fun i => rd s i * rd t i) (B := 256000000) (n := i.toNat) fun j h1 h2 => by
        have b := h.bd h1 (by omega)
        have b2 := k.bd (p := j) h1 (by omega)
        have := prod_bound (a := rd s j) (b := rd t j) (A := 16000) (B := 16000) b.1 b.2 b2.1 b2.2
        omega
      rw [← i3] at g
      have en : (0 - rd s i) * rd t i = -(rd s i * rd t i) := by grind
      rw [w64_id (x := 0 - rd s i) (by omega) (by omega), en, w64_id (x := -(rd s i * rd t i)) (by omega) (by omega)]
      refine Gives.bind (fl_floor1 (by omega) (by omega)) fun v hv => ?_
      rw [hv, w64_id (x := a - -(rd s i * rd t i)) (by omega) (by omega), w64_id (x := i + 1) (by omega) (by omega)]
      refine Gives.now ⟨⟨by simp only []; omega, by simp only []; omega, ?_⟩, by simp only []; omega⟩
      simp only []
      rw [show (i + 1).toNat = i.toNat + 1 by omega, sg, ← i3, Int.toNat_of_nonneg i1]
      omega
    · have : i.toNat = x.length := by omega
      rw [i3, this, h.dot k hl]
  subst ha
  have q := prod_bound (a := (x.length : Int)) (b := prodP x y) (A := 8) (B := 64000000) (by omega) (by omega) (by omega) (by omega)
  refine Gives.bind (fl_known h) fun v hv => ?_
  subst hv
  have z : ∀ u : Int, w64 (u - u) = 0 := fun u => by rw [Int.sub_self]; rfl
  rw [z]
  refine Gives.bind ceil_ok fun w hw => Gives.bind (fl_known k) fun v2 hv2 => ?_
  subst hv2
  rw [z]
  refine Gives.bind ceil_ok fun w2 hw2 => ?_
  rw [hw, hw2]
  have e : w64 ((x.length : Int) * prodP x y + w64 (0 * 0)) = (x.length : Int) * prodP x y := by
    rw [show w64 (0 * 0) = 0 from rfl, Int.add_zero, w64_id (by omega) (by omega)]
  rw [e]
  exact Gives.bind (fl_floorL (by omega) (by omega) (by omega)) fun r hr => Gives.now hr
theorem fl_Upper {x s y t : List Int} {E F : Int} (h : Sk x s E) (k : Sk y t F) (hl : x.length = y.length) : Gives (fun n => T_sketch_Upper n x.length s E y.length t F) (fun r => r.1 = prodP x y ∧ r.2 = 0) := by
  refine Gives.step ?_
  simp only [T_sketch_Upper]
  refine Gives.bind (fl_check h k hl) fun v hv => ?_
  subst hv
  exact Gives.neg (by simp) (Gives.bind (fl_upper h k hl) fun r hr => Gives.now ⟨hr, rfl⟩)
/-- A quotient in lowest terms. -/
def red (m n : Nat) : Int × Int := (((m / Nat.gcd m n : Nat) : Int), ((n / Nat.gcd m n : Nat) : Int))
/-- The gap of two windows, by their products. -/
def gapP (p q r : Int) : Int × Int := if q = 0 ∧ r = 0 then (0, 1) else if q = 0 ∨ r = 0 then (1, 1) else if p < 0 then red (q * r + p * p).toNat (q * r).toNat else red (q * r - p * p).toNat (q * r).toNat
theorem mk_int {m n : Int} (hm : 0 ≤ m) (hn : 0 < n) (h1 : m ≤ 2305843009213693952) (h2 : n ≤ 1152921504606846976) : Gives (fun k => T_ratio_Make k m n) (fun r => r = ((red m.toNat n.toNat).1, (red m.toNat n.toNat).2, 0)) := by
  have := ra_Make (m := m.toNat) (n := n.toNat) (by omega) (by omega) (by omega)
  rw [Int.toNat_of_nonneg hm, Int.toNat_of_nonneg (show 0 ≤ n by omega)] at this
  exact this
theorem mk_int1 {m n : Int} (hm : 0 ≤ m) (hn : 0 < n) (h1 : m ≤ 2305843009213693952) (h2 : n ≤ 1152921504606846976) : Gives (fun k => T_ref01_Make k m n) (fun r => r = ((red m.toNat n.toNat).1, (red m.toNat n.toNat).2, 0)) := by
  have := ra_Make1 (m := m.toNat) (n := n.toNat) (by omega) (by omega) (by omega)
  rw [Int.toNat_of_nonneg hm, Int.toNat_of_nonneg (show 0 ≤ n by omega)] at this
  exact this
theorem fl_Gap {x s y t : List Int} {E F : Int} (h : Sk x s E) (k : Sk y t F) (hl : x.length = y.length) : Gives (fun n => T_sketch_Gap n x.length s E y.length t F) (fun r => (r.1, r.2.1) = gapP (prodP x y) (prodP x x) (prodP y y) ∧ r.2.2 = 0) := by
  have lo := h.win.lo
  have hi := h.short
  have pb := h.prod k hl
  have cs := prodP_cs hl (by omega)
  obtain ⟨n1, n2, _⟩ := h.nonneg
  obtain ⟨m1, m2, _⟩ := k.nonneg
  have eE : E.tdiv (x.length : Int) = prodP x x := by rw [h.en, Int.mul_tdiv_cancel_left _ (by omega)]
  have eF : F.tdiv (y.length : Int) = prodP y y := by rw [k.en, Int.mul_tdiv_cancel_left _ (by omega)]
  have zE : E = 0 ↔ prodP x x = 0 := by
    rw [h.en]
    constructor
    · intro hz
      rcases Int.mul_eq_zero.1 hz with c | c
      · omega
      · exact c
    · intro hz; rw [hz, Int.mul_zero]
  have zF : F = 0 ↔ prodP y y = 0 := by
    rw [k.en]
    constructor
    · intro hz
      rcases Int.mul_eq_zero.1 hz with c | c
      · omega
      · exact c
    · intro hz; rw [hz, Int.mul_zero]
  have q := prod_bound (a := prodP x x) (b := prodP y y) (A := 64000000) (B := 64000000) (by omega) (by omega) (by omega) (by omega)
  have q2 := prod_bound (a := prodP x y) (b := prodP x y) (A := 64000000) (B := 64000000) (by omega) (by omega) (by omega) (by omega)
  have q3 := sq_nonneg (prodP x y)
  refine Gives.step ?_
  simp only [T_sketch_Gap]
  refine Gives.bind (fl_check h k hl) fun v hv => ?_
  subst hv
  refine Gives.neg (by simp) (Gives.pos (by omega) (Gives.pos (by omega) (Gives.bind (fl_upper h k hl) fun c hc => ?_)))
  subst hc
  rw [eE, eF, w64_id (x := prodP x x) (by omega) (by omega), w64_id (x := prodP y y) (by omega) (by omega), w64_id (x := prodP x x * prodP y y) (by omega) (by omega), w64_id (x := prodP x y * prodP x y) (by omega) (by omega)]
  have im : imin (prodP x x * prodP y y) (prodP x y * prodP x y) = prodP x y * prodP x y := by unfold imin; split <;> omega
  rw [im, w64_id (x := prodP x x * prodP y y + prodP x y * prodP x y) (by omega) (by omega), w64_id (x := prodP x x * prodP y y - prodP x y * prodP x y) (by omega) (by omega)]
  unfold gapP
  by_cases c1 : prodP x x = 0 ∧ prodP y y = 0
  · rw [if_pos c1]
    refine Gives.pos (by simp [zE, zF, c1]) (Gives.bind (mk_int (m := 0) (n := 1) (by omega) (by omega) (by omega) (by omega)) fun r hr => Gives.now ?_)
    subst hr
    exact ⟨by decide, rfl⟩
  rw [if_neg c1]
  refine Gives.neg (by simp only [Bool.and_eq_true, decide_eq_true_eq]; rw [zE, zF]; exact c1) ?_
  by_cases c2 : prodP x x = 0 ∨ prodP y y = 0
  · rw [if_pos c2]
    refine Gives.pos (Int.mul_eq_zero.2 c2) (Gives.bind (mk_int (m := 1) (n := 1) (by omega) (by omega) (by omega) (by omega)) fun r hr => Gives.now ?_)
    subst hr
    exact ⟨by decide, rfl⟩
  rw [if_neg c2]
  have hp : 0 < prodP x x * prodP y y := Int.mul_pos (by omega) (by omega)
  refine Gives.neg (by omega) ?_
  by_cases c3 : prodP x y < 0
  · rw [if_pos c3]
    refine Gives.pos c3 (Gives.bind (mk_int (by omega) hp (by omega) (by omega)) fun r hr => Gives.now ?_)
    subst hr
    exact ⟨rfl, rfl⟩
  · rw [if_neg c3]
    refine Gives.neg c3 (Gives.bind (mk_int (by omega) hp (by omega) (by omega)) fun r hr => Gives.now ?_)
    subst hr
    exact ⟨rfl, rfl⟩
/-! The reference. -/
theorem rf_samples {x : List Int} (h : Win x) : Gives (fun k => T_ref12_Samples k x) (· = 0) := by
  have h2 := h.hi
  refine Gives.step ?_
  simp only [T_ref12_Samples]
  refine Gives.bind (Q := fun r => r = .inl ()) ?_ fun r hr => by subst hr; exact Gives.now rfl
  refine Gives.loop (fun s => 0 ≤ s ∧ s ≤ (x.length : Int)) (fun s => ((x.length : Int) - s).toNat) ?_ ⟨by omega, by omega⟩
  intro s ⟨i1, i2⟩
  unfold T_ref12_Samples_l1
  refine Gives.ite (fun c => Gives.opt (at_rd i1 c) (Gives.bind (Q := fun _ => True) ?_ fun _ _ => ?_)) fun c => Gives.now rfl
  · refine Gives.step ?_
    simp only [T_ref04_Sample]
    exact Gives.now trivial
  · have := h.smp.rd s
    refine Gives.neg (by simp; omega) ?_
    rw [w64_id (by omega) (by omega)]
    exact Gives.now ⟨⟨by omega, by omega⟩, by omega⟩
theorem rf_two {x y : List Int} (hx : Win x) (hy : Win y) (hl : x.length = y.length) : Gives (fun k => T_ref12_Two k x y 0) (· = 0) := by
  have a1 := hx.lo
  have a2 := hx.hi
  refine Gives.step ?_
  simp only [T_ref12_Two]
  refine Gives.neg (by simp; omega) (Gives.bind (Q := fun b => b = false) ?_ fun b hb => ?_)
  · refine Gives.bind (rf_samples hx) fun v hv => ?_
    subst hv
    refine Gives.neg (by simp) (Gives.bind (rf_samples hy) fun v hv => ?_)
    subst hv
    exact Gives.now rfl
  subst hb
  refine Gives.neg (by simp) (Gives.neg ?_ (Gives.now rfl))
  rw [hl, Int.sub_self, show w64 0 = 0 from rfl]
  simp
theorem rf_product {x y : List Int} (hx : Win x) (hy : Win y) (hl : x.length = y.length) (hs : x.length ≤ 8) (hb : -64000000 ≤ prodP x y ∧ prodP x y ≤ 64000000) : Gives (fun k => T_ref13_product k x y) (· = prodP x y) := by
  refine Gives.step ?_
  simp only [T_ref13_product]
  have sx := sum_short hx hs
  have sy := sum_short hy (by omega)
  refine Gives.bind (Q := fun r => r.1 = sg (fun i => rd x i * rd y i) x.length ∧ r.2.1 = x.sum ∧ r.2.2 = y.sum) ?_ fun r hr => ?_
  · refine Gives.loop (fun s => 0 ≤ s.2.2.2 ∧ s.2.2.2 ≤ (x.length : Int) ∧ s.1 = sg (fun i => rd x i * rd y i) s.2.2.2.toNat ∧ s.2.1 = psum x s.2.2.2 ∧ s.2.2.1 = psum y s.2.2.2) (fun s => ((x.length : Int) - s.2.2.2).toNat) ?_ ⟨by simp only []; omega, by simp only []; omega, rfl, (psum_zero _).symm, (psum_zero _).symm⟩
    intro ⟨a, b, c, i⟩ ⟨i1, i2, i3, i4, i5⟩
    simp only at i1 i2 i3 i4 i5
    unfold T_ref13_product_l1
    simp only []
    refine Gives.ite (fun cc => Gives.opt (at_rd i1 cc) (Gives.opt (at_rd i1 (by omega)) ?_)) fun cc => Gives.now ?_
    · have e2 := psum_succ (x := x) i1 cc
      have e3 := psum_succ (x := y) i1 (by omega)
      have b2 := pc_bounds hx i1 (by omega)
      have b3 := pc_bounds hy i1 (by omega)
      have s1 := hx.smp.rd i
      have s2 := hy.smp.rd i
      have b4 := prod_bound (a := rd x i) (b := rd y i) (A := 1000) (B := 1000) s1.1 s1.2 s2.1 s2.2
      have g := sg_bound (f := fun i => rd x i * rd y i) (B := 1000000) (n := i.toNat) fun j h1 h2 => by
        have s1 := hx.smp.rd j
        have s2 := hy.smp.rd j
        have := prod_bound (a := rd x j) (b := rd y j) (A := 1000) (B := 1000) s1.1 s1.2 s2.1 s2.2
        omega
      rw [← i3] at g
      rw [w64_id (x := rd x i * rd y i) (by omega) (by omega), w64_id (x := a + rd x i * rd y i) (by omega) (by omega), w64_id (x := b + rd x i) (by omega) (by omega), w64_id (x := c + rd y i) (by omega) (by omega), w64_id (x := i + 1) (by omega) (by omega)]
      refine Gives.now ⟨⟨by simp only []; omega, by simp only []; omega, ?_, by simp only []; omega, by simp only []; omega⟩, by simp only []; omega⟩
      simp only []
      rw [show (i + 1).toNat = i.toNat + 1 by omega, sg, ← i3, Int.toNat_of_nonneg i1]
    · have e : i = x.length := by omega
      subst e
      refine ⟨by rw [i3]; rfl, i4.trans psum_all, i5.trans ?_⟩
      rw [hl]; exact psum_all
  · obtain ⟨r1, r2, r3⟩ := hr
    have g := sg_bound (f := fun i => rd x i * rd y i) (B := 1000000) (n := x.length) fun j h1 h2 => by
      have s1 := hx.smp.rd j
      have s2 := hy.smp.rd j
      have := prod_bound (a := rd x j) (b := rd y j) (A := 1000) (B := 1000) s1.1 s1.2 s2.1 s2.2
      omega
    rw [r1, r2, r3]
    have q1 := prod_bound (a := (x.length : Int)) (b := sg (fun i => rd x i * rd y i) x.length) (A := 8) (B := 8000000) (by omega) (by omega) (by omega) (by omega)
    have q2 := prod_bound (a := x.sum) (b := y.sum) (A := 8000) (B := 8000) (by omega) (by omega) (by omega) (by omega)
    rw [w64_id (x := (x.length : Int) * sg (fun i => rd x i * rd y i) x.length) (by omega) (by omega), w64_id (x := x.sum * y.sum) (by omega) (by omega), w64_id (by omega) (by omega)]
    exact Gives.now rfl
theorem rf_Product {x s y t : List Int} {E F : Int} (h : Sk x s E) (k : Sk y t F) (hl : x.length = y.length) : Gives (fun n => T_ref13_Product n x y) (fun r => r.1 = prodP x y ∧ r.2 = 0) := by
  refine Gives.step ?_
  simp only [T_ref13_Product]
  refine Gives.bind (rf_two h.win k.win hl) fun v hv => ?_
  subst hv
  exact Gives.neg (by simp) (Gives.bind (rf_product h.win k.win hl h.short (h.prod k hl)) fun r hr => Gives.now ⟨hr, rfl⟩)
theorem rf_Gap {x s y t : List Int} {E F : Int} (h : Sk x s E) (k : Sk y t F) (hl : x.length = y.length) : Gives (fun n => T_ref13_Gap n x y) (fun r => (r.1, r.2.1) = gapP (prodP x y) (prodP x x) (prodP y y)) := by
  have lo := h.win.lo
  have pb := h.prod k hl
  have cs := prodP_cs hl (by omega)
  obtain ⟨n1, n2, _⟩ := h.nonneg
  obtain ⟨m1, m2, _⟩ := k.nonneg
  have q := prod_bound (a := prodP x x) (b := prodP y y) (A := 64000000) (B := 64000000) (by omega) (by omega) (by omega) (by omega)
  have q2 := prod_bound (a := prodP x y) (b := prodP x y) (A := 64000000) (B := 64000000) (by omega) (by omega) (by omega) (by omega)
  have q3 := sq_nonneg (prodP x y)
  refine Gives.step ?_
  simp only [T_ref13_Gap]
  refine Gives.bind (rf_Product h k hl) fun a ha => Gives.neg (by simp [ha.2]) ?_
  rw [ha.1]
  refine Gives.bind (rf_product h.win h.win rfl h.short (h.prod h rfl)) fun b hb => Gives.bind (rf_product k.win k.win rfl (by have := h.short; omega) (k.prod k rfl)) fun c hc => ?_
  subst hb hc
  refine Gives.bind (Q := fun r => r = gapP (prodP x y) (prodP x x) (prodP y y)) ?_ fun r hr => Gives.now hr
  refine Gives.step ?_
  simp only [T_ref13_Between]
  refine Gives.bind (Q := fun r => r = gapP (prodP x y) (prodP x x) (prodP y y)) ?_ fun r hr => Gives.now hr
  rw [w64_id (x := prodP x x * prodP y y) (by omega) (by omega), w64_id (x := prodP x y * prodP x y) (by omega) (by omega), w64_id (x := prodP x x * prodP y y + prodP x y * prodP x y) (by omega) (by omega), w64_id (x := prodP x x * prodP y y - prodP x y * prodP x y) (by omega) (by omega)]
  unfold gapP
  by_cases c1 : prodP x x = 0 ∧ prodP y y = 0
  · rw [if_pos c1]
    exact Gives.pos (by simp [c1]) (Gives.now rfl)
  rw [if_neg c1]
  refine Gives.neg (by simpa using c1) ?_
  by_cases c2 : prodP x x = 0 ∨ prodP y y = 0
  · rw [if_pos c2]
    refine Gives.neg (by rcases c2 with c2 | c2 <;> simp [c2]) (Gives.neg (by rcases c2 with c2 | c2 <;> simp [c2]) (Gives.now rfl))
  rw [if_neg c2]
  have hp : 0 < prodP x x * prodP y y := Int.mul_pos (by omega) (by omega)
  have c4 : prodP x x ≠ 0 ∧ prodP y y ≠ 0 := ⟨fun e => c2 (.inl e), fun e => c2 (.inr e)⟩
  by_cases c3 : prodP x y < 0
  · rw [if_pos c3]
    refine Gives.neg (by simp; omega) (Gives.pos (by simp [c4]) (Gives.bind (mk_int1 (by omega) hp (by omega) (by omega)) fun r hr => Gives.now ?_))
    subst hr
    rfl
  · rw [if_neg c3]
    refine Gives.pos (by simp [c4]; omega) (Gives.bind (mk_int1 (by omega) hp (by omega) (by omega)) fun r hr => Gives.now ?_)
    subst hr
    rfl
theorem pure_sketchFull (a0 : List Int) (w0 : ∀ n ∈ a0, (Lit.int .i64 n).wf = true) : ∃ k, T_law21_SketchFull k a0 = some true := by
  refine Gives.true (f := fun k => T_law21_SketchFull k a0) ?_
  obtain ⟨s0, s1⟩ := src_new a0
  refine Gives.step ?_
  simp only [T_law21_SketchFull]
  refine Gives.bind s1 fun _ _ => Gives.bind (src_range s0 2 8 (by omega) (by omega) (by omega)) fun a ha => Gives.bind (src_list ha.2.2 a.1 ha.1 (by omega)) fun b hb => ?_
  obtain ⟨b1, b2, b3⟩ := hb
  have hx : Win b.1 := ⟨by omega, by omega, b2⟩
  refine Gives.bind (src_near b3 hx) fun c hc => ?_
  obtain ⟨c1, c2, _⟩ := hc
  have hy : Win c.1 := ⟨by omega, by omega, c2⟩
  have e1 : a.1 = (b.1.length : Int) := by omega
  rw [e1]
  refine Gives.bind (fl_of hx (by omega)) fun f hf => ?_
  rw [← c1]
  refine Gives.bind (fl_of hy (by omega)) fun g hg => ?_
  obtain ⟨f1, f2, f3⟩ := hf
  obtain ⟨g1, g2, g3⟩ := hg
  rw [f1, g1]
  refine Gives.bind (fl_Upper f2 g2 c1.symm) fun u hu => Gives.bind (fl_Gap f2 g2 c1.symm) fun v hv => Gives.bind (rf_Product f2 g2 c1.symm) fun w hw => Gives.bind (rf_Gap f2 g2 c1.symm) fun z hz => ?_
  have e2 : (v.1, v.2.1) = (z.1, z.2.1) := hv.1.trans hz.symm
  simp only [Prod.mk.injEq] at e2
  refine Gives.bind (Q := fun v => v = true) ?_ fun v hv => Gives.now hv
  refine Gives.pos (by simp [f3, g3, hu.1, hu.2, hv.2, hw.1, e2]) (Gives.bind awake_ok fun v hv => Gives.now hv)

end Go.Proofs.Ytdmipmhpjdmopaa.sketchFull
