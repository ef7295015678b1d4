/- That the told functions answer as the statement WordAnswers says, in plain Lean. There are no conditions. -/
import Derived.Test.YtdnegloonbanpaaTWordAnswers2
set_option maxRecDepth 100000
set_option linter.unusedVariables false
set_option linter.unusedSimpArgs false
namespace Go.Proofs.Ytdnegloonbanpaa.wordAnswers
open Go
theorem wf_u8 {n : Int} (h : (Lit.int .u8 n).wf = true) : 0 ≤ n ∧ n ≤ 255 := by
 simpa [Lit.wf, IntKind.min, IntKind.max, IntKind.signed, IntKind.bits] using h
theorem wf_i8 {n : Int} (h : (Lit.int .i8 n).wf = true) : -128 ≤ n ∧ n ≤ 127 := by
 simpa [Lit.wf, IntKind.min, IntKind.max, IntKind.signed, IntKind.bits] using h
theorem wf_i64 {n : Int} (h : (Lit.int .i64 n).wf = true) : -9223372036854775808 ≤ n ∧ n ≤ 9223372036854775807 := by
 simpa [Lit.wf, IntKind.min, IntKind.max, IntKind.signed, IntKind.bits] using h
theorem w64_id {x : Int} (h1 : -9223372036854775808 ≤ x) (h2 : x < 9223372036854775808) : w64 x = x := wrap_id h1 h2

/-- With enough rounds the answer is there, and it is as asked. -/
def Gives {α : Type} (f : Nat → Option α) (Q : α → Prop) : Prop := ∃ r, (∃ K, ∀ k, K ≤ k → f k = some r) ∧ Q r
theorem Gives.mono {α : Type} {f : Nat → Option α} {Q Q' : α → Prop} (h : Gives f Q) (k : ∀ r, Q r → Q' r) : Gives f Q' := by
 obtain ⟨r, h1, h2⟩ := h; exact ⟨r, h1, k r h2⟩
theorem Gives.now {α : Type} {r : α} {Q : α → Prop} (h : Q r) : Gives (fun _ => some r) Q := ⟨r, ⟨0, fun _ _ => rfl⟩, h⟩
theorem Gives.con {α : Type} {x : Option α} {r : α} {Q : α → Prop} (h : x = some r) (k : Q r) : Gives (fun _ => x) Q := ⟨r, ⟨0, fun _ _ => h⟩, k⟩
theorem Gives.bind {α β : Type} {f : Nat → Option α} {g : Nat → α → Option β} {Q : α → Prop} {Q' : β → Prop} (h : Gives f Q) (k : ∀ a, Q a → Gives (fun n => g n a) Q') : Gives (fun n => (f n).bind (g n)) Q' := by
 obtain ⟨a, ⟨K, hK⟩, ha⟩ := h
 obtain ⟨r, ⟨K2, hK2⟩, hr⟩ := k a ha
 exact ⟨r, ⟨max K K2, fun n hn => by show (f n).bind (g n) = some r; rw [hK n (by omega), Option.bind_some]; exact hK2 n (by omega)⟩, hr⟩
theorem Gives.opt {α β : Type} {x : Option α} {a : α} {g : Nat → α → Option β} {Q : β → Prop} (h : x = some a) (k : Gives (fun n => g n a) Q) : Gives (fun n => x.bind (g n)) Q := by
 subst h; exact k
theorem Gives.step {α : Type} {f : Nat → Option α} {Q : α → Prop} (h : Gives (fun k => f (k + 1)) Q) : Gives f Q := by
 obtain ⟨r, ⟨K, hK⟩, hr⟩ := h
 refine ⟨r, ⟨K + 1, fun n hn => ?_⟩, hr⟩
 obtain ⟨m, rfl⟩ : ∃ m, n = m + 1 := ⟨n - 1, by omega⟩
 exact hK m (by omega)
theorem Gives.ite {α : Type} {c : Prop} [Decidable c] {f g : Nat → Option α} {Q : α → Prop} (h : c → Gives f Q) (k : ¬ c → Gives g Q) : Gives (fun n => if c then f n else g n) Q := by
 by_cases hc : c
 · simp only [if_pos hc]; exact h hc
 · simp only [if_neg hc]; exact k hc
theorem Gives.pos {α : Type} {c : Prop} [Decidable c] {f g : Nat → Option α} {Q : α → Prop} (hc : c) (h : Gives f Q) : Gives (fun n => if c then f n else g n) Q := by
 simp only [if_pos hc]; exact h
theorem Gives.neg {α : Type} {c : Prop} [Decidable c] {f g : Nat → Option α} {Q : α → Prop} (hc : ¬ c) (h : Gives g Q) : Gives (fun n => if c then f n else g n) Q := by
 simp only [if_neg hc]; exact h
theorem Gives.loop {S R : Type} {f : Nat → S → Option (S ⊕ R)} {Q : R → Prop} (Inv : S → Prop) (m : S → Nat)
 (h : ∀ s, Inv s → Gives (fun k => f k s) (fun x => match x with | .inl s' => Inv s' ∧ m s' < m s | .inr r => Q r)) {s : S} (hs : Inv s) : Gives (fun k => loopT (f k) k s) Q := by
 suffices H : ∀ (n : Nat) (s : S), m s < n → Inv s → ∃ r, (∃ K N, ∀ k, K ≤ k → ∀ j, N ≤ j → loopT (f k) j s = some r) ∧ Q r by
  obtain ⟨r, ⟨K, N, hK⟩, hr⟩ := H (m s + 1) s (by omega) hs
  exact ⟨r, ⟨max K N, fun k hk => hK k (by omega) k (by omega)⟩, hr⟩
 intro n
 induction n with
 | zero => intro s hs; omega
 | succ n ih =>
  intro s hs hI
  obtain ⟨x, ⟨K, hK⟩, hx⟩ := h s hI
  cases x with
  | inl s' =>
   obtain ⟨r, ⟨K2, N, hK2⟩, hr⟩ := ih s' (by have := hx.2; omega) hx.1
   refine ⟨r, ⟨max K K2, N + 1, fun k hk j hj => ?_⟩, hr⟩
   obtain ⟨j', rfl⟩ : ∃ j', j = j' + 1 := ⟨j - 1, by omega⟩
   simp only [loopT, hK k (by omega), Option.bind_some]
   exact hK2 k (by omega) j' (by omega)
  | inr r =>
   refine ⟨r, ⟨K, 1, fun k hk j hj => ?_⟩, hx⟩
   obtain ⟨j', rfl⟩ : ∃ j', j = j' + 1 := ⟨j - 1, by omega⟩
   simp only [loopT, hK k hk, Option.bind_some]
theorem Gives.true {f : Nat → Option Bool} (h : Gives f (· = true)) : ∃ k, f k = some true := by
 obtain ⟨r, ⟨K, hK⟩, hr⟩ := h
 subst hr
 exact ⟨K, hK K (Nat.le_refl _)⟩
/-- An element of a list, 0 outside of it. -/
def rd (xs : List Int) (i : Int) : Int := xs.getD i.toNat 0
theorem at_rd {xs : List Int} {i : Int} (h0 : 0 ≤ i) (h1 : i < (xs.length : Int)) : at? xs i = some (rd xs i) := by
 unfold at? rd
 rw [if_pos h0, List.getD_eq_getElem?_getD, List.getElem?_eq_getElem (by omega)]; rfl
theorem get_rd {xs : List Int} {n : Nat} (h1 : n < xs.length) : xs[n]? = some (rd xs n) := by
 unfold rd
 rw [List.getD_eq_getElem?_getD, List.getElem?_eq_getElem h1]
 simp [h1]
theorem rd_mem {xs : List Int} {i : Int} (h0 : 0 ≤ i) (h1 : i < (xs.length : Int)) : rd xs i ∈ xs := by
 unfold rd
 have h : i.toNat < xs.length := by omega
 rw [List.getD_eq_getElem?_getD, List.getElem?_eq_getElem h]; exact List.getElem_mem h
/-- All numbers are samples. -/
def Smp (xs : List Int) : Prop := ∀ v ∈ xs, -1000 ≤ v ∧ v ≤ 1000
theorem Smp.rd {xs : List Int} (h : Smp xs) (i : Int) : -1000 ≤ rd xs i ∧ rd xs i ≤ 1000 := by
 show -1000 ≤ xs.getD i.toNat 0 ∧ xs.getD i.toNat 0 ≤ 1000
 rw [List.getD_eq_getElem?_getD]
 rcases Nat.lt_or_ge i.toNat xs.length with c | c
 · rw [List.getElem?_eq_getElem c]; exact h _ (List.getElem_mem c)
 · rw [List.getElem?_eq_none c]; decide
theorem Smp.nil : Smp [] := fun _ h => by simp at h
theorem Smp.app {xs ys : List Int} (h : Smp xs) (k : Smp ys) : Smp (xs ++ ys) := fun v hv => by
 rcases List.mem_append.1 hv with h1 | h1
 · exact h v h1
 · exact k v h1
theorem Smp.one {v : Int} (h0 : -1000 ≤ v) (h1 : v ≤ 1000) : Smp [v] := fun u hu => by
 obtain rfl := List.mem_singleton.1 hu; exact ⟨h0, h1⟩
theorem Smp.take {xs : List Int} (h : Smp xs) (n : Nat) : Smp (xs.take n) := fun v hv => h v (List.mem_of_mem_take hv)
theorem Smp.drop {xs : List Int} (h : Smp xs) (n : Nat) : Smp (xs.drop n) := fun v hv => h v (List.mem_of_mem_drop hv)
theorem Smp.set {xs : List Int} (h : Smp xs) (n : Nat) {v : Int} (h0 : -1000 ≤ v) (h1 : v ≤ 1000) : Smp (xs.set n v) := fun u hu => by
 rcases List.mem_or_eq_of_mem_set hu with h2 | h2
 · exact h u h2
 · subst h2; exact ⟨h0, h1⟩
/-- A window. -/
structure Win (xs : List Int) : Prop where
 lo : 2 ≤ xs.length
 hi : xs.length ≤ 32
 smp : Smp xs

/-- A reader of numbers. -/
structure SrcOk (L : List Int) (p : Int) : Prop where
 lo : 0 ≤ p
 hi : p ≤ (L.length : Int)
 len : L.length ≤ 2000
theorem src_raw {L : List Int} {p : Int} (h : SrcOk L p) : Gives (fun k => T_keep_Src_Raw k L p) (fun r => SrcOk L r.2) := by
 obtain ⟨h0, h1, h2⟩ := h
 refine Gives.step ?_
 simp only [T_keep_Src_Raw]
 have e1 : w64 (p + 1) = p + 1 := w64_id (by omega) (by omega)
 have e2 : w64 (w64 (p + 1) - 1) = p := by rw [e1, w64_id (by omega) (by omega)]; omega
 refine Gives.ite (fun c => Gives.now ⟨h0, h1, h2⟩) fun c => ?_
 rw [e2, e1]
 exact Gives.opt (at_rd h0 (by omega)) (Gives.now ⟨by simp only []; omega, by simp only []; omega, h2⟩)
theorem src_mod (x n : Int) (h : 1 ≤ n) (hn : n ≤ 4611686018427387904) : Gives (fun k => T_keep_Mod k x n) (fun v => 0 ≤ v ∧ v < n) := by
 have h1 : Int.tmod x n < n := Int.tmod_lt_of_pos _ (by omega)
 have h2 : -n < Int.tmod x n := by
  rcases Int.le_total 0 x with c | c
  · have := Int.tmod_nonneg n c; omega
  · have h3 : Int.tmod (-x) n < n := Int.tmod_lt_of_pos _ (by omega)
    rw [Int.neg_tmod] at h3; omega
 refine Gives.step ?_
 simp only [T_keep_Mod]
 refine Gives.neg (by omega) (Gives.pos (by omega) (Gives.bind (Q := fun v => 0 ≤ v ∧ v < n) ?_ fun a ha => Gives.now ha))
 refine Gives.ite (fun c => ?_) fun c => Gives.now ⟨by omega, by omega⟩
 rw [w64_id (by omega) (by omega)]
 exact Gives.now ⟨by omega, by omega⟩
theorem src_n {L : List Int} {p : Int} (h : SrcOk L p) (n : Int) (h1 : 1 ≤ n) (hn : n ≤ 4611686018427387904) : Gives (fun k => T_keep_Src_N k n L p) (fun r => 0 ≤ r.1 ∧ r.1 < n ∧ SrcOk L r.2) := by
 refine Gives.step ?_
 simp only [T_keep_Src_N]
 exact Gives.bind (src_raw h) fun a ha => Gives.bind (src_mod a.1 n h1 hn) fun v hv => Gives.now ⟨hv.1, hv.2, ha⟩
theorem src_range {L : List Int} {p : Int} (h : SrcOk L p) (lo hi : Int) (h1 : lo ≤ hi) (h0 : -1000000000000 ≤ lo) (h2 : hi ≤ 1000000000000) : Gives (fun k => T_keep_Src_Range k lo hi L p) (fun r => lo ≤ r.1 ∧ r.1 ≤ hi ∧ SrcOk L r.2) := by
 have e1 : w64 (w64 (hi - lo) + 1) = hi - lo + 1 := by rw [w64_id (x := hi - lo) (by omega) (by omega), w64_id (by omega) (by omega)]
 refine Gives.step ?_
 simp only [T_keep_Src_Range]
 rw [e1]
 refine Gives.bind (src_n h (hi - lo + 1) (by omega) (by omega)) fun a ha => ?_
 rw [w64_id (by omega) (by omega)]
 exact Gives.now ⟨by simp only []; omega, by simp only []; omega, ha.2.2⟩
theorem src_pick {L : List Int} {p : Int} (h : SrcOk L p) (l : List Int) (h1 : 1 ≤ l.length) (h2 : l.length ≤ 1000) : Gives (fun k => T_keep_Src_Pick k l L p) (fun r => r.1 ∈ l ∧ SrcOk L r.2) := by
 refine Gives.step ?_
 simp only [T_keep_Src_Pick]
 exact Gives.bind (src_n h (l.length : Int) (by omega) (by omega)) fun a ha => Gives.opt (at_rd ha.1 ha.2.1) (Gives.now ⟨rd_mem ha.1 ha.2.1, ha.2.2⟩)
theorem src_clip (x : Int) : Gives (fun k => T_keep_clip k x) (fun _ => True) := by
 refine Gives.step ?_
 simp only [T_keep_clip]
 exact Gives.now trivial
theorem clip_smp (x : Int) : -1000 ≤ imin (imax x (-1000)) 1000 ∧ imin (imax x (-1000)) 1000 ≤ 1000 := by unfold imin imax; split <;> split <;> omega
theorem src_length {L : List Int} {p : Int} (h : SrcOk L p) : Gives (fun k => T_keep_Src_Length k L p) (fun r => 2 ≤ r.1 ∧ r.1 ≤ 32 ∧ SrcOk L r.2) := by
 refine Gives.step ?_
 simp only [T_keep_Src_Length]
 refine Gives.bind (src_n h 8 (by omega) (by omega)) fun a ha => Gives.ite (fun c => ?_) fun c => ?_
 · exact Gives.bind (src_range ha.2.2 13 32 (by omega) (by omega) (by omega)) fun b hb => Gives.now ⟨by simp only []; omega, by simp only []; omega, hb.2.2⟩
 · exact Gives.bind (src_range ha.2.2 2 12 (by omega) (by omega) (by omega)) fun b hb => Gives.now ⟨by simp only []; omega, by simp only []; omega, hb.2.2⟩
theorem drop_take_len {xs : List Int} {n : Nat} (h : xs.length = n) : (xs.drop 0).take n = xs := by rw [List.drop_zero, ← h, List.take_length]
theorem src_list {L : List Int} {p : Int} (h : SrcOk L p) (n : Int) (h1 : 2 ≤ n) (h2 : n ≤ 32) : Gives (fun k => T_keep_Src_List k n L p) (fun r => (r.1.length : Int) = n ∧ Smp r.1 ∧ SrcOk L r.2) := by
 refine Gives.step ?_
 simp only [T_keep_Src_List]
 refine Gives.bind (src_n h 6 (by omega) (by omega)) fun a ha => Gives.bind (src_pick ha.2.2 [1, 3, 10, 100, 1000] (by decide) (by decide)) fun b hb => Gives.bind (src_n hb.2 3 (by omega) (by omega)) fun c hc => ?_
 have hb1 : 1 ≤ b.1 ∧ b.1 ≤ 1000 := by have := hb.1; simp at this; omega
 have em : w64 (0 - b.1) = -b.1 := by rw [w64_id (by omega) (by omega)]; omega
 refine Gives.bind (Q := fun d => -1000 ≤ d.1 ∧ d.1 ≤ 1000 ∧ SrcOk L d.2) ?_ fun d hd => ?_
 · refine Gives.ite (fun _ => ?_) fun _ => Gives.now ⟨by simp only []; omega, by simp only []; omega, hc.2.2⟩
   exact Gives.bind (src_range hc.2.2 (-1000) 1000 (by omega) (by omega) (by omega)) fun e he => Gives.now he
 refine Gives.bind (Q := fun r => (r.1 : Int) = n ∧ r.2.2.length = r.1 ∧ Smp r.2.2 ∧ SrcOk L r.2.1) ?_ fun r hr => ?_
 · refine Gives.loop (fun s => -1000 ≤ s.1 ∧ s.1 ≤ 1000 ∧ (s.2.1 : Int) = s.2.2.1 ∧ s.2.2.1 ≤ n ∧ SrcOk L s.2.2.2.1 ∧ s.2.2.2.2.length = s.2.1 ∧ Smp s.2.2.2.2) (fun s => (n - s.2.2.1).toNat) ?_ ⟨hd.1, hd.2.1, rfl, by simp only []; omega, hd.2.2, rfl, Smp.nil⟩
   intro s ⟨i1, i2, i3, i4, i5, i6, i7⟩
   have ed : (s.2.2.2.2.drop 0).take s.2.1 = s.2.2.2.2 := drop_take_len i6
   unfold T_keep_Src_List_l1
   refine Gives.ite (fun c => ?_) fun c => Gives.now ⟨by simp only []; omega, i6, i7, i5⟩
   rw [em, ed]
   have hlim : s.2.1 + 1 ≤ LIM := by unfold LIM; omega
   refine Gives.bind (Q := fun _ => True) (Gives.ite (fun _ => Gives.now trivial) fun _ => Gives.now trivial) fun t _ => ?_
   refine Gives.bind (Q := fun r => -1000 ≤ r.1 ∧ r.1 ≤ 1000 ∧ SrcOk L r.2.1 ∧ r.2.2.length = s.2.1 + 1 ∧ Smp r.2.2) ?_ fun r hr => ?_
   · refine Gives.ite (fun _ => ?_) fun _ => ?_
     · refine Gives.bind (src_range i5 (-b.1) b.1 (by omega) (by omega) (by omega)) fun v hv => Gives.pos hlim (Gives.now ⟨i1, i2, hv.2.2, by simp [i6], i7.app (Smp.one (by omega) (by omega))⟩)
     · refine Gives.bind (Q := fun _ => True) (Gives.ite (fun _ => Gives.now trivial) fun _ => Gives.now trivial) fun t2 _ => Gives.ite (fun _ => ?_) fun _ => Gives.ite (fun _ => ?_) fun _ => ?_
       · refine Gives.bind (src_range i5 (-b.1) b.1 (by omega) (by omega) (by omega)) fun v hv => Gives.bind (src_clip _) fun _ _ => Gives.pos hlim (Gives.now ?_)
         have := clip_smp (w64 (s.1 + v.1))
         exact ⟨this.1, this.2, hv.2.2, by simp [i6], i7.app (Smp.one this.1 this.2)⟩
       · refine Gives.bind (src_n i5 4 (by omega) (by omega)) fun v hv => Gives.bind (Q := fun r => -1000 ≤ r.1 ∧ r.1 ≤ 1000 ∧ SrcOk L r.2) (Gives.ite (fun _ => ?_) fun _ => Gives.now ⟨i1, i2, hv.2.2⟩) fun u hu => Gives.pos hlim (Gives.now ⟨hu.1, hu.2.1, hu.2.2, by simp [i6], i7.app (Smp.one hu.1 hu.2.1)⟩)
         exact Gives.bind (src_range hv.2.2 (-b.1) b.1 (by omega) (by omega) (by omega)) fun e he => Gives.now ⟨by simp only []; omega, by simp only []; omega, he.2.2⟩
       · refine Gives.bind (src_pick i5 [-1000, 1000, 1000, 0] (by decide) (by decide)) fun v hv => Gives.pos hlim (Gives.now ?_)
         have : -1000 ≤ v.1 ∧ v.1 ≤ 1000 := by have := hv.1; simp at this; omega
         exact ⟨i1, i2, hv.2, by simp [i6], i7.app (Smp.one this.1 this.2)⟩
   · have ei : w64 (s.2.2.1 + 1) = s.2.2.1 + 1 := w64_id (by omega) (by omega)
     rw [ei]
     exact Gives.now ⟨⟨hr.1, hr.2.1, by simp only []; omega, by simp only []; omega, hr.2.2.1, hr.2.2.2.1, hr.2.2.2.2⟩, by simp only []; omega⟩
 · rw [drop_take_len hr.2.1]
   exact Gives.now ⟨by simp only []; omega, hr.2.2.1, hr.2.2.2⟩

theorem get_rd0 {xs : List Int} {i : Int} (h0 : 0 ≤ i) (h1 : i < (xs.length : Int)) : xs[0 + i.toNat]? = some (rd xs i) := by
 rw [Nat.zero_add, get_rd (by omega), Int.toNat_of_nonneg h0]
theorem src_new (l : List Int) : SrcOk ((l.drop 0).take ((imin (l.length : Int) 2000).toNat - 0)) 0 ∧ Gives (fun k => T_keep_New k l) (fun _ => True) := by
 have h1 : 0 ≤ imin (l.length : Int) 2000 := by unfold imin; split <;> omega
 have h2 : imin (l.length : Int) 2000 ≤ l.length := by unfold imin; split <;> omega
 have h3 : imin (l.length : Int) 2000 ≤ 2000 := by unfold imin; split <;> omega
 refine ⟨⟨by omega, by omega, ?_⟩, ?_⟩
 · simp; omega
 · refine Gives.step ?_
   simp only [T_keep_New]
   exact Gives.pos (by omega) (Gives.now trivial)
/-! The distance of chapter 12. -/
theorem eu_samples {xs : List Int} (h : Win xs) : Gives (fun k => T_euclid_samples k xs) (· = true) := by
 have h2 := h.hi
 refine Gives.step ?_
 simp only [T_euclid_samples]
 refine Gives.bind (Q := fun r => r = .inl ()) ?_ fun r hr => by subst hr; exact Gives.now rfl
 refine Gives.loop (fun s => 0 ≤ s ∧ s ≤ (xs.length : Int)) (fun s => ((xs.length : Int) - s).toNat) ?_ ⟨by omega, by omega⟩
 intro s ⟨i1, i2⟩
 unfold T_euclid_samples_l1
 refine Gives.ite (fun c => Gives.opt (at_rd i1 c) ?_) fun c => Gives.now rfl
 have := h.smp.rd s
 refine Gives.neg (by simp; omega) ?_
 rw [w64_id (by omega) (by omega)]
 exact Gives.now ⟨⟨by omega, by omega⟩, by omega⟩
theorem eu_len (xs : List Int) : Gives (fun k => T_euclid_length k xs) (fun _ => True) := by
 refine Gives.step ?_
 simp only [T_euclid_length]
 exact Gives.now trivial
theorem eu_check {xs ys : List Int} (hx : Win xs) (hy : Win ys) (hl : xs.length = ys.length) : Gives (fun k => T_euclid_check k xs ys) (· = 0) := by
 have x1 := hx.lo
 have x2 := hx.hi
 refine Gives.step ?_
 simp only [T_euclid_check]
 refine Gives.bind (Q := fun b => b = false) ?_ fun b hb => ?_
 · refine Gives.bind (eu_len xs) fun _ _ => Gives.neg (by simp; omega) ?_
   refine Gives.bind (eu_len ys) fun _ _ => Gives.now ?_
   simp; omega
 subst hb
 refine Gives.neg (by simp) ?_
 refine Gives.bind (Q := fun b => b = false) ?_ fun b hb => ?_
 · refine Gives.bind (eu_samples hx) fun u hu => ?_
   subst hu
   refine Gives.neg (by simp) (Gives.bind (eu_samples hy) fun u hu => ?_)
   subst hu
   exact Gives.now rfl
 subst hb
 refine Gives.neg (by simp) (Gives.neg (by simp [hl]) (Gives.now rfl))
theorem eu_square {xs ys : List Int} (hx : Win xs) (hl : xs.length = ys.length) : Gives (fun k => T_euclid_square k xs ys) (fun _ => True) := by
 have x2 := hx.hi
 refine Gives.step ?_
 simp only [T_euclid_square]
 refine Gives.bind (Q := fun _ => True) ?_ fun r hr => Gives.now trivial
 refine Gives.loop (fun s => 0 ≤ s.2 ∧ s.2 ≤ (xs.length : Int)) (fun s => ((xs.length : Int) - s.2).toNat) ?_ ⟨by simp only []; omega, by simp only []; omega⟩
 intro s ⟨i1, i2⟩
 unfold T_euclid_square_l1
 refine Gives.ite (fun c => Gives.opt (at_rd i1 c) (Gives.opt (at_rd i1 (by omega)) ?_)) fun c => Gives.now trivial
 rw [w64_id (x := s.2 + 1) (by omega) (by omega)]
 exact Gives.now ⟨⟨by simp only []; omega, by simp only []; omega⟩, by simp only []; omega⟩
theorem eu_distance {xs ys : List Int} (hx : Win xs) (hy : Win ys) (hl : xs.length = ys.length) : Gives (fun k => T_euclid_Distance k xs ys) (fun r => r.2 = 0) := by
 refine Gives.step ?_
 simp only [T_euclid_Distance]
 refine Gives.bind (eu_check hx hy hl) fun e he => ?_
 subst he
 exact Gives.neg (by simp) (Gives.bind (eu_square hx hl) fun v _ => Gives.now rfl)

/-! Sums of the first samples. -/
def psum (x : List Int) (i : Int) : Int := (x.take i.toNat).sum
theorem psum_zero (x : List Int) : psum x 0 = 0 := by simp [psum]
theorem psum_succ {x : List Int} {i : Int} (h0 : 0 ≤ i) (h1 : i < (x.length : Int)) : psum x (i + 1) = psum x i + rd x i := by
 unfold psum rd
 rw [show (i + 1).toNat = i.toNat + 1 by omega, List.take_succ_eq_append_getElem (show i.toNat < x.length by omega), List.sum_append]
 rw [List.getD_eq_getElem?_getD, List.getElem?_eq_getElem (show i.toNat < x.length by omega)]
 simp
theorem psum_bound {x : List Int} {B : Int} (hB : ∀ v ∈ x, -B ≤ v ∧ v ≤ B) : ∀ n : Nat, n ≤ x.length → -(B * n) ≤ psum x n ∧ psum x n ≤ B * n
 | 0, _ => by simp [psum]
 | n + 1, h => by
  have ih := psum_bound hB n (by omega)
  have e := psum_succ (x := x) (i := (n : Int)) (by omega) (by omega)
  have hb := hB _ (rd_mem (xs := x) (i := (n : Int)) (by omega) (by omega))
  have : (((n + 1 : Nat)) : Int) = (n : Int) + 1 := by omega
  rw [this, e, Int.mul_add, Int.mul_one]
  omega
theorem psum_all {x : List Int} : psum x x.length = x.sum := by simp [psum]
theorem part_sum {x : List Int} {a b : Int} (h0 : 0 ≤ a) (h1 : a ≤ b) : ((x.drop a.toNat).take (b.toNat - a.toNat)).sum = psum x b - psum x a := by
 have e : x.take b.toNat = x.take a.toNat ++ (x.drop a.toNat).take (b.toNat - a.toNat) := by
  conv => lhs; rw [show b.toNat = a.toNat + (b.toNat - a.toNat) by omega]
  rw [List.take_add]
 unfold psum
 rw [e, List.sum_append]
 omega
theorem psum_shift {x z : List Int} {c : Int} (hl : z.length = x.length) (h : ∀ q, 0 ≤ q → q < (x.length : Int) → rd z q = rd x q + c) : ∀ n : Nat, n ≤ x.length → psum z n = psum x n + n * c
 | 0, _ => by simp [psum]
 | n + 1, hn => by
  have ih := psum_shift hl h n (by omega)
  have e1 := psum_succ (x := x) (i := (n : Int)) (by omega) (by omega)
  have e2 := psum_succ (x := z) (i := (n : Int)) (by omega) (by omega)
  have e3 := h n (by omega) (by omega)
  have : (((n + 1 : Nat)) : Int) = (n : Int) + 1 := by omega
  rw [this, e1, e2, e3, ih, Int.add_mul, Int.one_mul]
  omega
/-! Where the pieces of a window begin. -/
def cut (m n p : Int) : Int := p * m / n
theorem cut_zero (m n : Int) : cut m n 0 = 0 := by simp [cut]
theorem cut_last {m n : Int} (hn : 1 ≤ n) : cut m n n = m := by unfold cut; exact Int.mul_ediv_cancel_left _ (by omega)
theorem cut_mono {m n p q : Int} (hn : 1 ≤ n) (hm : 0 ≤ m) (h : p ≤ q) : cut m n p ≤ cut m n q := by
 unfold cut
 exact Int.ediv_le_ediv (by omega) (Int.mul_le_mul_of_nonneg_right h hm)
theorem cut_range {m n p : Int} (hn : 1 ≤ n) (hm : 0 ≤ m) (h0 : 0 ≤ p) (h1 : p ≤ n) : 0 ≤ cut m n p ∧ cut m n p ≤ m := by
 have a := cut_mono (m := m) hn hm h0
 have b := cut_mono (m := m) hn hm h1
 rw [cut_zero] at a
 rw [cut_last hn] at b
 exact ⟨a, b⟩
theorem cut_w {m n p : Int} (hn : 1 ≤ n) (hn2 : n ≤ 8) (hm : 0 ≤ m) (hm2 : m ≤ 32) (h0 : 0 ≤ p) (h1 : p ≤ n) : w64 ((w64 (p * m)).tdiv n) = cut m n p := by
 have h2 : 0 ≤ p * m := Int.mul_nonneg h0 hm
 have h3 : p * m ≤ 8 * 32 := Int.le_trans (Int.mul_le_mul_of_nonneg_right (show p ≤ 8 by omega) hm) (Int.mul_le_mul_of_nonneg_left hm2 (by omega))
 have h4 := cut_range hn hm h0 h1
 rw [w64_id (x := p * m) (by omega) (by omega), Int.tdiv_eq_ediv_of_nonneg h2, w64_id]
 · rfl
 · have : cut m n p = p * m / n := rfl
   omega
 · have : cut m n p = p * m / n := rfl
   omega
theorem Gives.rangeT {S R : Type} {f : Nat → Int → Int → Int → S → Option (S ⊕ R)} {m n : Int} (hn : 1 ≤ n) (hn2 : n ≤ 8) (hm : 0 ≤ m) (hm2 : m ≤ 32) (Inv : Int → S → Prop)
 (h : ∀ p s, 0 ≤ p → p < n → Inv p s → Gives (fun k => f k p (cut m n p) (cut m n (p + 1)) s) (fun x => ∃ s', x = .inl s' ∧ Inv (p + 1) s')) {s : S} (hs : Inv 0 s) :
 Gives (fun k => allT (f k) m n k 0 s) (fun x => ∃ s', x = .inl s' ∧ Inv n s') := by
 suffices H : ∀ (d : Nat) (p : Int) (s : S), 0 ≤ p → p ≤ n → (n - p).toNat < d → Inv p s → ∃ r, (∃ K N, ∀ k, K ≤ k → ∀ j, N ≤ j → allT (f k) m n j p s = some r) ∧ ∃ s', r = .inl s' ∧ Inv n s' by
  obtain ⟨r, ⟨K, N, hK⟩, hr⟩ := H (n.toNat + 1) 0 s (by omega) (by omega) (by omega) hs
  exact ⟨r, ⟨max K N, fun k hk => hK k (by omega) k (by omega)⟩, hr⟩
 intro d
 induction d with
 | zero => intro p s _ _ h; omega
 | succ d ih =>
  intro p s h0 h1 hd hI
  by_cases c : p < n
  · obtain ⟨x, ⟨K, hK⟩, s', rfl, hs'⟩ := h p s h0 c hI
    obtain ⟨r, ⟨K2, N, hK2⟩, hr⟩ := ih (p + 1) s' (by omega) (by omega) (by omega) hs'
    refine ⟨r, ⟨max K K2, N + 1, fun k hk j hj => ?_⟩, hr⟩
    obtain ⟨j', rfl⟩ : ∃ j', j = j' + 1 := ⟨j - 1, by omega⟩
    simp only [allT]
    rw [if_pos c, if_pos (by omega), w64_id (x := p + 1) (by omega) (by omega), cut_w hn hn2 hm hm2 h0 (by omega), cut_w hn hn2 hm hm2 (by omega) (by omega), show f k p (cut m n p) (cut m n (p + 1)) s = some (.inl s') from hK k (by omega)]
    exact hK2 k (by omega) j' (by omega)
  · have : p = n := by omega
    subst this
    refine ⟨.inl s, ⟨0, 1, fun k _ j hj => ?_⟩, s, rfl, hI⟩
    obtain ⟨j', rfl⟩ : ∃ j', j = j' + 1 := ⟨j - 1, by omega⟩
    simp only [allT]
    rw [if_neg c]
/-! What the functions of the chapter compute. -/
theorem pc_total {x : List Int} (hs : Smp x) (hl : x.length ≤ 32) : Gives (fun k => T_pieces_total k x) (fun r => r = x.sum) := by
 have hB : ∀ v ∈ x, -(1000 : Int) ≤ v ∧ v ≤ 1000 := hs
 refine Gives.step ?_
 simp only [T_pieces_total]
 refine Gives.bind (Q := fun r => r = x.sum) ?_ fun r hr => Gives.now hr
 refine Gives.loop (fun s => 0 ≤ s.2 ∧ s.2 ≤ (x.length : Int) ∧ s.1 = psum x s.2) (fun s => ((x.length : Int) - s.2).toNat) ?_ ⟨by simp only []; omega, by simp only []; omega, (psum_zero x).symm⟩
 intro ⟨t, i⟩ ⟨i1, i2, i3⟩
 simp only at i1 i2 i3
 unfold T_pieces_total_l1
 simp only []
 refine Gives.ite (fun c => Gives.opt (at_rd i1 c) ?_) fun c => Gives.now ?_
 · have e := psum_succ i1 c
   have b := psum_bound hB (i.toNat + 1) (by omega)
   have : ((i.toNat + 1 : Nat) : Int) = i + 1 := by omega
   rw [this] at b
   rw [w64_id (x := i + 1) (by omega) (by omega), w64_id (x := t + rd x i) (by omega) (by omega)]
   exact Gives.now ⟨⟨by simp only []; omega, by simp only []; omega, by simp only []; omega⟩, by simp only []; omega⟩
 · have : i = x.length := by omega
   subst this
   rw [i3]; exact psum_all
theorem pc_all (m n : Int) : Gives (fun k => T_pieces_all k m n) (fun _ => True) := by
 refine Gives.step ?_
 simp only [T_pieces_all]
 exact Gives.now trivial
theorem pc_number (m n : Int) : Gives (fun k => T_pieces_number k m n) (fun _ => True) := by
 refine Gives.step ?_
 simp only [T_pieces_number]
 exact Gives.now trivial
theorem pc_check {x : List Int} {n : Int} (hx : Win x) (hn : 1 ≤ n) (hn2 : n ≤ 8) (hn3 : n ≤ (x.length : Int)) : Gives (fun k => T_pieces_check k x n) (fun r => r = 0) := by
 refine Gives.step ?_
 simp only [T_pieces_check]
 refine Gives.bind (eu_distance hx hx rfl) fun e he => Gives.neg (by simp [he]) (Gives.bind (pc_number _ _) fun _ _ => Gives.neg (by simp; omega) (Gives.now rfl))
theorem rd_set_eq {xs : List Int} {i v : Int} (h0 : 0 ≤ i) (h1 : i < (xs.length : Int)) : rd (xs.set (0 + i.toNat) v) i = v := by
 unfold rd
 rw [Nat.zero_add, List.getD_eq_getElem?_getD, List.getElem?_set_self (by omega)]; rfl
theorem rd_set_ne {xs : List Int} {i j v : Int} (h0 : 0 ≤ i) (h1 : 0 ≤ j) (h : i ≠ j) : rd (xs.set (0 + i.toNat) v) j = rd xs j := by
 unfold rd
 rw [Nat.zero_add, List.getD_eq_getElem?_getD, List.getElem?_set_ne (by omega), List.getD_eq_getElem?_getD]
theorem pc_part {x : List Int} {n p : Int} (hx : Win x) (hn : 1 ≤ n) (h0 : 0 ≤ p) (h1 : p < n) : 0 ≤ cut x.length n p ∧ cut x.length n p ≤ cut x.length n (p + 1) ∧ cut x.length n (p + 1) ≤ (x.length : Int) ∧
 Gives (fun k => T_pieces_total k ((x.drop (cut x.length n p).toNat).take ((cut x.length n (p + 1)).toNat - (cut x.length n p).toNat))) (fun r => r = psum x (cut x.length n (p + 1)) - psum x (cut x.length n p)) := by
 have a := cut_range (m := x.length) hn (by omega) h0 (by omega)
 have b := cut_range (m := x.length) (p := p + 1) hn (by omega) (by omega) (by omega)
 have c := cut_mono (m := x.length) (p := p) (q := p + 1) hn (by omega) (by omega)
 refine ⟨a.1, c, b.2, ?_⟩
 have x2 := hx.hi
 refine (pc_total ((hx.smp.drop _).take _) (by simp; omega)).mono fun r hr => ?_
 rw [hr]; exact part_sum a.1 c
theorem prod_bound {a b A B : Int} (h1 : -A ≤ a) (h2 : a ≤ A) (h3 : -B ≤ b) (h4 : b ≤ B) : -(A * B) ≤ a * b ∧ a * b ≤ A * B := by
 have hA : 0 ≤ A := by omega
 have hB : 0 ≤ B := by omega
 have p1 : 0 ≤ (A - a) * (B - b) := Int.mul_nonneg (by omega) (by omega)
 have p2 : 0 ≤ (A + a) * (B + b) := Int.mul_nonneg (by omega) (by omega)
 have p3 : 0 ≤ (A - a) * (B + b) := Int.mul_nonneg (by omega) (by omega)
 have p4 : 0 ≤ (A + a) * (B - b) := Int.mul_nonneg (by omega) (by omega)
 rw [Int.sub_mul, Int.mul_sub, Int.mul_sub] at p1
 rw [Int.add_mul, Int.mul_add, Int.mul_add] at p2
 rw [Int.sub_mul, Int.mul_add, Int.mul_add] at p3
 rw [Int.add_mul, Int.mul_sub, Int.mul_sub] at p4
 omega
theorem pc_bounds {x : List Int} (hx : Win x) {i : Int} (h0 : 0 ≤ i) (h1 : i ≤ (x.length : Int)) : -32000 ≤ psum x i ∧ psum x i ≤ 32000 := by
 have x2 := hx.hi
 have := psum_bound (B := 1000) hx.smp i.toNat (by omega)
 rw [Int.toNat_of_nonneg h0] at this
 omega
theorem rd_app_l {xs ys : List Int} {i : Int} (h1 : i.toNat < xs.length) : rd (xs ++ ys) i = rd xs i := by
 unfold rd
 rw [List.getD_eq_getElem?_getD, List.getElem?_append_left h1, List.getD_eq_getElem?_getD]
theorem rd_app_1 {xs : List Int} {v i : Int} (h0 : 0 ≤ i) (h1 : (xs.length : Int) = i) : rd (xs ++ [v]) i = v := by
 unfold rd
 rw [List.getD_eq_getElem?_getD, List.getElem?_append_right (by omega)]
 simp [show i.toNat - xs.length = 0 by omega]
theorem pc_starts {m n : Int} (hm : 2 ≤ m) (hm2 : m ≤ 32) (hn : 1 ≤ n) (hn2 : n ≤ 8) (hn3 : n ≤ m) :
 Gives (fun k => T_pieces_Starts k m n) (fun r => r.2 = 0 ∧ (r.1.length : Int) = n + 1 ∧ ∀ p, 0 ≤ p → p ≤ n → rd r.1 p = cut m n p) := by
 refine Gives.step ?_
 simp only [T_pieces_Starts]
 refine Gives.neg (by simp; omega) (Gives.bind (pc_number _ _) fun _ _ => Gives.neg (by simp; omega) (Gives.bind (pc_all _ _) fun _ _ => ?_))
 refine Gives.bind (Gives.rangeT (m := m) (n := n) hn hn2 (by omega) (by omega) (fun p s => (s.1 : Int) = p + 1 ∧ s.2.length = s.1 ∧ ∀ q, 0 ≤ q → q ≤ p → rd s.2 q = cut m n q) ?_ ⟨by simp, by simp, fun q h1 h2 => by
  have : q = 0 := by omega
  subst this; rw [cut_zero]; rfl⟩) fun r hr => ?_
 · intro p s h0 h1 ⟨i1, i2, i3⟩
   unfold T_pieces_Starts_r1
   rw [drop_take_len i2]
   refine Gives.pos (by unfold LIM; omega) (Gives.now ⟨_, rfl, by simp only []; omega, by simp [i2], fun q h2 h3 => ?_⟩)
   simp only []
   by_cases c : q = p + 1
   · subst c; rw [rd_app_1 (by omega) (by omega)]
   · rw [rd_app_l (by omega)]; exact i3 q h2 (by omega)
 · obtain ⟨s', rfl, k1, k2, k3⟩ := hr
   simp only []
   rw [drop_take_len k2]
   exact Gives.now ⟨rfl, by simp only []; omega, k3⟩

/-- The squares of a list. -/
def sqs (x : List Int) : List Int := x.map fun v => v * v
theorem sqs_len (x : List Int) : (sqs x).length = x.length := by simp [sqs]
theorem rd_sqs {x : List Int} {i : Int} (h0 : 0 ≤ i) (h1 : i < (x.length : Int)) : rd (sqs x) i = rd x i * rd x i := by
 unfold rd sqs
 rw [List.getD_eq_getElem?_getD, List.getD_eq_getElem?_getD, List.getElem?_map, List.getElem?_eq_getElem (show i.toNat < x.length by omega)]
 rfl
theorem sqs_bound {x : List Int} (hx : Smp x) : ∀ v ∈ sqs x, -(1000000 : Int) ≤ v ∧ v ≤ 1000000 := by
 intro v hv
 obtain ⟨u, hu, rfl⟩ := List.mem_map.1 hv
 have h := hx u hu
 have := prod_bound (a := u) (b := u) (A := 1000) (B := 1000) h.1 h.2 h.1 h.2
 omega
/-- What the product of a window with itself is. -/
def selfP (x : List Int) : Int := (x.length : Int) * (sqs x).sum - x.sum * x.sum
theorem selfP_bound {x : List Int} (hx : Win x) : -4000000000 ≤ selfP x ∧ selfP x ≤ 4000000000 ∧ -32000000 ≤ (sqs x).sum ∧ (sqs x).sum ≤ 32000000 ∧ -32000 ≤ x.sum ∧ x.sum ≤ 32000 := by
 have x2 := hx.hi
 have b1 := psum_bound (sqs_bound hx.smp) x.length (by rw [sqs_len]; omega)
 have e1 : psum (sqs x) (x.length : Int) = (sqs x).sum := by rw [← sqs_len x]; exact psum_all
 rw [e1] at b1
 have b2 := pc_bounds hx (i := x.length) (by omega) (by omega)
 rw [psum_all] at b2
 have q1 := prod_bound (a := (x.length : Int)) (b := (sqs x).sum) (A := 32) (B := 32000000) (by omega) (by omega) (by omega) (by omega)
 have q2 := prod_bound (a := x.sum) (b := x.sum) (A := 32000) (B := 32000) (by omega) (by omega) (by omega) (by omega)
 unfold selfP
 omega
theorem nm_product {x : List Int} (hx : Win x) : Gives (fun k => T_normal_product k x x) (fun r => r = selfP x) := by
 have x2 := hx.hi
 obtain ⟨p1, p2, p3, p4, p5, p6⟩ := selfP_bound hx
 refine Gives.step ?_
 simp only [T_normal_product]
 refine Gives.bind (Q := fun r => r.1 = (sqs x).sum ∧ r.2.1 = x.sum ∧ r.2.2 = x.sum) ?_ fun r hr => ?_
 · refine Gives.loop (fun s => 0 ≤ s.2.2.2 ∧ s.2.2.2 ≤ (x.length : Int) ∧ s.1 = psum (sqs x) s.2.2.2 ∧ s.2.1 = psum x s.2.2.2 ∧ s.2.2.1 = psum x s.2.2.2) (fun s => ((x.length : Int) - s.2.2.2).toNat) ?_ ⟨by simp only []; omega, by simp only []; omega, (psum_zero _).symm, (psum_zero _).symm, (psum_zero _).symm⟩
   intro ⟨a, b, c, i⟩ ⟨i1, i2, i3, i4, i5⟩
   simp only at i1 i2 i3 i4 i5
   unfold T_normal_product_l1
   simp only []
   refine Gives.ite (fun cc => Gives.opt (at_rd i1 cc) (Gives.opt (at_rd i1 cc) ?_)) fun cc => Gives.now ?_
   · have e1 := psum_succ (x := sqs x) i1 (by rw [sqs_len]; exact cc)
     rw [rd_sqs i1 cc] at e1
     have e2 := psum_succ (x := x) i1 cc
     have b1 := psum_bound (sqs_bound hx.smp) i.toNat (by rw [sqs_len]; omega)
     rw [Int.toNat_of_nonneg i1] at b1
     have b2 := pc_bounds hx i1 (by omega)
     have hs := hx.smp.rd i
     have b3 := prod_bound (a := rd x i) (b := rd x i) (A := 1000) (B := 1000) hs.1 hs.2 hs.1 hs.2
     rw [w64_id (x := rd x i * rd x i) (by omega) (by omega), w64_id (x := a + rd x i * rd x i) (by omega) (by omega), w64_id (x := b + rd x i) (by omega) (by omega), w64_id (x := c + rd x i) (by omega) (by omega), w64_id (x := i + 1) (by omega) (by omega)]
     exact Gives.now ⟨⟨by simp only []; omega, by simp only []; omega, by simp only []; omega, by simp only []; omega, by simp only []; omega⟩, by simp only []; omega⟩
   · have : i = x.length := by omega
     subst this
     have e1 : psum (sqs x) (x.length : Int) = (sqs x).sum := by rw [← sqs_len x]; exact psum_all
     exact ⟨i3.trans e1, i4.trans psum_all, i5.trans psum_all⟩
 · obtain ⟨r1, r2, r3⟩ := hr
   rw [r1, r2, r3]
   have q1 := prod_bound (a := (x.length : Int)) (b := (sqs x).sum) (A := 32) (B := 32000000) (by omega) (by omega) (by omega) (by omega)
   have q2 := prod_bound (a := x.sum) (b := x.sum) (A := 32000) (B := 32000) (by omega) (by omega) (by omega) (by omega)
   rw [w64_id (x := (x.length : Int) * (sqs x).sum) (by omega) (by omega), w64_id (x := x.sum * x.sum) (by omega) (by omega), w64_id (by omega) (by omega)]
   exact Gives.now rfl
theorem nm_Product {x : List Int} (hx : Win x) : Gives (fun k => T_normal_Product k x x) (fun r => r.1 = selfP x ∧ r.2 = 0) := by
 refine Gives.step ?_
 simp only [T_normal_Product]
 exact Gives.bind (eu_distance hx hx rfl) fun e he => Gives.neg (by simp [he]) (Gives.bind (nm_product hx) fun v hv => Gives.now ⟨hv, rfl⟩)
theorem sqs_shift {x z : List Int} {c : Int} (hl : z.length = x.length) (h : ∀ q, 0 ≤ q → q < (x.length : Int) → rd z q = rd x q + c) : ∀ n : Nat, n ≤ x.length → psum (sqs z) n = psum (sqs x) n + 2 * (c * psum x n) + n * (c * c)
 | 0, _ => by simp [psum]
 | n + 1, hn => by
  have ih := sqs_shift hl h n (by omega)
  have e1 := psum_succ (x := sqs x) (i := (n : Int)) (by omega) (by rw [sqs_len]; omega)
  have e2 := psum_succ (x := sqs z) (i := (n : Int)) (by omega) (by rw [sqs_len]; omega)
  have e4 := psum_succ (x := x) (i := (n : Int)) (by omega) (by omega)
  have e3 := h n (by omega) (by omega)
  rw [rd_sqs (by omega) (by omega)] at e1 e2
  have : (((n + 1 : Nat)) : Int) = (n : Int) + 1 := by omega
  rw [this, e1, e2, e3, e4, ih, Int.add_mul (n : Int), Int.one_mul, Int.mul_add c, Int.add_mul, Int.mul_add, Int.mul_add, Int.mul_comm (rd x n) c]
  omega
theorem selfP_shift {x z : List Int} {c : Int} (hl : z.length = x.length) (h : ∀ q, 0 ≤ q → q < (x.length : Int) → rd z q = rd x q + c) : selfP z = selfP x := by
 have a := sqs_shift hl h x.length (Nat.le_refl _)
 have b := psum_shift hl h x.length (Nat.le_refl _)
 have e1 : psum (sqs x) (x.length : Int) = (sqs x).sum := by rw [← sqs_len x]; exact psum_all
 have e2 : psum (sqs z) (x.length : Int) = (sqs z).sum := by rw [← hl, ← sqs_len z]; exact psum_all
 have e3 : psum z (x.length : Int) = z.sum := by rw [← hl]; exact psum_all
 rw [e1, e2, psum_all] at a
 rw [e3, psum_all] at b
 unfold selfP
 rw [hl, a, b]
 generalize (x.length : Int) = L
 generalize x.sum = S
 generalize (sqs x).sum = Q
 have p1 : L * (Q + 2 * (c * S) + L * (c * c)) = L * Q + 2 * (L * (c * S)) + L * (L * (c * c)) := by
  rw [Int.mul_add, Int.mul_add, Int.mul_left_comm L 2]
 have p2 : (S + L * c) * (S + L * c) = S * S + 2 * (L * (c * S)) + L * (L * (c * c)) := by
  rw [Int.add_mul, Int.mul_add, Int.mul_add]
  have q1 : S * (L * c) = L * (c * S) := by rw [Int.mul_comm S, Int.mul_assoc]
  have q2 : L * c * S = L * (c * S) := Int.mul_assoc _ _ _
  have q3 : L * c * (L * c) = L * (L * (c * c)) := by rw [Int.mul_assoc, Int.mul_left_comm c L]
  rw [q1, q2, q3]; omega
 rw [p1, p2]; omega
theorem psum_scale {x z : List Int} {f : Int} (hl : z.length = x.length) (h : ∀ q, 0 ≤ q → q < (x.length : Int) → rd z q = rd x q * f) : ∀ n : Nat, n ≤ x.length → psum z n = psum x n * f
 | 0, _ => by simp [psum]
 | n + 1, hn => by
  have ih := psum_scale hl h n (by omega)
  have e1 := psum_succ (x := x) (i := (n : Int)) (by omega) (by omega)
  have e2 := psum_succ (x := z) (i := (n : Int)) (by omega) (by omega)
  have e3 := h n (by omega) (by omega)
  have : (((n + 1 : Nat)) : Int) = (n : Int) + 1 := by omega
  rw [this, e1, e2, e3, ih, Int.add_mul]
theorem selfP_scale {x z : List Int} {f : Int} (hl : z.length = x.length) (h : ∀ q, 0 ≤ q → q < (x.length : Int) → rd z q = rd x q * f) : selfP z = selfP x * f * f := by
 have a := psum_scale (x := sqs x) (z := sqs z) (f := f * f) (by rw [sqs_len, sqs_len, hl]) (fun q h1 h2 => by
  rw [sqs_len] at h2
  rw [rd_sqs h1 h2, rd_sqs h1 (by omega), h q h1 h2]
  rw [Int.mul_assoc, Int.mul_assoc, Int.mul_left_comm f]) x.length (by rw [sqs_len]; omega)
 have b := psum_scale hl h x.length (Nat.le_refl _)
 have e1 : psum (sqs x) (x.length : Int) = (sqs x).sum := by rw [← sqs_len x]; exact psum_all
 have e2 : psum (sqs z) (x.length : Int) = (sqs z).sum := by rw [← hl, ← sqs_len z]; exact psum_all
 have e3 : psum z (x.length : Int) = z.sum := by rw [← hl]; exact psum_all
 rw [e1, e2] at a
 rw [e3, psum_all] at b
 unfold selfP
 rw [hl, a, b]
 generalize (x.length : Int) = L
 generalize x.sum = S
 generalize (sqs x).sum = Q
 have e4 : S * f * (S * f) = S * S * (f * f) := by rw [Int.mul_assoc, Int.mul_left_comm f, ← Int.mul_assoc]
 rw [e4, Int.mul_assoc (L * Q - S * S) f f, Int.sub_mul, Int.mul_assoc L Q]

/-! Sums over the first places. -/
def sg (f : Int → Int) : Nat → Int
 | 0 => 0
 | n + 1 => sg f n + f n
theorem sg_congr {f g : Int → Int} : ∀ {n : Nat}, (∀ i : Int, 0 ≤ i → i < n → f i = g i) → sg f n = sg g n
 | 0, _ => rfl
 | n + 1, h => by
  rw [sg, sg, sg_congr (n := n) fun i h1 h2 => h i h1 (by omega), h n (by omega) (by omega)]
theorem sg_psum {x : List Int} : ∀ {n : Nat}, n ≤ x.length → sg (rd x) n = psum x n
 | 0, _ => by simp [sg, psum]
 | n + 1, h => by
  have e := psum_succ (x := x) (i := (n : Int)) (by omega) (by omega)
  have : (((n + 1 : Nat)) : Int) = (n : Int) + 1 := by omega
  rw [sg, sg_psum (n := n) (by omega), this, e]
theorem sg_bound {f : Int → Int} {B : Int} : ∀ {n : Nat}, (∀ i : Int, 0 ≤ i → i < n → -B ≤ f i ∧ f i ≤ B) → -(B * n) ≤ sg f n ∧ sg f n ≤ B * n
 | 0, _ => by simp [sg]
 | n + 1, h => by
  have ih := sg_bound (n := n) fun i h1 h2 => h i h1 (by omega)
  have hb := h n (by omega) (by omega)
  have : (((n + 1 : Nat)) : Int) = (n : Int) + 1 := by omega
  rw [sg, this, Int.mul_add, Int.mul_one]
  omega
theorem sg_nonneg {f : Int → Int} : ∀ {n : Nat}, (∀ i : Int, 0 ≤ i → i < n → 0 ≤ f i) → 0 ≤ sg f n
 | 0, _ => by simp [sg]
 | n + 1, h => by
  have ih := sg_nonneg (n := n) fun i h1 h2 => h i h1 (by omega)
  have hb := h n (by omega) (by omega)
  rw [sg]; omega
theorem sg_cent (a b : Int → Int) (L S T : Int) : ∀ n : Nat, sg (fun i => (L * a i - S) * (L * b i - T)) n = L * L * sg (fun i => a i * b i) n - L * T * sg a n - L * S * sg b n + n * (S * T)
 | 0 => by simp [sg]
 | n + 1 => by
  have ih := sg_cent a b L S T n
  have : (((n + 1 : Nat)) : Int) = (n : Int) + 1 := by omega
  rw [sg, sg, sg, sg, ih, this]
  grind
theorem sg_quad (u v : Int → Int) (A B : Int) : ∀ n : Nat, sg (fun i => (A * v i - B * u i) * (A * v i - B * u i)) n = A * A * sg (fun i => v i * v i) n - 2 * (A * B * sg (fun i => u i * v i) n) + B * B * sg (fun i => u i * u i) n
 | 0 => by simp [sg]
 | n + 1 => by
  have ih := sg_quad u v A B n
  rw [sg, sg, sg, sg, ih]
  grind
theorem sq_nonneg (a : Int) : 0 ≤ a * a := by
 rcases Int.le_total 0 a with h | h
 · exact Int.mul_nonneg h h
 · exact Int.mul_nonneg_of_nonpos_of_nonpos h h
/-- The inequality of Cauchy and Schwarz. -/
theorem sg_cs (u v : Int → Int) (n : Nat) : sg (fun i => u i * v i) n * sg (fun i => u i * v i) n ≤ sg (fun i => u i * u i) n * sg (fun i => v i * v i) n := by
 obtain ⟨A, hA⟩ : ∃ A, A = sg (fun i => u i * u i) n := ⟨_, rfl⟩
 obtain ⟨B, hB⟩ : ∃ B, B = sg (fun i => u i * v i) n := ⟨_, rfl⟩
 obtain ⟨C, hC⟩ : ∃ C, C = sg (fun i => v i * v i) n := ⟨_, rfl⟩
 rw [← hA, ← hB, ← hC]
 have hA0 : 0 ≤ A := by rw [hA]; exact sg_nonneg fun i _ _ => sq_nonneg _
 have hC0 : 0 ≤ C := by rw [hC]; exact sg_nonneg fun i _ _ => sq_nonneg _
 have q : ∀ s t : Int, 0 ≤ s * s * C - 2 * (s * t * B) + t * t * A := fun s t => by
  rw [hA, hB, hC, ← sg_quad u v s t n]
  exact sg_nonneg fun i _ _ => sq_nonneg _
 have q1 := q A B
 have q2 := q B C
 have q3 := q 1 1
 have q4 := q 1 (-1)
 have e1 : A * A * C - 2 * (A * B * B) + B * B * A = A * (A * C - B * B) := by grind
 have e2 : B * B * C - 2 * (B * C * B) + C * C * A = C * (A * C - B * B) := by grind
 rw [e1] at q1
 rw [e2] at q2
 by_cases h1 : 0 < A
 · have := Int.nonneg_of_mul_nonneg_right q1 h1
   omega
 · by_cases h2 : 0 < C
   · have := Int.nonneg_of_mul_nonneg_right q2 h2
     omega
   · have a0 : A = 0 := by omega
     have c0 : C = 0 := by omega
     subst a0 c0
     have : B = 0 := by omega
     subst this
     simp
/-! What two windows' product is. -/
def prodP (x y : List Int) : Int := (x.length : Int) * sg (fun i => rd x i * rd y i) x.length - x.sum * y.sum
theorem cent_sum {x y : List Int} (hl : x.length = y.length) : sg (fun i => ((x.length : Int) * rd x i - x.sum) * ((x.length : Int) * rd y i - y.sum)) x.length = (x.length : Int) * prodP x y := by
 have e1 : sg (rd x) x.length = x.sum := by rw [sg_psum (Nat.le_refl _)]; exact psum_all
 have e2 : sg (rd y) x.length = y.sum := by rw [hl, sg_psum (Nat.le_refl _)]; exact psum_all
 rw [sg_cent, e1, e2]
 unfold prodP
 grind
theorem prodP_nonneg {x : List Int} (h : 0 < x.length) : 0 ≤ prodP x x := by
 have e := cent_sum (x := x) (y := x) rfl
 have : 0 ≤ (x.length : Int) * prodP x x := by rw [← e]; exact sg_nonneg fun i _ _ => sq_nonneg _
 exact Int.nonneg_of_mul_nonneg_right this (by omega)
theorem prodP_cs {x y : List Int} (hl : x.length = y.length) (h : 0 < x.length) : prodP x y * prodP x y ≤ prodP x x * prodP y y := by
 have c := sg_cs (fun i => (x.length : Int) * rd x i - x.sum) (fun i => (x.length : Int) * rd y i - y.sum) x.length
 have e1 := cent_sum (x := x) (y := x) rfl
 have e2 := cent_sum hl
 have e3 := cent_sum (x := y) (y := y) rfl
 rw [← hl] at e3
 rw [e1, e2, e3] at c
 generalize prodP x y = p at c ⊢
 generalize prodP x x = q at c ⊢
 generalize prodP y y = r at c ⊢
 have hL : 0 < (x.length : Int) := by omega
 generalize (x.length : Int) = L at c hL
 have : 0 ≤ L * (L * (q * r - p * p)) := by
  have : L * (L * (q * r - p * p)) = L * q * (L * r) - L * p * (L * p) := by grind
  omega
 have := Int.nonneg_of_mul_nonneg_right (Int.nonneg_of_mul_nonneg_right this hL) hL
 omega

theorem selfP_prod {x : List Int} : selfP x = prodP x x := by
 have e : sg (fun i => rd x i * rd x i) x.length = (sqs x).sum := by
  rw [← psum_all (x := sqs x), sqs_len, ← sg_psum (by rw [sqs_len]; exact Nat.le_refl _)]
  exact sg_congr fun i h1 h2 => (rd_sqs h1 h2).symm
 unfold selfP prodP
 rw [e]

/-! The lengths of pieces, and what they all divide. -/
theorem len_fin : ∀ m : Fin 33, ∀ n : Fin 9, ∀ p : Fin 8, 1 ≤ n.val → p.val < n.val → n.val ≤ m.val → ((p.val + 1) * m.val / n.val - p.val * m.val / n.val = m.val / n.val ∨ (p.val + 1) * m.val / n.val - p.val * m.val / n.val = m.val / n.val + 1) := by decide +kernel
/-- What all lengths of pieces divide. -/
def mm (m n : Nat) : Nat := (m / n) * (m / n + 1)
/-- How often a piece's length goes into it. -/
def wt (m n : Nat) (p : Int) : Nat := mm m n / (cut m n (p + 1) - cut m n p).toNat
theorem wt_ok {m n : Nat} {p : Int} (hm : m ≤ 32) (hn : 1 ≤ n) (hn2 : n ≤ 8) (hn3 : n ≤ m) (h0 : 0 ≤ p) (h1 : p < (n : Int)) :
 (cut m n (p + 1) - cut m n p).toNat * wt m n p = mm m n ∧ wt m n p ≤ 33 ∧ 1 ≤ cut m n (p + 1) - cut m n p ∧ cut m n (p + 1) - cut m n p ≤ 32 ∧ 0 < mm m n ∧ mm m n ≤ 1056 := by
 obtain ⟨q, rfl⟩ : ∃ q : Nat, p = q := ⟨p.toNat, by omega⟩
 have dl : cut m n ((q : Int) + 1) - cut m n (q : Int) ≤ 32 := by
  have a := cut_range (m := m) (n := n) (p := (q : Int) + 1) (by omega) (by omega) (by omega) (by omega)
  have b := cut_range (m := m) (n := n) (p := (q : Int)) (by omega) (by omega) (by omega) (by omega)
  omega
 have f := len_fin ⟨m, by omega⟩ ⟨n, by omega⟩ ⟨q, by omega⟩ hn (by simp only []; omega) hn3
 simp only [] at f
 have e1 : cut (m : Int) n ((q : Int) + 1) = (((q + 1) * m / n : Nat) : Int) := by
  unfold cut
  have : ((q : Int) + 1) * m = (((q + 1) * m : Nat) : Int) := by simp
  rw [this]; rfl
 have e2 : cut (m : Int) n (q : Int) = ((q * m / n : Nat) : Int) := by
  unfold cut
  have : (q : Int) * m = ((q * m : Nat) : Int) := by simp
  rw [this]; rfl
 have d0 : 1 ≤ m / n := Nat.div_pos hn3 hn
 have d1 : m / n ≤ 32 := Nat.le_trans (Nat.div_le_self _ _) hm
 have mono : q * m / n ≤ (q + 1) * m / n := Nat.div_le_div_right (Nat.mul_le_mul_right m (by omega))
 unfold wt mm
 rw [e1, e2] at dl ⊢
 generalize (q + 1) * m / n = c1 at f mono dl ⊢
 generalize q * m / n = c0 at f mono dl ⊢
 generalize m / n = a at f d0 d1 ⊢
 have el : ((c1 : Int) - (c0 : Int)).toNat = c1 - c0 := by omega
 rw [el]
 have hb : a * (a + 1) ≤ 32 * 33 := Nat.mul_le_mul d1 (by omega)
 have hb0 : 0 < a * (a + 1) := Nat.mul_pos d0 (by omega)
 rcases f with f | f
 · rw [f, Nat.mul_div_cancel_left _ d0]
   refine ⟨rfl, by omega, by omega, by omega, hb0, by omega⟩
 · rw [f, Nat.mul_comm a (a + 1), Nat.mul_div_cancel_left _ (by omega)]
   refine ⟨rfl, by omega, by omega, by omega, by rw [Nat.mul_comm]; exact hb0, by rw [Nat.mul_comm]; omega⟩
/-- The sum of squares, each as often as its piece goes into what all divide. -/
def TT (d : Int → Int) (w : Int → Nat) : Nat → Nat
 | 0 => 0
 | n + 1 => TT d w n + (d n * d n).toNat * w n
theorem TT_congr {d d' : Int → Int} {w : Int → Nat} : ∀ {n : Nat}, (∀ p : Int, 0 ≤ p → p < n → d p * d p = d' p * d' p) → TT d w n = TT d' w n
 | 0, _ => rfl
 | n + 1, h => by rw [TT, TT, TT_congr (n := n) fun p h1 h2 => h p h1 (by omega), h n (by omega) (by omega)]
theorem TT_bound {d : Int → Int} {w : Int → Nat} : ∀ {n : Nat}, (∀ p : Int, 0 ≤ p → p < n → -6300000 ≤ d p ∧ d p ≤ 6300000 ∧ w p ≤ 33) → TT d w n ≤ 1309770000000000 * n
 | 0, _ => by simp [TT]
 | n + 1, h => by
  have ih := TT_bound (n := n) fun p h1 h2 => h p h1 (by omega)
  obtain ⟨h1, h2, h3⟩ := h n (by omega) (by omega)
  have b := prod_bound (a := d n) (b := d n) (A := 6300000) (B := 6300000) h1 h2 h1 h2
  have : (d n * d n).toNat * w n ≤ 39690000000000 * 33 := Nat.mul_le_mul (by omega) h3
  rw [TT]; omega

/-- The sum of a piece, and the centred one. -/
def pcs (x : List Int) (n p : Int) : Int := psum x (cut x.length n (p + 1)) - psum x (cut x.length n p)
def pcc (x : List Int) (n p : Int) : Int := (x.length : Int) * pcs x n p - (cut x.length n (p + 1) - cut x.length n p) * x.sum
theorem pcs_bound {x : List Int} {n p : Int} (hx : Win x) (hn : 1 ≤ n) (h0 : 0 ≤ p) (h1 : p < n) : -64000 ≤ pcs x n p ∧ pcs x n p ≤ 64000 := by
 have k1 := cut_range (m := (x.length : Int)) hn (by omega) h0 (by omega)
 have k2 := cut_range (m := (x.length : Int)) (p := p + 1) hn (by omega) (by omega) (by omega)
 have b1 := pc_bounds hx k1.1 k1.2
 have b2 := pc_bounds hx k2.1 k2.2
 unfold pcs
 omega
theorem pcc_bound {x : List Int} {n p : Int} (hx : Win x) (hn : 1 ≤ n) (h0 : 0 ≤ p) (h1 : p < n) : -3120000 ≤ pcc x n p ∧ pcc x n p ≤ 3120000 := by
 have k1 := cut_range (m := (x.length : Int)) hn (by omega) h0 (by omega)
 have k2 := cut_range (m := (x.length : Int)) (p := p + 1) hn (by omega) (by omega) (by omega)
 have b0 := pcs_bound hx hn h0 h1
 have b1 := pc_bounds hx (i := x.length) (by omega) (by omega)
 have x1 := hx.hi
 rw [psum_all] at b1
 have q1 := prod_bound (a := (x.length : Int)) (b := pcs x n p) (A := 32) (B := 64000) (by omega) (by omega) (by omega) (by omega)
 have q2 := prod_bound (a := cut x.length n (p + 1) - cut x.length n p) (b := x.sum) (A := 32) (B := 32000) (by omega) (by omega) (by omega) (by omega)
 unfold pcc
 omega

/-! Errors of windows of any kind. -/
theorem Gives.get {α : Type} {f : Nat → Option α} {Q : α → Prop} (h : Gives f Q) : ∃ v, Gives f (· = v) ∧ Q v := by
 obtain ⟨r, h1, h2⟩ := h
 exact ⟨r, ⟨r, h1, rfl⟩, h2⟩
theorem at_mem {α : Type} {xs : List α} {i : Int} (h0 : 0 ≤ i) (h1 : i < (xs.length : Int)) : ∃ v, at? xs i = some v ∧ v ∈ xs := by
 have h : i.toNat < xs.length := by omega
 exact ⟨xs[i.toNat], by unfold at?; rw [if_pos h0, List.getElem?_eq_getElem h], List.getElem_mem h⟩
def smpB (xs : List Int) : Bool := xs.all fun v => decide (-1000 ≤ v ∧ v ≤ 1000)
theorem smpB_iff {xs : List Int} : smpB xs = true ↔ Smp xs := by
 unfold smpB Smp
 rw [List.all_eq_true]
 exact ⟨fun h v hv => by simpa using h v hv, fun h v hv => by simpa using h v hv⟩
theorem smp_of_rd {xs : List Int} (h : ∀ q, 0 ≤ q → q < (xs.length : Int) → -1000 ≤ rd xs q ∧ rd xs q ≤ 1000) : Smp xs := by
 intro v hv
 obtain ⟨i, hi, rfl⟩ := List.getElem_of_mem hv
 have e : rd xs (i : Int) = xs[i] := by unfold rd; rw [List.getD_eq_getElem?_getD]; simp [hi]
 rw [← e]
 exact h i (by omega) (by omega)
def lenB (xs : List Int) : Bool := decide (2 ≤ xs.length) && decide (xs.length ≤ 32)
/-- The first error of two windows and a band. -/
def errM (xs ys : List Int) (m : Int) : Int :=
 if (lenB xs && lenB ys) = true then if (smpB xs && smpB ys) = true then if (xs.length : Int) - ys.length ≤ m ∧ (ys.length : Int) - xs.length ≤ m then 0 else 8 else 12 else 8
theorem errM_zero {xs ys : List Int} {m : Int} (h : errM xs ys m = 0) : Win xs ∧ Win ys ∧ (xs.length : Int) - ys.length ≤ m ∧ (ys.length : Int) - xs.length ≤ m := by
 unfold errM at h
 split at h
 · rename_i h1
   split at h
   · rename_i h2
     split at h
     · rename_i h3
       simp only [lenB, Bool.and_eq_true, decide_eq_true_eq] at h1
       simp only [Bool.and_eq_true, smpB_iff] at h2
       exact ⟨⟨h1.1.1, h1.1.2, h2.1⟩, ⟨h1.2.1, h1.2.2, h2.2⟩, h3.1, h3.2⟩
     · cases h
   · cases h
 · cases h
theorem errM_win {xs ys : List Int} {m : Int} (hx : Win xs) (hy : Win ys) (h1 : (xs.length : Int) - ys.length ≤ m) (h2 : (ys.length : Int) - xs.length ≤ m) : errM xs ys m = 0 := by
 have a1 := hx.lo
 have a2 := hx.hi
 have b1 := hy.lo
 have b2 := hy.hi
 unfold errM
 rw [if_pos (by simp [lenB]; omega), if_pos (by rw [smpB_iff.2 hx.smp, smpB_iff.2 hy.smp]; rfl), if_pos ⟨h1, h2⟩]
theorem errM_self {xs ys : List Int} {m : Int} (h : errM xs ys m = 0) : errM xs xs 0 = 0 ∧ errM ys ys 0 = 0 := by
 obtain ⟨a, b, _⟩ := errM_zero h
 exact ⟨errM_win a a (by omega) (by omega), errM_win b b (by omega) (by omega)⟩
theorem eu_samplesG {xs : List Int} (hl : xs.length ≤ 1000) : Gives (fun k => T_euclid_samples k xs) (· = smpB xs) := by
 refine Gives.step ?_
 simp only [T_euclid_samples]
 refine Gives.bind (Q := fun r => (r = .inl () ∧ smpB xs = true) ∨ (r = .inr () ∧ smpB xs = false)) ?_ fun r hr => ?_
 · refine Gives.loop (fun s => 0 ≤ s ∧ s ≤ (xs.length : Int) ∧ ∀ q, 0 ≤ q → q < s → -1000 ≤ rd xs q ∧ rd xs q ≤ 1000) (fun s => ((xs.length : Int) - s).toNat) ?_ ⟨by omega, by omega, fun q h1 h2 => by omega⟩
   intro s ⟨i1, i2, i3⟩
   unfold T_euclid_samples_l1
   refine Gives.ite (fun c => Gives.opt (at_rd i1 c) (Gives.ite (fun b => Gives.now (.inr ⟨rfl, ?_⟩)) fun b => ?_)) fun c => Gives.now (.inl ⟨rfl, smpB_iff.2 (smp_of_rd fun q h1 h2 => i3 q h1 (by omega))⟩)
   · rcases e : smpB xs with _ | _
     · rfl
     · have := (smpB_iff.1 e).rd s
       simp only [Bool.or_eq_true, decide_eq_true_eq] at b
       omega
   · simp only [Bool.or_eq_true, decide_eq_true_eq] at b
     rw [w64_id (by omega) (by omega)]
     refine Gives.now ⟨⟨by omega, by omega, fun q h1 h2 => ?_⟩, by omega⟩
     by_cases e : q = s
     · subst e; omega
     · exact i3 q h1 (by omega)
 · rcases hr with ⟨rfl, h⟩ | ⟨rfl, h⟩
   · exact Gives.now h.symm
   · exact Gives.now h.symm
theorem eu_checkG {xs ys : List Int} (hx : xs.length ≤ 1000) (hy : ys.length ≤ 1000) : Gives (fun k => T_euclid_check k xs ys) (· = errM xs ys 0) := by
 refine Gives.step ?_
 simp only [T_euclid_check]
 refine Gives.bind (Q := fun b => b = !(lenB xs && lenB ys)) ?_ fun b hb => ?_
 · refine Gives.bind (eu_len xs) fun _ _ => Gives.ite (fun c => Gives.now ?_) fun c => Gives.bind (eu_len ys) fun _ _ => Gives.now ?_
   · have : lenB xs = false := by
      unfold lenB
      simp at c ⊢; omega
     rw [this]; rfl
   · have : lenB xs = true := by
      unfold lenB
      simp at c ⊢; omega
     rw [this, Bool.true_and]
     unfold lenB
     congr 2
     · simp; omega
     · simp; omega
 subst hb
 refine Gives.ite (fun c => Gives.now ?_) fun c => ?_
 · unfold errM
   rw [if_neg (by intro hh; rw [hh] at c; cases c)]
 · refine Gives.bind (Q := fun b => b = !(smpB xs && smpB ys)) ?_ fun b hb => ?_
   · refine Gives.bind (eu_samplesG hx) fun u hu => ?_
     subst hu
     refine Gives.ite (fun d => Gives.now ?_) fun d => Gives.bind (eu_samplesG hy) fun u hu => Gives.now ?_
     · have : smpB xs = false := by simpa using d
       rw [this]; rfl
     · have : smpB xs = true := by simpa using d
       rw [this, hu]; rfl
   subst hb
   have c' : (lenB xs && lenB ys) = true := by simpa using c
   refine Gives.ite (fun d => Gives.now ?_) fun d => ?_
   · unfold errM
     rw [if_pos c', if_neg (by intro hh; rw [hh] at d; cases d)]
   · have d' : (smpB xs && smpB ys) = true := by simpa using d
     refine Gives.ite (fun e => Gives.now ?_) fun e => Gives.now ?_
     · unfold errM
       rw [if_pos c', if_pos d', if_neg (by simp at e; omega)]
     · unfold errM
       rw [if_pos c', if_pos d', if_pos (by simp at e; omega)]
theorem eu_distanceG {xs ys : List Int} (hx : xs.length ≤ 1000) (hy : ys.length ≤ 1000) : Gives (fun k => T_euclid_Distance k xs ys) (fun r => r.2 = errM xs ys 0) := by
 by_cases h : errM xs ys 0 = 0
 · obtain ⟨a, b, c, d⟩ := errM_zero h
   exact Gives.mono (eu_distance a b (by omega)) fun r hr => by rw [hr, h]
 · refine Gives.step ?_
   simp only [T_euclid_Distance]
   refine Gives.bind (eu_checkG hx hy) fun e he => ?_
   subst he
   exact Gives.pos (by simpa using h) (Gives.now rfl)
theorem errM_diag (x : List Int) : errM x x 0 = if lenB x = true then if smpB x = true then 0 else 12 else 8 := by
 unfold errM
 rw [Bool.and_self, Bool.and_self, if_pos (show (x.length : Int) - x.length ≤ 0 ∧ (x.length : Int) - x.length ≤ 0 by omega)]

/-! Roots and quotients by roots. -/
theorem rt_floorG {v : Int} (h0 : 0 ≤ v) (h1 : v ≤ 4611686018427387904) : Gives (fun k => T_root_Floor k v) (fun r => 0 ≤ r ∧ r ≤ 2147483648 ∧ r * r ≤ v ∧ v < (r + 1) * (r + 1)) := by
 have small : ∀ r : Int, 0 ≤ r → r * r ≤ v → r ≤ 2147483648 := fun r r0 r1 => by
  refine Decidable.byContradiction fun hn => ?_
  have := Int.mul_le_mul (a := 2147483649) (b := 2147483649) (c := r) (d := r) (by omega) (by omega) (by omega) (by omega)
  omega
 refine Gives.step ?_
 simp only [T_root_Floor]
 refine Gives.neg (by simp; omega) (Gives.bind (Q := fun r => 0 ≤ r ∧ r ≤ 2147483648 ∧ r * r ≤ v ∧ v < (r + 1) * (r + 1)) ?_ fun r hr => Gives.now hr)
 refine Gives.loop (fun s => ∃ k : Nat, s.2 = ((2 ^ k / 2 : Nat) : Int) ∧ k ≤ 32 ∧ 0 ≤ s.1 ∧ s.1 + ((2 ^ k : Nat) : Int) ≤ 4294967296 ∧ (k = 32 ∨ s.1 + ((2 ^ k : Nat) : Int) ≤ 2147483648) ∧ s.1 * s.1 ≤ v ∧ v < (s.1 + (2 ^ k : Nat)) * (s.1 + (2 ^ k : Nat))) (fun s => s.2.toNat) ?_ ⟨32, by decide, by omega, by simp only []; omega, by simp only []; omega, .inl rfl, by simp only []; omega, by simp only []; omega⟩
 intro ⟨r, b⟩ ⟨k, e, hk, r0, rb, rc, r1, r2⟩
 simp only at e r0 rb rc r1 r2
 have rs := small r r0 r1
 unfold T_root_Floor_l1
 simp only []
 cases k with
 | zero =>
  simp at e
  subst e
  refine Gives.neg (by omega) (Gives.now ⟨r0, rs, r1, by simpa using r2⟩)
 | succ k =>
  have p : 2 ^ (k + 1) = 2 * 2 ^ k := by rw [Nat.pow_succ, Nat.mul_comm]
  have p0 : 0 < 2 ^ k := Nat.pow_pos (by omega)
  have p1 : 2 ^ k ≤ 2 ^ 31 := Nat.pow_le_pow_right (by omega) (by omega)
  rw [p] at e r2 rb rc
  have pk : k + 1 = 32 → 2 ^ k = 2147483648 := fun h => by rw [show k = 31 by omega]
  obtain ⟨w, hw⟩ : ∃ w, 2 ^ k = w := ⟨_, rfl⟩
  rw [hw] at e r2 p0 p1 rb rc pk
  have e2 : b = w := by rw [e]; omega
  subst e2
  have rw1 : r + w ≤ 2147483648 := by
   rcases rc with rc | rc
   · have := pk rc; omega
   · omega
  have q := prod_bound (a := r + w) (b := r + w) (A := 2147483648) (B := 2147483648) (by omega) (by omega) (by omega) (by omega)
  rw [w64_id (x := r + w) (by omega) (by omega), w64_id (x := (r + w) * (r + w)) (by omega) (by omega)]
  refine Gives.pos (by omega) (Gives.ite (fun c => Gives.now ?_) fun c => ?_)
  · have : (r + w + 1) * (r + w + 1) = (r + w) * (r + w) + (r + w) + (r + w) + 1 := by grind
    exact ⟨by omega, small _ (by omega) (by omega), by omega, by omega⟩
  · have ed : (w : Int).fdiv (2 ^ 1) = ((w / 2 : Nat) : Int) := by
     rw [Int.fdiv_eq_ediv_of_nonneg _ (by omega)]; rfl
    rw [ed]
    have nk : k = 31 → v < (r + w) * (r + w) → r + w ≤ 2147483648 := fun _ _ => rw1
    refine Gives.bind (Q := fun (t : Int) => 0 ≤ t ∧ t + (w : Int) ≤ 2147483648 ∧ t * t ≤ v ∧ v < (t + (w : Int)) * (t + (w : Int))) ?_ fun t ht => Gives.now ?_
    · refine Gives.ite (fun c2 => Gives.now ⟨by omega, ?_, by omega, ?_⟩) fun c2 => Gives.now ⟨r0, rw1, r1, by omega⟩
      · rcases rc with rc | rc
        · exfalso
          have h31 := pk rc
          have : r = 0 := by omega
          subst this
          have e4 : ((w : Int)) = 2147483648 := by omega
          rw [e4] at c c2
          omega
        · omega
      · have : r + w + (w : Int) = r + ((2 * w : Nat) : Int) := by omega
        rw [this]; exact r2
    · refine ⟨⟨k, by rw [hw], by omega, ht.1, by rw [hw]; have := ht.2.1; omega, .inr (by rw [hw]; exact ht.2.1), ht.2.2.1, by rw [hw]; exact ht.2.2.2⟩, ?_⟩
      simp only []
      omega
theorem rf_ok {v : Int} (h : 0 ≤ v ∧ v ≤ 4611686018427387904) : ∃ r, Gives (fun k => T_root_Floor k v) (· = r) ∧ 0 ≤ r ∧ r ≤ 2147483648 ∧ r * r ≤ v ∧ v < (r + 1) * (r + 1) := by
 obtain ⟨r, ⟨K, hK⟩, hr⟩ := rt_floorG h.1 h.2
 exact ⟨r, ⟨r, ⟨K, hK⟩, rfl⟩, hr⟩
/-- The root, rounded down. -/
noncomputable def rtf (v : Int) : Int := if h : 0 ≤ v ∧ v ≤ 4611686018427387904 then Classical.choose (rf_ok h) else 0
theorem rt_rtf {v : Int} (h0 : 0 ≤ v) (h1 : v ≤ 4611686018427387904) : Gives (fun k => T_root_Floor k v) (· = rtf v) ∧ 0 ≤ rtf v ∧ rtf v ≤ 2147483648 ∧ rtf v * rtf v ≤ v ∧ v < (rtf v + 1) * (rtf v + 1) := by
 unfold rtf
 rw [dif_pos ⟨h0, h1⟩]
 exact Classical.choose_spec (rf_ok ⟨h0, h1⟩)
/-- What Quotient answers. -/
noncomputable def QQ (t e : Int) : Int := if 0 ≤ t then rtf (t * t / e) else -(if rtf (t * t / e) * rtf (t * t / e) * e < t * t then rtf (t * t / e) + 1 else rtf (t * t / e))
theorem rq {t e : Int} (h : -2147483648 ≤ t ∧ t ≤ 2147483648 ∧ 1 ≤ e ∧ e ≤ 4611686018427387904) : Gives (fun k => T_root_Quotient k t e) (fun r => r = (QQ t e, 0)) ∧ -2147483649 ≤ QQ t e ∧ QQ t e ≤ 2147483649 := by
 obtain ⟨t0, t1, e0, e1⟩ := h
 have z := sq_nonneg t
 have q := prod_bound (a := t) (b := t) (A := 2147483648) (B := 2147483648) t0 t1 t0 t1
 have v0 : 0 ≤ t * t / e := Int.ediv_nonneg z (by omega)
 have v1 : t * t / e ≤ t * t := Int.ediv_le_self _ z
 have v2 := Int.mul_ediv_self_le (x := t * t) (k := e) (by omega)
 obtain ⟨g, r0, r1, r2, r3⟩ := rt_rtf v0 (by omega)
 unfold QQ
 generalize rtf (t * t / e) = r at *
 have rr := sq_nonneg r
 have m : r * r * e ≤ t * t / e * e := Int.mul_le_mul_of_nonneg_right r2 (by omega)
 have m0 := Int.mul_nonneg rr (show 0 ≤ e by omega)
 rw [Int.mul_comm (t * t / e) e] at m
 refine ⟨?_, ?_⟩
 · refine Gives.step ?_
   simp only [T_root_Quotient]
   refine Gives.neg (by simp; omega) (Gives.pos (by omega) ?_)
   rw [w64_id (x := t * t) (by omega) (by omega), Int.tdiv_eq_ediv_of_nonneg z, w64_id (x := t * t / e) (by omega) (by omega)]
   refine Gives.bind g fun r' hr' => ?_
   subst hr'
   refine Gives.ite (fun c => Gives.now (by rw [if_pos c])) fun c => ?_
   rw [if_neg c, w64_id (x := r' * r') (by omega) (by omega), w64_id (x := r' * r' * e) (by omega) (by omega), w64_id (x := r' + 1) (by omega) (by omega)]
   refine Gives.bind (Q := fun u => u = if r' * r' * e < t * t then r' + 1 else r') (Gives.ite (fun d => Gives.now (by rw [if_pos d])) fun d => Gives.now (by rw [if_neg d])) fun u hu => Gives.now ?_
   have ub : 0 ≤ u ∧ u ≤ 2147483649 := by
    rw [hu]
    split <;> omega
   rw [w64_id (x := 0 - u) (by omega) (by omega), ← hu, Int.zero_sub]
 · split
   · omega
   · split <;> omega

/-! Sums of pieces, as rows of one's own. -/
theorem pc_sumsO {x : List Int} {n : Int} (hx : Win x) (hn : 1 ≤ n) (hn2 : n ≤ 8) (hn3 : n ≤ (x.length : Int)) :
 Gives (fun k => T_pieces_Sums k x n) (fun r => (r.1 : Int) = n ∧ r.2.1 = 0 ∧ r.2.2.length = r.1 ∧ ∀ p, 0 ≤ p → p < n → rd r.2.2 p = pcs x n p) := by
 have x2 := hx.hi
 refine Gives.step ?_
 simp only [T_pieces_Sums]
 refine Gives.bind (pc_check hx hn hn2 hn3) fun e he => ?_
 subst he
 refine Gives.neg (by simp) (Gives.pos (by unfold LIM; omega) (Gives.bind (pc_all _ _) fun _ _ => ?_))
 refine Gives.bind (Gives.rangeT (m := (x.length : Int)) (n := n) hn hn2 (by omega) (by omega) (fun p s => s.length = n.toNat ∧ ∀ q, 0 ≤ q → q < p → rd s q = pcs x n q) ?_ ⟨by simp, fun q h1 h2 => by omega⟩) fun r hr => ?_
 · intro p s h0 h1 ⟨i1, i2⟩
   obtain ⟨c1, c2, c3, c4⟩ := pc_part hx hn h0 h1
   unfold T_pieces_Sums_r1
   refine Gives.pos (by omega) (Gives.bind c4 fun v hv => Gives.pos (by omega) (Gives.now ⟨_, rfl, by simp [i1], fun q h2 h3 => ?_⟩))
   by_cases c : q = p
   · subst c; rw [rd_set_eq h2 (by omega)]; exact hv
   · rw [rd_set_ne h0 h2 (by omega)]; exact i2 q h2 (by omega)
 · obtain ⟨s', rfl, k1, k2⟩ := hr
   exact Gives.now ⟨by simp only []; omega, rfl, k1, k2⟩
theorem pc_centredO {x : List Int} {n : Int} (hx : Win x) (hn : 1 ≤ n) (hn2 : n ≤ 8) (hn3 : n ≤ (x.length : Int)) :
 Gives (fun k => T_pieces_Centred k x n) (fun r => (r.1 : Int) = n ∧ r.2.1 = 0 ∧ r.2.2.length = r.1 ∧ ∀ p, 0 ≤ p → p < n → rd r.2.2 p = pcc x n p) := by
 have x2 := hx.hi
 refine Gives.step ?_
 simp only [T_pieces_Centred]
 refine Gives.bind (pc_check hx hn hn2 hn3) fun e he => ?_
 subst he
 refine Gives.neg (by simp) (Gives.bind (pc_total hx.smp hx.hi) fun t ht => Gives.pos (by unfold LIM; omega) (Gives.bind (pc_all _ _) fun _ _ => ?_))
 subst ht
 refine Gives.bind (Gives.rangeT (m := (x.length : Int)) (n := n) hn hn2 (by omega) (by omega) (fun p s => s.length = n.toNat ∧ ∀ q, 0 ≤ q → q < p → rd s q = pcc x n q) ?_ ⟨by simp, fun q h1 h2 => by omega⟩) fun r hr => ?_
 · intro p s h0 h1 ⟨i1, i2⟩
   obtain ⟨c1, c2, c3, c4⟩ := pc_part hx hn h0 h1
   unfold T_pieces_Centred_r1
   refine Gives.pos (by omega) (Gives.bind c4 fun v hv => Gives.pos (by omega) ?_)
   have b1 := pc_bounds hx (i := cut x.length n (p + 1)) (by omega) c3
   have b2 := pc_bounds hx (i := cut x.length n p) c1 (by omega)
   have b3 := pc_bounds hx (i := x.length) (by omega) (by omega)
   rw [psum_all] at b3
   have e1 := prod_bound (a := (x.length : Int)) (b := v) (A := 32) (B := 64000) (by omega) (by omega) (by omega) (by omega)
   have e2 := prod_bound (a := cut x.length n (p + 1) - cut x.length n p) (b := x.sum) (A := 32) (B := 32000) (by omega) (by omega) (by omega) (by omega)
   rw [w64_id (x := (x.length : Int) * v) (by omega) (by omega), w64_id (x := cut x.length n (p + 1) - cut x.length n p) (by omega) (by omega), w64_id (x := (cut x.length n (p + 1) - cut x.length n p) * x.sum) (by omega) (by omega), w64_id (by omega) (by omega)]
   refine Gives.now ⟨_, rfl, by simp [i1], fun q h2 h3 => ?_⟩
   by_cases c : q = p
   · subst c; rw [rd_set_eq h2 (by omega), hv]; rfl
   · rw [rd_set_ne h0 h2 (by omega)]; exact i2 q h2 (by omega)
 · obtain ⟨s', rfl, k1, k2⟩ := hr
   exact Gives.now ⟨by simp only []; omega, rfl, k1, k2⟩

/-! Schemes. -/
structure SchOk (kd bd gp len n : Int) (cuts : List Int) : Prop where
 k1 : 1 ≤ kd
 k2 : kd ≤ 5
 b1 : 0 ≤ bd
 b2 : bd ≤ 32
 b3 : bd = 0 ∨ kd = 4
 g1 : -1000 ≤ gp
 g2 : gp ≤ 1000
 g3 : gp = 0 ∨ kd = 5
 l1 : 2 ≤ len
 l2 : len ≤ 32
 n1 : 1 ≤ n
 n2 : n ≤ 8
 n3 : n ≤ len
 c1 : cuts.length ≤ 15
 c2 : ∀ i, 0 ≤ i → i < (cuts.length : Int) → -2000 ≤ rd cuts i ∧ rd cuts i ≤ 2000
 c3 : ∀ i, 0 < i → i < (cuts.length : Int) → rd cuts (i - 1) < rd cuts i
theorem SchOk.lt {kd bd gp len n : Int} {cuts : List Int} (h : SchOk kd bd gp len n cuts) : ∀ (d : Nat) (i : Int), 0 ≤ i → i + d + 1 < (cuts.length : Int) → rd cuts i < rd cuts (i + d + 1)
 | 0, i, h0, h1 => by
  have := h.c3 (i + 1) (by omega) (by omega)
  rw [show i + 1 - 1 = i by omega] at this
  rw [show i + ((0 : Nat) : Int) + 1 = i + 1 by omega]
  exact this
 | d + 1, i, h0, h1 => by
  have a := SchOk.lt h d i h0 (by omega)
  have b := h.c3 (i + d + 1 + 1) (by omega) (by omega)
  rw [show i + (d : Int) + 1 + 1 - 1 = i + d + 1 by omega] at b
  rw [show i + ((d + 1 : Nat) : Int) + 1 = i + d + 1 + 1 by omega]
  omega
theorem SchOk.le {kd bd gp len n : Int} {cuts : List Int} (h : SchOk kd bd gp len n cuts) {i j : Int} (h0 : 0 ≤ i) (hij : i ≤ j) (h1 : j < (cuts.length : Int)) : rd cuts i ≤ rd cuts j := by
 by_cases e : i = j
 · rw [e]; exact Int.le_refl _
 · have := h.lt (j - i - 1).toNat i h0 (by omega)
   rw [show i + ((j - i - 1).toNat : Int) + 1 = j by omega] at this
   omega
theorem src_measure {L : List Int} {p : Int} (h : SrcOk L p) : Gives (fun k => T_keep_Src_Measure k L p) (fun r => (1 ≤ r.1 ∧ r.1 ≤ 5 ∧ 0 ≤ r.2.1 ∧ r.2.1 ≤ 32 ∧ (r.2.1 = 0 ∨ r.1 = 4) ∧ -1000 ≤ r.2.2.1 ∧ r.2.2.1 ≤ 1000 ∧ (r.2.2.1 = 0 ∨ r.1 = 5)) ∧ SrcOk L r.2.2.2) := by
 refine Gives.step ?_
 simp only [T_keep_Src_Measure]
 refine Gives.bind (src_range h 1 5 (by omega) (by omega) (by omega)) fun a ha => Gives.bind (Q := fun r => (0 ≤ r.2 ∧ r.2 ≤ 32 ∧ (r.2 = 0 ∨ a.1 = 4)) ∧ SrcOk L r.1) ?_ fun b hb => Gives.bind (Q := fun r => (-1000 ≤ r.2 ∧ r.2 ≤ 1000 ∧ (r.2 = 0 ∨ a.1 = 5)) ∧ SrcOk L r.1) ?_ fun c hc => Gives.now ⟨⟨ha.1, ha.2.1, hb.1.1, hb.1.2.1, hb.1.2.2, hc.1⟩, hc.2⟩
 · refine Gives.ite (fun e => Gives.bind (src_pick ha.2.2 _ (by simp) (by simp)) fun v hv => Gives.now ⟨?_, hv.2⟩) fun _ => Gives.now ⟨⟨by simp only []; omega, by simp only []; omega, .inl rfl⟩, ha.2.2⟩
   have m := hv.1
   simp only [List.mem_cons, List.not_mem_nil, or_false] at m
   refine ⟨by simp only []; omega, by simp only []; omega, .inr e⟩
 · refine Gives.ite (fun e => Gives.bind (src_pick hb.2 _ (by simp) (by simp)) fun v hv => Gives.now ⟨?_, hv.2⟩) fun _ => Gives.now ⟨⟨by simp only []; omega, by simp only []; omega, .inl rfl⟩, hb.2⟩
   have m := hv.1
   simp only [List.mem_cons, List.not_mem_nil, or_false] at m
   refine ⟨by simp only []; omega, by simp only []; omega, .inr e⟩
theorem src_cuts {L : List Int} {p : Int} (h : SrcOk L p) : Gives (fun k => T_keep_Src_Cuts k L p) (fun r => (r.1.length ≤ 15 ∧ (∀ i, 0 ≤ i → i < (r.1.length : Int) → -2000 ≤ rd r.1 i ∧ rd r.1 i ≤ 2000) ∧ ∀ i, 0 < i → i < (r.1.length : Int) → rd r.1 (i - 1) < rd r.1 i) ∧ SrcOk L r.2) := by
 refine Gives.step ?_
 simp only [T_keep_Src_Cuts]
 refine Gives.bind (src_pick h _ (by simp) (by simp)) fun a ha => Gives.bind (src_pick ha.2 _ (by simp) (by simp)) fun b hb => Gives.bind (src_n hb.2 16 (by omega) (by omega)) fun c hc => Gives.bind (Q := fun r => r.2.2.length = r.1 ∧ (r.2.2.length ≤ 15 ∧ (∀ i, 0 ≤ i → i < (r.2.2.length : Int) → -2000 ≤ rd r.2.2 i ∧ rd r.2.2 i ≤ 2000) ∧ ∀ i, 0 < i → i < (r.2.2.length : Int) → rd r.2.2 (i - 1) < rd r.2.2 i) ∧ SrcOk L r.2.1) ?_ fun d hd => Gives.now (by rw [drop_take_len hd.1]; exact hd.2)
 have b1 : 1 ≤ b.1 ∧ b.1 ≤ 60 := by
  have := hb.1
  simp at this
  omega
 have a1 : -400 ≤ a.1 ∧ a.1 ≤ 0 := by
  have := ha.1
  simp at this
  omega
 refine Gives.loop (fun t => SrcOk L t.2.2.2.1 ∧ (t.1 : Int) + t.2.2.1 = c.1 ∧ 0 ≤ t.2.2.1 ∧ t.2.2.2.2.length = t.1 ∧ -400 ≤ t.2.1 ∧ t.2.1 ≤ 60 * (t.1 : Int) ∧ (0 < t.1 → rd t.2.2.2.2 ((t.1 : Int) - 1) = t.2.1) ∧ (∀ i, 0 ≤ i → i < (t.1 : Int) → -2000 ≤ rd t.2.2.2.2 i ∧ rd t.2.2.2.2 i ≤ 2000) ∧ ∀ i, 0 < i → i < (t.1 : Int) → rd t.2.2.2.2 (i - 1) < rd t.2.2.2.2 i) (fun t => t.2.2.1.toNat) ?_
  ⟨hc.2.2, by simp only []; omega, by simp only []; omega, rfl, by simp only []; omega, by simp only []; omega, fun h => by simp only at h; omega, fun i h0 h1 => by simp only at h1; omega, fun i h0 h1 => by simp only at h1; omega⟩
 intro ⟨l, v, n, q, o⟩ ⟨i1, i2, i3, i4, i5, i6, i7, i8, i9⟩
 simp only at i1 i2 i3 i4 i5 i6 i7 i8 i9
 unfold T_keep_Src_Cuts_l1
 simp only []
 refine Gives.ite (fun cc => ?_) fun cc => Gives.now ⟨i4, ⟨by simp only []; omega, by simp only [i4]; exact i8, by simp only [i4]; exact i9⟩, i1⟩
 refine Gives.bind (src_range i1 1 b.1 (by omega) (by omega) (by omega)) fun d hd => Gives.pos (by unfold LIM; omega) ?_
 rw [w64_id (x := n - 1) (by omega) (by omega), w64_id (x := v + d.1) (by omega) (by omega), drop_take_len i4]
 refine Gives.now ⟨⟨hd.2.2, by simp only []; omega, by simp only []; omega, by simp [i4], by simp only []; omega, by simp only []; omega, fun _ => ?_, fun i h0 h1 => ?_, fun i h0 h1 => ?_⟩, by simp only []; omega⟩
 · simp only []
   rw [rd_app_1 (by omega) (by omega)]
 · simp only at h1 ⊢
   by_cases e : i = (l : Int)
   · rw [rd_app_1 h0 (by omega)]; omega
   · rw [rd_app_l (by omega)]; exact i8 i h0 (by omega)
 · simp only at h1 ⊢
   by_cases e : i = (l : Int)
   · have e1 : rd (o ++ [v + d.1]) i = v + d.1 := rd_app_1 (by omega) (by omega)
     have e2 : rd (o ++ [v + d.1]) (i - 1) = rd o (i - 1) := rd_app_l (by omega)
     rw [e1, e2, e, i7 (by omega)]; omega
   · have e1 : rd (o ++ [v + d.1]) i = rd o i := rd_app_l (by omega)
     have e2 : rd (o ++ [v + d.1]) (i - 1) = rd o (i - 1) := rd_app_l (by omega)
     rw [e1, e2]; exact i9 i h0 (by omega)
theorem src_scheme {L : List Int} {p : Int} (h : SrcOk L p) : Gives (fun k => T_keep_Src_Scheme k L p) (fun r => SchOk r.1 r.2.1 r.2.2.1 r.2.2.2.1 r.2.2.2.2.1 r.2.2.2.2.2.1 ∧ SrcOk L r.2.2.2.2.2.2) := by
 refine Gives.step ?_
 simp only [T_keep_Src_Scheme]
 refine Gives.bind (src_measure h) fun a ha => Gives.bind (src_length ha.2) fun b hb => ?_
 have e : 1 ≤ imin 8 b.1 ∧ imin 8 b.1 ≤ 8 ∧ imin 8 b.1 ≤ b.1 := by unfold imin; split <;> omega
 refine Gives.bind (src_range hb.2.2 1 (imin 8 b.1) (by omega) (by omega) (by omega)) fun c hc => Gives.bind (src_cuts hc.2.2) fun d hd => Gives.now ⟨?_, hd.2⟩
 obtain ⟨⟨q1, q2, q3, q4, q5, q6, q7, q8⟩, _⟩ := ha
 obtain ⟨⟨d1, d2, d3⟩, _⟩ := hd
 exact ⟨q1, q2, q3, q4, q5, q6, q7, q8, hb.1, hb.2.1, hc.1, by simp only []; omega, by simp only []; omega, d1, d2, d3⟩
/-! Check. -/
theorem ms_name {k : Int} (h1 : 1 ≤ k) (h2 : k ≤ 5) : Gives (fun j => T_measure_name j k) (fun r => (r == (⟨#[]⟩ : ByteArray)) = false) := by
 refine Gives.step ?_
 simp only [T_measure_name]
 refine Gives.ite (fun _ => Gives.now (by decide +kernel)) fun c1 => Gives.ite (fun _ => Gives.now (by decide +kernel)) fun c2 => Gives.ite (fun _ => Gives.now (by decide +kernel)) fun c3 => Gives.ite (fun _ => Gives.now (by decide +kernel)) fun c4 => Gives.ite (fun _ => Gives.now (by decide +kernel)) fun c5 => ?_
 omega
theorem w_check {kd bd gp len n : Int} {cuts : List Int} (h : SchOk kd bd gp len n cuts) : Gives (fun k => T_word_Check k kd bd gp len n cuts) (fun r => r = 0) := by
 obtain ⟨k1, k2, b1, b2, b3, g1, g2, g3, l1, l2, n1, n2, n3, c1, c2, c3⟩ := h
 refine Gives.step ?_
 simp only [T_word_Check]
 refine Gives.bind (Q := fun r => r = 0) ?_ fun e he => ?_
 · refine Gives.step ?_
   simp only [T_measure_Check]
   refine Gives.bind (ms_name k1 k2) fun v hv => Gives.bind (Q := fun b => b = false) ?_ fun b hb => by subst hb; exact Gives.neg (by simp) (Gives.now rfl)
   refine Gives.neg (by simp [hv]) (Gives.neg ?_ (Gives.now ?_))
   · simp; omega
   · simp; omega
 subst he
 refine Gives.neg (by simp; omega) (Gives.bind (Q := fun r => r = .inl ()) ?_ fun r hr => by subst hr; exact Gives.now rfl)
 refine Gives.loop (fun s => 0 ≤ s ∧ s ≤ (cuts.length : Int)) (fun s => ((cuts.length : Int) - s).toNat) ?_ ⟨by omega, by omega⟩
 intro s ⟨i0, i1⟩
 unfold T_word_Check_l1
 refine Gives.ite (fun c => Gives.opt (at_rd i0 c) ?_) fun c => Gives.now rfl
 have q := c2 s i0 c
 refine Gives.bind (Q := fun b => b = false) (Gives.neg (by simp; omega) (Gives.ite (fun d => ?_) fun d => Gives.now rfl)) fun b hb => ?_
 · rw [w64_id (x := s - 1) (by omega) (by omega)]
   refine Gives.opt (at_rd (by omega) (by omega)) (Gives.now ?_)
   have := c3 s d c
   simp; omega
 · subst hb
   rw [w64_id (by omega) (by omega)]
   exact Gives.neg (by simp) (Gives.now ⟨⟨by omega, by omega⟩, by omega⟩)

/-! Coordinates. -/
theorem w_floor {a b : Int} (hb : 0 < b) (hb2 : b ≤ 1000000) (ha : -1000000000000 ≤ a) (ha2 : a ≤ 1000000000000) : Gives (fun k => T_word_floor k a b) (fun r => r = a / b) := by
 have e := Int.mul_tdiv_add_tmod a b
 have r1 := Int.tmod_lt_of_pos a hb
 have r2 : -b < a.tmod b := by
  have := Int.tmod_lt_of_pos (-a) hb
  rw [Int.neg_tmod] at this
  omega
 have q1 : -1000000000000 ≤ a.tdiv b ∧ a.tdiv b ≤ 1000000000000 := by
  have h := Int.natAbs_tdiv_le_natAbs a b
  omega
 refine Gives.step ?_
 simp only [T_word_floor]
 refine Gives.pos (by omega) (Gives.pos (by omega) (Gives.bind (Q := fun r => r = a / b) ?_ fun r hr => Gives.now hr))
 rw [w64_id (x := a.tdiv b) (by omega) (by omega), w64_id (x := a.tdiv b - 1) (by omega) (by omega)]
 refine Gives.ite (fun c => Gives.now ?_) fun c => Gives.now ?_
 · refine ((Int.ediv_emod_unique hb (r := a.tmod b + b) (q := a.tdiv b - 1)).2 ⟨?_, by omega, by omega⟩).1.symm
   rw [Int.mul_sub, Int.mul_one]; omega
 · exact ((Int.ediv_emod_unique hb (r := a.tmod b) (q := a.tdiv b)).2 ⟨by omega, by omega, by omega⟩).1.symm
/-- The coordinate of a piece. -/
noncomputable def coo (kd : Int) (x : List Int) (n p : Int) : Int :=
 if kd = 2 then pcc x n p / ((x.length : Int) * (cut x.length n (p + 1) - cut x.length n p))
 else if kd = 3 then if (x.length : Int) * selfP x = 0 then 0 else QQ (64 * pcc x n p) ((x.length : Int) * selfP x)
 else pcs x n p / (cut x.length n (p + 1) - cut x.length n p)
theorem ediv_bd {a b B : Int} (hb : 0 < b) (h1 : -B ≤ a) (h2 : a ≤ B) (hB : 0 ≤ B) : -B ≤ a / b ∧ a / b ≤ B := by
 refine ⟨?_, ?_⟩
 · have : -B / b ≤ a / b := Int.ediv_le_ediv hb h1
   have : -B ≤ -B / b := by
    rw [Int.le_ediv_iff_mul_le hb]
    have := Int.mul_le_mul_of_nonneg_left (show 1 ≤ b by omega) hB
    rw [Int.neg_mul]; omega
   omega
 · have : a / b ≤ B / b := Int.ediv_le_ediv hb h2
   have : B / b ≤ B := Int.ediv_le_self _ hB
   omega
theorem energy_ok {x : List Int} (hx : Win x) : 0 ≤ (x.length : Int) * selfP x ∧ (x.length : Int) * selfP x ≤ 128000000000 ∧ Gives (fun k => T_word_energy k x) (fun r => r = (x.length : Int) * selfP x) := by
 have x1 := hx.lo
 have x2 := hx.hi
 have b := selfP_bound hx
 have p0 : 0 ≤ selfP x := by rw [selfP_prod]; exact prodP_nonneg (by omega)
 have h0 := Int.mul_nonneg (show 0 ≤ (x.length : Int) by omega) p0
 have h1 := prod_bound (a := (x.length : Int)) (b := selfP x) (A := 32) (B := 4000000000) (by omega) (by omega) (by omega) (by omega)
 refine ⟨h0, by omega, ?_⟩
 refine Gives.step ?_
 simp only [T_word_energy]
 refine Gives.bind (nm_Product hx) fun r hr => Gives.now ?_
 rw [hr.1, w64_id (by omega) (by omega)]
theorem coo_bd {x : List Int} {kd n p : Int} (hx : Win x) (hn : 1 ≤ n) (h0 : 0 ≤ p) (h1 : p < n) (hl : 1 ≤ cut x.length n (p + 1) - cut x.length n p) : -1099511627776 ≤ coo kd x n p ∧ coo kd x n p ≤ 1099511627776 := by
 have x1 := hx.lo
 have b1 := pcs_bound hx hn h0 h1
 have b2 := pcc_bound hx hn h0 h1
 have en := energy_ok hx
 unfold coo
 split
 · have := ediv_bd (a := pcc x n p) (b := (x.length : Int) * (cut x.length n (p + 1) - cut x.length n p)) (B := 3120000) (Int.mul_pos (by omega) (by omega)) (by omega) (by omega) (by omega)
   omega
 · split
   · split
     · omega
     · have := (rq (t := 64 * pcc x n p) (e := (x.length : Int) * selfP x) ⟨by omega, by omega, by omega, by omega⟩).2
       omega
   · have := ediv_bd (a := pcs x n p) (b := cut x.length n (p + 1) - cut x.length n p) (B := 64000) (by omega) (by omega) (by omega) (by omega)
     omega
theorem w_coordinate {x : List Int} {kd n p s : Int} (hx : Win x) (hn : 1 ≤ n) (h0 : 0 ≤ p) (h1 : p < n) (hl : 1 ≤ cut x.length n (p + 1) - cut x.length n p) (hs : s = if kd = 2 ∨ kd = 3 then pcc x n p else pcs x n p) :
 Gives (fun k => T_word_coordinate k kd s x.length (cut x.length n (p + 1) - cut x.length n p) ((x.length : Int) * selfP x)) (fun r => r = coo kd x n p) := by
 have x1 := hx.lo
 have x2 := hx.hi
 have b1 := pcs_bound hx hn h0 h1
 have b2 := pcc_bound hx hn h0 h1
 have en := energy_ok hx
 have k1 := cut_range (m := (x.length : Int)) hn (by omega) h0 (by omega)
 have k2 := cut_range (m := (x.length : Int)) (p := p + 1) hn (by omega) (by omega) (by omega)
 unfold coo
 refine Gives.step ?_
 simp only [T_word_coordinate]
 refine Gives.ite (fun c => ?_) fun c => ?_
 · rw [if_pos c]
   rw [if_pos (.inl c)] at hs
   have lp := prod_bound (a := (x.length : Int)) (b := cut x.length n (p + 1) - cut x.length n p) (A := 32) (B := 32) (by omega) (by omega) (by omega) (by omega)
   have l0 := Int.mul_pos (show 0 < (x.length : Int) by omega) (show 0 < cut x.length n (p + 1) - cut x.length n p by omega)
   rw [w64_id (x := (x.length : Int) * (cut x.length n (p + 1) - cut x.length n p)) (by omega) (by omega), hs]
   exact Gives.bind (w_floor l0 (by omega) (by omega) (by omega)) fun r hr => Gives.now hr
 · rw [if_neg c]
   refine Gives.ite (fun d => ?_) fun d => ?_
   · rw [if_pos d]
     rw [if_pos (.inr d)] at hs
     refine Gives.ite (fun e => Gives.now (by rw [if_pos e])) fun e => ?_
     rw [if_neg e, hs, w64_id (x := 64 * pcc x n p) (by omega) (by omega)]
     exact Gives.bind (rq (t := 64 * pcc x n p) (e := (x.length : Int) * selfP x) ⟨by omega, by omega, by omega, by omega⟩).1 fun r hr => Gives.now (by rw [hr])
   · rw [if_neg d]
     rw [if_neg (by omega)] at hs
     rw [hs]
     exact Gives.bind (w_floor (by omega) (by omega) (by omega) (by omega)) fun r hr => Gives.now hr
theorem w_coordinates {kd bd gp n : Int} {cuts x : List Int} (h : SchOk kd bd gp x.length n cuts) (hx : Win x) : Gives (fun k => T_word_Coordinates k kd bd gp x.length n cuts x) (fun r => r.2 = 0 ∧ (r.1.length : Int) = n ∧ ∀ p, 0 ≤ p → p < n → rd r.1 p = coo kd x n p) := by
 have x1 := hx.lo
 have x2 := hx.hi
 have n1 := h.n1
 have n2 := h.n2
 have n3 := h.n3
 have hl : ∀ p, 0 ≤ p → p < n → 1 ≤ cut x.length n (p + 1) - cut x.length n p := fun p h0 h1 => by
  obtain ⟨m, rfl⟩ : ∃ m : Nat, n = m := ⟨n.toNat, by omega⟩
  exact (wt_ok (m := x.length) (n := m) (p := p) x2 (by omega) (by omega) (by omega) h0 h1).2.2.1
 refine Gives.step ?_
 simp only [T_word_Coordinates]
 refine Gives.bind (w_check h) fun e he => Gives.neg (by simp [he]) (Gives.neg (by simp) (Gives.ite (fun c => ?_) fun c => ?_))
 · have ck : kd = 2 ∨ kd = 3 := by simpa using c
   refine Gives.bind (pc_centredO hx n1 n2 n3) fun a ha => Gives.neg (by simp [ha.2.1]) (Gives.bind (pc_starts (m := (x.length : Int)) (n := n) (by omega) (by omega) n1 n2 n3) fun S hS => Gives.bind (energy_ok hx).2.2 fun E hE => ?_)
   obtain ⟨a1, a2, a3, a4⟩ := ha
   obtain ⟨S1, S2, S3⟩ := hS
   subst hE
   refine Gives.bind (Q := fun r => (r.length : Int) = n ∧ ∀ p, 0 ≤ p → p < n → rd r p = coo kd x n p) ?_ fun r hr => Gives.now (by rw [drop_take_len (by omega)]; exact ⟨rfl, hr⟩)
   refine Gives.loop (fun s => 0 ≤ s.1 ∧ s.1 ≤ n ∧ (s.2.length : Int) = n ∧ (∀ p, 0 ≤ p → p < s.1 → rd s.2 p = coo kd x n p) ∧ ∀ p, s.1 ≤ p → p < n → rd s.2 p = pcc x n p) (fun s => (n - s.1).toNat) ?_ ⟨by simp only []; omega, by simp only []; omega, by simp only []; omega, fun p h0 h1 => by simp only at h1; omega, fun p h0 h1 => a4 p h0 h1⟩
   intro ⟨i, o⟩ ⟨i0, i1, i2, i3, i4⟩
   simp only at i0 i1 i2 i3 i4
   unfold T_word_Coordinates_l1
   simp only []
   rw [a1, w64_id (x := i + 1) (by omega) (by omega)]
   refine Gives.ite (fun c => Gives.pos ⟨i0, c⟩ (Gives.opt (get_rd0 i0 (by omega)) (Gives.opt (at_rd (by omega) (by omega)) (Gives.opt (at_rd i0 (by omega)) ?_)))) fun c => Gives.now ⟨i2, fun p h0 h1 => i3 p h0 (by omega)⟩
   have k1 := cut_range (m := (x.length : Int)) (n := n) (p := i) n1 (by omega) i0 (by omega)
   have k2 := cut_range (m := (x.length : Int)) (n := n) (p := i + 1) n1 (by omega) (by omega) (by omega)
   rw [S3 i i0 (by omega), S3 (i + 1) (by omega) (by omega), w64_id (x := cut x.length n (i + 1) - cut x.length n i) (by omega) (by omega)]
   refine Gives.bind (w_coordinate hx n1 i0 c (hl i i0 c) (by rw [if_pos ck]; exact i4 i (by omega) c)) fun r hr => Gives.pos ⟨i0, c⟩ (Gives.now ⟨⟨by simp only []; omega, by simp only []; omega, by simpa using i2, fun p h0 h1 => ?_, fun p h0 h1 => ?_⟩, by simp only []; omega⟩)
   · simp only at h1 ⊢
     by_cases e : p = i
     · subst e; rw [rd_set_eq h0 (by omega), hr]
     · rw [rd_set_ne i0 h0 (by omega)]; exact i3 p h0 (by omega)
   · simp only at h0 ⊢
     rw [rd_set_ne i0 (by omega) (by omega)]; exact i4 p (by omega) h1
 · have ck : ¬ (kd = 2 ∨ kd = 3) := by simpa using c
   refine Gives.bind (pc_sumsO hx n1 n2 n3) fun a ha => Gives.neg (by simp [ha.2.1]) (Gives.bind (pc_starts (m := (x.length : Int)) (n := n) (by omega) (by omega) n1 n2 n3) fun S hS => Gives.bind (energy_ok hx).2.2 fun E hE => ?_)
   obtain ⟨a1, a2, a3, a4⟩ := ha
   obtain ⟨S1, S2, S3⟩ := hS
   subst hE
   refine Gives.bind (Q := fun r => (r.length : Int) = n ∧ ∀ p, 0 ≤ p → p < n → rd r p = coo kd x n p) ?_ fun r hr => Gives.now (by rw [drop_take_len (by omega)]; exact ⟨rfl, hr⟩)
   refine Gives.loop (fun s => 0 ≤ s.1 ∧ s.1 ≤ n ∧ (s.2.length : Int) = n ∧ (∀ p, 0 ≤ p → p < s.1 → rd s.2 p = coo kd x n p) ∧ ∀ p, s.1 ≤ p → p < n → rd s.2 p = pcs x n p) (fun s => (n - s.1).toNat) ?_ ⟨by simp only []; omega, by simp only []; omega, by simp only []; omega, fun p h0 h1 => by simp only at h1; omega, fun p h0 h1 => a4 p h0 h1⟩
   intro ⟨i, o⟩ ⟨i0, i1, i2, i3, i4⟩
   simp only at i0 i1 i2 i3 i4
   unfold T_word_Coordinates_l2
   simp only []
   rw [a1, w64_id (x := i + 1) (by omega) (by omega)]
   refine Gives.ite (fun c => Gives.pos ⟨i0, c⟩ (Gives.opt (get_rd0 i0 (by omega)) (Gives.opt (at_rd (by omega) (by omega)) (Gives.opt (at_rd i0 (by omega)) ?_)))) fun c => Gives.now ⟨i2, fun p h0 h1 => i3 p h0 (by omega)⟩
   have k1 := cut_range (m := (x.length : Int)) (n := n) (p := i) n1 (by omega) i0 (by omega)
   have k2 := cut_range (m := (x.length : Int)) (n := n) (p := i + 1) n1 (by omega) (by omega) (by omega)
   rw [S3 i i0 (by omega), S3 (i + 1) (by omega) (by omega), w64_id (x := cut x.length n (i + 1) - cut x.length n i) (by omega) (by omega)]
   refine Gives.bind (w_coordinate hx n1 i0 c (hl i i0 c) (by rw [if_neg ck]; exact i4 i (by omega) c)) fun r hr => Gives.pos ⟨i0, c⟩ (Gives.now ⟨⟨by simp only []; omega, by simp only []; omega, by simpa using i2, fun p h0 h1 => ?_, fun p h0 h1 => ?_⟩, by simp only []; omega⟩)
   · simp only at h1 ⊢
     by_cases e : p = i
     · subst e; rw [rd_set_eq h0 (by omega), hr]
     · rw [rd_set_ne i0 h0 (by omega)]; exact i3 p h0 (by omega)
   · simp only at h0 ⊢
     rw [rd_set_ne i0 (by omega) (by omega)]; exact i4 p (by omega) h1

theorem ints_refl {xs ys : List Int} (h : xs = ys) (hl : xs.length ≤ 1000) : Gives (fun k => T_keep_Ints k xs ys) (· = true) := by
 subst h
 refine Gives.step ?_
 simp only [T_keep_Ints]
 refine Gives.neg (by simp) (Gives.bind (Q := fun r => r = .inl ()) ?_ fun r hr => by subst hr; exact Gives.now rfl)
 refine Gives.loop (fun s => 0 ≤ s ∧ s ≤ (xs.length : Int)) (fun s => ((xs.length : Int) - s).toNat) ?_ ⟨by omega, by omega⟩
 intro s ⟨i1, i2⟩
 unfold T_keep_Ints_l1
 refine Gives.ite (fun c => Gives.opt (at_rd i1 c) (Gives.opt (at_rd i1 c) (Gives.neg (by simp) ?_))) fun c => Gives.now rfl
 rw [w64_id (by omega) (by omega)]
 exact Gives.now ⟨⟨by omega, by omega⟩, by omega⟩
theorem ext_rd {xs ys : List Int} (hl : xs.length = ys.length) (h : ∀ p, 0 ≤ p → p < (xs.length : Int) → rd xs p = rd ys p) : xs = ys := by
 refine List.ext_getElem hl fun i h1 h2 => ?_
 have := h i (by omega) (by omega)
 unfold rd at this
 rw [List.getD_eq_getElem?_getD, List.getD_eq_getElem?_getD] at this
 simpa [h1, h2] using this

/-! Words. -/
theorem u64_small {x : Int} (h1 : 0 ≤ x) (h2 : x < 1000000) : IntKind.wrap .u64 x = x := by
 simp only [IntKind.wrap, IntKind.signed, IntKind.bits]
 simp
 omega
/-- So many cuts are at most a number. -/
structure Cnt (cuts : List Int) (c F : Int) : Prop where
 lo : 0 ≤ F
 hi : F ≤ (cuts.length : Int)
 le : ∀ i, 0 ≤ i → i < F → rd cuts i ≤ c
 gt : ∀ i, F ≤ i → i < (cuts.length : Int) → c < rd cuts i
theorem w_less (a b : Int) : Gives (fun k => T_cmp_Less_557a k a b) (fun r => r = decide (a < b)) := by
 refine Gives.step ?_
 simp only [T_cmp_Less_557a]
 refine Gives.bind (Q := fun r => r = decide (a < b)) ?_ fun r hr => Gives.now hr
 refine Gives.bind (Q := fun _ => True) ?_ fun _ _ => Gives.neg (by simp) (Gives.now rfl)
 refine Gives.step ?_
 simp only [T_cmp_isNaN_557a]
 exact Gives.now trivial
theorem w_search {kd bd gp len n c : Int} {cuts : List Int} (h : SchOk kd bd gp len n cuts) : Gives (fun k => T_slices_BinarySearch_b354 k cuts c) (fun r => Cnt cuts c (if r.2 = true then r.1 + 1 else r.1) ∧ 0 ≤ r.1 ∧ r.1 ≤ 15) := by
 have c1 := h.c1
 refine Gives.step ?_
 simp only [T_slices_BinarySearch_b354]
 refine Gives.bind (Q := fun i => 0 ≤ i ∧ i ≤ (cuts.length : Int) ∧ (∀ q, 0 ≤ q → q < i → rd cuts q < c) ∧ ∀ q, i ≤ q → q < (cuts.length : Int) → c ≤ rd cuts q) ?_ fun i hi => ?_
 · refine Gives.loop (fun s => 0 ≤ s.1 ∧ s.1 ≤ s.2 ∧ s.2 ≤ (cuts.length : Int) ∧ (∀ q, 0 ≤ q → q < s.1 → rd cuts q < c) ∧ ∀ q, s.2 ≤ q → q < (cuts.length : Int) → c ≤ rd cuts q) (fun s => (s.2 - s.1).toNat) ?_ ⟨by simp only []; omega, by simp only []; omega, by simp only []; omega, fun q h0 h1 => by simp only at h1; omega, fun q h0 h1 => by simp only at h0; omega⟩
   intro ⟨i, j⟩ ⟨i0, i1, i2, i3, i4⟩
   simp only at i0 i1 i2 i3 i4
   unfold T_slices_BinarySearch_b354_l1
   simp only []
   refine Gives.ite (fun d => ?_) fun d => Gives.now ⟨i0, by omega, i3, fun q h0 h1 => i4 q (by omega) h1⟩
   have e1 : w64 ((IntKind.wrap .u64 (w64 (i + j))).fdiv (2 ^ 1)) = (i + j) / 2 := by
    rw [w64_id (x := i + j) (by omega) (by omega), u64_small (by omega) (by omega), Int.fdiv_eq_ediv_of_nonneg _ (by omega)]
    rw [w64_id (by omega) (by omega)]; rfl
   rw [e1]
   obtain ⟨m, hm⟩ : ∃ m, m = (i + j) / 2 := ⟨_, rfl⟩
   rw [← hm]
   have m0 : i ≤ m ∧ m < j := by omega
   refine Gives.opt (at_rd (by omega) (by omega)) (Gives.bind (w_less _ _) fun b hb => ?_)
   subst hb
   refine Gives.ite (fun e => Gives.now ?_) fun e => Gives.now ?_
   · rw [w64_id (x := m + 1) (by omega) (by omega)]
     have e' : rd cuts m < c := by simpa using e
     refine ⟨⟨by simp only []; omega, by simp only []; omega, i2, fun q h0 h1 => ?_, i4⟩, by simp only []; omega⟩
     have := h.le (i := q) (j := m) h0 (by simp only at h1; omega) (by omega)
     omega
   · have e' : c ≤ rd cuts m := by simpa using e
     refine ⟨⟨i0, by simp only []; omega, by simp only []; omega, i3, fun q h0 h1 => ?_⟩, by simp only []; omega⟩
     have := h.le (i := m) (j := q) (by omega) (by simp only at h0; omega) h1
     omega
 · obtain ⟨a0, a1, a2, a3⟩ := hi
   refine Gives.bind (Q := fun b => b = decide (i < (cuts.length : Int) ∧ rd cuts i = c)) ?_ fun b hb => Gives.now ?_
   · refine Gives.ite (fun d => Gives.opt (at_rd a0 d) (Gives.ite (fun e => Gives.now ?_) fun e => Gives.bind (Q := fun _ => True) ?_ fun _ _ => Gives.neg (by simp) (Gives.now ?_))) fun d => Gives.now ?_
     · simp [d, e]
     · refine Gives.step ?_
       simp only [T_slices_isNaN_557a]
       exact Gives.now trivial
     · simp [e]
     · simp [d]
   · subst hb
     simp only [decide_eq_true_eq]
     refine ⟨?_, a0, by omega⟩
     split
     · rename_i d
       refine ⟨by omega, by omega, fun q h0 h1 => ?_, fun q h0 h1 => ?_⟩
       · by_cases e : q = i
         · rw [e]; omega
         · have := a2 q h0 (by omega); omega
       · have := h.lt (q - i - 1).toNat i a0 (by omega)
         rw [show i + ((q - i - 1).toNat : Int) + 1 = q by omega] at this
         omega
     · rename_i d
       refine ⟨a0, a1, fun q h0 h1 => by have := a2 q h0 h1; omega, fun q h0 h1 => ?_⟩
       have b := a3 q h0 h1
       by_cases e : q = i
       · subst e
         have : ¬ rd cuts q = c := fun hc => d ⟨h1, hc⟩
         omega
       · have := h.lt (q - i - 1).toNat i a0 (by omega)
         rw [show i + ((q - i - 1).toNat : Int) + 1 = q by omega] at this
         have := a3 i (by omega) (by omega)
         omega
/-- A word of n pieces; a full one. -/
def WOk (n : Int) (sy bi : List Int) : Prop := (sy.length : Int) = n ∧ (bi.length : Int) = n ∧ ∀ p, 0 ≤ p → p < n → 0 ≤ rd bi p ∧ rd bi p ≤ 4 ∧ 0 ≤ rd sy p ∧ rd sy p < 2 ^ (rd bi p).toNat
def FOk (n : Int) (bi : List Int) : Prop := ∀ p, 0 ≤ p → p < n → rd bi p = 4
/-- The full word of some coordinates. -/
structure Word (cuts cs : List Int) (n : Int) (sy bi : List Int) : Prop where
 ok : WOk n sy bi
 full : FOk n bi
 cnt : ∀ p, 0 ≤ p → p < n → Cnt cuts (rd cs p) (rd sy p)
theorem w_of {kd bd gp n : Int} {cuts x cs : List Int} (h : SchOk kd bd gp x.length n cuts) (hc : Gives (fun k => T_word_Coordinates k kd bd gp x.length n cuts x) (· = (cs, 0))) (hn : (cs.length : Int) = n) : Gives (fun k => T_word_Of k kd bd gp x.length n cuts x) (fun r => r.2.2 = 0 ∧ Word cuts cs n r.1 r.2.1) := by
 have c1 := h.c1
 have n1 := h.n1
 have n2 := h.n2
 refine Gives.step ?_
 simp only [T_word_Of]
 refine Gives.bind hc fun r hr => ?_
 subst hr
 refine Gives.neg (by simp) (Gives.bind (Q := fun r => r.2.2.1.length = r.1 ∧ r.2.2.2.length = r.2.1 ∧ (r.1 : Int) = n ∧ (r.2.1 : Int) = n ∧ ∀ p, 0 ≤ p → p < n → rd r.2.2.2 p = 4 ∧ Cnt cuts (rd cs p) (rd r.2.2.1 p)) ?_ fun r hr => ?_)
 · simp only []
   rw [hn]
   refine Gives.loop (fun s => 0 ≤ s.1 ∧ s.1 ≤ n ∧ (s.2.1 : Int) = s.1 ∧ (s.2.2.1 : Int) = s.1 ∧ s.2.2.2.1.length = s.2.1 ∧ s.2.2.2.2.length = s.2.2.1 ∧ ∀ p, 0 ≤ p → p < s.1 → rd s.2.2.2.2 p = 4 ∧ Cnt cuts (rd cs p) (rd s.2.2.2.1 p)) (fun s => (n - s.1).toNat) ?_ ⟨by simp only []; omega, by simp only []; omega, rfl, rfl, rfl, rfl, fun p h0 h1 => by simp only at h1; omega⟩
   intro ⟨i, a, b, s, t⟩ ⟨i0, i1, e1, e2, l1, l2, hi⟩
   simp only at i0 i1 e1 e2 l1 l2 hi
   unfold T_word_Of_l1
   simp only []
   refine Gives.ite (fun c => Gives.opt (at_rd i0 (by omega)) (Gives.bind (w_search h) fun v hv => ?_)) fun c => Gives.now ⟨l1, l2, by simp only []; omega, by simp only []; omega, fun p h0 h1 => hi p h0 (by omega)⟩
   refine Gives.bind (Q := fun r => r = (if v.2 = true then v.1 + 1 else v.1)) ?_ fun r hr => ?_
   · rw [w64_id (x := v.1 + 1) (by omega) (by omega)]
     exact Gives.ite (fun d => Gives.now (by rw [if_pos d])) fun d => Gives.now (by rw [if_neg d])
   · rw [w64_id (x := i + 1) (by omega) (by omega), drop_take_len l1, drop_take_len l2]
     refine Gives.pos (by unfold LIM; omega) (Gives.pos (by unfold LIM; omega) (Gives.now ⟨⟨by simp only []; omega, by simp only []; omega, by simp only []; omega, by simp only []; omega, by simp [l1], by simp [l2], fun p h0 h1 => ?_⟩, by simp only []; omega⟩))
     simp only at h1 ⊢
     by_cases e : p = i
     · subst e; rw [rd_app_1 h0 (by omega), rd_app_1 h0 (by omega), hr]; exact ⟨rfl, hv.1⟩
     · rw [rd_app_l (by omega), rd_app_l (by omega)]; exact hi p h0 (by omega)
 · obtain ⟨r1, r2, r3, r4, r5⟩ := hr
   rw [drop_take_len r1, drop_take_len r2]
   refine Gives.now ⟨rfl, ⟨by simp only []; omega, by simp only []; omega, fun p h0 h1 => ?_⟩, fun p h0 h1 => (r5 p h0 h1).1, fun p h0 h1 => (r5 p h0 h1).2⟩
   obtain ⟨a, b⟩ := r5 p h0 h1
   have := b.lo
   have := b.hi
   simp only []
   rw [a]
   exact ⟨by omega, by omega, by omega, by simp only [show (4 : Int).toNat = 4 from rfl]; omega⟩
theorem bits_lt {b : Int} (h0 : 0 ≤ b) (h1 : b ≤ 4) : w64 (1 * 2 ^ (Nat.min b.toNat (IntKind.bits .i64))) = 2 ^ b.toNat := by
 rcases (show b = 0 ∨ b = 1 ∨ b = 2 ∨ b = 3 ∨ b = 4 by omega) with e | e | e | e | e <;> subst e <;> decide +kernel
/-- The width of a word's interval of symbols. -/
def wid (b : Int) : Int := 2 ^ (4 - b).toNat
theorem wid_w {b : Int} (h0 : 0 ≤ b) (h1 : b ≤ 4) : (2 : Int) ^ (Nat.min (w64 (4 - b)).toNat (IntKind.bits .i64)) = wid b := by
 rcases (show b = 0 ∨ b = 1 ∨ b = 2 ∨ b = 3 ∨ b = 4 by omega) with e | e | e | e | e <;> subst e <;> decide +kernel
theorem wid_ok {s b : Int} (h0 : 0 ≤ b) (h1 : b ≤ 4) (h2 : 0 ≤ s) (h3 : s < 2 ^ b.toNat) : 1 ≤ wid b ∧ wid b ≤ 16 ∧ 0 ≤ s * wid b ∧ s * wid b + wid b ≤ 16 := by
 unfold wid
 rcases (show b = 0 ∨ b = 1 ∨ b = 2 ∨ b = 3 ∨ b = 4 by omega) with e | e | e | e | e <;> subst e <;> simp at h3 ⊢ <;> omega
theorem w_valid {kd bd gp len n : Int} {cuts sy bi : List Int} (h : SchOk kd bd gp len n cuts) (w : WOk n sy bi) : Gives (fun k => T_word_Valid k kd bd gp len n cuts sy bi) (fun r => r = true) := by
 have n2 := h.n2
 obtain ⟨w1, w2, w3⟩ := w
 refine Gives.step ?_
 simp only [T_word_Valid]
 refine Gives.bind (w_check h) fun e he => Gives.neg (by simp [he]; omega) (Gives.bind (Q := fun r => r = .inl ()) ?_ fun r hr => by subst hr; exact Gives.now rfl)
 rw [w2]
 refine Gives.loop (fun s => 0 ≤ s ∧ s ≤ n) (fun s => (n - s).toNat) ?_ ⟨by omega, by have := h.n1; omega⟩
 intro i ⟨i0, i1⟩
 unfold T_word_Valid_l1
 refine Gives.ite (fun c => Gives.opt (at_rd i0 (by omega)) ?_) fun c => Gives.now rfl
 obtain ⟨b0, b1, s0, s1⟩ := w3 i i0 c
 refine Gives.bind (Q := fun b => b = false) ?_ fun b hb => ?_
 · refine Gives.neg (by simp; omega) (Gives.opt (at_rd i0 (by omega)) (Gives.neg (by omega) (Gives.pos b0 (Gives.now ?_))))
   rw [bits_lt b0 b1]
   simp; omega
 · subst hb
   rw [w64_id (by omega) (by omega)]
   exact Gives.neg (by simp) (Gives.now ⟨⟨by omega, by omega⟩, by omega⟩)
/-- Whether a full symbol lies in a word's interval of symbols. -/
def inW (s b F : Int) : Bool := decide (s * wid b ≤ F ∧ F < s * wid b + wid b)
theorem ediv_wid {s b F : Int} (hw : 1 ≤ wid b) : F.fdiv (wid b) = s ↔ s * wid b ≤ F ∧ F < s * wid b + wid b := by
 rw [Int.fdiv_eq_ediv_of_nonneg _ (by omega)]
 constructor
 · intro e
   have a := Int.mul_ediv_self_le (x := F) (k := wid b) (by omega)
   have c := Int.lt_mul_ediv_self_add (x := F) (k := wid b) (by omega)
   rw [e, Int.mul_comm] at a c
   exact ⟨a, c⟩
 · intro ⟨a, c⟩
   have e1 : s ≤ F / wid b := (Int.le_ediv_iff_mul_le (by omega)).2 a
   have e2 : F / wid b < s + 1 := (Int.ediv_lt_iff_lt_mul (by omega)).2 (by rw [Int.add_mul, Int.one_mul]; exact c)
   omega
/-- The interval of a symbol's bits. -/
def ivl (cuts : List Int) (f g : Int) : Int × Int := if (cuts.length : Int) < f then (1, 0) else (if 0 < f then rd cuts (f - 1) else -1099511627776, if g < (cuts.length : Int) then rd cuts g - 1 else 1099511627776)
theorem w_interval {kd bd gp len n s b : Int} {cuts : List Int} (h : SchOk kd bd gp len n cuts) (h0 : 0 ≤ b) (h1 : b ≤ 4) (h2 : 0 ≤ s) (h3 : s < 2 ^ b.toNat) : Gives (fun k => T_word_interval k cuts s b) (fun r => r = ivl cuts (s * wid b) (s * wid b + wid b - 1)) := by
 have wk := wid_ok h0 h1 h2 h3
 have c1 := h.c1
 have s16 : s ≤ 16 := by
  have : s * 1 ≤ s * wid b := Int.mul_le_mul_of_nonneg_left wk.1 h2
  omega
 refine Gives.step ?_
 simp only [T_word_interval]
 rw [wid_w h0 h1, w64_id (x := 4 - b) (by omega) (by omega), w64_id (x := s + 1) (by omega) (by omega), Int.add_mul, Int.one_mul]
 generalize s * wid b = f at *
 generalize wid b = w at *
 rw [w64_id (x := f) (by omega) (by omega), w64_id (x := f + w) (by omega) (by omega), w64_id (x := f + w - 1) (by omega) (by omega), w64_id (x := f - 1) (by omega) (by omega)]
 unfold ivl
 refine Gives.pos (by omega) (Gives.ite (fun c => Gives.now (by rw [if_pos c])) fun c => ?_)
 rw [if_neg c]
 refine Gives.bind (Q := fun r => r = if 0 < f then rd cuts (f - 1) else -1099511627776) ?_ fun lo hlo => Gives.bind (Q := fun r => r = if f + w - 1 < (cuts.length : Int) then rd cuts (f + w - 1) - 1 else 1099511627776) ?_ fun hi hhi => Gives.now (by rw [hlo, hhi])
 · refine Gives.ite (fun d => Gives.opt (at_rd (by omega) (by omega)) (Gives.now (by rw [if_pos d]))) fun d => Gives.now (by rw [if_neg d])
 · refine Gives.ite (fun d => Gives.opt (at_rd (by omega) (by omega)) ?_) fun d => Gives.now (by rw [if_neg d])
   have := h.c2 (f + w - 1) (by omega) d
   rw [w64_id (by omega) (by omega)]
   exact Gives.now (by rw [if_pos d])
theorem ivl_in {kd bd gp len n c F s b : Int} {cuts : List Int} (h : SchOk kd bd gp len n cuts) (h0 : 0 ≤ b) (h1 : b ≤ 4) (h2 : 0 ≤ s) (h3 : s < 2 ^ b.toNat) (hc : Cnt cuts c F) (c0 : -1099511627776 ≤ c) (c1 : c ≤ 1099511627776) :
 ((ivl cuts (s * wid b) (s * wid b + wid b - 1)).1 ≤ c ∧ c ≤ (ivl cuts (s * wid b) (s * wid b + wid b - 1)).2) ↔ inW s b F = true := by
 have wk := wid_ok h0 h1 h2 h3
 unfold inW ivl
 simp only [decide_eq_true_eq]
 generalize s * wid b = f at *
 generalize wid b = w at *
 obtain ⟨k0, k1, k2, k3⟩ := hc
 by_cases e : (cuts.length : Int) < f
 · rw [if_pos e]
   simp only []
   omega
 · rw [if_neg e]
   simp only []
   have lo : (if 0 < f then rd cuts (f - 1) else -1099511627776) ≤ c ↔ f ≤ F := by
    split
    · rename_i d
      refine ⟨fun hh => ?_, fun hh => k2 (f - 1) (by omega) (by omega)⟩
      refine Decidable.byContradiction fun hn => ?_
      have := k3 (f - 1) (by omega) (by omega)
      omega
    · omega
   have hi : c ≤ (if f + w - 1 < (cuts.length : Int) then rd cuts (f + w - 1) - 1 else 1099511627776) ↔ F < f + w := by
    split
    · rename_i d
      refine ⟨fun hh => ?_, fun hh => ?_⟩
      · refine Decidable.byContradiction fun hn => ?_
        have := k2 (f + w - 1) (by omega) (by omega)
        omega
      · have := k3 (f + w - 1) (by omega) d
        omega
    · omega
   rw [lo, hi]
/-- A row of intervals. -/
def rpi (r : List (Int × Int)) (p : Int) : Int × Int := r.getD p.toNat (0, 0)
theorem at_rpi {xs : List (Int × Int)} {i : Int} (h0 : 0 ≤ i) (h1 : i < (xs.length : Int)) : at? xs i = some (rpi xs i) := by
 unfold at? rpi
 rw [if_pos h0, List.getD_eq_getElem?_getD, List.getElem?_eq_getElem (by omega)]; rfl
theorem rpi_app_l {xs ys : List (Int × Int)} {i : Int} (h1 : i.toNat < xs.length) : rpi (xs ++ ys) i = rpi xs i := by
 unfold rpi
 rw [List.getD_eq_getElem?_getD, List.getElem?_append_left h1, List.getD_eq_getElem?_getD]
theorem rpi_app_1 {xs : List (Int × Int)} {v : Int × Int} {i : Int} (h0 : 0 ≤ i) (h1 : (xs.length : Int) = i) : rpi (xs ++ [v]) i = v := by
 unfold rpi
 rw [List.getD_eq_getElem?_getD, List.getElem?_append_right (by omega)]
 simp [show i.toNat - xs.length = 0 by omega]
theorem drop_take_len2 {α : Type} {xs : List α} {n : Nat} (h : xs.length = n) : (xs.drop 0).take n = xs := by rw [List.drop_zero, ← h, List.take_length]
theorem w_region {kd bd gp len n : Int} {cuts sy bi : List Int} (h : SchOk kd bd gp len n cuts) (w : WOk n sy bi) : Gives (fun k => T_word_Region k kd bd gp len n cuts sy bi) (fun r => r.2 = 0 ∧ (r.1.length : Int) = n ∧ ∀ p, 0 ≤ p → p < n → rpi r.1 p = ivl cuts (rd sy p * wid (rd bi p)) (rd sy p * wid (rd bi p) + wid (rd bi p) - 1)) := by
 have n1 := h.n1
 have n2 := h.n2
 refine Gives.step ?_
 simp only [T_word_Region]
 refine Gives.bind (w_valid h w) fun a ha => Gives.neg (by simp [ha]) ?_
 obtain ⟨w1, w2, w3⟩ := w
 rw [w2]
 refine Gives.bind (Q := fun r => r.2.length = r.1 ∧ (r.1 : Int) = n ∧ ∀ p, 0 ≤ p → p < n → rpi r.2 p = ivl cuts (rd sy p * wid (rd bi p)) (rd sy p * wid (rd bi p) + wid (rd bi p) - 1)) ?_ fun r hr => Gives.now (by rw [drop_take_len2 hr.1]; exact ⟨rfl, by rw [hr.1]; exact hr.2.1, hr.2.2⟩)
 refine Gives.loop (fun s => 0 ≤ s.2.1 ∧ s.2.1 ≤ n ∧ (s.1 : Int) = s.2.1 ∧ s.2.2.length = s.1 ∧ ∀ p, 0 ≤ p → p < s.2.1 → rpi s.2.2 p = ivl cuts (rd sy p * wid (rd bi p)) (rd sy p * wid (rd bi p) + wid (rd bi p) - 1)) (fun s => (n - s.2.1).toNat) ?_ ⟨by simp only []; omega, by simp only []; omega, rfl, rfl, fun p h0 h1 => by simp only at h1; omega⟩
 intro ⟨l, i, o⟩ ⟨i0, i1, i2, i3, i4⟩
 simp only at i0 i1 i2 i3 i4
 unfold T_word_Region_l1
 simp only []
 refine Gives.ite (fun c => Gives.opt (at_rd i0 (by omega)) (Gives.opt (at_rd i0 (by omega)) ?_)) fun c => Gives.now ⟨i3, by simp only []; omega, fun p h0 h1 => i4 p h0 (by omega)⟩
 obtain ⟨b0, b1, s0, s1⟩ := w3 i i0 c
 refine Gives.bind (w_interval h b0 b1 s0 s1) fun v hv => Gives.pos (by unfold LIM; omega) ?_
 rw [w64_id (x := i + 1) (by omega) (by omega), drop_take_len2 i3]
 refine Gives.now ⟨⟨by simp only []; omega, by simp only []; omega, by simp only []; omega, by simp [i3], fun p h0 h1 => ?_⟩, by simp only []; omega⟩
 simp only at h1 ⊢
 by_cases e : p = i
 · subst e; rw [rpi_app_1 h0 (by omega), hv]
 · rw [rpi_app_l (by omega)]; exact i4 p h0 (by omega)

theorem r12_samples {x : List Int} (hx : Win x) : Gives (fun k => T_ref12_Samples k x) (fun r => r = 0) := by
 have x2 := hx.hi
 refine Gives.step ?_
 simp only [T_ref12_Samples]
 refine Gives.bind (Q := fun r => r = .inl ()) ?_ fun r hr => by subst hr; exact Gives.now rfl
 refine Gives.loop (fun s => 0 ≤ s ∧ s ≤ (x.length : Int)) (fun s => ((x.length : Int) - s).toNat) ?_ ⟨by omega, by omega⟩
 intro s ⟨i1, i2⟩
 unfold T_ref12_Samples_l1
 refine Gives.ite (fun c => Gives.opt (at_rd i1 c) (Gives.bind (Q := fun _ => True) ?_ fun _ _ => ?_)) fun c => Gives.now rfl
 · refine Gives.step ?_
   simp only [T_ref04_Sample]
   exact Gives.now trivial
 · have h := hx.smp.rd s
   rw [w64_id (by omega) (by omega)]
   exact Gives.neg (by simp; omega) (Gives.now ⟨⟨by omega, by omega⟩, by omega⟩)
theorem r12_two {x y : List Int} (hx : Win x) (hy : Win y) (hl : x.length = y.length) : Gives (fun k => T_ref12_Two k x y 0) (fun r => r = 0) := by
 have x1 := hx.lo
 have x2 := hx.hi
 refine Gives.step ?_
 simp only [T_ref12_Two]
 refine Gives.neg (by simp; omega) (Gives.bind (Q := fun b => b = false) ?_ fun b hb => ?_)
 · exact Gives.bind (r12_samples hx) fun r hr => Gives.neg (by simp [hr]) (Gives.bind (r12_samples hy) fun r hr => Gives.now (by simp [hr]))
 · subst hb
   rw [← hl, Int.sub_self, w64_id (x := 0) (by omega) (by omega)]
   exact Gives.neg (by simp) (Gives.neg (by simp) (Gives.now rfl))

/-! The errors of chapter 12. -/
theorem r12_samplesG {x : List Int} (hl : x.length ≤ 1000) : Gives (fun k => T_ref12_Samples k x) (fun r => r = if smpB x = true then 0 else 12) := by
 refine Gives.step ?_
 simp only [T_ref12_Samples]
 refine Gives.bind (Q := fun r => (r = .inl () ∧ smpB x = true) ∨ (r = .inr () ∧ smpB x = false)) ?_ fun r hr => ?_
 · refine Gives.loop (fun s => 0 ≤ s ∧ s ≤ (x.length : Int) ∧ ∀ q, 0 ≤ q → q < s → -1000 ≤ rd x q ∧ rd x q ≤ 1000) (fun s => ((x.length : Int) - s).toNat) ?_ ⟨by omega, by omega, fun q h1 h2 => by omega⟩
   intro s ⟨i1, i2, i3⟩
   unfold T_ref12_Samples_l1
   refine Gives.ite (fun c => Gives.opt (at_rd i1 c) (Gives.bind (Q := fun _ => True) ?_ fun _ _ => Gives.ite (fun b => Gives.now (.inr ⟨rfl, ?_⟩)) fun b => ?_)) fun c => Gives.now (.inl ⟨rfl, smpB_iff.2 (smp_of_rd fun q h1 h2 => i3 q h1 (by omega))⟩)
   · refine Gives.step ?_
     simp only [T_ref04_Sample]
     exact Gives.now trivial
   · rcases e : smpB x with _ | _
     · rfl
     · have := (smpB_iff.1 e).rd s
       simp at b
       omega
   · simp at b
     rw [w64_id (by omega) (by omega)]
     refine Gives.now ⟨⟨by omega, by omega, fun q h1 h2 => ?_⟩, by omega⟩
     by_cases e : q = s
     · subst e; omega
     · exact i3 q h1 (by omega)
 · rcases hr with ⟨rfl, h⟩ | ⟨rfl, h⟩
   · exact Gives.now (by rw [h]; rfl)
   · exact Gives.now (by rw [h]; rfl)
theorem r12_windowG {x : List Int} (hl : x.length ≤ 1000) : Gives (fun k => T_ref12_Window k x) (fun r => r = errM x x 0) := by
 refine Gives.step ?_
 simp only [T_ref12_Window]
 refine Gives.ite (fun c => Gives.now ?_) fun c => Gives.bind (r12_samplesG hl) fun r hr => Gives.now ?_
 · unfold errM
   rw [if_neg (by simp [lenB] at c ⊢; omega)]
 · unfold errM
   rw [if_pos (by simp [lenB] at c ⊢; omega), hr, Bool.and_self]
   split
   · rw [if_pos (by omega)]
   · rfl
theorem r12_twoG {x y : List Int} {m : Int} (hx : x.length ≤ 1000) (hy : y.length ≤ 1000) : Gives (fun k => T_ref12_Two k x y m) (fun r => r = errM x y m) := by
 refine Gives.step ?_
 simp only [T_ref12_Two]
 refine Gives.ite (fun c => Gives.now ?_) fun c => Gives.bind (Q := fun b => b = !(smpB x && smpB y)) ?_ fun b hb => ?_
 · unfold errM
   rw [if_neg (by simp [lenB] at c ⊢; omega)]
 · refine Gives.bind (r12_samplesG hx) fun r hr => Gives.ite (fun d => Gives.now ?_) fun d => Gives.bind (r12_samplesG hy) fun r' hr' => Gives.now ?_
   · subst hr
     have : smpB x = false := by
      rcases e : smpB x with _ | _
      · rfl
      · rw [e] at d; simp at d
     rw [this]; rfl
   · subst hr hr'
     have : smpB x = true := by
      rcases e : smpB x with _ | _
      · rw [e] at d; simp at d
      · rfl
     rw [this, Bool.true_and]
     rcases smpB y <;> rfl
 · subst hb
   have c' : (lenB x && lenB y) = true := by simp [lenB] at c ⊢; omega
   rw [w64_id (x := (x.length : Int) - y.length) (by omega) (by omega), w64_id (x := (y.length : Int) - x.length) (by omega) (by omega)]
   refine Gives.ite (fun d => Gives.now ?_) fun d => Gives.ite (fun e => Gives.now ?_) fun e => Gives.now ?_
   · unfold errM
     rw [if_pos c', if_neg (by intro hh; rw [hh] at d; cases d)]
   · have d' : (smpB x && smpB y) = true := by simpa using d
     unfold errM
     rw [if_pos c', if_pos d', if_neg (by simp at e; omega)]
   · have d' : (smpB x && smpB y) = true := by simpa using d
     unfold errM
     rw [if_pos c', if_pos d', if_pos (by simp at e; omega)]

/-! Chapter 18 of the document. -/
theorem f18_starts {m n : Nat} (hm : 2 ≤ m) (hm2 : m ≤ 32) (hn : 1 ≤ n) (hn2 : n ≤ 8) (hn3 : n ≤ m) : Gives (fun k => T_ref18_Starts k m n) (fun r => r.2 = 0 ∧ r.1.length = n + 1 ∧ ∀ p, 0 ≤ p → p ≤ (n : Int) → rd r.1 p = cut m n p) := by
 refine Gives.step ?_
 simp only [T_ref18_Starts]
 refine Gives.neg (by simp; omega) (Gives.neg (by simp; omega) (Gives.bind (Q := fun r => r.2.length = r.1 ∧ r.1 = n + 1 ∧ ∀ p, 0 ≤ p → p ≤ (n : Int) → rd r.2 p = cut m n p) ?_ fun r hr => ?_))
 · refine Gives.loop (fun s => 0 ≤ s.2.1 ∧ s.2.1 ≤ (n : Int) + 1 ∧ (s.1 : Int) = s.2.1 ∧ s.2.2.length = s.1 ∧ ∀ p, 0 ≤ p → p < s.2.1 → rd s.2.2 p = cut m n p) (fun s => ((n : Int) + 1 - s.2.1).toNat) ?_ ⟨by simp only []; omega, by simp only []; omega, rfl, rfl, fun p h1 h2 => by simp only at h2; omega⟩
   intro ⟨l, i, o⟩ ⟨i0, i1, i2, i3, i4⟩
   simp only at i0 i1 i2 i3 i4
   unfold T_ref18_Starts_l1
   simp only []
   refine Gives.ite (fun c => Gives.pos (by omega) (Gives.pos (by unfold LIM; omega) ?_)) fun c => Gives.now ⟨i3, by simp only []; omega, fun p h1 h2 => i4 p h1 (by omega)⟩
   rw [cut_w (m := (m : Int)) (n := (n : Int)) (p := i) (by omega) (by omega) (by omega) (by omega) i0 c, w64_id (x := i + 1) (by omega) (by omega), drop_take_len i3]
   refine Gives.now ⟨⟨by simp only []; omega, by simp only []; omega, by simp only []; omega, by simp [i3], fun p h1 h2 => ?_⟩, by simp only []; omega⟩
   simp only at h2 ⊢
   by_cases e : p = i
   · subst e; rw [rd_app_1 h1 (by omega)]
   · rw [rd_app_l (by omega)]; exact i4 p h1 (by omega)
 · rw [drop_take_len hr.1]
   exact Gives.now ⟨rfl, by rw [hr.1]; exact hr.2.1, hr.2.2⟩
theorem f18_fold {x S : List Int} {n : Nat} (hx : Win x) (hn : 1 ≤ n) (hn2 : n ≤ 8) (hS : S.length = n + 1) (hv : ∀ p, 0 ≤ p → p ≤ (n : Int) → rd S p = cut x.length n p) : Gives (fun k => T_ref18_Fold k x S) (fun r => r.length = n ∧ ∀ p, 0 ≤ p → p < (n : Int) → rd r p = pcs x n p) := by
 have x2 := hx.hi
 refine Gives.step ?_
 simp only [T_ref18_Fold]
 refine Gives.bind (Q := fun r => r.2.length = r.1 ∧ r.1 = n ∧ ∀ p, 0 ≤ p → p < (n : Int) → rd r.2 p = pcs x n p) ?_ fun r hr => ?_
 · refine Gives.loop (fun s => 1 ≤ s.2.1 ∧ s.2.1 ≤ (n : Int) + 1 ∧ (s.1 : Int) = s.2.1 - 1 ∧ s.2.2.length = s.1 ∧ ∀ p, 0 ≤ p → p < s.2.1 - 1 → rd s.2.2 p = pcs x n p) (fun s => ((n : Int) + 1 - s.2.1).toNat) ?_ ⟨by simp only []; omega, by simp only []; omega, rfl, rfl, fun p h1 h2 => by simp only at h2; omega⟩
   intro ⟨l, i, o⟩ ⟨i0, i1, i2, i3, i4⟩
   simp only at i0 i1 i2 i3 i4
   unfold T_ref18_Fold_l2
   simp only []
   rw [hS, w64_id (x := i - 1) (by omega) (by omega)]
   refine Gives.ite (fun c => Gives.opt (at_rd (by omega) (by omega)) ?_) fun c => Gives.now ⟨i3, by simp only []; omega, fun p h1 h2 => i4 p h1 (by omega)⟩
   have k1 := cut_range (m := (x.length : Int)) (n := (n : Int)) (p := i - 1) (by omega) (by omega) (by omega) (by omega)
   have k2 := cut_range (m := (x.length : Int)) (n := (n : Int)) (p := i) (by omega) (by omega) (by omega) (by omega)
   have k3 := cut_mono (m := (x.length : Int)) (n := (n : Int)) (p := i - 1) (q := i) (by omega) (by omega) (by omega)
   have s1 := hv (i - 1) (by omega) (by omega)
   have s2 := hv i (by omega) (by omega)
   have b1 := pc_bounds hx (i := cut x.length n (i - 1)) k1.1 k1.2
   rw [s1]
   refine Gives.bind (Q := fun r => r = pcs x n (i - 1)) ?_ fun r hr => ?_
   · refine Gives.loop (fun t => cut x.length n (i - 1) ≤ t.2 ∧ t.2 ≤ cut x.length n i ∧ t.1 = psum x t.2 - psum x (cut x.length n (i - 1))) (fun t => (cut x.length n i - t.2).toNat) ?_ ⟨by simp only []; omega, by simp only []; omega, by simp only []; omega⟩
     intro ⟨a, j⟩ ⟨j0, j1, j2⟩
     simp only at j0 j1 j2
     unfold T_ref18_Fold_l1
     simp only []
     refine Gives.opt (at_rd (by omega) (by omega)) ?_
     rw [s2]
     refine Gives.ite (fun cc => Gives.opt (at_rd (by omega) (by omega)) ?_) fun cc => Gives.now ?_
     · have ex := psum_succ (x := x) (i := j) (by omega) (by omega)
       have bj := pc_bounds hx (i := j) (by omega) (by omega)
       have sj := hx.smp.rd j
       rw [w64_id (x := a + rd x j) (by omega) (by omega), w64_id (x := j + 1) (by omega) (by omega)]
       exact Gives.now ⟨⟨by simp only []; omega, by simp only []; omega, by simp only []; omega⟩, by simp only []; omega⟩
     · have : j = cut x.length n i := by omega
       subst this
       unfold pcs
       rw [j2, show i - 1 + 1 = i by omega]
   subst hr
   rw [w64_id (x := i + 1) (by omega) (by omega), drop_take_len i3]
   refine Gives.pos (by unfold LIM; omega) (Gives.now ⟨⟨by simp only []; omega, by simp only []; omega, by simp only []; omega, by simp [i3], fun p h1 h2 => ?_⟩, by simp only []; omega⟩)
   simp only at h2 ⊢
   by_cases e : p = i - 1
   · rw [rd_app_1 h1 (by omega), e]
   · rw [rd_app_l (by omega)]; exact i4 p h1 (by omega)
 · rw [drop_take_len hr.1]
   exact Gives.now ⟨by rw [hr.1]; exact hr.2.1, hr.2.2⟩

/-! Chapter 18 of the document: centred sums, and all errors. -/
theorem f18_foldB {x S : List Int} {n : Nat} (x2 : x.length ≤ 32) (hb : ∀ i, 0 ≤ i → i ≤ (x.length : Int) → -4096000 ≤ psum x i ∧ psum x i ≤ 4096000) (hr : ∀ i, -128000 ≤ rd x i ∧ rd x i ≤ 128000) (hn : 1 ≤ n) (hn2 : n ≤ 8) (hS : S.length = n + 1) (hv : ∀ p, 0 ≤ p → p ≤ (n : Int) → rd S p = cut x.length n p) : Gives (fun k => T_ref18_Fold k x S) (fun r => r.length = n ∧ ∀ p, 0 ≤ p → p < (n : Int) → rd r p = pcs x n p) := by
 refine Gives.step ?_
 simp only [T_ref18_Fold]
 refine Gives.bind (Q := fun r => r.2.length = r.1 ∧ r.1 = n ∧ ∀ p, 0 ≤ p → p < (n : Int) → rd r.2 p = pcs x n p) ?_ fun r hr => ?_
 · refine Gives.loop (fun s => 1 ≤ s.2.1 ∧ s.2.1 ≤ (n : Int) + 1 ∧ (s.1 : Int) = s.2.1 - 1 ∧ s.2.2.length = s.1 ∧ ∀ p, 0 ≤ p → p < s.2.1 - 1 → rd s.2.2 p = pcs x n p) (fun s => ((n : Int) + 1 - s.2.1).toNat) ?_ ⟨by simp only []; omega, by simp only []; omega, rfl, rfl, fun p h1 h2 => by simp only at h2; omega⟩
   intro ⟨l, i, o⟩ ⟨i0, i1, i2, i3, i4⟩
   simp only at i0 i1 i2 i3 i4
   unfold T_ref18_Fold_l2
   simp only []
   rw [hS, w64_id (x := i - 1) (by omega) (by omega)]
   refine Gives.ite (fun c => Gives.opt (at_rd (by omega) (by omega)) ?_) fun c => Gives.now ⟨i3, by simp only []; omega, fun p h1 h2 => i4 p h1 (by omega)⟩
   have k1 := cut_range (m := (x.length : Int)) (n := (n : Int)) (p := i - 1) (by omega) (by omega) (by omega) (by omega)
   have k2 := cut_range (m := (x.length : Int)) (n := (n : Int)) (p := i) (by omega) (by omega) (by omega) (by omega)
   have k3 := cut_mono (m := (x.length : Int)) (n := (n : Int)) (p := i - 1) (q := i) (by omega) (by omega) (by omega)
   have s1 := hv (i - 1) (by omega) (by omega)
   have s2 := hv i (by omega) (by omega)
   have b1 := hb (cut x.length n (i - 1)) k1.1 k1.2
   rw [s1]
   refine Gives.bind (Q := fun r => r = pcs x n (i - 1)) ?_ fun r hr => ?_
   · refine Gives.loop (fun t => cut x.length n (i - 1) ≤ t.2 ∧ t.2 ≤ cut x.length n i ∧ t.1 = psum x t.2 - psum x (cut x.length n (i - 1))) (fun t => (cut x.length n i - t.2).toNat) ?_ ⟨by simp only []; omega, by simp only []; omega, by simp only []; omega⟩
     intro ⟨a, j⟩ ⟨j0, j1, j2⟩
     simp only at j0 j1 j2
     unfold T_ref18_Fold_l1
     simp only []
     refine Gives.opt (at_rd (by omega) (by omega)) ?_
     rw [s2]
     refine Gives.ite (fun cc => Gives.opt (at_rd (by omega) (by omega)) ?_) fun cc => Gives.now ?_
     · have ex := psum_succ (x := x) (i := j) (by omega) (by omega)
       have bj := hb j (by omega) (by omega)
       have sj := hr j
       rw [w64_id (x := a + rd x j) (by omega) (by omega), w64_id (x := j + 1) (by omega) (by omega)]
       exact Gives.now ⟨⟨by simp only []; omega, by simp only []; omega, by simp only []; omega⟩, by simp only []; omega⟩
     · have : j = cut x.length n i := by omega
       subst this
       unfold pcs
       rw [j2, show i - 1 + 1 = i by omega]
   subst hr
   rw [w64_id (x := i + 1) (by omega) (by omega), drop_take_len i3]
   refine Gives.pos (by unfold LIM; omega) (Gives.now ⟨⟨by simp only []; omega, by simp only []; omega, by simp only []; omega, by simp [i3], fun p h1 h2 => ?_⟩, by simp only []; omega⟩)
   simp only at h2 ⊢
   by_cases e : p = i - 1
   · rw [rd_app_1 h1 (by omega), e]
   · rw [rd_app_l (by omega)]; exact i4 p h1 (by omega)
 · rw [drop_take_len hr.1]
   exact Gives.now ⟨by rw [hr.1]; exact hr.2.1, hr.2.2⟩
/-- The centred samples. -/
def Cent (x c : List Int) : Prop := c.length = x.length ∧ ∀ i, 0 ≤ i → i < (x.length : Int) → rd c i = (x.length : Int) * rd x i - x.sum
theorem cent_psum {x c : List Int} (h : Cent x c) : ∀ n : Nat, n ≤ x.length → psum c n = (x.length : Int) * psum x n - n * x.sum
 | 0, _ => by
  have a := psum_zero c
  have b := psum_zero x
  simp only [Int.natCast_zero] at *
  rw [a, b]; simp
 | n + 1, hn => by
  have ih := cent_psum h n (by omega)
  have e1 := psum_succ (x := c) (i := n) (by omega) (by rw [h.1]; omega)
  have e2 := psum_succ (x := x) (i := n) (by omega) (by omega)
  have e3 := h.2 n (by omega) (by omega)
  rw [Int.natCast_add, Int.natCast_one, e1, e2, e3, ih]
  grind
theorem cent_pcs {x c : List Int} {n p : Int} (h : Cent x c) (hn : 1 ≤ n) (h0 : 0 ≤ p) (h1 : p < n) : pcs c n p = pcc x n p := by
 have k1 := cut_range (m := (x.length : Int)) hn (by omega) h0 (by omega)
 have k2 := cut_range (m := (x.length : Int)) (p := p + 1) hn (by omega) (by omega) (by omega)
 have q : ∀ i : Int, 0 ≤ i → i ≤ (x.length : Int) → psum c i = (x.length : Int) * psum x i - i * x.sum := fun i h0 h1 => by
  have := cent_psum h i.toNat (by omega)
  rwa [Int.toNat_of_nonneg h0] at this
 unfold pcc pcs
 rw [h.1, q _ k1.1 k1.2, q _ k2.1 k2.2]
 grind
theorem cent_bd {x c : List Int} (hx : Win x) (h : Cent x c) : (∀ i, 0 ≤ i → i ≤ (c.length : Int) → -4096000 ≤ psum c i ∧ psum c i ≤ 4096000) ∧ ∀ i, -128000 ≤ rd c i ∧ rd c i ≤ 128000 := by
 have x2 := hx.hi
 have b := pc_bounds hx (i := x.length) (by omega) (by omega)
 rw [psum_all] at b
 refine ⟨fun i h0 h1 => ?_, fun i => ?_⟩
 · have := cent_psum h i.toNat (by have := h.1; omega)
   rw [Int.toNat_of_nonneg h0] at this
   have p := pc_bounds hx (i := i) h0 (by have := h.1; omega)
   have e1 := prod_bound (a := (x.length : Int)) (b := psum x i) (A := 32) (B := 32000) (by omega) (by omega) (by omega) (by omega)
   have e2 := prod_bound (a := i) (b := x.sum) (A := 32) (B := 32000) (by omega) (by have := h.1; omega) (by omega) (by omega)
   omega
 · by_cases k : 0 ≤ i ∧ i < (x.length : Int)
   · rw [h.2 i k.1 k.2]
     have s := hx.smp.rd i
     have e1 := prod_bound (a := (x.length : Int)) (b := rd x i) (A := 32) (B := 1000) (by omega) (by omega) (by omega) (by omega)
     omega
   · by_cases k2 : i < 0
     · have e0 : rd c i = rd c 0 := by unfold rd; rw [show i.toNat = 0 by omega]; rfl
       have x1 := hx.lo
       rw [e0, h.2 0 (by omega) (by omega)]
       have s := hx.smp.rd 0
       have e1 := prod_bound (a := (x.length : Int)) (b := rd x 0) (A := 32) (B := 1000) (by omega) (by omega) (by omega) (by omega)
       omega
     · unfold rd
       rw [List.getD_eq_getElem?_getD, List.getElem?_eq_none (by have := h.1; omega)]
       simp
theorem rf_centred {x : List Int} (hx : Win x) : Gives (fun k => T_ref13_Centred k x) (fun r => r.2 = 0 ∧ Cent x r.1) := by
 have x1 := hx.lo
 have x2 := hx.hi
 have bs := pc_bounds hx (i := x.length) (by omega) (by omega)
 rw [psum_all] at bs
 refine Gives.step ?_
 simp only [T_ref13_Centred]
 refine Gives.bind (r12_windowG (x := x) (by omega)) fun e he => ?_
 rw [errM_win hx hx (by omega) (by omega)] at he
 subst he
 refine Gives.neg (by simp) (Gives.bind (Q := fun r => r = x.sum) ?_ fun s hs => Gives.bind (Q := fun r => r.2.length = r.1 ∧ r.1 = x.length ∧ ∀ p, 0 ≤ p → p < (x.length : Int) → rd r.2 p = (x.length : Int) * rd x p - x.sum) ?_ fun r hr => ?_)
 · refine Gives.loop (fun s => 0 ≤ s.2 ∧ s.2 ≤ (x.length : Int) ∧ s.1 = psum x s.2) (fun s => ((x.length : Int) - s.2).toNat) ?_ ⟨by simp only []; omega, by simp only []; omega, by simp only [psum_zero]⟩
   intro ⟨a, i⟩ ⟨i0, i1, i2⟩
   simp only at i0 i1 i2
   unfold T_ref13_Centred_l1
   simp only []
   refine Gives.ite (fun c => Gives.opt (at_rd i0 c) ?_) fun c => Gives.now ?_
   · have ex := psum_succ (x := x) (i := i) (by omega) (by omega)
     have bj := pc_bounds hx (i := i) (by omega) (by omega)
     have sj := hx.smp.rd i
     rw [w64_id (x := a + rd x i) (by omega) (by omega), w64_id (x := i + 1) (by omega) (by omega)]
     exact Gives.now ⟨⟨by simp only []; omega, by simp only []; omega, by simp only []; omega⟩, by simp only []; omega⟩
   · rw [i2, ← psum_all (x := x), show i = (x.length : Int) by omega]
 · subst hs
   refine Gives.loop (fun s => 0 ≤ s.2.1 ∧ s.2.1 ≤ (x.length : Int) ∧ (s.1 : Int) = s.2.1 ∧ s.2.2.length = s.1 ∧ ∀ p, 0 ≤ p → p < s.2.1 → rd s.2.2 p = (x.length : Int) * rd x p - x.sum) (fun s => ((x.length : Int) - s.2.1).toNat) ?_ ⟨by simp only []; omega, by simp only []; omega, rfl, rfl, fun p h1 h2 => by simp only at h2; omega⟩
   intro ⟨l, i, o⟩ ⟨i0, i1, i2, i3, i4⟩
   simp only at i0 i1 i2 i3 i4
   unfold T_ref13_Centred_l2
   simp only []
   refine Gives.ite (fun c => Gives.opt (at_rd i0 c) (Gives.pos (by unfold LIM; omega) ?_)) fun c => Gives.now ⟨i3, by simp only []; omega, fun p h1 h2 => i4 p h1 (by omega)⟩
   have sj := hx.smp.rd i
   have e1 := prod_bound (a := (x.length : Int)) (b := rd x i) (A := 32) (B := 1000) (by omega) (by omega) (by omega) (by omega)
   rw [w64_id (x := i + 1) (by omega) (by omega), w64_id (x := (x.length : Int) * rd x i) (by omega) (by omega), w64_id (x := (x.length : Int) * rd x i - x.sum) (by omega) (by omega), drop_take_len i3]
   refine Gives.now ⟨⟨by simp only []; omega, by simp only []; omega, by simp only []; omega, by simp [i3], fun p h1 h2 => ?_⟩, by simp only []; omega⟩
   simp only at h2 ⊢
   by_cases e : p = i
   · subst e; rw [rd_app_1 h1 (by omega)]
   · rw [rd_app_l (by omega)]; exact i4 p h1 (by omega)
 · rw [drop_take_len hr.1]
   exact Gives.now ⟨rfl, by rw [hr.1]; exact hr.2.1, hr.2.2⟩
/-- The error of a window's number of pieces. -/
def badN (m n : Int) : Prop := ¬ (1 ≤ n ∧ n ≤ 8 ∧ n ≤ m)
theorem f18_startsG {m n : Int} (h : m < 2 ∨ 32 < m ∨ badN m n) : Gives (fun k => T_ref18_Starts k m n) (fun r => r = ([], if m < 2 ∨ 32 < m then 8 else 1)) := by
 refine Gives.step ?_
 simp only [T_ref18_Starts]
 refine Gives.ite (fun c => Gives.now ?_) fun c => Gives.pos ?_ (Gives.now ?_)
 · rw [if_pos (by simpa using c)]
 · unfold badN at h; simp at c ⊢; omega
 · rw [if_neg (by simpa using c)]
theorem f18_centred {x : List Int} {n : Nat} (hx : Win x) (hn : 1 ≤ n) (hn2 : n ≤ 8) (hn3 : n ≤ x.length) : Gives (fun k => T_ref18_Centred k x n) (fun r => r.2 = 0 ∧ r.1.length = n ∧ ∀ p, 0 ≤ p → p < (n : Int) → rd r.1 p = pcc x n p) := by
 have x1 := hx.lo
 have x2 := hx.hi
 refine Gives.step ?_
 simp only [T_ref18_Centred]
 refine Gives.bind (rf_centred hx) fun c hc => Gives.neg (by simp [hc.1]) (Gives.bind (f18_starts (m := x.length) (n := n) x1 x2 hn hn2 hn3) fun S hS => Gives.neg (by simp [hS.1]) ?_)
 obtain ⟨c1, c2⟩ := hc
 have b := cent_bd hx c2
 refine Gives.bind (f18_foldB (by rw [c2.1]; exact x2) b.1 b.2 hn hn2 hS.2.1 (by rw [c2.1]; exact hS.2.2)) fun r hr => Gives.now ⟨rfl, hr.1, fun p h0 h1 => by rw [hr.2 p h0 h1, cent_pcs c2 (by omega) h0 h1]⟩
theorem f18_sums {x : List Int} {n : Nat} (hx : Win x) (hn : 1 ≤ n) (hn2 : n ≤ 8) (hn3 : n ≤ x.length) : Gives (fun k => T_ref18_Sums k x n) (fun r => r.2 = 0 ∧ r.1.length = n ∧ ∀ p, 0 ≤ p → p < (n : Int) → rd r.1 p = pcs x n p) := by
 have x1 := hx.lo
 have x2 := hx.hi
 refine Gives.step ?_
 simp only [T_ref18_Sums]
 refine Gives.bind (r12_windowG (x := x) (by omega)) fun e he => ?_
 rw [errM_win hx hx (by omega) (by omega)] at he
 subst he
 refine Gives.neg (by simp) (Gives.bind (f18_starts (m := x.length) (n := n) x1 x2 hn hn2 hn3) fun S hS => Gives.neg (by simp [hS.1]) ?_)
 exact Gives.bind (f18_fold hx hn hn2 hS.2.1 hS.2.2) fun r hr => Gives.now ⟨rfl, hr.1, hr.2⟩

/-! Chapter 13 of the document. -/
theorem rf_product {x y : List Int} (hx : Win x) (hy : Win y) (hl : x.length = y.length) : Gives (fun k => T_ref13_product k x y) (· = prodP x y) := by
 have x2 := hx.hi
 refine Gives.step ?_
 simp only [T_ref13_product]
 have sx := pc_bounds hx (i := x.length) (by omega) (by omega)
 have sy := pc_bounds hy (i := y.length) (by omega) (by omega)
 rw [psum_all] at sx sy
 have gb : ∀ n : Nat, -(1000000 * (n : Int)) ≤ sg (fun i => rd x i * rd y i) n ∧ sg (fun i => rd x i * rd y i) n ≤ 1000000 * (n : Int) := fun n => sg_bound fun j h1 h2 => by
  have s1 := hx.smp.rd j
  have s2 := hy.smp.rd j
  have := prod_bound (a := rd x j) (b := rd y j) (A := 1000) (B := 1000) s1.1 s1.2 s2.1 s2.2
  omega
 refine Gives.bind (Q := fun r => r.1 = sg (fun i => rd x i * rd y i) x.length ∧ r.2.1 = x.sum ∧ r.2.2 = y.sum) ?_ fun r hr => ?_
 · refine Gives.loop (fun s => 0 ≤ s.2.2.2 ∧ s.2.2.2 ≤ (x.length : Int) ∧ s.1 = sg (fun i => rd x i * rd y i) s.2.2.2.toNat ∧ s.2.1 = psum x s.2.2.2 ∧ s.2.2.1 = psum y s.2.2.2) (fun s => ((x.length : Int) - s.2.2.2).toNat) ?_ ⟨by simp only []; omega, by simp only []; omega, rfl, (psum_zero _).symm, (psum_zero _).symm⟩
   intro ⟨a, b, c, i⟩ ⟨i1, i2, i3, i4, i5⟩
   simp only at i1 i2 i3 i4 i5
   unfold T_ref13_product_l1
   simp only []
   refine Gives.ite (fun cc => Gives.opt (at_rd i1 cc) (Gives.opt (at_rd i1 (by omega)) ?_)) fun cc => Gives.now ?_
   · have e2 := psum_succ (x := x) i1 cc
     have e3 := psum_succ (x := y) i1 (by omega)
     have b2 := pc_bounds hx i1 (by omega)
     have b3 := pc_bounds hy i1 (by omega)
     have s1 := hx.smp.rd i
     have s2 := hy.smp.rd i
     have b4 := prod_bound (a := rd x i) (b := rd y i) (A := 1000) (B := 1000) s1.1 s1.2 s2.1 s2.2
     have g := gb i.toNat
     rw [← i3] at g
     rw [w64_id (x := rd x i * rd y i) (by omega) (by omega), w64_id (x := a + rd x i * rd y i) (by omega) (by omega), w64_id (x := b + rd x i) (by omega) (by omega), w64_id (x := c + rd y i) (by omega) (by omega), w64_id (x := i + 1) (by omega) (by omega)]
     refine Gives.now ⟨⟨by simp only []; omega, by simp only []; omega, ?_, by simp only []; omega, by simp only []; omega⟩, by simp only []; omega⟩
     simp only []
     rw [show (i + 1).toNat = i.toNat + 1 by omega, sg, ← i3, Int.toNat_of_nonneg i1]
   · have e : i = x.length := by omega
     subst e
     refine ⟨by rw [i3]; rfl, i4.trans psum_all, i5.trans ?_⟩
     rw [hl]; exact psum_all
 · obtain ⟨r1, r2, r3⟩ := hr
   have g := gb x.length
   rw [r1, r2, r3]
   have q1 := prod_bound (a := (x.length : Int)) (b := sg (fun i => rd x i * rd y i) x.length) (A := 32) (B := 32000000) (by omega) (by omega) (by omega) (by omega)
   have q2 := prod_bound (a := x.sum) (b := y.sum) (A := 32000) (B := 32000) (by omega) (by omega) (by omega) (by omega)
   rw [w64_id (x := (x.length : Int) * sg (fun i => rd x i * rd y i) x.length) (by omega) (by omega), w64_id (x := x.sum * y.sum) (by omega) (by omega), w64_id (by omega) (by omega)]
   exact Gives.now rfl
theorem rf_Product {x y : List Int} (hx : Win x) (hy : Win y) (hl : x.length = y.length) : Gives (fun n => T_ref13_Product n x y) (fun r => r.1 = prodP x y ∧ r.2 = 0) := by
 refine Gives.step ?_
 simp only [T_ref13_Product]
 refine Gives.bind (r12_two hx hy hl) fun v hv => ?_
 subst hv
 exact Gives.neg (by simp) (Gives.bind (rf_product hx hy hl) fun r hr => Gives.now ⟨hr, rfl⟩)

/-! Chapters 2 and 4 of the document. -/
theorem rtf_uniq {v r : Int} (h0 : 0 ≤ v) (h1 : v ≤ 4611686018427387904) (r0 : 0 ≤ r) (r1 : r * r ≤ v) (r2 : v < (r + 1) * (r + 1)) : r = rtf v := by
 obtain ⟨_, a0, _, a1, a2⟩ := rt_rtf h0 h1
 generalize rtf v = s at *
 rcases Int.lt_trichotomy r s with c | c | c
 · have := Int.mul_le_mul (a := r + 1) (b := r + 1) (c := s) (d := s) (by omega) (by omega) (by omega) (by omega)
   omega
 · exact c
 · have := Int.mul_le_mul (a := s + 1) (b := s + 1) (c := r) (d := r) (by omega) (by omega) (by omega) (by omega)
   omega
theorem r02_floor {v : Int} (h0 : 0 ≤ v) (h1 : v ≤ 4611686018427387904) : Gives (fun k => T_ref02_Floor k v) (fun r => r = rtf v) := by
 have small : ∀ r : Int, 0 ≤ r → r * r ≤ v → r ≤ 2147483648 := fun r r0 r1 => by
  refine Decidable.byContradiction fun hn => ?_
  have := Int.mul_le_mul (a := 2147483649) (b := 2147483649) (c := r) (d := r) (by omega) (by omega) (by omega) (by omega)
  omega
 refine Gives.step ?_
 simp only [T_ref02_Floor]
 refine Gives.neg (by simp; omega) (Gives.bind (Q := fun r => r = rtf v) ?_ fun r hr => Gives.now hr)
 refine Gives.loop (fun s => ∃ k : Nat, s.2 = ((2 ^ k / 2 : Nat) : Int) ∧ k ≤ 32 ∧ 0 ≤ s.1 ∧ s.1 * s.1 ≤ v ∧ v < (s.1 + ((2 ^ k : Nat) : Int)) * (s.1 + ((2 ^ k : Nat) : Int))) (fun s => s.2.toNat) ?_ ⟨32, by decide, by omega, by simp only []; omega, by simp only []; omega, by simp only []; omega⟩
 intro ⟨r, b⟩ ⟨k, e, hk, r0, r1, r2⟩
 simp only at e r0 r1 r2
 have rs := small r r0 r1
 unfold T_ref02_Floor_l1
 simp only []
 cases k with
 | zero =>
  simp at e
  subst e
  refine Gives.neg (by omega) (Gives.now (rtf_uniq h0 h1 r0 r1 (by simpa using r2)))
 | succ k =>
  have p : 2 ^ (k + 1) = 2 * 2 ^ k := by rw [Nat.pow_succ, Nat.mul_comm]
  have p0 : 0 < 2 ^ k := Nat.pow_pos (by omega)
  have p1 : 2 ^ k ≤ 2 ^ 31 := Nat.pow_le_pow_right (by omega) (by omega)
  rw [p] at e r2
  obtain ⟨w, hw⟩ : ∃ w, 2 ^ k = w := ⟨_, rfl⟩
  rw [hw] at e r2 p0 p1
  have e2 : b = w := by rw [e]; omega
  subst e2
  rw [w64_id (x := r + w) (by omega) (by omega)]
  have ed : (w : Int).fdiv (2 ^ 1) = ((w / 2 : Nat) : Int) := by
   rw [Int.fdiv_eq_ediv_of_nonneg _ (by omega)]; rfl
  rw [ed]
  refine Gives.pos (by omega) (Gives.bind (Q := fun (t : Int) => 0 ≤ t ∧ t * t ≤ v ∧ v < (t + (w : Int)) * (t + (w : Int))) ?_ fun t ht => Gives.now ⟨⟨k, by rw [hw], by omega, ht.1, ht.2.1, by rw [hw]; exact ht.2.2⟩, by simp only []; omega⟩)
  have e3 : r + w + (w : Int) = r + ((2 * w : Nat) : Int) := by omega
  by_cases c : r + w ≤ 2147483648
  · have q := prod_bound (a := r + w) (b := r + w) (A := 2147483648) (B := 2147483648) (by omega) (by omega) (by omega) (by omega)
    rw [w64_id (x := (r + w) * (r + w)) (by omega) (by omega)]
    refine Gives.ite (fun d => Gives.now ⟨by omega, ?_, by rw [e3]; exact r2⟩) fun d => Gives.now ⟨r0, r1, ?_⟩
    · simp at d; omega
    · simp at d; omega
  · refine Gives.neg (by simp [c]) (Gives.now ⟨r0, r1, ?_⟩)
    have := Int.mul_le_mul (a := 2147483649) (b := 2147483649) (c := r + w) (d := r + w) (by omega) (by omega) (by omega) (by omega)
    omega
theorem r02_quotient {t e : Int} (h : -1073741824 ≤ t ∧ t ≤ 1073741824 ∧ 1 ≤ e ∧ e ≤ 4611686018427387904) : Gives (fun k => T_ref02_Quotient k t e) (fun r => r = (QQ t e, 0)) := by
 obtain ⟨t0, t1, e0, e1⟩ := h
 have z := sq_nonneg t
 have q := prod_bound (a := t) (b := t) (A := 1073741824) (B := 1073741824) t0 t1 t0 t1
 have v0 : 0 ≤ t * t / e := Int.ediv_nonneg z (by omega)
 have v1 : t * t / e ≤ t * t := Int.ediv_le_self _ z
 have v2 := Int.mul_ediv_self_le (x := t * t) (k := e) (by omega)
 have v3 := Int.mul_ediv_add_emod (t * t) e
 have v4 := Int.emod_nonneg (t * t) (show e ≠ 0 by omega)
 obtain ⟨_, r0, r1, r2, r3⟩ := rt_rtf v0 (by omega)
 refine Gives.step ?_
 simp only [T_ref02_Quotient]
 rw [w64_id (x := t * t) (by omega) (by omega), Int.tdiv_eq_ediv_of_nonneg z, Int.tmod_eq_emod_of_nonneg z, w64_id (x := t * t / e) (by omega) (by omega), w64_id (x := t * t / e + 1) (by omega) (by omega)]
 unfold QQ
 refine Gives.neg (by simp; omega) (Gives.pos (by omega) (Gives.ite (fun c => ?_) fun c => ?_))
 · rw [if_pos c]
   exact Gives.bind (r02_floor v0 (by omega)) fun r hr => Gives.now (by rw [hr])
 · rw [if_neg c]
   have rr := sq_nonneg (rtf (t * t / e))
   have m : rtf (t * t / e) * rtf (t * t / e) * e ≤ t * t / e * e := Int.mul_le_mul_of_nonneg_right r2 (by omega)
   rw [Int.mul_comm (t * t / e) e] at m
   refine Gives.pos (by omega) (Gives.bind (Q := fun c => c = if t * t % e = 0 then t * t / e else t * t / e + 1) (Gives.ite (fun d => Gives.now ?_) fun d => Gives.now ?_) fun u hu => ?_)
   · rw [if_neg (by simpa using d)]
   · rw [if_pos (by simpa using d)]
   · refine Gives.bind (Q := fun r => r = if rtf (t * t / e) * rtf (t * t / e) * e < t * t then rtf (t * t / e) + 1 else rtf (t * t / e)) ?_ fun r hr => ?_
     · have ub : 0 ≤ u ∧ u ≤ 4611686018427387904 := by rw [hu]; split <;> omega
       refine Gives.step ?_
       simp only [T_ref02_Ceil]
       refine Gives.bind (r02_floor ub.1 ub.2) fun f hf => ?_
       obtain ⟨_, f0, f1, f2, f3⟩ := rt_rtf ub.1 ub.2
       rw [← hf] at f0 f1 f2 f3
       have ff := sq_nonneg f
       rw [w64_id (x := f * f) (by omega) (by omega), w64_id (x := f + 1) (by omega) (by omega)]
       generalize hv : t * t / e = v at *
       generalize rtf v = r at *
       by_cases d : t * t % e = 0
       · rw [if_pos d] at hu
         subst hu
         have fr : f = r := by
          rcases Int.lt_trichotomy f r with c | c | c
          · have := Int.mul_le_mul (a := f + 1) (b := f + 1) (c := r) (d := r) (by omega) (by omega) (by omega) (by omega)
            omega
          · exact c
          · have := Int.mul_le_mul (a := r + 1) (b := r + 1) (c := f) (d := f) (by omega) (by omega) (by omega) (by omega)
            omega
         subst fr
         have ve : e * u = t * t := by omega
         have iff1 : f * f * e < t * t ↔ f * f < u := by
          rw [← ve, Int.mul_comm e u]
          exact ⟨fun h => Int.lt_of_mul_lt_mul_right h (by omega), fun h => Int.mul_lt_mul_of_pos_right h (by omega)⟩
         refine Gives.ite (fun g => Gives.now ?_) fun g => Gives.now ?_
         · rw [if_pos (iff1.2 (by simp at g; omega))]
         · rw [if_neg fun h => g (by simp; have := iff1.1 h; omega)]
       · rw [if_neg d] at hu
         subst hu
         have lt : r * r * e < t * t := by omega
         rw [if_pos lt]
         have rr1 : (r + 1) * (r + 1) = r * r + r + r + 1 := by grind
         have ff1 : (f + 1) * (f + 1) = f * f + f + f + 1 := by grind
         refine Gives.ite (fun g => Gives.now ?_) fun g => Gives.now ?_
         · have g' : f * f < v + 1 := by simp at g; omega
           have : f = r := by
            rcases Int.lt_trichotomy f r with c | c | c
            · have := Int.mul_le_mul (a := f + 1) (b := f + 1) (c := r) (d := r) (by omega) (by omega) (by omega) (by omega)
              omega
            · exact c
            · have := Int.mul_le_mul (a := r + 1) (b := r + 1) (c := f) (d := f) (by omega) (by omega) (by omega) (by omega)
              omega
           rw [this]
         · have g' : f * f = v + 1 := by simp at g; omega
           have : f = r + 1 := by
            rcases Int.lt_trichotomy f (r + 1) with c | c | c
            · have := Int.mul_le_mul (a := f) (b := f) (c := r) (d := r) (by omega) (by omega) (by omega) (by omega)
              omega
            · exact c
            · have := Int.mul_le_mul (a := r + 2) (b := r + 2) (c := f) (d := f) (by omega) (by omega) (by omega) (by omega)
              have : (r + 2) * (r + 2) = r * r + r + r + r + r + 4 := by grind
              omega
           exact this
     · have rb : 0 ≤ r ∧ r ≤ 2147483649 := by rw [hr]; split <;> omega
       rw [w64_id (x := 0 - r) (by omega) (by omega), hr, Int.zero_sub]
       exact Gives.now rfl
theorem r02_quotient0 {t : Int} : Gives (fun k => T_ref02_Quotient k t 0) (fun r => r.1 = 0) := by
 refine Gives.step ?_
 simp only [T_ref02_Quotient]
 exact Gives.pos (by simp) (Gives.now rfl)
theorem r04_down {a b : Int} (hb : 0 < b) (hb2 : b ≤ 1000000) (ha : -1000000000000 ≤ a) (ha2 : a ≤ 1000000000000) : Gives (fun k => T_ref04_Down k a b) (fun r => r = a / b) := by
 have e := Int.mul_tdiv_add_tmod a b
 have r1 := Int.tmod_lt_of_pos a hb
 have r2 : -b < a.tmod b := by
  have := Int.tmod_lt_of_pos (-a) hb
  rw [Int.neg_tmod] at this
  omega
 have q1 : -1000000000000 ≤ a.tdiv b ∧ a.tdiv b ≤ 1000000000000 := by
  have h := Int.natAbs_tdiv_le_natAbs a b
  omega
 refine Gives.step ?_
 simp only [T_ref04_Down]
 refine Gives.pos (by omega) (Gives.pos (by omega) (Gives.bind (Q := fun r => r = a / b) ?_ fun r hr => Gives.now hr))
 rw [w64_id (x := a.tdiv b) (by omega) (by omega), w64_id (x := a.tdiv b - 1) (by omega) (by omega)]
 refine Gives.ite (fun c => Gives.now ?_) fun c => Gives.now ?_
 · refine ((Int.ediv_emod_unique hb (r := a.tmod b + b) (q := a.tdiv b - 1)).2 ⟨?_, by omega, by omega⟩).1.symm
   rw [Int.mul_sub, Int.mul_one]; omega
 · exact ((Int.ediv_emod_unique hb (r := a.tmod b) (q := a.tdiv b)).2 ⟨by omega, by omega, by omega⟩).1.symm

/-! Schemes of any kind. -/
def MsOk (kd bd gp : Int) : Prop := 1 ≤ kd ∧ kd ≤ 5 ∧ 0 ≤ bd ∧ bd ≤ 32 ∧ (bd = 0 ∨ kd = 4) ∧ -1000 ≤ gp ∧ gp ≤ 1000 ∧ (gp = 0 ∨ kd = 5)
instance {kd bd gp : Int} : Decidable (MsOk kd bd gp) := by unfold MsOk; infer_instance
def CutsOk (cuts : List Int) : Prop := (∀ i, 0 ≤ i → i < (cuts.length : Int) → -2000 ≤ rd cuts i ∧ rd cuts i ≤ 2000) ∧ ∀ i, 0 < i → i < (cuts.length : Int) → rd cuts (i - 1) < rd cuts i
theorem SchOk_iff {kd bd gp len n : Int} {cuts : List Int} : SchOk kd bd gp len n cuts ↔ MsOk kd bd gp ∧ 2 ≤ len ∧ len ≤ 32 ∧ 1 ≤ n ∧ n ≤ 8 ∧ n ≤ len ∧ cuts.length ≤ 15 ∧ CutsOk cuts :=
 ⟨fun h => ⟨⟨h.k1, h.k2, h.b1, h.b2, h.b3, h.g1, h.g2, h.g3⟩, h.l1, h.l2, h.n1, h.n2, h.n3, h.c1, h.c2, h.c3⟩, fun ⟨⟨a1, a2, a3, a4, a5, a6, a7, a8⟩, b1, b2, b3, b4, b5, b6, b7, b8⟩ => ⟨a1, a2, a3, a4, a5, a6, a7, a8, b1, b2, b3, b4, b5, b6, b7, b8⟩⟩
theorem ms_checkG {kd bd gp : Int} : Gives (fun k => T_measure_Check k kd bd gp) (fun r => (r = 0 ∧ MsOk kd bd gp) ∨ (r = 9 ∧ ¬ MsOk kd bd gp)) := by
 refine Gives.step ?_
 simp only [T_measure_Check]
 refine Gives.bind (Q := fun r => (r == (⟨#[]⟩ : ByteArray)) = decide (¬ (1 ≤ kd ∧ kd ≤ 5))) ?_ fun v hv => Gives.bind (Q := fun b => b = decide (¬ MsOk kd bd gp)) ?_ fun b hb => ?_
 · refine Gives.step ?_
   simp only [T_measure_name]
   refine Gives.ite (fun c => Gives.now ?_) fun c1 => Gives.ite (fun c => Gives.now ?_) fun c2 => Gives.ite (fun c => Gives.now ?_) fun c3 => Gives.ite (fun c => Gives.now ?_) fun c4 => Gives.ite (fun c => Gives.now ?_) fun c5 => Gives.now ?_
   · subst c; decide +kernel
   · subst c; decide +kernel
   · subst c; decide +kernel
   · subst c; decide +kernel
   · subst c; decide +kernel
   · rw [decide_eq_true (by omega)]; decide +kernel
 · rw [hv, Bool.and_true]
   refine Gives.ite (fun c => Gives.now ?_) fun c => ?_
   · rw [c]
     have : ¬ MsOk kd bd gp := fun h => by simp at c; have := h.1; have := h.2.1; omega
     rw [decide_eq_true this]
   · have ck : 1 ≤ kd ∧ kd ≤ 5 := by simpa using c
     refine Gives.ite (fun d => Gives.now ?_) fun d => Gives.now ?_
     · rw [d]
       have : ¬ MsOk kd bd gp := fun ⟨a1, a2, a3, a4, a5, _⟩ => by simp at d; omega
       rw [decide_eq_true this]
     · by_cases e : MsOk kd bd gp
       · have e' := e
         obtain ⟨_, _, _, _, _, a6, a7, a8⟩ := e
         rw [decide_eq_false (fun h : ¬ MsOk kd bd gp => h e')]
         simp; omega
       · have : (decide (gp < -1000) || decide (1000 < gp) || !decide (gp = 0) && !decide (kd = 5)) = true := by
          unfold MsOk at e
          simp at d ⊢
          omega
         rw [this, decide_eq_true e]
 · subst hb
   refine Gives.ite (fun c => Gives.now (.inr ⟨rfl, by simpa using c⟩)) fun c => Gives.now (.inl ⟨rfl, by simpa using c⟩)
theorem r17_checkG {kd bd gp : Int} : Gives (fun k => T_ref17_Check k kd bd gp) (fun r => (r = 0 ∧ MsOk kd bd gp) ∨ (r = 9 ∧ ¬ MsOk kd bd gp)) := by
 refine Gives.step ?_
 simp only [T_ref17_Check]
 refine Gives.bind (Q := fun b => b = decide (¬ MsOk kd bd gp)) ?_ fun b hb => ?_
 · refine Gives.ite (fun d => Gives.now ?_) fun d => Gives.bind (Q := fun _ => True) ?_ fun _ _ => Gives.now ?_
   · have : ¬ MsOk kd bd gp := fun ⟨a1, a2, a3, a4, a5, _⟩ => by simp at d; omega
     rw [decide_eq_true this]
   · refine Gives.step ?_
     simp only [T_ref04_Sample]
     exact Gives.now trivial
   · by_cases e : MsOk kd bd gp
     · have e' := e
       obtain ⟨_, _, _, _, _, a6, a7, a8⟩ := e
       rw [decide_eq_false (fun h : ¬ MsOk kd bd gp => h e')]
       simp; omega
     · have : (!(decide (-1000 ≤ gp) && decide (gp ≤ 1000)) || !decide (kd = 5) && !decide (gp = 0)) = true := by
        unfold MsOk at e
        simp at d ⊢
        omega
       rw [this, decide_eq_true e]
 · subst hb
   refine Gives.ite (fun c => Gives.now (.inr ⟨rfl, by simpa using c⟩)) fun c => Gives.now (.inl ⟨rfl, by simpa using c⟩)
theorem w_checkG {kd bd gp len n : Int} {cuts : List Int} (hl : cuts.length ≤ 1000) : Gives (fun k => T_word_Check k kd bd gp len n cuts) (fun r => (r = 0 ∧ SchOk kd bd gp len n cuts) ∨ (r = 10 ∧ ¬ SchOk kd bd gp len n cuts)) := by
 refine Gives.step ?_
 simp only [T_word_Check, SchOk_iff]
 refine Gives.bind ms_checkG fun e he => Gives.ite (fun c => Gives.now (.inr ⟨rfl, fun ⟨a, b1, b2, b3, b4, b5, b6, _⟩ => ?_⟩)) fun c => Gives.bind (Q := fun r => (r = .inl () ∧ CutsOk cuts) ∨ (r = .inr () ∧ ¬ CutsOk cuts)) ?_ fun r hr => ?_
 · rcases he with ⟨rfl, _⟩ | ⟨rfl, h⟩
   · simp at c; omega
   · exact h a
 · refine Gives.loop (fun s => 0 ≤ s ∧ s ≤ (cuts.length : Int) ∧ (∀ i, 0 ≤ i → i < s → -2000 ≤ rd cuts i ∧ rd cuts i ≤ 2000) ∧ ∀ i, 0 < i → i < s → rd cuts (i - 1) < rd cuts i) (fun s => ((cuts.length : Int) - s).toNat) ?_ ⟨by omega, by omega, fun i h0 h1 => by omega, fun i h0 h1 => by omega⟩
   intro s ⟨i0, i1, i2, i3⟩
   unfold T_word_Check_l1
   refine Gives.ite (fun cc => Gives.opt (at_rd i0 cc) (Gives.bind (Q := fun b => b = decide (¬ ((-2000 ≤ rd cuts s ∧ rd cuts s ≤ 2000) ∧ (0 < s → rd cuts (s - 1) < rd cuts s)))) ?_ fun b hb => ?_)) fun cc => Gives.now (.inl ⟨rfl, fun i h0 h1 => i2 i h0 (by omega), fun i h0 h1 => i3 i h0 (by omega)⟩)
   · refine Gives.ite (fun d => Gives.now ?_) fun d => Gives.ite (fun d2 => ?_) fun d2 => Gives.now ?_
     · have : ¬ ((-2000 ≤ rd cuts s ∧ rd cuts s ≤ 2000) ∧ (0 < s → rd cuts (s - 1) < rd cuts s)) := fun h => by simp at d; omega
       rw [decide_eq_true this]
     · rw [w64_id (x := s - 1) (by omega) (by omega)]
       refine Gives.opt (at_rd (by omega) (by omega)) (Gives.now ?_)
       rw [decide_eq_decide]
       simp at d
       constructor
       · intro h h'; have := h'.2 d2; omega
       · intro h
         refine Decidable.byContradiction fun hn => h ⟨by omega, fun _ => by omega⟩
     · rw [decide_eq_false]
       simp at d
       intro h
       exact h ⟨by omega, fun h => absurd h d2⟩
   · subst hb
     rw [w64_id (x := s + 1) (by omega) (by omega)]
     refine Gives.ite (fun d => Gives.now (.inr ⟨rfl, fun h => ?_⟩)) fun d => Gives.now ⟨⟨by omega, by omega, fun i h0 h1 => ?_, fun i h0 h1 => ?_⟩, by omega⟩
     · rw [decide_eq_true_eq] at d
       exact d ⟨h.1 s i0 cc, fun h0 => h.2 s h0 cc⟩
     · rw [decide_eq_true_eq, Classical.not_not] at d
       by_cases e : i = s
       · subst e; exact d.1
       · exact i2 i h0 (by omega)
     · rw [decide_eq_true_eq, Classical.not_not] at d
       by_cases e : i = s
       · subst e; exact d.2 h0
       · exact i3 i h0 (by omega)
 · have ce : e = 0 := by simp at c; omega
   have m : MsOk kd bd gp := by
    rcases he with ⟨_, h⟩ | ⟨h, _⟩
    · exact h
    · omega
   rcases hr with ⟨rfl, h⟩ | ⟨rfl, h⟩
   · refine Gives.now (.inl ⟨rfl, m, ?_⟩)
     simp at c
     exact ⟨by omega, by omega, by omega, by omega, by omega, by omega, h⟩
   · exact Gives.now (.inr ⟨rfl, fun ⟨_, _, _, _, _, _, _, b⟩ => h b⟩)
theorem r19_checkG {kd bd gp len n : Int} {cuts : List Int} (hl : cuts.length ≤ 1000) : Gives (fun k => T_ref19_Check k kd bd gp len n cuts) (fun r => (r = 0 ∧ SchOk kd bd gp len n cuts) ∨ (r = 10 ∧ ¬ SchOk kd bd gp len n cuts)) := by
 refine Gives.step ?_
 simp only [T_ref19_Check, SchOk_iff]
 refine Gives.bind r17_checkG fun e he => Gives.ite (fun c => Gives.now (.inr ⟨rfl, fun ⟨a, b1, b2, b3, b4, b5, b6, _⟩ => ?_⟩)) fun c => Gives.bind (Q := fun r => (r = .inl () ∧ CutsOk cuts) ∨ (r = .inr () ∧ ¬ CutsOk cuts)) ?_ fun r hr => ?_
 · rcases he with ⟨rfl, _⟩ | ⟨rfl, h⟩
   · simp at c; omega
   · exact h a
 · refine Gives.loop (fun s => 0 ≤ s ∧ s ≤ (cuts.length : Int) ∧ (∀ i, 0 ≤ i → i < s → -2000 ≤ rd cuts i ∧ rd cuts i ≤ 2000) ∧ ∀ i, 0 < i → i < s → rd cuts (i - 1) < rd cuts i) (fun s => ((cuts.length : Int) - s).toNat) ?_ ⟨by omega, by omega, fun i h0 h1 => by omega, fun i h0 h1 => by omega⟩
   intro s ⟨i0, i1, i2, i3⟩
   unfold T_ref19_Check_l1
   refine Gives.ite (fun cc => Gives.bind (Q := fun b => b = decide (¬ ((-2000 ≤ rd cuts s ∧ rd cuts s ≤ 2000) ∧ (0 < s → rd cuts (s - 1) < rd cuts s)))) (Gives.opt (at_rd i0 cc) ?_) fun b hb => ?_) fun cc => Gives.now (.inl ⟨rfl, fun i h0 h1 => i2 i h0 (by omega), fun i h0 h1 => i3 i h0 (by omega)⟩)
   · refine Gives.ite (fun d => Gives.now ?_) fun d => Gives.ite (fun d2 => ?_) fun d2 => Gives.now ?_
     · have : ¬ ((-2000 ≤ rd cuts s ∧ rd cuts s ≤ 2000) ∧ (0 < s → rd cuts (s - 1) < rd cuts s)) := fun h => by simp at d; omega
       rw [decide_eq_true this]
     · rw [w64_id (x := s - 1) (by omega) (by omega)]
       refine Gives.opt (at_rd (by omega) (by omega)) (Gives.now ?_)
       rw [decide_eq_decide]
       simp at d
       constructor
       · intro h h'; have := h'.2 d2; omega
       · intro h
         refine Decidable.byContradiction fun hn => h ⟨by omega, fun _ => by omega⟩
     · rw [decide_eq_false]
       simp at d
       intro h
       exact h ⟨by omega, fun h => absurd h d2⟩
   · subst hb
     rw [w64_id (x := s + 1) (by omega) (by omega)]
     refine Gives.ite (fun d => Gives.now (.inr ⟨rfl, fun h => ?_⟩)) fun d => Gives.now ⟨⟨by omega, by omega, fun i h0 h1 => ?_, fun i h0 h1 => ?_⟩, by omega⟩
     · rw [decide_eq_true_eq] at d
       exact d ⟨h.1 s i0 cc, fun h0 => h.2 s h0 cc⟩
     · rw [decide_eq_true_eq, Classical.not_not] at d
       by_cases e : i = s
       · subst e; exact d.1
       · exact i2 i h0 (by omega)
     · rw [decide_eq_true_eq, Classical.not_not] at d
       by_cases e : i = s
       · subst e; exact d.2 h0
       · exact i3 i h0 (by omega)
 · have ce : e = 0 := by simp at c; omega
   have m : MsOk kd bd gp := by
    rcases he with ⟨_, h⟩ | ⟨h, _⟩
    · exact h
    · omega
   rcases hr with ⟨rfl, h⟩ | ⟨rfl, h⟩
   · refine Gives.now (.inl ⟨rfl, m, ?_⟩)
     simp at c
     exact ⟨by omega, by omega, by omega, by omega, by omega, by omega, h⟩
   · exact Gives.now (.inr ⟨rfl, fun ⟨_, _, _, _, _, _, _, b⟩ => h b⟩)

/-! Chapter 19 of the document: coordinates and full words. -/
theorem r19_coordinates {kd bd gp n : Int} {cuts x : List Int} (h : SchOk kd bd gp x.length n cuts) (hx : Win x) : Gives (fun k => T_ref19_Coordinates k kd bd gp x.length n cuts x) (fun r => r.2 = 0 ∧ (r.1.length : Int) = n ∧ ∀ p, 0 ≤ p → p < n → rd r.1 p = coo kd x n p) := by
 have x1 := hx.lo
 have x2 := hx.hi
 have n1 := h.n1
 have n2 := h.n2
 have n3 := h.n3
 have c1 := h.c1
 have en := energy_ok hx
 obtain ⟨m, rfl⟩ : ∃ m : Nat, n = m := ⟨n.toNat, by omega⟩
 have hl : ∀ p, 0 ≤ p → p < (m : Int) → 1 ≤ cut x.length m (p + 1) - cut x.length m p := fun p h0 h1 => (wt_ok (m := x.length) (n := m) (p := p) x2 (by omega) (by omega) (by omega) h0 h1).2.2.1
 refine Gives.step ?_
 simp only [T_ref19_Coordinates]
 refine Gives.bind (Q := fun r => r = 0) ?_ fun e he => ?_
 · refine Gives.step ?_
   simp only [T_ref19_Fits]
   refine Gives.bind (r19_checkG (by omega)) fun e he => ?_
   rcases he with ⟨rfl, _⟩ | ⟨_, hn⟩
   · exact Gives.neg (by simp) (Gives.neg (by simp) (Gives.bind (r12_samples hx) fun v hv => Gives.now hv))
   · exact absurd h hn
 subst he
 refine Gives.neg (by simp) (Gives.bind (f18_starts (m := x.length) (n := m) x1 x2 (by omega) (by omega) (by omega)) fun S hS => Gives.bind (f18_sums (n := m) hx (by omega) (by omega) (by omega)) fun a ha => Gives.bind (f18_centred (n := m) hx (by omega) (by omega) (by omega)) fun b hb => Gives.bind (rf_Product hx hx rfl) fun E hE => ?_)
 obtain ⟨_, S2, S3⟩ := hS
 obtain ⟨_, a2, a3⟩ := ha
 obtain ⟨_, b2, b3⟩ := hb
 have e1 : w64 ((x.length : Int) * E.1) = (x.length : Int) * selfP x := by
  rw [hE.1, ← selfP_prod, w64_id (by omega) (by omega)]
 rw [a2]
 refine Gives.bind (Q := fun r => r.2.length = r.1 ∧ r.1 = m ∧ ∀ p, 0 ≤ p → p < (m : Int) → rd r.2 p = coo kd x m p) ?_ fun r hr => Gives.now (by rw [drop_take_len hr.1]; exact ⟨rfl, by simp only []; omega, hr.2.2⟩)
 refine Gives.loop (fun s => 0 ≤ s.2.1 ∧ s.2.1 ≤ (m : Int) ∧ (s.1 : Int) = s.2.1 ∧ s.2.2.length = s.1 ∧ ∀ p, 0 ≤ p → p < s.2.1 → rd s.2.2 p = coo kd x m p) (fun s => ((m : Int) - s.2.1).toNat) ?_ ⟨by simp only []; omega, by simp only []; omega, rfl, rfl, fun p h0 h1 => by simp only at h1; omega⟩
 intro ⟨l, i, o⟩ ⟨i0, i1, i2, i3, i4⟩
 simp only at i0 i1 i2 i3 i4
 unfold T_ref19_Coordinates_l1
 simp only []
 rw [w64_id (x := i + 1) (by omega) (by omega)]
 refine Gives.ite (fun c => Gives.opt (at_rd (by omega) (by omega)) (Gives.opt (at_rd i0 (by omega)) (Gives.opt (at_rd i0 (by omega)) ?_))) fun c => Gives.now ⟨i3, by simp only []; omega, fun p h0 h1 => i4 p h0 (by omega)⟩
 have k1 := cut_range (m := (x.length : Int)) (n := (m : Int)) (p := i) n1 (by omega) i0 (by omega)
 have k2 := cut_range (m := (x.length : Int)) (n := (m : Int)) (p := i + 1) n1 (by omega) (by omega) (by omega)
 have hli := hl i i0 c
 have bs := pcs_bound hx n1 i0 c
 have bc := pcc_bound hx n1 i0 c
 rw [S3 i i0 (by omega), S3 (i + 1) (by omega) (by omega), a3 i i0 c, w64_id (x := cut x.length m (i + 1) - cut x.length m i) (by omega) (by omega), e1]
 refine Gives.bind (r04_down (by omega) (by omega) (by omega) (by omega)) fun d hd => ?_
 refine Gives.bind (Q := fun r => r = coo kd x m i) ?_ fun r hr => ?_
 · unfold coo
   refine Gives.ite (fun k => Gives.opt (at_rd i0 (by omega)) ?_) fun k => Gives.ite (fun k3 => Gives.opt (at_rd i0 (by omega)) ?_) fun k3 => Gives.now ?_
   · rw [if_pos k, b3 i i0 c]
     have lp := prod_bound (a := (x.length : Int)) (b := cut x.length m (i + 1) - cut x.length m i) (A := 32) (B := 32) (by omega) (by omega) (by omega) (by omega)
     have l0 := Int.mul_pos (show 0 < (x.length : Int) by omega) (show 0 < cut x.length m (i + 1) - cut x.length m i by omega)
     rw [w64_id (x := (x.length : Int) * (cut x.length m (i + 1) - cut x.length m i)) (by omega) (by omega)]
     exact Gives.bind (r04_down l0 (by omega) (by omega) (by omega)) fun r hr => Gives.now hr
   · rw [if_neg k, if_pos k3, b3 i i0 c, w64_id (x := 64 * pcc x m i) (by omega) (by omega)]
     by_cases z : (x.length : Int) * selfP x = 0
     · rw [if_pos z, z]
       exact Gives.bind r02_quotient0 fun r hr => Gives.now hr
     · rw [if_neg z]
       exact Gives.bind (r02_quotient ⟨by omega, by omega, by omega, by omega⟩) fun r hr => Gives.now (by rw [hr])
   · rw [if_neg k, if_neg k3]; exact hd
 · rw [drop_take_len i3]
   refine Gives.pos (by unfold LIM; omega) (Gives.now ⟨⟨by simp only []; omega, by simp only []; omega, by simp only []; omega, by simp [i3], fun p h0 h1 => ?_⟩, by simp only []; omega⟩)
   simp only at h1 ⊢
   by_cases e : p = i
   · subst e; rw [rd_app_1 h0 (by omega), hr]
   · rw [rd_app_l (by omega)]; exact i4 p h0 (by omega)
theorem r19_of {kd bd gp n : Int} {cuts x cs fs fb : List Int} (h : SchOk kd bd gp x.length n cuts) (hc : Gives (fun k => T_ref19_Coordinates k kd bd gp x.length n cuts x) (· = (cs, 0))) (hn : (cs.length : Int) = n) (w : Word cuts cs n fs fb) : Gives (fun k => T_ref19_Of k kd bd gp x.length n cuts x) (fun r => r = (fs, fb, 0)) := by
 have c1 := h.c1
 have n1 := h.n1
 have n2 := h.n2
 have w1 := w.ok.1
 have w2 := w.ok.2.1
 refine Gives.step ?_
 simp only [T_ref19_Of]
 refine Gives.bind hc fun r hr => ?_
 subst hr
 refine Gives.neg (by simp) (Gives.bind (Q := fun r => r.2.2.1.length = r.1 ∧ r.2.2.2.length = r.2.1 ∧ (r.1 : Int) = n ∧ (r.2.1 : Int) = n ∧ ∀ p, 0 ≤ p → p < n → rd r.2.2.2 p = 4 ∧ rd r.2.2.1 p = rd fs p) ?_ fun r hr => ?_)
 · simp only []
   rw [hn]
   refine Gives.loop (fun s => 0 ≤ s.1 ∧ s.1 ≤ n ∧ (s.2.1 : Int) = s.1 ∧ (s.2.2.1 : Int) = s.1 ∧ s.2.2.2.1.length = s.2.1 ∧ s.2.2.2.2.length = s.2.2.1 ∧ ∀ p, 0 ≤ p → p < s.1 → rd s.2.2.2.2 p = 4 ∧ rd s.2.2.2.1 p = rd fs p) (fun s => (n - s.1).toNat) ?_ ⟨by simp only []; omega, by simp only []; omega, rfl, rfl, rfl, rfl, fun p h0 h1 => by simp only at h1; omega⟩
   intro ⟨i, a, b, s, t⟩ ⟨i0, i1, e1, e2, l1, l2, hi⟩
   simp only at i0 i1 e1 e2 l1 l2 hi
   unfold T_ref19_Of_l2
   simp only []
   refine Gives.ite (fun c => ?_) fun c => Gives.now ⟨l1, l2, by simp only []; omega, by simp only []; omega, fun p h0 h1 => hi p h0 (by omega)⟩
   obtain ⟨f0, f1, f2, f3⟩ := w.cnt i i0 c
   refine Gives.bind (Q := fun v => v = rd fs i) ?_ fun v hv => ?_
   · refine Gives.loop (fun s => 0 ≤ s.2 ∧ s.2 ≤ (cuts.length : Int) ∧ s.1 = if s.2 ≤ rd fs i then s.2 else rd fs i) (fun s => ((cuts.length : Int) - s.2).toNat) ?_ ⟨by simp only []; omega, by simp only []; omega, by rw [if_pos f0]⟩
     intro ⟨c', j⟩ ⟨j0, j1, j2⟩
     simp only at j0 j1 j2
     unfold T_ref19_Of_l1
     simp only []
     refine Gives.ite (fun cc => Gives.opt (at_rd j0 cc) (Gives.opt (at_rd i0 (by omega)) (Gives.bind (Q := fun v => v = if j + 1 ≤ rd fs i then j + 1 else rd fs i) ?_ fun v hv => ?_))) fun cc => Gives.now (show c' = rd fs i by rw [j2]; split <;> omega)
     · refine Gives.ite (fun d => Gives.now ?_) fun d => Gives.now ?_
       · have : j < rd fs i := by
          refine Decidable.byContradiction fun hn => ?_
          have := f3 j (by omega) cc
          omega
         rw [if_pos (by omega)] at j2
         rw [if_pos (by omega), j2, w64_id (by omega) (by omega)]
       · have : ¬ j < rd fs i := fun hh => d (f2 j j0 hh)
         rw [if_neg (by omega), j2]
         split <;> omega
     · rw [w64_id (x := j + 1) (by omega) (by omega)]
       exact Gives.now ⟨⟨by simp only []; omega, by simp only []; omega, hv⟩, by simp only []; omega⟩
   · rw [w64_id (x := i + 1) (by omega) (by omega), drop_take_len l1, drop_take_len l2]
     refine Gives.pos (by unfold LIM; omega) (Gives.pos (by unfold LIM; omega) (Gives.now ⟨⟨by simp only []; omega, by simp only []; omega, by simp only []; omega, by simp only []; omega, by simp [l1], by simp [l2], fun p h0 h1 => ?_⟩, by simp only []; omega⟩))
     simp only at h1 ⊢
     by_cases e : p = i
     · subst e; rw [rd_app_1 h0 (by omega), rd_app_1 h0 (by omega)]; exact ⟨rfl, hv⟩
     · rw [rd_app_l (by omega), rd_app_l (by omega)]; exact hi p h0 (by omega)
 · obtain ⟨r1, r2, r3, r4, r5⟩ := hr
   rw [drop_take_len r1, drop_take_len r2]
   have e1 : r.2.2.1 = fs := ext_rd (by omega) fun p h0 h1 => (r5 p h0 (by omega)).2
   have e2 : r.2.2.2 = fb := ext_rd (by omega) fun p h0 h1 => by rw [(r5 p h0 (by omega)).1, w.full p h0 (by omega)]
   exact Gives.now (by rw [e1, e2])

/-- Two functions answer alike. -/
def Agree {α : Type} (f g : Nat → Option α) (Q : α → Prop) : Prop := ∃ v, Gives f (· = v) ∧ Gives g (· = v) ∧ Q v
theorem Agree.both {α : Type} {f g : Nat → Option α} {Q P P' : α → Prop} (h : Gives f P) (k : Gives g P') (e : ∀ a b, P a → P' b → a = b) (q : ∀ a, P a → Q a) : Agree f g Q := by
 obtain ⟨a, ha, pa⟩ := h.get
 obtain ⟨b, hb, pb⟩ := k.get
 have := e a b pa pb
 subst this
 exact ⟨a, ha, hb, q a pa⟩

/-! A list changed at one place, or in its length. -/
theorem src_bent {L : List Int} {p : Int} (h : SrcOk L p) {xs : List Int} (hl : xs.length ≤ 40) : Gives (fun k => T_keep_Src_Bent k xs L p) (fun r => r.1.length ≤ 41 ∧ SrcOk L r.2) := by
 refine Gives.step ?_
 simp only [T_keep_Src_Bent]
 have e1 : (([] : List Int).drop 0).take 0 ++ xs = xs := by simp
 rw [e1]
 refine Gives.pos (by unfold LIM; omega) (Gives.bind (src_n h 4 (by omega) (by omega)) fun a ha => Gives.ite (fun _ => ?_) fun _ => ?_)
 · refine Gives.bind (src_n ha.2.2 2 (by omega) (by omega)) fun b hb => ?_
   have q : 0 ≤ imin (((0 + xs.length) : Nat) : Int) b.1 ∧ imin (((0 + xs.length) : Nat) : Int) b.1 ≤ ((xs.length : Nat) : Int) := by unfold imin; split <;> omega
   refine Gives.pos (by omega) (Gives.now ⟨?_, hb.2.2⟩)
   simp; omega
 · refine Gives.bind (Q := fun r => r.2.2.length ≤ 41 ∧ SrcOk L r.2.1) ?_ fun r hr => Gives.now ⟨by simp; omega, hr.2⟩
   refine Gives.ite (fun _ => ?_) fun _ => Gives.ite (fun c => ?_) fun _ => Gives.now ⟨by simp only []; omega, ha.2.2⟩
   · refine Gives.bind (Q := fun r => r.2.2.length ≤ 41 ∧ SrcOk L r.2.1) ?_ fun r hr => Gives.now hr
     refine Gives.loop (fun s => s.2.2.length = s.1 ∧ s.1 ≤ 41 ∧ SrcOk L s.2.1) (fun s => 41 - s.1) ?_ ⟨by simp, by simp only []; omega, ha.2.2⟩
     intro ⟨n, q, o⟩ ⟨i1, i2, i3⟩
     simp only at i1 i2 i3
     unfold T_keep_Src_Bent_l2
     simp only []
     refine Gives.ite (fun c => Gives.bind (src_n i3 9 (by omega) (by omega)) fun b hb => Gives.pos (by unfold LIM; omega) (Gives.now ⟨⟨?_, ?_, hb.2.2⟩, ?_⟩)) fun c => Gives.now ⟨by simp only []; omega, i3⟩
     · rw [drop_take_len i1]; simp [i1]
     · simp only []; omega
     · simp only []; omega
   · refine Gives.bind (src_n ha.2.2 _ (by omega) (by omega)) fun b hb => Gives.bind (src_pick hb.2.2 _ (by simp) (by simp)) fun c hc => Gives.pos (by omega) (Gives.now ⟨?_, hc.2⟩)
     simp; omega

-- Check, Coordinates, Of and Root of chapter 19 return what its reference returns, errors included: WordAnswers returns true for all schemes, windows and lists.
theorem awake_k (k : Nat) : T_law19_awake (k + 60) = some true := by kernel_rfl
theorem awake_ok : Gives (fun k => T_law19_awake k) (· = true) := ⟨true, ⟨60, fun k hk => by
 obtain ⟨m, rfl⟩ : ∃ m, k = m + 60 := ⟨k - 60, by omega⟩
 exact awake_k m⟩, rfl⟩
theorem same_refl {a b : List Int} (ha : a.length ≤ 1000) (hb : b.length ≤ 1000) : Gives (fun k => T_ref19_Same k a b a b) (fun r => r = true) := by
 refine Gives.step ?_
 simp only [T_ref19_Same]
 refine Gives.bind (Q := fun r => r = true) ?_ fun r hr => Gives.now hr
 exact Gives.bind (ints_refl rfl ha) fun v hv => Gives.pos hv (Gives.bind (ints_refl rfl hb) fun v hv => Gives.now hv)
theorem ag_check {kd bd gp len n : Int} {cuts : List Int} (hl : cuts.length ≤ 1000) : Agree (fun k => T_word_Check k kd bd gp len n cuts) (fun k => T_ref19_Check k kd bd gp len n cuts) (fun _ => True) := by
 refine Agree.both (w_checkG hl) (r19_checkG hl) (fun a b h k => ?_) fun _ _ => trivial
 rcases h with ⟨e, h⟩ | ⟨e, h⟩
 · rcases k with ⟨e', h'⟩ | ⟨e', h'⟩
   · rw [e, e']
   · exact absurd h h'
 · rcases k with ⟨e', h'⟩ | ⟨e', h'⟩
   · exact absurd h' h
   · rw [e, e']
theorem w_bad {kd bd gp len n : Int} {cuts : List Int} (hl : cuts.length ≤ 1000) (hs : ¬ SchOk kd bd gp len n cuts) : Gives (fun k => T_word_Check k kd bd gp len n cuts) (fun r => r = 10) ∧ Gives (fun k => T_ref19_Check k kd bd gp len n cuts) (fun r => r = 10) := by
 refine ⟨(w_checkG hl).mono fun r hr => ?_, (r19_checkG hl).mono fun r hr => ?_⟩
 · rcases hr with ⟨_, h⟩ | ⟨e, _⟩
   · exact absurd h hs
   · exact e
 · rcases hr with ⟨_, h⟩ | ⟨e, _⟩
   · exact absurd h hs
   · exact e
theorem w_good {kd bd gp len n : Int} {cuts : List Int} (hs : SchOk kd bd gp len n cuts) : Gives (fun k => T_ref19_Check k kd bd gp len n cuts) (fun r => r = 0) := by
 have c1 := hs.c1
 refine (r19_checkG (by omega)).mono fun r hr => ?_
 rcases hr with ⟨e, _⟩ | ⟨_, h⟩
 · exact e
 · exact absurd hs h
theorem ag_root {kd bd gp len n : Int} {cuts : List Int} (hl : cuts.length ≤ 1000) : Agree (fun k => T_word_Root k kd bd gp len n cuts) (fun k => T_ref19_Root k kd bd gp len n cuts) (fun v => v.1.length ≤ 1000 ∧ v.2.1.length ≤ 1000) := by
 by_cases hs : SchOk kd bd gp len n cuts
 · have n1 := hs.n1
   have n2 := hs.n2
   refine Agree.both (P := fun r => r = (((List.replicate n.toNat (0 : Int)).drop 0).take n.toNat, ((List.replicate n.toNat (0 : Int)).drop 0).take n.toNat, 0)) (P' := fun r => r = (((List.replicate n.toNat (0 : Int)).drop 0).take n.toNat, ((List.replicate n.toNat (0 : Int)).drop 0).take n.toNat, 0)) ?_ ?_ (fun a b h k => by rw [h, k]) fun a h => by rw [h]; simp; omega
   · refine Gives.step ?_
     simp only [T_word_Root]
     exact Gives.bind (w_check hs) fun e he => Gives.neg (by simp [he]) (Gives.pos (by unfold LIM; omega) (Gives.now rfl))
   · refine Gives.step ?_
     simp only [T_ref19_Root]
     exact Gives.bind (w_good hs) fun e he => Gives.neg (by simp [he]) (Gives.pos (by unfold LIM; omega) (Gives.now rfl))
 · obtain ⟨b1, b2⟩ := w_bad hl hs
   refine Agree.both (P := fun r => r = ([], [], 10)) (P' := fun r => r = ([], [], 10)) ?_ ?_ (fun a b h k => by rw [h, k]) fun a h => by rw [h]; simp
   · refine Gives.step ?_
     simp only [T_word_Root]
     exact Gives.bind b1 fun e he => Gives.pos (by simp [he]) (Gives.now (by rw [he]))
   · refine Gives.step ?_
     simp only [T_ref19_Root]
     exact Gives.bind b2 fun e he => Gives.pos (by simp [he]) (Gives.now (by rw [he]))
/-- Coordinates and words of a scheme and a list of any kind. -/
theorem ag_words {kd bd gp len n : Int} {cuts x : List Int} (hl : cuts.length ≤ 1000) (hx : x.length ≤ 1000) :
 Agree (fun k => T_word_Coordinates k kd bd gp len n cuts x) (fun k => T_ref19_Coordinates k kd bd gp len n cuts x) (fun v => v.1.length ≤ 1000) ∧
 Agree (fun k => T_word_Of k kd bd gp len n cuts x) (fun k => T_ref19_Of k kd bd gp len n cuts x) (fun v => v.1.length ≤ 1000 ∧ v.2.1.length ≤ 1000) := by
 have bad : ∀ e : Int, e ≠ 0 → Gives (fun k => T_word_Coordinates k kd bd gp len n cuts x) (fun r => r = ([], e)) → Gives (fun k => T_ref19_Coordinates k kd bd gp len n cuts x) (fun r => r = ([], e)) →
  Agree (fun k => T_word_Coordinates k kd bd gp len n cuts x) (fun k => T_ref19_Coordinates k kd bd gp len n cuts x) (fun v => v.1.length ≤ 1000) ∧
  Agree (fun k => T_word_Of k kd bd gp len n cuts x) (fun k => T_ref19_Of k kd bd gp len n cuts x) (fun v => v.1.length ≤ 1000 ∧ v.2.1.length ≤ 1000) := fun e e0 h k => by
  refine ⟨Agree.both h k (fun a b h k => by rw [h, k]) fun a h => by rw [h]; simp, Agree.both (P := fun r => r = ([], [], e)) (P' := fun r => r = ([], [], e)) ?_ ?_ (fun a b h k => by rw [h, k]) fun a h => by rw [h]; simp⟩
  · refine Gives.step ?_
    simp only [T_word_Of]
    exact Gives.bind h fun r hr => by subst hr; exact Gives.pos (by simpa using e0) (Gives.now rfl)
  · refine Gives.step ?_
    simp only [T_ref19_Of]
    exact Gives.bind k fun r hr => by subst hr; exact Gives.pos (by simpa using e0) (Gives.now rfl)
 by_cases hs : SchOk kd bd gp len n cuts
 · have l1 := hs.l1
   have l2 := hs.l2
   have n1 := hs.n1
   have n2 := hs.n2
   have n3 := hs.n3
   by_cases hlen : (x.length : Int) = len
   · subst hlen
     by_cases hw : Smp x
     · have wx : Win x := ⟨by omega, by omega, hw⟩
       obtain ⟨v, hv, v1, v2, v3⟩ := (w_coordinates hs wx).get
       obtain ⟨u, hu, u1, u2, u3⟩ := (r19_coordinates hs wx).get
       have e : u = v := Prod.ext (ext_rd (by omega) fun p h0 h1 => by rw [v3 p h0 (by omega), u3 p h0 (by omega)]) (by rw [u1, v1])
       subst e
       obtain ⟨cs, z⟩ := u
       simp only at u1 u2 u3
       subst u1
       obtain ⟨w, hw', w1, w2⟩ := (w_of hs hv v2).get
       refine ⟨⟨(cs, 0), hv, hu, by simp only []; omega⟩, ⟨w, hw', (r19_of hs hu u2 w2).mono fun r hr => ?_, ?_⟩⟩
       · rw [hr]
         exact Prod.ext rfl (Prod.ext rfl w1.symm)
       · have := w2.ok.1
         have := w2.ok.2.1
         omega
     · have e12 : errM x x 0 = 12 := by
        rw [errM_diag, if_pos (by unfold lenB; simp; omega), if_neg (fun h => hw (smpB_iff.1 h))]
       refine bad 12 (by omega) ?_ ?_
       · refine Gives.step ?_
         simp only [T_word_Coordinates]
         have ck : Gives (fun k => T_pieces_check k x n) (fun r => r = 12) := by
          refine Gives.step ?_
          simp only [T_pieces_check]
          exact Gives.bind (eu_distanceG hx hx) fun e he => Gives.pos (by simp [he, e12]) (Gives.now (by rw [he, e12]))
         refine Gives.bind (w_check hs) fun e he => Gives.neg (by simp [he]) (Gives.neg (by simp) (Gives.ite (fun _ => ?_) fun _ => ?_))
         · refine Gives.bind (Q := fun r => r.2.1 = 12) ?_ fun r hr => Gives.pos (by simp [hr]) (Gives.now (by rw [hr]))
           refine Gives.step ?_
           simp only [T_pieces_Centred]
           exact Gives.bind ck fun e he => Gives.pos (by simp [he]) (Gives.now he)
         · refine Gives.bind (Q := fun r => r.2.1 = 12) ?_ fun r hr => Gives.pos (by simp [hr]) (Gives.now (by rw [hr]))
           refine Gives.step ?_
           simp only [T_pieces_Sums]
           exact Gives.bind ck fun e he => Gives.pos (by simp [he]) (Gives.now he)
       · refine Gives.step ?_
         simp only [T_ref19_Coordinates]
         refine Gives.bind (Q := fun r => r = 12) ?_ fun r hr => Gives.pos (by simp [hr]) (Gives.now (by rw [hr]))
         refine Gives.step ?_
         simp only [T_ref19_Fits]
         refine Gives.bind (w_good hs) fun e he => Gives.neg (by simp [he]) (Gives.neg (by simp) (Gives.bind (r12_samplesG hx) fun v hv => Gives.now ?_))
         rw [hv, if_neg (fun h => hw (smpB_iff.1 h))]
   · refine bad 8 (by omega) ?_ ?_
     · refine Gives.step ?_
       simp only [T_word_Coordinates]
       exact Gives.bind (w_check hs) fun e he => Gives.neg (by simp [he]) (Gives.pos (by simpa using hlen) (Gives.now rfl))
     · refine Gives.step ?_
       simp only [T_ref19_Coordinates]
       refine Gives.bind (Q := fun r => r = 8) ?_ fun r hr => Gives.pos (by simp [hr]) (Gives.now (by rw [hr]))
       refine Gives.step ?_
       simp only [T_ref19_Fits]
       exact Gives.bind (w_good hs) fun e he => Gives.neg (by simp [he]) (Gives.pos (by simpa using hlen) (Gives.now rfl))
 · obtain ⟨b1, b2⟩ := w_bad hl hs
   refine bad 10 (by omega) ?_ ?_
   · refine Gives.step ?_
     simp only [T_word_Coordinates]
     exact Gives.bind b1 fun e he => Gives.pos (by simp [he]) (Gives.now (by rw [he]))
   · refine Gives.step ?_
     simp only [T_ref19_Coordinates]
     refine Gives.bind (Q := fun r => r = 10) ?_ fun r hr => Gives.pos (by simp [hr]) (Gives.now (by rw [hr]))
     refine Gives.step ?_
     simp only [T_ref19_Fits]
     exact Gives.bind b2 fun e he => Gives.pos (by simp [he]) (Gives.now he)
theorem src_odd {L : List Int} {q a b c : Int} (h : SrcOk L q) : Gives (fun k => T_keep_Src_Odd k a b c L q) (fun r => SrcOk L r.2.2.2) := by
 refine Gives.step ?_
 simp only [T_keep_Src_Odd]
 refine Gives.bind (src_n h 4 (by omega) (by omega)) fun u hu => Gives.bind (Q := fun r => SrcOk L r.1) ?_ fun r hr => Gives.now hr
 exact Gives.ite (fun _ => Gives.bind (src_pick hu.2.2 _ (by simp) (by simp)) fun v hv => Gives.now hv.2) fun _ => Gives.ite (fun _ => Gives.bind (src_pick hu.2.2 _ (by simp) (by simp)) fun v hv => Gives.now hv.2) fun _ => Gives.ite (fun _ => Gives.bind (src_pick hu.2.2 _ (by simp) (by simp)) fun v hv => Gives.now hv.2) fun _ => Gives.now hu.2.2
theorem src_queer {L cuts : List Int} {q a b c d e : Int} (h : SrcOk L q) (hl : cuts.length ≤ 100) : Gives (fun k => T_keep_Src_Queer k a b c d e cuts L q) (fun r => r.2.2.2.2.2.1.length ≤ 1000 ∧ SrcOk L r.2.2.2.2.2.2) := by
 refine Gives.step ?_
 simp only [T_keep_Src_Queer]
 refine Gives.bind (src_n h 5 (by omega) (by omega)) fun u hu => Gives.ite (fun _ => Gives.bind (src_odd hu.2.2) fun v hv => Gives.now ⟨by simp only []; omega, hv⟩) fun _ => Gives.ite (fun _ => Gives.bind (src_pick hu.2.2 _ (by simp) (by simp)) fun v hv => Gives.now ⟨by simp only []; omega, hv.2⟩) fun _ => Gives.ite (fun _ => Gives.bind (src_pick hu.2.2 _ (by simp) (by simp)) fun v hv => Gives.now ⟨by simp only []; omega, hv.2⟩) fun _ => ?_
 refine Gives.bind (Q := fun r => r.2.1 ≤ 1000 ∧ SrcOk L r.1) ?_ fun r hr => Gives.now ⟨by simp only [List.length_take]; omega, hr.2⟩
 refine Gives.ite (fun _ => Gives.pos (by unfold LIM; omega) (Gives.bind (src_range hu.2.2 (-9) 9 (by omega) (by omega) (by omega)) fun v hv => Gives.bind (src_pick hv.2.2 _ (by simp) (by simp)) fun w hw => Gives.pos (by unfold LIM; omega) (Gives.now ⟨by simp only []; omega, hw.2⟩))) fun _ => Gives.bind (src_pick hu.2.2 _ (by simp) (by simp)) fun v hv => ?_
 have m := hv.1
 simp only [List.mem_cons, List.not_mem_nil, or_false] at m
 exact Gives.pos (by unfold LIM; omega) (Gives.now ⟨by simp only []; omega, hv.2⟩)
theorem wa_l1 {c1 x1 x2 : List Int} {ss : List (Int × Int × Int × Int × Int × (List Int))} {c4 c6 c7 : Int} {xs : List (List Int)} {kd bd gp len n : Int} {cuts : List Int} (hl : cuts.length ≤ 1000) (hx : ∀ x ∈ xs, x.length ≤ 1000) (hn : xs.length ≤ 10) :
 Gives (fun k => loopT (T_law19_WordAnswers_l1 k c1 x1 ss c4 x2 c6 xs (xs.length : Int) c7 kd bd gp len n cuts) k 0) (fun r => r = .inl ()) := by
 refine Gives.loop (fun s => 0 ≤ s ∧ s ≤ (xs.length : Int)) (fun s => ((xs.length : Int) - s).toNat) ?_ ⟨by omega, by omega⟩
 intro s ⟨i0, i1⟩
 unfold T_law19_WordAnswers_l1
 refine Gives.ite (fun c => ?_) fun c => Gives.now rfl
 obtain ⟨v, ev, mv⟩ := at_mem i0 c
 obtain ⟨⟨a, a1, a2, a3⟩, ⟨b, b1, b2, b3, b4⟩⟩ := ag_words (kd := kd) (bd := bd) (gp := gp) (len := len) (n := n) hl (hx v mv)
 refine Gives.opt ev (Gives.bind a1 fun _ e => Gives.bind a2 fun _ e' => Gives.bind b1 fun _ f => Gives.bind b2 fun _ f' => ?_)
 subst e e' f f'
 refine Gives.bind (Q := fun r => r = false) (Gives.bind (ints_refl rfl a3) fun u hu => Gives.neg (by simp [hu]) (Gives.bind (same_refl b3 b4) fun u hu => Gives.now (by simp [hu]))) fun u hu => ?_
 subst hu
 rw [w64_id (by omega) (by omega)]
 exact Gives.neg (by simp) (Gives.now ⟨⟨by omega, by omega⟩, by omega⟩)
theorem pure_wordAnswers (a0 : Int) (w0 : (Lit.int .i64 a0).wf = true) (a1 : Int) (w1 : (Lit.int .i64 a1).wf = true) (a2 : Int) (w2 : (Lit.int .i64 a2).wf = true) (a3 : Int) (w3 : (Lit.int .i64 a3).wf = true) (a4 : Int) (w4 : (Lit.int .i64 a4).wf = true) (a5 : List Int) (w5 : ∀ n ∈ a5, (Lit.int .i64 n).wf = true) (a6 : List Int) (w6 : ∀ n ∈ a6, (Lit.int .i64 n).wf = true) (a7 : List Int) (w7 : ∀ n ∈ a7, (Lit.int .i64 n).wf = true) : ∃ k, T_law19_WordAnswers k a0 a1 a2 a3 a4 a5 a6 a7 = some true := by
 refine Gives.true (f := fun k => T_law19_WordAnswers k a0 a1 a2 a3 a4 a5 a6 a7) ?_
 obtain ⟨s0, s1⟩ := src_new a7
 refine Gives.step ?_
 simp only [T_law19_WordAnswers]
 refine Gives.ite (fun _ => Gives.bind awake_ok fun v hv => Gives.now hv) fun hc => ?_
 have h0 : a5.length ≤ 40 ∧ a6.length ≤ 100 := by simp at hc; omega
 refine Gives.bind s1 fun _ _ => Gives.bind (src_scheme s0) fun a ha => ?_
 obtain ⟨hs, a8⟩ := ha
 have hc1 := hs.c1
 refine Gives.bind (src_list a8 a.2.2.2.1 hs.l1 hs.l2) fun b hb => ?_
 obtain ⟨b1, b2, b8⟩ := hb
 have l2 := hs.l2
 refine Gives.bind (src_queer b8 (by omega)) fun c hc => ?_
 refine Gives.bind (Q := fun r => r = .inl ()) ?_ fun r hr => by subst hr; exact Gives.bind awake_ok fun v hv => Gives.now hv
 generalize hk : ([(a0, a1, a2, a3, a4, a5), (a.1, a.2.1, a.2.2.1, a.2.2.2.1, a.2.2.2.2.1, a.2.2.2.2.2.1), (c.1, c.2.1, c.2.2.1, c.2.2.2.1, c.2.2.2.2.1, c.2.2.2.2.2.1)] : List (Int × Int × Int × Int × Int × (List Int))) = ks
 have lk : ks.length = 3 := by rw [← hk]; rfl
 have mk : ∀ e ∈ ks, e.2.2.2.2.2.length ≤ 1000 := by
  intro e he
  rw [← hk] at he
  simp only [List.mem_cons, List.not_mem_nil, or_false] at he
  rcases he with rfl | rfl | rfl
  · simp only []; omega
  · simp only []; omega
  · exact hc.1
 refine Gives.loop (fun s => 0 ≤ s.1 ∧ s.1 ≤ (ks.length : Int) ∧ SrcOk ((a7.drop 0).take ((imin (a7.length : Int) 2000).toNat - 0)) s.2) (fun s => ((ks.length : Int) - s.1).toNat) ?_ ⟨by simp only []; omega, by simp only []; omega, hc.2⟩
 intro ⟨i, q⟩ ⟨i0, i1, i2⟩
 simp only at i0 i1 i2
 unfold T_law19_WordAnswers_l2
 simp only []
 refine Gives.ite (fun c => ?_) fun c => Gives.now rfl
 obtain ⟨z, ez, mz⟩ := at_mem i0 c
 have lz := mk z mz
 obtain ⟨r, r1, r2, r3, r4⟩ := ag_root (kd := z.1) (bd := z.2.1) (gp := z.2.2.1) (len := z.2.2.2.1) (n := z.2.2.2.2.1) lz
 obtain ⟨t, t1, t2, _⟩ := ag_check (kd := z.1) (bd := z.2.1) (gp := z.2.2.1) (len := z.2.2.2.1) (n := z.2.2.2.2.1) lz
 refine Gives.opt ez (Gives.bind r1 fun _ e => Gives.bind r2 fun _ e' => ?_)
 subst e e'
 refine Gives.bind (Q := fun b => b = false) ?_ fun b hb => ?_
 · refine Gives.bind t1 fun _ e => Gives.bind t2 fun _ e' => ?_
   subst e e'
   exact Gives.neg (by simp) (Gives.bind (same_refl r3 r4) fun u hu => Gives.now (by simp [hu]))
 subst hb
 refine Gives.neg (by simp) (Gives.bind (src_bent i2 (by omega)) fun y hy => Gives.bind (wa_l1 lz ?_ (by simp)) fun u hu => ?_)
 · intro x hx
   simp only [List.mem_cons, List.not_mem_nil, or_false] at hx
   rcases hx with rfl | rfl | rfl <;> omega
 subst hu
 simp only []
 rw [w64_id (by omega) (by omega)]
 exact Gives.now ⟨⟨by simp only []; omega, by simp only []; omega, hy.2⟩, by simp only []; omega⟩

end Go.Proofs.Ytdnegloonbanpaa.wordAnswers
