/- That the told functions answer as the statement WordParts says, in plain Lean. There are no conditions. -/
import Derived.Test.YtdnegloonbanpaaTWordParts1
set_option maxRecDepth 100000
set_option linter.unusedVariables false
set_option linter.unusedSimpArgs false
namespace Go.Proofs.Ytdnegloonbanpaa.wordParts
open Go
theorem w64_id {x : Int} (h1 : -9223372036854775808 ≤ x) (h2 : x < 9223372036854775808) : w64 x = x := wrap_id h1 h2

/-- With enough rounds the answer is there, and it is as asked. -/
def Gives {α : Type} (f : Nat → Option α) (Q : α → Prop) : Prop := ∃ r, (∃ K, ∀ k, K ≤ k → f k = some r) ∧ Q r
theorem Gives.mono {α : Type} {f : Nat → Option α} {Q Q' : α → Prop} (h : Gives f Q) (k : ∀ r, Q r → Q' r) : Gives f Q' := by
 obtain ⟨r, h1, h2⟩ := h; exact ⟨r, h1, k r h2⟩
theorem Gives.now {α : Type} {r : α} {Q : α → Prop} (h : Q r) : Gives (fun _ => some r) Q := ⟨r, ⟨0, fun _ _ => rfl⟩, h⟩
theorem Gives.bind {α β : Type} {f : Nat → Option α} {g : Nat → α → Option β} {Q : α → Prop} {Q' : β → Prop} (h : Gives f Q) (k : ∀ a, Q a → Gives (fun n => g n a) Q') : Gives (fun n => (f n).bind (g n)) Q' := by
 obtain ⟨a, ⟨K, hK⟩, ha⟩ := h
 obtain ⟨r, ⟨K2, hK2⟩, hr⟩ := k a ha
 exact ⟨r, ⟨max K K2, fun n hn => by show (f n).bind (g n) = some r; rw [hK n (by omega), Option.bind_some]; exact hK2 n (by omega)⟩, hr⟩
theorem Gives.opt {α β : Type} {x : Option α} {a : α} {g : Nat → α → Option β} {Q : β → Prop} (h : x = some a) (k : Gives (fun n => g n a) Q) : Gives (fun n => x.bind (g n)) Q := by
 subst h; exact k
theorem Gives.step {α : Type} {f : Nat → Option α} {Q : α → Prop} (h : Gives (fun k => f (k + 1)) Q) : Gives f Q := by
 obtain ⟨r, ⟨K, hK⟩, hr⟩ := h
 refine ⟨r, ⟨K + 1, fun n hn => ?_⟩, hr⟩
 obtain ⟨m, rfl⟩ : ∃ m, n = m + 1 := ⟨n - 1, by omega⟩
 exact hK m (by omega)
theorem Gives.ite {α : Type} {c : Prop} [Decidable c] {f g : Nat → Option α} {Q : α → Prop} (h : c → Gives f Q) (k : ¬ c → Gives g Q) : Gives (fun n => if c then f n else g n) Q := by
 by_cases hc : c
 · simp only [if_pos hc]; exact h hc
 · simp only [if_neg hc]; exact k hc
theorem Gives.pos {α : Type} {c : Prop} [Decidable c] {f g : Nat → Option α} {Q : α → Prop} (hc : c) (h : Gives f Q) : Gives (fun n => if c then f n else g n) Q := by
 simp only [if_pos hc]; exact h
theorem Gives.neg {α : Type} {c : Prop} [Decidable c] {f g : Nat → Option α} {Q : α → Prop} (hc : ¬ c) (h : Gives g Q) : Gives (fun n => if c then f n else g n) Q := by
 simp only [if_neg hc]; exact h
theorem Gives.loop {S R : Type} {f : Nat → S → Option (S ⊕ R)} {Q : R → Prop} (Inv : S → Prop) (m : S → Nat)
 (h : ∀ s, Inv s → Gives (fun k => f k s) (fun x => match x with | .inl s' => Inv s' ∧ m s' < m s | .inr r => Q r)) {s : S} (hs : Inv s) : Gives (fun k => loopT (f k) k s) Q := by
 suffices H : ∀ (n : Nat) (s : S), m s < n → Inv s → ∃ r, (∃ K N, ∀ k, K ≤ k → ∀ j, N ≤ j → loopT (f k) j s = some r) ∧ Q r by
  obtain ⟨r, ⟨K, N, hK⟩, hr⟩ := H (m s + 1) s (by omega) hs
  exact ⟨r, ⟨max K N, fun k hk => hK k (by omega) k (by omega)⟩, hr⟩
 intro n
 induction n with
 | zero => intro s hs; omega
 | succ n ih =>
  intro s hs hI
  obtain ⟨x, ⟨K, hK⟩, hx⟩ := h s hI
  cases x with
  | inl s' =>
   obtain ⟨r, ⟨K2, N, hK2⟩, hr⟩ := ih s' (by have := hx.2; omega) hx.1
   refine ⟨r, ⟨max K K2, N + 1, fun k hk j hj => ?_⟩, hr⟩
   obtain ⟨j', rfl⟩ : ∃ j', j = j' + 1 := ⟨j - 1, by omega⟩
   simp only [loopT, hK k (by omega), Option.bind_some]
   exact hK2 k (by omega) j' (by omega)
  | inr r =>
   refine ⟨r, ⟨K, 1, fun k hk j hj => ?_⟩, hx⟩
   obtain ⟨j', rfl⟩ : ∃ j', j = j' + 1 := ⟨j - 1, by omega⟩
   simp only [loopT, hK k hk, Option.bind_some]
theorem Gives.true {f : Nat → Option Bool} (h : Gives f (· = true)) : ∃ k, f k = some true := by
 obtain ⟨r, ⟨K, hK⟩, hr⟩ := h
 subst hr
 exact ⟨K, hK K (Nat.le_refl _)⟩
/-- An element of a list, 0 outside of it. -/
def rd (xs : List Int) (i : Int) : Int := xs.getD i.toNat 0
theorem at_rd {xs : List Int} {i : Int} (h0 : 0 ≤ i) (h1 : i < (xs.length : Int)) : at? xs i = some (rd xs i) := by
 unfold at? rd
 rw [if_pos h0, List.getD_eq_getElem?_getD, List.getElem?_eq_getElem (by omega)]; rfl
theorem get_rd {xs : List Int} {n : Nat} (h1 : n < xs.length) : xs[n]? = some (rd xs n) := by
 unfold rd
 rw [List.getD_eq_getElem?_getD, List.getElem?_eq_getElem h1]
 simp [h1]
theorem rd_mem {xs : List Int} {i : Int} (h0 : 0 ≤ i) (h1 : i < (xs.length : Int)) : rd xs i ∈ xs := by
 unfold rd
 have h : i.toNat < xs.length := by omega
 rw [List.getD_eq_getElem?_getD, List.getElem?_eq_getElem h]; exact List.getElem_mem h
/-- All numbers are samples. -/
def Smp (xs : List Int) : Prop := ∀ v ∈ xs, -1000 ≤ v ∧ v ≤ 1000
theorem Smp.rd {xs : List Int} (h : Smp xs) (i : Int) : -1000 ≤ rd xs i ∧ rd xs i ≤ 1000 := by
 show -1000 ≤ xs.getD i.toNat 0 ∧ xs.getD i.toNat 0 ≤ 1000
 rw [List.getD_eq_getElem?_getD]
 rcases Nat.lt_or_ge i.toNat xs.length with c | c
 · rw [List.getElem?_eq_getElem c]; exact h _ (List.getElem_mem c)
 · rw [List.getElem?_eq_none c]; decide
theorem Smp.nil : Smp [] := fun _ h => by simp at h
theorem Smp.app {xs ys : List Int} (h : Smp xs) (k : Smp ys) : Smp (xs ++ ys) := fun v hv => by
 rcases List.mem_append.1 hv with h1 | h1
 · exact h v h1
 · exact k v h1
theorem Smp.one {v : Int} (h0 : -1000 ≤ v) (h1 : v ≤ 1000) : Smp [v] := fun u hu => by
 obtain rfl := List.mem_singleton.1 hu; exact ⟨h0, h1⟩
theorem Smp.take {xs : List Int} (h : Smp xs) (n : Nat) : Smp (xs.take n) := fun v hv => h v (List.mem_of_mem_take hv)
theorem Smp.drop {xs : List Int} (h : Smp xs) (n : Nat) : Smp (xs.drop n) := fun v hv => h v (List.mem_of_mem_drop hv)
theorem Smp.set {xs : List Int} (h : Smp xs) (n : Nat) {v : Int} (h0 : -1000 ≤ v) (h1 : v ≤ 1000) : Smp (xs.set n v) := fun u hu => by
 rcases List.mem_or_eq_of_mem_set hu with h2 | h2
 · exact h u h2
 · subst h2; exact ⟨h0, h1⟩
/-- A window. -/
structure Win (xs : List Int) : Prop where
 lo : 2 ≤ xs.length
 hi : xs.length ≤ 32
 smp : Smp xs

/-- A reader of numbers. -/
structure SrcOk (L : List Int) (p : Int) : Prop where
 lo : 0 ≤ p
 hi : p ≤ (L.length : Int)
 len : L.length ≤ 2000
theorem src_raw {L : List Int} {p : Int} (h : SrcOk L p) : Gives (fun k => T_keep_Src_Raw k L p) (fun r => SrcOk L r.2) := by
 obtain ⟨h0, h1, h2⟩ := h
 refine Gives.step ?_
 simp only [T_keep_Src_Raw]
 have e1 : w64 (p + 1) = p + 1 := w64_id (by omega) (by omega)
 have e2 : w64 (w64 (p + 1) - 1) = p := by rw [e1, w64_id (by omega) (by omega)]; omega
 refine Gives.ite (fun c => Gives.now ⟨h0, h1, h2⟩) fun c => ?_
 rw [e2, e1]
 exact Gives.opt (at_rd h0 (by omega)) (Gives.now ⟨by simp only []; omega, by simp only []; omega, h2⟩)
theorem src_mod (x n : Int) (h : 1 ≤ n) (hn : n ≤ 4611686018427387904) : Gives (fun k => T_keep_Mod k x n) (fun v => 0 ≤ v ∧ v < n) := by
 have h1 : Int.tmod x n < n := Int.tmod_lt_of_pos _ (by omega)
 have h2 : -n < Int.tmod x n := by
  rcases Int.le_total 0 x with c | c
  · have := Int.tmod_nonneg n c; omega
  · have h3 : Int.tmod (-x) n < n := Int.tmod_lt_of_pos _ (by omega)
    rw [Int.neg_tmod] at h3; omega
 refine Gives.step ?_
 simp only [T_keep_Mod]
 refine Gives.neg (by omega) (Gives.pos (by omega) (Gives.bind (Q := fun v => 0 ≤ v ∧ v < n) ?_ fun a ha => Gives.now ha))
 refine Gives.ite (fun c => ?_) fun c => Gives.now ⟨by omega, by omega⟩
 rw [w64_id (by omega) (by omega)]
 exact Gives.now ⟨by omega, by omega⟩
theorem src_n {L : List Int} {p : Int} (h : SrcOk L p) (n : Int) (h1 : 1 ≤ n) (hn : n ≤ 4611686018427387904) : Gives (fun k => T_keep_Src_N k n L p) (fun r => 0 ≤ r.1 ∧ r.1 < n ∧ SrcOk L r.2) := by
 refine Gives.step ?_
 simp only [T_keep_Src_N]
 exact Gives.bind (src_raw h) fun a ha => Gives.bind (src_mod a.1 n h1 hn) fun v hv => Gives.now ⟨hv.1, hv.2, ha⟩
theorem src_range {L : List Int} {p : Int} (h : SrcOk L p) (lo hi : Int) (h1 : lo ≤ hi) (h0 : -1000000000000 ≤ lo) (h2 : hi ≤ 1000000000000) : Gives (fun k => T_keep_Src_Range k lo hi L p) (fun r => lo ≤ r.1 ∧ r.1 ≤ hi ∧ SrcOk L r.2) := by
 have e1 : w64 (w64 (hi - lo) + 1) = hi - lo + 1 := by rw [w64_id (x := hi - lo) (by omega) (by omega), w64_id (by omega) (by omega)]
 refine Gives.step ?_
 simp only [T_keep_Src_Range]
 rw [e1]
 refine Gives.bind (src_n h (hi - lo + 1) (by omega) (by omega)) fun a ha => ?_
 rw [w64_id (by omega) (by omega)]
 exact Gives.now ⟨by simp only []; omega, by simp only []; omega, ha.2.2⟩
theorem src_pick {L : List Int} {p : Int} (h : SrcOk L p) (l : List Int) (h1 : 1 ≤ l.length) (h2 : l.length ≤ 1000) : Gives (fun k => T_keep_Src_Pick k l L p) (fun r => r.1 ∈ l ∧ SrcOk L r.2) := by
 refine Gives.step ?_
 simp only [T_keep_Src_Pick]
 exact Gives.bind (src_n h (l.length : Int) (by omega) (by omega)) fun a ha => Gives.opt (at_rd ha.1 ha.2.1) (Gives.now ⟨rd_mem ha.1 ha.2.1, ha.2.2⟩)
theorem src_clip (x : Int) : Gives (fun k => T_keep_clip k x) (fun _ => True) := by
 refine Gives.step ?_
 simp only [T_keep_clip]
 exact Gives.now trivial
theorem clip_smp (x : Int) : -1000 ≤ imin (imax x (-1000)) 1000 ∧ imin (imax x (-1000)) 1000 ≤ 1000 := by unfold imin imax; split <;> split <;> omega
theorem src_length {L : List Int} {p : Int} (h : SrcOk L p) : Gives (fun k => T_keep_Src_Length k L p) (fun r => 2 ≤ r.1 ∧ r.1 ≤ 32 ∧ SrcOk L r.2) := by
 refine Gives.step ?_
 simp only [T_keep_Src_Length]
 refine Gives.bind (src_n h 8 (by omega) (by omega)) fun a ha => Gives.ite (fun c => ?_) fun c => ?_
 · exact Gives.bind (src_range ha.2.2 13 32 (by omega) (by omega) (by omega)) fun b hb => Gives.now ⟨by simp only []; omega, by simp only []; omega, hb.2.2⟩
 · exact Gives.bind (src_range ha.2.2 2 12 (by omega) (by omega) (by omega)) fun b hb => Gives.now ⟨by simp only []; omega, by simp only []; omega, hb.2.2⟩
theorem drop_take_len {xs : List Int} {n : Nat} (h : xs.length = n) : (xs.drop 0).take n = xs := by rw [List.drop_zero, ← h, List.take_length]
theorem src_list {L : List Int} {p : Int} (h : SrcOk L p) (n : Int) (h1 : 2 ≤ n) (h2 : n ≤ 32) : Gives (fun k => T_keep_Src_List k n L p) (fun r => (r.1.length : Int) = n ∧ Smp r.1 ∧ SrcOk L r.2) := by
 refine Gives.step ?_
 simp only [T_keep_Src_List]
 refine Gives.bind (src_n h 6 (by omega) (by omega)) fun a ha => Gives.bind (src_pick ha.2.2 [1, 3, 10, 100, 1000] (by decide) (by decide)) fun b hb => Gives.bind (src_n hb.2 3 (by omega) (by omega)) fun c hc => ?_
 have hb1 : 1 ≤ b.1 ∧ b.1 ≤ 1000 := by have := hb.1; simp at this; omega
 have em : w64 (0 - b.1) = -b.1 := by rw [w64_id (by omega) (by omega)]; omega
 refine Gives.bind (Q := fun d => -1000 ≤ d.1 ∧ d.1 ≤ 1000 ∧ SrcOk L d.2) ?_ fun d hd => ?_
 · refine Gives.ite (fun _ => ?_) fun _ => Gives.now ⟨by simp only []; omega, by simp only []; omega, hc.2.2⟩
   exact Gives.bind (src_range hc.2.2 (-1000) 1000 (by omega) (by omega) (by omega)) fun e he => Gives.now he
 refine Gives.bind (Q := fun r => (r.1 : Int) = n ∧ r.2.2.length = r.1 ∧ Smp r.2.2 ∧ SrcOk L r.2.1) ?_ fun r hr => ?_
 · refine Gives.loop (fun s => -1000 ≤ s.1 ∧ s.1 ≤ 1000 ∧ (s.2.1 : Int) = s.2.2.1 ∧ s.2.2.1 ≤ n ∧ SrcOk L s.2.2.2.1 ∧ s.2.2.2.2.length = s.2.1 ∧ Smp s.2.2.2.2) (fun s => (n - s.2.2.1).toNat) ?_ ⟨hd.1, hd.2.1, rfl, by simp only []; omega, hd.2.2, rfl, Smp.nil⟩
   intro s ⟨i1, i2, i3, i4, i5, i6, i7⟩
   have ed : (s.2.2.2.2.drop 0).take s.2.1 = s.2.2.2.2 := drop_take_len i6
   unfold T_keep_Src_List_l1
   refine Gives.ite (fun c => ?_) fun c => Gives.now ⟨by simp only []; omega, i6, i7, i5⟩
   rw [em, ed]
   have hlim : s.2.1 + 1 ≤ LIM := by unfold LIM; omega
   refine Gives.bind (Q := fun _ => True) (Gives.ite (fun _ => Gives.now trivial) fun _ => Gives.now trivial) fun t _ => ?_
   refine Gives.bind (Q := fun r => -1000 ≤ r.1 ∧ r.1 ≤ 1000 ∧ SrcOk L r.2.1 ∧ r.2.2.length = s.2.1 + 1 ∧ Smp r.2.2) ?_ fun r hr => ?_
   · refine Gives.ite (fun _ => ?_) fun _ => ?_
     · refine Gives.bind (src_range i5 (-b.1) b.1 (by omega) (by omega) (by omega)) fun v hv => Gives.pos hlim (Gives.now ⟨i1, i2, hv.2.2, by simp [i6], i7.app (Smp.one (by omega) (by omega))⟩)
     · refine Gives.bind (Q := fun _ => True) (Gives.ite (fun _ => Gives.now trivial) fun _ => Gives.now trivial) fun t2 _ => Gives.ite (fun _ => ?_) fun _ => Gives.ite (fun _ => ?_) fun _ => ?_
       · refine Gives.bind (src_range i5 (-b.1) b.1 (by omega) (by omega) (by omega)) fun v hv => Gives.bind (src_clip _) fun _ _ => Gives.pos hlim (Gives.now ?_)
         have := clip_smp (w64 (s.1 + v.1))
         exact ⟨this.1, this.2, hv.2.2, by simp [i6], i7.app (Smp.one this.1 this.2)⟩
       · refine Gives.bind (src_n i5 4 (by omega) (by omega)) fun v hv => Gives.bind (Q := fun r => -1000 ≤ r.1 ∧ r.1 ≤ 1000 ∧ SrcOk L r.2) (Gives.ite (fun _ => ?_) fun _ => Gives.now ⟨i1, i2, hv.2.2⟩) fun u hu => Gives.pos hlim (Gives.now ⟨hu.1, hu.2.1, hu.2.2, by simp [i6], i7.app (Smp.one hu.1 hu.2.1)⟩)
         exact Gives.bind (src_range hv.2.2 (-b.1) b.1 (by omega) (by omega) (by omega)) fun e he => Gives.now ⟨by simp only []; omega, by simp only []; omega, he.2.2⟩
       · refine Gives.bind (src_pick i5 [-1000, 1000, 1000, 0] (by decide) (by decide)) fun v hv => Gives.pos hlim (Gives.now ?_)
         have : -1000 ≤ v.1 ∧ v.1 ≤ 1000 := by have := hv.1; simp at this; omega
         exact ⟨i1, i2, hv.2, by simp [i6], i7.app (Smp.one this.1 this.2)⟩
   · have ei : w64 (s.2.2.1 + 1) = s.2.2.1 + 1 := w64_id (by omega) (by omega)
     rw [ei]
     exact Gives.now ⟨⟨hr.1, hr.2.1, by simp only []; omega, by simp only []; omega, hr.2.2.1, hr.2.2.2.1, hr.2.2.2.2⟩, by simp only []; omega⟩
 · rw [drop_take_len hr.2.1]
   exact Gives.now ⟨by simp only []; omega, hr.2.2.1, hr.2.2.2⟩

theorem get_rd0 {xs : List Int} {i : Int} (h0 : 0 ≤ i) (h1 : i < (xs.length : Int)) : xs[0 + i.toNat]? = some (rd xs i) := by
 rw [Nat.zero_add, get_rd (by omega), Int.toNat_of_nonneg h0]
theorem src_new (l : List Int) : SrcOk ((l.drop 0).take ((imin (l.length : Int) 2000).toNat - 0)) 0 ∧ Gives (fun k => T_keep_New k l) (fun _ => True) := by
 have h1 : 0 ≤ imin (l.length : Int) 2000 := by unfold imin; split <;> omega
 have h2 : imin (l.length : Int) 2000 ≤ l.length := by unfold imin; split <;> omega
 have h3 : imin (l.length : Int) 2000 ≤ 2000 := by unfold imin; split <;> omega
 refine ⟨⟨by omega, by omega, ?_⟩, ?_⟩
 · simp; omega
 · refine Gives.step ?_
   simp only [T_keep_New]
   exact Gives.pos (by omega) (Gives.now trivial)
/-! The distance of chapter 12. -/
theorem eu_samples {xs : List Int} (h : Win xs) : Gives (fun k => T_euclid_samples k xs) (· = true) := by
 have h2 := h.hi
 refine Gives.step ?_
 simp only [T_euclid_samples]
 refine Gives.bind (Q := fun r => r = .inl ()) ?_ fun r hr => by subst hr; exact Gives.now rfl
 refine Gives.loop (fun s => 0 ≤ s ∧ s ≤ (xs.length : Int)) (fun s => ((xs.length : Int) - s).toNat) ?_ ⟨by omega, by omega⟩
 intro s ⟨i1, i2⟩
 unfold T_euclid_samples_l1
 refine Gives.ite (fun c => Gives.opt (at_rd i1 c) ?_) fun c => Gives.now rfl
 have := h.smp.rd s
 refine Gives.neg (by simp; omega) ?_
 rw [w64_id (by omega) (by omega)]
 exact Gives.now ⟨⟨by omega, by omega⟩, by omega⟩
theorem eu_len (xs : List Int) : Gives (fun k => T_euclid_length k xs) (fun _ => True) := by
 refine Gives.step ?_
 simp only [T_euclid_length]
 exact Gives.now trivial
theorem eu_check {xs ys : List Int} (hx : Win xs) (hy : Win ys) (hl : xs.length = ys.length) : Gives (fun k => T_euclid_check k xs ys) (· = 0) := by
 have x1 := hx.lo
 have x2 := hx.hi
 refine Gives.step ?_
 simp only [T_euclid_check]
 refine Gives.bind (Q := fun b => b = false) ?_ fun b hb => ?_
 · refine Gives.bind (eu_len xs) fun _ _ => Gives.neg (by simp; omega) ?_
   refine Gives.bind (eu_len ys) fun _ _ => Gives.now ?_
   simp; omega
 subst hb
 refine Gives.neg (by simp) ?_
 refine Gives.bind (Q := fun b => b = false) ?_ fun b hb => ?_
 · refine Gives.bind (eu_samples hx) fun u hu => ?_
   subst hu
   refine Gives.neg (by simp) (Gives.bind (eu_samples hy) fun u hu => ?_)
   subst hu
   exact Gives.now rfl
 subst hb
 refine Gives.neg (by simp) (Gives.neg (by simp [hl]) (Gives.now rfl))
theorem eu_square {xs ys : List Int} (hx : Win xs) (hl : xs.length = ys.length) : Gives (fun k => T_euclid_square k xs ys) (fun _ => True) := by
 have x2 := hx.hi
 refine Gives.step ?_
 simp only [T_euclid_square]
 refine Gives.bind (Q := fun _ => True) ?_ fun r hr => Gives.now trivial
 refine Gives.loop (fun s => 0 ≤ s.2 ∧ s.2 ≤ (xs.length : Int)) (fun s => ((xs.length : Int) - s.2).toNat) ?_ ⟨by simp only []; omega, by simp only []; omega⟩
 intro s ⟨i1, i2⟩
 unfold T_euclid_square_l1
 refine Gives.ite (fun c => Gives.opt (at_rd i1 c) (Gives.opt (at_rd i1 (by omega)) ?_)) fun c => Gives.now trivial
 rw [w64_id (x := s.2 + 1) (by omega) (by omega)]
 exact Gives.now ⟨⟨by simp only []; omega, by simp only []; omega⟩, by simp only []; omega⟩
theorem eu_distance {xs ys : List Int} (hx : Win xs) (hy : Win ys) (hl : xs.length = ys.length) : Gives (fun k => T_euclid_Distance k xs ys) (fun r => r.2 = 0) := by
 refine Gives.step ?_
 simp only [T_euclid_Distance]
 refine Gives.bind (eu_check hx hy hl) fun e he => ?_
 subst he
 exact Gives.neg (by simp) (Gives.bind (eu_square hx hl) fun v _ => Gives.now rfl)

/-! Sums of the first samples. -/
def psum (x : List Int) (i : Int) : Int := (x.take i.toNat).sum
theorem psum_zero (x : List Int) : psum x 0 = 0 := by simp [psum]
theorem psum_succ {x : List Int} {i : Int} (h0 : 0 ≤ i) (h1 : i < (x.length : Int)) : psum x (i + 1) = psum x i + rd x i := by
 unfold psum rd
 rw [show (i + 1).toNat = i.toNat + 1 by omega, List.take_succ_eq_append_getElem (show i.toNat < x.length by omega), List.sum_append]
 rw [List.getD_eq_getElem?_getD, List.getElem?_eq_getElem (show i.toNat < x.length by omega)]
 simp
theorem psum_bound {x : List Int} {B : Int} (hB : ∀ v ∈ x, -B ≤ v ∧ v ≤ B) : ∀ n : Nat, n ≤ x.length → -(B * n) ≤ psum x n ∧ psum x n ≤ B * n
 | 0, _ => by simp [psum]
 | n + 1, h => by
  have ih := psum_bound hB n (by omega)
  have e := psum_succ (x := x) (i := (n : Int)) (by omega) (by omega)
  have hb := hB _ (rd_mem (xs := x) (i := (n : Int)) (by omega) (by omega))
  have : (((n + 1 : Nat)) : Int) = (n : Int) + 1 := by omega
  rw [this, e, Int.mul_add, Int.mul_one]
  omega
theorem psum_all {x : List Int} : psum x x.length = x.sum := by simp [psum]
/-! Where the pieces of a window begin. -/
def cut (m n p : Int) : Int := p * m / n
theorem cut_zero (m n : Int) : cut m n 0 = 0 := by simp [cut]
theorem cut_last {m n : Int} (hn : 1 ≤ n) : cut m n n = m := by unfold cut; exact Int.mul_ediv_cancel_left _ (by omega)
theorem cut_mono {m n p q : Int} (hn : 1 ≤ n) (hm : 0 ≤ m) (h : p ≤ q) : cut m n p ≤ cut m n q := by
 unfold cut
 exact Int.ediv_le_ediv (by omega) (Int.mul_le_mul_of_nonneg_right h hm)
theorem cut_range {m n p : Int} (hn : 1 ≤ n) (hm : 0 ≤ m) (h0 : 0 ≤ p) (h1 : p ≤ n) : 0 ≤ cut m n p ∧ cut m n p ≤ m := by
 have a := cut_mono (m := m) hn hm h0
 have b := cut_mono (m := m) hn hm h1
 rw [cut_zero] at a
 rw [cut_last hn] at b
 exact ⟨a, b⟩
theorem cut_w {m n p : Int} (hn : 1 ≤ n) (hn2 : n ≤ 8) (hm : 0 ≤ m) (hm2 : m ≤ 32) (h0 : 0 ≤ p) (h1 : p ≤ n) : w64 ((w64 (p * m)).tdiv n) = cut m n p := by
 have h2 : 0 ≤ p * m := Int.mul_nonneg h0 hm
 have h3 : p * m ≤ 8 * 32 := Int.le_trans (Int.mul_le_mul_of_nonneg_right (show p ≤ 8 by omega) hm) (Int.mul_le_mul_of_nonneg_left hm2 (by omega))
 have h4 := cut_range hn hm h0 h1
 rw [w64_id (x := p * m) (by omega) (by omega), Int.tdiv_eq_ediv_of_nonneg h2, w64_id]
 · rfl
 · have : cut m n p = p * m / n := rfl
   omega
 · have : cut m n p = p * m / n := rfl
   omega
theorem prod_bound {a b A B : Int} (h1 : -A ≤ a) (h2 : a ≤ A) (h3 : -B ≤ b) (h4 : b ≤ B) : -(A * B) ≤ a * b ∧ a * b ≤ A * B := by
 have hA : 0 ≤ A := by omega
 have hB : 0 ≤ B := by omega
 have p1 : 0 ≤ (A - a) * (B - b) := Int.mul_nonneg (by omega) (by omega)
 have p2 : 0 ≤ (A + a) * (B + b) := Int.mul_nonneg (by omega) (by omega)
 have p3 : 0 ≤ (A - a) * (B + b) := Int.mul_nonneg (by omega) (by omega)
 have p4 : 0 ≤ (A + a) * (B - b) := Int.mul_nonneg (by omega) (by omega)
 rw [Int.sub_mul, Int.mul_sub, Int.mul_sub] at p1
 rw [Int.add_mul, Int.mul_add, Int.mul_add] at p2
 rw [Int.sub_mul, Int.mul_add, Int.mul_add] at p3
 rw [Int.add_mul, Int.mul_sub, Int.mul_sub] at p4
 omega
theorem pc_bounds {x : List Int} (hx : Win x) {i : Int} (h0 : 0 ≤ i) (h1 : i ≤ (x.length : Int)) : -32000 ≤ psum x i ∧ psum x i ≤ 32000 := by
 have x2 := hx.hi
 have := psum_bound (B := 1000) hx.smp i.toNat (by omega)
 rw [Int.toNat_of_nonneg h0] at this
 omega
theorem rd_app_l {xs ys : List Int} {i : Int} (h1 : i.toNat < xs.length) : rd (xs ++ ys) i = rd xs i := by
 unfold rd
 rw [List.getD_eq_getElem?_getD, List.getElem?_append_left h1, List.getD_eq_getElem?_getD]
theorem rd_app_1 {xs : List Int} {v i : Int} (h0 : 0 ≤ i) (h1 : (xs.length : Int) = i) : rd (xs ++ [v]) i = v := by
 unfold rd
 rw [List.getD_eq_getElem?_getD, List.getElem?_append_right (by omega)]
 simp [show i.toNat - xs.length = 0 by omega]
/-- The squares of a list. -/
def sqs (x : List Int) : List Int := x.map fun v => v * v
theorem sqs_len (x : List Int) : (sqs x).length = x.length := by simp [sqs]
theorem rd_sqs {x : List Int} {i : Int} (h0 : 0 ≤ i) (h1 : i < (x.length : Int)) : rd (sqs x) i = rd x i * rd x i := by
 unfold rd sqs
 rw [List.getD_eq_getElem?_getD, List.getD_eq_getElem?_getD, List.getElem?_map, List.getElem?_eq_getElem (show i.toNat < x.length by omega)]
 rfl
theorem sqs_bound {x : List Int} (hx : Smp x) : ∀ v ∈ sqs x, -(1000000 : Int) ≤ v ∧ v ≤ 1000000 := by
 intro v hv
 obtain ⟨u, hu, rfl⟩ := List.mem_map.1 hv
 have h := hx u hu
 have := prod_bound (a := u) (b := u) (A := 1000) (B := 1000) h.1 h.2 h.1 h.2
 omega
/-- What the product of a window with itself is. -/
def selfP (x : List Int) : Int := (x.length : Int) * (sqs x).sum - x.sum * x.sum
theorem selfP_bound {x : List Int} (hx : Win x) : -4000000000 ≤ selfP x ∧ selfP x ≤ 4000000000 ∧ -32000000 ≤ (sqs x).sum ∧ (sqs x).sum ≤ 32000000 ∧ -32000 ≤ x.sum ∧ x.sum ≤ 32000 := by
 have x2 := hx.hi
 have b1 := psum_bound (sqs_bound hx.smp) x.length (by rw [sqs_len]; omega)
 have e1 : psum (sqs x) (x.length : Int) = (sqs x).sum := by rw [← sqs_len x]; exact psum_all
 rw [e1] at b1
 have b2 := pc_bounds hx (i := x.length) (by omega) (by omega)
 rw [psum_all] at b2
 have q1 := prod_bound (a := (x.length : Int)) (b := (sqs x).sum) (A := 32) (B := 32000000) (by omega) (by omega) (by omega) (by omega)
 have q2 := prod_bound (a := x.sum) (b := x.sum) (A := 32000) (B := 32000) (by omega) (by omega) (by omega) (by omega)
 unfold selfP
 omega
theorem nm_product {x : List Int} (hx : Win x) : Gives (fun k => T_normal_product k x x) (fun r => r = selfP x) := by
 have x2 := hx.hi
 obtain ⟨p1, p2, p3, p4, p5, p6⟩ := selfP_bound hx
 refine Gives.step ?_
 simp only [T_normal_product]
 refine Gives.bind (Q := fun r => r.1 = (sqs x).sum ∧ r.2.1 = x.sum ∧ r.2.2 = x.sum) ?_ fun r hr => ?_
 · refine Gives.loop (fun s => 0 ≤ s.2.2.2 ∧ s.2.2.2 ≤ (x.length : Int) ∧ s.1 = psum (sqs x) s.2.2.2 ∧ s.2.1 = psum x s.2.2.2 ∧ s.2.2.1 = psum x s.2.2.2) (fun s => ((x.length : Int) - s.2.2.2).toNat) ?_ ⟨by simp only []; omega, by simp only []; omega, (psum_zero _).symm, (psum_zero _).symm, (psum_zero _).symm⟩
   intro ⟨a, b, c, i⟩ ⟨i1, i2, i3, i4, i5⟩
   simp only at i1 i2 i3 i4 i5
   unfold T_normal_product_l1
   simp only []
   refine Gives.ite (fun cc => Gives.opt (at_rd i1 cc) (Gives.opt (at_rd i1 cc) ?_)) fun cc => Gives.now ?_
   · have e1 := psum_succ (x := sqs x) i1 (by rw [sqs_len]; exact cc)
     rw [rd_sqs i1 cc] at e1
     have e2 := psum_succ (x := x) i1 cc
     have b1 := psum_bound (sqs_bound hx.smp) i.toNat (by rw [sqs_len]; omega)
     rw [Int.toNat_of_nonneg i1] at b1
     have b2 := pc_bounds hx i1 (by omega)
     have hs := hx.smp.rd i
     have b3 := prod_bound (a := rd x i) (b := rd x i) (A := 1000) (B := 1000) hs.1 hs.2 hs.1 hs.2
     rw [w64_id (x := rd x i * rd x i) (by omega) (by omega), w64_id (x := a + rd x i * rd x i) (by omega) (by omega), w64_id (x := b + rd x i) (by omega) (by omega), w64_id (x := c + rd x i) (by omega) (by omega), w64_id (x := i + 1) (by omega) (by omega)]
     exact Gives.now ⟨⟨by simp only []; omega, by simp only []; omega, by simp only []; omega, by simp only []; omega, by simp only []; omega⟩, by simp only []; omega⟩
   · have : i = x.length := by omega
     subst this
     have e1 : psum (sqs x) (x.length : Int) = (sqs x).sum := by rw [← sqs_len x]; exact psum_all
     exact ⟨i3.trans e1, i4.trans psum_all, i5.trans psum_all⟩
 · obtain ⟨r1, r2, r3⟩ := hr
   rw [r1, r2, r3]
   have q1 := prod_bound (a := (x.length : Int)) (b := (sqs x).sum) (A := 32) (B := 32000000) (by omega) (by omega) (by omega) (by omega)
   have q2 := prod_bound (a := x.sum) (b := x.sum) (A := 32000) (B := 32000) (by omega) (by omega) (by omega) (by omega)
   rw [w64_id (x := (x.length : Int) * (sqs x).sum) (by omega) (by omega), w64_id (x := x.sum * x.sum) (by omega) (by omega), w64_id (by omega) (by omega)]
   exact Gives.now rfl
theorem nm_Product {x : List Int} (hx : Win x) : Gives (fun k => T_normal_Product k x x) (fun r => r.1 = selfP x ∧ r.2 = 0) := by
 refine Gives.step ?_
 simp only [T_normal_Product]
 exact Gives.bind (eu_distance hx hx rfl) fun e he => Gives.neg (by simp [he]) (Gives.bind (nm_product hx) fun v hv => Gives.now ⟨hv, rfl⟩)
/-! Sums over the first places. -/
def sg (f : Int → Int) : Nat → Int
 | 0 => 0
 | n + 1 => sg f n + f n
theorem sg_congr {f g : Int → Int} : ∀ {n : Nat}, (∀ i : Int, 0 ≤ i → i < n → f i = g i) → sg f n = sg g n
 | 0, _ => rfl
 | n + 1, h => by
  rw [sg, sg, sg_congr (n := n) fun i h1 h2 => h i h1 (by omega), h n (by omega) (by omega)]
theorem sg_psum {x : List Int} : ∀ {n : Nat}, n ≤ x.length → sg (rd x) n = psum x n
 | 0, _ => by simp [sg, psum]
 | n + 1, h => by
  have e := psum_succ (x := x) (i := (n : Int)) (by omega) (by omega)
  have : (((n + 1 : Nat)) : Int) = (n : Int) + 1 := by omega
  rw [sg, sg_psum (n := n) (by omega), this, e]
theorem sg_bound {f : Int → Int} {B : Int} : ∀ {n : Nat}, (∀ i : Int, 0 ≤ i → i < n → -B ≤ f i ∧ f i ≤ B) → -(B * n) ≤ sg f n ∧ sg f n ≤ B * n
 | 0, _ => by simp [sg]
 | n + 1, h => by
  have ih := sg_bound (n := n) fun i h1 h2 => h i h1 (by omega)
  have hb := h n (by omega) (by omega)
  have : (((n + 1 : Nat)) : Int) = (n : Int) + 1 := by omega
  rw [sg, this, Int.mul_add, Int.mul_one]
  omega
theorem sg_nonneg {f : Int → Int} : ∀ {n : Nat}, (∀ i : Int, 0 ≤ i → i < n → 0 ≤ f i) → 0 ≤ sg f n
 | 0, _ => by simp [sg]
 | n + 1, h => by
  have ih := sg_nonneg (n := n) fun i h1 h2 => h i h1 (by omega)
  have hb := h n (by omega) (by omega)
  rw [sg]; omega
theorem sg_cent (a b : Int → Int) (L S T : Int) : ∀ n : Nat, sg (fun i => (L * a i - S) * (L * b i - T)) n = L * L * sg (fun i => a i * b i) n - L * T * sg a n - L * S * sg b n + n * (S * T)
 | 0 => by simp [sg]
 | n + 1 => by
  have ih := sg_cent a b L S T n
  have : (((n + 1 : Nat)) : Int) = (n : Int) + 1 := by omega
  rw [sg, sg, sg, sg, ih, this]
  grind
theorem sq_nonneg (a : Int) : 0 ≤ a * a := by
 rcases Int.le_total 0 a with h | h
 · exact Int.mul_nonneg h h
 · exact Int.mul_nonneg_of_nonpos_of_nonpos h h
/-! What two windows' product is. -/
def prodP (x y : List Int) : Int := (x.length : Int) * sg (fun i => rd x i * rd y i) x.length - x.sum * y.sum
theorem cent_sum {x y : List Int} (hl : x.length = y.length) : sg (fun i => ((x.length : Int) * rd x i - x.sum) * ((x.length : Int) * rd y i - y.sum)) x.length = (x.length : Int) * prodP x y := by
 have e1 : sg (rd x) x.length = x.sum := by rw [sg_psum (Nat.le_refl _)]; exact psum_all
 have e2 : sg (rd y) x.length = y.sum := by rw [hl, sg_psum (Nat.le_refl _)]; exact psum_all
 rw [sg_cent, e1, e2]
 unfold prodP
 grind
theorem prodP_nonneg {x : List Int} (h : 0 < x.length) : 0 ≤ prodP x x := by
 have e := cent_sum (x := x) (y := x) rfl
 have : 0 ≤ (x.length : Int) * prodP x x := by rw [← e]; exact sg_nonneg fun i _ _ => sq_nonneg _
 exact Int.nonneg_of_mul_nonneg_right this (by omega)
theorem selfP_prod {x : List Int} : selfP x = prodP x x := by
 have e : sg (fun i => rd x i * rd x i) x.length = (sqs x).sum := by
  rw [← psum_all (x := sqs x), sqs_len, ← sg_psum (by rw [sqs_len]; exact Nat.le_refl _)]
  exact sg_congr fun i h1 h2 => (rd_sqs h1 h2).symm
 unfold selfP prodP
 rw [e]

/-! The lengths of pieces, and what they all divide. -/
theorem len_fin : ∀ m : Fin 33, ∀ n : Fin 9, ∀ p : Fin 8, 1 ≤ n.val → p.val < n.val → n.val ≤ m.val → ((p.val + 1) * m.val / n.val - p.val * m.val / n.val = m.val / n.val ∨ (p.val + 1) * m.val / n.val - p.val * m.val / n.val = m.val / n.val + 1) := by decide +kernel
/-- What all lengths of pieces divide. -/
def mm (m n : Nat) : Nat := (m / n) * (m / n + 1)
/-- How often a piece's length goes into it. -/
def wt (m n : Nat) (p : Int) : Nat := mm m n / (cut m n (p + 1) - cut m n p).toNat
theorem wt_ok {m n : Nat} {p : Int} (hm : m ≤ 32) (hn : 1 ≤ n) (hn2 : n ≤ 8) (hn3 : n ≤ m) (h0 : 0 ≤ p) (h1 : p < (n : Int)) :
 (cut m n (p + 1) - cut m n p).toNat * wt m n p = mm m n ∧ wt m n p ≤ 33 ∧ 1 ≤ cut m n (p + 1) - cut m n p ∧ cut m n (p + 1) - cut m n p ≤ 32 ∧ 0 < mm m n ∧ mm m n ≤ 1056 := by
 obtain ⟨q, rfl⟩ : ∃ q : Nat, p = q := ⟨p.toNat, by omega⟩
 have dl : cut m n ((q : Int) + 1) - cut m n (q : Int) ≤ 32 := by
  have a := cut_range (m := m) (n := n) (p := (q : Int) + 1) (by omega) (by omega) (by omega) (by omega)
  have b := cut_range (m := m) (n := n) (p := (q : Int)) (by omega) (by omega) (by omega) (by omega)
  omega
 have f := len_fin ⟨m, by omega⟩ ⟨n, by omega⟩ ⟨q, by omega⟩ hn (by simp only []; omega) hn3
 simp only [] at f
 have e1 : cut (m : Int) n ((q : Int) + 1) = (((q + 1) * m / n : Nat) : Int) := by
  unfold cut
  have : ((q : Int) + 1) * m = (((q + 1) * m : Nat) : Int) := by simp
  rw [this]; rfl
 have e2 : cut (m : Int) n (q : Int) = ((q * m / n : Nat) : Int) := by
  unfold cut
  have : (q : Int) * m = ((q * m : Nat) : Int) := by simp
  rw [this]; rfl
 have d0 : 1 ≤ m / n := Nat.div_pos hn3 hn
 have d1 : m / n ≤ 32 := Nat.le_trans (Nat.div_le_self _ _) hm
 have mono : q * m / n ≤ (q + 1) * m / n := Nat.div_le_div_right (Nat.mul_le_mul_right m (by omega))
 unfold wt mm
 rw [e1, e2] at dl ⊢
 generalize (q + 1) * m / n = c1 at f mono dl ⊢
 generalize q * m / n = c0 at f mono dl ⊢
 generalize m / n = a at f d0 d1 ⊢
 have el : ((c1 : Int) - (c0 : Int)).toNat = c1 - c0 := by omega
 rw [el]
 have hb : a * (a + 1) ≤ 32 * 33 := Nat.mul_le_mul d1 (by omega)
 have hb0 : 0 < a * (a + 1) := Nat.mul_pos d0 (by omega)
 rcases f with f | f
 · rw [f, Nat.mul_div_cancel_left _ d0]
   refine ⟨rfl, by omega, by omega, by omega, hb0, by omega⟩
 · rw [f, Nat.mul_comm a (a + 1), Nat.mul_div_cancel_left _ (by omega)]
   refine ⟨rfl, by omega, by omega, by omega, by rw [Nat.mul_comm]; exact hb0, by rw [Nat.mul_comm]; omega⟩
/-- The sum of a piece, and the centred one. -/
def pcs (x : List Int) (n p : Int) : Int := psum x (cut x.length n (p + 1)) - psum x (cut x.length n p)
def pcc (x : List Int) (n p : Int) : Int := (x.length : Int) * pcs x n p - (cut x.length n (p + 1) - cut x.length n p) * x.sum
theorem pcs_bound {x : List Int} {n p : Int} (hx : Win x) (hn : 1 ≤ n) (h0 : 0 ≤ p) (h1 : p < n) : -64000 ≤ pcs x n p ∧ pcs x n p ≤ 64000 := by
 have k1 := cut_range (m := (x.length : Int)) hn (by omega) h0 (by omega)
 have k2 := cut_range (m := (x.length : Int)) (p := p + 1) hn (by omega) (by omega) (by omega)
 have b1 := pc_bounds hx k1.1 k1.2
 have b2 := pc_bounds hx k2.1 k2.2
 unfold pcs
 omega
theorem pcc_bound {x : List Int} {n p : Int} (hx : Win x) (hn : 1 ≤ n) (h0 : 0 ≤ p) (h1 : p < n) : -3120000 ≤ pcc x n p ∧ pcc x n p ≤ 3120000 := by
 have k1 := cut_range (m := (x.length : Int)) hn (by omega) h0 (by omega)
 have k2 := cut_range (m := (x.length : Int)) (p := p + 1) hn (by omega) (by omega) (by omega)
 have b0 := pcs_bound hx hn h0 h1
 have b1 := pc_bounds hx (i := x.length) (by omega) (by omega)
 have x1 := hx.hi
 rw [psum_all] at b1
 have q1 := prod_bound (a := (x.length : Int)) (b := pcs x n p) (A := 32) (B := 64000) (by omega) (by omega) (by omega) (by omega)
 have q2 := prod_bound (a := cut x.length n (p + 1) - cut x.length n p) (b := x.sum) (A := 32) (B := 32000) (by omega) (by omega) (by omega) (by omega)
 unfold pcc
 omega

/-! Errors of windows of any kind. -/
theorem Gives.get {α : Type} {f : Nat → Option α} {Q : α → Prop} (h : Gives f Q) : ∃ v, Gives f (· = v) ∧ Q v := by
 obtain ⟨r, h1, h2⟩ := h
 exact ⟨r, ⟨r, h1, rfl⟩, h2⟩
theorem at_mem {α : Type} {xs : List α} {i : Int} (h0 : 0 ≤ i) (h1 : i < (xs.length : Int)) : ∃ v, at? xs i = some v ∧ v ∈ xs := by
 have h : i.toNat < xs.length := by omega
 exact ⟨xs[i.toNat], by unfold at?; rw [if_pos h0, List.getElem?_eq_getElem h], List.getElem_mem h⟩
def smpB (xs : List Int) : Bool := xs.all fun v => decide (-1000 ≤ v ∧ v ≤ 1000)
theorem smpB_iff {xs : List Int} : smpB xs = true ↔ Smp xs := by
 unfold smpB Smp
 rw [List.all_eq_true]
 exact ⟨fun h v hv => by simpa using h v hv, fun h v hv => by simpa using h v hv⟩
theorem smp_of_rd {xs : List Int} (h : ∀ q, 0 ≤ q → q < (xs.length : Int) → -1000 ≤ rd xs q ∧ rd xs q ≤ 1000) : Smp xs := by
 intro v hv
 obtain ⟨i, hi, rfl⟩ := List.getElem_of_mem hv
 have e : rd xs (i : Int) = xs[i] := by unfold rd; rw [List.getD_eq_getElem?_getD]; simp [hi]
 rw [← e]
 exact h i (by omega) (by omega)
def lenB (xs : List Int) : Bool := decide (2 ≤ xs.length) && decide (xs.length ≤ 32)
/-- The first error of two windows and a band. -/
def errM (xs ys : List Int) (m : Int) : Int :=
 if (lenB xs && lenB ys) = true then if (smpB xs && smpB ys) = true then if (xs.length : Int) - ys.length ≤ m ∧ (ys.length : Int) - xs.length ≤ m then 0 else 8 else 12 else 8
theorem errM_win {xs ys : List Int} {m : Int} (hx : Win xs) (hy : Win ys) (h1 : (xs.length : Int) - ys.length ≤ m) (h2 : (ys.length : Int) - xs.length ≤ m) : errM xs ys m = 0 := by
 have a1 := hx.lo
 have a2 := hx.hi
 have b1 := hy.lo
 have b2 := hy.hi
 unfold errM
 rw [if_pos (by simp [lenB]; omega), if_pos (by rw [smpB_iff.2 hx.smp, smpB_iff.2 hy.smp]; rfl), if_pos ⟨h1, h2⟩]
/-! Roots and quotients by roots. -/
theorem rt_floorG {v : Int} (h0 : 0 ≤ v) (h1 : v ≤ 4611686018427387904) : Gives (fun k => T_root_Floor k v) (fun r => 0 ≤ r ∧ r ≤ 2147483648 ∧ r * r ≤ v ∧ v < (r + 1) * (r + 1)) := by
 have small : ∀ r : Int, 0 ≤ r → r * r ≤ v → r ≤ 2147483648 := fun r r0 r1 => by
  refine Decidable.byContradiction fun hn => ?_
  have := Int.mul_le_mul (a := 2147483649) (b := 2147483649) (c := r) (d := r) (by omega) (by omega) (by omega) (by omega)
  omega
 refine Gives.step ?_
 simp only [T_root_Floor]
 refine Gives.neg (by simp; omega) (Gives.bind (Q := fun r => 0 ≤ r ∧ r ≤ 2147483648 ∧ r * r ≤ v ∧ v < (r + 1) * (r + 1)) ?_ fun r hr => Gives.now hr)
 refine Gives.loop (fun s => ∃ k : Nat, s.2 = ((2 ^ k / 2 : Nat) : Int) ∧ k ≤ 32 ∧ 0 ≤ s.1 ∧ s.1 + ((2 ^ k : Nat) : Int) ≤ 4294967296 ∧ (k = 32 ∨ s.1 + ((2 ^ k : Nat) : Int) ≤ 2147483648) ∧ s.1 * s.1 ≤ v ∧ v < (s.1 + (2 ^ k : Nat)) * (s.1 + (2 ^ k : Nat))) (fun s => s.2.toNat) ?_ ⟨32, by decide, by omega, by simp only []; omega, by simp only []; omega, .inl rfl, by simp only []; omega, by simp only []; omega⟩
 intro ⟨r, b⟩ ⟨k, e, hk, r0, rb, rc, r1, r2⟩
 simp only at e r0 rb rc r1 r2
 have rs := small r r0 r1
 unfold T_root_Floor_l1
 simp only []
 cases k with
 | zero =>
  simp at e
  subst e
  refine Gives.neg (by omega) (Gives.now ⟨r0, rs, r1, by simpa using r2⟩)
 | succ k =>
  have p : 2 ^ (k + 1) = 2 * 2 ^ k := by rw [Nat.pow_succ, Nat.mul_comm]
  have p0 : 0 < 2 ^ k := Nat.pow_pos (by omega)
  have p1 : 2 ^ k ≤ 2 ^ 31 := Nat.pow_le_pow_right (by omega) (by omega)
  rw [p] at e r2 rb rc
  have pk : k + 1 = 32 → 2 ^ k = 2147483648 := fun h => by rw [show k = 31 by omega]
  obtain ⟨w, hw⟩ : ∃ w, 2 ^ k = w := ⟨_, rfl⟩
  rw [hw] at e r2 p0 p1 rb rc pk
  have e2 : b = w := by rw [e]; omega
  subst e2
  have rw1 : r + w ≤ 2147483648 := by
   rcases rc with rc | rc
   · have := pk rc; omega
   · omega
  have q := prod_bound (a := r + w) (b := r + w) (A := 2147483648) (B := 2147483648) (by omega) (by omega) (by omega) (by omega)
  rw [w64_id (x := r + w) (by omega) (by omega), w64_id (x := (r + w) * (r + w)) (by omega) (by omega)]
  refine Gives.pos (by omega) (Gives.ite (fun c => Gives.now ?_) fun c => ?_)
  · have : (r + w + 1) * (r + w + 1) = (r + w) * (r + w) + (r + w) + (r + w) + 1 := by grind
    exact ⟨by omega, small _ (by omega) (by omega), by omega, by omega⟩
  · have ed : (w : Int).fdiv (2 ^ 1) = ((w / 2 : Nat) : Int) := by
     rw [Int.fdiv_eq_ediv_of_nonneg _ (by omega)]; rfl
    rw [ed]
    have nk : k = 31 → v < (r + w) * (r + w) → r + w ≤ 2147483648 := fun _ _ => rw1
    refine Gives.bind (Q := fun (t : Int) => 0 ≤ t ∧ t + (w : Int) ≤ 2147483648 ∧ t * t ≤ v ∧ v < (t + (w : Int)) * (t + (w : Int))) ?_ fun t ht => Gives.now ?_
    · refine Gives.ite (fun c2 => Gives.now ⟨by omega, ?_, by omega, ?_⟩) fun c2 => Gives.now ⟨r0, rw1, r1, by omega⟩
      · rcases rc with rc | rc
        · exfalso
          have h31 := pk rc
          have : r = 0 := by omega
          subst this
          have e4 : ((w : Int)) = 2147483648 := by omega
          rw [e4] at c c2
          omega
        · omega
      · have : r + w + (w : Int) = r + ((2 * w : Nat) : Int) := by omega
        rw [this]; exact r2
    · refine ⟨⟨k, by rw [hw], by omega, ht.1, by rw [hw]; have := ht.2.1; omega, .inr (by rw [hw]; exact ht.2.1), ht.2.2.1, by rw [hw]; exact ht.2.2.2⟩, ?_⟩
      simp only []
      omega
theorem rf_ok {v : Int} (h : 0 ≤ v ∧ v ≤ 4611686018427387904) : ∃ r, Gives (fun k => T_root_Floor k v) (· = r) ∧ 0 ≤ r ∧ r ≤ 2147483648 ∧ r * r ≤ v ∧ v < (r + 1) * (r + 1) := by
 obtain ⟨r, ⟨K, hK⟩, hr⟩ := rt_floorG h.1 h.2
 exact ⟨r, ⟨r, ⟨K, hK⟩, rfl⟩, hr⟩
/-- The root, rounded down. -/
noncomputable def rtf (v : Int) : Int := if h : 0 ≤ v ∧ v ≤ 4611686018427387904 then Classical.choose (rf_ok h) else 0
theorem rt_rtf {v : Int} (h0 : 0 ≤ v) (h1 : v ≤ 4611686018427387904) : Gives (fun k => T_root_Floor k v) (· = rtf v) ∧ 0 ≤ rtf v ∧ rtf v ≤ 2147483648 ∧ rtf v * rtf v ≤ v ∧ v < (rtf v + 1) * (rtf v + 1) := by
 unfold rtf
 rw [dif_pos ⟨h0, h1⟩]
 exact Classical.choose_spec (rf_ok ⟨h0, h1⟩)
/-- What Quotient answers. -/
noncomputable def QQ (t e : Int) : Int := if 0 ≤ t then rtf (t * t / e) else -(if rtf (t * t / e) * rtf (t * t / e) * e < t * t then rtf (t * t / e) + 1 else rtf (t * t / e))
/-! Schemes. -/
structure SchOk (kd bd gp len n : Int) (cuts : List Int) : Prop where
 k1 : 1 ≤ kd
 k2 : kd ≤ 5
 b1 : 0 ≤ bd
 b2 : bd ≤ 32
 b3 : bd = 0 ∨ kd = 4
 g1 : -1000 ≤ gp
 g2 : gp ≤ 1000
 g3 : gp = 0 ∨ kd = 5
 l1 : 2 ≤ len
 l2 : len ≤ 32
 n1 : 1 ≤ n
 n2 : n ≤ 8
 n3 : n ≤ len
 c1 : cuts.length ≤ 15
 c2 : ∀ i, 0 ≤ i → i < (cuts.length : Int) → -2000 ≤ rd cuts i ∧ rd cuts i ≤ 2000
 c3 : ∀ i, 0 < i → i < (cuts.length : Int) → rd cuts (i - 1) < rd cuts i
theorem SchOk.lt {kd bd gp len n : Int} {cuts : List Int} (h : SchOk kd bd gp len n cuts) : ∀ (d : Nat) (i : Int), 0 ≤ i → i + d + 1 < (cuts.length : Int) → rd cuts i < rd cuts (i + d + 1)
 | 0, i, h0, h1 => by
  have := h.c3 (i + 1) (by omega) (by omega)
  rw [show i + 1 - 1 = i by omega] at this
  rw [show i + ((0 : Nat) : Int) + 1 = i + 1 by omega]
  exact this
 | d + 1, i, h0, h1 => by
  have a := SchOk.lt h d i h0 (by omega)
  have b := h.c3 (i + d + 1 + 1) (by omega) (by omega)
  rw [show i + (d : Int) + 1 + 1 - 1 = i + d + 1 by omega] at b
  rw [show i + ((d + 1 : Nat) : Int) + 1 = i + d + 1 + 1 by omega]
  omega
theorem SchOk.le {kd bd gp len n : Int} {cuts : List Int} (h : SchOk kd bd gp len n cuts) {i j : Int} (h0 : 0 ≤ i) (hij : i ≤ j) (h1 : j < (cuts.length : Int)) : rd cuts i ≤ rd cuts j := by
 by_cases e : i = j
 · rw [e]; exact Int.le_refl _
 · have := h.lt (j - i - 1).toNat i h0 (by omega)
   rw [show i + ((j - i - 1).toNat : Int) + 1 = j by omega] at this
   omega
theorem src_measure {L : List Int} {p : Int} (h : SrcOk L p) : Gives (fun k => T_keep_Src_Measure k L p) (fun r => (1 ≤ r.1 ∧ r.1 ≤ 5 ∧ 0 ≤ r.2.1 ∧ r.2.1 ≤ 32 ∧ (r.2.1 = 0 ∨ r.1 = 4) ∧ -1000 ≤ r.2.2.1 ∧ r.2.2.1 ≤ 1000 ∧ (r.2.2.1 = 0 ∨ r.1 = 5)) ∧ SrcOk L r.2.2.2) := by
 refine Gives.step ?_
 simp only [T_keep_Src_Measure]
 refine Gives.bind (src_range h 1 5 (by omega) (by omega) (by omega)) fun a ha => Gives.bind (Q := fun r => (0 ≤ r.2 ∧ r.2 ≤ 32 ∧ (r.2 = 0 ∨ a.1 = 4)) ∧ SrcOk L r.1) ?_ fun b hb => Gives.bind (Q := fun r => (-1000 ≤ r.2 ∧ r.2 ≤ 1000 ∧ (r.2 = 0 ∨ a.1 = 5)) ∧ SrcOk L r.1) ?_ fun c hc => Gives.now ⟨⟨ha.1, ha.2.1, hb.1.1, hb.1.2.1, hb.1.2.2, hc.1⟩, hc.2⟩
 · refine Gives.ite (fun e => Gives.bind (src_pick ha.2.2 _ (by simp) (by simp)) fun v hv => Gives.now ⟨?_, hv.2⟩) fun _ => Gives.now ⟨⟨by simp only []; omega, by simp only []; omega, .inl rfl⟩, ha.2.2⟩
   have m := hv.1
   simp only [List.mem_cons, List.not_mem_nil, or_false] at m
   refine ⟨by simp only []; omega, by simp only []; omega, .inr e⟩
 · refine Gives.ite (fun e => Gives.bind (src_pick hb.2 _ (by simp) (by simp)) fun v hv => Gives.now ⟨?_, hv.2⟩) fun _ => Gives.now ⟨⟨by simp only []; omega, by simp only []; omega, .inl rfl⟩, hb.2⟩
   have m := hv.1
   simp only [List.mem_cons, List.not_mem_nil, or_false] at m
   refine ⟨by simp only []; omega, by simp only []; omega, .inr e⟩
theorem src_cuts {L : List Int} {p : Int} (h : SrcOk L p) : Gives (fun k => T_keep_Src_Cuts k L p) (fun r => (r.1.length ≤ 15 ∧ (∀ i, 0 ≤ i → i < (r.1.length : Int) → -2000 ≤ rd r.1 i ∧ rd r.1 i ≤ 2000) ∧ ∀ i, 0 < i → i < (r.1.length : Int) → rd r.1 (i - 1) < rd r.1 i) ∧ SrcOk L r.2) := by
 refine Gives.step ?_
 simp only [T_keep_Src_Cuts]
 refine Gives.bind (src_pick h _ (by simp) (by simp)) fun a ha => Gives.bind (src_pick ha.2 _ (by simp) (by simp)) fun b hb => Gives.bind (src_n hb.2 16 (by omega) (by omega)) fun c hc => Gives.bind (Q := fun r => r.2.2.length = r.1 ∧ (r.2.2.length ≤ 15 ∧ (∀ i, 0 ≤ i → i < (r.2.2.length : Int) → -2000 ≤ rd r.2.2 i ∧ rd r.2.2 i ≤ 2000) ∧ ∀ i, 0 < i → i < (r.2.2.length : Int) → rd r.2.2 (i - 1) < rd r.2.2 i) ∧ SrcOk L r.2.1) ?_ fun d hd => Gives.now (by rw [drop_take_len hd.1]; exact hd.2)
 have b1 : 1 ≤ b.1 ∧ b.1 ≤ 60 := by
  have := hb.1
  simp at this
  omega
 have a1 : -400 ≤ a.1 ∧ a.1 ≤ 0 := by
  have := ha.1
  simp at this
  omega
 refine Gives.loop (fun t => SrcOk L t.2.2.2.1 ∧ (t.1 : Int) + t.2.2.1 = c.1 ∧ 0 ≤ t.2.2.1 ∧ t.2.2.2.2.length = t.1 ∧ -400 ≤ t.2.1 ∧ t.2.1 ≤ 60 * (t.1 : Int) ∧ (0 < t.1 → rd t.2.2.2.2 ((t.1 : Int) - 1) = t.2.1) ∧ (∀ i, 0 ≤ i → i < (t.1 : Int) → -2000 ≤ rd t.2.2.2.2 i ∧ rd t.2.2.2.2 i ≤ 2000) ∧ ∀ i, 0 < i → i < (t.1 : Int) → rd t.2.2.2.2 (i - 1) < rd t.2.2.2.2 i) (fun t => t.2.2.1.toNat) ?_
  ⟨hc.2.2, by simp only []; omega, by simp only []; omega, rfl, by simp only []; omega, by simp only []; omega, fun h => by simp only at h; omega, fun i h0 h1 => by simp only at h1; omega, fun i h0 h1 => by simp only at h1; omega⟩
 intro ⟨l, v, n, q, o⟩ ⟨i1, i2, i3, i4, i5, i6, i7, i8, i9⟩
 simp only at i1 i2 i3 i4 i5 i6 i7 i8 i9
 unfold T_keep_Src_Cuts_l1
 simp only []
 refine Gives.ite (fun cc => ?_) fun cc => Gives.now ⟨i4, ⟨by simp only []; omega, by simp only [i4]; exact i8, by simp only [i4]; exact i9⟩, i1⟩
 refine Gives.bind (src_range i1 1 b.1 (by omega) (by omega) (by omega)) fun d hd => Gives.pos (by unfold LIM; omega) ?_
 rw [w64_id (x := n - 1) (by omega) (by omega), w64_id (x := v + d.1) (by omega) (by omega), drop_take_len i4]
 refine Gives.now ⟨⟨hd.2.2, by simp only []; omega, by simp only []; omega, by simp [i4], by simp only []; omega, by simp only []; omega, fun _ => ?_, fun i h0 h1 => ?_, fun i h0 h1 => ?_⟩, by simp only []; omega⟩
 · simp only []
   rw [rd_app_1 (by omega) (by omega)]
 · simp only at h1 ⊢
   by_cases e : i = (l : Int)
   · rw [rd_app_1 h0 (by omega)]; omega
   · rw [rd_app_l (by omega)]; exact i8 i h0 (by omega)
 · simp only at h1 ⊢
   by_cases e : i = (l : Int)
   · have e1 : rd (o ++ [v + d.1]) i = v + d.1 := rd_app_1 (by omega) (by omega)
     have e2 : rd (o ++ [v + d.1]) (i - 1) = rd o (i - 1) := rd_app_l (by omega)
     rw [e1, e2, e, i7 (by omega)]; omega
   · have e1 : rd (o ++ [v + d.1]) i = rd o i := rd_app_l (by omega)
     have e2 : rd (o ++ [v + d.1]) (i - 1) = rd o (i - 1) := rd_app_l (by omega)
     rw [e1, e2]; exact i9 i h0 (by omega)
theorem src_scheme {L : List Int} {p : Int} (h : SrcOk L p) : Gives (fun k => T_keep_Src_Scheme k L p) (fun r => SchOk r.1 r.2.1 r.2.2.1 r.2.2.2.1 r.2.2.2.2.1 r.2.2.2.2.2.1 ∧ SrcOk L r.2.2.2.2.2.2) := by
 refine Gives.step ?_
 simp only [T_keep_Src_Scheme]
 refine Gives.bind (src_measure h) fun a ha => Gives.bind (src_length ha.2) fun b hb => ?_
 have e : 1 ≤ imin 8 b.1 ∧ imin 8 b.1 ≤ 8 ∧ imin 8 b.1 ≤ b.1 := by unfold imin; split <;> omega
 refine Gives.bind (src_range hb.2.2 1 (imin 8 b.1) (by omega) (by omega) (by omega)) fun c hc => Gives.bind (src_cuts hc.2.2) fun d hd => Gives.now ⟨?_, hd.2⟩
 obtain ⟨⟨q1, q2, q3, q4, q5, q6, q7, q8⟩, _⟩ := ha
 obtain ⟨⟨d1, d2, d3⟩, _⟩ := hd
 exact ⟨q1, q2, q3, q4, q5, q6, q7, q8, hb.1, hb.2.1, hc.1, by simp only []; omega, by simp only []; omega, d1, d2, d3⟩
/-! Check. -/
theorem ms_name {k : Int} (h1 : 1 ≤ k) (h2 : k ≤ 5) : Gives (fun j => T_measure_name j k) (fun r => (r == (⟨#[]⟩ : ByteArray)) = false) := by
 refine Gives.step ?_
 simp only [T_measure_name]
 refine Gives.ite (fun _ => Gives.now (by decide +kernel)) fun c1 => Gives.ite (fun _ => Gives.now (by decide +kernel)) fun c2 => Gives.ite (fun _ => Gives.now (by decide +kernel)) fun c3 => Gives.ite (fun _ => Gives.now (by decide +kernel)) fun c4 => Gives.ite (fun _ => Gives.now (by decide +kernel)) fun c5 => ?_
 omega
theorem w_check {kd bd gp len n : Int} {cuts : List Int} (h : SchOk kd bd gp len n cuts) : Gives (fun k => T_word_Check k kd bd gp len n cuts) (fun r => r = 0) := by
 obtain ⟨k1, k2, b1, b2, b3, g1, g2, g3, l1, l2, n1, n2, n3, c1, c2, c3⟩ := h
 refine Gives.step ?_
 simp only [T_word_Check]
 refine Gives.bind (Q := fun r => r = 0) ?_ fun e he => ?_
 · refine Gives.step ?_
   simp only [T_measure_Check]
   refine Gives.bind (ms_name k1 k2) fun v hv => Gives.bind (Q := fun b => b = false) ?_ fun b hb => by subst hb; exact Gives.neg (by simp) (Gives.now rfl)
   refine Gives.neg (by simp [hv]) (Gives.neg ?_ (Gives.now ?_))
   · simp; omega
   · simp; omega
 subst he
 refine Gives.neg (by simp; omega) (Gives.bind (Q := fun r => r = .inl ()) ?_ fun r hr => by subst hr; exact Gives.now rfl)
 refine Gives.loop (fun s => 0 ≤ s ∧ s ≤ (cuts.length : Int)) (fun s => ((cuts.length : Int) - s).toNat) ?_ ⟨by omega, by omega⟩
 intro s ⟨i0, i1⟩
 unfold T_word_Check_l1
 refine Gives.ite (fun c => Gives.opt (at_rd i0 c) ?_) fun c => Gives.now rfl
 have q := c2 s i0 c
 refine Gives.bind (Q := fun b => b = false) (Gives.neg (by simp; omega) (Gives.ite (fun d => ?_) fun d => Gives.now rfl)) fun b hb => ?_
 · rw [w64_id (x := s - 1) (by omega) (by omega)]
   refine Gives.opt (at_rd (by omega) (by omega)) (Gives.now ?_)
   have := c3 s d c
   simp; omega
 · subst hb
   rw [w64_id (by omega) (by omega)]
   exact Gives.neg (by simp) (Gives.now ⟨⟨by omega, by omega⟩, by omega⟩)

/-- The coordinate of a piece. -/
noncomputable def coo (kd : Int) (x : List Int) (n p : Int) : Int :=
 if kd = 2 then pcc x n p / ((x.length : Int) * (cut x.length n (p + 1) - cut x.length n p))
 else if kd = 3 then if (x.length : Int) * selfP x = 0 then 0 else QQ (64 * pcc x n p) ((x.length : Int) * selfP x)
 else pcs x n p / (cut x.length n (p + 1) - cut x.length n p)
theorem energy_ok {x : List Int} (hx : Win x) : 0 ≤ (x.length : Int) * selfP x ∧ (x.length : Int) * selfP x ≤ 128000000000 ∧ Gives (fun k => T_word_energy k x) (fun r => r = (x.length : Int) * selfP x) := by
 have x1 := hx.lo
 have x2 := hx.hi
 have b := selfP_bound hx
 have p0 : 0 ≤ selfP x := by rw [selfP_prod]; exact prodP_nonneg (by omega)
 have h0 := Int.mul_nonneg (show 0 ≤ (x.length : Int) by omega) p0
 have h1 := prod_bound (a := (x.length : Int)) (b := selfP x) (A := 32) (B := 4000000000) (by omega) (by omega) (by omega) (by omega)
 refine ⟨h0, by omega, ?_⟩
 refine Gives.step ?_
 simp only [T_word_energy]
 refine Gives.bind (nm_Product hx) fun r hr => Gives.now ?_
 rw [hr.1, w64_id (by omega) (by omega)]
theorem ints_refl {xs ys : List Int} (h : xs = ys) (hl : xs.length ≤ 1000) : Gives (fun k => T_keep_Ints k xs ys) (· = true) := by
 subst h
 refine Gives.step ?_
 simp only [T_keep_Ints]
 refine Gives.neg (by simp) (Gives.bind (Q := fun r => r = .inl ()) ?_ fun r hr => by subst hr; exact Gives.now rfl)
 refine Gives.loop (fun s => 0 ≤ s ∧ s ≤ (xs.length : Int)) (fun s => ((xs.length : Int) - s).toNat) ?_ ⟨by omega, by omega⟩
 intro s ⟨i1, i2⟩
 unfold T_keep_Ints_l1
 refine Gives.ite (fun c => Gives.opt (at_rd i1 c) (Gives.opt (at_rd i1 c) (Gives.neg (by simp) ?_))) fun c => Gives.now rfl
 rw [w64_id (by omega) (by omega)]
 exact Gives.now ⟨⟨by omega, by omega⟩, by omega⟩
/-- A word of n pieces; a full one. -/
def WOk (n : Int) (sy bi : List Int) : Prop := (sy.length : Int) = n ∧ (bi.length : Int) = n ∧ ∀ p, 0 ≤ p → p < n → 0 ≤ rd bi p ∧ rd bi p ≤ 4 ∧ 0 ≤ rd sy p ∧ rd sy p < 2 ^ (rd bi p).toNat
def FOk (n : Int) (bi : List Int) : Prop := ∀ p, 0 ≤ p → p < n → rd bi p = 4
theorem bits_lt {b : Int} (h0 : 0 ≤ b) (h1 : b ≤ 4) : w64 (1 * 2 ^ (Nat.min b.toNat (IntKind.bits .i64))) = 2 ^ b.toNat := by
 rcases (show b = 0 ∨ b = 1 ∨ b = 2 ∨ b = 3 ∨ b = 4 by omega) with e | e | e | e | e <;> subst e <;> decide +kernel
/-- The width of a word's interval of symbols. -/
def wid (b : Int) : Int := 2 ^ (4 - b).toNat
theorem wid_w {b : Int} (h0 : 0 ≤ b) (h1 : b ≤ 4) : (2 : Int) ^ (Nat.min (w64 (4 - b)).toNat (IntKind.bits .i64)) = wid b := by
 rcases (show b = 0 ∨ b = 1 ∨ b = 2 ∨ b = 3 ∨ b = 4 by omega) with e | e | e | e | e <;> subst e <;> decide +kernel
theorem wid_ok {s b : Int} (h0 : 0 ≤ b) (h1 : b ≤ 4) (h2 : 0 ≤ s) (h3 : s < 2 ^ b.toNat) : 1 ≤ wid b ∧ wid b ≤ 16 ∧ 0 ≤ s * wid b ∧ s * wid b + wid b ≤ 16 := by
 unfold wid
 rcases (show b = 0 ∨ b = 1 ∨ b = 2 ∨ b = 3 ∨ b = 4 by omega) with e | e | e | e | e <;> subst e <;> simp at h3 ⊢ <;> omega
theorem w_valid {kd bd gp len n : Int} {cuts sy bi : List Int} (h : SchOk kd bd gp len n cuts) (w : WOk n sy bi) : Gives (fun k => T_word_Valid k kd bd gp len n cuts sy bi) (fun r => r = true) := by
 have n2 := h.n2
 obtain ⟨w1, w2, w3⟩ := w
 refine Gives.step ?_
 simp only [T_word_Valid]
 refine Gives.bind (w_check h) fun e he => Gives.neg (by simp [he]; omega) (Gives.bind (Q := fun r => r = .inl ()) ?_ fun r hr => by subst hr; exact Gives.now rfl)
 rw [w2]
 refine Gives.loop (fun s => 0 ≤ s ∧ s ≤ n) (fun s => (n - s).toNat) ?_ ⟨by omega, by have := h.n1; omega⟩
 intro i ⟨i0, i1⟩
 unfold T_word_Valid_l1
 refine Gives.ite (fun c => Gives.opt (at_rd i0 (by omega)) ?_) fun c => Gives.now rfl
 obtain ⟨b0, b1, s0, s1⟩ := w3 i i0 c
 refine Gives.bind (Q := fun b => b = false) ?_ fun b hb => ?_
 · refine Gives.neg (by simp; omega) (Gives.opt (at_rd i0 (by omega)) (Gives.neg (by omega) (Gives.pos b0 (Gives.now ?_))))
   rw [bits_lt b0 b1]
   simp; omega
 · subst hb
   rw [w64_id (by omega) (by omega)]
   exact Gives.neg (by simp) (Gives.now ⟨⟨by omega, by omega⟩, by omega⟩)
/-- The interval of a symbol's bits. -/
def ivl (cuts : List Int) (f g : Int) : Int × Int := if (cuts.length : Int) < f then (1, 0) else (if 0 < f then rd cuts (f - 1) else -1099511627776, if g < (cuts.length : Int) then rd cuts g - 1 else 1099511627776)
theorem w_interval {kd bd gp len n s b : Int} {cuts : List Int} (h : SchOk kd bd gp len n cuts) (h0 : 0 ≤ b) (h1 : b ≤ 4) (h2 : 0 ≤ s) (h3 : s < 2 ^ b.toNat) : Gives (fun k => T_word_interval k cuts s b) (fun r => r = ivl cuts (s * wid b) (s * wid b + wid b - 1)) := by
 have wk := wid_ok h0 h1 h2 h3
 have c1 := h.c1
 have s16 : s ≤ 16 := by
  have : s * 1 ≤ s * wid b := Int.mul_le_mul_of_nonneg_left wk.1 h2
  omega
 refine Gives.step ?_
 simp only [T_word_interval]
 rw [wid_w h0 h1, w64_id (x := 4 - b) (by omega) (by omega), w64_id (x := s + 1) (by omega) (by omega), Int.add_mul, Int.one_mul]
 generalize s * wid b = f at *
 generalize wid b = w at *
 rw [w64_id (x := f) (by omega) (by omega), w64_id (x := f + w) (by omega) (by omega), w64_id (x := f + w - 1) (by omega) (by omega), w64_id (x := f - 1) (by omega) (by omega)]
 unfold ivl
 refine Gives.pos (by omega) (Gives.ite (fun c => Gives.now (by rw [if_pos c])) fun c => ?_)
 rw [if_neg c]
 refine Gives.bind (Q := fun r => r = if 0 < f then rd cuts (f - 1) else -1099511627776) ?_ fun lo hlo => Gives.bind (Q := fun r => r = if f + w - 1 < (cuts.length : Int) then rd cuts (f + w - 1) - 1 else 1099511627776) ?_ fun hi hhi => Gives.now (by rw [hlo, hhi])
 · refine Gives.ite (fun d => Gives.opt (at_rd (by omega) (by omega)) (Gives.now (by rw [if_pos d]))) fun d => Gives.now (by rw [if_neg d])
 · refine Gives.ite (fun d => Gives.opt (at_rd (by omega) (by omega)) ?_) fun d => Gives.now (by rw [if_neg d])
   have := h.c2 (f + w - 1) (by omega) d
   rw [w64_id (by omega) (by omega)]
   exact Gives.now (by rw [if_pos d])
/-- A row of intervals. -/
def rpi (r : List (Int × Int)) (p : Int) : Int × Int := r.getD p.toNat (0, 0)
theorem at_rpi {xs : List (Int × Int)} {i : Int} (h0 : 0 ≤ i) (h1 : i < (xs.length : Int)) : at? xs i = some (rpi xs i) := by
 unfold at? rpi
 rw [if_pos h0, List.getD_eq_getElem?_getD, List.getElem?_eq_getElem (by omega)]; rfl
theorem rpi_app_l {xs ys : List (Int × Int)} {i : Int} (h1 : i.toNat < xs.length) : rpi (xs ++ ys) i = rpi xs i := by
 unfold rpi
 rw [List.getD_eq_getElem?_getD, List.getElem?_append_left h1, List.getD_eq_getElem?_getD]
theorem rpi_app_1 {xs : List (Int × Int)} {v : Int × Int} {i : Int} (h0 : 0 ≤ i) (h1 : (xs.length : Int) = i) : rpi (xs ++ [v]) i = v := by
 unfold rpi
 rw [List.getD_eq_getElem?_getD, List.getElem?_append_right (by omega)]
 simp [show i.toNat - xs.length = 0 by omega]
theorem drop_take_len2 {α : Type} {xs : List α} {n : Nat} (h : xs.length = n) : (xs.drop 0).take n = xs := by rw [List.drop_zero, ← h, List.take_length]
theorem w_region {kd bd gp len n : Int} {cuts sy bi : List Int} (h : SchOk kd bd gp len n cuts) (w : WOk n sy bi) : Gives (fun k => T_word_Region k kd bd gp len n cuts sy bi) (fun r => r.2 = 0 ∧ (r.1.length : Int) = n ∧ ∀ p, 0 ≤ p → p < n → rpi r.1 p = ivl cuts (rd sy p * wid (rd bi p)) (rd sy p * wid (rd bi p) + wid (rd bi p) - 1)) := by
 have n1 := h.n1
 have n2 := h.n2
 refine Gives.step ?_
 simp only [T_word_Region]
 refine Gives.bind (w_valid h w) fun a ha => Gives.neg (by simp [ha]) ?_
 obtain ⟨w1, w2, w3⟩ := w
 rw [w2]
 refine Gives.bind (Q := fun r => r.2.length = r.1 ∧ (r.1 : Int) = n ∧ ∀ p, 0 ≤ p → p < n → rpi r.2 p = ivl cuts (rd sy p * wid (rd bi p)) (rd sy p * wid (rd bi p) + wid (rd bi p) - 1)) ?_ fun r hr => Gives.now (by rw [drop_take_len2 hr.1]; exact ⟨rfl, by rw [hr.1]; exact hr.2.1, hr.2.2⟩)
 refine Gives.loop (fun s => 0 ≤ s.2.1 ∧ s.2.1 ≤ n ∧ (s.1 : Int) = s.2.1 ∧ s.2.2.length = s.1 ∧ ∀ p, 0 ≤ p → p < s.2.1 → rpi s.2.2 p = ivl cuts (rd sy p * wid (rd bi p)) (rd sy p * wid (rd bi p) + wid (rd bi p) - 1)) (fun s => (n - s.2.1).toNat) ?_ ⟨by simp only []; omega, by simp only []; omega, rfl, rfl, fun p h0 h1 => by simp only at h1; omega⟩
 intro ⟨l, i, o⟩ ⟨i0, i1, i2, i3, i4⟩
 simp only at i0 i1 i2 i3 i4
 unfold T_word_Region_l1
 simp only []
 refine Gives.ite (fun c => Gives.opt (at_rd i0 (by omega)) (Gives.opt (at_rd i0 (by omega)) ?_)) fun c => Gives.now ⟨i3, by simp only []; omega, fun p h0 h1 => i4 p h0 (by omega)⟩
 obtain ⟨b0, b1, s0, s1⟩ := w3 i i0 c
 refine Gives.bind (w_interval h b0 b1 s0 s1) fun v hv => Gives.pos (by unfold LIM; omega) ?_
 rw [w64_id (x := i + 1) (by omega) (by omega), drop_take_len2 i3]
 refine Gives.now ⟨⟨by simp only []; omega, by simp only []; omega, by simp only []; omega, by simp [i3], fun p h0 h1 => ?_⟩, by simp only []; omega⟩
 simp only at h1 ⊢
 by_cases e : p = i
 · subst e; rw [rpi_app_1 h0 (by omega), hv]
 · rw [rpi_app_l (by omega)]; exact i4 p h0 (by omega)

theorem r12_samples {x : List Int} (hx : Win x) : Gives (fun k => T_ref12_Samples k x) (fun r => r = 0) := by
 have x2 := hx.hi
 refine Gives.step ?_
 simp only [T_ref12_Samples]
 refine Gives.bind (Q := fun r => r = .inl ()) ?_ fun r hr => by subst hr; exact Gives.now rfl
 refine Gives.loop (fun s => 0 ≤ s ∧ s ≤ (x.length : Int)) (fun s => ((x.length : Int) - s).toNat) ?_ ⟨by omega, by omega⟩
 intro s ⟨i1, i2⟩
 unfold T_ref12_Samples_l1
 refine Gives.ite (fun c => Gives.opt (at_rd i1 c) (Gives.bind (Q := fun _ => True) ?_ fun _ _ => ?_)) fun c => Gives.now rfl
 · refine Gives.step ?_
   simp only [T_ref04_Sample]
   exact Gives.now trivial
 · have h := hx.smp.rd s
   rw [w64_id (by omega) (by omega)]
   exact Gives.neg (by simp; omega) (Gives.now ⟨⟨by omega, by omega⟩, by omega⟩)
theorem r12_two {x y : List Int} (hx : Win x) (hy : Win y) (hl : x.length = y.length) : Gives (fun k => T_ref12_Two k x y 0) (fun r => r = 0) := by
 have x1 := hx.lo
 have x2 := hx.hi
 refine Gives.step ?_
 simp only [T_ref12_Two]
 refine Gives.neg (by simp; omega) (Gives.bind (Q := fun b => b = false) ?_ fun b hb => ?_)
 · exact Gives.bind (r12_samples hx) fun r hr => Gives.neg (by simp [hr]) (Gives.bind (r12_samples hy) fun r hr => Gives.now (by simp [hr]))
 · subst hb
   rw [← hl, Int.sub_self, w64_id (x := 0) (by omega) (by omega)]
   exact Gives.neg (by simp) (Gives.neg (by simp) (Gives.now rfl))

/-! The errors of chapter 12. -/
theorem r12_samplesG {x : List Int} (hl : x.length ≤ 1000) : Gives (fun k => T_ref12_Samples k x) (fun r => r = if smpB x = true then 0 else 12) := by
 refine Gives.step ?_
 simp only [T_ref12_Samples]
 refine Gives.bind (Q := fun r => (r = .inl () ∧ smpB x = true) ∨ (r = .inr () ∧ smpB x = false)) ?_ fun r hr => ?_
 · refine Gives.loop (fun s => 0 ≤ s ∧ s ≤ (x.length : Int) ∧ ∀ q, 0 ≤ q → q < s → -1000 ≤ rd x q ∧ rd x q ≤ 1000) (fun s => ((x.length : Int) - s).toNat) ?_ ⟨by omega, by omega, fun q h1 h2 => by omega⟩
   intro s ⟨i1, i2, i3⟩
   unfold T_ref12_Samples_l1
   refine Gives.ite (fun c => Gives.opt (at_rd i1 c) (Gives.bind (Q := fun _ => True) ?_ fun _ _ => Gives.ite (fun b => Gives.now (.inr ⟨rfl, ?_⟩)) fun b => ?_)) fun c => Gives.now (.inl ⟨rfl, smpB_iff.2 (smp_of_rd fun q h1 h2 => i3 q h1 (by omega))⟩)
   · refine Gives.step ?_
     simp only [T_ref04_Sample]
     exact Gives.now trivial
   · rcases e : smpB x with _ | _
     · rfl
     · have := (smpB_iff.1 e).rd s
       simp at b
       omega
   · simp at b
     rw [w64_id (by omega) (by omega)]
     refine Gives.now ⟨⟨by omega, by omega, fun q h1 h2 => ?_⟩, by omega⟩
     by_cases e : q = s
     · subst e; omega
     · exact i3 q h1 (by omega)
 · rcases hr with ⟨rfl, h⟩ | ⟨rfl, h⟩
   · exact Gives.now (by rw [h]; rfl)
   · exact Gives.now (by rw [h]; rfl)
theorem r12_windowG {x : List Int} (hl : x.length ≤ 1000) : Gives (fun k => T_ref12_Window k x) (fun r => r = errM x x 0) := by
 refine Gives.step ?_
 simp only [T_ref12_Window]
 refine Gives.ite (fun c => Gives.now ?_) fun c => Gives.bind (r12_samplesG hl) fun r hr => Gives.now ?_
 · unfold errM
   rw [if_neg (by simp [lenB] at c ⊢; omega)]
 · unfold errM
   rw [if_pos (by simp [lenB] at c ⊢; omega), hr, Bool.and_self]
   split
   · rw [if_pos (by omega)]
   · rfl
/-! Chapter 18 of the document. -/
theorem f18_starts {m n : Nat} (hm : 2 ≤ m) (hm2 : m ≤ 32) (hn : 1 ≤ n) (hn2 : n ≤ 8) (hn3 : n ≤ m) : Gives (fun k => T_ref18_Starts k m n) (fun r => r.2 = 0 ∧ r.1.length = n + 1 ∧ ∀ p, 0 ≤ p → p ≤ (n : Int) → rd r.1 p = cut m n p) := by
 refine Gives.step ?_
 simp only [T_ref18_Starts]
 refine Gives.neg (by simp; omega) (Gives.neg (by simp; omega) (Gives.bind (Q := fun r => r.2.length = r.1 ∧ r.1 = n + 1 ∧ ∀ p, 0 ≤ p → p ≤ (n : Int) → rd r.2 p = cut m n p) ?_ fun r hr => ?_))
 · refine Gives.loop (fun s => 0 ≤ s.2.1 ∧ s.2.1 ≤ (n : Int) + 1 ∧ (s.1 : Int) = s.2.1 ∧ s.2.2.length = s.1 ∧ ∀ p, 0 ≤ p → p < s.2.1 → rd s.2.2 p = cut m n p) (fun s => ((n : Int) + 1 - s.2.1).toNat) ?_ ⟨by simp only []; omega, by simp only []; omega, rfl, rfl, fun p h1 h2 => by simp only at h2; omega⟩
   intro ⟨l, i, o⟩ ⟨i0, i1, i2, i3, i4⟩
   simp only at i0 i1 i2 i3 i4
   unfold T_ref18_Starts_l1
   simp only []
   refine Gives.ite (fun c => Gives.pos (by omega) (Gives.pos (by unfold LIM; omega) ?_)) fun c => Gives.now ⟨i3, by simp only []; omega, fun p h1 h2 => i4 p h1 (by omega)⟩
   rw [cut_w (m := (m : Int)) (n := (n : Int)) (p := i) (by omega) (by omega) (by omega) (by omega) i0 c, w64_id (x := i + 1) (by omega) (by omega), drop_take_len i3]
   refine Gives.now ⟨⟨by simp only []; omega, by simp only []; omega, by simp only []; omega, by simp [i3], fun p h1 h2 => ?_⟩, by simp only []; omega⟩
   simp only at h2 ⊢
   by_cases e : p = i
   · subst e; rw [rd_app_1 h1 (by omega)]
   · rw [rd_app_l (by omega)]; exact i4 p h1 (by omega)
 · rw [drop_take_len hr.1]
   exact Gives.now ⟨rfl, by rw [hr.1]; exact hr.2.1, hr.2.2⟩
theorem f18_fold {x S : List Int} {n : Nat} (hx : Win x) (hn : 1 ≤ n) (hn2 : n ≤ 8) (hS : S.length = n + 1) (hv : ∀ p, 0 ≤ p → p ≤ (n : Int) → rd S p = cut x.length n p) : Gives (fun k => T_ref18_Fold k x S) (fun r => r.length = n ∧ ∀ p, 0 ≤ p → p < (n : Int) → rd r p = pcs x n p) := by
 have x2 := hx.hi
 refine Gives.step ?_
 simp only [T_ref18_Fold]
 refine Gives.bind (Q := fun r => r.2.length = r.1 ∧ r.1 = n ∧ ∀ p, 0 ≤ p → p < (n : Int) → rd r.2 p = pcs x n p) ?_ fun r hr => ?_
 · refine Gives.loop (fun s => 1 ≤ s.2.1 ∧ s.2.1 ≤ (n : Int) + 1 ∧ (s.1 : Int) = s.2.1 - 1 ∧ s.2.2.length = s.1 ∧ ∀ p, 0 ≤ p → p < s.2.1 - 1 → rd s.2.2 p = pcs x n p) (fun s => ((n : Int) + 1 - s.2.1).toNat) ?_ ⟨by simp only []; omega, by simp only []; omega, rfl, rfl, fun p h1 h2 => by simp only at h2; omega⟩
   intro ⟨l, i, o⟩ ⟨i0, i1, i2, i3, i4⟩
   simp only at i0 i1 i2 i3 i4
   unfold T_ref18_Fold_l2
   simp only []
   rw [hS, w64_id (x := i - 1) (by omega) (by omega)]
   refine Gives.ite (fun c => Gives.opt (at_rd (by omega) (by omega)) ?_) fun c => Gives.now ⟨i3, by simp only []; omega, fun p h1 h2 => i4 p h1 (by omega)⟩
   have k1 := cut_range (m := (x.length : Int)) (n := (n : Int)) (p := i - 1) (by omega) (by omega) (by omega) (by omega)
   have k2 := cut_range (m := (x.length : Int)) (n := (n : Int)) (p := i) (by omega) (by omega) (by omega) (by omega)
   have k3 := cut_mono (m := (x.length : Int)) (n := (n : Int)) (p := i - 1) (q := i) (by omega) (by omega) (by omega)
   have s1 := hv (i - 1) (by omega) (by omega)
   have s2 := hv i (by omega) (by omega)
   have b1 := pc_bounds hx (i := cut x.length n (i - 1)) k1.1 k1.2
   rw [s1]
   refine Gives.bind (Q := fun r => r = pcs x n (i - 1)) ?_ fun r hr => ?_
   · refine Gives.loop (fun t => cut x.length n (i - 1) ≤ t.2 ∧ t.2 ≤ cut x.length n i ∧ t.1 = psum x t.2 - psum x (cut x.length n (i - 1))) (fun t => (cut x.length n i - t.2).toNat) ?_ ⟨by simp only []; omega, by simp only []; omega, by simp only []; omega⟩
     intro ⟨a, j⟩ ⟨j0, j1, j2⟩
     simp only at j0 j1 j2
     unfold T_ref18_Fold_l1
     simp only []
     refine Gives.opt (at_rd (by omega) (by omega)) ?_
     rw [s2]
     refine Gives.ite (fun cc => Gives.opt (at_rd (by omega) (by omega)) ?_) fun cc => Gives.now ?_
     · have ex := psum_succ (x := x) (i := j) (by omega) (by omega)
       have bj := pc_bounds hx (i := j) (by omega) (by omega)
       have sj := hx.smp.rd j
       rw [w64_id (x := a + rd x j) (by omega) (by omega), w64_id (x := j + 1) (by omega) (by omega)]
       exact Gives.now ⟨⟨by simp only []; omega, by simp only []; omega, by simp only []; omega⟩, by simp only []; omega⟩
     · have : j = cut x.length n i := by omega
       subst this
       unfold pcs
       rw [j2, show i - 1 + 1 = i by omega]
   subst hr
   rw [w64_id (x := i + 1) (by omega) (by omega), drop_take_len i3]
   refine Gives.pos (by unfold LIM; omega) (Gives.now ⟨⟨by simp only []; omega, by simp only []; omega, by simp only []; omega, by simp [i3], fun p h1 h2 => ?_⟩, by simp only []; omega⟩)
   simp only at h2 ⊢
   by_cases e : p = i - 1
   · rw [rd_app_1 h1 (by omega), e]
   · rw [rd_app_l (by omega)]; exact i4 p h1 (by omega)
 · rw [drop_take_len hr.1]
   exact Gives.now ⟨by rw [hr.1]; exact hr.2.1, hr.2.2⟩

/-! Chapter 18 of the document: centred sums, and all errors. -/
theorem f18_foldB {x S : List Int} {n : Nat} (x2 : x.length ≤ 32) (hb : ∀ i, 0 ≤ i → i ≤ (x.length : Int) → -4096000 ≤ psum x i ∧ psum x i ≤ 4096000) (hr : ∀ i, -128000 ≤ rd x i ∧ rd x i ≤ 128000) (hn : 1 ≤ n) (hn2 : n ≤ 8) (hS : S.length = n + 1) (hv : ∀ p, 0 ≤ p → p ≤ (n : Int) → rd S p = cut x.length n p) : Gives (fun k => T_ref18_Fold k x S) (fun r => r.length = n ∧ ∀ p, 0 ≤ p → p < (n : Int) → rd r p = pcs x n p) := by
 refine Gives.step ?_
 simp only [T_ref18_Fold]
 refine Gives.bind (Q := fun r => r.2.length = r.1 ∧ r.1 = n ∧ ∀ p, 0 ≤ p → p < (n : Int) → rd r.2 p = pcs x n p) ?_ fun r hr => ?_
 · refine Gives.loop (fun s => 1 ≤ s.2.1 ∧ s.2.1 ≤ (n : Int) + 1 ∧ (s.1 : Int) = s.2.1 - 1 ∧ s.2.2.length = s.1 ∧ ∀ p, 0 ≤ p → p < s.2.1 - 1 → rd s.2.2 p = pcs x n p) (fun s => ((n : Int) + 1 - s.2.1).toNat) ?_ ⟨by simp only []; omega, by simp only []; omega, rfl, rfl, fun p h1 h2 => by simp only at h2; omega⟩
   intro ⟨l, i, o⟩ ⟨i0, i1, i2, i3, i4⟩
   simp only at i0 i1 i2 i3 i4
   unfold T_ref18_Fold_l2
   simp only []
   rw [hS, w64_id (x := i - 1) (by omega) (by omega)]
   refine Gives.ite (fun c => Gives.opt (at_rd (by omega) (by omega)) ?_) fun c => Gives.now ⟨i3, by simp only []; omega, fun p h1 h2 => i4 p h1 (by omega)⟩
   have k1 := cut_range (m := (x.length : Int)) (n := (n : Int)) (p := i - 1) (by omega) (by omega) (by omega) (by omega)
   have k2 := cut_range (m := (x.length : Int)) (n := (n : Int)) (p := i) (by omega) (by omega) (by omega) (by omega)
   have k3 := cut_mono (m := (x.length : Int)) (n := (n : Int)) (p := i - 1) (q := i) (by omega) (by omega) (by omega)
   have s1 := hv (i - 1) (by omega) (by omega)
   have s2 := hv i (by omega) (by omega)
   have b1 := hb (cut x.length n (i - 1)) k1.1 k1.2
   rw [s1]
   refine Gives.bind (Q := fun r => r = pcs x n (i - 1)) ?_ fun r hr => ?_
   · refine Gives.loop (fun t => cut x.length n (i - 1) ≤ t.2 ∧ t.2 ≤ cut x.length n i ∧ t.1 = psum x t.2 - psum x (cut x.length n (i - 1))) (fun t => (cut x.length n i - t.2).toNat) ?_ ⟨by simp only []; omega, by simp only []; omega, by simp only []; omega⟩
     intro ⟨a, j⟩ ⟨j0, j1, j2⟩
     simp only at j0 j1 j2
     unfold T_ref18_Fold_l1
     simp only []
     refine Gives.opt (at_rd (by omega) (by omega)) ?_
     rw [s2]
     refine Gives.ite (fun cc => Gives.opt (at_rd (by omega) (by omega)) ?_) fun cc => Gives.now ?_
     · have ex := psum_succ (x := x) (i := j) (by omega) (by omega)
       have bj := hb j (by omega) (by omega)
       have sj := hr j
       rw [w64_id (x := a + rd x j) (by omega) (by omega), w64_id (x := j + 1) (by omega) (by omega)]
       exact Gives.now ⟨⟨by simp only []; omega, by simp only []; omega, by simp only []; omega⟩, by simp only []; omega⟩
     · have : j = cut x.length n i := by omega
       subst this
       unfold pcs
       rw [j2, show i - 1 + 1 = i by omega]
   subst hr
   rw [w64_id (x := i + 1) (by omega) (by omega), drop_take_len i3]
   refine Gives.pos (by unfold LIM; omega) (Gives.now ⟨⟨by simp only []; omega, by simp only []; omega, by simp only []; omega, by simp [i3], fun p h1 h2 => ?_⟩, by simp only []; omega⟩)
   simp only at h2 ⊢
   by_cases e : p = i - 1
   · rw [rd_app_1 h1 (by omega), e]
   · rw [rd_app_l (by omega)]; exact i4 p h1 (by omega)
 · rw [drop_take_len hr.1]
   exact Gives.now ⟨by rw [hr.1]; exact hr.2.1, hr.2.2⟩
/-- The centred samples. -/
def Cent (x c : List Int) : Prop := c.length = x.length ∧ ∀ i, 0 ≤ i → i < (x.length : Int) → rd c i = (x.length : Int) * rd x i - x.sum
theorem cent_psum {x c : List Int} (h : Cent x c) : ∀ n : Nat, n ≤ x.length → psum c n = (x.length : Int) * psum x n - n * x.sum
 | 0, _ => by
  have a := psum_zero c
  have b := psum_zero x
  simp only [Int.natCast_zero] at *
  rw [a, b]; simp
 | n + 1, hn => by
  have ih := cent_psum h n (by omega)
  have e1 := psum_succ (x := c) (i := n) (by omega) (by rw [h.1]; omega)
  have e2 := psum_succ (x := x) (i := n) (by omega) (by omega)
  have e3 := h.2 n (by omega) (by omega)
  rw [Int.natCast_add, Int.natCast_one, e1, e2, e3, ih]
  grind
theorem cent_pcs {x c : List Int} {n p : Int} (h : Cent x c) (hn : 1 ≤ n) (h0 : 0 ≤ p) (h1 : p < n) : pcs c n p = pcc x n p := by
 have k1 := cut_range (m := (x.length : Int)) hn (by omega) h0 (by omega)
 have k2 := cut_range (m := (x.length : Int)) (p := p + 1) hn (by omega) (by omega) (by omega)
 have q : ∀ i : Int, 0 ≤ i → i ≤ (x.length : Int) → psum c i = (x.length : Int) * psum x i - i * x.sum := fun i h0 h1 => by
  have := cent_psum h i.toNat (by omega)
  rwa [Int.toNat_of_nonneg h0] at this
 unfold pcc pcs
 rw [h.1, q _ k1.1 k1.2, q _ k2.1 k2.2]
 grind
theorem cent_bd {x c : List Int} (hx : Win x) (h : Cent x c) : (∀ i, 0 ≤ i → i ≤ (c.length : Int) → -4096000 ≤ psum c i ∧ psum c i ≤ 4096000) ∧ ∀ i, -128000 ≤ rd c i ∧ rd c i ≤ 128000 := by
 have x2 := hx.hi
 have b := pc_bounds hx (i := x.length) (by omega) (by omega)
 rw [psum_all] at b
 refine ⟨fun i h0 h1 => ?_, fun i => ?_⟩
 · have := cent_psum h i.toNat (by have := h.1; omega)
   rw [Int.toNat_of_nonneg h0] at this
   have p := pc_bounds hx (i := i) h0 (by have := h.1; omega)
   have e1 := prod_bound (a := (x.length : Int)) (b := psum x i) (A := 32) (B := 32000) (by omega) (by omega) (by omega) (by omega)
   have e2 := prod_bound (a := i) (b := x.sum) (A := 32) (B := 32000) (by omega) (by have := h.1; omega) (by omega) (by omega)
   omega
 · by_cases k : 0 ≤ i ∧ i < (x.length : Int)
   · rw [h.2 i k.1 k.2]
     have s := hx.smp.rd i
     have e1 := prod_bound (a := (x.length : Int)) (b := rd x i) (A := 32) (B := 1000) (by omega) (by omega) (by omega) (by omega)
     omega
   · by_cases k2 : i < 0
     · have e0 : rd c i = rd c 0 := by unfold rd; rw [show i.toNat = 0 by omega]; rfl
       have x1 := hx.lo
       rw [e0, h.2 0 (by omega) (by omega)]
       have s := hx.smp.rd 0
       have e1 := prod_bound (a := (x.length : Int)) (b := rd x 0) (A := 32) (B := 1000) (by omega) (by omega) (by omega) (by omega)
       omega
     · unfold rd
       rw [List.getD_eq_getElem?_getD, List.getElem?_eq_none (by have := h.1; omega)]
       simp
theorem rf_centred {x : List Int} (hx : Win x) : Gives (fun k => T_ref13_Centred k x) (fun r => r.2 = 0 ∧ Cent x r.1) := by
 have x1 := hx.lo
 have x2 := hx.hi
 have bs := pc_bounds hx (i := x.length) (by omega) (by omega)
 rw [psum_all] at bs
 refine Gives.step ?_
 simp only [T_ref13_Centred]
 refine Gives.bind (r12_windowG (x := x) (by omega)) fun e he => ?_
 rw [errM_win hx hx (by omega) (by omega)] at he
 subst he
 refine Gives.neg (by simp) (Gives.bind (Q := fun r => r = x.sum) ?_ fun s hs => Gives.bind (Q := fun r => r.2.length = r.1 ∧ r.1 = x.length ∧ ∀ p, 0 ≤ p → p < (x.length : Int) → rd r.2 p = (x.length : Int) * rd x p - x.sum) ?_ fun r hr => ?_)
 · refine Gives.loop (fun s => 0 ≤ s.2 ∧ s.2 ≤ (x.length : Int) ∧ s.1 = psum x s.2) (fun s => ((x.length : Int) - s.2).toNat) ?_ ⟨by simp only []; omega, by simp only []; omega, by simp only [psum_zero]⟩
   intro ⟨a, i⟩ ⟨i0, i1, i2⟩
   simp only at i0 i1 i2
   unfold T_ref13_Centred_l1
   simp only []
   refine Gives.ite (fun c => Gives.opt (at_rd i0 c) ?_) fun c => Gives.now ?_
   · have ex := psum_succ (x := x) (i := i) (by omega) (by omega)
     have bj := pc_bounds hx (i := i) (by omega) (by omega)
     have sj := hx.smp.rd i
     rw [w64_id (x := a + rd x i) (by omega) (by omega), w64_id (x := i + 1) (by omega) (by omega)]
     exact Gives.now ⟨⟨by simp only []; omega, by simp only []; omega, by simp only []; omega⟩, by simp only []; omega⟩
   · rw [i2, ← psum_all (x := x), show i = (x.length : Int) by omega]
 · subst hs
   refine Gives.loop (fun s => 0 ≤ s.2.1 ∧ s.2.1 ≤ (x.length : Int) ∧ (s.1 : Int) = s.2.1 ∧ s.2.2.length = s.1 ∧ ∀ p, 0 ≤ p → p < s.2.1 → rd s.2.2 p = (x.length : Int) * rd x p - x.sum) (fun s => ((x.length : Int) - s.2.1).toNat) ?_ ⟨by simp only []; omega, by simp only []; omega, rfl, rfl, fun p h1 h2 => by simp only at h2; omega⟩
   intro ⟨l, i, o⟩ ⟨i0, i1, i2, i3, i4⟩
   simp only at i0 i1 i2 i3 i4
   unfold T_ref13_Centred_l2
   simp only []
   refine Gives.ite (fun c => Gives.opt (at_rd i0 c) (Gives.pos (by unfold LIM; omega) ?_)) fun c => Gives.now ⟨i3, by simp only []; omega, fun p h1 h2 => i4 p h1 (by omega)⟩
   have sj := hx.smp.rd i
   have e1 := prod_bound (a := (x.length : Int)) (b := rd x i) (A := 32) (B := 1000) (by omega) (by omega) (by omega) (by omega)
   rw [w64_id (x := i + 1) (by omega) (by omega), w64_id (x := (x.length : Int) * rd x i) (by omega) (by omega), w64_id (x := (x.length : Int) * rd x i - x.sum) (by omega) (by omega), drop_take_len i3]
   refine Gives.now ⟨⟨by simp only []; omega, by simp only []; omega, by simp only []; omega, by simp [i3], fun p h1 h2 => ?_⟩, by simp only []; omega⟩
   simp only at h2 ⊢
   by_cases e : p = i
   · subst e; rw [rd_app_1 h1 (by omega)]
   · rw [rd_app_l (by omega)]; exact i4 p h1 (by omega)
 · rw [drop_take_len hr.1]
   exact Gives.now ⟨rfl, by rw [hr.1]; exact hr.2.1, hr.2.2⟩
theorem f18_centred {x : List Int} {n : Nat} (hx : Win x) (hn : 1 ≤ n) (hn2 : n ≤ 8) (hn3 : n ≤ x.length) : Gives (fun k => T_ref18_Centred k x n) (fun r => r.2 = 0 ∧ r.1.length = n ∧ ∀ p, 0 ≤ p → p < (n : Int) → rd r.1 p = pcc x n p) := by
 have x1 := hx.lo
 have x2 := hx.hi
 refine Gives.step ?_
 simp only [T_ref18_Centred]
 refine Gives.bind (rf_centred hx) fun c hc => Gives.neg (by simp [hc.1]) (Gives.bind (f18_starts (m := x.length) (n := n) x1 x2 hn hn2 hn3) fun S hS => Gives.neg (by simp [hS.1]) ?_)
 obtain ⟨c1, c2⟩ := hc
 have b := cent_bd hx c2
 refine Gives.bind (f18_foldB (by rw [c2.1]; exact x2) b.1 b.2 hn hn2 hS.2.1 (by rw [c2.1]; exact hS.2.2)) fun r hr => Gives.now ⟨rfl, hr.1, fun p h0 h1 => by rw [hr.2 p h0 h1, cent_pcs c2 (by omega) h0 h1]⟩
theorem f18_sums {x : List Int} {n : Nat} (hx : Win x) (hn : 1 ≤ n) (hn2 : n ≤ 8) (hn3 : n ≤ x.length) : Gives (fun k => T_ref18_Sums k x n) (fun r => r.2 = 0 ∧ r.1.length = n ∧ ∀ p, 0 ≤ p → p < (n : Int) → rd r.1 p = pcs x n p) := by
 have x1 := hx.lo
 have x2 := hx.hi
 refine Gives.step ?_
 simp only [T_ref18_Sums]
 refine Gives.bind (r12_windowG (x := x) (by omega)) fun e he => ?_
 rw [errM_win hx hx (by omega) (by omega)] at he
 subst he
 refine Gives.neg (by simp) (Gives.bind (f18_starts (m := x.length) (n := n) x1 x2 hn hn2 hn3) fun S hS => Gives.neg (by simp [hS.1]) ?_)
 exact Gives.bind (f18_fold hx hn hn2 hS.2.1 hS.2.2) fun r hr => Gives.now ⟨rfl, hr.1, hr.2⟩

/-! Chapter 13 of the document. -/
theorem rf_product {x y : List Int} (hx : Win x) (hy : Win y) (hl : x.length = y.length) : Gives (fun k => T_ref13_product k x y) (· = prodP x y) := by
 have x2 := hx.hi
 refine Gives.step ?_
 simp only [T_ref13_product]
 have sx := pc_bounds hx (i := x.length) (by omega) (by omega)
 have sy := pc_bounds hy (i := y.length) (by omega) (by omega)
 rw [psum_all] at sx sy
 have gb : ∀ n : Nat, -(1000000 * (n : Int)) ≤ sg (fun i => rd x i * rd y i) n ∧ sg (fun i => rd x i * rd y i) n ≤ 1000000 * (n : Int) := fun n => sg_bound fun j h1 h2 => by
  have s1 := hx.smp.rd j
  have s2 := hy.smp.rd j
  have := prod_bound (a := rd x j) (b := rd y j) (A := 1000) (B := 1000) s1.1 s1.2 s2.1 s2.2
  omega
 refine Gives.bind (Q := fun r => r.1 = sg (fun i => rd x i * rd y i) x.length ∧ r.2.1 = x.sum ∧ r.2.2 = y.sum) ?_ fun r hr => ?_
 · refine Gives.loop (fun s => 0 ≤ s.2.2.2 ∧ s.2.2.2 ≤ (x.length : Int) ∧ s.1 = sg (fun i => rd x i * rd y i) s.2.2.2.toNat ∧ s.2.1 = psum x s.2.2.2 ∧ s.2.2.1 = psum y s.2.2.2) (fun s => ((x.length : Int) - s.2.2.2).toNat) ?_ ⟨by simp only []; omega, by simp only []; omega, rfl, (psum_zero _).symm, (psum_zero _).symm⟩
   intro ⟨a, b, c, i⟩ ⟨i1, i2, i3, i4, i5⟩
   simp only at i1 i2 i3 i4 i5
   unfold T_ref13_product_l1
   simp only []
   refine Gives.ite (fun cc => Gives.opt (at_rd i1 cc) (Gives.opt (at_rd i1 (by omega)) ?_)) fun cc => Gives.now ?_
   · have e2 := psum_succ (x := x) i1 cc
     have e3 := psum_succ (x := y) i1 (by omega)
     have b2 := pc_bounds hx i1 (by omega)
     have b3 := pc_bounds hy i1 (by omega)
     have s1 := hx.smp.rd i
     have s2 := hy.smp.rd i
     have b4 := prod_bound (a := rd x i) (b := rd y i) (A := 1000) (B := 1000) s1.1 s1.2 s2.1 s2.2
     have g := gb i.toNat
     rw [← i3] at g
     rw [w64_id (x := rd x i * rd y i) (by omega) (by omega), w64_id (x := a + rd x i * rd y i) (by omega) (by omega), w64_id (x := b + rd x i) (by omega) (by omega), w64_id (x := c + rd y i) (by omega) (by omega), w64_id (x := i + 1) (by omega) (by omega)]
     refine Gives.now ⟨⟨by simp only []; omega, by simp only []; omega, ?_, by simp only []; omega, by simp only []; omega⟩, by simp only []; omega⟩
     simp only []
     rw [show (i + 1).toNat = i.toNat + 1 by omega, sg, ← i3, Int.toNat_of_nonneg i1]
   · have e : i = x.length := by omega
     subst e
     refine ⟨by rw [i3]; rfl, i4.trans psum_all, i5.trans ?_⟩
     rw [hl]; exact psum_all
 · obtain ⟨r1, r2, r3⟩ := hr
   have g := gb x.length
   rw [r1, r2, r3]
   have q1 := prod_bound (a := (x.length : Int)) (b := sg (fun i => rd x i * rd y i) x.length) (A := 32) (B := 32000000) (by omega) (by omega) (by omega) (by omega)
   have q2 := prod_bound (a := x.sum) (b := y.sum) (A := 32000) (B := 32000) (by omega) (by omega) (by omega) (by omega)
   rw [w64_id (x := (x.length : Int) * sg (fun i => rd x i * rd y i) x.length) (by omega) (by omega), w64_id (x := x.sum * y.sum) (by omega) (by omega), w64_id (by omega) (by omega)]
   exact Gives.now rfl
theorem rf_Product {x y : List Int} (hx : Win x) (hy : Win y) (hl : x.length = y.length) : Gives (fun n => T_ref13_Product n x y) (fun r => r.1 = prodP x y ∧ r.2 = 0) := by
 refine Gives.step ?_
 simp only [T_ref13_Product]
 refine Gives.bind (r12_two hx hy hl) fun v hv => ?_
 subst hv
 exact Gives.neg (by simp) (Gives.bind (rf_product hx hy hl) fun r hr => Gives.now ⟨hr, rfl⟩)

/-! Chapters 2 and 4 of the document. -/
theorem rtf_uniq {v r : Int} (h0 : 0 ≤ v) (h1 : v ≤ 4611686018427387904) (r0 : 0 ≤ r) (r1 : r * r ≤ v) (r2 : v < (r + 1) * (r + 1)) : r = rtf v := by
 obtain ⟨_, a0, _, a1, a2⟩ := rt_rtf h0 h1
 generalize rtf v = s at *
 rcases Int.lt_trichotomy r s with c | c | c
 · have := Int.mul_le_mul (a := r + 1) (b := r + 1) (c := s) (d := s) (by omega) (by omega) (by omega) (by omega)
   omega
 · exact c
 · have := Int.mul_le_mul (a := s + 1) (b := s + 1) (c := r) (d := r) (by omega) (by omega) (by omega) (by omega)
   omega
theorem r02_floor {v : Int} (h0 : 0 ≤ v) (h1 : v ≤ 4611686018427387904) : Gives (fun k => T_ref02_Floor k v) (fun r => r = rtf v) := by
 have small : ∀ r : Int, 0 ≤ r → r * r ≤ v → r ≤ 2147483648 := fun r r0 r1 => by
  refine Decidable.byContradiction fun hn => ?_
  have := Int.mul_le_mul (a := 2147483649) (b := 2147483649) (c := r) (d := r) (by omega) (by omega) (by omega) (by omega)
  omega
 refine Gives.step ?_
 simp only [T_ref02_Floor]
 refine Gives.neg (by simp; omega) (Gives.bind (Q := fun r => r = rtf v) ?_ fun r hr => Gives.now hr)
 refine Gives.loop (fun s => ∃ k : Nat, s.2 = ((2 ^ k / 2 : Nat) : Int) ∧ k ≤ 32 ∧ 0 ≤ s.1 ∧ s.1 * s.1 ≤ v ∧ v < (s.1 + ((2 ^ k : Nat) : Int)) * (s.1 + ((2 ^ k : Nat) : Int))) (fun s => s.2.toNat) ?_ ⟨32, by decide, by omega, by simp only []; omega, by simp only []; omega, by simp only []; omega⟩
 intro ⟨r, b⟩ ⟨k, e, hk, r0, r1, r2⟩
 simp only at e r0 r1 r2
 have rs := small r r0 r1
 unfold T_ref02_Floor_l1
 simp only []
 cases k with
 | zero =>
  simp at e
  subst e
  refine Gives.neg (by omega) (Gives.now (rtf_uniq h0 h1 r0 r1 (by simpa using r2)))
 | succ k =>
  have p : 2 ^ (k + 1) = 2 * 2 ^ k := by rw [Nat.pow_succ, Nat.mul_comm]
  have p0 : 0 < 2 ^ k := Nat.pow_pos (by omega)
  have p1 : 2 ^ k ≤ 2 ^ 31 := Nat.pow_le_pow_right (by omega) (by omega)
  rw [p] at e r2
  obtain ⟨w, hw⟩ : ∃ w, 2 ^ k = w := ⟨_, rfl⟩
  rw [hw] at e r2 p0 p1
  have e2 : b = w := by rw [e]; omega
  subst e2
  rw [w64_id (x := r + w) (by omega) (by omega)]
  have ed : (w : Int).fdiv (2 ^ 1) = ((w / 2 : Nat) : Int) := by
   rw [Int.fdiv_eq_ediv_of_nonneg _ (by omega)]; rfl
  rw [ed]
  refine Gives.pos (by omega) (Gives.bind (Q := fun (t : Int) => 0 ≤ t ∧ t * t ≤ v ∧ v < (t + (w : Int)) * (t + (w : Int))) ?_ fun t ht => Gives.now ⟨⟨k, by rw [hw], by omega, ht.1, ht.2.1, by rw [hw]; exact ht.2.2⟩, by simp only []; omega⟩)
  have e3 : r + w + (w : Int) = r + ((2 * w : Nat) : Int) := by omega
  by_cases c : r + w ≤ 2147483648
  · have q := prod_bound (a := r + w) (b := r + w) (A := 2147483648) (B := 2147483648) (by omega) (by omega) (by omega) (by omega)
    rw [w64_id (x := (r + w) * (r + w)) (by omega) (by omega)]
    refine Gives.ite (fun d => Gives.now ⟨by omega, ?_, by rw [e3]; exact r2⟩) fun d => Gives.now ⟨r0, r1, ?_⟩
    · simp at d; omega
    · simp at d; omega
  · refine Gives.neg (by simp [c]) (Gives.now ⟨r0, r1, ?_⟩)
    have := Int.mul_le_mul (a := 2147483649) (b := 2147483649) (c := r + w) (d := r + w) (by omega) (by omega) (by omega) (by omega)
    omega
theorem r02_quotient {t e : Int} (h : -1073741824 ≤ t ∧ t ≤ 1073741824 ∧ 1 ≤ e ∧ e ≤ 4611686018427387904) : Gives (fun k => T_ref02_Quotient k t e) (fun r => r = (QQ t e, 0)) := by
 obtain ⟨t0, t1, e0, e1⟩ := h
 have z := sq_nonneg t
 have q := prod_bound (a := t) (b := t) (A := 1073741824) (B := 1073741824) t0 t1 t0 t1
 have v0 : 0 ≤ t * t / e := Int.ediv_nonneg z (by omega)
 have v1 : t * t / e ≤ t * t := Int.ediv_le_self _ z
 have v2 := Int.mul_ediv_self_le (x := t * t) (k := e) (by omega)
 have v3 := Int.mul_ediv_add_emod (t * t) e
 have v4 := Int.emod_nonneg (t * t) (show e ≠ 0 by omega)
 obtain ⟨_, r0, r1, r2, r3⟩ := rt_rtf v0 (by omega)
 refine Gives.step ?_
 simp only [T_ref02_Quotient]
 rw [w64_id (x := t * t) (by omega) (by omega), Int.tdiv_eq_ediv_of_nonneg z, Int.tmod_eq_emod_of_nonneg z, w64_id (x := t * t / e) (by omega) (by omega), w64_id (x := t * t / e + 1) (by omega) (by omega)]
 unfold QQ
 refine Gives.neg (by simp; omega) (Gives.pos (by omega) (Gives.ite (fun c => ?_) fun c => ?_))
 · rw [if_pos c]
   exact Gives.bind (r02_floor v0 (by omega)) fun r hr => Gives.now (by rw [hr])
 · rw [if_neg c]
   have rr := sq_nonneg (rtf (t * t / e))
   have m : rtf (t * t / e) * rtf (t * t / e) * e ≤ t * t / e * e := Int.mul_le_mul_of_nonneg_right r2 (by omega)
   rw [Int.mul_comm (t * t / e) e] at m
   refine Gives.pos (by omega) (Gives.bind (Q := fun c => c = if t * t % e = 0 then t * t / e else t * t / e + 1) (Gives.ite (fun d => Gives.now ?_) fun d => Gives.now ?_) fun u hu => ?_)
   · rw [if_neg (by simpa using d)]
   · rw [if_pos (by simpa using d)]
   · refine Gives.bind (Q := fun r => r = if rtf (t * t / e) * rtf (t * t / e) * e < t * t then rtf (t * t / e) + 1 else rtf (t * t / e)) ?_ fun r hr => ?_
     · have ub : 0 ≤ u ∧ u ≤ 4611686018427387904 := by rw [hu]; split <;> omega
       refine Gives.step ?_
       simp only [T_ref02_Ceil]
       refine Gives.bind (r02_floor ub.1 ub.2) fun f hf => ?_
       obtain ⟨_, f0, f1, f2, f3⟩ := rt_rtf ub.1 ub.2
       rw [← hf] at f0 f1 f2 f3
       have ff := sq_nonneg f
       rw [w64_id (x := f * f) (by omega) (by omega), w64_id (x := f + 1) (by omega) (by omega)]
       generalize hv : t * t / e = v at *
       generalize rtf v = r at *
       by_cases d : t * t % e = 0
       · rw [if_pos d] at hu
         subst hu
         have fr : f = r := by
          rcases Int.lt_trichotomy f r with c | c | c
          · have := Int.mul_le_mul (a := f + 1) (b := f + 1) (c := r) (d := r) (by omega) (by omega) (by omega) (by omega)
            omega
          · exact c
          · have := Int.mul_le_mul (a := r + 1) (b := r + 1) (c := f) (d := f) (by omega) (by omega) (by omega) (by omega)
            omega
         subst fr
         have ve : e * u = t * t := by omega
         have iff1 : f * f * e < t * t ↔ f * f < u := by
          rw [← ve, Int.mul_comm e u]
          exact ⟨fun h => Int.lt_of_mul_lt_mul_right h (by omega), fun h => Int.mul_lt_mul_of_pos_right h (by omega)⟩
         refine Gives.ite (fun g => Gives.now ?_) fun g => Gives.now ?_
         · rw [if_pos (iff1.2 (by simp at g; omega))]
         · rw [if_neg fun h => g (by simp; have := iff1.1 h; omega)]
       · rw [if_neg d] at hu
         subst hu
         have lt : r * r * e < t * t := by omega
         rw [if_pos lt]
         have rr1 : (r + 1) * (r + 1) = r * r + r + r + 1 := by grind
         have ff1 : (f + 1) * (f + 1) = f * f + f + f + 1 := by grind
         refine Gives.ite (fun g => Gives.now ?_) fun g => Gives.now ?_
         · have g' : f * f < v + 1 := by simp at g; omega
           have : f = r := by
            rcases Int.lt_trichotomy f r with c | c | c
            · have := Int.mul_le_mul (a := f + 1) (b := f + 1) (c := r) (d := r) (by omega) (by omega) (by omega) (by omega)
              omega
            · exact c
            · have := Int.mul_le_mul (a := r + 1) (b := r + 1) (c := f) (d := f) (by omega) (by omega) (by omega) (by omega)
              omega
           rw [this]
         · have g' : f * f = v + 1 := by simp at g; omega
           have : f = r + 1 := by
            rcases Int.lt_trichotomy f (r + 1) with c | c | c
            · have := Int.mul_le_mul (a := f) (b := f) (c := r) (d := r) (by omega) (by omega) (by omega) (by omega)
              omega
            · exact c
            · have := Int.mul_le_mul (a := r + 2) (b := r + 2) (c := f) (d := f) (by omega) (by omega) (by omega) (by omega)
              have : (r + 2) * (r + 2) = r * r + r + r + r + r + 4 := by grind
              omega
           exact this
     · have rb : 0 ≤ r ∧ r ≤ 2147483649 := by rw [hr]; split <;> omega
       rw [w64_id (x := 0 - r) (by omega) (by omega), hr, Int.zero_sub]
       exact Gives.now rfl
theorem r02_quotient0 {t : Int} : Gives (fun k => T_ref02_Quotient k t 0) (fun r => r.1 = 0) := by
 refine Gives.step ?_
 simp only [T_ref02_Quotient]
 exact Gives.pos (by simp) (Gives.now rfl)
theorem r04_down {a b : Int} (hb : 0 < b) (hb2 : b ≤ 1000000) (ha : -1000000000000 ≤ a) (ha2 : a ≤ 1000000000000) : Gives (fun k => T_ref04_Down k a b) (fun r => r = a / b) := by
 have e := Int.mul_tdiv_add_tmod a b
 have r1 := Int.tmod_lt_of_pos a hb
 have r2 : -b < a.tmod b := by
  have := Int.tmod_lt_of_pos (-a) hb
  rw [Int.neg_tmod] at this
  omega
 have q1 : -1000000000000 ≤ a.tdiv b ∧ a.tdiv b ≤ 1000000000000 := by
  have h := Int.natAbs_tdiv_le_natAbs a b
  omega
 refine Gives.step ?_
 simp only [T_ref04_Down]
 refine Gives.pos (by omega) (Gives.pos (by omega) (Gives.bind (Q := fun r => r = a / b) ?_ fun r hr => Gives.now hr))
 rw [w64_id (x := a.tdiv b) (by omega) (by omega), w64_id (x := a.tdiv b - 1) (by omega) (by omega)]
 refine Gives.ite (fun c => Gives.now ?_) fun c => Gives.now ?_
 · refine ((Int.ediv_emod_unique hb (r := a.tmod b + b) (q := a.tdiv b - 1)).2 ⟨?_, by omega, by omega⟩).1.symm
   rw [Int.mul_sub, Int.mul_one]; omega
 · exact ((Int.ediv_emod_unique hb (r := a.tmod b) (q := a.tdiv b)).2 ⟨by omega, by omega, by omega⟩).1.symm

/-! Schemes of any kind. -/
def MsOk (kd bd gp : Int) : Prop := 1 ≤ kd ∧ kd ≤ 5 ∧ 0 ≤ bd ∧ bd ≤ 32 ∧ (bd = 0 ∨ kd = 4) ∧ -1000 ≤ gp ∧ gp ≤ 1000 ∧ (gp = 0 ∨ kd = 5)
instance {kd bd gp : Int} : Decidable (MsOk kd bd gp) := by unfold MsOk; infer_instance
def CutsOk (cuts : List Int) : Prop := (∀ i, 0 ≤ i → i < (cuts.length : Int) → -2000 ≤ rd cuts i ∧ rd cuts i ≤ 2000) ∧ ∀ i, 0 < i → i < (cuts.length : Int) → rd cuts (i - 1) < rd cuts i
theorem SchOk_iff {kd bd gp len n : Int} {cuts : List Int} : SchOk kd bd gp len n cuts ↔ MsOk kd bd gp ∧ 2 ≤ len ∧ len ≤ 32 ∧ 1 ≤ n ∧ n ≤ 8 ∧ n ≤ len ∧ cuts.length ≤ 15 ∧ CutsOk cuts :=
 ⟨fun h => ⟨⟨h.k1, h.k2, h.b1, h.b2, h.b3, h.g1, h.g2, h.g3⟩, h.l1, h.l2, h.n1, h.n2, h.n3, h.c1, h.c2, h.c3⟩, fun ⟨⟨a1, a2, a3, a4, a5, a6, a7, a8⟩, b1, b2, b3, b4, b5, b6, b7, b8⟩ => ⟨a1, a2, a3, a4, a5, a6, a7, a8, b1, b2, b3, b4, b5, b6, b7, b8⟩⟩
theorem ms_checkG {kd bd gp : Int} : Gives (fun k => T_measure_Check k kd bd gp) (fun r => (r = 0 ∧ MsOk kd bd gp) ∨ (r = 9 ∧ ¬ MsOk kd bd gp)) := by
 refine Gives.step ?_
 simp only [T_measure_Check]
 refine Gives.bind (Q := fun r => (r == (⟨#[]⟩ : ByteArray)) = decide (¬ (1 ≤ kd ∧ kd ≤ 5))) ?_ fun v hv => Gives.bind (Q := fun b => b = decide (¬ MsOk kd bd gp)) ?_ fun b hb => ?_
 · refine Gives.step ?_
   simp only [T_measure_name]
   refine Gives.ite (fun c => Gives.now ?_) fun c1 => Gives.ite (fun c => Gives.now ?_) fun c2 => Gives.ite (fun c => Gives.now ?_) fun c3 => Gives.ite (fun c => Gives.now ?_) fun c4 => Gives.ite (fun c => Gives.now ?_) fun c5 => Gives.now ?_
   · subst c; decide +kernel
   · subst c; decide +kernel
   · subst c; decide +kernel
   · subst c; decide +kernel
   · subst c; decide +kernel
   · rw [decide_eq_true (by omega)]; decide +kernel
 · rw [hv, Bool.and_true]
   refine Gives.ite (fun c => Gives.now ?_) fun c => ?_
   · rw [c]
     have : ¬ MsOk kd bd gp := fun h => by simp at c; have := h.1; have := h.2.1; omega
     rw [decide_eq_true this]
   · have ck : 1 ≤ kd ∧ kd ≤ 5 := by simpa using c
     refine Gives.ite (fun d => Gives.now ?_) fun d => Gives.now ?_
     · rw [d]
       have : ¬ MsOk kd bd gp := fun ⟨a1, a2, a3, a4, a5, _⟩ => by simp at d; omega
       rw [decide_eq_true this]
     · by_cases e : MsOk kd bd gp
       · have e' := e
         obtain ⟨_, _, _, _, _, a6, a7, a8⟩ := e
         rw [decide_eq_false (fun h : ¬ MsOk kd bd gp => h e')]
         simp; omega
       · have : (decide (gp < -1000) || decide (1000 < gp) || !decide (gp = 0) && !decide (kd = 5)) = true := by
          unfold MsOk at e
          simp at d ⊢
          omega
         rw [this, decide_eq_true e]
 · subst hb
   refine Gives.ite (fun c => Gives.now (.inr ⟨rfl, by simpa using c⟩)) fun c => Gives.now (.inl ⟨rfl, by simpa using c⟩)
theorem r17_checkG {kd bd gp : Int} : Gives (fun k => T_ref17_Check k kd bd gp) (fun r => (r = 0 ∧ MsOk kd bd gp) ∨ (r = 9 ∧ ¬ MsOk kd bd gp)) := by
 refine Gives.step ?_
 simp only [T_ref17_Check]
 refine Gives.bind (Q := fun b => b = decide (¬ MsOk kd bd gp)) ?_ fun b hb => ?_
 · refine Gives.ite (fun d => Gives.now ?_) fun d => Gives.bind (Q := fun _ => True) ?_ fun _ _ => Gives.now ?_
   · have : ¬ MsOk kd bd gp := fun ⟨a1, a2, a3, a4, a5, _⟩ => by simp at d; omega
     rw [decide_eq_true this]
   · refine Gives.step ?_
     simp only [T_ref04_Sample]
     exact Gives.now trivial
   · by_cases e : MsOk kd bd gp
     · have e' := e
       obtain ⟨_, _, _, _, _, a6, a7, a8⟩ := e
       rw [decide_eq_false (fun h : ¬ MsOk kd bd gp => h e')]
       simp; omega
     · have : (!(decide (-1000 ≤ gp) && decide (gp ≤ 1000)) || !decide (kd = 5) && !decide (gp = 0)) = true := by
        unfold MsOk at e
        simp at d ⊢
        omega
       rw [this, decide_eq_true e]
 · subst hb
   refine Gives.ite (fun c => Gives.now (.inr ⟨rfl, by simpa using c⟩)) fun c => Gives.now (.inl ⟨rfl, by simpa using c⟩)
theorem w_checkG {kd bd gp len n : Int} {cuts : List Int} (hl : cuts.length ≤ 1000) : Gives (fun k => T_word_Check k kd bd gp len n cuts) (fun r => (r = 0 ∧ SchOk kd bd gp len n cuts) ∨ (r = 10 ∧ ¬ SchOk kd bd gp len n cuts)) := by
 refine Gives.step ?_
 simp only [T_word_Check, SchOk_iff]
 refine Gives.bind ms_checkG fun e he => Gives.ite (fun c => Gives.now (.inr ⟨rfl, fun ⟨a, b1, b2, b3, b4, b5, b6, _⟩ => ?_⟩)) fun c => Gives.bind (Q := fun r => (r = .inl () ∧ CutsOk cuts) ∨ (r = .inr () ∧ ¬ CutsOk cuts)) ?_ fun r hr => ?_
 · rcases he with ⟨rfl, _⟩ | ⟨rfl, h⟩
   · simp at c; omega
   · exact h a
 · refine Gives.loop (fun s => 0 ≤ s ∧ s ≤ (cuts.length : Int) ∧ (∀ i, 0 ≤ i → i < s → -2000 ≤ rd cuts i ∧ rd cuts i ≤ 2000) ∧ ∀ i, 0 < i → i < s → rd cuts (i - 1) < rd cuts i) (fun s => ((cuts.length : Int) - s).toNat) ?_ ⟨by omega, by omega, fun i h0 h1 => by omega, fun i h0 h1 => by omega⟩
   intro s ⟨i0, i1, i2, i3⟩
   unfold T_word_Check_l1
   refine Gives.ite (fun cc => Gives.opt (at_rd i0 cc) (Gives.bind (Q := fun b => b = decide (¬ ((-2000 ≤ rd cuts s ∧ rd cuts s ≤ 2000) ∧ (0 < s → rd cuts (s - 1) < rd cuts s)))) ?_ fun b hb => ?_)) fun cc => Gives.now (.inl ⟨rfl, fun i h0 h1 => i2 i h0 (by omega), fun i h0 h1 => i3 i h0 (by omega)⟩)
   · refine Gives.ite (fun d => Gives.now ?_) fun d => Gives.ite (fun d2 => ?_) fun d2 => Gives.now ?_
     · have : ¬ ((-2000 ≤ rd cuts s ∧ rd cuts s ≤ 2000) ∧ (0 < s → rd cuts (s - 1) < rd cuts s)) := fun h => by simp at d; omega
       rw [decide_eq_true this]
     · rw [w64_id (x := s - 1) (by omega) (by omega)]
       refine Gives.opt (at_rd (by omega) (by omega)) (Gives.now ?_)
       rw [decide_eq_decide]
       simp at d
       constructor
       · intro h h'; have := h'.2 d2; omega
       · intro h
         refine Decidable.byContradiction fun hn => h ⟨by omega, fun _ => by omega⟩
     · rw [decide_eq_false]
       simp at d
       intro h
       exact h ⟨by omega, fun h => absurd h d2⟩
   · subst hb
     rw [w64_id (x := s + 1) (by omega) (by omega)]
     refine Gives.ite (fun d => Gives.now (.inr ⟨rfl, fun h => ?_⟩)) fun d => Gives.now ⟨⟨by omega, by omega, fun i h0 h1 => ?_, fun i h0 h1 => ?_⟩, by omega⟩
     · rw [decide_eq_true_eq] at d
       exact d ⟨h.1 s i0 cc, fun h0 => h.2 s h0 cc⟩
     · rw [decide_eq_true_eq, Classical.not_not] at d
       by_cases e : i = s
       · subst e; exact d.1
       · exact i2 i h0 (by omega)
     · rw [decide_eq_true_eq, Classical.not_not] at d
       by_cases e : i = s
       · subst e; exact d.2 h0
       · exact i3 i h0 (by omega)
 · have ce : e = 0 := by simp at c; omega
   have m : MsOk kd bd gp := by
    rcases he with ⟨_, h⟩ | ⟨h, _⟩
    · exact h
    · omega
   rcases hr with ⟨rfl, h⟩ | ⟨rfl, h⟩
   · refine Gives.now (.inl ⟨rfl, m, ?_⟩)
     simp at c
     exact ⟨by omega, by omega, by omega, by omega, by omega, by omega, h⟩
   · exact Gives.now (.inr ⟨rfl, fun ⟨_, _, _, _, _, _, _, b⟩ => h b⟩)
theorem r19_checkG {kd bd gp len n : Int} {cuts : List Int} (hl : cuts.length ≤ 1000) : Gives (fun k => T_ref19_Check k kd bd gp len n cuts) (fun r => (r = 0 ∧ SchOk kd bd gp len n cuts) ∨ (r = 10 ∧ ¬ SchOk kd bd gp len n cuts)) := by
 refine Gives.step ?_
 simp only [T_ref19_Check, SchOk_iff]
 refine Gives.bind r17_checkG fun e he => Gives.ite (fun c => Gives.now (.inr ⟨rfl, fun ⟨a, b1, b2, b3, b4, b5, b6, _⟩ => ?_⟩)) fun c => Gives.bind (Q := fun r => (r = .inl () ∧ CutsOk cuts) ∨ (r = .inr () ∧ ¬ CutsOk cuts)) ?_ fun r hr => ?_
 · rcases he with ⟨rfl, _⟩ | ⟨rfl, h⟩
   · simp at c; omega
   · exact h a
 · refine Gives.loop (fun s => 0 ≤ s ∧ s ≤ (cuts.length : Int) ∧ (∀ i, 0 ≤ i → i < s → -2000 ≤ rd cuts i ∧ rd cuts i ≤ 2000) ∧ ∀ i, 0 < i → i < s → rd cuts (i - 1) < rd cuts i) (fun s => ((cuts.length : Int) - s).toNat) ?_ ⟨by omega, by omega, fun i h0 h1 => by omega, fun i h0 h1 => by omega⟩
   intro s ⟨i0, i1, i2, i3⟩
   unfold T_ref19_Check_l1
   refine Gives.ite (fun cc => Gives.bind (Q := fun b => b = decide (¬ ((-2000 ≤ rd cuts s ∧ rd cuts s ≤ 2000) ∧ (0 < s → rd cuts (s - 1) < rd cuts s)))) (Gives.opt (at_rd i0 cc) ?_) fun b hb => ?_) fun cc => Gives.now (.inl ⟨rfl, fun i h0 h1 => i2 i h0 (by omega), fun i h0 h1 => i3 i h0 (by omega)⟩)
   · refine Gives.ite (fun d => Gives.now ?_) fun d => Gives.ite (fun d2 => ?_) fun d2 => Gives.now ?_
     · have : ¬ ((-2000 ≤ rd cuts s ∧ rd cuts s ≤ 2000) ∧ (0 < s → rd cuts (s - 1) < rd cuts s)) := fun h => by simp at d; omega
       rw [decide_eq_true this]
     · rw [w64_id (x := s - 1) (by omega) (by omega)]
       refine Gives.opt (at_rd (by omega) (by omega)) (Gives.now ?_)
       rw [decide_eq_decide]
       simp at d
       constructor
       · intro h h'; have := h'.2 d2; omega
       · intro h
         refine Decidable.byContradiction fun hn => h ⟨by omega, fun _ => by omega⟩
     · rw [decide_eq_false]
       simp at d
       intro h
       exact h ⟨by omega, fun h => absurd h d2⟩
   · subst hb
     rw [w64_id (x := s + 1) (by omega) (by omega)]
     refine Gives.ite (fun d => Gives.now (.inr ⟨rfl, fun h => ?_⟩)) fun d => Gives.now ⟨⟨by omega, by omega, fun i h0 h1 => ?_, fun i h0 h1 => ?_⟩, by omega⟩
     · rw [decide_eq_true_eq] at d
       exact d ⟨h.1 s i0 cc, fun h0 => h.2 s h0 cc⟩
     · rw [decide_eq_true_eq, Classical.not_not] at d
       by_cases e : i = s
       · subst e; exact d.1
       · exact i2 i h0 (by omega)
     · rw [decide_eq_true_eq, Classical.not_not] at d
       by_cases e : i = s
       · subst e; exact d.2 h0
       · exact i3 i h0 (by omega)
 · have ce : e = 0 := by simp at c; omega
   have m : MsOk kd bd gp := by
    rcases he with ⟨_, h⟩ | ⟨h, _⟩
    · exact h
    · omega
   rcases hr with ⟨rfl, h⟩ | ⟨rfl, h⟩
   · refine Gives.now (.inl ⟨rfl, m, ?_⟩)
     simp at c
     exact ⟨by omega, by omega, by omega, by omega, by omega, by omega, h⟩
   · exact Gives.now (.inr ⟨rfl, fun ⟨_, _, _, _, _, _, _, b⟩ => h b⟩)

/-! Chapter 19 of the document: coordinates and full words. -/
theorem r19_coordinates {kd bd gp n : Int} {cuts x : List Int} (h : SchOk kd bd gp x.length n cuts) (hx : Win x) : Gives (fun k => T_ref19_Coordinates k kd bd gp x.length n cuts x) (fun r => r.2 = 0 ∧ (r.1.length : Int) = n ∧ ∀ p, 0 ≤ p → p < n → rd r.1 p = coo kd x n p) := by
 have x1 := hx.lo
 have x2 := hx.hi
 have n1 := h.n1
 have n2 := h.n2
 have n3 := h.n3
 have c1 := h.c1
 have en := energy_ok hx
 obtain ⟨m, rfl⟩ : ∃ m : Nat, n = m := ⟨n.toNat, by omega⟩
 have hl : ∀ p, 0 ≤ p → p < (m : Int) → 1 ≤ cut x.length m (p + 1) - cut x.length m p := fun p h0 h1 => (wt_ok (m := x.length) (n := m) (p := p) x2 (by omega) (by omega) (by omega) h0 h1).2.2.1
 refine Gives.step ?_
 simp only [T_ref19_Coordinates]
 refine Gives.bind (Q := fun r => r = 0) ?_ fun e he => ?_
 · refine Gives.step ?_
   simp only [T_ref19_Fits]
   refine Gives.bind (r19_checkG (by omega)) fun e he => ?_
   rcases he with ⟨rfl, _⟩ | ⟨_, hn⟩
   · exact Gives.neg (by simp) (Gives.neg (by simp) (Gives.bind (r12_samples hx) fun v hv => Gives.now hv))
   · exact absurd h hn
 subst he
 refine Gives.neg (by simp) (Gives.bind (f18_starts (m := x.length) (n := m) x1 x2 (by omega) (by omega) (by omega)) fun S hS => Gives.bind (f18_sums (n := m) hx (by omega) (by omega) (by omega)) fun a ha => Gives.bind (f18_centred (n := m) hx (by omega) (by omega) (by omega)) fun b hb => Gives.bind (rf_Product hx hx rfl) fun E hE => ?_)
 obtain ⟨_, S2, S3⟩ := hS
 obtain ⟨_, a2, a3⟩ := ha
 obtain ⟨_, b2, b3⟩ := hb
 have e1 : w64 ((x.length : Int) * E.1) = (x.length : Int) * selfP x := by
  rw [hE.1, ← selfP_prod, w64_id (by omega) (by omega)]
 rw [a2]
 refine Gives.bind (Q := fun r => r.2.length = r.1 ∧ r.1 = m ∧ ∀ p, 0 ≤ p → p < (m : Int) → rd r.2 p = coo kd x m p) ?_ fun r hr => Gives.now (by rw [drop_take_len hr.1]; exact ⟨rfl, by simp only []; omega, hr.2.2⟩)
 refine Gives.loop (fun s => 0 ≤ s.2.1 ∧ s.2.1 ≤ (m : Int) ∧ (s.1 : Int) = s.2.1 ∧ s.2.2.length = s.1 ∧ ∀ p, 0 ≤ p → p < s.2.1 → rd s.2.2 p = coo kd x m p) (fun s => ((m : Int) - s.2.1).toNat) ?_ ⟨by simp only []; omega, by simp only []; omega, rfl, rfl, fun p h0 h1 => by simp only at h1; omega⟩
 intro ⟨l, i, o⟩ ⟨i0, i1, i2, i3, i4⟩
 simp only at i0 i1 i2 i3 i4
 unfold T_ref19_Coordinates_l1
 simp only []
 rw [w64_id (x := i + 1) (by omega) (by omega)]
 refine Gives.ite (fun c => Gives.opt (at_rd (by omega) (by omega)) (Gives.opt (at_rd i0 (by omega)) (Gives.opt (at_rd i0 (by omega)) ?_))) fun c => Gives.now ⟨i3, by simp only []; omega, fun p h0 h1 => i4 p h0 (by omega)⟩
 have k1 := cut_range (m := (x.length : Int)) (n := (m : Int)) (p := i) n1 (by omega) i0 (by omega)
 have k2 := cut_range (m := (x.length : Int)) (n := (m : Int)) (p := i + 1) n1 (by omega) (by omega) (by omega)
 have hli := hl i i0 c
 have bs := pcs_bound hx n1 i0 c
 have bc := pcc_bound hx n1 i0 c
 rw [S3 i i0 (by omega), S3 (i + 1) (by omega) (by omega), a3 i i0 c, w64_id (x := cut x.length m (i + 1) - cut x.length m i) (by omega) (by omega), e1]
 refine Gives.bind (r04_down (by omega) (by omega) (by omega) (by omega)) fun d hd => ?_
 refine Gives.bind (Q := fun r => r = coo kd x m i) ?_ fun r hr => ?_
 · unfold coo
   refine Gives.ite (fun k => Gives.opt (at_rd i0 (by omega)) ?_) fun k => Gives.ite (fun k3 => Gives.opt (at_rd i0 (by omega)) ?_) fun k3 => Gives.now ?_
   · rw [if_pos k, b3 i i0 c]
     have lp := prod_bound (a := (x.length : Int)) (b := cut x.length m (i + 1) - cut x.length m i) (A := 32) (B := 32) (by omega) (by omega) (by omega) (by omega)
     have l0 := Int.mul_pos (show 0 < (x.length : Int) by omega) (show 0 < cut x.length m (i + 1) - cut x.length m i by omega)
     rw [w64_id (x := (x.length : Int) * (cut x.length m (i + 1) - cut x.length m i)) (by omega) (by omega)]
     exact Gives.bind (r04_down l0 (by omega) (by omega) (by omega)) fun r hr => Gives.now hr
   · rw [if_neg k, if_pos k3, b3 i i0 c, w64_id (x := 64 * pcc x m i) (by omega) (by omega)]
     by_cases z : (x.length : Int) * selfP x = 0
     · rw [if_pos z, z]
       exact Gives.bind r02_quotient0 fun r hr => Gives.now hr
     · rw [if_neg z]
       exact Gives.bind (r02_quotient ⟨by omega, by omega, by omega, by omega⟩) fun r hr => Gives.now (by rw [hr])
   · rw [if_neg k, if_neg k3]; exact hd
 · rw [drop_take_len i3]
   refine Gives.pos (by unfold LIM; omega) (Gives.now ⟨⟨by simp only []; omega, by simp only []; omega, by simp only []; omega, by simp [i3], fun p h0 h1 => ?_⟩, by simp only []; omega⟩)
   simp only at h1 ⊢
   by_cases e : p = i
   · subst e; rw [rd_app_1 h0 (by omega), hr]
   · rw [rd_app_l (by omega)]; exact i4 p h0 (by omega)
/-- Two functions answer alike. -/
def Agree {α : Type} (f g : Nat → Option α) (Q : α → Prop) : Prop := ∃ v, Gives f (· = v) ∧ Gives g (· = v) ∧ Q v
theorem Agree.both {α : Type} {f g : Nat → Option α} {Q P P' : α → Prop} (h : Gives f P) (k : Gives g P') (e : ∀ a b, P a → P' b → a = b) (q : ∀ a, P a → Q a) : Agree f g Q := by
 obtain ⟨a, ha, pa⟩ := h.get
 obtain ⟨b, hb, pb⟩ := k.get
 have := e a b pa pb
 subst this
 exact ⟨a, ha, hb, q a pa⟩

theorem same_refl {a b : List Int} (ha : a.length ≤ 1000) (hb : b.length ≤ 1000) : Gives (fun k => T_ref19_Same k a b a b) (fun r => r = true) := by
 refine Gives.step ?_
 simp only [T_ref19_Same]
 refine Gives.bind (Q := fun r => r = true) ?_ fun r hr => Gives.now hr
 exact Gives.bind (ints_refl rfl ha) fun v hv => Gives.pos hv (Gives.bind (ints_refl rfl hb) fun v hv => Gives.now hv)
theorem src_odd {L : List Int} {q a b c : Int} (h : SrcOk L q) : Gives (fun k => T_keep_Src_Odd k a b c L q) (fun r => SrcOk L r.2.2.2) := by
 refine Gives.step ?_
 simp only [T_keep_Src_Odd]
 refine Gives.bind (src_n h 4 (by omega) (by omega)) fun u hu => Gives.bind (Q := fun r => SrcOk L r.1) ?_ fun r hr => Gives.now hr
 exact Gives.ite (fun _ => Gives.bind (src_pick hu.2.2 _ (by simp) (by simp)) fun v hv => Gives.now hv.2) fun _ => Gives.ite (fun _ => Gives.bind (src_pick hu.2.2 _ (by simp) (by simp)) fun v hv => Gives.now hv.2) fun _ => Gives.ite (fun _ => Gives.bind (src_pick hu.2.2 _ (by simp) (by simp)) fun v hv => Gives.now hv.2) fun _ => Gives.now hu.2.2
theorem src_queer {L cuts : List Int} {q a b c d e : Int} (h : SrcOk L q) (hl : cuts.length ≤ 100) : Gives (fun k => T_keep_Src_Queer k a b c d e cuts L q) (fun r => r.2.2.2.2.2.1.length ≤ 1000 ∧ SrcOk L r.2.2.2.2.2.2) := by
 refine Gives.step ?_
 simp only [T_keep_Src_Queer]
 refine Gives.bind (src_n h 5 (by omega) (by omega)) fun u hu => Gives.ite (fun _ => Gives.bind (src_odd hu.2.2) fun v hv => Gives.now ⟨by simp only []; omega, hv⟩) fun _ => Gives.ite (fun _ => Gives.bind (src_pick hu.2.2 _ (by simp) (by simp)) fun v hv => Gives.now ⟨by simp only []; omega, hv.2⟩) fun _ => Gives.ite (fun _ => Gives.bind (src_pick hu.2.2 _ (by simp) (by simp)) fun v hv => Gives.now ⟨by simp only []; omega, hv.2⟩) fun _ => ?_
 refine Gives.bind (Q := fun r => r.2.1 ≤ 1000 ∧ SrcOk L r.1) ?_ fun r hr => Gives.now ⟨by simp only [List.length_take]; omega, hr.2⟩
 refine Gives.ite (fun _ => Gives.pos (by unfold LIM; omega) (Gives.bind (src_range hu.2.2 (-9) 9 (by omega) (by omega) (by omega)) fun v hv => Gives.bind (src_pick hv.2.2 _ (by simp) (by simp)) fun w hw => Gives.pos (by unfold LIM; omega) (Gives.now ⟨by simp only []; omega, hw.2⟩))) fun _ => Gives.bind (src_pick hu.2.2 _ (by simp) (by simp)) fun v hv => ?_
 have m := hv.1
 simp only [List.mem_cons, List.not_mem_nil, or_false] at m
 exact Gives.pos (by unfold LIM; omega) (Gives.now ⟨by simp only []; omega, hv.2⟩)

/-! Splits. -/
theorem nil_app (p : List Int) : ((([] : List Int).drop 0).take 0 ++ p) = p := by simp
theorem sl_clone {p : List Int} (h : 0 < p.length) (h2 : p.length ≤ 1000) : Gives (fun k => T_slices_Clone_b354 k p) (fun _ => True) := by
 refine Gives.step ?_
 simp only [T_slices_Clone_b354]
 exact Gives.pos h (Gives.pos (by unfold LIM; omega) (Gives.now trivial))
/-- A word with one more bit in a piece. -/
def wth (sy bi : List Int) (p j : Int) : List Int × List Int := (sy.set (0 + p.toNat) (2 * rd sy p + j), bi.set (0 + p.toNat) (rd bi p + 1))
theorem w_split {kd bd gp len n p : Int} {cuts sy bi : List Int} (h : SchOk kd bd gp len n cuts) (w : WOk n sy bi) (p0 : 0 ≤ p) (p1 : p < n) (hb : rd bi p ≠ 4) : Gives (fun k => T_word_Split k kd bd gp len n cuts sy bi p) (fun r => r = ((wth sy bi p 0).1, (wth sy bi p 0).2, (wth sy bi p 1).1, (wth sy bi p 1).2, 0)) := by
 have n1 := h.n1
 have n2 := h.n2
 have w' := w
 obtain ⟨w1, w2, w3⟩ := w
 obtain ⟨b0, b1, t0, t1⟩ := w3 p p0 p1
 have s16 : rd sy p < 16 := by
  rcases (show rd bi p = 0 ∨ rd bi p = 1 ∨ rd bi p = 2 ∨ rd bi p = 3 by omega) with e | e | e | e <;> rw [e] at t1 <;> simp at t1 <;> omega
 refine Gives.step ?_
 simp only [T_word_Split]
 refine Gives.bind (w_valid h w') fun a ha => Gives.neg (by simp [ha]) (Gives.neg (by simp; omega) (Gives.opt (at_rd p0 (by omega)) (Gives.neg hb (Gives.bind (Q := fun r => r = [wth sy bi p 0, wth sy bi p 1]) ?_ fun r hr => ?_))))
 · refine Gives.loop (fun s => 0 ≤ s.1 ∧ s.1 ≤ 2 ∧ ∃ A B, s.2 = [A, B] ∧ (0 < s.1 → A = wth sy bi p 0) ∧ (1 < s.1 → B = wth sy bi p 1)) (fun s => (2 - s.1).toNat) ?_ ⟨by simp only []; omega, by simp only []; omega, _, _, rfl, fun h => by simp only at h; omega, fun h => by simp only at h; omega⟩
   intro ⟨i, o⟩ ⟨i0, i1, A, B, e, hA, hB⟩
   simp only at i0 i1 e hA hB
   subst e
   unfold T_word_Split_l1
   simp only [nil_app]
   refine Gives.ite (fun c => Gives.bind (sl_clone (by omega) (by omega)) fun _ _ => Gives.bind (sl_clone (by omega) (by omega)) fun _ _ => Gives.pos (by omega) (Gives.opt (get_rd0 p0 (by omega)) (Gives.pos (by omega) (Gives.opt (get_rd0 p0 (by omega)) (Gives.pos (by simp; omega) ?_))))) fun c => Gives.now ?_
   · have e1 : w64 (w64 (2 * rd sy p) + i) = 2 * rd sy p + i := by rw [w64_id (x := 2 * rd sy p) (by omega) (by omega), w64_id (by omega) (by omega)]
     have e2 : w64 (rd bi p + 1) = rd bi p + 1 := w64_id (by omega) (by omega)
     rw [e1, e2, w64_id (x := i + 1) (by omega) (by omega), drop_take_len (n := 0 + sy.length) (by simp), drop_take_len (n := 0 + bi.length) (by simp)]
     have ew : (sy.set (0 + p.toNat) (2 * rd sy p + i), bi.set (0 + p.toNat) (rd bi p + 1)) = wth sy bi p i := rfl
     rw [ew]
     rcases (show i = 0 ∨ i = 1 by omega) with rfl | rfl
     · exact Gives.now ⟨⟨by simp only []; omega, by simp only []; omega, wth sy bi p 0, B, rfl, fun _ => rfl, fun h => by simp only at h; omega⟩, by simp only []; omega⟩
     · exact Gives.now ⟨⟨by simp only []; omega, by simp only []; omega, A, wth sy bi p 1, rfl, fun _ => hA (by omega), fun _ => rfl⟩, by simp only []; omega⟩
   · rw [hA (by omega), hB (by omega)]
 · subst hr
   exact Gives.pos (by simp) (Gives.opt rfl (Gives.pos (by simp) (Gives.opt rfl (Gives.now rfl))))
/-! What belongs to a word. -/
theorem w_full {n : Int} {sy bi : List Int} (hl : (bi.length : Int) = n) (hn : n ≤ 8) (h : FOk n bi) : Gives (fun k => T_word_full k sy bi) (fun r => r = true) := by
 refine Gives.step ?_
 simp only [T_word_full]
 refine Gives.bind (Q := fun r => r = false) ?_ fun r hr => Gives.now (by rw [hr]; rfl)
 refine Gives.step ?_
 simp only [T_slices_ContainsFunc_b354]
 refine Gives.bind (Q := fun r => r = -1) ?_ fun r hr => Gives.now (by rw [hr]; rfl)
 refine Gives.step ?_
 simp only [T_slices_IndexFunc_b354]
 refine Gives.bind (Q := fun r => r = .inl ()) ?_ fun r hr => by subst hr; exact Gives.now rfl
 refine Gives.loop (fun s => 0 ≤ s ∧ s ≤ (bi.length : Int)) (fun s => ((bi.length : Int) - s).toNat) ?_ ⟨by omega, by omega⟩
 intro i ⟨i0, i1⟩
 unfold T_slices_IndexFunc_b354_l1
 refine Gives.ite (fun c => Gives.opt (at_rd i0 c) (Gives.bind (Q := fun _ => True) ?_ fun _ _ => Gives.neg ?_ ?_)) fun c => Gives.now rfl
 · refine Gives.step ?_
   simp only [T_word_full_1]
   exact Gives.now trivial
 · rw [h i i0 (by omega)]; simp
 · rw [w64_id (by omega) (by omega)]
   exact Gives.now ⟨⟨by omega, by omega⟩, by omega⟩
/-! The shuffled bits of full words. -/
def dig (s : Int) (b : Nat) : Int := s / 2 ^ b % 2
/-- The bits of the first j pieces, behind a number. -/
def row (sy : List Int) (b : Nat) (N : Int) : Nat → Int
 | 0 => N
 | j + 1 => 2 * row sy b N j + dig (rd sy j) b
/-- The first rows of bits, the highest first. -/
def shf (sy : List Int) (n : Nat) : Nat → Int
 | 0 => 0
 | r + 1 => row sy (3 - r) (shf sy n r) n
theorem dig_two (s : Int) (b : Nat) : dig s b = 0 ∨ dig s b = 1 := by unfold dig; omega
theorem row_lt {v w : List Int} {b : Nat} {N M : Int} {m : Nat} (h : row v b N m < row w b M m) : ∀ d : Nat, row v b N (m + d) < row w b M (m + d)
 | 0 => h
 | d + 1 => by
  have ih := row_lt h d
  have a := dig_two (rd v ((m + d : Nat) : Int)) b
  have c := dig_two (rd w ((m + d : Nat) : Int)) b
  show 2 * row v b N (m + d) + dig (rd v ((m + d : Nat) : Int)) b < 2 * row w b M (m + d) + dig (rd w ((m + d : Nat) : Int)) b
  omega
theorem shf_lt {v w : List Int} {n r : Nat} (h : shf v n r < shf w n r) : ∀ d : Nat, shf v n (r + d) < shf w n (r + d)
 | 0 => h
 | d + 1 => by
  have ih := shf_lt h d
  have := row_lt (v := v) (w := w) (b := 3 - (r + d)) (N := shf v n (r + d)) (M := shf w n (r + d)) (m := 0) ih n
  rw [Nat.zero_add] at this
  exact this
/-- What begins with lesser bits is less. -/
theorem pre_lt {v w : List Int} {n k m : Nat} (hk : k ≤ 4) (hm : m ≤ n) (hm4 : k = 4 → m = 0) (h : row v (3 - k) (shf v n k) m < row w (3 - k) (shf w n k) m) : shf v n 4 < shf w n 4 := by
 by_cases e : k = 4
 · have := hm4 e
   subst this e
   exact h
 · have a := row_lt h (n - m)
   rw [show m + (n - m) = n by omega] at a
   have b : shf v n (k + 1) < shf w n (k + 1) := a
   have c := shf_lt b (4 - (k + 1))
   rw [show k + 1 + (4 - (k + 1)) = 4 by omega] at c
   exact c
theorem and_fin : ∀ s : Fin 16, ∀ b : Fin 4, bAnd .i64 ((s.val : Int).fdiv (2 ^ (Nat.min b.val (IntKind.bits .i64)))) 1 = dig s.val b.val := by decide +kernel
theorem and_dig {s b : Int} (s0 : 0 ≤ s) (s1 : s < 16) (b0 : 0 ≤ b) (b1 : b ≤ 3) : bAnd .i64 (s.fdiv (2 ^ (Nat.min b.toNat (IntKind.bits .i64)))) 1 = dig s b.toNat := by
 have f := and_fin ⟨s.toNat, by omega⟩ ⟨b.toNat, by omega⟩
 simp only [Int.toNat_of_nonneg s0] at f
 exact f
theorem row_bd {sy : List Int} {b : Nat} {N : Int} {e : Nat} (h0 : 0 ≤ N) (h1 : N < 2 ^ e) : ∀ j : Nat, 0 ≤ row sy b N j ∧ row sy b N j < 2 ^ (e + j)
 | 0 => ⟨h0, h1⟩
 | j + 1 => by
  obtain ⟨a, c⟩ := row_bd h0 h1 (sy := sy) (b := b) j
  have d := dig_two (rd sy (j : Int)) b
  have p : (2 : Int) ^ (e + (j + 1)) = 2 ^ (e + j) * 2 := by rw [← Nat.add_assoc, Int.pow_succ]
  rw [p]
  show 0 ≤ 2 * row sy b N j + dig (rd sy j) b ∧ 2 * row sy b N j + dig (rd sy j) b < _
  omega
theorem shf_bd {sy : List Int} {n : Nat} : ∀ r : Nat, 0 ≤ shf sy n r ∧ shf sy n r < 2 ^ (r * n)
 | 0 => by simp [shf]
 | r + 1 => by
  obtain ⟨a, c⟩ := shf_bd (sy := sy) (n := n) r
  have := row_bd (sy := sy) (b := 3 - r) a c n
  rw [Nat.succ_mul]
  exact this
theorem pow32 {e : Nat} (h : e ≤ 32) : (2 : Int) ^ e ≤ 4294967296 := by
 have : (2 : Nat) ^ e ≤ 2 ^ 32 := Nat.pow_le_pow_right (by omega) h
 have e1 : ((2 ^ e : Nat) : Int) = 2 ^ e := by simp
 omega
theorem w_shuffled {n : Nat} {sy bi : List Int} (hn : n ≤ 8) (w : WOk n sy bi) (f : FOk n bi) : Gives (fun k => T_word_shuffled k sy bi) (fun r => r = shf sy n 4) := by
 obtain ⟨w1, w2, w3⟩ := w
 have s16 : ∀ p, 0 ≤ p → p < (n : Int) → 0 ≤ rd sy p ∧ rd sy p < 16 := fun p h0 h1 => by
  obtain ⟨_, _, a, b⟩ := w3 p h0 h1
  rw [f p h0 h1] at b
  exact ⟨a, b⟩
 refine Gives.step ?_
 simp only [T_word_shuffled]
 refine Gives.bind (Q := fun r => r = shf sy n 4) ?_ fun r hr => Gives.now hr
 refine Gives.loop (fun s => ∃ r : Nat, r ≤ 4 ∧ s.2 = 3 - (r : Int) ∧ s.1 = shf sy n r) (fun s => (s.2 + 1).toNat) ?_ ⟨0, by omega, rfl, rfl⟩
 intro ⟨N, b⟩ ⟨r, r4, e1, e2⟩
 simp only at e1 e2
 unfold T_word_shuffled_l2
 simp only []
 refine Gives.ite (fun c => ?_) fun c => Gives.now (by rw [e2, show r = 4 by omega])
 have bd := shf_bd (sy := sy) (n := n) r
 refine Gives.bind (Q := fun v => v = shf sy n (r + 1)) ?_ fun v hv => ?_
 · rw [w1]
   refine Gives.loop (fun s => 0 ≤ s.2 ∧ s.2 ≤ (n : Int) ∧ s.1 = row sy (3 - r) (shf sy n r) s.2.toNat) (fun s => ((n : Int) - s.2).toNat) ?_ ⟨by simp only []; omega, by simp only []; omega, e2⟩
   intro ⟨M, p⟩ ⟨p0, p1, p2⟩
   simp only at p0 p1 p2
   unfold T_word_shuffled_l1
   simp only []
   refine Gives.ite (fun cc => Gives.opt (at_rd p0 (by omega)) (Gives.pos c ?_)) fun cc => Gives.now ?_
   · obtain ⟨s0, s1⟩ := s16 p p0 cc
     have rb := row_bd (sy := sy) (b := 3 - r) bd.1 bd.2 p.toNat
     rw [← p2] at rb
     have le : r * n + p.toNat ≤ 32 := by
      have : r * n ≤ 3 * n := Nat.mul_le_mul_right n (by omega)
      omega
     have pw := pow32 le
     have dt := dig_two (rd sy p) b.toNat
     rw [and_dig s0 s1 c (by omega), w64_id (x := 2 * M) (by omega) (by omega), w64_id (x := 2 * M + _) (by omega) (by omega), w64_id (x := p + 1) (by omega) (by omega)]
     refine Gives.now ⟨⟨by simp only []; omega, by simp only []; omega, ?_⟩, by simp only []; omega⟩
     simp only []
     rw [show (p + 1).toNat = p.toNat + 1 by omega, row, ← p2, Int.toNat_of_nonneg p0, show b.toNat = 3 - r by omega]
   · rw [p2, show p.toNat = n by omega]; rfl
 · rw [w64_id (x := b - 1) (by omega) (by omega)]
   exact Gives.now ⟨⟨r + 1, by omega, by simp only []; omega, hv⟩, by simp only []; omega⟩
/-- The order of numbers. -/
def sgn (a b : Int) : Int := if a < b then -1 else if b < a then 1 else 0
theorem w_cmp {kd bd gp len : Int} {n : Nat} {cuts sy bi ty ci : List Int} (h : SchOk kd bd gp len n cuts) (w : WOk n sy bi) (f : FOk n bi) (v : WOk n ty ci) (g : FOk n ci) : Gives (fun k => T_word_Cmp k kd bd gp len n cuts sy bi ty ci) (fun r => r = sgn (shf sy n 4) (shf ty n 4)) := by
 have n2 := h.n2
 refine Gives.step ?_
 simp only [T_word_Cmp]
 refine Gives.bind (Q := fun b => b = false) ?_ fun b hb => ?_
 · exact Gives.bind (w_valid h w) fun a ha => Gives.neg (by simp [ha]) (Gives.bind (w_valid h v) fun a ha => Gives.neg (by simp [ha]) (Gives.bind (w_full w.2.1 n2 f) fun a ha => Gives.neg (by simp [ha]) (Gives.bind (w_full v.2.1 n2 g) fun a ha => Gives.now (by rw [ha]; rfl))))
 subst hb
 refine Gives.neg (by simp) (Gives.bind (w_shuffled (by omega) w f) fun a ha => Gives.bind (w_shuffled (by omega) v g) fun b hb => ?_)
 subst ha hb
 refine Gives.bind (Q := fun r => r = sgn (shf sy n 4) (shf ty n 4)) ?_ fun r hr => Gives.now hr
 have nan : ∀ x : Int, Gives (fun k => T_cmp_isNaN_557a k x) (fun _ => True) := fun x => Gives.step (by simp only [T_cmp_isNaN_557a]; exact Gives.now trivial)
 refine Gives.step ?_
 simp only [T_cmp_Compare_557a]
 unfold sgn
 refine Gives.bind (nan _) fun _ _ => Gives.bind (nan _) fun _ _ => Gives.neg (by simp) (Gives.neg (by simp) (Gives.ite (fun c => Gives.now (by rw [if_pos c])) fun c => Gives.ite (fun d => Gives.now (by rw [if_neg c, if_pos d])) fun d => Gives.now (by rw [if_neg c, if_neg d])))
/-! Words of any kind. -/
def VOk (kd bd gp len n : Int) (cuts sy bi : List Int) : Prop := SchOk kd bd gp len n cuts ∧ WOk n sy bi
def good (sy bi : List Int) (p : Int) : Prop := 0 ≤ rd bi p ∧ rd bi p ≤ 4 ∧ 0 ≤ rd sy p ∧ rd sy p < 2 ^ (rd bi p).toNat
instance {sy bi : List Int} {p : Int} : Decidable (good sy bi p) := by unfold good; infer_instance
theorem val_l1 {k : Nat} {m s : Int} {sy bi : List Int} : T_ref19_Valid_l1 k m sy bi s = T_word_Valid_l1 k m sy bi s := by
 unfold T_ref19_Valid_l1 T_word_Valid_l1
 simp only [Option.bind_assoc]
theorem val_loop {n : Int} {sy bi : List Int} (h1 : (sy.length : Int) = n) (h2 : (bi.length : Int) = n) (hn : n ≤ 1000) : Gives (fun k => loopT (T_word_Valid_l1 k n sy bi) k 0) (fun r => (r = .inl () ∧ WOk n sy bi) ∨ (r = .inr () ∧ ¬ WOk n sy bi)) := by
 refine Gives.loop (fun s => 0 ≤ s ∧ s ≤ n ∧ ∀ p, 0 ≤ p → p < s → good sy bi p) (fun s => (n - s).toNat) ?_ ⟨by omega, by omega, fun p h0 h1 => by omega⟩
 intro i ⟨i0, i1, i2⟩
 unfold T_word_Valid_l1
 refine Gives.ite (fun c => Gives.opt (at_rd i0 (by omega)) (Gives.bind (Q := fun b => b = decide (¬ good sy bi i)) ?_ fun b hb => ?_)) fun c => Gives.now (.inl ⟨rfl, h1, h2, fun p p0 p1 => i2 p p0 (by omega)⟩)
 · refine Gives.ite (fun d => Gives.now ?_) fun d => ?_
   · have : ¬ good sy bi i := fun ⟨a, b, _⟩ => by simp at d; omega
     rw [decide_eq_true this]
   · have d' : 0 ≤ rd bi i ∧ rd bi i ≤ 4 := by simp at d; omega
     refine Gives.opt (at_rd i0 (by omega)) (Gives.ite (fun e => Gives.now ?_) fun e => Gives.pos d'.1 (Gives.now ?_))
     · have : ¬ good sy bi i := fun ⟨_, _, a, _⟩ => by omega
       rw [decide_eq_true this]
     · rw [bits_lt d'.1 d'.2, decide_eq_decide]
       constructor
       · intro hh ⟨_, _, _, a⟩; omega
       · intro hh
         exact Decidable.byContradiction fun hn => hh ⟨d'.1, d'.2, by omega, by omega⟩
 · subst hb
   rw [w64_id (by omega) (by omega)]
   refine Gives.ite (fun d => Gives.now (.inr ⟨rfl, fun w => ?_⟩)) fun d => Gives.now ⟨⟨by omega, by omega, fun p p0 p1 => ?_⟩, by omega⟩
   · rw [decide_eq_true_eq] at d
     exact d (w.2.2 i i0 c)
   · rw [decide_eq_true_eq, Classical.not_not] at d
     by_cases e : p = i
     · subst e; exact d
     · exact i2 p p0 (by omega)
theorem w_validG {kd bd gp len n : Int} {cuts sy bi : List Int} (hl : cuts.length ≤ 1000) (hb : bi.length ≤ 1000) : Gives (fun k => T_word_Valid k kd bd gp len n cuts sy bi) (fun r => (r = true ∧ VOk kd bd gp len n cuts sy bi) ∨ (r = false ∧ ¬ VOk kd bd gp len n cuts sy bi)) := by
 refine Gives.step ?_
 simp only [T_word_Valid]
 refine Gives.bind (w_checkG hl) fun e he => Gives.ite (fun c => Gives.now (.inr ⟨rfl, fun ⟨s, w1, w2, _⟩ => ?_⟩)) fun c => ?_
 · rcases he with ⟨rfl, _⟩ | ⟨_, h⟩
   · simp at c; omega
   · exact h s
 · have c' : e = 0 ∧ (sy.length : Int) = n ∧ (bi.length : Int) = n := by simp at c; omega
   rw [c'.2.2]
   have hs : SchOk kd bd gp len n cuts := by
    rcases he with ⟨_, h⟩ | ⟨h, _⟩
    · exact h
    · omega
   refine Gives.bind (val_loop c'.2.1 c'.2.2 (by omega)) fun r hr => ?_
   rcases hr with ⟨rfl, h⟩ | ⟨rfl, h⟩
   · exact Gives.now (.inl ⟨rfl, hs, h⟩)
   · exact Gives.now (.inr ⟨rfl, fun v => h v.2⟩)
theorem r19_validG {kd bd gp len n : Int} {cuts sy bi : List Int} (hl : cuts.length ≤ 1000) (hb : bi.length ≤ 1000) : Gives (fun k => T_ref19_Valid k kd bd gp len n cuts sy bi) (fun r => (r = true ∧ VOk kd bd gp len n cuts sy bi) ∨ (r = false ∧ ¬ VOk kd bd gp len n cuts sy bi)) := by
 refine Gives.step ?_
 simp only [T_ref19_Valid]
 refine Gives.bind (r19_checkG hl) fun e he => Gives.ite (fun c => Gives.now (.inr ⟨rfl, fun ⟨s, w1, w2, _⟩ => ?_⟩)) fun c => ?_
 · rcases he with ⟨rfl, _⟩ | ⟨_, h⟩
   · simp at c; omega
   · exact h s
 · have c' : e = 0 ∧ (sy.length : Int) = n ∧ (bi.length : Int) = n := by simp at c; omega
   rw [c'.2.2]
   have hs : SchOk kd bd gp len n cuts := by
    rcases he with ⟨_, h⟩ | ⟨h, _⟩
    · exact h
    · omega
   have el : ∀ k, T_ref19_Valid_l1 k n sy bi = T_word_Valid_l1 k n sy bi := fun k => funext fun s => val_l1
   simp only [el]
   refine Gives.bind (val_loop c'.2.1 c'.2.2 (by omega)) fun r hr => ?_
   rcases hr with ⟨rfl, h⟩ | ⟨rfl, h⟩
   · exact Gives.now (.inl ⟨rfl, hs, h⟩)
   · exact Gives.now (.inr ⟨rfl, fun v => h v.2⟩)

theorem val_two {P : Prop} {f g : Nat → Option Bool} (h : Gives f (fun r => (r = true ∧ P) ∨ (r = false ∧ ¬ P))) (k : Gives g (fun r => (r = true ∧ P) ∨ (r = false ∧ ¬ P))) : (P ∧ Gives f (· = true) ∧ Gives g (· = true)) ∨ (¬ P ∧ Gives f (· = false) ∧ Gives g (· = false)) := by
 by_cases p : P
 · exact .inl ⟨p, h.mono fun r hr => hr.elim (·.1) fun q => absurd p q.2, k.mono fun r hr => hr.elim (·.1) fun q => absurd p q.2⟩
 · exact .inr ⟨p, h.mono fun r hr => hr.elim (fun q => absurd q.2 p) (·.1), k.mono fun r hr => hr.elim (fun q => absurd q.2 p) (·.1)⟩
theorem ag_valid {kd bd gp len n : Int} {cuts sy bi : List Int} (hl : cuts.length ≤ 1000) (hb : bi.length ≤ 1000) : (VOk kd bd gp len n cuts sy bi ∧ Gives (fun k => T_word_Valid k kd bd gp len n cuts sy bi) (· = true) ∧ Gives (fun k => T_ref19_Valid k kd bd gp len n cuts sy bi) (· = true)) ∨ (¬ VOk kd bd gp len n cuts sy bi ∧ Gives (fun k => T_word_Valid k kd bd gp len n cuts sy bi) (· = false) ∧ Gives (fun k => T_ref19_Valid k kd bd gp len n cuts sy bi) (· = false)) := val_two (w_validG hl hb) (r19_validG hl hb)
/-- Regions. -/
theorem ext_rpi {xs ys : List (Int × Int)} (hl : xs.length = ys.length) (h : ∀ p, 0 ≤ p → p < (xs.length : Int) → rpi xs p = rpi ys p) : xs = ys := by
 refine List.ext_getElem hl fun i h1 h2 => ?_
 have := h i (by omega) (by omega)
 unfold rpi at this
 rw [List.getD_eq_getElem?_getD, List.getD_eq_getElem?_getD] at this
 simpa [h1, h2] using this
theorem r19_region {kd bd gp len n : Int} {cuts sy bi : List Int} (h : SchOk kd bd gp len n cuts) (w : WOk n sy bi) (hv : Gives (fun k => T_ref19_Valid k kd bd gp len n cuts sy bi) (· = true)) : Gives (fun k => T_ref19_Region k kd bd gp len n cuts sy bi) (fun r => r.2 = 0 ∧ (r.1.length : Int) = n ∧ ∀ p, 0 ≤ p → p < n → rpi r.1 p = ivl cuts (rd sy p * wid (rd bi p)) (rd sy p * wid (rd bi p) + wid (rd bi p) - 1)) := by
 have n1 := h.n1
 have n2 := h.n2
 have c1 := h.c1
 refine Gives.step ?_
 simp only [T_ref19_Region]
 refine Gives.bind hv fun a ha => Gives.neg (by simp [ha]) ?_
 obtain ⟨w1, w2, w3⟩ := w
 rw [w2]
 refine Gives.bind (Q := fun r => r.2.length = r.1 ∧ (r.1 : Int) = n ∧ ∀ p, 0 ≤ p → p < n → rpi r.2 p = ivl cuts (rd sy p * wid (rd bi p)) (rd sy p * wid (rd bi p) + wid (rd bi p) - 1)) ?_ fun r hr => Gives.now (by rw [drop_take_len2 hr.1]; exact ⟨rfl, by rw [hr.1]; exact hr.2.1, hr.2.2⟩)
 refine Gives.loop (fun s => 0 ≤ s.2.1 ∧ s.2.1 ≤ n ∧ (s.1 : Int) = s.2.1 ∧ s.2.2.length = s.1 ∧ ∀ p, 0 ≤ p → p < s.2.1 → rpi s.2.2 p = ivl cuts (rd sy p * wid (rd bi p)) (rd sy p * wid (rd bi p) + wid (rd bi p) - 1)) (fun s => (n - s.2.1).toNat) ?_ ⟨by simp only []; omega, by simp only []; omega, rfl, rfl, fun p h0 h1 => by simp only at h1; omega⟩
 intro ⟨l, i, o⟩ ⟨i0, i1, i2, i3, i4⟩
 simp only at i0 i1 i2 i3 i4
 unfold T_ref19_Region_l1
 simp only []
 refine Gives.ite (fun c => Gives.opt (at_rd i0 (by omega)) (Gives.opt (at_rd i0 (by omega)) ?_)) fun c => Gives.now ⟨i3, by simp only []; omega, fun p h0 h1 => i4 p h0 (by omega)⟩
 obtain ⟨b0, b1, s0, s1⟩ := w3 i i0 c
 have wk := wid_ok b0 b1 s0 s1
 have b4 : 0 ≤ w64 (4 - rd bi i) := by rw [w64_id (by omega) (by omega)]; omega
 refine Gives.pos b4 (Gives.opt (at_rd i0 (by omega)) (Gives.pos b4 ?_))
 rw [wid_w b0 b1, Int.one_mul, w64_id (x := i + 1) (by omega) (by omega), drop_take_len2 i3]
 have q : ∀ p, 0 ≤ p → p < i + 1 → ∀ v, v = ivl cuts (rd sy i * wid (rd bi i)) (rd sy i * wid (rd bi i) + wid (rd bi i) - 1) → rpi (o ++ [v]) p = ivl cuts (rd sy p * wid (rd bi p)) (rd sy p * wid (rd bi p) + wid (rd bi p) - 1) := fun p h0 h1 v hv => by
  by_cases e : p = i
  · subst e; rw [rpi_app_1 h0 (by omega), hv]
  · rw [rpi_app_l (by omega)]; exact i4 p h0 (by omega)
 clear i4
 generalize rd sy i * wid (rd bi i) = f at *
 generalize wid (rd bi i) = w at *
 rw [w64_id (x := f) (by omega) (by omega), w64_id (x := w) (by omega) (by omega), w64_id (x := f + w) (by omega) (by omega), w64_id (x := f + w - 1) (by omega) (by omega), w64_id (x := f - 1) (by omega) (by omega)]
 unfold ivl at q
 refine Gives.bind (Q := fun r => f ≤ (cuts.length : Int) → r = if 0 < f then rd cuts (f - 1) else -1099511627776) ?_ fun lo hlo => Gives.bind (Q := fun r => r = if f + w - 1 < (cuts.length : Int) then rd cuts (f + w - 1) - 1 else 1099511627776) ?_ fun hi hhi => Gives.bind (Q := fun r => r = if (cuts.length : Int) < f then (1, 0) else (if 0 < f then rd cuts (f - 1) else -1099511627776, if f + w - 1 < (cuts.length : Int) then rd cuts (f + w - 1) - 1 else 1099511627776)) ?_ fun v hv => Gives.pos (by unfold LIM; omega) (Gives.now ⟨⟨by simp only []; omega, by simp only []; omega, by simp only []; omega, by simp [i3], fun p h0 h1 => q p h0 h1 _ hv⟩, by simp only []; omega⟩)
 · refine Gives.ite (fun d => ?_) fun d => Gives.now fun d2 => ?_
   · have d' : 0 < f ∧ f ≤ (cuts.length : Int) := by simpa using d
     exact Gives.opt (at_rd (by omega) (by omega)) (Gives.now fun _ => by rw [if_pos d'.1])
   · have d' : ¬ 0 < f := by simp at d; omega
     rw [if_neg d']
 · refine Gives.ite (fun d => Gives.opt (at_rd (by omega) (by omega)) ?_) fun d => Gives.now (by rw [if_neg d])
   have := h.c2 (f + w - 1) (by omega) d
   rw [w64_id (by omega) (by omega)]
   exact Gives.now (by rw [if_pos d])
 · refine Gives.ite (fun d => Gives.now (by rw [if_pos d])) fun d => Gives.now ?_
   rw [if_neg d, hlo (by omega), hhi]
theorem ag_region {kd bd gp len n : Int} {cuts sy bi : List Int} (hl : cuts.length ≤ 1000) (hb : bi.length ≤ 1000) : Agree (fun k => T_word_Region k kd bd gp len n cuts sy bi) (fun k => T_ref19_Region k kd bd gp len n cuts sy bi) (fun v => v.1.length ≤ 1000) := by
 rcases ag_valid (kd := kd) (bd := bd) (gp := gp) (len := len) (n := n) (sy := sy) hl hb with ⟨⟨h, w⟩, _, hv⟩ | ⟨_, h1, h2⟩
 · have n2 := h.n2
   refine Agree.both (w_region h w) (r19_region h w hv) (fun a b ha hb => ?_) fun a ha => by have := ha.2.1; omega
   obtain ⟨a1, a2, a3⟩ := ha
   obtain ⟨b1, b2, b3⟩ := hb
   exact Prod.ext (ext_rpi (by omega) fun p p0 p1 => by rw [a3 p p0 (by omega), b3 p p0 (by omega)]) (by rw [a1, b1])
 · refine Agree.both (P := fun r => r = ([], 10)) (P' := fun r => r = ([], 10)) ?_ ?_ (fun a b ha hb => by rw [ha, hb]) fun a ha => by rw [ha]; simp
   · refine Gives.step ?_
     simp only [T_word_Region]
     exact Gives.bind h1 fun a ha => Gives.pos (by simp [ha]) (Gives.now rfl)
   · refine Gives.step ?_
     simp only [T_ref19_Region]
     exact Gives.bind h2 fun a ha => Gives.pos (by simp [ha]) (Gives.now rfl)
theorem sreg_refl {a : List (Int × Int)} (ha : a.length ≤ 1000) : Gives (fun k => T_ref19_SameRegion k a a) (· = true) := by
 refine Gives.step ?_
 simp only [T_ref19_SameRegion]
 refine Gives.neg (by simp) (Gives.bind (Q := fun r => r = .inl ()) ?_ fun r hr => by subst hr; exact Gives.now rfl)
 refine Gives.loop (fun s => 0 ≤ s ∧ s ≤ (a.length : Int)) (fun s => ((a.length : Int) - s).toNat) ?_ ⟨by omega, by omega⟩
 intro s ⟨i1, i2⟩
 unfold T_ref19_SameRegion_l1
 refine Gives.ite (fun c => Gives.opt (at_rpi i1 c) (Gives.opt (at_rpi i1 c) (Gives.neg (by simp) ?_))) fun c => Gives.now rfl
 rw [w64_id (by omega) (by omega)]
 exact Gives.now ⟨⟨by omega, by omega⟩, by omega⟩
/-- Splits. -/
theorem r19_with {n p j : Int} {sy bi : List Int} (w : WOk n sy bi) (n2 : n ≤ 8) (p0 : 0 ≤ p) (p1 : p < n) (hb : rd bi p ≠ 4) (hj : j = 0 ∨ j = 1) : Gives (fun k => T_ref19_with k sy bi p j) (fun r => r = wth sy bi p j) := by
 obtain ⟨w1, w2, w3⟩ := w
 obtain ⟨b0, b1, t0, t1⟩ := w3 p p0 p1
 have s16 : rd sy p < 16 := by
  rcases (show rd bi p = 0 ∨ rd bi p = 1 ∨ rd bi p = 2 ∨ rd bi p = 3 by omega) with e | e | e | e <;> rw [e] at t1 <;> simp at t1 <;> omega
 refine Gives.step ?_
 simp only [T_ref19_with, nil_app]
 refine Gives.pos (by unfold LIM; omega) (Gives.pos (by unfold LIM; omega) (Gives.pos (by omega) (Gives.opt (get_rd0 p0 (by omega)) (Gives.pos (by omega) (Gives.opt (get_rd0 p0 (by omega)) (Gives.now ?_))))))
 rw [w64_id (x := 2 * rd sy p) (by omega) (by omega), w64_id (x := 2 * rd sy p + j) (by omega) (by omega), w64_id (x := rd bi p + 1) (by omega) (by omega), drop_take_len (n := 0 + sy.length) (by simp), drop_take_len (n := 0 + bi.length) (by simp)]
 rfl
theorem ag_split {kd bd gp len n p : Int} {cuts sy bi : List Int} (hl : cuts.length ≤ 1000) (hb : bi.length ≤ 1000) : Agree (fun k => T_word_Split k kd bd gp len n cuts sy bi p) (fun k => T_ref19_Split k kd bd gp len n cuts sy bi p) (fun v => v.1.length ≤ 1000 ∧ v.2.1.length ≤ 1000 ∧ v.2.2.1.length ≤ 1000 ∧ v.2.2.2.1.length ≤ 1000) := by
 have two : ∀ e : Int, ∀ a b : List Int × List Int × List Int × List Int × Int, a = ([], [], [], [], e) → b = ([], [], [], [], e) → a = b := fun e a b ha hb => by rw [ha, hb]
 have sm : ∀ e : Int, ∀ v : List Int × List Int × List Int × List Int × Int, v = ([], [], [], [], e) → v.1.length ≤ 1000 ∧ v.2.1.length ≤ 1000 ∧ v.2.2.1.length ≤ 1000 ∧ v.2.2.2.1.length ≤ 1000 := fun e v hv => by rw [hv]; simp
 rcases ag_valid (kd := kd) (bd := bd) (gp := gp) (len := len) (n := n) (sy := sy) hl hb with ⟨⟨h, w⟩, v1, v2⟩ | ⟨_, h1, h2⟩
 · have n2 := h.n2
   have w1 := w.1
   have w2 := w.2.1
   by_cases hp : 0 ≤ p ∧ p < n
   · by_cases h4 : rd bi p = 4
     · refine Agree.both (P := fun r => r = ([], [], [], [], 4)) (P' := fun r => r = ([], [], [], [], 4)) ?_ ?_ (two 4) (sm 4)
       · refine Gives.step ?_
         simp only [T_word_Split]
         exact Gives.bind v1 fun a ha => Gives.neg (by simp [ha]) (Gives.neg (by simp; omega) (Gives.opt (at_rd hp.1 (by omega)) (Gives.pos h4 (Gives.now rfl))))
       · refine Gives.step ?_
         simp only [T_ref19_Split]
         exact Gives.bind v2 fun a ha => Gives.neg (by simp [ha]) (Gives.neg (by simp; omega) (Gives.opt (at_rd hp.1 (by omega)) (Gives.pos h4 (Gives.now rfl))))
     · refine Agree.both (w_split h w hp.1 hp.2 h4) (P' := fun r => r = ((wth sy bi p 0).1, (wth sy bi p 0).2, (wth sy bi p 1).1, (wth sy bi p 1).2, 0)) ?_ (fun a b ha hb => by rw [ha, hb]) fun a ha => ?_
       · refine Gives.step ?_
         simp only [T_ref19_Split]
         refine Gives.bind v2 fun a ha => Gives.neg (by simp [ha]) (Gives.neg (by simp; omega) (Gives.opt (at_rd hp.1 (by omega)) (Gives.neg h4 (Gives.bind (r19_with w n2 hp.1 hp.2 h4 (.inl rfl)) fun a ha => Gives.bind (r19_with w n2 hp.1 hp.2 h4 (.inr rfl)) fun b hb => Gives.now ?_))))
         rw [ha, hb]
       · rw [ha]
         simp only [wth, List.length_set]
         omega
   · refine Agree.both (P := fun r => r = ([], [], [], [], 1)) (P' := fun r => r = ([], [], [], [], 1)) ?_ ?_ (two 1) (sm 1)
     · refine Gives.step ?_
       simp only [T_word_Split]
       exact Gives.bind v1 fun a ha => Gives.neg (by simp [ha]) (Gives.pos (by simp; omega) (Gives.now rfl))
     · refine Gives.step ?_
       simp only [T_ref19_Split]
       exact Gives.bind v2 fun a ha => Gives.neg (by simp [ha]) (Gives.pos (by simp; omega) (Gives.now rfl))
 · refine Agree.both (P := fun r => r = ([], [], [], [], 10)) (P' := fun r => r = ([], [], [], [], 10)) ?_ ?_ (two 10) (sm 10)
   · refine Gives.step ?_
     simp only [T_word_Split]
     exact Gives.bind h1 fun a ha => Gives.pos (by simp [ha]) (Gives.now rfl)
   · refine Gives.step ?_
     simp only [T_ref19_Split]
     exact Gives.bind h2 fun a ha => Gives.pos (by simp [ha]) (Gives.now rfl)
/-- Full words. -/
theorem w_fullG {n : Int} {sy bi : List Int} (hl : (bi.length : Int) = n) (hn : n ≤ 1000) : Gives (fun k => T_word_full k sy bi) (fun r => (r = true ∧ FOk n bi) ∨ (r = false ∧ ¬ FOk n bi)) := by
 refine Gives.step ?_
 simp only [T_word_full]
 refine Gives.bind (Q := fun r => (r = false ∧ FOk n bi) ∨ (r = true ∧ ¬ FOk n bi)) ?_ fun r hr => Gives.now (by rcases hr with ⟨rfl, h⟩ | ⟨rfl, h⟩ <;> first | exact .inl ⟨rfl, h⟩ | exact .inr ⟨rfl, h⟩)
 refine Gives.step ?_
 simp only [T_slices_ContainsFunc_b354]
 refine Gives.bind (Q := fun r => (r = -1 ∧ FOk n bi) ∨ (0 ≤ r ∧ ¬ FOk n bi)) ?_ fun r hr => Gives.now (hr.elim (fun q => .inl ⟨by rw [q.1]; rfl, q.2⟩) fun q => .inr ⟨by simpa using q.1, q.2⟩)
 refine Gives.step ?_
 simp only [T_slices_IndexFunc_b354]
 refine Gives.bind (Q := fun r => (r = .inl () ∧ FOk n bi) ∨ (∃ i : Int, r = .inr i ∧ 0 ≤ i ∧ ¬ FOk n bi)) ?_ fun r hr => by
  rcases hr with ⟨rfl, h⟩ | ⟨i, rfl, i0, h⟩
  · exact Gives.now (.inl ⟨rfl, h⟩)
  · exact Gives.now (.inr ⟨i0, h⟩)
 rw [hl]
 refine Gives.loop (fun s => 0 ≤ s ∧ s ≤ n ∧ ∀ p, 0 ≤ p → p < s → rd bi p = 4) (fun s => (n - s).toNat) ?_ ⟨by omega, by omega, fun p h0 h1 => by omega⟩
 intro i ⟨i0, i1, i2⟩
 unfold T_slices_IndexFunc_b354_l1
 refine Gives.ite (fun c => Gives.opt (at_rd i0 (by omega)) (Gives.bind (Q := fun _ => True) ?_ fun _ _ => Gives.ite (fun d => Gives.now (.inr ⟨i, rfl, i0, fun f => ?_⟩)) fun d => ?_)) fun c => Gives.now (.inl ⟨rfl, fun p h0 h1 => i2 p h0 (by omega)⟩)
 · refine Gives.step ?_
   simp only [T_word_full_1]
   exact Gives.now trivial
 · simp at d
   exact d (f i i0 c)
 · rw [w64_id (by omega) (by omega)]
   refine Gives.now ⟨⟨by omega, by omega, fun p h0 h1 => ?_⟩, by omega⟩
   by_cases e : p = i
   · subst e; simpa using d
   · exact i2 p h0 (by omega)
theorem r19_fullG {kd bd gp len n : Int} {cuts sy bi : List Int} (hb : bi.length ≤ 1000) (v : VOk kd bd gp len n cuts sy bi) (hv : Gives (fun k => T_ref19_Valid k kd bd gp len n cuts sy bi) (· = true)) : Gives (fun k => T_ref19_Full k kd bd gp len n cuts sy bi) (fun r => (r = true ∧ FOk n bi) ∨ (r = false ∧ ¬ FOk n bi)) := by
 have hl := v.2.2.1
 have n2 := v.1.n2
 have n1 := v.1.n1
 refine Gives.step ?_
 simp only [T_ref19_Full]
 refine Gives.bind hv fun a ha => Gives.neg (by simp [ha]) (Gives.bind (Q := fun r => (r = .inl () ∧ FOk n bi) ∨ (r = .inr () ∧ ¬ FOk n bi)) ?_ fun r hr => by
  rcases hr with ⟨rfl, h⟩ | ⟨rfl, h⟩
  · exact Gives.now (.inl ⟨rfl, h⟩)
  · exact Gives.now (.inr ⟨rfl, h⟩))
 rw [hl]
 refine Gives.loop (fun s => 0 ≤ s ∧ s ≤ n ∧ ∀ p, 0 ≤ p → p < s → rd bi p = 4) (fun s => (n - s).toNat) ?_ ⟨by omega, by omega, fun p h0 h1 => by omega⟩
 intro i ⟨i0, i1, i2⟩
 unfold T_ref19_Full_l1
 refine Gives.ite (fun c => Gives.opt (at_rd i0 (by omega)) (Gives.ite (fun d => Gives.now (.inr ⟨rfl, fun f => ?_⟩)) fun d => ?_)) fun c => Gives.now (.inl ⟨rfl, fun p h0 h1 => i2 p h0 (by omega)⟩)
 · simp at d
   exact d (f i i0 c)
 · rw [w64_id (by omega) (by omega)]
   refine Gives.now ⟨⟨by omega, by omega, fun p h0 h1 => ?_⟩, by omega⟩
   by_cases e : p = i
   · subst e; simpa using d
   · exact i2 p h0 (by omega)
/-- What is asked of a full word, by the program and by the document. -/
theorem ag_full {kd bd gp len n : Int} {cuts sy bi : List Int} (hl : cuts.length ≤ 1000) (hb : bi.length ≤ 1000) :
 ((VOk kd bd gp len n cuts sy bi ∧ FOk n bi) ∧ Gives (fun k => T_word_Valid k kd bd gp len n cuts sy bi) (· = true) ∧ Gives (fun k => T_word_full k sy bi) (· = true) ∧ Gives (fun k => T_ref19_Full k kd bd gp len n cuts sy bi) (· = true)) ∨
 ((Gives (fun k => T_word_Valid k kd bd gp len n cuts sy bi) (· = false) ∨ Gives (fun k => T_word_Valid k kd bd gp len n cuts sy bi) (· = true) ∧ Gives (fun k => T_word_full k sy bi) (· = false)) ∧ Gives (fun k => T_ref19_Full k kd bd gp len n cuts sy bi) (· = false)) := by
 rcases ag_valid (kd := kd) (bd := bd) (gp := gp) (len := len) (n := n) (sy := sy) hl hb with ⟨v, v1, v2⟩ | ⟨_, h1, h2⟩
 · rcases val_two (w_fullG (sy := sy) v.2.2.1 (by have := v.1.n2; omega)) (r19_fullG hb v v2) with ⟨f, f1, f2⟩ | ⟨_, f1, f2⟩
   · exact .inl ⟨⟨v, f⟩, v1, f1, f2⟩
   · exact .inr ⟨.inr ⟨v1, f1⟩, f2⟩
 · refine .inr ⟨.inl h1, ?_⟩
   refine Gives.step ?_
   simp only [T_ref19_Full]
   exact Gives.bind h2 fun a ha => Gives.pos (by simp [ha]) (Gives.now rfl)
/-- Belongs. -/
theorem bel_l1 {k : Nat} {m s : Int} {sy bi fs fb : List Int} : T_ref19_Belongs_l1 k m sy bi fs fb s = T_word_Belongs_l1 k sy bi fs fb m s := by
 unfold T_ref19_Belongs_l1 T_word_Belongs_l1
 cases at? fs s <;> cases at? bi s <;> rfl
theorem bel_loop {n : Int} {sy bi fs fb : List Int} (w : WOk n sy bi) (f1 : (fs.length : Int) = n) (hn : 0 ≤ n) (n2 : n ≤ 8) : Gives (fun k => loopT (T_word_Belongs_l1 k sy bi fs fb n) k 0) (fun _ => True) := by
 obtain ⟨w1, w2, w3⟩ := w
 refine Gives.loop (fun s => 0 ≤ s ∧ s ≤ n) (fun s => (n - s).toNat) ?_ ⟨by omega, by omega⟩
 intro i ⟨i0, i1⟩
 unfold T_word_Belongs_l1
 refine Gives.ite (fun c => Gives.opt (at_rd i0 (by omega)) (Gives.opt (at_rd i0 (by omega)) ?_)) fun c => Gives.now trivial
 obtain ⟨b0, b1, _⟩ := w3 i i0 c
 refine Gives.pos (by rw [w64_id (by omega) (by omega)]; omega) (Gives.opt (at_rd i0 (by omega)) (Gives.ite (fun d => Gives.now trivial) fun d => ?_))
 rw [w64_id (by omega) (by omega)]
 exact Gives.now ⟨⟨by omega, by omega⟩, by omega⟩
theorem ag_belongs {kd bd gp len n : Int} {cuts sy bi fs fb : List Int} (hl : cuts.length ≤ 1000) (hb : bi.length ≤ 1000) (hf : fb.length ≤ 1000) : Agree (fun k => T_word_Belongs k kd bd gp len n cuts sy bi fs fb) (fun k => T_ref19_Belongs k kd bd gp len n cuts sy bi fs fb) (fun _ => True) := by
 have no : Gives (fun k => T_word_Belongs k kd bd gp len n cuts sy bi fs fb) (· = false) → Gives (fun k => T_ref19_Belongs k kd bd gp len n cuts sy bi fs fb) (· = false) → Agree (fun k => T_word_Belongs k kd bd gp len n cuts sy bi fs fb) (fun k => T_ref19_Belongs k kd bd gp len n cuts sy bi fs fb) (fun _ => True) := fun a b => ⟨false, a, b, trivial⟩
 rcases ag_valid (kd := kd) (bd := bd) (gp := gp) (len := len) (n := n) (sy := sy) hl hb with ⟨⟨h, w⟩, v1, v2⟩ | ⟨_, h1, h2⟩
 · rcases ag_full (kd := kd) (bd := bd) (gp := gp) (len := len) (n := n) (sy := fs) hl hf with ⟨⟨v, f⟩, u1, u2, u3⟩ | ⟨u1, u2⟩
   · have n1 := h.n1
     have n2 := h.n2
     obtain ⟨r, r1, _⟩ := (bel_loop (fb := fb) w v.2.1 (by omega) n2).get
     have el : ∀ k, T_ref19_Belongs_l1 k n sy bi fs fb = T_word_Belongs_l1 k sy bi fs fb n := fun k => funext fun s => bel_l1
     refine ⟨match r with | .inl _ => true | .inr _ => false, ?_, ?_, trivial⟩
     · refine Gives.step ?_
       simp only [T_word_Belongs]
       rw [w.2.1]
       refine Gives.bind (Q := fun b => b = false) (Gives.bind v1 fun a ha => Gives.neg (by simp [ha]) (Gives.bind u1 fun a ha => Gives.neg (by simp [ha]) (Gives.bind u2 fun a ha => Gives.now (by rw [ha]; rfl)))) fun b hb => ?_
       refine Gives.neg (by simp [hb]) (Gives.bind r1 fun q hq => ?_)
       subst hq
       cases q with
       | inl _ => exact Gives.now rfl
       | inr _ => exact Gives.now rfl
     · refine Gives.step ?_
       simp only [T_ref19_Belongs]
       rw [w.2.1]
       simp only [el]
       refine Gives.bind (Q := fun b => b = false) (Gives.bind v2 fun a ha => Gives.neg (by simp [ha]) (Gives.bind u3 fun a ha => Gives.now (by rw [ha]; rfl))) fun b hb => ?_
       refine Gives.neg (by simp [hb]) (Gives.bind r1 fun q hq => ?_)
       subst hq
       cases q with
       | inl _ => exact Gives.now rfl
       | inr _ => exact Gives.now rfl
   · refine no ?_ ?_
     · refine Gives.step ?_
       simp only [T_word_Belongs]
       refine Gives.bind (Q := fun b => b = true) (Gives.bind v1 fun a ha => Gives.neg (by simp [ha]) ?_) fun b hb => Gives.pos hb (Gives.now rfl)
       rcases u1 with u1 | ⟨u1, u1'⟩
       · exact Gives.bind u1 fun a ha => Gives.pos (by simp [ha]) (Gives.now rfl)
       · exact Gives.bind u1 fun a ha => Gives.neg (by simp [ha]) (Gives.bind u1' fun a ha => Gives.now (by rw [ha]; rfl))
     · refine Gives.step ?_
       simp only [T_ref19_Belongs]
       exact Gives.bind (Q := fun b => b = true) (Gives.bind v2 fun a ha => Gives.neg (by simp [ha]) (Gives.bind u2 fun a ha => Gives.now (by rw [ha]; rfl))) fun b hb => Gives.pos hb (Gives.now rfl)
 · refine no ?_ ?_
   · refine Gives.step ?_
     simp only [T_word_Belongs]
     exact Gives.bind (Q := fun b => b = true) (Gives.bind h1 fun a ha => Gives.pos (by simp [ha]) (Gives.now rfl)) fun b hb => Gives.pos hb (Gives.now rfl)
   · refine Gives.step ?_
     simp only [T_ref19_Belongs]
     exact Gives.bind (Q := fun b => b = true) (Gives.bind h2 fun a ha => Gives.pos (by simp [ha]) (Gives.now rfl)) fun b hb => Gives.pos hb (Gives.now rfl)
/-- The order. -/
theorem r19_cmp {kd bd gp len : Int} {n : Nat} {cuts sy bi ty ci : List Int} (hn : n ≤ 8) (w : WOk n sy bi) (f : FOk n bi) (v : WOk n ty ci) (g : FOk n ci) (h1 : Gives (fun k => T_ref19_Full k kd bd gp len n cuts sy bi) (· = true)) (h2 : Gives (fun k => T_ref19_Full k kd bd gp len n cuts ty ci) (· = true)) : Gives (fun k => T_ref19_Cmp k kd bd gp len n cuts sy bi ty ci) (fun r => r = sgn (shf sy n 4) (shf ty n 4)) := by
 have s16 : ∀ {sy bi : List Int}, WOk n sy bi → FOk n bi → ∀ p, 0 ≤ p → p < (n : Int) → 0 ≤ rd sy p ∧ rd sy p < 16 := fun w f p h0 h1 => by
  obtain ⟨_, _, a, b⟩ := w.2.2 p h0 h1
  rw [f p h0 h1] at b
  exact ⟨a, b⟩
 have w1 := w.1
 have v1 := v.1
 refine Gives.step ?_
 simp only [T_ref19_Cmp]
 refine Gives.bind (Q := fun b => b = false) (Gives.bind h1 fun a ha => Gives.neg (by simp [ha]) (Gives.bind h2 fun a ha => Gives.now (by rw [ha]; rfl))) fun b hb => ?_
 refine Gives.neg (by simp [hb]) (Gives.bind (Q := fun r => (r = .inl () ∧ shf sy n 4 = shf ty n 4) ∨ r = .inr (sgn (shf sy n 4) (shf ty n 4)) ) ?_ fun r hr => ?_)
 · refine Gives.loop (fun s => ∃ r : Nat, r ≤ 4 ∧ s = 3 - (r : Int) ∧ shf sy n r = shf ty n r) (fun s => (s + 1).toNat) ?_ ⟨0, by omega, rfl, rfl⟩
   intro b ⟨r, r4, e1, e2⟩
   unfold T_ref19_Cmp_l2
   refine Gives.ite (fun c => ?_) fun c => Gives.now (.inl ⟨rfl, by rw [show (4 : Nat) = r by omega]; exact e2⟩)
   refine Gives.bind (Q := fun q => (q = .inl () ∧ shf sy n (r + 1) = shf ty n (r + 1)) ∨ q = .inr (sgn (shf sy n 4) (shf ty n 4))) ?_ fun q hq => ?_
   · rw [w1]
     refine Gives.loop (fun s => 0 ≤ s ∧ s ≤ (n : Int) ∧ row sy (3 - r) (shf sy n r) s.toNat = row ty (3 - r) (shf ty n r) s.toNat) (fun s => ((n : Int) - s).toNat) ?_ ⟨by omega, by omega, e2⟩
     intro p ⟨p0, p1, p2⟩
     unfold T_ref19_Cmp_l1
     refine Gives.ite (fun cc => Gives.opt (at_rd p0 (by omega)) (Gives.pos c (Gives.opt (at_rd p0 (by omega)) ?_))) fun cc => Gives.now (.inl ⟨rfl, ?_⟩)
     · obtain ⟨a0, a1⟩ := s16 w f p p0 cc
       obtain ⟨c0, c1⟩ := s16 v g p p0 cc
       rw [and_dig a0 a1 c (by omega), and_dig c0 c1 c (by omega), show b.toNat = 3 - r by omega, w64_id (x := p + 1) (by omega) (by omega)]
       have ra : row sy (3 - r) (shf sy n r) (p.toNat + 1) = 2 * row sy (3 - r) (shf sy n r) p.toNat + dig (rd sy p) (3 - r) := by
        show 2 * row sy (3 - r) (shf sy n r) p.toNat + dig (rd sy (p.toNat : Int)) (3 - r) = _
        rw [Int.toNat_of_nonneg p0]
       have rb : row ty (3 - r) (shf ty n r) (p.toNat + 1) = 2 * row ty (3 - r) (shf ty n r) p.toNat + dig (rd ty p) (3 - r) := by
        show 2 * row ty (3 - r) (shf ty n r) p.toNat + dig (rd ty (p.toNat : Int)) (3 - r) = _
        rw [Int.toNat_of_nonneg p0]
       refine Gives.ite (fun d => Gives.now (.inr ?_)) fun d => Gives.ite (fun d2 => Gives.now (.inr ?_)) fun d2 => Gives.now ⟨⟨by omega, by omega, ?_⟩, by omega⟩
       · have lt := pre_lt (v := sy) (w := ty) (n := n) (k := r) (m := p.toNat + 1) r4 (by omega) (fun e => by omega) (by omega)
         unfold sgn
         rw [if_pos lt]
       · have lt := pre_lt (v := ty) (w := sy) (n := n) (k := r) (m := p.toNat + 1) r4 (by omega) (fun e => by omega) (by omega)
         unfold sgn
         rw [if_neg (by omega), if_pos lt]
       · rw [show (p + 1).toNat = p.toNat + 1 by omega]
         omega
     · rw [show p.toNat = n by omega] at p2
       exact p2
   · rcases hq with ⟨rfl, hq⟩ | rfl
     · rw [w64_id (x := b - 1) (by omega) (by omega)]
       exact Gives.now ⟨⟨r + 1, by omega, by omega, hq⟩, by omega⟩
     · exact Gives.now (.inr rfl)
 · rcases hr with ⟨rfl, hr⟩ | rfl
   · refine Gives.now ?_
     unfold sgn
     rw [if_neg (by omega), if_neg (by omega)]
   · exact Gives.now rfl
theorem ag_cmp {kd bd gp len n : Int} {cuts sy bi ty ci : List Int} (hl : cuts.length ≤ 1000) (hb : bi.length ≤ 1000) (hc : ci.length ≤ 1000) : Agree (fun k => T_word_Cmp k kd bd gp len n cuts sy bi ty ci) (fun k => T_ref19_Cmp k kd bd gp len n cuts sy bi ty ci) (fun _ => True) := by
 rcases ag_full (kd := kd) (bd := bd) (gp := gp) (len := len) (n := n) (sy := sy) hl hb with ⟨⟨⟨h, w⟩, f⟩, u1, u2, u3⟩ | ⟨u1, u2⟩
 · rcases ag_full (kd := kd) (bd := bd) (gp := gp) (len := len) (n := n) (sy := ty) hl hc with ⟨⟨⟨_, v⟩, g⟩, v1, v2, v3⟩ | ⟨v1, v2⟩
   · have n1 := h.n1
     have n2 := h.n2
     obtain ⟨m, rfl⟩ : ∃ m : Nat, n = m := ⟨n.toNat, by omega⟩
     exact Agree.both (w_cmp h w f v g) (r19_cmp (by omega) w f v g u3 v3) (fun a b ha hb => by rw [ha, hb]) fun _ _ => trivial
   · refine ⟨0, ?_, ?_, trivial⟩
     · refine Gives.step ?_
       simp only [T_word_Cmp]
       refine Gives.bind (Q := fun b => b = true) (Gives.bind u1 fun a ha => Gives.neg (by simp [ha]) ?_) fun b hb => Gives.pos hb (Gives.now rfl)
       rcases v1 with v1 | ⟨v1, v1'⟩
       · exact Gives.bind v1 fun a ha => Gives.pos (by simp [ha]) (Gives.now rfl)
       · exact Gives.bind v1 fun a ha => Gives.neg (by simp [ha]) (Gives.bind u2 fun a ha => Gives.neg (by simp [ha]) (Gives.bind v1' fun a ha => Gives.now (by rw [ha]; rfl)))
     · refine Gives.step ?_
       simp only [T_ref19_Cmp]
       exact Gives.bind (Q := fun b => b = true) (Gives.bind u3 fun a ha => Gives.neg (by simp [ha]) (Gives.bind v2 fun a ha => Gives.now (by rw [ha]; rfl))) fun b hb => Gives.pos hb (Gives.now rfl)
 · refine ⟨0, ?_, ?_, trivial⟩
   · refine Gives.step ?_
     simp only [T_word_Cmp]
     refine Gives.bind (Q := fun b => b = true) ?_ fun b hb => Gives.pos hb (Gives.now rfl)
     rcases u1 with u1 | ⟨u1, u1'⟩
     · exact Gives.bind u1 fun a ha => Gives.pos (by simp [ha]) (Gives.now rfl)
     · refine Gives.bind u1 fun a ha => Gives.neg (by simp [ha]) (Gives.bind (w_validG hl hc) fun a _ => Gives.ite (fun _ => Gives.now rfl) fun _ => Gives.bind u1' fun a ha => Gives.pos (by simp [ha]) (Gives.now rfl))
   · refine Gives.step ?_
     simp only [T_ref19_Cmp]
     exact Gives.bind (Q := fun b => b = true) (Gives.bind u2 fun a ha => Gives.pos (by simp [ha]) (Gives.now rfl)) fun b hb => Gives.pos hb (Gives.now rfl)

-- Valid, Belongs, Split, Region and Cmp of chapter 19 return what its reference returns, errors included: WordParts returns true for all schemes, words, piece numbers and lists.
theorem awake_k (k : Nat) : T_law19_awake (k + 60) = some true := by kernel_rfl
theorem awake_ok : Gives (fun k => T_law19_awake k) (· = true) := ⟨true, ⟨60, fun k hk => by
 obtain ⟨m, rfl⟩ : ∃ m, k = m + 60 := ⟨k - 60, by omega⟩
 exact awake_k m⟩, rfl⟩
theorem src_wordL {L : List Int} {q kd bd gp len n : Int} {cuts : List Int} (h : SrcOk L q) (n1 : 1 ≤ n) (n2 : n ≤ 8) : Gives (fun k => T_keep_Src_Word k kd bd gp len n cuts L q) (fun r => SrcOk L r.2.2.1 ∧ (r.1 : Int) = n ∧ (r.2.1 : Int) = n ∧ r.2.2.2.1.length = r.1 ∧ r.2.2.2.2.length = r.2.1) := by
 refine Gives.step ?_
 simp only [T_keep_Src_Word]
 refine Gives.bind (Q := fun r => SrcOk L r.1 ∧ (r.2.1 : Int) = n ∧ (r.2.2.1 : Int) = n ∧ r.2.2.2.1.length = r.2.1 ∧ r.2.2.2.2.length = r.2.2.1) ?_ fun r hr => Gives.now hr
 refine Gives.loop (fun s => 0 ≤ s.1 ∧ s.1 ≤ n ∧ SrcOk L s.2.1 ∧ (s.2.2.1 : Int) = s.1 ∧ (s.2.2.2.1 : Int) = s.1 ∧ s.2.2.2.2.1.length = s.2.2.1 ∧ s.2.2.2.2.2.length = s.2.2.2.1) (fun s => (n - s.1).toNat) ?_ ⟨by simp only []; omega, by simp only []; omega, h, rfl, rfl, rfl, rfl⟩
 intro ⟨i, at_, a, b, s, t⟩ ⟨i0, i1, i2, e1, e2, l1, l2⟩
 simp only at i0 i1 i2 e1 e2 l1 l2
 unfold T_keep_Src_Word_l1
 simp only []
 refine Gives.ite (fun c => Gives.bind (src_n i2 5 (by omega) (by omega)) fun u hu => Gives.pos hu.1 ?_) fun c => Gives.now ⟨i2, by simp only []; omega, by simp only []; omega, l1, l2⟩
 rw [bits_lt hu.1 (by omega)]
 have pb : 1 ≤ (2 : Int) ^ u.1.toNat ∧ (2 : Int) ^ u.1.toNat ≤ 16 := by
  have h0 := hu.1
  have h1 := hu.2.1
  rcases (show u.1 = 0 ∨ u.1 = 1 ∨ u.1 = 2 ∨ u.1 = 3 ∨ u.1 = 4 by omega) with e | e | e | e | e <;> rw [e] <;> decide
 refine Gives.bind (src_n hu.2.2 ((2 : Int) ^ u.1.toNat) pb.1 (by omega)) fun v hv => Gives.pos (by unfold LIM; omega) (Gives.pos (by unfold LIM; omega) ?_)
 rw [w64_id (x := i + 1) (by omega) (by omega), drop_take_len l1, drop_take_len l2]
 exact Gives.now ⟨⟨by simp only []; omega, by simp only []; omega, hv.2.2, by simp only []; omega, by simp only []; omega, by simp [l1], by simp [l2]⟩, by simp only []; omega⟩
theorem src_upperL {L fs fb : List Int} {q : Int} (h : SrcOk L q) (f1 : fs.length ≤ 100) : Gives (fun k => T_keep_Src_Upper k fs fb L q) (fun r => r.1.length ≤ 100 ∧ r.2.1.length ≤ 100 ∧ SrcOk L r.2.2) := by
 refine Gives.step ?_
 simp only [T_keep_Src_Upper]
 refine Gives.bind (Q := fun r => SrcOk L r.1 ∧ r.2.1 ≤ 100 ∧ r.2.2.1 ≤ 100) ?_ fun r hr => Gives.now ⟨by simp; omega, by simp; omega, hr.1⟩
 refine Gives.loop (fun s => 0 ≤ s.1 ∧ s.1 ≤ (fs.length : Int) ∧ SrcOk L s.2.1 ∧ (s.2.2.1 : Int) = s.1 ∧ (s.2.2.2.1 : Int) = s.1) (fun s => ((fs.length : Int) - s.1).toNat) ?_ ⟨by simp only []; omega, by simp only []; omega, h, rfl, rfl⟩
 intro ⟨i, at_, a, b, s, t⟩ ⟨i0, i1, i2, e1, e2⟩
 simp only at i0 i1 i2 e1 e2
 unfold T_keep_Src_Upper_l1
 simp only []
 refine Gives.ite (fun c => Gives.bind (src_n i2 5 (by omega) (by omega)) fun u hu => Gives.opt (at_rd i0 (by omega)) ?_) fun c => Gives.now ⟨i2, by simp only []; omega, by simp only []; omega⟩
 obtain ⟨u0, u1, u2⟩ := hu
 rw [w64_id (x := 4 - u.1) (by omega) (by omega), w64_id (x := i + 1) (by omega) (by omega)]
 exact Gives.pos (by omega) (Gives.pos (by unfold LIM; omega) (Gives.pos (by unfold LIM; omega) (Gives.now ⟨⟨by simp only []; omega, by simp only []; omega, u2, by simp only []; omega, by simp only []; omega⟩, by simp only []; omega⟩)))
theorem r19_ofL {kd bd gp n : Int} {cuts x : List Int} (h : SchOk kd bd gp x.length n cuts) (hx : Win x) : Gives (fun k => T_ref19_Of k kd bd gp x.length n cuts x) (fun r => r.1.length ≤ 100 ∧ r.2.1.length ≤ 100) := by
 have c1 := h.c1
 have n1 := h.n1
 have n2 := h.n2
 refine Gives.step ?_
 simp only [T_ref19_Of]
 refine Gives.bind (r19_coordinates h hx) fun r hr => ?_
 obtain ⟨e0, el, _⟩ := hr
 refine Gives.neg (by simp [e0]) (Gives.bind (Q := fun r => r.1 ≤ 100 ∧ r.2.1 ≤ 100) ?_ fun r hr => Gives.now ⟨by simp; omega, by simp; omega⟩)
 rw [el]
 refine Gives.loop (fun s => 0 ≤ s.1 ∧ s.1 ≤ n ∧ (s.2.1 : Int) = s.1 ∧ (s.2.2.1 : Int) = s.1) (fun s => (n - s.1).toNat) ?_ ⟨by simp only []; omega, by simp only []; omega, rfl, rfl⟩
 intro ⟨i, a, b, s, t⟩ ⟨i0, i1, e1, e2⟩
 simp only at i0 i1 e1 e2
 unfold T_ref19_Of_l2
 simp only []
 refine Gives.ite (fun c => Gives.bind (Q := fun _ => True) ?_ fun v hv => ?_) fun c => Gives.now ⟨by simp only []; omega, by simp only []; omega⟩
 · refine Gives.loop (fun s => 0 ≤ s.2 ∧ s.2 ≤ (cuts.length : Int)) (fun s => ((cuts.length : Int) - s.2).toNat) ?_ ⟨by simp only []; omega, by simp only []; omega⟩
   intro ⟨c', j⟩ ⟨j0, j1⟩
   simp only at j0 j1
   unfold T_ref19_Of_l1
   simp only []
   refine Gives.ite (fun cc => Gives.opt (at_rd j0 cc) (Gives.opt (at_rd i0 (by omega)) (Gives.bind (Q := fun _ => True) ?_ fun v _ => ?_))) fun cc => Gives.now trivial
   · exact Gives.ite (fun _ => Gives.now trivial) fun _ => Gives.now trivial
   · rw [w64_id (x := j + 1) (by omega) (by omega)]
     exact Gives.now ⟨⟨by simp only []; omega, by simp only []; omega⟩, by simp only []; omega⟩
 · rw [w64_id (x := i + 1) (by omega) (by omega)]
   exact Gives.pos (by unfold LIM; omega) (Gives.pos (by unfold LIM; omega) (Gives.now ⟨⟨by simp only []; omega, by simp only []; omega, by simp only []; omega, by simp only []; omega⟩, by simp only []; omega⟩))
theorem wp_l1 {c0 c3 c5 : Int} {ws : List ((List Int) × (List Int))} {ss : List (Int × Int × Int × Int × Int × (List Int))} {x28 : List Int} {c1 c2 c4 : Int} {ns : List Int} {kd bd gp len n : Int} {cuts sy bi : List Int} (hl : cuts.length ≤ 1000) (hb : bi.length ≤ 1000) (hn : ns.length ≤ 10) :
 Gives (fun k => loopT (T_law19_WordParts_l1 k c0 ws ss c1 x28 c2 c3 kd bd gp len n cuts c4 ns (ns.length : Int) c5 sy bi) k 0) (fun r => r = .inl ()) := by
 refine Gives.loop (fun s => 0 ≤ s ∧ s ≤ (ns.length : Int)) (fun s => ((ns.length : Int) - s).toNat) ?_ ⟨by omega, by omega⟩
 intro s ⟨i0, i1⟩
 unfold T_law19_WordParts_l1
 refine Gives.ite (fun c => Gives.opt (at_rd i0 c) ?_) fun c => Gives.now rfl
 obtain ⟨a, a1, a2, l1, l2, l3, l4⟩ := ag_split (kd := kd) (bd := bd) (gp := gp) (len := len) (n := n) (p := rd ns s) (sy := sy) hl hb
 refine Gives.bind a1 fun _ e => Gives.bind a2 fun _ e' => ?_
 subst e e'
 refine Gives.bind (Q := fun r => r = false) (Gives.bind (same_refl l1 l2) fun u hu => Gives.neg (by simp [hu]) (Gives.bind (same_refl l3 l4) fun u hu => Gives.now (by simp [hu]))) fun u hu => ?_
 subst hu
 rw [w64_id (by omega) (by omega)]
 exact Gives.neg (by simp) (Gives.now ⟨⟨by omega, by omega⟩, by omega⟩)
theorem wp_l2 {c0 : Int} {ws : List ((List Int) × (List Int))} {ss : List (Int × Int × Int × Int × Int × (List Int))} {x28 : List Int} {c1 c2 c3 c4 c5 : Int} {kd bd gp len n : Int} {cuts sy bi : List Int} (hl : cuts.length ≤ 1000) (hb : bi.length ≤ 1000) (hw : ∀ w ∈ ws, w.2.length ≤ 1000) (hn : ws.length ≤ 10) :
 Gives (fun k => loopT (T_law19_WordParts_l2 k c0 ws ss c1 x28 c2 c3 kd bd gp len n cuts c4 (ws.length : Int) c5 sy bi) k 0) (fun r => r = .inl ()) := by
 refine Gives.loop (fun s => 0 ≤ s ∧ s ≤ (ws.length : Int)) (fun s => ((ws.length : Int) - s).toNat) ?_ ⟨by omega, by omega⟩
 intro s ⟨i0, i1⟩
 unfold T_law19_WordParts_l2
 refine Gives.ite (fun c => ?_) fun c => Gives.now rfl
 obtain ⟨v, ev, mv⟩ := at_mem i0 c
 obtain ⟨a, a1, a2, _⟩ := ag_belongs (kd := kd) (bd := bd) (gp := gp) (len := len) (n := n) (sy := sy) (fs := v.1) hl hb (hw v mv)
 obtain ⟨b, b1, b2, _⟩ := ag_cmp (kd := kd) (bd := bd) (gp := gp) (len := len) (n := n) (sy := sy) (ty := v.1) hl hb (hw v mv)
 refine Gives.opt ev (Gives.bind (Q := fun r => r = false) (Gives.bind a1 fun _ e => Gives.bind a2 fun _ e' => ?_) fun u hu => ?_)
 · subst e e'
   refine Gives.neg (by simp) (Gives.bind b1 fun _ e => Gives.bind b2 fun _ e' => ?_)
   subst e e'
   exact Gives.now (by simp)
 · subst hu
   rw [w64_id (by omega) (by omega)]
   exact Gives.neg (by simp) (Gives.now ⟨⟨by omega, by omega⟩, by omega⟩)
theorem wp_l3 {c0 : Int} {ws : List ((List Int) × (List Int))} {ss : List (Int × Int × Int × Int × Int × (List Int))} {L : List Int} {c1 c2 : Int} {kd bd gp len n q : Int} {cuts : List Int} (hq : SrcOk L q) (hl : cuts.length ≤ 1000) (hw : ∀ w ∈ ws, w.2.length ≤ 1000) (hn : ws.length ≤ 10) :
 Gives (fun k => loopT (T_law19_WordParts_l3 k c0 ws ss c1 L c2 (ws.length : Int) kd bd gp len n cuts) k (0, q)) (fun r => ∃ q', r = .inl q' ∧ SrcOk L q') := by
 refine Gives.loop (fun s => 0 ≤ s.1 ∧ s.1 ≤ (ws.length : Int) ∧ SrcOk L s.2) (fun s => ((ws.length : Int) - s.1).toNat) ?_ ⟨by simp only []; omega, by simp only []; omega, hq⟩
 intro ⟨s, q⟩ ⟨i0, i1, i2⟩
 simp only at i0 i1 i2
 unfold T_law19_WordParts_l3
 simp only []
 refine Gives.ite (fun c => ?_) fun c => Gives.now ⟨_, rfl, i2⟩
 obtain ⟨v, ev, mv⟩ := at_mem i0 c
 have hb := hw v mv
 obtain ⟨a, a1, a2, al⟩ := ag_region (kd := kd) (bd := bd) (gp := gp) (len := len) (n := n) (sy := v.1) hl hb
 have vv : ∃ b : Bool, Gives (fun k => T_word_Valid k kd bd gp len n cuts v.1 v.2) (· = b) ∧ Gives (fun k => T_ref19_Valid k kd bd gp len n cuts v.1 v.2) (· = b) := by
  rcases ag_valid (kd := kd) (bd := bd) (gp := gp) (len := len) (n := n) (sy := v.1) hl hb with ⟨_, h1, h2⟩ | ⟨_, h1, h2⟩
  · exact ⟨true, h1, h2⟩
  · exact ⟨false, h1, h2⟩
 obtain ⟨b, b1, b2⟩ := vv
 refine Gives.opt ev (Gives.bind a1 fun _ e => Gives.bind a2 fun _ e' => ?_)
 subst e e'
 refine Gives.bind (Q := fun r => r = false) (Gives.bind b1 fun _ e => Gives.bind b2 fun _ e' => ?_) fun u hu => ?_
 · subst e e'
   exact Gives.neg (by simp) (Gives.bind (sreg_refl al) fun u hu => Gives.now (by simp [hu]))
 subst hu
 refine Gives.neg (by simp) (Gives.bind (src_range i2 (-1) 8 (by omega) (by omega) (by omega)) fun y hy => Gives.bind (wp_l1 hl hb (by simp)) fun u hu => ?_)
 subst hu
 refine Gives.bind (wp_l2 hl hb hw hn) fun u hu => ?_
 subst hu
 simp only []
 rw [w64_id (by omega) (by omega)]
 exact Gives.now ⟨⟨by simp only []; omega, by simp only []; omega, hy.2.2⟩, by simp only []; omega⟩
theorem pure_wordParts (a0 : Int) (w0 : (Lit.int .i64 a0).wf = true) (a1 : Int) (w1 : (Lit.int .i64 a1).wf = true) (a2 : Int) (w2 : (Lit.int .i64 a2).wf = true) (a3 : Int) (w3 : (Lit.int .i64 a3).wf = true) (a4 : Int) (w4 : (Lit.int .i64 a4).wf = true) (a5 : List Int) (w5 : ∀ n ∈ a5, (Lit.int .i64 n).wf = true) (a6 : List Int) (w6 : ∀ n ∈ a6, (Lit.int .i64 n).wf = true) (a7 : List Int) (w7 : ∀ n ∈ a7, (Lit.int .i64 n).wf = true) (a8 : List Int) (w8 : ∀ n ∈ a8, (Lit.int .i64 n).wf = true) (a9 : List Int) (w9 : ∀ n ∈ a9, (Lit.int .i64 n).wf = true) (a10 : Int) (w10 : (Lit.int .i64 a10).wf = true) (a11 : List Int) (w11 : ∀ n ∈ a11, (Lit.int .i64 n).wf = true) : ∃ k, T_law19_WordParts k a0 a1 a2 a3 a4 a5 a6 a7 a8 a9 a10 a11 = some true := by
 refine Gives.true (f := fun k => T_law19_WordParts k a0 a1 a2 a3 a4 a5 a6 a7 a8 a9 a10 a11) ?_
 obtain ⟨s0, s1⟩ := src_new a11
 refine Gives.step ?_
 simp only [T_law19_WordParts]
 refine Gives.ite (fun _ => Gives.bind awake_ok fun v hv => Gives.now hv) fun hc => ?_
 have h0 : a5.length ≤ 40 ∧ a7.length ≤ 20 ∧ a9.length ≤ 20 := by simp at hc; omega
 refine Gives.bind s1 fun _ _ => Gives.bind (src_scheme s0) fun a ha => ?_
 obtain ⟨hs, a8'⟩ := ha
 have hc1 := hs.c1
 have l1 := hs.l1
 have l2 := hs.l2
 have n1 := hs.n1
 have n2 := hs.n2
 have of : ∀ x : List Int, (x.length : Int) = a.2.2.2.1 → Smp x → Gives (fun k => T_ref19_Of k a.1 a.2.1 a.2.2.1 a.2.2.2.1 a.2.2.2.2.1 a.2.2.2.2.2.1 x) (fun r => r.1.length ≤ 100 ∧ r.2.1.length ≤ 100) := fun x hx hsm => by
  have hs' := hs
  rw [← hx] at hs' ⊢
  exact r19_ofL hs' ⟨by omega, by omega, hsm⟩
 refine Gives.bind (src_list a8' a.2.2.2.1 l1 l2) fun b hb => Gives.bind (of _ hb.1 hb.2.1) fun f hf => Gives.bind (src_list hb.2.2 a.2.2.2.1 l1 l2) fun c hcc => Gives.bind (of _ hcc.1 hcc.2.1) fun g hg => Gives.bind (src_wordL hcc.2.2 n1 n2) fun w hw => Gives.bind (src_upperL hw.1 hf.1) fun u hu => Gives.bind (src_wordL hu.2.2 n1 n2) fun d hd => ?_
 obtain ⟨d0, d1, d2, d3, d4⟩ := hd
 refine Gives.bind (src_n d0 ((d.2.1 : Nat) : Int) (by omega) (by omega)) fun y hy => Gives.bind (src_n hy.2.2 3 (by omega) (by omega)) fun z hz => Gives.bind (Q := fun r => SrcOk ((a11.drop 0).take ((imin (a11.length : Int) 2000).toNat - 0)) r.1) ?_ fun e he => ?_
 · refine Gives.ite (fun _ => Gives.bind (src_pick hz.2.2 _ (by simp) (by simp)) fun v hv => Gives.pos ⟨hy.1, hy.2.1⟩ (Gives.now hv.2)) fun _ => Gives.ite (fun _ => Gives.bind (src_pick hz.2.2 _ (by simp) (by simp)) fun v hv => Gives.pos ⟨hy.1, by have := hy.2.1; omega⟩ (Gives.now hv.2)) fun _ => Gives.pos (by unfold LIM; omega) (Gives.now hz.2.2)
 refine Gives.bind (src_queer he (by omega)) fun qu hqu => ?_
 refine Gives.bind (Q := fun r => r = .inl ()) ?_ fun r hr => by subst hr; exact Gives.bind awake_ok fun v hv => Gives.now hv
 generalize hk : ([(a0, a1, a2, a3, a4, a5), (a.1, a.2.1, a.2.2.1, a.2.2.2.1, a.2.2.2.2.1, a.2.2.2.2.2.1), (qu.1, qu.2.1, qu.2.2.1, qu.2.2.2.1, qu.2.2.2.2.1, qu.2.2.2.2.2.1)] : List (Int × Int × Int × Int × Int × (List Int))) = ks
 generalize hwd : ([(a6, a7), (a8, a9), (f.1, f.2.1), (g.1, g.2.1), (((w.2.2.2.1.drop 0).take w.1), ((w.2.2.2.2.drop 0).take w.2.1)), (u.1, u.2.1), (((e.2.2.1.drop 0).take e.2.1), ((e.2.2.2.drop 0).take d.2.1))] : List ((List Int) × (List Int))) = ws
 have lk : ks.length = 3 := by rw [← hk]; rfl
 have lw : ws.length = 7 := by rw [← hwd]; rfl
 have mk : ∀ e ∈ ks, e.2.2.2.2.2.length ≤ 1000 := by
  intro e he
  rw [← hk] at he
  simp only [List.mem_cons, List.not_mem_nil, or_false] at he
  rcases he with rfl | rfl | rfl
  · simp only []; omega
  · simp only []; omega
  · exact hqu.1
 have mw : ∀ e ∈ ws, e.2.length ≤ 1000 := by
  intro e he
  rw [← hwd] at he
  simp only [List.mem_cons, List.not_mem_nil, or_false] at he
  have := hw.2.2.1
  rcases he with rfl | rfl | rfl | rfl | rfl | rfl | rfl
  · simp only []; omega
  · simp only []; omega
  · simp only []; omega
  · simp only []; omega
  · simp only [List.length_take]; omega
  · simp only []; omega
  · simp only [List.length_take]; omega
 refine Gives.loop (fun s => 0 ≤ s.1 ∧ s.1 ≤ (ks.length : Int) ∧ SrcOk ((a11.drop 0).take ((imin (a11.length : Int) 2000).toNat - 0)) s.2) (fun s => ((ks.length : Int) - s.1).toNat) ?_ ⟨by simp only []; omega, by simp only []; omega, hqu.2⟩
 intro ⟨i, q⟩ ⟨i0, i1, i2⟩
 simp only at i0 i1 i2
 unfold T_law19_WordParts_l4
 simp only []
 refine Gives.ite (fun c => ?_) fun c => Gives.now rfl
 obtain ⟨z, ez, mz⟩ := at_mem i0 c
 refine Gives.opt ez (Gives.bind (wp_l3 i2 (mk z mz) mw (by omega)) fun r hr => ?_)
 obtain ⟨q', rfl, hq'⟩ := hr
 simp only []
 rw [w64_id (by omega) (by omega)]
 exact Gives.now ⟨⟨by simp only []; omega, by simp only []; omega, hq'⟩, by simp only []; omega⟩

end Go.Proofs.Ytdnegloonbanpaa.wordParts
