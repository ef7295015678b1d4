/- That the told functions answer as the statement EnvelopeCascade says, in plain Lean. There are no conditions. -/
import Derived.Test.YtdelnjemfjihpaaTEnvelopeCascade1
set_option maxRecDepth 100000
set_option linter.unusedVariables false
set_option linter.unusedSimpArgs false
namespace Go.Proofs.Ytdelnjemfjihpaa.envelopeCascade
open Go
theorem w64_id {x : Int} (h1 : -9223372036854775808 ≤ x) (h2 : x < 9223372036854775808) : w64 x = x := wrap_id h1 h2

/-- With enough rounds the answer is there, and it is as asked. -/
def Gives {α : Type} (f : Nat → Option α) (Q : α → Prop) : Prop := ∃ r, (∃ K, ∀ k, K ≤ k → f k = some r) ∧ Q r
theorem Gives.mono {α : Type} {f : Nat → Option α} {Q Q' : α → Prop} (h : Gives f Q) (k : ∀ r, Q r → Q' r) : Gives f Q' := by
 obtain ⟨r, h1, h2⟩ := h; exact ⟨r, h1, k r h2⟩
theorem Gives.now {α : Type} {r : α} {Q : α → Prop} (h : Q r) : Gives (fun _ => some r) Q := ⟨r, ⟨0, fun _ _ => rfl⟩, h⟩
theorem Gives.bind {α β : Type} {f : Nat → Option α} {g : Nat → α → Option β} {Q : α → Prop} {Q' : β → Prop} (h : Gives f Q) (k : ∀ a, Q a → Gives (fun n => g n a) Q') : Gives (fun n => (f n).bind (g n)) Q' := by
 obtain ⟨a, ⟨K, hK⟩, ha⟩ := h
 obtain ⟨r, ⟨K2, hK2⟩, hr⟩ := k a ha
 exact ⟨r, ⟨max K K2, fun n hn => by show (f n).bind (g n) = some r; rw [hK n (by omega), Option.bind_some]; exact hK2 n (by omega)⟩, hr⟩
theorem Gives.opt {α β : Type} {x : Option α} {a : α} {g : Nat → α → Option β} {Q : β → Prop} (h : x = some a) (k : Gives (fun n => g n a) Q) : Gives (fun n => x.bind (g n)) Q := by
 subst h; exact k
theorem Gives.step {α : Type} {f : Nat → Option α} {Q : α → Prop} (h : Gives (fun k => f (k + 1)) Q) : Gives f Q := by
 obtain ⟨r, ⟨K, hK⟩, hr⟩ := h
 refine ⟨r, ⟨K + 1, fun n hn => ?_⟩, hr⟩
 obtain ⟨m, rfl⟩ : ∃ m, n = m + 1 := ⟨n - 1, by omega⟩
 exact hK m (by omega)
theorem Gives.ite {α : Type} {c : Prop} [Decidable c] {f g : Nat → Option α} {Q : α → Prop} (h : c → Gives f Q) (k : ¬ c → Gives g Q) : Gives (fun n => if c then f n else g n) Q := by
 by_cases hc : c
 · simp only [if_pos hc]; exact h hc
 · simp only [if_neg hc]; exact k hc
theorem Gives.pos {α : Type} {c : Prop} [Decidable c] {f g : Nat → Option α} {Q : α → Prop} (hc : c) (h : Gives f Q) : Gives (fun n => if c then f n else g n) Q := by
 simp only [if_pos hc]; exact h
theorem Gives.neg {α : Type} {c : Prop} [Decidable c] {f g : Nat → Option α} {Q : α → Prop} (hc : ¬ c) (h : Gives g Q) : Gives (fun n => if c then f n else g n) Q := by
 simp only [if_neg hc]; exact h
theorem Gives.loop {S R : Type} {f : Nat → S → Option (S ⊕ R)} {Q : R → Prop} (Inv : S → Prop) (m : S → Nat)
 (h : ∀ s, Inv s → Gives (fun k => f k s) (fun x => match x with | .inl s' => Inv s' ∧ m s' < m s | .inr r => Q r)) {s : S} (hs : Inv s) : Gives (fun k => loopT (f k) k s) Q := by
 suffices H : ∀ (n : Nat) (s : S), m s < n → Inv s → ∃ r, (∃ K N, ∀ k, K ≤ k → ∀ j, N ≤ j → loopT (f k) j s = some r) ∧ Q r by
  obtain ⟨r, ⟨K, N, hK⟩, hr⟩ := H (m s + 1) s (by omega) hs
  exact ⟨r, ⟨max K N, fun k hk => hK k (by omega) k (by omega)⟩, hr⟩
 intro n
 induction n with
 | zero => intro s hs; omega
 | succ n ih =>
  intro s hs hI
  obtain ⟨x, ⟨K, hK⟩, hx⟩ := h s hI
  cases x with
  | inl s' =>
   obtain ⟨r, ⟨K2, N, hK2⟩, hr⟩ := ih s' (by have := hx.2; omega) hx.1
   refine ⟨r, ⟨max K K2, N + 1, fun k hk j hj => ?_⟩, hr⟩
   obtain ⟨j', rfl⟩ : ∃ j', j = j' + 1 := ⟨j - 1, by omega⟩
   simp only [loopT, hK k (by omega), Option.bind_some]
   exact hK2 k (by omega) j' (by omega)
  | inr r =>
   refine ⟨r, ⟨K, 1, fun k hk j hj => ?_⟩, hx⟩
   obtain ⟨j', rfl⟩ : ∃ j', j = j' + 1 := ⟨j - 1, by omega⟩
   simp only [loopT, hK k hk, Option.bind_some]
theorem Gives.true {f : Nat → Option Bool} (h : Gives f (· = true)) : ∃ k, f k = some true := by
 obtain ⟨r, ⟨K, hK⟩, hr⟩ := h
 subst hr
 exact ⟨K, hK K (Nat.le_refl _)⟩
/-- An element of a list, 0 outside of it. -/
def rd (xs : List Int) (i : Int) : Int := xs.getD i.toNat 0
theorem at_rd {xs : List Int} {i : Int} (h0 : 0 ≤ i) (h1 : i < (xs.length : Int)) : at? xs i = some (rd xs i) := by
 unfold at? rd
 rw [if_pos h0, List.getD_eq_getElem?_getD, List.getElem?_eq_getElem (by omega)]; rfl
theorem get_rd {xs : List Int} {n : Nat} (h1 : n < xs.length) : xs[n]? = some (rd xs n) := by
 unfold rd
 rw [List.getD_eq_getElem?_getD, List.getElem?_eq_getElem h1]
 simp [h1]
theorem rd_mem {xs : List Int} {i : Int} (h0 : 0 ≤ i) (h1 : i < (xs.length : Int)) : rd xs i ∈ xs := by
 unfold rd
 have h : i.toNat < xs.length := by omega
 rw [List.getD_eq_getElem?_getD, List.getElem?_eq_getElem h]; exact List.getElem_mem h
/-- All numbers are samples. -/
def Smp (xs : List Int) : Prop := ∀ v ∈ xs, -1000 ≤ v ∧ v ≤ 1000
theorem Smp.rd {xs : List Int} (h : Smp xs) (i : Int) : -1000 ≤ rd xs i ∧ rd xs i ≤ 1000 := by
 show -1000 ≤ xs.getD i.toNat 0 ∧ xs.getD i.toNat 0 ≤ 1000
 rw [List.getD_eq_getElem?_getD]
 rcases Nat.lt_or_ge i.toNat xs.length with c | c
 · rw [List.getElem?_eq_getElem c]; exact h _ (List.getElem_mem c)
 · rw [List.getElem?_eq_none c]; decide
theorem Smp.nil : Smp [] := fun _ h => by simp at h
theorem Smp.app {xs ys : List Int} (h : Smp xs) (k : Smp ys) : Smp (xs ++ ys) := fun v hv => by
 rcases List.mem_append.1 hv with h1 | h1
 · exact h v h1
 · exact k v h1
theorem Smp.one {v : Int} (h0 : -1000 ≤ v) (h1 : v ≤ 1000) : Smp [v] := fun u hu => by
 obtain rfl := List.mem_singleton.1 hu; exact ⟨h0, h1⟩
theorem Smp.take {xs : List Int} (h : Smp xs) (n : Nat) : Smp (xs.take n) := fun v hv => h v (List.mem_of_mem_take hv)
theorem Smp.drop {xs : List Int} (h : Smp xs) (n : Nat) : Smp (xs.drop n) := fun v hv => h v (List.mem_of_mem_drop hv)
theorem Smp.set {xs : List Int} (h : Smp xs) (n : Nat) {v : Int} (h0 : -1000 ≤ v) (h1 : v ≤ 1000) : Smp (xs.set n v) := fun u hu => by
 rcases List.mem_or_eq_of_mem_set hu with h2 | h2
 · exact h u h2
 · subst h2; exact ⟨h0, h1⟩
/-- A window. -/
structure Win (xs : List Int) : Prop where
 lo : 2 ≤ xs.length
 hi : xs.length ≤ 32
 smp : Smp xs

/-- A reader of numbers. -/
structure SrcOk (L : List Int) (p : Int) : Prop where
 lo : 0 ≤ p
 hi : p ≤ (L.length : Int)
 len : L.length ≤ 2000
theorem src_raw {L : List Int} {p : Int} (h : SrcOk L p) : Gives (fun k => T_keep_Src_Raw k L p) (fun r => SrcOk L r.2) := by
 obtain ⟨h0, h1, h2⟩ := h
 refine Gives.step ?_
 simp only [T_keep_Src_Raw]
 have e1 : w64 (p + 1) = p + 1 := w64_id (by omega) (by omega)
 have e2 : w64 (w64 (p + 1) - 1) = p := by rw [e1, w64_id (by omega) (by omega)]; omega
 refine Gives.ite (fun c => Gives.now ⟨h0, h1, h2⟩) fun c => ?_
 rw [e2, e1]
 exact Gives.opt (at_rd h0 (by omega)) (Gives.now ⟨by simp only []; omega, by simp only []; omega, h2⟩)
theorem src_mod (x n : Int) (h : 1 ≤ n) (hn : n ≤ 4611686018427387904) : Gives (fun k => T_keep_Mod k x n) (fun v => 0 ≤ v ∧ v < n) := by
 have h1 : Int.tmod x n < n := Int.tmod_lt_of_pos _ (by omega)
 have h2 : -n < Int.tmod x n := by
  rcases Int.le_total 0 x with c | c
  · have := Int.tmod_nonneg n c; omega
  · have h3 : Int.tmod (-x) n < n := Int.tmod_lt_of_pos _ (by omega)
    rw [Int.neg_tmod] at h3; omega
 refine Gives.step ?_
 simp only [T_keep_Mod]
 refine Gives.neg (by omega) (Gives.pos (by omega) (Gives.bind (Q := fun v => 0 ≤ v ∧ v < n) ?_ fun a ha => Gives.now ha))
 refine Gives.ite (fun c => ?_) fun c => Gives.now ⟨by omega, by omega⟩
 rw [w64_id (by omega) (by omega)]
 exact Gives.now ⟨by omega, by omega⟩
theorem src_n {L : List Int} {p : Int} (h : SrcOk L p) (n : Int) (h1 : 1 ≤ n) (hn : n ≤ 4611686018427387904) : Gives (fun k => T_keep_Src_N k n L p) (fun r => 0 ≤ r.1 ∧ r.1 < n ∧ SrcOk L r.2) := by
 refine Gives.step ?_
 simp only [T_keep_Src_N]
 exact Gives.bind (src_raw h) fun a ha => Gives.bind (src_mod a.1 n h1 hn) fun v hv => Gives.now ⟨hv.1, hv.2, ha⟩
theorem src_range {L : List Int} {p : Int} (h : SrcOk L p) (lo hi : Int) (h1 : lo ≤ hi) (h0 : -1000000000000 ≤ lo) (h2 : hi ≤ 1000000000000) : Gives (fun k => T_keep_Src_Range k lo hi L p) (fun r => lo ≤ r.1 ∧ r.1 ≤ hi ∧ SrcOk L r.2) := by
 have e1 : w64 (w64 (hi - lo) + 1) = hi - lo + 1 := by rw [w64_id (x := hi - lo) (by omega) (by omega), w64_id (by omega) (by omega)]
 refine Gives.step ?_
 simp only [T_keep_Src_Range]
 rw [e1]
 refine Gives.bind (src_n h (hi - lo + 1) (by omega) (by omega)) fun a ha => ?_
 rw [w64_id (by omega) (by omega)]
 exact Gives.now ⟨by simp only []; omega, by simp only []; omega, ha.2.2⟩
theorem src_pick {L : List Int} {p : Int} (h : SrcOk L p) (l : List Int) (h1 : 1 ≤ l.length) (h2 : l.length ≤ 1000) : Gives (fun k => T_keep_Src_Pick k l L p) (fun r => r.1 ∈ l ∧ SrcOk L r.2) := by
 refine Gives.step ?_
 simp only [T_keep_Src_Pick]
 exact Gives.bind (src_n h (l.length : Int) (by omega) (by omega)) fun a ha => Gives.opt (at_rd ha.1 ha.2.1) (Gives.now ⟨rd_mem ha.1 ha.2.1, ha.2.2⟩)
theorem src_clip (x : Int) : Gives (fun k => T_keep_clip k x) (fun _ => True) := by
 refine Gives.step ?_
 simp only [T_keep_clip]
 exact Gives.now trivial
theorem clip_smp (x : Int) : -1000 ≤ imin (imax x (-1000)) 1000 ∧ imin (imax x (-1000)) 1000 ≤ 1000 := by unfold imin imax; split <;> split <;> omega
theorem src_length {L : List Int} {p : Int} (h : SrcOk L p) : Gives (fun k => T_keep_Src_Length k L p) (fun r => 2 ≤ r.1 ∧ r.1 ≤ 32 ∧ SrcOk L r.2) := by
 refine Gives.step ?_
 simp only [T_keep_Src_Length]
 refine Gives.bind (src_n h 8 (by omega) (by omega)) fun a ha => Gives.ite (fun c => ?_) fun c => ?_
 · exact Gives.bind (src_range ha.2.2 13 32 (by omega) (by omega) (by omega)) fun b hb => Gives.now ⟨by simp only []; omega, by simp only []; omega, hb.2.2⟩
 · exact Gives.bind (src_range ha.2.2 2 12 (by omega) (by omega) (by omega)) fun b hb => Gives.now ⟨by simp only []; omega, by simp only []; omega, hb.2.2⟩
theorem drop_take_len {xs : List Int} {n : Nat} (h : xs.length = n) : (xs.drop 0).take n = xs := by rw [List.drop_zero, ← h, List.take_length]
theorem src_list {L : List Int} {p : Int} (h : SrcOk L p) (n : Int) (h1 : 2 ≤ n) (h2 : n ≤ 32) : Gives (fun k => T_keep_Src_List k n L p) (fun r => (r.1.length : Int) = n ∧ Smp r.1 ∧ SrcOk L r.2) := by
 refine Gives.step ?_
 simp only [T_keep_Src_List]
 refine Gives.bind (src_n h 6 (by omega) (by omega)) fun a ha => Gives.bind (src_pick ha.2.2 [1, 3, 10, 100, 1000] (by decide) (by decide)) fun b hb => Gives.bind (src_n hb.2 3 (by omega) (by omega)) fun c hc => ?_
 have hb1 : 1 ≤ b.1 ∧ b.1 ≤ 1000 := by have := hb.1; simp at this; omega
 have em : w64 (0 - b.1) = -b.1 := by rw [w64_id (by omega) (by omega)]; omega
 refine Gives.bind (Q := fun d => -1000 ≤ d.1 ∧ d.1 ≤ 1000 ∧ SrcOk L d.2) ?_ fun d hd => ?_
 · refine Gives.ite (fun _ => ?_) fun _ => Gives.now ⟨by simp only []; omega, by simp only []; omega, hc.2.2⟩
   exact Gives.bind (src_range hc.2.2 (-1000) 1000 (by omega) (by omega) (by omega)) fun e he => Gives.now he
 refine Gives.bind (Q := fun r => (r.1 : Int) = n ∧ r.2.2.length = r.1 ∧ Smp r.2.2 ∧ SrcOk L r.2.1) ?_ fun r hr => ?_
 · refine Gives.loop (fun s => -1000 ≤ s.1 ∧ s.1 ≤ 1000 ∧ (s.2.1 : Int) = s.2.2.1 ∧ s.2.2.1 ≤ n ∧ SrcOk L s.2.2.2.1 ∧ s.2.2.2.2.length = s.2.1 ∧ Smp s.2.2.2.2) (fun s => (n - s.2.2.1).toNat) ?_ ⟨hd.1, hd.2.1, rfl, by simp only []; omega, hd.2.2, rfl, Smp.nil⟩
   intro s ⟨i1, i2, i3, i4, i5, i6, i7⟩
   have ed : (s.2.2.2.2.drop 0).take s.2.1 = s.2.2.2.2 := drop_take_len i6
   unfold T_keep_Src_List_l1
   refine Gives.ite (fun c => ?_) fun c => Gives.now ⟨by simp only []; omega, i6, i7, i5⟩
   rw [em, ed]
   have hlim : s.2.1 + 1 ≤ LIM := by unfold LIM; omega
   refine Gives.bind (Q := fun _ => True) (Gives.ite (fun _ => Gives.now trivial) fun _ => Gives.now trivial) fun t _ => ?_
   refine Gives.bind (Q := fun r => -1000 ≤ r.1 ∧ r.1 ≤ 1000 ∧ SrcOk L r.2.1 ∧ r.2.2.length = s.2.1 + 1 ∧ Smp r.2.2) ?_ fun r hr => ?_
   · refine Gives.ite (fun _ => ?_) fun _ => ?_
     · refine Gives.bind (src_range i5 (-b.1) b.1 (by omega) (by omega) (by omega)) fun v hv => Gives.pos hlim (Gives.now ⟨i1, i2, hv.2.2, by simp [i6], i7.app (Smp.one (by omega) (by omega))⟩)
     · refine Gives.bind (Q := fun _ => True) (Gives.ite (fun _ => Gives.now trivial) fun _ => Gives.now trivial) fun t2 _ => Gives.ite (fun _ => ?_) fun _ => Gives.ite (fun _ => ?_) fun _ => ?_
       · refine Gives.bind (src_range i5 (-b.1) b.1 (by omega) (by omega) (by omega)) fun v hv => Gives.bind (src_clip _) fun _ _ => Gives.pos hlim (Gives.now ?_)
         have := clip_smp (w64 (s.1 + v.1))
         exact ⟨this.1, this.2, hv.2.2, by simp [i6], i7.app (Smp.one this.1 this.2)⟩
       · refine Gives.bind (src_n i5 4 (by omega) (by omega)) fun v hv => Gives.bind (Q := fun r => -1000 ≤ r.1 ∧ r.1 ≤ 1000 ∧ SrcOk L r.2) (Gives.ite (fun _ => ?_) fun _ => Gives.now ⟨i1, i2, hv.2.2⟩) fun u hu => Gives.pos hlim (Gives.now ⟨hu.1, hu.2.1, hu.2.2, by simp [i6], i7.app (Smp.one hu.1 hu.2.1)⟩)
         exact Gives.bind (src_range hv.2.2 (-b.1) b.1 (by omega) (by omega) (by omega)) fun e he => Gives.now ⟨by simp only []; omega, by simp only []; omega, he.2.2⟩
       · refine Gives.bind (src_pick i5 [-1000, 1000, 1000, 0] (by decide) (by decide)) fun v hv => Gives.pos hlim (Gives.now ?_)
         have : -1000 ≤ v.1 ∧ v.1 ≤ 1000 := by have := hv.1; simp at this; omega
         exact ⟨i1, i2, hv.2, by simp [i6], i7.app (Smp.one this.1 this.2)⟩
   · have ei : w64 (s.2.2.1 + 1) = s.2.2.1 + 1 := w64_id (by omega) (by omega)
     rw [ei]
     exact Gives.now ⟨⟨hr.1, hr.2.1, by simp only []; omega, by simp only []; omega, hr.2.2.1, hr.2.2.2.1, hr.2.2.2.2⟩, by simp only []; omega⟩
 · rw [drop_take_len hr.2.1]
   exact Gives.now ⟨by simp only []; omega, hr.2.2.1, hr.2.2.2⟩

theorem get_rd0 {xs : List Int} {i : Int} (h0 : 0 ≤ i) (h1 : i < (xs.length : Int)) : xs[0 + i.toNat]? = some (rd xs i) := by
 rw [Nat.zero_add, get_rd (by omega), Int.toNat_of_nonneg h0]
theorem src_near {L : List Int} {p : Int} (h : SrcOk L p) {xs : List Int} (hx : Win xs) : Gives (fun k => T_keep_Src_Near k xs L p) (fun r => r.1.length = xs.length ∧ Smp r.1 ∧ SrcOk L r.2) := by
 have l1 := hx.lo
 have l2 := hx.hi
 refine Gives.step ?_
 simp only [T_keep_Src_Near]
 refine Gives.bind (src_n h 7 (by omega) (by omega)) fun a ha => Gives.bind (src_range ha.2.2 (-20) 20 (by omega) (by omega) (by omega)) fun b hb => Gives.bind (src_range hb.2.2 1 3 (by omega) (by omega) (by omega)) fun c hc => Gives.pos (by unfold LIM; omega) ?_
 refine Gives.bind (Q := fun r => r.2.length = xs.length ∧ Smp r.2 ∧ SrcOk L r.1) ?_ fun r hr => ?_
 · refine Gives.loop (fun s => 0 ≤ s.1 ∧ s.1 ≤ (xs.length : Int) ∧ SrcOk L s.2.1 ∧ s.2.2.length = xs.length ∧ Smp s.2.2) (fun s => ((xs.length : Int) - s.1).toNat) ?_ ⟨by simp only []; omega, by simp only []; omega, hc.2.2, by simp, by simpa using hx.smp⟩
   intro s ⟨i1, i2, i3, i4, i5⟩
   unfold T_keep_Src_Near_l1
   refine Gives.ite (fun cc => ?_) fun cc => Gives.now ⟨i4, i5, i3⟩
   have g : (0 : Int) ≤ s.1 ∧ s.1 < ((0 + xs.length : Nat) : Int) := ⟨i1, cc⟩
   have g2 : s.1 < (xs.length : Int) := by omega
   refine Gives.bind (Q := fun r => SrcOk L r.1 ∧ r.2.length = xs.length ∧ Smp r.2) ?_ fun r hr => ?_
   · refine Gives.ite (fun _ => Gives.pos g (Gives.opt (get_rd0 i1 (by omega)) ?_)) fun _ => Gives.ite (fun _ => Gives.pos g (Gives.opt (get_rd0 i1 (by omega)) ?_)) fun _ => Gives.ite (fun _ => Gives.pos g (Gives.opt (get_rd0 i1 (by omega)) ?_)) fun _ =>
      Gives.ite (fun _ => ?_) fun _ => Gives.ite (fun _ => ?_) fun _ => Gives.ite (fun _ => Gives.pos g (Gives.opt (get_rd0 i1 (by omega)) ?_)) fun _ => Gives.now ⟨i3, i4, i5⟩
     · refine Gives.bind (src_range i3 (-2) 2 (by omega) (by omega) (by omega)) fun v hv => Gives.bind (src_clip _) fun _ _ => Gives.now ?_
       have := clip_smp (w64 (rd s.2.2 s.1 + v.1))
       exact ⟨hv.2.2, by simp [i4], i5.set _ this.1 this.2⟩
     · refine Gives.bind (src_clip _) fun _ _ => Gives.now ?_
       have := clip_smp (w64 (rd s.2.2 s.1 + b.1))
       exact ⟨i3, by simp [i4], i5.set _ this.1 this.2⟩
     · refine Gives.bind (src_clip _) fun _ _ => Gives.now ?_
       have := clip_smp (w64 (w64 (rd s.2.2 s.1 * c.1) + b.1))
       exact ⟨i3, by simp [i4], i5.set _ this.1 this.2⟩
     · have e : w64 (w64 ((xs.length : Int) - 1) - s.1) = (xs.length : Int) - 1 - s.1 := by rw [w64_id (x := (xs.length : Int) - 1) (by omega) (by omega), w64_id (by omega) (by omega)]
       rw [e]
       refine Gives.opt (at_rd (by omega) (by omega)) (Gives.pos g (Gives.now ?_))
       have := hx.smp.rd ((xs.length : Int) - 1 - s.1)
       exact ⟨i3, by simp [i4], i5.set _ this.1 this.2⟩
     · refine Gives.bind (src_range i3 (-1) 1 (by omega) (by omega) (by omega)) fun v hv => Gives.bind (src_mod _ (xs.length : Int) (by omega) (by omega)) fun u hu => Gives.opt (at_rd hu.1 hu.2) (Gives.pos g (Gives.now ?_))
       have := hx.smp.rd u
       exact ⟨hv.2.2, by simp [i4], i5.set _ this.1 this.2⟩
     · refine Gives.bind (src_clip _) fun _ _ => Gives.now ?_
       have := clip_smp (w64 (b.1 - w64 (rd s.2.2 s.1 * c.1)))
       exact ⟨i3, by simp [i4], i5.set _ this.1 this.2⟩
   · have ei : w64 (s.1 + 1) = s.1 + 1 := w64_id (by omega) (by omega)
     rw [ei]
     exact Gives.now ⟨⟨by simp only []; omega, by simp only []; omega, hr.1, hr.2.1, hr.2.2⟩, by simp only []; omega⟩
 · rw [drop_take_len (by rw [hr.1, Nat.zero_add])]
   exact Gives.now ⟨hr.1, hr.2.1, hr.2.2⟩
theorem src_pair {L : List Int} {p : Int} (h : SrcOk L p) : Gives (fun k => T_keep_Src_Pair k L p) (fun r => Win r.1 ∧ Win r.2.1 ∧ r.1.length = r.2.1.length ∧ SrcOk L r.2.2) := by
 refine Gives.step ?_
 simp only [T_keep_Src_Pair]
 refine Gives.bind (src_length h) fun a ha => Gives.bind (src_list ha.2.2 a.1 ha.1 ha.2.1) fun b hb => ?_
 have wb : Win b.1 := ⟨by omega, by omega, hb.2.1⟩
 refine Gives.bind (src_n hb.2.2 3 (by omega) (by omega)) fun c hc => Gives.ite (fun _ => ?_) fun _ => ?_
 · refine Gives.bind (src_list hc.2.2 (b.1.length : Int) (by omega) (by omega)) fun d hd => Gives.now ⟨wb, ⟨?_, ?_, hd.2.1⟩, ?_, hd.2.2⟩ <;> simp only [] <;> omega
 · refine Gives.bind (src_near hc.2.2 wb) fun d hd => Gives.now ⟨wb, ⟨?_, ?_, hd.2.1⟩, ?_, hd.2.2⟩ <;> simp only [] <;> omega
/-- Two windows, and a band that they fit. -/
structure Fits (xs ys : List Int) (b : Int) : Prop where
 wx : Win xs
 wy : Win ys
 lo : 0 ≤ b
 hi : b ≤ 32
 ab : (xs.length : Int) - ys.length ≤ b
 ba : (ys.length : Int) - xs.length ≤ b
theorem src_uneven {L : List Int} {p : Int} (h : SrcOk L p) : Gives (fun k => T_keep_Src_Uneven k L p) (fun r => Fits r.1 r.2.1 r.2.2.1 ∧ SrcOk L r.2.2.2) := by
 refine Gives.step ?_
 simp only [T_keep_Src_Uneven]
 refine Gives.bind (src_pair h) fun a ha => ?_
 obtain ⟨a1, a2, a3, a4⟩ := ha
 have q1 := a1.lo
 have q2 := a1.hi
 refine Gives.bind (src_n a4 2 (by omega) (by omega)) fun b hb => ?_
 refine Gives.bind (Q := fun r => Win r.1 ∧ r.1.length ≤ a.1.length ∧ SrcOk L r.2) ?_ fun r hr => ?_
 · refine Gives.ite (fun _ => ?_) fun _ => Gives.now ⟨a2, by simp only []; omega, hb.2.2⟩
   refine Gives.bind (src_range hb.2.2 2 (a.2.1.length : Int) (by omega) (by omega) (by omega)) fun c hc => Gives.pos (by omega) (Gives.now ⟨⟨?_, ?_, ?_⟩, ?_, hc.2.2⟩)
   · simp; omega
   · simp; omega
   · simpa using a2.smp.take _
   · simp; omega
 obtain ⟨r1, r2, r3⟩ := hr
 have t1 := r1.lo
 refine Gives.bind (src_n r3 4 (by omega) (by omega)) fun c hc => Gives.bind (src_n hc.2.2 5 (by omega) (by omega)) fun d hd => ?_
 refine Gives.bind (Q := fun v => (a.1.length : Int) - r.1.length ≤ v ∧ 0 ≤ v ∧ v ≤ 32) ?_ fun v hv => ?_
 · refine Gives.ite (fun _ => Gives.now ⟨by omega, by omega, by omega⟩) fun _ => ?_
   rw [w64_id (x := (a.1.length : Int) - r.1.length) (by omega) (by omega), w64_id (by omega) (by omega)]
   refine Gives.now ?_
   unfold imin
   split <;> omega
 refine Gives.bind (src_n hd.2.2 2 (by omega) (by omega)) fun e he => Gives.ite (fun _ => ?_) fun _ => ?_
 · exact Gives.now ⟨⟨r1, a1, hv.2.1, hv.2.2, by simp only []; omega, by simp only []; omega⟩, he.2.2⟩
 · exact Gives.now ⟨⟨a1, r1, hv.2.1, hv.2.2, by simp only []; omega, by simp only []; omega⟩, he.2.2⟩
theorem src_new (l : List Int) : SrcOk ((l.drop 0).take ((imin (l.length : Int) 2000).toNat - 0)) 0 ∧ Gives (fun k => T_keep_New k l) (fun _ => True) := by
 have h1 : 0 ≤ imin (l.length : Int) 2000 := by unfold imin; split <;> omega
 have h2 : imin (l.length : Int) 2000 ≤ l.length := by unfold imin; split <;> omega
 have h3 : imin (l.length : Int) 2000 ≤ 2000 := by unfold imin; split <;> omega
 refine ⟨⟨by omega, by omega, ?_⟩, ?_⟩
 · simp; omega
 · refine Gives.step ?_
   simp only [T_keep_New]
   exact Gives.pos (by omega) (Gives.now trivial)
/-! The distance of chapter 12. -/
theorem eu_samples {xs : List Int} (h : Win xs) : Gives (fun k => T_euclid_samples k xs) (· = true) := by
 have h2 := h.hi
 refine Gives.step ?_
 simp only [T_euclid_samples]
 refine Gives.bind (Q := fun r => r = .inl ()) ?_ fun r hr => by subst hr; exact Gives.now rfl
 refine Gives.loop (fun s => 0 ≤ s ∧ s ≤ (xs.length : Int)) (fun s => ((xs.length : Int) - s).toNat) ?_ ⟨by omega, by omega⟩
 intro s ⟨i1, i2⟩
 unfold T_euclid_samples_l1
 refine Gives.ite (fun c => Gives.opt (at_rd i1 c) ?_) fun c => Gives.now rfl
 have := h.smp.rd s
 refine Gives.neg (by simp; omega) ?_
 rw [w64_id (by omega) (by omega)]
 exact Gives.now ⟨⟨by omega, by omega⟩, by omega⟩
theorem eu_len (xs : List Int) : Gives (fun k => T_euclid_length k xs) (fun _ => True) := by
 refine Gives.step ?_
 simp only [T_euclid_length]
 exact Gives.now trivial
theorem eu_check {xs ys : List Int} (hx : Win xs) (hy : Win ys) (hl : xs.length = ys.length) : Gives (fun k => T_euclid_check k xs ys) (· = 0) := by
 have x1 := hx.lo
 have x2 := hx.hi
 refine Gives.step ?_
 simp only [T_euclid_check]
 refine Gives.bind (Q := fun b => b = false) ?_ fun b hb => ?_
 · refine Gives.bind (eu_len xs) fun _ _ => Gives.neg (by simp; omega) ?_
   refine Gives.bind (eu_len ys) fun _ _ => Gives.now ?_
   simp; omega
 subst hb
 refine Gives.neg (by simp) ?_
 refine Gives.bind (Q := fun b => b = false) ?_ fun b hb => ?_
 · refine Gives.bind (eu_samples hx) fun u hu => ?_
   subst hu
   refine Gives.neg (by simp) (Gives.bind (eu_samples hy) fun u hu => ?_)
   subst hu
   exact Gives.now rfl
 subst hb
 refine Gives.neg (by simp) (Gives.neg (by simp [hl]) (Gives.now rfl))
theorem eu_square {xs ys : List Int} (hx : Win xs) (hl : xs.length = ys.length) : Gives (fun k => T_euclid_square k xs ys) (fun _ => True) := by
 have x2 := hx.hi
 refine Gives.step ?_
 simp only [T_euclid_square]
 refine Gives.bind (Q := fun _ => True) ?_ fun r hr => Gives.now trivial
 refine Gives.loop (fun s => 0 ≤ s.2 ∧ s.2 ≤ (xs.length : Int)) (fun s => ((xs.length : Int) - s.2).toNat) ?_ ⟨by simp only []; omega, by simp only []; omega⟩
 intro s ⟨i1, i2⟩
 unfold T_euclid_square_l1
 refine Gives.ite (fun c => Gives.opt (at_rd i1 c) (Gives.opt (at_rd i1 (by omega)) ?_)) fun c => Gives.now trivial
 rw [w64_id (x := s.2 + 1) (by omega) (by omega)]
 exact Gives.now ⟨⟨by simp only []; omega, by simp only []; omega⟩, by simp only []; omega⟩
theorem eu_distance {xs ys : List Int} (hx : Win xs) (hy : Win ys) (hl : xs.length = ys.length) : Gives (fun k => T_euclid_Distance k xs ys) (fun r => r.2 = 0) := by
 refine Gives.step ?_
 simp only [T_euclid_Distance]
 refine Gives.bind (eu_check hx hy hl) fun e he => ?_
 subst he
 exact Gives.neg (by simp) (Gives.bind (eu_square hx hl) fun v _ => Gives.now rfl)

/-- A part of a row. -/
def qu (off len : Nat) (row : List Int) : List Int := (row.drop off).take len
theorem qu_len {off len : Nat} {row : List Int} (h : off + len ≤ row.length) : (qu off len row).length = len := by unfold qu; simp; omega
theorem qu_get {off len m : Nat} {row : List Int} (h : off + len ≤ row.length) (hm : m < len) : row[off + m]? = some (rd (qu off len row) m) := by
 have e : (qu off len row)[m]? = row[off + m]? := by
  unfold qu
  rw [List.getElem?_take, if_pos hm, List.getElem?_drop]
 rw [← e]
 exact get_rd (by rw [qu_len h]; exact hm)

/-- The numbers of a queue's samples ascend, and the samples themselves fall off. -/
structure QOkA (x : List Int) (nx : Int) (Q : List Int) : Prop where
 mem : ∀ q ∈ Q, 0 ≤ q ∧ q < nx
 dec : Q.Pairwise (fun a b => a < b ∧ (rd x b < rd x a))
/-- Each sample from lo on is covered by one in the queue that does not stand before it. -/
def CovA (x : List Int) (lo nx : Int) (Q : List Int) : Prop := ∀ i, 0 ≤ i → lo ≤ i → i < nx → ∃ q ∈ Q, i ≤ q ∧ (rd x i ≤ rd x q)
/-- The best sample that a place looks at. -/
def BestA (x : List Int) (band j v : Int) : Prop :=
 (∃ i, 0 ≤ i ∧ i < (x.length : Int) ∧ j - band ≤ i ∧ i ≤ j + band ∧ rd x i = v) ∧ ∀ i, 0 ≤ i → i < (x.length : Int) → j - band ≤ i → i ≤ j + band → (rd x i ≤ v)
theorem rd_pairA {x Q : List Int} {nx : Int} (h : QOkA x nx Q) {a b : Nat} (hab : a < b) (hb : b < Q.length) : rd Q a < rd Q b ∧ (rd x (rd Q b) < rd x (rd Q a)) := by
 have := List.pairwise_iff_getElem.1 h.dec a b (by omega) hb hab
 have e1 : rd Q (a : Int) = Q[a]'(by omega) := by unfold rd; rw [List.getD_eq_getElem?_getD]; simp [show a < Q.length by omega]
 have e2 : rd Q (b : Int) = Q[b] := by unfold rd; rw [List.getD_eq_getElem?_getD]; simp [hb]
 rw [e1, e2]; exact this
theorem ex_l1A {x row : List Int} {off len : Nat} {nx p2 c1 c2 c3 : Int} {c0 : Nat} {c4 : List Int} (hq : off + len ≤ row.length) (hl : len ≤ 1000) (hQ : ∀ q ∈ qu off len row, 0 ≤ q ∧ q < (x.length : Int)) (h0 : 0 ≤ nx) (h1 : nx < (x.length : Int)) :
 Gives (fun k => loopT (T_envelope_extremes_l1 k x p2 c0 c1 c2 c3 c4 off len nx row) k (len : Int)) (fun n => 0 ≤ n ∧ n ≤ len ∧ (∀ m : Nat, n ≤ (m : Int) → m < len → ¬ (rd x nx < rd x (rd (qu off len row) m))) ∧ (n = 0 ∨ (rd x nx < rd x (rd (qu off len row) (n - 1))))) := by
 refine Gives.loop (fun s => 0 ≤ s ∧ s ≤ (len : Int) ∧ ∀ m : Nat, s ≤ (m : Int) → m < len → ¬ (rd x nx < rd x (rd (qu off len row) m))) (fun s => s.toNat) ?_ ⟨by omega, by omega, fun m h1 h2 => by omega⟩
 intro s ⟨i1, i2, i3⟩
 unfold T_envelope_extremes_l1
 refine Gives.bind (Q := fun b => (b = true → 0 < s ∧ ¬ (rd x nx < rd x (rd (qu off len row) (s - 1)))) ∧ (b = false → s = 0 ∨ (rd x nx < rd x (rd (qu off len row) (s - 1))))) ?_ fun b hb => ?_
 · refine Gives.ite (fun c => ?_) fun c => Gives.now ⟨(fun h => by cases h), fun _ => .inl (by omega)⟩
   have e : w64 (s - 1) = s - 1 := w64_id (by omega) (by omega)
   rw [e]
   have g := qu_get (m := (s - 1).toNat) hq (by omega)
   rw [Int.toNat_of_nonneg (by omega)] at g
   refine Gives.pos (by omega) (Gives.opt g ?_)
   have hm : rd (qu off len row) (s - 1) ∈ qu off len row := rd_mem (by omega) (by rw [qu_len hq]; omega)
   obtain ⟨k1, k2⟩ := hQ _ hm
   refine Gives.opt (at_rd k1 k2) (Gives.opt (at_rd h0 h1) (Gives.bind (Q := fun _ => True) ?_ fun _ _ => Gives.now ⟨fun h => ⟨c, by simpa using h⟩, fun h => .inr (by simpa using h)⟩))
   refine Gives.step ?_
   simp only [T_envelope_of_1]
   exact Gives.now trivial
 · cases b with
   | true =>
    obtain ⟨k1, k2⟩ := hb.1 rfl
    refine Gives.pos rfl ?_
    rw [w64_id (by omega) (by omega)]
    refine Gives.now ⟨⟨by omega, by omega, fun m h1 h2 => ?_⟩, by omega⟩
    by_cases c : s ≤ (m : Int)
    · exact i3 m c h2
    · have : (m : Int) = s - 1 := by omega
      rw [this]; exact k2
   | false => exact Gives.neg (by simp) (Gives.now ⟨i1, i2, i3, hb.2 rfl⟩)
theorem ex_l2A {x : List Int} {p2 j lo : Int} {c0 : Nat} {c1 c3 : Int} {c4 : List Int} (hx : x.length ≤ 32) (hj : 0 ≤ j) (hj2 : j ≤ 1000) (hp : 0 ≤ p2) (hp2 : p2 ≤ 1000) {s : Nat × Nat × Int × List Int}
 (hs : s.1 + s.2.1 ≤ s.2.2.2.length ∧ (s.2.1 : Int) ≤ s.2.2.1 ∧ 0 ≤ s.2.2.1 ∧ s.2.2.1 ≤ (x.length : Int) ∧ s.2.2.1 ≤ j + p2 + 1 ∧ QOkA x s.2.2.1 (qu s.1 s.2.1 s.2.2.2) ∧ CovA x lo s.2.2.1 (qu s.1 s.2.1 s.2.2.2)) :
 Gives (fun k => loopT (T_envelope_extremes_l2 k x p2 c0 c1 j c3 c4) k s) (fun s => (s.1 + s.2.1 ≤ s.2.2.2.length ∧ (s.2.1 : Int) ≤ s.2.2.1 ∧ 0 ≤ s.2.2.1 ∧ s.2.2.1 ≤ (x.length : Int) ∧ s.2.2.1 ≤ j + p2 + 1 ∧ QOkA x s.2.2.1 (qu s.1 s.2.1 s.2.2.2) ∧ CovA x lo s.2.2.1 (qu s.1 s.2.1 s.2.2.2)) ∧ ((x.length : Int) ≤ s.2.2.1 ∨ j + p2 < s.2.2.1)) := by
 refine Gives.loop (fun s => s.1 + s.2.1 ≤ s.2.2.2.length ∧ (s.2.1 : Int) ≤ s.2.2.1 ∧ 0 ≤ s.2.2.1 ∧ s.2.2.1 ≤ (x.length : Int) ∧ s.2.2.1 ≤ j + p2 + 1 ∧ QOkA x s.2.2.1 (qu s.1 s.2.1 s.2.2.2) ∧ CovA x lo s.2.2.1 (qu s.1 s.2.1 s.2.2.2)) (fun s => ((x.length : Int) - s.2.2.1).toNat) ?_ hs
 clear hs s
 intro ⟨off, len, nx, row⟩ ⟨i1, i2, i3, i4, i5, i6, i7⟩
 simp only at i1 i2 i3 i4 i5 i6 i7
 unfold T_envelope_extremes_l2
 simp only []
 rw [w64_id (x := j + p2) (by omega) (by omega)]
 by_cases c : nx < (x.length : Int) ∧ nx ≤ j + p2
 · refine Gives.pos (by simpa using c) ?_
   refine Gives.bind (ex_l1A i1 (by omega) (fun q hq => by have := i6.mem q hq; omega) i3 c.1) fun n hn => ?_
   obtain ⟨n1, n2, n3, n4⟩ := hn
   refine Gives.pos (by omega) (Gives.pos (by unfold LIM; omega) ?_)
   rw [w64_id (x := nx + 1) (by omega) (by omega)]
   have hQl := qu_len i1
   have e1 : (row.drop (off + 0)).take (n.toNat - 0) = (qu off len row).take n.toNat := by
    unfold qu
    rw [List.take_take, Nat.add_zero, Nat.sub_zero, Nat.min_eq_left (by omega)]
   rw [e1]
   have hrl : ((qu off len row).take n.toNat ++ [nx]).length = n.toNat - 0 + 1 := by simp [hQl]; omega
   have e2 : qu 0 (n.toNat - 0 + 1) ((qu off len row).take n.toNat ++ [nx]) = (qu off len row).take n.toNat ++ [nx] := by
    rw [← hrl]
    unfold qu
    rw [List.drop_zero, List.take_length]
   have key : ∀ a ∈ (qu off len row).take n.toNat, a < nx ∧ (rd x nx < rd x a) := by
    intro a ha
    obtain ⟨i, hi, rfl⟩ := List.getElem_of_mem ha
    have hi' : i < n.toNat := by simp at hi; omega
    have e3 : ((qu off len row).take n.toNat)[i] = rd (qu off len row) i := by
     have hiq : i < (qu off len row).length := by omega
     unfold rd
     rw [List.getD_eq_getElem?_getD, List.getElem_take]
     simp [hiq]
    rw [e3]
    have hlast : (rd x nx < rd x (rd (qu off len row) (n - 1))) := n4.resolve_left (by omega)
    have hm : rd (qu off len row) (i : Int) ∈ qu off len row := rd_mem (by omega) (by omega)
    refine ⟨(i6.mem _ hm).2, ?_⟩
    by_cases c2 : (i : Int) = n - 1
    · rw [c2]; exact hlast
    · have := (rd_pairA i6 (a := i) (b := (n - 1).toNat) (by omega) (by omega)).2
      rw [Int.toNat_of_nonneg (by omega)] at this
      omega
   refine Gives.now ⟨⟨?_, ?_, ?_, ?_, ?_, ⟨fun q hq => ?_, ?_⟩, fun i h1 h2 h3 => ?_⟩, ?_⟩
   · simp only []; omega
   · simp only []; omega
   · simp only []; omega
   · simp only []; omega
   · simp only []; omega
   · show 0 ≤ q ∧ q < nx + 1
     simp only [e2] at hq
     rcases List.mem_append.1 hq with hq | hq
     · have := i6.mem q (List.mem_of_mem_take hq); omega
     · simp at hq; omega
   · simp only [e2]
     refine List.pairwise_append.2 ⟨i6.dec.sublist (List.take_sublist _ _), by simp, fun a ha b hb => ?_⟩
     simp at hb
     subst hb
     exact key a ha
   · simp only [e2]
     by_cases c2 : i = nx
     · exact ⟨nx, by simp, by omega, by subst c2; omega⟩
     · obtain ⟨q, hq, hq1, hq2⟩ := i7 i h1 h2 (by simp only at h3; omega)
       obtain ⟨m, hm, rfl⟩ := List.getElem_of_mem hq
       have e3 : (qu off len row)[m] = rd (qu off len row) m := by
        unfold rd
        rw [List.getD_eq_getElem?_getD]
        simp [hm]
       rw [e3] at hq1 hq2
       by_cases c3 : n ≤ (m : Int)
       · have := n3 m c3 (by omega)
         exact ⟨nx, by simp, by simp only at h3; omega, by omega⟩
       · refine ⟨rd (qu off len row) m, List.mem_append_left _ ?_, hq1, hq2⟩
         rw [← e3]
         exact List.mem_take_iff_getElem.2 ⟨m, by omega, rfl⟩
   · simp only []; omega
 · refine Gives.neg (by simpa using c) (Gives.now ⟨⟨i1, i2, i3, i4, i5, i6, i7⟩, by simp only []; omega⟩)
theorem ex_l3A {x row : List Int} {p2 j nx : Int} {c0 : Nat} {c1 c2 c3 : Int} {c4 : List Int} (hj : 0 ≤ j) (hj2 : j ≤ 1000) (hp : 0 ≤ p2) (hp2 : p2 ≤ 1000) (hnx : nx ≤ 32) (h0 : 0 < nx) (h1 : j - p2 < nx) {s : Nat × Nat}
 (hs : s.1 + s.2 ≤ row.length ∧ (s.2 : Int) ≤ nx ∧ QOkA x nx (qu s.1 s.2 row) ∧ CovA x (j - p2) nx (qu s.1 s.2 row)) :
 Gives (fun k => loopT (T_envelope_extremes_l3 k x p2 c0 c1 c2 j c3 row c4) k s) (fun s => (s.1 + s.2 ≤ row.length ∧ (s.2 : Int) ≤ nx ∧ QOkA x nx (qu s.1 s.2 row) ∧ CovA x (j - p2) nx (qu s.1 s.2 row)) ∧ 0 < s.2 ∧ j - p2 ≤ rd (qu s.1 s.2 row) 0) := by
 refine Gives.loop (fun s => s.1 + s.2 ≤ row.length ∧ (s.2 : Int) ≤ nx ∧ QOkA x nx (qu s.1 s.2 row) ∧ CovA x (j - p2) nx (qu s.1 s.2 row)) (fun s => s.2) ?_ hs
 clear hs s
 intro ⟨off, len⟩ ⟨i1, i2, i3, i4⟩
 simp only at i1 i2 i3 i4
 unfold T_envelope_extremes_l3
 simp only []
 have hQl := qu_len i1
 have hpos : 0 < len := by
  obtain ⟨q, hq, _⟩ := i4 (if j - p2 < 0 then 0 else j - p2) (by split <;> omega) (by split <;> omega) (by split <;> omega)
  have := List.length_pos_of_mem hq
  omega
 have g := qu_get (m := 0) i1 hpos
 refine Gives.pos (by omega) (Gives.opt g ?_)
 rw [w64_id (x := j - p2) (by omega) (by omega)]
 refine Gives.ite (fun c => Gives.pos (by omega) ?_) fun c => Gives.now ⟨⟨i1, i2, i3, i4⟩, hpos, by simp only [] at c ⊢; simpa using c⟩
 have eq : qu off len row = rd (qu off len row) 0 :: qu (off + 1) (len - 1) row := by
  obtain ⟨l', rfl⟩ : ∃ l', len = l' + 1 := ⟨len - 1, by omega⟩
  have hc : qu off (l' + 1) row = row[off]'(by omega) :: qu (off + 1) l' row := by
   unfold qu
   rw [List.drop_eq_getElem_cons (by omega), List.take_succ_cons]
  rw [hc]
  rfl
 have hsub : ∀ q ∈ qu (off + 1) (len - 1) row, q ∈ qu off len row := fun q hq => by rw [eq]; exact List.mem_cons_of_mem _ hq
 refine Gives.now ⟨⟨?_, ?_, ⟨fun q hq => i3.mem q (hsub q ?_), ?_⟩, fun i h1 h2 h3 => ?_⟩, ?_⟩
 · simp only []; omega
 · simp only []; omega
 · simpa using hq
 · have := i3.dec
   rw [eq] at this
   simpa using (List.pairwise_cons.1 this).2
 · obtain ⟨q, hq, hq1, hq2⟩ := i4 i h1 h2 h3
   rw [eq] at hq
   rcases List.mem_cons.1 hq with hq | hq
   · exfalso
     have c : rd (qu off len row) ((0 : Nat) : Int) < j - p2 := c
     have : rd (qu off len row) ((0 : Nat) : Int) = rd (qu off len row) 0 := rfl
     omega
   · exact ⟨q, by simpa using hq, hq1, hq2⟩
 · simp only []; omega
theorem ex_okA {x : List Int} {p2 n : Int} (hx : Win x) (hp : 0 ≤ p2) (hp2 : p2 ≤ 32) (hn : 0 ≤ n) (hn2 : n ≤ 32) (hf : n - (x.length : Int) ≤ p2) :
 Gives (fun k => T_envelope_extremes k x p2 n) (fun r => (r.length : Int) = n ∧ ∀ j, 0 ≤ j → j < n → BestA x p2 j (rd r j)) := by
 have x1 := hx.lo
 have x2 := hx.hi
 refine Gives.step ?_
 simp only [T_envelope_extremes]
 refine Gives.pos (by unfold LIM; omega) (Gives.bind (Q := fun r => r.length = n.toNat ∧ ∀ j, 0 ≤ j → j < n → BestA x p2 j (rd r j)) ?_ fun r hr => ?_)
 · refine Gives.loop (fun s => s.1 + s.2.1 ≤ s.2.2.2.2.1.length ∧ (s.2.1 : Int) ≤ s.2.2.1 ∧ 0 ≤ s.2.2.1 ∧ s.2.2.1 ≤ (x.length : Int) ∧ 0 ≤ s.2.2.2.1 ∧ s.2.2.2.1 ≤ n ∧ s.2.2.1 ≤ s.2.2.2.1 + p2 ∧ QOkA x s.2.2.1 (qu s.1 s.2.1 s.2.2.2.2.1) ∧ CovA x (s.2.2.2.1 - 1 - p2) s.2.2.1 (qu s.1 s.2.1 s.2.2.2.2.1) ∧
    s.2.2.2.2.2.length = n.toNat ∧ ∀ j, 0 ≤ j → j < s.2.2.2.1 → BestA x p2 j (rd s.2.2.2.2.2 j)) (fun s => (n - s.2.2.2.1).toNat) ?_ ?_
   · intro ⟨off, len, nx, j, row, out⟩ ⟨i1, i2, i3, i4, i5, i6, i7, i8, i9, i10, i11⟩
     simp only at i1 i2 i3 i4 i5 i6 i7 i8 i9 i10 i11
     unfold T_envelope_extremes_l4
     simp only []
     refine Gives.ite (fun c => ?_) fun c => Gives.now ⟨i10, fun j' h1 h2 => i11 j' h1 (by omega)⟩
     refine Gives.bind (ex_l2A (lo := j - 1 - p2) x2 i5 (by omega) hp (by omega) ⟨i1, i2, i3, i4, by simp only []; omega, i8, i9⟩) fun a ha => ?_
     obtain ⟨⟨a1, a2, a3, a4, a5, a6, a7⟩, a8⟩ := ha
     have hi0 : j - p2 < a.2.2.1 ∧ 0 < a.2.2.1 := by omega
     refine Gives.bind (ex_l3A (x := x) (nx := a.2.2.1) i5 (by omega) hp (by omega) (by omega) hi0.2 hi0.1 ⟨a1, a2, a6, fun i h1 h2 h3 => a7 i h1 (by omega) h3⟩) fun b hb => ?_
     obtain ⟨⟨b1, b2, b3, b4⟩, b5, b6⟩ := hb
     have g := qu_get (m := 0) b1 b5
     have hQl := qu_len b1
     have hm : rd (qu b.1 b.2 a.2.2.2) 0 ∈ qu b.1 b.2 a.2.2.2 := rd_mem (by omega) (by rw [hQl]; omega)
     obtain ⟨m1, m2⟩ := b3.mem _ hm
     refine Gives.pos (by omega) (Gives.opt g (Gives.opt (at_rd (xs := x) (i := rd (qu b.1 b.2 a.2.2.2) 0) m1 (by omega)) (Gives.pos (by omega) ?_)))
     rw [w64_id (x := j + 1) (by omega) (by omega)]
     refine Gives.now ⟨⟨b1, b2, a3, a4, ?_, ?_, ?_, b3, fun i h1 h2 h3 => b4 i h1 (by simp only at h2; omega) h3, ?_, fun j' h1 h2 => ?_⟩, ?_⟩
     · simp only []; omega
     · simp only []; omega
     · simp only []; omega
     · simp [i10]
     · simp only at h2
       by_cases cj : j' = j
       · subst cj
         have : rd (out.set (0 + j'.toNat) (rd x (rd (qu b.1 b.2 a.2.2.2) 0))) j' = rd x (rd (qu b.1 b.2 a.2.2.2) 0) := by
          unfold rd
          rw [Nat.zero_add, List.getD_eq_getElem?_getD, List.getElem?_set_self (by omega)]; rfl
         simp only [this]
         refine ⟨⟨_, m1, by omega, b6, by omega, rfl⟩, fun i k1 k2 k3 k4 => ?_⟩
         obtain ⟨q, hq, q1, q2⟩ := b4 i k1 k3 (by omega)
         obtain ⟨m, hm2, rfl⟩ := List.getElem_of_mem hq
         have e3 : (qu b.1 b.2 a.2.2.2)[m] = rd (qu b.1 b.2 a.2.2.2) m := by
          unfold rd
          rw [List.getD_eq_getElem?_getD]
          simp [hm2]
         rw [e3] at q2
         by_cases c0 : m = 0
         · subst c0; exact q2
         · have := (rd_pairA b3 (a := 0) (b := m) (by omega) hm2).2
           have e0 : ((0 : Nat) : Int) = 0 := rfl
           rw [e0] at this
           omega
       · have : rd (out.set (0 + j.toNat) (rd x (rd (qu b.1 b.2 a.2.2.2) 0))) j' = rd out j' := by
          unfold rd
          rw [Nat.zero_add, List.getD_eq_getElem?_getD, List.getElem?_set_ne (by omega), List.getD_eq_getElem?_getD]
         simp only [this]
         exact i11 j' h1 (by omega)
     · simp only []; omega
   · refine ⟨by simp, by simp, by simp, by simp, by simp, by simpa using hn, by simpa using hp, ⟨fun q hq => by simp [qu] at hq, by simp [qu]⟩, fun i h1 h2 h3 => by simp only at h3; omega, by simp, fun j h1 h2 => by simp only at h2; omega⟩
 · rw [drop_take_len hr.1]
   exact Gives.now ⟨by rw [hr.1]; omega, hr.2⟩

/-- The numbers of a queue's samples ascend, and the samples themselves fall off. -/
structure QOkB (x : List Int) (nx : Int) (Q : List Int) : Prop where
 mem : ∀ q ∈ Q, 0 ≤ q ∧ q < nx
 dec : Q.Pairwise (fun a b => a < b ∧ (rd x a < rd x b))
/-- Each sample from lo on is covered by one in the queue that does not stand before it. -/
def CovB (x : List Int) (lo nx : Int) (Q : List Int) : Prop := ∀ i, 0 ≤ i → lo ≤ i → i < nx → ∃ q ∈ Q, i ≤ q ∧ (rd x q ≤ rd x i)
/-- The best sample that a place looks at. -/
def BestB (x : List Int) (band j v : Int) : Prop :=
 (∃ i, 0 ≤ i ∧ i < (x.length : Int) ∧ j - band ≤ i ∧ i ≤ j + band ∧ rd x i = v) ∧ ∀ i, 0 ≤ i → i < (x.length : Int) → j - band ≤ i → i ≤ j + band → (v ≤ rd x i)
theorem rd_pairB {x Q : List Int} {nx : Int} (h : QOkB x nx Q) {a b : Nat} (hab : a < b) (hb : b < Q.length) : rd Q a < rd Q b ∧ (rd x (rd Q a) < rd x (rd Q b)) := by
 have := List.pairwise_iff_getElem.1 h.dec a b (by omega) hb hab
 have e1 : rd Q (a : Int) = Q[a]'(by omega) := by unfold rd; rw [List.getD_eq_getElem?_getD]; simp [show a < Q.length by omega]
 have e2 : rd Q (b : Int) = Q[b] := by unfold rd; rw [List.getD_eq_getElem?_getD]; simp [hb]
 rw [e1, e2]; exact this
theorem ex_l1B {x row : List Int} {off len : Nat} {nx p2 c1 c2 c3 : Int} {c0 : Nat} {c4 : List Int} (hq : off + len ≤ row.length) (hl : len ≤ 1000) (hQ : ∀ q ∈ qu off len row, 0 ≤ q ∧ q < (x.length : Int)) (h0 : 0 ≤ nx) (h1 : nx < (x.length : Int)) :
 Gives (fun k => loopT (T_envelope_extremes_v2_l1 k x p2 c0 c1 c2 c3 c4 off len nx row) k (len : Int)) (fun n => 0 ≤ n ∧ n ≤ len ∧ (∀ m : Nat, n ≤ (m : Int) → m < len → ¬ (rd x (rd (qu off len row) m) < rd x nx)) ∧ (n = 0 ∨ (rd x (rd (qu off len row) (n - 1)) < rd x nx))) := by
 refine Gives.loop (fun s => 0 ≤ s ∧ s ≤ (len : Int) ∧ ∀ m : Nat, s ≤ (m : Int) → m < len → ¬ (rd x (rd (qu off len row) m) < rd x nx)) (fun s => s.toNat) ?_ ⟨by omega, by omega, fun m h1 h2 => by omega⟩
 intro s ⟨i1, i2, i3⟩
 unfold T_envelope_extremes_v2_l1
 refine Gives.bind (Q := fun b => (b = true → 0 < s ∧ ¬ (rd x (rd (qu off len row) (s - 1)) < rd x nx)) ∧ (b = false → s = 0 ∨ (rd x (rd (qu off len row) (s - 1)) < rd x nx))) ?_ fun b hb => ?_
 · refine Gives.ite (fun c => ?_) fun c => Gives.now ⟨(fun h => by cases h), fun _ => .inl (by omega)⟩
   have e : w64 (s - 1) = s - 1 := w64_id (by omega) (by omega)
   rw [e]
   have g := qu_get (m := (s - 1).toNat) hq (by omega)
   rw [Int.toNat_of_nonneg (by omega)] at g
   refine Gives.pos (by omega) (Gives.opt g ?_)
   have hm : rd (qu off len row) (s - 1) ∈ qu off len row := rd_mem (by omega) (by rw [qu_len hq]; omega)
   obtain ⟨k1, k2⟩ := hQ _ hm
   refine Gives.opt (at_rd k1 k2) (Gives.opt (at_rd h0 h1) (Gives.bind (Q := fun _ => True) ?_ fun _ _ => Gives.now ⟨fun h => ⟨c, by simpa using h⟩, fun h => .inr (by simpa using h)⟩))
   refine Gives.step ?_
   simp only [T_envelope_of_2]
   exact Gives.now trivial
 · cases b with
   | true =>
    obtain ⟨k1, k2⟩ := hb.1 rfl
    refine Gives.pos rfl ?_
    rw [w64_id (by omega) (by omega)]
    refine Gives.now ⟨⟨by omega, by omega, fun m h1 h2 => ?_⟩, by omega⟩
    by_cases c : s ≤ (m : Int)
    · exact i3 m c h2
    · have : (m : Int) = s - 1 := by omega
      rw [this]; exact k2
   | false => exact Gives.neg (by simp) (Gives.now ⟨i1, i2, i3, hb.2 rfl⟩)
theorem ex_l2B {x : List Int} {p2 j lo : Int} {c0 : Nat} {c1 c3 : Int} {c4 : List Int} (hx : x.length ≤ 32) (hj : 0 ≤ j) (hj2 : j ≤ 1000) (hp : 0 ≤ p2) (hp2 : p2 ≤ 1000) {s : Nat × Nat × Int × List Int}
 (hs : s.1 + s.2.1 ≤ s.2.2.2.length ∧ (s.2.1 : Int) ≤ s.2.2.1 ∧ 0 ≤ s.2.2.1 ∧ s.2.2.1 ≤ (x.length : Int) ∧ s.2.2.1 ≤ j + p2 + 1 ∧ QOkB x s.2.2.1 (qu s.1 s.2.1 s.2.2.2) ∧ CovB x lo s.2.2.1 (qu s.1 s.2.1 s.2.2.2)) :
 Gives (fun k => loopT (T_envelope_extremes_v2_l2 k x p2 c0 c1 j c3 c4) k s) (fun s => (s.1 + s.2.1 ≤ s.2.2.2.length ∧ (s.2.1 : Int) ≤ s.2.2.1 ∧ 0 ≤ s.2.2.1 ∧ s.2.2.1 ≤ (x.length : Int) ∧ s.2.2.1 ≤ j + p2 + 1 ∧ QOkB x s.2.2.1 (qu s.1 s.2.1 s.2.2.2) ∧ CovB x lo s.2.2.1 (qu s.1 s.2.1 s.2.2.2)) ∧ ((x.length : Int) ≤ s.2.2.1 ∨ j + p2 < s.2.2.1)) := by
 refine Gives.loop (fun s => s.1 + s.2.1 ≤ s.2.2.2.length ∧ (s.2.1 : Int) ≤ s.2.2.1 ∧ 0 ≤ s.2.2.1 ∧ s.2.2.1 ≤ (x.length : Int) ∧ s.2.2.1 ≤ j + p2 + 1 ∧ QOkB x s.2.2.1 (qu s.1 s.2.1 s.2.2.2) ∧ CovB x lo s.2.2.1 (qu s.1 s.2.1 s.2.2.2)) (fun s => ((x.length : Int) - s.2.2.1).toNat) ?_ hs
 clear hs s
 intro ⟨off, len, nx, row⟩ ⟨i1, i2, i3, i4, i5, i6, i7⟩
 simp only at i1 i2 i3 i4 i5 i6 i7
 unfold T_envelope_extremes_v2_l2
 simp only []
 rw [w64_id (x := j + p2) (by omega) (by omega)]
 by_cases c : nx < (x.length : Int) ∧ nx ≤ j + p2
 · refine Gives.pos (by simpa using c) ?_
   refine Gives.bind (ex_l1B i1 (by omega) (fun q hq => by have := i6.mem q hq; omega) i3 c.1) fun n hn => ?_
   obtain ⟨n1, n2, n3, n4⟩ := hn
   refine Gives.pos (by omega) (Gives.pos (by unfold LIM; omega) ?_)
   rw [w64_id (x := nx + 1) (by omega) (by omega)]
   have hQl := qu_len i1
   have e1 : (row.drop (off + 0)).take (n.toNat - 0) = (qu off len row).take n.toNat := by
    unfold qu
    rw [List.take_take, Nat.add_zero, Nat.sub_zero, Nat.min_eq_left (by omega)]
   rw [e1]
   have hrl : ((qu off len row).take n.toNat ++ [nx]).length = n.toNat - 0 + 1 := by simp [hQl]; omega
   have e2 : qu 0 (n.toNat - 0 + 1) ((qu off len row).take n.toNat ++ [nx]) = (qu off len row).take n.toNat ++ [nx] := by
    rw [← hrl]
    unfold qu
    rw [List.drop_zero, List.take_length]
   have key : ∀ a ∈ (qu off len row).take n.toNat, a < nx ∧ (rd x a < rd x nx) := by
    intro a ha
    obtain ⟨i, hi, rfl⟩ := List.getElem_of_mem ha
    have hi' : i < n.toNat := by simp at hi; omega
    have e3 : ((qu off len row).take n.toNat)[i] = rd (qu off len row) i := by
     have hiq : i < (qu off len row).length := by omega
     unfold rd
     rw [List.getD_eq_getElem?_getD, List.getElem_take]
     simp [hiq]
    rw [e3]
    have hlast : (rd x (rd (qu off len row) (n - 1)) < rd x nx) := n4.resolve_left (by omega)
    have hm : rd (qu off len row) (i : Int) ∈ qu off len row := rd_mem (by omega) (by omega)
    refine ⟨(i6.mem _ hm).2, ?_⟩
    by_cases c2 : (i : Int) = n - 1
    · rw [c2]; exact hlast
    · have := (rd_pairB i6 (a := i) (b := (n - 1).toNat) (by omega) (by omega)).2
      rw [Int.toNat_of_nonneg (by omega)] at this
      omega
   refine Gives.now ⟨⟨?_, ?_, ?_, ?_, ?_, ⟨fun q hq => ?_, ?_⟩, fun i h1 h2 h3 => ?_⟩, ?_⟩
   · simp only []; omega
   · simp only []; omega
   · simp only []; omega
   · simp only []; omega
   · simp only []; omega
   · show 0 ≤ q ∧ q < nx + 1
     simp only [e2] at hq
     rcases List.mem_append.1 hq with hq | hq
     · have := i6.mem q (List.mem_of_mem_take hq); omega
     · simp at hq; omega
   · simp only [e2]
     refine List.pairwise_append.2 ⟨i6.dec.sublist (List.take_sublist _ _), by simp, fun a ha b hb => ?_⟩
     simp at hb
     subst hb
     exact key a ha
   · simp only [e2]
     by_cases c2 : i = nx
     · exact ⟨nx, by simp, by omega, by subst c2; omega⟩
     · obtain ⟨q, hq, hq1, hq2⟩ := i7 i h1 h2 (by simp only at h3; omega)
       obtain ⟨m, hm, rfl⟩ := List.getElem_of_mem hq
       have e3 : (qu off len row)[m] = rd (qu off len row) m := by
        unfold rd
        rw [List.getD_eq_getElem?_getD]
        simp [hm]
       rw [e3] at hq1 hq2
       by_cases c3 : n ≤ (m : Int)
       · have := n3 m c3 (by omega)
         exact ⟨nx, by simp, by simp only at h3; omega, by omega⟩
       · refine ⟨rd (qu off len row) m, List.mem_append_left _ ?_, hq1, hq2⟩
         rw [← e3]
         exact List.mem_take_iff_getElem.2 ⟨m, by omega, rfl⟩
   · simp only []; omega
 · refine Gives.neg (by simpa using c) (Gives.now ⟨⟨i1, i2, i3, i4, i5, i6, i7⟩, by simp only []; omega⟩)
theorem ex_l3B {x row : List Int} {p2 j nx : Int} {c0 : Nat} {c1 c2 c3 : Int} {c4 : List Int} (hj : 0 ≤ j) (hj2 : j ≤ 1000) (hp : 0 ≤ p2) (hp2 : p2 ≤ 1000) (hnx : nx ≤ 32) (h0 : 0 < nx) (h1 : j - p2 < nx) {s : Nat × Nat}
 (hs : s.1 + s.2 ≤ row.length ∧ (s.2 : Int) ≤ nx ∧ QOkB x nx (qu s.1 s.2 row) ∧ CovB x (j - p2) nx (qu s.1 s.2 row)) :
 Gives (fun k => loopT (T_envelope_extremes_v2_l3 k x p2 c0 c1 c2 j c3 row c4) k s) (fun s => (s.1 + s.2 ≤ row.length ∧ (s.2 : Int) ≤ nx ∧ QOkB x nx (qu s.1 s.2 row) ∧ CovB x (j - p2) nx (qu s.1 s.2 row)) ∧ 0 < s.2 ∧ j - p2 ≤ rd (qu s.1 s.2 row) 0) := by
 refine Gives.loop (fun s => s.1 + s.2 ≤ row.length ∧ (s.2 : Int) ≤ nx ∧ QOkB x nx (qu s.1 s.2 row) ∧ CovB x (j - p2) nx (qu s.1 s.2 row)) (fun s => s.2) ?_ hs
 clear hs s
 intro ⟨off, len⟩ ⟨i1, i2, i3, i4⟩
 simp only at i1 i2 i3 i4
 unfold T_envelope_extremes_v2_l3
 simp only []
 have hQl := qu_len i1
 have hpos : 0 < len := by
  obtain ⟨q, hq, _⟩ := i4 (if j - p2 < 0 then 0 else j - p2) (by split <;> omega) (by split <;> omega) (by split <;> omega)
  have := List.length_pos_of_mem hq
  omega
 have g := qu_get (m := 0) i1 hpos
 refine Gives.pos (by omega) (Gives.opt g ?_)
 rw [w64_id (x := j - p2) (by omega) (by omega)]
 refine Gives.ite (fun c => Gives.pos (by omega) ?_) fun c => Gives.now ⟨⟨i1, i2, i3, i4⟩, hpos, by simp only [] at c ⊢; simpa using c⟩
 have eq : qu off len row = rd (qu off len row) 0 :: qu (off + 1) (len - 1) row := by
  obtain ⟨l', rfl⟩ : ∃ l', len = l' + 1 := ⟨len - 1, by omega⟩
  have hc : qu off (l' + 1) row = row[off]'(by omega) :: qu (off + 1) l' row := by
   unfold qu
   rw [List.drop_eq_getElem_cons (by omega), List.take_succ_cons]
  rw [hc]
  rfl
 have hsub : ∀ q ∈ qu (off + 1) (len - 1) row, q ∈ qu off len row := fun q hq => by rw [eq]; exact List.mem_cons_of_mem _ hq
 refine Gives.now ⟨⟨?_, ?_, ⟨fun q hq => i3.mem q (hsub q ?_), ?_⟩, fun i h1 h2 h3 => ?_⟩, ?_⟩
 · simp only []; omega
 · simp only []; omega
 · simpa using hq
 · have := i3.dec
   rw [eq] at this
   simpa using (List.pairwise_cons.1 this).2
 · obtain ⟨q, hq, hq1, hq2⟩ := i4 i h1 h2 h3
   rw [eq] at hq
   rcases List.mem_cons.1 hq with hq | hq
   · exfalso
     have c : rd (qu off len row) ((0 : Nat) : Int) < j - p2 := c
     have : rd (qu off len row) ((0 : Nat) : Int) = rd (qu off len row) 0 := rfl
     omega
   · exact ⟨q, by simpa using hq, hq1, hq2⟩
 · simp only []; omega
theorem ex_okB {x : List Int} {p2 n : Int} (hx : Win x) (hp : 0 ≤ p2) (hp2 : p2 ≤ 32) (hn : 0 ≤ n) (hn2 : n ≤ 32) (hf : n - (x.length : Int) ≤ p2) :
 Gives (fun k => T_envelope_extremes_v2 k x p2 n) (fun r => (r.length : Int) = n ∧ ∀ j, 0 ≤ j → j < n → BestB x p2 j (rd r j)) := by
 have x1 := hx.lo
 have x2 := hx.hi
 refine Gives.step ?_
 simp only [T_envelope_extremes_v2]
 refine Gives.pos (by unfold LIM; omega) (Gives.bind (Q := fun r => r.length = n.toNat ∧ ∀ j, 0 ≤ j → j < n → BestB x p2 j (rd r j)) ?_ fun r hr => ?_)
 · refine Gives.loop (fun s => s.1 + s.2.1 ≤ s.2.2.2.2.1.length ∧ (s.2.1 : Int) ≤ s.2.2.1 ∧ 0 ≤ s.2.2.1 ∧ s.2.2.1 ≤ (x.length : Int) ∧ 0 ≤ s.2.2.2.1 ∧ s.2.2.2.1 ≤ n ∧ s.2.2.1 ≤ s.2.2.2.1 + p2 ∧ QOkB x s.2.2.1 (qu s.1 s.2.1 s.2.2.2.2.1) ∧ CovB x (s.2.2.2.1 - 1 - p2) s.2.2.1 (qu s.1 s.2.1 s.2.2.2.2.1) ∧
    s.2.2.2.2.2.length = n.toNat ∧ ∀ j, 0 ≤ j → j < s.2.2.2.1 → BestB x p2 j (rd s.2.2.2.2.2 j)) (fun s => (n - s.2.2.2.1).toNat) ?_ ?_
   · intro ⟨off, len, nx, j, row, out⟩ ⟨i1, i2, i3, i4, i5, i6, i7, i8, i9, i10, i11⟩
     simp only at i1 i2 i3 i4 i5 i6 i7 i8 i9 i10 i11
     unfold T_envelope_extremes_v2_l4
     simp only []
     refine Gives.ite (fun c => ?_) fun c => Gives.now ⟨i10, fun j' h1 h2 => i11 j' h1 (by omega)⟩
     refine Gives.bind (ex_l2B (lo := j - 1 - p2) x2 i5 (by omega) hp (by omega) ⟨i1, i2, i3, i4, by simp only []; omega, i8, i9⟩) fun a ha => ?_
     obtain ⟨⟨a1, a2, a3, a4, a5, a6, a7⟩, a8⟩ := ha
     have hi0 : j - p2 < a.2.2.1 ∧ 0 < a.2.2.1 := by omega
     refine Gives.bind (ex_l3B (x := x) (nx := a.2.2.1) i5 (by omega) hp (by omega) (by omega) hi0.2 hi0.1 ⟨a1, a2, a6, fun i h1 h2 h3 => a7 i h1 (by omega) h3⟩) fun b hb => ?_
     obtain ⟨⟨b1, b2, b3, b4⟩, b5, b6⟩ := hb
     have g := qu_get (m := 0) b1 b5
     have hQl := qu_len b1
     have hm : rd (qu b.1 b.2 a.2.2.2) 0 ∈ qu b.1 b.2 a.2.2.2 := rd_mem (by omega) (by rw [hQl]; omega)
     obtain ⟨m1, m2⟩ := b3.mem _ hm
     refine Gives.pos (by omega) (Gives.opt g (Gives.opt (at_rd (xs := x) (i := rd (qu b.1 b.2 a.2.2.2) 0) m1 (by omega)) (Gives.pos (by omega) ?_)))
     rw [w64_id (x := j + 1) (by omega) (by omega)]
     refine Gives.now ⟨⟨b1, b2, a3, a4, ?_, ?_, ?_, b3, fun i h1 h2 h3 => b4 i h1 (by simp only at h2; omega) h3, ?_, fun j' h1 h2 => ?_⟩, ?_⟩
     · simp only []; omega
     · simp only []; omega
     · simp only []; omega
     · simp [i10]
     · simp only at h2
       by_cases cj : j' = j
       · subst cj
         have : rd (out.set (0 + j'.toNat) (rd x (rd (qu b.1 b.2 a.2.2.2) 0))) j' = rd x (rd (qu b.1 b.2 a.2.2.2) 0) := by
          unfold rd
          rw [Nat.zero_add, List.getD_eq_getElem?_getD, List.getElem?_set_self (by omega)]; rfl
         simp only [this]
         refine ⟨⟨_, m1, by omega, b6, by omega, rfl⟩, fun i k1 k2 k3 k4 => ?_⟩
         obtain ⟨q, hq, q1, q2⟩ := b4 i k1 k3 (by omega)
         obtain ⟨m, hm2, rfl⟩ := List.getElem_of_mem hq
         have e3 : (qu b.1 b.2 a.2.2.2)[m] = rd (qu b.1 b.2 a.2.2.2) m := by
          unfold rd
          rw [List.getD_eq_getElem?_getD]
          simp [hm2]
         rw [e3] at q2
         by_cases c0 : m = 0
         · subst c0; exact q2
         · have := (rd_pairB b3 (a := 0) (b := m) (by omega) hm2).2
           have e0 : ((0 : Nat) : Int) = 0 := rfl
           rw [e0] at this
           omega
       · have : rd (out.set (0 + j.toNat) (rd x (rd (qu b.1 b.2 a.2.2.2) 0))) j' = rd out j' := by
          unfold rd
          rw [Nat.zero_add, List.getD_eq_getElem?_getD, List.getElem?_set_ne (by omega), List.getD_eq_getElem?_getD]
         simp only [this]
         exact i11 j' h1 (by omega)
     · simp only []; omega
   · refine ⟨by simp, by simp, by simp, by simp, by simp, by simpa using hn, by simpa using hp, ⟨fun q hq => by simp [qu] at hq, by simp [qu]⟩, fun i h1 h2 h3 => by simp only at h3; omega, by simp, fun j h1 h2 => by simp only at h2; omega⟩
 · rw [drop_take_len hr.1]
   exact Gives.now ⟨by rw [hr.1]; omega, hr.2⟩

theorem env_of {x : List Int} {p2 n : Int} (hx : Win x) (hp : 0 ≤ p2) (hp2 : p2 ≤ 32) (hn : 2 ≤ n) (hn2 : n ≤ 32) (hf : n - (x.length : Int) ≤ p2) :
 Gives (fun k => T_envelope_of k x p2 n) (fun r => ((r.1.length : Int) = n ∧ ∀ j, 0 ≤ j → j < n → BestA x p2 j (rd r.1 j)) ∧ ((r.2.length : Int) = n ∧ ∀ j, 0 ≤ j → j < n → BestB x p2 j (rd r.2 j))) := by
 refine Gives.step ?_
 simp only [T_envelope_of]
 exact Gives.bind (ex_okA hx hp hp2 (by omega) hn2 hf) fun a ha => Gives.bind (ex_okB hx hp hp2 (by omega) hn2 hf) fun b hb => Gives.now ⟨ha, hb⟩
/-! That the warping distance is found. -/
theorem wp_fill {x y : List Int} {b i : Int} {r q : List Int} {n : Nat} (hn : y.length = n) (hl : n ≤ 32) (hr : r.length = n) (hq : q.length = n) (i0 : 0 ≤ i) (i1 : i < (x.length : Int)) : Gives (fun k => T_warp_fill k n n x y b i r q) (fun z => z.length = n) := by
 refine Gives.step ?_
 simp only [T_warp_fill]
 refine Gives.bind (Q := fun z => z.length = n) ?_ fun z hz => Gives.now hz
 refine Gives.loop (fun s => 0 ≤ s.1 ∧ s.1 ≤ (n : Int) ∧ s.2.length = n) (fun s => ((n : Int) - s.1).toNat) ?_ ⟨by simp only []; omega, by simp only []; omega, hr⟩
 intro ⟨j, w⟩ ⟨j0, j1, jw⟩
 simp only at j0 j1 jw
 unfold T_warp_fill_l1
 simp only []
 rw [hn]
 refine Gives.ite (fun c => Gives.pos ⟨j0, c⟩ ?_) fun c => Gives.now jw
 rw [w64_id (x := j + 1) (by omega) (by omega), w64_id (x := j - 1) (by omega) (by omega)]
 refine Gives.bind (Q := fun _ => True) (Gives.step (by simp only [T_warp_near]; exact Gives.now trivial)) fun _ _ => ?_
 refine Gives.ite (fun _ => Gives.now ⟨⟨by simp only []; omega, by simp only []; omega, by simp [jw]⟩, by simp only []; omega⟩) fun _ => ?_
 refine Gives.bind (Q := fun _ => True) (Gives.ite (fun _ => Gives.now trivial) fun _ => Gives.now trivial) fun v1 _ => ?_
 refine Gives.bind (Q := fun _ => True) (Gives.ite (fun c2 => Gives.pos ⟨by omega, by omega⟩ (Gives.opt (get_rd0 (by omega) (by simp [jw]; omega)) (Gives.now trivial))) fun _ => Gives.now trivial) fun v2 _ => ?_
 refine Gives.bind (Q := fun _ => True) (Gives.ite (fun c2 => Gives.pos ⟨j0, c⟩ (Gives.opt (get_rd0 (by omega) (by omega)) (Gives.now trivial))) fun _ => Gives.now trivial) fun v3 _ => ?_
 refine Gives.bind (Q := fun _ => True) (Gives.ite (fun c2 => Gives.pos ⟨j0, c⟩ (Gives.opt (get_rd0 (by omega) (by omega)) ?_)) fun _ => Gives.now trivial) fun v4 _ => ?_
 · simp at c2
   exact Gives.pos ⟨by omega, by omega⟩ (Gives.opt (get_rd0 (by omega) (by omega)) (Gives.now trivial))
 refine Gives.opt (at_rd i0 i1) (Gives.opt (at_rd j0 (by omega)) (Gives.pos ⟨j0, c⟩ (Gives.now ⟨⟨by simp only []; omega, by simp only []; omega, by simp [jw]⟩, by simp only []; omega⟩)))
theorem wp_min {r : List Int} {n : Nat} (h : 1 ≤ n) (hl : n ≤ 32) (hr : r.length = n) : Gives (fun k => T_slices_Min_b354 k n r) (fun _ => True) := by
 refine Gives.step ?_
 simp only [T_slices_Min_b354]
 refine Gives.neg (by omega) (Gives.pos (by omega) (Gives.opt (by rw [List.getElem?_eq_getElem (by omega)]) (Gives.bind (Q := fun _ => True) ?_ fun _ _ => Gives.now trivial)))
 refine Gives.loop (fun s => 0 ≤ s.2 ∧ s.2 ≤ (n : Int)) (fun s => ((n : Int) - s.2).toNat) ?_ ⟨by simp only []; omega, by simp only []; omega⟩
 intro ⟨m, i⟩ ⟨i0, i1⟩
 simp only at i0 i1
 unfold T_slices_Min_b354_l1
 simp only []
 refine Gives.ite (fun c => Gives.pos ⟨i0, c⟩ (Gives.opt (get_rd0 i0 (by omega)) ?_)) fun c => Gives.now trivial
 rw [w64_id (by omega) (by omega)]
 exact Gives.now ⟨⟨by simp only []; omega, by simp only []; omega⟩, by simp only []; omega⟩
theorem wp_distance {x y : List Int} {b : Int} (h : Fits x y b) : Gives (fun k => T_warp_Distance k x y b) (fun r => r.2 = 0) := by
 have x1 := h.wx.lo
 have x2 := h.wx.hi
 have y1 := h.wy.lo
 have y2 := h.wy.hi
 have b0 := h.lo
 have b1 := h.hi
 have ab := h.ab
 have ba := h.ba
 refine Gives.step ?_
 simp only [T_warp_Distance]
 refine Gives.bind (Q := fun r => r = 0) ?_ fun r hr => ?_
 · refine Gives.step ?_
   simp only [T_warp_check]
   refine Gives.neg (by simp; omega) (Gives.bind (eu_distance h.wx h.wx rfl) fun e he => Gives.bind (eu_distance h.wy h.wy rfl) fun f hf => Gives.neg (by simp [he, hf]) (Gives.neg (by simp [he]) (Gives.neg (by simp [hf]) (Gives.neg ?_ (Gives.now rfl)))))
   rw [w64_id (x := (x.length : Int) - (y.length : Int)) (by omega) (by omega), w64_id (x := (y.length : Int) - (x.length : Int)) (by omega) (by omega)]
   simp; omega
 subst hr
 refine Gives.neg (by simp) (Gives.bind (Q := fun _ => True) ?_ fun _ _ => Gives.now rfl)
 refine Gives.step ?_
 simp only [T_warp_distance]
 rw [Int.toNat_natCast]
 refine Gives.pos (by unfold LIM; omega) (Gives.bind (Q := fun v => ∀ z, v = .inl z → z.1 = y.length ∧ z.2.length = y.length) ?_ fun v hv => ?_)
 · refine Gives.loop (fun s => s.1 = y.length ∧ s.2.1 = y.length ∧ 0 ≤ s.2.2.1 ∧ s.2.2.1 ≤ (x.length : Int) ∧ s.2.2.2.1.length = y.length ∧ s.2.2.2.2.length = y.length) (fun s => ((x.length : Int) - s.2.2.1).toNat) ?_ ⟨rfl, rfl, by simp only []; omega, by simp only []; omega, by simp, by simp⟩
   intro ⟨n1, n2, i, r, q⟩ ⟨s1, s2, s3, s4, s5, s6⟩
   simp only at s1 s2 s3 s4 s5 s6
   subst s1 s2
   unfold T_warp_distance_l1
   simp only []
   refine Gives.ite (fun c => ?_) fun c => Gives.now fun z hz => ?_
   · refine Gives.bind (wp_fill rfl y2 s5 s6 s3 c) fun z hz => Gives.bind (wp_min (by omega) y2 hz) fun m _ => Gives.ite (fun _ => Gives.now fun z hz => by cases hz) fun _ => ?_
     rw [w64_id (by omega) (by omega)]
     exact Gives.now ⟨⟨rfl, rfl, by simp only []; omega, by simp only []; omega, s6, hz⟩, by simp only []; omega⟩
   · cases hz
     exact ⟨rfl, s6⟩
 · cases v with
   | inl z =>
    obtain ⟨z1, z2⟩ := hv z rfl
    simp only []
    rw [z1, w64_id (by omega) (by omega)]
    exact Gives.pos ⟨by omega, by omega⟩ (Gives.opt (get_rd0 (by omega) (by omega)) (Gives.now trivial))
   | inr z => exact Gives.now trivial

/-! Sums of the first samples. -/
def psum (x : List Int) (i : Int) : Int := (x.take i.toNat).sum
theorem psum_zero (x : List Int) : psum x 0 = 0 := by simp [psum]
theorem psum_succ {x : List Int} {i : Int} (h0 : 0 ≤ i) (h1 : i < (x.length : Int)) : psum x (i + 1) = psum x i + rd x i := by
 unfold psum rd
 rw [show (i + 1).toNat = i.toNat + 1 by omega, List.take_succ_eq_append_getElem (show i.toNat < x.length by omega), List.sum_append]
 rw [List.getD_eq_getElem?_getD, List.getElem?_eq_getElem (show i.toNat < x.length by omega)]
 simp
theorem psum_bound {x : List Int} {B : Int} (hB : ∀ v ∈ x, -B ≤ v ∧ v ≤ B) : ∀ n : Nat, n ≤ x.length → -(B * n) ≤ psum x n ∧ psum x n ≤ B * n
 | 0, _ => by simp [psum]
 | n + 1, h => by
  have ih := psum_bound hB n (by omega)
  have e := psum_succ (x := x) (i := (n : Int)) (by omega) (by omega)
  have hb := hB _ (rd_mem (xs := x) (i := (n : Int)) (by omega) (by omega))
  have : (((n + 1 : Nat)) : Int) = (n : Int) + 1 := by omega
  rw [this, e, Int.mul_add, Int.mul_one]
  omega
theorem psum_all {x : List Int} : psum x x.length = x.sum := by simp [psum]
theorem part_sum {x : List Int} {a b : Int} (h0 : 0 ≤ a) (h1 : a ≤ b) : ((x.drop a.toNat).take (b.toNat - a.toNat)).sum = psum x b - psum x a := by
 have e : x.take b.toNat = x.take a.toNat ++ (x.drop a.toNat).take (b.toNat - a.toNat) := by
  conv => lhs; rw [show b.toNat = a.toNat + (b.toNat - a.toNat) by omega]
  rw [List.take_add]
 unfold psum
 rw [e, List.sum_append]
 omega
/-! Where the pieces of a window begin. -/
def cut (m n p : Int) : Int := p * m / n
theorem cut_zero (m n : Int) : cut m n 0 = 0 := by simp [cut]
theorem cut_last {m n : Int} (hn : 1 ≤ n) : cut m n n = m := by unfold cut; exact Int.mul_ediv_cancel_left _ (by omega)
theorem cut_mono {m n p q : Int} (hn : 1 ≤ n) (hm : 0 ≤ m) (h : p ≤ q) : cut m n p ≤ cut m n q := by
 unfold cut
 exact Int.ediv_le_ediv (by omega) (Int.mul_le_mul_of_nonneg_right h hm)
theorem cut_range {m n p : Int} (hn : 1 ≤ n) (hm : 0 ≤ m) (h0 : 0 ≤ p) (h1 : p ≤ n) : 0 ≤ cut m n p ∧ cut m n p ≤ m := by
 have a := cut_mono (m := m) hn hm h0
 have b := cut_mono (m := m) hn hm h1
 rw [cut_zero] at a
 rw [cut_last hn] at b
 exact ⟨a, b⟩
theorem cut_w {m n p : Int} (hn : 1 ≤ n) (hn2 : n ≤ 8) (hm : 0 ≤ m) (hm2 : m ≤ 32) (h0 : 0 ≤ p) (h1 : p ≤ n) : w64 ((w64 (p * m)).tdiv n) = cut m n p := by
 have h2 : 0 ≤ p * m := Int.mul_nonneg h0 hm
 have h3 : p * m ≤ 8 * 32 := Int.le_trans (Int.mul_le_mul_of_nonneg_right (show p ≤ 8 by omega) hm) (Int.mul_le_mul_of_nonneg_left hm2 (by omega))
 have h4 := cut_range hn hm h0 h1
 rw [w64_id (x := p * m) (by omega) (by omega), Int.tdiv_eq_ediv_of_nonneg h2, w64_id]
 · rfl
 · have : cut m n p = p * m / n := rfl
   omega
 · have : cut m n p = p * m / n := rfl
   omega
theorem Gives.rangeT {S R : Type} {f : Nat → Int → Int → Int → S → Option (S ⊕ R)} {m n : Int} (hn : 1 ≤ n) (hn2 : n ≤ 8) (hm : 0 ≤ m) (hm2 : m ≤ 32) (Inv : Int → S → Prop)
 (h : ∀ p s, 0 ≤ p → p < n → Inv p s → Gives (fun k => f k p (cut m n p) (cut m n (p + 1)) s) (fun x => ∃ s', x = .inl s' ∧ Inv (p + 1) s')) {s : S} (hs : Inv 0 s) :
 Gives (fun k => allT (f k) m n k 0 s) (fun x => ∃ s', x = .inl s' ∧ Inv n s') := by
 suffices H : ∀ (d : Nat) (p : Int) (s : S), 0 ≤ p → p ≤ n → (n - p).toNat < d → Inv p s → ∃ r, (∃ K N, ∀ k, K ≤ k → ∀ j, N ≤ j → allT (f k) m n j p s = some r) ∧ ∃ s', r = .inl s' ∧ Inv n s' by
  obtain ⟨r, ⟨K, N, hK⟩, hr⟩ := H (n.toNat + 1) 0 s (by omega) (by omega) (by omega) hs
  exact ⟨r, ⟨max K N, fun k hk => hK k (by omega) k (by omega)⟩, hr⟩
 intro d
 induction d with
 | zero => intro p s _ _ h; omega
 | succ d ih =>
  intro p s h0 h1 hd hI
  by_cases c : p < n
  · obtain ⟨x, ⟨K, hK⟩, s', rfl, hs'⟩ := h p s h0 c hI
    obtain ⟨r, ⟨K2, N, hK2⟩, hr⟩ := ih (p + 1) s' (by omega) (by omega) (by omega) hs'
    refine ⟨r, ⟨max K K2, N + 1, fun k hk j hj => ?_⟩, hr⟩
    obtain ⟨j', rfl⟩ : ∃ j', j = j' + 1 := ⟨j - 1, by omega⟩
    simp only [allT]
    rw [if_pos c, if_pos (by omega), w64_id (x := p + 1) (by omega) (by omega), cut_w hn hn2 hm hm2 h0 (by omega), cut_w hn hn2 hm hm2 (by omega) (by omega), show f k p (cut m n p) (cut m n (p + 1)) s = some (.inl s') from hK k (by omega)]
    exact hK2 k (by omega) j' (by omega)
  · have : p = n := by omega
    subst this
    refine ⟨.inl s, ⟨0, 1, fun k _ j hj => ?_⟩, s, rfl, hI⟩
    obtain ⟨j', rfl⟩ : ∃ j', j = j' + 1 := ⟨j - 1, by omega⟩
    simp only [allT]
    rw [if_neg c]
/-! What the functions of the chapter compute. -/
theorem pc_total {x : List Int} (hs : Smp x) (hl : x.length ≤ 32) : Gives (fun k => T_pieces_total k x) (fun r => r = x.sum) := by
 have hB : ∀ v ∈ x, -(1000 : Int) ≤ v ∧ v ≤ 1000 := hs
 refine Gives.step ?_
 simp only [T_pieces_total]
 refine Gives.bind (Q := fun r => r = x.sum) ?_ fun r hr => Gives.now hr
 refine Gives.loop (fun s => 0 ≤ s.2 ∧ s.2 ≤ (x.length : Int) ∧ s.1 = psum x s.2) (fun s => ((x.length : Int) - s.2).toNat) ?_ ⟨by simp only []; omega, by simp only []; omega, (psum_zero x).symm⟩
 intro ⟨t, i⟩ ⟨i1, i2, i3⟩
 simp only at i1 i2 i3
 unfold T_pieces_total_l1
 simp only []
 refine Gives.ite (fun c => Gives.opt (at_rd i1 c) ?_) fun c => Gives.now ?_
 · have e := psum_succ i1 c
   have b := psum_bound hB (i.toNat + 1) (by omega)
   have : ((i.toNat + 1 : Nat) : Int) = i + 1 := by omega
   rw [this] at b
   rw [w64_id (x := i + 1) (by omega) (by omega), w64_id (x := t + rd x i) (by omega) (by omega)]
   exact Gives.now ⟨⟨by simp only []; omega, by simp only []; omega, by simp only []; omega⟩, by simp only []; omega⟩
 · have : i = x.length := by omega
   subst this
   rw [i3]; exact psum_all
theorem pc_all (m n : Int) : Gives (fun k => T_pieces_all k m n) (fun _ => True) := by
 refine Gives.step ?_
 simp only [T_pieces_all]
 exact Gives.now trivial
theorem pc_number (m n : Int) : Gives (fun k => T_pieces_number k m n) (fun _ => True) := by
 refine Gives.step ?_
 simp only [T_pieces_number]
 exact Gives.now trivial
theorem pc_check {x : List Int} {n : Int} (hx : Win x) (hn : 1 ≤ n) (hn2 : n ≤ 8) (hn3 : n ≤ (x.length : Int)) : Gives (fun k => T_pieces_check k x n) (fun r => r = 0) := by
 refine Gives.step ?_
 simp only [T_pieces_check]
 refine Gives.bind (eu_distance hx hx rfl) fun e he => Gives.neg (by simp [he]) (Gives.bind (pc_number _ _) fun _ _ => Gives.neg (by simp; omega) (Gives.now rfl))
theorem rd_set_eq {xs : List Int} {i v : Int} (h0 : 0 ≤ i) (h1 : i < (xs.length : Int)) : rd (xs.set (0 + i.toNat) v) i = v := by
 unfold rd
 rw [Nat.zero_add, List.getD_eq_getElem?_getD, List.getElem?_set_self (by omega)]; rfl
theorem rd_set_ne {xs : List Int} {i j v : Int} (h0 : 0 ≤ i) (h1 : 0 ≤ j) (h : i ≠ j) : rd (xs.set (0 + i.toNat) v) j = rd xs j := by
 unfold rd
 rw [Nat.zero_add, List.getD_eq_getElem?_getD, List.getElem?_set_ne (by omega), List.getD_eq_getElem?_getD]
theorem pc_part {x : List Int} {n p : Int} (hx : Win x) (hn : 1 ≤ n) (h0 : 0 ≤ p) (h1 : p < n) : 0 ≤ cut x.length n p ∧ cut x.length n p ≤ cut x.length n (p + 1) ∧ cut x.length n (p + 1) ≤ (x.length : Int) ∧
 Gives (fun k => T_pieces_total k ((x.drop (cut x.length n p).toNat).take ((cut x.length n (p + 1)).toNat - (cut x.length n p).toNat))) (fun r => r = psum x (cut x.length n (p + 1)) - psum x (cut x.length n p)) := by
 have a := cut_range (m := x.length) hn (by omega) h0 (by omega)
 have b := cut_range (m := x.length) (p := p + 1) hn (by omega) (by omega) (by omega)
 have c := cut_mono (m := x.length) (p := p) (q := p + 1) hn (by omega) (by omega)
 refine ⟨a.1, c, b.2, ?_⟩
 have x2 := hx.hi
 refine (pc_total ((hx.smp.drop _).take _) (by simp; omega)).mono fun r hr => ?_
 rw [hr]; exact part_sum a.1 c
theorem prod_bound {a b A B : Int} (h1 : -A ≤ a) (h2 : a ≤ A) (h3 : -B ≤ b) (h4 : b ≤ B) : -(A * B) ≤ a * b ∧ a * b ≤ A * B := by
 have hA : 0 ≤ A := by omega
 have hB : 0 ≤ B := by omega
 have p1 : 0 ≤ (A - a) * (B - b) := Int.mul_nonneg (by omega) (by omega)
 have p2 : 0 ≤ (A + a) * (B + b) := Int.mul_nonneg (by omega) (by omega)
 have p3 : 0 ≤ (A - a) * (B + b) := Int.mul_nonneg (by omega) (by omega)
 have p4 : 0 ≤ (A + a) * (B - b) := Int.mul_nonneg (by omega) (by omega)
 rw [Int.sub_mul, Int.mul_sub, Int.mul_sub] at p1
 rw [Int.add_mul, Int.mul_add, Int.mul_add] at p2
 rw [Int.sub_mul, Int.mul_add, Int.mul_add] at p3
 rw [Int.add_mul, Int.mul_sub, Int.mul_sub] at p4
 omega
theorem pc_bounds {x : List Int} (hx : Win x) {i : Int} (h0 : 0 ≤ i) (h1 : i ≤ (x.length : Int)) : -32000 ≤ psum x i ∧ psum x i ≤ 32000 := by
 have x2 := hx.hi
 have := psum_bound (B := 1000) hx.smp i.toNat (by omega)
 rw [Int.toNat_of_nonneg h0] at this
 omega
theorem rd_app_l {xs ys : List Int} {i : Int} (h1 : i.toNat < xs.length) : rd (xs ++ ys) i = rd xs i := by
 unfold rd
 rw [List.getD_eq_getElem?_getD, List.getElem?_append_left h1, List.getD_eq_getElem?_getD]
theorem rd_app_1 {xs : List Int} {v i : Int} (h0 : 0 ≤ i) (h1 : (xs.length : Int) = i) : rd (xs ++ [v]) i = v := by
 unfold rd
 rw [List.getD_eq_getElem?_getD, List.getElem?_append_right (by omega)]
 simp [show i.toNat - xs.length = 0 by omega]
theorem pc_starts {m n : Int} (hm : 2 ≤ m) (hm2 : m ≤ 32) (hn : 1 ≤ n) (hn2 : n ≤ 8) (hn3 : n ≤ m) :
 Gives (fun k => T_pieces_Starts k m n) (fun r => r.2 = 0 ∧ (r.1.length : Int) = n + 1 ∧ ∀ p, 0 ≤ p → p ≤ n → rd r.1 p = cut m n p) := by
 refine Gives.step ?_
 simp only [T_pieces_Starts]
 refine Gives.neg (by simp; omega) (Gives.bind (pc_number _ _) fun _ _ => Gives.neg (by simp; omega) (Gives.bind (pc_all _ _) fun _ _ => ?_))
 refine Gives.bind (Gives.rangeT (m := m) (n := n) hn hn2 (by omega) (by omega) (fun p s => (s.1 : Int) = p + 1 ∧ s.2.length = s.1 ∧ ∀ q, 0 ≤ q → q ≤ p → rd s.2 q = cut m n q) ?_ ⟨by simp, by simp, fun q h1 h2 => by
  have : q = 0 := by omega
  subst this; rw [cut_zero]; rfl⟩) fun r hr => ?_
 · intro p s h0 h1 ⟨i1, i2, i3⟩
   unfold T_pieces_Starts_r1
   rw [drop_take_len i2]
   refine Gives.pos (by unfold LIM; omega) (Gives.now ⟨_, rfl, by simp only []; omega, by simp [i2], fun q h2 h3 => ?_⟩)
   simp only []
   by_cases c : q = p + 1
   · subst c; rw [rd_app_1 (by omega) (by omega)]
   · rw [rd_app_l (by omega)]; exact i3 q h2 (by omega)
 · obtain ⟨s', rfl, k1, k2, k3⟩ := hr
   simp only []
   rw [drop_take_len k2]
   exact Gives.now ⟨rfl, by simp only []; omega, k3⟩

/-! Sums over the first places. -/
def sg (f : Int → Int) : Nat → Int
 | 0 => 0
 | n + 1 => sg f n + f n
theorem sg_congr {f g : Int → Int} : ∀ {n : Nat}, (∀ i : Int, 0 ≤ i → i < n → f i = g i) → sg f n = sg g n
 | 0, _ => rfl
 | n + 1, h => by
  rw [sg, sg, sg_congr (n := n) fun i h1 h2 => h i h1 (by omega), h n (by omega) (by omega)]
theorem sg_psum {x : List Int} : ∀ {n : Nat}, n ≤ x.length → sg (rd x) n = psum x n
 | 0, _ => by simp [sg, psum]
 | n + 1, h => by
  have e := psum_succ (x := x) (i := (n : Int)) (by omega) (by omega)
  have : (((n + 1 : Nat)) : Int) = (n : Int) + 1 := by omega
  rw [sg, sg_psum (n := n) (by omega), this, e]
theorem sg_bound {f : Int → Int} {B : Int} : ∀ {n : Nat}, (∀ i : Int, 0 ≤ i → i < n → -B ≤ f i ∧ f i ≤ B) → -(B * n) ≤ sg f n ∧ sg f n ≤ B * n
 | 0, _ => by simp [sg]
 | n + 1, h => by
  have ih := sg_bound (n := n) fun i h1 h2 => h i h1 (by omega)
  have hb := h n (by omega) (by omega)
  have : (((n + 1 : Nat)) : Int) = (n : Int) + 1 := by omega
  rw [sg, this, Int.mul_add, Int.mul_one]
  omega
theorem sg_nonneg {f : Int → Int} : ∀ {n : Nat}, (∀ i : Int, 0 ≤ i → i < n → 0 ≤ f i) → 0 ≤ sg f n
 | 0, _ => by simp [sg]
 | n + 1, h => by
  have ih := sg_nonneg (n := n) fun i h1 h2 => h i h1 (by omega)
  have hb := h n (by omega) (by omega)
  rw [sg]; omega
theorem sq_nonneg (a : Int) : 0 ≤ a * a := by
 rcases Int.le_total 0 a with h | h
 · exact Int.mul_nonneg h h
 · exact Int.mul_nonneg_of_nonpos_of_nonpos h h
/-! Keogh's bound. -/
/-- By how much a number passes an interval. -/
def ps (v lo hi : Int) : Int := imax (imax 0 (v - hi)) (lo - v)
theorem ps_nonneg (v lo hi : Int) : 0 ≤ ps v lo hi := by unfold ps imax; split <;> split <;> omega
theorem ps_bd {v lo hi : Int} {B : Int} (h0 : 0 ≤ B) (h1 : v - hi ≤ B) (h2 : lo - v ≤ B) : ps v lo hi ≤ B := by unfold ps imax; split <;> split <;> omega
theorem en_passes (v lo hi : Int) : Gives (fun k => T_envelope_passes k v lo hi) (fun _ => True) := Gives.step (by simp only [T_envelope_passes]; exact Gives.now trivial)
theorem BestA.smp {x : List Int} {b j v : Int} (hx : Win x) (h : BestA x b j v) : -1000 ≤ v ∧ v ≤ 1000 := by
 obtain ⟨⟨i, _, _, _, _, e⟩, _⟩ := h
 rw [← e]; exact hx.smp.rd i
theorem BestB.smp {x : List Int} {b j v : Int} (hx : Win x) (h : BestB x b j v) : -1000 ≤ v ∧ v ≤ 1000 := by
 obtain ⟨⟨i, _, _, _, _, e⟩, _⟩ := h
 rw [← e]; exact hx.smp.rd i
theorem BestA.mono {x : List Int} {b b' j v v' : Int} (h : BestA x b j v) (h' : BestA x b' j v') (hb : b ≤ b') : v ≤ v' := by
 obtain ⟨⟨i, i0, i1, i2, i3, e⟩, _⟩ := h
 rw [← e]; exact h'.2 i i0 i1 (by omega) (by omega)
theorem BestB.mono {x : List Int} {b b' j v v' : Int} (h : BestB x b j v) (h' : BestB x b' j v') (hb : b ≤ b') : v' ≤ v := by
 obtain ⟨⟨i, i0, i1, i2, i3, e⟩, _⟩ := h
 have := h'.2 i i0 i1 (by omega) (by omega)
 omega
theorem BestA.zero {x : List Int} {j v : Int} (h : BestA x 0 j v) : v = rd x j := by
 obtain ⟨⟨i, i0, i1, i2, i3, e⟩, _⟩ := h
 have : i = j := by omega
 subst this; exact e.symm
theorem BestB.zero {x : List Int} {j v : Int} (h : BestB x 0 j v) : v = rd x j := by
 obtain ⟨⟨i, i0, i1, i2, i3, e⟩, _⟩ := h
 have : i = j := by omega
 subst this; exact e.symm
theorem en_squares {y U L : List Int} (hy : Win y) (hU : U.length = y.length) (hL : L.length = y.length) (bU : ∀ j, 0 ≤ j → j < (y.length : Int) → -1000 ≤ rd U j ∧ rd U j ≤ 1000) (bL : ∀ j, 0 ≤ j → j < (y.length : Int) → -1000 ≤ rd L j ∧ rd L j ≤ 1000) :
 Gives (fun k => T_envelope_squares k y U L) (fun r => r = sg (fun j => ps (rd y j) (rd L j) (rd U j) * ps (rd y j) (rd L j) (rd U j)) y.length) := by
 have y2 := hy.hi
 refine Gives.step ?_
 simp only [T_envelope_squares]
 refine Gives.bind (Q := fun r => r = sg (fun j => ps (rd y j) (rd L j) (rd U j) * ps (rd y j) (rd L j) (rd U j)) y.length) ?_ fun r hr => Gives.now hr
 refine Gives.loop (fun s => 0 ≤ s.2 ∧ s.2 ≤ (y.length : Int) ∧ s.1 = sg (fun j => ps (rd y j) (rd L j) (rd U j) * ps (rd y j) (rd L j) (rd U j)) s.2.toNat) (fun s => ((y.length : Int) - s.2).toNat) ?_ ⟨by simp only []; omega, by simp only []; omega, rfl⟩
 intro ⟨a, i⟩ ⟨i0, i1, i2⟩
 simp only at i0 i1 i2
 unfold T_envelope_squares_l1
 simp only []
 refine Gives.ite (fun c => Gives.opt (at_rd i0 c) (Gives.opt (at_rd i0 (by omega)) (Gives.opt (at_rd i0 (by omega)) (Gives.bind (en_passes _ _ _) fun _ _ => ?_)))) fun c => Gives.now ?_
 · have v := hy.smp.rd i
   have u := bU i i0 c
   have l := bL i i0 c
   have pb : ∀ j : Int, 0 ≤ j → j < (y.length : Int) → 0 ≤ ps (rd y j) (rd L j) (rd U j) * ps (rd y j) (rd L j) (rd U j) ∧ ps (rd y j) (rd L j) (rd U j) * ps (rd y j) (rd L j) (rd U j) ≤ 4000000 := fun j j0 j1 => by
    have v := hy.smp.rd j
    have u := bU j j0 j1
    have l := bL j j0 j1
    have p0 := ps_nonneg (rd y j) (rd L j) (rd U j)
    have p1 := ps_bd (v := rd y j) (lo := rd L j) (hi := rd U j) (B := 2000) (by omega) (by omega) (by omega)
    have := prod_bound (a := ps (rd y j) (rd L j) (rd U j)) (b := ps (rd y j) (rd L j) (rd U j)) (A := 2000) (B := 2000) (by omega) p1 (by omega) p1
    exact ⟨Int.mul_nonneg p0 p0, by omega⟩
   have g := sg_bound (f := fun j => ps (rd y j) (rd L j) (rd U j) * ps (rd y j) (rd L j) (rd U j)) (B := 4000000) (n := i.toNat) fun j h1 h2 => by
    have := pb j h1 (by omega)
    omega
   rw [← i2] at g
   have pi := pb i i0 c
   rw [w64_id (x := rd y i - rd U i) (by omega) (by omega), w64_id (x := rd L i - rd y i) (by omega) (by omega), w64_id (x := i + 1) (by omega) (by omega)]
   have e : imax (imax 0 (rd y i - rd U i)) (rd L i - rd y i) = ps (rd y i) (rd L i) (rd U i) := rfl
   rw [e, w64_id (x := ps (rd y i) (rd L i) (rd U i) * ps (rd y i) (rd L i) (rd U i)) (by omega) (by omega), w64_id (x := a + _) (by omega) (by omega)]
   refine Gives.now ⟨⟨by simp only []; omega, by simp only []; omega, ?_⟩, by simp only []; omega⟩
   simp only []
   rw [show (i + 1).toNat = i.toNat + 1 by omega, sg, ← i2, Int.toNat_of_nonneg i0]
 · have : i.toNat = y.length := by omega
   rw [i2, this]
theorem en_keogh {x y : List Int} {b : Int} (h : Fits x y b) : Gives (fun k => T_envelope_Keogh k x y b) (fun r => r.2 = 0 ∧ ∃ U L : List Int, (∀ j, 0 ≤ j → j < (y.length : Int) → BestA x b j (rd U j)) ∧ (∀ j, 0 ≤ j → j < (y.length : Int) → BestB x b j (rd L j)) ∧ r.1 = sg (fun j => ps (rd y j) (rd L j) (rd U j) * ps (rd y j) (rd L j) (rd U j)) y.length) := by
 have y1 := h.wy.lo
 have y2 := h.wy.hi
 refine Gives.step ?_
 simp only [T_envelope_Keogh]
 refine Gives.bind (wp_distance h) fun d hd => Gives.neg (by simp [hd]) (Gives.bind (env_of h.wx h.lo h.hi (by omega) (by omega) h.ba) fun e he => ?_)
 obtain ⟨⟨e1, e2⟩, e3, e4⟩ := he
 refine Gives.bind (en_squares h.wy (by omega) (by omega) (fun j j0 j1 => (e2 j j0 j1).smp h.wx) fun j j0 j1 => (e4 j j0 j1).smp h.wx) fun r hr => Gives.now ⟨rfl, e.1, e.2, e2, e4, hr⟩

theorem pc_sums {x : List Int} {n : Int} (hx : Win x) (hn : 1 ≤ n) (hn2 : n ≤ 8) (hn3 : n ≤ (x.length : Int)) :
 Gives (fun k => T_pieces_Sums k x n) (fun r => r.2 = 0 ∧ (r.1.length : Int) = n ∧ ∀ p, 0 ≤ p → p < n → rd r.1 p = psum x (cut x.length n (p + 1)) - psum x (cut x.length n p)) := by
 have x2 := hx.hi
 refine Gives.step ?_
 simp only [T_pieces_Sums]
 refine Gives.bind (pc_check hx hn hn2 hn3) fun e he => ?_
 subst he
 refine Gives.neg (by simp) (Gives.pos (by unfold LIM; omega) (Gives.bind (pc_all _ _) fun _ _ => ?_))
 refine Gives.bind (Gives.rangeT (m := (x.length : Int)) (n := n) hn hn2 (by omega) (by omega) (fun p s => s.length = n.toNat ∧ ∀ q, 0 ≤ q → q < p → rd s q = psum x (cut x.length n (q + 1)) - psum x (cut x.length n q)) ?_ ⟨by simp, fun q h1 h2 => by omega⟩) fun r hr => ?_
 · intro p s h0 h1 ⟨i1, i2⟩
   obtain ⟨c1, c2, c3, c4⟩ := pc_part hx hn h0 h1
   unfold T_pieces_Sums_r1
   refine Gives.pos (by omega) (Gives.bind c4 fun v hv => Gives.pos (by omega) (Gives.now ⟨_, rfl, by simp [i1], fun q h2 h3 => ?_⟩))
   by_cases c : q = p
   · subst c; rw [rd_set_eq h2 (by omega)]; exact hv
   · rw [rd_set_ne h0 h2 (by omega)]; exact i2 q h2 (by omega)
 · obtain ⟨s', rfl, k1, k2⟩ := hr
   simp only []
   rw [drop_take_len k1]
   exact Gives.now ⟨rfl, by simp only []; omega, k2⟩

/-! The improved bound. -/
/-- What a window passes an envelope by. -/
def kg (y L U : List Int) : Int := sg (fun j => ps (rd y j) (rd L j) (rd U j) * ps (rd y j) (rd L j) (rd U j)) y.length
theorem kg_bound {y L U : List Int} (hy : Win y) (bU : ∀ j, 0 ≤ j → j < (y.length : Int) → -1000 ≤ rd U j ∧ rd U j ≤ 1000) (bL : ∀ j, 0 ≤ j → j < (y.length : Int) → -1000 ≤ rd L j ∧ rd L j ≤ 1000) : 0 ≤ kg y L U ∧ kg y L U ≤ 4000000 * 32 := by
 have y2 := hy.hi
 have g : ∀ j : Int, 0 ≤ j → j < (y.length : Int) → 0 ≤ ps (rd y j) (rd L j) (rd U j) * ps (rd y j) (rd L j) (rd U j) ∧ ps (rd y j) (rd L j) (rd U j) * ps (rd y j) (rd L j) (rd U j) ≤ 4000000 := fun j j0 j1 => by
  have v := hy.smp.rd j
  have u := bU j j0 j1
  have l := bL j j0 j1
  have p0 := ps_nonneg (rd y j) (rd L j) (rd U j)
  have p1 := ps_bd (v := rd y j) (lo := rd L j) (hi := rd U j) (B := 2000) (by omega) (by omega) (by omega)
  have := prod_bound (a := ps (rd y j) (rd L j) (rd U j)) (b := ps (rd y j) (rd L j) (rd U j)) (A := 2000) (B := 2000) (by omega) p1 (by omega) p1
  exact ⟨Int.mul_nonneg p0 p0, by omega⟩
 have b := sg_bound (f := fun j => ps (rd y j) (rd L j) (rd U j) * ps (rd y j) (rd L j) (rd U j)) (B := 4000000) (n := y.length) fun j h1 h2 => by
  have := g j h1 h2
  omega
 have n := sg_nonneg (f := fun j => ps (rd y j) (rd L j) (rd U j) * ps (rd y j) (rd L j) (rd U j)) (n := y.length) fun j h1 h2 => (g j h1 h2).1
 unfold kg
 omega
theorem win_of {z : List Int} {n : Nat} (h : z.length = n) (h1 : 2 ≤ n) (h2 : n ≤ 32) (hz : ∀ j : Int, 0 ≤ j → j < (n : Int) → -1000 ≤ rd z j ∧ rd z j ≤ 1000) : Win z :=
 ⟨by omega, by omega, fun v hv => by
  obtain ⟨i, hi, rfl⟩ := List.getElem_of_mem hv
  have e : rd z (i : Int) = z[i] := by unfold rd; rw [List.getD_eq_getElem?_getD]; simp [hi]
  rw [← e]
  exact hz i (by omega) (by omega)⟩
theorem en_improved {x y : List Int} {b : Int} (h : Fits x y b) : Gives (fun k => T_envelope_Improved k x y b) (fun r => r.2 = 0 ∧ ∃ U L p U' L' : List Int, (∀ j, 0 ≤ j → j < (y.length : Int) → BestA x b j (rd U j)) ∧ (∀ j, 0 ≤ j → j < (y.length : Int) → BestB x b j (rd L j)) ∧ Win p ∧ p.length = y.length ∧ (∀ j, 0 ≤ j → j < (y.length : Int) → rd p j = imin (imax (rd y j) (rd L j)) (rd U j)) ∧
 (∀ j, 0 ≤ j → j < (x.length : Int) → BestA p b j (rd U' j)) ∧ (∀ j, 0 ≤ j → j < (x.length : Int) → BestB p b j (rd L' j)) ∧ r.1 = kg y L U + kg x L' U') := by
 have x1 := h.wx.lo
 have x2 := h.wx.hi
 have y1 := h.wy.lo
 have y2 := h.wy.hi
 refine Gives.step ?_
 simp only [T_envelope_Improved]
 refine Gives.bind (wp_distance h) fun d hd => Gives.neg (by simp [hd]) (Gives.bind (env_of h.wx h.lo h.hi (by omega) (by omega) h.ba) fun e he => Gives.pos (by unfold LIM; omega) ?_)
 obtain ⟨⟨e1, e2⟩, e3, e4⟩ := he
 generalize e.1 = U at *
 generalize e.2 = L at *
 have bU : ∀ j, 0 ≤ j → j < (y.length : Int) → -1000 ≤ rd U j ∧ rd U j ≤ 1000 := fun j j0 j1 => (e2 j j0 j1).smp h.wx
 have bL : ∀ j, 0 ≤ j → j < (y.length : Int) → -1000 ≤ rd L j ∧ rd L j ≤ 1000 := fun j j0 j1 => (e4 j j0 j1).smp h.wx
 refine Gives.bind (Q := fun r => r.length = y.length ∧ ∀ j, 0 ≤ j → j < (y.length : Int) → rd r j = imin (imax (rd y j) (rd L j)) (rd U j)) ?_ fun p hp => ?_
 · refine Gives.loop (fun s => 0 ≤ s.1 ∧ s.1 ≤ (y.length : Int) ∧ s.2.length = y.length ∧ ∀ j, 0 ≤ j → j < s.1 → rd s.2 j = imin (imax (rd y j) (rd L j)) (rd U j)) (fun s => ((y.length : Int) - s.1).toNat) ?_ ⟨by simp only []; omega, by simp only []; omega, by simp, fun j j0 j1 => by simp only at j1; omega⟩
   intro ⟨i, z⟩ ⟨i0, i1, i2, i3⟩
   simp only at i0 i1 i2 i3
   unfold T_envelope_Improved_l1
   simp only []
   refine Gives.ite (fun c => Gives.opt (at_rd i0 c) (Gives.opt (at_rd i0 (by omega)) (Gives.opt (at_rd i0 (by omega)) (Gives.pos (by omega) ?_)))) fun c => Gives.now ⟨i2, fun j j0 j1 => i3 j j0 (by omega)⟩
   rw [w64_id (x := i + 1) (by omega) (by omega)]
   refine Gives.now ⟨⟨by simp only []; omega, by simp only []; omega, by simpa using i2, fun j j0 j1 => ?_⟩, by simp only []; omega⟩
   simp only at j1 ⊢
   by_cases ej : j = i
   · subst ej; rw [rd_set_eq j0 (by omega)]
   · rw [rd_set_ne i0 j0 (by omega)]; exact i3 j j0 (by omega)
 obtain ⟨p1, p2⟩ := hp
 rw [drop_take_len (xs := p) (n := (y.length : Int).toNat) (by omega)]
 have wp : Win p := win_of p1 y1 y2 fun j j0 j1 => by
  have a := bU j j0 j1
  have b := bL j j0 j1
  have c := h.wy.smp.rd j
  rw [p2 j j0 j1]
  unfold imin imax
  split <;> split <;> omega
 have ab := h.ab
 have ba := h.ba
 refine Gives.bind (en_squares h.wy (by omega) (by omega) bU bL) fun s hs => Gives.bind (env_of wp h.lo h.hi (by omega) (by omega) (by omega)) fun g hg => ?_
 obtain ⟨⟨g1, g2⟩, g3, g4⟩ := hg
 have bU' : ∀ j, 0 ≤ j → j < (x.length : Int) → -1000 ≤ rd g.1 j ∧ rd g.1 j ≤ 1000 := fun j j0 j1 => (g2 j j0 j1).smp wp
 have bL' : ∀ j, 0 ≤ j → j < (x.length : Int) → -1000 ≤ rd g.2 j ∧ rd g.2 j ≤ 1000 := fun j j0 j1 => (g4 j j0 j1).smp wp
 refine Gives.bind (en_squares h.wx (by omega) (by omega) bU' bL') fun t ht => ?_
 have k1 := kg_bound h.wy bU bL
 have k2 := kg_bound h.wx bU' bL'
 have hs' : s = kg y L U := hs
 have ht' : t = kg x g.2 g.1 := ht
 rw [hs', ht', w64_id (x := kg y L U + kg x g.2 g.1) (by omega) (by omega)]
 exact Gives.now ⟨rfl, U, L, p, g.1, g.2, e2, e4, wp, p1, p2, g2, g4, rfl⟩

/-! The greatest common divisor. -/
theorem gcd_step (m n : Nat) (h : n ≠ 0) : Nat.gcd n (m % n) = Nat.gcd m n := by
 rw [Nat.gcd_comm m n, Nat.gcd_rec n m, Nat.gcd_comm]
theorem tmod_nat (m n : Nat) : (m : Int).tmod n = ((m % n : Nat) : Int) := by
 rw [Int.tmod_eq_emod_of_nonneg (by omega)]; rfl
theorem ra_divisor (m n : Nat) : Gives (fun k => T_ratio_divisor k m n) (fun r => r = (Nat.gcd m n : Nat)) := by
 refine Gives.step ?_
 simp only [T_ratio_divisor]
 refine Gives.bind (Q := fun r => r = ((Nat.gcd m n : Nat) : Int)) ?_ fun r hr => Gives.now hr
 refine Gives.loop (fun s => ∃ a b : Nat, s = ((a : Int), (b : Int)) ∧ Nat.gcd a b = Nat.gcd m n) (fun s => s.2.toNat) ?_ ⟨m, n, rfl, rfl⟩
 intro s ⟨a, b, hs, hg⟩
 subst hs
 unfold T_ratio_divisor_l1
 simp only []
 by_cases c : b = 0
 · subst c
   refine Gives.neg (by simp) (Gives.now ?_)
   rw [← hg]; simp
 · refine Gives.pos (by simp; omega) (Gives.pos (by omega) (Gives.now ⟨⟨b, a % b, by rw [tmod_nat], by rw [gcd_step a b c, hg]⟩, ?_⟩))
   simp only [tmod_nat]
   have := Nat.mod_lt a (show 0 < b by omega)
   omega
theorem ra_common (m n : Nat) : Gives (fun k => T_ref01_common k m n) (fun r => r = (Nat.gcd m n : Nat)) := by
 refine Gives.step ?_
 simp only [T_ref01_common]
 refine Gives.bind (Q := fun r => r = ((Nat.gcd m n : Nat) : Int)) ?_ fun r hr => Gives.now hr
 refine Gives.loop (fun s => ∃ a b : Nat, s = ((a : Int), (b : Int)) ∧ Nat.gcd a b = Nat.gcd m n) (fun s => s.2.toNat) ?_ ⟨m, n, rfl, rfl⟩
 intro s ⟨a, b, hs, hg⟩
 subst hs
 unfold T_ref01_common_l1
 simp only []
 by_cases c : b = 0
 · subst c
   refine Gives.neg (by simp) (Gives.now ?_)
   rw [← hg]; simp
 · refine Gives.pos (by omega) (Gives.pos (by omega) (Gives.now ⟨⟨b, a % b, by rw [tmod_nat], by rw [gcd_step a b c, hg]⟩, ?_⟩))
   simp only [tmod_nat]
   have := Nat.mod_lt a (show 0 < b by omega)
   omega
theorem tdiv_nat (m n : Nat) : (m : Int).tdiv n = ((m / n : Nat) : Int) := by
 rw [Int.tdiv_eq_ediv_of_nonneg (by omega)]; rfl
theorem ra_Make {m n : Nat} (hn : 0 < n) (h1 : m ≤ 2305843009213693952) (h2 : n ≤ 1152921504606846976) : Gives (fun k => T_ratio_Make k m n) (fun r => r = (((m / Nat.gcd m n : Nat) : Int), ((n / Nat.gcd m n : Nat) : Int), 0)) := by
 have g0 : 0 < Nat.gcd m n := Nat.gcd_pos_of_pos_right m hn
 have d1 : m / Nat.gcd m n ≤ m := Nat.div_le_self _ _
 have d2 : n / Nat.gcd m n ≤ n := Nat.div_le_self _ _
 have d3 : 0 < n / Nat.gcd m n := Nat.div_pos (Nat.gcd_le_right m hn) g0
 refine Gives.step ?_
 simp only [T_ratio_Make]
 refine Gives.neg (by simp; omega) (Gives.bind (ra_divisor m n) fun g hg => ?_)
 subst hg
 simp only [tdiv_nat]
 generalize m / Nat.gcd m n = qa at d1 ⊢
 generalize n / Nat.gcd m n = qb at d2 d3 ⊢
 rw [w64_id (x := (qa : Int)) (by omega) (by omega), w64_id (x := (qb : Int)) (by omega) (by omega)]
 refine Gives.pos (by omega) (Gives.bind (Q := fun _ => True) ?_ fun _ _ => Gives.neg (by simp; omega) (Gives.now rfl))
 refine Gives.step ?_
 simp only [T_ratio_within]
 exact Gives.now trivial

/-! Sums of ratios. -/
/-- p / q is T / M, in lowest terms. -/
structure Rep (p q T M : Nat) : Prop where
 pos : 0 < q
 cop : Nat.gcd p q = 1
 eq : p * M = T * q
theorem Rep.dvd {p q T M : Nat} (h : Rep p q T M) : q ∣ M := by
 have : q ∣ p * M := ⟨T, by rw [h.eq, Nat.mul_comm]⟩
 exact Nat.Coprime.dvd_of_dvd_mul_left (Nat.coprime_comm.1 h.cop) this
theorem Rep.le {p q T M : Nat} (h : Rep p q T M) (hM : 0 < M) : p ≤ T ∧ q ≤ M := by
 obtain ⟨m, hm⟩ := h.dvd
 have e := h.eq
 have hm0 : 0 < m := by
  rcases Nat.eq_zero_or_pos m with c | c
  · subst c; omega
  · exact c
 refine ⟨?_, Nat.le_of_dvd hM h.dvd⟩
 have : p * m = T := by
  have h1 : q * (p * m) = q * T := by
   rw [hm] at e
   calc q * (p * m) = p * (q * m) := by grind
    _ = T * q := e
    _ = q * T := Nat.mul_comm _ _
  exact Nat.eq_of_mul_eq_mul_left h.pos h1
 calc p = p * 1 := by omega
  _ ≤ p * m := Nat.mul_le_mul_left p hm0
  _ = T := this
theorem Rep.uniq {p q p' q' T M : Nat} (h : Rep p q T M) (k : Rep p' q' T M) (hM : 0 < M) : p = p' ∧ q = q' := by
 have e : p * q' = p' * q := by
  have h1 : M * (p * q') = M * (p' * q) := by
   calc M * (p * q') = (p * M) * q' := by grind
    _ = (T * q) * q' := by rw [h.eq]
    _ = (T * q') * q := by grind
    _ = (p' * M) * q := by rw [k.eq]
    _ = M * (p' * q) := by grind
  exact Nat.eq_of_mul_eq_mul_left hM h1
 have d1 : q ∣ q' := Nat.Coprime.dvd_of_dvd_mul_left (Nat.coprime_comm.1 h.cop) ⟨p', by rw [e, Nat.mul_comm]⟩
 have d2 : q' ∣ q := Nat.Coprime.dvd_of_dvd_mul_left (Nat.coprime_comm.1 k.cop) ⟨p, by rw [← e, Nat.mul_comm]⟩
 have eq : q = q' := Nat.dvd_antisymm d1 d2
 subst eq
 exact ⟨Nat.eq_of_mul_eq_mul_right h.pos e, rfl⟩
theorem Rep.make {m n w : Nat} (hn : 0 < n) : Rep (m / Nat.gcd m n) (n / Nat.gcd m n) (m * w) (n * w) := by
 have g0 : 0 < Nat.gcd m n := Nat.gcd_pos_of_pos_right m hn
 refine ⟨Nat.div_pos (Nat.gcd_le_right m hn) g0, by rw [Nat.gcd_div (Nat.gcd_dvd_left m n) (Nat.gcd_dvd_right m n), Nat.div_self g0], ?_⟩
 obtain ⟨a, ha⟩ := Nat.gcd_dvd_left m n
 obtain ⟨b, hb⟩ := Nat.gcd_dvd_right m n
 generalize Nat.gcd m n = g at ha hb g0
 subst ha hb
 rw [Nat.mul_div_cancel_left _ g0, Nat.mul_div_cancel_left _ g0]
 grind
/-- The sum of two, as the function makes it. -/
theorem Rep.add {a b c d T U M : Nat} (h : Rep a b T M) (k : Rep c d U M) (hM : 0 < M) :
 let g := Nat.gcd b d
 let t := a * (d / g) + c * (b / g)
 let e := Nat.gcd t g
 Rep (t / e) (b / g * (d / e)) (T + U) M ∧ t ≤ T + U ∧ b / g * (d / e) ≤ M := by
 intro g t e
 have g0 : 0 < g := Nat.gcd_pos_of_pos_right b k.pos
 obtain ⟨B, hB⟩ : g ∣ b := Nat.gcd_dvd_left b d
 obtain ⟨D, hD⟩ : g ∣ d := Nat.gcd_dvd_right b d
 have eB : b / g = B := by rw [hB, Nat.mul_div_cancel_left _ g0]
 have eD : d / g = D := by rw [hD, Nat.mul_div_cancel_left _ g0]
 have cBD : Nat.gcd B D = 1 := by
  have := Nat.gcd_div (Nat.gcd_dvd_left b d) (Nat.gcd_dvd_right b d)
  rw [show Nat.gcd b d = g from rfl, eB, eD, Nat.div_self g0] at this
  exact this
 have ht : t = a * D + c * B := by show a * (d / g) + c * (b / g) = _; rw [eB, eD]
 have e0 : 0 < e := Nat.gcd_pos_of_pos_right t g0
 obtain ⟨t', ht'⟩ : e ∣ t := Nat.gcd_dvd_left t g
 obtain ⟨g', hg'⟩ : e ∣ g := Nat.gcd_dvd_right t g
 have et : t / e = t' := by rw [ht', Nat.mul_div_cancel_left _ e0]
 have ed : d / e = g' * D := by
  rw [hD, hg', Nat.mul_assoc, Nat.mul_div_cancel_left _ e0]
 have B0 : 0 < B := by
  rcases Nat.eq_zero_or_pos B with c | c
  · have := h.pos; subst c; omega
  · exact c
 have D0 : 0 < D := by
  rcases Nat.eq_zero_or_pos D with c | c
  · have := k.pos; subst c; omega
  · exact c
 have g'0 : 0 < g' := by
  rcases Nat.eq_zero_or_pos g' with c | c
  · subst c; omega
  · exact c
 have c1 : Nat.gcd t' g' = 1 := by
  have := Nat.gcd_div (Nat.gcd_dvd_left t g) (Nat.gcd_dvd_right t g)
  rw [show Nat.gcd t g = e from rfl, et, Nat.div_self e0] at this
  have e2 : g / e = g' := by rw [hg', Nat.mul_div_cancel_left _ e0]
  rwa [e2] at this
 have caB : Nat.Coprime a B := Nat.Coprime.coprime_dvd_right ⟨g, by rw [hB, Nat.mul_comm]⟩ h.cop
 have ccD : Nat.Coprime c D := Nat.Coprime.coprime_dvd_right ⟨g, by rw [hD, Nat.mul_comm]⟩ k.cop
 have ctB : Nat.Coprime t B := by
  show Nat.gcd t B = 1
  rw [ht, Nat.gcd_add_mul_right_left]
  exact Nat.Coprime.mul_left caB (Nat.coprime_comm.1 cBD)
 have ctD : Nat.Coprime t D := by
  show Nat.gcd t D = 1
  rw [ht, Nat.gcd_mul_right_add_left]
  exact Nat.Coprime.mul_left ccD cBD
 have td : t' ∣ t := ⟨e, by rw [ht', Nat.mul_comm]⟩
 have c2 : Nat.Coprime t' B := Nat.Coprime.coprime_dvd_left td ctB
 have c3 : Nat.Coprime t' D := Nat.Coprime.coprime_dvd_left td ctD
 have main : t * M = (T + U) * (g * B * D) := by
  have e1 : a * M = T * (g * B) := by rw [← hB]; exact h.eq
  have e2 : c * M = U * (g * D) := by rw [← hD]; exact k.eq
  calc t * M = (a * M) * D + (c * M) * B := by rw [ht]; grind
   _ = T * (g * B) * D + U * (g * D) * B := by rw [e1, e2]
   _ = (T + U) * (g * B * D) := by grind
 have lcm : g * B * D ∣ M := by
  have h1 : b ∣ M := h.dvd
  have h2 : d ∣ M := k.dvd
  have : Nat.lcm b d ∣ M := Nat.lcm_dvd h1 h2
  have e3 : Nat.lcm b d = g * B * D := by
   show b * d / g = _
   rw [hD, ← Nat.mul_assoc, Nat.mul_comm b g, Nat.mul_assoc, Nat.mul_div_cancel_left _ g0, hB]
  rwa [e3] at this
 obtain ⟨w, hw⟩ := lcm
 have w0 : 0 < w := by
  rcases Nat.eq_zero_or_pos w with c | c
  · subst c; omega
  · exact c
 have L0 : 0 < g * B * D := Nat.mul_pos (Nat.mul_pos g0 B0) D0
 rw [et, eB, ed]
 refine ⟨⟨Nat.mul_pos B0 (Nat.mul_pos g'0 D0), Nat.Coprime.mul_right c2 (Nat.Coprime.mul_right c1 c3), ?_⟩, ?_, ?_⟩
 · have h1 : e * (t' * M) = e * ((T + U) * (B * (g' * D))) := by
    calc e * (t' * M) = t * M := by rw [ht']; grind
     _ = (T + U) * (g * B * D) := main
     _ = e * ((T + U) * (B * (g' * D))) := by rw [hg']; grind
   exact Nat.eq_of_mul_eq_mul_left e0 h1
 · have h1 : (g * B * D) * (t * w) = (g * B * D) * (T + U) := by
    calc (g * B * D) * (t * w) = t * (g * B * D * w) := by grind
     _ = t * M := by rw [← hw]
     _ = (T + U) * (g * B * D) := main
     _ = _ := Nat.mul_comm _ _
   have h2 := Nat.eq_of_mul_eq_mul_left L0 h1
   calc t = t * 1 := by omega
    _ ≤ t * w := Nat.mul_le_mul_left t w0
    _ = T + U := h2
 · have : B * (g' * D) ∣ M := by
    refine ⟨e * w, ?_⟩
    rw [hw, hg']; grind
   exact Nat.le_of_dvd hM this
/-! Words of 64 bits. -/

/-! Sums of ratios, as they are reckoned. -/
theorem u64_id {x : Int} (h1 : 0 ≤ x) (h2 : x < 18446744073709551616) : IntKind.wrap .u64 x = x := by
 show (if (false && decide (x % 18446744073709551616 ≥ 9223372036854775808)) = true then x % 18446744073709551616 - 18446744073709551616 else x % 18446744073709551616) = x
 simp only [Bool.false_and, Bool.false_eq_true, if_false]
 omega
theorem and_mask {x : Int} (h1 : 0 ≤ x) (h2 : x < 18446744073709551616) : bAnd .u64 x 4294967295 = x % 4294967296 := by
 obtain ⟨n, rfl⟩ : ∃ n : Nat, x = n := ⟨x.toNat, by omega⟩
 unfold bAnd
 have e : (BitVec.ofInt (IntKind.bits .u64) (n : Int) &&& BitVec.ofInt (IntKind.bits .u64) 4294967295).toNat = n % 4294967296 := by
  show (BitVec.ofInt 64 (n : Int) &&& BitVec.ofInt 64 4294967295).toNat = _
  rw [BitVec.toNat_and, BitVec.ofInt_natCast, BitVec.toNat_ofNat, Nat.mod_eq_of_lt (by omega)]
  have : (BitVec.ofInt 64 4294967295).toNat = 2 ^ 32 - 1 := by decide
  rw [this, Nat.and_two_pow_sub_one_eq_mod]
 rw [e, u64_id (by omega) (by omega)]
 rfl
/-- The high word of a product that fits one word. -/
def hiE (x y : Int) : Int := IntKind.wrap .u64 ((IntKind.wrap .u64 ((IntKind.wrap .u64 ((x.fdiv (2 ^ 32)) * (y.fdiv (2 ^ 32)))) + ((IntKind.wrap .u64 ((IntKind.wrap .u64 ((x.fdiv (2 ^ 32)) * (bAnd .u64 y 4294967295))) + ((IntKind.wrap .u64 ((bAnd .u64 x 4294967295) * (bAnd .u64 y 4294967295))).fdiv (2 ^ 32)))).fdiv (2 ^ 32)))) + ((IntKind.wrap .u64 ((bAnd .u64 (IntKind.wrap .u64 ((IntKind.wrap .u64 ((x.fdiv (2 ^ 32)) * (bAnd .u64 y 4294967295))) + ((IntKind.wrap .u64 ((bAnd .u64 x 4294967295) * (bAnd .u64 y 4294967295))).fdiv (2 ^ 32)))) 4294967295) + (IntKind.wrap .u64 ((bAnd .u64 x 4294967295) * (y.fdiv (2 ^ 32)))))).fdiv (2 ^ 32)))
theorem hi_zero {x y : Int} (hx : 0 ≤ x) (hx2 : x < 18446744073709551616) (hy : 0 ≤ y) (hy2 : y < 4294967296) (h : x * y < 18446744073709551616) : hiE x y = 0 := by
 have p : ((2 : Int) ^ 32) = 4294967296 := by decide
 have f1 : y.fdiv 4294967296 = 0 := by rw [Int.fdiv_eq_ediv_of_nonneg _ (by omega)]; omega
 have f2 : x.fdiv 4294967296 = x / 4294967296 := Int.fdiv_eq_ediv_of_nonneg _ (by omega)
 unfold hiE
 rw [p, f1, f2, and_mask hx hx2, and_mask hy (by omega), Int.emod_eq_of_lt hy (by omega), Int.mul_zero, Int.mul_zero]
 have dx := Int.emod_add_mul_ediv x 4294967296
 have q0 : 0 ≤ x / 4294967296 := by omega
 have r0 : 0 ≤ x % 4294967296 := by omega
 generalize x / 4294967296 = x1 at dx q0 ⊢
 generalize x % 4294967296 = x0 at dx r0 ⊢
 have e : x * y = x0 * y + 4294967296 * (x1 * y) := by rw [← dx]; grind
 have m0 : 0 ≤ x0 * y := Int.mul_nonneg r0 hy
 have m1 : 0 ≤ x1 * y := Int.mul_nonneg q0 hy
 have z : IntKind.wrap .u64 0 = 0 := rfl
 rw [z, u64_id m1 (by omega), u64_id m0 (by omega)]
 have f3 : (x0 * y).fdiv 4294967296 = (x0 * y) / 4294967296 := Int.fdiv_eq_ediv_of_nonneg _ (by omega)
 rw [f3, u64_id (x := x1 * y + x0 * y / 4294967296) (by omega) (by omega)]
 have f4 : (x1 * y + x0 * y / 4294967296).fdiv 4294967296 = 0 := by rw [Int.fdiv_eq_ediv_of_nonneg _ (by omega)]; omega
 rw [f4, and_mask (by omega) (by omega), Int.emod_eq_of_lt (by omega) (by omega)]
 simp only [Int.add_zero, Int.zero_add, z]
 rw [u64_id (x := x1 * y + x0 * y / 4294967296) (by omega) (by omega), f4]
 rfl
theorem ra_valid {p q : Nat} (h : Nat.gcd p q = 1) (h0 : 0 < q) (h1 : p ≤ 2305843009213693952) (h2 : q ≤ 1152921504606846976) : Gives (fun k => T_ratio_Valid k p q) (· = true) := by
 refine Gives.step ?_
 simp only [T_ratio_Valid]
 refine Gives.bind (Q := fun b => b = true) ?_ fun b hb => Gives.now hb
 refine Gives.bind (Q := fun _ => True) ?_ fun _ _ => Gives.pos (by simp; omega) (Gives.bind (ra_divisor p q) fun g hg => Gives.now ?_)
 · refine Gives.step ?_
   simp only [T_ratio_within]
   exact Gives.now trivial
 · rw [hg, h]; rfl
theorem ra_mul (x y : Int) : Gives (fun k => T_math_bits_Mul64 k x y) (fun _ => True) := by
 refine Gives.step ?_
 simp only [T_math_bits_Mul64]
 exact Gives.now trivial
theorem ra_div {y lo : Int} (h : 0 < y) : Gives (fun k => T_math_bits_Div64 k 0 lo y) (fun _ => True) := by
 refine Gives.step ?_
 simp only [T_math_bits_Div64]
 exact Gives.neg (by omega) (Gives.neg (by omega) (Gives.pos trivial (Gives.pos (by omega) (Gives.now trivial))))
theorem ra_addT {x y c : Int} (hx : 0 ≤ x) (hy : 0 ≤ y) (hc : c = 0) (h : x + y < 18446744073709551616) : Gives (fun k => addT k x y c) (fun r => r = (x + y, 0)) := by
 subst hc
 refine Gives.step ?_
 simp only [addT]
 refine Gives.pos (by decide) (Gives.now ?_)
 have e1 : (x.toNat + y.toNat + (0 : Int).toNat) % 18446744073709551616 = x.toNat + y.toNat := by
  rw [Nat.mod_eq_of_lt (by omega)]; rfl
 have e2 : (x.toNat + y.toNat + (0 : Int).toNat) / 18446744073709551616 = 0 := by
  rw [Nat.div_eq_of_lt (by omega)]
 rw [e1, e2]
 simp only [Prod.mk.injEq]
 exact ⟨by show ((x.toNat + y.toNat : Nat) : Int) = _; omega, rfl⟩
theorem ra_Add {a b c d T U M : Nat} (h : Rep a b T M) (k : Rep c d U M) (hM : 0 < M) (hM2 : M < 4294967296) (hT : T + U < 1152921504606846976) :
 Gives (fun n => T_ratio_Add n a b c d) (fun r => ∃ p q : Nat, r = ((p : Int), (q : Int), 0) ∧ Rep p q (T + U) M) := by
 have l1 := h.le hM
 have l2 := k.le hM
 have bp := h.pos
 have dp := k.pos
 have R := Rep.add h k hM
 simp only [] at R
 obtain ⟨hr, ht, hq⟩ := R
 have g0 : 0 < Nat.gcd b d := Nat.gcd_pos_of_pos_right b k.pos
 refine Gives.step ?_
 simp only [T_ratio_Add]
 refine Gives.bind (Q := fun v => v = false) ?_ fun v hv => ?_
 · refine Gives.bind (ra_valid h.cop h.pos (by omega) (by omega)) fun v hv => ?_
   subst hv
   refine Gives.neg (by simp) (Gives.bind (ra_valid k.cop k.pos (by omega) (by omega)) fun v hv => ?_)
   subst hv
   exact Gives.now rfl
 subst hv
 refine Gives.neg (by simp) (Gives.bind (ra_divisor b d) fun g hg => ?_)
 subst hg
 have eg : Nat.gcd b d ≤ b := Nat.gcd_le_left d h.pos
 simp only [tdiv_nat]
 generalize hg : Nat.gcd b d = g at hr ht hq g0 eg ⊢
 have qb : b / g ≤ b := Nat.div_le_self _ _
 have qd : d / g ≤ d := Nat.div_le_self _ _
 generalize hB : b / g = B at hr ht hq qb ⊢
 generalize hD : d / g = D at hr ht hq qd ⊢
 have wB : w64 ((B : Nat) : Int) = B := w64_id (by omega) (by omega)
 have wD : w64 ((D : Nat) : Int) = D := w64_id (by omega) (by omega)
 rw [wB, wD]
 have uB : IntKind.wrap .u64 ((B : Nat) : Int) = B := u64_id (by omega) (by omega)
 have uD : IntKind.wrap .u64 ((D : Nat) : Int) = D := u64_id (by omega) (by omega)
 have ua : IntKind.wrap .u64 ((a : Nat) : Int) = a := u64_id (by omega) (by omega)
 have uc : IntKind.wrap .u64 ((c : Nat) : Int) = c := u64_id (by omega) (by omega)
 have ug : IntKind.wrap .u64 ((g : Nat) : Int) = g := u64_id (by omega) (by omega)
 have ud : IntKind.wrap .u64 ((d : Nat) : Int) = d := u64_id (by omega) (by omega)
 rw [uB, uD, ua, uc, ug, ud]
 have pa : ((a : Int) * D) = ((a * D : Nat) : Int) := by simp
 have pc : ((c : Int) * B) = ((c * B : Nat) : Int) := by simp
 have h1 := hi_zero (x := a) (y := D) (by omega) (by omega) (by omega) (by omega) (by rw [pa]; omega)
 have h2 := hi_zero (x := c) (y := B) (by omega) (by omega) (by omega) (by omega) (by rw [pc]; omega)
 unfold hiE at h1 h2
 rw [h1, h2, pa, pc, u64_id (x := ((a * D : Nat) : Int)) (by omega) (by omega), u64_id (x := ((c * B : Nat) : Int)) (by omega) (by omega)]
 refine Gives.pos (by omega) (Gives.bind (ra_mul _ _) fun _ _ => Gives.pos (by omega) (Gives.bind (ra_mul _ _) fun _ _ => ?_))
 refine Gives.bind (ra_addT (by omega) (by omega) rfl (by omega)) fun s hs => ?_
 subst hs
 refine Gives.bind (ra_addT (by omega) (by omega) rfl (by omega)) fun s hs => ?_
 subst hs
 simp only []
 have et : (((a * D : Nat) : Int) + ((c * B : Nat) : Int)) = ((a * D + c * B : Nat) : Int) := by omega
 rw [et]
 generalize a * D + c * B = t at hr ht hq ⊢
 have z : ((0 : Int) + 0).tmod (g : Int) = 0 := by simp
 rw [z, tmod_nat]
 refine Gives.pos (by omega) (Gives.bind (ra_div (by omega)) fun _ _ => ?_)
 have tg : t % g < g := Nat.mod_lt _ g0
 rw [w64_id (x := ((t % g : Nat) : Int)) (by omega) (by omega)]
 refine Gives.bind (ra_divisor (t % g) g) fun e he => ?_
 subst he
 have ee : Nat.gcd (t % g) g = Nat.gcd t g := by rw [Nat.gcd_comm t g, Nat.gcd_rec g t]
 rw [ee]
 have e0 : 0 < Nat.gcd t g := Nat.gcd_pos_of_pos_right t g0
 have e1 : Nat.gcd t g ≤ g := Nat.gcd_le_right t g0
 generalize Nat.gcd t g = e at hr hq e0 e1 ⊢
 have ue : IntKind.wrap .u64 ((e : Nat) : Int) = e := u64_id (by omega) (by omega)
 rw [ue, tdiv_nat, tdiv_nat]
 have q1 : t / e ≤ t := Nat.div_le_self _ _
 have q2 : d / e ≤ d := Nat.div_le_self _ _
 have q3 : 0 < B * (d / e) := hr.pos
 generalize t / e = p at hr q1 ⊢
 generalize d / e = f at hr hq q2 q3 ⊢
 rw [u64_id (x := ((f : Nat) : Int)) (by omega) (by omega), u64_id (x := ((p : Nat) : Int)) (by omega) (by omega)]
 have pf : ((B : Int) * f) = ((B * f : Nat) : Int) := by simp
 have h3 := hi_zero (x := B) (y := f) (by omega) (by omega) (by omega) (by omega) (by rw [pf]; omega)
 unfold hiE at h3
 rw [h3, pf, u64_id (x := ((B * f : Nat) : Int)) (by omega) (by omega)]
 have z2 : (0 : Int) + 0 = 0 := by omega
 rw [z2]
 refine Gives.neg (by omega) (Gives.bind (ra_div (by omega)) fun _ _ => Gives.pos (by omega) (Gives.pos (by omega) (Gives.bind (ra_mul _ _) fun _ _ => Gives.neg ?_ (Gives.now ?_))))
 · simp only [Bool.or_eq_true, decide_eq_true_eq]; omega
 · rw [w64_id (x := ((p : Nat) : Int)) (by omega) (by omega), w64_id (x := ((B * f : Nat) : Int)) (by omega) (by omega)]
   exact ⟨p, B * f, rfl, hr⟩

theorem r01_valid {p q : Nat} (h : Nat.gcd p q = 1) (h0 : 0 < q) (h1 : p ≤ 2305843009213693952) (h2 : q ≤ 1152921504606846976) : Gives (fun k => T_ref01_Valid k p q) (· = true) := by
 refine Gives.step ?_
 simp only [T_ref01_Valid]
 refine Gives.bind (Q := fun b => b = true) ?_ fun b hb => Gives.now hb
 refine Gives.pos (by simp; omega) (Gives.bind (ra_common p q) fun g hg => Gives.now ?_)
 rw [hg, h]; rfl

/-! The order of ratios. -/
theorem ro_order : ∀ (n a b c d : Nat), b + d < n → 0 < b → 0 < d → a < 4611686018427387904 → c < 4611686018427387904 → b < 4611686018427387904 → d < 4611686018427387904 → Gives (fun k => T_ref01_order k a b c d) (fun r => (a * d < c * b ∧ r = -1) ∨ (a * d = c * b ∧ r = 0) ∨ (c * b < a * d ∧ r = 1))
 | 0, _, _, _, _, h, _, _, _, _, _, _ => by omega
 | n + 1, a, b, c, d, h, hb, hd, la, lc, lb, ld => by
  refine Gives.step ?_
  simp only [T_ref01_order, tdiv_nat, tmod_nat]
  have q1 : a / b ≤ a := Nat.div_le_self _ _
  have q2 : c / d ≤ c := Nat.div_le_self _ _
  have ea := Nat.div_add_mod a b
  have ec := Nat.div_add_mod c d
  have ra := Nat.mod_lt a hb
  have rc := Nat.mod_lt c hd
  have fin : ∀ (u v : Nat) (r : Int), (u < v ↔ a * d < c * b) → (u = v ↔ a * d = c * b) → ((u < v ∧ r = -1) ∨ (u = v ∧ r = 0) ∨ (v < u ∧ r = 1)) → (a * d < c * b ∧ r = -1) ∨ (a * d = c * b ∧ r = 0) ∨ (c * b < a * d ∧ r = 1) := by
   intro u v r h1 h2 h3
   rcases h3 with ⟨h, e⟩ | ⟨h, e⟩ | ⟨h, e⟩
   · exact Or.inl ⟨h1.1 h, e⟩
   · exact Or.inr (Or.inl ⟨h2.1 h, e⟩)
   · refine Or.inr (Or.inr ⟨?_, e⟩)
     have n1 : ¬ a * d < c * b := fun g => by have := h1.2 g; omega
     have n2 : ¬ a * d = c * b := fun g => by have := h2.2 g; omega
     omega
  generalize a / b = p at ea q1 ⊢
  generalize c / d = q at ec q2 ⊢
  generalize a % b = a' at ea ra ⊢
  generalize c % d = c' at ec rc ⊢
  rw [w64_id (x := (p : Int)) (by omega) (by omega), w64_id (x := (q : Int)) (by omega) (by omega)]
  have eA : a * d = p * (b * d) + a' * d := by rw [← ea]; grind
  have eC : c * b = q * (b * d) + c' * b := by rw [← ec]; grind
  have lA : a' * d < b * d := Nat.mul_lt_mul_of_pos_right ra hd
  have lC : c' * b < b * d := by rw [Nat.mul_comm b d]; exact Nat.mul_lt_mul_of_pos_right rc hb
  refine Gives.pos (by omega) (Gives.pos (by omega) (Gives.ite (fun cc => ?_) fun cc => ?_))
  · have ne : p ≠ q := by
     intro e; subst e; simp at cc
    refine Gives.ite (fun lt => Gives.now ?_) fun lt => Gives.now ?_
    · have : (p + 1) * (b * d) ≤ q * (b * d) := Nat.mul_le_mul_right _ (by omega)
      rw [Nat.add_mul] at this
      exact Or.inl ⟨by omega, rfl⟩
    · have : (q + 1) * (b * d) ≤ p * (b * d) := Nat.mul_le_mul_right _ (by omega)
      rw [Nat.add_mul] at this
      exact Or.inr (Or.inr ⟨by omega, rfl⟩)
  · have eq : p = q := by
     simp at cc; omega
    subst eq
    refine Gives.pos (by omega) (Gives.pos (by omega) (Gives.ite (fun z => Gives.now ?_) fun z => Gives.ite (fun z1 => Gives.now ?_) fun z1 => Gives.ite (fun z2 => Gives.now ?_) fun z2 => ?_))
    · simp at z
      obtain ⟨rfl, rfl⟩ := z
      exact Or.inr (Or.inl ⟨by omega, rfl⟩)
    · have e1 : a' = 0 := by omega
      subst e1
      simp at z
      have : 0 < c' * b := Nat.mul_pos (by omega) hb
      exact Or.inl ⟨by omega, rfl⟩
    · have e1 : c' = 0 := by omega
      subst e1
      have : 0 < a' * d := Nat.mul_pos (by omega) hd
      exact Or.inr (Or.inr ⟨by omega, rfl⟩)
    · refine Gives.bind (ro_order n d c' b a' (by omega) (by omega) (by omega) (by omega) (by omega) (by omega) (by omega)) fun r hr => Gives.now ?_
      rw [Nat.mul_comm d a', Nat.mul_comm b c'] at hr
      exact fin (a' * d) (c' * b) r (by omega) (by omega) hr
theorem ro_cmp {p q p' q' : Nat} (h : Nat.gcd p q = 1) (h0 : 0 < q) (h1 : p ≤ 2305843009213693952) (h2 : q ≤ 1152921504606846976) (g : Nat.gcd p' q' = 1) (g0 : 0 < q') (g1 : p' ≤ 2305843009213693952) (g2 : q' ≤ 1152921504606846976) :
 Gives (fun k => T_ref01_Cmp k p q p' q') (fun r => (p * q' < p' * q ∧ r = -1) ∨ (p * q' = p' * q ∧ r = 0) ∨ (p' * q < p * q' ∧ r = 1)) := by
 refine Gives.step ?_
 simp only [T_ref01_Cmp]
 refine Gives.bind (Q := fun r => r = false) ?_ fun r hr => ?_
 · refine Gives.bind (r01_valid h h0 h1 h2) fun v hv => Gives.neg (by simp [hv]) (Gives.bind (r01_valid g g0 g1 g2) fun w hw => Gives.now (by simp [hw]))
 · subst hr
   refine Gives.neg (by simp) (Gives.bind (ro_order (q + q' + 1) p q p' q' (by omega) h0 g0 (by omega) (by omega) (by omega) (by omega)) fun r hr => Gives.now hr)
theorem Rep.cmp {p q T M p' q' T' M' : Nat} (h : Rep p q T M) (k : Rep p' q' T' M') (hM : 0 < M) (hM' : 0 < M') (l : T * M' ≤ T' * M) : p * q' ≤ p' * q := by
 have e1 : (p * q') * (M * M') = (T * M') * (q * q') := by have := h.eq; grind
 have e2 : (p' * q) * (M * M') = (T' * M) * (q * q') := by have := k.eq; grind
 have : (p * q') * (M * M') ≤ (p' * q) * (M * M') := by rw [e1, e2]; exact Nat.mul_le_mul_right _ l
 exact Nat.le_of_mul_le_mul_right this (Nat.mul_pos hM hM')
theorem r12_samples {x : List Int} (hx : Win x) : Gives (fun k => T_ref12_Samples k x) (fun r => r = 0) := by
 have x2 := hx.hi
 refine Gives.step ?_
 simp only [T_ref12_Samples]
 refine Gives.bind (Q := fun r => r = .inl ()) ?_ fun r hr => by subst hr; exact Gives.now rfl
 refine Gives.loop (fun s => 0 ≤ s ∧ s ≤ (x.length : Int)) (fun s => ((x.length : Int) - s).toNat) ?_ ⟨by omega, by omega⟩
 intro s ⟨i1, i2⟩
 unfold T_ref12_Samples_l1
 refine Gives.ite (fun c => Gives.opt (at_rd i1 c) (Gives.bind (Q := fun _ => True) ?_ fun _ _ => ?_)) fun c => Gives.now rfl
 · refine Gives.step ?_
   simp only [T_ref04_Sample]
   exact Gives.now trivial
 · have h := hx.smp.rd s
   rw [w64_id (by omega) (by omega)]
   exact Gives.neg (by simp; omega) (Gives.now ⟨⟨by omega, by omega⟩, by omega⟩)
def sqs (x : List Int) : List Int := x.map fun v => v * v
theorem sqs_len (x : List Int) : (sqs x).length = x.length := by simp [sqs]
theorem rd_sqs {x : List Int} {i : Int} (h0 : 0 ≤ i) (h1 : i < (x.length : Int)) : rd (sqs x) i = rd x i * rd x i := by
 unfold rd sqs
 rw [List.getD_eq_getElem?_getD, List.getD_eq_getElem?_getD, List.getElem?_map, List.getElem?_eq_getElem (show i.toNat < x.length by omega)]
 rfl
theorem sq_pos (a : Int) : 0 ≤ a * a := by
 rcases Int.le_total 0 a with h | h
 · exact Int.mul_nonneg h h
 · exact Int.mul_nonneg_of_nonpos_of_nonpos h h
theorem quad {w : List Int} {a : Nat} (c e : Int) : ∀ j : Nat, a + j ≤ w.length → 0 ≤ c * c * (psum (sqs w) (a + j : Nat) - psum (sqs w) a) - 2 * (c * e * (psum w (a + j : Nat) - psum w a)) + j * (e * e)
 | 0, _ => by simp
 | j + 1, h => by
  have ih := quad (w := w) (a := a) c e j (by omega)
  have e1 := psum_succ (x := w) (i := ((a + j : Nat) : Int)) (by omega) (by omega)
  have e2 := psum_succ (x := sqs w) (i := ((a + j : Nat) : Int)) (by omega) (by rw [sqs_len]; omega)
  rw [rd_sqs (by omega) (by omega)] at e2
  have p := sq_pos (c * rd w ((a + j : Nat) : Int) - e)
  rw [show ((a + (j + 1) : Nat) : Int) = ((a + j : Nat) : Int) + 1 by omega, e1, e2]
  generalize rd w ((a + j : Nat) : Int) = v at p ⊢
  generalize psum w ((a + j : Nat) : Int) = s at ih ⊢
  generalize psum (sqs w) ((a + j : Nat) : Int) = q at ih ⊢
  generalize psum w a = s0 at ih ⊢
  generalize psum (sqs w) a = q0 at ih ⊢
  have : c * c * (q + v * v - q0) - 2 * (c * e * (s + v - s0)) + ((j + 1 : Nat) : Int) * (e * e) = (c * c * (q - q0) - 2 * (c * e * (s - s0)) + j * (e * e)) + (c * v - e) * (c * v - e) := by
   have : ((j + 1 : Nat) : Int) = (j : Int) + 1 := by omega
   rw [this]
   grind
  rw [this]
  omega
/-- The square of a sum of so many is at most so many times the sum of squares. -/
theorem cauchy {w : List Int} {a b : Int} (h0 : 0 ≤ a) (h1 : a ≤ b) (h2 : b ≤ (w.length : Int)) : (psum w b - psum w a) * (psum w b - psum w a) ≤ (b - a) * (psum (sqs w) b - psum (sqs w) a) := by
 obtain ⟨m, rfl⟩ : ∃ m : Nat, a = m := ⟨a.toNat, by omega⟩
 obtain ⟨j, rfl⟩ : ∃ j : Nat, b = ((m + j : Nat) : Int) := ⟨(b - m).toNat, by omega⟩
 have el : ((m + j : Nat) : Int) - (m : Int) = j := by omega
 rw [el]
 rcases Nat.eq_zero_or_pos j with hj | hj
 · subst hj; simp
 have := quad (w := w) (a := m) j (psum w ((m + j : Nat) : Int) - psum w m) j (by omega)
 generalize psum w ((m + j : Nat) : Int) - psum w m = s at this ⊢
 generalize psum (sqs w) ((m + j : Nat) : Int) - psum (sqs w) m = q at this ⊢
 have e : (j : Int) * j * q - 2 * (j * s * s) + j * (s * s) = j * (j * q - s * s) := by grind
 rw [e] at this
 have : 0 ≤ (j : Int) * q - s * s := by
  rcases Int.le_total 0 ((j : Int) * q - s * s) with h | h
  · exact h
  · have h3 : (j : Int) * (j * q - s * s) ≤ 0 := Int.mul_nonpos_of_nonneg_of_nonpos (by omega) h
    have h4 : (j : Int) * (j * q - s * s) = 0 := by omega
    rcases Int.mul_eq_zero.1 h4 with h5 | h5 <;> omega
 omega
/-! The lengths of pieces, and what they all divide. -/
theorem len_fin : ∀ m : Fin 33, ∀ n : Fin 9, ∀ p : Fin 8, 1 ≤ n.val → p.val < n.val → n.val ≤ m.val → ((p.val + 1) * m.val / n.val - p.val * m.val / n.val = m.val / n.val ∨ (p.val + 1) * m.val / n.val - p.val * m.val / n.val = m.val / n.val + 1) := by decide +kernel
/-- What all lengths of pieces divide. -/
def mm (m n : Nat) : Nat := (m / n) * (m / n + 1)
/-- How often a piece's length goes into it. -/
def wt (m n : Nat) (p : Int) : Nat := mm m n / (cut m n (p + 1) - cut m n p).toNat
theorem wt_ok {m n : Nat} {p : Int} (hm : m ≤ 32) (hn : 1 ≤ n) (hn2 : n ≤ 8) (hn3 : n ≤ m) (h0 : 0 ≤ p) (h1 : p < (n : Int)) :
 (cut m n (p + 1) - cut m n p).toNat * wt m n p = mm m n ∧ wt m n p ≤ 33 ∧ 1 ≤ cut m n (p + 1) - cut m n p ∧ cut m n (p + 1) - cut m n p ≤ 32 ∧ 0 < mm m n ∧ mm m n ≤ 1056 := by
 obtain ⟨q, rfl⟩ : ∃ q : Nat, p = q := ⟨p.toNat, by omega⟩
 have dl : cut m n ((q : Int) + 1) - cut m n (q : Int) ≤ 32 := by
  have a := cut_range (m := m) (n := n) (p := (q : Int) + 1) (by omega) (by omega) (by omega) (by omega)
  have b := cut_range (m := m) (n := n) (p := (q : Int)) (by omega) (by omega) (by omega) (by omega)
  omega
 have f := len_fin ⟨m, by omega⟩ ⟨n, by omega⟩ ⟨q, by omega⟩ hn (by simp only []; omega) hn3
 simp only [] at f
 have e1 : cut (m : Int) n ((q : Int) + 1) = (((q + 1) * m / n : Nat) : Int) := by
  unfold cut
  have : ((q : Int) + 1) * m = (((q + 1) * m : Nat) : Int) := by simp
  rw [this]; rfl
 have e2 : cut (m : Int) n (q : Int) = ((q * m / n : Nat) : Int) := by
  unfold cut
  have : (q : Int) * m = ((q * m : Nat) : Int) := by simp
  rw [this]; rfl
 have d0 : 1 ≤ m / n := Nat.div_pos hn3 hn
 have d1 : m / n ≤ 32 := Nat.le_trans (Nat.div_le_self _ _) hm
 have mono : q * m / n ≤ (q + 1) * m / n := Nat.div_le_div_right (Nat.mul_le_mul_right m (by omega))
 unfold wt mm
 rw [e1, e2] at dl ⊢
 generalize (q + 1) * m / n = c1 at f mono dl ⊢
 generalize q * m / n = c0 at f mono dl ⊢
 generalize m / n = a at f d0 d1 ⊢
 have el : ((c1 : Int) - (c0 : Int)).toNat = c1 - c0 := by omega
 rw [el]
 have hb : a * (a + 1) ≤ 32 * 33 := Nat.mul_le_mul d1 (by omega)
 have hb0 : 0 < a * (a + 1) := Nat.mul_pos d0 (by omega)
 rcases f with f | f
 · rw [f, Nat.mul_div_cancel_left _ d0]
   refine ⟨rfl, by omega, by omega, by omega, hb0, by omega⟩
 · rw [f, Nat.mul_comm a (a + 1), Nat.mul_div_cancel_left _ (by omega)]
   refine ⟨rfl, by omega, by omega, by omega, by rw [Nat.mul_comm]; exact hb0, by rw [Nat.mul_comm]; omega⟩
/-- The sum of squares, each as often as its piece goes into what all divide. -/
def TT (d : Int → Int) (w : Int → Nat) : Nat → Nat
 | 0 => 0
 | n + 1 => TT d w n + (d n * d n).toNat * w n
theorem TT_bound {d : Int → Int} {w : Int → Nat} : ∀ {n : Nat}, (∀ p : Int, 0 ≤ p → p < n → -6300000 ≤ d p ∧ d p ≤ 6300000 ∧ w p ≤ 33) → TT d w n ≤ 1309770000000000 * n
 | 0, _ => by simp [TT]
 | n + 1, h => by
  have ih := TT_bound (n := n) fun p h1 h2 => h p h1 (by omega)
  obtain ⟨h1, h2, h3⟩ := h n (by omega) (by omega)
  have b := prod_bound (a := d n) (b := d n) (A := 6300000) (B := 6300000) h1 h2 h1 h2
  have : (d n * d n).toNat * w n ≤ 39690000000000 * 33 := Nat.mul_le_mul (by omega) h3
  rw [TT]; omega

/-- The sum of a piece, and the centred one. -/
def pcs (x : List Int) (n p : Int) : Int := psum x (cut x.length n (p + 1)) - psum x (cut x.length n p)
theorem pcs_bound {x : List Int} {n p : Int} (hx : Win x) (hn : 1 ≤ n) (h0 : 0 ≤ p) (h1 : p < n) : -64000 ≤ pcs x n p ∧ pcs x n p ≤ 64000 := by
 have k1 := cut_range (m := (x.length : Int)) hn (by omega) h0 (by omega)
 have k2 := cut_range (m := (x.length : Int)) (p := p + 1) hn (by omega) (by omega) (by omega)
 have b1 := pc_bounds hx k1.1 k1.2
 have b2 := pc_bounds hx k2.1 k2.2
 unfold pcs
 omega
/-! The bounds by pieces and the distances. -/
theorem tt_succ (d : Int → Int) (w : Int → Nat) (n : Nat) : ((TT d w (n + 1) : Nat) : Int) = (TT d w n : Nat) + d n * d n * (w n : Int) := by
 rw [TT, Int.natCast_add, Int.natCast_mul, Int.toNat_of_nonneg (sq_pos _)]
theorem pw_eq {m n : Nat} {p : Int} (hm : m ≤ 32) (hn : 1 ≤ n) (hn2 : n ≤ 8) (hn3 : n ≤ m) (h0 : 0 ≤ p) (h1 : p < (n : Int)) : (cut m n (p + 1) - cut m n p) * (wt m n p : Int) = mm m n := by
 have w := wt_ok hm hn hn2 hn3 h0 h1
 rw [← w.1, Int.natCast_mul, Int.toNat_of_nonneg (by omega)]
/-! The bound by pieces. -/
theorem en_piecesB {x y : List Int} {b : Int} {n : Nat} (hf : Fits x y b) (hn : 1 ≤ n) (hn2 : n ≤ 8) (hn3 : n ≤ y.length) :
 Gives (fun k => T_envelope_Pieces k x y b n) (fun r => ∃ (P Q : Nat) (U L : List Int), r = ((P : Int), (Q : Int), 0) ∧ Win U ∧ U.length = y.length ∧ Win L ∧ L.length = y.length ∧ (∀ j, 0 ≤ j → j < (y.length : Int) → BestA x b j (rd U j)) ∧ (∀ j, 0 ≤ j → j < (y.length : Int) → BestB x b j (rd L j)) ∧
  Rep P Q (TT (fun p => ps (pcs y n p) (pcs L n p) (pcs U n p)) (wt y.length n) n) (mm y.length n)) := by
 have hx := hf.wx
 have hy := hf.wy
 have y1 := hy.lo
 have y2 := hy.hi
 have w0 := wt_ok (m := y.length) (n := n) (p := 0) y2 hn hn2 hn3 (by omega) (by omega)
 refine Gives.step ?_
 simp only [T_envelope_Pieces]
 refine Gives.bind (wp_distance hf) fun d hd => Gives.neg (by simp [hd]) (Gives.bind (pc_sums (n := (n : Int)) hy (by omega) (by omega) (by omega)) fun f hf' => Gives.neg (by simp [hf'.1]) (Gives.bind (pc_starts (m := (y.length : Int)) (n := (n : Int)) (by omega) (by omega) (by omega) (by omega) (by omega)) fun a ha => Gives.bind (env_of hx hf.lo hf.hi (by omega) (by omega) hf.ba) fun e he => ?_))
 obtain ⟨f1, f2, f3⟩ := hf'
 obtain ⟨a1, a2, a3⟩ := ha
 obtain ⟨⟨e1, e2⟩, e3, e4⟩ := he
 generalize e.1 = U at *
 generalize e.2 = L at *
 have eU : U.length = y.length := by omega
 have eL : L.length = y.length := by omega
 have wU : Win U := win_of eU y1 y2 fun j j0 j1 => (e2 j j0 j1).smp hx
 have wL : Win L := win_of eL y1 y2 fun j j0 j1 => (e4 j j0 j1).smp hx
 rw [f2]
 refine Gives.bind (Q := fun v => ∃ P Q : Nat, v = .inl ((P : Int), (Q : Int)) ∧ Rep P Q (TT (fun p => ps (pcs y n p) (pcs L n p) (pcs U n p)) (wt y.length n) n) (mm y.length n)) ?_ fun v hv => ?_
 · refine Gives.loop (fun s => 0 ≤ s.1 ∧ s.1 ≤ (n : Int) ∧ ∃ P Q : Nat, s.2 = ((P : Int), (Q : Int)) ∧ Rep P Q (TT (fun p => ps (pcs y n p) (pcs L n p) (pcs U n p)) (wt y.length n) s.1.toNat) (mm y.length n)) (fun s => ((n : Int) - s.1).toNat) ?_ ⟨by simp only []; omega, by simp only []; omega, 0, 1, rfl, ⟨by omega, by simp, by simp [TT]⟩⟩
   intro ⟨i, z⟩ ⟨i0, i1, P, Q, i2, R⟩
   simp only at i0 i1 i2 R
   subst i2
   unfold T_envelope_Pieces_l2
   simp only []
   refine Gives.ite (fun c => ?_) fun c => Gives.now ?_
   · rw [w64_id (x := i + 1) (by omega) (by omega)]
     have k1 := cut_range (m := (y.length : Int)) (n := (n : Int)) (p := i) (by omega) (by omega) (by omega) (by omega)
     have k2 := cut_range (m := (y.length : Int)) (n := (n : Int)) (p := i + 1) (by omega) (by omega) (by omega) (by omega)
     have k3 := cut_mono (m := (y.length : Int)) (n := (n : Int)) (p := i) (q := i + 1) (by omega) (by omega) (by omega)
     have s1 := a3 i i0 (by omega)
     have s2 := a3 (i + 1) (by omega) (by omega)
     have bl1 := pc_bounds wL (i := cut y.length n i) k1.1 (by omega)
     have bu1 := pc_bounds wU (i := cut y.length n i) k1.1 (by omega)
     have q1 := wt_ok (m := y.length) (n := n) (p := i) y2 hn hn2 hn3 i0 c
     refine Gives.opt (at_rd i0 (by omega)) (Gives.opt (at_rd i0 (by omega)) ?_)
     rw [s1]
     refine Gives.bind (Q := fun r => r = (pcs L n i, pcs U n i)) ?_ fun r hr => ?_
     · refine Gives.loop (fun t => cut y.length n i ≤ t.2.2 ∧ t.2.2 ≤ cut y.length n (i + 1) ∧ t.1 = psum L t.2.2 - psum L (cut y.length n i) ∧ t.2.1 = psum U t.2.2 - psum U (cut y.length n i)) (fun t => (cut y.length n (i + 1) - t.2.2).toNat) ?_ ⟨by simp only []; omega, by simp only []; omega, by simp only []; omega, by simp only []; omega⟩
       intro ⟨lo, hi, j⟩ ⟨j0, j1, j2, j3⟩
       simp only at j0 j1 j2 j3
       unfold T_envelope_Pieces_l1
       simp only []
       rw [w64_id (x := i + 1) (by omega) (by omega)]
       refine Gives.opt (at_rd (by omega) (by omega)) ?_
       rw [s2]
       refine Gives.ite (fun cc => ?_) fun cc => Gives.now ?_
       · refine Gives.opt (at_rd (by omega) (by omega)) (Gives.opt (at_rd (by omega) (by omega)) ?_)
         have ex := psum_succ (x := L) (i := j) (by omega) (by omega)
         have eu := psum_succ (x := U) (i := j) (by omega) (by omega)
         have bj := pc_bounds wL (i := j) (by omega) (by omega)
         have uj := pc_bounds wU (i := j) (by omega) (by omega)
         have sj := wL.smp.rd j
         have tj := wU.smp.rd j
         rw [w64_id (x := lo + rd L j) (by omega) (by omega), w64_id (x := hi + rd U j) (by omega) (by omega), w64_id (x := j + 1) (by omega) (by omega)]
         exact Gives.now ⟨⟨by simp only []; omega, by simp only []; omega, by simp only []; omega, by simp only []; omega⟩, by simp only []; omega⟩
       · have : j = cut y.length n (i + 1) := by omega
         subst this
         unfold pcs
         rw [j2, j3, eL, eU]
     subst hr
     simp only []
     have fs : rd f.1 i = pcs y n i := f3 i i0 c
     rw [fs]
     refine Gives.bind (en_passes _ _ _) fun _ _ => Gives.opt (at_rd (by omega) (by omega)) (Gives.opt (at_rd i0 (by omega)) ?_)
     rw [s1, s2]
     have pl := pcs_bound wL (n := (n : Int)) (by omega) i0 c
     have pu := pcs_bound wU (n := (n : Int)) (by omega) i0 c
     have py := pcs_bound hy (n := (n : Int)) (by omega) i0 c
     rw [w64_id (x := pcs y n i - pcs U n i) (by omega) (by omega), w64_id (x := pcs L n i - pcs y n i) (by omega) (by omega), w64_id (x := cut y.length n (i + 1) - cut y.length n i) (by omega) (by omega)]
     have ep : imax (imax 0 (pcs y n i - pcs U n i)) (pcs L n i - pcs y n i) = ps (pcs y n i) (pcs L n i) (pcs U n i) := rfl
     have p0 := ps_nonneg (pcs y n i) (pcs L n i) (pcs U n i)
     have p1 := ps_bd (v := pcs y n i) (lo := pcs L n i) (hi := pcs U n i) (B := 128000) (by omega) (by omega) (by omega)
     rw [ep]
     have et : TT (fun p => ps (pcs y n p) (pcs L n p) (pcs U n p)) (wt y.length n) (i + 1).toNat = TT (fun p => ps (pcs y n p) (pcs L n p) (pcs U n p)) (wt y.length n) i.toNat + (ps (pcs y n i) (pcs L n i) (pcs U n i) * ps (pcs y n i) (pcs L n i) (pcs U n i)).toNat * wt y.length n i := by
      rw [show (i + 1).toNat = i.toNat + 1 by omega, TT, Int.toNat_of_nonneg i0]
     generalize ps (pcs y n i) (pcs L n i) (pcs U n i) = D at *
     have dd := prod_bound (a := D) (b := D) (A := 128000) (B := 128000) (by omega) (by omega) (by omega) (by omega)
     have d0 := sq_nonneg D
     rw [w64_id (x := D * D) (by omega) (by omega)]
     obtain ⟨l, hl'⟩ : ∃ l : Nat, cut y.length n (i + 1) - cut y.length n i = l := ⟨(cut y.length n (i + 1) - cut y.length n i).toNat, by omega⟩
     obtain ⟨u, hu⟩ : ∃ u : Nat, D * D = u := ⟨(D * D).toNat, by omega⟩
     have et' : (D * D).toNat = u := by omega
     rw [et'] at et
     rw [hu, hl']
     have l0 : 0 < l := by omega
     refine Gives.bind (ra_Make l0 (by omega) (by omega)) fun r hr => ?_
     subst hr
     have el2 : (cut y.length n (i + 1) - cut y.length n i).toNat = l := by omega
     have R2 := Rep.make (m := u) (n := l) (w := wt y.length n i) l0
     have q1' := q1.1
     rw [el2] at q1'
     rw [q1'] at R2
     have tb := TT_bound (d := fun p => ps (pcs y n p) (pcs L n p) (pcs U n p)) (w := wt y.length n) (n := i.toNat + 1) fun j j0 j1 => by
      obtain ⟨_, k2, _⟩ := wt_ok (m := y.length) (n := n) (p := j) y2 hn hn2 hn3 j0 (by omega)
      have pl := pcs_bound wL (n := (n : Int)) (by omega) j0 (by omega)
      have pu := pcs_bound wU (n := (n : Int)) (by omega) j0 (by omega)
      have py := pcs_bound hy (n := (n : Int)) (by omega) j0 (by omega)
      have p0 := ps_nonneg (pcs y n j) (pcs L n j) (pcs U n j)
      have p1 := ps_bd (v := pcs y n j) (lo := pcs L n j) (hi := pcs U n j) (B := 128000) (by omega) (by omega) (by omega)
      exact ⟨by omega, by omega, k2⟩
     rw [show i.toNat + 1 = (i + 1).toNat by omega, et] at tb
     refine Gives.bind (ra_Add R R2 (by omega) (by omega) (by omega)) fun z hz => ?_
     obtain ⟨P', Q', rfl, hR⟩ := hz
     refine Gives.neg (by simp) (Gives.now ⟨⟨by simp only []; omega, by simp only []; omega, P', Q', rfl, ?_⟩, by simp only []; omega⟩)
     simp only []
     rw [et]
     exact hR
   · have : i.toNat = n := by omega
     rw [this] at R
     exact ⟨P, Q, rfl, R⟩
 · obtain ⟨P, Q, rfl, R⟩ := hv
   exact Gives.now ⟨P, Q, U, L, rfl, wU, eU, wL, eL, e2, e4, R⟩

/-! Warping paths in a band, and the least cost of one. -/
def mn (a b : Int) : Int := if b < a then b else a
/-- What is not within the band costs this. -/
def INF : Int := 4611686018427387904

/-- A pair within a band. -/
def nearB (b : Int) (i j : Nat) : Prop := (i : Int) - j ≤ b ∧ (j : Int) - i ≤ b
instance (b : Int) (i j : Nat) : Decidable (nearB b i j) := by unfold nearB; infer_instance

/-- The least cost of a path to a pair, as the program reckons it. -/
def Wc (c : Nat → Nat → Int) (b : Int) : Nat → Nat → Int
 | 0, 0 => if nearB b 0 0 then mn INF (0 + c 0 0) else INF
 | 0, j + 1 => if nearB b 0 (j + 1) then mn INF (mn INF (Wc c b 0 j) + c 0 (j + 1)) else INF
 | i + 1, 0 => if nearB b (i + 1) 0 then mn INF (mn INF (Wc c b i 0) + c (i + 1) 0) else INF
 | i + 1, j + 1 => if nearB b (i + 1) (j + 1) then mn INF (mn (mn (mn (mn INF (Wc c b (i + 1) j)) (Wc c b i (j + 1))) (Wc c b i (j + 1))) (Wc c b i j) + c (i + 1) (j + 1)) else INF
termination_by i j => (i, j)

theorem W00 (c : Nat → Nat → Int) (b : Int) : Wc c b 0 0 = if nearB b 0 0 then mn INF (0 + c 0 0) else INF := by rw [Wc]
theorem W0s (c : Nat → Nat → Int) (b : Int) (j : Nat) : Wc c b 0 (j + 1) = if nearB b 0 (j + 1) then mn INF (mn INF (Wc c b 0 j) + c 0 (j + 1)) else INF := by rw [Wc]
theorem Ws0 (c : Nat → Nat → Int) (b : Int) (i : Nat) : Wc c b (i + 1) 0 = if nearB b (i + 1) 0 then mn INF (mn INF (Wc c b i 0) + c (i + 1) 0) else INF := by rw [Wc]
theorem Wss (c : Nat → Nat → Int) (b : Int) (i j : Nat) : Wc c b (i + 1) (j + 1) = if nearB b (i + 1) (j + 1) then mn INF (mn (mn (mn (mn INF (Wc c b (i + 1) j)) (Wc c b i (j + 1))) (Wc c b i (j + 1))) (Wc c b i j) + c (i + 1) (j + 1)) else INF := by rw [Wc]

/-- A path in a band, from one pair to another, with the cost of all its pairs. -/
inductive WPath (c : Nat → Nat → Int) (b : Int) (p q : Nat) : Nat → Nat → Int → Prop
 | one : nearB b p q → WPath c b p q p q (c p q)
 | diag (i j : Nat) (s : Int) : WPath c b p q i j s → nearB b (i + 1) (j + 1) → WPath c b p q (i + 1) (j + 1) (s + c (i + 1) (j + 1))
 | down (i j : Nat) (s : Int) : WPath c b p q i j s → nearB b (i + 1) j → WPath c b p q (i + 1) j (s + c (i + 1) j)
 | right (i j : Nat) (s : Int) : WPath c b p q i j s → nearB b i (j + 1) → WPath c b p q i (j + 1) (s + c i (j + 1))

theorem WPath.le {c : Nat → Nat → Int} {b : Int} {p q i j : Nat} {s : Int} (h : WPath c b p q i j s) : p ≤ i ∧ q ≤ j := by
 induction h <;> omega

theorem mn_le_l (a b : Int) : mn a b ≤ a := by unfold mn; split <;> omega
theorem mn_le_r (a b : Int) : mn a b ≤ b := by unfold mn; split <;> omega
theorem mn_or (a b : Int) : mn a b = a ∨ mn a b = b := by unfold mn; split <;> omega
theorem le_mn {a b x : Int} (h : x ≤ a) (k : x ≤ b) : x ≤ mn a b := by unfold mn; split <;> omega

theorem W_le_INF (c : Nat → Nat → Int) (b : Int) : ∀ i j, Wc c b i j ≤ INF
 | 0, 0 => by rw [W00]; split; (· exact mn_le_l _ _); (· exact Int.le_refl _)
 | 0, j + 1 => by rw [W0s]; split; (· exact mn_le_l _ _); (· exact Int.le_refl _)
 | i + 1, 0 => by rw [Ws0]; split; (· exact mn_le_l _ _); (· exact Int.le_refl _)
 | i + 1, j + 1 => by rw [Wss]; split; (· exact mn_le_l _ _); (· exact Int.le_refl _)

theorem W_nonneg {c : Nat → Nat → Int} (b : Int) (hc : ∀ i j, 0 ≤ c i j) : ∀ i j, 0 ≤ Wc c b i j := by
 intro i
 induction i with
 | zero =>
  intro j
  induction j with
  | zero => rw [W00]; have := hc 0 0; split; (· exact le_mn (by decide) (by omega)); (· decide)
  | succ j ih => rw [W0s]; have := hc 0 (j + 1); split; (· exact le_mn (by decide) (Int.add_nonneg (le_mn (by decide) ih) this)); (· decide)
 | succ i ihi =>
  intro j
  induction j with
  | zero => rw [Ws0]; have := hc (i + 1) 0; split; (· exact le_mn (by decide) (Int.add_nonneg (le_mn (by decide) (ihi 0)) this)); (· decide)
  | succ j ih => rw [Wss]; have := hc (i + 1) (j + 1); split; (· exact le_mn (by decide) (Int.add_nonneg (le_mn (le_mn (le_mn (le_mn (by decide) ih) (ihi _)) (ihi _)) (ihi _)) this)); (· decide)

theorem W_diag {c : Nat → Nat → Int} {b : Int} {i j : Nat} (h : nearB b (i + 1) (j + 1)) : Wc c b (i + 1) (j + 1) ≤ Wc c b i j + c (i + 1) (j + 1) := by
 rw [Wss, if_pos h]
 have := mn_le_r INF (mn (mn (mn (mn INF (Wc c b (i + 1) j)) (Wc c b i (j + 1))) (Wc c b i (j + 1))) (Wc c b i j) + c (i + 1) (j + 1))
 have := mn_le_r (mn (mn (mn INF (Wc c b (i + 1) j)) (Wc c b i (j + 1))) (Wc c b i (j + 1))) (Wc c b i j)
 omega
theorem W_down {c : Nat → Nat → Int} {b : Int} {i j : Nat} (h : nearB b (i + 1) j) : Wc c b (i + 1) j ≤ Wc c b i j + c (i + 1) j := by
 cases j with
 | zero =>
  rw [Ws0, if_pos h]
  have := mn_le_r INF (mn INF (Wc c b i 0) + c (i + 1) 0)
  have := mn_le_r INF (Wc c b i 0)
  omega
 | succ j =>
  rw [Wss, if_pos h]
  have := mn_le_r INF (mn (mn (mn (mn INF (Wc c b (i + 1) j)) (Wc c b i (j + 1))) (Wc c b i (j + 1))) (Wc c b i j) + c (i + 1) (j + 1))
  have := mn_le_l (mn (mn (mn INF (Wc c b (i + 1) j)) (Wc c b i (j + 1))) (Wc c b i (j + 1))) (Wc c b i j)
  have := mn_le_r (mn (mn INF (Wc c b (i + 1) j)) (Wc c b i (j + 1))) (Wc c b i (j + 1))
  omega
theorem W_right {c : Nat → Nat → Int} {b : Int} {i j : Nat} (h : nearB b i (j + 1)) : Wc c b i (j + 1) ≤ Wc c b i j + c i (j + 1) := by
 cases i with
 | zero =>
  rw [W0s, if_pos h]
  have := mn_le_r INF (mn INF (Wc c b 0 j) + c 0 (j + 1))
  have := mn_le_r INF (Wc c b 0 j)
  omega
 | succ i =>
  rw [Wss, if_pos h]
  have := mn_le_r INF (mn (mn (mn (mn INF (Wc c b (i + 1) j)) (Wc c b i (j + 1))) (Wc c b i (j + 1))) (Wc c b i j) + c (i + 1) (j + 1))
  have := mn_le_l (mn (mn (mn INF (Wc c b (i + 1) j)) (Wc c b i (j + 1))) (Wc c b i (j + 1))) (Wc c b i j)
  have := mn_le_l (mn (mn INF (Wc c b (i + 1) j)) (Wc c b i (j + 1))) (Wc c b i (j + 1))
  have := mn_le_l (mn INF (Wc c b (i + 1) j)) (Wc c b i (j + 1))
  have := mn_le_r INF (Wc c b (i + 1) j)
  omega

/-- No path is cheaper. -/
theorem W_le_path {c : Nat → Nat → Int} {b : Int} {p q i j : Nat} {s : Int} (h : WPath c b p q i j s) : p = 0 → q = 0 → Wc c b i j ≤ s := by
 induction h with
 | one h => intro h1 h2; subst h1 h2; rw [W00, if_pos h]; have := mn_le_r INF (0 + c 0 0); omega
 | diag i j s _ hn ih => intro h1 h2; have := ih h1 h2; have := W_diag (c := c) hn; omega
 | down i j s _ hn ih => intro h1 h2; have := ih h1 h2; have := W_down (c := c) hn; omega
 | right i j s _ hn ih => intro h1 h2; have := ih h1 h2; have := W_right (c := c) hn; omega

/-- Where the cost is not that of what lies outside, a path has it. -/
theorem W_path {c : Nat → Nat → Int} {b : Int} (hc : ∀ i j, 0 ≤ c i j) : ∀ i j, Wc c b i j < INF → WPath c b 0 0 i j (Wc c b i j) := by
 intro i
 induction i with
 | zero =>
  intro j
  induction j with
  | zero =>
   intro h
   rw [W00] at h ⊢
   split at h
   · rename_i hn
     rw [if_pos hn]
     rcases mn_or INF (0 + c 0 0) with e | e
     · omega
     · rw [e, Int.zero_add]; exact WPath.one hn
   · omega
  | succ j ih =>
   intro h
   rw [W0s] at h ⊢
   split at h
   · rename_i hn
     rw [if_pos hn]
     have := hc 0 (j + 1)
     rcases mn_or INF (mn INF (Wc c b 0 j) + c 0 (j + 1)) with e | e
     · omega
     · rw [e] at h ⊢
       rcases mn_or INF (Wc c b 0 j) with e2 | e2
       · omega
       · rw [e2] at h ⊢; exact WPath.right 0 j _ (ih (by omega)) hn
   · omega
 | succ i ihi =>
  intro j
  induction j with
  | zero =>
   intro h
   rw [Ws0] at h ⊢
   split at h
   · rename_i hn
     rw [if_pos hn]
     have := hc (i + 1) 0
     rcases mn_or INF (mn INF (Wc c b i 0) + c (i + 1) 0) with e | e
     · omega
     · rw [e] at h ⊢
       rcases mn_or INF (Wc c b i 0) with e2 | e2
       · omega
       · rw [e2] at h ⊢; exact WPath.down i 0 _ (ihi 0 (by omega)) hn
   · omega
  | succ j ih =>
   intro h
   rw [Wss] at h ⊢
   split at h
   · rename_i hn
     rw [if_pos hn]
     have := hc (i + 1) (j + 1)
     rcases mn_or INF (mn (mn (mn (mn INF (Wc c b (i + 1) j)) (Wc c b i (j + 1))) (Wc c b i (j + 1))) (Wc c b i j) + c (i + 1) (j + 1)) with e | e
     · omega
     · rw [e] at h ⊢
       rcases mn_or (mn (mn (mn INF (Wc c b (i + 1) j)) (Wc c b i (j + 1))) (Wc c b i (j + 1))) (Wc c b i j) with e2 | e2
       · rw [e2] at h ⊢
         rcases mn_or (mn (mn INF (Wc c b (i + 1) j)) (Wc c b i (j + 1))) (Wc c b i (j + 1)) with e3 | e3
         · rw [e3] at h ⊢
           rcases mn_or (mn INF (Wc c b (i + 1) j)) (Wc c b i (j + 1)) with e4 | e4
           · rw [e4] at h ⊢
             rcases mn_or INF (Wc c b (i + 1) j) with e5 | e5
             · omega
             · rw [e5] at h ⊢; exact WPath.right (i + 1) j _ (ih (by omega)) hn
           · rw [e4] at h ⊢; exact WPath.down i (j + 1) _ (ihi _ (by omega)) hn
         · rw [e3] at h ⊢; exact WPath.down i (j + 1) _ (ihi _ (by omega)) hn
       · rw [e2] at h ⊢; exact WPath.diag i j _ (ihi _ (by omega)) hn
   · omega

theorem WPath.bound {c : Nat → Nat → Int} {b K : Int} {p q i j : Nat} {s : Int} (h : WPath c b p q i j s) (hK : 0 ≤ K) (hc : ∀ i j, c i j ≤ K) : s ≤ K * ((i - p + (j - q) : Nat) + 1) := by
 induction h with
 | one _ => have := hc p q; simp; omega
 | diag i j s h hn ih =>
  have := hc (i + 1) (j + 1); have hl := h.le
  have e : ((i + 1 - p + (j + 1 - q) : Nat) : Int) = ((i - p + (j - q) : Nat) : Int) + 2 := by omega
  rw [e, show (((i - p + (j - q) : Nat) : Int) + 2 + 1) = (((i - p + (j - q) : Nat) : Int) + 1) + 2 by omega, Int.mul_add]; omega
 | down i j s h hn ih =>
  have := hc (i + 1) j; have hl := h.le
  have e : ((i + 1 - p + (j - q) : Nat) : Int) = ((i - p + (j - q) : Nat) : Int) + 1 := by omega
  rw [e, Int.mul_add]; omega
 | right i j s h hn ih =>
  have := hc i (j + 1); have hl := h.le
  have e : ((i - p + (j + 1 - q) : Nat) : Int) = ((i - p + (j - q) : Nat) : Int) + 1 := by omega
  rw [e, Int.mul_add]; omega

theorem path_exists (c : Nat → Nat → Int) {b : Int} (hb : 0 ≤ b) : ∀ i j, nearB b i j → ∃ s, WPath c b 0 0 i j s := by
 intro i
 induction i with
 | zero =>
  intro j
  induction j with
  | zero => intro h; exact ⟨_, WPath.one h⟩
  | succ j ih => intro h; obtain ⟨s, hs⟩ := ih (by unfold nearB at h ⊢; omega); exact ⟨_, WPath.right 0 j s hs h⟩
 | succ i ihi =>
  intro j h
  cases j with
  | zero => obtain ⟨s, hs⟩ := ihi 0 (by unfold nearB at h ⊢; omega); exact ⟨_, WPath.down i 0 s hs h⟩
  | succ j => obtain ⟨s, hs⟩ := ihi j (by unfold nearB at h ⊢; omega); exact ⟨_, WPath.diag i j s hs h⟩

/-- Costs of pairs of samples. -/
structure Costs (c : Nat → Nat → Int) : Prop where
 pos : ∀ i j, 0 ≤ c i j
 le : ∀ i j, c i j ≤ 4000000

theorem W_lt {c : Nat → Nat → Int} {b : Int} (hc : Costs c) (hb : 0 ≤ b) {i j : Nat} (hi : i ≤ 64) (hj : j ≤ 64) (h : nearB b i j) : Wc c b i j < INF := by
 obtain ⟨s, hs⟩ := path_exists c hb i j h
 have h1 := W_le_path hs rfl rfl
 have h2 := hs.bound (K := 4000000) (by decide) hc.le
 have h3 : (4000000 : Int) * (((i - 0 + (j - 0) : Nat) : Int) + 1) ≤ 4000000 * 129 := Int.mul_le_mul_of_nonneg_left (by omega) (by decide)
 unfold INF; omega

/-! ref14: tables of numbers, rows of rows. -/
def tv (R : List (List Int)) (i j : Nat) : Int := (R.getD i []).getD j 0
structure Tbl (n m : Nat) (R : List (List Int)) : Prop where
 len : R.length = n
 row : ∀ i, i < n → (R.getD i []).length = m
theorem row_get {R : List (List Int)} {i : Nat} (h : i < R.length) : R[i]? = some (R.getD i []) := by
 rw [List.getD_eq_getElem?_getD, List.getElem?_eq_getElem h]; rfl
theorem row_at {R : List (List Int)} {i : Int} (h0 : 0 ≤ i) (h : i < (R.length : Int)) : at? R i = some (R.getD i.toNat []) := by
 unfold at?; rw [if_pos h0]; exact row_get (by omega)
theorem row_set {R : List (List Int)} {i p : Nat} {r : List Int} (h : i < R.length) : (R.set i r).getD p [] = if p = i then r else R.getD p [] := by
 rw [List.getD_eq_getElem?_getD, List.getElem?_set]
 by_cases c : i = p
 · subst c; rw [if_pos rfl, if_pos h, if_pos rfl]; rfl
 · rw [if_neg c, if_neg (fun e => c e.symm), List.getD_eq_getElem?_getD]
theorem el_set {r : List Int} {j q : Nat} {v : Int} (h : j < r.length) : (r.set j v).getD q 0 = if q = j then v else r.getD q 0 := by
 rw [List.getD_eq_getElem?_getD, List.getElem?_set]
 by_cases c : j = q
 · subst c; rw [if_pos rfl, if_pos h, if_pos rfl]; rfl
 · rw [if_neg c, if_neg (fun e => c e.symm), List.getD_eq_getElem?_getD]
theorem el_at {r : List Int} {j : Int} (h0 : 0 ≤ j) (h : j < (r.length : Int)) : at? r j = some (r.getD j.toNat 0) := at_rd h0 h
theorem el_get {r : List Int} {j : Nat} (h : j < r.length) : r[j]? = some (r.getD j 0) := by
 rw [List.getD_eq_getElem?_getD, List.getElem?_eq_getElem h]; rfl
theorem tk_all {α : Type} {R : List α} {n : Nat} (h : R.length = n) : (R.drop 0).take n = R := by subst h; simp
/-- One number of a table is put. -/
def tset (R : List (List Int)) (i j : Nat) (v : Int) : List (List Int) := R.set i ((R.getD i []).set j v)
theorem tset_ok {n m : Nat} {R : List (List Int)} (h : Tbl n m R) {i j : Nat} (hi : i < n) (hj : j < m) (v : Int) : Tbl n m (tset R i j v) ∧ ∀ p q, tv (tset R i j v) p q = if p = i ∧ q = j then v else tv R p q := by
 have hl := h.len
 have hr := h.row i hi
 refine ⟨⟨by simp [tset, hl], fun p hp => ?_⟩, fun p q => ?_⟩
 · unfold tset
   rw [row_set (by omega)]
   split
   · rw [List.length_set]; exact hr
   · exact h.row p hp
 · unfold tv tset
   rw [row_set (by omega)]
   by_cases c : p = i
   · subst c
     rw [if_pos rfl, el_set (by omega)]
     by_cases d : q = j
     · rw [if_pos d, if_pos ⟨rfl, d⟩]
     · rw [if_neg d, if_neg (fun e => d e.2)]
   · rw [if_neg c, if_neg (fun e => c e.1)]
theorem tset_row {R : List (List Int)} {i j : Nat} {v : Int} (h : i < R.length) : (tset R i j v).getD i [] = (R.getD i []).set j v := by
 unfold tset; rw [row_set h, if_pos rfl]
theorem tset_tset {R : List (List Int)} {i j : Nat} {v w : Int} (h : i < R.length) : (tset R i j v).set i (((tset R i j v).getD i []).set j w) = tset R i j w := by
 rw [tset_row h, List.set_set]; unfold tset; rw [List.set_set]
/-- The number at a pair, or that of what is without. -/
def av (R : List (List Int)) (n m : Nat) (b i j : Int) : Int := if 0 ≤ i ∧ 0 ≤ j ∧ i < n ∧ j < m ∧ i - j ≤ b ∧ j - i ≤ b then tv R i.toNat j.toNat else INF
theorem r14_out (n m b i j : Int) : Gives (fun k => T_ref14_out k n m b i j) (fun _ => True) := Gives.step (by simp only [T_ref14_out]; exact Gives.now trivial)
theorem r14_at {R : List (List Int)} {n m : Nat} {b i j : Int} (h : Tbl n m R) (hn : 1 ≤ n) (hn2 : n ≤ 100) (hm2 : m ≤ 100) (i0 : -2 ≤ i) (i1 : i ≤ 100) (j0 : -2 ≤ j) (j1 : j ≤ 100) : Gives (fun k => T_ref14_At k R b i j) (fun r => r = av R n m b i j) := by
 have hl := h.len
 have h0 := h.row 0 (by omega)
 refine Gives.step ?_
 simp only [T_ref14_At]
 rw [hl]
 refine Gives.bind (Q := fun v => v = !decide (0 ≤ i ∧ 0 ≤ j ∧ i < n ∧ j < m ∧ i - j ≤ b ∧ j - i ≤ b)) ?_ fun v hv => ?_
 · refine Gives.neg (by omega) (Gives.opt (row_at (by omega) (by omega)) (Gives.bind (r14_out _ _ _ _ _) fun _ _ => Gives.now ?_))
   rw [w64_id (x := i - j) (by omega) (by omega), w64_id (x := j - i) (by omega) (by omega), show (0 : Int).toNat = 0 from rfl, h0]
   by_cases c : 0 ≤ i ∧ 0 ≤ j ∧ i < (n : Int) ∧ j < (m : Int) ∧ i - j ≤ b ∧ j - i ≤ b
   · rw [decide_eq_true c]; simp; omega
   · rw [decide_eq_false c]; simp; omega
 · subst hv
   unfold av
   by_cases c : 0 ≤ i ∧ 0 ≤ j ∧ i < (n : Int) ∧ j < (m : Int) ∧ i - j ≤ b ∧ j - i ≤ b
   · rw [if_pos c, decide_eq_true c]
     have hr := h.row i.toNat (by omega)
     exact Gives.neg (by simp) (Gives.opt (row_at (by omega) (by omega)) (Gives.opt (el_at (by omega) (by omega)) (Gives.now rfl)))
   · rw [if_neg c, decide_eq_false c]
     exact Gives.pos (by simp) (Gives.now rfl)
theorem r14_before {R : List (List Int)} {n m : Nat} {b i j : Int} (h : Tbl n m R) (hn : 1 ≤ n) (hn2 : n ≤ 100) (hm2 : m ≤ 100) (i0 : 0 ≤ i) (i1 : i ≤ 100) (j0 : 0 ≤ j) (j1 : j ≤ 100) : Gives (fun k => T_ref14_Before k R b i j)
 (fun r => (-1 ≤ r.1 ∧ r.1 ≤ 100 ∧ -1 ≤ r.2 ∧ r.2 ≤ 100) ∧ r = (if av R n m b i (j - 1) < av R n m b (if av R n m b (i - 1) j < av R n m b (i - 1) (j - 1) then (i - 1, j) else (i - 1, j - 1)).1 (if av R n m b (i - 1) j < av R n m b (i - 1) (j - 1) then (i - 1, j) else (i - 1, j - 1)).2 then (i, j - 1) else if av R n m b (i - 1) j < av R n m b (i - 1) (j - 1) then (i - 1, j) else (i - 1, j - 1))) := by
 obtain ⟨P, hP⟩ : ∃ P : Int × Int, P = if av R n m b (i - 1) j < av R n m b (i - 1) (j - 1) then (i - 1, j) else (i - 1, j - 1) := ⟨_, rfl⟩
 rw [← hP]
 have pb : -1 ≤ P.1 ∧ P.1 ≤ 100 ∧ -1 ≤ P.2 ∧ P.2 ≤ 100 := by rw [hP]; split <;> (simp only []; omega)
 refine Gives.step ?_
 simp only [T_ref14_Before]
 rw [w64_id (x := i - 1) (by omega) (by omega), w64_id (x := j - 1) (by omega) (by omega)]
 refine Gives.bind (Q := fun r => (-1 ≤ r.1 ∧ r.1 ≤ 100 ∧ -1 ≤ r.2 ∧ r.2 ≤ 100) ∧ r = if av R n m b i (j - 1) < av R n m b P.1 P.2 then (i, j - 1) else P) ?_ fun r hr => Gives.now hr
 refine Gives.loop (fun s => (s.1 = 0 ∧ s.2 = (i - 1, j - 1)) ∨ (s.1 = 1 ∧ s.2 = P) ∨ (s.1 = 2 ∧ s.2 = if av R n m b i (j - 1) < av R n m b P.1 P.2 then (i, j - 1) else P)) (fun s => (2 - s.1).toNat) ?_ (.inl ⟨rfl, rfl⟩)
 intro ⟨a, q⟩ hs
 unfold T_ref14_Before_l1
 simp only at hs ⊢
 rcases hs with ⟨rfl, rfl⟩ | ⟨rfl, hq⟩ | ⟨rfl, hq⟩
 · refine Gives.pos (by omega) (Gives.opt (a := (i - 1, j)) rfl ?_)
   refine Gives.bind (r14_at h hn hn2 hm2 (by simp only []; omega) (by simp only []; omega) (by simp only []; omega) (by simp only []; omega)) fun u hu => Gives.bind (r14_at h hn hn2 hm2 (by simp only []; omega) (by simp only []; omega) (by simp only []; omega) (by simp only []; omega)) fun v hv => ?_
   subst hu hv
   refine Gives.bind (Q := fun z => z = P) ?_ fun z hz => Gives.now ⟨.inr (.inl ⟨rfl, ?_⟩), (by decide : (2 - w64 (0 + 1)).toNat < (2 - 0 : Int).toNat)⟩
   · refine Gives.ite (fun c => Gives.now ?_) fun c => Gives.now ?_
     · rw [hP, if_pos c]
     · rw [hP, if_neg c]
   · rw [← hz]
 · subst hq
   refine Gives.pos (by omega) (Gives.opt (a := (i, j - 1)) rfl ?_)
   refine Gives.bind (r14_at h hn hn2 hm2 (by simp only []; omega) (by simp only []; omega) (by simp only []; omega) (by simp only []; omega)) fun u hu => Gives.bind (r14_at h hn hn2 hm2 (by omega) (by omega) (by omega) (by omega)) fun v hv => ?_
   subst hu hv
   refine Gives.bind (Q := fun z => z = if av R n m b i (j - 1) < av R n m b q.1 q.2 then (i, j - 1) else q) ?_ fun z hz => Gives.now ⟨.inr (.inr ⟨rfl, ?_⟩), (by decide : (2 - w64 (1 + 1)).toNat < (2 - 1 : Int).toNat)⟩
   · refine Gives.ite (fun c => Gives.now ?_) fun c => Gives.now ?_
     · rw [if_pos c]
     · rw [if_neg c]
   · rw [← hz]
 · refine Gives.neg (by omega) (Gives.now ⟨?_, hq⟩)
   simp only []
   rw [hq]
   split
   · simp only []; omega
   · exact pb

/-- The least cost at a pair, or that of what is without. -/
def Wx (c : Nat → Nat → Int) (b i j : Int) : Int := if 0 ≤ i ∧ 0 ≤ j then Wc c b i.toNat j.toNat else INF
theorem W_out {c : Nat → Nat → Int} {b : Int} {i j : Nat} (h : ¬ nearB b i j) : Wc c b i j = INF := by
 cases i <;> cases j
 · rw [W00, if_neg h]
 · rw [W0s, if_neg h]
 · rw [Ws0, if_neg h]
 · rw [Wss, if_neg h]
theorem W_in {c : Nat → Nat → Int} {b : Int} {i j : Nat} (h : nearB b i j) (hlt : Wc c b i j < INF) (hc : 0 ≤ c i j) (hij : 0 < i + j) : Wc c b i j = mn (mn (Wx c b (i - 1) (j - 1)) (Wx c b (i - 1) j)) (Wx c b i (j - 1)) + c i j := by
 have key : ∀ X : Int, mn INF X < INF → mn INF X = X := by intro X hX; unfold mn at hX ⊢; split at hX <;> split <;> omega
 have low := W_le_INF c b
 cases i with
 | zero =>
  cases j with
  | zero => omega
  | succ j =>
   rw [W0s, if_pos h] at hlt ⊢
   rw [key _ hlt]
   have e1 : Wx c b ((0 : Nat) - 1 : Int) (((j + 1 : Nat) : Int) - 1) = INF := by unfold Wx; rw [if_neg (by omega)]
   have e2 : Wx c b ((0 : Nat) - 1 : Int) ((j + 1 : Nat) : Int) = INF := by unfold Wx; rw [if_neg (by omega)]
   have e3 : Wx c b ((0 : Nat) : Int) (((j + 1 : Nat) : Int) - 1) = Wc c b 0 j := by unfold Wx; rw [if_pos (by omega)]; congr 1; omega
   rw [e1, e2, e3]
   have := low 0 j
   unfold mn; split <;> split <;> omega
 | succ i =>
  cases j with
  | zero =>
   rw [Ws0, if_pos h] at hlt ⊢
   rw [key _ hlt]
   have e1 : Wx c b (((i + 1 : Nat) : Int) - 1) (((0 : Nat) : Int) - 1) = INF := by unfold Wx; rw [if_neg (by omega)]
   have e2 : Wx c b (((i + 1 : Nat) : Int) - 1) ((0 : Nat) : Int) = Wc c b i 0 := by unfold Wx; rw [if_pos (by omega)]; congr 1; omega
   have e3 : Wx c b ((i + 1 : Nat) : Int) (((0 : Nat) : Int) - 1) = INF := by unfold Wx; rw [if_neg (by omega)]
   rw [e1, e2, e3]
   have := low i 0
   unfold mn; split <;> split <;> (try split) <;> omega
  | succ j =>
   rw [Wss, if_pos h] at hlt ⊢
   rw [key _ hlt]
   have e1 : Wx c b (((i + 1 : Nat) : Int) - 1) (((j + 1 : Nat) : Int) - 1) = Wc c b i j := by unfold Wx; rw [if_pos (by omega)]; congr 1 <;> omega
   have e2 : Wx c b (((i + 1 : Nat) : Int) - 1) ((j + 1 : Nat) : Int) = Wc c b i (j + 1) := by unfold Wx; rw [if_pos (by omega)]; congr 1; omega
   have e3 : Wx c b ((i + 1 : Nat) : Int) (((j + 1 : Nat) : Int) - 1) = Wc c b (i + 1) j := by unfold Wx; rw [if_pos (by omega)]; congr 1; omega
   rw [e1, e2, e3]
   have a1 := low i j
   have a2 := low i (j + 1)
   have a3 := low (i + 1) j
   generalize Wc c b i j = A at *
   generalize Wc c b i (j + 1) = B at *
   generalize Wc c b (i + 1) j = C at *
   have : mn (mn (mn (mn INF C) B) B) A = mn (mn A B) C := by
    unfold mn
    repeat' split
    all_goals omega
   rw [this]
theorem W_zero0 {c : Nat → Nat → Int} {b : Int} (h : nearB b 0 0) (hlt : Wc c b 0 0 < INF) : Wc c b 0 0 = c 0 0 := by
 rw [W00, if_pos h] at hlt ⊢
 unfold mn at hlt ⊢
 split at hlt <;> split <;> omega
/-- Of all pairs of a table before a pair, the number is the least cost. -/
def Done (c : Nat → Nat → Int) (b : Int) (R : List (List Int)) (n m i j : Nat) : Prop := ∀ p q, p < n → q < m → (p < i ∨ (p = i ∧ q < j)) → nearB b p q → tv R p q = Wc c b p q
theorem av_done {c : Nat → Nat → Int} {b : Int} {R : List (List Int)} {n m i j : Nat} (h : Done c b R n m i j) {p q : Int} (hp : p < n) (hq : q < m) (hpq : p < i ∨ (p = i ∧ q < j)) : av R n m b p q = Wx c b p q := by
 unfold av Wx
 by_cases c1 : 0 ≤ p ∧ 0 ≤ q
 · rw [if_pos c1]
   by_cases c2 : nearB b p.toNat q.toNat
   · have c3 : p - q ≤ b ∧ q - p ≤ b := by unfold nearB at c2; omega
     rw [if_pos (by omega)]
     exact h _ _ (by omega) (by omega) (by omega) c2
   · have c3 : ¬ (p - q ≤ b ∧ q - p ≤ b) := by unfold nearB at c2; omega
     rw [if_neg (by omega), W_out c2]
 · rw [if_neg (by omega), if_neg c1]
/-- The costs of pairs. -/
structure CTbl (c : Nat → Nat → Int) (n m : Nat) (C : List (List Int)) : Prop where
 tbl : Tbl n m C
 val : ∀ i j, i < n → j < m → tv C i j = c i j
theorem r14_fill1 {C : List (List Int)} {n m : Nat} (h : Tbl n m C) (hn : n ≤ 64) (hm : m ≤ 64) (b : Int) :
 Gives (fun k => loopT (T_ref14_Fill_l1 k C b n n) k (0, List.replicate n [])) (fun R => Tbl n m R) := by
 refine Gives.loop (fun s => 0 ≤ s.1 ∧ s.1 ≤ (n : Int) ∧ s.2.length = n ∧ ∀ p : Nat, (p : Int) < s.1 → (s.2.getD p []).length = m) (fun s => ((n : Int) - s.1).toNat) ?_ ⟨by simp only []; omega, by simp only []; omega, by simp, fun p hp => by simp only at hp; omega⟩
 intro ⟨i, R⟩ ⟨i0, i1, i2, i3⟩
 simp only at i0 i1 i2 i3
 unfold T_ref14_Fill_l1
 simp only []
 refine Gives.ite (fun cc => ?_) fun cc => Gives.now ⟨i2, fun p hp => i3 p (by omega)⟩
 have hl := h.len
 refine Gives.opt (row_at i0 (by omega)) ?_
 rw [h.row i.toNat (by omega), w64_id (x := i + 1) (by omega) (by omega)]
 refine Gives.pos (by unfold LIM; omega) (Gives.pos ⟨i0, by omega⟩ (Gives.now ⟨⟨by simp only []; omega, by simp only []; omega, by simp [i2], fun p hp => ?_⟩, by simp only []; omega⟩))
 simp only at hp ⊢
 rw [Nat.zero_add, row_set (by omega)]
 split
 · simp
 · exact i3 p (by omega)
theorem r14_fill2 {c : Nat → Nat → Int} {C : List (List Int)} {n m : Nat} {b : Int} {R : List (List Int)} {i : Nat} (hc : Costs c) (h : CTbl c n m C) (hn : n ≤ 64) (hm : m ≤ 64) (hb : 0 ≤ b) (hR : Tbl n m R) (hi : i < n) (hD : Done c b R n m i 0) (hb2 : b ≤ 64) (x : Int) :
 Gives (fun k => loopT (T_ref14_Fill_l2 k C b n x i i m) k (0, R)) (fun R' => Tbl n m R' ∧ Done c b R' n m (i + 1) 0) := by
 refine Gives.loop (fun s => 0 ≤ s.1 ∧ s.1 ≤ (m : Int) ∧ Tbl n m s.2 ∧ Done c b s.2 n m i s.1.toNat) (fun s => ((m : Int) - s.1).toNat) ?_ ⟨by simp only []; omega, by simp only []; omega, hR, hD⟩
 intro ⟨j, R⟩ ⟨j0, j1, hT, hd⟩
 simp only at j0 j1 hT hd
 unfold T_ref14_Fill_l2
 simp only []
 refine Gives.ite (fun cc => ?_) fun cc => Gives.now ⟨hT, fun p q hp hq hpq hn' => hd p q hp hq (by omega) hn'⟩
 have hl := h.tbl.len
 have hr := h.tbl.row i hi
 have rl := hT.len
 have rr := hT.row i hi
 obtain ⟨jn, rfl⟩ : ∃ jn : Nat, j = jn := ⟨j.toNat, by omega⟩
 rw [Int.toNat_natCast] at hd
 refine Gives.opt (row_at (by omega) (by omega)) (Gives.bind (r14_out _ _ _ _ _) fun _ _ => ?_)
 rw [Int.toNat_natCast, Int.toNat_natCast, hr, hl, w64_id (x := (jn : Int) + 1) (by omega) (by omega), w64_id (x := (i : Int) - jn) (by omega) (by omega), w64_id (x := (jn : Int) - i) (by omega) (by omega)]
 have next : ∀ R', Tbl n m R' → (∀ p q, (p, q) ≠ (i, jn) → tv R' p q = tv R p q) → (nearB b i jn → tv R' i jn = Wc c b i jn) → Done c b R' n m i (jn + 1) := by
  intro R' hT' h1 h2 p q hp hq hpq hnr
  by_cases e : p = i ∧ q = jn
  · obtain ⟨rfl, rfl⟩ := e; exact h2 hnr
  · rw [h1 p q (fun e' => e (by cases e'; exact ⟨rfl, rfl⟩))]
    exact hd p q hp hq (by omega) hnr
 refine Gives.ite (fun c2 => ?_) fun c2 => ?_
 · have hnn : ¬ nearB b i jn := by unfold nearB; simp at c2; omega
   exact Gives.now ⟨⟨by simp only []; omega, by simp only []; omega, hT, next R hT (fun _ _ _ => rfl) fun e => absurd e hnn⟩, by simp only []; omega⟩
 have hnr : nearB b i jn := by unfold nearB; simp at c2; omega
 have hlt := W_lt hc hb (i := i) (j := jn) (by omega) (by omega) hnr
 have cp := hc.pos i jn
 have cl := hc.le i jn
 refine Gives.opt (row_at (by omega) (by omega)) ?_
 rw [Int.toNat_natCast]
 refine Gives.opt (el_at (by omega) (by rw [hr]; omega)) ?_
 rw [Int.toNat_natCast, Nat.zero_add, Nat.zero_add, show (C.getD i []).getD jn 0 = c i jn from h.val i jn hi (by omega)]
 refine Gives.pos ⟨by omega, by omega⟩ (Gives.opt (row_get (by omega)) (Gives.pos ⟨by omega, by omega⟩ ?_))
 rw [show R.set i ((R.getD i []).set jn (c i jn)) = tset R i jn (c i jn) from rfl]
 obtain ⟨t1, t2⟩ := tset_ok hT hi (j := jn) (by omega) (c i jn)
 have tl := t1.len
 have tr := t1.row i hi
 have hd1 : Done c b (tset R i jn (c i jn)) n m i jn := fun p q hp hq hpq hn' => by
  rw [t2, if_neg (by omega)]; exact hd p q hp hq hpq hn'
 rw [tk_all tl]
 refine Gives.bind (Q := fun R' => Tbl n m R' ∧ (∀ p q, (p, q) ≠ (i, jn) → tv R' p q = tv R p q) ∧ tv R' i jn = Wc c b i jn) ?_ fun R' hR' => Gives.now ⟨⟨by simp only []; omega, by simp only []; omega, hR'.1, by
  rw [show ((jn : Int) + 1).toNat = jn + 1 by omega]; exact next R' hR'.1 hR'.2.1 fun _ => hR'.2.2⟩, by simp only []; omega⟩
 rw [w64_id (x := (i : Int) + jn) (by omega) (by omega)]
 refine Gives.ite (fun c3 => ?_) fun c3 => ?_
 · refine Gives.bind (r14_before t1 (by omega) (by omega) (by omega) (by omega) (by omega) (by omega) (by omega)) fun p hp => ?_
   obtain ⟨⟨p1, p2, p3, p4⟩, hp⟩ := hp
   refine Gives.pos ⟨by omega, by omega⟩ (Gives.opt (row_get (by omega)) (Gives.pos ⟨by omega, by omega⟩ (Gives.opt (el_get (by omega)) ?_)))
   refine Gives.bind (r14_at t1 (by omega) (by omega) (by omega) (by omega) p2 (by omega) p4) fun v hv => ?_
   rw [show ((tset R i jn (c i jn)).getD i []).getD jn 0 = c i jn by have := t2 i jn; rw [if_pos ⟨rfl, rfl⟩] at this; exact this]
   have e1 := av_done hd1 (p := (i : Int) - 1) (q := jn) (by omega) (by omega) (by omega)
   have e2 := av_done hd1 (p := (i : Int) - 1) (q := (jn : Int) - 1) (by omega) (by omega) (by omega)
   have e3 := av_done hd1 (p := (i : Int)) (q := (jn : Int) - 1) (by omega) (by omega) (by omega)
   have wi := W_in hnr hlt cp (by omega)
   have hv2 : c i jn + v = Wc c b i jn := by
    rw [wi, hv, hp]
    by_cases d1 : av (tset R i jn (c i jn)) n m b (i - 1) jn < av (tset R i jn (c i jn)) n m b (i - 1) (jn - 1)
    · rw [if_pos d1]
      by_cases d2 : av (tset R i jn (c i jn)) n m b i (jn - 1) < av (tset R i jn (c i jn)) n m b (i - 1) jn
      · rw [if_pos d2]
        rw [e1, e2] at d1; rw [e3, e1] at d2
        show c i jn + av (tset R i jn (c i jn)) n m b i (jn - 1) = _
        rw [e3]; unfold mn; rw [if_pos d1, if_pos d2]; omega
      · rw [if_neg d2]
        rw [e1, e2] at d1; rw [e3, e1] at d2
        show c i jn + av (tset R i jn (c i jn)) n m b (i - 1) jn = _
        rw [e1]; unfold mn; rw [if_pos d1, if_neg d2]; omega
    · rw [if_neg d1]
      by_cases d2 : av (tset R i jn (c i jn)) n m b i (jn - 1) < av (tset R i jn (c i jn)) n m b (i - 1) (jn - 1)
      · rw [if_pos d2]
        rw [e1, e2] at d1; rw [e3, e2] at d2
        show c i jn + av (tset R i jn (c i jn)) n m b i (jn - 1) = _
        rw [e3]; unfold mn; rw [if_neg d1, if_pos d2]; omega
      · rw [if_neg d2]
        rw [e1, e2] at d1; rw [e3, e2] at d2
        show c i jn + av (tset R i jn (c i jn)) n m b (i - 1) (jn - 1) = _
        rw [e2]; unfold mn; rw [if_neg d1, if_neg d2]; omega
   have wn := W_nonneg b hc.pos i jn
   rw [w64_id (x := c i jn + v) (by unfold INF at hlt; omega) (by unfold INF at hlt; omega), hv2, tset_tset (by omega)]
   obtain ⟨u1, u2⟩ := tset_ok hT hi (j := jn) (by omega) (Wc c b i jn)
   exact Gives.now ⟨u1, fun p q hpq => by rw [u2, if_neg (fun e => hpq (by rw [e.1, e.2]))], by rw [u2, if_pos ⟨rfl, rfl⟩]⟩
 · have e0 : i = 0 ∧ jn = 0 := by omega
   refine Gives.now ⟨t1, fun p q hpq => by rw [t2, if_neg (fun e => hpq (by rw [e.1, e.2]))], ?_⟩
   rw [t2, if_pos ⟨rfl, rfl⟩]
   obtain ⟨rfl, rfl⟩ := e0
   exact (W_zero0 hnr hlt).symm
theorem r14_fill {c : Nat → Nat → Int} {C : List (List Int)} {n m : Nat} {b : Int} (hc : Costs c) (h : CTbl c n m C) (hn : n ≤ 64) (hm : m ≤ 64) (hb : 0 ≤ b) (hb2 : b ≤ 64) :
 Gives (fun k => T_ref14_Fill k C b) (fun R => Tbl n m R ∧ Done c b R n m n 0) := by
 have hl := h.tbl.len
 refine Gives.step ?_
 simp only [T_ref14_Fill]
 rw [hl, Int.toNat_natCast]
 refine Gives.pos (by unfold LIM; omega) (Gives.bind (r14_fill1 h.tbl hn hm b) fun R hR => ?_)
 refine Gives.bind (Q := fun R' => Tbl n m R' ∧ Done c b R' n m n 0) ?_ fun R' hR' => by rw [tk_all hR'.1.len]; exact Gives.now hR'
 refine Gives.loop (fun s => 0 ≤ s.1 ∧ s.1 ≤ (n : Int) ∧ Tbl n m s.2 ∧ Done c b s.2 n m s.1.toNat 0) (fun s => ((n : Int) - s.1).toNat) ?_ ⟨by simp only []; omega, by simp only []; omega, hR, fun p q _ _ hpq => by simp only at hpq; omega⟩
 intro ⟨i, R⟩ ⟨i0, i1, hT, hd⟩
 simp only at i0 i1 hT hd
 unfold T_ref14_Fill_l3
 simp only []
 refine Gives.ite (fun cc => ?_) fun cc => Gives.now ⟨hT, fun p q hp hq hpq hn' => hd p q hp hq (by omega) hn'⟩
 obtain ⟨iN, rfl⟩ : ∃ iN : Nat, i = iN := ⟨i.toNat, by omega⟩
 rw [Int.toNat_natCast] at hd
 refine Gives.opt (row_at (by omega) (by omega)) ?_
 rw [Int.toNat_natCast, h.tbl.row iN (by omega), w64_id (x := (iN : Int) + 1) (by omega) (by omega)]
 exact Gives.bind (r14_fill2 hc h hn hm hb hT (by omega) hd hb2 n) fun R' hR' => Gives.now ⟨⟨by simp only []; omega, by simp only []; omega, hR'.1, by simp only []; rw [show ((iN : Int) + 1).toNat = iN + 1 by omega]; exact hR'.2⟩, by simp only []; omega⟩

/-- The cost of a pair of samples. -/
def sqc (x y : List Int) (i j : Nat) : Int := (x.getD i 0 - y.getD j 0) * (x.getD i 0 - y.getD j 0)
theorem sqc_ok {x y : List Int} (hx : Smp x) (hy : Smp y) : Costs (sqc x y) := by
 have key : ∀ i j, -2000 ≤ x.getD i 0 - y.getD j 0 ∧ x.getD i 0 - y.getD j 0 ≤ 2000 := by
  intro i j
  have h1 := hx.rd (i : Int)
  have h2 := hy.rd (j : Int)
  unfold rd at h1 h2
  simp only [Int.toNat_natCast] at h1 h2
  omega
 refine ⟨fun i j => ?_, fun i j => ?_⟩
 · unfold sqc
   generalize x.getD i 0 - y.getD j 0 = d
   rcases Int.le_total 0 d with h | h
   · exact Int.mul_nonneg h h
   · exact Int.mul_nonneg_of_nonpos_of_nonpos h h
 · obtain ⟨h1, h2⟩ := key i j
   unfold sqc
   generalize x.getD i 0 - y.getD j 0 = d at h1 h2
   have : d * d ≤ 2000 * 2000 := by
    rcases Int.le_total 0 d with h | h
    · exact Int.mul_le_mul h2 h2 h (by omega)
    · have := Int.mul_le_mul (a := -d) (b := -d) (c := 2000) (d := 2000) (by omega) (by omega) (by omega) (by omega)
      rw [Int.neg_mul_neg] at this; exact this
   omega
theorem r14_costs {x y : List Int} (hx : Win x) (hy : Win y) : Gives (fun k => T_ref14_Costs k x y) (fun R => CTbl (sqc x y) x.length y.length R) := by
 have x1 := hx.lo
 have x2 := hx.hi
 have y1 := hy.lo
 have y2 := hy.hi
 have hc := sqc_ok hx.smp hy.smp
 refine Gives.step ?_
 simp only [T_ref14_Costs]
 rw [Int.toNat_natCast]
 refine Gives.pos (by unfold LIM; omega) (Gives.bind (Q := fun R => CTbl (sqc x y) x.length y.length R) ?_ fun R hR => by rw [tk_all hR.tbl.len]; exact Gives.now hR)
 refine Gives.loop (fun s => 0 ≤ s.1 ∧ s.1 ≤ (x.length : Int) ∧ s.2.length = x.length ∧ (∀ p : Nat, (p : Int) < s.1 → (s.2.getD p []).length = y.length ∧ ∀ q, q < y.length → tv s.2 p q = sqc x y p q) ∧ ∀ p : Nat, s.1 ≤ (p : Int) → s.2.getD p [] = []) (fun s => ((x.length : Int) - s.1).toNat) ?_ ⟨by simp only []; omega, by simp only []; omega, by simp, fun p hp => by simp only at hp; omega, fun p _ => by simp only [List.getD_eq_getElem?_getD, List.getElem?_replicate]; split <;> rfl⟩
 intro ⟨i, R⟩ ⟨i0, i1, i2, i3, i4⟩
 simp only at i0 i1 i2 i3 i4
 unfold T_ref14_Costs_l2
 simp only []
 refine Gives.ite (fun cc => ?_) fun cc => Gives.now ⟨⟨i2, fun p hp => (i3 p (by omega)).1⟩, fun p q hp hq => (i3 p (by omega)).2 q hq⟩
 obtain ⟨iN, rfl⟩ : ∃ iN : Nat, i = iN := ⟨i.toNat, by omega⟩
 have e0 := i4 iN (by omega)
 refine Gives.bind (Q := fun R' => R'.length = x.length ∧ (∀ p, p ≠ iN → R'.getD p [] = R.getD p []) ∧ (R'.getD iN []).length = y.length ∧ ∀ q, q < y.length → (R'.getD iN []).getD q 0 = sqc x y iN q) ?_ fun R' hR' => ?_
 · refine Gives.loop (fun s => 0 ≤ s.1 ∧ s.1 ≤ (y.length : Int) ∧ s.2.length = x.length ∧ (∀ p, p ≠ iN → s.2.getD p [] = R.getD p []) ∧ (s.2.getD iN []).length = s.1.toNat ∧ ∀ q : Nat, (q : Int) < s.1 → (s.2.getD iN []).getD q 0 = sqc x y iN q) (fun s => ((y.length : Int) - s.1).toNat) ?_ ⟨by simp only []; omega, by simp only []; omega, i2, fun _ _ => rfl, by simp only []; rw [e0]; rfl, fun q hq => by simp only at hq; omega⟩
   intro ⟨j, R'⟩ ⟨j0, j1, j2, j3, j4, j5⟩
   simp only at j0 j1 j2 j3 j4 j5
   unfold T_ref14_Costs_l1
   simp only []
   refine Gives.ite (fun cd => ?_) fun cd => Gives.now ⟨j2, j3, by omega, fun q hq => j5 q (by omega)⟩
   obtain ⟨jN, rfl⟩ : ∃ jN : Nat, j = jN := ⟨j.toNat, by omega⟩
   rw [Int.toNat_natCast] at j4
   refine Gives.opt (at_rd (by omega) (by omega)) (Gives.opt (at_rd (by omega) (by omega)) (Gives.pos ⟨by omega, by omega⟩ (Gives.opt (row_get (by omega)) ?_)))
   rw [Int.toNat_natCast, Nat.zero_add, j4]
   refine Gives.pos (by unfold LIM; omega) ?_
   have cv : w64 (w64 (rd x iN - rd y jN) * w64 (rd x iN - rd y jN)) = sqc x y iN jN := by
    have h1 := hx.smp.rd (iN : Int)
    have h2 := hy.smp.rd (jN : Int)
    have h3 := hc.le iN jN
    have h4 := hc.pos iN jN
    have e : sqc x y iN jN = (rd x iN - rd y jN) * (rd x iN - rd y jN) := by unfold sqc rd; simp
    rw [w64_id (x := rd x iN - rd y jN) (by omega) (by omega), ← e, w64_id (by omega) (by omega)]
   rw [cv, w64_id (x := (jN : Int) + 1) (by omega) (by omega)]
   have er : ((List.take jN (List.drop 0 (R'.getD iN [])) ++ [sqc x y iN jN]).take (jN + 1)) = R'.getD iN [] ++ [sqc x y iN jN] := by
    rw [tk_all j4, List.take_of_length_le (by rw [List.length_append, j4]; simp)]
   rw [er]
   refine Gives.now ⟨⟨by simp only []; omega, by simp only []; omega, by simp only []; rw [List.length_set]; exact j2, fun p hp => ?_, ?_, fun q hq => ?_⟩, by simp only []; omega⟩
   · simp only []
     rw [row_set (by omega), if_neg hp]; exact j3 p hp
   · simp only []
     rw [row_set (by omega), if_pos rfl, List.length_append, j4]; simp
   · simp only at hq ⊢
     rw [row_set (by omega), if_pos rfl, List.getD_eq_getElem?_getD]
     by_cases cq : q < jN
     · rw [List.getElem?_append_left (by omega), ← List.getD_eq_getElem?_getD]; exact j5 q (by omega)
     · have : q = jN := by omega
       subst this
       rw [List.getElem?_append_right (by omega), j4, Nat.sub_self]
       rfl
 · obtain ⟨h1, h2, h3, h4⟩ := hR'
   rw [w64_id (x := (iN : Int) + 1) (by omega) (by omega)]
   refine Gives.now ⟨⟨by simp only []; omega, by simp only []; omega, h1, fun p hp => ?_, fun p hp => ?_⟩, by simp only []; omega⟩
   · simp only at hp ⊢
     by_cases c : p = iN
     · subst c; exact ⟨h3, h4⟩
     · rw [h2 p c]
       refine ⟨(i3 p (by omega)).1, fun q hq => ?_⟩
       have := (i3 p (by omega)).2 q hq
       unfold tv at this ⊢
       rw [h2 p c]; exact this
   · simp only at hp ⊢
     rw [h2 p (by omega)]; exact i4 p (by omega)
theorem r12_twoB {x y : List Int} {b : Int} (h : Fits x y b) : Gives (fun k => T_ref12_Two k x y b) (fun r => r = 0) := by
 have x1 := h.wx.lo
 have x2 := h.wx.hi
 have y1 := h.wy.lo
 have y2 := h.wy.hi
 have ab := h.ab
 have ba := h.ba
 have b0 := h.lo
 refine Gives.step ?_
 simp only [T_ref12_Two]
 refine Gives.neg (by simp; omega) (Gives.bind (Q := fun b => b = false) ?_ fun v hv => ?_)
 · exact Gives.bind (r12_samples h.wx) fun r hr => Gives.neg (by simp [hr]) (Gives.bind (r12_samples h.wy) fun r hr => Gives.now (by simp [hr]))
 · subst hv
   rw [w64_id (x := (x.length : Int) - y.length) (by omega) (by omega), w64_id (x := (y.length : Int) - x.length) (by omega) (by omega)]
   exact Gives.neg (by simp) (Gives.neg (by simp; omega) (Gives.now rfl))
theorem r14_check {x y : List Int} {b : Int} (h : Fits x y b) : Gives (fun k => T_ref14_Check k x y b) (fun r => r = 0) := by
 have b0 := h.lo
 have b1 := h.hi
 refine Gives.step ?_
 simp only [T_ref14_Check]
 exact Gives.neg (by simp; omega) (Gives.bind (r12_twoB h) fun r hr => Gives.now hr)
theorem r14_distance {x y : List Int} {b : Int} (h : Fits x y b) : Gives (fun k => T_ref14_Distance k x y b) (fun r => r.2 = 0 ∧ r.1 = Wc (sqc x y) b (x.length - 1) (y.length - 1)) := by
 have x1 := h.wx.lo
 have x2 := h.wx.hi
 have y1 := h.wy.lo
 have y2 := h.wy.hi
 have ab := h.ab
 have ba := h.ba
 have b0 := h.lo
 have b1 := h.hi
 refine Gives.step ?_
 simp only [T_ref14_Distance]
 refine Gives.bind (r14_check h) fun r hr => Gives.neg (by simp [hr]) (Gives.bind (r14_costs h.wx h.wy) fun C hC => Gives.bind (r14_fill (sqc_ok h.wx.smp h.wy.smp) hC (by omega) (by omega) b0 (by omega)) fun R hR => ?_)
 obtain ⟨hT, hD⟩ := hR
 have hl := hT.len
 have hr := hT.row (x.length - 1) (by omega)
 rw [w64_id (x := (x.length : Int) - 1) (by omega) (by omega), w64_id (x := (y.length : Int) - 1) (by omega) (by omega)]
 refine Gives.opt (row_at (by omega) (by omega)) ?_
 rw [show ((x.length : Int) - 1).toNat = x.length - 1 by omega]
 refine Gives.opt (el_at (by omega) (by omega)) (Gives.now ⟨rfl, ?_⟩)
 rw [show ((y.length : Int) - 1).toNat = y.length - 1 by omega]
 exact hD _ _ (by omega) (by omega) (by omega) (by unfold nearB; omega)

/-! A path costs at least what all samples of both windows lie beyond what they can be paired with. -/
theorem path_low {c : Nat → Nat → Int} {b : Int} {A B : Int → Int} {n m : Nat} (hA : ∀ j : Int, 0 ≤ A j) (hB : ∀ i : Int, 0 ≤ B i) (hc : ∀ i j : Nat, i ≤ n → j ≤ m → nearB b i j → A j + B i ≤ c i j) {p q i j : Nat} {s : Int}
 (h : WPath c b p q i j s) : p = 0 → q = 0 → i ≤ n → j ≤ m → sg A (j + 1) + sg B (i + 1) ≤ s := by
 induction h with
 | one h => intro h1 h2 h3 h4; subst h1 h2; have := hc 0 0 h3 h4 h; simp [sg] at *; omega
 | diag i j s _ hn ih =>
  intro h1 h2 h3 h4
  have := ih h1 h2 (by omega) (by omega)
  have := hc (i + 1) (j + 1) h3 h4 hn
  rw [sg, sg.eq_2 (n := i + 1)]
  omega
 | down i j s _ hn ih =>
  intro h1 h2 h3 h4
  have := ih h1 h2 (by omega) h4
  have := hc (i + 1) j h3 h4 hn
  have := hA j
  rw [sg.eq_2 (n := i + 1)]
  omega
 | right i j s _ hn ih =>
  intro h1 h2 h3 h4
  have := ih h1 h2 h3 (by omega)
  have := hc i (j + 1) h3 h4 hn
  have := hB i
  rw [sg.eq_2 (n := j + 1)]
  omega

-- The bound by pieces is at most Keogh's, that at most the improved one, and that at most the warping distance: EnvelopeCascade returns true for every list.
theorem awake_k (k : Nat) : T_law20_awake (k + 40) = some true := by kernel_rfl
theorem awake_ok : Gives (fun k => T_law20_awake k) (· = true) := ⟨true, ⟨40, fun k hk => by
 obtain ⟨m, rfl⟩ : ∃ m, k = m + 40 := ⟨k - 40, by omega⟩
 exact awake_k m⟩, rfl⟩
theorem BestA.uniq {x : List Int} {b j v v' : Int} (h : BestA x b j v) (h' : BestA x b j v') : v = v' := by
 have h1 := h.mono h' (Int.le_refl b)
 have h2 := h'.mono h (Int.le_refl b)
 omega
theorem BestB.uniq {x : List Int} {b j v v' : Int} (h : BestB x b j v) (h' : BestB x b j v') : v = v' := by
 have h1 := h.mono h' (Int.le_refl b)
 have h2 := h'.mono h (Int.le_refl b)
 omega
theorem kg_uniq {x y : List Int} {b : Int} {L U L' U' : List Int} (h1 : ∀ j, 0 ≤ j → j < (y.length : Int) → BestA x b j (rd U j)) (h2 : ∀ j, 0 ≤ j → j < (y.length : Int) → BestB x b j (rd L j)) (h3 : ∀ j, 0 ≤ j → j < (y.length : Int) → BestA x b j (rd U' j)) (h4 : ∀ j, 0 ≤ j → j < (y.length : Int) → BestB x b j (rd L' j)) : kg y L U = kg y L' U' := by
 unfold kg
 refine sg_congr fun j j0 j1 => ?_
 rw [(h1 j j0 j1).uniq (h3 j j0 j1), (h2 j j0 j1).uniq (h4 j j0 j1)]
theorem pair_low {v l u x l' u' : Int} (h1 : l ≤ x) (h2 : x ≤ u) (h3 : l' ≤ imin (imax v l) u) (h4 : imin (imax v l) u ≤ u') : ps v l u * ps v l u + ps x l' u' * ps x l' u' ≤ (x - v) * (x - v) := by
 have a0 := ps_nonneg v l u
 have d0 := ps_nonneg x l' u'
 have key : ps v l u + ps x l' u' ≤ x - v ∨ ps v l u + ps x l' u' ≤ v - x := by
  unfold ps imax
  unfold imin imax at h3 h4
  repeat' split
  all_goals repeat' (split at h3)
  all_goals first | omega | (repeat' (split at h4)) <;> omega
 generalize ps v l u = a at *
 generalize ps x l' u' = d at *
 have ad := Int.mul_nonneg a0 d0
 have e1 : (a + d) * (a + d) = a * a + d * d + 2 * (a * d) := by grind
 rcases key with k | k
 · have := Int.mul_le_mul k k (by omega) (by omega)
   omega
 · have := Int.mul_le_mul k k (by omega) (by omega)
   have e2 : (v - x) * (v - x) = (x - v) * (x - v) := by grind
   omega
theorem env_low {x y L U p L' U' : List Int} {b : Int} (hf : Fits x y b) (hU : ∀ j, 0 ≤ j → j < (y.length : Int) → BestA x b j (rd U j)) (hL : ∀ j, 0 ≤ j → j < (y.length : Int) → BestB x b j (rd L j)) (hl : p.length = y.length)
 (hp : ∀ j, 0 ≤ j → j < (y.length : Int) → rd p j = imin (imax (rd y j) (rd L j)) (rd U j)) (hU' : ∀ j, 0 ≤ j → j < (x.length : Int) → BestA p b j (rd U' j)) (hL' : ∀ j, 0 ≤ j → j < (x.length : Int) → BestB p b j (rd L' j)) :
 kg y L U + kg x L' U' ≤ Wc (sqc x y) b (x.length - 1) (y.length - 1) := by
 have x1 := hf.wx.lo
 have x2 := hf.wx.hi
 have y1 := hf.wy.lo
 have y2 := hf.wy.hi
 have ab := hf.ab
 have ba := hf.ba
 have hc := sqc_ok hf.wx.smp hf.wy.smp
 have hn : nearB b (x.length - 1) (y.length - 1) := by unfold nearB; omega
 have hw := W_path hc.pos _ _ (W_lt hc hf.lo (by omega) (by omega) hn)
 have := path_low (A := fun j => ps (rd y j) (rd L j) (rd U j) * ps (rd y j) (rd L j) (rd U j)) (B := fun i => ps (rd x i) (rd L' i) (rd U' i) * ps (rd x i) (rd L' i) (rd U' i)) (n := x.length - 1) (m := y.length - 1)
  (fun j => sq_nonneg _) (fun i => sq_nonneg _) (fun i j hi hj hnr => ?_) hw rfl rfl (by omega) (by omega)
 · rw [show y.length - 1 + 1 = y.length by omega, show x.length - 1 + 1 = x.length by omega] at this
   exact this
 · unfold nearB at hnr
   have u := (hU j (by omega) (by omega)).2 i (by omega) (by omega) (by omega) (by omega)
   have l := (hL j (by omega) (by omega)).2 i (by omega) (by omega) (by omega) (by omega)
   have u' := (hU' i (by omega) (by omega)).2 j (by omega) (by omega) (by omega) (by omega)
   have l' := (hL' i (by omega) (by omega)).2 j (by omega) (by omega) (by omega) (by omega)
   rw [hp j (by omega) (by omega)] at u' l'
   have e : sqc x y i j = (rd x i - rd y j) * (rd x i - rd y j) := by unfold sqc rd; simp
   rw [e]
   exact pair_low l u l' u'
/-- By how much each sample passes. -/
def pz (y L U : List Int) : List Int := (List.range y.length).map fun j : Nat => ps (rd y j) (rd L j) (rd U j)
theorem pz_len (y L U : List Int) : (pz y L U).length = y.length := by simp [pz]
theorem rd_pz {y L U : List Int} {j : Int} (h0 : 0 ≤ j) (h1 : j < (y.length : Int)) : rd (pz y L U) j = ps (rd y j) (rd L j) (rd U j) := by
 unfold pz
 rw [show rd (List.map (fun j : Nat => ps (rd y j) (rd L j) (rd U j)) (List.range y.length)) j = ((List.range y.length).map fun j : Nat => ps (rd y j) (rd L j) (rd U j)).getD j.toNat 0 from rfl]
 rw [List.getD_eq_getElem?_getD, List.getElem?_map, List.getElem?_range (by omega)]
 simp only [Option.map_some, Option.getD_some]
 rw [Int.toNat_of_nonneg h0]
theorem ps_sum {y L U : List Int} (hL : L.length = y.length) (hU : U.length = y.length) (a : Nat) : ∀ k : Nat, a + k ≤ y.length →
 0 ≤ psum (pz y L U) (a + k : Nat) - psum (pz y L U) a ∧ psum y (a + k : Nat) - psum y a - (psum U (a + k : Nat) - psum U a) ≤ psum (pz y L U) (a + k : Nat) - psum (pz y L U) a ∧ psum L (a + k : Nat) - psum L a - (psum y (a + k : Nat) - psum y a) ≤ psum (pz y L U) (a + k : Nat) - psum (pz y L U) a
 | 0, _ => by simp
 | k + 1, h => by
  have ih := ps_sum hL hU a k (by omega)
  have e1 := psum_succ (x := y) (i := (a + k : Nat)) (by omega) (by omega)
  have e2 := psum_succ (x := L) (i := (a + k : Nat)) (by omega) (by omega)
  have e3 := psum_succ (x := U) (i := (a + k : Nat)) (by omega) (by omega)
  have e4 := psum_succ (x := pz y L U) (i := (a + k : Nat)) (by omega) (by rw [pz_len]; omega)
  rw [rd_pz (by omega) (by omega)] at e4
  have p0 : 0 ≤ ps (rd y (a + k : Nat)) (rd L (a + k : Nat)) (rd U (a + k : Nat)) ∧ rd y (a + k : Nat) - rd U (a + k : Nat) ≤ ps (rd y (a + k : Nat)) (rd L (a + k : Nat)) (rd U (a + k : Nat)) ∧ rd L (a + k : Nat) - rd y (a + k : Nat) ≤ ps (rd y (a + k : Nat)) (rd L (a + k : Nat)) (rd U (a + k : Nat)) := by
   unfold ps imax; split <;> split <;> omega
  rw [show ((a + (k + 1) : Nat) : Int) = ((a + k : Nat) : Int) + 1 by omega, e1, e2, e3, e4]
  omega
theorem pieces_tt {y L U : List Int} {n : Nat} (hm : y.length ≤ 32) (hL : L.length = y.length) (hU : U.length = y.length) (hn : 1 ≤ n) (hn2 : n ≤ 8) (hn3 : n ≤ y.length) : ∀ p : Nat, p ≤ n →
 ((TT (fun p => ps (pcs y n p) (pcs L n p) (pcs U n p)) (wt y.length n) p : Nat) : Int) ≤ mm y.length n * psum (sqs (pz y L U)) (cut y.length n p)
 | 0, _ => by simp [TT, cut, psum]
 | p + 1, h => by
  have ih := pieces_tt hm hL hU hn hn2 hn3 p (by omega)
  have k1 := cut_range (m := (y.length : Int)) (n := (n : Int)) (p := (p : Int)) (by omega) (by omega) (by omega) (by omega)
  have k2 := cut_range (m := (y.length : Int)) (n := (n : Int)) (p := (p : Int) + 1) (by omega) (by omega) (by omega) (by omega)
  have k3 := cut_mono (m := (y.length : Int)) (n := (n : Int)) (p := (p : Int)) (q := (p : Int) + 1) (by omega) (by omega) (by omega)
  have w := pw_eq (m := y.length) (n := n) (p := (p : Int)) hm hn hn2 hn3 (by omega) (by omega)
  have c := cauchy (w := pz y L U) k1.1 k3 (by rw [pz_len]; exact k2.2)
  have s := ps_sum hL hU (cut y.length n p).toNat ((cut y.length n (p + 1)).toNat - (cut y.length n p).toNat) (by omega)
  rw [show (((cut y.length n p).toNat + ((cut y.length n (p + 1)).toNat - (cut y.length n p).toNat) : Nat) : Int) = cut y.length n (p + 1) by omega, show (((cut y.length n p).toNat : Nat) : Int) = cut y.length n p by omega] at s
  have d0 := ps_nonneg (pcs y n p) (pcs L n p) (pcs U n p)
  have d1 : ps (pcs y n p) (pcs L n p) (pcs U n p) ≤ psum (pz y L U) (cut y.length n (p + 1)) - psum (pz y L U) (cut y.length n p) := by
   unfold ps imax pcs
   rw [hL, hU]
   split <;> split <;> omega
  have d2 := Int.mul_le_mul d1 d1 d0 (by omega)
  rw [tt_succ]
  rw [show ((p + 1 : Nat) : Int) = (p : Int) + 1 by omega]
  have c2 := Int.mul_le_mul_of_nonneg_right (Int.le_trans d2 c) (show (0 : Int) ≤ (wt y.length n p : Int) by omega)
  have e : ∀ l t q : Int, l * t = mm y.length n → l * q * t = mm y.length n * q := fun l t q h => by rw [← h]; grind
  rw [e _ _ _ w, Int.mul_sub ((mm y.length n : Nat) : Int)] at c2
  omega
theorem pieces_kg {y L U : List Int} {n : Nat} (hm : y.length ≤ 32) (hL : L.length = y.length) (hU : U.length = y.length) (hn : 1 ≤ n) (hn2 : n ≤ 8) (hn3 : n ≤ y.length) : ((TT (fun p => ps (pcs y n p) (pcs L n p) (pcs U n p)) (wt y.length n) n : Nat) : Int) ≤ mm y.length n * kg y L U := by
 have h := pieces_tt hm hL hU hn hn2 hn3 n (Nat.le_refl n)
 rw [cut_last (by omega)] at h
 have e : kg y L U = psum (sqs (pz y L U)) y.length := by
  rw [← sg_psum (x := sqs (pz y L U)) (by rw [sqs_len, pz_len]; omega)]
  unfold kg
  refine sg_congr fun j j0 j1 => ?_
  rw [rd_sqs j0 (by rw [pz_len]; omega), rd_pz j0 j1]
 rw [e]; exact h
theorem pure_envelopeCascade (a0 : List Int) (w0 : ∀ n ∈ a0, (Lit.int .i64 n).wf = true) : ∃ k, T_law20_EnvelopeCascade k a0 = some true := by
 refine Gives.true (f := fun k => T_law20_EnvelopeCascade k a0) ?_
 obtain ⟨s0, s1⟩ := src_new a0
 refine Gives.step ?_
 simp only [T_law20_EnvelopeCascade]
 refine Gives.bind s1 fun _ _ => Gives.bind (src_uneven s0) fun a ha => ?_
 obtain ⟨hf, a8⟩ := ha
 have y1 := hf.wy.lo
 have y2 := hf.wy.hi
 have e8 : 1 ≤ imin 8 (a.2.1.length : Int) ∧ imin 8 (a.2.1.length : Int) ≤ 8 ∧ imin 8 (a.2.1.length : Int) ≤ (a.2.1.length : Int) := by unfold imin; split <;> omega
 refine Gives.bind (src_range a8 1 (imin 8 (a.2.1.length : Int)) (by omega) (by omega) (by omega)) fun c hc => ?_
 obtain ⟨n1, n2, _⟩ := hc
 obtain ⟨n, en⟩ : ∃ n : Nat, c.1 = n := ⟨c.1.toNat, by omega⟩
 rw [en] at n1 n2 ⊢
 generalize a.1 = x at *
 generalize a.2.1 = y at *
 generalize a.2.2.1 = b at *
 refine Gives.bind (en_piecesB hf (n := n) (by omega) (by omega) (by omega)) fun p hp => Gives.bind (en_keogh hf) fun q hq => Gives.bind (en_improved hf) fun r hr => Gives.bind (r14_distance hf) fun t ht => ?_
 obtain ⟨P, Q, U, L, rfl, _, lU, _, lL, hU, hL, R⟩ := hp
 obtain ⟨q1, U1, L1, hU1, hL1, q2⟩ := hq
 obtain ⟨r1, U2, L2, z, U3, L3, hU2, hL2, wz, lz, hz, hU3, hL3, r2⟩ := hr
 obtain ⟨t1, t2⟩ := ht
 have q3 : q.1 = kg y L U := q2.trans (kg_uniq hU1 hL1 hU hL)
 have r3 : r.1 = kg y L U + kg x L3 U3 := by rw [r2, kg_uniq hU2 hL2 hU hL]
 have low := env_low hf hU2 hL2 lz hz hU3 hL3
 rw [← r2, ← t2] at low
 have kb := kg_bound hf.wy (U := U) (L := L) (fun j j0 j1 => (hU j j0 j1).smp hf.wx) fun j j0 j1 => (hL j j0 j1).smp hf.wx
 have kb2 : 0 ≤ kg x L3 U3 := sg_nonneg fun j _ _ => sq_nonneg _
 have pk := pieces_kg (n := n) y2 lL lU (by omega) (by omega) (by omega)
 obtain ⟨K, hK⟩ : ∃ K : Nat, kg y L U = K := ⟨(kg y L U).toNat, by omega⟩
 rw [hK] at q3 r3 kb pk
 have m0 := wt_ok (m := y.length) (n := n) (p := 0) y2 (by omega) (by omega) (by omega) (by omega) (by omega)
 have m1 : 0 < mm y.length n ∧ mm y.length n ≤ 1056 := by
  refine ⟨?_, ?_⟩
  · have : 0 < y.length / n := Nat.div_pos (by omega) (by omega)
    exact Nat.mul_pos this (by omega)
  · have h1 : y.length / n ≤ 32 := Nat.le_trans (Nat.div_le_self _ _) y2
    exact Nat.le_trans (Nat.mul_le_mul h1 (Nat.succ_le_succ h1)) (by decide)
 generalize TT (fun p => ps (pcs y n p) (pcs L n p) (pcs U n p)) (wt y.length n) n = T at R pk
 generalize mm y.length n = M at R pk m1
 have pk2 : T ≤ M * K := by exact_mod_cast pk
 have tb : M * K ≤ 1056 * 128000000 := Nat.mul_le_mul m1.2 (by omega)
 have lR := R.le m1.1
 have hW : Rep K 1 K 1 := ⟨by omega, by simp, by omega⟩
 have c1 := R.cmp hW m1.1 (by omega) (by rw [Nat.mul_one, Nat.mul_comm]; exact pk2)
 have cw : Gives (fun k => T_ref01_Cmp k P Q K 1) (fun r => r ≤ 0) := (ro_cmp (q' := 1) R.cop R.pos (by omega) (by omega) (p' := K) (by simp) (by omega) (by omega) (by omega)).mono fun r h => by omega
 refine Gives.bind (Q := fun v => v = true) ?_ fun v hv => Gives.now hv
 refine Gives.pos (by simp [q1, r1]) (Gives.bind (r01_valid R.cop R.pos (by omega) (by omega)) fun v hv => Gives.pos hv ?_)
 rw [q3]
 refine Gives.bind cw fun v hv => Gives.pos ?_ (Gives.bind awake_ok fun v hv => Gives.now hv)
 simp
 omega

end Go.Proofs.Ytdelnjemfjihpaa.envelopeCascade
