/- That the told functions answer as the statement SketchRegions says, in plain Lean. There are no conditions. -/
import Derived.Test.YtdmipmhpjdmopaaTSketchRegions1
set_option maxRecDepth 100000
set_option linter.unusedVariables false
set_option linter.unusedSimpArgs false
namespace Go.Proofs.Ytdmipmhpjdmopaa.sketchRegions
open Go
theorem w64_id {x : Int} (h1 : -9223372036854775808 ≤ x) (h2 : x < 9223372036854775808) : w64 x = x := wrap_id h1 h2

/-- With enough rounds the answer is there, and it is as asked. -/
def Gives {α : Type} (f : Nat → Option α) (Q : α → Prop) : Prop := ∃ r, (∃ K, ∀ k, K ≤ k → f k = some r) ∧ Q r
theorem Gives.mono {α : Type} {f : Nat → Option α} {Q Q' : α → Prop} (h : Gives f Q) (k : ∀ r, Q r → Q' r) : Gives f Q' := by
 obtain ⟨r, h1, h2⟩ := h; exact ⟨r, h1, k r h2⟩
theorem Gives.now {α : Type} {r : α} {Q : α → Prop} (h : Q r) : Gives (fun _ => some r) Q := ⟨r, ⟨0, fun _ _ => rfl⟩, h⟩
theorem Gives.bind {α β : Type} {f : Nat → Option α} {g : Nat → α → Option β} {Q : α → Prop} {Q' : β → Prop} (h : Gives f Q) (k : ∀ a, Q a → Gives (fun n => g n a) Q') : Gives (fun n => (f n).bind (g n)) Q' := by
 obtain ⟨a, ⟨K, hK⟩, ha⟩ := h
 obtain ⟨r, ⟨K2, hK2⟩, hr⟩ := k a ha
 exact ⟨r, ⟨max K K2, fun n hn => by show (f n).bind (g n) = some r; rw [hK n (by omega), Option.bind_some]; exact hK2 n (by omega)⟩, hr⟩
theorem Gives.opt {α β : Type} {x : Option α} {a : α} {g : Nat → α → Option β} {Q : β → Prop} (h : x = some a) (k : Gives (fun n => g n a) Q) : Gives (fun n => x.bind (g n)) Q := by
 subst h; exact k
theorem Gives.step {α : Type} {f : Nat → Option α} {Q : α → Prop} (h : Gives (fun k => f (k + 1)) Q) : Gives f Q := by
 obtain ⟨r, ⟨K, hK⟩, hr⟩ := h
 refine ⟨r, ⟨K + 1, fun n hn => ?_⟩, hr⟩
 obtain ⟨m, rfl⟩ : ∃ m, n = m + 1 := ⟨n - 1, by omega⟩
 exact hK m (by omega)
theorem Gives.ite {α : Type} {c : Prop} [Decidable c] {f g : Nat → Option α} {Q : α → Prop} (h : c → Gives f Q) (k : ¬ c → Gives g Q) : Gives (fun n => if c then f n else g n) Q := by
 by_cases hc : c
 · simp only [if_pos hc]; exact h hc
 · simp only [if_neg hc]; exact k hc
theorem Gives.pos {α : Type} {c : Prop} [Decidable c] {f g : Nat → Option α} {Q : α → Prop} (hc : c) (h : Gives f Q) : Gives (fun n => if c then f n else g n) Q := by
 simp only [if_pos hc]; exact h
theorem Gives.neg {α : Type} {c : Prop} [Decidable c] {f g : Nat → Option α} {Q : α → Prop} (hc : ¬ c) (h : Gives g Q) : Gives (fun n => if c then f n else g n) Q := by
 simp only [if_neg hc]; exact h
theorem Gives.loop {S R : Type} {f : Nat → S → Option (S ⊕ R)} {Q : R → Prop} (Inv : S → Prop) (m : S → Nat)
 (h : ∀ s, Inv s → Gives (fun k => f k s) (fun x => match x with | .inl s' => Inv s' ∧ m s' < m s | .inr r => Q r)) {s : S} (hs : Inv s) : Gives (fun k => loopT (f k) k s) Q := by
 suffices H : ∀ (n : Nat) (s : S), m s < n → Inv s → ∃ r, (∃ K N, ∀ k, K ≤ k → ∀ j, N ≤ j → loopT (f k) j s = some r) ∧ Q r by
  obtain ⟨r, ⟨K, N, hK⟩, hr⟩ := H (m s + 1) s (by omega) hs
  exact ⟨r, ⟨max K N, fun k hk => hK k (by omega) k (by omega)⟩, hr⟩
 intro n
 induction n with
 | zero => intro s hs; omega
 | succ n ih =>
  intro s hs hI
  obtain ⟨x, ⟨K, hK⟩, hx⟩ := h s hI
  cases x with
  | inl s' =>
   obtain ⟨r, ⟨K2, N, hK2⟩, hr⟩ := ih s' (by have := hx.2; omega) hx.1
   refine ⟨r, ⟨max K K2, N + 1, fun k hk j hj => ?_⟩, hr⟩
   obtain ⟨j', rfl⟩ : ∃ j', j = j' + 1 := ⟨j - 1, by omega⟩
   simp only [loopT, hK k (by omega), Option.bind_some]
   exact hK2 k (by omega) j' (by omega)
  | inr r =>
   refine ⟨r, ⟨K, 1, fun k hk j hj => ?_⟩, hx⟩
   obtain ⟨j', rfl⟩ : ∃ j', j = j' + 1 := ⟨j - 1, by omega⟩
   simp only [loopT, hK k hk, Option.bind_some]
theorem Gives.true {f : Nat → Option Bool} (h : Gives f (· = true)) : ∃ k, f k = some true := by
 obtain ⟨r, ⟨K, hK⟩, hr⟩ := h
 subst hr
 exact ⟨K, hK K (Nat.le_refl _)⟩
/-- An element of a list, 0 outside of it. -/
def rd (xs : List Int) (i : Int) : Int := xs.getD i.toNat 0
theorem at_rd {xs : List Int} {i : Int} (h0 : 0 ≤ i) (h1 : i < (xs.length : Int)) : at? xs i = some (rd xs i) := by
 unfold at? rd
 rw [if_pos h0, List.getD_eq_getElem?_getD, List.getElem?_eq_getElem (by omega)]; rfl
theorem get_rd {xs : List Int} {n : Nat} (h1 : n < xs.length) : xs[n]? = some (rd xs n) := by
 unfold rd
 rw [List.getD_eq_getElem?_getD, List.getElem?_eq_getElem h1]
 simp [h1]
theorem rd_mem {xs : List Int} {i : Int} (h0 : 0 ≤ i) (h1 : i < (xs.length : Int)) : rd xs i ∈ xs := by
 unfold rd
 have h : i.toNat < xs.length := by omega
 rw [List.getD_eq_getElem?_getD, List.getElem?_eq_getElem h]; exact List.getElem_mem h
/-- All numbers are samples. -/
def Smp (xs : List Int) : Prop := ∀ v ∈ xs, -1000 ≤ v ∧ v ≤ 1000
theorem Smp.rd {xs : List Int} (h : Smp xs) (i : Int) : -1000 ≤ rd xs i ∧ rd xs i ≤ 1000 := by
 show -1000 ≤ xs.getD i.toNat 0 ∧ xs.getD i.toNat 0 ≤ 1000
 rw [List.getD_eq_getElem?_getD]
 rcases Nat.lt_or_ge i.toNat xs.length with c | c
 · rw [List.getElem?_eq_getElem c]; exact h _ (List.getElem_mem c)
 · rw [List.getElem?_eq_none c]; decide
theorem Smp.nil : Smp [] := fun _ h => by simp at h
theorem Smp.app {xs ys : List Int} (h : Smp xs) (k : Smp ys) : Smp (xs ++ ys) := fun v hv => by
 rcases List.mem_append.1 hv with h1 | h1
 · exact h v h1
 · exact k v h1
theorem Smp.one {v : Int} (h0 : -1000 ≤ v) (h1 : v ≤ 1000) : Smp [v] := fun u hu => by
 obtain rfl := List.mem_singleton.1 hu; exact ⟨h0, h1⟩
theorem Smp.take {xs : List Int} (h : Smp xs) (n : Nat) : Smp (xs.take n) := fun v hv => h v (List.mem_of_mem_take hv)
theorem Smp.drop {xs : List Int} (h : Smp xs) (n : Nat) : Smp (xs.drop n) := fun v hv => h v (List.mem_of_mem_drop hv)
theorem Smp.set {xs : List Int} (h : Smp xs) (n : Nat) {v : Int} (h0 : -1000 ≤ v) (h1 : v ≤ 1000) : Smp (xs.set n v) := fun u hu => by
 rcases List.mem_or_eq_of_mem_set hu with h2 | h2
 · exact h u h2
 · subst h2; exact ⟨h0, h1⟩
/-- A window. -/
structure Win (xs : List Int) : Prop where
 lo : 2 ≤ xs.length
 hi : xs.length ≤ 32
 smp : Smp xs

/-- A reader of numbers. -/
structure SrcOk (L : List Int) (p : Int) : Prop where
 lo : 0 ≤ p
 hi : p ≤ (L.length : Int)
 len : L.length ≤ 2000
theorem src_raw {L : List Int} {p : Int} (h : SrcOk L p) : Gives (fun k => T_keep_Src_Raw k L p) (fun r => SrcOk L r.2) := by
 obtain ⟨h0, h1, h2⟩ := h
 refine Gives.step ?_
 simp only [T_keep_Src_Raw]
 have e1 : w64 (p + 1) = p + 1 := w64_id (by omega) (by omega)
 have e2 : w64 (w64 (p + 1) - 1) = p := by rw [e1, w64_id (by omega) (by omega)]; omega
 refine Gives.ite (fun c => Gives.now ⟨h0, h1, h2⟩) fun c => ?_
 rw [e2, e1]
 exact Gives.opt (at_rd h0 (by omega)) (Gives.now ⟨by simp only []; omega, by simp only []; omega, h2⟩)
theorem src_mod (x n : Int) (h : 1 ≤ n) (hn : n ≤ 4611686018427387904) : Gives (fun k => T_keep_Mod k x n) (fun v => 0 ≤ v ∧ v < n) := by
 have h1 : Int.tmod x n < n := Int.tmod_lt_of_pos _ (by omega)
 have h2 : -n < Int.tmod x n := by
  rcases Int.le_total 0 x with c | c
  · have := Int.tmod_nonneg n c; omega
  · have h3 : Int.tmod (-x) n < n := Int.tmod_lt_of_pos _ (by omega)
    rw [Int.neg_tmod] at h3; omega
 refine Gives.step ?_
 simp only [T_keep_Mod]
 refine Gives.neg (by omega) (Gives.pos (by omega) (Gives.bind (Q := fun v => 0 ≤ v ∧ v < n) ?_ fun a ha => Gives.now ha))
 refine Gives.ite (fun c => ?_) fun c => Gives.now ⟨by omega, by omega⟩
 rw [w64_id (by omega) (by omega)]
 exact Gives.now ⟨by omega, by omega⟩
theorem src_n {L : List Int} {p : Int} (h : SrcOk L p) (n : Int) (h1 : 1 ≤ n) (hn : n ≤ 4611686018427387904) : Gives (fun k => T_keep_Src_N k n L p) (fun r => 0 ≤ r.1 ∧ r.1 < n ∧ SrcOk L r.2) := by
 refine Gives.step ?_
 simp only [T_keep_Src_N]
 exact Gives.bind (src_raw h) fun a ha => Gives.bind (src_mod a.1 n h1 hn) fun v hv => Gives.now ⟨hv.1, hv.2, ha⟩
theorem src_range {L : List Int} {p : Int} (h : SrcOk L p) (lo hi : Int) (h1 : lo ≤ hi) (h0 : -1000000000000 ≤ lo) (h2 : hi ≤ 1000000000000) : Gives (fun k => T_keep_Src_Range k lo hi L p) (fun r => lo ≤ r.1 ∧ r.1 ≤ hi ∧ SrcOk L r.2) := by
 have e1 : w64 (w64 (hi - lo) + 1) = hi - lo + 1 := by rw [w64_id (x := hi - lo) (by omega) (by omega), w64_id (by omega) (by omega)]
 refine Gives.step ?_
 simp only [T_keep_Src_Range]
 rw [e1]
 refine Gives.bind (src_n h (hi - lo + 1) (by omega) (by omega)) fun a ha => ?_
 rw [w64_id (by omega) (by omega)]
 exact Gives.now ⟨by simp only []; omega, by simp only []; omega, ha.2.2⟩
theorem src_pick {L : List Int} {p : Int} (h : SrcOk L p) (l : List Int) (h1 : 1 ≤ l.length) (h2 : l.length ≤ 1000) : Gives (fun k => T_keep_Src_Pick k l L p) (fun r => r.1 ∈ l ∧ SrcOk L r.2) := by
 refine Gives.step ?_
 simp only [T_keep_Src_Pick]
 exact Gives.bind (src_n h (l.length : Int) (by omega) (by omega)) fun a ha => Gives.opt (at_rd ha.1 ha.2.1) (Gives.now ⟨rd_mem ha.1 ha.2.1, ha.2.2⟩)
theorem src_clip (x : Int) : Gives (fun k => T_keep_clip k x) (fun _ => True) := by
 refine Gives.step ?_
 simp only [T_keep_clip]
 exact Gives.now trivial
theorem clip_smp (x : Int) : -1000 ≤ imin (imax x (-1000)) 1000 ∧ imin (imax x (-1000)) 1000 ≤ 1000 := by unfold imin imax; split <;> split <;> omega
theorem src_length {L : List Int} {p : Int} (h : SrcOk L p) : Gives (fun k => T_keep_Src_Length k L p) (fun r => 2 ≤ r.1 ∧ r.1 ≤ 32 ∧ SrcOk L r.2) := by
 refine Gives.step ?_
 simp only [T_keep_Src_Length]
 refine Gives.bind (src_n h 8 (by omega) (by omega)) fun a ha => Gives.ite (fun c => ?_) fun c => ?_
 · exact Gives.bind (src_range ha.2.2 13 32 (by omega) (by omega) (by omega)) fun b hb => Gives.now ⟨by simp only []; omega, by simp only []; omega, hb.2.2⟩
 · exact Gives.bind (src_range ha.2.2 2 12 (by omega) (by omega) (by omega)) fun b hb => Gives.now ⟨by simp only []; omega, by simp only []; omega, hb.2.2⟩
theorem drop_take_len {xs : List Int} {n : Nat} (h : xs.length = n) : (xs.drop 0).take n = xs := by rw [List.drop_zero, ← h, List.take_length]
theorem src_list {L : List Int} {p : Int} (h : SrcOk L p) (n : Int) (h1 : 2 ≤ n) (h2 : n ≤ 32) : Gives (fun k => T_keep_Src_List k n L p) (fun r => (r.1.length : Int) = n ∧ Smp r.1 ∧ SrcOk L r.2) := by
 refine Gives.step ?_
 simp only [T_keep_Src_List]
 refine Gives.bind (src_n h 6 (by omega) (by omega)) fun a ha => Gives.bind (src_pick ha.2.2 [1, 3, 10, 100, 1000] (by decide) (by decide)) fun b hb => Gives.bind (src_n hb.2 3 (by omega) (by omega)) fun c hc => ?_
 have hb1 : 1 ≤ b.1 ∧ b.1 ≤ 1000 := by have := hb.1; simp at this; omega
 have em : w64 (0 - b.1) = -b.1 := by rw [w64_id (by omega) (by omega)]; omega
 refine Gives.bind (Q := fun d => -1000 ≤ d.1 ∧ d.1 ≤ 1000 ∧ SrcOk L d.2) ?_ fun d hd => ?_
 · refine Gives.ite (fun _ => ?_) fun _ => Gives.now ⟨by simp only []; omega, by simp only []; omega, hc.2.2⟩
   exact Gives.bind (src_range hc.2.2 (-1000) 1000 (by omega) (by omega) (by omega)) fun e he => Gives.now he
 refine Gives.bind (Q := fun r => (r.1 : Int) = n ∧ r.2.2.length = r.1 ∧ Smp r.2.2 ∧ SrcOk L r.2.1) ?_ fun r hr => ?_
 · refine Gives.loop (fun s => -1000 ≤ s.1 ∧ s.1 ≤ 1000 ∧ (s.2.1 : Int) = s.2.2.1 ∧ s.2.2.1 ≤ n ∧ SrcOk L s.2.2.2.1 ∧ s.2.2.2.2.length = s.2.1 ∧ Smp s.2.2.2.2) (fun s => (n - s.2.2.1).toNat) ?_ ⟨hd.1, hd.2.1, rfl, by simp only []; omega, hd.2.2, rfl, Smp.nil⟩
   intro s ⟨i1, i2, i3, i4, i5, i6, i7⟩
   have ed : (s.2.2.2.2.drop 0).take s.2.1 = s.2.2.2.2 := drop_take_len i6
   unfold T_keep_Src_List_l1
   refine Gives.ite (fun c => ?_) fun c => Gives.now ⟨by simp only []; omega, i6, i7, i5⟩
   rw [em, ed]
   have hlim : s.2.1 + 1 ≤ LIM := by unfold LIM; omega
   refine Gives.bind (Q := fun _ => True) (Gives.ite (fun _ => Gives.now trivial) fun _ => Gives.now trivial) fun t _ => ?_
   refine Gives.bind (Q := fun r => -1000 ≤ r.1 ∧ r.1 ≤ 1000 ∧ SrcOk L r.2.1 ∧ r.2.2.length = s.2.1 + 1 ∧ Smp r.2.2) ?_ fun r hr => ?_
   · refine Gives.ite (fun _ => ?_) fun _ => ?_
     · refine Gives.bind (src_range i5 (-b.1) b.1 (by omega) (by omega) (by omega)) fun v hv => Gives.pos hlim (Gives.now ⟨i1, i2, hv.2.2, by simp [i6], i7.app (Smp.one (by omega) (by omega))⟩)
     · refine Gives.bind (Q := fun _ => True) (Gives.ite (fun _ => Gives.now trivial) fun _ => Gives.now trivial) fun t2 _ => Gives.ite (fun _ => ?_) fun _ => Gives.ite (fun _ => ?_) fun _ => ?_
       · refine Gives.bind (src_range i5 (-b.1) b.1 (by omega) (by omega) (by omega)) fun v hv => Gives.bind (src_clip _) fun _ _ => Gives.pos hlim (Gives.now ?_)
         have := clip_smp (w64 (s.1 + v.1))
         exact ⟨this.1, this.2, hv.2.2, by simp [i6], i7.app (Smp.one this.1 this.2)⟩
       · refine Gives.bind (src_n i5 4 (by omega) (by omega)) fun v hv => Gives.bind (Q := fun r => -1000 ≤ r.1 ∧ r.1 ≤ 1000 ∧ SrcOk L r.2) (Gives.ite (fun _ => ?_) fun _ => Gives.now ⟨i1, i2, hv.2.2⟩) fun u hu => Gives.pos hlim (Gives.now ⟨hu.1, hu.2.1, hu.2.2, by simp [i6], i7.app (Smp.one hu.1 hu.2.1)⟩)
         exact Gives.bind (src_range hv.2.2 (-b.1) b.1 (by omega) (by omega) (by omega)) fun e he => Gives.now ⟨by simp only []; omega, by simp only []; omega, he.2.2⟩
       · refine Gives.bind (src_pick i5 [-1000, 1000, 1000, 0] (by decide) (by decide)) fun v hv => Gives.pos hlim (Gives.now ?_)
         have : -1000 ≤ v.1 ∧ v.1 ≤ 1000 := by have := hv.1; simp at this; omega
         exact ⟨i1, i2, hv.2, by simp [i6], i7.app (Smp.one this.1 this.2)⟩
   · have ei : w64 (s.2.2.1 + 1) = s.2.2.1 + 1 := w64_id (by omega) (by omega)
     rw [ei]
     exact Gives.now ⟨⟨hr.1, hr.2.1, by simp only []; omega, by simp only []; omega, hr.2.2.1, hr.2.2.2.1, hr.2.2.2.2⟩, by simp only []; omega⟩
 · rw [drop_take_len hr.2.1]
   exact Gives.now ⟨by simp only []; omega, hr.2.2.1, hr.2.2.2⟩

theorem get_rd0 {xs : List Int} {i : Int} (h0 : 0 ≤ i) (h1 : i < (xs.length : Int)) : xs[0 + i.toNat]? = some (rd xs i) := by
 rw [Nat.zero_add, get_rd (by omega), Int.toNat_of_nonneg h0]
theorem src_near {L : List Int} {p : Int} (h : SrcOk L p) {xs : List Int} (hx : Win xs) : Gives (fun k => T_keep_Src_Near k xs L p) (fun r => r.1.length = xs.length ∧ Smp r.1 ∧ SrcOk L r.2) := by
 have l1 := hx.lo
 have l2 := hx.hi
 refine Gives.step ?_
 simp only [T_keep_Src_Near]
 refine Gives.bind (src_n h 7 (by omega) (by omega)) fun a ha => Gives.bind (src_range ha.2.2 (-20) 20 (by omega) (by omega) (by omega)) fun b hb => Gives.bind (src_range hb.2.2 1 3 (by omega) (by omega) (by omega)) fun c hc => Gives.pos (by unfold LIM; omega) ?_
 refine Gives.bind (Q := fun r => r.2.length = xs.length ∧ Smp r.2 ∧ SrcOk L r.1) ?_ fun r hr => ?_
 · refine Gives.loop (fun s => 0 ≤ s.1 ∧ s.1 ≤ (xs.length : Int) ∧ SrcOk L s.2.1 ∧ s.2.2.length = xs.length ∧ Smp s.2.2) (fun s => ((xs.length : Int) - s.1).toNat) ?_ ⟨by simp only []; omega, by simp only []; omega, hc.2.2, by simp, by simpa using hx.smp⟩
   intro s ⟨i1, i2, i3, i4, i5⟩
   unfold T_keep_Src_Near_l1
   refine Gives.ite (fun cc => ?_) fun cc => Gives.now ⟨i4, i5, i3⟩
   have g : (0 : Int) ≤ s.1 ∧ s.1 < ((0 + xs.length : Nat) : Int) := ⟨i1, cc⟩
   have g2 : s.1 < (xs.length : Int) := by omega
   refine Gives.bind (Q := fun r => SrcOk L r.1 ∧ r.2.length = xs.length ∧ Smp r.2) ?_ fun r hr => ?_
   · refine Gives.ite (fun _ => Gives.pos g (Gives.opt (get_rd0 i1 (by omega)) ?_)) fun _ => Gives.ite (fun _ => Gives.pos g (Gives.opt (get_rd0 i1 (by omega)) ?_)) fun _ => Gives.ite (fun _ => Gives.pos g (Gives.opt (get_rd0 i1 (by omega)) ?_)) fun _ =>
      Gives.ite (fun _ => ?_) fun _ => Gives.ite (fun _ => ?_) fun _ => Gives.ite (fun _ => Gives.pos g (Gives.opt (get_rd0 i1 (by omega)) ?_)) fun _ => Gives.now ⟨i3, i4, i5⟩
     · refine Gives.bind (src_range i3 (-2) 2 (by omega) (by omega) (by omega)) fun v hv => Gives.bind (src_clip _) fun _ _ => Gives.now ?_
       have := clip_smp (w64 (rd s.2.2 s.1 + v.1))
       exact ⟨hv.2.2, by simp [i4], i5.set _ this.1 this.2⟩
     · refine Gives.bind (src_clip _) fun _ _ => Gives.now ?_
       have := clip_smp (w64 (rd s.2.2 s.1 + b.1))
       exact ⟨i3, by simp [i4], i5.set _ this.1 this.2⟩
     · refine Gives.bind (src_clip _) fun _ _ => Gives.now ?_
       have := clip_smp (w64 (w64 (rd s.2.2 s.1 * c.1) + b.1))
       exact ⟨i3, by simp [i4], i5.set _ this.1 this.2⟩
     · have e : w64 (w64 ((xs.length : Int) - 1) - s.1) = (xs.length : Int) - 1 - s.1 := by rw [w64_id (x := (xs.length : Int) - 1) (by omega) (by omega), w64_id (by omega) (by omega)]
       rw [e]
       refine Gives.opt (at_rd (by omega) (by omega)) (Gives.pos g (Gives.now ?_))
       have := hx.smp.rd ((xs.length : Int) - 1 - s.1)
       exact ⟨i3, by simp [i4], i5.set _ this.1 this.2⟩
     · refine Gives.bind (src_range i3 (-1) 1 (by omega) (by omega) (by omega)) fun v hv => Gives.bind (src_mod _ (xs.length : Int) (by omega) (by omega)) fun u hu => Gives.opt (at_rd hu.1 hu.2) (Gives.pos g (Gives.now ?_))
       have := hx.smp.rd u
       exact ⟨hv.2.2, by simp [i4], i5.set _ this.1 this.2⟩
     · refine Gives.bind (src_clip _) fun _ _ => Gives.now ?_
       have := clip_smp (w64 (b.1 - w64 (rd s.2.2 s.1 * c.1)))
       exact ⟨i3, by simp [i4], i5.set _ this.1 this.2⟩
   · have ei : w64 (s.1 + 1) = s.1 + 1 := w64_id (by omega) (by omega)
     rw [ei]
     exact Gives.now ⟨⟨by simp only []; omega, by simp only []; omega, hr.1, hr.2.1, hr.2.2⟩, by simp only []; omega⟩
 · rw [drop_take_len (by rw [hr.1, Nat.zero_add])]
   exact Gives.now ⟨hr.1, hr.2.1, hr.2.2⟩
theorem src_new (l : List Int) : SrcOk ((l.drop 0).take ((imin (l.length : Int) 2000).toNat - 0)) 0 ∧ Gives (fun k => T_keep_New k l) (fun _ => True) := by
 have h1 : 0 ≤ imin (l.length : Int) 2000 := by unfold imin; split <;> omega
 have h2 : imin (l.length : Int) 2000 ≤ l.length := by unfold imin; split <;> omega
 have h3 : imin (l.length : Int) 2000 ≤ 2000 := by unfold imin; split <;> omega
 refine ⟨⟨by omega, by omega, ?_⟩, ?_⟩
 · simp; omega
 · refine Gives.step ?_
   simp only [T_keep_New]
   exact Gives.pos (by omega) (Gives.now trivial)
/-! The distance of chapter 12. -/
theorem eu_samples {xs : List Int} (h : Win xs) : Gives (fun k => T_euclid_samples k xs) (· = true) := by
 have h2 := h.hi
 refine Gives.step ?_
 simp only [T_euclid_samples]
 refine Gives.bind (Q := fun r => r = .inl ()) ?_ fun r hr => by subst hr; exact Gives.now rfl
 refine Gives.loop (fun s => 0 ≤ s ∧ s ≤ (xs.length : Int)) (fun s => ((xs.length : Int) - s).toNat) ?_ ⟨by omega, by omega⟩
 intro s ⟨i1, i2⟩
 unfold T_euclid_samples_l1
 refine Gives.ite (fun c => Gives.opt (at_rd i1 c) ?_) fun c => Gives.now rfl
 have := h.smp.rd s
 refine Gives.neg (by simp; omega) ?_
 rw [w64_id (by omega) (by omega)]
 exact Gives.now ⟨⟨by omega, by omega⟩, by omega⟩
theorem eu_len (xs : List Int) : Gives (fun k => T_euclid_length k xs) (fun _ => True) := by
 refine Gives.step ?_
 simp only [T_euclid_length]
 exact Gives.now trivial
theorem eu_check {xs ys : List Int} (hx : Win xs) (hy : Win ys) (hl : xs.length = ys.length) : Gives (fun k => T_euclid_check k xs ys) (· = 0) := by
 have x1 := hx.lo
 have x2 := hx.hi
 refine Gives.step ?_
 simp only [T_euclid_check]
 refine Gives.bind (Q := fun b => b = false) ?_ fun b hb => ?_
 · refine Gives.bind (eu_len xs) fun _ _ => Gives.neg (by simp; omega) ?_
   refine Gives.bind (eu_len ys) fun _ _ => Gives.now ?_
   simp; omega
 subst hb
 refine Gives.neg (by simp) ?_
 refine Gives.bind (Q := fun b => b = false) ?_ fun b hb => ?_
 · refine Gives.bind (eu_samples hx) fun u hu => ?_
   subst hu
   refine Gives.neg (by simp) (Gives.bind (eu_samples hy) fun u hu => ?_)
   subst hu
   exact Gives.now rfl
 subst hb
 refine Gives.neg (by simp) (Gives.neg (by simp [hl]) (Gives.now rfl))
theorem eu_square {xs ys : List Int} (hx : Win xs) (hl : xs.length = ys.length) : Gives (fun k => T_euclid_square k xs ys) (fun _ => True) := by
 have x2 := hx.hi
 refine Gives.step ?_
 simp only [T_euclid_square]
 refine Gives.bind (Q := fun _ => True) ?_ fun r hr => Gives.now trivial
 refine Gives.loop (fun s => 0 ≤ s.2 ∧ s.2 ≤ (xs.length : Int)) (fun s => ((xs.length : Int) - s.2).toNat) ?_ ⟨by simp only []; omega, by simp only []; omega⟩
 intro s ⟨i1, i2⟩
 unfold T_euclid_square_l1
 refine Gives.ite (fun c => Gives.opt (at_rd i1 c) (Gives.opt (at_rd i1 (by omega)) ?_)) fun c => Gives.now trivial
 rw [w64_id (x := s.2 + 1) (by omega) (by omega)]
 exact Gives.now ⟨⟨by simp only []; omega, by simp only []; omega⟩, by simp only []; omega⟩
theorem eu_distance {xs ys : List Int} (hx : Win xs) (hy : Win ys) (hl : xs.length = ys.length) : Gives (fun k => T_euclid_Distance k xs ys) (fun r => r.2 = 0) := by
 refine Gives.step ?_
 simp only [T_euclid_Distance]
 refine Gives.bind (eu_check hx hy hl) fun e he => ?_
 subst he
 exact Gives.neg (by simp) (Gives.bind (eu_square hx hl) fun v _ => Gives.now rfl)

/-! Sums of the first samples. -/
def psum (x : List Int) (i : Int) : Int := (x.take i.toNat).sum
theorem psum_zero (x : List Int) : psum x 0 = 0 := by simp [psum]
theorem psum_succ {x : List Int} {i : Int} (h0 : 0 ≤ i) (h1 : i < (x.length : Int)) : psum x (i + 1) = psum x i + rd x i := by
 unfold psum rd
 rw [show (i + 1).toNat = i.toNat + 1 by omega, List.take_succ_eq_append_getElem (show i.toNat < x.length by omega), List.sum_append]
 rw [List.getD_eq_getElem?_getD, List.getElem?_eq_getElem (show i.toNat < x.length by omega)]
 simp
theorem psum_bound {x : List Int} {B : Int} (hB : ∀ v ∈ x, -B ≤ v ∧ v ≤ B) : ∀ n : Nat, n ≤ x.length → -(B * n) ≤ psum x n ∧ psum x n ≤ B * n
 | 0, _ => by simp [psum]
 | n + 1, h => by
  have ih := psum_bound hB n (by omega)
  have e := psum_succ (x := x) (i := (n : Int)) (by omega) (by omega)
  have hb := hB _ (rd_mem (xs := x) (i := (n : Int)) (by omega) (by omega))
  have : (((n + 1 : Nat)) : Int) = (n : Int) + 1 := by omega
  rw [this, e, Int.mul_add, Int.mul_one]
  omega
theorem psum_all {x : List Int} : psum x x.length = x.sum := by simp [psum]
theorem part_sum {x : List Int} {a b : Int} (h0 : 0 ≤ a) (h1 : a ≤ b) : ((x.drop a.toNat).take (b.toNat - a.toNat)).sum = psum x b - psum x a := by
 have e : x.take b.toNat = x.take a.toNat ++ (x.drop a.toNat).take (b.toNat - a.toNat) := by
  conv => lhs; rw [show b.toNat = a.toNat + (b.toNat - a.toNat) by omega]
  rw [List.take_add]
 unfold psum
 rw [e, List.sum_append]
 omega
/-! Where the pieces of a window begin. -/
def cut (m n p : Int) : Int := p * m / n
theorem cut_zero (m n : Int) : cut m n 0 = 0 := by simp [cut]
theorem cut_last {m n : Int} (hn : 1 ≤ n) : cut m n n = m := by unfold cut; exact Int.mul_ediv_cancel_left _ (by omega)
theorem cut_mono {m n p q : Int} (hn : 1 ≤ n) (hm : 0 ≤ m) (h : p ≤ q) : cut m n p ≤ cut m n q := by
 unfold cut
 exact Int.ediv_le_ediv (by omega) (Int.mul_le_mul_of_nonneg_right h hm)
theorem cut_range {m n p : Int} (hn : 1 ≤ n) (hm : 0 ≤ m) (h0 : 0 ≤ p) (h1 : p ≤ n) : 0 ≤ cut m n p ∧ cut m n p ≤ m := by
 have a := cut_mono (m := m) hn hm h0
 have b := cut_mono (m := m) hn hm h1
 rw [cut_zero] at a
 rw [cut_last hn] at b
 exact ⟨a, b⟩
theorem cut_w {m n p : Int} (hn : 1 ≤ n) (hn2 : n ≤ 8) (hm : 0 ≤ m) (hm2 : m ≤ 32) (h0 : 0 ≤ p) (h1 : p ≤ n) : w64 ((w64 (p * m)).tdiv n) = cut m n p := by
 have h2 : 0 ≤ p * m := Int.mul_nonneg h0 hm
 have h3 : p * m ≤ 8 * 32 := Int.le_trans (Int.mul_le_mul_of_nonneg_right (show p ≤ 8 by omega) hm) (Int.mul_le_mul_of_nonneg_left hm2 (by omega))
 have h4 := cut_range hn hm h0 h1
 rw [w64_id (x := p * m) (by omega) (by omega), Int.tdiv_eq_ediv_of_nonneg h2, w64_id]
 · rfl
 · have : cut m n p = p * m / n := rfl
   omega
 · have : cut m n p = p * m / n := rfl
   omega
theorem Gives.rangeT {S R : Type} {f : Nat → Int → Int → Int → S → Option (S ⊕ R)} {m n : Int} (hn : 1 ≤ n) (hn2 : n ≤ 8) (hm : 0 ≤ m) (hm2 : m ≤ 32) (Inv : Int → S → Prop)
 (h : ∀ p s, 0 ≤ p → p < n → Inv p s → Gives (fun k => f k p (cut m n p) (cut m n (p + 1)) s) (fun x => ∃ s', x = .inl s' ∧ Inv (p + 1) s')) {s : S} (hs : Inv 0 s) :
 Gives (fun k => allT (f k) m n k 0 s) (fun x => ∃ s', x = .inl s' ∧ Inv n s') := by
 suffices H : ∀ (d : Nat) (p : Int) (s : S), 0 ≤ p → p ≤ n → (n - p).toNat < d → Inv p s → ∃ r, (∃ K N, ∀ k, K ≤ k → ∀ j, N ≤ j → allT (f k) m n j p s = some r) ∧ ∃ s', r = .inl s' ∧ Inv n s' by
  obtain ⟨r, ⟨K, N, hK⟩, hr⟩ := H (n.toNat + 1) 0 s (by omega) (by omega) (by omega) hs
  exact ⟨r, ⟨max K N, fun k hk => hK k (by omega) k (by omega)⟩, hr⟩
 intro d
 induction d with
 | zero => intro p s _ _ h; omega
 | succ d ih =>
  intro p s h0 h1 hd hI
  by_cases c : p < n
  · obtain ⟨x, ⟨K, hK⟩, s', rfl, hs'⟩ := h p s h0 c hI
    obtain ⟨r, ⟨K2, N, hK2⟩, hr⟩ := ih (p + 1) s' (by omega) (by omega) (by omega) hs'
    refine ⟨r, ⟨max K K2, N + 1, fun k hk j hj => ?_⟩, hr⟩
    obtain ⟨j', rfl⟩ : ∃ j', j = j' + 1 := ⟨j - 1, by omega⟩
    simp only [allT]
    rw [if_pos c, if_pos (by omega), w64_id (x := p + 1) (by omega) (by omega), cut_w hn hn2 hm hm2 h0 (by omega), cut_w hn hn2 hm hm2 (by omega) (by omega), show f k p (cut m n p) (cut m n (p + 1)) s = some (.inl s') from hK k (by omega)]
    exact hK2 k (by omega) j' (by omega)
  · have : p = n := by omega
    subst this
    refine ⟨.inl s, ⟨0, 1, fun k _ j hj => ?_⟩, s, rfl, hI⟩
    obtain ⟨j', rfl⟩ : ∃ j', j = j' + 1 := ⟨j - 1, by omega⟩
    simp only [allT]
    rw [if_neg c]
/-! What the functions of the chapter compute. -/
theorem pc_total {x : List Int} (hs : Smp x) (hl : x.length ≤ 32) : Gives (fun k => T_pieces_total k x) (fun r => r = x.sum) := by
 have hB : ∀ v ∈ x, -(1000 : Int) ≤ v ∧ v ≤ 1000 := hs
 refine Gives.step ?_
 simp only [T_pieces_total]
 refine Gives.bind (Q := fun r => r = x.sum) ?_ fun r hr => Gives.now hr
 refine Gives.loop (fun s => 0 ≤ s.2 ∧ s.2 ≤ (x.length : Int) ∧ s.1 = psum x s.2) (fun s => ((x.length : Int) - s.2).toNat) ?_ ⟨by simp only []; omega, by simp only []; omega, (psum_zero x).symm⟩
 intro ⟨t, i⟩ ⟨i1, i2, i3⟩
 simp only at i1 i2 i3
 unfold T_pieces_total_l1
 simp only []
 refine Gives.ite (fun c => Gives.opt (at_rd i1 c) ?_) fun c => Gives.now ?_
 · have e := psum_succ i1 c
   have b := psum_bound hB (i.toNat + 1) (by omega)
   have : ((i.toNat + 1 : Nat) : Int) = i + 1 := by omega
   rw [this] at b
   rw [w64_id (x := i + 1) (by omega) (by omega), w64_id (x := t + rd x i) (by omega) (by omega)]
   exact Gives.now ⟨⟨by simp only []; omega, by simp only []; omega, by simp only []; omega⟩, by simp only []; omega⟩
 · have : i = x.length := by omega
   subst this
   rw [i3]; exact psum_all
theorem pc_all (m n : Int) : Gives (fun k => T_pieces_all k m n) (fun _ => True) := by
 refine Gives.step ?_
 simp only [T_pieces_all]
 exact Gives.now trivial
theorem pc_number (m n : Int) : Gives (fun k => T_pieces_number k m n) (fun _ => True) := by
 refine Gives.step ?_
 simp only [T_pieces_number]
 exact Gives.now trivial
theorem pc_check {x : List Int} {n : Int} (hx : Win x) (hn : 1 ≤ n) (hn2 : n ≤ 8) (hn3 : n ≤ (x.length : Int)) : Gives (fun k => T_pieces_check k x n) (fun r => r = 0) := by
 refine Gives.step ?_
 simp only [T_pieces_check]
 refine Gives.bind (eu_distance hx hx rfl) fun e he => Gives.neg (by simp [he]) (Gives.bind (pc_number _ _) fun _ _ => Gives.neg (by simp; omega) (Gives.now rfl))
theorem rd_set_eq {xs : List Int} {i v : Int} (h0 : 0 ≤ i) (h1 : i < (xs.length : Int)) : rd (xs.set (0 + i.toNat) v) i = v := by
 unfold rd
 rw [Nat.zero_add, List.getD_eq_getElem?_getD, List.getElem?_set_self (by omega)]; rfl
theorem rd_set_ne {xs : List Int} {i j v : Int} (h0 : 0 ≤ i) (h1 : 0 ≤ j) (h : i ≠ j) : rd (xs.set (0 + i.toNat) v) j = rd xs j := by
 unfold rd
 rw [Nat.zero_add, List.getD_eq_getElem?_getD, List.getElem?_set_ne (by omega), List.getD_eq_getElem?_getD]
theorem pc_part {x : List Int} {n p : Int} (hx : Win x) (hn : 1 ≤ n) (h0 : 0 ≤ p) (h1 : p < n) : 0 ≤ cut x.length n p ∧ cut x.length n p ≤ cut x.length n (p + 1) ∧ cut x.length n (p + 1) ≤ (x.length : Int) ∧
 Gives (fun k => T_pieces_total k ((x.drop (cut x.length n p).toNat).take ((cut x.length n (p + 1)).toNat - (cut x.length n p).toNat))) (fun r => r = psum x (cut x.length n (p + 1)) - psum x (cut x.length n p)) := by
 have a := cut_range (m := x.length) hn (by omega) h0 (by omega)
 have b := cut_range (m := x.length) (p := p + 1) hn (by omega) (by omega) (by omega)
 have c := cut_mono (m := x.length) (p := p) (q := p + 1) hn (by omega) (by omega)
 refine ⟨a.1, c, b.2, ?_⟩
 have x2 := hx.hi
 refine (pc_total ((hx.smp.drop _).take _) (by simp; omega)).mono fun r hr => ?_
 rw [hr]; exact part_sum a.1 c
theorem prod_bound {a b A B : Int} (h1 : -A ≤ a) (h2 : a ≤ A) (h3 : -B ≤ b) (h4 : b ≤ B) : -(A * B) ≤ a * b ∧ a * b ≤ A * B := by
 have hA : 0 ≤ A := by omega
 have hB : 0 ≤ B := by omega
 have p1 : 0 ≤ (A - a) * (B - b) := Int.mul_nonneg (by omega) (by omega)
 have p2 : 0 ≤ (A + a) * (B + b) := Int.mul_nonneg (by omega) (by omega)
 have p3 : 0 ≤ (A - a) * (B + b) := Int.mul_nonneg (by omega) (by omega)
 have p4 : 0 ≤ (A + a) * (B - b) := Int.mul_nonneg (by omega) (by omega)
 rw [Int.sub_mul, Int.mul_sub, Int.mul_sub] at p1
 rw [Int.add_mul, Int.mul_add, Int.mul_add] at p2
 rw [Int.sub_mul, Int.mul_add, Int.mul_add] at p3
 rw [Int.add_mul, Int.mul_sub, Int.mul_sub] at p4
 omega
theorem pc_bounds {x : List Int} (hx : Win x) {i : Int} (h0 : 0 ≤ i) (h1 : i ≤ (x.length : Int)) : -32000 ≤ psum x i ∧ psum x i ≤ 32000 := by
 have x2 := hx.hi
 have := psum_bound (B := 1000) hx.smp i.toNat (by omega)
 rw [Int.toNat_of_nonneg h0] at this
 omega
theorem rd_app_l {xs ys : List Int} {i : Int} (h1 : i.toNat < xs.length) : rd (xs ++ ys) i = rd xs i := by
 unfold rd
 rw [List.getD_eq_getElem?_getD, List.getElem?_append_left h1, List.getD_eq_getElem?_getD]
theorem rd_app_1 {xs : List Int} {v i : Int} (h0 : 0 ≤ i) (h1 : (xs.length : Int) = i) : rd (xs ++ [v]) i = v := by
 unfold rd
 rw [List.getD_eq_getElem?_getD, List.getElem?_append_right (by omega)]
 simp [show i.toNat - xs.length = 0 by omega]
theorem pc_starts {m n : Int} (hm : 2 ≤ m) (hm2 : m ≤ 32) (hn : 1 ≤ n) (hn2 : n ≤ 8) (hn3 : n ≤ m) :
 Gives (fun k => T_pieces_Starts k m n) (fun r => r.2 = 0 ∧ (r.1.length : Int) = n + 1 ∧ ∀ p, 0 ≤ p → p ≤ n → rd r.1 p = cut m n p) := by
 refine Gives.step ?_
 simp only [T_pieces_Starts]
 refine Gives.neg (by simp; omega) (Gives.bind (pc_number _ _) fun _ _ => Gives.neg (by simp; omega) (Gives.bind (pc_all _ _) fun _ _ => ?_))
 refine Gives.bind (Gives.rangeT (m := m) (n := n) hn hn2 (by omega) (by omega) (fun p s => (s.1 : Int) = p + 1 ∧ s.2.length = s.1 ∧ ∀ q, 0 ≤ q → q ≤ p → rd s.2 q = cut m n q) ?_ ⟨by simp, by simp, fun q h1 h2 => by
  have : q = 0 := by omega
  subst this; rw [cut_zero]; rfl⟩) fun r hr => ?_
 · intro p s h0 h1 ⟨i1, i2, i3⟩
   unfold T_pieces_Starts_r1
   rw [drop_take_len i2]
   refine Gives.pos (by unfold LIM; omega) (Gives.now ⟨_, rfl, by simp only []; omega, by simp [i2], fun q h2 h3 => ?_⟩)
   simp only []
   by_cases c : q = p + 1
   · subst c; rw [rd_app_1 (by omega) (by omega)]
   · rw [rd_app_l (by omega)]; exact i3 q h2 (by omega)
 · obtain ⟨s', rfl, k1, k2, k3⟩ := hr
   simp only []
   rw [drop_take_len k2]
   exact Gives.now ⟨rfl, by simp only []; omega, k3⟩

/-! The centred sums. -/
theorem pc_centred {x : List Int} {n : Int} (hx : Win x) (hn : 1 ≤ n) (hn2 : n ≤ 8) (hn3 : n ≤ (x.length : Int)) :
 Gives (fun k => T_pieces_Centred k x n) (fun r => r.2 = 0 ∧ (r.1.length : Int) = n ∧ ∀ p, 0 ≤ p → p < n → rd r.1 p = (x.length : Int) * (psum x (cut x.length n (p + 1)) - psum x (cut x.length n p)) - (cut x.length n (p + 1) - cut x.length n p) * x.sum) := by
 have x2 := hx.hi
 refine Gives.step ?_
 simp only [T_pieces_Centred]
 refine Gives.bind (pc_check hx hn hn2 hn3) fun e he => ?_
 subst he
 refine Gives.neg (by simp) (Gives.bind (pc_total hx.smp hx.hi) fun t ht => Gives.pos (by unfold LIM; omega) (Gives.bind (pc_all _ _) fun _ _ => ?_))
 subst ht
 refine Gives.bind (Gives.rangeT (m := (x.length : Int)) (n := n) hn hn2 (by omega) (by omega) (fun p s => s.length = n.toNat ∧ ∀ q, 0 ≤ q → q < p → rd s q = (x.length : Int) * (psum x (cut x.length n (q + 1)) - psum x (cut x.length n q)) - (cut x.length n (q + 1) - cut x.length n q) * x.sum) ?_ ⟨by simp, fun q h1 h2 => by omega⟩) fun r hr => ?_
 · intro p s h0 h1 ⟨i1, i2⟩
   obtain ⟨c1, c2, c3, c4⟩ := pc_part hx hn h0 h1
   unfold T_pieces_Centred_r1
   refine Gives.pos (by omega) (Gives.bind c4 fun v hv => Gives.pos (by omega) ?_)
   have b1 := pc_bounds hx (i := cut x.length n (p + 1)) (by omega) c3
   have b2 := pc_bounds hx (i := cut x.length n p) c1 (by omega)
   have b3 := pc_bounds hx (i := x.length) (by omega) (by omega)
   rw [psum_all] at b3
   have e1 := prod_bound (a := (x.length : Int)) (b := v) (A := 32) (B := 64000) (by omega) (by omega) (by omega) (by omega)
   have e2 := prod_bound (a := cut x.length n (p + 1) - cut x.length n p) (b := x.sum) (A := 32) (B := 32000) (by omega) (by omega) (by omega) (by omega)
   rw [w64_id (x := (x.length : Int) * v) (by omega) (by omega), w64_id (x := cut x.length n (p + 1) - cut x.length n p) (by omega) (by omega), w64_id (x := (cut x.length n (p + 1) - cut x.length n p) * x.sum) (by omega) (by omega), w64_id (by omega) (by omega)]
   refine Gives.now ⟨_, rfl, by simp [i1], fun q h2 h3 => ?_⟩
   by_cases c : q = p
   · subst c; rw [rd_set_eq h2 (by omega), hv]
   · rw [rd_set_ne h0 h2 (by omega)]; exact i2 q h2 (by omega)
 · obtain ⟨s', rfl, k1, k2⟩ := hr
   simp only []
   rw [drop_take_len k1]
   exact Gives.now ⟨rfl, by simp only []; omega, k2⟩

/-- The squares of a list. -/
def sqs (x : List Int) : List Int := x.map fun v => v * v
theorem sqs_len (x : List Int) : (sqs x).length = x.length := by simp [sqs]
theorem rd_sqs {x : List Int} {i : Int} (h0 : 0 ≤ i) (h1 : i < (x.length : Int)) : rd (sqs x) i = rd x i * rd x i := by
 unfold rd sqs
 rw [List.getD_eq_getElem?_getD, List.getD_eq_getElem?_getD, List.getElem?_map, List.getElem?_eq_getElem (show i.toNat < x.length by omega)]
 rfl
theorem sqs_bound {x : List Int} (hx : Smp x) : ∀ v ∈ sqs x, -(1000000 : Int) ≤ v ∧ v ≤ 1000000 := by
 intro v hv
 obtain ⟨u, hu, rfl⟩ := List.mem_map.1 hv
 have h := hx u hu
 have := prod_bound (a := u) (b := u) (A := 1000) (B := 1000) h.1 h.2 h.1 h.2
 omega
/-- What the product of a window with itself is. -/
def selfP (x : List Int) : Int := (x.length : Int) * (sqs x).sum - x.sum * x.sum
theorem selfP_bound {x : List Int} (hx : Win x) : -4000000000 ≤ selfP x ∧ selfP x ≤ 4000000000 ∧ -32000000 ≤ (sqs x).sum ∧ (sqs x).sum ≤ 32000000 ∧ -32000 ≤ x.sum ∧ x.sum ≤ 32000 := by
 have x2 := hx.hi
 have b1 := psum_bound (sqs_bound hx.smp) x.length (by rw [sqs_len]; omega)
 have e1 : psum (sqs x) (x.length : Int) = (sqs x).sum := by rw [← sqs_len x]; exact psum_all
 rw [e1] at b1
 have b2 := pc_bounds hx (i := x.length) (by omega) (by omega)
 rw [psum_all] at b2
 have q1 := prod_bound (a := (x.length : Int)) (b := (sqs x).sum) (A := 32) (B := 32000000) (by omega) (by omega) (by omega) (by omega)
 have q2 := prod_bound (a := x.sum) (b := x.sum) (A := 32000) (B := 32000) (by omega) (by omega) (by omega) (by omega)
 unfold selfP
 omega
theorem nm_product {x : List Int} (hx : Win x) : Gives (fun k => T_normal_product k x x) (fun r => r = selfP x) := by
 have x2 := hx.hi
 obtain ⟨p1, p2, p3, p4, p5, p6⟩ := selfP_bound hx
 refine Gives.step ?_
 simp only [T_normal_product]
 refine Gives.bind (Q := fun r => r.1 = (sqs x).sum ∧ r.2.1 = x.sum ∧ r.2.2 = x.sum) ?_ fun r hr => ?_
 · refine Gives.loop (fun s => 0 ≤ s.2.2.2 ∧ s.2.2.2 ≤ (x.length : Int) ∧ s.1 = psum (sqs x) s.2.2.2 ∧ s.2.1 = psum x s.2.2.2 ∧ s.2.2.1 = psum x s.2.2.2) (fun s => ((x.length : Int) - s.2.2.2).toNat) ?_ ⟨by simp only []; omega, by simp only []; omega, (psum_zero _).symm, (psum_zero _).symm, (psum_zero _).symm⟩
   intro ⟨a, b, c, i⟩ ⟨i1, i2, i3, i4, i5⟩
   simp only at i1 i2 i3 i4 i5
   unfold T_normal_product_l1
   simp only []
   refine Gives.ite (fun cc => Gives.opt (at_rd i1 cc) (Gives.opt (at_rd i1 cc) ?_)) fun cc => Gives.now ?_
   · have e1 := psum_succ (x := sqs x) i1 (by rw [sqs_len]; exact cc)
     rw [rd_sqs i1 cc] at e1
     have e2 := psum_succ (x := x) i1 cc
     have b1 := psum_bound (sqs_bound hx.smp) i.toNat (by rw [sqs_len]; omega)
     rw [Int.toNat_of_nonneg i1] at b1
     have b2 := pc_bounds hx i1 (by omega)
     have hs := hx.smp.rd i
     have b3 := prod_bound (a := rd x i) (b := rd x i) (A := 1000) (B := 1000) hs.1 hs.2 hs.1 hs.2
     rw [w64_id (x := rd x i * rd x i) (by omega) (by omega), w64_id (x := a + rd x i * rd x i) (by omega) (by omega), w64_id (x := b + rd x i) (by omega) (by omega), w64_id (x := c + rd x i) (by omega) (by omega), w64_id (x := i + 1) (by omega) (by omega)]
     exact Gives.now ⟨⟨by simp only []; omega, by simp only []; omega, by simp only []; omega, by simp only []; omega, by simp only []; omega⟩, by simp only []; omega⟩
   · have : i = x.length := by omega
     subst this
     have e1 : psum (sqs x) (x.length : Int) = (sqs x).sum := by rw [← sqs_len x]; exact psum_all
     exact ⟨i3.trans e1, i4.trans psum_all, i5.trans psum_all⟩
 · obtain ⟨r1, r2, r3⟩ := hr
   rw [r1, r2, r3]
   have q1 := prod_bound (a := (x.length : Int)) (b := (sqs x).sum) (A := 32) (B := 32000000) (by omega) (by omega) (by omega) (by omega)
   have q2 := prod_bound (a := x.sum) (b := x.sum) (A := 32000) (B := 32000) (by omega) (by omega) (by omega) (by omega)
   rw [w64_id (x := (x.length : Int) * (sqs x).sum) (by omega) (by omega), w64_id (x := x.sum * x.sum) (by omega) (by omega), w64_id (by omega) (by omega)]
   exact Gives.now rfl
theorem nm_Product {x : List Int} (hx : Win x) : Gives (fun k => T_normal_Product k x x) (fun r => r.1 = selfP x ∧ r.2 = 0) := by
 refine Gives.step ?_
 simp only [T_normal_Product]
 exact Gives.bind (eu_distance hx hx rfl) fun e he => Gives.neg (by simp [he]) (Gives.bind (nm_product hx) fun v hv => Gives.now ⟨hv, rfl⟩)
/-! Sums over the first places. -/
def sg (f : Int → Int) : Nat → Int
 | 0 => 0
 | n + 1 => sg f n + f n
theorem sg_congr {f g : Int → Int} : ∀ {n : Nat}, (∀ i : Int, 0 ≤ i → i < n → f i = g i) → sg f n = sg g n
 | 0, _ => rfl
 | n + 1, h => by
  rw [sg, sg, sg_congr (n := n) fun i h1 h2 => h i h1 (by omega), h n (by omega) (by omega)]
theorem sg_psum {x : List Int} : ∀ {n : Nat}, n ≤ x.length → sg (rd x) n = psum x n
 | 0, _ => by simp [sg, psum]
 | n + 1, h => by
  have e := psum_succ (x := x) (i := (n : Int)) (by omega) (by omega)
  have : (((n + 1 : Nat)) : Int) = (n : Int) + 1 := by omega
  rw [sg, sg_psum (n := n) (by omega), this, e]
theorem sg_bound {f : Int → Int} {B : Int} : ∀ {n : Nat}, (∀ i : Int, 0 ≤ i → i < n → -B ≤ f i ∧ f i ≤ B) → -(B * n) ≤ sg f n ∧ sg f n ≤ B * n
 | 0, _ => by simp [sg]
 | n + 1, h => by
  have ih := sg_bound (n := n) fun i h1 h2 => h i h1 (by omega)
  have hb := h n (by omega) (by omega)
  have : (((n + 1 : Nat)) : Int) = (n : Int) + 1 := by omega
  rw [sg, this, Int.mul_add, Int.mul_one]
  omega
theorem sg_nonneg {f : Int → Int} : ∀ {n : Nat}, (∀ i : Int, 0 ≤ i → i < n → 0 ≤ f i) → 0 ≤ sg f n
 | 0, _ => by simp [sg]
 | n + 1, h => by
  have ih := sg_nonneg (n := n) fun i h1 h2 => h i h1 (by omega)
  have hb := h n (by omega) (by omega)
  rw [sg]; omega
theorem sg_cent (a b : Int → Int) (L S T : Int) : ∀ n : Nat, sg (fun i => (L * a i - S) * (L * b i - T)) n = L * L * sg (fun i => a i * b i) n - L * T * sg a n - L * S * sg b n + n * (S * T)
 | 0 => by simp [sg]
 | n + 1 => by
  have ih := sg_cent a b L S T n
  have : (((n + 1 : Nat)) : Int) = (n : Int) + 1 := by omega
  rw [sg, sg, sg, sg, ih, this]
  grind
theorem sg_quad (u v : Int → Int) (A B : Int) : ∀ n : Nat, sg (fun i => (A * v i - B * u i) * (A * v i - B * u i)) n = A * A * sg (fun i => v i * v i) n - 2 * (A * B * sg (fun i => u i * v i) n) + B * B * sg (fun i => u i * u i) n
 | 0 => by simp [sg]
 | n + 1 => by
  have ih := sg_quad u v A B n
  rw [sg, sg, sg, sg, ih]
  grind
theorem sq_nonneg (a : Int) : 0 ≤ a * a := by
 rcases Int.le_total 0 a with h | h
 · exact Int.mul_nonneg h h
 · exact Int.mul_nonneg_of_nonpos_of_nonpos h h
/-- The inequality of Cauchy and Schwarz. -/
theorem sg_cs (u v : Int → Int) (n : Nat) : sg (fun i => u i * v i) n * sg (fun i => u i * v i) n ≤ sg (fun i => u i * u i) n * sg (fun i => v i * v i) n := by
 obtain ⟨A, hA⟩ : ∃ A, A = sg (fun i => u i * u i) n := ⟨_, rfl⟩
 obtain ⟨B, hB⟩ : ∃ B, B = sg (fun i => u i * v i) n := ⟨_, rfl⟩
 obtain ⟨C, hC⟩ : ∃ C, C = sg (fun i => v i * v i) n := ⟨_, rfl⟩
 rw [← hA, ← hB, ← hC]
 have hA0 : 0 ≤ A := by rw [hA]; exact sg_nonneg fun i _ _ => sq_nonneg _
 have hC0 : 0 ≤ C := by rw [hC]; exact sg_nonneg fun i _ _ => sq_nonneg _
 have q : ∀ s t : Int, 0 ≤ s * s * C - 2 * (s * t * B) + t * t * A := fun s t => by
  rw [hA, hB, hC, ← sg_quad u v s t n]
  exact sg_nonneg fun i _ _ => sq_nonneg _
 have q1 := q A B
 have q2 := q B C
 have q3 := q 1 1
 have q4 := q 1 (-1)
 have e1 : A * A * C - 2 * (A * B * B) + B * B * A = A * (A * C - B * B) := by grind
 have e2 : B * B * C - 2 * (B * C * B) + C * C * A = C * (A * C - B * B) := by grind
 rw [e1] at q1
 rw [e2] at q2
 by_cases h1 : 0 < A
 · have := Int.nonneg_of_mul_nonneg_right q1 h1
   omega
 · by_cases h2 : 0 < C
   · have := Int.nonneg_of_mul_nonneg_right q2 h2
     omega
   · have a0 : A = 0 := by omega
     have c0 : C = 0 := by omega
     subst a0 c0
     have : B = 0 := by omega
     subst this
     simp
/-! What two windows' product is. -/
def prodP (x y : List Int) : Int := (x.length : Int) * sg (fun i => rd x i * rd y i) x.length - x.sum * y.sum
theorem cent_sum {x y : List Int} (hl : x.length = y.length) : sg (fun i => ((x.length : Int) * rd x i - x.sum) * ((x.length : Int) * rd y i - y.sum)) x.length = (x.length : Int) * prodP x y := by
 have e1 : sg (rd x) x.length = x.sum := by rw [sg_psum (Nat.le_refl _)]; exact psum_all
 have e2 : sg (rd y) x.length = y.sum := by rw [hl, sg_psum (Nat.le_refl _)]; exact psum_all
 rw [sg_cent, e1, e2]
 unfold prodP
 grind
theorem prodP_nonneg {x : List Int} (h : 0 < x.length) : 0 ≤ prodP x x := by
 have e := cent_sum (x := x) (y := x) rfl
 have : 0 ≤ (x.length : Int) * prodP x x := by rw [← e]; exact sg_nonneg fun i _ _ => sq_nonneg _
 exact Int.nonneg_of_mul_nonneg_right this (by omega)
theorem prodP_cs {x y : List Int} (hl : x.length = y.length) (h : 0 < x.length) : prodP x y * prodP x y ≤ prodP x x * prodP y y := by
 have c := sg_cs (fun i => (x.length : Int) * rd x i - x.sum) (fun i => (x.length : Int) * rd y i - y.sum) x.length
 have e1 := cent_sum (x := x) (y := x) rfl
 have e2 := cent_sum hl
 have e3 := cent_sum (x := y) (y := y) rfl
 rw [← hl] at e3
 rw [e1, e2, e3] at c
 generalize prodP x y = p at c ⊢
 generalize prodP x x = q at c ⊢
 generalize prodP y y = r at c ⊢
 have hL : 0 < (x.length : Int) := by omega
 generalize (x.length : Int) = L at c hL
 have : 0 ≤ L * (L * (q * r - p * p)) := by
  have : L * (L * (q * r - p * p)) = L * q * (L * r) - L * p * (L * p) := by grind
  omega
 have := Int.nonneg_of_mul_nonneg_right (Int.nonneg_of_mul_nonneg_right this hL) hL
 omega

theorem selfP_prod {x : List Int} : selfP x = prodP x x := by
 have e : sg (fun i => rd x i * rd x i) x.length = (sqs x).sum := by
  rw [← psum_all (x := sqs x), sqs_len, ← sg_psum (by rw [sqs_len]; exact Nat.le_refl _)]
  exact sg_congr fun i h1 h2 => (rd_sqs h1 h2).symm
 unfold selfP prodP
 rw [e]

/-! The lengths of pieces, and what they all divide. -/
theorem len_fin : ∀ m : Fin 33, ∀ n : Fin 9, ∀ p : Fin 8, 1 ≤ n.val → p.val < n.val → n.val ≤ m.val → ((p.val + 1) * m.val / n.val - p.val * m.val / n.val = m.val / n.val ∨ (p.val + 1) * m.val / n.val - p.val * m.val / n.val = m.val / n.val + 1) := by decide +kernel
/-- What all lengths of pieces divide. -/
def mm (m n : Nat) : Nat := (m / n) * (m / n + 1)
/-- How often a piece's length goes into it. -/
def wt (m n : Nat) (p : Int) : Nat := mm m n / (cut m n (p + 1) - cut m n p).toNat
theorem wt_ok {m n : Nat} {p : Int} (hm : m ≤ 32) (hn : 1 ≤ n) (hn2 : n ≤ 8) (hn3 : n ≤ m) (h0 : 0 ≤ p) (h1 : p < (n : Int)) :
 (cut m n (p + 1) - cut m n p).toNat * wt m n p = mm m n ∧ wt m n p ≤ 33 ∧ 1 ≤ cut m n (p + 1) - cut m n p ∧ cut m n (p + 1) - cut m n p ≤ 32 ∧ 0 < mm m n ∧ mm m n ≤ 1056 := by
 obtain ⟨q, rfl⟩ : ∃ q : Nat, p = q := ⟨p.toNat, by omega⟩
 have dl : cut m n ((q : Int) + 1) - cut m n (q : Int) ≤ 32 := by
  have a := cut_range (m := m) (n := n) (p := (q : Int) + 1) (by omega) (by omega) (by omega) (by omega)
  have b := cut_range (m := m) (n := n) (p := (q : Int)) (by omega) (by omega) (by omega) (by omega)
  omega
 have f := len_fin ⟨m, by omega⟩ ⟨n, by omega⟩ ⟨q, by omega⟩ hn (by simp only []; omega) hn3
 simp only [] at f
 have e1 : cut (m : Int) n ((q : Int) + 1) = (((q + 1) * m / n : Nat) : Int) := by
  unfold cut
  have : ((q : Int) + 1) * m = (((q + 1) * m : Nat) : Int) := by simp
  rw [this]; rfl
 have e2 : cut (m : Int) n (q : Int) = ((q * m / n : Nat) : Int) := by
  unfold cut
  have : (q : Int) * m = ((q * m : Nat) : Int) := by simp
  rw [this]; rfl
 have d0 : 1 ≤ m / n := Nat.div_pos hn3 hn
 have d1 : m / n ≤ 32 := Nat.le_trans (Nat.div_le_self _ _) hm
 have mono : q * m / n ≤ (q + 1) * m / n := Nat.div_le_div_right (Nat.mul_le_mul_right m (by omega))
 unfold wt mm
 rw [e1, e2] at dl ⊢
 generalize (q + 1) * m / n = c1 at f mono dl ⊢
 generalize q * m / n = c0 at f mono dl ⊢
 generalize m / n = a at f d0 d1 ⊢
 have el : ((c1 : Int) - (c0 : Int)).toNat = c1 - c0 := by omega
 rw [el]
 have hb : a * (a + 1) ≤ 32 * 33 := Nat.mul_le_mul d1 (by omega)
 have hb0 : 0 < a * (a + 1) := Nat.mul_pos d0 (by omega)
 rcases f with f | f
 · rw [f, Nat.mul_div_cancel_left _ d0]
   refine ⟨rfl, by omega, by omega, by omega, hb0, by omega⟩
 · rw [f, Nat.mul_comm a (a + 1), Nat.mul_div_cancel_left _ (by omega)]
   refine ⟨rfl, by omega, by omega, by omega, by rw [Nat.mul_comm]; exact hb0, by rw [Nat.mul_comm]; omega⟩
/-! What the sums of pieces leave of a product. -/
/-- The sum over a piece. -/
def dP (f : Int → Int) (m n p : Int) : Int := sg f (cut m n (p + 1)).toNat - sg f (cut m n p).toNat
/-- What is left of the product of two, by the least common length. -/
def bl (f g : Int → Int) (m n : Nat) : Int := mm m n * sg (fun i => f i * g i) m - sg (fun p => dP f m n p * dP g m n p * wt m n p) n
theorem sg_lin (u v : Int → Int) (A B : Int) : ∀ n : Nat, sg (fun i => A * v i - B * u i) n = A * sg v n - B * sg u n
 | 0 => by simp [sg]
 | n + 1 => by
  have ih := sg_lin u v A B n
  rw [sg, sg, sg, ih]
  grind
theorem sg_quadw (u v : Int → Int) (w : Int → Nat) (A B : Int) : ∀ n : Nat, sg (fun i => (A * v i - B * u i) * (A * v i - B * u i) * w i) n = A * A * sg (fun i => v i * v i * w i) n - 2 * (A * B * sg (fun i => u i * v i * w i) n) + B * B * sg (fun i => u i * u i * w i) n
 | 0 => by simp [sg]
 | n + 1 => by
  have ih := sg_quadw u v w A B n
  rw [sg, sg, sg, sg, ih]
  grind
theorem bl_quad (f g : Int → Int) (A B : Int) (m n : Nat) : bl (fun i => A * g i - B * f i) (fun i => A * g i - B * f i) m n = A * A * bl g g m n - 2 * (A * B * bl f g m n) + B * B * bl f f m n := by
 have e : ∀ p : Int, dP (fun i => A * g i - B * f i) m n p = A * dP g m n p - B * dP f m n p := fun p => by
  unfold dP
  rw [sg_lin, sg_lin]
  grind
 have e2 : sg (fun p => dP (fun i => A * g i - B * f i) m n p * dP (fun i => A * g i - B * f i) m n p * wt m n p) n = sg (fun p => (A * dP g m n p - B * dP f m n p) * (A * dP g m n p - B * dP f m n p) * wt m n p) n := sg_congr fun p _ _ => by rw [e p]
 have e3 : sg (fun i => (A * g i - B * f i) * (A * g i - B * f i)) m = A * A * sg (fun i => g i * g i) m - 2 * (A * B * sg (fun i => f i * g i) m) + B * B * sg (fun i => f i * f i) m := sg_quad f g A B m
 have e4 := sg_quadw (fun p => dP f m n p) (fun p => dP g m n p) (wt m n) A B n
 unfold bl
 rw [e2, e3, e4]
 grind
theorem quads (f : Int → Int) (a : Nat) (c e : Int) : ∀ j : Nat, 0 ≤ c * c * (sg (fun i => f i * f i) (a + j) - sg (fun i => f i * f i) a) - 2 * (c * e * (sg f (a + j) - sg f a)) + j * (e * e)
 | 0 => by simp
 | j + 1 => by
  have ih := quads f a c e j
  have p := sq_nonneg (c * f ((a + j : Nat) : Int) - e)
  rw [show a + (j + 1) = a + j + 1 by omega, sg, sg]
  generalize f ((a + j : Nat) : Int) = v at p ⊢
  generalize sg f (a + j) = s at ih ⊢
  generalize sg (fun i => f i * f i) (a + j) = q at ih ⊢
  generalize sg f a = s0 at ih ⊢
  generalize sg (fun i => f i * f i) a = q0 at ih ⊢
  have : c * c * (q + v * v - q0) - 2 * (c * e * (s + v - s0)) + ((j + 1 : Nat) : Int) * (e * e) = (c * c * (q - q0) - 2 * (c * e * (s - s0)) + j * (e * e)) + (c * v - e) * (c * v - e) := by
   have : ((j + 1 : Nat) : Int) = (j : Int) + 1 := by omega
   rw [this]
   grind
  rw [this]
  omega
theorem cauchys (f : Int → Int) (a j : Nat) : (sg f (a + j) - sg f a) * (sg f (a + j) - sg f a) ≤ j * (sg (fun i => f i * f i) (a + j) - sg (fun i => f i * f i) a) := by
 rcases Nat.eq_zero_or_pos j with hj | hj
 · subst hj; simp
 have := quads f a j (sg f (a + j) - sg f a) j
 generalize sg f (a + j) - sg f a = s at this ⊢
 generalize sg (fun i => f i * f i) (a + j) - sg (fun i => f i * f i) a = q at this ⊢
 have e : (j : Int) * j * q - 2 * (j * s * s) + j * (s * s) = j * (j * q - s * s) := by grind
 rw [e] at this
 have := Int.nonneg_of_mul_nonneg_right this (show (0 : Int) < j by omega)
 omega
theorem pw_eq {m n : Nat} {p : Int} (hm : m ≤ 32) (hn : 1 ≤ n) (hn2 : n ≤ 8) (hn3 : n ≤ m) (h0 : 0 ≤ p) (h1 : p < (n : Int)) : (cut m n (p + 1) - cut m n p) * (wt m n p : Int) = mm m n := by
 have w := wt_ok hm hn hn2 hn3 h0 h1
 rw [← w.1, Int.natCast_mul, Int.toNat_of_nonneg (by omega)]
theorem bl_part (f : Int → Int) {m n : Nat} (hm : m ≤ 32) (hn : 1 ≤ n) (hn2 : n ≤ 8) (hn3 : n ≤ m) : ∀ p : Nat, p ≤ n → sg (fun p => dP f m n p * dP f m n p * wt m n p) p ≤ mm m n * sg (fun i => f i * f i) (cut m n p).toNat
 | 0, _ => by simp [sg, cut]
 | p + 1, h => by
  have ih := bl_part f hm hn hn2 hn3 p (by omega)
  have k1 := cut_range (m := (m : Int)) (n := (n : Int)) (p := (p : Int)) (by omega) (by omega) (by omega) (by omega)
  have k2 := cut_range (m := (m : Int)) (n := (n : Int)) (p := (p : Int) + 1) (by omega) (by omega) (by omega) (by omega)
  have k3 := cut_mono (m := (m : Int)) (n := (n : Int)) (p := (p : Int)) (q := (p : Int) + 1) (by omega) (by omega) (by omega)
  have w := pw_eq (p := (p : Int)) hm hn hn2 hn3 (by omega) (by omega)
  have c := cauchys f (cut m n p).toNat ((cut m n ((p : Int) + 1)).toNat - (cut m n p).toNat)
  rw [Nat.add_sub_cancel' (by omega), show (((cut m n ((p : Int) + 1)).toNat - (cut m n p).toNat : Nat) : Int) = cut m n ((p : Int) + 1) - cut m n p by omega] at c
  have c2 := Int.mul_le_mul_of_nonneg_right c (show (0 : Int) ≤ (wt m n p : Int) by omega)
  rw [sg, show ((p + 1 : Nat) : Int) = (p : Int) + 1 by omega]
  show _ + dP f m n p * dP f m n p * wt m n p ≤ _
  unfold dP at ih ⊢
  have e : ∀ l t q : Int, l * t = mm m n → l * q * t = mm m n * q := fun l t q h => by rw [← h]; grind
  rw [e _ _ _ w, Int.mul_sub ((mm m n : Nat) : Int)] at c2
  omega
theorem bl_nonneg (f : Int → Int) {m n : Nat} (hm : m ≤ 32) (hn : 1 ≤ n) (hn2 : n ≤ 8) (hn3 : n ≤ m) : 0 ≤ bl f f m n := by
 have h := bl_part f hm hn hn2 hn3 n (by omega)
 rw [cut_last (by omega), Int.toNat_natCast] at h
 unfold bl
 omega
theorem bl_cs (f g : Int → Int) {m n : Nat} (hm : m ≤ 32) (hn : 1 ≤ n) (hn2 : n ≤ 8) (hn3 : n ≤ m) : bl f g m n * bl f g m n ≤ bl f f m n * bl g g m n := by
 have hA0 := bl_nonneg f hm hn hn2 hn3
 have hC0 := bl_nonneg g hm hn hn2 hn3
 have q : ∀ s t : Int, 0 ≤ s * s * bl g g m n - 2 * (s * t * bl f g m n) + t * t * bl f f m n := fun s t => by
  rw [← bl_quad f g s t m n]
  exact bl_nonneg _ hm hn hn2 hn3
 generalize bl f f m n = A at *
 generalize bl f g m n = B at *
 generalize bl g g m n = C at *
 have q1 := q A B
 have q2 := q B C
 have q3 := q 1 1
 have q4 := q 1 (-1)
 have e1 : A * A * C - 2 * (A * B * B) + B * B * A = A * (A * C - B * B) := by grind
 have e2 : B * B * C - 2 * (B * C * B) + C * C * A = C * (A * C - B * B) := by grind
 rw [e1] at q1
 rw [e2] at q2
 by_cases h1 : 0 < A
 · have := Int.nonneg_of_mul_nonneg_right q1 h1
   omega
 · by_cases h2 : 0 < C
   · have := Int.nonneg_of_mul_nonneg_right q2 h2
     omega
   · have a0 : A = 0 := by omega
     have c0 : C = 0 := by omega
     subst a0 c0
     have : B = 0 := by omega
     subst this
     simp
theorem sq_le {a b : Int} (hb : 0 ≤ b) (h : a * a ≤ b * b) : a ≤ b := by
 refine Decidable.byContradiction fun hn => ?_
 have := Int.mul_le_mul (a := b + 1) (b := b + 1) (c := a) (d := a) (by omega) (by omega) (by omega) (by omega)
 have e : (b + 1) * (b + 1) = b * b + b + b + 1 := by grind
 omega
theorem sg_le {f g : Int → Int} : ∀ {n : Nat}, (∀ i : Int, 0 ≤ i → i < n → f i ≤ g i) → sg f n ≤ sg g n
 | 0, _ => by simp [sg]
 | n + 1, h => by
  have ih := sg_le (n := n) fun i h1 h2 => h i h1 (by omega)
  have hb := h n (by omega) (by omega)
  rw [sg, sg]; omega
theorem sg_mul (f : Int → Int) (c : Int) : ∀ n : Nat, sg (fun i => c * f i) n = c * sg f n
 | 0 => by simp [sg]
 | n + 1 => by
  have ih := sg_mul f c n
  rw [sg, sg, ih]
  grind
theorem kn_part (h : Int → Int) {m n : Nat} (hm : m ≤ 32) (hn : 1 ≤ n) (hn2 : n ≤ 8) (hn3 : n ≤ m) : mm m n * sg (fun p => (dP h m n p * dP h m n p) / (cut m n (p + 1) - cut m n p)) n ≤ sg (fun p => dP h m n p * dP h m n p * wt m n p) n := by
 rw [← sg_mul]
 refine sg_le fun p p0 p1 => ?_
 have o := wt_ok hm hn hn2 hn3 p0 p1
 have w := pw_eq hm hn hn2 hn3 p0 p1
 generalize cut m n (p + 1) - cut m n p = l at o w ⊢
 generalize dP h m n p * dP h m n p = v
 have d := Int.mul_ediv_self_le (x := v) (k := l) (by omega)
 have := Int.mul_le_mul_of_nonneg_right d (show (0 : Int) ≤ (wt m n p : Int) by omega)
 have e : l * (v / l) * (wt m n p : Int) = l * (wt m n p : Int) * (v / l) := by grind
 rw [e, w] at this
 exact this
theorem kn_le (f : Int → Int) {m n : Nat} (hm : m ≤ 32) (hn : 1 ≤ n) (hn2 : n ≤ 8) (hn3 : n ≤ m) : sg (fun p => (dP f m n p * dP f m n p) / (cut m n (p + 1) - cut m n p)) n ≤ sg (fun i => f i * f i) m := by
 have M0 := (wt_ok (p := 0) hm hn hn2 hn3 (by omega) (by omega)).2.2.2.2.1
 have k := kn_part f hm hn hn2 hn3
 have b := bl_nonneg f hm hn hn2 hn3
 unfold bl at b
 exact Int.le_of_mul_le_mul_left (a := (mm m n : Int)) (by omega) (by omega)
theorem kn_nonneg (f : Int → Int) {m n : Nat} (hm : m ≤ 32) (hn : 1 ≤ n) (hn2 : n ≤ 8) (hn3 : n ≤ m) : 0 ≤ sg (fun p => (dP f m n p * dP f m n p) / (cut m n (p + 1) - cut m n p)) n :=
 sg_nonneg fun p p0 p1 => by
  have o := wt_ok hm hn hn2 hn3 p0 p1
  exact Int.ediv_nonneg (sq_nonneg _) (by omega)
/-- The sum of a piece, and the centred one. -/
def pcs (x : List Int) (n p : Int) : Int := psum x (cut x.length n (p + 1)) - psum x (cut x.length n p)
def pcc (x : List Int) (n p : Int) : Int := (x.length : Int) * pcs x n p - (cut x.length n (p + 1) - cut x.length n p) * x.sum
theorem pcs_bound {x : List Int} {n p : Int} (hx : Win x) (hn : 1 ≤ n) (h0 : 0 ≤ p) (h1 : p < n) : -64000 ≤ pcs x n p ∧ pcs x n p ≤ 64000 := by
 have k1 := cut_range (m := (x.length : Int)) hn (by omega) h0 (by omega)
 have k2 := cut_range (m := (x.length : Int)) (p := p + 1) hn (by omega) (by omega) (by omega)
 have b1 := pc_bounds hx k1.1 k1.2
 have b2 := pc_bounds hx k2.1 k2.2
 unfold pcs
 omega
theorem pcc_bound {x : List Int} {n p : Int} (hx : Win x) (hn : 1 ≤ n) (h0 : 0 ≤ p) (h1 : p < n) : -3120000 ≤ pcc x n p ∧ pcc x n p ≤ 3120000 := by
 have k1 := cut_range (m := (x.length : Int)) hn (by omega) h0 (by omega)
 have k2 := cut_range (m := (x.length : Int)) (p := p + 1) hn (by omega) (by omega) (by omega)
 have b0 := pcs_bound hx hn h0 h1
 have b1 := pc_bounds hx (i := x.length) (by omega) (by omega)
 have x1 := hx.hi
 rw [psum_all] at b1
 have q1 := prod_bound (a := (x.length : Int)) (b := pcs x n p) (A := 32) (B := 64000) (by omega) (by omega) (by omega) (by omega)
 have q2 := prod_bound (a := cut x.length n (p + 1) - cut x.length n p) (b := x.sum) (A := 32) (B := 32000) (by omega) (by omega) (by omega) (by omega)
 unfold pcc
 omega

theorem sg_term {f : Int → Int} : ∀ {n : Nat}, (∀ i : Int, 0 ≤ i → i < n → 0 ≤ f i) → ∀ p : Int, 0 ≤ p → p < n → f p ≤ sg f n
 | 0, _, p, h0, h1 => by omega
 | n + 1, h, p, h0, h1 => by
  have nn := sg_nonneg (n := n) fun i i0 i1 => h i i0 (by omega)
  have hn := h n (by omega) (by omega)
  rw [sg]
  by_cases c : p = n
  · subst c; omega
  · have := sg_term (n := n) (fun i i0 i1 => h i i0 (by omega)) p h0 (by omega)
    omega
/-- A piece has one of two lengths. -/
theorem two_lens {m n : Nat} {p : Int} (hm : m ≤ 32) (hn : 1 ≤ n) (hn2 : n ≤ 8) (hn3 : n ≤ m) (h0 : 0 ≤ p) (h1 : p < (n : Int)) : cut m n (p + 1) - cut m n p = ((m / n : Nat) : Int) ∨ cut m n (p + 1) - cut m n p = ((m / n : Nat) : Int) + 1 := by
 obtain ⟨q, rfl⟩ : ∃ q : Nat, p = q := ⟨p.toNat, by omega⟩
 have f := len_fin ⟨m, by omega⟩ ⟨n, by omega⟩ ⟨q, by omega⟩ hn (by simp only []; omega) hn3
 simp only [] at f
 have e1 : cut (m : Int) n ((q : Int) + 1) = (((q + 1) * m / n : Nat) : Int) := by
  unfold cut
  have : ((q : Int) + 1) * m = (((q + 1) * m : Nat) : Int) := by simp
  rw [this]; rfl
 have e2 : cut (m : Int) n (q : Int) = ((q * m / n : Nat) : Int) := by
  unfold cut
  have : (q : Int) * m = ((q * m : Nat) : Int) := by simp
  rw [this]; rfl
 have mono : q * m / n ≤ (q + 1) * m / n := Nat.div_le_div_right (Nat.mul_le_mul_right m (by omega))
 rw [e1, e2]
 generalize (q + 1) * m / n = c1 at f mono ⊢
 generalize q * m / n = c0 at f mono ⊢
 generalize m / n = a at f ⊢
 omega

/-! The greatest common divisor. -/
theorem gcd_step (m n : Nat) (h : n ≠ 0) : Nat.gcd n (m % n) = Nat.gcd m n := by
 rw [Nat.gcd_comm m n, Nat.gcd_rec n m, Nat.gcd_comm]
theorem tmod_nat (m n : Nat) : (m : Int).tmod n = ((m % n : Nat) : Int) := by
 rw [Int.tmod_eq_emod_of_nonneg (by omega)]; rfl
theorem ra_divisor (m n : Nat) : Gives (fun k => T_ratio_divisor k m n) (fun r => r = (Nat.gcd m n : Nat)) := by
 refine Gives.step ?_
 simp only [T_ratio_divisor]
 refine Gives.bind (Q := fun r => r = ((Nat.gcd m n : Nat) : Int)) ?_ fun r hr => Gives.now hr
 refine Gives.loop (fun s => ∃ a b : Nat, s = ((a : Int), (b : Int)) ∧ Nat.gcd a b = Nat.gcd m n) (fun s => s.2.toNat) ?_ ⟨m, n, rfl, rfl⟩
 intro s ⟨a, b, hs, hg⟩
 subst hs
 unfold T_ratio_divisor_l1
 simp only []
 by_cases c : b = 0
 · subst c
   refine Gives.neg (by simp) (Gives.now ?_)
   rw [← hg]; simp
 · refine Gives.pos (by simp; omega) (Gives.pos (by omega) (Gives.now ⟨⟨b, a % b, by rw [tmod_nat], by rw [gcd_step a b c, hg]⟩, ?_⟩))
   simp only [tmod_nat]
   have := Nat.mod_lt a (show 0 < b by omega)
   omega
theorem ra_common (m n : Nat) : Gives (fun k => T_ref01_common k m n) (fun r => r = (Nat.gcd m n : Nat)) := by
 refine Gives.step ?_
 simp only [T_ref01_common]
 refine Gives.bind (Q := fun r => r = ((Nat.gcd m n : Nat) : Int)) ?_ fun r hr => Gives.now hr
 refine Gives.loop (fun s => ∃ a b : Nat, s = ((a : Int), (b : Int)) ∧ Nat.gcd a b = Nat.gcd m n) (fun s => s.2.toNat) ?_ ⟨m, n, rfl, rfl⟩
 intro s ⟨a, b, hs, hg⟩
 subst hs
 unfold T_ref01_common_l1
 simp only []
 by_cases c : b = 0
 · subst c
   refine Gives.neg (by simp) (Gives.now ?_)
   rw [← hg]; simp
 · refine Gives.pos (by omega) (Gives.pos (by omega) (Gives.now ⟨⟨b, a % b, by rw [tmod_nat], by rw [gcd_step a b c, hg]⟩, ?_⟩))
   simp only [tmod_nat]
   have := Nat.mod_lt a (show 0 < b by omega)
   omega
theorem tdiv_nat (m n : Nat) : (m : Int).tdiv n = ((m / n : Nat) : Int) := by
 rw [Int.tdiv_eq_ediv_of_nonneg (by omega)]; rfl
theorem ra_Make {m n : Nat} (hn : 0 < n) (h1 : m ≤ 2305843009213693952) (h2 : n ≤ 1152921504606846976) : Gives (fun k => T_ratio_Make k m n) (fun r => r = (((m / Nat.gcd m n : Nat) : Int), ((n / Nat.gcd m n : Nat) : Int), 0)) := by
 have g0 : 0 < Nat.gcd m n := Nat.gcd_pos_of_pos_right m hn
 have d1 : m / Nat.gcd m n ≤ m := Nat.div_le_self _ _
 have d2 : n / Nat.gcd m n ≤ n := Nat.div_le_self _ _
 have d3 : 0 < n / Nat.gcd m n := Nat.div_pos (Nat.gcd_le_right m hn) g0
 refine Gives.step ?_
 simp only [T_ratio_Make]
 refine Gives.neg (by simp; omega) (Gives.bind (ra_divisor m n) fun g hg => ?_)
 subst hg
 simp only [tdiv_nat]
 generalize m / Nat.gcd m n = qa at d1 ⊢
 generalize n / Nat.gcd m n = qb at d2 d3 ⊢
 rw [w64_id (x := (qa : Int)) (by omega) (by omega), w64_id (x := (qb : Int)) (by omega) (by omega)]
 refine Gives.pos (by omega) (Gives.bind (Q := fun _ => True) ?_ fun _ _ => Gives.neg (by simp; omega) (Gives.now rfl))
 refine Gives.step ?_
 simp only [T_ratio_within]
 exact Gives.now trivial

/-! Sums of ratios. -/
/-- p / q is T / M, in lowest terms. -/
structure Rep (p q T M : Nat) : Prop where
 pos : 0 < q
 cop : Nat.gcd p q = 1
 eq : p * M = T * q
theorem Rep.dvd {p q T M : Nat} (h : Rep p q T M) : q ∣ M := by
 have : q ∣ p * M := ⟨T, by rw [h.eq, Nat.mul_comm]⟩
 exact Nat.Coprime.dvd_of_dvd_mul_left (Nat.coprime_comm.1 h.cop) this
theorem Rep.le {p q T M : Nat} (h : Rep p q T M) (hM : 0 < M) : p ≤ T ∧ q ≤ M := by
 obtain ⟨m, hm⟩ := h.dvd
 have e := h.eq
 have hm0 : 0 < m := by
  rcases Nat.eq_zero_or_pos m with c | c
  · subst c; omega
  · exact c
 refine ⟨?_, Nat.le_of_dvd hM h.dvd⟩
 have : p * m = T := by
  have h1 : q * (p * m) = q * T := by
   rw [hm] at e
   calc q * (p * m) = p * (q * m) := by grind
    _ = T * q := e
    _ = q * T := Nat.mul_comm _ _
  exact Nat.eq_of_mul_eq_mul_left h.pos h1
 calc p = p * 1 := by omega
  _ ≤ p * m := Nat.mul_le_mul_left p hm0
  _ = T := this
theorem Rep.uniq {p q p' q' T M : Nat} (h : Rep p q T M) (k : Rep p' q' T M) (hM : 0 < M) : p = p' ∧ q = q' := by
 have e : p * q' = p' * q := by
  have h1 : M * (p * q') = M * (p' * q) := by
   calc M * (p * q') = (p * M) * q' := by grind
    _ = (T * q) * q' := by rw [h.eq]
    _ = (T * q') * q := by grind
    _ = (p' * M) * q := by rw [k.eq]
    _ = M * (p' * q) := by grind
  exact Nat.eq_of_mul_eq_mul_left hM h1
 have d1 : q ∣ q' := Nat.Coprime.dvd_of_dvd_mul_left (Nat.coprime_comm.1 h.cop) ⟨p', by rw [e, Nat.mul_comm]⟩
 have d2 : q' ∣ q := Nat.Coprime.dvd_of_dvd_mul_left (Nat.coprime_comm.1 k.cop) ⟨p, by rw [← e, Nat.mul_comm]⟩
 have eq : q = q' := Nat.dvd_antisymm d1 d2
 subst eq
 exact ⟨Nat.eq_of_mul_eq_mul_right h.pos e, rfl⟩
theorem Rep.make {m n w : Nat} (hn : 0 < n) : Rep (m / Nat.gcd m n) (n / Nat.gcd m n) (m * w) (n * w) := by
 have g0 : 0 < Nat.gcd m n := Nat.gcd_pos_of_pos_right m hn
 refine ⟨Nat.div_pos (Nat.gcd_le_right m hn) g0, by rw [Nat.gcd_div (Nat.gcd_dvd_left m n) (Nat.gcd_dvd_right m n), Nat.div_self g0], ?_⟩
 obtain ⟨a, ha⟩ := Nat.gcd_dvd_left m n
 obtain ⟨b, hb⟩ := Nat.gcd_dvd_right m n
 generalize Nat.gcd m n = g at ha hb g0
 subst ha hb
 rw [Nat.mul_div_cancel_left _ g0, Nat.mul_div_cancel_left _ g0]
 grind
/-- The sum of two, as the function makes it. -/
theorem Rep.add {a b c d T U M : Nat} (h : Rep a b T M) (k : Rep c d U M) (hM : 0 < M) :
 let g := Nat.gcd b d
 let t := a * (d / g) + c * (b / g)
 let e := Nat.gcd t g
 Rep (t / e) (b / g * (d / e)) (T + U) M ∧ t ≤ T + U ∧ b / g * (d / e) ≤ M := by
 intro g t e
 have g0 : 0 < g := Nat.gcd_pos_of_pos_right b k.pos
 obtain ⟨B, hB⟩ : g ∣ b := Nat.gcd_dvd_left b d
 obtain ⟨D, hD⟩ : g ∣ d := Nat.gcd_dvd_right b d
 have eB : b / g = B := by rw [hB, Nat.mul_div_cancel_left _ g0]
 have eD : d / g = D := by rw [hD, Nat.mul_div_cancel_left _ g0]
 have cBD : Nat.gcd B D = 1 := by
  have := Nat.gcd_div (Nat.gcd_dvd_left b d) (Nat.gcd_dvd_right b d)
  rw [show Nat.gcd b d = g from rfl, eB, eD, Nat.div_self g0] at this
  exact this
 have ht : t = a * D + c * B := by show a * (d / g) + c * (b / g) = _; rw [eB, eD]
 have e0 : 0 < e := Nat.gcd_pos_of_pos_right t g0
 obtain ⟨t', ht'⟩ : e ∣ t := Nat.gcd_dvd_left t g
 obtain ⟨g', hg'⟩ : e ∣ g := Nat.gcd_dvd_right t g
 have et : t / e = t' := by rw [ht', Nat.mul_div_cancel_left _ e0]
 have ed : d / e = g' * D := by
  rw [hD, hg', Nat.mul_assoc, Nat.mul_div_cancel_left _ e0]
 have B0 : 0 < B := by
  rcases Nat.eq_zero_or_pos B with c | c
  · have := h.pos; subst c; omega
  · exact c
 have D0 : 0 < D := by
  rcases Nat.eq_zero_or_pos D with c | c
  · have := k.pos; subst c; omega
  · exact c
 have g'0 : 0 < g' := by
  rcases Nat.eq_zero_or_pos g' with c | c
  · subst c; omega
  · exact c
 have c1 : Nat.gcd t' g' = 1 := by
  have := Nat.gcd_div (Nat.gcd_dvd_left t g) (Nat.gcd_dvd_right t g)
  rw [show Nat.gcd t g = e from rfl, et, Nat.div_self e0] at this
  have e2 : g / e = g' := by rw [hg', Nat.mul_div_cancel_left _ e0]
  rwa [e2] at this
 have caB : Nat.Coprime a B := Nat.Coprime.coprime_dvd_right ⟨g, by rw [hB, Nat.mul_comm]⟩ h.cop
 have ccD : Nat.Coprime c D := Nat.Coprime.coprime_dvd_right ⟨g, by rw [hD, Nat.mul_comm]⟩ k.cop
 have ctB : Nat.Coprime t B := by
  show Nat.gcd t B = 1
  rw [ht, Nat.gcd_add_mul_right_left]
  exact Nat.Coprime.mul_left caB (Nat.coprime_comm.1 cBD)
 have ctD : Nat.Coprime t D := by
  show Nat.gcd t D = 1
  rw [ht, Nat.gcd_mul_right_add_left]
  exact Nat.Coprime.mul_left ccD cBD
 have td : t' ∣ t := ⟨e, by rw [ht', Nat.mul_comm]⟩
 have c2 : Nat.Coprime t' B := Nat.Coprime.coprime_dvd_left td ctB
 have c3 : Nat.Coprime t' D := Nat.Coprime.coprime_dvd_left td ctD
 have main : t * M = (T + U) * (g * B * D) := by
  have e1 : a * M = T * (g * B) := by rw [← hB]; exact h.eq
  have e2 : c * M = U * (g * D) := by rw [← hD]; exact k.eq
  calc t * M = (a * M) * D + (c * M) * B := by rw [ht]; grind
   _ = T * (g * B) * D + U * (g * D) * B := by rw [e1, e2]
   _ = (T + U) * (g * B * D) := by grind
 have lcm : g * B * D ∣ M := by
  have h1 : b ∣ M := h.dvd
  have h2 : d ∣ M := k.dvd
  have : Nat.lcm b d ∣ M := Nat.lcm_dvd h1 h2
  have e3 : Nat.lcm b d = g * B * D := by
   show b * d / g = _
   rw [hD, ← Nat.mul_assoc, Nat.mul_comm b g, Nat.mul_assoc, Nat.mul_div_cancel_left _ g0, hB]
  rwa [e3] at this
 obtain ⟨w, hw⟩ := lcm
 have w0 : 0 < w := by
  rcases Nat.eq_zero_or_pos w with c | c
  · subst c; omega
  · exact c
 have L0 : 0 < g * B * D := Nat.mul_pos (Nat.mul_pos g0 B0) D0
 rw [et, eB, ed]
 refine ⟨⟨Nat.mul_pos B0 (Nat.mul_pos g'0 D0), Nat.Coprime.mul_right c2 (Nat.Coprime.mul_right c1 c3), ?_⟩, ?_, ?_⟩
 · have h1 : e * (t' * M) = e * ((T + U) * (B * (g' * D))) := by
    calc e * (t' * M) = t * M := by rw [ht']; grind
     _ = (T + U) * (g * B * D) := main
     _ = e * ((T + U) * (B * (g' * D))) := by rw [hg']; grind
   exact Nat.eq_of_mul_eq_mul_left e0 h1
 · have h1 : (g * B * D) * (t * w) = (g * B * D) * (T + U) := by
    calc (g * B * D) * (t * w) = t * (g * B * D * w) := by grind
     _ = t * M := by rw [← hw]
     _ = (T + U) * (g * B * D) := main
     _ = _ := Nat.mul_comm _ _
   have h2 := Nat.eq_of_mul_eq_mul_left L0 h1
   calc t = t * 1 := by omega
    _ ≤ t * w := Nat.mul_le_mul_left t w0
    _ = T + U := h2
 · have : B * (g' * D) ∣ M := by
    refine ⟨e * w, ?_⟩
    rw [hw, hg']; grind
   exact Nat.le_of_dvd hM this
/-! Words of 64 bits. -/

theorem r01_valid {p q : Nat} (h : Nat.gcd p q = 1) (h0 : 0 < q) (h1 : p ≤ 2305843009213693952) (h2 : q ≤ 1152921504606846976) : Gives (fun k => T_ref01_Valid k p q) (· = true) := by
 refine Gives.step ?_
 simp only [T_ref01_Valid]
 refine Gives.bind (Q := fun b => b = true) ?_ fun b hb => Gives.now hb
 refine Gives.pos (by simp; omega) (Gives.bind (ra_common p q) fun g hg => Gives.now ?_)
 rw [hg, h]; rfl

theorem r01_make {m n : Nat} (hn : 0 < n) (h1 : m ≤ 2305843009213693952) (h2 : n ≤ 1152921504606846976) : Gives (fun k => T_ref01_Make k m n) (fun r => ∃ p q : Nat, r = ((p : Int), (q : Int), 0) ∧ Rep p q m n) := by
 have R := Rep.make (m := m) (n := n) (w := 1) hn
 rw [Nat.mul_one, Nat.mul_one] at R
 have l := R.le hn
 have g0 : 0 < Nat.gcd m n := Nat.gcd_pos_of_pos_right m hn
 refine Gives.step ?_
 simp only [T_ref01_Make]
 refine Gives.neg (by simp; omega) (Gives.bind (ra_common m n) fun g hg => ?_)
 subst hg
 simp only [tdiv_nat]
 generalize m / Nat.gcd m n = u at R l ⊢
 generalize n / Nat.gcd m n = v at R l ⊢
 rw [w64_id (x := (u : Int)) (by omega) (by omega), w64_id (x := (v : Int)) (by omega) (by omega)]
 refine Gives.pos (by omega) (Gives.bind (r01_valid R.cop R.pos (by omega) (by omega)) fun v hv => Gives.neg (by simp [hv]) (Gives.now ⟨_, _, rfl, R⟩))

/-! The order of ratios. -/
theorem ro_order : ∀ (n a b c d : Nat), b + d < n → 0 < b → 0 < d → a < 4611686018427387904 → c < 4611686018427387904 → b < 4611686018427387904 → d < 4611686018427387904 → Gives (fun k => T_ref01_order k a b c d) (fun r => (a * d < c * b ∧ r = -1) ∨ (a * d = c * b ∧ r = 0) ∨ (c * b < a * d ∧ r = 1))
 | 0, _, _, _, _, h, _, _, _, _, _, _ => by omega
 | n + 1, a, b, c, d, h, hb, hd, la, lc, lb, ld => by
  refine Gives.step ?_
  simp only [T_ref01_order, tdiv_nat, tmod_nat]
  have q1 : a / b ≤ a := Nat.div_le_self _ _
  have q2 : c / d ≤ c := Nat.div_le_self _ _
  have ea := Nat.div_add_mod a b
  have ec := Nat.div_add_mod c d
  have ra := Nat.mod_lt a hb
  have rc := Nat.mod_lt c hd
  have fin : ∀ (u v : Nat) (r : Int), (u < v ↔ a * d < c * b) → (u = v ↔ a * d = c * b) → ((u < v ∧ r = -1) ∨ (u = v ∧ r = 0) ∨ (v < u ∧ r = 1)) → (a * d < c * b ∧ r = -1) ∨ (a * d = c * b ∧ r = 0) ∨ (c * b < a * d ∧ r = 1) := by
   intro u v r h1 h2 h3
   rcases h3 with ⟨h, e⟩ | ⟨h, e⟩ | ⟨h, e⟩
   · exact Or.inl ⟨h1.1 h, e⟩
   · exact Or.inr (Or.inl ⟨h2.1 h, e⟩)
   · refine Or.inr (Or.inr ⟨?_, e⟩)
     have n1 : ¬ a * d < c * b := fun g => by have := h1.2 g; omega
     have n2 : ¬ a * d = c * b := fun g => by have := h2.2 g; omega
     omega
  generalize a / b = p at ea q1 ⊢
  generalize c / d = q at ec q2 ⊢
  generalize a % b = a' at ea ra ⊢
  generalize c % d = c' at ec rc ⊢
  rw [w64_id (x := (p : Int)) (by omega) (by omega), w64_id (x := (q : Int)) (by omega) (by omega)]
  have eA : a * d = p * (b * d) + a' * d := by rw [← ea]; grind
  have eC : c * b = q * (b * d) + c' * b := by rw [← ec]; grind
  have lA : a' * d < b * d := Nat.mul_lt_mul_of_pos_right ra hd
  have lC : c' * b < b * d := by rw [Nat.mul_comm b d]; exact Nat.mul_lt_mul_of_pos_right rc hb
  refine Gives.pos (by omega) (Gives.pos (by omega) (Gives.ite (fun cc => ?_) fun cc => ?_))
  · have ne : p ≠ q := by
     intro e; subst e; simp at cc
    refine Gives.ite (fun lt => Gives.now ?_) fun lt => Gives.now ?_
    · have : (p + 1) * (b * d) ≤ q * (b * d) := Nat.mul_le_mul_right _ (by omega)
      rw [Nat.add_mul] at this
      exact Or.inl ⟨by omega, rfl⟩
    · have : (q + 1) * (b * d) ≤ p * (b * d) := Nat.mul_le_mul_right _ (by omega)
      rw [Nat.add_mul] at this
      exact Or.inr (Or.inr ⟨by omega, rfl⟩)
  · have eq : p = q := by
     simp at cc; omega
    subst eq
    refine Gives.pos (by omega) (Gives.pos (by omega) (Gives.ite (fun z => Gives.now ?_) fun z => Gives.ite (fun z1 => Gives.now ?_) fun z1 => Gives.ite (fun z2 => Gives.now ?_) fun z2 => ?_))
    · simp at z
      obtain ⟨rfl, rfl⟩ := z
      exact Or.inr (Or.inl ⟨by omega, rfl⟩)
    · have e1 : a' = 0 := by omega
      subst e1
      simp at z
      have : 0 < c' * b := Nat.mul_pos (by omega) hb
      exact Or.inl ⟨by omega, rfl⟩
    · have e1 : c' = 0 := by omega
      subst e1
      have : 0 < a' * d := Nat.mul_pos (by omega) hd
      exact Or.inr (Or.inr ⟨by omega, rfl⟩)
    · refine Gives.bind (ro_order n d c' b a' (by omega) (by omega) (by omega) (by omega) (by omega) (by omega) (by omega)) fun r hr => Gives.now ?_
      rw [Nat.mul_comm d a', Nat.mul_comm b c'] at hr
      exact fin (a' * d) (c' * b) r (by omega) (by omega) hr
theorem ro_cmp {p q p' q' : Nat} (h : Nat.gcd p q = 1) (h0 : 0 < q) (h1 : p ≤ 2305843009213693952) (h2 : q ≤ 1152921504606846976) (g : Nat.gcd p' q' = 1) (g0 : 0 < q') (g1 : p' ≤ 2305843009213693952) (g2 : q' ≤ 1152921504606846976) :
 Gives (fun k => T_ref01_Cmp k p q p' q') (fun r => (p * q' < p' * q ∧ r = -1) ∨ (p * q' = p' * q ∧ r = 0) ∨ (p' * q < p * q' ∧ r = 1)) := by
 refine Gives.step ?_
 simp only [T_ref01_Cmp]
 refine Gives.bind (Q := fun r => r = false) ?_ fun r hr => ?_
 · refine Gives.bind (r01_valid h h0 h1 h2) fun v hv => Gives.neg (by simp [hv]) (Gives.bind (r01_valid g g0 g1 g2) fun w hw => Gives.now (by simp [hw]))
 · subst hr
   refine Gives.neg (by simp) (Gives.bind (ro_order (q + q' + 1) p q p' q' (by omega) h0 g0 (by omega) (by omega) (by omega) (by omega)) fun r hr => Gives.now hr)
theorem Rep.scale {p q T M : Nat} (h : Rep p q T M) (k : Nat) : Rep p q (T * k) (M * k) := ⟨h.pos, h.cop, by have := h.eq; grind⟩
theorem Rep.cmp {p q T M p' q' T' M' : Nat} (h : Rep p q T M) (k : Rep p' q' T' M') (hM : 0 < M) (hM' : 0 < M') (l : T * M' ≤ T' * M) : p * q' ≤ p' * q := by
 have e1 : (p * q') * (M * M') = (T * M') * (q * q') := by have := h.eq; grind
 have e2 : (p' * q) * (M * M') = (T' * M) * (q * q') := by have := k.eq; grind
 have : (p * q') * (M * M') ≤ (p' * q) * (M * M') := by rw [e1, e2]; exact Nat.mul_le_mul_right _ l
 exact Nat.le_of_mul_le_mul_right this (Nat.mul_pos hM hM')
theorem Rep.same {p q T M p' q' T' M' : Nat} (h : Rep p q T M) (k : Rep p' q' T' M') (hM : 0 < M) (hM' : 0 < M') (l : T * M' = T' * M) : p = p' ∧ q = q' := by
 have a := h.scale M'
 have b := k.scale M
 rw [l, Nat.mul_comm M M'] at a
 exact a.uniq b (Nat.mul_pos hM' hM)

/-! Errors of windows of any kind. -/
theorem Gives.get {α : Type} {f : Nat → Option α} {Q : α → Prop} (h : Gives f Q) : ∃ v, Gives f (· = v) ∧ Q v := by
 obtain ⟨r, h1, h2⟩ := h
 exact ⟨r, ⟨r, h1, rfl⟩, h2⟩
def smpB (xs : List Int) : Bool := xs.all fun v => decide (-1000 ≤ v ∧ v ≤ 1000)
theorem smpB_iff {xs : List Int} : smpB xs = true ↔ Smp xs := by
 unfold smpB Smp
 rw [List.all_eq_true]
 exact ⟨fun h v hv => by simpa using h v hv, fun h v hv => by simpa using h v hv⟩
theorem smp_of_rd {xs : List Int} (h : ∀ q, 0 ≤ q → q < (xs.length : Int) → -1000 ≤ rd xs q ∧ rd xs q ≤ 1000) : Smp xs := by
 intro v hv
 obtain ⟨i, hi, rfl⟩ := List.getElem_of_mem hv
 have e : rd xs (i : Int) = xs[i] := by unfold rd; rw [List.getD_eq_getElem?_getD]; simp [hi]
 rw [← e]
 exact h i (by omega) (by omega)
def lenB (xs : List Int) : Bool := decide (2 ≤ xs.length) && decide (xs.length ≤ 32)
/-- The first error of two windows and a band. -/
def errM (xs ys : List Int) (m : Int) : Int :=
 if (lenB xs && lenB ys) = true then if (smpB xs && smpB ys) = true then if (xs.length : Int) - ys.length ≤ m ∧ (ys.length : Int) - xs.length ≤ m then 0 else 8 else 12 else 8
theorem errM_win {xs ys : List Int} {m : Int} (hx : Win xs) (hy : Win ys) (h1 : (xs.length : Int) - ys.length ≤ m) (h2 : (ys.length : Int) - xs.length ≤ m) : errM xs ys m = 0 := by
 have a1 := hx.lo
 have a2 := hx.hi
 have b1 := hy.lo
 have b2 := hy.hi
 unfold errM
 rw [if_pos (by simp [lenB]; omega), if_pos (by rw [smpB_iff.2 hx.smp, smpB_iff.2 hy.smp]; rfl), if_pos ⟨h1, h2⟩]
theorem r12_samples {x : List Int} (hx : Win x) : Gives (fun k => T_ref12_Samples k x) (fun r => r = 0) := by
 have x2 := hx.hi
 refine Gives.step ?_
 simp only [T_ref12_Samples]
 refine Gives.bind (Q := fun r => r = .inl ()) ?_ fun r hr => by subst hr; exact Gives.now rfl
 refine Gives.loop (fun s => 0 ≤ s ∧ s ≤ (x.length : Int)) (fun s => ((x.length : Int) - s).toNat) ?_ ⟨by omega, by omega⟩
 intro s ⟨i1, i2⟩
 unfold T_ref12_Samples_l1
 refine Gives.ite (fun c => Gives.opt (at_rd i1 c) (Gives.bind (Q := fun _ => True) ?_ fun _ _ => ?_)) fun c => Gives.now rfl
 · refine Gives.step ?_
   simp only [T_ref04_Sample]
   exact Gives.now trivial
 · have h := hx.smp.rd s
   rw [w64_id (by omega) (by omega)]
   exact Gives.neg (by simp; omega) (Gives.now ⟨⟨by omega, by omega⟩, by omega⟩)
theorem r12_two {x y : List Int} (hx : Win x) (hy : Win y) (hl : x.length = y.length) : Gives (fun k => T_ref12_Two k x y 0) (fun r => r = 0) := by
 have x1 := hx.lo
 have x2 := hx.hi
 refine Gives.step ?_
 simp only [T_ref12_Two]
 refine Gives.neg (by simp; omega) (Gives.bind (Q := fun b => b = false) ?_ fun b hb => ?_)
 · exact Gives.bind (r12_samples hx) fun r hr => Gives.neg (by simp [hr]) (Gives.bind (r12_samples hy) fun r hr => Gives.now (by simp [hr]))
 · subst hb
   rw [← hl, Int.sub_self, w64_id (x := 0) (by omega) (by omega)]
   exact Gives.neg (by simp) (Gives.neg (by simp) (Gives.now rfl))

/-! The errors of chapter 12. -/
theorem r12_samplesG {x : List Int} (hl : x.length ≤ 1000) : Gives (fun k => T_ref12_Samples k x) (fun r => r = if smpB x = true then 0 else 12) := by
 refine Gives.step ?_
 simp only [T_ref12_Samples]
 refine Gives.bind (Q := fun r => (r = .inl () ∧ smpB x = true) ∨ (r = .inr () ∧ smpB x = false)) ?_ fun r hr => ?_
 · refine Gives.loop (fun s => 0 ≤ s ∧ s ≤ (x.length : Int) ∧ ∀ q, 0 ≤ q → q < s → -1000 ≤ rd x q ∧ rd x q ≤ 1000) (fun s => ((x.length : Int) - s).toNat) ?_ ⟨by omega, by omega, fun q h1 h2 => by omega⟩
   intro s ⟨i1, i2, i3⟩
   unfold T_ref12_Samples_l1
   refine Gives.ite (fun c => Gives.opt (at_rd i1 c) (Gives.bind (Q := fun _ => True) ?_ fun _ _ => Gives.ite (fun b => Gives.now (.inr ⟨rfl, ?_⟩)) fun b => ?_)) fun c => Gives.now (.inl ⟨rfl, smpB_iff.2 (smp_of_rd fun q h1 h2 => i3 q h1 (by omega))⟩)
   · refine Gives.step ?_
     simp only [T_ref04_Sample]
     exact Gives.now trivial
   · rcases e : smpB x with _ | _
     · rfl
     · have := (smpB_iff.1 e).rd s
       simp at b
       omega
   · simp at b
     rw [w64_id (by omega) (by omega)]
     refine Gives.now ⟨⟨by omega, by omega, fun q h1 h2 => ?_⟩, by omega⟩
     by_cases e : q = s
     · subst e; omega
     · exact i3 q h1 (by omega)
 · rcases hr with ⟨rfl, h⟩ | ⟨rfl, h⟩
   · exact Gives.now (by rw [h]; rfl)
   · exact Gives.now (by rw [h]; rfl)
theorem r12_windowG {x : List Int} (hl : x.length ≤ 1000) : Gives (fun k => T_ref12_Window k x) (fun r => r = errM x x 0) := by
 refine Gives.step ?_
 simp only [T_ref12_Window]
 refine Gives.ite (fun c => Gives.now ?_) fun c => Gives.bind (r12_samplesG hl) fun r hr => Gives.now ?_
 · unfold errM
   rw [if_neg (by simp [lenB] at c ⊢; omega)]
 · unfold errM
   rw [if_pos (by simp [lenB] at c ⊢; omega), hr, Bool.and_self]
   split
   · rw [if_pos (by omega)]
   · rfl
/-! Chapter 18 of the document. -/
theorem f18_starts {m n : Nat} (hm : 2 ≤ m) (hm2 : m ≤ 32) (hn : 1 ≤ n) (hn2 : n ≤ 8) (hn3 : n ≤ m) : Gives (fun k => T_ref18_Starts k m n) (fun r => r.2 = 0 ∧ r.1.length = n + 1 ∧ ∀ p, 0 ≤ p → p ≤ (n : Int) → rd r.1 p = cut m n p) := by
 refine Gives.step ?_
 simp only [T_ref18_Starts]
 refine Gives.neg (by simp; omega) (Gives.neg (by simp; omega) (Gives.bind (Q := fun r => r.2.length = r.1 ∧ r.1 = n + 1 ∧ ∀ p, 0 ≤ p → p ≤ (n : Int) → rd r.2 p = cut m n p) ?_ fun r hr => ?_))
 · refine Gives.loop (fun s => 0 ≤ s.2.1 ∧ s.2.1 ≤ (n : Int) + 1 ∧ (s.1 : Int) = s.2.1 ∧ s.2.2.length = s.1 ∧ ∀ p, 0 ≤ p → p < s.2.1 → rd s.2.2 p = cut m n p) (fun s => ((n : Int) + 1 - s.2.1).toNat) ?_ ⟨by simp only []; omega, by simp only []; omega, rfl, rfl, fun p h1 h2 => by simp only at h2; omega⟩
   intro ⟨l, i, o⟩ ⟨i0, i1, i2, i3, i4⟩
   simp only at i0 i1 i2 i3 i4
   unfold T_ref18_Starts_l1
   simp only []
   refine Gives.ite (fun c => Gives.pos (by omega) (Gives.pos (by unfold LIM; omega) ?_)) fun c => Gives.now ⟨i3, by simp only []; omega, fun p h1 h2 => i4 p h1 (by omega)⟩
   rw [cut_w (m := (m : Int)) (n := (n : Int)) (p := i) (by omega) (by omega) (by omega) (by omega) i0 c, w64_id (x := i + 1) (by omega) (by omega), drop_take_len i3]
   refine Gives.now ⟨⟨by simp only []; omega, by simp only []; omega, by simp only []; omega, by simp [i3], fun p h1 h2 => ?_⟩, by simp only []; omega⟩
   simp only at h2 ⊢
   by_cases e : p = i
   · subst e; rw [rd_app_1 h1 (by omega)]
   · rw [rd_app_l (by omega)]; exact i4 p h1 (by omega)
 · rw [drop_take_len hr.1]
   exact Gives.now ⟨rfl, by rw [hr.1]; exact hr.2.1, hr.2.2⟩
theorem f18_fold {x S : List Int} {n : Nat} (hx : Win x) (hn : 1 ≤ n) (hn2 : n ≤ 8) (hS : S.length = n + 1) (hv : ∀ p, 0 ≤ p → p ≤ (n : Int) → rd S p = cut x.length n p) : Gives (fun k => T_ref18_Fold k x S) (fun r => r.length = n ∧ ∀ p, 0 ≤ p → p < (n : Int) → rd r p = pcs x n p) := by
 have x2 := hx.hi
 refine Gives.step ?_
 simp only [T_ref18_Fold]
 refine Gives.bind (Q := fun r => r.2.length = r.1 ∧ r.1 = n ∧ ∀ p, 0 ≤ p → p < (n : Int) → rd r.2 p = pcs x n p) ?_ fun r hr => ?_
 · refine Gives.loop (fun s => 1 ≤ s.2.1 ∧ s.2.1 ≤ (n : Int) + 1 ∧ (s.1 : Int) = s.2.1 - 1 ∧ s.2.2.length = s.1 ∧ ∀ p, 0 ≤ p → p < s.2.1 - 1 → rd s.2.2 p = pcs x n p) (fun s => ((n : Int) + 1 - s.2.1).toNat) ?_ ⟨by simp only []; omega, by simp only []; omega, rfl, rfl, fun p h1 h2 => by simp only at h2; omega⟩
   intro ⟨l, i, o⟩ ⟨i0, i1, i2, i3, i4⟩
   simp only at i0 i1 i2 i3 i4
   unfold T_ref18_Fold_l2
   simp only []
   rw [hS, w64_id (x := i - 1) (by omega) (by omega)]
   refine Gives.ite (fun c => Gives.opt (at_rd (by omega) (by omega)) ?_) fun c => Gives.now ⟨i3, by simp only []; omega, fun p h1 h2 => i4 p h1 (by omega)⟩
   have k1 := cut_range (m := (x.length : Int)) (n := (n : Int)) (p := i - 1) (by omega) (by omega) (by omega) (by omega)
   have k2 := cut_range (m := (x.length : Int)) (n := (n : Int)) (p := i) (by omega) (by omega) (by omega) (by omega)
   have k3 := cut_mono (m := (x.length : Int)) (n := (n : Int)) (p := i - 1) (q := i) (by omega) (by omega) (by omega)
   have s1 := hv (i - 1) (by omega) (by omega)
   have s2 := hv i (by omega) (by omega)
   have b1 := pc_bounds hx (i := cut x.length n (i - 1)) k1.1 k1.2
   rw [s1]
   refine Gives.bind (Q := fun r => r = pcs x n (i - 1)) ?_ fun r hr => ?_
   · refine Gives.loop (fun t => cut x.length n (i - 1) ≤ t.2 ∧ t.2 ≤ cut x.length n i ∧ t.1 = psum x t.2 - psum x (cut x.length n (i - 1))) (fun t => (cut x.length n i - t.2).toNat) ?_ ⟨by simp only []; omega, by simp only []; omega, by simp only []; omega⟩
     intro ⟨a, j⟩ ⟨j0, j1, j2⟩
     simp only at j0 j1 j2
     unfold T_ref18_Fold_l1
     simp only []
     refine Gives.opt (at_rd (by omega) (by omega)) ?_
     rw [s2]
     refine Gives.ite (fun cc => Gives.opt (at_rd (by omega) (by omega)) ?_) fun cc => Gives.now ?_
     · have ex := psum_succ (x := x) (i := j) (by omega) (by omega)
       have bj := pc_bounds hx (i := j) (by omega) (by omega)
       have sj := hx.smp.rd j
       rw [w64_id (x := a + rd x j) (by omega) (by omega), w64_id (x := j + 1) (by omega) (by omega)]
       exact Gives.now ⟨⟨by simp only []; omega, by simp only []; omega, by simp only []; omega⟩, by simp only []; omega⟩
     · have : j = cut x.length n i := by omega
       subst this
       unfold pcs
       rw [j2, show i - 1 + 1 = i by omega]
   subst hr
   rw [w64_id (x := i + 1) (by omega) (by omega), drop_take_len i3]
   refine Gives.pos (by unfold LIM; omega) (Gives.now ⟨⟨by simp only []; omega, by simp only []; omega, by simp only []; omega, by simp [i3], fun p h1 h2 => ?_⟩, by simp only []; omega⟩)
   simp only at h2 ⊢
   by_cases e : p = i - 1
   · rw [rd_app_1 h1 (by omega), e]
   · rw [rd_app_l (by omega)]; exact i4 p h1 (by omega)
 · rw [drop_take_len hr.1]
   exact Gives.now ⟨by rw [hr.1]; exact hr.2.1, hr.2.2⟩

/-! Chapter 18 of the document: centred sums, and all errors. -/
theorem f18_foldB {x S : List Int} {n : Nat} (x2 : x.length ≤ 32) (hb : ∀ i, 0 ≤ i → i ≤ (x.length : Int) → -4096000 ≤ psum x i ∧ psum x i ≤ 4096000) (hr : ∀ i, -128000 ≤ rd x i ∧ rd x i ≤ 128000) (hn : 1 ≤ n) (hn2 : n ≤ 8) (hS : S.length = n + 1) (hv : ∀ p, 0 ≤ p → p ≤ (n : Int) → rd S p = cut x.length n p) : Gives (fun k => T_ref18_Fold k x S) (fun r => r.length = n ∧ ∀ p, 0 ≤ p → p < (n : Int) → rd r p = pcs x n p) := by
 refine Gives.step ?_
 simp only [T_ref18_Fold]
 refine Gives.bind (Q := fun r => r.2.length = r.1 ∧ r.1 = n ∧ ∀ p, 0 ≤ p → p < (n : Int) → rd r.2 p = pcs x n p) ?_ fun r hr => ?_
 · refine Gives.loop (fun s => 1 ≤ s.2.1 ∧ s.2.1 ≤ (n : Int) + 1 ∧ (s.1 : Int) = s.2.1 - 1 ∧ s.2.2.length = s.1 ∧ ∀ p, 0 ≤ p → p < s.2.1 - 1 → rd s.2.2 p = pcs x n p) (fun s => ((n : Int) + 1 - s.2.1).toNat) ?_ ⟨by simp only []; omega, by simp only []; omega, rfl, rfl, fun p h1 h2 => by simp only at h2; omega⟩
   intro ⟨l, i, o⟩ ⟨i0, i1, i2, i3, i4⟩
   simp only at i0 i1 i2 i3 i4
   unfold T_ref18_Fold_l2
   simp only []
   rw [hS, w64_id (x := i - 1) (by omega) (by omega)]
   refine Gives.ite (fun c => Gives.opt (at_rd (by omega) (by omega)) ?_) fun c => Gives.now ⟨i3, by simp only []; omega, fun p h1 h2 => i4 p h1 (by omega)⟩
   have k1 := cut_range (m := (x.length : Int)) (n := (n : Int)) (p := i - 1) (by omega) (by omega) (by omega) (by omega)
   have k2 := cut_range (m := (x.length : Int)) (n := (n : Int)) (p := i) (by omega) (by omega) (by omega) (by omega)
   have k3 := cut_mono (m := (x.length : Int)) (n := (n : Int)) (p := i - 1) (q := i) (by omega) (by omega) (by omega)
   have s1 := hv (i - 1) (by omega) (by omega)
   have s2 := hv i (by omega) (by omega)
   have b1 := hb (cut x.length n (i - 1)) k1.1 k1.2
   rw [s1]
   refine Gives.bind (Q := fun r => r = pcs x n (i - 1)) ?_ fun r hr => ?_
   · refine Gives.loop (fun t => cut x.length n (i - 1) ≤ t.2 ∧ t.2 ≤ cut x.length n i ∧ t.1 = psum x t.2 - psum x (cut x.length n (i - 1))) (fun t => (cut x.length n i - t.2).toNat) ?_ ⟨by simp only []; omega, by simp only []; omega, by simp only []; omega⟩
     intro ⟨a, j⟩ ⟨j0, j1, j2⟩
     simp only at j0 j1 j2
     unfold T_ref18_Fold_l1
     simp only []
     refine Gives.opt (at_rd (by omega) (by omega)) ?_
     rw [s2]
     refine Gives.ite (fun cc => Gives.opt (at_rd (by omega) (by omega)) ?_) fun cc => Gives.now ?_
     · have ex := psum_succ (x := x) (i := j) (by omega) (by omega)
       have bj := hb j (by omega) (by omega)
       have sj := hr j
       rw [w64_id (x := a + rd x j) (by omega) (by omega), w64_id (x := j + 1) (by omega) (by omega)]
       exact Gives.now ⟨⟨by simp only []; omega, by simp only []; omega, by simp only []; omega⟩, by simp only []; omega⟩
     · have : j = cut x.length n i := by omega
       subst this
       unfold pcs
       rw [j2, show i - 1 + 1 = i by omega]
   subst hr
   rw [w64_id (x := i + 1) (by omega) (by omega), drop_take_len i3]
   refine Gives.pos (by unfold LIM; omega) (Gives.now ⟨⟨by simp only []; omega, by simp only []; omega, by simp only []; omega, by simp [i3], fun p h1 h2 => ?_⟩, by simp only []; omega⟩)
   simp only at h2 ⊢
   by_cases e : p = i - 1
   · rw [rd_app_1 h1 (by omega), e]
   · rw [rd_app_l (by omega)]; exact i4 p h1 (by omega)
 · rw [drop_take_len hr.1]
   exact Gives.now ⟨by rw [hr.1]; exact hr.2.1, hr.2.2⟩
/-- The centred samples. -/
def Cent (x c : List Int) : Prop := c.length = x.length ∧ ∀ i, 0 ≤ i → i < (x.length : Int) → rd c i = (x.length : Int) * rd x i - x.sum
theorem cent_psum {x c : List Int} (h : Cent x c) : ∀ n : Nat, n ≤ x.length → psum c n = (x.length : Int) * psum x n - n * x.sum
 | 0, _ => by
  have a := psum_zero c
  have b := psum_zero x
  simp only [Int.natCast_zero] at *
  rw [a, b]; simp
 | n + 1, hn => by
  have ih := cent_psum h n (by omega)
  have e1 := psum_succ (x := c) (i := n) (by omega) (by rw [h.1]; omega)
  have e2 := psum_succ (x := x) (i := n) (by omega) (by omega)
  have e3 := h.2 n (by omega) (by omega)
  rw [Int.natCast_add, Int.natCast_one, e1, e2, e3, ih]
  grind
theorem cent_pcs {x c : List Int} {n p : Int} (h : Cent x c) (hn : 1 ≤ n) (h0 : 0 ≤ p) (h1 : p < n) : pcs c n p = pcc x n p := by
 have k1 := cut_range (m := (x.length : Int)) hn (by omega) h0 (by omega)
 have k2 := cut_range (m := (x.length : Int)) (p := p + 1) hn (by omega) (by omega) (by omega)
 have q : ∀ i : Int, 0 ≤ i → i ≤ (x.length : Int) → psum c i = (x.length : Int) * psum x i - i * x.sum := fun i h0 h1 => by
  have := cent_psum h i.toNat (by omega)
  rwa [Int.toNat_of_nonneg h0] at this
 unfold pcc pcs
 rw [h.1, q _ k1.1 k1.2, q _ k2.1 k2.2]
 grind
theorem cent_bd {x c : List Int} (hx : Win x) (h : Cent x c) : (∀ i, 0 ≤ i → i ≤ (c.length : Int) → -4096000 ≤ psum c i ∧ psum c i ≤ 4096000) ∧ ∀ i, -128000 ≤ rd c i ∧ rd c i ≤ 128000 := by
 have x2 := hx.hi
 have b := pc_bounds hx (i := x.length) (by omega) (by omega)
 rw [psum_all] at b
 refine ⟨fun i h0 h1 => ?_, fun i => ?_⟩
 · have := cent_psum h i.toNat (by have := h.1; omega)
   rw [Int.toNat_of_nonneg h0] at this
   have p := pc_bounds hx (i := i) h0 (by have := h.1; omega)
   have e1 := prod_bound (a := (x.length : Int)) (b := psum x i) (A := 32) (B := 32000) (by omega) (by omega) (by omega) (by omega)
   have e2 := prod_bound (a := i) (b := x.sum) (A := 32) (B := 32000) (by omega) (by have := h.1; omega) (by omega) (by omega)
   omega
 · by_cases k : 0 ≤ i ∧ i < (x.length : Int)
   · rw [h.2 i k.1 k.2]
     have s := hx.smp.rd i
     have e1 := prod_bound (a := (x.length : Int)) (b := rd x i) (A := 32) (B := 1000) (by omega) (by omega) (by omega) (by omega)
     omega
   · by_cases k2 : i < 0
     · have e0 : rd c i = rd c 0 := by unfold rd; rw [show i.toNat = 0 by omega]; rfl
       have x1 := hx.lo
       rw [e0, h.2 0 (by omega) (by omega)]
       have s := hx.smp.rd 0
       have e1 := prod_bound (a := (x.length : Int)) (b := rd x 0) (A := 32) (B := 1000) (by omega) (by omega) (by omega) (by omega)
       omega
     · unfold rd
       rw [List.getD_eq_getElem?_getD, List.getElem?_eq_none (by have := h.1; omega)]
       simp
theorem rf_centred {x : List Int} (hx : Win x) : Gives (fun k => T_ref13_Centred k x) (fun r => r.2 = 0 ∧ Cent x r.1) := by
 have x1 := hx.lo
 have x2 := hx.hi
 have bs := pc_bounds hx (i := x.length) (by omega) (by omega)
 rw [psum_all] at bs
 refine Gives.step ?_
 simp only [T_ref13_Centred]
 refine Gives.bind (r12_windowG (x := x) (by omega)) fun e he => ?_
 rw [errM_win hx hx (by omega) (by omega)] at he
 subst he
 refine Gives.neg (by simp) (Gives.bind (Q := fun r => r = x.sum) ?_ fun s hs => Gives.bind (Q := fun r => r.2.length = r.1 ∧ r.1 = x.length ∧ ∀ p, 0 ≤ p → p < (x.length : Int) → rd r.2 p = (x.length : Int) * rd x p - x.sum) ?_ fun r hr => ?_)
 · refine Gives.loop (fun s => 0 ≤ s.2 ∧ s.2 ≤ (x.length : Int) ∧ s.1 = psum x s.2) (fun s => ((x.length : Int) - s.2).toNat) ?_ ⟨by simp only []; omega, by simp only []; omega, by simp only [psum_zero]⟩
   intro ⟨a, i⟩ ⟨i0, i1, i2⟩
   simp only at i0 i1 i2
   unfold T_ref13_Centred_l1
   simp only []
   refine Gives.ite (fun c => Gives.opt (at_rd i0 c) ?_) fun c => Gives.now ?_
   · have ex := psum_succ (x := x) (i := i) (by omega) (by omega)
     have bj := pc_bounds hx (i := i) (by omega) (by omega)
     have sj := hx.smp.rd i
     rw [w64_id (x := a + rd x i) (by omega) (by omega), w64_id (x := i + 1) (by omega) (by omega)]
     exact Gives.now ⟨⟨by simp only []; omega, by simp only []; omega, by simp only []; omega⟩, by simp only []; omega⟩
   · rw [i2, ← psum_all (x := x), show i = (x.length : Int) by omega]
 · subst hs
   refine Gives.loop (fun s => 0 ≤ s.2.1 ∧ s.2.1 ≤ (x.length : Int) ∧ (s.1 : Int) = s.2.1 ∧ s.2.2.length = s.1 ∧ ∀ p, 0 ≤ p → p < s.2.1 → rd s.2.2 p = (x.length : Int) * rd x p - x.sum) (fun s => ((x.length : Int) - s.2.1).toNat) ?_ ⟨by simp only []; omega, by simp only []; omega, rfl, rfl, fun p h1 h2 => by simp only at h2; omega⟩
   intro ⟨l, i, o⟩ ⟨i0, i1, i2, i3, i4⟩
   simp only at i0 i1 i2 i3 i4
   unfold T_ref13_Centred_l2
   simp only []
   refine Gives.ite (fun c => Gives.opt (at_rd i0 c) (Gives.pos (by unfold LIM; omega) ?_)) fun c => Gives.now ⟨i3, by simp only []; omega, fun p h1 h2 => i4 p h1 (by omega)⟩
   have sj := hx.smp.rd i
   have e1 := prod_bound (a := (x.length : Int)) (b := rd x i) (A := 32) (B := 1000) (by omega) (by omega) (by omega) (by omega)
   rw [w64_id (x := i + 1) (by omega) (by omega), w64_id (x := (x.length : Int) * rd x i) (by omega) (by omega), w64_id (x := (x.length : Int) * rd x i - x.sum) (by omega) (by omega), drop_take_len i3]
   refine Gives.now ⟨⟨by simp only []; omega, by simp only []; omega, by simp only []; omega, by simp [i3], fun p h1 h2 => ?_⟩, by simp only []; omega⟩
   simp only at h2 ⊢
   by_cases e : p = i
   · subst e; rw [rd_app_1 h1 (by omega)]
   · rw [rd_app_l (by omega)]; exact i4 p h1 (by omega)
 · rw [drop_take_len hr.1]
   exact Gives.now ⟨rfl, by rw [hr.1]; exact hr.2.1, hr.2.2⟩
/-- The error of a window's number of pieces. -/
def badN (m n : Int) : Prop := ¬ (1 ≤ n ∧ n ≤ 8 ∧ n ≤ m)
theorem f18_centred {x : List Int} {n : Nat} (hx : Win x) (hn : 1 ≤ n) (hn2 : n ≤ 8) (hn3 : n ≤ x.length) : Gives (fun k => T_ref18_Centred k x n) (fun r => r.2 = 0 ∧ r.1.length = n ∧ ∀ p, 0 ≤ p → p < (n : Int) → rd r.1 p = pcc x n p) := by
 have x1 := hx.lo
 have x2 := hx.hi
 refine Gives.step ?_
 simp only [T_ref18_Centred]
 refine Gives.bind (rf_centred hx) fun c hc => Gives.neg (by simp [hc.1]) (Gives.bind (f18_starts (m := x.length) (n := n) x1 x2 hn hn2 hn3) fun S hS => Gives.neg (by simp [hS.1]) ?_)
 obtain ⟨c1, c2⟩ := hc
 have b := cent_bd hx c2
 refine Gives.bind (f18_foldB (by rw [c2.1]; exact x2) b.1 b.2 hn hn2 hS.2.1 (by rw [c2.1]; exact hS.2.2)) fun r hr => Gives.now ⟨rfl, hr.1, fun p h0 h1 => by rw [hr.2 p h0 h1, cent_pcs c2 (by omega) h0 h1]⟩
theorem f18_sums {x : List Int} {n : Nat} (hx : Win x) (hn : 1 ≤ n) (hn2 : n ≤ 8) (hn3 : n ≤ x.length) : Gives (fun k => T_ref18_Sums k x n) (fun r => r.2 = 0 ∧ r.1.length = n ∧ ∀ p, 0 ≤ p → p < (n : Int) → rd r.1 p = pcs x n p) := by
 have x1 := hx.lo
 have x2 := hx.hi
 refine Gives.step ?_
 simp only [T_ref18_Sums]
 refine Gives.bind (r12_windowG (x := x) (by omega)) fun e he => ?_
 rw [errM_win hx hx (by omega) (by omega)] at he
 subst he
 refine Gives.neg (by simp) (Gives.bind (f18_starts (m := x.length) (n := n) x1 x2 hn hn2 hn3) fun S hS => Gives.neg (by simp [hS.1]) ?_)
 exact Gives.bind (f18_fold hx hn hn2 hS.2.1 hS.2.2) fun r hr => Gives.now ⟨rfl, hr.1, hr.2⟩

theorem sk_of {x : List Int} {n : Int} (hx : Win x) (hn : 1 ≤ n) (hn2 : n ≤ 8) (hn3 : n ≤ (x.length : Int)) :
 Gives (fun k => T_sketch_Of k x n) (fun r => r.1 = x.length ∧ ((r.2.1.length : Int) = n ∧ ∀ p, 0 ≤ p → p < n → rd r.2.1 p = (x.length : Int) * (psum x (cut x.length n (p + 1)) - psum x (cut x.length n p)) - (cut x.length n (p + 1) - cut x.length n p) * x.sum) ∧ r.2.2.1 = (x.length : Int) * selfP x ∧ r.2.2.2 = 0) := by
 have x2 := hx.hi
 refine Gives.step ?_
 simp only [T_sketch_Of]
 refine Gives.bind (pc_centred hx hn hn2 hn3) fun a ha => Gives.neg (by simp [ha.1]) (Gives.bind (nm_Product hx) fun b hb => Gives.neg (by simp [hb.2]) ?_)
 obtain ⟨p1, p2, _⟩ := selfP_bound hx
 have q := prod_bound (a := (x.length : Int)) (b := selfP x) (A := 32) (B := 4000000000) (by omega) (by omega) (by omega) (by omega)
 rw [hb.1, w64_id (x := (x.length : Int) * selfP x) (by omega) (by omega)]
 exact Gives.now ⟨rfl, ha.2, rfl, rfl⟩

/-! Sketches with any number of pieces. -/
/-- The centred samples. -/
def cx (L : Int) (x : List Int) (i : Int) : Int := L * rd x i - x.sum
theorem sg_cx (L : Int) (x : List Int) : ∀ j : Nat, j ≤ x.length → sg (cx L x) j = L * psum x j - j * x.sum
 | 0, _ => by simp [sg, psum]
 | j + 1, h => by
  have ih := sg_cx L x j (by omega)
  have e := psum_succ (x := x) (i := (j : Int)) (by omega) (by omega)
  have : ((j + 1 : Nat) : Int) = (j : Int) + 1 := by omega
  rw [sg, ih, this, e]
  unfold cx
  grind
theorem cx_bound {L : Int} {x : List Int} (hx : Win x) (h0 : 0 ≤ L) (h1 : L ≤ 32) (i : Int) : -64000 ≤ cx L x i ∧ cx L x i ≤ 64000 := by
 have b := pc_bounds hx (i := x.length) (by omega) (by omega)
 rw [psum_all] at b
 have s := hx.smp.rd i
 have q := prod_bound (a := L) (b := rd x i) (A := 32) (B := 1000) (by omega) (by omega) (by omega) (by omega)
 unfold cx
 omega
theorem sg_gap (f : Int → Int) (B : Int) (h : ∀ i, -B ≤ f i ∧ f i ≤ B) (a : Nat) : ∀ j : Nat, -(B * j) ≤ sg f (a + j) - sg f a ∧ sg f (a + j) - sg f a ≤ B * j
 | 0 => by simp
 | j + 1 => by
  have ih := sg_gap f B h a j
  have b := h ((a + j : Nat) : Int)
  have : ((j + 1 : Nat) : Int) = (j : Int) + 1 := by omega
  rw [show a + (j + 1) = a + j + 1 by omega, sg, this, Int.mul_add]
  omega
/-- The sketch of a window. -/
structure Skn (x s : List Int) (E : Int) (n : Nat) : Prop where
 win : Win x
 n1 : 1 ≤ n
 n2 : n ≤ 8
 n3 : n ≤ x.length
 len : s.length = n
 val : ∀ p, 0 ≤ p → p < (n : Int) → rd s p = dP (cx x.length x) x.length n p
 en : E = (x.length : Int) * prodP x x
theorem skn_of {x : List Int} {n : Nat} (hx : Win x) (hn : 1 ≤ n) (hn2 : n ≤ 8) (hn3 : n ≤ x.length) : Gives (fun k => T_sketch_Of k x n) (fun r => r.1 = x.length ∧ Skn x r.2.1 r.2.2.1 n ∧ r.2.2.2 = 0) := by
 refine (sk_of hx (n := (n : Int)) (by omega) (by omega) (by omega)).mono fun r ⟨h1, ⟨h2, h3⟩, h4, h5⟩ => ⟨h1, ⟨hx, hn, hn2, hn3, by omega, fun p p0 p1 => ?_, ?_⟩, h5⟩
 · have k1 := cut_range (m := (x.length : Int)) (n := (n : Int)) (p := p) (by omega) (by omega) (by omega) (by omega)
   have k2 := cut_range (m := (x.length : Int)) (n := (n : Int)) (p := p + 1) (by omega) (by omega) (by omega) (by omega)
   rw [h3 p p0 p1]
   unfold dP
   rw [sg_cx _ _ _ (by omega), sg_cx _ _ _ (by omega), Int.toNat_of_nonneg k1.1, Int.toNat_of_nonneg k2.1]
   grind
 · rw [h4, selfP_prod]
theorem Skn.bd {x s : List Int} {E : Int} {n : Nat} (h : Skn x s E n) {p : Int} (h0 : 0 ≤ p) (h1 : p < (n : Int)) : -2048000 ≤ rd s p ∧ rd s p ≤ 2048000 := by
 have n1 := h.n1
 have x2 := h.win.hi
 have k1 := cut_range (m := (x.length : Int)) (n := (n : Int)) (p := p) (by omega) (by omega) (by omega) (by omega)
 have k2 := cut_range (m := (x.length : Int)) (n := (n : Int)) (p := p + 1) (by omega) (by omega) (by omega) (by omega)
 have k3 := cut_mono (m := (x.length : Int)) (n := (n : Int)) (p := p) (q := p + 1) (by omega) (by omega) (by omega)
 rw [h.val p h0 h1]
 have g := sg_gap (cx x.length x) 64000 (fun i => cx_bound h.win (by omega) (by omega) i) (cut x.length n p).toNat ((cut x.length n (p + 1)).toNat - (cut x.length n p).toNat)
 rw [Nat.add_sub_cancel' (by omega)] at g
 unfold dP
 omega
theorem Skn.cent {x y : List Int} (hl : x.length = y.length) : sg (fun i => cx x.length x i * cx x.length y i) x.length = (x.length : Int) * prodP x y := cent_sum hl
theorem prod_self {x : List Int} (h : Win x) : 0 ≤ prodP x x ∧ prodP x x ≤ (x.length : Int) * ((x.length : Int) * 1000000) ∧ prodP x x ≤ 1024000000 := by
 have lo := h.lo
 have hi := h.hi
 have p0 := prodP_nonneg (x := x) (by omega)
 have q : sg (fun i => rd x i * rd x i) x.length ≤ 1000000 * (x.length : Int) := (sg_bound (B := 1000000) fun i h1 h2 => by
  have a := h.smp.rd i
  have := prod_bound (a := rd x i) (b := rd x i) (A := 1000) (B := 1000) a.1 a.2 a.1 a.2
  omega).2
 have s0 := sq_nonneg x.sum
 have e : prodP x x ≤ (x.length : Int) * ((x.length : Int) * 1000000) := by
  have : prodP x x = (x.length : Int) * sg (fun i => rd x i * rd x i) x.length - x.sum * x.sum := rfl
  have m : (x.length : Int) * sg (fun i => rd x i * rd x i) x.length ≤ (x.length : Int) * (1000000 * (x.length : Int)) := Int.mul_le_mul_of_nonneg_left q (by omega)
  rw [this, Int.mul_comm (x.length : Int) 1000000]; omega
 have q2 := prod_bound (a := (x.length : Int)) (b := (x.length : Int) * 1000000) (A := 32) (B := 32000000) (by omega) (by omega) (by omega) (by omega)
 exact ⟨p0, e, by omega⟩
theorem prod_two {x y : List Int} (hx : Win x) (hy : Win y) (hl : x.length = y.length) : -1024000000 ≤ prodP x y ∧ prodP x y ≤ 1024000000 ∧ prodP x y * prodP x y ≤ prodP x x * prodP y y := by
 have lo := hx.lo
 have a := prod_self hx
 have b := prod_self hy
 have c := prodP_cs hl (by omega)
 have d := Int.mul_le_mul a.2.2 b.2.2 b.1 (by omega)
 have e : prodP x y ≤ 1024000000 := sq_le (by omega) (by omega)
 have e2 : -prodP x y ≤ 1024000000 := sq_le (by omega) (by rw [Int.neg_mul_neg]; omega)
 exact ⟨by omega, e, c⟩
theorem Skn.wt {x s : List Int} {E : Int} {n : Nat} (h : Skn x s E n) {p : Int} (h0 : 0 ≤ p) (h1 : p < (n : Int)) : 1 ≤ cut x.length n (p + 1) - cut x.length n p ∧ cut x.length n (p + 1) - cut x.length n p ≤ 32 := by
 have w := wt_ok h.win.hi h.n1 h.n2 h.n3 h0 h1
 exact ⟨w.2.2.1, w.2.2.2.1⟩
/-- What the sums of pieces know of the energy. -/
def kn (x s : List Int) (n : Nat) : Int := sg (fun p => (rd s p * rd s p) / (cut x.length n (p + 1) - cut x.length n p)) n
theorem Skn.kn_eq {x s : List Int} {E : Int} {n : Nat} (h : Skn x s E n) : kn x s n = sg (fun p => (dP (cx x.length x) x.length n p * dP (cx x.length x) x.length n p) / (cut x.length n (p + 1) - cut x.length n p)) n :=
 sg_congr fun p p0 p1 => by rw [h.val p p0 p1]
theorem Skn.energy {x s : List Int} {E : Int} {n : Nat} (h : Skn x s E n) : 0 ≤ kn x s n ∧ kn x s n ≤ E ∧ 0 ≤ E ∧ E ≤ 32768000000 ∧ E = sg (fun i => cx x.length x i * cx x.length x i) x.length := by
 have p := prod_self h.win
 have hi := h.win.hi
 have e : E = sg (fun i => cx x.length x i * cx x.length x i) x.length := by rw [h.en]; exact (Skn.cent rfl).symm
 have q := prod_bound (a := (x.length : Int)) (b := prodP x x) (A := 32) (B := 1024000000) (by omega) (by omega) (by omega) (by omega)
 refine ⟨?_, ?_, ?_, by rw [h.en]; omega, e⟩
 · rw [h.kn_eq]; exact kn_nonneg _ h.win.hi h.n1 h.n2 h.n3
 · rw [h.kn_eq, e]; exact kn_le _ h.win.hi h.n1 h.n2 h.n3
 · rw [h.en]; exact Int.mul_nonneg (by omega) p.1
/-- The sum of the products of the pieces' sums, rounded up. -/
def up (m : Int) (s t : List Int) (n : Nat) : Int := sg (fun p => -((-(rd s p * rd t p)) / (cut m n (p + 1) - cut m n p))) n
/-! The gap's parts. -/
def gnum (u qa qb : Int) : Nat := if qa = 0 ∧ qb = 0 then 0 else if qa * qb = 0 then 1 else if u < 0 then (qa * qb + imin (qa * qb) (u * u)).toNat else (qa * qb - imin (qa * qb) (u * u)).toNat
def gden (qa qb : Int) : Nat := if qa * qb = 0 then 1 else (qa * qb).toNat

/-! Chapter 13 of the document. -/
theorem rf_product {x y : List Int} (hx : Win x) (hy : Win y) (hl : x.length = y.length) : Gives (fun k => T_ref13_product k x y) (· = prodP x y) := by
 have x2 := hx.hi
 refine Gives.step ?_
 simp only [T_ref13_product]
 have sx := pc_bounds hx (i := x.length) (by omega) (by omega)
 have sy := pc_bounds hy (i := y.length) (by omega) (by omega)
 rw [psum_all] at sx sy
 have gb : ∀ n : Nat, -(1000000 * (n : Int)) ≤ sg (fun i => rd x i * rd y i) n ∧ sg (fun i => rd x i * rd y i) n ≤ 1000000 * (n : Int) := fun n => sg_bound fun j h1 h2 => by
  have s1 := hx.smp.rd j
  have s2 := hy.smp.rd j
  have := prod_bound (a := rd x j) (b := rd y j) (A := 1000) (B := 1000) s1.1 s1.2 s2.1 s2.2
  omega
 refine Gives.bind (Q := fun r => r.1 = sg (fun i => rd x i * rd y i) x.length ∧ r.2.1 = x.sum ∧ r.2.2 = y.sum) ?_ fun r hr => ?_
 · refine Gives.loop (fun s => 0 ≤ s.2.2.2 ∧ s.2.2.2 ≤ (x.length : Int) ∧ s.1 = sg (fun i => rd x i * rd y i) s.2.2.2.toNat ∧ s.2.1 = psum x s.2.2.2 ∧ s.2.2.1 = psum y s.2.2.2) (fun s => ((x.length : Int) - s.2.2.2).toNat) ?_ ⟨by simp only []; omega, by simp only []; omega, rfl, (psum_zero _).symm, (psum_zero _).symm⟩
   intro ⟨a, b, c, i⟩ ⟨i1, i2, i3, i4, i5⟩
   simp only at i1 i2 i3 i4 i5
   unfold T_ref13_product_l1
   simp only []
   refine Gives.ite (fun cc => Gives.opt (at_rd i1 cc) (Gives.opt (at_rd i1 (by omega)) ?_)) fun cc => Gives.now ?_
   · have e2 := psum_succ (x := x) i1 cc
     have e3 := psum_succ (x := y) i1 (by omega)
     have b2 := pc_bounds hx i1 (by omega)
     have b3 := pc_bounds hy i1 (by omega)
     have s1 := hx.smp.rd i
     have s2 := hy.smp.rd i
     have b4 := prod_bound (a := rd x i) (b := rd y i) (A := 1000) (B := 1000) s1.1 s1.2 s2.1 s2.2
     have g := gb i.toNat
     rw [← i3] at g
     rw [w64_id (x := rd x i * rd y i) (by omega) (by omega), w64_id (x := a + rd x i * rd y i) (by omega) (by omega), w64_id (x := b + rd x i) (by omega) (by omega), w64_id (x := c + rd y i) (by omega) (by omega), w64_id (x := i + 1) (by omega) (by omega)]
     refine Gives.now ⟨⟨by simp only []; omega, by simp only []; omega, ?_, by simp only []; omega, by simp only []; omega⟩, by simp only []; omega⟩
     simp only []
     rw [show (i + 1).toNat = i.toNat + 1 by omega, sg, ← i3, Int.toNat_of_nonneg i1]
   · have e : i = x.length := by omega
     subst e
     refine ⟨by rw [i3]; rfl, i4.trans psum_all, i5.trans ?_⟩
     rw [hl]; exact psum_all
 · obtain ⟨r1, r2, r3⟩ := hr
   have g := gb x.length
   rw [r1, r2, r3]
   have q1 := prod_bound (a := (x.length : Int)) (b := sg (fun i => rd x i * rd y i) x.length) (A := 32) (B := 32000000) (by omega) (by omega) (by omega) (by omega)
   have q2 := prod_bound (a := x.sum) (b := y.sum) (A := 32000) (B := 32000) (by omega) (by omega) (by omega) (by omega)
   rw [w64_id (x := (x.length : Int) * sg (fun i => rd x i * rd y i) x.length) (by omega) (by omega), w64_id (x := x.sum * y.sum) (by omega) (by omega), w64_id (by omega) (by omega)]
   exact Gives.now rfl
theorem rf_Product {x y : List Int} (hx : Win x) (hy : Win y) (hl : x.length = y.length) : Gives (fun n => T_ref13_Product n x y) (fun r => r.1 = prodP x y ∧ r.2 = 0) := by
 refine Gives.step ?_
 simp only [T_ref13_Product]
 refine Gives.bind (r12_two hx hy hl) fun v hv => ?_
 subst hv
 exact Gives.neg (by simp) (Gives.bind (rf_product hx hy hl) fun r hr => Gives.now ⟨hr, rfl⟩)
theorem r01_make' {m n : Int} {p q : Nat} (hm : 0 ≤ m) (hn : 0 < n) (h1 : m ≤ 2305843009213693952) (h2 : n ≤ 1152921504606846976) (e1 : m.toNat = p) (e2 : n.toNat = q) : Gives (fun k => T_ref01_Make k m n) (fun r => ∃ P Q : Nat, r = ((P : Int), (Q : Int), 0) ∧ Rep P Q p q) := by
 have := r01_make (m := p) (n := q) (by omega) (by omega) (by omega)
 rw [show (p : Int) = m by omega, show (q : Int) = n by omega] at this
 exact this
theorem rf_Gap {x y : List Int} (hx : Win x) (hy : Win y) (hl : x.length = y.length) : Gives (fun n => T_ref13_Gap n x y) (fun r => ∃ P Q : Nat, r = ((P : Int), (Q : Int), 0) ∧ Rep P Q (gnum (prodP x y) (prodP x x) (prodP y y)) (gden (prodP x x) (prodP y y))) := by
 have pb := prod_two hx hy hl
 have qx := prod_self hx
 have qy := prod_self hy
 refine Gives.step ?_
 simp only [T_ref13_Gap]
 refine Gives.bind (rf_Product hx hy hl) fun a ha => Gives.neg (by simp [ha.2]) ?_
 rw [ha.1]
 refine Gives.bind (rf_product hx hx rfl) fun b hb => Gives.bind (rf_product hy hy rfl) fun c hc => ?_
 subst hb hc
 generalize prodP x y = p at *
 generalize prodP x x = qa at *
 generalize prodP y y = qb at *
 have q := prod_bound (a := qa) (b := qb) (A := 1024000000) (B := 1024000000) (by omega) (by omega) (by omega) (by omega)
 have q0 := Int.mul_nonneg qx.1 qy.1
 have q2 := prod_bound (a := p) (b := p) (A := 1024000000) (B := 1024000000) (by omega) (by omega) (by omega) (by omega)
 have q3 := sq_nonneg p
 have im : imin (qa * qb) (p * p) = p * p := by unfold imin; split <;> omega
 refine Gives.bind (Q := fun r => ∃ P Q : Nat, r = ((P : Int), (Q : Int)) ∧ Rep P Q (gnum p qa qb) (gden qa qb)) ?_ fun r hr => by
  obtain ⟨P, Q, rfl, R⟩ := hr
  exact Gives.now ⟨P, Q, rfl, R⟩
 refine Gives.step ?_
 simp only [T_ref13_Between]
 refine Gives.bind (Q := fun r => ∃ P Q : Nat, r = ((P : Int), (Q : Int)) ∧ Rep P Q (gnum p qa qb) (gden qa qb)) ?_ fun r hr => by
  obtain ⟨P, Q, rfl, R⟩ := hr
  exact Gives.now ⟨P, Q, rfl, R⟩
 rw [w64_id (x := qa * qb) (by omega) (by omega), w64_id (x := p * p) (by omega) (by omega), w64_id (x := qa * qb + p * p) (by omega) (by omega), w64_id (x := qa * qb - p * p) (by omega) (by omega)]
 unfold gnum gden
 rw [im]
 by_cases c1 : qa = 0 ∧ qb = 0
 · obtain ⟨z1, z2⟩ := c1
   subst z1 z2
   exact Gives.pos (by simp) (Gives.now ⟨0, 1, rfl, ⟨by omega, by simp, by simp⟩⟩)
 rw [if_neg c1]
 refine Gives.neg (by simpa using c1) ?_
 by_cases c2 : qa * qb = 0
 · rw [if_pos c2, if_pos c2]
   have c2' := Int.mul_eq_zero.1 c2
   refine Gives.neg (by rcases c2' with z | z <;> simp [z]) (Gives.neg (by rcases c2' with z | z <;> simp [z]) (Gives.now ⟨1, 1, rfl, ⟨by omega, by simp, by simp⟩⟩))
 rw [if_neg c2, if_neg c2]
 have c4 : qa ≠ 0 ∧ qb ≠ 0 := ⟨fun e => c2 (by rw [e, Int.zero_mul]), fun e => c2 (by rw [e, Int.mul_zero])⟩
 by_cases c3 : p < 0
 · rw [if_pos c3]
   refine Gives.neg (by simp; omega) (Gives.pos (by simp [c4]) (Gives.bind (r01_make' (by omega) (by omega) (by omega) (by omega) rfl rfl) fun r hr => ?_))
   obtain ⟨P, Q, rfl, R⟩ := hr
   exact Gives.now ⟨P, Q, rfl, R⟩
 · rw [if_neg c3]
   refine Gives.pos (by simp [c4]; omega) (Gives.bind (r01_make' (by omega) (by omega) (by omega) (by omega) rfl rfl) fun r hr => ?_)
   obtain ⟨P, Q, rfl, R⟩ := hr
   exact Gives.now ⟨P, Q, rfl, R⟩
/-! Roots and quotients by roots. -/
theorem rt_floorG {v : Int} (h0 : 0 ≤ v) (h1 : v ≤ 4611686018427387904) : Gives (fun k => T_root_Floor k v) (fun r => 0 ≤ r ∧ r ≤ 2147483648 ∧ r * r ≤ v ∧ v < (r + 1) * (r + 1)) := by
 have small : ∀ r : Int, 0 ≤ r → r * r ≤ v → r ≤ 2147483648 := fun r r0 r1 => by
  refine Decidable.byContradiction fun hn => ?_
  have := Int.mul_le_mul (a := 2147483649) (b := 2147483649) (c := r) (d := r) (by omega) (by omega) (by omega) (by omega)
  omega
 refine Gives.step ?_
 simp only [T_root_Floor]
 refine Gives.neg (by simp; omega) (Gives.bind (Q := fun r => 0 ≤ r ∧ r ≤ 2147483648 ∧ r * r ≤ v ∧ v < (r + 1) * (r + 1)) ?_ fun r hr => Gives.now hr)
 refine Gives.loop (fun s => ∃ k : Nat, s.2 = ((2 ^ k / 2 : Nat) : Int) ∧ k ≤ 32 ∧ 0 ≤ s.1 ∧ s.1 + ((2 ^ k : Nat) : Int) ≤ 4294967296 ∧ (k = 32 ∨ s.1 + ((2 ^ k : Nat) : Int) ≤ 2147483648) ∧ s.1 * s.1 ≤ v ∧ v < (s.1 + (2 ^ k : Nat)) * (s.1 + (2 ^ k : Nat))) (fun s => s.2.toNat) ?_ ⟨32, by decide, by omega, by simp only []; omega, by simp only []; omega, .inl rfl, by simp only []; omega, by simp only []; omega⟩
 intro ⟨r, b⟩ ⟨k, e, hk, r0, rb, rc, r1, r2⟩
 simp only at e r0 rb rc r1 r2
 have rs := small r r0 r1
 unfold T_root_Floor_l1
 simp only []
 cases k with
 | zero =>
  simp at e
  subst e
  refine Gives.neg (by omega) (Gives.now ⟨r0, rs, r1, by simpa using r2⟩)
 | succ k =>
  have p : 2 ^ (k + 1) = 2 * 2 ^ k := by rw [Nat.pow_succ, Nat.mul_comm]
  have p0 : 0 < 2 ^ k := Nat.pow_pos (by omega)
  have p1 : 2 ^ k ≤ 2 ^ 31 := Nat.pow_le_pow_right (by omega) (by omega)
  rw [p] at e r2 rb rc
  have pk : k + 1 = 32 → 2 ^ k = 2147483648 := fun h => by rw [show k = 31 by omega]
  obtain ⟨w, hw⟩ : ∃ w, 2 ^ k = w := ⟨_, rfl⟩
  rw [hw] at e r2 p0 p1 rb rc pk
  have e2 : b = w := by rw [e]; omega
  subst e2
  have rw1 : r + w ≤ 2147483648 := by
   rcases rc with rc | rc
   · have := pk rc; omega
   · omega
  have q := prod_bound (a := r + w) (b := r + w) (A := 2147483648) (B := 2147483648) (by omega) (by omega) (by omega) (by omega)
  rw [w64_id (x := r + w) (by omega) (by omega), w64_id (x := (r + w) * (r + w)) (by omega) (by omega)]
  refine Gives.pos (by omega) (Gives.ite (fun c => Gives.now ?_) fun c => ?_)
  · have : (r + w + 1) * (r + w + 1) = (r + w) * (r + w) + (r + w) + (r + w) + 1 := by grind
    exact ⟨by omega, small _ (by omega) (by omega), by omega, by omega⟩
  · have ed : (w : Int).fdiv (2 ^ 1) = ((w / 2 : Nat) : Int) := by
     rw [Int.fdiv_eq_ediv_of_nonneg _ (by omega)]; rfl
    rw [ed]
    have nk : k = 31 → v < (r + w) * (r + w) → r + w ≤ 2147483648 := fun _ _ => rw1
    refine Gives.bind (Q := fun (t : Int) => 0 ≤ t ∧ t + (w : Int) ≤ 2147483648 ∧ t * t ≤ v ∧ v < (t + (w : Int)) * (t + (w : Int))) ?_ fun t ht => Gives.now ?_
    · refine Gives.ite (fun c2 => Gives.now ⟨by omega, ?_, by omega, ?_⟩) fun c2 => Gives.now ⟨r0, rw1, r1, by omega⟩
      · rcases rc with rc | rc
        · exfalso
          have h31 := pk rc
          have : r = 0 := by omega
          subst this
          have e4 : ((w : Int)) = 2147483648 := by omega
          rw [e4] at c c2
          omega
        · omega
      · have : r + w + (w : Int) = r + ((2 * w : Nat) : Int) := by omega
        rw [this]; exact r2
    · refine ⟨⟨k, by rw [hw], by omega, ht.1, by rw [hw]; have := ht.2.1; omega, .inr (by rw [hw]; exact ht.2.1), ht.2.2.1, by rw [hw]; exact ht.2.2.2⟩, ?_⟩
      simp only []
      omega
theorem rf_ok {v : Int} (h : 0 ≤ v ∧ v ≤ 4611686018427387904) : ∃ r, Gives (fun k => T_root_Floor k v) (· = r) ∧ 0 ≤ r ∧ r ≤ 2147483648 ∧ r * r ≤ v ∧ v < (r + 1) * (r + 1) := by
 obtain ⟨r, ⟨K, hK⟩, hr⟩ := rt_floorG h.1 h.2
 exact ⟨r, ⟨r, ⟨K, hK⟩, rfl⟩, hr⟩
/-- The root, rounded down. -/
noncomputable def rtf (v : Int) : Int := if h : 0 ≤ v ∧ v ≤ 4611686018427387904 then Classical.choose (rf_ok h) else 0
theorem rt_rtf {v : Int} (h0 : 0 ≤ v) (h1 : v ≤ 4611686018427387904) : Gives (fun k => T_root_Floor k v) (· = rtf v) ∧ 0 ≤ rtf v ∧ rtf v ≤ 2147483648 ∧ rtf v * rtf v ≤ v ∧ v < (rtf v + 1) * (rtf v + 1) := by
 unfold rtf
 rw [dif_pos ⟨h0, h1⟩]
 exact Classical.choose_spec (rf_ok ⟨h0, h1⟩)
/-- What Quotient answers. -/
noncomputable def QQ (t e : Int) : Int := if 0 ≤ t then rtf (t * t / e) else -(if rtf (t * t / e) * rtf (t * t / e) * e < t * t then rtf (t * t / e) + 1 else rtf (t * t / e))
theorem rq {t e : Int} (h : -2147483648 ≤ t ∧ t ≤ 2147483648 ∧ 1 ≤ e ∧ e ≤ 4611686018427387904) : Gives (fun k => T_root_Quotient k t e) (fun r => r = (QQ t e, 0)) ∧ -2147483649 ≤ QQ t e ∧ QQ t e ≤ 2147483649 := by
 obtain ⟨t0, t1, e0, e1⟩ := h
 have z := sq_nonneg t
 have q := prod_bound (a := t) (b := t) (A := 2147483648) (B := 2147483648) t0 t1 t0 t1
 have v0 : 0 ≤ t * t / e := Int.ediv_nonneg z (by omega)
 have v1 : t * t / e ≤ t * t := Int.ediv_le_self _ z
 have v2 := Int.mul_ediv_self_le (x := t * t) (k := e) (by omega)
 obtain ⟨g, r0, r1, r2, r3⟩ := rt_rtf v0 (by omega)
 unfold QQ
 generalize rtf (t * t / e) = r at *
 have rr := sq_nonneg r
 have m : r * r * e ≤ t * t / e * e := Int.mul_le_mul_of_nonneg_right r2 (by omega)
 have m0 := Int.mul_nonneg rr (show 0 ≤ e by omega)
 rw [Int.mul_comm (t * t / e) e] at m
 refine ⟨?_, ?_⟩
 · refine Gives.step ?_
   simp only [T_root_Quotient]
   refine Gives.neg (by simp; omega) (Gives.pos (by omega) ?_)
   rw [w64_id (x := t * t) (by omega) (by omega), Int.tdiv_eq_ediv_of_nonneg z, w64_id (x := t * t / e) (by omega) (by omega)]
   refine Gives.bind g fun r' hr' => ?_
   subst hr'
   refine Gives.ite (fun c => Gives.now (by rw [if_pos c])) fun c => ?_
   rw [if_neg c, w64_id (x := r' * r') (by omega) (by omega), w64_id (x := r' * r' * e) (by omega) (by omega), w64_id (x := r' + 1) (by omega) (by omega)]
   refine Gives.bind (Q := fun u => u = if r' * r' * e < t * t then r' + 1 else r') (Gives.ite (fun d => Gives.now (by rw [if_pos d])) fun d => Gives.now (by rw [if_neg d])) fun u hu => Gives.now ?_
   have ub : 0 ≤ u ∧ u ≤ 2147483649 := by
    rw [hu]
    split <;> omega
   rw [w64_id (x := 0 - u) (by omega) (by omega), ← hu, Int.zero_sub]
 · split
   · omega
   · split <;> omega

/-! Chapters 2 and 4 of the document. -/
theorem rtf_uniq {v r : Int} (h0 : 0 ≤ v) (h1 : v ≤ 4611686018427387904) (r0 : 0 ≤ r) (r1 : r * r ≤ v) (r2 : v < (r + 1) * (r + 1)) : r = rtf v := by
 obtain ⟨_, a0, _, a1, a2⟩ := rt_rtf h0 h1
 generalize rtf v = s at *
 rcases Int.lt_trichotomy r s with c | c | c
 · have := Int.mul_le_mul (a := r + 1) (b := r + 1) (c := s) (d := s) (by omega) (by omega) (by omega) (by omega)
   omega
 · exact c
 · have := Int.mul_le_mul (a := s + 1) (b := s + 1) (c := r) (d := r) (by omega) (by omega) (by omega) (by omega)
   omega
theorem r02_floor {v : Int} (h0 : 0 ≤ v) (h1 : v ≤ 4611686018427387904) : Gives (fun k => T_ref02_Floor k v) (fun r => r = rtf v) := by
 have small : ∀ r : Int, 0 ≤ r → r * r ≤ v → r ≤ 2147483648 := fun r r0 r1 => by
  refine Decidable.byContradiction fun hn => ?_
  have := Int.mul_le_mul (a := 2147483649) (b := 2147483649) (c := r) (d := r) (by omega) (by omega) (by omega) (by omega)
  omega
 refine Gives.step ?_
 simp only [T_ref02_Floor]
 refine Gives.neg (by simp; omega) (Gives.bind (Q := fun r => r = rtf v) ?_ fun r hr => Gives.now hr)
 refine Gives.loop (fun s => ∃ k : Nat, s.2 = ((2 ^ k / 2 : Nat) : Int) ∧ k ≤ 32 ∧ 0 ≤ s.1 ∧ s.1 * s.1 ≤ v ∧ v < (s.1 + ((2 ^ k : Nat) : Int)) * (s.1 + ((2 ^ k : Nat) : Int))) (fun s => s.2.toNat) ?_ ⟨32, by decide, by omega, by simp only []; omega, by simp only []; omega, by simp only []; omega⟩
 intro ⟨r, b⟩ ⟨k, e, hk, r0, r1, r2⟩
 simp only at e r0 r1 r2
 have rs := small r r0 r1
 unfold T_ref02_Floor_l1
 simp only []
 cases k with
 | zero =>
  simp at e
  subst e
  refine Gives.neg (by omega) (Gives.now (rtf_uniq h0 h1 r0 r1 (by simpa using r2)))
 | succ k =>
  have p : 2 ^ (k + 1) = 2 * 2 ^ k := by rw [Nat.pow_succ, Nat.mul_comm]
  have p0 : 0 < 2 ^ k := Nat.pow_pos (by omega)
  have p1 : 2 ^ k ≤ 2 ^ 31 := Nat.pow_le_pow_right (by omega) (by omega)
  rw [p] at e r2
  obtain ⟨w, hw⟩ : ∃ w, 2 ^ k = w := ⟨_, rfl⟩
  rw [hw] at e r2 p0 p1
  have e2 : b = w := by rw [e]; omega
  subst e2
  rw [w64_id (x := r + w) (by omega) (by omega)]
  have ed : (w : Int).fdiv (2 ^ 1) = ((w / 2 : Nat) : Int) := by
   rw [Int.fdiv_eq_ediv_of_nonneg _ (by omega)]; rfl
  rw [ed]
  refine Gives.pos (by omega) (Gives.bind (Q := fun (t : Int) => 0 ≤ t ∧ t * t ≤ v ∧ v < (t + (w : Int)) * (t + (w : Int))) ?_ fun t ht => Gives.now ⟨⟨k, by rw [hw], by omega, ht.1, ht.2.1, by rw [hw]; exact ht.2.2⟩, by simp only []; omega⟩)
  have e3 : r + w + (w : Int) = r + ((2 * w : Nat) : Int) := by omega
  by_cases c : r + w ≤ 2147483648
  · have q := prod_bound (a := r + w) (b := r + w) (A := 2147483648) (B := 2147483648) (by omega) (by omega) (by omega) (by omega)
    rw [w64_id (x := (r + w) * (r + w)) (by omega) (by omega)]
    refine Gives.ite (fun d => Gives.now ⟨by omega, ?_, by rw [e3]; exact r2⟩) fun d => Gives.now ⟨r0, r1, ?_⟩
    · simp at d; omega
    · simp at d; omega
  · refine Gives.neg (by simp [c]) (Gives.now ⟨r0, r1, ?_⟩)
    have := Int.mul_le_mul (a := 2147483649) (b := 2147483649) (c := r + w) (d := r + w) (by omega) (by omega) (by omega) (by omega)
    omega
theorem r02_quotient {t e : Int} (h : -1073741824 ≤ t ∧ t ≤ 1073741824 ∧ 1 ≤ e ∧ e ≤ 4611686018427387904) : Gives (fun k => T_ref02_Quotient k t e) (fun r => r = (QQ t e, 0)) := by
 obtain ⟨t0, t1, e0, e1⟩ := h
 have z := sq_nonneg t
 have q := prod_bound (a := t) (b := t) (A := 1073741824) (B := 1073741824) t0 t1 t0 t1
 have v0 : 0 ≤ t * t / e := Int.ediv_nonneg z (by omega)
 have v1 : t * t / e ≤ t * t := Int.ediv_le_self _ z
 have v2 := Int.mul_ediv_self_le (x := t * t) (k := e) (by omega)
 have v3 := Int.mul_ediv_add_emod (t * t) e
 have v4 := Int.emod_nonneg (t * t) (show e ≠ 0 by omega)
 obtain ⟨_, r0, r1, r2, r3⟩ := rt_rtf v0 (by omega)
 refine Gives.step ?_
 simp only [T_ref02_Quotient]
 rw [w64_id (x := t * t) (by omega) (by omega), Int.tdiv_eq_ediv_of_nonneg z, Int.tmod_eq_emod_of_nonneg z, w64_id (x := t * t / e) (by omega) (by omega), w64_id (x := t * t / e + 1) (by omega) (by omega)]
 unfold QQ
 refine Gives.neg (by simp; omega) (Gives.pos (by omega) (Gives.ite (fun c => ?_) fun c => ?_))
 · rw [if_pos c]
   exact Gives.bind (r02_floor v0 (by omega)) fun r hr => Gives.now (by rw [hr])
 · rw [if_neg c]
   have rr := sq_nonneg (rtf (t * t / e))
   have m : rtf (t * t / e) * rtf (t * t / e) * e ≤ t * t / e * e := Int.mul_le_mul_of_nonneg_right r2 (by omega)
   rw [Int.mul_comm (t * t / e) e] at m
   refine Gives.pos (by omega) (Gives.bind (Q := fun c => c = if t * t % e = 0 then t * t / e else t * t / e + 1) (Gives.ite (fun d => Gives.now ?_) fun d => Gives.now ?_) fun u hu => ?_)
   · rw [if_neg (by simpa using d)]
   · rw [if_pos (by simpa using d)]
   · refine Gives.bind (Q := fun r => r = if rtf (t * t / e) * rtf (t * t / e) * e < t * t then rtf (t * t / e) + 1 else rtf (t * t / e)) ?_ fun r hr => ?_
     · have ub : 0 ≤ u ∧ u ≤ 4611686018427387904 := by rw [hu]; split <;> omega
       refine Gives.step ?_
       simp only [T_ref02_Ceil]
       refine Gives.bind (r02_floor ub.1 ub.2) fun f hf => ?_
       obtain ⟨_, f0, f1, f2, f3⟩ := rt_rtf ub.1 ub.2
       rw [← hf] at f0 f1 f2 f3
       have ff := sq_nonneg f
       rw [w64_id (x := f * f) (by omega) (by omega), w64_id (x := f + 1) (by omega) (by omega)]
       generalize hv : t * t / e = v at *
       generalize rtf v = r at *
       by_cases d : t * t % e = 0
       · rw [if_pos d] at hu
         subst hu
         have fr : f = r := by
          rcases Int.lt_trichotomy f r with c | c | c
          · have := Int.mul_le_mul (a := f + 1) (b := f + 1) (c := r) (d := r) (by omega) (by omega) (by omega) (by omega)
            omega
          · exact c
          · have := Int.mul_le_mul (a := r + 1) (b := r + 1) (c := f) (d := f) (by omega) (by omega) (by omega) (by omega)
            omega
         subst fr
         have ve : e * u = t * t := by omega
         have iff1 : f * f * e < t * t ↔ f * f < u := by
          rw [← ve, Int.mul_comm e u]
          exact ⟨fun h => Int.lt_of_mul_lt_mul_right h (by omega), fun h => Int.mul_lt_mul_of_pos_right h (by omega)⟩
         refine Gives.ite (fun g => Gives.now ?_) fun g => Gives.now ?_
         · rw [if_pos (iff1.2 (by simp at g; omega))]
         · rw [if_neg fun h => g (by simp; have := iff1.1 h; omega)]
       · rw [if_neg d] at hu
         subst hu
         have lt : r * r * e < t * t := by omega
         rw [if_pos lt]
         have rr1 : (r + 1) * (r + 1) = r * r + r + r + 1 := by grind
         have ff1 : (f + 1) * (f + 1) = f * f + f + f + 1 := by grind
         refine Gives.ite (fun g => Gives.now ?_) fun g => Gives.now ?_
         · have g' : f * f < v + 1 := by simp at g; omega
           have : f = r := by
            rcases Int.lt_trichotomy f r with c | c | c
            · have := Int.mul_le_mul (a := f + 1) (b := f + 1) (c := r) (d := r) (by omega) (by omega) (by omega) (by omega)
              omega
            · exact c
            · have := Int.mul_le_mul (a := r + 1) (b := r + 1) (c := f) (d := f) (by omega) (by omega) (by omega) (by omega)
              omega
           rw [this]
         · have g' : f * f = v + 1 := by simp at g; omega
           have : f = r + 1 := by
            rcases Int.lt_trichotomy f (r + 1) with c | c | c
            · have := Int.mul_le_mul (a := f) (b := f) (c := r) (d := r) (by omega) (by omega) (by omega) (by omega)
              omega
            · exact c
            · have := Int.mul_le_mul (a := r + 2) (b := r + 2) (c := f) (d := f) (by omega) (by omega) (by omega) (by omega)
              have : (r + 2) * (r + 2) = r * r + r + r + r + r + 4 := by grind
              omega
           exact this
     · have rb : 0 ≤ r ∧ r ≤ 2147483649 := by rw [hr]; split <;> omega
       rw [w64_id (x := 0 - r) (by omega) (by omega), hr, Int.zero_sub]
       exact Gives.now rfl
theorem r02_quotient0 {t : Int} : Gives (fun k => T_ref02_Quotient k t 0) (fun r => r.1 = 0) := by
 refine Gives.step ?_
 simp only [T_ref02_Quotient]
 exact Gives.pos (by simp) (Gives.now rfl)
theorem r04_down {a b : Int} (hb : 0 < b) (hb2 : b ≤ 1000000) (ha : -1000000000000 ≤ a) (ha2 : a ≤ 1000000000000) : Gives (fun k => T_ref04_Down k a b) (fun r => r = a / b) := by
 have e := Int.mul_tdiv_add_tmod a b
 have r1 := Int.tmod_lt_of_pos a hb
 have r2 : -b < a.tmod b := by
  have := Int.tmod_lt_of_pos (-a) hb
  rw [Int.neg_tmod] at this
  omega
 have q1 : -1000000000000 ≤ a.tdiv b ∧ a.tdiv b ≤ 1000000000000 := by
  have h := Int.natAbs_tdiv_le_natAbs a b
  omega
 refine Gives.step ?_
 simp only [T_ref04_Down]
 refine Gives.pos (by omega) (Gives.pos (by omega) (Gives.bind (Q := fun r => r = a / b) ?_ fun r hr => Gives.now hr))
 rw [w64_id (x := a.tdiv b) (by omega) (by omega), w64_id (x := a.tdiv b - 1) (by omega) (by omega)]
 refine Gives.ite (fun c => Gives.now ?_) fun c => Gives.now ?_
 · refine ((Int.ediv_emod_unique hb (r := a.tmod b + b) (q := a.tdiv b - 1)).2 ⟨?_, by omega, by omega⟩).1.symm
   rw [Int.mul_sub, Int.mul_one]; omega
 · exact ((Int.ediv_emod_unique hb (r := a.tmod b) (q := a.tdiv b)).2 ⟨by omega, by omega, by omega⟩).1.symm

/-! Schemes. -/
structure SchOk (kd bd gp len n : Int) (cuts : List Int) : Prop where
 k1 : 1 ≤ kd
 k2 : kd ≤ 5
 b1 : 0 ≤ bd
 b2 : bd ≤ 32
 b3 : bd = 0 ∨ kd = 4
 g1 : -1000 ≤ gp
 g2 : gp ≤ 1000
 g3 : gp = 0 ∨ kd = 5
 l1 : 2 ≤ len
 l2 : len ≤ 32
 n1 : 1 ≤ n
 n2 : n ≤ 8
 n3 : n ≤ len
 c1 : cuts.length ≤ 15
 c2 : ∀ i, 0 ≤ i → i < (cuts.length : Int) → -2000 ≤ rd cuts i ∧ rd cuts i ≤ 2000
 c3 : ∀ i, 0 < i → i < (cuts.length : Int) → rd cuts (i - 1) < rd cuts i
theorem SchOk.lt {kd bd gp len n : Int} {cuts : List Int} (h : SchOk kd bd gp len n cuts) : ∀ (d : Nat) (i : Int), 0 ≤ i → i + d + 1 < (cuts.length : Int) → rd cuts i < rd cuts (i + d + 1)
 | 0, i, h0, h1 => by
  have := h.c3 (i + 1) (by omega) (by omega)
  rw [show i + 1 - 1 = i by omega] at this
  rw [show i + ((0 : Nat) : Int) + 1 = i + 1 by omega]
  exact this
 | d + 1, i, h0, h1 => by
  have a := SchOk.lt h d i h0 (by omega)
  have b := h.c3 (i + d + 1 + 1) (by omega) (by omega)
  rw [show i + (d : Int) + 1 + 1 - 1 = i + d + 1 by omega] at b
  rw [show i + ((d + 1 : Nat) : Int) + 1 = i + d + 1 + 1 by omega]
  omega
theorem SchOk.le {kd bd gp len n : Int} {cuts : List Int} (h : SchOk kd bd gp len n cuts) {i j : Int} (h0 : 0 ≤ i) (hij : i ≤ j) (h1 : j < (cuts.length : Int)) : rd cuts i ≤ rd cuts j := by
 by_cases e : i = j
 · rw [e]; exact Int.le_refl _
 · have := h.lt (j - i - 1).toNat i h0 (by omega)
   rw [show i + ((j - i - 1).toNat : Int) + 1 = j by omega] at this
   omega
theorem src_measure {L : List Int} {p : Int} (h : SrcOk L p) : Gives (fun k => T_keep_Src_Measure k L p) (fun r => (1 ≤ r.1 ∧ r.1 ≤ 5 ∧ 0 ≤ r.2.1 ∧ r.2.1 ≤ 32 ∧ (r.2.1 = 0 ∨ r.1 = 4) ∧ -1000 ≤ r.2.2.1 ∧ r.2.2.1 ≤ 1000 ∧ (r.2.2.1 = 0 ∨ r.1 = 5)) ∧ SrcOk L r.2.2.2) := by
 refine Gives.step ?_
 simp only [T_keep_Src_Measure]
 refine Gives.bind (src_range h 1 5 (by omega) (by omega) (by omega)) fun a ha => Gives.bind (Q := fun r => (0 ≤ r.2 ∧ r.2 ≤ 32 ∧ (r.2 = 0 ∨ a.1 = 4)) ∧ SrcOk L r.1) ?_ fun b hb => Gives.bind (Q := fun r => (-1000 ≤ r.2 ∧ r.2 ≤ 1000 ∧ (r.2 = 0 ∨ a.1 = 5)) ∧ SrcOk L r.1) ?_ fun c hc => Gives.now ⟨⟨ha.1, ha.2.1, hb.1.1, hb.1.2.1, hb.1.2.2, hc.1⟩, hc.2⟩
 · refine Gives.ite (fun e => Gives.bind (src_pick ha.2.2 _ (by simp) (by simp)) fun v hv => Gives.now ⟨?_, hv.2⟩) fun _ => Gives.now ⟨⟨by simp only []; omega, by simp only []; omega, .inl rfl⟩, ha.2.2⟩
   have m := hv.1
   simp only [List.mem_cons, List.not_mem_nil, or_false] at m
   refine ⟨by simp only []; omega, by simp only []; omega, .inr e⟩
 · refine Gives.ite (fun e => Gives.bind (src_pick hb.2 _ (by simp) (by simp)) fun v hv => Gives.now ⟨?_, hv.2⟩) fun _ => Gives.now ⟨⟨by simp only []; omega, by simp only []; omega, .inl rfl⟩, hb.2⟩
   have m := hv.1
   simp only [List.mem_cons, List.not_mem_nil, or_false] at m
   refine ⟨by simp only []; omega, by simp only []; omega, .inr e⟩
theorem src_cuts {L : List Int} {p : Int} (h : SrcOk L p) : Gives (fun k => T_keep_Src_Cuts k L p) (fun r => (r.1.length ≤ 15 ∧ (∀ i, 0 ≤ i → i < (r.1.length : Int) → -2000 ≤ rd r.1 i ∧ rd r.1 i ≤ 2000) ∧ ∀ i, 0 < i → i < (r.1.length : Int) → rd r.1 (i - 1) < rd r.1 i) ∧ SrcOk L r.2) := by
 refine Gives.step ?_
 simp only [T_keep_Src_Cuts]
 refine Gives.bind (src_pick h _ (by simp) (by simp)) fun a ha => Gives.bind (src_pick ha.2 _ (by simp) (by simp)) fun b hb => Gives.bind (src_n hb.2 16 (by omega) (by omega)) fun c hc => Gives.bind (Q := fun r => r.2.2.length = r.1 ∧ (r.2.2.length ≤ 15 ∧ (∀ i, 0 ≤ i → i < (r.2.2.length : Int) → -2000 ≤ rd r.2.2 i ∧ rd r.2.2 i ≤ 2000) ∧ ∀ i, 0 < i → i < (r.2.2.length : Int) → rd r.2.2 (i - 1) < rd r.2.2 i) ∧ SrcOk L r.2.1) ?_ fun d hd => Gives.now (by rw [drop_take_len hd.1]; exact hd.2)
 have b1 : 1 ≤ b.1 ∧ b.1 ≤ 60 := by
  have := hb.1
  simp at this
  omega
 have a1 : -400 ≤ a.1 ∧ a.1 ≤ 0 := by
  have := ha.1
  simp at this
  omega
 refine Gives.loop (fun t => SrcOk L t.2.2.2.1 ∧ (t.1 : Int) + t.2.2.1 = c.1 ∧ 0 ≤ t.2.2.1 ∧ t.2.2.2.2.length = t.1 ∧ -400 ≤ t.2.1 ∧ t.2.1 ≤ 60 * (t.1 : Int) ∧ (0 < t.1 → rd t.2.2.2.2 ((t.1 : Int) - 1) = t.2.1) ∧ (∀ i, 0 ≤ i → i < (t.1 : Int) → -2000 ≤ rd t.2.2.2.2 i ∧ rd t.2.2.2.2 i ≤ 2000) ∧ ∀ i, 0 < i → i < (t.1 : Int) → rd t.2.2.2.2 (i - 1) < rd t.2.2.2.2 i) (fun t => t.2.2.1.toNat) ?_
  ⟨hc.2.2, by simp only []; omega, by simp only []; omega, rfl, by simp only []; omega, by simp only []; omega, fun h => by simp only at h; omega, fun i h0 h1 => by simp only at h1; omega, fun i h0 h1 => by simp only at h1; omega⟩
 intro ⟨l, v, n, q, o⟩ ⟨i1, i2, i3, i4, i5, i6, i7, i8, i9⟩
 simp only at i1 i2 i3 i4 i5 i6 i7 i8 i9
 unfold T_keep_Src_Cuts_l1
 simp only []
 refine Gives.ite (fun cc => ?_) fun cc => Gives.now ⟨i4, ⟨by simp only []; omega, by simp only [i4]; exact i8, by simp only [i4]; exact i9⟩, i1⟩
 refine Gives.bind (src_range i1 1 b.1 (by omega) (by omega) (by omega)) fun d hd => Gives.pos (by unfold LIM; omega) ?_
 rw [w64_id (x := n - 1) (by omega) (by omega), w64_id (x := v + d.1) (by omega) (by omega), drop_take_len i4]
 refine Gives.now ⟨⟨hd.2.2, by simp only []; omega, by simp only []; omega, by simp [i4], by simp only []; omega, by simp only []; omega, fun _ => ?_, fun i h0 h1 => ?_, fun i h0 h1 => ?_⟩, by simp only []; omega⟩
 · simp only []
   rw [rd_app_1 (by omega) (by omega)]
 · simp only at h1 ⊢
   by_cases e : i = (l : Int)
   · rw [rd_app_1 h0 (by omega)]; omega
   · rw [rd_app_l (by omega)]; exact i8 i h0 (by omega)
 · simp only at h1 ⊢
   by_cases e : i = (l : Int)
   · have e1 : rd (o ++ [v + d.1]) i = v + d.1 := rd_app_1 (by omega) (by omega)
     have e2 : rd (o ++ [v + d.1]) (i - 1) = rd o (i - 1) := rd_app_l (by omega)
     rw [e1, e2, e, i7 (by omega)]; omega
   · have e1 : rd (o ++ [v + d.1]) i = rd o i := rd_app_l (by omega)
     have e2 : rd (o ++ [v + d.1]) (i - 1) = rd o (i - 1) := rd_app_l (by omega)
     rw [e1, e2]; exact i9 i h0 (by omega)
theorem src_scheme {L : List Int} {p : Int} (h : SrcOk L p) : Gives (fun k => T_keep_Src_Scheme k L p) (fun r => SchOk r.1 r.2.1 r.2.2.1 r.2.2.2.1 r.2.2.2.2.1 r.2.2.2.2.2.1 ∧ SrcOk L r.2.2.2.2.2.2) := by
 refine Gives.step ?_
 simp only [T_keep_Src_Scheme]
 refine Gives.bind (src_measure h) fun a ha => Gives.bind (src_length ha.2) fun b hb => ?_
 have e : 1 ≤ imin 8 b.1 ∧ imin 8 b.1 ≤ 8 ∧ imin 8 b.1 ≤ b.1 := by unfold imin; split <;> omega
 refine Gives.bind (src_range hb.2.2 1 (imin 8 b.1) (by omega) (by omega) (by omega)) fun c hc => Gives.bind (src_cuts hc.2.2) fun d hd => Gives.now ⟨?_, hd.2⟩
 obtain ⟨⟨q1, q2, q3, q4, q5, q6, q7, q8⟩, _⟩ := ha
 obtain ⟨⟨d1, d2, d3⟩, _⟩ := hd
 exact ⟨q1, q2, q3, q4, q5, q6, q7, q8, hb.1, hb.2.1, hc.1, by simp only []; omega, by simp only []; omega, d1, d2, d3⟩
/-! Schemes of any kind. -/
def MsOk (kd bd gp : Int) : Prop := 1 ≤ kd ∧ kd ≤ 5 ∧ 0 ≤ bd ∧ bd ≤ 32 ∧ (bd = 0 ∨ kd = 4) ∧ -1000 ≤ gp ∧ gp ≤ 1000 ∧ (gp = 0 ∨ kd = 5)
instance {kd bd gp : Int} : Decidable (MsOk kd bd gp) := by unfold MsOk; infer_instance
def CutsOk (cuts : List Int) : Prop := (∀ i, 0 ≤ i → i < (cuts.length : Int) → -2000 ≤ rd cuts i ∧ rd cuts i ≤ 2000) ∧ ∀ i, 0 < i → i < (cuts.length : Int) → rd cuts (i - 1) < rd cuts i
theorem SchOk_iff {kd bd gp len n : Int} {cuts : List Int} : SchOk kd bd gp len n cuts ↔ MsOk kd bd gp ∧ 2 ≤ len ∧ len ≤ 32 ∧ 1 ≤ n ∧ n ≤ 8 ∧ n ≤ len ∧ cuts.length ≤ 15 ∧ CutsOk cuts :=
 ⟨fun h => ⟨⟨h.k1, h.k2, h.b1, h.b2, h.b3, h.g1, h.g2, h.g3⟩, h.l1, h.l2, h.n1, h.n2, h.n3, h.c1, h.c2, h.c3⟩, fun ⟨⟨a1, a2, a3, a4, a5, a6, a7, a8⟩, b1, b2, b3, b4, b5, b6, b7, b8⟩ => ⟨a1, a2, a3, a4, a5, a6, a7, a8, b1, b2, b3, b4, b5, b6, b7, b8⟩⟩
theorem r17_checkG {kd bd gp : Int} : Gives (fun k => T_ref17_Check k kd bd gp) (fun r => (r = 0 ∧ MsOk kd bd gp) ∨ (r = 9 ∧ ¬ MsOk kd bd gp)) := by
 refine Gives.step ?_
 simp only [T_ref17_Check]
 refine Gives.bind (Q := fun b => b = decide (¬ MsOk kd bd gp)) ?_ fun b hb => ?_
 · refine Gives.ite (fun d => Gives.now ?_) fun d => Gives.bind (Q := fun _ => True) ?_ fun _ _ => Gives.now ?_
   · have : ¬ MsOk kd bd gp := fun ⟨a1, a2, a3, a4, a5, _⟩ => by simp at d; omega
     rw [decide_eq_true this]
   · refine Gives.step ?_
     simp only [T_ref04_Sample]
     exact Gives.now trivial
   · by_cases e : MsOk kd bd gp
     · have e' := e
       obtain ⟨_, _, _, _, _, a6, a7, a8⟩ := e
       rw [decide_eq_false (fun h : ¬ MsOk kd bd gp => h e')]
       simp; omega
     · have : (!(decide (-1000 ≤ gp) && decide (gp ≤ 1000)) || !decide (kd = 5) && !decide (gp = 0)) = true := by
        unfold MsOk at e
        simp at d ⊢
        omega
       rw [this, decide_eq_true e]
 · subst hb
   refine Gives.ite (fun c => Gives.now (.inr ⟨rfl, by simpa using c⟩)) fun c => Gives.now (.inl ⟨rfl, by simpa using c⟩)
theorem r19_checkG {kd bd gp len n : Int} {cuts : List Int} (hl : cuts.length ≤ 1000) : Gives (fun k => T_ref19_Check k kd bd gp len n cuts) (fun r => (r = 0 ∧ SchOk kd bd gp len n cuts) ∨ (r = 10 ∧ ¬ SchOk kd bd gp len n cuts)) := by
 refine Gives.step ?_
 simp only [T_ref19_Check, SchOk_iff]
 refine Gives.bind r17_checkG fun e he => Gives.ite (fun c => Gives.now (.inr ⟨rfl, fun ⟨a, b1, b2, b3, b4, b5, b6, _⟩ => ?_⟩)) fun c => Gives.bind (Q := fun r => (r = .inl () ∧ CutsOk cuts) ∨ (r = .inr () ∧ ¬ CutsOk cuts)) ?_ fun r hr => ?_
 · rcases he with ⟨rfl, _⟩ | ⟨rfl, h⟩
   · simp at c; omega
   · exact h a
 · refine Gives.loop (fun s => 0 ≤ s ∧ s ≤ (cuts.length : Int) ∧ (∀ i, 0 ≤ i → i < s → -2000 ≤ rd cuts i ∧ rd cuts i ≤ 2000) ∧ ∀ i, 0 < i → i < s → rd cuts (i - 1) < rd cuts i) (fun s => ((cuts.length : Int) - s).toNat) ?_ ⟨by omega, by omega, fun i h0 h1 => by omega, fun i h0 h1 => by omega⟩
   intro s ⟨i0, i1, i2, i3⟩
   unfold T_ref19_Check_l1
   refine Gives.ite (fun cc => Gives.bind (Q := fun b => b = decide (¬ ((-2000 ≤ rd cuts s ∧ rd cuts s ≤ 2000) ∧ (0 < s → rd cuts (s - 1) < rd cuts s)))) (Gives.opt (at_rd i0 cc) ?_) fun b hb => ?_) fun cc => Gives.now (.inl ⟨rfl, fun i h0 h1 => i2 i h0 (by omega), fun i h0 h1 => i3 i h0 (by omega)⟩)
   · refine Gives.ite (fun d => Gives.now ?_) fun d => Gives.ite (fun d2 => ?_) fun d2 => Gives.now ?_
     · have : ¬ ((-2000 ≤ rd cuts s ∧ rd cuts s ≤ 2000) ∧ (0 < s → rd cuts (s - 1) < rd cuts s)) := fun h => by simp at d; omega
       rw [decide_eq_true this]
     · rw [w64_id (x := s - 1) (by omega) (by omega)]
       refine Gives.opt (at_rd (by omega) (by omega)) (Gives.now ?_)
       rw [decide_eq_decide]
       simp at d
       constructor
       · intro h h'; have := h'.2 d2; omega
       · intro h
         refine Decidable.byContradiction fun hn => h ⟨by omega, fun _ => by omega⟩
     · rw [decide_eq_false]
       simp at d
       intro h
       exact h ⟨by omega, fun h => absurd h d2⟩
   · subst hb
     rw [w64_id (x := s + 1) (by omega) (by omega)]
     refine Gives.ite (fun d => Gives.now (.inr ⟨rfl, fun h => ?_⟩)) fun d => Gives.now ⟨⟨by omega, by omega, fun i h0 h1 => ?_, fun i h0 h1 => ?_⟩, by omega⟩
     · rw [decide_eq_true_eq] at d
       exact d ⟨h.1 s i0 cc, fun h0 => h.2 s h0 cc⟩
     · rw [decide_eq_true_eq, Classical.not_not] at d
       by_cases e : i = s
       · subst e; exact d.1
       · exact i2 i h0 (by omega)
     · rw [decide_eq_true_eq, Classical.not_not] at d
       by_cases e : i = s
       · subst e; exact d.2 h0
       · exact i3 i h0 (by omega)
 · have ce : e = 0 := by simp at c; omega
   have m : MsOk kd bd gp := by
    rcases he with ⟨_, h⟩ | ⟨h, _⟩
    · exact h
    · omega
   rcases hr with ⟨rfl, h⟩ | ⟨rfl, h⟩
   · refine Gives.now (.inl ⟨rfl, m, ?_⟩)
     simp at c
     exact ⟨by omega, by omega, by omega, by omega, by omega, by omega, h⟩
   · exact Gives.now (.inr ⟨rfl, fun ⟨_, _, _, _, _, _, _, b⟩ => h b⟩)

/-- So many cuts are at most a number. -/
structure Cnt (cuts : List Int) (c F : Int) : Prop where
 lo : 0 ≤ F
 hi : F ≤ (cuts.length : Int)
 le : ∀ i, 0 ≤ i → i < F → rd cuts i ≤ c
 gt : ∀ i, F ≤ i → i < (cuts.length : Int) → c < rd cuts i
/-- A word of n pieces; a full one. -/
def WOk (n : Int) (sy bi : List Int) : Prop := (sy.length : Int) = n ∧ (bi.length : Int) = n ∧ ∀ p, 0 ≤ p → p < n → 0 ≤ rd bi p ∧ rd bi p ≤ 4 ∧ 0 ≤ rd sy p ∧ rd sy p < 2 ^ (rd bi p).toNat
def FOk (n : Int) (bi : List Int) : Prop := ∀ p, 0 ≤ p → p < n → rd bi p = 4
/-- The full word of some coordinates. -/
structure Word (cuts cs : List Int) (n : Int) (sy bi : List Int) : Prop where
 ok : WOk n sy bi
 full : FOk n bi
 cnt : ∀ p, 0 ≤ p → p < n → Cnt cuts (rd cs p) (rd sy p)
theorem bits_lt {b : Int} (h0 : 0 ≤ b) (h1 : b ≤ 4) : w64 (1 * 2 ^ (Nat.min b.toNat (IntKind.bits .i64))) = 2 ^ b.toNat := by
 rcases (show b = 0 ∨ b = 1 ∨ b = 2 ∨ b = 3 ∨ b = 4 by omega) with e | e | e | e | e <;> subst e <;> decide +kernel
/-- The width of a word's interval of symbols. -/
def wid (b : Int) : Int := 2 ^ (4 - b).toNat
theorem wid_w {b : Int} (h0 : 0 ≤ b) (h1 : b ≤ 4) : (2 : Int) ^ (Nat.min (w64 (4 - b)).toNat (IntKind.bits .i64)) = wid b := by
 rcases (show b = 0 ∨ b = 1 ∨ b = 2 ∨ b = 3 ∨ b = 4 by omega) with e | e | e | e | e <;> subst e <;> decide +kernel
theorem wid_ok {s b : Int} (h0 : 0 ≤ b) (h1 : b ≤ 4) (h2 : 0 ≤ s) (h3 : s < 2 ^ b.toNat) : 1 ≤ wid b ∧ wid b ≤ 16 ∧ 0 ≤ s * wid b ∧ s * wid b + wid b ≤ 16 := by
 unfold wid
 rcases (show b = 0 ∨ b = 1 ∨ b = 2 ∨ b = 3 ∨ b = 4 by omega) with e | e | e | e | e <;> subst e <;> simp at h3 ⊢ <;> omega
/-- Whether a full symbol lies in a word's interval of symbols. -/
def inW (s b F : Int) : Bool := decide (s * wid b ≤ F ∧ F < s * wid b + wid b)
theorem ediv_wid {s b F : Int} (hw : 1 ≤ wid b) : F.fdiv (wid b) = s ↔ s * wid b ≤ F ∧ F < s * wid b + wid b := by
 rw [Int.fdiv_eq_ediv_of_nonneg _ (by omega)]
 constructor
 · intro e
   have a := Int.mul_ediv_self_le (x := F) (k := wid b) (by omega)
   have c := Int.lt_mul_ediv_self_add (x := F) (k := wid b) (by omega)
   rw [e, Int.mul_comm] at a c
   exact ⟨a, c⟩
 · intro ⟨a, c⟩
   have e1 : s ≤ F / wid b := (Int.le_ediv_iff_mul_le (by omega)).2 a
   have e2 : F / wid b < s + 1 := (Int.ediv_lt_iff_lt_mul (by omega)).2 (by rw [Int.add_mul, Int.one_mul]; exact c)
   omega
/-- The interval of a symbol's bits. -/
def ivl (cuts : List Int) (f g : Int) : Int × Int := if (cuts.length : Int) < f then (1, 0) else (if 0 < f then rd cuts (f - 1) else -1099511627776, if g < (cuts.length : Int) then rd cuts g - 1 else 1099511627776)
theorem ivl_in {kd bd gp len n c F s b : Int} {cuts : List Int} (h : SchOk kd bd gp len n cuts) (h0 : 0 ≤ b) (h1 : b ≤ 4) (h2 : 0 ≤ s) (h3 : s < 2 ^ b.toNat) (hc : Cnt cuts c F) (c0 : -1099511627776 ≤ c) (c1 : c ≤ 1099511627776) :
 ((ivl cuts (s * wid b) (s * wid b + wid b - 1)).1 ≤ c ∧ c ≤ (ivl cuts (s * wid b) (s * wid b + wid b - 1)).2) ↔ inW s b F = true := by
 have wk := wid_ok h0 h1 h2 h3
 unfold inW ivl
 simp only [decide_eq_true_eq]
 generalize s * wid b = f at *
 generalize wid b = w at *
 obtain ⟨k0, k1, k2, k3⟩ := hc
 by_cases e : (cuts.length : Int) < f
 · rw [if_pos e]
   simp only []
   omega
 · rw [if_neg e]
   simp only []
   have lo : (if 0 < f then rd cuts (f - 1) else -1099511627776) ≤ c ↔ f ≤ F := by
    split
    · rename_i d
      refine ⟨fun hh => ?_, fun hh => k2 (f - 1) (by omega) (by omega)⟩
      refine Decidable.byContradiction fun hn => ?_
      have := k3 (f - 1) (by omega) (by omega)
      omega
    · omega
   have hi : c ≤ (if f + w - 1 < (cuts.length : Int) then rd cuts (f + w - 1) - 1 else 1099511627776) ↔ F < f + w := by
    split
    · rename_i d
      refine ⟨fun hh => ?_, fun hh => ?_⟩
      · refine Decidable.byContradiction fun hn => ?_
        have := k2 (f + w - 1) (by omega) (by omega)
        omega
      · have := k3 (f + w - 1) (by omega) d
        omega
    · omega
   rw [lo, hi]
/-- A row of intervals. -/
def rpi (r : List (Int × Int)) (p : Int) : Int × Int := r.getD p.toNat (0, 0)
theorem at_rpi {xs : List (Int × Int)} {i : Int} (h0 : 0 ≤ i) (h1 : i < (xs.length : Int)) : at? xs i = some (rpi xs i) := by
 unfold at? rpi
 rw [if_pos h0, List.getD_eq_getElem?_getD, List.getElem?_eq_getElem (by omega)]; rfl
theorem rpi_app_l {xs ys : List (Int × Int)} {i : Int} (h1 : i.toNat < xs.length) : rpi (xs ++ ys) i = rpi xs i := by
 unfold rpi
 rw [List.getD_eq_getElem?_getD, List.getElem?_append_left h1, List.getD_eq_getElem?_getD]
theorem rpi_app_1 {xs : List (Int × Int)} {v : Int × Int} {i : Int} (h0 : 0 ≤ i) (h1 : (xs.length : Int) = i) : rpi (xs ++ [v]) i = v := by
 unfold rpi
 rw [List.getD_eq_getElem?_getD, List.getElem?_append_right (by omega)]
 simp [show i.toNat - xs.length = 0 by omega]
theorem drop_take_len2 {α : Type} {xs : List α} {n : Nat} (h : xs.length = n) : (xs.drop 0).take n = xs := by rw [List.drop_zero, ← h, List.take_length]
def good (sy bi : List Int) (p : Int) : Prop := 0 ≤ rd bi p ∧ rd bi p ≤ 4 ∧ 0 ≤ rd sy p ∧ rd sy p < 2 ^ (rd bi p).toNat
instance {sy bi : List Int} {p : Int} : Decidable (good sy bi p) := by unfold good; infer_instance
theorem r19_region {kd bd gp len n : Int} {cuts sy bi : List Int} (h : SchOk kd bd gp len n cuts) (w : WOk n sy bi) (hv : Gives (fun k => T_ref19_Valid k kd bd gp len n cuts sy bi) (· = true)) : Gives (fun k => T_ref19_Region k kd bd gp len n cuts sy bi) (fun r => r.2 = 0 ∧ (r.1.length : Int) = n ∧ ∀ p, 0 ≤ p → p < n → rpi r.1 p = ivl cuts (rd sy p * wid (rd bi p)) (rd sy p * wid (rd bi p) + wid (rd bi p) - 1)) := by
 have n1 := h.n1
 have n2 := h.n2
 have c1 := h.c1
 refine Gives.step ?_
 simp only [T_ref19_Region]
 refine Gives.bind hv fun a ha => Gives.neg (by simp [ha]) ?_
 obtain ⟨w1, w2, w3⟩ := w
 rw [w2]
 refine Gives.bind (Q := fun r => r.2.length = r.1 ∧ (r.1 : Int) = n ∧ ∀ p, 0 ≤ p → p < n → rpi r.2 p = ivl cuts (rd sy p * wid (rd bi p)) (rd sy p * wid (rd bi p) + wid (rd bi p) - 1)) ?_ fun r hr => Gives.now (by rw [drop_take_len2 hr.1]; exact ⟨rfl, by rw [hr.1]; exact hr.2.1, hr.2.2⟩)
 refine Gives.loop (fun s => 0 ≤ s.2.1 ∧ s.2.1 ≤ n ∧ (s.1 : Int) = s.2.1 ∧ s.2.2.length = s.1 ∧ ∀ p, 0 ≤ p → p < s.2.1 → rpi s.2.2 p = ivl cuts (rd sy p * wid (rd bi p)) (rd sy p * wid (rd bi p) + wid (rd bi p) - 1)) (fun s => (n - s.2.1).toNat) ?_ ⟨by simp only []; omega, by simp only []; omega, rfl, rfl, fun p h0 h1 => by simp only at h1; omega⟩
 intro ⟨l, i, o⟩ ⟨i0, i1, i2, i3, i4⟩
 simp only at i0 i1 i2 i3 i4
 unfold T_ref19_Region_l1
 simp only []
 refine Gives.ite (fun c => Gives.opt (at_rd i0 (by omega)) (Gives.opt (at_rd i0 (by omega)) ?_)) fun c => Gives.now ⟨i3, by simp only []; omega, fun p h0 h1 => i4 p h0 (by omega)⟩
 obtain ⟨b0, b1, s0, s1⟩ := w3 i i0 c
 have wk := wid_ok b0 b1 s0 s1
 have b4 : 0 ≤ w64 (4 - rd bi i) := by rw [w64_id (by omega) (by omega)]; omega
 refine Gives.pos b4 (Gives.opt (at_rd i0 (by omega)) (Gives.pos b4 ?_))
 rw [wid_w b0 b1, Int.one_mul, w64_id (x := i + 1) (by omega) (by omega), drop_take_len2 i3]
 have q : ∀ p, 0 ≤ p → p < i + 1 → ∀ v, v = ivl cuts (rd sy i * wid (rd bi i)) (rd sy i * wid (rd bi i) + wid (rd bi i) - 1) → rpi (o ++ [v]) p = ivl cuts (rd sy p * wid (rd bi p)) (rd sy p * wid (rd bi p) + wid (rd bi p) - 1) := fun p h0 h1 v hv => by
  by_cases e : p = i
  · subst e; rw [rpi_app_1 h0 (by omega), hv]
  · rw [rpi_app_l (by omega)]; exact i4 p h0 (by omega)
 clear i4
 generalize rd sy i * wid (rd bi i) = f at *
 generalize wid (rd bi i) = w at *
 rw [w64_id (x := f) (by omega) (by omega), w64_id (x := w) (by omega) (by omega), w64_id (x := f + w) (by omega) (by omega), w64_id (x := f + w - 1) (by omega) (by omega), w64_id (x := f - 1) (by omega) (by omega)]
 unfold ivl at q
 refine Gives.bind (Q := fun r => f ≤ (cuts.length : Int) → r = if 0 < f then rd cuts (f - 1) else -1099511627776) ?_ fun lo hlo => Gives.bind (Q := fun r => r = if f + w - 1 < (cuts.length : Int) then rd cuts (f + w - 1) - 1 else 1099511627776) ?_ fun hi hhi => Gives.bind (Q := fun r => r = if (cuts.length : Int) < f then (1, 0) else (if 0 < f then rd cuts (f - 1) else -1099511627776, if f + w - 1 < (cuts.length : Int) then rd cuts (f + w - 1) - 1 else 1099511627776)) ?_ fun v hv => Gives.pos (by unfold LIM; omega) (Gives.now ⟨⟨by simp only []; omega, by simp only []; omega, by simp only []; omega, by simp [i3], fun p h0 h1 => q p h0 h1 _ hv⟩, by simp only []; omega⟩)
 · refine Gives.ite (fun d => ?_) fun d => Gives.now fun d2 => ?_
   · have d' : 0 < f ∧ f ≤ (cuts.length : Int) := by simpa using d
     exact Gives.opt (at_rd (by omega) (by omega)) (Gives.now fun _ => by rw [if_pos d'.1])
   · have d' : ¬ 0 < f := by simp at d; omega
     rw [if_neg d']
 · refine Gives.ite (fun d => Gives.opt (at_rd (by omega) (by omega)) ?_) fun d => Gives.now (by rw [if_neg d])
   have := h.c2 (f + w - 1) (by omega) d
   rw [w64_id (by omega) (by omega)]
   exact Gives.now (by rw [if_pos d])
 · refine Gives.ite (fun d => Gives.now (by rw [if_pos d])) fun d => Gives.now ?_
   rw [if_neg d, hlo (by omega), hhi]
/-! The coordinates of the document. -/
noncomputable def coo (kd : Int) (x : List Int) (n p : Int) : Int :=
 if kd = 2 then pcc x n p / ((x.length : Int) * (cut x.length n (p + 1) - cut x.length n p))
 else if kd = 3 then if (x.length : Int) * selfP x = 0 then 0 else QQ (64 * pcc x n p) ((x.length : Int) * selfP x)
 else pcs x n p / (cut x.length n (p + 1) - cut x.length n p)
theorem energy_ok {x : List Int} (hx : Win x) : 0 ≤ (x.length : Int) * selfP x ∧ (x.length : Int) * selfP x ≤ 128000000000 := by
 have x1 := hx.lo
 have x2 := hx.hi
 have b := selfP_bound hx
 have p0 : 0 ≤ selfP x := by rw [selfP_prod]; exact prodP_nonneg (by omega)
 have h0 := Int.mul_nonneg (show 0 ≤ (x.length : Int) by omega) p0
 have h1 := prod_bound (a := (x.length : Int)) (b := selfP x) (A := 32) (B := 4000000000) (by omega) (by omega) (by omega) (by omega)
 exact ⟨h0, by omega⟩

/-! Chapter 19 of the document: coordinates and full words. -/
theorem r19_coordinates {kd bd gp n : Int} {cuts x : List Int} (h : SchOk kd bd gp x.length n cuts) (hx : Win x) : Gives (fun k => T_ref19_Coordinates k kd bd gp x.length n cuts x) (fun r => r.2 = 0 ∧ (r.1.length : Int) = n ∧ ∀ p, 0 ≤ p → p < n → rd r.1 p = coo kd x n p) := by
 have x1 := hx.lo
 have x2 := hx.hi
 have n1 := h.n1
 have n2 := h.n2
 have n3 := h.n3
 have c1 := h.c1
 have en := energy_ok hx
 obtain ⟨m, rfl⟩ : ∃ m : Nat, n = m := ⟨n.toNat, by omega⟩
 have hl : ∀ p, 0 ≤ p → p < (m : Int) → 1 ≤ cut x.length m (p + 1) - cut x.length m p := fun p h0 h1 => (wt_ok (m := x.length) (n := m) (p := p) x2 (by omega) (by omega) (by omega) h0 h1).2.2.1
 refine Gives.step ?_
 simp only [T_ref19_Coordinates]
 refine Gives.bind (Q := fun r => r = 0) ?_ fun e he => ?_
 · refine Gives.step ?_
   simp only [T_ref19_Fits]
   refine Gives.bind (r19_checkG (by omega)) fun e he => ?_
   rcases he with ⟨rfl, _⟩ | ⟨_, hn⟩
   · exact Gives.neg (by simp) (Gives.neg (by simp) (Gives.bind (r12_samples hx) fun v hv => Gives.now hv))
   · exact absurd h hn
 subst he
 refine Gives.neg (by simp) (Gives.bind (f18_starts (m := x.length) (n := m) x1 x2 (by omega) (by omega) (by omega)) fun S hS => Gives.bind (f18_sums (n := m) hx (by omega) (by omega) (by omega)) fun a ha => Gives.bind (f18_centred (n := m) hx (by omega) (by omega) (by omega)) fun b hb => Gives.bind (rf_Product hx hx rfl) fun E hE => ?_)
 obtain ⟨_, S2, S3⟩ := hS
 obtain ⟨_, a2, a3⟩ := ha
 obtain ⟨_, b2, b3⟩ := hb
 have e1 : w64 ((x.length : Int) * E.1) = (x.length : Int) * selfP x := by
  rw [hE.1, ← selfP_prod, w64_id (by omega) (by omega)]
 rw [a2]
 refine Gives.bind (Q := fun r => r.2.length = r.1 ∧ r.1 = m ∧ ∀ p, 0 ≤ p → p < (m : Int) → rd r.2 p = coo kd x m p) ?_ fun r hr => Gives.now (by rw [drop_take_len hr.1]; exact ⟨rfl, by simp only []; omega, hr.2.2⟩)
 refine Gives.loop (fun s => 0 ≤ s.2.1 ∧ s.2.1 ≤ (m : Int) ∧ (s.1 : Int) = s.2.1 ∧ s.2.2.length = s.1 ∧ ∀ p, 0 ≤ p → p < s.2.1 → rd s.2.2 p = coo kd x m p) (fun s => ((m : Int) - s.2.1).toNat) ?_ ⟨by simp only []; omega, by simp only []; omega, rfl, rfl, fun p h0 h1 => by simp only at h1; omega⟩
 intro ⟨l, i, o⟩ ⟨i0, i1, i2, i3, i4⟩
 simp only at i0 i1 i2 i3 i4
 unfold T_ref19_Coordinates_l1
 simp only []
 rw [w64_id (x := i + 1) (by omega) (by omega)]
 refine Gives.ite (fun c => Gives.opt (at_rd (by omega) (by omega)) (Gives.opt (at_rd i0 (by omega)) (Gives.opt (at_rd i0 (by omega)) ?_))) fun c => Gives.now ⟨i3, by simp only []; omega, fun p h0 h1 => i4 p h0 (by omega)⟩
 have k1 := cut_range (m := (x.length : Int)) (n := (m : Int)) (p := i) n1 (by omega) i0 (by omega)
 have k2 := cut_range (m := (x.length : Int)) (n := (m : Int)) (p := i + 1) n1 (by omega) (by omega) (by omega)
 have hli := hl i i0 c
 have bs := pcs_bound hx n1 i0 c
 have bc := pcc_bound hx n1 i0 c
 rw [S3 i i0 (by omega), S3 (i + 1) (by omega) (by omega), a3 i i0 c, w64_id (x := cut x.length m (i + 1) - cut x.length m i) (by omega) (by omega), e1]
 refine Gives.bind (r04_down (by omega) (by omega) (by omega) (by omega)) fun d hd => ?_
 refine Gives.bind (Q := fun r => r = coo kd x m i) ?_ fun r hr => ?_
 · unfold coo
   refine Gives.ite (fun k => Gives.opt (at_rd i0 (by omega)) ?_) fun k => Gives.ite (fun k3 => Gives.opt (at_rd i0 (by omega)) ?_) fun k3 => Gives.now ?_
   · rw [if_pos k, b3 i i0 c]
     have lp := prod_bound (a := (x.length : Int)) (b := cut x.length m (i + 1) - cut x.length m i) (A := 32) (B := 32) (by omega) (by omega) (by omega) (by omega)
     have l0 := Int.mul_pos (show 0 < (x.length : Int) by omega) (show 0 < cut x.length m (i + 1) - cut x.length m i by omega)
     rw [w64_id (x := (x.length : Int) * (cut x.length m (i + 1) - cut x.length m i)) (by omega) (by omega)]
     exact Gives.bind (r04_down l0 (by omega) (by omega) (by omega)) fun r hr => Gives.now hr
   · rw [if_neg k, if_pos k3, b3 i i0 c, w64_id (x := 64 * pcc x m i) (by omega) (by omega)]
     by_cases z : (x.length : Int) * selfP x = 0
     · rw [if_pos z, z]
       exact Gives.bind r02_quotient0 fun r hr => Gives.now hr
     · rw [if_neg z]
       exact Gives.bind (r02_quotient ⟨by omega, by omega, by omega, by omega⟩) fun r hr => Gives.now (by rw [hr])
   · rw [if_neg k, if_neg k3]; exact hd
 · rw [drop_take_len i3]
   refine Gives.pos (by unfold LIM; omega) (Gives.now ⟨⟨by simp only []; omega, by simp only []; omega, by simp only []; omega, by simp [i3], fun p h0 h1 => ?_⟩, by simp only []; omega⟩)
   simp only at h1 ⊢
   by_cases e : p = i
   · subst e; rw [rd_app_1 h0 (by omega), hr]
   · rw [rd_app_l (by omega)]; exact i4 p h0 (by omega)
/-! Sketches of any kind. -/
structure Dim (m n : Int) : Prop where
 m1 : 2 ≤ m
 m2 : m ≤ 32
 n1 : 1 ≤ n
 n2 : n ≤ 8
 n3 : n ≤ m
def ln (m n p : Int) : Int := cut m n (p + 1) - cut m n p
theorem Dim.len {m n p : Int} (h : Dim m n) (p0 : 0 ≤ p) (p1 : p < n) : 1 ≤ ln m n p ∧ ln m n p ≤ 32 := by
 obtain ⟨a, rfl⟩ : ∃ a : Nat, m = a := ⟨m.toNat, by have := h.m1; omega⟩
 obtain ⟨b, rfl⟩ : ∃ b : Nat, n = b := ⟨n.toNat, by have := h.n1; omega⟩
 have := wt_ok (m := a) (n := b) (p := p) (by have := h.m2; omega) (by have := h.n1; omega) (by have := h.n2; omega) (by have := h.n3; omega) p0 p1
 exact ⟨this.2.2.1, this.2.2.2.1⟩
theorem Dim.not {m n : Int} (h : ¬ Dim m n) : m < 2 ∨ 32 < m ∨ badN m n := by
 unfold badN
 refine Decidable.byContradiction fun hn => h ⟨by omega, by omega, by omega, by omega, by omega⟩
theorem pc_startsB {m n : Int} (h : ¬ Dim m n) : Gives (fun k => T_pieces_Starts k m n) (fun r => r.2 ≠ 0) := by
 have h := Dim.not h
 refine Gives.step ?_
 simp only [T_pieces_Starts]
 refine Gives.ite (fun c => Gives.now (by simp)) fun c => Gives.bind (pc_number _ _) fun _ _ => Gives.pos ?_ (Gives.now (by simp))
 unfold badN at h; simp at c ⊢; omega
theorem sk_lengthsB {m E : Int} {s : List Int} (h : ¬ Dim m s.length) : Gives (fun k => T_sketch_lengths k m s E) (fun r => r = []) := by
 refine Gives.step ?_
 simp only [T_sketch_lengths]
 exact Gives.bind (pc_startsB h) fun a ha => Gives.pos (by simpa using ha) (Gives.now rfl)
theorem sk_lengthsV {m E : Int} {s : List Int} (h : Dim m s.length) : Gives (fun k => T_sketch_lengths k m s E) (fun r => (r.length : Int) = s.length ∧ ∀ p, 0 ≤ p → p < (s.length : Int) → rd r p = ln m s.length p) := by
 obtain ⟨m1, m2, n1, n2, n3⟩ := h
 refine Gives.step ?_
 simp only [T_sketch_lengths]
 refine Gives.bind (pc_starts m1 m2 n1 n2 n3) fun a ha => ?_
 obtain ⟨a1, a2, a3⟩ := ha
 refine Gives.neg (by simp [a1]) (Gives.bind (Q := fun r => (r.1 : Int) = s.length ∧ r.2.length = r.1 ∧ ∀ p, 0 ≤ p → p < (s.length : Int) → rd r.2 p = ln m s.length p) ?_ fun r hr => ?_)
 · refine Gives.loop (fun t => 0 ≤ t.2.1 ∧ t.2.1 ≤ (s.length : Int) ∧ (t.1 : Int) = t.2.1 ∧ t.2.2.length = t.1 ∧ ∀ p, 0 ≤ p → p < t.2.1 → rd t.2.2 p = ln m s.length p) (fun t => ((s.length : Int) - t.2.1).toNat) ?_ ⟨by simp only []; omega, by simp only []; omega, rfl, rfl, fun p h1 h2 => by simp only at h2; omega⟩
   intro ⟨l, i, o⟩ ⟨i1, i2, i3, i4, i5⟩
   simp only at i1 i2 i3 i4 i5
   unfold T_sketch_lengths_l1
   simp only []
   refine Gives.ite (fun c => ?_) fun c => Gives.now ⟨by simp only []; omega, i4, fun p h1 h2 => i5 p h1 (by omega)⟩
   have k1 := cut_range (m := m) (n := (s.length : Int)) (p := i) (by omega) (by omega) (by omega) (by omega)
   have k2 := cut_range (m := m) (n := (s.length : Int)) (p := i + 1) (by omega) (by omega) (by omega) (by omega)
   rw [w64_id (x := i + 1) (by omega) (by omega), drop_take_len i4]
   refine Gives.opt (at_rd (by omega) (by omega)) (Gives.opt (at_rd i1 (by omega)) (Gives.pos (by unfold LIM; omega) ?_))
   rw [a3 (i + 1) (by omega) (by omega), a3 i i1 (by omega), w64_id (x := cut m s.length (i + 1) - cut m s.length i) (by omega) (by omega)]
   refine Gives.now ⟨⟨by simp only []; omega, by simp only []; omega, by simp only []; omega, by simp [i4], fun p h1 h2 => ?_⟩, by simp only []; omega⟩
   simp only at h2 ⊢
   by_cases e : p = i
   · subst e; rw [rd_app_1 h1 (by omega)]; rfl
   · rw [rd_app_l (by omega)]; exact i5 p h1 (by omega)
 · rw [drop_take_len hr.2.1]
   exact Gives.now ⟨by rw [hr.2.1]; exact hr.1, hr.2.2⟩
/-- What a piece's sum says of the energy. -/
def kq (m : Int) (s : List Int) (p : Int) : Int := rd s p * rd s p / ln m s.length p
def Bd (s : List Int) (p : Int) : Prop := -2097152 ≤ rd s p ∧ rd s p ≤ 2097152
structure SkV (m : Int) (s : List Int) (E : Int) : Prop where
 dim : Dim m s.length
 e0 : 0 ≤ E
 e1 : E ≤ m * m * m * 1000000
 e2 : E % m = 0
 sb : ∀ p, 0 ≤ p → p < (s.length : Int) → Bd s p
 kn : sg (kq m s) s.length ≤ E
theorem kq_bd {m p : Int} {s : List Int} (h : Dim m s.length) (p0 : 0 ≤ p) (p1 : p < (s.length : Int)) (b : Bd s p) : 0 ≤ kq m s p ∧ kq m s p ≤ 4398046511104 ∧ 0 ≤ rd s p * rd s p ∧ rd s p * rd s p ≤ 4398046511104 ∧ 1 ≤ ln m s.length p ∧ ln m s.length p ≤ 32 := by
 have q := prod_bound (a := rd s p) (b := rd s p) (A := 2097152) (B := 2097152) b.1 b.2 b.1 b.2
 have z := sq_nonneg (rd s p)
 have w := h.len p0 p1
 unfold kq
 exact ⟨Int.ediv_nonneg z (by omega), Int.le_trans (Int.ediv_le_self _ z) (by omega), z, by omega, w.1, w.2⟩
theorem sg_kq {m : Int} {s : List Int} (h : Dim m s.length) {j : Nat} (hj : j ≤ s.length) (b : ∀ p, 0 ≤ p → p < (j : Int) → Bd s p) : 0 ≤ sg (kq m s) j ∧ sg (kq m s) j ≤ 4398046511104 * j := by
 have f := fun p p0 p1 => kq_bd h (p := p) p0 (by omega) (b p p0 p1)
 exact ⟨sg_nonneg fun p p0 p1 => (f p p0 p1).1, (sg_bound (B := 4398046511104) fun p p0 p1 => by have := f p p0 p1; omega).2⟩
theorem sk_knownV {m E : Int} {s : List Int} (h : Dim m s.length) (b : ∀ p, 0 ≤ p → p < (s.length : Int) → Bd s p) : Gives (fun k => T_sketch_known k m s E) (fun r => r = sg (kq m s) s.length) := by
 have n2 := h.n2
 refine Gives.step ?_
 simp only [T_sketch_known]
 refine Gives.bind (sk_lengthsV h) fun o ho => ?_
 refine Gives.bind (Q := fun r => r = sg (kq m s) s.length) ?_ fun r hr => Gives.now hr
 rw [ho.1]
 refine Gives.loop (fun t => 0 ≤ t.2 ∧ t.2 ≤ (s.length : Int) ∧ t.1 = sg (kq m s) t.2.toNat) (fun t => ((s.length : Int) - t.2).toNat) ?_ ⟨by simp only []; omega, by simp only []; omega, rfl⟩
 intro ⟨a, i⟩ ⟨i1, i2, i3⟩
 simp only at i1 i2 i3
 unfold T_sketch_known_l1
 simp only []
 refine Gives.ite (fun c => Gives.opt (at_rd i1 (by omega)) (Gives.opt (at_rd i1 (by omega)) ?_)) fun c => Gives.now ?_
 · have g := sg_kq h (j := i.toNat) (by omega) fun p p0 p1 => b p p0 (by omega)
   rw [← i3] at g
   have e := kq_bd h i1 c (b i i1 c)
   have ee : kq m s i = rd s i * rd s i / ln m s.length i := rfl
   rw [ho.2 i i1 c, w64_id (x := rd s i * rd s i) (by omega) (by omega), Int.tdiv_eq_ediv_of_nonneg e.2.2.1, ← ee, w64_id (x := kq m s i) (by omega) (by omega), w64_id (x := a + _) (by omega) (by omega), w64_id (x := i + 1) (by omega) (by omega)]
   refine Gives.pos (by omega) (Gives.now ⟨⟨by simp only []; omega, by simp only []; omega, ?_⟩, by simp only []; omega⟩)
   simp only []
   rw [show (i + 1).toNat = i.toNat + 1 by omega, sg, ← i3, Int.toNat_of_nonneg i1]
 · rw [i3, show i.toNat = s.length by omega]
theorem cube {m : Int} (h1 : 2 ≤ m) (h2 : m ≤ 32) : w64 (w64 (w64 (w64 (m * m) * m) * 1000) * 1000) = m * m * m * 1000000 ∧ 0 ≤ m * m * m * 1000000 ∧ m * m * m * 1000000 ≤ 32768000000 := by
 have a := prod_bound (a := m) (b := m) (A := 32) (B := 32) (by omega) (by omega) (by omega) (by omega)
 have a0 := sq_nonneg m
 have c := prod_bound (a := m * m) (b := m) (A := 1024) (B := 32) (by omega) (by omega) (by omega) (by omega)
 have c0 := Int.mul_nonneg a0 (show 0 ≤ m by omega)
 rw [w64_id (x := m * m) (by omega) (by omega), w64_id (x := m * m * m) (by omega) (by omega), w64_id (x := m * m * m * 1000) (by omega) (by omega), w64_id (x := m * m * m * 1000 * 1000) (by omega) (by omega)]
 omega
theorem sk_validG {m E : Int} {s : List Int} : Gives (fun k => T_sketch_valid k m s E) (fun r => (r = true ∧ SkV m s E) ∨ (r = false ∧ ¬ SkV m s E)) := by
 refine Gives.step ?_
 simp only [T_sketch_valid]
 by_cases h : Dim m s.length
 · obtain ⟨q1, q2, q3⟩ := cube h.m1 h.m2
   have m1 := h.m1
   have n1 := h.n1
   have n2 := h.n2
   refine Gives.bind (Q := fun b => (b = true ∧ ¬ (0 ≤ E ∧ E ≤ m * m * m * 1000000 ∧ E % m = 0)) ∨ (b = false ∧ 0 ≤ E ∧ E ≤ m * m * m * 1000000 ∧ E % m = 0)) ?_ fun b hb => ?_
   · refine Gives.bind (sk_lengthsV h) fun o ho => ?_
     have o0 : ¬ (o.length : Int) = 0 := by omega
     rw [q1, decide_eq_false o0, Bool.false_or]
     refine Gives.ite (fun c => Gives.now (.inl ⟨rfl, ?_⟩)) fun c => Gives.pos (by omega) (Gives.now ?_)
     · simp at c; omega
     · have c' : 0 ≤ E ∧ E ≤ m * m * m * 1000000 := by simp at c; omega
       rw [Int.tmod_eq_emod_of_nonneg c'.1]
       by_cases d : E % m = 0
       · exact .inr ⟨by simp [d], c'.1, c'.2, d⟩
       · exact .inl ⟨by simp [d], fun hh => d hh.2.2⟩
   · rcases hb with ⟨rfl, hb⟩ | ⟨rfl, e0, e1, e2⟩
     · exact Gives.pos rfl (Gives.now (.inr ⟨rfl, fun v => hb ⟨v.e0, v.e1, v.e2⟩⟩))
     · refine Gives.neg (by simp) (Gives.bind (Q := fun r => (r = .inl () ∧ ∀ p, 0 ≤ p → p < (s.length : Int) → Bd s p) ∨ (r = .inr () ∧ ∃ p, 0 ≤ p ∧ p < (s.length : Int) ∧ ¬ Bd s p)) ?_ fun r hr => ?_)
       · refine Gives.loop (fun t => 0 ≤ t ∧ t ≤ (s.length : Int) ∧ ∀ p, 0 ≤ p → p < t → Bd s p) (fun t => ((s.length : Int) - t).toNat) ?_ ⟨by omega, by omega, fun p h0 h1 => by omega⟩
         intro i ⟨i0, i1, i2⟩
         unfold T_sketch_valid_l1
         refine Gives.ite (fun c => Gives.opt (at_rd i0 c) (Gives.ite (fun d => Gives.now (.inr ⟨rfl, i, i0, c, fun bd => ?_⟩)) fun d => ?_)) fun c => Gives.now (.inl ⟨rfl, fun p p0 p1 => i2 p p0 (by omega)⟩)
         · have := bd.1; have := bd.2; simp at d; omega
         · rw [w64_id (by omega) (by omega)]
           refine Gives.now ⟨⟨by omega, by omega, fun p p0 p1 => ?_⟩, by omega⟩
           by_cases e : p = i
           · subst e; simp at d; exact ⟨by omega, by omega⟩
           · exact i2 p p0 (by omega)
       · rcases hr with ⟨rfl, hr⟩ | ⟨rfl, p, p0, p1, hr⟩
         · refine Gives.bind (sk_knownV h hr) fun v hv => Gives.now ?_
           subst hv
           by_cases d : sg (kq m s) s.length ≤ E
           · exact .inl ⟨by simp [d], h, e0, e1, e2, hr, d⟩
           · exact .inr ⟨by simp [d], fun v => d v.kn⟩
         · exact Gives.now (.inr ⟨rfl, fun v => hr (v.sb p p0 p1)⟩)
 · refine Gives.bind (Q := fun b => b = true) ?_ fun b hb => Gives.pos hb (Gives.now (.inr ⟨rfl, fun v => h v.dim⟩))
   refine Gives.bind (sk_lengthsB h) fun o ho => ?_
   subst ho
   exact Gives.pos (by simp) (Gives.now rfl)
/-! Roots rounded up. -/
noncomputable def rtc (v : Int) : Int := if rtf v * rtf v < v then rtf v + 1 else rtf v
theorem rtc_ok {v : Int} (h0 : 0 ≤ v) (h1 : v ≤ 34359738368) : 0 ≤ rtc v ∧ rtc v ≤ 300000 ∧ rtc v * rtc v ≤ v + 524289 ∧ Gives (fun k => T_root_Ceil k v) (fun r => r = rtc v) ∧ Gives (fun k => T_ref02_Ceil k v) (fun r => r = rtc v) := by
 obtain ⟨g, r0, _, r1, r2⟩ := rt_rtf h0 (show v ≤ 4611686018427387904 by omega)
 have g2 := r02_floor h0 (show v ≤ 4611686018427387904 by omega)
 unfold rtc
 generalize rtf v = r at *
 have sm : r ≤ 262144 := by
  refine Decidable.byContradiction fun hn => ?_
  have := Int.mul_le_mul (a := 262145) (b := 262145) (c := r) (d := r) (by omega) (by omega) (by omega) (by omega)
  omega
 have rr := sq_nonneg r
 have e : (r + 1) * (r + 1) = r * r + r + r + 1 := by grind
 refine ⟨by split <;> omega, by split <;> omega, by split <;> omega, ?_, ?_⟩
 · refine Gives.step ?_
   simp only [T_root_Ceil]
   refine Gives.bind g fun x hx => Gives.bind (Q := fun u => u = if r * r < v then r + 1 else r) ?_ fun u hu => Gives.now hu
   subst hx
   rw [w64_id (x := x * x) (by omega) (by omega), w64_id (x := x + 1) (by omega) (by omega)]
   refine Gives.ite (fun c => Gives.now ?_) fun c => Gives.now ?_
   · rw [if_pos (by simp at c; omega)]
   · rw [if_neg (by simp at c; omega)]
 · refine Gives.step ?_
   simp only [T_ref02_Ceil]
   refine Gives.bind g2 fun x hx => ?_
   subst hx
   rw [w64_id (x := x * x) (by omega) (by omega), w64_id (x := x + 1) (by omega) (by omega)]
   refine Gives.ite (fun c => Gives.now ?_) fun c => Gives.now ?_
   · rw [if_pos (by simp at c; omega)]
   · rw [if_neg (by simp at c; omega)]
/-! Upper. -/
def uq (m : Int) (s t : List Int) (p : Int) : Int := -((-(rd s p * rd t p)) / ln m s.length p)
theorem two_mul_le (a b : Int) : 2 * (a * b) ≤ a * a + b * b ∧ -(a * a + b * b) ≤ 2 * (a * b) := by
 have x := sq_nonneg (a - b)
 have y := sq_nonneg (a + b)
 have e1 : (a - b) * (a - b) = a * a + b * b - 2 * (a * b) := by grind
 have e2 : (a + b) * (a + b) = a * a + b * b + 2 * (a * b) := by grind
 omega
theorem up_div {v l : Int} (hl : 1 ≤ l) : v ≤ -(-v / l) * l ∧ -(-v / l) * l ≤ v + l - 1 := by
 have a := Int.mul_ediv_self_le (x := -v) (k := l) (by omega)
 have b := Int.lt_mul_ediv_self_add (x := -v) (k := l) (by omega)
 have e : -(-v / l) * l = -(l * (-v / l)) := by rw [Int.neg_mul, Int.mul_comm]
 omega
theorem uq_bd {m p : Int} {s t : List Int} (h : Dim m s.length) (hl : t.length = s.length) (p0 : 0 ≤ p) (p1 : p < (s.length : Int)) (b : Bd s p) (c : Bd t p) : -(kq m s p + kq m t p + 3) ≤ 2 * uq m s t p ∧ 2 * uq m s t p ≤ kq m s p + kq m t p + 3 := by
 have w := h.len p0 p1
 have a := two_mul_le (rd s p) (rd t p)
 unfold uq kq
 rw [hl]
 generalize ln m s.length p = l at *
 have k1 := Int.lt_mul_ediv_self_add (x := rd s p * rd s p) (k := l) (by omega)
 have k2 := Int.lt_mul_ediv_self_add (x := rd t p * rd t p) (k := l) (by omega)
 have u := up_div (v := rd s p * rd t p) (l := l) w.1
 generalize rd s p * rd t p = v at *
 generalize rd s p * rd s p = x at *
 generalize rd t p * rd t p = y at *
 generalize x / l = kx at *
 generalize y / l = ky at *
 generalize -(-v / l) = z at *
 have e1 : l * kx = kx * l := Int.mul_comm _ _
 have e2 : l * ky = ky * l := Int.mul_comm _ _
 constructor
 · refine Decidable.byContradiction fun hn => ?_
   have := Int.mul_le_mul_of_nonneg_right (show 2 * z + 1 ≤ -(kx + ky + 3) by omega) (show 0 ≤ l by omega)
   have e3 : (2 * z + 1) * l = 2 * (z * l) + l := by grind
   have e4 : -(kx + ky + 3) * l = -(kx * l) - ky * l - 3 * l := by grind
   omega
 · refine Decidable.byContradiction fun hn => ?_
   have := Int.mul_le_mul_of_nonneg_right (show kx + ky + 3 + 1 ≤ 2 * z by omega) (show 0 ≤ l by omega)
   have e3 : 2 * z * l = 2 * (z * l) := by grind
   have e4 : (kx + ky + 3 + 1) * l = kx * l + ky * l + 4 * l := by grind
   omega
theorem sg_uq {m : Int} {s t : List Int} (h : Dim m s.length) (hl : t.length = s.length) : ∀ {j : Nat}, j ≤ s.length → (∀ p, 0 ≤ p → p < (j : Int) → Bd s p ∧ Bd t p) → -(sg (kq m s) j + sg (kq m t) j + 3 * j) ≤ 2 * sg (uq m s t) j ∧ 2 * sg (uq m s t) j ≤ sg (kq m s) j + sg (kq m t) j + 3 * j
 | 0, _, _ => by simp [sg]
 | j + 1, hj, hb => by
  have ih := sg_uq h hl (j := j) (by omega) fun p p0 p1 => hb p p0 (by omega)
  obtain ⟨b, c⟩ := hb j (by omega) (by omega)
  have u := uq_bd h hl (p := (j : Int)) (by omega) (by omega) b c
  rw [sg, sg, sg]
  omega
noncomputable def upV (m : Int) (s t : List Int) (E F : Int) : Int := (sg (uq m s t) s.length + rtc (E - sg (kq m s) s.length) * rtc (F - sg (kq m t) s.length)) / m
structure Two (m : Int) (s t : List Int) (E F : Int) : Prop where
 a : SkV m s E
 b : SkV m t F
 l : t.length = s.length
theorem Two.bound {m E F : Int} {s t : List Int} (h : Two m s t E F) : (0 ≤ sg (kq m s) s.length ∧ 0 ≤ sg (kq m t) s.length ∧ 0 ≤ E - sg (kq m s) s.length ∧ E - sg (kq m s) s.length ≤ 34359738368 ∧ 0 ≤ F - sg (kq m t) s.length ∧ F - sg (kq m t) s.length ≤ 34359738368) ∧
 (-100000000000 ≤ sg (uq m s t) s.length ∧ sg (uq m s t) s.length ≤ 100000000000 ∧ 0 ≤ rtc (E - sg (kq m s) s.length) * rtc (F - sg (kq m t) s.length) ∧ rtc (E - sg (kq m s) s.length) * rtc (F - sg (kq m t) s.length) ≤ 90000000000) ∧ -1024600000 ≤ upV m s t E F ∧ upV m s t E F ≤ 1024600000 := by
 obtain ⟨A, B, l⟩ := h
 obtain ⟨q1, q2, q3⟩ := cube A.dim.m1 A.dim.m2
 have m1 := A.dim.m1
 have m2 := A.dim.m2
 have n2 := A.dim.n2
 have ka := A.kn
 have kb := B.kn
 rw [l] at kb
 have ga := (sg_kq A.dim (Nat.le_refl _) A.sb).1
 have gb := (sg_kq B.dim (Nat.le_refl _) B.sb).1
 rw [l] at gb
 have a1 := A.e1
 have b1 := B.e1
 have u := sg_uq A.dim l (Nat.le_refl _) fun p p0 p1 => ⟨A.sb p p0 p1, B.sb p p0 (by rw [l]; exact p1)⟩
 unfold upV
 generalize sg (kq m s) s.length = K at *
 generalize sg (kq m t) s.length = L at *
 generalize sg (uq m s t) s.length = U at *
 obtain ⟨x0, x1, x2, _⟩ := rtc_ok (v := E - K) (by omega) (by omega)
 obtain ⟨y0, y1, y2, _⟩ := rtc_ok (v := F - L) (by omega) (by omega)
 generalize rtc (E - K) = x at *
 generalize rtc (F - L) = y at *
 have t2 := two_mul_le x y
 have xy := Int.mul_nonneg x0 y0
 have xb := prod_bound (a := x) (b := y) (A := 300000) (B := 300000) (by omega) (by omega) (by omega) (by omega)
 have mm := prod_bound (a := m) (b := m) (A := 32) (B := 32) (by omega) (by omega) (by omega) (by omega)
 have mm0 := sq_nonneg m
 have eL : -(m * m * 1000000 + 524400) * m = -(m * m * m * 1000000) - m * 524400 := by grind
 have eK : (m * m * 1000000 + 524400) * m = m * m * m * 1000000 + m * 524400 := by grind
 have lo : -(m * m * 1000000 + 524400) ≤ (U + x * y) / m := Int.le_ediv_of_mul_le (by omega) (by omega)
 have hi : (U + x * y) / m ≤ m * m * 1000000 + 524400 := Int.ediv_le_of_le_mul (by omega) (by omega)
 exact ⟨⟨ga, gb, by omega, by omega, by omega, by omega⟩, ⟨by omega, by omega, xy, by omega⟩, by omega, by omega⟩
/-! Upper and Gap of sketches of any kind. -/
def mkr (m n : Nat) : Int × Int × Int := (((m / Nat.gcd m n : Nat) : Int), ((n / Nat.gcd m n : Nat) : Int), 0)
theorem mk_make {m n : Int} (hm : 0 ≤ m) (hn : 0 < n) (h1 : m ≤ 2305843009213693952) (h2 : n ≤ 1152921504606846976) : Gives (fun k => T_ratio_Make k m n) (fun r => r = mkr m.toNat n.toNat) := by
 have := ra_Make (m := m.toNat) (n := n.toNat) (by omega) (by omega) (by omega)
 rw [show (m.toNat : Int) = m by omega, show (n.toNat : Int) = n by omega] at this
 exact this
theorem mkr_rep {m n : Nat} (hn : 0 < n) : Rep (m / Nat.gcd m n) (n / Nat.gcd m n) m n := by
 have R := Rep.make (m := m) (n := n) (w := 1) hn
 rw [Nat.mul_one, Nat.mul_one] at R
 exact R
theorem mkr01 : mkr 0 1 = (0, 1, 0) := by decide +kernel
theorem mkr11 : mkr 1 1 = (1, 1, 0) := by decide +kernel
theorem mkr21 : mkr 2 1 = (2, 1, 0) := by decide +kernel
/-! Regions, for sketches of any kind. -/
def dpV (q : Int) (v : Int × Int) : Int := imax (imax 0 (16 * v.1 - (q + 1))) (q - 16 * (v.2 + 1))
def IvOk (v : Int × Int) : Prop := -1099511627776 ≤ v.1 ∧ v.1 ≤ 1099511627776 ∧ -1099511627776 ≤ v.2 ∧ v.2 ≤ 1099511627776
def All (l : List (Int × Int)) : Prop := ∀ p, 0 ≤ p → p < (l.length : Int) → IvOk (rpi l p)
def Em (l : List (Int × Int)) : Prop := ∃ p, 0 ≤ p ∧ p < (l.length : Int) ∧ (rpi l p).2 < (rpi l p).1
def Zr (l : List (Int × Int)) : Prop := ∀ p, 0 ≤ p → p < (l.length : Int) → (rpi l p).1 ≤ 0 ∧ 0 ≤ (rpi l p).2
theorem sl_minV {xs : List Int} (h : 1 ≤ xs.length) (hl : xs.length ≤ 1000) : Gives (fun k => T_slices_Min_b354 k xs) (fun r => (∃ i, 0 ≤ i ∧ i < (xs.length : Int) ∧ r = rd xs i) ∧ ∀ i, 0 ≤ i → i < (xs.length : Int) → r ≤ rd xs i) := by
 refine Gives.step ?_
 simp only [T_slices_Min_b354]
 refine Gives.neg (by omega) (Gives.opt (at_rd (by omega) (by omega)) (Gives.bind (Q := fun r => (∃ i, 0 ≤ i ∧ i < (xs.length : Int) ∧ r = rd xs i) ∧ ∀ i, 0 ≤ i → i < (xs.length : Int) → r ≤ rd xs i) ?_ fun r hr => Gives.now hr))
 refine Gives.loop (fun t => 0 ≤ t.2 ∧ t.2 ≤ (xs.length : Int) ∧ (∃ i, 0 ≤ i ∧ i < (xs.length : Int) ∧ t.1 = rd xs i) ∧ ∀ i, 0 ≤ i → i < t.2 → t.1 ≤ rd xs i) (fun t => ((xs.length : Int) - t.2).toNat) ?_ ⟨by simp only []; omega, by simp only []; omega, ⟨0, by omega, by omega, rfl⟩, fun i i0 i1 => by simp only at i1 ⊢; rw [show i = 0 by omega]; exact Int.le_refl _⟩
 intro ⟨m, i⟩ ⟨i1, i2, ⟨j, j0, j1, j2⟩, i3⟩
 simp only at i1 i2 j2 i3
 unfold T_slices_Min_b354_l1
 simp only []
 refine Gives.ite (fun c => Gives.opt (at_rd i1 c) ?_) fun c => Gives.now ⟨⟨j, j0, j1, j2⟩, fun q q0 q1 => i3 q q0 (by omega)⟩
 rw [w64_id (x := i + 1) (by omega) (by omega)]
 have im : imin m (rd xs i) ≤ m ∧ imin m (rd xs i) ≤ rd xs i ∧ (imin m (rd xs i) = m ∨ imin m (rd xs i) = rd xs i) := by unfold imin; split <;> omega
 refine Gives.now ⟨⟨by simp only []; omega, by simp only []; omega, ?_, fun q q0 q1 => ?_⟩, by simp only []; omega⟩
 · rcases im.2.2 with e | e
   · exact ⟨j, j0, j1, by simp only []; omega⟩
   · exact ⟨i, i1, c, e⟩
 · simp only at q1 ⊢
   by_cases e : q = i
   · subst e; omega
   · have := i3 q q0 (by omega); omega
theorem sl_maxV {xs : List Int} (h : 1 ≤ xs.length) (hl : xs.length ≤ 1000) : Gives (fun k => T_slices_Max_b354 k xs) (fun r => (∃ i, 0 ≤ i ∧ i < (xs.length : Int) ∧ r = rd xs i) ∧ ∀ i, 0 ≤ i → i < (xs.length : Int) → rd xs i ≤ r) := by
 refine Gives.step ?_
 simp only [T_slices_Max_b354]
 refine Gives.neg (by omega) (Gives.opt (at_rd (by omega) (by omega)) (Gives.bind (Q := fun r => (∃ i, 0 ≤ i ∧ i < (xs.length : Int) ∧ r = rd xs i) ∧ ∀ i, 0 ≤ i → i < (xs.length : Int) → rd xs i ≤ r) ?_ fun r hr => Gives.now hr))
 refine Gives.loop (fun t => 0 ≤ t.2 ∧ t.2 ≤ (xs.length : Int) ∧ (∃ i, 0 ≤ i ∧ i < (xs.length : Int) ∧ t.1 = rd xs i) ∧ ∀ i, 0 ≤ i → i < t.2 → rd xs i ≤ t.1) (fun t => ((xs.length : Int) - t.2).toNat) ?_ ⟨by simp only []; omega, by simp only []; omega, ⟨0, by omega, by omega, rfl⟩, fun i i0 i1 => by simp only at i1 ⊢; rw [show i = 0 by omega]; exact Int.le_refl _⟩
 intro ⟨m, i⟩ ⟨i1, i2, ⟨j, j0, j1, j2⟩, i3⟩
 simp only at i1 i2 j2 i3
 unfold T_slices_Max_b354_l1
 simp only []
 refine Gives.ite (fun c => Gives.opt (at_rd i1 c) ?_) fun c => Gives.now ⟨⟨j, j0, j1, j2⟩, fun q q0 q1 => i3 q q0 (by omega)⟩
 rw [w64_id (x := i + 1) (by omega) (by omega)]
 have im : m ≤ imax m (rd xs i) ∧ rd xs i ≤ imax m (rd xs i) ∧ (imax m (rd xs i) = m ∨ imax m (rd xs i) = rd xs i) := by unfold imax; split <;> omega
 refine Gives.now ⟨⟨by simp only []; omega, by simp only []; omega, ?_, fun q q0 q1 => ?_⟩, by simp only []; omega⟩
 · rcases im.2.2 with e | e
   · exact ⟨j, j0, j1, by simp only []; omega⟩
   · exact ⟨i, i1, c, e⟩
 · simp only at q1 ⊢
   by_cases e : q = i
   · subst e; omega
   · have := i3 q q0 (by omega); omega
theorem lens2 {m n : Int} (h : Dim m n) : ∃ q, 1 ≤ q ∧ q ≤ 32 ∧ m / n = q ∧ (2 ≤ n → q ≤ 16) ∧ ∀ p, 0 ≤ p → p < n → ln m n p = q ∨ ln m n p = q + 1 := by
 obtain ⟨m1, m2, n1, n2, n3⟩ := h
 obtain ⟨a, rfl⟩ : ∃ a : Nat, m = a := ⟨m.toNat, by omega⟩
 obtain ⟨b, rfl⟩ : ∃ b : Nat, n = b := ⟨n.toNat, by omega⟩
 have d0 : 1 ≤ a / b := Nat.div_pos (by omega) (by omega)
 have d1 : a / b ≤ 32 := Nat.le_trans (Nat.div_le_self _ _) (by omega)
 refine ⟨((a / b : Nat) : Int), by omega, by omega, rfl, fun h2 => ?_, fun p p0 p1 => two_lens (by omega) (by omega) (by omega) (by omega) p0 p1⟩
 have : a / b ≤ a / 2 := Nat.div_le_div_left (by omega) (by omega)
 omega
theorem outC {o : List Int} {m n : Int} (h : Dim m n) (hl : (o.length : Int) = n) (ho : ∀ p, 0 ≤ p → p < n → rd o p = ln m n p) {mn mx : Int}
 (a : (∃ i, 0 ≤ i ∧ i < (o.length : Int) ∧ mn = rd o i) ∧ ∀ i, 0 ≤ i → i < (o.length : Int) → mn ≤ rd o i) (b : (∃ i, 0 ≤ i ∧ i < (o.length : Int) ∧ mx = rd o i) ∧ ∀ i, 0 ≤ i → i < (o.length : Int) → rd o i ≤ mx) :
 ∃ (C : Int) (K : Int → Int), (if mx = mn then 2097152 * mn else 2097152 * mn * mx) = C ∧ (1 ≤ mn ∧ mn ≤ 32 ∧ 1 ≤ mx ∧ mx ≤ 32) ∧ 2097152 ≤ C ∧ C ≤ 570425344 ∧ ∀ p, 0 ≤ p → p < n → 1 ≤ K p ∧ K p ≤ 17 ∧ C = 2097152 * ln m n p * K p := by
 obtain ⟨q, q1, q2, _, q3, q4⟩ := lens2 h
 obtain ⟨⟨i, i0, i1, i2⟩, a2⟩ := a
 obtain ⟨⟨j, j0, j1, j2⟩, b2⟩ := b
 have wi := q4 i i0 (by omega)
 have wj := q4 j j0 (by omega)
 have vi := h.len i0 (show i < n by omega)
 have vj := h.len j0 (show j < n by omega)
 rw [ho i i0 (by omega)] at i2
 rw [ho j j0 (by omega)] at j2
 by_cases c : mx = mn
 · refine ⟨_, fun _ => 1, rfl, by omega, ?_⟩
   rw [if_pos c]
   refine ⟨by omega, by omega, fun p p0 p1 => ?_⟩
   have x := a2 p p0 (by omega)
   have y := b2 p p0 (by omega)
   rw [ho p p0 p1] at x y
   show 1 ≤ (1 : Int) ∧ (1 : Int) ≤ 17 ∧ 2097152 * mn = 2097152 * ln m n p * 1
   omega
 · have ne : i ≠ j := fun e => by subst e; omega
   have q16 := q3 (by omega)
   have x := a2 j j0 (by omega)
   rw [ho j j0 (by omega)] at x
   have em : mn = q := by omega
   have ex : mx = q + 1 := by omega
   refine ⟨_, fun p => if ln m n p = q then q + 1 else q, rfl, by omega, ?_⟩
   rw [if_neg c, em, ex]
   have qq := prod_bound (a := q) (b := q + 1) (A := 16) (B := 17) (by omega) (by omega) (by omega) (by omega)
   have qq1 := Int.mul_le_mul (a := 1) (b := 1) (c := q) (d := q + 1) (by omega) (by omega) (by omega) (by omega)
   rw [Int.mul_assoc]
   refine ⟨by omega, by omega, fun p p0 p1 => ?_⟩
   simp only []
   rcases q4 p p0 p1 with e | e
   · rw [if_pos e, e]
     exact ⟨by omega, by omega, by rw [Int.mul_assoc]⟩
   · rw [if_neg (by omega), e]
     exact ⟨by omega, by omega, by rw [Int.mul_assoc, Int.mul_comm q]⟩
theorem SkV.arg {m E p : Int} {s : List Int} (h : SkV m s E) (p0 : 0 ≤ p) (p1 : p < (s.length : Int)) : -1048576000 ≤ 1024 * rd s p ∧ 1024 * rd s p ≤ 1048576000 := by
 have kn := h.kn
 have e1 := h.e1
 obtain ⟨q1, q2, q3⟩ := cube h.dim.m1 h.dim.m2
 have t := sg_term (f := kq m s) (n := s.length) (fun i i0 i1 => (kq_bd h.dim i0 i1 (h.sb i i0 i1)).1) p p0 p1
 have w := h.dim.len p0 p1
 have lt := Int.lt_mul_ediv_self_add (x := rd s p * rd s p) (k := ln m s.length p) (by omega)
 have ek : rd s p * rd s p / ln m s.length p = kq m s p := rfl
 rw [ek] at lt
 have kb := (kq_bd h.dim p0 p1 (h.sb p p0 p1)).1
 have mb := Int.mul_le_mul (a := ln m s.length p) (b := kq m s p) (c := 32) (d := 32768000000) w.2 (by omega) kb (by omega)
 constructor
 · refine Decidable.byContradiction fun hn => ?_
   have := Int.mul_le_mul (a := 1024001) (b := 1024001) (c := -rd s p) (d := -rd s p) (by omega) (by omega) (by omega) (by omega)
   rw [Int.neg_mul_neg] at this
   omega
 · refine Decidable.byContradiction fun hn => ?_
   have := Int.mul_le_mul (a := 1024001) (b := 1024001) (c := rd s p) (d := rd s p) (by omega) (by omega) (by omega) (by omega)
   omega
/-- How far a piece's coordinate lies outside. -/
noncomputable def dist (s : List Int) (E : Int) (l : List (Int × Int)) (p : Int) : Int := dpV (QQ (1024 * rd s p) E) (rpi l p)
theorem dist_ok {m E p : Int} {s : List Int} {l : List (Int × Int)} (h : SkV m s E) (hE : 1 ≤ E) (hl : l.length = s.length) (ha : All l) (p0 : 0 ≤ p) (p1 : p < (s.length : Int)) : (Gives (fun k => T_root_Quotient k (w64 (1024 * rd s p)) E) (fun r => r = (QQ (1024 * rd s p) E, 0)) ∧ Gives (fun k => T_ref02_Quotient k (w64 (1024 * rd s p)) E) (fun r => r = (QQ (1024 * rd s p) E, 0))) ∧
 imax (imax 0 (w64 (w64 (16 * (rpi l p).1) - w64 (QQ (1024 * rd s p) E + 1)))) (w64 (QQ (1024 * rd s p) E - w64 (16 * w64 ((rpi l p).2 + 1)))) = dist s E l p ∧ 0 ≤ dist s E l p := by
 have a := h.arg p0 p1
 obtain ⟨q1, q2, q3⟩ := cube h.dim.m1 h.dim.m2
 have e1 := h.e1
 have r := rq (t := 1024 * rd s p) (e := E) ⟨by omega, by omega, by omega, by omega⟩
 have r2 := r02_quotient (t := 1024 * rd s p) (e := E) ⟨by omega, by omega, by omega, by omega⟩
 have iv := ha p p0 (by omega)
 unfold IvOk at iv
 rw [w64_id (x := 1024 * rd s p) (by omega) (by omega)]
 refine ⟨⟨r.1, r2⟩, ?_, ?_⟩
 · unfold dist dpV
   rw [w64_id (x := 16 * (rpi l p).1) (by omega) (by omega), w64_id (x := QQ (1024 * rd s p) E + 1) (by omega) (by omega), w64_id (x := (rpi l p).2 + 1) (by omega) (by omega), w64_id (x := 16 * ((rpi l p).2 + 1)) (by omega) (by omega), w64_id (x := 16 * (rpi l p).1 - _) (by omega) (by omega), w64_id (x := QQ (1024 * rd s p) E - _) (by omega) (by omega)]
 · unfold dist dpV imax
   split <;> split <;> omega
noncomputable def totV (s : List Int) (E : Int) (l : List (Int × Int)) (K : Int → Int) (j : Nat) : Int := sg (fun p => dist s E l p * dist s E l p * K p) j
theorem totV_succ {s : List Int} {E : Int} {l : List (Int × Int)} {K : Int → Int} {i : Int} (i0 : 0 ≤ i) : totV s E l K (i + 1).toNat = totV s E l K i.toNat + dist s E l i * dist s E l i * K i := by
 unfold totV
 rw [show (i + 1).toNat = i.toNat + 1 by omega, sg, Int.toNat_of_nonneg i0]
theorem sk_outsideV {m E : Int} {s : List Int} {l : List (Int × Int)} (h : SkV m s E) (hE : 1 ≤ E) (hl : l.length = s.length) (ha : All l) : ∃ (C : Int) (K : Int → Int), 2097152 ≤ C ∧ C ≤ 570425344 ∧ (∀ p, 0 ≤ p → p < (s.length : Int) → 1 ≤ K p ∧ K p ≤ 17 ∧ C = 2097152 * ln m s.length p * K p) ∧
 Gives (fun k => T_sketch_outside k m s E l) (fun r => (r.2.2 = true ∧ 2 * C < totV s E l K s.length) ∨ (r = (totV s E l K s.length, C, false) ∧ totV s E l K s.length ≤ 2 * C)) := by
 have n1 := h.dim.n1
 have n2 := h.dim.n2
 obtain ⟨o, o1, o2, o3⟩ := (sk_lengthsV (E := E) h.dim).get
 obtain ⟨mn, a1, a2⟩ := (sl_minV (xs := o) (by omega) (by omega)).get
 obtain ⟨mx, b1, b2⟩ := (sl_maxV (xs := o) (by omega) (by omega)).get
 obtain ⟨C, K, hC, ⟨mn1, mn2, mx1, mx2⟩, c1, c2, hK⟩ := outC h.dim o2 o3 a2 b2
 refine ⟨C, K, c1, c2, hK, ?_⟩
 have lb := fun p p0 p1 => h.dim.len (p := p) p0 p1
 have dok := fun p p0 p1 => dist_ok (p := p) h hE hl ha p0 p1
 refine Gives.step ?_
 simp only [T_sketch_outside]
 refine Gives.bind o1 fun y hy => ?_
 subst hy
 refine Gives.bind a1 fun y2 hy2 => Gives.bind b1 fun y3 hy3 => Gives.bind a1 fun y4 hy4 => ?_
 subst hy2 hy3 hy4
 refine Gives.bind (Q := fun r => r = C) ?_ fun r hr => ?_
 · by_cases c : y3 = y4
   · rw [if_pos c] at hC
     refine Gives.neg (by simp [c]) ?_
     rw [w64_id (x := 2097152 * y4) (by omega) (by omega)]
     exact Gives.now hC
   · rw [if_neg c] at hC
     refine Gives.pos (by simp [c]) (Gives.bind b1 fun y5 hy5 => ?_)
     subst hy5
     rw [w64_id (x := 2097152 * y4) (by omega) (by omega), w64_id (x := 2097152 * y4 * y5) (by omega) (by omega)]
     exact Gives.now hC
 subst hr
 refine Gives.bind (Q := fun (v : Int × Int × Bool) => (v.2.2 = true ∧ 2 * r < totV s E l K s.length) ∨ (v = (totV s E l K s.length, r, false) ∧ totV s E l K s.length ≤ 2 * r)) ?_ fun v hv => Gives.now hv
 have tn : ∀ j : Nat, j ≤ s.length → 0 ≤ totV s E l K j := fun j hj => sg_nonneg fun p p0 p1 => Int.mul_nonneg (sq_nonneg _) (by have := hK p p0 (by omega); omega)
 clear hC a1 a2 b1 b2
 rw [hl]
 refine Gives.loop (fun t => 0 ≤ t.1 ∧ t.1 ≤ (s.length : Int) ∧ 0 ≤ t.2.1 ∧ t.2.1 ≤ 2 * r ∧ (t.2.2.1 = r ∨ (t.2.2.1 = 1 ∧ t.2.1 = 0)) ∧ ((t.2.2.2 = true ∧ 2 * r < totV s E l K t.1.toNat) ∨ (t.2.2.2 = false ∧ t.2.1 = totV s E l K t.1.toNat ∧ (t.1 = 0 ∨ t.2.2.1 = r)))) (fun t => ((s.length : Int) - t.1).toNat) ?_
  ⟨by simp only []; omega, by simp only []; omega, by simp only []; omega, by simp only []; omega, Or.inr ⟨rfl, rfl⟩, Or.inr ⟨rfl, rfl, Or.inl rfl⟩⟩
 intro ⟨i, nu, de, be⟩ ⟨t1, t2, t3, t4, t5, t6⟩
 simp only at t1 t2 t3 t4 t5 t6
 unfold T_sketch_outside_l1
 simp only []
 refine Gives.ite (fun c => Gives.opt (at_rpi t1 (by omega)) (Gives.opt (at_rd t1 (by omega)) ?_)) fun c => Gives.now ?_
 · obtain ⟨⟨qi, _⟩, ed, d0⟩ := dok i t1 c
   obtain ⟨k1, k2, k3⟩ := hK i t1 c
   obtain ⟨l1, l2⟩ := lb i t1 c
   have ti := tn i.toNat (by omega)
   refine Gives.bind qi fun z hz => ?_
   subst hz
   refine Gives.bind (Q := fun _ => True) (Gives.step (by simp only [T_sketch_passed]; exact Gives.now trivial)) fun _ _ => ?_
   simp only []
   rw [ed, w64_id (x := i + 1) (by omega) (by omega)]
   have es := totV_succ (s := s) (E := E) (l := l) (K := K) t1
   have zz := sq_nonneg (dist s E l i)
   generalize hd : dist s E l i = d at *
   refine Gives.ite (fun c2 => Gives.now ⟨⟨by simp only []; omega, by simp only []; omega, t3, t4, t5, Or.inl ⟨rfl, ?_⟩⟩, by simp only []; omega⟩) fun c2 => Gives.opt (at_rd t1 (by omega)) ?_
   · show 2 * r < totV s E l K (i + 1).toNat
     rw [es]
     have := Int.mul_le_mul (a := 1048577) (b := 1048577) (c := d) (d := d) (by omega) (by omega) (by omega) (by omega)
     have := Int.mul_le_mul_of_nonneg_left k1 zz
     omega
   · have q := prod_bound (a := d) (b := d) (A := 1048576) (B := 1048576) (by omega) (by omega) (by omega) (by omega)
     have q2 := prod_bound (a := d * d) (b := K i) (A := 1099511627776) (B := 17) (by omega) (by omega) (by omega) (by omega)
     have q0 := Int.mul_nonneg zz (show 0 ≤ K i by omega)
     rw [o3 i t1 c, w64_id (x := d * d) (by omega) (by omega), w64_id (x := 2097152 * ln m s.length i) (by omega) (by omega), show r.tdiv (2097152 * ln m s.length i) = K i by rw [k3]; exact Int.mul_tdiv_cancel_left _ (by omega), w64_id (x := K i) (by omega) (by omega)]
     refine Gives.bind (Q := fun _ => True) (Gives.step (by
      simp only [T_sketch_fraction_plus]
      exact Gives.pos (by omega) (Gives.pos (by omega) (Gives.now trivial)))) fun _ _ => ?_
     have en : w64 (nu * w64 (r.tdiv de)) = nu := by
      rcases t5 with t5 | ⟨_, t5⟩
      · rw [t5, Int.tdiv_self (by omega), w64_id (x := 1) (by omega) (by omega), Int.mul_one, w64_id (by omega) (by omega)]
      · rw [t5, Int.zero_mul]; rfl
     rw [en, w64_id (x := d * d * K i) (by omega) (by omega), w64_id (x := nu + _) (by omega) (by omega), w64_id (x := 2 * r) (by omega) (by omega)]
     refine Gives.bind (Q := fun w => 0 ≤ w.1 ∧ w.1 ≤ 2 * r ∧ (w.2.1 = r ∨ (w.2.1 = 1 ∧ w.1 = 0)) ∧ ((w.2.2 = true ∧ 2 * r < totV s E l K (i + 1).toNat) ∨ (w.2.2 = false ∧ w.1 = totV s E l K (i + 1).toNat ∧ (i + 1 = 0 ∨ w.2.1 = r)))) ?_ fun w hw => Gives.now ⟨⟨by simp only []; omega, by simp only []; omega, hw⟩, by simp only []; omega⟩
     rw [es]
     refine Gives.ite (fun c2 => Gives.now ⟨by simp only []; omega, by simp only []; omega, Or.inr ⟨rfl, rfl⟩, Or.inl ⟨rfl, ?_⟩⟩) fun c2 => Gives.now ⟨by simp only []; omega, by simp only []; omega, Or.inl rfl, ?_⟩
     · rcases t6 with t6 | t6 <;> omega
     · rcases t6 with ⟨t6, t7⟩ | ⟨t6, t7, _⟩
       · exact Or.inl ⟨t6, by omega⟩
       · exact Or.inr ⟨t6, by simp only []; omega, Or.inr rfl⟩
 · have ei : i.toNat = s.length := by omega
   rw [ei] at t6
   rcases t6 with ⟨t6, t7⟩ | ⟨t6, t7, t8⟩
   · exact Or.inl ⟨t6, t7⟩
   · have e8 : de = r := by omega
     exact Or.inr ⟨by rw [t6, t7, e8], by omega⟩

/-! Regions: what the program and the document answer. -/
noncomputable def rvV (S C : Int) : Int × Int × Int := if 2 * C < S then (2, 1, 0) else if C < S then mkr (C * C + (C - S) * (C - S)).toNat (C * C).toNat else mkr (C * C - (C - S) * (C - S)).toNat (C * C).toNat
theorem sq_le2 {C S : Int} (c0 : 0 ≤ C) (s0 : 0 ≤ S) (s1 : S ≤ 2 * C) : (C - S) * (C - S) ≤ C * C := by
 have := prod_bound (a := C - S) (b := C - S) (A := C) (B := C) (by omega) (by omega) (by omega) (by omega)
 omega
theorem sq_small {C : Int} (c0 : 1 ≤ C) (c1 : C ≤ 570425344) : 1 ≤ C * C ∧ C * C ≤ 400000000000000000 := by
 have a := prod_bound (a := C) (b := C) (A := 570425344) (B := 570425344) (by omega) (by omega) (by omega) (by omega)
 have b := Int.mul_le_mul (a := 1) (b := 1) (c := C) (d := C) (by omega) (by omega) (by omega) (by omega)
 omega
theorem sk_loop {m E : Int} {s : List Int} {l : List (Int × Int)} (hl : l.length ≤ 1000) : Gives (fun k => loopT (T_sketch_Region_l1 k m s E l (l.length : Int)) k (false, 0)) (fun r => (All l ∧ ∃ b, r = .inl b ∧ (b = true ↔ Em l)) ∨ (¬ All l ∧ r = .inr ())) := by
 refine Gives.loop (fun t => 0 ≤ t.2 ∧ t.2 ≤ (l.length : Int) ∧ (∀ p, 0 ≤ p → p < t.2 → IvOk (rpi l p)) ∧ (t.1 = true ↔ ∃ p, 0 ≤ p ∧ p < t.2 ∧ (rpi l p).2 < (rpi l p).1)) (fun t => ((l.length : Int) - t.2).toNat) ?_ ⟨by simp only []; omega, by simp only []; omega, fun p p0 p1 => by simp only at p1; omega, by simp; intro p p0 p1; omega⟩
 intro ⟨b, i⟩ ⟨i0, i1, i2, i3⟩
 simp only at i0 i1 i2 i3
 unfold T_sketch_Region_l1
 simp only []
 refine Gives.ite (fun c => Gives.opt (at_rpi i0 c) (Gives.ite (fun d => Gives.now (.inr ⟨fun ha => ?_, rfl⟩)) fun d => ?_)) fun c => Gives.now (.inl ⟨fun p p0 p1 => i2 p p0 (by omega), b, rfl, ?_⟩)
 · have := ha i i0 c
   unfold IvOk at this
   have im : imin (rpi l i).1 (rpi l i).2 = (rpi l i).1 ∨ imin (rpi l i).1 (rpi l i).2 = (rpi l i).2 := by unfold imin; split <;> omega
   have ix : imax (rpi l i).1 (rpi l i).2 = (rpi l i).1 ∨ imax (rpi l i).1 (rpi l i).2 = (rpi l i).2 := by unfold imax; split <;> omega
   simp at d
   omega
 · rw [w64_id (by omega) (by omega)]
   have im : imin (rpi l i).1 (rpi l i).2 ≤ (rpi l i).1 ∧ imin (rpi l i).1 (rpi l i).2 ≤ (rpi l i).2 := by unfold imin; split <;> omega
   have ix : (rpi l i).1 ≤ imax (rpi l i).1 (rpi l i).2 ∧ (rpi l i).2 ≤ imax (rpi l i).1 (rpi l i).2 := by unfold imax; split <;> omega
   refine Gives.now ⟨⟨by simp only []; omega, by simp only []; omega, fun p p0 p1 => ?_, ?_⟩, by simp only []; omega⟩
   · by_cases e : p = i
     · subst e; unfold IvOk; simp at d; omega
     · exact i2 p p0 (by simp only at p1; omega)
   · simp only [Bool.or_eq_true, decide_eq_true_eq, i3]
     constructor
     · rintro (⟨p, p0, p1, p2⟩ | h)
       · exact ⟨p, p0, by omega, p2⟩
       · exact ⟨i, i0, by omega, h⟩
     · rintro ⟨p, p0, p1, p2⟩
       by_cases e : p = i
       · subst e; exact .inr p2
       · exact .inl ⟨p, p0, by omega, p2⟩
 · rw [i3]
   exact ⟨fun ⟨p, p0, p1, p2⟩ => ⟨p, p0, by omega, p2⟩, fun ⟨p, p0, p1, p2⟩ => ⟨p, p0, by omega, p2⟩⟩
theorem sk_flatV {l : List (Int × Int)} (hl : l.length ≤ 1000) : Gives (fun k => T_sketch_flat k l) (fun r => (Zr l ∧ r = (0, 1, 0)) ∨ (¬ Zr l ∧ r = (1, 1, 0))) := by
 refine Gives.step ?_
 simp only [T_sketch_flat]
 refine Gives.bind (Q := fun r => (r = .inl () ∧ Zr l) ∨ (r = .inr (0, 1, 1) ∧ ¬ Zr l)) ?_ fun r hr => ?_
 · refine Gives.loop (fun t => 0 ≤ t ∧ t ≤ (l.length : Int) ∧ ∀ p, 0 ≤ p → p < t → (rpi l p).1 ≤ 0 ∧ 0 ≤ (rpi l p).2) (fun t => ((l.length : Int) - t).toNat) ?_ ⟨by omega, by omega, fun p p0 p1 => by omega⟩
   intro i ⟨i0, i1, i2⟩
   unfold T_sketch_flat_l1
   refine Gives.ite (fun c => Gives.opt (at_rpi i0 c) (Gives.ite (fun d => Gives.bind (mk_make (m := 1) (n := 1) (by omega) (by omega) (by omega) (by omega)) fun r hr => Gives.now (.inr ⟨?_, fun z => ?_⟩)) fun d => ?_)) fun c => Gives.now (.inl ⟨rfl, fun p p0 p1 => i2 p p0 (by omega)⟩)
   · rw [hr, show mkr (1 : Int).toNat (1 : Int).toNat = (1, 1, 0) from mkr11]
   · have := z i i0 c
     simp at d
     omega
   · rw [w64_id (by omega) (by omega)]
     refine Gives.now ⟨⟨by omega, by omega, fun p p0 p1 => ?_⟩, by omega⟩
     by_cases e : p = i
     · subst e; simp at d; omega
     · exact i2 p p0 (by omega)
 · rcases hr with ⟨rfl, h⟩ | ⟨rfl, h⟩
   · exact Gives.bind (mk_make (m := 0) (n := 1) (by omega) (by omega) (by omega) (by omega)) fun r hr => Gives.now (.inl ⟨h, by rw [hr]; exact mkr01⟩)
   · exact Gives.now (.inr ⟨h, rfl⟩)
theorem sg_mulr {f : Int → Int} {c : Int} : ∀ n : Nat, sg f n * c = sg (fun p => f p * c) n
 | 0 => by simp [sg]
 | n + 1 => by rw [sg, sg, Int.add_mul, sg_mulr n]

/-! Numbers A + B times the root of D that are not negative, in whole numbers. -/
def NN (D A B : Int) : Prop := (0 ≤ B → A < 0 → A * A ≤ B * B * D) ∧ (B < 0 → 0 ≤ A ∧ B * B * D ≤ A * A)
theorem sq_le_of {a b : Int} (h : a * a ≤ b * b) (b0 : 0 ≤ b) : a ≤ b := by
 refine Decidable.byContradiction fun hn => ?_
 have := Int.mul_le_mul (a := b + 1) (b := b + 1) (c := a) (d := a) (by omega) (by omega) (by omega) (by omega)
 have e : (b + 1) * (b + 1) = b * b + b + b + 1 := by grind
 omega
theorem sq_mono {a b : Int} (a0 : 0 ≤ a) (h : a ≤ b) : a * a ≤ b * b := Int.mul_le_mul h h a0 (by omega)
theorem mul4_le {a b c d : Int} (h : a ≤ b) (k : c ≤ d) (a0 : 0 ≤ a) (c0 : 0 ≤ c) : a * c ≤ b * d := Int.mul_le_mul h k c0 (by omega)
/-- Sums of numbers below roots: a ≤ x root D and b ≤ y root D. -/
theorem nn_up {D a b x y : Int} (D0 : 0 ≤ D) (a0 : 0 ≤ a) (b0 : 0 ≤ b) (x0 : 0 ≤ x) (y0 : 0 ≤ y) (h : a * a ≤ x * x * D) (k : b * b ≤ y * y * D) : (a + b) * (a + b) ≤ (x + y) * (x + y) * D := by
 have m := mul4_le h k (sq_nonneg a) (sq_nonneg b)
 have e1 : a * a * (b * b) = (a * b) * (a * b) := by grind
 have e2 : x * x * D * (y * y * D) = (x * y * D) * (x * y * D) := by grind
 rw [e1, e2] at m
 have ab := sq_le_of m (Int.mul_nonneg (Int.mul_nonneg x0 y0) D0)
 have e3 : (a + b) * (a + b) = a * a + b * b + 2 * (a * b) := by grind
 have e4 : (x + y) * (x + y) * D = x * x * D + y * y * D + 2 * (x * y * D) := by grind
 omega
theorem nn_lo {D a b x y : Int} (D0 : 0 ≤ D) (a0 : 0 ≤ a) (b0 : 0 ≤ b) (x0 : 0 ≤ x) (y0 : 0 ≤ y) (h : x * x * D ≤ a * a) (k : y * y * D ≤ b * b) : (x + y) * (x + y) * D ≤ (a + b) * (a + b) := by
 have m := mul4_le h k (Int.mul_nonneg (sq_nonneg x) D0) (Int.mul_nonneg (sq_nonneg y) D0)
 have e1 : a * a * (b * b) = (a * b) * (a * b) := by grind
 have e2 : x * x * D * (y * y * D) = (x * y * D) * (x * y * D) := by grind
 rw [e1, e2] at m
 have ab := sq_le_of m (Int.mul_nonneg a0 b0)
 have e3 : (a + b) * (a + b) = a * a + b * b + 2 * (a * b) := by grind
 have e4 : (x + y) * (x + y) * D = x * x * D + y * y * D + 2 * (x * y * D) := by grind
 omega
theorem nn_lo_lt {D a b x y : Int} (D0 : 0 ≤ D) (a0 : 0 ≤ a) (b0 : 0 ≤ b) (x0 : 0 ≤ x) (y0 : 0 ≤ y) (h : x * x * D < a * a) (k : y * y * D ≤ b * b) : (x + y) * (x + y) * D < (a + b) * (a + b) := by
 have m := mul4_le (Int.le_of_lt h) k (Int.mul_nonneg (sq_nonneg x) D0) (Int.mul_nonneg (sq_nonneg y) D0)
 have e1 : a * a * (b * b) = (a * b) * (a * b) := by grind
 have e2 : x * x * D * (y * y * D) = (x * y * D) * (x * y * D) := by grind
 rw [e1, e2] at m
 have ab := sq_le_of m (Int.mul_nonneg a0 b0)
 have e3 : (a + b) * (a + b) = a * a + b * b + 2 * (a * b) := by grind
 have e4 : (x + y) * (x + y) * D = x * x * D + y * y * D + 2 * (x * y * D) := by grind
 omega
theorem nn_up_lt {D a b x y : Int} (D0 : 0 ≤ D) (a0 : 0 ≤ a) (b0 : 0 ≤ b) (x0 : 0 ≤ x) (y0 : 0 ≤ y) (h : a * a < x * x * D) (k : b * b ≤ y * y * D) : (a + b) * (a + b) < (x + y) * (x + y) * D := by
 have m := mul4_le (Int.le_of_lt h) k (sq_nonneg a) (sq_nonneg b)
 have e1 : a * a * (b * b) = (a * b) * (a * b) := by grind
 have e2 : x * x * D * (y * y * D) = (x * y * D) * (x * y * D) := by grind
 rw [e1, e2] at m
 have ab := sq_le_of m (Int.mul_nonneg (Int.mul_nonneg x0 y0) D0)
 have e3 : (a + b) * (a + b) = a * a + b * b + 2 * (a * b) := by grind
 have e4 : (x + y) * (x + y) * D = x * x * D + y * y * D + 2 * (x * y * D) := by grind
 omega
theorem NN.pos {D A B : Int} (a0 : 0 ≤ A) (b0 : 0 ≤ B) : NN D A B := ⟨fun _ h => by omega, fun h => by omega⟩
theorem NN.addPos {D A B A' B' : Int} (D0 : 0 ≤ D) (h : NN D A B) (k : NN D A' B') (b0 : 0 ≤ B) (b1 : B' < 0) : NN D (A + A') (B + B') := by
 obtain ⟨a0', q'⟩ := k.2 b1
 have qn : (-B') * (-B') * D ≤ A' * A' := by rw [Int.neg_mul_neg]; exact q'
 by_cases ha : 0 ≤ A
 · refine ⟨fun _ h => by omega, fun hb => ⟨by omega, ?_⟩⟩
   have s1 := sq_mono (a := -(B + B')) (b := -B') (by omega) (by omega)
   rw [Int.neg_mul_neg] at s1
   have s2 := Int.mul_le_mul_of_nonneg_right s1 D0
   have s3 := sq_mono (a := A') (b := A + A') a0' (by omega)
   omega
 · have qa := h.1 b0 (by omega)
   have qan : (-A) * (-A) ≤ B * B * D := by rw [Int.neg_mul_neg]; exact qa
   refine ⟨fun hb hs => ?_, fun hb => ?_⟩
   · refine Decidable.byContradiction fun hn => ?_
     have := nn_lo_lt (D := D) (a := -(A + A')) (b := A') (x := B + B') (y := -B') D0 (by omega) a0' hb (by omega) (by rw [Int.neg_mul_neg]; omega) qn
     rw [show -(A + A') + A' = -A by omega, show B + B' + -B' = B by omega] at this
     omega
   · have a1 : 0 ≤ A + A' := by
      refine Decidable.byContradiction fun hn => ?_
      have s1 := sq_mono (a := A') (b := -A) a0' (by omega)
      have s2 := sq_mono (a := B) (b := -B') b0 (by omega)
      have s3 := Int.mul_le_mul_of_nonneg_right s2 D0
      have s4 := sq_mono (a := A' + 1) (b := -A) (by omega) (by omega)
      have e : (A' + 1) * (A' + 1) = A' * A' + A' + A' + 1 := by grind
      omega
     refine ⟨a1, Decidable.byContradiction fun hn => ?_⟩
     have := nn_up_lt (D := D) (a := A + A') (b := -A) (x := -(B + B')) (y := B) D0 a1 (by omega) (by omega) b0 (by rw [Int.neg_mul_neg]; omega) qan
     rw [show A + A' + -A = A' by omega, show -(B + B') + B = -B' by omega] at this
     omega
theorem NN.add {D A B A' B' : Int} (D0 : 0 ≤ D) (h : NN D A B) (k : NN D A' B') : NN D (A + A') (B + B') := by
 by_cases b0 : 0 ≤ B
 · by_cases b1 : 0 ≤ B'
   · refine ⟨fun _ hs => ?_, fun hb => by omega⟩
     have eq : (A + A') * (A + A') = (-(A + A')) * (-(A + A')) := (Int.neg_mul_neg _ _).symm
     by_cases ha : 0 ≤ A
     · have q := k.1 b1 (by omega)
       have s1 := sq_mono (a := -(A + A')) (b := -A') (by omega) (by omega)
       rw [Int.neg_mul_neg, Int.neg_mul_neg] at s1
       have s2 := sq_mono (a := B') (b := B + B') b1 (by omega)
       have s3 := Int.mul_le_mul_of_nonneg_right s2 D0
       omega
     · by_cases ha' : 0 ≤ A'
       · have q := h.1 b0 (by omega)
         have s1 := sq_mono (a := -(A + A')) (b := -A) (by omega) (by omega)
         rw [Int.neg_mul_neg, Int.neg_mul_neg] at s1
         have s2 := sq_mono (a := B) (b := B + B') b0 (by omega)
         have s3 := Int.mul_le_mul_of_nonneg_right s2 D0
         omega
       · have := nn_up (D := D) (a := -A) (b := -A') (x := B) (y := B') D0 (by omega) (by omega) b0 b1 (by rw [Int.neg_mul_neg]; exact h.1 b0 (by omega)) (by rw [Int.neg_mul_neg]; exact k.1 b1 (by omega))
         rw [show -A + -A' = -(A + A') by omega, Int.neg_mul_neg] at this
         exact this
   · exact NN.addPos D0 h k b0 (by omega)
 · by_cases b1 : 0 ≤ B'
   · have := NN.addPos D0 k h b1 (by omega)
     rwa [Int.add_comm A', Int.add_comm B'] at this
   · obtain ⟨a0, q⟩ := h.2 (by omega)
     obtain ⟨a1, q'⟩ := k.2 (by omega)
     refine ⟨fun hb => by omega, fun _ => ⟨by omega, ?_⟩⟩
     have := nn_lo (D := D) (a := A) (b := A') (x := -B) (y := -B') D0 a0 a1 (by omega) (by omega) (by rw [Int.neg_mul_neg]; exact q) (by rw [Int.neg_mul_neg]; exact q')
     rw [show -B + -B' = -(B + B') by omega, Int.neg_mul_neg] at this
     exact this
theorem NN.scale {D A B c : Int} (c0 : 0 ≤ c) (h : NN D A B) : NN D (c * A) (c * B) := by
 have cc := sq_nonneg c
 have eA : c * A * (c * A) = c * c * (A * A) := by grind
 have eB : c * B * (c * B) * D = c * c * (B * B * D) := by grind
 rcases (show c = 0 ∨ 0 < c by omega) with rfl | cp
 · rw [Int.zero_mul, Int.zero_mul]; exact NN.pos (Int.le_refl _) (Int.le_refl _)
 refine ⟨fun hb ha => ?_, fun hb => ?_⟩
 · rw [eA, eB]
   refine Int.mul_le_mul_of_nonneg_left (h.1 ?_ ?_) cc
   · refine Decidable.byContradiction fun hn => ?_
     have := Int.mul_neg_of_pos_of_neg cp (show B < 0 by omega)
     omega
   · refine Decidable.byContradiction fun hn => ?_
     have := Int.mul_nonneg c0 (show 0 ≤ A by omega)
     omega
 · have hb' : B < 0 := by
    refine Decidable.byContradiction fun hn => ?_
    have := Int.mul_nonneg c0 (show 0 ≤ B by omega)
    omega
   obtain ⟨a0, q⟩ := h.2 hb'
   exact ⟨Int.mul_nonneg c0 a0, by rw [eA, eB]; exact Int.mul_le_mul_of_nonneg_left q cc⟩
theorem NN.sum {D : Int} (D0 : 0 ≤ D) {A B : Int → Int} : ∀ {n : Nat}, (∀ p : Int, 0 ≤ p → p < n → NN D (A p) (B p)) → NN D (sg A n) (sg B n)
 | 0, _ => NN.pos (Int.le_refl _) (Int.le_refl _)
 | n + 1, h => by
  rw [sg, sg]
  exact NN.add D0 (NN.sum D0 (n := n) fun p p0 p1 => h p p0 (by omega)) (h n (by omega) (by omega))

/-! What lies above and below roots. -/
theorem NN.unscale {D A B c : Int} (c0 : 0 < c) (h : NN D (c * A) (c * B)) : NN D A B := by
 have cc := Int.mul_pos c0 c0
 have eA : c * A * (c * A) = c * c * (A * A) := by grind
 have eB : c * B * (c * B) * D = c * c * (B * B * D) := by grind
 unfold NN at h
 rw [eA, eB] at h
 refine ⟨fun hb ha => Int.le_of_mul_le_mul_left (h.1 (Int.mul_nonneg (by omega) hb) (Int.mul_neg_of_pos_of_neg c0 ha)) cc, fun hb => ?_⟩
 obtain ⟨a, b⟩ := h.2 (Int.mul_neg_of_pos_of_neg c0 hb)
 refine ⟨?_, Int.le_of_mul_le_mul_left b cc⟩
 refine Decidable.byContradiction fun hn => ?_
 have := Int.mul_neg_of_pos_of_neg c0 (show A < 0 by omega)
 omega
/-- The case of two positive numbers. -/
theorem nn_coreB {E F U W a b : Int} (hE : 0 ≤ E) (hF : 0 ≤ F) (ha : NN E (-U) b) (hb : NN F W (-a)) (ab : b < a) (b0 : 0 < b) : NN (E * F) (U * U * F + W * W * E - (a - b) * (a - b) * (E * F)) (-2 * (U * W)) := by
 obtain ⟨w0, wa⟩ := hb.2 (by omega)
 rw [Int.neg_mul_neg] at wa
 have D0 := Int.mul_nonneg hE hF
 have q := Int.mul_le_mul_of_nonneg_right wa hE
 have e1 : a * a * F * E = a * a * (E * F) := by grind
 have abD := Int.mul_nonneg (Int.mul_nonneg (show 0 ≤ a by omega) (show 0 ≤ b by omega)) D0
 have ex : (a - b) * (a - b) * (E * F) = a * a * (E * F) + b * b * (E * F) - 2 * (a * b * (E * F)) := by grind
 have bb : b * b * (E * F) ≤ a * b * (E * F) := by
  have := Int.mul_le_mul_of_nonneg_right (show b ≤ a by omega) (show 0 ≤ b by omega)
  exact Int.mul_le_mul_of_nonneg_right this D0
 have uF := Int.mul_nonneg (sq_nonneg U) hF
 by_cases hu : U ≤ 0
 · refine NN.pos ?_ ?_
   · have bbD := Int.mul_nonneg (sq_nonneg b) D0
     omega
   · have := Int.mul_nonneg (show 0 ≤ -U by omega) w0
     rw [Int.neg_mul] at this
     omega
 · have ua := ha.1 (by omega) (by omega)
   rw [Int.neg_mul_neg] at ua
   have p := Int.mul_le_mul_of_nonneg_right ua hF
   have e2 : b * b * E * F = b * b * (E * F) := by grind
   obtain ⟨P, hP⟩ : ∃ P, U * U * F = P := ⟨_, rfl⟩
   obtain ⟨Q, hQ⟩ : ∃ Q, W * W * E = Q := ⟨_, rfl⟩
   obtain ⟨D, hD⟩ : ∃ D, E * F = D := ⟨_, rfl⟩
   have eB : -2 * (U * W) * (-2 * (U * W)) * (E * F) = 4 * ((U * U * F) * (W * W * E)) := by grind
   rw [hP] at p uF eB ⊢
   rw [hQ] at q eB ⊢
   rw [hD] at e1 e2 abD ex bb D0 eB ⊢
   have dl : 0 ≤ Q - a * a * D := by omega
   have ep : 0 ≤ b * b * D - P := by omega
   have A0 : 0 ≤ P + Q - (a - b) * (a - b) * D := by omega
   refine ⟨fun h1 h2 => by omega, fun _ => ⟨A0, ?_⟩⟩
   rw [eB]
   have k1 := Int.mul_nonneg (Int.mul_nonneg (Int.mul_nonneg (show 0 ≤ b by omega) D0) dl) (show 0 ≤ a - b by omega)
   have k2 := Int.mul_nonneg (Int.mul_nonneg (Int.mul_nonneg (show 0 ≤ a by omega) D0) ep) (show 0 ≤ a - b by omega)
   have k3 := sq_nonneg ((Q - a * a * D) + (b * b * D - P))
   have : (P + Q - (a - b) * (a - b) * D) * (P + Q - (a - b) * (a - b) * D) - 4 * (P * Q) = 4 * (b * D * (Q - a * a * D) * (a - b)) + 4 * (a * D * (b * b * D - P) * (a - b)) + ((Q - a * a * D) + (b * b * D - P)) * ((Q - a * a * D) + (b * b * D - P)) := by grind
   omega
theorem nn_core {E F U W a b : Int} (hE : 0 ≤ E) (hF : 0 ≤ F) (ha : NN E (-U) b) (hb : NN F W (-a)) (ab : b < a) : NN (E * F) (U * U * F + W * W * E - (a - b) * (a - b) * (E * F)) (-2 * (U * W)) := by
 by_cases a0 : 0 ≤ a
 · by_cases b0 : 0 < b
   · exact nn_coreB hE hF ha hb ab b0
   · have D0 := Int.mul_nonneg hE hF
     have u0 : U ≤ 0 ∧ b * b * E ≤ U * U := by
      by_cases hb0 : b = 0
      · subst hb0
        refine ⟨?_, by have := sq_nonneg U; omega⟩
        refine Decidable.byContradiction fun hn => ?_
        have := ha.1 (Int.le_refl _) (by omega)
        have p := Int.mul_pos (show 0 < U by omega) (show 0 < U by omega)
        rw [Int.neg_mul_neg] at this
        omega
      · obtain ⟨x, y⟩ := ha.2 (by omega)
        rw [Int.neg_mul_neg] at y
        exact ⟨by omega, y⟩
     have w0 : 0 ≤ W ∧ a * a * F ≤ W * W := by
      by_cases ha0 : a = 0
      · subst ha0
        refine ⟨?_, by have := sq_nonneg W; omega⟩
        refine Decidable.byContradiction fun hn => ?_
        have := hb.1 (Int.le_refl _) (by omega)
        have p := Int.mul_pos (show 0 < -W by omega) (show 0 < -W by omega)
        rw [Int.neg_mul_neg] at p
        omega
      · obtain ⟨x, y⟩ := hb.2 (by omega)
        rw [Int.neg_mul_neg] at y
        exact ⟨x, y⟩
     have p := Int.mul_le_mul_of_nonneg_right u0.2 hF
     have q := Int.mul_le_mul_of_nonneg_right w0.2 hE
     have e1 : a * a * F * E = a * a * (E * F) := by grind
     have e2 : b * b * E * F = b * b * (E * F) := by grind
     have ex : (a - b) * (a - b) * (E * F) = a * a * (E * F) + b * b * (E * F) - 2 * (a * b * (E * F)) := by grind
     have uw := Int.mul_nonneg (show 0 ≤ -U by omega) w0.1
     rw [Int.neg_mul] at uw
     refine ⟨fun _ hs => ?_, fun hn => by omega⟩
     have lo : -(2 * (-(a * b) * (E * F))) ≤ U * U * F + W * W * E - (a - b) * (a - b) * (E * F) := by
      rw [Int.neg_mul]; omega
     have ab0 : 0 ≤ -(a * b) := by
      have := Int.mul_nonneg a0 (show 0 ≤ -b by omega)
      rw [Int.mul_neg] at this
      exact this
     have z0 := Int.mul_nonneg ab0 D0
     have s := sq_mono (a := -(U * U * F + W * W * E - (a - b) * (a - b) * (E * F))) (b := 2 * (-(a * b) * (E * F))) (by omega) (by omega)
     rw [Int.neg_mul_neg] at s
     have m := mul4_le p q (Int.mul_nonneg (Int.mul_nonneg (sq_nonneg b) hE) hF) (Int.mul_nonneg (Int.mul_nonneg (sq_nonneg a) hF) hE)
     have e3 : 2 * (-(a * b) * (E * F)) * (2 * (-(a * b) * (E * F))) = 4 * (b * b * E * F * (a * a * F * E)) := by grind
     have e4 : -2 * (U * W) * (-2 * (U * W)) * (E * F) = 4 * (U * U * F * (W * W * E)) := by grind
     omega
 · have h := nn_coreB (E := F) (F := E) (U := -W) (W := -U) (a := -b) (b := -a) hF hE (by rw [Int.neg_neg]; exact hb) (by rw [Int.neg_neg]; exact ha) (by omega) (by omega)
   have e1 : F * E = E * F := Int.mul_comm _ _
   have e2 : -W * -W * E + -U * -U * F - (-b - -a) * (-b - -a) * (F * E) = U * U * F + W * W * E - (a - b) * (a - b) * (E * F) := by grind
   have e3 : -2 * (-W * -U) = -2 * (U * W) := by grind
   rw [e2, e3, e1] at h
   exact h
/-- A quotient by a root lies just below. -/
theorem QQ_nn {t e : Int} (h : -2147483648 ≤ t ∧ t ≤ 2147483648 ∧ 1 ≤ e) : NN e t (-QQ t e) ∧ NN e (-t) (QQ t e + 1) := by
 obtain ⟨t0, t1, e0⟩ := h
 have z := sq_nonneg t
 have q := prod_bound (a := t) (b := t) (A := 2147483648) (B := 2147483648) t0 t1 t0 t1
 have v0 : 0 ≤ t * t / e := Int.ediv_nonneg z (by omega)
 have v1 : t * t / e ≤ t * t := Int.ediv_le_self _ z
 have v2 := Int.mul_ediv_self_le (x := t * t) (k := e) (by omega)
 have v3 := Int.lt_mul_ediv_self_add (x := t * t) (k := e) (by omega)
 obtain ⟨_, r0, r1, r2, r3⟩ := rt_rtf v0 (by omega)
 unfold QQ
 generalize rtf (t * t / e) = r at *
 have lo : r * r * e ≤ t * t := by
  have := Int.mul_le_mul_of_nonneg_right r2 (show 0 ≤ e by omega)
  rw [Int.mul_comm (t * t / e)] at this
  omega
 have hi : t * t < (r + 1) * (r + 1) * e := by
  have := Int.mul_le_mul_of_nonneg_right (show t * t / e + 1 ≤ (r + 1) * (r + 1) by omega) (show 0 ≤ e by omega)
  rw [Int.add_mul, Int.one_mul, Int.mul_comm (t * t / e)] at this
  omega
 by_cases c : 0 ≤ t
 · rw [if_pos c]
   refine ⟨⟨fun _ h => by omega, fun _ => ⟨c, by rw [Int.neg_mul_neg]; exact lo⟩⟩, ⟨fun _ _ => by rw [Int.neg_mul_neg]; omega, fun h => by omega⟩⟩
 · rw [if_neg c, Int.neg_neg]
   have tp := Int.mul_pos (show 0 < -t by omega) (show 0 < -t by omega)
   rw [Int.neg_mul_neg] at tp
   have rp : ¬ r * r * e < t * t → 1 ≤ r := fun hn => by
    refine Decidable.byContradiction fun hc => ?_
    have : r = 0 := by omega
    subst this
    omega
   obtain ⟨k, hk, k0, k1, k2⟩ : ∃ k, (if r * r * e < t * t then r + 1 else r) = k ∧ 1 ≤ k ∧ t * t ≤ k * k * e ∧ (k - 1) * (k - 1) * e ≤ t * t := by
    refine ⟨_, rfl, ?_⟩
    split
    · rename_i d
      rw [show r + 1 - 1 = r by omega]
      exact ⟨by omega, by omega, lo⟩
    · rename_i d
      have r1 := rp d
      have s := Int.mul_le_mul_of_nonneg_right (sq_mono (a := r - 1) (b := r) (by omega) (by omega)) (show 0 ≤ e by omega)
      exact ⟨r1, by omega, by omega⟩
   rw [hk]
   refine ⟨⟨fun _ _ => k1, fun h => by omega⟩, ⟨fun _ h => by omega, fun _ => ⟨by omega, ?_⟩⟩⟩
   rw [Int.neg_mul_neg]
   have : (-k + 1) * (-k + 1) = (k - 1) * (k - 1) := by grind
   rw [this]
   exact k2
/-- The distance of a piece, for coordinates of which one lies in an interval. -/
theorem nn_piece {E F s r : Int} {v : Int × Int} (hE : 1 ≤ E) (hF : 1 ≤ F) (hs : -2097152 ≤ s ∧ s ≤ 2097152) (hr : -2097152 ≤ r ∧ r ≤ 2097152) (h1 : v.1 ≤ QQ (64 * r) F) (h2 : QQ (64 * r) F ≤ v.2) : NN (E * F) (1048576 * (s * s * F + r * r * E) - dpV (QQ (1024 * s) E) v * dpV (QQ (1024 * s) E) v * (E * F)) (-2097152 * (s * r)) := by
 obtain ⟨s1, s2⟩ := QQ_nn (t := 1024 * s) (e := E) ⟨by omega, by omega, hE⟩
 obtain ⟨r1, r2⟩ := QQ_nn (t := 64 * r) (e := F) ⟨by omega, by omega, hF⟩
 generalize QQ (1024 * s) E = t at *
 generalize QQ (64 * r) F = c at *
 have E0 : 0 ≤ E := by omega
 have F0 : 0 ≤ F := by omega
 have eU : 1024 * s * (1024 * s) * F + 1024 * r * (1024 * r) * E = 1048576 * (s * s * F + r * r * E) := by grind
 have eB : -2 * (1024 * s * (1024 * r)) = -2097152 * (s * r) := by grind
 have cs : dpV t v = 0 ∨ (dpV t v = 16 * v.1 - (t + 1) ∧ t + 1 < 16 * v.1) ∨ (dpV t v = t - 16 * (v.2 + 1) ∧ 16 * (v.2 + 1) < t) := by
  unfold dpV imax
  split <;> split <;> omega
 rcases cs with e | ⟨e, g⟩ | ⟨e, g⟩
 · rw [e, Int.zero_mul, Int.zero_mul, Int.sub_zero]
   have D0 := Int.mul_nonneg E0 F0
   have a := Int.mul_nonneg (sq_nonneg s) F0
   have b := Int.mul_nonneg (sq_nonneg r) E0
   refine ⟨fun _ h => by omega, fun _ => ⟨by omega, ?_⟩⟩
   have z := sq_nonneg (s * s * F - r * r * E)
   have e1 : 1048576 * (s * s * F + r * r * E) * (1048576 * (s * s * F + r * r * E)) - -2097152 * (s * r) * (-2097152 * (s * r)) * (E * F) = 1099511627776 * ((s * s * F - r * r * E) * (s * s * F - r * r * E)) := by grind
   omega
 · have hb : NN F (1024 * r) (-(16 * v.1)) := by
    have a := NN.scale (c := 16) (by omega) r1
    have b := NN.add F0 a (NN.pos (D := F) (A := 0) (B := 16 * (c - v.1)) (Int.le_refl _) (by omega))
    rw [show 16 * (64 * r) + 0 = 1024 * r by omega, show 16 * -c + 16 * (c - v.1) = -(16 * v.1) by omega] at b
    exact b
   have := nn_core E0 F0 s2 hb g
   rw [eU, eB] at this
   rw [e]
   exact this
 · have hb : NN F (-(1024 * r)) (16 * (v.2 + 1)) := by
    have a := NN.scale (c := 16) (by omega) r2
    have b := NN.add F0 a (NN.pos (D := F) (A := 0) (B := 16 * (v.2 - c)) (Int.le_refl _) (by omega))
    rw [show 16 * -(64 * r) + 0 = -(1024 * r) by omega, show 16 * (c + 1) + 16 * (v.2 - c) = 16 * (v.2 + 1) by omega] at b
    exact b
   have := nn_core F0 E0 hb s1 g
   have e1 : F * E = E * F := Int.mul_comm _ _
   have e2 : 1024 * r * (1024 * r) * E + 1024 * s * (1024 * s) * F = 1048576 * (s * s * F + r * r * E) := by grind
   have e3 : -2 * (1024 * r * (1024 * s)) = -2097152 * (s * r) := by grind
   rw [e1, e2, e3] at this
   rw [e]
   exact this

/-! The bound of a region is at most the gap. -/
theorem sgA {C F E M D : Int} {w K s r d : Int → Int} : ∀ n : Nat, sg (fun p => C * w p * (s p * s p * F + r p * r p * E) - 2 * M * K p * (d p * d p * D)) n = C * F * sg (fun p => s p * s p * w p) n + C * E * sg (fun p => r p * r p * w p) n - 2 * M * D * sg (fun p => d p * d p * K p) n
 | 0 => by simp [sg]
 | n + 1 => by
  have ih := sgA (C := C) (F := F) (E := E) (M := M) (D := D) (w := w) (K := K) (s := s) (r := r) (d := d) n
  rw [sg, sg, sg, sg, ih]
  grind
theorem sgB {C : Int} {w s r : Int → Int} : ∀ n : Nat, sg (fun p => -2 * C * w p * (s p * r p)) n = -2 * C * sg (fun p => s p * r p * w p) n
 | 0 => by simp [sg]
 | n + 1 => by
  have ih := sgB (C := C) (w := w) (s := s) (r := r) n
  rw [sg, sg, ih]
  grind
theorem nn_bl {E F a b c : Int} (hE : 0 ≤ E) (hF : 0 ≤ F) (a0 : 0 ≤ a) (b0 : 0 ≤ b) (h : c * c ≤ a * b) : NN (E * F) (a * F + b * E) (-2 * c) := by
 have x := Int.mul_nonneg a0 hF
 have y := Int.mul_nonneg b0 hE
 refine ⟨fun _ h => by omega, fun _ => ⟨by omega, ?_⟩⟩
 have D0 := Int.mul_nonneg hE hF
 have p := Int.mul_le_mul_of_nonneg_right h D0
 have z := sq_nonneg (a * F - b * E)
 have e1 : (a * F + b * E) * (a * F + b * E) - (a * F - b * E) * (a * F - b * E) = 4 * (a * b * (E * F)) := by grind
 have e2 : -2 * c * (-2 * c) * (E * F) = 4 * (c * c * (E * F)) := by grind
 omega
theorem srg_nn {f g : Int → Int} {m n : Nat} (hm : m ≤ 32) (hn : 1 ≤ n) (hn2 : n ≤ 8) (hn3 : n ≤ m) {C : Int} {K d : Int → Int} (hC : 0 ≤ C) (hK : ∀ p, 0 ≤ p → p < (n : Int) → 0 ≤ K p ∧ C = 2097152 * (cut m n (p + 1) - cut m n p) * K p)
 {E F G : Int} (eE : sg (fun i => f i * f i) m = E) (eF : sg (fun i => g i * g i) m = F) (eG : sg (fun i => f i * g i) m = G) (hE : 0 ≤ E) (hF : 0 ≤ F)
 (hd : ∀ p, 0 ≤ p → p < (n : Int) → NN (E * F) (1048576 * (dP f m n p * dP f m n p * F + dP g m n p * dP g m n p * E) - d p * d p * (E * F)) (-2097152 * (dP f m n p * dP g m n p))) :
 NN (E * F) ((C - sg (fun p => d p * d p * K p) n) * (E * F)) (-(C * G)) := by
 have D0 := Int.mul_nonneg hE hF
 have m0 := (wt_ok (m := m) (n := n) (p := 0) hm hn hn2 hn3 (by omega) (by omega)).2.2.2.2.1
 have s1 : NN (E * F) (sg (fun p => C * (wt m n p : Int) * (dP f m n p * dP f m n p * F + dP g m n p * dP g m n p * E) - 2 * (mm m n : Int) * K p * (d p * d p * (E * F))) n) (sg (fun p => -2 * C * (wt m n p : Int) * (dP f m n p * dP g m n p)) n) := by
  refine NN.sum D0 fun p p0 p1 => ?_
  obtain ⟨k0, k1⟩ := hK p p0 p1
  have w := pw_eq hm hn hn2 hn3 p0 p1
  have sc := NN.scale (c := 2 * (mm m n : Int) * K p) (Int.mul_nonneg (by omega) k0) (hd p p0 p1)
  have ck : 2 * (mm m n : Int) * K p * 1048576 = C * (wt m n p : Int) := by rw [k1, ← w]; grind
  have e1 : 2 * (mm m n : Int) * K p * (1048576 * (dP f m n p * dP f m n p * F + dP g m n p * dP g m n p * E) - d p * d p * (E * F)) = C * (wt m n p : Int) * (dP f m n p * dP f m n p * F + dP g m n p * dP g m n p * E) - 2 * (mm m n : Int) * K p * (d p * d p * (E * F)) := by rw [← ck]; grind
  have e2 : 2 * (mm m n : Int) * K p * (-2097152 * (dP f m n p * dP g m n p)) = -2 * C * (wt m n p : Int) * (dP f m n p * dP g m n p) := by rw [show -2 * C * (wt m n p : Int) = -2 * (C * (wt m n p : Int)) by grind, ← ck]; grind
  rw [e1, e2] at sc
  exact sc
 rw [sgA (C := C) (F := F) (E := E) (M := mm m n) (D := E * F) (w := fun p => (wt m n p : Int)) (K := K) (s := dP f m n) (r := dP g m n) (d := d), sgB (C := C) (w := fun p => (wt m n p : Int)) (s := dP f m n) (r := dP g m n)] at s1
 have a0 := bl_nonneg f hm hn hn2 hn3
 have b0 := bl_nonneg g hm hn hn2 hn3
 have cs := bl_cs f g hm hn hn2 hn3
 have s2 := NN.scale hC (nn_bl hE hF a0 b0 cs)
 have s3 := NN.add D0 s1 s2
 unfold bl at s3
 rw [eE, eF, eG] at s3
 refine NN.unscale (c := 2 * (mm m n : Int)) (by omega) ?_
 generalize sg (fun p => d p * d p * K p) n = S at *
 generalize sg (fun p => dP f m n p * dP f m n p * (wt m n p : Int)) n = P1 at *
 generalize sg (fun p => dP g m n p * dP g m n p * (wt m n p : Int)) n = P2 at *
 generalize sg (fun p => dP f m n p * dP g m n p * (wt m n p : Int)) n = P3 at *
 generalize (mm m n : Int) = M at *
 have e1 : C * F * P1 + C * E * P2 - 2 * M * (E * F) * S + C * ((M * E - P1) * F + (M * F - P2) * E) = 2 * M * ((C - S) * (E * F)) := by grind
 have e2 : -2 * C * P3 + C * (-2 * (M * G - P3)) = 2 * M * (-(C * G)) := by grind
 rw [e1, e2] at s3
 exact s3
/-- The same for a window without energy. -/
theorem srg_zero {f : Int → Int} {m n : Nat} (hm : m ≤ 32) (hn : 1 ≤ n) (hn2 : n ≤ 8) (hn3 : n ≤ m) {C : Int} {K d : Int → Int} (hC : 0 ≤ C) (hK : ∀ p, 0 ≤ p → p < (n : Int) → 0 ≤ K p ∧ C = 2097152 * (cut m n (p + 1) - cut m n p) * K p)
 {E : Int} (eE : sg (fun i => f i * f i) m = E) (hE : 1 ≤ E) (hd : ∀ p, 0 ≤ p → p < (n : Int) → d p * d p * E ≤ 1048576 * (dP f m n p * dP f m n p)) : sg (fun p => d p * d p * K p) n ≤ C := by
 have m0 := (wt_ok (m := m) (n := n) (p := 0) hm hn hn2 hn3 (by omega) (by omega)).2.2.2.2.1
 have s1 : sg (fun p => d p * d p * K p) n * (2 * (mm m n : Int) * E) ≤ C * sg (fun p => dP f m n p * dP f m n p * (wt m n p : Int)) n := by
  rw [sg_mulr, Int.mul_comm C, sg_mulr]
  refine sg_le fun p p0 p1 => ?_
  obtain ⟨k0, k1⟩ := hK p p0 p1
  have w := pw_eq hm hn hn2 hn3 p0 p1
  have q := Int.mul_le_mul_of_nonneg_left (hd p p0 p1) (Int.mul_nonneg (show 0 ≤ 2 * (mm m n : Int) by omega) k0)
  have ck : 2 * (mm m n : Int) * K p * 1048576 = C * (wt m n p : Int) := by rw [k1, ← w]; grind
  have e1 : 2 * (mm m n : Int) * K p * (d p * d p * E) = d p * d p * K p * (2 * (mm m n : Int) * E) := by grind
  have e2 : 2 * (mm m n : Int) * K p * (1048576 * (dP f m n p * dP f m n p)) = dP f m n p * dP f m n p * (wt m n p : Int) * C := by
   rw [show dP f m n p * dP f m n p * (wt m n p : Int) * C = C * (wt m n p : Int) * (dP f m n p * dP f m n p) by grind, ← ck]; grind
  omega
 have a0 := bl_nonneg f hm hn hn2 hn3
 unfold bl at a0
 rw [eE] at a0
 have p1 := Int.mul_le_mul_of_nonneg_left (show sg (fun p => dP f m n p * dP f m n p * (wt m n p : Int)) n ≤ mm m n * E by omega) hC
 have S0 : 0 ≤ sg (fun p => d p * d p * K p) n := sg_nonneg fun p p0 p1 => Int.mul_nonneg (sq_nonneg _) (hK p p0 p1).1
 generalize sg (fun p => d p * d p * K p) n = S at *
 generalize sg (fun p => dP f m n p * dP f m n p * (wt m n p : Int)) n = P at *
 have M0 : 0 < (mm m n : Int) * E := Int.mul_pos (by omega) (by omega)
 refine Decidable.byContradiction fun hc => ?_
 have q := Int.mul_le_mul_of_nonneg_right (show C + 1 ≤ S by omega) (show 0 ≤ (mm m n : Int) * E by omega)
 have e1 : S * (2 * (mm m n : Int) * E) = S * ((mm m n : Int) * E) + S * ((mm m n : Int) * E) := by grind
 have e2 : (C + 1) * ((mm m n : Int) * E) = C * ((mm m n : Int) * E) + (mm m n : Int) * E := by grind
 have s0 := Int.mul_nonneg S0 (show 0 ≤ (mm m n : Int) * E by omega)
 omega
/-- From roots to squares. -/
theorem srg_sq {m qa qb u X C : Int} (m1 : 1 ≤ m) (W0 : 0 < qa * qb) (C0 : 0 < C) (h : NN (m * qa * (m * qb)) (X * (m * qa * (m * qb))) (-(C * (m * u)))) : (0 < u → 0 ≤ X ∧ C * C * (u * u) ≤ X * X * (qa * qb)) ∧ (u ≤ 0 → X < 0 → X * X * (qa * qb) ≤ C * C * (u * u)) := by
 have eD : m * qa * (m * qb) = m * m * (qa * qb) := by grind
 rw [eD] at h
 generalize qa * qb = W at *
 have mm0 := Int.mul_pos (show 0 < m by omega) (show 0 < m by omega)
 have D0 := Int.mul_pos mm0 W0
 have e1 : X * (m * m * W) * (X * (m * m * W)) = m * m * (m * m * W) * (X * X * W) := by grind
 have e2 : -(C * (m * u)) * -(C * (m * u)) * (m * m * W) = m * m * (m * m * W) * (C * C * (u * u)) := by grind
 have big := Int.mul_pos mm0 D0
 have cm := Int.mul_pos C0 (show 0 < m by omega)
 have e3 : C * (m * u) = C * m * u := by grind
 unfold NN at h
 rw [e1, e2, e3] at h
 refine ⟨fun hu => ?_, fun hu hX => ?_⟩
 · have := Int.mul_pos cm hu
   obtain ⟨a, b⟩ := h.2 (by omega)
   refine ⟨?_, Int.le_of_mul_le_mul_left b big⟩
   refine Decidable.byContradiction fun hn => ?_
   have := Int.mul_neg_of_neg_of_pos (show X < 0 by omega) D0
   omega
 · have := Int.mul_nonneg (show 0 ≤ C * m by omega) (show 0 ≤ -u by omega)
   rw [Int.mul_neg] at this
   exact Int.le_of_mul_le_mul_left (h.1 (by omega) (Int.mul_neg_of_neg_of_pos hX D0)) big
/-- The value, as a fraction, is at most the gap. -/
def vnum (S C : Int) : Int := if 2 * C < S then 2 else if C < S then C * C + (C - S) * (C - S) else C * C - (C - S) * (C - S)
def vden (S C : Int) : Int := if 2 * C < S then 1 else C * C
theorem srg_fin {qa qb u S C : Int} (W0 : 0 < qa * qb) (C0 : 0 < C) (hu : u * u ≤ qa * qb) (h1 : 0 < u → 0 ≤ C - S ∧ C * C * (u * u) ≤ (C - S) * (C - S) * (qa * qb)) (h2 : u ≤ 0 → C - S < 0 → (C - S) * (C - S) * (qa * qb) ≤ C * C * (u * u)) :
 ¬ 2 * C < S ∧ vnum S C * (gden qa qb : Int) ≤ (gnum u qa qb : Int) * vden S C := by
 have hz : ¬ (qa = 0 ∧ qb = 0) := fun h => by rw [h.1] at W0; simp at W0
 have z := sq_nonneg u
 have im : imin (qa * qb) (u * u) = u * u := by unfold imin; split <;> omega
 have xz := sq_nonneg (C - S)
 have CC := Int.mul_pos C0 C0
 unfold gnum gden
 rw [if_neg hz, if_neg (by omega), if_neg (by omega), im]
 generalize qa * qb = W at *
 have xw := Int.mul_nonneg xz (show 0 ≤ W by omega)
 have cu := Int.mul_nonneg (show 0 ≤ C * C by omega) z
 have nb : ¬ 2 * C < S := fun hb => by
  have up : u ≤ 0 := Decidable.byContradiction fun hn => by have := (h1 (by omega)).1; omega
  have a := h2 up (by omega)
  have b := Int.mul_le_mul_of_nonneg_left hu (show 0 ≤ C * C by omega)
  have c := Int.mul_le_mul (a := C + 1) (b := C + 1) (c := S - C) (d := S - C) (by omega) (by omega) (by omega) (by omega)
  have e : (S - C) * (S - C) = (C - S) * (C - S) := by grind
  have e2 : (C + 1) * (C + 1) = C * C + C + C + 1 := by grind
  have d := Int.mul_le_mul_of_nonneg_right (show C * C + 1 ≤ (C - S) * (C - S) by omega) (show 0 ≤ W by omega)
  rw [Int.add_mul, Int.one_mul] at d
  omega
 refine ⟨nb, ?_⟩
 unfold vnum vden
 rw [if_neg nb, if_neg nb]
 by_cases c : C < S
 · rw [if_pos c]
   have up : u ≤ 0 := Decidable.byContradiction fun hn => by have := (h1 (by omega)).1; omega
   have a := h2 up (by omega)
   by_cases u0 : u < 0
   · rw [if_pos u0, show ((W + u * u).toNat : Int) = W + u * u by omega, show (W.toNat : Int) = W by omega, Int.add_mul, Int.add_mul, Int.mul_comm W (C * C), Int.mul_comm (u * u)]
     omega
   · have : u = 0 := by omega
     subst this
     simp at a
     have p := Int.mul_pos (show 0 < S - C by omega) (show 0 < S - C by omega)
     have e : (S - C) * (S - C) = (C - S) * (C - S) := by grind
     rw [e] at p
     have := Int.mul_pos p W0
     omega
 · rw [if_neg c]
   by_cases u0 : u < 0
   · rw [if_pos u0, show ((W + u * u).toNat : Int) = W + u * u by omega, show (W.toNat : Int) = W by omega, Int.sub_mul, Int.add_mul, Int.mul_comm W (C * C), Int.mul_comm (u * u)]
     omega
   · generalize (C - S) * (C - S) = Z at *
     rw [if_neg u0, show ((W - u * u).toNat : Int) = W - u * u by omega, show (W.toNat : Int) = W by omega, Int.sub_mul, Int.sub_mul, Int.mul_comm W (C * C), Int.mul_comm (u * u)]
     by_cases u1 : u = 0
     · subst u1; simp; omega
     · have := (h1 (by omega)).2
       omega

-- The bound of a region is at most the gap of each window whose coordinates lie in it: SketchRegions returns true for every list.
theorem awake_k (k : Nat) : T_law21_awake (k + 60) = some true := by kernel_rfl
theorem awake_ok : Gives (fun k => T_law21_awake k) (· = true) := ⟨true, ⟨60, fun k hk => by
 obtain ⟨m, rfl⟩ : ∃ m, k = m + 60 := ⟨k - 60, by omega⟩
 exact awake_k m⟩, rfl⟩
theorem pcc_dP {x : List Int} {n p : Int} (hx : Win x) (hn : 1 ≤ n) (p0 : 0 ≤ p) (p1 : p < n) : pcc x n p = dP (cx x.length x) x.length n p ∧ -2048000 ≤ dP (cx x.length x) x.length n p ∧ dP (cx x.length x) x.length n p ≤ 2048000 := by
 have x2 := hx.hi
 have k1 := cut_range (m := (x.length : Int)) (n := n) (p := p) (by omega) (by omega) (by omega) (by omega)
 have k2 := cut_range (m := (x.length : Int)) (n := n) (p := p + 1) (by omega) (by omega) (by omega) (by omega)
 have k3 := cut_mono (m := (x.length : Int)) (n := n) (p := p) (q := p + 1) (by omega) (by omega) (by omega)
 have g := sg_gap (cx x.length x) 64000 (fun i => cx_bound hx (by omega) (by omega) i) (cut x.length n p).toNat ((cut x.length n (p + 1)).toNat - (cut x.length n p).toNat)
 rw [Nat.add_sub_cancel' (by omega)] at g
 refine ⟨?_, by unfold dP; omega, by unfold dP; omega⟩
 unfold pcc pcs dP
 rw [sg_cx _ _ _ (by omega), sg_cx _ _ _ (by omega), Int.toNat_of_nonneg k1.1, Int.toNat_of_nonneg k2.1]
 grind
theorem skv_of {x s : List Int} {E : Int} {n : Nat} (h : Skn x s E n) : SkV x.length s E := by
 have lo := h.win.lo
 have hi := h.win.hi
 have n1 := h.n1
 have n2 := h.n2
 have n3 := h.n3
 have hl := h.len
 obtain ⟨e0, e1, e2, e3, _⟩ := h.energy
 have ps := prod_self h.win
 refine ⟨⟨by omega, by omega, by omega, by omega, by omega⟩, e2, ?_, ?_, fun p p0 p1 => ?_, ?_⟩
 · rw [h.en]
   have := Int.mul_le_mul_of_nonneg_left ps.2.1 (show 0 ≤ (x.length : Int) by omega)
   have e : (x.length : Int) * ((x.length : Int) * ((x.length : Int) * 1000000)) = (x.length : Int) * x.length * x.length * 1000000 := by grind
   omega
 · rw [h.en]; exact Int.mul_emod_right _ _
 · have := h.bd p0 (by omega)
   exact ⟨by omega, by omega⟩
 · have e : sg (kq x.length s) s.length = kn x s n := by
    rw [hl]
    unfold kn
    refine sg_congr fun p p0 p1 => ?_
    unfold kq ln
    rw [hl]
   rw [e]; exact e1
theorem dp_zero {E s : Int} {v : Int × Int} (hE : 1 ≤ E) (hs : -2097152 ≤ s ∧ s ≤ 2097152) (h1 : v.1 ≤ 0) (h2 : 0 ≤ v.2) : dpV (QQ (1024 * s) E) v * dpV (QQ (1024 * s) E) v * E ≤ 1048576 * (s * s) := by
 obtain ⟨s1, s2⟩ := QQ_nn (t := 1024 * s) (e := E) ⟨by omega, by omega, hE⟩
 generalize QQ (1024 * s) E = t at *
 have cs : dpV t v = 0 ∨ (0 < dpV t v ∧ dpV t v ≤ -(t + 1)) ∨ (0 < dpV t v ∧ dpV t v ≤ t) := by
  unfold dpV imax
  split <;> split <;> omega
 have e1 : 1024 * s * (1024 * s) = 1048576 * (s * s) := by grind
 rcases cs with e | ⟨e, g⟩ | ⟨e, g⟩
 · rw [e]
   have := sq_nonneg s
   simp
   omega
 · have q := (s2.2 (by omega)).2
   rw [Int.neg_mul_neg, e1] at q
   have m := Int.mul_le_mul_of_nonneg_right (sq_mono (a := dpV t v) (b := -(t + 1)) (by omega) g) (show 0 ≤ E by omega)
   rw [Int.neg_mul_neg] at m
   omega
 · have q := (s1.2 (by omega)).2
   rw [Int.neg_mul_neg, e1] at q
   have m := Int.mul_le_mul_of_nonneg_right (sq_mono (a := dpV t v) (b := t) (by omega) g) (show 0 ≤ E by omega)
   omega
theorem rvV_eq (S C : Int) : rvV S C = mkr (vnum S C).toNat (vden S C).toNat := by
 unfold rvV vnum vden
 split
 · exact mkr21.symm
 · split <;> rfl
theorem vden_pos {S C : Int} (h : 0 < C) : 0 < vden S C := by
 have := Int.mul_pos h h
 unfold vden
 split <;> omega
theorem vnum_pos {S C : Int} (h : 0 < C) (S0 : 0 ≤ S) : 0 ≤ vnum S C ∧ vnum S C ≤ 2 * vden S C := by
 have cc := Int.mul_pos h h
 unfold vnum vden
 by_cases b : 2 * C < S
 · rw [if_pos b, if_pos b]; omega
 rw [if_neg b, if_neg b]
 have z := sq_nonneg (C - S)
 have q := sq_le2 (C := C) (S := S) (by omega) S0 (by omega)
 split <;> omega
theorem sk_regP {m E : Int} {s : List Int} {l : List (Int × Int)} (h : SkV m s E) (hE : 1 ≤ E) (hl : l.length = s.length) (ha : All l) (he : ¬ Em l) : ∃ (C : Int) (K : Int → Int), 2097152 ≤ C ∧ C ≤ 570425344 ∧ (∀ p, 0 ≤ p → p < (s.length : Int) → 1 ≤ K p ∧ K p ≤ 17 ∧ C = 2097152 * ln m s.length p * K p) ∧
 0 ≤ totV s E l K s.length ∧ Gives (fun k => T_sketch_Region k m s E l) (fun r => r = mkr (vnum (totV s E l K s.length) C).toNat (vden (totV s E l K s.length) C).toNat) := by
 have n1 := h.dim.n1
 have n2 := h.dim.n2
 obtain ⟨C, K, c1, c2, hK, ho⟩ := sk_outsideV h hE hl ha
 have S0 : 0 ≤ totV s E l K s.length := sg_nonneg fun p p0 p1 => Int.mul_nonneg (sq_nonneg _) (by have := hK p p0 p1; omega)
 have cc := sq_small (C := C) (by omega) c2
 refine ⟨C, K, c1, c2, hK, S0, ?_⟩
 rw [← rvV_eq]
 refine Gives.step ?_
 simp only [T_sketch_Region]
 refine Gives.bind sk_validG fun v hv => ?_
 rcases hv.symm with ⟨_, hv⟩ | ⟨rfl, _⟩
 · exact absurd h hv
 refine Gives.neg (by simp) (Gives.neg (by simp [hl]) (Gives.bind (sk_loop (by omega)) fun r hr => ?_))
 rcases hr.symm with ⟨hr, _⟩ | ⟨_, b, rfl, hb⟩
 · exact absurd ha hr
 refine Gives.neg (by rw [hb]; exact he) (Gives.neg (by omega) (Gives.bind ho fun v hv => ?_))
 unfold rvV
 rcases hv with ⟨v1, v2⟩ | ⟨rfl, v2⟩
 · rw [if_pos v2]
   exact Gives.pos v1 (Gives.bind (mk_make (m := 2) (n := 1) (by omega) (by omega) (by omega) (by omega)) fun r hr => Gives.now (by rw [hr]; exact mkr21))
 · rw [if_neg (by omega)]
   simp only []
   generalize totV s E l K s.length = S at *
   have sl := sq_le2 (C := C) (S := S) (by omega) S0 v2
   have sz := sq_nonneg (C - S)
   rw [w64_id (x := C - S) (by omega) (by omega), w64_id (x := C * C) (by omega) (by omega), w64_id (x := (C - S) * (C - S)) (by omega) (by omega), w64_id (x := C * C + (C - S) * (C - S)) (by omega) (by omega), w64_id (x := C * C - (C - S) * (C - S)) (by omega) (by omega)]
   by_cases d : C < S
   · rw [if_pos d]
     exact Gives.neg (by simp) (Gives.pos (by omega) (Gives.bind (mk_make (by omega) (by omega) (by omega) (by omega)) fun r hr => Gives.now (by rw [hr])))
   · rw [if_neg d]
     exact Gives.neg (by simp) (Gives.neg (by omega) (Gives.bind (mk_make (by omega) (by omega) (by omega) (by omega)) fun r hr => Gives.now (by rw [hr])))
theorem sk_regZ {m : Int} {s : List Int} {l : List (Int × Int)} (h : SkV m s 0) (hl : l.length = s.length) (ha : All l) (he : ¬ Em l) : Gives (fun k => T_sketch_Region k m s 0 l) (fun r => (Zr l ∧ r = mkr 0 1) ∨ (¬ Zr l ∧ r = mkr 1 1)) := by
 have n2 := h.dim.n2
 refine Gives.step ?_
 simp only [T_sketch_Region]
 refine Gives.bind sk_validG fun v hv => ?_
 rcases hv.symm with ⟨_, hv⟩ | ⟨rfl, _⟩
 · exact absurd h hv
 refine Gives.neg (by simp) (Gives.neg (by simp [hl]) (Gives.bind (sk_loop (by omega)) fun r hr => ?_))
 rcases hr.symm with ⟨hr, _⟩ | ⟨_, b, rfl, hb⟩
 · exact absurd ha hr
 refine Gives.neg (by rw [hb]; exact he) (Gives.pos trivial (Gives.bind (sk_flatV (by omega)) fun v hv => Gives.now ?_))
 rw [mkr01, mkr11]
 exact hv
theorem coo3 {x : List Int} {n p : Int} : coo 3 x n p = if (x.length : Int) * selfP x = 0 then 0 else QQ (64 * pcc x n p) ((x.length : Int) * selfP x) := by
 unfold coo
 rw [if_neg (by decide), if_pos rfl]
theorem srg_main {q x s : List Int} {E : Int} {n : Nat} {l : List (Int × Int)} (h : Skn q s E n) (hx : Win x) (hq : q.length = x.length) (hl : l.length = n) (ha : All l) (hc : ∀ p, 0 ≤ p → p < (n : Int) → (rpi l p).1 ≤ coo 3 x n p ∧ coo 3 x n p ≤ (rpi l p).2) :
 ∃ A B : Int, 0 ≤ A ∧ 0 < B ∧ A ≤ 2 * B ∧ B ≤ 400000000000000000 ∧ Gives (fun k => T_sketch_Region k q.length s E l) (fun r => r = mkr A.toNat B.toNat) ∧ A * (gden (prodP q q) (prodP x x) : Int) ≤ (gnum (prodP q x) (prodP q q) (prodP x x) : Int) * B := by
 have lo := h.win.lo
 have hi := h.win.hi
 have n1 := h.n1
 have n2 := h.n2
 have n3 := h.n3
 have sl := h.len
 have v := skv_of h
 have qa0 := (prod_self h.win).1
 have qb0 := (prod_self hx).1
 have cs := (prod_two h.win hx hq).2.2
 have he : ¬ Em l := fun ⟨p, p0, p1, p2⟩ => by have := hc p p0 (by omega); omega
 have eN : (x.length : Int) * selfP x = (x.length : Int) * prodP x x := by rw [selfP_prod]
 have qb1 : (x.length : Int) * selfP x = 0 ↔ prodP x x = 0 := by
  rw [eN]
  constructor
  · intro z
    rcases Int.mul_eq_zero.1 z with c | c
    · omega
    · exact c
  · intro z; rw [z, Int.mul_zero]
 by_cases hE : E = 0
 · subst hE
   have qz : prodP q q = 0 := by
    have := h.en
    rcases Int.mul_eq_zero.1 this.symm with c | c
    · omega
    · exact c
   by_cases z : Zr l
   · refine ⟨0, 1, by omega, by omega, by omega, by omega, (sk_regZ v (by omega) ha he).mono fun r hr => ?_, by rw [Int.zero_mul, Int.mul_one]; omega⟩
     rcases hr with ⟨_, hr⟩ | ⟨hr, _⟩
     · exact hr
     · exact absurd z hr
   · refine ⟨1, 1, by omega, by omega, by omega, by omega, (sk_regZ v (by omega) ha he).mono fun r hr => ?_, ?_⟩
     · rcases hr with ⟨hr, _⟩ | ⟨_, hr⟩
       · exact absurd hr z
       · exact hr
     · have nz : prodP x x ≠ 0 := fun hz => z fun p p0 p1 => by
        have := hc p p0 (by omega)
        rw [coo3, if_pos (qb1.2 hz)] at this
        exact this
       have g1 : gden 0 (prodP x x) = 1 := by unfold gden; rw [Int.zero_mul, if_pos rfl]
       have g2 : gnum (prodP q x) 0 (prodP x x) = 1 := by unfold gnum; rw [if_neg (fun hh => nz hh.2), Int.zero_mul, if_pos rfl]
       rw [qz, g1, g2]
       decide
 · have hE1 : 1 ≤ E := by have := v.e0; omega
   obtain ⟨C, K, c1, c2, hK, S0, g⟩ := sk_regP v hE1 (by omega) ha he
   have vd := vden_pos (S := totV s E l K s.length) (C := C) (by omega)
   obtain ⟨vn0, vn1⟩ := vnum_pos (S := totV s E l K s.length) (C := C) (by omega) S0
   have cc := sq_small (C := C) (by omega) c2
   have vb : vden (totV s E l K s.length) C ≤ 400000000000000000 := by unfold vden; split <;> omega
   refine ⟨_, _, vn0, vd, vn1, vb, g, ?_⟩
   have qa1 : 0 < prodP q q := by
    have e := h.en
    refine Decidable.byContradiction fun hn => ?_
    have : prodP q q = 0 := by omega
    rw [this, Int.mul_zero] at e
    exact hE e
   have hK' : ∀ p, 0 ≤ p → p < (n : Int) → 0 ≤ K p ∧ C = 2097152 * (cut q.length n (p + 1) - cut q.length n p) * K p := fun p p0 p1 => by
    obtain ⟨a, _, b⟩ := hK p p0 (by omega)
    unfold ln at b
    rw [sl] at b
    exact ⟨by omega, b⟩
   have eS : totV s E l K s.length = sg (fun p => dist s E l p * dist s E l p * K p) n := by rw [sl]; rfl
   have eE : sg (fun i => cx q.length q i * cx q.length q i) q.length = E := by rw [Skn.cent rfl, h.en]
   have bq := fun p p0 p1 => pcc_dP (p := p) (n := (n : Int)) h.win (by omega) p0 p1
   have bx := fun p p0 p1 => pcc_dP (p := p) (n := (n : Int)) hx (by omega) p0 p1
   by_cases hF : prodP x x = 0
   · have S1 : totV s E l K s.length ≤ C := by
      rw [eS]
      refine srg_zero (f := cx q.length q) (m := q.length) hi n1 n2 n3 (by omega) hK' eE hE1 fun p p0 p1 => ?_
      have c := hc p p0 p1
      rw [coo3, if_pos (qb1.2 hF)] at c
      have b := bq p p0 p1
      have := dp_zero (s := dP (cx q.length q) q.length n p) hE1 ⟨by omega, by omega⟩ c.1 c.2
      unfold dist
      rw [h.val p p0 p1]
      exact this
     have q := sq_nonneg (C - totV s E l K s.length)
     unfold gnum gden vnum vden
     rw [hF, Int.mul_zero, if_neg (fun hh => by omega), if_pos rfl, if_pos rfl, if_neg (by omega), if_neg (by omega), if_neg (by omega)]
     show (C * C - (C - totV s E l K s.length) * (C - totV s E l K s.length)) * 1 ≤ 1 * (C * C)
     omega
   · have qb2 : 0 < prodP x x := by omega
     have eF : sg (fun i => cx q.length x i * cx q.length x i) q.length = (q.length : Int) * prodP x x := by rw [hq]; exact Skn.cent rfl
     have eG : sg (fun i => cx q.length q i * cx q.length x i) q.length = (q.length : Int) * prodP q x := Skn.cent hq
     have F1 : 1 ≤ (q.length : Int) * prodP x x := Int.mul_pos (by omega) qb2
     have nn := srg_nn (f := cx q.length q) (g := cx q.length x) (m := q.length) (d := dist s E l) hi n1 n2 n3 (by omega) hK' eE eF eG (by omega) (by omega) fun p p0 p1 => by
      have c := hc p p0 p1
      rw [coo3, if_neg (fun hz => hF (qb1.1 hz)), (bx p p0 p1).1, eN, ← hq] at c
      have b := bq p p0 p1
      have b' := bx p p0 p1
      rw [← hq] at b'
      unfold dist
      rw [h.val p p0 p1]
      exact nn_piece hE1 F1 ⟨by omega, by omega⟩ ⟨by omega, by omega⟩ c.1 c.2
     rw [← eS, h.en] at nn
     obtain ⟨r1, r2⟩ := srg_sq (by omega) (Int.mul_pos qa1 qb2) (by omega) nn
     rw [← h.en] at r1 r2
     exact (srg_fin (Int.mul_pos qa1 qb2) (by omega) cs r1 r2).2
/-- The full word of a window, counted anew. -/
theorem r19_ofC {kd bd gp len n : Int} {cuts x cs : List Int} (h : SchOk kd bd gp len n cuts) (hc : Gives (fun k => T_ref19_Coordinates k kd bd gp len n cuts x) (· = (cs, 0))) (hn : (cs.length : Int) = n) : Gives (fun k => T_ref19_Of k kd bd gp len n cuts x) (fun r => Word cuts cs n r.1 r.2.1) := by
 have c1 := h.c1
 have n1 := h.n1
 have n2 := h.n2
 refine Gives.step ?_
 simp only [T_ref19_Of]
 refine Gives.bind hc fun r hr => ?_
 subst hr
 refine Gives.neg (by simp) (Gives.bind (Q := fun r => r.2.2.1.length = r.1 ∧ r.2.2.2.length = r.2.1 ∧ (r.1 : Int) = n ∧ (r.2.1 : Int) = n ∧ ∀ p, 0 ≤ p → p < n → rd r.2.2.2 p = 4 ∧ Cnt cuts (rd cs p) (rd r.2.2.1 p)) ?_ fun r hr => ?_)
 · simp only []
   rw [hn]
   refine Gives.loop (fun s => 0 ≤ s.1 ∧ s.1 ≤ n ∧ (s.2.1 : Int) = s.1 ∧ (s.2.2.1 : Int) = s.1 ∧ s.2.2.2.1.length = s.2.1 ∧ s.2.2.2.2.length = s.2.2.1 ∧ ∀ p, 0 ≤ p → p < s.1 → rd s.2.2.2.2 p = 4 ∧ Cnt cuts (rd cs p) (rd s.2.2.2.1 p)) (fun s => (n - s.1).toNat) ?_ ⟨by simp only []; omega, by simp only []; omega, rfl, rfl, rfl, rfl, fun p h0 h1 => by simp only at h1; omega⟩
   intro ⟨i, a, b, s, t⟩ ⟨i0, i1, e1, e2, l1, l2, hi⟩
   simp only at i0 i1 e1 e2 l1 l2 hi
   unfold T_ref19_Of_l2
   simp only []
   refine Gives.ite (fun c => ?_) fun c => Gives.now ⟨l1, l2, by simp only []; omega, by simp only []; omega, fun p h0 h1 => hi p h0 (by omega)⟩
   refine Gives.bind (Q := fun v => Cnt cuts (rd cs i) v) ?_ fun v hv => ?_
   · refine Gives.loop (fun s => 0 ≤ s.2 ∧ s.2 ≤ (cuts.length : Int) ∧ 0 ≤ s.1 ∧ s.1 ≤ s.2 ∧ (∀ q, 0 ≤ q → q < s.1 → rd cuts q ≤ rd cs i) ∧ (s.1 = s.2 ∨ rd cs i < rd cuts s.1)) (fun s => ((cuts.length : Int) - s.2).toNat) ?_ ⟨by simp only []; omega, by simp only []; omega, by simp only []; omega, by simp only []; omega, fun q q0 q1 => by simp only at q1; omega, .inl rfl⟩
     intro ⟨c', j⟩ ⟨j0, j1, j2, j3, j4, j5⟩
     simp only at j0 j1 j2 j3 j4 j5
     unfold T_ref19_Of_l1
     simp only []
     refine Gives.ite (fun cc => Gives.opt (at_rd j0 cc) (Gives.opt (at_rd i0 (by omega)) (Gives.bind (Q := fun v => v = if rd cuts j ≤ rd cs i then c' + 1 else c') ?_ fun v hv => ?_))) fun cc => Gives.now ⟨j2, by omega, j4, fun q q0 q1 => ?_⟩
     · rw [w64_id (x := c' + 1) (by omega) (by omega)]
       exact Gives.ite (fun d => Gives.now (by rw [if_pos d])) fun d => Gives.now (by rw [if_neg d])
     · rw [w64_id (x := j + 1) (by omega) (by omega)]
       by_cases d : rd cuts j ≤ rd cs i
       · rw [if_pos d] at hv
         have cj : c' = j := by
          rcases j5 with e | e
          · exact e
          · refine Decidable.byContradiction fun hne => ?_
            have := h.le (i := c') (j := j) j2 (by omega) cc
            omega
         subst cj
         refine Gives.now ⟨⟨by simp only []; omega, by simp only []; omega, by simp only []; omega, by simp only []; omega, fun q q0 q1 => ?_, .inl (by simp only []; omega)⟩, by simp only []; omega⟩
         by_cases e : q = c'
         · rw [e]; exact d
         · exact j4 q q0 (by simp only at q1; omega)
       · rw [if_neg d] at hv
         subst hv
         refine Gives.now ⟨⟨by simp only []; omega, by simp only []; omega, by simp only []; omega, by simp only []; omega, j4, .inr ?_⟩, by simp only []; omega⟩
         simp only []
         rcases j5 with e | e
         · rw [e]; omega
         · exact e
     · rcases j5 with e | e
       · omega
       · have := h.le (i := c') (j := q) j2 q0 q1
         omega
   · rw [w64_id (x := i + 1) (by omega) (by omega), drop_take_len l1, drop_take_len l2]
     refine Gives.pos (by unfold LIM; omega) (Gives.pos (by unfold LIM; omega) (Gives.now ⟨⟨by simp only []; omega, by simp only []; omega, by simp only []; omega, by simp only []; omega, by simp [l1], by simp [l2], fun p h0 h1 => ?_⟩, by simp only []; omega⟩))
     simp only at h1 ⊢
     by_cases e : p = i
     · subst e; rw [rd_app_1 h0 (by omega), rd_app_1 h0 (by omega)]; exact ⟨rfl, hv⟩
     · rw [rd_app_l (by omega), rd_app_l (by omega)]; exact hi p h0 (by omega)
 · obtain ⟨r1, r2, r3, r4, r5⟩ := hr
   rw [drop_take_len r1, drop_take_len r2]
   refine Gives.now ⟨⟨by simp only []; omega, by simp only []; omega, fun p h0 h1 => ?_⟩, fun p h0 h1 => (r5 p h0 h1).1, fun p h0 h1 => (r5 p h0 h1).2⟩
   obtain ⟨a, b⟩ := r5 p h0 h1
   have := b.lo
   have := b.hi
   simp only []
   rw [a]
   exact ⟨by omega, by omega, by omega, by simp only [show (4 : Int).toNat = 4 from rfl]; omega⟩
/-- A word above a full one, which it belongs to. -/
theorem src_upperI {L fs fb : List Int} {q n : Int} (h : SrcOk L q) (n1 : 1 ≤ n) (n2 : n ≤ 8) (f : WOk n fs fb) (ff : FOk n fb) : Gives (fun k => T_keep_Src_Upper k fs fb L q) (fun r => WOk n r.1 r.2.1 ∧ ∀ p, 0 ≤ p → p < n → inW (rd r.1 p) (rd r.2.1 p) (rd fs p) = true) := by
 obtain ⟨f1, f2, f3⟩ := f
 refine Gives.step ?_
 simp only [T_keep_Src_Upper]
 rw [f1]
 refine Gives.bind (Q := fun r => (r.2.1 : Int) = n ∧ (r.2.2.1 : Int) = n ∧ r.2.2.2.1.length = r.2.1 ∧ r.2.2.2.2.length = r.2.2.1 ∧ ∀ p, 0 ≤ p → p < n → (0 ≤ rd r.2.2.2.2 p ∧ rd r.2.2.2.2 p ≤ 4 ∧ 0 ≤ rd r.2.2.2.1 p ∧ rd r.2.2.2.1 p < 2 ^ (rd r.2.2.2.2 p).toNat) ∧ inW (rd r.2.2.2.1 p) (rd r.2.2.2.2 p) (rd fs p) = true) ?_ fun r hr => ?_
 · refine Gives.loop (fun s => 0 ≤ s.1 ∧ s.1 ≤ n ∧ SrcOk L s.2.1 ∧ (s.2.2.1 : Int) = s.1 ∧ (s.2.2.2.1 : Int) = s.1 ∧ s.2.2.2.2.1.length = s.2.2.1 ∧ s.2.2.2.2.2.length = s.2.2.2.1 ∧ ∀ p, 0 ≤ p → p < s.1 → (0 ≤ rd s.2.2.2.2.2 p ∧ rd s.2.2.2.2.2 p ≤ 4 ∧ 0 ≤ rd s.2.2.2.2.1 p ∧ rd s.2.2.2.2.1 p < 2 ^ (rd s.2.2.2.2.2 p).toNat) ∧ inW (rd s.2.2.2.2.1 p) (rd s.2.2.2.2.2 p) (rd fs p) = true) (fun s => (n - s.1).toNat) ?_ ⟨by simp only []; omega, by simp only []; omega, h, rfl, rfl, rfl, rfl, fun p h0 h1 => by simp only at h1; omega⟩
   intro ⟨i, at_, a, b, s, t⟩ ⟨i0, i1, i2, e1, e2, l1, l2, hi⟩
   simp only at i0 i1 i2 e1 e2 l1 l2 hi
   unfold T_keep_Src_Upper_l1
   simp only []
   refine Gives.ite (fun c => Gives.bind (src_n i2 5 (by omega) (by omega)) fun u hu => Gives.opt (at_rd i0 (by omega)) ?_) fun c => Gives.now ⟨by simp only []; omega, by simp only []; omega, l1, l2, fun p h0 h1 => hi p h0 (by omega)⟩
   obtain ⟨u0, u1, u2⟩ := hu
   rw [wid_w u0 (by omega), w64_id (x := 4 - u.1) (by omega) (by omega), w64_id (x := i + 1) (by omega) (by omega), drop_take_len l1, drop_take_len l2]
   obtain ⟨_, _, s0, s1⟩ := f3 i i0 c
   rw [ff i i0 c] at s1
   have s1' : rd fs i < 16 := s1
   have ed : 0 ≤ (rd fs i).fdiv (wid u.1) ∧ (rd fs i).fdiv (wid u.1) < 2 ^ u.1.toNat := by
    rcases (show u.1 = 0 ∨ u.1 = 1 ∨ u.1 = 2 ∨ u.1 = 3 ∨ u.1 = 4 by omega) with e | e | e | e | e <;> rw [e] <;> unfold wid <;> rw [Int.fdiv_eq_ediv_of_nonneg _ (by decide)] <;> simp <;> omega
   have wk := wid_ok u0 (show u.1 ≤ 4 by omega) ed.1 ed.2
   have iw : inW ((rd fs i).fdiv (wid u.1)) u.1 (rd fs i) = true := by
    unfold inW
    rw [decide_eq_true_eq]
    exact (ediv_wid (s := (rd fs i).fdiv (wid u.1)) (b := u.1) (F := rd fs i) wk.1).1 rfl
   refine Gives.pos (by omega) (Gives.pos (by unfold LIM; omega) (Gives.pos (by unfold LIM; omega) (Gives.now ⟨⟨by simp only []; omega, by simp only []; omega, u2, by simp only []; omega, by simp only []; omega, by simp [l1], by simp [l2], fun p h0 h1 => ?_⟩, by simp only []; omega⟩)))
   simp only at h1 ⊢
   by_cases e : p = i
   · subst e; rw [rd_app_1 h0 (by omega), rd_app_1 h0 (by omega)]; exact ⟨⟨u0, by omega, ed.1, ed.2⟩, iw⟩
   · rw [rd_app_l (by omega), rd_app_l (by omega)]; exact hi p h0 (by omega)
 · obtain ⟨r2, r3, r4, r5, r6⟩ := hr
   rw [drop_take_len r4, drop_take_len r5]
   exact Gives.now ⟨⟨by simp only []; omega, by simp only []; omega, fun p p0 p1 => (r6 p p0 p1).1⟩, fun p p0 p1 => (r6 p p0 p1).2⟩
theorem ivl_ok {kd bd gp len n f g : Int} {cuts : List Int} (h : SchOk kd bd gp len n cuts) (f0 : 0 ≤ f) (g0 : 0 ≤ g) : IvOk (ivl cuts f g) := by
 unfold IvOk ivl
 by_cases c : (cuts.length : Int) < f
 · rw [if_pos c]; simp only []; omega
 rw [if_neg c]
 have a : 0 < f → -2000 ≤ rd cuts (f - 1) ∧ rd cuts (f - 1) ≤ 2000 := fun hf => h.c2 (f - 1) (by omega) (by omega)
 have b : g < (cuts.length : Int) → -2000 ≤ rd cuts g ∧ rd cuts g ≤ 2000 := fun hg => h.c2 g g0 hg
 simp only []
 split <;> split <;> omega
theorem r19_validL {kd bd gp len n : Int} {cuts sy bi : List Int} (h : SchOk kd bd gp len n cuts) (w : WOk n sy bi) : Gives (fun k => T_ref19_Valid k kd bd gp len n cuts sy bi) (· = true) := by
 have c1 := h.c1
 have n2 := h.n2
 have n1 := h.n1
 obtain ⟨w1, w2, w3⟩ := w
 refine Gives.step ?_
 simp only [T_ref19_Valid]
 refine Gives.bind (r19_checkG (by omega)) fun e he => ?_
 have e0 : e = 0 := he.elim (·.1) fun q => absurd h q.2
 refine Gives.neg (by simp [e0]; omega) (Gives.bind (Q := fun r => r = .inl ()) ?_ fun r hr => by subst hr; exact Gives.now rfl)
 rw [w2]
 refine Gives.loop (fun s => 0 ≤ s ∧ s ≤ n) (fun s => (n - s).toNat) ?_ ⟨by omega, by omega⟩
 intro i ⟨i0, i1⟩
 unfold T_ref19_Valid_l1
 refine Gives.ite (fun c => ?_) fun c => Gives.now rfl
 obtain ⟨b0, b1, s0, s1⟩ := w3 i i0 c
 refine Gives.bind (Q := fun b => b = false) (Gives.opt (at_rd i0 (by omega)) (Gives.neg (by simp; omega) (Gives.opt (at_rd i0 (by omega)) (Gives.neg (by omega) (Gives.pos b0 (Gives.now ?_)))))) fun b hb => ?_
 · rw [bits_lt b0 b1]
   simp; omega
 · subst hb
   rw [w64_id (by omega) (by omega)]
   exact Gives.neg (by simp) (Gives.now ⟨⟨by omega, by omega⟩, by omega⟩)
theorem pure_sketchRegions (a0 : List Int) (w0 : ∀ n ∈ a0, (Lit.int .i64 n).wf = true) : ∃ k, T_law21_SketchRegions k a0 = some true := by
 refine Gives.true (f := fun k => T_law21_SketchRegions k a0) ?_
 obtain ⟨s0, s1⟩ := src_new a0
 refine Gives.step ?_
 simp only [T_law21_SketchRegions]
 refine Gives.bind s1 fun _ _ => Gives.bind (Q := fun r => SchOk 3 0 0 r.1 r.2.1 r.2.2.1 ∧ SrcOk ((a0.drop 0).take ((imin (a0.length : Int) 2000).toNat - 0)) r.2.2.2) ?_ fun a ha => ?_
 · refine Gives.step ?_
   simp only [T_law21_normal]
   refine Gives.bind (src_scheme s0) fun r hr => Gives.now ⟨?_, hr.2⟩
   obtain ⟨_, _, _, _, _, _, _, _, l1, l2, n1, n2, n3, c1, c2, c3⟩ := hr.1
   exact ⟨by omega, by omega, by omega, by omega, .inl rfl, by omega, by omega, .inl rfl, l1, l2, n1, n2, n3, c1, c2, c3⟩
 obtain ⟨hs, h8⟩ := ha
 have l1 := hs.l1
 have l2 := hs.l2
 have n1 := hs.n1
 have n2 := hs.n2
 have n3 := hs.n3
 refine Gives.bind (src_list h8 a.1 l1 l2) fun b hb => ?_
 obtain ⟨b1, b2, b3⟩ := hb
 have wb : Win b.1 := ⟨by omega, by omega, b2⟩
 refine Gives.bind (src_near b3 wb) fun c hcc => ?_
 obtain ⟨c1, c2, c3⟩ := hcc
 refine Gives.bind (src_n c3 3 (by omega) (by omega)) fun d hd => Gives.bind (Q := fun r => (r.1.length : Int) = a.1 ∧ Smp r.1 ∧ SrcOk ((a0.drop 0).take ((imin (a0.length : Int) 2000).toNat - 0)) r.2) ?_ fun x hx => ?_
 · exact Gives.ite (fun _ => Gives.bind (src_list hd.2.2 a.1 l1 l2) fun r hr => Gives.now hr) fun _ => Gives.now ⟨by simp only []; omega, c2, hd.2.2⟩
 obtain ⟨x1, x2, x3⟩ := hx
 have wx : Win x.1 := ⟨by omega, by omega, x2⟩
 obtain ⟨m, hm⟩ : ∃ m : Nat, a.2.1 = m := ⟨a.2.1.toNat, by omega⟩
 rw [hm, ← x1] at hs
 obtain ⟨v, v1, v2, v3, v4⟩ := (r19_coordinates hs wx).get
 obtain ⟨cs, z⟩ := v
 simp only at v2 v3 v4
 subst v2
 rw [hm, ← x1]
 refine Gives.bind (r19_ofC hs v1 v3) fun f hf => Gives.bind (src_upperI x3 (by omega) (by omega) hf.ok hf.full) fun u hu => Gives.bind (r19_region hs hu.1 (r19_validL hs hu.1)) fun R hR => ?_
 obtain ⟨R1, R2, R3⟩ := hR
 refine Gives.bind (skn_of wb (n := m) (by omega) (by omega) (by omega)) fun k hk => ?_
 obtain ⟨k1, k2, k3⟩ := hk
 have N0 := (energy_ok wx)
 have iv : ∀ p, 0 ≤ p → p < (m : Int) → IvOk (rpi R.1 p) ∧ (rpi R.1 p).1 ≤ coo 3 x.1 m p ∧ coo 3 x.1 m p ≤ (rpi R.1 p).2 := fun p p0 p1 => by
  obtain ⟨b0, b1', t0, t1⟩ := hu.1.2.2 p p0 p1
  have wk := wid_ok b0 b1' t0 t1
  have cb : -1099511627776 ≤ coo 3 x.1 m p ∧ coo 3 x.1 m p ≤ 1099511627776 := by
   rw [coo3]
   split
   · omega
   · rename_i nz
     have pb := pcc_dP wx (n := (m : Int)) (by omega) p0 p1
     have := (rq (t := 64 * pcc x.1 m p) (e := (x.1.length : Int) * selfP x.1) ⟨by omega, by omega, by omega, by omega⟩).2
     omega
  have cn := hf.cnt p p0 p1
  rw [v4 p p0 p1] at cn
  rw [R3 p p0 p1]
  exact ⟨ivl_ok hs wk.2.2.1 (by omega), (ivl_in hs b0 b1' t0 t1 cn cb.1 cb.2).2 (hu.2 p p0 p1)⟩
 obtain ⟨A, B, A0, B0, AB, Bb, g, le⟩ := srg_main (l := R.1) k2 wx (by omega) (by omega) (fun p p0 p1 => (iv p p0 (by omega)).1) fun p p0 p1 => (iv p p0 p1).2
 rw [k1]
 refine Gives.bind g fun y hy => Gives.bind (rf_Gap wb wx (by omega)) fun w hw => ?_
 subst hy
 obtain ⟨P, Q, rfl, RR⟩ := hw
 have rv := mkr_rep (m := A.toNat) (n := B.toNat) (by omega)
 have rl := rv.le (by omega)
 have gd : 0 < gden (prodP b.1 b.1) (prodP x.1 x.1) ∧ gden (prodP b.1 b.1) (prodP x.1 x.1) ≤ 1048576000000000000 ∧ gnum (prodP b.1 x.1) (prodP b.1 b.1) (prodP x.1 x.1) ≤ 2097152000000000000 := by
  have qa := prod_self wb
  have qb := prod_self wx
  have q := prod_bound (a := prodP b.1 b.1) (b := prodP x.1 x.1) (A := 1024000000) (B := 1024000000) (by omega) (by omega) (by omega) (by omega)
  have q0 := Int.mul_nonneg qa.1 qb.1
  have im : imin (prodP b.1 b.1 * prodP x.1 x.1) (prodP b.1 x.1 * prodP b.1 x.1) ≤ prodP b.1 b.1 * prodP x.1 x.1 := by unfold imin; split <;> omega
  have z := sq_nonneg (prodP b.1 x.1)
  have im0 : 0 ≤ imin (prodP b.1 b.1 * prodP x.1 x.1) (prodP b.1 x.1 * prodP b.1 x.1) := by unfold imin; split <;> omega
  unfold gden gnum
  refine ⟨by split <;> omega, by split <;> omega, ?_⟩
  split
  · omega
  · split
    · omega
    · split <;> omega
 have rg := RR.le gd.1
 refine Gives.bind (Q := fun r => r = true) (Gives.pos (by simp [k3, mkr]) ?_) fun r hr => Gives.now hr
 refine Gives.bind (r01_valid rv.cop rv.pos (by omega) (by omega)) fun t ht => Gives.pos ht (Gives.bind (ro_cmp rv.cop rv.pos (by omega) (by omega) RR.cop RR.pos (by omega) (by omega)) fun o ho => Gives.pos ?_ (Gives.bind awake_ok fun r hr => Gives.now hr))
 have ln := rv.cmp RR (by omega) gd.1 (by
  have e : ((A.toNat * gden (prodP b.1 b.1) (prodP x.1 x.1) : Nat) : Int) ≤ ((gnum (prodP b.1 x.1) (prodP b.1 b.1) (prodP x.1 x.1) * B.toNat : Nat) : Int) := by
   rw [Int.natCast_mul, Int.natCast_mul, Int.toNat_of_nonneg A0, Int.toNat_of_nonneg (show 0 ≤ B by omega)]
   exact le
  exact_mod_cast e)
 rcases ho with ⟨h, e⟩ | ⟨h, e⟩ | ⟨h, e⟩
 · omega
 · omega
 · omega

end Go.Proofs.Ytdmipmhpjdmopaa.sketchRegions
