/- That the told functions answer as the statement SketchAnswers says, in plain Lean. There are no conditions. -/
import Derived.Test.YtdmipmhpjdmopaaTSketchAnswers1
set_option maxRecDepth 100000
set_option linter.unusedVariables false
set_option linter.unusedSimpArgs false
namespace Go.Proofs.Ytdmipmhpjdmopaa.sketchAnswers
open Go
theorem w64_id {x : Int} (h1 : -9223372036854775808 ≤ x) (h2 : x < 9223372036854775808) : w64 x = x := wrap_id h1 h2

/-- With enough rounds the answer is there, and it is as asked. -/
def Gives {α : Type} (f : Nat → Option α) (Q : α → Prop) : Prop := ∃ r, (∃ K, ∀ k, K ≤ k → f k = some r) ∧ Q r
theorem Gives.mono {α : Type} {f : Nat → Option α} {Q Q' : α → Prop} (h : Gives f Q) (k : ∀ r, Q r → Q' r) : Gives f Q' := by
 obtain ⟨r, h1, h2⟩ := h; exact ⟨r, h1, k r h2⟩
theorem Gives.now {α : Type} {r : α} {Q : α → Prop} (h : Q r) : Gives (fun _ => some r) Q := ⟨r, ⟨0, fun _ _ => rfl⟩, h⟩
theorem Gives.bind {α β : Type} {f : Nat → Option α} {g : Nat → α → Option β} {Q : α → Prop} {Q' : β → Prop} (h : Gives f Q) (k : ∀ a, Q a → Gives (fun n => g n a) Q') : Gives (fun n => (f n).bind (g n)) Q' := by
 obtain ⟨a, ⟨K, hK⟩, ha⟩ := h
 obtain ⟨r, ⟨K2, hK2⟩, hr⟩ := k a ha
 exact ⟨r, ⟨max K K2, fun n hn => by show (f n).bind (g n) = some r; rw [hK n (by omega), Option.bind_some]; exact hK2 n (by omega)⟩, hr⟩
theorem Gives.opt {α β : Type} {x : Option α} {a : α} {g : Nat → α → Option β} {Q : β → Prop} (h : x = some a) (k : Gives (fun n => g n a) Q) : Gives (fun n => x.bind (g n)) Q := by
 subst h; exact k
theorem Gives.step {α : Type} {f : Nat → Option α} {Q : α → Prop} (h : Gives (fun k => f (k + 1)) Q) : Gives f Q := by
 obtain ⟨r, ⟨K, hK⟩, hr⟩ := h
 refine ⟨r, ⟨K + 1, fun n hn => ?_⟩, hr⟩
 obtain ⟨m, rfl⟩ : ∃ m, n = m + 1 := ⟨n - 1, by omega⟩
 exact hK m (by omega)
theorem Gives.ite {α : Type} {c : Prop} [Decidable c] {f g : Nat → Option α} {Q : α → Prop} (h : c → Gives f Q) (k : ¬ c → Gives g Q) : Gives (fun n => if c then f n else g n) Q := by
 by_cases hc : c
 · simp only [if_pos hc]; exact h hc
 · simp only [if_neg hc]; exact k hc
theorem Gives.pos {α : Type} {c : Prop} [Decidable c] {f g : Nat → Option α} {Q : α → Prop} (hc : c) (h : Gives f Q) : Gives (fun n => if c then f n else g n) Q := by
 simp only [if_pos hc]; exact h
theorem Gives.neg {α : Type} {c : Prop} [Decidable c] {f g : Nat → Option α} {Q : α → Prop} (hc : ¬ c) (h : Gives g Q) : Gives (fun n => if c then f n else g n) Q := by
 simp only [if_neg hc]; exact h
theorem Gives.loop {S R : Type} {f : Nat → S → Option (S ⊕ R)} {Q : R → Prop} (Inv : S → Prop) (m : S → Nat)
 (h : ∀ s, Inv s → Gives (fun k => f k s) (fun x => match x with | .inl s' => Inv s' ∧ m s' < m s | .inr r => Q r)) {s : S} (hs : Inv s) : Gives (fun k => loopT (f k) k s) Q := by
 suffices H : ∀ (n : Nat) (s : S), m s < n → Inv s → ∃ r, (∃ K N, ∀ k, K ≤ k → ∀ j, N ≤ j → loopT (f k) j s = some r) ∧ Q r by
  obtain ⟨r, ⟨K, N, hK⟩, hr⟩ := H (m s + 1) s (by omega) hs
  exact ⟨r, ⟨max K N, fun k hk => hK k (by omega) k (by omega)⟩, hr⟩
 intro n
 induction n with
 | zero => intro s hs; omega
 | succ n ih =>
  intro s hs hI
  obtain ⟨x, ⟨K, hK⟩, hx⟩ := h s hI
  cases x with
  | inl s' =>
   obtain ⟨r, ⟨K2, N, hK2⟩, hr⟩ := ih s' (by have := hx.2; omega) hx.1
   refine ⟨r, ⟨max K K2, N + 1, fun k hk j hj => ?_⟩, hr⟩
   obtain ⟨j', rfl⟩ : ∃ j', j = j' + 1 := ⟨j - 1, by omega⟩
   simp only [loopT, hK k (by omega), Option.bind_some]
   exact hK2 k (by omega) j' (by omega)
  | inr r =>
   refine ⟨r, ⟨K, 1, fun k hk j hj => ?_⟩, hx⟩
   obtain ⟨j', rfl⟩ : ∃ j', j = j' + 1 := ⟨j - 1, by omega⟩
   simp only [loopT, hK k hk, Option.bind_some]
theorem Gives.true {f : Nat → Option Bool} (h : Gives f (· = true)) : ∃ k, f k = some true := by
 obtain ⟨r, ⟨K, hK⟩, hr⟩ := h
 subst hr
 exact ⟨K, hK K (Nat.le_refl _)⟩
/-- An element of a list, 0 outside of it. -/
def rd (xs : List Int) (i : Int) : Int := xs.getD i.toNat 0
theorem at_rd {xs : List Int} {i : Int} (h0 : 0 ≤ i) (h1 : i < (xs.length : Int)) : at? xs i = some (rd xs i) := by
 unfold at? rd
 rw [if_pos h0, List.getD_eq_getElem?_getD, List.getElem?_eq_getElem (by omega)]; rfl
theorem get_rd {xs : List Int} {n : Nat} (h1 : n < xs.length) : xs[n]? = some (rd xs n) := by
 unfold rd
 rw [List.getD_eq_getElem?_getD, List.getElem?_eq_getElem h1]
 simp [h1]
theorem rd_mem {xs : List Int} {i : Int} (h0 : 0 ≤ i) (h1 : i < (xs.length : Int)) : rd xs i ∈ xs := by
 unfold rd
 have h : i.toNat < xs.length := by omega
 rw [List.getD_eq_getElem?_getD, List.getElem?_eq_getElem h]; exact List.getElem_mem h
/-- All numbers are samples. -/
def Smp (xs : List Int) : Prop := ∀ v ∈ xs, -1000 ≤ v ∧ v ≤ 1000
theorem Smp.rd {xs : List Int} (h : Smp xs) (i : Int) : -1000 ≤ rd xs i ∧ rd xs i ≤ 1000 := by
 show -1000 ≤ xs.getD i.toNat 0 ∧ xs.getD i.toNat 0 ≤ 1000
 rw [List.getD_eq_getElem?_getD]
 rcases Nat.lt_or_ge i.toNat xs.length with c | c
 · rw [List.getElem?_eq_getElem c]; exact h _ (List.getElem_mem c)
 · rw [List.getElem?_eq_none c]; decide
theorem Smp.nil : Smp [] := fun _ h => by simp at h
theorem Smp.app {xs ys : List Int} (h : Smp xs) (k : Smp ys) : Smp (xs ++ ys) := fun v hv => by
 rcases List.mem_append.1 hv with h1 | h1
 · exact h v h1
 · exact k v h1
theorem Smp.one {v : Int} (h0 : -1000 ≤ v) (h1 : v ≤ 1000) : Smp [v] := fun u hu => by
 obtain rfl := List.mem_singleton.1 hu; exact ⟨h0, h1⟩
theorem Smp.take {xs : List Int} (h : Smp xs) (n : Nat) : Smp (xs.take n) := fun v hv => h v (List.mem_of_mem_take hv)
theorem Smp.drop {xs : List Int} (h : Smp xs) (n : Nat) : Smp (xs.drop n) := fun v hv => h v (List.mem_of_mem_drop hv)
theorem Smp.set {xs : List Int} (h : Smp xs) (n : Nat) {v : Int} (h0 : -1000 ≤ v) (h1 : v ≤ 1000) : Smp (xs.set n v) := fun u hu => by
 rcases List.mem_or_eq_of_mem_set hu with h2 | h2
 · exact h u h2
 · subst h2; exact ⟨h0, h1⟩
/-- A window. -/
structure Win (xs : List Int) : Prop where
 lo : 2 ≤ xs.length
 hi : xs.length ≤ 32
 smp : Smp xs

/-- A reader of numbers. -/
structure SrcOk (L : List Int) (p : Int) : Prop where
 lo : 0 ≤ p
 hi : p ≤ (L.length : Int)
 len : L.length ≤ 2000
theorem src_raw {L : List Int} {p : Int} (h : SrcOk L p) : Gives (fun k => T_keep_Src_Raw k L p) (fun r => SrcOk L r.2) := by
 obtain ⟨h0, h1, h2⟩ := h
 refine Gives.step ?_
 simp only [T_keep_Src_Raw]
 have e1 : w64 (p + 1) = p + 1 := w64_id (by omega) (by omega)
 have e2 : w64 (w64 (p + 1) - 1) = p := by rw [e1, w64_id (by omega) (by omega)]; omega
 refine Gives.ite (fun c => Gives.now ⟨h0, h1, h2⟩) fun c => ?_
 rw [e2, e1]
 exact Gives.opt (at_rd h0 (by omega)) (Gives.now ⟨by simp only []; omega, by simp only []; omega, h2⟩)
theorem src_mod (x n : Int) (h : 1 ≤ n) (hn : n ≤ 4611686018427387904) : Gives (fun k => T_keep_Mod k x n) (fun v => 0 ≤ v ∧ v < n) := by
 have h1 : Int.tmod x n < n := Int.tmod_lt_of_pos _ (by omega)
 have h2 : -n < Int.tmod x n := by
  rcases Int.le_total 0 x with c | c
  · have := Int.tmod_nonneg n c; omega
  · have h3 : Int.tmod (-x) n < n := Int.tmod_lt_of_pos _ (by omega)
    rw [Int.neg_tmod] at h3; omega
 refine Gives.step ?_
 simp only [T_keep_Mod]
 refine Gives.neg (by omega) (Gives.pos (by omega) (Gives.bind (Q := fun v => 0 ≤ v ∧ v < n) ?_ fun a ha => Gives.now ha))
 refine Gives.ite (fun c => ?_) fun c => Gives.now ⟨by omega, by omega⟩
 rw [w64_id (by omega) (by omega)]
 exact Gives.now ⟨by omega, by omega⟩
theorem src_n {L : List Int} {p : Int} (h : SrcOk L p) (n : Int) (h1 : 1 ≤ n) (hn : n ≤ 4611686018427387904) : Gives (fun k => T_keep_Src_N k n L p) (fun r => 0 ≤ r.1 ∧ r.1 < n ∧ SrcOk L r.2) := by
 refine Gives.step ?_
 simp only [T_keep_Src_N]
 exact Gives.bind (src_raw h) fun a ha => Gives.bind (src_mod a.1 n h1 hn) fun v hv => Gives.now ⟨hv.1, hv.2, ha⟩
theorem src_range {L : List Int} {p : Int} (h : SrcOk L p) (lo hi : Int) (h1 : lo ≤ hi) (h0 : -1000000000000 ≤ lo) (h2 : hi ≤ 1000000000000) : Gives (fun k => T_keep_Src_Range k lo hi L p) (fun r => lo ≤ r.1 ∧ r.1 ≤ hi ∧ SrcOk L r.2) := by
 have e1 : w64 (w64 (hi - lo) + 1) = hi - lo + 1 := by rw [w64_id (x := hi - lo) (by omega) (by omega), w64_id (by omega) (by omega)]
 refine Gives.step ?_
 simp only [T_keep_Src_Range]
 rw [e1]
 refine Gives.bind (src_n h (hi - lo + 1) (by omega) (by omega)) fun a ha => ?_
 rw [w64_id (by omega) (by omega)]
 exact Gives.now ⟨by simp only []; omega, by simp only []; omega, ha.2.2⟩
theorem src_pick {L : List Int} {p : Int} (h : SrcOk L p) (l : List Int) (h1 : 1 ≤ l.length) (h2 : l.length ≤ 1000) : Gives (fun k => T_keep_Src_Pick k l L p) (fun r => r.1 ∈ l ∧ SrcOk L r.2) := by
 refine Gives.step ?_
 simp only [T_keep_Src_Pick]
 exact Gives.bind (src_n h (l.length : Int) (by omega) (by omega)) fun a ha => Gives.opt (at_rd ha.1 ha.2.1) (Gives.now ⟨rd_mem ha.1 ha.2.1, ha.2.2⟩)
theorem src_clip (x : Int) : Gives (fun k => T_keep_clip k x) (fun _ => True) := by
 refine Gives.step ?_
 simp only [T_keep_clip]
 exact Gives.now trivial
theorem clip_smp (x : Int) : -1000 ≤ imin (imax x (-1000)) 1000 ∧ imin (imax x (-1000)) 1000 ≤ 1000 := by unfold imin imax; split <;> split <;> omega
theorem src_length {L : List Int} {p : Int} (h : SrcOk L p) : Gives (fun k => T_keep_Src_Length k L p) (fun r => 2 ≤ r.1 ∧ r.1 ≤ 32 ∧ SrcOk L r.2) := by
 refine Gives.step ?_
 simp only [T_keep_Src_Length]
 refine Gives.bind (src_n h 8 (by omega) (by omega)) fun a ha => Gives.ite (fun c => ?_) fun c => ?_
 · exact Gives.bind (src_range ha.2.2 13 32 (by omega) (by omega) (by omega)) fun b hb => Gives.now ⟨by simp only []; omega, by simp only []; omega, hb.2.2⟩
 · exact Gives.bind (src_range ha.2.2 2 12 (by omega) (by omega) (by omega)) fun b hb => Gives.now ⟨by simp only []; omega, by simp only []; omega, hb.2.2⟩
theorem drop_take_len {xs : List Int} {n : Nat} (h : xs.length = n) : (xs.drop 0).take n = xs := by rw [List.drop_zero, ← h, List.take_length]
theorem src_list {L : List Int} {p : Int} (h : SrcOk L p) (n : Int) (h1 : 2 ≤ n) (h2 : n ≤ 32) : Gives (fun k => T_keep_Src_List k n L p) (fun r => (r.1.length : Int) = n ∧ Smp r.1 ∧ SrcOk L r.2) := by
 refine Gives.step ?_
 simp only [T_keep_Src_List]
 refine Gives.bind (src_n h 6 (by omega) (by omega)) fun a ha => Gives.bind (src_pick ha.2.2 [1, 3, 10, 100, 1000] (by decide) (by decide)) fun b hb => Gives.bind (src_n hb.2 3 (by omega) (by omega)) fun c hc => ?_
 have hb1 : 1 ≤ b.1 ∧ b.1 ≤ 1000 := by have := hb.1; simp at this; omega
 have em : w64 (0 - b.1) = -b.1 := by rw [w64_id (by omega) (by omega)]; omega
 refine Gives.bind (Q := fun d => -1000 ≤ d.1 ∧ d.1 ≤ 1000 ∧ SrcOk L d.2) ?_ fun d hd => ?_
 · refine Gives.ite (fun _ => ?_) fun _ => Gives.now ⟨by simp only []; omega, by simp only []; omega, hc.2.2⟩
   exact Gives.bind (src_range hc.2.2 (-1000) 1000 (by omega) (by omega) (by omega)) fun e he => Gives.now he
 refine Gives.bind (Q := fun r => (r.1 : Int) = n ∧ r.2.2.length = r.1 ∧ Smp r.2.2 ∧ SrcOk L r.2.1) ?_ fun r hr => ?_
 · refine Gives.loop (fun s => -1000 ≤ s.1 ∧ s.1 ≤ 1000 ∧ (s.2.1 : Int) = s.2.2.1 ∧ s.2.2.1 ≤ n ∧ SrcOk L s.2.2.2.1 ∧ s.2.2.2.2.length = s.2.1 ∧ Smp s.2.2.2.2) (fun s => (n - s.2.2.1).toNat) ?_ ⟨hd.1, hd.2.1, rfl, by simp only []; omega, hd.2.2, rfl, Smp.nil⟩
   intro s ⟨i1, i2, i3, i4, i5, i6, i7⟩
   have ed : (s.2.2.2.2.drop 0).take s.2.1 = s.2.2.2.2 := drop_take_len i6
   unfold T_keep_Src_List_l1
   refine Gives.ite (fun c => ?_) fun c => Gives.now ⟨by simp only []; omega, i6, i7, i5⟩
   rw [em, ed]
   have hlim : s.2.1 + 1 ≤ LIM := by unfold LIM; omega
   refine Gives.bind (Q := fun _ => True) (Gives.ite (fun _ => Gives.now trivial) fun _ => Gives.now trivial) fun t _ => ?_
   refine Gives.bind (Q := fun r => -1000 ≤ r.1 ∧ r.1 ≤ 1000 ∧ SrcOk L r.2.1 ∧ r.2.2.length = s.2.1 + 1 ∧ Smp r.2.2) ?_ fun r hr => ?_
   · refine Gives.ite (fun _ => ?_) fun _ => ?_
     · refine Gives.bind (src_range i5 (-b.1) b.1 (by omega) (by omega) (by omega)) fun v hv => Gives.pos hlim (Gives.now ⟨i1, i2, hv.2.2, by simp [i6], i7.app (Smp.one (by omega) (by omega))⟩)
     · refine Gives.bind (Q := fun _ => True) (Gives.ite (fun _ => Gives.now trivial) fun _ => Gives.now trivial) fun t2 _ => Gives.ite (fun _ => ?_) fun _ => Gives.ite (fun _ => ?_) fun _ => ?_
       · refine Gives.bind (src_range i5 (-b.1) b.1 (by omega) (by omega) (by omega)) fun v hv => Gives.bind (src_clip _) fun _ _ => Gives.pos hlim (Gives.now ?_)
         have := clip_smp (w64 (s.1 + v.1))
         exact ⟨this.1, this.2, hv.2.2, by simp [i6], i7.app (Smp.one this.1 this.2)⟩
       · refine Gives.bind (src_n i5 4 (by omega) (by omega)) fun v hv => Gives.bind (Q := fun r => -1000 ≤ r.1 ∧ r.1 ≤ 1000 ∧ SrcOk L r.2) (Gives.ite (fun _ => ?_) fun _ => Gives.now ⟨i1, i2, hv.2.2⟩) fun u hu => Gives.pos hlim (Gives.now ⟨hu.1, hu.2.1, hu.2.2, by simp [i6], i7.app (Smp.one hu.1 hu.2.1)⟩)
         exact Gives.bind (src_range hv.2.2 (-b.1) b.1 (by omega) (by omega) (by omega)) fun e he => Gives.now ⟨by simp only []; omega, by simp only []; omega, he.2.2⟩
       · refine Gives.bind (src_pick i5 [-1000, 1000, 1000, 0] (by decide) (by decide)) fun v hv => Gives.pos hlim (Gives.now ?_)
         have : -1000 ≤ v.1 ∧ v.1 ≤ 1000 := by have := hv.1; simp at this; omega
         exact ⟨i1, i2, hv.2, by simp [i6], i7.app (Smp.one this.1 this.2)⟩
   · have ei : w64 (s.2.2.1 + 1) = s.2.2.1 + 1 := w64_id (by omega) (by omega)
     rw [ei]
     exact Gives.now ⟨⟨hr.1, hr.2.1, by simp only []; omega, by simp only []; omega, hr.2.2.1, hr.2.2.2.1, hr.2.2.2.2⟩, by simp only []; omega⟩
 · rw [drop_take_len hr.2.1]
   exact Gives.now ⟨by simp only []; omega, hr.2.2.1, hr.2.2.2⟩

theorem get_rd0 {xs : List Int} {i : Int} (h0 : 0 ≤ i) (h1 : i < (xs.length : Int)) : xs[0 + i.toNat]? = some (rd xs i) := by
 rw [Nat.zero_add, get_rd (by omega), Int.toNat_of_nonneg h0]
theorem src_near {L : List Int} {p : Int} (h : SrcOk L p) {xs : List Int} (hx : Win xs) : Gives (fun k => T_keep_Src_Near k xs L p) (fun r => r.1.length = xs.length ∧ Smp r.1 ∧ SrcOk L r.2) := by
 have l1 := hx.lo
 have l2 := hx.hi
 refine Gives.step ?_
 simp only [T_keep_Src_Near]
 refine Gives.bind (src_n h 7 (by omega) (by omega)) fun a ha => Gives.bind (src_range ha.2.2 (-20) 20 (by omega) (by omega) (by omega)) fun b hb => Gives.bind (src_range hb.2.2 1 3 (by omega) (by omega) (by omega)) fun c hc => Gives.pos (by unfold LIM; omega) ?_
 refine Gives.bind (Q := fun r => r.2.length = xs.length ∧ Smp r.2 ∧ SrcOk L r.1) ?_ fun r hr => ?_
 · refine Gives.loop (fun s => 0 ≤ s.1 ∧ s.1 ≤ (xs.length : Int) ∧ SrcOk L s.2.1 ∧ s.2.2.length = xs.length ∧ Smp s.2.2) (fun s => ((xs.length : Int) - s.1).toNat) ?_ ⟨by simp only []; omega, by simp only []; omega, hc.2.2, by simp, by simpa using hx.smp⟩
   intro s ⟨i1, i2, i3, i4, i5⟩
   unfold T_keep_Src_Near_l1
   refine Gives.ite (fun cc => ?_) fun cc => Gives.now ⟨i4, i5, i3⟩
   have g : (0 : Int) ≤ s.1 ∧ s.1 < ((0 + xs.length : Nat) : Int) := ⟨i1, cc⟩
   have g2 : s.1 < (xs.length : Int) := by omega
   refine Gives.bind (Q := fun r => SrcOk L r.1 ∧ r.2.length = xs.length ∧ Smp r.2) ?_ fun r hr => ?_
   · refine Gives.ite (fun _ => Gives.pos g (Gives.opt (get_rd0 i1 (by omega)) ?_)) fun _ => Gives.ite (fun _ => Gives.pos g (Gives.opt (get_rd0 i1 (by omega)) ?_)) fun _ => Gives.ite (fun _ => Gives.pos g (Gives.opt (get_rd0 i1 (by omega)) ?_)) fun _ =>
      Gives.ite (fun _ => ?_) fun _ => Gives.ite (fun _ => ?_) fun _ => Gives.ite (fun _ => Gives.pos g (Gives.opt (get_rd0 i1 (by omega)) ?_)) fun _ => Gives.now ⟨i3, i4, i5⟩
     · refine Gives.bind (src_range i3 (-2) 2 (by omega) (by omega) (by omega)) fun v hv => Gives.bind (src_clip _) fun _ _ => Gives.now ?_
       have := clip_smp (w64 (rd s.2.2 s.1 + v.1))
       exact ⟨hv.2.2, by simp [i4], i5.set _ this.1 this.2⟩
     · refine Gives.bind (src_clip _) fun _ _ => Gives.now ?_
       have := clip_smp (w64 (rd s.2.2 s.1 + b.1))
       exact ⟨i3, by simp [i4], i5.set _ this.1 this.2⟩
     · refine Gives.bind (src_clip _) fun _ _ => Gives.now ?_
       have := clip_smp (w64 (w64 (rd s.2.2 s.1 * c.1) + b.1))
       exact ⟨i3, by simp [i4], i5.set _ this.1 this.2⟩
     · have e : w64 (w64 ((xs.length : Int) - 1) - s.1) = (xs.length : Int) - 1 - s.1 := by rw [w64_id (x := (xs.length : Int) - 1) (by omega) (by omega), w64_id (by omega) (by omega)]
       rw [e]
       refine Gives.opt (at_rd (by omega) (by omega)) (Gives.pos g (Gives.now ?_))
       have := hx.smp.rd ((xs.length : Int) - 1 - s.1)
       exact ⟨i3, by simp [i4], i5.set _ this.1 this.2⟩
     · refine Gives.bind (src_range i3 (-1) 1 (by omega) (by omega) (by omega)) fun v hv => Gives.bind (src_mod _ (xs.length : Int) (by omega) (by omega)) fun u hu => Gives.opt (at_rd hu.1 hu.2) (Gives.pos g (Gives.now ?_))
       have := hx.smp.rd u
       exact ⟨hv.2.2, by simp [i4], i5.set _ this.1 this.2⟩
     · refine Gives.bind (src_clip _) fun _ _ => Gives.now ?_
       have := clip_smp (w64 (b.1 - w64 (rd s.2.2 s.1 * c.1)))
       exact ⟨i3, by simp [i4], i5.set _ this.1 this.2⟩
   · have ei : w64 (s.1 + 1) = s.1 + 1 := w64_id (by omega) (by omega)
     rw [ei]
     exact Gives.now ⟨⟨by simp only []; omega, by simp only []; omega, hr.1, hr.2.1, hr.2.2⟩, by simp only []; omega⟩
 · rw [drop_take_len (by rw [hr.1, Nat.zero_add])]
   exact Gives.now ⟨hr.1, hr.2.1, hr.2.2⟩
theorem src_new (l : List Int) : SrcOk ((l.drop 0).take ((imin (l.length : Int) 2000).toNat - 0)) 0 ∧ Gives (fun k => T_keep_New k l) (fun _ => True) := by
 have h1 : 0 ≤ imin (l.length : Int) 2000 := by unfold imin; split <;> omega
 have h2 : imin (l.length : Int) 2000 ≤ l.length := by unfold imin; split <;> omega
 have h3 : imin (l.length : Int) 2000 ≤ 2000 := by unfold imin; split <;> omega
 refine ⟨⟨by omega, by omega, ?_⟩, ?_⟩
 · simp; omega
 · refine Gives.step ?_
   simp only [T_keep_New]
   exact Gives.pos (by omega) (Gives.now trivial)
/-! The distance of chapter 12. -/
theorem eu_samples {xs : List Int} (h : Win xs) : Gives (fun k => T_euclid_samples k xs) (· = true) := by
 have h2 := h.hi
 refine Gives.step ?_
 simp only [T_euclid_samples]
 refine Gives.bind (Q := fun r => r = .inl ()) ?_ fun r hr => by subst hr; exact Gives.now rfl
 refine Gives.loop (fun s => 0 ≤ s ∧ s ≤ (xs.length : Int)) (fun s => ((xs.length : Int) - s).toNat) ?_ ⟨by omega, by omega⟩
 intro s ⟨i1, i2⟩
 unfold T_euclid_samples_l1
 refine Gives.ite (fun c => Gives.opt (at_rd i1 c) ?_) fun c => Gives.now rfl
 have := h.smp.rd s
 refine Gives.neg (by simp; omega) ?_
 rw [w64_id (by omega) (by omega)]
 exact Gives.now ⟨⟨by omega, by omega⟩, by omega⟩
theorem eu_len (xs : List Int) : Gives (fun k => T_euclid_length k xs) (fun _ => True) := by
 refine Gives.step ?_
 simp only [T_euclid_length]
 exact Gives.now trivial
theorem eu_check {xs ys : List Int} (hx : Win xs) (hy : Win ys) (hl : xs.length = ys.length) : Gives (fun k => T_euclid_check k xs ys) (· = 0) := by
 have x1 := hx.lo
 have x2 := hx.hi
 refine Gives.step ?_
 simp only [T_euclid_check]
 refine Gives.bind (Q := fun b => b = false) ?_ fun b hb => ?_
 · refine Gives.bind (eu_len xs) fun _ _ => Gives.neg (by simp; omega) ?_
   refine Gives.bind (eu_len ys) fun _ _ => Gives.now ?_
   simp; omega
 subst hb
 refine Gives.neg (by simp) ?_
 refine Gives.bind (Q := fun b => b = false) ?_ fun b hb => ?_
 · refine Gives.bind (eu_samples hx) fun u hu => ?_
   subst hu
   refine Gives.neg (by simp) (Gives.bind (eu_samples hy) fun u hu => ?_)
   subst hu
   exact Gives.now rfl
 subst hb
 refine Gives.neg (by simp) (Gives.neg (by simp [hl]) (Gives.now rfl))
theorem eu_square {xs ys : List Int} (hx : Win xs) (hl : xs.length = ys.length) : Gives (fun k => T_euclid_square k xs ys) (fun _ => True) := by
 have x2 := hx.hi
 refine Gives.step ?_
 simp only [T_euclid_square]
 refine Gives.bind (Q := fun _ => True) ?_ fun r hr => Gives.now trivial
 refine Gives.loop (fun s => 0 ≤ s.2 ∧ s.2 ≤ (xs.length : Int)) (fun s => ((xs.length : Int) - s.2).toNat) ?_ ⟨by simp only []; omega, by simp only []; omega⟩
 intro s ⟨i1, i2⟩
 unfold T_euclid_square_l1
 refine Gives.ite (fun c => Gives.opt (at_rd i1 c) (Gives.opt (at_rd i1 (by omega)) ?_)) fun c => Gives.now trivial
 rw [w64_id (x := s.2 + 1) (by omega) (by omega)]
 exact Gives.now ⟨⟨by simp only []; omega, by simp only []; omega⟩, by simp only []; omega⟩
theorem eu_distance {xs ys : List Int} (hx : Win xs) (hy : Win ys) (hl : xs.length = ys.length) : Gives (fun k => T_euclid_Distance k xs ys) (fun r => r.2 = 0) := by
 refine Gives.step ?_
 simp only [T_euclid_Distance]
 refine Gives.bind (eu_check hx hy hl) fun e he => ?_
 subst he
 exact Gives.neg (by simp) (Gives.bind (eu_square hx hl) fun v _ => Gives.now rfl)

/-! Sums of the first samples. -/
def psum (x : List Int) (i : Int) : Int := (x.take i.toNat).sum
theorem psum_zero (x : List Int) : psum x 0 = 0 := by simp [psum]
theorem psum_succ {x : List Int} {i : Int} (h0 : 0 ≤ i) (h1 : i < (x.length : Int)) : psum x (i + 1) = psum x i + rd x i := by
 unfold psum rd
 rw [show (i + 1).toNat = i.toNat + 1 by omega, List.take_succ_eq_append_getElem (show i.toNat < x.length by omega), List.sum_append]
 rw [List.getD_eq_getElem?_getD, List.getElem?_eq_getElem (show i.toNat < x.length by omega)]
 simp
theorem psum_bound {x : List Int} {B : Int} (hB : ∀ v ∈ x, -B ≤ v ∧ v ≤ B) : ∀ n : Nat, n ≤ x.length → -(B * n) ≤ psum x n ∧ psum x n ≤ B * n
 | 0, _ => by simp [psum]
 | n + 1, h => by
  have ih := psum_bound hB n (by omega)
  have e := psum_succ (x := x) (i := (n : Int)) (by omega) (by omega)
  have hb := hB _ (rd_mem (xs := x) (i := (n : Int)) (by omega) (by omega))
  have : (((n + 1 : Nat)) : Int) = (n : Int) + 1 := by omega
  rw [this, e, Int.mul_add, Int.mul_one]
  omega
theorem psum_all {x : List Int} : psum x x.length = x.sum := by simp [psum]
theorem part_sum {x : List Int} {a b : Int} (h0 : 0 ≤ a) (h1 : a ≤ b) : ((x.drop a.toNat).take (b.toNat - a.toNat)).sum = psum x b - psum x a := by
 have e : x.take b.toNat = x.take a.toNat ++ (x.drop a.toNat).take (b.toNat - a.toNat) := by
  conv => lhs; rw [show b.toNat = a.toNat + (b.toNat - a.toNat) by omega]
  rw [List.take_add]
 unfold psum
 rw [e, List.sum_append]
 omega
/-! Where the pieces of a window begin. -/
def cut (m n p : Int) : Int := p * m / n
theorem cut_zero (m n : Int) : cut m n 0 = 0 := by simp [cut]
theorem cut_last {m n : Int} (hn : 1 ≤ n) : cut m n n = m := by unfold cut; exact Int.mul_ediv_cancel_left _ (by omega)
theorem cut_mono {m n p q : Int} (hn : 1 ≤ n) (hm : 0 ≤ m) (h : p ≤ q) : cut m n p ≤ cut m n q := by
 unfold cut
 exact Int.ediv_le_ediv (by omega) (Int.mul_le_mul_of_nonneg_right h hm)
theorem cut_range {m n p : Int} (hn : 1 ≤ n) (hm : 0 ≤ m) (h0 : 0 ≤ p) (h1 : p ≤ n) : 0 ≤ cut m n p ∧ cut m n p ≤ m := by
 have a := cut_mono (m := m) hn hm h0
 have b := cut_mono (m := m) hn hm h1
 rw [cut_zero] at a
 rw [cut_last hn] at b
 exact ⟨a, b⟩
theorem cut_w {m n p : Int} (hn : 1 ≤ n) (hn2 : n ≤ 8) (hm : 0 ≤ m) (hm2 : m ≤ 32) (h0 : 0 ≤ p) (h1 : p ≤ n) : w64 ((w64 (p * m)).tdiv n) = cut m n p := by
 have h2 : 0 ≤ p * m := Int.mul_nonneg h0 hm
 have h3 : p * m ≤ 8 * 32 := Int.le_trans (Int.mul_le_mul_of_nonneg_right (show p ≤ 8 by omega) hm) (Int.mul_le_mul_of_nonneg_left hm2 (by omega))
 have h4 := cut_range hn hm h0 h1
 rw [w64_id (x := p * m) (by omega) (by omega), Int.tdiv_eq_ediv_of_nonneg h2, w64_id]
 · rfl
 · have : cut m n p = p * m / n := rfl
   omega
 · have : cut m n p = p * m / n := rfl
   omega
theorem Gives.rangeT {S R : Type} {f : Nat → Int → Int → Int → S → Option (S ⊕ R)} {m n : Int} (hn : 1 ≤ n) (hn2 : n ≤ 8) (hm : 0 ≤ m) (hm2 : m ≤ 32) (Inv : Int → S → Prop)
 (h : ∀ p s, 0 ≤ p → p < n → Inv p s → Gives (fun k => f k p (cut m n p) (cut m n (p + 1)) s) (fun x => ∃ s', x = .inl s' ∧ Inv (p + 1) s')) {s : S} (hs : Inv 0 s) :
 Gives (fun k => allT (f k) m n k 0 s) (fun x => ∃ s', x = .inl s' ∧ Inv n s') := by
 suffices H : ∀ (d : Nat) (p : Int) (s : S), 0 ≤ p → p ≤ n → (n - p).toNat < d → Inv p s → ∃ r, (∃ K N, ∀ k, K ≤ k → ∀ j, N ≤ j → allT (f k) m n j p s = some r) ∧ ∃ s', r = .inl s' ∧ Inv n s' by
  obtain ⟨r, ⟨K, N, hK⟩, hr⟩ := H (n.toNat + 1) 0 s (by omega) (by omega) (by omega) hs
  exact ⟨r, ⟨max K N, fun k hk => hK k (by omega) k (by omega)⟩, hr⟩
 intro d
 induction d with
 | zero => intro p s _ _ h; omega
 | succ d ih =>
  intro p s h0 h1 hd hI
  by_cases c : p < n
  · obtain ⟨x, ⟨K, hK⟩, s', rfl, hs'⟩ := h p s h0 c hI
    obtain ⟨r, ⟨K2, N, hK2⟩, hr⟩ := ih (p + 1) s' (by omega) (by omega) (by omega) hs'
    refine ⟨r, ⟨max K K2, N + 1, fun k hk j hj => ?_⟩, hr⟩
    obtain ⟨j', rfl⟩ : ∃ j', j = j' + 1 := ⟨j - 1, by omega⟩
    simp only [allT]
    rw [if_pos c, if_pos (by omega), w64_id (x := p + 1) (by omega) (by omega), cut_w hn hn2 hm hm2 h0 (by omega), cut_w hn hn2 hm hm2 (by omega) (by omega), show f k p (cut m n p) (cut m n (p + 1)) s = some (.inl s') from hK k (by omega)]
    exact hK2 k (by omega) j' (by omega)
  · have : p = n := by omega
    subst this
    refine ⟨.inl s, ⟨0, 1, fun k _ j hj => ?_⟩, s, rfl, hI⟩
    obtain ⟨j', rfl⟩ : ∃ j', j = j' + 1 := ⟨j - 1, by omega⟩
    simp only [allT]
    rw [if_neg c]
/-! What the functions of the chapter compute. -/
theorem pc_total {x : List Int} (hs : Smp x) (hl : x.length ≤ 32) : Gives (fun k => T_pieces_total k x) (fun r => r = x.sum) := by
 have hB : ∀ v ∈ x, -(1000 : Int) ≤ v ∧ v ≤ 1000 := hs
 refine Gives.step ?_
 simp only [T_pieces_total]
 refine Gives.bind (Q := fun r => r = x.sum) ?_ fun r hr => Gives.now hr
 refine Gives.loop (fun s => 0 ≤ s.2 ∧ s.2 ≤ (x.length : Int) ∧ s.1 = psum x s.2) (fun s => ((x.length : Int) - s.2).toNat) ?_ ⟨by simp only []; omega, by simp only []; omega, (psum_zero x).symm⟩
 intro ⟨t, i⟩ ⟨i1, i2, i3⟩
 simp only at i1 i2 i3
 unfold T_pieces_total_l1
 simp only []
 refine Gives.ite (fun c => Gives.opt (at_rd i1 c) ?_) fun c => Gives.now ?_
 · have e := psum_succ i1 c
   have b := psum_bound hB (i.toNat + 1) (by omega)
   have : ((i.toNat + 1 : Nat) : Int) = i + 1 := by omega
   rw [this] at b
   rw [w64_id (x := i + 1) (by omega) (by omega), w64_id (x := t + rd x i) (by omega) (by omega)]
   exact Gives.now ⟨⟨by simp only []; omega, by simp only []; omega, by simp only []; omega⟩, by simp only []; omega⟩
 · have : i = x.length := by omega
   subst this
   rw [i3]; exact psum_all
theorem pc_all (m n : Int) : Gives (fun k => T_pieces_all k m n) (fun _ => True) := by
 refine Gives.step ?_
 simp only [T_pieces_all]
 exact Gives.now trivial
theorem pc_number (m n : Int) : Gives (fun k => T_pieces_number k m n) (fun _ => True) := by
 refine Gives.step ?_
 simp only [T_pieces_number]
 exact Gives.now trivial
theorem pc_check {x : List Int} {n : Int} (hx : Win x) (hn : 1 ≤ n) (hn2 : n ≤ 8) (hn3 : n ≤ (x.length : Int)) : Gives (fun k => T_pieces_check k x n) (fun r => r = 0) := by
 refine Gives.step ?_
 simp only [T_pieces_check]
 refine Gives.bind (eu_distance hx hx rfl) fun e he => Gives.neg (by simp [he]) (Gives.bind (pc_number _ _) fun _ _ => Gives.neg (by simp; omega) (Gives.now rfl))
theorem rd_set_eq {xs : List Int} {i v : Int} (h0 : 0 ≤ i) (h1 : i < (xs.length : Int)) : rd (xs.set (0 + i.toNat) v) i = v := by
 unfold rd
 rw [Nat.zero_add, List.getD_eq_getElem?_getD, List.getElem?_set_self (by omega)]; rfl
theorem rd_set_ne {xs : List Int} {i j v : Int} (h0 : 0 ≤ i) (h1 : 0 ≤ j) (h : i ≠ j) : rd (xs.set (0 + i.toNat) v) j = rd xs j := by
 unfold rd
 rw [Nat.zero_add, List.getD_eq_getElem?_getD, List.getElem?_set_ne (by omega), List.getD_eq_getElem?_getD]
theorem pc_part {x : List Int} {n p : Int} (hx : Win x) (hn : 1 ≤ n) (h0 : 0 ≤ p) (h1 : p < n) : 0 ≤ cut x.length n p ∧ cut x.length n p ≤ cut x.length n (p + 1) ∧ cut x.length n (p + 1) ≤ (x.length : Int) ∧
 Gives (fun k => T_pieces_total k ((x.drop (cut x.length n p).toNat).take ((cut x.length n (p + 1)).toNat - (cut x.length n p).toNat))) (fun r => r = psum x (cut x.length n (p + 1)) - psum x (cut x.length n p)) := by
 have a := cut_range (m := x.length) hn (by omega) h0 (by omega)
 have b := cut_range (m := x.length) (p := p + 1) hn (by omega) (by omega) (by omega)
 have c := cut_mono (m := x.length) (p := p) (q := p + 1) hn (by omega) (by omega)
 refine ⟨a.1, c, b.2, ?_⟩
 have x2 := hx.hi
 refine (pc_total ((hx.smp.drop _).take _) (by simp; omega)).mono fun r hr => ?_
 rw [hr]; exact part_sum a.1 c
theorem prod_bound {a b A B : Int} (h1 : -A ≤ a) (h2 : a ≤ A) (h3 : -B ≤ b) (h4 : b ≤ B) : -(A * B) ≤ a * b ∧ a * b ≤ A * B := by
 have hA : 0 ≤ A := by omega
 have hB : 0 ≤ B := by omega
 have p1 : 0 ≤ (A - a) * (B - b) := Int.mul_nonneg (by omega) (by omega)
 have p2 : 0 ≤ (A + a) * (B + b) := Int.mul_nonneg (by omega) (by omega)
 have p3 : 0 ≤ (A - a) * (B + b) := Int.mul_nonneg (by omega) (by omega)
 have p4 : 0 ≤ (A + a) * (B - b) := Int.mul_nonneg (by omega) (by omega)
 rw [Int.sub_mul, Int.mul_sub, Int.mul_sub] at p1
 rw [Int.add_mul, Int.mul_add, Int.mul_add] at p2
 rw [Int.sub_mul, Int.mul_add, Int.mul_add] at p3
 rw [Int.add_mul, Int.mul_sub, Int.mul_sub] at p4
 omega
theorem pc_bounds {x : List Int} (hx : Win x) {i : Int} (h0 : 0 ≤ i) (h1 : i ≤ (x.length : Int)) : -32000 ≤ psum x i ∧ psum x i ≤ 32000 := by
 have x2 := hx.hi
 have := psum_bound (B := 1000) hx.smp i.toNat (by omega)
 rw [Int.toNat_of_nonneg h0] at this
 omega
theorem rd_app_l {xs ys : List Int} {i : Int} (h1 : i.toNat < xs.length) : rd (xs ++ ys) i = rd xs i := by
 unfold rd
 rw [List.getD_eq_getElem?_getD, List.getElem?_append_left h1, List.getD_eq_getElem?_getD]
theorem rd_app_1 {xs : List Int} {v i : Int} (h0 : 0 ≤ i) (h1 : (xs.length : Int) = i) : rd (xs ++ [v]) i = v := by
 unfold rd
 rw [List.getD_eq_getElem?_getD, List.getElem?_append_right (by omega)]
 simp [show i.toNat - xs.length = 0 by omega]
theorem pc_starts {m n : Int} (hm : 2 ≤ m) (hm2 : m ≤ 32) (hn : 1 ≤ n) (hn2 : n ≤ 8) (hn3 : n ≤ m) :
 Gives (fun k => T_pieces_Starts k m n) (fun r => r.2 = 0 ∧ (r.1.length : Int) = n + 1 ∧ ∀ p, 0 ≤ p → p ≤ n → rd r.1 p = cut m n p) := by
 refine Gives.step ?_
 simp only [T_pieces_Starts]
 refine Gives.neg (by simp; omega) (Gives.bind (pc_number _ _) fun _ _ => Gives.neg (by simp; omega) (Gives.bind (pc_all _ _) fun _ _ => ?_))
 refine Gives.bind (Gives.rangeT (m := m) (n := n) hn hn2 (by omega) (by omega) (fun p s => (s.1 : Int) = p + 1 ∧ s.2.length = s.1 ∧ ∀ q, 0 ≤ q → q ≤ p → rd s.2 q = cut m n q) ?_ ⟨by simp, by simp, fun q h1 h2 => by
  have : q = 0 := by omega
  subst this; rw [cut_zero]; rfl⟩) fun r hr => ?_
 · intro p s h0 h1 ⟨i1, i2, i3⟩
   unfold T_pieces_Starts_r1
   rw [drop_take_len i2]
   refine Gives.pos (by unfold LIM; omega) (Gives.now ⟨_, rfl, by simp only []; omega, by simp [i2], fun q h2 h3 => ?_⟩)
   simp only []
   by_cases c : q = p + 1
   · subst c; rw [rd_app_1 (by omega) (by omega)]
   · rw [rd_app_l (by omega)]; exact i3 q h2 (by omega)
 · obtain ⟨s', rfl, k1, k2, k3⟩ := hr
   simp only []
   rw [drop_take_len k2]
   exact Gives.now ⟨rfl, by simp only []; omega, k3⟩

/-! The centred sums. -/
theorem pc_centred {x : List Int} {n : Int} (hx : Win x) (hn : 1 ≤ n) (hn2 : n ≤ 8) (hn3 : n ≤ (x.length : Int)) :
 Gives (fun k => T_pieces_Centred k x n) (fun r => r.2 = 0 ∧ (r.1.length : Int) = n ∧ ∀ p, 0 ≤ p → p < n → rd r.1 p = (x.length : Int) * (psum x (cut x.length n (p + 1)) - psum x (cut x.length n p)) - (cut x.length n (p + 1) - cut x.length n p) * x.sum) := by
 have x2 := hx.hi
 refine Gives.step ?_
 simp only [T_pieces_Centred]
 refine Gives.bind (pc_check hx hn hn2 hn3) fun e he => ?_
 subst he
 refine Gives.neg (by simp) (Gives.bind (pc_total hx.smp hx.hi) fun t ht => Gives.pos (by unfold LIM; omega) (Gives.bind (pc_all _ _) fun _ _ => ?_))
 subst ht
 refine Gives.bind (Gives.rangeT (m := (x.length : Int)) (n := n) hn hn2 (by omega) (by omega) (fun p s => s.length = n.toNat ∧ ∀ q, 0 ≤ q → q < p → rd s q = (x.length : Int) * (psum x (cut x.length n (q + 1)) - psum x (cut x.length n q)) - (cut x.length n (q + 1) - cut x.length n q) * x.sum) ?_ ⟨by simp, fun q h1 h2 => by omega⟩) fun r hr => ?_
 · intro p s h0 h1 ⟨i1, i2⟩
   obtain ⟨c1, c2, c3, c4⟩ := pc_part hx hn h0 h1
   unfold T_pieces_Centred_r1
   refine Gives.pos (by omega) (Gives.bind c4 fun v hv => Gives.pos (by omega) ?_)
   have b1 := pc_bounds hx (i := cut x.length n (p + 1)) (by omega) c3
   have b2 := pc_bounds hx (i := cut x.length n p) c1 (by omega)
   have b3 := pc_bounds hx (i := x.length) (by omega) (by omega)
   rw [psum_all] at b3
   have e1 := prod_bound (a := (x.length : Int)) (b := v) (A := 32) (B := 64000) (by omega) (by omega) (by omega) (by omega)
   have e2 := prod_bound (a := cut x.length n (p + 1) - cut x.length n p) (b := x.sum) (A := 32) (B := 32000) (by omega) (by omega) (by omega) (by omega)
   rw [w64_id (x := (x.length : Int) * v) (by omega) (by omega), w64_id (x := cut x.length n (p + 1) - cut x.length n p) (by omega) (by omega), w64_id (x := (cut x.length n (p + 1) - cut x.length n p) * x.sum) (by omega) (by omega), w64_id (by omega) (by omega)]
   refine Gives.now ⟨_, rfl, by simp [i1], fun q h2 h3 => ?_⟩
   by_cases c : q = p
   · subst c; rw [rd_set_eq h2 (by omega), hv]
   · rw [rd_set_ne h0 h2 (by omega)]; exact i2 q h2 (by omega)
 · obtain ⟨s', rfl, k1, k2⟩ := hr
   simp only []
   rw [drop_take_len k1]
   exact Gives.now ⟨rfl, by simp only []; omega, k2⟩

/-- The squares of a list. -/
def sqs (x : List Int) : List Int := x.map fun v => v * v
theorem sqs_len (x : List Int) : (sqs x).length = x.length := by simp [sqs]
theorem rd_sqs {x : List Int} {i : Int} (h0 : 0 ≤ i) (h1 : i < (x.length : Int)) : rd (sqs x) i = rd x i * rd x i := by
 unfold rd sqs
 rw [List.getD_eq_getElem?_getD, List.getD_eq_getElem?_getD, List.getElem?_map, List.getElem?_eq_getElem (show i.toNat < x.length by omega)]
 rfl
theorem sqs_bound {x : List Int} (hx : Smp x) : ∀ v ∈ sqs x, -(1000000 : Int) ≤ v ∧ v ≤ 1000000 := by
 intro v hv
 obtain ⟨u, hu, rfl⟩ := List.mem_map.1 hv
 have h := hx u hu
 have := prod_bound (a := u) (b := u) (A := 1000) (B := 1000) h.1 h.2 h.1 h.2
 omega
/-- What the product of a window with itself is. -/
def selfP (x : List Int) : Int := (x.length : Int) * (sqs x).sum - x.sum * x.sum
theorem selfP_bound {x : List Int} (hx : Win x) : -4000000000 ≤ selfP x ∧ selfP x ≤ 4000000000 ∧ -32000000 ≤ (sqs x).sum ∧ (sqs x).sum ≤ 32000000 ∧ -32000 ≤ x.sum ∧ x.sum ≤ 32000 := by
 have x2 := hx.hi
 have b1 := psum_bound (sqs_bound hx.smp) x.length (by rw [sqs_len]; omega)
 have e1 : psum (sqs x) (x.length : Int) = (sqs x).sum := by rw [← sqs_len x]; exact psum_all
 rw [e1] at b1
 have b2 := pc_bounds hx (i := x.length) (by omega) (by omega)
 rw [psum_all] at b2
 have q1 := prod_bound (a := (x.length : Int)) (b := (sqs x).sum) (A := 32) (B := 32000000) (by omega) (by omega) (by omega) (by omega)
 have q2 := prod_bound (a := x.sum) (b := x.sum) (A := 32000) (B := 32000) (by omega) (by omega) (by omega) (by omega)
 unfold selfP
 omega
theorem nm_product {x : List Int} (hx : Win x) : Gives (fun k => T_normal_product k x x) (fun r => r = selfP x) := by
 have x2 := hx.hi
 obtain ⟨p1, p2, p3, p4, p5, p6⟩ := selfP_bound hx
 refine Gives.step ?_
 simp only [T_normal_product]
 refine Gives.bind (Q := fun r => r.1 = (sqs x).sum ∧ r.2.1 = x.sum ∧ r.2.2 = x.sum) ?_ fun r hr => ?_
 · refine Gives.loop (fun s => 0 ≤ s.2.2.2 ∧ s.2.2.2 ≤ (x.length : Int) ∧ s.1 = psum (sqs x) s.2.2.2 ∧ s.2.1 = psum x s.2.2.2 ∧ s.2.2.1 = psum x s.2.2.2) (fun s => ((x.length : Int) - s.2.2.2).toNat) ?_ ⟨by simp only []; omega, by simp only []; omega, (psum_zero _).symm, (psum_zero _).symm, (psum_zero _).symm⟩
   intro ⟨a, b, c, i⟩ ⟨i1, i2, i3, i4, i5⟩
   simp only at i1 i2 i3 i4 i5
   unfold T_normal_product_l1
   simp only []
   refine Gives.ite (fun cc => Gives.opt (at_rd i1 cc) (Gives.opt (at_rd i1 cc) ?_)) fun cc => Gives.now ?_
   · have e1 := psum_succ (x := sqs x) i1 (by rw [sqs_len]; exact cc)
     rw [rd_sqs i1 cc] at e1
     have e2 := psum_succ (x := x) i1 cc
     have b1 := psum_bound (sqs_bound hx.smp) i.toNat (by rw [sqs_len]; omega)
     rw [Int.toNat_of_nonneg i1] at b1
     have b2 := pc_bounds hx i1 (by omega)
     have hs := hx.smp.rd i
     have b3 := prod_bound (a := rd x i) (b := rd x i) (A := 1000) (B := 1000) hs.1 hs.2 hs.1 hs.2
     rw [w64_id (x := rd x i * rd x i) (by omega) (by omega), w64_id (x := a + rd x i * rd x i) (by omega) (by omega), w64_id (x := b + rd x i) (by omega) (by omega), w64_id (x := c + rd x i) (by omega) (by omega), w64_id (x := i + 1) (by omega) (by omega)]
     exact Gives.now ⟨⟨by simp only []; omega, by simp only []; omega, by simp only []; omega, by simp only []; omega, by simp only []; omega⟩, by simp only []; omega⟩
   · have : i = x.length := by omega
     subst this
     have e1 : psum (sqs x) (x.length : Int) = (sqs x).sum := by rw [← sqs_len x]; exact psum_all
     exact ⟨i3.trans e1, i4.trans psum_all, i5.trans psum_all⟩
 · obtain ⟨r1, r2, r3⟩ := hr
   rw [r1, r2, r3]
   have q1 := prod_bound (a := (x.length : Int)) (b := (sqs x).sum) (A := 32) (B := 32000000) (by omega) (by omega) (by omega) (by omega)
   have q2 := prod_bound (a := x.sum) (b := x.sum) (A := 32000) (B := 32000) (by omega) (by omega) (by omega) (by omega)
   rw [w64_id (x := (x.length : Int) * (sqs x).sum) (by omega) (by omega), w64_id (x := x.sum * x.sum) (by omega) (by omega), w64_id (by omega) (by omega)]
   exact Gives.now rfl
theorem nm_Product {x : List Int} (hx : Win x) : Gives (fun k => T_normal_Product k x x) (fun r => r.1 = selfP x ∧ r.2 = 0) := by
 refine Gives.step ?_
 simp only [T_normal_Product]
 exact Gives.bind (eu_distance hx hx rfl) fun e he => Gives.neg (by simp [he]) (Gives.bind (nm_product hx) fun v hv => Gives.now ⟨hv, rfl⟩)
/-! Sums over the first places. -/
def sg (f : Int → Int) : Nat → Int
 | 0 => 0
 | n + 1 => sg f n + f n
theorem sg_congr {f g : Int → Int} : ∀ {n : Nat}, (∀ i : Int, 0 ≤ i → i < n → f i = g i) → sg f n = sg g n
 | 0, _ => rfl
 | n + 1, h => by
  rw [sg, sg, sg_congr (n := n) fun i h1 h2 => h i h1 (by omega), h n (by omega) (by omega)]
theorem sg_psum {x : List Int} : ∀ {n : Nat}, n ≤ x.length → sg (rd x) n = psum x n
 | 0, _ => by simp [sg, psum]
 | n + 1, h => by
  have e := psum_succ (x := x) (i := (n : Int)) (by omega) (by omega)
  have : (((n + 1 : Nat)) : Int) = (n : Int) + 1 := by omega
  rw [sg, sg_psum (n := n) (by omega), this, e]
theorem sg_bound {f : Int → Int} {B : Int} : ∀ {n : Nat}, (∀ i : Int, 0 ≤ i → i < n → -B ≤ f i ∧ f i ≤ B) → -(B * n) ≤ sg f n ∧ sg f n ≤ B * n
 | 0, _ => by simp [sg]
 | n + 1, h => by
  have ih := sg_bound (n := n) fun i h1 h2 => h i h1 (by omega)
  have hb := h n (by omega) (by omega)
  have : (((n + 1 : Nat)) : Int) = (n : Int) + 1 := by omega
  rw [sg, this, Int.mul_add, Int.mul_one]
  omega
theorem sg_nonneg {f : Int → Int} : ∀ {n : Nat}, (∀ i : Int, 0 ≤ i → i < n → 0 ≤ f i) → 0 ≤ sg f n
 | 0, _ => by simp [sg]
 | n + 1, h => by
  have ih := sg_nonneg (n := n) fun i h1 h2 => h i h1 (by omega)
  have hb := h n (by omega) (by omega)
  rw [sg]; omega
theorem sq_nonneg (a : Int) : 0 ≤ a * a := by
 rcases Int.le_total 0 a with h | h
 · exact Int.mul_nonneg h h
 · exact Int.mul_nonneg_of_nonpos_of_nonpos h h
/-! What two windows' product is. -/
def prodP (x y : List Int) : Int := (x.length : Int) * sg (fun i => rd x i * rd y i) x.length - x.sum * y.sum
theorem selfP_prod {x : List Int} : selfP x = prodP x x := by
 have e : sg (fun i => rd x i * rd x i) x.length = (sqs x).sum := by
  rw [← psum_all (x := sqs x), sqs_len, ← sg_psum (by rw [sqs_len]; exact Nat.le_refl _)]
  exact sg_congr fun i h1 h2 => (rd_sqs h1 h2).symm
 unfold selfP prodP
 rw [e]

/-! The lengths of pieces, and what they all divide. -/
theorem len_fin : ∀ m : Fin 33, ∀ n : Fin 9, ∀ p : Fin 8, 1 ≤ n.val → p.val < n.val → n.val ≤ m.val → ((p.val + 1) * m.val / n.val - p.val * m.val / n.val = m.val / n.val ∨ (p.val + 1) * m.val / n.val - p.val * m.val / n.val = m.val / n.val + 1) := by decide +kernel
/-- What all lengths of pieces divide. -/
def mm (m n : Nat) : Nat := (m / n) * (m / n + 1)
/-- How often a piece's length goes into it. -/
def wt (m n : Nat) (p : Int) : Nat := mm m n / (cut m n (p + 1) - cut m n p).toNat
theorem wt_ok {m n : Nat} {p : Int} (hm : m ≤ 32) (hn : 1 ≤ n) (hn2 : n ≤ 8) (hn3 : n ≤ m) (h0 : 0 ≤ p) (h1 : p < (n : Int)) :
 (cut m n (p + 1) - cut m n p).toNat * wt m n p = mm m n ∧ wt m n p ≤ 33 ∧ 1 ≤ cut m n (p + 1) - cut m n p ∧ cut m n (p + 1) - cut m n p ≤ 32 ∧ 0 < mm m n ∧ mm m n ≤ 1056 := by
 obtain ⟨q, rfl⟩ : ∃ q : Nat, p = q := ⟨p.toNat, by omega⟩
 have dl : cut m n ((q : Int) + 1) - cut m n (q : Int) ≤ 32 := by
  have a := cut_range (m := m) (n := n) (p := (q : Int) + 1) (by omega) (by omega) (by omega) (by omega)
  have b := cut_range (m := m) (n := n) (p := (q : Int)) (by omega) (by omega) (by omega) (by omega)
  omega
 have f := len_fin ⟨m, by omega⟩ ⟨n, by omega⟩ ⟨q, by omega⟩ hn (by simp only []; omega) hn3
 simp only [] at f
 have e1 : cut (m : Int) n ((q : Int) + 1) = (((q + 1) * m / n : Nat) : Int) := by
  unfold cut
  have : ((q : Int) + 1) * m = (((q + 1) * m : Nat) : Int) := by simp
  rw [this]; rfl
 have e2 : cut (m : Int) n (q : Int) = ((q * m / n : Nat) : Int) := by
  unfold cut
  have : (q : Int) * m = ((q * m : Nat) : Int) := by simp
  rw [this]; rfl
 have d0 : 1 ≤ m / n := Nat.div_pos hn3 hn
 have d1 : m / n ≤ 32 := Nat.le_trans (Nat.div_le_self _ _) hm
 have mono : q * m / n ≤ (q + 1) * m / n := Nat.div_le_div_right (Nat.mul_le_mul_right m (by omega))
 unfold wt mm
 rw [e1, e2] at dl ⊢
 generalize (q + 1) * m / n = c1 at f mono dl ⊢
 generalize q * m / n = c0 at f mono dl ⊢
 generalize m / n = a at f d0 d1 ⊢
 have el : ((c1 : Int) - (c0 : Int)).toNat = c1 - c0 := by omega
 rw [el]
 have hb : a * (a + 1) ≤ 32 * 33 := Nat.mul_le_mul d1 (by omega)
 have hb0 : 0 < a * (a + 1) := Nat.mul_pos d0 (by omega)
 rcases f with f | f
 · rw [f, Nat.mul_div_cancel_left _ d0]
   refine ⟨rfl, by omega, by omega, by omega, hb0, by omega⟩
 · rw [f, Nat.mul_comm a (a + 1), Nat.mul_div_cancel_left _ (by omega)]
   refine ⟨rfl, by omega, by omega, by omega, by rw [Nat.mul_comm]; exact hb0, by rw [Nat.mul_comm]; omega⟩
/-- The sum of a piece, and the centred one. -/
def pcs (x : List Int) (n p : Int) : Int := psum x (cut x.length n (p + 1)) - psum x (cut x.length n p)
def pcc (x : List Int) (n p : Int) : Int := (x.length : Int) * pcs x n p - (cut x.length n (p + 1) - cut x.length n p) * x.sum
theorem sg_term {f : Int → Int} : ∀ {n : Nat}, (∀ i : Int, 0 ≤ i → i < n → 0 ≤ f i) → ∀ p : Int, 0 ≤ p → p < n → f p ≤ sg f n
 | 0, _, p, h0, h1 => by omega
 | n + 1, h, p, h0, h1 => by
  have nn := sg_nonneg (n := n) fun i i0 i1 => h i i0 (by omega)
  have hn := h n (by omega) (by omega)
  rw [sg]
  by_cases c : p = n
  · subst c; omega
  · have := sg_term (n := n) (fun i i0 i1 => h i i0 (by omega)) p h0 (by omega)
    omega
/-- A piece has one of two lengths. -/
theorem two_lens {m n : Nat} {p : Int} (hm : m ≤ 32) (hn : 1 ≤ n) (hn2 : n ≤ 8) (hn3 : n ≤ m) (h0 : 0 ≤ p) (h1 : p < (n : Int)) : cut m n (p + 1) - cut m n p = ((m / n : Nat) : Int) ∨ cut m n (p + 1) - cut m n p = ((m / n : Nat) : Int) + 1 := by
 obtain ⟨q, rfl⟩ : ∃ q : Nat, p = q := ⟨p.toNat, by omega⟩
 have f := len_fin ⟨m, by omega⟩ ⟨n, by omega⟩ ⟨q, by omega⟩ hn (by simp only []; omega) hn3
 simp only [] at f
 have e1 : cut (m : Int) n ((q : Int) + 1) = (((q + 1) * m / n : Nat) : Int) := by
  unfold cut
  have : ((q : Int) + 1) * m = (((q + 1) * m : Nat) : Int) := by simp
  rw [this]; rfl
 have e2 : cut (m : Int) n (q : Int) = ((q * m / n : Nat) : Int) := by
  unfold cut
  have : (q : Int) * m = ((q * m : Nat) : Int) := by simp
  rw [this]; rfl
 have mono : q * m / n ≤ (q + 1) * m / n := Nat.div_le_div_right (Nat.mul_le_mul_right m (by omega))
 rw [e1, e2]
 generalize (q + 1) * m / n = c1 at f mono ⊢
 generalize q * m / n = c0 at f mono ⊢
 generalize m / n = a at f ⊢
 omega

/-! The greatest common divisor. -/
theorem gcd_step (m n : Nat) (h : n ≠ 0) : Nat.gcd n (m % n) = Nat.gcd m n := by
 rw [Nat.gcd_comm m n, Nat.gcd_rec n m, Nat.gcd_comm]
theorem tmod_nat (m n : Nat) : (m : Int).tmod n = ((m % n : Nat) : Int) := by
 rw [Int.tmod_eq_emod_of_nonneg (by omega)]; rfl
theorem ra_divisor (m n : Nat) : Gives (fun k => T_ratio_divisor k m n) (fun r => r = (Nat.gcd m n : Nat)) := by
 refine Gives.step ?_
 simp only [T_ratio_divisor]
 refine Gives.bind (Q := fun r => r = ((Nat.gcd m n : Nat) : Int)) ?_ fun r hr => Gives.now hr
 refine Gives.loop (fun s => ∃ a b : Nat, s = ((a : Int), (b : Int)) ∧ Nat.gcd a b = Nat.gcd m n) (fun s => s.2.toNat) ?_ ⟨m, n, rfl, rfl⟩
 intro s ⟨a, b, hs, hg⟩
 subst hs
 unfold T_ratio_divisor_l1
 simp only []
 by_cases c : b = 0
 · subst c
   refine Gives.neg (by simp) (Gives.now ?_)
   rw [← hg]; simp
 · refine Gives.pos (by simp; omega) (Gives.pos (by omega) (Gives.now ⟨⟨b, a % b, by rw [tmod_nat], by rw [gcd_step a b c, hg]⟩, ?_⟩))
   simp only [tmod_nat]
   have := Nat.mod_lt a (show 0 < b by omega)
   omega
theorem ra_common (m n : Nat) : Gives (fun k => T_ref01_common k m n) (fun r => r = (Nat.gcd m n : Nat)) := by
 refine Gives.step ?_
 simp only [T_ref01_common]
 refine Gives.bind (Q := fun r => r = ((Nat.gcd m n : Nat) : Int)) ?_ fun r hr => Gives.now hr
 refine Gives.loop (fun s => ∃ a b : Nat, s = ((a : Int), (b : Int)) ∧ Nat.gcd a b = Nat.gcd m n) (fun s => s.2.toNat) ?_ ⟨m, n, rfl, rfl⟩
 intro s ⟨a, b, hs, hg⟩
 subst hs
 unfold T_ref01_common_l1
 simp only []
 by_cases c : b = 0
 · subst c
   refine Gives.neg (by simp) (Gives.now ?_)
   rw [← hg]; simp
 · refine Gives.pos (by omega) (Gives.pos (by omega) (Gives.now ⟨⟨b, a % b, by rw [tmod_nat], by rw [gcd_step a b c, hg]⟩, ?_⟩))
   simp only [tmod_nat]
   have := Nat.mod_lt a (show 0 < b by omega)
   omega
theorem tdiv_nat (m n : Nat) : (m : Int).tdiv n = ((m / n : Nat) : Int) := by
 rw [Int.tdiv_eq_ediv_of_nonneg (by omega)]; rfl
theorem ra_Make {m n : Nat} (hn : 0 < n) (h1 : m ≤ 2305843009213693952) (h2 : n ≤ 1152921504606846976) : Gives (fun k => T_ratio_Make k m n) (fun r => r = (((m / Nat.gcd m n : Nat) : Int), ((n / Nat.gcd m n : Nat) : Int), 0)) := by
 have g0 : 0 < Nat.gcd m n := Nat.gcd_pos_of_pos_right m hn
 have d1 : m / Nat.gcd m n ≤ m := Nat.div_le_self _ _
 have d2 : n / Nat.gcd m n ≤ n := Nat.div_le_self _ _
 have d3 : 0 < n / Nat.gcd m n := Nat.div_pos (Nat.gcd_le_right m hn) g0
 refine Gives.step ?_
 simp only [T_ratio_Make]
 refine Gives.neg (by simp; omega) (Gives.bind (ra_divisor m n) fun g hg => ?_)
 subst hg
 simp only [tdiv_nat]
 generalize m / Nat.gcd m n = qa at d1 ⊢
 generalize n / Nat.gcd m n = qb at d2 d3 ⊢
 rw [w64_id (x := (qa : Int)) (by omega) (by omega), w64_id (x := (qb : Int)) (by omega) (by omega)]
 refine Gives.pos (by omega) (Gives.bind (Q := fun _ => True) ?_ fun _ _ => Gives.neg (by simp; omega) (Gives.now rfl))
 refine Gives.step ?_
 simp only [T_ratio_within]
 exact Gives.now trivial

/-! Sums of ratios. -/
/-- p / q is T / M, in lowest terms. -/
structure Rep (p q T M : Nat) : Prop where
 pos : 0 < q
 cop : Nat.gcd p q = 1
 eq : p * M = T * q
theorem Rep.dvd {p q T M : Nat} (h : Rep p q T M) : q ∣ M := by
 have : q ∣ p * M := ⟨T, by rw [h.eq, Nat.mul_comm]⟩
 exact Nat.Coprime.dvd_of_dvd_mul_left (Nat.coprime_comm.1 h.cop) this
theorem Rep.le {p q T M : Nat} (h : Rep p q T M) (hM : 0 < M) : p ≤ T ∧ q ≤ M := by
 obtain ⟨m, hm⟩ := h.dvd
 have e := h.eq
 have hm0 : 0 < m := by
  rcases Nat.eq_zero_or_pos m with c | c
  · subst c; omega
  · exact c
 refine ⟨?_, Nat.le_of_dvd hM h.dvd⟩
 have : p * m = T := by
  have h1 : q * (p * m) = q * T := by
   rw [hm] at e
   calc q * (p * m) = p * (q * m) := by grind
    _ = T * q := e
    _ = q * T := Nat.mul_comm _ _
  exact Nat.eq_of_mul_eq_mul_left h.pos h1
 calc p = p * 1 := by omega
  _ ≤ p * m := Nat.mul_le_mul_left p hm0
  _ = T := this
theorem Rep.uniq {p q p' q' T M : Nat} (h : Rep p q T M) (k : Rep p' q' T M) (hM : 0 < M) : p = p' ∧ q = q' := by
 have e : p * q' = p' * q := by
  have h1 : M * (p * q') = M * (p' * q) := by
   calc M * (p * q') = (p * M) * q' := by grind
    _ = (T * q) * q' := by rw [h.eq]
    _ = (T * q') * q := by grind
    _ = (p' * M) * q := by rw [k.eq]
    _ = M * (p' * q) := by grind
  exact Nat.eq_of_mul_eq_mul_left hM h1
 have d1 : q ∣ q' := Nat.Coprime.dvd_of_dvd_mul_left (Nat.coprime_comm.1 h.cop) ⟨p', by rw [e, Nat.mul_comm]⟩
 have d2 : q' ∣ q := Nat.Coprime.dvd_of_dvd_mul_left (Nat.coprime_comm.1 k.cop) ⟨p, by rw [← e, Nat.mul_comm]⟩
 have eq : q = q' := Nat.dvd_antisymm d1 d2
 subst eq
 exact ⟨Nat.eq_of_mul_eq_mul_right h.pos e, rfl⟩
theorem Rep.make {m n w : Nat} (hn : 0 < n) : Rep (m / Nat.gcd m n) (n / Nat.gcd m n) (m * w) (n * w) := by
 have g0 : 0 < Nat.gcd m n := Nat.gcd_pos_of_pos_right m hn
 refine ⟨Nat.div_pos (Nat.gcd_le_right m hn) g0, by rw [Nat.gcd_div (Nat.gcd_dvd_left m n) (Nat.gcd_dvd_right m n), Nat.div_self g0], ?_⟩
 obtain ⟨a, ha⟩ := Nat.gcd_dvd_left m n
 obtain ⟨b, hb⟩ := Nat.gcd_dvd_right m n
 generalize Nat.gcd m n = g at ha hb g0
 subst ha hb
 rw [Nat.mul_div_cancel_left _ g0, Nat.mul_div_cancel_left _ g0]
 grind
/-! Words of 64 bits. -/

theorem r01_valid {p q : Nat} (h : Nat.gcd p q = 1) (h0 : 0 < q) (h1 : p ≤ 2305843009213693952) (h2 : q ≤ 1152921504606846976) : Gives (fun k => T_ref01_Valid k p q) (· = true) := by
 refine Gives.step ?_
 simp only [T_ref01_Valid]
 refine Gives.bind (Q := fun b => b = true) ?_ fun b hb => Gives.now hb
 refine Gives.pos (by simp; omega) (Gives.bind (ra_common p q) fun g hg => Gives.now ?_)
 rw [hg, h]; rfl

theorem r01_make {m n : Nat} (hn : 0 < n) (h1 : m ≤ 2305843009213693952) (h2 : n ≤ 1152921504606846976) : Gives (fun k => T_ref01_Make k m n) (fun r => ∃ p q : Nat, r = ((p : Int), (q : Int), 0) ∧ Rep p q m n) := by
 have R := Rep.make (m := m) (n := n) (w := 1) hn
 rw [Nat.mul_one, Nat.mul_one] at R
 have l := R.le hn
 have g0 : 0 < Nat.gcd m n := Nat.gcd_pos_of_pos_right m hn
 refine Gives.step ?_
 simp only [T_ref01_Make]
 refine Gives.neg (by simp; omega) (Gives.bind (ra_common m n) fun g hg => ?_)
 subst hg
 simp only [tdiv_nat]
 generalize m / Nat.gcd m n = u at R l ⊢
 generalize n / Nat.gcd m n = v at R l ⊢
 rw [w64_id (x := (u : Int)) (by omega) (by omega), w64_id (x := (v : Int)) (by omega) (by omega)]
 refine Gives.pos (by omega) (Gives.bind (r01_valid R.cop R.pos (by omega) (by omega)) fun v hv => Gives.neg (by simp [hv]) (Gives.now ⟨_, _, rfl, R⟩))

/-! The order of ratios. -/
theorem ro_order : ∀ (n a b c d : Nat), b + d < n → 0 < b → 0 < d → a < 4611686018427387904 → c < 4611686018427387904 → b < 4611686018427387904 → d < 4611686018427387904 → Gives (fun k => T_ref01_order k a b c d) (fun r => (a * d < c * b ∧ r = -1) ∨ (a * d = c * b ∧ r = 0) ∨ (c * b < a * d ∧ r = 1))
 | 0, _, _, _, _, h, _, _, _, _, _, _ => by omega
 | n + 1, a, b, c, d, h, hb, hd, la, lc, lb, ld => by
  refine Gives.step ?_
  simp only [T_ref01_order, tdiv_nat, tmod_nat]
  have q1 : a / b ≤ a := Nat.div_le_self _ _
  have q2 : c / d ≤ c := Nat.div_le_self _ _
  have ea := Nat.div_add_mod a b
  have ec := Nat.div_add_mod c d
  have ra := Nat.mod_lt a hb
  have rc := Nat.mod_lt c hd
  have fin : ∀ (u v : Nat) (r : Int), (u < v ↔ a * d < c * b) → (u = v ↔ a * d = c * b) → ((u < v ∧ r = -1) ∨ (u = v ∧ r = 0) ∨ (v < u ∧ r = 1)) → (a * d < c * b ∧ r = -1) ∨ (a * d = c * b ∧ r = 0) ∨ (c * b < a * d ∧ r = 1) := by
   intro u v r h1 h2 h3
   rcases h3 with ⟨h, e⟩ | ⟨h, e⟩ | ⟨h, e⟩
   · exact Or.inl ⟨h1.1 h, e⟩
   · exact Or.inr (Or.inl ⟨h2.1 h, e⟩)
   · refine Or.inr (Or.inr ⟨?_, e⟩)
     have n1 : ¬ a * d < c * b := fun g => by have := h1.2 g; omega
     have n2 : ¬ a * d = c * b := fun g => by have := h2.2 g; omega
     omega
  generalize a / b = p at ea q1 ⊢
  generalize c / d = q at ec q2 ⊢
  generalize a % b = a' at ea ra ⊢
  generalize c % d = c' at ec rc ⊢
  rw [w64_id (x := (p : Int)) (by omega) (by omega), w64_id (x := (q : Int)) (by omega) (by omega)]
  have eA : a * d = p * (b * d) + a' * d := by rw [← ea]; grind
  have eC : c * b = q * (b * d) + c' * b := by rw [← ec]; grind
  have lA : a' * d < b * d := Nat.mul_lt_mul_of_pos_right ra hd
  have lC : c' * b < b * d := by rw [Nat.mul_comm b d]; exact Nat.mul_lt_mul_of_pos_right rc hb
  refine Gives.pos (by omega) (Gives.pos (by omega) (Gives.ite (fun cc => ?_) fun cc => ?_))
  · have ne : p ≠ q := by
     intro e; subst e; simp at cc
    refine Gives.ite (fun lt => Gives.now ?_) fun lt => Gives.now ?_
    · have : (p + 1) * (b * d) ≤ q * (b * d) := Nat.mul_le_mul_right _ (by omega)
      rw [Nat.add_mul] at this
      exact Or.inl ⟨by omega, rfl⟩
    · have : (q + 1) * (b * d) ≤ p * (b * d) := Nat.mul_le_mul_right _ (by omega)
      rw [Nat.add_mul] at this
      exact Or.inr (Or.inr ⟨by omega, rfl⟩)
  · have eq : p = q := by
     simp at cc; omega
    subst eq
    refine Gives.pos (by omega) (Gives.pos (by omega) (Gives.ite (fun z => Gives.now ?_) fun z => Gives.ite (fun z1 => Gives.now ?_) fun z1 => Gives.ite (fun z2 => Gives.now ?_) fun z2 => ?_))
    · simp at z
      obtain ⟨rfl, rfl⟩ := z
      exact Or.inr (Or.inl ⟨by omega, rfl⟩)
    · have e1 : a' = 0 := by omega
      subst e1
      simp at z
      have : 0 < c' * b := Nat.mul_pos (by omega) hb
      exact Or.inl ⟨by omega, rfl⟩
    · have e1 : c' = 0 := by omega
      subst e1
      have : 0 < a' * d := Nat.mul_pos (by omega) hd
      exact Or.inr (Or.inr ⟨by omega, rfl⟩)
    · refine Gives.bind (ro_order n d c' b a' (by omega) (by omega) (by omega) (by omega) (by omega) (by omega) (by omega)) fun r hr => Gives.now ?_
      rw [Nat.mul_comm d a', Nat.mul_comm b c'] at hr
      exact fin (a' * d) (c' * b) r (by omega) (by omega) hr
theorem ro_cmp {p q p' q' : Nat} (h : Nat.gcd p q = 1) (h0 : 0 < q) (h1 : p ≤ 2305843009213693952) (h2 : q ≤ 1152921504606846976) (g : Nat.gcd p' q' = 1) (g0 : 0 < q') (g1 : p' ≤ 2305843009213693952) (g2 : q' ≤ 1152921504606846976) :
 Gives (fun k => T_ref01_Cmp k p q p' q') (fun r => (p * q' < p' * q ∧ r = -1) ∨ (p * q' = p' * q ∧ r = 0) ∨ (p' * q < p * q' ∧ r = 1)) := by
 refine Gives.step ?_
 simp only [T_ref01_Cmp]
 refine Gives.bind (Q := fun r => r = false) ?_ fun r hr => ?_
 · refine Gives.bind (r01_valid h h0 h1 h2) fun v hv => Gives.neg (by simp [hv]) (Gives.bind (r01_valid g g0 g1 g2) fun w hw => Gives.now (by simp [hw]))
 · subst hr
   refine Gives.neg (by simp) (Gives.bind (ro_order (q + q' + 1) p q p' q' (by omega) h0 g0 (by omega) (by omega) (by omega) (by omega)) fun r hr => Gives.now hr)
theorem Rep.scale {p q T M : Nat} (h : Rep p q T M) (k : Nat) : Rep p q (T * k) (M * k) := ⟨h.pos, h.cop, by have := h.eq; grind⟩
theorem Rep.same {p q T M p' q' T' M' : Nat} (h : Rep p q T M) (k : Rep p' q' T' M') (hM : 0 < M) (hM' : 0 < M') (l : T * M' = T' * M) : p = p' ∧ q = q' := by
 have a := h.scale M'
 have b := k.scale M
 rw [l, Nat.mul_comm M M'] at a
 exact a.uniq b (Nat.mul_pos hM' hM)

theorem ints_refl {xs ys : List Int} (h : xs = ys) (hl : xs.length ≤ 1000) : Gives (fun k => T_keep_Ints k xs ys) (· = true) := by
 subst h
 refine Gives.step ?_
 simp only [T_keep_Ints]
 refine Gives.neg (by simp) (Gives.bind (Q := fun r => r = .inl ()) ?_ fun r hr => by subst hr; exact Gives.now rfl)
 refine Gives.loop (fun s => 0 ≤ s ∧ s ≤ (xs.length : Int)) (fun s => ((xs.length : Int) - s).toNat) ?_ ⟨by omega, by omega⟩
 intro s ⟨i1, i2⟩
 unfold T_keep_Ints_l1
 refine Gives.ite (fun c => Gives.opt (at_rd i1 c) (Gives.opt (at_rd i1 c) (Gives.neg (by simp) ?_))) fun c => Gives.now rfl
 rw [w64_id (by omega) (by omega)]
 exact Gives.now ⟨⟨by omega, by omega⟩, by omega⟩
theorem ext_rd {xs ys : List Int} (hl : xs.length = ys.length) (h : ∀ p, 0 ≤ p → p < (xs.length : Int) → rd xs p = rd ys p) : xs = ys := by
 refine List.ext_getElem hl fun i h1 h2 => ?_
 have := h i (by omega) (by omega)
 unfold rd at this
 rw [List.getD_eq_getElem?_getD, List.getD_eq_getElem?_getD] at this
 simpa [h1, h2] using this

/-! Errors of windows of any kind. -/
theorem Gives.get {α : Type} {f : Nat → Option α} {Q : α → Prop} (h : Gives f Q) : ∃ v, Gives f (· = v) ∧ Q v := by
 obtain ⟨r, h1, h2⟩ := h
 exact ⟨r, ⟨r, h1, rfl⟩, h2⟩
theorem at_mem {α : Type} {xs : List α} {i : Int} (h0 : 0 ≤ i) (h1 : i < (xs.length : Int)) : ∃ v, at? xs i = some v ∧ v ∈ xs := by
 have h : i.toNat < xs.length := by omega
 exact ⟨xs[i.toNat], by unfold at?; rw [if_pos h0, List.getElem?_eq_getElem h], List.getElem_mem h⟩
def smpB (xs : List Int) : Bool := xs.all fun v => decide (-1000 ≤ v ∧ v ≤ 1000)
theorem smpB_iff {xs : List Int} : smpB xs = true ↔ Smp xs := by
 unfold smpB Smp
 rw [List.all_eq_true]
 exact ⟨fun h v hv => by simpa using h v hv, fun h v hv => by simpa using h v hv⟩
theorem smp_of_rd {xs : List Int} (h : ∀ q, 0 ≤ q → q < (xs.length : Int) → -1000 ≤ rd xs q ∧ rd xs q ≤ 1000) : Smp xs := by
 intro v hv
 obtain ⟨i, hi, rfl⟩ := List.getElem_of_mem hv
 have e : rd xs (i : Int) = xs[i] := by unfold rd; rw [List.getD_eq_getElem?_getD]; simp [hi]
 rw [← e]
 exact h i (by omega) (by omega)
def lenB (xs : List Int) : Bool := decide (2 ≤ xs.length) && decide (xs.length ≤ 32)
/-- The first error of two windows and a band. -/
def errM (xs ys : List Int) (m : Int) : Int :=
 if (lenB xs && lenB ys) = true then if (smpB xs && smpB ys) = true then if (xs.length : Int) - ys.length ≤ m ∧ (ys.length : Int) - xs.length ≤ m then 0 else 8 else 12 else 8
theorem errM_zero {xs ys : List Int} {m : Int} (h : errM xs ys m = 0) : Win xs ∧ Win ys ∧ (xs.length : Int) - ys.length ≤ m ∧ (ys.length : Int) - xs.length ≤ m := by
 unfold errM at h
 split at h
 · rename_i h1
   split at h
   · rename_i h2
     split at h
     · rename_i h3
       simp only [lenB, Bool.and_eq_true, decide_eq_true_eq] at h1
       simp only [Bool.and_eq_true, smpB_iff] at h2
       exact ⟨⟨h1.1.1, h1.1.2, h2.1⟩, ⟨h1.2.1, h1.2.2, h2.2⟩, h3.1, h3.2⟩
     · cases h
   · cases h
 · cases h
theorem errM_win {xs ys : List Int} {m : Int} (hx : Win xs) (hy : Win ys) (h1 : (xs.length : Int) - ys.length ≤ m) (h2 : (ys.length : Int) - xs.length ≤ m) : errM xs ys m = 0 := by
 have a1 := hx.lo
 have a2 := hx.hi
 have b1 := hy.lo
 have b2 := hy.hi
 unfold errM
 rw [if_pos (by simp [lenB]; omega), if_pos (by rw [smpB_iff.2 hx.smp, smpB_iff.2 hy.smp]; rfl), if_pos ⟨h1, h2⟩]
theorem eu_samplesG {xs : List Int} (hl : xs.length ≤ 1000) : Gives (fun k => T_euclid_samples k xs) (· = smpB xs) := by
 refine Gives.step ?_
 simp only [T_euclid_samples]
 refine Gives.bind (Q := fun r => (r = .inl () ∧ smpB xs = true) ∨ (r = .inr () ∧ smpB xs = false)) ?_ fun r hr => ?_
 · refine Gives.loop (fun s => 0 ≤ s ∧ s ≤ (xs.length : Int) ∧ ∀ q, 0 ≤ q → q < s → -1000 ≤ rd xs q ∧ rd xs q ≤ 1000) (fun s => ((xs.length : Int) - s).toNat) ?_ ⟨by omega, by omega, fun q h1 h2 => by omega⟩
   intro s ⟨i1, i2, i3⟩
   unfold T_euclid_samples_l1
   refine Gives.ite (fun c => Gives.opt (at_rd i1 c) (Gives.ite (fun b => Gives.now (.inr ⟨rfl, ?_⟩)) fun b => ?_)) fun c => Gives.now (.inl ⟨rfl, smpB_iff.2 (smp_of_rd fun q h1 h2 => i3 q h1 (by omega))⟩)
   · rcases e : smpB xs with _ | _
     · rfl
     · have := (smpB_iff.1 e).rd s
       simp only [Bool.or_eq_true, decide_eq_true_eq] at b
       omega
   · simp only [Bool.or_eq_true, decide_eq_true_eq] at b
     rw [w64_id (by omega) (by omega)]
     refine Gives.now ⟨⟨by omega, by omega, fun q h1 h2 => ?_⟩, by omega⟩
     by_cases e : q = s
     · subst e; omega
     · exact i3 q h1 (by omega)
 · rcases hr with ⟨rfl, h⟩ | ⟨rfl, h⟩
   · exact Gives.now h.symm
   · exact Gives.now h.symm
theorem eu_checkG {xs ys : List Int} (hx : xs.length ≤ 1000) (hy : ys.length ≤ 1000) : Gives (fun k => T_euclid_check k xs ys) (· = errM xs ys 0) := by
 refine Gives.step ?_
 simp only [T_euclid_check]
 refine Gives.bind (Q := fun b => b = !(lenB xs && lenB ys)) ?_ fun b hb => ?_
 · refine Gives.bind (eu_len xs) fun _ _ => Gives.ite (fun c => Gives.now ?_) fun c => Gives.bind (eu_len ys) fun _ _ => Gives.now ?_
   · have : lenB xs = false := by
      unfold lenB
      simp at c ⊢; omega
     rw [this]; rfl
   · have : lenB xs = true := by
      unfold lenB
      simp at c ⊢; omega
     rw [this, Bool.true_and]
     unfold lenB
     congr 2
     · simp; omega
     · simp; omega
 subst hb
 refine Gives.ite (fun c => Gives.now ?_) fun c => ?_
 · unfold errM
   rw [if_neg (by intro hh; rw [hh] at c; cases c)]
 · refine Gives.bind (Q := fun b => b = !(smpB xs && smpB ys)) ?_ fun b hb => ?_
   · refine Gives.bind (eu_samplesG hx) fun u hu => ?_
     subst hu
     refine Gives.ite (fun d => Gives.now ?_) fun d => Gives.bind (eu_samplesG hy) fun u hu => Gives.now ?_
     · have : smpB xs = false := by simpa using d
       rw [this]; rfl
     · have : smpB xs = true := by simpa using d
       rw [this, hu]; rfl
   subst hb
   have c' : (lenB xs && lenB ys) = true := by simpa using c
   refine Gives.ite (fun d => Gives.now ?_) fun d => ?_
   · unfold errM
     rw [if_pos c', if_neg (by intro hh; rw [hh] at d; cases d)]
   · have d' : (smpB xs && smpB ys) = true := by simpa using d
     refine Gives.ite (fun e => Gives.now ?_) fun e => Gives.now ?_
     · unfold errM
       rw [if_pos c', if_pos d', if_neg (by simp at e; omega)]
     · unfold errM
       rw [if_pos c', if_pos d', if_pos (by simp at e; omega)]
theorem eu_distanceG {xs ys : List Int} (hx : xs.length ≤ 1000) (hy : ys.length ≤ 1000) : Gives (fun k => T_euclid_Distance k xs ys) (fun r => r.2 = errM xs ys 0) := by
 by_cases h : errM xs ys 0 = 0
 · obtain ⟨a, b, c, d⟩ := errM_zero h
   exact Gives.mono (eu_distance a b (by omega)) fun r hr => by rw [hr, h]
 · refine Gives.step ?_
   simp only [T_euclid_Distance]
   refine Gives.bind (eu_checkG hx hy) fun e he => ?_
   subst he
   exact Gives.pos (by simpa using h) (Gives.now rfl)
theorem r12_samples {x : List Int} (hx : Win x) : Gives (fun k => T_ref12_Samples k x) (fun r => r = 0) := by
 have x2 := hx.hi
 refine Gives.step ?_
 simp only [T_ref12_Samples]
 refine Gives.bind (Q := fun r => r = .inl ()) ?_ fun r hr => by subst hr; exact Gives.now rfl
 refine Gives.loop (fun s => 0 ≤ s ∧ s ≤ (x.length : Int)) (fun s => ((x.length : Int) - s).toNat) ?_ ⟨by omega, by omega⟩
 intro s ⟨i1, i2⟩
 unfold T_ref12_Samples_l1
 refine Gives.ite (fun c => Gives.opt (at_rd i1 c) (Gives.bind (Q := fun _ => True) ?_ fun _ _ => ?_)) fun c => Gives.now rfl
 · refine Gives.step ?_
   simp only [T_ref04_Sample]
   exact Gives.now trivial
 · have h := hx.smp.rd s
   rw [w64_id (by omega) (by omega)]
   exact Gives.neg (by simp; omega) (Gives.now ⟨⟨by omega, by omega⟩, by omega⟩)
theorem r12_two {x y : List Int} (hx : Win x) (hy : Win y) (hl : x.length = y.length) : Gives (fun k => T_ref12_Two k x y 0) (fun r => r = 0) := by
 have x1 := hx.lo
 have x2 := hx.hi
 refine Gives.step ?_
 simp only [T_ref12_Two]
 refine Gives.neg (by simp; omega) (Gives.bind (Q := fun b => b = false) ?_ fun b hb => ?_)
 · exact Gives.bind (r12_samples hx) fun r hr => Gives.neg (by simp [hr]) (Gives.bind (r12_samples hy) fun r hr => Gives.now (by simp [hr]))
 · subst hb
   rw [← hl, Int.sub_self, w64_id (x := 0) (by omega) (by omega)]
   exact Gives.neg (by simp) (Gives.neg (by simp) (Gives.now rfl))

/-! The errors of chapter 12. -/
theorem r12_samplesG {x : List Int} (hl : x.length ≤ 1000) : Gives (fun k => T_ref12_Samples k x) (fun r => r = if smpB x = true then 0 else 12) := by
 refine Gives.step ?_
 simp only [T_ref12_Samples]
 refine Gives.bind (Q := fun r => (r = .inl () ∧ smpB x = true) ∨ (r = .inr () ∧ smpB x = false)) ?_ fun r hr => ?_
 · refine Gives.loop (fun s => 0 ≤ s ∧ s ≤ (x.length : Int) ∧ ∀ q, 0 ≤ q → q < s → -1000 ≤ rd x q ∧ rd x q ≤ 1000) (fun s => ((x.length : Int) - s).toNat) ?_ ⟨by omega, by omega, fun q h1 h2 => by omega⟩
   intro s ⟨i1, i2, i3⟩
   unfold T_ref12_Samples_l1
   refine Gives.ite (fun c => Gives.opt (at_rd i1 c) (Gives.bind (Q := fun _ => True) ?_ fun _ _ => Gives.ite (fun b => Gives.now (.inr ⟨rfl, ?_⟩)) fun b => ?_)) fun c => Gives.now (.inl ⟨rfl, smpB_iff.2 (smp_of_rd fun q h1 h2 => i3 q h1 (by omega))⟩)
   · refine Gives.step ?_
     simp only [T_ref04_Sample]
     exact Gives.now trivial
   · rcases e : smpB x with _ | _
     · rfl
     · have := (smpB_iff.1 e).rd s
       simp at b
       omega
   · simp at b
     rw [w64_id (by omega) (by omega)]
     refine Gives.now ⟨⟨by omega, by omega, fun q h1 h2 => ?_⟩, by omega⟩
     by_cases e : q = s
     · subst e; omega
     · exact i3 q h1 (by omega)
 · rcases hr with ⟨rfl, h⟩ | ⟨rfl, h⟩
   · exact Gives.now (by rw [h]; rfl)
   · exact Gives.now (by rw [h]; rfl)
theorem r12_windowG {x : List Int} (hl : x.length ≤ 1000) : Gives (fun k => T_ref12_Window k x) (fun r => r = errM x x 0) := by
 refine Gives.step ?_
 simp only [T_ref12_Window]
 refine Gives.ite (fun c => Gives.now ?_) fun c => Gives.bind (r12_samplesG hl) fun r hr => Gives.now ?_
 · unfold errM
   rw [if_neg (by simp [lenB] at c ⊢; omega)]
 · unfold errM
   rw [if_pos (by simp [lenB] at c ⊢; omega), hr, Bool.and_self]
   split
   · rw [if_pos (by omega)]
   · rfl
/-! Chapter 18 of the document. -/
theorem f18_starts {m n : Nat} (hm : 2 ≤ m) (hm2 : m ≤ 32) (hn : 1 ≤ n) (hn2 : n ≤ 8) (hn3 : n ≤ m) : Gives (fun k => T_ref18_Starts k m n) (fun r => r.2 = 0 ∧ r.1.length = n + 1 ∧ ∀ p, 0 ≤ p → p ≤ (n : Int) → rd r.1 p = cut m n p) := by
 refine Gives.step ?_
 simp only [T_ref18_Starts]
 refine Gives.neg (by simp; omega) (Gives.neg (by simp; omega) (Gives.bind (Q := fun r => r.2.length = r.1 ∧ r.1 = n + 1 ∧ ∀ p, 0 ≤ p → p ≤ (n : Int) → rd r.2 p = cut m n p) ?_ fun r hr => ?_))
 · refine Gives.loop (fun s => 0 ≤ s.2.1 ∧ s.2.1 ≤ (n : Int) + 1 ∧ (s.1 : Int) = s.2.1 ∧ s.2.2.length = s.1 ∧ ∀ p, 0 ≤ p → p < s.2.1 → rd s.2.2 p = cut m n p) (fun s => ((n : Int) + 1 - s.2.1).toNat) ?_ ⟨by simp only []; omega, by simp only []; omega, rfl, rfl, fun p h1 h2 => by simp only at h2; omega⟩
   intro ⟨l, i, o⟩ ⟨i0, i1, i2, i3, i4⟩
   simp only at i0 i1 i2 i3 i4
   unfold T_ref18_Starts_l1
   simp only []
   refine Gives.ite (fun c => Gives.pos (by omega) (Gives.pos (by unfold LIM; omega) ?_)) fun c => Gives.now ⟨i3, by simp only []; omega, fun p h1 h2 => i4 p h1 (by omega)⟩
   rw [cut_w (m := (m : Int)) (n := (n : Int)) (p := i) (by omega) (by omega) (by omega) (by omega) i0 c, w64_id (x := i + 1) (by omega) (by omega), drop_take_len i3]
   refine Gives.now ⟨⟨by simp only []; omega, by simp only []; omega, by simp only []; omega, by simp [i3], fun p h1 h2 => ?_⟩, by simp only []; omega⟩
   simp only at h2 ⊢
   by_cases e : p = i
   · subst e; rw [rd_app_1 h1 (by omega)]
   · rw [rd_app_l (by omega)]; exact i4 p h1 (by omega)
 · rw [drop_take_len hr.1]
   exact Gives.now ⟨rfl, by rw [hr.1]; exact hr.2.1, hr.2.2⟩
/-! Chapter 18 of the document: centred sums, and all errors. -/
theorem f18_foldB {x S : List Int} {n : Nat} (x2 : x.length ≤ 32) (hb : ∀ i, 0 ≤ i → i ≤ (x.length : Int) → -4096000 ≤ psum x i ∧ psum x i ≤ 4096000) (hr : ∀ i, -128000 ≤ rd x i ∧ rd x i ≤ 128000) (hn : 1 ≤ n) (hn2 : n ≤ 8) (hS : S.length = n + 1) (hv : ∀ p, 0 ≤ p → p ≤ (n : Int) → rd S p = cut x.length n p) : Gives (fun k => T_ref18_Fold k x S) (fun r => r.length = n ∧ ∀ p, 0 ≤ p → p < (n : Int) → rd r p = pcs x n p) := by
 refine Gives.step ?_
 simp only [T_ref18_Fold]
 refine Gives.bind (Q := fun r => r.2.length = r.1 ∧ r.1 = n ∧ ∀ p, 0 ≤ p → p < (n : Int) → rd r.2 p = pcs x n p) ?_ fun r hr => ?_
 · refine Gives.loop (fun s => 1 ≤ s.2.1 ∧ s.2.1 ≤ (n : Int) + 1 ∧ (s.1 : Int) = s.2.1 - 1 ∧ s.2.2.length = s.1 ∧ ∀ p, 0 ≤ p → p < s.2.1 - 1 → rd s.2.2 p = pcs x n p) (fun s => ((n : Int) + 1 - s.2.1).toNat) ?_ ⟨by simp only []; omega, by simp only []; omega, rfl, rfl, fun p h1 h2 => by simp only at h2; omega⟩
   intro ⟨l, i, o⟩ ⟨i0, i1, i2, i3, i4⟩
   simp only at i0 i1 i2 i3 i4
   unfold T_ref18_Fold_l2
   simp only []
   rw [hS, w64_id (x := i - 1) (by omega) (by omega)]
   refine Gives.ite (fun c => Gives.opt (at_rd (by omega) (by omega)) ?_) fun c => Gives.now ⟨i3, by simp only []; omega, fun p h1 h2 => i4 p h1 (by omega)⟩
   have k1 := cut_range (m := (x.length : Int)) (n := (n : Int)) (p := i - 1) (by omega) (by omega) (by omega) (by omega)
   have k2 := cut_range (m := (x.length : Int)) (n := (n : Int)) (p := i) (by omega) (by omega) (by omega) (by omega)
   have k3 := cut_mono (m := (x.length : Int)) (n := (n : Int)) (p := i - 1) (q := i) (by omega) (by omega) (by omega)
   have s1 := hv (i - 1) (by omega) (by omega)
   have s2 := hv i (by omega) (by omega)
   have b1 := hb (cut x.length n (i - 1)) k1.1 k1.2
   rw [s1]
   refine Gives.bind (Q := fun r => r = pcs x n (i - 1)) ?_ fun r hr => ?_
   · refine Gives.loop (fun t => cut x.length n (i - 1) ≤ t.2 ∧ t.2 ≤ cut x.length n i ∧ t.1 = psum x t.2 - psum x (cut x.length n (i - 1))) (fun t => (cut x.length n i - t.2).toNat) ?_ ⟨by simp only []; omega, by simp only []; omega, by simp only []; omega⟩
     intro ⟨a, j⟩ ⟨j0, j1, j2⟩
     simp only at j0 j1 j2
     unfold T_ref18_Fold_l1
     simp only []
     refine Gives.opt (at_rd (by omega) (by omega)) ?_
     rw [s2]
     refine Gives.ite (fun cc => Gives.opt (at_rd (by omega) (by omega)) ?_) fun cc => Gives.now ?_
     · have ex := psum_succ (x := x) (i := j) (by omega) (by omega)
       have bj := hb j (by omega) (by omega)
       have sj := hr j
       rw [w64_id (x := a + rd x j) (by omega) (by omega), w64_id (x := j + 1) (by omega) (by omega)]
       exact Gives.now ⟨⟨by simp only []; omega, by simp only []; omega, by simp only []; omega⟩, by simp only []; omega⟩
     · have : j = cut x.length n i := by omega
       subst this
       unfold pcs
       rw [j2, show i - 1 + 1 = i by omega]
   subst hr
   rw [w64_id (x := i + 1) (by omega) (by omega), drop_take_len i3]
   refine Gives.pos (by unfold LIM; omega) (Gives.now ⟨⟨by simp only []; omega, by simp only []; omega, by simp only []; omega, by simp [i3], fun p h1 h2 => ?_⟩, by simp only []; omega⟩)
   simp only at h2 ⊢
   by_cases e : p = i - 1
   · rw [rd_app_1 h1 (by omega), e]
   · rw [rd_app_l (by omega)]; exact i4 p h1 (by omega)
 · rw [drop_take_len hr.1]
   exact Gives.now ⟨by rw [hr.1]; exact hr.2.1, hr.2.2⟩
/-- The centred samples. -/
def Cent (x c : List Int) : Prop := c.length = x.length ∧ ∀ i, 0 ≤ i → i < (x.length : Int) → rd c i = (x.length : Int) * rd x i - x.sum
theorem cent_psum {x c : List Int} (h : Cent x c) : ∀ n : Nat, n ≤ x.length → psum c n = (x.length : Int) * psum x n - n * x.sum
 | 0, _ => by
  have a := psum_zero c
  have b := psum_zero x
  simp only [Int.natCast_zero] at *
  rw [a, b]; simp
 | n + 1, hn => by
  have ih := cent_psum h n (by omega)
  have e1 := psum_succ (x := c) (i := n) (by omega) (by rw [h.1]; omega)
  have e2 := psum_succ (x := x) (i := n) (by omega) (by omega)
  have e3 := h.2 n (by omega) (by omega)
  rw [Int.natCast_add, Int.natCast_one, e1, e2, e3, ih]
  grind
theorem cent_pcs {x c : List Int} {n p : Int} (h : Cent x c) (hn : 1 ≤ n) (h0 : 0 ≤ p) (h1 : p < n) : pcs c n p = pcc x n p := by
 have k1 := cut_range (m := (x.length : Int)) hn (by omega) h0 (by omega)
 have k2 := cut_range (m := (x.length : Int)) (p := p + 1) hn (by omega) (by omega) (by omega)
 have q : ∀ i : Int, 0 ≤ i → i ≤ (x.length : Int) → psum c i = (x.length : Int) * psum x i - i * x.sum := fun i h0 h1 => by
  have := cent_psum h i.toNat (by omega)
  rwa [Int.toNat_of_nonneg h0] at this
 unfold pcc pcs
 rw [h.1, q _ k1.1 k1.2, q _ k2.1 k2.2]
 grind
theorem cent_bd {x c : List Int} (hx : Win x) (h : Cent x c) : (∀ i, 0 ≤ i → i ≤ (c.length : Int) → -4096000 ≤ psum c i ∧ psum c i ≤ 4096000) ∧ ∀ i, -128000 ≤ rd c i ∧ rd c i ≤ 128000 := by
 have x2 := hx.hi
 have b := pc_bounds hx (i := x.length) (by omega) (by omega)
 rw [psum_all] at b
 refine ⟨fun i h0 h1 => ?_, fun i => ?_⟩
 · have := cent_psum h i.toNat (by have := h.1; omega)
   rw [Int.toNat_of_nonneg h0] at this
   have p := pc_bounds hx (i := i) h0 (by have := h.1; omega)
   have e1 := prod_bound (a := (x.length : Int)) (b := psum x i) (A := 32) (B := 32000) (by omega) (by omega) (by omega) (by omega)
   have e2 := prod_bound (a := i) (b := x.sum) (A := 32) (B := 32000) (by omega) (by have := h.1; omega) (by omega) (by omega)
   omega
 · by_cases k : 0 ≤ i ∧ i < (x.length : Int)
   · rw [h.2 i k.1 k.2]
     have s := hx.smp.rd i
     have e1 := prod_bound (a := (x.length : Int)) (b := rd x i) (A := 32) (B := 1000) (by omega) (by omega) (by omega) (by omega)
     omega
   · by_cases k2 : i < 0
     · have e0 : rd c i = rd c 0 := by unfold rd; rw [show i.toNat = 0 by omega]; rfl
       have x1 := hx.lo
       rw [e0, h.2 0 (by omega) (by omega)]
       have s := hx.smp.rd 0
       have e1 := prod_bound (a := (x.length : Int)) (b := rd x 0) (A := 32) (B := 1000) (by omega) (by omega) (by omega) (by omega)
       omega
     · unfold rd
       rw [List.getD_eq_getElem?_getD, List.getElem?_eq_none (by have := h.1; omega)]
       simp
theorem rf_centred {x : List Int} (hx : Win x) : Gives (fun k => T_ref13_Centred k x) (fun r => r.2 = 0 ∧ Cent x r.1) := by
 have x1 := hx.lo
 have x2 := hx.hi
 have bs := pc_bounds hx (i := x.length) (by omega) (by omega)
 rw [psum_all] at bs
 refine Gives.step ?_
 simp only [T_ref13_Centred]
 refine Gives.bind (r12_windowG (x := x) (by omega)) fun e he => ?_
 rw [errM_win hx hx (by omega) (by omega)] at he
 subst he
 refine Gives.neg (by simp) (Gives.bind (Q := fun r => r = x.sum) ?_ fun s hs => Gives.bind (Q := fun r => r.2.length = r.1 ∧ r.1 = x.length ∧ ∀ p, 0 ≤ p → p < (x.length : Int) → rd r.2 p = (x.length : Int) * rd x p - x.sum) ?_ fun r hr => ?_)
 · refine Gives.loop (fun s => 0 ≤ s.2 ∧ s.2 ≤ (x.length : Int) ∧ s.1 = psum x s.2) (fun s => ((x.length : Int) - s.2).toNat) ?_ ⟨by simp only []; omega, by simp only []; omega, by simp only [psum_zero]⟩
   intro ⟨a, i⟩ ⟨i0, i1, i2⟩
   simp only at i0 i1 i2
   unfold T_ref13_Centred_l1
   simp only []
   refine Gives.ite (fun c => Gives.opt (at_rd i0 c) ?_) fun c => Gives.now ?_
   · have ex := psum_succ (x := x) (i := i) (by omega) (by omega)
     have bj := pc_bounds hx (i := i) (by omega) (by omega)
     have sj := hx.smp.rd i
     rw [w64_id (x := a + rd x i) (by omega) (by omega), w64_id (x := i + 1) (by omega) (by omega)]
     exact Gives.now ⟨⟨by simp only []; omega, by simp only []; omega, by simp only []; omega⟩, by simp only []; omega⟩
   · rw [i2, ← psum_all (x := x), show i = (x.length : Int) by omega]
 · subst hs
   refine Gives.loop (fun s => 0 ≤ s.2.1 ∧ s.2.1 ≤ (x.length : Int) ∧ (s.1 : Int) = s.2.1 ∧ s.2.2.length = s.1 ∧ ∀ p, 0 ≤ p → p < s.2.1 → rd s.2.2 p = (x.length : Int) * rd x p - x.sum) (fun s => ((x.length : Int) - s.2.1).toNat) ?_ ⟨by simp only []; omega, by simp only []; omega, rfl, rfl, fun p h1 h2 => by simp only at h2; omega⟩
   intro ⟨l, i, o⟩ ⟨i0, i1, i2, i3, i4⟩
   simp only at i0 i1 i2 i3 i4
   unfold T_ref13_Centred_l2
   simp only []
   refine Gives.ite (fun c => Gives.opt (at_rd i0 c) (Gives.pos (by unfold LIM; omega) ?_)) fun c => Gives.now ⟨i3, by simp only []; omega, fun p h1 h2 => i4 p h1 (by omega)⟩
   have sj := hx.smp.rd i
   have e1 := prod_bound (a := (x.length : Int)) (b := rd x i) (A := 32) (B := 1000) (by omega) (by omega) (by omega) (by omega)
   rw [w64_id (x := i + 1) (by omega) (by omega), w64_id (x := (x.length : Int) * rd x i) (by omega) (by omega), w64_id (x := (x.length : Int) * rd x i - x.sum) (by omega) (by omega), drop_take_len i3]
   refine Gives.now ⟨⟨by simp only []; omega, by simp only []; omega, by simp only []; omega, by simp [i3], fun p h1 h2 => ?_⟩, by simp only []; omega⟩
   simp only at h2 ⊢
   by_cases e : p = i
   · subst e; rw [rd_app_1 h1 (by omega)]
   · rw [rd_app_l (by omega)]; exact i4 p h1 (by omega)
 · rw [drop_take_len hr.1]
   exact Gives.now ⟨rfl, by rw [hr.1]; exact hr.2.1, hr.2.2⟩
/-- The error of a window's number of pieces. -/
def badN (m n : Int) : Prop := ¬ (1 ≤ n ∧ n ≤ 8 ∧ n ≤ m)
theorem f18_startsG {m n : Int} (h : m < 2 ∨ 32 < m ∨ badN m n) : Gives (fun k => T_ref18_Starts k m n) (fun r => r = ([], if m < 2 ∨ 32 < m then 8 else 1)) := by
 refine Gives.step ?_
 simp only [T_ref18_Starts]
 refine Gives.ite (fun c => Gives.now ?_) fun c => Gives.pos ?_ (Gives.now ?_)
 · rw [if_pos (by simpa using c)]
 · unfold badN at h; simp at c ⊢; omega
 · rw [if_neg (by simpa using c)]
theorem f18_centred {x : List Int} {n : Nat} (hx : Win x) (hn : 1 ≤ n) (hn2 : n ≤ 8) (hn3 : n ≤ x.length) : Gives (fun k => T_ref18_Centred k x n) (fun r => r.2 = 0 ∧ r.1.length = n ∧ ∀ p, 0 ≤ p → p < (n : Int) → rd r.1 p = pcc x n p) := by
 have x1 := hx.lo
 have x2 := hx.hi
 refine Gives.step ?_
 simp only [T_ref18_Centred]
 refine Gives.bind (rf_centred hx) fun c hc => Gives.neg (by simp [hc.1]) (Gives.bind (f18_starts (m := x.length) (n := n) x1 x2 hn hn2 hn3) fun S hS => Gives.neg (by simp [hS.1]) ?_)
 obtain ⟨c1, c2⟩ := hc
 have b := cent_bd hx c2
 refine Gives.bind (f18_foldB (by rw [c2.1]; exact x2) b.1 b.2 hn hn2 hS.2.1 (by rw [c2.1]; exact hS.2.2)) fun r hr => Gives.now ⟨rfl, hr.1, fun p h0 h1 => by rw [hr.2 p h0 h1, cent_pcs c2 (by omega) h0 h1]⟩
/-! Chapter 13 of the document. -/
theorem rf_product {x y : List Int} (hx : Win x) (hy : Win y) (hl : x.length = y.length) : Gives (fun k => T_ref13_product k x y) (· = prodP x y) := by
 have x2 := hx.hi
 refine Gives.step ?_
 simp only [T_ref13_product]
 have sx := pc_bounds hx (i := x.length) (by omega) (by omega)
 have sy := pc_bounds hy (i := y.length) (by omega) (by omega)
 rw [psum_all] at sx sy
 have gb : ∀ n : Nat, -(1000000 * (n : Int)) ≤ sg (fun i => rd x i * rd y i) n ∧ sg (fun i => rd x i * rd y i) n ≤ 1000000 * (n : Int) := fun n => sg_bound fun j h1 h2 => by
  have s1 := hx.smp.rd j
  have s2 := hy.smp.rd j
  have := prod_bound (a := rd x j) (b := rd y j) (A := 1000) (B := 1000) s1.1 s1.2 s2.1 s2.2
  omega
 refine Gives.bind (Q := fun r => r.1 = sg (fun i => rd x i * rd y i) x.length ∧ r.2.1 = x.sum ∧ r.2.2 = y.sum) ?_ fun r hr => ?_
 · refine Gives.loop (fun s => 0 ≤ s.2.2.2 ∧ s.2.2.2 ≤ (x.length : Int) ∧ s.1 = sg (fun i => rd x i * rd y i) s.2.2.2.toNat ∧ s.2.1 = psum x s.2.2.2 ∧ s.2.2.1 = psum y s.2.2.2) (fun s => ((x.length : Int) - s.2.2.2).toNat) ?_ ⟨by simp only []; omega, by simp only []; omega, rfl, (psum_zero _).symm, (psum_zero _).symm⟩
   intro ⟨a, b, c, i⟩ ⟨i1, i2, i3, i4, i5⟩
   simp only at i1 i2 i3 i4 i5
   unfold T_ref13_product_l1
   simp only []
   refine Gives.ite (fun cc => Gives.opt (at_rd i1 cc) (Gives.opt (at_rd i1 (by omega)) ?_)) fun cc => Gives.now ?_
   · have e2 := psum_succ (x := x) i1 cc
     have e3 := psum_succ (x := y) i1 (by omega)
     have b2 := pc_bounds hx i1 (by omega)
     have b3 := pc_bounds hy i1 (by omega)
     have s1 := hx.smp.rd i
     have s2 := hy.smp.rd i
     have b4 := prod_bound (a := rd x i) (b := rd y i) (A := 1000) (B := 1000) s1.1 s1.2 s2.1 s2.2
     have g := gb i.toNat
     rw [← i3] at g
     rw [w64_id (x := rd x i * rd y i) (by omega) (by omega), w64_id (x := a + rd x i * rd y i) (by omega) (by omega), w64_id (x := b + rd x i) (by omega) (by omega), w64_id (x := c + rd y i) (by omega) (by omega), w64_id (x := i + 1) (by omega) (by omega)]
     refine Gives.now ⟨⟨by simp only []; omega, by simp only []; omega, ?_, by simp only []; omega, by simp only []; omega⟩, by simp only []; omega⟩
     simp only []
     rw [show (i + 1).toNat = i.toNat + 1 by omega, sg, ← i3, Int.toNat_of_nonneg i1]
   · have e : i = x.length := by omega
     subst e
     refine ⟨by rw [i3]; rfl, i4.trans psum_all, i5.trans ?_⟩
     rw [hl]; exact psum_all
 · obtain ⟨r1, r2, r3⟩ := hr
   have g := gb x.length
   rw [r1, r2, r3]
   have q1 := prod_bound (a := (x.length : Int)) (b := sg (fun i => rd x i * rd y i) x.length) (A := 32) (B := 32000000) (by omega) (by omega) (by omega) (by omega)
   have q2 := prod_bound (a := x.sum) (b := y.sum) (A := 32000) (B := 32000) (by omega) (by omega) (by omega) (by omega)
   rw [w64_id (x := (x.length : Int) * sg (fun i => rd x i * rd y i) x.length) (by omega) (by omega), w64_id (x := x.sum * y.sum) (by omega) (by omega), w64_id (by omega) (by omega)]
   exact Gives.now rfl
theorem rf_Product {x y : List Int} (hx : Win x) (hy : Win y) (hl : x.length = y.length) : Gives (fun n => T_ref13_Product n x y) (fun r => r.1 = prodP x y ∧ r.2 = 0) := by
 refine Gives.step ?_
 simp only [T_ref13_Product]
 refine Gives.bind (r12_two hx hy hl) fun v hv => ?_
 subst hv
 exact Gives.neg (by simp) (Gives.bind (rf_product hx hy hl) fun r hr => Gives.now ⟨hr, rfl⟩)

/-! Chapter 18 for windows of any kind. -/
/-- The first error of a window and a number of pieces. -/
def errN (x : List Int) (n : Int) : Int := if errM x x 0 = 0 then if 1 ≤ n ∧ n ≤ 8 ∧ n ≤ (x.length : Int) then 0 else 1 else errM x x 0
theorem errN_zero {x : List Int} {n : Int} (h : errN x n = 0) : Win x ∧ 1 ≤ n ∧ n ≤ 8 ∧ n ≤ (x.length : Int) := by
 unfold errN at h
 split at h
 · rename_i h1
   split at h
   · rename_i h2
     exact ⟨(errM_zero h1).1, h2⟩
   · cases h
 · rename_i h1
   exact absurd h h1
theorem pc_checkG {x : List Int} {n : Int} (hl : x.length ≤ 1000) : Gives (fun k => T_pieces_check k x n) (fun r => r = errN x n) := by
 refine Gives.step ?_
 simp only [T_pieces_check]
 refine Gives.bind (eu_distanceG hl hl) fun e he => Gives.ite (fun c => Gives.now ?_) fun c => Gives.bind (pc_number _ _) fun _ _ => Gives.ite (fun d => Gives.now ?_) fun d => Gives.now ?_
 · rw [he] at c ⊢
   unfold errN
   rw [if_neg (by simpa using c)]
 · rw [he] at c
   unfold errN
   rw [if_pos (by simpa using c), if_neg (by simp at d; omega)]
 · rw [he] at c
   unfold errN
   rw [if_pos (by simpa using c), if_pos (by simp at d; omega)]
theorem pc_centredG {x : List Int} {n : Int} (hl : x.length ≤ 1000) (h : errN x n ≠ 0) : Gives (fun k => T_pieces_Centred k x n) (fun r => r = ([], errN x n)) := by
 refine Gives.step ?_
 simp only [T_pieces_Centred]
 refine Gives.bind (pc_checkG hl) fun e he => ?_
 subst he
 exact Gives.pos (by simpa using h) (Gives.now rfl)
theorem f18_centredG {x : List Int} {n : Int} (hl : x.length ≤ 1000) (h : errN x n ≠ 0) : Gives (fun k => T_ref18_Centred k x n) (fun r => r = ([], errN x n)) := by
 refine Gives.step ?_
 simp only [T_ref18_Centred]
 by_cases e0 : errM x x 0 = 0
 · have w := (errM_zero e0).1
   have w1 := w.lo
   have w2 := w.hi
   unfold errN at h ⊢
   rw [if_pos e0] at h ⊢
   have hb : ¬ (1 ≤ n ∧ n ≤ 8 ∧ n ≤ (x.length : Int)) := fun hc => h (if_pos hc)
   rw [if_neg hb]
   refine Gives.bind (rf_centred w) fun c hc => Gives.neg (by simp [hc.1]) (Gives.bind (f18_startsG (m := (x.length : Int)) (n := n) (.inr (.inr hb))) fun r hr => ?_)
   rw [if_neg (by omega)] at hr
   subst hr
   exact Gives.pos (by simp) (Gives.now rfl)
 · refine Gives.bind (Q := fun r => r = ([], errM x x 0)) ?_ fun r hr => ?_
   · refine Gives.step ?_
     simp only [T_ref13_Centred]
     refine Gives.bind (r12_windowG hl) fun e he => ?_
     subst he
     exact Gives.pos (by simpa using e0) (Gives.now rfl)
   · subst hr
     refine Gives.pos (by simpa using e0) (Gives.now ?_)
     unfold errN
     rw [if_neg e0]
/-! Roots and quotients by roots. -/
theorem rt_floorG {v : Int} (h0 : 0 ≤ v) (h1 : v ≤ 4611686018427387904) : Gives (fun k => T_root_Floor k v) (fun r => 0 ≤ r ∧ r ≤ 2147483648 ∧ r * r ≤ v ∧ v < (r + 1) * (r + 1)) := by
 have small : ∀ r : Int, 0 ≤ r → r * r ≤ v → r ≤ 2147483648 := fun r r0 r1 => by
  refine Decidable.byContradiction fun hn => ?_
  have := Int.mul_le_mul (a := 2147483649) (b := 2147483649) (c := r) (d := r) (by omega) (by omega) (by omega) (by omega)
  omega
 refine Gives.step ?_
 simp only [T_root_Floor]
 refine Gives.neg (by simp; omega) (Gives.bind (Q := fun r => 0 ≤ r ∧ r ≤ 2147483648 ∧ r * r ≤ v ∧ v < (r + 1) * (r + 1)) ?_ fun r hr => Gives.now hr)
 refine Gives.loop (fun s => ∃ k : Nat, s.2 = ((2 ^ k / 2 : Nat) : Int) ∧ k ≤ 32 ∧ 0 ≤ s.1 ∧ s.1 + ((2 ^ k : Nat) : Int) ≤ 4294967296 ∧ (k = 32 ∨ s.1 + ((2 ^ k : Nat) : Int) ≤ 2147483648) ∧ s.1 * s.1 ≤ v ∧ v < (s.1 + (2 ^ k : Nat)) * (s.1 + (2 ^ k : Nat))) (fun s => s.2.toNat) ?_ ⟨32, by decide, by omega, by simp only []; omega, by simp only []; omega, .inl rfl, by simp only []; omega, by simp only []; omega⟩
 intro ⟨r, b⟩ ⟨k, e, hk, r0, rb, rc, r1, r2⟩
 simp only at e r0 rb rc r1 r2
 have rs := small r r0 r1
 unfold T_root_Floor_l1
 simp only []
 cases k with
 | zero =>
  simp at e
  subst e
  refine Gives.neg (by omega) (Gives.now ⟨r0, rs, r1, by simpa using r2⟩)
 | succ k =>
  have p : 2 ^ (k + 1) = 2 * 2 ^ k := by rw [Nat.pow_succ, Nat.mul_comm]
  have p0 : 0 < 2 ^ k := Nat.pow_pos (by omega)
  have p1 : 2 ^ k ≤ 2 ^ 31 := Nat.pow_le_pow_right (by omega) (by omega)
  rw [p] at e r2 rb rc
  have pk : k + 1 = 32 → 2 ^ k = 2147483648 := fun h => by rw [show k = 31 by omega]
  obtain ⟨w, hw⟩ : ∃ w, 2 ^ k = w := ⟨_, rfl⟩
  rw [hw] at e r2 p0 p1 rb rc pk
  have e2 : b = w := by rw [e]; omega
  subst e2
  have rw1 : r + w ≤ 2147483648 := by
   rcases rc with rc | rc
   · have := pk rc; omega
   · omega
  have q := prod_bound (a := r + w) (b := r + w) (A := 2147483648) (B := 2147483648) (by omega) (by omega) (by omega) (by omega)
  rw [w64_id (x := r + w) (by omega) (by omega), w64_id (x := (r + w) * (r + w)) (by omega) (by omega)]
  refine Gives.pos (by omega) (Gives.ite (fun c => Gives.now ?_) fun c => ?_)
  · have : (r + w + 1) * (r + w + 1) = (r + w) * (r + w) + (r + w) + (r + w) + 1 := by grind
    exact ⟨by omega, small _ (by omega) (by omega), by omega, by omega⟩
  · have ed : (w : Int).fdiv (2 ^ 1) = ((w / 2 : Nat) : Int) := by
     rw [Int.fdiv_eq_ediv_of_nonneg _ (by omega)]; rfl
    rw [ed]
    have nk : k = 31 → v < (r + w) * (r + w) → r + w ≤ 2147483648 := fun _ _ => rw1
    refine Gives.bind (Q := fun (t : Int) => 0 ≤ t ∧ t + (w : Int) ≤ 2147483648 ∧ t * t ≤ v ∧ v < (t + (w : Int)) * (t + (w : Int))) ?_ fun t ht => Gives.now ?_
    · refine Gives.ite (fun c2 => Gives.now ⟨by omega, ?_, by omega, ?_⟩) fun c2 => Gives.now ⟨r0, rw1, r1, by omega⟩
      · rcases rc with rc | rc
        · exfalso
          have h31 := pk rc
          have : r = 0 := by omega
          subst this
          have e4 : ((w : Int)) = 2147483648 := by omega
          rw [e4] at c c2
          omega
        · omega
      · have : r + w + (w : Int) = r + ((2 * w : Nat) : Int) := by omega
        rw [this]; exact r2
    · refine ⟨⟨k, by rw [hw], by omega, ht.1, by rw [hw]; have := ht.2.1; omega, .inr (by rw [hw]; exact ht.2.1), ht.2.2.1, by rw [hw]; exact ht.2.2.2⟩, ?_⟩
      simp only []
      omega
theorem rf_ok {v : Int} (h : 0 ≤ v ∧ v ≤ 4611686018427387904) : ∃ r, Gives (fun k => T_root_Floor k v) (· = r) ∧ 0 ≤ r ∧ r ≤ 2147483648 ∧ r * r ≤ v ∧ v < (r + 1) * (r + 1) := by
 obtain ⟨r, ⟨K, hK⟩, hr⟩ := rt_floorG h.1 h.2
 exact ⟨r, ⟨r, ⟨K, hK⟩, rfl⟩, hr⟩
/-- The root, rounded down. -/
noncomputable def rtf (v : Int) : Int := if h : 0 ≤ v ∧ v ≤ 4611686018427387904 then Classical.choose (rf_ok h) else 0
theorem rt_rtf {v : Int} (h0 : 0 ≤ v) (h1 : v ≤ 4611686018427387904) : Gives (fun k => T_root_Floor k v) (· = rtf v) ∧ 0 ≤ rtf v ∧ rtf v ≤ 2147483648 ∧ rtf v * rtf v ≤ v ∧ v < (rtf v + 1) * (rtf v + 1) := by
 unfold rtf
 rw [dif_pos ⟨h0, h1⟩]
 exact Classical.choose_spec (rf_ok ⟨h0, h1⟩)
/-- What Quotient answers. -/
noncomputable def QQ (t e : Int) : Int := if 0 ≤ t then rtf (t * t / e) else -(if rtf (t * t / e) * rtf (t * t / e) * e < t * t then rtf (t * t / e) + 1 else rtf (t * t / e))
theorem rq {t e : Int} (h : -2147483648 ≤ t ∧ t ≤ 2147483648 ∧ 1 ≤ e ∧ e ≤ 4611686018427387904) : Gives (fun k => T_root_Quotient k t e) (fun r => r = (QQ t e, 0)) ∧ -2147483649 ≤ QQ t e ∧ QQ t e ≤ 2147483649 := by
 obtain ⟨t0, t1, e0, e1⟩ := h
 have z := sq_nonneg t
 have q := prod_bound (a := t) (b := t) (A := 2147483648) (B := 2147483648) t0 t1 t0 t1
 have v0 : 0 ≤ t * t / e := Int.ediv_nonneg z (by omega)
 have v1 : t * t / e ≤ t * t := Int.ediv_le_self _ z
 have v2 := Int.mul_ediv_self_le (x := t * t) (k := e) (by omega)
 obtain ⟨g, r0, r1, r2, r3⟩ := rt_rtf v0 (by omega)
 unfold QQ
 generalize rtf (t * t / e) = r at *
 have rr := sq_nonneg r
 have m : r * r * e ≤ t * t / e * e := Int.mul_le_mul_of_nonneg_right r2 (by omega)
 have m0 := Int.mul_nonneg rr (show 0 ≤ e by omega)
 rw [Int.mul_comm (t * t / e) e] at m
 refine ⟨?_, ?_⟩
 · refine Gives.step ?_
   simp only [T_root_Quotient]
   refine Gives.neg (by simp; omega) (Gives.pos (by omega) ?_)
   rw [w64_id (x := t * t) (by omega) (by omega), Int.tdiv_eq_ediv_of_nonneg z, w64_id (x := t * t / e) (by omega) (by omega)]
   refine Gives.bind g fun r' hr' => ?_
   subst hr'
   refine Gives.ite (fun c => Gives.now (by rw [if_pos c])) fun c => ?_
   rw [if_neg c, w64_id (x := r' * r') (by omega) (by omega), w64_id (x := r' * r' * e) (by omega) (by omega), w64_id (x := r' + 1) (by omega) (by omega)]
   refine Gives.bind (Q := fun u => u = if r' * r' * e < t * t then r' + 1 else r') (Gives.ite (fun d => Gives.now (by rw [if_pos d])) fun d => Gives.now (by rw [if_neg d])) fun u hu => Gives.now ?_
   have ub : 0 ≤ u ∧ u ≤ 2147483649 := by
    rw [hu]
    split <;> omega
   rw [w64_id (x := 0 - u) (by omega) (by omega), ← hu, Int.zero_sub]
 · split
   · omega
   · split <;> omega

/-! Chapters 2 and 4 of the document. -/
theorem rtf_uniq {v r : Int} (h0 : 0 ≤ v) (h1 : v ≤ 4611686018427387904) (r0 : 0 ≤ r) (r1 : r * r ≤ v) (r2 : v < (r + 1) * (r + 1)) : r = rtf v := by
 obtain ⟨_, a0, _, a1, a2⟩ := rt_rtf h0 h1
 generalize rtf v = s at *
 rcases Int.lt_trichotomy r s with c | c | c
 · have := Int.mul_le_mul (a := r + 1) (b := r + 1) (c := s) (d := s) (by omega) (by omega) (by omega) (by omega)
   omega
 · exact c
 · have := Int.mul_le_mul (a := s + 1) (b := s + 1) (c := r) (d := r) (by omega) (by omega) (by omega) (by omega)
   omega
theorem r02_floor {v : Int} (h0 : 0 ≤ v) (h1 : v ≤ 4611686018427387904) : Gives (fun k => T_ref02_Floor k v) (fun r => r = rtf v) := by
 have small : ∀ r : Int, 0 ≤ r → r * r ≤ v → r ≤ 2147483648 := fun r r0 r1 => by
  refine Decidable.byContradiction fun hn => ?_
  have := Int.mul_le_mul (a := 2147483649) (b := 2147483649) (c := r) (d := r) (by omega) (by omega) (by omega) (by omega)
  omega
 refine Gives.step ?_
 simp only [T_ref02_Floor]
 refine Gives.neg (by simp; omega) (Gives.bind (Q := fun r => r = rtf v) ?_ fun r hr => Gives.now hr)
 refine Gives.loop (fun s => ∃ k : Nat, s.2 = ((2 ^ k / 2 : Nat) : Int) ∧ k ≤ 32 ∧ 0 ≤ s.1 ∧ s.1 * s.1 ≤ v ∧ v < (s.1 + ((2 ^ k : Nat) : Int)) * (s.1 + ((2 ^ k : Nat) : Int))) (fun s => s.2.toNat) ?_ ⟨32, by decide, by omega, by simp only []; omega, by simp only []; omega, by simp only []; omega⟩
 intro ⟨r, b⟩ ⟨k, e, hk, r0, r1, r2⟩
 simp only at e r0 r1 r2
 have rs := small r r0 r1
 unfold T_ref02_Floor_l1
 simp only []
 cases k with
 | zero =>
  simp at e
  subst e
  refine Gives.neg (by omega) (Gives.now (rtf_uniq h0 h1 r0 r1 (by simpa using r2)))
 | succ k =>
  have p : 2 ^ (k + 1) = 2 * 2 ^ k := by rw [Nat.pow_succ, Nat.mul_comm]
  have p0 : 0 < 2 ^ k := Nat.pow_pos (by omega)
  have p1 : 2 ^ k ≤ 2 ^ 31 := Nat.pow_le_pow_right (by omega) (by omega)
  rw [p] at e r2
  obtain ⟨w, hw⟩ : ∃ w, 2 ^ k = w := ⟨_, rfl⟩
  rw [hw] at e r2 p0 p1
  have e2 : b = w := by rw [e]; omega
  subst e2
  rw [w64_id (x := r + w) (by omega) (by omega)]
  have ed : (w : Int).fdiv (2 ^ 1) = ((w / 2 : Nat) : Int) := by
   rw [Int.fdiv_eq_ediv_of_nonneg _ (by omega)]; rfl
  rw [ed]
  refine Gives.pos (by omega) (Gives.bind (Q := fun (t : Int) => 0 ≤ t ∧ t * t ≤ v ∧ v < (t + (w : Int)) * (t + (w : Int))) ?_ fun t ht => Gives.now ⟨⟨k, by rw [hw], by omega, ht.1, ht.2.1, by rw [hw]; exact ht.2.2⟩, by simp only []; omega⟩)
  have e3 : r + w + (w : Int) = r + ((2 * w : Nat) : Int) := by omega
  by_cases c : r + w ≤ 2147483648
  · have q := prod_bound (a := r + w) (b := r + w) (A := 2147483648) (B := 2147483648) (by omega) (by omega) (by omega) (by omega)
    rw [w64_id (x := (r + w) * (r + w)) (by omega) (by omega)]
    refine Gives.ite (fun d => Gives.now ⟨by omega, ?_, by rw [e3]; exact r2⟩) fun d => Gives.now ⟨r0, r1, ?_⟩
    · simp at d; omega
    · simp at d; omega
  · refine Gives.neg (by simp [c]) (Gives.now ⟨r0, r1, ?_⟩)
    have := Int.mul_le_mul (a := 2147483649) (b := 2147483649) (c := r + w) (d := r + w) (by omega) (by omega) (by omega) (by omega)
    omega
theorem r02_quotient {t e : Int} (h : -1073741824 ≤ t ∧ t ≤ 1073741824 ∧ 1 ≤ e ∧ e ≤ 4611686018427387904) : Gives (fun k => T_ref02_Quotient k t e) (fun r => r = (QQ t e, 0)) := by
 obtain ⟨t0, t1, e0, e1⟩ := h
 have z := sq_nonneg t
 have q := prod_bound (a := t) (b := t) (A := 1073741824) (B := 1073741824) t0 t1 t0 t1
 have v0 : 0 ≤ t * t / e := Int.ediv_nonneg z (by omega)
 have v1 : t * t / e ≤ t * t := Int.ediv_le_self _ z
 have v2 := Int.mul_ediv_self_le (x := t * t) (k := e) (by omega)
 have v3 := Int.mul_ediv_add_emod (t * t) e
 have v4 := Int.emod_nonneg (t * t) (show e ≠ 0 by omega)
 obtain ⟨_, r0, r1, r2, r3⟩ := rt_rtf v0 (by omega)
 refine Gives.step ?_
 simp only [T_ref02_Quotient]
 rw [w64_id (x := t * t) (by omega) (by omega), Int.tdiv_eq_ediv_of_nonneg z, Int.tmod_eq_emod_of_nonneg z, w64_id (x := t * t / e) (by omega) (by omega), w64_id (x := t * t / e + 1) (by omega) (by omega)]
 unfold QQ
 refine Gives.neg (by simp; omega) (Gives.pos (by omega) (Gives.ite (fun c => ?_) fun c => ?_))
 · rw [if_pos c]
   exact Gives.bind (r02_floor v0 (by omega)) fun r hr => Gives.now (by rw [hr])
 · rw [if_neg c]
   have rr := sq_nonneg (rtf (t * t / e))
   have m : rtf (t * t / e) * rtf (t * t / e) * e ≤ t * t / e * e := Int.mul_le_mul_of_nonneg_right r2 (by omega)
   rw [Int.mul_comm (t * t / e) e] at m
   refine Gives.pos (by omega) (Gives.bind (Q := fun c => c = if t * t % e = 0 then t * t / e else t * t / e + 1) (Gives.ite (fun d => Gives.now ?_) fun d => Gives.now ?_) fun u hu => ?_)
   · rw [if_neg (by simpa using d)]
   · rw [if_pos (by simpa using d)]
   · refine Gives.bind (Q := fun r => r = if rtf (t * t / e) * rtf (t * t / e) * e < t * t then rtf (t * t / e) + 1 else rtf (t * t / e)) ?_ fun r hr => ?_
     · have ub : 0 ≤ u ∧ u ≤ 4611686018427387904 := by rw [hu]; split <;> omega
       refine Gives.step ?_
       simp only [T_ref02_Ceil]
       refine Gives.bind (r02_floor ub.1 ub.2) fun f hf => ?_
       obtain ⟨_, f0, f1, f2, f3⟩ := rt_rtf ub.1 ub.2
       rw [← hf] at f0 f1 f2 f3
       have ff := sq_nonneg f
       rw [w64_id (x := f * f) (by omega) (by omega), w64_id (x := f + 1) (by omega) (by omega)]
       generalize hv : t * t / e = v at *
       generalize rtf v = r at *
       by_cases d : t * t % e = 0
       · rw [if_pos d] at hu
         subst hu
         have fr : f = r := by
          rcases Int.lt_trichotomy f r with c | c | c
          · have := Int.mul_le_mul (a := f + 1) (b := f + 1) (c := r) (d := r) (by omega) (by omega) (by omega) (by omega)
            omega
          · exact c
          · have := Int.mul_le_mul (a := r + 1) (b := r + 1) (c := f) (d := f) (by omega) (by omega) (by omega) (by omega)
            omega
         subst fr
         have ve : e * u = t * t := by omega
         have iff1 : f * f * e < t * t ↔ f * f < u := by
          rw [← ve, Int.mul_comm e u]
          exact ⟨fun h => Int.lt_of_mul_lt_mul_right h (by omega), fun h => Int.mul_lt_mul_of_pos_right h (by omega)⟩
         refine Gives.ite (fun g => Gives.now ?_) fun g => Gives.now ?_
         · rw [if_pos (iff1.2 (by simp at g; omega))]
         · rw [if_neg fun h => g (by simp; have := iff1.1 h; omega)]
       · rw [if_neg d] at hu
         subst hu
         have lt : r * r * e < t * t := by omega
         rw [if_pos lt]
         have rr1 : (r + 1) * (r + 1) = r * r + r + r + 1 := by grind
         have ff1 : (f + 1) * (f + 1) = f * f + f + f + 1 := by grind
         refine Gives.ite (fun g => Gives.now ?_) fun g => Gives.now ?_
         · have g' : f * f < v + 1 := by simp at g; omega
           have : f = r := by
            rcases Int.lt_trichotomy f r with c | c | c
            · have := Int.mul_le_mul (a := f + 1) (b := f + 1) (c := r) (d := r) (by omega) (by omega) (by omega) (by omega)
              omega
            · exact c
            · have := Int.mul_le_mul (a := r + 1) (b := r + 1) (c := f) (d := f) (by omega) (by omega) (by omega) (by omega)
              omega
           rw [this]
         · have g' : f * f = v + 1 := by simp at g; omega
           have : f = r + 1 := by
            rcases Int.lt_trichotomy f (r + 1) with c | c | c
            · have := Int.mul_le_mul (a := f) (b := f) (c := r) (d := r) (by omega) (by omega) (by omega) (by omega)
              omega
            · exact c
            · have := Int.mul_le_mul (a := r + 2) (b := r + 2) (c := f) (d := f) (by omega) (by omega) (by omega) (by omega)
              have : (r + 2) * (r + 2) = r * r + r + r + r + r + 4 := by grind
              omega
           exact this
     · have rb : 0 ≤ r ∧ r ≤ 2147483649 := by rw [hr]; split <;> omega
       rw [w64_id (x := 0 - r) (by omega) (by omega), hr, Int.zero_sub]
       exact Gives.now rfl
/-! Schemes. -/
structure SchOk (kd bd gp len n : Int) (cuts : List Int) : Prop where
 k1 : 1 ≤ kd
 k2 : kd ≤ 5
 b1 : 0 ≤ bd
 b2 : bd ≤ 32
 b3 : bd = 0 ∨ kd = 4
 g1 : -1000 ≤ gp
 g2 : gp ≤ 1000
 g3 : gp = 0 ∨ kd = 5
 l1 : 2 ≤ len
 l2 : len ≤ 32
 n1 : 1 ≤ n
 n2 : n ≤ 8
 n3 : n ≤ len
 c1 : cuts.length ≤ 15
 c2 : ∀ i, 0 ≤ i → i < (cuts.length : Int) → -2000 ≤ rd cuts i ∧ rd cuts i ≤ 2000
 c3 : ∀ i, 0 < i → i < (cuts.length : Int) → rd cuts (i - 1) < rd cuts i
theorem SchOk.lt {kd bd gp len n : Int} {cuts : List Int} (h : SchOk kd bd gp len n cuts) : ∀ (d : Nat) (i : Int), 0 ≤ i → i + d + 1 < (cuts.length : Int) → rd cuts i < rd cuts (i + d + 1)
 | 0, i, h0, h1 => by
  have := h.c3 (i + 1) (by omega) (by omega)
  rw [show i + 1 - 1 = i by omega] at this
  rw [show i + ((0 : Nat) : Int) + 1 = i + 1 by omega]
  exact this
 | d + 1, i, h0, h1 => by
  have a := SchOk.lt h d i h0 (by omega)
  have b := h.c3 (i + d + 1 + 1) (by omega) (by omega)
  rw [show i + (d : Int) + 1 + 1 - 1 = i + d + 1 by omega] at b
  rw [show i + ((d + 1 : Nat) : Int) + 1 = i + d + 1 + 1 by omega]
  omega
theorem SchOk.le {kd bd gp len n : Int} {cuts : List Int} (h : SchOk kd bd gp len n cuts) {i j : Int} (h0 : 0 ≤ i) (hij : i ≤ j) (h1 : j < (cuts.length : Int)) : rd cuts i ≤ rd cuts j := by
 by_cases e : i = j
 · rw [e]; exact Int.le_refl _
 · have := h.lt (j - i - 1).toNat i h0 (by omega)
   rw [show i + ((j - i - 1).toNat : Int) + 1 = j by omega] at this
   omega
theorem src_measure {L : List Int} {p : Int} (h : SrcOk L p) : Gives (fun k => T_keep_Src_Measure k L p) (fun r => (1 ≤ r.1 ∧ r.1 ≤ 5 ∧ 0 ≤ r.2.1 ∧ r.2.1 ≤ 32 ∧ (r.2.1 = 0 ∨ r.1 = 4) ∧ -1000 ≤ r.2.2.1 ∧ r.2.2.1 ≤ 1000 ∧ (r.2.2.1 = 0 ∨ r.1 = 5)) ∧ SrcOk L r.2.2.2) := by
 refine Gives.step ?_
 simp only [T_keep_Src_Measure]
 refine Gives.bind (src_range h 1 5 (by omega) (by omega) (by omega)) fun a ha => Gives.bind (Q := fun r => (0 ≤ r.2 ∧ r.2 ≤ 32 ∧ (r.2 = 0 ∨ a.1 = 4)) ∧ SrcOk L r.1) ?_ fun b hb => Gives.bind (Q := fun r => (-1000 ≤ r.2 ∧ r.2 ≤ 1000 ∧ (r.2 = 0 ∨ a.1 = 5)) ∧ SrcOk L r.1) ?_ fun c hc => Gives.now ⟨⟨ha.1, ha.2.1, hb.1.1, hb.1.2.1, hb.1.2.2, hc.1⟩, hc.2⟩
 · refine Gives.ite (fun e => Gives.bind (src_pick ha.2.2 _ (by simp) (by simp)) fun v hv => Gives.now ⟨?_, hv.2⟩) fun _ => Gives.now ⟨⟨by simp only []; omega, by simp only []; omega, .inl rfl⟩, ha.2.2⟩
   have m := hv.1
   simp only [List.mem_cons, List.not_mem_nil, or_false] at m
   refine ⟨by simp only []; omega, by simp only []; omega, .inr e⟩
 · refine Gives.ite (fun e => Gives.bind (src_pick hb.2 _ (by simp) (by simp)) fun v hv => Gives.now ⟨?_, hv.2⟩) fun _ => Gives.now ⟨⟨by simp only []; omega, by simp only []; omega, .inl rfl⟩, hb.2⟩
   have m := hv.1
   simp only [List.mem_cons, List.not_mem_nil, or_false] at m
   refine ⟨by simp only []; omega, by simp only []; omega, .inr e⟩
theorem src_cuts {L : List Int} {p : Int} (h : SrcOk L p) : Gives (fun k => T_keep_Src_Cuts k L p) (fun r => (r.1.length ≤ 15 ∧ (∀ i, 0 ≤ i → i < (r.1.length : Int) → -2000 ≤ rd r.1 i ∧ rd r.1 i ≤ 2000) ∧ ∀ i, 0 < i → i < (r.1.length : Int) → rd r.1 (i - 1) < rd r.1 i) ∧ SrcOk L r.2) := by
 refine Gives.step ?_
 simp only [T_keep_Src_Cuts]
 refine Gives.bind (src_pick h _ (by simp) (by simp)) fun a ha => Gives.bind (src_pick ha.2 _ (by simp) (by simp)) fun b hb => Gives.bind (src_n hb.2 16 (by omega) (by omega)) fun c hc => Gives.bind (Q := fun r => r.2.2.length = r.1 ∧ (r.2.2.length ≤ 15 ∧ (∀ i, 0 ≤ i → i < (r.2.2.length : Int) → -2000 ≤ rd r.2.2 i ∧ rd r.2.2 i ≤ 2000) ∧ ∀ i, 0 < i → i < (r.2.2.length : Int) → rd r.2.2 (i - 1) < rd r.2.2 i) ∧ SrcOk L r.2.1) ?_ fun d hd => Gives.now (by rw [drop_take_len hd.1]; exact hd.2)
 have b1 : 1 ≤ b.1 ∧ b.1 ≤ 60 := by
  have := hb.1
  simp at this
  omega
 have a1 : -400 ≤ a.1 ∧ a.1 ≤ 0 := by
  have := ha.1
  simp at this
  omega
 refine Gives.loop (fun t => SrcOk L t.2.2.2.1 ∧ (t.1 : Int) + t.2.2.1 = c.1 ∧ 0 ≤ t.2.2.1 ∧ t.2.2.2.2.length = t.1 ∧ -400 ≤ t.2.1 ∧ t.2.1 ≤ 60 * (t.1 : Int) ∧ (0 < t.1 → rd t.2.2.2.2 ((t.1 : Int) - 1) = t.2.1) ∧ (∀ i, 0 ≤ i → i < (t.1 : Int) → -2000 ≤ rd t.2.2.2.2 i ∧ rd t.2.2.2.2 i ≤ 2000) ∧ ∀ i, 0 < i → i < (t.1 : Int) → rd t.2.2.2.2 (i - 1) < rd t.2.2.2.2 i) (fun t => t.2.2.1.toNat) ?_
  ⟨hc.2.2, by simp only []; omega, by simp only []; omega, rfl, by simp only []; omega, by simp only []; omega, fun h => by simp only at h; omega, fun i h0 h1 => by simp only at h1; omega, fun i h0 h1 => by simp only at h1; omega⟩
 intro ⟨l, v, n, q, o⟩ ⟨i1, i2, i3, i4, i5, i6, i7, i8, i9⟩
 simp only at i1 i2 i3 i4 i5 i6 i7 i8 i9
 unfold T_keep_Src_Cuts_l1
 simp only []
 refine Gives.ite (fun cc => ?_) fun cc => Gives.now ⟨i4, ⟨by simp only []; omega, by simp only [i4]; exact i8, by simp only [i4]; exact i9⟩, i1⟩
 refine Gives.bind (src_range i1 1 b.1 (by omega) (by omega) (by omega)) fun d hd => Gives.pos (by unfold LIM; omega) ?_
 rw [w64_id (x := n - 1) (by omega) (by omega), w64_id (x := v + d.1) (by omega) (by omega), drop_take_len i4]
 refine Gives.now ⟨⟨hd.2.2, by simp only []; omega, by simp only []; omega, by simp [i4], by simp only []; omega, by simp only []; omega, fun _ => ?_, fun i h0 h1 => ?_, fun i h0 h1 => ?_⟩, by simp only []; omega⟩
 · simp only []
   rw [rd_app_1 (by omega) (by omega)]
 · simp only at h1 ⊢
   by_cases e : i = (l : Int)
   · rw [rd_app_1 h0 (by omega)]; omega
   · rw [rd_app_l (by omega)]; exact i8 i h0 (by omega)
 · simp only at h1 ⊢
   by_cases e : i = (l : Int)
   · have e1 : rd (o ++ [v + d.1]) i = v + d.1 := rd_app_1 (by omega) (by omega)
     have e2 : rd (o ++ [v + d.1]) (i - 1) = rd o (i - 1) := rd_app_l (by omega)
     rw [e1, e2, e, i7 (by omega)]; omega
   · have e1 : rd (o ++ [v + d.1]) i = rd o i := rd_app_l (by omega)
     have e2 : rd (o ++ [v + d.1]) (i - 1) = rd o (i - 1) := rd_app_l (by omega)
     rw [e1, e2]; exact i9 i h0 (by omega)
theorem src_scheme {L : List Int} {p : Int} (h : SrcOk L p) : Gives (fun k => T_keep_Src_Scheme k L p) (fun r => SchOk r.1 r.2.1 r.2.2.1 r.2.2.2.1 r.2.2.2.2.1 r.2.2.2.2.2.1 ∧ SrcOk L r.2.2.2.2.2.2) := by
 refine Gives.step ?_
 simp only [T_keep_Src_Scheme]
 refine Gives.bind (src_measure h) fun a ha => Gives.bind (src_length ha.2) fun b hb => ?_
 have e : 1 ≤ imin 8 b.1 ∧ imin 8 b.1 ≤ 8 ∧ imin 8 b.1 ≤ b.1 := by unfold imin; split <;> omega
 refine Gives.bind (src_range hb.2.2 1 (imin 8 b.1) (by omega) (by omega) (by omega)) fun c hc => Gives.bind (src_cuts hc.2.2) fun d hd => Gives.now ⟨?_, hd.2⟩
 obtain ⟨⟨q1, q2, q3, q4, q5, q6, q7, q8⟩, _⟩ := ha
 obtain ⟨⟨d1, d2, d3⟩, _⟩ := hd
 exact ⟨q1, q2, q3, q4, q5, q6, q7, q8, hb.1, hb.2.1, hc.1, by simp only []; omega, by simp only []; omega, d1, d2, d3⟩
/-! Schemes of any kind. -/
def MsOk (kd bd gp : Int) : Prop := 1 ≤ kd ∧ kd ≤ 5 ∧ 0 ≤ bd ∧ bd ≤ 32 ∧ (bd = 0 ∨ kd = 4) ∧ -1000 ≤ gp ∧ gp ≤ 1000 ∧ (gp = 0 ∨ kd = 5)
instance {kd bd gp : Int} : Decidable (MsOk kd bd gp) := by unfold MsOk; infer_instance
def CutsOk (cuts : List Int) : Prop := (∀ i, 0 ≤ i → i < (cuts.length : Int) → -2000 ≤ rd cuts i ∧ rd cuts i ≤ 2000) ∧ ∀ i, 0 < i → i < (cuts.length : Int) → rd cuts (i - 1) < rd cuts i
theorem SchOk_iff {kd bd gp len n : Int} {cuts : List Int} : SchOk kd bd gp len n cuts ↔ MsOk kd bd gp ∧ 2 ≤ len ∧ len ≤ 32 ∧ 1 ≤ n ∧ n ≤ 8 ∧ n ≤ len ∧ cuts.length ≤ 15 ∧ CutsOk cuts :=
 ⟨fun h => ⟨⟨h.k1, h.k2, h.b1, h.b2, h.b3, h.g1, h.g2, h.g3⟩, h.l1, h.l2, h.n1, h.n2, h.n3, h.c1, h.c2, h.c3⟩, fun ⟨⟨a1, a2, a3, a4, a5, a6, a7, a8⟩, b1, b2, b3, b4, b5, b6, b7, b8⟩ => ⟨a1, a2, a3, a4, a5, a6, a7, a8, b1, b2, b3, b4, b5, b6, b7, b8⟩⟩
theorem r17_checkG {kd bd gp : Int} : Gives (fun k => T_ref17_Check k kd bd gp) (fun r => (r = 0 ∧ MsOk kd bd gp) ∨ (r = 9 ∧ ¬ MsOk kd bd gp)) := by
 refine Gives.step ?_
 simp only [T_ref17_Check]
 refine Gives.bind (Q := fun b => b = decide (¬ MsOk kd bd gp)) ?_ fun b hb => ?_
 · refine Gives.ite (fun d => Gives.now ?_) fun d => Gives.bind (Q := fun _ => True) ?_ fun _ _ => Gives.now ?_
   · have : ¬ MsOk kd bd gp := fun ⟨a1, a2, a3, a4, a5, _⟩ => by simp at d; omega
     rw [decide_eq_true this]
   · refine Gives.step ?_
     simp only [T_ref04_Sample]
     exact Gives.now trivial
   · by_cases e : MsOk kd bd gp
     · have e' := e
       obtain ⟨_, _, _, _, _, a6, a7, a8⟩ := e
       rw [decide_eq_false (fun h : ¬ MsOk kd bd gp => h e')]
       simp; omega
     · have : (!(decide (-1000 ≤ gp) && decide (gp ≤ 1000)) || !decide (kd = 5) && !decide (gp = 0)) = true := by
        unfold MsOk at e
        simp at d ⊢
        omega
       rw [this, decide_eq_true e]
 · subst hb
   refine Gives.ite (fun c => Gives.now (.inr ⟨rfl, by simpa using c⟩)) fun c => Gives.now (.inl ⟨rfl, by simpa using c⟩)
theorem r19_checkG {kd bd gp len n : Int} {cuts : List Int} (hl : cuts.length ≤ 1000) : Gives (fun k => T_ref19_Check k kd bd gp len n cuts) (fun r => (r = 0 ∧ SchOk kd bd gp len n cuts) ∨ (r = 10 ∧ ¬ SchOk kd bd gp len n cuts)) := by
 refine Gives.step ?_
 simp only [T_ref19_Check, SchOk_iff]
 refine Gives.bind r17_checkG fun e he => Gives.ite (fun c => Gives.now (.inr ⟨rfl, fun ⟨a, b1, b2, b3, b4, b5, b6, _⟩ => ?_⟩)) fun c => Gives.bind (Q := fun r => (r = .inl () ∧ CutsOk cuts) ∨ (r = .inr () ∧ ¬ CutsOk cuts)) ?_ fun r hr => ?_
 · rcases he with ⟨rfl, _⟩ | ⟨rfl, h⟩
   · simp at c; omega
   · exact h a
 · refine Gives.loop (fun s => 0 ≤ s ∧ s ≤ (cuts.length : Int) ∧ (∀ i, 0 ≤ i → i < s → -2000 ≤ rd cuts i ∧ rd cuts i ≤ 2000) ∧ ∀ i, 0 < i → i < s → rd cuts (i - 1) < rd cuts i) (fun s => ((cuts.length : Int) - s).toNat) ?_ ⟨by omega, by omega, fun i h0 h1 => by omega, fun i h0 h1 => by omega⟩
   intro s ⟨i0, i1, i2, i3⟩
   unfold T_ref19_Check_l1
   refine Gives.ite (fun cc => Gives.bind (Q := fun b => b = decide (¬ ((-2000 ≤ rd cuts s ∧ rd cuts s ≤ 2000) ∧ (0 < s → rd cuts (s - 1) < rd cuts s)))) (Gives.opt (at_rd i0 cc) ?_) fun b hb => ?_) fun cc => Gives.now (.inl ⟨rfl, fun i h0 h1 => i2 i h0 (by omega), fun i h0 h1 => i3 i h0 (by omega)⟩)
   · refine Gives.ite (fun d => Gives.now ?_) fun d => Gives.ite (fun d2 => ?_) fun d2 => Gives.now ?_
     · have : ¬ ((-2000 ≤ rd cuts s ∧ rd cuts s ≤ 2000) ∧ (0 < s → rd cuts (s - 1) < rd cuts s)) := fun h => by simp at d; omega
       rw [decide_eq_true this]
     · rw [w64_id (x := s - 1) (by omega) (by omega)]
       refine Gives.opt (at_rd (by omega) (by omega)) (Gives.now ?_)
       rw [decide_eq_decide]
       simp at d
       constructor
       · intro h h'; have := h'.2 d2; omega
       · intro h
         refine Decidable.byContradiction fun hn => h ⟨by omega, fun _ => by omega⟩
     · rw [decide_eq_false]
       simp at d
       intro h
       exact h ⟨by omega, fun h => absurd h d2⟩
   · subst hb
     rw [w64_id (x := s + 1) (by omega) (by omega)]
     refine Gives.ite (fun d => Gives.now (.inr ⟨rfl, fun h => ?_⟩)) fun d => Gives.now ⟨⟨by omega, by omega, fun i h0 h1 => ?_, fun i h0 h1 => ?_⟩, by omega⟩
     · rw [decide_eq_true_eq] at d
       exact d ⟨h.1 s i0 cc, fun h0 => h.2 s h0 cc⟩
     · rw [decide_eq_true_eq, Classical.not_not] at d
       by_cases e : i = s
       · subst e; exact d.1
       · exact i2 i h0 (by omega)
     · rw [decide_eq_true_eq, Classical.not_not] at d
       by_cases e : i = s
       · subst e; exact d.2 h0
       · exact i3 i h0 (by omega)
 · have ce : e = 0 := by simp at c; omega
   have m : MsOk kd bd gp := by
    rcases he with ⟨_, h⟩ | ⟨h, _⟩
    · exact h
    · omega
   rcases hr with ⟨rfl, h⟩ | ⟨rfl, h⟩
   · refine Gives.now (.inl ⟨rfl, m, ?_⟩)
     simp at c
     exact ⟨by omega, by omega, by omega, by omega, by omega, by omega, h⟩
   · exact Gives.now (.inr ⟨rfl, fun ⟨_, _, _, _, _, _, _, b⟩ => h b⟩)

/-- A word of n pieces; a full one. -/
def WOk (n : Int) (sy bi : List Int) : Prop := (sy.length : Int) = n ∧ (bi.length : Int) = n ∧ ∀ p, 0 ≤ p → p < n → 0 ≤ rd bi p ∧ rd bi p ≤ 4 ∧ 0 ≤ rd sy p ∧ rd sy p < 2 ^ (rd bi p).toNat
theorem bits_lt {b : Int} (h0 : 0 ≤ b) (h1 : b ≤ 4) : w64 (1 * 2 ^ (Nat.min b.toNat (IntKind.bits .i64))) = 2 ^ b.toNat := by
 rcases (show b = 0 ∨ b = 1 ∨ b = 2 ∨ b = 3 ∨ b = 4 by omega) with e | e | e | e | e <;> subst e <;> decide +kernel
/-- The width of a word's interval of symbols. -/
def wid (b : Int) : Int := 2 ^ (4 - b).toNat
theorem wid_w {b : Int} (h0 : 0 ≤ b) (h1 : b ≤ 4) : (2 : Int) ^ (Nat.min (w64 (4 - b)).toNat (IntKind.bits .i64)) = wid b := by
 rcases (show b = 0 ∨ b = 1 ∨ b = 2 ∨ b = 3 ∨ b = 4 by omega) with e | e | e | e | e <;> subst e <;> decide +kernel
theorem wid_ok {s b : Int} (h0 : 0 ≤ b) (h1 : b ≤ 4) (h2 : 0 ≤ s) (h3 : s < 2 ^ b.toNat) : 1 ≤ wid b ∧ wid b ≤ 16 ∧ 0 ≤ s * wid b ∧ s * wid b + wid b ≤ 16 := by
 unfold wid
 rcases (show b = 0 ∨ b = 1 ∨ b = 2 ∨ b = 3 ∨ b = 4 by omega) with e | e | e | e | e <;> subst e <;> simp at h3 ⊢ <;> omega
/-- The interval of a symbol's bits. -/
def ivl (cuts : List Int) (f g : Int) : Int × Int := if (cuts.length : Int) < f then (1, 0) else (if 0 < f then rd cuts (f - 1) else -1099511627776, if g < (cuts.length : Int) then rd cuts g - 1 else 1099511627776)
/-- A row of intervals. -/
def rpi (r : List (Int × Int)) (p : Int) : Int × Int := r.getD p.toNat (0, 0)
theorem at_rpi {xs : List (Int × Int)} {i : Int} (h0 : 0 ≤ i) (h1 : i < (xs.length : Int)) : at? xs i = some (rpi xs i) := by
 unfold at? rpi
 rw [if_pos h0, List.getD_eq_getElem?_getD, List.getElem?_eq_getElem (by omega)]; rfl
theorem rpi_app_l {xs ys : List (Int × Int)} {i : Int} (h1 : i.toNat < xs.length) : rpi (xs ++ ys) i = rpi xs i := by
 unfold rpi
 rw [List.getD_eq_getElem?_getD, List.getElem?_append_left h1, List.getD_eq_getElem?_getD]
theorem rpi_app_1 {xs : List (Int × Int)} {v : Int × Int} {i : Int} (h0 : 0 ≤ i) (h1 : (xs.length : Int) = i) : rpi (xs ++ [v]) i = v := by
 unfold rpi
 rw [List.getD_eq_getElem?_getD, List.getElem?_append_right (by omega)]
 simp [show i.toNat - xs.length = 0 by omega]
theorem drop_take_len2 {α : Type} {xs : List α} {n : Nat} (h : xs.length = n) : (xs.drop 0).take n = xs := by rw [List.drop_zero, ← h, List.take_length]
/-! A word of a scheme. -/
theorem src_word {L : List Int} {q kd bd gp len n : Int} {cuts : List Int} (h : SrcOk L q) (n1 : 1 ≤ n) (n2 : n ≤ 8) : Gives (fun k => T_keep_Src_Word k kd bd gp len n cuts L q) (fun r => WOk n r.1 r.2.1 ∧ SrcOk L r.2.2) := by
 refine Gives.step ?_
 simp only [T_keep_Src_Word]
 refine Gives.bind (Q := fun r => SrcOk L r.1 ∧ (r.2.1 : Int) = n ∧ (r.2.2.1 : Int) = n ∧ r.2.2.2.1.length = r.2.1 ∧ r.2.2.2.2.length = r.2.2.1 ∧ ∀ p, 0 ≤ p → p < n → 0 ≤ rd r.2.2.2.2 p ∧ rd r.2.2.2.2 p ≤ 4 ∧ 0 ≤ rd r.2.2.2.1 p ∧ rd r.2.2.2.1 p < 2 ^ (rd r.2.2.2.2 p).toNat) ?_ fun r hr => ?_
 · refine Gives.loop (fun s => 0 ≤ s.1 ∧ s.1 ≤ n ∧ SrcOk L s.2.1 ∧ (s.2.2.1 : Int) = s.1 ∧ (s.2.2.2.1 : Int) = s.1 ∧ s.2.2.2.2.1.length = s.2.2.1 ∧ s.2.2.2.2.2.length = s.2.2.2.1 ∧ ∀ p, 0 ≤ p → p < s.1 → 0 ≤ rd s.2.2.2.2.2 p ∧ rd s.2.2.2.2.2 p ≤ 4 ∧ 0 ≤ rd s.2.2.2.2.1 p ∧ rd s.2.2.2.2.1 p < 2 ^ (rd s.2.2.2.2.2 p).toNat) (fun s => (n - s.1).toNat) ?_ ⟨by simp only []; omega, by simp only []; omega, h, rfl, rfl, rfl, rfl, fun p h0 h1 => by simp only at h1; omega⟩
   intro ⟨i, at_, a, b, s, t⟩ ⟨i0, i1, i2, e1, e2, l1, l2, hi⟩
   simp only at i0 i1 i2 e1 e2 l1 l2 hi
   unfold T_keep_Src_Word_l1
   simp only []
   refine Gives.ite (fun c => Gives.bind (src_n i2 5 (by omega) (by omega)) fun u hu => Gives.pos hu.1 ?_) fun c => Gives.now ⟨i2, by simp only []; omega, by simp only []; omega, l1, l2, fun p h0 h1 => hi p h0 (by omega)⟩
   rw [bits_lt hu.1 (by omega)]
   have pb : 1 ≤ (2 : Int) ^ u.1.toNat ∧ (2 : Int) ^ u.1.toNat ≤ 16 := by
    have h0 := hu.1
    have h1 := hu.2.1
    rcases (show u.1 = 0 ∨ u.1 = 1 ∨ u.1 = 2 ∨ u.1 = 3 ∨ u.1 = 4 by omega) with e | e | e | e | e <;> rw [e] <;> decide
   refine Gives.bind (src_n hu.2.2 ((2 : Int) ^ u.1.toNat) pb.1 (by omega)) fun v hv => Gives.pos (by unfold LIM; omega) (Gives.pos (by unfold LIM; omega) ?_)
   rw [w64_id (x := i + 1) (by omega) (by omega), drop_take_len l1, drop_take_len l2]
   refine Gives.now ⟨⟨by simp only []; omega, by simp only []; omega, hv.2.2, by simp only []; omega, by simp only []; omega, by simp [l1], by simp [l2], fun p h0 h1 => ?_⟩, by simp only []; omega⟩
   simp only at h1 ⊢
   by_cases e : p = i
   · subst e; rw [rd_app_1 h0 (by omega), rd_app_1 h0 (by omega)]; exact ⟨hu.1, by omega, hv.1, hv.2.1⟩
   · rw [rd_app_l (by omega), rd_app_l (by omega)]; exact hi p h0 (by omega)
 · obtain ⟨r1, r2, r3, r4, r5, r6⟩ := hr
   rw [drop_take_len r4, drop_take_len r5]
   exact Gives.now ⟨⟨by simp only []; omega, by simp only []; omega, r6⟩, r1⟩

def good (sy bi : List Int) (p : Int) : Prop := 0 ≤ rd bi p ∧ rd bi p ≤ 4 ∧ 0 ≤ rd sy p ∧ rd sy p < 2 ^ (rd bi p).toNat
instance {sy bi : List Int} {p : Int} : Decidable (good sy bi p) := by unfold good; infer_instance
theorem r19_region {kd bd gp len n : Int} {cuts sy bi : List Int} (h : SchOk kd bd gp len n cuts) (w : WOk n sy bi) (hv : Gives (fun k => T_ref19_Valid k kd bd gp len n cuts sy bi) (· = true)) : Gives (fun k => T_ref19_Region k kd bd gp len n cuts sy bi) (fun r => r.2 = 0 ∧ (r.1.length : Int) = n ∧ ∀ p, 0 ≤ p → p < n → rpi r.1 p = ivl cuts (rd sy p * wid (rd bi p)) (rd sy p * wid (rd bi p) + wid (rd bi p) - 1)) := by
 have n1 := h.n1
 have n2 := h.n2
 have c1 := h.c1
 refine Gives.step ?_
 simp only [T_ref19_Region]
 refine Gives.bind hv fun a ha => Gives.neg (by simp [ha]) ?_
 obtain ⟨w1, w2, w3⟩ := w
 rw [w2]
 refine Gives.bind (Q := fun r => r.2.length = r.1 ∧ (r.1 : Int) = n ∧ ∀ p, 0 ≤ p → p < n → rpi r.2 p = ivl cuts (rd sy p * wid (rd bi p)) (rd sy p * wid (rd bi p) + wid (rd bi p) - 1)) ?_ fun r hr => Gives.now (by rw [drop_take_len2 hr.1]; exact ⟨rfl, by rw [hr.1]; exact hr.2.1, hr.2.2⟩)
 refine Gives.loop (fun s => 0 ≤ s.2.1 ∧ s.2.1 ≤ n ∧ (s.1 : Int) = s.2.1 ∧ s.2.2.length = s.1 ∧ ∀ p, 0 ≤ p → p < s.2.1 → rpi s.2.2 p = ivl cuts (rd sy p * wid (rd bi p)) (rd sy p * wid (rd bi p) + wid (rd bi p) - 1)) (fun s => (n - s.2.1).toNat) ?_ ⟨by simp only []; omega, by simp only []; omega, rfl, rfl, fun p h0 h1 => by simp only at h1; omega⟩
 intro ⟨l, i, o⟩ ⟨i0, i1, i2, i3, i4⟩
 simp only at i0 i1 i2 i3 i4
 unfold T_ref19_Region_l1
 simp only []
 refine Gives.ite (fun c => Gives.opt (at_rd i0 (by omega)) (Gives.opt (at_rd i0 (by omega)) ?_)) fun c => Gives.now ⟨i3, by simp only []; omega, fun p h0 h1 => i4 p h0 (by omega)⟩
 obtain ⟨b0, b1, s0, s1⟩ := w3 i i0 c
 have wk := wid_ok b0 b1 s0 s1
 have b4 : 0 ≤ w64 (4 - rd bi i) := by rw [w64_id (by omega) (by omega)]; omega
 refine Gives.pos b4 (Gives.opt (at_rd i0 (by omega)) (Gives.pos b4 ?_))
 rw [wid_w b0 b1, Int.one_mul, w64_id (x := i + 1) (by omega) (by omega), drop_take_len2 i3]
 have q : ∀ p, 0 ≤ p → p < i + 1 → ∀ v, v = ivl cuts (rd sy i * wid (rd bi i)) (rd sy i * wid (rd bi i) + wid (rd bi i) - 1) → rpi (o ++ [v]) p = ivl cuts (rd sy p * wid (rd bi p)) (rd sy p * wid (rd bi p) + wid (rd bi p) - 1) := fun p h0 h1 v hv => by
  by_cases e : p = i
  · subst e; rw [rpi_app_1 h0 (by omega), hv]
  · rw [rpi_app_l (by omega)]; exact i4 p h0 (by omega)
 clear i4
 generalize rd sy i * wid (rd bi i) = f at *
 generalize wid (rd bi i) = w at *
 rw [w64_id (x := f) (by omega) (by omega), w64_id (x := w) (by omega) (by omega), w64_id (x := f + w) (by omega) (by omega), w64_id (x := f + w - 1) (by omega) (by omega), w64_id (x := f - 1) (by omega) (by omega)]
 unfold ivl at q
 refine Gives.bind (Q := fun r => f ≤ (cuts.length : Int) → r = if 0 < f then rd cuts (f - 1) else -1099511627776) ?_ fun lo hlo => Gives.bind (Q := fun r => r = if f + w - 1 < (cuts.length : Int) then rd cuts (f + w - 1) - 1 else 1099511627776) ?_ fun hi hhi => Gives.bind (Q := fun r => r = if (cuts.length : Int) < f then (1, 0) else (if 0 < f then rd cuts (f - 1) else -1099511627776, if f + w - 1 < (cuts.length : Int) then rd cuts (f + w - 1) - 1 else 1099511627776)) ?_ fun v hv => Gives.pos (by unfold LIM; omega) (Gives.now ⟨⟨by simp only []; omega, by simp only []; omega, by simp only []; omega, by simp [i3], fun p h0 h1 => q p h0 h1 _ hv⟩, by simp only []; omega⟩)
 · refine Gives.ite (fun d => ?_) fun d => Gives.now fun d2 => ?_
   · have d' : 0 < f ∧ f ≤ (cuts.length : Int) := by simpa using d
     exact Gives.opt (at_rd (by omega) (by omega)) (Gives.now fun _ => by rw [if_pos d'.1])
   · have d' : ¬ 0 < f := by simp at d; omega
     rw [if_neg d']
 · refine Gives.ite (fun d => Gives.opt (at_rd (by omega) (by omega)) ?_) fun d => Gives.now (by rw [if_neg d])
   have := h.c2 (f + w - 1) (by omega) d
   rw [w64_id (by omega) (by omega)]
   exact Gives.now (by rw [if_pos d])
 · refine Gives.ite (fun d => Gives.now (by rw [if_pos d])) fun d => Gives.now ?_
   rw [if_neg d, hlo (by omega), hhi]
/-- Two functions answer alike. -/
def Agree {α : Type} (f g : Nat → Option α) (Q : α → Prop) : Prop := ∃ v, Gives f (· = v) ∧ Gives g (· = v) ∧ Q v
theorem Agree.both {α : Type} {f g : Nat → Option α} {Q P P' : α → Prop} (h : Gives f P) (k : Gives g P') (e : ∀ a b, P a → P' b → a = b) (q : ∀ a, P a → Q a) : Agree f g Q := by
 obtain ⟨a, ha, pa⟩ := h.get
 obtain ⟨b, hb, pb⟩ := k.get
 have := e a b pa pb
 subst this
 exact ⟨a, ha, hb, q a pa⟩

/-! A list changed at one place, or in its length. -/
theorem src_bent {L : List Int} {p : Int} (h : SrcOk L p) {xs : List Int} (hl : xs.length ≤ 40) : Gives (fun k => T_keep_Src_Bent k xs L p) (fun r => r.1.length ≤ 41 ∧ SrcOk L r.2) := by
 refine Gives.step ?_
 simp only [T_keep_Src_Bent]
 have e1 : (([] : List Int).drop 0).take 0 ++ xs = xs := by simp
 rw [e1]
 refine Gives.pos (by unfold LIM; omega) (Gives.bind (src_n h 4 (by omega) (by omega)) fun a ha => Gives.ite (fun _ => ?_) fun _ => ?_)
 · refine Gives.bind (src_n ha.2.2 2 (by omega) (by omega)) fun b hb => ?_
   have q : 0 ≤ imin (((0 + xs.length) : Nat) : Int) b.1 ∧ imin (((0 + xs.length) : Nat) : Int) b.1 ≤ ((xs.length : Nat) : Int) := by unfold imin; split <;> omega
   refine Gives.pos (by omega) (Gives.now ⟨?_, hb.2.2⟩)
   simp; omega
 · refine Gives.bind (Q := fun r => r.2.2.length ≤ 41 ∧ SrcOk L r.2.1) ?_ fun r hr => Gives.now ⟨by simp; omega, hr.2⟩
   refine Gives.ite (fun _ => ?_) fun _ => Gives.ite (fun c => ?_) fun _ => Gives.now ⟨by simp only []; omega, ha.2.2⟩
   · refine Gives.bind (Q := fun r => r.2.2.length ≤ 41 ∧ SrcOk L r.2.1) ?_ fun r hr => Gives.now hr
     refine Gives.loop (fun s => s.2.2.length = s.1 ∧ s.1 ≤ 41 ∧ SrcOk L s.2.1) (fun s => 41 - s.1) ?_ ⟨by simp, by simp only []; omega, ha.2.2⟩
     intro ⟨n, q, o⟩ ⟨i1, i2, i3⟩
     simp only at i1 i2 i3
     unfold T_keep_Src_Bent_l2
     simp only []
     refine Gives.ite (fun c => Gives.bind (src_n i3 9 (by omega) (by omega)) fun b hb => Gives.pos (by unfold LIM; omega) (Gives.now ⟨⟨?_, ?_, hb.2.2⟩, ?_⟩)) fun c => Gives.now ⟨by simp only []; omega, i3⟩
     · rw [drop_take_len i1]; simp [i1]
     · simp only []; omega
     · simp only []; omega
   · refine Gives.bind (src_n ha.2.2 _ (by omega) (by omega)) fun b hb => Gives.bind (src_pick hb.2.2 _ (by simp) (by simp)) fun c hc => Gives.pos (by omega) (Gives.now ⟨?_, hc.2⟩)
     simp; omega

/-! Sketches of any kind. -/
structure Dim (m n : Int) : Prop where
 m1 : 2 ≤ m
 m2 : m ≤ 32
 n1 : 1 ≤ n
 n2 : n ≤ 8
 n3 : n ≤ m
def ln (m n p : Int) : Int := cut m n (p + 1) - cut m n p
theorem Dim.len {m n p : Int} (h : Dim m n) (p0 : 0 ≤ p) (p1 : p < n) : 1 ≤ ln m n p ∧ ln m n p ≤ 32 := by
 obtain ⟨a, rfl⟩ : ∃ a : Nat, m = a := ⟨m.toNat, by have := h.m1; omega⟩
 obtain ⟨b, rfl⟩ : ∃ b : Nat, n = b := ⟨n.toNat, by have := h.n1; omega⟩
 have := wt_ok (m := a) (n := b) (p := p) (by have := h.m2; omega) (by have := h.n1; omega) (by have := h.n2; omega) (by have := h.n3; omega) p0 p1
 exact ⟨this.2.2.1, this.2.2.2.1⟩
theorem Dim.not {m n : Int} (h : ¬ Dim m n) : m < 2 ∨ 32 < m ∨ badN m n := by
 unfold badN
 refine Decidable.byContradiction fun hn => h ⟨by omega, by omega, by omega, by omega, by omega⟩
theorem pc_startsB {m n : Int} (h : ¬ Dim m n) : Gives (fun k => T_pieces_Starts k m n) (fun r => r.2 ≠ 0) := by
 have h := Dim.not h
 refine Gives.step ?_
 simp only [T_pieces_Starts]
 refine Gives.ite (fun c => Gives.now (by simp)) fun c => Gives.bind (pc_number _ _) fun _ _ => Gives.pos ?_ (Gives.now (by simp))
 unfold badN at h; simp at c ⊢; omega
theorem sk_lengthsB {m E : Int} {s : List Int} (h : ¬ Dim m s.length) : Gives (fun k => T_sketch_lengths k m s E) (fun r => r = []) := by
 refine Gives.step ?_
 simp only [T_sketch_lengths]
 exact Gives.bind (pc_startsB h) fun a ha => Gives.pos (by simpa using ha) (Gives.now rfl)
theorem sk_lengthsV {m E : Int} {s : List Int} (h : Dim m s.length) : Gives (fun k => T_sketch_lengths k m s E) (fun r => (r.length : Int) = s.length ∧ ∀ p, 0 ≤ p → p < (s.length : Int) → rd r p = ln m s.length p) := by
 obtain ⟨m1, m2, n1, n2, n3⟩ := h
 refine Gives.step ?_
 simp only [T_sketch_lengths]
 refine Gives.bind (pc_starts m1 m2 n1 n2 n3) fun a ha => ?_
 obtain ⟨a1, a2, a3⟩ := ha
 refine Gives.neg (by simp [a1]) (Gives.bind (Q := fun r => (r.1 : Int) = s.length ∧ r.2.length = r.1 ∧ ∀ p, 0 ≤ p → p < (s.length : Int) → rd r.2 p = ln m s.length p) ?_ fun r hr => ?_)
 · refine Gives.loop (fun t => 0 ≤ t.2.1 ∧ t.2.1 ≤ (s.length : Int) ∧ (t.1 : Int) = t.2.1 ∧ t.2.2.length = t.1 ∧ ∀ p, 0 ≤ p → p < t.2.1 → rd t.2.2 p = ln m s.length p) (fun t => ((s.length : Int) - t.2.1).toNat) ?_ ⟨by simp only []; omega, by simp only []; omega, rfl, rfl, fun p h1 h2 => by simp only at h2; omega⟩
   intro ⟨l, i, o⟩ ⟨i1, i2, i3, i4, i5⟩
   simp only at i1 i2 i3 i4 i5
   unfold T_sketch_lengths_l1
   simp only []
   refine Gives.ite (fun c => ?_) fun c => Gives.now ⟨by simp only []; omega, i4, fun p h1 h2 => i5 p h1 (by omega)⟩
   have k1 := cut_range (m := m) (n := (s.length : Int)) (p := i) (by omega) (by omega) (by omega) (by omega)
   have k2 := cut_range (m := m) (n := (s.length : Int)) (p := i + 1) (by omega) (by omega) (by omega) (by omega)
   rw [w64_id (x := i + 1) (by omega) (by omega), drop_take_len i4]
   refine Gives.opt (at_rd (by omega) (by omega)) (Gives.opt (at_rd i1 (by omega)) (Gives.pos (by unfold LIM; omega) ?_))
   rw [a3 (i + 1) (by omega) (by omega), a3 i i1 (by omega), w64_id (x := cut m s.length (i + 1) - cut m s.length i) (by omega) (by omega)]
   refine Gives.now ⟨⟨by simp only []; omega, by simp only []; omega, by simp only []; omega, by simp [i4], fun p h1 h2 => ?_⟩, by simp only []; omega⟩
   simp only at h2 ⊢
   by_cases e : p = i
   · subst e; rw [rd_app_1 h1 (by omega)]; rfl
   · rw [rd_app_l (by omega)]; exact i5 p h1 (by omega)
 · rw [drop_take_len hr.2.1]
   exact Gives.now ⟨by rw [hr.2.1]; exact hr.1, hr.2.2⟩
/-- What a piece's sum says of the energy. -/
def kq (m : Int) (s : List Int) (p : Int) : Int := rd s p * rd s p / ln m s.length p
def Bd (s : List Int) (p : Int) : Prop := -2097152 ≤ rd s p ∧ rd s p ≤ 2097152
structure SkV (m : Int) (s : List Int) (E : Int) : Prop where
 dim : Dim m s.length
 e0 : 0 ≤ E
 e1 : E ≤ m * m * m * 1000000
 e2 : E % m = 0
 sb : ∀ p, 0 ≤ p → p < (s.length : Int) → Bd s p
 kn : sg (kq m s) s.length ≤ E
theorem kq_bd {m p : Int} {s : List Int} (h : Dim m s.length) (p0 : 0 ≤ p) (p1 : p < (s.length : Int)) (b : Bd s p) : 0 ≤ kq m s p ∧ kq m s p ≤ 4398046511104 ∧ 0 ≤ rd s p * rd s p ∧ rd s p * rd s p ≤ 4398046511104 ∧ 1 ≤ ln m s.length p ∧ ln m s.length p ≤ 32 := by
 have q := prod_bound (a := rd s p) (b := rd s p) (A := 2097152) (B := 2097152) b.1 b.2 b.1 b.2
 have z := sq_nonneg (rd s p)
 have w := h.len p0 p1
 unfold kq
 exact ⟨Int.ediv_nonneg z (by omega), Int.le_trans (Int.ediv_le_self _ z) (by omega), z, by omega, w.1, w.2⟩
theorem sg_kq {m : Int} {s : List Int} (h : Dim m s.length) {j : Nat} (hj : j ≤ s.length) (b : ∀ p, 0 ≤ p → p < (j : Int) → Bd s p) : 0 ≤ sg (kq m s) j ∧ sg (kq m s) j ≤ 4398046511104 * j := by
 have f := fun p p0 p1 => kq_bd h (p := p) p0 (by omega) (b p p0 p1)
 exact ⟨sg_nonneg fun p p0 p1 => (f p p0 p1).1, (sg_bound (B := 4398046511104) fun p p0 p1 => by have := f p p0 p1; omega).2⟩
theorem sk_knownV {m E : Int} {s : List Int} (h : Dim m s.length) (b : ∀ p, 0 ≤ p → p < (s.length : Int) → Bd s p) : Gives (fun k => T_sketch_known k m s E) (fun r => r = sg (kq m s) s.length) := by
 have n2 := h.n2
 refine Gives.step ?_
 simp only [T_sketch_known]
 refine Gives.bind (sk_lengthsV h) fun o ho => ?_
 refine Gives.bind (Q := fun r => r = sg (kq m s) s.length) ?_ fun r hr => Gives.now hr
 rw [ho.1]
 refine Gives.loop (fun t => 0 ≤ t.2 ∧ t.2 ≤ (s.length : Int) ∧ t.1 = sg (kq m s) t.2.toNat) (fun t => ((s.length : Int) - t.2).toNat) ?_ ⟨by simp only []; omega, by simp only []; omega, rfl⟩
 intro ⟨a, i⟩ ⟨i1, i2, i3⟩
 simp only at i1 i2 i3
 unfold T_sketch_known_l1
 simp only []
 refine Gives.ite (fun c => Gives.opt (at_rd i1 (by omega)) (Gives.opt (at_rd i1 (by omega)) ?_)) fun c => Gives.now ?_
 · have g := sg_kq h (j := i.toNat) (by omega) fun p p0 p1 => b p p0 (by omega)
   rw [← i3] at g
   have e := kq_bd h i1 c (b i i1 c)
   have ee : kq m s i = rd s i * rd s i / ln m s.length i := rfl
   rw [ho.2 i i1 c, w64_id (x := rd s i * rd s i) (by omega) (by omega), Int.tdiv_eq_ediv_of_nonneg e.2.2.1, ← ee, w64_id (x := kq m s i) (by omega) (by omega), w64_id (x := a + _) (by omega) (by omega), w64_id (x := i + 1) (by omega) (by omega)]
   refine Gives.pos (by omega) (Gives.now ⟨⟨by simp only []; omega, by simp only []; omega, ?_⟩, by simp only []; omega⟩)
   simp only []
   rw [show (i + 1).toNat = i.toNat + 1 by omega, sg, ← i3, Int.toNat_of_nonneg i1]
 · rw [i3, show i.toNat = s.length by omega]
theorem cube {m : Int} (h1 : 2 ≤ m) (h2 : m ≤ 32) : w64 (w64 (w64 (w64 (m * m) * m) * 1000) * 1000) = m * m * m * 1000000 ∧ 0 ≤ m * m * m * 1000000 ∧ m * m * m * 1000000 ≤ 32768000000 := by
 have a := prod_bound (a := m) (b := m) (A := 32) (B := 32) (by omega) (by omega) (by omega) (by omega)
 have a0 := sq_nonneg m
 have c := prod_bound (a := m * m) (b := m) (A := 1024) (B := 32) (by omega) (by omega) (by omega) (by omega)
 have c0 := Int.mul_nonneg a0 (show 0 ≤ m by omega)
 rw [w64_id (x := m * m) (by omega) (by omega), w64_id (x := m * m * m) (by omega) (by omega), w64_id (x := m * m * m * 1000) (by omega) (by omega), w64_id (x := m * m * m * 1000 * 1000) (by omega) (by omega)]
 omega
theorem sk_validG {m E : Int} {s : List Int} : Gives (fun k => T_sketch_valid k m s E) (fun r => (r = true ∧ SkV m s E) ∨ (r = false ∧ ¬ SkV m s E)) := by
 refine Gives.step ?_
 simp only [T_sketch_valid]
 by_cases h : Dim m s.length
 · obtain ⟨q1, q2, q3⟩ := cube h.m1 h.m2
   have m1 := h.m1
   have n1 := h.n1
   have n2 := h.n2
   refine Gives.bind (Q := fun b => (b = true ∧ ¬ (0 ≤ E ∧ E ≤ m * m * m * 1000000 ∧ E % m = 0)) ∨ (b = false ∧ 0 ≤ E ∧ E ≤ m * m * m * 1000000 ∧ E % m = 0)) ?_ fun b hb => ?_
   · refine Gives.bind (sk_lengthsV h) fun o ho => ?_
     have o0 : ¬ (o.length : Int) = 0 := by omega
     rw [q1, decide_eq_false o0, Bool.false_or]
     refine Gives.ite (fun c => Gives.now (.inl ⟨rfl, ?_⟩)) fun c => Gives.pos (by omega) (Gives.now ?_)
     · simp at c; omega
     · have c' : 0 ≤ E ∧ E ≤ m * m * m * 1000000 := by simp at c; omega
       rw [Int.tmod_eq_emod_of_nonneg c'.1]
       by_cases d : E % m = 0
       · exact .inr ⟨by simp [d], c'.1, c'.2, d⟩
       · exact .inl ⟨by simp [d], fun hh => d hh.2.2⟩
   · rcases hb with ⟨rfl, hb⟩ | ⟨rfl, e0, e1, e2⟩
     · exact Gives.pos rfl (Gives.now (.inr ⟨rfl, fun v => hb ⟨v.e0, v.e1, v.e2⟩⟩))
     · refine Gives.neg (by simp) (Gives.bind (Q := fun r => (r = .inl () ∧ ∀ p, 0 ≤ p → p < (s.length : Int) → Bd s p) ∨ (r = .inr () ∧ ∃ p, 0 ≤ p ∧ p < (s.length : Int) ∧ ¬ Bd s p)) ?_ fun r hr => ?_)
       · refine Gives.loop (fun t => 0 ≤ t ∧ t ≤ (s.length : Int) ∧ ∀ p, 0 ≤ p → p < t → Bd s p) (fun t => ((s.length : Int) - t).toNat) ?_ ⟨by omega, by omega, fun p h0 h1 => by omega⟩
         intro i ⟨i0, i1, i2⟩
         unfold T_sketch_valid_l1
         refine Gives.ite (fun c => Gives.opt (at_rd i0 c) (Gives.ite (fun d => Gives.now (.inr ⟨rfl, i, i0, c, fun bd => ?_⟩)) fun d => ?_)) fun c => Gives.now (.inl ⟨rfl, fun p p0 p1 => i2 p p0 (by omega)⟩)
         · have := bd.1; have := bd.2; simp at d; omega
         · rw [w64_id (by omega) (by omega)]
           refine Gives.now ⟨⟨by omega, by omega, fun p p0 p1 => ?_⟩, by omega⟩
           by_cases e : p = i
           · subst e; simp at d; exact ⟨by omega, by omega⟩
           · exact i2 p p0 (by omega)
       · rcases hr with ⟨rfl, hr⟩ | ⟨rfl, p, p0, p1, hr⟩
         · refine Gives.bind (sk_knownV h hr) fun v hv => Gives.now ?_
           subst hv
           by_cases d : sg (kq m s) s.length ≤ E
           · exact .inl ⟨by simp [d], h, e0, e1, e2, hr, d⟩
           · exact .inr ⟨by simp [d], fun v => d v.kn⟩
         · exact Gives.now (.inr ⟨rfl, fun v => hr (v.sb p p0 p1)⟩)
 · refine Gives.bind (Q := fun b => b = true) ?_ fun b hb => Gives.pos hb (Gives.now (.inr ⟨rfl, fun v => h v.dim⟩))
   refine Gives.bind (sk_lengthsB h) fun o ho => ?_
   subst ho
   exact Gives.pos (by simp) (Gives.now rfl)
theorem f18_startsV {m n : Int} (h : Dim m n) : Gives (fun k => T_ref18_Starts k m n) (fun r => r.2 = 0 ∧ (r.1.length : Int) = n + 1 ∧ ∀ p, 0 ≤ p → p ≤ n → rd r.1 p = cut m n p) := by
 obtain ⟨m1, m2, n1, n2, n3⟩ := h
 obtain ⟨a, rfl⟩ : ∃ a : Nat, m = a := ⟨m.toNat, by omega⟩
 obtain ⟨b, rfl⟩ : ∃ b : Nat, n = b := ⟨n.toNat, by omega⟩
 exact (f18_starts (m := a) (n := b) (by omega) (by omega) (by omega) (by omega) (by omega)).mono fun r hr => ⟨hr.1, by omega, hr.2.2⟩
theorem r21_residual {m E : Int} {s : List Int} : Gives (fun k => T_ref21_Residual k m s E) (fun r => (SkV m s E ∧ r = (E - sg (kq m s) s.length, true)) ∨ (¬ SkV m s E ∧ r.2 = false)) := by
 refine Gives.step ?_
 simp only [T_ref21_Residual]
 by_cases h : Dim m s.length
 · obtain ⟨q1, q2, q3⟩ := cube h.m1 h.m2
   have m1 := h.m1
   have n1 := h.n1
   have n2 := h.n2
   refine Gives.bind (f18_startsV h) fun S hS => ?_
   obtain ⟨S1, S2, S3⟩ := hS
   refine Gives.bind (Q := fun b => (b = true ∧ ¬ (0 ≤ E ∧ E ≤ m * m * m * 1000000 ∧ E % m = 0)) ∨ (b = false ∧ 0 ≤ E ∧ E ≤ m * m * m * 1000000 ∧ E % m = 0)) ?_ fun b hb => ?_
   · rw [q1]
     refine Gives.ite (fun c => Gives.now (.inl ⟨rfl, ?_⟩)) fun c => Gives.pos (by omega) (Gives.now ?_)
     · simp [S1] at c; omega
     · have c' : 0 ≤ E ∧ E ≤ m * m * m * 1000000 := by simp at c; omega
       rw [Int.tmod_eq_emod_of_nonneg c'.1]
       by_cases d : E % m = 0
       · exact .inr ⟨by simp [d], c'.1, c'.2, d⟩
       · exact .inl ⟨by simp [d], fun hh => d hh.2.2⟩
   · rcases hb with ⟨rfl, hb⟩ | ⟨rfl, e0, e1, e2⟩
     · exact Gives.pos rfl (Gives.now (.inr ⟨fun v => hb ⟨v.e0, v.e1, v.e2⟩, rfl⟩))
     · refine Gives.neg (by simp) (Gives.bind (Q := fun r => (r = .inl (E - sg (kq m s) s.length) ∧ ∀ p, 0 ≤ p → p < (s.length : Int) → Bd s p) ∨ (r = .inr () ∧ ∃ p, 0 ≤ p ∧ p < (s.length : Int) ∧ ¬ Bd s p)) ?_ fun r hr => ?_)
       · refine Gives.loop (fun t => 0 ≤ t.2 ∧ t.2 ≤ (s.length : Int) ∧ (∀ p, 0 ≤ p → p < t.2 → Bd s p) ∧ t.1 = E - sg (kq m s) t.2.toNat) (fun t => ((s.length : Int) - t.2).toNat) ?_ ⟨by simp only []; omega, by simp only []; omega, fun p h0 h1 => by simp only at h1; omega, by simp [sg]⟩
         intro ⟨a, i⟩ ⟨i0, i1, i2, i3⟩
         simp only at i0 i1 i2 i3
         unfold T_ref21_Residual_l1
         simp only []
         refine Gives.ite (fun c => Gives.opt (at_rd i0 c) (Gives.ite (fun d => Gives.now (.inr ⟨rfl, i, i0, c, fun bd => ?_⟩)) fun d => ?_)) fun c => Gives.now (.inl ⟨by rw [i3, show i.toNat = s.length by omega], fun p p0 p1 => i2 p p0 (by omega)⟩)
         · have := bd.1; have := bd.2; simp at d; omega
         · have bi : Bd s i := by simp at d; exact ⟨by omega, by omega⟩
           have g := sg_kq h (j := i.toNat) (by omega) fun p p0 p1 => i2 p p0 (by omega)
           have e := kq_bd h i0 c bi
           have ee : kq m s i = rd s i * rd s i / ln m s.length i := rfl
           have el : cut m s.length (i + 1) - cut m s.length i = ln m s.length i := rfl
           rw [w64_id (x := i + 1) (by omega) (by omega)]
           refine Gives.opt (at_rd i0 c) (Gives.opt (at_rd (by omega) (by omega)) (Gives.opt (at_rd i0 (by omega)) ?_))
           rw [S3 (i + 1) (by omega) (by omega), S3 i i0 (by omega), el, w64_id (x := ln m s.length i) (by omega) (by omega), w64_id (x := rd s i * rd s i) (by omega) (by omega), Int.tdiv_eq_ediv_of_nonneg e.2.2.1, ← ee, w64_id (x := kq m s i) (by omega) (by omega), w64_id (x := a - _) (by omega) (by omega)]
           refine Gives.pos (by omega) (Gives.now ⟨⟨by simp only []; omega, by simp only []; omega, fun p p0 p1 => ?_, ?_⟩, by simp only []; omega⟩)
           · by_cases e : p = i
             · subst e; exact bi
             · exact i2 p p0 (by simp only at p1; omega)
           · simp only []
             rw [show (i + 1).toNat = i.toNat + 1 by omega, sg, i3, Int.toNat_of_nonneg i0]
             omega
       · rcases hr with ⟨rfl, hr⟩ | ⟨rfl, p, p0, p1, hr⟩
         · refine Gives.now ?_
           by_cases d : sg (kq m s) s.length ≤ E
           · exact .inl ⟨⟨h, e0, e1, e2, hr, d⟩, by simp; omega⟩
           · exact .inr ⟨fun v => d v.kn, by simp; omega⟩
         · exact Gives.now (.inr ⟨fun v => hr (v.sb p p0 p1), rfl⟩)
 · refine Gives.bind (f18_startsG (Dim.not h)) fun S hS => Gives.bind (Q := fun b => b = true) ?_ fun b hb => Gives.pos hb (Gives.now (.inr ⟨fun v => h v.dim, rfl⟩))
   refine Gives.pos ?_ (Gives.now rfl)
   rw [hS]
   simp only []
   split <;> simp
/-! Roots rounded up. -/
noncomputable def rtc (v : Int) : Int := if rtf v * rtf v < v then rtf v + 1 else rtf v
theorem rtc_ok {v : Int} (h0 : 0 ≤ v) (h1 : v ≤ 34359738368) : 0 ≤ rtc v ∧ rtc v ≤ 300000 ∧ rtc v * rtc v ≤ v + 524289 ∧ Gives (fun k => T_root_Ceil k v) (fun r => r = rtc v) ∧ Gives (fun k => T_ref02_Ceil k v) (fun r => r = rtc v) := by
 obtain ⟨g, r0, _, r1, r2⟩ := rt_rtf h0 (show v ≤ 4611686018427387904 by omega)
 have g2 := r02_floor h0 (show v ≤ 4611686018427387904 by omega)
 unfold rtc
 generalize rtf v = r at *
 have sm : r ≤ 262144 := by
  refine Decidable.byContradiction fun hn => ?_
  have := Int.mul_le_mul (a := 262145) (b := 262145) (c := r) (d := r) (by omega) (by omega) (by omega) (by omega)
  omega
 have rr := sq_nonneg r
 have e : (r + 1) * (r + 1) = r * r + r + r + 1 := by grind
 refine ⟨by split <;> omega, by split <;> omega, by split <;> omega, ?_, ?_⟩
 · refine Gives.step ?_
   simp only [T_root_Ceil]
   refine Gives.bind g fun x hx => Gives.bind (Q := fun u => u = if r * r < v then r + 1 else r) ?_ fun u hu => Gives.now hu
   subst hx
   rw [w64_id (x := x * x) (by omega) (by omega), w64_id (x := x + 1) (by omega) (by omega)]
   refine Gives.ite (fun c => Gives.now ?_) fun c => Gives.now ?_
   · rw [if_pos (by simp at c; omega)]
   · rw [if_neg (by simp at c; omega)]
 · refine Gives.step ?_
   simp only [T_ref02_Ceil]
   refine Gives.bind g2 fun x hx => ?_
   subst hx
   rw [w64_id (x := x * x) (by omega) (by omega), w64_id (x := x + 1) (by omega) (by omega)]
   refine Gives.ite (fun c => Gives.now ?_) fun c => Gives.now ?_
   · rw [if_pos (by simp at c; omega)]
   · rw [if_neg (by simp at c; omega)]
/-! Upper. -/
def uq (m : Int) (s t : List Int) (p : Int) : Int := -((-(rd s p * rd t p)) / ln m s.length p)
theorem two_mul_le (a b : Int) : 2 * (a * b) ≤ a * a + b * b ∧ -(a * a + b * b) ≤ 2 * (a * b) := by
 have x := sq_nonneg (a - b)
 have y := sq_nonneg (a + b)
 have e1 : (a - b) * (a - b) = a * a + b * b - 2 * (a * b) := by grind
 have e2 : (a + b) * (a + b) = a * a + b * b + 2 * (a * b) := by grind
 omega
theorem up_div {v l : Int} (hl : 1 ≤ l) : v ≤ -(-v / l) * l ∧ -(-v / l) * l ≤ v + l - 1 := by
 have a := Int.mul_ediv_self_le (x := -v) (k := l) (by omega)
 have b := Int.lt_mul_ediv_self_add (x := -v) (k := l) (by omega)
 have e : -(-v / l) * l = -(l * (-v / l)) := by rw [Int.neg_mul, Int.mul_comm]
 omega
theorem uq_bd {m p : Int} {s t : List Int} (h : Dim m s.length) (hl : t.length = s.length) (p0 : 0 ≤ p) (p1 : p < (s.length : Int)) (b : Bd s p) (c : Bd t p) : -(kq m s p + kq m t p + 3) ≤ 2 * uq m s t p ∧ 2 * uq m s t p ≤ kq m s p + kq m t p + 3 := by
 have w := h.len p0 p1
 have a := two_mul_le (rd s p) (rd t p)
 unfold uq kq
 rw [hl]
 generalize ln m s.length p = l at *
 have k1 := Int.lt_mul_ediv_self_add (x := rd s p * rd s p) (k := l) (by omega)
 have k2 := Int.lt_mul_ediv_self_add (x := rd t p * rd t p) (k := l) (by omega)
 have u := up_div (v := rd s p * rd t p) (l := l) w.1
 generalize rd s p * rd t p = v at *
 generalize rd s p * rd s p = x at *
 generalize rd t p * rd t p = y at *
 generalize x / l = kx at *
 generalize y / l = ky at *
 generalize -(-v / l) = z at *
 have e1 : l * kx = kx * l := Int.mul_comm _ _
 have e2 : l * ky = ky * l := Int.mul_comm _ _
 constructor
 · refine Decidable.byContradiction fun hn => ?_
   have := Int.mul_le_mul_of_nonneg_right (show 2 * z + 1 ≤ -(kx + ky + 3) by omega) (show 0 ≤ l by omega)
   have e3 : (2 * z + 1) * l = 2 * (z * l) + l := by grind
   have e4 : -(kx + ky + 3) * l = -(kx * l) - ky * l - 3 * l := by grind
   omega
 · refine Decidable.byContradiction fun hn => ?_
   have := Int.mul_le_mul_of_nonneg_right (show kx + ky + 3 + 1 ≤ 2 * z by omega) (show 0 ≤ l by omega)
   have e3 : 2 * z * l = 2 * (z * l) := by grind
   have e4 : (kx + ky + 3 + 1) * l = kx * l + ky * l + 4 * l := by grind
   omega
theorem sg_uq {m : Int} {s t : List Int} (h : Dim m s.length) (hl : t.length = s.length) : ∀ {j : Nat}, j ≤ s.length → (∀ p, 0 ≤ p → p < (j : Int) → Bd s p ∧ Bd t p) → -(sg (kq m s) j + sg (kq m t) j + 3 * j) ≤ 2 * sg (uq m s t) j ∧ 2 * sg (uq m s t) j ≤ sg (kq m s) j + sg (kq m t) j + 3 * j
 | 0, _, _ => by simp [sg]
 | j + 1, hj, hb => by
  have ih := sg_uq h hl (j := j) (by omega) fun p p0 p1 => hb p p0 (by omega)
  obtain ⟨b, c⟩ := hb j (by omega) (by omega)
  have u := uq_bd h hl (p := (j : Int)) (by omega) (by omega) b c
  rw [sg, sg, sg]
  omega
noncomputable def upV (m : Int) (s t : List Int) (E F : Int) : Int := (sg (uq m s t) s.length + rtc (E - sg (kq m s) s.length) * rtc (F - sg (kq m t) s.length)) / m
theorem floorG {a b : Int} (hb : 0 < b) (h1 : -4611686018427387904 ≤ a) (h2 : a ≤ 4611686018427387904) : (Gives (fun k => T_sketch_floor k a b) (· = a / b)) ∧ Gives (fun k => T_ref04_Down k a b) (· = a / b) ∧ Gives (fun k => T_ref04_Up k a b) (· = -((-a) / b)) := by
 have e := Int.mul_tdiv_add_tmod a b
 have r1 := Int.tmod_lt_of_pos a hb
 have r2 : -b < a.tmod b := by
  have := Int.tmod_lt_of_pos (-a) hb
  rw [Int.neg_tmod] at this
  omega
 have q1 : -4611686018427387904 ≤ a.tdiv b ∧ a.tdiv b ≤ 4611686018427387904 := by
  have h := Int.natAbs_tdiv_le_natAbs a b
  omega
 have dn : a / b = if a.tmod b < 0 then a.tdiv b - 1 else a.tdiv b := by
  split
  · exact ((Int.ediv_emod_unique hb (r := a.tmod b + b) (q := a.tdiv b - 1)).2 ⟨by rw [Int.mul_sub, Int.mul_one]; omega, by omega, by omega⟩).1
  · exact ((Int.ediv_emod_unique hb (r := a.tmod b) (q := a.tdiv b)).2 ⟨by omega, by omega, by omega⟩).1
 have up : -((-a) / b) = if 0 < a.tmod b then a.tdiv b + 1 else a.tdiv b := by
  split
  · have := ((Int.ediv_emod_unique (a := -a) hb (r := b - a.tmod b) (q := -(a.tdiv b) - 1)).2 ⟨by rw [Int.mul_sub, Int.mul_one, Int.mul_neg]; omega, by omega, by omega⟩).1
    omega
  · have := ((Int.ediv_emod_unique (a := -a) hb (r := -(a.tmod b)) (q := -(a.tdiv b))).2 ⟨by rw [Int.mul_neg]; omega, by omega, by omega⟩).1
    omega
 refine ⟨?_, ?_, ?_⟩
 · refine Gives.step ?_
   simp only [T_sketch_floor]
   refine Gives.pos (by omega) (Gives.pos (by omega) (Gives.bind (Q := fun r => r = a / b) ?_ fun r hr => Gives.now hr))
   rw [w64_id (x := a.tdiv b) (by omega) (by omega), w64_id (x := a.tdiv b - 1) (by omega) (by omega), dn]
   exact Gives.ite (fun c => Gives.now (by rw [if_pos c])) fun c => Gives.now (by rw [if_neg c])
 · refine Gives.step ?_
   simp only [T_ref04_Down]
   refine Gives.pos (by omega) (Gives.pos (by omega) (Gives.bind (Q := fun r => r = a / b) ?_ fun r hr => Gives.now hr))
   rw [w64_id (x := a.tdiv b) (by omega) (by omega), w64_id (x := a.tdiv b - 1) (by omega) (by omega), dn]
   exact Gives.ite (fun c => Gives.now (by rw [if_pos c])) fun c => Gives.now (by rw [if_neg c])
 · refine Gives.step ?_
   simp only [T_ref04_Up]
   refine Gives.pos (by omega) (Gives.pos (by omega) (Gives.bind (Q := fun r => r = -((-a) / b)) ?_ fun r hr => Gives.now hr))
   rw [w64_id (x := a.tdiv b) (by omega) (by omega), w64_id (x := a.tdiv b + 1) (by omega) (by omega), up]
   exact Gives.ite (fun c => Gives.now (by rw [if_pos c])) fun c => Gives.now (by rw [if_neg c])
structure Two (m : Int) (s t : List Int) (E F : Int) : Prop where
 a : SkV m s E
 b : SkV m t F
 l : t.length = s.length
theorem Two.bound {m E F : Int} {s t : List Int} (h : Two m s t E F) : (0 ≤ sg (kq m s) s.length ∧ 0 ≤ sg (kq m t) s.length ∧ 0 ≤ E - sg (kq m s) s.length ∧ E - sg (kq m s) s.length ≤ 34359738368 ∧ 0 ≤ F - sg (kq m t) s.length ∧ F - sg (kq m t) s.length ≤ 34359738368) ∧
 (-100000000000 ≤ sg (uq m s t) s.length ∧ sg (uq m s t) s.length ≤ 100000000000 ∧ 0 ≤ rtc (E - sg (kq m s) s.length) * rtc (F - sg (kq m t) s.length) ∧ rtc (E - sg (kq m s) s.length) * rtc (F - sg (kq m t) s.length) ≤ 90000000000) ∧ -1024600000 ≤ upV m s t E F ∧ upV m s t E F ≤ 1024600000 := by
 obtain ⟨A, B, l⟩ := h
 obtain ⟨q1, q2, q3⟩ := cube A.dim.m1 A.dim.m2
 have m1 := A.dim.m1
 have m2 := A.dim.m2
 have n2 := A.dim.n2
 have ka := A.kn
 have kb := B.kn
 rw [l] at kb
 have ga := (sg_kq A.dim (Nat.le_refl _) A.sb).1
 have gb := (sg_kq B.dim (Nat.le_refl _) B.sb).1
 rw [l] at gb
 have a1 := A.e1
 have b1 := B.e1
 have u := sg_uq A.dim l (Nat.le_refl _) fun p p0 p1 => ⟨A.sb p p0 p1, B.sb p p0 (by rw [l]; exact p1)⟩
 unfold upV
 generalize sg (kq m s) s.length = K at *
 generalize sg (kq m t) s.length = L at *
 generalize sg (uq m s t) s.length = U at *
 obtain ⟨x0, x1, x2, _⟩ := rtc_ok (v := E - K) (by omega) (by omega)
 obtain ⟨y0, y1, y2, _⟩ := rtc_ok (v := F - L) (by omega) (by omega)
 generalize rtc (E - K) = x at *
 generalize rtc (F - L) = y at *
 have t2 := two_mul_le x y
 have xy := Int.mul_nonneg x0 y0
 have xb := prod_bound (a := x) (b := y) (A := 300000) (B := 300000) (by omega) (by omega) (by omega) (by omega)
 have mm := prod_bound (a := m) (b := m) (A := 32) (B := 32) (by omega) (by omega) (by omega) (by omega)
 have mm0 := sq_nonneg m
 have eL : -(m * m * 1000000 + 524400) * m = -(m * m * m * 1000000) - m * 524400 := by grind
 have eK : (m * m * 1000000 + 524400) * m = m * m * m * 1000000 + m * 524400 := by grind
 have lo : -(m * m * 1000000 + 524400) ≤ (U + x * y) / m := Int.le_ediv_of_mul_le (by omega) (by omega)
 have hi : (U + x * y) / m ≤ m * m * 1000000 + 524400 := Int.ediv_le_of_le_mul (by omega) (by omega)
 exact ⟨⟨ga, gb, by omega, by omega, by omega, by omega⟩, ⟨by omega, by omega, xy, by omega⟩, by omega, by omega⟩
theorem up_term {m E F p : Int} {s t : List Int} (h : Two m s t E F) (p0 : 0 ≤ p) (p1 : p < (s.length : Int)) : -4398046511104 ≤ rd s p * rd t p ∧ rd s p * rd t p ≤ 4398046511104 ∧ -8796093022210 ≤ uq m s t p ∧ uq m s t p ≤ 8796093022210 ∧ 1 ≤ ln m s.length p ∧ ln m s.length p ≤ 32 ∧ (Bd s p ∧ Bd t p) ∧ -4398046511104 ≤ kq m s p + kq m t p ∧ kq m s p + kq m t p ≤ 8796093022208 := by
 have b := h.a.sb p p0 p1
 have c := h.b.sb p p0 (by rw [h.l]; exact p1)
 have q := prod_bound (a := rd s p) (b := rd t p) (A := 2097152) (B := 2097152) b.1 b.2 c.1 c.2
 have u := uq_bd h.a.dim h.l p0 p1 b c
 have x := kq_bd h.a.dim p0 p1 b
 have y := kq_bd h.b.dim p0 (by rw [h.l]; exact p1) c
 exact ⟨by omega, by omega, by omega, by omega, x.2.2.2.2.1, x.2.2.2.2.2, ⟨b, c⟩, by omega, by omega⟩
theorem sg_part {m E F : Int} {s t : List Int} (h : Two m s t E F) {j : Nat} (hj : j ≤ s.length) : -70368744177680 ≤ sg (uq m s t) j ∧ sg (uq m s t) j ≤ 70368744177680 := by
 have n2 := h.a.dim.n2
 have := sg_bound (f := uq m s t) (B := 8796093022210) (n := j) fun p p0 p1 => by have := up_term h p0 (show p < (s.length : Int) by omega); omega
 omega
theorem sk_upperV {m E F : Int} {s t : List Int} (h : Two m s t E F) : Gives (fun k => T_sketch_upper k m s E m t F) (fun r => r = upV m s t E F) := by
 obtain ⟨⟨k1, k2, k3, k4, k5, k6⟩, ⟨u1, u2, r1, r2⟩, _⟩ := h.bound
 have n1 := h.a.dim.n1
 have n2 := h.a.dim.n2
 have m1 := h.a.dim.m1
 have ea := h.a.e1
 have eb := h.b.e1
 have ea0 := h.a.e0
 have eb0 := h.b.e0
 obtain ⟨q1, q2, q3⟩ := cube h.a.dim.m1 h.a.dim.m2
 obtain ⟨x0, x1, x2, x3, _⟩ := rtc_ok k3 k4
 obtain ⟨y0, y1, y2, y3, _⟩ := rtc_ok k5 k6
 have kb := sk_knownV (E := F) h.b.dim h.b.sb
 rw [h.l] at kb
 refine Gives.step ?_
 simp only [T_sketch_upper]
 refine Gives.bind (sk_lengthsV h.a.dim) fun o ho => ?_
 rw [ho.1]
 refine Gives.bind (Q := fun r => r = sg (uq m s t) s.length) ?_ fun a ha => ?_
 · refine Gives.loop (fun u => 0 ≤ u.2 ∧ u.2 ≤ (s.length : Int) ∧ u.1 = sg (uq m s t) u.2.toNat) (fun u => ((s.length : Int) - u.2).toNat) ?_ ⟨by simp only []; omega, by simp only []; omega, rfl⟩
   intro ⟨a, i⟩ ⟨i1, i2, i3⟩
   simp only at i1 i2 i3
   unfold T_sketch_upper_l1
   simp only []
   have hl := h.l
   refine Gives.ite (fun c => Gives.opt (at_rd i1 (by omega)) (Gives.opt (at_rd i1 (by omega)) (Gives.opt (at_rd i1 (by omega)) ?_))) fun c => Gives.now (by rw [i3, show i.toNat = s.length by omega])
   obtain ⟨v1, v2, v3, v4, v5, v6, v7, v8⟩ := up_term h i1 c
   have g := sg_part h (j := i.toNat) (by omega)
   rw [← i3] at g
   have en : (0 - rd s i) * rd t i = -(rd s i * rd t i) := by grind
   have bd := v7.1
   have b1 := bd.1
   have b2 := bd.2
   rw [ho.2 i i1 c, w64_id (x := 0 - rd s i) (by omega) (by omega), en, w64_id (x := -(rd s i * rd t i)) (by omega) (by omega)]
   refine Gives.bind (floorG (by omega) (by omega) (by omega)).1 fun v hv => ?_
   have ev : v = -uq m s t i := by rw [hv]; unfold uq; omega
   rw [ev, w64_id (x := a - _) (by omega) (by omega), w64_id (x := i + 1) (by omega) (by omega)]
   refine Gives.now ⟨⟨by simp only []; omega, by simp only []; omega, ?_⟩, by simp only []; omega⟩
   simp only []
   rw [show (i + 1).toNat = i.toNat + 1 by omega, sg, ← i3, Int.toNat_of_nonneg i1]
   omega
 subst ha
 refine Gives.bind (sk_knownV h.a.dim h.a.sb) fun v hv => ?_
 subst hv
 rw [w64_id (x := E - _) (by omega) (by omega)]
 refine Gives.bind x3 fun w hw => Gives.bind kb fun v2 hv2 => ?_
 subst hv2
 rw [w64_id (x := F - _) (by omega) (by omega)]
 refine Gives.bind y3 fun w2 hw2 => ?_
 unfold upV
 subst hw hw2
 rw [w64_id (x := rtc _ * rtc _) (by omega) (by omega), w64_id (x := sg (uq m s t) s.length + _) (by omega) (by omega)]
 exact Gives.bind (floorG (by omega) (by omega) (by omega)).1 fun r hr => Gives.now hr

/-! Upper and Gap of sketches of any kind. -/
def mkr (m n : Nat) : Int × Int × Int := (((m / Nat.gcd m n : Nat) : Int), ((n / Nat.gcd m n : Nat) : Int), 0)
theorem mk_make {m n : Int} (hm : 0 ≤ m) (hn : 0 < n) (h1 : m ≤ 2305843009213693952) (h2 : n ≤ 1152921504606846976) : Gives (fun k => T_ratio_Make k m n) (fun r => r = mkr m.toNat n.toNat) := by
 have := ra_Make (m := m.toNat) (n := n.toNat) (by omega) (by omega) (by omega)
 rw [show (m.toNat : Int) = m by omega, show (n.toNat : Int) = n by omega] at this
 exact this
theorem mkr_rep {m n : Nat} (hn : 0 < n) : Rep (m / Nat.gcd m n) (n / Nat.gcd m n) m n := by
 have R := Rep.make (m := m) (n := n) (w := 1) hn
 rw [Nat.mul_one, Nat.mul_one] at R
 exact R
theorem mkr_of {m n P Q : Nat} (hn : 0 < n) (R : Rep P Q m n) : ((P : Int), (Q : Int), (0 : Int)) = mkr m n := by
 obtain ⟨a, b⟩ := R.uniq (mkr_rep hn) hn
 rw [a, b]; rfl
theorem r01_mkr {m n : Int} (hm : 0 ≤ m) (hn : 0 < n) (h1 : m ≤ 2305843009213693952) (h2 : n ≤ 1152921504606846976) : Gives (fun k => T_ref01_Make k m n) (fun r => r = mkr m.toNat n.toNat) := by
 have := r01_make (m := m.toNat) (n := n.toNat) (by omega) (by omega) (by omega)
 rw [show (m.toNat : Int) = m by omega, show (n.toNat : Int) = n by omega] at this
 refine this.mono fun r ⟨P, Q, e, R⟩ => ?_
 rw [e, mkr_of (by omega) R]
theorem mkr01 : mkr 0 1 = (0, 1, 0) := by decide +kernel
theorem mkr11 : mkr 1 1 = (1, 1, 0) := by decide +kernel
theorem mkr21 : mkr 2 1 = (2, 1, 0) := by decide +kernel
theorem mkr_same {m n m' n' : Nat} (hn : 0 < n) (hn' : 0 < n') (h : m * n' = m' * n) : mkr m n = mkr m' n' := by
 obtain ⟨a, b⟩ := (mkr_rep (m := m) hn).same (mkr_rep (m := m') hn') hn hn' h
 unfold mkr
 rw [a, b]
theorem sk_checkG {m E m' F : Int} {s t : List Int} : Gives (fun k => T_sketch_check k m s E m' t F) (fun r => (r = 3 ∧ ¬ (SkV m s E ∧ SkV m' t F)) ∨ ((SkV m s E ∧ SkV m' t F) ∧ ((r = 8 ∧ ¬ (m = m' ∧ s.length = t.length)) ∨ (r = 0 ∧ m = m' ∧ s.length = t.length)))) := by
 refine Gives.step ?_
 simp only [T_sketch_check]
 refine Gives.bind (Q := fun b => (b = true ∧ ¬ (SkV m s E ∧ SkV m' t F)) ∨ (b = false ∧ SkV m s E ∧ SkV m' t F)) ?_ fun b hb => ?_
 · refine Gives.bind sk_validG fun a ha => ?_
   rcases ha with ⟨rfl, ha⟩ | ⟨rfl, ha⟩
   · refine Gives.neg (by simp) (Gives.bind sk_validG fun c hc => Gives.now ?_)
     rcases hc with ⟨rfl, hc⟩ | ⟨rfl, hc⟩
     · exact .inr ⟨rfl, ha, hc⟩
     · exact .inl ⟨rfl, fun q => hc q.2⟩
   · exact Gives.pos (by simp) (Gives.now (.inl ⟨rfl, fun q => ha q.1⟩))
 · rcases hb with ⟨rfl, hb⟩ | ⟨rfl, hb⟩
   · exact Gives.pos rfl (Gives.now (.inl ⟨rfl, hb⟩))
   · refine Gives.neg (by simp) (Gives.ite (fun c => Gives.now (.inr ⟨hb, .inl ⟨rfl, fun q => ?_⟩⟩)) fun c => Gives.now (.inr ⟨hb, .inr ⟨rfl, ?_⟩⟩))
     · simp at c; omega
     · simp at c; omega
theorem r21_upperG {m E m' F : Int} {s t : List Int} : Gives (fun k => T_ref21_Upper k m s E m' t F) (fun r => (r = (0, 3) ∧ ¬ (SkV m s E ∧ SkV m' t F)) ∨ ((SkV m s E ∧ SkV m' t F) ∧ ((r = (0, 8) ∧ ¬ (m = m' ∧ s.length = t.length)) ∨ (r = (upV m s t E F, 0) ∧ m = m' ∧ s.length = t.length)))) := by
 refine Gives.step ?_
 simp only [T_ref21_Upper]
 refine Gives.bind r21_residual fun a ha => Gives.bind r21_residual fun b hb => ?_
 rcases ha.symm with ⟨va, ha⟩ | ⟨va, rfl⟩
 · exact Gives.pos (by simp [ha]) (Gives.now (.inl ⟨rfl, fun q => va q.1⟩))
 rcases hb.symm with ⟨vb, hb⟩ | ⟨vb, rfl⟩
 · exact Gives.pos (by simp [hb]) (Gives.now (.inl ⟨rfl, fun q => vb q.2⟩))
 refine Gives.neg (by simp) (Gives.ite (fun c => Gives.now (.inr ⟨⟨va, vb⟩, .inl ⟨rfl, fun q => ?_⟩⟩)) fun c => ?_)
 · simp at c; omega
 obtain ⟨rfl, hl⟩ : m = m' ∧ s.length = t.length := by simp at c; omega
 have h : Two m s t E F := ⟨va, vb, hl.symm⟩
 obtain ⟨⟨k1, k2, k3, k4, k5, k6⟩, ⟨u1, u2, r1, r2⟩, _⟩ := h.bound
 rw [← hl]
 have n1 := va.dim.n1
 have n2 := va.dim.n2
 have m1 := va.dim.m1
 obtain ⟨x0, x1, x2, _, x3⟩ := rtc_ok k3 k4
 obtain ⟨y0, y1, y2, _, y3⟩ := rtc_ok k5 k6
 refine Gives.bind (f18_startsV va.dim) fun S hS => Gives.bind x3 fun x hx => Gives.bind y3 fun y hy => ?_
 obtain ⟨S1, S2, S3⟩ := hS
 subst hx hy
 rw [w64_id (x := rtc _ * rtc _) (by omega) (by omega)]
 refine Gives.bind (Q := fun r => r = sg (uq m s t) s.length + rtc (E - sg (kq m s) s.length) * rtc (F - sg (kq m t) s.length)) ?_ fun r hr => ?_
 · generalize rtc (E - sg (kq m s) s.length) * rtc (F - sg (kq m t) s.length) = R at *
   refine Gives.loop (fun u => 0 ≤ u.2 ∧ u.2 ≤ (s.length : Int) ∧ u.1 = sg (uq m s t) u.2.toNat + R) (fun u => ((s.length : Int) - u.2).toNat) ?_ ⟨by simp only []; omega, by simp only []; omega, by simp [sg]⟩
   intro ⟨a, i⟩ ⟨i1, i2, i3⟩
   simp only at i1 i2 i3
   unfold T_ref21_Upper_l1
   simp only []
   rw [w64_id (x := i + 1) (by omega) (by omega)]
   refine Gives.ite (fun c => Gives.opt (at_rd i1 c) (Gives.opt (at_rd i1 (by omega)) (Gives.opt (at_rd (by omega) (by omega)) (Gives.opt (at_rd i1 (by omega)) ?_)))) fun c => Gives.now (by rw [i3, show i.toNat = s.length by omega])
   obtain ⟨v1, v2, v3, v4, v5, v6, _⟩ := up_term h i1 c
   have g := sg_part h (j := i.toNat) (by omega)
   have el : cut m s.length (i + 1) - cut m s.length i = ln m s.length i := rfl
   rw [S3 (i + 1) (by omega) (by omega), S3 i i1 (by omega), el, w64_id (x := ln m s.length i) (by omega) (by omega), w64_id (x := rd s i * rd t i) (by omega) (by omega)]
   refine Gives.bind (floorG (by omega) (by omega) (by omega)).2.2 fun v hv => ?_
   have ev : v = uq m s t i := hv
   rw [ev, w64_id (x := a + _) (by omega) (by omega)]
   refine Gives.now ⟨⟨by simp only []; omega, by simp only []; omega, ?_⟩, by simp only []; omega⟩
   simp only []
   rw [show (i + 1).toNat = i.toNat + 1 by omega, sg, Int.toNat_of_nonneg i1]
   omega
 · subst hr
   exact Gives.bind (floorG (by omega) (by omega) (by omega)).2.1 fun v hv => Gives.now (.inr ⟨⟨va, vb⟩, .inr ⟨by rw [hv]; rfl, rfl, rfl⟩⟩)
theorem ag_upper {m E m' F : Int} {s t : List Int} : Agree (fun k => T_sketch_Upper k m s E m' t F) (fun k => T_ref21_Upper k m s E m' t F) (fun _ => True) := by
 refine Agree.both (P := fun r => (r = (0, 3) ∧ ¬ (SkV m s E ∧ SkV m' t F)) ∨ ((SkV m s E ∧ SkV m' t F) ∧ ((r = (0, 8) ∧ ¬ (m = m' ∧ s.length = t.length)) ∨ (r = (upV m s t E F, 0) ∧ m = m' ∧ s.length = t.length)))) ?_ r21_upperG ?_ fun _ _ => trivial
 · refine Gives.step ?_
   simp only [T_sketch_Upper]
   refine Gives.bind sk_checkG fun e he => ?_
   rcases he with ⟨rfl, he⟩ | ⟨he, ⟨rfl, he2⟩ | ⟨rfl, rfl, hl⟩⟩
   · exact Gives.pos (by simp) (Gives.now (.inl ⟨rfl, he⟩))
   · exact Gives.pos (by simp) (Gives.now (.inr ⟨he, .inl ⟨rfl, he2⟩⟩))
   · exact Gives.neg (by simp) (Gives.bind (sk_upperV ⟨he.1, he.2, hl.symm⟩) fun r hr => Gives.now (.inr ⟨he, .inr ⟨by rw [hr], rfl, hl⟩⟩))
 · intro a b ha hb
   rcases ha with ⟨rfl, ha⟩ | ⟨ha, ⟨rfl, ha2⟩ | ⟨rfl, ha2⟩⟩ <;> rcases hb with ⟨rfl, hb⟩ | ⟨hb, ⟨rfl, hb2⟩ | ⟨rfl, hb2⟩⟩ <;> first | rfl | exact absurd ha hb | exact absurd hb ha | exact absurd ha2 hb2 | exact absurd hb2 ha2
/-- The gap, for two energies and a bound. -/
def gapV (u v w : Int) : Int × Int × Int := if v = 0 ∧ w = 0 then (0, 1, 0) else if v = 0 ∨ w = 0 then (1, 1, 0) else if u < 0 then mkr (v * w + imin (v * w) (u * u)).toNat (v * w).toNat else mkr (v * w - imin (v * w) (u * u)).toNat (v * w).toNat
theorem SkV.self {m E : Int} {s : List Int} (h : SkV m s E) : ∃ v, E.tdiv m = v ∧ 0 ≤ v ∧ v ≤ 1024000000 ∧ (E = 0 ↔ v = 0) ∧ E / m = v := by
 have m1 := h.dim.m1
 have m2 := h.dim.m2
 have e0 := h.e0
 have e1 := h.e1
 have e2 := h.e2
 have mm := prod_bound (a := m) (b := m) (A := 32) (B := 32) (by omega) (by omega) (by omega) (by omega)
 have em := Int.mul_ediv_add_emod E m
 have eK : (m * m * 1000000) * m = m * m * m * 1000000 := by grind
 have hi : E / m ≤ m * m * 1000000 := Int.ediv_le_of_le_mul (by omega) (by omega)
 refine ⟨E / m, Int.tdiv_eq_ediv_of_nonneg e0, Int.ediv_nonneg e0 (by omega), by omega, ⟨fun z => by rw [z]; simp, fun z => ?_⟩, rfl⟩
 rw [z] at em
 simp at em
 omega
theorem ag_gap {m E m' F : Int} {s t : List Int} : Agree (fun k => T_sketch_Gap k m s E m' t F) (fun k => T_ref21_Gap k m s E m' t F) (fun _ => True) := by
 refine Agree.both (P := fun r => (r = (0, 0, 3) ∧ ¬ (SkV m s E ∧ SkV m' t F)) ∨ ((SkV m s E ∧ SkV m' t F) ∧ ((r = (0, 0, 8) ∧ ¬ (m = m' ∧ s.length = t.length)) ∨ (r = gapV (upV m s t E F) (E / m) (F / m) ∧ m = m' ∧ s.length = t.length))))
  (P' := fun r => (r = (0, 0, 3) ∧ ¬ (SkV m s E ∧ SkV m' t F)) ∨ ((SkV m s E ∧ SkV m' t F) ∧ ((r = (0, 0, 8) ∧ ¬ (m = m' ∧ s.length = t.length)) ∨ (r = gapV (upV m s t E F) (E / m) (F / m) ∧ m = m' ∧ s.length = t.length)))) ?_ ?_ ?_ fun _ _ => trivial
 · refine Gives.step ?_
   simp only [T_sketch_Gap]
   refine Gives.bind sk_checkG fun e he => ?_
   rcases he with ⟨rfl, he⟩ | ⟨he, ⟨rfl, he2⟩ | ⟨rfl, rfl, hl⟩⟩
   · exact Gives.pos (by simp) (Gives.now (.inl ⟨rfl, he⟩))
   · exact Gives.pos (by simp) (Gives.now (.inr ⟨he, .inl ⟨rfl, he2⟩⟩))
   · have h : Two m s t E F := ⟨he.1, he.2, hl.symm⟩
     have m1 := he.1.dim.m1
     obtain ⟨_, _, u1, u2⟩ := h.bound
     obtain ⟨v, t1, v0, v1, z1, hv⟩ := he.1.self
     obtain ⟨w, t2, w0, w1, z2, hw⟩ := he.2.self
     refine Gives.neg (by simp) (Gives.pos (by omega) (Gives.pos (by omega) (Gives.bind (sk_upperV h) fun u hu => ?_)))
     rw [← hu] at u1 u2
     refine Gives.mono (Q := fun r => r = gapV u v w) ?_ fun r hr => .inr ⟨he, .inr ⟨by rw [hr, hu, hv, hw], rfl, hl⟩⟩
     clear hu
     rw [t1, t2, w64_id (x := v) (by omega) (by omega), w64_id (x := w) (by omega) (by omega)]
     clear t1 t2 hv hw
     unfold gapV
     have q := prod_bound (a := v) (b := w) (A := 1024000000) (B := 1024000000) (by omega) (by omega) (by omega) (by omega)
     have q0 := Int.mul_nonneg v0 w0
     have q2 := prod_bound (a := u) (b := u) (A := 1024600000) (B := 1024600000) (by omega) (by omega) (by omega) (by omega)
     have q3 := sq_nonneg u
     have im : 0 ≤ imin (v * w) (u * u) ∧ imin (v * w) (u * u) ≤ v * w := by unfold imin; split <;> omega
     rw [w64_id (x := v * w) (by omega) (by omega), w64_id (x := u * u) (by omega) (by omega), w64_id (x := v * w + imin (v * w) (u * u)) (by omega) (by omega), w64_id (x := v * w - imin (v * w) (u * u)) (by omega) (by omega)]
     by_cases c1 : v = 0 ∧ w = 0
     · rw [if_pos c1]
       exact Gives.pos (by simp [z1.2 c1.1, z2.2 c1.2]) (Gives.bind (mk_make (m := 0) (n := 1) (by omega) (by omega) (by omega) (by omega)) fun r hr => Gives.now (by rw [hr]; exact mkr01))
     rw [if_neg c1]
     refine Gives.neg (by rw [Bool.and_eq_true, decide_eq_true_eq, decide_eq_true_eq, z1, z2]; exact c1) ?_
     by_cases c2 : v = 0 ∨ w = 0
     · rw [if_pos c2]
       have : v * w = 0 := by rcases c2 with c | c <;> rw [c] <;> simp
       exact Gives.pos this (Gives.bind (mk_make (m := 1) (n := 1) (by omega) (by omega) (by omega) (by omega)) fun r hr => Gives.now (by rw [hr]; exact mkr11))
     rw [if_neg c2]
     have p := Int.mul_pos (show 0 < v by omega) (show 0 < w by omega)
     refine Gives.neg (by omega) ?_
     by_cases c3 : u < 0
     · rw [if_pos c3]
       exact Gives.pos c3 (Gives.bind (mk_make (by omega) p (by omega) (by omega)) fun r hr => Gives.now (by rw [hr]))
     · rw [if_neg c3]
       exact Gives.neg c3 (Gives.bind (mk_make (by omega) p (by omega) (by omega)) fun r hr => Gives.now (by rw [hr]))
 · refine Gives.step ?_
   simp only [T_ref21_Gap]
   refine Gives.bind r21_upperG fun e he => ?_
   rcases he with ⟨rfl, he⟩ | ⟨he, ⟨rfl, he2⟩ | ⟨he2, rfl, hl⟩⟩
   · exact Gives.pos (by simp) (Gives.now (.inl ⟨rfl, he⟩))
   · exact Gives.pos (by simp) (Gives.now (.inr ⟨he, .inl ⟨rfl, he2⟩⟩))
   · have h : Two m s t E F := ⟨he.1, he.2, hl.symm⟩
     have m1 := he.1.dim.m1
     obtain ⟨_, _, u1, u2⟩ := h.bound
     obtain ⟨v, t1, v0, v1, z1, hv⟩ := he.1.self
     obtain ⟨w, t2, w0, w1, z2, hw⟩ := he.2.self
     obtain ⟨u, ee⟩ := e
     obtain ⟨hu, rfl⟩ := Prod.mk.inj he2
     rw [← hu] at u1 u2
     refine Gives.neg (by simp) (Gives.pos (by omega) (Gives.pos (by omega) ?_))
     refine Gives.mono (Q := fun r => r = gapV u v w) ?_ fun r hr => .inr ⟨he, .inr ⟨by rw [hr, hu, hv, hw], rfl, hl⟩⟩
     clear hu he2
     rw [t1, t2, w64_id (x := v) (by omega) (by omega), w64_id (x := w) (by omega) (by omega)]
     clear t1 t2 hv hw
     unfold gapV
     simp only []
     have q := prod_bound (a := v) (b := w) (A := 1024000000) (B := 1024000000) (by omega) (by omega) (by omega) (by omega)
     have q0 := Int.mul_nonneg v0 w0
     have q2 := prod_bound (a := u) (b := u) (A := 1024600000) (B := 1024600000) (by omega) (by omega) (by omega) (by omega)
     have q3 := sq_nonneg u
     rw [w64_id (x := v * w) (by omega) (by omega), w64_id (x := u * u) (by omega) (by omega)]
     by_cases c1 : v = 0 ∧ w = 0
     · rw [if_pos c1]
       refine Gives.neg (by simp [c1.1]) (Gives.neg (by simp [c1.1]) (Gives.bind (Q := fun r => r = (0, 1)) (Gives.step ?_) fun r hr => Gives.now (by rw [hr])))
       simp only [T_ref13_Between]
       exact Gives.bind (Q := fun r => r = (0, 1)) (Gives.pos (by simp [c1.1, c1.2]) (Gives.now rfl)) fun r hr => Gives.now hr
     rw [if_neg c1]
     by_cases c2 : v = 0 ∨ w = 0
     · rw [if_pos c2]
       have f1 : ¬ (0 < v ∧ 0 < w) := by omega
       refine Gives.neg (by simp; omega) (Gives.neg (by simp; omega) (Gives.bind (Q := fun r => r = (1, 1)) (Gives.step ?_) fun r hr => Gives.now (by rw [hr])))
       simp only [T_ref13_Between]
       exact Gives.bind (Q := fun r => r = (1, 1)) (Gives.neg (by simp; omega) (Gives.neg (by simp; omega) (Gives.neg (by simp; omega) (Gives.now rfl)))) fun r hr => Gives.now hr
     rw [if_neg c2]
     have p := Int.mul_pos (show 0 < v by omega) (show 0 < w by omega)
     have tn : ((v * w).toNat : Int) = v * w := by omega
     by_cases c3 : v * w ≤ u * u
     · have ei : imin (v * w) (u * u) = v * w := by unfold imin; split <;> omega
       rw [ei, Int.sub_self]
       have m0 : mkr (0 : Int).toNat (v * w).toNat = (0, 1, 0) := by
        rw [← mkr01]
        exact mkr_same (by omega) (by omega) (by simp)
       have m2 : mkr (v * w + v * w).toNat (v * w).toNat = (2, 1, 0) := by
        rw [← mkr21]
        exact mkr_same (by omega) (by omega) (by omega)
       by_cases c4 : u < 0
       · rw [if_pos c4, m2]
         exact Gives.neg (by simp; omega) (Gives.pos (by simp; omega) (Gives.now rfl))
       · rw [if_neg c4, m0]
         exact Gives.pos (by simp; omega) (Gives.now rfl)
     · have ei : imin (v * w) (u * u) = u * u := by unfold imin; split <;> omega
       rw [ei]
       refine Gives.neg (by simp; omega) (Gives.neg (by simp; omega) ?_)
       by_cases c4 : u < 0
       · rw [if_pos c4]
         refine Gives.bind (Q := fun r => (r.1, r.2, (0 : Int)) = mkr (v * w + u * u).toNat (v * w).toNat) (Gives.step ?_) fun r hr => Gives.now hr
         simp only [T_ref13_Between]
         rw [w64_id (x := v * w) (by omega) (by omega), w64_id (x := u * u) (by omega) (by omega), w64_id (x := v * w + u * u) (by omega) (by omega)]
         refine Gives.bind (Q := fun r => (r.1, r.2, (0 : Int)) = mkr (v * w + u * u).toNat (v * w).toNat) (Gives.neg (by simp; omega) (Gives.neg (by simp; omega) (Gives.pos (by simp; omega) (Gives.bind (r01_mkr (by omega) p (by omega) (by omega)) fun r hr => Gives.now (by rw [hr]; rfl))))) fun r hr => Gives.now hr
       · rw [if_neg c4]
         refine Gives.bind (Q := fun r => (r.1, r.2, (0 : Int)) = mkr (v * w - u * u).toNat (v * w).toNat) (Gives.step ?_) fun r hr => Gives.now hr
         simp only [T_ref13_Between]
         rw [w64_id (x := v * w) (by omega) (by omega), w64_id (x := u * u) (by omega) (by omega), w64_id (x := v * w - u * u) (by omega) (by omega)]
         refine Gives.bind (Q := fun r => (r.1, r.2, (0 : Int)) = mkr (v * w - u * u).toNat (v * w).toNat) (Gives.neg (by simp; omega) (Gives.pos (by simp; omega) (Gives.bind (r01_mkr (by omega) p (by omega) (by omega)) fun r hr => Gives.now (by rw [hr]; rfl)))) fun r hr => Gives.now hr
 · intro a b ha hb
   rcases ha with ⟨rfl, ha⟩ | ⟨ha, ⟨rfl, ha2⟩ | ⟨rfl, ha2⟩⟩ <;> rcases hb with ⟨rfl, hb⟩ | ⟨hb, ⟨rfl, hb2⟩ | ⟨rfl, hb2⟩⟩ <;> first | rfl | exact absurd ha hb | exact absurd hb ha | exact absurd ha2 hb2 | exact absurd hb2 ha2

/-! Regions, for sketches of any kind. -/
def dpV (q : Int) (v : Int × Int) : Int := imax (imax 0 (16 * v.1 - (q + 1))) (q - 16 * (v.2 + 1))
def IvOk (v : Int × Int) : Prop := -1099511627776 ≤ v.1 ∧ v.1 ≤ 1099511627776 ∧ -1099511627776 ≤ v.2 ∧ v.2 ≤ 1099511627776
def All (l : List (Int × Int)) : Prop := ∀ p, 0 ≤ p → p < (l.length : Int) → IvOk (rpi l p)
def Em (l : List (Int × Int)) : Prop := ∃ p, 0 ≤ p ∧ p < (l.length : Int) ∧ (rpi l p).2 < (rpi l p).1
def Zr (l : List (Int × Int)) : Prop := ∀ p, 0 ≤ p → p < (l.length : Int) → (rpi l p).1 ≤ 0 ∧ 0 ≤ (rpi l p).2
theorem sl_minV {xs : List Int} (h : 1 ≤ xs.length) (hl : xs.length ≤ 1000) : Gives (fun k => T_slices_Min_b354 k xs) (fun r => (∃ i, 0 ≤ i ∧ i < (xs.length : Int) ∧ r = rd xs i) ∧ ∀ i, 0 ≤ i → i < (xs.length : Int) → r ≤ rd xs i) := by
 refine Gives.step ?_
 simp only [T_slices_Min_b354]
 refine Gives.neg (by omega) (Gives.opt (at_rd (by omega) (by omega)) (Gives.bind (Q := fun r => (∃ i, 0 ≤ i ∧ i < (xs.length : Int) ∧ r = rd xs i) ∧ ∀ i, 0 ≤ i → i < (xs.length : Int) → r ≤ rd xs i) ?_ fun r hr => Gives.now hr))
 refine Gives.loop (fun t => 0 ≤ t.2 ∧ t.2 ≤ (xs.length : Int) ∧ (∃ i, 0 ≤ i ∧ i < (xs.length : Int) ∧ t.1 = rd xs i) ∧ ∀ i, 0 ≤ i → i < t.2 → t.1 ≤ rd xs i) (fun t => ((xs.length : Int) - t.2).toNat) ?_ ⟨by simp only []; omega, by simp only []; omega, ⟨0, by omega, by omega, rfl⟩, fun i i0 i1 => by simp only at i1 ⊢; rw [show i = 0 by omega]; exact Int.le_refl _⟩
 intro ⟨m, i⟩ ⟨i1, i2, ⟨j, j0, j1, j2⟩, i3⟩
 simp only at i1 i2 j2 i3
 unfold T_slices_Min_b354_l1
 simp only []
 refine Gives.ite (fun c => Gives.opt (at_rd i1 c) ?_) fun c => Gives.now ⟨⟨j, j0, j1, j2⟩, fun q q0 q1 => i3 q q0 (by omega)⟩
 rw [w64_id (x := i + 1) (by omega) (by omega)]
 have im : imin m (rd xs i) ≤ m ∧ imin m (rd xs i) ≤ rd xs i ∧ (imin m (rd xs i) = m ∨ imin m (rd xs i) = rd xs i) := by unfold imin; split <;> omega
 refine Gives.now ⟨⟨by simp only []; omega, by simp only []; omega, ?_, fun q q0 q1 => ?_⟩, by simp only []; omega⟩
 · rcases im.2.2 with e | e
   · exact ⟨j, j0, j1, by simp only []; omega⟩
   · exact ⟨i, i1, c, e⟩
 · simp only at q1 ⊢
   by_cases e : q = i
   · subst e; omega
   · have := i3 q q0 (by omega); omega
theorem sl_maxV {xs : List Int} (h : 1 ≤ xs.length) (hl : xs.length ≤ 1000) : Gives (fun k => T_slices_Max_b354 k xs) (fun r => (∃ i, 0 ≤ i ∧ i < (xs.length : Int) ∧ r = rd xs i) ∧ ∀ i, 0 ≤ i → i < (xs.length : Int) → rd xs i ≤ r) := by
 refine Gives.step ?_
 simp only [T_slices_Max_b354]
 refine Gives.neg (by omega) (Gives.opt (at_rd (by omega) (by omega)) (Gives.bind (Q := fun r => (∃ i, 0 ≤ i ∧ i < (xs.length : Int) ∧ r = rd xs i) ∧ ∀ i, 0 ≤ i → i < (xs.length : Int) → rd xs i ≤ r) ?_ fun r hr => Gives.now hr))
 refine Gives.loop (fun t => 0 ≤ t.2 ∧ t.2 ≤ (xs.length : Int) ∧ (∃ i, 0 ≤ i ∧ i < (xs.length : Int) ∧ t.1 = rd xs i) ∧ ∀ i, 0 ≤ i → i < t.2 → rd xs i ≤ t.1) (fun t => ((xs.length : Int) - t.2).toNat) ?_ ⟨by simp only []; omega, by simp only []; omega, ⟨0, by omega, by omega, rfl⟩, fun i i0 i1 => by simp only at i1 ⊢; rw [show i = 0 by omega]; exact Int.le_refl _⟩
 intro ⟨m, i⟩ ⟨i1, i2, ⟨j, j0, j1, j2⟩, i3⟩
 simp only at i1 i2 j2 i3
 unfold T_slices_Max_b354_l1
 simp only []
 refine Gives.ite (fun c => Gives.opt (at_rd i1 c) ?_) fun c => Gives.now ⟨⟨j, j0, j1, j2⟩, fun q q0 q1 => i3 q q0 (by omega)⟩
 rw [w64_id (x := i + 1) (by omega) (by omega)]
 have im : m ≤ imax m (rd xs i) ∧ rd xs i ≤ imax m (rd xs i) ∧ (imax m (rd xs i) = m ∨ imax m (rd xs i) = rd xs i) := by unfold imax; split <;> omega
 refine Gives.now ⟨⟨by simp only []; omega, by simp only []; omega, ?_, fun q q0 q1 => ?_⟩, by simp only []; omega⟩
 · rcases im.2.2 with e | e
   · exact ⟨j, j0, j1, by simp only []; omega⟩
   · exact ⟨i, i1, c, e⟩
 · simp only at q1 ⊢
   by_cases e : q = i
   · subst e; omega
   · have := i3 q q0 (by omega); omega
theorem lens2 {m n : Int} (h : Dim m n) : ∃ q, 1 ≤ q ∧ q ≤ 32 ∧ m / n = q ∧ (2 ≤ n → q ≤ 16) ∧ ∀ p, 0 ≤ p → p < n → ln m n p = q ∨ ln m n p = q + 1 := by
 obtain ⟨m1, m2, n1, n2, n3⟩ := h
 obtain ⟨a, rfl⟩ : ∃ a : Nat, m = a := ⟨m.toNat, by omega⟩
 obtain ⟨b, rfl⟩ : ∃ b : Nat, n = b := ⟨n.toNat, by omega⟩
 have d0 : 1 ≤ a / b := Nat.div_pos (by omega) (by omega)
 have d1 : a / b ≤ 32 := Nat.le_trans (Nat.div_le_self _ _) (by omega)
 refine ⟨((a / b : Nat) : Int), by omega, by omega, rfl, fun h2 => ?_, fun p p0 p1 => two_lens (by omega) (by omega) (by omega) (by omega) p0 p1⟩
 have : a / b ≤ a / 2 := Nat.div_le_div_left (by omega) (by omega)
 omega
theorem outC {o : List Int} {m n : Int} (h : Dim m n) (hl : (o.length : Int) = n) (ho : ∀ p, 0 ≤ p → p < n → rd o p = ln m n p) {mn mx : Int}
 (a : (∃ i, 0 ≤ i ∧ i < (o.length : Int) ∧ mn = rd o i) ∧ ∀ i, 0 ≤ i → i < (o.length : Int) → mn ≤ rd o i) (b : (∃ i, 0 ≤ i ∧ i < (o.length : Int) ∧ mx = rd o i) ∧ ∀ i, 0 ≤ i → i < (o.length : Int) → rd o i ≤ mx) :
 ∃ (C : Int) (K : Int → Int), (if mx = mn then 2097152 * mn else 2097152 * mn * mx) = C ∧ (1 ≤ mn ∧ mn ≤ 32 ∧ 1 ≤ mx ∧ mx ≤ 32) ∧ 2097152 ≤ C ∧ C ≤ 570425344 ∧ ∀ p, 0 ≤ p → p < n → 1 ≤ K p ∧ K p ≤ 17 ∧ C = 2097152 * ln m n p * K p := by
 obtain ⟨q, q1, q2, _, q3, q4⟩ := lens2 h
 obtain ⟨⟨i, i0, i1, i2⟩, a2⟩ := a
 obtain ⟨⟨j, j0, j1, j2⟩, b2⟩ := b
 have wi := q4 i i0 (by omega)
 have wj := q4 j j0 (by omega)
 have vi := h.len i0 (show i < n by omega)
 have vj := h.len j0 (show j < n by omega)
 rw [ho i i0 (by omega)] at i2
 rw [ho j j0 (by omega)] at j2
 by_cases c : mx = mn
 · refine ⟨_, fun _ => 1, rfl, by omega, ?_⟩
   rw [if_pos c]
   refine ⟨by omega, by omega, fun p p0 p1 => ?_⟩
   have x := a2 p p0 (by omega)
   have y := b2 p p0 (by omega)
   rw [ho p p0 p1] at x y
   show 1 ≤ (1 : Int) ∧ (1 : Int) ≤ 17 ∧ 2097152 * mn = 2097152 * ln m n p * 1
   omega
 · have ne : i ≠ j := fun e => by subst e; omega
   have q16 := q3 (by omega)
   have x := a2 j j0 (by omega)
   rw [ho j j0 (by omega)] at x
   have em : mn = q := by omega
   have ex : mx = q + 1 := by omega
   refine ⟨_, fun p => if ln m n p = q then q + 1 else q, rfl, by omega, ?_⟩
   rw [if_neg c, em, ex]
   have qq := prod_bound (a := q) (b := q + 1) (A := 16) (B := 17) (by omega) (by omega) (by omega) (by omega)
   have qq1 := Int.mul_le_mul (a := 1) (b := 1) (c := q) (d := q + 1) (by omega) (by omega) (by omega) (by omega)
   rw [Int.mul_assoc]
   refine ⟨by omega, by omega, fun p p0 p1 => ?_⟩
   simp only []
   rcases q4 p p0 p1 with e | e
   · rw [if_pos e, e]
     exact ⟨by omega, by omega, by rw [Int.mul_assoc]⟩
   · rw [if_neg (by omega), e]
     exact ⟨by omega, by omega, by rw [Int.mul_assoc, Int.mul_comm q]⟩
theorem SkV.arg {m E p : Int} {s : List Int} (h : SkV m s E) (p0 : 0 ≤ p) (p1 : p < (s.length : Int)) : -1048576000 ≤ 1024 * rd s p ∧ 1024 * rd s p ≤ 1048576000 := by
 have kn := h.kn
 have e1 := h.e1
 obtain ⟨q1, q2, q3⟩ := cube h.dim.m1 h.dim.m2
 have t := sg_term (f := kq m s) (n := s.length) (fun i i0 i1 => (kq_bd h.dim i0 i1 (h.sb i i0 i1)).1) p p0 p1
 have w := h.dim.len p0 p1
 have lt := Int.lt_mul_ediv_self_add (x := rd s p * rd s p) (k := ln m s.length p) (by omega)
 have ek : rd s p * rd s p / ln m s.length p = kq m s p := rfl
 rw [ek] at lt
 have kb := (kq_bd h.dim p0 p1 (h.sb p p0 p1)).1
 have mb := Int.mul_le_mul (a := ln m s.length p) (b := kq m s p) (c := 32) (d := 32768000000) w.2 (by omega) kb (by omega)
 constructor
 · refine Decidable.byContradiction fun hn => ?_
   have := Int.mul_le_mul (a := 1024001) (b := 1024001) (c := -rd s p) (d := -rd s p) (by omega) (by omega) (by omega) (by omega)
   rw [Int.neg_mul_neg] at this
   omega
 · refine Decidable.byContradiction fun hn => ?_
   have := Int.mul_le_mul (a := 1024001) (b := 1024001) (c := rd s p) (d := rd s p) (by omega) (by omega) (by omega) (by omega)
   omega
/-- How far a piece's coordinate lies outside. -/
noncomputable def dist (s : List Int) (E : Int) (l : List (Int × Int)) (p : Int) : Int := dpV (QQ (1024 * rd s p) E) (rpi l p)
theorem dist_ok {m E p : Int} {s : List Int} {l : List (Int × Int)} (h : SkV m s E) (hE : 1 ≤ E) (hl : l.length = s.length) (ha : All l) (p0 : 0 ≤ p) (p1 : p < (s.length : Int)) : (Gives (fun k => T_root_Quotient k (w64 (1024 * rd s p)) E) (fun r => r = (QQ (1024 * rd s p) E, 0)) ∧ Gives (fun k => T_ref02_Quotient k (w64 (1024 * rd s p)) E) (fun r => r = (QQ (1024 * rd s p) E, 0))) ∧
 imax (imax 0 (w64 (w64 (16 * (rpi l p).1) - w64 (QQ (1024 * rd s p) E + 1)))) (w64 (QQ (1024 * rd s p) E - w64 (16 * w64 ((rpi l p).2 + 1)))) = dist s E l p ∧ 0 ≤ dist s E l p := by
 have a := h.arg p0 p1
 obtain ⟨q1, q2, q3⟩ := cube h.dim.m1 h.dim.m2
 have e1 := h.e1
 have r := rq (t := 1024 * rd s p) (e := E) ⟨by omega, by omega, by omega, by omega⟩
 have r2 := r02_quotient (t := 1024 * rd s p) (e := E) ⟨by omega, by omega, by omega, by omega⟩
 have iv := ha p p0 (by omega)
 unfold IvOk at iv
 rw [w64_id (x := 1024 * rd s p) (by omega) (by omega)]
 refine ⟨⟨r.1, r2⟩, ?_, ?_⟩
 · unfold dist dpV
   rw [w64_id (x := 16 * (rpi l p).1) (by omega) (by omega), w64_id (x := QQ (1024 * rd s p) E + 1) (by omega) (by omega), w64_id (x := (rpi l p).2 + 1) (by omega) (by omega), w64_id (x := 16 * ((rpi l p).2 + 1)) (by omega) (by omega), w64_id (x := 16 * (rpi l p).1 - _) (by omega) (by omega), w64_id (x := QQ (1024 * rd s p) E - _) (by omega) (by omega)]
 · unfold dist dpV imax
   split <;> split <;> omega
noncomputable def totV (s : List Int) (E : Int) (l : List (Int × Int)) (K : Int → Int) (j : Nat) : Int := sg (fun p => dist s E l p * dist s E l p * K p) j
theorem totV_succ {s : List Int} {E : Int} {l : List (Int × Int)} {K : Int → Int} {i : Int} (i0 : 0 ≤ i) : totV s E l K (i + 1).toNat = totV s E l K i.toNat + dist s E l i * dist s E l i * K i := by
 unfold totV
 rw [show (i + 1).toNat = i.toNat + 1 by omega, sg, Int.toNat_of_nonneg i0]
theorem sk_outsideV {m E : Int} {s : List Int} {l : List (Int × Int)} (h : SkV m s E) (hE : 1 ≤ E) (hl : l.length = s.length) (ha : All l) : ∃ (C : Int) (K : Int → Int), 2097152 ≤ C ∧ C ≤ 570425344 ∧ (∀ p, 0 ≤ p → p < (s.length : Int) → 1 ≤ K p ∧ K p ≤ 17 ∧ C = 2097152 * ln m s.length p * K p) ∧
 Gives (fun k => T_sketch_outside k m s E l) (fun r => (r.2.2 = true ∧ 2 * C < totV s E l K s.length) ∨ (r = (totV s E l K s.length, C, false) ∧ totV s E l K s.length ≤ 2 * C)) := by
 have n1 := h.dim.n1
 have n2 := h.dim.n2
 obtain ⟨o, o1, o2, o3⟩ := (sk_lengthsV (E := E) h.dim).get
 obtain ⟨mn, a1, a2⟩ := (sl_minV (xs := o) (by omega) (by omega)).get
 obtain ⟨mx, b1, b2⟩ := (sl_maxV (xs := o) (by omega) (by omega)).get
 obtain ⟨C, K, hC, ⟨mn1, mn2, mx1, mx2⟩, c1, c2, hK⟩ := outC h.dim o2 o3 a2 b2
 refine ⟨C, K, c1, c2, hK, ?_⟩
 have lb := fun p p0 p1 => h.dim.len (p := p) p0 p1
 have dok := fun p p0 p1 => dist_ok (p := p) h hE hl ha p0 p1
 refine Gives.step ?_
 simp only [T_sketch_outside]
 refine Gives.bind o1 fun y hy => ?_
 subst hy
 refine Gives.bind a1 fun y2 hy2 => Gives.bind b1 fun y3 hy3 => Gives.bind a1 fun y4 hy4 => ?_
 subst hy2 hy3 hy4
 refine Gives.bind (Q := fun r => r = C) ?_ fun r hr => ?_
 · by_cases c : y3 = y4
   · rw [if_pos c] at hC
     refine Gives.neg (by simp [c]) ?_
     rw [w64_id (x := 2097152 * y4) (by omega) (by omega)]
     exact Gives.now hC
   · rw [if_neg c] at hC
     refine Gives.pos (by simp [c]) (Gives.bind b1 fun y5 hy5 => ?_)
     subst hy5
     rw [w64_id (x := 2097152 * y4) (by omega) (by omega), w64_id (x := 2097152 * y4 * y5) (by omega) (by omega)]
     exact Gives.now hC
 subst hr
 refine Gives.bind (Q := fun (v : Int × Int × Bool) => (v.2.2 = true ∧ 2 * r < totV s E l K s.length) ∨ (v = (totV s E l K s.length, r, false) ∧ totV s E l K s.length ≤ 2 * r)) ?_ fun v hv => Gives.now hv
 have tn : ∀ j : Nat, j ≤ s.length → 0 ≤ totV s E l K j := fun j hj => sg_nonneg fun p p0 p1 => Int.mul_nonneg (sq_nonneg _) (by have := hK p p0 (by omega); omega)
 clear hC a1 a2 b1 b2
 rw [hl]
 refine Gives.loop (fun t => 0 ≤ t.1 ∧ t.1 ≤ (s.length : Int) ∧ 0 ≤ t.2.1 ∧ t.2.1 ≤ 2 * r ∧ (t.2.2.1 = r ∨ (t.2.2.1 = 1 ∧ t.2.1 = 0)) ∧ ((t.2.2.2 = true ∧ 2 * r < totV s E l K t.1.toNat) ∨ (t.2.2.2 = false ∧ t.2.1 = totV s E l K t.1.toNat ∧ (t.1 = 0 ∨ t.2.2.1 = r)))) (fun t => ((s.length : Int) - t.1).toNat) ?_
  ⟨by simp only []; omega, by simp only []; omega, by simp only []; omega, by simp only []; omega, Or.inr ⟨rfl, rfl⟩, Or.inr ⟨rfl, rfl, Or.inl rfl⟩⟩
 intro ⟨i, nu, de, be⟩ ⟨t1, t2, t3, t4, t5, t6⟩
 simp only at t1 t2 t3 t4 t5 t6
 unfold T_sketch_outside_l1
 simp only []
 refine Gives.ite (fun c => Gives.opt (at_rpi t1 (by omega)) (Gives.opt (at_rd t1 (by omega)) ?_)) fun c => Gives.now ?_
 · obtain ⟨⟨qi, _⟩, ed, d0⟩ := dok i t1 c
   obtain ⟨k1, k2, k3⟩ := hK i t1 c
   obtain ⟨l1, l2⟩ := lb i t1 c
   have ti := tn i.toNat (by omega)
   refine Gives.bind qi fun z hz => ?_
   subst hz
   refine Gives.bind (Q := fun _ => True) (Gives.step (by simp only [T_sketch_passed]; exact Gives.now trivial)) fun _ _ => ?_
   simp only []
   rw [ed, w64_id (x := i + 1) (by omega) (by omega)]
   have es := totV_succ (s := s) (E := E) (l := l) (K := K) t1
   have zz := sq_nonneg (dist s E l i)
   generalize hd : dist s E l i = d at *
   refine Gives.ite (fun c2 => Gives.now ⟨⟨by simp only []; omega, by simp only []; omega, t3, t4, t5, Or.inl ⟨rfl, ?_⟩⟩, by simp only []; omega⟩) fun c2 => Gives.opt (at_rd t1 (by omega)) ?_
   · show 2 * r < totV s E l K (i + 1).toNat
     rw [es]
     have := Int.mul_le_mul (a := 1048577) (b := 1048577) (c := d) (d := d) (by omega) (by omega) (by omega) (by omega)
     have := Int.mul_le_mul_of_nonneg_left k1 zz
     omega
   · have q := prod_bound (a := d) (b := d) (A := 1048576) (B := 1048576) (by omega) (by omega) (by omega) (by omega)
     have q2 := prod_bound (a := d * d) (b := K i) (A := 1099511627776) (B := 17) (by omega) (by omega) (by omega) (by omega)
     have q0 := Int.mul_nonneg zz (show 0 ≤ K i by omega)
     rw [o3 i t1 c, w64_id (x := d * d) (by omega) (by omega), w64_id (x := 2097152 * ln m s.length i) (by omega) (by omega), show r.tdiv (2097152 * ln m s.length i) = K i by rw [k3]; exact Int.mul_tdiv_cancel_left _ (by omega), w64_id (x := K i) (by omega) (by omega)]
     refine Gives.bind (Q := fun _ => True) (Gives.step (by
      simp only [T_sketch_fraction_plus]
      exact Gives.pos (by omega) (Gives.pos (by omega) (Gives.now trivial)))) fun _ _ => ?_
     have en : w64 (nu * w64 (r.tdiv de)) = nu := by
      rcases t5 with t5 | ⟨_, t5⟩
      · rw [t5, Int.tdiv_self (by omega), w64_id (x := 1) (by omega) (by omega), Int.mul_one, w64_id (by omega) (by omega)]
      · rw [t5, Int.zero_mul]; rfl
     rw [en, w64_id (x := d * d * K i) (by omega) (by omega), w64_id (x := nu + _) (by omega) (by omega), w64_id (x := 2 * r) (by omega) (by omega)]
     refine Gives.bind (Q := fun w => 0 ≤ w.1 ∧ w.1 ≤ 2 * r ∧ (w.2.1 = r ∨ (w.2.1 = 1 ∧ w.1 = 0)) ∧ ((w.2.2 = true ∧ 2 * r < totV s E l K (i + 1).toNat) ∨ (w.2.2 = false ∧ w.1 = totV s E l K (i + 1).toNat ∧ (i + 1 = 0 ∨ w.2.1 = r)))) ?_ fun w hw => Gives.now ⟨⟨by simp only []; omega, by simp only []; omega, hw⟩, by simp only []; omega⟩
     rw [es]
     refine Gives.ite (fun c2 => Gives.now ⟨by simp only []; omega, by simp only []; omega, Or.inr ⟨rfl, rfl⟩, Or.inl ⟨rfl, ?_⟩⟩) fun c2 => Gives.now ⟨by simp only []; omega, by simp only []; omega, Or.inl rfl, ?_⟩
     · rcases t6 with t6 | t6 <;> omega
     · rcases t6 with ⟨t6, t7⟩ | ⟨t6, t7, _⟩
       · exact Or.inl ⟨t6, by omega⟩
       · exact Or.inr ⟨t6, by simp only []; omega, Or.inr rfl⟩
 · have ei : i.toNat = s.length := by omega
   rw [ei] at t6
   rcases t6 with ⟨t6, t7⟩ | ⟨t6, t7, t8⟩
   · exact Or.inl ⟨t6, t7⟩
   · have e8 : de = r := by omega
     exact Or.inr ⟨by rw [t6, t7, e8], by omega⟩

/-! Regions: what the program and the document answer. -/
noncomputable def rvV (S C : Int) : Int × Int × Int := if 2 * C < S then (2, 1, 0) else if C < S then mkr (C * C + (C - S) * (C - S)).toNat (C * C).toNat else mkr (C * C - (C - S) * (C - S)).toNat (C * C).toNat
theorem sq_le {C S : Int} (c0 : 0 ≤ C) (s0 : 0 ≤ S) (s1 : S ≤ 2 * C) : (C - S) * (C - S) ≤ C * C := by
 have := prod_bound (a := C - S) (b := C - S) (A := C) (B := C) (by omega) (by omega) (by omega) (by omega)
 omega
theorem sq_small {C : Int} (c0 : 1 ≤ C) (c1 : C ≤ 570425344) : 1 ≤ C * C ∧ C * C ≤ 400000000000000000 := by
 have a := prod_bound (a := C) (b := C) (A := 570425344) (B := 570425344) (by omega) (by omega) (by omega) (by omega)
 have b := Int.mul_le_mul (a := 1) (b := 1) (c := C) (d := C) (by omega) (by omega) (by omega) (by omega)
 omega
theorem sk_loop {m E : Int} {s : List Int} {l : List (Int × Int)} (hl : l.length ≤ 1000) : Gives (fun k => loopT (T_sketch_Region_l1 k m s E l (l.length : Int)) k (false, 0)) (fun r => (All l ∧ ∃ b, r = .inl b ∧ (b = true ↔ Em l)) ∨ (¬ All l ∧ r = .inr ())) := by
 refine Gives.loop (fun t => 0 ≤ t.2 ∧ t.2 ≤ (l.length : Int) ∧ (∀ p, 0 ≤ p → p < t.2 → IvOk (rpi l p)) ∧ (t.1 = true ↔ ∃ p, 0 ≤ p ∧ p < t.2 ∧ (rpi l p).2 < (rpi l p).1)) (fun t => ((l.length : Int) - t.2).toNat) ?_ ⟨by simp only []; omega, by simp only []; omega, fun p p0 p1 => by simp only at p1; omega, by simp; intro p p0 p1; omega⟩
 intro ⟨b, i⟩ ⟨i0, i1, i2, i3⟩
 simp only at i0 i1 i2 i3
 unfold T_sketch_Region_l1
 simp only []
 refine Gives.ite (fun c => Gives.opt (at_rpi i0 c) (Gives.ite (fun d => Gives.now (.inr ⟨fun ha => ?_, rfl⟩)) fun d => ?_)) fun c => Gives.now (.inl ⟨fun p p0 p1 => i2 p p0 (by omega), b, rfl, ?_⟩)
 · have := ha i i0 c
   unfold IvOk at this
   have im : imin (rpi l i).1 (rpi l i).2 = (rpi l i).1 ∨ imin (rpi l i).1 (rpi l i).2 = (rpi l i).2 := by unfold imin; split <;> omega
   have ix : imax (rpi l i).1 (rpi l i).2 = (rpi l i).1 ∨ imax (rpi l i).1 (rpi l i).2 = (rpi l i).2 := by unfold imax; split <;> omega
   simp at d
   omega
 · rw [w64_id (by omega) (by omega)]
   have im : imin (rpi l i).1 (rpi l i).2 ≤ (rpi l i).1 ∧ imin (rpi l i).1 (rpi l i).2 ≤ (rpi l i).2 := by unfold imin; split <;> omega
   have ix : (rpi l i).1 ≤ imax (rpi l i).1 (rpi l i).2 ∧ (rpi l i).2 ≤ imax (rpi l i).1 (rpi l i).2 := by unfold imax; split <;> omega
   refine Gives.now ⟨⟨by simp only []; omega, by simp only []; omega, fun p p0 p1 => ?_, ?_⟩, by simp only []; omega⟩
   · by_cases e : p = i
     · subst e; unfold IvOk; simp at d; omega
     · exact i2 p p0 (by simp only at p1; omega)
   · simp only [Bool.or_eq_true, decide_eq_true_eq, i3]
     constructor
     · rintro (⟨p, p0, p1, p2⟩ | h)
       · exact ⟨p, p0, by omega, p2⟩
       · exact ⟨i, i0, by omega, h⟩
     · rintro ⟨p, p0, p1, p2⟩
       by_cases e : p = i
       · subst e; exact .inr p2
       · exact .inl ⟨p, p0, by omega, p2⟩
 · rw [i3]
   exact ⟨fun ⟨p, p0, p1, p2⟩ => ⟨p, p0, by omega, p2⟩, fun ⟨p, p0, p1, p2⟩ => ⟨p, p0, by omega, p2⟩⟩
theorem r21_loop {m E : Int} {s : List Int} {l : List (Int × Int)} (hl : l.length ≤ 1000) : Gives (fun k => loopT (T_ref21_Region_l1 k m s E l (l.length : Int)) k (true, 0)) (fun r => (All l ∧ ∃ b, r = .inl b ∧ (b = true ↔ Zr l)) ∨ (¬ All l ∧ r = .inr ())) := by
 refine Gives.loop (fun t => 0 ≤ t.2 ∧ t.2 ≤ (l.length : Int) ∧ (∀ p, 0 ≤ p → p < t.2 → IvOk (rpi l p)) ∧ (t.1 = true ↔ ∀ p, 0 ≤ p → p < t.2 → (rpi l p).1 ≤ 0 ∧ 0 ≤ (rpi l p).2)) (fun t => ((l.length : Int) - t.2).toNat) ?_ ⟨by simp only []; omega, by simp only []; omega, fun p p0 p1 => by simp only at p1; omega, by simp; intro p p0 p1; omega⟩
 intro ⟨b, i⟩ ⟨i0, i1, i2, i3⟩
 simp only at i0 i1 i2 i3
 unfold T_ref21_Region_l1
 simp only []
 refine Gives.ite (fun c => Gives.opt (at_rpi i0 c) (Gives.ite (fun d => Gives.now (.inr ⟨fun ha => ?_, rfl⟩)) fun d => ?_)) fun c => Gives.now (.inl ⟨fun p p0 p1 => i2 p p0 (by omega), b, rfl, ?_⟩)
 · have := ha i i0 c
   unfold IvOk at this
   simp at d
   omega
 · rw [w64_id (by omega) (by omega)]
   refine Gives.bind (Q := fun r => r = true ↔ (b = true ∧ (rpi l i).1 ≤ 0 ∧ 0 ≤ (rpi l i).2)) (Gives.ite (fun e => Gives.opt (at_rpi i0 c) (Gives.now (by simp [e]))) fun e => Gives.now (by simp [e])) fun r hr => ?_
   refine Gives.now ⟨⟨by simp only []; omega, by simp only []; omega, fun p p0 p1 => ?_, ?_⟩, by simp only []; omega⟩
   · by_cases e : p = i
     · subst e; unfold IvOk; simp at d; omega
     · exact i2 p p0 (by simp only at p1; omega)
   · simp only []
     rw [hr, i3]
     constructor
     · rintro ⟨h1, h2⟩ p p0 p1
       by_cases e : p = i
       · subst e; exact h2
       · exact h1 p p0 (by omega)
     · intro h
       exact ⟨fun p p0 p1 => h p p0 (by omega), h i i0 (by omega)⟩
 · rw [i3]
   exact ⟨fun h p p0 p1 => h p p0 (by omega), fun h p p0 p1 => h p p0 (by omega)⟩
theorem r19_empty {l : List (Int × Int)} (hl : l.length ≤ 1000) : Gives (fun k => T_ref19_Empty k l) (fun r => r = true ↔ Em l) := by
 refine Gives.step ?_
 simp only [T_ref19_Empty]
 refine Gives.bind (Q := fun r => (r = .inl () ∧ ¬ Em l) ∨ (r = .inr () ∧ Em l)) ?_ fun r hr => ?_
 · refine Gives.loop (fun t => 0 ≤ t ∧ t ≤ (l.length : Int) ∧ ∀ p, 0 ≤ p → p < t → ¬ (rpi l p).2 < (rpi l p).1) (fun t => ((l.length : Int) - t).toNat) ?_ ⟨by omega, by omega, fun p p0 p1 => by omega⟩
   intro i ⟨i0, i1, i2⟩
   unfold T_ref19_Empty_l1
   refine Gives.ite (fun c => Gives.opt (at_rpi i0 c) (Gives.ite (fun d => Gives.now (.inr ⟨rfl, i, i0, c, d⟩)) fun d => ?_)) fun c => Gives.now (.inl ⟨rfl, fun ⟨p, p0, p1, p2⟩ => i2 p p0 (by omega) p2⟩)
   rw [w64_id (by omega) (by omega)]
   refine Gives.now ⟨⟨by omega, by omega, fun p p0 p1 => ?_⟩, by omega⟩
   by_cases e : p = i
   · subst e; exact d
   · exact i2 p p0 (by omega)
 · rcases hr with ⟨rfl, h⟩ | ⟨rfl, h⟩
   · exact Gives.now ⟨fun e => (by cases e), fun e => absurd e h⟩
   · exact Gives.now ⟨fun _ => h, fun _ => rfl⟩
theorem sk_flatV {l : List (Int × Int)} (hl : l.length ≤ 1000) : Gives (fun k => T_sketch_flat k l) (fun r => (Zr l ∧ r = (0, 1, 0)) ∨ (¬ Zr l ∧ r = (1, 1, 0))) := by
 refine Gives.step ?_
 simp only [T_sketch_flat]
 refine Gives.bind (Q := fun r => (r = .inl () ∧ Zr l) ∨ (r = .inr (0, 1, 1) ∧ ¬ Zr l)) ?_ fun r hr => ?_
 · refine Gives.loop (fun t => 0 ≤ t ∧ t ≤ (l.length : Int) ∧ ∀ p, 0 ≤ p → p < t → (rpi l p).1 ≤ 0 ∧ 0 ≤ (rpi l p).2) (fun t => ((l.length : Int) - t).toNat) ?_ ⟨by omega, by omega, fun p p0 p1 => by omega⟩
   intro i ⟨i0, i1, i2⟩
   unfold T_sketch_flat_l1
   refine Gives.ite (fun c => Gives.opt (at_rpi i0 c) (Gives.ite (fun d => Gives.bind (mk_make (m := 1) (n := 1) (by omega) (by omega) (by omega) (by omega)) fun r hr => Gives.now (.inr ⟨?_, fun z => ?_⟩)) fun d => ?_)) fun c => Gives.now (.inl ⟨rfl, fun p p0 p1 => i2 p p0 (by omega)⟩)
   · rw [hr, show mkr (1 : Int).toNat (1 : Int).toNat = (1, 1, 0) from mkr11]
   · have := z i i0 c
     simp at d
     omega
   · rw [w64_id (by omega) (by omega)]
     refine Gives.now ⟨⟨by omega, by omega, fun p p0 p1 => ?_⟩, by omega⟩
     by_cases e : p = i
     · subst e; simp at d; omega
     · exact i2 p p0 (by omega)
 · rcases hr with ⟨rfl, h⟩ | ⟨rfl, h⟩
   · exact Gives.bind (mk_make (m := 0) (n := 1) (by omega) (by omega) (by omega) (by omega)) fun r hr => Gives.now (.inl ⟨h, by rw [hr]; exact mkr01⟩)
   · exact Gives.now (.inr ⟨h, rfl⟩)
/-! The document's sum. -/
def ws (m n p : Int) : Int := if ln m n p = m / n then m / n + 1 else m / n
theorem ws_ok {m n p : Int} (h : Dim m n) (p0 : 0 ≤ p) (p1 : p < n) : 1 ≤ ws m n p ∧ ws m n p ≤ 33 ∧ m / n * (m / n + 1) = ln m n p * ws m n p ∧ 2 ≤ m / n * (m / n + 1) ∧ m / n * (m / n + 1) ≤ 1056 ∧ 1 ≤ m / n ∧ m / n ≤ 32 := by
 obtain ⟨q, q1, q2, e, _, q4⟩ := lens2 h
 rw [← e] at q1 q2 q4
 unfold ws
 generalize m / n = a at *
 have u := Int.mul_le_mul (a := a) (b := a + 1) (c := 32) (d := 33) (by omega) (by omega) (by omega) (by omega)
 have v := Int.mul_le_mul (a := 1) (b := 2) (c := a) (d := a + 1) (by omega) (by omega) (by omega) (by omega)
 rcases q4 p p0 p1 with f | f
 · rw [if_pos f, f]; exact ⟨by omega, by omega, rfl, by omega, by omega, by omega, by omega⟩
 · rw [if_neg (by omega), f]; exact ⟨by omega, by omega, Int.mul_comm _ _, by omega, by omega, by omega, by omega⟩
noncomputable def cap (s : List Int) (E : Int) (l : List (Int × Int)) (p : Int) : Int := imin (dist s E l p) 16384
theorem r18_squares {m n : Int} {S o : List Int} {c : Nat} (h : Dim m n) (hc : (c : Int) = n) (ho : o.length = c) (hb : ∀ p, 0 ≤ p → p < n → 0 ≤ rd o p ∧ rd o p ≤ 16384) (S2 : (S.length : Int) = n + 1) (S3 : ∀ p, 0 ≤ p → p ≤ n → rd S p = cut m n p) :
 Gives (fun k => T_ref18_Squares k c S 2097152 o) (fun r => ∃ P Q : Nat, r = ((P : Int), (Q : Int)) ∧ Rep P Q (sg (fun p => rd o p * rd o p * ws m n p) c).toNat (m / n * (m / n + 1) * 2097152).toNat ∧ 0 ≤ sg (fun p => rd o p * rd o p * ws m n p) c ∧ sg (fun p => rd o p * rd o p * ws m n p) c ≤ 70866960384) := by
 have n1 := h.n1
 have n2 := h.n2
 have m1 := h.m1
 have m2 := h.m2
 obtain ⟨_, _, _, w3, w4, w5, w6⟩ := ws_ok h (p := 0) (by omega) (by omega)
 have tb : ∀ p, 0 ≤ p → p < n → 0 ≤ rd o p * rd o p ∧ rd o p * rd o p ≤ 268435456 ∧ 0 ≤ rd o p * rd o p * ws m n p ∧ rd o p * rd o p * ws m n p ≤ 8858370048 := fun p p0 p1 => by
  have b := hb p p0 p1
  have w := ws_ok h p0 p1
  have q := prod_bound (a := rd o p) (b := rd o p) (A := 16384) (B := 16384) (by omega) (by omega) (by omega) (by omega)
  have z := sq_nonneg (rd o p)
  have q2 := prod_bound (a := rd o p * rd o p) (b := ws m n p) (A := 268435456) (B := 33) (by omega) (by omega) (by omega) (by omega)
  exact ⟨z, by omega, Int.mul_nonneg z (by omega), by omega⟩
 have gb : ∀ j : Nat, (j : Int) ≤ n → 0 ≤ sg (fun p => rd o p * rd o p * ws m n p) j ∧ sg (fun p => rd o p * rd o p * ws m n p) j ≤ 8858370048 * j := fun j hj => ⟨sg_nonneg fun p p0 p1 => (tb p p0 (by omega)).2.2.1, (sg_bound (B := 8858370048) fun p p0 p1 => by have := tb p p0 (by omega); omega).2⟩
 have gn := gb c (by omega)
 refine Gives.step ?_
 simp only [T_ref18_Squares]
 rw [S2, w64_id (x := n + 1 - 1) (by omega) (by omega), show n + 1 - 1 = n by omega]
 refine Gives.opt (at_rd (by omega) (by omega)) (Gives.pos (by omega) ?_)
 rw [S3 n (by omega) (Int.le_refl _), cut_last n1, Int.tdiv_eq_ediv_of_nonneg (by omega), w64_id (x := m / n) (by omega) (by omega), w64_id (x := m / n + 1) (by omega) (by omega), w64_id (x := m / n * (m / n + 1)) (by omega) (by omega), w64_id (x := m / n * (m / n + 1) * 2097152) (by omega) (by omega), hc]
 refine Gives.bind (Q := fun r => r = sg (fun p => rd o p * rd o p * ws m n p) c) ?_ fun r hr => ?_
 · refine Gives.loop (fun t => 0 ≤ t.2 ∧ t.2 ≤ n ∧ t.1 = sg (fun p => rd o p * rd o p * ws m n p) t.2.toNat) (fun t => (n - t.2).toNat) ?_ ⟨by simp only []; omega, by simp only []; omega, rfl⟩
   intro ⟨a, i⟩ ⟨i1, i2, i3⟩
   simp only at i1 i2 i3
   unfold T_ref18_Squares_l1
   simp only []
   rw [w64_id (x := i + 1) (by omega) (by omega)]
   refine Gives.ite (fun cc => Gives.pos ⟨i1, by omega⟩ (Gives.opt (get_rd0 i1 (by omega)) (Gives.opt (at_rd (by omega) (by omega)) (Gives.opt (at_rd i1 (by omega)) ?_)))) fun cc => Gives.now (by rw [i3, show i.toNat = c by omega])
   obtain ⟨u1, u2, u3, u4⟩ := tb i i1 cc
   obtain ⟨v1, v2, v3, _⟩ := ws_ok h i1 cc
   have lb := h.len i1 cc
   have g := gb i.toNat (by omega)
   rw [← i3] at g
   have el : cut m n (i + 1) - cut m n i = ln m n i := rfl
   rw [S3 (i + 1) (by omega) (by omega), S3 i i1 (by omega), el, w64_id (x := ln m n i) (by omega) (by omega), w64_id (x := m / n + 1) (by omega) (by omega), w64_id (x := m / n * (m / n + 1)) (by omega) (by omega), show (m / n * (m / n + 1)).tdiv (ln m n i) = ws m n i by rw [v3]; exact Int.mul_tdiv_cancel_left _ (by omega), w64_id (x := ws m n i) (by omega) (by omega), w64_id (x := rd o i * rd o i) (by omega) (by omega), w64_id (x := rd o i * rd o i * ws m n i) (by omega) (by omega), w64_id (x := a + _) (by omega) (by omega)]
   refine Gives.pos (by omega) (Gives.now ⟨⟨by simp only []; omega, by simp only []; omega, ?_⟩, by simp only []; omega⟩)
   simp only []
   rw [show (i + 1).toNat = i.toNat + 1 by omega, sg, ← i3, Int.toNat_of_nonneg i1]
 · subst hr
   have mk := r01_make (m := (sg (fun p => rd o p * rd o p * ws m n p) c).toNat) (n := (m / n * (m / n + 1) * 2097152).toNat) (by omega) (by omega) (by omega)
   rw [Int.toNat_of_nonneg gn.1, Int.toNat_of_nonneg (show 0 ≤ m / n * (m / n + 1) * 2097152 by omega)] at mk
   refine Gives.bind mk fun v hv => ?_
   obtain ⟨P, Q, e, R⟩ := hv
   rw [e]
   exact Gives.now ⟨P, Q, rfl, R, gn.1, by omega⟩
theorem sg_mulr {f : Int → Int} {c : Int} : ∀ n : Nat, sg f n * c = sg (fun p => f p * c) n
 | 0 => by simp [sg]
 | n + 1 => by rw [sg, sg, Int.add_mul, sg_mulr n]

/-! The regions' bounds agree. -/
theorem mkr_sameI {a b c d : Int} (a0 : 0 ≤ a) (b0 : 0 < b) (c0 : 0 ≤ c) (d0 : 0 < d) (h : a * d = c * b) : mkr a.toNat b.toNat = mkr c.toNat d.toNat := by
 refine mkr_same (by omega) (by omega) ?_
 have : ((a.toNat * d.toNat : Nat) : Int) = ((c.toNat * b.toNat : Nat) : Int) := by
  rw [Int.natCast_mul, Int.natCast_mul, Int.toNat_of_nonneg a0, Int.toNat_of_nonneg (show 0 ≤ d by omega), Int.toNat_of_nonneg c0, Int.toNat_of_nonneg (show 0 ≤ b by omega), h]
 exact_mod_cast this
theorem cap_sum {m E : Int} {s : List Int} {l : List (Int × Int)} (h : SkV m s E) {C : Int} {K : Int → Int} (hC : 1 ≤ C) (hK : ∀ p, 0 ≤ p → p < (s.length : Int) → 1 ≤ K p ∧ K p ≤ 17 ∧ C = 2097152 * ln m s.length p * K p) (d0 : ∀ p, 0 ≤ p → p < (s.length : Int) → 0 ≤ dist s E l p) :
 (2 * C < totV s E l K s.length → 2 * (m / s.length * (m / s.length + 1) * 2097152) < sg (fun p => cap s E l p * cap s E l p * ws m s.length p) s.length) ∧
 (totV s E l K s.length ≤ 2 * C → sg (fun p => cap s E l p * cap s E l p * ws m s.length p) s.length * C = totV s E l K s.length * (m / s.length * (m / s.length + 1) * 2097152)) := by
 have eq1 : (∀ p, 0 ≤ p → p < (s.length : Int) → dist s E l p ≤ 16384) → sg (fun p => cap s E l p * cap s E l p * ws m s.length p) s.length * C = totV s E l K s.length * (m / s.length * (m / s.length + 1) * 2097152) := fun hd => by
  unfold totV
  rw [sg_mulr, sg_mulr]
  refine sg_congr fun p p0 p1 => ?_
  have ec : cap s E l p = dist s E l p := by have := hd p p0 p1; unfold cap imin; split <;> omega
  obtain ⟨_, _, k3⟩ := hK p p0 p1
  obtain ⟨_, _, w3, _⟩ := ws_ok h.dim p0 p1
  rw [ec, k3, w3]
  grind
 have n1 := h.dim.n1
 refine ⟨fun hS => ?_, fun hS => eq1 fun p p0 p1 => ?_⟩
 · by_cases hd : ∀ p, 0 ≤ p → p < (s.length : Int) → dist s E l p ≤ 16384
   · have e := eq1 hd
     obtain ⟨_, _, _, w4, _⟩ := ws_ok h.dim (p := 0) (by omega) (by omega)
     generalize m / s.length * (m / s.length + 1) = D at *
     generalize sg (fun p => cap s E l p * cap s E l p * ws m s.length p) s.length = T at *
     generalize totV s E l K s.length = S at *
     refine Decidable.byContradiction fun hn => ?_
     have a := Int.mul_le_mul_of_nonneg_right (show T ≤ 2 * (D * 2097152) by omega) (show 0 ≤ C by omega)
     have b := Int.mul_le_mul_of_nonneg_right (show 2 * C + 1 ≤ S by omega) (show 0 ≤ D * 2097152 by omega)
     have x : 2 * (D * 2097152) * C = 2 * C * (D * 2097152) := by grind
     have y : (2 * C + 1) * (D * 2097152) = 2 * C * (D * 2097152) + D * 2097152 := by grind
     omega
   · obtain ⟨p, p0, p1, hp⟩ : ∃ p, 0 ≤ p ∧ p < (s.length : Int) ∧ 16384 < dist s E l p := by
      refine Classical.byContradiction fun hn => hd fun p p0 p1 => ?_
      exact Decidable.byContradiction fun hc => hn ⟨p, p0, p1, by omega⟩
     have t := sg_term (f := fun p => cap s E l p * cap s E l p * ws m s.length p) (n := s.length) (fun i i0 i1 => Int.mul_nonneg (sq_nonneg _) (by have := ws_ok h.dim i0 i1; omega)) p p0 p1
     have ec : cap s E l p = 16384 := by unfold cap imin; split <;> omega
     obtain ⟨w1, _, w3, _⟩ := ws_ok h.dim p0 p1
     have lb := h.dim.len p0 p1
     rw [ec] at t
     rw [w3]
     have := Int.mul_le_mul_of_nonneg_right lb.2 (show 0 ≤ ws m s.length p by omega)
     omega
 · obtain ⟨k1, k2, k3⟩ := hK p p0 p1
   have lb := h.dim.len p0 p1
   have t := sg_term (f := fun p => dist s E l p * dist s E l p * K p) (n := s.length) (fun i i0 i1 => Int.mul_nonneg (sq_nonneg _) (by have := hK i i0 i1; omega)) p p0 p1
   refine Decidable.byContradiction fun hn => ?_
   have dd := Int.mul_le_mul (a := 16385) (b := 16385) (c := dist s E l p) (d := dist s E l p) (by omega) (by omega) (by omega) (by omega)
   have dk := Int.mul_le_mul_of_nonneg_right dd (show 0 ≤ K p by omega)
   have lk := Int.mul_le_mul_of_nonneg_right lb.2 (show 0 ≤ K p by omega)
   have e : 2097152 * ln m s.length p * K p = 2097152 * (ln m s.length p * K p) := Int.mul_assoc _ _ _
   unfold totV at hS
   omega
theorem sk_main {m E : Int} {s : List Int} {l : List (Int × Int)} (h : SkV m s E) (hE : 1 ≤ E) (hl : l.length = s.length) (ha : All l) (he : ¬ Em l) : Agree (fun k => T_sketch_Region k m s E l) (fun k => T_ref21_Region k m s E l) (fun _ => True) := by
 have n1 := h.dim.n1
 have n2 := h.dim.n2
 have m1 := h.dim.m1
 obtain ⟨C, K, c1, c2, hK, ho⟩ := sk_outsideV h hE hl ha
 have dok := fun p p0 p1 => dist_ok (p := p) h hE hl ha p0 p1
 have S0 : 0 ≤ totV s E l K s.length := sg_nonneg fun p p0 p1 => Int.mul_nonneg (sq_nonneg _) (by have := hK p p0 p1; omega)
 obtain ⟨cs1, cs2⟩ := cap_sum (l := l) h (by omega) hK fun p p0 p1 => (dok p p0 p1).2.2
 have cc := sq_small (C := C) (by omega) c2
 refine ⟨rvV (totV s E l K s.length) C, ?_, ?_, trivial⟩
 · refine Gives.step ?_
   simp only [T_sketch_Region]
   refine Gives.bind sk_validG fun v hv => ?_
   rcases hv.symm with ⟨_, hv⟩ | ⟨rfl, _⟩
   · exact absurd h hv
   refine Gives.neg (by simp) (Gives.neg (by simp [hl]) (Gives.bind (sk_loop (by omega)) fun r hr => ?_))
   rcases hr.symm with ⟨hr, _⟩ | ⟨_, b, rfl, hb⟩
   · exact absurd ha hr
   refine Gives.neg (by rw [hb]; exact he) (Gives.neg (by omega) (Gives.bind ho fun v hv => ?_))
   unfold rvV
   rcases hv with ⟨v1, v2⟩ | ⟨rfl, v2⟩
   · rw [if_pos v2]
     exact Gives.pos v1 (Gives.bind (mk_make (m := 2) (n := 1) (by omega) (by omega) (by omega) (by omega)) fun r hr => Gives.now (by rw [hr]; exact mkr21))
   · rw [if_neg (by omega)]
     simp only []
     generalize totV s E l K s.length = S at *
     have sl := sq_le (C := C) (S := S) (by omega) S0 v2
     have sz := sq_nonneg (C - S)
     rw [w64_id (x := C - S) (by omega) (by omega), w64_id (x := C * C) (by omega) (by omega), w64_id (x := (C - S) * (C - S)) (by omega) (by omega), w64_id (x := C * C + (C - S) * (C - S)) (by omega) (by omega), w64_id (x := C * C - (C - S) * (C - S)) (by omega) (by omega)]
     by_cases d : C < S
     · rw [if_pos d]
       exact Gives.neg (by simp) (Gives.pos (by omega) (Gives.bind (mk_make (by omega) (by omega) (by omega) (by omega)) fun r hr => Gives.now (by rw [hr])))
     · rw [if_neg d]
       exact Gives.neg (by simp) (Gives.neg (by omega) (Gives.bind (mk_make (by omega) (by omega) (by omega) (by omega)) fun r hr => Gives.now (by rw [hr])))
 · refine Gives.step ?_
   simp only [T_ref21_Region]
   refine Gives.bind r21_residual fun v hv => ?_
   rcases hv.symm with ⟨hv, _⟩ | ⟨_, rfl⟩
   · exact absurd h hv
   refine Gives.neg (by simp) (Gives.neg (by simp [hl]) (Gives.bind (r21_loop (by omega)) fun r hr => ?_))
   rcases hr.symm with ⟨hr, _⟩ | ⟨_, b, rfl, hb⟩
   · exact absurd ha hr
   refine Gives.bind (r19_empty (by omega)) fun e hee => ?_
   have e0 : e = false := by
    cases e with
    | false => rfl
    | true => exact absurd (hee.1 rfl) he
   subst e0
   refine Gives.neg (by simp; omega) (Gives.neg (by omega) (Gives.bind (f18_startsV h.dim) fun A hA => ?_))
   obtain ⟨A1, A2, A3⟩ := hA
   refine Gives.bind (Q := fun r => (r.1 : Int) = s.length ∧ r.2.length = r.1 ∧ ∀ p, 0 ≤ p → p < (s.length : Int) → rd r.2 p = cap s E l p) ?_ fun r hr => ?_
   · rw [hl]
     refine Gives.loop (fun t => 0 ≤ t.2.1 ∧ t.2.1 ≤ (s.length : Int) ∧ (t.1 : Int) = t.2.1 ∧ t.2.2.length = t.1 ∧ ∀ p, 0 ≤ p → p < t.2.1 → rd t.2.2 p = cap s E l p) (fun t => ((s.length : Int) - t.2.1).toNat) ?_ ⟨by simp only []; omega, by simp only []; omega, rfl, rfl, fun p h1 h2 => by simp only at h2; omega⟩
     intro ⟨j, i, o⟩ ⟨i1, i2, i3, i4, i5⟩
     simp only at i1 i2 i3 i4 i5
     unfold T_ref21_Region_l2
     simp only []
     refine Gives.ite (fun c => Gives.opt (at_rd i1 c) (Gives.bind (dok i i1 c).1.2 fun z hz => Gives.opt (at_rpi i1 (by omega)) (Gives.pos (by unfold LIM; omega) ?_))) fun c => Gives.now ⟨by simp only []; omega, i4, fun p h1 h2 => i5 p h1 (by omega)⟩
     subst hz
     simp only []
     rw [(dok i i1 c).2.1, w64_id (x := i + 1) (by omega) (by omega), drop_take_len i4]
     refine Gives.now ⟨⟨by simp only []; omega, by simp only []; omega, by simp only []; omega, by simp [i4], fun p h1 h2 => ?_⟩, by simp only []; omega⟩
     simp only at h2 ⊢
     by_cases e : p = i
     · subst e; rw [rd_app_1 h1 (by omega)]; rfl
     · rw [rd_app_l (by omega)]; exact i5 p h1 (by omega)
   · obtain ⟨r1, r2, r3⟩ := hr
     have sq := r18_squares (c := r.1) (o := r.2) h.dim r1 r2 (fun p p0 p1 => by
      rw [r3 p p0 p1]
      have := (dok p p0 p1).2.2
      unfold cap imin
      split <;> omega) A2 A3
     have er : r.1 = s.length := by omega
     have ec : sg (fun p => rd r.2 p * rd r.2 p * ws m s.length p) r.1 = sg (fun p => cap s E l p * cap s E l p * ws m s.length p) s.length := by
      rw [er]
      exact sg_congr fun p p0 p1 => by rw [r3 p p0 p1]
     rw [ec] at sq
     refine Gives.bind sq fun v hv => ?_
     obtain ⟨P, Q, rfl, R, T0, T1⟩ := hv
     obtain ⟨_, _, _, w4, w5, _⟩ := ws_ok h.dim (p := 0) (by omega) (by omega)
     generalize m / s.length * (m / s.length + 1) = D at *
     generalize sg (fun p => cap s E l p * cap s E l p * ws m s.length p) s.length = T at *
     generalize totV s E l K s.length = S at *
     have q0 := R.pos
     have re : (P : Int) * (D * 2097152) = T * Q := by
      have := congrArg (Nat.cast (R := Int)) R.eq
      rw [Int.natCast_mul, Int.natCast_mul, Int.toNat_of_nonneg T0, Int.toNat_of_nonneg (show 0 ≤ D * 2097152 by omega)] at this
      exact this
     have qd := (R.le (by omega)).2
     have big : 2 * C < S → 2 * (Q : Int) < P := fun g => by
      have t := cs1 g
      refine Decidable.byContradiction fun hn => ?_
      have a := Int.mul_le_mul_of_nonneg_right (show (P : Int) ≤ 2 * Q by omega) (show 0 ≤ D * 2097152 by omega)
      have b := Int.mul_le_mul_of_nonneg_right (show 2 * (D * 2097152) + 1 ≤ T by omega) (show 0 ≤ (Q : Int) by omega)
      have x : 2 * (Q : Int) * (D * 2097152) = 2 * (D * 2097152) * Q := by grind
      have y : (2 * (D * 2097152) + 1) * (Q : Int) = 2 * (D * 2097152) * Q + Q := by grind
      omega
     have small : S ≤ 2 * C → Rep P Q S.toNat C.toNat ∧ (P : Int) * C = S * Q := fun g => by
      have t := cs2 g
      have pc : (P : Int) * C = S * Q := by
       refine Int.eq_of_mul_eq_mul_right (show D * 2097152 ≠ 0 by omega) ?_
       calc (P : Int) * C * (D * 2097152) = P * (D * 2097152) * C := by grind
        _ = T * Q * C := by rw [re]
        _ = T * C * Q := by grind
        _ = S * (D * 2097152) * Q := by rw [t]
        _ = S * Q * (D * 2097152) := by grind
      refine ⟨⟨q0, R.cop, ?_⟩, pc⟩
      have : ((P * C.toNat : Nat) : Int) = ((S.toNat * Q : Nat) : Int) := by
       rw [Int.natCast_mul, Int.natCast_mul, Int.toNat_of_nonneg S0, Int.toNat_of_nonneg (show 0 ≤ C by omega), pc]
      exact_mod_cast this
     have pb : P ≤ 2305843009213693952 := by
      have t := (R.le (by omega)).1
      omega
     refine Gives.bind (Q := fun b => b = decide (2 * Q < P)) ?_ fun b hb => ?_
     · refine Gives.step ?_
       simp only [T_ref01_Less]
       refine Gives.bind (ro_cmp (p := 2) (q := 1) (p' := P) (q' := Q) (by decide) (by omega) (by omega) (by omega) R.cop q0 pb (by omega)) fun z hz => Gives.now ?_
       rw [decide_eq_decide]
       omega
     subst hb
     unfold rvV
     by_cases g : 2 * C < S
     · rw [if_pos g]
       exact Gives.pos (by have := big g; simp; omega) (Gives.now rfl)
     · rw [if_neg g]
       obtain ⟨R', pc⟩ := small (by omega)
       obtain ⟨p1, p2⟩ := R'.le (by omega)
       have notbig : ¬ 2 * Q < P := fun hb => by
        have a := Int.mul_le_mul_of_nonneg_right (show 2 * (Q : Int) + 1 ≤ P by omega) (show 0 ≤ C by omega)
        have b := Int.mul_le_mul_of_nonneg_right (show S ≤ 2 * C by omega) (show 0 ≤ (Q : Int) by omega)
        have x : (2 * (Q : Int) + 1) * C = 2 * C * Q + C := by grind
        omega
       refine Gives.neg (by simpa using notbig) ?_
       have qq := sq_small (C := (Q : Int)) (by omega) (by omega)
       have sl := sq_le (C := (Q : Int)) (S := (P : Int)) (by omega) (by omega) (by omega)
       have sz := sq_nonneg ((Q : Int) - P)
       have sl2 := sq_le (C := C) (S := S) (by omega) S0 (by omega)
       have sz2 := sq_nonneg (C - S)
       have flip : ((P : Int) - Q) * ((P : Int) - Q) = ((Q : Int) - P) * ((Q : Int) - P) := by grind
       have lin : ((Q : Int) - P) * C = Q * (C - S) := by grind
       have sqr : ((Q : Int) - P) * ((Q : Int) - P) * (C * C) = (C - S) * (C - S) * ((Q : Int) * Q) := by
        calc ((Q : Int) - P) * ((Q : Int) - P) * (C * C) = (((Q : Int) - P) * C) * (((Q : Int) - P) * C) := by grind
         _ = (Q * (C - S)) * (Q * (C - S)) := by rw [lin]
         _ = (C - S) * (C - S) * ((Q : Int) * Q) := by grind
       rw [w64_id (x := (Q : Int) * Q) (by omega) (by omega), w64_id (x := (Q : Int) - P) (by omega) (by omega), w64_id (x := ((Q : Int) - P) * ((Q : Int) - P)) (by omega) (by omega), w64_id (x := (P : Int) - Q) (by omega) (by omega), flip, w64_id (x := ((Q : Int) - P) * ((Q : Int) - P)) (by omega) (by omega), w64_id (x := (Q : Int) * Q - _) (by omega) (by omega), w64_id (x := (Q : Int) * Q + _) (by omega) (by omega)]
       refine Gives.ite (fun d => Gives.bind (r01_mkr (by omega) (by omega) (by omega) (by omega)) fun r hr => Gives.now ?_) fun d => Gives.bind (r01_mkr (by omega) (by omega) (by omega) (by omega)) fun r hr => Gives.now ?_
       · have d : (P : Int) ≤ Q := d
         have nd : ¬ C < S := fun hd => by
          have a := Int.mul_le_mul_of_nonneg_right d (show 0 ≤ C by omega)
          have b := Int.mul_le_mul_of_nonneg_right (show C + 1 ≤ S by omega) (show 0 ≤ (Q : Int) by omega)
          have x : (C + 1) * (Q : Int) = Q * C + Q := by grind
          omega
         rw [hr, if_neg nd]
         refine mkr_sameI (by omega) (by omega) (by omega) (by omega) ?_
         generalize ((Q : Int) - P) * ((Q : Int) - P) = X at *
         generalize (C - S) * (C - S) = Y at *
         generalize (Q : Int) * Q = A at *
         generalize C * C = B at *
         rw [Int.sub_mul, Int.sub_mul, sqr, Int.mul_comm B A]
       · have d : ¬ (P : Int) ≤ Q := d
         have nd : C < S := by
          refine Decidable.byContradiction fun hd => ?_
          have a := Int.mul_le_mul_of_nonneg_right (show (Q : Int) + 1 ≤ P by omega) (show 0 ≤ C by omega)
          have b := Int.mul_le_mul_of_nonneg_right (show S ≤ C by omega) (show 0 ≤ (Q : Int) by omega)
          have x : ((Q : Int) + 1) * C = C * Q + C := by grind
          omega
         rw [hr, if_pos nd]
         refine mkr_sameI (by omega) (by omega) (by omega) (by omega) ?_
         generalize ((Q : Int) - P) * ((Q : Int) - P) = X at *
         generalize (C - S) * (C - S) = Y at *
         generalize (Q : Int) * Q = A at *
         generalize C * C = B at *
         rw [Int.add_mul, Int.add_mul, sqr, Int.mul_comm B A]

-- All functions of chapter 21 return what its reference returns, errors included: SketchAnswers returns true for all lists, sketches, intervals and numbers.
theorem awake_k (k : Nat) : T_law21_awake (k + 60) = some true := by kernel_rfl
theorem awake_ok : Gives (fun k => T_law21_awake k) (· = true) := ⟨true, ⟨60, fun k hk => by
 obtain ⟨m, rfl⟩ : ∃ m, k = m + 60 := ⟨k - 60, by omega⟩
 exact awake_k m⟩, rfl⟩
theorem ag_regionV {m E : Int} {s : List Int} {l : List (Int × Int)} (hl : l.length ≤ 1000) : Agree (fun k => T_sketch_Region k m s E l) (fun k => T_ref21_Region k m s E l) (fun _ => True) := by
 by_cases h : SkV m s E
 · have sv : Gives (fun k => T_sketch_valid k m s E) (· = true) := sk_validG.mono fun r hr => hr.elim (·.1) fun q => absurd h q.2
   have rv : Gives (fun k => T_ref21_Residual k m s E) (fun r => r.2 = true) := r21_residual.mono fun r hr => hr.elim (fun q => by rw [q.2]) fun q => absurd h q.1
   by_cases hn : l.length = s.length
   · by_cases ha : All l
     · have sl : Gives (fun k => loopT (T_sketch_Region_l1 k m s E l (l.length : Int)) k (false, 0)) (fun r => ∃ b, r = .inl b ∧ (b = true ↔ Em l)) := (sk_loop hl).mono fun r hr => hr.elim (·.2) fun q => absurd ha q.1
       have rl : Gives (fun k => loopT (T_ref21_Region_l1 k m s E l (l.length : Int)) k (true, 0)) (fun r => ∃ b, r = .inl b ∧ (b = true ↔ Zr l)) := (r21_loop hl).mono fun r hr => hr.elim (·.2) fun q => absurd ha q.1
       by_cases he : Em l
       · refine ⟨(0, 1, 0), ?_, ?_, trivial⟩
         · refine Gives.step ?_
           simp only [T_sketch_Region]
           refine Gives.bind sv fun v hv => Gives.neg (by simp [hv]) (Gives.neg (by simp [hn]) (Gives.bind sl fun r hr => ?_))
           obtain ⟨b, rfl, hb⟩ := hr
           exact Gives.pos (hb.2 he) (Gives.bind (mk_make (m := 0) (n := 1) (by omega) (by omega) (by omega) (by omega)) fun r hr => Gives.now (by rw [hr]; exact mkr01))
         · refine Gives.step ?_
           simp only [T_ref21_Region]
           refine Gives.bind rv fun v hv => Gives.neg (by simp [hv]) (Gives.neg (by simp [hn]) (Gives.bind rl fun r hr => ?_))
           obtain ⟨b, rfl, hb⟩ := hr
           exact Gives.bind (r19_empty hl) fun e hee => Gives.pos (by rw [hee.2 he]; rfl) (Gives.now rfl)
       · by_cases hE : E = 0
         · have rz : ∀ v : Int × Int × Int, ((Zr l ∧ v = (0, 1, 0)) ∨ (¬ Zr l ∧ v = (1, 1, 0))) → Gives (fun k => T_ref21_Region k m s E l) (· = v) := fun v hv => by
            refine Gives.step ?_
            simp only [T_ref21_Region]
            refine Gives.bind rv fun u hu => Gives.neg (by simp [hu]) (Gives.neg (by simp [hn]) (Gives.bind rl fun r hr => ?_))
            obtain ⟨b, rfl, hb⟩ := hr
            refine Gives.bind (r19_empty hl) fun e hee => ?_
            have e0 : e = false := by
             cases e with
             | false => rfl
             | true => exact absurd (hee.1 rfl) he
            subst e0
            rcases hv with ⟨z, rfl⟩ | ⟨z, rfl⟩
            · exact Gives.pos (by simp [hE, hb.2 z]) (Gives.now rfl)
            · have b0 : b = false := by
               cases b with
               | false => rfl
               | true => exact absurd (hb.1 rfl) z
              exact Gives.neg (by simp [b0]) (Gives.pos hE (Gives.now rfl))
           refine Agree.both (P := fun v => (Zr l ∧ v = (0, 1, 0)) ∨ (¬ Zr l ∧ v = (1, 1, 0))) (P' := fun v => (Zr l ∧ v = (0, 1, 0)) ∨ (¬ Zr l ∧ v = (1, 1, 0))) ?_ ?_ ?_ fun _ _ => trivial
           · refine Gives.step ?_
             simp only [T_sketch_Region]
             refine Gives.bind sv fun v hv => Gives.neg (by simp [hv]) (Gives.neg (by simp [hn]) (Gives.bind sl fun r hr => ?_))
             obtain ⟨b, rfl, hb⟩ := hr
             exact Gives.neg (by rw [hb]; exact he) (Gives.pos hE (Gives.bind (sk_flatV hl) fun v hv => Gives.now hv))
           · by_cases z : Zr l
             · exact (rz (0, 1, 0) (.inl ⟨z, rfl⟩)).mono fun v hv => .inl ⟨z, hv⟩
             · exact (rz (1, 1, 0) (.inr ⟨z, rfl⟩)).mono fun v hv => .inr ⟨z, hv⟩
           · intro a b ha hb
             rcases ha with ⟨z, rfl⟩ | ⟨z, rfl⟩ <;> rcases hb with ⟨z', rfl⟩ | ⟨z', rfl⟩ <;> first | rfl | exact absurd z z' | exact absurd z' z
         · exact sk_main h (by have := h.e0; omega) hn ha he
     · refine ⟨(0, 0, 1), ?_, ?_, trivial⟩
       · refine Gives.step ?_
         simp only [T_sketch_Region]
         refine Gives.bind sv fun v hv => Gives.neg (by simp [hv]) (Gives.neg (by simp [hn]) (Gives.bind (sk_loop hl) fun r hr => ?_))
         rcases hr with ⟨hr, _⟩ | ⟨_, rfl⟩
         · exact absurd hr ha
         · exact Gives.now rfl
       · refine Gives.step ?_
         simp only [T_ref21_Region]
         refine Gives.bind rv fun v hv => Gives.neg (by simp [hv]) (Gives.neg (by simp [hn]) (Gives.bind (r21_loop hl) fun r hr => ?_))
         rcases hr with ⟨hr, _⟩ | ⟨_, rfl⟩
         · exact absurd hr ha
         · exact Gives.now rfl
   · refine ⟨(0, 0, 8), ?_, ?_, trivial⟩
     · refine Gives.step ?_
       simp only [T_sketch_Region]
       exact Gives.bind sv fun v hv => Gives.neg (by simp [hv]) (Gives.pos (by simp; omega) (Gives.now rfl))
     · refine Gives.step ?_
       simp only [T_ref21_Region]
       exact Gives.bind rv fun v hv => Gives.neg (by simp [hv]) (Gives.pos (by simp; omega) (Gives.now rfl))
 · refine ⟨(0, 0, 3), ?_, ?_, trivial⟩
   · refine Gives.step ?_
     simp only [T_sketch_Region]
     exact Gives.bind sk_validG fun v hv => hv.elim (fun q => absurd q.2 h) fun q => Gives.pos (by simp [q.1]) (Gives.now rfl)
   · refine Gives.step ?_
     simp only [T_ref21_Region]
     exact Gives.bind r21_residual fun v hv => hv.elim (fun q => absurd q.1 h) fun q => Gives.pos (by simp [q.2]) (Gives.now rfl)
theorem rows_eq {a b : List Int × Int} {n : Int} {F : Int → Int} (h1 : a.2 = 0) (h2 : (a.1.length : Int) = n) (h3 : ∀ p, 0 ≤ p → p < n → rd a.1 p = F p) (k1 : b.2 = 0) (k2 : (b.1.length : Int) = n) (k3 : ∀ p, 0 ≤ p → p < n → rd b.1 p = F p) : a = b := by
 have : a.1 = b.1 := ext_rd (by omega) fun p h0 h1 => by rw [h3 p h0 (by omega), k3 p h0 (by omega)]
 exact Prod.ext this (by rw [h1, k1])
theorem ag_of {x : List Int} {n : Int} (hl : x.length ≤ 1000) : Agree (fun k => T_sketch_Of k x n) (fun k => T_ref21_Of k x n) (fun v => v.2.1.length ≤ 1000) := by
 by_cases h : errN x n = 0
 · obtain ⟨w, n1, n2, n3⟩ := errN_zero h
   have xl := w.hi
   obtain ⟨m, rfl⟩ : ∃ m : Nat, n = m := ⟨n.toNat, by omega⟩
   obtain ⟨v, v1, v2⟩ := (pc_centred w n1 n2 n3).get
   have u1 : Gives (fun k => T_ref18_Centred k x m) (· = v) := (f18_centred w (n := m) (by omega) (by omega) (by omega)).mono fun u hu => rows_eq (n := (m : Int)) (F := fun p => pcc x m p) hu.1 (by omega) hu.2.2 v2.1 v2.2.1 v2.2.2
   have sb := selfP_bound w
   have pb := prod_bound (a := (x.length : Int)) (b := selfP x) (A := 32) (B := 4000000000) (by omega) (by omega) sb.1 sb.2.1
   refine ⟨((x.length : Int), v.1, (x.length : Int) * selfP x, 0), ?_, ?_, by have := v2.2.1; simp only []; omega⟩
   · refine Gives.step ?_
     simp only [T_sketch_Of]
     refine Gives.bind v1 fun a ha => ?_
     subst ha
     refine Gives.neg (by simp [v2.1]) (Gives.bind (nm_Product w) fun b hb => Gives.neg (by simp [hb.2]) (Gives.now ?_))
     rw [hb.1, w64_id (by omega) (by omega)]
   · refine Gives.step ?_
     simp only [T_ref21_Of]
     refine Gives.bind u1 fun a ha => ?_
     subst ha
     refine Gives.neg (by simp [v2.1]) (Gives.bind (rf_Product w w rfl) fun b hb => Gives.now ?_)
     rw [hb.1, ← selfP_prod, w64_id (by omega) (by omega)]
 · refine ⟨(0, [], 0, errN x n), ?_, ?_, by simp⟩
   · refine Gives.step ?_
     simp only [T_sketch_Of]
     exact Gives.bind (pc_centredG hl h) fun a ha => Gives.pos (by simp [ha, h]) (Gives.now (by rw [ha]))
   · refine Gives.step ?_
     simp only [T_ref21_Of]
     exact Gives.bind (f18_centredG hl h) fun a ha => Gives.pos (by simp [ha, h]) (Gives.now (by rw [ha]))
theorem r21_ofL {x : List Int} {n : Int} (w : Win x) (n1 : 1 ≤ n) (n2 : n ≤ 8) (n3 : n ≤ (x.length : Int)) : Gives (fun k => T_ref21_Of k x n) (fun r => (r.2.1.length : Int) = n) := by
 obtain ⟨m, rfl⟩ : ∃ m : Nat, n = m := ⟨n.toNat, by omega⟩
 refine Gives.step ?_
 simp only [T_ref21_Of]
 exact Gives.bind (f18_centred w (n := m) (by omega) (by omega) (by omega)) fun a ha => Gives.neg (by simp [ha.1]) (Gives.bind (rf_Product w w rfl) fun b hb => Gives.now (by simp only []; omega))
theorem r21_same {a b : Int} {s : List Int} (h : s.length ≤ 1000) : Gives (fun k => T_ref21_Same k a s b a s b) (· = true) := by
 refine Gives.step ?_
 simp only [T_ref21_Same]
 exact Gives.bind (Q := fun r => r = true) (Gives.pos (by simp) (Gives.bind (ints_refl rfl h) fun v hv => Gives.now hv)) fun r hr => Gives.now hr
theorem r19_validL {kd bd gp len n : Int} {cuts sy bi : List Int} (h : SchOk kd bd gp len n cuts) (w : WOk n sy bi) : Gives (fun k => T_ref19_Valid k kd bd gp len n cuts sy bi) (· = true) := by
 have c1 := h.c1
 have n2 := h.n2
 have n1 := h.n1
 obtain ⟨w1, w2, w3⟩ := w
 refine Gives.step ?_
 simp only [T_ref19_Valid]
 refine Gives.bind (r19_checkG (by omega)) fun e he => ?_
 have e0 : e = 0 := he.elim (·.1) fun q => absurd h q.2
 refine Gives.neg (by simp [e0]; omega) (Gives.bind (Q := fun r => r = .inl ()) ?_ fun r hr => by subst hr; exact Gives.now rfl)
 rw [w2]
 refine Gives.loop (fun s => 0 ≤ s ∧ s ≤ n) (fun s => (n - s).toNat) ?_ ⟨by omega, by omega⟩
 intro i ⟨i0, i1⟩
 unfold T_ref19_Valid_l1
 refine Gives.ite (fun c => ?_) fun c => Gives.now rfl
 obtain ⟨b0, b1, s0, s1⟩ := w3 i i0 c
 refine Gives.bind (Q := fun b => b = false) (Gives.opt (at_rd i0 (by omega)) (Gives.neg (by simp; omega) (Gives.opt (at_rd i0 (by omega)) (Gives.neg (by omega) (Gives.pos b0 (Gives.now ?_)))))) fun b hb => ?_
 · rw [bits_lt b0 b1]
   simp; omega
 · subst hb
   rw [w64_id (by omega) (by omega)]
   exact Gives.neg (by simp) (Gives.now ⟨⟨by omega, by omega⟩, by omega⟩)
theorem sa_l1 {p2 p3 p5 x13 x19 x23 x24 x67 : Int} {p4 x10 x11 x18 x25 x69 ns : List Int} {p6 : List (Int × Int)} {x12 : List (List Int)} (hl : x69.length ≤ 1000) (hn : ns.length ≤ 10) :
 Gives (fun k => loopT (T_law21_SketchAnswers_l1 k p2 p3 p4 p5 p6 x10 x11 x12 x13 x18 x19 x23 x24 x25 x67 x69 ns (ns.length : Int)) k 0) (fun r => r = .inl ()) := by
 refine Gives.loop (fun s => 0 ≤ s ∧ s ≤ (ns.length : Int)) (fun s => ((ns.length : Int) - s).toNat) ?_ ⟨by omega, by omega⟩
 intro s ⟨i0, i1⟩
 unfold T_law21_SketchAnswers_l1
 refine Gives.ite (fun c => Gives.opt (at_rd i0 c) ?_) fun c => Gives.now rfl
 obtain ⟨a, a1, a2, a3⟩ := ag_of (n := rd ns s) hl
 refine Gives.bind a1 fun _ e => Gives.bind a2 fun _ e' => ?_
 subst e e'
 refine Gives.bind (r21_same a3) fun u hu => Gives.neg (by simp [hu]) ?_
 rw [w64_id (by omega) (by omega)]
 exact Gives.now ⟨⟨by omega, by omega⟩, by omega⟩
theorem sa_l2 {p2 p3 p5 x19 x23 x24 : Int} {p4 x10 x11 x18 x25 : List Int} {p6 : List (Int × Int)} {xs : List (List Int)} (hx : ∀ x ∈ xs, x.length ≤ 1000) (hn : xs.length ≤ 10) :
 Gives (fun k => loopT (T_law21_SketchAnswers_l2 k p2 p3 p4 p5 p6 x10 x11 xs (xs.length : Int) x18 x19 x23 x24 x25) k 0) (fun r => r = .inl ()) := by
 refine Gives.loop (fun s => 0 ≤ s ∧ s ≤ (xs.length : Int)) (fun s => ((xs.length : Int) - s).toNat) ?_ ⟨by omega, by omega⟩
 intro s ⟨i0, i1⟩
 unfold T_law21_SketchAnswers_l2
 refine Gives.ite (fun c => ?_) fun c => Gives.now rfl
 obtain ⟨v, ev, mv⟩ := at_mem i0 c
 refine Gives.opt ev (Gives.bind (src_mod p2 11 (by omega) (by omega)) fun u _ => Gives.bind (sa_l1 (hx v mv) (by simp)) fun w hw => ?_)
 subst hw
 simp only []
 rw [w64_id (by omega) (by omega)]
 exact Gives.now ⟨⟨by omega, by omega⟩, by omega⟩
theorem sa_l3 {p3 p5 x137 x142 x144 x145 x147 x148 x150 x233 m E : Int} {p4 x143 x146 x149 s : List Int} {p6 x134 x135 : List (Int × Int)} {x136 qs : List (Int × (List Int) × Int)} (hn : qs.length ≤ 10) :
 Gives (fun k => loopT (T_law21_SketchAnswers_l3 k p3 p4 p5 p6 x134 x135 x136 x137 x142 x143 x144 x145 x146 x147 x148 x149 x150 x233 qs (qs.length : Int) m s E) k 0) (fun r => r = .inl ()) := by
 refine Gives.loop (fun i => 0 ≤ i ∧ i ≤ (qs.length : Int)) (fun i => ((qs.length : Int) - i).toNat) ?_ ⟨by omega, by omega⟩
 intro i ⟨i0, i1⟩
 unfold T_law21_SketchAnswers_l3
 refine Gives.ite (fun c => ?_) fun c => Gives.now rfl
 obtain ⟨v, ev, mv⟩ := at_mem i0 c
 obtain ⟨a, a1, a2, _⟩ := ag_upper (m := m) (E := E) (s := s) (m' := v.1) (t := v.2.1) (F := v.2.2)
 obtain ⟨b, b1, b2, _⟩ := ag_gap (m := m) (E := E) (s := s) (m' := v.1) (t := v.2.1) (F := v.2.2)
 refine Gives.opt ev (Gives.bind a1 fun _ e => Gives.bind a2 fun _ e' => Gives.bind b1 fun _ f => Gives.bind b2 fun _ f' => ?_)
 subst e e' f f'
 refine Gives.neg (by simp) ?_
 rw [w64_id (by omega) (by omega)]
 exact Gives.now ⟨⟨by omega, by omega⟩, by omega⟩
theorem sa_l4 {p3 p5 x137 x142 x144 x145 x147 x148 x150 x233 m E : Int} {p4 x143 x146 x149 s : List Int} {p6 x134 x135 : List (Int × Int)} {x136 : List (Int × (List Int) × Int)} {zs : List (List (Int × Int))} (hz : ∀ z ∈ zs, z.length ≤ 1000) (hn : zs.length ≤ 10) :
 Gives (fun k => loopT (T_law21_SketchAnswers_l4 k p3 p4 p5 p6 x134 x135 x136 x137 x142 x143 x144 x145 x146 x147 x148 x149 x150 x233 zs (zs.length : Int) m s E) k 0) (fun r => r = .inl ()) := by
 refine Gives.loop (fun i => 0 ≤ i ∧ i ≤ (zs.length : Int)) (fun i => ((zs.length : Int) - i).toNat) ?_ ⟨by omega, by omega⟩
 intro i ⟨i0, i1⟩
 unfold T_law21_SketchAnswers_l4
 refine Gives.ite (fun c => ?_) fun c => Gives.now rfl
 obtain ⟨v, ev, mv⟩ := at_mem i0 c
 obtain ⟨a, a1, a2, _⟩ := ag_regionV (m := m) (E := E) (s := s) (hz v mv)
 refine Gives.opt ev (Gives.bind a1 fun _ e => Gives.bind a2 fun _ e' => ?_)
 subst e e'
 refine Gives.neg (by simp) ?_
 rw [w64_id (by omega) (by omega)]
 exact Gives.now ⟨⟨by omega, by omega⟩, by omega⟩
theorem pure_sketchAnswers (a0 : List Int) (w0 : ∀ n ∈ a0, (Lit.int .i64 n).wf = true) (a1 : Int) (w1 : (Lit.int .i64 a1).wf = true) (a2 : Int) (w2 : (Lit.int .i64 a2).wf = true) (a3 : List Int) (w3 : ∀ n ∈ a3, (Lit.int .i64 n).wf = true) (a4 : Int) (w4 : (Lit.int .i64 a4).wf = true) (a5 : List (Int × Int)) (w5 : ∀ n ∈ a5, (Lit.int .i64 n.1).wf = true ∧ (Lit.int .i64 n.2).wf = true) (a6 : List Int) (w6 : ∀ n ∈ a6, (Lit.int .i64 n).wf = true) : ∃ k, T_law21_SketchAnswers k a0 a1 a2 a3 a4 a5 a6 = some true := by
 refine Gives.true (f := fun k => T_law21_SketchAnswers k a0 a1 a2 a3 a4 a5 a6) ?_
 obtain ⟨s0, s1⟩ := src_new a6
 refine Gives.step ?_
 simp only [T_law21_SketchAnswers]
 refine Gives.ite (fun _ => Gives.bind awake_ok fun v hv => Gives.now hv) fun hc => ?_
 have h0 : a0.length ≤ 100 ∧ a5.length ≤ 20 := by simp at hc; omega
 refine Gives.bind s1 fun _ _ => Gives.bind (Q := fun r => SchOk 3 0 0 r.1 r.2.1 r.2.2.1 ∧ SrcOk ((a6.drop 0).take ((imin (a6.length : Int) 2000).toNat - 0)) r.2.2.2) ?_ fun a ha => ?_
 · refine Gives.step ?_
   simp only [T_law21_normal]
   refine Gives.bind (src_scheme s0) fun r hr => Gives.now ⟨?_, hr.2⟩
   obtain ⟨_, _, _, _, _, _, _, _, l1, l2, n1, n2, n3, c1, c2, c3⟩ := hr.1
   exact ⟨by omega, by omega, by omega, by omega, .inl rfl, by omega, by omega, .inl rfl, l1, l2, n1, n2, n3, c1, c2, c3⟩
 obtain ⟨hs, h8⟩ := ha
 have l1 := hs.l1
 have l2 := hs.l2
 have n1 := hs.n1
 have n2 := hs.n2
 have n3 := hs.n3
 refine Gives.bind (src_list h8 a.1 l1 l2) fun b hb => ?_
 obtain ⟨b1, b2, b3⟩ := hb
 have wb : Win b.1 := ⟨by omega, by omega, b2⟩
 refine Gives.bind (src_near b3 wb) fun c hcc => ?_
 obtain ⟨c1, c2, c3⟩ := hcc
 have wc : Win c.1 := ⟨by omega, by omega, c2⟩
 refine Gives.bind (src_bent c3 (by omega)) fun d hd => Gives.bind (sa_l2 ?_ (by simp)) fun r hr => ?_
 · intro x hx
   simp only [List.mem_cons, List.not_mem_nil, or_false] at hx
   rcases hx with rfl | rfl | rfl <;> omega
 subst hr
 refine Gives.bind (r21_ofL wb n1 n2 (by omega)) fun e he => Gives.bind (r21_ofL wc n1 n2 (by omega)) fun f hf => Gives.bind (r21_ofL wc (n := 1) (by omega) (by omega) (by omega)) fun g hg => Gives.pos (by unfold LIM; omega) ?_
 refine Gives.bind (src_n hd.2 (((0 + f.2.1.length) : Nat) : Int) (by omega) (by omega)) fun y hy => Gives.bind (src_n hy.2.2 4 (by omega) (by omega)) fun z hz => Gives.bind (Q := fun r => SrcOk ((a6.drop 0).take ((imin (a6.length : Int) 2000).toNat - 0)) r.1) ?_ fun q hq => ?_
 · refine Gives.ite (fun _ => Gives.pos ⟨hy.1, hy.2.1⟩ ?_) fun _ => Gives.ite (fun _ => Gives.bind (src_pick hz.2.2 _ (by simp) (by simp)) fun v hv => Gives.now hv.2) fun _ => Gives.ite (fun _ => Gives.bind (src_pick hz.2.2 _ (by simp) (by simp)) fun v hv => Gives.now hv.2) fun _ => Gives.now hz.2.2
   have en : (([] : List Int).drop 0).take 0 ++ f.2.1 = f.2.1 := by simp
   rw [en]
   exact Gives.opt (get_rd0 hy.1 (by have := hy.2.1; omega)) (Gives.bind (src_pick hz.2.2 _ (by simp) (by simp)) fun v hv => Gives.now hv.2)
 refine Gives.bind (src_word hq n1 n2) fun w hw => Gives.bind (r19_region hs hw.1 (r19_validL hs hw.1)) fun R hR => Gives.pos (by unfold LIM; have := hR.2.1; omega) ?_
 have rl := hR.2.1
 refine Gives.bind (src_n hw.2 (((0 + R.1.length) : Nat) : Int) (by omega) (by omega)) fun y2 hy2 => Gives.bind (src_pick hy2.2.2 _ (by simp) (by simp)) fun v hv => Gives.bind (src_pick hv.2 _ (by simp) (by simp)) fun u hu => Gives.pos ⟨hy2.1, hy2.2.1⟩ ?_
 refine Gives.bind (Q := fun r => r = .inl ()) ?_ fun r hr => by subst hr; exact Gives.bind awake_ok fun v hv => Gives.now hv
 generalize hps : ([(a2, a3, a4), (e.1, e.2.1, e.2.2.1), (f.1, f.2.1, f.2.2.1), (g.1, g.2.1, g.2.2.1), (q.2.1, ((q.2.2.2.drop 0).take (0 + f.2.1.length)), q.2.2.1)] : List (Int × (List Int) × Int)) = ps
 have lps : ps.length = 5 := by rw [← hps]; rfl
 refine Gives.loop (fun i => 0 ≤ i ∧ i ≤ (ps.length : Int)) (fun i => ((ps.length : Int) - i).toNat) ?_ ⟨by omega, by omega⟩
 intro i ⟨i0, i1⟩
 unfold T_law21_SketchAnswers_l5
 refine Gives.ite (fun c => ?_) fun c => Gives.now rfl
 obtain ⟨x, ex, mx⟩ := at_mem i0 c
 refine Gives.opt ex (Gives.bind (sa_l3 (by simp)) fun r hr => ?_)
 subst hr
 refine Gives.bind (sa_l4 ?_ (by simp)) fun r hr => ?_
 · intro z hz
   simp only [List.mem_cons, List.not_mem_nil, or_false] at hz
   rcases hz with rfl | rfl | rfl
   · omega
   · omega
   · simp only [List.length_take]; omega
 subst hr
 simp only []
 rw [w64_id (by omega) (by omega)]
 exact Gives.now ⟨⟨by omega, by omega⟩, by omega⟩

end Go.Proofs.Ytdmipmhpjdmopaa.sketchAnswers
