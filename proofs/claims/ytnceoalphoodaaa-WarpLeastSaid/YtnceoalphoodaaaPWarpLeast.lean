/- That the told functions answer as the statement WarpLeast says, in plain Lean. There are no conditions. -/
import Derived.Test.YtnceoalphoodaaaTWarpLeast1
set_option maxRecDepth 100000
set_option linter.unusedVariables false
set_option linter.unusedSimpArgs false
namespace Go.Proofs.Ytnceoalphoodaaa.warpLeast
open Go
theorem w64_id {x : Int} (h1 : -9223372036854775808 ≤ x) (h2 : x < 9223372036854775808) : w64 x = x := wrap_id h1 h2

/-- With enough rounds the answer is there, and it is as asked. -/
def Gives {α : Type} (f : Nat → Option α) (Q : α → Prop) : Prop := ∃ r, (∃ K, ∀ k, K ≤ k → f k = some r) ∧ Q r
theorem Gives.mono {α : Type} {f : Nat → Option α} {Q Q' : α → Prop} (h : Gives f Q) (k : ∀ r, Q r → Q' r) : Gives f Q' := by
 obtain ⟨r, h1, h2⟩ := h; exact ⟨r, h1, k r h2⟩
theorem Gives.now {α : Type} {r : α} {Q : α → Prop} (h : Q r) : Gives (fun _ => some r) Q := ⟨r, ⟨0, fun _ _ => rfl⟩, h⟩
theorem Gives.bind {α β : Type} {f : Nat → Option α} {g : Nat → α → Option β} {Q : α → Prop} {Q' : β → Prop} (h : Gives f Q) (k : ∀ a, Q a → Gives (fun n => g n a) Q') : Gives (fun n => (f n).bind (g n)) Q' := by
 obtain ⟨a, ⟨K, hK⟩, ha⟩ := h
 obtain ⟨r, ⟨K2, hK2⟩, hr⟩ := k a ha
 exact ⟨r, ⟨max K K2, fun n hn => by show (f n).bind (g n) = some r; rw [hK n (by omega), Option.bind_some]; exact hK2 n (by omega)⟩, hr⟩
theorem Gives.opt {α β : Type} {x : Option α} {a : α} {g : Nat → α → Option β} {Q : β → Prop} (h : x = some a) (k : Gives (fun n => g n a) Q) : Gives (fun n => x.bind (g n)) Q := by
 subst h; exact k
theorem Gives.step {α : Type} {f : Nat → Option α} {Q : α → Prop} (h : Gives (fun k => f (k + 1)) Q) : Gives f Q := by
 obtain ⟨r, ⟨K, hK⟩, hr⟩ := h
 refine ⟨r, ⟨K + 1, fun n hn => ?_⟩, hr⟩
 obtain ⟨m, rfl⟩ : ∃ m, n = m + 1 := ⟨n - 1, by omega⟩
 exact hK m (by omega)
theorem Gives.ite {α : Type} {c : Prop} [Decidable c] {f g : Nat → Option α} {Q : α → Prop} (h : c → Gives f Q) (k : ¬ c → Gives g Q) : Gives (fun n => if c then f n else g n) Q := by
 by_cases hc : c
 · simp only [if_pos hc]; exact h hc
 · simp only [if_neg hc]; exact k hc
theorem Gives.pos {α : Type} {c : Prop} [Decidable c] {f g : Nat → Option α} {Q : α → Prop} (hc : c) (h : Gives f Q) : Gives (fun n => if c then f n else g n) Q := by
 simp only [if_pos hc]; exact h
theorem Gives.neg {α : Type} {c : Prop} [Decidable c] {f g : Nat → Option α} {Q : α → Prop} (hc : ¬ c) (h : Gives g Q) : Gives (fun n => if c then f n else g n) Q := by
 simp only [if_neg hc]; exact h
theorem Gives.loop {S R : Type} {f : Nat → S → Option (S ⊕ R)} {Q : R → Prop} (Inv : S → Prop) (m : S → Nat)
 (h : ∀ s, Inv s → Gives (fun k => f k s) (fun x => match x with | .inl s' => Inv s' ∧ m s' < m s | .inr r => Q r)) {s : S} (hs : Inv s) : Gives (fun k => loopT (f k) k s) Q := by
 suffices H : ∀ (n : Nat) (s : S), m s < n → Inv s → ∃ r, (∃ K N, ∀ k, K ≤ k → ∀ j, N ≤ j → loopT (f k) j s = some r) ∧ Q r by
  obtain ⟨r, ⟨K, N, hK⟩, hr⟩ := H (m s + 1) s (by omega) hs
  exact ⟨r, ⟨max K N, fun k hk => hK k (by omega) k (by omega)⟩, hr⟩
 intro n
 induction n with
 | zero => intro s hs; omega
 | succ n ih =>
  intro s hs hI
  obtain ⟨x, ⟨K, hK⟩, hx⟩ := h s hI
  cases x with
  | inl s' =>
   obtain ⟨r, ⟨K2, N, hK2⟩, hr⟩ := ih s' (by have := hx.2; omega) hx.1
   refine ⟨r, ⟨max K K2, N + 1, fun k hk j hj => ?_⟩, hr⟩
   obtain ⟨j', rfl⟩ : ∃ j', j = j' + 1 := ⟨j - 1, by omega⟩
   simp only [loopT, hK k (by omega), Option.bind_some]
   exact hK2 k (by omega) j' (by omega)
  | inr r =>
   refine ⟨r, ⟨K, 1, fun k hk j hj => ?_⟩, hx⟩
   obtain ⟨j', rfl⟩ : ∃ j', j = j' + 1 := ⟨j - 1, by omega⟩
   simp only [loopT, hK k hk, Option.bind_some]
theorem Gives.true {f : Nat → Option Bool} (h : Gives f (· = true)) : ∃ k, f k = some true := by
 obtain ⟨r, ⟨K, hK⟩, hr⟩ := h
 subst hr
 exact ⟨K, hK K (Nat.le_refl _)⟩
/-- An element of a list, 0 outside of it. -/
def rd (xs : List Int) (i : Int) : Int := xs.getD i.toNat 0
theorem at_rd {xs : List Int} {i : Int} (h0 : 0 ≤ i) (h1 : i < (xs.length : Int)) : at? xs i = some (rd xs i) := by
 unfold at? rd
 rw [if_pos h0, List.getD_eq_getElem?_getD, List.getElem?_eq_getElem (by omega)]; rfl
theorem get_rd {xs : List Int} {n : Nat} (h1 : n < xs.length) : xs[n]? = some (rd xs n) := by
 unfold rd
 rw [List.getD_eq_getElem?_getD, List.getElem?_eq_getElem h1]
 simp [h1]
theorem rd_mem {xs : List Int} {i : Int} (h0 : 0 ≤ i) (h1 : i < (xs.length : Int)) : rd xs i ∈ xs := by
 unfold rd
 have h : i.toNat < xs.length := by omega
 rw [List.getD_eq_getElem?_getD, List.getElem?_eq_getElem h]; exact List.getElem_mem h
/-- All numbers are samples. -/
def Smp (xs : List Int) : Prop := ∀ v ∈ xs, -1000 ≤ v ∧ v ≤ 1000
theorem Smp.rd {xs : List Int} (h : Smp xs) (i : Int) : -1000 ≤ rd xs i ∧ rd xs i ≤ 1000 := by
 show -1000 ≤ xs.getD i.toNat 0 ∧ xs.getD i.toNat 0 ≤ 1000
 rw [List.getD_eq_getElem?_getD]
 rcases Nat.lt_or_ge i.toNat xs.length with c | c
 · rw [List.getElem?_eq_getElem c]; exact h _ (List.getElem_mem c)
 · rw [List.getElem?_eq_none c]; decide
theorem Smp.nil : Smp [] := fun _ h => by simp at h
theorem Smp.app {xs ys : List Int} (h : Smp xs) (k : Smp ys) : Smp (xs ++ ys) := fun v hv => by
 rcases List.mem_append.1 hv with h1 | h1
 · exact h v h1
 · exact k v h1
theorem Smp.one {v : Int} (h0 : -1000 ≤ v) (h1 : v ≤ 1000) : Smp [v] := fun u hu => by
 obtain rfl := List.mem_singleton.1 hu; exact ⟨h0, h1⟩
theorem Smp.take {xs : List Int} (h : Smp xs) (n : Nat) : Smp (xs.take n) := fun v hv => h v (List.mem_of_mem_take hv)
theorem Smp.drop {xs : List Int} (h : Smp xs) (n : Nat) : Smp (xs.drop n) := fun v hv => h v (List.mem_of_mem_drop hv)
theorem Smp.set {xs : List Int} (h : Smp xs) (n : Nat) {v : Int} (h0 : -1000 ≤ v) (h1 : v ≤ 1000) : Smp (xs.set n v) := fun u hu => by
 rcases List.mem_or_eq_of_mem_set hu with h2 | h2
 · exact h u h2
 · subst h2; exact ⟨h0, h1⟩
/-- A window. -/
structure Win (xs : List Int) : Prop where
 lo : 2 ≤ xs.length
 hi : xs.length ≤ 32
 smp : Smp xs

/-- A reader of numbers. -/
structure SrcOk (L : List Int) (p : Int) : Prop where
 lo : 0 ≤ p
 hi : p ≤ (L.length : Int)
 len : L.length ≤ 2000
theorem src_raw {L : List Int} {p : Int} (h : SrcOk L p) : Gives (fun k => T_keep_Src_Raw k L p) (fun r => SrcOk L r.2) := by
 obtain ⟨h0, h1, h2⟩ := h
 refine Gives.step ?_
 simp only [T_keep_Src_Raw]
 have e1 : w64 (p + 1) = p + 1 := w64_id (by omega) (by omega)
 have e2 : w64 (w64 (p + 1) - 1) = p := by rw [e1, w64_id (by omega) (by omega)]; omega
 refine Gives.ite (fun c => Gives.now ⟨h0, h1, h2⟩) fun c => ?_
 rw [e2, e1]
 exact Gives.opt (at_rd h0 (by omega)) (Gives.now ⟨by simp only []; omega, by simp only []; omega, h2⟩)
theorem src_mod (x n : Int) (h : 1 ≤ n) (hn : n ≤ 4611686018427387904) : Gives (fun k => T_keep_Mod k x n) (fun v => 0 ≤ v ∧ v < n) := by
 have h1 : Int.tmod x n < n := Int.tmod_lt_of_pos _ (by omega)
 have h2 : -n < Int.tmod x n := by
  rcases Int.le_total 0 x with c | c
  · have := Int.tmod_nonneg n c; omega
  · have h3 : Int.tmod (-x) n < n := Int.tmod_lt_of_pos _ (by omega)
    rw [Int.neg_tmod] at h3; omega
 refine Gives.step ?_
 simp only [T_keep_Mod]
 refine Gives.neg (by omega) (Gives.pos (by omega) (Gives.bind (Q := fun v => 0 ≤ v ∧ v < n) ?_ fun a ha => Gives.now ha))
 refine Gives.ite (fun c => ?_) fun c => Gives.now ⟨by omega, by omega⟩
 rw [w64_id (by omega) (by omega)]
 exact Gives.now ⟨by omega, by omega⟩
theorem src_n {L : List Int} {p : Int} (h : SrcOk L p) (n : Int) (h1 : 1 ≤ n) (hn : n ≤ 4611686018427387904) : Gives (fun k => T_keep_Src_N k n L p) (fun r => 0 ≤ r.1 ∧ r.1 < n ∧ SrcOk L r.2) := by
 refine Gives.step ?_
 simp only [T_keep_Src_N]
 exact Gives.bind (src_raw h) fun a ha => Gives.bind (src_mod a.1 n h1 hn) fun v hv => Gives.now ⟨hv.1, hv.2, ha⟩
theorem src_range {L : List Int} {p : Int} (h : SrcOk L p) (lo hi : Int) (h1 : lo ≤ hi) (h0 : -1000000000000 ≤ lo) (h2 : hi ≤ 1000000000000) : Gives (fun k => T_keep_Src_Range k lo hi L p) (fun r => lo ≤ r.1 ∧ r.1 ≤ hi ∧ SrcOk L r.2) := by
 have e1 : w64 (w64 (hi - lo) + 1) = hi - lo + 1 := by rw [w64_id (x := hi - lo) (by omega) (by omega), w64_id (by omega) (by omega)]
 refine Gives.step ?_
 simp only [T_keep_Src_Range]
 rw [e1]
 refine Gives.bind (src_n h (hi - lo + 1) (by omega) (by omega)) fun a ha => ?_
 rw [w64_id (by omega) (by omega)]
 exact Gives.now ⟨by simp only []; omega, by simp only []; omega, ha.2.2⟩
theorem src_pick {L : List Int} {p : Int} (h : SrcOk L p) (l : List Int) (h1 : 1 ≤ l.length) (h2 : l.length ≤ 1000) : Gives (fun k => T_keep_Src_Pick k l L p) (fun r => r.1 ∈ l ∧ SrcOk L r.2) := by
 refine Gives.step ?_
 simp only [T_keep_Src_Pick]
 exact Gives.bind (src_n h (l.length : Int) (by omega) (by omega)) fun a ha => Gives.opt (at_rd ha.1 ha.2.1) (Gives.now ⟨rd_mem ha.1 ha.2.1, ha.2.2⟩)
theorem src_clip (x : Int) : Gives (fun k => T_keep_clip k x) (fun _ => True) := by
 refine Gives.step ?_
 simp only [T_keep_clip]
 exact Gives.now trivial
theorem clip_smp (x : Int) : -1000 ≤ imin (imax x (-1000)) 1000 ∧ imin (imax x (-1000)) 1000 ≤ 1000 := by unfold imin imax; split <;> split <;> omega
theorem src_length {L : List Int} {p : Int} (h : SrcOk L p) : Gives (fun k => T_keep_Src_Length k L p) (fun r => 2 ≤ r.1 ∧ r.1 ≤ 32 ∧ SrcOk L r.2) := by
 refine Gives.step ?_
 simp only [T_keep_Src_Length]
 refine Gives.bind (src_n h 8 (by omega) (by omega)) fun a ha => Gives.ite (fun c => ?_) fun c => ?_
 · exact Gives.bind (src_range ha.2.2 13 32 (by omega) (by omega) (by omega)) fun b hb => Gives.now ⟨by simp only []; omega, by simp only []; omega, hb.2.2⟩
 · exact Gives.bind (src_range ha.2.2 2 12 (by omega) (by omega) (by omega)) fun b hb => Gives.now ⟨by simp only []; omega, by simp only []; omega, hb.2.2⟩
theorem drop_take_len {xs : List Int} {n : Nat} (h : xs.length = n) : (xs.drop 0).take n = xs := by rw [List.drop_zero, ← h, List.take_length]
theorem src_list {L : List Int} {p : Int} (h : SrcOk L p) (n : Int) (h1 : 2 ≤ n) (h2 : n ≤ 32) : Gives (fun k => T_keep_Src_List k n L p) (fun r => (r.1.length : Int) = n ∧ Smp r.1 ∧ SrcOk L r.2) := by
 refine Gives.step ?_
 simp only [T_keep_Src_List]
 refine Gives.bind (src_n h 6 (by omega) (by omega)) fun a ha => Gives.bind (src_pick ha.2.2 [1, 3, 10, 100, 1000] (by decide) (by decide)) fun b hb => Gives.bind (src_n hb.2 3 (by omega) (by omega)) fun c hc => ?_
 have hb1 : 1 ≤ b.1 ∧ b.1 ≤ 1000 := by have := hb.1; simp at this; omega
 have em : w64 (0 - b.1) = -b.1 := by rw [w64_id (by omega) (by omega)]; omega
 refine Gives.bind (Q := fun d => -1000 ≤ d.1 ∧ d.1 ≤ 1000 ∧ SrcOk L d.2) ?_ fun d hd => ?_
 · refine Gives.ite (fun _ => ?_) fun _ => Gives.now ⟨by simp only []; omega, by simp only []; omega, hc.2.2⟩
   exact Gives.bind (src_range hc.2.2 (-1000) 1000 (by omega) (by omega) (by omega)) fun e he => Gives.now he
 refine Gives.bind (Q := fun r => (r.1 : Int) = n ∧ r.2.2.length = r.1 ∧ Smp r.2.2 ∧ SrcOk L r.2.1) ?_ fun r hr => ?_
 · refine Gives.loop (fun s => -1000 ≤ s.1 ∧ s.1 ≤ 1000 ∧ (s.2.1 : Int) = s.2.2.1 ∧ s.2.2.1 ≤ n ∧ SrcOk L s.2.2.2.1 ∧ s.2.2.2.2.length = s.2.1 ∧ Smp s.2.2.2.2) (fun s => (n - s.2.2.1).toNat) ?_ ⟨hd.1, hd.2.1, rfl, by simp only []; omega, hd.2.2, rfl, Smp.nil⟩
   intro s ⟨i1, i2, i3, i4, i5, i6, i7⟩
   have ed : (s.2.2.2.2.drop 0).take s.2.1 = s.2.2.2.2 := drop_take_len i6
   unfold T_keep_Src_List_l1
   refine Gives.ite (fun c => ?_) fun c => Gives.now ⟨by simp only []; omega, i6, i7, i5⟩
   rw [em, ed]
   have hlim : s.2.1 + 1 ≤ LIM := by unfold LIM; omega
   refine Gives.bind (Q := fun _ => True) (Gives.ite (fun _ => Gives.now trivial) fun _ => Gives.now trivial) fun t _ => ?_
   refine Gives.bind (Q := fun r => -1000 ≤ r.1 ∧ r.1 ≤ 1000 ∧ SrcOk L r.2.1 ∧ r.2.2.length = s.2.1 + 1 ∧ Smp r.2.2) ?_ fun r hr => ?_
   · refine Gives.ite (fun _ => ?_) fun _ => ?_
     · refine Gives.bind (src_range i5 (-b.1) b.1 (by omega) (by omega) (by omega)) fun v hv => Gives.pos hlim (Gives.now ⟨i1, i2, hv.2.2, by simp [i6], i7.app (Smp.one (by omega) (by omega))⟩)
     · refine Gives.bind (Q := fun _ => True) (Gives.ite (fun _ => Gives.now trivial) fun _ => Gives.now trivial) fun t2 _ => Gives.ite (fun _ => ?_) fun _ => Gives.ite (fun _ => ?_) fun _ => ?_
       · refine Gives.bind (src_range i5 (-b.1) b.1 (by omega) (by omega) (by omega)) fun v hv => Gives.bind (src_clip _) fun _ _ => Gives.pos hlim (Gives.now ?_)
         have := clip_smp (w64 (s.1 + v.1))
         exact ⟨this.1, this.2, hv.2.2, by simp [i6], i7.app (Smp.one this.1 this.2)⟩
       · refine Gives.bind (src_n i5 4 (by omega) (by omega)) fun v hv => Gives.bind (Q := fun r => -1000 ≤ r.1 ∧ r.1 ≤ 1000 ∧ SrcOk L r.2) (Gives.ite (fun _ => ?_) fun _ => Gives.now ⟨i1, i2, hv.2.2⟩) fun u hu => Gives.pos hlim (Gives.now ⟨hu.1, hu.2.1, hu.2.2, by simp [i6], i7.app (Smp.one hu.1 hu.2.1)⟩)
         exact Gives.bind (src_range hv.2.2 (-b.1) b.1 (by omega) (by omega) (by omega)) fun e he => Gives.now ⟨by simp only []; omega, by simp only []; omega, he.2.2⟩
       · refine Gives.bind (src_pick i5 [-1000, 1000, 1000, 0] (by decide) (by decide)) fun v hv => Gives.pos hlim (Gives.now ?_)
         have : -1000 ≤ v.1 ∧ v.1 ≤ 1000 := by have := hv.1; simp at this; omega
         exact ⟨i1, i2, hv.2, by simp [i6], i7.app (Smp.one this.1 this.2)⟩
   · have ei : w64 (s.2.2.1 + 1) = s.2.2.1 + 1 := w64_id (by omega) (by omega)
     rw [ei]
     exact Gives.now ⟨⟨hr.1, hr.2.1, by simp only []; omega, by simp only []; omega, hr.2.2.1, hr.2.2.2.1, hr.2.2.2.2⟩, by simp only []; omega⟩
 · rw [drop_take_len hr.2.1]
   exact Gives.now ⟨by simp only []; omega, hr.2.2.1, hr.2.2.2⟩

theorem get_rd0 {xs : List Int} {i : Int} (h0 : 0 ≤ i) (h1 : i < (xs.length : Int)) : xs[0 + i.toNat]? = some (rd xs i) := by
 rw [Nat.zero_add, get_rd (by omega), Int.toNat_of_nonneg h0]
theorem src_near {L : List Int} {p : Int} (h : SrcOk L p) {xs : List Int} (hx : Win xs) : Gives (fun k => T_keep_Src_Near k xs L p) (fun r => r.1.length = xs.length ∧ Smp r.1 ∧ SrcOk L r.2) := by
 have l1 := hx.lo
 have l2 := hx.hi
 refine Gives.step ?_
 simp only [T_keep_Src_Near]
 refine Gives.bind (src_n h 7 (by omega) (by omega)) fun a ha => Gives.bind (src_range ha.2.2 (-20) 20 (by omega) (by omega) (by omega)) fun b hb => Gives.bind (src_range hb.2.2 1 3 (by omega) (by omega) (by omega)) fun c hc => Gives.pos (by unfold LIM; omega) ?_
 refine Gives.bind (Q := fun r => r.2.length = xs.length ∧ Smp r.2 ∧ SrcOk L r.1) ?_ fun r hr => ?_
 · refine Gives.loop (fun s => 0 ≤ s.1 ∧ s.1 ≤ (xs.length : Int) ∧ SrcOk L s.2.1 ∧ s.2.2.length = xs.length ∧ Smp s.2.2) (fun s => ((xs.length : Int) - s.1).toNat) ?_ ⟨by simp only []; omega, by simp only []; omega, hc.2.2, by simp, by simpa using hx.smp⟩
   intro s ⟨i1, i2, i3, i4, i5⟩
   unfold T_keep_Src_Near_l1
   refine Gives.ite (fun cc => ?_) fun cc => Gives.now ⟨i4, i5, i3⟩
   have g : (0 : Int) ≤ s.1 ∧ s.1 < ((0 + xs.length : Nat) : Int) := ⟨i1, cc⟩
   have g2 : s.1 < (xs.length : Int) := by omega
   refine Gives.bind (Q := fun r => SrcOk L r.1 ∧ r.2.length = xs.length ∧ Smp r.2) ?_ fun r hr => ?_
   · refine Gives.ite (fun _ => Gives.pos g (Gives.opt (get_rd0 i1 (by omega)) ?_)) fun _ => Gives.ite (fun _ => Gives.pos g (Gives.opt (get_rd0 i1 (by omega)) ?_)) fun _ => Gives.ite (fun _ => Gives.pos g (Gives.opt (get_rd0 i1 (by omega)) ?_)) fun _ =>
      Gives.ite (fun _ => ?_) fun _ => Gives.ite (fun _ => ?_) fun _ => Gives.ite (fun _ => Gives.pos g (Gives.opt (get_rd0 i1 (by omega)) ?_)) fun _ => Gives.now ⟨i3, i4, i5⟩
     · refine Gives.bind (src_range i3 (-2) 2 (by omega) (by omega) (by omega)) fun v hv => Gives.bind (src_clip _) fun _ _ => Gives.now ?_
       have := clip_smp (w64 (rd s.2.2 s.1 + v.1))
       exact ⟨hv.2.2, by simp [i4], i5.set _ this.1 this.2⟩
     · refine Gives.bind (src_clip _) fun _ _ => Gives.now ?_
       have := clip_smp (w64 (rd s.2.2 s.1 + b.1))
       exact ⟨i3, by simp [i4], i5.set _ this.1 this.2⟩
     · refine Gives.bind (src_clip _) fun _ _ => Gives.now ?_
       have := clip_smp (w64 (w64 (rd s.2.2 s.1 * c.1) + b.1))
       exact ⟨i3, by simp [i4], i5.set _ this.1 this.2⟩
     · have e : w64 (w64 ((xs.length : Int) - 1) - s.1) = (xs.length : Int) - 1 - s.1 := by rw [w64_id (x := (xs.length : Int) - 1) (by omega) (by omega), w64_id (by omega) (by omega)]
       rw [e]
       refine Gives.opt (at_rd (by omega) (by omega)) (Gives.pos g (Gives.now ?_))
       have := hx.smp.rd ((xs.length : Int) - 1 - s.1)
       exact ⟨i3, by simp [i4], i5.set _ this.1 this.2⟩
     · refine Gives.bind (src_range i3 (-1) 1 (by omega) (by omega) (by omega)) fun v hv => Gives.bind (src_mod _ (xs.length : Int) (by omega) (by omega)) fun u hu => Gives.opt (at_rd hu.1 hu.2) (Gives.pos g (Gives.now ?_))
       have := hx.smp.rd u
       exact ⟨hv.2.2, by simp [i4], i5.set _ this.1 this.2⟩
     · refine Gives.bind (src_clip _) fun _ _ => Gives.now ?_
       have := clip_smp (w64 (b.1 - w64 (rd s.2.2 s.1 * c.1)))
       exact ⟨i3, by simp [i4], i5.set _ this.1 this.2⟩
   · have ei : w64 (s.1 + 1) = s.1 + 1 := w64_id (by omega) (by omega)
     rw [ei]
     exact Gives.now ⟨⟨by simp only []; omega, by simp only []; omega, hr.1, hr.2.1, hr.2.2⟩, by simp only []; omega⟩
 · rw [drop_take_len (by rw [hr.1, Nat.zero_add])]
   exact Gives.now ⟨hr.1, hr.2.1, hr.2.2⟩
theorem src_pair {L : List Int} {p : Int} (h : SrcOk L p) : Gives (fun k => T_keep_Src_Pair k L p) (fun r => Win r.1 ∧ Win r.2.1 ∧ r.1.length = r.2.1.length ∧ SrcOk L r.2.2) := by
 refine Gives.step ?_
 simp only [T_keep_Src_Pair]
 refine Gives.bind (src_length h) fun a ha => Gives.bind (src_list ha.2.2 a.1 ha.1 ha.2.1) fun b hb => ?_
 have wb : Win b.1 := ⟨by omega, by omega, hb.2.1⟩
 refine Gives.bind (src_n hb.2.2 3 (by omega) (by omega)) fun c hc => Gives.ite (fun _ => ?_) fun _ => ?_
 · refine Gives.bind (src_list hc.2.2 (b.1.length : Int) (by omega) (by omega)) fun d hd => Gives.now ⟨wb, ⟨?_, ?_, hd.2.1⟩, ?_, hd.2.2⟩ <;> simp only [] <;> omega
 · refine Gives.bind (src_near hc.2.2 wb) fun d hd => Gives.now ⟨wb, ⟨?_, ?_, hd.2.1⟩, ?_, hd.2.2⟩ <;> simp only [] <;> omega
/-- Two windows, and a band that they fit. -/
structure Fits (xs ys : List Int) (b : Int) : Prop where
 wx : Win xs
 wy : Win ys
 lo : 0 ≤ b
 hi : b ≤ 32
 ab : (xs.length : Int) - ys.length ≤ b
 ba : (ys.length : Int) - xs.length ≤ b
theorem src_uneven {L : List Int} {p : Int} (h : SrcOk L p) : Gives (fun k => T_keep_Src_Uneven k L p) (fun r => Fits r.1 r.2.1 r.2.2.1 ∧ SrcOk L r.2.2.2) := by
 refine Gives.step ?_
 simp only [T_keep_Src_Uneven]
 refine Gives.bind (src_pair h) fun a ha => ?_
 obtain ⟨a1, a2, a3, a4⟩ := ha
 have q1 := a1.lo
 have q2 := a1.hi
 refine Gives.bind (src_n a4 2 (by omega) (by omega)) fun b hb => ?_
 refine Gives.bind (Q := fun r => Win r.1 ∧ r.1.length ≤ a.1.length ∧ SrcOk L r.2) ?_ fun r hr => ?_
 · refine Gives.ite (fun _ => ?_) fun _ => Gives.now ⟨a2, by simp only []; omega, hb.2.2⟩
   refine Gives.bind (src_range hb.2.2 2 (a.2.1.length : Int) (by omega) (by omega) (by omega)) fun c hc => Gives.pos (by omega) (Gives.now ⟨⟨?_, ?_, ?_⟩, ?_, hc.2.2⟩)
   · simp; omega
   · simp; omega
   · simpa using a2.smp.take _
   · simp; omega
 obtain ⟨r1, r2, r3⟩ := hr
 have t1 := r1.lo
 refine Gives.bind (src_n r3 4 (by omega) (by omega)) fun c hc => Gives.bind (src_n hc.2.2 5 (by omega) (by omega)) fun d hd => ?_
 refine Gives.bind (Q := fun v => (a.1.length : Int) - r.1.length ≤ v ∧ 0 ≤ v ∧ v ≤ 32) ?_ fun v hv => ?_
 · refine Gives.ite (fun _ => Gives.now ⟨by omega, by omega, by omega⟩) fun _ => ?_
   rw [w64_id (x := (a.1.length : Int) - r.1.length) (by omega) (by omega), w64_id (by omega) (by omega)]
   refine Gives.now ?_
   unfold imin
   split <;> omega
 refine Gives.bind (src_n hd.2.2 2 (by omega) (by omega)) fun e he => Gives.ite (fun _ => ?_) fun _ => ?_
 · exact Gives.now ⟨⟨r1, a1, hv.2.1, hv.2.2, by simp only []; omega, by simp only []; omega⟩, he.2.2⟩
 · exact Gives.now ⟨⟨a1, r1, hv.2.1, hv.2.2, by simp only []; omega, by simp only []; omega⟩, he.2.2⟩
theorem src_new (l : List Int) : SrcOk ((l.drop 0).take ((imin (l.length : Int) 2000).toNat - 0)) 0 ∧ Gives (fun k => T_keep_New k l) (fun _ => True) := by
 have h1 : 0 ≤ imin (l.length : Int) 2000 := by unfold imin; split <;> omega
 have h2 : imin (l.length : Int) 2000 ≤ l.length := by unfold imin; split <;> omega
 have h3 : imin (l.length : Int) 2000 ≤ 2000 := by unfold imin; split <;> omega
 refine ⟨⟨by omega, by omega, ?_⟩, ?_⟩
 · simp; omega
 · refine Gives.step ?_
   simp only [T_keep_New]
   exact Gives.pos (by omega) (Gives.now trivial)
/-! The distance of chapter 12. -/
theorem eu_samples {xs : List Int} (h : Win xs) : Gives (fun k => T_euclid_samples k xs) (· = true) := by
 have h2 := h.hi
 refine Gives.step ?_
 simp only [T_euclid_samples]
 refine Gives.bind (Q := fun r => r = .inl ()) ?_ fun r hr => by subst hr; exact Gives.now rfl
 refine Gives.loop (fun s => 0 ≤ s ∧ s ≤ (xs.length : Int)) (fun s => ((xs.length : Int) - s).toNat) ?_ ⟨by omega, by omega⟩
 intro s ⟨i1, i2⟩
 unfold T_euclid_samples_l1
 refine Gives.ite (fun c => Gives.opt (at_rd i1 c) ?_) fun c => Gives.now rfl
 have := h.smp.rd s
 refine Gives.neg (by simp; omega) ?_
 rw [w64_id (by omega) (by omega)]
 exact Gives.now ⟨⟨by omega, by omega⟩, by omega⟩
theorem eu_len (xs : List Int) : Gives (fun k => T_euclid_length k xs) (fun _ => True) := by
 refine Gives.step ?_
 simp only [T_euclid_length]
 exact Gives.now trivial
theorem eu_check {xs ys : List Int} (hx : Win xs) (hy : Win ys) (hl : xs.length = ys.length) : Gives (fun k => T_euclid_check k xs ys) (· = 0) := by
 have x1 := hx.lo
 have x2 := hx.hi
 refine Gives.step ?_
 simp only [T_euclid_check]
 refine Gives.bind (Q := fun b => b = false) ?_ fun b hb => ?_
 · refine Gives.bind (eu_len xs) fun _ _ => Gives.neg (by simp; omega) ?_
   refine Gives.bind (eu_len ys) fun _ _ => Gives.now ?_
   simp; omega
 subst hb
 refine Gives.neg (by simp) ?_
 refine Gives.bind (Q := fun b => b = false) ?_ fun b hb => ?_
 · refine Gives.bind (eu_samples hx) fun u hu => ?_
   subst hu
   refine Gives.neg (by simp) (Gives.bind (eu_samples hy) fun u hu => ?_)
   subst hu
   exact Gives.now rfl
 subst hb
 refine Gives.neg (by simp) (Gives.neg (by simp [hl]) (Gives.now rfl))
theorem eu_square {xs ys : List Int} (hx : Win xs) (hl : xs.length = ys.length) : Gives (fun k => T_euclid_square k xs ys) (fun _ => True) := by
 have x2 := hx.hi
 refine Gives.step ?_
 simp only [T_euclid_square]
 refine Gives.bind (Q := fun _ => True) ?_ fun r hr => Gives.now trivial
 refine Gives.loop (fun s => 0 ≤ s.2 ∧ s.2 ≤ (xs.length : Int)) (fun s => ((xs.length : Int) - s.2).toNat) ?_ ⟨by simp only []; omega, by simp only []; omega⟩
 intro s ⟨i1, i2⟩
 unfold T_euclid_square_l1
 refine Gives.ite (fun c => Gives.opt (at_rd i1 c) (Gives.opt (at_rd i1 (by omega)) ?_)) fun c => Gives.now trivial
 rw [w64_id (x := s.2 + 1) (by omega) (by omega)]
 exact Gives.now ⟨⟨by simp only []; omega, by simp only []; omega⟩, by simp only []; omega⟩
theorem eu_distance {xs ys : List Int} (hx : Win xs) (hy : Win ys) (hl : xs.length = ys.length) : Gives (fun k => T_euclid_Distance k xs ys) (fun r => r.2 = 0) := by
 refine Gives.step ?_
 simp only [T_euclid_Distance]
 refine Gives.bind (eu_check hx hy hl) fun e he => ?_
 subst he
 exact Gives.neg (by simp) (Gives.bind (eu_square hx hl) fun v _ => Gives.now rfl)

/-! Warping paths in a band, and the least cost of one. -/
def mn (a b : Int) : Int := if b < a then b else a
/-- What is not within the band costs this. -/
def INF : Int := 4611686018427387904

/-- A pair within a band. -/
def nearB (b : Int) (i j : Nat) : Prop := (i : Int) - j ≤ b ∧ (j : Int) - i ≤ b
instance (b : Int) (i j : Nat) : Decidable (nearB b i j) := by unfold nearB; infer_instance

/-- The least cost of a path to a pair, as the program reckons it. -/
def Wc (c : Nat → Nat → Int) (b : Int) : Nat → Nat → Int
 | 0, 0 => if nearB b 0 0 then mn INF (0 + c 0 0) else INF
 | 0, j + 1 => if nearB b 0 (j + 1) then mn INF (mn INF (Wc c b 0 j) + c 0 (j + 1)) else INF
 | i + 1, 0 => if nearB b (i + 1) 0 then mn INF (mn INF (Wc c b i 0) + c (i + 1) 0) else INF
 | i + 1, j + 1 => if nearB b (i + 1) (j + 1) then mn INF (mn (mn (mn (mn INF (Wc c b (i + 1) j)) (Wc c b i (j + 1))) (Wc c b i (j + 1))) (Wc c b i j) + c (i + 1) (j + 1)) else INF
termination_by i j => (i, j)

theorem W00 (c : Nat → Nat → Int) (b : Int) : Wc c b 0 0 = if nearB b 0 0 then mn INF (0 + c 0 0) else INF := by rw [Wc]
theorem W0s (c : Nat → Nat → Int) (b : Int) (j : Nat) : Wc c b 0 (j + 1) = if nearB b 0 (j + 1) then mn INF (mn INF (Wc c b 0 j) + c 0 (j + 1)) else INF := by rw [Wc]
theorem Ws0 (c : Nat → Nat → Int) (b : Int) (i : Nat) : Wc c b (i + 1) 0 = if nearB b (i + 1) 0 then mn INF (mn INF (Wc c b i 0) + c (i + 1) 0) else INF := by rw [Wc]
theorem Wss (c : Nat → Nat → Int) (b : Int) (i j : Nat) : Wc c b (i + 1) (j + 1) = if nearB b (i + 1) (j + 1) then mn INF (mn (mn (mn (mn INF (Wc c b (i + 1) j)) (Wc c b i (j + 1))) (Wc c b i (j + 1))) (Wc c b i j) + c (i + 1) (j + 1)) else INF := by rw [Wc]

/-- A path in a band, from one pair to another, with the cost of all its pairs. -/
inductive WPath (c : Nat → Nat → Int) (b : Int) (p q : Nat) : Nat → Nat → Int → Prop
 | one : nearB b p q → WPath c b p q p q (c p q)
 | diag (i j : Nat) (s : Int) : WPath c b p q i j s → nearB b (i + 1) (j + 1) → WPath c b p q (i + 1) (j + 1) (s + c (i + 1) (j + 1))
 | down (i j : Nat) (s : Int) : WPath c b p q i j s → nearB b (i + 1) j → WPath c b p q (i + 1) j (s + c (i + 1) j)
 | right (i j : Nat) (s : Int) : WPath c b p q i j s → nearB b i (j + 1) → WPath c b p q i (j + 1) (s + c i (j + 1))

theorem WPath.near {c : Nat → Nat → Int} {b : Int} {p q i j : Nat} {s : Int} (h : WPath c b p q i j s) : nearB b i j := by
 cases h <;> assumption
theorem WPath.le {c : Nat → Nat → Int} {b : Int} {p q i j : Nat} {s : Int} (h : WPath c b p q i j s) : p ≤ i ∧ q ≤ j := by
 induction h <;> omega

theorem mn_le_l (a b : Int) : mn a b ≤ a := by unfold mn; split <;> omega
theorem mn_le_r (a b : Int) : mn a b ≤ b := by unfold mn; split <;> omega
theorem le_mn {a b x : Int} (h : x ≤ a) (k : x ≤ b) : x ≤ mn a b := by unfold mn; split <;> omega

theorem W_le_INF (c : Nat → Nat → Int) (b : Int) : ∀ i j, Wc c b i j ≤ INF
 | 0, 0 => by rw [W00]; split; (· exact mn_le_l _ _); (· exact Int.le_refl _)
 | 0, j + 1 => by rw [W0s]; split; (· exact mn_le_l _ _); (· exact Int.le_refl _)
 | i + 1, 0 => by rw [Ws0]; split; (· exact mn_le_l _ _); (· exact Int.le_refl _)
 | i + 1, j + 1 => by rw [Wss]; split; (· exact mn_le_l _ _); (· exact Int.le_refl _)

theorem W_nonneg {c : Nat → Nat → Int} (b : Int) (hc : ∀ i j, 0 ≤ c i j) : ∀ i j, 0 ≤ Wc c b i j := by
 intro i
 induction i with
 | zero =>
  intro j
  induction j with
  | zero => rw [W00]; have := hc 0 0; split; (· exact le_mn (by decide) (by omega)); (· decide)
  | succ j ih => rw [W0s]; have := hc 0 (j + 1); split; (· exact le_mn (by decide) (Int.add_nonneg (le_mn (by decide) ih) this)); (· decide)
 | succ i ihi =>
  intro j
  induction j with
  | zero => rw [Ws0]; have := hc (i + 1) 0; split; (· exact le_mn (by decide) (Int.add_nonneg (le_mn (by decide) (ihi 0)) this)); (· decide)
  | succ j ih => rw [Wss]; have := hc (i + 1) (j + 1); split; (· exact le_mn (by decide) (Int.add_nonneg (le_mn (le_mn (le_mn (le_mn (by decide) ih) (ihi _)) (ihi _)) (ihi _)) this)); (· decide)

theorem W_diag {c : Nat → Nat → Int} {b : Int} {i j : Nat} (h : nearB b (i + 1) (j + 1)) : Wc c b (i + 1) (j + 1) ≤ Wc c b i j + c (i + 1) (j + 1) := by
 rw [Wss, if_pos h]
 have := mn_le_r INF (mn (mn (mn (mn INF (Wc c b (i + 1) j)) (Wc c b i (j + 1))) (Wc c b i (j + 1))) (Wc c b i j) + c (i + 1) (j + 1))
 have := mn_le_r (mn (mn (mn INF (Wc c b (i + 1) j)) (Wc c b i (j + 1))) (Wc c b i (j + 1))) (Wc c b i j)
 omega
theorem W_down {c : Nat → Nat → Int} {b : Int} {i j : Nat} (h : nearB b (i + 1) j) : Wc c b (i + 1) j ≤ Wc c b i j + c (i + 1) j := by
 cases j with
 | zero =>
  rw [Ws0, if_pos h]
  have := mn_le_r INF (mn INF (Wc c b i 0) + c (i + 1) 0)
  have := mn_le_r INF (Wc c b i 0)
  omega
 | succ j =>
  rw [Wss, if_pos h]
  have := mn_le_r INF (mn (mn (mn (mn INF (Wc c b (i + 1) j)) (Wc c b i (j + 1))) (Wc c b i (j + 1))) (Wc c b i j) + c (i + 1) (j + 1))
  have := mn_le_l (mn (mn (mn INF (Wc c b (i + 1) j)) (Wc c b i (j + 1))) (Wc c b i (j + 1))) (Wc c b i j)
  have := mn_le_r (mn (mn INF (Wc c b (i + 1) j)) (Wc c b i (j + 1))) (Wc c b i (j + 1))
  omega
theorem W_right {c : Nat → Nat → Int} {b : Int} {i j : Nat} (h : nearB b i (j + 1)) : Wc c b i (j + 1) ≤ Wc c b i j + c i (j + 1) := by
 cases i with
 | zero =>
  rw [W0s, if_pos h]
  have := mn_le_r INF (mn INF (Wc c b 0 j) + c 0 (j + 1))
  have := mn_le_r INF (Wc c b 0 j)
  omega
 | succ i =>
  rw [Wss, if_pos h]
  have := mn_le_r INF (mn (mn (mn (mn INF (Wc c b (i + 1) j)) (Wc c b i (j + 1))) (Wc c b i (j + 1))) (Wc c b i j) + c (i + 1) (j + 1))
  have := mn_le_l (mn (mn (mn INF (Wc c b (i + 1) j)) (Wc c b i (j + 1))) (Wc c b i (j + 1))) (Wc c b i j)
  have := mn_le_l (mn (mn INF (Wc c b (i + 1) j)) (Wc c b i (j + 1))) (Wc c b i (j + 1))
  have := mn_le_l (mn INF (Wc c b (i + 1) j)) (Wc c b i (j + 1))
  have := mn_le_r INF (Wc c b (i + 1) j)
  omega

/-- No path is cheaper. -/
theorem W_le_path {c : Nat → Nat → Int} {b : Int} {p q i j : Nat} {s : Int} (h : WPath c b p q i j s) : p = 0 → q = 0 → Wc c b i j ≤ s := by
 induction h with
 | one h => intro h1 h2; subst h1 h2; rw [W00, if_pos h]; have := mn_le_r INF (0 + c 0 0); omega
 | diag i j s _ hn ih => intro h1 h2; have := ih h1 h2; have := W_diag (c := c) hn; omega
 | down i j s _ hn ih => intro h1 h2; have := ih h1 h2; have := W_down (c := c) hn; omega
 | right i j s _ hn ih => intro h1 h2; have := ih h1 h2; have := W_right (c := c) hn; omega

theorem WPath.bound {c : Nat → Nat → Int} {b K : Int} {p q i j : Nat} {s : Int} (h : WPath c b p q i j s) (hK : 0 ≤ K) (hc : ∀ i j, c i j ≤ K) : s ≤ K * ((i - p + (j - q) : Nat) + 1) := by
 induction h with
 | one _ => have := hc p q; simp; omega
 | diag i j s h hn ih =>
  have := hc (i + 1) (j + 1); have hl := h.le
  have e : ((i + 1 - p + (j + 1 - q) : Nat) : Int) = ((i - p + (j - q) : Nat) : Int) + 2 := by omega
  rw [e, show (((i - p + (j - q) : Nat) : Int) + 2 + 1) = (((i - p + (j - q) : Nat) : Int) + 1) + 2 by omega, Int.mul_add]; omega
 | down i j s h hn ih =>
  have := hc (i + 1) j; have hl := h.le
  have e : ((i + 1 - p + (j - q) : Nat) : Int) = ((i - p + (j - q) : Nat) : Int) + 1 := by omega
  rw [e, Int.mul_add]; omega
 | right i j s h hn ih =>
  have := hc i (j + 1); have hl := h.le
  have e : ((i - p + (j + 1 - q) : Nat) : Int) = ((i - p + (j - q) : Nat) : Int) + 1 := by omega
  rw [e, Int.mul_add]; omega

theorem path_exists (c : Nat → Nat → Int) {b : Int} (hb : 0 ≤ b) : ∀ i j, nearB b i j → ∃ s, WPath c b 0 0 i j s := by
 intro i
 induction i with
 | zero =>
  intro j
  induction j with
  | zero => intro h; exact ⟨_, WPath.one h⟩
  | succ j ih => intro h; obtain ⟨s, hs⟩ := ih (by unfold nearB at h ⊢; omega); exact ⟨_, WPath.right 0 j s hs h⟩
 | succ i ihi =>
  intro j h
  cases j with
  | zero => obtain ⟨s, hs⟩ := ihi 0 (by unfold nearB at h ⊢; omega); exact ⟨_, WPath.down i 0 s hs h⟩
  | succ j => obtain ⟨s, hs⟩ := ihi j (by unfold nearB at h ⊢; omega); exact ⟨_, WPath.diag i j s hs h⟩

/-- Costs of pairs of samples. -/
structure Costs (c : Nat → Nat → Int) : Prop where
 pos : ∀ i j, 0 ≤ c i j
 le : ∀ i j, c i j ≤ 4000000

theorem W_lt {c : Nat → Nat → Int} {b : Int} (hc : Costs c) (hb : 0 ≤ b) {i j : Nat} (hi : i ≤ 64) (hj : j ≤ 64) (h : nearB b i j) : Wc c b i j < INF := by
 obtain ⟨s, hs⟩ := path_exists c hb i j h
 have h1 := W_le_path hs rfl rfl
 have h2 := hs.bound (K := 4000000) (by decide) hc.le
 have h3 : (4000000 : Int) * (((i - 0 + (j - 0) : Nat) : Int) + 1) ≤ 4000000 * 129 := Int.mul_le_mul_of_nonneg_left (by omega) (by decide)
 unfold INF; omega

theorem row_get {R : List (List Int)} {i : Nat} (h : i < R.length) : R[i]? = some (R.getD i []) := by
 rw [List.getD_eq_getElem?_getD, List.getElem?_eq_getElem h]; rfl
theorem el_set {r : List Int} {j q : Nat} {v : Int} (h : j < r.length) : (r.set j v).getD q 0 = if q = j then v else r.getD q 0 := by
 rw [List.getD_eq_getElem?_getD, List.getElem?_set]
 by_cases c : j = q
 · subst c; rw [if_pos rfl, if_pos h, if_pos rfl]; rfl
 · rw [if_neg c, if_neg (fun e => c e.symm), List.getD_eq_getElem?_getD]
theorem el_get {r : List Int} {j : Nat} (h : j < r.length) : r[j]? = some (r.getD j 0) := by
 rw [List.getD_eq_getElem?_getD, List.getElem?_eq_getElem h]; rfl
theorem tk_all {α : Type} {R : List α} {n : Nat} (h : R.length = n) : (R.drop 0).take n = R := by subst h; simp
/-- The least cost at a pair, or that of what is without. -/
def Wx (c : Nat → Nat → Int) (b i j : Int) : Int := if 0 ≤ i ∧ 0 ≤ j then Wc c b i.toNat j.toNat else INF
theorem W_out {c : Nat → Nat → Int} {b : Int} {i j : Nat} (h : ¬ nearB b i j) : Wc c b i j = INF := by
 cases i <;> cases j
 · rw [W00, if_neg h]
 · rw [W0s, if_neg h]
 · rw [Ws0, if_neg h]
 · rw [Wss, if_neg h]
theorem W_in {c : Nat → Nat → Int} {b : Int} {i j : Nat} (h : nearB b i j) (hlt : Wc c b i j < INF) (hc : 0 ≤ c i j) (hij : 0 < i + j) : Wc c b i j = mn (mn (Wx c b (i - 1) (j - 1)) (Wx c b (i - 1) j)) (Wx c b i (j - 1)) + c i j := by
 have key : ∀ X : Int, mn INF X < INF → mn INF X = X := by intro X hX; unfold mn at hX ⊢; split at hX <;> split <;> omega
 have low := W_le_INF c b
 cases i with
 | zero =>
  cases j with
  | zero => omega
  | succ j =>
   rw [W0s, if_pos h] at hlt ⊢
   rw [key _ hlt]
   have e1 : Wx c b ((0 : Nat) - 1 : Int) (((j + 1 : Nat) : Int) - 1) = INF := by unfold Wx; rw [if_neg (by omega)]
   have e2 : Wx c b ((0 : Nat) - 1 : Int) ((j + 1 : Nat) : Int) = INF := by unfold Wx; rw [if_neg (by omega)]
   have e3 : Wx c b ((0 : Nat) : Int) (((j + 1 : Nat) : Int) - 1) = Wc c b 0 j := by unfold Wx; rw [if_pos (by omega)]; congr 1; omega
   rw [e1, e2, e3]
   have := low 0 j
   unfold mn; split <;> split <;> omega
 | succ i =>
  cases j with
  | zero =>
   rw [Ws0, if_pos h] at hlt ⊢
   rw [key _ hlt]
   have e1 : Wx c b (((i + 1 : Nat) : Int) - 1) (((0 : Nat) : Int) - 1) = INF := by unfold Wx; rw [if_neg (by omega)]
   have e2 : Wx c b (((i + 1 : Nat) : Int) - 1) ((0 : Nat) : Int) = Wc c b i 0 := by unfold Wx; rw [if_pos (by omega)]; congr 1; omega
   have e3 : Wx c b ((i + 1 : Nat) : Int) (((0 : Nat) : Int) - 1) = INF := by unfold Wx; rw [if_neg (by omega)]
   rw [e1, e2, e3]
   have := low i 0
   unfold mn; split <;> split <;> (try split) <;> omega
  | succ j =>
   rw [Wss, if_pos h] at hlt ⊢
   rw [key _ hlt]
   have e1 : Wx c b (((i + 1 : Nat) : Int) - 1) (((j + 1 : Nat) : Int) - 1) = Wc c b i j := by unfold Wx; rw [if_pos (by omega)]; congr 1 <;> omega
   have e2 : Wx c b (((i + 1 : Nat) : Int) - 1) ((j + 1 : Nat) : Int) = Wc c b i (j + 1) := by unfold Wx; rw [if_pos (by omega)]; congr 1; omega
   have e3 : Wx c b ((i + 1 : Nat) : Int) (((j + 1 : Nat) : Int) - 1) = Wc c b (i + 1) j := by unfold Wx; rw [if_pos (by omega)]; congr 1; omega
   rw [e1, e2, e3]
   have a1 := low i j
   have a2 := low i (j + 1)
   have a3 := low (i + 1) j
   generalize Wc c b i j = A at *
   generalize Wc c b i (j + 1) = B at *
   generalize Wc c b (i + 1) j = C at *
   have : mn (mn (mn (mn INF C) B) B) A = mn (mn A B) C := by
    unfold mn
    repeat' split
    all_goals omega
   rw [this]
theorem W_zero0 {c : Nat → Nat → Int} {b : Int} (h : nearB b 0 0) (hlt : Wc c b 0 0 < INF) : Wc c b 0 0 = c 0 0 := by
 rw [W00, if_pos h] at hlt ⊢
 unfold mn at hlt ⊢
 split at hlt <;> split <;> omega
/-- The cost of a pair of samples. -/
def sqc (x y : List Int) (i j : Nat) : Int := (x.getD i 0 - y.getD j 0) * (x.getD i 0 - y.getD j 0)
theorem sqc_ok {x y : List Int} (hx : Smp x) (hy : Smp y) : Costs (sqc x y) := by
 have key : ∀ i j, -2000 ≤ x.getD i 0 - y.getD j 0 ∧ x.getD i 0 - y.getD j 0 ≤ 2000 := by
  intro i j
  have h1 := hx.rd (i : Int)
  have h2 := hy.rd (j : Int)
  unfold rd at h1 h2
  simp only [Int.toNat_natCast] at h1 h2
  omega
 refine ⟨fun i j => ?_, fun i j => ?_⟩
 · unfold sqc
   generalize x.getD i 0 - y.getD j 0 = d
   rcases Int.le_total 0 d with h | h
   · exact Int.mul_nonneg h h
   · exact Int.mul_nonneg_of_nonpos_of_nonpos h h
 · obtain ⟨h1, h2⟩ := key i j
   unfold sqc
   generalize x.getD i 0 - y.getD j 0 = d at h1 h2
   have : d * d ≤ 2000 * 2000 := by
    rcases Int.le_total 0 d with h | h
    · exact Int.mul_le_mul h2 h2 h (by omega)
    · have := Int.mul_le_mul (a := -d) (b := -d) (c := 2000) (d := 2000) (by omega) (by omega) (by omega) (by omega)
      rw [Int.neg_mul_neg] at this; exact this
   omega
/-! The rows that warp reckons have the least costs. -/
theorem imin_mn (a b : Int) : imin a b = mn a b := rfl
def fv1 (i j : Nat) : Int := if i = 0 ∧ j = 0 then 0 else INF
def fv2 (c : Nat → Nat → Int) (b : Int) (i j : Nat) : Int := if 0 < j then mn (fv1 i j) (Wc c b i (j - 1)) else fv1 i j
def fv3 (c : Nat → Nat → Int) (b : Int) (i j : Nat) : Int := if 0 < i then mn (fv2 c b i j) (Wc c b (i - 1) j) else fv2 c b i j
def fv4 (c : Nat → Nat → Int) (b : Int) (i j : Nat) : Int := if 0 < i ∧ 0 < j then mn (mn (fv3 c b i j) (Wc c b (i - 1) j)) (Wc c b (i - 1) (j - 1)) else fv3 c b i j
theorem fv_W {c : Nat → Nat → Int} {b : Int} {i j : Nat} (h : nearB b i j) : mn INF (fv4 c b i j + c i j) = Wc c b i j := by
 unfold fv4 fv3 fv2 fv1
 cases i with
 | zero =>
  cases j with
  | zero => rw [W00, if_pos h]; simp
  | succ j => rw [W0s, if_pos h]; simp
 | succ i =>
  cases j with
  | zero => rw [Ws0, if_pos h]; simp
  | succ j => rw [Wss, if_pos h]; simp
theorem fv_bd {c : Nat → Nat → Int} (b : Int) (hc : ∀ i j, 0 ≤ c i j) (i j : Nat) : 0 ≤ fv4 c b i j ∧ fv4 c b i j ≤ INF := by
 have k : (0 : Int) ≤ INF := by decide
 have w := W_nonneg b hc
 have m1 : ∀ {a d : Int}, 0 ≤ a → 0 ≤ d → a ≤ INF → 0 ≤ mn a d ∧ mn a d ≤ INF := fun {a d} h1 h2 h3 => ⟨le_mn h1 h2, Int.le_trans (mn_le_l _ _) h3⟩
 have h1 : 0 ≤ fv1 i j ∧ fv1 i j ≤ INF := by unfold fv1; split <;> omega
 have h2 : 0 ≤ fv2 c b i j ∧ fv2 c b i j ≤ INF := by
  unfold fv2; split
  · exact m1 h1.1 (w _ _) h1.2
  · exact h1
 have h3 : 0 ≤ fv3 c b i j ∧ fv3 c b i j ≤ INF := by
  unfold fv3; split
  · exact m1 h2.1 (w _ _) h2.2
  · exact h2
 unfold fv4; split
 · have := m1 h3.1 (w (i - 1) j) h3.2
   exact m1 this.1 (w _ _) this.2
 · exact h3
theorem wp_fillW {x y : List Int} {b : Int} {r q : List Int} {n i : Nat} (hx : Smp x) (hy : Smp y) (hn : y.length = n) (hl : n ≤ 64) (hr : r.length = n) (hq : q.length = n) (hi : i < x.length) (xl : x.length ≤ 64)
 (hW : 0 < i → ∀ j, j < n → q.getD j 0 = Wc (sqc x y) b (i - 1) j) : Gives (fun k => T_warp_fill k n n x y b i r q) (fun z => z.length = n ∧ ∀ j, j < n → z.getD j 0 = Wc (sqc x y) b i j) := by
 have hc := sqc_ok hx hy
 refine Gives.step ?_
 simp only [T_warp_fill]
 refine Gives.bind (Q := fun z => z.length = n ∧ ∀ j, j < n → z.getD j 0 = Wc (sqc x y) b i j) ?_ fun z hz => Gives.now hz
 refine Gives.loop (fun s => 0 ≤ s.1 ∧ s.1 ≤ (n : Int) ∧ s.2.length = n ∧ ∀ j : Nat, (j : Int) < s.1 → s.2.getD j 0 = Wc (sqc x y) b i j) (fun s => ((n : Int) - s.1).toNat) ?_ ⟨by simp only []; omega, by simp only []; omega, hr, fun j hj => by simp only at hj; omega⟩
 intro ⟨j, w⟩ ⟨j0, j1, jw, jv⟩
 simp only at j0 j1 jw jv
 unfold T_warp_fill_l1
 simp only []
 rw [hn]
 refine Gives.ite (fun cc => Gives.pos ⟨j0, cc⟩ ?_) fun cc => Gives.now ⟨jw, fun j hj => jv j (by omega)⟩
 obtain ⟨jN, rfl⟩ : ∃ jN : Nat, j = jN := ⟨j.toNat, by omega⟩
 rw [w64_id (x := (jN : Int) + 1) (by omega) (by omega), w64_id (x := (jN : Int) - 1) (by omega) (by omega), w64_id (x := (i : Int) - jN) (by omega) (by omega), w64_id (x := (jN : Int) - i) (by omega) (by omega)]
 simp only [Int.toNat_natCast, Nat.zero_add]
 have fin : ∀ v : Int, v = Wc (sqc x y) b i jN → ∀ j : Nat, (j : Int) < (jN : Int) + 1 → (w.set jN v).getD j 0 = Wc (sqc x y) b i j := by
  intro v hv j hj
  rw [el_set (by omega)]
  by_cases e : j = jN
  · rw [if_pos e, hv, e]
  · rw [if_neg e]; exact jv j (by omega)
 refine Gives.bind (Q := fun _ => True) (Gives.step (by simp only [T_warp_near]; exact Gives.now trivial)) fun _ _ => ?_
 refine Gives.ite (fun c2 => ?_) fun c2 => ?_
 · have hnn : ¬ nearB b i jN := by unfold nearB; simp at c2; omega
   exact Gives.now ⟨⟨by simp only []; omega, by simp only []; omega, by simp [jw], fin _ (W_out hnn).symm⟩, by simp only []; omega⟩
 have hnr : nearB b i jN := by unfold nearB; simp at c2; omega
 refine Gives.bind (Q := fun v => v = fv1 i jN) ?_ fun v1 h1 => ?_
 · unfold fv1
   refine Gives.ite (fun c3 => Gives.now ?_) fun c3 => Gives.now ?_
   · rw [if_pos (by simp at c3; omega)]
   · rw [if_neg (by simp at c3; omega)]; rfl
 refine Gives.bind (Q := fun v => v = fv2 (sqc x y) b i jN) ?_ fun v2 h2 => ?_
 · unfold fv2
   refine Gives.ite (fun c3 => Gives.pos ⟨by omega, by omega⟩ (Gives.opt (el_get (by rw [List.length_set]; omega)) (Gives.now ?_))) fun c3 => Gives.now ?_
   · rw [if_pos (by omega), el_set (by omega), if_neg (by omega), show ((jN : Int) - 1).toNat = jN - 1 by omega, jv (jN - 1) (by omega), h1]; rfl
   · rw [if_neg (by omega), h1]
 refine Gives.bind (Q := fun v => v = fv3 (sqc x y) b i jN) ?_ fun v3 h3 => ?_
 · unfold fv3
   refine Gives.ite (fun c3 => Gives.pos ⟨by omega, by omega⟩ (Gives.opt (el_get (by omega)) (Gives.now ?_))) fun c3 => Gives.now ?_
   · rw [if_pos (by omega), hW (by omega) jN (by omega), h2]; rfl
   · rw [if_neg (by omega), h2]
 refine Gives.bind (Q := fun v => v = fv4 (sqc x y) b i jN) ?_ fun v4 h4 => ?_
 · unfold fv4
   refine Gives.ite (fun c3 => ?_) fun c3 => Gives.now ?_
   · simp at c3
     refine Gives.pos ⟨by omega, by omega⟩ (Gives.opt (el_get (by omega)) (Gives.pos ⟨by omega, by omega⟩ (Gives.opt (el_get (by omega)) (Gives.now ?_))))
     rw [if_pos (by omega), hW (by omega) jN (by omega), show ((jN : Int) - 1).toNat = jN - 1 by omega, hW (by omega) (jN - 1) (by omega), h3]; rfl
   · rw [if_neg (by simp at c3; omega), h3]
 refine Gives.opt (at_rd (by omega) (by omega)) (Gives.opt (at_rd (by omega) (by omega)) (Gives.pos ⟨by omega, by omega⟩ ?_))
 have cv : w64 (w64 (rd x i - rd y jN) * w64 (rd x i - rd y jN)) = sqc x y i jN := by
  have h1 := hx.rd (i : Int)
  have h2 := hy.rd (jN : Int)
  have h3 := hc.le i jN
  have h4 := hc.pos i jN
  have e : sqc x y i jN = (rd x i - rd y jN) * (rd x i - rd y jN) := by unfold sqc rd; simp
  rw [w64_id (x := rd x i - rd y jN) (by omega) (by omega), ← e, w64_id (by omega) (by omega)]
 have hb := fv_bd b hc.pos i jN
 have hp := hc.pos i jN
 have hq' := hc.le i jN
 rw [cv, h4, w64_id (x := fv4 (sqc x y) b i jN + sqc x y i jN) (by unfold INF at hb; omega) (by unfold INF at hb; omega), List.set_set]
 exact Gives.now ⟨⟨by simp only []; omega, by simp only []; omega, by simp [jw], fin _ (fv_W hnr)⟩, by simp only []; omega⟩
theorem wp_minW {r : List Int} {n : Nat} (h : 1 ≤ n) (hl : n ≤ 64) (hr : r.length = n) (hb : ∀ j, j < n → r.getD j 0 ≤ INF) : Gives (fun k => T_slices_Min_b354 k n r) (fun v => v ≤ INF) := by
 refine Gives.step ?_
 simp only [T_slices_Min_b354]
 refine Gives.neg (by omega) (Gives.pos (by omega) (Gives.opt (el_get (by omega)) (Gives.bind (Q := fun v => v ≤ INF) ?_ fun _ hv => Gives.now hv)))
 refine Gives.loop (fun s => s.1 ≤ INF ∧ 0 ≤ s.2 ∧ s.2 ≤ (n : Int)) (fun s => ((n : Int) - s.2).toNat) ?_ ⟨hb 0 (by omega), by simp only []; omega, by simp only []; omega⟩
 intro ⟨m, i⟩ ⟨m0, i0, i1⟩
 simp only at m0 i0 i1
 unfold T_slices_Min_b354_l1
 simp only []
 refine Gives.ite (fun c => Gives.pos ⟨i0, c⟩ (Gives.opt (el_get (by omega)) ?_)) fun c => Gives.now m0
 rw [w64_id (by omega) (by omega)]
 exact Gives.now ⟨⟨by simp only [imin_mn]; exact Int.le_trans (mn_le_l _ _) m0, by simp only []; omega, by simp only []; omega⟩, by simp only []; omega⟩
theorem wp_check {x y : List Int} {b : Int} (h : Fits x y b) : Gives (fun k => T_warp_check k x y b) (fun r => r = 0) := by
 have x1 := h.wx.lo
 have x2 := h.wx.hi
 have y1 := h.wy.lo
 have y2 := h.wy.hi
 have b0 := h.lo
 have b1 := h.hi
 have ab := h.ab
 have ba := h.ba
 refine Gives.step ?_
 simp only [T_warp_check]
 refine Gives.neg (by simp; omega) (Gives.bind (eu_distance h.wx h.wx rfl) fun e he => Gives.bind (eu_distance h.wy h.wy rfl) fun f hf => Gives.neg (by simp [he, hf]) (Gives.neg (by simp [he]) (Gives.neg (by simp [hf]) (Gives.neg ?_ (Gives.now rfl)))))
 rw [w64_id (x := (x.length : Int) - (y.length : Int)) (by omega) (by omega), w64_id (x := (y.length : Int) - (x.length : Int)) (by omega) (by omega)]
 simp; omega
theorem wp_distanceW {x y : List Int} {b : Int} (h : Fits x y b) : Gives (fun k => T_warp_Distance k x y b) (fun r => r.2 = 0 ∧ r.1 = Wc (sqc x y) b (x.length - 1) (y.length - 1)) := by
 have x1 := h.wx.lo
 have x2 := h.wx.hi
 have y1 := h.wy.lo
 have y2 := h.wy.hi
 refine Gives.step ?_
 simp only [T_warp_Distance]
 refine Gives.bind (wp_check h) fun r hr => Gives.neg (by simp [hr]) (Gives.bind (Q := fun v => v = Wc (sqc x y) b (x.length - 1) (y.length - 1)) ?_ fun _ hv => Gives.now ⟨rfl, hv⟩)
 refine Gives.step ?_
 simp only [T_warp_distance]
 rw [Int.toNat_natCast]
 refine Gives.pos (by unfold LIM; omega) (Gives.bind (Q := fun v => ∃ z, v = .inl z ∧ z.1 = y.length ∧ z.2.length = y.length ∧ ∀ j, j < y.length → z.2.getD j 0 = Wc (sqc x y) b (x.length - 1) j) ?_ fun v hv => ?_)
 · refine Gives.loop (fun s => s.1 = y.length ∧ s.2.1 = y.length ∧ 0 ≤ s.2.2.1 ∧ s.2.2.1 ≤ (x.length : Int) ∧ s.2.2.2.1.length = y.length ∧ s.2.2.2.2.length = y.length ∧ (0 < s.2.2.1 → ∀ j, j < y.length → s.2.2.2.2.getD j 0 = Wc (sqc x y) b (s.2.2.1.toNat - 1) j)) (fun s => ((x.length : Int) - s.2.2.1).toNat) ?_ ⟨rfl, rfl, by simp only []; omega, by simp only []; omega, by simp, by simp, fun c => by simp only at c; omega⟩
   intro ⟨n1, n2, i, r, q⟩ ⟨s1, s2, s3, s4, s5, s6, s7⟩
   simp only at s1 s2 s3 s4 s5 s6 s7
   subst s1 s2
   unfold T_warp_distance_l1
   simp only []
   refine Gives.ite (fun c => ?_) fun c => Gives.now ⟨_, rfl, rfl, s6, fun j hj => ?_⟩
   · obtain ⟨iN, rfl⟩ : ∃ iN : Nat, i = iN := ⟨i.toNat, by omega⟩
     refine Gives.bind (wp_fillW (i := iN) h.wx.smp h.wy.smp rfl (by omega) s5 s6 (by omega) (by omega) (fun p j hj => by have := s7 (by omega) j hj; rw [Int.toNat_natCast] at this; exact this)) fun z hz => Gives.bind (wp_minW (by omega) (by omega) hz.1 fun j hj => by rw [hz.2 j hj]; exact W_le_INF _ _ _ _) fun m hm => Gives.neg (by unfold INF at hm; omega) ?_
     rw [w64_id (by omega) (by omega)]
     refine Gives.now ⟨⟨rfl, rfl, by simp only []; omega, by simp only []; omega, s6, hz.1, fun _ j hj => ?_⟩, by simp only []; omega⟩
     simp only []
     rw [show ((iN : Int) + 1).toNat - 1 = iN by omega]; exact hz.2 j hj
   · have := s7 (by omega) j hj
     rw [show i.toNat - 1 = x.length - 1 by omega] at this
     exact this
 · obtain ⟨z, rfl, z1, z2, z3⟩ := hv
   simp only []
   rw [z1, w64_id (by omega) (by omega)]
   refine Gives.pos ⟨by omega, by omega⟩ (Gives.opt (el_get (by omega)) (Gives.now ?_))
   rw [show 0 + ((y.length : Int) - 1).toNat = y.length - 1 by omega]
   exact z3 _ (by omega)

/-! Paths as lists of pairs. -/
inductive LP (c : Nat → Nat → Int) (b : Int) : List (Int × Int) → Nat → Nat → Int → Prop
 | one : nearB b 0 0 → LP c b [(0, 0)] 0 0 (c 0 0)
 | step (l : List (Int × Int)) (i j : Nat) (s : Int) (i' j' : Nat) : LP c b l i j s → i ≤ i' → i' ≤ i + 1 → j ≤ j' → j' ≤ j + 1 → i + j < i' + j' → nearB b i' j' → LP c b (l ++ [((i' : Int), (j' : Int))]) i' j' (s + c i' j')
theorem LP.path {c : Nat → Nat → Int} {b : Int} {l : List (Int × Int)} {i j : Nat} {s : Int} (h : LP c b l i j s) : WPath c b 0 0 i j s := by
 induction h with
 | one h => exact .one h
 | step l i j s i' j' _ h1 h2 h3 h4 h5 h6 ih =>
  rcases Nat.lt_or_ge i i' with c1 | c1 <;> rcases Nat.lt_or_ge j j' with c2 | c2
  · obtain rfl : i' = i + 1 := by omega
    obtain rfl : j' = j + 1 := by omega
    exact .diag i j s ih h6
  · obtain rfl : i' = i + 1 := by omega
    obtain rfl : j' = j := by omega
    exact .down i j' s ih h6
  · obtain rfl : i' = i := by omega
    obtain rfl : j' = j + 1 := by omega
    exact .right i' j s ih h6
  · omega
theorem LP.len {c : Nat → Nat → Int} {b : Int} {l : List (Int × Int)} {i j : Nat} {s : Int} (h : LP c b l i j s) : 1 ≤ l.length ∧ l.length ≤ i + j + 1 := by
 induction h with
 | one h => simp
 | step l i j s i' j' _ h1 h2 h3 h4 h5 h6 ih => rw [List.length_append]; simp; omega
theorem LP.near {c : Nat → Nat → Int} {b : Int} {l : List (Int × Int)} {i j : Nat} {s : Int} (h : LP c b l i j s) : nearB b i j := by cases h <;> assumption
theorem LP.last {c : Nat → Nat → Int} {b : Int} {l : List (Int × Int)} {i j : Nat} {s : Int} (h : LP c b l i j s) : l[l.length - 1]? = some ((i : Int), (j : Int)) := by
 cases h with
 | one h => rfl
 | step l i j s i' j' _ h1 h2 h3 h4 h5 h6 => rw [List.length_append]; simp
theorem LP.zero {c : Nat → Nat → Int} {b : Int} {l : List (Int × Int)} {i j : Nat} {s : Int} (h : LP c b l i j s) : l[0]? = some (0, 0) := by
 induction h with
 | one h => rfl
 | step l i j s i' j' hl _ _ _ _ _ _ ih => rw [List.getElem?_append_left (by have := hl.len; omega)]; exact ih
theorem LP.front {c : Nat → Nat → Int} {b : Int} {l : List (Int × Int)} {i j : Nat} {s : Int} (h : LP c b l i j s) : ∀ k, k < l.length → ∃ i' j' s', LP c b (l.take (k + 1)) i' j' s' ∧ i' ≤ i ∧ j' ≤ j := by
 induction h with
 | one h => intro k hk; exact ⟨0, 0, _, by simp only [List.length_cons, List.length_nil] at hk; rw [show k = 0 by omega]; exact .one h, Nat.le_refl _, Nat.le_refl _⟩
 | step l i j s i' j' hl h1 h2 h3 h4 h5 h6 ih =>
  intro k hk
  rw [List.length_append] at hk
  simp only [List.length_cons, List.length_nil] at hk
  rcases Nat.lt_or_ge k l.length with c1 | c1
  · obtain ⟨a, d, t, g1, g2, g3⟩ := ih k c1
    refine ⟨a, d, t, ?_, by omega, by omega⟩
    rw [List.take_append_of_le_length (by omega)]; exact g1
  · refine ⟨i', j', s + c i' j', ?_, Nat.le_refl _, Nat.le_refl _⟩
    rw [List.take_of_length_le (by rw [List.length_append]; simp; omega)]
    exact .step l i j s i' j' hl h1 h2 h3 h4 h5 h6
theorem LP.cost {c : Nat → Nat → Int} {b : Int} (hc : Costs c) {l : List (Int × Int)} {i j : Nat} {s : Int} (h : LP c b l i j s) : 0 ≤ s ∧ s ≤ 4000000 * (l.length : Int) := by
 induction h with
 | one h => have := hc.pos 0 0; have := hc.le 0 0; simp; omega
 | step l i j s i' j' _ h1 h2 h3 h4 h5 h6 ih => have := hc.pos i' j'; have := hc.le i' j'; rw [List.length_append]; simp only [List.length_cons, List.length_nil]; omega
/-! slices.Reverse. -/
theorem rev_ok {l : List (Int × Int)} (hl : l.length ≤ 1000) (h1 : 1 ≤ l.length) : Gives (fun k => T_slices_Reverse_3828 k l.length l) (fun r => r = l.reverse) := by
 obtain ⟨n, hn⟩ : ∃ n, n = l.length := ⟨_, rfl⟩
 rw [← hn]
 refine Gives.step ?_
 simp only [T_slices_Reverse_3828]
 rw [w64_id (x := (n : Int) - 1) (by omega) (by omega)]
 refine Gives.bind (Q := fun r => r = l.reverse) ?_ fun r hr => Gives.now hr
 refine Gives.loop (fun s => 0 ≤ s.1 ∧ s.2.1 = (n : Int) - 1 - s.1 ∧ s.1 ≤ s.2.1 + 1 ∧ s.2.2.length = n ∧ ∀ q : Nat, q < n → s.2.2[q]? = if (q : Int) < s.1 ∨ s.2.1 < (q : Int) then l[n - 1 - q]? else l[q]?) (fun s => (s.2.1 + 1 - s.1).toNat) ?_
  ⟨by simp only []; omega, by simp only []; omega, by simp only []; omega, hn.symm, fun q hq => by simp only []; rw [if_neg (by omega)]⟩
 intro ⟨i, j, w⟩ ⟨i0, i1, i2, i3, i4⟩
 simp only at i0 i1 i2 i3 i4
 unfold T_slices_Reverse_3828_l1
 simp only []
 refine Gives.ite (fun c => ?_) fun c => Gives.now ?_
 · have gj := i4 j.toNat (by omega)
   have gi := i4 i.toNat (by omega)
   rw [if_neg (by omega)] at gj gi
   obtain ⟨u, hu⟩ : ∃ u, l[j.toNat]? = some u := ⟨_, List.getElem?_eq_getElem (by omega)⟩
   obtain ⟨v, hv⟩ : ∃ v, l[i.toNat]? = some v := ⟨_, List.getElem?_eq_getElem (by omega)⟩
   rw [hu] at gj
   rw [hv] at gi
   rw [Nat.zero_add, Nat.zero_add]
   refine Gives.pos ⟨by omega, by omega⟩ (Gives.opt gj (Gives.pos ⟨by omega, by omega⟩ (Gives.opt gi ?_)))
   rw [w64_id (x := i + 1) (by omega) (by omega), w64_id (x := j - 1) (by omega) (by omega)]
   refine Gives.now ⟨⟨by simp only []; omega, by simp only []; omega, by simp only []; omega, by simp [i3], fun q hq => ?_⟩, by simp only []; omega⟩
   simp only []
   rw [List.getElem?_set]
   by_cases c1 : j.toNat = q
   · rw [if_pos c1, if_pos (by rw [List.length_set]; omega), if_pos (by omega), show n - 1 - q = i.toNat by omega, hv]
   · rw [if_neg c1, List.getElem?_set]
     by_cases c2 : i.toNat = q
     · rw [if_pos c2, if_pos (by omega), if_pos (by omega), show n - 1 - q = j.toNat by omega, hu]
     · rw [if_neg c2, i4 q hq]
       by_cases c3 : (q : Int) < i ∨ j < (q : Int)
       · rw [if_pos c3, if_pos (by omega)]
       · rw [if_neg c3, if_neg (by omega)]
 · apply List.ext_getElem?
   intro q
   rcases Nat.lt_or_ge q n with hq | hq
   · rw [i4 q hq, List.getElem?_reverse (by omega), ← hn]
     split
     · rfl
     · rw [show n - 1 - q = q by omega]
   · rw [List.getElem?_eq_none (by omega), List.getElem?_eq_none (by rw [List.length_reverse]; omega)]
theorem mn_r {a b : Int} (h : b < a) : mn a b = b := by unfold mn; rw [if_pos h]
theorem mn_l {a b : Int} (h : ¬ b < a) : mn a b = a := by unfold mn; rw [if_neg h]
/-! The way back. -/
/-- The better one of two. -/
def bst (c : Nat → Nat → Int) (b : Int) (s : Int × Int × Int) (p : Int × Int) : Int × Int × Int := if Wx c b p.1 p.2 < s.1 then (Wx c b p.1 p.2, p.1, p.2) else s
theorem bst_le {c : Nat → Nat → Int} {b : Int} {s : Int × Int × Int} {p : Int × Int} : (bst c b s p).1 ≤ s.1 := by
 unfold bst
 split
 · rename_i h; exact Int.le_of_lt h
 · exact Int.le_refl _
/-- The table of the least costs behind a first row. -/
structure WTbl (c : Nat → Nat → Int) (b : Int) (n m : Nat) (R : List (List Int)) : Prop where
 len : R.length = n + 1
 row : ∀ i, i < n → (R.getD (1 + i) []).length = m
 val : ∀ i j, i < n → j < m → (R.getD (1 + i) []).getD j 0 = Wc c b i j
theorem wp_step {c : Nat → Nat → Int} {b : Int} {n m : Nat} {R : List (List Int)} (h : WTbl c b n m R) (hn : n ≤ 64) (hm : m ≤ 64) {ps : List (Int × Int)} (hl : ps.length ≤ 3) {q : Nat} (hq : q < ps.length) {p : Int × Int} (hp : ps[q]? = some p) (p1 : p.1 < n) (p2 : p.2 < m) (s : Int × Int × Int) (s1 : s.1 ≤ INF) (a0 : Nat) (a1 a2 : Int) (a3 : List (Int × Int)) :
 Gives (fun k => T_warp_Path_l2 k (0 + 1) n R a0 ps ps.length a1 a2 a3 (s.1, q, s.2.1, s.2.2)) (fun x => x = .inl ((bst c b s p).1, (q : Int) + 1, (bst c b s p).2.1, (bst c b s p).2.2)) := by
 unfold T_warp_Path_l2
 simp only []
 have hpa : at? ps (q : Int) = some p := by unfold at?; rw [if_pos (by omega), Int.toNat_natCast]; exact hp
 refine Gives.pos (by omega) (Gives.opt hpa ?_)
 have hl1 := h.len
 rw [w64_id (x := (q : Int) + 1) (by omega) (by omega)]
 have get : 0 ≤ p.1 → 0 ≤ p.2 → R[0 + 1 + p.1.toNat]? = some (R.getD (1 + p.1.toNat) []) ∧ (R.getD (1 + p.1.toNat) []).length = m ∧ (R.getD (1 + p.1.toNat) [])[0 + p.2.toNat]? = some (Wx c b p.1 p.2) := by
  intro g1 g2
  have r := h.row p.1.toNat (by omega)
  refine ⟨by rw [Nat.zero_add]; exact row_get (by omega), r, ?_⟩
  rw [Nat.zero_add, el_get (by omega), h.val _ _ (by omega) (by omega)]
  unfold Wx
  rw [if_pos ⟨g1, g2⟩]
 have out : ¬ (0 ≤ p.1 ∧ 0 ≤ p.2) → ¬ Wx c b p.1 p.2 < s.1 := by intro g; unfold Wx; rw [if_neg g]; omega
 refine Gives.bind (Q := fun v => v = decide (0 ≤ p.1 ∧ 0 ≤ p.2 ∧ Wx c b p.1 p.2 < s.1)) ?_ fun v hv => ?_
 · refine Gives.ite (fun g1 => Gives.ite (fun g2 => ?_) fun g2 => Gives.now (by simp; omega)) fun g1 => Gives.now (by simp; omega)
   obtain ⟨e1, e2, e3⟩ := get g1 g2
   refine Gives.pos ⟨by omega, by omega⟩ (Gives.opt e1 (Gives.pos ⟨by omega, by omega⟩ (Gives.opt e3 (Gives.now ?_))))
   simp [g1, g2]
 subst hv
 refine Gives.bind (Q := fun v => v = bst c b s p) ?_ fun v hv => by subst hv; exact Gives.now rfl
 unfold bst
 refine Gives.ite (fun g => ?_) fun g => Gives.now ?_
 · simp at g
   obtain ⟨e1, e2, e3⟩ := get g.1 g.2.1
   refine Gives.pos ⟨by omega, by omega⟩ (Gives.opt e1 (Gives.pos ⟨by omega, by omega⟩ (Gives.opt e3 (Gives.now ?_))))
   rw [if_pos g.2.2]
 · rw [if_neg]
   intro hlt
   apply g
   have : 0 ≤ p.1 ∧ 0 ≤ p.2 := Classical.byContradiction fun e => out e hlt
   simp [this, hlt]
/-- Three to choose from. -/
def bst3 (c : Nat → Nat → Int) (b : Int) (i j : Int) : Int × Int × Int := bst c b (bst c b (bst c b (INF, i, j) (i - 1, j - 1)) (i - 1, j)) (i, j - 1)
theorem wp_best {c : Nat → Nat → Int} {b : Int} {n m : Nat} {R : List (List Int)} (h : WTbl c b n m R) (hn : n ≤ 64) (hm : m ≤ 64) {i j : Int} (i1 : i < n) (j1 : j < m) (a0 : Nat) (a3 : List (Int × Int)) :
 Gives (fun k => loopT (T_warp_Path_l2 k (0 + 1) n R a0 [(i - 1, j - 1), (i - 1, j), (i, j - 1)] ((([(i - 1, j - 1), (i - 1, j), (i, j - 1)] : List (Int × Int)).length : Nat) : Int) i j a3) k (INF, 0, i, j)) (fun r => r = (bst3 c b i j).2) := by
 obtain ⟨ps, hps⟩ : ∃ ps : List (Int × Int), ps = [(i - 1, j - 1), (i - 1, j), (i, j - 1)] := ⟨_, rfl⟩
 have hl : ps.length = 3 := by rw [hps]; rfl
 obtain ⟨s0, h0⟩ : ∃ s : Int × Int × Int, s = (INF, i, j) := ⟨_, rfl⟩
 obtain ⟨s1, h1⟩ : ∃ s : Int × Int × Int, s = bst c b s0 (i - 1, j - 1) := ⟨_, rfl⟩
 obtain ⟨s2, h2⟩ : ∃ s : Int × Int × Int, s = bst c b s1 (i - 1, j) := ⟨_, rfl⟩
 obtain ⟨s3, h3⟩ : ∃ s : Int × Int × Int, s = bst c b s2 (i, j - 1) := ⟨_, rfl⟩
 have e3 : bst3 c b i j = s3 := by rw [h3, h2, h1, h0]; rfl
 rw [← hps, e3]
 have l0 : s0.1 ≤ INF := by rw [h0]; exact Int.le_refl _
 have l1 : s1.1 ≤ INF := by rw [h1]; exact Int.le_trans bst_le l0
 have l2 : s2.1 ≤ INF := by rw [h2]; exact Int.le_trans bst_le l1
 refine Gives.loop (fun s => (s.2.1 = 0 ∧ s = (s0.1, 0, s0.2.1, s0.2.2)) ∨ (s.2.1 = 1 ∧ s = (s1.1, 1, s1.2.1, s1.2.2)) ∨ (s.2.1 = 2 ∧ s = (s2.1, 2, s2.2.1, s2.2.2)) ∨ (s.2.1 = 3 ∧ s = (s3.1, 3, s3.2.1, s3.2.2))) (fun s => (3 - s.2.1).toNat) ?_ (.inl ⟨rfl, by rw [h0]⟩)
 intro s hs
 rcases hs with ⟨_, rfl⟩ | ⟨_, rfl⟩ | ⟨_, rfl⟩ | ⟨_, rfl⟩
 · refine (wp_step (p := (i - 1, j - 1)) h hn hm (by omega) (q := 0) (by omega) (by rw [hps]; rfl) (by simp only []; omega) (by simp only []; omega) s0 l0 a0 i j a3).mono fun x hx => ?_
   subst hx
   exact ⟨.inr (.inl ⟨rfl, by rw [h1]; rfl⟩), by simp only []; omega⟩
 · refine (wp_step (p := (i - 1, j)) h hn hm (by omega) (q := 1) (by omega) (by rw [hps]; rfl) (by simp only []; omega) (by simp only []; omega) s1 l1 a0 i j a3).mono fun x hx => ?_
   subst hx
   exact ⟨.inr (.inr (.inl ⟨rfl, by rw [h2]; rfl⟩)), by simp only []; omega⟩
 · refine (wp_step (p := (i, j - 1)) h hn hm (by omega) (q := 2) (by omega) (by rw [hps]; rfl) (by simp only []; omega) (by simp only []; omega) s2 l2 a0 i j a3).mono fun x hx => ?_
   subst hx
   exact ⟨.inr (.inr (.inr ⟨rfl, by rw [h3]; rfl⟩)), by simp only []; omega⟩
 · unfold T_warp_Path_l2
   simp only []
   exact Gives.neg (by omega) (Gives.now rfl)
theorem bst3_ok {c : Nat → Nat → Int} {b : Int} (hc : Costs c) {i j : Nat} (h : nearB b i j) (hlt : Wc c b i j < INF) (hij : 0 < i + j) : ∃ p q : Nat, (bst3 c b i j).2 = ((p : Int), (q : Int)) ∧ p ≤ i ∧ i ≤ p + 1 ∧ q ≤ j ∧ j ≤ q + 1 ∧ p + q < i + j ∧ Wc c b i j = Wc c b p q + c i j := by
 have e := W_in h hlt (hc.pos i j) hij
 have cp := hc.pos i j
 have inn : ∀ {p q : Int}, Wx c b p q < INF → 0 ≤ p ∧ 0 ≤ q ∧ Wx c b p q = Wc c b p.toNat q.toNat := by
  intro p q hp
  unfold Wx at hp ⊢
  by_cases g : 0 ≤ p ∧ 0 ≤ q
  · rw [if_pos g]; exact ⟨g.1, g.2, rfl⟩
  · rw [if_neg g] at hp; omega
 unfold bst3 bst
 simp only []
 by_cases c1 : Wx c b (i - 1) (j - 1) < INF
 · simp only [if_pos c1]
   obtain ⟨u1, u2, u3⟩ := inn c1
   by_cases c2 : Wx c b (i - 1) j < Wx c b (i - 1) (j - 1)
   · simp only [if_pos c2]
     obtain ⟨v1, v2, v3⟩ := inn (Int.lt_trans c2 c1)
     by_cases c3 : Wx c b i (j - 1) < Wx c b (i - 1) j
     · simp only [if_pos c3]
       obtain ⟨w1, w2, w3⟩ := inn (Int.lt_trans c3 (Int.lt_trans c2 c1))
       refine ⟨i, j - 1, by simp; omega, by omega, by omega, by omega, by omega, by omega, ?_⟩
       rw [e]; unfold mn; rw [if_pos c2, if_pos c3, w3]; congr 2; omega
     · simp only [if_neg c3]
       refine ⟨i - 1, j, by simp; omega, by omega, by omega, by omega, by omega, by omega, ?_⟩
       rw [e]; unfold mn; rw [if_pos c2, if_neg c3, v3]; congr 2; omega
   · simp only [if_neg c2]
     by_cases c3 : Wx c b i (j - 1) < Wx c b (i - 1) (j - 1)
     · simp only [if_pos c3]
       obtain ⟨w1, w2, w3⟩ := inn (Int.lt_trans c3 c1)
       refine ⟨i, j - 1, by simp; omega, by omega, by omega, by omega, by omega, by omega, ?_⟩
       rw [e]; unfold mn; rw [if_neg c2, if_pos c3, w3]; congr 2; omega
     · simp only [if_neg c3]
       refine ⟨i - 1, j - 1, by simp; omega, by omega, by omega, by omega, by omega, by omega, ?_⟩
       rw [e]; unfold mn; rw [if_neg c2, if_neg c3, u3]; congr 2 <;> omega
 · simp only [if_neg c1]
   by_cases c2 : Wx c b (i - 1) j < INF
   · simp only [if_pos c2]
     obtain ⟨v1, v2, v3⟩ := inn c2
     by_cases c3 : Wx c b i (j - 1) < Wx c b (i - 1) j
     · simp only [if_pos c3]
       obtain ⟨w1, w2, w3⟩ := inn (Int.lt_trans c3 c2)
       refine ⟨i, j - 1, by simp; omega, by omega, by omega, by omega, by omega, by omega, ?_⟩
       rw [e, mn_r (a := Wx c b (i - 1) (j - 1)) (by omega), mn_r c3, w3]; congr 2; omega
     · simp only [if_neg c3]
       refine ⟨i - 1, j, by simp; omega, by omega, by omega, by omega, by omega, by omega, ?_⟩
       rw [e, mn_r (a := Wx c b (i - 1) (j - 1)) (by omega), mn_l c3, v3]; congr 2; omega
   · simp only [if_neg c2]
     by_cases c3 : Wx c b i (j - 1) < INF
     · simp only [if_pos c3]
       obtain ⟨w1, w2, w3⟩ := inn c3
       refine ⟨i, j - 1, by simp; omega, by omega, by omega, by omega, by omega, by omega, ?_⟩
       have := le_mn (x := INF) (a := Wx c b (i - 1) (j - 1)) (b := Wx c b (i - 1) j) (by omega) (by omega)
       rw [e, mn_r (b := Wx c b i (j - 1)) (by omega), w3]; congr 2; omega
     · exfalso
       have : INF ≤ mn (mn (Wx c b (i - 1) (j - 1)) (Wx c b (i - 1) j)) (Wx c b i (j - 1)) := le_mn (le_mn (by omega) (by omega)) (by omega)
       omega

theorem app_set {α : Type} {R : List (List α)} {n : Nat} {r : List α} (h : R.length = n) : (R.take n ++ [[]]).set n r = R ++ [r] := by
 subst h
 rw [List.take_length, List.set_append_right _ _ (Nat.le_refl _), Nat.sub_self]; rfl
theorem row_app {R : List (List Int)} {r : List Int} {p : Nat} : (R ++ [r]).getD p [] = if p = R.length then r else R.getD p [] := by
 rw [List.getD_eq_getElem?_getD, List.getD_eq_getElem?_getD]
 rcases Nat.lt_trichotomy p R.length with c | c | c
 · rw [List.getElem?_append_left c, if_neg (by omega)]
 · subst c; rw [List.getElem?_append_right (Nat.le_refl _), Nat.sub_self, if_pos rfl]; rfl
 · rw [if_neg (by omega), List.getElem?_eq_none (by rw [List.length_append]; simp; omega), List.getElem?_eq_none (by omega)]
theorem wp_table {x y : List Int} {b : Int} (h : Fits x y b) : Gives (fun k => loopT (T_warp_Path_l1 k x y b (x.length : Int)) k (1, 0, ([[]] : List (List Int)).set 0 (List.replicate y.length 0))) (fun r => r.1 = x.length + 1 ∧ WTbl (sqc x y) b x.length y.length r.2) := by
 have x1 := h.wx.lo
 have x2 := h.wx.hi
 have y1 := h.wy.lo
 have y2 := h.wy.hi
 refine Gives.loop (fun s => 0 ≤ s.2.1 ∧ s.2.1 ≤ (x.length : Int) ∧ s.1 = s.2.1.toNat + 1 ∧ s.2.2.length = s.2.1.toNat + 1 ∧ (∀ i : Nat, (i : Int) ≤ s.2.1 → (s.2.2.getD i []).length = y.length) ∧ ∀ i j : Nat, (i : Int) < s.2.1 → j < y.length → (s.2.2.getD (1 + i) []).getD j 0 = Wc (sqc x y) b i j) (fun s => ((x.length : Int) - s.2.1).toNat) ?_
  ⟨by simp only []; omega, by simp only []; omega, rfl, rfl, fun i hi => by simp only at hi ⊢; rw [show i = 0 by omega]; simp, fun i j hi hj => by simp only at hi; omega⟩
 intro ⟨cnt, i, R⟩ ⟨i0, i1, hc, hl, hr, hv⟩
 simp only at i0 i1 hc hl hr hv
 unfold T_warp_Path_l1
 simp only []
 refine Gives.ite (fun cc => ?_) fun cc => Gives.now ⟨by simp only []; omega, by simp only []; omega, fun p hp => hr (1 + p) (by omega), fun p q hp hq => hv p q (by omega) hq⟩
 obtain ⟨iN, rfl⟩ : ∃ iN : Nat, i = iN := ⟨i.toNat, by omega⟩
 rw [Int.toNat_natCast] at hc hl
 subst hc
 rw [w64_id (x := (iN : Int) + 1) (by omega) (by omega), Int.toNat_natCast, app_set hl, show ((iN : Int) + 1).toNat = iN + 1 by omega, Int.toNat_natCast, Nat.zero_add, Nat.zero_add]
 refine Gives.pos (by unfold LIM; omega) (Gives.pos (by unfold LIM; omega) (Gives.pos ⟨by omega, by omega⟩ (Gives.opt (row_get (by rw [List.length_append, hl]; simp)) (Gives.pos ⟨by omega, by omega⟩ (Gives.pos (by omega) (Gives.opt (row_get (by rw [List.length_append, hl]; simp; omega)) ?_))))))
 rw [row_app, if_pos hl.symm, row_app, if_neg (by omega), List.length_replicate, hr iN (by omega)]
 refine Gives.bind (wp_fillW (i := iN) h.wx.smp h.wy.smp rfl (by omega) (List.length_replicate ..) (hr iN (by omega)) (by omega) (by omega) fun p j hj => ?_) fun z hz => ?_
 · have := hv (iN - 1) j (by omega) hj
   rw [show 1 + (iN - 1) = iN by omega] at this
   exact this
 have ez : z.take y.length = z := List.take_of_length_le (by omega)
 rw [ez]
 have e2 : (R ++ [List.replicate y.length 0]).set (iN + 1) z = R ++ [z] := by
  rw [List.set_append_right _ _ (by omega), hl, Nat.sub_self]; rfl
 rw [e2]
 refine Gives.now ⟨⟨by simp only []; omega, by simp only []; omega, by simp only []; omega, by simp only []; rw [List.length_append, hl]; simp, fun p hp => ?_, fun p q hp hq => ?_⟩, by simp only []; omega⟩
 · simp only at hp ⊢
   rw [row_app]
   split
   · exact hz.1
   · exact hr p (by omega)
 · simp only at hp ⊢
   rw [row_app]
   split
   · rw [hz.2 q hq]; congr 1; omega
   · exact hv p q (by omega) hq
theorem wp_path {x y : List Int} {b : Int} (h : Fits x y b) : Gives (fun k => T_warp_Path k x y b) (fun r => r.2 = 0 ∧ LP (sqc x y) b r.1 (x.length - 1) (y.length - 1) (Wc (sqc x y) b (x.length - 1) (y.length - 1))) := by
 have x1 := h.wx.lo
 have x2 := h.wx.hi
 have y1 := h.wy.lo
 have y2 := h.wy.hi
 have ab := h.ab
 have ba := h.ba
 have b0 := h.lo
 have hc := sqc_ok h.wx.smp h.wy.smp
 have hn : nearB b (x.length - 1) (y.length - 1) := by unfold nearB; omega
 refine Gives.step ?_
 simp only [T_warp_Path]
 rw [Int.toNat_natCast, w64_id (x := (x.length : Int) - 1) (by omega) (by omega), w64_id (x := (y.length : Int) - 1) (by omega) (by omega)]
 refine Gives.bind (wp_check h) fun r hr => Gives.neg (by simp [hr]) (Gives.pos (by unfold LIM; omega) (Gives.bind (wp_table h) fun t ht => ?_))
 obtain ⟨t1, t2⟩ := ht
 rw [t1, show (((x.length + 1 : Nat) : Int)).toNat - 1 = x.length by omega]
 generalize t.2 = R at t2
 refine Gives.pos (by omega) ?_
 refine Gives.bind (Q := fun r => r.1 = r.2.length ∧ r.2.length ≤ 100 ∧ 1 ≤ r.2.length ∧ LP (sqc x y) b r.2.reverse (x.length - 1) (y.length - 1) (Wc (sqc x y) b (x.length - 1) (y.length - 1))) ?_ fun r hr => ?_
 · refine Gives.loop (fun s => s.1 = s.2.2.2.length ∧ ∃ (i j : Nat) (rest : List (Int × Int)) (t : Int), s.2.1 = (i : Int) ∧ s.2.2.1 = (j : Int) ∧ i < x.length ∧ j < y.length ∧ nearB b i j ∧ s.2.2.2 = rest.reverse ++ [((i : Int), (j : Int))] ∧ rest.length + i + j ≤ 62 ∧ Wc (sqc x y) b (x.length - 1) (y.length - 1) = Wc (sqc x y) b i j + t ∧
    ∀ l s', LP (sqc x y) b l i j s' → LP (sqc x y) b (l ++ rest) (x.length - 1) (y.length - 1) (s' + t)) (fun s => (s.2.1 + s.2.2.1).toNat) ?_
    ⟨rfl, x.length - 1, y.length - 1, [], 0, by show (x.length : Int) - 1 = _; omega, by show (y.length : Int) - 1 = _; omega, by omega, by omega, hn, by simp; omega, by simp; omega, by omega, fun l s' hl => by rw [List.append_nil, Int.add_zero]; exact hl⟩
   intro ⟨cnt, i, j, out⟩ ⟨hcnt, iN, jN, rest, t, e1, e2, hi, hj, hnr, ho, hlen, hw, hp⟩
   simp only at hcnt e1 e2 ho
   subst e1 e2
   have hlt := W_lt hc b0 (i := iN) (j := jN) (by omega) (by omega) hnr
   unfold T_warp_Path_l3
   simp only []
   rw [w64_id (x := (iN : Int) - 1) (by omega) (by omega), w64_id (x := (jN : Int) - 1) (by omega) (by omega)]
   refine Gives.ite (fun cc => ?_) fun cc => Gives.now ?_
   · refine Gives.bind (wp_best t2 (by omega) (by omega) (i := (iN : Int)) (j := (jN : Int)) (by omega) (by omega) _ _) fun v hv => ?_
     have hij : 0 < iN + jN := by simp at cc; omega
     obtain ⟨p, q, g1, g2, g3, g4, g5, g6, g7⟩ := bst3_ok hc hnr hlt hij
     rw [g1] at hv
     subst hv
     have ol : out.length = rest.length + 1 := by rw [ho]; simp
     have hpq : Wc (sqc x y) b p q < INF := by have := hc.pos iN jN; omega
     have nr2 : nearB b p q := Classical.byContradiction fun e => by have := W_out (c := sqc x y) e; omega
     rw [tk_all hcnt.symm]
     refine Gives.pos (by unfold LIM; omega) (Gives.now ⟨⟨?_, p, q, ((iN : Int), (jN : Int)) :: rest, sqc x y iN jN + t, rfl, rfl, by omega, by omega, nr2, ?_, ?_, by omega, fun l s' hl => ?_⟩, ?_⟩)
     · simp only []; rw [List.length_append]; simp; omega
     · simp only []; rw [ho]; simp
     · simp only [List.length_cons]; omega
     · have := hp _ _ (LP.step l p q s' iN jN hl (by omega) (by omega) (by omega) (by omega) (by omega) hnr)
       rw [List.append_assoc] at this
       rw [show s' + (sqc x y iN jN + t) = s' + sqc x y iN jN + t by omega]
       exact this
     · simp only []; omega
   · have e0 : iN = 0 ∧ jN = 0 := by simp at cc; omega
     obtain ⟨rfl, rfl⟩ := e0
     have ol : out.length = rest.length + 1 := by rw [ho]; simp
     refine ⟨by simp only []; omega, by simp only []; omega, by simp only []; omega, ?_⟩
     have := hp _ _ (LP.one hnr)
     simp only []
     rw [ho, List.reverse_append, List.reverse_reverse, hw, W_zero0 hnr hlt]
     exact this
 · obtain ⟨r1, r2, r3, r4⟩ := hr
   rw [r1]
   refine Gives.bind (rev_ok (by omega) r3) fun v hv => Gives.now ⟨rfl, ?_⟩
   simp only []
   rw [hv, tk_all (List.length_reverse)]
   exact r4

theorem sqc_w {x y : List Int} (hx : Smp x) (hy : Smp y) (i j : Nat) : w64 (w64 (rd x i - rd y j) * w64 (rd x i - rd y j)) = sqc x y i j := by
 have hc := sqc_ok hx hy
 have h1 := hx.rd (i : Int)
 have h2 := hy.rd (j : Int)
 have h3 := hc.le i j
 have h4 := hc.pos i j
 have e : sqc x y i j = (rd x i - rd y j) * (rd x i - rd y j) := by unfold sqc rd; simp
 rw [w64_id (x := rd x i - rd y j) (by omega) (by omega), ← e, w64_id (by omega) (by omega)]
theorem at_get {α : Type} {l : List α} {k : Nat} {p : α} (h : l[k]? = some p) : at? l (k : Int) = some p := by unfold at?; rw [if_pos (by omega), Int.toNat_natCast]; exact h
theorem wp_cost {x y : List Int} {b : Int} {l : List (Int × Int)} {s : Int} (h : Fits x y b) (hl : LP (sqc x y) b l (x.length - 1) (y.length - 1) s) : Gives (fun k => T_warp_Cost k x y b l) (fun r => r = (s, 0)) := by
 have x1 := h.wx.lo
 have x2 := h.wx.hi
 have y1 := h.wy.lo
 have y2 := h.wy.hi
 have b0 := h.lo
 have b1 := h.hi
 have hc := sqc_ok h.wx.smp h.wy.smp
 obtain ⟨l1, l2⟩ := hl.len
 refine Gives.step ?_
 simp only [T_warp_Cost]
 rw [w64_id (x := (x.length : Int) - 1) (by omega) (by omega), w64_id (x := (y.length : Int) - 1) (by omega) (by omega), w64_id (x := (l.length : Int) - 1) (by omega) (by omega)]
 refine Gives.bind (wp_check h) fun r hr => Gives.neg (by simp [hr]) (Gives.bind (Q := fun v => v = false) ?_ fun v hv => ?_)
 · refine Gives.neg (by omega) (Gives.opt (at_get (k := 0) hl.zero) (Gives.neg (by simp) ?_))
   rw [show (l.length : Int) - 1 = ((l.length - 1 : Nat) : Int) by omega]
   refine Gives.opt (at_get hl.last) (Gives.now ?_)
   simp
   omega
 subst hv
 refine Gives.neg (by simp) (Gives.bind (Q := fun v => v = .inl s) ?_ fun v hv => by subst hv; exact Gives.now rfl)
 refine Gives.loop (fun t => 0 ≤ t.2 ∧ t.2 ≤ (l.length : Int) ∧ (t.2 = 0 → t.1 = 0) ∧ ∀ i j s', LP (sqc x y) b (l.take t.2.toNat) i j s' → t.1 = s') (fun t => ((l.length : Int) - t.2).toNat) ?_ ⟨by simp only []; omega, by simp only []; omega, fun _ => rfl, fun i j s' c => by have := c.len; simp at this⟩
 intro ⟨sum, k⟩ ⟨k0, k1, k2, k3⟩
 simp only at k0 k1 k2 k3
 obtain ⟨kN, rfl⟩ : ∃ kN : Nat, k = kN := ⟨k.toNat, by omega⟩
 rw [Int.toNat_natCast] at k3
 unfold T_warp_Cost_l1
 simp only []
 refine Gives.ite (fun cc => ?_) fun cc => Gives.now ?_
 · obtain ⟨i', j', s', g1, g2, g3⟩ := hl.front kN (by omega)
   have gl := g1.last
   have tl : (l.take (kN + 1)).length = kN + 1 := by rw [List.length_take]; omega
   rw [tl, Nat.add_sub_cancel, List.getElem?_take_of_lt (by omega)] at gl
   have gc := g1.cost hc
   rw [tl] at gc
   have nr := g1.near
   unfold nearB at nr
   rw [w64_id (x := (kN : Int) - 1) (by omega) (by omega), w64_id (x := (kN : Int) + 1) (by omega) (by omega)]
   refine Gives.opt (at_get gl) ?_
   simp only []
   rw [w64_id (x := (i' : Int) - j') (by omega) (by omega), w64_id (x := (j' : Int) - i') (by omega) (by omega)]
   -- what stands before
   have pre : (kN = 0 ∧ s' = sqc x y 0 0 ∧ i' = 0 ∧ j' = 0) ∨ ∃ i0 j0, 0 < kN ∧ l[kN - 1]? = some (((i0 : Nat) : Int), ((j0 : Nat) : Int)) ∧ i0 ≤ i' ∧ i' ≤ i0 + 1 ∧ j0 ≤ j' ∧ j' ≤ j0 + 1 ∧ i0 + j0 < i' + j' ∧ s' = sum + sqc x y i' j' := by
    generalize eu : l.take (kN + 1) = u at g1
    cases g1 with
    | one _ =>
     left
     rw [eu] at tl
     simp only [List.length_cons, List.length_nil] at tl
     exact ⟨by omega, rfl, rfl, rfl⟩
    | step l0 i0 j0 s0 _ _ q0 q1 q2 q3 q4 q5 q6 =>
     right
     have q7 : l0.length = kN := by rw [eu, List.length_append] at tl; simp only [List.length_cons, List.length_nil] at tl; omega
     have q8 : l0 = l.take kN := by
      have := congrArg (List.take kN) eu
      rw [List.take_take, Nat.min_eq_left (by omega), List.take_append_of_le_length (by omega), List.take_of_length_le (l := l0) (by omega)] at this
      exact this.symm
     have q9 := q0.last
     have q10 := q0.len
     rw [q7] at q9
     have q11 := k3 i0 j0 s0 (by rw [← q8]; exact q0)
     refine ⟨i0, j0, by omega, ?_, q1, q2, q3, q4, q5, by rw [q11]⟩
     rw [q8, List.getElem?_take_of_lt (by omega)] at q9
     exact q9
   refine Gives.bind (Q := fun v => v = false) ?_ fun v hv => ?_
   · refine Gives.neg (by clear pre; simp; omega) (Gives.bind (Q := fun _ => True) (Gives.step (by simp only [T_warp_near]; exact Gives.now trivial)) fun _ _ => Gives.neg (by clear pre; simp; omega) (Gives.ite (fun cp => ?_) fun _ => Gives.now rfl))
     rcases pre with ⟨e, _⟩ | ⟨i0, j0, p0, p1, p2, p3, p4, p5, p6, p7⟩
     · omega
     · rw [show (kN : Int) - 1 = ((kN - 1 : Nat) : Int) by omega]
       refine Gives.opt (at_get p1) (Gives.bind (Q := fun _ => True) (Gives.step (by simp only [T_warp_follows]; exact Gives.now trivial)) fun _ _ => Gives.now ?_)
       simp only []
       rw [w64_id (x := (i' : Int) - i0) (by omega) (by omega), w64_id (x := (j' : Int) - j0) (by omega) (by omega), w64_id (x := (i' : Int) - i0 + (j' - j0)) (by omega) (by omega)]
       simp
       omega
   subst hv
   refine Gives.neg (by simp) (Gives.opt (at_rd (by omega) (by clear pre; omega)) (Gives.opt (at_rd (by omega) (by clear pre; omega)) ?_))
   rw [sqc_w h.wx.smp h.wy.smp]
   have es : sum + sqc x y i' j' = s' := by
    rcases pre with ⟨e, e2, rfl, rfl⟩ | ⟨_, _, _, _, _, _, _, _, _, p7⟩
    · rw [k2 (by omega), e2]; omega
    · exact p7.symm
   clear pre
   rw [es, w64_id (x := s') (by omega) (by omega)]
   refine Gives.now ⟨⟨by simp only []; omega, by simp only []; omega, fun e => by simp only at e; omega, fun i j t ht => ?_⟩, by simp only []; omega⟩
   simp only at ht ⊢
   rw [show ((kN : Int) + 1).toNat = kN + 1 by omega] at ht
   -- only one cost
   have uni : ∀ {u : List (Int × Int)} {i j : Nat} {s : Int}, LP (sqc x y) b u i j s → ∀ {i' j' : Nat} {s' : Int}, LP (sqc x y) b u i' j' s' → s = s' := by
    intro u i j s hu
    induction hu with
    | one _ =>
     intro i' j' s' hv
     generalize ew : ([(0, 0)] : List (Int × Int)) = w at hv
     cases hv with
     | one _ => rfl
     | step l0 i0 j0 s0 _ _ q0 =>
      have := congrArg List.length ew
      have := q0.len
      simp only [List.length_append, List.length_cons, List.length_nil] at *
      omega
    | step l0 i0 j0 s0 i1 j1 q0 _ _ _ _ _ _ ih =>
     intro i' j' s' hv
     generalize ew : l0 ++ [((i1 : Int), (j1 : Int))] = w at hv
     cases hv with
     | one _ =>
      have := congrArg List.length ew
      have := q0.len
      simp only [List.length_append, List.length_cons, List.length_nil] at *
      omega
     | step l2 i2 j2 s2 _ _ r0 =>
      obtain ⟨e1, e2⟩ := List.append_inj' ew rfl
      subst e1
      have e3 := ih r0
      simp only [List.cons.injEq, Prod.mk.injEq, and_true] at e2
      have e4 : i1 = i' := by omega
      have e5 : j1 = j' := by omega
      rw [e3, e4, e5]
   exact uni g1 ht
 · have := k3 (x.length - 1) (y.length - 1) s (by rw [List.take_of_length_le (by omega)]; exact hl)
   rw [this]
theorem wp_walk {x y L : List Int} {b p : Int} (h : Fits x y b) (hs : SrcOk L p) : Gives (fun k => T_law14_walk k x.length y.length b L p) (fun r => ∃ s, LP (sqc x y) b r.1 (x.length - 1) (y.length - 1) s) := by
 have x1 := h.wx.lo
 have x2 := h.wx.hi
 have y1 := h.wy.lo
 have y2 := h.wy.hi
 have ab := h.ab
 have ba := h.ba
 have b0 := h.lo
 have b1 := h.hi
 refine Gives.step ?_
 simp only [T_law14_walk]
 refine Gives.bind (Q := fun r => r.1 = r.2.2.length ∧ ∃ s, LP (sqc x y) b r.2.2 (x.length - 1) (y.length - 1) s) ?_ fun r hr => ?_
 · refine Gives.loop (fun s => s.1 = s.2.2.2.2.length ∧ SrcOk L s.2.1 ∧ ∃ (i j : Nat) (t : Int), s.2.2.1 = (i : Int) ∧ s.2.2.2.1 = (j : Int) ∧ i < x.length ∧ j < y.length ∧ LP (sqc x y) b s.2.2.2.2 i j t) (fun s => ((x.length : Int) - s.2.2.1 + ((y.length : Int) - s.2.2.2.1)).toNat) ?_
    ⟨rfl, hs, 0, 0, _, rfl, rfl, by omega, by omega, .one (by unfold nearB; omega)⟩
   intro ⟨cnt, pos, i, j, out⟩ ⟨hcnt, hpos, iN, jN, t, e1, e2, hi, hj, hp⟩
   simp only at hcnt hpos e1 e2 hp
   subst e1 e2
   unfold T_law14_walk_l1
   simp only []
   rw [w64_id (x := (x.length : Int) - 1) (by omega) (by omega), w64_id (x := (y.length : Int) - 1) (by omega) (by omega), w64_id (x := (iN : Int) + 1) (by omega) (by omega), w64_id (x := (jN : Int) + 1) (by omega) (by omega)]
   have nr := hp.near
   unfold nearB at nr
   have hlen := hp.len
   refine Gives.ite (fun cc => ?_) fun cc => Gives.now ⟨hcnt, t, ?_⟩
   · have cc : iN + 1 < x.length ∨ jN + 1 < y.length := by simp at cc; omega
     refine Gives.bind (src_n hpos 3 (by omega) (by omega)) fun a ha => ?_
     refine Gives.bind (Q := fun v => ∃ u w : Nat, v = ((u : Int), (w : Int)) ∧ iN ≤ u ∧ u ≤ iN + 1 ∧ jN ≤ w ∧ w ≤ jN + 1 ∧ iN + jN < u + w) ?_ fun v hv => ?_
     · refine Gives.ite (fun _ => Gives.now ⟨iN + 1, jN + 1, rfl, by omega, by omega, by omega, by omega, by omega⟩) fun _ => Gives.ite (fun _ => Gives.now ⟨iN + 1, jN, rfl, by omega, by omega, by omega, by omega, by omega⟩) fun _ => Gives.now ⟨iN, jN + 1, rfl, by omega, by omega, by omega, by omega, by omega⟩
     obtain ⟨u, w, rfl, u1, u2, w1, w2, uw⟩ := hv
     simp only []
     rw [w64_id (x := (u : Int) - w) (by omega) (by omega), w64_id (x := (w : Int) - u) (by omega) (by omega)]
     refine Gives.bind (Q := fun v => ∃ u w : Nat, v = ((u : Int), (w : Int)) ∧ iN ≤ u ∧ u ≤ iN + 1 ∧ jN ≤ w ∧ w ≤ jN + 1 ∧ iN + jN < u + w ∧ u < x.length ∧ w < y.length ∧ nearB b u w) ?_ fun v hv => ?_
     · refine Gives.ite (fun c2 => Gives.now ⟨min (iN + 1) (x.length - 1), min (jN + 1) (y.length - 1), ?_, by omega, by omega, by omega, by omega, by omega, by omega, by omega, by unfold nearB; omega⟩) fun c2 => Gives.now ⟨u, w, rfl, u1, u2, w1, w2, uw, ?_⟩
       · have e1 : imin ((iN : Int) + 1) ((x.length : Int) - 1) = ((min (iN + 1) (x.length - 1) : Nat) : Int) := by unfold imin; split <;> omega
         have e2 : imin ((jN : Int) + 1) ((y.length : Int) - 1) = ((min (jN + 1) (y.length - 1) : Nat) : Int) := by unfold imin; split <;> omega
         rw [e1, e2]
       · simp at c2
         unfold nearB
         omega
     obtain ⟨u, w, rfl, u1, u2, w1, w2, uw, ux, wy, hn⟩ := hv
     rw [tk_all hcnt.symm]
     refine Gives.pos (by unfold LIM; omega) (Gives.now ⟨⟨by simp only []; rw [List.length_append, hcnt]; simp, ha.2.2, u, w, _, rfl, rfl, ux, wy, .step out iN jN t u w hp u1 u2 w1 w2 uw hn⟩, by simp only []; omega⟩)
   · have cc : iN = x.length - 1 ∧ jN = y.length - 1 := by simp at cc; omega
     obtain ⟨rfl, rfl⟩ := cc
     exact hp
 · obtain ⟨r1, s, r2⟩ := hr
   exact Gives.now ⟨s, by simp only []; rw [tk_all r1.symm]; exact r2⟩

-- Every path within the band costs at least the distance, and that of Path costs just that: WarpLeast returns true for every two lists.
theorem awake_k (k : Nat) : T_law14_awake (k + 40) = some true := by kernel_rfl
theorem awake_ok : Gives (fun k => T_law14_awake k) (· = true) := ⟨true, ⟨40, fun k hk => by
 obtain ⟨m, rfl⟩ : ∃ m, k = m + 40 := ⟨k - 40, by omega⟩
 exact awake_k m⟩, rfl⟩
theorem pure_warpLeast (a0 : List Int) (w0 : ∀ n ∈ a0, (Lit.int .i64 n).wf = true) (a1 : List Int) (w1 : ∀ n ∈ a1, (Lit.int .i64 n).wf = true) : ∃ k, T_law14_WarpLeast k a0 a1 = some true := by
 refine Gives.true (f := fun k => T_law14_WarpLeast k a0 a1) ?_
 obtain ⟨s0, s1⟩ := src_new a0
 obtain ⟨t0, t1⟩ := src_new a1
 refine Gives.step ?_
 simp only [T_law14_WarpLeast]
 refine Gives.bind s1 fun _ _ => Gives.bind (src_uneven s0) fun a ha => ?_
 obtain ⟨hf, a8⟩ := ha
 generalize a.1 = x at *
 generalize a.2.1 = y at *
 generalize a.2.2.1 = b at *
 refine Gives.bind (wp_distanceW hf) fun d hd => Gives.bind (wp_path hf) fun p hp => Gives.bind (wp_cost hf hp.2) fun c hc => Gives.bind t1 fun _ _ => Gives.bind (wp_walk hf t0) fun w hw => ?_
 obtain ⟨s, hw⟩ := hw
 refine Gives.bind (wp_cost hf hw) fun e he => ?_
 have le := W_le_path hw.path rfl rfl
 refine Gives.bind (Q := fun v => v = true) (Gives.pos ?_ (Gives.bind awake_ok fun v hv => Gives.now hv)) fun v hv => Gives.now hv
 rw [hc, he]
 simp [hd.1, hd.2, hp.1]
 exact le

end Go.Proofs.Ytnceoalphoodaaa.warpLeast
