/- Part 2 of 3 of the theory that this claim's proof uses: functions of the program as terms of a small language, what these compute, and that the program's functions answer so.
 There are no conditions beyond those that the theorems name. -/
import Derived.Test.YtkeddnagijjbaaaGreatX1
set_option linter.unusedVariables false
set_option linter.unusedSimpArgs false
namespace Go.Proofs.YtkeddnagijjbaaaGreat
open Go
section
/-! ## Slots in other places -/
variable {F F' : Nat → Prop} {β β' : Place} {m m' : Heap} {h : Array Obj}

theorem find_some : ∀ {ids : List Nat} {s i t : Nat}, find s ids i = some t → i ≤ t ∧ ids[t - i]? = some s
 | [], s, i, t, e => by simp [find] at e
 | x :: r, s, i, t, e => by
  simp only [find] at e
  split at e
  · rename_i hx; cases e; exact ⟨Nat.le_refl _, by simp [hx]⟩
  · obtain ⟨h1, h2⟩ := find_some e
    refine ⟨by omega, ?_⟩
    have : t - i = t - (i + 1) + 1 := by omega
    rw [this, List.getElem?_cons_succ]; exact h2
theorem find_none : ∀ {ids : List Nat} {s i : Nat}, find s ids i = none → s ∉ ids
 | [], s, i, _ => by simp
 | x :: r, s, i, e => by
  simp only [find] at e
  split at e
  · cases e
  · rename_i hx
    simp only [List.mem_cons, not_or]
    exact ⟨fun c => hx c.symm, find_none e⟩
theorem find_nodup : ∀ {ids : List Nat} {s t i : Nat}, ids.Nodup → ids[t]? = some s → find s ids i = some (i + t)
 | [], s, t, i, _, e => by simp at e
 | x :: r, s, 0, i, _, e => by simp at e; simp [find, e]
 | x :: r, s, t + 1, i, hn, e => by
  simp only [List.getElem?_cons_succ] at e
  have hx : x ≠ s := fun c => by
   subst c
   exact (List.nodup_cons.1 hn).1 (List.mem_of_getElem? e)
  simp only [find, if_neg hx]
  rw [find_nodup (List.nodup_cons.1 hn).2 e]
  congr 1; omega

theorem memN_iff : ∀ {l : List Nat} {s : Nat}, memN s l = true ↔ s ∈ l
 | [], s => by simp [memN]
 | x :: r, s => by
  simp only [memN]
  split
  · rename_i c; simp [c]
  · rename_i c
    rw [memN_iff]
    simp only [List.mem_cons]
    exact ⟨.inr, fun h => h.resolve_left fun e => c e.symm⟩
theorem reach_nodup (m : Heap) : ∀ (n : Nat) (todo acc : List Nat), acc.Nodup → (reach m n todo acc).Nodup
 | 0, _, acc, h => h
 | _ + 1, [], acc, h => h
 | n + 1, s :: r, acc, h => by
  simp only [reach]
  split
  · exact reach_nodup m n r acc h
  · rename_i c
    refine reach_nodup m n _ _ ?_
    rw [List.nodup_append]
    refine ⟨h, by simp, fun a ha b hb e => ?_⟩
    simp at hb
    subst hb e
    exact c (memN_iff.2 ha)
theorem reach_prefix (m : Heap) : ∀ (n : Nat) (todo acc : List Nat), acc <+: reach m n todo acc
 | 0, _, acc => List.prefix_refl _
 | _ + 1, [], acc => List.prefix_refl _
 | n + 1, s :: r, acc => by
  simp only [reach]
  split
  · exact reach_prefix m n r acc
  · exact (List.prefix_append acc [s]).trans (reach_prefix m n _ _)

theorem mapC_dead {sl : Slot} {f : C → C} (h : sl.mapC f = .dead) : sl = .dead := by cases sl <;> simp [Slot.mapC] at h ⊢
theorem mapC_like (sl : Slot) (f : C → C) : (sl.mapC f).like sl := by cases sl <;> simp [Slot.mapC, Slot.like]
theorem brGet_map (f : C → C) : ∀ (br : List (Nat × C)) (i : Nat), brGet (br.map fun x => (x.1, f x.2)) i = (brGet br i).map f
 | [], _ => rfl
 | (j, c) :: r, i => by
  simp only [List.map_cons, brGet]
  split
  · rfl
  · exact brGet_map f r i
theorem part_mapC (sl : Slot) (f : C → C) (i : Option Nat) : (sl.mapC f).part i = (sl.part i).map (Slot.mapC f) := by
 cases i with
 | none => rfl
 | some i =>
  cases sl with
  | rows z rs br =>
   simp only [Slot.mapC, Slot.part, brGet_map]
   cases brGet br i with
   | none => simp only [Option.map_none]; cases rs[i]? <;> rfl
   | some c => rfl
  | _ => rfl
theorem like_mapC (sl : Slot) (f : C → C) : sl.like (sl.mapC f) := by cases sl <;> simp [Slot.mapC, Slot.like]

section
variable {ρ : Nat → Option Nat} (fwd : ∀ s t, ρ s = some t → ∀ sl, m[s]? = some sl → m'[t]? = some (sl.mapC (C.ren ρ)) ∧ ∀ i : Option Nat, β' (t, i) = β (s, i)) (av : ∀ b, Avail F m β h b → Avail F' m' β' h b)
include fwd
theorem ren_ptr {s t i j : Nat} {v : Value} (e : ρ s = some t) (r : RepPtr m β s i j v) : RepPtr m' β' t i j v := by
 unfold RepPtr at r
 cases hs : m[s]? with
 | none => simp only [hs] at r
 | some sl =>
  simp only [hs] at r
  obtain ⟨h1, h2⟩ := fwd s t e sl hs
  unfold RepPtr
  rw [h1, h2 none]
  cases sl with
  | vals z xs => exact r
  | cells cs => exact r
  | rows z rs br => exact r
  | map es => exact r
  | dead => exact r
theorem ren_mp {s t : Nat} {v : Value} (e : ρ s = some t) (r : RepMp m β s v) : RepMp m' β' t v := by
 unfold RepMp at r
 cases hs : m[s]? with
 | none => simp only [hs] at r
 | some sl =>
  simp only [hs] at r
  obtain ⟨h1, h2⟩ := fwd s t e sl hs
  unfold RepMp
  rw [h1, h2 none]
  cases sl <;> exact r
theorem ren_own {s t i j : Nat} {v : Value} (e : ρ s = some t) (r : RepOwn h m β s i j v) : RepOwn h m' β' t i j v := by
 unfold RepOwn at r
 cases hs : m[s]? with
 | none => simp only [hs] at r
 | some sl =>
  simp only [hs] at r
  obtain ⟨h1, h2⟩ := fwd s t e sl hs
  unfold RepOwn
  rw [h1, h2 none]
  cases sl with
  | vals z xs => exact r
  | cells cs => exact r
  | rows z rs br => exact r
  | map es => exact r
  | dead => exact r
include av
theorem ren_caps : ∀ {caps : List Cap} {vs : List Value} {cs : List Cap}, All2 (RepCap h (Avail F m β h) m β) caps vs → renCaps ρ caps = some cs → All2 (RepCap h (Avail F' m' β' h) m' β') cs vs
 | [], _, cs, r, e => by cases r; simp only [renCaps] at e; cases e; exact .nil
 | .d x :: r, _, cs, k, e => by
  cases k with
  | cons h1 t =>
   simp only [renCaps] at e
   obtain ⟨cs', g, e⟩ := bind_some' e
   cases e
   exact .cons (RepD.mono (fun b hb => ⟨av b hb, rfl⟩) h1) (ren_caps t g)
 | .p s :: r, _, cs, k, e => by
  cases k with
  | cons h1 t =>
   simp only [renCaps] at e
   obtain ⟨q, hq, e⟩ := bind_some' e
   obtain ⟨cs', g, e⟩ := bind_some' e
   cases e
   exact .cons (ren_ptr fwd hq h1) (ren_caps t g)
theorem ren_rep {c : C} {v : Value} (r : RepC h (Avail F m β h) m β c v) : RepC h (Avail F' m' β' h) m' β' (c.ren ρ) v := by
 have ic := r.isCell
 cases c with
 | d x => exact RepD.mono (fun b hb => ⟨av b hb, rfl⟩) r
 | nil => exact r
 | own s i j =>
  simp only [C.ren]
  split
  · rename_i t e; exact ren_own fwd e r
  · exact ic
 | ptr s i j =>
  simp only [C.ren]
  split
  · rename_i t e; exact ren_ptr fwd e r
  · exact ic
 | mp s =>
  simp only [C.ren]
  split
  · rename_i t e; exact ren_mp fwd e r
  · exact ic
 | fn f caps =>
  obtain ⟨vs, rfl, r⟩ := r
  simp only [C.ren]
  split
  · rename_i cs e; exact ⟨vs, rfl, ren_caps fwd av r e⟩
  · exact ic
 | dead => exact r
theorem ren_slot {s t : Nat} {sl : Slot} (hb : ∀ i : Option Nat, β' (t, i) = β (s, i)) (r : SlotRel h (Avail F m β h) m β s sl) : SlotRel h (Avail F' m' β' h) m' β' t (sl.mapC (C.ren ρ)) := by
 have lies : ∀ (z : D) (xs : List D) (p : Option (Nat × Nat)), Lies h (Avail F m β h) z xs p → Lies h (Avail F' m' β' h) z xs p := by
  intro z xs p hl
  cases p with
  | none => exact hl
  | some p =>
   obtain ⟨b, o⟩ := p
   refine ⟨hl.1, fun i j d x hd hx => ?_⟩
   obtain ⟨v, hv, hr⟩ := hl.2 i j d x hd hx
   exact ⟨v, hv, hr.mono fun b hb => ⟨av b hb, rfl⟩⟩
 cases sl with
 | vals z xs =>
  obtain ⟨h1, h2, h3⟩ := r
  refine ⟨h1, h2, ?_⟩
  rw [hb none]
  exact lies _ _ _ h3
 | cells cs =>
  obtain ⟨b, o, e1, h1, h2⟩ := r
  refine ⟨b, o, (hb none).trans e1, h1, fun j c hc => ?_⟩
  rw [List.getElem?_map] at hc
  obtain ⟨c', g1, rfl⟩ := Option.map_eq_some_iff.1 hc
  obtain ⟨v, hv, hr⟩ := h2 j c' g1
  exact ⟨v, hv, ren_rep fwd av hr⟩
 | rows z rs br =>
  obtain ⟨h0, h00, b, o, e1, h1, h2⟩ := r
  refine ⟨h0, h00, b, o, (hb none).trans e1, h1, fun i r hr => ?_⟩
  obtain ⟨v, hv, hh⟩ := h2 i r hr
  refine ⟨v, hv, ?_⟩
  rw [brGet_map]
  cases hg : brGet br i with
  | some c => simp only [hg] at hh; exact ren_rep fwd av hh
  | none => simp only [hg] at hh; simp only [Option.map_none]; rw [hb (some i)]; exact ⟨lies _ _ _ hh.1, hh.2⟩
 | map es =>
  obtain ⟨b, o, e1, ents, cl, h1, h2⟩ := r
  exact ⟨b, o, (hb none).trans e1, ents, cl, h1, h2.mono fun b hb => ⟨av b hb, rfl⟩⟩
 | dead => trivial
end

/-! ### The slots that are led to -/
def selβ (ids : List Nat) (β : Place) : Place := fun k => match ids[k.1]? with | some s => β (s, k.2) | none => none

theorem sel_get {ids : List Nat} {m : Heap} {t : Nat} {sl : Slot} (e : (sel ids m)[t]? = some sl) : ∃ s, ids[t]? = some s ∧ sl = (m.getD s .dead).mapC (C.ren fun t => find t ids 0) := by
 unfold sel at e
 rw [List.getElem?_map] at e
 obtain ⟨s, h1, h2⟩ := Option.map_eq_some_iff.1 e
 exact ⟨s, h1, h2.symm⟩
theorem getD_some {m : Heap} {s : Nat} {sl : Slot} (e : m[s]? = some sl) : m.getD s .dead = sl := by simp [List.getD_eq_getElem?_getD, e]
theorem getD_live {m : Heap} {s : Nat} (e : m.getD s .dead ≠ .dead) : m[s]? = some (m.getD s .dead) := by
 rw [List.getD_eq_getElem?_getD] at e ⊢
 cases hs : m[s]? with
 | none => rw [hs] at e; exact absurd rfl e
 | some x => rfl

theorem sel_fwd {ids : List Nat} : ∀ s t, find s ids 0 = some t → ∀ sl, m[s]? = some sl → (sel ids m)[t]? = some (sl.mapC (C.ren fun t => find t ids 0)) ∧ ∀ i : Option Nat, selβ ids β (t, i) = β (s, i) := by
 intro s t e sl hs
 have h1 := (find_some e).2
 rw [Nat.sub_zero] at h1
 refine ⟨?_, fun i => by simp only [selβ, h1]⟩
 unfold sel
 rw [List.getElem?_map, h1, Option.map_some, getD_some hs]
theorem sel_back {ids : List Nat} {k : Key} {x' : Slot} (e : live (sel ids m) k = some x') (hd : x' ≠ .dead) :
 ∃ s x, ids[k.1]? = some s ∧ live m (s, k.2) = some x ∧ x ≠ .dead ∧ selβ ids β k = β (s, k.2) := by
 obtain ⟨s0, e1, e2⟩ := Option.bind_eq_some_iff.1 e
 obtain ⟨s, h1, h2⟩ := sel_get e1
 have hn := part_ne e2 hd
 have : m.getD s .dead ≠ .dead := fun c => hn (by rw [h2, c]; rfl)
 rw [h2, part_mapC] at e2
 obtain ⟨x, g1, g2⟩ := Option.map_eq_some_iff.1 e2
 exact ⟨s, x, h1, (live_of (getD_live this) k.2).trans g1, fun c => hd (by rw [← g2, c]; rfl), by simp only [selβ, h1]⟩
theorem sel_owned {ids : List Nat} {b : Nat} (e : Owned (sel ids m) (selβ ids β) b) : ∃ (k : Key) (sl : Slot) (o : Nat), k.1 ∈ ids ∧ live m k = some sl ∧ sl ≠ .dead ∧ β k = some (b, o) := by
 obtain ⟨t, sl', o, h1, h2, h3⟩ := e
 obtain ⟨s, sl, g1, g2, g3, g5⟩ := sel_back (β := β) h1 h2
 exact ⟨(s, t.2), sl, o, List.mem_of_getElem? g1, g2, g3, g5 ▸ h3⟩
theorem sel_owned' {ids : List Nat} {b : Nat} (e : Owned (sel ids m) (selβ ids β) b) : Owned m β b := by
 obtain ⟨s, sl, o, _, h1, h2, h3⟩ := sel_owned e
 exact ⟨s, sl, o, h1, h2, h3⟩

/-- Memory without the slots that nothing leads to, or with them foreign. -/
theorem sel_ok {ids : List Nat} (hn : ids.Nodup) (hm : MemOK F m β h) (av : ∀ b, Avail F m β h b → Avail F' (sel ids m) (selβ ids β) h b) (nf : ∀ b, Owned (sel ids m) (selβ ids β) b → ¬ F' b) (fl : ∀ b, F' b → b < h.size) :
 MemOK F' (sel ids m) (selβ ids β) h where
 slots := fun t sl' e => by
  obtain ⟨s, h1, h2⟩ := sel_get e
  subst h2
  by_cases c : m.getD s .dead = .dead
  · rw [c]; trivial
  · exact ren_slot sel_fwd av (fun i => by simp only [selβ, h1]) (hm.slots s _ (getD_live c))
 injK := fun t1 t2 sl1 sl2 b o o' h1 h2 h3 h4 h5 h6 => by
  obtain ⟨s1, x1, g1, g2, g3, g5⟩ := sel_back (β := β) h1 h2
  obtain ⟨s2, x2, k1, k2, k3, k5⟩ := sel_back (β := β) h3 h4
  have e := hm.injK (s1, t1.2) (s2, t2.2) x1 x2 b o o' g2 g3 k2 k3 (g5 ▸ h5) (k5 ▸ h6)
  obtain ⟨e1, e2⟩ := Prod.mk.inj e
  subst e1
  have a1 := find_nodup (i := 0) hn g1
  have a2 := find_nodup (i := 0) hn k1
  rw [a1] at a2
  have a3 : t1.1 = t2.1 := by simpa using a2
  exact Prod.ext a3 e2
 nf := nf
 fl := fl
theorem sel_av {ids : List Nat} (b : Nat) (hb : Avail F m β h b) : Avail F (sel ids m) (selβ ids β) h b := ⟨hb.1, hb.2.1, fun e => hb.2.2 (sel_owned' e)⟩

theorem range_prefix_get {n s : Nat} {ids : List Nat} (hp : List.range n <+: ids) (hs : s < n) : ids[s]? = some s := by
 obtain ⟨r, rfl⟩ := hp
 rw [List.getElem?_append_left (by simpa using hs)]
 simp [hs]
/-- The state is cleaned: from the beginning on, all is as before. -/
theorem sel_evo {ids : List Nat} {m0 : Heap} {β0 : Place} {w0 w : World} (hp : List.range m0.length <+: ids) (E : Evo F m0 β0 w0 m β w) : Evo F m0 β0 w0 (sel ids m) (selβ ids β) w where
 os := E.os
 tape := E.tape
 output := E.output
 size := E.size
 av := fun b hb => ⟨sel_av b (E.av b hb).1, (E.av b hb).2⟩
 fo := E.fo
 own := fun b hb => E.own b (sel_owned' hb)
 evo := fun s sl hs => by
  obtain ⟨sl', h1, h2⟩ := E.evo s sl hs
  have g := range_prefix_get hp (slot_lt hs)
  refine ⟨sl'.mapC (C.ren fun t => find t ids 0), ?_, ?_⟩
  · unfold sel
    rw [List.getElem?_map, g, Option.map_some, getD_some h1]
  · rcases h2 with rfl | ⟨h2, h3, h4⟩
    · exact .inl rfl
    · refine .inr ⟨(mapC_like _ _).trans h2, by simp only [selβ, g]; exact h3, h4⟩

/-! ### A call: the callee has some slots, the others wait -/
theorem allLt_iff : ∀ {l : List Nat} {n : Nat}, allLt l n = true → ∀ x ∈ l, x < n
 | [], _, _, x, hx => by simp at hx
 | y :: r, n, h, x, hx => by
  simp only [allLt] at h
  split at h
  · rcases List.mem_cons.1 hx with rfl | hx
    · assumption
    · exact allLt_iff h x hx
  · cases h

/-- The blocks that wait. -/
def waits (ids : List Nat) (m : Heap) (β : Place) (F : Nat → Prop) (b : Nat) : Prop := F b ∨ (Owned m β b ∧ ¬ Owned (sel ids m) (selβ ids β) b)

theorem wait_av {ids : List Nat} (b : Nat) : Avail (waits ids m β F) (sel ids m) (selβ ids β) h b ↔ Avail F m β h b := by
 constructor
 · rintro ⟨h1, h2, h3⟩
   exact ⟨h1, fun c => h2 (.inl c), fun c => h2 (.inr ⟨c, h3⟩)⟩
 · rintro ⟨h1, h2, h3⟩
   refine ⟨h1, fun c => ?_, fun c => h3 (sel_owned' c)⟩
   rcases c with c | c
   · exact h2 c
   · exact h3 c.1
theorem wait_ok {ids : List Nat} (hn : ids.Nodup) (hm : MemOK F m β h) : MemOK (waits ids m β F) (sel ids m) (selβ ids β) h :=
 sel_ok hn hm (fun b hb => (wait_av b).2 hb) (fun b hb c => by
  rcases c with c | c
  · exact hm.nf b (sel_owned' hb) c
  · exact c.2 hb) fun b hb => by
  rcases hb with hb | hb
  · exact hm.fl b hb
  · exact hm.owned hb.1
/-- A slot that is not handed on: its block waits. -/
theorem waits_of {ids : List Nat} (hm : MemOK F m β h) {k : Key} {sl : Slot} {b o : Nat} (hs : live m k = some sl) (hd : sl ≠ .dead) (hb : β k = some (b, o)) (hi : k.1 ∉ ids) : waits ids m β F b := by
 refine .inr ⟨⟨k, sl, o, hs, hd, hb⟩, fun c => ?_⟩
 obtain ⟨t, sl', o', h1, h2, h3, h4⟩ := sel_owned c
 have := hm.injK k t sl sl' b o o' hs hd h2 h3 hb h4
 subst this
 exact hi h1

theorem wback_len : ∀ (ids : List Nat) (m' m : Heap), ids.length ≤ m'.length → (wback ids m' m).length = m.length + (m'.length - ids.length)
 | [], m', m, _ => by simp [wback]
 | s :: ids, [], m, h => by simp at h
 | s :: ids, sl :: m', m, h => by
  simp only [wback, List.length_cons] at h ⊢
  rw [wback_len ids m' (m.set s sl) (by omega), List.length_set]
  omega
theorem wback_get : ∀ (ids : List Nat) (m' m : Heap) (s : Nat), ids.Nodup → (∀ x ∈ ids, x < m.length) → ids.length ≤ m'.length →
 (wback ids m' m)[s]? = if s < m.length then (match find s ids 0 with | some t => m'[t]? | none => m[s]?) else m'[ids.length + (s - m.length)]?
 | [], m', m, s, _, _, _ => by
  simp only [wback, find, List.length_nil, Nat.zero_add]
  split
  · rename_i c; rw [List.getElem?_append_left c]
  · rename_i c; rw [List.getElem?_append_right (by omega)]
 | x :: ids, [], m, s, _, _, h => by simp at h
 | x :: ids, sl :: m', m, s, hn, hl, h => by
  have hx := hl x (by simp)
  have hn' := List.nodup_cons.1 hn
  simp only [wback, List.length_cons] at h ⊢
  rw [wback_get ids m' (m.set x sl) s hn'.2 (fun y hy => by rw [List.length_set]; exact hl y (by simp [hy])) (by omega)]
  rw [List.length_set]
  split
  · rename_i c
    by_cases e : x = s
    · subst e
      have : find x ids 0 = none := by
       cases hf : find x ids 0 with
       | none => rfl
       | some t => exact absurd (List.mem_of_getElem? (by have := (find_some hf).2; simpa using this)) hn'.1
      simp only [find, if_true, this]
      simp [hx]
    · have sh : ∀ (l : List Nat) (i : Nat), find s l (i + 1) = (find s l i).map (· + 1) := by
       intro l
       induction l with
       | nil => intro i; rfl
       | cons y r ih =>
        intro i
        simp only [find]
        split
        · rfl
        · exact ih (i + 1)
      simp only [find, if_neg e]
      rw [sh ids 0]
      cases find s ids 0 with
      | none => simp only [Option.map_none]; rw [List.getElem?_set_ne e]
      | some t => simp
  · rename_i c
    have : ids.length + 1 + (s - m.length) = ids.length + (s - m.length) + 1 := by omega
    rw [this, List.getElem?_cons_succ]

def mergeβ (ids : List Nat) (n : Nat) (β β1 : Place) : Place := fun k => if k.1 < n then (match find k.1 ids 0 with | some t => β1 (t, k.2) | none => β k) else β1 (ids.length + (k.1 - n), k.2)

theorem merge {ids : List Nat} {m1 : Heap} {β1 : Place} {w w1 : World} {v : V} {u : Value} (hn : ids.Nodup) (hl : ∀ x ∈ ids, x < m.length) (hm : MemOK F m β w.heap) (hm1 : MemOK (waits ids m β F) m1 β1 w1.heap)
 (E : Evo (waits ids m β F) (sel ids m) (selβ ids β) w m1 β1 w1) (r : RepV w1.heap (Avail (waits ids m β F) m1 β1 w1.heap) m1 β1 v u) :
 MemOK F (wback ids (m1.map (Slot.mapC (C.ren fun t => some (back ids m.length t)))) m) (mergeβ ids m.length β β1) w1.heap ∧
 Evo F m β w (wback ids (m1.map (Slot.mapC (C.ren fun t => some (back ids m.length t)))) m) (mergeβ ids m.length β β1) w1 ∧
 RepV w1.heap (Avail F (wback ids (m1.map (Slot.mapC (C.ren fun t => some (back ids m.length t)))) m) (mergeβ ids m.length β β1) w1.heap)
  (wback ids (m1.map (Slot.mapC (C.ren fun t => some (back ids m.length t)))) m) (mergeβ ids m.length β β1) (v.mapC (C.ren fun t => some (back ids m.length t))) u := by
 obtain ⟨f, hf⟩ : ∃ f, f = C.ren fun t => some (back ids m.length t) := ⟨_, rfl⟩
 obtain ⟨M, hM⟩ : ∃ M, M = wback ids (m1.map (Slot.mapC f)) m := ⟨_, rfl⟩
 obtain ⟨B, hB⟩ : ∃ B, B = mergeβ ids m.length β β1 := ⟨_, rfl⟩
 rw [← hf, ← hM, ← hB]
 have slen : (sel ids m).length = ids.length := by simp [sel]
 have len1 : ids.length ≤ m1.length := by
  rcases Nat.lt_or_ge m1.length ids.length with c | c
  · have hg : (sel ids m)[m1.length]? = some ((sel ids m)[m1.length]'(by omega)) := List.getElem?_eq_getElem _
    obtain ⟨sl', h1, _⟩ := E.evo _ _ hg
    simp at h1
  · exact c
 have get : ∀ s, M[s]? = if s < m.length then (match find s ids 0 with | some t => (m1[t]?).map (Slot.mapC f) | none => m[s]?) else (m1[ids.length + (s - m.length)]?).map (Slot.mapC f) := by
  intro s
  rw [hM, wback_get ids _ _ s hn hl (by simpa using len1)]
  simp only [List.getElem?_map]
 -- from the callee's slots on
 have fwd : ∀ t s, (fun t => some (back ids m.length t)) t = some s → ∀ sl, m1[t]? = some sl → M[s]? = some (sl.mapC f) ∧ ∀ i : Option Nat, B (s, i) = β1 (t, i) := by
  intro t s e sl ht
  simp only [Option.some.injEq] at e
  subst e
  rw [get, hB]
  unfold back mergeβ
  by_cases c : t < ids.length
  · have hg : ids[t]? = some ids[t] := List.getElem?_eq_getElem c
    have hlt := hl _ (List.getElem_mem c)
    have hfd := find_nodup (i := 0) hn hg
    rw [Nat.zero_add] at hfd
    have : ids.getD t 0 = ids[t] := by simp [List.getD_eq_getElem?_getD, hg]
    rw [if_pos c, this, if_pos hlt]
    simp only [if_pos hlt, hfd, ht, Option.map_some, true_and, implies_true]
  · rw [if_neg c, if_neg (by omega)]
    have : ids.length + (m.length + (t - ids.length) - m.length) = t := by omega
    refine ⟨by rw [this, ht]; rfl, fun i => ?_⟩
    simp only []
    rw [if_neg (by omega), this]
 -- whose a slot is
 have whose : ∀ (s : Nat) (sl : Slot), M[s]? = some sl → sl ≠ .dead → (∃ t sl1, m1[t]? = some sl1 ∧ sl1 ≠ .dead ∧ sl = sl1.mapC f ∧ (∀ i : Option Nat, B (s, i) = β1 (t, i)) ∧ s = back ids m.length t) ∨ (s ∉ ids ∧ m[s]? = some sl ∧ ∀ i : Option Nat, B (s, i) = β (s, i)) := by
  intro s sl hs hd
  rw [get] at hs
  split at hs
  · rename_i c
    cases hfd : find s ids 0 with
    | some t =>
     rw [hfd] at hs
     simp only [] at hs
     obtain ⟨sl1, g1, g2⟩ := Option.map_eq_some_iff.1 hs
     subst g2
     have hg := (find_some hfd).2
     rw [Nat.sub_zero] at hg
     have ht : t < ids.length := (List.getElem?_eq_some_iff.1 hg).1
     refine .inl ⟨t, sl1, g1, fun e => hd (by rw [e]; rfl), rfl, ?_, ?_⟩
     · intro i; rw [hB]; unfold mergeβ; simp only [if_pos c, hfd]
     · unfold back; rw [if_pos ht]; simp [List.getD_eq_getElem?_getD, hg]
    | none =>
     rw [hfd] at hs
     exact .inr ⟨find_none hfd, hs, fun i => by rw [hB]; unfold mergeβ; simp only [if_pos c, hfd]⟩
  · rename_i c
    obtain ⟨sl1, g1, g2⟩ := Option.map_eq_some_iff.1 hs
    subst g2
    refine .inl ⟨_, sl1, g1, fun e => hd (by rw [e]; rfl), rfl, ?_, ?_⟩
    · intro i; rw [hB]; unfold mergeβ; simp only [if_neg c]
    · unfold back; rw [if_neg (by omega)]; omega
 have whoseK : ∀ (k : Key) (x : Slot), live M k = some x → x ≠ .dead → (∃ t x1, live m1 (t, k.2) = some x1 ∧ x1 ≠ .dead ∧ B k = β1 (t, k.2) ∧ k.1 = back ids m.length t) ∨ (k.1 ∉ ids ∧ live m k = some x ∧ B k = β k) := by
  intro k x hk hx
  obtain ⟨s0, e1, e2⟩ := Option.bind_eq_some_iff.1 hk
  rcases whose k.1 s0 e1 (part_ne e2 hx) with ⟨t, sl1, g1, g2, g3, g4, g5⟩ | ⟨g1, g2, g3⟩
  · rw [g3, part_mapC] at e2
    obtain ⟨x1, j1, j2⟩ := Option.map_eq_some_iff.1 e2
    exact .inl ⟨t, x1, (live_of g1 k.2).trans j1, fun c => hx (by rw [← j2, c]; rfl), g4 k.2, g5⟩
  · exact .inr ⟨g1, (live_of g2 k.2).trans e2, g3 k.2⟩
 have ownedM : ∀ b, Owned M B b → Owned m1 β1 b ∨ (waits ids m β F b ∧ Owned m β b) := by
  rintro b ⟨s, sl, o, h1, h2, h3⟩
  rcases whoseK s sl h1 h2 with ⟨t, sl1, g1, g2, g4, g5⟩ | ⟨g1, g2, g3⟩
  · exact .inl ⟨(t, s.2), sl1, o, g1, g2, g4 ▸ h3⟩
  · exact .inr ⟨waits_of hm g2 h2 (g3 ▸ h3) g1, ⟨s, sl, o, g2, h2, g3 ▸ h3⟩⟩
 have av : ∀ b, Avail (waits ids m β F) m1 β1 w1.heap b → Avail F M B w1.heap b := by
  rintro b ⟨h1, h2, h3⟩
  refine ⟨h1, fun c => h2 (.inl c), fun c => ?_⟩
  rcases ownedM b c with c | c
  · exact h3 c
  · exact h2 c.1
 have same : ∀ b, waits ids m β F b → w1.heap[b]? = w.heap[b]? := fun b hb => E.fo b (by
  rcases hb with hb | hb
  · exact hm.fl b hb
  · exact hm.owned hb.1) hb
 have EM : Evo F m β w M B w1 := by
  refine ⟨E.os, E.tape, E.output, E.size, fun b hb => ?_, fun b h1 h2 => E.fo b h1 (.inl h2), fun b hb => ?_, fun s sl hs => ?_⟩
  · obtain ⟨g1, g2⟩ := E.av b ((wait_av b).2 hb)
    exact ⟨av b g1, g2⟩
  · rcases ownedM b hb with c | c
    · rcases E.own b c with c | c
      · exact .inl (sel_owned' c)
      · exact .inr c
    · exact .inl c.2
  · have hlt := slot_lt hs
    rw [get, if_pos hlt]
    cases hfd : find s ids 0 with
    | some t =>
     have hg := (find_some hfd).2
     rw [Nat.sub_zero] at hg
     obtain ⟨k1, k2⟩ := sel_fwd (β := β) s t hfd sl hs
     obtain ⟨sl1, g1, g2⟩ := E.evo t _ k1
     refine ⟨sl1.mapC f, by simp only [g1, Option.map_some], ?_⟩
     rcases g2 with rfl | ⟨g2, g3, g4⟩
     · exact .inl rfl
     · refine .inr ⟨((mapC_like _ _).trans g2).trans (mapC_like _ _), ?_, fun b o hb => g4 b o ((k2 none).trans hb)⟩
       rw [hB]; unfold mergeβ; simp only [if_pos hlt, hfd]
       exact g3.trans (k2 none)
    | none =>
     refine ⟨sl, hs, ?_⟩
     by_cases hd : sl = .dead
     · exact .inl hd
     · refine .inr ⟨Slot.like.refl _, by rw [hB]; unfold mergeβ; simp only [if_pos hlt, hfd], fun b o hb => ?_⟩
       exact blkSize_congr (same b (waits_of hm (live_s.trans hs) hd hb (find_none hfd)))
 have fwd' : ∀ t s, (fun t => some (back ids m.length t)) t = some s → ∀ sl, m1[t]? = some sl → M[s]? = some (sl.mapC (C.ren fun t => some (back ids m.length t))) ∧ ∀ i : Option Nat, B (s, i) = β1 (t, i) := by rw [← hf]; exact fwd
 refine ⟨⟨fun s sl hs => ?_, fun s1 s2 x1 x2 b o o' h1 h2 h3 h4 h5 h6 => ?_, fun b hb => ?_, fun b hb => Nat.lt_of_lt_of_le (hm.fl b hb) E.size⟩, EM, RepV.map (fun c v hc => by rw [hf]; exact ren_rep fwd' av hc) r⟩
 · by_cases hd : sl = .dead
   · subst hd; trivial
   · rcases whose s sl hs hd with ⟨t, sl1, g1, g2, g3, g4, g5⟩ | ⟨g1, g2, g3⟩
     · rw [g3, hf]; exact ren_slot fwd' av g4 (hm1.slots t sl1 g1)
     · refine SlotRel.evo EM g3 (fun i x b o hx hb => same b (waits_of hm (k := (s, i)) ((live_of g2 i).trans hx) (part_live hd hx) hb g1)) (hm.slots s sl g2)
 · rcases whoseK s1 x1 h1 h2 with ⟨t1, y1, a1, a2, a4, a5⟩ | ⟨a1, a2, a3⟩ <;> rcases whoseK s2 x2 h3 h4 with ⟨t2, y2, c1, c2, c4, c5⟩ | ⟨c1, c2, c3⟩
   · have := hm1.injK (t1, s1.2) (t2, s2.2) y1 y2 b o o' a1 a2 c1 c2 (a4 ▸ h5) (c4 ▸ h6)
     obtain ⟨e1, e2⟩ := Prod.mk.inj this
     exact Prod.ext (by rw [a5, c5, e1]) e2
   · exact absurd (waits_of hm c2 h4 (c3 ▸ h6) c1) (hm1.nf b ⟨(t1, s1.2), y1, o, a1, a2, a4 ▸ h5⟩)
   · exact absurd (waits_of hm a2 h2 (a3 ▸ h5) a1) (hm1.nf b ⟨(t2, s2.2), y2, o', c1, c2, c4 ▸ h6⟩)
   · exact hm.injK s1 s2 x1 x2 b o o' a2 h2 c2 h4 (a3 ▸ h5) (c3 ▸ h6)
 · intro hf'
   rcases ownedM b hb with c | c
   · exact hm1.nf b c (.inl hf')
   · exact hm.nf b c.2 hf'
end

section
/-! ## Steps of the abstract state alone -/
variable {F : Nat → Prop} {β : Place} {w : World} {m : Heap}

theorem get_dead {m : Heap} {s t : Nat} {sl : Slot} (h1 : (m.set s Slot.dead)[t]? = some sl) (h2 : sl ≠ .dead) : m[t]? = some sl ∧ t ≠ s := by
 rw [List.getElem?_set] at h1
 split at h1
 · split at h1
   · cases h1; exact absurd rfl h2
   · cases h1
 · rename_i c; exact ⟨h1, fun e => c e.symm⟩

/-- A slot's data takes the place of its handles. -/
theorem live_sub {s : Nat} {f : C → C} {k : Key} {x : Slot} (h : live ((m.map (Slot.mapC f)).set s Slot.dead) k = some x) (hx : x ≠ .dead) : ∃ x0, live m k = some x0 ∧ x0 ≠ .dead ∧ x = x0.mapC f ∧ k.1 ≠ s := by
 obtain ⟨h1, h2⟩ := live_kill h hx
 obtain ⟨s0, e1, e2⟩ := Option.bind_eq_some_iff.1 h1
 rw [List.getElem?_map] at e1
 obtain ⟨s1, g1, rfl⟩ := Option.map_eq_some_iff.1 e1
 rw [part_mapC] at e2
 obtain ⟨x0, g2, g3⟩ := Option.map_eq_some_iff.1 e2
 exact ⟨x0, (live_of g1 k.2).trans g2, fun c => hx (by rw [← g3, c]; rfl), g3.symm, h2⟩
theorem sub_mem {s : Nat} {f : C → C} (hm : MemOK F m β w.heap) (hs : s < m.length)
 (H : ∀ c v, RepC w.heap (Avail F m β w.heap) m β c v → RepC w.heap (Avail F ((m.map (Slot.mapC f)).set s .dead) β w.heap) ((m.map (Slot.mapC f)).set s .dead) β (f c) v) :
 MemOK F ((m.map (Slot.mapC f)).set s .dead) β w.heap ∧ Evo F m β w ((m.map (Slot.mapC f)).set s .dead) β w := by
 have own : ∀ b, Owned ((m.map (Slot.mapC f)).set s .dead) β b → Owned m β b := by
  rintro b ⟨t, sl, o, h1, h2, h3⟩
  obtain ⟨sl0, g1, g2, _⟩ := live_sub h1 h2
  exact ⟨t, sl0, o, g1, g2, h3⟩
 have E : Evo F m β w ((m.map (Slot.mapC f)).set s .dead) β w := by
  refine ⟨rfl, rfl, rfl, Nat.le_refl _, fun b hb => ⟨⟨hb.1, hb.2.1, fun h => hb.2.2 (own b h)⟩, rfl⟩, fun _ _ _ => rfl, fun b hb => .inl (own b hb), fun t sl ht => ?_⟩
  by_cases c : s = t
  · subst c
    exact ⟨.dead, by rw [List.getElem?_set_self (by simpa using hs)], .inl rfl⟩
  · refine ⟨sl.mapC f, by rw [List.getElem?_set_ne c, List.getElem?_map, ht]; rfl, ?_⟩
    by_cases hd : sl = .dead
    · subst hd; exact .inl rfl
    · exact .inr ⟨mapC_like _ _, rfl, fun _ _ _ => rfl⟩
 refine ⟨⟨fun t sl ht => ?_, fun s1 s2 x1 x2 b o o' h1 h2 h3 h4 h5 h6 => ?_, fun b hb => hm.nf b (own b hb), hm.fl⟩, E⟩
 · by_cases hd : sl = .dead
   · subst hd; trivial
   · obtain ⟨g0, g0'⟩ := get_dead ht hd
     rw [List.getElem?_map] at g0
     obtain ⟨sl0, g1, rfl⟩ := Option.map_eq_some_iff.1 g0
     have r := hm.slots t sl0 g1
     cases sl0 with
     | vals z xs => exact SlotRel.evo E (sl := .vals z xs) (fun _ => rfl) (fun _ _ _ _ _ _ => rfl) r
     | cells cs =>
      obtain ⟨b, o, e1, h1, h2⟩ := r
      refine ⟨b, o, e1, h1, fun j c hc => ?_⟩
      rw [List.getElem?_map] at hc
      obtain ⟨c', k1, rfl⟩ := Option.map_eq_some_iff.1 hc
      obtain ⟨v, hv, hr⟩ := h2 j c' k1
      exact ⟨v, hv, H _ _ hr⟩
     | rows z rs br =>
      obtain ⟨h0, h00, b, o, e1, h1, h2⟩ := r
      refine ⟨h0, h00, b, o, e1, h1, fun i r hr => ?_⟩
      obtain ⟨v, hv, hh⟩ := h2 i r hr
      refine ⟨v, hv, ?_⟩
      rw [brGet_map]
      cases hg : brGet br i with
      | some c => simp only [hg] at hh; exact H _ _ hh
      | none => simp only [hg] at hh; exact ⟨hh.1.evo E fun _ _ _ => rfl, hh.2⟩
     | map es => exact SlotRel.evo E (sl := .map es) (fun _ => rfl) (fun _ _ _ _ _ _ => rfl) r
     | dead => trivial
 · obtain ⟨y1, g1, g2, _⟩ := live_sub h1 h2
   obtain ⟨y2, k1, k2, _⟩ := live_sub h3 h4
   exact hm.injK s1 s2 y1 y2 b o o' g1 g2 k1 k2 h5 h6

theorem sub_ptr {s t i j : Nat} {f : C → C} {v : Value} (ht : t ≠ s) (r : RepPtr m β t i j v) : RepPtr ((m.map (Slot.mapC f)).set s .dead) β t i j v := by
 unfold RepPtr at r ⊢
 rw [List.getElem?_set_ne (fun e => ht e.symm), List.getElem?_map]
 cases hs : m[t]? with
 | none => simp only [hs] at r
 | some sl => cases sl <;> simp only [hs, Option.map_some, Slot.mapC] at r ⊢ <;> exact r
theorem sub_own {h : Array Obj} {s t i j : Nat} {f : C → C} {v : Value} (ht : t ≠ s) (r : RepOwn h m β t i j v) : RepOwn h ((m.map (Slot.mapC f)).set s .dead) β t i j v := by
 unfold RepOwn at r ⊢
 rw [List.getElem?_set_ne (fun e => ht e.symm), List.getElem?_map]
 cases hs : m[t]? with
 | none => simp only [hs] at r
 | some sl => cases sl <;> simp only [hs, Option.map_some, Slot.mapC] at r ⊢ <;> exact r
theorem sub_mp {s t : Nat} {f : C → C} {v : Value} (ht : t ≠ s) (r : RepMp m β t v) : RepMp ((m.map (Slot.mapC f)).set s .dead) β t v := by
 unfold RepMp at r ⊢
 rw [List.getElem?_set_ne (fun e => ht e.symm), List.getElem?_map]
 cases hs : m[t]? with
 | none => simp only [hs] at r
 | some sl => cases sl <;> simp only [hs, Option.map_some, Slot.mapC] at r ⊢ <;> exact r
theorem sub_av {s : Nat} {f : C → C} {h : Array Obj} (b : Nat) (hb : Avail F (m.set s .dead) β h b) : Avail F ((m.map (Slot.mapC f)).set s .dead) β h b := by
 refine ⟨hb.1, hb.2.1, fun ⟨t, sl, o, h1, h2, h3⟩ => hb.2.2 ?_⟩
 obtain ⟨sl0, g1, g2, _, g3⟩ := live_sub h1 h2
 exact ⟨t, sl0, o, by unfold live; rw [List.getElem?_set_ne (fun e => g3 e.symm)]; exact g1, g2, h3⟩

theorem sub_caps {s : Nat} {f : C → C} {cap : Cap} (hcap : ∀ v, RepPtr m β s 0 0 v → RepCap w.heap (Avail F ((m.map (Slot.mapC f)).set s .dead) β w.heap) ((m.map (Slot.mapC f)).set s .dead) β cap v)
 {caps : List Cap} {vs : List Value} (r : All2 (RepCap w.heap (Avail F m β w.heap) m β) caps vs) :
 All2 (RepCap w.heap (Avail F ((m.map (Slot.mapC f)).set s .dead) β w.heap) ((m.map (Slot.mapC f)).set s .dead) β) (caps.map fun c => match c with | .p s' => if s' = s then cap else .p s' | .d x => .d x) vs := by
 have av : ∀ b, Avail F m β w.heap b → Avail F ((m.map (Slot.mapC f)).set s .dead) β w.heap b := fun b hb => sub_av b (((evo_kill (F := F) (β := β) (m := m) (s := s) w).av b hb).1)
 refine r.map fun c v hc => ?_
 cases c with
 | d x => exact RepD.mono (fun b hb => ⟨av b hb, rfl⟩) hc
 | p s' =>
  simp only []
  split
  · rename_i e; subst e; exact hcap v hc
  · rename_i e; exact sub_ptr e hc

theorem frz_ok {s : Nat} {σ σ' : St} {a : Act} (hm : MemOK F σ.mem β w.heap) (k : EnvOK w.heap (Avail F σ.mem β w.heap) σ.mem β σ.env a) (h : frzS s σ = some σ') :
 MemOK F σ'.mem β w.heap ∧ Evo F σ.mem β w σ'.mem β w ∧ EnvOK w.heap (Avail F σ'.mem β w.heap) σ'.mem β σ'.env a := by
 have fin : ∀ (f : C → C), (∀ c v, RepC w.heap (Avail F σ.mem β w.heap) σ.mem β c v → RepC w.heap (Avail F ((σ.mem.map (Slot.mapC f)).set s .dead) β w.heap) ((σ.mem.map (Slot.mapC f)).set s .dead) β (f c) v) → s < σ.mem.length →
  σ' = ⟨σ.env.map fun x => (x.1, x.2.mapC f), (σ.mem.map (Slot.mapC f)).set s .dead⟩ →
  MemOK F σ'.mem β w.heap ∧ Evo F σ.mem β w σ'.mem β w ∧ EnvOK w.heap (Avail F σ'.mem β w.heap) σ'.mem β σ'.env a := by
  intro f H hs e
  subst e
  obtain ⟨h1, h2⟩ := sub_mem hm hs H
  refine ⟨h1, h2, fun t => ?_⟩
  simp only []
  rw [Env.get_map (V.mapC f) rfl]
  exact RepV.map H (k t)
 unfold frzS at h
 split at h
 · rename_i z xs hs
   cases h
   refine fin _ (fun c v r => ?_) (slot_lt hs) rfl
   have av : ∀ b, Avail F σ.mem β w.heap b → Avail F ((σ.mem.map (Slot.mapC (C.sub s (fun off len => .d (.list ((xs.drop off).take len))) (fun _ _ => .dead) (.p s)))).set s .dead) β w.heap b :=
    fun b hb => sub_av b (((evo_kill (F := F) (β := β) (m := σ.mem) (s := s) w).av b hb).1)
   cases c with
   | d x => exact RepD.mono (fun b hb => ⟨av b hb, rfl⟩) r
   | nil => exact r
   | own t i j =>
    simp only [C.sub]
    split
    · rename_i e
      subst e
      exact RepD.mono (fun b hb => ⟨sub_av b hb, rfl⟩) (own_data hm hs r)
    · rename_i e; exact sub_own e r
   | ptr t i j =>
    simp only [C.sub]
    split
    · exact RepPtr.isCell r
    · rename_i e; exact sub_ptr e r
   | mp t =>
    simp only [C.sub]
    split
    · exact RepMp.isCell r
    · rename_i e; exact sub_mp e r
   | fn g caps =>
    obtain ⟨vs, rfl, r⟩ := r
    refine ⟨vs, rfl, sub_caps (fun v hv => ?_) r⟩
    show RepPtr _ _ _ _ _ _
    unfold RepPtr
    rw [List.getElem?_set_self (by simpa using slot_lt hs)]
    exact RepPtr.ptr hv
   | dead => exact r
 · rename_i cs hs
   obtain ⟨ds, hds, h⟩ := bind_some' h
   cases h
   refine fin _ (fun c v r => ?_) (slot_lt hs) rfl
   obtain ⟨b, o, e1, hp, hb⟩ := hm.slots s _ hs
   have hdl : ∀ (cs : List C) (ds : List D), cellsD cs = some ds → cs.length = ds.length := by
    intro cs
    induction cs with
    | nil => intro ds e; simp only [cellsD] at e; cases e; rfl
    | cons c cs ih =>
     intro ds e
     simp only [cellsD] at e
     obtain ⟨d, g1, e⟩ := bind_some' e
     obtain ⟨ds', g2, e⟩ := bind_some' e
     cases e
     simp [ih _ g2]
   have hdg : ∀ (cs : List C) (ds : List D) (j : Nat) (d : D), cellsD cs = some ds → ds[j]? = some d → ∃ c, cs[j]? = some c ∧ cellD c = some d := by
    intro cs
    induction cs with
    | nil => intro ds j d e hj; simp only [cellsD] at e; cases e; simp at hj
    | cons c cs ih =>
     intro ds j d e hj
     simp only [cellsD] at e
     obtain ⟨d', g1, e⟩ := bind_some' e
     obtain ⟨ds', g2, e⟩ := bind_some' e
     cases e
     cases j with
     | zero => simp at hj; subst hj; exact ⟨c, rfl, g1⟩
     | succ j => exact ih _ j d g2 hj
   obtain ⟨f, hf⟩ : ∃ f, f = C.sub s (fun _ _ => .dead) (fun _ j => .d (.ref (ds.drop j))) (.d (.ref ds)) := ⟨_, rfl⟩
   rw [← hf]
   have av : ∀ b, Avail F σ.mem β w.heap b → Avail F ((σ.mem.map (Slot.mapC f)).set s .dead) β w.heap b :=
    fun b hb => sub_av b (((evo_kill (F := F) (β := β) (m := σ.mem) (s := s) w).av b hb).1)
   have hA : Avail F ((σ.mem.map (Slot.mapC f)).set s .dead) β w.heap b := by
    have hO : Owned σ.mem β b := .mk hs (by simp) e1
    refine sub_av b ⟨hp.lt, hm.nf b hO, ?_⟩
    rintro ⟨t, sl, o', h1, h2, h3⟩
    obtain ⟨g1, g2⟩ := live_kill h1 h2
    exact g2 (congrArg Prod.fst (hm.injK t s sl _ b o' o g1 h2 (live_s.trans hs) (by simp) h3 e1))
   have ptr : ∀ i j v, RepPtr σ.mem β s i j v → RepD w.heap (Avail F ((σ.mem.map (Slot.mapC f)).set s .dead) β w.heap) (.ref (ds.drop j)) v := by
    intro i j v r
    unfold RepPtr at r
    simp only [hs] at r
    obtain ⟨_, b', o', e1', rfl⟩ := r
    rw [e1] at e1'
    cases e1'
    have ex : ∀ q, q < (ds.drop j).length → ∃ u, cellAt w.heap b (o + j + q) = some u ∧ ∀ e, (ds.drop j)[q]? = some e → RepD w.heap (Avail F σ.mem β w.heap) e u := by
     intro q hq
     have hq' : j + q < ds.length := by simp at hq; omega
     obtain ⟨c, g1, g2⟩ := hdg cs ds (j + q) _ hds (List.getElem?_eq_getElem hq')
     obtain ⟨u, hu, hr⟩ := hb (j + q) c g1
     refine ⟨u, by rw [Nat.add_assoc]; exact hu, fun e he => ?_⟩
     rw [List.getElem?_drop, List.getElem?_eq_getElem hq'] at he
     cases he
     exact cellD_rep hr g2
    obtain ⟨u, hu⟩ : ∃ u : Nat → Value, ∀ q, q < (ds.drop j).length → cellAt w.heap b (o + j + q) = some (u q) ∧ ∀ e, (ds.drop j)[q]? = some e → RepD w.heap (Avail F σ.mem β w.heap) e (u q) := by
     refine ⟨fun q => if h : q < (ds.drop j).length then Classical.choose (ex q h) else undef, fun q hq => ?_⟩
     simp only [hq, dite_true]
     exact Classical.choose_spec (ex q hq)
    exact .ref _ b (o + j) u hA (fun q hq => (hu q hq).1) fun q e he => RepD.mono (fun b hb => ⟨av b hb, rfl⟩) ((hu q (List.getElem?_eq_some_iff.1 he).1).2 e he)
   cases c with
   | d x => rw [hf]; exact RepD.mono (fun b hb => ⟨hf ▸ av b hb, rfl⟩) r
   | nil => rw [hf]; exact r
   | own t i j =>
    have hh : f (.own t i j) = if t = s then .dead else .own t i j := by rw [hf]; rfl
    rw [hh]
    split
    · rename_i e
      subst e
      have r : RepOwn w.heap σ.mem β t i j v := r
      unfold RepOwn at r
      simp only [hs] at r
    · rename_i e; exact sub_own e r
   | ptr t i j =>
    have hh : f (.ptr t i j) = if t = s then .d (.ref (ds.drop j)) else .ptr t i j := by rw [hf]; rfl
    rw [hh]
    split
    · rename_i e; subst e; exact ptr i j v r
    · rename_i e; exact sub_ptr e r
   | mp t =>
    have hh : f (.mp t) = if t = s then .dead else .mp t := by rw [hf]; rfl
    rw [hh]
    split
    · exact RepMp.isCell r
    · rename_i e; exact sub_mp e r
   | fn g caps =>
    obtain ⟨vs, rfl, r⟩ := r
    have hh : f (.fn g caps) = .fn g (caps.map fun c => match c with | .p s' => if s' = s then .d (.ref ds) else .p s' | .d x => .d x) := by rw [hf]; rfl
    rw [hh]
    exact ⟨vs, rfl, sub_caps (fun v hv => by show RepD _ _ _ _; have := ptr 0 0 v hv; simpa using this) r⟩
   | dead => rw [hf]; exact r
 · cases h

/-- A row moved to a new place, as it is. -/
theorem move_ok {s : Nat} {z : D} {xs : List D} (hm : MemOK F m β w.heap) (hs : m[s]? = some (.vals z xs)) :
 MemOK F (m.set s .dead ++ [.vals z xs]) (upd β m.length (β s)) w.heap ∧ Evo F m β w (m.set s .dead ++ [.vals z xs]) (upd β m.length (β s)) w := by
 have mlen : (m.set s Slot.dead).length = m.length := List.length_set
 have get : ∀ (t : Key) (sl : Slot), live (m.set s Slot.dead ++ [Slot.vals z xs]) t = some sl → sl ≠ .dead → (t.1 < m.length ∧ t.1 ≠ s ∧ live m t = some sl ∧ upd β m.length (β s) t = β t) ∨ (t = (m.length, none) ∧ sl = .vals z xs ∧ upd β m.length (β s) t = β s) := by
  intro t sl h1 h2
  rcases live_pushF h1 with ⟨c, h3⟩ | ⟨c, h3⟩
  · obtain ⟨g1, g2⟩ := live_kill h3 h2
    rw [mlen] at c
    exact .inl ⟨c, g2, g1, upd_neK (by omega)⟩
  · rw [mlen] at c
    subst c
    exact .inr ⟨rfl, h3, upd_same _ _ _⟩
 have own : ∀ b, Owned (m.set s .dead ++ [.vals z xs]) (upd β m.length (β s)) b → Owned m β b := by
  rintro b ⟨t, sl, o, h1, h2, h3⟩
  rcases get t sl h1 h2 with ⟨_, _, g1, g2⟩ | ⟨_, _, g2⟩
  · exact ⟨t, sl, o, g1, h2, g2 ▸ h3⟩
  · exact .mk hs (by simp) (g2 ▸ h3)
 have E : Evo F m β w (m.set s .dead ++ [.vals z xs]) (upd β m.length (β s)) w := by
  refine ⟨rfl, rfl, rfl, Nat.le_refl _, fun b hb => ⟨⟨hb.1, hb.2.1, fun h => hb.2.2 (own b h)⟩, rfl⟩, fun _ _ _ => rfl, fun b hb => .inl (own b hb), fun t sl ht => ?_⟩
  have hl := slot_lt ht
  by_cases c : s = t
  · subst c
    exact ⟨.dead, by rw [List.getElem?_append_left (by omega), List.getElem?_set_self hl], .inl rfl⟩
  · exact ⟨sl, by rw [List.getElem?_append_left (by omega), List.getElem?_set_ne c]; exact ht, .inr ⟨Slot.like.refl _, upd_ne (by omega), fun _ _ _ => rfl⟩⟩
 refine ⟨hm.make (w' := w) E (fun s1 s2 x1 x2 b o o' h1 h2 h3 h4 h5 h6 => ?_) fun t sl ht => ?_, E⟩
 · rcases get s1 x1 h1 h2 with ⟨a1, a2, a3, a4⟩ | ⟨a1, a2, a3⟩ <;> rcases get s2 x2 h3 h4 with ⟨c1, c2, c3, c4⟩ | ⟨c1, c2, c3⟩
   · exact hm.injK s1 s2 x1 x2 b o o' a3 h2 c3 h4 (a4 ▸ h5) (c4 ▸ h6)
   · exact absurd (congrArg Prod.fst (hm.injK s1 s x1 _ b o o' a3 h2 (live_s.trans hs) (by simp) (a4 ▸ h5) (c3 ▸ h6))) a2
   · exact absurd (congrArg Prod.fst (hm.injK s2 s x2 _ b o' o c3 h4 (live_s.trans hs) (by simp) (c4 ▸ h6) (a3 ▸ h5))) c2
   · rw [a1, c1]
 · by_cases hd : sl = .dead
   · subst hd; exact .inr trivial
   · rcases get_push ht with ⟨c, h3⟩ | ⟨c, h3⟩
     · obtain ⟨g1, g2⟩ := get_dead h3 hd
       rw [mlen] at c
       exact .inl ⟨g1, upd_still (by omega), fun _ _ _ _ _ _ _ _ => rfl⟩
     · rw [mlen] at c
       have a3 : upd β m.length (β s) t = β s := by rw [c]; exact upd_same _ _ _
       subst c h3
       right
       obtain ⟨h1, h2, h3⟩ := hm.slots s _ hs
       refine ⟨h1, h2, ?_⟩
       rw [a3]
       exact h3.evo E fun _ _ _ => rfl
theorem move_own {s off len : Nat} {z : D} {xs : List D} {v : Value} {h : Array Obj} (hs : m[s]? = some (.vals z xs)) (r : RepOwn h m β s off len v) :
 RepOwn h (m.set s .dead ++ [.vals z xs]) (upd β m.length (β s)) m.length off len v := by
 unfold RepOwn at r ⊢
 simp only [hs] at r
 rw [List.getElem?_append_right (by simp), List.length_set, Nat.sub_self]
 simp only [List.getElem?_cons_zero, upd_same]
 exact r
/-- A new empty row, without a block. -/
theorem none_ok {z : D} (hm : MemOK F m β w.heap) (hz : 0 < z.cells.length) :
 MemOK F (m ++ [.vals z []]) (upd β m.length none) w.heap ∧ Evo F m β w (m ++ [.vals z []]) (upd β m.length none) w ∧ RepOwn w.heap (m ++ [.vals z []]) (upd β m.length none) m.length 0 0 (.slice none 0 0) := by
 have own : ∀ b, Owned (m ++ [.vals z []]) (upd β m.length none) b → Owned m β b := by
  rintro b ⟨s, sl, o, h1, h2, h3⟩
  rcases live_pushF h1 with ⟨c, h1⟩ | ⟨c, h1⟩
  · rw [upd_neK (by omega)] at h3; exact ⟨s, sl, o, h1, h2, h3⟩
  · subst c; rw [upd_same] at h3; cases h3
 have E : Evo F m β w (m ++ [.vals z []]) (upd β m.length none) w := by
  refine ⟨rfl, rfl, rfl, Nat.le_refl _, fun b hb => ⟨⟨hb.1, hb.2.1, fun h => hb.2.2 (own b h)⟩, rfl⟩, fun _ _ _ => rfl, fun b hb => .inl (own b hb), fun s sl hs => ?_⟩
  have hl := slot_lt hs
  exact ⟨sl, by rw [List.getElem?_append_left hl]; exact hs, .inr ⟨Slot.like.refl _, upd_ne (by omega), fun _ _ _ => rfl⟩⟩
 refine ⟨hm.make (w' := w) E (fun s t sl tl b o o' h1 h2 h3 h4 h5 h6 => ?_) fun s sl hs => ?_, E, ?_⟩
 · rcases live_pushF h1 with ⟨c, h1⟩ | ⟨c, h1⟩
   · rcases live_pushF h3 with ⟨c', h3⟩ | ⟨c', h3⟩
     · rw [upd_neK (by omega)] at h5 h6
       exact hm.injK s t sl tl b o o' h1 h2 h3 h4 h5 h6
     · subst c'; rw [upd_same] at h6; cases h6
   · subst c; rw [upd_same] at h5; cases h5
 · rcases get_push hs with ⟨c, h1⟩ | ⟨c, h1⟩
   · exact .inl ⟨h1, upd_still (by omega), fun _ _ _ _ _ _ _ _ => rfl⟩
   · subst c h1
     right
     refine ⟨hz, by simp, ?_⟩
     rw [upd_same]
     exact rfl
 · unfold RepOwn
   rw [List.getElem?_append_right (Nat.le_refl _), Nat.sub_self]
   exact ⟨by simp, .inl ⟨rfl, none, rfl⟩⟩
/-- A variable's cell said in another way. -/
theorem recell_ok {s j : Nat} {cs : List C} {c' : C} (hm : MemOK F m β w.heap) (hs : m[s]? = some (.cells cs)) (H : ∀ b o c v, β s = some (b, o) → cs[j]? = some c → cellAt w.heap b (o + j) = some v → RepC w.heap (Avail F m β w.heap) m β c v → RepC w.heap (Avail F m β w.heap) m β c' v) :
 MemOK F (m.set s (.cells (cs.set j c'))) β w.heap ∧ Evo F m β w (m.set s (.cells (cs.set j c'))) β w := by
 have own : ∀ b, Owned (m.set s (.cells (cs.set j c'))) β b → Owned m β b := fun b hb => owned_set (by trivial) hs (by simp) hb
 have E : Evo F m β w (m.set s (.cells (cs.set j c'))) β w :=
  ⟨rfl, rfl, rfl, Nat.le_refl _, fun b hb => ⟨⟨hb.1, hb.2.1, fun h => hb.2.2 (own b h)⟩, rfl⟩, fun _ _ _ => rfl, fun b hb => .inl (own b hb),
   like_set hs (by simp [Slot.like]) fun _ _ _ _ _ _ _ => rfl⟩
 refine ⟨hm.make (w' := w) E (inj_set hm (by trivial) hs (by simp)) fun t sl ht => ?_, E⟩
 by_cases c : s = t
 · subst c
   rw [List.getElem?_set_self (slot_lt hs)] at ht
   cases ht
   right
   obtain ⟨b, o, e1, h1, h2⟩ := hm.slots s _ hs
   refine ⟨b, o, e1, h1, fun j' c hc => ?_⟩
   by_cases cj : j = j'
   · subst cj
     have hlt : j < cs.length := by have := (List.getElem?_eq_some_iff.1 hc).1; simpa using this
     rw [List.getElem?_set_self hlt] at hc
     cases hc
     obtain ⟨v, hv, hr⟩ := h2 j _ (List.getElem?_eq_getElem hlt)
     exact ⟨v, hv, RepC.evo E (H b o _ _ e1 (List.getElem?_eq_getElem hlt) hv hr)⟩
   · rw [List.getElem?_set_ne cj] at hc
     obtain ⟨v, hv, hr⟩ := h2 j' c hc
     exact ⟨v, hv, RepC.evo E hr⟩
 · rw [List.getElem?_set_ne c] at ht
   exact .inl ⟨ht, fun _ => rfl, fun _ _ _ _ _ _ _ _ => rfl⟩

theorem EnvOK.reput {h : Array Obj} {A : Nat → Prop} {e : Env} {a : Act} (k : EnvOK h A m β e a) {t : Nat} {v : V} (H : ∀ u, RepV h A m β (e.get t) u → RepV h A m β v u) : EnvOK h A m β (e.put t v) a := by
 intro t'
 rw [Env.get_put]
 split
 · rename_i c; subst c; exact H _ (k t')
 · exact k t'

theorem cellOf_some {σ : St} {t j : Nat} {x : Nat × C} (h : σ.cellOf t j = some x) : ∃ cs, σ.mem[x.1]? = some (.cells cs) ∧ cs[j]? = some x.2 := by
 unfold St.cellOf at h
 split at h
 · split at h
   · rename_i s _ cs hs
     obtain ⟨c, h1, h2⟩ := Option.map_eq_some_iff.1 h
     subst h2
     exact ⟨cs, hs, h1⟩
   · cases h
 · cases h

theorem ghost_ok {σ σ' : St} {a : Act} {g : Ghost} {m0 : Heap} {β0 : Place} {w0 : World} (hm : MemOK F σ.mem β w.heap) (E0 : Evo F m0 β0 w0 σ.mem β w) (k : EnvOK w.heap (Avail F σ.mem β w.heap) σ.mem β σ.env a)
 (h : evG m0.length g σ = some σ') : ∃ β', MemOK F σ'.mem β' w.heap ∧ Evo F m0 β0 w0 σ'.mem β' w ∧ EnvOK w.heap (Avail F σ'.mem β' w.heap) σ'.mem β' σ'.env a ∧ ∀ b, Avail F σ.mem β w.heap b → Avail F σ'.mem β' w.heap b := by
 have frz : ∀ s, frzS s σ = some σ' → ∃ β', MemOK F σ'.mem β' w.heap ∧ Evo F m0 β0 w0 σ'.mem β' w ∧ EnvOK w.heap (Avail F σ'.mem β' w.heap) σ'.mem β' σ'.env a ∧ ∀ b, Avail F σ.mem β w.heap b → Avail F σ'.mem β' w.heap b := by
  intro s h
  obtain ⟨h1, h2, h3⟩ := frz_ok hm k h
  exact ⟨β, h1, E0.trans h2, h3, fun b hb => (h2.av b hb).1⟩
 cases g with
 | keep ts =>
  simp only [evG] at h
  cases h
  refine ⟨β, hm, E0, fun t => ?_, fun b hb => hb⟩
  rcases Env.get_keep ts σ.env t with e | e
  · show RepV _ _ _ _ ((keepE ts σ.env).get t) _
    rw [e]; exact k t
  · show RepV _ _ _ _ ((keepE ts σ.env).get t) _
    rw [e]; trivial
 | gc =>
  simp only [evG] at h
  cases h
  obtain ⟨ids, hids⟩ : ∃ ids, ids = gcIds m0.length σ.mem (σ.env.flatMap fun x => x.2.slots) := ⟨_, rfl⟩
  have hn : ids.Nodup := by rw [hids]; exact reach_nodup _ _ _ _ List.nodup_range
  have hp : List.range m0.length <+: ids := by rw [hids]; exact reach_prefix _ _ _ _
  refine ⟨selβ ids β, ?_, ?_, fun t => ?_, ?_⟩
  · simp only [St.gc, ← hids]
    exact sel_ok hn hm (fun b hb => sel_av b hb) (fun b hb => hm.nf b (sel_owned' hb)) hm.fl
  · simp only [St.gc, ← hids]
    exact sel_evo hp E0
  · simp only [St.gc, ← hids]
    rw [Env.get_map (V.mapC _) rfl]
    exact RepV.map (fun c v r => ren_rep sel_fwd (fun b hb => sel_av b hb) r) (k t)
  · simp only [St.gc, ← hids]
    exact fun b hb => sel_av b hb
 | frz t =>
  simp only [evG] at h
  split at h
  · exact frz _ h
  · exact frz _ h
  · cases h
 | frzC t j =>
  simp only [evG] at h
  obtain ⟨x, hx, h1⟩ := bind_some' h
  clear h
  split at h1
  · exact frz _ h1
  · cases h1
 | prom t z =>
  simp only [evG] at h
  split at h
  · rename_i hx
    split at h
    · rename_i hz
      cases h
      obtain ⟨h1, h2, h3⟩ := none_ok hm hz
      refine ⟨_, h1, E0.trans h2, (EnvOK.evo h2 k).reput fun u hu => ?_, fun b hb => (h2.av b hb).1⟩
      rw [hx] at hu
      have hu : u = .slice none 0 0 := hu
      subst hu
      exact h3
    · cases h
  · cases h
 | promC t j z =>
  simp only [evG] at h
  obtain ⟨x, hx, h1⟩ := bind_some' h
  clear h
  split at h1
  · rename_i cs hc hs
    split at h1
    · rename_i hz
      cases h1
      obtain ⟨h1, h2, h3⟩ := none_ok hm hz
      obtain ⟨cs', g1, g2⟩ := cellOf_some hx
      rw [hs] at g1
      cases g1
      have hs' : (σ.mem ++ [.vals z []])[x.1]? = some (.cells cs) := by rw [List.getElem?_append_left (slot_lt hs)]; exact hs
      obtain ⟨k1, k2⟩ := recell_ok (j := j) (c' := .own σ.mem.length 0 0) h1 hs' (fun _ _ c v _ hcj _ r => by
       rw [g2] at hcj
       cases hcj
       rw [hc] at r
       have r : v = .slice none 0 0 := r
       subst r
       exact h3)
      exact ⟨_, k1, (E0.trans h2).trans k2, EnvOK.evo k2 (EnvOK.evo h2 k), fun b hb => (k2.av b (h2.av b hb).1).1⟩
    · cases h1
  · cases h1
 | renew t =>
  simp only [evG] at h
  split at h
  · rename_i s off len hx
    split at h
    · rename_i z xs hs
      cases h
      obtain ⟨h1, h2⟩ := move_ok hm hs
      refine ⟨_, h1, E0.trans h2, fun t' => ?_, fun b hb => (h2.av b hb).1⟩
      show RepV _ _ _ _ ((σ.env.put t _).get t') _
      rw [Env.get_put]
      split
      · rename_i c
        subst c
        have := k t'
        rw [hx] at this
        exact move_own hs this
      · exact RepV.evo h2 (k t')
    · cases h
  · cases h
 | renewC t j =>
  simp only [evG] at h
  obtain ⟨x, hx, h1⟩ := bind_some' h
  clear h
  split at h1
  · rename_i s off len cs hc hs'
    split at h1
    · rename_i z xs hs
      cases h1
      obtain ⟨h1, h2⟩ := move_ok hm hs
      obtain ⟨cs', g1, g2⟩ := cellOf_some hx
      rw [hs'] at g1
      cases g1
      have hne : s ≠ x.1 := fun e => by subst e; rw [hs] at hs'; cases hs'
      have hs2 : (σ.mem.set s .dead ++ [.vals z xs])[x.1]? = some (.cells cs) := by
       rw [List.getElem?_append_left (by rw [List.length_set]; exact slot_lt hs'), List.getElem?_set_ne hne]; exact hs'
      -- the cell's value, before the move
      obtain ⟨b, o, e1, _, hb⟩ := hm.slots x.1 _ hs'
      obtain ⟨v0, hv0, r0⟩ := hb j _ g2
      rw [hc] at r0
      obtain ⟨k1, k2⟩ := recell_ok (j := j) (c' := .own σ.mem.length off len) h1 hs2 (fun b' o' c v hβ hcj hv r => by
       rw [upd_ne (by have := slot_lt hs'; omega), e1] at hβ
       cases hβ
       rw [hv0] at hv
       cases hv
       exact move_own hs r0)
      exact ⟨_, k1, (E0.trans h2).trans k2, EnvOK.evo k2 (EnvOK.evo h2 k), fun b hb => (k2.av b (h2.av b hb).1).1⟩
    · cases h1
  · cases h1
theorem ghosts_ok {a : Act} {m0 : Heap} {β0 : Place} {w0 : World} : ∀ (gs : List Ghost) {β : Place} {σ σ' : St}, MemOK F σ.mem β w.heap → Evo F m0 β0 w0 σ.mem β w → EnvOK w.heap (Avail F σ.mem β w.heap) σ.mem β σ.env a →
 evGs m0.length gs σ = some σ' → ∃ β', MemOK F σ'.mem β' w.heap ∧ Evo F m0 β0 w0 σ'.mem β' w ∧ EnvOK w.heap (Avail F σ'.mem β' w.heap) σ'.mem β' σ'.env a ∧ ∀ b, Avail F σ.mem β w.heap b → Avail F σ'.mem β' w.heap b
 | [], β, σ, σ', hm, E, k, h => by simp only [evGs] at h; cases h; exact ⟨β, hm, E, k, fun _ hb => hb⟩
 | g :: gs, β, σ, σ', hm, E, k, h => by
  simp only [evGs] at h
  obtain ⟨σ1, h1, h2⟩ := bind_some' h
  obtain ⟨β1, g1, g2, g3, g4⟩ := ghost_ok hm E k h1
  obtain ⟨β2, e1, e2, e3, e4⟩ := ghosts_ok gs g1 g2 g3 h2
  exact ⟨β2, e1, e2, e3, fun b hb => e4 b (g4 b hb)⟩
end

section
/-! ## Any operation -/
variable {P : Program} {F : Nat → Prop} {β : Place} {w : World} {σ : St} {a : Act}

/-- No fence: rounds of a range over a function apart. -/
def W (r : Option Nat) : Fence := { fn := fun _ => True, depth := none, alive := false, round := r }

theorem wp_of_run {r : Option Nat} {o : Oper} {next : Act → World → Prop} {Q : Exit → Act → World → Prop} (hd : ∀ c, o.op ≠ .defer c) (h : o.uponIn (W r) 0 P a next Q ((execOp a.eval o).run P w)) :
 o.wpIn (W r) 0 P a w next Q := by
 refine ⟨fun _ _ => trivial, ?_⟩
 rw [Oper.semAt_eq _ _ _ hd]
 exact h
theorem does_wp {r : Option Nat} {o : Oper} {next : Act → World → Prop} {Q : Exit → Act → World → Prop} {v : V} {m' : Heap} (hd : ∀ c, o.op ≠ .defer c) (h : Does P F σ.mem β w (execOp a.eval o) v m')
 (hn : ∀ u w' β', MemOK F m' β' w'.heap → Evo F σ.mem β w m' β' w' → RepV w'.heap (Avail F m' β' w'.heap) m' β' v u → next (a.put o.dst u) w') : o.wpIn (W r) 0 P a w next Q := by
 obtain ⟨u, w', β', h1, h2, h3, h4⟩ := h
 refine wp_of_run hd ?_
 rcases h1 with h1 | ⟨h1, rfl⟩
 · rw [h1]; exact hn u w' β' h2 h3 h4
 · rw [h1]; exact hn undef w' β' h2 h3 h4

/-- What a call comes to. -/
def CallTo (P : Program) (g : FuncId) (args : Array Value) (w : World) (post : Value → World → Prop) : Prop :=
 ((callFunc g args).run P w = .ok (.enter g args) w ∧ CallsIn (W none) 0 P g args w fun e w' => ∃ u, e = .returned u ∧ post u w') ∨
 ∃ u w', (callFunc g args).run P w = .ok (.value u) w' ∧ post u w'
def CallOK (P : Program) (call : Call) : Prop :=
 ∀ g args m v m', call g args m = some (v, m') → ∀ (F : Nat → Prop) (β : Place) (w : World) (us : List Value), MemOK F m β w.heap → All2 (RepV w.heap (Avail F m β w.heap) m β) args us →
  CallTo P g us.toArray w fun u w' => ∃ β', MemOK F m' β' w'.heap ∧ Evo F m β w m' β' w' ∧ RepV w'.heap (Avail F m' β' w'.heap) m' β' v u
theorem CallTo.mono {g : FuncId} {args : Array Value} {post post' : Value → World → Prop} (h : CallTo P g args w post) (k : ∀ u w', post u w' → post' u w') : CallTo P g args w post' := by
 rcases h with ⟨h1, h2⟩ | ⟨u, w', h1, h2⟩
 · exact .inl ⟨h1, h2.mono fun e w' ⟨u, e1, e2⟩ => ⟨u, e1, k u w' e2⟩⟩
 · exact .inr ⟨u, w', h1, k u w' h2⟩

theorem callTo_upon {r : Option Nat} {o : Oper} {next : Act → World → Prop} {Q : Exit → Act → World → Prop} {g : FuncId} {args : Array Value} {post : Value → World → Prop} (hr : (execOp a.eval o).run P w = (callFunc g args).run P w)
 (hd : ∀ c, o.op ≠ .defer c) (h : CallTo P g args w post) (hn : ∀ u w', post u w' → next (a.put o.dst u) w') : o.wpIn (W r) 0 P a w next Q := by
 refine wp_of_run hd ?_
 rw [hr]
 rcases h with ⟨h1, h2⟩ | ⟨u, w', h1, h2⟩
 · rw [h1]
   refine ⟨fun h => (by cases h), ?_⟩
   refine CallsIn.mono (F := W r) h2 fun e w' ⟨u, e1, e2⟩ => ?_
   subst e1
   exact hn u w' e2
 · rw [h1]; exact hn u w' h2

theorem noSlots_rep {h : Array Obj} {A A' : Nat → Prop} {m m' : Heap} {β β' : Place} {x : V} {v : Value} (av : ∀ b, A b → A' b) (hx : x.noSlots = true ∨ m = []) (r : RepV h A m β x v) : RepV h A' m' β' x v := by
 have one : ∀ (c : C) (v : Value), (c.slots = [] ∨ m = []) → RepC h A m β c v → RepC h A' m' β' c v := by
  intro c v hc r
  cases c with
  | d x => exact RepD.mono (fun b hb => ⟨av b hb, rfl⟩) r
  | nil => exact r
  | own s i j =>
   rcases hc with hc | rfl
   · simp [C.slots] at hc
   · have r : RepOwn h [] β s i j v := r
     simp [RepOwn] at r
  | ptr s i j =>
   rcases hc with hc | rfl
   · simp [C.slots] at hc
   · have r : RepPtr [] β s i j v := r
     simp [RepPtr] at r
  | mp s =>
   rcases hc with hc | rfl
   · simp [C.slots] at hc
   · have r : RepMp [] β s v := r
     simp [RepMp] at r
  | fn f caps =>
   obtain ⟨vs, rfl, r⟩ := r
   refine ⟨vs, rfl, ?_⟩
   simp only [C.slots] at hc
   clear hx
   generalize vs.toList = l at r ⊢
   induction r with
   | nil => exact .nil
   | @cons c v cs vs h1 t ih =>
    cases c with
    | d x => exact .cons (RepD.mono (fun b hb => ⟨av b hb, rfl⟩) h1) (ih (hc.imp (by simp) id))
    | p s =>
     rcases hc with hc | rfl
     · simp at hc
     · have r : RepPtr [] β s 0 0 v := h1
       simp [RepPtr] at r
  | dead => exact r
 have cells : ∀ (cs : List C) (vs : List Value), ((cs.flatMap C.slots) = [] ∨ m = []) → All2 (RepC h A m β) cs vs → All2 (RepC h A' m' β') cs vs := by
  intro cs vs hc r
  induction r with
  | nil => exact .nil
  | cons h1 t ih =>
   simp only [List.flatMap_cons, List.append_eq_nil_iff] at hc
   exact .cons (one _ _ (hc.imp (·.1) id) h1) (ih (hc.imp (·.2) id))
 unfold V.noSlots at hx
 rw [List.isEmpty_iff] at hx
 cases x with
 | one c => exact one c v hx r
 | agg cs => obtain ⟨vs, e, r⟩ := r; exact ⟨vs, e, cells _ _ hx r⟩
 | tup xs =>
  obtain ⟨vs, e, r⟩ := r
  refine ⟨vs, e, ?_⟩
  simp only [V.slots] at hx
  clear e
  generalize vs.toList = l at r ⊢
  induction r with
  | nil => exact .nil
  | @cons x u xs us h1 t ih =>
   simp only [List.flatMap_cons, List.append_eq_nil_iff] at hx
   refine .cons ?_ (ih (hx.imp (·.2) id))
   obtain ⟨g, cs⟩ := x
   cases g with
   | true => obtain ⟨us, e, r⟩ := h1; exact ⟨us, e, cells _ _ (hx.imp (·.1) id) r⟩
   | false =>
    obtain ⟨c, e, r⟩ := h1
    simp at e
    subst e
    exact ⟨c, rfl, one _ _ (hx.imp (fun h => by simpa using h.1) id) r⟩
 | dead => trivial

/-- A call in the midst of others' memory. -/
theorem doCall_ok {call : Call} (hc : CallOK P call) {pure : Bool} {g : Nat} {args : List V} {m m' : Heap} {v : V} (h : doCall call pure g args m = some (v, m')) {us : List Value} (hm : MemOK F m β w.heap)
 (r : All2 (RepV w.heap (Avail F m β w.heap) m β) args us) : CallTo P g us.toArray w fun u w' => ∃ β', MemOK F m' β' w'.heap ∧ Evo F m β w m' β' w' ∧ RepV w'.heap (Avail F m' β' w'.heap) m' β' v u := by
 unfold doCall at h
 cases pure with
 | true =>
  simp only [if_true] at h
  split at h
  · rename_i hns
    obtain ⟨x, hx, h1⟩ := bind_some' h
    clear h
    split at h1
    · rename_i hx2
      cases h1
      -- the callee has no slot
      have hn : ([] : List Nat).Nodup := List.nodup_nil
      have h0 := hc g args [] x.1 x.2 hx (waits [] m β F) (selβ [] β) w us (wait_ok hn hm) (by
       refine All2.of_get r.length fun i a b ha hb => ?_
       obtain ⟨b', e1, e2⟩ := r.get ha
       rw [hb] at e1; cases e1
       exact noSlots_rep (fun b hb => (wait_av b).2 hb) (.inl (List.all_eq_true.1 hns a (List.mem_of_getElem? ha))) e2)
      refine h0.mono fun u w' ⟨β1, g1, g2, g3⟩ => ?_
      rw [hx2] at g1 g2 g3
      obtain ⟨k1, k2, k3⟩ := merge (m1 := []) hn (by simp) hm g1 g2 g3
      have e0 : wback [] (([] : Heap).map (Slot.mapC (C.ren fun t => some (back [] m.length t)))) m = m := by simp [wback]
      rw [e0] at k1 k2
      refine ⟨_, k1, k2, noSlots_rep (m := []) (fun b hb => ?_) (.inr rfl) g3⟩
      -- what the callee's data may lie in, the caller's may
      refine ⟨hb.1, fun c => hb.2.1 (.inl c), fun c => ?_⟩
      rcases k2.own b c with d | d
      · exact hb.2.1 (.inr ⟨d, fun ⟨s, sl, o, h1, _⟩ => by simp [live, sel] at h1⟩)
      · obtain ⟨s, sl, o, h1, h2, h3⟩ := c
        have hs := live_lt h1
        unfold mergeβ at h3
        simp only [if_pos hs, find] at h3
        have := hm.blkK h1 h2 h3
        omega
    · cases h1
  · cases h
 | false =>
  simp only [Bool.false_eq_true, if_false] at h
  obtain ⟨ids, hids⟩ : ∃ ids, ids = reach m (4 * m.length + args.length * 8 + 8) (args.flatMap V.slots) [] := ⟨_, rfl⟩
  rw [← hids] at h
  split at h
  · rename_i hlt
    obtain ⟨x, hx, h1⟩ := bind_some' h
    cases h1
    have hn : ids.Nodup := by rw [hids]; exact reach_nodup _ _ _ _ List.nodup_nil
    have h0 := hc g _ _ x.1 x.2 hx (waits ids m β F) (selβ ids β) w us (wait_ok hn hm) (r.map fun c u hcu => RepV.map (fun c v hv => ren_rep sel_fwd (fun b hb => (wait_av b).2 hb) hv) hcu)
    refine h0.mono fun u w' ⟨β1, g1, g2, g3⟩ => ?_
    obtain ⟨k1, k2, k3⟩ := merge hn (allLt_iff hlt) hm g1 g2 g3
    exact ⟨_, k1, k2, k3⟩
  · cases h

theorem trOpt_some {x : Option Operand} {y : Option Arg} (h : trOpt x = some y) : trOpt x = some y := h

/-- Every operation that the translation check lets by does what the evaluator says. -/
theorem op_sound {call : Call} (hc : CallOK P call) {r : Option Nat} {o : Oper} {m0 mo : MOp} {v : V} {m' : Heap} {next : Act → World → Prop} {Q : Exit → Act → World → Prop} (ht : trOp P o.op m0 = some mo)
 (he : evO call σ mo = some (v, m')) (hm : MemOK F σ.mem β w.heap) (k : EnvOK w.heap (Avail F σ.mem β w.heap) σ.mem β σ.env a)
 (hn : ∀ u w' β', MemOK F m' β' w'.heap → Evo F σ.mem β w m' β' w' → RepV w'.heap (Avail F m' β' w'.heap) m' β' v u → next (a.put o.dst u) w') : o.wpIn (W r) 0 P a w next Q := by
 have val : ∀ {x : Operand}, (execOp a.eval o = pure (.value (a.eval x))) → (trArg x).map MOp.mov = some mo → (∀ c, o.op ≠ .defer c) → o.wpIn (W r) 0 P a w next Q := by
  intro x hx hy hd
  obtain ⟨y, h1, h2⟩ := Option.map_eq_some_iff.1 hy
  subst h2
  simp only [evO] at he
  cases he
  refine does_wp (β := β) (F := F) (σ := σ) hd ?_ hn
  rw [hx]
  exact do_val hm k h1
 cases ho : o.op with
 | move x => rw [ho] at ht; exact val (x := x) (by simp [execOp, ho]) (by simpa only [trOp] using ht) (by rw [ho]; intro c h; cases h)
 | assign x => rw [ho] at ht; exact val (x := x) (by simp [execOp, ho]) (by simpa only [trOp] using ht) (by rw [ho]; intro c h; cases h)
 | nilCheck x =>
  rw [ho] at ht
  simp only [trOp] at ht
  obtain ⟨x', h1, rfl⟩ := Option.map_eq_some_iff.1 ht
  have hr := Rep_arg k h1
  simp only [evO] at he
  have key : ∀ b o', a.eval x = .pointer (some ⟨b, o', none⟩) → σ.arg x' = v → m' = σ.mem → o.wpIn (W r) 0 P a w next Q := by
   intro b o' hv hx hm'
   subst hm'
   refine does_wp (β := β) (F := F) (σ := σ) (by rw [ho]; intro c h; cases h) ?_ hn
   refine .same hm (u := a.eval x) ?_ (hx ▸ hr)
   simp only [execOp, ho, hv, Sem.run_pure]
  split at he
  · rename_i s i j hx
    cases he
    rw [hx] at hr
    have hr : RepPtr σ.mem β s i j (a.eval x) := hr
    unfold RepPtr at hr
    split at hr
    · obtain ⟨_, b, o', _, e⟩ := hr; exact key _ _ e hx rfl
    · obtain ⟨_, b, o', _, e⟩ := hr; exact key _ _ e hx rfl
    · obtain ⟨_, b, o', _, e⟩ := hr; exact key _ _ e hx rfl
    · obtain ⟨b, o', e⟩ := hr; exact key _ _ e hx rfl
    · exact hr.elim
  · rename_i ds hx
    cases he
    rw [hx] at hr
    have hr : RepD _ _ (.ref ds) (a.eval x) := hr
    generalize hq : a.eval x = q at hr
    cases hr with
    | ref _ b o' u hA hc hr' => exact key _ _ hq hx rfl
  · cases he
 | pick c x y =>
  rw [ho] at ht
  simp only [trOp] at ht
  obtain ⟨c', h1, ht⟩ := bind_some' ht
  obtain ⟨x', h2, ht⟩ := bind_some' ht
  obtain ⟨y', h3, rfl⟩ := Option.map_eq_some_iff.1 ht
  exact does_wp (by rw [ho]; intro c h; cases h) (do_pick hm k h1 h2 h3 he o ho) hn
 | binOp op T x y U =>
  rw [ho] at ht
  simp only [trOp] at ht
  obtain ⟨x', h1, ht⟩ := bind_some' ht
  obtain ⟨y', h2, ht⟩ := bind_some' ht
  split at ht
  · split at ht
    · cases ht
      exact does_wp (by rw [ho]; intro c h; cases h) (do_isn (neg := false) hm k (by assumption) h1 he o ho) hn
    · cases ht
      exact does_wp (by rw [ho]; intro c h; cases h) (do_isn (neg := true) hm k (by assumption) h1 he o ho) hn
    · cases ht
  · obtain ⟨ks, h3, ht⟩ := bind_some' ht
    obtain ⟨g, h4, ht⟩ := bind_some' ht
    split at ht
    · cases ht
    · rename_i h5
      split at ht
      · cases ht
        exact does_wp (by rw [ho]; intro c h; cases h) (do_eqs (neg := false) hm k h3 h4 (by simpa using h5) h1 h2 he o ho) hn
      · cases ht
        exact does_wp (by rw [ho]; intro c h; cases h) (do_eqs (neg := true) hm k h3 h4 (by simpa using h5) h1 h2 he o ho) hn
      · cases ht
  · cases ht
    exact does_wp (by rw [ho]; intro c h; cases h) (do_bin hm k h1 h2 he o ho) hn
 | unOp op T x =>
  rw [ho] at ht
  simp only [trOp] at ht
  split at ht
  · obtain ⟨x', h1, rfl⟩ := Option.map_eq_some_iff.1 ht
    exact does_wp (by rw [ho]; intro c h; cases h) (do_not hm k h1 he o ho) hn
  · obtain ⟨x', h1, rfl⟩ := Option.map_eq_some_iff.1 ht
    exact does_wp (by rw [ho]; intro c h; cases h) (do_neg hm k h1 he o ho) hn
  · cases ht
 | convert S T x =>
  rw [ho] at ht
  simp only [trOp] at ht
  split at ht
  · rename_i d q hS hT
    obtain ⟨x', h1, rfl⟩ := Option.map_eq_some_iff.1 ht
    exact does_wp (by rw [ho]; intro c h; cases h) (do_conv hm k h1 hS hT he o ho) hn
  · cases ht
 | alloc T =>
  rw [ho] at ht
  simp only [trOp] at ht
  split at ht
  · split at ht
    · rename_i n e hT
      obtain ⟨x, h1, ht⟩ := bind_some' ht
      obtain ⟨z, h2, ht⟩ := bind_some' ht
      obtain ⟨ze, h3, ht⟩ := bind_some' ht
      split at ht
      · rename_i h4
        cases ht
        rw [Bool.and_eq_true] at h4
        exact does_wp (by rw [ho]; intro c h; cases h) (do_allocA hm h1 h2 h3 h4.1 (by simpa using h4.2) he o ho) hn
      · cases ht
    · cases ht
  · obtain ⟨z, h1, rfl⟩ := Option.map_eq_some_iff.1 ht
    exact does_wp (by rw [ho]; intro c h; cases h) (do_alloc hm h1 he o ho) hn
 | box T x =>
  rw [ho] at ht
  simp only [trOp] at ht
  obtain ⟨x', h1, rfl⟩ := Option.map_eq_some_iff.1 ht
  exact does_wp (by rw [ho]; intro c h; cases h) (do_box hm k h1 he o ho) hn
 | build T ps =>
  rw [ho] at ht
  simp only [trOp] at ht
  split at ht
  · rename_i fs hT
    obtain ⟨z, h1, ht⟩ := bind_some' ht
    split at ht
    · rename_i h2
      obtain ⟨qs, h3, rfl⟩ := Option.map_eq_some_iff.1 ht
      exact does_wp (by rw [ho]; intro c h; cases h) (do_build_struct hm k hT h1 h2 h3 he o ho) hn
    · cases ht
  · rename_i n e hT
    obtain ⟨z, h1, ht⟩ := bind_some' ht
    obtain ⟨s, h2, ht⟩ := bind_some' ht
    obtain ⟨qs, h3, rfl⟩ := Option.map_eq_some_iff.1 ht
    exact does_wp (by rw [ho]; intro c h; cases h) (do_build_array hm k hT h1 h2 h3 he o ho) hn
  · cases ht
 | buildSlice T len ps =>
  rw [ho] at ht
  simp only [trOp] at ht
  split at ht
  · rename_i e hT
    obtain ⟨z, h1, ht⟩ := bind_some' ht
    split at ht
    · rename_i h2
      obtain ⟨qs, h3, rfl⟩ := Option.map_eq_some_iff.1 ht
      exact does_wp (by rw [ho]; intro c h; cases h) (do_lit hm k hT h1 h2 h3 he o ho) hn
    · cases ht
  · cases ht
 | makeMap T x =>
  rw [ho] at ht
  cases x with
  | some r => simp only [trOp] at ht; cases ht
  | none =>
   simp only [trOp] at ht
   split at ht
   · split at ht
     · cases ht
       exact does_wp (by rw [ho]; intro c h; cases h) (do_mkmap hm he o ho) hn
     · cases ht
   · cases ht
 | insert T x y z =>
  rw [ho] at ht
  simp only [trOp] at ht
  split at ht
  · rename_i K E hT
    split at ht
    · rename_i hK
      obtain ⟨x', h1, ht⟩ := bind_some' ht
      obtain ⟨y', h2, ht⟩ := bind_some' ht
      obtain ⟨z', h3, rfl⟩ := Option.map_eq_some_iff.1 ht
      exact does_wp (by rw [ho]; intro c h; cases h) (do_insert hm k hT hK h1 h2 h3 he o ho) hn
    · cases ht
  · cases ht
 | lookup T x y b =>
  rw [ho] at ht
  cases b with
  | true => simp only [trOp] at ht; cases ht
  | false =>
   simp only [trOp] at ht
   split at ht
   · rename_i K E hT
     split at ht
     · rename_i hK
       obtain ⟨x', h1, ht⟩ := bind_some' ht
       obtain ⟨y', h2, rfl⟩ := Option.map_eq_some_iff.1 ht
       exact does_wp (by rw [ho]; intro c h; cases h) (do_lookup hm k hT hK h1 h2 he o ho) hn
     · cases ht
   · cases ht
 | load T x =>
  rw [ho] at ht
  simp only [trOp] at ht
  obtain ⟨n, h1, ht⟩ := bind_some' ht
  obtain ⟨g, h2, ht⟩ := bind_some' ht
  split at ht
  · cases ht
  · rename_i h3
    obtain ⟨x', h4, rfl⟩ := Option.map_eq_some_iff.1 ht
    exact does_wp (by rw [ho]; intro c h; cases h) (do_load hm k h1 h2 h3 h4 he o ho) hn
 | store T x y =>
  rw [ho] at ht
  simp only [trOp] at ht
  obtain ⟨n, h1, ht⟩ := bind_some' ht
  split at ht
  · cases ht
  · rename_i h0
    obtain ⟨x', h2, ht⟩ := bind_some' ht
    obtain ⟨y', h3, rfl⟩ := Option.map_eq_some_iff.1 ht
    exact does_wp (by rw [ho]; intro c h; cases h) (do_store hm k h1 h0 h2 h3 he o ho) hn
 | fieldAddr T x f =>
  rw [ho] at ht
  simp only [trOp] at ht
  split at ht
  · rename_i fs hT
    obtain ⟨fd, h1, ht⟩ := bind_some' ht
    obtain ⟨n, h2, ht⟩ := bind_some' ht
    split at ht
    · cases ht
    · rename_i h3
      obtain ⟨x', h4, rfl⟩ := Option.map_eq_some_iff.1 ht
      exact does_wp (by rw [ho]; intro c h; cases h) (do_faddr hm k hT h1 h2 h3 h4 he o ho) hn
  · cases ht
 | field T x f =>
  rw [ho] at ht
  simp only [trOp] at ht
  split at ht
  · rename_i fs hT
    obtain ⟨fd, h1, ht⟩ := bind_some' ht
    obtain ⟨n, h2, ht⟩ := bind_some' ht
    obtain ⟨g, h3, ht⟩ := bind_some' ht
    split at ht
    · cases ht
    · rename_i h4
      obtain ⟨x', h5, rfl⟩ := Option.map_eq_some_iff.1 ht
      exact does_wp (by rw [ho]; intro c h; cases h) (do_field hm k hT h1 h2 h3 h4 h5 he o ho) hn
  · cases ht
 | index T x y =>
  rw [ho] at ht
  simp only [trOp] at ht
  split at ht
  · rename_i hT
    obtain ⟨x', h1, ht⟩ := bind_some' ht
    obtain ⟨y', h2, rfl⟩ := Option.map_eq_some_iff.1 ht
    exact does_wp (by rw [ho]; intro c h; cases h) (do_sidx hm k hT h1 h2 he o ho) hn
  · rename_i n e hT
    obtain ⟨s, h1, ht⟩ := bind_some' ht
    obtain ⟨g, h2, ht⟩ := bind_some' ht
    split at ht
    · cases ht
    · rename_i h3
      obtain ⟨x', h4, ht⟩ := bind_some' ht
      obtain ⟨y', h5, rfl⟩ := Option.map_eq_some_iff.1 ht
      exact does_wp (by rw [ho]; intro c h; cases h) (do_vidx hm k hT h1 h2 h3 h4 h5 he o ho) hn
  · cases ht
 | indexAddr T x y =>
  rw [ho] at ht
  simp only [trOp] at ht
  split at ht
  · rename_i e hT
    obtain ⟨z, h1, ht⟩ := bind_some' ht
    obtain ⟨x', h2, ht⟩ := bind_some' ht
    obtain ⟨y', h3, rfl⟩ := Option.map_eq_some_iff.1 ht
    exact does_wp (by rw [ho]; intro c h; cases h) (do_iaddr hm k hT h1 h2 h3 he o ho) hn
  · rename_i n e hT
    obtain ⟨s, h1, ht⟩ := bind_some' ht
    obtain ⟨x', h2, ht⟩ := bind_some' ht
    obtain ⟨y', h3, rfl⟩ := Option.map_eq_some_iff.1 ht
    exact does_wp (by rw [ho]; intro c h; cases h) (do_aaddr hm k hT h1 h2 h3 he o ho) hn
  · cases ht
 | slice T x lo hi mx =>
  rw [ho] at ht
  simp only [trOp] at ht
  split at ht
  · rename_i e hT
    obtain ⟨z, h1, ht⟩ := bind_some' ht
    obtain ⟨x', h2, ht⟩ := bind_some' ht
    obtain ⟨lo', h3, ht⟩ := bind_some' ht
    obtain ⟨hi', h4, ht⟩ := bind_some' ht
    obtain ⟨mx', h5, rfl⟩ := Option.map_eq_some_iff.1 ht
    exact does_wp (by rw [ho]; intro c h; cases h) (do_slice hm k hT h1 h2 h3 h4 h5 he o ho) hn
  · cases ht
 | makeSlice T x y =>
  rw [ho] at ht
  simp only [trOp] at ht
  split at ht
  · rename_i e hT
    obtain ⟨z, h1, ht⟩ := bind_some' ht
    obtain ⟨x', h2, ht⟩ := bind_some' ht
    obtain ⟨y', h3, rfl⟩ := Option.map_eq_some_iff.1 ht
    exact does_wp (by rw [ho]; intro c h; cases h) (do_mkslice hm k hT h1 h2 h3 he o ho) hn
  · cases ht
 | extract x i =>
  rw [ho] at ht
  simp only [trOp] at ht
  obtain ⟨x', h1, rfl⟩ := Option.map_eq_some_iff.1 ht
  exact does_wp (by rw [ho]; intro c h; cases h) (do_ext hm k h1 he o ho) hn
 | makeFunc f first caps =>
  rw [ho] at ht
  simp only [trOp] at ht
  split at ht
  · rename_i h0
    obtain ⟨xs, h1, rfl⟩ := Option.map_eq_some_iff.1 ht
    have : first = #[] := by simpa using h0
    subst this
    exact does_wp (by rw [ho]; intro c h; cases h) (do_mkfn hm k h1 he o ho) hn
  · cases ht
 | call c =>
  rw [ho] at ht
  have hd : ∀ c, o.op ≠ .defer c := by rw [ho]; intro c h; cases h
  simp only [trOp] at ht
  split at ht
  · -- len
    rename_i hcal
    split at ht
    · rename_i x T hargs htys
      have ha : c.args = #[x] := by apply Array.ext'; simpa using hargs
      have hty : c.argTypes = #[T] := by apply Array.ext'; simpa using htys
      have fin : ∀ (str : Bool) (x' : Arg), trArg x = some x' → (if str then P.underlying T = some .string else ∃ e, P.underlying T = some (.slice e)) → mo = .len str x' → o.wpIn (W r) 0 P a w next Q := by
       intro str x' h1 h2 h3
       subst h3
       obtain ⟨u, g1, g2, g3⟩ := do_len (P := P) k h1 h2 he o.type
       subst g3
       refine does_wp hd (.same (u := u) hm ?_ g2) hn
       simp only [execOp, ho, resolve, hcal, ha, hty, Sem.run_bind, Sem.run_pure, Result.andThen_ok, invoke, builtin]
       simp [g1]
      split at ht
      · rename_i e hT
        obtain ⟨x', h1, h2⟩ := Option.map_eq_some_iff.1 ht
        exact fin false x' h1 ⟨e, hT⟩ h2.symm
      · rename_i hT
        obtain ⟨x', h1, h2⟩ := Option.map_eq_some_iff.1 ht
        exact fin true x' h1 hT h2.symm
      · cases ht
    · cases ht
  · rename_i hcal
    obtain ⟨xs, h1, rfl⟩ := Option.map_eq_some_iff.1 ht
    obtain ⟨u, g1, g2, g3⟩ := do_min (P := P) k h1 he c.argTypes o.type
    subst g3
    refine does_wp hd (.same (u := u) hm ?_ g2) hn
    simp only [execOp, ho, resolve, hcal, Sem.run_bind, Sem.run_pure, Result.andThen_ok, invoke, builtin, g1]
  · rename_i hcal
    obtain ⟨xs, h1, rfl⟩ := Option.map_eq_some_iff.1 ht
    obtain ⟨u, g1, g2, g3⟩ := do_max (P := P) k h1 he c.argTypes o.type
    subst g3
    refine does_wp hd (.same (u := u) hm ?_ g2) hn
    simp only [execOp, ho, resolve, hcal, Sem.run_bind, Sem.run_pure, Result.andThen_ok, invoke, builtin, g1]
  · rename_i hcal
    split at ht
    · rename_i x y T U hargs htys
      have ha : c.args = #[x, y] := by apply Array.ext'; simpa using hargs
      have hty : c.argTypes = #[T, U] := by apply Array.ext'; simpa using htys
      split at ht
      · rename_i e f hT hU
        obtain ⟨z, h1, ht⟩ := bind_some' ht
        obtain ⟨x', h2, ht⟩ := bind_some' ht
        obtain ⟨y', h3, rfl⟩ := Option.map_eq_some_iff.1 ht
        obtain ⟨u, w', β', g1, g2, g3, g4⟩ := do_append (P := P) hm k hT hU h1 h2 h3 he o.type
        refine does_wp hd ⟨u, w', β', .inl ?_, g2, g3, g4⟩ hn
        simp only [execOp, ho, resolve, hcal, ha, hty, Sem.run_bind, Sem.run_pure, Result.andThen_ok, invoke, builtin]
        simp [g1]
      · cases ht
    · cases ht
  · rename_i g hcal
    obtain ⟨xs, h1, rfl⟩ := Option.map_eq_some_iff.1 ht
    simp only [evO] at he
    have r := Rep_args k h1
    refine callTo_upon (g := g) (args := (c.args.toList.map a.eval).toArray) ?_ hd (doCall_ok hc he hm r) fun u w' ⟨β', g1, g2, g3⟩ => hn u w' β' g1 g2 g3
    simp only [execOp, ho, resolve, hcal, Sem.run_bind, Sem.run_pure, Result.andThen_ok, invoke, Deferred.ofValue, Act.eval]
    congr 1
    apply congrArg
    apply Array.ext'
    simp
  · rename_i t hcal
    obtain ⟨xs, h1, rfl⟩ := Option.map_eq_some_iff.1 ht
    simp only [evO] at he
    have ra := Rep_args k h1
    have rf := k t
    have fin : ∀ (g : Nat) (extra : List V) (us : Array Value), a.eval (.tmp t) = .func (.func g) #[] us → All2 (RepV w.heap (Avail F σ.mem β w.heap) σ.mem β) extra us.toList →
     doCall call false g (xs.map σ.arg ++ extra) σ.mem = some (v, m') → o.wpIn (W r) 0 P a w next Q := by
     intro g extra us e1 e2 e3
     refine callTo_upon (g := g) (args := (c.args.toList.map a.eval ++ us.toList).toArray) ?_ hd (doCall_ok hc e3 hm (ra.append e2)) fun u w' ⟨β', g1, g2, g3⟩ => hn u w' β' g1 g2 g3
     simp only [execOp, ho, resolve, hcal, Sem.run_bind, Sem.run_pure, Result.andThen_ok, e1, invoke, Deferred.ofValue]
     congr 1
     apply congrArg
     apply Array.ext'
     simp
    split at he
    · rename_i g caps hx
      have hx : σ.env.get t = .one (.fn (.func g) caps) := hx
      rw [hx] at rf
      obtain ⟨vs, e1, e2⟩ := rf
      refine fin g _ vs e1 (e2.map fun c u hcu => ?_) he
      cases c with
      | d x => exact hcu
      | p s => exact hcu
    · rename_i g caps hx
      have hx : σ.env.get t = .one (.d (.fn (.func g) caps)) := hx
      rw [hx] at rf
      have rf : RepD w.heap (Avail F σ.mem β w.heap) (.fn (.func g) caps) (a.tmps.getD t undef) := rf
      have : ∃ vs, a.tmps.getD t undef = .func (.func g) #[] vs ∧ All2 (RepD w.heap (Avail F σ.mem β w.heap)) caps vs.toList := by
       generalize a.tmps.getD t undef = q at rf
       cases rf with
       | fn _ _ vs hl hr => exact ⟨vs, rfl, All2.of_get (by simpa using hl.symm) fun i c v hc hv => hr i c v hc (by simpa using hv)⟩
      obtain ⟨vs, e1, e2⟩ := this
      exact fin g _ vs e1 (e2.map (f := fun c => V.one (C.d c)) fun c u hcu => hcu) he
    · cases he
  · cases ht
 | _ => rw [ho] at ht; simp [trOp] at ht
end

section
/-! ## Operations one after the other, in any order that is permitted -/
variable {P : Program}


/-- States that say the same. -/
def St.eqv (σ τ : St) : Prop := (∀ t, σ.env.get t = τ.env.get t) ∧ σ.mem = τ.mem
theorem St.eqv.refl (σ : St) : σ.eqv σ := ⟨fun _ => rfl, rfl⟩
theorem St.eqv.symm {σ τ : St} (h : σ.eqv τ) : τ.eqv σ := ⟨fun t => (h.1 t).symm, h.2.symm⟩
theorem St.eqv.trans {a b c : St} (h : a.eqv b) (k : b.eqv c) : a.eqv c := ⟨fun t => (h.1 t).trans (k.1 t), h.2.trans k.2⟩

theorem arg_congr {σ τ : St} {x : Arg} (h : ∀ t ∈ x.tmp?, σ.env.get t = τ.env.get t) : σ.arg x = τ.arg x := by
 cases x with
 | t n => exact h n (by simp [Arg.tmp?])
 | k v => rfl
 | f g => rfl
theorem args_congr {σ τ : St} {xs : List Arg} (h : ∀ t ∈ xs.flatMap Arg.tmp?, σ.env.get t = τ.env.get t) : xs.map σ.arg = xs.map τ.arg :=
 List.map_congr_left fun x hx => arg_congr fun t ht => h t (List.mem_flatMap.2 ⟨x, hx, ht⟩)
theorem opt_congr {σ τ : St} {x : Option Arg} (h : ∀ t ∈ optT x, σ.env.get t = τ.env.get t) : x.map σ.arg = x.map τ.arg := by
 cases x with
 | none => rfl
 | some x => exact congrArg some (arg_congr h)

/-- It looks at its operands and at memory, and at nothing else. -/
theorem evO_congr {call : Call} {σ τ : St} {o : MOp} (h : ∀ t ∈ o.tmps, σ.env.get t = τ.env.get t) (hm : σ.mem = τ.mem) : evO call σ o = evO call τ o := by
 cases o <;> simp only [MOp.tmps, List.mem_append] at h <;> simp only [evO, hm]
 case mov x => rw [arg_congr h]
 case nilc x => rw [arg_congr h]
 case pick c a b => rw [arg_congr (x := c) fun t ht => h t (.inl (.inl ht)), arg_congr (x := a) fun t ht => h t (.inl (.inr ht)), arg_congr (x := b) fun t ht => h t (.inr ht)]
 case bin op x y => rw [arg_congr (x := x) fun t ht => h t (.inl ht), arg_congr (x := y) fun t ht => h t (.inr ht)]
 case eqs n g ks x y => rw [arg_congr (x := x) fun t ht => h t (.inl ht), arg_congr (x := y) fun t ht => h t (.inr ht)]
 case isn n x => rw [arg_congr h]
 case not x => rw [arg_congr h]
 case neg x => rw [arg_congr h]
 case conv k x => rw [arg_congr h]
 case box x => rw [arg_congr h]
 case build z ps =>
  have : (ps.map fun p => (p.1, p.2.1, σ.arg p.2.2)) = ps.map fun p => (p.1, p.2.1, τ.arg p.2.2) := List.map_congr_left fun p hp => by
   rw [arg_congr fun t ht => h t (List.mem_flatMap.2 ⟨p, hp, ht⟩)]
  rw [this]
 case lit d z n ps =>
  have : (ps.map fun p => (p.1, σ.arg p.2)) = ps.map fun p => (p.1, τ.arg p.2) := List.map_congr_left fun p hp => by
   rw [arg_congr fun t ht => h t (List.mem_flatMap.2 ⟨p, hp, ht⟩)]
  rw [this]
 case load n g x => rw [arg_congr h]
 case store n x y => rw [arg_congr (x := x) fun t ht => h t (.inl ht), arg_congr (x := y) fun t ht => h t (.inr ht)]
 case faddr off x => rw [arg_congr h]
 case field off n g x => rw [arg_congr h]
 case iaddr z x y => rw [arg_congr (x := x) fun t ht => h t (.inl ht), arg_congr (x := y) fun t ht => h t (.inr ht)]
 case aaddr n s x y => rw [arg_congr (x := x) fun t ht => h t (.inl ht), arg_congr (x := y) fun t ht => h t (.inr ht)]
 case slice z x lo hi mx =>
  rw [arg_congr (x := x) fun t ht => h t (.inl (.inl (.inl ht))), opt_congr (x := lo) fun t ht => h t (.inl (.inl (.inr ht))), opt_congr (x := hi) fun t ht => h t (.inl (.inr ht)), opt_congr (x := mx) fun t ht => h t (.inr ht)]
 case mkslice z x y => rw [arg_congr (x := x) fun t ht => h t (.inl ht), arg_congr (x := y) fun t ht => h t (.inr ht)]
 case len s x => rw [arg_congr h]
 case min xs => rw [args_congr h]
 case max xs => rw [args_congr h]
 case append z x y => rw [arg_congr (x := x) fun t ht => h t (.inl ht), arg_congr (x := y) fun t ht => h t (.inr ht)]
 case ext x i => rw [arg_congr h]
 case call p g xs => rw [args_congr h]
 case callv x xs => rw [arg_congr (x := x) fun t ht => h t (.inl ht), args_congr (xs := xs) fun t ht => h t (.inr ht)]
 case mkfn f xs => rw [args_congr h]
 case insert x k v => rw [arg_congr (x := x) fun t ht => h t (.inl (.inl ht)), arg_congr (x := k) fun t ht => h t (.inl (.inr ht)), arg_congr (x := v) fun t ht => h t (.inr ht)]
 case sidx x k => rw [arg_congr (x := x) fun t ht => h t (.inl ht), arg_congr (x := k) fun t ht => h t (.inr ht)]
 case vidx n sz g x k => rw [arg_congr (x := x) fun t ht => h t (.inl ht), arg_congr (x := k) fun t ht => h t (.inr ht)]
 case lookup x k => rw [arg_congr (x := x) fun t ht => h t (.inl ht), arg_congr (x := k) fun t ht => h t (.inr ht)]

/-- What does not look at memory leaves it, whatever it is. -/
theorem evO_pure {call : Call} {σ : St} {o : MOp} (hc : o.cls = 0) {v : V} {m' : Heap} (h : evO call σ o = some (v, m')) : m' = σ.mem ∧ ∀ m, evO call ⟨σ.env, m⟩ o = some (v, m) := by
 have same : ∀ (x : Option V), (x.bind fun v => some (v, σ.mem)) = some (v, m') → m' = σ.mem ∧ x = some v := by
  intro x hx
  obtain ⟨u, h1, h2⟩ := bind_some' hx
  cases h2
  exact ⟨rfl, h1⟩
 have ea : ∀ m, (⟨σ.env, m⟩ : St).arg = σ.arg := fun m => by funext x; cases x <;> rfl
 cases o <;> simp only [MOp.cls] at hc <;> first | (cases hc; done) | skip
 case mov x => simp only [evO] at h; cases h; exact ⟨rfl, fun m => by simp only [evO, ea]⟩
 case nilc x =>
  simp only [evO] at h
  split at h
  · rename_i hx; cases h; exact ⟨rfl, fun m => by simp only [evO, ea, hx]⟩
  · rename_i hx; cases h; exact ⟨rfl, fun m => by simp only [evO, ea, hx]⟩
  · cases h
 case pick c a b =>
  simp only [evO] at h
  obtain ⟨p, h1, h2⟩ := bind_some' h
  cases h2
  exact ⟨rfl, fun m => by simp only [evO, ea, h1, Option.bind_some]⟩
 case bin op x y =>
  simp only [evO] at h
  obtain ⟨p, h1, h⟩ := bind_some' h
  obtain ⟨q, h2, h⟩ := bind_some' h
  obtain ⟨u, h3, h⟩ := bind_some' h
  cases h
  exact ⟨rfl, fun m => by simp only [evO, ea, h1, h2, h3, Option.bind_some]⟩
 case eqs n g ks x y =>
  simp only [evO] at h
  obtain ⟨p, h1, h⟩ := bind_some' h
  obtain ⟨q, h2, h⟩ := bind_some' h
  obtain ⟨u, h3, h⟩ := bind_some' h
  cases h
  exact ⟨rfl, fun m => by simp only [evO, ea, h1, h2, h3, Option.bind_some]⟩
 case isn n x =>
  simp only [evO] at h
  obtain ⟨c, h1, h⟩ := bind_some' h
  split at h
  · cases h; exact ⟨rfl, fun m => by simp only [evO, ea, h1, Option.bind_some]⟩
  · split at h
    · rename_i hl
      cases h; exact ⟨rfl, fun m => by simp only [evO, ea, h1, Option.bind_some, if_pos hl]⟩
    · cases h
  · cases h
 case not x =>
  simp only [evO] at h
  obtain ⟨p, h1, h⟩ := bind_some' h
  cases h
  exact ⟨rfl, fun m => by simp only [evO, ea, h1, Option.bind_some]⟩
 case neg x =>
  simp only [evO] at h
  obtain ⟨p, h1, h⟩ := bind_some' h
  cases h
  exact ⟨rfl, fun m => by simp only [evO, ea, h1, Option.bind_some]⟩
 case conv k x =>
  simp only [evO] at h
  obtain ⟨p, h1, h⟩ := bind_some' h
  cases h
  exact ⟨rfl, fun m => by simp only [evO, ea, h1, Option.bind_some]⟩
 case build z ps =>
  simp only [evO] at h
  obtain ⟨p, h1, h⟩ := bind_some' h
  cases h
  exact ⟨rfl, fun m => by simp only [evO, ea, h1, Option.bind_some]⟩
 case lit d z n ps =>
  cases d with
  | true =>
   simp only [evO, if_true] at h
   obtain ⟨p, h1, h⟩ := bind_some' h
   cases h
   exact ⟨rfl, fun m => by simp only [evO, if_true, ea, h1, Option.bind_some]⟩
  | false => cases hc
 case faddr off x =>
  simp only [evO] at h
  obtain ⟨c, h1, h⟩ := bind_some' h
  split at h
  · cases h; exact ⟨rfl, fun m => by simp only [evO, ea, h1, Option.bind_some]⟩
  · cases h; exact ⟨rfl, fun m => by simp only [evO, ea, h1, Option.bind_some]⟩
  · cases h
 case sidx x i =>
  simp only [evO] at h
  obtain ⟨c, h1, h2⟩ := bind_some' h
  clear h
  obtain ⟨p, h3, h⟩ := bind_some' h2
  clear h2
  split at h
  · split at h
    · rename_i h0
      obtain ⟨b, h4, h⟩ := bind_some' h
      cases h
      exact ⟨rfl, fun m => by simp only [evO, ea, h1, h3, Option.bind_some, if_pos h0, h4]⟩
    · cases h
  · cases h
 case vidx n sz g x i =>
  simp only [evO] at h
  obtain ⟨p, h1, h2⟩ := bind_some' h
  clear h
  split at h2
  · rename_i cs hx
    split at h2
    · rename_i h0
      obtain ⟨b, h4, h⟩ := bind_some' h2
      cases h
      exact ⟨rfl, fun m => by simp only [evO, ea, h1, hx, Option.bind_some, if_pos h0, h4]⟩
    · cases h2
  · cases h2
 case field off n g x =>
  simp only [evO] at h
  split at h
  · rename_i cs hx
    obtain ⟨u, h1, h⟩ := bind_some' h
    cases h
    exact ⟨rfl, fun m => by simp only [evO, ea, hx, h1, Option.bind_some]⟩
  · cases h
 case len s x =>
  cases s with
  | true =>
   simp only [evO, if_true] at h
   obtain ⟨c, h1, h⟩ := bind_some' h
   split at h
   · cases h; exact ⟨rfl, fun m => by simp only [evO, ea, h1, Option.bind_some, if_true]⟩
   · cases h
  | false =>
   simp only [evO, Bool.false_eq_true, if_false] at h
   obtain ⟨c, h1, h⟩ := bind_some' h
   split at h
   · cases h; exact ⟨rfl, fun m => by simp only [evO, ea, h1, Option.bind_some, Bool.false_eq_true, if_false]⟩
   · cases h; exact ⟨rfl, fun m => by simp only [evO, ea, h1, Option.bind_some, Bool.false_eq_true, if_false]⟩
   · cases h; exact ⟨rfl, fun m => by simp only [evO, ea, h1, Option.bind_some, Bool.false_eq_true, if_false]⟩
   · cases h
 case min xs =>
  simp only [evO] at h
  obtain ⟨e, h1⟩ := same _ h
  exact ⟨e, fun m => by simp only [evO, ea, h1, Option.bind_some]⟩
 case max xs =>
  simp only [evO] at h
  obtain ⟨e, h1⟩ := same _ h
  exact ⟨e, fun m => by simp only [evO, ea, h1, Option.bind_some]⟩
 case ext x i =>
  simp only [evO] at h
  split at h
  · rename_i xs hx
    split at h
    · rename_i g cs hi
      obtain ⟨u, h1, h⟩ := bind_some' h
      cases h
      exact ⟨rfl, fun m => by simp only [evO, ea, hx, hi, h1, Option.bind_some]⟩
    · cases h
  · cases h
 case call p g xs =>
  cases p with
  | true =>
   simp only [evO, doCall, if_true] at h
   split at h
   · rename_i hns
     obtain ⟨x, h1, h⟩ := bind_some' h
     split at h
     · rename_i hx
       cases h
       exact ⟨rfl, fun m => by simp only [evO, ea, doCall, if_true, hns, h1, Option.bind_some, hx]⟩
     · cases h
   · cases h
  | false => cases hc
 case mkfn f xs =>
  simp only [evO] at h
  obtain ⟨cs, h1, h⟩ := bind_some' h
  cases h
  exact ⟨rfl, fun m => by simp only [evO, ea, h1, Option.bind_some]⟩
theorem evO_reads {call : Call} {σ : St} {o : MOp} (hc : o.cls = 1) {v : V} {m' : Heap} (h : evO call σ o = some (v, m')) : m' = σ.mem := by
 cases o <;> simp only [MOp.cls] at hc <;> first | (cases hc; done) | skip
 case lit d z n ps => cases d <;> simp at hc
 case call p g xs => cases p <;> simp at hc
 case load n g x =>
  simp only [evO] at h
  obtain ⟨c, h1, h⟩ := bind_some' h
  obtain ⟨cs, h2, h⟩ := bind_some' h
  obtain ⟨u, h3, h⟩ := bind_some' h
  cases h; rfl
 case lookup x y =>
  simp only [evO] at h
  obtain ⟨c, h1, h2⟩ := bind_some' h
  clear h
  obtain ⟨i, h3, h⟩ := bind_some' h2
  clear h2
  split at h
  · split at h
    · split at h
      · obtain ⟨d, h4, h⟩ := bind_some' h
        cases h; rfl
      · cases h
    · cases h
  · cases h
 case iaddr z x y =>
  simp only [evO] at h
  obtain ⟨c, h1, h2⟩ := bind_some' h
  clear h
  obtain ⟨i, h3, h⟩ := bind_some' h2
  clear h2
  split at h
  · split at h
    · split at h
      · cases h; rfl
      · cases h
    · cases h
  · split at h
    · split at h
      · split at h
        · cases h; rfl
        · cases h
      · cases h
    · cases h
  · cases h
 case aaddr n s x y =>
  simp only [evO] at h
  obtain ⟨c, h1, h2⟩ := bind_some' h
  clear h
  obtain ⟨i, h3, h⟩ := bind_some' h2
  clear h2
  split at h
  · split at h
    · split at h
      · split at h
        · cases h; rfl
        · cases h
      · cases h
    · split at h
      · cases h; rfl
      · cases h
    · cases h
  · cases h
 case slice z x lo hi mx =>
  simp only [evO] at h
  obtain ⟨c, h1, h2⟩ := bind_some' h
  clear h
  split at h2
  · split at h2
    · obtain ⟨b, h3, h⟩ := bind_some' h2
      cases h; rfl
    · cases h2
  · split at h2
    · split at h2
      · obtain ⟨b, h3, h⟩ := bind_some' h2
        cases h; rfl
      · cases h2
    · cases h2
  · obtain ⟨b, h3, h⟩ := bind_some' h2
    cases h; rfl
  · cases h2

theorem act_congr {call : Call} {σ τ : St} {i : FI} (h : ∀ t ∈ i.looks, σ.env.get t = τ.env.get t) (hm : σ.mem = τ.mem) : act call i σ = act call i τ := by
 unfold FI.looks at h
 unfold act
 rw [evO_congr (call := call) (o := i.o) (fun t ht => h t (List.mem_append_right _ ht)) hm, hm]
 cases hg : i.g with
 | none => rfl
 | some p =>
  obtain ⟨t, want⟩ := p
  simp only []
  rw [hg] at h
  rw [h t (by simp)]
theorem act_pure {call : Call} {σ : St} {i : FI} (hc : i.o.cls = 0) {v : V} {m' : Heap} (h : act call i σ = some (v, m')) : m' = σ.mem ∧ ∀ m, act call i ⟨σ.env, m⟩ = some (v, m) := by
 unfold act at h
 cases hg : i.g with
 | none =>
  rw [hg] at h
  obtain ⟨h1, h2⟩ := evO_pure hc h
  exact ⟨h1, fun m => by unfold act; rw [hg]; exact h2 m⟩
 | some p =>
  obtain ⟨t, want⟩ := p
  rw [hg] at h
  simp only [] at h
  split at h
  · rename_i p hp
    split at h
    · rename_i hw
      obtain ⟨h1, h2⟩ := evO_pure hc h
      exact ⟨h1, fun m => by unfold act; rw [hg]; simp only [hp, if_pos hw]; exact h2 m⟩
    · rename_i hw
      cases h
      exact ⟨rfl, fun m => by unfold act; rw [hg]; simp only [hp, if_neg hw]⟩
  · rename_i hp
    cases h
    exact ⟨rfl, fun m => by unfold act; rw [hg]; simp only [hp]⟩
  · cases h
theorem act_reads {call : Call} {σ : St} {i : FI} (hc : i.o.cls = 1) {v : V} {m' : Heap} (h : act call i σ = some (v, m')) : m' = σ.mem := by
 unfold act at h
 split at h
 · exact evO_reads hc h
 · split at h
   · split at h
     · exact evO_reads hc h
     · cases h; rfl
   · cases h; rfl
   · cases h

theorem put_get {σ : St} {m : Heap} {d : Option Nat} {v : V} (t : Nat) : (St.put ⟨σ.env, m⟩ d v).env.get t = if d = some t then v else σ.env.get t := by
 cases d with
 | none => simp [St.put]
 | some d =>
  simp only [St.put, Env.get_put]
  by_cases c : t = d
  · subst c; simp
  · rw [if_neg c, if_neg (fun e => c (by cases e; rfl))]
theorem put_mem {σ : St} {m : Heap} {d : Option Nat} {v : V} : (St.put ⟨σ.env, m⟩ d v).mem = m := by cases d <;> rfl

theorem evFI_eqv {call : Call} {i : FI} {σ τ σ' : St} (h : σ.eqv τ) (e : evFI call i σ = some σ') : ∃ τ', evFI call i τ = some τ' ∧ σ'.eqv τ' := by
 unfold evFI at e ⊢
 obtain ⟨r, h1, h2⟩ := bind_some' e
 cases h2
 rw [← act_congr (call := call) (i := i) (fun t _ => h.1 t) h.2, h1]
 exact ⟨_, rfl, fun t => by rw [put_get, put_get, h.1 t], by rw [put_mem, put_mem]⟩
theorem evFs_eqv {call : Call} : ∀ {is : List FI} {σ τ σ' : St}, σ.eqv τ → evFs call is σ = some σ' → ∃ τ', evFs call is τ = some τ' ∧ σ'.eqv τ'
 | [], σ, τ, σ', h, e => by simp only [evFs] at e; cases e; exact ⟨τ, rfl, h⟩
 | i :: is, σ, τ, σ', h, e => by
  simp only [evFs] at e ⊢
  obtain ⟨σ1, h1, h2⟩ := bind_some' e
  obtain ⟨τ1, g1, g2⟩ := evFI_eqv h h1
  obtain ⟨τ', k1, k2⟩ := evFs_eqv g2 h2
  exact ⟨τ', by rw [g1]; exact k1, k2⟩

theorem apart_spec {i j : FI} (h : i.apart j = true) : (∀ d, i.dst = some d → d ∉ j.looks) ∧ (∀ d, i.dst = some d → j.dst ≠ some d) ∧ (∀ d, j.dst = some d → d ∉ i.looks) := by
 refine ⟨fun d hd => ?_, fun d hd => ?_, fun d hd => ?_⟩ <;> simp [FI.apart, hd] at h
 · exact h.1.1
 · exact h.1.2
 · exact h.2

/-- Two operations that do not mind each other. -/
theorem swap {call : Call} {i j : FI} {σ σ1 σ2 : St} (hc : i.comm j = true) (h1 : evFI call i σ = some σ1) (h2 : evFI call j σ1 = some σ2) :
 ∃ τ1 τ2, evFI call j σ = some τ1 ∧ evFI call i τ1 = some τ2 ∧ σ2.eqv τ2 := by
 unfold FI.comm at hc
 rw [Bool.and_eq_true] at hc
 obtain ⟨hap, hcl⟩ := hc
 obtain ⟨a1, a2, a3⟩ := apart_spec hap
 unfold evFI at h1 h2
 obtain ⟨⟨vi, mi⟩, g1, e1⟩ := bind_some' h1
 cases e1
 obtain ⟨⟨vj, mj⟩, g2, e2⟩ := bind_some' h2
 cases e2
 -- the values in the other order
 have go : ∀ (m1 : Heap), act call j σ = some (vj, m1) → act call i ⟨σ.env, m1⟩ = some (vi, mj) → ∃ τ1 τ2, evFI call j σ = some τ1 ∧ evFI call i τ1 = some τ2 ∧ (St.put ⟨(St.put ⟨σ.env, mi⟩ i.dst vi).env, mj⟩ j.dst vj).eqv τ2 := by
  intro m1 k1 k2
  refine ⟨St.put ⟨σ.env, m1⟩ j.dst vj, St.put ⟨(St.put ⟨σ.env, m1⟩ j.dst vj).env, mj⟩ i.dst vi, ?_, ?_, fun t => ?_, by rw [put_mem, put_mem]⟩
  · unfold evFI; rw [k1]; rfl
  · unfold evFI
    rw [act_congr (call := call) (i := i) (τ := ⟨σ.env, m1⟩) (fun t ht => by
     rw [put_get]
     rw [if_neg (fun e => a3 t e ht)]) (by rw [put_mem]), k2]
    rfl
  · rw [put_get, put_get, put_get, put_get]
    by_cases c1 : j.dst = some t
    · rw [if_pos c1, if_pos c1, if_neg (fun c2 => a2 t c2 c1)]
    · rw [if_neg c1, if_neg c1]
 have gj : ∀ m, act call j (St.put ⟨σ.env, m⟩ i.dst vi) = act call j ⟨σ.env, m⟩ := fun m => act_congr (fun t ht => by
  rw [put_get]
  rw [if_neg (fun e => a1 t e ht)]) (by rw [put_mem])
 rw [gj mi] at g2
 simp only [Bool.or_eq_true, beq_iff_eq, Bool.and_eq_true] at hcl
 rcases hcl with (hcl | hcl) | hcl
 · obtain ⟨k1, k2⟩ := act_pure hcl g1
   subst k1
   exact go mj g2 (k2 mj)
 · obtain ⟨k1, k2⟩ := act_pure hcl g2
   simp only [] at k1
   subst k1
   refine go σ.mem (k2 σ.mem) g1
 · have k1 := act_reads hcl.1 g1
   subst k1
   have k2 := act_reads hcl.2 g2
   simp only [] at k2
   subst k2
   exact go _ g2 g1
theorem bubble {call : Call} {i : FI} : ∀ {pre : List FI} {σ σ' : St}, (∀ j ∈ pre, j.comm i = true) → evFs call (pre ++ [i]) σ = some σ' → ∃ τ τ', evFI call i σ = some τ ∧ evFs call pre τ = some τ' ∧ σ'.eqv τ'
 | [], σ, σ', _, h => by
  simp only [List.nil_append, evFs] at h
  obtain ⟨τ, h1, h2⟩ := bind_some' h
  cases h2
  exact ⟨_, _, h1, rfl, .refl _⟩
 | j :: pre, σ, σ', hc, h => by
  simp only [List.cons_append, evFs] at h
  obtain ⟨σ1, h1, h2⟩ := bind_some' h
  obtain ⟨τ, τ', g1, g2, g3⟩ := bubble (fun x hx => hc x (by simp [hx])) h2
  obtain ⟨ρ1, ρ2, k1, k2, k3⟩ := swap (hc j (by simp)) h1 g1
  obtain ⟨ρ', l1, l2⟩ := evFs_eqv k3 g2
  exact ⟨ρ1, ρ', k1, by simp only [evFs, k2, Option.bind_some]; exact l1, g3.trans l2⟩
theorem evFs_app {call : Call} : ∀ {as bs : List FI} {σ σ' : St}, evFs call (as ++ bs) σ = some σ' ↔ ∃ τ, evFs call as σ = some τ ∧ evFs call bs τ = some σ'
 | [], bs, σ, σ' => by simp [evFs]
 | a :: as, bs, σ, σ' => by
  simp only [List.cons_append, evFs]
  constructor
  · intro h
    obtain ⟨σ1, h1, h2⟩ := bind_some' h
    obtain ⟨τ, g1, g2⟩ := evFs_app.1 h2
    exact ⟨τ, by rw [h1]; exact g1, g2⟩
  · rintro ⟨τ, h1, h2⟩
    obtain ⟨σ1, g1, g2⟩ := bind_some' h1
    rw [g1]
    exact evFs_app.2 ⟨τ, g2, h2⟩
end

section
/-! ## A region -/
variable {P : Program}

/-- The marks of ranges over functions among the deferred calls: nothing was deferred in their rounds. -/
def Marks (s0 : Nat) (rs ls : List Nat) (ds : List Deferred) (h : Array Obj) : Prop :=
 ds = rs.map (fun r => { target := .collected r, args := #[] }) ∧ rs.Nodup ∧ (∀ r ∈ rs, h[r]? = some (.deferred (some [])) ∧ s0 ≤ r) ∧ ∀ l ∈ ls, s0 ≤ l
theorem Marks.evo {F : Nat → Prop} {m m' : Heap} {β β' : Place} {w w' : World} {s0 : Nat} {rs ls : List Nat} {ds : List Deferred} (hF : ∀ r ∈ rs, F r) (E : Evo F m β w m' β' w') (h : Marks s0 rs ls ds w.heap) : Marks s0 rs ls ds w'.heap := by
 obtain ⟨h1, h2, h3, h4⟩ := h
 refine ⟨h1, h2, fun r hr => ⟨?_, (h3 r hr).2⟩, h4⟩
 rw [E.fo r (Array.getElem?_eq_some_iff.1 (h3 r hr).1).1 (hF r hr)]
 exact (h3 r hr).1

/-- What holds of the machine where the abstract state is 'σ', since the call began. -/
structure Ground where
 F : Nat → Prop
 m0 : Heap
 β0 : Place
 w0 : World
 N : Nat
 rs : List Nat
 ls : List Nat
def Ground.Fr (G : Ground) : Nat → Prop := fun b => (G.F b ∨ b ∈ G.ls) ∨ b ∈ G.rs
def RelS (G : Ground) (σ : St) (a : Act) (w : World) : Prop :=
 ∃ β, MemOK G.Fr σ.mem β w.heap ∧ Evo G.Fr G.m0 G.β0 G.w0 σ.mem β w ∧ EnvOK w.heap (Avail G.Fr σ.mem β w.heap) σ.mem β σ.env a ∧ a.tmps.size = G.N ∧ Marks G.w0.heap.size G.rs G.ls a.defers w.heap
theorem RelS.eqv {G : Ground} {σ τ : St} {a : Act} {w : World} (h : σ.eqv τ) (r : RelS G σ a w) : RelS G τ a w := by
 obtain ⟨β, h1, h2, h3, h4, h5⟩ := r
 exact ⟨β, h.2 ▸ h1, h.2 ▸ h2, fun t => by rw [← h.1 t, ← h.2]; exact h3 t, h4, h5⟩

/-- One of mine against one of the program's. -/
def TrF (P : Program) (N : Nat) (ops : Array Oper) (i : FI) (o : Oper) : Prop :=
 o.dst = i.dst ∧ dstOk N o.dst = true ∧ guardOk ops o i.g = true ∧ ∃ m0, trOp P o.op m0 = some i.o

theorem RelS.put {G : Ground} {σ : St} {a : Act} {w w' : World} {β β' : Place} {m' : Heap} {d : Option Nat} {v : V} {u : Value} (hm : MemOK G.Fr σ.mem β w.heap) (hE : Evo G.Fr G.m0 G.β0 G.w0 σ.mem β w)
 (hk : EnvOK w.heap (Avail G.Fr σ.mem β w.heap) σ.mem β σ.env a) (hs : a.tmps.size = G.N) (hd : Marks G.w0.heap.size G.rs G.ls a.defers w.heap) (hdst : dstOk G.N d = true)
 (hm' : MemOK G.Fr m' β' w'.heap) (E : Evo G.Fr σ.mem β w m' β' w') (r : RepV w'.heap (Avail G.Fr m' β' w'.heap) m' β' v u) : RelS G (St.put ⟨σ.env, m'⟩ d v) (a.put d u) w' := by
 refine ⟨β', by rw [put_mem]; exact hm', by rw [put_mem]; exact hE.trans E, ?_, ?_, ?_⟩
 · rw [put_mem]
   have k' := EnvOK.evo E hk
   cases d with
   | none => exact k'
   | some d =>
    have : d < a.tmps.size := by rw [hs]; simpa [dstOk] using hdst
    exact k'.put this r
 · cases d with
   | none => exact hs
   | some d => simpa [Act.put] using hs
 · have : (a.put d u).defers = a.defers := by cases d <;> rfl
   rw [this]
   exact hd.evo (fun r hr => .inr hr) E

/-- One operation. -/
theorem step_ok {call : Call} (hc : CallOK P call) {G : Ground} {r : Option Nat} {ops : Array Oper} {i : FI} {n : Nat} {o : Oper} {σ σ' : St} {a : Act} {w : World} {K : Act → World → Prop} {Q : Exit → Act → World → Prop}
 (ho : ops[n]? = some o) (ht : TrF P G.N ops i o) (e : evFI call i σ = some σ') (hr : RelS G σ a w) (hK : ∀ a' w', RelS G σ' a' w' → K a' w') : wpOpIn (W r) 0 P ops Q n K a w := by
 obtain ⟨β, hm, hE, hk, hs, hd⟩ := hr
 obtain ⟨t1, t2, t3, m0, t4⟩ := ht
 unfold wpOpIn
 simp only [ho]
 unfold evFI at e
 obtain ⟨⟨v, m'⟩, h1, h2⟩ := bind_some' e
 cases h2
 have exec : evO call σ i.o = some (v, m') → o.wpIn (W r) 0 P a w K Q := fun he =>
  op_sound hc t4 he hm hk fun u w' β' g1 g2 g3 => hK _ _ (by rw [t1]; exact RelS.put hm hE hk hs hd (t1 ▸ t2) g1 g2 g3)
 have skip : (v, m') = (.tup [], σ.mem) → ((∀ f, o.about P w a.eval = some f → (W r).fn f) ∧ K (a.put o.dst undef) w) := fun he => by
  cases he
  exact ⟨fun _ _ => trivial, hK _ _ (by rw [t1]; exact RelS.put hm hE hk hs hd (t1 ▸ t2) hm (.refl _ _ _ _) ⟨#[], rfl, .nil⟩)⟩
 unfold act at h1
 unfold guardOk at t3
 cases hg : i.g with
 | none =>
  rw [hg] at h1 t3
  cases hog : o.guard with
  | none =>
   have : Region.wanted o (yielded ops a.tmps) = true := by simp [Region.wanted, hog]
   rw [if_pos this]
   exact exec h1
  | some p => rw [hog] at t3; cases p; cases t3
 | some p =>
  obtain ⟨t, want⟩ := p
  rw [hg] at h1 t3
  cases hog : o.guard with
  | none => rw [hog] at t3; cases t3
  | some q =>
   obtain ⟨j, want'⟩ := q
   rw [hog] at t3
   simp only [Bool.and_eq_true, beq_iff_eq] at t3
   obtain ⟨rfl, hj⟩ := t3
   have hkt := hk t
   simp only [] at h1
   split at h1
   · rename_i p hp
     rw [hp] at hkt
     have hkt : RepD w.heap (Avail G.Fr σ.mem β w.heap) (.bool p) (a.tmps.getD t undef) := hkt
     have hv : a.tmps[t]? = some (.bool p) := by
      generalize hq : a.tmps.getD t undef = q at hkt
      cases hkt
      rw [Array.getD_eq_getD_getElem?] at hq
      cases hh : a.tmps[t]? with
      | none => rw [hh] at hq; cases hq
      | some x => rw [hh] at hq; simp at hq; rw [hq]
     have hy : yielded ops a.tmps j = some p := by simp [yielded, hj, hv]
     split at h1
     · rename_i hw
       have : Region.wanted o (yielded ops a.tmps) = true := by simp [Region.wanted, hog, hy, hw]
       rw [if_pos this]
       exact exec h1
     · rename_i hw
       have : ¬ Region.wanted o (yielded ops a.tmps) = true := by simp [Region.wanted, hog, hy]; exact hw
       rw [if_neg this]
       exact skip (by cases h1; rfl)
   · rename_i hp
     rw [hp] at hkt
     obtain ⟨vs, hv, hvs⟩ := hkt
     have hvs0 : vs = #[] := by
      have := hvs.length
      apply Array.ext'
      simpa [eq_comm] using this
     subst hvs0
     have hy : yielded ops a.tmps j = none := by
      simp only [yielded, hj, Option.bind_some]
      rw [Array.getD_eq_getD_getElem?] at hv
      cases hh : a.tmps[t]? with
      | none => rfl
      | some x => rw [hh] at hv; simp at hv; rw [hv]
     have : ¬ Region.wanted o (yielded ops a.tmps) = true := by simp [Region.wanted, hog, hy]
     rw [if_neg this]
     exact skip (by cases h1; rfl)
   · cases h1

/-- In the text's order. -/
theorem seq_ok {call : Call} (hc : CallOK P call) {G : Ground} {r : Option Nat} {ops : Array Oper} {Q : Exit → Act → World → Prop} : ∀ (is : List FI) (ns : List Nat) (σ σ' : St) (a : Act) (w : World),
 All2 (fun i n => ∃ o, ops[n]? = some o ∧ TrF P G.N ops i o) is ns → evFs call is σ = some σ' → RelS G σ a w → (∀ a' w', RelS G σ' a' w' → Q .normal a' w') → wpOpsIn (W r) 0 P ops Q ns a w := by
 intro is
 induction is with
 | nil => intro ns σ σ' a w h e hr hQ; cases h; simp only [evFs] at e; cases e; exact hQ _ _ hr
 | cons i is ih =>
  intro ns σ σ' a w h e hr hQ
  cases h with
  | cons h1 t =>
   obtain ⟨o, g1, g2⟩ := h1
   simp only [evFs] at e
   obtain ⟨σ1, e1, e2⟩ := bind_some' e
   rw [wpOpsIn_cons]
   exact step_ok hc g1 g2 e1 hr fun a' w' hr' => ih _ _ _ _ _ t e2 hr' hQ

/-! ### A drawn order -/
theorem foldl_bits {L : Nat → Prop} {acc : Array Nat} : ∀ (es : List Edge) (s : Nat), (∀ j, s.testBit j = true → L j) → (∀ e ∈ es, Region.binds .any e = true → L e.on ∧ ∀ j, (acc.getD e.on 0).testBit j = true → L j) →
 ∀ j, (es.foldl (fun s e => if Region.binds .any e = true then s ||| 2 ^ e.on ||| acc.getD e.on 0 else s) s).testBit j = true → L j
 | [], s, h, _ => fun j hj => h j hj
 | e :: es, s, h, k => by
  simp only [List.foldl_cons]
  refine foldl_bits es _ (fun j hj => ?_) (fun x hx => k x (by simp [hx]))
  split at hj
  · rename_i hb
    obtain ⟨k1, k2⟩ := k e (by simp) hb
    rw [Nat.testBit_or, Nat.testBit_or, Bool.or_eq_true, Bool.or_eq_true] at hj
    rcases hj with (hj | hj) | hj
    · exact h j hj
    · rw [Nat.testBit_two_pow] at hj
      simp at hj
      subst hj; exact k1
    · exact k2 j hj
  · exact h j hj
/-- What comes before an operation, in whatever order: it lies in every set that holds the direct ones and is closed. -/
theorem before_spec (ops : Array Oper) {L : Nat → Prop} (hL : ∀ i o, L i → ops[i]? = some o → ∀ e ∈ o.after, Region.binds .any e = true → L e.on) :
 ∀ i o, ops[i]? = some o → (∀ e ∈ o.after, Region.binds .any e = true → L e.on) → ∀ j, ((Region.before ops).getD i 0).testBit j = true → L j := by
 obtain ⟨f, hf⟩ : ∃ f : Array Nat → Oper → Array Nat, f = fun acc o => acc.push (o.after.foldl (fun s e => if Region.binds .any e = true then s ||| 2 ^ e.on ||| acc.getD e.on 0 else s) 0) := ⟨_, rfl⟩
 have key : ∀ (l pre : List Oper) (acc : Array Nat), pre ++ l = ops.toList → acc.size = pre.length →
  (∀ i o, i < pre.length → ops[i]? = some o → (∀ e ∈ o.after, Region.binds .any e = true → L e.on) → ∀ j, (acc.getD i 0).testBit j = true → L j) →
  ∀ i o, ops[i]? = some o → (∀ e ∈ o.after, Region.binds .any e = true → L e.on) → ∀ j, ((l.foldl f acc).getD i 0).testBit j = true → L j := by
  intro l
  induction l with
  | nil =>
   intro pre acc hp hs h i o ho
   simp only [List.append_nil] at hp
   have hi : i < pre.length := by rw [hp]; have := (Array.getElem?_eq_some_iff.1 ho).1; simpa using this
   exact h i o hi ho
  | cons x l ih =>
   intro pre acc hp hs h
   simp only [List.foldl_cons]
   refine ih (pre ++ [x]) (f acc x) (by simp [hp]) (by rw [hf]; simp [hs]) fun i o hi ho hafter j hj => ?_
   have hx : ops[pre.length]? = some x := by
    rw [← Array.getElem?_toList, ← hp]; simp
   by_cases c : i < pre.length
   · have : (f acc x).getD i 0 = acc.getD i 0 := by
      rw [hf]
      simp [Array.getD_eq_getD_getElem?, Array.getElem?_push, show i ≠ acc.size by omega]
     rw [this] at hj
     exact h i o c ho hafter j hj
   · have hi' : i = pre.length := by simp at hi; omega
     subst hi'
     rw [hx] at ho
     cases ho
     have : (f acc x).getD pre.length 0 = x.after.foldl (fun s e => if Region.binds .any e = true then s ||| 2 ^ e.on ||| acc.getD e.on 0 else s) 0 := by
      rw [hf]
      rw [Array.getD_eq_getD_getElem?, ← hs, Array.getElem?_push_size]; rfl
     rw [this, ← Array.foldl_toList] at hj
     refine foldl_bits x.after.toList 0 (fun j hj => by simp at hj) (fun e he hb => ?_) j hj
     have hLe := hafter e (by simpa using he) hb
     refine ⟨hLe, fun j hj => ?_⟩
     by_cases c2 : e.on < pre.length
     · have hlt : e.on < ops.size := by
        have : pre.length ≤ ops.toList.length := by rw [← hp]; simp
        simp at this; omega
       have ho' : ops[e.on]? = some ops[e.on] := Array.getElem?_eq_getElem hlt
       exact h e.on _ c2 ho' (hL e.on _ hLe ho') j hj
     · have : acc.getD e.on 0 = 0 := by simp [Array.getD_eq_getD_getElem?, Array.getElem?_eq_none (show acc.size ≤ e.on by omega)]
       rw [this] at hj
       simp at hj
 intro i o ho hafter j hj
 refine key ops.toList [] #[] rfl rfl (fun i o h => by simp at h) i o ho hafter j ?_
 have : Region.before ops = ops.toList.foldl f #[] := by
  unfold Region.before
  rw [← Array.foldl_toList, hf]
 rw [← this]; exact hj

theorem drawn_ok {call : Call} (hc : CallOK P call) {G : Ground} {r : Option Nat} {ops : Array Oper} {Q : Exit → Act → World → Prop} {is : List FI} (hl : is.length = ops.size)
 (ht : ∀ (n : Nat) (i : FI) (o : Oper), is[n]? = some i → ops[n]? = some o → TrF P G.N ops i o) (hd : drawOk ops is = true) {σf : St} (hQ : ∀ a' w', RelS G σf a' w' → Q .normal a' w') :
 ∀ (fuel : Nat) (listed : Array Bool) (L : List Nat) (σ σ' : St) (a : Act) (w : World), listed.size = ops.size → L.length = fuel →
  (∀ n, n ∈ L ↔ n < ops.size ∧ listed.getD n true = false) → L.Pairwise (· < ·) → (∀ n o, listed.getD n false = true → ops[n]? = some o → ∀ e ∈ o.after, Region.binds .any e = true → listed.getD e.on false = true) →
  evFs call (L.map fun n => is.getD n default) σ = some σ' → σ'.eqv σf → RelS G σ a w → wpAnyIn (W r) 0 P .any ops Q fuel listed a w := by
 obtain ⟨hd1, hd2⟩ := drawOk_spec hd
 have inst : ∀ (listed : Array Bool) (n : Nat), listed.size = ops.size → n < ops.size → ∀ d, listed.getD n d = listed[n]?.getD false := by
  intro listed n hs hn d
  have : n < listed.size := by omega
  simp [Array.getD_eq_getD_getElem?, Array.getElem?_eq_getElem this]
 intro fuel
 induction fuel with
 | zero =>
  intro listed L σ σ' a w hs hlen hmem hp hcl e he hr
  have : L = [] := List.eq_nil_of_length_eq_zero hlen
  subst this
  simp only [List.map_nil, evFs] at e
  cases e
  refine ⟨?_, hQ _ _ (hr.eqv he)⟩
  unfold Region.ready
  rw [List.filter_eq_nil_iff]
  intro n hn
  have hn' : n < ops.size := by simpa using hn
  have : listed.getD n true ≠ false := fun c => by simpa using (hmem n).2 ⟨hn', c⟩
  simp at this
  simp [this]
 | succ fuel ih =>
  intro listed L σ σ' a w hs hlen hmem hp hcl e he hr
  refine ⟨fun hnil => ?_, fun i hi => ?_⟩
  · exfalso
    cases L with
    | nil => simp at hlen
    | cons n L =>
     obtain ⟨hn, hn2⟩ := (hmem n).1 (by simp)
     have hon : ops[n]? = some ops[n] := Array.getElem?_eq_getElem hn
     have : n ∈ Region.ready .any ops listed := mem_ready.2 ⟨hn2, _, hon, fun e he hb => by
      have h1 := hd2 n _ (by omega) hon e he hb
      have h2 : e.on ∉ n :: L := by
       intro h
       rcases List.mem_cons.1 h with h | h
       · omega
       · have := (List.pairwise_cons.1 hp).1 _ h; omega
      have h3 : ¬ listed.getD e.on true = false := fun c => h2 ((hmem e.on).2 ⟨by omega, c⟩)
      rw [inst listed _ hs (by omega)] at h3 ⊢
      simpa using h3⟩
     rw [hnil] at this
     cases this
  · obtain ⟨hjun, oj, hoj, hall⟩ := mem_ready.1 hi
    have hio : i < ops.size := (Array.getElem?_eq_some_iff.1 hoj).1
    have hil : is[i]? = some (is.getD i default) := by
     rw [List.getD_eq_getElem?_getD, List.getElem?_eq_getElem (by omega)]; rfl
    obtain ⟨pre, post, rfl⟩ := List.append_of_mem ((hmem i).2 ⟨hio, hjun⟩)
    have hpw := List.pairwise_append.1 hp
    rw [List.map_append, List.map_cons, List.append_cons] at e
    obtain ⟨τ, e1, e2⟩ := evFs_app.1 e
    obtain ⟨τ1, τ', g1, g2, g3⟩ := bubble (fun x hx => by
     obtain ⟨k, hk, rfl⟩ := List.mem_map.1 hx
     have hki : k < i := hpw.2.2 k hk i (by simp)
     have hkL := (hmem k).1 (by simp [hk])
     refine (hd1 i (by omega) k hki).resolve_left fun hb => ?_
     have := before_spec ops (L := fun j => listed.getD j false = true) hcl i oj hoj hall k hb
     have h5 := hkL.2
     rw [inst listed _ hs hkL.1] at this h5
     rw [this] at h5; cases h5) e1
    obtain ⟨σ'', k1, k2⟩ := evFs_eqv g3 e2
    refine step_ok hc hoj (ht i _ oj hil hoj) g1 hr fun a' w' hr' => ?_
    refine ih (listed.setIfInBounds i true) (pre ++ post) τ1 σ'' a' w' (by simpa using hs) (by simp at hlen ⊢; omega) (fun n => ?_) ?_ ?_ ?_ (k2.symm.trans he) hr'
    · by_cases c : n = i
      · subst c
        constructor
        · intro h
          exfalso
          rcases List.mem_append.1 h with h | h
          · have := hpw.2.2 n h n (by simp); omega
          · have := (List.pairwise_cons.1 hpw.2.1).1 n h; omega
        · intro h
          exfalso
          have h2 := h.2
          have : n < listed.size := by omega
          simp [Array.getD_eq_getD_getElem?, this] at h2
      · rw [getD_set_ne true (Ne.symm c), ← hmem n]
        simp [c]
    · refine hp.sublist ?_
      exact List.Sublist.append (List.Sublist.refl _) (List.sublist_cons_self _ _)
    · intro n o h ho ed hed hb
      by_cases c : n = i
      · subst c
        rw [hoj] at ho; cases ho
        exact getD_set_true (hall ed hed hb)
      · rw [getD_set_ne false (Ne.symm c)] at h
        exact getD_set_true (hcl n o h ho ed hed hb)
    · rw [List.map_append]
      exact evFs_app.2 ⟨τ', g2, k1⟩
end

section
/-! ## Guarded operations, one within the other, against the flat list -/
variable {P : Program}

/-- Alike outside 'S'. -/
def Near (S : List Nat) (σ τ : St) : Prop := (∀ t, t ∉ S → σ.env.get t = τ.env.get t) ∧ σ.mem = τ.mem
theorem none_of_spec {ts S : List Nat} (h : none_of ts S = true) : ∀ t ∈ ts, t ∉ S := by
 intro t ht hs
 have := List.all_eq_true.1 h t ht
 simp [hs] at this
theorem Near.arg {S : List Nat} {σ τ : St} (h : Near S σ τ) {x : Arg} (hx : ∀ t ∈ x.tmp?, t ∉ S) : σ.arg x = τ.arg x := arg_congr fun t ht => h.1 t (hx t ht)
theorem Near.mono {S T : List Nat} {σ τ : St} (h : Near S σ τ) (k : ∀ t ∈ S, t ∈ T) : Near T σ τ := ⟨fun t ht => h.1 t fun hs => ht (k t hs), h.2⟩

/-- The guard says no, or what it asks about was itself skipped. -/
def Off (τ : St) (t : Nat) (want : Bool) : Prop := (∃ p, τ.env.get t = .one (.d (.bool p)) ∧ p ≠ want) ∨ τ.env.get t = .tup []
theorem act_off {call : Call} {τ : St} {i : FI} {t : Nat} {want : Bool} (hg : i.g = some (t, want)) (h : Off τ t want) : act call i τ = some (.tup [], τ.mem) := by
 unfold act
 rw [hg]
 simp only []
 rcases h with ⟨p, h, hp⟩ | h
 · rw [h]; simp only []; rw [if_neg hp]
 · rw [h]

mutual
theorem skipI {call : Call} {t0 : Nat} {want : Bool} : ∀ (i : MI) {W S : List Nat} {x : List Nat × List Nat} {τ : St}, okI false W S i = some x → Off τ t0 want → (∀ u ∈ W, τ.env.get u = .tup []) → t0 ∉ i.dsts →
 ∃ τ', evFs call (flatI (some (t0, want)) i) τ = some τ' ∧ τ'.mem = τ.mem ∧ (∀ u, u ∉ i.dsts → τ'.env.get u = τ.env.get u) ∧ (∀ u ∈ i.dsts, τ'.env.get u = .tup []) ∧ (∀ u ∈ x.1, τ'.env.get u = .tup [])
 | .op d o, W, S, x, τ, h, ho, hW, ht0 => by
  simp only [okI] at h
  split at h
  · cases h
    refine ⟨St.put ⟨τ.env, τ.mem⟩ d (.tup []), ?_, put_mem, fun u hu => ?_, fun u hu => ?_, fun u hu => ?_⟩
    · simp only [flatI, evFs, evFI, act_off (i := ⟨some (t0, want), d, o⟩) rfl ho, Option.bind_some]
    · rw [put_get, if_neg]
      simp only [MI.dsts, Option.mem_toList] at hu
      exact fun c => hu c
    · rw [put_get, if_pos]
      simpa [MI.dsts] using hu
    · rw [put_get]
      split
      · rfl
      · rename_i c
        rcases List.mem_append.1 hu with hu | hu
        · exact absurd (Option.mem_toList.1 hu) c
        · exact hW u hu
  · cases h
 | .sc t w body d e r, W, S, x, τ, h, ho, hW, ht0 => by
  simp only [okI] at h
  split at h
  · rename_i hk
    simp only [Bool.and_eq_true, Bool.false_or, List.contains_iff_mem] at hk
    obtain ⟨⟨k1, k2⟩, k3⟩ := hk
    obtain ⟨y, hy, h2⟩ := bind_some' h
    clear h
    split at h2
    · cases h2
      have hoff : Off τ t w := .inr (hW t k1)
      have ht : t ∉ dstsL body := fun c => none_of_spec k2 t (by simp) (List.mem_append_right _ c)
      obtain ⟨τ1, g1, g2, g3, g5, _⟩ := skipIs (call := call) body hy hoff (fun u hu => by cases hu) ht
      simp only [MI.dsts, List.mem_cons, not_or] at ht0
      have ho1 : Off τ1 t0 want := by unfold Off; rw [g3 t0 ht0.2]; exact ho
      refine ⟨St.put ⟨τ1.env, τ1.mem⟩ (some d) (.tup []), ?_, by rw [put_mem, g2], fun u hu => ?_, fun u hu => ?_, fun u hu => ?_⟩
      · simp only [flatI]
        refine evFs_app.2 ⟨τ1, g1, ?_⟩
        simp only [evFs, evFI, act_off (i := ⟨some (t0, want), some d, .pick (.t t) (if w then r else e) (if w then e else r)⟩) rfl ho1, Option.bind_some]
      · simp only [MI.dsts, List.mem_cons, not_or] at hu
        rw [put_get, if_neg (fun c => hu.1 (by cases c; rfl)), g3 u hu.2]
      · rw [put_get]
        split
        · rfl
        · rename_i c
          rcases List.mem_cons.1 hu with hu | hu
          · exact absurd (by rw [hu]) c
          · exact g5 u hu
      · rw [put_get]
        split
        · rfl
        · rename_i c
          rcases List.mem_cons.1 hu with hu | hu
          · exact absurd (by rw [hu]) c
          · by_cases cu : u ∈ dstsL body
            · exact g5 u cu
            · rw [g3 u cu]; exact hW u hu
    · cases h2
  · cases h
theorem skipIs {call : Call} {t0 : Nat} {want : Bool} : ∀ (is : List MI) {W S : List Nat} {x : List Nat × List Nat} {τ : St}, okIs false W S is = some x → Off τ t0 want → (∀ u ∈ W, τ.env.get u = .tup []) → t0 ∉ dstsL is →
 ∃ τ', evFs call (flatIs (some (t0, want)) is) τ = some τ' ∧ τ'.mem = τ.mem ∧ (∀ u, u ∉ dstsL is → τ'.env.get u = τ.env.get u) ∧ (∀ u ∈ dstsL is, τ'.env.get u = .tup []) ∧ (∀ u ∈ x.1, τ'.env.get u = .tup [])
 | [], W, S, x, τ, h, ho, hW, ht0 => by
  simp only [okIs] at h
  cases h
  exact ⟨τ, rfl, rfl, fun _ _ => rfl, fun u hu => by simp [dstsL] at hu, hW⟩
 | i :: is, W, S, x, τ, h, ho, hW, ht0 => by
  simp only [okIs] at h
  obtain ⟨y, h1, h2⟩ := bind_some' h
  simp only [dstsL, List.mem_append, not_or] at ht0
  obtain ⟨τ1, g1, g2, g3, g5, g4⟩ := skipI (call := call) i h1 ho hW ht0.1
  have ho1 : Off τ1 t0 want := by unfold Off; rw [g3 t0 ht0.1]; exact ho
  obtain ⟨τ2, k1, k2, k3, k5, k4⟩ := skipIs (call := call) is h2 ho1 g4 ht0.2
  refine ⟨τ2, ?_, by rw [k2, g2], fun u hu => ?_, fun u hu => ?_, k4⟩
  · simp only [flatIs]; exact evFs_app.2 ⟨τ1, g1, k1⟩
  · simp only [dstsL, List.mem_append, not_or] at hu
    rw [k3 u hu.2, g3 u hu.1]
  · simp only [dstsL, List.mem_append] at hu
    by_cases c : u ∈ dstsL is
    · exact k5 u c
    · rw [k3 u c]; exact g5 u (hu.resolve_right c)
end

/-- The guard says yes. -/
def On (τ : St) : Option (Nat × Bool) → Prop
 | none => True
 | some (t, want) => τ.env.get t = .one (.d (.bool want))
theorem act_on {call : Call} {τ : St} {i : FI} (h : On τ i.g) : act call i τ = evO call τ i.o := by
 unfold act
 cases hg : i.g with
 | none => rfl
 | some p =>
  obtain ⟨t, want⟩ := p
  rw [hg] at h
  have h : τ.env.get t = .one (.d (.bool want)) := h
  simp only [h, if_true]
def gT : Option (Nat × Bool) → List Nat
 | none => []
 | some (t, _) => [t]
theorem On.keep {τ τ' : St} {g : Option (Nat × Bool)} (h : On τ g) (k : ∀ t ∈ gT g, τ'.env.get t = τ.env.get t) : On τ' g := by
 cases g with
 | none => trivial
 | some p => obtain ⟨t, w⟩ := p; have := k t (by simp [gT]); unfold On; simp only [this]; exact h

mutual
theorem nestI {call : Call} {g : Option (Nat × Bool)} : ∀ (i : MI) {top : Bool} {W S : List Nat} {x : List Nat × List Nat} {σ σ' τ : St}, okI top W S i = some x → Near S σ τ → On τ g → (∀ t ∈ gT g, t ∉ i.dsts) →
 evI call i σ = some σ' → ∃ τ', evFs call (flatI g i) τ = some τ' ∧ Near x.2 σ' τ' ∧ (∀ u, u ∉ i.dsts → τ'.env.get u = τ.env.get u)
 | .op d o, top, W, S, x, σ, σ', τ, h, hn, ho, hg, e => by
  simp only [okI] at h
  split at h
  · rename_i hk
    cases h
    simp only [evI] at e
    obtain ⟨r, h1, h2⟩ := bind_some' e
    cases h2
    rw [evO_congr (call := call) (o := o) (τ := τ) (fun t ht => hn.1 t (none_of_spec hk t ht)) hn.2] at h1
    refine ⟨St.put ⟨τ.env, r.2⟩ d r.1, ?_, ⟨fun t ht => ?_, by rw [put_mem, put_mem]⟩, fun u hu => ?_⟩
    · simp only [flatI, evFs, evFI, act_on (i := ⟨g, d, o⟩) ho, h1, Option.bind_some]
    · rw [put_get, put_get]
      split
      · rfl
      · rename_i c
        refine hn.1 t fun hs => ht ?_
        simpa using ⟨hs, c⟩
    · rw [put_get, if_neg]
      intro c
      exact hu (by simp [MI.dsts, c])
  · cases h
 | .sc t w body d e r, top, W, S, x, σ, σ', τ, h, hn, ho, hg, ev => by
  simp only [okI] at h
  split at h
  · rename_i hk
    simp only [Bool.and_eq_true] at hk
    obtain ⟨⟨k1, k2⟩, k3⟩ := hk
    obtain ⟨y, hy, h2⟩ := bind_some' h
    clear h
    split at h2
    · rename_i k4
      cases h2
      simp only [evI] at ev
      obtain ⟨p, hp, h3⟩ := bind_some' ev
      clear ev
      have htS : t ∉ S ++ dstsL body := none_of_spec k2 t (by simp)
      simp only [List.mem_append, not_or] at htS
      have hp' : τ.env.get t = .one (.d (.bool p)) := by
       rw [← hn.1 t htS.1]
       generalize σ.env.get t = v at hp
       unfold V.bool? at hp
       split at hp <;> cases hp
       rfl
      have hgb : ∀ u ∈ gT g, u ∉ dstsL body ∧ u ≠ d := fun u hu => by
       have := hg u hu
       simp only [MI.dsts, List.mem_cons, not_or] at this
       exact ⟨this.2, this.1⟩
      -- the pick, behind the body
      have fin : ∀ (z : V × Heap) (τ1 : St), evFs call (flatIs (some (t, w)) body) τ = some τ1 → (∀ u, u ∉ dstsL body → τ1.env.get u = τ.env.get u) → τ1.mem = z.2 → τ1.arg (if p = w then r else e) = z.1 → some (⟨σ.env.put d z.1, z.2⟩ : St) = some σ' →
       ∃ τ', evFs call (flatI g (.sc t w body d e r)) τ = some τ' ∧ Near ((S ++ dstsL body).filter (· != d)) σ' τ' ∧ (∀ u, u ∉ (MI.sc t w body d e r).dsts → τ'.env.get u = τ.env.get u) := by
       intro z τ1 g1 g2 g3 g4 g5
       cases g5
       refine ⟨St.put ⟨τ1.env, τ1.mem⟩ (some d) z.1, ?_, ⟨fun u hu => ?_, by rw [put_mem, g3]⟩, fun u hu => ?_⟩
       · simp only [flatI]
         refine evFs_app.2 ⟨τ1, g1, ?_⟩
         have hon : On τ1 g := ho.keep fun u hu => g2 u (hgb u hu).1
         have : τ1.arg (.t t) = .one (.d (.bool p)) := by
          show τ1.env.get t = _
          rw [g2 t htS.2]; exact hp'
         have hv : (if p = true then τ1.arg (if w then r else e) else τ1.arg (if w then e else r)) = z.1 := by
          rw [← g4]
          cases p <;> cases w <;> rfl
         simp only [evFs, evFI, act_on (i := ⟨g, some d, .pick (.t t) (if w then r else e) (if w then e else r)⟩) hon, evO, this, V.bool?, Option.bind_some, hv]
       · rw [put_get, Env.get_put]
         by_cases c : u = d
         · subst c; simp
         · rw [if_neg c, if_neg (fun c' => c (by cases c'; rfl))]
           have : u ∉ S ++ dstsL body := fun hs => hu (by simp only [List.mem_filter, bne_iff_ne]; exact ⟨hs, c⟩)
           simp only [List.mem_append, not_or] at this
           rw [g2 u this.2]
           exact hn.1 u this.1
       · simp only [MI.dsts, List.mem_cons, not_or] at hu
         rw [put_get, if_neg (fun c => hu.1 (by cases c; rfl)), g2 u hu.2]
      by_cases hpw : p = w
      · rw [if_pos hpw] at h3
        obtain ⟨z, hz, h4⟩ := bind_some' h3
        obtain ⟨σ1, e1, e2⟩ := bind_some' hz
        cases e2
        obtain ⟨τ1, g1, g2, g3⟩ := nestIs (call := call) (g := some (t, w)) body hy hn (by subst hpw; exact hp') (fun u hu => by simp [gT] at hu; subst hu; exact htS.2) e1
        refine fin _ τ1 g1 g3 g2.2.symm ?_ h4
        rw [if_pos hpw]
        exact (g2.arg (none_of_spec k4)).symm
      · rw [if_neg hpw] at h3
        obtain ⟨z, hz, h4⟩ := bind_some' h3
        cases hz
        obtain ⟨τ1, g1, g2, g3, _, _⟩ := skipIs (call := call) (t0 := t) (want := w) (τ := τ) body hy (.inl ⟨p, hp', hpw⟩) (fun u hu => by cases hu) htS.2
        refine fin _ τ1 g1 g3 (g2.trans hn.2.symm) ?_ h4
        rw [if_neg hpw]
        have ke := none_of_spec k3
        simp only [List.mem_append, not_or] at ke
        refine Eq.symm ((hn.arg fun u hu => (ke u hu).1).trans ?_)
        exact arg_congr fun u hu => (g3 u (ke u hu).2).symm
    · cases h2
  · cases h
theorem nestIs {call : Call} {g : Option (Nat × Bool)} : ∀ (is : List MI) {top : Bool} {W S : List Nat} {x : List Nat × List Nat} {σ σ' τ : St}, okIs top W S is = some x → Near S σ τ → On τ g → (∀ t ∈ gT g, t ∉ dstsL is) →
 evIs call is σ = some σ' → ∃ τ', evFs call (flatIs g is) τ = some τ' ∧ Near x.2 σ' τ' ∧ (∀ u, u ∉ dstsL is → τ'.env.get u = τ.env.get u)
 | [], top, W, S, x, σ, σ', τ, h, hn, ho, hg, e => by
  simp only [okIs] at h
  cases h
  simp only [evIs] at e
  cases e
  exact ⟨τ, rfl, hn, fun _ _ => rfl⟩
 | i :: is, top, W, S, x, σ, σ', τ, h, hn, ho, hg, e => by
  simp only [okIs] at h
  obtain ⟨y, h1, h2⟩ := bind_some' h
  simp only [evIs] at e
  obtain ⟨σ1, e1, e2⟩ := bind_some' e
  have hg' : ∀ t ∈ gT g, t ∉ i.dsts ∧ t ∉ dstsL is := fun t ht => by
   have := hg t ht
   simpa only [dstsL, List.mem_append, not_or] using this
  obtain ⟨τ1, g1, g2, g3⟩ := nestI (call := call) (g := g) i h1 hn ho (fun t ht => (hg' t ht).1) e1
  obtain ⟨τ2, k1, k2, k3⟩ := nestIs (call := call) (g := g) is h2 g2 (ho.keep fun u hu => g3 u (hg' u hu).1) (fun t ht => (hg' t ht).2) e2
  refine ⟨τ2, ?_, k2, fun u hu => ?_⟩
  · simp only [flatIs]; exact evFs_app.2 ⟨τ1, g1, k1⟩
  · simp only [dstsL, List.mem_append, not_or] at hu
    rw [k3 u hu.2, g3 u hu.1]
end

mutual
theorem trI_flat {N : Nat} {ops : Array Oper} {g : Option (Nat × Bool)} : ∀ (m : MI) (rest : List Oper) {i : MI} {rest' : List Oper}, trI P N ops g m rest = some (i, rest') →
 ∃ used, rest = used ++ rest' ∧ All2 (TrF P N ops) (flatI g i) used
 | .op d0 m, [], i, rest', h => by simp [trI] at h
 | .op d0 m, o :: rest, i, rest', h => by
  simp only [trI] at h
  split at h
  · rename_i hk
    rw [Bool.and_eq_true] at hk
    cases hm : trOp P o.op m with
    | none => rw [hm] at h; cases h
    | some m' =>
     rw [hm] at h
     cases h
     exact ⟨[o], rfl, .cons ⟨rfl, hk.2, hk.1, m, hm⟩ .nil⟩
  · cases h
 | .sc t w body d0 e r, rest, i, rest', h => by
  simp only [trI] at h
  obtain ⟨⟨body', rest1⟩, h1, h2⟩ := bind_some' h
  obtain ⟨used, hu1, hu2⟩ := trIs_flat body rest h1
  clear h h1
  simp only [] at h2
  split at h2
  · rename_i o rest2
    split at h2
    · rename_i hk
      rw [Bool.and_eq_true] at hk
      split at h2
      · rename_i d c a b hd ho
        split at h2
        · rename_i t' a' b' hc ha hb
          split at h2
          · rename_i htt
            subst htt
            cases h2
            refine ⟨used ++ [o], by rw [hu1]; simp, ?_⟩
            simp only [flatI]
            refine hu2.append (.cons ⟨hd, hk.2, hk.1, .pick default default default, ?_⟩ .nil)
            rw [ho]
            simp only [trOp, hc, ha, hb, Option.bind_some, Option.map_some]
            cases w <;> rfl
          · cases h2
        · cases h2
      · cases h2
    · cases h2
  · cases h2
theorem trIs_flat {N : Nat} {ops : Array Oper} {g : Option (Nat × Bool)} : ∀ (ms : List MI) (rest : List Oper) {is : List MI} {rest' : List Oper}, trIs P N ops g ms rest = some (is, rest') →
 ∃ used, rest = used ++ rest' ∧ All2 (TrF P N ops) (flatIs g is) used
 | [], rest, is, rest', h => by
  simp only [trIs] at h
  cases h
  exact ⟨[], rfl, .nil⟩
 | m :: ms, rest, is, rest', h => by
  simp only [trIs] at h
  obtain ⟨⟨i, rest1⟩, h1, h2⟩ := bind_some' h
  obtain ⟨⟨is1, rest2⟩, h3, h4⟩ := bind_some' h2
  cases h4
  obtain ⟨u1, a1, a2⟩ := trI_flat m rest h1
  obtain ⟨u2, b1, b2⟩ := trIs_flat ms rest1 h3
  refine ⟨u1 ++ u2, by rw [a1, b1, List.append_assoc], ?_⟩
  simp only [flatIs]
  exact a2.append b2
end

/-- Ghosts; the list's evaluation may have known less. -/
theorem RelS.ghosts {G : Ground} {σ σ' : St} {a : Act} {w : World} {gs : List Ghost} (hr : RelS G σ a w) (e : evGs G.m0.length gs σ = some σ') : RelS G σ' a w := by
 obtain ⟨β, h1, h2, h3, h4, h5⟩ := hr
 obtain ⟨β', g1, g2, g3, _⟩ := ghosts_ok gs h1 h2 h3 e
 exact ⟨β', g1, g2, g3, h4, h5⟩
theorem RelS.less {G : Ground} {σ τ : St} {a : Act} {w : World} (hr : RelS G τ a w) (h : ∀ t, σ.env.get t = τ.env.get t ∨ σ.env.get t = .dead) (hm : σ.mem = τ.mem) : RelS G σ a w := by
 obtain ⟨β, h1, h2, h3, h4, h5⟩ := hr
 refine ⟨β, hm ▸ h1, hm ▸ h2, fun t => ?_, h4, h5⟩
 rcases h t with h | h
 · rw [h, hm]; exact h3 t
 · rw [h]; trivial
theorem memN_mem {k : Nat} : ∀ {ts : List Nat}, memN k ts = true → k ∈ ts
 | [], h => by cases h
 | t :: ts, h => by
  simp only [memN] at h
  split at h
  · rename_i e; subst e; simp
  · exact List.mem_cons_of_mem _ (memN_mem h)
theorem keepE_spec (ts : List Nat) (e : Env) (t : Nat) : (keepE ts e).get t = .dead ∨ (t ∈ ts ∧ (keepE ts e).get t = e.get t) := by
 by_cases ht : memN t ts = true
 · rcases Env.get_keep ts e t with h | h
   · exact .inr ⟨memN_mem ht, h⟩
   · exact .inl h
 · left
   induction e with
   | nil => rfl
   | cons x e ih =>
    obtain ⟨k, v⟩ := x
    simp only [keepE]
    split
    · rename_i hk
      simp only [Env.get]
      rw [if_neg (fun c => ht (by rw [← c]; exact hk))]
      exact ih
    · exact ih
theorem RelS.draw {G : Ground} {σ : St} {a : Act} {w : World} (hr : RelS G σ a w) : RelS G σ a { w with drawn := w.drawn + 1 } := by
 obtain ⟨β, h1, h2, h3, h4, h5⟩ := hr
 exact ⟨β, h1, ⟨h2.os, h2.tape, h2.output, h2.size, h2.av, h2.fo, h2.own, h2.evo⟩, h3, h4, h5⟩

theorem region_ok {X : Nat → Option MFn} {call : Call} (hc : CallOK P call) (hP : P.follows .mixedOrders = true) {G : Ground} {r : Option Nat} {id : Nat} {ops : Array Oper} {draw : Bool} {ms is : List MI} {gh gh0 : List Ghost} {σ : St} {x : Ex × St} {a : Act} {w : World} {k : Nat}
 {Q : Exit → Act → World → Prop} (ht : trCode P G.N (.region id ops draw) (.reg ms gh0) = some (.reg is gh)) (e : evC X call k G.m0.length (.reg is gh) σ = some x) (hr : RelS G σ a w)
 (hQ : ∀ a' w', x.1 = .normal → RelS G x.2 a' w' → Q .normal a' w') : (Code.region id ops draw).wpIn (W r) 0 P Q a w := by
 simp only [trCode] at ht
 obtain ⟨⟨is1, rest⟩, t1, t2⟩ := bind_some' ht
 clear ht
 simp only [] at t2
 split at t2
 · split at t2
   · rename_i hk
     cases t2
     rw [Bool.and_eq_true] at hk
     obtain ⟨hk1, hk2⟩ := hk
     obtain ⟨used, u1, u2⟩ := trIs_flat ms ops.toList t1
     rw [List.append_nil] at u1
     subst u1
     simp only [evC] at e
     obtain ⟨σ1, e1, e2⟩ := bind_some' e
     obtain ⟨σ2, e3, e4⟩ := bind_some' e2
     cases e4
     -- the flat run
     unfold okReg at hk1
     cases hs : okIs true [] [] is with
     | none => rw [hs] at hk1; cases hk1
     | some y =>
      obtain ⟨W0, S⟩ := y
      rw [hs] at hk1
      obtain ⟨τ1, g1, g2, _⟩ := nestIs (call := call) (g := none) is hs (τ := σ) ⟨fun _ _ => rfl, rfl⟩ trivial (fun t ht => by cases ht) e1
      have post : ∀ a' w', RelS G τ1 a' w' → Q .normal a' w' := by
       intro a' w' hr'
       refine hQ a' w' rfl ?_
       cases S with
       | nil => exact (hr'.less (σ := σ1) (fun t => .inl (g2.1 t (by simp))) g2.2).ghosts e3
       | cons s S =>
        cases gh with
        | nil => cases hk1
        | cons gi gh =>
         cases gi <;> simp only [] at hk1 <;> first | (cases hk1; done) | skip
         rename_i ts
         simp only [evGs] at e3
         obtain ⟨σ3, e5, e6⟩ := bind_some' e3
         simp only [evG] at e5
         cases e5
         refine (hr'.less (σ := ⟨keepE ts σ1.env, σ1.mem⟩) (fun t => ?_) g2.2).ghosts e6
         rcases keepE_spec ts σ1.env t with h | ⟨h1, h2⟩
         · exact .inr h
         · exact .inl (h2.trans (g2.1 t (none_of_spec hk1 t h1)))
      have hlen : (flatIs none is).length = ops.size := by rw [u2.length, Array.length_toList]
      cases draw with
      | false =>
       refine wpIn_region (seq_ok hc (flatIs none is) (List.range ops.size) σ τ1 a w ?_ g1 hr post)
       refine All2.of_get (by simp [hlen]) fun n i j hi hj => ?_
       have hj' : j = n := by
        have := List.getElem?_range (show n < ops.size by have := (List.getElem?_eq_some_iff.1 hi).1; omega)
        rw [this] at hj; cases hj; rfl
       subst hj'
       have hlt : j < ops.size := by have := (List.getElem?_eq_some_iff.1 hi).1; omega
       exact ⟨ops[j], Array.getElem?_eq_getElem hlt, (by obtain ⟨b, hb, ht⟩ := u2.get hi; rw [Array.getElem?_toList, Array.getElem?_eq_getElem hlt] at hb; cases hb; exact ht)⟩
      | true =>
       refine wpIn_region_any hP (drawn_ok hc (is := flatIs none is) (σf := τ1) hlen (fun n i o hi ho => by obtain ⟨b, hb, ht⟩ := u2.get hi; rw [Array.getElem?_toList, ho] at hb; cases hb; exact ht) (by simpa using hk2) post ops.size _ (List.range ops.size) σ τ1 a _ (by simp) (by simp) (fun n => ?_) List.pairwise_lt_range ?_ ?_ (.refl _) hr.draw)
       · simp only [List.mem_range]
         constructor
         · intro h; exact ⟨h, by simp [h]⟩
         · exact fun h => h.1
       · intro n o h ho
         exfalso
         have := (Array.getElem?_eq_some_iff.1 ho).1
         simp [this] at h
       · have : (List.range ops.size).map (fun n => (flatIs none is).getD n default) = flatIs none is := by
          rw [← hlen]
          apply List.ext_getElem
          · simp
          · intro n h1 h2; simp [List.getD_eq_getElem?_getD, h2]
         rw [this]; exact g1
   · cases t2
 · cases t2
end

section
/-! ## A drawn order, every permitted one reckoned -/
variable {P : Program}

theorem dpure_act {call : Call} {σ : St} {i : FI} (hc : dpure σ i.o = true) {v : V} {m' : Heap} (h : act call i σ = some (v, m')) : ∀ m, act call i ⟨σ.env, m⟩ = some (v, m) ∧ m' = σ.mem := by
 have ea : ∀ m, (⟨σ.env, m⟩ : St).arg = σ.arg := fun m => by funext x; cases x <;> rfl
 have op : ∀ {v m'}, evO call σ i.o = some (v, m') → ∀ m, evO call ⟨σ.env, m⟩ i.o = some (v, m) ∧ m' = σ.mem := by
  intro v m' h m
  by_cases c : i.o.cls = 0
  · obtain ⟨h1, h2⟩ := evO_pure c h; exact ⟨h2 m, h1⟩
  · cases ho : i.o <;> rw [ho] at hc h c <;> first | (simp [dpure, MOp.cls] at hc c; done) | skip
    all_goals simp only [dpure] at hc
    case iaddr z x y =>
     split at hc
     · rename_i xs hx
       simp only [evO, hx, ea] at h ⊢
       simp only [V.c?, Option.bind_some] at h ⊢
       obtain ⟨j, h1, h2⟩ := bind_some' h
       rw [h1]
       simp only [Option.bind_some] at h2 ⊢
       split at h2
       · rename_i h3
         rw [if_pos h3]
         split at h2
         · rename_i h4; rw [if_pos h4]; cases h2; exact ⟨rfl, rfl⟩
         · cases h2
       · cases h2
     · cases hc
    case load n g x =>
     split at hc
     · rename_i xs hx
       simp only [evO, hx, ea] at h ⊢
       simp only [V.c?, Option.bind_some, ldC] at h ⊢
       obtain ⟨cs, h1, h2⟩ := bind_some' h
       obtain ⟨u, h3, h4⟩ := bind_some' h2
       cases h4
       rw [h1]
       exact ⟨by simp only [Option.bind_some, h3], rfl⟩
     · cases hc
    case slice z x lo hi mx =>
     split at hc
     · rename_i xs hx
       simp only [evO, hx, ea] at h ⊢
       simp only [V.c?, Option.bind_some] at h ⊢
       split at h
       · rename_i h3
         rw [if_pos h3]
         obtain ⟨b, h1, h2⟩ := bind_some' h
         cases h2
         rw [h1]
         exact ⟨rfl, rfl⟩
       · cases h
     · cases hc
    all_goals (simp at hc; exact absurd hc c)
 intro m
 unfold act at h ⊢
 cases hg : i.g with
 | none => rw [hg] at h; exact op h m
 | some p =>
  obtain ⟨t, want⟩ := p
  rw [hg] at h
  simp only [] at h ⊢
  split at h
  · rename_i p hp
    split at h
    · rename_i hw; rw [if_pos hw]; exact op h m
    · rename_i hw; rw [if_neg hw]; cases h; exact ⟨rfl, rfl⟩
  · cases h; exact ⟨rfl, rfl⟩
  · cases h

/-- What does not look at memory, behind what it does not mind. -/
theorem unbubble {call : Call} {i : FI} {v : V} : ∀ {pre : List FI} {σ τ τ' : St}, (∀ j ∈ pre, i.apart j = true) → (∀ m, act call i ⟨σ.env, m⟩ = some (v, m)) → evFI call i σ = some τ → evFs call pre τ = some τ' →
 ∃ ρ ρ', evFs call pre σ = some ρ ∧ evFI call i ρ = some ρ' ∧ τ'.eqv ρ'
 | [], σ, τ, τ', _, _, h1, h2 => by simp only [evFs] at h2; cases h2; exact ⟨σ, τ, rfl, h1, .refl _⟩
 | j :: pre, σ, τ, τ', hap, hp, h1, h2 => by
  simp only [evFs] at h2
  obtain ⟨τ1, h3, h4⟩ := bind_some' h2
  obtain ⟨a1, a2, a3⟩ := apart_spec (hap j (by simp))
  unfold evFI at h1 h3
  have hpσ := hp σ.mem
  rw [show (⟨σ.env, σ.mem⟩ : St) = σ from rfl] at hpσ
  rw [hpσ] at h1
  cases h1
  obtain ⟨⟨u, mj⟩, g1, g2⟩ := bind_some' h3
  cases g2
  have gj : act call j σ = some (u, mj) := by
   rw [← g1]
   refine act_congr (fun t ht => ?_) (by rw [put_mem])
   rw [put_get, if_neg (fun e => a1 t e ht)]
  have hi : ∀ m, act call i ⟨(St.put ⟨σ.env, mj⟩ j.dst u).env, m⟩ = some (v, m) := fun m => by
   rw [← hp m]
   refine act_congr (fun t ht => ?_) rfl
   show (St.put ⟨σ.env, mj⟩ j.dst u).env.get t = σ.env.get t
   rw [put_get, if_neg (fun e => a3 t e ht)]
  have e1 : evFI call j σ = some (St.put ⟨σ.env, mj⟩ j.dst u) := by unfold evFI; rw [gj]; rfl
  have e2 : evFI call i (St.put ⟨σ.env, mj⟩ j.dst u) = some (St.put ⟨(St.put ⟨σ.env, mj⟩ j.dst u).env, mj⟩ i.dst v) := by
   unfold evFI
   have := hi mj
   rw [show (⟨(St.put ⟨σ.env, mj⟩ j.dst u).env, mj⟩ : St) = St.put ⟨σ.env, mj⟩ j.dst u from by cases j.dst <;> rfl] at this
   rw [this]; rfl
  have q : (St.put ⟨(St.put ⟨σ.env, σ.mem⟩ i.dst v).env, mj⟩ j.dst u).eqv (St.put ⟨(St.put ⟨σ.env, mj⟩ j.dst u).env, mj⟩ i.dst v) := by
   refine ⟨fun t => ?_, by rw [put_mem, put_mem]⟩
   rw [put_get, put_get, put_get, put_get]
   by_cases c1 : j.dst = some t
   · rw [if_pos c1, if_pos c1, if_neg (fun c2 => a2 t c2 c1)]
   · rw [if_neg c1, if_neg c1]
  obtain ⟨τ2, k1, k2⟩ := evFs_eqv q h4
  obtain ⟨ρ, ρ', l1, l2, l3⟩ := unbubble (fun x hx => hap x (by simp [hx])) hi e2 k1
  exact ⟨ρ, ρ', by simp only [evFs, e1, Option.bind_some]; exact l1, l2, k2.trans l3⟩

theorem mem_rdy {pre : List (List Nat)} {done : List Nat} {i : Nat} : i ∈ rdy pre done ↔ i < pre.length ∧ i ∉ done ∧ ∀ j ∈ pre.getD i [], j ∈ done := by
 unfold rdy
 rw [List.mem_filter, List.mem_range]
 simp only [Bool.and_eq_true, Bool.not_eq_true', List.all_eq_true, memN_iff]
 constructor
 · rintro ⟨h1, h2, h3⟩
   exact ⟨h1, fun c => (by rw [memN_iff.2 c] at h2; cases h2), h3⟩
 · rintro ⟨h1, h2, h3⟩
   refine ⟨h1, ?_, h3⟩
   cases c : memN i done with
   | false => rfl
   | true => exact absurd (memN_iff.1 c) h2

/-- An order that is permitted, to its end. -/
def Valid (pre : List (List Nat)) : List Nat → List Nat → Prop
 | done, [] => rdy pre done = []
 | done, i :: L => i ∈ rdy pre done ∧ Valid pre (i :: done) L
theorem rdy_same {pre : List (List Nat)} {d e : List Nat} (h : ∀ x, x ∈ d ↔ x ∈ e) : rdy pre d = rdy pre e := by
 unfold rdy
 refine List.filter_congr fun i _ => ?_
 have : ∀ x, memN x d = memN x e := fun x => by
  rw [Bool.eq_iff_iff, memN_iff, memN_iff]; exact h x
 simp only [this]
theorem Valid.same {pre : List (List Nat)} : ∀ {L d e : List Nat}, (∀ x, x ∈ d ↔ x ∈ e) → Valid pre d L → Valid pre e L
 | [], d, e, h, v => by unfold Valid at v ⊢; rw [← rdy_same h]; exact v
 | i :: L, d, e, h, v => by
  obtain ⟨h1, h2⟩ := v
  exact ⟨by rw [← rdy_same h]; exact h1, Valid.same (fun x => by simp [h x]) h2⟩
theorem Valid.mem {pre : List (List Nat)} : ∀ {L d : List Nat} {i : Nat}, Valid pre d L → i ∈ rdy pre d → i ∈ L
 | [], d, i, v, h => by unfold Valid at v; rw [v] at h; cases h
 | j :: L, d, i, v, h => by
  by_cases c : i = j
  · simp [c]
  · have h' := mem_rdy.1 h
    exact List.mem_cons_of_mem _ (Valid.mem v.2 (mem_rdy.2 ⟨h'.1, by simp [c, h'.2.1], fun x hx => by simp [h'.2.2 x hx]⟩))
theorem Valid.front {pre : List (List Nat)} {i : Nat} {B : List Nat} : ∀ {A d : List Nat}, Valid pre d (A ++ i :: B) → i ∈ rdy pre d → i ∉ A → Valid pre (i :: d) (A ++ B)
 | [], d, v, _, _ => v.2
 | j :: A, d, v, h, hn => by
  simp only [List.mem_cons, not_or] at hn
  obtain ⟨h1, h2⟩ := v
  have h' := mem_rdy.1 h
  have h1' := mem_rdy.1 h1
  refine ⟨mem_rdy.2 ⟨h1'.1, by simp [h1'.2.1, Ne.symm hn.1], fun x hx => by simp [h1'.2.2 x hx]⟩, ?_⟩
  refine Valid.same (d := i :: j :: d) (fun x => by simp only [List.mem_cons]; exact ⟨fun h => by rcases h with h | h | h <;> simp [h], fun h => by rcases h with h | h | h <;> simp [h]⟩) ?_
  exact Valid.front h2 (mem_rdy.2 ⟨h'.1, by simp [hn.1, h'.2.1], fun x hx => by simp [h'.2.2 x hx]⟩) hn.2
theorem Valid.out {pre : List (List Nat)} : ∀ {L d : List Nat} {j : Nat}, Valid pre d L → j ∈ L → j ∉ d ∧ j < pre.length
 | i :: L, d, j, v, h => by
  obtain ⟨h1, h2⟩ := v
  have := mem_rdy.1 h1
  rcases List.mem_cons.1 h with h | h
  · subst h; exact ⟨this.2.1, this.1⟩
  · have := Valid.out h2 h
    simp only [List.mem_cons, not_or] at this
    exact ⟨this.1.2, this.2⟩

theorem Valid.free {pre : List (List Nat)} {i : Nat} {B : List Nat} : ∀ {A d : List Nat}, Valid pre d (A ++ i :: B) → i ∉ d → i ∉ A → ∀ k ∈ A, i ∉ pre.getD k []
 | j :: A, d, v, hd, hn, k, hk => by
  simp only [List.mem_cons, not_or] at hn
  obtain ⟨h1, h2⟩ := v
  rcases List.mem_cons.1 hk with h | h
  · subst h
    intro c
    exact hd ((mem_rdy.1 h1).2.2 i c)
  · exact Valid.free h2 (by simp [hd, hn.1]) hn.2 k h
def left (pre : List (List Nat)) (done : List Nat) : List Nat := (List.range pre.length).filter fun i => !memN i done
theorem left_lt {pre : List (List Nat)} {done : List Nat} {i : Nat} (h : i ∈ rdy pre done) : (left pre (i :: done)).length < (left pre done).length := by
 obtain ⟨h1, h2, _⟩ := mem_rdy.1 h
 have e : left pre (i :: done) = (left pre done).filter fun j => j != i := by
  unfold left
  rw [List.filter_filter]
  refine List.filter_congr fun j _ => ?_
  simp only [memN]
  by_cases c : i = j
  · subst c; simp
  · rw [if_neg c]
    have : (j != i) = true := by simp [Ne.symm c]
    rw [this]; simp
 rw [e]
 rw [List.length_filter_lt_length_iff_exists]
 refine ⟨i, ?_, by simp⟩
 unfold left
 rw [List.mem_filter]
 refine ⟨by simpa using h1, ?_⟩
 cases c : memN i done with
 | false => rfl
 | true => exact absurd (memN_iff.1 c) h2
theorem valid_ex {pre : List (List Nat)} : ∀ (n : Nat) (d : List Nat), (left pre d).length ≤ n → ∃ L, Valid pre d L
 | 0, d, h => by
  refine ⟨[], ?_⟩
  cases c : rdy pre d with
  | nil => exact c
  | cons i r => exact absurd (left_lt (show i ∈ rdy pre d by rw [c]; simp)) (by omega)
 | n + 1, d, h => by
  cases c : rdy pre d with
  | nil => exact ⟨[], c⟩
  | cons i r =>
   have hi : i ∈ rdy pre d := by rw [c]; simp
   obtain ⟨L, hL⟩ := valid_ex (pre := pre) n (i :: d) (by have := left_lt hi; omega)
   exact ⟨i :: L, hi, hL⟩

/-- From here every permitted order comes to what is said by 'R'. -/
def Good (call : Call) (G : Ground) (is : List FI) (pre : List (List Nat)) (R : St) (done : List Nat) (σ : St) : Prop :=
 ∀ L, Valid pre done L → ∃ σ', evFs call (L.map fun n => is.getD n default) σ = some σ' ∧ ∀ a w, RelS G σ' a w → RelS G R a w

theorem sameAll_spec : ∀ {l : List (Option St)} {R : St}, sameAll l = some R → ∀ x ∈ l, x = some R
 | [], R, h => by simp [sameAll] at h
 | [x], R, h => by simp only [sameAll] at h; intro y hy; simp at hy; subst hy; exact h
 | x :: y :: r, R, h => by
  simp only [sameAll] at h
  obtain ⟨s, h1, h2⟩ := bind_some' h
  split at h2
  · rename_i hx
    cases h2
    intro z hz
    rcases List.mem_cons.1 hz with hz | hz
    · subst hz; exact hx
    · exact sameAll_spec h1 z hz
  · cases h2

theorem evD_good {call : Call} {G : Ground} {is : List FI} {pre : List (List Nat)} {gh : List Ghost} {R : St} : ∀ (n : Nat) (done : List Nat) (σ : St), evD call G.m0.length is pre gh n done σ = some R → Good call G is pre R done σ := by
 intro n
 induction n with
 | zero => intro done σ h; simp only [evD] at h; cases h
 | succ n ih =>
  intro done σ h L hL
  simp only [evD] at h
  split at h
  · rename_i hr
    cases L with
    | nil => exact ⟨σ, rfl, fun a w hr => hr.ghosts h⟩
    | cons i L => have := hL.1; rw [hr] at this; cases this
  · rename_i i r hr
    split at h
    · -- one that may go first
      rename_i j hj
      have hjm : j ∈ rdy pre done := by rw [hr]; exact List.mem_of_find?_eq_some hj
      have hjf := List.find?_some hj
      unfold fstOk at hjf
      rw [Bool.and_eq_true] at hjf
      obtain ⟨hpure, hap⟩ := hjf
      obtain ⟨σ1, h1, h2⟩ := bind_some' h
      have hin := hL.mem hjm
      obtain ⟨A, B, hAB, hnA⟩ := List.eq_append_cons_of_mem hin
      subst hAB
      obtain ⟨σ', g1, g2⟩ := ih _ _ h2 (A ++ B) (hL.front hjm hnA)
      rw [List.map_append] at g1
      obtain ⟨τ', g3, g4⟩ := evFs_app.1 g1
      have hact : ∃ v, ∀ m, act call (is.getD j default) ⟨σ.env, m⟩ = some (v, m) := by
       unfold evFI at h1
       obtain ⟨⟨v, m'⟩, e1, _⟩ := bind_some' h1
       exact ⟨v, fun m => (dpure_act hpure e1 m).1⟩
      obtain ⟨v, hv⟩ := hact
      obtain ⟨ρ, ρ', l1, l2, l3⟩ := unbubble (fun x hx => by
       obtain ⟨k, hk, rfl⟩ := List.mem_map.1 hx
       have hko := hL.out (List.mem_append_left _ hk)
       have := List.all_eq_true.1 hap k (by simpa using hko.2)
       simp only [Bool.or_eq_true, beq_iff_eq] at this
       rcases this with ((this | this) | this) | this
       · exact absurd (memN_iff.1 this) hko.1
       · exact absurd (this ▸ hk) hnA
       · exact absurd (memN_iff.1 this) (hL.free (mem_rdy.1 hjm).2.1 hnA k hk)
       · exact this) hv h1 g3
      obtain ⟨σ'', k1, k2⟩ := evFs_eqv l3 g4
      refine ⟨σ'', ?_, fun a w hw => g2 a w (hw.eqv k2.symm)⟩
      rw [List.map_append, List.map_cons]
      refine evFs_app.2 ⟨ρ, l1, ?_⟩
      simp only [evFs, l2, Option.bind_some]
      exact k1
    · cases L with
      | nil => exact absurd hL (by unfold Valid; rw [hr]; simp)
      | cons j L =>
       have hjm := hL.1
       rw [hr] at hjm
       have := sameAll_spec h _ (List.mem_map.2 ⟨j, hjm, rfl⟩)
       obtain ⟨σ1, h1, h2⟩ := bind_some' this
       obtain ⟨σ', g1, g2⟩ := ih _ _ h2 L hL.2
       exact ⟨σ', by simp only [List.map_cons, evFs, h1, Option.bind_some]; exact g1, g2⟩

theorem anyD_ok {call : Call} (hc : CallOK P call) {G : Ground} {r : Option Nat} {ops : Array Oper} {Q : Exit → Act → World → Prop} {is : List FI} {pre : List (List Nat)} (hl : pre.length = ops.size)
 (hpre : ∀ (n : Nat) (o : Oper), ops[n]? = some o → pre.getD n [] = o.after.toList.filterMap fun e => if Region.binds .any e then some e.on else none)
 (ht : ∀ (n : Nat) (o : Oper), ops[n]? = some o → TrF P G.N ops (is.getD n default) o) {R : St} (hQ : ∀ a' w', RelS G R a' w' → Q .normal a' w') :
 ∀ (fuel : Nat) (listed : Array Bool) (done : List Nat) (σ : St) (a : Act) (w : World), listed.size = ops.size → (∀ n, n < ops.size → (listed.getD n true = true ↔ n ∈ done)) → (∀ n ∈ done, n < ops.size) →
  (left pre done).length ≤ fuel → Good call G is pre R done σ → RelS G σ a w → wpAnyIn (W r) 0 P .any ops Q fuel listed a w := by
 have rd : ∀ (listed : Array Bool) (done : List Nat), listed.size = ops.size → (∀ n, n < ops.size → (listed.getD n true = true ↔ n ∈ done)) → (∀ n ∈ done, n < ops.size) → ∀ n, n ∈ Region.ready .any ops listed → n ∈ rdy pre done := by
  intro listed done hs hd hlt n hn
  obtain ⟨h1, o, h2, h3⟩ := mem_ready.1 hn
  have hno := (Array.getElem?_eq_some_iff.1 h2).1
  refine mem_rdy.2 ⟨by omega, fun c => ?_, fun j hj => ?_⟩
  · have := (hd n hno).2 c; rw [this] at h1; cases h1
  · rw [hpre n o h2] at hj
    obtain ⟨e, he, hje⟩ := List.mem_filterMap.1 hj
    split at hje
    · rename_i hb
      cases hje
      have := h3 e (by simpa using he) hb
      have hlt' : e.on < listed.size := by
       rcases Nat.lt_or_ge e.on listed.size with c | c
       · exact c
       · simp [Array.getElem?_eq_none c] at this
      refine (hd e.on (by omega)).1 ?_
      simp [Array.getD_eq_getD_getElem?, hlt'] at this ⊢
      exact this
    · cases hje
 have dr : ∀ (listed : Array Bool) (done : List Nat), listed.size = ops.size → (∀ n, n < ops.size → (listed.getD n true = true ↔ n ∈ done)) → (∀ n ∈ done, n < ops.size) → ∀ n, n ∈ rdy pre done → n ∈ Region.ready .any ops listed := by
  intro listed done hs hd hlt n hn
  obtain ⟨h1, h2, h3⟩ := mem_rdy.1 hn
  have hno : n < ops.size := by omega
  have ho : ops[n]? = some ops[n] := Array.getElem?_eq_getElem hno
  refine mem_ready.2 ⟨?_, _, ho, fun e he hb => ?_⟩
  · cases c : listed.getD n true with
    | false => rfl
    | true => exact absurd ((hd n hno).1 c) h2
  · have : e.on ∈ done := h3 e.on (by
     rw [hpre n _ ho]
     exact List.mem_filterMap.2 ⟨e, by simpa using he, by rw [if_pos hb]⟩)
    have hlt' := hlt _ this
    have := (hd e.on hlt').2 this
    have hs' : e.on < listed.size := by omega
    simp [Array.getD_eq_getD_getElem?, hs'] at this ⊢
    exact this
 intro fuel
 have fin : ∀ (listed : Array Bool) (done : List Nat) (σ : St) (a : Act) (w : World), listed.size = ops.size → (∀ n, n < ops.size → (listed.getD n true = true ↔ n ∈ done)) → (∀ n ∈ done, n < ops.size) → Good call G is pre R done σ → RelS G σ a w → Region.ready .any ops listed = [] → Q .normal a w := by
  intro listed done σ a w hs hd hlt hg hr hn
  have : rdy pre done = [] := by
   cases c : rdy pre done with
   | nil => rfl
   | cons i r => have := dr listed done hs hd hlt i (by rw [c]; simp); rw [hn] at this; cases this
  obtain ⟨σ', g1, g2⟩ := hg [] this
  simp only [List.map_nil, evFs] at g1
  cases g1
  exact hQ _ _ (g2 _ _ hr)
 induction fuel with
 | zero =>
  intro listed done σ a w hs hd hlt hf hg hr
  have hn : Region.ready .any ops listed = [] := by
   cases c : Region.ready .any ops listed with
   | nil => rfl
   | cons i r => have := left_lt (rd listed done hs hd hlt i (by rw [c]; simp)); omega
  exact ⟨hn, fin listed done σ a w hs hd hlt hg hr hn⟩
 | succ fuel ih =>
  intro listed done σ a w hs hd hlt hf hg hr
  refine ⟨fin listed done σ a w hs hd hlt hg hr, fun i hi => ?_⟩
  have hir := rd listed done hs hd hlt i hi
  have hio : i < ops.size := by have := (mem_rdy.1 hir).1; omega
  have hoi : ops[i]? = some ops[i] := Array.getElem?_eq_getElem hio
  obtain ⟨L, hL⟩ := valid_ex (pre := pre) _ (i :: done) (Nat.le_refl _)
  obtain ⟨σ', g1, _⟩ := hg (i :: L) ⟨hir, hL⟩
  simp only [List.map_cons, evFs] at g1
  obtain ⟨σ1, e1, _⟩ := bind_some' g1
  refine step_ok hc hoi (ht i _ hoi) e1 hr fun a' w' hr' => ?_
  refine ih (listed.setIfInBounds i true) (i :: done) σ1 a' w' (by simpa using hs) (fun n hn => ?_) (fun n hn => ?_) (by have := left_lt hir; omega) (fun L' hL' => ?_) hr'
  · by_cases c : i = n
    · subst c
      have : i < listed.size := by omega
      simp [Array.getD_eq_getD_getElem?, this]
    · rw [getD_set_ne true c, hd n hn]
      simp [Ne.symm c]
  · rcases List.mem_cons.1 hn with h | h
    · omega
    · exact hlt n h
  · obtain ⟨σ2, k1, k2⟩ := hg (i :: L') ⟨hir, hL'⟩
    simp only [List.map_cons, evFs, e1, Option.bind_some] at k1
    exact ⟨σ2, k1, k2⟩

theorem trD_spec {N : Nat} {ops : Array Oper} : ∀ {is : List FI} {pre : List (List Nat)} {os : List Oper} {is' : List FI}, trD P N ops is pre os = some is' → is'.length = os.length ∧ pre.length = os.length ∧
 ∀ (n : Nat) (o : Oper), os[n]? = some o → TrF P N ops (is'.getD n default) o ∧ pre.getD n [] = o.after.toList.filterMap fun e => if Region.binds .any e then some e.on else none
 | [], [], [], is', h => by simp only [trD] at h; cases h; exact ⟨rfl, rfl, fun n o h => by simp at h⟩
 | i :: is, p :: ps, o :: os, is', h => by
  simp only [trD] at h
  split at h
  · rename_i hk
    simp only [Bool.and_eq_true, beq_iff_eq] at hk
    obtain ⟨m, h1, h⟩ := bind_some' h
    obtain ⟨r, h2, h⟩ := bind_some' h
    cases h
    obtain ⟨g1, g2, g3⟩ := trD_spec h2
    refine ⟨by simp [g1], by simp [g2], fun n o' hn => ?_⟩
    cases n with
    | zero => simp at hn; subst hn; exact ⟨⟨rfl, hk.1.2, hk.1.1, i.o, h1⟩, hk.2.symm⟩
    | succ n => simpa using g3 n o' (by simpa using hn)
  · cases h
 | [], [], _ :: _, is', h => by simp [trD] at h
 | [], _ :: _, _, is', h => by simp [trD] at h
 | _ :: _, [], _, is', h => by simp [trD] at h
 | _ :: _, _ :: _, [], is', h => by simp [trD] at h

theorem regionD_ok {X : Nat → Option MFn} {call : Call} (hc : CallOK P call) (hP : P.follows .mixedOrders = true) {G : Ground} {r : Option Nat} {id : Nat} {ops : Array Oper} {is0 is : List FI} {pre0 pre : List (List Nat)} {gh gh0 : List Ghost} {σ : St} {x : Ex × St} {a : Act} {w : World} {k : Nat}
 {Q : Exit → Act → World → Prop} (ht : trCode P G.N (.region id ops true) (.regD is0 pre0 gh0) = some (.regD is pre gh)) (e : evC X call k G.m0.length (.regD is pre gh) σ = some x) (hr : RelS G σ a w)
 (hQ : ∀ a' w', x.1 = .normal → RelS G x.2 a' w' → Q .normal a' w') : (Code.region id ops true).wpIn (W r) 0 P Q a w := by
 simp only [trCode] at ht
 obtain ⟨is', t1, t2⟩ := Option.map_eq_some_iff.1 ht
 cases t2
 obtain ⟨h1, h2, h3⟩ := trD_spec t1
 simp only [Array.length_toList] at h1 h2
 simp only [evC] at e
 obtain ⟨R, e1, e2⟩ := bind_some' e
 cases e2
 have hg := evD_good _ _ _ e1
 have post : ∀ a' w', RelS G R a' w' → Q .normal a' w' := fun a' w' h => hQ a' w' rfl h
 have main : ∀ w', RelS G σ a w' → wpAnyIn (W r) 0 P .any ops Q ops.size (Array.replicate ops.size false) a w' := fun w' hr' =>
  anyD_ok hc h2 (fun n o ho => (h3 n o (by simpa using ho)).2) (fun n o ho => (h3 n o (by simpa using ho)).1) post ops.size _ [] σ a w' (by simp) (fun n hn => by simp [hn]) (by simp) (by
   unfold left
   refine Nat.le_trans (List.length_filter_le _ _) ?_
   simp [h2]) hg hr'
 exact wpIn_region_any hP (main _ hr.draw)
end

section
/-! ## The rounds of a range over a function -/
variable {P : Program}

/-- What the state speaks of stands: other blocks may have changed. -/
theorem carry_c {F F' : Nat → Prop} {m : Heap} {β : Place} {h h' : Array Obj} (hA : ∀ b, Avail F m β h b → Avail F' m β h' b ∧ h'[b]? = h[b]?) (hO : ∀ b, Owned m β b → h'[b]? = h[b]?)
 {c : C} {v : Value} (r : RepC h (Avail F m β h) m β c v) : RepC h' (Avail F' m β h') m β c v := by
 cases c with
 | d x => exact RepD.mono hA r
 | nil => exact r
 | own s i j =>
  have r : RepOwn h m β s i j v := r
  show RepOwn h' m β s i j v
  unfold RepOwn at r ⊢
  cases hs : m[s]? with
  | none => simp only [hs] at r
  | some sl =>
   simp only [hs] at r ⊢
   cases sl with
   | vals z xs =>
    simp only [] at r ⊢
    refine ⟨r.1, r.2.imp id ?_⟩
    rintro ⟨b, o, cap, N, e1, e2, e3, e4, e5⟩
    exact ⟨b, o, cap, N, e1, e2, e3, by rw [blkSize_congr (hO b (.mk hs (by simp) e1))]; exact e4, e5⟩
   | cells cs => exact r
   | rows z rs br =>
    simp only [] at r ⊢
    refine ⟨r.1, r.2.imp id ?_⟩
    rintro ⟨b, o, cap, N, e1, e2, e3, e4, e5⟩
    exact ⟨b, o, cap, N, e1, e2, e3, by rw [blkSize_congr (hO b (.mk hs (by simp) e1))]; exact e4, e5⟩
   | map es => exact r
   | dead => exact r
 | ptr s i j => exact r
 | mp s => exact r
 | fn f caps =>
  obtain ⟨vs, e, hv⟩ := r
  refine ⟨vs, e, hv.mono fun c u hc => ?_⟩
  cases c with
  | d x => exact RepD.mono hA hc
  | p s => exact hc
 | dead => exact r
theorem carry_v {F F' : Nat → Prop} {m : Heap} {β : Place} {h h' : Array Obj} (hA : ∀ b, Avail F m β h b → Avail F' m β h' b ∧ h'[b]? = h[b]?) (hO : ∀ b, Owned m β b → h'[b]? = h[b]?)
 {x : V} {v : Value} (r : RepV h (Avail F m β h) m β x v) : RepV h' (Avail F' m β h') m β x v := by
 have := RepV.map (f := fun c => c) (fun c v (h : RepC h (Avail F m β h) m β c v) => carry_c hA hO h) r
 rwa [V.mapC_id] at this
theorem owned_lt {F : Nat → Prop} {m : Heap} {β : Place} {h : Array Obj} (hm : MemOK F m β h) {b : Nat} (hb : Owned m β b) : b < h.size := hm.owned hb
theorem carry_m {F F' : Nat → Prop} {m : Heap} {β : Place} {h h' : Array Obj} (hA : ∀ b, Avail F m β h b → Avail F' m β h' b ∧ h'[b]? = h[b]?) (hO : ∀ b, Owned m β b → h'[b]? = h[b]?)
 (hnf : ∀ b, Owned m β b → ¬ F' b) (hfl : ∀ b, F' b → b < h'.size) (hm : MemOK F m β h) : MemOK F' m β h' where
 slots := fun s sl hs => by
  have r := hm.slots s sl hs
  have lies : ∀ (z : D) (xs : List D) (p : Option (Nat × Nat)), (∀ b o, p = some (b, o) → h'[b]? = h[b]?) → Lies h (Avail F m β h) z xs p → Lies h' (Avail F' m β h') z xs p := by
   intro z xs p he hl
   cases p with
   | none => exact hl
   | some p =>
    obtain ⟨b, o⟩ := p
    have e := he b o rfl
    refine ⟨hl.1.congr e, fun i j d x hd hx => ?_⟩
    obtain ⟨v, hv, hr⟩ := hl.2 i j d x hd hx
    exact ⟨v, by rw [cellAt_congr e]; exact hv, hr.mono hA⟩
  cases sl with
  | vals z xs =>
   obtain ⟨h1, h2, h3⟩ := r
   exact ⟨h1, h2, lies _ _ _ (fun b o e => hO b (.mk hs (by simp) e)) h3⟩
  | cells cs =>
   obtain ⟨b, o, e1, h1, h2⟩ := r
   have e := hO b (.mk hs (by simp) e1)
   refine ⟨b, o, e1, h1.congr e, fun j c hc => ?_⟩
   obtain ⟨v, hv, hr⟩ := h2 j c hc
   exact ⟨v, by rw [cellAt_congr e]; exact hv, carry_c hA hO hr⟩
  | rows z rs br =>
   obtain ⟨h0, h00, b, o, e1, h1, h2⟩ := r
   have e := hO b (.mk hs (by simp) e1)
   refine ⟨h0, h00, b, o, e1, h1.congr e, fun i r hr => ?_⟩
   obtain ⟨v, hv, hh⟩ := h2 i r hr
   refine ⟨v, by rw [cellAt_congr e]; exact hv, ?_⟩
   cases hg : brGet br i with
   | some c => simp only [hg] at hh ⊢; exact carry_c hA hO hh
   | none =>
    simp only [hg] at hh ⊢
    have same : ∀ b o, β (s, some i) = some (b, o) → h'[b]? = h[b]? := fun b o e => hO b ⟨(s, some i), .vals z r, o, (live_of hs (some i)).trans (by simp only [Slot.part, hg, hr, Option.map_some]), by simp, e⟩
    exact ⟨lies _ _ _ same hh.1, hh.2.same same⟩
  | map es =>
   obtain ⟨b, o, e1, ents, cl, h1, h2⟩ := r
   exact ⟨b, o, e1, ents, cl, (hO b (.mk hs (by simp) e1)).trans h1, h2.mono hA⟩
  | dead => trivial
 injK := hm.injK
 nf := hnf
 fl := hfl
theorem Evo.carry {F F' : Nat → Prop} {m0 m : Heap} {β0 β : Place} {w0 w w' : World} (E : Evo F m0 β0 w0 m β w) (h1 : w'.os = w.os) (h2 : w'.tape = w.tape) (h3 : w'.output = w.output) (hs : w.heap.size ≤ w'.heap.size)
 (hF : ∀ b, b < w0.heap.size → (F' b ↔ F b)) (hh : ∀ b, b < w0.heap.size → w'.heap[b]? = w.heap[b]?) (hb : ∀ b, blkSize w'.heap b = blkSize w.heap b) : Evo F' m0 β0 w0 m β w' where
 os := h1.trans E.os
 tape := h2.trans E.tape
 output := h3.trans E.output
 size := Nat.le_trans E.size hs
 av := fun b ⟨k1, k2, k3⟩ => by
  obtain ⟨g1, g2⟩ := E.av b ⟨k1, fun c => k2 ((hF b k1).2 c), k3⟩
  exact ⟨⟨Nat.lt_of_lt_of_le g1.1 hs, k2, g1.2.2⟩, (hh b k1).trans g2⟩
 fo := fun b hb hf => (hh b hb).trans (E.fo b hb ((hF b hb).1 hf))
 own := E.own
 evo := fun s sl h => by
  obtain ⟨sl', g1, g2⟩ := E.evo s sl h
  refine ⟨sl', g1, g2.imp id fun ⟨e1, e2, e3⟩ => ⟨e1, e2, fun b o h => (hb b).trans (e3 b o h)⟩⟩

/-- Data alone: it stands where its blocks stand. -/
theorem RepV.flat {h h' : Array Obj} {A A' : Nat → Prop} {β β' : Place} (hk : ∀ b, A b → A' b ∧ h'[b]? = h[b]?) {x : V} {v : Value} (r : RepV h A [] β x v) : RepV h' A' [] β' x v := by
 have one : ∀ (c : C) (v : Value), RepC h A [] β c v → RepC h' A' [] β' c v := by
  intro c v r
  cases c with
  | d x => exact RepD.mono hk r
  | nil => exact r
  | own s i j => have r : RepOwn h [] β s i j v := r; simp [RepOwn] at r
  | ptr s i j => have r : RepPtr [] β s i j v := r; simp [RepPtr] at r
  | mp s => have r : RepMp [] β s v := r; simp [RepMp] at r
  | fn f caps =>
   obtain ⟨vs, e, hv⟩ := r
   refine ⟨vs, e, hv.mono fun c u hc => ?_⟩
   cases c with
   | d x => exact RepD.mono hk hc
   | p s => have hc : RepPtr [] β s 0 0 u := hc; simp [RepPtr] at hc
  | dead => exact r
 have := RepV.map (f := fun c => c) one r
 rwa [V.mapC_id] at this

def Ground.at (G : Ground) (rs ls : List Nat) : Ground := { G with rs := rs, ls := ls }
/-- 'RelS' with the place of the slots. -/
def RelB (G : Ground) (β : Place) (σ : St) (a : Act) (w : World) : Prop :=
 MemOK G.Fr σ.mem β w.heap ∧ Evo G.Fr G.m0 G.β0 G.w0 σ.mem β w ∧ EnvOK w.heap (Avail G.Fr σ.mem β w.heap) σ.mem β σ.env a ∧ a.tmps.size = G.N ∧ Marks G.w0.heap.size G.rs G.ls a.defers w.heap
/-- In the course of a function ranges over functions leave marks and records behind. -/
def RelX (G : Ground) (r : Option Nat) (σ : St) (a : Act) (w : World) : Prop := ∃ rs ls, (r.isSome = true → rs = G.rs) ∧ RelS (G.at rs ls) σ a w
def RoundOk (G : Ground) (r : Option Nat) : Prop := ∀ l, r = some l → G.F l ∧ ∃ q, G.w0.heap[l]? = some (.loop q)

theorem Marks.ge {s0 : Nat} {rs ls : List Nat} {ds : List Deferred} {h : Array Obj} (k : Marks s0 rs ls ds h) {b : Nat} (hb : b ∈ ls ∨ b ∈ rs) : s0 ≤ b := by
 rcases hb with hb | hb
 · exact k.2.2.2 b hb
 · exact (k.2.2.1 b hb).2
theorem forget_core {G : Ground} {β : Place} {σ : St} {a : Act} {w : World} (hm : MemOK G.Fr σ.mem β w.heap) (hE : Evo G.Fr G.m0 G.β0 G.w0 σ.mem β w) (hk : EnvOK w.heap (Avail G.Fr σ.mem β w.heap) σ.mem β σ.env a)
 (hge : ∀ b, b ∈ G.ls ∨ b ∈ G.rs → G.w0.heap.size ≤ b) : MemOK G.F σ.mem β w.heap ∧ Evo G.F G.m0 G.β0 G.w0 σ.mem β w ∧ EnvOK w.heap (Avail G.F σ.mem β w.heap) σ.mem β σ.env a := by
 have hA : ∀ b, Avail G.Fr σ.mem β w.heap b → Avail G.F σ.mem β w.heap b ∧ w.heap[b]? = w.heap[b]? := fun b hb => ⟨⟨hb.1, fun c => hb.2.1 (.inl (.inl c)), hb.2.2⟩, rfl⟩
 refine ⟨carry_m hA (fun _ _ => rfl) (fun b hb c => hm.nf b hb (.inl (.inl c))) (fun b hb => hm.fl b (.inl (.inl hb))) hm, ?_, fun t => carry_v hA (fun _ _ => rfl) (hk t)⟩
 refine hE.carry rfl rfl rfl (Nat.le_refl _) (fun b hb => ⟨fun h => .inl (.inl h), fun h => ?_⟩) (fun _ _ => rfl) (fun _ => rfl)
 rcases h with (h | h) | h
 · exact h
 · have := hge b (.inl h); omega
 · have := hge b (.inr h); omega
theorem RelB.forget {G : Ground} {β : Place} {σ : St} {a : Act} {w : World} (h : RelB G β σ a w) : MemOK G.F σ.mem β w.heap ∧ Evo G.F G.m0 G.β0 G.w0 σ.mem β w ∧ EnvOK w.heap (Avail G.F σ.mem β w.heap) σ.mem β σ.env a :=
 forget_core h.1 h.2.1 h.2.2.1 fun _ hb => h.2.2.2.2.ge hb

theorem blkSize_put {w : World} {l : Nat} {q q' : Loop} (h : w.heap[l]? = some (.loop q)) (b : Nat) : blkSize (w.putObj l (.loop q')).heap b = blkSize w.heap b := by
 by_cases c : b = l
 · subst c
   have hlt := (Array.getElem?_eq_some_iff.1 h).1
   simp only [blkSize, World.putObj_heap_same hlt, h]
 · exact blkSize_congr (World.putObj_heap_other c)
/-- A record changes. -/
theorem RelB.record {G : Ground} {β : Place} {σ : St} {a : Act} {w : World} {l : Nat} {q q' : Loop} (hr : RelB G β σ a w) (hl : l ∈ G.ls) (h : w.heap[l]? = some (.loop q)) : RelB G β σ a (w.putObj l (.loop q')) := by
 obtain ⟨hm, hE, hk, hs, hd⟩ := hr
 have hF : G.Fr l := .inl (.inr hl)
 have hA : ∀ b, Avail G.Fr σ.mem β w.heap b → Avail G.Fr σ.mem β (w.putObj l (.loop q')).heap b ∧ (w.putObj l (.loop q')).heap[b]? = w.heap[b]? := fun b hb =>
  ⟨⟨by rw [World.putObj_size]; exact hb.1, hb.2⟩, World.putObj_heap_other fun c => hb.2.1 (c ▸ hF)⟩
 have hO : ∀ b, Owned σ.mem β b → (w.putObj l (.loop q')).heap[b]? = w.heap[b]? := fun b hb => World.putObj_heap_other fun c => hm.nf b hb (c ▸ hF)
 refine ⟨carry_m hA hO hm.nf (fun b hb => by rw [World.putObj_size]; exact hm.fl b hb) hm, ?_, fun t => carry_v hA hO (hk t), hs, hd.1, hd.2.1, fun r hr => ⟨?_, (hd.2.2.1 r hr).2⟩, hd.2.2.2⟩
 · refine hE.carry rfl rfl rfl (by rw [World.putObj_size]; exact Nat.le_refl _) (fun _ _ => Iff.rfl) (fun b hb => World.putObj_heap_other fun c => ?_) (blkSize_put h)
   have := hd.ge (.inl hl); omega
 · rw [World.putObj_heap_other fun c => ?_]
   · exact (hd.2.2.1 r hr).1
   · subst c; rw [(hd.2.2.1 r hr).1] at h; cases h
theorem carry_record {F : Nat → Prop} {m : Heap} {β : Place} {w : World} {l : Nat} {q' : Loop} (hm : MemOK F m β w.heap) (hF : F l) :
 MemOK F m β (w.putObj l (.loop q')).heap ∧ (∀ x v, RepV w.heap (Avail F m β w.heap) m β x v → RepV (w.putObj l (.loop q')).heap (Avail F m β (w.putObj l (.loop q')).heap) m β x v) ∧
 ∀ b, Avail F m β w.heap b → Avail F m β (w.putObj l (.loop q')).heap b ∧ (w.putObj l (.loop q')).heap[b]? = w.heap[b]? := by
 have hA : ∀ b, Avail F m β w.heap b → Avail F m β (w.putObj l (.loop q')).heap b ∧ (w.putObj l (.loop q')).heap[b]? = w.heap[b]? := fun b hb =>
  ⟨⟨by rw [World.putObj_size]; exact hb.1, hb.2⟩, World.putObj_heap_other fun c => hb.2.1 (c ▸ hF)⟩
 have hO : ∀ b, Owned m β b → (w.putObj l (.loop q')).heap[b]? = w.heap[b]? := fun b hb => World.putObj_heap_other fun c => hm.nf b hb (c ▸ hF)
 exact ⟨carry_m hA hO hm.nf (fun b hb => by rw [World.putObj_size]; exact hm.fl b hb) hm, fun x v r => carry_v hA hO r, hA⟩

theorem alloc_get {w : World} {o : Obj} {b : Nat} (h : b < w.heap.size) : (w.alloc o).heap[b]? = w.heap[b]? := by
 show (w.heap.push o)[b]? = _
 rw [Array.getElem?_push, if_neg (by omega)]
theorem alloc_size {w : World} {o : Obj} : (w.alloc o).heap.size = w.heap.size + 1 := by
 show (w.heap.push o).size = _
 simp
theorem alloc_blk {w : World} {o : Obj} (ho : ∀ c T s, o ≠ .cells c T s) (b : Nat) : blkSize (w.alloc o).heap b = blkSize w.heap b := by
 rcases Nat.lt_trichotomy b w.heap.size with h | h | h
 · exact blkSize_congr (alloc_get h)
 · subst h
   have e1 : (w.alloc o).heap[w.heap.size]? = some o := w.alloc_heap_new o
   have e2 : w.heap[w.heap.size]? = none := by simp
   simp only [blkSize, e1, e2]
   cases o <;> first | rfl | exact absurd rfl (ho _ _ _)
 · have e1 : (w.alloc o).heap[b]? = none := Array.getElem?_eq_none (by rw [alloc_size]; omega)
   have e2 : w.heap[b]? = none := Array.getElem?_eq_none (by omega)
   simp only [blkSize, e1, e2]
/-- A block of another kind is laid: it is foreign from then on. -/
theorem laid_core {G : Ground} {β : Place} {σ : St} {a : Act} {w : World} {o : Obj} {F' : Nat → Prop} (hr : RelB G β σ a w) (ho : ∀ c T s, o ≠ .cells c T s) (hF : ∀ b, F' b ↔ G.Fr b ∨ b = w.heap.size) :
 MemOK F' σ.mem β (w.alloc o).heap ∧ Evo F' G.m0 G.β0 G.w0 σ.mem β (w.alloc o) ∧ EnvOK (w.alloc o).heap (Avail F' σ.mem β (w.alloc o).heap) σ.mem β σ.env a := by
 obtain ⟨hm, hE, hk, hs, hd⟩ := hr
 have hA : ∀ b, Avail G.Fr σ.mem β w.heap b → Avail F' σ.mem β (w.alloc o).heap b ∧ (w.alloc o).heap[b]? = w.heap[b]? := fun b hb =>
  ⟨⟨by rw [alloc_size]; have := hb.1; omega, fun c => by
   rcases (hF b).1 c with c | c
   · exact hb.2.1 c
   · have := hb.1; omega, hb.2.2⟩, alloc_get hb.1⟩
 have hO : ∀ b, Owned σ.mem β b → (w.alloc o).heap[b]? = w.heap[b]? := fun b hb => alloc_get (owned_lt hm hb)
 refine ⟨carry_m hA hO (fun b hb c => ?_) (fun b hb => ?_) hm, ?_, fun t => carry_v hA hO (hk t)⟩
 · rcases (hF b).1 c with c | c
   · exact hm.nf b hb c
   · have := owned_lt hm hb; omega
 · rw [alloc_size]
   rcases (hF b).1 hb with c | c
   · have := hm.fl b c; omega
   · omega
 · have hsz := hE.size
   exact hE.carry rfl rfl rfl (by rw [alloc_size]; omega) (fun b hb => ⟨fun h => ((hF b).1 h).resolve_right (by omega), fun h => (hF b).2 (.inl h)⟩) (fun b hb => alloc_get (by omega)) (alloc_blk ho)
theorem RelB.laid {G : Ground} {β : Place} {σ : St} {a : Act} {w : World} {q : Loop} (hr : RelB G β σ a w) : RelB (G.at G.rs (w.heap.size :: G.ls)) β σ a (w.alloc (.loop q)) := by
 obtain ⟨h1, h2, h3⟩ := laid_core (o := .loop q) (F' := (G.at G.rs (w.heap.size :: G.ls)).Fr) hr (by intro c T s h; cases h) (fun b => by simp only [Ground.Fr, Ground.at, List.mem_cons]; exact ⟨fun h => by rcases h with (h | h | h) | h <;> simp [h], fun h => by rcases h with ((h | h) | h) | h <;> simp [h]⟩)
 obtain ⟨hm, hE, hk, hs, hd⟩ := hr
 refine ⟨h1, h2, h3, hs, hd.1, hd.2.1, fun r hr => ⟨?_, (hd.2.2.1 r hr).2⟩, fun l hl => ?_⟩
 · rw [alloc_get (Array.getElem?_eq_some_iff.1 (hd.2.2.1 r hr).1).1]; exact (hd.2.2.1 r hr).1
 · rcases List.mem_cons.1 hl with h | h
   · subst h; exact hE.size
   · exact hd.2.2.2 l h
theorem RelB.marked {G : Ground} {β : Place} {σ : St} {a : Act} {w : World} (hr : RelB G β σ a w) :
 RelB (G.at (w.heap.size :: G.rs) G.ls) β σ { a with defers := [{ target := .collected w.heap.size, args := #[] }] ++ a.defers } (w.alloc (.deferred (some []))) := by
 obtain ⟨h1, h2, h3⟩ := laid_core (o := .deferred (some [])) (F' := (G.at (w.heap.size :: G.rs) G.ls).Fr) hr (by intro c T s h; cases h) (fun b => by simp only [Ground.Fr, Ground.at, List.mem_cons]; exact ⟨fun h => by rcases h with (h | h) | h | h <;> simp [h], fun h => by rcases h with ((h | h) | h) | h <;> simp [h]⟩)
 obtain ⟨hm, hE, hk, hs, hd⟩ := hr
 refine ⟨h1, h2, h3, hs, ?_, ?_, fun r hr => ?_, hd.2.2.2⟩
 · show _ ++ a.defers = _
   rw [hd.1]; rfl
 · refine List.nodup_cons.2 ⟨fun c => ?_, hd.2.1⟩
   have := (Array.getElem?_eq_some_iff.1 (hd.2.2.1 _ c).1).1
   omega
 · rcases List.mem_cons.1 hr with h | h
   · subst h; exact ⟨w.alloc_heap_new _, hE.size⟩
   · exact ⟨by rw [alloc_get (Array.getElem?_eq_some_iff.1 (hd.2.2.1 r h).1).1]; exact (hd.2.2.1 r h).1, (hd.2.2.1 r h).2⟩

def Ex.to : Ex → Exit
 | .normal => .normal
 | .exit id => .exit id
 | .ret => .ret

def Ex.jump : Ex → Option Code
 | .normal => none
 | .exit id => some (.exit id)
 | .ret => some .ret
def recOf (q : Loop) (ex : Ex) : Loop := { q with state := if ex = .normal then .ready else .done, pending := ex.jump }
/-- What holds within the function that is ranged over: 's' is the state of the loop's function. -/
def LRel (G : Ground) (l : Nat) (q : Loop) (a : Act) (N : Nat) (s : Ex × St) (σ : St) (ag : Act) (w : World) : Prop :=
 ∃ β, RelB G β s.2 a w ∧ w.heap[l]? = some (.loop (recOf q s.1)) ∧ σ.mem = [] ∧ EnvOK w.heap (Avail G.Fr s.2.mem β w.heap) [] β σ.env ag ∧ ag.tmps.size = N ∧ ag.defers = []

theorem LRel.side {G : Ground} {l : Nat} {q : Loop} {a : Act} {N : Nat} {s : Ex × St} {σ : St} {ag : Act} {w : World} (hl : l ∈ G.ls) (h : LRel G l q a N s σ ag w) :
 ∃ G' : Ground, G'.m0 = [] ∧ G'.N = N ∧ RelS G' σ ag w ∧ ∀ σ' a' w', σ'.mem = [] → RelS G' σ' a' w' → LRel G l q a N s σ' a' w' := by
 obtain ⟨β, hB, hq, hmem, hk, hN, hdef⟩ := h
 obtain ⟨hm, hE, hkc, hs, hd⟩ := hB
 obtain ⟨e, m⟩ := σ
 simp only at hmem hk
 subst hmem
 have avs : ∀ b, Avail G.Fr s.2.mem β w.heap b → b < w.heap.size ∧ ¬ (((G.Fr b ∨ Owned s.2.mem β b) ∨ b ∈ ([] : List Nat)) ∨ b ∈ ([] : List Nat)) ∧ ¬ Owned [] β b := fun b hb =>
  ⟨hb.1, (fun c => by
   rcases c with (c | c) | c
   · rcases c with c | c
     · exact hb.2.1 c
     · exact hb.2.2 c
   · cases c
   · cases c), fun ⟨s, sl, o, c, _⟩ => by simp [live] at c⟩
 refine ⟨⟨fun b => G.Fr b ∨ Owned s.2.mem β b, [], β, w, N, [], []⟩, rfl, rfl, ⟨β, ?_, .refl _ _ _ _, fun t => (hk t).flat fun b hb => ⟨avs b hb, rfl⟩, hN, ?_⟩, ?_⟩
 · refine ⟨fun s sl c => by simp at c, fun s t sl tl b o o' c => by simp [live] at c, fun b ⟨s, sl, o, c, _⟩ => by simp [live] at c, fun b hb => ?_⟩
   rcases hb with (hb | hb) | hb
   · rcases hb with hb | hb
     · exact hm.fl b hb
     · exact owned_lt hm hb
   · cases hb
   · cases hb
 · exact ⟨by simpa using hdef, List.nodup_nil, fun r hr => (by cases hr), fun r hr => by cases hr⟩
 · intro σ' a' w' hmem' h'
   obtain ⟨β', hm', hE', hk', hN', hd'⟩ := h'
   obtain ⟨e', m'⟩ := σ'
   simp only at hmem' hm' hE' hk'
   subst hmem'
   have hf : ∀ b, G.Fr b → b < w.heap.size → w'.heap[b]? = w.heap[b]? := fun b hb hlt => hE'.fo b hlt (.inl (.inl (.inl hb)))
   have hO : ∀ b, Owned s.2.mem β b → w'.heap[b]? = w.heap[b]? := fun b hb => hE'.fo b (owned_lt hm hb) (.inl (.inl (.inr hb)))
   have hA : ∀ b, Avail G.Fr s.2.mem β w.heap b → Avail G.Fr s.2.mem β w'.heap b ∧ w'.heap[b]? = w.heap[b]? := fun b hb =>
    ⟨⟨Nat.lt_of_lt_of_le hb.1 hE'.size, hb.2⟩, (hE'.av b (avs b hb)).2⟩
   have E1 : Evo G.Fr s.2.mem β w s.2.mem β w' := ⟨hE'.os, hE'.tape, hE'.output, hE'.size, hA, fun b hb hf' => hf b hf' hb, fun b hb => .inl hb, fun t sl ht => by
    by_cases c : sl = .dead
    · exact ⟨sl, ht, .inl c⟩
    · exact ⟨sl, ht, .inr ⟨Slot.like.refl _, rfl, fun b o hb => blkSize_congr (hO b (.mk ht c hb))⟩⟩⟩
   refine ⟨β, ⟨carry_m hA hO hm.nf (fun b hb => Nat.lt_of_lt_of_le (hm.fl b hb) hE'.size) hm, hE.trans E1, EnvOK.evo E1 hkc, hs, hd.evo (fun r hr => .inr hr) E1⟩, ?_, rfl, fun t => ?_, hN', ?_⟩
   · rw [hf l (.inl (.inr hl)) (Array.getElem?_eq_some_iff.1 hq).1]; exact hq
   · refine (hk' t).flat (β := β') fun b hb => ⟨⟨hb.1, fun c => hb.2.1 (.inl (.inl (.inl c))), fun c => hb.2.1 (.inl (.inl (.inr c)))⟩, rfl⟩
   · simpa using hd'.1

theorem setL : ∀ (ps : List Nat) (us : List Value) (t : Array Value), (ps.zip us).foldl (fun tmps (x : Nat × Value) => tmps.setIfInBounds x.1 x.2) t = (match ps, us with | p :: ps, u :: us => (ps.zip us).foldl (fun tmps (x : Nat × Value) => tmps.setIfInBounds x.1 x.2) (t.setIfInBounds p u) | _, _ => t)
 | [], _, t => by simp
 | _ :: _, [], t => by simp
 | _ :: _, _ :: _, t => rfl
theorem putAll_ok {h : Array Obj} {A : Nat → Prop} {m : Heap} {β : Place} {ds : List Deferred} : ∀ (ps : List Nat) (args : List V) (us : List Value) (e : Env) (t : Array Value), EnvOK h A m β e { tmps := t, defers := ds } → All2 (RepV h A m β) args us →
 (∀ p ∈ ps, p < t.size) → args.length = ps.length → EnvOK h A m β (putAll ps args e) { tmps := (ps.zip us).foldl (fun tmps (x : Nat × Value) => tmps.setIfInBounds x.1 x.2) t, defers := ds } ∧
  ((ps.zip us).foldl (fun tmps (x : Nat × Value) => tmps.setIfInBounds x.1 x.2) t).size = t.size
 | [], _, _, e, t, hk, _, _, _ => by simpa [putAll] using hk
 | p :: ps, [], us, e, t, hk, r, hp, hl => by simp at hl
 | p :: ps, v :: args, [], e, t, hk, r, hp, hl => by cases r
 | p :: ps, v :: args, u :: us, e, t, hk, r, hp, hl => by
  cases r with
  | cons r1 r2 =>
   have := putAll_ok ps args us (e.put p v) (t.setIfInBounds p u) (by
    have := EnvOK.put hk (t := p) (hp p (by simp)) r1
    exact this) r2 (fun p' hp' => by simpa using hp p' (by simp [hp'])) (by simpa using hl)
   refine ⟨?_, ?_⟩
   · simpa [putAll] using this.1
   · have h2 := this.2
     simpa using h2

/-- One round. -/
theorem round_ok {X : Nat → Option MFn} {call : Call} {k : Nat} {G : Ground} {l : Nat} {q : Loop} {a : Act} (hl : l ∈ G.ls) (htm : q.tmps = a.tmps) (hps : ∀ t ∈ q.params.toList, t < G.N) {ma mb : MCode}
 (Ha : ∀ (G' : Ground), G'.N = G.N → RoundOk G' (some l) → ∀ σ x a w Q, evC X call k G'.m0.length ma σ = some x → RelX G' (some l) σ a w → (∀ a' w', RelX G' (some l) x.2 a' w' → Q x.1.to a' w') → q.assign.wpIn (W (some l)) 0 P Q a w)
 (Hb : ∀ (G' : Ground), G'.N = G.N → RoundOk G' (some l) → ∀ σ x a w Q, evC X call k G'.m0.length mb σ = some x → RelX G' (some l) σ a w → (∀ a' w', RelX G' (some l) x.2 a' w' → Q x.1.to a' w') → q.body.wpIn (W (some l)) 0 P Q a w)
 {gh : List Ghost} {args : List V} {s s' : Ex × St} {b : Bool} (e : roundM (fun b' => evC X call k b' ma) (fun b' => evC X call k b' mb) G.m0.length q.params.toList gh args s = some (b, s'))
 {β : Place} {us : List Value} {w : World} (hB : RelB G β s.2 a w) (hq : w.heap[l]? = some (.loop (recOf q s.1))) (hu : All2 (RepV w.heap (Avail G.Fr s.2.mem β w.heap) s.2.mem β) args us) :
 us.length = q.params.size ∧ (recOf q s.1).state = .ready ∧
 RoundIn (W none) 0 P l q.fn ((q.params.zip us.toArray).foldl (fun tmps (t, a) => tmps.setIfInBounds t a) q.tmps) q.assign q.body w fun en w' => en = .returned (.bool b) ∧ ∃ β', RelB G β' s'.2 a w' ∧ w'.heap[l]? = some (.loop (recOf q s'.1)) ∧
  ∀ b, Avail G.Fr s.2.mem β w.heap b → Avail G.Fr s'.2.mem β' w'.heap b ∧ w'.heap[b]? = w.heap[b]? := by
 unfold roundM at e
 split at e
 case h_2 => cases e
 case h_1 hn =>
 split at e
 case isFalse => cases e
 case isTrue hlen =>
 obtain ⟨r1, e1, e2⟩ := bind_some' e
 clear e
 split at e2
 case h_2 => cases e2
 case h_1 hr1 =>
 obtain ⟨r2, e3, e4⟩ := bind_some' e2
 obtain ⟨σ3, e5, e6⟩ := bind_some' e4
 clear e2 e4
 cases e6
 have hF : G.Fr l := .inl (.inr hl)
 obtain ⟨hm, hE, hk, hs, hd⟩ := hB
 refine ⟨by rw [← hu.length]; simpa using hlen, by simp [recOf, hn], roundIn_of_wpIn trivial ?_⟩
 have hfold : (q.params.zip us.toArray).foldl (fun tmps (x : Nat × Value) => tmps.setIfInBounds x.1 x.2) q.tmps = (q.params.toList.zip us).foldl (fun tmps (x : Nat × Value) => tmps.setIfInBounds x.1 x.2) q.tmps := by
  rw [← Array.foldl_toList, Array.toList_zip]
 show Code.wpIn (W (some l)) 0 P q.assign _ { tmps := (q.params.zip us.toArray).foldl (fun tmps (x : Nat × Value) => tmps.setIfInBounds x.1 x.2) q.tmps, defers := [] } w
 rw [hfold]
 have hk0 : EnvOK w.heap (Avail G.Fr s.2.mem β w.heap) s.2.mem β s.2.env { tmps := q.tmps, defers := [] } := by rw [htm]; exact hk
 obtain ⟨k1, k2⟩ := putAll_ok q.params.toList args us s.2.env q.tmps hk0 hu (fun p hp => by rw [htm, hs]; exact hps p hp) hlen
 have hst : (recOf q s.1).state = .ready := by simp [recOf, hn]
 -- the assignment
 obtain ⟨Ga, hGa⟩ : ∃ Ga : Ground, Ga = ⟨G.Fr, s.2.mem, β, w, G.N, [], []⟩ := ⟨_, rfl⟩
 have FrA : ∀ b, (⟨G.Fr, s.2.mem, β, w, G.N, [], []⟩ : Ground).Fr b ↔ G.Fr b := fun b => by simp [Ground.Fr]
 have hFrA : Ga.Fr = G.Fr := by subst hGa; funext b; exact propext (FrA b)
 refine Ha Ga (by subst hGa; rfl) (fun l' h => by cases h; subst hGa; exact ⟨hF, _, hq⟩) _ r1 _ _ _ (by subst hGa; exact e1) ⟨[], [], fun _ => by subst hGa; rfl, β, ?_⟩ ?_
 · have : (Ga.at [] []) = Ga := by subst hGa; rfl
   rw [this]
   refine ⟨by rw [hFrA]; exact hm, by rw [hFrA]; subst hGa; exact .refl _ _ _ _, by rw [hFrA]; exact k1, ?_, ?_⟩
   · subst hGa; show _ = G.N; rw [← hs, ← htm]; exact k2
   · subst hGa; exact ⟨rfl, List.nodup_nil, fun r hr => (by cases hr), fun r hr => by cases hr⟩
 · intro a1 w1 ⟨rs1, ls1, hrs1, β1, hB1⟩
   rw [hr1]
   have hrs1 : rs1 = [] := by rw [hrs1 rfl]; subst hGa; rfl
   subst hrs1
   have hB1' := RelB.forget (G := Ga.at [] ls1) hB1
   have hN1 := hB1.2.2.2.1
   have hd1 := hB1.2.2.2.2
   clear hB1
   have hE1 : Evo G.Fr s.2.mem β w r1.2.mem β1 w1 := by have := hB1'.2.1; subst hGa; exact this
   have hm1 : MemOK G.Fr r1.2.mem β1 w1.heap := by have := hB1'.1; subst hGa; exact this
   have hk1 : EnvOK w1.heap (Avail G.Fr r1.2.mem β1 w1.heap) r1.2.mem β1 r1.2.env a1 := by have := hB1'.2.2; subst hGa; exact this
   have hN1 : a1.tmps.size = G.N := by subst hGa; exact hN1
   have hdef1 : a1.defers = [] := by simpa [Ground.at] using hd1.1
   have hq1 : w1.heap[l]? = some (.loop (recOf q s.1)) := by rw [hE1.fo l (Array.getElem?_eq_some_iff.1 hq).1 hF]; exact hq
   refine ⟨_, run_beginRound hq1 hst, ?_⟩
   obtain ⟨w2, hw2⟩ : ∃ w2, w2 = w1.putObj l (.loop { recOf q s.1 with state := .busy }) := ⟨_, rfl⟩
   rw [← hw2]
   obtain ⟨c1, c2, c3⟩ := carry_record (q' := { recOf q s.1 with state := .busy }) hm1 hF
   rw [← hw2] at c1 c2 c3
   have hq2 : w2.heap[l]? = some (.loop { recOf q s.1 with state := .busy }) := by rw [hw2]; exact World.putObj_heap_same (Array.getElem?_eq_some_iff.1 hq1).1
   -- the body
   obtain ⟨Gb, hGb⟩ : ∃ Gb : Ground, Gb = ⟨G.Fr, r1.2.mem, β1, w2, G.N, [], []⟩ := ⟨_, rfl⟩
   have hFrB : Gb.Fr = G.Fr := by subst hGb; funext b; simp [Ground.Fr]
   refine Hb Gb (by subst hGb; rfl) (fun l' h => by cases h; subst hGb; exact ⟨hF, _, hq2⟩) _ r2 _ _ _ (by subst hGb; exact e3) ⟨[], [], fun _ => by subst hGb; rfl, β1, ?_⟩ ?_
   · have : (Gb.at [] []) = Gb := by subst hGb; rfl
     rw [this]
     refine ⟨by rw [hFrB]; exact c1, by rw [hFrB]; subst hGb; exact .refl _ _ _ _, by rw [hFrB]; exact fun t => c2 _ _ (hk1 t), ?_, ?_⟩
     · subst hGb; exact hN1
     · subst hGb; exact ⟨by simpa using hdef1, List.nodup_nil, fun r hr => (by cases hr), fun r hr => by cases hr⟩
   · intro a2 w3 ⟨rs2, ls2, hrs2, β2, hB2⟩
     have hB2' := RelB.forget (G := Gb.at rs2 ls2) hB2
     clear hB2
     have hE2 : Evo G.Fr r1.2.mem β1 w2 r2.2.mem β2 w3 := by have := hB2'.2.1; subst hGb; exact this
     have hm2 : MemOK G.Fr r2.2.mem β2 w3.heap := by have := hB2'.1; subst hGb; exact this
     have hq3 : w3.heap[l]? = some (.loop { recOf q s.1 with state := .busy }) := by rw [hE2.fo l (Array.getElem?_eq_some_iff.1 hq2).1 hF]; exact hq2
     obtain ⟨w4, hw4⟩ : ∃ w4, w4 = w3.putObj l (.loop (recOf q r2.1)) := ⟨_, rfl⟩
     -- the loop's function, from the round's beginning to its end
     have B1 : RelB G β1 ⟨s.2.env, r1.2.mem⟩ a w1 := ⟨hm1, hE.trans hE1, EnvOK.evo hE1 hk, hs, hd.evo (fun r hr => .inr hr) hE1⟩
     have B2 : RelB G β1 ⟨s.2.env, r1.2.mem⟩ a w2 := by rw [hw2]; exact B1.record hl hq1
     obtain ⟨b1, b2, b3, b4, b5⟩ := B2
     have B3 : RelB G β2 ⟨s.2.env, r2.2.mem⟩ a w3 := ⟨hm2, b2.trans hE2, EnvOK.evo hE2 b3, hs, b5.evo (fun r hr => .inr hr) hE2⟩
     have B4 : RelB G β2 ⟨s.2.env, r2.2.mem⟩ a w4 := by rw [hw4]; exact B3.record hl hq3
     obtain ⟨d1, d2, d3, d4, d5⟩ := B4
     obtain ⟨β3, g1, g2, g3, g4⟩ := ghosts_ok gh d1 d2 d3 e5
     have av4 := (carry_record (q' := recOf q r2.1) hm2 hF).2.2
     rw [← hw4] at av4
     have hlast : ∀ (j : Option Code), j = r2.1.jump → (Instr.endRound l j).run P w3 = .ok (.bool (decide (r2.1 = .normal))) w4 := by
      intro j hj
      have hb : j.isNone = decide (r2.1 = .normal) := by subst hj; cases r2.1 <;> simp [Ex.jump]
      rw [run_endRound j hq3, hb, hw4]
      congr 2
      subst hj
      simp only [recOf, decide_eq_true_eq]
     have fin : Ending.returned (.bool (decide (r2.1 = .normal))) = .returned (.bool (decide (r2.1 = .normal))) ∧ ∃ β', RelB G β' σ3 a w4 ∧ w4.heap[l]? = some (.loop (recOf q r2.1)) ∧
      ∀ b, Avail G.Fr s.2.mem β w.heap b → Avail G.Fr σ3.mem β' w4.heap b ∧ w4.heap[b]? = w.heap[b]? := by
      refine ⟨rfl, β3, ⟨g1, g2, g3, d4, d5⟩, by rw [hw4]; exact World.putObj_heap_same (Array.getElem?_eq_some_iff.1 hq3).1, fun b hb => ?_⟩
      obtain ⟨x1, y1⟩ := hE1.av b hb
      obtain ⟨x2, y2⟩ := c3 b x1
      obtain ⟨x3, y3⟩ := hE2.av b x2
      obtain ⟨x4, y4⟩ := av4 b x3
      exact ⟨g4 b x4, y4.trans (y3.trans (y2.trans y1))⟩
     revert fin hlast
     obtain ⟨ex, σ2⟩ := r2
     intro hlast fin
     cases ex with
     | normal => exact ⟨_, _, hlast none rfl, fin⟩
     | exit id => exact ⟨_, _, hlast _ rfl, fin⟩
     | ret => exact ⟨_, _, hlast _ rfl, fin⟩

/-! ### An operation in the middle -/
/-- In a drawn order: what comes before operation y in every order. -/
theorem drawn_pre {call : Call} (hc : CallOK P call) {G : Ground} {r : Option Nat} {ops : Array Oper} {Q : Exit → Act → World → Prop} {is : List FI} (hl : is.length = ops.size)
 (ht : ∀ (n : Nat) (i : FI) (o : Oper), is[n]? = some i → ops[n]? = some o → TrF P G.N ops i o) (hd : drawOk ops is = true) {y : Nat} (hy : y < ops.size) (hyo : yldOk ops y = true) {σf : St} {f0 : Nat} {Ly : Array Bool}
 (hLs : Ly.size = ops.size) (hLy : ∀ n, n < ops.size → Ly.getD n true = decide (n < y)) (hK : ∀ a' w', RelS G σf a' w' → wpAnyIn (W r) 0 P .any ops Q f0 Ly a' w') :
 ∀ (L : List Nat) (listed : Array Bool) (σ σ' : St) (a : Act) (w : World), listed.size = ops.size →
  (∀ n, n ∈ L ↔ n < y ∧ listed.getD n true = false) → (∀ n, y ≤ n → n < ops.size → listed.getD n true = false) → L.Pairwise (· < ·) → (∀ n o, listed.getD n false = true → ops[n]? = some o → ∀ e ∈ o.after, Region.binds .any e = true → listed.getD e.on false = true) →
  evFs call (L.map fun n => is.getD n default) σ = some σ' → σ'.eqv σf → RelS G σ a w → wpAnyIn (W r) 0 P .any ops Q (L.length + f0) listed a w := by
 obtain ⟨hd1, hd2⟩ := drawOk_spec hd
 have hys := yldOk_spec hyo
 have inst : ∀ (listed : Array Bool) (n : Nat), listed.size = ops.size → n < ops.size → ∀ d, listed.getD n d = listed[n]?.getD false := by
  intro listed n hs hn d
  have : n < listed.size := by omega
  simp [Array.getD_eq_getD_getElem?, Array.getElem?_eq_getElem this]
 have main : ∀ (fuel : Nat) (L : List Nat) (listed : Array Bool) (σ σ' : St) (a : Act) (w : World), L.length = fuel → listed.size = ops.size →
  (∀ n, n ∈ L ↔ n < y ∧ listed.getD n true = false) → (∀ n, y ≤ n → n < ops.size → listed.getD n true = false) → L.Pairwise (· < ·) → (∀ n o, listed.getD n false = true → ops[n]? = some o → ∀ e ∈ o.after, Region.binds .any e = true → listed.getD e.on false = true) →
  evFs call (L.map fun n => is.getD n default) σ = some σ' → σ'.eqv σf → RelS G σ a w → wpAnyIn (W r) 0 P .any ops Q (fuel + f0) listed a w := by
  intro fuel
  induction fuel with
  | zero =>
   intro L listed σ σ' a w hlen hs hmem hge hp hcl e he hr
   have : L = [] := List.eq_nil_of_length_eq_zero hlen
   subst this
   simp only [List.map_nil, evFs] at e
   cases e
   have hLL : listed = Ly := by
    apply Array.ext (hs.trans hLs.symm)
    intro n h1 h2
    have hn : n < ops.size := by omega
    have k1 := inst listed n hs hn true
    have k2 := inst Ly n hLs hn true
    rw [Array.getElem?_eq_getElem h1] at k1
    rw [Array.getElem?_eq_getElem h2] at k2
    simp only [Option.getD_some] at k1 k2
    rw [← k1, ← k2, hLy n hn]
    by_cases c : n < y
    · have : listed.getD n true ≠ false := fun c2 => by simpa using (hmem n).2 ⟨c, c2⟩
      simp only [ne_eq, Bool.not_eq_false] at this
      rw [this]; simp [c]
    · rw [hge n (by omega) hn]; simp [c]
   subst hLL
   rw [Nat.zero_add]
   exact hK _ _ (hr.eqv he)
  | succ fuel ih =>
   intro L listed σ σ' a w hlen hs hmem hge hp hcl e he hr
   rw [show fuel + 1 + f0 = (fuel + f0) + 1 by omega]
   refine ⟨fun hnil => ?_, fun i hi => ?_⟩
   · exfalso
     cases L with
     | nil => simp at hlen
     | cons n L =>
      obtain ⟨hny, hn2⟩ := (hmem n).1 (by simp)
      have hn : n < ops.size := by omega
      have hon : ops[n]? = some ops[n] := Array.getElem?_eq_getElem hn
      have : n ∈ Region.ready .any ops listed := mem_ready.2 ⟨hn2, _, hon, fun e he hb => by
       have h1 := hd2 n _ (by omega) hon e he hb
       have h2 : e.on ∉ n :: L := by
        intro h
        rcases List.mem_cons.1 h with h | h
        · omega
        · have := (List.pairwise_cons.1 hp).1 _ h; omega
       have h3 : ¬ listed.getD e.on true = false := fun c => h2 ((hmem e.on).2 ⟨by omega, c⟩)
       rw [inst listed _ hs (by omega)] at h3 ⊢
       simpa using h3⟩
      rw [hnil] at this
      cases this
   · obtain ⟨hjun, oj, hoj, hall⟩ := mem_ready.1 hi
     have hio : i < ops.size := (Array.getElem?_eq_some_iff.1 hoj).1
     have hiy : i < y := by
      refine Decidable.byContradiction fun hge' => ?_
      cases L with
      | nil => simp at hlen
      | cons n L =>
       obtain ⟨hny, hn2⟩ := (hmem n).1 (by simp)
       have := before_spec ops (L := fun j => listed.getD j false = true) hcl i oj hoj hall n (hys i n hio (by omega) (by omega) (by omega))
       rw [inst listed _ hs (by omega)] at this hn2
       rw [this] at hn2; cases hn2
     have hil : is[i]? = some (is.getD i default) := by
      rw [List.getD_eq_getElem?_getD, List.getElem?_eq_getElem (by omega)]; rfl
     obtain ⟨pre, post, rfl⟩ := List.append_of_mem ((hmem i).2 ⟨hiy, hjun⟩)
     have hpw := List.pairwise_append.1 hp
     rw [List.map_append, List.map_cons, List.append_cons] at e
     obtain ⟨τ, e1, e2⟩ := evFs_app.1 e
     obtain ⟨τ1, τ', g1, g2, g3⟩ := bubble (fun x hx => by
      obtain ⟨k, hk, rfl⟩ := List.mem_map.1 hx
      have hki : k < i := hpw.2.2 k hk i (by simp)
      have hkL := (hmem k).1 (by simp [hk])
      refine (hd1 i (by omega) k hki).resolve_left fun hb => ?_
      have := before_spec ops (L := fun j => listed.getD j false = true) hcl i oj hoj hall k hb
      have h5 := hkL.2
      rw [inst listed _ hs (by omega)] at this h5
      rw [this] at h5; cases h5) e1
     obtain ⟨σ'', k1, k2⟩ := evFs_eqv g3 e2
     refine step_ok hc hoj (ht i _ oj hil hoj) g1 hr fun a' w' hr' => ?_
     refine ih (pre ++ post) (listed.setIfInBounds i true) τ1 σ'' a' w' (by simp at hlen ⊢; omega) (by simpa using hs) (fun n => ?_) (fun n h1 h2 => ?_) ?_ ?_ ?_ (k2.symm.trans he) hr'
     · by_cases c : n = i
       · subst c
         constructor
         · intro h
           exfalso
           rcases List.mem_append.1 h with h | h
           · have := hpw.2.2 n h n (by simp); omega
           · have := (List.pairwise_cons.1 hpw.2.1).1 n h; omega
         · intro h
           exfalso
           have h2 := h.2
           have : n < listed.size := by omega
           simp [Array.getD_eq_getD_getElem?, this] at h2
       · rw [getD_set_ne true (Ne.symm c), ← hmem n]
         simp [c]
     · rw [getD_set_ne true (by omega)]; exact hge n h1 h2
     · refine hp.sublist ?_
       exact List.Sublist.append (List.Sublist.refl _) (List.sublist_cons_self _ _)
     · intro n o h ho ed hed hb
       by_cases c : n = i
       · subst c
         rw [hoj] at ho; cases ho
         exact getD_set_true (hall ed hed hb)
       · rw [getD_set_ne false (Ne.symm c)] at h
         exact getD_set_true (hcl n o h ho ed hed hb)
     · rw [List.map_append]
       exact evFs_app.2 ⟨τ', g2, k1⟩
 intro L listed σ σ' a w
 exact main L.length L listed σ σ' a w rfl

theorem map_range_take {is : List FI} {y : Nat} (hy : y ≤ is.length) : (List.range y).map (fun n => is.getD n default) = is.take y := by
 apply List.ext_getElem?
 intro n
 rw [List.getElem?_map, List.getElem?_take]
 by_cases c : n < y
 · rw [List.getElem?_range c, if_pos c]
   simp [List.getD_eq_getElem?_getD, List.getElem?_eq_getElem (show n < is.length by omega)]
 · rw [if_neg c, List.getElem?_eq_none (by simpa using c)]; rfl
theorem map_range_drop {is : List FI} {y m : Nat} (hm : m = is.length - y) : (List.range' y m).map (fun n => is.getD n default) = is.drop y := by
 apply List.ext_getElem?
 intro n
 rw [List.getElem?_map, List.getElem?_drop]
 by_cases c : n < m
 · rw [List.getElem?_range' c]
   simp [List.getD_eq_getElem?_getD, List.getElem?_eq_getElem (show y + n < is.length by omega)]
 · rw [List.getElem?_eq_none (show is.length ≤ y + n by omega), List.getElem?_eq_none (by simp; omega)]; rfl

theorem blkSize_putO {w : World} {l : Nat} {o o' : Obj} (h : w.heap[l]? = some o) (ho : ∀ c T s, o ≠ .cells c T s) (ho' : ∀ c T s, o' ≠ .cells c T s) (b : Nat) : blkSize (w.putObj l o').heap b = blkSize w.heap b := by
 by_cases c : b = l
 · subst c
   have hlt := (Array.getElem?_eq_some_iff.1 h).1
   simp only [blkSize, World.putObj_heap_same hlt, h]
   cases o <;> cases o' <;> first | rfl | exact absurd rfl (ho _ _ _) | exact absurd rfl (ho' _ _ _)
 · exact blkSize_congr (World.putObj_heap_other c)
/-- At the function's end its marks are come to: nothing was deferred in the rounds. -/
theorem leaves_marks {F : Fence} {n : Nat} {fn : Func} {R : Ending → World → Prop} {G : Ground} {β : Place} {σ : St} {a : Act} (hge : ∀ r ∈ G.rs, G.w0.heap.size ≤ r)
 (H : ∀ w', MemOK G.Fr σ.mem β w'.heap → Evo G.Fr G.m0 G.β0 G.w0 σ.mem β w' → EnvOK w'.heap (Avail G.Fr σ.mem β w'.heap) σ.mem β σ.env a → LeavesIn F n P fn a.tmps R [] .returning w') :
 ∀ (L : List Nat) (w : World), (∀ r ∈ L, r ∈ G.rs ∧ w.heap[r]? = some (.deferred (some []))) → L.Nodup → MemOK G.Fr σ.mem β w.heap → Evo G.Fr G.m0 G.β0 G.w0 σ.mem β w → EnvOK w.heap (Avail G.Fr σ.mem β w.heap) σ.mem β σ.env a →
  LeavesInM F n P fn a.tmps R (L.map fun r => { target := .collected r, args := #[] }) .returning w
 | [], w, _, _, hm, hE, hk => H w hm hE hk
 | r :: L, w, hL, hn, hm, hE, hk => by
  obtain ⟨hr, hw⟩ := hL r (by simp)
  have hF : G.Fr r := .inr hr
  have hA : ∀ b, Avail G.Fr σ.mem β w.heap b → Avail G.Fr σ.mem β (w.putObj r (.deferred none)).heap b ∧ (w.putObj r (.deferred none)).heap[b]? = w.heap[b]? := fun b hb =>
   ⟨⟨by rw [World.putObj_size]; exact hb.1, hb.2⟩, World.putObj_heap_other fun c => hb.2.1 (c ▸ hF)⟩
  have hO : ∀ b, Owned σ.mem β b → (w.putObj r (.deferred none)).heap[b]? = w.heap[b]? := fun b hb => World.putObj_heap_other fun c => hm.nf b hb (c ▸ hF)
  refine ⟨by simp, .inl ⟨r, _, rfl, run_takeDeferred hw, ?_⟩⟩
  refine leaves_marks hge H L _ (fun r' hr' => ⟨(hL r' (by simp [hr'])).1, ?_⟩) (List.nodup_cons.1 hn).2 (carry_m hA hO hm.nf (fun b hb => by rw [World.putObj_size]; exact hm.fl b hb) hm) ?_ (fun t => carry_v hA hO (hk t))
  · have hne : r' ≠ r := fun c => (List.nodup_cons.1 hn).1 (c ▸ hr')
    rw [World.putObj_heap_other hne]
    exact (hL r' (by simp [hr'])).2
  · refine hE.carry rfl rfl rfl (by rw [World.putObj_size]; exact Nat.le_refl _) (fun _ _ => Iff.rfl) (fun b hb => World.putObj_heap_other fun c => ?_) (blkSize_putO hw (by intro c T s h; cases h) (by intro c T s h; cases h))
    have := hge r hr; omega
end

section
/-! ## The function that is ranged over -/
variable {P : Program}

theorem seq_then {call : Call} (hc : CallOK P call) {G : Ground} {r : Option Nat} {ops : Array Oper} {Q : Exit → Act → World → Prop} {rest : List Nat} : ∀ (is : List FI) (ns : List Nat) (σ σ' : St) (a : Act) (w : World),
 All2 (fun i n => ∃ o, ops[n]? = some o ∧ TrF P G.N ops i o) is ns → evFs call is σ = some σ' → RelS G σ a w → (∀ a' w', RelS G σ' a' w' → wpOpsIn (W r) 0 P ops Q rest a' w') → wpOpsIn (W r) 0 P ops Q (ns ++ rest) a w := by
 intro is
 induction is with
 | nil => intro ns σ σ' a w h e hr hQ; cases h; simp only [evFs] at e; cases e; exact hQ _ _ hr
 | cons i is ih =>
  intro ns σ σ' a w h e hr hQ
  cases h with
  | cons h1 t =>
   obtain ⟨o, g1, g2⟩ := h1
   simp only [evFs] at e
   obtain ⟨σ1, e1, e2⟩ := bind_some' e
   rw [List.cons_append, wpOpsIn_cons]
   exact step_ok hc g1 g2 e1 hr fun a' w' hr' => ih _ _ _ _ _ t e2 hr' hQ

/-- What the generator's walk asks of the relation between its states, the rounds' states and the machine's. -/
structure Side (P : Program) {S : Type} (N l : Nat) (rd : List V → S → Option (Bool × S)) (Rel : S → St → Act → World → Prop) : Prop where
 side : ∀ s σ a w, Rel s σ a w → ∃ G : Ground, G.m0 = [] ∧ G.N = N ∧ RelS G σ a w ∧ ∀ σ' a' w', σ'.mem = [] → RelS G σ' a' w' → Rel s σ' a' w'
 yld : ∀ s s' σ a w (ops : Array Oper) (n : Nat) (o : Oper) x args d b (K : Act → World → Prop) (Q : Exit → Act → World → Prop), Rel s σ a w → σ.mem = [] → ops[n]? = some o → TrF P N ops ⟨none, some d, .callv x args⟩ o → callvOp o.op = true →
  σ.arg x = .one (.d (.fn (.yield l) [])) → rd (args.map σ.arg) s = some (b, s') → (∀ a' w', Rel s' ⟨σ.env.put d (.bool b), []⟩ a' w' → K a' w') → wpOpIn (W none) 0 P ops Q n K a w

theorem yld_ok {call : Call} (hc : CallOK P call) (hP : P.follows .mixedOrders = true) {S : Type} {N k l : Nat} {rd : List V → S → Option (Bool × S)} {Rel : S → St → Act → World → Prop} (hS : Side P N l rd Rel)
 {id : Nat} {ops : Array Oper} {draw : Bool} {is0 is : List FI} {pre0 pre : List (List Nat)} {y y1 : Nat} {gh0 gh : List Ghost} (ht : trCode P N (.region id ops draw) (.yld is0 pre0 y gh0) = some (.yld is pre y1 gh))
 {σ : St} {s : S} {x : Ex × (St × S)} (e : evGen call k l rd (.yld is pre y1 gh) (σ, s) = some x) {a : Act} {w : World} (hr : Rel s σ a w) {Q : Exit → Act → World → Prop} (hQ : ∀ a' w', x.1 = .normal → Rel x.2.2 x.2.1 a' w' → Q .normal a' w') :
 (Code.region id ops draw).wpIn (W none) 0 P Q a w := by
 have ht1 : (trD P N ops is0 pre0 ops.toList).bind (fun is' => if (!draw || (drawOk ops is' && yldOk ops y)) && (match ops[y]? with | some o => callvOp o.op | none => false) then some (MCode.yld is' pre0 y gh0) else none) = some (.yld is pre y1 gh) := by
  cases draw <;> exact ht
 clear ht
 obtain ⟨is', t1, t2⟩ := bind_some' ht1
 clear ht1
 rw [Option.ite_none_right_eq_some, Bool.and_eq_true] at t2
 obtain ⟨⟨hdraw, hcv⟩, t2⟩ := t2
 cases t2
 obtain ⟨h1, h2, h3⟩ := trD_spec t1
 simp only [Array.length_toList] at h1 h2
 have hTr : ∀ (n : Nat) (i : FI) (o : Oper), is[n]? = some i → ops[n]? = some o → TrF P N ops i o := by
  intro n i o hi ho
  have := (h3 n o (by simpa using ho)).1
  rwa [List.getD_eq_getElem?_getD, hi] at this
 simp only [evGen] at e
 obtain ⟨σ1, e1, e2⟩ := bind_some' e
 clear e
 obtain ⟨en1, m1⟩ := σ1
 split at e2
 case h_2 => cases e2
 case h_1 d xa args hm1 hop =>
 simp only at hm1
 subst hm1
 split at e2
 case h_2 => cases e2
 case h_1 l' hx =>
 split at e2
 case isFalse => cases e2
 case isTrue hll =>
 subst hll
 obtain ⟨r, e3, e4⟩ := bind_some' e2
 obtain ⟨σ2, e5, e6⟩ := bind_some' e4
 obtain ⟨σ3, e7, e8⟩ := bind_some' e6
 clear e2 e4 e6
 split at e8
 case h_2 => cases e8
 case h_1 hm3 =>
 cases e8
 have hy : y < is.length := by
  refine Decidable.byContradiction fun c => ?_
  rw [List.getD_eq_getElem?_getD, List.getElem?_eq_none (by omega)] at hop
  cases hop
 have hyo : y < ops.size := by omega
 have hoy : ops[y]? = some ops[y] := Array.getElem?_eq_getElem hyo
 rw [hoy] at hcv
 simp only [] at hcv
 have hTy : TrF P N ops ⟨none, some d, .callv xa args⟩ ops[y] := hop ▸ (h3 y _ (by rw [Array.getElem?_toList]; exact hoy)).1
 -- after the middle one
 have last : ∀ a' w', Rel r.2 ⟨en1.put d (.bool r.1), []⟩ a' w' → ∃ G : Ground, G.N = N ∧ RelS G ⟨en1.put d (.bool r.1), []⟩ a' w' ∧ ∀ a'' w'', RelS G σ2 a'' w'' → Q .normal a'' w'' := by
  intro a' w' h
  obtain ⟨G, g1, g2, g3, g4⟩ := hS.side _ _ _ _ h
  refine ⟨G, g2, g3, fun a'' w'' h' => hQ _ _ rfl (g4 _ _ _ hm3 (h'.ghosts (by rw [g1]; exact e7)))⟩
 -- the middle one
 have mid : ∀ (K : Act → World → Prop) a' w', Rel s ⟨en1, []⟩ a' w' → (∀ a'' w'', Rel r.2 ⟨en1.put d (.bool r.1), []⟩ a'' w'' → K a'' w'') → wpOpIn (W none) 0 P ops Q y K a' w' := fun K a' w' h hK =>
  hS.yld s r.2 ⟨en1, []⟩ a' w' ops y _ xa args d r.1 K Q h rfl hoy hTy hcv hx e3 hK
 cases draw with
 | false =>
  refine wpIn_region ?_
  have hrange : List.range ops.size = List.range y ++ (y :: List.range' (y + 1) (ops.size - (y + 1))) := by
   rw [List.range_eq_range', List.range_eq_range']
   have : y :: List.range' (y + 1) (ops.size - (y + 1)) = List.range' y (ops.size - y) := by
    rw [show ops.size - y = (ops.size - (y + 1)) + 1 by omega, List.range'_succ]
   rw [this, show List.range' y (ops.size - y) = List.range' (0 + 1 * y) (ops.size - y) by simp, List.range'_append, show y + (ops.size - y) = ops.size by omega]
  rw [hrange]
  obtain ⟨G, g1, g2, g3, g4⟩ := hS.side _ _ _ _ hr
  refine seq_then hc (G := G) (is.take y) (List.range y) σ ⟨en1, []⟩ a w ?_ e1 g3 fun a1 w1 hr1 => ?_
  · refine All2.of_get (by simp; omega) fun n i j hi hj => ?_
    have hn : n < y := by have := (List.getElem?_eq_some_iff.1 hj).1; simpa using this
    rw [List.getElem?_range hn] at hj; cases hj
    rw [List.getElem?_take, if_pos hn] at hi
    have hlt : n < ops.size := by omega
    exact ⟨ops[n], Array.getElem?_eq_getElem hlt, g2 ▸ hTr n i _ hi (Array.getElem?_eq_getElem hlt)⟩
  · rw [wpOpsIn_cons]
    refine mid _ a1 w1 (g4 _ _ _ rfl hr1) fun a2 w2 hr2 => ?_
    obtain ⟨G2, k1, k2, k3⟩ := last a2 w2 hr2
    refine seq_ok hc (G := G2) (is.drop (y + 1)) _ _ σ2 a2 w2 ?_ e5 k2 k3
    refine All2.of_get (by simp; omega) fun n i j hi hj => ?_
    have hn : n < ops.size - (y + 1) := by have := (List.getElem?_eq_some_iff.1 hj).1; simpa using this
    rw [List.getElem?_range' hn] at hj; cases hj
    rw [List.getElem?_drop] at hi
    have hlt : y + 1 + 1 * n < ops.size := by omega
    rw [Nat.one_mul]
    exact ⟨ops[y + 1 + n], Array.getElem?_eq_getElem (by omega), k1 ▸ hTr _ i _ hi (Array.getElem?_eq_getElem (by omega))⟩
 | true =>
  simp only [Bool.not_true, Bool.false_or, Bool.and_eq_true] at hdraw
  refine wpIn_region_any hP ?_
  obtain ⟨G, g1, g2, g3, g4⟩ := hS.side _ _ _ _ hr
  obtain ⟨Ly, hLy⟩ : ∃ Ly : Array Bool, Ly = (Array.range ops.size).map fun n => decide (n < y) := ⟨_, rfl⟩
  have hLs : Ly.size = ops.size := by rw [hLy]; simp
  have hLg : ∀ n, n < ops.size → ∀ d, Ly.getD n d = decide (n < y) := by
   intro n hn d
   rw [hLy, Array.getD_eq_getD_getElem?]
   simp [hn]
  have hcl : ∀ n o, Ly.getD n false = true → ops[n]? = some o → ∀ e ∈ o.after, Region.binds .any e = true → Ly.getD e.on false = true := by
   intro n o h ho ed hed hb
   have hn := (Array.getElem?_eq_some_iff.1 ho).1
   rw [hLg n hn] at h
   have := (drawOk_spec hdraw.1).2 n o (by omega) ho ed hed hb
   rw [hLg _ (by omega)]
   simp at h ⊢; omega
  have e1' : evFs call ((List.range y).map fun n => is.getD n default) σ = some ⟨en1, []⟩ := by rw [map_range_take (by omega)]; exact e1
  have hlen : ops.size = (List.range y).length + (ops.size - y) := by simp; omega
  rw [hlen]
  have harr : Array.replicate ((List.range y).length + (ops.size - y)) false = Array.replicate ops.size false := by rw [← hlen]
  rw [harr]
  refine drawn_pre hc (G := G) (is := is) (by omega) (fun n i o hi ho => g2 ▸ hTr n i o hi ho) hdraw.1 hyo hdraw.2 (σf := ⟨en1, []⟩) hLs (fun n hn => hLg n hn true) (fun a1 w1 hr1 => ?_)
   (List.range y) (Array.replicate ops.size false) σ ⟨en1, []⟩ a _ (by simp) (fun n => ?_) (fun n h1 h2 => ?_) List.pairwise_lt_range (fun n o h ho => ?_) e1' (.refl _) g3.draw
  · -- y itself
    rw [show ops.size - y = (ops.size - (y + 1)) + 1 by omega]
    have hrdy : ∀ i ∈ Region.ready .any ops Ly, i = y := by
     intro i hi
     obtain ⟨hju, oj, hoj, hall⟩ := mem_ready.1 hi
     have hio := (Array.getElem?_eq_some_iff.1 hoj).1
     rw [hLg i hio] at hju
     simp at hju
     refine Decidable.byContradiction fun c => ?_
     have := before_spec ops (L := fun j => Ly.getD j false = true) hcl i oj hoj hall y (yldOk_spec hdraw.2 i y hio (by omega) (by omega) (by omega))
     rw [hLg y hyo] at this
     simp at this
    refine ⟨fun hnil => ?_, fun i hi => ?_⟩
    · exfalso
      have : y ∈ Region.ready .any ops Ly := mem_ready.2 ⟨by rw [hLg y hyo]; simp, _, hoy, fun ed hed hb => by
       have := (drawOk_spec hdraw.1).2 y _ (by omega) hoy ed hed hb
       rw [hLg _ (by omega)]; simp; omega⟩
      rw [hnil] at this
      cases this
    · have := hrdy i hi
      subst this
      refine mid _ a1 w1 (g4 _ _ _ rfl hr1) fun a2 w2 hr2 => ?_
      obtain ⟨G2, k1, k2, k3⟩ := last a2 w2 hr2
      have hset : ∀ n, n < ops.size → ∀ d, (Ly.setIfInBounds i true).getD n d = decide (n < i + 1) := by
       intro n hn d
       by_cases c : n = i
       · subst c
         have : n < Ly.size := by omega
         simp [Array.getD_eq_getD_getElem?, this]
       · rw [getD_set_ne d (Ne.symm c), hLg n hn]
         simp; omega
      refine drawn_ok hc (G := G2) (is := is) (σf := σ2) (by omega) (fun n i o hi ho => k1 ▸ hTr n i o hi ho) hdraw.1 k3 (ops.size - (i + 1)) _ (List.range' (i + 1) (ops.size - (i + 1))) _ σ2 a2 w2 (by simpa using hLs) (by simp) (fun n => ?_) (List.pairwise_lt_range' 1 (by decide)) (fun n o h ho ed hed hb => ?_) ?_ (.refl _) k2
      · rw [List.mem_range'_1]
        constructor
        · intro h
          have hn : n < ops.size := by omega
          rw [hset n hn]
          simp; omega
        · intro ⟨hn, h⟩
          rw [hset n hn] at h
          simp at h; omega
      · have hn := (Array.getElem?_eq_some_iff.1 ho).1
        rw [hset n hn] at h
        have := (drawOk_spec hdraw.1).2 n o (by omega) ho ed hed hb
        rw [hset _ (by omega)]
        simp at h ⊢; omega
      · rw [map_range_drop (by omega)]; exact e5
  · rw [List.mem_range]
    constructor
    · intro h; exact ⟨h, by simp [show n < ops.size by omega]⟩
    · exact fun h => h.1
  · simp [h2]
  · exfalso
    have := (Array.getElem?_eq_some_iff.1 ho).1
    simp [this] at h

theorem stepR_scope {b : Frame} {k : List Item} {cs : List Frame} {c : Code} {a : Act} {w : World} : step P (lone (b.atR a (.code (.scope c) :: k)) cs w) = .next (lone (b.atR a (.code c :: .inScope c :: k)) cs w) :=
 step_lone_go (by simp [stepG, stepG.exec, Frame.atR])
theorem stepR_inScope {b : Frame} {k : List Item} {cs : List Frame} {c : Code} {a : Act} {w : World} : step P (lone (b.atR a (.inScope c :: k)) cs w) = .next (lone (b.atR a k) cs w) :=
 step_lone_go (by simp [stepG, stepG.exec, Frame.atR])
theorem wpIn_scope {F : Fence} {n : Nat} {Q : Exit → Act → World → Prop} {a : Act} {w : World} {c : Code} (h : c.wpIn F n P (Exit.noGoto Q) a w) : (Code.scope c).wpIn F n P Q a w := by
 intro b k cs hro hb hr
 have h0 : (lone (b.atR a (.code (.scope c) :: k)) cs w).fenced P F := fenced_calm hb hr rfl
 obtain ⟨e, a₁, w₁, hq, harr⟩ := h b (.inScope c :: k) cs hro hb hr
 cases e with
 | normal => exact ⟨.normal, a₁, w₁, hq, .head h0 stepR_scope (StepsIn.trans harr (.one (fenced_calm hb hr rfl) stepR_inScope))⟩
 | exit id => exact ⟨.exit id, a₁, w₁, hq, .of_steps (.one h0 stepR_scope) ⟨fun k' hk => harr.1 k' (by simp [exitTo, hk]), fun hro hk => harr.2 hro (by simp [exitTo, hk])⟩⟩
 | goto l => exact hq.elim
 | ret => exact ⟨_, a₁, w₁, hq, .of_steps (.one h0 stepR_scope) harr⟩
 | panic ch => exact ⟨_, a₁, w₁, hq, .of_steps (.one h0 stepR_scope) harr⟩
 | outgrown => exact ⟨_, a₁, w₁, hq, .of_steps (.one h0 stepR_scope) harr⟩

def GenOk (P : Program) {S : Type} (call : Call) (k N l : Nat) (rd : List V → S → Option (Bool × S)) (Rel : S → St → Act → World → Prop) (c : Code) (mc : MCode) : Prop :=
 ∀ (mc' : MCode) (σ : St) (s : S) (x : Ex × (St × S)) (a : Act) (w : World) (Q : Exit → Act → World → Prop),
  trCode P N c mc = some mc' → evGen call k l rd mc' (σ, s) = some x → Rel s σ a w → (∀ a' w', Rel x.2.2 x.2.1 a' w' → Q x.1.to a' w') → c.wpIn (W none) 0 P Q a w
theorem gstrip {S : Type} {call : Call} {k N l : Nat} {rd : List V → S → Option (Bool × S)} {Rel : S → St → Act → World → Prop} (hS : Side P N l rd Rel) {c : Code}
 (H : ∀ mc, (∀ gs y, mc ≠ .gh gs y) → GenOk P call k N l rd Rel c mc) : ∀ mc, GenOk P call k N l rd Rel c mc := by
 intro mc
 induction mc with
 | gh gs y ih =>
  intro mc' σ s x a w Q ht e hr hQ
  have ht : (trCode P N c y).map (.gh gs) = some mc' := by cases c <;> first | exact ht | (rename_i o _ _; cases o <;> exact ht)
  obtain ⟨y', h1, rfl⟩ := Option.map_eq_some_iff.1 ht
  simp only [evGen] at e
  obtain ⟨σ1, h2, h3⟩ := bind_some' e
  split at h3
  case h_2 => cases h3
  case h_1 hm =>
  obtain ⟨G, g1, g2, g3, g4⟩ := hS.side _ _ _ _ hr
  exact ih y' σ1 s x a w Q h1 h3 (g4 _ _ _ hm (g3.ghosts (by rw [g1]; exact h2))) hQ
 | _ => exact H _ (by intro gs y h; cases h)

theorem tr_bad {N : Nat} : ∀ (c : Code) (mc' : MCode), trCode P N c .bad = some mc' → mc' = .bad := by
 intro c mc' ht
 cases c <;> simp only [trCode] at ht <;> first | (cases ht; rfl) | (rename_i o _ _; cases o <;> simp only [trCode] at ht <;> cases ht <;> rfl)

theorem gen_ok {call : Call} (hc : CallOK P call) (hP : P.follows .mixedOrders = true) {S : Type} {k N l : Nat} {rd : List V → S → Option (Bool × S)} {Rel : S → St → Act → World → Prop} (hS : Side P N l rd Rel) :
 ∀ (c : Code) (mc : MCode), GenOk P call k N l rd Rel c mc := by
 intro c
 have bad : ∀ (c : Code) (mc' : MCode) (σ : St × S) (x : Ex × (St × S)), trCode P N c .bad = some mc' → evGen call k l rd mc' σ = some x → False := by
  intro c mc' σ x ht e
  have := tr_bad c mc' ht
  subst this
  simp only [evGen] at e
  cases e
 induction c with
 | skip =>
  refine gstrip hS fun mc hng => ?_
  intro mc' σ s x a w Q ht e hr hQ
  by_cases hb : mc = .bad
  · subst hb; exact (bad _ _ _ _ ht e).elim
  cases mc <;> simp only [trCode, reduceCtorEq] at ht <;> first | (exact absurd rfl hb) | (exact absurd rfl (hng _ _)) | skip
  cases ht
  simp only [evGen] at e
  cases e
  exact wpIn_skip (hQ _ _ hr)
 | label l =>
  refine gstrip hS fun mc hng => ?_
  intro mc' σ s x a w Q ht e hr hQ
  by_cases hb : mc = .bad
  · subst hb; exact (bad _ _ _ _ ht e).elim
  cases mc <;> simp only [trCode, reduceCtorEq] at ht <;> first | (exact absurd rfl hb) | (exact absurd rfl (hng _ _)) | skip
  cases ht
  simp only [evGen] at e
  cases e
  exact wpIn_label (hQ _ _ hr)
 | region id ops draw =>
  refine gstrip hS fun mc hng => ?_
  intro mc' σ s x a w Q ht e hr hQ
  by_cases hb : mc = .bad
  · subst hb; exact (bad _ _ _ _ ht e).elim
  cases mc with
  | reg ms gh =>
   have h2 : ∃ is, mc' = .reg is gh := by
    simp only [trCode] at ht
    obtain ⟨y, t1, t2⟩ := bind_some' ht
    split at t2
    · split at t2
      · cases t2; exact ⟨_, rfl⟩
      · cases t2
    · cases t2
   obtain ⟨is, rfl⟩ := h2
   simp only [evGen] at e
   obtain ⟨σ1, e1, e2⟩ := bind_some' e
   obtain ⟨σ2, e3, e4⟩ := bind_some' e2
   split at e4
   case h_2 => cases e4
   case h_1 hm =>
   cases e4
   obtain ⟨G, g1, g2, g3, g4⟩ := hS.side _ _ _ _ hr
   refine region_ok (X := fun _ => none) hc hP (G := G) (k := k) (g2 ▸ ht) (x := (.normal, σ2)) (by simp only [evC, e1, g1, List.length_nil, e3, Option.bind_some]) g3 fun a' w' _ hr' => hQ a' w' (g4 _ _ _ hm hr')
  | regD ms pre gh =>
   cases draw with
   | false => simp only [trCode, reduceCtorEq] at ht
   | true =>
    have h2 : ∃ is, mc' = .regD is pre gh := by
     simp only [trCode] at ht
     obtain ⟨is, _, t2⟩ := Option.map_eq_some_iff.1 ht
     exact ⟨is, t2.symm⟩
    obtain ⟨is, rfl⟩ := h2
    simp only [evGen] at e
    obtain ⟨σ1, e1, e2⟩ := bind_some' e
    split at e2
    case h_2 => cases e2
    case h_1 hm =>
    cases e2
    obtain ⟨G, g1, g2, g3, g4⟩ := hS.side _ _ _ _ hr
    refine regionD_ok (X := fun _ => none) hc hP (G := G) (k := k) (g2 ▸ ht) (x := (.normal, σ1)) (by simp only [evC, g1, List.length_nil, e1, Option.bind_some]) g3 fun a' w' _ hr' => hQ a' w' (g4 _ _ _ hm hr')
  | yld is0 pre y gh =>
   have h2 : ∃ is y1, mc' = .yld is pre y1 gh := by
    have ht1 : (trD P N ops is0 pre ops.toList).bind (fun is' => if (!draw || (drawOk ops is' && yldOk ops y)) && (match ops[y]? with | some o => callvOp o.op | none => false) then some (MCode.yld is' pre y gh) else none) = some mc' := by
     cases draw <;> exact ht
    obtain ⟨is', t1, t2⟩ := bind_some' ht1
    rw [Option.ite_none_right_eq_some] at t2
    exact ⟨is', y, (Option.some.inj t2.2).symm⟩
   obtain ⟨is, y1, rfl⟩ := h2
   refine yld_ok hc hP hS ht e hr fun a' w' hn hr' => ?_
   have := hQ a' w' hr'
   rw [hn] at this
   exact this
  | bad => exact absurd rfl hb
  | gh gs y => exact absurd rfl (hng _ _)
  | _ => simp only [trCode, reduceCtorEq] at ht
 | seq c1 c2 ih1 ih2 =>
  refine gstrip hS fun mc hng => ?_
  intro mc' σ s x a w Q ht e hr hQ
  by_cases hb : mc = .bad
  · subst hb; exact (bad _ _ _ _ ht e).elim
  cases mc <;> simp only [trCode, reduceCtorEq] at ht <;> first | (exact absurd rfl hb) | (exact absurd rfl (hng _ _)) | skip
  rename_i m1 m2
  obtain ⟨y1, t1, t2⟩ := bind_some' ht
  cases hy : trCode P N c2 m2 with
  | none => rw [hy] at t2; cases t2
  | some y2 =>
   rw [hy] at t2
   cases t2
   simp only [evGen] at e
   obtain ⟨z, e1, e2⟩ := bind_some' e
   refine wpIn_seq (ih1 _ _ _ _ _ _ _ _ t1 e1 hr fun a' w' hr' => ?_)
   obtain ⟨ex, σ1, s1⟩ := z
   cases ex with
   | normal => exact ih2 _ _ _ _ _ _ _ _ hy e2 hr' hQ
   | exit id => cases e2; exact hQ _ _ hr'
   | ret => cases e2; exact hQ _ _ hr'
 | cond o c1 c2 ih1 ih2 =>
  refine gstrip hS fun mc hng => ?_
  intro mc' σ s x a w Q ht e hr hQ
  by_cases hb : mc = .bad
  · subst hb; exact (bad _ _ _ _ ht e).elim
  by_cases hcv : ∃ v, o = .const v
  · obtain ⟨v, rfl⟩ := hcv
    obtain ⟨t, m, m', rfl, rfl, rfl, h1⟩ := trCode_const ht hb hng
    simp only [evGen] at e
    refine wpIn_cond (t := t) rfl ?_
    cases t with
    | true => exact ih1 _ _ _ _ _ _ _ _ (by simpa using h1) e hr hQ
    | false => exact ih2 _ _ _ _ _ _ _ _ (by simpa using h1) e hr hQ
  cases o <;> first | (exact absurd ⟨_, rfl⟩ hcv) | (cases mc <;> simp only [trCode, reduceCtorEq] at ht <;> first | (exact absurd rfl hb) | (exact absurd rfl (hng _ _)) | skip)
  rename_i t t0 m1 m2
  obtain ⟨y1, t1, t2⟩ := bind_some' ht
  cases hy : trCode P N c2 m2 with
  | none => rw [hy] at t2; cases t2
  | some y2 =>
   rw [hy] at t2
   cases t2
   simp only [evGen] at e
   obtain ⟨p, hp, e2⟩ := bind_some' e
   have hv : a.eval (.tmp t) = .bool p := by
    obtain ⟨G, g1, g2, g3, g4⟩ := hS.side _ _ _ _ hr
    obtain ⟨β, _, _, h3, _, _⟩ := g3
    have := h3 t
    generalize σ.env.get t = v at hp this
    unfold V.bool? at hp
    split at hp <;> cases hp
    have this : RepD _ _ (.bool p) (a.tmps.getD t undef) := this
    generalize hq : a.tmps.getD t undef = q at this
    cases this
    exact hq
   refine wpIn_cond hv ?_
   cases p with
   | true => exact ih1 _ _ _ _ _ _ _ _ t1 e2 hr hQ
   | false => exact ih2 _ _ _ _ _ _ _ _ hy e2 hr hQ
 | block id c ih =>
  refine gstrip hS fun mc hng => ?_
  intro mc' σ s x a w Q ht e hr hQ
  by_cases hb : mc = .bad
  · subst hb; exact (bad _ _ _ _ ht e).elim
  cases mc <;> simp only [trCode, reduceCtorEq] at ht <;> first | (exact absurd rfl hb) | (exact absurd rfl (hng _ _)) | skip
  rename_i id0 m
  cases hy : trCode P N c m with
  | none => rw [hy] at ht; cases ht
  | some y =>
   rw [hy] at ht
   cases ht
   simp only [evGen] at e
   obtain ⟨z, e1, e2⟩ := bind_some' e
   refine wpIn_block (ih _ _ _ _ _ _ _ _ hy e1 hr fun a' w' hr' => ?_)
   obtain ⟨ex, σ1, s1⟩ := z
   cases ex with
   | normal => cases e2; exact hQ _ _ hr'
   | ret => cases e2; exact hQ _ _ hr'
   | exit id' =>
    simp only [] at e2
    show Exit.inBlock id Q (.exit id') a' w'
    simp only [Exit.inBlock]
    split at e2
    · rename_i h; rw [if_pos h]; cases e2; exact hQ _ _ hr'
    · rename_i h; rw [if_neg h]; cases e2; exact hQ _ _ hr'
 | loop c ih =>
  refine gstrip hS fun mc hng => ?_
  intro mc' σ s x a w Q ht e hr hQ
  by_cases hb : mc = .bad
  · subst hb; exact (bad _ _ _ _ ht e).elim
  cases mc <;> simp only [trCode, reduceCtorEq] at ht <;> first | (exact absurd rfl hb) | (exact absurd rfl (hng _ _)) | skip
  rename_i m
  cases hy : trCode P N c m with
  | none => rw [hy] at ht; cases ht
  | some y =>
   rw [hy] at ht
   cases ht
   simp only [evGen] at e
   refine wpIn_loop_rounds k ?_
   suffices H : ∀ (j : Nat) (σ : St) (s : S) (a : Act) (w : World), iter (evGen call k l rd y) j (σ, s) = some x → Rel s σ a w → Code.roundsIn (W none) 0 P c Q j a w from H k σ s a w e hr
   intro j
   induction j with
   | zero => intro σ s a w e; simp only [iter] at e; cases e
   | succ j ihj =>
    intro σ s a w e hr
    simp only [iter] at e
    obtain ⟨z, e1, e2⟩ := bind_some' e
    refine ih _ _ _ _ _ _ _ _ hy e1 hr fun a' w' hr' => ?_
    obtain ⟨ex, σ1, s1⟩ := z
    cases ex with
    | normal => exact ihj σ1 s1 a' w' e2 hr'
    | exit id => cases e2; exact hQ _ _ hr'
    | ret => cases e2; exact hQ _ _ hr'
 | scope c ih =>
  refine gstrip hS fun mc hng => ?_
  intro mc' σ s x a w Q ht e hr hQ
  by_cases hb : mc = .bad
  · subst hb; exact (bad _ _ _ _ ht e).elim
  cases mc <;> simp only [trCode, reduceCtorEq] at ht <;> first | (exact absurd rfl hb) | (exact absurd rfl (hng _ _)) | skip
  rename_i m
  cases hy : trCode P N c m with
  | none => rw [hy] at ht; cases ht
  | some y =>
   rw [hy] at ht
   cases ht
   simp only [evGen] at e
   refine wpIn_scope (ih _ _ _ _ _ _ _ _ hy e hr fun a' w' hr' => ?_)
   have := hQ a' w' hr'
   obtain ⟨ex, σ1⟩ := x
   cases ex <;> exact this
 | exit id =>
  refine gstrip hS fun mc hng => ?_
  intro mc' σ s x a w Q ht e hr hQ
  by_cases hb : mc = .bad
  · subst hb; exact (bad _ _ _ _ ht e).elim
  cases mc <;> simp only [trCode, reduceCtorEq] at ht <;> first | (exact absurd rfl hb) | (exact absurd rfl (hng _ _)) | skip
  cases ht
  simp only [evGen] at e
  cases e
  exact wpIn_exit (hQ _ _ hr)
 | ret =>
  refine gstrip hS fun mc hng => ?_
  intro mc' σ s x a w Q ht e hr hQ
  by_cases hb : mc = .bad
  · subst hb; exact (bad _ _ _ _ ht e).elim
  cases mc <;> simp only [trCode, reduceCtorEq] at ht <;> first | (exact absurd rfl hb) | (exact absurd rfl (hng _ _)) | skip
  cases ht
  simp only [evGen] at e
  cases e
  exact wpIn_ret (hQ _ _ hr)
 | goto l =>
  refine gstrip hS fun mc hng => ?_
  intro mc' σ s x a w Q ht e
  by_cases hb : mc = .bad
  · subst hb; exact (bad _ _ _ _ ht e).elim
  cases mc <;> simp only [trCode, reduceCtorEq] at ht <;> first | (exact absurd rfl hb) | (exact absurd rfl (hng _ _)) | skip
 | refuse l =>
  refine gstrip hS fun mc hng => ?_
  intro mc' σ s x a w Q ht e
  by_cases hb : mc = .bad
  · subst hb; exact (bad _ _ _ _ ht e).elim
  cases mc <;> simp only [trCode, reduceCtorEq] at ht <;> first | (exact absurd rfl hb) | (exact absurd rfl (hng _ _)) | skip
 | rangeFunc f ps as b =>
  refine gstrip hS fun mc hng => ?_
  intro mc' σ s x a w Q ht e
  by_cases hb : mc = .bad
  · subst hb; exact (bad _ _ _ _ ht e).elim
  cases mc <;> simp only [trCode, reduceCtorEq] at ht <;> first | (exact absurd rfl hb) | (exact absurd rfl (hng _ _)) | skip
  obtain ⟨x1, _, ht⟩ := bind_some' ht
  obtain ⟨x2, _, ht⟩ := bind_some' ht
  obtain ⟨x3, _, ht⟩ := bind_some' ht
  split at ht
  · cases ht; simp only [evGen] at e; cases e
  · cases ht

theorem lrel_side {G : Ground} {l : Nat} {q : Loop} {a : Act} {N : Nat} (hl : l ∈ G.ls) {rd : List V → Ex × St → Option (Bool × (Ex × St))}
 (hround : ∀ args s s' b, rd args s = some (b, s') → ∀ β us w, RelB G β s.2 a w → w.heap[l]? = some (.loop (recOf q s.1)) → All2 (RepV w.heap (Avail G.Fr s.2.mem β w.heap) s.2.mem β) args us →
  us.length = q.params.size ∧ (recOf q s.1).state = .ready ∧
  RoundIn (W none) 0 P l q.fn ((q.params.zip us.toArray).foldl (fun tmps (t, a) => tmps.setIfInBounds t a) q.tmps) q.assign q.body w fun en w' => en = .returned (.bool b) ∧ ∃ β', RelB G β' s'.2 a w' ∧ w'.heap[l]? = some (.loop (recOf q s'.1)) ∧
   ∀ b, Avail G.Fr s.2.mem β w.heap b → Avail G.Fr s'.2.mem β' w'.heap b ∧ w'.heap[b]? = w.heap[b]?) :
 Side P N l rd (LRel G l q a N) where
 side := fun s σ a w h => h.side hl
 yld := by
  intro s s' σ ag w ops n o x args d b K Q hr hmem hon hT hcv hx hrd hK
  obtain ⟨β, hB, hq, _, hk, hN, hdef⟩ := hr
  obtain ⟨en, m⟩ := σ
  simp only at hmem
  subst hmem
  obtain ⟨t1, t2, t3, m0, t4⟩ := hT
  simp only at t1 t3 t4
  cases ho : o.op with
  | call c =>
   rw [ho] at t4 hcv
   have hcal : ∃ t, c.callee = .value (.tmp t) := by
    simp only [callvOp] at hcv
    split at hcv
    · exact ⟨_, by assumption⟩
    · cases hcv
   obtain ⟨t, hcal⟩ := hcal
   simp only [trOp, hcal] at t4
   obtain ⟨xs, h1, h2⟩ := Option.map_eq_some_iff.1 t4
   cases h2
   have ra := Rep_args (σ := ⟨en, []⟩) hk h1
   have rf := hk t
   have hx : en.get t = .one (.d (.fn (.yield l) [])) := hx
   rw [hx] at rf
   have rf : RepD w.heap (Avail G.Fr s.2.mem β w.heap) (.fn (.yield l) []) (ag.tmps.getD t undef) := rf
   have e1 : ag.eval (.tmp t) = .func (.yield l) #[] #[] := by
    show ag.tmps.getD t undef = _
    generalize ag.tmps.getD t undef = v at rf
    cases rf with
    | fn _ _ vs hl hr =>
     have : vs = #[] := Array.eq_empty_of_size_eq_zero (by simpa using hl)
     rw [this]
   obtain ⟨k1, k2, k3⟩ := hround _ s s' b hrd β (c.args.toList.map ag.eval) w hB hq (ra.mono fun x u hxu => noSlots_rep (fun _ h => h) (.inr rfl) hxu)
   have hg : o.guard = none := by
    unfold guardOk at t3
    cases hog : o.guard with
    | none => rfl
    | some p => rw [hog] at t3; cases p; cases t3
   unfold wpOpIn
   simp only [hon]
   rw [if_pos (by simp [Region.wanted, hg])]
   refine wp_of_run (by rw [ho]; intro c h; cases h) ?_
   have hrun : (execOp ag.eval o).run P w = .ok (.round l q.fn ((q.params.zip (c.args.toList.map ag.eval).toArray).foldl (fun tmps (t, a) => tmps.setIfInBounds t a) q.tmps) q.assign q.body) w := by
    have e2 : (c.args.map ag.eval) = (c.args.toList.map ag.eval).toArray := by apply Array.ext'; simp
    simp only [execOp, ho, resolve, hcal, Sem.run_bind, Sem.run_pure, Result.andThen_ok, e1, invoke, Deferred.ofValue, Array.empty_append, e2]
    rw [run_yield hq (by simpa [recOf] using k1)]
    rfl
   rw [hrun]
   refine ⟨fun h => (by cases h), RoundIn.mono k3 fun en' w' hen => ?_⟩
   obtain ⟨rfl, β', b1, b2, b3⟩ := hen
   refine hK _ _ ?_
   rw [t1]
   refine ⟨β', b1, b2, rfl, ?_, ?_, hdef⟩
   · refine EnvOK.put (fun t' => (hk t').flat fun b hb => b3 b hb) ?_ (RepD.bool b)
     rw [hN]
     rw [t1] at t2
     simpa [dstOk] using t2
   · simpa [Act.put] using hN
  | _ => rw [ho] at hcv; cases hcv
end

section
/-! ## Code -/
variable {P : Program} {F : Fence} {n : Nat} {a : Act} {w : World} {Q : Exit → Act → World → Prop}

theorem RelS.drop {G : Ground} {σ : St} {a : Act} {w : World} (hr : RelS G σ a w) (t : Nat) : RelS G ⟨dropE t σ.env, σ.mem⟩ a w :=
 hr.less (fun u => Env.get_drop t σ.env u) rfl

/-- The row of a function without a text. -/
def addRow : Array Value → Sem Value := fun args => do
 let (x, y, c) ← Extern.MathBitsCarry.three "Add64" args
 pure (Extern.MathBitsCarry.pair ((x + y + c) % Extern.MathBitsCarry.m64) ((x + y + c) / Extern.MathBitsCarry.m64))
def ExtOk (P : Program) (f : Nat) : Prop := ∃ pf, P.funcs[f]? = some pf ∧ (pf.name == "runtime.NumGoroutine") = false ∧ pf.body.isNone = true ∧ Extern.findNext pf = none ∧ Extern.find pf = some addRow
def Table (P : Program) (X : Nat → Option MFn) : Prop := ∀ f fn, X f = some fn → (fn.code.isExt = false ∧ ∃ fn0, trFn P f fn0 = some fn) ∨ (fn.code.isExt = true ∧ ExtOk P f)

theorem RelX.ghosts {G : Ground} {r : Option Nat} {σ σ' : St} {a : Act} {w : World} {gs : List Ghost} (hr : RelX G r σ a w) (e : evGs G.m0.length gs σ = some σ') : RelX G r σ' a w := by
 obtain ⟨rs, ls, h1, h2⟩ := hr
 exact ⟨rs, ls, h1, h2.ghosts (G := G.at rs ls) e⟩

def CodeOk (P : Program) (X : Nat → Option MFn) (call : Call) (G : Ground) (r : Option Nat) (k : Nat) (c : Code) (mc : MCode) : Prop := ∀ (mc' : MCode) (σ : St) (x : Ex × St) (a : Act) (w : World) (Q : Exit → Act → World → Prop),
 trCode P G.N c mc = some mc' → evC X call k G.m0.length mc' σ = some x → RelX G r σ a w → (∀ a' w', RelX G r x.2 a' w' → Q x.1.to a' w') → c.wpIn (W r) 0 P Q a w
theorem strip {X : Nat → Option MFn} {call : Call} {G : Ground} {r : Option Nat} {k : Nat} {c : Code} (H : ∀ mc, (∀ gs y, mc ≠ .gh gs y) → CodeOk P X call G r k c mc) : ∀ mc, CodeOk P X call G r k c mc := by
 intro mc
 induction mc with
 | gh gs y ih =>
  intro mc' σ x a w Q ht e hr hQ
  have ht : (trCode P G.N c y).map (.gh gs) = some mc' := by cases c <;> first | exact ht | (rename_i o _ _; cases o <;> exact ht)
  obtain ⟨y', h1, rfl⟩ := Option.map_eq_some_iff.1 ht
  simp only [evC] at e
  obtain ⟨σ1, h2, h3⟩ := bind_some' e
  exact ih y' σ1 x a w Q h1 h3 (hr.ghosts h2) hQ
 | _ => exact H _ (by intro gs y h; cases h)

theorem startEnv_get : ∀ (args : List V) (i t : Nat), (startEnv i args).get t = if i ≤ t then (args[t - i]?).getD .dead else .dead
 | [], i, t => by simp [startEnv, Env.get]
 | v :: r, i, t => by
  simp only [startEnv, Env.get, startEnv_get r]
  by_cases c : i = t
  · subst c; simp
  · rw [if_neg c]
    by_cases c2 : i + 1 ≤ t
    · rw [if_pos c2, if_pos (by omega)]
      obtain ⟨j, rfl⟩ : ∃ j, t = i + 1 + j := ⟨t - (i + 1), by omega⟩
      rw [show i + 1 + j - (i + 1) = j by omega, show i + 1 + j - i = j + 1 by omega]
      simp
    · rw [if_neg c2, if_neg (by omega)]
theorem startEnv_ok {h : Array Obj} {A : Nat → Prop} {m : Heap} {β : Place} {args : List V} {us : List Value} {n : Nat} {ds : List Deferred} (hr : All2 (RepV h A m β) args us) :
 EnvOK h A m β (startEnv 0 args) { tmps := us.toArray ++ Array.replicate n undef, defers := ds } := by
 intro t
 simp only [startEnv_get, Nat.zero_le, if_true, Nat.sub_zero]
 cases ht : args[t]? with
 | none => trivial
 | some v =>
  obtain ⟨u, e1, e2⟩ := hr.get ht
  have hlt := (List.getElem?_eq_some_iff.1 e1).1
  simp only [Option.getD_some]
  have : (us.toArray ++ Array.replicate n undef).getD t undef = u := by
   rw [Array.getD_eq_getD_getElem?, Array.getElem?_append_left (by simpa using hlt)]
   simp [e1]
  rw [this]; exact e2
theorem run_enter {f : FuncId} {fn : Func} {c : Code} (hf : P.funcs[f]? = some fn) (hname : (fn.name == "runtime.NumGoroutine") = false) (hb : fn.body = some c) (args : Array Value) (w : World) :
 (callFunc f args).run P w = .ok (.enter f args) w := by
 have h1 : fn.name ≠ "runtime.NumGoroutine" := by simpa using hname
 simp [callFunc, hf, h1, hb]
theorem run_enterLoop_inner {w : World} {l0 : Nat} {q0 : Loop} (fn : FuncId) (tmps : Array Value) (ps : Array Tmp) (assign body : Code) (h : w.heap[l0]? = some (.loop q0)) :
 (Instr.enterLoop fn tmps ps assign body (some l0)).run P w =
  .ok (w.heap.size, []) (w.alloc (.loop { state := .ready, pending := none, fn, tmps, params := ps, assign, body, defers := q0.defers })) := by
 unfold Instr.enterLoop
 simp only [Sem.run_bind, run_getLoop h, run_newObj_alloc, Result.andThen, Sem.run_pure]

theorem code_ok {X : Nat → Option MFn} {call : Call} (hc : CallOK P call) (hP : P.follows .mixedOrders = true) (hX : Table P X) {k : Nat} : ∀ (c : Code) (G : Ground) (r : Option Nat), RoundOk G r → ∀ (mc : MCode), CodeOk P X call G r k c mc := by
 intro c
 have bad : ∀ (G : Ground) (c : Code) (mc' : MCode) (σ : St) (x : Ex × St), trCode P G.N c .bad = some mc' → evC X call k G.m0.length mc' σ = some x → False := by
  intro G c mc' σ x ht e
  have := tr_bad c mc' ht
  subst this
  simp only [evC] at e
  cases e
 induction c with
 | skip =>
  intro G r hro
  refine strip fun mc hng => ?_
  intro mc' σ x a w Q ht e hr hQ
  by_cases hb : mc = .bad
  · subst hb; exact (bad G _ _ _ _ ht e).elim
  cases mc <;> simp only [trCode, reduceCtorEq] at ht <;> first | (exact absurd rfl hb) | (exact absurd rfl (hng _ _)) | skip
  cases ht
  simp only [evC] at e
  cases e
  exact wpIn_skip (hQ _ _ hr)
 | label l =>
  intro G r hro
  refine strip fun mc hng => ?_
  intro mc' σ x a w Q ht e hr hQ
  by_cases hb : mc = .bad
  · subst hb; exact (bad G _ _ _ _ ht e).elim
  cases mc <;> simp only [trCode, reduceCtorEq] at ht <;> first | (exact absurd rfl hb) | (exact absurd rfl (hng _ _)) | skip
  cases ht
  simp only [evC] at e
  cases e
  exact wpIn_label (hQ _ _ hr)
 | region id ops draw =>
  intro G r hro
  refine strip fun mc hng => ?_
  intro mc' σ x a w Q ht e hr hQ
  by_cases hb : mc = .bad
  · subst hb; exact (bad G _ _ _ _ ht e).elim
  cases mc with
  | reg ms gh =>
   have h2 : ∃ is, mc' = .reg is gh := by
    simp only [trCode] at ht
    obtain ⟨y, t1, t2⟩ := bind_some' ht
    split at t2
    · split at t2
      · cases t2; exact ⟨_, rfl⟩
      · cases t2
    · cases t2
   obtain ⟨is, rfl⟩ := h2
   obtain ⟨rs, ls, hrs, hr⟩ := hr
   exact region_ok hc hP (G := G.at rs ls) ht e hr fun a' w' hn hr' => by have := hQ a' w' ⟨rs, ls, hrs, hr'⟩; rw [hn] at this; exact this
  | regD ms pre gh =>
   cases draw with
   | false => simp only [trCode, reduceCtorEq] at ht
   | true =>
    have h2 : ∃ is, mc' = .regD is pre gh := by
     simp only [trCode] at ht
     obtain ⟨is, _, t2⟩ := Option.map_eq_some_iff.1 ht
     exact ⟨is, t2.symm⟩
    obtain ⟨is, rfl⟩ := h2
    obtain ⟨rs, ls, hrs, hr⟩ := hr
    exact regionD_ok hc hP (G := G.at rs ls) ht e hr fun a' w' hn hr' => by have := hQ a' w' ⟨rs, ls, hrs, hr'⟩; rw [hn] at this; exact this
  | yld is0 pre y gh =>
   have ht1 : (trD P G.N ops is0 pre ops.toList).bind (fun is' => if (!draw || (drawOk ops is' && yldOk ops y)) && (match ops[y]? with | some o => callvOp o.op | none => false) then some (MCode.yld is' pre y gh) else none) = some mc' := by
    cases draw <;> exact ht
   obtain ⟨is', t1, t2⟩ := bind_some' ht1
   rw [Option.ite_none_right_eq_some] at t2
   obtain ⟨_, t2⟩ := t2
   cases t2
   simp only [evC] at e
   cases e
  | bad => exact absurd rfl hb
  | gh gs y => exact absurd rfl (hng _ _)
  | _ => simp only [trCode, reduceCtorEq] at ht
 | seq c1 c2 ih1 ih2 =>
  intro G r hro
  refine strip fun mc hng => ?_
  intro mc' σ x a w Q ht e hr hQ
  by_cases hb : mc = .bad
  · subst hb; exact (bad G _ _ _ _ ht e).elim
  cases mc <;> simp only [trCode, reduceCtorEq] at ht <;> first | (exact absurd rfl hb) | (exact absurd rfl (hng _ _)) | skip
  rename_i m1 m2
  obtain ⟨y1, t1, t2⟩ := bind_some' ht
  cases hy : trCode P G.N c2 m2 with
  | none => rw [hy] at t2; cases t2
  | some y2 =>
   rw [hy] at t2
   cases t2
   simp only [evC] at e
   obtain ⟨z, e1, e2⟩ := bind_some' e
   refine wpIn_seq (ih1 G r hro _ _ _ _ _ _ _ t1 e1 hr fun a' w' hr' => ?_)
   obtain ⟨ex, σ1⟩ := z
   cases ex with
   | normal => exact ih2 G r hro _ _ _ _ _ _ _ hy e2 hr' hQ
   | exit id => cases e2; exact hQ _ _ hr'
   | ret => cases e2; exact hQ _ _ hr'
 | cond o c1 c2 ih1 ih2 =>
  intro G r hro
  refine strip fun mc hng => ?_
  intro mc' σ x a w Q ht e hr hQ
  by_cases hb : mc = .bad
  · subst hb; exact (bad G _ _ _ _ ht e).elim
  by_cases hcv : ∃ v, o = .const v
  · obtain ⟨v, rfl⟩ := hcv
    obtain ⟨t, m, m', rfl, rfl, rfl, h1⟩ := trCode_const ht hb hng
    simp only [evC] at e
    refine wpIn_cond (t := t) rfl ?_
    cases t with
    | true => exact ih1 G r hro _ _ _ _ _ _ _ (by simpa using h1) e hr hQ
    | false => exact ih2 G r hro _ _ _ _ _ _ _ (by simpa using h1) e hr hQ
  cases o <;> first | (exact absurd ⟨_, rfl⟩ hcv) | (cases mc <;> simp only [trCode, reduceCtorEq] at ht <;> first | (exact absurd rfl hb) | (exact absurd rfl (hng _ _)) | skip)
  rename_i t t0 m1 m2
  obtain ⟨y1, t1, t2⟩ := bind_some' ht
  cases hy : trCode P G.N c2 m2 with
  | none => rw [hy] at t2; cases t2
  | some y2 =>
   rw [hy] at t2
   cases t2
   simp only [evC] at e
   obtain ⟨p, hp, e2⟩ := bind_some' e
   have hv : a.eval (.tmp t) = .bool p := by
    obtain ⟨rs, ls, _, β, _, _, h3, _, _⟩ := hr
    have := h3 t
    generalize σ.env.get t = v at hp this
    unfold V.bool? at hp
    split at hp <;> cases hp
    have this : RepD _ _ (.bool p) (a.tmps.getD t undef) := this
    generalize hq : a.tmps.getD t undef = q at this
    cases this
    exact hq
   refine wpIn_cond hv ?_
   cases p with
   | true => exact ih1 G r hro _ _ _ _ _ _ _ t1 e2 hr hQ
   | false => exact ih2 G r hro _ _ _ _ _ _ _ hy e2 hr hQ
 | block id c ih =>
  intro G r hro
  refine strip fun mc hng => ?_
  intro mc' σ x a w Q ht e hr hQ
  by_cases hb : mc = .bad
  · subst hb; exact (bad G _ _ _ _ ht e).elim
  cases mc <;> simp only [trCode, reduceCtorEq] at ht <;> first | (exact absurd rfl hb) | (exact absurd rfl (hng _ _)) | skip
  rename_i id0 m
  cases hy : trCode P G.N c m with
  | none => rw [hy] at ht; cases ht
  | some y =>
   rw [hy] at ht
   cases ht
   simp only [evC] at e
   obtain ⟨z, e1, e2⟩ := bind_some' e
   refine wpIn_block (ih G r hro _ _ _ _ _ _ _ hy e1 hr fun a' w' hr' => ?_)
   obtain ⟨ex, σ1⟩ := z
   cases ex with
   | normal => cases e2; exact hQ _ _ hr'
   | ret => cases e2; exact hQ _ _ hr'
   | exit id' =>
    simp only [] at e2
    show Exit.inBlock id Q (.exit id') a' w'
    simp only [Exit.inBlock]
    split at e2
    · rename_i h; rw [if_pos h]; cases e2; exact hQ _ _ hr'
    · rename_i h; rw [if_neg h]; cases e2; exact hQ _ _ hr'
 | loop c ih =>
  intro G r hro
  refine strip fun mc hng => ?_
  intro mc' σ x a w Q ht e hr hQ
  by_cases hb : mc = .bad
  · subst hb; exact (bad G _ _ _ _ ht e).elim
  cases mc <;> simp only [trCode, reduceCtorEq] at ht <;> first | (exact absurd rfl hb) | (exact absurd rfl (hng _ _)) | skip
  rename_i m
  cases hy : trCode P G.N c m with
  | none => rw [hy] at ht; cases ht
  | some y =>
   rw [hy] at ht
   cases ht
   simp only [evC] at e
   refine wpIn_loop_rounds k ?_
   suffices H : ∀ (j : Nat) (σ : St) (a : Act) (w : World), iter (evC X call k G.m0.length y) j σ = some x → RelX G r σ a w → Code.roundsIn (W r) 0 P c Q j a w from H k σ a w e hr
   intro j
   induction j with
   | zero => intro σ a w e; simp only [iter] at e; cases e
   | succ j ihj =>
    intro σ a w e hr
    simp only [iter] at e
    obtain ⟨z, e1, e2⟩ := bind_some' e
    refine ih G r hro _ _ _ _ _ _ _ hy e1 hr fun a' w' hr' => ?_
    obtain ⟨ex, σ1⟩ := z
    cases ex with
    | normal => exact ihj σ1 a' w' e2 hr'
    | exit id => cases e2; exact hQ _ _ hr'
    | ret => cases e2; exact hQ _ _ hr'
 | scope c ih =>
  intro G r hro
  refine strip fun mc hng => ?_
  intro mc' σ x a w Q ht e hr hQ
  by_cases hb : mc = .bad
  · subst hb; exact (bad G _ _ _ _ ht e).elim
  cases mc <;> simp only [trCode, reduceCtorEq] at ht <;> first | (exact absurd rfl hb) | (exact absurd rfl (hng _ _)) | skip
  rename_i m
  cases hy : trCode P G.N c m with
  | none => rw [hy] at ht; cases ht
  | some y =>
   rw [hy] at ht
   cases ht
   simp only [evC] at e
   refine wpIn_scope (ih G r hro _ _ _ _ _ _ _ hy e hr fun a' w' hr' => ?_)
   have := hQ a' w' hr'
   obtain ⟨ex, σ1⟩ := x
   cases ex <;> exact this
 | exit id =>
  intro G r hro
  refine strip fun mc hng => ?_
  intro mc' σ x a w Q ht e hr hQ
  by_cases hb : mc = .bad
  · subst hb; exact (bad G _ _ _ _ ht e).elim
  cases mc <;> simp only [trCode, reduceCtorEq] at ht <;> first | (exact absurd rfl hb) | (exact absurd rfl (hng _ _)) | skip
  cases ht
  simp only [evC] at e
  cases e
  exact wpIn_exit (hQ _ _ hr)
 | ret =>
  intro G r hro
  refine strip fun mc hng => ?_
  intro mc' σ x a w Q ht e hr hQ
  by_cases hb : mc = .bad
  · subst hb; exact (bad G _ _ _ _ ht e).elim
  cases mc <;> simp only [trCode, reduceCtorEq] at ht <;> first | (exact absurd rfl hb) | (exact absurd rfl (hng _ _)) | skip
  cases ht
  simp only [evC] at e
  cases e
  exact wpIn_ret (hQ _ _ hr)
 | goto l =>
  intro G r hro
  refine strip fun mc hng => ?_
  intro mc' σ x a w Q ht e
  by_cases hb : mc = .bad
  · subst hb; exact (bad G _ _ _ _ ht e).elim
  cases mc <;> simp only [trCode, reduceCtorEq] at ht <;> first | (exact absurd rfl hb) | (exact absurd rfl (hng _ _)) | skip
 | refuse l =>
  intro G r hro
  refine strip fun mc hng => ?_
  intro mc' σ x a w Q ht e
  by_cases hb : mc = .bad
  · subst hb; exact (bad G _ _ _ _ ht e).elim
  cases mc <;> simp only [trCode, reduceCtorEq] at ht <;> first | (exact absurd rfl hb) | (exact absurd rfl (hng _ _)) | skip
 | rangeFunc f ps as b iha ihb =>
  intro G r hro
  refine strip fun mc hng => ?_
  intro mc' σ x a w Q ht e hr hQ
  by_cases hb : mc = .bad
  · subst hb; exact (bad G _ _ _ _ ht e).elim
  cases mc <;> simp only [trCode, reduceCtorEq] at ht <;> first | (exact absurd rfl hb) | (exact absurd rfl (hng _ _)) | skip
  rename_i x0 ps0 ma0 mb0 gh
  obtain ⟨x1, hx1, ht⟩ := bind_some' ht
  obtain ⟨ya, hya, ht⟩ := bind_some' ht
  obtain ⟨yb, hyb, ht⟩ := bind_some' ht
  rw [Option.ite_none_right_eq_some] at ht
  obtain ⟨hpsN, ht⟩ := ht
  cases ht
  simp only [evC] at e
  split at e
  case h_2 => cases e
  case h_1 g caps hx =>
  obtain ⟨fn, hXf, e1⟩ := bind_some' e
  clear e
  rw [Option.ite_none_right_eq_some] at e1
  obtain ⟨⟨hnp, hres⟩, e2⟩ := e1
  have hall := allL_spec e2
  clear e2
  obtain ⟨rs, ls, hrs, β, hB⟩ := hr
  have hB : RelB (G.at rs ls) β σ a w := hB
  have hps : ∀ t ∈ ps.toList, t < G.N := fun t ht => by
   have := List.all_eq_true.1 hpsN t ht
   simpa using this
  rcases hX g fn hXf with ⟨_, fn0, t⟩ | ⟨hext, _⟩
  case inr =>
   obtain ⟨z, hz1, hz2⟩ := bind_some' (hall 0)
   have : fn.code = .ext := by
    cases hfc : fn.code <;> rw [hfc] at hext <;> first | rfl | cases hext
   rw [this] at hz1
   simp only [evGen] at hz1
   cases hz1
  case inl =>
  unfold trFn at t
  obtain ⟨pf, t1, t⟩ := bind_some' t
  obtain ⟨cg, t2, t⟩ := bind_some' t
  split at t
  case isTrue => cases t
  case isFalse hname =>
  split at t
  case isFalse => cases t
  case isTrue hsz =>
  obtain ⟨res, t3, t4⟩ := bind_some' t
  cases hcode : trCode P pf.ntmps cg fn0.code with
  | none => rw [hcode] at t4; cases t4
  | some code =>
  rw [hcode] at t4
  cases t4
  simp only [] at hnp hres hall
  have hresE : pf.results = #[] := by
   have : res = [] := by simpa using hres
   subst this
   cases hL : pf.results.toList with
   | nil => apply Array.ext'; simpa using hL
   | cons v vs =>
    rw [hL] at t3
    simp only [trResL] at t3
    obtain ⟨_, _, t3⟩ := bind_some' t3
    obtain ⟨_, _, t3⟩ := bind_some' t3
    cases t3
  have H : ∀ (fid : FuncId) (l : Nat) (mark : List Deferred) (w1 : World) (rs' ls' : List Nat) (q : Loop), (Instr.enterLoop fid a.tmps ps as b r).run P w = .ok (l, mark) w1 → l ∈ ls' → (r.isSome = true → rs' = G.rs) →
   RelB (G.at rs' ls') β σ { a with defers := mark ++ a.defers } w1 → w1.heap[l]? = some (.loop q) → q.state = .ready → q.pending = none → q.tmps = a.tmps → q.params = ps → q.assign = as → q.body = b →
   ∃ (l : Nat) (mark : List Deferred) (w₁ : World) (d : Deferred) (w₁' : World) (f0 : FuncId) (args : Array Value) (w₂ : World),
    (Instr.enterLoop fid a.tmps ps as b (W r).round).run P w = .ok (l, mark) w₁ ∧ (resolve a.eval (rangeCall f l) 0).run P w₁ = .ok d w₁' ∧ (∀ f', Target.leads P w₁' d.target d.args = some f' → (W r).fn f') ∧
    (invoke d.target d.args).run P w₁' = .ok (.enter f0 args) w₂ ∧ ((W r).depth.isSome = true → 1 ≤ 0) ∧ CallsIn (W r) (0 - 1) P f0 args w₂ (rangePost (W r) 0 P l Q { a with defers := mark ++ a.defers }) := by
   intro fid l mark w1 rs' ls' q he hl hrs' hB1 hq hst hpe htm hpa has hbo
   have rf := Rep_arg hB1.2.2.1 hx1
   rw [hx] at rf
   have rf : RepD w1.heap (Avail (G.at rs' ls').Fr σ.mem β w1.heap) (.fn (.func g) caps) (a.eval f) := rf
   have hv : ∃ vs, a.eval f = .func (.func g) #[] vs ∧ All2 (RepD w1.heap (Avail (G.at rs' ls').Fr σ.mem β w1.heap)) caps vs.toList := by
    generalize a.eval f = u at rf
    cases rf with
    | fn _ _ vs hl hr => exact ⟨vs, rfl, All2.of_get (by simpa using hl.symm) fun i c v hc hv => hr i c v hc (by simpa using hv)⟩
   obtain ⟨vs, ev, hvs⟩ := hv
   have hin : (invoke (.fn (.func g) vs) #[.func (.yield l) #[] #[]]).run P w1 = .ok (.enter g (#[.func (.yield l) #[] #[]] ++ vs)) w1 := run_enter t1 (by simpa using hname) t2 _ _
   refine ⟨l, mark, w1, { target := .fn (.func g) vs, args := #[.func (.yield l) #[] #[]] }, w1, g, #[.func (.yield l) #[] #[]] ++ vs, w1, he, ?_, fun _ _ => trivial, hin, (fun h => by cases h), ?_⟩
   · simp only [resolve, rangeCall, Deferred.ofValue, ev]
     simp [Sem.run_pure, Act.eval]
   · obtain ⟨z, hz1, hz2⟩ := bind_some' (hall l)
     refine CallsIn.mono (F := W r) (R := fun e w' => rangePost (W r) 0 P l Q { a with defers := mark ++ a.defers } e w') (show CallsIn (W none) 0 P g _ w1 _ from ?_) fun e w' h => h
     refine callsIn_of_wp t1 t2 trivial ?_ rfl
     have hq0 : q = recOf q .normal := by
      obtain ⟨_, _, _, _, _, _, _, _⟩ := q
      simp only at hst hpe
      subst hst hpe
      rfl
     have hsize : (#[Value.func (.yield l) #[] #[]] ++ vs).size = fn0.np := by
      rw [hnp]; simp only [Array.size_append]; rw [← hvs.length.symm]; simp; omega
     have start : LRel (G.at rs' ls') l q { a with defers := mark ++ a.defers } pf.ntmps (.normal, σ) ⟨startEnv 0 (.one (.d (.fn (.yield l) [])) :: caps.map fun c => .one (.d c)), []⟩
      { tmps := (#[.func (.yield l) #[] #[]] ++ vs) ++ Array.replicate (pf.ntmps - (#[Value.func (.yield l) #[] #[]] ++ vs).size) undef, defers := [] } w1 := by
      refine ⟨β, hB1, by rw [← hq0]; exact hq, rfl, ?_, ?_, rfl⟩
      · have h0 : All2 (RepV w1.heap (Avail (G.at rs' ls').Fr σ.mem β w1.heap) [] β) (.one (.d (.fn (.yield l) [])) :: caps.map fun c => V.one (.d c)) (.func (.yield l) #[] #[] :: vs.toList) :=
         .cons (RepD.fn _ _ _ rfl (fun i c v hc => by simp at hc)) (hvs.map fun _ _ h => h)
        have := startEnv_ok (n := pf.ntmps - (#[Value.func (.yield l) #[] #[]] ++ vs).size) (ds := []) h0
        have e3 : (Value.func (.yield l) #[] #[] :: vs.toList).toArray = #[.func (.yield l) #[] #[]] ++ vs := by apply Array.ext'; simp
        rw [e3] at this
        exact this
      · simp only [Array.size_append, Array.size_replicate] at hsize ⊢
        omega
     have hsd : Side P pf.ntmps l (roundM (fun b' => evC X call k b' ya) (fun b' => evC X call k b' yb) G.m0.length ps.toList gh) (LRel (G.at rs' ls') l q { a with defers := mark ++ a.defers } pf.ntmps) :=
      lrel_side hl fun args s s' b1 hrd β us w hB hq hu => by
       subst hpa has hbo
       exact round_ok (X := X) (call := call) (k := k) (G := G.at rs' ls') (a := { a with defers := mark ++ a.defers }) hl htm hps (ma := ya) (mb := yb)
        (fun G' hN hro' σ x a w Q e hr hQ => iha G' (some l) hro' ma0 ya σ x a w Q (hN ▸ hya) e hr hQ) (fun G' hN hro' σ x a w Q e hr hQ => ihb G' (some l) hro' mb0 yb σ x a w Q (hN ▸ hyb) e hr hQ) hrd hB hq hu
     refine gen_ok hc hP hsd cg fn0.code code _ _ z _ _ _ hcode hz1 start fun a' w' hr' => ?_
     obtain ⟨β', hB', hq', _, _, _, hdef⟩ := hr'
     have hrec := hB'.record (q' := { recOf q z.2.2.1 with state := .exhausted }) hl hq'
     have hx2 : z.2.2 = x ∧ ∀ id, z.1 ≠ .exit id := by
      obtain ⟨ex, s1⟩ := z
      cases ex <;> simp only [] at hz2 <;> first | (cases hz2; done) | (cases hz2; exact ⟨rfl, fun id h => by cases h⟩)
     have fin : bodyPost P pf (fun e w' => rangePost (W r) 0 P l Q { a with defers := mark ++ a.defers } e w') .ret a' w' := by
      refine ⟨hdef, .tuple #[], ?_, (recOf q z.2.2.1).pending, _, run_endLoop hq' (by simp only [recOf]; split <;> simp), ?_⟩
      · simp [results, hresE]
      · have post : ∀ w4, RelB (G.at rs' ls') β' z.2.2.2 { a with defers := mark ++ a.defers } w4 → Q x.1.to { a with defers := mark ++ a.defers } w4 := fun w4 h => hQ _ _ ⟨rs', ls', hrs', β', by rw [← hx2.1]; exact h⟩
        have := post _ hrec
        rw [← hx2.1] at this
        obtain ⟨ex, σ1, ex2, σ2⟩ := z
        cases ex2 with
        | normal => exact this
        | exit id => exact wpIn_exit this
        | ret => exact wpIn_ret this
     obtain ⟨ex, s1⟩ := z
     cases ex with
     | normal => exact fin
     | ret => exact fin
     | exit id => exact absurd rfl (hx2.2 id)
  refine wpIn_rangeFunc fun fid _ => ?_
  cases r with
  | none =>
   refine H fid _ _ _ (w.heap.size :: rs) ((w.alloc (.deferred (some []))).heap.size :: ls) _ (run_enterLoop_outer fid a.tmps ps as b) (by rw [alloc_size]; simp) (fun h => by cases h) (hB.marked.laid) (World.alloc_heap_new _ _ |> fun h => by rw [alloc_size] at h; exact h) rfl rfl rfl rfl rfl rfl
  | some l0 =>
   obtain ⟨hF0, q0, hq0⟩ := hro l0 rfl
   have hq1 : w.heap[l0]? = some (.loop q0) := by
    rw [hB.2.1.fo l0 (Array.getElem?_eq_some_iff.1 hq0).1 (.inl (.inl hF0))]; exact hq0
   exact H fid _ _ _ rs (w.heap.size :: ls) _ (run_enterLoop_inner fid a.tmps ps as b hq1) (by simp) hrs hB.laid (World.alloc_heap_new _ _) rfl rfl rfl rfl rfl rfl
end

section
/-! ## Functions -/
variable {P : Program} {F : Nat → Prop} {w : World} {σ : St}

/-- A result's cells and the values that they are. -/
def RepX (h : Array Obj) (A : Nat → Prop) (m : Heap) (β : Place) (x : Bool × List C) (u : Value) : Prop :=
 ∃ vs, All2 (RepC h A m β) x.2 vs ∧ u = (if x.1 then .agg vs.toArray else vs.headD undef) ∧ (x.1 = false → vs.length = 1)
theorem RepX.evo {m m' : Heap} {β β' : Place} {w w' : World} (k : Evo F m β w m' β' w') {x : Bool × List C} {u : Value} (r : RepX w.heap (Avail F m β w.heap) m β x u) : RepX w'.heap (Avail F m' β' w'.heap) m' β' x u := by
 obtain ⟨vs, h1, h2, h3⟩ := r
 exact ⟨vs, h1.mono fun _ _ h => RepC.evo k h, h2, h3⟩
theorem resOf_ok {a : Act} {β : Place} (hm : MemOK F σ.mem β w.heap) (k : EnvOK w.heap (Avail F σ.mem β w.heap) σ.mem β σ.env a) {v : ResultVar} {r : MRes} {x : Bool × List C} (ht : trRes P v = some r) (h : resOf σ r = some x) :
 ∃ u, ((match v with
  | .tmp t => pure (a.tmps.getD t undef)
  | .cell b t => do loadVar t (← asAddr (a.tmps.getD b undef))) : Sem Value).run P w = .ok u w ∧ RepX w.heap (Avail F σ.mem β w.heap) σ.mem β x u := by
 cases v with
 | tmp t =>
  simp only [trRes] at ht
  cases ht
  simp only [resOf] at h
  have kt := k t
  refine ⟨a.tmps.getD t undef, rfl, ?_⟩
  split at h
  · rename_i c hc
    cases h
    rw [hc] at kt
    exact ⟨[a.tmps.getD t undef], .cons kt .nil, rfl, fun _ => rfl⟩
  · rename_i cs hc
    cases h
    rw [hc] at kt
    obtain ⟨vs, e, r⟩ := kt
    exact ⟨vs.toList, r, by rw [e]; simp, fun h => by cases h⟩
  · cases h
 | cell b T =>
  simp only [trRes] at ht
  obtain ⟨n, hs, ht⟩ := bind_some' ht
  obtain ⟨g, hg, h3⟩ := bind_some' ht
  split at h3
  · cases h3
  · rename_i hn
    cases h3
    simp only [resOf] at h
    obtain ⟨c, hc, h1⟩ := bind_some' h
    obtain ⟨cs, hcs, h2⟩ := bind_some' h1
    cases h2
    have r := k b
    rw [c?_some hc] at r
    obtain ⟨b', o', vs, e, hl, h2, h3, _⟩ := rd_cells hm r hcs
    refine ⟨if g then .agg vs.toArray else vs.headD undef, ?_, vs, h2, rfl, fun hg' => ?_⟩
    · simp only [Sem.run_bind]
      rw [e]
      simp only [asAddr, loadVar, Sem.run_bind, Sem.run_pure, Result.andThen_ok, run_aggT hg]
      cases g with
      | true =>
       simp only [if_true, Sem.run_bind, run_szT hs, Result.andThen_ok]
       rw [← hl, run_loadCells_list w _ vs (fun j u hu => by rw [cell_at]; exact h3 j u hu)]
       simp
      | false =>
       have hn1 : n = 1 := by
        rcases Nat.decEq n 1 with c | c
        · exact absurd ⟨rfl, c⟩ hn
        · exact c
       subst hn1
       match vs, hl with
       | [u], _ =>
        have := h3 0 u rfl
        have hcell : w.cell? ⟨b', o', none⟩ = some u := by rw [cell_zero]; simpa using this
        simp [hcell]
    · rcases Nat.decEq n 1 with c | c
      · exact absurd ⟨hg', c⟩ hn
      · rw [hl]; exact c
theorem handC_ok {m m' : Heap} {β : Place} (hm : MemOK F m β w.heap) {f : RF} {cs cs' : List C} {vs : List Value} (r : All2 (RepC w.heap (Avail F m β w.heap) m β) cs vs) (h : handC m f cs = some (cs', m')) :
 ∃ β', MemOK F m' β' w.heap ∧ Evo F m β w m' β' w ∧ All2 (RepC w.heap (Avail F m' β' w.heap) m' β') cs' vs := by
 cases f with
 | asis => simp only [handC] at h; cases h; exact ⟨β, hm, .refl _ _ _ _, r⟩
 | data =>
  simp only [handC] at h
  obtain ⟨y, h1, h2⟩ := bind_some' h
  cases h2
  obtain ⟨g1, g2, g3⟩ := toDs_rep hm r h1
  exact ⟨β, g1, g2, g3.map fun _ _ h => h⟩
 | own z =>
  simp only [handC] at h
  split at h
  · split at h
    · rename_i hz
      cases h
      obtain ⟨h1, h2, h3⟩ := none_ok hm hz
      refine ⟨_, h1, h2, ?_⟩
      cases r with
      | cons hu t =>
       cases t
       have hu : _ = Value.slice none 0 0 := hu
       subst hu
       exact .cons h3 .nil
    · cases h
  · cases h; exact ⟨β, hm, .refl _ _ _ _, r⟩
  · cases h
theorem handAll_ok {a : Act} {β : Place} (hm : MemOK F σ.mem β w.heap) (k : EnvOK w.heap (Avail F σ.mem β w.heap) σ.mem β σ.env a) : ∀ (vs : List ResultVar) (rs : List MRes) (rf : List RF) (m : Heap) (β1 : Place) (x : List (Bool × List C) × Heap),
 trResL P vs = some rs → rf.length = vs.length → handAll σ m (rs.zip rf) = some x → MemOK F m β1 w.heap → Evo F σ.mem β w m β1 w →
 ∃ β2 us, MemOK F x.2 β2 w.heap ∧ Evo F m β1 w x.2 β2 w ∧ (vs.mapM (fun | .tmp t => pure (a.tmps.getD t undef) | .cell b t => do loadVar t (← asAddr (a.tmps.getD b undef))) : Sem (List Value)).run P w = .ok us w ∧ All2 (RepX w.heap (Avail F x.2 β2 w.heap) x.2 β2) x.1 us := by
 intro vs
 induction vs with
 | nil =>
  intro rs rf m β1 x h1 h2 h3 h4 h5
  simp only [trResL] at h1
  cases h1
  simp only [List.zip_nil_left, handAll] at h3
  cases h3
  exact ⟨β1, [], h4, .refl _ _ _ _, by simp, .nil⟩
 | cons v vs ih =>
  intro rs rf m β1 x h1 h2 h3 h4 h5
  simp only [trResL] at h1
  obtain ⟨r, g1, h1⟩ := bind_some' h1
  obtain ⟨rs', g2, g3⟩ := bind_some' h1
  cases g3
  cases rf with
  | nil => simp at h2
  | cons f rf =>
   simp only [List.zip_cons_cons, handAll] at h3
   obtain ⟨y, e1, h3⟩ := bind_some' h3
   obtain ⟨z, e2, h3⟩ := bind_some' h3
   obtain ⟨q, e3, e4⟩ := bind_some' h3
   cases e4
   obtain ⟨u, r1, vs1, r2, r3, r4⟩ := resOf_ok (P := P) hm k g1 e1
   obtain ⟨β2, k1, k2, k3⟩ := handC_ok h4 (r2.mono fun _ _ h => RepC.evo h5 h) e2
   obtain ⟨β3, us, l1, l2, l3, l4⟩ := ih rs' rf z.2 β2 q g2 (by simpa using h2) e3 k1 (h5.trans k2)
   refine ⟨β3, u :: us, l1, k2.trans l2, ?_, .cons ⟨vs1, k3.mono fun _ _ h => RepC.evo l2 h, r3, r4⟩ l4⟩
   rw [List.mapM_cons]
   simp only [Sem.run_bind, Sem.run_pure]
   cases v with
   | tmp t =>
    simp only [] at r1
    rw [r1, Result.andThen_ok, l3]; rfl
   | cell b t =>
    simp only [] at r1
    rw [r1, Result.andThen_ok, l3]; rfl

/-- What a finished body hands over. -/
theorem finish_ok {fn : MFn} {pf : Func} {a : Act} {m0 : Heap} {β0 β : Place} {w0 : World} {x : Ex × St} {v : V} {m' : Heap} (hres : trResL P pf.results.toList = some fn.res) (hrf : fn.rf.length = pf.results.size)
 (h : finish fn m0.length x = some (v, m')) (hm : MemOK F x.2.mem β w.heap) (hE : Evo F m0 β0 w0 x.2.mem β w) (k : EnvOK w.heap (Avail F x.2.mem β w.heap) x.2.mem β x.2.env a) :
 ∃ u β', (results pf a.tmps).run P w = .ok u w ∧ MemOK F m' β' w.heap ∧ Evo F m0 β0 w0 m' β' w ∧ RepV w.heap (Avail F m' β' w.heap) m' β' v u := by
 unfold finish at h
 have h1 : (handAll x.2 x.2.mem (fn.res.zip fn.rf)).bind (fun y => (resV y.1).bind fun v =>
  let ids := gcIds m0.length y.2 v.slots
  some (v.mapC (C.ren fun t => find t ids 0), sel ids y.2)) = some (v, m') := by
  obtain ⟨ex, σ⟩ := x
  cases ex with
  | exit id => cases h
  | normal => exact h
  | ret => exact h
 clear h
 obtain ⟨y, g1, h2⟩ := bind_some' h1
 obtain ⟨v1, g2, g3⟩ := bind_some' h2
 simp only [] at g3
 cases g3
 obtain ⟨β2, us, l1, l2, l3, l4⟩ := handAll_ok (P := P) hm k pf.results.toList fn.res fn.rf x.2.mem β y hres (by simpa using hrf) g1 hm (.refl _ _ _ _)
 obtain ⟨ids, hids⟩ : ∃ ids, ids = gcIds m0.length y.2 v1.slots := ⟨_, rfl⟩
 rw [← hids]
 have hn : ids.Nodup := by rw [hids]; exact reach_nodup _ _ _ _ List.nodup_range
 have hp : List.range m0.length <+: ids := by rw [hids]; exact reach_prefix _ _ _ _
 have hrun : (results pf a.tmps).run P w = .ok (if h : us.length = 1 then us[0] else .tuple us.toArray) w := by
  unfold results
  have e : (pf.results.mapM (fun | .tmp t => pure (a.tmps.getD t undef) | .cell b t => do loadVar t (← asAddr (a.tmps.getD b undef))) : Sem (Array Value)).run P w = .ok us.toArray w := by
   rw [Array.mapM_eq_mapM_toList]
   simp only [← bind_pure_comp, Sem.run_bind, l3, Result.andThen_ok, Sem.run_pure]
  rw [Sem.run_bind]
  refine (congrArg (fun r => Result.andThen r _) e).trans ?_
  simp only [Result.andThen_ok, Sem.run_pure]
  congr 1
 have hv : RepV w.heap (Avail F y.2 β2 w.heap) y.2 β2 v1 (if h : us.length = 1 then us[0] else .tuple us.toArray) := by
  have tup : ∀ xs, All2 (RepX w.heap (Avail F y.2 β2 w.heap) y.2 β2) xs us → RepV w.heap (Avail F y.2 β2 w.heap) y.2 β2 (.tup xs) (.tuple us.toArray) := fun xs l4 => ⟨us.toArray, rfl, by
   simp only [] 
   refine All2.mono (by simpa using l4) fun x u hx => ?_
   obtain ⟨vs, h1, h2, h3⟩ := hx
   obtain ⟨g, cs⟩ := x
   cases g with
   | true => exact ⟨vs.toArray, h2, by simpa using h1⟩
   | false =>
    have := h3 rfl
    match vs, this with
    | [u'], _ =>
     cases h1 with
     | cons h1 t => cases t; exact ⟨_, rfl, by rw [h2]; exact h1⟩⟩
  unfold resV at g2
  split at g2
  · rename_i g cs hy
    rw [hy] at l4
    cases l4 with
    | cons hx t =>
     cases t
     obtain ⟨vs, h1, h2, h3⟩ := hx
     simp only [List.length_singleton, dif_pos, List.getElem_cons_zero]
     rw [h2]
     exact Rep_mkV g2 h1
  · rename_i hne
    cases g2
    have hlen := l4.length
    rw [dif_neg]
    · exact tup _ l4
    · intro h1
      rw [h1] at hlen
      match hy : y.1, hlen with
      | [(g, cs)], _ => exact hne g cs hy
 refine ⟨_, selβ ids β2, hrun, sel_ok hn l1 (fun b hb => sel_av b hb) (fun b hb => l1.nf b (sel_owned' hb)) l1.fl, sel_evo hp (hE.trans l2), ?_⟩
 exact RepV.map (fun c v r => ren_rep sel_fwd (fun b hb => sel_av b hb) r) hv

/-- **Every function of the table answers as the evaluator says.** -/
theorem evF_ok (hP : P.follows .mixedOrders = true) {X : Nat → Option MFn} (hX : Table P X) : ∀ k, CallOK P (evF X k) := by
 intro k
 induction k with
 | zero => intro g args m v m' h; simp only [evF] at h; cases h
 | succ k ih =>
  intro g args m v m' h F β w us hm hr
  simp only [evF] at h
  obtain ⟨fn, h1, h2⟩ := bind_some' h
  clear h
  rcases hX g fn h1 with ⟨hext, fn0, t⟩ | ⟨hext, pf, q1, q2, q3, q4, q5⟩
  case inr =>
   rw [if_pos hext] at h2
   unfold addX at h2
   split at h2
   case h_2 => cases h2
   case h_1 k1 x k2 y k3 z =>
   split at h2
   case isFalse => cases h2
   case isTrue hc =>
   cases h2
   cases hr with
   | cons r1 hr =>
   cases hr with
   | cons r2 hr =>
   cases hr with
   | cons r3 hr =>
   cases hr
   have r1 : RepD _ _ (.int k1 x) _ := r1
   have r2 : RepD _ _ (.int k2 y) _ := r2
   have r3 : RepD _ _ (.int k3 z) _ := r3
   cases r1; cases r2; cases r3
   refine .inr ⟨Extern.MathBitsCarry.pair ((x.toNat + y.toNat + z.toNat) % Extern.MathBitsCarry.m64) ((x.toNat + y.toNat + z.toNat) / Extern.MathBitsCarry.m64), w, ?_, β, hm, .refl _ _ _ _, ?_⟩
   · rw [run_callFunc_extern q1 q2 q3 q4 q5]
     have e3 : (Extern.MathBitsCarry.three "Add64" #[.int k1 x, .int k2 y, .int k3 z]).run P w = .ok (x.toNat, y.toNat, z.toNat) w := by
      change Sem.run P (do
       let c := (← asInt (.int k3 z)).toNat
       if c > 1 then unsupported (.noEntry ("extern/math/bits." ++ "Add64" ++ ": a carry that is neither 0 nor 1"))
       pure ((← asInt (.int k1 x)).toNat, (← asInt (.int k2 y)).toNat, c)) w = _
      simp only [asInt, asIntOf, Sem.run_bind, Sem.run_pure, Result.andThen_ok]
      rw [if_neg (by omega)]
      simp [Sem.run_pure]
     unfold addRow
     simp only [Sem.run_bind, e3, Sem.run_pure, Result.andThen_ok]
   · refine ⟨_, rfl, .cons ⟨_, rfl, RepD.int _ _⟩ (.cons ⟨_, rfl, RepD.int _ _⟩ .nil)⟩
  case inl =>
  rw [if_neg (by rw [hext]; simp)] at h2
  split at h2
  · rename_i hnp
    obtain ⟨x, h3, h4⟩ := bind_some' h2
    clear h2
    unfold trFn at t
    obtain ⟨pf, t1, t⟩ := bind_some' t
    obtain ⟨c, t2, t⟩ := bind_some' t
    split at t
    · cases t
    · rename_i hname
      split at t
      · rename_i hsz
        obtain ⟨res, t3, t4⟩ := bind_some' t
        cases hcode : trCode P pf.ntmps c fn0.code with
        | none => rw [hcode] at t4; cases t4
        | some code =>
         rw [hcode] at t4
         cases t4
         simp only [] at hnp h3 h4
         refine .inl ⟨run_enter t1 (by simpa using hname) t2 _ _, ?_⟩
         have hlen := hr.length
         obtain ⟨G, hG⟩ : ∃ G : Ground, G = ⟨F, m, β, w, pf.ntmps, [], []⟩ := ⟨_, rfl⟩
         have hFr : G.Fr = F := by subst hG; funext b; simp [Ground.Fr]
         refine callsIn_of_wp_marks t1 t2 trivial ?_ rfl
         have start : RelX G none ⟨startEnv 0 args, m⟩ { tmps := us.toArray ++ Array.replicate (pf.ntmps - us.toArray.size) undef, defers := [] } w := by
          refine ⟨[], [], (fun h => by cases h), β, ?_⟩
          have : G.at [] [] = G := by subst hG; rfl
          rw [this]
          refine ⟨by rw [hFr]; exact hm, by subst hG; exact .refl _ _ _ _, ?_, ?_, ?_⟩
          · rw [hFr]
            exact startEnv_ok hr
          · subst hG
            simp
            omega
          · subst hG
            exact ⟨rfl, List.nodup_nil, by simp, by simp⟩
         refine code_ok ih hP hX (k := k) c G none (fun l h => by cases h) fn0.code code _ x _ _ _ (by subst hG; exact hcode) (by subst hG; exact h3) start fun a' w' hr' => ?_
         obtain ⟨rs, ls, _, β', hB⟩ := hr'
         have hB : RelB (G.at rs ls) β' x.2 a' w' := hB
         obtain ⟨q1, q2, q3, _, q5⟩ := hB
         have hd : a'.defers = rs.map fun r => { target := .collected r, args := #[] } := q5.1
         have fin : LeavesInM (W none) 0 P pf a'.tmps (fun e w' => ∃ u, e = .returned u ∧ ∃ β', MemOK F m' β' w'.heap ∧ Evo F m β w m' β' w' ∧ RepV w'.heap (Avail F m' β' w'.heap) m' β' v u) a'.defers .returning w' := by
          rw [hd]
          refine leaves_marks (G := G.at rs ls) (σ := x.2) (β := β') (fun r hr => q5.ge (.inr hr)) (fun w1 k1 k2 k3 => ?_) rs w' (fun r hr => ⟨hr, (q5.2.2.1 r hr).1⟩) q5.2.1 q1 q2 q3
          obtain ⟨g1, g2, g3⟩ := forget_core (G := G.at rs ls) (σ := x.2) k1 k2 k3 fun b hb => q5.ge hb
          obtain ⟨u, β2, p1, p2, p3, p4⟩ := finish_ok (F := F) (fn := ⟨pf.ntmps, fn0.np, res, fn0.rf, code⟩) (pf := pf) t3 hsz.2 h4 (by subst hG; exact g1) (by subst hG; exact g2) (by subst hG; exact g3)
          exact ⟨_, p1, u, rfl, β2, p2, p3, p4⟩
         obtain ⟨ex, σ'⟩ := x
         cases ex with
         | normal => exact fin
         | ret => exact fin
         | exit id => simp [finish] at h4
      · cases t
  · cases h2
end

section
/-! ## To reckon with the evaluator -/
abbrev I (n : Int) : V := .one (.d (.int .i64 n))
abbrev B (b : Bool) : V := .one (.d (.bool b))
abbrev O (d : Nat) (o : MOp) : MI := .op (some d) o
abbrev Na (n : Int) : Arg := .k (.one (.d (.int .i64 n)))
abbrev Rg (l : List MI) (ks : List Nat) : MCode := .reg l [.keep ks, .gc]
abbrev Gh (ks : List Nat) (c : MCode) : MCode := .gh [.keep ks, .gc] c
abbrev cI (n : Int) : C := .d (.int .i64 n)
abbrev cB (b : Bool) : C := .d (.bool b)
abbrev cL (l : List Int) : C := .d (.list (l.map (D.int .i64)))
abbrev Pt (s : Nat) : V := .one (.ptr s 0 0)
abbrev LI (l : List Int) : V := .one (.d (.list (l.map (D.int .i64))))
abbrev VI (l : List Int) : Slot := .vals (.int .i64 0) (l.map (D.int .i64))
attribute [simp] evI evIs evO evGs evG St.arg Env.get Env.put St.put memN keepE dropE startEnv handAll resOf handC Ex.to
attribute [simp] MOp.cls
section
variable {k : IntKind} {n x y : Int} {b : Bool} {c : C} {cs : List C}
@[simp] theorem int?_int : V.int? (.one (.d (.int k n))) = some (k, n) := rfl
@[simp] theorem bool?_bool : V.bool? (.one (.d (.bool b))) = some b := rfl
@[simp] theorem c?_one : V.c? (.one c) = some c := rfl
@[simp] theorem cs?_one : V.cs? (.one c) = some [c] := rfl
@[simp] theorem cs?_agg : V.cs? (.agg cs) = some cs := rfl
@[simp] theorem csG_one : V.csG false (.one c) = some [c] := rfl
@[simp] theorem csG_agg : V.csG true (.agg cs) = some cs := rfl
@[simp] theorem mkV_agg : mkV true cs = some (.agg cs) := rfl
@[simp] theorem mkV_one : mkV false [c] = some (.one c) := rfl
@[simp] theorem binI_add : binI .add k x k y = some (.one (.d (.int k (k.wrap (x + y))))) := by simp [binI]
@[simp] theorem binI_sub : binI .sub k x k y = some (.one (.d (.int k (k.wrap (x - y))))) := by simp [binI]
@[simp] theorem binI_mul : binI .mul k x k y = some (.one (.d (.int k (k.wrap (x * y))))) := by simp [binI]
@[simp] theorem binI_quo : binI .quo k x k y = if y = 0 then none else some (.one (.d (.int k (k.wrap (x.tdiv y))))) := by simp [binI]
@[simp] theorem binI_rem : binI .rem k x k y = if y = 0 then none else some (.one (.d (.int k (x.tmod y)))) := by simp [binI]
@[simp] theorem binI_eql : binI .eql k x k y = some (.one (.d (.bool (decide (x = y))))) := by simp [binI]
@[simp] theorem binI_neq : binI .neq k x k y = some (.one (.d (.bool (!decide (x = y))))) := by simp [binI]
@[simp] theorem binI_lss : binI .lss k x k y = some (.one (.d (.bool (decide (x < y))))) := by simp [binI]
@[simp] theorem binI_leq : binI .leq k x k y = some (.one (.d (.bool (decide (x ≤ y))))) := by simp [binI]
@[simp] theorem binI_gtr : binI .gtr k x k y = some (.one (.d (.bool (decide (y < x))))) := by simp [binI]
@[simp] theorem binI_geq : binI .geq k x k y = some (.one (.d (.bool (decide (y ≤ x))))) := by simp [binI]
end
theorem wrap_id {x : Int} (h1 : -9223372036854775808 ≤ x) (h2 : x < 9223372036854775808) : IntKind.wrap .i64 x = x := by
 show (if (true && decide (x % 18446744073709551616 ≥ 9223372036854775808)) = true then x % 18446744073709551616 - 18446744073709551616 else x % 18446744073709551616) = x
 simp only [Bool.true_and, decide_eq_true_eq]
 split <;> omega
theorem evF_eq {X : Nat → Option MFn} {k f : Nat} {args : List V} {m : Heap} {fn : MFn} (h : X f = some fn) (hn : args.length = fn.np) (he : fn.code.isExt = false) : evF X (k + 1) f args m = (evC X (evF X k) k m.length fn.code ⟨startEnv 0 args, m⟩).bind (finish fn m.length) := by
 simp only [evF, h, Option.bind_some, he, Bool.false_eq_true, if_false, if_pos hn]
def lookup : List (Nat × MFn) → Nat → Option MFn
 | [], _ => none
 | (k, v) :: r, f => if f = k then some v else lookup r f
theorem lookup_mem : ∀ {l : List (Nat × MFn)} {f : Nat} {v : MFn}, lookup l f = some v → (f, v) ∈ l
 | [], _, v, h => by simp [lookup] at h
 | (k, u) :: r, f, v, h => by
  simp only [lookup] at h
  split at h
  · rename_i e; cases h; subst e; simp
  · exact List.mem_cons_of_mem _ (lookup_mem h)
def RowOk (P : Program) (p : Nat × MFn) : Prop := (p.2.code.isExt = false ∧ trFn P p.1 p.2 = some p.2) ∨ (p.2.code.isExt = true ∧ ExtOk P p.1)
theorem table_of {P : Program} {l : List (Nat × MFn)} (h : ∀ p ∈ l, RowOk P p) : Table P (lookup l) := fun f fn e => (h _ (lookup_mem e)).imp (fun h => ⟨h.1, fn, h.2⟩) id
theorem row_tr {P : Program} {f : Nat} {m : MFn} (h : trFn P f m = some m) (he : m.code.isExt = false := by rfl) : RowOk P (f, m) := .inl ⟨he, h⟩
def extM : MFn := ⟨0, 0, [], [], .ext⟩
/-- What the checks of a function without a text are. -/
def extChk (P : Program) (f : Nat) : Option (Bool × Bool × Bool) := (P.funcs[f]?).map fun pf => (pf.name == "runtime.NumGoroutine", pf.body.isNone, (Extern.findNext pf).isNone)
theorem row_ext {P : Program} {f : Nat} (h : extChk P f = some (false, true, true)) (k : (P.funcs[f]?).bind Extern.find = some addRow) : RowOk P (f, extM) := by
 unfold extChk at h
 obtain ⟨pf, h1, h2⟩ := Option.map_eq_some_iff.1 h
 rw [h1] at k
 simp only [Prod.mk.injEq] at h2
 exact .inr ⟨rfl, pf, h1, h2.1, h2.2.1, by simpa using h2.2.2, k⟩
/-- What follows waits. -/
theorem obind_congr {α β : Type} {x y : Option α} {f : α → Option β} (h : x = y) : x.bind f = y.bind f := by rw [h]
end

end Go.Proofs.YtkeddnagijjbaaaGreat
