/-
  The distance is the least cost of all paths: WarpAll returns true for every list; no conditions.
-/
import Derived.Test.YtnceoalphoodaaaPWarpAllx10
namespace Go.Proofs.Ytnceoalphoodaaa.Pure
open Go.RowKit Go.Proofs.Ytnceoalphoodaaa.PWarpAll Go.Proofs.YtnceoalphoodaaaW.PrintWords Go.Proofs.YtnceoalphoodaaaW.PrintLast
set_option linter.unusedVariables false

theorem w64 {x : Int} (h0 : -9223372036854775808 ≤ x) (h1 : x ≤ 9223372036854775807) : wrap64 x = x := by
  unfold wrap64; omega
theorem Ev.pos {α : Type} {c : Prop} [Decidable c] {g f : Nat → Option α} {r : α} (h : c) (k : Ev g r) : Ev (fun n => if c then g n else f n) r := by
  simp only [if_pos h]; exact k
theorem Ev.neg {α : Type} {c : Prop} [Decidable c] {g f : Nat → Option α} {r : α} (h : ¬ c) (k : Ev f r) : Ev (fun n => if c then g n else f n) r := by
  simp only [if_neg h]; exact k
theorem Ev.con {α : Type} {x : Option α} {r : α} (h : x = some r) : Ev (fun _ => x) r := ⟨0, fun _ _ => h⟩

theorem rd_set_eq {xs : List Int} {i v : Int} (h0 : 0 ≤ i) (h1 : i < (xs.length : Int)) : rd (xs.set i.toNat v) i = v := by
  unfold rd
  rw [List.getD_eq_getElem?_getD, List.getElem?_set_self (by omega)]; rfl
theorem rd_set_ne {xs : List Int} {i j v : Int} (h0 : 0 ≤ i) (h1 : 0 ≤ j) (h : i ≠ j) : rd (xs.set i.toNat v) j = rd xs j := by
  unfold rd
  rw [List.getD_eq_getElem?_getD, List.getElem?_set_ne (by omega), List.getD_eq_getElem?_getD]
theorem rd_mem {xs : List Int} {i : Int} (h0 : 0 ≤ i) (h1 : i < (xs.length : Int)) : rd xs i ∈ xs := by
  unfold rd
  have h : i.toNat < xs.length := by omega
  rw [List.getD_eq_getElem?_getD, List.getElem?_eq_getElem h]; exact List.getElem_mem h
theorem rd_append_l {xs ys : List Int} {i : Int} (h0 : 0 ≤ i) (h1 : i < (xs.length : Int)) : rd (xs ++ ys) i = rd xs i := by
  unfold rd
  rw [List.getD_eq_getElem?_getD, List.getElem?_append_left (by omega), List.getD_eq_getElem?_getD]
theorem rd_append_r {xs ys : List Int} {i : Int} (h1 : (xs.length : Int) ≤ i) : rd (xs ++ ys) i = rd ys (i - xs.length) := by
  unfold rd
  rw [List.getD_eq_getElem?_getD, List.getElem?_append_right (by omega), List.getD_eq_getElem?_getD]
  congr 2; omega
theorem rd_take {xs : List Int} {n : Nat} {i : Int} (h0 : 0 ≤ i) (h1 : i < (n : Int)) : rd (xs.take n) i = rd xs i := by
  unfold rd
  rw [List.getD_eq_getElem?_getD, List.getElem?_take_of_lt (by omega), List.getD_eq_getElem?_getD]

/-- All numbers are samples. -/
def Smp (xs : List Int) : Prop := ∀ v ∈ xs, -1000 ≤ v ∧ v ≤ 1000
theorem Smp.rd {xs : List Int} (h : Smp xs) (i : Int) : -1000 ≤ rd xs i ∧ rd xs i ≤ 1000 := by
  show -1000 ≤ xs.getD i.toNat 0 ∧ xs.getD i.toNat 0 ≤ 1000
  rw [List.getD_eq_getElem?_getD]
  rcases Nat.lt_or_ge i.toNat xs.length with c | c
  · rw [List.getElem?_eq_getElem c]; exact h _ (List.getElem_mem c)
  · rw [List.getElem?_eq_none c]; decide
theorem Smp.nil : Smp [] := fun _ h => by simp at h
theorem Smp.app {xs ys : List Int} (h : Smp xs) (k : Smp ys) : Smp (xs ++ ys) := fun v hv => by
  rcases List.mem_append.1 hv with h1 | h1
  · exact h v h1
  · exact k v h1
theorem Smp.one {v : Int} (h0 : -1000 ≤ v) (h1 : v ≤ 1000) : Smp [v] := fun u hu => by
  obtain rfl := List.mem_singleton.1 hu; exact ⟨h0, h1⟩
theorem Smp.take {xs : List Int} (h : Smp xs) (n : Nat) : Smp (xs.take n) := fun v hv => h v (List.mem_of_mem_take hv)
theorem Smp.set {xs : List Int} (h : Smp xs) (n : Nat) {v : Int} (h0 : -1000 ≤ v) (h1 : v ≤ 1000) : Smp (xs.set n v) := fun u hu => by
  rcases List.mem_or_eq_of_mem_set hu with h2 | h2
  · exact h u h2
  · subst h2; exact ⟨h0, h1⟩
/-- A window. -/
structure Win (xs : List Int) : Prop where
  lo : 2 ≤ xs.length
  hi : xs.length ≤ 32
  smp : Smp xs

/-- A reader of numbers. -/
structure SrcOk (L : List Int) (p : Int) : Prop where
  lo : 0 ≤ p
  hi : p ≤ (L.length : Int)
  len : L.length ≤ 2000

theorem src_new (l : List Int) : ∃ L, shapesearchkeep_New.f l = some (L, 0) ∧ SrcOk L 0 := by
  unfold shapesearchkeep_New.f
  have h1 : 0 ≤ mn (l.length : Int) 2000 := by unfold mn; split <;> omega
  have h2 : mn (l.length : Int) 2000 ≤ l.length := by unfold mn; split <;> omega
  have h3 : mn (l.length : Int) 2000 ≤ 2000 := by unfold mn; split <;> omega
  rw [if_pos h1, if_pos h2]
  exact ⟨_, rfl, by omega, by omega, by rw [List.length_take]; omega⟩

theorem src_raw {L : List Int} {p : Int} (h : SrcOk L p) : ∃ v q, shapesearchkeep_Src_Raw.f L p = some (v, q) ∧ SrcOk L q := by
  obtain ⟨h0, h1, h2⟩ := h
  unfold shapesearchkeep_Src_Raw.f
  have e1 : wrap64 (p + 1) = p + 1 := w64 (by omega) (by omega)
  have e2 : wrap64 (p + 1 - 1) = p := by rw [w64 (by omega) (by omega)]; omega
  rw [e1, e2]
  by_cases c : p ≥ (L.length : Int)
  · rw [if_pos c]; exact ⟨_, _, rfl, h0, h1, h2⟩
  · rw [if_neg c, if_pos h0, if_pos (by omega)]; exact ⟨_, _, rfl, by omega, by omega, h2⟩

theorem src_mod (x n : Int) (h : 1 ≤ n) (hn : n ≤ 4611686018427387904) : ∃ v, shapesearchkeep_Mod.f x n = some v ∧ 0 ≤ v ∧ v < n := by
  unfold shapesearchkeep_Mod.f
  rw [if_neg (by omega), if_neg (by omega)]
  have h1 : Int.tmod x n < n := Int.tmod_lt_of_pos _ (by omega)
  have h2 : -n < Int.tmod x n := by
    rcases Int.le_total 0 x with c | c
    · have := Int.tmod_nonneg n c; omega
    · have h3 : Int.tmod (-x) n < n := Int.tmod_lt_of_pos _ (by omega)
      rw [Int.neg_tmod] at h3; omega
  by_cases c : Int.tmod x n < 0
  · rw [if_pos c, w64 (by omega) (by omega)]; exact ⟨_, rfl, by omega, by omega⟩
  · rw [if_neg c]; exact ⟨_, rfl, by omega, by omega⟩

theorem src_n {L : List Int} {p : Int} (h : SrcOk L p) (n : Int) (h1 : 1 ≤ n) (hn : n ≤ 4611686018427387904) : ∃ v q, shapesearchkeep_Src_N.f L p n = some (v, q) ∧ 0 ≤ v ∧ v < n ∧ SrcOk L q := by
  obtain ⟨r, q, hr, hq⟩ := src_raw h
  obtain ⟨v, hv, h2, h3⟩ := src_mod r n h1 hn
  refine ⟨v, q, ?_, h2, h3, hq⟩
  unfold shapesearchkeep_Src_N.f
  rw [hr]; simp only [Option.bind_some]; rw [hv]; rfl

theorem src_range {L : List Int} {p : Int} (h : SrcOk L p) (lo hi : Int) (h1 : lo ≤ hi) (h0 : -1000000000000 ≤ lo) (h2 : hi ≤ 1000000000000) : ∃ v q, shapesearchkeep_Src_Range.f L p lo hi = some (v, q) ∧ lo ≤ v ∧ v ≤ hi ∧ SrcOk L q := by
  have e1 : wrap64 (wrap64 (hi - lo) + 1) = hi - lo + 1 := by rw [w64 (x := hi - lo) (by omega) (by omega), w64 (by omega) (by omega)]
  obtain ⟨v, q, hv, h3, h4, hq⟩ := src_n h (hi - lo + 1) (by omega) (by omega)
  refine ⟨lo + v, q, ?_, by omega, by omega, hq⟩
  unfold shapesearchkeep_Src_Range.f
  rw [e1, hv]; simp only [Option.bind_some]; rw [w64 (by omega) (by omega)]

theorem src_pick {L : List Int} {p : Int} (h : SrcOk L p) (l : List Int) (h1 : 1 ≤ l.length) (h2 : l.length ≤ 1000) : ∃ v q, shapesearchkeep_Src_Pick.f L p l = some (v, q) ∧ v ∈ l ∧ SrcOk L q := by
  obtain ⟨i, q, hv, h3, h4, hq⟩ := src_n h (l.length : Int) (by omega) (by omega)
  refine ⟨rd l i, q, ?_, rd_mem h3 h4, hq⟩
  unfold shapesearchkeep_Src_Pick.f
  rw [hv]; simp only [Option.bind_some]; rw [if_pos h3, if_pos h4]

theorem src_clip (x : Int) : ∃ v, shapesearchkeep_clip.f x = some v ∧ -1000 ≤ v ∧ v ≤ 1000 :=
  ⟨_, rfl, by unfold mn mx; split <;> split <;> omega, by unfold mn mx; split <;> split <;> omega⟩

theorem src_list_l0 {L : List Int} (n kind size : Int) (hn : n ≤ 1000) (hs0 : 1 ≤ size) (hs1 : size ≤ 1000) : ∀ (d : Nat) (i x : Int) (xs : List Int) (p : Int), SrcOk L p → 0 ≤ i → i + d = n → (xs.length : Int) = i → Smp xs → -1000 ≤ x → x ≤ 1000 →
    ∃ ys q, Ev (fun k => shapesearchkeep_Src_List.l0 k n kind size x xs i L p) (ys, q) ∧ (ys.length : Int) = n ∧ Smp ys ∧ SrcOk L q := by
  have w1 : wrap64 (-size) = -size := w64 (by omega) (by omega)
  intro d
  induction d with
  | zero =>
    intro i x xs p hp hi0 hi hl hx h0 h1
    refine ⟨xs, p, Ev.step (f := fun _ => some (xs, p)) (fun k => ?_) (Ev.now _), by omega, hx, hp⟩
    simp only [shapesearchkeep_Src_List.l0]; rw [if_neg (by omega)]
  | succ d ih =>
    intro i x xs p hp hi0 hi hl hx h0 h1
    have hlen : xs.length < 17592186044416 := by omega
    have w2 : wrap64 (i + 1) = i + 1 := w64 (by omega) (by omega)
    have go : ∀ (y v : Int) (q : Int), SrcOk L q → -1000 ≤ y → y ≤ 1000 → -1000 ≤ v → v ≤ 1000 → ∃ ys r, Ev (fun k => if xs.length < 17592186044416 then shapesearchkeep_Src_List.l0 k n kind size y (xs ++ [v]) (wrap64 (i + 1)) L q else none) (ys, r) ∧ (ys.length : Int) = n ∧ Smp ys ∧ SrcOk L r := by
      intro y v q hq hy0 hy1 hv0 hv1
      obtain ⟨ys, r, he, h⟩ := ih (i + 1) y (xs ++ [v]) q hq (by omega) (by omega) (by simp; omega) (hx.app (Smp.one hv0 hv1)) hy0 hy1
      exact ⟨ys, r, Ev.pos hlen (by rw [w2]; exact he), h⟩
    -- the four kinds
    have k01 : ∀ z : Int, ∃ ys r, Ev (fun k => shapesearchkeep_Src_List.j2 k n kind size x xs i z true L p) (ys, r) ∧ (ys.length : Int) = n ∧ Smp ys ∧ SrcOk L r := by
      intro z
      obtain ⟨v, q, hv, hv0, hv1, hq⟩ := src_range hp (-size) size (by omega) (by omega) (by omega)
      obtain ⟨ys, r, he, h⟩ := go x v q hq h0 h1 (by omega) (by omega)
      refine ⟨ys, r, Ev.step (fun k => by simp only [shapesearchkeep_Src_List.j2]; rw [if_pos (by trivial), w1, hv]; rfl) he, h⟩
    have k23 : ∀ z : Int, ∃ ys r, Ev (fun k => shapesearchkeep_Src_List.j3 k n kind size x xs i z true L p) (ys, r) ∧ (ys.length : Int) = n ∧ Smp ys ∧ SrcOk L r := by
      intro z
      obtain ⟨v, q, hv, hv0, hv1, hq⟩ := src_range hp (-size) size (by omega) (by omega) (by omega)
      obtain ⟨u, hu, hu0, hu1⟩ := src_clip (wrap64 (x + v))
      obtain ⟨ys, r, he, h⟩ := go u u q hq hu0 hu1 hu0 hu1
      refine ⟨ys, r, Ev.step (fun k => by simp only [shapesearchkeep_Src_List.j3]; rw [if_pos (by trivial), w1, hv]; simp only [Option.bind_some]; rw [hu]; rfl) he, h⟩
    have k45 : ∀ z : Int, ∃ ys r, Ev (fun k => shapesearchkeep_Src_List.j3 k n kind size x xs i z false L p) (ys, r) ∧ (ys.length : Int) = n ∧ Smp ys ∧ SrcOk L r := by
      intro z
      by_cases c4 : z = 4
      · obtain ⟨v, q, hv, hv0, hv1, hq⟩ := src_n hp 4 (by omega) (by omega)
        by_cases c5 : v = 0
        · obtain ⟨u, q2, hu, hu0, hu1, hq2⟩ := src_range hq (-size) size (by omega) (by omega) (by omega)
          obtain ⟨ys, r, he, h⟩ := go u u q2 hq2 (by omega) (by omega) (by omega) (by omega)
          refine ⟨ys, r, Ev.step (fun k => by simp only [shapesearchkeep_Src_List.j3]; rw [if_neg (by decide), if_pos c4, hv]; simp only [Option.bind_some]; rw [if_pos c5, w1, hu]; rfl) he, h⟩
        · obtain ⟨ys, r, he, h⟩ := go x x q hq h0 h1 h0 h1
          refine ⟨ys, r, Ev.step (fun k => by simp only [shapesearchkeep_Src_List.j3]; rw [if_neg (by decide), if_pos c4, hv]; simp only [Option.bind_some]; rw [if_neg c5]) he, h⟩
      · obtain ⟨v, q, hv, hvm, hq⟩ := src_pick hp [-1000, 1000, 1000, 0] (by decide) (by decide)
        have hvb : -1000 ≤ v ∧ v ≤ 1000 := by simp at hvm; omega
        obtain ⟨ys, r, he, h⟩ := go x v q hq h0 h1 hvb.1 hvb.2
        refine ⟨ys, r, Ev.step (fun k => by simp only [shapesearchkeep_Src_List.j3]; rw [if_neg (by decide), if_neg c4, hv]; rfl) he, h⟩
    have kj2 : ∀ b : Bool, ∃ ys r, Ev (fun k => shapesearchkeep_Src_List.j2 k n kind size x xs i kind b L p) (ys, r) ∧ (ys.length : Int) = n ∧ Smp ys ∧ SrcOk L r := by
      intro b
      cases b with
      | true => exact k01 kind
      | false =>
        have k3 : ∀ b : Bool, ∃ ys r, Ev (fun k => shapesearchkeep_Src_List.j3 k n kind size x xs i kind b L p) (ys, r) ∧ (ys.length : Int) = n ∧ Smp ys ∧ SrcOk L r := fun b => by
          cases b with
          | true => exact k23 kind
          | false => exact k45 kind
        by_cases c : kind = 2
        · obtain ⟨ys, r, he, h⟩ := k3 (kind == 2)
          exact ⟨ys, r, Ev.step (fun k => by simp only [shapesearchkeep_Src_List.j2]; rw [if_neg (by decide), if_pos c]) he, h⟩
        · obtain ⟨ys, r, he, h⟩ := k3 (kind == 3)
          exact ⟨ys, r, Ev.step (fun k => by simp only [shapesearchkeep_Src_List.j2]; rw [if_neg (by decide), if_neg c]) he, h⟩
    by_cases c : kind = 0
    · obtain ⟨ys, r, he, h⟩ := kj2 (kind == 0)
      exact ⟨ys, r, Ev.step (fun k => by simp only [shapesearchkeep_Src_List.l0]; rw [if_pos (by omega), if_pos c]) he, h⟩
    · obtain ⟨ys, r, he, h⟩ := kj2 (kind == 1)
      exact ⟨ys, r, Ev.step (fun k => by simp only [shapesearchkeep_Src_List.l0]; rw [if_pos (by omega), if_neg c]) he, h⟩

theorem src_list {L : List Int} {p : Int} (h : SrcOk L p) (n : Int) (h0 : 0 ≤ n) (hn : n ≤ 1000) :
    ∃ ys q, Ev (fun k => shapesearchkeep_Src_List.f k L p n) (ys, q) ∧ (ys.length : Int) = n ∧ Smp ys ∧ SrcOk L q := by
  unfold shapesearchkeep_Src_List.f
  obtain ⟨kind, q1, e1, _, _, h1⟩ := src_n h 6 (by decide) (by decide)
  obtain ⟨size, q2, e2, hm, h2⟩ := src_pick h1 [1, 3, 10, 100, 1000] (by decide) (by decide)
  have hs : 1 ≤ size ∧ size ≤ 1000 := by simp at hm; omega
  obtain ⟨w, q3, e3, _, _, h3⟩ := src_n h2 3 (by decide) (by decide)
  rw [e1]; simp only [Option.bind_some]; rw [e2]; simp only [Option.bind_some]; rw [e3]; simp only [Option.bind_some]
  by_cases c : w = 0
  · obtain ⟨x, q4, e4, hx0, hx1, h4⟩ := src_range h3 (-1000) 1000 (by decide) (by decide) (by decide)
    obtain ⟨ys, q, he, hr⟩ := src_list_l0 n kind size hn hs.1 hs.2 n.toNat 0 x [] q4 h4 (by decide) (by omega) (by simp) Smp.nil hx0 hx1
    refine ⟨ys, q, Ev.pos c ?_, hr⟩
    rw [e4]; simp only [Option.bind_some]
    exact Ev.step (fun k => by simp only [shapesearchkeep_Src_List.j0]) he
  · obtain ⟨ys, q, he, hr⟩ := src_list_l0 n kind size hn hs.1 hs.2 n.toNat 0 0 [] q3 h3 (by decide) (by omega) (by simp) Smp.nil (by decide) (by decide)
    exact ⟨ys, q, Ev.neg c (Ev.step (fun k => by simp only [shapesearchkeep_Src_List.j0]) he), hr⟩

/-- What is not within the band costs this. -/
def INF : Int := 4611686018427387904

/-- A pair within a band. -/
def nearB (b : Int) (i j : Nat) : Prop := (i : Int) - j ≤ b ∧ (j : Int) - i ≤ b
instance (b : Int) (i j : Nat) : Decidable (nearB b i j) := by unfold nearB; infer_instance

/-- The least cost of a path to a pair, as the program reckons it. -/
def W (c : Nat → Nat → Int) (b : Int) : Nat → Nat → Int
  | 0, 0 => if nearB b 0 0 then mn INF (0 + c 0 0) else INF
  | 0, j + 1 => if nearB b 0 (j + 1) then mn INF (mn INF (W c b 0 j) + c 0 (j + 1)) else INF
  | i + 1, 0 => if nearB b (i + 1) 0 then mn INF (mn INF (W c b i 0) + c (i + 1) 0) else INF
  | i + 1, j + 1 => if nearB b (i + 1) (j + 1) then mn INF (mn (mn (mn (mn INF (W c b (i + 1) j)) (W c b i (j + 1))) (W c b i (j + 1))) (W c b i j) + c (i + 1) (j + 1)) else INF
termination_by i j => (i, j)

theorem W00 (c : Nat → Nat → Int) (b : Int) : W c b 0 0 = if nearB b 0 0 then mn INF (0 + c 0 0) else INF := by rw [W]
theorem W0s (c : Nat → Nat → Int) (b : Int) (j : Nat) : W c b 0 (j + 1) = if nearB b 0 (j + 1) then mn INF (mn INF (W c b 0 j) + c 0 (j + 1)) else INF := by rw [W]
theorem Ws0 (c : Nat → Nat → Int) (b : Int) (i : Nat) : W c b (i + 1) 0 = if nearB b (i + 1) 0 then mn INF (mn INF (W c b i 0) + c (i + 1) 0) else INF := by rw [W]
theorem Wss (c : Nat → Nat → Int) (b : Int) (i j : Nat) : W c b (i + 1) (j + 1) = if nearB b (i + 1) (j + 1) then mn INF (mn (mn (mn (mn INF (W c b (i + 1) j)) (W c b i (j + 1))) (W c b i (j + 1))) (W c b i j) + c (i + 1) (j + 1)) else INF := by rw [W]

/-- A path in a band, from one pair to another, with the cost of all its pairs. -/
inductive WPath (c : Nat → Nat → Int) (b : Int) (p q : Nat) : Nat → Nat → Int → Prop
  | one : nearB b p q → WPath c b p q p q (c p q)
  | diag (i j : Nat) (s : Int) : WPath c b p q i j s → nearB b (i + 1) (j + 1) → WPath c b p q (i + 1) (j + 1) (s + c (i + 1) (j + 1))
  | down (i j : Nat) (s : Int) : WPath c b p q i j s → nearB b (i + 1) j → WPath c b p q (i + 1) j (s + c (i + 1) j)
  | right (i j : Nat) (s : Int) : WPath c b p q i j s → nearB b i (j + 1) → WPath c b p q i (j + 1) (s + c i (j + 1))

theorem WPath.near {c : Nat → Nat → Int} {b : Int} {p q i j : Nat} {s : Int} (h : WPath c b p q i j s) : nearB b i j := by
  cases h <;> assumption
theorem WPath.near0 {c : Nat → Nat → Int} {b : Int} {p q i j : Nat} {s : Int} (h : WPath c b p q i j s) : nearB b p q := by
  induction h <;> assumption
theorem WPath.le {c : Nat → Nat → Int} {b : Int} {p q i j : Nat} {s : Int} (h : WPath c b p q i j s) : p ≤ i ∧ q ≤ j := by
  induction h <;> omega

theorem mn_le_l (a b : Int) : mn a b ≤ a := by unfold mn; split <;> omega
theorem mn_le_r (a b : Int) : mn a b ≤ b := by unfold mn; split <;> omega
theorem mn_or (a b : Int) : mn a b = a ∨ mn a b = b := by unfold mn; split <;> omega
theorem le_mn {a b x : Int} (h : x ≤ a) (k : x ≤ b) : x ≤ mn a b := by unfold mn; split <;> omega

theorem W_le_INF (c : Nat → Nat → Int) (b : Int) : ∀ i j, W c b i j ≤ INF
  | 0, 0 => by rw [W00]; split; (· exact mn_le_l _ _); (· exact Int.le_refl _)
  | 0, j + 1 => by rw [W0s]; split; (· exact mn_le_l _ _); (· exact Int.le_refl _)
  | i + 1, 0 => by rw [Ws0]; split; (· exact mn_le_l _ _); (· exact Int.le_refl _)
  | i + 1, j + 1 => by rw [Wss]; split; (· exact mn_le_l _ _); (· exact Int.le_refl _)

theorem W_nonneg {c : Nat → Nat → Int} (b : Int) (hc : ∀ i j, 0 ≤ c i j) : ∀ i j, 0 ≤ W c b i j := by
  intro i
  induction i with
  | zero =>
    intro j
    induction j with
    | zero => rw [W00]; have := hc 0 0; split; (· exact le_mn (by decide) (by omega)); (· decide)
    | succ j ih => rw [W0s]; have := hc 0 (j + 1); split; (· exact le_mn (by decide) (Int.add_nonneg (le_mn (by decide) ih) this)); (· decide)
  | succ i ihi =>
    intro j
    induction j with
    | zero => rw [Ws0]; have := hc (i + 1) 0; split; (· exact le_mn (by decide) (Int.add_nonneg (le_mn (by decide) (ihi 0)) this)); (· decide)
    | succ j ih => rw [Wss]; have := hc (i + 1) (j + 1); split; (· exact le_mn (by decide) (Int.add_nonneg (le_mn (le_mn (le_mn (le_mn (by decide) ih) (ihi _)) (ihi _)) (ihi _)) this)); (· decide)

theorem W_diag {c : Nat → Nat → Int} {b : Int} {i j : Nat} (h : nearB b (i + 1) (j + 1)) : W c b (i + 1) (j + 1) ≤ W c b i j + c (i + 1) (j + 1) := by
  rw [Wss, if_pos h]
  have := mn_le_r INF (mn (mn (mn (mn INF (W c b (i + 1) j)) (W c b i (j + 1))) (W c b i (j + 1))) (W c b i j) + c (i + 1) (j + 1))
  have := mn_le_r (mn (mn (mn INF (W c b (i + 1) j)) (W c b i (j + 1))) (W c b i (j + 1))) (W c b i j)
  omega
theorem W_down {c : Nat → Nat → Int} {b : Int} {i j : Nat} (h : nearB b (i + 1) j) : W c b (i + 1) j ≤ W c b i j + c (i + 1) j := by
  cases j with
  | zero =>
    rw [Ws0, if_pos h]
    have := mn_le_r INF (mn INF (W c b i 0) + c (i + 1) 0)
    have := mn_le_r INF (W c b i 0)
    omega
  | succ j =>
    rw [Wss, if_pos h]
    have := mn_le_r INF (mn (mn (mn (mn INF (W c b (i + 1) j)) (W c b i (j + 1))) (W c b i (j + 1))) (W c b i j) + c (i + 1) (j + 1))
    have := mn_le_l (mn (mn (mn INF (W c b (i + 1) j)) (W c b i (j + 1))) (W c b i (j + 1))) (W c b i j)
    have := mn_le_r (mn (mn INF (W c b (i + 1) j)) (W c b i (j + 1))) (W c b i (j + 1))
    omega
theorem W_right {c : Nat → Nat → Int} {b : Int} {i j : Nat} (h : nearB b i (j + 1)) : W c b i (j + 1) ≤ W c b i j + c i (j + 1) := by
  cases i with
  | zero =>
    rw [W0s, if_pos h]
    have := mn_le_r INF (mn INF (W c b 0 j) + c 0 (j + 1))
    have := mn_le_r INF (W c b 0 j)
    omega
  | succ i =>
    rw [Wss, if_pos h]
    have := mn_le_r INF (mn (mn (mn (mn INF (W c b (i + 1) j)) (W c b i (j + 1))) (W c b i (j + 1))) (W c b i j) + c (i + 1) (j + 1))
    have := mn_le_l (mn (mn (mn INF (W c b (i + 1) j)) (W c b i (j + 1))) (W c b i (j + 1))) (W c b i j)
    have := mn_le_l (mn (mn INF (W c b (i + 1) j)) (W c b i (j + 1))) (W c b i (j + 1))
    have := mn_le_l (mn INF (W c b (i + 1) j)) (W c b i (j + 1))
    have := mn_le_r INF (W c b (i + 1) j)
    omega

/-- No path is cheaper. -/
theorem W_le_path {c : Nat → Nat → Int} {b : Int} {p q i j : Nat} {s : Int} (h : WPath c b p q i j s) : p = 0 → q = 0 → W c b i j ≤ s := by
  induction h with
  | one h => intro h1 h2; subst h1 h2; rw [W00, if_pos h]; have := mn_le_r INF (0 + c 0 0); omega
  | diag i j s _ hn ih => intro h1 h2; have := ih h1 h2; have := W_diag (c := c) hn; omega
  | down i j s _ hn ih => intro h1 h2; have := ih h1 h2; have := W_down (c := c) hn; omega
  | right i j s _ hn ih => intro h1 h2; have := ih h1 h2; have := W_right (c := c) hn; omega

/-- Where the cost is not that of what lies outside, a path has it. -/
theorem W_path {c : Nat → Nat → Int} {b : Int} (hc : ∀ i j, 0 ≤ c i j) : ∀ i j, W c b i j < INF → WPath c b 0 0 i j (W c b i j) := by
  intro i
  induction i with
  | zero =>
    intro j
    induction j with
    | zero =>
      intro h
      rw [W00] at h ⊢
      split at h
      · rename_i hn
        rw [if_pos hn]
        rcases mn_or INF (0 + c 0 0) with e | e
        · omega
        · rw [e, Int.zero_add]; exact WPath.one hn
      · omega
    | succ j ih =>
      intro h
      rw [W0s] at h ⊢
      split at h
      · rename_i hn
        rw [if_pos hn]
        have := hc 0 (j + 1)
        rcases mn_or INF (mn INF (W c b 0 j) + c 0 (j + 1)) with e | e
        · omega
        · rw [e] at h ⊢
          rcases mn_or INF (W c b 0 j) with e2 | e2
          · omega
          · rw [e2] at h ⊢; exact WPath.right 0 j _ (ih (by omega)) hn
      · omega
  | succ i ihi =>
    intro j
    induction j with
    | zero =>
      intro h
      rw [Ws0] at h ⊢
      split at h
      · rename_i hn
        rw [if_pos hn]
        have := hc (i + 1) 0
        rcases mn_or INF (mn INF (W c b i 0) + c (i + 1) 0) with e | e
        · omega
        · rw [e] at h ⊢
          rcases mn_or INF (W c b i 0) with e2 | e2
          · omega
          · rw [e2] at h ⊢; exact WPath.down i 0 _ (ihi 0 (by omega)) hn
      · omega
    | succ j ih =>
      intro h
      rw [Wss] at h ⊢
      split at h
      · rename_i hn
        rw [if_pos hn]
        have := hc (i + 1) (j + 1)
        rcases mn_or INF (mn (mn (mn (mn INF (W c b (i + 1) j)) (W c b i (j + 1))) (W c b i (j + 1))) (W c b i j) + c (i + 1) (j + 1)) with e | e
        · omega
        · rw [e] at h ⊢
          rcases mn_or (mn (mn (mn INF (W c b (i + 1) j)) (W c b i (j + 1))) (W c b i (j + 1))) (W c b i j) with e2 | e2
          · rw [e2] at h ⊢
            rcases mn_or (mn (mn INF (W c b (i + 1) j)) (W c b i (j + 1))) (W c b i (j + 1)) with e3 | e3
            · rw [e3] at h ⊢
              rcases mn_or (mn INF (W c b (i + 1) j)) (W c b i (j + 1)) with e4 | e4
              · rw [e4] at h ⊢
                rcases mn_or INF (W c b (i + 1) j) with e5 | e5
                · omega
                · rw [e5] at h ⊢; exact WPath.right (i + 1) j _ (ih (by omega)) hn
              · rw [e4] at h ⊢; exact WPath.down i (j + 1) _ (ihi _ (by omega)) hn
            · rw [e3] at h ⊢; exact WPath.down i (j + 1) _ (ihi _ (by omega)) hn
          · rw [e2] at h ⊢; exact WPath.diag i j _ (ihi _ (by omega)) hn
      · omega

theorem WPath.bound {c : Nat → Nat → Int} {b K : Int} {p q i j : Nat} {s : Int} (h : WPath c b p q i j s) (hK : 0 ≤ K) (hc : ∀ i j, c i j ≤ K) : s ≤ K * ((i - p + (j - q) : Nat) + 1) := by
  induction h with
  | one _ => have := hc p q; simp; omega
  | diag i j s h hn ih =>
    have := hc (i + 1) (j + 1); have hl := h.le
    have e : ((i + 1 - p + (j + 1 - q) : Nat) : Int) = ((i - p + (j - q) : Nat) : Int) + 2 := by omega
    rw [e, show (((i - p + (j - q) : Nat) : Int) + 2 + 1) = (((i - p + (j - q) : Nat) : Int) + 1) + 2 by omega, Int.mul_add]; omega
  | down i j s h hn ih =>
    have := hc (i + 1) j; have hl := h.le
    have e : ((i + 1 - p + (j - q) : Nat) : Int) = ((i - p + (j - q) : Nat) : Int) + 1 := by omega
    rw [e, Int.mul_add]; omega
  | right i j s h hn ih =>
    have := hc i (j + 1); have hl := h.le
    have e : ((i - p + (j + 1 - q) : Nat) : Int) = ((i - p + (j - q) : Nat) : Int) + 1 := by omega
    rw [e, Int.mul_add]; omega

theorem path_exists (c : Nat → Nat → Int) {b : Int} (hb : 0 ≤ b) : ∀ i j, nearB b i j → ∃ s, WPath c b 0 0 i j s := by
  intro i
  induction i with
  | zero =>
    intro j
    induction j with
    | zero => intro h; exact ⟨_, WPath.one h⟩
    | succ j ih => intro h; obtain ⟨s, hs⟩ := ih (by unfold nearB at h ⊢; omega); exact ⟨_, WPath.right 0 j s hs h⟩
  | succ i ihi =>
    intro j h
    cases j with
    | zero => obtain ⟨s, hs⟩ := ihi 0 (by unfold nearB at h ⊢; omega); exact ⟨_, WPath.down i 0 s hs h⟩
    | succ j => obtain ⟨s, hs⟩ := ihi j (by unfold nearB at h ⊢; omega); exact ⟨_, WPath.diag i j s hs h⟩

/-- Costs of pairs of samples. -/
structure Costs (c : Nat → Nat → Int) : Prop where
  pos : ∀ i j, 0 ≤ c i j
  le : ∀ i j, c i j ≤ 4000000

theorem W_lt {c : Nat → Nat → Int} {b : Int} (hc : Costs c) (hb : 0 ≤ b) {i j : Nat} (hi : i ≤ 64) (hj : j ≤ 64) (h : nearB b i j) : W c b i j < INF := by
  obtain ⟨s, hs⟩ := path_exists c hb i j h
  have h1 := W_le_path hs rfl rfl
  have h2 := hs.bound (K := 4000000) (by decide) hc.le
  have h3 : (4000000 : Int) * (((i - 0 + (j - 0) : Nat) : Int) + 1) ≤ 4000000 * 129 := Int.mul_le_mul_of_nonneg_left (by omega) (by decide)
  unfold INF; omega

/-- The least cost: a path has it, and none is cheaper. -/
theorem W_min {c : Nat → Nat → Int} {b : Int} (hc : Costs c) (hb : 0 ≤ b) {i j : Nat} (hi : i ≤ 64) (hj : j ≤ 64) (h : nearB b i j) :
    WPath c b 0 0 i j (W c b i j) ∧ ∀ s, WPath c b 0 0 i j s → W c b i j ≤ s :=
  ⟨W_path hc.pos i j (W_lt hc hb hi hj h), fun _ hs => W_le_path hs rfl rfl⟩

theorem samples_ev {xs : List Int} (h : Smp xs) (hl : xs.length ≤ 100000) : Ev (fun k => euclid_samples.f k xs) true := by
  have loop : ∀ (d : Nat) (i : Int), 0 ≤ i → i + d = xs.length → Ev (fun k => euclid_samples.l0 k xs xs.length i) true := by
    intro d
    induction d with
    | zero => intro i h0 h1; exact Ev.step (f := fun _ => some true) (fun k => by simp only [euclid_samples.l0]; rw [if_neg (by omega)]) (Ev.now _)
    | succ d ih =>
      intro i h0 h1
      have hs := h.rd i
      refine Ev.step (fun k => by simp only [euclid_samples.l0]; rw [if_pos (by omega), if_pos h0, if_pos (by omega), if_neg (by omega), if_neg (by omega), w64 (by omega) (by omega)]) (ih (i + 1) (by omega) (by omega))
  unfold euclid_samples.f
  exact loop xs.length 0 (by decide) (by omega)

theorem length_win {xs : List Int} (h : Win xs) : euclid_length.f xs = some true := by
  unfold euclid_length.f
  have := h.lo; have := h.hi
  rw [if_pos (by omega)]; simp; omega

theorem check_ev {xs ys : List Int} (hx : Win xs) (hy : Win ys) (hl : xs.length = ys.length) : Ev (fun k => euclid_check.f k xs ys) 0 := by
  unfold euclid_check.f
  rw [length_win hx, length_win hy]
  simp only [Option.bind_some]
  have := hx.hi; have := hy.hi
  refine Ev.pos (by trivial) (Ev.step (fun k => by simp only [euclid_check.j0]; rw [if_neg (by decide)]) (Ev.bind (samples_ev hx.smp (by omega)) ?_))
  refine Ev.pos (by trivial) (Ev.bind (samples_ev hy.smp (by omega)) ?_)
  refine Ev.step (f := fun _ => some 0) (fun k => ?_) (Ev.now _)
  simp only [euclid_check.j1]; rw [if_neg (by decide), if_pos (by omega)]

theorem sq_bound {a b : Int} (ha : -1000 ≤ a ∧ a ≤ 1000) (hb : -1000 ≤ b ∧ b ≤ 1000) : 0 ≤ (a - b) * (a - b) ∧ (a - b) * (a - b) ≤ 4000000 := by
  have key : ∀ d : Int, 0 ≤ d → d ≤ 2000 → 0 ≤ d * d ∧ d * d ≤ 4000000 := fun d h0 h1 =>
    ⟨Int.mul_nonneg h0 h0, Int.le_trans (Int.mul_le_mul h1 h1 h0 (show (0 : Int) ≤ 2000 from by omega)) (by omega)⟩
  rcases Int.le_total 0 (a - b) with c | c
  · exact key _ c (by omega)
  · have h := key (-(a - b)) (by omega) (by omega)
    rw [Int.neg_mul_neg] at h; exact h

theorem square_ev {xs ys : List Int} (hx : Win xs) (hy : Win ys) (hl : xs.length = ys.length) : ∃ s, Ev (fun k => euclid_square.f k xs ys) s ∧ 0 ≤ s ∧ s ≤ 4000000 * 32 := by
  have h32 := hx.hi
  have loop : ∀ (d : Nat) (i s : Int), 0 ≤ i → i + d = xs.length → 0 ≤ s → s ≤ 4000000 * i → ∃ r, Ev (fun k => euclid_square.l0 k ys s xs xs.length i) r ∧ 0 ≤ r ∧ r ≤ 4000000 * 32 := by
    intro d
    induction d with
    | zero => intro i s h0 h1 hs0 hs1; exact ⟨s, Ev.step (f := fun _ => some s) (fun k => by simp only [euclid_square.l0]; rw [if_neg (by omega)]) (Ev.now _), hs0, by omega⟩
    | succ d ih =>
      intro i s h0 h1 hs0 hs1
      have a := hx.smp.rd i; have b := hy.smp.rd i
      have q := sq_bound a b
      obtain ⟨r, hr, h⟩ := ih (i + 1) (s + (rd xs i - rd ys i) * (rd xs i - rd ys i)) (by omega) (by omega) (by omega) (by omega)
      refine ⟨r, Ev.step (fun k => ?_) hr, h⟩
      simp only [euclid_square.l0]
      rw [if_pos (by omega), if_pos h0, if_pos (by omega), if_pos (by omega), w64 (x := rd xs i - rd ys i) (by omega) (by omega), w64 (x := (rd xs i - rd ys i) * (rd xs i - rd ys i)) (by omega) (by omega), w64 (by omega) (by omega), w64 (by omega) (by omega)]
  exact loop xs.length 0 0 (by decide) (by omega) (by decide) (by decide)

theorem euclid_self {xs : List Int} (hx : Win xs) : ∃ s, Ev (fun k => euclid_Distance.f k xs xs) (s, 0) := by
  obtain ⟨s, hs, _⟩ := square_ev hx hx rfl
  unfold euclid_Distance.f
  exact ⟨s, Ev.bind (check_ev hx hx rfl) (Ev.pos rfl (Ev.bind hs (Ev.now _)))⟩

/-- The lengths fit the band. -/
structure Fit (x y : List Int) (b : Int) : Prop where
  wx : Win x
  wy : Win y
  lo : 0 ≤ b
  hi : b ≤ 32
  l : (x.length : Int) - y.length ≤ b
  r : (y.length : Int) - x.length ≤ b

theorem wcheck_ev {x y : List Int} {b : Int} (h : Fit x y b) : Ev (fun k => warp_check.f k x y b) 0 := by
  obtain ⟨hx, hy, h0, h1, h2, h3⟩ := h
  have := hx.hi; have := hy.hi
  obtain ⟨s, hs⟩ := euclid_self hx
  obtain ⟨t, ht⟩ := euclid_self hy
  unfold warp_check.f
  refine Ev.neg (by omega) (Ev.step (fun k => by simp only [warp_check.j0]; rw [if_neg (by simp; omega)]) (Ev.bind hs (Ev.bind ht ?_)))
  refine Ev.neg (by simp) ?_
  refine Ev.step (f := fun _ => some 0) (fun k => ?_) (Ev.now _)
  simp only [warp_check.j1]
  rw [if_neg (by decide), if_pos (by trivial), if_pos (by trivial), w64 (by omega) (by omega), if_neg (by omega), w64 (by omega) (by omega), if_neg (by omega)]

/-- The cost of a pair of samples. -/
def wc (x y : List Int) (i j : Nat) : Int := (rd x i - rd y j) * (rd x i - rd y j)
theorem wc_costs {x y : List Int} (hx : Smp x) (hy : Smp y) : Costs (wc x y) :=
  ⟨fun i j => (sq_bound (hx.rd i) (hy.rd j)).1, fun i j => (sq_bound (hx.rd i) (hy.rd j)).2⟩

theorem near_ev {b : Int} {i j : Nat} (hi : i ≤ 1000) (hj : j ≤ 1000) : warp_near.f i j b = some (decide (nearB b i j)) := by
  unfold warp_near.f nearB
  rw [w64 (by omega) (by omega), w64 (by omega) (by omega)]
  by_cases c : (i : Int) - j ≤ b
  · rw [if_pos c]; simp [c]
  · rw [if_neg c]; simp [c]

theorem fill_loop {x y before : List Int} {b : Int} {i n : Nat} (hx : Win x) (hy : Win y) (hi : i < x.length) (hn : n = y.length) (hbl : before.length = n)
    (hb : ∀ t : Nat, t < n → 0 < i → rd before t = W (wc x y) b (i - 1) t) :
    ∀ (d j : Nat) (now : List Int), j + d = n → now.length = n → (∀ t : Nat, t < j → rd now t = W (wc x y) b i t) →
      ∃ r, Ev (fun k => warp_fill.l0 k now before x y b i n j) r ∧ r.length = n ∧ ∀ t : Nat, t < n → rd r t = W (wc x y) b i t := by
  have hcc := wc_costs hx.smp hy.smp
  have hx32 := hx.hi; have hy32 := hy.hi
  have hW0 := W_nonneg b hcc.pos
  have hW1 := W_le_INF (wc x y) b
  intro d
  induction d with
  | zero =>
    intro j now hj hl hr
    exact ⟨now, Ev.step (f := fun _ => some now) (fun k => by simp only [warp_fill.l0]; rw [if_neg (by omega)]) (Ev.now _), hl, fun t ht => hr t (by omega)⟩
  | succ d ih =>
    intro j now hj hl hr
    have e1 : wrap64 ((j : Int) + 1) = ((j + 1 : Nat) : Int) := by rw [w64 (by omega) (by omega)]; omega
    -- what is written goes on
    have go : ∀ v : Int, v = W (wc x y) b i j → ∃ r, Ev (fun k => warp_fill.l0 k ((now.set (j : Int).toNat 4611686018427387904).set (j : Int).toNat v) before x y b i n ((j + 1 : Nat) : Int)) r ∧ r.length = n ∧ ∀ t : Nat, t < n → rd r t = W (wc x y) b i t := by
      intro v hv
      refine ih (j + 1) _ (by omega) (by simp [hl]) (fun t ht => ?_)
      by_cases c : t = j
      · subst c; rw [rd_set_eq (by omega) (by rw [List.length_set]; omega), hv]
      · rw [rd_set_ne (by omega) (by omega) (by omega), rd_set_ne (by omega) (by omega) (by omega)]; exact hr t (by omega)
    by_cases hne : nearB b i j
    · have wcb : 0 ≤ wc x y i j ∧ wc x y i j ≤ 4000000 := ⟨hcc.pos i j, hcc.le i j⟩
      have ew : wrap64 (wrap64 (rd x i - rd y j) * wrap64 (rd x i - rd y j)) = wc x y i j := by
        have a := hx.smp.rd i; have c := hy.smp.rd j
        have q := sq_bound a c
        rw [w64 (x := rd x i - rd y j) (by omega) (by omega), w64 (by omega) (by omega)]; rfl
      have es : ∀ l : Int, 0 ≤ l → l ≤ INF → wrap64 (l + wrap64 (wrap64 (rd x i - rd y j) * wrap64 (rd x i - rd y j))) = l + wc x y i j := by
        intro l h0 h1; rw [ew]; unfold INF at h1; exact w64 (by omega) (by omega)
      have hprev : 0 < j → rd (now.set (j : Int).toNat 4611686018427387904) (wrap64 ((j : Int) - 1)) = W (wc x y) b i (j - 1) := by
        intro h; rw [w64 (by omega) (by omega), rd_set_ne (by omega) (by omega) (by omega)]
        have := hr (j - 1) (by omega)
        rwa [show ((j - 1 : Nat) : Int) = (j : Int) - 1 by omega] at this
      have hbef : 0 < i → rd before j = W (wc x y) b (i - 1) j := fun h => hb j (by omega) h
      have hbef1 : 0 < i → 0 < j → rd before (wrap64 ((j : Int) - 1)) = W (wc x y) b (i - 1) (j - 1) := by
        intro h h2; rw [w64 (by omega) (by omega)]
        have := hb (j - 1) (by omega) h
        rwa [show ((j - 1 : Nat) : Int) = (j : Int) - 1 by omega] at this
      have l0 : ∀ (k : Nat), warp_fill.l0 (k + 1) now before x y b i n j = if (i : Int) = 0 then warp_fill.j1 k (now.set (j : Int).toNat 4611686018427387904) before x y b i j 4611686018427387904 n j ((j : Int) == 0) else warp_fill.j1 k (now.set (j : Int).toNat 4611686018427387904) before x y b i j 4611686018427387904 n j false := fun k => by
        simp only [warp_fill.l0]
        rw [if_pos (by omega), if_pos (by omega), if_pos (by omega)]; simp only [Option.bind_some]
        rw [near_ev (by omega) (by omega)]; simp only [Option.bind_some]
        rw [if_pos (by simpa using hne)]
      -- the last step, for any least
      have j3a : ∀ (k : Nat) (l : Int), i = 0 → warp_fill.j3 (k + 1) (now.set (j : Int).toNat 4611686018427387904) before x y b i j l n j = warp_fill.l0 k ((now.set (j : Int).toNat 4611686018427387904).set (j : Int).toNat (mn INF (wrap64 (l + wrap64 (wrap64 (rd x i - rd y j) * wrap64 (rd x i - rd y j)))))) before x y b i n ((j + 1 : Nat) : Int) := fun k l h => by
        simp only [warp_fill.j3]
        rw [if_neg (by omega), if_pos (by omega), if_pos (by omega), if_pos (by omega), if_pos (by omega), if_pos (by rw [List.length_set]; omega), e1]; rfl
      have j3b : ∀ (k : Nat) (l : Int), 0 < i → j = 0 → warp_fill.j3 (k + 1) (now.set (j : Int).toNat 4611686018427387904) before x y b i j l n j = warp_fill.l0 k ((now.set (j : Int).toNat 4611686018427387904).set (j : Int).toNat (mn INF (wrap64 (mn l (rd before j) + wrap64 (wrap64 (rd x i - rd y j) * wrap64 (rd x i - rd y j)))))) before x y b i n ((j + 1 : Nat) : Int) := fun k l h h2 => by
        simp only [warp_fill.j3]
        rw [if_pos (by omega), if_pos (by omega), if_pos (by omega), if_neg (by omega), if_pos (by omega), if_pos (by omega), if_pos (by omega), if_pos (by rw [List.length_set]; omega), e1]; rfl
      have j3c : ∀ (k : Nat) (l : Int), 0 < i → 0 < j → warp_fill.j3 (k + 1) (now.set (j : Int).toNat 4611686018427387904) before x y b i j l n j = warp_fill.l0 k ((now.set (j : Int).toNat 4611686018427387904).set (j : Int).toNat (mn INF (wrap64 (mn (mn (mn l (rd before j)) (rd before j)) (rd before (wrap64 ((j : Int) - 1))) + wrap64 (wrap64 (rd x i - rd y j) * wrap64 (rd x i - rd y j)))))) before x y b i n ((j + 1 : Nat) : Int) := fun k l h h2 => by
        have ej : wrap64 ((j : Int) - 1) = (j : Int) - 1 := w64 (by omega) (by omega)
        simp only [warp_fill.j3]
        rw [if_pos (by omega), if_pos (by omega), if_pos (by omega), if_pos (by omega), if_pos (by omega), if_pos (by omega), if_pos (by omega), if_pos (by omega), if_pos (by omega), if_pos (by rw [List.length_set]; omega), e1]; rfl
      have j2a : ∀ (k : Nat) (l : Int), j = 0 → warp_fill.j2 (k + 1) (now.set (j : Int).toNat 4611686018427387904) before x y b i j l n j = warp_fill.j3 k (now.set (j : Int).toNat 4611686018427387904) before x y b i j l n j := fun k l h => by
        simp only [warp_fill.j2]; rw [if_neg (by omega)]
      have j2b : ∀ (k : Nat) (l : Int), 0 < j → warp_fill.j2 (k + 1) (now.set (j : Int).toNat 4611686018427387904) before x y b i j l n j = warp_fill.j3 k (now.set (j : Int).toNat 4611686018427387904) before x y b i j (mn l (W (wc x y) b i (j - 1))) n j := fun k l h => by
        have ej : wrap64 ((j : Int) - 1) = (j : Int) - 1 := w64 (by omega) (by omega)
        simp only [warp_fill.j2]; rw [if_pos (by omega), if_pos (by omega), if_pos (by rw [List.length_set]; omega), hprev h]
      have j1t : ∀ (k : Nat), warp_fill.j1 (k + 1) (now.set (j : Int).toNat 4611686018427387904) before x y b i j 4611686018427387904 n j true = warp_fill.j2 k (now.set (j : Int).toNat 4611686018427387904) before x y b i j 0 n j := fun k => by
        simp only [warp_fill.j1]; rw [if_pos (by trivial)]
      have j1f : ∀ (k : Nat), warp_fill.j1 (k + 1) (now.set (j : Int).toNat 4611686018427387904) before x y b i j 4611686018427387904 n j false = warp_fill.j2 k (now.set (j : Int).toNat 4611686018427387904) before x y b i j INF n j := fun k => by
        simp only [warp_fill.j1]; rw [if_neg (by decide)]; rfl
      rcases Nat.eq_zero_or_pos i with c0 | c0
      · rcases Nat.eq_zero_or_pos j with c1 | c1
        · obtain ⟨r, hr', h⟩ := go (mn INF (wrap64 (0 + wrap64 (wrap64 (rd x i - rd y j) * wrap64 (rd x i - rd y j))))) (by rw [es 0 (by decide) (by decide)]; subst c0 c1; rw [W00, if_pos hne])
          refine ⟨r, Ev.step l0 (Ev.pos (by omega) ?_), h⟩
          rw [show ((j : Int) == 0) = true by simp; omega]
          exact Ev.step j1t (Ev.step (fun k => j2a k _ c1) (Ev.step (fun k => j3a k _ c0) hr'))
        · obtain ⟨r, hr', h⟩ := go (mn INF (wrap64 (mn INF (W (wc x y) b i (j - 1)) + wrap64 (wrap64 (rd x i - rd y j) * wrap64 (rd x i - rd y j))))) (by
            rw [es _ (le_mn (by decide) (hW0 _ _)) (mn_le_l _ _)]
            obtain ⟨j', rfl⟩ : ∃ j', j = j' + 1 := ⟨j - 1, by omega⟩
            subst c0; rw [W0s, if_pos hne]; rfl)
          refine ⟨r, Ev.step l0 (Ev.pos (by omega) ?_), h⟩
          rw [show ((j : Int) == 0) = false by simp; omega]
          exact Ev.step j1f (Ev.step (fun k => j2b k _ c1) (Ev.step (fun k => j3a k _ c0) hr'))
      · rcases Nat.eq_zero_or_pos j with c1 | c1
        · obtain ⟨r, hr', h⟩ := go (mn INF (wrap64 (mn INF (rd before j) + wrap64 (wrap64 (rd x i - rd y j) * wrap64 (rd x i - rd y j))))) (by
            rw [hbef c0, es _ (le_mn (by decide) (hW0 _ _)) (mn_le_l _ _)]
            obtain ⟨i', rfl⟩ : ∃ i', i = i' + 1 := ⟨i - 1, by omega⟩
            subst c1; rw [Ws0, if_pos hne]; rfl)
          refine ⟨r, Ev.step l0 (Ev.neg (by omega) (Ev.step j1f (Ev.step (fun k => j2a k _ c1) (Ev.step (fun k => j3b k _ c0 c1) hr')))), h⟩
        · obtain ⟨r, hr', h⟩ := go (mn INF (wrap64 (mn (mn (mn (mn INF (W (wc x y) b i (j - 1))) (rd before j)) (rd before j)) (rd before (wrap64 ((j : Int) - 1))) + wrap64 (wrap64 (rd x i - rd y j) * wrap64 (rd x i - rd y j))))) (by
            rw [hbef c0, hbef1 c0 c1, es _ (le_mn (le_mn (le_mn (le_mn (by decide) (hW0 _ _)) (hW0 _ _)) (hW0 _ _)) (hW0 _ _)) (Int.le_trans (mn_le_r _ _) (hW1 _ _))]
            obtain ⟨i', rfl⟩ : ∃ i', i = i' + 1 := ⟨i - 1, by omega⟩
            obtain ⟨j', rfl⟩ : ∃ j', j = j' + 1 := ⟨j - 1, by omega⟩
            rw [Wss, if_pos hne]; rfl)
          refine ⟨r, Ev.step l0 (Ev.neg (by omega) (Ev.step j1f (Ev.step (fun k => j2b k _ c1) (Ev.step (fun k => j3c k _ c0 c1) hr')))), h⟩
    · have hv : (4611686018427387904 : Int) = W (wc x y) b i j := by
        cases i with
        | zero => cases j with
          | zero => rw [W00, if_neg hne]; rfl
          | succ j => rw [W0s, if_neg hne]; rfl
        | succ i => cases j with
          | zero => rw [Ws0, if_neg hne]; rfl
          | succ j => rw [Wss, if_neg hne]; rfl
      obtain ⟨r, hr', h⟩ := go _ hv
      rw [List.set_set] at hr'
      refine ⟨r, Ev.step (fun k => ?_) hr', h⟩
      simp only [warp_fill.l0]
      rw [if_pos (by omega), if_pos (by omega), if_pos (by omega)]; simp only [Option.bind_some]
      rw [near_ev (by omega) (by omega)]; simp only [Option.bind_some]
      rw [if_neg (by simpa using hne), e1]

theorem fill_ev {x y now before : List Int} {b : Int} {i : Nat} (hx : Win x) (hy : Win y) (hi : i < x.length) (hnl : now.length = y.length) (hbl : before.length = y.length)
    (hb : ∀ t : Nat, t < y.length → 0 < i → rd before t = W (wc x y) b (i - 1) t) :
    ∃ r, Ev (fun k => warp_fill.f k now before x y b i) r ∧ r.length = y.length ∧ ∀ t : Nat, t < y.length → rd r t = W (wc x y) b i t := by
  unfold warp_fill.f
  exact fill_loop hx hy hi rfl hbl hb y.length 0 now (by omega) hnl (fun t ht => by omega)

theorem min_ev {r : List Int} (h0 : 1 ≤ r.length) (h1 : r.length ≤ 1000) : ∃ m, Ev (fun k => slices_Min_int_int.f k r) m ∧ m ≤ rd r 0 := by
  have loop : ∀ (d : Nat) (i m : Int), 0 ≤ i → i + d = r.length → m ≤ rd r 0 → ∃ q, Ev (fun k => slices_Min_int_int.l0 k r m i) q ∧ q ≤ rd r 0 := by
    intro d
    induction d with
    | zero => intro i m h h2 h3; exact ⟨m, Ev.step (f := fun _ => some m) (fun k => by simp only [slices_Min_int_int.l0]; rw [if_neg (by omega)]) (Ev.now _), h3⟩
    | succ d ih =>
      intro i m h h2 h3
      obtain ⟨q, hq, h⟩ := ih (i + 1) (mn m (rd r i)) (by omega) (by omega) (Int.le_trans (mn_le_l _ _) h3)
      exact ⟨q, Ev.step (fun k => by simp only [slices_Min_int_int.l0]; rw [if_pos (by omega), if_pos (by omega), w64 (by omega) (by omega)]) hq, h⟩
  unfold slices_Min_int_int.f
  obtain ⟨q, hq, h⟩ := loop (r.length - 1) 1 (rd r 0) (by decide) (by omega) (Int.le_refl _)
  exact ⟨q, Ev.neg (by omega) (Ev.pos (by omega) hq), h⟩

theorem distance_ev {x y : List Int} {b : Int} (hx : Win x) (hy : Win y) : Ev (fun k => warp_distance.f k x y b 4611686018427387904) (W (wc x y) b (x.length - 1) (y.length - 1)) := by
  have hx32 := hx.hi; have hy32 := hy.hi; have hx2 := hx.lo; have hy2 := hy.lo
  have loop : ∀ (d i : Nat) (p q : List Int), i + d = x.length → p.length = y.length → q.length = y.length → (∀ t : Nat, t < y.length → 0 < i → rd q t = W (wc x y) b (i - 1) t) →
      Ev (fun k => warp_distance.l0 k x y b 4611686018427387904 p q x.length i) (W (wc x y) b (x.length - 1) (y.length - 1)) := by
    intro d
    induction d with
    | zero =>
      intro i p q hi hp hq h
      have e : wrap64 ((y.length : Int) - 1) = ((y.length - 1 : Nat) : Int) := by rw [w64 (by omega) (by omega)]; omega
      refine Ev.step (f := fun _ => some _) (fun k => ?_) (Ev.now _)
      simp only [warp_distance.l0]
      rw [if_neg (by omega), e, if_pos (by omega), if_pos (by omega), h (y.length - 1) (by omega) (by omega), show i = x.length by omega]
    | succ d ih =>
      intro i p q hi hp hq h
      obtain ⟨r, hr, hrl, hrw⟩ := fill_ev hx hy (show i < x.length by omega) hp hq h
      obtain ⟨m, hm, hmr⟩ := min_ev (r := r) (by omega) (by omega)
      have h3 : rd r 0 = W (wc x y) b i 0 := hrw 0 (by omega)
      have h4 := W_le_INF (wc x y) b i 0
      refine Ev.step (fun k => by simp only [warp_distance.l0]; rw [if_pos (by omega)]) (Ev.bind hr (Ev.bind hm ?_))
      refine Ev.neg (by unfold INF at h4; omega) ?_
      rw [show wrap64 ((i : Int) + 1) = ((i + 1 : Nat) : Int) by rw [w64 (by omega) (by omega)]; omega]
      exact ih (i + 1) q r (by omega) hq hrl (fun t ht _ => by rw [show i + 1 - 1 = i by omega]; exact hrw t ht)
  unfold warp_distance.f
  refine Ev.pos (by omega) (Ev.pos (by omega) ?_)
  exact loop x.length 0 _ _ (by omega) (by simp) (by simp) (fun t ht h => by omega)

/-- The warping distance of two windows that fit a band. -/
theorem Distance_ev {x y : List Int} {b : Int} (h : Fit x y b) : Ev (fun k => warp_Distance.f k x y b) (W (wc x y) b (x.length - 1) (y.length - 1), 0) := by
  unfold warp_Distance.f
  exact Ev.bind (wcheck_ev h) (Ev.pos rfl (Ev.bind (distance_ev h.wx h.wy) (Ev.now _)))

theorem WPath.flip {c : Nat → Nat → Int} {b : Int} {p q i j : Nat} {s : Int} (h : WPath c b p q i j s) : WPath (fun i j => c j i) b q p j i s := by
  have nf : ∀ {i j : Nat}, nearB b i j → nearB b j i := fun h => ⟨h.2, h.1⟩
  induction h with
  | one h => exact WPath.one (c := fun i j => c j i) (nf h)
  | diag i j s _ hn ih => exact WPath.diag (c := fun i j => c j i) _ _ _ ih (nf hn)
  | down i j s _ hn ih => exact WPath.right (c := fun i j => c j i) _ _ _ ih (nf hn)
  | right i j s _ hn ih => exact WPath.down (c := fun i j => c j i) _ _ _ ih (nf hn)

theorem WPath.wider {c : Nat → Nat → Int} {b b' : Int} (hb : b ≤ b') {p q i j : Nat} {s : Int} (h : WPath c b p q i j s) : WPath c b' p q i j s := by
  have nf : ∀ {i j : Nat}, nearB b i j → nearB b' i j := fun h => ⟨Int.le_trans h.1 hb, Int.le_trans h.2 hb⟩
  induction h with
  | one h => exact WPath.one (nf h)
  | diag i j s _ hn ih => exact WPath.diag _ _ _ ih (nf hn)
  | down i j s _ hn ih => exact WPath.down _ _ _ ih (nf hn)
  | right i j s _ hn ih => exact WPath.right _ _ _ ih (nf hn)

theorem Costs.flip {c : Nat → Nat → Int} (h : Costs c) : Costs (fun i j => c j i) := ⟨fun i j => h.pos j i, fun i j => h.le j i⟩

theorem W_flip {c : Nat → Nat → Int} {b : Int} (hc : Costs c) (hb : 0 ≤ b) {i j : Nat} (hi : i ≤ 64) (hj : j ≤ 64) (h : nearB b i j) : W (fun i j => c j i) b j i = W c b i j := by
  obtain ⟨h1, h2⟩ := W_min hc hb hi hj h
  obtain ⟨h3, h4⟩ := W_min hc.flip hb hj hi ⟨h.2, h.1⟩
  have h5 := h4 _ h1.flip
  have h6 := h2 _ h3.flip
  omega

theorem W_wider {c : Nat → Nat → Int} {b b' : Int} (hc : Costs c) (hb : 0 ≤ b) (hbb : b ≤ b') {i j : Nat} (hi : i ≤ 64) (hj : j ≤ 64) (h : nearB b i j) : W c b' i j ≤ W c b i j :=
  W_le_path ((W_min hc hb hi hj h).1.wider hbb) rfl rfl

theorem W_congr {c c' : Nat → Nat → Int} (b : Int) : ∀ i j, (∀ p q, p ≤ i → q ≤ j → c p q = c' p q) → W c b i j = W c' b i j := by
  intro i
  induction i with
  | zero =>
    intro j
    induction j with
    | zero => intro h; rw [W00, W00, h 0 0 (by omega) (by omega)]
    | succ j ih => intro h; rw [W0s, W0s, h 0 (j + 1) (by omega) (by omega), ih (fun p q hp hq => h p q hp (by omega))]
  | succ i ihi =>
    intro j
    induction j with
    | zero => intro h; rw [Ws0, Ws0, h (i + 1) 0 (by omega) (by omega), ihi 0 (fun p q hp hq => h p q (by omega) hq)]
    | succ j ih => intro h; rw [Wss, Wss, h (i + 1) (j + 1) (by omega) (by omega), ih (fun p q hp hq => h p q hp (by omega)), ihi (j + 1) (fun p q hp hq => h p q (by omega) hq), ihi j (fun p q hp hq => h p q (by omega) (by omega))]

/-- The sum of the costs of the pairs of equal places. -/
def dsum (c : Nat → Nat → Int) : Nat → Int
  | 0 => c 0 0
  | n + 1 => dsum c n + c (n + 1) (n + 1)

theorem WPath.zero {c : Nat → Nat → Int} {p q i j : Nat} {s : Int} (h : WPath c 0 p q i j s) : p = 0 → q = 0 → i = j ∧ s = dsum c i := by
  induction h with
  | one h => intro h1 h2; subst h1 h2; exact ⟨rfl, rfl⟩
  | diag i j s _ hn ih => intro h1 h2; obtain ⟨e, rfl⟩ := ih h1 h2; subst e; exact ⟨rfl, rfl⟩
  | down i j s _ hn ih => intro h1 h2; obtain ⟨e, rfl⟩ := ih h1 h2; subst e; unfold nearB at hn; omega
  | right i j s _ hn ih => intro h1 h2; obtain ⟨e, rfl⟩ := ih h1 h2; subst e; unfold nearB at hn; omega

theorem W_zero {c : Nat → Nat → Int} (hc : Costs c) {i : Nat} (hi : i ≤ 64) : W c 0 i i = dsum c i :=
  (((W_min hc (by decide) hi hi ⟨by omega, by omega⟩).1).zero rfl rfl).2

/-- One more pair in front. -/
theorem WPath.front {c : Nat → Nat → Int} {b : Int} {p q i j : Nat} {s : Int} (h : WPath c b p q i j s) {p0 q0 : Nat} (h0 : nearB b p0 q0)
    (hs : (p = p0 + 1 ∧ q = q0 + 1) ∨ (p = p0 + 1 ∧ q = q0) ∨ (p = p0 ∧ q = q0 + 1)) : WPath c b p0 q0 i j (c p0 q0 + s) := by
  induction h with
  | one h =>
    rcases hs with ⟨rfl, rfl⟩ | ⟨rfl, rfl⟩ | ⟨rfl, rfl⟩
    · exact WPath.diag _ _ _ (WPath.one h0) h
    · exact WPath.down _ _ _ (WPath.one h0) h
    · exact WPath.right _ _ _ (WPath.one h0) h
  | diag i j s _ hn ih => rw [← Int.add_assoc]; exact WPath.diag _ _ _ ih hn
  | down i j s _ hn ih => rw [← Int.add_assoc]; exact WPath.down _ _ _ ih hn
  | right i j s _ hn ih => rw [← Int.add_assoc]; exact WPath.right _ _ _ ih hn

/-- The same path from its end, for windows of equal length. -/
theorem WPath.back {c : Nat → Nat → Int} {b : Int} {n p q i j : Nat} {s : Int} (h : WPath c b p q i j s) : i ≤ n → j ≤ n → WPath (fun i j => c (n - i) (n - j)) b (n - i) (n - j) (n - p) (n - q) s := by
  have nf : ∀ {i j : Nat}, i ≤ n → j ≤ n → nearB b i j → nearB b (n - i) (n - j) := fun h1 h2 h => by unfold nearB at h ⊢; omega
  induction h with
  | one h =>
    intro h1 h2
    have := WPath.one (c := fun i j => c (n - i) (n - j)) (nf h1 h2 h)
    simp only [show n - (n - p) = p by omega, show n - (n - q) = q by omega] at this
    exact this
  | diag i j s h0 hn ih =>
    intro h1 h2
    have := (ih (by omega) (by omega)).front (nf h1 h2 hn) (.inl ⟨by omega, by omega⟩)
    simp only [show n - (n - (i + 1)) = i + 1 by omega, show n - (n - (j + 1)) = j + 1 by omega] at this
    rw [Int.add_comm]; exact this
  | down i j s h0 hn ih =>
    intro h1 h2
    have := (ih (by omega) (by omega)).front (nf h1 h2 hn) (.inr (.inl ⟨by omega, by omega⟩))
    simp only [show n - (n - (i + 1)) = i + 1 by omega, show n - (n - j) = j by omega] at this
    rw [Int.add_comm]; exact this
  | right i j s h0 hn ih =>
    intro h1 h2
    have := (ih (by omega) (by omega)).front (nf h1 h2 hn) (.inr (.inr ⟨by omega, by omega⟩))
    simp only [show n - (n - i) = i by omega, show n - (n - (j + 1)) = j + 1 by omega] at this
    rw [Int.add_comm]; exact this

theorem WPath.congr {c c' : Nat → Nat → Int} {b : Int} {I J p q i j : Nat} {s : Int} (h : WPath c b p q i j s) (e : ∀ i j, i ≤ I → j ≤ J → c i j = c' i j) : i ≤ I → j ≤ J → WPath c' b p q i j s := by
  induction h with
  | one h => intro h1 h2; rw [e p q h1 h2]; exact WPath.one h
  | diag i j s h hn ih => intro h1 h2; rw [e _ _ h1 h2]; exact WPath.diag _ _ _ (ih (by omega) (by omega)) hn
  | down i j s h hn ih => intro h1 h2; rw [e _ _ h1 h2]; exact WPath.down _ _ _ (ih (by omega) (by omega)) hn
  | right i j s h hn ih => intro h1 h2; rw [e _ _ h1 h2]; exact WPath.right _ _ _ (ih (by omega) (by omega)) hn

theorem W_back {c : Nat → Nat → Int} {b : Int} (hc : Costs c) (hb : 0 ≤ b) {n : Nat} (hn : n ≤ 64) : W (fun i j => c (n - i) (n - j)) b n n = W c b n n := by
  have hne : nearB b n n := by unfold nearB; omega
  have hc' : Costs (fun i j => c (n - i) (n - j)) := ⟨fun i j => hc.pos _ _, fun i j => hc.le _ _⟩
  obtain ⟨h1, h2⟩ := W_min hc hb hn hn hne
  obtain ⟨h3, h4⟩ := W_min hc' hb hn hn hne
  have h5 := h1.back (n := n) (by omega) (by omega)
  have h6 := h3.back (n := n) (by omega) (by omega)
  simp only [Nat.sub_self, Nat.sub_zero] at h5 h6
  have h7 := h4 _ h5
  have h8 : WPath c b 0 0 n n (W (fun i j => c (n - i) (n - j)) b n n) := by
    exact h6.congr (I := n) (J := n) (fun i j hi hj => by simp only [show n - (n - i) = i by omega, show n - (n - j) = j by omega]) (by omega) (by omega)
  have h9 := h2 _ h8
  omega

/-- A path costs at least its two ends. -/
theorem WPath.ge0 {c : Nat → Nat → Int} {b : Int} (hc : ∀ i j, 0 ≤ c i j) {p q i j : Nat} {s : Int} (h : WPath c b p q i j s) : c p q ≤ s := by
  induction h with
  | one h => exact Int.le_refl _
  | diag i j s _ hn ih => have := hc (i + 1) (j + 1); omega
  | down i j s _ hn ih => have := hc (i + 1) j; omega
  | right i j s _ hn ih => have := hc i (j + 1); omega
theorem WPath.ends {c : Nat → Nat → Int} {b : Int} (hc : ∀ i j, 0 ≤ c i j) {p q i j : Nat} {s : Int} (h : WPath c b p q i j s) (hne : p ≠ i) : c p q + c i j ≤ s := by
  cases h with
  | one h => exact absurd rfl hne
  | diag i j s h hn => have := h.ge0 hc; omega
  | down i j s h hn => have := h.ge0 hc; omega
  | right i j s h hn => have := h.ge0 hc; omega

theorem src_length {L : List Int} {p : Int} (h : SrcOk L p) : ∃ v q, shapesearchkeep_Src_Length.f L p = some (v, q) ∧ 2 ≤ v ∧ v ≤ 32 ∧ SrcOk L q := by
  unfold shapesearchkeep_Src_Length.f
  obtain ⟨v, q, e, _, _, hq⟩ := src_n h 8 (by decide) (by decide)
  rw [e]; simp only [Option.bind_some]
  by_cases c : v = 7
  · obtain ⟨u, r, e2, h0, h1, hr⟩ := src_range hq 13 32 (by decide) (by decide) (by decide)
    rw [if_pos c, e2]; exact ⟨u, r, rfl, by omega, by omega, hr⟩
  · obtain ⟨u, r, e2, h0, h1, hr⟩ := src_range hq 2 12 (by decide) (by decide) (by decide)
    rw [if_neg c, e2]; exact ⟨u, r, rfl, by omega, by omega, hr⟩

theorem src_near_l0 {L : List Int} {l : List Int} (hl : Smp l) (hl0 : 1 ≤ l.length) (hl1 : l.length ≤ 1000) (kind u w : Int) : ∀ (d : Nat) (i : Int) (xs : List Int) (p : Int), SrcOk L p → 0 ≤ i → i + d = xs.length → xs.length = l.length → Smp xs →
    ∃ ys q, Ev (fun k => shapesearchkeep_Src_Near.l0 k l kind u w xs (l.length : Int) i L p) (ys, q) ∧ ys.length = l.length ∧ Smp ys ∧ SrcOk L q := by
  intro d
  induction d with
  | zero =>
    intro i xs p hp h0 hi hx hs
    refine ⟨xs, p, Ev.step (f := fun _ => some (xs, p)) (fun k => ?_) (Ev.now _), hx, hs, hp⟩
    simp only [shapesearchkeep_Src_Near.l0]; rw [if_neg (by omega)]
  | succ d ih =>
    intro i xs p hp h0 hi hx hs
    have w2 : wrap64 (i + 1) = i + 1 := w64 (by omega) (by omega)
    have go : ∀ (v q : Int), SrcOk L q → -1000 ≤ v → v ≤ 1000 → ∃ ys r, Ev (fun k => shapesearchkeep_Src_Near.l0 k l kind u w (xs.set (i : Int).toNat v) (l.length : Int) (wrap64 (i + 1)) L q) (ys, r) ∧ ys.length = l.length ∧ Smp ys ∧ SrcOk L r := by
      intro v q hq h1 h2
      rw [w2]
      exact ih (i + 1) _ q hq (by omega) (by rw [List.length_set]; omega) (by rw [List.length_set]; omega) (hs.set _ h1 h2)
    have hi1 : i < (xs.length : Int) := by omega
    have hil : i < (l.length : Int) := by omega
    by_cases c1 : kind = 1
    · obtain ⟨v, q, e, _, _, hq⟩ := src_range hp (-2) 2 (by decide) (by decide) (by decide)
      obtain ⟨z, e2, h1, h2⟩ := src_clip (wrap64 (rd xs i + v))
      obtain ⟨ys, r, he, h⟩ := go z q hq h1 h2
      refine ⟨ys, r, Ev.step (fun k => ?_) he, h⟩
      simp only [shapesearchkeep_Src_Near.l0]; rw [if_pos hil, if_pos c1, if_pos h0, if_pos hi1, e]; simp only [Option.bind_some]; rw [e2]; rfl
    by_cases c2 : kind = 2
    · obtain ⟨z, e2, h1, h2⟩ := src_clip (wrap64 (rd xs i + u))
      obtain ⟨ys, r, he, h⟩ := go z p hp h1 h2
      refine ⟨ys, r, Ev.step (fun k => ?_) he, h⟩
      simp only [shapesearchkeep_Src_Near.l0]; rw [if_pos hil, if_neg c1, if_pos c2, if_pos h0, if_pos hi1, e2]; rfl
    by_cases c3 : kind = 3
    · obtain ⟨z, e2, h1, h2⟩ := src_clip (wrap64 (wrap64 (rd xs i * w) + u))
      obtain ⟨ys, r, he, h⟩ := go z p hp h1 h2
      refine ⟨ys, r, Ev.step (fun k => ?_) he, h⟩
      simp only [shapesearchkeep_Src_Near.l0]; rw [if_pos hil, if_neg c1, if_neg c2, if_pos c3, if_pos h0, if_pos hi1, e2]; rfl
    by_cases c4 : kind = 4
    · have ej : wrap64 (wrap64 ((l.length : Int) - 1) - i) = (l.length : Int) - 1 - i := by rw [w64 (x := (l.length : Int) - 1) (by omega) (by omega), w64 (by omega) (by omega)]
      have hv := hl.rd ((l.length : Int) - 1 - i)
      obtain ⟨ys, r, he, h⟩ := go (rd l ((l.length : Int) - 1 - i)) p hp hv.1 hv.2
      refine ⟨ys, r, Ev.step (fun k => ?_) he, h⟩
      simp only [shapesearchkeep_Src_Near.l0]; rw [if_pos hil, if_neg c1, if_neg c2, if_neg c3, if_pos c4, ej, if_pos (by omega), if_pos (by omega), if_pos h0, if_pos hi1]
    by_cases c5 : kind = 5
    · obtain ⟨v, q, e, _, _, hq⟩ := src_range hp (-1) 1 (by decide) (by decide) (by decide)
      obtain ⟨t, et, ht0, ht1⟩ := src_mod (wrap64 (i + v)) (l.length : Int) (by omega) (by omega)
      have hv := hl.rd t
      obtain ⟨ys, r, he, h⟩ := go (rd l t) q hq hv.1 hv.2
      refine ⟨ys, r, Ev.step (fun k => ?_) he, h⟩
      simp only [shapesearchkeep_Src_Near.l0]; rw [if_pos hil, if_neg c1, if_neg c2, if_neg c3, if_neg c4, if_pos c5, e]; simp only [Option.bind_some]; rw [et]; simp only [Option.bind_some]
      rw [if_pos ht0, if_pos ht1, if_pos h0, if_pos hi1]
    by_cases c6 : kind = 6
    · obtain ⟨z, e2, h1, h2⟩ := src_clip (wrap64 (u - wrap64 (rd xs i * w)))
      obtain ⟨ys, r, he, h⟩ := go z p hp h1 h2
      refine ⟨ys, r, Ev.step (fun k => ?_) he, h⟩
      simp only [shapesearchkeep_Src_Near.l0]; rw [if_pos hil, if_neg c1, if_neg c2, if_neg c3, if_neg c4, if_neg c5, if_pos c6, if_pos h0, if_pos hi1, e2]; rfl
    obtain ⟨ys, r, he, h⟩ := ih (i + 1) xs p hp (by omega) (by omega) hx hs
    refine ⟨ys, r, Ev.step (fun k => ?_) he, h⟩
    simp only [shapesearchkeep_Src_Near.l0]; rw [if_pos hil, if_neg c1, if_neg c2, if_neg c3, if_neg c4, if_neg c5, if_neg c6, w2]

theorem src_near {L : List Int} {p : Int} (h : SrcOk L p) {l : List Int} (hl : Smp l) (hl0 : 1 ≤ l.length) (hl1 : l.length ≤ 1000) :
    ∃ ys q, Ev (fun k => shapesearchkeep_Src_Near.f k L p l) (ys, q) ∧ ys.length = l.length ∧ Smp ys ∧ SrcOk L q := by
  obtain ⟨kind, q1, e1, _, _, h1⟩ := src_n h 7 (by decide) (by decide)
  obtain ⟨u, q2, e2, _, _, h2⟩ := src_range h1 (-20) 20 (by decide) (by decide) (by decide)
  obtain ⟨w, q3, e3, _, _, h3⟩ := src_range h2 1 3 (by decide) (by decide) (by decide)
  obtain ⟨ys, q, he, hr⟩ := src_near_l0 (L := L) hl hl0 hl1 kind u w l.length 0 l q3 h3 (by decide) (by omega) rfl hl
  refine ⟨ys, q, ?_, hr⟩
  unfold shapesearchkeep_Src_Near.f
  rw [e1]; simp only [Option.bind_some]; rw [e2]; simp only [Option.bind_some]; rw [e3]; simp only [Option.bind_some, List.nil_append]
  exact Ev.pos (by simp; omega) he

theorem src_pair {L : List Int} {p : Int} (h : SrcOk L p) : ∃ x y q, Ev (fun k => shapesearchkeep_Src_Pair.f k L p) (x, y, q) ∧ Win x ∧ Win y ∧ x.length = y.length ∧ SrcOk L q := by
  unfold shapesearchkeep_Src_Pair.f
  obtain ⟨n, q1, e1, hn0, hn1, h1⟩ := src_length h
  obtain ⟨x, q2, e2, hx, hsx, h2⟩ := src_list h1 n (by omega) (by omega)
  obtain ⟨w, q3, e3, _, _, h3⟩ := src_n h2 3 (by decide) (by decide)
  have wx : Win x := ⟨by omega, by omega, hsx⟩
  rw [e1]; simp only [Option.bind_some]
  by_cases c : w = 0
  · obtain ⟨y, q4, e4, hy, hsy, h4⟩ := src_list h3 (x.length : Int) (by omega) (by omega)
    refine ⟨x, y, q4, Ev.bind e2 ?_, wx, ⟨by omega, by omega, hsy⟩, by omega, h4⟩
    simp only [e3, Option.bind_some]
    exact Ev.pos c (Ev.bind e4 (Ev.now _))
  · obtain ⟨y, q4, e4, hy, hsy, h4⟩ := src_near h3 hsx (by omega) (by omega)
    refine ⟨x, y, q4, Ev.bind e2 ?_, wx, ⟨by omega, by omega, hsy⟩, by omega, h4⟩
    simp only [e3, Option.bind_some]
    exact Ev.neg c (Ev.bind e4 (Ev.now _))

theorem Fit.swap {x y : List Int} {b : Int} (h : Fit x y b) : Fit y x b := ⟨h.wy, h.wx, h.lo, h.hi, h.r, h.l⟩

theorem Fit.near {x y : List Int} {b : Int} (h : Fit x y b) : nearB b (x.length - 1) (y.length - 1) := by
  obtain ⟨hx, hy, h0, h1, h2, h3⟩ := h
  have := hx.lo; have := hy.lo
  unfold nearB; omega

theorem wc_flip (x y : List Int) (i j : Nat) : wc y x j i = wc x y i j := by
  unfold wc
  rw [show rd y j - rd x i = -(rd x i - rd y j) by omega, Int.neg_mul_neg]

theorem W_swap {x y : List Int} {b : Int} (h : Fit x y b) : W (wc y x) b (y.length - 1) (x.length - 1) = W (wc x y) b (x.length - 1) (y.length - 1) := by
  have := h.wx.hi; have := h.wy.hi
  rw [← W_flip (wc_costs h.wx.smp h.wy.smp) h.lo (by omega) (by omega) h.near]
  exact W_congr b _ _ (fun p q _ _ => wc_flip x y q p)

theorem src_uneven_j0 {L : List Int} {p : Int} (h : SrcOk L p) {x y : List Int} (hx : Win x) (hy : Win y) (hl : y.length ≤ x.length) :
    ∃ x' y' b q, Ev (fun k => shapesearchkeep_Src_Uneven.j0 k x y L p) (x', y', b, q) ∧ Fit x' y' b ∧ SrcOk L q := by
  have := hx.hi; have := hx.lo; have := hy.lo; have := hy.hi
  obtain ⟨a, q1, e1, ha0, ha1, h1⟩ := src_n h 4 (by decide) (by decide)
  obtain ⟨c, q2, e2, _, _, h2⟩ := src_n h1 5 (by decide) (by decide)
  obtain ⟨w, q3, e3, _, _, h3⟩ := src_n h2 2 (by decide) (by decide)
  have ew : wrap64 (wrap64 ((x.length : Int) - (y.length : Int)) + a) = (x.length : Int) - y.length + a := by rw [w64 (x := (x.length : Int) - y.length) (by omega) (by omega), w64 (by omega) (by omega)]
  have f1 : Fit x y 32 := ⟨hx, hy, by decide, by decide, by omega, by omega⟩
  have f2 : Fit x y (mn 32 ((x.length : Int) - y.length + a)) := ⟨hx, hy, by unfold mn; split <;> omega, by unfold mn; split <;> omega, by unfold mn; split <;> omega, by unfold mn; split <;> omega⟩
  have st : ∀ r, (∀ k, shapesearchkeep_Src_Uneven.j0 (k + 1) x y L p = some r) → Ev (fun k => shapesearchkeep_Src_Uneven.j0 k x y L p) r := fun r hr => Ev.step (f := fun _ => some r) hr (Ev.now _)
  by_cases cc : c = 0
  · by_cases cw : w = 0
    · exact ⟨y, x, 32, q3, st _ (fun k => by simp only [shapesearchkeep_Src_Uneven.j0, e1, e2, e3, Option.bind_some]; rw [if_pos cc, if_pos cw]), f1.swap, h3⟩
    · exact ⟨x, y, 32, q3, st _ (fun k => by simp only [shapesearchkeep_Src_Uneven.j0, e1, e2, e3, Option.bind_some]; rw [if_pos cc, if_neg cw]), f1, h3⟩
  · by_cases cw : w = 0
    · exact ⟨y, x, _, q3, st _ (fun k => by simp only [shapesearchkeep_Src_Uneven.j0, e1, e2, e3, Option.bind_some]; rw [if_neg cc, if_pos cw, ew]), f2.swap, h3⟩
    · exact ⟨x, y, _, q3, st _ (fun k => by simp only [shapesearchkeep_Src_Uneven.j0, e1, e2, e3, Option.bind_some]; rw [if_neg cc, if_neg cw, ew]), f2, h3⟩

theorem src_uneven {L : List Int} {p : Int} (h : SrcOk L p) : ∃ x y b q, Ev (fun k => shapesearchkeep_Src_Uneven.f k L p) (x, y, b, q) ∧ Fit x y b ∧ SrcOk L q := by
  unfold shapesearchkeep_Src_Uneven.f
  obtain ⟨x, y, q1, e1, hx, hy, hl, h1⟩ := src_pair h
  have := hx.hi; have := hx.lo; have := hy.lo; have := hy.hi
  obtain ⟨w, q2, e2, _, _, h2⟩ := src_n h1 2 (by decide) (by decide)
  by_cases c : w = 0
  · obtain ⟨n, q3, e3, hn0, hn1, h3⟩ := src_range h2 2 (y.length : Int) (by omega) (by decide) (by omega)
    have ht : (y.take (n : Int).toNat).length = n.toNat := by rw [List.length_take]; omega
    have wt : Win (y.take (n : Int).toNat) := ⟨by omega, by omega, fun v hv => hy.smp v (List.mem_of_mem_take hv)⟩
    obtain ⟨x', y', b, q, he, hf, hq⟩ := src_uneven_j0 h3 hx wt (by omega)
    refine ⟨x', y', b, q, Ev.bind e1 ?_, hf, hq⟩
    simp only [e2, Option.bind_some]
    refine Ev.pos c ?_
    simp only [e3, Option.bind_some]
    exact Ev.pos (by omega) (Ev.pos hn1 he)
  · obtain ⟨x', y', b, q, he, hf, hq⟩ := src_uneven_j0 h2 hx hy (by omega)
    refine ⟨x', y', b, q, Ev.bind e1 ?_, hf, hq⟩
    simp only [e2, Option.bind_some]
    exact Ev.neg c he

theorem awake_ev : Ev (fun k => shapesearchlaw14_awake.f k) true :=
  Ev.of shapesearchlaw14_awake.mono (k := 60) (by decide +kernel)
theorem awake_and : Ev (fun k => (shapesearchlaw14_awake.f k).bind fun t => some t) true := Ev.bind awake_ev (Ev.now _)

/-- The first pair of a path. -/
theorem WPath.first {c : Nat → Nat → Int} {b : Int} {p q i j : Nat} {s : Int} (h : WPath c b p q i j s) :
    (p = i ∧ q = j ∧ s = c p q) ∨ ∃ t, s = c p q + t ∧ (WPath c b (p + 1) (q + 1) i j t ∨ WPath c b (p + 1) q i j t ∨ WPath c b p (q + 1) i j t) := by
  induction h with
  | one h => exact .inl ⟨rfl, rfl, rfl⟩
  | diag i j s h hn ih =>
    refine .inr ?_
    rcases ih with ⟨rfl, rfl, rfl⟩ | ⟨t, rfl, ht⟩
    · exact ⟨_, rfl, .inl (WPath.one hn)⟩
    · refine ⟨t + c (i + 1) (j + 1), by omega, ?_⟩
      rcases ht with ht | ht | ht
      · exact .inl (WPath.diag _ _ _ ht hn)
      · exact .inr (.inl (WPath.diag _ _ _ ht hn))
      · exact .inr (.inr (WPath.diag _ _ _ ht hn))
  | down i j s h hn ih =>
    refine .inr ?_
    rcases ih with ⟨rfl, rfl, rfl⟩ | ⟨t, rfl, ht⟩
    · exact ⟨_, rfl, .inr (.inl (WPath.one hn))⟩
    · refine ⟨t + c (i + 1) j, by omega, ?_⟩
      rcases ht with ht | ht | ht
      · exact .inl (WPath.down _ _ _ ht hn)
      · exact .inr (.inl (WPath.down _ _ _ ht hn))
      · exact .inr (.inr (WPath.down _ _ _ ht hn))
  | right i j s h hn ih =>
    refine .inr ?_
    rcases ih with ⟨rfl, rfl, rfl⟩ | ⟨t, rfl, ht⟩
    · exact ⟨_, rfl, .inr (.inr (WPath.one hn))⟩
    · refine ⟨t + c i (j + 1), by omega, ?_⟩
      rcases ht with ht | ht | ht
      · exact .inl (WPath.right _ _ _ ht hn)
      · exact .inr (.inl (WPath.right _ _ _ ht hn))
      · exact .inr (.inr (WPath.right _ _ _ ht hn))

theorem WPath.bound2 {c : Nat → Nat → Int} {b : Int} (hc : Costs c) {p q i j : Nat} {s : Int} (h : WPath c b p q i j s) : 0 ≤ s ∧ s + 4000000 * ((p : Int) + q) ≤ 4000000 * ((i : Int) + j + 1) := by
  induction h with
  | one h => have := hc.pos p q; have := hc.le p q; omega
  | diag i j s h hn ih => have := hc.pos (i + 1) (j + 1); have := hc.le (i + 1) (j + 1); omega
  | down i j s h hn ih => have := hc.pos (i + 1) j; have := hc.le (i + 1) j; omega
  | right i j s h hn ih => have := hc.pos i (j + 1); have := hc.le i (j + 1); omega

/-- The least cost of the paths from here, if there is one. -/
def Best (c : Nat → Nat → Int) (b : Int) (p q i j : Nat) (r : Int) : Prop :=
  (r = INF ∧ ∀ s, ¬ WPath c b p q i j s) ∨ (WPath c b p q i j r ∧ ∀ s, WPath c b p q i j s → r ≤ s)

theorem Best.range {c : Nat → Nat → Int} {b : Int} (hc : Costs c) {p q i j : Nat} (hi : i ≤ 64) (hj : j ≤ 64) {r : Int} (h : Best c b p q i j r) : 0 ≤ r ∧ r ≤ INF := by
  rcases h with ⟨rfl, _⟩ | ⟨h, _⟩
  · decide
  · have := h.bound2 hc; unfold INF; omega

theorem best_step {c : Nat → Nat → Int} {b : Int} (hc : Costs c) {p q i j : Nat} (hi : i ≤ 64) (hj : j ≤ 64) (hn : nearB b p q) (hne : ¬ (p = i ∧ q = j)) {r1 r2 r3 : Int}
    (h1 : Best c b (p + 1) (q + 1) i j r1) (h2 : Best c b (p + 1) q i j r2) (h3 : Best c b p (q + 1) i j r3) : Best c b p q i j (mn INF (c p q + mn (mn r1 r2) r3)) := by
  have cp := hc.pos p q
  have cl := hc.le p q
  -- the least of the three is that of a path, or there is none
  have hm : Best c b p q i j (mn INF (c p q + mn (mn r1 r2) r3)) := by
    have lo : ∀ s, WPath c b p q i j s → c p q + mn (mn r1 r2) r3 ≤ s := by
      intro s hs
      rcases hs.first with ⟨e1, e2, _⟩ | ⟨t, rfl, ht⟩
      · exact absurd ⟨e1, e2⟩ hne
      · have m1 := mn_le_l (mn r1 r2) r3; have m2 := mn_le_r (mn r1 r2) r3; have m3 := mn_le_l r1 r2; have m4 := mn_le_r r1 r2
        rcases ht with ht | ht | ht
        · rcases h1 with ⟨_, no⟩ | ⟨_, le⟩
          · exact absurd ht (no t)
          · have := le t ht; omega
        · rcases h2 with ⟨_, no⟩ | ⟨_, le⟩
          · exact absurd ht (no t)
          · have := le t ht; omega
        · rcases h3 with ⟨_, no⟩ | ⟨_, le⟩
          · exact absurd ht (no t)
          · have := le t ht; omega
    have some_path : ∀ r, (r = r1 ∨ r = r2 ∨ r = r3) → r = mn (mn r1 r2) r3 → r < INF → WPath c b p q i j (c p q + r) := by
      intro r hr _ hlt
      rcases hr with rfl | rfl | rfl
      · rcases h1 with ⟨e, _⟩ | ⟨h, _⟩
        · omega
        · exact h.front hn (.inl ⟨rfl, rfl⟩)
      · rcases h2 with ⟨e, _⟩ | ⟨h, _⟩
        · omega
        · exact h.front hn (.inr (.inl ⟨rfl, rfl⟩))
      · rcases h3 with ⟨e, _⟩ | ⟨h, _⟩
        · omega
        · exact h.front hn (.inr (.inr ⟨rfl, rfl⟩))
    have ge := Best.range hc hi hj h1; have ge2 := Best.range hc hi hj h2; have ge3 := Best.range hc hi hj h3
    have hle : mn (mn r1 r2) r3 ≤ INF := Int.le_trans (mn_le_r _ _) ge3.2
    have hor : mn (mn r1 r2) r3 = r1 ∨ mn (mn r1 r2) r3 = r2 ∨ mn (mn r1 r2) r3 = r3 := by
      rcases mn_or (mn r1 r2) r3 with e | e
      · rcases mn_or r1 r2 with e2 | e2
        · exact .inl (e.trans e2)
        · exact .inr (.inl (e.trans e2))
      · exact .inr (.inr e)
    rcases Int.lt_or_le (mn (mn r1 r2) r3) INF with hlt | hge
    · have hp := some_path _ hor rfl hlt
      have hb := hp.bound2 hc
      have e : mn INF (c p q + mn (mn r1 r2) r3) = c p q + mn (mn r1 r2) r3 := by
        unfold INF at *
        unfold mn at *; split <;> omega
      rw [e]; exact .inr ⟨hp, lo⟩
    · have e : mn INF (c p q + mn (mn r1 r2) r3) = INF := by
        rcases mn_or INF (c p q + mn (mn r1 r2) r3) with e | e
        · exact e
        · have := mn_le_l INF (c p q + mn (mn r1 r2) r3); omega
      rw [e]
      refine .inl ⟨rfl, fun s hs => ?_⟩
      have := lo s hs
      have := hs.bound2 hc
      unfold INF at hge; omega
  exact hm

theorem inc (i : Nat) (h : i ≤ 100) : wrap64 ((i : Int) + 1) = ((i + 1 : Nat) : Int) := by rw [w64 (by omega) (by omega)]; omega
theorem wcw {x y : List Int} {b : Int} (h : Fit x y b) (i j : Nat) : wrap64 (wrap64 (rd x i - rd y j) * wrap64 (rd x i - rd y j)) = wc x y i j := by
  have a := h.wx.smp.rd i; have c := h.wy.smp.rd j
  have q := sq_bound a c
  rw [w64 (x := rd x i - rd y j) (by omega) (by omega), w64 (by omega) (by omega)]; rfl
theorem all_ev {x y : List Int} {b : Int} (h : Fit x y b) : ∀ (d i j : Nat), i ≤ x.length → j ≤ y.length → (x.length - i) + (y.length - j) ≤ d → ∃ r, Ev (fun k => shapesearchlaw14_all.f k x y b i j) r ∧ Best (wc x y) b i j (x.length - 1) (y.length - 1) r := by
  have hc := wc_costs h.wx.smp h.wy.smp
  have x0 := h.wx.lo; have x1 := h.wx.hi; have y0 := h.wy.lo; have y1 := h.wy.hi; have b0 := h.lo; have b1 := h.hi
  have out : ∀ i j : Nat, Ev (fun k => shapesearchlaw14_all.j0 k x y b i j true) INF := fun i j =>
    Ev.step (f := fun _ => some INF) (fun k => by simp only [shapesearchlaw14_all.j0]; rw [if_pos (by trivial)]; rfl) (Ev.now _)
  have none_ : ∀ i j : Nat, (x.length ≤ i ∨ y.length ≤ j ∨ ¬ nearB b i j) → Best (wc x y) b i j (x.length - 1) (y.length - 1) INF := fun i j hh =>
    .inl ⟨rfl, fun s hs => by
      have := hs.le
      rcases hh with hh | hh | hh
      · omega
      · omega
      · exact hh hs.near0⟩
  intro d
  induction d with
  | zero =>
    intro i j hi hj hd
    refine ⟨INF, Ev.step (fun k => by simp only [shapesearchlaw14_all.f]; rw [if_pos (by omega)]) (out i j), none_ i j (.inl (by omega))⟩
  | succ d ih =>
    intro i j hi hj hd
    by_cases ci : (i : Int) ≥ x.length
    · exact ⟨INF, Ev.step (fun k => by simp only [shapesearchlaw14_all.f]; rw [if_pos ci]) (out i j), none_ i j (.inl (by omega))⟩
    by_cases cj : (j : Int) ≥ y.length
    · exact ⟨INF, Ev.step (fun k => by simp only [shapesearchlaw14_all.f]; rw [if_neg ci, if_pos cj]) (out i j), none_ i j (.inr (.inl (by omega)))⟩
    by_cases cb : (i : Int) - j > b
    · exact ⟨INF, Ev.step (fun k => by simp only [shapesearchlaw14_all.f]; rw [if_neg ci, if_neg cj, w64 (x := (i : Int) - j) (by omega) (by omega), if_pos cb]) (out i j), none_ i j (.inr (.inr (by unfold nearB; omega)))⟩
    by_cases cb2 : (j : Int) - i > b
    · refine ⟨INF, Ev.step (fun k => by simp only [shapesearchlaw14_all.f]; rw [if_neg ci, if_neg cj, w64 (x := (i : Int) - j) (by omega) (by omega), if_neg cb, w64 (x := (j : Int) - i) (by omega) (by omega), show decide ((j : Int) - i > b) = true by simp; omega]) (out i j), none_ i j (.inr (.inr (by unfold nearB; omega)))⟩
    have hn : nearB b i j := by unfold nearB; omega
    have go : ∀ B : Bool, (B = true ↔ (i = x.length - 1 ∧ j = y.length - 1)) → ∃ r, Ev (fun k => shapesearchlaw14_all.j1 k x y b i j (wc x y i j) B) r ∧ Best (wc x y) b i j (x.length - 1) (y.length - 1) r := by
      intro B hB
      cases B with
      | true =>
        obtain ⟨rfl, rfl⟩ := hB.1 rfl
        refine ⟨_, Ev.step (f := fun _ => some (wc x y (x.length - 1) (y.length - 1))) (fun k => by simp only [shapesearchlaw14_all.j1]; rw [if_pos (by trivial)]) (Ev.now _), .inr ⟨WPath.one hn, fun s hs => ?_⟩⟩
        exact hs.ge0 hc.pos
      | false =>
        have hne : ¬ (i = x.length - 1 ∧ j = y.length - 1) := fun hh => by cases hB.2 hh
        obtain ⟨r1, g1, k1⟩ := ih (i + 1) (j + 1) (by omega) (by omega) (by omega)
        obtain ⟨r2, g2, k2⟩ := ih (i + 1) j (by omega) (by omega) (by omega)
        obtain ⟨r3, g3, k3⟩ := ih i (j + 1) (by omega) (by omega) (by omega)
        have ge := Best.range hc (by omega) (by omega) k1; have ge2 := Best.range hc (by omega) (by omega) k2; have ge3 := Best.range hc (by omega) (by omega) k3
        have w0 := hc.pos i j; have w1 := hc.le i j
        have m0 : 0 ≤ mn (mn r1 r2) r3 := le_mn (le_mn ge.1 ge2.1) ge3.1
        have m1 : mn (mn r1 r2) r3 ≤ INF := Int.le_trans (mn_le_r _ _) ge3.2
        refine ⟨_, Ev.step (fun k => by simp only [shapesearchlaw14_all.j1]; rw [if_neg (by decide), inc i (by omega), inc j (by omega)]) (Ev.bind g1 (Ev.bind g2 (Ev.bind g3 ?_))), best_step hc (by omega) (by omega) hn hne k1 k2 k3⟩
        unfold INF at m1
        rw [w64 (x := wc x y i j + mn (mn r1 r2) r3) (by omega) (by omega)]
        exact Ev.now _
    have top : ∀ k, shapesearchlaw14_all.f (k + 1) x y b i j = shapesearchlaw14_all.j0 k x y b i j false := fun k => by
      simp only [shapesearchlaw14_all.f]; rw [if_neg ci, if_neg cj, w64 (x := (i : Int) - j) (by omega) (by omega), if_neg cb, w64 (x := (j : Int) - i) (by omega) (by omega), show decide ((j : Int) - i > b) = false by simp; omega]
    by_cases cl : (i : Int) = (x.length : Int) - 1
    · obtain ⟨r, g, hr⟩ := go ((j : Int) == (y.length : Int) - 1) (by simp; omega)
      refine ⟨r, Ev.step top (Ev.step (fun k => ?_) g), hr⟩
      simp only [shapesearchlaw14_all.j0]
      rw [if_neg (by decide), if_pos (by omega), if_pos (by omega), if_pos (by omega), if_pos (by omega), w64 (x := (x.length : Int) - 1) (by omega) (by omega), if_pos cl, wcw h i j, w64 (x := (y.length : Int) - 1) (by omega) (by omega)]
    · obtain ⟨r, g, hr⟩ := go false (by simp; omega)
      refine ⟨r, Ev.step top (Ev.step (fun k => ?_) g), hr⟩
      simp only [shapesearchlaw14_all.j0]
      rw [if_neg (by decide), if_pos (by omega), if_pos (by omega), if_pos (by omega), if_pos (by omega), w64 (x := (x.length : Int) - 1) (by omega) (by omega), if_neg cl, wcw h i j]

theorem WarpAll : shapesearchlaw14_WarpAll.Pure := by
  intro l _ _ _
  refine Ev.rounds ?_
  unfold shapesearchlaw14_WarpAll.f
  obtain ⟨L, hL, h0⟩ := src_new l
  obtain ⟨x0, y0, b, q, hu, hf, _⟩ := src_uneven h0
  have := hf.wx.hi; have := hf.wx.lo; have := hf.wy.hi; have := hf.wy.lo; have hb0 := hf.lo; have hb1 := hf.hi; have hl := hf.l; have hr := hf.r
  rw [hL]; simp only [Option.bind_some]
  refine Ev.bind hu ?_
  have mx : ∀ n : Int, mn n 5 ≤ n ∧ mn n 5 ≤ 5 ∧ (mn n 5 = n ∨ mn n 5 = 5) := fun n => ⟨mn_le_l _ _, mn_le_r _ _, mn_or _ _⟩
  have m1 := mx x0.length; have m2 := mx y0.length
  simp only [Option.bind_some]
  refine Ev.pos (by omega) (Ev.pos (by omega) (Ev.pos (by omega) (Ev.pos (by omega) ?_)))
  have tx : ((x0.take ((mn (x0.length : Int) 5) : Int).toNat).length : Int) = mn (x0.length : Int) 5 := by rw [List.length_take]; omega
  have ty : ((y0.take ((mn (y0.length : Int) 5) : Int).toNat).length : Int) = mn (y0.length : Int) 5 := by rw [List.length_take]; omega
  generalize hx : x0.take ((mn (x0.length : Int) 5) : Int).toNat = x at tx ⊢
  generalize hy : y0.take ((mn (y0.length : Int) 5) : Int).toNat = y at ty ⊢
  have f : Fit x y b := ⟨⟨by omega, by omega, hx ▸ hf.wx.smp.take _⟩, ⟨by omega, by omega, hy ▸ hf.wy.smp.take _⟩, hb0, hb1, by omega, by omega⟩
  obtain ⟨r, hr1, hr2⟩ := all_ev f (x.length + y.length) 0 0 (by omega) (by omega) (by omega)
  have hc := wc_costs f.wx.smp f.wy.smp
  have := f.wx.hi; have := f.wy.hi
  obtain ⟨g1, g2⟩ := W_min hc hb0 (i := x.length - 1) (j := y.length - 1) (by omega) (by omega) f.near
  have e : W (wc x y) b (x.length - 1) (y.length - 1) = r := by
    rcases hr2 with ⟨_, no⟩ | ⟨h1, h2⟩
    · exact absurd g1 (no _)
    · have := h2 _ g1; have := g2 _ h1; omega
  refine Ev.bind (Distance_ev f) (Ev.pos rfl (Ev.bind hr1 (Ev.pos e awake_and)))

end Go.Proofs.Ytnceoalphoodaaa.Pure
