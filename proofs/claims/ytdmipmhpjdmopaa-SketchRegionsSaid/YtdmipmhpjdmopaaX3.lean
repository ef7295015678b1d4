/- Part 3 of 3 of the theory that this claim's proof uses: functions of the program as terms of a small language, what these compute, and that the program's functions answer so.
 There are no conditions beyond those that the theorems name. -/
import Derived.Test.YtdmipmhpjdmopaaX2
set_option linter.unusedVariables false
set_option linter.unusedSimpArgs false
namespace Go.Proofs.Ytdmipmhpjdmopaa
open Go
section
/-! ## Ranges over the pieces of a window -/
/-- The code of a function that gives the pieces of a window: the numbers 0 to n-1, and for each where its piece begins and ends. -/
def allL1 : MCode := .seq (.reg [.op (some 7) (.bin .lss (.t 6) (.t 5))] [.keep [0, 1, 2, 5, 6, 7], .gc]) (.seq (.cond 7 (.gh [.keep [0, 1, 2, 5, 6], .gc] (.skip)) (.gh [.keep [], .gc] (.exit 0))) (.seq (.block 1 (.seq (.reg [.op (some 8) (.mov (.t 6)), .op (some 4) (.mov (.t 8))] [.keep [0, 1, 2, 4, 5, 6], .gc]) (.seq (.yld [⟨none, some 9, .mov (.t 0)⟩, ⟨none, some 10, .mov (.t 4)⟩, ⟨none, some 11, .mov (.t 4)⟩, ⟨none, some 12, .load 1 false (.t 2)⟩, ⟨none, some 13, .bin .mul (.t 11) (.t 12)⟩, ⟨none, some 14, .load 1 false (.t 1)⟩, ⟨none, some 15, .bin .quo (.t 13) (.t 14)⟩, ⟨none, some 16, .mov (.t 4)⟩, ⟨none, some 17, .bin .add (.t 16) (.k (.one (.d (.int .i64 1))))⟩, ⟨none, some 18, .load 1 false (.t 2)⟩, ⟨none, some 19, .bin .mul (.t 17) (.t 18)⟩, ⟨none, some 20, .load 1 false (.t 1)⟩, ⟨none, some 21, .bin .quo (.t 19) (.t 20)⟩, ⟨none, some 22, .build [.d (.int .i64 0), .d (.int .i64 0)] [(0, 1, (.t 15)), (1, 1, (.t 21))]⟩, ⟨none, some 23, .callv (.t 9) [(.t 10), (.t 22)]⟩, ⟨none, some 24, .not (.t 23)⟩] [[], [], [], [], [2, 3], [], [4, 5], [], [7], [], [8, 9], [], [10, 11], [6, 12], [0, 1, 13], [14]] 14 [.keep [0, 1, 2, 5, 6, 24], .gc]) (.cond 24 (.gh [.keep [], .gc] (.ret)) (.gh [.keep [0, 1, 2, 5, 6], .gc] (.skip)))))) (.reg [.op (some 25) (.bin .add (.t 6) (.k (.one (.d (.int .i64 1))))), .op (some 6) (.mov (.t 25))] [.keep [0, 1, 2, 5, 6], .gc])))
def allM : MFn := ⟨26, 3, [], [], .seq (.reg [.op (some 5) (.load 1 false (.t 1)), .op (some 6) (.mov (.k (.one (.d (.int .i64 0)))))] [.keep [0, 1, 2, 5, 6], .gc]) (.block 0 (.loop allL1))⟩

/-- The rounds over the pieces of a window of m samples in n pieces. -/
def allT {S R : Type} (f : Int → Int → Int → S → Option (S ⊕ R)) (m n : Int) : Nat → Int → S → Option (S ⊕ R)
 | 0, _, _ => none
 | k + 1, p, s => if p < n then (if n ≠ 0 then (f p (w64 ((w64 (p * m)).tdiv n)) (w64 ((w64 (w64 (p + 1) * m)).tdiv n)) s).bind fun x => match x with
  | .inl s' => allT f m n k (w64 (p + 1)) s'
  | .inr r => some (.inr r)
  else none) else some (.inl s)

def allE (l : Nat) (n m p : Int) : St := ⟨[(0, .one (.d (.fn (.yield l) []))), (1, .one (.d (.ref [.int .i64 n]))), (2, .one (.d (.ref [.int .i64 m]))), (5, I n), (6, I p)], []⟩
section
variable {T : Type} {call : Call} {k l : Nat} {rd : List V → T → Option (Bool × T)} {σ τ : St × T}
theorem gen_seq {x y : MCode} (h : evGen call k l rd x σ = some (.normal, τ)) : evGen call k l rd (.seq x y) σ = evGen call k l rd y τ := by simp only [evGen, h, Option.bind_some]
theorem gen_seqr {x y : MCode} (h : evGen call k l rd x σ = some (.ret, τ)) : evGen call k l rd (.seq x y) σ = some (.ret, τ) := by simp only [evGen, h, Option.bind_some]
theorem gen_blk {x : MCode} {i : Nat} {e : Ex} (h : evGen call k l rd x σ = some (e, τ)) (he : ∀ j, e ≠ .exit j) : evGen call k l rd (.block i x) σ = some (e, τ) := by
 simp only [evGen, h, Option.bind_some]
end
theorem all_round {T : Type} {call : Call} {k l : Nat} {rd : List V → T → Option (Bool × T)} {m n p : Int} {s s' : T} {b : Bool} (h0 : p < n) (hn : n ≠ 0)
 (h : rd [I p, .agg [.d (.int .i64 (w64 ((w64 (p * m)).tdiv n))), .d (.int .i64 (w64 ((w64 (w64 (p + 1) * m)).tdiv n)))]] s = some (b, s')) :
 evGen call k l rd allL1 (allE l n m p, s) = some (if b then (.normal, (allE l n m (w64 (p + 1)), s')) else (.ret, (⟨[], []⟩, s'))) := by
 have h1 : evFs call [⟨none, some 9, .mov (.t 0)⟩, ⟨none, some 10, .mov (.t 4)⟩, ⟨none, some 11, .mov (.t 4)⟩, ⟨none, some 12, .load 1 false (.t 2)⟩, ⟨none, some 13, .bin .mul (.t 11) (.t 12)⟩, ⟨none, some 14, .load 1 false (.t 1)⟩, ⟨none, some 15, .bin .quo (.t 13) (.t 14)⟩, ⟨none, some 16, .mov (.t 4)⟩, ⟨none, some 17, .bin .add (.t 16) (.k (.one (.d (.int .i64 1))))⟩, ⟨none, some 18, .load 1 false (.t 2)⟩, ⟨none, some 19, .bin .mul (.t 17) (.t 18)⟩, ⟨none, some 20, .load 1 false (.t 1)⟩, ⟨none, some 21, .bin .quo (.t 19) (.t 20)⟩, ⟨none, some 22, .build [.d (.int .i64 0), .d (.int .i64 0)] [(0, 1, (.t 15)), (1, 1, (.t 21))]⟩]
  ⟨[(0, .one (.d (.fn (.yield l) []))), (1, .one (.d (.ref [.int .i64 n]))), (2, .one (.d (.ref [.int .i64 m]))), (4, I p), (5, I n), (6, I p)], []⟩ =
  some ⟨[(0, .one (.d (.fn (.yield l) []))), (1, .one (.d (.ref [.int .i64 n]))), (2, .one (.d (.ref [.int .i64 m]))), (4, I p), (5, I n), (6, I p), (9, .one (.d (.fn (.yield l) []))), (10, I p), (11, I p), (12, I m), (13, I (w64 (p * m))), (14, I n),
   (15, I (w64 ((w64 (p * m)).tdiv n))), (16, I p), (17, I (w64 (p + 1))), (18, I m), (19, I (w64 (w64 (p + 1) * m))), (20, I n), (21, I (w64 ((w64 (w64 (p + 1) * m)).tdiv n))),
   (22, .agg [.d (.int .i64 (w64 ((w64 (p * m)).tdiv n))), .d (.int .i64 (w64 ((w64 (w64 (p + 1) * m)).tdiv n)))])], []⟩ := by
  simp [evFs, evFI, act, evO, ldC, bldParts, splice, hn]
 have hlt : decide (p < n) = true := by simpa using h0
 have g1 : evGen call k l rd (.reg [.op (some 7) (.bin .lss (.t 6) (.t 5))] [.keep [0, 1, 2, 5, 6, 7], .gc]) (allE l n m p, s) = some (.normal, (⟨[(0, .one (.d (.fn (.yield l) []))), (1, .one (.d (.ref [.int .i64 n]))), (2, .one (.d (.ref [.int .i64 m]))), (5, I n), (6, I p), (7, B (decide (p < n)))], []⟩, s)) := by rfl
 have g2 : evGen call k l rd (.reg [.op (some 8) (.mov (.t 6)), .op (some 4) (.mov (.t 8))] [.keep [0, 1, 2, 4, 5, 6], .gc]) (allE l n m p, s) = some (.normal, (⟨[(0, .one (.d (.fn (.yield l) []))), (1, .one (.d (.ref [.int .i64 n]))), (2, .one (.d (.ref [.int .i64 m]))), (4, I p), (5, I n), (6, I p)], []⟩, s)) := by rfl
 have g3 : evGen call k l rd (.yld [⟨none, some 9, .mov (.t 0)⟩, ⟨none, some 10, .mov (.t 4)⟩, ⟨none, some 11, .mov (.t 4)⟩, ⟨none, some 12, .load 1 false (.t 2)⟩, ⟨none, some 13, .bin .mul (.t 11) (.t 12)⟩, ⟨none, some 14, .load 1 false (.t 1)⟩, ⟨none, some 15, .bin .quo (.t 13) (.t 14)⟩, ⟨none, some 16, .mov (.t 4)⟩, ⟨none, some 17, .bin .add (.t 16) (.k (.one (.d (.int .i64 1))))⟩, ⟨none, some 18, .load 1 false (.t 2)⟩, ⟨none, some 19, .bin .mul (.t 17) (.t 18)⟩, ⟨none, some 20, .load 1 false (.t 1)⟩, ⟨none, some 21, .bin .quo (.t 19) (.t 20)⟩, ⟨none, some 22, .build [.d (.int .i64 0), .d (.int .i64 0)] [(0, 1, (.t 15)), (1, 1, (.t 21))]⟩, ⟨none, some 23, .callv (.t 9) [(.t 10), (.t 22)]⟩, ⟨none, some 24, .not (.t 23)⟩] [[], [], [], [], [2, 3], [], [4, 5], [], [7], [], [8, 9], [], [10, 11], [6, 12], [0, 1, 13], [14]] 14 [.keep [0, 1, 2, 5, 6, 24], .gc])
  (⟨[(0, .one (.d (.fn (.yield l) []))), (1, .one (.d (.ref [.int .i64 n]))), (2, .one (.d (.ref [.int .i64 m]))), (4, I p), (5, I n), (6, I p)], []⟩, s) = some (.normal, (⟨[(0, .one (.d (.fn (.yield l) []))), (1, .one (.d (.ref [.int .i64 n]))), (2, .one (.d (.ref [.int .i64 m]))), (5, I n), (6, I p), (24, B (!b))], []⟩, s')) := by
  simp only [evGen, List.take]
  rw [h1]
  simp only [Option.bind_some]
  show (if l = l then (rd [I p, .agg [.d (.int .i64 (w64 ((w64 (p * m)).tdiv n))), .d (.int .i64 (w64 ((w64 (w64 (p + 1) * m)).tdiv n)))]] s).bind _ else none) = _
  rw [if_pos rfl, h]
  rfl
 have c1 : ∀ p, evGen call k l rd (.cond 7 (.gh [.keep [0, 1, 2, 5, 6], .gc] (.skip)) (.gh [.keep [], .gc] (.exit 0))) (⟨[(0, .one (.d (.fn (.yield l) []))), (1, .one (.d (.ref [.int .i64 n]))), (2, .one (.d (.ref [.int .i64 m]))), (5, I n), (6, I p), (7, B true)], []⟩, s) = some (.normal, (allE l n m p, s)) := fun p => rfl
 unfold allL1
 rw [gen_seq g1, hlt, gen_seq (c1 p)]
 cases b with
 | true =>
  have g4 : evGen call k l rd (.cond 24 (.gh [.keep [], .gc] (.ret)) (.gh [.keep [0, 1, 2, 5, 6], .gc] (.skip))) (⟨[(0, .one (.d (.fn (.yield l) []))), (1, .one (.d (.ref [.int .i64 n]))), (2, .one (.d (.ref [.int .i64 m]))), (5, I n), (6, I p), (24, B (!true))], []⟩, s') = some (.normal, (allE l n m p, s')) := by rfl
  rw [gen_seq (gen_blk (by rw [gen_seq g2, gen_seq g3]; exact g4) (by intro j h; cases h))]
  rfl
 | false =>
  have g4 : evGen call k l rd (.cond 24 (.gh [.keep [], .gc] (.ret)) (.gh [.keep [0, 1, 2, 5, 6], .gc] (.skip))) (⟨[(0, .one (.d (.fn (.yield l) []))), (1, .one (.d (.ref [.int .i64 n]))), (2, .one (.d (.ref [.int .i64 m]))), (5, I n), (6, I p), (24, B (!false))], []⟩, s') = some (.ret, (⟨[], []⟩, s')) := by rfl
  rw [gen_seqr (gen_blk (by rw [gen_seq g2, gen_seq g3]; exact g4) (by intro j h; cases h))]
  rfl
theorem all_end {T : Type} {call : Call} {k l : Nat} {rd : List V → T → Option (Bool × T)} {m n p : Int} {s : T} (h0 : ¬ p < n) :
 evGen call k l rd allL1 (allE l n m p, s) = some (.exit 0, (⟨[], []⟩, s)) := by
 have hlt : decide (p < n) = false := by simpa using h0
 have g1 : evGen call k l rd (.reg [.op (some 7) (.bin .lss (.t 6) (.t 5))] [.keep [0, 1, 2, 5, 6, 7], .gc]) (allE l n m p, s) = some (.normal, (⟨[(0, .one (.d (.fn (.yield l) []))), (1, .one (.d (.ref [.int .i64 n]))), (2, .one (.d (.ref [.int .i64 m]))), (5, I n), (6, I p), (7, B (decide (p < n)))], []⟩, s)) := by rfl
 unfold allL1
 rw [gen_seq g1, hlt]
 rfl
theorem all_iter {T S R : Type} {call : Call} {k l : Nat} {rd : List V → T → Option (Bool × T)} {f : Int → Int → Int → S → Option (S ⊕ R)} {enc : S → T} {out : R → T} {m n : Int}
 (H : ∀ p a b s x, f p a b s = some x → rd [I p, .agg [.d (.int .i64 a), .d (.int .i64 b)]] (enc s) = some (Sum.elim (fun s' => (true, enc s')) (fun r => (false, out r)) x)) :
 ∀ (j : Nat) (p : Int) (s : S) (x : S ⊕ R), allT f m n j p s = some x → ∃ z, iter (evGen call k l rd allL1) j (allE l n m p, enc s) = some z ∧ (z.1 = .exit 0 ∨ z.1 = .ret) ∧ z.2.2 = Sum.elim enc out x
 | 0, p, s, x, h => by simp only [allT] at h; cases h
 | j + 1, p, s, x, h => by
  simp only [allT] at h
  rcases ite_some h with ⟨h1, h⟩ | ⟨h1, h⟩
  · obtain ⟨hn, h⟩ := guard_some h
    obtain ⟨y, h2, h3⟩ := bind_some' h
    have e := all_round (call := call) (k := k) (l := l) (rd := rd) (m := m) h1 hn (H _ _ _ _ _ h2)
    cases y with
    | inl s' =>
     simp only [iter, e, if_true, Option.bind_some]
     exact all_iter H j _ _ x h3
    | inr r =>
     cases h3
     simp only [iter, e, Bool.false_eq_true, if_false, Option.bind_some]
     exact ⟨_, rfl, .inr rfl, rfl⟩
  · cases h
    simp only [iter, all_end h1, Option.bind_some]
    exact ⟨_, rfl, .inl rfl, rfl⟩
theorem gall_ok {T S R : Type} {call : Call} {k l : Nat} {rd : List V → T → Option (Bool × T)} {f : Int → Int → Int → S → Option (S ⊕ R)} {enc : S → T} {out : R → T} {m n : Int}
 (H : ∀ p a b s x, f p a b s = some x → rd [I p, .agg [.d (.int .i64 a), .d (.int .i64 b)]] (enc s) = some (Sum.elim (fun s' => (true, enc s')) (fun r => (false, out r)) x))
 {s : S} {x : S ⊕ R} (h : allT f m n k 0 s = some x) :
 ∃ z, evGen call k l rd allM.code (⟨startEnv 0 [.one (.d (.fn (.yield l) [])), .one (.d (.ref [.int .i64 n])), .one (.d (.ref [.int .i64 m]))], []⟩, enc s) = some z ∧ (∀ j, z.1 ≠ .exit j) ∧ z.2.2 = Sum.elim enc out x := by
 obtain ⟨z, h1, h2, h3⟩ := all_iter (call := call) (k := k) (l := l) H k 0 s x h
 have g1 : evGen call k l rd (.reg [.op (some 5) (.load 1 false (.t 1)), .op (some 6) (.mov (.k (.one (.d (.int .i64 0)))))] [.keep [0, 1, 2, 5, 6], .gc]) (⟨startEnv 0 [.one (.d (.fn (.yield l) [])), .one (.d (.ref [.int .i64 n])), .one (.d (.ref [.int .i64 m]))], []⟩, enc s) = some (.normal, (allE l n m 0, enc s)) := by rfl
 unfold allM
 rw [gen_seq g1]
 obtain ⟨ex, z2⟩ := z
 have e2 : evGen call k l rd (.block 0 (.loop allL1)) (allE l n m 0, enc s) = some (if ex = .exit 0 then (.normal, z2) else (ex, z2)) := by
  simp only [evGen, h1, Option.bind_some]
  rcases h2 with rfl | rfl <;> rfl
 refine ⟨_, e2, ?_, ?_⟩
 · rcases h2 with rfl | rfl <;> (intro j hj; cases hj)
 · rcases h2 with rfl | rfl <;> exact h3

/-- The statement: what the rounds come to. -/
theorem range_ok {X : Nat → Option MFn} {call : Call} {k b : Nat} {x : Arg} {ps : List Nat} {as body : MCode} {gh : List Ghost} {g : Nat} {m n : Int} {S R : Type} {f : Int → Int → Int → S → Option (S ⊕ R)} (enc : S → St) (out : R → Ex × St) {s : S} {y : S ⊕ R}
 (hx : (enc s).arg x = .one (.d (.fn (.func g) [.ref [.int .i64 n], .ref [.int .i64 m]]))) (hX : X g = some allM)
 (H : ∀ p a c s z, f p a c s = some z → roundM (fun b' => evC X call k b' as) (fun b' => evC X call k b' body) b ps gh [I p, .agg [.d (.int .i64 a), .d (.int .i64 c)]] (.normal, enc s) = some (Sum.elim (fun s' => (true, (.normal, enc s'))) (fun r => (false, out r)) z))
 (h : allT f m n k 0 s = some y) : evC X call k b (.rangef x ps as body gh) (enc s) = some (outS enc out y) := by
 simp only [evC]
 rw [hx]
 simp only [hX, Option.bind_some]
 rw [if_pos (by exact ⟨rfl, rfl⟩)]
 refine allL_some fun l => ?_
 obtain ⟨z, h1, h2, h3⟩ := gall_ok (T := Ex × St) (enc := fun s => (.normal, enc s)) (out := out) (call := call) (l := l) H h
 have h1' : evGen call k l (roundM (fun b' => evC X call k b' as) (fun b' => evC X call k b' body) b ps gh) allM.code (⟨startEnv 0 (.one (.d (.fn (.yield l) [])) :: [D.ref [.int .i64 n], .ref [.int .i64 m]].map fun c => .one (.d c)), []⟩, (.normal, enc s)) = some z := h1
 rw [h1']
 obtain ⟨ex, z2⟩ := z
 simp only [Option.bind_some]
 cases ex with
 | exit j => exact absurd rfl (h2 j)
 | normal => simp only [] at h3 ⊢; rw [h3]; cases y <;> rfl
 | ret => simp only [] at h3 ⊢; rw [h3]; cases y <;> rfl
theorem R_in {fa fb : Nat → St → Option (Ex × St)} {b : Nat} {ps : List Nat} {gh : List Ghost} {args : List V} {σ : St} {y : Bool × (Ex × St)} (hl : args.length = ps.length)
 (h : (fa σ.mem.length ⟨putAll ps args σ.env, σ.mem⟩).bind (fun r1 => match r1.1 with
  | .normal => (fb r1.2.mem.length r1.2).bind fun r2 => (evGs b gh ⟨σ.env, r2.2.mem⟩).bind fun σ3 => some (decide (r2.1 = .normal), (r2.1, σ3))
  | _ => none) = some y) : roundM fa fb b ps gh args (.normal, σ) = some y := by
 unfold roundM
 simp only []
 rw [if_pos hl]
 exact h
/-- A round: the assignment's walk, then the body's. -/
theorem R_as {X : Nat → Option MFn} {call : Call} {k b : Nat} {ps : List Nat} {gh : List Ghost} {args : List V} {σ : St} {y : Bool × (Ex × St)} {as body : MCode} (hl : args.length = ps.length)
 (h : Post (fun o => o.bind (fun r1 => match r1.1 with
  | .normal => (evC X call k r1.2.mem.length body r1.2).bind fun r2 => (evGs b gh ⟨σ.env, r2.2.mem⟩).bind fun σ3 => some (decide (r2.1 = .normal), (r2.1, σ3))
  | _ => none) = some y) (evK X call k σ.mem.length [.c as] (.normal, ⟨putAll ps args σ.env, σ.mem⟩))) :
 roundM (fun b' => evC X call k b' as) (fun b' => evC X call k b' body) b ps gh args (.normal, σ) = some y := by
 refine R_in hl ?_
 have h : (evK X call k σ.mem.length [.c as] (.normal, ⟨putAll ps args σ.env, σ.mem⟩)).bind _ = some y := h
 simp only [evK] at h
 rw [← h]
 cases evC X call k σ.mem.length as ⟨putAll ps args σ.env, σ.mem⟩ <;> rfl
theorem R_body {X : Nat → Option MFn} {call : Call} {k b : Nat} {e : Env} {gh : List Ghost} {σ1 : St} {y : Bool × (Ex × St)} {body : MCode}
 (h : Post (fun o => o.bind (fun r2 => (evGs b gh ⟨e, r2.2.mem⟩).bind fun σ3 => some (decide (r2.1 = .normal), (r2.1, σ3))) = some y) (evK X call k σ1.mem.length [.c body] (.normal, σ1))) :
 (some (Ex.normal, σ1)).bind (fun r1 => match r1.1 with
  | .normal => (evC X call k r1.2.mem.length body r1.2).bind fun r2 => (evGs b gh ⟨e, r2.2.mem⟩).bind fun σ3 => some (decide (r2.1 = .normal), (r2.1, σ3))
  | _ => none) = some y := by
 have h : (evK X call k σ1.mem.length [.c body] (.normal, σ1)).bind _ = some y := h
 simp only [evK] at h
 rw [← h]
 show (evC X call k σ1.mem.length body σ1).bind _ = _
 cases evC X call k σ1.mem.length body σ1 <;> rfl
theorem R_end {b : Nat} {e : Env} {gh : List Ghost} {ex : Ex} {σ2 : St} {y : Bool × (Ex × St)} (σ3 : St) (h : evGs b gh ⟨e, σ2.mem⟩ = some σ3) (hy : (decide (ex = .normal), (ex, σ3)) = y) :
 (some (ex, σ2)).bind (fun r2 => (evGs b gh ⟨e, r2.2.mem⟩).bind fun σ3 => some (decide (r2.1 = .normal), (r2.1, σ3))) = some y := by
 simp only [Option.bind_some, h, hy]
section
variable {X : Nat → Option MFn} {call : Call} {k b : Nat} {fs : List Fr} {σ : St} {q : Option (Ex × St) → Prop}
theorem K_xr {c : MCode} (σ' : St) (e : evC X call k b c σ = some (.ret, σ')) (h : q (some (.ret, σ'))) : Post q (evK X call k b (.c c :: fs) (.normal, σ)) := by
 refine K_eq ?_ h
 simp only [evK, e, Option.bind_some]
 exact evK_ret fs
theorem K_x {c : MCode} {i : Nat} {gs : List Fr} (σ' : St) (e : evC X call k b c σ = some (.exit i, σ')) (u : unw i fs = some gs) (h : Post q (evK X call k b gs (.normal, σ'))) : Post q (evK X call k b (.c c :: fs) (.normal, σ)) := by
 refine K_eq ?_ h
 simp only [evK, e, Option.bind_some]
 rw [evK_exit, u]
theorem K_x0 {c : MCode} {i : Nat} (σ' : St) (e : evC X call k b c σ = some (.exit i, σ')) (u : unw i fs = none) (h : q (some (.exit i, σ'))) : Post q (evK X call k b (.c c :: fs) (.normal, σ)) := by
 refine K_eq ?_ h
 simp only [evK, e, Option.bind_some]
 rw [evK_exit, u]
end
/-- The sum of two words and a carry. -/
def addT (k : Nat) (x y c : Int) : Option (Int × Int) := match k with
 | 0 => none
 | _ + 1 => if c.toNat ≤ 1 then some (Int.ofNat ((x.toNat + y.toNat + c.toNat) % 18446744073709551616), Int.ofNat ((x.toNat + y.toNat + c.toNat) / 18446744073709551616)) else none
theorem addT_ok {X : Nat → Option MFn} {f : Nat} (hX : X f = some extM) (k : Nat) (x y c : Int) (r : Int × Int) (H : addT k x y c = some r) :
 evF X k f [.one (.d (.int .u64 x)), .one (.d (.int .u64 y)), .one (.d (.int .u64 c))] [] = some (.tup [(false, [.d (.int .u64 r.1)]), (false, [.d (.int .u64 r.2)])], []) := by
 cases k with
 | zero => cases H
 | succ k =>
  simp only [addT] at H
  obtain ⟨h1, h2⟩ := guard_some H
  cases h2
  simp only [evF, hX, Option.bind_some]
  rw [if_pos (show extM.code.isExt = true from rfl)]
  simp only [addX]
  rw [if_pos h1]
/-- Bits. -/
def bAnd (k : IntKind) (x y : Int) : Int := k.wrap (BitVec.ofInt k.bits x &&& BitVec.ofInt k.bits y).toNat
def bOr (k : IntKind) (x y : Int) : Int := k.wrap (BitVec.ofInt k.bits x ||| BitVec.ofInt k.bits y).toNat
def bXor (k : IntKind) (x y : Int) : Int := k.wrap (BitVec.ofInt k.bits x ^^^ BitVec.ofInt k.bits y).toNat
def bAndNot (k : IntKind) (x y : Int) : Int := k.wrap (BitVec.ofInt k.bits x &&& ~~~(BitVec.ofInt k.bits y)).toNat
end

section
/-! ## A law: what the evaluator answers, the machine answers -/
open Go.RowKit
variable {P : Program}

theorem law_walk {X : Nat → Option MFn} (hP : P.follows .mixedOrders = true) (hX : Table P X) {k f : Nat} {args : List V} {us : List Value} {W0 : World} {b : Bool} (hne : ((X f).any fun m => !m.code.isExt) = true) (h : evF X k f args [] = some (B b, []))
 (hr : All2 (RepV W0.heap (fun b => b < W0.heap.size) [] (fun _ => none)) args us) : Calls P f us.toArray W0 fun e W' => e = .returned (.bool b) ∧ Below W0.heap.size W0 W' := by
 have hm : MemOK (fun _ => False) [] (fun _ => none) W0.heap := ⟨fun s sl c => by simp at c, fun s t sl tl b o o' c => by simp at c, fun b ⟨s, sl, o, c, _⟩ => by simp at c, fun b c => c.elim⟩
 have av : ∀ b, b < W0.heap.size → Avail (fun _ => False) [] (fun _ => none) W0.heap b := fun b hb => ⟨hb, fun c => c, fun ⟨s, sl, o, c, _⟩ => by simp at c⟩
 have hr' : All2 (RepV W0.heap (Avail (fun _ => False) [] (fun _ => none) W0.heap) [] (fun _ => none)) args us := hr.mono fun x u hxu => hxu.flat fun b hb => ⟨av b hb, rfl⟩
 have H := evF_ok hP hX k f args [] (B b) [] h (fun _ => False) (fun _ => none) W0 us hm hr'
 have key : ∀ u W', (∃ β', MemOK (fun _ => False) [] β' W'.heap ∧ Evo (fun _ => False) [] (fun _ => none) W0 [] β' W' ∧ RepV W'.heap (Avail (fun _ => False) [] β' W'.heap) [] β' (B b) u) → u = .bool b ∧ Below W0.heap.size W0 W' := by
  intro u W' ⟨β', _, hE, hu⟩
  have hu : RepD _ _ (.bool b) u := hu
  cases hu
  exact ⟨rfl, hE.os, hE.tape, hE.output, hE.size, fun k hk => (hE.av k (av k hk)).2⟩
 rcases H with ⟨_, h2⟩ | ⟨u, W', h1, _⟩
 · refine (callsIn_wide (n := 0)).1 ?_
   refine CallsIn.mono (F := Fence.wide) (show CallsIn Fence.wide 0 P f us.toArray W0 _ from h2) fun e W' ⟨u, e1, e2⟩ => ?_
   obtain ⟨rfl, e3⟩ := key u W' e2
   exact ⟨e1, e3⟩
 · exfalso
   cases hXf : X f with
   | none => rw [hXf] at hne; cases hne
   | some m =>
    rw [hXf] at hne
    rcases hX f m hXf with ⟨_, fn0, t⟩ | ⟨he, _⟩
    · unfold trFn at t
      obtain ⟨pf, t1, t⟩ := bind_some' t
      obtain ⟨c, t2, t⟩ := bind_some' t
      split at t
      · cases t
      · rename_i hname
        rw [run_enter t1 (by simpa using hname) t2] at h1
        cases h1
    · simp [he] at hne

/-- A list of numbers, as it was handed over. -/
theorem ints_rep {W0 : World} {k : IntKind} {a : Option Addr} {len cap : Nat} {zs : List Int}
 (h : (a = none ∧ len = 0 ∧ cap = 0 ∧ zs = []) ∨ ∃ x, a = some x ∧ len ≤ cap ∧ cap ≤ maxLen ∧ zs.length = cap ∧ (∀ i, i < zs.length → W0.cell? (x.add i) = some (.int k (zs.getD i 0))) ∧ ∀ n ∈ zs, (Lit.int k n).wf = true) :
 RepV W0.heap (fun b => b < W0.heap.size) [] (fun _ => none) (.one (.d (.list ((zs.take len).map (D.int k))))) (.slice a len cap) := by
 show RepD _ _ _ _
 by_cases h0 : len = 0
 · subst h0
   exact .empty a cap
 · rcases h with ⟨_, rfl, _, _⟩ | ⟨x, rfl, h1, h2, h3, h4, _⟩
   · exact absurd rfl h0
   · obtain ⟨b, o, sp⟩ := x
     have hlen : ((zs.take len).map (D.int k)).length = len := by simp; omega
     have c0 := h4 0 (by omega)
     have hsp : sp = none := by
      simp only [Addr.add, if_true, World.cell?] at c0
      split at c0
      · split at c0
        · cases c0
        · rename_i hs; simpa using hs
      · cases c0
     subst hsp
     have hcell : ∀ i, i < zs.length → cellAt W0.heap b (o + i) = some (.int k (zs.getD i 0)) := by
      intro i hi
      have := h4 i hi
      simp only [World.cell?] at this
      have e1 : (Addr.add ⟨b, o, none⟩ i).block = b := by unfold Addr.add; split <;> rfl
      have e2 : (Addr.add ⟨b, o, none⟩ i).off = o + i := by unfold Addr.add; split <;> simp_all
      have e3 : (Addr.add ⟨b, o, none⟩ i).spot = none := by unfold Addr.add; split <;> rfl
      rw [e1, e2, e3] at this
      unfold cellAt
      revert this
      cases W0.heap[b]? with
      | none => intro h; cases h
      | some ob => cases ob <;> simp
     have hb : b < W0.heap.size := by
      have := hcell 0 (by omega)
      unfold cellAt at this
      cases hh : W0.heap[b]? with
      | none => rw [hh] at this; cases this
      | some ob => exact (Array.getElem?_eq_some_iff.1 hh).1
     have : Value.slice (some ⟨b, o, none⟩) len cap = .slice (some ⟨b, o, none⟩) ((zs.take len).map (D.int k)).length cap := by rw [hlen]
     rw [this]
     refine .list _ b o 1 cap (fun i _ => .int k (zs.getD i 0)) hb (by omega) (fun i d hd => ?_) (fun i j hi hj => ?_) (fun i j d e hd he => ?_) (by rw [hlen]; exact h1)
     · rw [List.getElem?_map] at hd
       obtain ⟨v, _, rfl⟩ := Option.map_eq_some_iff.1 hd
       rfl
     · rw [hlen] at hi
       have hj0 : j = 0 := by omega
       subst hj0
       rw [Nat.mul_one, Nat.add_zero]
       exact hcell i (by omega)
     · rw [List.getElem?_map] at hd
       obtain ⟨v, hv, rfl⟩ := Option.map_eq_some_iff.1 hd
       have hi : i < len := by
        have := (List.getElem?_eq_some_iff.1 hv).1
        simp at this; omega
       rw [List.getElem?_take, if_pos hi] at hv
       have hj : j = 0 ∧ e = .int k v := by
        cases j with
        | zero => simp [D.cells] at he; exact ⟨rfl, he.symm⟩
        | succ j => simp [D.cells] at he
       obtain ⟨rfl, rfl⟩ := hj
       have : zs.getD i 0 = v := by rw [List.getD_eq_getElem?_getD, hv]; rfl
       rw [this]
       exact .int k v
theorem int_rep {W0 : World} {k : IntKind} {n : Int} : RepV W0.heap (fun b => b < W0.heap.size) [] (fun _ => none) (.one (.d (.int k n))) (.int k n) := RepD.int k n
/-- Every number of such a list is one of its kind. -/
theorem ints_wf {W0 : World} {k : IntKind} {a : Option Addr} {len cap : Nat} {zs : List Int}
 (h : (a = none ∧ len = 0 ∧ cap = 0 ∧ zs = []) ∨ ∃ x, a = some x ∧ len ≤ cap ∧ cap ≤ maxLen ∧ zs.length = cap ∧ (∀ i, i < zs.length → W0.cell? (x.add i) = some (.int k (zs.getD i 0))) ∧ ∀ n ∈ zs, (Lit.int k n).wf = true) :
 ∀ n ∈ zs.take len, (Lit.int k n).wf = true := by
 intro n hn
 rcases h with ⟨_, _, _, rfl⟩ | ⟨x, _, _, _, _, _, h6⟩
 · simp at hn
 · exact h6 n (List.mem_of_mem_take hn)
/-- A struct, cell by cell. -/
theorem agg_rep {h : Array Obj} {A : Nat → Prop} {m : Heap} {β : Place} {cs : List C} {us : List Value} (r : All2 (RepC h A m β) cs us) : RepV h A m β (.agg cs) (.agg us.toArray) := ⟨us.toArray, rfl, by simpa using r⟩
theorem int_repC {h : Array Obj} {A : Nat → Prop} {m : Heap} {β : Place} {k : IntKind} {n : Int} : RepC h A m β (.d (.int k n)) (.int k n) := RepD.int k n
theorem ints_repC {W0 : World} {k : IntKind} {a : Option Addr} {len cap : Nat} {zs : List Int}
 (h : (a = none ∧ len = 0 ∧ cap = 0 ∧ zs = []) ∨ ∃ x, a = some x ∧ len ≤ cap ∧ cap ≤ maxLen ∧ zs.length = cap ∧ (∀ i, i < zs.length → W0.cell? (x.add i) = some (.int k (zs.getD i 0))) ∧ ∀ n ∈ zs, (Lit.int k n).wf = true) :
 RepC W0.heap (fun b => b < W0.heap.size) [] (fun _ => none) (.d (.list ((zs.take len).map (D.int k)))) (.slice a len cap) := ints_rep h
end

end Go.Proofs.Ytdmipmhpjdmopaa
