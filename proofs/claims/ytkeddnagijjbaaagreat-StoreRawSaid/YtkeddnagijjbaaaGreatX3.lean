/- Part 3 of 3 of the theory that this claim's proof uses: functions of the program as terms of a small language, what these compute, and that the program's functions answer so.
 There are no conditions beyond those that the theorems name. -/
import Derived.Test.YtkeddnagijjbaaaGreatX2
set_option linter.unusedVariables false
set_option linter.unusedSimpArgs false
namespace Go.Proofs.YtkeddnagijjbaaaGreat
open Go
section
/-! ## To reckon with answers given ahead: what they say is handed out as conditions -/
inductive Oc where
 | b (p : Bool)
 | m
 | r (v : V) (m : Heap)
 | l (ds : List D)
 | n (n : Nat)

def AllT : List Prop → Prop
 | [] => True
 | [p] => p
 | p :: q :: r => p ∧ AllT (q :: r)
theorem AllT_append : ∀ {a b : List Prop}, AllT (a ++ b) → AllT a ∧ AllT b
 | [], b, h => ⟨trivial, h⟩
 | [p], [], h => ⟨h, trivial⟩
 | [p], q :: b, h => h
 | p :: q :: a, b, h => by
  obtain ⟨h1, h2⟩ := h
  have := AllT_append (a := q :: a) h2
  exact ⟨⟨h1, this.1⟩, this.2⟩
abbrev OR (α : Type) := Option (List Prop × α × List Oc)
def OR.pure {α : Type} (os : List Oc) (x : Option α) : OR α := x.map fun y => ([], y, os)

def doCallO (call : Call) (pure : Bool) (g : Nat) (args : List V) (m : Heap) : List Oc → OR (V × Heap)
 | .r v m1 :: os =>
  if pure then if args.all V.noSlots then match m1 with | [] => some ([call g args [] = some (v, [])], (v, m), os) | _ => none else none
  else
   let ids := reach m (4 * m.length + args.length * 8 + 8) (args.flatMap V.slots) []
   if allLt ids m.length = true then
    let ρ := C.ren fun t => some (back ids m.length t)
    some ([call g (args.map (V.mapC (C.ren fun t => find t ids 0))) (sel ids m) = some (v, m1)], (v.mapC ρ, wback ids (m1.map (Slot.mapC ρ)) m), os)
   else none
 | _ => none

/-- Where a slice begins and ends, and how far it may reach. -/
def sliceI (lo hi max : Option V) (len : Nat) : Option (Int × Int × Int) :=
 (match lo with | some l => l.int?.map Prod.snd | none => some 0).bind fun l =>
 match max with
 | some v => v.int?.bind fun m => hi.bind fun h => h.int?.bind fun h => some (l, h.2, m.2)
 | none => (match hi with | some h => h.int?.map Prod.snd | none => some (len : Int)).bind fun h => some (l, h, (len : Int))
theorem sliceI_ok {lo hi max : Option V} {len : Nat} {q : Int × Int × Int} (h : sliceI lo hi max len = some q) (hq : 0 ≤ q.1 ∧ q.1 ≤ q.2.1 ∧ q.2.1 ≤ q.2.2 ∧ q.2.2 ≤ len) : sliceB lo hi max len = some (q.1.toNat, q.2.1.toNat) := by
 unfold sliceI at h
 unfold sliceB
 have hq3 : 0 ≤ q.1 ∧ q.1 ≤ q.2.1 ∧ q.2.1 ≤ (len : Int) := ⟨hq.1, hq.2.1, by omega⟩
 cases lo with
 | none =>
  cases max with
  | none =>
   cases hi with
   | none => simp only [Option.bind_some] at h ⊢; cases h; exact if_pos hq3
   | some v =>
    cases e : v.int? with
    | none => simp [e] at h
    | some p => simp only [e, Option.map_some, Option.bind_some] at h ⊢; cases h; exact if_pos hq3
  | some m =>
   cases hi with
   | none => cases e : m.int? <;> simp [e] at h
   | some v =>
    cases e1 : m.int? with
    | none => simp [e1] at h
    | some pm =>
     cases e : v.int? with
     | none => simp [e1, e] at h
     | some p => simp only [e, e1, Option.bind_some] at h ⊢; cases h; exact if_pos hq
 | some l =>
  cases e0 : l.int? with
  | none => simp [e0] at h
  | some pl =>
   cases max with
   | none =>
    cases hi with
    | none => simp only [e0, Option.map_some, Option.bind_some] at h ⊢; cases h; exact if_pos hq3
    | some v =>
     cases e : v.int? with
     | none => simp [e0, e] at h
     | some p => simp only [e0, e, Option.map_some, Option.bind_some] at h ⊢; cases h; exact if_pos hq3
   | some m =>
    cases hi with
    | none => cases e : m.int? <;> simp [e0, e] at h
    | some v =>
     cases e1 : m.int? with
     | none => simp [e0, e1] at h
     | some pm =>
      cases e : v.int? with
      | none => simp [e0, e1, e] at h
      | some p => simp only [e0, e, e1, Option.map_some, Option.bind_some] at h ⊢; cases h; exact if_pos hq
def orO (call : Call) (σ : St) (o : MOp) (os : List Oc) : OR (V × Heap) :=
 match o with
 | .bin .quo x y => (σ.arg x).int?.bind fun a => (σ.arg y).int?.bind fun b => if a.1 = b.1 then some ([b.2 ≠ 0], (.int a.1 (a.1.wrap (a.2.tdiv b.2)), σ.mem), os) else none
 | .bin .rem x y => (σ.arg x).int?.bind fun a => (σ.arg y).int?.bind fun b => if a.1 = b.1 then some ([b.2 ≠ 0], (.int a.1 (a.2.tmod b.2), σ.mem), os) else none
 | .bin .shl x y => (σ.arg x).int?.bind fun a => (σ.arg y).int?.bind fun b => some ([0 ≤ b.2], (.int a.1 (a.1.wrap (a.2 * 2 ^ (Nat.min b.2.toNat a.1.bits))), σ.mem), os)
 | .bin .shr x y => (σ.arg x).int?.bind fun a => (σ.arg y).int?.bind fun b => some ([0 ≤ b.2], (.int a.1 (a.2.fdiv (2 ^ (Nat.min b.2.toNat a.1.bits))), σ.mem), os)
 | .iaddr z x i => (σ.arg x).c?.bind fun c => (σ.arg i).int?.bind fun i => match c with
  | .d (.list xs) => match os with
   | .l ds :: os => if ds.length = z.cells.length then some ([0 ≤ i.2 ∧ i.2 < xs.length, (xs.getD i.2.toNat z).cells = ds], (.one (.d (.ref ds)), σ.mem), os) else none
   | _ => none
  | .own s off len => match σ.mem[s]? with
   | some (.vals z' _) => if z'.cells.length = z.cells.length then some ([0 ≤ i.2 ∧ i.2 < len], (.one (.ptr s (off + i.2.toNat) 0), σ.mem), os) else none
   | _ => none
  | _ => none
 | .isn neg x => (σ.arg x).c?.bind fun c => match c with
  | .nil => some ([], (.bool (!neg), σ.mem), os)
  | .d (.list xs) => some ([0 < xs.length], (.bool neg, σ.mem), os)
  | _ => none
 | .aaddr n sz x i => (σ.arg x).c?.bind fun c => (σ.arg i).int?.bind fun i => match c with
  | .ptr s 0 0 => match σ.mem[s]? with
   | some (.vals z xs) => if z.cells.length = sz then some ([0 ≤ i.2 ∧ i.2 < n ∧ i.2 < xs.length], (.one (.ptr s i.2.toNat 0), σ.mem), os) else none
   | some (.cells _) => some ([0 ≤ i.2 ∧ i.2 < n], (.one (.ptr s 0 (i.2.toNat * sz)), σ.mem), os)
   | _ => none
  | _ => none
 | .load n g a => (σ.arg a).c?.bind fun c => match c with
  | .ptr s i j => match σ.mem[s]? with
   | some (.vals z xs) => match os with
    | .l ds :: os => if j + n ≤ ds.length then (mkV g (((ds.drop j).take n).map .d)).bind fun v => some ([(xs.getD i z).cells = ds], (v, σ.mem), os) else none
    | _ => none
   | _ => OR.pure os (evO call σ (.load n g a))
  | _ => OR.pure os (evO call σ (.load n g a))
 | .store n a x => (σ.arg a).c?.bind fun c => match c with
  | .ptr s i j => match σ.mem[s]? with
   | some (.vals _ _) => (σ.arg x).cs?.bind fun cs => if cs.length = n then (toDs σ.mem cs).bind fun y =>
    match y.2[s]? with
    | some (.vals z xs) => match os with
     | .l xs' :: os => if j + cs.length ≤ z.cells.length then some ([xs.set i (elemOf z (splice (xs.getD i z).cells j y.1)) = xs'], (.tup [], y.2.set s (.vals z xs')), os) else none
     | _ => none
    | _ => none
    else none
   | _ => OR.pure os (evO call σ (.store n a x))
  | _ => OR.pure os (evO call σ (.store n a x))
 | .slice z x lo hi mx => (σ.arg x).c?.bind fun c => match c with
  | .d (.list xs) => (sliceI (lo.map σ.arg) (hi.map σ.arg) (mx.map σ.arg) xs.length).bind fun q => match os with
   | .l xs' :: os => some ([xs.all (fun d => d.cells.length == z) = true, 0 ≤ q.1 ∧ q.1 ≤ q.2.1 ∧ q.2.1 ≤ q.2.2 ∧ q.2.2 ≤ xs.length, (xs.drop q.1.toNat).take (q.2.1.toNat - q.1.toNat) = xs'], (.one (.d (.list xs')), σ.mem), os)
   | _ => none
  | .own s off len => match σ.mem[s]? with
   | some (.vals z' _) => if z'.cells.length = z then (sliceI (lo.map σ.arg) (hi.map σ.arg) (mx.map σ.arg) len).bind fun q =>
    some ([0 ≤ q.1 ∧ q.1 ≤ q.2.1 ∧ q.2.1 ≤ q.2.2 ∧ q.2.2 ≤ len], (.one (.own s (off + q.1.toNat) (q.2.1.toNat - q.1.toNat)), σ.mem), os) else none
   | _ => none
  | _ => OR.pure os (evO call σ (.slice z x lo hi mx))
 | .mkslice z l c => (σ.arg l).int?.bind fun l => (σ.arg c).int?.bind fun c => match os with
  | .l xs :: os => some ([0 ≤ l.2 ∧ l.2 ≤ c.2 ∧ c.2 ≤ LIM, List.replicate l.2.toNat z = xs], (.one (.own σ.mem.length 0 l.2.toNat), σ.mem ++ [.vals z xs]), os)
  | _ => none
 | .append z x y => (σ.arg x).c?.bind fun a => (σ.arg y).c?.bind fun b => (elems σ.mem b).bind fun ys => match a with
  | .nil => match os with
   | .n n :: .l xs' :: os => some ([ys.all (fun d => d.cells.length == z.cells.length) = true, n ≤ LIM, ys.length = n, ys = xs'], (.one (.own σ.mem.length 0 n), σ.mem ++ [.vals z xs']), os)
   | _ => none
  | .own s off len => match σ.mem[s]? with
   | some (.vals z' xs) => match os with
    | .n n :: .l xs' :: os => if z'.cells.length = z.cells.length then
     some ([ys.all (fun d => d.cells.length == z.cells.length) = true, len + n ≤ LIM, ys.length = n, (xs.drop off).take len ++ ys = xs'], (.one (.own σ.mem.length 0 (len + n)), σ.mem.set s .dead ++ [.vals z' xs']), os) else none
    | _ => none
   | _ => none
  | _ => none
 | .len false x => (σ.arg x).c?.bind fun c => match c with
  | .d (.list xs) => match os with
   | .n n :: os => some ([xs.length = n], (.int .i64 n, σ.mem), os)
   | _ => none
  | _ => OR.pure os (evO call σ (.len false x))
 | .call pure g args => doCallO call pure g (args.map σ.arg) σ.mem os
 | .callv x args => match σ.arg x with
  | .one (.fn (.func g) caps) => doCallO call false g (args.map σ.arg ++ caps.map fun c => .one c.c) σ.mem os
  | .one (.d (.fn (.func g) caps)) => doCallO call false g (args.map σ.arg ++ caps.map fun c => .one (.d c)) σ.mem os
  | _ => none
 | o => OR.pure os (evO call σ o)

def andOr (want p q e : Bool) : Bool :=
 match want, e with
 | true, false => p && q
 | false, true => p || q
 | _, _ => if p = want then q else e
theorem andOr_eq (want p q e : Bool) : andOr want p q e = if p = want then q else e := by cases want <;> cases p <;> cases q <;> cases e <;> rfl

mutual
def orI (call : Call) : MI → St → List Oc → OR St
 | .op dst o, σ, os => (orO call σ o os).bind fun x => some (x.1, St.put ⟨σ.env, x.2.1.2⟩ dst x.2.1.1, x.2.2)
 | .sc t want body dst e r, σ, os => (σ.env.get t).bool?.bind fun p => match os with
  | .b q :: os => if q = want then (orIs call body σ os).bind fun x => some ((p = q) :: x.1, ⟨σ.env.put dst (x.2.1.arg r), x.2.1.mem⟩, x.2.2) else some ([p = q], ⟨σ.env.put dst (σ.arg e), σ.mem⟩, os)
  | .m :: os => (orIs call body σ os).bind fun x => (x.2.1.arg r).bool?.bind fun q => (σ.arg e).bool?.bind fun e =>
   some ((match x.1 with | [] => [x.2.1.mem = σ.mem] | l => [p = want → AllT l, x.2.1.mem = σ.mem]), ⟨σ.env.put dst (.bool (andOr want p q e)), σ.mem⟩, x.2.2)
  | _ => none
def orIs (call : Call) : List MI → St → List Oc → OR St
 | [], σ, os => some ([], σ, os)
 | i :: is, σ, os => (orI call i σ os).bind fun x => (orIs call is x.2.1 x.2.2).bind fun y => some (x.1 ++ y.1, y.2)
end

theorem OR.pure_ok {α : Type} {os : List Oc} {x : Option α} {y : List Prop × α × List Oc} (h : OR.pure os x = some y) : x = some y.2.1 := by
 unfold OR.pure at h
 cases x with
 | none => cases h
 | some z => cases h; rfl
theorem doCallO_ok {call : Call} {pure : Bool} {g : Nat} {args : List V} {m : Heap} {os : List Oc} {x : List Prop × (V × Heap) × List Oc} (h : doCallO call pure g args m os = some x) (hP : AllT x.1) : doCall call pure g args m = some x.2.1 := by
 unfold doCallO at h
 split at h
 · rename_i v m1 os'
   unfold doCall
   split at h
   · rename_i hp
     rw [if_pos hp]
     split at h
     · rename_i ha
       rw [if_pos ha]
       split at h
       · cases h
         have hP : call g args [] = some (v, []) := hP
         rw [hP]; rfl
       · cases h
     · cases h
   · rename_i hp
     rw [if_neg hp]
     simp only [] at h ⊢
     split at h
     · rename_i ha
       rw [if_pos ha]
       cases h
       have hP : call _ _ _ = some (v, m1) := hP
       rw [hP]; rfl
     · cases h
 · cases h

theorem orO_ok {call : Call} {σ : St} {o : MOp} {os : List Oc} {x : List Prop × (V × Heap) × List Oc} (h : orO call σ o os = some x) (hP : AllT x.1) : evO call σ o = some x.2.1 := by
 unfold orO at h
 split at h
 · -- quo
   obtain ⟨a, ha, h⟩ := bind_some' h
   obtain ⟨b, hb, h⟩ := bind_some' h
   split at h
   · rename_i hk
     cases h
     have hP : b.2 ≠ 0 := hP
     obtain ⟨ka, na⟩ := a; obtain ⟨kb, nb⟩ := b
     simp only [] at hk
     subst hk
     simp only [evO, ha, hb, Option.bind_some, binI, if_true, if_neg hP]
   · cases h
 · obtain ⟨a, ha, h⟩ := bind_some' h
   obtain ⟨b, hb, h⟩ := bind_some' h
   split at h
   · rename_i hk
     cases h
     have hP : b.2 ≠ 0 := hP
     obtain ⟨ka, na⟩ := a; obtain ⟨kb, nb⟩ := b
     simp only [] at hk
     subst hk
     simp only [evO, ha, hb, Option.bind_some, binI, if_true, if_neg hP]
   · cases h
 · -- shl
   obtain ⟨a, ha, h⟩ := bind_some' h
   obtain ⟨b, hb, h⟩ := bind_some' h
   cases h
   have hP : 0 ≤ b.2 := hP
   simp only [evO, ha, hb, Option.bind_some, binI, if_neg (show ¬ b.2 < 0 by omega)]
 · -- shr
   obtain ⟨a, ha, h⟩ := bind_some' h
   obtain ⟨b, hb, h⟩ := bind_some' h
   cases h
   have hP : 0 ≤ b.2 := hP
   simp only [evO, ha, hb, Option.bind_some, binI, if_neg (show ¬ b.2 < 0 by omega)]
 · -- iaddr
   obtain ⟨c, hc, h⟩ := bind_some' h
   obtain ⟨i, hi, h⟩ := bind_some' h
   simp only [evO, hc, hi, Option.bind_some]
   split at h
   · split at h
     · split at h
       · rename_i hl
         cases h
         obtain ⟨h1, h2⟩ := hP
         have h2 : (_ : List D) = _ := h2
         simp only [if_pos h1, h2, if_pos hl]
       · cases h
     · cases h
   · split at h
     · rename_i hs
       simp only [hs]
       split at h
       · rename_i hl
         cases h
         have hP : _ ∧ _ := hP
         simp only [if_pos hl, if_pos hP]
       · cases h
     · cases h
   · cases h
 · -- isn
   obtain ⟨c, hc, h⟩ := bind_some' h
   simp only [evO, hc, Option.bind_some]
   split at h
   · cases h; rfl
   · cases h
     have hP : _ < _ := hP
     simp only [if_pos hP]
   · cases h
 · -- aaddr
   obtain ⟨c, hc, h⟩ := bind_some' h
   obtain ⟨i, hi, h⟩ := bind_some' h
   simp only [evO, hc, hi, Option.bind_some]
   split at h
   · split at h
     · rename_i hs
       simp only [hs]
       split at h
       · rename_i hl
         cases h
         have hP : _ ∧ _ := hP
         simp only [if_pos hl, if_pos hP]
       · cases h
     · rename_i hs
       simp only [hs]
       cases h
       have hP : _ ∧ _ := hP
       simp only [if_pos hP]
     · cases h
   · cases h
 · -- load
   obtain ⟨c, hc, h⟩ := bind_some' h
   split at h
   · split at h
     · rename_i hs
       split at h
       · split at h
         · rename_i hl
           obtain ⟨v, hv, h⟩ := bind_some' h
           cases h
           have hP : (_ : List D) = _ := hP
           simp only [evO, hc, Option.bind_some, ldC, hs, hP, if_pos hl, hv]
         · cases h
       · cases h
     · exact OR.pure_ok h
   · exact OR.pure_ok h
 · -- store
   obtain ⟨c, hc, h⟩ := bind_some' h
   split at h
   · split at h
     · rename_i hs
       obtain ⟨cs, hcs, h⟩ := bind_some' h
       split at h
       · rename_i hn
         obtain ⟨y, hy, h⟩ := bind_some' h
         split at h
         · rename_i hs2
           split at h
           · split at h
             · rename_i hl
               cases h
               have hP : (_ : List D) = _ := hP
               simp only [evO, hc, hcs, Option.bind_some, if_pos hn, stC, hs, hy, hs2, if_pos hl, hP]
             · cases h
           · cases h
         · cases h
       · cases h
     · exact OR.pure_ok h
   · exact OR.pure_ok h
 · -- slice
   obtain ⟨c, hc, h⟩ := bind_some' h
   split at h
   · obtain ⟨q, hq, h⟩ := bind_some' h
     split at h
     · cases h
       obtain ⟨h1, h2, h3⟩ := hP
       have h3 : (_ : List D) = _ := h3
       simp only [evO, hc, Option.bind_some, if_pos h1, sliceI_ok hq h2, h3]
     · cases h
   · split at h
     · rename_i hs
       split at h
       · rename_i hz
         obtain ⟨q, hq, h⟩ := bind_some' h
         cases h
         have hP : _ ∧ _ := hP
         simp only [evO, hc, Option.bind_some, hs, if_pos hz, sliceI_ok hq hP]
       · cases h
     · cases h
   · exact OR.pure_ok h
 · -- mkslice
   obtain ⟨l, hl, h⟩ := bind_some' h
   obtain ⟨c, hc, h⟩ := bind_some' h
   split at h
   · cases h
     obtain ⟨h1, h2⟩ := hP
     have h2 : (_ : List D) = _ := h2
     simp only [evO, hl, hc, Option.bind_some, if_pos h1, h2]
   · cases h
 · -- append
   obtain ⟨a, ha, h⟩ := bind_some' h
   obtain ⟨b, hb, h⟩ := bind_some' h
   obtain ⟨ys, hys, h⟩ := bind_some' h
   split at h
   · split at h
     · cases h
       obtain ⟨h1, h2, hn, h3⟩ := hP
       have h3 : (_ : List D) = _ := h3
       subst hn
       subst h3
       simp only [evO, ha, hb, hys, Option.bind_some, if_pos h1, if_pos h2]
     · cases h
   · split at h
     · rename_i hs
       split at h
       · split at h
         · rename_i hz
           cases h
           obtain ⟨h1, h2, hn, h3⟩ := hP
           have h3 : (_ : List D) = _ := h3
           subst hn
           simp only [evO, ha, hb, hys, Option.bind_some, if_pos h1, hs, h3]
           rw [if_pos ⟨hz, h2⟩]
         · cases h
       · cases h
     · cases h
   · cases h
 · -- len
   obtain ⟨c, hc, h⟩ := bind_some' h
   split at h
   · split at h
     · cases h
       have hP : _ = _ := hP
       simp only [evO, Bool.false_eq_true, if_false, hc, Option.bind_some, hP]
     · cases h
   · exact OR.pure_ok h
 · simp only [evO]; exact doCallO_ok h hP
 · split at h
   · rename_i hx
     simp only [evO, hx]
     exact doCallO_ok h hP
   · rename_i hx
     simp only [evO, hx]
     exact doCallO_ok h hP
   · cases h
 · exact OR.pure_ok h
mutual
theorem orI_ok {call : Call} : ∀ (i : MI) {σ : St} {os : List Oc} {x : List Prop × St × List Oc}, orI call i σ os = some x → AllT x.1 → evI call i σ = some x.2.1
 | .op dst o, σ, os, x, h, hP => by
  simp only [orI] at h
  obtain ⟨y, h1, h2⟩ := bind_some' h
  cases h2
  simp only [evI, orO_ok h1 hP, Option.bind_some]
 | .sc t want body dst e r, σ, os, x, h, hP => by
  simp only [orI] at h
  obtain ⟨p, hp, h2⟩ := bind_some' h
  clear h
  simp only [evI, hp, Option.bind_some]
  split at h2
  · split at h2
    · rename_i hq
      obtain ⟨y, h3, h4⟩ := bind_some' h2
      cases h4
      have g := AllT_append (a := [p = _]) hP
      have g1 : p = _ := g.1
      rw [if_pos (g1.trans hq), orIs_ok body h3 g.2]
      rfl
    · rename_i hq
      cases h2
      have hP : p = _ := hP
      rw [if_neg (fun c => hq (hP.symm.trans c))]
      rfl
  · obtain ⟨y, h3, h4⟩ := bind_some' h2
    obtain ⟨q, h5, h6⟩ := bind_some' h4
    obtain ⟨e', h7, h8⟩ := bind_some' h6
    cases h8
    have gg : (p = want → AllT y.1) ∧ y.2.1.mem = σ.mem := by
     simp only [] at hP
     split at hP
     · rename_i h0; exact ⟨fun _ => by rw [h0]; trivial, hP⟩
     · exact hP
    obtain ⟨g1, g2⟩ := gg
    have hb : ∀ {v : V} {b : Bool}, v.bool? = some b → v = .bool b := by
     intro v b hv
     unfold V.bool? at hv
     split at hv <;> cases hv
     rfl
    simp only [andOr_eq]
    by_cases c : p = want
    · rw [if_pos c, orIs_ok body h3 (g1 c)]
      simp only [Option.bind_some, if_pos c]
      rw [hb h5, g2]
    · rw [if_neg c]
      simp only [Option.bind_some, if_neg c]
      rw [hb h7]
  · cases h2
theorem orIs_ok {call : Call} : ∀ (is : List MI) {σ : St} {os : List Oc} {x : List Prop × St × List Oc}, orIs call is σ os = some x → AllT x.1 → evIs call is σ = some x.2.1
 | [], σ, os, x, h, hP => by simp only [orIs] at h; cases h; rfl
 | i :: is, σ, os, x, h, hP => by
  simp only [orIs] at h
  obtain ⟨y, h1, h2⟩ := bind_some' h
  obtain ⟨z, h3, h4⟩ := bind_some' h2
  cases h4
  obtain ⟨g1, g2⟩ := AllT_append hP
  simp only [evIs, orI_ok i h1 g1, Option.bind_some]
  exact orIs_ok is h3 g2
end

def orR (call : Call) (b : Nat) (is : List MI) (gh : List Ghost) (σ : St) (os : List Oc) : OR St := (orIs call is σ os).bind fun x => (evGs b gh x.2.1).map fun σ' => (x.1, σ', x.2.2)
theorem orR_ok {X : Nat → Option MFn} {call : Call} {k b : Nat} {is : List MI} {gh : List Ghost} {σ σ' : St} {os os' : List Oc} {Ps : List Prop} (h : orR call b is gh σ os = some (Ps, σ', os')) (hP : AllT Ps) : evC X call k b (.reg is gh) σ = some (.normal, σ') := by
 unfold orR at h
 obtain ⟨x, h1, h2⟩ := bind_some' h
 obtain ⟨σ1, h3, h4⟩ := Option.map_eq_some_iff.1 h2
 cases h4
 simp only [evC, orIs_ok is h1 hP, Option.bind_some, h3]

def orFI (call : Call) (i : FI) (σ : St) (os : List Oc) : OR St :=
 match i.g with
 | none => (orO call σ i.o os).bind fun x => some (x.1, St.put ⟨σ.env, x.2.1.2⟩ i.dst x.2.1.1, x.2.2)
 | some (t, want) => match σ.env.get t with
  | .one (.d (.bool p)) => match os with
   | .b q :: os => if q = want then (orO call σ i.o os).bind fun x => some ((p = q) :: x.1, St.put ⟨σ.env, x.2.1.2⟩ i.dst x.2.1.1, x.2.2) else some ([p = q], St.put ⟨σ.env, σ.mem⟩ i.dst (.tup []), os)
   | _ => none
  | .tup [] => some ([], St.put ⟨σ.env, σ.mem⟩ i.dst (.tup []), os)
  | _ => none
theorem orFI_ok {call : Call} {i : FI} {σ : St} {os : List Oc} {x : List Prop × St × List Oc} (h : orFI call i σ os = some x) (hP : AllT x.1) : evFI call i σ = some x.2.1 := by
 unfold orFI at h
 unfold evFI act
 split at h
 · rename_i hg
   obtain ⟨y, h1, h2⟩ := bind_some' h
   cases h2
   rw [hg]
   simp only [orO_ok h1 hP, Option.bind_some]
 · rename_i t want hg
   rw [hg]
   simp only []
   split at h
   · rename_i p hp
     rw [hp]
     simp only []
     split at h
     · split at h
       · rename_i hq
         obtain ⟨y, h1, h2⟩ := bind_some' h
         cases h2
         obtain ⟨g1, g2⟩ := AllT_append (a := [p = _]) hP
         have g1 : p = _ := g1
         rw [if_pos (g1.trans hq), orO_ok h1 g2]
         rfl
       · rename_i hq
         cases h
         have hP : p = _ := hP
         rw [if_neg (fun c => hq (hP.symm.trans c))]
         rfl
     · cases h
   · rename_i hp
     cases h
     rw [hp]
     rfl
   · cases h
/-- The others' states beside the first one's. -/
def orAll (f : Nat → List Oc → OR St) (s : St) : List Nat → List Oc → OR St
 | [], os => some ([], s, os)
 | j :: r, os => (f j os).bind fun x => (orAll f s r x.2.2).bind fun y => some (x.1 ++ (x.2.1 = s) :: y.1, s, y.2.2)
def orD (call : Call) (b : Nat) (is : List FI) (pre : List (List Nat)) (gh : List Ghost) : Nat → List Nat → St → List Oc → OR St
 | 0, _, _, _ => none
 | n + 1, done, σ, os => match rdy pre done with
  | [] => (evGs b gh σ).bind fun σ' => some ([], σ', os)
  | i :: r => match (i :: r).find? (fstOk is pre done σ) with
   | some j => (orFI call (is.getD j default) σ os).bind fun x => (orD call b is pre gh n (j :: done) x.2.1 x.2.2).bind fun y => some (x.1 ++ y.1, y.2)
   | none =>
    let f := fun j os => (orFI call (is.getD j default) σ os).bind fun x => (orD call b is pre gh n (j :: done) x.2.1 x.2.2).bind fun y => some (x.1 ++ y.1, y.2)
    (f i os).bind fun x => (orAll f x.2.1 r x.2.2).bind fun y => some (x.1 ++ y.1, y.2)
theorem orAll_ok {f : Nat → List Oc → OR St} {g : Nat → Option St} {s : St} (hf : ∀ j os x, f j os = some x → AllT x.1 → g j = some x.2.1) : ∀ {r : List Nat} {os : List Oc} {y : List Prop × St × List Oc}, orAll f s r os = some y → AllT y.1 → y.2.1 = s ∧ ∀ j ∈ r, g j = some s
 | [], os, y, h, _ => by simp only [orAll] at h; cases h; exact ⟨rfl, fun j hj => by cases hj⟩
 | j :: r, os, y, h, hP => by
  simp only [orAll] at h
  obtain ⟨x, h1, h2⟩ := bind_some' h
  obtain ⟨z, h3, h4⟩ := bind_some' h2
  cases h4
  obtain ⟨g1, g2⟩ := AllT_append hP
  obtain ⟨g3, g4⟩ := AllT_append (a := [x.2.1 = s]) g2
  have g3 : x.2.1 = s := g3
  refine ⟨rfl, fun i hi => ?_⟩
  rcases List.mem_cons.1 hi with hi | hi
  · subst hi; rw [hf _ _ _ h1 g1, g3]
  · exact (orAll_ok hf h3 g4).2 i hi
theorem sameAll_of {s : St} : ∀ {l : List (Option St)}, l ≠ [] → (∀ x ∈ l, x = some s) → sameAll l = some s
 | [], h, _ => absurd rfl h
 | [x], _, h => by simp only [sameAll]; exact h x (by simp)
 | x :: y :: r, _, h => by
  simp only [sameAll]
  rw [sameAll_of (s := s) (by simp) (fun z hz => h z (by simp only [List.mem_cons] at hz ⊢; exact .inr hz))]
  simp only [Option.bind_some]
  rw [if_pos (h x (by simp))]
theorem orD_ok {call : Call} {b : Nat} {is : List FI} {pre : List (List Nat)} {gh : List Ghost} : ∀ (n : Nat) (done : List Nat) (σ : St) (os : List Oc) (x : List Prop × St × List Oc), orD call b is pre gh n done σ os = some x → AllT x.1 → evD call b is pre gh n done σ = some x.2.1 := by
 intro n
 induction n with
 | zero => intro done σ os x h; simp only [orD] at h; cases h
 | succ n ih =>
  intro done σ os x h hP
  simp only [orD] at h
  simp only [evD]
  have step : ∀ j os x, ((orFI call (is.getD j default) σ os).bind fun x => (orD call b is pre gh n (j :: done) x.2.1 x.2.2).bind fun y => some (x.1 ++ y.1, y.2)) = some x → AllT x.1 → ((evFI call (is.getD j default) σ).bind (evD call b is pre gh n (j :: done))) = some x.2.1 := by
   intro j os x h hP
   obtain ⟨y, h1, h2⟩ := bind_some' h
   obtain ⟨z, h3, h4⟩ := bind_some' h2
   cases h4
   obtain ⟨g1, g2⟩ := AllT_append hP
   rw [orFI_ok h1 g1]
   have := ih _ _ _ z h3 g2
   exact this
  split at h
  · rename_i hr
    simp only [hr]
    obtain ⟨σ', h1, h2⟩ := bind_some' h
    cases h2
    exact h1
  · rename_i i r hr
    simp only [hr]
    split at h
    · rename_i j hj
      simp only [hj]
      exact step j os x h hP
    · rename_i hj
      simp only [hj]
      obtain ⟨y, h1, h2⟩ := bind_some' h
      obtain ⟨z, h3, h4⟩ := bind_some' h2
      cases h4
      obtain ⟨g1, g2⟩ := AllT_append hP
      obtain ⟨k1, k2⟩ := orAll_ok (g := fun j => (evFI call (is.getD j default) σ).bind (evD call b is pre gh n (j :: done))) step h3 g2
      rw [k1]
      refine sameAll_of (by simp) fun x hx => ?_
      obtain ⟨j, hj, rfl⟩ := List.mem_map.1 hx
      rcases List.mem_cons.1 hj with hj | hj
      · subst hj; exact step _ _ _ h1 g1
      · exact k2 j hj
theorem orD_reg {X : Nat → Option MFn} {call : Call} {k b : Nat} {is : List FI} {pre : List (List Nat)} {gh : List Ghost} {σ σ' : St} {os os' : List Oc} {Ps : List Prop} (h : orD call b is pre gh (is.length + 1) [] σ os = some (Ps, σ', os')) (hP : AllT Ps) : evC X call k b (.regD is pre gh) σ = some (.normal, σ') := by
 simp only [evC, orD_ok _ _ _ _ _ h hP, Option.bind_some]

/-! ### A stack of what is still to be done -/
inductive Fr where
 | c (x : MCode)
 | blk (id : Nat)
noncomputable def evK (X : Nat → Option MFn) (call : Call) (k b : Nat) : List Fr → Ex × St → Option (Ex × St)
 | [], x => some x
 | .c y :: fs, x => match x.1 with
  | .normal => (evC X call k b y x.2).bind (evK X call k b fs)
  | _ => evK X call k b fs x
 | .blk id :: fs, x => match x.1 with
  | .exit i => if i = id then evK X call k b fs (.normal, x.2) else evK X call k b fs x
  | _ => evK X call k b fs x
def unw (i : Nat) : List Fr → Option (List Fr)
 | [] => none
 | .c _ :: fs => unw i fs
 | .blk id :: fs => if i = id then some fs else unw i fs
/-- What is asked of an outcome. -/
def Post (q : Option (Ex × St) → Prop) (o : Option (Ex × St)) : Prop := q o
section
variable {X : Nat → Option MFn} {call : Call} {k b : Nat} {fs : List Fr} {σ σ' : St} {q : Option (Ex × St) → Prop}
theorem K_eq {o o' : Option (Ex × St)} (e : o = o') (h : Post q o') : Post q o := e ▸ h
theorem K_in {c : MCode} {r : Option (Ex × St)} (h : Post (· = r) (evK X call k b [.c c] (.normal, σ))) : evC X call k b c σ = r := by
 have h : evK X call k b [.c c] (.normal, σ) = r := h
 simp only [evK] at h
 rw [← h]
 cases evC X call k b c σ <;> rfl
theorem K_seq {x y : MCode} (h : Post q (evK X call k b (.c x :: .c y :: fs) (.normal, σ))) : Post q (evK X call k b (.c (.seq x y) :: fs) (.normal, σ)) := by
 refine K_eq ?_ h
 simp only [evK, evC]
 cases e : evC X call k b x σ with
 | none => rfl
 | some z =>
  obtain ⟨ex, τ⟩ := z
  cases ex <;> rfl
theorem K_skip (h : Post q (evK X call k b fs (.normal, σ))) : Post q (evK X call k b (.c .skip :: fs) (.normal, σ)) := h
theorem K_of {c : MCode} (σ' : St) (e : evC X call k b c σ = some (.normal, σ')) (h : Post q (evK X call k b fs (.normal, σ'))) : Post q (evK X call k b (.c c :: fs) (.normal, σ)) := by
 refine K_eq ?_ h
 simp only [evK, e, Option.bind_some]
theorem K_reg {is : List MI} {gh : List Ghost} (os : List Oc) (Ps : List Prop) (σ' : St) (e : orR call b is gh σ os = some (Ps, σ', [])) (hP : AllT Ps) (h : Post q (evK X call k b fs (.normal, σ'))) :
 Post q (evK X call k b (.c (.reg is gh) :: fs) (.normal, σ)) := K_of σ' (orR_ok e hP) h
theorem K_regD {is : List FI} {pre : List (List Nat)} {gh : List Ghost} (os : List Oc) (Ps : List Prop) (σ' : St) (e : orD call b is pre gh (is.length + 1) [] σ os = some (Ps, σ', [])) (hP : AllT Ps) (h : Post q (evK X call k b fs (.normal, σ'))) :
 Post q (evK X call k b (.c (.regD is pre gh) :: fs) (.normal, σ)) := K_of σ' (orD_reg e hP) h
/-- What a region leaves, without a word about it. -/
def stR : OR St → St
 | some x => x.2.1
 | none => ⟨[], []⟩
theorem K_r {is : List MI} {gh : List Ghost} (os : List Oc) (Ps : List Prop) (e : (orR call b is gh σ os).map (fun x => (x.1, x.2.2)) = some (Ps, [])) (hP : AllT Ps) (h : Post q (evK X call k b fs (.normal, stR (orR call b is gh σ os)))) :
 Post q (evK X call k b (.c (.reg is gh) :: fs) (.normal, σ)) := by
 cases e1 : orR call b is gh σ os with
 | none => rw [e1] at e; cases e
 | some x =>
  rw [e1] at e h
  obtain ⟨a, τ, r⟩ := x
  cases e
  exact K_reg os _ τ e1 hP h
theorem K_rD {is : List FI} {pre : List (List Nat)} {gh : List Ghost} (os : List Oc) (Ps : List Prop) (e : (orD call b is pre gh (is.length + 1) [] σ os).map (fun x => (x.1, x.2.2)) = some (Ps, [])) (hP : AllT Ps) (h : Post q (evK X call k b fs (.normal, stR (orD call b is pre gh (is.length + 1) [] σ os)))) :
 Post q (evK X call k b (.c (.regD is pre gh) :: fs) (.normal, σ)) := by
 cases e1 : orD call b is pre gh (is.length + 1) [] σ os with
 | none => rw [e1] at e; cases e
 | some x =>
  rw [e1] at e h
  obtain ⟨a, τ, r⟩ := x
  cases e
  exact K_regD os _ τ e1 hP h
theorem K_gh {gs : List Ghost} {c : MCode} (σ' : St) (e : evGs b gs σ = some σ') (h : Post q (evK X call k b (.c c :: fs) (.normal, σ'))) : Post q (evK X call k b (.c (.gh gs c) :: fs) (.normal, σ)) := by
 refine K_eq ?_ h
 simp only [evK, evC, e, Option.bind_some]
theorem K_g {gs : List Ghost} {c : MCode} (e : (evGs b gs σ).isSome = true) (h : Post q (evK X call k b (.c c :: fs) (.normal, (evGs b gs σ).getD ⟨[], []⟩))) : Post q (evK X call k b (.c (.gh gs c) :: fs) (.normal, σ)) := by
 cases e1 : evGs b gs σ with
 | none => rw [e1] at e; cases e
 | some τ => rw [e1] at h; exact K_gh τ e1 h
theorem K_conv (e : σ = σ') (h : Post q (evK X call k b fs (.normal, σ'))) : Post q (evK X call k b fs (.normal, σ)) := by rw [e]; exact h
theorem K_t {t : Nat} {x y : MCode} {p : Bool} (e : σ.env.get t = .one (.d (.bool p))) (hp : p = true) (h : Post q (evK X call k b (.c x :: fs) (.normal, σ))) : Post q (evK X call k b (.c (.cond t x y) :: fs) (.normal, σ)) := by
 subst hp
 refine K_eq ?_ h
 simp only [evK, evC, e, V.bool?, Option.bind_some, if_true]
theorem K_f {t : Nat} {x y : MCode} {p : Bool} (e : σ.env.get t = .one (.d (.bool p))) (hp : p = false) (h : Post q (evK X call k b (.c y :: fs) (.normal, σ))) : Post q (evK X call k b (.c (.cond t x y) :: fs) (.normal, σ)) := by
 subst hp
 refine K_eq ?_ h
 simp only [evK, evC, e, V.bool?, Option.bind_some, Bool.false_eq_true, if_false]
theorem K_block {id : Nat} {x : MCode} (h : Post q (evK X call k b (.c x :: .blk id :: fs) (.normal, σ))) : Post q (evK X call k b (.c (.block id x) :: fs) (.normal, σ)) := by
 refine K_eq ?_ h
 simp only [evK, evC]
 cases e : evC X call k b x σ with
 | none => rfl
 | some z =>
  obtain ⟨ex, τ⟩ := z
  cases ex with
  | normal => rfl
  | ret => rfl
  | exit i =>
   simp only [Option.bind_some]
   by_cases c : i = id
   · simp only [if_pos c, Option.bind_some]
   · simp only [if_neg c, Option.bind_some]
theorem K_scope {x : MCode} (h : Post q (evK X call k b (.c x :: fs) (.normal, σ))) : Post q (evK X call k b (.c (.scope x) :: fs) (.normal, σ)) := h
theorem K_blk {id : Nat} (h : Post q (evK X call k b fs (.normal, σ))) : Post q (evK X call k b (.blk id :: fs) (.normal, σ)) := h
theorem evK_exit {i : Nat} : ∀ (fs : List Fr), evK X call k b fs (.exit i, σ) = match unw i fs with | some gs => evK X call k b gs (.normal, σ) | none => some (.exit i, σ)
 | [] => rfl
 | .c _ :: fs => by simp only [evK, unw]; exact evK_exit fs
 | .blk id :: fs => by
  simp only [evK, unw]
  by_cases c : i = id
  · rw [if_pos c, if_pos c]
  · rw [if_neg c, if_neg c]; exact evK_exit fs
theorem evK_ret : ∀ (fs : List Fr), evK X call k b fs (.ret, σ) = some (.ret, σ)
 | [] => rfl
 | .c _ :: fs => evK_ret fs
 | .blk _ :: fs => evK_ret fs
theorem K_exit {i : Nat} {gs : List Fr} (e : unw i fs = some gs) (h : Post q (evK X call k b gs (.normal, σ))) : Post q (evK X call k b (.c (.exit i) :: fs) (.normal, σ)) := by
 refine K_eq ?_ h
 show evK X call k b fs (.exit i, σ) = _
 rw [evK_exit, e]
theorem K_exit0 {i : Nat} (e : unw i fs = none) (h : q (some (.exit i, σ))) : Post q (evK X call k b (.c (.exit i) :: fs) (.normal, σ)) := by
 refine K_eq ?_ h
 show evK X call k b fs (.exit i, σ) = _
 rw [evK_exit, e]
theorem K_ret (h : q (some (.ret, σ))) : Post q (evK X call k b (.c .ret :: fs) (.normal, σ)) := K_eq (evK_ret fs) h
theorem K_end (h : q (some (.normal, σ))) : Post q (evK X call k b [] (.normal, σ)) := h
theorem K_loop {x : MCode} {i : Nat} {gs : List Fr} (σ' : St) (e : iter (evC X call k b x) k σ = some (.exit i, σ')) (u : unw i fs = some gs) (h : Post q (evK X call k b gs (.normal, σ'))) : Post q (evK X call k b (.c (.loop x) :: fs) (.normal, σ)) := by
 refine K_eq ?_ h
 simp only [evK, evC, e, Option.bind_some]
 rw [evK_exit, u]
theorem K_loop0 {x : MCode} {i : Nat} (σ' : St) (e : iter (evC X call k b x) k σ = some (.exit i, σ')) (u : unw i fs = none) (h : q (some (.exit i, σ'))) : Post q (evK X call k b (.c (.loop x) :: fs) (.normal, σ)) := by
 refine K_eq ?_ h
 simp only [evK, evC, e, Option.bind_some]
 rw [evK_exit, u]
theorem K_loopr {x : MCode} (σ' : St) (e : iter (evC X call k b x) k σ = some (.ret, σ')) (h : q (some (.ret, σ'))) : Post q (evK X call k b (.c (.loop x) :: fs) (.normal, σ)) := by
 refine K_eq ?_ h
 simp only [evK, evC, e, Option.bind_some]
 exact evK_ret fs
end
theorem F_in {X : Nat → Option MFn} {k f : Nat} {args : List V} {m : Heap} {fn : MFn} {y : V × Heap} (h : X f = some fn) (hn : args.length = fn.np)
 (e : Post (fun o => o.bind (finish fn m.length) = some y) (evK X (evF X k) k m.length [.c fn.code] (.normal, ⟨startEnv 0 args, m⟩))) (he : fn.code.isExt = false := by rfl) : evF X (k + 1) f args m = some y := by
 rw [evF_eq h hn he]
 have e : (evK X (evF X k) k m.length [.c fn.code] (.normal, ⟨startEnv 0 args, m⟩)).bind (finish fn m.length) = some y := e
 rw [← e]
 simp only [evK]
 cases evC X (evF X k) k m.length fn.code ⟨startEnv 0 args, m⟩ <;> rfl
end

section
/-! ## Told functions: typed, with rounds that are counted -/
/-- An element: there is one at a place that is within. -/
def at? {α : Type} (xs : List α) (i : Int) : Option α := if 0 ≤ i then xs[i.toNat]? else none
theorem at_ok {α : Type} {xs : List α} {i : Int} {v : α} (h : at? xs i = some v) (e : α → D) (z : D) : (0 ≤ i ∧ i < (xs.map e).length) ∧ ((xs.map e).getD i.toNat z).cells = (e v).cells := by
 unfold at? at h
 split at h
 · rename_i hi
   have hlt := (List.getElem?_eq_some_iff.1 h).1
   refine ⟨⟨hi, ?_⟩, ?_⟩
   · rw [List.length_map]; omega
   · rw [List.getD_eq_getElem?_getD, List.getElem?_map, h]; rfl
 · cases h
theorem ld_ok {α : Type} {xs : List α} {n : Nat} {v : α} (h : xs[n]? = some v) (e : α → D) (z : D) : ((xs.map e).getD n z).cells = (e v).cells := by
 rw [List.getD_eq_getElem?_getD, List.getElem?_map, h]; rfl
/-- A whole element stored. -/
theorem st_one {α : Type} (xs : List α) (n : Nat) (v : α) (e : α → D) (z : D) (hz : elemOf z [e v] = e v) (h1 : ∀ x, (e x).cells = [e x]) (hz1 : z.cells = [z]) :
 (xs.map e).set n (elemOf z (splice ((xs.map e).getD n z).cells 0 [e v])) = (xs.set n v).map e := by
 have : splice ((xs.map e).getD n z).cells 0 [e v] = [e v] := by
  have hl : ((xs.map e).getD n z).cells.length = 1 := by
   rw [List.getD_eq_getElem?_getD, List.getElem?_map]
   cases xs[n]? with
   | none => simp [hz1]
   | some x => simp [h1]
  unfold splice
  rw [List.drop_eq_nil_of_le (by rw [hl]; simp)]
  simp
 rw [this, hz, List.map_set]
theorem st_int (xs : List Int) (n : Nat) (v : Int) (k : IntKind) : (xs.map (D.int k)).set n (elemOf (.int k 0) (splice ((xs.map (D.int k)).getD n (.int k 0)).cells 0 [D.int k v])) = (xs.set n v).map (D.int k) :=
 st_one xs n v (D.int k) (.int k 0) rfl (fun _ => rfl) rfl
theorem dt_map {α β : Type} (f : α → β) (xs : List α) (i n : Nat) : ((xs.map f).drop i).take n = ((xs.drop i).take n).map f := by rw [List.map_take, List.map_drop]
theorem ap_map {α β : Type} (f : α → β) (xs : List α) (ys : List α) (i n : Nat) : ((xs.map f).drop i).take n ++ ys.map f = ((xs.drop i).take n ++ ys).map f := by rw [List.map_append, dt_map]
theorem rep_map {α β : Type} (f : α → β) (n : Nat) (z : α) : List.replicate n (f z) = (List.replicate n z).map f := by rw [List.map_replicate]

/-- A loop: another round with what is handed on, or the end with what it comes to. -/
def loopT {S R : Type} (f : S → Option (S ⊕ R)) : Nat → S → Option R
 | 0, _ => none
 | n + 1, s => (f s).bind fun x => match x with
  | .inl s' => loopT f n s'
  | .inr r => some r
theorem loopT_ok {S R : Type} {f : S → Option (S ⊕ R)} {F : St → Option (Ex × St)} {enc : S → St} {out : R → Ex × St} (hne : ∀ r, (out r).1 ≠ .normal)
 (H : ∀ s x, f s = some x → F (enc s) = some (match x with | .inl s' => (.normal, enc s') | .inr r => out r)) : ∀ n s r, loopT f n s = some r → iter F n (enc s) = some (out r)
 | 0, s, r, h => by simp only [loopT] at h; cases h
 | n + 1, s, r, h => by
  simp only [loopT] at h
  obtain ⟨x, h1, h2⟩ := bind_some' h
  have e := H s x h1
  simp only [iter, e, Option.bind_some]
  cases x with
  | inl s' => exact loopT_ok hne H n s' r h2
  | inr q =>
   cases h2
   have := hne r
   show (match (out r).1 with | .normal => iter F n (out r).2 | e => some (e, (out r).2)) = some (out r)
   revert this
   generalize out r = o
   obtain ⟨ex, τ⟩ := o
   intro hne
   cases ex with
   | normal => exact absurd rfl hne
   | exit i => rfl
   | ret => rfl
theorem ite_some {α : Type} {c : Prop} [Decidable c] {a b : Option α} {r : α} (h : (if c then a else b) = some r) : (c ∧ a = some r) ∨ (¬ c ∧ b = some r) := by
 by_cases hc : c
 · rw [if_pos hc] at h; exact .inl ⟨hc, h⟩
 · rw [if_neg hc] at h; exact .inr ⟨hc, h⟩
theorem guard_some {α : Type} {c : Prop} [Decidable c] {a : Option α} {r : α} (h : (if c then a else none) = some r) : c ∧ a = some r := by
 by_cases hc : c
 · rw [if_pos hc] at h; exact ⟨hc, h⟩
 · rw [if_neg hc] at h; cases h
abbrev w64 (x : Int) : Int := IntKind.wrap .i64 x
abbrev imin (a b : Int) : Int := if b < a then b else a
abbrev imax (a b : Int) : Int := if a < b then b else a
abbrev el {α : Type} (e : α → D) (xs : List α) : D := .list (xs.map e)
theorem A1 {p : Prop} (h : p) : AllT [p] := h
theorem AC {p q : Prop} {r : List Prop} (h : p) (k : AllT (q :: r)) : AllT (p :: q :: r) := ⟨h, k⟩
theorem all_ok {α : Type} (e : α → D) (n : Nat) (xs : List α) (h : ∀ x, (e x).cells.length = n) : ((xs.map e).all fun d => d.cells.length == n) = true := by
 rw [List.all_eq_true]
 intro d hd
 obtain ⟨x, _, rfl⟩ := List.mem_map.1 hd
 simp [h]
theorem sl_len {α : Type} {xs : List α} {e : α → D} {a b c : Int} (h : 0 ≤ a ∧ a ≤ b ∧ b ≤ c ∧ c ≤ xs.length) : 0 ≤ a ∧ a ≤ b ∧ b ≤ c ∧ c ≤ (xs.map e).length := by
 rw [List.length_map]; exact h
/-- A whole element of several cells stored. -/
theorem st_agg {α : Type} (xs : List α) (n : Nat) (v : α) (e : α → D) (zs : List D) (m : Nat) (hc : ∀ x, ∃ cs, e x = .agg cs ∧ cs.length = m) (hz : zs.length = m) :
 (xs.map e).set n (elemOf (.agg zs) (splice ((xs.map e).getD n (.agg zs)).cells 0 (e v).cells)) = (xs.set n v).map e := by
 obtain ⟨cs, h1, h2⟩ := hc v
 have hl : ((xs.map e).getD n (.agg zs)).cells.length = m := by
  rw [List.getD_eq_getElem?_getD, List.getElem?_map]
  cases xs[n]? with
  | none => exact hz
  | some x => obtain ⟨ds, g1, g2⟩ := hc x; show (e x).cells.length = m; rw [g1]; exact g2
 have : splice ((xs.map e).getD n (.agg zs)).cells 0 (e v).cells = cs := by
  rw [h1]
  unfold splice
  rw [List.drop_eq_nil_of_le (by rw [hl]; show m ≤ 0 + cs.length; omega)]
  simp [D.cells]
 rw [this, List.map_set, h1]
 rfl
/-- What a round comes to. -/
def outS {S R : Type} (enc : S → St) (out : R → Ex × St) : S ⊕ R → Ex × St
 | .inl s => (.normal, enc s)
 | .inr r => out r
theorem loop_ok {S R : Type} {f : S → Option (S ⊕ R)} {F : St → Option (Ex × St)} (enc : S → St) (out : R → Ex × St) (hne : ∀ r, (out r).1 ≠ .normal)
 (H : ∀ s x, f s = some x → F (enc s) = some (outS enc out x)) : ∀ n s r, loopT f n s = some r → iter F n (enc s) = some (out r) :=
 loopT_ok hne fun s x h => by rw [H s x h]; cases x <;> rfl
end

section
/-! ## Ranges over the pieces of a window -/
/-- The code of a function that gives the pieces of a window: the numbers 0 to n-1, and for each where its piece begins and ends. -/
def allL1 : MCode := .seq (.reg [.op (some 7) (.bin .lss (.t 6) (.t 5))] [.keep [0, 1, 2, 5, 6, 7], .gc]) (.seq (.cond 7 (.gh [.keep [0, 1, 2, 5, 6], .gc] (.skip)) (.gh [.keep [], .gc] (.exit 0))) (.seq (.block 1 (.seq (.reg [.op (some 8) (.mov (.t 6)), .op (some 4) (.mov (.t 8))] [.keep [0, 1, 2, 4, 5, 6], .gc]) (.seq (.yld [⟨none, some 9, .mov (.t 0)⟩, ⟨none, some 10, .mov (.t 4)⟩, ⟨none, some 11, .mov (.t 4)⟩, ⟨none, some 12, .load 1 false (.t 2)⟩, ⟨none, some 13, .bin .mul (.t 11) (.t 12)⟩, ⟨none, some 14, .load 1 false (.t 1)⟩, ⟨none, some 15, .bin .quo (.t 13) (.t 14)⟩, ⟨none, some 16, .mov (.t 4)⟩, ⟨none, some 17, .bin .add (.t 16) (.k (.one (.d (.int .i64 1))))⟩, ⟨none, some 18, .load 1 false (.t 2)⟩, ⟨none, some 19, .bin .mul (.t 17) (.t 18)⟩, ⟨none, some 20, .load 1 false (.t 1)⟩, ⟨none, some 21, .bin .quo (.t 19) (.t 20)⟩, ⟨none, some 22, .build [.d (.int .i64 0), .d (.int .i64 0)] [(0, 1, (.t 15)), (1, 1, (.t 21))]⟩, ⟨none, some 23, .callv (.t 9) [(.t 10), (.t 22)]⟩, ⟨none, some 24, .not (.t 23)⟩] [[], [], [], [], [2, 3], [], [4, 5], [], [7], [], [8, 9], [], [10, 11], [6, 12], [0, 1, 13], [14]] 14 [.keep [0, 1, 2, 5, 6, 24], .gc]) (.cond 24 (.gh [.keep [], .gc] (.ret)) (.gh [.keep [0, 1, 2, 5, 6], .gc] (.skip)))))) (.reg [.op (some 25) (.bin .add (.t 6) (.k (.one (.d (.int .i64 1))))), .op (some 6) (.mov (.t 25))] [.keep [0, 1, 2, 5, 6], .gc])))
def allM : MFn := ⟨26, 3, [], [], .seq (.reg [.op (some 5) (.load 1 false (.t 1)), .op (some 6) (.mov (.k (.one (.d (.int .i64 0)))))] [.keep [0, 1, 2, 5, 6], .gc]) (.block 0 (.loop allL1))⟩

/-- The rounds over the pieces of a window of m samples in n pieces. -/
def allT {S R : Type} (f : Int → Int → Int → S → Option (S ⊕ R)) (m n : Int) : Nat → Int → S → Option (S ⊕ R)
 | 0, _, _ => none
 | k + 1, p, s => if p < n then (if n ≠ 0 then (f p (w64 ((w64 (p * m)).tdiv n)) (w64 ((w64 (w64 (p + 1) * m)).tdiv n)) s).bind fun x => match x with
  | .inl s' => allT f m n k (w64 (p + 1)) s'
  | .inr r => some (.inr r)
  else none) else some (.inl s)

def allE (l : Nat) (n m p : Int) : St := ⟨[(0, .one (.d (.fn (.yield l) []))), (1, .one (.d (.ref [.int .i64 n]))), (2, .one (.d (.ref [.int .i64 m]))), (5, I n), (6, I p)], []⟩
section
variable {T : Type} {call : Call} {k l : Nat} {rd : List V → T → Option (Bool × T)} {σ τ : St × T}
theorem gen_seq {x y : MCode} (h : evGen call k l rd x σ = some (.normal, τ)) : evGen call k l rd (.seq x y) σ = evGen call k l rd y τ := by simp only [evGen, h, Option.bind_some]
theorem gen_seqr {x y : MCode} (h : evGen call k l rd x σ = some (.ret, τ)) : evGen call k l rd (.seq x y) σ = some (.ret, τ) := by simp only [evGen, h, Option.bind_some]
theorem gen_blk {x : MCode} {i : Nat} {e : Ex} (h : evGen call k l rd x σ = some (e, τ)) (he : ∀ j, e ≠ .exit j) : evGen call k l rd (.block i x) σ = some (e, τ) := by
 simp only [evGen, h, Option.bind_some]
end
theorem all_round {T : Type} {call : Call} {k l : Nat} {rd : List V → T → Option (Bool × T)} {m n p : Int} {s s' : T} {b : Bool} (h0 : p < n) (hn : n ≠ 0)
 (h : rd [I p, .agg [.d (.int .i64 (w64 ((w64 (p * m)).tdiv n))), .d (.int .i64 (w64 ((w64 (w64 (p + 1) * m)).tdiv n)))]] s = some (b, s')) :
 evGen call k l rd allL1 (allE l n m p, s) = some (if b then (.normal, (allE l n m (w64 (p + 1)), s')) else (.ret, (⟨[], []⟩, s'))) := by
 have h1 : evFs call [⟨none, some 9, .mov (.t 0)⟩, ⟨none, some 10, .mov (.t 4)⟩, ⟨none, some 11, .mov (.t 4)⟩, ⟨none, some 12, .load 1 false (.t 2)⟩, ⟨none, some 13, .bin .mul (.t 11) (.t 12)⟩, ⟨none, some 14, .load 1 false (.t 1)⟩, ⟨none, some 15, .bin .quo (.t 13) (.t 14)⟩, ⟨none, some 16, .mov (.t 4)⟩, ⟨none, some 17, .bin .add (.t 16) (.k (.one (.d (.int .i64 1))))⟩, ⟨none, some 18, .load 1 false (.t 2)⟩, ⟨none, some 19, .bin .mul (.t 17) (.t 18)⟩, ⟨none, some 20, .load 1 false (.t 1)⟩, ⟨none, some 21, .bin .quo (.t 19) (.t 20)⟩, ⟨none, some 22, .build [.d (.int .i64 0), .d (.int .i64 0)] [(0, 1, (.t 15)), (1, 1, (.t 21))]⟩]
  ⟨[(0, .one (.d (.fn (.yield l) []))), (1, .one (.d (.ref [.int .i64 n]))), (2, .one (.d (.ref [.int .i64 m]))), (4, I p), (5, I n), (6, I p)], []⟩ =
  some ⟨[(0, .one (.d (.fn (.yield l) []))), (1, .one (.d (.ref [.int .i64 n]))), (2, .one (.d (.ref [.int .i64 m]))), (4, I p), (5, I n), (6, I p), (9, .one (.d (.fn (.yield l) []))), (10, I p), (11, I p), (12, I m), (13, I (w64 (p * m))), (14, I n),
   (15, I (w64 ((w64 (p * m)).tdiv n))), (16, I p), (17, I (w64 (p + 1))), (18, I m), (19, I (w64 (w64 (p + 1) * m))), (20, I n), (21, I (w64 ((w64 (w64 (p + 1) * m)).tdiv n))),
   (22, .agg [.d (.int .i64 (w64 ((w64 (p * m)).tdiv n))), .d (.int .i64 (w64 ((w64 (w64 (p + 1) * m)).tdiv n)))])], []⟩ := by
  simp [evFs, evFI, act, evO, ldC, bldParts, splice, hn]
 have hlt : decide (p < n) = true := by simpa using h0
 have g1 : evGen call k l rd (.reg [.op (some 7) (.bin .lss (.t 6) (.t 5))] [.keep [0, 1, 2, 5, 6, 7], .gc]) (allE l n m p, s) = some (.normal, (⟨[(0, .one (.d (.fn (.yield l) []))), (1, .one (.d (.ref [.int .i64 n]))), (2, .one (.d (.ref [.int .i64 m]))), (5, I n), (6, I p), (7, B (decide (p < n)))], []⟩, s)) := by rfl
 have g2 : evGen call k l rd (.reg [.op (some 8) (.mov (.t 6)), .op (some 4) (.mov (.t 8))] [.keep [0, 1, 2, 4, 5, 6], .gc]) (allE l n m p, s) = some (.normal, (⟨[(0, .one (.d (.fn (.yield l) []))), (1, .one (.d (.ref [.int .i64 n]))), (2, .one (.d (.ref [.int .i64 m]))), (4, I p), (5, I n), (6, I p)], []⟩, s)) := by rfl
 have g3 : evGen call k l rd (.yld [⟨none, some 9, .mov (.t 0)⟩, ⟨none, some 10, .mov (.t 4)⟩, ⟨none, some 11, .mov (.t 4)⟩, ⟨none, some 12, .load 1 false (.t 2)⟩, ⟨none, some 13, .bin .mul (.t 11) (.t 12)⟩, ⟨none, some 14, .load 1 false (.t 1)⟩, ⟨none, some 15, .bin .quo (.t 13) (.t 14)⟩, ⟨none, some 16, .mov (.t 4)⟩, ⟨none, some 17, .bin .add (.t 16) (.k (.one (.d (.int .i64 1))))⟩, ⟨none, some 18, .load 1 false (.t 2)⟩, ⟨none, some 19, .bin .mul (.t 17) (.t 18)⟩, ⟨none, some 20, .load 1 false (.t 1)⟩, ⟨none, some 21, .bin .quo (.t 19) (.t 20)⟩, ⟨none, some 22, .build [.d (.int .i64 0), .d (.int .i64 0)] [(0, 1, (.t 15)), (1, 1, (.t 21))]⟩, ⟨none, some 23, .callv (.t 9) [(.t 10), (.t 22)]⟩, ⟨none, some 24, .not (.t 23)⟩] [[], [], [], [], [2, 3], [], [4, 5], [], [7], [], [8, 9], [], [10, 11], [6, 12], [0, 1, 13], [14]] 14 [.keep [0, 1, 2, 5, 6, 24], .gc])
  (⟨[(0, .one (.d (.fn (.yield l) []))), (1, .one (.d (.ref [.int .i64 n]))), (2, .one (.d (.ref [.int .i64 m]))), (4, I p), (5, I n), (6, I p)], []⟩, s) = some (.normal, (⟨[(0, .one (.d (.fn (.yield l) []))), (1, .one (.d (.ref [.int .i64 n]))), (2, .one (.d (.ref [.int .i64 m]))), (5, I n), (6, I p), (24, B (!b))], []⟩, s')) := by
  simp only [evGen, List.take]
  rw [h1]
  simp only [Option.bind_some]
  show (if l = l then (rd [I p, .agg [.d (.int .i64 (w64 ((w64 (p * m)).tdiv n))), .d (.int .i64 (w64 ((w64 (w64 (p + 1) * m)).tdiv n)))]] s).bind _ else none) = _
  rw [if_pos rfl, h]
  rfl
 have c1 : ∀ p, evGen call k l rd (.cond 7 (.gh [.keep [0, 1, 2, 5, 6], .gc] (.skip)) (.gh [.keep [], .gc] (.exit 0))) (⟨[(0, .one (.d (.fn (.yield l) []))), (1, .one (.d (.ref [.int .i64 n]))), (2, .one (.d (.ref [.int .i64 m]))), (5, I n), (6, I p), (7, B true)], []⟩, s) = some (.normal, (allE l n m p, s)) := fun p => rfl
 unfold allL1
 rw [gen_seq g1, hlt, gen_seq (c1 p)]
 cases b with
 | true =>
  have g4 : evGen call k l rd (.cond 24 (.gh [.keep [], .gc] (.ret)) (.gh [.keep [0, 1, 2, 5, 6], .gc] (.skip))) (⟨[(0, .one (.d (.fn (.yield l) []))), (1, .one (.d (.ref [.int .i64 n]))), (2, .one (.d (.ref [.int .i64 m]))), (5, I n), (6, I p), (24, B (!true))], []⟩, s') = some (.normal, (allE l n m p, s')) := by rfl
  rw [gen_seq (gen_blk (by rw [gen_seq g2, gen_seq g3]; exact g4) (by intro j h; cases h))]
  rfl
 | false =>
  have g4 : evGen call k l rd (.cond 24 (.gh [.keep [], .gc] (.ret)) (.gh [.keep [0, 1, 2, 5, 6], .gc] (.skip))) (⟨[(0, .one (.d (.fn (.yield l) []))), (1, .one (.d (.ref [.int .i64 n]))), (2, .one (.d (.ref [.int .i64 m]))), (5, I n), (6, I p), (24, B (!false))], []⟩, s') = some (.ret, (⟨[], []⟩, s')) := by rfl
  rw [gen_seqr (gen_blk (by rw [gen_seq g2, gen_seq g3]; exact g4) (by intro j h; cases h))]
  rfl
theorem all_end {T : Type} {call : Call} {k l : Nat} {rd : List V → T → Option (Bool × T)} {m n p : Int} {s : T} (h0 : ¬ p < n) :
 evGen call k l rd allL1 (allE l n m p, s) = some (.exit 0, (⟨[], []⟩, s)) := by
 have hlt : decide (p < n) = false := by simpa using h0
 have g1 : evGen call k l rd (.reg [.op (some 7) (.bin .lss (.t 6) (.t 5))] [.keep [0, 1, 2, 5, 6, 7], .gc]) (allE l n m p, s) = some (.normal, (⟨[(0, .one (.d (.fn (.yield l) []))), (1, .one (.d (.ref [.int .i64 n]))), (2, .one (.d (.ref [.int .i64 m]))), (5, I n), (6, I p), (7, B (decide (p < n)))], []⟩, s)) := by rfl
 unfold allL1
 rw [gen_seq g1, hlt]
 rfl
theorem all_iter {T S R : Type} {call : Call} {k l : Nat} {rd : List V → T → Option (Bool × T)} {f : Int → Int → Int → S → Option (S ⊕ R)} {enc : S → T} {out : R → T} {m n : Int}
 (H : ∀ p a b s x, f p a b s = some x → rd [I p, .agg [.d (.int .i64 a), .d (.int .i64 b)]] (enc s) = some (Sum.elim (fun s' => (true, enc s')) (fun r => (false, out r)) x)) :
 ∀ (j : Nat) (p : Int) (s : S) (x : S ⊕ R), allT f m n j p s = some x → ∃ z, iter (evGen call k l rd allL1) j (allE l n m p, enc s) = some z ∧ (z.1 = .exit 0 ∨ z.1 = .ret) ∧ z.2.2 = Sum.elim enc out x
 | 0, p, s, x, h => by simp only [allT] at h; cases h
 | j + 1, p, s, x, h => by
  simp only [allT] at h
  rcases ite_some h with ⟨h1, h⟩ | ⟨h1, h⟩
  · obtain ⟨hn, h⟩ := guard_some h
    obtain ⟨y, h2, h3⟩ := bind_some' h
    have e := all_round (call := call) (k := k) (l := l) (rd := rd) (m := m) h1 hn (H _ _ _ _ _ h2)
    cases y with
    | inl s' =>
     simp only [iter, e, if_true, Option.bind_some]
     exact all_iter H j _ _ x h3
    | inr r =>
     cases h3
     simp only [iter, e, Bool.false_eq_true, if_false, Option.bind_some]
     exact ⟨_, rfl, .inr rfl, rfl⟩
  · cases h
    simp only [iter, all_end h1, Option.bind_some]
    exact ⟨_, rfl, .inl rfl, rfl⟩
theorem gall_ok {T S R : Type} {call : Call} {k l : Nat} {rd : List V → T → Option (Bool × T)} {f : Int → Int → Int → S → Option (S ⊕ R)} {enc : S → T} {out : R → T} {m n : Int}
 (H : ∀ p a b s x, f p a b s = some x → rd [I p, .agg [.d (.int .i64 a), .d (.int .i64 b)]] (enc s) = some (Sum.elim (fun s' => (true, enc s')) (fun r => (false, out r)) x))
 {s : S} {x : S ⊕ R} (h : allT f m n k 0 s = some x) :
 ∃ z, evGen call k l rd allM.code (⟨startEnv 0 [.one (.d (.fn (.yield l) [])), .one (.d (.ref [.int .i64 n])), .one (.d (.ref [.int .i64 m]))], []⟩, enc s) = some z ∧ (∀ j, z.1 ≠ .exit j) ∧ z.2.2 = Sum.elim enc out x := by
 obtain ⟨z, h1, h2, h3⟩ := all_iter (call := call) (k := k) (l := l) H k 0 s x h
 have g1 : evGen call k l rd (.reg [.op (some 5) (.load 1 false (.t 1)), .op (some 6) (.mov (.k (.one (.d (.int .i64 0)))))] [.keep [0, 1, 2, 5, 6], .gc]) (⟨startEnv 0 [.one (.d (.fn (.yield l) [])), .one (.d (.ref [.int .i64 n])), .one (.d (.ref [.int .i64 m]))], []⟩, enc s) = some (.normal, (allE l n m 0, enc s)) := by rfl
 unfold allM
 rw [gen_seq g1]
 obtain ⟨ex, z2⟩ := z
 have e2 : evGen call k l rd (.block 0 (.loop allL1)) (allE l n m 0, enc s) = some (if ex = .exit 0 then (.normal, z2) else (ex, z2)) := by
  simp only [evGen, h1, Option.bind_some]
  rcases h2 with rfl | rfl <;> rfl
 refine ⟨_, e2, ?_, ?_⟩
 · rcases h2 with rfl | rfl <;> (intro j hj; cases hj)
 · rcases h2 with rfl | rfl <;> exact h3

/-- The statement: what the rounds come to. -/
theorem range_ok {X : Nat → Option MFn} {call : Call} {k b : Nat} {x : Arg} {ps : List Nat} {as body : MCode} {gh : List Ghost} {g : Nat} {m n : Int} {S R : Type} {f : Int → Int → Int → S → Option (S ⊕ R)} (enc : S → St) (out : R → Ex × St) {s : S} {y : S ⊕ R}
 (hx : (enc s).arg x = .one (.d (.fn (.func g) [.ref [.int .i64 n], .ref [.int .i64 m]]))) (hX : X g = some allM)
 (H : ∀ p a c s z, f p a c s = some z → roundM (fun b' => evC X call k b' as) (fun b' => evC X call k b' body) b ps gh [I p, .agg [.d (.int .i64 a), .d (.int .i64 c)]] (.normal, enc s) = some (Sum.elim (fun s' => (true, (.normal, enc s'))) (fun r => (false, out r)) z))
 (h : allT f m n k 0 s = some y) : evC X call k b (.rangef x ps as body gh) (enc s) = some (outS enc out y) := by
 simp only [evC]
 rw [hx]
 simp only [hX, Option.bind_some]
 rw [if_pos (by exact ⟨rfl, rfl⟩)]
 refine allL_some fun l => ?_
 obtain ⟨z, h1, h2, h3⟩ := gall_ok (T := Ex × St) (enc := fun s => (.normal, enc s)) (out := out) (call := call) (l := l) H h
 have h1' : evGen call k l (roundM (fun b' => evC X call k b' as) (fun b' => evC X call k b' body) b ps gh) allM.code (⟨startEnv 0 (.one (.d (.fn (.yield l) [])) :: [D.ref [.int .i64 n], .ref [.int .i64 m]].map fun c => .one (.d c)), []⟩, (.normal, enc s)) = some z := h1
 rw [h1']
 obtain ⟨ex, z2⟩ := z
 simp only [Option.bind_some]
 cases ex with
 | exit j => exact absurd rfl (h2 j)
 | normal => simp only [] at h3 ⊢; rw [h3]; cases y <;> rfl
 | ret => simp only [] at h3 ⊢; rw [h3]; cases y <;> rfl
theorem R_in {fa fb : Nat → St → Option (Ex × St)} {b : Nat} {ps : List Nat} {gh : List Ghost} {args : List V} {σ : St} {y : Bool × (Ex × St)} (hl : args.length = ps.length)
 (h : (fa σ.mem.length ⟨putAll ps args σ.env, σ.mem⟩).bind (fun r1 => match r1.1 with
  | .normal => (fb r1.2.mem.length r1.2).bind fun r2 => (evGs b gh ⟨σ.env, r2.2.mem⟩).bind fun σ3 => some (decide (r2.1 = .normal), (r2.1, σ3))
  | _ => none) = some y) : roundM fa fb b ps gh args (.normal, σ) = some y := by
 unfold roundM
 simp only []
 rw [if_pos hl]
 exact h
/-- A round: the assignment's walk, then the body's. -/
theorem R_as {X : Nat → Option MFn} {call : Call} {k b : Nat} {ps : List Nat} {gh : List Ghost} {args : List V} {σ : St} {y : Bool × (Ex × St)} {as body : MCode} (hl : args.length = ps.length)
 (h : Post (fun o => o.bind (fun r1 => match r1.1 with
  | .normal => (evC X call k r1.2.mem.length body r1.2).bind fun r2 => (evGs b gh ⟨σ.env, r2.2.mem⟩).bind fun σ3 => some (decide (r2.1 = .normal), (r2.1, σ3))
  | _ => none) = some y) (evK X call k σ.mem.length [.c as] (.normal, ⟨putAll ps args σ.env, σ.mem⟩))) :
 roundM (fun b' => evC X call k b' as) (fun b' => evC X call k b' body) b ps gh args (.normal, σ) = some y := by
 refine R_in hl ?_
 have h : (evK X call k σ.mem.length [.c as] (.normal, ⟨putAll ps args σ.env, σ.mem⟩)).bind _ = some y := h
 simp only [evK] at h
 rw [← h]
 cases evC X call k σ.mem.length as ⟨putAll ps args σ.env, σ.mem⟩ <;> rfl
theorem R_body {X : Nat → Option MFn} {call : Call} {k b : Nat} {e : Env} {gh : List Ghost} {σ1 : St} {y : Bool × (Ex × St)} {body : MCode}
 (h : Post (fun o => o.bind (fun r2 => (evGs b gh ⟨e, r2.2.mem⟩).bind fun σ3 => some (decide (r2.1 = .normal), (r2.1, σ3))) = some y) (evK X call k σ1.mem.length [.c body] (.normal, σ1))) :
 (some (Ex.normal, σ1)).bind (fun r1 => match r1.1 with
  | .normal => (evC X call k r1.2.mem.length body r1.2).bind fun r2 => (evGs b gh ⟨e, r2.2.mem⟩).bind fun σ3 => some (decide (r2.1 = .normal), (r2.1, σ3))
  | _ => none) = some y := by
 have h : (evK X call k σ1.mem.length [.c body] (.normal, σ1)).bind _ = some y := h
 simp only [evK] at h
 rw [← h]
 show (evC X call k σ1.mem.length body σ1).bind _ = _
 cases evC X call k σ1.mem.length body σ1 <;> rfl
theorem R_end {b : Nat} {e : Env} {gh : List Ghost} {ex : Ex} {σ2 : St} {y : Bool × (Ex × St)} (σ3 : St) (h : evGs b gh ⟨e, σ2.mem⟩ = some σ3) (hy : (decide (ex = .normal), (ex, σ3)) = y) :
 (some (ex, σ2)).bind (fun r2 => (evGs b gh ⟨e, r2.2.mem⟩).bind fun σ3 => some (decide (r2.1 = .normal), (r2.1, σ3))) = some y := by
 simp only [Option.bind_some, h, hy]
section
variable {X : Nat → Option MFn} {call : Call} {k b : Nat} {fs : List Fr} {σ : St} {q : Option (Ex × St) → Prop}
theorem K_xr {c : MCode} (σ' : St) (e : evC X call k b c σ = some (.ret, σ')) (h : q (some (.ret, σ'))) : Post q (evK X call k b (.c c :: fs) (.normal, σ)) := by
 refine K_eq ?_ h
 simp only [evK, e, Option.bind_some]
 exact evK_ret fs
theorem K_x {c : MCode} {i : Nat} {gs : List Fr} (σ' : St) (e : evC X call k b c σ = some (.exit i, σ')) (u : unw i fs = some gs) (h : Post q (evK X call k b gs (.normal, σ'))) : Post q (evK X call k b (.c c :: fs) (.normal, σ)) := by
 refine K_eq ?_ h
 simp only [evK, e, Option.bind_some]
 rw [evK_exit, u]
theorem K_x0 {c : MCode} {i : Nat} (σ' : St) (e : evC X call k b c σ = some (.exit i, σ')) (u : unw i fs = none) (h : q (some (.exit i, σ'))) : Post q (evK X call k b (.c c :: fs) (.normal, σ)) := by
 refine K_eq ?_ h
 simp only [evK, e, Option.bind_some]
 rw [evK_exit, u]
end
/-- The sum of two words and a carry. -/
def addT (k : Nat) (x y c : Int) : Option (Int × Int) := match k with
 | 0 => none
 | _ + 1 => if c.toNat ≤ 1 then some (Int.ofNat ((x.toNat + y.toNat + c.toNat) % 18446744073709551616), Int.ofNat ((x.toNat + y.toNat + c.toNat) / 18446744073709551616)) else none
theorem addT_ok {X : Nat → Option MFn} {f : Nat} (hX : X f = some extM) (k : Nat) (x y c : Int) (r : Int × Int) (H : addT k x y c = some r) :
 evF X k f [.one (.d (.int .u64 x)), .one (.d (.int .u64 y)), .one (.d (.int .u64 c))] [] = some (.tup [(false, [.d (.int .u64 r.1)]), (false, [.d (.int .u64 r.2)])], []) := by
 cases k with
 | zero => cases H
 | succ k =>
  simp only [addT] at H
  obtain ⟨h1, h2⟩ := guard_some H
  cases h2
  simp only [evF, hX, Option.bind_some]
  rw [if_pos (show extM.code.isExt = true from rfl)]
  simp only [addX]
  rw [if_pos h1]
/-- Bits. -/
def bAnd (k : IntKind) (x y : Int) : Int := k.wrap (BitVec.ofInt k.bits x &&& BitVec.ofInt k.bits y).toNat
def bOr (k : IntKind) (x y : Int) : Int := k.wrap (BitVec.ofInt k.bits x ||| BitVec.ofInt k.bits y).toNat
def bXor (k : IntKind) (x y : Int) : Int := k.wrap (BitVec.ofInt k.bits x ^^^ BitVec.ofInt k.bits y).toNat
def bAndNot (k : IntKind) (x y : Int) : Int := k.wrap (BitVec.ofInt k.bits x &&& ~~~(BitVec.ofInt k.bits y)).toNat
end

section
/-! ## A law: what the evaluator answers, the machine answers -/
open Go.RowKit
variable {P : Program}

theorem law_walk {X : Nat → Option MFn} (hP : P.follows .mixedOrders = true) (hX : Table P X) {k f : Nat} {args : List V} {us : List Value} {W0 : World} {b : Bool} (hne : ((X f).any fun m => !m.code.isExt) = true) (h : evF X k f args [] = some (B b, []))
 (hr : All2 (RepV W0.heap (fun b => b < W0.heap.size) [] (fun _ => none)) args us) : Calls P f us.toArray W0 fun e W' => e = .returned (.bool b) ∧ Below W0.heap.size W0 W' := by
 have hm : MemOK (fun _ => False) [] (fun _ => none) W0.heap := ⟨fun s sl c => by simp at c, fun s t sl tl b o o' c => by simp [live] at c, fun b ⟨s, sl, o, c, _⟩ => by simp [live] at c, fun b c => c.elim⟩
 have av : ∀ b, b < W0.heap.size → Avail (fun _ => False) [] (fun _ => none) W0.heap b := fun b hb => ⟨hb, fun c => c, fun ⟨s, sl, o, c, _⟩ => by simp [live] at c⟩
 have hr' : All2 (RepV W0.heap (Avail (fun _ => False) [] (fun _ => none) W0.heap) [] (fun _ => none)) args us := hr.mono fun x u hxu => hxu.flat fun b hb => ⟨av b hb, rfl⟩
 have H := evF_ok hP hX k f args [] (B b) [] h (fun _ => False) (fun _ => none) W0 us hm hr'
 have key : ∀ u W', (∃ β', MemOK (fun _ => False) [] β' W'.heap ∧ Evo (fun _ => False) [] (fun _ => none) W0 [] β' W' ∧ RepV W'.heap (Avail (fun _ => False) [] β' W'.heap) [] β' (B b) u) → u = .bool b ∧ Below W0.heap.size W0 W' := by
  intro u W' ⟨β', _, hE, hu⟩
  have hu : RepD _ _ (.bool b) u := hu
  cases hu
  exact ⟨rfl, hE.os, hE.tape, hE.output, hE.size, fun k hk => (hE.av k (av k hk)).2⟩
 rcases H with ⟨_, h2⟩ | ⟨u, W', h1, _⟩
 · refine (callsIn_wide (n := 0)).1 ?_
   refine CallsIn.mono (F := Fence.wide) (show CallsIn Fence.wide 0 P f us.toArray W0 _ from h2) fun e W' ⟨u, e1, e2⟩ => ?_
   obtain ⟨rfl, e3⟩ := key u W' e2
   exact ⟨e1, e3⟩
 · exfalso
   cases hXf : X f with
   | none => rw [hXf] at hne; cases hne
   | some m =>
    rw [hXf] at hne
    rcases hX f m hXf with ⟨_, fn0, t⟩ | ⟨he, _⟩
    · unfold trFn at t
      obtain ⟨pf, t1, t⟩ := bind_some' t
      obtain ⟨c, t2, t⟩ := bind_some' t
      split at t
      · cases t
      · rename_i hname
        rw [run_enter t1 (by simpa using hname) t2] at h1
        cases h1
    · simp [he] at hne

/-- A list of numbers, as it was handed over. -/
theorem ints_rep {W0 : World} {k : IntKind} {a : Option Addr} {len cap : Nat} {zs : List Int}
 (h : (a = none ∧ len = 0 ∧ cap = 0 ∧ zs = []) ∨ ∃ x, a = some x ∧ len ≤ cap ∧ cap ≤ maxLen ∧ zs.length = cap ∧ (∀ i, i < zs.length → W0.cell? (x.add i) = some (.int k (zs.getD i 0))) ∧ ∀ n ∈ zs, (Lit.int k n).wf = true) :
 RepV W0.heap (fun b => b < W0.heap.size) [] (fun _ => none) (.one (.d (.list ((zs.take len).map (D.int k))))) (.slice a len cap) := by
 show RepD _ _ _ _
 by_cases h0 : len = 0
 · subst h0
   exact .empty a cap
 · rcases h with ⟨_, rfl, _, _⟩ | ⟨x, rfl, h1, h2, h3, h4, _⟩
   · exact absurd rfl h0
   · obtain ⟨b, o, sp⟩ := x
     have hlen : ((zs.take len).map (D.int k)).length = len := by simp; omega
     have c0 := h4 0 (by omega)
     have hsp : sp = none := by
      simp only [Addr.add, if_true, World.cell?] at c0
      split at c0
      · split at c0
        · cases c0
        · rename_i hs; simpa using hs
      · cases c0
     subst hsp
     have hcell : ∀ i, i < zs.length → cellAt W0.heap b (o + i) = some (.int k (zs.getD i 0)) := by
      intro i hi
      have := h4 i hi
      simp only [World.cell?] at this
      have e1 : (Addr.add ⟨b, o, none⟩ i).block = b := by unfold Addr.add; split <;> rfl
      have e2 : (Addr.add ⟨b, o, none⟩ i).off = o + i := by unfold Addr.add; split <;> simp_all
      have e3 : (Addr.add ⟨b, o, none⟩ i).spot = none := by unfold Addr.add; split <;> rfl
      rw [e1, e2, e3] at this
      unfold cellAt
      revert this
      cases W0.heap[b]? with
      | none => intro h; cases h
      | some ob => cases ob <;> simp
     have hb : b < W0.heap.size := by
      have := hcell 0 (by omega)
      unfold cellAt at this
      cases hh : W0.heap[b]? with
      | none => rw [hh] at this; cases this
      | some ob => exact (Array.getElem?_eq_some_iff.1 hh).1
     have : Value.slice (some ⟨b, o, none⟩) len cap = .slice (some ⟨b, o, none⟩) ((zs.take len).map (D.int k)).length cap := by rw [hlen]
     rw [this]
     refine .list _ b o 1 cap (fun i _ => .int k (zs.getD i 0)) hb (by omega) (fun i d hd => ?_) (fun i j hi hj => ?_) (fun i j d e hd he => ?_) (by rw [hlen]; exact h1)
     · rw [List.getElem?_map] at hd
       obtain ⟨v, _, rfl⟩ := Option.map_eq_some_iff.1 hd
       rfl
     · rw [hlen] at hi
       have hj0 : j = 0 := by omega
       subst hj0
       rw [Nat.mul_one, Nat.add_zero]
       exact hcell i (by omega)
     · rw [List.getElem?_map] at hd
       obtain ⟨v, hv, rfl⟩ := Option.map_eq_some_iff.1 hd
       have hi : i < len := by
        have := (List.getElem?_eq_some_iff.1 hv).1
        simp at this; omega
       rw [List.getElem?_take, if_pos hi] at hv
       have hj : j = 0 ∧ e = .int k v := by
        cases j with
        | zero => simp [D.cells] at he; exact ⟨rfl, he.symm⟩
        | succ j => simp [D.cells] at he
       obtain ⟨rfl, rfl⟩ := hj
       have : zs.getD i 0 = v := by rw [List.getD_eq_getElem?_getD, hv]; rfl
       rw [this]
       exact .int k v
theorem int_rep {W0 : World} {k : IntKind} {n : Int} : RepV W0.heap (fun b => b < W0.heap.size) [] (fun _ => none) (.one (.d (.int k n))) (.int k n) := RepD.int k n
/-- Every number of such a list is one of its kind. -/
theorem ints_wf {W0 : World} {k : IntKind} {a : Option Addr} {len cap : Nat} {zs : List Int}
 (h : (a = none ∧ len = 0 ∧ cap = 0 ∧ zs = []) ∨ ∃ x, a = some x ∧ len ≤ cap ∧ cap ≤ maxLen ∧ zs.length = cap ∧ (∀ i, i < zs.length → W0.cell? (x.add i) = some (.int k (zs.getD i 0))) ∧ ∀ n ∈ zs, (Lit.int k n).wf = true) :
 ∀ n ∈ zs.take len, (Lit.int k n).wf = true := by
 intro n hn
 rcases h with ⟨_, _, _, rfl⟩ | ⟨x, _, _, _, _, _, h6⟩
 · simp at hn
 · exact h6 n (List.mem_of_mem_take hn)
/-- A struct, cell by cell. -/
theorem agg_rep {h : Array Obj} {A : Nat → Prop} {m : Heap} {β : Place} {cs : List C} {us : List Value} (r : All2 (RepC h A m β) cs us) : RepV h A m β (.agg cs) (.agg us.toArray) := ⟨us.toArray, rfl, by simpa using r⟩
theorem int_repC {h : Array Obj} {A : Nat → Prop} {m : Heap} {β : Place} {k : IntKind} {n : Int} : RepC h A m β (.d (.int k n)) (.int k n) := RepD.int k n
theorem ints_repC {W0 : World} {k : IntKind} {a : Option Addr} {len cap : Nat} {zs : List Int}
 (h : (a = none ∧ len = 0 ∧ cap = 0 ∧ zs = []) ∨ ∃ x, a = some x ∧ len ≤ cap ∧ cap ≤ maxLen ∧ zs.length = cap ∧ (∀ i, i < zs.length → W0.cell? (x.add i) = some (.int k (zs.getD i 0))) ∧ ∀ n ∈ zs, (Lit.int k n).wf = true) :
 RepC W0.heap (fun b => b < W0.heap.size) [] (fun _ => none) (.d (.list ((zs.take len).map (D.int k)))) (.slice a len cap) := ints_rep h
end

section
/-! ## A law's parameter that is a row of rows of numbers -/
open Go.ChangeShapes
/-- A row of numbers, as it was handed over. -/
def Ints (k : IntKind) (w : World) (a : Option Addr) (len cap : Nat) (zs : List Int) : Prop :=
 (a = none ∧ len = 0 ∧ cap = 0 ∧ zs = []) ∨
 ∃ x, a = some x ∧ len ≤ cap ∧ cap ≤ maxLen ∧ zs.length = cap ∧ (∀ i, i < zs.length → w.cell? (x.add i) = some (.int k (zs.getD i 0))) ∧ ∀ n ∈ zs, (Lit.int k n).wf = true
/-- A row of such rows. -/
def Rows3 (k : IntKind) (w : World) (a : Option Addr) (len cap : Nat) (zss : List (List Int)) : Prop :=
 (a = none ∧ len = 0 ∧ cap = 0 ∧ zss = []) ∨
 ∃ x, a = some x ∧ len ≤ cap ∧ zss.length = len ∧ len ≤ reachBytes ∧ ∀ (i : Nat) (zs : List Int), zss[i]? = some zs → zs.length ≤ reachBytes ∧ ∃ a' l' c' ys, w.cell? (x.add i) = some (.slice a' l' c') ∧ Ints k w a' l' c' ys ∧ zs = ys.take l'
theorem weights_arg {H : Type} {P : Program} {ts : List TypeId} {ds : List (DataW H)} {p : Nat → Bool} (h : (DataW.weightsEach P ts ds).all p = true) {j : Nat} {t : TypeId} {d : DataW H} (ht : ts[j]? = some t) (hd : ds[j]? = some d) : (d.weights P t).all p = true :=
 List.all_eq_true.2 fun n hn => List.all_eq_true.1 h n (DataW.weights_mem_each ht hd n hn)
theorem weights_field {H : Type} {P : Program} {t : TypeId} {fs : Array Field} {parts : List (DataW H)} {p : Nat → Bool} (hu : P.underlying t = some (.struct fs)) (h : (DataW.weights P t (.agg parts)).all p = true) {j : Nat} {f : Field} {d : DataW H} (ht : fs[j]? = some f) (hd : parts[j]? = some d) :
 (d.weights P f.type).all p = true := by
 simp only [DataW.weights, hu] at h
 exact weights_arg h (j := j) (by rw [List.getElem?_map, Array.getElem?_toList, ht]; rfl) hd
theorem weights_all {H : Type} {P : Program} {e : TypeId} {d : DataW H} {n : Nat} : ∀ {l : List (DataW H)}, d ∈ l → n ∈ d.weights P e → n ∈ DataW.weightsAll P e l
 | [], h, _ => by simp at h
 | x :: r, h, hn => by
  simp only [DataW.weightsAll, List.mem_append]
  rcases List.mem_cons.1 h with rfl | h
  · exact .inl hn
  · exact .inr (weights_all h hn)
theorem open_ints1 {H : Type} {enc : TypeId × Value → H} {P : Program} {w : World} {base : Nat} {held : Bool} {e i : TypeId} {k : IntKind} {fuel : Nat} {v : Value} {x : DataW H × List MemPlace} (he : P.underlying e = some (.slice i)) (hi : P.underlying i = some (.int k)) (ci : P.cellsOf i = 1) (bi : 0 < P.bytesOf i)
 (hw : (x.1.weights P e).all (· ≤ reachBytes) = true) (h : DataW.trod enc P w base (fun _ => true) held fuel e [v] = some x) : ∃ a len cap zs, v = .slice a len cap ∧ Ints k w a len cap zs ∧ zs.length ≤ reachBytes := by
 rcases open_ints he hi ci h with ⟨hcs, _⟩ | ⟨x, l, c, zs, hcs, _, hl, hm, hz, rfl, hcell, hwz⟩
 · exact ⟨none, 0, 0, [], by simpa using hcs, .inl ⟨rfl, rfl, rfl, rfl⟩, by simp⟩
 · refine ⟨some x, l, c, zs, by simpa using hcs, .inr ⟨_, rfl, hl, hm, by simpa using hz, hcell, hwz⟩, ?_⟩
   simp only [DataW.weights, he, List.all_cons, Bool.and_eq_true, decide_eq_true_eq] at hw
   have h1 : (lits (H := H) k (zs.take l)).length + (lits (H := H) k (zs.drop l)).length = zs.length := by simp [lits]; omega
   rw [h1] at hw
   have := Nat.le_mul_of_pos_right zs.length bi
   omega
theorem open_rows {H : Type} {enc : TypeId × Value → H} {P : Program} {w : World} {base : Nat} {held : Bool} {t e i : TypeId} {k : IntKind} {fuel : Nat} {v : Value} {x : DataW H × List MemPlace} (ht : P.underlying t = some (.slice e)) (he : P.underlying e = some (.slice i)) (hi : P.underlying i = some (.int k))
 (ce : P.cellsOf e = 1) (ci : P.cellsOf i = 1) (be : (decide (0 < P.bytesOf e) && decide (0 < P.bytesOf i)) = true) (hw : (x.1.weights P t).all (· ≤ reachBytes) = true) (h : DataW.trod enc P w base (fun _ => true) held fuel t [v] = some x) : ∃ a len cap zss, v = .slice a len cap ∧ Rows3 k w a len cap zss := by
 simp only [Bool.and_eq_true, decide_eq_true_eq] at be
 rcases Go.Deep.open_slice1 ht ce h with ⟨hv, _⟩ | ⟨a, len, cap, m, n, V, D, Pl, hv, _, hl, hm, hmm, rfl, hc⟩
 · exact ⟨none, 0, 0, [], by simpa using hv, .inl ⟨rfl, rfl, rfl, rfl⟩⟩
 · have hlm : len ≤ m := by rw [hmm]; simp; exact hl
   simp only [DataW.weights, ht, List.all_cons, Bool.and_eq_true, decide_eq_true_eq] at hw
   obtain ⟨hw1, hw2⟩ := hw
   have hlen : len ≤ reachBytes := by
    have h1 := Nat.le_mul_of_pos_right (((List.range len).map D).length + ((List.range (m - len)).map fun j => D (len + j)).length) be.1
    simp at h1 hw1
    omega
   obtain ⟨Z, hZ⟩ := Go.Deep.choose_lt (α := List Int) (n := len) (p := fun j zs => zs.length ≤ reachBytes ∧ ∃ a' l' c' ys, w.cell? (a.add j) = some (.slice a' l' c') ∧ Ints k w a' l' c' ys ∧ zs = ys.take l') fun j hj => by
    obtain ⟨h1, h2⟩ := hc j (by omega)
    have hwj : ((D j).weights P e).all (· ≤ reachBytes) = true := List.all_eq_true.2 fun q hq => List.all_eq_true.1 hw2 q (List.mem_append_left _ (weights_all (List.mem_map.2 ⟨j, List.mem_range.2 hj, rfl⟩) hq))
    obtain ⟨a', l', c', ys, e1, e2, e3⟩ := open_ints1 (x := (D j, Pl j)) he hi ci be.2 hwj h2
    exact ⟨_, by rw [List.length_take]; omega, a', l', c', ys, by rw [h1, e1], e2, rfl⟩
   refine ⟨some a, len, cap, (List.range len).map Z, by simpa using hv, .inr ⟨a, rfl, hl, by simp, hlen, fun j zs hz => ?_⟩⟩
   rw [List.getElem?_map] at hz
   obtain ⟨q, h1, rfl⟩ := Option.map_eq_some_iff.1 hz
   have hq := (List.getElem?_eq_some_iff.1 h1)
   obtain ⟨hlt, hq⟩ := hq
   have hjl : j < len := by simpa using hlt
   have : q = j := by rw [← hq]; simp
   rw [this]
   exact hZ j hjl
theorem rows_wf {W0 : World} {k : IntKind} {a : Option Addr} {len cap : Nat} {zss : List (List Int)} (h : Rows3 k W0 a len cap zss) : zss.length ≤ 140737488351232 ∧ ∀ zs ∈ zss, zs.length ≤ 140737488351232 ∧ ∀ n ∈ zs, (Lit.int k n).wf = true := by
 have hr : reachBytes ≤ 140737488351232 := by decide
 rcases h with ⟨_, _, _, rfl⟩ | ⟨x, _, _, h1, h2, h⟩
 · exact ⟨by simp, fun zs hz => by simp at hz⟩
 · refine ⟨by omega, fun zs hz => ?_⟩
   obtain ⟨i, hi⟩ := List.getElem?_of_mem hz
   obtain ⟨h3, a', l', c', ys, _, h2, rfl⟩ := h i zs hi
   exact ⟨by omega, fun n hn => ints_wf h2 n hn⟩
theorem cell_add {W0 : World} {x : Addr} {q : Nat} {v : Value} (h : W0.cell? (x.add q) = some v) : cellAt W0.heap x.block (x.off + q) = some v ∧ (q = 0 → x.spot = none) := by
 obtain ⟨b, o, sp⟩ := x
 have e1 : (Addr.add ⟨b, o, sp⟩ q).block = b := by unfold Addr.add; split <;> rfl
 have e2 : (Addr.add ⟨b, o, sp⟩ q).off = o + q := by unfold Addr.add; split <;> simp_all
 simp only [World.cell?] at h
 rw [e1, e2] at h
 split at h
 · rename_i hh
   split at h
   · cases h
   · rename_i hs
     refine ⟨by unfold cellAt; simp only [hh]; exact h, fun e => ?_⟩
     subst e
     simpa [Addr.add] using hs
 · cases h
theorem rows_repC {W0 : World} {k : IntKind} {a : Option Addr} {len cap : Nat} {zss : List (List Int)} (h : Rows3 k W0 a len cap zss) :
 RepC W0.heap (fun b => b < W0.heap.size) [] (fun _ => none) (.d (.list (zss.map (el (D.int k))))) (.slice a len cap) := by
 show RepD _ _ _ _
 rcases h with ⟨rfl, rfl, rfl, rfl⟩ | ⟨x, rfl, h1, h2, _, h3⟩
 · exact .empty none 0
 · by_cases h0 : len = 0
   · subst h0
     have : zss = [] := List.eq_nil_of_length_eq_zero h2
     subst this
     exact .empty _ _
   · obtain ⟨b, o, sp⟩ := x
     have each : ∀ i, i < zss.length → ∃ u, cellAt W0.heap b (o + i) = some u ∧ ∀ zs, zss[i]? = some zs → RepD W0.heap (fun b => b < W0.heap.size) (el (D.int k) zs) u := by
      intro i hi
      obtain ⟨_, a', l', c', ys, e1, e2, e3⟩ := h3 i _ (List.getElem?_eq_getElem hi)
      refine ⟨_, (cell_add e1).1, fun zs hz => ?_⟩
      rw [List.getElem?_eq_getElem hi] at hz
      cases hz
      rw [e3]
      exact ints_rep e2
     obtain ⟨_, a', l', c', ys, e1, _, _⟩ := h3 0 _ (List.getElem?_eq_getElem (by omega : 0 < zss.length))
     obtain ⟨c0, sp0⟩ := cell_add e1
     obtain rfl : sp = none := sp0 rfl
     have hb : b < W0.heap.size := by
      unfold cellAt at c0
      cases hh : W0.heap[b]? with
      | none => rw [hh] at c0; cases c0
      | some ob => exact (Array.getElem?_eq_some_iff.1 hh).1
     obtain ⟨U, hU⟩ := Go.Deep.choose_lt (α := Value) (n := zss.length) (p := fun i u => cellAt W0.heap b (o + i) = some u ∧ ∀ zs, zss[i]? = some zs → RepD W0.heap (fun b => b < W0.heap.size) (el (D.int k) zs) u) each
     have hlen : (zss.map (el (D.int k))).length = len := by simp [h2]
     have : Value.slice (some ⟨b, o, none⟩) len cap = .slice (some ⟨b, o, none⟩) (zss.map (el (D.int k))).length cap := by rw [hlen]
     rw [this]
     refine .list _ b o 1 cap (fun i _ => U i) hb (by omega) (fun i d hd => ?_) (fun i j hi hj => ?_) (fun i j d e hd he => ?_) (by rw [hlen]; exact h1)
     · rw [List.getElem?_map] at hd
       obtain ⟨v, _, rfl⟩ := Option.map_eq_some_iff.1 hd
       rfl
     · have hj0 : j = 0 := by omega
       subst hj0
       rw [Nat.mul_one, Nat.add_zero]
       exact (hU i (by simpa using hi)).1
     · rw [List.getElem?_map] at hd
       obtain ⟨v, hv, rfl⟩ := Option.map_eq_some_iff.1 hd
       have hj : j = 0 ∧ e = el (D.int k) v := by
        cases j with
        | zero => simp [D.cells, el] at he; exact ⟨rfl, he.symm⟩
        | succ j => simp [D.cells, el] at he
       obtain ⟨rfl, rfl⟩ := hj
       exact (hU i (List.getElem?_eq_some_iff.1 hv).1).2 v hv
end

end Go.Proofs.YtkeddnagijjbaaaGreat
