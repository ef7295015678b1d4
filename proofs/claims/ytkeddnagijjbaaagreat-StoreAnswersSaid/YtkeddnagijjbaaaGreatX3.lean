/- Part 3 of 4 of the theory that this claim's proof uses: functions of the program as terms of a small language, what these compute, and that the program's functions answer so.
 There are no conditions beyond those that the theorems name. -/
import Derived.Test.YtkeddnagijjbaaaGreatX2
set_option linter.unusedVariables false
set_option linter.unusedSimpArgs false
namespace Go.Proofs.YtkeddnagijjbaaaGreat
open Go
section
variable {P:Program}

theorem carry_c {F F':Nat→Prop} {m:Heap} {β:Place} {h h':Array Obj} (hA:∀ b,Avail F m β h b→Avail F' m β h' b∧h'[b]?=h[b]?) (hO:∀ b,Owned m β b→h'[b]?=h[b]?)
 {c:C} {v:Value} (r:RepC h (Avail F m β h) m β c v):RepC h' (Avail F' m β h') m β c v:=by
 cases c with
 | d x=>exact RepD.mono hA r
 | nil=>exact r
 | own s i j =>
  have r:RepOwn h m β s i j v:=r
  show RepOwn h' m β s i j v
  unfold RepOwn at r ⊢
  cases hs:m[s]? with
  | none=>simp only [hs] at r
  | some sl =>
   simp only [hs] at r ⊢
   cases sl with
   | vals z xs =>
    simp only [] at r ⊢
    refine ⟨r.1,r.2.imp id ?_⟩
    rintro ⟨b,o,cap,N,e1,e2,e3,e4,e5⟩
    exact ⟨b,o,cap,N,e1,e2,e3,by rw [blkSize_congr (hO b (.mk hs (by simp) e1))]; exact e4,e5⟩
   | cells cs=>exact r
   | rows z rs br =>
    simp only [] at r ⊢
    refine ⟨r.1,r.2.imp id ?_⟩
    rintro ⟨b,o,cap,N,e1,e2,e3,e4,e5⟩
    exact ⟨b,o,cap,N,e1,e2,e3,by rw [blkSize_congr (hO b (.mk hs (by simp) e1))]; exact e4,e5⟩
   | map es=>exact r
   | dead=>exact r
 | ptr s i j=>exact r
 | mp s=>exact r
 | fn f caps =>
  obtain ⟨vs,e,hv⟩:=r
  refine ⟨vs,e,hv.mono fun c u hc=>?_⟩
  cases c with
  | d x=>exact RepD.mono hA hc
  | p s=>exact hc
 | dead=>exact r
theorem carry_v {F F':Nat→Prop} {m:Heap} {β:Place} {h h':Array Obj} (hA:∀ b,Avail F m β h b→Avail F' m β h' b∧h'[b]?=h[b]?) (hO:∀ b,Owned m β b→h'[b]?=h[b]?)
 {x:V} {v:Value} (r:RepV h (Avail F m β h) m β x v):RepV h' (Avail F' m β h') m β x v:=by
 have:=RepV.map (f:=fun c=>c) (fun c v (h:RepC h (Avail F m β h) m β c v)=>carry_c hA hO h) r
 rwa [V.mapC_id] at this
theorem owned_lt {F:Nat→Prop} {m:Heap} {β:Place} {h:Array Obj} (hm:MemOK F m β h) {b:Nat} (hb:Owned m β b):b < h.size:=hm.owned hb
theorem carry_m {F F':Nat→Prop} {m:Heap} {β:Place} {h h':Array Obj} (hA:∀ b,Avail F m β h b→Avail F' m β h' b∧h'[b]?=h[b]?) (hO:∀ b,Owned m β b→h'[b]?=h[b]?)
 (hnf:∀ b,Owned m β b→¬F' b) (hfl:∀ b,F' b→b < h'.size) (hm:MemOK F m β h):MemOK F' m β h' where
 slots:=fun s sl hs=>by
  have r:=hm.slots s sl hs
  have lies:∀ (z:D) (xs:List D) (p:Option (Nat × Nat)),(∀ b o,p=some (b,o)→h'[b]?=h[b]?)→Lies h (Avail F m β h) z xs p→Lies h' (Avail F' m β h') z xs p:=by
   intro z xs p he hl
   cases p with
   | none=>exact hl
   | some p =>
    obtain ⟨b,o⟩:=p
    have e:=he b o rfl
    refine ⟨hl.1.congr e,fun i j d x hd hx=>?_⟩
    obtain ⟨v,hv,hr⟩:=hl.2 i j d x hd hx
    exact ⟨v,by rw [cellAt_congr e]; exact hv,hr.mono hA⟩
  cases sl with
  | vals z xs =>
   obtain ⟨h1,h2,h3⟩:=r
   exact ⟨h1,h2,lies _ _ _ (fun b o e=>hO b (.mk hs (by simp) e)) h3⟩
  | cells cs =>
   obtain ⟨b,o,e1,h1,h2⟩:=r
   have e:=hO b (.mk hs (by simp) e1)
   refine ⟨b,o,e1,h1.congr e,fun j c hc=>?_⟩
   obtain ⟨v,hv,hr⟩:=h2 j c hc
   exact ⟨v,by rw [cellAt_congr e]; exact hv,carry_c hA hO hr⟩
  | rows z rs br =>
   obtain ⟨h0,h00,b,o,e1,h1,h2⟩:=r
   have e:=hO b (.mk hs (by simp) e1)
   refine ⟨h0,h00,b,o,e1,h1.congr e,fun i r hr=>?_⟩
   obtain ⟨v,hv,hh⟩:=h2 i r hr
   refine ⟨v,by rw [cellAt_congr e]; exact hv,?_⟩
   cases hg:brGet br i with
   | some c=>simp only [hg] at hh ⊢; exact carry_c hA hO hh
   | none =>
    simp only [hg] at hh ⊢
    have same:∀ b o,β (s,some i)=some (b,o)→h'[b]?=h[b]?:=fun b o e=>hO b ⟨(s,some i),.vals z r,o,(live_of hs (some i)).trans (by simp only [Slot.part,hg,hr,Option.map_some]),by simp,e⟩
    exact ⟨lies _ _ _ same hh.1,hh.2.same same⟩
  | map es =>
   obtain ⟨b,o,e1,ents,cl,h1,h2⟩:=r
   exact ⟨b,o,e1,ents,cl,(hO b (.mk hs (by simp) e1)).trans h1,h2.mono hA⟩
  | dead=>trivial
 injK:=hm.injK
 nf:=hnf
 fl:=hfl
theorem Evo.carry {F F':Nat→Prop} {m0 m:Heap} {β0 β:Place} {w0 w w':World} (E:Evo F m0 β0 w0 m β w) (h1:w'.os=w.os) (h2:w'.tape=w.tape) (h3:OutTo w w') (hs:w.heap.size≤w'.heap.size)
 (hF:∀ b,b < w0.heap.size→(F' b↔F b)) (hh:∀ b,b < w0.heap.size→w'.heap[b]?=w.heap[b]?) (hb:∀ b,blkSize w'.heap b=blkSize w.heap b):Evo F' m0 β0 w0 m β w' where
 os:=h1.trans E.os
 tape:=h2.trans E.tape
 output:=⟨h3.1.trans E.output.1,Nat.le_trans E.output.2 h3.2⟩
 size:=Nat.le_trans E.size hs
 av:=fun b ⟨k1,k2,k3⟩=>by
  obtain ⟨g1,g2⟩:=E.av b ⟨k1,fun c=>k2 ((hF b k1).2 c),k3⟩
  exact ⟨⟨Nat.lt_of_lt_of_le g1.1 hs,k2,g1.2.2⟩,(hh b k1).trans g2⟩
 fo:=fun b hb hf=>(hh b hb).trans (E.fo b hb ((hF b hb).1 hf))
 own:=E.own
 evo:=fun s sl h=>by
  obtain ⟨sl',g1,g2⟩:=E.evo s sl h
  refine ⟨sl',g1,g2.imp id fun ⟨e1,e2,e3⟩=>⟨e1,e2,fun b o h=>(hb b).trans (e3 b o h)⟩⟩

theorem RepV.flat {h h':Array Obj} {A A':Nat→Prop} {β β':Place} (hk:∀ b,A b→A' b∧h'[b]?=h[b]?) {x:V} {v:Value} (r:RepV h A [] β x v):RepV h' A' [] β' x v:=by
 have one:∀ (c:C) (v:Value),RepC h A [] β c v→RepC h' A' [] β' c v:=by
  intro c v r
  cases c with
  | d x=>exact RepD.mono hk r
  | nil=>exact r
  | own s i j=>have r:RepOwn h [] β s i j v:=r; simp [RepOwn] at r
  | ptr s i j=>have r:RepPtr [] β s i j v:=r; simp [RepPtr] at r
  | mp s=>have r:RepMp [] β s v:=r; simp [RepMp] at r
  | fn f caps =>
   obtain ⟨vs,e,hv⟩:=r
   refine ⟨vs,e,hv.mono fun c u hc=>?_⟩
   cases c with
   | d x=>exact RepD.mono hk hc
   | p s=>have hc:RepPtr [] β s 0 0 u:=hc; simp [RepPtr] at hc
  | dead=>exact r
 have:=RepV.map (f:=fun c=>c) one r
 rwa [V.mapC_id] at this

def Ground.at (G:Ground) (rs ls:List Nat):Ground:={ G with rs:=rs,ls:=ls }
def RelB (G:Ground) (β:Place) (σ:St) (a:Act) (w:World):Prop :=
 MemOK G.Fr σ.mem β w.heap∧Evo G.Fr G.m0 G.β0 G.w0 σ.mem β w∧EnvOK w.heap (Avail G.Fr σ.mem β w.heap) σ.mem β σ.env a∧a.tmps.size=G.N∧Marks G.w0.heap.size G.rs G.ls a.defers w.heap
def RelX (G:Ground) (r:Option Nat) (σ:St) (a:Act) (w:World):Prop:=∃ rs ls,(r.isSome=true→rs=G.rs)∧RelS (G.at rs ls) σ a w
def RoundOk (G:Ground) (r:Option Nat):Prop:=∀ l,r=some l→G.F l∧∃ q,G.w0.heap[l]?=some (.loop q)

theorem Marks.ge {s0:Nat} {rs ls:List Nat} {ds:List Deferred} {h:Array Obj} (k:Marks s0 rs ls ds h) {b:Nat} (hb:b∈ls∨b∈rs):s0≤b:=by
 rcases hb with hb | hb
 · exact k.2.2.2 b hb
 · exact (k.2.2.1 b hb).2
theorem forget_core {G:Ground} {β:Place} {σ:St} {a:Act} {w:World} (hm:MemOK G.Fr σ.mem β w.heap) (hE:Evo G.Fr G.m0 G.β0 G.w0 σ.mem β w) (hk:EnvOK w.heap (Avail G.Fr σ.mem β w.heap) σ.mem β σ.env a)
 (hge:∀ b,b∈G.ls∨b∈G.rs→G.w0.heap.size≤b):MemOK G.F σ.mem β w.heap∧Evo G.F G.m0 G.β0 G.w0 σ.mem β w∧EnvOK w.heap (Avail G.F σ.mem β w.heap) σ.mem β σ.env a:=by
 have hA:∀ b,Avail G.Fr σ.mem β w.heap b→Avail G.F σ.mem β w.heap b∧w.heap[b]?=w.heap[b]?:=fun b hb=>⟨⟨hb.1,fun c=>hb.2.1 (.inl (.inl c)),hb.2.2⟩,rfl⟩
 refine ⟨carry_m hA (fun _ _=>rfl) (fun b hb c=>hm.nf b hb (.inl (.inl c))) (fun b hb=>hm.fl b (.inl (.inl hb))) hm,?_,fun t=>carry_v hA (fun _ _=>rfl) (hk t)⟩
 refine hE.carry rfl rfl ⟨rfl,Nat.le_refl _⟩ (Nat.le_refl _) (fun b hb=>⟨fun h=>.inl (.inl h),fun h=>?_⟩) (fun _ _=>rfl) (fun _=>rfl)
 rcases h with (h | h) | h
 · exact h
 · have:=hge b (.inl h); omega
 · have:=hge b (.inr h); omega
theorem RelB.forget {G:Ground} {β:Place} {σ:St} {a:Act} {w:World} (h:RelB G β σ a w):MemOK G.F σ.mem β w.heap∧Evo G.F G.m0 G.β0 G.w0 σ.mem β w∧EnvOK w.heap (Avail G.F σ.mem β w.heap) σ.mem β σ.env a :=
 forget_core h.1 h.2.1 h.2.2.1 fun _ hb=>h.2.2.2.2.ge hb

theorem blkSize_put {w:World} {l:Nat} {q q':Loop} (h:w.heap[l]?=some (.loop q)) (b:Nat):blkSize (w.putObj l (.loop q')).heap b=blkSize w.heap b:=by
 by_cases c:b=l
 · subst c
   have hlt:=(Array.getElem?_eq_some_iff.1 h).1
   simp only [blkSize,World.putObj_heap_same hlt,h]
 · exact blkSize_congr (World.putObj_heap_other c)
theorem RelB.record {G:Ground} {β:Place} {σ:St} {a:Act} {w:World} {l:Nat} {q q':Loop} (hr:RelB G β σ a w) (hl:l∈G.ls) (h:w.heap[l]?=some (.loop q)):RelB G β σ a (w.putObj l (.loop q')):=by
 obtain ⟨hm,hE,hk,hs,hd⟩:=hr
 have hF:G.Fr l:=.inl (.inr hl)
 have hA:∀ b,Avail G.Fr σ.mem β w.heap b→Avail G.Fr σ.mem β (w.putObj l (.loop q')).heap b∧(w.putObj l (.loop q')).heap[b]?=w.heap[b]?:=fun b hb =>
  ⟨⟨by rw [World.putObj_size]; exact hb.1,hb.2⟩,World.putObj_heap_other fun c=>hb.2.1 (c ▸ hF)⟩
 have hO:∀ b,Owned σ.mem β b→(w.putObj l (.loop q')).heap[b]?=w.heap[b]?:=fun b hb=>World.putObj_heap_other fun c=>hm.nf b hb (c ▸ hF)
 refine ⟨carry_m hA hO hm.nf (fun b hb=>by rw [World.putObj_size]; exact hm.fl b hb) hm,?_,fun t=>carry_v hA hO (hk t),hs,hd.1,hd.2.1,fun r hr=>⟨?_,(hd.2.2.1 r hr).2⟩,hd.2.2.2⟩
 · refine hE.carry rfl rfl ⟨rfl,Nat.le_refl _⟩ (by rw [World.putObj_size]; exact Nat.le_refl _) (fun _ _=>Iff.rfl) (fun b hb=>World.putObj_heap_other fun c=>?_) (blkSize_put h)
   have:=hd.ge (.inl hl); omega
 · rw [World.putObj_heap_other fun c=>?_]
   · exact (hd.2.2.1 r hr).1
   · subst c; rw [(hd.2.2.1 r hr).1] at h; cases h
theorem carry_record {F:Nat→Prop} {m:Heap} {β:Place} {w:World} {l:Nat} {q':Loop} (hm:MemOK F m β w.heap) (hF:F l) :
 MemOK F m β (w.putObj l (.loop q')).heap∧(∀ x v,RepV w.heap (Avail F m β w.heap) m β x v→RepV (w.putObj l (.loop q')).heap (Avail F m β (w.putObj l (.loop q')).heap) m β x v) ∧
 ∀ b,Avail F m β w.heap b→Avail F m β (w.putObj l (.loop q')).heap b∧(w.putObj l (.loop q')).heap[b]?=w.heap[b]?:=by
 have hA:∀ b,Avail F m β w.heap b→Avail F m β (w.putObj l (.loop q')).heap b∧(w.putObj l (.loop q')).heap[b]?=w.heap[b]?:=fun b hb =>
  ⟨⟨by rw [World.putObj_size]; exact hb.1,hb.2⟩,World.putObj_heap_other fun c=>hb.2.1 (c ▸ hF)⟩
 have hO:∀ b,Owned m β b→(w.putObj l (.loop q')).heap[b]?=w.heap[b]?:=fun b hb=>World.putObj_heap_other fun c=>hm.nf b hb (c ▸ hF)
 exact ⟨carry_m hA hO hm.nf (fun b hb=>by rw [World.putObj_size]; exact hm.fl b hb) hm,fun x v r=>carry_v hA hO r,hA⟩

theorem alloc_get {w:World} {o:Obj} {b:Nat} (h:b < w.heap.size):(w.alloc o).heap[b]?=w.heap[b]?:=by
 show (w.heap.push o)[b]?=_
 rw [Array.getElem?_push,if_neg (by omega)]
theorem alloc_size {w:World} {o:Obj}:(w.alloc o).heap.size=w.heap.size+1:=by
 show (w.heap.push o).size=_
 simp
theorem alloc_blk {w:World} {o:Obj} (ho:∀ c T s,o≠.cells c T s) (b:Nat):blkSize (w.alloc o).heap b=blkSize w.heap b:=by
 rcases Nat.lt_trichotomy b w.heap.size with h | h | h
 · exact blkSize_congr (alloc_get h)
 · subst h
   have e1:(w.alloc o).heap[w.heap.size]?=some o:=w.alloc_heap_new o
   have e2:w.heap[w.heap.size]?=none:=by simp
   simp only [blkSize,e1,e2]
   cases o <;> first | rfl | exact absurd rfl (ho _ _ _)
 · have e1:(w.alloc o).heap[b]?=none:=Array.getElem?_eq_none (by rw [alloc_size]; omega)
   have e2:w.heap[b]?=none:=Array.getElem?_eq_none (by omega)
   simp only [blkSize,e1,e2]
theorem laid_core {G:Ground} {β:Place} {σ:St} {a:Act} {w:World} {o:Obj} {F':Nat→Prop} (hr:RelB G β σ a w) (ho:∀ c T s,o≠.cells c T s) (hF:∀ b,F' b↔G.Fr b∨b=w.heap.size) :
 MemOK F' σ.mem β (w.alloc o).heap∧Evo F' G.m0 G.β0 G.w0 σ.mem β (w.alloc o)∧EnvOK (w.alloc o).heap (Avail F' σ.mem β (w.alloc o).heap) σ.mem β σ.env a:=by
 obtain ⟨hm,hE,hk,hs,hd⟩:=hr
 have hA:∀ b,Avail G.Fr σ.mem β w.heap b→Avail F' σ.mem β (w.alloc o).heap b∧(w.alloc o).heap[b]?=w.heap[b]?:=fun b hb =>
  ⟨⟨by rw [alloc_size]; have:=hb.1; omega,fun c=>by
   rcases (hF b).1 c with c | c
   · exact hb.2.1 c
   · have:=hb.1; omega,hb.2.2⟩,alloc_get hb.1⟩
 have hO:∀ b,Owned σ.mem β b→(w.alloc o).heap[b]?=w.heap[b]?:=fun b hb=>alloc_get (owned_lt hm hb)
 refine ⟨carry_m hA hO (fun b hb c=>?_) (fun b hb=>?_) hm,?_,fun t=>carry_v hA hO (hk t)⟩
 · rcases (hF b).1 c with c | c
   · exact hm.nf b hb c
   · have:=owned_lt hm hb; omega
 · rw [alloc_size]
   rcases (hF b).1 hb with c | c
   · have:=hm.fl b c; omega
   · omega
 · have hsz:=hE.size
   exact hE.carry rfl rfl ⟨rfl,Nat.le_refl _⟩ (by rw [alloc_size]; omega) (fun b hb=>⟨fun h=>((hF b).1 h).resolve_right (by omega),fun h=>(hF b).2 (.inl h)⟩) (fun b hb=>alloc_get (by omega)) (alloc_blk ho)
theorem RelB.laid {G:Ground} {β:Place} {σ:St} {a:Act} {w:World} {q:Loop} (hr:RelB G β σ a w):RelB (G.at G.rs (w.heap.size::G.ls)) β σ a (w.alloc (.loop q)):=by
 obtain ⟨h1,h2,h3⟩:=laid_core (o:=.loop q) (F':=(G.at G.rs (w.heap.size::G.ls)).Fr) hr (by intro c T s h; cases h) (fun b=>by simp only [Ground.Fr,Ground.at,List.mem_cons]; exact ⟨fun h=>by rcases h with (h | h | h) | h <;> simp [h],fun h=>by rcases h with ((h | h) | h) | h <;> simp [h]⟩)
 obtain ⟨hm,hE,hk,hs,hd⟩:=hr
 refine ⟨h1,h2,h3,hs,hd.1,hd.2.1,fun r hr=>⟨?_,(hd.2.2.1 r hr).2⟩,fun l hl=>?_⟩
 · rw [alloc_get (Array.getElem?_eq_some_iff.1 (hd.2.2.1 r hr).1).1]; exact (hd.2.2.1 r hr).1
 · rcases List.mem_cons.1 hl with h | h
   · subst h; exact hE.size
   · exact hd.2.2.2 l h
theorem RelB.marked {G:Ground} {β:Place} {σ:St} {a:Act} {w:World} (hr:RelB G β σ a w) :
 RelB (G.at (w.heap.size::G.rs) G.ls) β σ { a with defers:=[{ target:=.collected w.heap.size,args:=#[] }]++a.defers } (w.alloc (.deferred (some []))):=by
 obtain ⟨h1,h2,h3⟩:=laid_core (o:=.deferred (some [])) (F':=(G.at (w.heap.size::G.rs) G.ls).Fr) hr (by intro c T s h; cases h) (fun b=>by simp only [Ground.Fr,Ground.at,List.mem_cons]; exact ⟨fun h=>by rcases h with (h | h) | h | h <;> simp [h],fun h=>by rcases h with ((h | h) | h) | h <;> simp [h]⟩)
 obtain ⟨hm,hE,hk,hs,hd⟩:=hr
 refine ⟨h1,h2,h3,hs,?_,?_,fun r hr=>?_,hd.2.2.2⟩
 · show _++a.defers=_
   rw [hd.1]; rfl
 · refine List.nodup_cons.2 ⟨fun c=>?_,hd.2.1⟩
   have:=(Array.getElem?_eq_some_iff.1 (hd.2.2.1 _ c).1).1
   omega
 · rcases List.mem_cons.1 hr with h | h
   · subst h; exact ⟨w.alloc_heap_new _,hE.size⟩
   · exact ⟨by rw [alloc_get (Array.getElem?_eq_some_iff.1 (hd.2.2.1 r h).1).1]; exact (hd.2.2.1 r h).1,(hd.2.2.1 r h).2⟩

def Ex.to:Ex→Exit
 | .normal=>.normal
 | .exit id=>.exit id
 | .ret=>.ret

def Ex.jump:Ex→Option Code
 | .normal=>none
 | .exit id=>some (.exit id)
 | .ret=>some .ret
def recOf (q:Loop) (ex:Ex):Loop:={ q with state:=if ex=.normal then .ready else .done,pending:=ex.jump }
def LRel (G:Ground) (l:Nat) (q:Loop) (a:Act) (N:Nat) (s:Ex × St) (σ:St) (ag:Act) (w:World):Prop :=
 ∃ β,RelB G β s.2 a w∧w.heap[l]?=some (.loop (recOf q s.1))∧σ.mem=[]∧EnvOK w.heap (Avail G.Fr s.2.mem β w.heap) [] β σ.env ag∧ag.tmps.size=N∧ag.defers=[]

theorem LRel.side {G:Ground} {l:Nat} {q:Loop} {a:Act} {N:Nat} {s:Ex × St} {σ:St} {ag:Act} {w:World} (hl:l∈G.ls) (h:LRel G l q a N s σ ag w) :
 ∃ G':Ground,G'.m0=[]∧G'.N=N∧RelS G' σ ag w∧∀ σ' a' w',σ'.mem=[]→RelS G' σ' a' w'→LRel G l q a N s σ' a' w':=by
 obtain ⟨β,hB,hq,hmem,hk,hN,hdef⟩:=h
 obtain ⟨hm,hE,hkc,hs,hd⟩:=hB
 obtain ⟨e,m⟩:=σ
 simp only at hmem hk
 subst hmem
 have avs:∀ b,Avail G.Fr s.2.mem β w.heap b→b < w.heap.size∧¬(((G.Fr b∨Owned s.2.mem β b)∨b∈([]:List Nat))∨b∈([]:List Nat))∧¬Owned [] β b:=fun b hb =>
  ⟨hb.1,(fun c=>by
   rcases c with (c | c) | c
   · rcases c with c | c
     · exact hb.2.1 c
     · exact hb.2.2 c
   · cases c
   · cases c),fun ⟨s,sl,o,c,_⟩=>by simp [live] at c⟩
 refine ⟨⟨fun b=>G.Fr b∨Owned s.2.mem β b,[],β,w,N,[],[]⟩,rfl,rfl,⟨β,?_,.refl _ _ _ _,fun t=>(hk t).flat fun b hb=>⟨avs b hb,rfl⟩,hN,?_⟩,?_⟩
 · refine ⟨fun s sl c=>by simp at c,fun s t sl tl b o o' c=>by simp [live] at c,fun b ⟨s,sl,o,c,_⟩=>by simp [live] at c,fun b hb=>?_⟩
   rcases hb with (hb | hb) | hb
   · rcases hb with hb | hb
     · exact hm.fl b hb
     · exact owned_lt hm hb
   · cases hb
   · cases hb
 · exact ⟨by simpa using hdef,List.nodup_nil,fun r hr=>(by cases hr),fun r hr=>by cases hr⟩
 · intro σ' a' w' hmem' h'
   obtain ⟨β',hm',hE',hk',hN',hd'⟩:=h'
   obtain ⟨e',m'⟩:=σ'
   simp only at hmem' hm' hE' hk'
   subst hmem'
   have hf:∀ b,G.Fr b→b < w.heap.size→w'.heap[b]?=w.heap[b]?:=fun b hb hlt=>hE'.fo b hlt (.inl (.inl (.inl hb)))
   have hO:∀ b,Owned s.2.mem β b→w'.heap[b]?=w.heap[b]?:=fun b hb=>hE'.fo b (owned_lt hm hb) (.inl (.inl (.inr hb)))
   have hA:∀ b,Avail G.Fr s.2.mem β w.heap b→Avail G.Fr s.2.mem β w'.heap b∧w'.heap[b]?=w.heap[b]?:=fun b hb =>
    ⟨⟨Nat.lt_of_lt_of_le hb.1 hE'.size,hb.2⟩,(hE'.av b (avs b hb)).2⟩
   have E1:Evo G.Fr s.2.mem β w s.2.mem β w':=⟨hE'.os,hE'.tape,hE'.output,hE'.size,hA,fun b hb hf'=>hf b hf' hb,fun b hb=>.inl hb,fun t sl ht=>by
    by_cases c:sl=.dead
    · exact ⟨sl,ht,.inl c⟩
    · exact ⟨sl,ht,.inr ⟨Slot.like.refl _,rfl,fun b o hb=>blkSize_congr (hO b (.mk ht c hb))⟩⟩⟩
   refine ⟨β,⟨carry_m hA hO hm.nf (fun b hb=>Nat.lt_of_lt_of_le (hm.fl b hb) hE'.size) hm,hE.trans E1,EnvOK.evo E1 hkc,hs,hd.evo (fun r hr=>.inr hr) E1⟩,?_,rfl,fun t=>?_,hN',?_⟩
   · rw [hf l (.inl (.inr hl)) (Array.getElem?_eq_some_iff.1 hq).1]; exact hq
   · refine (hk' t).flat (β:=β') fun b hb=>⟨⟨hb.1,fun c=>hb.2.1 (.inl (.inl (.inl c))),fun c=>hb.2.1 (.inl (.inl (.inr c)))⟩,rfl⟩
   · simpa using hd'.1

theorem setL:∀ (ps:List Nat) (us:List Value) (t:Array Value),(ps.zip us).foldl (fun tmps (x:Nat × Value)=>tmps.setIfInBounds x.1 x.2) t=(match ps,us with | p::ps,u::us=>(ps.zip us).foldl (fun tmps (x:Nat × Value)=>tmps.setIfInBounds x.1 x.2) (t.setIfInBounds p u) | _,_=>t)
 | [],_,t=>by simp
 | _::_,[],t=>by simp
 | _::_,_::_,t=>rfl
theorem putAll_ok {h:Array Obj} {A:Nat→Prop} {m:Heap} {β:Place} {ds:List Deferred}:∀ (ps:List Nat) (args:List V) (us:List Value) (e:Env) (t:Array Value),EnvOK h A m β e { tmps:=t,defers:=ds }→All2 (RepV h A m β) args us →
 (∀ p∈ps,p < t.size)→args.length=ps.length→EnvOK h A m β (putAll ps args e) { tmps:=(ps.zip us).foldl (fun tmps (x:Nat × Value)=>tmps.setIfInBounds x.1 x.2) t,defers:=ds } ∧
  ((ps.zip us).foldl (fun tmps (x:Nat × Value)=>tmps.setIfInBounds x.1 x.2) t).size=t.size
 | [],_,_,e,t,hk,_,_,_=>by simpa [putAll] using hk
 | p::ps,[],us,e,t,hk,r,hp,hl=>by simp at hl
 | p::ps,v::args,[],e,t,hk,r,hp,hl=>by cases r
 | p::ps,v::args,u::us,e,t,hk,r,hp,hl=>by
  cases r with
  | cons r1 r2 =>
   have:=putAll_ok ps args us (e.put p v) (t.setIfInBounds p u) (by
    have:=EnvOK.put hk (t:=p) (hp p (by simp)) r1
    exact this) r2 (fun p' hp'=>by simpa using hp p' (by simp [hp'])) (by simpa using hl)
   refine ⟨?_,?_⟩
   · simpa [putAll] using this.1
   · have h2:=this.2
     simpa using h2

theorem round_ok {X:Nat→Option MFn} {call:Call} {k:Nat} {G:Ground} {l:Nat} {q:Loop} {a:Act} (hl:l∈G.ls) (htm:q.tmps=a.tmps) (hps:∀ t∈q.params.toList,t < G.N) {ma mb:MCode}
 (Ha:∀ (G':Ground),G'.N=G.N→RoundOk G' (some l)→∀ σ x a w Q,evC X call k G'.m0.length ma σ=some x→RelX G' (some l) σ a w→(∀ a' w',RelX G' (some l) x.2 a' w'→Q x.1.to a' w')→q.assign.wpIn (W (some l)) 0 P Q a w)
 (Hb:∀ (G':Ground),G'.N=G.N→RoundOk G' (some l)→∀ σ x a w Q,evC X call k G'.m0.length mb σ=some x→RelX G' (some l) σ a w→(∀ a' w',RelX G' (some l) x.2 a' w'→Q x.1.to a' w')→q.body.wpIn (W (some l)) 0 P Q a w)
 {gh:List Ghost} {args:List V} {s s':Ex × St} {b:Bool} (e:roundM (fun b'=>evC X call k b' ma) (fun b'=>evC X call k b' mb) G.m0.length q.params.toList gh args s=some (b,s'))
 {β:Place} {us:List Value} {w:World} (hB:RelB G β s.2 a w) (hq:w.heap[l]?=some (.loop (recOf q s.1))) (hu:All2 (RepV w.heap (Avail G.Fr s.2.mem β w.heap) s.2.mem β) args us) :
 us.length=q.params.size∧(recOf q s.1).state=.ready ∧
 RoundIn (W none) 0 P l q.fn ((q.params.zip us.toArray).foldl (fun tmps (t,a)=>tmps.setIfInBounds t a) q.tmps) q.assign q.body w fun en w'=>en=.returned (.bool b)∧∃ β',RelB G β' s'.2 a w'∧w'.heap[l]?=some (.loop (recOf q s'.1)) ∧
  ∀ b,Avail G.Fr s.2.mem β w.heap b→Avail G.Fr s'.2.mem β' w'.heap b∧w'.heap[b]?=w.heap[b]?:=by
 unfold roundM at e
 split at e
 case h_2=>cases e
 case h_1 hn =>
 split at e
 case isFalse=>cases e
 case isTrue hlen =>
 obtain ⟨r1,e1,e2⟩:=bind_some' e
 clear e
 split at e2
 case h_2=>cases e2
 case h_1 hr1 =>
 obtain ⟨r2,e3,e4⟩:=bind_some' e2
 obtain ⟨σ3,e5,e6⟩:=bind_some' e4
 clear e2 e4
 cases e6
 have hF:G.Fr l:=.inl (.inr hl)
 obtain ⟨hm,hE,hk,hs,hd⟩:=hB
 refine ⟨by rw [←hu.length]; simpa using hlen,by simp [recOf,hn],roundIn_of_wpIn trivial ?_⟩
 have hfold:(q.params.zip us.toArray).foldl (fun tmps (x:Nat × Value)=>tmps.setIfInBounds x.1 x.2) q.tmps=(q.params.toList.zip us).foldl (fun tmps (x:Nat × Value)=>tmps.setIfInBounds x.1 x.2) q.tmps:=by
  rw [←Array.foldl_toList,Array.toList_zip]
 show Code.wpIn (W (some l)) 0 P q.assign _ { tmps:=(q.params.zip us.toArray).foldl (fun tmps (x:Nat × Value)=>tmps.setIfInBounds x.1 x.2) q.tmps,defers:=[] } w
 rw [hfold]
 have hk0:EnvOK w.heap (Avail G.Fr s.2.mem β w.heap) s.2.mem β s.2.env { tmps:=q.tmps,defers:=[] }:=by rw [htm]; exact hk
 obtain ⟨k1,k2⟩:=putAll_ok q.params.toList args us s.2.env q.tmps hk0 hu (fun p hp=>by rw [htm,hs]; exact hps p hp) hlen
 have hst:(recOf q s.1).state=.ready:=by simp [recOf,hn]
 obtain ⟨Ga,hGa⟩:∃ Ga:Ground,Ga=⟨G.Fr,s.2.mem,β,w,G.N,[],[]⟩:=⟨_,rfl⟩
 have FrA:∀ b,(⟨G.Fr,s.2.mem,β,w,G.N,[],[]⟩:Ground).Fr b↔G.Fr b:=fun b=>by simp [Ground.Fr]
 have hFrA:Ga.Fr=G.Fr:=by subst hGa; funext b; exact propext (FrA b)
 refine Ha Ga (by subst hGa; rfl) (fun l' h=>by cases h; subst hGa; exact ⟨hF,_,hq⟩) _ r1 _ _ _ (by subst hGa; exact e1) ⟨[],[],fun _=>by subst hGa; rfl,β,?_⟩ ?_
 · have:(Ga.at [] [])=Ga:=by subst hGa; rfl
   rw [this]
   refine ⟨by rw [hFrA]; exact hm,by rw [hFrA]; subst hGa; exact .refl _ _ _ _,by rw [hFrA]; exact k1,?_,?_⟩
   · subst hGa; show _=G.N; rw [←hs,←htm]; exact k2
   · subst hGa; exact ⟨rfl,List.nodup_nil,fun r hr=>(by cases hr),fun r hr=>by cases hr⟩
 · intro a1 w1 ⟨rs1,ls1,hrs1,β1,hB1⟩
   rw [hr1]
   have hrs1:rs1=[]:=by rw [hrs1 rfl]; subst hGa; rfl
   subst hrs1
   have hB1':=RelB.forget (G:=Ga.at [] ls1) hB1
   have hN1:=hB1.2.2.2.1
   have hd1:=hB1.2.2.2.2
   clear hB1
   have hE1:Evo G.Fr s.2.mem β w r1.2.mem β1 w1:=by have:=hB1'.2.1; subst hGa; exact this
   have hm1:MemOK G.Fr r1.2.mem β1 w1.heap:=by have:=hB1'.1; subst hGa; exact this
   have hk1:EnvOK w1.heap (Avail G.Fr r1.2.mem β1 w1.heap) r1.2.mem β1 r1.2.env a1:=by have:=hB1'.2.2; subst hGa; exact this
   have hN1:a1.tmps.size=G.N:=by subst hGa; exact hN1
   have hdef1:a1.defers=[]:=by simpa [Ground.at] using hd1.1
   have hq1:w1.heap[l]?=some (.loop (recOf q s.1)):=by rw [hE1.fo l (Array.getElem?_eq_some_iff.1 hq).1 hF]; exact hq
   refine ⟨_,run_beginRound hq1 hst,?_⟩
   obtain ⟨w2,hw2⟩:∃ w2,w2=w1.putObj l (.loop { recOf q s.1 with state:=.busy }):=⟨_,rfl⟩
   rw [←hw2]
   obtain ⟨c1,c2,c3⟩:=carry_record (q':={ recOf q s.1 with state:=.busy }) hm1 hF
   rw [←hw2] at c1 c2 c3
   have hq2:w2.heap[l]?=some (.loop { recOf q s.1 with state:=.busy }):=by rw [hw2]; exact World.putObj_heap_same (Array.getElem?_eq_some_iff.1 hq1).1
   obtain ⟨Gb,hGb⟩:∃ Gb:Ground,Gb=⟨G.Fr,r1.2.mem,β1,w2,G.N,[],[]⟩:=⟨_,rfl⟩
   have hFrB:Gb.Fr=G.Fr:=by subst hGb; funext b; simp [Ground.Fr]
   refine Hb Gb (by subst hGb; rfl) (fun l' h=>by cases h; subst hGb; exact ⟨hF,_,hq2⟩) _ r2 _ _ _ (by subst hGb; exact e3) ⟨[],[],fun _=>by subst hGb; rfl,β1,?_⟩ ?_
   · have:(Gb.at [] [])=Gb:=by subst hGb; rfl
     rw [this]
     refine ⟨by rw [hFrB]; exact c1,by rw [hFrB]; subst hGb; exact .refl _ _ _ _,by rw [hFrB]; exact fun t=>c2 _ _ (hk1 t),?_,?_⟩
     · subst hGb; exact hN1
     · subst hGb; exact ⟨by simpa using hdef1,List.nodup_nil,fun r hr=>(by cases hr),fun r hr=>by cases hr⟩
   · intro a2 w3 ⟨rs2,ls2,hrs2,β2,hB2⟩
     have hB2':=RelB.forget (G:=Gb.at rs2 ls2) hB2
     clear hB2
     have hE2:Evo G.Fr r1.2.mem β1 w2 r2.2.mem β2 w3:=by have:=hB2'.2.1; subst hGb; exact this
     have hm2:MemOK G.Fr r2.2.mem β2 w3.heap:=by have:=hB2'.1; subst hGb; exact this
     have hq3:w3.heap[l]?=some (.loop { recOf q s.1 with state:=.busy }):=by rw [hE2.fo l (Array.getElem?_eq_some_iff.1 hq2).1 hF]; exact hq2
     obtain ⟨w4,hw4⟩:∃ w4,w4=w3.putObj l (.loop (recOf q r2.1)):=⟨_,rfl⟩
     have B1:RelB G β1 ⟨s.2.env,r1.2.mem⟩ a w1:=⟨hm1,hE.trans hE1,EnvOK.evo hE1 hk,hs,hd.evo (fun r hr=>.inr hr) hE1⟩
     have B2:RelB G β1 ⟨s.2.env,r1.2.mem⟩ a w2:=by rw [hw2]; exact B1.record hl hq1
     obtain ⟨b1,b2,b3,b4,b5⟩:=B2
     have B3:RelB G β2 ⟨s.2.env,r2.2.mem⟩ a w3:=⟨hm2,b2.trans hE2,EnvOK.evo hE2 b3,hs,b5.evo (fun r hr=>.inr hr) hE2⟩
     have B4:RelB G β2 ⟨s.2.env,r2.2.mem⟩ a w4:=by rw [hw4]; exact B3.record hl hq3
     obtain ⟨d1,d2,d3,d4,d5⟩:=B4
     obtain ⟨β3,g1,g2,g3,g4⟩:=ghosts_ok gh d1 d2 d3 e5
     have av4:=(carry_record (q':=recOf q r2.1) hm2 hF).2.2
     rw [←hw4] at av4
     have hlast:∀ (j:Option Code),j=r2.1.jump→(Instr.endRound l j).run P w3=.ok (.bool (decide (r2.1=.normal))) w4:=by
      intro j hj
      have hb:j.isNone=decide (r2.1=.normal):=by subst hj; cases r2.1 <;> simp [Ex.jump]
      rw [run_endRound j hq3,hb,hw4]
      congr 2
      subst hj
      simp only [recOf,decide_eq_true_eq]
     have fin:Ending.returned (.bool (decide (r2.1=.normal)))=.returned (.bool (decide (r2.1=.normal)))∧∃ β',RelB G β' σ3 a w4∧w4.heap[l]?=some (.loop (recOf q r2.1)) ∧
      ∀ b,Avail G.Fr s.2.mem β w.heap b→Avail G.Fr σ3.mem β' w4.heap b∧w4.heap[b]?=w.heap[b]?:=by
      refine ⟨rfl,β3,⟨g1,g2,g3,d4,d5⟩,by rw [hw4]; exact World.putObj_heap_same (Array.getElem?_eq_some_iff.1 hq3).1,fun b hb=>?_⟩
      obtain ⟨x1,y1⟩:=hE1.av b hb
      obtain ⟨x2,y2⟩:=c3 b x1
      obtain ⟨x3,y3⟩:=hE2.av b x2
      obtain ⟨x4,y4⟩:=av4 b x3
      exact ⟨g4 b x4,y4.trans (y3.trans (y2.trans y1))⟩
     revert fin hlast
     obtain ⟨ex,σ2⟩:=r2
     intro hlast fin
     cases ex with
     | normal=>exact ⟨_,_,hlast none rfl,fin⟩
     | exit id=>exact ⟨_,_,hlast _ rfl,fin⟩
     | ret=>exact ⟨_,_,hlast _ rfl,fin⟩

theorem drawn_pre {call:Call} (hc:CallOK P call) {G:Ground} {r:Option Nat} {ops:Array Oper} {Q:Exit→Act→World→Prop} {is:List FI} (hl:is.length=ops.size)
 (ht:∀ (n:Nat) (i:FI) (o:Oper),is[n]?=some i→ops[n]?=some o→TrF P G.N ops i o) (hd:drawOk ops is=true) {y:Nat} (hy:y < ops.size) (hyo:yldOk ops y=true) {σf:St} {f0:Nat} {Ly:Array Bool}
 (hLs:Ly.size=ops.size) (hLy:∀ n,n < ops.size→Ly.getD n true=decide (n < y)) (hK:∀ a' w',RelS G σf a' w'→wpAnyIn (W r) 0 P .any ops Q f0 Ly a' w') :
 ∀ (L:List Nat) (listed:Array Bool) (σ σ':St) (a:Act) (w:World),listed.size=ops.size →
  (∀ n,n∈L↔n < y∧listed.getD n true=false)→(∀ n,y≤n→n < ops.size→listed.getD n true=false)→L.Pairwise (· < ·)→(∀ n o,listed.getD n false=true→ops[n]?=some o→∀ e∈o.after,Region.binds .any e=true→listed.getD e.on false=true) →
  evFs call (L.map fun n=>is.getD n default) σ=some σ'→σ'.eqv σf→RelS G σ a w→wpAnyIn (W r) 0 P .any ops Q (L.length+f0) listed a w:=by
 obtain ⟨hd1,hd2⟩:=drawOk_spec hd
 have hys:=yldOk_spec hyo
 have inst:∀ (listed:Array Bool) (n:Nat),listed.size=ops.size→n < ops.size→∀ d,listed.getD n d=listed[n]?.getD false:=by
  intro listed n hs hn d
  have:n < listed.size:=by omega
  simp [Array.getD_eq_getD_getElem?,Array.getElem?_eq_getElem this]
 have main:∀ (fuel:Nat) (L:List Nat) (listed:Array Bool) (σ σ':St) (a:Act) (w:World),L.length=fuel→listed.size=ops.size →
  (∀ n,n∈L↔n < y∧listed.getD n true=false)→(∀ n,y≤n→n < ops.size→listed.getD n true=false)→L.Pairwise (· < ·)→(∀ n o,listed.getD n false=true→ops[n]?=some o→∀ e∈o.after,Region.binds .any e=true→listed.getD e.on false=true) →
  evFs call (L.map fun n=>is.getD n default) σ=some σ'→σ'.eqv σf→RelS G σ a w→wpAnyIn (W r) 0 P .any ops Q (fuel+f0) listed a w:=by
  intro fuel
  induction fuel with
  | zero =>
   intro L listed σ σ' a w hlen hs hmem hge hp hcl e he hr
   have:L=[]:=List.eq_nil_of_length_eq_zero hlen
   subst this
   simp only [List.map_nil,evFs] at e
   cases e
   have hLL:listed=Ly:=by
    apply Array.ext (hs.trans hLs.symm)
    intro n h1 h2
    have hn:n < ops.size:=by omega
    have k1:=inst listed n hs hn true
    have k2:=inst Ly n hLs hn true
    rw [Array.getElem?_eq_getElem h1] at k1
    rw [Array.getElem?_eq_getElem h2] at k2
    simp only [Option.getD_some] at k1 k2
    rw [←k1,←k2,hLy n hn]
    by_cases c:n < y
    · have:listed.getD n true≠false:=fun c2=>by simpa using (hmem n).2 ⟨c,c2⟩
      simp only [ne_eq,Bool.not_eq_false] at this
      rw [this]; simp [c]
    · rw [hge n (by omega) hn]; simp [c]
   subst hLL
   rw [Nat.zero_add]
   exact hK _ _ (hr.eqv he)
  | succ fuel ih =>
   intro L listed σ σ' a w hlen hs hmem hge hp hcl e he hr
   rw [show fuel+1+f0=(fuel+f0)+1 by omega]
   refine ⟨fun hnil=>?_,fun i hi=>?_⟩
   · exfalso
     cases L with
     | nil=>simp at hlen
     | cons n L =>
      obtain ⟨hny,hn2⟩:=(hmem n).1 (by simp)
      have hn:n < ops.size:=by omega
      have hon:ops[n]?=some ops[n]:=Array.getElem?_eq_getElem hn
      have:n∈Region.ready .any ops listed:=mem_ready.2 ⟨hn2,_,hon,fun e he hb=>by
       have h1:=hd2 n _ (by omega) hon e he hb
       have h2:e.on ∉ n::L:=by
        intro h
        rcases List.mem_cons.1 h with h | h
        · omega
        · have:=(List.pairwise_cons.1 hp).1 _ h; omega
       have h3:¬listed.getD e.on true=false:=fun c=>h2 ((hmem e.on).2 ⟨by omega,c⟩)
       rw [inst listed _ hs (by omega)] at h3 ⊢
       simpa using h3⟩
      rw [hnil] at this
      cases this
   · obtain ⟨hjun,oj,hoj,hall⟩:=mem_ready.1 hi
     have hio:i < ops.size:=(Array.getElem?_eq_some_iff.1 hoj).1
     have hiy:i < y:=by
      refine Decidable.byContradiction fun hge'=>?_
      cases L with
      | nil=>simp at hlen
      | cons n L =>
       obtain ⟨hny,hn2⟩:=(hmem n).1 (by simp)
       have:=before_spec ops (L:=fun j=>listed.getD j false=true) hcl i oj hoj hall n (hys i n hio (by omega) (by omega) (by omega))
       rw [inst listed _ hs (by omega)] at this hn2
       rw [this] at hn2; cases hn2
     have hil:is[i]?=some (is.getD i default):=by
      rw [List.getD_eq_getElem?_getD,List.getElem?_eq_getElem (by omega)]; rfl
     obtain ⟨pre,post,rfl⟩:=List.append_of_mem ((hmem i).2 ⟨hiy,hjun⟩)
     have hpw:=List.pairwise_append.1 hp
     rw [List.map_append,List.map_cons,List.append_cons] at e
     obtain ⟨τ,e1,e2⟩:=evFs_app.1 e
     obtain ⟨τ1,τ',g1,g2,g3⟩:=bubble (fun x hx=>by
      obtain ⟨k,hk,rfl⟩:=List.mem_map.1 hx
      have hki:k < i:=hpw.2.2 k hk i (by simp)
      have hkL:=(hmem k).1 (by simp [hk])
      refine (hd1 i (by omega) k hki).resolve_left fun hb=>?_
      have:=before_spec ops (L:=fun j=>listed.getD j false=true) hcl i oj hoj hall k hb
      have h5:=hkL.2
      rw [inst listed _ hs (by omega)] at this h5
      rw [this] at h5; cases h5) e1
     obtain ⟨σ'',k1,k2⟩:=evFs_eqv g3 e2
     refine step_ok hc hoj (ht i _ oj hil hoj) g1 hr fun a' w' hr'=>?_
     refine ih (pre++post) (listed.setIfInBounds i true) τ1 σ'' a' w' (by simp at hlen ⊢; omega) (by simpa using hs) (fun n=>?_) (fun n h1 h2=>?_) ?_ ?_ ?_ (k2.symm.trans he) hr'
     · by_cases c:n=i
       · subst c
         constructor
         · intro h
           exfalso
           rcases List.mem_append.1 h with h | h
           · have:=hpw.2.2 n h n (by simp); omega
           · have:=(List.pairwise_cons.1 hpw.2.1).1 n h; omega
         · intro h
           exfalso
           have h2:=h.2
           have:n < listed.size:=by omega
           simp [Array.getD_eq_getD_getElem?,this] at h2
       · rw [getD_set_ne true (Ne.symm c),←hmem n]
         simp [c]
     · rw [getD_set_ne true (by omega)]; exact hge n h1 h2
     · refine hp.sublist ?_
       exact List.Sublist.append (List.Sublist.refl _) (List.sublist_cons_self _ _)
     · intro n o h ho ed hed hb
       by_cases c:n=i
       · subst c
         rw [hoj] at ho; cases ho
         exact getD_set_true (hall ed hed hb)
       · rw [getD_set_ne false (Ne.symm c)] at h
         exact getD_set_true (hcl n o h ho ed hed hb)
     · rw [List.map_append]
       exact evFs_app.2 ⟨τ',g2,k1⟩
 intro L listed σ σ' a w
 exact main L.length L listed σ σ' a w rfl

theorem map_range_take {is:List FI} {y:Nat} (hy:y≤is.length):(List.range y).map (fun n=>is.getD n default)=is.take y:=by
 apply List.ext_getElem?
 intro n
 rw [List.getElem?_map,List.getElem?_take]
 by_cases c:n < y
 · rw [List.getElem?_range c,if_pos c]
   simp [List.getD_eq_getElem?_getD,List.getElem?_eq_getElem (show n < is.length by omega)]
 · rw [if_neg c,List.getElem?_eq_none (by simpa using c)]; rfl
theorem map_range_drop {is:List FI} {y m:Nat} (hm:m=is.length - y):(List.range' y m).map (fun n=>is.getD n default)=is.drop y:=by
 apply List.ext_getElem?
 intro n
 rw [List.getElem?_map,List.getElem?_drop]
 by_cases c:n < m
 · rw [List.getElem?_range' c]
   simp [List.getD_eq_getElem?_getD,List.getElem?_eq_getElem (show y+n < is.length by omega)]
 · rw [List.getElem?_eq_none (show is.length≤y+n by omega),List.getElem?_eq_none (by simp; omega)]; rfl

theorem blkSize_putO {w:World} {l:Nat} {o o':Obj} (h:w.heap[l]?=some o) (ho:∀ c T s,o≠.cells c T s) (ho':∀ c T s,o'≠.cells c T s) (b:Nat):blkSize (w.putObj l o').heap b=blkSize w.heap b:=by
 by_cases c:b=l
 · subst c
   have hlt:=(Array.getElem?_eq_some_iff.1 h).1
   simp only [blkSize,World.putObj_heap_same hlt,h]
   cases o <;> cases o' <;> first | rfl | exact absurd rfl (ho _ _ _) | exact absurd rfl (ho' _ _ _)
 · exact blkSize_congr (World.putObj_heap_other c)
theorem leaves_marks {F:Fence} {n:Nat} {fn:Func} {R:Ending→World→Prop} {G:Ground} {β:Place} {σ:St} {a:Act} (hge:∀ r∈G.rs,G.w0.heap.size≤r)
 (H:∀ w',MemOK G.Fr σ.mem β w'.heap→Evo G.Fr G.m0 G.β0 G.w0 σ.mem β w'→EnvOK w'.heap (Avail G.Fr σ.mem β w'.heap) σ.mem β σ.env a→LeavesIn F n P fn a.tmps R [] .returning w') :
 ∀ (L:List Nat) (w:World),(∀ r∈L,r∈G.rs∧w.heap[r]?=some (.deferred (some [])))→L.Nodup→MemOK G.Fr σ.mem β w.heap→Evo G.Fr G.m0 G.β0 G.w0 σ.mem β w→EnvOK w.heap (Avail G.Fr σ.mem β w.heap) σ.mem β σ.env a →
  LeavesInM F n P fn a.tmps R (L.map fun r=>{ target:=.collected r,args:=#[] }) .returning w
 | [],w,_,_,hm,hE,hk=>H w hm hE hk
 | r::L,w,hL,hn,hm,hE,hk=>by
  obtain ⟨hr,hw⟩:=hL r (by simp)
  have hF:G.Fr r:=.inr hr
  have hA:∀ b,Avail G.Fr σ.mem β w.heap b→Avail G.Fr σ.mem β (w.putObj r (.deferred none)).heap b∧(w.putObj r (.deferred none)).heap[b]?=w.heap[b]?:=fun b hb =>
   ⟨⟨by rw [World.putObj_size]; exact hb.1,hb.2⟩,World.putObj_heap_other fun c=>hb.2.1 (c ▸ hF)⟩
  have hO:∀ b,Owned σ.mem β b→(w.putObj r (.deferred none)).heap[b]?=w.heap[b]?:=fun b hb=>World.putObj_heap_other fun c=>hm.nf b hb (c ▸ hF)
  refine ⟨by simp,.inl ⟨r,_,rfl,run_takeDeferred hw,?_⟩⟩
  refine leaves_marks hge H L _ (fun r' hr'=>⟨(hL r' (by simp [hr'])).1,?_⟩) (List.nodup_cons.1 hn).2 (carry_m hA hO hm.nf (fun b hb=>by rw [World.putObj_size]; exact hm.fl b hb) hm) ?_ (fun t=>carry_v hA hO (hk t))
  · have hne:r'≠r:=fun c=>(List.nodup_cons.1 hn).1 (c ▸ hr')
    rw [World.putObj_heap_other hne]
    exact (hL r' (by simp [hr'])).2
  · refine hE.carry rfl rfl ⟨rfl,Nat.le_refl _⟩ (by rw [World.putObj_size]; exact Nat.le_refl _) (fun _ _=>Iff.rfl) (fun b hb=>World.putObj_heap_other fun c=>?_) (blkSize_putO hw (by intro c T s h; cases h) (by intro c T s h; cases h))
    have:=hge r hr; omega
end

section
variable {P:Program}

theorem seq_then {call:Call} (hc:CallOK P call) {G:Ground} {r:Option Nat} {ops:Array Oper} {Q:Exit→Act→World→Prop} {rest:List Nat}:∀ (is:List FI) (ns:List Nat) (σ σ':St) (a:Act) (w:World),
 All2 (fun i n=>∃ o,ops[n]?=some o∧TrF P G.N ops i o) is ns→evFs call is σ=some σ'→RelS G σ a w→(∀ a' w',RelS G σ' a' w'→wpOpsIn (W r) 0 P ops Q rest a' w')→wpOpsIn (W r) 0 P ops Q (ns++rest) a w:=by
 intro is
 induction is with
 | nil=>intro ns σ σ' a w h e hr hQ; cases h; simp only [evFs] at e; cases e; exact hQ _ _ hr
 | cons i is ih =>
  intro ns σ σ' a w h e hr hQ
  cases h with
  | cons h1 t =>
   obtain ⟨o,g1,g2⟩:=h1
   simp only [evFs] at e
   obtain ⟨σ1,e1,e2⟩:=bind_some' e
   rw [List.cons_append,wpOpsIn_cons]
   exact step_ok hc g1 g2 e1 hr fun a' w' hr'=>ih _ _ _ _ _ t e2 hr' hQ

structure Side (P:Program) {S:Type} (N l:Nat) (rd:List V→S→Option (Bool × S)) (Rel:S→St→Act→World→Prop):Prop where
 side:∀ s σ a w,Rel s σ a w→∃ G:Ground,G.m0=[]∧G.N=N∧RelS G σ a w∧∀ σ' a' w',σ'.mem=[]→RelS G σ' a' w'→Rel s σ' a' w'
 yld:∀ s s' σ a w (ops:Array Oper) (n:Nat) (o:Oper) x args d b (K:Act→World→Prop) (Q:Exit→Act→World→Prop),Rel s σ a w→σ.mem=[]→ops[n]?=some o→TrF P N ops ⟨none,some d,.callv x args⟩ o→callvOp o.op=true →
  σ.arg x=.one (.d (.fn (.yield l) []))→rd (args.map σ.arg) s=some (b,s')→(∀ a' w',Rel s' ⟨σ.env.put d (.bool b),[]⟩ a' w'→K a' w')→wpOpIn (W none) 0 P ops Q n K a w

theorem yld_ok {call:Call} (hc:CallOK P call) (hP:P.follows .mixedOrders=true) {S:Type} {N k l:Nat} {rd:List V→S→Option (Bool × S)} {Rel:S→St→Act→World→Prop} (hS:Side P N l rd Rel)
 {id:Nat} {ops:Array Oper} {draw:Bool} {is0 is:List FI} {pre0 pre:List (List Nat)} {y y1:Nat} {gh0 gh:List Ghost} (ht:trCode P N (.region id ops draw) (.yld is0 pre0 y gh0)=some (.yld is pre y1 gh))
 {σ:St} {s:S} {x:Ex × (St × S)} (e:evGen call k l rd (.yld is pre y1 gh) (σ,s)=some x) {a:Act} {w:World} (hr:Rel s σ a w) {Q:Exit→Act→World→Prop} (hQ:∀ a' w',x.1=.normal→Rel x.2.2 x.2.1 a' w'→Q .normal a' w') :
 (Code.region id ops draw).wpIn (W none) 0 P Q a w:=by
 have ht1:(trD P N ops is0 pre0 ops.toList).bind (fun is'=>if (!draw || (drawOk ops is' && yldOk ops y)) && (match ops[y]? with | some o=>callvOp o.op | none=>false) then some (MCode.yld is' pre0 y gh0) else none)=some (.yld is pre y1 gh):=by
  cases draw <;> exact ht
 clear ht
 obtain ⟨is',t1,t2⟩:=bind_some' ht1
 clear ht1
 rw [Option.ite_none_right_eq_some,Bool.and_eq_true] at t2
 obtain ⟨⟨hdraw,hcv⟩,t2⟩:=t2
 cases t2
 obtain ⟨h1,h2,h3⟩:=trD_spec t1
 simp only [Array.length_toList] at h1 h2
 have hTr:∀ (n:Nat) (i:FI) (o:Oper),is[n]?=some i→ops[n]?=some o→TrF P N ops i o:=by
  intro n i o hi ho
  have:=(h3 n o (by simpa using ho)).1
  rwa [List.getD_eq_getElem?_getD,hi] at this
 simp only [evGen] at e
 obtain ⟨σ1,e1,e2⟩:=bind_some' e
 clear e
 obtain ⟨en1,m1⟩:=σ1
 split at e2
 case h_2=>cases e2
 case h_1 d xa args hm1 hop =>
 simp only at hm1
 subst hm1
 split at e2
 case h_2=>cases e2
 case h_1 l' hx =>
 split at e2
 case isFalse=>cases e2
 case isTrue hll =>
 subst hll
 obtain ⟨r,e3,e4⟩:=bind_some' e2
 obtain ⟨σ2,e5,e6⟩:=bind_some' e4
 obtain ⟨σ3,e7,e8⟩:=bind_some' e6
 clear e2 e4 e6
 split at e8
 case h_2=>cases e8
 case h_1 hm3 =>
 cases e8
 have hy:y < is.length:=by
  refine Decidable.byContradiction fun c=>?_
  rw [List.getD_eq_getElem?_getD,List.getElem?_eq_none (by omega)] at hop
  cases hop
 have hyo:y < ops.size:=by omega
 have hoy:ops[y]?=some ops[y]:=Array.getElem?_eq_getElem hyo
 rw [hoy] at hcv
 simp only [] at hcv
 have hTy:TrF P N ops ⟨none,some d,.callv xa args⟩ ops[y]:=hop ▸ (h3 y _ (by rw [Array.getElem?_toList]; exact hoy)).1
 have last:∀ a' w',Rel r.2 ⟨en1.put d (.bool r.1),[]⟩ a' w'→∃ G:Ground,G.N=N∧RelS G ⟨en1.put d (.bool r.1),[]⟩ a' w'∧∀ a'' w'',RelS G σ2 a'' w''→Q .normal a'' w'':=by
  intro a' w' h
  obtain ⟨G,g1,g2,g3,g4⟩:=hS.side _ _ _ _ h
  refine ⟨G,g2,g3,fun a'' w'' h'=>hQ _ _ rfl (g4 _ _ _ hm3 (h'.ghosts (by rw [g1]; exact e7)))⟩
 have mid:∀ (K:Act→World→Prop) a' w',Rel s ⟨en1,[]⟩ a' w'→(∀ a'' w'',Rel r.2 ⟨en1.put d (.bool r.1),[]⟩ a'' w''→K a'' w'')→wpOpIn (W none) 0 P ops Q y K a' w':=fun K a' w' h hK =>
  hS.yld s r.2 ⟨en1,[]⟩ a' w' ops y _ xa args d r.1 K Q h rfl hoy hTy hcv hx e3 hK
 cases draw with
 | false =>
  refine wpIn_region ?_
  have hrange:List.range ops.size=List.range y++(y::List.range' (y+1) (ops.size - (y+1))):=by
   rw [List.range_eq_range',List.range_eq_range']
   have:y::List.range' (y+1) (ops.size - (y+1))=List.range' y (ops.size - y):=by
    rw [show ops.size - y=(ops.size - (y+1))+1 by omega,List.range'_succ]
   rw [this,show List.range' y (ops.size - y)=List.range' (0+1*y) (ops.size - y) by simp,List.range'_append,show y+(ops.size - y)=ops.size by omega]
  rw [hrange]
  obtain ⟨G,g1,g2,g3,g4⟩:=hS.side _ _ _ _ hr
  refine seq_then hc (G:=G) (is.take y) (List.range y) σ ⟨en1,[]⟩ a w ?_ e1 g3 fun a1 w1 hr1=>?_
  · refine All2.of_get (by simp; omega) fun n i j hi hj=>?_
    have hn:n < y:=by have:=(List.getElem?_eq_some_iff.1 hj).1; simpa using this
    rw [List.getElem?_range hn] at hj; cases hj
    rw [List.getElem?_take,if_pos hn] at hi
    have hlt:n < ops.size:=by omega
    exact ⟨ops[n],Array.getElem?_eq_getElem hlt,g2 ▸ hTr n i _ hi (Array.getElem?_eq_getElem hlt)⟩
  · rw [wpOpsIn_cons]
    refine mid _ a1 w1 (g4 _ _ _ rfl hr1) fun a2 w2 hr2=>?_
    obtain ⟨G2,k1,k2,k3⟩:=last a2 w2 hr2
    refine seq_ok hc (G:=G2) (is.drop (y+1)) _ _ σ2 a2 w2 ?_ e5 k2 k3
    refine All2.of_get (by simp; omega) fun n i j hi hj=>?_
    have hn:n < ops.size - (y+1):=by have:=(List.getElem?_eq_some_iff.1 hj).1; simpa using this
    rw [List.getElem?_range' hn] at hj; cases hj
    rw [List.getElem?_drop] at hi
    have hlt:y+1+1*n < ops.size:=by omega
    rw [Nat.one_mul]
    exact ⟨ops[y+1+n],Array.getElem?_eq_getElem (by omega),k1 ▸ hTr _ i _ hi (Array.getElem?_eq_getElem (by omega))⟩
 | true =>
  simp only [Bool.not_true,Bool.false_or,Bool.and_eq_true] at hdraw
  refine wpIn_region_any hP ?_
  obtain ⟨G,g1,g2,g3,g4⟩:=hS.side _ _ _ _ hr
  obtain ⟨Ly,hLy⟩:∃ Ly:Array Bool,Ly=(Array.range ops.size).map fun n=>decide (n < y):=⟨_,rfl⟩
  have hLs:Ly.size=ops.size:=by rw [hLy]; simp
  have hLg:∀ n,n < ops.size→∀ d,Ly.getD n d=decide (n < y):=by
   intro n hn d
   rw [hLy,Array.getD_eq_getD_getElem?]
   simp [hn]
  have hcl:∀ n o,Ly.getD n false=true→ops[n]?=some o→∀ e∈o.after,Region.binds .any e=true→Ly.getD e.on false=true:=by
   intro n o h ho ed hed hb
   have hn:=(Array.getElem?_eq_some_iff.1 ho).1
   rw [hLg n hn] at h
   have:=(drawOk_spec hdraw.1).2 n o (by omega) ho ed hed hb
   rw [hLg _ (by omega)]
   simp at h ⊢; omega
  have e1':evFs call ((List.range y).map fun n=>is.getD n default) σ=some ⟨en1,[]⟩:=by rw [map_range_take (by omega)]; exact e1
  have hlen:ops.size=(List.range y).length+(ops.size - y):=by simp; omega
  rw [hlen]
  have harr:Array.replicate ((List.range y).length+(ops.size - y)) false=Array.replicate ops.size false:=by rw [←hlen]
  rw [harr]
  refine drawn_pre hc (G:=G) (is:=is) (by omega) (fun n i o hi ho=>g2 ▸ hTr n i o hi ho) hdraw.1 hyo hdraw.2 (σf:=⟨en1,[]⟩) hLs (fun n hn=>hLg n hn true) (fun a1 w1 hr1=>?_)
   (List.range y) (Array.replicate ops.size false) σ ⟨en1,[]⟩ a _ (by simp) (fun n=>?_) (fun n h1 h2=>?_) List.pairwise_lt_range (fun n o h ho=>?_) e1' (.refl _) g3.draw
  ·
    rw [show ops.size - y=(ops.size - (y+1))+1 by omega]
    have hrdy:∀ i∈Region.ready .any ops Ly,i=y:=by
     intro i hi
     obtain ⟨hju,oj,hoj,hall⟩:=mem_ready.1 hi
     have hio:=(Array.getElem?_eq_some_iff.1 hoj).1
     rw [hLg i hio] at hju
     simp at hju
     refine Decidable.byContradiction fun c=>?_
     have:=before_spec ops (L:=fun j=>Ly.getD j false=true) hcl i oj hoj hall y (yldOk_spec hdraw.2 i y hio (by omega) (by omega) (by omega))
     rw [hLg y hyo] at this
     simp at this
    refine ⟨fun hnil=>?_,fun i hi=>?_⟩
    · exfalso
      have:y∈Region.ready .any ops Ly:=mem_ready.2 ⟨by rw [hLg y hyo]; simp,_,hoy,fun ed hed hb=>by
       have:=(drawOk_spec hdraw.1).2 y _ (by omega) hoy ed hed hb
       rw [hLg _ (by omega)]; simp; omega⟩
      rw [hnil] at this
      cases this
    · have:=hrdy i hi
      subst this
      refine mid _ a1 w1 (g4 _ _ _ rfl hr1) fun a2 w2 hr2=>?_
      obtain ⟨G2,k1,k2,k3⟩:=last a2 w2 hr2
      have hset:∀ n,n < ops.size→∀ d,(Ly.setIfInBounds i true).getD n d=decide (n < i+1):=by
       intro n hn d
       by_cases c:n=i
       · subst c
         have:n < Ly.size:=by omega
         simp [Array.getD_eq_getD_getElem?,this]
       · rw [getD_set_ne d (Ne.symm c),hLg n hn]
         simp; omega
      refine drawn_ok hc (G:=G2) (is:=is) (σf:=σ2) (by omega) (fun n i o hi ho=>k1 ▸ hTr n i o hi ho) hdraw.1 k3 (ops.size - (i+1)) _ (List.range' (i+1) (ops.size - (i+1))) _ σ2 a2 w2 (by simpa using hLs) (by simp) (fun n=>?_) (List.pairwise_lt_range' 1 (by decide)) (fun n o h ho ed hed hb=>?_) ?_ (.refl _) k2
      · rw [List.mem_range'_1]
        constructor
        · intro h
          have hn:n < ops.size:=by omega
          rw [hset n hn]
          simp; omega
        · intro ⟨hn,h⟩
          rw [hset n hn] at h
          simp at h; omega
      · have hn:=(Array.getElem?_eq_some_iff.1 ho).1
        rw [hset n hn] at h
        have:=(drawOk_spec hdraw.1).2 n o (by omega) ho ed hed hb
        rw [hset _ (by omega)]
        simp at h ⊢; omega
      · rw [map_range_drop (by omega)]; exact e5
  · rw [List.mem_range]
    constructor
    · intro h; exact ⟨h,by simp [show n < ops.size by omega]⟩
    · exact fun h=>h.1
  · simp [h2]
  · exfalso
    have:=(Array.getElem?_eq_some_iff.1 ho).1
    simp [this] at h

theorem stepR_scope {b:Frame} {k:List Item} {cs:List Frame} {c:Code} {a:Act} {w:World}:step P (lone (b.atR a (.code (.scope c)::k)) cs w)=.next (lone (b.atR a (.code c::.inScope c::k)) cs w) :=
 step_lone_go (by simp [stepG,stepG.exec,Frame.atR])
theorem stepR_inScope {b:Frame} {k:List Item} {cs:List Frame} {c:Code} {a:Act} {w:World}:step P (lone (b.atR a (.inScope c::k)) cs w)=.next (lone (b.atR a k) cs w) :=
 step_lone_go (by simp [stepG,stepG.exec,Frame.atR])
theorem wpIn_scope {F:Fence} {n:Nat} {Q:Exit→Act→World→Prop} {a:Act} {w:World} {c:Code} (h:c.wpIn F n P (Exit.noGoto Q) a w):(Code.scope c).wpIn F n P Q a w:=by
 intro b k cs hro hb hr
 have h0:(lone (b.atR a (.code (.scope c)::k)) cs w).fenced P F:=fenced_calm hb hr rfl
 obtain ⟨e,a₁,w₁,hq,harr⟩:=h b (.inScope c::k) cs hro hb hr
 cases e with
 | normal=>exact ⟨.normal,a₁,w₁,hq,.head h0 stepR_scope (StepsIn.trans harr (.one (fenced_calm hb hr rfl) stepR_inScope))⟩
 | exit id=>exact ⟨.exit id,a₁,w₁,hq,.of_steps (.one h0 stepR_scope) ⟨fun k' hk=>harr.1 k' (by simp [exitTo,hk]),fun hro hk=>harr.2 hro (by simp [exitTo,hk])⟩⟩
 | goto l=>exact hq.elim
 | ret=>exact ⟨_,a₁,w₁,hq,.of_steps (.one h0 stepR_scope) harr⟩
 | panic ch=>exact ⟨_,a₁,w₁,hq,.of_steps (.one h0 stepR_scope) harr⟩
 | outgrown=>exact ⟨_,a₁,w₁,hq,.of_steps (.one h0 stepR_scope) harr⟩

def GenOk (P:Program) {S:Type} (call:Call) (k N l:Nat) (rd:List V→S→Option (Bool × S)) (Rel:S→St→Act→World→Prop) (c:Code) (mc:MCode):Prop :=
 ∀ (mc':MCode) (σ:St) (s:S) (x:Ex × (St × S)) (a:Act) (w:World) (Q:Exit→Act→World→Prop),
  trCode P N c mc=some mc'→evGen call k l rd mc' (σ,s)=some x→Rel s σ a w→(∀ a' w',Rel x.2.2 x.2.1 a' w'→Q x.1.to a' w')→c.wpIn (W none) 0 P Q a w
theorem gstrip {S:Type} {call:Call} {k N l:Nat} {rd:List V→S→Option (Bool × S)} {Rel:S→St→Act→World→Prop} (hS:Side P N l rd Rel) {c:Code}
 (H:∀ mc,(∀ gs y,mc≠.gh gs y)→GenOk P call k N l rd Rel c mc):∀ mc,GenOk P call k N l rd Rel c mc:=by
 intro mc
 induction mc with
 | gh gs y ih =>
  intro mc' σ s x a w Q ht e hr hQ
  have ht:(trCode P N c y).map (.gh gs)=some mc':=by cases c <;> first | exact ht | (rename_i o _ _; cases o <;> exact ht)
  obtain ⟨y',h1,rfl⟩:=Option.map_eq_some_iff.1 ht
  simp only [evGen] at e
  obtain ⟨σ1,h2,h3⟩:=bind_some' e
  split at h3
  case h_2=>cases h3
  case h_1 hm =>
  obtain ⟨G,g1,g2,g3,g4⟩:=hS.side _ _ _ _ hr
  exact ih y' σ1 s x a w Q h1 h3 (g4 _ _ _ hm (g3.ghosts (by rw [g1]; exact h2))) hQ
 | _=>exact H _ (by intro gs y h; cases h)

theorem tr_bad {N:Nat}:∀ (c:Code) (mc':MCode),trCode P N c .bad=some mc'→mc'=.bad:=by
 intro c mc' ht
 cases c <;> simp only [trCode] at ht <;> first | (cases ht; rfl) | (rename_i o _ _; cases o <;> simp only [trCode] at ht <;> cases ht <;> rfl)

theorem gen_ok {call:Call} (hc:CallOK P call) (hP:P.follows .mixedOrders=true) {S:Type} {k N l:Nat} {rd:List V→S→Option (Bool × S)} {Rel:S→St→Act→World→Prop} (hS:Side P N l rd Rel) :
 ∀ (c:Code) (mc:MCode),GenOk P call k N l rd Rel c mc:=by
 intro c
 have bad:∀ (c:Code) (mc':MCode) (σ:St × S) (x:Ex × (St × S)),trCode P N c .bad=some mc'→evGen call k l rd mc' σ=some x→False:=by
  intro c mc' σ x ht e
  have:=tr_bad c mc' ht
  subst this
  simp only [evGen] at e
  cases e
 induction c with
 | skip =>
  refine gstrip hS fun mc hng=>?_
  intro mc' σ s x a w Q ht e hr hQ
  by_cases hb:mc=.bad
  · subst hb; exact (bad _ _ _ _ ht e).elim
  cases mc <;> simp only [trCode,reduceCtorEq] at ht <;> first | (exact absurd rfl hb) | (exact absurd rfl (hng _ _)) | skip
  cases ht
  simp only [evGen] at e
  cases e
  exact wpIn_skip (hQ _ _ hr)
 | label l =>
  refine gstrip hS fun mc hng=>?_
  intro mc' σ s x a w Q ht e hr hQ
  by_cases hb:mc=.bad
  · subst hb; exact (bad _ _ _ _ ht e).elim
  cases mc <;> simp only [trCode,reduceCtorEq] at ht <;> first | (exact absurd rfl hb) | (exact absurd rfl (hng _ _)) | skip
  cases ht
  simp only [evGen] at e
  cases e
  exact wpIn_label (hQ _ _ hr)
 | region id ops draw =>
  refine gstrip hS fun mc hng=>?_
  intro mc' σ s x a w Q ht e hr hQ
  by_cases hb:mc=.bad
  · subst hb; exact (bad _ _ _ _ ht e).elim
  cases mc with
  | reg ms gh =>
   have h2:∃ is,mc'=.reg is gh:=by
    simp only [trCode] at ht
    obtain ⟨y,t1,t2⟩:=bind_some' ht
    split at t2
    · split at t2
      · cases t2; exact ⟨_,rfl⟩
      · cases t2
    · cases t2
   obtain ⟨is,rfl⟩:=h2
   simp only [evGen] at e
   obtain ⟨σ1,e1,e2⟩:=bind_some' e
   obtain ⟨σ2,e3,e4⟩:=bind_some' e2
   split at e4
   case h_2=>cases e4
   case h_1 hm =>
   cases e4
   obtain ⟨G,g1,g2,g3,g4⟩:=hS.side _ _ _ _ hr
   refine region_ok (X:=fun _=>none) hc hP (G:=G) (k:=k) (g2 ▸ ht) (x:=(.normal,σ2)) (by simp only [evC,e1,g1,List.length_nil,e3,Option.bind_some]) g3 fun a' w' _ hr'=>hQ a' w' (g4 _ _ _ hm hr')
  | regD ms pre gh =>
   cases draw with
   | false=>simp only [trCode,reduceCtorEq] at ht
   | true =>
    have h2:∃ is,mc'=.regD is pre gh:=by
     simp only [trCode] at ht
     obtain ⟨is,_,t2⟩:=Option.map_eq_some_iff.1 ht
     exact ⟨is,t2.symm⟩
    obtain ⟨is,rfl⟩:=h2
    simp only [evGen] at e
    obtain ⟨σ1,e1,e2⟩:=bind_some' e
    split at e2
    case h_2=>cases e2
    case h_1 hm =>
    cases e2
    obtain ⟨G,g1,g2,g3,g4⟩:=hS.side _ _ _ _ hr
    refine regionD_ok (X:=fun _=>none) hc hP (G:=G) (k:=k) (g2 ▸ ht) (x:=(.normal,σ1)) (by simp only [evC,g1,List.length_nil,e1,Option.bind_some]) g3 fun a' w' _ hr'=>hQ a' w' (g4 _ _ _ hm hr')
  | yld is0 pre y gh =>
   have h2:∃ is y1,mc'=.yld is pre y1 gh:=by
    have ht1:(trD P N ops is0 pre ops.toList).bind (fun is'=>if (!draw || (drawOk ops is' && yldOk ops y)) && (match ops[y]? with | some o=>callvOp o.op | none=>false) then some (MCode.yld is' pre y gh) else none)=some mc':=by
     cases draw <;> exact ht
    obtain ⟨is',t1,t2⟩:=bind_some' ht1
    rw [Option.ite_none_right_eq_some] at t2
    exact ⟨is',y,(Option.some.inj t2.2).symm⟩
   obtain ⟨is,y1,rfl⟩:=h2
   refine yld_ok hc hP hS ht e hr fun a' w' hn hr'=>?_
   have:=hQ a' w' hr'
   rw [hn] at this
   exact this
  | bad=>exact absurd rfl hb
  | gh gs y=>exact absurd rfl (hng _ _)
  | _=>simp only [trCode,reduceCtorEq] at ht
 | seq c1 c2 ih1 ih2 =>
  refine gstrip hS fun mc hng=>?_
  intro mc' σ s x a w Q ht e hr hQ
  by_cases hb:mc=.bad
  · subst hb; exact (bad _ _ _ _ ht e).elim
  cases mc <;> simp only [trCode,reduceCtorEq] at ht <;> first | (exact absurd rfl hb) | (exact absurd rfl (hng _ _)) | skip
  rename_i m1 m2
  obtain ⟨y1,t1,t2⟩:=bind_some' ht
  cases hy:trCode P N c2 m2 with
  | none=>rw [hy] at t2; cases t2
  | some y2 =>
   rw [hy] at t2
   cases t2
   simp only [evGen] at e
   obtain ⟨z,e1,e2⟩:=bind_some' e
   refine wpIn_seq (ih1 _ _ _ _ _ _ _ _ t1 e1 hr fun a' w' hr'=>?_)
   obtain ⟨ex,σ1,s1⟩:=z
   cases ex with
   | normal=>exact ih2 _ _ _ _ _ _ _ _ hy e2 hr' hQ
   | exit id=>cases e2; exact hQ _ _ hr'
   | ret=>cases e2; exact hQ _ _ hr'
 | cond o c1 c2 ih1 ih2 =>
  refine gstrip hS fun mc hng=>?_
  intro mc' σ s x a w Q ht e hr hQ
  by_cases hb:mc=.bad
  · subst hb; exact (bad _ _ _ _ ht e).elim
  by_cases hcv:∃ v,o=.const v
  · obtain ⟨v,rfl⟩:=hcv
    obtain ⟨t,m,m',rfl,rfl,rfl,h1⟩:=trCode_const ht hb hng
    simp only [evGen] at e
    refine wpIn_cond (t:=t) rfl ?_
    cases t with
    | true=>exact ih1 _ _ _ _ _ _ _ _ (by simpa using h1) e hr hQ
    | false=>exact ih2 _ _ _ _ _ _ _ _ (by simpa using h1) e hr hQ
  cases o <;> first | (exact absurd ⟨_,rfl⟩ hcv) | (cases mc <;> simp only [trCode,reduceCtorEq] at ht <;> first | (exact absurd rfl hb) | (exact absurd rfl (hng _ _)) | skip)
  rename_i t t0 m1 m2
  obtain ⟨y1,t1,t2⟩:=bind_some' ht
  cases hy:trCode P N c2 m2 with
  | none=>rw [hy] at t2; cases t2
  | some y2 =>
   rw [hy] at t2
   cases t2
   simp only [evGen] at e
   obtain ⟨p,hp,e2⟩:=bind_some' e
   have hv:a.eval (.tmp t)=.bool p:=by
    obtain ⟨G,g1,g2,g3,g4⟩:=hS.side _ _ _ _ hr
    obtain ⟨β,_,_,h3,_,_⟩:=g3
    have:=h3 t
    generalize σ.env.get t=v at hp this
    unfold V.bool? at hp
    split at hp <;> cases hp
    have this:RepD _ _ (.bool p) (a.tmps.getD t undef):=this
    generalize hq:a.tmps.getD t undef=q at this
    cases this
    exact hq
   refine wpIn_cond hv ?_
   cases p with
   | true=>exact ih1 _ _ _ _ _ _ _ _ t1 e2 hr hQ
   | false=>exact ih2 _ _ _ _ _ _ _ _ hy e2 hr hQ
 | block id c ih =>
  refine gstrip hS fun mc hng=>?_
  intro mc' σ s x a w Q ht e hr hQ
  by_cases hb:mc=.bad
  · subst hb; exact (bad _ _ _ _ ht e).elim
  cases mc <;> simp only [trCode,reduceCtorEq] at ht <;> first | (exact absurd rfl hb) | (exact absurd rfl (hng _ _)) | skip
  rename_i id0 m
  cases hy:trCode P N c m with
  | none=>rw [hy] at ht; cases ht
  | some y =>
   rw [hy] at ht
   cases ht
   simp only [evGen] at e
   obtain ⟨z,e1,e2⟩:=bind_some' e
   refine wpIn_block (ih _ _ _ _ _ _ _ _ hy e1 hr fun a' w' hr'=>?_)
   obtain ⟨ex,σ1,s1⟩:=z
   cases ex with
   | normal=>cases e2; exact hQ _ _ hr'
   | ret=>cases e2; exact hQ _ _ hr'
   | exit id' =>
    simp only [] at e2
    show Exit.inBlock id Q (.exit id') a' w'
    simp only [Exit.inBlock]
    split at e2
    · rename_i h; rw [if_pos h]; cases e2; exact hQ _ _ hr'
    · rename_i h; rw [if_neg h]; cases e2; exact hQ _ _ hr'
 | loop c ih =>
  refine gstrip hS fun mc hng=>?_
  intro mc' σ s x a w Q ht e hr hQ
  by_cases hb:mc=.bad
  · subst hb; exact (bad _ _ _ _ ht e).elim
  cases mc <;> simp only [trCode,reduceCtorEq] at ht <;> first | (exact absurd rfl hb) | (exact absurd rfl (hng _ _)) | skip
  rename_i m
  cases hy:trCode P N c m with
  | none=>rw [hy] at ht; cases ht
  | some y =>
   rw [hy] at ht
   cases ht
   simp only [evGen] at e
   refine wpIn_loop_rounds k ?_
   suffices H:∀ (j:Nat) (σ:St) (s:S) (a:Act) (w:World),iter (evGen call k l rd y) j (σ,s)=some x→Rel s σ a w→Code.roundsIn (W none) 0 P c Q j a w from H k σ s a w e hr
   intro j
   induction j with
   | zero=>intro σ s a w e; simp only [iter] at e; cases e
   | succ j ihj =>
    intro σ s a w e hr
    simp only [iter] at e
    obtain ⟨z,e1,e2⟩:=bind_some' e
    refine ih _ _ _ _ _ _ _ _ hy e1 hr fun a' w' hr'=>?_
    obtain ⟨ex,σ1,s1⟩:=z
    cases ex with
    | normal=>exact ihj σ1 s1 a' w' e2 hr'
    | exit id=>cases e2; exact hQ _ _ hr'
    | ret=>cases e2; exact hQ _ _ hr'
 | scope c ih =>
  refine gstrip hS fun mc hng=>?_
  intro mc' σ s x a w Q ht e hr hQ
  by_cases hb:mc=.bad
  · subst hb; exact (bad _ _ _ _ ht e).elim
  cases mc <;> simp only [trCode,reduceCtorEq] at ht <;> first | (exact absurd rfl hb) | (exact absurd rfl (hng _ _)) | skip
  rename_i m
  cases hy:trCode P N c m with
  | none=>rw [hy] at ht; cases ht
  | some y =>
   rw [hy] at ht
   cases ht
   simp only [evGen] at e
   refine wpIn_scope (ih _ _ _ _ _ _ _ _ hy e hr fun a' w' hr'=>?_)
   have:=hQ a' w' hr'
   obtain ⟨ex,σ1⟩:=x
   cases ex <;> exact this
 | exit id =>
  refine gstrip hS fun mc hng=>?_
  intro mc' σ s x a w Q ht e hr hQ
  by_cases hb:mc=.bad
  · subst hb; exact (bad _ _ _ _ ht e).elim
  cases mc <;> simp only [trCode,reduceCtorEq] at ht <;> first | (exact absurd rfl hb) | (exact absurd rfl (hng _ _)) | skip
  cases ht
  simp only [evGen] at e
  cases e
  exact wpIn_exit (hQ _ _ hr)
 | ret =>
  refine gstrip hS fun mc hng=>?_
  intro mc' σ s x a w Q ht e hr hQ
  by_cases hb:mc=.bad
  · subst hb; exact (bad _ _ _ _ ht e).elim
  cases mc <;> simp only [trCode,reduceCtorEq] at ht <;> first | (exact absurd rfl hb) | (exact absurd rfl (hng _ _)) | skip
  cases ht
  simp only [evGen] at e
  cases e
  exact wpIn_ret (hQ _ _ hr)
 | goto l =>
  refine gstrip hS fun mc hng=>?_
  intro mc' σ s x a w Q ht e
  by_cases hb:mc=.bad
  · subst hb; exact (bad _ _ _ _ ht e).elim
  cases mc <;> simp only [trCode,reduceCtorEq] at ht <;> first | (exact absurd rfl hb) | (exact absurd rfl (hng _ _)) | skip
 | refuse l =>
  refine gstrip hS fun mc hng=>?_
  intro mc' σ s x a w Q ht e
  by_cases hb:mc=.bad
  · subst hb; exact (bad _ _ _ _ ht e).elim
  cases mc <;> simp only [trCode,reduceCtorEq] at ht <;> first | (exact absurd rfl hb) | (exact absurd rfl (hng _ _)) | skip
 | rangeFunc f ps as b =>
  refine gstrip hS fun mc hng=>?_
  intro mc' σ s x a w Q ht e
  by_cases hb:mc=.bad
  · subst hb; exact (bad _ _ _ _ ht e).elim
  cases mc <;> simp only [trCode,reduceCtorEq] at ht <;> first | (exact absurd rfl hb) | (exact absurd rfl (hng _ _)) | skip
  obtain ⟨x1,_,ht⟩:=bind_some' ht
  obtain ⟨x2,_,ht⟩:=bind_some' ht
  obtain ⟨x3,_,ht⟩:=bind_some' ht
  split at ht
  · cases ht; simp only [evGen] at e; cases e
  · cases ht

theorem lrel_side {G:Ground} {l:Nat} {q:Loop} {a:Act} {N:Nat} (hl:l∈G.ls) {rd:List V→Ex × St→Option (Bool × (Ex × St))}
 (hround:∀ args s s' b,rd args s=some (b,s')→∀ β us w,RelB G β s.2 a w→w.heap[l]?=some (.loop (recOf q s.1))→All2 (RepV w.heap (Avail G.Fr s.2.mem β w.heap) s.2.mem β) args us →
  us.length=q.params.size∧(recOf q s.1).state=.ready ∧
  RoundIn (W none) 0 P l q.fn ((q.params.zip us.toArray).foldl (fun tmps (t,a)=>tmps.setIfInBounds t a) q.tmps) q.assign q.body w fun en w'=>en=.returned (.bool b)∧∃ β',RelB G β' s'.2 a w'∧w'.heap[l]?=some (.loop (recOf q s'.1)) ∧
   ∀ b,Avail G.Fr s.2.mem β w.heap b→Avail G.Fr s'.2.mem β' w'.heap b∧w'.heap[b]?=w.heap[b]?) :
 Side P N l rd (LRel G l q a N) where
 side:=fun s σ a w h=>h.side hl
 yld:=by
  intro s s' σ ag w ops n o x args d b K Q hr hmem hon hT hcv hx hrd hK
  obtain ⟨β,hB,hq,_,hk,hN,hdef⟩:=hr
  obtain ⟨en,m⟩:=σ
  simp only at hmem
  subst hmem
  obtain ⟨t1,t2,t3,m0,t4⟩:=hT
  simp only at t1 t3 t4
  cases ho:o.op with
  | call c =>
   rw [ho] at t4 hcv
   have hcal:∃ t,c.callee=.value (.tmp t):=by
    simp only [callvOp] at hcv
    split at hcv
    · exact ⟨_,by assumption⟩
    · cases hcv
   obtain ⟨t,hcal⟩:=hcal
   simp only [trOp,hcal] at t4
   obtain ⟨xs,h1,h2⟩:=Option.map_eq_some_iff.1 t4
   cases h2
   have ra:=Rep_args (σ:=⟨en,[]⟩) hk h1
   have rf:=hk t
   have hx:en.get t=.one (.d (.fn (.yield l) [])):=hx
   rw [hx] at rf
   have rf:RepD w.heap (Avail G.Fr s.2.mem β w.heap) (.fn (.yield l) []) (ag.tmps.getD t undef):=rf
   have e1:ag.eval (.tmp t)=.func (.yield l) #[] #[]:=by
    show ag.tmps.getD t undef=_
    generalize ag.tmps.getD t undef=v at rf
    cases rf with
    | fn _ _ vs hl hr =>
     have:vs=#[]:=Array.eq_empty_of_size_eq_zero (by simpa using hl)
     rw [this]
   obtain ⟨k1,k2,k3⟩:=hround _ s s' b hrd β (c.args.toList.map ag.eval) w hB hq (ra.mono fun x u hxu=>noSlots_rep (fun _ h=>h) (.inr rfl) hxu)
   have hg:o.guard=none:=by
    unfold guardOk at t3
    cases hog:o.guard with
    | none=>rfl
    | some p=>rw [hog] at t3; cases p; cases t3
   unfold wpOpIn
   simp only [hon]
   rw [if_pos (by simp [Region.wanted,hg])]
   refine wp_of_run (by rw [ho]; intro c h; cases h) ?_
   have hrun:(execOp ag.eval o).run P w=.ok (.round l q.fn ((q.params.zip (c.args.toList.map ag.eval).toArray).foldl (fun tmps (t,a)=>tmps.setIfInBounds t a) q.tmps) q.assign q.body) w:=by
    have e2:(c.args.map ag.eval)=(c.args.toList.map ag.eval).toArray:=by apply Array.ext'; simp
    simp only [execOp,ho,resolve,hcal,Sem.run_bind,Sem.run_pure,Result.andThen_ok,e1,invoke,Deferred.ofValue,Array.empty_append,e2]
    rw [run_yield hq (by simpa [recOf] using k1)]
    rfl
   rw [hrun]
   refine ⟨fun h=>(by cases h),RoundIn.mono k3 fun en' w' hen=>?_⟩
   obtain ⟨rfl,β',b1,b2,b3⟩:=hen
   refine hK _ _ ?_
   rw [t1]
   refine ⟨β',b1,b2,rfl,?_,?_,hdef⟩
   · refine EnvOK.put (fun t'=>(hk t').flat fun b hb=>b3 b hb) ?_ (RepD.bool b)
     rw [hN]
     rw [t1] at t2
     simpa [dstOk] using t2
   · simpa [Act.put] using hN
  | _=>rw [ho] at hcv; cases hcv
end

section
variable {P:Program} {F:Fence} {n:Nat} {a:Act} {w:World} {Q:Exit→Act→World→Prop}

theorem RelS.drop {G:Ground} {σ:St} {a:Act} {w:World} (hr:RelS G σ a w) (t:Nat):RelS G ⟨dropE t σ.env,σ.mem⟩ a w :=
 hr.less (fun u=>Env.get_drop t σ.env u) rfl

def ExtOk (P:Program) (e:Call→List V→Heap→Option (V × Heap)) (f:Nat):Prop:=∀ call,CallOK P call→∀ args m v m',e call args m=some (v,m')→∀ (F:Nat→Prop) (β:Place) (w:World) (us:List Value),MemOK F m β w.heap→All2 (RepV w.heap (Avail F m β w.heap) m β) args us →
 CallTo P f us.toArray w fun u w'=>∃ β',MemOK F m' β' w'.heap∧Evo F m β w m' β' w'∧RepV w'.heap (Avail F m' β' w'.heap) m' β' v u
def Table (P:Program) (X:Nat→Option MFn):Prop:=∀ f fn,X f=some fn→(fn.code.isExt=false∧∃ fn0,trFn P f fn0=some fn)∨(fn.code.isExt=true∧ExtOk P fn.code.extF f)

theorem RelX.ghosts {G:Ground} {r:Option Nat} {σ σ':St} {a:Act} {w:World} {gs:List Ghost} (hr:RelX G r σ a w) (e:evGs G.m0.length gs σ=some σ'):RelX G r σ' a w:=by
 obtain ⟨rs,ls,h1,h2⟩:=hr
 exact ⟨rs,ls,h1,h2.ghosts (G:=G.at rs ls) e⟩

def CodeOk (P:Program) (X:Nat→Option MFn) (call:Call) (G:Ground) (r:Option Nat) (k:Nat) (c:Code) (mc:MCode):Prop:=∀ (mc':MCode) (σ:St) (x:Ex × St) (a:Act) (w:World) (Q:Exit→Act→World→Prop),
 trCode P G.N c mc=some mc'→evC X call k G.m0.length mc' σ=some x→RelX G r σ a w→(∀ a' w',RelX G r x.2 a' w'→Q x.1.to a' w')→c.wpIn (W r) 0 P Q a w
theorem strip {X:Nat→Option MFn} {call:Call} {G:Ground} {r:Option Nat} {k:Nat} {c:Code} (H:∀ mc,(∀ gs y,mc≠.gh gs y)→CodeOk P X call G r k c mc):∀ mc,CodeOk P X call G r k c mc:=by
 intro mc
 induction mc with
 | gh gs y ih =>
  intro mc' σ x a w Q ht e hr hQ
  have ht:(trCode P G.N c y).map (.gh gs)=some mc':=by cases c <;> first | exact ht | (rename_i o _ _; cases o <;> exact ht)
  obtain ⟨y',h1,rfl⟩:=Option.map_eq_some_iff.1 ht
  simp only [evC] at e
  obtain ⟨σ1,h2,h3⟩:=bind_some' e
  exact ih y' σ1 x a w Q h1 h3 (hr.ghosts h2) hQ
 | _=>exact H _ (by intro gs y h; cases h)

theorem startEnv_get:∀ (args:List V) (i t:Nat),(startEnv i args).get t=if i≤t then (args[t - i]?).getD .dead else .dead
 | [],i,t=>by simp [startEnv,Env.get]
 | v::r,i,t=>by
  simp only [startEnv,Env.get,startEnv_get r]
  by_cases c:i=t
  · subst c; simp
  · rw [if_neg c]
    by_cases c2:i+1≤t
    · rw [if_pos c2,if_pos (by omega)]
      obtain ⟨j,rfl⟩:∃ j,t=i+1+j:=⟨t - (i+1),by omega⟩
      rw [show i+1+j - (i+1)=j by omega,show i+1+j - i=j+1 by omega]
      simp
    · rw [if_neg c2,if_neg (by omega)]
theorem startEnv_ok {h:Array Obj} {A:Nat→Prop} {m:Heap} {β:Place} {args:List V} {us:List Value} {n:Nat} {ds:List Deferred} (hr:All2 (RepV h A m β) args us) :
 EnvOK h A m β (startEnv 0 args) { tmps:=us.toArray++Array.replicate n undef,defers:=ds }:=by
 intro t
 simp only [startEnv_get,Nat.zero_le,if_true,Nat.sub_zero]
 cases ht:args[t]? with
 | none=>trivial
 | some v =>
  obtain ⟨u,e1,e2⟩:=hr.get ht
  have hlt:=(List.getElem?_eq_some_iff.1 e1).1
  simp only [Option.getD_some]
  have:(us.toArray++Array.replicate n undef).getD t undef=u:=by
   rw [Array.getD_eq_getD_getElem?,Array.getElem?_append_left (by simpa using hlt)]
   simp [e1]
  rw [this]; exact e2
theorem run_enter {f : FuncId} {fn : Func} {c : Code} (hf : P.funcs[f]? = some fn) (hname : (fn.name == "runtime.NumGoroutine") = false) (hb : fn.body = some c) (args : Array Value) (w : World) :
 (callFunc f args).run P w=.ok (.enter f args) w:=by
 have h1 : fn.name ≠ "runtime.NumGoroutine" := by simpa using hname
 simp [callFunc,hf,h1,hb]
theorem run_enterLoop_inner {w:World} {l0:Nat} {q0:Loop} (fn:FuncId) (tmps:Array Value) (ps:Array Tmp) (assign body:Code) (h:w.heap[l0]?=some (.loop q0)) :
 (Instr.enterLoop fn tmps ps assign body (some l0)).run P w =
  .ok (w.heap.size,[]) (w.alloc (.loop { state:=.ready,pending:=none,fn,tmps,params:=ps,assign,body,defers:=q0.defers })):=by
 unfold Instr.enterLoop
 simp only [Sem.run_bind,run_getLoop h,run_newObj_alloc,Result.andThen,Sem.run_pure]

theorem code_ok {X:Nat→Option MFn} {call:Call} (hc:CallOK P call) (hP:P.follows .mixedOrders=true) (hX:Table P X) {k:Nat}:∀ (c:Code) (G:Ground) (r:Option Nat),RoundOk G r→∀ (mc:MCode),CodeOk P X call G r k c mc:=by
 intro c
 have bad:∀ (G:Ground) (c:Code) (mc':MCode) (σ:St) (x:Ex × St),trCode P G.N c .bad=some mc'→evC X call k G.m0.length mc' σ=some x→False:=by
  intro G c mc' σ x ht e
  have:=tr_bad c mc' ht
  subst this
  simp only [evC] at e
  cases e
 induction c with
 | skip =>
  intro G r hro
  refine strip fun mc hng=>?_
  intro mc' σ x a w Q ht e hr hQ
  by_cases hb:mc=.bad
  · subst hb; exact (bad G _ _ _ _ ht e).elim
  cases mc <;> simp only [trCode,reduceCtorEq] at ht <;> first | (exact absurd rfl hb) | (exact absurd rfl (hng _ _)) | skip
  cases ht
  simp only [evC] at e
  cases e
  exact wpIn_skip (hQ _ _ hr)
 | label l =>
  intro G r hro
  refine strip fun mc hng=>?_
  intro mc' σ x a w Q ht e hr hQ
  by_cases hb:mc=.bad
  · subst hb; exact (bad G _ _ _ _ ht e).elim
  cases mc <;> simp only [trCode,reduceCtorEq] at ht <;> first | (exact absurd rfl hb) | (exact absurd rfl (hng _ _)) | skip
  cases ht
  simp only [evC] at e
  cases e
  exact wpIn_label (hQ _ _ hr)
 | region id ops draw =>
  intro G r hro
  refine strip fun mc hng=>?_
  intro mc' σ x a w Q ht e hr hQ
  by_cases hb:mc=.bad
  · subst hb; exact (bad G _ _ _ _ ht e).elim
  cases mc with
  | reg ms gh =>
   have h2:∃ is,mc'=.reg is gh:=by
    simp only [trCode] at ht
    obtain ⟨y,t1,t2⟩:=bind_some' ht
    split at t2
    · split at t2
      · cases t2; exact ⟨_,rfl⟩
      · cases t2
    · cases t2
   obtain ⟨is,rfl⟩:=h2
   obtain ⟨rs,ls,hrs,hr⟩:=hr
   exact region_ok hc hP (G:=G.at rs ls) ht e hr fun a' w' hn hr'=>by have:=hQ a' w' ⟨rs,ls,hrs,hr'⟩; rw [hn] at this; exact this
  | regD ms pre gh =>
   cases draw with
   | false=>simp only [trCode,reduceCtorEq] at ht
   | true =>
    have h2:∃ is,mc'=.regD is pre gh:=by
     simp only [trCode] at ht
     obtain ⟨is,_,t2⟩:=Option.map_eq_some_iff.1 ht
     exact ⟨is,t2.symm⟩
    obtain ⟨is,rfl⟩:=h2
    obtain ⟨rs,ls,hrs,hr⟩:=hr
    exact regionD_ok hc hP (G:=G.at rs ls) ht e hr fun a' w' hn hr'=>by have:=hQ a' w' ⟨rs,ls,hrs,hr'⟩; rw [hn] at this; exact this
  | yld is0 pre y gh =>
   have ht1:(trD P G.N ops is0 pre ops.toList).bind (fun is'=>if (!draw || (drawOk ops is' && yldOk ops y)) && (match ops[y]? with | some o=>callvOp o.op | none=>false) then some (MCode.yld is' pre y gh) else none)=some mc':=by
    cases draw <;> exact ht
   obtain ⟨is',t1,t2⟩:=bind_some' ht1
   rw [Option.ite_none_right_eq_some] at t2
   obtain ⟨_,t2⟩:=t2
   cases t2
   simp only [evC] at e
   cases e
  | bad=>exact absurd rfl hb
  | gh gs y=>exact absurd rfl (hng _ _)
  | _=>simp only [trCode,reduceCtorEq] at ht
 | seq c1 c2 ih1 ih2 =>
  intro G r hro
  refine strip fun mc hng=>?_
  intro mc' σ x a w Q ht e hr hQ
  by_cases hb:mc=.bad
  · subst hb; exact (bad G _ _ _ _ ht e).elim
  cases mc <;> simp only [trCode,reduceCtorEq] at ht <;> first | (exact absurd rfl hb) | (exact absurd rfl (hng _ _)) | skip
  rename_i m1 m2
  obtain ⟨y1,t1,t2⟩:=bind_some' ht
  cases hy:trCode P G.N c2 m2 with
  | none=>rw [hy] at t2; cases t2
  | some y2 =>
   rw [hy] at t2
   cases t2
   simp only [evC] at e
   obtain ⟨z,e1,e2⟩:=bind_some' e
   refine wpIn_seq (ih1 G r hro _ _ _ _ _ _ _ t1 e1 hr fun a' w' hr'=>?_)
   obtain ⟨ex,σ1⟩:=z
   cases ex with
   | normal=>exact ih2 G r hro _ _ _ _ _ _ _ hy e2 hr' hQ
   | exit id=>cases e2; exact hQ _ _ hr'
   | ret=>cases e2; exact hQ _ _ hr'
 | cond o c1 c2 ih1 ih2 =>
  intro G r hro
  refine strip fun mc hng=>?_
  intro mc' σ x a w Q ht e hr hQ
  by_cases hb:mc=.bad
  · subst hb; exact (bad G _ _ _ _ ht e).elim
  by_cases hcv:∃ v,o=.const v
  · obtain ⟨v,rfl⟩:=hcv
    obtain ⟨t,m,m',rfl,rfl,rfl,h1⟩:=trCode_const ht hb hng
    simp only [evC] at e
    refine wpIn_cond (t:=t) rfl ?_
    cases t with
    | true=>exact ih1 G r hro _ _ _ _ _ _ _ (by simpa using h1) e hr hQ
    | false=>exact ih2 G r hro _ _ _ _ _ _ _ (by simpa using h1) e hr hQ
  cases o <;> first | (exact absurd ⟨_,rfl⟩ hcv) | (cases mc <;> simp only [trCode,reduceCtorEq] at ht <;> first | (exact absurd rfl hb) | (exact absurd rfl (hng _ _)) | skip)
  rename_i t t0 m1 m2
  obtain ⟨y1,t1,t2⟩:=bind_some' ht
  cases hy:trCode P G.N c2 m2 with
  | none=>rw [hy] at t2; cases t2
  | some y2 =>
   rw [hy] at t2
   cases t2
   simp only [evC] at e
   obtain ⟨p,hp,e2⟩:=bind_some' e
   have hv:a.eval (.tmp t)=.bool p:=by
    obtain ⟨rs,ls,_,β,_,_,h3,_,_⟩:=hr
    have:=h3 t
    generalize σ.env.get t=v at hp this
    unfold V.bool? at hp
    split at hp <;> cases hp
    have this:RepD _ _ (.bool p) (a.tmps.getD t undef):=this
    generalize hq:a.tmps.getD t undef=q at this
    cases this
    exact hq
   refine wpIn_cond hv ?_
   cases p with
   | true=>exact ih1 G r hro _ _ _ _ _ _ _ t1 e2 hr hQ
   | false=>exact ih2 G r hro _ _ _ _ _ _ _ hy e2 hr hQ
 | block id c ih =>
  intro G r hro
  refine strip fun mc hng=>?_
  intro mc' σ x a w Q ht e hr hQ
  by_cases hb:mc=.bad
  · subst hb; exact (bad G _ _ _ _ ht e).elim
  cases mc <;> simp only [trCode,reduceCtorEq] at ht <;> first | (exact absurd rfl hb) | (exact absurd rfl (hng _ _)) | skip
  rename_i id0 m
  cases hy:trCode P G.N c m with
  | none=>rw [hy] at ht; cases ht
  | some y =>
   rw [hy] at ht
   cases ht
   simp only [evC] at e
   obtain ⟨z,e1,e2⟩:=bind_some' e
   refine wpIn_block (ih G r hro _ _ _ _ _ _ _ hy e1 hr fun a' w' hr'=>?_)
   obtain ⟨ex,σ1⟩:=z
   cases ex with
   | normal=>cases e2; exact hQ _ _ hr'
   | ret=>cases e2; exact hQ _ _ hr'
   | exit id' =>
    simp only [] at e2
    show Exit.inBlock id Q (.exit id') a' w'
    simp only [Exit.inBlock]
    split at e2
    · rename_i h; rw [if_pos h]; cases e2; exact hQ _ _ hr'
    · rename_i h; rw [if_neg h]; cases e2; exact hQ _ _ hr'
 | loop c ih =>
  intro G r hro
  refine strip fun mc hng=>?_
  intro mc' σ x a w Q ht e hr hQ
  by_cases hb:mc=.bad
  · subst hb; exact (bad G _ _ _ _ ht e).elim
  cases mc <;> simp only [trCode,reduceCtorEq] at ht <;> first | (exact absurd rfl hb) | (exact absurd rfl (hng _ _)) | skip
  rename_i m
  cases hy:trCode P G.N c m with
  | none=>rw [hy] at ht; cases ht
  | some y =>
   rw [hy] at ht
   cases ht
   simp only [evC] at e
   refine wpIn_loop_rounds k ?_
   suffices H:∀ (j:Nat) (σ:St) (a:Act) (w:World),iter (evC X call k G.m0.length y) j σ=some x→RelX G r σ a w→Code.roundsIn (W r) 0 P c Q j a w from H k σ a w e hr
   intro j
   induction j with
   | zero=>intro σ a w e; simp only [iter] at e; cases e
   | succ j ihj =>
    intro σ a w e hr
    simp only [iter] at e
    obtain ⟨z,e1,e2⟩:=bind_some' e
    refine ih G r hro _ _ _ _ _ _ _ hy e1 hr fun a' w' hr'=>?_
    obtain ⟨ex,σ1⟩:=z
    cases ex with
    | normal=>exact ihj σ1 a' w' e2 hr'
    | exit id=>cases e2; exact hQ _ _ hr'
    | ret=>cases e2; exact hQ _ _ hr'
 | scope c ih =>
  intro G r hro
  refine strip fun mc hng=>?_
  intro mc' σ x a w Q ht e hr hQ
  by_cases hb:mc=.bad
  · subst hb; exact (bad G _ _ _ _ ht e).elim
  cases mc <;> simp only [trCode,reduceCtorEq] at ht <;> first | (exact absurd rfl hb) | (exact absurd rfl (hng _ _)) | skip
  rename_i m
  cases hy:trCode P G.N c m with
  | none=>rw [hy] at ht; cases ht
  | some y =>
   rw [hy] at ht
   cases ht
   simp only [evC] at e
   refine wpIn_scope (ih G r hro _ _ _ _ _ _ _ hy e hr fun a' w' hr'=>?_)
   have:=hQ a' w' hr'
   obtain ⟨ex,σ1⟩:=x
   cases ex <;> exact this
 | exit id =>
  intro G r hro
  refine strip fun mc hng=>?_
  intro mc' σ x a w Q ht e hr hQ
  by_cases hb:mc=.bad
  · subst hb; exact (bad G _ _ _ _ ht e).elim
  cases mc <;> simp only [trCode,reduceCtorEq] at ht <;> first | (exact absurd rfl hb) | (exact absurd rfl (hng _ _)) | skip
  cases ht
  simp only [evC] at e
  cases e
  exact wpIn_exit (hQ _ _ hr)
 | ret =>
  intro G r hro
  refine strip fun mc hng=>?_
  intro mc' σ x a w Q ht e hr hQ
  by_cases hb:mc=.bad
  · subst hb; exact (bad G _ _ _ _ ht e).elim
  cases mc <;> simp only [trCode,reduceCtorEq] at ht <;> first | (exact absurd rfl hb) | (exact absurd rfl (hng _ _)) | skip
  cases ht
  simp only [evC] at e
  cases e
  exact wpIn_ret (hQ _ _ hr)
 | goto l =>
  intro G r hro
  refine strip fun mc hng=>?_
  intro mc' σ x a w Q ht e
  by_cases hb:mc=.bad
  · subst hb; exact (bad G _ _ _ _ ht e).elim
  cases mc <;> simp only [trCode,reduceCtorEq] at ht <;> first | (exact absurd rfl hb) | (exact absurd rfl (hng _ _)) | skip
 | refuse l =>
  intro G r hro
  refine strip fun mc hng=>?_
  intro mc' σ x a w Q ht e
  by_cases hb:mc=.bad
  · subst hb; exact (bad G _ _ _ _ ht e).elim
  cases mc <;> simp only [trCode,reduceCtorEq] at ht <;> first | (exact absurd rfl hb) | (exact absurd rfl (hng _ _)) | skip
 | rangeFunc f ps as b iha ihb =>
  intro G r hro
  refine strip fun mc hng=>?_
  intro mc' σ x a w Q ht e hr hQ
  by_cases hb:mc=.bad
  · subst hb; exact (bad G _ _ _ _ ht e).elim
  cases mc <;> simp only [trCode,reduceCtorEq] at ht <;> first | (exact absurd rfl hb) | (exact absurd rfl (hng _ _)) | skip
  rename_i x0 ps0 ma0 mb0 gh
  obtain ⟨x1,hx1,ht⟩:=bind_some' ht
  obtain ⟨ya,hya,ht⟩:=bind_some' ht
  obtain ⟨yb,hyb,ht⟩:=bind_some' ht
  rw [Option.ite_none_right_eq_some] at ht
  obtain ⟨hpsN,ht⟩:=ht
  cases ht
  simp only [evC] at e
  split at e
  case h_2=>cases e
  case h_1 g caps hx =>
  obtain ⟨fn,hXf,e1⟩:=bind_some' e
  clear e
  rw [Option.ite_none_right_eq_some] at e1
  obtain ⟨⟨hnp,hres⟩,e2⟩:=e1
  have hall:=allL_spec e2
  clear e2
  obtain ⟨rs,ls,hrs,β,hB⟩:=hr
  have hB:RelB (G.at rs ls) β σ a w:=hB
  have hps:∀ t∈ps.toList,t < G.N:=fun t ht=>by
   have:=List.all_eq_true.1 hpsN t ht
   simpa using this
  rcases hX g fn hXf with ⟨_,fn0,t⟩ | ⟨hext,_⟩
  case inr =>
   obtain ⟨z,hz1,hz2⟩:=bind_some' (hall 0)
   obtain ⟨e0,this⟩:∃ e0,fn.code=.ext e0:=by
    cases hfc:fn.code <;> rw [hfc] at hext <;> first | exact ⟨_,rfl⟩ | cases hext
   rw [this] at hz1
   simp only [evGen] at hz1
   cases hz1
  case inl =>
  unfold trFn at t
  obtain ⟨pf,t1,t⟩:=bind_some' t
  obtain ⟨cg,t2,t⟩:=bind_some' t
  split at t
  case isTrue=>cases t
  case isFalse hname =>
  split at t
  case isFalse=>cases t
  case isTrue hsz =>
  obtain ⟨res,t3,t4⟩:=bind_some' t
  cases hcode:trCode P pf.ntmps cg fn0.code with
  | none=>rw [hcode] at t4; cases t4
  | some code =>
  rw [hcode] at t4
  cases t4
  simp only [] at hnp hres hall
  have hresE:pf.results=#[]:=by
   have:res=[]:=by simpa using hres
   subst this
   cases hL:pf.results.toList with
   | nil=>apply Array.ext'; simpa using hL
   | cons v vs =>
    rw [hL] at t3
    simp only [trResL] at t3
    obtain ⟨_,_,t3⟩:=bind_some' t3
    obtain ⟨_,_,t3⟩:=bind_some' t3
    cases t3
  have H:∀ (fid:FuncId) (l:Nat) (mark:List Deferred) (w1:World) (rs' ls':List Nat) (q:Loop),(Instr.enterLoop fid a.tmps ps as b r).run P w=.ok (l,mark) w1→l∈ls'→(r.isSome=true→rs'=G.rs) →
   RelB (G.at rs' ls') β σ { a with defers:=mark++a.defers } w1→w1.heap[l]?=some (.loop q)→q.state=.ready→q.pending=none→q.tmps=a.tmps→q.params=ps→q.assign=as→q.body=b →
   ∃ (l:Nat) (mark:List Deferred) (w₁:World) (d:Deferred) (w₁':World) (f0:FuncId) (args:Array Value) (w₂:World),
    (Instr.enterLoop fid a.tmps ps as b (W r).round).run P w=.ok (l,mark) w₁∧(resolve a.eval (rangeCall f l) 0).run P w₁=.ok d w₁'∧(∀ f',Target.leads P w₁' d.target d.args=some f'→(W r).fn f') ∧
    (invoke d.target d.args).run P w₁'=.ok (.enter f0 args) w₂∧((W r).depth.isSome=true→1≤0)∧CallsIn (W r) (0 - 1) P f0 args w₂ (rangePost (W r) 0 P l Q { a with defers:=mark++a.defers }):=by
   intro fid l mark w1 rs' ls' q he hl hrs' hB1 hq hst hpe htm hpa has hbo
   have rf:=Rep_arg hB1.2.2.1 hx1
   rw [hx] at rf
   have rf:RepD w1.heap (Avail (G.at rs' ls').Fr σ.mem β w1.heap) (.fn (.func g) caps) (a.eval f):=rf
   have hv:∃ vs,a.eval f=.func (.func g) #[] vs∧All2 (RepD w1.heap (Avail (G.at rs' ls').Fr σ.mem β w1.heap)) caps vs.toList:=by
    generalize a.eval f=u at rf
    cases rf with
    | fn _ _ vs hl hr=>exact ⟨vs,rfl,All2.of_get (by simpa using hl.symm) fun i c v hc hv=>hr i c v hc (by simpa using hv)⟩
   obtain ⟨vs,ev,hvs⟩:=hv
   have hin:(invoke (.fn (.func g) vs) #[.func (.yield l) #[] #[]]).run P w1=.ok (.enter g (#[.func (.yield l) #[] #[]]++vs)) w1:=run_enter t1 (by simpa using hname) t2 _ _
   refine ⟨l,mark,w1,{ target:=.fn (.func g) vs,args:=#[.func (.yield l) #[] #[]] },w1,g,#[.func (.yield l) #[] #[]]++vs,w1,he,?_,fun _ _=>trivial,hin,(fun h=>by cases h),?_⟩
   · simp only [resolve,rangeCall,Deferred.ofValue,ev]
     simp [Sem.run_pure,Act.eval]
   · obtain ⟨z,hz1,hz2⟩:=bind_some' (hall l)
     refine CallsIn.mono (F:=W r) (R:=fun e w'=>rangePost (W r) 0 P l Q { a with defers:=mark++a.defers } e w') (show CallsIn (W none) 0 P g _ w1 _ from ?_) fun e w' h=>h
     refine callsIn_of_wp t1 t2 trivial ?_ rfl
     have hq0:q=recOf q .normal:=by
      obtain ⟨_,_,_,_,_,_,_,_⟩:=q
      simp only at hst hpe
      subst hst hpe
      rfl
     have hsize:(#[Value.func (.yield l) #[] #[]]++vs).size=fn0.np:=by
      rw [hnp]; simp only [Array.size_append]; rw [←hvs.length.symm]; simp; omega
     have start:LRel (G.at rs' ls') l q { a with defers:=mark++a.defers } pf.ntmps (.normal,σ) ⟨startEnv 0 (.one (.d (.fn (.yield l) []))::caps.map fun c=>.one (.d c)),[]⟩
      { tmps:=(#[.func (.yield l) #[] #[]]++vs)++Array.replicate (pf.ntmps - (#[Value.func (.yield l) #[] #[]]++vs).size) undef,defers:=[] } w1:=by
      refine ⟨β,hB1,by rw [←hq0]; exact hq,rfl,?_,?_,rfl⟩
      · have h0:All2 (RepV w1.heap (Avail (G.at rs' ls').Fr σ.mem β w1.heap) [] β) (.one (.d (.fn (.yield l) []))::caps.map fun c=>V.one (.d c)) (.func (.yield l) #[] #[]::vs.toList) :=
         .cons (RepD.fn _ _ _ rfl (fun i c v hc=>by simp at hc)) (hvs.map fun _ _ h=>h)
        have:=startEnv_ok (n:=pf.ntmps - (#[Value.func (.yield l) #[] #[]]++vs).size) (ds:=[]) h0
        have e3:(Value.func (.yield l) #[] #[]::vs.toList).toArray=#[.func (.yield l) #[] #[]]++vs:=by apply Array.ext'; simp
        rw [e3] at this
        exact this
      · simp only [Array.size_append,Array.size_replicate] at hsize ⊢
        omega
     have hsd:Side P pf.ntmps l (roundM (fun b'=>evC X call k b' ya) (fun b'=>evC X call k b' yb) G.m0.length ps.toList gh) (LRel (G.at rs' ls') l q { a with defers:=mark++a.defers } pf.ntmps) :=
      lrel_side hl fun args s s' b1 hrd β us w hB hq hu=>by
       subst hpa has hbo
       exact round_ok (X:=X) (call:=call) (k:=k) (G:=G.at rs' ls') (a:={ a with defers:=mark++a.defers }) hl htm hps (ma:=ya) (mb:=yb)
        (fun G' hN hro' σ x a w Q e hr hQ=>iha G' (some l) hro' ma0 ya σ x a w Q (hN ▸ hya) e hr hQ) (fun G' hN hro' σ x a w Q e hr hQ=>ihb G' (some l) hro' mb0 yb σ x a w Q (hN ▸ hyb) e hr hQ) hrd hB hq hu
     refine gen_ok hc hP hsd cg fn0.code code _ _ z _ _ _ hcode hz1 start fun a' w' hr'=>?_
     obtain ⟨β',hB',hq',_,_,_,hdef⟩:=hr'
     have hrec:=hB'.record (q':={ recOf q z.2.2.1 with state:=.exhausted }) hl hq'
     have hx2:z.2.2=x∧∀ id,z.1≠.exit id:=by
      obtain ⟨ex,s1⟩:=z
      cases ex <;> simp only [] at hz2 <;> first | (cases hz2; done) | (cases hz2; exact ⟨rfl,fun id h=>by cases h⟩)
     have fin:bodyPost P pf (fun e w'=>rangePost (W r) 0 P l Q { a with defers:=mark++a.defers } e w') .ret a' w':=by
      refine ⟨hdef,.tuple #[],?_,(recOf q z.2.2.1).pending,_,run_endLoop hq' (by simp only [recOf]; split <;> simp),?_⟩
      · simp [results,hresE]
      · have post:∀ w4,RelB (G.at rs' ls') β' z.2.2.2 { a with defers:=mark++a.defers } w4→Q x.1.to { a with defers:=mark++a.defers } w4:=fun w4 h=>hQ _ _ ⟨rs',ls',hrs',β',by rw [←hx2.1]; exact h⟩
        have:=post _ hrec
        rw [←hx2.1] at this
        obtain ⟨ex,σ1,ex2,σ2⟩:=z
        cases ex2 with
        | normal=>exact this
        | exit id=>exact wpIn_exit this
        | ret=>exact wpIn_ret this
     obtain ⟨ex,s1⟩:=z
     cases ex with
     | normal=>exact fin
     | ret=>exact fin
     | exit id=>exact absurd rfl (hx2.2 id)
  refine wpIn_rangeFunc fun fid _=>?_
  cases r with
  | none =>
   refine H fid _ _ _ (w.heap.size::rs) ((w.alloc (.deferred (some []))).heap.size::ls) _ (run_enterLoop_outer fid a.tmps ps as b) (by rw [alloc_size]; simp) (fun h=>by cases h) (hB.marked.laid) (World.alloc_heap_new _ _ |> fun h=>by rw [alloc_size] at h; exact h) rfl rfl rfl rfl rfl rfl
  | some l0 =>
   obtain ⟨hF0,q0,hq0⟩:=hro l0 rfl
   have hq1:w.heap[l0]?=some (.loop q0):=by
    rw [hB.2.1.fo l0 (Array.getElem?_eq_some_iff.1 hq0).1 (.inl (.inl hF0))]; exact hq0
   exact H fid _ _ _ rs (w.heap.size::ls) _ (run_enterLoop_inner fid a.tmps ps as b hq1) (by simp) hrs hB.laid (World.alloc_heap_new _ _) rfl rfl rfl rfl rfl rfl
end

section
variable {P:Program} {F:Nat→Prop} {w:World} {σ:St}

def RepX (h:Array Obj) (A:Nat→Prop) (m:Heap) (β:Place) (x:Bool × List C) (u:Value):Prop :=
 ∃ vs,All2 (RepC h A m β) x.2 vs∧u=(if x.1 then .agg vs.toArray else vs.headD undef)∧(x.1=false→vs.length=1)
theorem RepX.evo {m m':Heap} {β β':Place} {w w':World} (k:Evo F m β w m' β' w') {x:Bool × List C} {u:Value} (r:RepX w.heap (Avail F m β w.heap) m β x u):RepX w'.heap (Avail F m' β' w'.heap) m' β' x u:=by
 obtain ⟨vs,h1,h2,h3⟩:=r
 exact ⟨vs,h1.mono fun _ _ h=>RepC.evo k h,h2,h3⟩
theorem resOf_ok {a:Act} {β:Place} (hm:MemOK F σ.mem β w.heap) (k:EnvOK w.heap (Avail F σ.mem β w.heap) σ.mem β σ.env a) {v:ResultVar} {r:MRes} {x:Bool × List C} (ht:trRes P v=some r) (h:resOf σ r=some x) :
 ∃ u,((match v with
  | .tmp t=>pure (a.tmps.getD t undef)
  | .cell b t=>do loadVar t (←asAddr (a.tmps.getD b undef))):Sem Value).run P w=.ok u w∧RepX w.heap (Avail F σ.mem β w.heap) σ.mem β x u:=by
 cases v with
 | tmp t =>
  simp only [trRes] at ht
  cases ht
  simp only [resOf] at h
  have kt:=k t
  refine ⟨a.tmps.getD t undef,rfl,?_⟩
  split at h
  · rename_i c hc
    cases h
    rw [hc] at kt
    exact ⟨[a.tmps.getD t undef],.cons kt .nil,rfl,fun _=>rfl⟩
  · rename_i cs hc
    cases h
    rw [hc] at kt
    obtain ⟨vs,e,r⟩:=kt
    exact ⟨vs.toList,r,by rw [e]; simp,fun h=>by cases h⟩
  · cases h
 | cell b T =>
  simp only [trRes] at ht
  obtain ⟨n,hs,ht⟩:=bind_some' ht
  obtain ⟨g,hg,h3⟩:=bind_some' ht
  split at h3
  · cases h3
  · rename_i hn
    cases h3
    simp only [resOf] at h
    obtain ⟨c,hc,h1⟩:=bind_some' h
    obtain ⟨cs,hcs,h2⟩:=bind_some' h1
    cases h2
    have r:=k b
    rw [c?_some hc] at r
    obtain ⟨b',o',vs,e,hl,h2,h3,_⟩:=rd_cells hm r hcs
    refine ⟨if g then .agg vs.toArray else vs.headD undef,?_,vs,h2,rfl,fun hg'=>?_⟩
    · simp only [Sem.run_bind]
      rw [e]
      simp only [asAddr,loadVar,Sem.run_bind,Sem.run_pure,Result.andThen_ok,run_aggT hg]
      cases g with
      | true =>
       simp only [if_true,Sem.run_bind,run_szT hs,Result.andThen_ok]
       rw [←hl,run_loadCells_list w _ vs (fun j u hu=>by rw [cell_at]; exact h3 j u hu)]
       simp
      | false =>
       have hn1:n=1:=by
        rcases Nat.decEq n 1 with c | c
        · exact absurd ⟨rfl,c⟩ hn
        · exact c
       subst hn1
       match vs,hl with
       | [u],_ =>
        have:=h3 0 u rfl
        have hcell:w.cell? ⟨b',o',none⟩=some u:=by rw [cell_zero]; simpa using this
        simp [hcell]
    · rcases Nat.decEq n 1 with c | c
      · exact absurd ⟨hg',c⟩ hn
      · rw [hl]; exact c
theorem handC_ok {m m':Heap} {β:Place} (hm:MemOK F m β w.heap) {f:RF} {cs cs':List C} {vs:List Value} (r:All2 (RepC w.heap (Avail F m β w.heap) m β) cs vs) (h:handC m f cs=some (cs',m')) :
 ∃ β',MemOK F m' β' w.heap∧Evo F m β w m' β' w∧All2 (RepC w.heap (Avail F m' β' w.heap) m' β') cs' vs:=by
 cases f with
 | asis=>simp only [handC] at h; cases h; exact ⟨β,hm,.refl _ _ _ _,r⟩
 | data =>
  simp only [handC] at h
  obtain ⟨y,h1,h2⟩:=bind_some' h
  cases h2
  obtain ⟨g1,g2,g3⟩:=toDs_rep hm r h1
  exact ⟨β,g1,g2,g3.map fun _ _ h=>h⟩
 | own z =>
  simp only [handC] at h
  split at h
  · split at h
    · rename_i hz
      cases h
      obtain ⟨h1,h2,h3⟩:=none_ok hm hz
      refine ⟨_,h1,h2,?_⟩
      cases r with
      | cons hu t =>
       cases t
       have hu:_=Value.slice none 0 0:=hu
       subst hu
       exact .cons h3 .nil
    · cases h
  · cases h; exact ⟨β,hm,.refl _ _ _ _,r⟩
  · cases h
theorem handAll_ok {a:Act} {β:Place} (hm:MemOK F σ.mem β w.heap) (k:EnvOK w.heap (Avail F σ.mem β w.heap) σ.mem β σ.env a):∀ (vs:List ResultVar) (rs:List MRes) (rf:List RF) (m:Heap) (β1:Place) (x:List (Bool × List C) × Heap),
 trResL P vs=some rs→rf.length=vs.length→handAll σ m (rs.zip rf)=some x→MemOK F m β1 w.heap→Evo F σ.mem β w m β1 w →
 ∃ β2 us,MemOK F x.2 β2 w.heap∧Evo F m β1 w x.2 β2 w∧(vs.mapM (fun | .tmp t=>pure (a.tmps.getD t undef) | .cell b t=>do loadVar t (←asAddr (a.tmps.getD b undef))):Sem (List Value)).run P w=.ok us w∧All2 (RepX w.heap (Avail F x.2 β2 w.heap) x.2 β2) x.1 us:=by
 intro vs
 induction vs with
 | nil =>
  intro rs rf m β1 x h1 h2 h3 h4 h5
  simp only [trResL] at h1
  cases h1
  simp only [List.zip_nil_left,handAll] at h3
  cases h3
  exact ⟨β1,[],h4,.refl _ _ _ _,by simp,.nil⟩
 | cons v vs ih =>
  intro rs rf m β1 x h1 h2 h3 h4 h5
  simp only [trResL] at h1
  obtain ⟨r,g1,h1⟩:=bind_some' h1
  obtain ⟨rs',g2,g3⟩:=bind_some' h1
  cases g3
  cases rf with
  | nil=>simp at h2
  | cons f rf =>
   simp only [List.zip_cons_cons,handAll] at h3
   obtain ⟨y,e1,h3⟩:=bind_some' h3
   obtain ⟨z,e2,h3⟩:=bind_some' h3
   obtain ⟨q,e3,e4⟩:=bind_some' h3
   cases e4
   obtain ⟨u,r1,vs1,r2,r3,r4⟩:=resOf_ok (P:=P) hm k g1 e1
   obtain ⟨β2,k1,k2,k3⟩:=handC_ok h4 (r2.mono fun _ _ h=>RepC.evo h5 h) e2
   obtain ⟨β3,us,l1,l2,l3,l4⟩:=ih rs' rf z.2 β2 q g2 (by simpa using h2) e3 k1 (h5.trans k2)
   refine ⟨β3,u::us,l1,k2.trans l2,?_,.cons ⟨vs1,k3.mono fun _ _ h=>RepC.evo l2 h,r3,r4⟩ l4⟩
   rw [List.mapM_cons]
   simp only [Sem.run_bind,Sem.run_pure]
   cases v with
   | tmp t =>
    simp only [] at r1
    rw [r1,Result.andThen_ok,l3]; rfl
   | cell b t =>
    simp only [] at r1
    rw [r1,Result.andThen_ok,l3]; rfl

theorem finish_ok {fn:MFn} {pf:Func} {a:Act} {m0:Heap} {β0 β:Place} {w0:World} {x:Ex × St} {v:V} {m':Heap} (hres:trResL P pf.results.toList=some fn.res) (hrf:fn.rf.length=pf.results.size)
 (h:finish fn m0.length x=some (v,m')) (hm:MemOK F x.2.mem β w.heap) (hE:Evo F m0 β0 w0 x.2.mem β w) (k:EnvOK w.heap (Avail F x.2.mem β w.heap) x.2.mem β x.2.env a) :
 ∃ u β',(results pf a.tmps).run P w=.ok u w∧MemOK F m' β' w.heap∧Evo F m0 β0 w0 m' β' w∧RepV w.heap (Avail F m' β' w.heap) m' β' v u:=by
 unfold finish at h
 have h1:(handAll x.2 x.2.mem (fn.res.zip fn.rf)).bind (fun y=>(resV y.1).bind fun v =>
  let ids:=gcIds m0.length y.2 v.slots
  some (v.mapC (C.ren fun t=>find t ids 0),sel ids y.2))=some (v,m'):=by
  obtain ⟨ex,σ⟩:=x
  cases ex with
  | exit id=>cases h
  | normal=>exact h
  | ret=>exact h
 clear h
 obtain ⟨y,g1,h2⟩:=bind_some' h1
 obtain ⟨v1,g2,g3⟩:=bind_some' h2
 simp only [] at g3
 cases g3
 obtain ⟨β2,us,l1,l2,l3,l4⟩:=handAll_ok (P:=P) hm k pf.results.toList fn.res fn.rf x.2.mem β y hres (by simpa using hrf) g1 hm (.refl _ _ _ _)
 obtain ⟨ids,hids⟩:∃ ids,ids=gcIds m0.length y.2 v1.slots:=⟨_,rfl⟩
 rw [←hids]
 have hn:ids.Nodup:=by rw [hids]; exact reach_nodup _ _ _ _ List.nodup_range
 have hp:List.range m0.length <+: ids:=by rw [hids]; exact reach_prefix _ _ _ _
 have hrun:(results pf a.tmps).run P w=.ok (if h:us.length=1 then us[0] else .tuple us.toArray) w:=by
  unfold results
  have e:(pf.results.mapM (fun | .tmp t=>pure (a.tmps.getD t undef) | .cell b t=>do loadVar t (←asAddr (a.tmps.getD b undef))):Sem (Array Value)).run P w=.ok us.toArray w:=by
   rw [Array.mapM_eq_mapM_toList]
   simp only [←bind_pure_comp,Sem.run_bind,l3,Result.andThen_ok,Sem.run_pure]
  rw [Sem.run_bind]
  refine (congrArg (fun r=>Result.andThen r _) e).trans ?_
  simp only [Result.andThen_ok,Sem.run_pure]
  congr 1
 have hv:RepV w.heap (Avail F y.2 β2 w.heap) y.2 β2 v1 (if h:us.length=1 then us[0] else .tuple us.toArray):=by
  have tup:∀ xs,All2 (RepX w.heap (Avail F y.2 β2 w.heap) y.2 β2) xs us→RepV w.heap (Avail F y.2 β2 w.heap) y.2 β2 (.tup xs) (.tuple us.toArray):=fun xs l4=>⟨us.toArray,rfl,by
   simp only [] 
   refine All2.mono (by simpa using l4) fun x u hx=>?_
   obtain ⟨vs,h1,h2,h3⟩:=hx
   obtain ⟨g,cs⟩:=x
   cases g with
   | true=>exact ⟨vs.toArray,h2,by simpa using h1⟩
   | false =>
    have:=h3 rfl
    match vs,this with
    | [u'],_ =>
     cases h1 with
     | cons h1 t=>cases t; exact ⟨_,rfl,by rw [h2]; exact h1⟩⟩
  unfold resV at g2
  split at g2
  · rename_i g cs hy
    rw [hy] at l4
    cases l4 with
    | cons hx t =>
     cases t
     obtain ⟨vs,h1,h2,h3⟩:=hx
     simp only [List.length_singleton,dif_pos,List.getElem_cons_zero]
     rw [h2]
     exact Rep_mkV g2 h1
  · rename_i hne
    cases g2
    have hlen:=l4.length
    rw [dif_neg]
    · exact tup _ l4
    · intro h1
      rw [h1] at hlen
      match hy:y.1,hlen with
      | [(g,cs)],_=>exact hne g cs hy
 refine ⟨_,selβ ids β2,hrun,sel_ok hn l1 (fun b hb=>sel_av b hb) (fun b hb=>l1.nf b (sel_owned' hb)) l1.fl,sel_evo hp (hE.trans l2),?_⟩
 exact RepV.map (fun c v r=>ren_rep sel_fwd (fun b hb=>sel_av b hb) r) hv

theorem evF_ok (hP:P.follows .mixedOrders=true) {X:Nat→Option MFn} (hX:Table P X):∀ k,CallOK P (evF X k):=by
 intro k
 induction k with
 | zero=>intro g args m v m' h; simp only [evF] at h; cases h
 | succ k ih =>
  intro g args m v m' h F β w us hm hr
  simp only [evF] at h
  obtain ⟨fn,h1,h2⟩:=bind_some' h
  clear h
  rcases hX g fn h1 with ⟨hext,fn0,t⟩ | ⟨hext,q⟩
  case inr =>
   rw [if_pos hext] at h2
   exact q _ ih args m v m' h2 F β w us hm hr
  case inl =>
  rw [if_neg (by rw [hext]; simp)] at h2
  split at h2
  · rename_i hnp
    obtain ⟨x,h3,h4⟩:=bind_some' h2
    clear h2
    unfold trFn at t
    obtain ⟨pf,t1,t⟩:=bind_some' t
    obtain ⟨c,t2,t⟩:=bind_some' t
    split at t
    · cases t
    · rename_i hname
      split at t
      · rename_i hsz
        obtain ⟨res,t3,t4⟩:=bind_some' t
        cases hcode:trCode P pf.ntmps c fn0.code with
        | none=>rw [hcode] at t4; cases t4
        | some code =>
         rw [hcode] at t4
         cases t4
         simp only [] at hnp h3 h4
         refine .inl ⟨run_enter t1 (by simpa using hname) t2 _ _,?_⟩
         have hlen:=hr.length
         obtain ⟨G,hG⟩:∃ G:Ground,G=⟨F,m,β,w,pf.ntmps,[],[]⟩:=⟨_,rfl⟩
         have hFr:G.Fr=F:=by subst hG; funext b; simp [Ground.Fr]
         refine callsIn_of_wp_marks t1 t2 trivial ?_ rfl
         have start:RelX G none ⟨startEnv 0 args,m⟩ { tmps:=us.toArray++Array.replicate (pf.ntmps - us.toArray.size) undef,defers:=[] } w:=by
          refine ⟨[],[],(fun h=>by cases h),β,?_⟩
          have:G.at [] []=G:=by subst hG; rfl
          rw [this]
          refine ⟨by rw [hFr]; exact hm,by subst hG; exact .refl _ _ _ _,?_,?_,?_⟩
          · rw [hFr]
            exact startEnv_ok hr
          · subst hG
            simp
            omega
          · subst hG
            exact ⟨rfl,List.nodup_nil,by simp,by simp⟩
         refine code_ok ih hP hX (k:=k) c G none (fun l h=>by cases h) fn0.code code _ x _ _ _ (by subst hG; exact hcode) (by subst hG; exact h3) start fun a' w' hr'=>?_
         obtain ⟨rs,ls,_,β',hB⟩:=hr'
         have hB:RelB (G.at rs ls) β' x.2 a' w':=hB
         obtain ⟨q1,q2,q3,_,q5⟩:=hB
         have hd:a'.defers=rs.map fun r=>{ target:=.collected r,args:=#[] }:=q5.1
         have fin:LeavesInM (W none) 0 P pf a'.tmps (fun e w'=>∃ u,e=.returned u∧∃ β',MemOK F m' β' w'.heap∧Evo F m β w m' β' w'∧RepV w'.heap (Avail F m' β' w'.heap) m' β' v u) a'.defers .returning w':=by
          rw [hd]
          refine leaves_marks (G:=G.at rs ls) (σ:=x.2) (β:=β') (fun r hr=>q5.ge (.inr hr)) (fun w1 k1 k2 k3=>?_) rs w' (fun r hr=>⟨hr,(q5.2.2.1 r hr).1⟩) q5.2.1 q1 q2 q3
          obtain ⟨g1,g2,g3⟩:=forget_core (G:=G.at rs ls) (σ:=x.2) k1 k2 k3 fun b hb=>q5.ge hb
          obtain ⟨u,β2,p1,p2,p3,p4⟩:=finish_ok (F:=F) (fn:=⟨pf.ntmps,fn0.np,res,fn0.rf,code⟩) (pf:=pf) t3 hsz.2 h4 (by subst hG; exact g1) (by subst hG; exact g2) (by subst hG; exact g3)
          exact ⟨_,p1,u,rfl,β2,p2,p3,p4⟩
         obtain ⟨ex,σ'⟩:=x
         cases ex with
         | normal=>exact fin
         | ret=>exact fin
         | exit id=>simp [finish] at h4
      · cases t
  · cases h2
end

section
abbrev I (n:Int):V:=.one (.d (.int .i64 n))
abbrev B (b:Bool):V:=.one (.d (.bool b))
abbrev O (d:Nat) (o:MOp):MI:=.op (some d) o
abbrev Na (n:Int):Arg:=.k (.one (.d (.int .i64 n)))
abbrev Rg (l:List MI) (ks:List Nat):MCode:=.reg l [.keep ks,.gc]
abbrev Gh (ks:List Nat) (c:MCode):MCode:=.gh [.keep ks,.gc] c
abbrev cI (n:Int):C:=.d (.int .i64 n)
abbrev cB (b:Bool):C:=.d (.bool b)
abbrev cL (l:List Int):C:=.d (.list (l.map (D.int .i64)))
abbrev Pt (s:Nat):V:=.one (.ptr s 0 0)
abbrev LI (l:List Int):V:=.one (.d (.list (l.map (D.int .i64))))
abbrev VI (l:List Int):Slot:=.vals (.int .i64 0) (l.map (D.int .i64))
attribute [simp] evI evIs evO evGs evG St.arg Env.get Env.put St.put memN keepE dropE startEnv handAll resOf handC Ex.to
attribute [simp] MOp.cls
section
variable {k:IntKind} {n x y:Int} {b:Bool} {c:C} {cs:List C}
@[simp] theorem int?_int:V.int? (.one (.d (.int k n)))=some (k,n):=rfl
@[simp] theorem bool?_bool:V.bool? (.one (.d (.bool b)))=some b:=rfl
@[simp] theorem c?_one:V.c? (.one c)=some c:=rfl
@[simp] theorem cs?_one:V.cs? (.one c)=some [c]:=rfl
@[simp] theorem cs?_agg:V.cs? (.agg cs)=some cs:=rfl
@[simp] theorem csG_one:V.csG false (.one c)=some [c]:=rfl
@[simp] theorem csG_agg:V.csG true (.agg cs)=some cs:=rfl
@[simp] theorem mkV_agg:mkV true cs=some (.agg cs):=rfl
@[simp] theorem mkV_one:mkV false [c]=some (.one c):=rfl
@[simp] theorem binI_add:binI .add k x k y=some (.one (.d (.int k (k.wrap (x+y))))):=by simp [binI]
@[simp] theorem binI_sub:binI .sub k x k y=some (.one (.d (.int k (k.wrap (x - y))))):=by simp [binI]
@[simp] theorem binI_mul:binI .mul k x k y=some (.one (.d (.int k (k.wrap (x*y))))):=by simp [binI]
@[simp] theorem binI_quo:binI .quo k x k y=if y=0 then none else some (.one (.d (.int k (k.wrap (x.tdiv y))))):=by simp [binI]
@[simp] theorem binI_rem:binI .rem k x k y=if y=0 then none else some (.one (.d (.int k (x.tmod y)))):=by simp [binI]
@[simp] theorem binI_eql:binI .eql k x k y=some (.one (.d (.bool (decide (x=y))))):=by simp [binI]
@[simp] theorem binI_neq:binI .neq k x k y=some (.one (.d (.bool (!decide (x=y))))):=by simp [binI]
@[simp] theorem binI_lss:binI .lss k x k y=some (.one (.d (.bool (decide (x < y))))):=by simp [binI]
@[simp] theorem binI_leq:binI .leq k x k y=some (.one (.d (.bool (decide (x≤y))))):=by simp [binI]
@[simp] theorem binI_gtr:binI .gtr k x k y=some (.one (.d (.bool (decide (y < x))))):=by simp [binI]
@[simp] theorem binI_geq:binI .geq k x k y=some (.one (.d (.bool (decide (y≤x))))):=by simp [binI]
end
theorem wrap_id {x:Int} (h1:-9223372036854775808≤x) (h2:x < 9223372036854775808):IntKind.wrap .i64 x=x:=by
 show (if (true && decide (x % 18446744073709551616 ≥ 9223372036854775808))=true then x % 18446744073709551616 - 18446744073709551616 else x % 18446744073709551616)=x
 simp only [Bool.true_and,decide_eq_true_eq]
 split <;> omega
theorem evF_eq {X:Nat→Option MFn} {k f:Nat} {args:List V} {m:Heap} {fn:MFn} (h:X f=some fn) (hn:args.length=fn.np) (he:fn.code.isExt=false):evF X (k+1) f args m=(evC X (evF X k) k m.length fn.code ⟨startEnv 0 args,m⟩).bind (finish fn m.length):=by
 simp only [evF,h,Option.bind_some,he,Bool.false_eq_true,if_false,if_pos hn]
def lookup:List (Nat × MFn)→Nat→Option MFn
 | [],_=>none
 | (k,v)::r,f=>if f=k then some v else lookup r f
theorem lookup_mem:∀ {l:List (Nat × MFn)} {f:Nat} {v:MFn},lookup l f=some v→(f,v)∈l
 | [],_,v,h=>by simp [lookup] at h
 | (k,u)::r,f,v,h=>by
  simp only [lookup] at h
  split at h
  · rename_i e; cases h; subst e; simp
  · exact List.mem_cons_of_mem _ (lookup_mem h)
def RowOk (P:Program) (p:Nat × MFn):Prop:=(p.2.code.isExt=false∧trFn P p.1 p.2=some p.2)∨(p.2.code.isExt=true∧ExtOk P p.2.code.extF p.1)
theorem table_of {P:Program} {l:List (Nat × MFn)} (h:∀ p∈l,RowOk P p):Table P (lookup l):=fun f fn e=>(h _ (lookup_mem e)).imp (fun h=>⟨h.1,fn,h.2⟩) id
theorem row_tr {P:Program} {f:Nat} {m:MFn} (h:trFn P f m=some m) (he:m.code.isExt=false:=by rfl):RowOk P (f,m):=.inl ⟨he,h⟩
def addX:List V→Heap→Option (V × Heap)
 | [.one (.d (.int _ x)),.one (.d (.int _ y)),.one (.d (.int _ c))],m=>if c.toNat≤1 then
  some (.tup [(false,[.d (.int .u64 (Int.ofNat ((x.toNat+y.toNat+c.toNat) % 18446744073709551616)))]),(false,[.d (.int .u64 (Int.ofNat ((x.toNat+y.toNat+c.toNat) / 18446744073709551616)))])],m) else none
 | _,_=>none
def extM:MFn:=⟨0,0,[],[],.ext fun _=>addX⟩
def addRow:Array Value→Sem Value:=fun args=>do
 let (x, y, c) ← Extern.MathBitsCarry.three "Add64" args
 pure (Extern.MathBitsCarry.pair ((x+y+c) % Extern.MathBitsCarry.m64) ((x+y+c) / Extern.MathBitsCarry.m64))
def extChk (P : Program) (f : Nat) : Option (Bool × Bool × Bool) := (P.funcs[f]?).map fun pf => (pf.name == "runtime.NumGoroutine", pf.body.isNone, (Extern.findNext pf).isNone)
theorem row_ext {P:Program} {f:Nat} (h:extChk P f=some (false,true,true)) (k:(P.funcs[f]?).bind Extern.find=some addRow):RowOk P (f,extM):=by
 unfold extChk at h
 obtain ⟨pf,h1,h2⟩:=Option.map_eq_some_iff.1 h
 rw [h1] at k
 simp only [Prod.mk.injEq] at h2
 refine .inr ⟨rfl,fun call _ args m v m' h2' F β w us hm hr=>?_⟩
 have h2':addX args m=some (v,m'):=h2'
 unfold addX at h2'
 split at h2'
 case h_2=>cases h2'
 case h_1 =>
 rename_i k1 x k2 y k3 z _
 split at h2'
 case isFalse=>cases h2'
 case isTrue hc =>
 cases h2'
 cases hr with
 | cons r1 hr =>
 cases hr with
 | cons r2 hr =>
 cases hr with
 | cons r3 hr =>
 cases hr
 have r1:RepD _ _ (.int k1 x) _:=r1
 have r2:RepD _ _ (.int k2 y) _:=r2
 have r3:RepD _ _ (.int k3 z) _:=r3
 cases r1; cases r2; cases r3
 refine .inr ⟨Extern.MathBitsCarry.pair ((x.toNat+y.toNat+z.toNat) % Extern.MathBitsCarry.m64) ((x.toNat+y.toNat+z.toNat) / Extern.MathBitsCarry.m64),w,?_,β,hm,.refl _ _ _ _,?_⟩
 · rw [run_callFunc_extern h1 h2.1 h2.2.1 (by simpa using h2.2.2) k]
   have e3 : (Extern.MathBitsCarry.three "Add64" #[.int k1 x, .int k2 y, .int k3 z]).run P w = .ok (x.toNat, y.toNat, z.toNat) w := by
    change Sem.run P (do
     let c:=(←asInt (.int k3 z)).toNat
     if c > 1 then unsupported (.noEntry ("extern/math/bits." ++ "Add64" ++ ": a carry that is neither 0 nor 1"))
     pure ((←asInt (.int k1 x)).toNat,(←asInt (.int k2 y)).toNat,c)) w=_
    simp only [asInt,asIntOf,Sem.run_bind,Sem.run_pure,Result.andThen_ok]
    rw [if_neg (by omega)]
    simp [Sem.run_pure]
   unfold addRow
   simp only [Sem.run_bind,e3,Sem.run_pure,Result.andThen_ok]
 · refine ⟨_,rfl,.cons ⟨_,rfl,RepD.int _ _⟩ (.cons ⟨_,rfl,RepD.int _ _⟩ .nil)⟩
theorem obind_congr {α β:Type} {x y:Option α} {f:α→Option β} (h:x=y):x.bind f=y.bind f:=by rw [h]
end

section
inductive Oc where
 | b (p:Bool)
 | m
 | r (v:V) (m:Heap)
 | l (ds:List D)
 | n (n:Nat)
 | ll (rs:List (List D))
 | br (b:List (Nat × C))

def AllT:List Prop→Prop
 | []=>True
 | [p]=>p
 | p::q::r=>p∧AllT (q::r)
theorem AllT_append:∀ {a b:List Prop},AllT (a++b)→AllT a∧AllT b
 | [],b,h=>⟨trivial,h⟩
 | [p],[],h=>⟨h,trivial⟩
 | [p],q::b,h=>h
 | p::q::a,b,h=>by
  obtain ⟨h1,h2⟩:=h
  have:=AllT_append (a:=q::a) h2
  exact ⟨⟨h1,this.1⟩,this.2⟩
abbrev OR (α:Type):=Option (List Prop × α × List Oc)
def OR.pure {α:Type} (os:List Oc) (x:Option α):OR α:=x.map fun y=>([],y,os)

def doCallO (call:Call) (pure:Bool) (g:Nat) (args:List V) (m:Heap):List Oc→OR (V × Heap)
 | .r v m1::os =>
  if pure then if args.all V.noSlots then match m1 with | []=>some ([call g args []=some (v,[])],(v,m),os) | _=>none else none
  else
   let ids:=reach m (4*m.length+args.length*8+8) (args.flatMap V.slots) []
   if allLt ids m.length=true then
    let ρ:=C.ren fun t=>some (back ids m.length t)
    some ([call g (args.map (V.mapC (C.ren fun t=>find t ids 0))) (sel ids m)=some (v,m1)],(v.mapC ρ,wback ids (m1.map (Slot.mapC ρ)) m),os)
   else none
 | _=>none

def sliceI (lo hi max:Option V) (len:Nat):Option (Int × Int × Int) :=
 (match lo with | some l=>l.int?.map Prod.snd | none=>some 0).bind fun l =>
 match max with
 | some v=>v.int?.bind fun m=>hi.bind fun h=>h.int?.bind fun h=>some (l,h.2,m.2)
 | none=>(match hi with | some h=>h.int?.map Prod.snd | none=>some (len:Int)).bind fun h=>some (l,h,(len:Int))
theorem sliceI_ok {lo hi max:Option V} {len:Nat} {q:Int × Int × Int} (h:sliceI lo hi max len=some q) (hq:0≤q.1∧q.1≤q.2.1∧q.2.1≤q.2.2∧q.2.2≤len):sliceB lo hi max len=some (q.1.toNat,q.2.1.toNat):=by
 unfold sliceI at h
 unfold sliceB
 have hq3:0≤q.1∧q.1≤q.2.1∧q.2.1≤(len:Int):=⟨hq.1,hq.2.1,by omega⟩
 cases lo with
 | none =>
  cases max with
  | none =>
   cases hi with
   | none=>simp only [Option.bind_some] at h ⊢; cases h; exact if_pos hq3
   | some v =>
    cases e:v.int? with
    | none=>simp [e] at h
    | some p=>simp only [e,Option.map_some,Option.bind_some] at h ⊢; cases h; exact if_pos hq3
  | some m =>
   cases hi with
   | none=>cases e:m.int? <;> simp [e] at h
   | some v =>
    cases e1:m.int? with
    | none=>simp [e1] at h
    | some pm =>
     cases e:v.int? with
     | none=>simp [e1,e] at h
     | some p=>simp only [e,e1,Option.bind_some] at h ⊢; cases h; exact if_pos hq
 | some l =>
  cases e0:l.int? with
  | none=>simp [e0] at h
  | some pl =>
   cases max with
   | none =>
    cases hi with
    | none=>simp only [e0,Option.map_some,Option.bind_some] at h ⊢; cases h; exact if_pos hq3
    | some v =>
     cases e:v.int? with
     | none=>simp [e0,e] at h
     | some p=>simp only [e0,e,Option.map_some,Option.bind_some] at h ⊢; cases h; exact if_pos hq3
   | some m =>
    cases hi with
    | none=>cases e:m.int? <;> simp [e0,e] at h
    | some v =>
     cases e1:m.int? with
     | none=>simp [e0,e1] at h
     | some pm =>
      cases e:v.int? with
      | none=>simp [e0,e1,e] at h
      | some p=>simp only [e0,e,e1,Option.map_some,Option.bind_some] at h ⊢; cases h; exact if_pos hq
def orBr:List (Nat × C)→Nat→Nat→List Prop × Option C
 | [],_,_=>([],none)
 | (j,c)::_,i,0=>([j=i],some c)
 | (j,_)::r,i,n+1=>let x:=orBr r i n; ((j≠i)::x.1,x.2)
def seePick (m:Heap):List (Nat × C)→Option (List (Nat × List D))
 | []=>some []
 | (i,c)::r=>(seeRow m c).bind fun x=>(seePick m r).bind fun y=>some ((i,x)::y)
def setAll:List (Nat × List D)→List (List D)→List (List D)
 | [],rs=>rs
 | (i,x)::r,rs=>(setAll r rs).set i x
theorem seePick_ok {m:Heap}:∀ {br:List (Nat × C)} {ps:List (Nat × List D)} {rs:List (List D)},seePick m br=some ps→seeBr m br rs=some (setAll ps rs)
 | [],ps,rs,h=>by cases h; rfl
 | (i,c)::r,ps,rs,h=>by
  simp only [seePick] at h
  obtain ⟨x,h1,h2⟩:=bind_some' h
  obtain ⟨y,h3,h4⟩:=bind_some' h2
  cases h4
  simp only [seeBr,h1,seePick_ok h3,Option.bind_some,setAll]
def orSeeC (m:Heap) (c:C) (os:List Oc):OR D :=
 match c with
 | .own s off len=>match m[s]? with
  | some (.vals _ xs)=>match os with
   | .l ds::os=>some ([(xs.drop off).take len=ds],.list ds,os)
   | _=>none
  | some (.rows _ rs br)=>(seePick m br).bind fun ps=>match os with
   | .l ds::os=>some ([(((setAll ps rs).drop off).take len).map D.list=ds],.list ds,os)
   | _=>none
  | _=>none
 | c=>OR.pure os (cellD c)
def orSeeCs (m:Heap):List C→List Oc→OR (List D)
 | [],os=>some ([],[],os)
 | c::cs,os=>(orSeeC m c os).bind fun x=>(orSeeCs m cs x.2.2).bind fun y=>some (x.1++y.1,x.2.1::y.2.1,y.2.2)
def orSeeV (m:Heap) (v:V) (os:List Oc):OR V :=
 match v with
 | .one c=>(orSeeC m c os).bind fun x=>some (x.1,.one (.d x.2.1),x.2.2)
 | .agg cs=>(orSeeCs m cs os).bind fun x=>some (x.1,.agg (x.2.1.map .d),x.2.2)
 | _=>none
def orSeeVs (m:Heap):List V→List Oc→OR (List V)
 | [],os=>some ([],[],os)
 | c::cs,os=>(orSeeV m c os).bind fun x=>(orSeeVs m cs x.2.2).bind fun y=>some (x.1++y.1,x.2.1::y.2.1,y.2.2)
def orO (call:Call) (σ:St) (o:MOp) (os:List Oc):OR (V × Heap) :=
 match o with
 | .bin .quo x y=>(σ.arg x).int?.bind fun a=>(σ.arg y).int?.bind fun b=>if a.1=b.1 then some ([b.2≠0],(.int a.1 (a.1.wrap (a.2.tdiv b.2)),σ.mem),os) else none
 | .bin .rem x y=>(σ.arg x).int?.bind fun a=>(σ.arg y).int?.bind fun b=>if a.1=b.1 then some ([b.2≠0],(.int a.1 (a.2.tmod b.2),σ.mem),os) else none
 | .bin .shl x y=>(σ.arg x).int?.bind fun a=>(σ.arg y).int?.bind fun b=>some ([0≤b.2],(.int a.1 (a.1.wrap (a.2*2 ^ (Nat.min b.2.toNat a.1.bits))),σ.mem),os)
 | .bin .shr x y=>(σ.arg x).int?.bind fun a=>(σ.arg y).int?.bind fun b=>some ([0≤b.2],(.int a.1 (a.2.fdiv (2 ^ (Nat.min b.2.toNat a.1.bits))),σ.mem),os)
 | .iaddr z x i=>(σ.arg x).c?.bind fun c=>(σ.arg i).int?.bind fun i=>match c with
  | .d (.list xs)=>match os with
   | .l ds::os=>if ds.length=z.cells.length then some ([0≤i.2∧i.2 < xs.length,(xs.getD i.2.toNat z).cells=ds],(.one (.d (.ref ds)),σ.mem),os) else none
   | _=>none
  | .own s off len=>match σ.mem[s]? with
   | some (.vals z' _)=>if z'.cells.length=z.cells.length then some ([0≤i.2∧i.2 < len],(.one (.ptr s (off+i.2.toNat) 0),σ.mem),os) else none
   | some (.rows ..)=>if z.cells.length=1 then some ([0≤i.2∧i.2 < len],(.one (.ptr s (off+i.2.toNat) 0),σ.mem),os) else none
   | _=>none
  | _=>none
 | .isn neg x=>(σ.arg x).c?.bind fun c=>match c with
  | .nil=>some ([],(.bool (!neg),σ.mem),os)
  | .d (.list xs)=>some ([0 < xs.length],(.bool neg,σ.mem),os)
  | _=>none
 | .aaddr n sz x i=>(σ.arg x).c?.bind fun c=>(σ.arg i).int?.bind fun i=>match c with
  | .ptr s 0 0=>match σ.mem[s]? with
   | some (.vals z xs)=>if z.cells.length=sz then some ([0≤i.2∧i.2 < n∧i.2 < xs.length],(.one (.ptr s i.2.toNat 0),σ.mem),os) else none
   | some (.cells _)=>some ([0≤i.2∧i.2 < n],(.one (.ptr s 0 (i.2.toNat*sz)),σ.mem),os)
   | _=>none
  | _=>none
 | .aflat n sz x i=>(σ.arg x).c?.bind fun c=>(σ.arg i).int?.bind fun i=>match c with
  | .ptr s p 0=>match σ.mem[s]? with
   | some (.vals z xs)=>match os with
    | .n q::os=>if z.cells.length=1 then some ([0≤i.2∧i.2 < n,p+i.2.toNat*sz=q,q < xs.length],(.one (.ptr s q 0),σ.mem),os) else none
    | _=>none
   | _=>none
  | _=>none
 | .lookup x k=>(σ.arg x).c?.bind fun c=>(σ.arg k).int?.bind fun k=>match c with
  | .mp s=>match σ.mem[s]? with
   | some (.map es)=>match os with
    | .n j::os=>if k.1=.i64 then (getM es j).bind fun d=>some ([k.2=(j:Int)],(.one (.d d),σ.mem),os) else none
    | _=>none
   | _=>none
  | _=>none
 | .load n g a=>(σ.arg a).c?.bind fun c=>match c with
  | .ptr s i j=>match σ.mem[s]? with
   | some (.vals z xs)=>if 1 < n∧z.cells.length=1 then (if i=0∧j=0 then (match os with
    | .l ds::os=>(mkV g (ds.map .d)).bind fun v=>some ([xs.length=n,xs.flatMap D.cells=ds],(v,σ.mem),os)
    | _=>none) else none) else match os with
    | .l ds::os=>if j+n≤ds.length then (mkV g (((ds.drop j).take n).map .d)).bind fun v=>some ([(xs.getD i z).cells=ds],(v,σ.mem),os) else none
    | _=>none
   | _=>OR.pure os (evO call σ (.load n g a))
  | _=>OR.pure os (evO call σ (.load n g a))
 | .store n a x=>(σ.arg a).c?.bind fun c=>match c with
  | .ptr s i j=>match σ.mem[s]? with
   | some (.vals z xs)=>(σ.arg x).cs?.bind fun cs=>if 1 < n∧z.cells.length=1 then (if i=0∧j=0 then (match os with
    | .l ds::os=>some ([cs=ds.map .d,ds.length=n,xs.length=n],(.tup [],σ.mem.set s (.vals z ds)),os)
    | _=>none) else none) else if cs.length=n then (toDs σ.mem cs).bind fun y =>
    match y.2[s]? with
    | some (.vals z xs)=>match os with
     | .l xs'::os=>if j+cs.length≤z.cells.length then some ([xs.set i (elemOf z (splice (xs.getD i z).cells j y.1))=xs'],(.tup [],y.2.set s (.vals z xs')),os) else none
     | _=>none
    | _=>none
    else none
   | _=>OR.pure os (evO call σ (.store n a x))
  | _=>OR.pure os (evO call σ (.store n a x))
 | .slice z x lo hi mx=>(σ.arg x).c?.bind fun c=>match c with
  | .d (.list xs)=>(sliceI (lo.map σ.arg) (hi.map σ.arg) (mx.map σ.arg) xs.length).bind fun q=>match os with
   | .l xs'::os=>some ([xs.all (fun d=>d.cells.length == z)=true,0≤q.1∧q.1≤q.2.1∧q.2.1≤q.2.2∧q.2.2≤xs.length,(xs.drop q.1.toNat).take (q.2.1.toNat - q.1.toNat)=xs'],(.one (.d (.list xs')),σ.mem),os)
   | _=>none
  | .own s off len=>match σ.mem[s]? with
   | some (.vals z' _)=>if z'.cells.length=z then (sliceI (lo.map σ.arg) (hi.map σ.arg) (mx.map σ.arg) len).bind fun q =>
    some ([0≤q.1∧q.1≤q.2.1∧q.2.1≤q.2.2∧q.2.2≤len],(.one (.own s (off+q.1.toNat) (q.2.1.toNat - q.1.toNat)),σ.mem),os) else none
   | some (.rows ..)=>if z=1 then (sliceI (lo.map σ.arg) (hi.map σ.arg) (mx.map σ.arg) len).bind fun q =>
    some ([0≤q.1∧q.1≤q.2.1∧q.2.1≤q.2.2∧q.2.2≤len],(.one (.own s (off+q.1.toNat) (q.2.1.toNat - q.1.toNat)),σ.mem),os) else none
   | _=>none
  | _=>OR.pure os (evO call σ (.slice z x lo hi mx))
 | .mkslice z l c=>(σ.arg l).int?.bind fun l=>(σ.arg c).int?.bind fun c=>match os with
  | .l xs::os=>some ([0≤l.2∧l.2≤c.2∧c.2≤LIM,List.replicate l.2.toNat z=xs],(.one (.own σ.mem.length 0 l.2.toNat),σ.mem++[.vals z xs]),os)
  | _=>none
 | .append z x y=>(σ.arg x).c?.bind fun a=>(σ.arg y).c?.bind fun b=>(elems σ.mem b).bind fun ys=>match a with
  | .nil=>match os with
   | .n n::.l xs'::os=>some ([ys.all (fun d=>d.cells.length == z.cells.length)=true,n≤LIM,ys.length=n,ys=xs'],(.one (.own σ.mem.length 0 n),σ.mem++[.vals z xs']),os)
   | _=>none
  | .own s off len=>match σ.mem[s]? with
   | some (.vals z' xs)=>match os with
    | .n n::.l xs'::os=>if z'.cells.length=z.cells.length then
     some ([ys.all (fun d=>d.cells.length == z.cells.length)=true,len+n≤LIM,ys.length=n,(xs.drop off).take len++ys=xs'],(.one (.own σ.mem.length 0 (len+n)),σ.mem.set s .dead++[.vals z' xs']),os) else none
    | _=>none
   | _=>none
  | _=>none
 | .len false x=>(σ.arg x).c?.bind fun c=>match c with
  | .d (.list xs)=>match os with
   | .n n::os=>some ([xs.length=n],(.int .i64 n,σ.mem),os)
   | _=>none
  | _=>OR.pure os (evO call σ (.len false x))
 | .pick c a b=>(σ.arg c).bool?.bind fun p=>match os with
  | .b q::os=>some ([p=q],(if q then σ.arg a else σ.arg b,σ.mem),os)
  | _=>none
 | .vidx n sz g x i=>(σ.arg i).int?.bind fun i=>match σ.arg x,os with
  | .agg cs,.l ds::os=>(mkV g (ds.map .d)).bind fun v=>some ([0≤i.2∧i.2 < n,(cs.drop (i.2.toNat*sz)).take sz=ds.map .d],(v,σ.mem),os)
  | _,_=>none
 | .call pure g args=>doCallO call pure g (args.map σ.arg) σ.mem os
 | .view g args=>(orSeeVs σ.mem (args.map σ.arg) os).bind fun x=>match x.2.2 with
  | .r v []::os=>if v.plain then some (x.1++[call g x.2.1 []=some (v,[])],(v,σ.mem),os) else none
  | _=>none
 | .viewO g args=>(orSeeVs σ.mem (args.map σ.arg) os).bind fun x=>match x.2.2 with
  | .r v [.vals z xs]::os=>if v.own1 then some (x.1++[call g x.2.1 []=some (v,[.vals z xs]),xs.all (fun d=>d.cells.all D.num)=true],(v.mapC (C.at σ.mem.length),σ.mem++[.vals z xs]),os) else none
  | _=>none
 | .mkrows z l c=>(σ.arg l).int?.bind fun l=>(σ.arg c).int?.bind fun c=>match os with
  | .ll rs::os=>some ([0≤l.2∧l.2≤c.2∧c.2≤LIM,List.replicate l.2.toNat []=rs],(.one (.own σ.mem.length 0 l.2.toNat),σ.mem++[.rows z rs []]),os)
  | _=>none
 | .lend a=>(σ.arg a).c?.bind fun c=>match c with
  | .ptr s i 0=>match σ.mem[s]? with
   | some (.rows z rs br)=>match os with
    | .n n::os=>let x:=orBr br i n
     match x.2 with
     | some c=>some (x.1,(.one c,σ.mem),os)
     | none=>if n < br.length then none else match os with
      | .l xs::.n len::os=>some (x.1++[rs.getD i []=xs,xs.length=len],(.one (.own σ.mem.length 0 len),σ.mem.set s (.rows z rs ((i,.own σ.mem.length 0 len)::br))++[.vals z xs]),os)
      | _=>none
    | _=>none
   | _=>none
  | _=>none
 | .appendR x y=>(σ.arg x).c?.bind fun a=>(σ.arg y).c?.bind fun b=>match b with
  | .own s2 0 1=>match σ.mem[s2]? with
   | some (.rows z2 [_] br2)=>(brOne br2).bind fun c=>match a with
    | .nil=>some ([],(.one (.own σ.mem.length 0 1),σ.mem.set s2 .dead++[.rows z2 [[]] [(0,c)]]),os)
    | .own s 0 len=>match σ.mem[s]? with
     | some (.rows z rs [])=>match os with
      | .ll rs'::os=>some ([len+1≤LIM,rs.take len++[[]]=rs'],(.one (.own σ.mem.length 0 (len+1)),(σ.mem.set s .dead).set s2 .dead++[.rows z rs' [(len,c)]]),os)
      | _=>none
     | _=>none
    | _=>none
   | _=>none
  | _=>none
 | .callv x args=>match σ.arg x with
  | .one (.fn (.func g) caps)=>doCallO call false g (args.map σ.arg++caps.map fun c=>.one c.c) σ.mem os
  | .one (.d (.fn (.func g) caps))=>doCallO call false g (args.map σ.arg++caps.map fun c=>.one (.d c)) σ.mem os
  | _=>none
 | o=>OR.pure os (evO call σ o)

def andOr (want p q e:Bool):Bool :=
 match want,e with
 | true,false=>p && q
 | false,true=>p || q
 | _,_=>if p=want then q else e
theorem andOr_eq (want p q e:Bool):andOr want p q e=if p=want then q else e:=by cases want <;> cases p <;> cases q <;> cases e <;> rfl

mutual
def orI (call:Call):MI→St→List Oc→OR St
 | .op dst o,σ,os=>(orO call σ o os).bind fun x=>some (x.1,St.put ⟨σ.env,x.2.1.2⟩ dst x.2.1.1,x.2.2)
 | .sc t want body dst e r,σ,os=>(σ.env.get t).bool?.bind fun p=>match os with
  | .b q::os=>if q=want then (orIs call body σ os).bind fun x=>some ((p=q)::x.1,⟨σ.env.put dst (x.2.1.arg r),x.2.1.mem⟩,x.2.2) else some ([p=q],⟨σ.env.put dst (σ.arg e),σ.mem⟩,os)
  | .m::os=>(orIs call body σ os).bind fun x=>(x.2.1.arg r).bool?.bind fun q=>(σ.arg e).bool?.bind fun e =>
   some ((match x.1 with | []=>[x.2.1.mem=σ.mem] | l=>[p=want→AllT l,x.2.1.mem=σ.mem]),⟨σ.env.put dst (.bool (andOr want p q e)),σ.mem⟩,x.2.2)
  | _=>none
def orIs (call:Call):List MI→St→List Oc→OR St
 | [],σ,os=>some ([],σ,os)
 | i::is,σ,os=>(orI call i σ os).bind fun x=>(orIs call is x.2.1 x.2.2).bind fun y=>some (x.1++y.1,y.2)
end

theorem OR.pure_ok {α:Type} {os:List Oc} {x:Option α} {y:List Prop × α × List Oc} (h:OR.pure os x=some y):x=some y.2.1:=by
 unfold OR.pure at h
 cases x with
 | none=>cases h
 | some z=>cases h; rfl
theorem doCallO_ok {call:Call} {pure:Bool} {g:Nat} {args:List V} {m:Heap} {os:List Oc} {x:List Prop × (V × Heap) × List Oc} (h:doCallO call pure g args m os=some x) (hP:AllT x.1):doCall call pure g args m=some x.2.1:=by
 unfold doCallO at h
 split at h
 · rename_i v m1 os'
   unfold doCall
   split at h
   · rename_i hp
     rw [if_pos hp]
     split at h
     · rename_i ha
       rw [if_pos ha]
       split at h
       · cases h
         have hP:call g args []=some (v,[]):=hP
         rw [hP]; rfl
       · cases h
     · cases h
   · rename_i hp
     rw [if_neg hp]
     simp only [] at h ⊢
     split at h
     · rename_i ha
       rw [if_pos ha]
       cases h
       have hP:call _ _ _=some (v,m1):=hP
       rw [hP]; rfl
     · cases h
 · cases h

theorem orBr_ok:∀ {br:List (Nat × C)} {i n:Nat},AllT (orBr br i n).1→(∀ c,(orBr br i n).2=some c→brGet br i=some c)∧((orBr br i n).2=none→¬n < br.length→brGet br i=none)
 | [],i,n,_=>⟨fun c h=>(by cases h),fun _ _=>rfl⟩
 | (j,c)::r,i,0,h=>by
  have h:j=i:=h
  refine ⟨fun c' e=>?_,fun e=>?_⟩
  · cases e
    simp only [brGet,if_pos h]
  · cases e
 | (j,c)::r,i,n+1,h=>by
  have h:=AllT_append (a:=[j≠i]) h
  have g1:j≠i:=h.1
  have g2:=h.2
  obtain ⟨k1,k2⟩:=orBr_ok (br:=r) (i:=i) (n:=n) g2
  simp only [brGet,if_neg g1]
  exact ⟨k1,fun e hn=>k2 e (by simp only [List.length_cons] at hn; omega)⟩
theorem orSeeC_ok {m:Heap} {c:C} {os:List Oc} {x:List Prop × D × List Oc} (h:orSeeC m c os=some x) (hP:AllT x.1):seeC m c=some x.2.1:=by
 unfold orSeeC at h
 split at h
 · split at h
   · rename_i hs
     split at h
     · cases h
       have hP:(_:List D)=_:=hP
       simp only [seeC,hs,hP]
     · cases h
   · rename_i hs
     obtain ⟨ps,h1,h⟩:=bind_some' h
     split at h
     · cases h
       have hP:(_:List D)=_:=hP
       simp only [seeC,hs,seePick_ok h1,Option.bind_some,hP]
     · cases h
   · cases h
 · rename_i hc
   have e:=OR.pure_ok h
   unfold seeC
   split
   · exact absurd rfl (hc _ _ _)
   · exact e
theorem orSeeCs_ok {m:Heap}:∀ {cs:List C} {os:List Oc} {x:List Prop × List D × List Oc},orSeeCs m cs os=some x→AllT x.1→seeCs m cs=some x.2.1
 | [],os,x,h,_=>by cases h; rfl
 | c::cs,os,x,h,hP=>by
  simp only [orSeeCs] at h
  obtain ⟨y,h1,h2⟩:=bind_some' h
  obtain ⟨z,h3,h4⟩:=bind_some' h2
  cases h4
  obtain ⟨g1,g2⟩:=AllT_append hP
  simp only [seeCs,orSeeC_ok h1 g1,orSeeCs_ok h3 g2,Option.bind_some]
theorem orSeeV_ok {m:Heap} {c:V} {os:List Oc} {x:List Prop × V × List Oc} (h:orSeeV m c os=some x) (hP:AllT x.1):seeV m c=some x.2.1:=by
 unfold orSeeV at h
 split at h
 · obtain ⟨y,h1,h2⟩:=bind_some' h
   cases h2
   simp only [seeV,orSeeC_ok h1 hP,Option.bind_some]
 · obtain ⟨y,h1,h2⟩:=bind_some' h
   cases h2
   simp only [seeV,orSeeCs_ok h1 hP,Option.bind_some]
 · cases h
theorem orSeeVs_ok {m:Heap}:∀ {cs:List V} {os:List Oc} {x:List Prop × List V × List Oc},orSeeVs m cs os=some x→AllT x.1→seeVs m cs=some x.2.1
 | [],os,x,h,_=>by cases h; rfl
 | c::cs,os,x,h,hP=>by
  simp only [orSeeVs] at h
  obtain ⟨y,h1,h2⟩:=bind_some' h
  obtain ⟨z,h3,h4⟩:=bind_some' h2
  cases h4
  obtain ⟨g1,g2⟩:=AllT_append hP
  simp only [seeVs,orSeeV_ok h1 g1,orSeeVs_ok h3 g2,Option.bind_some]

theorem orO_ok {call:Call} {σ:St} {o:MOp} {os:List Oc} {x:List Prop × (V × Heap) × List Oc} (h:orO call σ o os=some x) (hP:AllT x.1):evO call σ o=some x.2.1:=by
 unfold orO at h
 split at h
 ·
   obtain ⟨a,ha,h⟩:=bind_some' h
   obtain ⟨b,hb,h⟩:=bind_some' h
   split at h
   · rename_i hk
     cases h
     have hP:b.2≠0:=hP
     obtain ⟨ka,na⟩:=a; obtain ⟨kb,nb⟩:=b
     simp only [] at hk
     subst hk
     simp only [evO,ha,hb,Option.bind_some,binI,if_true,if_neg hP]
   · cases h
 · obtain ⟨a,ha,h⟩:=bind_some' h
   obtain ⟨b,hb,h⟩:=bind_some' h
   split at h
   · rename_i hk
     cases h
     have hP:b.2≠0:=hP
     obtain ⟨ka,na⟩:=a; obtain ⟨kb,nb⟩:=b
     simp only [] at hk
     subst hk
     simp only [evO,ha,hb,Option.bind_some,binI,if_true,if_neg hP]
   · cases h
 ·
   obtain ⟨a,ha,h⟩:=bind_some' h
   obtain ⟨b,hb,h⟩:=bind_some' h
   cases h
   have hP:0≤b.2:=hP
   simp only [evO,ha,hb,Option.bind_some,binI,if_neg (show ¬b.2 < 0 by omega)]
 ·
   obtain ⟨a,ha,h⟩:=bind_some' h
   obtain ⟨b,hb,h⟩:=bind_some' h
   cases h
   have hP:0≤b.2:=hP
   simp only [evO,ha,hb,Option.bind_some,binI,if_neg (show ¬b.2 < 0 by omega)]
 ·
   obtain ⟨c,hc,h⟩:=bind_some' h
   obtain ⟨i,hi,h⟩:=bind_some' h
   simp only [evO,hc,hi,Option.bind_some]
   split at h
   · split at h
     · split at h
       · rename_i hl
         cases h
         obtain ⟨h1,h2⟩:=hP
         have h2:(_:List D)=_:=h2
         simp only [if_pos h1,h2,if_pos hl]
       · cases h
     · cases h
   · split at h
     · rename_i hs
       simp only [hs]
       split at h
       · rename_i hl
         cases h
         have hP:_∧_:=hP
         simp only [if_pos hl,if_pos hP]
       · cases h
     · rename_i hs
       simp only [hs]
       split at h
       · rename_i hl
         cases h
         have hP:_∧_:=hP
         simp only [if_pos hl,if_pos hP]
       · cases h
     · cases h
   · cases h
 ·
   obtain ⟨c,hc,h⟩:=bind_some' h
   simp only [evO,hc,Option.bind_some]
   split at h
   · cases h; rfl
   · cases h
     have hP:_ < _:=hP
     simp only [if_pos hP]
   · cases h
 ·
   obtain ⟨c,hc,h⟩:=bind_some' h
   obtain ⟨i,hi,h⟩:=bind_some' h
   simp only [evO,hc,hi,Option.bind_some]
   split at h
   · split at h
     · rename_i hs
       simp only [hs]
       split at h
       · rename_i hl
         cases h
         have hP:_∧_:=hP
         simp only [if_pos hl,if_pos hP]
       · cases h
     · rename_i hs
       simp only [hs]
       cases h
       have hP:_∧_:=hP
       simp only [if_pos hP]
     · cases h
   · cases h
 ·
   obtain ⟨c,hc,h⟩:=bind_some' h
   obtain ⟨i,hi,h⟩:=bind_some' h
   simp only [evO,hc,hi,Option.bind_some]
   split at h
   · split at h
     · rename_i hs
       simp only [hs]
       split at h
       · split at h
         · rename_i hl
           cases h
           obtain ⟨h1,h2,h3⟩:=hP
           have h2:(_:Nat)=_:=h2
           have h3:(_:Nat) < _:=h3
           rw [h2,if_pos hl,if_pos ⟨h1.1,h1.2,h3⟩]
         · cases h
       · cases h
     · cases h
   · cases h
 ·
   obtain ⟨c,hc,h⟩:=bind_some' h
   obtain ⟨q,hq,h⟩:=bind_some' h
   simp only [evO,hc,hq,Option.bind_some]
   split at h
   · split at h
     · rename_i hs
       split at h
       · split at h
         · rename_i hk
           obtain ⟨d,hd,h⟩:=bind_some' h
           cases h
           have hP:q.2=_:=hP
           simp only [hs,if_pos hk,hP,hd,Option.bind_some]
         · cases h
       · cases h
     · cases h
   · cases h
 ·
   obtain ⟨c,hc,h⟩:=bind_some' h
   split at h
   · split at h
     · rename_i hs
       split at h
       · rename_i hf
         split at h
         · rename_i hq
           split at h
           · obtain ⟨v,hv,h⟩:=bind_some' h
             cases h
             obtain ⟨h1,h2⟩:=hP
             have h1:(_:Nat)=_:=h1
             have h2:(_:List D)=_:=h2
             simp only [evO,hc,Option.bind_some,ldC,hs]
             rw [if_pos hf,if_pos ⟨hq.1,hq.2,h1⟩,h2]
             simp only [Option.bind_some,hv]
           · cases h
         · cases h
       rename_i hf
       split at h
       · split at h
         · rename_i hl
           obtain ⟨v,hv,h⟩:=bind_some' h
           cases h
           have hP:(_:List D)=_:=hP
           simp only [evO,hc,Option.bind_some,ldC,hs,if_neg hf,hP,if_pos hl,hv]
         · cases h
       · cases h
     · exact OR.pure_ok h
   · exact OR.pure_ok h
 ·
   obtain ⟨c,hc,h⟩:=bind_some' h
   split at h
   · split at h
     · rename_i hs
       obtain ⟨cs,hcs,h⟩:=bind_some' h
       split at h
       · rename_i hf
         split at h
         · rename_i hq
           split at h
           · cases h
             obtain ⟨h1,h2,h3⟩:=hP
             have h1:cs=_:=h1
             have h2:(_:Nat)=_:=h2
             have h3:(_:Nat)=_:=h3
             obtain ⟨rfl,rfl⟩:=hq
             have tods:∀ (ds:List D) (m:Heap),toDs m (ds.map .d)=some (ds,m):=by
              intro ds m
              induction ds with
              | nil=>rfl
              | cons d ds ih=>simp [toDs,toD,cellD,ih]
             rw [h1] at hcs
             simp only [evO,hc,hcs,Option.bind_some]
             rw [if_pos (by rw [List.length_map]; exact h2)]
             simp only [stC,hs,tods,Option.bind_some]
             rw [if_neg (by rw [List.length_map,hf.2]; omega),if_pos ⟨trivial,trivial,hf.2,by rw [List.length_map,h2]; exact h3⟩]
             rfl
           · cases h
         · cases h
       split at h
       · rename_i hn
         obtain ⟨y,hy,h⟩:=bind_some' h
         split at h
         · rename_i hs2
           split at h
           · split at h
             · rename_i hl
               cases h
               have hP:(_:List D)=_:=hP
               simp only [evO,hc,hcs,Option.bind_some,if_pos hn,stC,hs,hy,hs2,if_pos hl,hP]
             · cases h
           · cases h
         · cases h
       · cases h
     · exact OR.pure_ok h
   · exact OR.pure_ok h
 ·
   obtain ⟨c,hc,h⟩:=bind_some' h
   split at h
   · obtain ⟨q,hq,h⟩:=bind_some' h
     split at h
     · cases h
       obtain ⟨h1,h2,h3⟩:=hP
       have h3:(_:List D)=_:=h3
       simp only [evO,hc,Option.bind_some,if_pos h1,sliceI_ok hq h2,h3]
     · cases h
   · split at h
     · rename_i hs
       split at h
       · rename_i hz
         obtain ⟨q,hq,h⟩:=bind_some' h
         cases h
         have hP:_∧_:=hP
         simp only [evO,hc,Option.bind_some,hs,if_pos hz,sliceI_ok hq hP]
       · cases h
     · rename_i hs
       split at h
       · rename_i hz
         obtain ⟨q,hq,h⟩:=bind_some' h
         cases h
         have hP:_∧_:=hP
         simp only [evO,hc,Option.bind_some,hs,if_pos hz,sliceI_ok hq hP]
       · cases h
     · cases h
   · exact OR.pure_ok h
 ·
   obtain ⟨l,hl,h⟩:=bind_some' h
   obtain ⟨c,hc,h⟩:=bind_some' h
   split at h
   · cases h
     obtain ⟨h1,h2⟩:=hP
     have h2:(_:List D)=_:=h2
     simp only [evO,hl,hc,Option.bind_some,if_pos h1,h2]
   · cases h
 ·
   obtain ⟨a,ha,h⟩:=bind_some' h
   obtain ⟨b,hb,h⟩:=bind_some' h
   obtain ⟨ys,hys,h⟩:=bind_some' h
   split at h
   · split at h
     · cases h
       obtain ⟨h1,h2,hn,h3⟩:=hP
       have h3:(_:List D)=_:=h3
       subst hn
       subst h3
       simp only [evO,ha,hb,hys,Option.bind_some,if_pos h1,if_pos h2]
     · cases h
   · split at h
     · rename_i hs
       split at h
       · split at h
         · rename_i hz
           cases h
           obtain ⟨h1,h2,hn,h3⟩:=hP
           have h3:(_:List D)=_:=h3
           subst hn
           simp only [evO,ha,hb,hys,Option.bind_some,if_pos h1,hs,h3]
           rw [if_pos ⟨hz,h2⟩]
         · cases h
       · cases h
     · cases h
   · cases h
 ·
   obtain ⟨c,hc,h⟩:=bind_some' h
   split at h
   · split at h
     · cases h
       have hP:_=_:=hP
       simp only [evO,Bool.false_eq_true,if_false,hc,Option.bind_some,hP]
     · cases h
   · exact OR.pure_ok h
 ·
   obtain ⟨p,hp,h⟩:=bind_some' h
   split at h
   · cases h
     have hP:p=_:=hP
     subst hP
     simp only [evO,hp,Option.bind_some]
   · cases h
 ·
   obtain ⟨j,hj,h'⟩:=bind_some' h
   clear h
   split at h'
   · rename_i hx
     obtain ⟨v,hv,h⟩:=bind_some' h'
     cases h
     obtain ⟨h1,h2⟩:=hP
     have h2:(_:List C)=_:=h2
     simp only [evO,hj,Option.bind_some]
     rw [hx]
     simp only [if_pos h1,h2,hv,Option.bind_some]
   · cases h'
 · simp only [evO]; exact doCallO_ok h hP
 ·
   obtain ⟨y,h1,h⟩:=bind_some' h
   split at h
   · split at h
     · rename_i hp
       cases h
       obtain ⟨g1,g2⟩:=AllT_append hP
       have g2:call _ _ _=_:=g2
       simp only [evO,orSeeVs_ok h1 g1,g2,Option.bind_some,hp,if_true]
     · cases h
   · cases h
 ·
   obtain ⟨y,h1,h⟩:=bind_some' h
   split at h
   · split at h
     · rename_i hp
       cases h
       obtain ⟨g1,g2⟩:=AllT_append hP
       obtain ⟨g2,g3⟩:=g2
       have g2:call _ _ _=_:=g2
       have g3:_=true:=g3
       simp only [evO,orSeeVs_ok h1 g1,g2,Option.bind_some,hp,if_true,g3]
     · cases h
   · cases h
 ·
   obtain ⟨l,hl,h⟩:=bind_some' h
   obtain ⟨c,hc,h⟩:=bind_some' h
   split at h
   · cases h
     obtain ⟨h1,h2⟩:=hP
     have h2:(_:List (List D))=_:=h2
     simp only [evO,hl,hc,Option.bind_some,if_pos h1,h2]
   · cases h
 ·
   obtain ⟨c,hc,h⟩:=bind_some' h
   simp only [evO,hc,Option.bind_some]
   split at h
   · split at h
     · rename_i hs
       simp only [hs,ne_eq,not_true,if_false]
       split at h
       · simp only [] at h
         split at h
         · rename_i hx
           cases h
           rw [(orBr_ok hP).1 _ hx]
         · rename_i hx
           split at h
           · cases h
           · rename_i hn
             split at h
             · cases h
               obtain ⟨g1,g2⟩:=AllT_append hP
               obtain ⟨g3,g4⟩:=g2
               have g4:(_:Nat)=_:=g4
               rw [(orBr_ok g1).2 hx hn]
               simp only [g3,g4]
             · cases h
       · cases h
     · cases h
   · cases h
 ·
   obtain ⟨a,ha,h⟩:=bind_some' h
   obtain ⟨b,hb,h⟩:=bind_some' h
   simp only [evO,ha,hb,Option.bind_some]
   split at h
   · split at h
     · rename_i hs2
       obtain ⟨c,hc,h⟩:=bind_some' h
       simp only [hs2,hc,Option.bind_some,List.length_cons,List.length_nil,and_self,if_true]
       split at h
       · cases h; rfl
       · split at h
         · rename_i hs
           split at h
           · cases h
             obtain ⟨h1,h2⟩:=hP
             have h2:(_:List (List D))=_:=h2
             simp only [hs,List.isEmpty_nil,true_and,h1,if_true,h2]
           · cases h
         · cases h
       · cases h
     · cases h
   · cases h
 · split at h
   · rename_i hx
     simp only [evO,hx]
     exact doCallO_ok h hP
   · rename_i hx
     simp only [evO,hx]
     exact doCallO_ok h hP
   · cases h
 · exact OR.pure_ok h
mutual
theorem orI_ok {call:Call}:∀ (i:MI) {σ:St} {os:List Oc} {x:List Prop × St × List Oc},orI call i σ os=some x→AllT x.1→evI call i σ=some x.2.1
 | .op dst o,σ,os,x,h,hP=>by
  simp only [orI] at h
  obtain ⟨y,h1,h2⟩:=bind_some' h
  cases h2
  simp only [evI,orO_ok h1 hP,Option.bind_some]
 | .sc t want body dst e r,σ,os,x,h,hP=>by
  simp only [orI] at h
  obtain ⟨p,hp,h2⟩:=bind_some' h
  clear h
  simp only [evI,hp,Option.bind_some]
  split at h2
  · split at h2
    · rename_i hq
      obtain ⟨y,h3,h4⟩:=bind_some' h2
      cases h4
      have g:=AllT_append (a:=[p=_]) hP
      have g1:p=_:=g.1
      rw [if_pos (g1.trans hq),orIs_ok body h3 g.2]
      rfl
    · rename_i hq
      cases h2
      have hP:p=_:=hP
      rw [if_neg (fun c=>hq (hP.symm.trans c))]
      rfl
  · obtain ⟨y,h3,h4⟩:=bind_some' h2
    obtain ⟨q,h5,h6⟩:=bind_some' h4
    obtain ⟨e',h7,h8⟩:=bind_some' h6
    cases h8
    have gg:(p=want→AllT y.1)∧y.2.1.mem=σ.mem:=by
     simp only [] at hP
     split at hP
     · rename_i h0; exact ⟨fun _=>by rw [h0]; trivial,hP⟩
     · exact hP
    obtain ⟨g1,g2⟩:=gg
    have hb:∀ {v:V} {b:Bool},v.bool?=some b→v=.bool b:=by
     intro v b hv
     unfold V.bool? at hv
     split at hv <;> cases hv
     rfl
    simp only [andOr_eq]
    by_cases c:p=want
    · rw [if_pos c,orIs_ok body h3 (g1 c)]
      simp only [Option.bind_some,if_pos c]
      rw [hb h5,g2]
    · rw [if_neg c]
      simp only [Option.bind_some,if_neg c]
      rw [hb h7]
  · cases h2
theorem orIs_ok {call:Call}:∀ (is:List MI) {σ:St} {os:List Oc} {x:List Prop × St × List Oc},orIs call is σ os=some x→AllT x.1→evIs call is σ=some x.2.1
 | [],σ,os,x,h,hP=>by simp only [orIs] at h; cases h; rfl
 | i::is,σ,os,x,h,hP=>by
  simp only [orIs] at h
  obtain ⟨y,h1,h2⟩:=bind_some' h
  obtain ⟨z,h3,h4⟩:=bind_some' h2
  cases h4
  obtain ⟨g1,g2⟩:=AllT_append hP
  simp only [evIs,orI_ok i h1 g1,Option.bind_some]
  exact orIs_ok is h3 g2
end

def Slot.lent:Slot→List (Nat × C)
 | .rows _ _ br=>br
 | _=>[]
def orLender (s:Nat):Heap→Nat→List Oc→OR (Nat × Nat × Nat)
 | [],_,_=>none
 | sl::r,n,os=>if sl.lent.isEmpty=true then orLender s r (n+1) os else match os with
  | .n i::.n l::os=>some ([brHas s sl.lent sl.lent=some (i,l)],(n,i,l),os)
  | _=>none
theorem orLender_ok {s:Nat}:∀ {m:Heap} {n:Nat} {os:List Oc} {x:List Prop × (Nat × Nat × Nat) × List Oc},orLender s m n os=some x→AllT x.1→lender s m n=some x.2.1
 | [],n,os,x,h,_=>by cases h
 | sl::m,n,os,x,h,hP=>by
  simp only [orLender] at h
  split at h
  · rename_i he
    have key:=orLender_ok h hP
    cases sl with
    | rows z rs br =>
     have he:br.isEmpty=true:=he
     rw [List.isEmpty_iff] at he
     subst he
     simp only [lender,brHas]
     exact key
    | _=>simp only [lender]; exact key
  · rename_i he
    split at h
    · cases h
      have hP:brHas s sl.lent sl.lent=some _:=hP
      cases sl with
      | rows z rs br =>
       have hP:brHas s br br=some _:=hP
       simp only [lender,hP]
      | _=>exact absurd rfl he
    · cases h
def orG (b:Nat) (g:Ghost) (σ:St) (os:List Oc):OR St :=
 match g with
 | .bak t=>match σ.env.get t with
  | .one (.own s' _ _)=>(orLender s' σ.mem 0 os).bind fun x=>match σ.mem[x.2.1.1]?,σ.mem[s']? with
   | some (.rows z rs br),some (.vals z' xs)=>if z'.cells.length=z.cells.length then (match x.2.2 with
    | .ll rs'::.br br'::os=>some (x.1++[rs.set x.2.1.2.1 (xs.take x.2.1.2.2)=rs',brDel br x.2.1.2.1=br'],⟨σ.env,(σ.mem.set x.2.1.1 (.rows z rs' br')).set s' .dead⟩,os)
    | _=>none) else none
   | _,_=>none
  | .tup []=>some ([],σ,os)
  | _=>none
 | g=>OR.pure os (evG b g σ)
theorem orG_ok {b:Nat} {g:Ghost} {σ:St} {os:List Oc} {x:List Prop × St × List Oc} (h:orG b g σ os=some x) (hP:AllT x.1):evG b g σ=some x.2.1:=by
 unfold orG at h
 split at h
 · split at h
   · rename_i hg
     obtain ⟨y,h1,h⟩:=bind_some' h
     split at h
     · rename_i hs hs'
       split at h
       · rename_i hz
         split at h
         · cases h
           obtain ⟨g1,g2⟩:=AllT_append hP
           obtain ⟨g3,g4⟩:=g2
           have g4:(_:List (Nat × C))=_:=g4
           simp only [evG,hg,bakS,orLender_ok h1 g1,Option.bind_some,hs,hs',if_pos hz,g3,g4]
         · cases h
       · cases h
     · cases h
   · rename_i hg; cases h; simp only [evG,hg]
   · cases h
 · exact OR.pure_ok h
def orGs (b:Nat):List Ghost→St→List Oc→OR St
 | [],σ,os=>some ([],σ,os)
 | g::gs,σ,os=>(orG b g σ os).bind fun x=>(orGs b gs x.2.1 x.2.2).bind fun y=>some (x.1++y.1,y.2)
theorem orGs_ok {b:Nat}:∀ {gs:List Ghost} {σ:St} {os:List Oc} {x:List Prop × St × List Oc},orGs b gs σ os=some x→AllT x.1→evGs b gs σ=some x.2.1
 | [],σ,os,x,h,_=>by cases h; rfl
 | g::gs,σ,os,x,h,hP=>by
  simp only [orGs] at h
  obtain ⟨y,h1,h2⟩:=bind_some' h
  obtain ⟨z,h3,h4⟩:=bind_some' h2
  cases h4
  obtain ⟨g1,g2⟩:=AllT_append hP
  simp only [evGs,orG_ok h1 g1,Option.bind_some]
  exact orGs_ok h3 g2
def orR (call:Call) (b:Nat) (is:List MI) (gh:List Ghost) (σ:St) (os:List Oc):OR St:=(orIs call is σ os).bind fun x=>(orGs b gh x.2.1 x.2.2).bind fun y=>some (x.1++y.1,y.2)
theorem orR_ok {X:Nat→Option MFn} {call:Call} {k b:Nat} {is:List MI} {gh:List Ghost} {σ σ':St} {os os':List Oc} {Ps:List Prop} (h:orR call b is gh σ os=some (Ps,σ',os')) (hP:AllT Ps):evC X call k b (.reg is gh) σ=some (.normal,σ'):=by
 unfold orR at h
 obtain ⟨x,h1,h2⟩:=bind_some' h
 obtain ⟨y,h3,h4⟩:=bind_some' h2
 obtain ⟨p,τ,o⟩:=y
 cases h4
 obtain ⟨g1,g2⟩:=AllT_append hP
 simp only [evC,orIs_ok is h1 g1,Option.bind_some,orGs_ok h3 g2]

def orFI (call:Call) (i:FI) (σ:St) (os:List Oc):OR St :=
 match i.g with
 | none=>(orO call σ i.o os).bind fun x=>some (x.1,St.put ⟨σ.env,x.2.1.2⟩ i.dst x.2.1.1,x.2.2)
 | some (t,want)=>match σ.env.get t with
  | .one (.d (.bool p))=>match os with
   | .b q::os=>if q=want then (orO call σ i.o os).bind fun x=>some ((p=q)::x.1,St.put ⟨σ.env,x.2.1.2⟩ i.dst x.2.1.1,x.2.2) else some ([p=q],St.put ⟨σ.env,σ.mem⟩ i.dst (.tup []),os)
   | _=>none
  | .tup []=>some ([],St.put ⟨σ.env,σ.mem⟩ i.dst (.tup []),os)
  | _=>none
theorem orFI_ok {call:Call} {i:FI} {σ:St} {os:List Oc} {x:List Prop × St × List Oc} (h:orFI call i σ os=some x) (hP:AllT x.1):evFI call i σ=some x.2.1:=by
 unfold orFI at h
 unfold evFI act
 split at h
 · rename_i hg
   obtain ⟨y,h1,h2⟩:=bind_some' h
   cases h2
   rw [hg]
   simp only [orO_ok h1 hP,Option.bind_some]
 · rename_i t want hg
   rw [hg]
   simp only []
   split at h
   · rename_i p hp
     rw [hp]
     simp only []
     split at h
     · split at h
       · rename_i hq
         obtain ⟨y,h1,h2⟩:=bind_some' h
         cases h2
         obtain ⟨g1,g2⟩:=AllT_append (a:=[p=_]) hP
         have g1:p=_:=g1
         rw [if_pos (g1.trans hq),orO_ok h1 g2]
         rfl
       · rename_i hq
         cases h
         have hP:p=_:=hP
         rw [if_neg (fun c=>hq (hP.symm.trans c))]
         rfl
     · cases h
   · rename_i hp
     cases h
     rw [hp]
     rfl
   · cases h
def orAll (f:Nat→List Oc→OR St) (s:St):List Nat→List Oc→OR St
 | [],os=>some ([],s,os)
 | j::r,os=>(f j os).bind fun x=>(orAll f s r x.2.2).bind fun y=>some (x.1++(x.2.1=s)::y.1,s,y.2.2)
def orD (call:Call) (b:Nat) (is:List FI) (pre:List (List Nat)) (gh:List Ghost):Nat→List Nat→St→List Oc→OR St
 | 0,_,_,_=>none
 | n+1,done,σ,os=>match rdy pre done with
  | []=>orGs b gh σ os
  | i::r=>match (i::r).find? (fstOk is pre done σ) with
   | some j=>(orFI call (is.getD j default) σ os).bind fun x=>(orD call b is pre gh n (j::done) x.2.1 x.2.2).bind fun y=>some (x.1++y.1,y.2)
   | none =>
    let f:=fun j os=>(orFI call (is.getD j default) σ os).bind fun x=>(orD call b is pre gh n (j::done) x.2.1 x.2.2).bind fun y=>some (x.1++y.1,y.2)
    (f i os).bind fun x=>(orAll f x.2.1 r x.2.2).bind fun y=>some (x.1++y.1,y.2)
theorem orAll_ok {f:Nat→List Oc→OR St} {g:Nat→Option St} {s:St} (hf:∀ j os x,f j os=some x→AllT x.1→g j=some x.2.1):∀ {r:List Nat} {os:List Oc} {y:List Prop × St × List Oc},orAll f s r os=some y→AllT y.1→y.2.1=s∧∀ j∈r,g j=some s
 | [],os,y,h,_=>by simp only [orAll] at h; cases h; exact ⟨rfl,fun j hj=>by cases hj⟩
 | j::r,os,y,h,hP=>by
  simp only [orAll] at h
  obtain ⟨x,h1,h2⟩:=bind_some' h
  obtain ⟨z,h3,h4⟩:=bind_some' h2
  cases h4
  obtain ⟨g1,g2⟩:=AllT_append hP
  obtain ⟨g3,g4⟩:=AllT_append (a:=[x.2.1=s]) g2
  have g3:x.2.1=s:=g3
  refine ⟨rfl,fun i hi=>?_⟩
  rcases List.mem_cons.1 hi with hi | hi
  · subst hi; rw [hf _ _ _ h1 g1,g3]
  · exact (orAll_ok hf h3 g4).2 i hi
theorem sameAll_of {s:St}:∀ {l:List (Option St)},l≠[]→(∀ x∈l,x=some s)→sameAll l=some s
 | [],h,_=>absurd rfl h
 | [x],_,h=>by simp only [sameAll]; exact h x (by simp)
 | x::y::r,_,h=>by
  simp only [sameAll]
  rw [sameAll_of (s:=s) (by simp) (fun z hz=>h z (by simp only [List.mem_cons] at hz ⊢; exact .inr hz))]
  simp only [Option.bind_some]
  rw [if_pos (h x (by simp))]
theorem orD_ok {call:Call} {b:Nat} {is:List FI} {pre:List (List Nat)} {gh:List Ghost}:∀ (n:Nat) (done:List Nat) (σ:St) (os:List Oc) (x:List Prop × St × List Oc),orD call b is pre gh n done σ os=some x→AllT x.1→evD call b is pre gh n done σ=some x.2.1:=by
 intro n
 induction n with
 | zero=>intro done σ os x h; simp only [orD] at h; cases h
 | succ n ih =>
  intro done σ os x h hP
  simp only [orD] at h
  simp only [evD]
  have step:∀ j os x,((orFI call (is.getD j default) σ os).bind fun x=>(orD call b is pre gh n (j::done) x.2.1 x.2.2).bind fun y=>some (x.1++y.1,y.2))=some x→AllT x.1→((evFI call (is.getD j default) σ).bind (evD call b is pre gh n (j::done)))=some x.2.1:=by
   intro j os x h hP
   obtain ⟨y,h1,h2⟩:=bind_some' h
   obtain ⟨z,h3,h4⟩:=bind_some' h2
   cases h4
   obtain ⟨g1,g2⟩:=AllT_append hP
   rw [orFI_ok h1 g1]
   have:=ih _ _ _ z h3 g2
   exact this
  split at h
  · rename_i hr
    simp only [hr]
    exact orGs_ok h hP
  · rename_i i r hr
    simp only [hr]
    split at h
    · rename_i j hj
      simp only [hj]
      exact step j os x h hP
    · rename_i hj
      simp only [hj]
      obtain ⟨y,h1,h2⟩:=bind_some' h
      obtain ⟨z,h3,h4⟩:=bind_some' h2
      cases h4
      obtain ⟨g1,g2⟩:=AllT_append hP
      obtain ⟨k1,k2⟩:=orAll_ok (g:=fun j=>(evFI call (is.getD j default) σ).bind (evD call b is pre gh n (j::done))) step h3 g2
      rw [k1]
      refine sameAll_of (by simp) fun x hx=>?_
      obtain ⟨j,hj,rfl⟩:=List.mem_map.1 hx
      rcases List.mem_cons.1 hj with hj | hj
      · subst hj; exact step _ _ _ h1 g1
      · exact k2 j hj
theorem orD_reg {X:Nat→Option MFn} {call:Call} {k b:Nat} {is:List FI} {pre:List (List Nat)} {gh:List Ghost} {σ σ':St} {os os':List Oc} {Ps:List Prop} (h:orD call b is pre gh (is.length+1) [] σ os=some (Ps,σ',os')) (hP:AllT Ps):evC X call k b (.regD is pre gh) σ=some (.normal,σ'):=by
 simp only [evC,orD_ok _ _ _ _ _ h hP,Option.bind_some]

inductive Fr where
 | c (x:MCode)
 | blk (id:Nat)
noncomputable def evK (X:Nat→Option MFn) (call:Call) (k b:Nat):List Fr→Ex × St→Option (Ex × St)
 | [],x=>some x
 | .c y::fs,x=>match x.1 with
  | .normal=>(evC X call k b y x.2).bind (evK X call k b fs)
  | _=>evK X call k b fs x
 | .blk id::fs,x=>match x.1 with
  | .exit i=>if i=id then evK X call k b fs (.normal,x.2) else evK X call k b fs x
  | _=>evK X call k b fs x
def unw (i:Nat):List Fr→Option (List Fr)
 | []=>none
 | .c _::fs=>unw i fs
 | .blk id::fs=>if i=id then some fs else unw i fs
def Post (q:Option (Ex × St)→Prop) (o:Option (Ex × St)):Prop:=q o
section
variable {X:Nat→Option MFn} {call:Call} {k b:Nat} {fs:List Fr} {σ σ':St} {q:Option (Ex × St)→Prop}
theorem K_eq {o o':Option (Ex × St)} (e:o=o') (h:Post q o'):Post q o:=e ▸ h
theorem K_in {c:MCode} {r:Option (Ex × St)} (h:Post (·=r) (evK X call k b [.c c] (.normal,σ))):evC X call k b c σ=r:=by
 have h:evK X call k b [.c c] (.normal,σ)=r:=h
 simp only [evK] at h
 rw [←h]
 cases evC X call k b c σ <;> rfl
theorem K_seq {x y:MCode} (h:Post q (evK X call k b (.c x::.c y::fs) (.normal,σ))):Post q (evK X call k b (.c (.seq x y)::fs) (.normal,σ)):=by
 refine K_eq ?_ h
 simp only [evK,evC]
 cases e:evC X call k b x σ with
 | none=>rfl
 | some z =>
  obtain ⟨ex,τ⟩:=z
  cases ex <;> rfl
theorem K_skip (h:Post q (evK X call k b fs (.normal,σ))):Post q (evK X call k b (.c .skip::fs) (.normal,σ)):=h
theorem K_of {c:MCode} (σ':St) (e:evC X call k b c σ=some (.normal,σ')) (h:Post q (evK X call k b fs (.normal,σ'))):Post q (evK X call k b (.c c::fs) (.normal,σ)):=by
 refine K_eq ?_ h
 simp only [evK,e,Option.bind_some]
theorem K_reg {is:List MI} {gh:List Ghost} (os:List Oc) (Ps:List Prop) (σ':St) (e:orR call b is gh σ os=some (Ps,σ',[])) (hP:AllT Ps) (h:Post q (evK X call k b fs (.normal,σ'))) :
 Post q (evK X call k b (.c (.reg is gh)::fs) (.normal,σ)):=K_of σ' (orR_ok e hP) h
theorem K_regD {is:List FI} {pre:List (List Nat)} {gh:List Ghost} (os:List Oc) (Ps:List Prop) (σ':St) (e:orD call b is pre gh (is.length+1) [] σ os=some (Ps,σ',[])) (hP:AllT Ps) (h:Post q (evK X call k b fs (.normal,σ'))) :
 Post q (evK X call k b (.c (.regD is pre gh)::fs) (.normal,σ)):=K_of σ' (orD_reg e hP) h
def stR:OR St→St
 | some x=>x.2.1
 | none=>⟨[],[]⟩
theorem K_r {is:List MI} {gh:List Ghost} (os:List Oc) (Ps:List Prop) (e:(orR call b is gh σ os).map (fun x=>(x.1,x.2.2))=some (Ps,[])) (hP:AllT Ps) (h:Post q (evK X call k b fs (.normal,stR (orR call b is gh σ os)))) :
 Post q (evK X call k b (.c (.reg is gh)::fs) (.normal,σ)):=by
 cases e1:orR call b is gh σ os with
 | none=>rw [e1] at e; cases e
 | some x =>
  rw [e1] at e h
  obtain ⟨a,τ,r⟩:=x
  cases e
  exact K_reg os _ τ e1 hP h
theorem K_rD {is:List FI} {pre:List (List Nat)} {gh:List Ghost} (os:List Oc) (Ps:List Prop) (e:(orD call b is pre gh (is.length+1) [] σ os).map (fun x=>(x.1,x.2.2))=some (Ps,[])) (hP:AllT Ps) (h:Post q (evK X call k b fs (.normal,stR (orD call b is pre gh (is.length+1) [] σ os)))) :
 Post q (evK X call k b (.c (.regD is pre gh)::fs) (.normal,σ)):=by
 cases e1:orD call b is pre gh (is.length+1) [] σ os with
 | none=>rw [e1] at e; cases e
 | some x =>
  rw [e1] at e h
  obtain ⟨a,τ,r⟩:=x
  cases e
  exact K_regD os _ τ e1 hP h
theorem K_gh {gs:List Ghost} {c:MCode} (σ':St) (e:evGs b gs σ=some σ') (h:Post q (evK X call k b (.c c::fs) (.normal,σ'))):Post q (evK X call k b (.c (.gh gs c)::fs) (.normal,σ)):=by
 refine K_eq ?_ h
 simp only [evK,evC,e,Option.bind_some]
theorem AllT_get:∀ {l:List Prop} {i:Nat},AllT l→l.getD i True
 | [],i,_=>by simp
 | [p],0,h=>h
 | [p],i+1,_=>by simp
 | p::q::r,0,h=>h.1
 | p::q::r,i+1,h=>by
  have:=AllT_get (l:=q::r) (i:=i) h.2
  simpa using this
theorem AllT_of:∀ {l:List Prop},(∀ p∈l,p)→AllT l
 | [],_=>trivial
 | [p],h=>h p (by simp)
 | p::q::r,h=>⟨h p (by simp),AllT_of fun x hx=>h x (by simp only [List.mem_cons] at hx ⊢; exact .inr hx)⟩
theorem K_rI {is:List FI} {pre:List (List Nat)} {gh:List Ghost} (os:List Oc) (io:List Nat) (Fs:List Prop) (ip:List Nat)
 (e:(orD call b is pre gh (is.length+1) [] σ (io.map fun i=>os.getD i .m)).map (fun x=>(x.1,x.2.2))=some (ip.map fun i=>Fs.getD i True,[])) (hF:AllT Fs)
 (h:Post q (evK X call k b fs (.normal,stR (orD call b is pre gh (is.length+1) [] σ (io.map fun i=>os.getD i .m))))) :
 Post q (evK X call k b (.c (.regD is pre gh)::fs) (.normal,σ)):=by
 cases e1:orD call b is pre gh (is.length+1) [] σ (io.map fun i=>os.getD i .m) with
 | none=>rw [e1] at e; cases e
 | some x =>
  rw [e1] at e h
  obtain ⟨a,τ,r⟩:=x
  cases e
  exact K_regD _ _ τ e1 (AllT_of fun p hp=>by obtain ⟨i,_,rfl⟩:=List.mem_map.1 hp; exact AllT_get hF) h
theorem K_go {gs:List Ghost} {c:MCode} (os:List Oc) (Ps:List Prop) (e:(orGs b gs σ os).map (fun x=>(x.1,x.2.2))=some (Ps,[])) (hP:AllT Ps) (h:Post q (evK X call k b (.c c::fs) (.normal,stR (orGs b gs σ os)))) :
 Post q (evK X call k b (.c (.gh gs c)::fs) (.normal,σ)):=by
 cases e1:orGs b gs σ os with
 | none=>rw [e1] at e; cases e
 | some x =>
  rw [e1] at e h
  obtain ⟨a,τ,r⟩:=x
  cases e
  exact K_gh τ (orGs_ok e1 hP) h
theorem K_g {gs:List Ghost} {c:MCode} (e:(evGs b gs σ).isSome=true) (h:Post q (evK X call k b (.c c::fs) (.normal,(evGs b gs σ).getD ⟨[],[]⟩))):Post q (evK X call k b (.c (.gh gs c)::fs) (.normal,σ)):=by
 cases e1:evGs b gs σ with
 | none=>rw [e1] at e; cases e
 | some τ=>rw [e1] at h; exact K_gh τ e1 h
theorem K_conv (e:σ=σ') (h:Post q (evK X call k b fs (.normal,σ'))):Post q (evK X call k b fs (.normal,σ)):=by rw [e]; exact h
theorem K_t {t:Nat} {x y:MCode} {p:Bool} (e:σ.env.get t=.one (.d (.bool p))) (hp:p=true) (h:Post q (evK X call k b (.c x::fs) (.normal,σ))):Post q (evK X call k b (.c (.cond t x y)::fs) (.normal,σ)):=by
 subst hp
 refine K_eq ?_ h
 simp only [evK,evC,e,V.bool?,Option.bind_some,if_true]
theorem K_f {t:Nat} {x y:MCode} {p:Bool} (e:σ.env.get t=.one (.d (.bool p))) (hp:p=false) (h:Post q (evK X call k b (.c y::fs) (.normal,σ))):Post q (evK X call k b (.c (.cond t x y)::fs) (.normal,σ)):=by
 subst hp
 refine K_eq ?_ h
 simp only [evK,evC,e,V.bool?,Option.bind_some,Bool.false_eq_true,if_false]
theorem K_block {id:Nat} {x:MCode} (h:Post q (evK X call k b (.c x::.blk id::fs) (.normal,σ))):Post q (evK X call k b (.c (.block id x)::fs) (.normal,σ)):=by
 refine K_eq ?_ h
 simp only [evK,evC]
 cases e:evC X call k b x σ with
 | none=>rfl
 | some z =>
  obtain ⟨ex,τ⟩:=z
  cases ex with
  | normal=>rfl
  | ret=>rfl
  | exit i =>
   simp only [Option.bind_some]
   by_cases c:i=id
   · simp only [if_pos c,Option.bind_some]
   · simp only [if_neg c,Option.bind_some]
theorem K_scope {x:MCode} (h:Post q (evK X call k b (.c x::fs) (.normal,σ))):Post q (evK X call k b (.c (.scope x)::fs) (.normal,σ)):=h
theorem K_blk {id:Nat} (h:Post q (evK X call k b fs (.normal,σ))):Post q (evK X call k b (.blk id::fs) (.normal,σ)):=h
theorem evK_exit {i:Nat}:∀ (fs:List Fr),evK X call k b fs (.exit i,σ)=match unw i fs with | some gs=>evK X call k b gs (.normal,σ) | none=>some (.exit i,σ)
 | []=>rfl
 | .c _::fs=>by simp only [evK,unw]; exact evK_exit fs
 | .blk id::fs=>by
  simp only [evK,unw]
  by_cases c:i=id
  · rw [if_pos c,if_pos c]
  · rw [if_neg c,if_neg c]; exact evK_exit fs
theorem evK_ret:∀ (fs:List Fr),evK X call k b fs (.ret,σ)=some (.ret,σ)
 | []=>rfl
 | .c _::fs=>evK_ret fs
 | .blk _::fs=>evK_ret fs
theorem K_exit {i:Nat} {gs:List Fr} (e:unw i fs=some gs) (h:Post q (evK X call k b gs (.normal,σ))):Post q (evK X call k b (.c (.exit i)::fs) (.normal,σ)):=by
 refine K_eq ?_ h
 show evK X call k b fs (.exit i,σ)=_
 rw [evK_exit,e]
theorem K_exit0 {i:Nat} (e:unw i fs=none) (h:q (some (.exit i,σ))):Post q (evK X call k b (.c (.exit i)::fs) (.normal,σ)):=by
 refine K_eq ?_ h
 show evK X call k b fs (.exit i,σ)=_
 rw [evK_exit,e]
theorem K_ret (h:q (some (.ret,σ))):Post q (evK X call k b (.c .ret::fs) (.normal,σ)):=K_eq (evK_ret fs) h
theorem K_end (h:q (some (.normal,σ))):Post q (evK X call k b [] (.normal,σ)):=h
theorem K_loop {x:MCode} {i:Nat} {gs:List Fr} (σ':St) (e:iter (evC X call k b x) k σ=some (.exit i,σ')) (u:unw i fs=some gs) (h:Post q (evK X call k b gs (.normal,σ'))):Post q (evK X call k b (.c (.loop x)::fs) (.normal,σ)):=by
 refine K_eq ?_ h
 simp only [evK,evC,e,Option.bind_some]
 rw [evK_exit,u]
theorem K_loop0 {x:MCode} {i:Nat} (σ':St) (e:iter (evC X call k b x) k σ=some (.exit i,σ')) (u:unw i fs=none) (h:q (some (.exit i,σ'))):Post q (evK X call k b (.c (.loop x)::fs) (.normal,σ)):=by
 refine K_eq ?_ h
 simp only [evK,evC,e,Option.bind_some]
 rw [evK_exit,u]
theorem K_loopr {x:MCode} (σ':St) (e:iter (evC X call k b x) k σ=some (.ret,σ')) (h:q (some (.ret,σ'))):Post q (evK X call k b (.c (.loop x)::fs) (.normal,σ)):=by
 refine K_eq ?_ h
 simp only [evK,evC,e,Option.bind_some]
 exact evK_ret fs
end
theorem F_in {X:Nat→Option MFn} {k f:Nat} {args:List V} {m:Heap} {fn:MFn} {y:V × Heap} (h:X f=some fn) (hn:args.length=fn.np)
 (e:Post (fun o=>o.bind (finish fn m.length)=some y) (evK X (evF X k) k m.length [.c fn.code] (.normal,⟨startEnv 0 args,m⟩))) (he:fn.code.isExt=false:=by rfl):evF X (k+1) f args m=some y:=by
 rw [evF_eq h hn he]
 have e:(evK X (evF X k) k m.length [.c fn.code] (.normal,⟨startEnv 0 args,m⟩)).bind (finish fn m.length)=some y:=e
 rw [←e]
 simp only [evK]
 cases evC X (evF X k) k m.length fn.code ⟨startEnv 0 args,m⟩ <;> rfl
end

section
def at? {α:Type} (xs:List α) (i:Int):Option α:=if 0≤i then xs[i.toNat]? else none
theorem at_ok {α:Type} {xs:List α} {i:Int} {v:α} (h:at? xs i=some v) (e:α→D) (z:D):(0≤i∧i < (xs.map e).length)∧((xs.map e).getD i.toNat z).cells=(e v).cells:=by
 unfold at? at h
 split at h
 · rename_i hi
   have hlt:=(List.getElem?_eq_some_iff.1 h).1
   refine ⟨⟨hi,?_⟩,?_⟩
   · rw [List.length_map]; omega
   · rw [List.getD_eq_getElem?_getD,List.getElem?_map,h]; rfl
 · cases h
theorem ld_ok {α:Type} {xs:List α} {n:Nat} {v:α} (h:xs[n]?=some v) (e:α→D) (z:D):((xs.map e).getD n z).cells=(e v).cells:=by
 rw [List.getD_eq_getElem?_getD,List.getElem?_map,h]; rfl
theorem st_one {α:Type} (xs:List α) (n:Nat) (v:α) (e:α→D) (z:D) (hz:elemOf z [e v]=e v) (h1:∀ x,(e x).cells=[e x]) (hz1:z.cells=[z]) :
 (xs.map e).set n (elemOf z (splice ((xs.map e).getD n z).cells 0 [e v]))=(xs.set n v).map e:=by
 have:splice ((xs.map e).getD n z).cells 0 [e v]=[e v]:=by
  have hl:((xs.map e).getD n z).cells.length=1:=by
   rw [List.getD_eq_getElem?_getD,List.getElem?_map]
   cases xs[n]? with
   | none=>simp [hz1]
   | some x=>simp [h1]
  unfold splice
  rw [List.drop_eq_nil_of_le (by rw [hl]; simp)]
  simp
 rw [this,hz,List.map_set]
theorem st_int (xs:List Int) (n:Nat) (v:Int) (k:IntKind):(xs.map (D.int k)).set n (elemOf (.int k 0) (splice ((xs.map (D.int k)).getD n (.int k 0)).cells 0 [D.int k v]))=(xs.set n v).map (D.int k) :=
 st_one xs n v (D.int k) (.int k 0) rfl (fun _=>rfl) rfl
theorem dt_map {α β:Type} (f:α→β) (xs:List α) (i n:Nat):((xs.map f).drop i).take n=((xs.drop i).take n).map f:=by rw [List.map_take,List.map_drop]
theorem ap_map {α β:Type} (f:α→β) (xs:List α) (ys:List α) (i n:Nat):((xs.map f).drop i).take n++ys.map f=((xs.drop i).take n++ys).map f:=by rw [List.map_append,dt_map]
theorem rep_map {α β:Type} (f:α→β) (n:Nat) (z:α):List.replicate n (f z)=(List.replicate n z).map f:=by rw [List.map_replicate]

def loopT {S R:Type} (f:S→Option (S ⊕ R)):Nat→S→Option R
 | 0,_=>none
 | n+1,s=>(f s).bind fun x=>match x with
  | .inl s'=>loopT f n s'
  | .inr r=>some r
theorem loopT_ok {S R:Type} {f:S→Option (S ⊕ R)} {F:St→Option (Ex × St)} {enc:S→St} {out:R→Ex × St} (hne:∀ r,(out r).1≠.normal)
 (H:∀ s x,f s=some x→F (enc s)=some (match x with | .inl s'=>(.normal,enc s') | .inr r=>out r)):∀ n s r,loopT f n s=some r→iter F n (enc s)=some (out r)
 | 0,s,r,h=>by simp only [loopT] at h; cases h
 | n+1,s,r,h=>by
  simp only [loopT] at h
  obtain ⟨x,h1,h2⟩:=bind_some' h
  have e:=H s x h1
  simp only [iter,e,Option.bind_some]
  cases x with
  | inl s'=>exact loopT_ok hne H n s' r h2
  | inr q =>
   cases h2
   have:=hne r
   show (match (out r).1 with | .normal=>iter F n (out r).2 | e=>some (e,(out r).2))=some (out r)
   revert this
   generalize out r=o
   obtain ⟨ex,τ⟩:=o
   intro hne
   cases ex with
   | normal=>exact absurd rfl hne
   | exit i=>rfl
   | ret=>rfl
theorem ite_some {α:Type} {c:Prop} [Decidable c] {a b:Option α} {r:α} (h:(if c then a else b)=some r):(c∧a=some r)∨(¬c∧b=some r):=by
 by_cases hc:c
 · rw [if_pos hc] at h; exact .inl ⟨hc,h⟩
 · rw [if_neg hc] at h; exact .inr ⟨hc,h⟩
theorem guard_some {α:Type} {c:Prop} [Decidable c] {a:Option α} {r:α} (h:(if c then a else none)=some r):c∧a=some r:=by
 by_cases hc:c
 · rw [if_pos hc] at h; exact ⟨hc,h⟩
 · rw [if_neg hc] at h; cases h
abbrev w64 (x:Int):Int:=IntKind.wrap .i64 x
abbrev imin (a b:Int):Int:=if b < a then b else a
abbrev imax (a b:Int):Int:=if a < b then b else a
abbrev el {α:Type} (e:α→D) (xs:List α):D:=.list (xs.map e)
theorem A1 {p:Prop} (h:p):AllT [p]:=h
theorem AC {p q:Prop} {r:List Prop} (h:p) (k:AllT (q::r)):AllT (p::q::r):=⟨h,k⟩
theorem all_ok {α:Type} (e:α→D) (n:Nat) (xs:List α) (h:∀ x,(e x).cells.length=n):((xs.map e).all fun d=>d.cells.length == n)=true:=by
 rw [List.all_eq_true]
 intro d hd
 obtain ⟨x,_,rfl⟩:=List.mem_map.1 hd
 simp [h]
theorem sl_len {α:Type} {xs:List α} {e:α→D} {a b c:Int} (h:0≤a∧a≤b∧b≤c∧c≤xs.length):0≤a∧a≤b∧b≤c∧c≤(xs.map e).length:=by
 rw [List.length_map]; exact h
theorem st_agg {α:Type} (xs:List α) (n:Nat) (v:α) (e:α→D) (zs:List D) (m:Nat) (hc:∀ x,∃ cs,e x=.agg cs∧cs.length=m) (hz:zs.length=m) :
 (xs.map e).set n (elemOf (.agg zs) (splice ((xs.map e).getD n (.agg zs)).cells 0 (e v).cells))=(xs.set n v).map e:=by
 obtain ⟨cs,h1,h2⟩:=hc v
 have hl:((xs.map e).getD n (.agg zs)).cells.length=m:=by
  rw [List.getD_eq_getElem?_getD,List.getElem?_map]
  cases xs[n]? with
  | none=>exact hz
  | some x=>obtain ⟨ds,g1,g2⟩:=hc x; show (e x).cells.length=m; rw [g1]; exact g2
 have:splice ((xs.map e).getD n (.agg zs)).cells 0 (e v).cells=cs:=by
  rw [h1]
  unfold splice
  rw [List.drop_eq_nil_of_le (by rw [hl]; show m≤0+cs.length; omega)]
  simp [D.cells]
 rw [this,List.map_set,h1]
 rfl
def outS {S R:Type} (enc:S→St) (out:R→Ex × St):S ⊕ R→Ex × St
 | .inl s=>(.normal,enc s)
 | .inr r=>out r
theorem loop_ok {S R:Type} {f:S→Option (S ⊕ R)} {F:St→Option (Ex × St)} (enc:S→St) (out:R→Ex × St) (hne:∀ r,(out r).1≠.normal)
 (H:∀ s x,f s=some x→F (enc s)=some (outS enc out x)):∀ n s r,loopT f n s=some r→iter F n (enc s)=some (out r) :=
 loopT_ok hne fun s x h=>by rw [H s x h]; cases x <;> rfl

theorem rl_map {α:Type} (f:α→D) (R:List (List α)):(R.map (List.map f)).map D.list=R.map (el f):=by rw [List.map_map]; rfl
theorem rr_map {α:Type} (f:α→D) (n:Nat):List.replicate n ([]:List D)=(List.replicate n ([]:List α)).map (List.map f):=by rw [List.map_replicate]; rfl
theorem rg_ok {α:Type} {R:List (List α)} {i:Nat} {v:List α} (h:R[i]?=some v) (f:α→D):(R.map (List.map f)).getD i []=v.map f:=by
 rw [List.getD_eq_getElem?_getD,List.getElem?_map,h]; rfl
theorem ra_map {α:Type} (f:α→D) (R:List (List α)) (n:Nat):(R.map (List.map f)).take n++[[]]=(R.take n++[[]]).map (List.map f):=by rw [List.map_append,List.map_take]; rfl
theorem bk_map {α:Type} (f:α→D) (R:List (List α)) (i:Nat) (x:List α) (l:Nat):(R.map (List.map f)).set i ((x.map f).take l)=(R.set i (x.take l)).map (List.map f):=by rw [List.map_set,List.map_take]
theorem bk_all {α:Type} (f:α→D) (R:List (List α)) (i:Nat) (x:List α) (l:Nat) (h:x.length≤l):(R.map (List.map f)).set i ((x.map f).take l)=(R.set i x).map (List.map f):=by
 rw [bk_map,List.take_of_length_le h]
theorem see0 {α:Type} (f:α→D) (R:List (List α)) (off len:Nat):(((setAll [] (R.map (List.map f))).drop off).take len).map D.list=((R.drop off).take len).map (el f):=by
 simp only [setAll]; rw [dt_map,rl_map]
theorem see1 {α:Type} (f:α→D) (R R':List (List α)) (i:Nat) (x:List α) (o l off len:Nat) (h:R.set i ((x.drop o).take l)=R') :
 (((setAll [(i,((x.map f).drop o).take l)] (R.map (List.map f))).drop off).take len).map D.list=((R'.drop off).take len).map (el f):=by
 subst h
 simp only [setAll]; rw [dt_map,←List.map_set,dt_map,rl_map]
theorem set_self {α:Type} {R:List (List α)} {i:Nat} {v:List α} (h:R[i]?=some v):R.set i ((v.drop 0).take v.length)=R:=by
 rw [List.drop_zero,List.take_length]
 apply List.ext_getElem?
 intro j
 rw [List.getElem?_set]
 split
 · rename_i e; subst e; split
   · exact h.symm
   · rename_i hn; rw [List.getElem?_eq_none (by omega)] 
 · rfl
theorem bh_1 {s i l:Nat} {r:List (Nat × C)}:brHas s ((i,.own s 0 l)::r) ((i,.own s 0 l)::r)=some (i,l):=by simp [brHas,brGet]
theorem bh_2 {s t i j l l':Nat} (h:i≠j) (hs:s≠t):brHas t [(i,.own s 0 l),(j,.own t 0 l')] [(i,.own s 0 l),(j,.own t 0 l')]=some (j,l'):=by simp [brHas,brGet,h,hs]
theorem bd_1 {i:Nat} {c:C}:brDel [(i,c)] i=[]:=by simp [brDel]
theorem bd_s {i:Nat} {c c':C}:brDel [(i,c),(i,c')] i=[]:=by simp [brDel]
theorem bd_2 {i j:Nat} {c c':C} (h:j≠i):brDel [(i,c),(j,c')] i=[(j,c')]:=by simp [brDel,h]
theorem bd_3 {i j:Nat} {c c':C} (h:i≠j):brDel [(i,c),(j,c')] j=[(i,c)]:=by simp [brDel,h]

theorem vx_ok {α:Type} {xs:List α} {i:Int} {v:α} (h:at? xs i=some v) (f:α→List C) (sz:Nat) (hf:∀ x,(f x).length=sz):((xs.flatMap f).drop (i.toNat*sz)).take sz=f v:=by
 unfold at? at h
 split at h
 · generalize i.toNat=n at h ⊢
   induction xs generalizing n with
   | nil=>simp at h
   | cons x xs ih =>
    rw [List.flatMap_cons]
    cases n with
    | zero =>
     simp only [List.getElem?_cons_zero,Option.some.injEq] at h
     subst h
     simp [←hf x]
    | succ n =>
     rw [List.getElem?_cons_succ] at h
     have:=ih n h
     rw [Nat.succ_mul,Nat.add_comm,←List.drop_drop,←hf x,List.drop_left,hf x]
     exact this
 · cases h
theorem vx_in {α:Type} {xs:List α} {i:Int} {v:α} (h:at? xs i=some v) (n:Nat) (hn:n=xs.length):0≤i∧i < (n:Int):=by
 subst hn
 unfold at? at h
 split at h
 · have:=(List.getElem?_eq_some_iff.1 h).1
   omega
 · cases h
theorem bk_same {α:Type} (f:α→D) {R:List (List α)} {i:Nat} {v:List α} (h:R[i]?=some v):(R.map (List.map f)).set i ((v.map f).take v.length)=R.map (List.map f):=by
 rw [bk_all f R i v v.length (Nat.le_refl _)]
 have:=set_self h
 rw [List.drop_zero,List.take_length] at this
 rw [this]

theorem peel_ok {F:St→Option (Ex × St)} {σ σ1:St} {k:Nat} {r:Ex × St} (e:F σ=some (.normal,σ1)) (h:iter F (k - 1) σ1=some r):iter F k σ=some r:=by
 cases k with
 | zero=>simp [iter] at h
 | succ k =>
  simp only [iter,e,Option.bind_some]
  exact h
theorem fm_int (l:List Int):(l.map (D.int .i64)).flatMap D.cells=l.map (D.int .i64):=by
 induction l with
 | nil=>rfl
 | cons x l ih=>rw [List.map_cons,List.flatMap_cons,ih]; rfl
theorem ag_map {α:Type} (enc:α→D) (e:List α) (a b:Nat):(((e.map enc).map C.d).drop a).take b=(((e.drop a).take b).map enc).map C.d:=by simp [List.map_drop,List.map_take]
theorem ag_one {α:Type} (enc:α→D) {e:List α} {i:Int} {w:α} (h:at? e i=some w):(((e.map enc).map C.d).drop (i.toNat*1)).take 1=[C.d (enc w)]:=by
 have h2:e[i.toNat]?=some w:=by
  unfold at? at h
  split at h
  · exact h
  · cases h
 rw [Nat.mul_one,ag_map]
 obtain ⟨h3,h4⟩:=List.getElem?_eq_some_iff.1 h2
 rw [List.drop_eq_getElem_cons h3,h4]
 rfl
theorem fin_flat {fn:MFn} {n t:Nat} {xs:List Int} {env:Env} {e:Ex} (hr:fn.res=[.cell t n true]) (hf:fn.rf=[.data]) (ht:env.get t=.one (.ptr 0 0 0)) (hn:1 < n) (hx:xs.length=n) (he:∀ i,e≠.exit i) :
 finish fn 0 (e,⟨env,[.vals (.int .i64 0) (xs.map (D.int .i64))]⟩)=some (.agg ((xs.map (D.int .i64)).map .d),[]):=by
 have tods:∀ (ds:List D) (m:Heap),toDs m (ds.map .d)=some (ds,m):=by
  intro ds m
  induction ds with
  | nil=>rfl
  | cons d ds ih=>simp [toDs,toD,cellD,ih]
 have sl:∀ ds:List D,(ds.map C.d).flatMap C.slots=[]:=by
  intro ds
  induction ds with
  | nil=>rfl
  | cons d ds ih=>rw [List.map_cons,List.flatMap_cons,ih]; rfl
 have rn:∀ (f:Nat→Option Nat) (ds:List D),(ds.map C.d).map (C.ren f)=ds.map C.d:=by
  intro f ds
  rw [List.map_map]
  exact List.map_congr_left fun d _=>rfl
 have h1:(handAll ⟨env,[.vals (.int .i64 0) (xs.map (D.int .i64))]⟩ [.vals (.int .i64 0) (xs.map (D.int .i64))] (fn.res.zip fn.rf))=some ([(true,(xs.map (D.int .i64)).map .d)],[.vals (.int .i64 0) (xs.map (D.int .i64))]):=by
  rw [hr,hf]
  simp only [List.zip_cons_cons,List.zip_nil_left,handAll,resOf,ht,V.c?,Option.bind_some,ldC,List.getElem?_cons_zero]
  rw [if_pos ⟨hn,rfl⟩,if_pos ⟨trivial,trivial,by simpa using hx⟩,fm_int]
  simp only [Option.bind_some,handC,tods]
 have hv:∀ cs,resV [(true,cs)]=some (.agg cs):=fun _=>rfl
 have hm:∀ f (cs:List C),(V.agg cs).mapC f=.agg (cs.map f):=fun _ _=>rfl
 have hs:(V.agg ((xs.map (D.int .i64)).map C.d)).slots=[]:=sl _
 unfold finish
 cases e with
 | exit i=>exact absurd rfl (he i)
 | normal =>
  simp only [h1,Option.bind_some,hv,hs,hm,rn]
  rfl
 | ret =>
  simp only [h1,Option.bind_some,hv,hs,hm,rn]
  rfl
theorem nm_all {α:Type} (enc:α→D) (l:List α) (h:∀ x,(enc x).cells.all D.num=true):(l.map enc).all (fun d=>d.cells.all D.num)=true:=by
 rw [List.all_map]
 exact List.all_eq_true.2 fun x _=>h x
end

section
abbrev Cf:=List Fr × St
def Po {α:Type} (X:Nat→Option MFn) (k b:Nat) (g:Option (Ex × St)→α) (S:Cf) (y:α):Prop:=g (evK X (evF X k) k b S.1 (.normal,S.2))=y
def Fs (_:List Oc) (Ps:List Prop):Prop:=AllT Ps
section
variable {os:List Oc} {Ps:List Prop}
theorem AllT_cons {p:Prop} (h:p) (r:AllT Ps):AllT (p::Ps):=by
 cases Ps with
 | nil=>exact h
 | cons q r'=>exact ⟨h,r⟩
theorem zz:Fs [] []:=trivial
theorem ff {p:Prop} (h:p) (r:Fs os Ps):Fs os (p::Ps):=AllT_cons h r
theorem fo (x:Oc) (r:Fs os Ps):Fs (x::os) Ps:=r
theorem ft {p:Bool} (h:p=true) (r:Fs os Ps):Fs (.b true::os) ((p=true)::Ps):=AllT_cons h r
theorem fn {p:Bool} (h:¬p=true) (r:Fs os Ps):Fs (.b false::os) ((p=false)::Ps):=AllT_cons (Bool.eq_false_iff.2 h) r
theorem fT {p:Prop} [Decidable p] (h:p) (r:Fs os Ps):Fs (.b true::os) ((decide p=true)::Ps):=AllT_cons (decide_eq_true h) r
theorem fN {p:Prop} [Decidable p] (h:¬p) (r:Fs os Ps):Fs (.b false::os) ((decide p=false)::Ps):=AllT_cons (decide_eq_false h) r
theorem f1 (r:Fs os Ps):Fs (.b true::os) ((true=true)::Ps):=AllT_cons rfl r
theorem f0 (r:Fs os Ps):Fs (.b false::os) ((false=false)::Ps):=AllT_cons rfl r
theorem fc {X:Nat→Option MFn} {k g:Nat} {a:List V} {m m1:Heap} {v:V} (h:evF X k g a m=some (v,m1)) (r:Fs os Ps):Fs (.r v m1::os) ((evF X k g a m=some (v,m1))::Ps):=AllT_cons h r
theorem fa {α:Type} {xs:List α} {i:Int} {v:α} (e:α→D) (z:D) (h:at? xs i=some v) (r:Fs os Ps) :
 Fs (.l (e v).cells::os) ((0≤i∧i < (xs.map e).length)::(((xs.map e).getD i.toNat z).cells=(e v).cells)::Ps):=AllT_cons (at_ok h e z).1 (AllT_cons (at_ok h e z).2 r)
theorem fi {xs:List Int} {i v:Int} (h:at? xs i=some v) (r:Fs os Ps) :
 Fs (.l [.int .i64 v]::os) ((0≤i∧i < (xs.map (D.int .i64)).length)::(((xs.map (D.int .i64)).getD i.toNat (.int .i64 0)).cells=[.int .i64 v])::Ps):=fa (D.int .i64) (.int .i64 0) h r
theorem fg {α:Type} {xs:List α} {n:Nat} {v:α} (e:α→D) (z:D) (h:xs[n]?=some v) (r:Fs os Ps):Fs (.l (e v).cells::os) ((((xs.map e).getD n z).cells=(e v).cells)::Ps):=AllT_cons (ld_ok h e z) r
theorem fl {α:Type} (e:α→D) (xs:List α) (r:Fs os Ps):Fs (.n xs.length::os) (((xs.map e).length=xs.length)::Ps):=AllT_cons (List.length_map _) r
theorem fs {α:Type} {xs:List α} {a b c:Int} (e:α→D) (w:Nat) (h:0≤a∧a≤b∧b≤c∧c≤xs.length) (r:Fs os Ps) (hw:∀ x,(e x).cells.length=w:=by intro _; rfl) :
 Fs (.l (((xs.drop a.toNat).take (b.toNat - a.toNat)).map e)::os) (((xs.map e).all (fun d=>d.cells.length == w)=true)::(0≤a∧a≤b∧b≤c∧c≤(xs.map e).length)::(((xs.map e).drop a.toNat).take (b.toNat - a.toNat)=((xs.drop a.toNat).take (b.toNat - a.toNat)).map e)::Ps) :=
 AllT_cons (all_ok e w xs hw) (AllT_cons (sl_len h) (AllT_cons (dt_map _ _ _ _) r))
theorem fh {α:Type} {xs:List α} {a b:Int} (e:α→D) (w:Nat) (h:0≤a∧a≤b∧b≤xs.length∧(xs.length:Int)≤xs.length) (r:Fs os Ps) (hw:∀ x,(e x).cells.length=w:=by intro _; rfl) :
 Fs (.l (((xs.drop a.toNat).take (b.toNat - a.toNat)).map e)::os) (((xs.map e).all (fun d=>d.cells.length == w)=true)::(0≤a∧a≤b∧b≤(xs.map e).length∧((xs.map e).length:Int)≤(xs.map e).length)::(((xs.map e).drop a.toNat).take (b.toNat - a.toNat)=((xs.drop a.toNat).take (b.toNat - a.toNat)).map e)::Ps) :=
 AllT_cons (all_ok e w xs hw) (AllT_cons (by simpa using h) (AllT_cons (dt_map _ _ _ _) r))
theorem fe {α:Type} {xs:List α} {a:Int} (e:α→D) (w:Nat) (h:0≤a∧a≤(xs.length:Int)∧(xs.length:Int)≤xs.length∧(xs.length:Int)≤xs.length) (r:Fs os Ps) (hw:∀ x,(e x).cells.length=w:=by intro _; rfl) :
 Fs (.l (((xs.drop a.toNat).take (xs.length - a.toNat)).map e)::os) (((xs.map e).all (fun d=>d.cells.length == w)=true)::(0≤a∧a≤((xs.map e).length:Int)∧((xs.map e).length:Int)≤(xs.map e).length∧((xs.map e).length:Int)≤(xs.map e).length)::(((xs.map e).drop a.toNat).take ((xs.map e).length - a.toNat)=((xs.drop a.toNat).take (xs.length - a.toNat)).map e)::Ps) :=
 AllT_cons (all_ok e w xs hw) (AllT_cons (by simpa using h) (AllT_cons (by rw [List.length_map]; exact dt_map _ _ _ _) r))
theorem fw {α:Type} (xs:List α) (n:Nat) (v:α) (e:α→D) (z:D) (r:Fs os Ps) (hz:elemOf z [e v]=e v:=by rfl) (h1:∀ x,(e x).cells=[e x]:=by intro _; rfl) (hz1:z.cells=[z]:=by rfl) :
 Fs (.l ((xs.set n v).map e)::os) (((xs.map e).set n (elemOf z (splice ((xs.map e).getD n z).cells 0 [e v]))=(xs.set n v).map e)::Ps):=AllT_cons (st_one xs n v e z hz h1 hz1) r
theorem fW {α:Type} (xs:List α) (n:Nat) (v:α) (e:α→D) (zs:List D) (m:Nat) (r:Fs os Ps) (hc:∀ x,∃ cs,e x=.agg cs∧cs.length=m:=by exact fun _=>⟨_,rfl,rfl⟩) (hz:zs.length=m:=by rfl) :
 Fs (.l ((xs.set n v).map e)::os) (((xs.map e).set n (elemOf (.agg zs) (splice ((xs.map e).getD n (.agg zs)).cells 0 (e v).cells))=(xs.set n v).map e)::Ps):=AllT_cons (st_agg xs n v e zs m hc hz) r
theorem fq0 {α:Type} {xs:List α} (e:α→D) {i c:Int} {sz:Nat} (h:0≤i∧i < c) (h2:i.toNat*sz < xs.length) (r:Fs os Ps) :
 Fs (.n (i.toNat*sz)::os) ((0≤i∧i < c)::(0+i.toNat*sz=i.toNat*sz)::(i.toNat*sz < (xs.map e).length)::Ps):=AllT_cons h (AllT_cons (Nat.zero_add _) (AllT_cons (by rw [List.length_map]; exact h2) r))
theorem fq1 {α:Type} {xs:List α} (e:α→D) {i c:Int} {p:Nat} (h:0≤i∧i < c) (h2:p+i.toNat < xs.length) (r:Fs os Ps) :
 Fs (.n (p+i.toNat)::os) ((0≤i∧i < c)::(p+i.toNat*1=p+i.toNat)::(p+i.toNat < (xs.map e).length)::Ps):=AllT_cons h (AllT_cons (congrArg (p+·) (Nat.mul_one _)) (AllT_cons (by rw [List.length_map]; exact h2) r))
theorem fq2 {α:Type} {xs:List α} (e:α→D) {i c:Int} (h:0≤i∧i < c) (h2:i.toNat < xs.length) (r:Fs os Ps) :
 Fs (.n i.toNat::os) ((0≤i∧i < c)::(0+i.toNat*1=i.toNat)::(i.toNat < (xs.map e).length)::Ps):=AllT_cons h (AllT_cons (by simp) (AllT_cons (by rw [List.length_map]; exact h2) r))
theorem fd {α:Type} (e:α→D) (xs:List α) (i n:Nat) (r:Fs os Ps):Fs (.l (((xs.drop i).take n).map e)::os) ((((xs.map e).drop i).take n=((xs.drop i).take n).map e)::Ps):=AllT_cons (dt_map _ _ _ _) r
theorem fp {α:Type} (e:α→D) (w:Nat) (ys:List α) (n:Nat) (h:n≤LIM) (r:Fs os Ps) (hw:∀ x,(e x).cells.length=w:=by intro _; rfl) (hn:ys.length=n:=by first | rfl | simp) :
 Fs (.n n::.l (ys.map e)::os) (((ys.map e).all (fun d=>d.cells.length == w)=true)::(n≤LIM)::((ys.map e).length=n)::(ys.map e=ys.map e)::Ps) :=
 AllT_cons (all_ok e w ys hw) (AllT_cons h (AllT_cons (by rw [List.length_map]; exact hn) (AllT_cons rfl r)))
theorem fP {α:Type} (e:α→D) (w:Nat) (xs:List α) (i l:Nat) (ys:List α) (n:Nat) (h:l+n≤LIM) (r:Fs os Ps) (hw:∀ x,(e x).cells.length=w:=by intro _; rfl) (hn:ys.length=n:=by first | rfl | simp) :
 Fs (.n n::.l (((xs.drop i).take l++ys).map e)::os) (((ys.map e).all (fun d=>d.cells.length == w)=true)::(l+n≤LIM)::((ys.map e).length=n)::(((xs.map e).drop i).take l++ys.map e=((xs.drop i).take l++ys).map e)::Ps) :=
 AllT_cons (all_ok e w ys hw) (AllT_cons h (AllT_cons (by rw [List.length_map]; exact hn) (AllT_cons (ap_map _ _ _ _ _) r)))
end

def xs (call:Call) (b:Nat):Nat→List Fr→St→List Oc→OR Cf
 | 0,fs,σ,os=>some ([],(fs,σ),os)
 | n+1,f::fs,σ,os=>match f with
  | .blk _=>xs call b n fs σ os
  | .c c=>match c with
   | .seq x y=>xs call b n (.c x::.c y::fs) σ os
   | .skip=>xs call b n fs σ os
   | .scope x=>xs call b n (.c x::fs) σ os
   | .block id x=>xs call b n (.c x::.blk id::fs) σ os
   | .reg is gh=>(orR call b is gh σ os).bind fun x=>(xs call b n fs x.2.1 x.2.2).bind fun y=>some (x.1++y.1,y.2)
   | .regD is pre gh=>(orD call b is pre gh (is.length+1) [] σ os).bind fun x=>(xs call b n fs x.2.1 x.2.2).bind fun y=>some (x.1++y.1,y.2)
   | .gh gs x=>(orGs b gs σ os).bind fun z=>(xs call b n (.c x::fs) z.2.1 z.2.2).bind fun y=>some (z.1++y.1,y.2)
   | .cond t x y=>match σ.env.get t with
    | .one (.d (.bool p))=>match os with
     | .b q::os=>(xs call b n (.c (if q then x else y)::fs) σ os).bind fun z=>some ((p=q)::z.1,z.2)
     | _=>none
    | _=>none
   | .exit i=>match unw i fs with
    | some gs=>xs call b n gs σ os
    | none=>none
   | _=>none
 | _,_,_,_=>none
section
variable {X:Nat→Option MFn} {k b:Nat}
theorem xs_ok {α:Type} {g:Option (Ex × St)→α} {y:α}:∀ (n:Nat) (fs:List Fr) (σ:St) (os:List Oc) (x:List Prop × Cf × List Oc),xs (evF X k) b n fs σ os=some x→AllT x.1→Po X k b g x.2.1 y→Po X k b g (fs,σ) y:=by
 intro n
 induction n with
 | zero=>intro fs σ os x h _ hp; simp only [xs] at h; cases h; exact hp
 | succ n ih =>
  intro fs σ os x h hP hp
  have post:∀ {fs fs':List Fr} {σ σ':St},(∀ {q:Option (Ex × St)→Prop},Post q (evK X (evF X k) k b fs' (.normal,σ'))→Post q (evK X (evF X k) k b fs (.normal,σ)))→Po X k b g (fs',σ') y→Po X k b g (fs,σ) y :=
   fun {fs fs' σ σ'} f hq=>f (q:=fun o=>g o=y) hq
  cases fs with
  | nil=>simp only [xs] at h; cases h
  | cons f fs =>
   cases f with
   | blk id=>exact post K_blk (ih _ _ _ x h hP hp)
   | c c =>
    cases c with
    | seq a c=>exact post K_seq (ih _ _ _ x h hP hp)
    | skip=>exact post K_skip (ih _ _ _ x h hP hp)
    | scope a=>exact post K_scope (ih _ _ _ x h hP hp)
    | block id a=>exact post K_block (ih _ _ _ x h hP hp)
    | reg is gh =>
     simp only [xs] at h
     obtain ⟨z,h1,h2⟩:=bind_some' h
     obtain ⟨w,h3,h4⟩:=bind_some' h2
     cases h4
     obtain ⟨g1,g2⟩:=AllT_append hP
     exact post (K_of _ (orR_ok (X:=X) (k:=k) (os':=z.2.2) (Ps:=z.1) (σ':=z.2.1) h1 g1)) (ih _ _ _ w h3 g2 hp)
    | regD is pre gh =>
     simp only [xs] at h
     obtain ⟨z,h1,h2⟩:=bind_some' h
     obtain ⟨w,h3,h4⟩:=bind_some' h2
     cases h4
     obtain ⟨g1,g2⟩:=AllT_append hP
     exact post (K_of _ (orD_reg (X:=X) (k:=k) (os':=z.2.2) (Ps:=z.1) (σ':=z.2.1) h1 g1)) (ih _ _ _ w h3 g2 hp)
    | gh gs a =>
     simp only [xs] at h
     obtain ⟨z,h1,h2⟩:=bind_some' h
     obtain ⟨w,h3,h4⟩:=bind_some' h2
     cases h4
     obtain ⟨g1,g2⟩:=AllT_append hP
     exact post (K_gh _ (orGs_ok h1 g1)) (ih _ _ _ w h3 g2 hp)
    | cond t a c =>
     simp only [xs] at h
     split at h
     · rename_i p hp1
       split at h
       · rename_i q os'
         obtain ⟨w,h3,h4⟩:=bind_some' h
         cases h4
         obtain ⟨g1,g2⟩:=AllT_append (a:=[p=q]) hP
         have g1:p=q:=g1
         cases q with
         | true=>exact post (K_t hp1 g1) (ih _ _ _ w h3 g2 hp)
         | false=>exact post (K_f hp1 g1) (ih _ _ _ w h3 g2 hp)
       · cases h
     · cases h
    | exit i =>
     simp only [xs] at h
     split at h
     · rename_i gs hg
       exact post (K_exit hg) (ih _ _ _ x h hP hp)
     · cases h
    | _=>simp only [xs] at h; cases h
def xR:OR Cf→Cf
 | some x=>x.2.1
 | none=>([],⟨[],[]⟩)
variable {α:Type} {g:Option (Ex × St)→α} {y:α} {S:Cf} {os:List Oc} {Ps:List Prop}
theorem Kx (n:Nat) (F:Fs os Ps) (h:Po X k b g (xR (xs (evF X k) b n S.1 S.2 os)) y) (e:(xs (evF X k) b n S.1 S.2 os).map (fun x=>(x.1,x.2.2))=some (Ps,[]):=by kernel_rfl):Po X k b g S y:=by
 cases e1:xs (evF X k) b n S.1 S.2 os with
 | none=>rw [e1] at e; cases e
 | some x =>
  rw [e1] at e h
  obtain ⟨a,τ,r⟩:=x
  cases e
  exact xs_ok n S.1 S.2 os _ e1 F h
def eK:Cf→Ex × St
 | (.c .ret::_,σ)=>(.ret,σ)
 | (.c (.exit i)::fs,σ)=>match unw i fs with | some _=>(.normal,σ) | none=>(.exit i,σ)
 | (_,σ)=>(.normal,σ)
def eOk:Cf→Bool
 | ([],_)=>true
 | (.c .ret::_,_)=>true
 | (.c (.exit i)::fs,_)=>(unw i fs).isNone
 | _=>false
theorem eK_ok (S:Cf) (h:eOk S=true) (hg:g (some (eK S))=y):Po X k b g S y:=by
 obtain ⟨fs,σ⟩:=S
 cases fs with
 | nil=>exact K_end (q:=fun o=>g o=y) hg
 | cons f fs =>
  cases f with
  | blk id=>cases h
  | c c =>
   cases c with
   | ret=>exact K_ret (q:=fun o=>g o=y) hg
   | exit i =>
    simp only [eOk,Option.isNone_iff_eq_none] at h
    simp only [eK,h] at hg
    exact K_exit0 (q:=fun o=>g o=y) h hg
   | _=>cases h
theorem Kz (n:Nat) (F:Fs os Ps) (e:(xs (evF X k) b n S.1 S.2 os).map (fun x=>(x.1,eOk x.2.1,g (some (eK x.2.1)),x.2.2))=some (Ps,true,y,[]):=by kernel_rfl):Po X k b g S y:=by
 cases e1:xs (evF X k) b n S.1 S.2 os with
 | none=>rw [e1] at e; cases e
 | some x =>
  rw [e1] at e
  obtain ⟨a,τ,r⟩:=x
  simp only [Option.map_some,Option.some.injEq,Prod.mk.injEq] at e
  obtain ⟨e2,e3,e4,e5⟩:=e
  subst e2
  exact xs_ok n S.1 S.2 os _ e1 F (eK_ok _ e3 e4)
theorem Kw (n:Nat) (y':α) (F:Fs os Ps) (hy:y'=y) (e:(xs (evF X k) b n S.1 S.2 os).map (fun x=>(x.1,eOk x.2.1,g (some (eK x.2.1)),x.2.2))=some (Ps,true,y',[]):=by kernel_rfl):Po X k b g S y:=hy ▸ Kz n F e
theorem Kq (n:Nat) (ex:Ex) (σ':St) (F:Fs os Ps) (hy:g (some (ex,σ'))=y) (e:(xs (evF X k) b n S.1 S.2 os).map (fun x=>(x.1,eOk x.2.1,eK x.2.1,x.2.2))=some (Ps,true,(ex,σ'),[]):=by kernel_rfl):Po X k b g S y:=by
 cases e1:xs (evF X k) b n S.1 S.2 os with
 | none=>rw [e1] at e; cases e
 | some x =>
  rw [e1] at e
  obtain ⟨a,τ,r⟩:=x
  simp only [Option.map_some,Option.some.injEq,Prod.mk.injEq] at e
  obtain ⟨e2,e3,e4,e5⟩:=e
  subst e2
  exact xs_ok n S.1 S.2 os _ e1 F (eK_ok _ e3 (by rw [e4]; exact hy))
theorem Po_of {fs:List Fr} {c:Fr} {σ σ':St} (h1:Po X k b id ([c],σ) (some (.normal,σ'))) (h2:Po X k b g (fs,σ') y):Po X k b g (c::fs,σ) y:=by
 cases c with
 | c c=>exact K_of (q:=fun o=>g o=y) σ' (K_in h1) h2
 | blk id => 
  have:some (Ex.normal,σ)=some (Ex.normal,σ'):=h1
  cases this
  exact h2
theorem Kc (σ':St) (h1:Po X k b id (S.1.take 1,S.2) (some (.normal,σ'))) (h2:Po X k b g (S.1.drop 1,σ') y):Po X k b g S y:=by
 obtain ⟨fs,σ⟩:=S
 cases fs with
 | nil =>
  have:some (Ex.normal,σ)=some (Ex.normal,σ'):=h1
  cases this
  exact h2
 | cons f fs=>exact Po_of h1 h2
theorem Kv (σ1 σ':St) (hs:σ1=σ') (h:Po X k b g (S.1,σ') y) (e:S.2=σ1:=by kernel_rfl):Po X k b g S y:=by
 obtain ⟨fs,σ⟩:=S
 cases e.trans hs
 exact h
def lK (i:Nat) (S:Cf):Option (MCode × St × Bool):=match S.1 with
 | .c (.loop x)::fs=>some (x,S.2,(unw i fs).isSome)
 | _=>none
theorem Kl {x:MCode} {i:Nat} {σ0 σ':St} (e:iter (evC X (evF X k) k b x) k σ0=some (.exit i,σ')) (h:Po X k b g ((unw i S.1.tail).getD [],σ') y) (hd:lK i S=some (x,σ0,true):=by kernel_rfl):Po X k b g S y:=by
 obtain ⟨fs,σ⟩:=S
 unfold lK at hd
 split at hd
 · rename_i x' fs' he
   simp only [Option.some.injEq,Prod.mk.injEq] at hd
   obtain ⟨rfl,rfl,h3⟩:=hd
   have he:fs=_:=he
   subst he
   obtain ⟨gs,hg⟩:=Option.isSome_iff_exists.1 h3
   have h:Po X k b g ((unw i fs').getD [],σ') y:=h
   rw [hg] at h
   exact K_loop (q:=fun o=>g o=y) σ' e hg h
 · cases hd
theorem Kl0 {x:MCode} {i:Nat} {σ0 σ':St} (e:iter (evC X (evF X k) k b x) k σ0=some (.exit i,σ')) (hy:g (some (.exit i,σ'))=y:=by kernel_rfl) (hd:lK i S=some (x,σ0,false):=by kernel_rfl):Po X k b g S y:=by
 obtain ⟨fs,σ⟩:=S
 unfold lK at hd
 split at hd
 · rename_i x' fs' he
   simp only [Option.some.injEq,Prod.mk.injEq] at hd
   obtain ⟨rfl,rfl,h3⟩:=hd
   have he:fs=_:=he
   subst he
   exact K_loop0 (q:=fun o=>g o=y) σ' e (by simpa using h3) hy
 · cases hd
theorem Klr {x:MCode} {σ0 σ':St} (e:iter (evC X (evF X k) k b x) k σ0=some (.ret,σ')) (hy:g (some (.ret,σ'))=y:=by kernel_rfl) (hd:(lK 0 S).map (fun z=>(z.1,z.2.1))=some (x,σ0):=by kernel_rfl):Po X k b g S y:=by
 obtain ⟨fs,σ⟩:=S
 unfold lK at hd
 split at hd
 · rename_i x' fs' he
   simp only [Option.map_some,Option.some.injEq,Prod.mk.injEq] at hd
   obtain ⟨rfl,rfl⟩:=hd
   have he:fs=_:=he
   subst he
   exact K_loopr (q:=fun o=>g o=y) σ' e hy
 · cases hd
theorem Kin {c:MCode} {σ:St} {r:Option (Ex × St)} (h:Po X k b id ([.c c],σ) r):evC X (evF X k) k b c σ=r:=K_in h
theorem KI (io ip:List Nat) (F:Fs os Ps)
 (h:Po X k b g (xR (xs (evF X k) b 1 S.1 S.2 (io.map fun i=>os.getD i .m))) y)
 (e:(xs (evF X k) b 1 S.1 S.2 (io.map fun i=>os.getD i .m)).map (fun x=>(x.1,x.2.2))=some (ip.map fun i=>Ps.getD i True,[]):=by kernel_rfl):Po X k b g S y :=
 Kx (os:=io.map fun i=>os.getD i .m) (Ps:=ip.map fun i=>Ps.getD i True) 1 (AllT_of fun p hp=>by obtain ⟨i,_,rfl⟩:=List.mem_map.1 hp; exact AllT_get F) h e
end
theorem Fi {X:Nat→Option MFn} {R:Type} {f:Nat→Option R} {k n:Nat} {r:R} {a:List V} {m:Heap} {fn:MFn} {y:V × Heap} (hX:X n=some fn) (H:f k=some r)
 (h:∀ k,f (k+1)=some r→Po X k m.length (fun o=>o.bind (finish fn m.length)) ([.c fn.code],⟨startEnv 0 a,m⟩) (some y))
 (h0:f 0=none:=by rfl) (hn:a.length=fn.np:=by rfl) (he:fn.code.isExt=false:=by rfl):evF X k n a m=some y:=by
 cases k with
 | zero=>rw [h0] at H; cases H
 | succ k=>exact F_in hX hn (h k H) he
theorem Fr1 {X:Nat→Option MFn} {k n:Nat} {a:List V} {m:Heap} {fn:MFn} {y:V × Heap} (hX:X n=some fn)
 (h:Po X k m.length (fun o=>o.bind (finish fn m.length)) ([.c fn.code],⟨startEnv 0 a,m⟩) (some y)) (hn:a.length=fn.np:=by rfl) (he:fn.code.isExt=false:=by rfl):evF X (k+1) n a m=some y:=F_in hX hn h he
structure Rnd {S R:Type} (f:S→Option (S ⊕ R)) (F:St→Option (Ex × St)) (enc:S→St) (out:R→Ex × St):Prop where
 go:∀ {n:Nat} {s:S} {r:R},loopT f n s=some r→iter F n (enc s)=some (out r)
theorem rnd {S R:Type} {f:S→Option (S ⊕ R)} {X:Nat→Option MFn} {k b:Nat} {x:MCode} {enc:S→St} {out:R→Ex × St}
 (H:∀ s z,f s=some z→Po X k b id ([.c x],enc s) (some (outS enc out z))) (hne:∀ r,(out r).1≠.normal:=by intro r h; first | cases h | (cases r <;> cases h)):Rnd f (evC X (evF X k) k b x) enc out:=⟨fun {n s r}=>loop_ok enc out hne (fun s z h=>Kin (H s z h)) n s r⟩
theorem bs {α β:Type} {a:Option α} {f:α→Option β} {r:β} (h:a.bind f=some r):∃ x,a=some x∧f x=some r:=bind_some' h
theorem gs {α:Type} {c:Prop} [Decidable c] {a:Option α} {r:α} (h:(if c then a else none)=some r):c∧a=some r:=guard_some h
theorem is {α:Type} {c:Prop} [Decidable c] {a b:Option α} {r:α} (h:(if c then a else b)=some r):(c∧a=some r)∨(¬c∧b=some r):=ite_some h
end

section
def allL1:MCode:=.seq (.reg [.op (some 7) (.bin .lss (.t 6) (.t 5))] [.keep [0,1,2,5,6,7],.gc]) (.seq (.cond 7 (.gh [.keep [0,1,2,5,6],.gc] (.skip)) (.gh [.keep [],.gc] (.exit 0))) (.seq (.block 1 (.seq (.reg [.op (some 8) (.mov (.t 6)),.op (some 4) (.mov (.t 8))] [.keep [0,1,2,4,5,6],.gc]) (.seq (.yld [⟨none,some 9,.mov (.t 0)⟩,⟨none,some 10,.mov (.t 4)⟩,⟨none,some 11,.mov (.t 4)⟩,⟨none,some 12,.load 1 false (.t 2)⟩,⟨none,some 13,.bin .mul (.t 11) (.t 12)⟩,⟨none,some 14,.load 1 false (.t 1)⟩,⟨none,some 15,.bin .quo (.t 13) (.t 14)⟩,⟨none,some 16,.mov (.t 4)⟩,⟨none,some 17,.bin .add (.t 16) (.k (.one (.d (.int .i64 1))))⟩,⟨none,some 18,.load 1 false (.t 2)⟩,⟨none,some 19,.bin .mul (.t 17) (.t 18)⟩,⟨none,some 20,.load 1 false (.t 1)⟩,⟨none,some 21,.bin .quo (.t 19) (.t 20)⟩,⟨none,some 22,.build [.d (.int .i64 0),.d (.int .i64 0)] [(0,1,(.t 15)),(1,1,(.t 21))]⟩,⟨none,some 23,.callv (.t 9) [(.t 10),(.t 22)]⟩,⟨none,some 24,.not (.t 23)⟩] [[],[],[],[],[2,3],[],[4,5],[],[7],[],[8,9],[],[10,11],[6,12],[0,1,13],[14]] 14 [.keep [0,1,2,5,6,24],.gc]) (.cond 24 (.gh [.keep [],.gc] (.ret)) (.gh [.keep [0,1,2,5,6],.gc] (.skip)))))) (.reg [.op (some 25) (.bin .add (.t 6) (.k (.one (.d (.int .i64 1))))),.op (some 6) (.mov (.t 25))] [.keep [0,1,2,5,6],.gc])))
def allM:MFn:=⟨26,3,[],[],.seq (.reg [.op (some 5) (.load 1 false (.t 1)),.op (some 6) (.mov (.k (.one (.d (.int .i64 0)))))] [.keep [0,1,2,5,6],.gc]) (.block 0 (.loop allL1))⟩

def allT {S R:Type} (f:Int→Int→Int→S→Option (S ⊕ R)) (m n:Int):Nat→Int→S→Option (S ⊕ R)
 | 0,_,_=>none
 | k+1,p,s=>if p < n then (if n≠0 then (f p (w64 ((w64 (p*m)).tdiv n)) (w64 ((w64 (w64 (p+1)*m)).tdiv n)) s).bind fun x=>match x with
  | .inl s'=>allT f m n k (w64 (p+1)) s'
  | .inr r=>some (.inr r)
  else none) else some (.inl s)

def allE (l:Nat) (n m p:Int):St:=⟨[(0,.one (.d (.fn (.yield l) []))),(1,.one (.d (.ref [.int .i64 n]))),(2,.one (.d (.ref [.int .i64 m]))),(5,I n),(6,I p)],[]⟩
section
variable {T:Type} {call:Call} {k l:Nat} {rd:List V→T→Option (Bool × T)} {σ τ:St × T}
theorem gen_seq {x y:MCode} (h:evGen call k l rd x σ=some (.normal,τ)):evGen call k l rd (.seq x y) σ=evGen call k l rd y τ:=by simp only [evGen,h,Option.bind_some]
theorem gen_seqr {x y:MCode} (h:evGen call k l rd x σ=some (.ret,τ)):evGen call k l rd (.seq x y) σ=some (.ret,τ):=by simp only [evGen,h,Option.bind_some]
theorem gen_blk {x:MCode} {i:Nat} {e:Ex} (h:evGen call k l rd x σ=some (e,τ)) (he:∀ j,e≠.exit j):evGen call k l rd (.block i x) σ=some (e,τ):=by
 simp only [evGen,h,Option.bind_some]
end
theorem all_round {T:Type} {call:Call} {k l:Nat} {rd:List V→T→Option (Bool × T)} {m n p:Int} {s s':T} {b:Bool} (h0:p < n) (hn:n≠0)
 (h:rd [I p,.agg [.d (.int .i64 (w64 ((w64 (p*m)).tdiv n))),.d (.int .i64 (w64 ((w64 (w64 (p+1)*m)).tdiv n)))]] s=some (b,s')) :
 evGen call k l rd allL1 (allE l n m p,s)=some (if b then (.normal,(allE l n m (w64 (p+1)),s')) else (.ret,(⟨[],[]⟩,s'))):=by
 have h1:evFs call [⟨none,some 9,.mov (.t 0)⟩,⟨none,some 10,.mov (.t 4)⟩,⟨none,some 11,.mov (.t 4)⟩,⟨none,some 12,.load 1 false (.t 2)⟩,⟨none,some 13,.bin .mul (.t 11) (.t 12)⟩,⟨none,some 14,.load 1 false (.t 1)⟩,⟨none,some 15,.bin .quo (.t 13) (.t 14)⟩,⟨none,some 16,.mov (.t 4)⟩,⟨none,some 17,.bin .add (.t 16) (.k (.one (.d (.int .i64 1))))⟩,⟨none,some 18,.load 1 false (.t 2)⟩,⟨none,some 19,.bin .mul (.t 17) (.t 18)⟩,⟨none,some 20,.load 1 false (.t 1)⟩,⟨none,some 21,.bin .quo (.t 19) (.t 20)⟩,⟨none,some 22,.build [.d (.int .i64 0),.d (.int .i64 0)] [(0,1,(.t 15)),(1,1,(.t 21))]⟩]
  ⟨[(0,.one (.d (.fn (.yield l) []))),(1,.one (.d (.ref [.int .i64 n]))),(2,.one (.d (.ref [.int .i64 m]))),(4,I p),(5,I n),(6,I p)],[]⟩ =
  some ⟨[(0,.one (.d (.fn (.yield l) []))),(1,.one (.d (.ref [.int .i64 n]))),(2,.one (.d (.ref [.int .i64 m]))),(4,I p),(5,I n),(6,I p),(9,.one (.d (.fn (.yield l) []))),(10,I p),(11,I p),(12,I m),(13,I (w64 (p*m))),(14,I n),
   (15,I (w64 ((w64 (p*m)).tdiv n))),(16,I p),(17,I (w64 (p+1))),(18,I m),(19,I (w64 (w64 (p+1)*m))),(20,I n),(21,I (w64 ((w64 (w64 (p+1)*m)).tdiv n))),
   (22,.agg [.d (.int .i64 (w64 ((w64 (p*m)).tdiv n))),.d (.int .i64 (w64 ((w64 (w64 (p+1)*m)).tdiv n)))])],[]⟩:=by
  simp [evFs,evFI,act,evO,ldC,bldParts,splice,hn]
 have hlt:decide (p < n)=true:=by simpa using h0
 have g1:evGen call k l rd (.reg [.op (some 7) (.bin .lss (.t 6) (.t 5))] [.keep [0,1,2,5,6,7],.gc]) (allE l n m p,s)=some (.normal,(⟨[(0,.one (.d (.fn (.yield l) []))),(1,.one (.d (.ref [.int .i64 n]))),(2,.one (.d (.ref [.int .i64 m]))),(5,I n),(6,I p),(7,B (decide (p < n)))],[]⟩,s)):=by rfl
 have g2:evGen call k l rd (.reg [.op (some 8) (.mov (.t 6)),.op (some 4) (.mov (.t 8))] [.keep [0,1,2,4,5,6],.gc]) (allE l n m p,s)=some (.normal,(⟨[(0,.one (.d (.fn (.yield l) []))),(1,.one (.d (.ref [.int .i64 n]))),(2,.one (.d (.ref [.int .i64 m]))),(4,I p),(5,I n),(6,I p)],[]⟩,s)):=by rfl
 have g3:evGen call k l rd (.yld [⟨none,some 9,.mov (.t 0)⟩,⟨none,some 10,.mov (.t 4)⟩,⟨none,some 11,.mov (.t 4)⟩,⟨none,some 12,.load 1 false (.t 2)⟩,⟨none,some 13,.bin .mul (.t 11) (.t 12)⟩,⟨none,some 14,.load 1 false (.t 1)⟩,⟨none,some 15,.bin .quo (.t 13) (.t 14)⟩,⟨none,some 16,.mov (.t 4)⟩,⟨none,some 17,.bin .add (.t 16) (.k (.one (.d (.int .i64 1))))⟩,⟨none,some 18,.load 1 false (.t 2)⟩,⟨none,some 19,.bin .mul (.t 17) (.t 18)⟩,⟨none,some 20,.load 1 false (.t 1)⟩,⟨none,some 21,.bin .quo (.t 19) (.t 20)⟩,⟨none,some 22,.build [.d (.int .i64 0),.d (.int .i64 0)] [(0,1,(.t 15)),(1,1,(.t 21))]⟩,⟨none,some 23,.callv (.t 9) [(.t 10),(.t 22)]⟩,⟨none,some 24,.not (.t 23)⟩] [[],[],[],[],[2,3],[],[4,5],[],[7],[],[8,9],[],[10,11],[6,12],[0,1,13],[14]] 14 [.keep [0,1,2,5,6,24],.gc])
  (⟨[(0,.one (.d (.fn (.yield l) []))),(1,.one (.d (.ref [.int .i64 n]))),(2,.one (.d (.ref [.int .i64 m]))),(4,I p),(5,I n),(6,I p)],[]⟩,s)=some (.normal,(⟨[(0,.one (.d (.fn (.yield l) []))),(1,.one (.d (.ref [.int .i64 n]))),(2,.one (.d (.ref [.int .i64 m]))),(5,I n),(6,I p),(24,B (!b))],[]⟩,s')):=by
  simp only [evGen,List.take]
  rw [h1]
  simp only [Option.bind_some]
  show (if l=l then (rd [I p,.agg [.d (.int .i64 (w64 ((w64 (p*m)).tdiv n))),.d (.int .i64 (w64 ((w64 (w64 (p+1)*m)).tdiv n)))]] s).bind _ else none)=_
  rw [if_pos rfl,h]
  rfl
 have c1:∀ p,evGen call k l rd (.cond 7 (.gh [.keep [0,1,2,5,6],.gc] (.skip)) (.gh [.keep [],.gc] (.exit 0))) (⟨[(0,.one (.d (.fn (.yield l) []))),(1,.one (.d (.ref [.int .i64 n]))),(2,.one (.d (.ref [.int .i64 m]))),(5,I n),(6,I p),(7,B true)],[]⟩,s)=some (.normal,(allE l n m p,s)):=fun p=>rfl
 unfold allL1
 rw [gen_seq g1,hlt,gen_seq (c1 p)]
 cases b with
 | true =>
  have g4:evGen call k l rd (.cond 24 (.gh [.keep [],.gc] (.ret)) (.gh [.keep [0,1,2,5,6],.gc] (.skip))) (⟨[(0,.one (.d (.fn (.yield l) []))),(1,.one (.d (.ref [.int .i64 n]))),(2,.one (.d (.ref [.int .i64 m]))),(5,I n),(6,I p),(24,B (!true))],[]⟩,s')=some (.normal,(allE l n m p,s')):=by rfl
  rw [gen_seq (gen_blk (by rw [gen_seq g2,gen_seq g3]; exact g4) (by intro j h; cases h))]
  rfl
 | false =>
  have g4:evGen call k l rd (.cond 24 (.gh [.keep [],.gc] (.ret)) (.gh [.keep [0,1,2,5,6],.gc] (.skip))) (⟨[(0,.one (.d (.fn (.yield l) []))),(1,.one (.d (.ref [.int .i64 n]))),(2,.one (.d (.ref [.int .i64 m]))),(5,I n),(6,I p),(24,B (!false))],[]⟩,s')=some (.ret,(⟨[],[]⟩,s')):=by rfl
  rw [gen_seqr (gen_blk (by rw [gen_seq g2,gen_seq g3]; exact g4) (by intro j h; cases h))]
  rfl
theorem all_end {T:Type} {call:Call} {k l:Nat} {rd:List V→T→Option (Bool × T)} {m n p:Int} {s:T} (h0:¬p < n) :
 evGen call k l rd allL1 (allE l n m p,s)=some (.exit 0,(⟨[],[]⟩,s)):=by
 have hlt:decide (p < n)=false:=by simpa using h0
 have g1:evGen call k l rd (.reg [.op (some 7) (.bin .lss (.t 6) (.t 5))] [.keep [0,1,2,5,6,7],.gc]) (allE l n m p,s)=some (.normal,(⟨[(0,.one (.d (.fn (.yield l) []))),(1,.one (.d (.ref [.int .i64 n]))),(2,.one (.d (.ref [.int .i64 m]))),(5,I n),(6,I p),(7,B (decide (p < n)))],[]⟩,s)):=by rfl
 unfold allL1
 rw [gen_seq g1,hlt]
 rfl
theorem all_iter {T S R:Type} {call:Call} {k l:Nat} {rd:List V→T→Option (Bool × T)} {f:Int→Int→Int→S→Option (S ⊕ R)} {enc:S→T} {out:R→T} {m n:Int}
 (H:∀ p a b s x,f p a b s=some x→rd [I p,.agg [.d (.int .i64 a),.d (.int .i64 b)]] (enc s)=some (Sum.elim (fun s'=>(true,enc s')) (fun r=>(false,out r)) x)) :
 ∀ (j:Nat) (p:Int) (s:S) (x:S ⊕ R),allT f m n j p s=some x→∃ z,iter (evGen call k l rd allL1) j (allE l n m p,enc s)=some z∧(z.1=.exit 0∨z.1=.ret)∧z.2.2=Sum.elim enc out x
 | 0,p,s,x,h=>by simp only [allT] at h; cases h
 | j+1,p,s,x,h=>by
  simp only [allT] at h
  rcases ite_some h with ⟨h1,h⟩ | ⟨h1,h⟩
  · obtain ⟨hn,h⟩:=guard_some h
    obtain ⟨y,h2,h3⟩:=bind_some' h
    have e:=all_round (call:=call) (k:=k) (l:=l) (rd:=rd) (m:=m) h1 hn (H _ _ _ _ _ h2)
    cases y with
    | inl s' =>
     simp only [iter,e,if_true,Option.bind_some]
     exact all_iter H j _ _ x h3
    | inr r =>
     cases h3
     simp only [iter,e,Bool.false_eq_true,if_false,Option.bind_some]
     exact ⟨_,rfl,.inr rfl,rfl⟩
  · cases h
    simp only [iter,all_end h1,Option.bind_some]
    exact ⟨_,rfl,.inl rfl,rfl⟩
theorem gall_ok {T S R:Type} {call:Call} {k l:Nat} {rd:List V→T→Option (Bool × T)} {f:Int→Int→Int→S→Option (S ⊕ R)} {enc:S→T} {out:R→T} {m n:Int}
 (H:∀ p a b s x,f p a b s=some x→rd [I p,.agg [.d (.int .i64 a),.d (.int .i64 b)]] (enc s)=some (Sum.elim (fun s'=>(true,enc s')) (fun r=>(false,out r)) x))
 {s:S} {x:S ⊕ R} (h:allT f m n k 0 s=some x) :
 ∃ z,evGen call k l rd allM.code (⟨startEnv 0 [.one (.d (.fn (.yield l) [])),.one (.d (.ref [.int .i64 n])),.one (.d (.ref [.int .i64 m]))],[]⟩,enc s)=some z∧(∀ j,z.1≠.exit j)∧z.2.2=Sum.elim enc out x:=by
 obtain ⟨z,h1,h2,h3⟩:=all_iter (call:=call) (k:=k) (l:=l) H k 0 s x h
 have g1:evGen call k l rd (.reg [.op (some 5) (.load 1 false (.t 1)),.op (some 6) (.mov (.k (.one (.d (.int .i64 0)))))] [.keep [0,1,2,5,6],.gc]) (⟨startEnv 0 [.one (.d (.fn (.yield l) [])),.one (.d (.ref [.int .i64 n])),.one (.d (.ref [.int .i64 m]))],[]⟩,enc s)=some (.normal,(allE l n m 0,enc s)):=by rfl
 unfold allM
 rw [gen_seq g1]
 obtain ⟨ex,z2⟩:=z
 have e2:evGen call k l rd (.block 0 (.loop allL1)) (allE l n m 0,enc s)=some (if ex=.exit 0 then (.normal,z2) else (ex,z2)):=by
  simp only [evGen,h1,Option.bind_some]
  rcases h2 with rfl | rfl <;> rfl
 refine ⟨_,e2,?_,?_⟩
 · rcases h2 with rfl | rfl <;> (intro j hj; cases hj)
 · rcases h2 with rfl | rfl <;> exact h3

theorem range_ok {X:Nat→Option MFn} {call:Call} {k b:Nat} {x:Arg} {ps:List Nat} {as body:MCode} {gh:List Ghost} {g:Nat} {m n:Int} {S R:Type} {f:Int→Int→Int→S→Option (S ⊕ R)} (enc:S→St) (out:R→Ex × St) {s:S} {y:S ⊕ R}
 (hx:(enc s).arg x=.one (.d (.fn (.func g) [.ref [.int .i64 n],.ref [.int .i64 m]]))) (hX:X g=some allM)
 (H:∀ p a c s z,f p a c s=some z→roundM (fun b'=>evC X call k b' as) (fun b'=>evC X call k b' body) b ps gh [I p,.agg [.d (.int .i64 a),.d (.int .i64 c)]] (.normal,enc s)=some (Sum.elim (fun s'=>(true,(.normal,enc s'))) (fun r=>(false,out r)) z))
 (h:allT f m n k 0 s=some y):evC X call k b (.rangef x ps as body gh) (enc s)=some (outS enc out y):=by
 simp only [evC]
 rw [hx]
 simp only [hX,Option.bind_some]
 rw [if_pos (by exact ⟨rfl,rfl⟩)]
 refine allL_some fun l=>?_
 obtain ⟨z,h1,h2,h3⟩:=gall_ok (T:=Ex × St) (enc:=fun s=>(.normal,enc s)) (out:=out) (call:=call) (l:=l) H h
 have h1':evGen call k l (roundM (fun b'=>evC X call k b' as) (fun b'=>evC X call k b' body) b ps gh) allM.code (⟨startEnv 0 (.one (.d (.fn (.yield l) []))::[D.ref [.int .i64 n],.ref [.int .i64 m]].map fun c=>.one (.d c)),[]⟩,(.normal,enc s))=some z:=h1
 rw [h1']
 obtain ⟨ex,z2⟩:=z
 simp only [Option.bind_some]
 cases ex with
 | exit j=>exact absurd rfl (h2 j)
 | normal=>simp only [] at h3 ⊢; rw [h3]; cases y <;> rfl
 | ret=>simp only [] at h3 ⊢; rw [h3]; cases y <;> rfl
theorem R_in {fa fb:Nat→St→Option (Ex × St)} {b:Nat} {ps:List Nat} {gh:List Ghost} {args:List V} {σ:St} {y:Bool × (Ex × St)} (hl:args.length=ps.length)
 (h:(fa σ.mem.length ⟨putAll ps args σ.env,σ.mem⟩).bind (fun r1=>match r1.1 with
  | .normal=>(fb r1.2.mem.length r1.2).bind fun r2=>(evGs b gh ⟨σ.env,r2.2.mem⟩).bind fun σ3=>some (decide (r2.1=.normal),(r2.1,σ3))
  | _=>none)=some y):roundM fa fb b ps gh args (.normal,σ)=some y:=by
 unfold roundM
 simp only []
 rw [if_pos hl]
 exact h
theorem R_as {X:Nat→Option MFn} {call:Call} {k b:Nat} {ps:List Nat} {gh:List Ghost} {args:List V} {σ:St} {y:Bool × (Ex × St)} {as body:MCode} (hl:args.length=ps.length)
 (h:Post (fun o=>o.bind (fun r1=>match r1.1 with
  | .normal=>(evC X call k r1.2.mem.length body r1.2).bind fun r2=>(evGs b gh ⟨σ.env,r2.2.mem⟩).bind fun σ3=>some (decide (r2.1=.normal),(r2.1,σ3))
  | _=>none)=some y) (evK X call k σ.mem.length [.c as] (.normal,⟨putAll ps args σ.env,σ.mem⟩))) :
 roundM (fun b'=>evC X call k b' as) (fun b'=>evC X call k b' body) b ps gh args (.normal,σ)=some y:=by
 refine R_in hl ?_
 have h:(evK X call k σ.mem.length [.c as] (.normal,⟨putAll ps args σ.env,σ.mem⟩)).bind _=some y:=h
 simp only [evK] at h
 rw [←h]
 cases evC X call k σ.mem.length as ⟨putAll ps args σ.env,σ.mem⟩ <;> rfl
theorem R_body {X:Nat→Option MFn} {call:Call} {k b:Nat} {e:Env} {gh:List Ghost} {σ1:St} {y:Bool × (Ex × St)} {body:MCode}
 (h:Post (fun o=>o.bind (fun r2=>(evGs b gh ⟨e,r2.2.mem⟩).bind fun σ3=>some (decide (r2.1=.normal),(r2.1,σ3)))=some y) (evK X call k σ1.mem.length [.c body] (.normal,σ1))) :
 (some (Ex.normal,σ1)).bind (fun r1=>match r1.1 with
  | .normal=>(evC X call k r1.2.mem.length body r1.2).bind fun r2=>(evGs b gh ⟨e,r2.2.mem⟩).bind fun σ3=>some (decide (r2.1=.normal),(r2.1,σ3))
  | _=>none)=some y:=by
 have h:(evK X call k σ1.mem.length [.c body] (.normal,σ1)).bind _=some y:=h
 simp only [evK] at h
 rw [←h]
 show (evC X call k σ1.mem.length body σ1).bind _=_
 cases evC X call k σ1.mem.length body σ1 <;> rfl
theorem R_end {b:Nat} {e:Env} {gh:List Ghost} {ex:Ex} {σ2:St} {y:Bool × (Ex × St)} (σ3:St) (h:evGs b gh ⟨e,σ2.mem⟩=some σ3) (hy:(decide (ex=.normal),(ex,σ3))=y) :
 (some (ex,σ2)).bind (fun r2=>(evGs b gh ⟨e,r2.2.mem⟩).bind fun σ3=>some (decide (r2.1=.normal),(r2.1,σ3)))=some y:=by
 simp only [Option.bind_some,h,hy]
section
variable {X:Nat→Option MFn} {call:Call} {k b:Nat} {fs:List Fr} {σ:St} {q:Option (Ex × St)→Prop}
theorem K_xr {c:MCode} (σ':St) (e:evC X call k b c σ=some (.ret,σ')) (h:q (some (.ret,σ'))):Post q (evK X call k b (.c c::fs) (.normal,σ)):=by
 refine K_eq ?_ h
 simp only [evK,e,Option.bind_some]
 exact evK_ret fs
theorem K_x {c:MCode} {i:Nat} {gs:List Fr} (σ':St) (e:evC X call k b c σ=some (.exit i,σ')) (u:unw i fs=some gs) (h:Post q (evK X call k b gs (.normal,σ'))):Post q (evK X call k b (.c c::fs) (.normal,σ)):=by
 refine K_eq ?_ h
 simp only [evK,e,Option.bind_some]
 rw [evK_exit,u]
theorem K_x0 {c:MCode} {i:Nat} (σ':St) (e:evC X call k b c σ=some (.exit i,σ')) (u:unw i fs=none) (h:q (some (.exit i,σ'))):Post q (evK X call k b (.c c::fs) (.normal,σ)):=by
 refine K_eq ?_ h
 simp only [evK,e,Option.bind_some]
 rw [evK_exit,u]
end
def addT (k:Nat) (x y c:Int):Option (Int × Int):=match k with
 | 0=>none
 | _+1=>if c.toNat≤1 then some (Int.ofNat ((x.toNat+y.toNat+c.toNat) % 18446744073709551616),Int.ofNat ((x.toNat+y.toNat+c.toNat) / 18446744073709551616)) else none
theorem addT_ok {X:Nat→Option MFn} {f:Nat} (hX:X f=some extM) (k:Nat) (x y c:Int) (r:Int × Int) (H:addT k x y c=some r) :
 evF X k f [.one (.d (.int .u64 x)),.one (.d (.int .u64 y)),.one (.d (.int .u64 c))] []=some (.tup [(false,[.d (.int .u64 r.1)]),(false,[.d (.int .u64 r.2)])],[]):=by
 cases k with
 | zero=>cases H
 | succ k =>
  simp only [addT] at H
  obtain ⟨h1,h2⟩:=guard_some H
  cases h2
  simp only [evF,hX,Option.bind_some]
  rw [if_pos (by rfl)]

  simp only [extM,MCode.extF,addX]
  rw [if_pos h1]
def bAnd (k:IntKind) (x y:Int):Int:=k.wrap (BitVec.ofInt k.bits x &&& BitVec.ofInt k.bits y).toNat
def bOr (k:IntKind) (x y:Int):Int:=k.wrap (BitVec.ofInt k.bits x ||| BitVec.ofInt k.bits y).toNat
def bXor (k:IntKind) (x y:Int):Int:=k.wrap (BitVec.ofInt k.bits x ^^^ BitVec.ofInt k.bits y).toNat
def bAndNot (k:IntKind) (x y:Int):Int:=k.wrap (BitVec.ofInt k.bits x &&& ~~~(BitVec.ofInt k.bits y)).toNat
end

section
open Go.RowKit
variable {P:Program}

theorem law_walk {X:Nat→Option MFn} (hP:P.follows .mixedOrders=true) (hX:Table P X) {k f:Nat} {args:List V} {us:List Value} {W0:World} {b:Bool} (hne:((X f).any fun m=>!m.code.isExt)=true) (h:evF X k f args []=some (B b,[]))
 (hr:All2 (RepV W0.heap (fun b=>b < W0.heap.size) [] (fun _=>none)) args us):Calls P f us.toArray W0 fun e W'=>e=.returned (.bool b)∧Below W0.heap.size W0 W':=by
 have hm:MemOK (fun _=>False) [] (fun _=>none) W0.heap:=⟨fun s sl c=>by simp at c,fun s t sl tl b o o' c=>by simp [live] at c,fun b ⟨s,sl,o,c,_⟩=>by simp [live] at c,fun b c=>c.elim⟩
 have av:∀ b,b < W0.heap.size→Avail (fun _=>False) [] (fun _=>none) W0.heap b:=fun b hb=>⟨hb,fun c=>c,fun ⟨s,sl,o,c,_⟩=>by simp [live] at c⟩
 have hr':All2 (RepV W0.heap (Avail (fun _=>False) [] (fun _=>none) W0.heap) [] (fun _=>none)) args us:=hr.mono fun x u hxu=>hxu.flat fun b hb=>⟨av b hb,rfl⟩
 have H:=evF_ok hP hX k f args [] (B b) [] h (fun _=>False) (fun _=>none) W0 us hm hr'
 have key:∀ u W',(∃ β',MemOK (fun _=>False) [] β' W'.heap∧Evo (fun _=>False) [] (fun _=>none) W0 [] β' W'∧RepV W'.heap (Avail (fun _=>False) [] β' W'.heap) [] β' (B b) u)→u=.bool b∧Below W0.heap.size W0 W':=by
  intro u W' ⟨β',_,hE,hu⟩
  have hu:RepD _ _ (.bool b) u:=hu
  cases hu
  exact ⟨rfl,hE.os,hE.tape,hE.output.1,hE.size,fun k hk=>(hE.av k (av k hk)).2⟩
 rcases H with ⟨_,h2⟩ | ⟨u,W',h1,_⟩
 · refine (callsIn_wide (n:=0)).1 ?_
   refine CallsIn.mono (F:=Fence.wide) (show CallsIn Fence.wide 0 P f us.toArray W0 _ from h2) fun e W' ⟨u,e1,e2⟩=>?_
   obtain ⟨rfl,e3⟩:=key u W' e2
   exact ⟨e1,e3⟩
 · exfalso
   cases hXf:X f with
   | none=>rw [hXf] at hne; cases hne
   | some m =>
    rw [hXf] at hne
    rcases hX f m hXf with ⟨_,fn0,t⟩ | ⟨he,_⟩
    · unfold trFn at t
      obtain ⟨pf,t1,t⟩:=bind_some' t
      obtain ⟨c,t2,t⟩:=bind_some' t
      split at t
      · cases t
      · rename_i hname
        rw [run_enter t1 (by simpa using hname) t2] at h1
        cases h1
    · simp [he] at hne

theorem ints_rep {W0:World} {k:IntKind} {a:Option Addr} {len cap:Nat} {zs:List Int}
 (h:(a=none∧len=0∧cap=0∧zs=[])∨∃ x,a=some x∧len≤cap∧cap≤maxLen∧zs.length=cap∧(∀ i,i < zs.length→W0.cell? (x.add i)=some (.int k (zs.getD i 0)))∧∀ n∈zs,(Lit.int k n).wf=true) :
 RepV W0.heap (fun b=>b < W0.heap.size) [] (fun _=>none) (.one (.d (.list ((zs.take len).map (D.int k))))) (.slice a len cap):=by
 show RepD _ _ _ _
 by_cases h0:len=0
 · subst h0
   exact .empty a cap
 · rcases h with ⟨_,rfl,_,_⟩ | ⟨x,rfl,h1,h2,h3,h4,_⟩
   · exact absurd rfl h0
   · obtain ⟨b,o,sp⟩:=x
     have hlen:((zs.take len).map (D.int k)).length=len:=by simp; omega
     have c0:=h4 0 (by omega)
     have hsp:sp=none:=by
      simp only [Addr.add,if_true,World.cell?] at c0
      split at c0
      · split at c0
        · cases c0
        · rename_i hs; simpa using hs
      · cases c0
     subst hsp
     have hcell:∀ i,i < zs.length→cellAt W0.heap b (o+i)=some (.int k (zs.getD i 0)):=by
      intro i hi
      have:=h4 i hi
      simp only [World.cell?] at this
      have e1:(Addr.add ⟨b,o,none⟩ i).block=b:=by unfold Addr.add; split <;> rfl
      have e2:(Addr.add ⟨b,o,none⟩ i).off=o+i:=by unfold Addr.add; split <;> simp_all
      have e3:(Addr.add ⟨b,o,none⟩ i).spot=none:=by unfold Addr.add; split <;> rfl
      rw [e1,e2,e3] at this
      unfold cellAt
      revert this
      cases W0.heap[b]? with
      | none=>intro h; cases h
      | some ob=>cases ob <;> simp
     have hb:b < W0.heap.size:=by
      have:=hcell 0 (by omega)
      unfold cellAt at this
      cases hh:W0.heap[b]? with
      | none=>rw [hh] at this; cases this
      | some ob=>exact (Array.getElem?_eq_some_iff.1 hh).1
     have:Value.slice (some ⟨b,o,none⟩) len cap=.slice (some ⟨b,o,none⟩) ((zs.take len).map (D.int k)).length cap:=by rw [hlen]
     rw [this]
     refine .list _ b o 1 cap (fun i _=>.int k (zs.getD i 0)) hb (by omega) (fun i d hd=>?_) (fun i j hi hj=>?_) (fun i j d e hd he=>?_) (by rw [hlen]; exact h1)
     · rw [List.getElem?_map] at hd
       obtain ⟨v,_,rfl⟩:=Option.map_eq_some_iff.1 hd
       rfl
     · rw [hlen] at hi
       have hj0:j=0:=by omega
       subst hj0
       rw [Nat.mul_one,Nat.add_zero]
       exact hcell i (by omega)
     · rw [List.getElem?_map] at hd
       obtain ⟨v,hv,rfl⟩:=Option.map_eq_some_iff.1 hd
       have hi:i < len:=by
        have:=(List.getElem?_eq_some_iff.1 hv).1
        simp at this; omega
       rw [List.getElem?_take,if_pos hi] at hv
       have hj:j=0∧e=.int k v:=by
        cases j with
        | zero=>simp [D.cells] at he; exact ⟨rfl,he.symm⟩
        | succ j=>simp [D.cells] at he
       obtain ⟨rfl,rfl⟩:=hj
       have:zs.getD i 0=v:=by rw [List.getD_eq_getElem?_getD,hv]; rfl
       rw [this]
       exact .int k v
theorem int_rep {W0:World} {k:IntKind} {n:Int}:RepV W0.heap (fun b=>b < W0.heap.size) [] (fun _=>none) (.one (.d (.int k n))) (.int k n):=RepD.int k n
theorem ints_wf {W0:World} {k:IntKind} {a:Option Addr} {len cap:Nat} {zs:List Int}
 (h:(a=none∧len=0∧cap=0∧zs=[])∨∃ x,a=some x∧len≤cap∧cap≤maxLen∧zs.length=cap∧(∀ i,i < zs.length→W0.cell? (x.add i)=some (.int k (zs.getD i 0)))∧∀ n∈zs,(Lit.int k n).wf=true) :
 ∀ n∈zs.take len,(Lit.int k n).wf=true:=by
 intro n hn
 rcases h with ⟨_,_,_,rfl⟩ | ⟨x,_,_,_,_,_,h6⟩
 · simp at hn
 · exact h6 n (List.mem_of_mem_take hn)
theorem agg_rep {h:Array Obj} {A:Nat→Prop} {m:Heap} {β:Place} {cs:List C} {us:List Value} (r:All2 (RepC h A m β) cs us):RepV h A m β (.agg cs) (.agg us.toArray):=⟨us.toArray,rfl,by simpa using r⟩
theorem int_repC {h:Array Obj} {A:Nat→Prop} {m:Heap} {β:Place} {k:IntKind} {n:Int}:RepC h A m β (.d (.int k n)) (.int k n):=RepD.int k n
theorem ints_repC {W0:World} {k:IntKind} {a:Option Addr} {len cap:Nat} {zs:List Int}
 (h:(a=none∧len=0∧cap=0∧zs=[])∨∃ x,a=some x∧len≤cap∧cap≤maxLen∧zs.length=cap∧(∀ i,i < zs.length→W0.cell? (x.add i)=some (.int k (zs.getD i 0)))∧∀ n∈zs,(Lit.int k n).wf=true) :
 RepC W0.heap (fun b=>b < W0.heap.size) [] (fun _=>none) (.d (.list ((zs.take len).map (D.int k)))) (.slice a len cap):=ints_rep h
end

end Go.Proofs.YtkeddnagijjbaaaGreat
