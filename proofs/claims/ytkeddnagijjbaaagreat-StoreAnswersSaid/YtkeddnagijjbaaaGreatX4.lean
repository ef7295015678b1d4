/- Part 4 of 4 of the theory that this claim's proof uses: functions of the program as terms of a small language, what these compute, and that the program's functions answer so.
 There are no conditions beyond those that the theorems name. -/
import Derived.Test.YtkeddnagijjbaaaGreatX3
import Derived.Shelf.SlSortCmp.NoneTotal
set_option linter.unusedVariables false
set_option linter.unusedSimpArgs false
namespace Go.Proofs.YtkeddnagijjbaaaGreat
open Go
section
section
open Go.Shelf Go.RowKit Go.Lib Go.Sort
variable {P:Program}
def D.val:D→Value
 | .int k n=>.int k n
 | .bool b=>.bool b
 | _=>undef
def cfC (call:Call) (g:Nat) (x y:D):Int:=match call g [.agg (x.cells.map .d),.agg (y.cells.map .d)] [] with
 | some (.one (.d (.int _ r)),_)=>r
 | _=>0
structure SortOK (call:Call) (g n:Nat) (xs:List D):Prop where
 num:∀ d∈xs,d.cells.length=n∧∀ c∈d.cells,c.num=true
 eq:∀ x∈xs,∀ y∈xs,call g [.agg (x.cells.map .d),.agg (y.cells.map .d)] []=some (.one (.d (.int .i64 (cfC call g x y))),[])
 irr:∀ x∈xs,¬cfC call g x x < 0
 tr:∀ x∈xs,∀ y∈xs,∀ z∈xs,cfC call g x y < 0→cfC call g y z < 0→cfC call g x z < 0
 ntr:∀ x∈xs,∀ y∈xs,∀ z∈xs,¬cfC call g x y < 0→¬cfC call g y z < 0→¬cfC call g x z < 0
 tot:∀ x∈xs,∀ y∈xs,¬cfC call g x y < 0→¬cfC call g y x < 0→x=y
def insL {α:Type} (le:α→α→Bool) (x:α):List α→List α
 | []=>[x]
 | y::ys=>if le x y then x::y::ys else y::insL le x ys
def isort {α:Type} (le:α→α→Bool):List α→List α
 | []=>[]
 | x::xs=>insL le x (isort le xs)
theorem insL_perm {α:Type} (le:α→α→Bool) (x:α):∀ ys,(insL le x ys).Perm (x::ys)
 | []=>.refl _
 | y::ys=>by
  unfold insL
  split
  · exact .refl _
  · exact ((insL_perm le x ys).cons y).trans (.swap x y ys)
theorem isort_perm {α:Type} (le:α→α→Bool):∀ xs,(isort le xs).Perm xs
 | []=>.refl _
 | x::xs=>(insL_perm le x _).trans ((isort_perm le xs).cons x)
theorem insL_pw {α:Type} {le:α→α→Bool} (tr:∀ a b c,le a b=true→le b c=true→le a c=true) (to:∀ a b,(le a b || le b a)=true) (x:α):∀ ys,ys.Pairwise (le · ·)→(insL le x ys).Pairwise (le · ·)
 | [],_=>by simp [insL]
 | y::ys,h=>by
  unfold insL
  obtain ⟨h1,h2⟩:=List.pairwise_cons.1 h
  split
  · rename_i c
    exact List.pairwise_cons.2 ⟨fun z hz=>(List.mem_cons.1 hz).elim (fun e=>e ▸ c) fun hz=>tr _ _ _ c (h1 z hz),h⟩
  · rename_i c
    refine List.pairwise_cons.2 ⟨fun z hz=>?_,insL_pw tr to x ys h2⟩
    rcases List.mem_cons.1 ((insL_perm le x ys).mem_iff.1 hz) with rfl | hz
    · have:=to z y; simpa [c] using this
    · exact h1 z hz
theorem isort_pw {α:Type} {le:α→α→Bool} (tr:∀ a b c,le a b=true→le b c=true→le a c=true) (to:∀ a b,(le a b || le b a)=true):∀ xs,(isort le xs).Pairwise (le · ·)
 | []=>.nil
 | x::xs=>insL_pw tr to x _ (isort_pw tr to xs)
theorem isort_merge {α:Type} {le:α→α→Bool} (tr:∀ a b c,le a b=true→le b c=true→le a c=true) (to:∀ a b,(le a b || le b a)=true) (anti:∀ a b,le a b=true→le b a=true→a=b) (xs:List α):xs.mergeSort le=isort le xs :=
 List.Perm.eq_of_pairwise (fun a b _ _=>anti a b) (List.pairwise_mergeSort tr to xs) (isort_pw tr to xs) ((List.mergeSort_perm xs le).trans (isort_perm le xs).symm)
theorem insL_map {α β:Type} {le:α→α→Bool} {le':β→β→Bool} {f:α→β} (x:α):∀ ys,(∀ y∈ys,le x y=le' (f x) (f y))→(insL le x ys).map f=insL le' (f x) (ys.map f)
 | [],_=>rfl
 | y::ys,h=>by
  unfold insL
  simp only [List.map_cons,←h y (by simp)]
  split
  · rfl
  · rw [List.map_cons,insL_map x ys fun z hz=>h z (by simp [hz])]
theorem isort_map {α β:Type} {le:α→α→Bool} {le':β→β→Bool} {f:α→β}:∀ xs,(∀ x∈xs,∀ y∈xs,le x y=le' (f x) (f y))→(isort le xs).map f=isort le' (xs.map f)
 | [],_=>rfl
 | x::xs,h=>by
  simp only [isort,List.map_cons]
  rw [insL_map x _ fun y hy=>h x (by simp) y (by simp [(isort_perm le xs).mem_iff.1 hy]),isort_map xs fun a ha b hb=>h a (by simp [ha]) b (by simp [hb])]
def isFn (g:Nat):V→Prop
 | .one (.d (.fn (.func g') []))=>g'=g
 | .one (.fn (.func g') [])=>g'=g
 | _=>False
def leC (call:Call) (g:Nat) (x y:D):Bool:=!decide (cfC call g y x < 0)
open Classical in
noncomputable def sortX (n g:Nat) (call:Call):List V→Heap→Option (V × Heap)
 | [.one (.own s off len),f],m=>match m[s]? with
  | some (.vals z xs)=>if isFn g f∧off=0∧len=xs.length∧len < 4611686018427387904∧z.cells.length=n∧SortOK call g n xs then some (.tup [],m.set s (.vals z (isort (leC call g) xs))) else none
  | _=>none
 | _,_=>none

theorem sort_rep {h:Array Obj} {A:Nat→Prop} {m:Heap} {β:Place} {d:D} (hd:∀ c∈d.cells,c.num=true):RepV h A m β (.agg (d.cells.map .d)) (.agg (d.cells.map D.val).toArray):=by
 refine ⟨_,rfl,?_⟩
 simp only []
 generalize d.cells=cs at hd
 induction cs with
 | nil=>exact .nil
 | cons c cs ih =>
  refine .cons ?_ (ih fun x hx=>hd x (List.mem_cons_of_mem _ hx))
  have:=hd c (by simp)
  cases c <;> simp [D.num] at this
  · exact RepD.int _ _
  · exact RepD.bool _
theorem rep_num {h:Array Obj} {A:Nat→Prop} {c:D} {v:Value} (hc:c.num=true) (r:RepD h A c v):v=c.val:=by
 cases r <;> first | rfl | cases hc

theorem sort_cmp {call:Call} (hc:CallOK P call) {g:Nat} (eg:∀ args w,(callFunc g args).run P w=.ok (.enter g args) w) {x y:D} {r:Int} (nx:∀ c∈x.cells,c.num=true) (ny:∀ c∈y.cells,c.num=true)
 (h:call g [.agg (x.cells.map .d),.agg (y.cells.map .d)] []=some (.one (.d (.int .i64 r)),[])) (W:World) :
 Calls P g #[.agg (x.cells.map D.val).toArray,.agg (y.cells.map D.val).toArray] W fun e w'=>e=.returned (.int .i64 r)∧∃ q os',w'=grow (W.drewN q) os':=by
 have h0:MemOK (fun b=>b < W.heap.size) [] (fun _=>none) W.heap:=⟨fun s sl c=>by simp at c,fun s t sl tl b o o' c=>by simp [live] at c,fun b ⟨s,sl,o,c,_⟩=>by simp [live] at c,fun b c=>c⟩
 have H:=hc g _ [] _ [] h _ (fun _=>none) W [.agg (x.cells.map D.val).toArray,.agg (y.cells.map D.val).toArray] h0 (.cons (sort_rep nx) (.cons (sort_rep ny) .nil))
 rcases H with ⟨_,h2⟩ | ⟨u,w',h1,_⟩
 · refine (callsIn_wide (n:=0)).1 (CallsIn.mono (F:=Fence.wide) (show CallsIn Fence.wide 0 P g _ W _ from h2) fun e w' ⟨u,e1,β',_,E,hu⟩=>?_)
   have hu:RepD _ _ (.int .i64 r) u:=hu
   cases hu
   refine ⟨e1,w'.drawn - W.drawn,w'.heap.extract W.heap.size w'.heap.size,?_⟩
   have hh:w'.heap=W.heap++w'.heap.extract W.heap.size w'.heap.size:=by
    apply Array.ext_getElem?
    intro i
    rw [Array.getElem?_append]
    split
    · rename_i hi; exact E.fo i hi hi
    · rename_i hi
      rw [Array.getElem?_extract]
      have:=E.size
      by_cases c:i < w'.heap.size
      · rw [if_pos (by omega)]; congr 1; omega
      · rw [if_neg (by omega)]; simp; omega
   have h1:=E.os
   have ht:=E.tape
   have h3:=E.output.1
   have h4:=E.output.2
   generalize w'.heap.extract W.heap.size w'.heap.size=os' at hh
   clear e1 h0 hc h
   cases w'
   cases W
   simp only [] at h1 ht h3 h4 hh
   subst h1 ht h3 hh
   simp only [grow,World.drewN]
   congr 1
   omega
 · rw [eg] at h1; cases h1

variable {ρ:Go.Shelf.Ren}
theorem sort_ok (L:SlLaysF0.n6 P ρ) {n g:Nat} (hn:0 < n) (aE:∀ w,(isAgg (ρ.t 24)).run P w=.ok true w) (zE:∀ w,(Go.sizeOf (ρ.t 24)).run P w=.ok n w) (eg:∀ args w,(callFunc g args).run P w=.ok (.enter g args) w):ExtOk P (sortX n g) (ρ.f 6):=by
 intro call hc args m v m' h F β w us hm hr
 unfold sortX at h
 split at h
 case h_2=>cases h
 rename_i s off len f
 split at h
 case h_2=>cases h
 rename_i z xs hs
 split at h
 case isFalse=>cases h
 rename_i hq
 obtain ⟨hf,rfl,rfl,hsz,hz,ho⟩:=hq
 cases h
 match us,hr with
 | [u,uf],.cons r1 (.cons r2 .nil) =>
 have hu:uf=.func (.func g) #[] #[]:=by
  unfold isFn at hf
  split at hf
  · subst hf
    have r2:RepD _ _ (.fn _ []) uf:=r2
    cases r2 with
    | fn _ _ vs hl _=>have:vs=#[]:=Array.eq_empty_of_size_eq_zero (by simpa using hl); subst this; rfl
  · subst hf
    obtain ⟨vs,e,r⟩:=(r2:RepC _ _ _ _ (.fn _ []) uf)
    have:vs=#[]:=by have:=r.length; simp at this; exact Array.eq_empty_of_size_eq_zero this.symm
    subst this; exact e
  · exact hf.elim
 subst hu
 have enters:∀ args w,(callFunc (ρ.f 6) args).run P w=.ok (.enter (ρ.f 6) args) w:=L.f6.enters rfl
 have r1:RepOwn w.heap m β s 0 xs.length u:=r1
 unfold RepOwn at r1
 simp only [hs] at r1
 obtain ⟨_,r1⟩:=r1
 have fin:∀ {post:Ending→World→Prop} {post':Value→World→Prop},Calls P (ρ.f 6) #[u,.func (.func g) #[] #[]] w post→(∀ e w',post e w'→e=.returned (.tuple #[])∧post' (.tuple #[]) w')→CallTo P (ρ.f 6) #[u,.func (.func g) #[] #[]] w post':=fun hcall k =>
  .inl ⟨enters _ _,CallsIn.mono (F:=Fence.wide) ((callsIn_wide (n:=0)).2 hcall) fun e w' hp=>⟨_,(k e w' hp).1,(k e w' hp).2⟩⟩
 rcases r1 with ⟨h0,x,rfl⟩ | ⟨b,o,cap,N,hb,rfl,hcap,hN,hroom⟩
 · have:xs=[]:=List.eq_nil_of_length_eq_zero h0
   subst this
   refine fin (AnyF.slices_SortFunc_none L x 0 _ w) fun e w' ⟨e1,e2⟩=>⟨e1,β,?_⟩
   subst e2
   have hset:m.set s (.vals z (isort (leC call g) ([]:List D)))=m:=by
    simp only [isort]
    apply List.ext_getElem?
    intro t
    rw [List.getElem?_set]
    split
    · rename_i c; subst c; rw [if_pos (slot_lt hs),hs]
    · rfl
   rw [hset]
   exact ⟨hm,.refl _ _ _ _,⟨_,rfl,.nil⟩⟩
 by_cases hne:xs=[]
 · subst hne
   refine fin (AnyF.slices_SortFunc_none L _ cap _ w) fun e w' ⟨e1,e2⟩=>⟨e1,β,?_⟩
   subst e2
   have hset:m.set s (.vals z (isort (leC call g) ([]:List D)))=m:=by
    simp only [isort]
    apply List.ext_getElem?
    intro t
    rw [List.getElem?_set]
    split
    · rename_i c; subst c; rw [if_pos (slot_lt hs),hs]
    · rfl
   rw [hset]
   exact ⟨hm,.refl _ _ _ _,⟨_,rfl,.nil⟩⟩
 obtain ⟨x0,hx0⟩:=List.exists_mem_of_ne_nil xs hne
 obtain ⟨hz0,hall,hl⟩:=hm.slots s _ hs
 rw [hb] at hl
 obtain ⟨⟨cur,T,hcur⟩,hl⟩:=hl
 letI:Inhabited {d:D // d∈xs}:=⟨⟨x0,hx0⟩⟩
 let enc:{d:D // d∈xs}→List Value:=fun d=>d.1.cells.map D.val
 let cf:{d:D // d∈xs}→{d:D // d∈xs}→Int:=fun x y=>cfC call g x.1 y.1
 let d0:Array {d:D // d∈xs}:=xs.attach.toArray
 have hd0:d0.size=xs.length:=by simp [d0]
 have hk:∀ x,(enc x).length=n:=fun x=>by simp only [enc,List.length_map]; exact (ho.num _ x.2).1
 have h1:∀ x,∀ v∈enc x,v.oneCell'=true:=fun x v hv=>by
  simp only [enc,List.mem_map] at hv
  obtain ⟨c,hc,rfl⟩:=hv
  have:=(ho.num _ x.2).2 c hc
  cases c <;> first | rfl | cases this
 have hO:SWO (ltOf cf):=⟨fun x=>by simp only [ltOf,cf,decide_eq_false_iff_not]; exact ho.irr _ x.2,fun x y z=>by simp only [ltOf,cf,decide_eq_true_eq]; exact ho.tr _ x.2 _ y.2 _ z.2,fun x y z=>by simp only [ltOf,cf,decide_eq_false_iff_not]; exact ho.ntr _ x.2 _ y.2 _ z.2⟩
 have hT:∀ x y,(ltOf cf) x y=false→(ltOf cf) y x=false→x=y:=fun x y=>by simp only [ltOf,cf,decide_eq_false_iff_not]; exact fun h1 h2=>Subtype.ext (ho.tot _ x.2 _ y.2 h1 h2)
 have hcmp:CmpLays P g #[] enc n cf b o d0.size w:=fun q os dk _ x y=>by
  have:=sort_cmp hc eg (ho.num _ x.2).2 (ho.num _ y.2).2 (ho.eq _ x.2 _ y.2) (sortWorldK enc n w b o q dk os)
  simpa using this
 have hblk:b < w.heap.size:=(Array.getElem?_eq_some_iff.1 hcur).1
 have cells0:∀ i j (hi:i < xs.length) (hj:j < n),cellAt w.heap b (o+i*n+j)=some ((xs[i].cells.map D.val)[j]!):=fun i j hi hj=>by
  have hcl:=ho.num xs[i] (List.getElem_mem hi)
  have hj':j < xs[i].cells.length:=by rw [hcl.1]; exact hj
  obtain ⟨v,e1,e2⟩:=hl i j xs[i] _ (List.getElem?_eq_getElem hi) (List.getElem?_eq_getElem hj')
  rw [hz] at e1
  rw [e1,rep_num (hcl.2 _ (List.getElem_mem hj')) e2,getElem!_pos _ j (by simpa using hj')]
  simp
 have hH:HoldsK enc n w b o d0:=fun t ht=>by
  rw [size_flatK,hd0] at ht
  rw [get_flatK _ _ _ _ (by rw [hd0]; exact ht)]
  have hi:t / n < xs.length:=Nat.div_lt_of_lt_mul (by rw [Nat.mul_comm]; exact ht)
  have hj:t % n < n:=Nat.mod_lt _ hn
  have c:=cells0 (t / n) (t % n) hi hj
  rw [show o+t / n*n+t % n=o+t by rw [Nat.add_assoc,Nat.div_add_mod']] at c
  refine ⟨?_,?_⟩
  · have e:w.cell? ⟨b,o+t,none⟩=cellAt w.heap b (o+t):=by simp only [World.cell?,cellAt]; rfl
    rw [e,c]
    have:d0[t / n]! = ⟨xs[t / n],List.getElem_mem hi⟩:=by rw [getElem!_pos d0 _ (by rw [hd0]; exact hi)]; simp [d0]
    rw [this]
    rfl
  · simp only [World.frozen?,hcur]
    simp
 have hroom':o+0*z.cells.length=o:=by omega
 rw [hroom'] at hroom ⊢
 have key:=AnyQ.slices_SortFunc_total L n aE zE enc hk h1 cf hO g #[] b o cap d0 w eg hcmp hH hblk (by rw [hd0]; exact hsz) hT
 rw [hd0] at key
 rw [hroom'] at fin
 refine fin key fun e w' ⟨e1,q,os,e2⟩=>⟨e1,β,?_⟩
 obtain ⟨ys,hys⟩:∃ ys,ys=d0.toList.mergeSort fun x y=>!(ltOf cf) y x:=⟨_,rfl⟩
 rw [←hys] at e2
 have hmap:ys.map Subtype.val=isort (leC call g) xs:=by
  have e0:d0.toList=xs.attach:=by simp [d0]
  have le1:∀ a b,(!(ltOf cf) b a)=true↔(ltOf cf) b a=false:=fun a b=>by simp
  rw [hys,e0,isort_merge (le:=fun x y=>!(ltOf cf) y x) (fun a b c h1 h2=>(le1 _ _).2 (hO.ntrans _ _ _ ((le1 _ _).1 h2) ((le1 _ _).1 h1))) (fun a b=>?_) (fun a b h1 h2=>hT _ _ ((le1 _ _).1 h2) ((le1 _ _).1 h1)),isort_map (le':=leC call g) _ (fun a _ b _=>by simp only [ltOf,cf,leC]),List.attach_map_subtype_val]
  cases c1:ltOf cf b a
  · rfl
  · cases c2:ltOf cf a b
    · rfl
    · have:=hO.trans _ _ _ c1 c2
      rw [hO.irrefl] at this
      cases this
 have hlen:ys.length=xs.length:=by have:=congrArg List.length hmap; rw [(isort_perm _ xs).length_eq] at this; simpa using this
 have hH':HoldsK enc n w' b o ys.toArray:=by rw [e2]; exact holdsK_sortWorldK_c enc n w b o d0 ys.toArray q os hH hblk (by rw [hd0]; simpa using hlen)
 have hcell:∀ i (hi:i < xs.length) j,j < n→cellAt w'.heap b (o+i*n+j)=some (((isort (leC call g) xs).getD i z).cells.map D.val)[j]! := fun i hi j hj=>by
  have ht:i*n+j < ys.toArray.size*n:=by
   have:=Nat.mul_le_mul_right n (show i+1≤xs.length from hi)
   rw [Nat.add_mul,Nat.one_mul] at this
   simp only [List.size_toArray,hlen]; omega
  have c:=(hH' (i*n+j) (by rw [size_flatK]; exact ht)).1
  rw [get_flatK _ _ _ _ ht,Nat.mul_comm i n,Nat.mul_add_div hn,Nat.div_eq_of_lt hj,Nat.add_zero,Nat.mul_add_mod,Nat.mod_eq_of_lt hj,Nat.mul_comm n i,←Nat.add_assoc] at c
  have e:w'.cell? ⟨b,o+i*n+j,none⟩=cellAt w'.heap b (o+i*n+j):=by simp only [World.cell?,cellAt]; rfl
  rw [e] at c
  rw [c,←hmap]
  have hi':i < ys.length:=by omega
  rw [getElem!_pos ys.toArray i (by simpa using hi')]
  simp only [List.getElem_toArray,List.getD_eq_getElem?_getD,List.getElem?_map,List.getElem?_eq_getElem hi',Option.map_some,Option.getD_some]
  rfl
 have other:∀ b',b'≠b→b' < w.heap.size→w'.heap[b']?=w.heap[b']?:=fun b' hne hlt=>by
  rw [e2]
  simp only [sortWorldK,grow,putRowK,putRow,mapBlock,Sort.ahead]
  rw [Array.getElem?_append_left (by simpa using hlt),Array.getElem?_modify,if_neg (fun c=>hne c.symm)]
 have mine:∃ c',w'.heap[b]?=some (.cells c' T (0,0))∧c'.size=cur.size:=by
  rw [e2]
  simp only [sortWorldK,grow,putRowK,putRow,mapBlock,Sort.ahead]
  rw [Array.getElem?_append_left (by simpa using hblk),Array.getElem?_modify,if_pos rfl,hcur]
  exact ⟨_,rfl,by simp [putCells]⟩
 obtain ⟨c',hc',hcs⟩:=mine
 have hO:Owned m β b:=.mk hs (by simp) hb
 have hbs:blkSize w'.heap b=blkSize w.heap b:=by simp only [blkSize,hc',hcur,hcs]
 have hsize:w.heap.size≤w'.heap.size:=by rw [e2]; exact size_sortWorldK_c enc n w b o q ys.toArray os
 have E:Evo F m β w (m.set s (.vals z (isort (leC call g) xs))) β w':=by
  refine Evo.make hm (B:=fun b'=>b'=b∨w.heap.size≤b') (by rw [e2]; rfl) (by rw [e2]; rfl) (by rw [e2]; exact ⟨rfl,Nat.le_add_right _ _⟩) hsize (fun b' (e:b'=b∨w.heap.size≤b')=>e.imp (fun e:b'=b=>e ▸ hO) id) (fun b' hne=>other b' (fun c=>hne (.inl c)) (by have:=fun c=>hne (.inr c); omega))
   (fun b' h=>.inl (owned_set (by trivial) hs (by simp) h)) ?_
  refine like_set hs (by simp [Slot.like,(isort_perm _ xs).length_eq]) fun t b' o' sl h1 h2 h3=>?_
  by_cases c:b'=b
  · rw [c]; exact hbs
  · exact blkSize_congr (other b' c (hm.blkK (live_s.trans h1) h2 h3))
 refine ⟨hm.make E (inj_set hm (by trivial) hs (by simp)) fun t sl ht=>?_,E,⟨_,rfl,.nil⟩⟩
 by_cases c:s=t
 · subst c
   rw [List.getElem?_set_self (slot_lt hs)] at ht
   cases ht
   right
   have mem:∀ d,d∈isort (leC call g) xs→d∈xs:=fun d hd=>(isort_perm _ xs).mem_iff.1 hd
   refine ⟨hz0,fun d hd=>hall d (mem d hd),?_⟩
   rw [hb]
   refine ⟨⟨_,_,hc'⟩,fun i j d e hd he=>?_⟩
   have hdx:=mem d (List.mem_of_getElem? hd)
   have hi:i < xs.length:=by have:=(List.getElem?_eq_some_iff.1 hd).1; rwa [(isort_perm _ xs).length_eq] at this
   have hj:j < n:=by have:=(List.getElem?_eq_some_iff.1 he).1; rw [(ho.num d hdx).1] at this; exact this
   refine ⟨_,by rw [hz]; exact hcell i hi j hj,?_⟩
   rw [List.getD_eq_getElem?_getD,hd,Option.getD_some]
   have hj':j < d.cells.length:=(List.getElem?_eq_some_iff.1 he).1
   rw [getElem!_pos _ j (by simpa using hj'),List.getElem_map]
   obtain ⟨_,he'⟩:=List.getElem?_eq_some_iff.1 he
   rw [he']
   have:=(ho.num d hdx).2 e (List.mem_of_getElem? he)
   cases e <;> simp [D.num] at this
   · exact RepD.int _ _
   · exact RepD.bool _
 · rw [List.getElem?_set_ne c] at ht
   exact .inl ⟨ht,fun _=>rfl,fun k x b' o' h1 h2 h3 h4=>other b' (fun c'=>by
    subst c'
    have:=hm.injK k s x _ b' o' o h2 h3 (live_s.trans hs) (by simp) h4 hb
    rw [this] at h1
    exact c h1) (hm.blkK h2 h3 h4)⟩
end
section
def ordT {α:Type} (cmp:α→α→Option Int) (x y:α):Bool:=match cmp x y with
 | some r=>decide (r < 0)
 | none=>false
def sortT {α:Type} [BEq α] (cmp:α→α→Option Int) (len:Nat) (xs:List α):Option (List α) :=
 if len=xs.length∧len < 4611686018427387904∧(xs.all fun x=>!ordT cmp x x && xs.all fun y=>(cmp x y).isSome && (ordT cmp x y || ordT cmp y x || x == y) && xs.all fun z=>(!(ordT cmp x y && ordT cmp y z) || ordT cmp x z) && (ordT cmp x y || ordT cmp y z || !ordT cmp x z))=true then
  some (isort (fun x y=>!ordT cmp y x) xs) else none
theorem sortT_ok {X:Nat→Option MFn} {α:Type} [BEq α] [LawfulBEq α] {f g n k:Nat} (hX:X f=some ⟨0,0,[],[],.ext (sortX n g)⟩) {enc:α→D} {z:D} {cmp:α→α→Option Int} {fv:V} {len:Nat} {xs ys:List α} (hf:isFn g fv) (hz:z.cells.length=n)
 (hn:∀ x,(enc x).cells.length=n∧∀ c∈(enc x).cells,c.num=true) (hc:∀ x y r,cmp x y=some r→evF X k g [.agg ((enc x).cells.map .d),.agg ((enc y).cells.map .d)] []=some (.one (.d (.int .i64 r)),[]))
 (H:sortT cmp len xs=some ys):evF X (k+1) f [.one (.own 0 0 len),fv] [.vals z (xs.map enc)]=some (.tup [],[.vals z (ys.map enc)]):=by
 unfold sortT at H
 split at H
 case isFalse=>cases H
 rename_i h
 obtain ⟨rfl,h2,h3⟩:=h
 cases H
 simp only [List.all_eq_true,Bool.and_eq_true,Bool.or_eq_true,Bool.not_eq_true',Option.isSome_iff_exists,beq_iff_eq] at h3
 have cfe:∀ x y r,cmp x y=some r→cfC (evF X k) g (enc x) (enc y)=r:=fun x y r h=>by unfold cfC; rw [hc x y r h]
 have ord:∀ x y,x∈xs→y∈xs→(ordT cmp x y=true↔cfC (evF X k) g (enc x) (enc y) < 0):=fun x y hx hy=>by
  obtain ⟨r,hr⟩:=((h3 x hx).2 y hy).1.1
  rw [cfe x y r hr]
  simp only [ordT,hr,decide_eq_true_eq]
 have nord:∀ x y,x∈xs→y∈xs→(ordT cmp x y=false↔¬cfC (evF X k) g (enc x) (enc y) < 0):=fun x y hx hy=>by
  rw [←ord x y hx hy]; simp
 have ok:SortOK (evF X k) g n (xs.map enc):=by
  refine ⟨fun d hd=>?_,fun d hd e he=>?_,fun d hd=>?_,fun d hd e he f hf=>?_,fun d hd e he f hf=>?_,fun d hd e he=>?_⟩
  · obtain ⟨x,_,rfl⟩:=List.mem_map.1 hd; exact hn x
  · obtain ⟨x,hx,rfl⟩:=List.mem_map.1 hd
    obtain ⟨y,hy,rfl⟩:=List.mem_map.1 he
    obtain ⟨r,hr⟩:=((h3 x hx).2 y hy).1.1
    rw [cfe x y r hr]
    exact hc x y r hr
  · obtain ⟨x,hx,rfl⟩:=List.mem_map.1 hd
    exact (nord x x hx hx).1 (h3 x hx).1
  · obtain ⟨x,hx,rfl⟩:=List.mem_map.1 hd
    obtain ⟨y,hy,rfl⟩:=List.mem_map.1 he
    obtain ⟨w,hw,rfl⟩:=List.mem_map.1 hf
    intro a b
    have:=(((h3 x hx).2 y hy).2 w hw).1
    rw [←ord _ _ hx hy] at a
    rw [←ord _ _ hy hw] at b
    rw [←ord _ _ hx hw]
    simpa [a,b] using this
  · obtain ⟨x,hx,rfl⟩:=List.mem_map.1 hd
    obtain ⟨y,hy,rfl⟩:=List.mem_map.1 he
    obtain ⟨w,hw,rfl⟩:=List.mem_map.1 hf
    intro a b
    have:=(((h3 x hx).2 y hy).2 w hw).2
    rw [←nord _ _ hx hy] at a
    rw [←nord _ _ hy hw] at b
    rw [←nord _ _ hx hw]
    simpa [a,b] using this
  · obtain ⟨x,hx,rfl⟩:=List.mem_map.1 hd
    obtain ⟨y,hy,rfl⟩:=List.mem_map.1 he
    intro a b
    have:=((h3 x hx).2 y hy).1.2
    rw [←nord _ _ hx hy] at a
    rw [←nord _ _ hy hx] at b
    rcases this with (c | c) | c
    · rw [a] at c; cases c
    · rw [b] at c; cases c
    · rw [c]
 have e0:evF X (k+1) f [.one (.own 0 0 xs.length),fv] [.vals z (xs.map enc)]=sortX n g (evF X k) [.one (.own 0 0 xs.length),fv] [.vals z (xs.map enc)]:=by
  simp only [evF,hX,Option.bind_some]
  rw [if_pos (by rfl)]
  rfl
 rw [e0]
 unfold sortX
 simp only [List.getElem?_cons_zero]
 rw [if_pos ⟨hf,rfl,by simp,h2,hz,ok⟩]
 simp only [List.set_cons_zero]
 rw [isort_map (le':=leC (evF X k) g) _ fun a ha b hb=>by
  by_cases c:cfC (evF X k) g (enc b) (enc a) < 0
  · rw [(ord b a hb ha).2 c]; simp [leC,c]
  · rw [(nord b a hb ha).2 c]; simp [leC,c]]
end
theorem row_sort {P:Program} {ρ:Go.Shelf.Ren} {n g:Nat} (L:SlLaysF0.n6 P ρ) (hn:0 < n) (aE:∀ w,(isAgg (ρ.t 24)).run P w=.ok true w) (zE:∀ w,(Go.sizeOf (ρ.t 24)).run P w=.ok n w) (eg:∀ args w,(callFunc g args).run P w=.ok (.enter g args) w) :
 RowOk P (ρ.f 6,⟨0,0,[],[],.ext (sortX n g)⟩):=.inr ⟨rfl,sort_ok L hn aE zE eg⟩
end

end Go.Proofs.YtkeddnagijjbaaaGreat
