/- Part 2 of 4 of the theory that this claim's proof uses: functions of the program as terms of a small language, what these compute, and that the program's functions answer so.
 There are no conditions beyond those that the theorems name. -/
import Derived.Test.YtkeddnagijjbaaaGreatX1
set_option linter.unusedVariables false
set_option linter.unusedSimpArgs false
namespace Go.Proofs.YtkeddnagijjbaaaGreat
open Go
section
variable {P:Program} {F:Nat→Prop} {β:Place} {w:World} {σ:St} {a:Act}

theorem Rep_elems {h:Array Obj} {A:Nat→Prop} {len:Nat} (k:EnvOK h A σ.mem β σ.env a):∀ {ps:List (Nat × Operand)} {qs:List (Nat × Arg)},elemsAt len ps=some qs →
 All2 (fun (p:Nat × V) (q:Nat × Value)=>p.1=q.1∧p.1 < len∧RepV h A σ.mem β p.2 q.2) (qs.map fun p=>(p.1,σ.arg p.2)) (ps.map fun p=>(p.1,a.eval p.2))
 | [],qs,e=>by simp only [elemsAt] at e; cases e; exact .nil
 | (i,x)::r,qs,e=>by
  simp only [elemsAt] at e
  split at e
  · rename_i hi
    obtain ⟨y,h1,e⟩:=bind_some' e
    obtain ⟨ys,h2,e⟩:=bind_some' e
    cases e
    exact .cons ⟨rfl,hi,Rep_arg k h1⟩ (Rep_elems k h2)
  · cases e

theorem zeros_row {h:Array Obj} {A:Nat→Prop} {z:D} {zv:Value} {n:Nat} (hz:0 < z.cells.length) (z2:zv.cells.size=z.cells.length) (z3:∀ (j:Nat) (e:D),z.cells[j]?=some e→∃ v,zv.cells[j]?=some v∧∀ h A,RepD h A e v) :
 RowRep h A (List.replicate n z) ((Array.range (n*z.cells.length)).map fun k=>zv.cells[k % zv.cells.size]!).toList:=by
 refine RowRep.of_get hz (fun d hd=>by rw [List.eq_of_mem_replicate hd]) (by simp) fun i j d e v hd he hv=>?_
 obtain ⟨hi,rfl⟩:=rep_get hd
 have hj:=(List.getElem?_eq_some_iff.1 he).1
 obtain ⟨u,hu,hr⟩:=z3 j e he
 have hv':((Array.range (n*d.cells.length)).map fun k=>zv.cells[k % zv.cells.size]!)[i*d.cells.length+j]?=some v:=by rw [←Array.getElem?_toList]; exact hv
 rw [zeros_get z2 hz hi hj,hu] at hv'
 cases hv'
 exact hr _ _

theorem do_lit {T e:TypeId} {z:Nat × Nat × D} {data:Bool} {len:Nat} {ps:Array (Nat × Operand)} {qs:List (Nat × Arg)} {call:Call} {v:V} {m':Heap} (hm:MemOK F σ.mem β w.heap)
 (k:EnvOK w.heap (Avail F σ.mem β w.heap) σ.mem β σ.env a) (hT:P.underlying T=some (.slice e)) (hz:elT P e=some z) (hlen:len*z.1≤2 ^ 24) (ep:elemsAt len ps.toList=some qs)
 (h:evO call σ (.lit data z.2.2 len qs)=some (v,m')) (o:Oper) (ho:o.op=.buildSlice T len ps):Does P F σ.mem β w (execOp a.eval o) v m':=by
 obtain ⟨ti,hti,hzd,e1,e2,e3,e4,e5⟩:=elT_some hz
 obtain ⟨zv,z1,z2,z3⟩:=zD_rep hzd
 have hz0:0 < z.2.2.cells.length:=by omega
 have row:=zeros_row (h:=w.heap) (A:=Avail F σ.mem β w.heap) (n:=len) hz0 z2 z3
 have hr:=Rep_elems (len:=len) k ep
 have hp:∀ i,i < len→(fun i=>some (i*ti.size,ti.size)) i=some (i*z.2.2.cells.length,z.2.2.cells.length):=fun i _=>by rw [e3]
 rw [e3] at row
 have fin:∀ cs',Instr.fill (fun i=>some (i*ti.size,ti.size)) ((Array.range (len*ti.size)).map fun k=>zv.cells[k % zv.cells.size]!) (ps.toList.map fun p=>(p.1,a.eval p.2))=some cs' →
  (execOp a.eval o).run P w=.ok (.value (.slice (some ⟨w.heap.size,0,none⟩) len len)) { w with heap:=w.heap.push (.cells cs' e) }:=by
  intro cs' hf
  have hl:¬(len*ti.size > 2 ^ 24):=by rw [←e1]; omega
  have ef:(ps.map fun (i,x)=>(i,a.eval x)).toList=ps.toList.map fun p=>(p.1,a.eval p.2):=by simp
  simp only [execOp,ho,Instr.buildSlice,Sem.run_bind,run_underlying hT,Result.andThen_ok,run_size hti,if_neg hl]
  rw [ef]
  by_cases c0:len*ti.size=0
  · rw [c0] at hf
    have r0:Array.range 0=#[]:=rfl
    simp only [c0,r0,Array.map_empty] at hf ⊢
    simp [hf,newRow]
  · simp only [if_neg c0,Sem.run_bind,run_zVal z1,Result.andThen_ok,Sem.run_pure,hf]
    simp [newRow]
 cases data with
 | true =>
  simp only [evO,if_true] at h
  obtain ⟨xs,hx,h⟩:=bind_some' h
  cases h
  obtain ⟨cs',g1,g2,g3,g6⟩:=litPartsD_ok hz0 hp _ _ _ _ _ hr (by simp) (fun d hd=>by rw [List.eq_of_mem_replicate hd]) row hx
  have E:Evo F σ.mem β w σ.mem β { w with heap:=w.heap.push (.cells cs' e) }:=by
   refine Evo.make hm (B:=fun b=>b=w.heap.size) rfl rfl ⟨rfl,Nat.le_refl _⟩ (by simp) (fun b hb=>.inr (by omega)) (fun b hb=>?_) (fun b hb=>.inl hb) fun s sl hs=>⟨sl,hs,?_⟩
   · show (w.heap.push _)[b]?=_
     rw [Array.getElem?_push,if_neg (by omega)]
   · by_cases hd:sl=.dead
     · exact .inl hd
     · refine .inr ⟨Slot.like.refl _,rfl,fun b p hb=>?_⟩
       have:=hm.blk_lt hs hd hb
       exact blkSize_congr (by show (w.heap.push _)[b]?=_; rw [Array.getElem?_push,if_neg (by omega)])
  refine ⟨_,_,β,.inl (fin cs' g1),hm.make E hm.injK (fun s sl hs=>.inl ⟨hs,fun _=>rfl,fun k x b p hk hx hd hb=>?_⟩),E,?_⟩
  · have:=hm.blkK hx hd hb
    show (w.heap.push _)[b]?=_
    rw [Array.getElem?_push,if_neg (by omega)]
  · show RepD _ _ (.list xs) _
    have row2:=g6.mono E.av
    have hA:Avail F σ.mem β (w.heap.push (.cells cs' e)) w.heap.size:=by
     refine ⟨by simp,fun hf=>by have:=hm.fl _ hf; omega,?_⟩
     rintro ⟨s,sl,p,h1,h2,h3⟩
     have:=hm.blkK h1 h2 h3
     omega
    have ex:∀ i j,i < xs.length→j < ti.size→∃ u,cellAt (w.heap.push (.cells cs' e)) w.heap.size (0+i*ti.size+j)=some u∧∀ d x,xs[i]?=some d→d.cells[j]?=some x→RepD (w.heap.push (.cells cs' e)) (Avail F σ.mem β (w.heap.push (.cells cs' e))) x u:=by
     intro i j hi hj
     have hd:xs[i]?=some xs[i]:=List.getElem?_eq_getElem hi
     have hcl:=g3 _ (List.getElem_mem hi)
     obtain ⟨u,hu,hr'⟩:=RowRep.get hz0 g3 row2 hd (List.getElem?_eq_getElem (by omega:j < xs[i].cells.length))
     refine ⟨u,by rw [Nat.zero_add,cell_push,←hu,e3]; simp,fun d x hd' hx'=>?_⟩
     rw [hd] at hd'
     cases hd'
     rw [List.getElem?_eq_getElem (by omega:j < xs[i].cells.length)] at hx'
     cases hx'
     exact hr'
    obtain ⟨u,hu⟩:∃ u:Nat→Nat→Value,∀ i j,i < xs.length→j < ti.size→cellAt (w.heap.push (.cells cs' e)) w.heap.size (0+i*ti.size+j)=some (u i j)∧∀ d x,xs[i]?=some d→d.cells[j]?=some x→RepD (w.heap.push (.cells cs' e)) (Avail F σ.mem β (w.heap.push (.cells cs' e))) x (u i j):=by
     refine ⟨fun i j=>if h:i < xs.length∧j < ti.size then Classical.choose (ex i j h.1 h.2) else undef,fun i j hi hj=>?_⟩
     simp only [hi,hj,and_self,dite_true]
     exact Classical.choose_spec (ex i j hi hj)
    have key:=RepD.list (h:=w.heap.push (.cells cs' e)) (A:=Avail F σ.mem β (w.heap.push (.cells cs' e))) xs w.heap.size 0 ti.size len u hA e4
     (fun i d hd=>by rw [←e3]; exact g3 d (List.mem_of_getElem? hd)) (fun i j hi hj=>(hu i j hi hj).1)
     (fun i j d x hd hx'=>(hu i j (List.getElem?_eq_some_iff.1 hd).1 (by rw [←e3,←g3 d (List.mem_of_getElem? hd)]; exact (List.getElem?_eq_some_iff.1 hx').1)).2 d x hd hx') (by omega)
    rw [g2] at key
    exact key
 | false =>
  simp only [evO,Bool.false_eq_true,if_false] at h
  obtain ⟨y,hy,h⟩:=bind_some' h
  cases h
  obtain ⟨xs,m1⟩:=y
  obtain ⟨cs',g1,g2,g3,g4,g5,g6⟩:=litParts_ok hz0 hp _ _ _ _ _ _ _ hr hm (by simp) (fun d hd=>by rw [List.eq_of_mem_replicate hd]) row hy
  obtain ⟨k1,k2,k3⟩:=new_vals g4 (T:=e) (z:=z.2.2) (xs:=xs) (vs:=cs') hz0 g3 (fun i j d x hd hx=>by
   obtain ⟨v,hv,hr'⟩:=RowRep.get hz0 g3 g6 hd hx
   exact ⟨v,by rw [←hv]; simp,hr'⟩)
  refine ⟨_,_,_,.inl (fin cs' g1),k1,g5.trans (evo_push g4 _ _ trivial),k3 len len (by omega) (Nat.le_refl _) ?_⟩
  rw [←Array.length_toList,RowRep.len g6 g3,g2]
  exact Nat.le_refl _

theorem eqV0_eq {a b:Value} (h:eqV0 a b=true):a=b:=by
 unfold eqV0 at h
 split at h <;> simp_all
theorem eqVs_eq:∀ {as bs:List Value},eqVs as bs=true→as=bs
 | [],[],_=>rfl
 | a::as,b::bs,h=>by
  simp only [eqVs,Bool.and_eq_true] at h
  rw [eqV0_eq h.1,eqVs_eq h.2]
 | [],_::_,h=>by simp [eqVs] at h
 | _::_,[],h=>by simp [eqVs] at h

theorem do_allocA {T e:TypeId} {n:Nat} {x:Nat × Nat × D} {zT ze:Value} {call:Call} {v:V} {m':Heap} (hm:MemOK F σ.mem β w.heap)
 (hx:elT P e=some x) (h1:zVal P T=some zT) (h2:zVal P e=some ze) (h3:eqVs zT.cells.toList (List.replicate n ze.cells.toList).flatten=true) (hn:n≠0)
 (h:evO call σ (.allocA x.2.2 n)=some (v,m')) (o:Oper) (ho:o.op=.alloc T):Does P F σ.mem β w (execOp a.eval o) v m':=by
 obtain ⟨ti,hti,hzd,e1,e2,e3,e4,e5⟩:=elT_some hx
 obtain ⟨zv,z1,z2,z3⟩:=zD_rep hzd
 rw [h2] at z1
 cases z1
 have hz0:0 < x.2.2.cells.length:=by omega
 simp only [evO] at h
 cases h
 have hcells:=eqVs_eq h3
 obtain ⟨k1,k2,k3⟩:=new_vals hm (T:=T) (z:=x.2.2) (xs:=List.replicate n x.2.2) (vs:=zT.cells) hz0 (fun d hd=>by rw [List.eq_of_mem_replicate hd]) (fun i j d y hd hy=>by
  obtain ⟨hi,rfl⟩:=rep_get hd
  obtain ⟨v,hv,hr⟩:=z3 j y hy
  refine ⟨v,?_,hr _ _⟩
  rw [←Array.getElem?_toList,hcells]
  have hj:=(List.getElem?_eq_some_iff.1 hy).1
  have key:∀ (n i:Nat),i < n→(List.replicate n ze.cells.toList).flatten[i*x.2.2.cells.length+j]?=ze.cells.toList[j]?:=by
   intro n
   induction n with
   | zero=>intro i hi; omega
   | succ n ih =>
    intro i hi
    rw [List.replicate_succ,List.flatten_cons]
    cases i with
    | zero=>rw [Nat.zero_mul,Nat.zero_add,List.getElem?_append_left (by simp; omega)]
    | succ i =>
     rw [List.getElem?_append_right (by simp [z2,Nat.add_mul]; omega),←ih i (by omega)]
     congr 1
     simp [z2,Nat.add_mul]
     omega
  rw [key n i hi]
  simpa using hv)
 refine ⟨_,_,_,.inl ?_,k1,evo_push hm _ _ trivial,k2 (by simp; omega)⟩
 simp only [execOp,ho,Instr.alloc,Sem.run_bind,run_zVal h1,Result.andThen_ok,run_newVar,Sem.run_pure]

theorem do_allocF {T:TypeId} {n:Nat} {zT:Value} {call:Call} {v:V} {m':Heap} (hm:MemOK F σ.mem β w.heap)
 (h1:zVal P T=some zT) (h3:eqVs zT.cells.toList (List.replicate n (.int .i64 0))=true) (hn:n≠0)
 (h:evO call σ (.allocA (.int .i64 0) n)=some (v,m')) (o:Oper) (ho:o.op=.alloc T):Does P F σ.mem β w (execOp a.eval o) v m':=by
 simp only [evO] at h
 cases h
 have hcells:=eqVs_eq h3
 obtain ⟨k1,k2,k3⟩:=new_vals hm (T:=T) (z:=.int .i64 0) (xs:=List.replicate n (.int .i64 0)) (vs:=zT.cells) (by simp [D.cells]) (fun d hd=>by rw [List.eq_of_mem_replicate hd]) (fun i j d y hd hy=>by
  obtain ⟨hi,rfl⟩:=rep_get hd
  have hj:=(List.getElem?_eq_some_iff.1 hy).1
  simp [D.cells] at hj
  subst hj
  simp [D.cells] at hy
  subst hy
  refine ⟨.int .i64 0,?_,.int _ _⟩
  rw [←Array.getElem?_toList,hcells]
  simp [D.cells,hi])
 refine ⟨_,_,_,.inl ?_,k1,evo_push hm _ _ trivial,k2 (by simp; omega)⟩
 simp only [execOp,ho,Instr.alloc,Sem.run_bind,run_zVal h1,Result.andThen_ok,run_newVar,Sem.run_pure]

theorem bld_ok {h:Array Obj} {A:Nat→Prop} {m:Heap} {place:Nat→Option (Nat × Nat)} :
 ∀ (parts:List (Nat × Nat × V)) (vparts:List (Nat × Value)) (cs cs':List C) (vs:Array Value),
  All2 (fun (p:Nat × Nat × V) (q:Nat × Value)=>place q.1=some (p.1,p.2.1)∧RepV h A m β p.2.2 q.2) parts vparts→All2 (RepC h A m β) cs vs.toList→bldParts cs parts=some cs' →
  ∃ vs',Instr.fill place vs vparts=some vs'∧All2 (RepC h A m β) cs' vs'.toList:=by
 intro parts
 induction parts with
 | nil=>intro vparts cs cs' vs hr r e; cases hr; simp only [bldParts] at e; cases e; exact ⟨vs,rfl,r⟩
 | cons p parts ih =>
  intro vparts cs cs' vs hr r e
  obtain ⟨off,n,v⟩:=p
  cases hr with
  | @cons _ q _ qs h1 t =>
   obtain ⟨i,u⟩:=q
   obtain ⟨hp,rv⟩:=h1
   simp only [bldParts] at e
   obtain ⟨x,hx,e1⟩:=bind_some' e
   clear e
   have e:=e1
   clear e1
   split at e
   · rename_i hc
     obtain ⟨rfl,hfit⟩:=hc
     have rx:=Rep_cs rv hx
     have ul:u.cells.size=x.length:=by rw [←Array.length_toList,←rx.length]
     have vl:vs.size=cs.length:=by rw [←Array.length_toList,←r.length]
     obtain ⟨vs',g1,g2⟩:=ih qs (splice cs off x) cs' (splice vs.toList off u.cells.toList).toArray t (by
      refine All2.of_get (by simp only []; rw [splice_len hfit,splice_len (by simp; omega)]; simpa using vl.symm) fun i c v hc hv=>?_
      simp only [] at hv
      rw [splice_get hfit] at hc
      rw [splice_get (by simp; omega)] at hv
      by_cases c1:i < off
      · rw [if_pos c1] at hc hv
        obtain ⟨v',g1,g2⟩:=r.get hc
        rw [hv] at g1; cases g1; exact g2
      · rw [if_neg c1] at hc hv
        by_cases c2:i < off+x.length
        · rw [if_pos c2] at hc
          rw [if_pos (by simp; omega)] at hv
          obtain ⟨v',g1,g2⟩:=rx.get hc
          rw [hv] at g1; cases g1; exact g2
        · rw [if_neg c2] at hc
          rw [if_neg (by simp; omega)] at hv
          obtain ⟨v',g1,g2⟩:=r.get hc
          rw [hv] at g1; cases g1; exact g2) e
     refine ⟨vs',?_,g2⟩
     simp only [Instr.fill,hp]
     rw [if_neg (by simp [ul]; omega),fill_one _ _ _ (by omega)]
     exact g1
   · cases e

theorem run_mapM_places (fs:List Field) (h:fs.all (fun f=>(szT P f.type).isSome)=true):(fs.mapM fun f=>do pure (f.offset,←sizeOf f.type):Sem (List (Nat × Nat))).run P w=.ok (fs.map fun f=>(f.offset,(szT P f.type).getD 0)) w:=by
 induction fs with
 | nil=>rfl
 | cons f r ih =>
  simp only [List.all_cons,Bool.and_eq_true] at h
  obtain ⟨n,hn⟩:=Option.isSome_iff_exists.1 h.1
  rw [List.mapM_cons]
  simp only [Sem.run_bind,run_szT hn,Result.andThen_ok,Sem.run_pure,ih h.2,List.map_cons,hn,Option.getD_some]

theorem do_build_struct {T:TypeId} {fs:Array Field} {ps:Array (Nat × Operand)} {z:List C} {qs:List (Nat × Nat × Arg)} {call:Call} {v:V} {m':Heap} (hm:MemOK F σ.mem β w.heap)
 (k:EnvOK w.heap (Avail F σ.mem β w.heap) σ.mem β σ.env a) (hT:P.underlying T=some (.struct fs)) (hz:zC P T=some z) (hfs:fs.toList.all (fun f=>(szT P f.type).isSome)=true)
 (ep:fieldsAt P fs ps.toList=some qs) (h:evO call σ (.build z qs)=some (v,m')) (o:Oper) (ho:o.op=.build T ps):Does P F σ.mem β w (execOp a.eval o) v m':=by
 unfold zC at hz
 obtain ⟨zv,hz1,hz2⟩:=bind_some' hz
 simp only [evO] at h
 obtain ⟨cs,hc,h⟩:=bind_some' h
 cases h
 have key:∀ (ps:List (Nat × Operand)) (qs:List (Nat × Nat × Arg)),fieldsAt P fs ps=some qs →
  All2 (fun (p:Nat × Nat × V) (q:Nat × Value)=>(fs.toList.map fun f=>(f.offset,(szT P f.type).getD 0)).toArray[q.1]?=some (p.1,p.2.1)∧RepV w.heap (Avail F σ.mem β w.heap) σ.mem β p.2.2 q.2)
   (qs.map fun p=>(p.1,p.2.1,σ.arg p.2.2)) (ps.map fun p=>(p.1,a.eval p.2)):=by
  intro ps
  induction ps with
  | nil=>intro qs e; simp only [fieldsAt] at e; cases e; exact .nil
  | cons p ps ih =>
   intro qs e
   obtain ⟨i,x⟩:=p
   simp only [fieldsAt] at e
   obtain ⟨f,h1,e⟩:=bind_some' e
   obtain ⟨n,h2,e⟩:=bind_some' e
   obtain ⟨y,h3,e⟩:=bind_some' e
   obtain ⟨ys,h4,e⟩:=bind_some' e
   cases e
   refine .cons ⟨?_,Rep_arg k h3⟩ (ih _ h4)
   simp only [List.getElem?_toArray,List.getElem?_map]
   rw [Array.getElem?_toList,h1]
   simp [h2]
 obtain ⟨vs',g1,g2⟩:=bld_ok _ _ _ _ zv.cells (key _ _ ep) (RepCs_const hz2) hc
 refine .same (u:=.agg vs') hm ?_ ⟨vs',rfl,g2⟩
 have ef:(ps.map fun (i,x)=>(i,a.eval x)).toList=ps.toList.map fun p=>(p.1,a.eval p.2):=by simp
 have hmm:=run_mapM_places (P:=P) (w:=w) fs.toList hfs
 have hma:(fs.mapM fun f=>do pure (f.offset,←sizeOf f.type):Sem (Array (Nat × Nat))).run P w=.ok (fs.toList.map fun f=>(f.offset,(szT P f.type).getD 0)).toArray w:=by
  rw [Array.mapM_eq_mapM_toList]
  simp only [Sem.run_map,hmm,Result.andThen_ok]
 simp only [execOp,ho,Instr.build,Sem.run_bind,run_zVal hz1,Result.andThen_ok,run_underlying hT,hma,ef,g1,Sem.run_pure]
theorem do_build_array {T e:TypeId} {n s:Nat} {ps:Array (Nat × Operand)} {z:List C} {qs:List (Nat × Nat × Arg)} {call:Call} {v:V} {m':Heap} (hm:MemOK F σ.mem β w.heap)
 (k:EnvOK w.heap (Avail F σ.mem β w.heap) σ.mem β σ.env a) (hT:P.underlying T=some (.array n e)) (hz:zC P T=some z) (hs:szT P e=some s)
 (ep:arrAt n s ps.toList=some qs) (h:evO call σ (.build z qs)=some (v,m')) (o:Oper) (ho:o.op=.build T ps):Does P F σ.mem β w (execOp a.eval o) v m':=by
 unfold zC at hz
 obtain ⟨zv,hz1,hz2⟩:=bind_some' hz
 simp only [evO] at h
 obtain ⟨cs,hc,h⟩:=bind_some' h
 cases h
 have key:∀ (ps:List (Nat × Operand)) (qs:List (Nat × Nat × Arg)),arrAt n s ps=some qs →
  All2 (fun (p:Nat × Nat × V) (q:Nat × Value)=>(fun i=>some (i*s,s)) q.1=some (p.1,p.2.1)∧RepV w.heap (Avail F σ.mem β w.heap) σ.mem β p.2.2 q.2)
   (qs.map fun p=>(p.1,p.2.1,σ.arg p.2.2)) (ps.map fun p=>(p.1,a.eval p.2)):=by
  intro ps
  induction ps with
  | nil=>intro qs e; simp only [arrAt] at e; cases e; exact .nil
  | cons p ps ih =>
   intro qs e
   obtain ⟨i,x⟩:=p
   simp only [arrAt] at e
   split at e
   · obtain ⟨y,h3,e⟩:=bind_some' e
     obtain ⟨ys,h4,e⟩:=bind_some' e
     cases e
     exact .cons ⟨rfl,Rep_arg k h3⟩ (ih _ h4)
   · cases e
 obtain ⟨vs',g1,g2⟩:=bld_ok (place:=fun i=>some (i*s,s)) _ _ _ _ zv.cells (key _ _ ep) (RepCs_const hz2) hc
 refine .same (u:=.agg vs') hm ?_ ⟨vs',rfl,g2⟩
 have ef:(ps.map fun (i,x)=>(i,a.eval x)).toList=ps.toList.map fun p=>(p.1,a.eval p.2):=by simp
 simp only [execOp,ho,Instr.build,Sem.run_bind,run_zVal hz1,Result.andThen_ok,run_underlying hT,run_szT hs,ef,g1,Sem.run_pure]

theorem eqCs_app:∀ {ks ks':List Nat} {cs cs':List C} {p:Bool},eqCs (ks++ks') cs cs'=some p →
 ∃ p1 p2,eqCs ks (cs.take ks.length) (cs'.take ks.length)=some p1∧eqCs ks' (cs.drop ks.length) (cs'.drop ks.length)=some p2∧p=(p1 && p2)
 | [],ks',cs,cs',p,h=>⟨true,p,by simp [eqCs],by simpa using h,by simp⟩
 | k::ks,ks',[],_,p,h=>by simp [eqCs] at h
 | k::ks,ks',_::_,[],p,h=>by simp [eqCs] at h
 | k::ks,ks',c::cs,c'::cs',p,h=>by
  simp only [List.cons_append,eqCs] at h
  obtain ⟨x,hx,h1⟩:=bind_some' h
  obtain ⟨y,hy,h2⟩:=bind_some' h1
  cases h2
  obtain ⟨p1,p2,g1,g2,g3⟩:=eqCs_app hy
  exact ⟨x && p1,p2,by simp [eqCs,hx,g1],by simpa using g2,by rw [g3,Bool.and_assoc]⟩

def pack (g:Bool) (vs:List Value):Value:=if g then .agg vs.toArray else vs.headD undef

theorem kind_leaf {h:Array Obj} {A:Nat→Prop} {m:Heap} {T:TypeId} {k:Nat} {c c':C} {v v':Value} {p:Bool} {d:Nat} (hk:kindT P T=some k) (e:eqC k c c'=some p) (r:RepC h A m β c v) (r':RepC h A m β c' v') :
 (Op.equalIn (d+1) T v v').run P w=.ok p w:=by
 unfold eqC at e
 split at e
 · rename_i k1 a k2 b
   split at e
   · rename_i hkk
     subst hkk
     cases e
     have r:RepD h A (.int k1 a) v:=r
     have r':RepD h A (.int k1 b) v':=r'
     cases r; cases r'
     unfold kindT at hk
     split at hk <;> cases hk
     rename_i q hq
     rw [run_equalIn_int w d T k1 q a b hq]
     rfl
   · cases e
 · rename_i a b
   cases e
   have r:RepD h A (.bool a) v:=r
   have r':RepD h A (.bool b) v':=r'
   cases r; cases r'
   unfold kindT at hk
   split at hk <;> cases hk
   rename_i hq
   exact run_equalIn_bool' w d T a b hq
 · rename_i a b
   cases e
   have r:RepD h A (.str a) v:=r
   have r':RepD h A (.str b) v':=r'
   cases r; cases r'
   unfold kindT at hk
   split at hk <;> cases hk
   rename_i hq
   rw [run_equalIn_string w d T a b hq,beq_toListBytes]
 · cases e

theorem run_equal {h:Array Obj} {A:Nat→Prop} {m:Heap}:∀ (dd:Nat) (T:TypeId) (ks:List Nat),flatT P dd T=some ks →
 ∃ g,aggT P T=some g∧szT P T=some ks.length∧(g=false→ks.length=1)∧∀ (d:Nat),dd≤d→∀ (cs cs':List C) (vs vs':List Value) (p:Bool),All2 (RepC h A m β) cs vs→All2 (RepC h A m β) cs' vs' →
  eqCs ks cs cs'=some p→(Op.equalIn d T (pack g vs) (pack g vs')).run P w=.ok p w:=by
 intro dd
 induction dd with
 | zero=>intro T ks h; cases h
 | succ dd ih =>
  intro T ks hf
  simp only [flatT] at hf
  split at hf
  · rename_i k hk
    split at hf
    · rename_i hs
      cases hf
      refine ⟨false,?_,hs,fun _=>rfl,fun d hd cs cs' vs vs' p r r' e=>?_⟩
      · unfold kindT at hk
        unfold aggT
        split at hk <;> cases hk <;> (rename_i hq; rw [hq]; rfl)
      · match d,hd with
        | d+1,_ =>
         match cs,cs',e with
         | [c],[c'],e =>
          simp only [eqCs] at e
          obtain ⟨x,hx,e⟩:=bind_some' e
          simp at e
          subst e
          cases r with
          | cons h1 t =>
           cases r' with
           | cons h1' t' =>
            cases t; cases t'
            exact kind_leaf (d:=d) hk hx h1 h1'
         | [],[],e=>simp [eqCs] at e
         | [],_::_,e=>simp [eqCs] at e
         | _::_,[],e=>simp [eqCs] at e
         | [_],_::_::_,e=>simp [eqCs] at e
         | _::_::_,_::_,e=>simp [eqCs] at e
    · cases hf
  · split at hf
    · rename_i fs hT
      split at hf
      · cases hf
      · rename_i hsi
        obtain ⟨ks0,h1,h2⟩:=bind_some' hf
        split at h2
        · rename_i hs
          cases h2
          refine ⟨true,by unfold aggT; rw [hT]; rfl,hs,fun h=>(by cases h),fun d hd cs cs' vs vs' p r r' e=>?_⟩
          match d,hd with
          | d+1,hd =>
           have hfo:P.fieldsOf T=fs:=by unfold Program.fieldsOf; rw [hT]
           have hT':P.underlying T=some (.struct (P.fieldsOf T)):=by rw [hfo]; exact hT
           simp only [pack,if_true]
           rw [run_equalIn_struct w d T _ _ hT' (by simpa using hsi),hfo]
           have key:∀ (l:List Field) (o:Nat) (ks:List Nat) (p:Bool),flatFs (flatT P dd) l o=some ks→eqCs ks (cs.drop o) (cs'.drop o)=some p →
            (Op.eqFields d vs.toArray vs'.toArray l).run P w=.ok p w:=by
            intro l
            induction l with
            | nil =>
             intro o ks p hl he
             simp only [flatFs] at hl
             cases hl
             have:p=true:=by
              unfold eqCs at he
              split at he
              · cases he; rfl
              · rename_i hh _ _; cases hh
              · cases he
             subst this
             rfl
            | cons f l ihl =>
             intro o ks p hl he
             simp only [flatFs] at hl
             split at hl
             · rename_i hc
               obtain ⟨hname,ho⟩:=hc
               obtain ⟨k1,g1,g2⟩:=bind_some' hl
               obtain ⟨k2,g3,g4⟩:=Option.map_eq_some_iff.1 g2
               subst g4
               obtain ⟨p1,p2,e1,e2,e3⟩:=eqCs_app he
               subst e3
               obtain ⟨g,a1,a2,a3,a4⟩:=ih f.type k1 g1
               have part_run:∀ (cs:List C) (vs:List Value),All2 (RepC h A m β) cs vs→((cs.drop o).take k1.length).length=k1.length→(part f.type vs.toArray f.offset).run P w=.ok (pack g ((vs.drop o).take k1.length)) w:=by
                intro cs vs r hl
                have hlv:((vs.drop o).take k1.length).length=k1.length:=by rw [←((r.drop o).take k1.length).length]; exact hl
                unfold part
                simp only [Sem.run_bind,run_aggT a1,Result.andThen_ok]
                cases g with
                | true =>
                 simp only [if_true,Sem.run_bind,run_szT a2,Result.andThen_ok,Sem.run_pure,pack]
                 congr 2
                 apply Array.ext'
                 simp [Array.toList_extract,List.extract_eq_take_drop,ho]
                | false =>
                 have k11:=a3 rfl
                 rw [k11] at hlv ⊢
                 have hlt:o < vs.length:=by simp at hlv; omega
                 have:vs.toArray[f.offset]?=some vs[o]:=by rw [ho]; simp [hlt]
                 simp only [Bool.false_eq_true,if_false,this,pack,Sem.run_pure]
                 congr 1
                 have e7:(List.take 1 (List.drop o vs)).headD undef=vs[o]:=by rw [List.drop_eq_getElem_cons hlt]; rfl
                 exact e7.symm
               have lens:((cs.drop o).take k1.length).length=k1.length∧((cs'.drop o).take k1.length).length=k1.length:=by
                have:∀ (ks:List Nat) (cs cs':List C) (p:Bool),eqCs ks cs cs'=some p→cs.length=ks.length∧cs'.length=ks.length:=by
                 intro ks
                 induction ks with
                 | nil=>intro cs cs' p e; cases cs <;> cases cs' <;> simp [eqCs] at e ⊢
                 | cons k ks ih =>
                  intro cs cs' p e
                  cases cs with
                  | nil=>simp [eqCs] at e
                  | cons c cs=>cases cs' with
                   | nil=>simp [eqCs] at e
                   | cons c' cs' =>
                    simp only [eqCs] at e
                    obtain ⟨x,hx,e1⟩:=bind_some' e
                    obtain ⟨y,hy,e2⟩:=bind_some' e1
                    have:=ih cs cs' y hy
                    simp [this]
                exact this _ _ _ _ e1
               have hrun:=a4 d (by omega) _ _ _ _ p1 ((r.drop o).take k1.length) ((r'.drop o).take k1.length) e1
               simp only [Op.eqFields,if_pos hname,Sem.run_bind,part_run cs vs r lens.1,part_run cs' vs' r' lens.2,Result.andThen_ok,hrun]
               rw [List.drop_drop,List.drop_drop] at e2
               cases p1 with
               | true=>simpa using ihl (o+k1.length) k2 p2 g3 e2
               | false=>simp
             · cases hl
           exact key fs.toList 0 _ p h1 (by simpa using e)
        · cases h2
    · cases hf

theorem do_isn {T U e:TypeId} {x:Operand} {x':Arg} {neg:Bool} {call:Call} {v:V} {m':Heap} (hm:MemOK F σ.mem β w.heap) (k:EnvOK w.heap (Avail F σ.mem β w.heap) σ.mem β σ.env a)
 (hT:P.underlying T=some (.slice e)) (ex:trArg x=some x') (h:evO call σ (.isn neg x')=some (v,m')) (o:Oper)
 (ho:o.op=.binOp (if neg then .neq else .eql) T x (.const (.slice none 0 0)) U):Does P F σ.mem β w (execOp a.eval o) v m':=by
 simp only [evO] at h
 obtain ⟨c,hc,h⟩:=bind_some' h
 have r:=Rep_arg k ex
 rw [c?_some hc] at r
 have fin:∀ (u:Value) (b:Bool),a.eval x=u→(Op.equal T u (.slice none 0 0)).run P w=.ok b w→(∃ p l q,u=.slice p l q)→(execOp a.eval o).run P w=.ok (.value (.bool (if neg then !b else b))) w:=by
  intro u b hu hb ⟨p,l,q,hs⟩
  have e0:a.eval (.const (.slice none 0 0))=.slice none 0 0:=rfl
  subst hs
  cases neg with
  | true=>simp [execOp,ho,hu,e0,eqGuard,binOp,hb]
  | false=>simp [execOp,ho,hu,e0,eqGuard,binOp,hb]
 have eq0:∀ (p:Option Addr) (l q:Nat),(Op.equal T (.slice p l q) (.slice none 0 0)).run P w=.ok p.isNone w:=by
  intro p l q
  show (Op.equalIn (9999+1) T (.slice p l q) (.slice none 0 0)).run P w=_
  rw [Op.equalIn]
  simp only [Sem.run_bind,run_underlying hT,Result.andThen_ok]
  cases p <;> simp only [Sem.run_pure,Option.isNone]
 split at h
 · cases h
   have r:a.eval x=.slice none 0 0:=r
   refine .same (u:=.bool (!neg)) hm ?_ (RepD.bool _)
   rw [fin _ _ r (eq0 _ _ _) ⟨_,_,_,rfl⟩]
   cases neg <;> rfl
 · rename_i xs
   split at h
   · rename_i hl
     cases h
     have r:RepD w.heap (Avail F σ.mem β w.heap) (.list xs) (a.eval x):=r
     generalize hv:a.eval x=va at r
     cases r with
     | empty q cap=>simp at hl
     | list _ b q sz cap u hA hsz0 hlen hc' hr hcap =>
      refine .same (u:=.bool neg) hm ?_ (RepD.bool _)
      rw [fin _ _ hv (eq0 _ _ _) ⟨_,_,_,rfl⟩]
      cases neg <;> rfl
   · cases h
 · cases h
theorem do_eqs {T U:TypeId} {x y:Operand} {x' y':Arg} {ks:List Nat} {neg g:Bool} {call:Call} {v:V} {m':Heap} (hm:MemOK F σ.mem β w.heap) (k:EnvOK w.heap (Avail F σ.mem β w.heap) σ.mem β σ.env a)
 (hf:flatT P 6 T=some ks) (hag:aggT P T=some g) (hg:P.eqGuardType P.depth T=false) (ex:trArg x=some x') (ey:trArg y=some y') (h:evO call σ (.eqs neg g ks x' y')=some (v,m')) (o:Oper)
 (ho:o.op=.binOp (if neg then .neq else .eql) T x y U):Does P F σ.mem β w (execOp a.eval o) v m':=by
 simp only [evO] at h
 obtain ⟨c,hc,h1⟩:=bind_some' h
 clear h
 obtain ⟨c',hc',h2⟩:=bind_some' h1
 clear h1
 obtain ⟨p,hp,h⟩:=bind_some' h2
 clear h2
 cases h
 have rx:=Rep_arg k ex
 have ry:=Rep_arg k ey
 obtain ⟨g',a1,a2,a3,a4⟩:=run_equal (P:=P) (w:=w) (h:=w.heap) (A:=Avail F σ.mem β w.heap) (m:=σ.mem) (β:=β) 6 T ks hf
 rw [hag] at a1
 cases a1
 have one:∀ (x:V) (c:List C) (u:Value),x.csG g=some c→RepV w.heap (Avail F σ.mem β w.heap) σ.mem β x u→∃ vs,u=pack g vs∧All2 (RepC w.heap (Avail F σ.mem β w.heap) σ.mem β) c vs:=by
  intro x c u hx r
  unfold V.csG at hx
  split at hx
  · cases hx; exact ⟨[u],rfl,.cons r .nil⟩
  · cases hx; obtain ⟨vs,e,r⟩:=r; exact ⟨vs.toList,by simp [pack,e],r⟩
  · cases hx
 obtain ⟨vs,e1,r1⟩:=one _ _ _ hc rx
 obtain ⟨vs',e2,r2⟩:=one _ _ _ hc' ry
 have heq:=a4 10000 (by omega) _ _ _ _ p r1 r2 hp
 rw [←e1,←e2] at heq
 refine .same (u:=.bool (if neg then !p else p)) hm ?_ (RepD.bool _)
 have hb:(binOp (if neg then BinOp.neq else .eql) T (a.eval x) (a.eval y)).run P w=.ok (.bool (if neg then !p else p)) w ∧
  (eqGuard (if neg then BinOp.neq else .eql) T x y (a.eval x) (a.eval y)).run P w=.ok () w:=by
  cases g with
  | true =>
   have e1':a.eval x=.agg vs.toArray:=e1
   have e2':a.eval y=.agg vs'.toArray:=e2
   rw [e1',e2'] at heq ⊢
   refine ⟨?_,run_eqGuard_agg w _ T x y _ _ hg⟩
   cases neg with
   | true=>simp only [if_true]; rw [run_neq_struct w T,heq]; rfl
   | false=>simp only [Bool.false_eq_true,if_false]; rw [run_eql_struct w T,heq]; rfl
  | false =>
   have hk:∃ k c1 c2,ks=[k]∧c=[c1]∧c'=[c2]∧eqC k c1 c2=some p:=by
    have:=a3 rfl
    match ks,this with
    | [k],_ =>
     match c,c',hp with
     | [c1],[c2],hp =>
      simp only [eqCs] at hp
      obtain ⟨q,hq,hp⟩:=bind_some' hp
      simp at hp
      subst hp
      exact ⟨k,c1,c2,rfl,rfl,rfl,hq⟩
     | [],[],e=>simp [eqCs] at e
     | [],_::_,e=>simp [eqCs] at e
     | _::_,[],e=>simp [eqCs] at e
     | [_],_::_::_,e=>simp [eqCs] at e
     | _::_::_,_::_,e=>simp [eqCs] at e
   obtain ⟨k,c1,c2,rfl,rfl,rfl,hq⟩:=hk
   cases r1 with
   | @cons _ u1 _ us1 h1 t1 =>
    cases t1
    cases r2 with
    | @cons _ u2 _ us2 h2 t2 =>
     cases t2
     have e1':a.eval x=u1:=e1
     have e2':a.eval y=u2:=e2
     rw [e1',e2'] at heq ⊢
     unfold eqC at hq
     split at hq
     · rename_i k1 i k2 j
       split at hq
       · rename_i hkk
         subst hkk
         cases hq
         have h1:RepD _ _ (.int k1 i) u1:=h1
         have h2:RepD _ _ (.int k1 j) u2:=h2
         cases h1; cases h2
         refine ⟨?_,run_eqGuard_int _ T x y _ _ _ _⟩
         cases neg with
         | true=>simp [binOp,Op.intCmp,bne,BEq.beq]
         | false=>simp [binOp,Op.intCmp,BEq.beq]
       · cases hq
     · rename_i i j
       cases hq
       have h1:RepD _ _ (.bool i) u1:=h1
       have h2:RepD _ _ (.bool j) u2:=h2
       cases h1; cases h2
       refine ⟨?_,by cases neg <;> simp [eqGuard]⟩
       cases neg with
       | true=>simp only [if_true,binOp,Op.equal,Op.maxDepth,Sem.run_bind,heq,Result.andThen_ok]; rfl
       | false=>simp only [Bool.false_eq_true,if_false,binOp,Op.equal,Op.maxDepth,Sem.run_bind,heq,Result.andThen_ok]; rfl
     · rename_i i j
       cases hq
       have h1:RepD _ _ (.str i) u1:=h1
       have h2:RepD _ _ (.str j) u2:=h2
       cases h1; cases h2
       refine ⟨?_,by cases neg <;> simp [eqGuard]⟩
       cases neg with
       | true=>simp only [if_true,binOp,Op.stringOp,Sem.run_pure,beq_toListBytes]
       | false=>simp only [Bool.false_eq_true,if_false,binOp,Op.stringOp,Sem.run_pure,beq_toListBytes]
     · cases hq
 simp only [execOp,ho,Sem.run_bind,hb.2,Result.andThen_ok,hb.1,Sem.run_pure]

theorem do_sidx {T:TypeId} {x y:Operand} {x' y':Arg} {call:Call} {v:V} {m':Heap} (hm:MemOK F σ.mem β w.heap) (k:EnvOK w.heap (Avail F σ.mem β w.heap) σ.mem β σ.env a)
 (hT:P.underlying T=some .string) (ex:trArg x=some x') (ey:trArg y=some y') (h:evO call σ (.sidx x' y')=some (v,m')) (o:Oper) (ho:o.op=.index T x y):Does P F σ.mem β w (execOp a.eval o) v m':=by
 simp only [evO] at h
 obtain ⟨c,hc,h1⟩:=bind_some' h
 clear h
 obtain ⟨p,hp,h⟩:=bind_some' h1
 clear h1
 have r:=Rep_arg k ex
 rw [c?_some hc] at r
 have ai:=Rep_int (Rep_arg k ey) hp
 split at h
 · rename_i s
   split at h
   · rename_i h0
     obtain ⟨b,hb,h⟩:=bind_some' h
     cases h
     have r:RepD _ _ (.str s) (a.eval x):=r
     generalize hv:a.eval x=va at r
     cases r
     refine .same hm ?_ (show RepD _ _ (.int .u8 b.toNat) (.int .u8 b.toNat) from .int _ _)
     simp only [execOp,ho,Instr.index,hv,ai,asIntOf,Sem.run_bind,run_underlying hT,Result.andThen_ok,Sem.run_pure,if_pos h0,hb]
   · cases h
 · cases h
theorem do_vidx {T e:TypeId} {n s:Nat} {g:Bool} {x y:Operand} {x' y':Arg} {call:Call} {v:V} {m':Heap} (hm:MemOK F σ.mem β w.heap) (k:EnvOK w.heap (Avail F σ.mem β w.heap) σ.mem β σ.env a)
 (hT:P.underlying T=some (.array n e)) (hs:szT P e=some s) (hg:aggT P e=some g) (hn:¬(g=false∧s≠1)) (ex:trArg x=some x') (ey:trArg y=some y') (h:evO call σ (.vidx n s g x' y')=some (v,m'))
 (o:Oper) (ho:o.op=.index T x y):Does P F σ.mem β w (execOp a.eval o) v m':=by
 have r:=Rep_arg k ex
 simp only [evO] at h
 obtain ⟨p,hp,h1⟩:=bind_some' h
 clear h
 have ai:=Rep_int (Rep_arg k ey) hp
 split at h1
 · rename_i cs hx
   rw [hx] at r
   obtain ⟨vs,e',r⟩:=r
   split at h1
   · rename_i h0
     obtain ⟨q,hq,h⟩:=bind_some' h1
     cases h
     obtain ⟨off,hoff⟩:∃ off,off=p.2.toNat*s:=⟨_,rfl⟩
     rw [←hoff] at hq
     have r2:=(r.drop off).take s
     have rv:=Rep_mkV hq r2
     refine .same hm ?_ rv
     simp only [execOp,ho,Instr.index,e',ai,asIntOf,Sem.run_bind,run_underlying hT,Result.andThen_ok,Sem.run_pure,if_pos h0,run_szT hs,part,run_aggT hg,←hoff]
     cases g with
     | true =>
      simp only [if_true,Sem.run_bind,run_szT hs,Result.andThen_ok,Sem.run_pure]
      congr 3
      have:vs.extract off (off+s)=(List.take s (List.drop off vs.toList)).toArray:=by
       apply Array.ext'
       simp [Array.toList_extract,List.extract_eq_take_drop]
      rw [this]
     | false =>
      have hn1:s=1:=by
       rcases Nat.decEq s 1 with c | c
       · exact absurd ⟨rfl,c⟩ hn
       · exact c
      subst hn1
      have hl:=mkV_len hq rfl
      have hlv:(List.take 1 (List.drop off vs.toList)).length=1:=by rw [←r2.length]; exact hl
      have hlt:off < vs.size:=by
       rcases Nat.lt_or_ge off vs.size with c | c
       · exact c
       · simp at hlv; omega
      simp only [Bool.false_eq_true,if_false,Array.getElem?_eq_getElem hlt,Sem.run_pure,Result.andThen_ok]
      congr 2
      rw [List.drop_eq_getElem_cons (by simpa using hlt)]
      simp
   · cases h1
 · cases h1
end

section
open Go.MapKept
variable {P:Program} {F:Nat→Prop} {β:Place} {w:World} {σ:St} {a:Act}

theorem getM_put {es:List (Int × D)} {k n:Int} {d:D} (h:getM es k=none):getM (putM es k d) n=if n=k then some d else getM es n:=by
 induction es with
 | nil =>
  simp only [putM,getM]
  by_cases c:n=k
  · simp [c]
  · rw [if_neg c,if_neg fun e=>c e.symm]
 | cons x r ih =>
  obtain ⟨j,x⟩:=x
  simp only [getM] at h
  split at h
  · cases h
  · rename_i c
    simp only [putM]
    split
    · simp only [getM]
      by_cases e:n=k
      · subst e; simp
      · rw [if_neg (fun c=>e c.symm),if_neg e]
    · simp only [getM]
      by_cases e:j=n
      · subst e; rw [if_pos rfl,if_neg (fun e=>c e),if_pos rfl]
      · rw [if_neg e,ih h,if_neg e]

theorem do_mkmap {T:TypeId} {call:Call} {v:V} {m':Heap} (hm:MemOK F σ.mem β w.heap) (h:evO call σ .mkmap=some (v,m')) (o:Oper) (ho:o.op=.makeMap T none):Does P F σ.mem β w (execOp a.eval o) v m':=by
 simp only [evO] at h
 cases h
 have hg:(σ.mem++[Slot.map []])[σ.mem.length]?=some (.map []):=by rw [List.getElem?_append_right (Nat.le_refl _),Nat.sub_self]; rfl
 refine ⟨.map (some w.heap.size),_,_,.inl ?_,ok_push hm (.map #[] 0) (.map []) trivial ⟨_,_,upd_same _ _ _,#[],0,by rw [Array.getElem?_push_size],?_⟩,evo_push hm _ _ trivial,?_⟩
 · simp only [execOp,ho,Option.map_none,Instr.makeMap,Sem.run_bind,Sem.run_pure,Result.andThen_ok,newObj]
   rfl
 · exact ⟨by simp,by simp,fun n d e=>by simp [getM] at e⟩
 · show RepMp _ _ _ _
   unfold RepMp
   rw [hg]
   exact ⟨_,_,upd_same _ _ _,rfl⟩

theorem do_insert {T K E:TypeId} {x y z:Operand} {x' y' z':Arg} {call:Call} {v:V} {m':Heap} (hm:MemOK F σ.mem β w.heap) (k:EnvOK w.heap (Avail F σ.mem β w.heap) σ.mem β σ.env a)
 (hT:P.underlying T=some (.map K E)) (hK:P.underlying K=some (.int .i64)) (ex:trArg x=some x') (ey:trArg y=some y') (ez:trArg z=some z') (h:evO call σ (.insert x' y' z')=some (v,m'))
 (o:Oper) (ho:o.op=.insert T x y z):Does P F σ.mem β w (execOp a.eval o) v m':=by
 simp only [evO] at h
 obtain ⟨c,hc,h1⟩:=bind_some' h
 clear h
 obtain ⟨p,hp,h2⟩:=bind_some' h1
 clear h1
 obtain ⟨cv,hcv,h3⟩:=bind_some' h2
 clear h2
 obtain ⟨d,hd,h⟩:=bind_some' h3
 clear h3
 have rx:=Rep_arg k ex
 rw [c?_some hc] at rx
 have ay:=Rep_int (Rep_arg k ey) hp
 have rz:=Rep_arg k ez
 rw [c?_some hcv] at rz
 have rd:=cellD_rep rz hd
 split at h
 · rename_i s
   split at h
   · rename_i es hs
     split at h
     · rename_i hk
       split at h
       · rename_i hg
         cases h
         have rx:RepMp σ.mem β s (a.eval x):=rx
         unfold RepMp at rx
         simp only [hs] at rx
         obtain ⟨b,q,b1,b2⟩:=rx
         obtain ⟨b',q',b1',ents,cl,hb,he⟩:=hm.slots s _ hs
         rw [b1] at b1'
         cases b1'
         obtain ⟨p1,p2⟩:=p
         simp only at hk hg ay
         subst hk
         have hik:IsKey (.int .i64) (.int .i64 p2):=by simp [IsKey]
         have hall:∀ x∈ents.toList,IsKey (.int .i64) x.key:=fun x hx=>by obtain ⟨n,hn⟩:=he.1 x hx; rw [hn]; simp [IsKey]
         have hfind:Instr.findNow (.int .i64) (.int .i64 p2) ents.toList 0=some none:=by
          rcases findNow_spec hik ents.toList 0 hall with ⟨h1,_⟩ | ⟨j,e,_,h2,h3⟩
          · exact h1
          · exact absurd h3 (he.2.1 p2 hg e (List.mem_of_getElem? h2))
         obtain ⟨g1,g2⟩:=heap_set (w:=w) (o':=.map (ents.push { key:=.int .i64 p2,val:=a.eval z,born:=cl }) (cl+1)) hb
         have hO:Owned σ.mem β b:=.mk hs (by simp) b1
         have E2:Evo F σ.mem β w (σ.mem.set s (.map (putM es p2 d))) β { w with heap:=w.heap.setIfInBounds b (.map (ents.push { key:=.int .i64 p2,val:=a.eval z,born:=cl }) (cl+1)) }:=by
          refine Evo.make hm (B:=fun b'=>b'=b) rfl rfl ⟨rfl,Nat.le_refl _⟩ (by simp) (fun b' e=>.inl (e ▸ hO)) (fun b' hne=>g2 b' hne) (fun b' h=>.inl (owned_set (by trivial) hs (by simp) h)) ?_
          refine like_set hs (by simp [Slot.like]) fun t b' o' sl h1 h2 h3=>?_
          by_cases c:b'=b
          · subst c
            simp only [blkSize,g1,hb]
          · exact blkSize_congr (g2 b' c)
         refine ⟨undef,_,β,.inr ⟨?_,rfl⟩,?_,E2,⟨#[],rfl,.nil⟩⟩
         · simp [execOp,ho,b2,ay,Instr.mapUpdate,run_underlying hT,MapKept.run_getObj_map hb,run_checkKey hK hik,run_findKey hK hfind,MapKept.run_setObj_map _ hb,Result.andThen]
         · refine hm.make E2 (inj_set hm (by trivial) hs (by simp)) fun t sl ht=>?_
           by_cases c:s=t
           · subst c
             rw [List.getElem?_set_self (slot_lt hs)] at ht
             cases ht
             right
             refine ⟨b,q,b1,_,_,g1,?_,?_,?_⟩
             · intro e he'
               simp only [Array.toList_push,List.mem_append,List.mem_singleton] at he'
               rcases he' with he' | rfl
               · exact he.1 e he'
               · exact ⟨p2,rfl⟩
             · intro n hn e he'
               rw [getM_put hg] at hn
               simp only [Array.toList_push,List.mem_append,List.mem_singleton] at he'
               split at hn
               · cases hn
               · rename_i hne
                 rcases he' with he' | rfl
                 · exact he.2.1 n hn e he'
                 · intro c; cases c; exact hne rfl
             · intro n d' hn
               rw [getM_put hg] at hn
               split at hn
               · rename_i hne
                 cases hn
                 subst hne
                 refine ⟨⟨{ key:=.int .i64 n,val:=a.eval z,born:=cl },by simp,rfl⟩,fun e he' hke=>?_⟩
                 simp only [Array.toList_push,List.mem_append,List.mem_singleton] at he'
                 rcases he' with he' | rfl
                 · exact absurd hke (he.2.1 n hg e he')
                 · exact rd.mono E2.av
               · rename_i hne
                 obtain ⟨⟨e0,e1,e2⟩,hv⟩:=he.2.2 n d' hn
                 refine ⟨⟨e0,by simp [e1],e2⟩,fun e he' hke=>?_⟩
                 simp only [Array.toList_push,List.mem_append,List.mem_singleton] at he'
                 rcases he' with he' | rfl
                 · exact (hv e he' hke).mono E2.av
                 · cases hke; exact absurd rfl hne
           · rw [List.getElem?_set_ne c] at ht
             refine .inl ⟨ht,fun _=>rfl,fun l x b' o' hk hx hd' hb'=>g2 b' fun e=>?_⟩
             subst e hk
             exact c (congrArg Prod.fst (hm.injK s l _ x b' q o' (live_s.trans hs) (by simp) hx hd' b1 hb'))
       · cases h
     · cases h
   · cases h
 · cases h

theorem do_lookup {T K E:TypeId} {x y:Operand} {x' y':Arg} {call:Call} {v:V} {m':Heap} (hm:MemOK F σ.mem β w.heap) (k:EnvOK w.heap (Avail F σ.mem β w.heap) σ.mem β σ.env a)
 (hT:P.underlying T=some (.map K E)) (hK:P.underlying K=some (.int .i64)) (ex:trArg x=some x') (ey:trArg y=some y') (h:evO call σ (.lookup x' y')=some (v,m'))
 (o:Oper) (ho:o.op=.lookup T x y false):Does P F σ.mem β w (execOp a.eval o) v m':=by
 simp only [evO] at h
 obtain ⟨c,hc,h1⟩:=bind_some' h
 clear h
 obtain ⟨p,hp,h⟩:=bind_some' h1
 clear h1
 have rx:=Rep_arg k ex
 rw [c?_some hc] at rx
 have ay:=Rep_int (Rep_arg k ey) hp
 split at h
 · rename_i s
   split at h
   · rename_i es hs
     split at h
     · rename_i hk
       obtain ⟨d,hg,h1⟩:=bind_some' h
       cases h1
       have rx:RepMp σ.mem β s (a.eval x):=rx
       unfold RepMp at rx
       simp only [hs] at rx
       obtain ⟨b,q,b1,b2⟩:=rx
       obtain ⟨b',q',b1',ents,cl,hb,he⟩:=hm.slots s _ hs
       rw [b1] at b1'
       cases b1'
       obtain ⟨p1,p2⟩:=p
       simp only at hk ay hg
       subst hk
       have hik:IsKey (.int .i64) (.int .i64 p2):=by simp [IsKey]
       have hall:∀ x∈ents.toList,IsKey (.int .i64) x.key:=fun x hx=>by obtain ⟨n,hn⟩:=he.1 x hx; rw [hn]; simp [IsKey]
       obtain ⟨⟨e0,m0,k0⟩,hv⟩:=he.2.2 p2 d hg
       obtain ⟨j,e,hfind,hj,hke⟩:∃ j e,Instr.findNow (.int .i64) (.int .i64 p2) ents.toList 0=some (some (0+j,e.val))∧ents.toList[j]?=some e∧e.key=.int .i64 p2:=by
        rcases findNow_spec hik ents.toList 0 hall with ⟨_,h1⟩ | h1
        · exact absurd k0 (h1 e0 m0)
        · exact h1
       refine .same hm (u:=e.val) ?_ ?_
       · simp [execOp,ho,b2,ay,Instr.lookup,run_underlying hT,MapKept.run_getObj_map hb,run_checkKey hK hik,run_findKey hK hfind,Result.andThen]
       · show RepD _ _ d e.val
         exact hv e (List.mem_of_getElem? hj) hke
     · cases h
   · cases h
 · cases h
end

section
variable {P:Program} {F:Nat→Prop} {β:Place} {w:World} {σ:St} {a:Act} {m:Heap}

theorem remap {m':Heap} {β':Place} (hm:MemOK F m β w.heap) (φ:Key→Key)
 (hφ:∀ (k:Key) (x:Slot) (b o:Nat),live m' k=some x→x≠.dead→β' k=some (b,o)→(∃ y,live m (φ k)=some y∧y≠.dead)∧β (φ k)=some (b,o))
 (hinj:∀ (k l:Key) (x y:Slot),live m' k=some x→x≠.dead→live m' l=some y→y≠.dead→φ k=φ l→k=l)
 (evo:∀ (s:Nat) (sl:Slot),m[s]?=some sl→∃ sl',m'[s]?=some sl'∧(sl'=.dead∨(sl'.like sl∧β' s=β s)))
 (slots:Evo F m β w m' β' w→∀ (s:Nat) (sl:Slot),m'[s]?=some sl→SlotRel w.heap (Avail F m' β' w.heap) m' β' s sl) :
 MemOK F m' β' w.heap∧Evo F m β w m' β' w:=by
 have own:∀ b,Owned m' β' b→Owned m β b:=by
  rintro b ⟨k,x,o,h1,h2,h3⟩
  obtain ⟨⟨y,g1,g2⟩,g3⟩:=hφ k x b o h1 h2 h3
  exact ⟨φ k,y,o,g1,g2,g3⟩
 have E:Evo F m β w m' β' w:=⟨rfl,rfl,⟨rfl,Nat.le_refl _⟩,Nat.le_refl _,fun b hb=>⟨⟨hb.1,hb.2.1,fun h=>hb.2.2 (own b h)⟩,rfl⟩,fun _ _ _=>rfl,fun b hb=>.inl (own b hb),fun s sl hs=>by
  obtain ⟨sl',h1,h2⟩:=evo s sl hs
  exact ⟨sl',h1,h2.imp id fun ⟨e1,e2⟩=>⟨e1,e2,fun _ _ _=>rfl⟩⟩⟩
 refine ⟨⟨slots E,fun k l x y b o o' h1 h2 h3 h4 h5 h6=>?_,fun b hb=>hm.nf b (own b hb),hm.fl⟩,E⟩
 obtain ⟨⟨y1,g1,g2⟩,g3⟩:=hφ k x b o h1 h2 h5
 obtain ⟨⟨y2,k1,k2⟩,k3⟩:=hφ l y b o' h3 h4 h6
 exact hinj k l x y h1 h2 h3 h4 (hm.injK _ _ y1 y2 b o o' g1 g2 k1 k2 g3 k3)

theorem rowsD_get {rs:List (List D)} {i:Nat} (hi:i < rs.length):rs[i]?=some (rs.getD i []):=by
 rw [List.getD_eq_getElem?_getD,List.getElem?_eq_getElem hi]; rfl
theorem lend_ok {s i:Nat} {z:D} {rs:List (List D)} {br:List (Nat × C)} (hm:MemOK F m β w.heap) (hs:m[s]?=some (.rows z rs br)) (hi:i < rs.length) (hg:brGet br i=none) :
 MemOK F (m.set s (.rows z rs ((i,.own m.length 0 (rs.getD i []).length)::br))++[.vals z (rs.getD i [])]) (upd β m.length (β (s,some i))) w.heap ∧
 Evo F m β w (m.set s (.rows z rs ((i,.own m.length 0 (rs.getD i []).length)::br))++[.vals z (rs.getD i [])]) (upd β m.length (β (s,some i))) w ∧
 ∀ b o v,β s=some (b,o)→cellAt w.heap b (o+i)=some v→RepOwn w.heap (m.set s (.rows z rs ((i,.own m.length 0 (rs.getD i []).length)::br))++[.vals z (rs.getD i [])]) (upd β m.length (β (s,some i))) m.length 0 (rs.getD i []).length v:=by
 obtain ⟨r,hr⟩:∃ r,r=rs.getD i []:=⟨_,rfl⟩
 have hri:rs[i]?=some r:=hr ▸ rowsD_get hi
 rw [←hr]
 have hsl:=slot_lt hs
 obtain ⟨m',hm'⟩:∃ m',m'=m.set s (.rows z rs ((i,.own m.length 0 r.length)::br))++[.vals z r]:=⟨_,rfl⟩
 rw [←hm']
 have mlen:(m.set s (.rows z rs ((i,.own m.length 0 r.length)::br))).length=m.length:=List.length_set
 have gn:m'[m.length]?=some (.vals z r):=by
  rw [hm',List.getElem?_append_right (by omega),mlen,Nat.sub_self]; rfl
 have gs:m'[s]?=some (.rows z rs ((i,.own m.length 0 r.length)::br)):=by
  rw [hm',List.getElem?_append_left (by omega),List.getElem?_set_self hsl]
 have oldi:live m (s,some i)=some (.vals z r):=(live_of hs (some i)).trans (by simp only [Slot.part,hg,hri,Option.map_some])
 have key:∀ (k:Key) (x:Slot),live m' k=some x→x≠.dead→k=(m.length,none)∨(k.1≠m.length∧k≠(s,some i)∧∃ y,live m k=some y∧y≠.dead):=by
  intro k x hk hx
  rw [hm'] at hk
  rcases live_pushF hk with ⟨c,h1⟩ | ⟨c,_⟩
  · rw [mlen] at c
    refine .inr ⟨by omega,?_⟩
    rcases live_set h1 with ⟨c1,h2⟩ | ⟨c1,_,h2⟩
    · exact ⟨fun e=>c1 (by rw [e]),x,h2,hx⟩
    · obtain ⟨k1,k2⟩:=k
      simp only at c1 h2
      subst c1
      cases k2 with
      | none=>exact ⟨fun e=>(by cases e),_,live_s.trans hs,by simp⟩
      | some j =>
       simp only [Slot.part,brGet] at h2
       by_cases e:i=j
       · rw [if_pos e] at h2; cases h2
       · rw [if_neg e] at h2
         refine ⟨fun c=>e (by cases c; rfl),x,(live_of hs (some j)).trans (by simp only [Slot.part]; exact h2),hx⟩
  · rw [mlen] at c; exact .inl c
 obtain ⟨h0,h00,b0,o0,e1,hp,hcl⟩:=hm.slots s _ hs
 have hin:∀ v,cellAt w.heap b0 (o0+i)=some v→Lies w.heap (Avail F m β w.heap) z r (β (s,some i))∧Whole w.heap z r.length v (β (s,some i)):=by
  intro v hv
  obtain ⟨v',hv',hh⟩:=hcl i r hri
  rw [hv] at hv'; cases hv'
  simp only [hg] at hh
  exact hh
 have repn:∀ (β':Place),β'=upd β m.length (β (s,some i))→∀ v,cellAt w.heap b0 (o0+i)=some v→RepOwn w.heap m' β' m.length 0 r.length v:=by
  rintro β' rfl v hv
  obtain ⟨_,hw⟩:=hin v hv
  unfold RepOwn
  rw [gn]
  refine ⟨by omega,?_⟩
  rw [upd_same]
  cases hβ:β (s,some i) with
  | none=>rw [hβ] at hw; obtain ⟨hw1,hw2⟩:=hw; exact .inl ⟨hw1,hw2⟩
  | some p =>
   obtain ⟨b,o⟩:=p
   rw [hβ] at hw
   obtain ⟨cap,N,w1,w2,w3,w4⟩:=hw
   exact .inr ⟨b,o,cap,N,rfl,by rw [w1]; simp,w2,w3,by simpa using w4⟩
 have R:=remap (m':=m') (β':=upd β m.length (β (s,some i))) hm (fun k=>if k=(m.length,none) then (s,some i) else k)
  (fun k x b o hk hx hb=>by
   rcases key k x hk hx with rfl | ⟨h1,h2,h3⟩
   · rw [if_pos rfl]
     exact ⟨⟨_,oldi,by simp⟩,by rw [upd_same] at hb; exact hb⟩
   · rw [if_neg (fun e=>h1 (by rw [e]))]
     exact ⟨h3,by rw [upd_neK h1] at hb; exact hb⟩)
  (fun k l x y hk hx hl hy e=>by
   rcases key k x hk hx with rfl | ⟨h1,h2,_⟩ <;> rcases key l y hl hy with rfl | ⟨h3,h4,_⟩
   · rfl
   · rw [if_pos rfl,if_neg (fun e=>h3 (by rw [e]))] at e; exact absurd e.symm h4
   · rw [if_pos rfl,if_neg (fun e=>h1 (by rw [e]))] at e; exact absurd e h2
   · rw [if_neg (fun e=>h1 (by rw [e])),if_neg (fun e=>h3 (by rw [e]))] at e; exact e)
  (fun t sl ht=>by
   have htl:=slot_lt ht
   by_cases c:t=s
   · subst c
     rw [hs] at ht; cases ht
     exact ⟨_,gs,.inr ⟨⟨rfl,rfl⟩,upd_ne (by omega)⟩⟩
   · exact ⟨sl,by rw [hm',List.getElem?_append_left (by omega),List.getElem?_set_ne (fun e=>c e.symm)]; exact ht,.inr ⟨Slot.like.refl _,upd_ne (by omega)⟩⟩)
  (fun E t sl ht=>by
   by_cases ct:t=m.length
   · subst ct
     rw [gn] at ht; cases ht
     refine ⟨h0,h00 r (List.mem_of_getElem? hri),?_⟩
     rw [upd_same]
     obtain ⟨v',hv',_⟩:=hcl i r hri
     exact (hin v' hv').1.evo E fun _ _ _=>rfl
   · by_cases c:t=s
     · subst c
       rw [gs] at ht; cases ht
       refine ⟨h0,h00,b0,o0,(upd_ne (by omega)).trans e1,hp,fun j q hq=>?_⟩
       obtain ⟨v,hv,hh⟩:=hcl j q hq
       refine ⟨v,hv,?_⟩
       simp only [brGet]
       by_cases e:i=j
       · subst e
         rw [if_pos rfl]
         exact repn _ rfl v hv
       · rw [if_neg e]
         cases hgj:brGet br j with
         | some c=>simp only [hgj] at hh ⊢; exact hh.evo E
         | none =>
          simp only [hgj] at hh ⊢
          have e2:upd β m.length (β (t,some i)) (t,some j)=β (t,some j):=upd_neK (by simp only; omega)
          rw [e2]
          exact ⟨hh.1.evo E fun _ _ _=>rfl,hh.2⟩
     · have htl:t < m.length:=by
        have:=slot_lt ht
        rw [hm'] at this
        simp at this
        omega
       have ht':m[t]?=some sl:=by
        rw [hm',List.getElem?_append_left (by omega),List.getElem?_set_ne (fun e=>c e.symm)] at ht; exact ht
       exact SlotRel.evo E (upd_still (by omega)) (fun _ _ _ _ _ _=>rfl) (hm.slots t sl ht'))
 exact ⟨R.1,R.2,fun b o v hb hv=>by rw [e1] at hb; cases hb; exact repn _ rfl v hv⟩

theorem brDel_get:∀ (br:List (Nat × C)) (i j:Nat),brGet (brDel br i) j=if i=j then none else brGet br j
 | [],i,j=>by simp [brDel,brGet]
 | (q,c)::r,i,j=>by
  simp only [brDel]
  split
  · rename_i e
    rw [brDel_get r i j]
    by_cases c:i=j
    · rw [if_pos c,if_pos c]
    · rw [if_neg c,if_neg c]; simp only [brGet]; rw [if_neg (by omega)]
  · rename_i e
    simp only [brGet]
    by_cases c:q=j
    · rw [if_pos c,if_neg (by omega),if_pos c]
    · rw [if_neg c,brDel_get r i j,if_neg c]
theorem bak_ok {s s' i l:Nat} {z z':D} {rs:List (List D)} {xs:List D} {br:List (Nat × C)} (hm:MemOK F m β w.heap) (hs:m[s]?=some (.rows z rs br)) (hgi:brGet br i=some (.own s' 0 l)) (hs':m[s']?=some (.vals z' xs)) (hz:z'.cells.length=z.cells.length) :
 ∃ β',MemOK F ((m.set s (.rows z (rs.set i (xs.take l)) (brDel br i))).set s' .dead) β' w.heap∧Evo F m β w ((m.set s (.rows z (rs.set i (xs.take l)) (brDel br i))).set s' .dead) β' w:=by
 obtain ⟨h0,h00,b0,o0,e1,hp,hcl⟩:=hm.slots s _ hs
 obtain ⟨g0,g00,glies⟩:=hm.slots s' _ hs'
 have hne:s≠s':=fun e=>by subst e; rw [hs] at hs'; cases hs'
 have hsl:=slot_lt hs
 have hsl':=slot_lt hs'
 obtain ⟨m',hm'⟩:∃ m',m'=(m.set s (.rows z (rs.set i (xs.take l)) (brDel br i))).set s' .dead:=⟨_,rfl⟩
 rw [←hm']
 have gs:m'[s]?=some (.rows z (rs.set i (xs.take l)) (brDel br i)):=by
  rw [hm',List.getElem?_set_ne (fun e=>hne e.symm),List.getElem?_set_self hsl]
 have gs':m'[s']?=some .dead:=by rw [hm',List.getElem?_set_self (by simpa using hsl')]
 have go:∀ t,t≠s→t≠s'→m'[t]?=m[t]?:=fun t h1 h2=>by rw [hm',List.getElem?_set_ne (fun e=>h2 e.symm),List.getElem?_set_ne (fun e=>h1 e.symm)]
 obtain ⟨p,hpq,hpw⟩:∃ p:Option (Nat × Nat),(p=none∨p=β s')∧(i < rs.length→Lies w.heap (Avail F m β w.heap) z (xs.take l) p∧∀ v,cellAt w.heap b0 (o0+i)=some v→Whole w.heap z (xs.take l).length v p):=by
  by_cases hi:i < rs.length
  · obtain ⟨v,hv,hh⟩:=hcl i _ (List.getElem?_eq_getElem hi)
    simp only [hgi] at hh
    have hh:RepOwn w.heap m β s' 0 l v:=hh
    unfold RepOwn at hh
    simp only [hs'] at hh
    obtain ⟨hle,hh⟩:=hh
    have tl:(xs.take l).length=l:=by simp; omega
    rcases hh with ⟨rfl,x,rfl⟩ | ⟨b,o,cap,N,f1,f2,f3,f4,f5⟩
    · refine ⟨none,.inl rfl,fun _=>⟨by simp [Lies],fun v' hv'=>?_⟩⟩
      rw [hv] at hv'; cases hv'
      exact ⟨by simp,x,rfl⟩
    · refine ⟨β s',.inr rfl,fun _=>?_⟩
      rw [f1] at glies ⊢
      refine ⟨⟨glies.1,fun q j d e hd he=>?_⟩,fun v' hv'=>?_⟩
      · have hq:q < l:=by have:=(List.getElem?_eq_some_iff.1 hd).1; rw [tl] at this; exact this
        rw [List.getElem?_take_of_lt hq] at hd
        rw [←hz]
        exact glies.2 q j d e hd he
      · rw [hv] at hv'; cases hv'
        rw [tl]
        exact ⟨cap,N,by rw [f2]; simp,f3,f4,by rw [←hz]; simpa using f5⟩
  · exact ⟨none,.inl rfl,fun h=>absurd h hi⟩
 have key:∀ (k:Key) (x:Slot),live m' k=some x→x≠.dead→k.1≠s'∧(k=(s,some i)∨(k≠(s,some i)∧∃ y,live m k=some y∧y≠.dead)):=by
  intro k x hk hx
  rw [hm'] at hk
  obtain ⟨h1,h2⟩:=live_kill hk hx
  refine ⟨h2,?_⟩
  rcases live_set h1 with ⟨c1,h3⟩ | ⟨c1,_,h3⟩
  · exact .inr ⟨fun e=>c1 (by rw [e]),x,h3,hx⟩
  · obtain ⟨k1,k2⟩:=k
    simp only at c1 h3
    subst c1
    cases k2 with
    | none=>exact .inr ⟨fun e=>(by cases e),_,live_s.trans hs,by simp⟩
    | some j =>
     by_cases e:i=j
     · subst e; exact .inl rfl
     · refine .inr ⟨fun c=>e (by cases c; rfl),x,?_,hx⟩
       rw [live_of hs (some j)]
       simp only [Slot.part,brDel_get,if_neg e] at h3
       simp only [Slot.part]
       rw [List.getElem?_set_ne e] at h3
       exact h3
 obtain ⟨β',hβ'⟩:∃ β':Place,β'=fun k=>if k=(s,some i) then p else β k:=⟨_,rfl⟩
 have bi:β' (s,some i)=p:=by rw [hβ']; exact if_pos rfl
 have bo:∀ k,k≠(s,some i)→β' k=β k:=fun k h=>by rw [hβ']; exact if_neg h
 have bn:∀ t:Nat,β' t=β t:=fun t=>bo _ fun e=>by cases e
 refine ⟨β',remap (m':=m') (β':=β') hm (fun k=>if k=(s,some i) then (s',none) else k) (fun k x b o hk hx hb=>?_) (fun k l' x y hk hx hl hy e=>?_) (fun t sl ht=>?_) (fun E t sl ht=>?_)⟩
 · obtain ⟨h1,rfl | ⟨h2,h3⟩⟩:=key k x hk hx
   · rw [if_pos rfl]
     rw [bi] at hb
     refine ⟨⟨_,live_s.trans hs',by simp⟩,?_⟩
     rcases hpq with e | e
     · rw [e] at hb; cases hb
     · rw [←e]; exact hb
   · rw [if_neg h2]
     exact ⟨h3,by rw [←bo k h2]; exact hb⟩
 · obtain ⟨h1,h2⟩:=key k x hk hx
   obtain ⟨h3,h4⟩:=key l' y hl hy
   rcases h2 with rfl | ⟨h2,_⟩ <;> rcases h4 with rfl | ⟨h4,_⟩
   · rfl
   · rw [if_pos rfl,if_neg h4] at e; exact absurd (by rw [←e]) h3
   · rw [if_pos rfl,if_neg h2] at e; exact absurd (by rw [e]) h1
   · rw [if_neg h2,if_neg h4] at e; exact e
 · by_cases c:t=s'
   · subst c; exact ⟨_,gs',.inl rfl⟩
   · by_cases c2:t=s
     · subst c2
       rw [hs] at ht; cases ht
       exact ⟨_,gs,.inr ⟨⟨rfl,by simp⟩,bn t⟩⟩
     · exact ⟨sl,(go t c2 c).trans ht,.inr ⟨Slot.like.refl _,bn t⟩⟩
 · by_cases c:t=s'
   · subst c; rw [gs'] at ht; cases ht; trivial
   · by_cases c2:t=s
     · subst c2
       rw [gs] at ht; cases ht
       refine ⟨h0,fun r hr=>?_,b0,o0,(bn t).trans e1,hp,fun j q hq=>?_⟩
       · rcases List.mem_or_eq_of_mem_set hr with hr | rfl
         · exact h00 r hr
         · intro d hd; rw [←hz]; exact g00 d (List.mem_of_mem_take hd)
       · have hj:j < rs.length:=by have:=(List.getElem?_eq_some_iff.1 hq).1; simpa using this
         obtain ⟨v,hv,hh⟩:=hcl j _ (List.getElem?_eq_getElem hj)
         refine ⟨v,hv,?_⟩
         rw [brDel_get]
         by_cases e:i=j
         · subst e
           rw [List.getElem?_set_self hj] at hq
           cases hq
           obtain ⟨l1,l2⟩:=hpw hj
           simp only [if_true,bi]
           exact ⟨l1.evo E fun _ _ _=>rfl,l2 v hv⟩
         · rw [if_neg e]
           rw [List.getElem?_set_ne e,List.getElem?_eq_getElem hj] at hq
           cases hq
           cases hgj:brGet br j with
           | some c=>simp only [hgj] at hh ⊢; exact hh.evo E
           | none =>
            simp only [hgj] at hh ⊢
            rw [bo (t,some j) (fun c=>e (by cases c; rfl))]
            exact ⟨hh.1.evo E fun _ _ _=>rfl,hh.2⟩
     · rw [go t c2 c] at ht
       exact SlotRel.evo E (fun x=>bo _ fun e=>c2 (by cases e; rfl)) (fun _ _ _ _ _ _=>rfl) (hm.slots t sl ht)

def updN (β:Place) (n:Nat) (p:Option (Nat × Nat)):Place:=fun k=>if k.1=n then (if k.2=none then p else none) else β k
theorem updN_same (β:Place) (n:Nat) (p:Option (Nat × Nat)):updN β n p n=p:=by simp [updN]
theorem updN_row (β:Place) (n i:Nat) (p:Option (Nat × Nat)):updN β n p (n,some i)=none:=by simp [updN]
theorem updN_ne {β:Place} {n:Nat} {k:Key} {p:Option (Nat × Nat)} (h:k.1≠n):updN β n p k=β k:=by unfold updN; rw [if_neg h]
def Fresh (h:Array Obj) (A:Nat→Prop) (m:Heap) (β:Place) (br:List (Nat × C)) (n:Nat) (vs:Array Value):Prop :=
 ∀ i,i < n→∃ v,vs[i]?=some v∧match brGet br i with
  | some c=>RepC h A m β c v
  | none=>v=.slice none 0 0
theorem new_rows {z:D} {br:List (Nat × C)} {n:Nat} {vs:Array Value} {T:TypeId} (hm:MemOK F m β w.heap) (hz:0 < z.cells.length) (hvs:Fresh w.heap (Avail F m β w.heap) m β br n vs) :
 MemOK F (m++[.rows z (List.replicate n []) br]) (updN β m.length (some (w.heap.size,0))) (w.heap.push (.cells vs T)) ∧
 Evo F m β w (m++[.rows z (List.replicate n []) br]) (updN β m.length (some (w.heap.size,0))) { w with heap:=w.heap.push (.cells vs T) } ∧
 ∀ cap,n≤cap→cap≤vs.size→RepOwn (w.heap.push (.cells vs T)) (m++[.rows z (List.replicate n []) br]) (updN β m.length (some (w.heap.size,0))) m.length 0 n (.slice (some ⟨w.heap.size,0,none⟩) n cap):=by
 obtain ⟨m',hm'⟩:∃ m',m'=m++[.rows z (List.replicate n []) br]:=⟨_,rfl⟩
 obtain ⟨β',hβ'⟩:∃ β',β'=updN β m.length (some (w.heap.size,0)):=⟨_,rfl⟩
 rw [←hm',←hβ']
 have gn:m'[m.length]?=some (.rows z (List.replicate n []) br):=by rw [hm',List.getElem?_append_right (Nat.le_refl _),Nat.sub_self]; rfl
 have key:∀ (k:Key) (x:Slot) (b o:Nat),live m' k=some x→x≠.dead→β' k=some (b,o)→(k.1 < m.length∧live m k=some x∧β k=some (b,o))∨(k=(m.length,none)∧b=w.heap.size):=by
  intro k x b o h1 h2 h3
  rw [hm'] at h1
  rcases live_push h1 with ⟨c,h4⟩ | ⟨c,h4⟩
  · rw [hβ',updN_ne (by omega)] at h3
    exact .inl ⟨c,h4,h3⟩
  · obtain ⟨k1,k2⟩:=k
    simp only at c
    subst c
    cases k2 with
    | none=>rw [hβ',updN_same] at h3; cases h3; exact .inr ⟨rfl,rfl⟩
    | some j=>rw [hβ',updN_row] at h3; cases h3
 have E:Evo F m β w m' β' { w with heap:=w.heap.push (.cells vs T) }:=by
  refine Evo.make hm (B:=fun b=>b=w.heap.size) rfl rfl ⟨rfl,Nat.le_refl _⟩ (by simp) (fun b hb=>.inr (by omega)) (fun b hb=>?_) ?_ ?_
  · show (w.heap.push _)[b]?=_
    rw [Array.getElem?_push,if_neg (by omega)]
  · rintro b ⟨k,x,p,h1,h2,h3⟩
    rcases key k x b p h1 h2 h3 with ⟨_,h4,h5⟩ | ⟨_,h4⟩
    · exact .inl ⟨k,x,p,h4,h2,h5⟩
    · exact .inr (by omega)
  · intro s x hs
    have hl:=slot_lt hs
    refine ⟨x,by rw [hm',List.getElem?_append_left hl]; exact hs,?_⟩
    by_cases hd:x=.dead
    · exact .inl hd
    · refine .inr ⟨Slot.like.refl _,by rw [hβ']; exact updN_ne (by simp only; omega),fun b p hb=>?_⟩
      have:=hm.blk_lt hs hd hb
      exact blkSize_congr (by show (w.heap.push _)[b]?=_; rw [Array.getElem?_push,if_neg (by omega)])
 refine ⟨hm.make (w':={ w with heap:=w.heap.push (.cells vs T) }) E (fun k l x y b o o' h1 h2 h3 h4 h5 h6=>?_) fun s x h=>?_,E,fun cap h1 h2=>?_⟩
 · rcases key k x b o h1 h2 h5 with ⟨_,g1,g2⟩ | ⟨g1,g2⟩ <;> rcases key l y b o' h3 h4 h6 with ⟨_,g3,g4⟩ | ⟨g3,g4⟩
   · exact hm.injK k l x y b o o' g1 h2 g3 h4 g2 g4
   · have:=hm.blkK g1 h2 g2; omega
   · have:=hm.blkK g3 h4 g4; omega
   · rw [g1,g3]
 · have h':=h
   rw [hm'] at h
   rcases get_push h with ⟨c,h1⟩ | ⟨c,h1⟩
   · refine .inl ⟨h1,fun i=>by rw [hβ']; exact updN_ne (by simp only; omega),fun k x b p hk hx hd hb=>?_⟩
     have:=hm.blkK hx hd hb
     show (w.heap.push _)[b]?=_
     rw [Array.getElem?_push,if_neg (by omega)]
   · subst c h1
     right
     refine ⟨hz,fun r hr=>?_,w.heap.size,0,by rw [hβ']; exact updN_same _ _ _,plain_push _ _ _,fun i r hr=>?_⟩
     · rw [List.eq_of_mem_replicate hr]; simp
     · have hi:i < n:=by have:=(List.getElem?_eq_some_iff.1 hr).1; simpa using this
       have r0:r=[]:=List.eq_of_mem_replicate (List.mem_of_getElem? hr)
       obtain ⟨v,hv,hh⟩:=hvs i hi
       refine ⟨v,by rw [Nat.zero_add]; show cellAt (w.heap.push _) _ _=_; rw [cell_push]; exact hv,?_⟩
       cases hg:brGet br i with
       | some c=>simp only [hg] at hh ⊢; exact hh.evo E
       | none =>
        simp only [hg] at hh ⊢
        have e:β' (m.length,some i)=none:=by rw [hβ']; exact updN_row _ _ _ _
        rw [e,r0,hh]
        exact ⟨rfl,rfl,none,rfl⟩
 · unfold RepOwn
   rw [gn]
   refine ⟨by simp,.inr ⟨w.heap.size,0,cap,vs.size,by rw [hβ']; exact updN_same _ _ _,by simp,h1,size_push _ _ _,by omega⟩⟩

theorem rowT_some {e:TypeId} {zi:D} (h:rowT P e=some zi):∃ z,elT P e=some z∧zVal P e=some (.slice none 0 0)∧z.1=1∧0 < zi.cells.length:=by
 unfold rowT at h
 obtain ⟨z,h1,h⟩:=bind_some' h
 split at h
 · rename_i hz
   split at h
   · rename_i c
     split at h
     · rename_i i hi
       obtain ⟨y,hy,rfl⟩:=Option.map_eq_some_iff.1 h
       obtain ⟨ti,_,_,_,_,e3,e4,_⟩:=elT_some hy
       exact ⟨z,h1,hz,c,by omega⟩
     · cases h
   · cases h
 · cases h
theorem do_mkrows {T e:TypeId} {zi:D} {x y:Operand} {x' y':Arg} {call:Call} {v:V} {m':Heap} (hm:MemOK F σ.mem β w.heap) (k:EnvOK w.heap (Avail F σ.mem β w.heap) σ.mem β σ.env a)
 (hT:P.underlying T=some (.slice e)) (hr:rowT P e=some zi) (ex:trArg x=some x') (ey:trArg y=some y') (h:evO call σ (.mkrows zi x' y')=some (v,m')) (o:Oper) (ho:o.op=.makeSlice T x y) :
 Does P F σ.mem β w (execOp a.eval o) v m':=by
 obtain ⟨z,hz,zv,hz1,hzi⟩:=rowT_some hr
 obtain ⟨ti,hti,hzd,e1,e2,e3,e4,e5⟩:=elT_some hz
 simp only [evO] at h
 obtain ⟨p,hp,h1⟩:=bind_some' h
 clear h
 obtain ⟨q,hq,h⟩:=bind_some' h1
 clear h1
 have ax:=Rep_int (Rep_arg k ex) hp
 have ay:=Rep_int (Rep_arg k ey) hq
 split at h
 · rename_i c
   cases h
   unfold LIM at c
   have ts:ti.size=1:=by omega
   obtain ⟨vs,hvs⟩:∃ vs:Array Value,vs=(Array.range (q.2.toNat*ti.size)).map fun k=>(Value.slice none 0 0).cells[k % (Value.slice none 0 0).cells.size]! := ⟨_,rfl⟩
   have vsz:vs.size=q.2.toNat:=by rw [hvs]; simp [ts]
   have vget:∀ i,i < q.2.toNat→vs[i]?=some (.slice none 0 0):=by
    intro i hi
    rw [hvs,Array.getElem?_map]
    simp [hi,ts,Value.cells,Nat.mod_one]
   obtain ⟨k1,k2,k3⟩:=new_rows (F:=F) (β:=β) (w:=w) (z:=zi) (br:=[]) (n:=p.2.toNat) (vs:=vs) (T:=e) hm hzi (fun i hi=>⟨_,vget i (by omega),rfl⟩)
   refine ⟨_,_,_,.inl ?_,k1,k2,k3 q.2.toNat (by omega) (by omega)⟩
   have w1:IntKind.i64.wrap p.2=p.2:=by simp [IntKind.wrap,IntKind.bits,IntKind.signed]; omega
   have w2:IntKind.i64.wrap q.2=q.2:=by simp [IntKind.wrap,IntKind.bits,IntKind.signed]; omega
   have hb:(ti.bytes:Int)*q.2≤16384*4294967296:=Int.mul_le_mul (by omega) (by omega) (by omega) (by omega)
   simp only [execOp,ho,Instr.makeSlice,ax,ay,Sem.run_bind,run_underlying hT,Result.andThen_ok,asInt,asIntOf,Sem.run_pure,run_tyInfo hti,w1,w2,run_size hti,run_askRoom]
   have n1:(decide (q.2 < 0) || decide ((ti.bytes:Int)*q.2 > 2 ^ 48))=false:=by simp; omega
   simp only [n1]
   have n2:((false || decide (p.2 < 0)) || decide (p.2 > q.2))=false:=by simp; omega
   simp only [n2]
   simp only [Bool.false_eq_true,if_false,Sem.run_bind,Sem.run_pure,Result.andThen_ok,run_askRoom,run_size hti]
   rw [hvs]
   by_cases h0:q.2.toNat*ti.size=0
   · have r0:Array.range 0=#[]:=rfl
     simp [h0,newRow,r0]
   · simp [h0,newRow,run_zVal zv]
 · cases h

theorem litBr_ok {h0:Array Obj} {A:Nat→Prop} {place:Nat→Option (Nat × Nat)} {len:Nat} (hp:∀ i,i < len→place i=some (i,1)) :
 ∀ (parts:List (Nat × V)) (vparts:List (Nat × Value)) (br br':List (Nat × C)) (cs:Array Value),
  All2 (fun (p:Nat × V) (q:Nat × Value)=>p.1=q.1∧p.1 < len∧RepV h0 A m β p.2 q.2) parts vparts→cs.size=len→Fresh h0 A m β br len cs→litBr br parts=some br' →
  ∃ cs',Instr.fill place cs vparts=some cs'∧cs'.size=len∧Fresh h0 A m β br' len cs':=by
 intro parts
 induction parts with
 | nil =>
  intro vparts br br' cs hr hl hf h
  cases hr
  simp only [litBr] at h
  cases h
  exact ⟨cs,rfl,hl,hf⟩
 | cons p parts ih =>
  intro vparts br br' cs hr hl hf h
  obtain ⟨i,v⟩:=p
  cases hr with
  | @cons _ q _ vs h1 t =>
   obtain ⟨i',u⟩:=q
   obtain ⟨rfl,hi,rv⟩:=h1
   simp only [litBr] at h
   obtain ⟨c,hc,h⟩:=bind_some' h
   have rv:RepC h0 A m β c u:=by rw [c?_some hc] at rv; exact rv
   have uc:u.cells=#[u]:=by
    have:=rv.isCell
    cases u <;> first | exact this.elim | rfl
   obtain ⟨cs',g1,g2,g3⟩:=ih vs _ br' (splice cs.toList i [u]).toArray t (by rw [List.size_toArray,splice_len (by simp; omega)]; simpa using hl) (fun j hj=>by
    by_cases e:i=j
    · subst e
      refine ⟨u,?_,by simp only [brGet,if_true]; exact rv⟩
      rw [List.getElem?_toArray,splice_get (by simp; omega),if_neg (by omega),if_pos (by simp),Nat.sub_self]
      rfl
    · obtain ⟨v',hv',hh⟩:=hf j hj
      refine ⟨v',?_,by simp only [brGet]; rw [if_neg e]; exact hh⟩
      rw [List.getElem?_toArray,splice_get (by simp; omega)]
      simp only [List.length_singleton]
      split
      · rw [Array.getElem?_toList]; exact hv'
      · rw [if_neg (by omega),Array.getElem?_toList]; exact hv') h
   refine ⟨cs',?_,g2,g3⟩
   simp only [Instr.fill,hp i hi]
   rw [if_neg (by simp [uc]; omega),fill_one _ _ _ (by rw [uc]; simp; omega),uc]
   exact g1
theorem do_litR {T e:TypeId} {zi:D} {len:Nat} {ps:Array (Nat × Operand)} {qs:List (Nat × Arg)} {call:Call} {v:V} {m':Heap} (hm:MemOK F σ.mem β w.heap)
 (k:EnvOK w.heap (Avail F σ.mem β w.heap) σ.mem β σ.env a) (hT:P.underlying T=some (.slice e)) (hr:rowT P e=some zi) (hlen:len≤2 ^ 24) (ep:elemsAt len ps.toList=some qs)
 (h:evO call σ (.litR zi len qs)=some (v,m')) (o:Oper) (ho:o.op=.buildSlice T len ps):Does P F σ.mem β w (execOp a.eval o) v m':=by
 obtain ⟨z,hz,zv,hz1,hzi⟩:=rowT_some hr
 obtain ⟨ti,hti,hzd,e1,e2,e3,e4,e5⟩:=elT_some hz
 have ts:ti.size=1:=by omega
 have hp:∀ i,i < len→(fun i=>some (i*ti.size,ti.size)) i=some (i,1):=fun i _=>by simp [ts]
 simp only [evO] at h
 obtain ⟨br,hbr,h⟩:=bind_some' h
 cases h
 have hr':=Rep_elems (len:=len) k ep
 obtain ⟨c0,hc0⟩:∃ c0:Array Value,c0=(Array.range (len*ti.size)).map fun k=>(Value.slice none 0 0).cells[k % (Value.slice none 0 0).cells.size]! := ⟨_,rfl⟩
 have c0s:c0.size=len:=by rw [hc0]; simp [ts]
 obtain ⟨cs',g1,g2,g3⟩:=litBr_ok hp _ _ _ _ c0 hr' c0s (fun i hi=>⟨.slice none 0 0,by
  rw [hc0,Array.getElem?_map]
  simp [hi,ts,Value.cells,Nat.mod_one],rfl⟩) hbr
 obtain ⟨k1,k2,k3⟩:=new_rows (F:=F) (β:=β) (w:=w) (z:=zi) (br:=br) (n:=len) (vs:=cs') (T:=e) hm hzi g3
 refine ⟨_,_,_,.inl ?_,k1,k2,k3 len (Nat.le_refl _) (by omega)⟩
 have hl:¬(len*ti.size > 2 ^ 24):=by rw [ts]; omega
 have ef:(ps.map fun (i,x)=>(i,a.eval x)).toList=ps.toList.map fun p=>(p.1,a.eval p.2):=by simp
 simp only [execOp,ho,Instr.buildSlice,Sem.run_bind,run_underlying hT,Result.andThen_ok,run_size hti,if_neg hl]
 rw [ef]
 rw [hc0] at g1
 by_cases c0:len*ti.size=0
 · rw [c0] at g1
   have r0:Array.range 0=#[]:=rfl
   simp only [c0,r0,Array.map_empty] at g1 ⊢
   simp [g1,newRow]
 · simp only [if_neg c0,Sem.run_bind,run_zVal zv,Result.andThen_ok,Sem.run_pure,g1]
   simp [newRow]

theorem do_lend {T:TypeId} {x:Operand} {x':Arg} {call:Call} {v:V} {m':Heap} (hm:MemOK F σ.mem β w.heap) (k:EnvOK w.heap (Avail F σ.mem β w.heap) σ.mem β σ.env a)
 (hs:szT P T=some 1) (hg:aggT P T=some false) (ex:trArg x=some x') (h:evO call σ (.lend x')=some (v,m')) (o:Oper) (ho:o.op=.load T x) :
 Does P F σ.mem β w (execOp a.eval o) v m':=by
 simp only [evO] at h
 obtain ⟨c,hc,h⟩:=bind_some' h
 have r:=Rep_arg k ex
 rw [c?_some hc] at r
 split at h
 · rename_i s i j
   split at h
   · rename_i z rs br hsl
     split at h
     · cases h
     · rename_i hj
       have hj:j=0:=by omega
       subst hj
       have r:RepPtr σ.mem β s i 0 (a.eval x):=r
       unfold RepPtr at r
       simp only [hsl] at r
       obtain ⟨hi,b,q,b1,b2⟩:=r
       obtain ⟨h0,h00,b',q',b1',hp,hcl⟩:=hm.slots s _ hsl
       rw [b1] at b1'
       cases b1'
       rw [Nat.add_zero] at b2
       obtain ⟨u,hu,hh⟩:=hcl i _ (List.getElem?_eq_getElem hi)
       have run:(execOp a.eval o).run P w=.ok (.value u) w:=by
        have hcell:w.cell? ⟨b,q+i,none⟩=some u:=by rw [cell_zero]; exact hu
        simp only [execOp,ho,Instr.loadAt,b2,Instr.sureAddr,loadVar,Sem.run_bind,Sem.run_pure,Result.andThen_ok,run_aggT hg]
        simp [hcell]
       split at h
       · rename_i c hgc
         cases h
         simp only [hgc] at hh
         exact .same hm run hh
       · rename_i hgn
         cases h
         obtain ⟨k1,k2,k3⟩:=lend_ok hm hsl hi hgn
         exact ⟨u,w,_,.inl run,k1,k2,k3 b q u b1 hu⟩
   · cases h
 · cases h

theorem grow_run {T U e f:TypeId} {z:Nat × Nat × D} {ty:TypeId} {zv:Value} (hT:P.underlying T=some (.slice e)) (hU:P.underlying U=some (.slice f)) (hz:elT P e=some z) (hzv:zVal P e=some zv) (hz2:zv.cells.size=z.1)
 {va vb:Value} {ad:Option Addr} {n1 n2 cap:Nat} {adb:Option Addr} {capb:Nat} {us vs:List Value} (ea:va=.slice ad n1 cap) (eb:vb=.slice adb n2 capb)
 (fa:∀ w1:World,w1.heap=w.heap→(Builtin.firstCells z.1 n1 va).run P w1=.ok us.toArray w1) (fb:∀ w1:World,w1.heap=w.heap→(Builtin.firstCells z.1 n2 vb).run P w1=.ok vs.toArray w1)
 (lim:n1+n2≤LIM) (big:¬n1+n2≤cap) :
 ∃ nc,n1+n2≤nc∧(Builtin.append_ #[T,U] ty #[va,vb]).run P w=.ok (.slice (some ⟨w.heap.size,0,none⟩) (n1+n2) nc) { w.drew with heap:=w.heap.push (.cells (us.toArray++vs.toArray++Builtin.zeroCells zv.cells (nc - (n1+n2))) e) }:=by
 obtain ⟨ti,hti,hzd,e1,e2,e3,e4,e5⟩:=elT_some hz
 unfold LIM at lim
 obtain ⟨w1,hw1⟩:∃ w1:World,w1=w.drew:=⟨_,rfl⟩
 obtain ⟨nc,hnc⟩:∃ nc,nc=(Question.appendCap (n1+n2) cap e).cut (w.tape w.drawn (.appendCap (n1+n2) cap e)):=⟨_,rfl⟩
 have hge:n1+n2≤nc:=by rw [hnc]; simp only [Question.cut]; omega
 have hh1:w1.heap=w.heap:=by rw [hw1]; rfl
 refine ⟨nc,hge,?_⟩
 have hnx:Builtin.nextslicecap (n1+n2) cap*ti.bytes≤2*4294967296*16384:=Nat.mul_le_mul (Nat.le_trans (nextslicecap_le (by omega)) (by omega)) e5
 have h63':¬(9223372036854775807 < ((n1:Int)+(n2:Int))):=by omega
 have h48':¬(281474976710656 < Builtin.nextslicecap (n1+n2) cap*ti.bytes):=by omega
 have hfo:=fa w1 hh1
 have hf:=fb w1 hh1
 rw [e1] at hfo hf
 have hzz:=run_zVal (P:=P) (w:=w1) hzv
 rw [hw1] at hfo hf hzz
 subst ea eb
 have hnc':=hnc
 simp only [Question.cut] at hnc'
 rw [hnc]
 simp [Builtin.append_,run_underlying hT,run_underlying hU,sizeOf,typeInfo,hti,Builtin.lenOf,big,h63',h48',Question.forced,hf,hfo,hzz,newRow,Question.cut]
 show World.alloc _ _=World.alloc w.drew _
 congr 2
 apply Array.ext'
 simp [List.append_assoc]

theorem rows_grown {s s2 len:Nat} {z:D} {rs:List (List D)} {c:C} {uv:Value} {w':World} {bN oN:Nat} (hm:MemOK F m β w.heap) (hs:m[s]?=some (.rows z rs [])) (hle:len≤rs.length)
 (hrc:RepC w.heap (Avail F m β w.heap) m β c uv) (os:w'.os=w.os) (tape:w'.tape=w.tape) (out:OutTo w w') (size:w.heap.size≤w'.heap.size) (hB:w.heap.size≤bN∨∃ o,β s=some (bN,o))
 (same:∀ b,b≠bN→w'.heap[b]?=w.heap[b]?) (hpl:Plain w'.heap bN) (old:∀ b0 o0,β s=some (b0,o0)→∀ i v,i < len→cellAt w.heap b0 (o0+i)=some v→cellAt w'.heap bN (oN+i)=some v)
 (new:cellAt w'.heap bN (oN+len)=some uv) (hsz:∀ b,b < w.heap.size→blkSize w'.heap b=blkSize w.heap b) :
 ∃ β',MemOK F ((m.set s .dead).set s2 .dead++[.rows z (rs.take len++[[]]) [(len,c)]]) β' w'.heap∧Evo F m β w ((m.set s .dead).set s2 .dead++[.rows z (rs.take len++[[]]) [(len,c)]]) β' w'∧β' m.length=some (bN,oN):=by
 obtain ⟨h0,h00,b0,o0,e1,hp,hcl⟩:=hm.slots s _ hs
 obtain ⟨m',hm'⟩:∃ m',m'=(m.set s .dead).set s2 .dead++[.rows z (rs.take len++[[]]) [(len,c)]]:=⟨_,rfl⟩
 have mlen:((m.set s Slot.dead).set s2 .dead).length=m.length:=by simp
 obtain ⟨β',hβ'⟩:∃ β':Place,β'=fun k=>if k.1=m.length then (match k.2 with | none=>some (bN,oN) | some i=>if i < len then β (s,some i) else none) else β k:=⟨_,rfl⟩
 have bnn:β' m.length=some (bN,oN):=by rw [hβ']; simp
 have bni:∀ i,i < len→β' (m.length,some i)=β (s,some i):=fun i hi=>by rw [hβ']; simp [hi]
 have bnl:∀ i,¬i < len→β' (m.length,some i)=none:=fun i hi=>by rw [hβ']; simp [hi]
 have bo:∀ k:Key,k.1≠m.length→β' k=β k:=fun k h=>by rw [hβ']; simp [h]
 rw [←hm']
 have gn:m'[m.length]?=some (.rows z (rs.take len++[[]]) [(len,c)]):=by rw [hm',List.getElem?_append_right (by omega),mlen,Nat.sub_self]; rfl
 have hsl:=slot_lt hs
 have oldi:∀ i (hi:i < len),live m (s,some i)=some (.vals z (rs[i]'(by omega))):=fun i hi=>(live_of hs (some i)).trans (by simp only [Slot.part,brGet,List.getElem?_eq_getElem (by omega:i < rs.length),Option.map_some])
 have key:∀ (k:Key) (x:Slot) (b o:Nat),live m' k=some x→x≠.dead→β' k=some (b,o)→(k.1≠m.length∧k.1≠s∧live m k=some x∧β k=some (b,o))∨(k=(m.length,none)∧b=bN)∨∃ i,i < len∧k=(m.length,some i)∧β (s,some i)=some (b,o):=by
  intro k x b o h1 h2 h3
  rw [hm'] at h1
  rcases live_push h1 with ⟨c1,h4⟩ | ⟨c1,h4⟩
  · rw [mlen] at c1
    obtain ⟨g1,g2⟩:=live_kill h4 h2
    obtain ⟨g3,g4⟩:=live_kill g1 h2
    rw [bo k (by omega)] at h3
    exact .inl ⟨by omega,g4,g3,h3⟩
  · rw [mlen] at c1
    obtain ⟨k1,k2⟩:=k
    simp only at c1
    subst c1
    cases k2 with
    | none=>rw [bnn] at h3; cases h3; exact .inr (.inl ⟨rfl,rfl⟩)
    | some i =>
     by_cases hi:i < len
     · rw [bni i hi] at h3; exact .inr (.inr ⟨i,hi,rfl,h3⟩)
     · rw [bnl i hi] at h3; cases h3
 have hO:w.heap.size≤bN∨Owned m β bN:=hB.imp id fun ⟨o,h⟩=>Owned.mk hs (by simp) h
 have E:Evo F m β w m' β' w':=by
  refine Evo.make hm (B:=fun b=>b=bN) os tape out size (fun b e=>by subst e; exact hO.symm) (fun b hb=>same b hb) ?_ ?_
  · rintro b ⟨k,x,o,h1,h2,h3⟩
    rcases key k x b o h1 h2 h3 with ⟨_,_,g1,g2⟩ | ⟨_,g1⟩ | ⟨i,hi,_,g1⟩
    · exact .inl ⟨k,x,o,g1,h2,g2⟩
    · subst g1; exact hO.symm
    · exact .inl ⟨(s,some i),_,o,oldi i hi,by simp,g1⟩
  · intro t sl ht
    have hl:=slot_lt ht
    by_cases c1:t=s
    · subst c1
      by_cases c2:t=s2
      · subst c2; exact ⟨.dead,by rw [hm',List.getElem?_append_left (by omega),List.getElem?_set_self (by simpa using hl)],.inl rfl⟩
      · exact ⟨.dead,by rw [hm',List.getElem?_append_left (by omega),List.getElem?_set_ne (fun e=>c2 e.symm),List.getElem?_set_self hl],.inl rfl⟩
    · by_cases c2:t=s2
      · subst c2; exact ⟨.dead,by rw [hm',List.getElem?_append_left (by omega),List.getElem?_set_self (by simpa using hl)],.inl rfl⟩
      · refine ⟨sl,by rw [hm',List.getElem?_append_left (by omega),List.getElem?_set_ne (fun e=>c2 e.symm),List.getElem?_set_ne (fun e=>c1 e.symm)]; exact ht,?_⟩
        by_cases hd:sl=.dead
        · exact .inl hd
        · exact .inr ⟨Slot.like.refl _,bo _ (by simp only; omega),fun b o hb=>hsz b (hm.blk_lt ht hd hb)⟩
 refine ⟨β',hm.make E (fun k l x y b o o' h1 h2 h3 h4 h5 h6=>?_) fun t sl ht=>?_,E,bnn⟩
 · have clash:∀ (k:Key) (x:Slot) (b o:Nat),live m k=some x→x≠.dead→β k=some (b,o)→k≠(s,none)→b≠bN:=by
    intro k x b o g1 g2 g3 g4 e
    subst e
    rcases hB with h | ⟨o2,h⟩
    · have:=hm.blkK g1 g2 g3; omega
    · exact g4 (hm.injK k s x _ b o o2 g1 g2 (live_s.trans hs) (by simp) g3 h)
   rcases key k x b o h1 h2 h5 with ⟨a0,a1,a2,a3⟩ | ⟨a1,a2⟩ | ⟨i,hi,a1,a2⟩ <;> rcases key l y b o' h3 h4 h6 with ⟨d0,d1,d2,d3⟩ | ⟨d1,d2⟩ | ⟨j,hj,d1,d2⟩
   · exact hm.injK k l x y b o o' a2 h2 d2 h4 a3 d3
   · exact absurd d2 (clash k x b o a2 h2 a3 fun e=>a1 (by rw [e]))
   · have:=hm.injK k (s,some j) x _ b o o' a2 h2 (oldi j hj) (by simp) a3 d2
     exact absurd (by rw [this]) a1
   · exact absurd a2 (clash l y b o' d2 h4 d3 fun e=>d1 (by rw [e]))
   · rw [a1,d1]
   · exact absurd a2 (clash (s,some j) _ b o' (oldi j hj) (by simp) d2 fun e=>by cases e)
   · have:=hm.injK (s,some i) l _ y b o o' (oldi i hi) (by simp) d2 h4 a2 d3
     exact absurd (by rw [←this]) d1
   · exact absurd d2 (clash (s,some i) _ b o (oldi i hi) (by simp) a2 fun e=>by cases e)
   · have:=hm.injK (s,some i) (s,some j) _ _ b o o' (oldi i hi) (by simp) (oldi j hj) (by simp) a2 d2
     cases this
     rw [a1,d1]
 · by_cases ct:t=m.length
   · subst ct
     rw [gn] at ht; cases ht
     right
     refine ⟨h0,fun r hr=>?_,bN,oN,bnn,hpl,fun i r hr=>?_⟩
     · rcases List.mem_append.1 hr with hr | hr
       · exact h00 r (List.mem_of_mem_take hr)
       · simp at hr; subst hr; simp
     · have tl:(rs.take len).length=len:=by simp; omega
       by_cases hi:i < len
       · rw [List.getElem?_append_left (by omega),List.getElem?_take_of_lt hi,List.getElem?_eq_getElem (by omega:i < rs.length)] at hr
         cases hr
         obtain ⟨v,hv,hh⟩:=hcl i _ (List.getElem?_eq_getElem (by omega:i < rs.length))
         refine ⟨v,old b0 o0 e1 i v hi hv,?_⟩
         simp only [brGet] at hh ⊢
         rw [if_neg (by omega)]
         simp only []
         rw [bni i hi]
         have sm:∀ b o,β (s,some i)=some (b,o)→w'.heap[b]?=w.heap[b]?:=fun b o hb=>same b fun e=>by
          subst e
          rcases hB with h | ⟨o2,h⟩
          · have:=hm.blkK (oldi i hi) (by simp) hb; omega
          · have:=hm.injK (s,some i) s _ _ b o o2 (oldi i hi) (by simp) (live_s.trans hs) (by simp) hb h
            cases this
         exact ⟨hh.1.evo E sm,hh.2.same sm⟩
       · have hil:i=len:=by
          have:=(List.getElem?_eq_some_iff.1 hr).1
          simp at this; omega
         subst hil
         refine ⟨uv,new,?_⟩
         simp only [brGet,if_true]
         exact hrc.evo E
   · have ht':=ht
     rw [hm'] at ht
     have htl:t < m.length:=by have:=slot_lt ht; simp at this; omega
     by_cases hd:sl=.dead
     · subst hd; exact .inr trivial
     · rw [List.getElem?_append_left (by omega)] at ht
       obtain ⟨g1,g2⟩:(m.set s Slot.dead)[t]?=some sl∧t≠s2:=by
        by_cases c:s2=t
        · subst c
          rw [List.getElem?_set_self (by simpa using htl)] at ht
          cases ht; exact absurd rfl hd
        · rw [List.getElem?_set_ne c] at ht; exact ⟨ht,fun e=>c e.symm⟩
       obtain ⟨g3,g4⟩:m[t]?=some sl∧t≠s:=by
        by_cases c:s=t
        · subst c
          rw [List.getElem?_set_self hsl] at g1
          cases g1; exact absurd rfl hd
        · rw [List.getElem?_set_ne c] at g1; exact ⟨g1,fun e=>c e.symm⟩
       refine .inl ⟨g3,fun i=>bo _ (by simp only; omega),fun k x b o hk hx hd' hb=>same b fun e=>?_⟩
       subst e
       rcases hB with h | ⟨o2,h⟩
       · have:=hm.blkK hx hd' hb; omega
       · have:=hm.injK k s x _ b o o2 hx hd' (live_s.trans hs) (by simp) hb h
         exact g4 (by rw [←hk,this])

theorem do_appendR {T U e f:TypeId} {zi:D} {x y:Operand} {x' y':Arg} {call:Call} {v:V} {m':Heap} (hm:MemOK F σ.mem β w.heap) (k:EnvOK w.heap (Avail F σ.mem β w.heap) σ.mem β σ.env a)
 (hT:P.underlying T=some (.slice e)) (hU:P.underlying U=some (.slice f)) (hr:rowT P e=some zi) (ex:trArg x=some x') (ey:trArg y=some y') (h:evO call σ (.appendR x' y')=some (v,m')) (ty:TypeId) :
 ∃ u w' β',(Builtin.append_ #[T,U] ty #[a.eval x,a.eval y]).run P w=.ok u w'∧MemOK F m' β' w'.heap∧Evo F σ.mem β w m' β' w'∧RepV w'.heap (Avail F m' β' w'.heap) m' β' v u:=by
 obtain ⟨z,hz,hzv,hz1,hzi⟩:=rowT_some hr
 have z2:(Value.slice none 0 0).cells.size=z.1:=by rw [hz1]; rfl
 simp only [evO] at h
 obtain ⟨ca,hca,h1⟩:=bind_some' h
 clear h
 obtain ⟨cb,hcb,h⟩:=bind_some' h1
 clear h1
 have ra:=Rep_arg k ex
 rw [c?_some hca] at ra
 have rb:=Rep_arg k ey
 rw [c?_some hcb] at rb
 split at h
 case h_2=>cases h
 rename_i s2 o2 n2
 split at h
 case h_2=>cases h
 rename_i z2' rs2 br2 hs2
 obtain ⟨c,hc,h1⟩:=bind_some' h
 clear h
 split at h1
 case isFalse=>cases h1
 rename_i hcond
 obtain ⟨rfl,rfl,hl2⟩:=hcond
 have hbr:brGet br2 0=some c:=by
  cases br2 with
  | nil=>simp [brOne] at hc
  | cons p r =>
   obtain ⟨i,c'⟩:=p
   simp only [brOne] at hc
   split at hc
   · rename_i e; cases hc; simp [brGet,e]
   · cases hc
 obtain ⟨h0,h00,b2,q2,e1,hp2,hcl2⟩:=hm.slots s2 _ hs2
 have rb:RepOwn w.heap σ.mem β s2 0 1 (a.eval y):=rb
 unfold RepOwn at rb
 simp only [hs2] at rb
 obtain ⟨_,⟨h01,_⟩ | ⟨b,o,capb,N,g1,eb,g3,g4,g5⟩⟩:=rb
 · cases h01
 rw [e1] at g1; cases g1
 rw [Nat.add_zero] at eb
 obtain ⟨uv,hu,huv⟩:=hcl2 0 _ (List.getElem?_eq_getElem (by omega))
 rw [Nat.add_zero] at hu
 simp only [hbr] at huv
 have fb:∀ w1:World,w1.heap=w.heap→(Builtin.firstCells z.1 1 (a.eval y)).run P w1=.ok [uv].toArray w1:=fun w1 hw1=>by
  rw [eb,hz1]
  simp only [Builtin.firstCells]
  have:=run_loadCells_list (P:=P) w1 ⟨b2,q2,none⟩ [uv] (fun j u hj=>by
   rw [cell_at,hw1]
   cases j with
   | zero=>simp at hj; subst hj; simpa using hu
   | succ j=>simp at hj)
  simpa using this
 split at h1
 ·
   cases h1
   have ra:a.eval x=.slice none 0 0:=ra
   have hm1:=ok_kill hm s2
   have E1:=evo_kill (F:=F) (β:=β) (m:=σ.mem) (s:=s2) w
   have mlen:(σ.mem.set s2 Slot.dead).length=σ.mem.length:=List.length_set
   obtain ⟨nc,hnc,hrun⟩:=grow_run (P:=P) (w:=w) (ty:=ty) (us:=[]) (vs:=[uv]) hT hU hz hzv z2 ra eb (fun w1 _=>by rw [ra]; rfl) fb (by unfold LIM; omega) (by omega)
   have ED:Evo F (σ.mem.set s2 .dead) β w (σ.mem.set s2 .dead) β w.drew:=evo_draw w _
   obtain ⟨k1,k2,k3⟩:=new_rows (F:=F) (β:=β) (w:=w.drew) (z:=z2') (br:=[(0,c)]) (n:=1) (vs:=[].toArray++[uv].toArray++Builtin.zeroCells (Value.slice none 0 0).cells (nc - (0+1))) (T:=e) hm1 h0 (fun i hi=>by
    have:i=0:=by omega
    subst this
    exact ⟨uv,by rw [Array.getElem?_append_left (by simp)]; simp,by simp only [brGet,if_true]; exact huv.evo (E1.trans ED)⟩)
   rw [mlen] at k1 k2 k3
   refine ⟨_,_,_,hrun,k1,(E1.trans ED).trans k2,?_⟩
   exact k3 nc (by omega) (by simp [size_zeroCells,Value.cells]; omega)
 ·
   rename_i s o len
   split at h1
   case h_2=>cases h1
   rename_i zr rs br hs
   split at h1
   case isFalse=>cases h1
   rename_i hcond
   obtain ⟨rfl,hbe,lim⟩:=hcond
   rw [List.isEmpty_iff] at hbe
   subst hbe
   cases h1
   have mlen:((σ.mem.set s Slot.dead).set s2 .dead).length=σ.mem.length:=by simp
   have gn:((σ.mem.set s Slot.dead).set s2 .dead++[Slot.rows zr (rs.take len++[[]]) [(len,c)]])[σ.mem.length]?=some (.rows zr (rs.take len++[[]]) [(len,c)]):=by
    rw [List.getElem?_append_right (by omega),mlen,Nat.sub_self]; rfl
   obtain ⟨hr0,hr00,b0,q0,f1,hp0,hcl⟩:=hm.slots s _ hs
   have ra:RepOwn w.heap σ.mem β s 0 len (a.eval x):=ra
   unfold RepOwn at ra
   simp only [hs] at ra
   obtain ⟨hle,ra⟩:=ra
   have hle:len≤rs.length:=by omega
   obtain ⟨vs0,w1,w2⟩:=exL (Q:=fun t u=>cellAt w.heap b0 (q0+t)=some u) len fun t ht=>by
    obtain ⟨u,hu,_⟩:=hcl t _ (List.getElem?_eq_getElem (by omega:t < rs.length))
    exact ⟨u,hu⟩
   obtain ⟨ada,capa,ea,hroom⟩:∃ ada capa,a.eval x=.slice ada len capa∧(len=0∧capa=0∨∃ N,ada=some ⟨b0,q0,none⟩∧len≤capa∧blkSize w.heap b0=some N∧q0+capa≤N):=by
    rcases ra with ⟨rfl,q,ra⟩ | ⟨b,o,cap,N,g1,g2,g3,g4,g5⟩
    · exact ⟨q,0,ra,.inl ⟨rfl,rfl⟩⟩
    · rw [f1] at g1; cases g1
      exact ⟨_,cap,g2,.inr ⟨N,by simp,g3,g4,by omega⟩⟩
   have fa:∀ w1':World,w1'.heap=w.heap→(Builtin.firstCells z.1 len (a.eval x)).run P w1'=.ok vs0.toArray w1':=fun w1' hw1=>by
    rw [ea,hz1]
    rcases hroom with ⟨rfl,rfl⟩ | ⟨N,rfl,_,_,_⟩
    · have:vs0=[]:=List.eq_nil_of_length_eq_zero w1
      subst this
      cases ada with
      | none=>rfl
      | some q =>
       simp only [Builtin.firstCells,Nat.zero_mul]
       have:=run_loadCells_list (P:=P) w1' q [] (by simp)
       simpa using this
    · simp only [Builtin.firstCells,Nat.mul_one]
      have:=run_loadCells_list (P:=P) w1' ⟨b0,q0,none⟩ vs0 (fun j u hj=>by rw [cell_at,hw1]; exact w2 j u hj)
      rw [w1] at this
      exact this
   by_cases big:len+1≤capa
   ·
     rcases hroom with ⟨_,rfl⟩ | ⟨N,rfl,hcap,hN,hq⟩
     · omega
     obtain ⟨cur,T',hcur⟩:=hp0
     have hNs:N=cur.size:=by simp only [blkSize,hcur] at hN; cases hN; rfl
     have ucell:isCell uv:=huv.isCell
     obtain ⟨w',r1,r2,r3,r4,r5,r6,r7⟩:=run_put (P:=P) (w:=w) (b:=b0) (p:=q0+len) (vs:=[uv]) hcur (by simp; omega) (by simpa using ucell)
     have cellw:∀ t,cellAt w'.heap b0 t=(splice cur.toList (q0+len) [uv])[t]?:=by intro t; simp only [cellAt,r7]; simp
     have cellold:∀ t,cellAt w.heap b0 t=cur.toList[t]?:=by intro t; simp only [cellAt,hcur]; simp
     obtain ⟨β',k1,k2,k3⟩:=rows_grown (s2:=s2) (w':=w') (bN:=b0) (oN:=q0) hm hs hle huv r2 r3 r4 (by omega) (.inr ⟨q0,f1⟩) r6 ⟨_,_,r7⟩ (fun b' o' hb' i v' hi hv=>by
      rw [f1] at hb'; cases hb'
      rw [cellw,splice_get (by simp; omega),if_pos (by omega),←cellold]; exact hv)
      (by rw [cellw,splice_get (by simp; omega),if_neg (by omega),if_pos (by simp),Nat.sub_self]; rfl)
      (fun b' hb'=>by
       by_cases c:b'=b0
       · subst c
         simp only [blkSize,r7,hcur]
         congr 1
         rw [List.size_toArray,splice_len (by simp; omega)]
         simp
       · exact blkSize_congr (r6 b' c))
     have hrun:=append_room (P:=P) (w:=w) (ty:=ty) hT hU hz (sLen:=len) (n:=1) (cap:=capa) (capb:=capb) (ad:=some ⟨b0,q0,none⟩) (adb:=some ⟨b2,q2,none⟩) (vs:=[uv]) (by have:=fb w rfl; rw [eb] at this; exact this) big
     have r1':(storeCells ((⟨b0,q0,none⟩:Addr).add (len*z.1)) [uv]).run P w=.ok () w':=by rw [hz1,Nat.mul_one,addr_add]; exact r1
     simp only [r1',Result.andThen_ok] at hrun
     refine ⟨.slice (some ⟨b0,q0,none⟩) (len+1) capa,w',β',by rw [ea,eb]; exact hrun,k1,k2,?_⟩
     show RepOwn _ _ _ _ _ _ _
     unfold RepOwn
     rw [gn]
     refine ⟨by simp; omega,.inr ⟨b0,q0,capa,N,k3,by simp,big,?_,by omega⟩⟩
     simp only [blkSize,r7,hNs]
     congr 1
     rw [List.size_toArray,splice_len (by simp; omega)]
     simp
   ·
     obtain ⟨nc,hnc,hrun⟩:=grow_run (P:=P) (w:=w) (ty:=ty) (us:=vs0) (vs:=[uv]) hT hU hz hzv z2 ea eb fa fb lim big
     obtain ⟨cells,hcells⟩:∃ cells,cells=vs0.toArray++[uv].toArray++Builtin.zeroCells (Value.slice none 0 0).cells (nc - (len+1)):=⟨_,rfl⟩
     rw [←hcells] at hrun
     have csz:cells.size=nc:=by rw [hcells]; simp [size_zeroCells,Value.cells,w1]; omega
     obtain ⟨w',hw'⟩:∃ w':World,w'={ w.drew with heap:=w.heap.push (.cells cells e) }:=⟨_,rfl⟩
     rw [←hw'] at hrun
     have hh:w'.heap=w.heap.push (.cells cells e):=by rw [hw']
     obtain ⟨β',k1,k2,k3⟩:=rows_grown (s2:=s2) (w':=w') (bN:=w.heap.size) (oN:=0) hm hs hle huv (by rw [hw']; rfl) (by rw [hw']; rfl) (by rw [hw']; exact ⟨rfl,Nat.le_succ _⟩) (by rw [hh]; simp) (.inl (Nat.le_refl _))
      (fun b' hb'=>by rw [hh,Array.getElem?_push,if_neg (by omega)]) (by rw [hh]; exact plain_push _ _ _) (fun b' o' hb' i v' hi hv=>by
       rw [f1] at hb'; cases hb'
       have hvi:vs0[i]?=some v':=by
        have:=w2 i _ (List.getElem?_eq_getElem (by omega))
        rw [this] at hv; cases hv
        exact List.getElem?_eq_getElem (by omega)
       rw [hh,cell_push,Nat.zero_add,hcells,Array.getElem?_append_left (by simp; omega),Array.getElem?_append_left (by simp; omega)]
       simpa using hvi)
      (by rw [hh,cell_push,Nat.zero_add,hcells,Array.getElem?_append_left (by simp; omega),Array.getElem?_append_right (by simp; omega)]; simp [w1])
      (fun b' hb'=>blkSize_congr (by rw [hh,Array.getElem?_push,if_neg (by omega)]))
     refine ⟨_,w',β',hrun,k1,k2,?_⟩
     show RepOwn _ _ _ _ _ _ _
     unfold RepOwn
     rw [gn]
     refine ⟨by simp; omega,.inr ⟨w.heap.size,0,nc,cells.size,k3,by simp,by omega,by rw [hh]; exact size_push _ _ _,by omega⟩⟩
 · cases h1

theorem seeBr_get {m:Heap}:∀ {br:List (Nat × C)} {rs rs':List (List D)},seeBr m br rs=some rs'→rs'.length=rs.length∧∀ i,i < rs.length→(match brGet br i with | none=>rs'[i]?=rs[i]? | some c=>∃ x,seeRow m c=some x∧rs'[i]?=some x)
 | [],rs,rs',h=>by cases h; exact ⟨rfl,fun i hi=>rfl⟩
 | (j,c)::r,rs,rs',h=>by
  simp only [seeBr] at h
  obtain ⟨x,hx,h⟩:=bind_some' h
  obtain ⟨rs1,h1,h⟩:=bind_some' h
  cases h
  obtain ⟨e1,e2⟩:=seeBr_get h1
  refine ⟨by simpa using e1,fun i hi=>?_⟩
  simp only [brGet]
  by_cases c1:j=i
  · subst c1
    rw [if_pos rfl]
    exact ⟨x,hx,List.getElem?_set_self (by omega)⟩
  · rw [if_neg c1]
    have:=e2 i hi
    cases hg:brGet r i with
    | none=>simp only [hg] at this ⊢; rw [List.getElem?_set_ne c1]; exact this
    | some c2=>simp only [hg] at this ⊢; obtain ⟨y,h1,h2⟩:=this; exact ⟨y,h1,by rw [List.getElem?_set_ne c1]; exact h2⟩
theorem seeRow_rep (hm:MemOK F m β w.heap) {c:C} {v:Value} {x:List D} (r:RepC w.heap (Avail F m β w.heap) m β c v) (e:seeRow m c=some x):RepD w.heap (Avail F [] β w.heap) (.list x) v:=by
 have up:∀ (m':Heap) (b:Nat),Avail F m' β w.heap b→Avail F [] β w.heap b:=fun m' b hb=>⟨hb.1,hb.2.1,fun ⟨s,sl,o,h1,_⟩=>by simp [live] at h1⟩
 unfold seeRow at e
 split at e
 · cases e; exact RepD.mono (fun b hb=>⟨up _ b hb,rfl⟩) r
 · cases e
   have r:v=.slice none 0 0:=r
   subst r
   exact .empty _ _
 · split at e
   · rename_i hs
     cases e
     exact RepD.mono (fun b hb=>⟨up _ b hb,rfl⟩) (own_data hm hs r)
   · cases e
 · cases e
theorem seeC_rep (hm:MemOK F m β w.heap) {c:C} {v:Value} {d:D} (r:RepC w.heap (Avail F m β w.heap) m β c v) (e:seeC m c=some d):RepD w.heap (Avail F [] β w.heap) d v:=by
 have up:∀ (m':Heap) (b:Nat),Avail F m' β w.heap b→Avail F [] β w.heap b:=fun m' b hb=>⟨hb.1,hb.2.1,fun ⟨s,sl,o,h1,_⟩=>by simp [live] at h1⟩
 have other:cellD c=some d→RepD w.heap (Avail F [] β w.heap) d v:=fun h=>RepD.mono (fun b hb=>⟨up _ b hb,rfl⟩) (cellD_rep r h)
 cases c with
 | own s off len =>
  simp only [seeC] at e
  split at e
  · rename_i hs
    cases e
    exact RepD.mono (fun b hb=>⟨up _ b hb,rfl⟩) (own_data hm hs r)
  · rename_i z rs br hs
    obtain ⟨rs',h1,e⟩:=bind_some' e
    cases e
    obtain ⟨hz,hall,b0,o0,e1,hp,hcl⟩:=hm.slots s _ hs
    obtain ⟨hln,hget⟩:=seeBr_get h1
    have r:RepOwn w.heap m β s off len v:=r
    unfold RepOwn at r
    simp only [hs] at r
    obtain ⟨hlen,r⟩:=r
    have hl:(((rs'.drop off).take len).map D.list).length=len:=by simp; omega
    rcases r with ⟨rfl,x,rfl⟩ | ⟨b,o,cap,N,b1,rfl,b3,b4,b5⟩
    · simp; exact .empty _ _
    · rw [e1] at b1; cases b1
      have free:∀ (i:Option Nat) (x:Slot) (b o:Nat),live m (s,i)=some x→x≠.dead→β (s,i)=some (b,o)→Avail F [] β w.heap b:=by
       intro i x b o hx hd hb
       refine ⟨hm.blkK hx hd hb,hm.nf b ⟨_,_,_,hx,hd,hb⟩,fun ⟨s,sl,o,h1,_⟩=>by simp [live] at h1⟩
      have each:∀ i,i < len→∃ u,cellAt w.heap b0 (o0+off+i)=some u∧∀ d,(((rs'.drop off).take len).map D.list)[i]?=some d→RepD w.heap (Avail F [] β w.heap) d u:=by
       intro i hi
       have hlt:off+i < rs.length:=by omega
       obtain ⟨u,hu,hh⟩:=hcl (off+i) _ (List.getElem?_eq_getElem hlt)
       refine ⟨u,by rw [←hu,Nat.add_assoc],fun d hd=>?_⟩
       have hg:=hget (off+i) hlt
       rw [List.getElem?_map,List.getElem?_take_of_lt hi,List.getElem?_drop] at hd
       cases hb:brGet br (off+i) with
       | none =>
        simp only [hb] at hh hg
        rw [hg,List.getElem?_eq_getElem hlt] at hd
        cases hd
        refine lies_data hz (hall _ (List.getElem_mem hlt)) hh.1 hh.2 (fun b o hb'=>?_) (fun b hb'=>up _ b hb')
        exact free (some (off+i)) (.vals z rs[off+i]) b o ((live_of hs _).trans (by simp only [Slot.part,hb,List.getElem?_eq_getElem hlt,Option.map_some])) (by simp) hb'
       | some c =>
        simp only [hb] at hh hg
        obtain ⟨x,g1,g2⟩:=hg
        rw [g2] at hd
        cases hd
        exact seeRow_rep hm hh g1
      obtain ⟨u,hu⟩:∃ u:Nat→Value,∀ i,i < len→cellAt w.heap b0 (o0+off+i)=some (u i)∧∀ d,(((rs'.drop off).take len).map D.list)[i]?=some d→RepD w.heap (Avail F [] β w.heap) d (u i):=by
       refine ⟨fun i=>if h:i < len then Classical.choose (each i h) else undef,fun i hi=>?_⟩
       simp only [hi,dite_true]
       exact Classical.choose_spec (each i hi)
      have key:=RepD.list (h:=w.heap) (A:=Avail F [] β w.heap) (((rs'.drop off).take len).map D.list) b0 (o0+off) 1 cap (fun i _=>u i) (free none _ b0 o0 (live_s.trans hs) (by simp) e1) (by omega)
       (fun i d hd=>by rw [List.getElem?_map] at hd; obtain ⟨q,_,rfl⟩:=Option.map_eq_some_iff.1 hd; rfl)
       (fun i j hi hj=>by
        have:j=0:=by omega
        subst this
        rw [Nat.mul_one,Nat.add_zero]
        exact (hu i (by rw [hl] at hi; exact hi)).1)
       (fun i j d e hd he=>by
        have hi:i < len:=by have:=(List.getElem?_eq_some_iff.1 hd).1; rw [hl] at this; exact this
        have hd':=hd
        rw [List.getElem?_map] at hd'
        obtain ⟨q,_,rfl⟩:=Option.map_eq_some_iff.1 hd'
        have:e=D.list q:=by
         cases j with
         | zero=>simp [D.cells] at he; exact he.symm
         | succ j=>simp [D.cells] at he
        subst this
        exact (hu i hi).2 _ hd)
       (by rw [hl]; exact b3)
      rw [hl] at key
      exact key
  · cases e
 | _=>exact other (by simpa only [seeC] using e)
theorem seeV_rep (hm:MemOK F m β w.heap) {x y:V} {v:Value} (r:RepV w.heap (Avail F m β w.heap) m β x v) (e:seeV m x=some y):RepV w.heap (Avail F [] β w.heap) [] β y v:=by
 unfold seeV at e
 split at e
 · obtain ⟨d,h1,e⟩:=bind_some' e
   cases e
   exact seeC_rep hm r h1
 · rename_i cs
   obtain ⟨ds,h1,e2⟩:=bind_some' e
   clear e
   cases e2
   obtain ⟨vs,rfl,r⟩:=r
   refine ⟨vs,rfl,?_⟩
   generalize vs.toList=us at r
   induction r generalizing ds with
   | nil=>cases h1; exact .nil
   | @cons c u cs us h t ih =>
    simp only [seeCs] at h1
    obtain ⟨d,g1,h1⟩:=bind_some' h1
    obtain ⟨ds',g2,h1⟩:=bind_some' h1
    cases h1
    exact .cons (seeC_rep hm h g1) (ih _ g2)
 · cases e
theorem seeVs_rep (hm:MemOK F m β w.heap) {xs ys:List V} {us:List Value} (r:All2 (RepV w.heap (Avail F m β w.heap) m β) xs us) (e:seeVs m xs=some ys):All2 (RepV w.heap (Avail F [] β w.heap) [] β) ys us:=by
 induction r generalizing ys with
 | nil=>cases e; exact .nil
 | cons h t ih =>
  simp only [seeVs] at e
  obtain ⟨d,g1,e⟩:=bind_some' e
  obtain ⟨ds',g2,e⟩:=bind_some' e
  cases e
  exact .cons (seeV_rep hm h g1) (ih g2)
theorem plainC_rep {h h':Array Obj} {A A':Nat→Prop} {m m':Heap} {β β':Place} {c:C} {v:Value} (hc:c.plain=true) (r:RepC h A m β c v):RepC h' A' m' β' c v:=by
 unfold C.plain at hc
 split at hc
 · have r:RepD h A _ v:=r
   cases r
   exact RepD.int _ _
 · have r:RepD h A _ v:=r
   cases r
   exact RepD.bool _
 · cases hc
theorem plain_rep {h h':Array Obj} {A A':Nat→Prop} {m m':Heap} {β β':Place} {x:V} {v:Value} (hx:x.plain=true) (r:RepV h A m β x v):RepV h' A' m' β' x v:=by
 have cells:∀ (cs:List C) (us:List Value),cs.all C.plain=true→All2 (RepC h A m β) cs us→All2 (RepC h' A' m' β') cs us:=by
  intro cs us hc r
  induction r with
  | nil=>exact .nil
  | cons h t ih =>
   simp only [List.all_cons,Bool.and_eq_true] at hc
   exact .cons (plainC_rep hc.1 h) (ih hc.2)
 cases x with
 | one c=>exact plainC_rep hx r
 | agg cs=>obtain ⟨vs,e,r⟩:=r; exact ⟨vs,e,cells _ _ hx r⟩
 | tup xs =>
  obtain ⟨vs,e,r⟩:=r
  refine ⟨vs,e,?_⟩
  clear e
  have hx:xs.all (fun x=>x.2.all C.plain)=true:=hx
  generalize vs.toList=l at r
  induction r with
  | nil=>exact .nil
  | @cons x u xs us h1 t ih =>
   rw [List.all_cons,Bool.and_eq_true] at hx
   refine .cons ?_ (ih (by simpa only [V.plain] using hx.2) hx.2)
   obtain ⟨g,cs⟩:=x
   cases g with
   | true=>obtain ⟨us,e,r⟩:=h1; exact ⟨us,e,cells _ _ hx.1 r⟩
   | false =>
    obtain ⟨c,e,r⟩:=h1
    simp only at e
    subst e
    simp only [List.all_cons,List.all_nil,Bool.and_true] at hx
    exact ⟨c,rfl,plainC_rep hx.1 r⟩
 | dead=>cases hx
end

section
variable {F F':Nat→Prop} {β β':Place} {m m':Heap} {h:Array Obj}

theorem find_some:∀ {ids:List Nat} {s i t:Nat},find s ids i=some t→i≤t∧ids[t - i]?=some s
 | [],s,i,t,e=>by simp [find] at e
 | x::r,s,i,t,e=>by
  simp only [find] at e
  split at e
  · rename_i hx; cases e; exact ⟨Nat.le_refl _,by simp [hx]⟩
  · obtain ⟨h1,h2⟩:=find_some e
    refine ⟨by omega,?_⟩
    have:t - i=t - (i+1)+1:=by omega
    rw [this,List.getElem?_cons_succ]; exact h2
theorem find_none:∀ {ids:List Nat} {s i:Nat},find s ids i=none→s ∉ ids
 | [],s,i,_=>by simp
 | x::r,s,i,e=>by
  simp only [find] at e
  split at e
  · cases e
  · rename_i hx
    simp only [List.mem_cons,not_or]
    exact ⟨fun c=>hx c.symm,find_none e⟩
theorem find_nodup:∀ {ids:List Nat} {s t i:Nat},ids.Nodup→ids[t]?=some s→find s ids i=some (i+t)
 | [],s,t,i,_,e=>by simp at e
 | x::r,s,0,i,_,e=>by simp at e; simp [find,e]
 | x::r,s,t+1,i,hn,e=>by
  simp only [List.getElem?_cons_succ] at e
  have hx:x≠s:=fun c=>by
   subst c
   exact (List.nodup_cons.1 hn).1 (List.mem_of_getElem? e)
  simp only [find,if_neg hx]
  rw [find_nodup (List.nodup_cons.1 hn).2 e]
  congr 1; omega

theorem memN_iff:∀ {l:List Nat} {s:Nat},memN s l=true↔s∈l
 | [],s=>by simp [memN]
 | x::r,s=>by
  simp only [memN]
  split
  · rename_i c; simp [c]
  · rename_i c
    rw [memN_iff]
    simp only [List.mem_cons]
    exact ⟨.inr,fun h=>h.resolve_left fun e=>c e.symm⟩
theorem reach_nodup (m:Heap):∀ (n:Nat) (todo acc:List Nat),acc.Nodup→(reach m n todo acc).Nodup
 | 0,_,acc,h=>h
 | _+1,[],acc,h=>h
 | n+1,s::r,acc,h=>by
  simp only [reach]
  split
  · exact reach_nodup m n r acc h
  · rename_i c
    refine reach_nodup m n _ _ ?_
    rw [List.nodup_append]
    refine ⟨h,by simp,fun a ha b hb e=>?_⟩
    simp at hb
    subst hb e
    exact c (memN_iff.2 ha)
theorem reach_prefix (m:Heap):∀ (n:Nat) (todo acc:List Nat),acc <+: reach m n todo acc
 | 0,_,acc=>List.prefix_refl _
 | _+1,[],acc=>List.prefix_refl _
 | n+1,s::r,acc=>by
  simp only [reach]
  split
  · exact reach_prefix m n r acc
  · exact (List.prefix_append acc [s]).trans (reach_prefix m n _ _)

theorem mapC_dead {sl:Slot} {f:C→C} (h:sl.mapC f=.dead):sl=.dead:=by cases sl <;> simp [Slot.mapC] at h ⊢
theorem mapC_like (sl:Slot) (f:C→C):(sl.mapC f).like sl:=by cases sl <;> simp [Slot.mapC,Slot.like]
theorem brGet_map (f:C→C):∀ (br:List (Nat × C)) (i:Nat),brGet (br.map fun x=>(x.1,f x.2)) i=(brGet br i).map f
 | [],_=>rfl
 | (j,c)::r,i=>by
  simp only [List.map_cons,brGet]
  split
  · rfl
  · exact brGet_map f r i
theorem part_mapC (sl:Slot) (f:C→C) (i:Option Nat):(sl.mapC f).part i=(sl.part i).map (Slot.mapC f):=by
 cases i with
 | none=>rfl
 | some i =>
  cases sl with
  | rows z rs br =>
   simp only [Slot.mapC,Slot.part,brGet_map]
   cases brGet br i with
   | none=>simp only [Option.map_none]; cases rs[i]? <;> rfl
   | some c=>rfl
  | _=>rfl
theorem like_mapC (sl:Slot) (f:C→C):sl.like (sl.mapC f):=by cases sl <;> simp [Slot.mapC,Slot.like]

section
variable {ρ:Nat→Option Nat} (fwd:∀ s t,ρ s=some t→∀ sl,m[s]?=some sl→m'[t]?=some (sl.mapC (C.ren ρ))∧∀ i:Option Nat,β' (t,i)=β (s,i)) (av:∀ b,Avail F m β h b→Avail F' m' β' h b)
include fwd
theorem ren_ptr {s t i j:Nat} {v:Value} (e:ρ s=some t) (r:RepPtr m β s i j v):RepPtr m' β' t i j v:=by
 unfold RepPtr at r
 cases hs:m[s]? with
 | none=>simp only [hs] at r
 | some sl =>
  simp only [hs] at r
  obtain ⟨h1,h2⟩:=fwd s t e sl hs
  unfold RepPtr
  rw [h1,h2 none]
  cases sl with
  | vals z xs=>exact r
  | cells cs=>exact r
  | rows z rs br=>exact r
  | map es=>exact r
  | dead=>exact r
theorem ren_mp {s t:Nat} {v:Value} (e:ρ s=some t) (r:RepMp m β s v):RepMp m' β' t v:=by
 unfold RepMp at r
 cases hs:m[s]? with
 | none=>simp only [hs] at r
 | some sl =>
  simp only [hs] at r
  obtain ⟨h1,h2⟩:=fwd s t e sl hs
  unfold RepMp
  rw [h1,h2 none]
  cases sl <;> exact r
theorem ren_own {s t i j:Nat} {v:Value} (e:ρ s=some t) (r:RepOwn h m β s i j v):RepOwn h m' β' t i j v:=by
 unfold RepOwn at r
 cases hs:m[s]? with
 | none=>simp only [hs] at r
 | some sl =>
  simp only [hs] at r
  obtain ⟨h1,h2⟩:=fwd s t e sl hs
  unfold RepOwn
  rw [h1,h2 none]
  cases sl with
  | vals z xs=>exact r
  | cells cs=>exact r
  | rows z rs br=>exact r
  | map es=>exact r
  | dead=>exact r
include av
theorem ren_caps:∀ {caps:List Cap} {vs:List Value} {cs:List Cap},All2 (RepCap h (Avail F m β h) m β) caps vs→renCaps ρ caps=some cs→All2 (RepCap h (Avail F' m' β' h) m' β') cs vs
 | [],_,cs,r,e=>by cases r; simp only [renCaps] at e; cases e; exact .nil
 | .d x::r,_,cs,k,e=>by
  cases k with
  | cons h1 t =>
   simp only [renCaps] at e
   obtain ⟨cs',g,e⟩:=bind_some' e
   cases e
   exact .cons (RepD.mono (fun b hb=>⟨av b hb,rfl⟩) h1) (ren_caps t g)
 | .p s::r,_,cs,k,e=>by
  cases k with
  | cons h1 t =>
   simp only [renCaps] at e
   obtain ⟨q,hq,e⟩:=bind_some' e
   obtain ⟨cs',g,e⟩:=bind_some' e
   cases e
   exact .cons (ren_ptr fwd hq h1) (ren_caps t g)
theorem ren_rep {c:C} {v:Value} (r:RepC h (Avail F m β h) m β c v):RepC h (Avail F' m' β' h) m' β' (c.ren ρ) v:=by
 have ic:=r.isCell
 cases c with
 | d x=>exact RepD.mono (fun b hb=>⟨av b hb,rfl⟩) r
 | nil=>exact r
 | own s i j =>
  simp only [C.ren]
  split
  · rename_i t e; exact ren_own fwd e r
  · exact ic
 | ptr s i j =>
  simp only [C.ren]
  split
  · rename_i t e; exact ren_ptr fwd e r
  · exact ic
 | mp s =>
  simp only [C.ren]
  split
  · rename_i t e; exact ren_mp fwd e r
  · exact ic
 | fn f caps =>
  obtain ⟨vs,rfl,r⟩:=r
  simp only [C.ren]
  split
  · rename_i cs e; exact ⟨vs,rfl,ren_caps fwd av r e⟩
  · exact ic
 | dead=>exact r
theorem ren_slot {s t:Nat} {sl:Slot} (hb:∀ i:Option Nat,β' (t,i)=β (s,i)) (r:SlotRel h (Avail F m β h) m β s sl):SlotRel h (Avail F' m' β' h) m' β' t (sl.mapC (C.ren ρ)):=by
 have lies:∀ (z:D) (xs:List D) (p:Option (Nat × Nat)),Lies h (Avail F m β h) z xs p→Lies h (Avail F' m' β' h) z xs p:=by
  intro z xs p hl
  cases p with
  | none=>exact hl
  | some p =>
   obtain ⟨b,o⟩:=p
   refine ⟨hl.1,fun i j d x hd hx=>?_⟩
   obtain ⟨v,hv,hr⟩:=hl.2 i j d x hd hx
   exact ⟨v,hv,hr.mono fun b hb=>⟨av b hb,rfl⟩⟩
 cases sl with
 | vals z xs =>
  obtain ⟨h1,h2,h3⟩:=r
  refine ⟨h1,h2,?_⟩
  rw [hb none]
  exact lies _ _ _ h3
 | cells cs =>
  obtain ⟨b,o,e1,h1,h2⟩:=r
  refine ⟨b,o,(hb none).trans e1,h1,fun j c hc=>?_⟩
  rw [List.getElem?_map] at hc
  obtain ⟨c',g1,rfl⟩:=Option.map_eq_some_iff.1 hc
  obtain ⟨v,hv,hr⟩:=h2 j c' g1
  exact ⟨v,hv,ren_rep fwd av hr⟩
 | rows z rs br =>
  obtain ⟨h0,h00,b,o,e1,h1,h2⟩:=r
  refine ⟨h0,h00,b,o,(hb none).trans e1,h1,fun i r hr=>?_⟩
  obtain ⟨v,hv,hh⟩:=h2 i r hr
  refine ⟨v,hv,?_⟩
  rw [brGet_map]
  cases hg:brGet br i with
  | some c=>simp only [hg] at hh; exact ren_rep fwd av hh
  | none=>simp only [hg] at hh; simp only [Option.map_none]; rw [hb (some i)]; exact ⟨lies _ _ _ hh.1,hh.2⟩
 | map es =>
  obtain ⟨b,o,e1,ents,cl,h1,h2⟩:=r
  exact ⟨b,o,(hb none).trans e1,ents,cl,h1,h2.mono fun b hb=>⟨av b hb,rfl⟩⟩
 | dead=>trivial
end

def selβ (ids:List Nat) (β:Place):Place:=fun k=>match ids[k.1]? with | some s=>β (s,k.2) | none=>none

theorem sel_get {ids:List Nat} {m:Heap} {t:Nat} {sl:Slot} (e:(sel ids m)[t]?=some sl):∃ s,ids[t]?=some s∧sl=(m.getD s .dead).mapC (C.ren fun t=>find t ids 0):=by
 unfold sel at e
 rw [List.getElem?_map] at e
 obtain ⟨s,h1,h2⟩:=Option.map_eq_some_iff.1 e
 exact ⟨s,h1,h2.symm⟩
theorem getD_some {m:Heap} {s:Nat} {sl:Slot} (e:m[s]?=some sl):m.getD s .dead=sl:=by simp [List.getD_eq_getElem?_getD,e]
theorem getD_live {m:Heap} {s:Nat} (e:m.getD s .dead≠.dead):m[s]?=some (m.getD s .dead):=by
 rw [List.getD_eq_getElem?_getD] at e ⊢
 cases hs:m[s]? with
 | none=>rw [hs] at e; exact absurd rfl e
 | some x=>rfl

theorem sel_fwd {ids:List Nat}:∀ s t,find s ids 0=some t→∀ sl,m[s]?=some sl→(sel ids m)[t]?=some (sl.mapC (C.ren fun t=>find t ids 0))∧∀ i:Option Nat,selβ ids β (t,i)=β (s,i):=by
 intro s t e sl hs
 have h1:=(find_some e).2
 rw [Nat.sub_zero] at h1
 refine ⟨?_,fun i=>by simp only [selβ,h1]⟩
 unfold sel
 rw [List.getElem?_map,h1,Option.map_some,getD_some hs]
theorem sel_back {ids:List Nat} {k:Key} {x':Slot} (e:live (sel ids m) k=some x') (hd:x'≠.dead) :
 ∃ s x,ids[k.1]?=some s∧live m (s,k.2)=some x∧x≠.dead∧selβ ids β k=β (s,k.2):=by
 obtain ⟨s0,e1,e2⟩:=Option.bind_eq_some_iff.1 e
 obtain ⟨s,h1,h2⟩:=sel_get e1
 have hn:=part_ne e2 hd
 have:m.getD s .dead≠.dead:=fun c=>hn (by rw [h2,c]; rfl)
 rw [h2,part_mapC] at e2
 obtain ⟨x,g1,g2⟩:=Option.map_eq_some_iff.1 e2
 exact ⟨s,x,h1,(live_of (getD_live this) k.2).trans g1,fun c=>hd (by rw [←g2,c]; rfl),by simp only [selβ,h1]⟩
theorem sel_owned {ids:List Nat} {b:Nat} (e:Owned (sel ids m) (selβ ids β) b):∃ (k:Key) (sl:Slot) (o:Nat),k.1∈ids∧live m k=some sl∧sl≠.dead∧β k=some (b,o):=by
 obtain ⟨t,sl',o,h1,h2,h3⟩:=e
 obtain ⟨s,sl,g1,g2,g3,g5⟩:=sel_back (β:=β) h1 h2
 exact ⟨(s,t.2),sl,o,List.mem_of_getElem? g1,g2,g3,g5 ▸ h3⟩
theorem sel_owned' {ids:List Nat} {b:Nat} (e:Owned (sel ids m) (selβ ids β) b):Owned m β b:=by
 obtain ⟨s,sl,o,_,h1,h2,h3⟩:=sel_owned e
 exact ⟨s,sl,o,h1,h2,h3⟩

theorem sel_ok {ids:List Nat} (hn:ids.Nodup) (hm:MemOK F m β h) (av:∀ b,Avail F m β h b→Avail F' (sel ids m) (selβ ids β) h b) (nf:∀ b,Owned (sel ids m) (selβ ids β) b→¬F' b) (fl:∀ b,F' b→b < h.size) :
 MemOK F' (sel ids m) (selβ ids β) h where
 slots:=fun t sl' e=>by
  obtain ⟨s,h1,h2⟩:=sel_get e
  subst h2
  by_cases c:m.getD s .dead=.dead
  · rw [c]; trivial
  · exact ren_slot sel_fwd av (fun i=>by simp only [selβ,h1]) (hm.slots s _ (getD_live c))
 injK:=fun t1 t2 sl1 sl2 b o o' h1 h2 h3 h4 h5 h6=>by
  obtain ⟨s1,x1,g1,g2,g3,g5⟩:=sel_back (β:=β) h1 h2
  obtain ⟨s2,x2,k1,k2,k3,k5⟩:=sel_back (β:=β) h3 h4
  have e:=hm.injK (s1,t1.2) (s2,t2.2) x1 x2 b o o' g2 g3 k2 k3 (g5 ▸ h5) (k5 ▸ h6)
  obtain ⟨e1,e2⟩:=Prod.mk.inj e
  subst e1
  have a1:=find_nodup (i:=0) hn g1
  have a2:=find_nodup (i:=0) hn k1
  rw [a1] at a2
  have a3:t1.1=t2.1:=by simpa using a2
  exact Prod.ext a3 e2
 nf:=nf
 fl:=fl
theorem sel_av {ids:List Nat} (b:Nat) (hb:Avail F m β h b):Avail F (sel ids m) (selβ ids β) h b:=⟨hb.1,hb.2.1,fun e=>hb.2.2 (sel_owned' e)⟩

theorem range_prefix_get {n s:Nat} {ids:List Nat} (hp:List.range n <+: ids) (hs:s < n):ids[s]?=some s:=by
 obtain ⟨r,rfl⟩:=hp
 rw [List.getElem?_append_left (by simpa using hs)]
 simp [hs]
theorem sel_evo {ids:List Nat} {m0:Heap} {β0:Place} {w0 w:World} (hp:List.range m0.length <+: ids) (E:Evo F m0 β0 w0 m β w):Evo F m0 β0 w0 (sel ids m) (selβ ids β) w where
 os:=E.os
 tape:=E.tape
 output:=E.output
 size:=E.size
 av:=fun b hb=>⟨sel_av b (E.av b hb).1,(E.av b hb).2⟩
 fo:=E.fo
 own:=fun b hb=>E.own b (sel_owned' hb)
 evo:=fun s sl hs=>by
  obtain ⟨sl',h1,h2⟩:=E.evo s sl hs
  have g:=range_prefix_get hp (slot_lt hs)
  refine ⟨sl'.mapC (C.ren fun t=>find t ids 0),?_,?_⟩
  · unfold sel
    rw [List.getElem?_map,g,Option.map_some,getD_some h1]
  · rcases h2 with rfl | ⟨h2,h3,h4⟩
    · exact .inl rfl
    · refine .inr ⟨(mapC_like _ _).trans h2,by simp only [selβ,g]; exact h3,h4⟩

theorem allLt_iff:∀ {l:List Nat} {n:Nat},allLt l n=true→∀ x∈l,x < n
 | [],_,_,x,hx=>by simp at hx
 | y::r,n,h,x,hx=>by
  simp only [allLt] at h
  split at h
  · rcases List.mem_cons.1 hx with rfl | hx
    · assumption
    · exact allLt_iff h x hx
  · cases h

def waits (ids:List Nat) (m:Heap) (β:Place) (F:Nat→Prop) (b:Nat):Prop:=F b∨(Owned m β b∧¬Owned (sel ids m) (selβ ids β) b)

theorem wait_av {ids:List Nat} (b:Nat):Avail (waits ids m β F) (sel ids m) (selβ ids β) h b↔Avail F m β h b:=by
 constructor
 · rintro ⟨h1,h2,h3⟩
   exact ⟨h1,fun c=>h2 (.inl c),fun c=>h2 (.inr ⟨c,h3⟩)⟩
 · rintro ⟨h1,h2,h3⟩
   refine ⟨h1,fun c=>?_,fun c=>h3 (sel_owned' c)⟩
   rcases c with c | c
   · exact h2 c
   · exact h3 c.1
theorem wait_ok {ids:List Nat} (hn:ids.Nodup) (hm:MemOK F m β h):MemOK (waits ids m β F) (sel ids m) (selβ ids β) h :=
 sel_ok hn hm (fun b hb=>(wait_av b).2 hb) (fun b hb c=>by
  rcases c with c | c
  · exact hm.nf b (sel_owned' hb) c
  · exact c.2 hb) fun b hb=>by
  rcases hb with hb | hb
  · exact hm.fl b hb
  · exact hm.owned hb.1
theorem waits_of {ids:List Nat} (hm:MemOK F m β h) {k:Key} {sl:Slot} {b o:Nat} (hs:live m k=some sl) (hd:sl≠.dead) (hb:β k=some (b,o)) (hi:k.1 ∉ ids):waits ids m β F b:=by
 refine .inr ⟨⟨k,sl,o,hs,hd,hb⟩,fun c=>?_⟩
 obtain ⟨t,sl',o',h1,h2,h3,h4⟩:=sel_owned c
 have:=hm.injK k t sl sl' b o o' hs hd h2 h3 hb h4
 subst this
 exact hi h1

theorem wback_len:∀ (ids:List Nat) (m' m:Heap),ids.length≤m'.length→(wback ids m' m).length=m.length+(m'.length - ids.length)
 | [],m',m,_=>by simp [wback]
 | s::ids,[],m,h=>by simp at h
 | s::ids,sl::m',m,h=>by
  simp only [wback,List.length_cons] at h ⊢
  rw [wback_len ids m' (m.set s sl) (by omega),List.length_set]
  omega
theorem wback_get:∀ (ids:List Nat) (m' m:Heap) (s:Nat),ids.Nodup→(∀ x∈ids,x < m.length)→ids.length≤m'.length →
 (wback ids m' m)[s]?=if s < m.length then (match find s ids 0 with | some t=>m'[t]? | none=>m[s]?) else m'[ids.length+(s - m.length)]?
 | [],m',m,s,_,_,_=>by
  simp only [wback,find,List.length_nil,Nat.zero_add]
  split
  · rename_i c; rw [List.getElem?_append_left c]
  · rename_i c; rw [List.getElem?_append_right (by omega)]
 | x::ids,[],m,s,_,_,h=>by simp at h
 | x::ids,sl::m',m,s,hn,hl,h=>by
  have hx:=hl x (by simp)
  have hn':=List.nodup_cons.1 hn
  simp only [wback,List.length_cons] at h ⊢
  rw [wback_get ids m' (m.set x sl) s hn'.2 (fun y hy=>by rw [List.length_set]; exact hl y (by simp [hy])) (by omega)]
  rw [List.length_set]
  split
  · rename_i c
    by_cases e:x=s
    · subst e
      have:find x ids 0=none:=by
       cases hf:find x ids 0 with
       | none=>rfl
       | some t=>exact absurd (List.mem_of_getElem? (by have:=(find_some hf).2; simpa using this)) hn'.1
      simp only [find,if_true,this]
      simp [hx]
    · have sh:∀ (l:List Nat) (i:Nat),find s l (i+1)=(find s l i).map (·+1):=by
       intro l
       induction l with
       | nil=>intro i; rfl
       | cons y r ih =>
        intro i
        simp only [find]
        split
        · rfl
        · exact ih (i+1)
      simp only [find,if_neg e]
      rw [sh ids 0]
      cases find s ids 0 with
      | none=>simp only [Option.map_none]; rw [List.getElem?_set_ne e]
      | some t=>simp
  · rename_i c
    have:ids.length+1+(s - m.length)=ids.length+(s - m.length)+1:=by omega
    rw [this,List.getElem?_cons_succ]

def mergeβ (ids:List Nat) (n:Nat) (β β1:Place):Place:=fun k=>if k.1 < n then (match find k.1 ids 0 with | some t=>β1 (t,k.2) | none=>β k) else β1 (ids.length+(k.1 - n),k.2)

theorem merge {ids:List Nat} {m1:Heap} {β1:Place} {w w1:World} {v:V} {u:Value} (hn:ids.Nodup) (hl:∀ x∈ids,x < m.length) (hm:MemOK F m β w.heap) (hm1:MemOK (waits ids m β F) m1 β1 w1.heap)
 (E:Evo (waits ids m β F) (sel ids m) (selβ ids β) w m1 β1 w1) (r:RepV w1.heap (Avail (waits ids m β F) m1 β1 w1.heap) m1 β1 v u) :
 MemOK F (wback ids (m1.map (Slot.mapC (C.ren fun t=>some (back ids m.length t)))) m) (mergeβ ids m.length β β1) w1.heap ∧
 Evo F m β w (wback ids (m1.map (Slot.mapC (C.ren fun t=>some (back ids m.length t)))) m) (mergeβ ids m.length β β1) w1 ∧
 RepV w1.heap (Avail F (wback ids (m1.map (Slot.mapC (C.ren fun t=>some (back ids m.length t)))) m) (mergeβ ids m.length β β1) w1.heap)
  (wback ids (m1.map (Slot.mapC (C.ren fun t=>some (back ids m.length t)))) m) (mergeβ ids m.length β β1) (v.mapC (C.ren fun t=>some (back ids m.length t))) u:=by
 obtain ⟨f,hf⟩:∃ f,f=C.ren fun t=>some (back ids m.length t):=⟨_,rfl⟩
 obtain ⟨M,hM⟩:∃ M,M=wback ids (m1.map (Slot.mapC f)) m:=⟨_,rfl⟩
 obtain ⟨B,hB⟩:∃ B,B=mergeβ ids m.length β β1:=⟨_,rfl⟩
 rw [←hf,←hM,←hB]
 have slen:(sel ids m).length=ids.length:=by simp [sel]
 have len1:ids.length≤m1.length:=by
  rcases Nat.lt_or_ge m1.length ids.length with c | c
  · have hg:(sel ids m)[m1.length]?=some ((sel ids m)[m1.length]'(by omega)):=List.getElem?_eq_getElem _
    obtain ⟨sl',h1,_⟩:=E.evo _ _ hg
    simp at h1
  · exact c
 have get:∀ s,M[s]?=if s < m.length then (match find s ids 0 with | some t=>(m1[t]?).map (Slot.mapC f) | none=>m[s]?) else (m1[ids.length+(s - m.length)]?).map (Slot.mapC f):=by
  intro s
  rw [hM,wback_get ids _ _ s hn hl (by simpa using len1)]
  simp only [List.getElem?_map]
 have fwd:∀ t s,(fun t=>some (back ids m.length t)) t=some s→∀ sl,m1[t]?=some sl→M[s]?=some (sl.mapC f)∧∀ i:Option Nat,B (s,i)=β1 (t,i):=by
  intro t s e sl ht
  simp only [Option.some.injEq] at e
  subst e
  rw [get,hB]
  unfold back mergeβ
  by_cases c:t < ids.length
  · have hg:ids[t]?=some ids[t]:=List.getElem?_eq_getElem c
    have hlt:=hl _ (List.getElem_mem c)
    have hfd:=find_nodup (i:=0) hn hg
    rw [Nat.zero_add] at hfd
    have:ids.getD t 0=ids[t]:=by simp [List.getD_eq_getElem?_getD,hg]
    rw [if_pos c,this,if_pos hlt]
    simp only [if_pos hlt,hfd,ht,Option.map_some,true_and,implies_true]
  · rw [if_neg c,if_neg (by omega)]
    have:ids.length+(m.length+(t - ids.length) - m.length)=t:=by omega
    refine ⟨by rw [this,ht]; rfl,fun i=>?_⟩
    simp only []
    rw [if_neg (by omega),this]
 have whose:∀ (s:Nat) (sl:Slot),M[s]?=some sl→sl≠.dead→(∃ t sl1,m1[t]?=some sl1∧sl1≠.dead∧sl=sl1.mapC f∧(∀ i:Option Nat,B (s,i)=β1 (t,i))∧s=back ids m.length t)∨(s ∉ ids∧m[s]?=some sl∧∀ i:Option Nat,B (s,i)=β (s,i)):=by
  intro s sl hs hd
  rw [get] at hs
  split at hs
  · rename_i c
    cases hfd:find s ids 0 with
    | some t =>
     rw [hfd] at hs
     simp only [] at hs
     obtain ⟨sl1,g1,g2⟩:=Option.map_eq_some_iff.1 hs
     subst g2
     have hg:=(find_some hfd).2
     rw [Nat.sub_zero] at hg
     have ht:t < ids.length:=(List.getElem?_eq_some_iff.1 hg).1
     refine .inl ⟨t,sl1,g1,fun e=>hd (by rw [e]; rfl),rfl,?_,?_⟩
     · intro i; rw [hB]; unfold mergeβ; simp only [if_pos c,hfd]
     · unfold back; rw [if_pos ht]; simp [List.getD_eq_getElem?_getD,hg]
    | none =>
     rw [hfd] at hs
     exact .inr ⟨find_none hfd,hs,fun i=>by rw [hB]; unfold mergeβ; simp only [if_pos c,hfd]⟩
  · rename_i c
    obtain ⟨sl1,g1,g2⟩:=Option.map_eq_some_iff.1 hs
    subst g2
    refine .inl ⟨_,sl1,g1,fun e=>hd (by rw [e]; rfl),rfl,?_,?_⟩
    · intro i; rw [hB]; unfold mergeβ; simp only [if_neg c]
    · unfold back; rw [if_neg (by omega)]; omega
 have whoseK:∀ (k:Key) (x:Slot),live M k=some x→x≠.dead→(∃ t x1,live m1 (t,k.2)=some x1∧x1≠.dead∧B k=β1 (t,k.2)∧k.1=back ids m.length t)∨(k.1 ∉ ids∧live m k=some x∧B k=β k):=by
  intro k x hk hx
  obtain ⟨s0,e1,e2⟩:=Option.bind_eq_some_iff.1 hk
  rcases whose k.1 s0 e1 (part_ne e2 hx) with ⟨t,sl1,g1,g2,g3,g4,g5⟩ | ⟨g1,g2,g3⟩
  · rw [g3,part_mapC] at e2
    obtain ⟨x1,j1,j2⟩:=Option.map_eq_some_iff.1 e2
    exact .inl ⟨t,x1,(live_of g1 k.2).trans j1,fun c=>hx (by rw [←j2,c]; rfl),g4 k.2,g5⟩
  · exact .inr ⟨g1,(live_of g2 k.2).trans e2,g3 k.2⟩
 have ownedM:∀ b,Owned M B b→Owned m1 β1 b∨(waits ids m β F b∧Owned m β b):=by
  rintro b ⟨s,sl,o,h1,h2,h3⟩
  rcases whoseK s sl h1 h2 with ⟨t,sl1,g1,g2,g4,g5⟩ | ⟨g1,g2,g3⟩
  · exact .inl ⟨(t,s.2),sl1,o,g1,g2,g4 ▸ h3⟩
  · exact .inr ⟨waits_of hm g2 h2 (g3 ▸ h3) g1,⟨s,sl,o,g2,h2,g3 ▸ h3⟩⟩
 have av:∀ b,Avail (waits ids m β F) m1 β1 w1.heap b→Avail F M B w1.heap b:=by
  rintro b ⟨h1,h2,h3⟩
  refine ⟨h1,fun c=>h2 (.inl c),fun c=>?_⟩
  rcases ownedM b c with c | c
  · exact h3 c
  · exact h2 c.1
 have same:∀ b,waits ids m β F b→w1.heap[b]?=w.heap[b]?:=fun b hb=>E.fo b (by
  rcases hb with hb | hb
  · exact hm.fl b hb
  · exact hm.owned hb.1) hb
 have EM:Evo F m β w M B w1:=by
  refine ⟨E.os,E.tape,E.output,E.size,fun b hb=>?_,fun b h1 h2=>E.fo b h1 (.inl h2),fun b hb=>?_,fun s sl hs=>?_⟩
  · obtain ⟨g1,g2⟩:=E.av b ((wait_av b).2 hb)
    exact ⟨av b g1,g2⟩
  · rcases ownedM b hb with c | c
    · rcases E.own b c with c | c
      · exact .inl (sel_owned' c)
      · exact .inr c
    · exact .inl c.2
  · have hlt:=slot_lt hs
    rw [get,if_pos hlt]
    cases hfd:find s ids 0 with
    | some t =>
     have hg:=(find_some hfd).2
     rw [Nat.sub_zero] at hg
     obtain ⟨k1,k2⟩:=sel_fwd (β:=β) s t hfd sl hs
     obtain ⟨sl1,g1,g2⟩:=E.evo t _ k1
     refine ⟨sl1.mapC f,by simp only [g1,Option.map_some],?_⟩
     rcases g2 with rfl | ⟨g2,g3,g4⟩
     · exact .inl rfl
     · refine .inr ⟨((mapC_like _ _).trans g2).trans (mapC_like _ _),?_,fun b o hb=>g4 b o ((k2 none).trans hb)⟩
       rw [hB]; unfold mergeβ; simp only [if_pos hlt,hfd]
       exact g3.trans (k2 none)
    | none =>
     refine ⟨sl,hs,?_⟩
     by_cases hd:sl=.dead
     · exact .inl hd
     · refine .inr ⟨Slot.like.refl _,by rw [hB]; unfold mergeβ; simp only [if_pos hlt,hfd],fun b o hb=>?_⟩
       exact blkSize_congr (same b (waits_of hm (live_s.trans hs) hd hb (find_none hfd)))
 have fwd':∀ t s,(fun t=>some (back ids m.length t)) t=some s→∀ sl,m1[t]?=some sl→M[s]?=some (sl.mapC (C.ren fun t=>some (back ids m.length t)))∧∀ i:Option Nat,B (s,i)=β1 (t,i):=by rw [←hf]; exact fwd
 refine ⟨⟨fun s sl hs=>?_,fun s1 s2 x1 x2 b o o' h1 h2 h3 h4 h5 h6=>?_,fun b hb=>?_,fun b hb=>Nat.lt_of_lt_of_le (hm.fl b hb) E.size⟩,EM,RepV.map (fun c v hc=>by rw [hf]; exact ren_rep fwd' av hc) r⟩
 · by_cases hd:sl=.dead
   · subst hd; trivial
   · rcases whose s sl hs hd with ⟨t,sl1,g1,g2,g3,g4,g5⟩ | ⟨g1,g2,g3⟩
     · rw [g3,hf]; exact ren_slot fwd' av g4 (hm1.slots t sl1 g1)
     · refine SlotRel.evo EM g3 (fun i x b o hx hb=>same b (waits_of hm (k:=(s,i)) ((live_of g2 i).trans hx) (part_live hd hx) hb g1)) (hm.slots s sl g2)
 · rcases whoseK s1 x1 h1 h2 with ⟨t1,y1,a1,a2,a4,a5⟩ | ⟨a1,a2,a3⟩ <;> rcases whoseK s2 x2 h3 h4 with ⟨t2,y2,c1,c2,c4,c5⟩ | ⟨c1,c2,c3⟩
   · have:=hm1.injK (t1,s1.2) (t2,s2.2) y1 y2 b o o' a1 a2 c1 c2 (a4 ▸ h5) (c4 ▸ h6)
     obtain ⟨e1,e2⟩:=Prod.mk.inj this
     exact Prod.ext (by rw [a5,c5,e1]) e2
   · exact absurd (waits_of hm c2 h4 (c3 ▸ h6) c1) (hm1.nf b ⟨(t1,s1.2),y1,o,a1,a2,a4 ▸ h5⟩)
   · exact absurd (waits_of hm a2 h2 (a3 ▸ h5) a1) (hm1.nf b ⟨(t2,s2.2),y2,o',c1,c2,c4 ▸ h6⟩)
   · exact hm.injK s1 s2 x1 x2 b o o' a2 h2 c2 h4 (a3 ▸ h5) (c3 ▸ h6)
 · intro hf'
   rcases ownedM b hb with c | c
   · exact hm1.nf b c (.inl hf')
   · exact hm.nf b c.2 hf'
end

section
variable {F:Nat→Prop} {β:Place} {w:World} {m:Heap}

theorem get_dead {m:Heap} {s t:Nat} {sl:Slot} (h1:(m.set s Slot.dead)[t]?=some sl) (h2:sl≠.dead):m[t]?=some sl∧t≠s:=by
 rw [List.getElem?_set] at h1
 split at h1
 · split at h1
   · cases h1; exact absurd rfl h2
   · cases h1
 · rename_i c; exact ⟨h1,fun e=>c e.symm⟩

theorem live_sub {s:Nat} {f:C→C} {k:Key} {x:Slot} (h:live ((m.map (Slot.mapC f)).set s Slot.dead) k=some x) (hx:x≠.dead):∃ x0,live m k=some x0∧x0≠.dead∧x=x0.mapC f∧k.1≠s:=by
 obtain ⟨h1,h2⟩:=live_kill h hx
 obtain ⟨s0,e1,e2⟩:=Option.bind_eq_some_iff.1 h1
 rw [List.getElem?_map] at e1
 obtain ⟨s1,g1,rfl⟩:=Option.map_eq_some_iff.1 e1
 rw [part_mapC] at e2
 obtain ⟨x0,g2,g3⟩:=Option.map_eq_some_iff.1 e2
 exact ⟨x0,(live_of g1 k.2).trans g2,fun c=>hx (by rw [←g3,c]; rfl),g3.symm,h2⟩
theorem sub_mem {s:Nat} {f:C→C} (hm:MemOK F m β w.heap) (hs:s < m.length)
 (H:∀ c v,RepC w.heap (Avail F m β w.heap) m β c v→RepC w.heap (Avail F ((m.map (Slot.mapC f)).set s .dead) β w.heap) ((m.map (Slot.mapC f)).set s .dead) β (f c) v) :
 MemOK F ((m.map (Slot.mapC f)).set s .dead) β w.heap∧Evo F m β w ((m.map (Slot.mapC f)).set s .dead) β w:=by
 have own:∀ b,Owned ((m.map (Slot.mapC f)).set s .dead) β b→Owned m β b:=by
  rintro b ⟨t,sl,o,h1,h2,h3⟩
  obtain ⟨sl0,g1,g2,_⟩:=live_sub h1 h2
  exact ⟨t,sl0,o,g1,g2,h3⟩
 have E:Evo F m β w ((m.map (Slot.mapC f)).set s .dead) β w:=by
  refine ⟨rfl,rfl,⟨rfl,Nat.le_refl _⟩,Nat.le_refl _,fun b hb=>⟨⟨hb.1,hb.2.1,fun h=>hb.2.2 (own b h)⟩,rfl⟩,fun _ _ _=>rfl,fun b hb=>.inl (own b hb),fun t sl ht=>?_⟩
  by_cases c:s=t
  · subst c
    exact ⟨.dead,by rw [List.getElem?_set_self (by simpa using hs)],.inl rfl⟩
  · refine ⟨sl.mapC f,by rw [List.getElem?_set_ne c,List.getElem?_map,ht]; rfl,?_⟩
    by_cases hd:sl=.dead
    · subst hd; exact .inl rfl
    · exact .inr ⟨mapC_like _ _,rfl,fun _ _ _=>rfl⟩
 refine ⟨⟨fun t sl ht=>?_,fun s1 s2 x1 x2 b o o' h1 h2 h3 h4 h5 h6=>?_,fun b hb=>hm.nf b (own b hb),hm.fl⟩,E⟩
 · by_cases hd:sl=.dead
   · subst hd; trivial
   · obtain ⟨g0,g0'⟩:=get_dead ht hd
     rw [List.getElem?_map] at g0
     obtain ⟨sl0,g1,rfl⟩:=Option.map_eq_some_iff.1 g0
     have r:=hm.slots t sl0 g1
     cases sl0 with
     | vals z xs=>exact SlotRel.evo E (sl:=.vals z xs) (fun _=>rfl) (fun _ _ _ _ _ _=>rfl) r
     | cells cs =>
      obtain ⟨b,o,e1,h1,h2⟩:=r
      refine ⟨b,o,e1,h1,fun j c hc=>?_⟩
      rw [List.getElem?_map] at hc
      obtain ⟨c',k1,rfl⟩:=Option.map_eq_some_iff.1 hc
      obtain ⟨v,hv,hr⟩:=h2 j c' k1
      exact ⟨v,hv,H _ _ hr⟩
     | rows z rs br =>
      obtain ⟨h0,h00,b,o,e1,h1,h2⟩:=r
      refine ⟨h0,h00,b,o,e1,h1,fun i r hr=>?_⟩
      obtain ⟨v,hv,hh⟩:=h2 i r hr
      refine ⟨v,hv,?_⟩
      rw [brGet_map]
      cases hg:brGet br i with
      | some c=>simp only [hg] at hh; exact H _ _ hh
      | none=>simp only [hg] at hh; exact ⟨hh.1.evo E fun _ _ _=>rfl,hh.2⟩
     | map es=>exact SlotRel.evo E (sl:=.map es) (fun _=>rfl) (fun _ _ _ _ _ _=>rfl) r
     | dead=>trivial
 · obtain ⟨y1,g1,g2,_⟩:=live_sub h1 h2
   obtain ⟨y2,k1,k2,_⟩:=live_sub h3 h4
   exact hm.injK s1 s2 y1 y2 b o o' g1 g2 k1 k2 h5 h6

theorem sub_ptr {s t i j:Nat} {f:C→C} {v:Value} (ht:t≠s) (r:RepPtr m β t i j v):RepPtr ((m.map (Slot.mapC f)).set s .dead) β t i j v:=by
 unfold RepPtr at r ⊢
 rw [List.getElem?_set_ne (fun e=>ht e.symm),List.getElem?_map]
 cases hs:m[t]? with
 | none=>simp only [hs] at r
 | some sl=>cases sl <;> simp only [hs,Option.map_some,Slot.mapC] at r ⊢ <;> exact r
theorem sub_own {h:Array Obj} {s t i j:Nat} {f:C→C} {v:Value} (ht:t≠s) (r:RepOwn h m β t i j v):RepOwn h ((m.map (Slot.mapC f)).set s .dead) β t i j v:=by
 unfold RepOwn at r ⊢
 rw [List.getElem?_set_ne (fun e=>ht e.symm),List.getElem?_map]
 cases hs:m[t]? with
 | none=>simp only [hs] at r
 | some sl=>cases sl <;> simp only [hs,Option.map_some,Slot.mapC] at r ⊢ <;> exact r
theorem sub_mp {s t:Nat} {f:C→C} {v:Value} (ht:t≠s) (r:RepMp m β t v):RepMp ((m.map (Slot.mapC f)).set s .dead) β t v:=by
 unfold RepMp at r ⊢
 rw [List.getElem?_set_ne (fun e=>ht e.symm),List.getElem?_map]
 cases hs:m[t]? with
 | none=>simp only [hs] at r
 | some sl=>cases sl <;> simp only [hs,Option.map_some,Slot.mapC] at r ⊢ <;> exact r
theorem sub_av {s:Nat} {f:C→C} {h:Array Obj} (b:Nat) (hb:Avail F (m.set s .dead) β h b):Avail F ((m.map (Slot.mapC f)).set s .dead) β h b:=by
 refine ⟨hb.1,hb.2.1,fun ⟨t,sl,o,h1,h2,h3⟩=>hb.2.2 ?_⟩
 obtain ⟨sl0,g1,g2,_,g3⟩:=live_sub h1 h2
 exact ⟨t,sl0,o,by unfold live; rw [List.getElem?_set_ne (fun e=>g3 e.symm)]; exact g1,g2,h3⟩

theorem sub_caps {s:Nat} {f:C→C} {cap:Cap} (hcap:∀ v,RepPtr m β s 0 0 v→RepCap w.heap (Avail F ((m.map (Slot.mapC f)).set s .dead) β w.heap) ((m.map (Slot.mapC f)).set s .dead) β cap v)
 {caps:List Cap} {vs:List Value} (r:All2 (RepCap w.heap (Avail F m β w.heap) m β) caps vs) :
 All2 (RepCap w.heap (Avail F ((m.map (Slot.mapC f)).set s .dead) β w.heap) ((m.map (Slot.mapC f)).set s .dead) β) (caps.map fun c=>match c with | .p s'=>if s'=s then cap else .p s' | .d x=>.d x) vs:=by
 have av:∀ b,Avail F m β w.heap b→Avail F ((m.map (Slot.mapC f)).set s .dead) β w.heap b:=fun b hb=>sub_av b (((evo_kill (F:=F) (β:=β) (m:=m) (s:=s) w).av b hb).1)
 refine r.map fun c v hc=>?_
 cases c with
 | d x=>exact RepD.mono (fun b hb=>⟨av b hb,rfl⟩) hc
 | p s' =>
  simp only []
  split
  · rename_i e; subst e; exact hcap v hc
  · rename_i e; exact sub_ptr e hc

theorem frz_ok {s:Nat} {σ σ':St} {a:Act} (hm:MemOK F σ.mem β w.heap) (k:EnvOK w.heap (Avail F σ.mem β w.heap) σ.mem β σ.env a) (h:frzS s σ=some σ') :
 MemOK F σ'.mem β w.heap∧Evo F σ.mem β w σ'.mem β w∧EnvOK w.heap (Avail F σ'.mem β w.heap) σ'.mem β σ'.env a:=by
 have fin:∀ (f:C→C),(∀ c v,RepC w.heap (Avail F σ.mem β w.heap) σ.mem β c v→RepC w.heap (Avail F ((σ.mem.map (Slot.mapC f)).set s .dead) β w.heap) ((σ.mem.map (Slot.mapC f)).set s .dead) β (f c) v)→s < σ.mem.length →
  σ'=⟨σ.env.map fun x=>(x.1,x.2.mapC f),(σ.mem.map (Slot.mapC f)).set s .dead⟩ →
  MemOK F σ'.mem β w.heap∧Evo F σ.mem β w σ'.mem β w∧EnvOK w.heap (Avail F σ'.mem β w.heap) σ'.mem β σ'.env a:=by
  intro f H hs e
  subst e
  obtain ⟨h1,h2⟩:=sub_mem hm hs H
  refine ⟨h1,h2,fun t=>?_⟩
  simp only []
  rw [Env.get_map (V.mapC f) rfl]
  exact RepV.map H (k t)
 unfold frzS at h
 split at h
 · rename_i z xs hs
   cases h
   refine fin _ (fun c v r=>?_) (slot_lt hs) rfl
   have av:∀ b,Avail F σ.mem β w.heap b→Avail F ((σ.mem.map (Slot.mapC (C.sub s (fun off len=>.d (.list ((xs.drop off).take len))) (fun _ _=>.dead) (.p s)))).set s .dead) β w.heap b :=
    fun b hb=>sub_av b (((evo_kill (F:=F) (β:=β) (m:=σ.mem) (s:=s) w).av b hb).1)
   cases c with
   | d x=>exact RepD.mono (fun b hb=>⟨av b hb,rfl⟩) r
   | nil=>exact r
   | own t i j =>
    simp only [C.sub]
    split
    · rename_i e
      subst e
      exact RepD.mono (fun b hb=>⟨sub_av b hb,rfl⟩) (own_data hm hs r)
    · rename_i e; exact sub_own e r
   | ptr t i j =>
    simp only [C.sub]
    split
    · exact RepPtr.isCell r
    · rename_i e; exact sub_ptr e r
   | mp t =>
    simp only [C.sub]
    split
    · exact RepMp.isCell r
    · rename_i e; exact sub_mp e r
   | fn g caps =>
    obtain ⟨vs,rfl,r⟩:=r
    refine ⟨vs,rfl,sub_caps (fun v hv=>?_) r⟩
    show RepPtr _ _ _ _ _ _
    unfold RepPtr
    rw [List.getElem?_set_self (by simpa using slot_lt hs)]
    exact RepPtr.ptr hv
   | dead=>exact r
 · rename_i z rs br hs
   split at h
   case isFalse=>cases h
   rename_i hbe
   rw [List.isEmpty_iff] at hbe
   subst hbe
   cases h
   refine fin _ (fun c v r=>?_) (slot_lt hs) rfl
   have av:∀ b,Avail F σ.mem β w.heap b→Avail F ((σ.mem.map (Slot.mapC (C.sub s (fun off len=>.d (.list (((rs.drop off).take len).map .list))) (fun _ _=>.dead) (.p s)))).set s .dead) β w.heap b :=
    fun b hb=>sub_av b (((evo_kill (F:=F) (β:=β) (m:=σ.mem) (s:=s) w).av b hb).1)
   cases c with
   | d x=>exact RepD.mono (fun b hb=>⟨av b hb,rfl⟩) r
   | nil=>exact r
   | own t i j =>
    simp only [C.sub]
    split
    · rename_i e
      subst e
      exact RepD.mono (fun b hb=>⟨sub_av b hb,rfl⟩) (rows_data hm hs r)
    · rename_i e; exact sub_own e r
   | ptr t i j =>
    simp only [C.sub]
    split
    · exact RepPtr.isCell r
    · rename_i e; exact sub_ptr e r
   | mp t =>
    simp only [C.sub]
    split
    · exact RepMp.isCell r
    · rename_i e; exact sub_mp e r
   | fn g caps =>
    obtain ⟨vs,rfl,r⟩:=r
    refine ⟨vs,rfl,sub_caps (fun v hv=>?_) r⟩
    show RepPtr _ _ _ _ _ _
    unfold RepPtr
    rw [List.getElem?_set_self (by simpa using slot_lt hs)]
    exact RepPtr.ptr hv
   | dead=>exact r
 · rename_i cs hs
   obtain ⟨ds,hds,h⟩:=bind_some' h
   cases h
   refine fin _ (fun c v r=>?_) (slot_lt hs) rfl
   obtain ⟨b,o,e1,hp,hb⟩:=hm.slots s _ hs
   have hdl:∀ (cs:List C) (ds:List D),cellsD cs=some ds→cs.length=ds.length:=by
    intro cs
    induction cs with
    | nil=>intro ds e; simp only [cellsD] at e; cases e; rfl
    | cons c cs ih =>
     intro ds e
     simp only [cellsD] at e
     obtain ⟨d,g1,e⟩:=bind_some' e
     obtain ⟨ds',g2,e⟩:=bind_some' e
     cases e
     simp [ih _ g2]
   have hdg:∀ (cs:List C) (ds:List D) (j:Nat) (d:D),cellsD cs=some ds→ds[j]?=some d→∃ c,cs[j]?=some c∧cellD c=some d:=by
    intro cs
    induction cs with
    | nil=>intro ds j d e hj; simp only [cellsD] at e; cases e; simp at hj
    | cons c cs ih =>
     intro ds j d e hj
     simp only [cellsD] at e
     obtain ⟨d',g1,e⟩:=bind_some' e
     obtain ⟨ds',g2,e⟩:=bind_some' e
     cases e
     cases j with
     | zero=>simp at hj; subst hj; exact ⟨c,rfl,g1⟩
     | succ j=>exact ih _ j d g2 hj
   obtain ⟨f,hf⟩:∃ f,f=C.sub s (fun _ _=>.dead) (fun _ j=>.d (.ref (ds.drop j))) (.d (.ref ds)):=⟨_,rfl⟩
   rw [←hf]
   have av:∀ b,Avail F σ.mem β w.heap b→Avail F ((σ.mem.map (Slot.mapC f)).set s .dead) β w.heap b :=
    fun b hb=>sub_av b (((evo_kill (F:=F) (β:=β) (m:=σ.mem) (s:=s) w).av b hb).1)
   have hA:Avail F ((σ.mem.map (Slot.mapC f)).set s .dead) β w.heap b:=by
    have hO:Owned σ.mem β b:=.mk hs (by simp) e1
    refine sub_av b ⟨hp.lt,hm.nf b hO,?_⟩
    rintro ⟨t,sl,o',h1,h2,h3⟩
    obtain ⟨g1,g2⟩:=live_kill h1 h2
    exact g2 (congrArg Prod.fst (hm.injK t s sl _ b o' o g1 h2 (live_s.trans hs) (by simp) h3 e1))
   have ptr:∀ i j v,RepPtr σ.mem β s i j v→RepD w.heap (Avail F ((σ.mem.map (Slot.mapC f)).set s .dead) β w.heap) (.ref (ds.drop j)) v:=by
    intro i j v r
    unfold RepPtr at r
    simp only [hs] at r
    obtain ⟨_,b',o',e1',rfl⟩:=r
    rw [e1] at e1'
    cases e1'
    have ex:∀ q,q < (ds.drop j).length→∃ u,cellAt w.heap b (o+j+q)=some u∧∀ e,(ds.drop j)[q]?=some e→RepD w.heap (Avail F σ.mem β w.heap) e u:=by
     intro q hq
     have hq':j+q < ds.length:=by simp at hq; omega
     obtain ⟨c,g1,g2⟩:=hdg cs ds (j+q) _ hds (List.getElem?_eq_getElem hq')
     obtain ⟨u,hu,hr⟩:=hb (j+q) c g1
     refine ⟨u,by rw [Nat.add_assoc]; exact hu,fun e he=>?_⟩
     rw [List.getElem?_drop,List.getElem?_eq_getElem hq'] at he
     cases he
     exact cellD_rep hr g2
    obtain ⟨u,hu⟩:∃ u:Nat→Value,∀ q,q < (ds.drop j).length→cellAt w.heap b (o+j+q)=some (u q)∧∀ e,(ds.drop j)[q]?=some e→RepD w.heap (Avail F σ.mem β w.heap) e (u q):=by
     refine ⟨fun q=>if h:q < (ds.drop j).length then Classical.choose (ex q h) else undef,fun q hq=>?_⟩
     simp only [hq,dite_true]
     exact Classical.choose_spec (ex q hq)
    exact .ref _ b (o+j) u hA (fun q hq=>(hu q hq).1) fun q e he=>RepD.mono (fun b hb=>⟨av b hb,rfl⟩) ((hu q (List.getElem?_eq_some_iff.1 he).1).2 e he)
   cases c with
   | d x=>rw [hf]; exact RepD.mono (fun b hb=>⟨hf ▸ av b hb,rfl⟩) r
   | nil=>rw [hf]; exact r
   | own t i j =>
    have hh:f (.own t i j)=if t=s then .dead else .own t i j:=by rw [hf]; rfl
    rw [hh]
    split
    · rename_i e
      subst e
      have r:RepOwn w.heap σ.mem β t i j v:=r
      unfold RepOwn at r
      simp only [hs] at r
    · rename_i e; exact sub_own e r
   | ptr t i j =>
    have hh:f (.ptr t i j)=if t=s then .d (.ref (ds.drop j)) else .ptr t i j:=by rw [hf]; rfl
    rw [hh]
    split
    · rename_i e; subst e; exact ptr i j v r
    · rename_i e; exact sub_ptr e r
   | mp t =>
    have hh:f (.mp t)=if t=s then .dead else .mp t:=by rw [hf]; rfl
    rw [hh]
    split
    · exact RepMp.isCell r
    · rename_i e; exact sub_mp e r
   | fn g caps =>
    obtain ⟨vs,rfl,r⟩:=r
    have hh:f (.fn g caps)=.fn g (caps.map fun c=>match c with | .p s'=>if s'=s then .d (.ref ds) else .p s' | .d x=>.d x):=by rw [hf]; rfl
    rw [hh]
    exact ⟨vs,rfl,sub_caps (fun v hv=>by show RepD _ _ _ _; have:=ptr 0 0 v hv; simpa using this) r⟩
   | dead=>rw [hf]; exact r
 · cases h

theorem move_ok {s:Nat} {z:D} {xs:List D} (hm:MemOK F m β w.heap) (hs:m[s]?=some (.vals z xs)) :
 MemOK F (m.set s .dead++[.vals z xs]) (upd β m.length (β s)) w.heap∧Evo F m β w (m.set s .dead++[.vals z xs]) (upd β m.length (β s)) w:=by
 have mlen:(m.set s Slot.dead).length=m.length:=List.length_set
 have get:∀ (t:Key) (sl:Slot),live (m.set s Slot.dead++[Slot.vals z xs]) t=some sl→sl≠.dead→(t.1 < m.length∧t.1≠s∧live m t=some sl∧upd β m.length (β s) t=β t)∨(t=(m.length,none)∧sl=.vals z xs∧upd β m.length (β s) t=β s):=by
  intro t sl h1 h2
  rcases live_pushF h1 with ⟨c,h3⟩ | ⟨c,h3⟩
  · obtain ⟨g1,g2⟩:=live_kill h3 h2
    rw [mlen] at c
    exact .inl ⟨c,g2,g1,upd_neK (by omega)⟩
  · rw [mlen] at c
    subst c
    exact .inr ⟨rfl,h3,upd_same _ _ _⟩
 have own:∀ b,Owned (m.set s .dead++[.vals z xs]) (upd β m.length (β s)) b→Owned m β b:=by
  rintro b ⟨t,sl,o,h1,h2,h3⟩
  rcases get t sl h1 h2 with ⟨_,_,g1,g2⟩ | ⟨_,_,g2⟩
  · exact ⟨t,sl,o,g1,h2,g2 ▸ h3⟩
  · exact .mk hs (by simp) (g2 ▸ h3)
 have E:Evo F m β w (m.set s .dead++[.vals z xs]) (upd β m.length (β s)) w:=by
  refine ⟨rfl,rfl,⟨rfl,Nat.le_refl _⟩,Nat.le_refl _,fun b hb=>⟨⟨hb.1,hb.2.1,fun h=>hb.2.2 (own b h)⟩,rfl⟩,fun _ _ _=>rfl,fun b hb=>.inl (own b hb),fun t sl ht=>?_⟩
  have hl:=slot_lt ht
  by_cases c:s=t
  · subst c
    exact ⟨.dead,by rw [List.getElem?_append_left (by omega),List.getElem?_set_self hl],.inl rfl⟩
  · exact ⟨sl,by rw [List.getElem?_append_left (by omega),List.getElem?_set_ne c]; exact ht,.inr ⟨Slot.like.refl _,upd_ne (by omega),fun _ _ _=>rfl⟩⟩
 refine ⟨hm.make (w':=w) E (fun s1 s2 x1 x2 b o o' h1 h2 h3 h4 h5 h6=>?_) fun t sl ht=>?_,E⟩
 · rcases get s1 x1 h1 h2 with ⟨a1,a2,a3,a4⟩ | ⟨a1,a2,a3⟩ <;> rcases get s2 x2 h3 h4 with ⟨c1,c2,c3,c4⟩ | ⟨c1,c2,c3⟩
   · exact hm.injK s1 s2 x1 x2 b o o' a3 h2 c3 h4 (a4 ▸ h5) (c4 ▸ h6)
   · exact absurd (congrArg Prod.fst (hm.injK s1 s x1 _ b o o' a3 h2 (live_s.trans hs) (by simp) (a4 ▸ h5) (c3 ▸ h6))) a2
   · exact absurd (congrArg Prod.fst (hm.injK s2 s x2 _ b o' o c3 h4 (live_s.trans hs) (by simp) (c4 ▸ h6) (a3 ▸ h5))) c2
   · rw [a1,c1]
 · by_cases hd:sl=.dead
   · subst hd; exact .inr trivial
   · rcases get_push ht with ⟨c,h3⟩ | ⟨c,h3⟩
     · obtain ⟨g1,g2⟩:=get_dead h3 hd
       rw [mlen] at c
       exact .inl ⟨g1,upd_still (by omega),fun _ _ _ _ _ _ _ _=>rfl⟩
     · rw [mlen] at c
       have a3:upd β m.length (β s) t=β s:=by rw [c]; exact upd_same _ _ _
       subst c h3
       right
       obtain ⟨h1,h2,h3⟩:=hm.slots s _ hs
       refine ⟨h1,h2,?_⟩
       rw [a3]
       exact h3.evo E fun _ _ _=>rfl
theorem move_own {s off len:Nat} {z:D} {xs:List D} {v:Value} {h:Array Obj} (hs:m[s]?=some (.vals z xs)) (r:RepOwn h m β s off len v) :
 RepOwn h (m.set s .dead++[.vals z xs]) (upd β m.length (β s)) m.length off len v:=by
 unfold RepOwn at r ⊢
 simp only [hs] at r
 rw [List.getElem?_append_right (by simp),List.length_set,Nat.sub_self]
 simp only [List.getElem?_cons_zero,upd_same]
 exact r
theorem none_ok {z:D} (hm:MemOK F m β w.heap) (hz:0 < z.cells.length) :
 MemOK F (m++[.vals z []]) (upd β m.length none) w.heap∧Evo F m β w (m++[.vals z []]) (upd β m.length none) w∧RepOwn w.heap (m++[.vals z []]) (upd β m.length none) m.length 0 0 (.slice none 0 0):=by
 have own:∀ b,Owned (m++[.vals z []]) (upd β m.length none) b→Owned m β b:=by
  rintro b ⟨s,sl,o,h1,h2,h3⟩
  rcases live_pushF h1 with ⟨c,h1⟩ | ⟨c,h1⟩
  · rw [upd_neK (by omega)] at h3; exact ⟨s,sl,o,h1,h2,h3⟩
  · subst c; rw [upd_same] at h3; cases h3
 have E:Evo F m β w (m++[.vals z []]) (upd β m.length none) w:=by
  refine ⟨rfl,rfl,⟨rfl,Nat.le_refl _⟩,Nat.le_refl _,fun b hb=>⟨⟨hb.1,hb.2.1,fun h=>hb.2.2 (own b h)⟩,rfl⟩,fun _ _ _=>rfl,fun b hb=>.inl (own b hb),fun s sl hs=>?_⟩
  have hl:=slot_lt hs
  exact ⟨sl,by rw [List.getElem?_append_left hl]; exact hs,.inr ⟨Slot.like.refl _,upd_ne (by omega),fun _ _ _=>rfl⟩⟩
 refine ⟨hm.make (w':=w) E (fun s t sl tl b o o' h1 h2 h3 h4 h5 h6=>?_) fun s sl hs=>?_,E,?_⟩
 · rcases live_pushF h1 with ⟨c,h1⟩ | ⟨c,h1⟩
   · rcases live_pushF h3 with ⟨c',h3⟩ | ⟨c',h3⟩
     · rw [upd_neK (by omega)] at h5 h6
       exact hm.injK s t sl tl b o o' h1 h2 h3 h4 h5 h6
     · subst c'; rw [upd_same] at h6; cases h6
   · subst c; rw [upd_same] at h5; cases h5
 · rcases get_push hs with ⟨c,h1⟩ | ⟨c,h1⟩
   · exact .inl ⟨h1,upd_still (by omega),fun _ _ _ _ _ _ _ _=>rfl⟩
   · subst c h1
     right
     refine ⟨hz,by simp,?_⟩
     rw [upd_same]
     exact rfl
 · unfold RepOwn
   rw [List.getElem?_append_right (Nat.le_refl _),Nat.sub_self]
   exact ⟨by simp,.inl ⟨rfl,none,rfl⟩⟩
theorem recell_ok {s j:Nat} {cs:List C} {c':C} (hm:MemOK F m β w.heap) (hs:m[s]?=some (.cells cs)) (H:∀ b o c v,β s=some (b,o)→cs[j]?=some c→cellAt w.heap b (o+j)=some v→RepC w.heap (Avail F m β w.heap) m β c v→RepC w.heap (Avail F m β w.heap) m β c' v) :
 MemOK F (m.set s (.cells (cs.set j c'))) β w.heap∧Evo F m β w (m.set s (.cells (cs.set j c'))) β w:=by
 have own:∀ b,Owned (m.set s (.cells (cs.set j c'))) β b→Owned m β b:=fun b hb=>owned_set (by trivial) hs (by simp) hb
 have E:Evo F m β w (m.set s (.cells (cs.set j c'))) β w :=
  ⟨rfl,rfl,⟨rfl,Nat.le_refl _⟩,Nat.le_refl _,fun b hb=>⟨⟨hb.1,hb.2.1,fun h=>hb.2.2 (own b h)⟩,rfl⟩,fun _ _ _=>rfl,fun b hb=>.inl (own b hb),
   like_set hs (by simp [Slot.like]) fun _ _ _ _ _ _ _=>rfl⟩
 refine ⟨hm.make (w':=w) E (inj_set hm (by trivial) hs (by simp)) fun t sl ht=>?_,E⟩
 by_cases c:s=t
 · subst c
   rw [List.getElem?_set_self (slot_lt hs)] at ht
   cases ht
   right
   obtain ⟨b,o,e1,h1,h2⟩:=hm.slots s _ hs
   refine ⟨b,o,e1,h1,fun j' c hc=>?_⟩
   by_cases cj:j=j'
   · subst cj
     have hlt:j < cs.length:=by have:=(List.getElem?_eq_some_iff.1 hc).1; simpa using this
     rw [List.getElem?_set_self hlt] at hc
     cases hc
     obtain ⟨v,hv,hr⟩:=h2 j _ (List.getElem?_eq_getElem hlt)
     exact ⟨v,hv,RepC.evo E (H b o _ _ e1 (List.getElem?_eq_getElem hlt) hv hr)⟩
   · rw [List.getElem?_set_ne cj] at hc
     obtain ⟨v,hv,hr⟩:=h2 j' c hc
     exact ⟨v,hv,RepC.evo E hr⟩
 · rw [List.getElem?_set_ne c] at ht
   exact .inl ⟨ht,fun _=>rfl,fun _ _ _ _ _ _ _ _=>rfl⟩

theorem EnvOK.reput {h:Array Obj} {A:Nat→Prop} {e:Env} {a:Act} (k:EnvOK h A m β e a) {t:Nat} {v:V} (H:∀ u,RepV h A m β (e.get t) u→RepV h A m β v u):EnvOK h A m β (e.put t v) a:=by
 intro t'
 rw [Env.get_put]
 split
 · rename_i c; subst c; exact H _ (k t')
 · exact k t'

theorem cellOf_some {σ:St} {t j:Nat} {x:Nat × C} (h:σ.cellOf t j=some x):∃ cs,σ.mem[x.1]?=some (.cells cs)∧cs[j]?=some x.2:=by
 unfold St.cellOf at h
 split at h
 · split at h
   · rename_i s _ cs hs
     obtain ⟨c,h1,h2⟩:=Option.map_eq_some_iff.1 h
     subst h2
     exact ⟨cs,hs,h1⟩
   · cases h
 · cases h

theorem brHas_some {s:Nat} {br:List (Nat × C)}:∀ (r:List (Nat × C)) {x:Nat × Nat},brHas s br r=some x→brGet br x.1=some (.own s 0 x.2)
 | [],x,h=>by simp [brHas] at h
 | (i,c)::r,x,h=>by
  simp only [brHas] at h
  split at h
  · rename_i t o l hg
    split at h
    · rename_i e; cases h; obtain ⟨rfl,rfl⟩:=e; exact hg
    · exact brHas_some r h
  · exact brHas_some r h
theorem lender_some {s':Nat}:∀ (m:Heap) (n:Nat) (x:Nat × Nat × Nat),lender s' m n=some x→n≤x.1∧∃ z rs br,m[x.1 - n]?=some (.rows z rs br)∧brGet br x.2.1=some (.own s' 0 x.2.2)
 | [],n,x,h=>by simp [lender] at h
 | sl::m,n,x,h=>by
  have step:lender s' m (n+1)=some x→n≤x.1∧∃ z rs br,(sl::m)[x.1 - n]?=some (.rows z rs br)∧brGet br x.2.1=some (.own s' 0 x.2.2):=by
   intro h
   obtain ⟨h1,z,rs,br,h2⟩:=lender_some m (n+1) x h
   refine ⟨by omega,z,rs,br,?_⟩
   have e:x.1 - n=(x.1 - (n+1))+1:=by omega
   rw [e,List.getElem?_cons_succ]
   exact h2
  cases sl with
  | rows z rs br =>
   simp only [lender] at h
   split at h
   · rename_i y hy
     cases h
     exact ⟨Nat.le_refl _,z,rs,br,by simp,brHas_some _ hy⟩
   · exact step h
  | _=>exact step (by simpa only [lender] using h)
theorem ghost_ok {σ σ':St} {a:Act} {g:Ghost} {m0:Heap} {β0:Place} {w0:World} (hm:MemOK F σ.mem β w.heap) (E0:Evo F m0 β0 w0 σ.mem β w) (k:EnvOK w.heap (Avail F σ.mem β w.heap) σ.mem β σ.env a)
 (h:evG m0.length g σ=some σ'):∃ β',MemOK F σ'.mem β' w.heap∧Evo F m0 β0 w0 σ'.mem β' w∧EnvOK w.heap (Avail F σ'.mem β' w.heap) σ'.mem β' σ'.env a∧∀ b,Avail F σ.mem β w.heap b→Avail F σ'.mem β' w.heap b:=by
 have frz:∀ s,frzS s σ=some σ'→∃ β',MemOK F σ'.mem β' w.heap∧Evo F m0 β0 w0 σ'.mem β' w∧EnvOK w.heap (Avail F σ'.mem β' w.heap) σ'.mem β' σ'.env a∧∀ b,Avail F σ.mem β w.heap b→Avail F σ'.mem β' w.heap b:=by
  intro s h
  obtain ⟨h1,h2,h3⟩:=frz_ok hm k h
  exact ⟨β,h1,E0.trans h2,h3,fun b hb=>(h2.av b hb).1⟩
 cases g with
 | keep ts =>
  simp only [evG] at h
  cases h
  refine ⟨β,hm,E0,fun t=>?_,fun b hb=>hb⟩
  rcases Env.get_keep ts σ.env t with e | e
  · show RepV _ _ _ _ ((keepE ts σ.env).get t) _
    rw [e]; exact k t
  · show RepV _ _ _ _ ((keepE ts σ.env).get t) _
    rw [e]; trivial
 | gc =>
  simp only [evG] at h
  cases h
  obtain ⟨ids,hids⟩:∃ ids,ids=gcIds m0.length σ.mem (σ.env.flatMap fun x=>x.2.slots):=⟨_,rfl⟩
  have hn:ids.Nodup:=by rw [hids]; exact reach_nodup _ _ _ _ List.nodup_range
  have hp:List.range m0.length <+: ids:=by rw [hids]; exact reach_prefix _ _ _ _
  refine ⟨selβ ids β,?_,?_,fun t=>?_,?_⟩
  · simp only [St.gc,←hids]
    exact sel_ok hn hm (fun b hb=>sel_av b hb) (fun b hb=>hm.nf b (sel_owned' hb)) hm.fl
  · simp only [St.gc,←hids]
    exact sel_evo hp E0
  · simp only [St.gc,←hids]
    rw [Env.get_map (V.mapC _) rfl]
    exact RepV.map (fun c v r=>ren_rep sel_fwd (fun b hb=>sel_av b hb) r) (k t)
  · simp only [St.gc,←hids]
    exact fun b hb=>sel_av b hb
 | bak t =>
  simp only [evG] at h
  split at h
  · rename_i s' _ _ _
    obtain ⟨m1,h1,h2⟩:=bind_some' h
    cases h2
    unfold bakS at h1
    obtain ⟨x,hx,h2⟩:=bind_some' h1
    clear h1
    obtain ⟨_,z0,rs0,r0,hg,hgi⟩:=lender_some _ _ _ hx
    rw [Nat.sub_zero] at hg
    split at h2
    · rename_i z rs br z' xs hs hs'
      rw [hg] at hs
      cases hs
      split at h2
      · rename_i hz
        cases h2
        obtain ⟨β',k1,k2⟩:=bak_ok hm hg hgi hs' hz
        exact ⟨β',k1,E0.trans k2,EnvOK.evo k2 k,fun b hb=>(k2.av b hb).1⟩
      · cases h2
    · cases h2
  · cases h; exact ⟨β,hm,E0,k,fun b hb=>hb⟩
  · cases h
 | frz t =>
  simp only [evG] at h
  split at h
  · exact frz _ h
  · exact frz _ h
  · cases h
 | frzC t j =>
  simp only [evG] at h
  obtain ⟨x,hx,h1⟩:=bind_some' h
  clear h
  split at h1
  · exact frz _ h1
  · cases h1
 | prom t z =>
  simp only [evG] at h
  split at h
  · rename_i hx
    split at h
    · rename_i hz
      cases h
      obtain ⟨h1,h2,h3⟩:=none_ok hm hz
      refine ⟨_,h1,E0.trans h2,(EnvOK.evo h2 k).reput fun u hu=>?_,fun b hb=>(h2.av b hb).1⟩
      rw [hx] at hu
      have hu:u=.slice none 0 0:=hu
      subst hu
      exact h3
    · cases h
  · cases h
 | promC t j z =>
  simp only [evG] at h
  obtain ⟨x,hx,h1⟩:=bind_some' h
  clear h
  split at h1
  · rename_i cs hc hs
    split at h1
    · rename_i hz
      cases h1
      obtain ⟨h1,h2,h3⟩:=none_ok hm hz
      obtain ⟨cs',g1,g2⟩:=cellOf_some hx
      rw [hs] at g1
      cases g1
      have hs':(σ.mem++[.vals z []])[x.1]?=some (.cells cs):=by rw [List.getElem?_append_left (slot_lt hs)]; exact hs
      obtain ⟨k1,k2⟩:=recell_ok (j:=j) (c':=.own σ.mem.length 0 0) h1 hs' (fun _ _ c v _ hcj _ r=>by
       rw [g2] at hcj
       cases hcj
       rw [hc] at r
       have r:v=.slice none 0 0:=r
       subst r
       exact h3)
      exact ⟨_,k1,(E0.trans h2).trans k2,EnvOK.evo k2 (EnvOK.evo h2 k),fun b hb=>(k2.av b (h2.av b hb).1).1⟩
    · cases h1
  · cases h1
 | renew t =>
  simp only [evG] at h
  split at h
  · rename_i s off len hx
    split at h
    · rename_i z xs hs
      cases h
      obtain ⟨h1,h2⟩:=move_ok hm hs
      refine ⟨_,h1,E0.trans h2,fun t'=>?_,fun b hb=>(h2.av b hb).1⟩
      show RepV _ _ _ _ ((σ.env.put t _).get t') _
      rw [Env.get_put]
      split
      · rename_i c
        subst c
        have:=k t'
        rw [hx] at this
        exact move_own hs this
      · exact RepV.evo h2 (k t')
    · cases h
  · cases h
 | renewC t j =>
  simp only [evG] at h
  obtain ⟨x,hx,h1⟩:=bind_some' h
  clear h
  split at h1
  · rename_i s off len cs hc hs'
    split at h1
    · rename_i z xs hs
      cases h1
      obtain ⟨h1,h2⟩:=move_ok hm hs
      obtain ⟨cs',g1,g2⟩:=cellOf_some hx
      rw [hs'] at g1
      cases g1
      have hne:s≠x.1:=fun e=>by subst e; rw [hs] at hs'; cases hs'
      have hs2:(σ.mem.set s .dead++[.vals z xs])[x.1]?=some (.cells cs):=by
       rw [List.getElem?_append_left (by rw [List.length_set]; exact slot_lt hs'),List.getElem?_set_ne hne]; exact hs'
      obtain ⟨b,o,e1,_,hb⟩:=hm.slots x.1 _ hs'
      obtain ⟨v0,hv0,r0⟩:=hb j _ g2
      rw [hc] at r0
      obtain ⟨k1,k2⟩:=recell_ok (j:=j) (c':=.own σ.mem.length off len) h1 hs2 (fun b' o' c v hβ hcj hv r=>by
       rw [upd_ne (by have:=slot_lt hs'; omega),e1] at hβ
       cases hβ
       rw [hv0] at hv
       cases hv
       exact move_own hs r0)
      exact ⟨_,k1,(E0.trans h2).trans k2,EnvOK.evo k2 (EnvOK.evo h2 k),fun b hb=>(k2.av b (h2.av b hb).1).1⟩
    · cases h1
  · cases h1
theorem ghosts_ok {a:Act} {m0:Heap} {β0:Place} {w0:World}:∀ (gs:List Ghost) {β:Place} {σ σ':St},MemOK F σ.mem β w.heap→Evo F m0 β0 w0 σ.mem β w→EnvOK w.heap (Avail F σ.mem β w.heap) σ.mem β σ.env a →
 evGs m0.length gs σ=some σ'→∃ β',MemOK F σ'.mem β' w.heap∧Evo F m0 β0 w0 σ'.mem β' w∧EnvOK w.heap (Avail F σ'.mem β' w.heap) σ'.mem β' σ'.env a∧∀ b,Avail F σ.mem β w.heap b→Avail F σ'.mem β' w.heap b
 | [],β,σ,σ',hm,E,k,h=>by simp only [evGs] at h; cases h; exact ⟨β,hm,E,k,fun _ hb=>hb⟩
 | g::gs,β,σ,σ',hm,E,k,h=>by
  simp only [evGs] at h
  obtain ⟨σ1,h1,h2⟩:=bind_some' h
  obtain ⟨β1,g1,g2,g3,g4⟩:=ghost_ok hm E k h1
  obtain ⟨β2,e1,e2,e3,e4⟩:=ghosts_ok gs g1 g2 g3 h2
  exact ⟨β2,e1,e2,e3,fun b hb=>e4 b (g4 b hb)⟩
end

section
variable {P:Program} {F:Nat→Prop} {β:Place} {w:World} {σ:St} {a:Act}

def W (r:Option Nat):Fence:={ fn:=fun _=>True,depth:=none,alive:=false,round:=r }

theorem wp_of_run {r:Option Nat} {o:Oper} {next:Act→World→Prop} {Q:Exit→Act→World→Prop} (hd:∀ c,o.op≠.defer c) (h:o.uponIn (W r) 0 P a next Q ((execOp a.eval o).run P w)) :
 o.wpIn (W r) 0 P a w next Q:=by
 refine ⟨fun _ _=>trivial,?_⟩
 rw [Oper.semAt_eq _ _ _ hd]
 exact h
theorem does_wp {r:Option Nat} {o:Oper} {next:Act→World→Prop} {Q:Exit→Act→World→Prop} {v:V} {m':Heap} (hd:∀ c,o.op≠.defer c) (h:Does P F σ.mem β w (execOp a.eval o) v m')
 (hn:∀ u w' β',MemOK F m' β' w'.heap→Evo F σ.mem β w m' β' w'→RepV w'.heap (Avail F m' β' w'.heap) m' β' v u→next (a.put o.dst u) w'):o.wpIn (W r) 0 P a w next Q:=by
 obtain ⟨u,w',β',h1,h2,h3,h4⟩:=h
 refine wp_of_run hd ?_
 rcases h1 with h1 | ⟨h1,rfl⟩
 · rw [h1]; exact hn u w' β' h2 h3 h4
 · rw [h1]; exact hn undef w' β' h2 h3 h4

def CallTo (P:Program) (g:FuncId) (args:Array Value) (w:World) (post:Value→World→Prop):Prop :=
 ((callFunc g args).run P w=.ok (.enter g args) w∧CallsIn (W none) 0 P g args w fun e w'=>∃ u,e=.returned u∧post u w') ∨
 ∃ u w',(callFunc g args).run P w=.ok (.value u) w'∧post u w'
def CallOK (P:Program) (call:Call):Prop :=
 ∀ g args m v m',call g args m=some (v,m')→∀ (F:Nat→Prop) (β:Place) (w:World) (us:List Value),MemOK F m β w.heap→All2 (RepV w.heap (Avail F m β w.heap) m β) args us →
  CallTo P g us.toArray w fun u w'=>∃ β',MemOK F m' β' w'.heap∧Evo F m β w m' β' w'∧RepV w'.heap (Avail F m' β' w'.heap) m' β' v u
theorem CallTo.mono {g:FuncId} {args:Array Value} {post post':Value→World→Prop} (h:CallTo P g args w post) (k:∀ u w',post u w'→post' u w'):CallTo P g args w post':=by
 rcases h with ⟨h1,h2⟩ | ⟨u,w',h1,h2⟩
 · exact .inl ⟨h1,h2.mono fun e w' ⟨u,e1,e2⟩=>⟨u,e1,k u w' e2⟩⟩
 · exact .inr ⟨u,w',h1,k u w' h2⟩

theorem callTo_upon {r:Option Nat} {o:Oper} {next:Act→World→Prop} {Q:Exit→Act→World→Prop} {g:FuncId} {args:Array Value} {post:Value→World→Prop} (hr:(execOp a.eval o).run P w=(callFunc g args).run P w)
 (hd:∀ c,o.op≠.defer c) (h:CallTo P g args w post) (hn:∀ u w',post u w'→next (a.put o.dst u) w'):o.wpIn (W r) 0 P a w next Q:=by
 refine wp_of_run hd ?_
 rw [hr]
 rcases h with ⟨h1,h2⟩ | ⟨u,w',h1,h2⟩
 · rw [h1]
   refine ⟨fun h=>(by cases h),?_⟩
   refine CallsIn.mono (F:=W r) h2 fun e w' ⟨u,e1,e2⟩=>?_
   subst e1
   exact hn u w' e2
 · rw [h1]; exact hn u w' h2

theorem noSlots_rep {h:Array Obj} {A A':Nat→Prop} {m m':Heap} {β β':Place} {x:V} {v:Value} (av:∀ b,A b→A' b) (hx:x.noSlots=true∨m=[]) (r:RepV h A m β x v):RepV h A' m' β' x v:=by
 have one:∀ (c:C) (v:Value),(c.slots=[]∨m=[])→RepC h A m β c v→RepC h A' m' β' c v:=by
  intro c v hc r
  cases c with
  | d x=>exact RepD.mono (fun b hb=>⟨av b hb,rfl⟩) r
  | nil=>exact r
  | own s i j =>
   rcases hc with hc | rfl
   · simp [C.slots] at hc
   · have r:RepOwn h [] β s i j v:=r
     simp [RepOwn] at r
  | ptr s i j =>
   rcases hc with hc | rfl
   · simp [C.slots] at hc
   · have r:RepPtr [] β s i j v:=r
     simp [RepPtr] at r
  | mp s =>
   rcases hc with hc | rfl
   · simp [C.slots] at hc
   · have r:RepMp [] β s v:=r
     simp [RepMp] at r
  | fn f caps =>
   obtain ⟨vs,rfl,r⟩:=r
   refine ⟨vs,rfl,?_⟩
   simp only [C.slots] at hc
   clear hx
   generalize vs.toList=l at r ⊢
   induction r with
   | nil=>exact .nil
   | @cons c v cs vs h1 t ih =>
    cases c with
    | d x=>exact .cons (RepD.mono (fun b hb=>⟨av b hb,rfl⟩) h1) (ih (hc.imp (by simp) id))
    | p s =>
     rcases hc with hc | rfl
     · simp at hc
     · have r:RepPtr [] β s 0 0 v:=h1
       simp [RepPtr] at r
  | dead=>exact r
 have cells:∀ (cs:List C) (vs:List Value),((cs.flatMap C.slots)=[]∨m=[])→All2 (RepC h A m β) cs vs→All2 (RepC h A' m' β') cs vs:=by
  intro cs vs hc r
  induction r with
  | nil=>exact .nil
  | cons h1 t ih =>
   simp only [List.flatMap_cons,List.append_eq_nil_iff] at hc
   exact .cons (one _ _ (hc.imp (·.1) id) h1) (ih (hc.imp (·.2) id))
 unfold V.noSlots at hx
 rw [List.isEmpty_iff] at hx
 cases x with
 | one c=>exact one c v hx r
 | agg cs=>obtain ⟨vs,e,r⟩:=r; exact ⟨vs,e,cells _ _ hx r⟩
 | tup xs =>
  obtain ⟨vs,e,r⟩:=r
  refine ⟨vs,e,?_⟩
  simp only [V.slots] at hx
  clear e
  generalize vs.toList=l at r ⊢
  induction r with
  | nil=>exact .nil
  | @cons x u xs us h1 t ih =>
   simp only [List.flatMap_cons,List.append_eq_nil_iff] at hx
   refine .cons ?_ (ih (hx.imp (·.2) id))
   obtain ⟨g,cs⟩:=x
   cases g with
   | true=>obtain ⟨us,e,r⟩:=h1; exact ⟨us,e,cells _ _ (hx.imp (·.1) id) r⟩
   | false =>
    obtain ⟨c,e,r⟩:=h1
    simp at e
    subst e
    exact ⟨c,rfl,one _ _ (hx.imp (fun h=>by simpa using h.1) id) r⟩
 | dead=>trivial

theorem view_ok {call:Call} (hc:CallOK P call) {g:Nat} {xs:List Arg} {σ:St} {m':Heap} {v:V} (h:evO call σ (.view g xs)=some (v,m')) {us:List Value} (hm:MemOK F σ.mem β w.heap)
 (r:All2 (RepV w.heap (Avail F σ.mem β w.heap) σ.mem β) (xs.map σ.arg) us):CallTo P g us.toArray w fun u w'=>∃ β',MemOK F m' β' w'.heap∧Evo F σ.mem β w m' β' w'∧RepV w'.heap (Avail F m' β' w'.heap) m' β' v u:=by
 simp only [evO] at h
 obtain ⟨vs,h1,h⟩:=bind_some' h
 obtain ⟨x,h2,h⟩:=bind_some' h
 split at h
 · rename_i hp
   split at h
   · rename_i hx
     cases h
     have h2:call g vs []=some (x.1,[]):=by rw [h2,←hx]
     have h0:MemOK F [] β w.heap:=⟨fun s sl hs=>by simp at hs,fun k l sl tl b o o' hk=>by simp [live] at hk,fun b ⟨k,sl,o,hk,_⟩=>by simp [live] at hk,hm.fl⟩
     refine (hc g vs [] x.1 [] h2 F β w us h0 (seeVs_rep hm r h1)).mono fun u w' ⟨β1,g1,g2,g3⟩=>?_
     have same:∀ b,b < w.heap.size→w'.heap[b]?=w.heap[b]?:=by
      intro b hb
      by_cases c:F b
      · exact g2.fo b hb c
      · exact (g2.av b ⟨hb,c,fun ⟨k,sl,o,hk,_⟩=>by simp [live] at hk⟩).2
     have E:Evo F σ.mem β w σ.mem β w':=by
      refine ⟨g2.os,g2.tape,g2.output,g2.size,fun b hb=>⟨⟨Nat.lt_of_lt_of_le hb.1 g2.size,hb.2⟩,same b hb.1⟩,g2.fo,fun b hb=>.inl hb,fun s sl hs=>⟨sl,hs,?_⟩⟩
      by_cases c:sl=.dead
      · exact .inl c
      · refine .inr ⟨Slot.like.refl _,rfl,fun b o hb=>?_⟩
        unfold blkSize
        rw [same b (hm.blkK (live_s.trans hs) c hb)]
     refine ⟨β,⟨fun s sl hs=>?_,hm.injK,hm.nf,fun b hb=>Nat.lt_of_lt_of_le (hm.fl b hb) g2.size⟩,E,plain_rep hp g3⟩
     by_cases c:sl=.dead
     · subst c; trivial
     · refine SlotRel.evo E (fun _=>rfl) (fun i y b o hy hb=>?_) (hm.slots s sl hs)
       by_cases d:y=.dead
       · subst d
         cases i with
         | none=>cases hy; exact absurd rfl c
         | some i=>exact absurd hy (by cases sl <;> simp [Slot.part] <;> grind)
       · exact same b (hm.blkK ((live_of hs i).trans hy) d hb)
   · cases h
 · cases h
theorem own1_rep {h:Array Obj} {A A':Nat→Prop} {m m':Heap} {β β':Place} {n:Nat} {x:V} {v:Value} (hx:x.own1=true) (ho:∀ off len u,RepOwn h m β 0 off len u→RepOwn h m' β' n off len u) (r:RepV h A m β x v):RepV h A' m' β' (x.mapC (C.at n)) v:=by
 have one:∀ (c:C) (u:Value),c.own1=true→RepC h A m β c u→RepC h A' m' β' (c.at n) u:=by
  intro c u hc r
  unfold C.own1 at hc
  split at hc
  · rename_i s off len
    have:s=0:=by simpa using hc
    subst this
    exact ho _ _ _ r
  · rename_i hno
    have e:c.at n=c:=by
     cases c <;> first | rfl | exact absurd rfl (hno _ _ _)
    rw [e]
    exact plainC_rep hc r
 have cells:∀ (cs:List C) (us:List Value),cs.all C.own1=true→All2 (RepC h A m β) cs us→All2 (RepC h A' m' β') (cs.map (C.at n)) us:=by
  intro cs us hc r
  induction r with
  | nil=>exact .nil
  | cons h t ih =>
   simp only [List.all_cons,Bool.and_eq_true] at hc
   exact .cons (one _ _ hc.1 h) (ih hc.2)
 cases x with
 | one c=>exact one c v hx r
 | agg cs=>obtain ⟨vs,e,r⟩:=r; exact ⟨vs,e,cells _ _ hx r⟩
 | tup xs =>
  obtain ⟨vs,e,r⟩:=r
  refine ⟨vs,e,?_⟩
  have hx:xs.all (fun x=>x.2.all C.own1)=true:=hx
  clear e
  generalize vs.toList=l at r ⊢
  induction r with
  | nil=>exact .nil
  | @cons x u xs us h1 t ih =>
   simp only [List.all_cons,Bool.and_eq_true] at hx
   refine .cons ?_ (ih hx.2 hx.2)
   obtain ⟨g,cs⟩:=x
   cases g with
   | true=>obtain ⟨us,e,r⟩:=h1; exact ⟨us,e,cells _ _ hx.1 r⟩
   | false =>
    obtain ⟨c,e,r⟩:=h1
    simp at e
    subst e
    exact ⟨_,rfl,one _ _ (by simpa using hx.1) r⟩
 | dead=>trivial
theorem viewO_ok {call:Call} (hc:CallOK P call) {g:Nat} {xs:List Arg} {σ:St} {m':Heap} {v:V} (h:evO call σ (.viewO g xs)=some (v,m')) {us:List Value} (hm:MemOK F σ.mem β w.heap)
 (r:All2 (RepV w.heap (Avail F σ.mem β w.heap) σ.mem β) (xs.map σ.arg) us):CallTo P g us.toArray w fun u w'=>∃ β',MemOK F m' β' w'.heap∧Evo F σ.mem β w m' β' w'∧RepV w'.heap (Avail F m' β' w'.heap) m' β' v u:=by
 simp only [evO] at h
 obtain ⟨vs,h1,h⟩:=bind_some' h
 obtain ⟨x,h2,h⟩:=bind_some' h
 split at h
 · rename_i hp
   split at h
   · rename_i z ds hx
     split at h
     · rename_i hnum
       cases h
       have h2:call g vs []=some (x.1,[.vals z ds]):=by rw [h2,←hx]
       have h0:MemOK F [] β w.heap:=⟨fun s sl hs=>by simp at hs,fun k l sl tl b o o' hk=>by simp [live] at hk,fun b ⟨k,sl,o,hk,_⟩=>by simp [live] at hk,hm.fl⟩
       refine (hc g vs [] x.1 _ h2 F β w us h0 (seeVs_rep hm r h1)).mono fun u w' ⟨β1,g1,g2,g3⟩=>?_
       have same:∀ b,b < w.heap.size→w'.heap[b]?=w.heap[b]?:=by
        intro b hb
        by_cases c:F b
        · exact g2.fo b hb c
        · exact (g2.av b ⟨hb,c,fun ⟨k,sl,o,hk,_⟩=>by simp [live] at hk⟩).2
       have fresh:∀ b o,β1 (0,none)=some (b,o)→w.heap.size≤b:=fun b o hb=>by
        rcases g2.own b ⟨(0,none),.vals z ds,o,rfl,by simp,hb⟩ with ⟨k,sl,o,hk,_⟩ | c
        · simp [live] at hk
        · exact c
       obtain ⟨n,hn⟩:∃ n,n=σ.mem.length:=⟨_,rfl⟩
       rw [←hn]
       have hg:(σ.mem++[Slot.vals z ds])[n]?=some (.vals z ds):=by rw [hn,List.getElem?_append_right (Nat.le_refl _),Nat.sub_self]; rfl
       have own:∀ b,Owned (σ.mem++[.vals z ds]) (upd β n (β1 (0,none))) b→Owned σ.mem β b∨w.heap.size≤b:=by
        rintro b ⟨k,sl,o,k1,k2,k3⟩
        rcases live_pushF k1 with ⟨c,k1⟩ | ⟨c,k1⟩
        · rw [upd_neK (by omega)] at k3; exact .inl ⟨k,sl,o,k1,k2,k3⟩
        · subst c
          rw [←hn,upd_same] at k3
          exact .inr (fresh b o k3)
       have E:Evo F σ.mem β w (σ.mem++[.vals z ds]) (upd β n (β1 (0,none))) w':=by
        refine ⟨g2.os,g2.tape,g2.output,g2.size,fun b hb=>⟨⟨Nat.lt_of_lt_of_le hb.1 g2.size,hb.2.1,fun c=>?_⟩,same b hb.1⟩,g2.fo,own,fun s sl hs=>⟨sl,by rw [List.getElem?_append_left (slot_lt hs)]; exact hs,?_⟩⟩
        · rcases own b c with c | c
          · exact hb.2.2 c
          · have:=hb.1; omega
        · by_cases c:sl=.dead
          · exact .inl c
          · have hl:=slot_lt hs
            refine .inr ⟨Slot.like.refl _,upd_ne (by omega),fun b o hb=>?_⟩
            unfold blkSize
            rw [same b (hm.blkK (live_s.trans hs) c hb)]
       have lies:SlotRel w'.heap (Avail F (σ.mem++[.vals z ds]) (upd β n (β1 (0,none))) w'.heap) (σ.mem++[.vals z ds]) (upd β n (β1 (0,none))) n (.vals z ds):=by
        obtain ⟨q1,q2,q3⟩:=g1.slots 0 _ rfl
        refine ⟨q1,q2,?_⟩
        rw [upd_same]
        revert q3
        cases β1 (0,none) with
        | none=>exact id
        | some p =>
         intro q3
         refine ⟨q3.1,fun i j d e hd he=>?_⟩
         obtain ⟨v,k1,k2⟩:=q3.2 i j d e hd he
         refine ⟨v,k1,?_⟩
         have hd':=List.all_eq_true.1 (List.all_eq_true.1 hnum d (List.mem_of_getElem? hd)) e (List.mem_of_getElem? he)
         cases k2 <;> first | exact RepD.int _ _ | exact RepD.bool _ | cases hd'
       refine ⟨upd β n (β1 (0,none)),hm.make E ?_ fun s sl hs=>?_,E,own1_rep hp (fun off len u ru=>?_) g3⟩
       · intro k l sl tl b o o' k1 k2 k3 k4 k5 k6
         rcases live_pushF k1 with ⟨c,k1⟩ | ⟨c,k1⟩
         · rw [upd_neK (by omega)] at k5
           rcases live_pushF k3 with ⟨d,k3⟩ | ⟨d,k3⟩
           · rw [upd_neK (by omega)] at k6
             exact hm.injK k l sl tl b o o' k1 k2 k3 k4 k5 k6
           · subst d
             rw [←hn,upd_same] at k6
             have:=fresh b o' k6
             have:=hm.blkK k1 k2 k5
             omega
         · subst c
           rw [←hn,upd_same] at k5
           rcases live_pushF k3 with ⟨d,k3⟩ | ⟨d,k3⟩
           · rw [upd_neK (by omega)] at k6
             have:=fresh b o k5
             have:=hm.blkK k3 k4 k6
             omega
           · exact d.symm
       · rcases get_push hs with ⟨c,k1⟩ | ⟨c,k1⟩
         · exact .inl ⟨k1,upd_still (by omega),fun k x b o hk hx hd hb=>same b (hm.blkK hx hd hb)⟩
         · subst c k1
           exact .inr (by rw [←hn]; exact lies)
       · unfold RepOwn at ru ⊢
         rw [hg]
         simp only [List.getElem?_cons_zero] at ru
         simp only [upd_same]
         exact ru
     · cases h
   · cases h
 · cases h
theorem doCall_ok {call:Call} (hc:CallOK P call) {pure:Bool} {g:Nat} {args:List V} {m m':Heap} {v:V} (h:doCall call pure g args m=some (v,m')) {us:List Value} (hm:MemOK F m β w.heap)
 (r:All2 (RepV w.heap (Avail F m β w.heap) m β) args us):CallTo P g us.toArray w fun u w'=>∃ β',MemOK F m' β' w'.heap∧Evo F m β w m' β' w'∧RepV w'.heap (Avail F m' β' w'.heap) m' β' v u:=by
 unfold doCall at h
 cases pure with
 | true =>
  simp only [if_true] at h
  split at h
  · rename_i hns
    obtain ⟨x,hx,h1⟩:=bind_some' h
    clear h
    split at h1
    · rename_i hx2
      cases h1
      have hn:([]:List Nat).Nodup:=List.nodup_nil
      have h0:=hc g args [] x.1 x.2 hx (waits [] m β F) (selβ [] β) w us (wait_ok hn hm) (by
       refine All2.of_get r.length fun i a b ha hb=>?_
       obtain ⟨b',e1,e2⟩:=r.get ha
       rw [hb] at e1; cases e1
       exact noSlots_rep (fun b hb=>(wait_av b).2 hb) (.inl (List.all_eq_true.1 hns a (List.mem_of_getElem? ha))) e2)
      refine h0.mono fun u w' ⟨β1,g1,g2,g3⟩=>?_
      rw [hx2] at g1 g2 g3
      obtain ⟨k1,k2,k3⟩:=merge (m1:=[]) hn (by simp) hm g1 g2 g3
      have e0:wback [] (([]:Heap).map (Slot.mapC (C.ren fun t=>some (back [] m.length t)))) m=m:=by simp [wback]
      rw [e0] at k1 k2
      refine ⟨_,k1,k2,noSlots_rep (m:=[]) (fun b hb=>?_) (.inr rfl) g3⟩
      refine ⟨hb.1,fun c=>hb.2.1 (.inl c),fun c=>?_⟩
      rcases k2.own b c with d | d
      · exact hb.2.1 (.inr ⟨d,fun ⟨s,sl,o,h1,_⟩=>by simp [live,sel] at h1⟩)
      · obtain ⟨s,sl,o,h1,h2,h3⟩:=c
        have hs:=live_lt h1
        unfold mergeβ at h3
        simp only [if_pos hs,find] at h3
        have:=hm.blkK h1 h2 h3
        omega
    · cases h1
  · cases h
 | false =>
  simp only [Bool.false_eq_true,if_false] at h
  obtain ⟨ids,hids⟩:∃ ids,ids=reach m (4*m.length+args.length*8+8) (args.flatMap V.slots) []:=⟨_,rfl⟩
  rw [←hids] at h
  split at h
  · rename_i hlt
    obtain ⟨x,hx,h1⟩:=bind_some' h
    cases h1
    have hn:ids.Nodup:=by rw [hids]; exact reach_nodup _ _ _ _ List.nodup_nil
    have h0:=hc g _ _ x.1 x.2 hx (waits ids m β F) (selβ ids β) w us (wait_ok hn hm) (r.map fun c u hcu=>RepV.map (fun c v hv=>ren_rep sel_fwd (fun b hb=>(wait_av b).2 hb) hv) hcu)
    refine h0.mono fun u w' ⟨β1,g1,g2,g3⟩=>?_
    obtain ⟨k1,k2,k3⟩:=merge hn (allLt_iff hlt) hm g1 g2 g3
    exact ⟨_,k1,k2,k3⟩
  · cases h

theorem trOpt_some {x:Option Operand} {y:Option Arg} (h:trOpt x=some y):trOpt x=some y:=h

theorem op_sound {call:Call} (hc:CallOK P call) {r:Option Nat} {o:Oper} {m0 mo:MOp} {v:V} {m':Heap} {next:Act→World→Prop} {Q:Exit→Act→World→Prop} (ht:trOp P o.op m0=some mo)
 (he:evO call σ mo=some (v,m')) (hm:MemOK F σ.mem β w.heap) (k:EnvOK w.heap (Avail F σ.mem β w.heap) σ.mem β σ.env a)
 (hn:∀ u w' β',MemOK F m' β' w'.heap→Evo F σ.mem β w m' β' w'→RepV w'.heap (Avail F m' β' w'.heap) m' β' v u→next (a.put o.dst u) w'):o.wpIn (W r) 0 P a w next Q:=by
 have val:∀ {x:Operand},(execOp a.eval o=pure (.value (a.eval x)))→(trArg x).map MOp.mov=some mo→(∀ c,o.op≠.defer c)→o.wpIn (W r) 0 P a w next Q:=by
  intro x hx hy hd
  obtain ⟨y,h1,h2⟩:=Option.map_eq_some_iff.1 hy
  subst h2
  simp only [evO] at he
  cases he
  refine does_wp (β:=β) (F:=F) (σ:=σ) hd ?_ hn
  rw [hx]
  exact do_val hm k h1
 cases ho:o.op with
 | move x=>rw [ho] at ht; exact val (x:=x) (by simp [execOp,ho]) (by simpa only [trOp] using ht) (by rw [ho]; intro c h; cases h)
 | assign x=>rw [ho] at ht; exact val (x:=x) (by simp [execOp,ho]) (by simpa only [trOp] using ht) (by rw [ho]; intro c h; cases h)
 | nilCheck x =>
  rw [ho] at ht
  simp only [trOp] at ht
  obtain ⟨x',h1,rfl⟩:=Option.map_eq_some_iff.1 ht
  have hr:=Rep_arg k h1
  simp only [evO] at he
  have key:∀ b o',a.eval x=.pointer (some ⟨b,o',none⟩)→σ.arg x'=v→m'=σ.mem→o.wpIn (W r) 0 P a w next Q:=by
   intro b o' hv hx hm'
   subst hm'
   refine does_wp (β:=β) (F:=F) (σ:=σ) (by rw [ho]; intro c h; cases h) ?_ hn
   refine .same hm (u:=a.eval x) ?_ (hx ▸ hr)
   simp only [execOp,ho,hv,Sem.run_pure]
  split at he
  · rename_i s i j hx
    cases he
    rw [hx] at hr
    have hr:RepPtr σ.mem β s i j (a.eval x):=hr
    unfold RepPtr at hr
    split at hr
    · obtain ⟨_,b,o',_,e⟩:=hr; exact key _ _ e hx rfl
    · obtain ⟨_,b,o',_,e⟩:=hr; exact key _ _ e hx rfl
    · obtain ⟨_,b,o',_,e⟩:=hr; exact key _ _ e hx rfl
    · obtain ⟨b,o',e⟩:=hr; exact key _ _ e hx rfl
    · exact hr.elim
  · rename_i ds hx
    cases he
    rw [hx] at hr
    have hr:RepD _ _ (.ref ds) (a.eval x):=hr
    generalize hq:a.eval x=q at hr
    cases hr with
    | ref _ b o' u hA hc hr'=>exact key _ _ hq hx rfl
  · cases he
 | pick c x y =>
  rw [ho] at ht
  simp only [trOp] at ht
  obtain ⟨c',h1,ht⟩:=bind_some' ht
  obtain ⟨x',h2,ht⟩:=bind_some' ht
  obtain ⟨y',h3,rfl⟩:=Option.map_eq_some_iff.1 ht
  exact does_wp (by rw [ho]; intro c h; cases h) (do_pick hm k h1 h2 h3 he o ho) hn
 | binOp op T x y U =>
  rw [ho] at ht
  simp only [trOp] at ht
  obtain ⟨x',h1,ht⟩:=bind_some' ht
  obtain ⟨y',h2,ht⟩:=bind_some' ht
  split at ht
  · split at ht
    · cases ht
      exact does_wp (by rw [ho]; intro c h; cases h) (do_isn (neg:=false) hm k (by assumption) h1 he o ho) hn
    · cases ht
      exact does_wp (by rw [ho]; intro c h; cases h) (do_isn (neg:=true) hm k (by assumption) h1 he o ho) hn
    · cases ht
  · obtain ⟨ks,h3,ht⟩:=bind_some' ht
    obtain ⟨g,h4,ht⟩:=bind_some' ht
    split at ht
    · cases ht
    · rename_i h5
      split at ht
      · cases ht
        exact does_wp (by rw [ho]; intro c h; cases h) (do_eqs (neg:=false) hm k h3 h4 (by simpa using h5) h1 h2 he o ho) hn
      · cases ht
        exact does_wp (by rw [ho]; intro c h; cases h) (do_eqs (neg:=true) hm k h3 h4 (by simpa using h5) h1 h2 he o ho) hn
      · cases ht
  · cases ht
    exact does_wp (by rw [ho]; intro c h; cases h) (do_bin hm k h1 h2 he o ho) hn
 | unOp op T x =>
  rw [ho] at ht
  simp only [trOp] at ht
  split at ht
  · obtain ⟨x',h1,rfl⟩:=Option.map_eq_some_iff.1 ht
    exact does_wp (by rw [ho]; intro c h; cases h) (do_not hm k h1 he o ho) hn
  · obtain ⟨x',h1,rfl⟩:=Option.map_eq_some_iff.1 ht
    exact does_wp (by rw [ho]; intro c h; cases h) (do_neg hm k h1 he o ho) hn
  · cases ht
 | convert S T x =>
  rw [ho] at ht
  simp only [trOp] at ht
  split at ht
  · rename_i d q hS hT
    obtain ⟨x',h1,rfl⟩:=Option.map_eq_some_iff.1 ht
    exact does_wp (by rw [ho]; intro c h; cases h) (do_conv hm k h1 hS hT he o ho) hn
  · cases ht
 | alloc T =>
  rw [ho] at ht
  simp only [trOp] at ht
  split at ht
  · obtain ⟨z,h1,ht⟩:=bind_some' ht
    split at ht
    · rename_i h4
      cases ht
      rw [Bool.and_eq_true] at h4
      exact does_wp (by rw [ho]; intro c h; cases h) (do_allocF hm h1 h4.1 (by simpa using h4.2) he o ho) hn
    · cases ht
  · split at ht
    · rename_i n e hT
      obtain ⟨x,h1,ht⟩:=bind_some' ht
      obtain ⟨z,h2,ht⟩:=bind_some' ht
      obtain ⟨ze,h3,ht⟩:=bind_some' ht
      split at ht
      · rename_i h4
        cases ht
        rw [Bool.and_eq_true] at h4
        exact does_wp (by rw [ho]; intro c h; cases h) (do_allocA hm h1 h2 h3 h4.1 (by simpa using h4.2) he o ho) hn
      · cases ht
    · cases ht
  · obtain ⟨z,h1,rfl⟩:=Option.map_eq_some_iff.1 ht
    exact does_wp (by rw [ho]; intro c h; cases h) (do_alloc hm h1 he o ho) hn
 | box T x =>
  rw [ho] at ht
  simp only [trOp] at ht
  obtain ⟨x',h1,rfl⟩:=Option.map_eq_some_iff.1 ht
  exact does_wp (by rw [ho]; intro c h; cases h) (do_box hm k h1 he o ho) hn
 | build T ps =>
  rw [ho] at ht
  simp only [trOp] at ht
  split at ht
  · rename_i fs hT
    obtain ⟨z,h1,ht⟩:=bind_some' ht
    split at ht
    · rename_i h2
      obtain ⟨qs,h3,rfl⟩:=Option.map_eq_some_iff.1 ht
      exact does_wp (by rw [ho]; intro c h; cases h) (do_build_struct hm k hT h1 h2 h3 he o ho) hn
    · cases ht
  · rename_i n e hT
    obtain ⟨z,h1,ht⟩:=bind_some' ht
    obtain ⟨s,h2,ht⟩:=bind_some' ht
    obtain ⟨qs,h3,rfl⟩:=Option.map_eq_some_iff.1 ht
    exact does_wp (by rw [ho]; intro c h; cases h) (do_build_array hm k hT h1 h2 h3 he o ho) hn
  · cases ht
 | buildSlice T len ps =>
  rw [ho] at ht
  simp only [trOp] at ht
  split at ht
  · rename_i e hT
    split at ht
    · obtain ⟨z,h1,ht⟩:=bind_some' ht
      split at ht
      · rename_i h2
        obtain ⟨qs,h3,rfl⟩:=Option.map_eq_some_iff.1 ht
        exact does_wp (by rw [ho]; intro c h; cases h) (do_litR hm k hT h1 h2 h3 he o ho) hn
      · cases ht
    · obtain ⟨z,h1,ht⟩:=bind_some' ht
      split at ht
      · rename_i h2
        obtain ⟨qs,h3,rfl⟩:=Option.map_eq_some_iff.1 ht
        exact does_wp (by rw [ho]; intro c h; cases h) (do_lit hm k hT h1 h2 h3 he o ho) hn
      · cases ht
  · cases ht
 | makeMap T x =>
  rw [ho] at ht
  cases x with
  | some r=>simp only [trOp] at ht; cases ht
  | none =>
   simp only [trOp] at ht
   split at ht
   · split at ht
     · cases ht
       exact does_wp (by rw [ho]; intro c h; cases h) (do_mkmap hm he o ho) hn
     · cases ht
   · cases ht
 | insert T x y z =>
  rw [ho] at ht
  simp only [trOp] at ht
  split at ht
  · rename_i K E hT
    split at ht
    · rename_i hK
      obtain ⟨x',h1,ht⟩:=bind_some' ht
      obtain ⟨y',h2,ht⟩:=bind_some' ht
      obtain ⟨z',h3,rfl⟩:=Option.map_eq_some_iff.1 ht
      exact does_wp (by rw [ho]; intro c h; cases h) (do_insert hm k hT hK h1 h2 h3 he o ho) hn
    · cases ht
  · cases ht
 | lookup T x y b =>
  rw [ho] at ht
  cases b with
  | true=>simp only [trOp] at ht; cases ht
  | false =>
   simp only [trOp] at ht
   split at ht
   · rename_i K E hT
     split at ht
     · rename_i hK
       obtain ⟨x',h1,ht⟩:=bind_some' ht
       obtain ⟨y',h2,rfl⟩:=Option.map_eq_some_iff.1 ht
       exact does_wp (by rw [ho]; intro c h; cases h) (do_lookup hm k hT hK h1 h2 he o ho) hn
     · cases ht
   · cases ht
 | load T x =>
  rw [ho] at ht
  simp only [trOp] at ht
  split at ht
  · obtain ⟨n,h1,ht1⟩:=bind_some' ht
    clear ht
    obtain ⟨g,h2,ht2⟩:=bind_some' ht1
    clear ht1
    split at ht2
    · rename_i h3
      obtain ⟨hg0,hn1⟩:=h3
      obtain ⟨x',h4,h5⟩:=Option.map_eq_some_iff.1 ht2
      subst hg0 hn1 h5
      exact does_wp (by rw [ho]; intro c h; cases h) (do_lend hm k h1 h2 h4 he o ho) hn
    · cases ht2
  · obtain ⟨n,h1,ht⟩:=bind_some' ht
    obtain ⟨g,h2,ht⟩:=bind_some' ht
    split at ht
    · cases ht
    · rename_i h3
      obtain ⟨x',h4,rfl⟩:=Option.map_eq_some_iff.1 ht
      exact does_wp (by rw [ho]; intro c h; cases h) (do_load hm k h1 h2 h3 h4 he o ho) hn
 | store T x y =>
  rw [ho] at ht
  simp only [trOp] at ht
  obtain ⟨n,h1,ht⟩:=bind_some' ht
  split at ht
  · cases ht
  · rename_i h0
    obtain ⟨x',h2,ht⟩:=bind_some' ht
    obtain ⟨y',h3,rfl⟩:=Option.map_eq_some_iff.1 ht
    exact does_wp (by rw [ho]; intro c h; cases h) (do_store hm k h1 h0 h2 h3 he o ho) hn
 | fieldAddr T x f =>
  rw [ho] at ht
  simp only [trOp] at ht
  split at ht
  · rename_i fs hT
    obtain ⟨fd,h1,ht⟩:=bind_some' ht
    obtain ⟨n,h2,ht⟩:=bind_some' ht
    split at ht
    · cases ht
    · rename_i h3
      obtain ⟨x',h4,rfl⟩:=Option.map_eq_some_iff.1 ht
      exact does_wp (by rw [ho]; intro c h; cases h) (do_faddr hm k hT h1 h2 h3 h4 he o ho) hn
  · cases ht
 | field T x f =>
  rw [ho] at ht
  simp only [trOp] at ht
  split at ht
  · rename_i fs hT
    obtain ⟨fd,h1,ht⟩:=bind_some' ht
    obtain ⟨n,h2,ht⟩:=bind_some' ht
    obtain ⟨g,h3,ht⟩:=bind_some' ht
    split at ht
    · cases ht
    · rename_i h4
      obtain ⟨x',h5,rfl⟩:=Option.map_eq_some_iff.1 ht
      exact does_wp (by rw [ho]; intro c h; cases h) (do_field hm k hT h1 h2 h3 h4 h5 he o ho) hn
  · cases ht
 | index T x y =>
  rw [ho] at ht
  simp only [trOp] at ht
  split at ht
  · rename_i hT
    obtain ⟨x',h1,ht⟩:=bind_some' ht
    obtain ⟨y',h2,rfl⟩:=Option.map_eq_some_iff.1 ht
    exact does_wp (by rw [ho]; intro c h; cases h) (do_sidx hm k hT h1 h2 he o ho) hn
  · rename_i n e hT
    obtain ⟨s,h1,ht⟩:=bind_some' ht
    obtain ⟨g,h2,ht⟩:=bind_some' ht
    split at ht
    · cases ht
    · rename_i h3
      obtain ⟨x',h4,ht⟩:=bind_some' ht
      obtain ⟨y',h5,rfl⟩:=Option.map_eq_some_iff.1 ht
      exact does_wp (by rw [ho]; intro c h; cases h) (do_vidx hm k hT h1 h2 h3 h4 h5 he o ho) hn
  · cases ht
 | indexAddr T x y =>
  rw [ho] at ht
  simp only [trOp] at ht
  split at ht
  · rename_i e hT
    obtain ⟨z,h1,ht⟩:=bind_some' ht
    obtain ⟨x',h2,ht⟩:=bind_some' ht
    obtain ⟨y',h3,rfl⟩:=Option.map_eq_some_iff.1 ht
    exact does_wp (by rw [ho]; intro c h; cases h) (do_iaddr hm k hT h1 h2 h3 he o ho) hn
  · rename_i n e hT
    obtain ⟨s,h1,ht⟩:=bind_some' ht
    obtain ⟨x',h2,ht⟩:=bind_some' ht
    obtain ⟨y',h3,rfl⟩:=Option.map_eq_some_iff.1 ht
    split at he
    · exact does_wp (by rw [ho]; intro c h; cases h) (do_aflat hm k hT h1 h2 h3 he o ho) hn
    · exact does_wp (by rw [ho]; intro c h; cases h) (do_aaddr hm k hT h1 h2 h3 he o ho) hn
  · cases ht
 | slice T x lo hi mx =>
  rw [ho] at ht
  simp only [trOp] at ht
  split at ht
  · rename_i e hT
    obtain ⟨z,h1,ht⟩:=bind_some' ht
    obtain ⟨x',h2,ht⟩:=bind_some' ht
    obtain ⟨lo',h3,ht⟩:=bind_some' ht
    obtain ⟨hi',h4,ht⟩:=bind_some' ht
    obtain ⟨mx',h5,rfl⟩:=Option.map_eq_some_iff.1 ht
    exact does_wp (by rw [ho]; intro c h; cases h) (do_slice hm k hT h1 h2 h3 h4 h5 he o ho) hn
  · cases ht
 | makeSlice T x y =>
  rw [ho] at ht
  simp only [trOp] at ht
  split at ht
  · rename_i e hT
    split at ht
    · obtain ⟨z,h1,ht⟩:=bind_some' ht
      obtain ⟨x',h2,ht⟩:=bind_some' ht
      obtain ⟨y',h3,rfl⟩:=Option.map_eq_some_iff.1 ht
      exact does_wp (by rw [ho]; intro c h; cases h) (do_mkrows hm k hT h1 h2 h3 he o ho) hn
    · obtain ⟨z,h1,ht⟩:=bind_some' ht
      obtain ⟨x',h2,ht⟩:=bind_some' ht
      obtain ⟨y',h3,rfl⟩:=Option.map_eq_some_iff.1 ht
      exact does_wp (by rw [ho]; intro c h; cases h) (do_mkslice hm k hT h1 h2 h3 he o ho) hn
  · cases ht
 | extract x i =>
  rw [ho] at ht
  simp only [trOp] at ht
  obtain ⟨x',h1,rfl⟩:=Option.map_eq_some_iff.1 ht
  exact does_wp (by rw [ho]; intro c h; cases h) (do_ext hm k h1 he o ho) hn
 | makeFunc f first caps =>
  rw [ho] at ht
  simp only [trOp] at ht
  split at ht
  · rename_i h0
    obtain ⟨xs,h1,rfl⟩:=Option.map_eq_some_iff.1 ht
    have:first=#[]:=by simpa using h0
    subst this
    exact does_wp (by rw [ho]; intro c h; cases h) (do_mkfn hm k h1 he o ho) hn
  · cases ht
 | call c =>
  rw [ho] at ht
  have hd:∀ c,o.op≠.defer c:=by rw [ho]; intro c h; cases h
  simp only [trOp] at ht
  split at ht
  ·
    rename_i hcal
    split at ht
    · rename_i x T hargs htys
      have ha:c.args=#[x]:=by apply Array.ext'; simpa using hargs
      have hty:c.argTypes=#[T]:=by apply Array.ext'; simpa using htys
      have fin:∀ (str:Bool) (x':Arg),trArg x=some x'→(if str then P.underlying T=some .string else ∃ e,P.underlying T=some (.slice e))→mo=.len str x'→o.wpIn (W r) 0 P a w next Q:=by
       intro str x' h1 h2 h3
       subst h3
       obtain ⟨u,g1,g2,g3⟩:=do_len (P:=P) k h1 h2 he o.type
       subst g3
       refine does_wp hd (.same (u:=u) hm ?_ g2) hn
       simp only [execOp,ho,resolve,hcal,ha,hty,Sem.run_bind,Sem.run_pure,Result.andThen_ok,invoke,builtin]
       simp [g1]
      split at ht
      · rename_i e hT
        obtain ⟨x',h1,h2⟩:=Option.map_eq_some_iff.1 ht
        exact fin false x' h1 ⟨e,hT⟩ h2.symm
      · rename_i hT
        obtain ⟨x',h1,h2⟩:=Option.map_eq_some_iff.1 ht
        exact fin true x' h1 hT h2.symm
      · cases ht
    · cases ht
  · rename_i hcal
    obtain ⟨xs,h1,rfl⟩:=Option.map_eq_some_iff.1 ht
    obtain ⟨u,g1,g2,g3⟩:=do_min (P:=P) k h1 he c.argTypes o.type
    subst g3
    refine does_wp hd (.same (u:=u) hm ?_ g2) hn
    simp only [execOp,ho,resolve,hcal,Sem.run_bind,Sem.run_pure,Result.andThen_ok,invoke,builtin,g1]
  · rename_i hcal
    obtain ⟨xs,h1,rfl⟩:=Option.map_eq_some_iff.1 ht
    obtain ⟨u,g1,g2,g3⟩:=do_max (P:=P) k h1 he c.argTypes o.type
    subst g3
    refine does_wp hd (.same (u:=u) hm ?_ g2) hn
    simp only [execOp,ho,resolve,hcal,Sem.run_bind,Sem.run_pure,Result.andThen_ok,invoke,builtin,g1]
  · rename_i hcal
    split at ht
    · rename_i x y T U hargs htys
      have ha:c.args=#[x,y]:=by apply Array.ext'; simpa using hargs
      have hty:c.argTypes=#[T,U]:=by apply Array.ext'; simpa using htys
      split at ht
      · rename_i e f hT hU
        split at ht
        · obtain ⟨z,h1,ht⟩:=bind_some' ht
          obtain ⟨x',h2,ht⟩:=bind_some' ht
          obtain ⟨y',h3,rfl⟩:=Option.map_eq_some_iff.1 ht
          obtain ⟨u,w',β',g1,g2,g3,g4⟩:=do_appendR (P:=P) hm k hT hU h1 h2 h3 he o.type
          refine does_wp hd ⟨u,w',β',.inl ?_,g2,g3,g4⟩ hn
          simp only [execOp,ho,resolve,hcal,ha,hty,Sem.run_bind,Sem.run_pure,Result.andThen_ok,invoke,builtin]
          simp [g1]
        · obtain ⟨z,h1,ht⟩:=bind_some' ht
          obtain ⟨x',h2,ht⟩:=bind_some' ht
          obtain ⟨y',h3,rfl⟩:=Option.map_eq_some_iff.1 ht
          obtain ⟨u,w',β',g1,g2,g3,g4⟩:=do_append (P:=P) hm k hT hU h1 h2 h3 he o.type
          refine does_wp hd ⟨u,w',β',.inl ?_,g2,g3,g4⟩ hn
          simp only [execOp,ho,resolve,hcal,ha,hty,Sem.run_bind,Sem.run_pure,Result.andThen_ok,invoke,builtin]
          simp [g1]
      · cases ht
    · cases ht
  · rename_i g hcal
    obtain ⟨xs,h1,ht⟩:=Option.map_eq_some_iff.1 ht
    have r:=Rep_args k h1
    have run:(execOp a.eval o).run P w=(callFunc g (c.args.toList.map a.eval).toArray).run P w:=by
     simp only [execOp,ho,resolve,hcal,Sem.run_bind,Sem.run_pure,Result.andThen_ok,invoke,Deferred.ofValue,Act.eval]
     congr 1
     apply congrArg
     apply Array.ext'
     simp
    split at ht
    · subst ht
      exact callTo_upon (g:=g) (args:=(c.args.toList.map a.eval).toArray) run hd (view_ok hc he hm r) fun u w' ⟨β',g1,g2,g3⟩=>hn u w' β' g1 g2 g3
    · subst ht
      exact callTo_upon (g:=g) (args:=(c.args.toList.map a.eval).toArray) run hd (viewO_ok hc he hm r) fun u w' ⟨β',g1,g2,g3⟩=>hn u w' β' g1 g2 g3
    · subst ht
      simp only [evO] at he
      exact callTo_upon (g:=g) (args:=(c.args.toList.map a.eval).toArray) run hd (doCall_ok hc he hm r) fun u w' ⟨β',g1,g2,g3⟩=>hn u w' β' g1 g2 g3
    · subst ht
      simp only [evO] at he
      exact callTo_upon (g:=g) (args:=(c.args.toList.map a.eval).toArray) run hd (doCall_ok hc he hm r) fun u w' ⟨β',g1,g2,g3⟩=>hn u w' β' g1 g2 g3
  · rename_i t hcal
    obtain ⟨xs,h1,rfl⟩:=Option.map_eq_some_iff.1 ht
    simp only [evO] at he
    have ra:=Rep_args k h1
    have rf:=k t
    have fin:∀ (g:Nat) (extra:List V) (us:Array Value),a.eval (.tmp t)=.func (.func g) #[] us→All2 (RepV w.heap (Avail F σ.mem β w.heap) σ.mem β) extra us.toList →
     doCall call false g (xs.map σ.arg++extra) σ.mem=some (v,m')→o.wpIn (W r) 0 P a w next Q:=by
     intro g extra us e1 e2 e3
     refine callTo_upon (g:=g) (args:=(c.args.toList.map a.eval++us.toList).toArray) ?_ hd (doCall_ok hc e3 hm (ra.append e2)) fun u w' ⟨β',g1,g2,g3⟩=>hn u w' β' g1 g2 g3
     simp only [execOp,ho,resolve,hcal,Sem.run_bind,Sem.run_pure,Result.andThen_ok,e1,invoke,Deferred.ofValue]
     congr 1
     apply congrArg
     apply Array.ext'
     simp
    split at he
    · rename_i g caps hx
      have hx:σ.env.get t=.one (.fn (.func g) caps):=hx
      rw [hx] at rf
      obtain ⟨vs,e1,e2⟩:=rf
      refine fin g _ vs e1 (e2.map fun c u hcu=>?_) he
      cases c with
      | d x=>exact hcu
      | p s=>exact hcu
    · rename_i g caps hx
      have hx:σ.env.get t=.one (.d (.fn (.func g) caps)):=hx
      rw [hx] at rf
      have rf:RepD w.heap (Avail F σ.mem β w.heap) (.fn (.func g) caps) (a.tmps.getD t undef):=rf
      have:∃ vs,a.tmps.getD t undef=.func (.func g) #[] vs∧All2 (RepD w.heap (Avail F σ.mem β w.heap)) caps vs.toList:=by
       generalize a.tmps.getD t undef=q at rf
       cases rf with
       | fn _ _ vs hl hr=>exact ⟨vs,rfl,All2.of_get (by simpa using hl.symm) fun i c v hc hv=>hr i c v hc (by simpa using hv)⟩
      obtain ⟨vs,e1,e2⟩:=this
      exact fin g _ vs e1 (e2.map (f:=fun c=>V.one (C.d c)) fun c u hcu=>hcu) he
    · cases he
  · cases ht
 | _=>rw [ho] at ht; simp [trOp] at ht
end

section
variable {P:Program}


def St.eqv (σ τ:St):Prop:=(∀ t,σ.env.get t=τ.env.get t)∧σ.mem=τ.mem
theorem St.eqv.refl (σ:St):σ.eqv σ:=⟨fun _=>rfl,rfl⟩
theorem St.eqv.symm {σ τ:St} (h:σ.eqv τ):τ.eqv σ:=⟨fun t=>(h.1 t).symm,h.2.symm⟩
theorem St.eqv.trans {a b c:St} (h:a.eqv b) (k:b.eqv c):a.eqv c:=⟨fun t=>(h.1 t).trans (k.1 t),h.2.trans k.2⟩

theorem arg_congr {σ τ:St} {x:Arg} (h:∀ t∈x.tmp?,σ.env.get t=τ.env.get t):σ.arg x=τ.arg x:=by
 cases x with
 | t n=>exact h n (by simp [Arg.tmp?])
 | k v=>rfl
 | f g=>rfl
theorem args_congr {σ τ:St} {xs:List Arg} (h:∀ t∈xs.flatMap Arg.tmp?,σ.env.get t=τ.env.get t):xs.map σ.arg=xs.map τ.arg :=
 List.map_congr_left fun x hx=>arg_congr fun t ht=>h t (List.mem_flatMap.2 ⟨x,hx,ht⟩)
theorem opt_congr {σ τ:St} {x:Option Arg} (h:∀ t∈optT x,σ.env.get t=τ.env.get t):x.map σ.arg=x.map τ.arg:=by
 cases x with
 | none=>rfl
 | some x=>exact congrArg some (arg_congr h)

theorem evO_congr {call:Call} {σ τ:St} {o:MOp} (h:∀ t∈o.tmps,σ.env.get t=τ.env.get t) (hm:σ.mem=τ.mem):evO call σ o=evO call τ o:=by
 cases o <;> simp only [MOp.tmps,List.mem_append] at h <;> simp only [evO,hm]
 case mov x=>rw [arg_congr h]
 case nilc x=>rw [arg_congr h]
 case pick c a b=>rw [arg_congr (x:=c) fun t ht=>h t (.inl (.inl ht)),arg_congr (x:=a) fun t ht=>h t (.inl (.inr ht)),arg_congr (x:=b) fun t ht=>h t (.inr ht)]
 case bin op x y=>rw [arg_congr (x:=x) fun t ht=>h t (.inl ht),arg_congr (x:=y) fun t ht=>h t (.inr ht)]
 case eqs n g ks x y=>rw [arg_congr (x:=x) fun t ht=>h t (.inl ht),arg_congr (x:=y) fun t ht=>h t (.inr ht)]
 case isn n x=>rw [arg_congr h]
 case not x=>rw [arg_congr h]
 case neg x=>rw [arg_congr h]
 case conv k x=>rw [arg_congr h]
 case box x=>rw [arg_congr h]
 case build z ps =>
  have:(ps.map fun p=>(p.1,p.2.1,σ.arg p.2.2))=ps.map fun p=>(p.1,p.2.1,τ.arg p.2.2):=List.map_congr_left fun p hp=>by
   rw [arg_congr fun t ht=>h t (List.mem_flatMap.2 ⟨p,hp,ht⟩)]
  rw [this]
 case lit d z n ps =>
  have:(ps.map fun p=>(p.1,σ.arg p.2))=ps.map fun p=>(p.1,τ.arg p.2):=List.map_congr_left fun p hp=>by
   rw [arg_congr fun t ht=>h t (List.mem_flatMap.2 ⟨p,hp,ht⟩)]
  rw [this]
 case load n g x=>rw [arg_congr h]
 case store n x y=>rw [arg_congr (x:=x) fun t ht=>h t (.inl ht),arg_congr (x:=y) fun t ht=>h t (.inr ht)]
 case faddr off x=>rw [arg_congr h]
 case field off n g x=>rw [arg_congr h]
 case iaddr z x y=>rw [arg_congr (x:=x) fun t ht=>h t (.inl ht),arg_congr (x:=y) fun t ht=>h t (.inr ht)]
 case aaddr n s x y=>rw [arg_congr (x:=x) fun t ht=>h t (.inl ht),arg_congr (x:=y) fun t ht=>h t (.inr ht)]
 case aflat n s x y=>rw [arg_congr (x:=x) fun t ht=>h t (.inl ht),arg_congr (x:=y) fun t ht=>h t (.inr ht)]
 case slice z x lo hi mx =>
  rw [arg_congr (x:=x) fun t ht=>h t (.inl (.inl (.inl ht))),opt_congr (x:=lo) fun t ht=>h t (.inl (.inl (.inr ht))),opt_congr (x:=hi) fun t ht=>h t (.inl (.inr ht)),opt_congr (x:=mx) fun t ht=>h t (.inr ht)]
 case mkslice z x y=>rw [arg_congr (x:=x) fun t ht=>h t (.inl ht),arg_congr (x:=y) fun t ht=>h t (.inr ht)]
 case len s x=>rw [arg_congr h]
 case min xs=>rw [args_congr h]
 case max xs=>rw [args_congr h]
 case append z x y=>rw [arg_congr (x:=x) fun t ht=>h t (.inl ht),arg_congr (x:=y) fun t ht=>h t (.inr ht)]
 case ext x i=>rw [arg_congr h]
 case call p g xs=>rw [args_congr h]
 case callv x xs=>rw [arg_congr (x:=x) fun t ht=>h t (.inl ht),args_congr (xs:=xs) fun t ht=>h t (.inr ht)]
 case mkfn f xs=>rw [args_congr h]
 case insert x k v=>rw [arg_congr (x:=x) fun t ht=>h t (.inl (.inl ht)),arg_congr (x:=k) fun t ht=>h t (.inl (.inr ht)),arg_congr (x:=v) fun t ht=>h t (.inr ht)]
 case sidx x k=>rw [arg_congr (x:=x) fun t ht=>h t (.inl ht),arg_congr (x:=k) fun t ht=>h t (.inr ht)]
 case vidx n sz g x k=>rw [arg_congr (x:=x) fun t ht=>h t (.inl ht),arg_congr (x:=k) fun t ht=>h t (.inr ht)]
 case lend x=>rw [arg_congr h]
 case mkrows z x k=>rw [arg_congr (x:=x) fun t ht=>h t (.inl ht),arg_congr (x:=k) fun t ht=>h t (.inr ht)]
 case view g xs=>rw [args_congr h]
 case viewO g xs=>rw [args_congr h]
 case appendR x k=>rw [arg_congr (x:=x) fun t ht=>h t (.inl ht),arg_congr (x:=k) fun t ht=>h t (.inr ht)]
 case litR z n ps =>
  have:(ps.map fun p=>(p.1,σ.arg p.2))=ps.map fun p=>(p.1,τ.arg p.2):=List.map_congr_left fun p hp=>by
   rw [arg_congr fun t ht=>h t (List.mem_flatMap.2 ⟨p,hp,ht⟩)]
  rw [this]
 case lookup x k=>rw [arg_congr (x:=x) fun t ht=>h t (.inl ht),arg_congr (x:=k) fun t ht=>h t (.inr ht)]

theorem evO_pure {call:Call} {σ:St} {o:MOp} (hc:o.cls=0) {v:V} {m':Heap} (h:evO call σ o=some (v,m')):m'=σ.mem∧∀ m,evO call ⟨σ.env,m⟩ o=some (v,m):=by
 have same:∀ (x:Option V),(x.bind fun v=>some (v,σ.mem))=some (v,m')→m'=σ.mem∧x=some v:=by
  intro x hx
  obtain ⟨u,h1,h2⟩:=bind_some' hx
  cases h2
  exact ⟨rfl,h1⟩
 have ea:∀ m,(⟨σ.env,m⟩:St).arg=σ.arg:=fun m=>by funext x; cases x <;> rfl
 cases o <;> simp only [MOp.cls] at hc <;> first | (cases hc; done) | skip
 case mov x=>simp only [evO] at h; cases h; exact ⟨rfl,fun m=>by simp only [evO,ea]⟩
 case nilc x =>
  simp only [evO] at h
  split at h
  · rename_i hx; cases h; exact ⟨rfl,fun m=>by simp only [evO,ea,hx]⟩
  · rename_i hx; cases h; exact ⟨rfl,fun m=>by simp only [evO,ea,hx]⟩
  · cases h
 case pick c a b =>
  simp only [evO] at h
  obtain ⟨p,h1,h2⟩:=bind_some' h
  cases h2
  exact ⟨rfl,fun m=>by simp only [evO,ea,h1,Option.bind_some]⟩
 case bin op x y =>
  simp only [evO] at h
  obtain ⟨p,h1,h⟩:=bind_some' h
  obtain ⟨q,h2,h⟩:=bind_some' h
  obtain ⟨u,h3,h⟩:=bind_some' h
  cases h
  exact ⟨rfl,fun m=>by simp only [evO,ea,h1,h2,h3,Option.bind_some]⟩
 case eqs n g ks x y =>
  simp only [evO] at h
  obtain ⟨p,h1,h⟩:=bind_some' h
  obtain ⟨q,h2,h⟩:=bind_some' h
  obtain ⟨u,h3,h⟩:=bind_some' h
  cases h
  exact ⟨rfl,fun m=>by simp only [evO,ea,h1,h2,h3,Option.bind_some]⟩
 case isn n x =>
  simp only [evO] at h
  obtain ⟨c,h1,h⟩:=bind_some' h
  split at h
  · cases h; exact ⟨rfl,fun m=>by simp only [evO,ea,h1,Option.bind_some]⟩
  · split at h
    · rename_i hl
      cases h; exact ⟨rfl,fun m=>by simp only [evO,ea,h1,Option.bind_some,if_pos hl]⟩
    · cases h
  · cases h
 case not x =>
  simp only [evO] at h
  obtain ⟨p,h1,h⟩:=bind_some' h
  cases h
  exact ⟨rfl,fun m=>by simp only [evO,ea,h1,Option.bind_some]⟩
 case neg x =>
  simp only [evO] at h
  obtain ⟨p,h1,h⟩:=bind_some' h
  cases h
  exact ⟨rfl,fun m=>by simp only [evO,ea,h1,Option.bind_some]⟩
 case conv k x =>
  simp only [evO] at h
  obtain ⟨p,h1,h⟩:=bind_some' h
  cases h
  exact ⟨rfl,fun m=>by simp only [evO,ea,h1,Option.bind_some]⟩
 case build z ps =>
  simp only [evO] at h
  obtain ⟨p,h1,h⟩:=bind_some' h
  cases h
  exact ⟨rfl,fun m=>by simp only [evO,ea,h1,Option.bind_some]⟩
 case lit d z n ps =>
  cases d with
  | true =>
   simp only [evO,if_true] at h
   obtain ⟨p,h1,h⟩:=bind_some' h
   cases h
   exact ⟨rfl,fun m=>by simp only [evO,if_true,ea,h1,Option.bind_some]⟩
  | false=>cases hc
 case faddr off x =>
  simp only [evO] at h
  obtain ⟨c,h1,h⟩:=bind_some' h
  split at h
  · cases h; exact ⟨rfl,fun m=>by simp only [evO,ea,h1,Option.bind_some]⟩
  · cases h; exact ⟨rfl,fun m=>by simp only [evO,ea,h1,Option.bind_some]⟩
  · cases h
 case sidx x i =>
  simp only [evO] at h
  obtain ⟨c,h1,h2⟩:=bind_some' h
  clear h
  obtain ⟨p,h3,h⟩:=bind_some' h2
  clear h2
  split at h
  · split at h
    · rename_i h0
      obtain ⟨b,h4,h⟩:=bind_some' h
      cases h
      exact ⟨rfl,fun m=>by simp only [evO,ea,h1,h3,Option.bind_some,if_pos h0,h4]⟩
    · cases h
  · cases h
 case vidx n sz g x i =>
  simp only [evO] at h
  obtain ⟨p,h1,h2⟩:=bind_some' h
  clear h
  split at h2
  · rename_i cs hx
    split at h2
    · rename_i h0
      obtain ⟨b,h4,h⟩:=bind_some' h2
      cases h
      exact ⟨rfl,fun m=>by simp only [evO,ea,h1,hx,Option.bind_some,if_pos h0,h4]⟩
    · cases h2
  · cases h2
 case field off n g x =>
  simp only [evO] at h
  split at h
  · rename_i cs hx
    obtain ⟨u,h1,h⟩:=bind_some' h
    cases h
    exact ⟨rfl,fun m=>by simp only [evO,ea,hx,h1,Option.bind_some]⟩
  · cases h
 case len s x =>
  cases s with
  | true =>
   simp only [evO,if_true] at h
   obtain ⟨c,h1,h⟩:=bind_some' h
   split at h
   · cases h; exact ⟨rfl,fun m=>by simp only [evO,ea,h1,Option.bind_some,if_true]⟩
   · cases h
  | false =>
   simp only [evO,Bool.false_eq_true,if_false] at h
   obtain ⟨c,h1,h⟩:=bind_some' h
   split at h
   · cases h; exact ⟨rfl,fun m=>by simp only [evO,ea,h1,Option.bind_some,Bool.false_eq_true,if_false]⟩
   · cases h; exact ⟨rfl,fun m=>by simp only [evO,ea,h1,Option.bind_some,Bool.false_eq_true,if_false]⟩
   · cases h; exact ⟨rfl,fun m=>by simp only [evO,ea,h1,Option.bind_some,Bool.false_eq_true,if_false]⟩
   · cases h
 case min xs =>
  simp only [evO] at h
  obtain ⟨e,h1⟩:=same _ h
  exact ⟨e,fun m=>by simp only [evO,ea,h1,Option.bind_some]⟩
 case max xs =>
  simp only [evO] at h
  obtain ⟨e,h1⟩:=same _ h
  exact ⟨e,fun m=>by simp only [evO,ea,h1,Option.bind_some]⟩
 case ext x i =>
  simp only [evO] at h
  split at h
  · rename_i xs hx
    split at h
    · rename_i g cs hi
      obtain ⟨u,h1,h⟩:=bind_some' h
      cases h
      exact ⟨rfl,fun m=>by simp only [evO,ea,hx,hi,h1,Option.bind_some]⟩
    · cases h
  · cases h
 case call p g xs =>
  cases p with
  | true =>
   simp only [evO,doCall,if_true] at h
   split at h
   · rename_i hns
     obtain ⟨x,h1,h⟩:=bind_some' h
     split at h
     · rename_i hx
       cases h
       exact ⟨rfl,fun m=>by simp only [evO,ea,doCall,if_true,hns,h1,Option.bind_some,hx]⟩
     · cases h
   · cases h
  | false=>cases hc
 case mkfn f xs =>
  simp only [evO] at h
  obtain ⟨cs,h1,h⟩:=bind_some' h
  cases h
  exact ⟨rfl,fun m=>by simp only [evO,ea,h1,Option.bind_some]⟩
theorem evO_reads {call:Call} {σ:St} {o:MOp} (hc:o.cls=1) {v:V} {m':Heap} (h:evO call σ o=some (v,m')):m'=σ.mem:=by
 cases o <;> simp only [MOp.cls] at hc <;> first | (cases hc; done) | skip
 case lit d z n ps=>cases d <;> simp at hc
 case call p g xs=>cases p <;> simp at hc
 case load n g x =>
  simp only [evO] at h
  obtain ⟨c,h1,h⟩:=bind_some' h
  obtain ⟨cs,h2,h⟩:=bind_some' h
  obtain ⟨u,h3,h⟩:=bind_some' h
  cases h; rfl
 case lookup x y =>
  simp only [evO] at h
  obtain ⟨c,h1,h2⟩:=bind_some' h
  clear h
  obtain ⟨i,h3,h⟩:=bind_some' h2
  clear h2
  split at h
  · split at h
    · split at h
      · obtain ⟨d,h4,h⟩:=bind_some' h
        cases h; rfl
      · cases h
    · cases h
  · cases h
 case iaddr z x y =>
  simp only [evO] at h
  obtain ⟨c,h1,h2⟩:=bind_some' h
  clear h
  obtain ⟨i,h3,h⟩:=bind_some' h2
  clear h2
  split at h
  · split at h
    · split at h
      · cases h; rfl
      · cases h
    · cases h
  · split at h
    · split at h
      · split at h
        · cases h; rfl
        · cases h
      · cases h
    · split at h
      · split at h
        · cases h; rfl
        · cases h
      · cases h
    · cases h
  · cases h
 case aflat n s x y =>
  simp only [evO] at h
  obtain ⟨c,h1,h2⟩:=bind_some' h
  clear h
  obtain ⟨i,h3,h⟩:=bind_some' h2
  clear h2
  split at h
  · split at h
    · split at h
      · split at h
        · cases h; rfl
        · cases h
      · cases h
    · cases h
  · cases h
 case aaddr n s x y =>
  simp only [evO] at h
  obtain ⟨c,h1,h2⟩:=bind_some' h
  clear h
  obtain ⟨i,h3,h⟩:=bind_some' h2
  clear h2
  split at h
  · split at h
    · split at h
      · split at h
        · cases h; rfl
        · cases h
      · cases h
    · split at h
      · cases h; rfl
      · cases h
    · cases h
  · cases h
 case slice z x lo hi mx =>
  simp only [evO] at h
  obtain ⟨c,h1,h2⟩:=bind_some' h
  clear h
  split at h2
  · split at h2
    · obtain ⟨b,h3,h⟩:=bind_some' h2
      cases h; rfl
    · cases h2
  · split at h2
    · split at h2
      · obtain ⟨b,h3,h⟩:=bind_some' h2
        cases h; rfl
      · cases h2
    · split at h2
      · obtain ⟨b,h3,h⟩:=bind_some' h2
        cases h; rfl
      · cases h2
    · cases h2
  · obtain ⟨b,h3,h⟩:=bind_some' h2
    cases h; rfl
  · cases h2

 case view g xs =>
  simp only [evO] at h
  obtain ⟨vs,h1,h⟩:=bind_some' h
  obtain ⟨r,h2,h⟩:=bind_some' h
  split at h
  · split at h
    · cases h; rfl
    · cases h
  · cases h
theorem act_congr {call:Call} {σ τ:St} {i:FI} (h:∀ t∈i.looks,σ.env.get t=τ.env.get t) (hm:σ.mem=τ.mem):act call i σ=act call i τ:=by
 unfold FI.looks at h
 unfold act
 rw [evO_congr (call:=call) (o:=i.o) (fun t ht=>h t (List.mem_append_right _ ht)) hm,hm]
 cases hg:i.g with
 | none=>rfl
 | some p =>
  obtain ⟨t,want⟩:=p
  simp only []
  rw [hg] at h
  rw [h t (by simp)]
theorem act_pure {call:Call} {σ:St} {i:FI} (hc:i.o.cls=0) {v:V} {m':Heap} (h:act call i σ=some (v,m')):m'=σ.mem∧∀ m,act call i ⟨σ.env,m⟩=some (v,m):=by
 unfold act at h
 cases hg:i.g with
 | none =>
  rw [hg] at h
  obtain ⟨h1,h2⟩:=evO_pure hc h
  exact ⟨h1,fun m=>by unfold act; rw [hg]; exact h2 m⟩
 | some p =>
  obtain ⟨t,want⟩:=p
  rw [hg] at h
  simp only [] at h
  split at h
  · rename_i p hp
    split at h
    · rename_i hw
      obtain ⟨h1,h2⟩:=evO_pure hc h
      exact ⟨h1,fun m=>by unfold act; rw [hg]; simp only [hp,if_pos hw]; exact h2 m⟩
    · rename_i hw
      cases h
      exact ⟨rfl,fun m=>by unfold act; rw [hg]; simp only [hp,if_neg hw]⟩
  · rename_i hp
    cases h
    exact ⟨rfl,fun m=>by unfold act; rw [hg]; simp only [hp]⟩
  · cases h
theorem act_reads {call:Call} {σ:St} {i:FI} (hc:i.o.cls=1) {v:V} {m':Heap} (h:act call i σ=some (v,m')):m'=σ.mem:=by
 unfold act at h
 split at h
 · exact evO_reads hc h
 · split at h
   · split at h
     · exact evO_reads hc h
     · cases h; rfl
   · cases h; rfl
   · cases h

theorem put_get {σ:St} {m:Heap} {d:Option Nat} {v:V} (t:Nat):(St.put ⟨σ.env,m⟩ d v).env.get t=if d=some t then v else σ.env.get t:=by
 cases d with
 | none=>simp [St.put]
 | some d =>
  simp only [St.put,Env.get_put]
  by_cases c:t=d
  · subst c; simp
  · rw [if_neg c,if_neg (fun e=>c (by cases e; rfl))]
theorem put_mem {σ:St} {m:Heap} {d:Option Nat} {v:V}:(St.put ⟨σ.env,m⟩ d v).mem=m:=by cases d <;> rfl

theorem evFI_eqv {call:Call} {i:FI} {σ τ σ':St} (h:σ.eqv τ) (e:evFI call i σ=some σ'):∃ τ',evFI call i τ=some τ'∧σ'.eqv τ':=by
 unfold evFI at e ⊢
 obtain ⟨r,h1,h2⟩:=bind_some' e
 cases h2
 rw [←act_congr (call:=call) (i:=i) (fun t _=>h.1 t) h.2,h1]
 exact ⟨_,rfl,fun t=>by rw [put_get,put_get,h.1 t],by rw [put_mem,put_mem]⟩
theorem evFs_eqv {call:Call}:∀ {is:List FI} {σ τ σ':St},σ.eqv τ→evFs call is σ=some σ'→∃ τ',evFs call is τ=some τ'∧σ'.eqv τ'
 | [],σ,τ,σ',h,e=>by simp only [evFs] at e; cases e; exact ⟨τ,rfl,h⟩
 | i::is,σ,τ,σ',h,e=>by
  simp only [evFs] at e ⊢
  obtain ⟨σ1,h1,h2⟩:=bind_some' e
  obtain ⟨τ1,g1,g2⟩:=evFI_eqv h h1
  obtain ⟨τ',k1,k2⟩:=evFs_eqv g2 h2
  exact ⟨τ',by rw [g1]; exact k1,k2⟩

theorem apart_spec {i j:FI} (h:i.apart j=true):(∀ d,i.dst=some d→d ∉ j.looks)∧(∀ d,i.dst=some d→j.dst≠some d)∧(∀ d,j.dst=some d→d ∉ i.looks):=by
 refine ⟨fun d hd=>?_,fun d hd=>?_,fun d hd=>?_⟩ <;> simp [FI.apart,hd] at h
 · exact h.1.1
 · exact h.1.2
 · exact h.2

theorem swap {call:Call} {i j:FI} {σ σ1 σ2:St} (hc:i.comm j=true) (h1:evFI call i σ=some σ1) (h2:evFI call j σ1=some σ2) :
 ∃ τ1 τ2,evFI call j σ=some τ1∧evFI call i τ1=some τ2∧σ2.eqv τ2:=by
 unfold FI.comm at hc
 rw [Bool.and_eq_true] at hc
 obtain ⟨hap,hcl⟩:=hc
 obtain ⟨a1,a2,a3⟩:=apart_spec hap
 unfold evFI at h1 h2
 obtain ⟨⟨vi,mi⟩,g1,e1⟩:=bind_some' h1
 cases e1
 obtain ⟨⟨vj,mj⟩,g2,e2⟩:=bind_some' h2
 cases e2
 have go:∀ (m1:Heap),act call j σ=some (vj,m1)→act call i ⟨σ.env,m1⟩=some (vi,mj)→∃ τ1 τ2,evFI call j σ=some τ1∧evFI call i τ1=some τ2∧(St.put ⟨(St.put ⟨σ.env,mi⟩ i.dst vi).env,mj⟩ j.dst vj).eqv τ2:=by
  intro m1 k1 k2
  refine ⟨St.put ⟨σ.env,m1⟩ j.dst vj,St.put ⟨(St.put ⟨σ.env,m1⟩ j.dst vj).env,mj⟩ i.dst vi,?_,?_,fun t=>?_,by rw [put_mem,put_mem]⟩
  · unfold evFI; rw [k1]; rfl
  · unfold evFI
    rw [act_congr (call:=call) (i:=i) (τ:=⟨σ.env,m1⟩) (fun t ht=>by
     rw [put_get]
     rw [if_neg (fun e=>a3 t e ht)]) (by rw [put_mem]),k2]
    rfl
  · rw [put_get,put_get,put_get,put_get]
    by_cases c1:j.dst=some t
    · rw [if_pos c1,if_pos c1,if_neg (fun c2=>a2 t c2 c1)]
    · rw [if_neg c1,if_neg c1]
 have gj:∀ m,act call j (St.put ⟨σ.env,m⟩ i.dst vi)=act call j ⟨σ.env,m⟩:=fun m=>act_congr (fun t ht=>by
  rw [put_get]
  rw [if_neg (fun e=>a1 t e ht)]) (by rw [put_mem])
 rw [gj mi] at g2
 simp only [Bool.or_eq_true,beq_iff_eq,Bool.and_eq_true] at hcl
 rcases hcl with (hcl | hcl) | hcl
 · obtain ⟨k1,k2⟩:=act_pure hcl g1
   subst k1
   exact go mj g2 (k2 mj)
 · obtain ⟨k1,k2⟩:=act_pure hcl g2
   simp only [] at k1
   subst k1
   refine go σ.mem (k2 σ.mem) g1
 · have k1:=act_reads hcl.1 g1
   subst k1
   have k2:=act_reads hcl.2 g2
   simp only [] at k2
   subst k2
   exact go _ g2 g1
theorem bubble {call:Call} {i:FI}:∀ {pre:List FI} {σ σ':St},(∀ j∈pre,j.comm i=true)→evFs call (pre++[i]) σ=some σ'→∃ τ τ',evFI call i σ=some τ∧evFs call pre τ=some τ'∧σ'.eqv τ'
 | [],σ,σ',_,h=>by
  simp only [List.nil_append,evFs] at h
  obtain ⟨τ,h1,h2⟩:=bind_some' h
  cases h2
  exact ⟨_,_,h1,rfl,.refl _⟩
 | j::pre,σ,σ',hc,h=>by
  simp only [List.cons_append,evFs] at h
  obtain ⟨σ1,h1,h2⟩:=bind_some' h
  obtain ⟨τ,τ',g1,g2,g3⟩:=bubble (fun x hx=>hc x (by simp [hx])) h2
  obtain ⟨ρ1,ρ2,k1,k2,k3⟩:=swap (hc j (by simp)) h1 g1
  obtain ⟨ρ',l1,l2⟩:=evFs_eqv k3 g2
  exact ⟨ρ1,ρ',k1,by simp only [evFs,k2,Option.bind_some]; exact l1,g3.trans l2⟩
theorem evFs_app {call:Call}:∀ {as bs:List FI} {σ σ':St},evFs call (as++bs) σ=some σ'↔∃ τ,evFs call as σ=some τ∧evFs call bs τ=some σ'
 | [],bs,σ,σ'=>by simp [evFs]
 | a::as,bs,σ,σ'=>by
  simp only [List.cons_append,evFs]
  constructor
  · intro h
    obtain ⟨σ1,h1,h2⟩:=bind_some' h
    obtain ⟨τ,g1,g2⟩:=evFs_app.1 h2
    exact ⟨τ,by rw [h1]; exact g1,g2⟩
  · rintro ⟨τ,h1,h2⟩
    obtain ⟨σ1,g1,g2⟩:=bind_some' h1
    rw [g1]
    exact evFs_app.2 ⟨τ,g2,h2⟩
end

section
variable {P:Program}

def Marks (s0:Nat) (rs ls:List Nat) (ds:List Deferred) (h:Array Obj):Prop :=
 ds=rs.map (fun r=>{ target:=.collected r,args:=#[] })∧rs.Nodup∧(∀ r∈rs,h[r]?=some (.deferred (some []))∧s0≤r)∧∀ l∈ls,s0≤l
theorem Marks.evo {F:Nat→Prop} {m m':Heap} {β β':Place} {w w':World} {s0:Nat} {rs ls:List Nat} {ds:List Deferred} (hF:∀ r∈rs,F r) (E:Evo F m β w m' β' w') (h:Marks s0 rs ls ds w.heap):Marks s0 rs ls ds w'.heap:=by
 obtain ⟨h1,h2,h3,h4⟩:=h
 refine ⟨h1,h2,fun r hr=>⟨?_,(h3 r hr).2⟩,h4⟩
 rw [E.fo r (Array.getElem?_eq_some_iff.1 (h3 r hr).1).1 (hF r hr)]
 exact (h3 r hr).1

structure Ground where
 F:Nat→Prop
 m0:Heap
 β0:Place
 w0:World
 N:Nat
 rs:List Nat
 ls:List Nat
def Ground.Fr (G:Ground):Nat→Prop:=fun b=>(G.F b∨b∈G.ls)∨b∈G.rs
def RelS (G:Ground) (σ:St) (a:Act) (w:World):Prop :=
 ∃ β,MemOK G.Fr σ.mem β w.heap∧Evo G.Fr G.m0 G.β0 G.w0 σ.mem β w∧EnvOK w.heap (Avail G.Fr σ.mem β w.heap) σ.mem β σ.env a∧a.tmps.size=G.N∧Marks G.w0.heap.size G.rs G.ls a.defers w.heap
theorem RelS.eqv {G:Ground} {σ τ:St} {a:Act} {w:World} (h:σ.eqv τ) (r:RelS G σ a w):RelS G τ a w:=by
 obtain ⟨β,h1,h2,h3,h4,h5⟩:=r
 exact ⟨β,h.2 ▸ h1,h.2 ▸ h2,fun t=>by rw [←h.1 t,←h.2]; exact h3 t,h4,h5⟩

def TrF (P:Program) (N:Nat) (ops:Array Oper) (i:FI) (o:Oper):Prop :=
 o.dst=i.dst∧dstOk N o.dst=true∧guardOk ops o i.g=true∧∃ m0,trOp P o.op m0=some i.o

theorem RelS.put {G:Ground} {σ:St} {a:Act} {w w':World} {β β':Place} {m':Heap} {d:Option Nat} {v:V} {u:Value} (hm:MemOK G.Fr σ.mem β w.heap) (hE:Evo G.Fr G.m0 G.β0 G.w0 σ.mem β w)
 (hk:EnvOK w.heap (Avail G.Fr σ.mem β w.heap) σ.mem β σ.env a) (hs:a.tmps.size=G.N) (hd:Marks G.w0.heap.size G.rs G.ls a.defers w.heap) (hdst:dstOk G.N d=true)
 (hm':MemOK G.Fr m' β' w'.heap) (E:Evo G.Fr σ.mem β w m' β' w') (r:RepV w'.heap (Avail G.Fr m' β' w'.heap) m' β' v u):RelS G (St.put ⟨σ.env,m'⟩ d v) (a.put d u) w':=by
 refine ⟨β',by rw [put_mem]; exact hm',by rw [put_mem]; exact hE.trans E,?_,?_,?_⟩
 · rw [put_mem]
   have k':=EnvOK.evo E hk
   cases d with
   | none=>exact k'
   | some d =>
    have:d < a.tmps.size:=by rw [hs]; simpa [dstOk] using hdst
    exact k'.put this r
 · cases d with
   | none=>exact hs
   | some d=>simpa [Act.put] using hs
 · have:(a.put d u).defers=a.defers:=by cases d <;> rfl
   rw [this]
   exact hd.evo (fun r hr=>.inr hr) E

theorem step_ok {call:Call} (hc:CallOK P call) {G:Ground} {r:Option Nat} {ops:Array Oper} {i:FI} {n:Nat} {o:Oper} {σ σ':St} {a:Act} {w:World} {K:Act→World→Prop} {Q:Exit→Act→World→Prop}
 (ho:ops[n]?=some o) (ht:TrF P G.N ops i o) (e:evFI call i σ=some σ') (hr:RelS G σ a w) (hK:∀ a' w',RelS G σ' a' w'→K a' w'):wpOpIn (W r) 0 P ops Q n K a w:=by
 obtain ⟨β,hm,hE,hk,hs,hd⟩:=hr
 obtain ⟨t1,t2,t3,m0,t4⟩:=ht
 unfold wpOpIn
 simp only [ho]
 unfold evFI at e
 obtain ⟨⟨v,m'⟩,h1,h2⟩:=bind_some' e
 cases h2
 have exec:evO call σ i.o=some (v,m')→o.wpIn (W r) 0 P a w K Q:=fun he =>
  op_sound hc t4 he hm hk fun u w' β' g1 g2 g3=>hK _ _ (by rw [t1]; exact RelS.put hm hE hk hs hd (t1 ▸ t2) g1 g2 g3)
 have skip:(v,m')=(.tup [],σ.mem)→((∀ f,o.about P w a.eval=some f→(W r).fn f)∧K (a.put o.dst undef) w):=fun he=>by
  cases he
  exact ⟨fun _ _=>trivial,hK _ _ (by rw [t1]; exact RelS.put hm hE hk hs hd (t1 ▸ t2) hm (.refl _ _ _ _) ⟨#[],rfl,.nil⟩)⟩
 unfold act at h1
 unfold guardOk at t3
 cases hg:i.g with
 | none =>
  rw [hg] at h1 t3
  cases hog:o.guard with
  | none =>
   have:Region.wanted o (yielded ops a.tmps)=true:=by simp [Region.wanted,hog]
   rw [if_pos this]
   exact exec h1
  | some p=>rw [hog] at t3; cases p; cases t3
 | some p =>
  obtain ⟨t,want⟩:=p
  rw [hg] at h1 t3
  cases hog:o.guard with
  | none=>rw [hog] at t3; cases t3
  | some q =>
   obtain ⟨j,want'⟩:=q
   rw [hog] at t3
   simp only [Bool.and_eq_true,beq_iff_eq] at t3
   obtain ⟨rfl,hj⟩:=t3
   have hkt:=hk t
   simp only [] at h1
   split at h1
   · rename_i p hp
     rw [hp] at hkt
     have hkt:RepD w.heap (Avail G.Fr σ.mem β w.heap) (.bool p) (a.tmps.getD t undef):=hkt
     have hv:a.tmps[t]?=some (.bool p):=by
      generalize hq:a.tmps.getD t undef=q at hkt
      cases hkt
      rw [Array.getD_eq_getD_getElem?] at hq
      cases hh:a.tmps[t]? with
      | none=>rw [hh] at hq; cases hq
      | some x=>rw [hh] at hq; simp at hq; rw [hq]
     have hy:yielded ops a.tmps j=some p:=by simp [yielded,hj,hv]
     split at h1
     · rename_i hw
       have:Region.wanted o (yielded ops a.tmps)=true:=by simp [Region.wanted,hog,hy,hw]
       rw [if_pos this]
       exact exec h1
     · rename_i hw
       have:¬Region.wanted o (yielded ops a.tmps)=true:=by simp [Region.wanted,hog,hy]; exact hw
       rw [if_neg this]
       exact skip (by cases h1; rfl)
   · rename_i hp
     rw [hp] at hkt
     obtain ⟨vs,hv,hvs⟩:=hkt
     have hvs0:vs=#[]:=by
      have:=hvs.length
      apply Array.ext'
      simpa [eq_comm] using this
     subst hvs0
     have hy:yielded ops a.tmps j=none:=by
      simp only [yielded,hj,Option.bind_some]
      rw [Array.getD_eq_getD_getElem?] at hv
      cases hh:a.tmps[t]? with
      | none=>rfl
      | some x=>rw [hh] at hv; simp at hv; rw [hv]
     have:¬Region.wanted o (yielded ops a.tmps)=true:=by simp [Region.wanted,hog,hy]
     rw [if_neg this]
     exact skip (by cases h1; rfl)
   · cases h1

theorem seq_ok {call:Call} (hc:CallOK P call) {G:Ground} {r:Option Nat} {ops:Array Oper} {Q:Exit→Act→World→Prop}:∀ (is:List FI) (ns:List Nat) (σ σ':St) (a:Act) (w:World),
 All2 (fun i n=>∃ o,ops[n]?=some o∧TrF P G.N ops i o) is ns→evFs call is σ=some σ'→RelS G σ a w→(∀ a' w',RelS G σ' a' w'→Q .normal a' w')→wpOpsIn (W r) 0 P ops Q ns a w:=by
 intro is
 induction is with
 | nil=>intro ns σ σ' a w h e hr hQ; cases h; simp only [evFs] at e; cases e; exact hQ _ _ hr
 | cons i is ih =>
  intro ns σ σ' a w h e hr hQ
  cases h with
  | cons h1 t =>
   obtain ⟨o,g1,g2⟩:=h1
   simp only [evFs] at e
   obtain ⟨σ1,e1,e2⟩:=bind_some' e
   rw [wpOpsIn_cons]
   exact step_ok hc g1 g2 e1 hr fun a' w' hr'=>ih _ _ _ _ _ t e2 hr' hQ

theorem foldl_bits {L:Nat→Prop} {acc:Array Nat}:∀ (es:List Edge) (s:Nat),(∀ j,s.testBit j=true→L j)→(∀ e∈es,Region.binds .any e=true→L e.on∧∀ j,(acc.getD e.on 0).testBit j=true→L j) →
 ∀ j,(es.foldl (fun s e=>if Region.binds .any e=true then s ||| 2 ^ e.on ||| acc.getD e.on 0 else s) s).testBit j=true→L j
 | [],s,h,_=>fun j hj=>h j hj
 | e::es,s,h,k=>by
  simp only [List.foldl_cons]
  refine foldl_bits es _ (fun j hj=>?_) (fun x hx=>k x (by simp [hx]))
  split at hj
  · rename_i hb
    obtain ⟨k1,k2⟩:=k e (by simp) hb
    rw [Nat.testBit_or,Nat.testBit_or,Bool.or_eq_true,Bool.or_eq_true] at hj
    rcases hj with (hj | hj) | hj
    · exact h j hj
    · rw [Nat.testBit_two_pow] at hj
      simp at hj
      subst hj; exact k1
    · exact k2 j hj
  · exact h j hj
theorem before_spec (ops:Array Oper) {L:Nat→Prop} (hL:∀ i o,L i→ops[i]?=some o→∀ e∈o.after,Region.binds .any e=true→L e.on) :
 ∀ i o,ops[i]?=some o→(∀ e∈o.after,Region.binds .any e=true→L e.on)→∀ j,((Region.before ops).getD i 0).testBit j=true→L j:=by
 obtain ⟨f,hf⟩:∃ f:Array Nat→Oper→Array Nat,f=fun acc o=>acc.push (o.after.foldl (fun s e=>if Region.binds .any e=true then s ||| 2 ^ e.on ||| acc.getD e.on 0 else s) 0):=⟨_,rfl⟩
 have key:∀ (l pre:List Oper) (acc:Array Nat),pre++l=ops.toList→acc.size=pre.length →
  (∀ i o,i < pre.length→ops[i]?=some o→(∀ e∈o.after,Region.binds .any e=true→L e.on)→∀ j,(acc.getD i 0).testBit j=true→L j) →
  ∀ i o,ops[i]?=some o→(∀ e∈o.after,Region.binds .any e=true→L e.on)→∀ j,((l.foldl f acc).getD i 0).testBit j=true→L j:=by
  intro l
  induction l with
  | nil =>
   intro pre acc hp hs h i o ho
   simp only [List.append_nil] at hp
   have hi:i < pre.length:=by rw [hp]; have:=(Array.getElem?_eq_some_iff.1 ho).1; simpa using this
   exact h i o hi ho
  | cons x l ih =>
   intro pre acc hp hs h
   simp only [List.foldl_cons]
   refine ih (pre++[x]) (f acc x) (by simp [hp]) (by rw [hf]; simp [hs]) fun i o hi ho hafter j hj=>?_
   have hx:ops[pre.length]?=some x:=by
    rw [←Array.getElem?_toList,←hp]; simp
   by_cases c:i < pre.length
   · have:(f acc x).getD i 0=acc.getD i 0:=by
      rw [hf]
      simp [Array.getD_eq_getD_getElem?,Array.getElem?_push,show i≠acc.size by omega]
     rw [this] at hj
     exact h i o c ho hafter j hj
   · have hi':i=pre.length:=by simp at hi; omega
     subst hi'
     rw [hx] at ho
     cases ho
     have:(f acc x).getD pre.length 0=x.after.foldl (fun s e=>if Region.binds .any e=true then s ||| 2 ^ e.on ||| acc.getD e.on 0 else s) 0:=by
      rw [hf]
      rw [Array.getD_eq_getD_getElem?,←hs,Array.getElem?_push_size]; rfl
     rw [this,←Array.foldl_toList] at hj
     refine foldl_bits x.after.toList 0 (fun j hj=>by simp at hj) (fun e he hb=>?_) j hj
     have hLe:=hafter e (by simpa using he) hb
     refine ⟨hLe,fun j hj=>?_⟩
     by_cases c2:e.on < pre.length
     · have hlt:e.on < ops.size:=by
        have:pre.length≤ops.toList.length:=by rw [←hp]; simp
        simp at this; omega
       have ho':ops[e.on]?=some ops[e.on]:=Array.getElem?_eq_getElem hlt
       exact h e.on _ c2 ho' (hL e.on _ hLe ho') j hj
     · have:acc.getD e.on 0=0:=by simp [Array.getD_eq_getD_getElem?,Array.getElem?_eq_none (show acc.size≤e.on by omega)]
       rw [this] at hj
       simp at hj
 intro i o ho hafter j hj
 refine key ops.toList [] #[] rfl rfl (fun i o h=>by simp at h) i o ho hafter j ?_
 have:Region.before ops=ops.toList.foldl f #[]:=by
  unfold Region.before
  rw [←Array.foldl_toList,hf]
 rw [←this]; exact hj

theorem drawn_ok {call:Call} (hc:CallOK P call) {G:Ground} {r:Option Nat} {ops:Array Oper} {Q:Exit→Act→World→Prop} {is:List FI} (hl:is.length=ops.size)
 (ht:∀ (n:Nat) (i:FI) (o:Oper),is[n]?=some i→ops[n]?=some o→TrF P G.N ops i o) (hd:drawOk ops is=true) {σf:St} (hQ:∀ a' w',RelS G σf a' w'→Q .normal a' w') :
 ∀ (fuel:Nat) (listed:Array Bool) (L:List Nat) (σ σ':St) (a:Act) (w:World),listed.size=ops.size→L.length=fuel →
  (∀ n,n∈L↔n < ops.size∧listed.getD n true=false)→L.Pairwise (· < ·)→(∀ n o,listed.getD n false=true→ops[n]?=some o→∀ e∈o.after,Region.binds .any e=true→listed.getD e.on false=true) →
  evFs call (L.map fun n=>is.getD n default) σ=some σ'→σ'.eqv σf→RelS G σ a w→wpAnyIn (W r) 0 P .any ops Q fuel listed a w:=by
 obtain ⟨hd1,hd2⟩:=drawOk_spec hd
 have inst:∀ (listed:Array Bool) (n:Nat),listed.size=ops.size→n < ops.size→∀ d,listed.getD n d=listed[n]?.getD false:=by
  intro listed n hs hn d
  have:n < listed.size:=by omega
  simp [Array.getD_eq_getD_getElem?,Array.getElem?_eq_getElem this]
 intro fuel
 induction fuel with
 | zero =>
  intro listed L σ σ' a w hs hlen hmem hp hcl e he hr
  have:L=[]:=List.eq_nil_of_length_eq_zero hlen
  subst this
  simp only [List.map_nil,evFs] at e
  cases e
  refine ⟨?_,hQ _ _ (hr.eqv he)⟩
  unfold Region.ready
  rw [List.filter_eq_nil_iff]
  intro n hn
  have hn':n < ops.size:=by simpa using hn
  have:listed.getD n true≠false:=fun c=>by simpa using (hmem n).2 ⟨hn',c⟩
  simp at this
  simp [this]
 | succ fuel ih =>
  intro listed L σ σ' a w hs hlen hmem hp hcl e he hr
  refine ⟨fun hnil=>?_,fun i hi=>?_⟩
  · exfalso
    cases L with
    | nil=>simp at hlen
    | cons n L =>
     obtain ⟨hn,hn2⟩:=(hmem n).1 (by simp)
     have hon:ops[n]?=some ops[n]:=Array.getElem?_eq_getElem hn
     have:n∈Region.ready .any ops listed:=mem_ready.2 ⟨hn2,_,hon,fun e he hb=>by
      have h1:=hd2 n _ (by omega) hon e he hb
      have h2:e.on ∉ n::L:=by
       intro h
       rcases List.mem_cons.1 h with h | h
       · omega
       · have:=(List.pairwise_cons.1 hp).1 _ h; omega
      have h3:¬listed.getD e.on true=false:=fun c=>h2 ((hmem e.on).2 ⟨by omega,c⟩)
      rw [inst listed _ hs (by omega)] at h3 ⊢
      simpa using h3⟩
     rw [hnil] at this
     cases this
  · obtain ⟨hjun,oj,hoj,hall⟩:=mem_ready.1 hi
    have hio:i < ops.size:=(Array.getElem?_eq_some_iff.1 hoj).1
    have hil:is[i]?=some (is.getD i default):=by
     rw [List.getD_eq_getElem?_getD,List.getElem?_eq_getElem (by omega)]; rfl
    obtain ⟨pre,post,rfl⟩:=List.append_of_mem ((hmem i).2 ⟨hio,hjun⟩)
    have hpw:=List.pairwise_append.1 hp
    rw [List.map_append,List.map_cons,List.append_cons] at e
    obtain ⟨τ,e1,e2⟩:=evFs_app.1 e
    obtain ⟨τ1,τ',g1,g2,g3⟩:=bubble (fun x hx=>by
     obtain ⟨k,hk,rfl⟩:=List.mem_map.1 hx
     have hki:k < i:=hpw.2.2 k hk i (by simp)
     have hkL:=(hmem k).1 (by simp [hk])
     refine (hd1 i (by omega) k hki).resolve_left fun hb=>?_
     have:=before_spec ops (L:=fun j=>listed.getD j false=true) hcl i oj hoj hall k hb
     have h5:=hkL.2
     rw [inst listed _ hs hkL.1] at this h5
     rw [this] at h5; cases h5) e1
    obtain ⟨σ'',k1,k2⟩:=evFs_eqv g3 e2
    refine step_ok hc hoj (ht i _ oj hil hoj) g1 hr fun a' w' hr'=>?_
    refine ih (listed.setIfInBounds i true) (pre++post) τ1 σ'' a' w' (by simpa using hs) (by simp at hlen ⊢; omega) (fun n=>?_) ?_ ?_ ?_ (k2.symm.trans he) hr'
    · by_cases c:n=i
      · subst c
        constructor
        · intro h
          exfalso
          rcases List.mem_append.1 h with h | h
          · have:=hpw.2.2 n h n (by simp); omega
          · have:=(List.pairwise_cons.1 hpw.2.1).1 n h; omega
        · intro h
          exfalso
          have h2:=h.2
          have:n < listed.size:=by omega
          simp [Array.getD_eq_getD_getElem?,this] at h2
      · rw [getD_set_ne true (Ne.symm c),←hmem n]
        simp [c]
    · refine hp.sublist ?_
      exact List.Sublist.append (List.Sublist.refl _) (List.sublist_cons_self _ _)
    · intro n o h ho ed hed hb
      by_cases c:n=i
      · subst c
        rw [hoj] at ho; cases ho
        exact getD_set_true (hall ed hed hb)
      · rw [getD_set_ne false (Ne.symm c)] at h
        exact getD_set_true (hcl n o h ho ed hed hb)
    · rw [List.map_append]
      exact evFs_app.2 ⟨τ',g2,k1⟩
end

section
variable {P:Program}

def Near (S:List Nat) (σ τ:St):Prop:=(∀ t,t ∉ S→σ.env.get t=τ.env.get t)∧σ.mem=τ.mem
theorem none_of_spec {ts S:List Nat} (h:none_of ts S=true):∀ t∈ts,t ∉ S:=by
 intro t ht hs
 have:=List.all_eq_true.1 h t ht
 simp [hs] at this
theorem Near.arg {S:List Nat} {σ τ:St} (h:Near S σ τ) {x:Arg} (hx:∀ t∈x.tmp?,t ∉ S):σ.arg x=τ.arg x:=arg_congr fun t ht=>h.1 t (hx t ht)
theorem Near.mono {S T:List Nat} {σ τ:St} (h:Near S σ τ) (k:∀ t∈S,t∈T):Near T σ τ:=⟨fun t ht=>h.1 t fun hs=>ht (k t hs),h.2⟩

def Off (τ:St) (t:Nat) (want:Bool):Prop:=(∃ p,τ.env.get t=.one (.d (.bool p))∧p≠want)∨τ.env.get t=.tup []
theorem act_off {call:Call} {τ:St} {i:FI} {t:Nat} {want:Bool} (hg:i.g=some (t,want)) (h:Off τ t want):act call i τ=some (.tup [],τ.mem):=by
 unfold act
 rw [hg]
 simp only []
 rcases h with ⟨p,h,hp⟩ | h
 · rw [h]; simp only []; rw [if_neg hp]
 · rw [h]

mutual
theorem skipI {call:Call} {t0:Nat} {want:Bool}:∀ (i:MI) {W S:List Nat} {x:List Nat × List Nat} {τ:St},okI false W S i=some x→Off τ t0 want→(∀ u∈W,τ.env.get u=.tup [])→t0 ∉ i.dsts →
 ∃ τ',evFs call (flatI (some (t0,want)) i) τ=some τ'∧τ'.mem=τ.mem∧(∀ u,u ∉ i.dsts→τ'.env.get u=τ.env.get u)∧(∀ u∈i.dsts,τ'.env.get u=.tup [])∧(∀ u∈x.1,τ'.env.get u=.tup [])
 | .op d o,W,S,x,τ,h,ho,hW,ht0=>by
  simp only [okI] at h
  split at h
  · cases h
    refine ⟨St.put ⟨τ.env,τ.mem⟩ d (.tup []),?_,put_mem,fun u hu=>?_,fun u hu=>?_,fun u hu=>?_⟩
    · simp only [flatI,evFs,evFI,act_off (i:=⟨some (t0,want),d,o⟩) rfl ho,Option.bind_some]
    · rw [put_get,if_neg]
      simp only [MI.dsts,Option.mem_toList] at hu
      exact fun c=>hu c
    · rw [put_get,if_pos]
      simpa [MI.dsts] using hu
    · rw [put_get]
      split
      · rfl
      · rename_i c
        rcases List.mem_append.1 hu with hu | hu
        · exact absurd (Option.mem_toList.1 hu) c
        · exact hW u hu
  · cases h
 | .sc t w body d e r,W,S,x,τ,h,ho,hW,ht0=>by
  simp only [okI] at h
  split at h
  · rename_i hk
    simp only [Bool.and_eq_true,Bool.false_or,List.contains_iff_mem] at hk
    obtain ⟨⟨k1,k2⟩,k3⟩:=hk
    obtain ⟨y,hy,h2⟩:=bind_some' h
    clear h
    split at h2
    · cases h2
      have hoff:Off τ t w:=.inr (hW t k1)
      have ht:t ∉ dstsL body:=fun c=>none_of_spec k2 t (by simp) (List.mem_append_right _ c)
      obtain ⟨τ1,g1,g2,g3,g5,_⟩:=skipIs (call:=call) body hy hoff (fun u hu=>by cases hu) ht
      simp only [MI.dsts,List.mem_cons,not_or] at ht0
      have ho1:Off τ1 t0 want:=by unfold Off; rw [g3 t0 ht0.2]; exact ho
      refine ⟨St.put ⟨τ1.env,τ1.mem⟩ (some d) (.tup []),?_,by rw [put_mem,g2],fun u hu=>?_,fun u hu=>?_,fun u hu=>?_⟩
      · simp only [flatI]
        refine evFs_app.2 ⟨τ1,g1,?_⟩
        simp only [evFs,evFI,act_off (i:=⟨some (t0,want),some d,.pick (.t t) (if w then r else e) (if w then e else r)⟩) rfl ho1,Option.bind_some]
      · simp only [MI.dsts,List.mem_cons,not_or] at hu
        rw [put_get,if_neg (fun c=>hu.1 (by cases c; rfl)),g3 u hu.2]
      · rw [put_get]
        split
        · rfl
        · rename_i c
          rcases List.mem_cons.1 hu with hu | hu
          · exact absurd (by rw [hu]) c
          · exact g5 u hu
      · rw [put_get]
        split
        · rfl
        · rename_i c
          rcases List.mem_cons.1 hu with hu | hu
          · exact absurd (by rw [hu]) c
          · by_cases cu:u∈dstsL body
            · exact g5 u cu
            · rw [g3 u cu]; exact hW u hu
    · cases h2
  · cases h
theorem skipIs {call:Call} {t0:Nat} {want:Bool}:∀ (is:List MI) {W S:List Nat} {x:List Nat × List Nat} {τ:St},okIs false W S is=some x→Off τ t0 want→(∀ u∈W,τ.env.get u=.tup [])→t0 ∉ dstsL is →
 ∃ τ',evFs call (flatIs (some (t0,want)) is) τ=some τ'∧τ'.mem=τ.mem∧(∀ u,u ∉ dstsL is→τ'.env.get u=τ.env.get u)∧(∀ u∈dstsL is,τ'.env.get u=.tup [])∧(∀ u∈x.1,τ'.env.get u=.tup [])
 | [],W,S,x,τ,h,ho,hW,ht0=>by
  simp only [okIs] at h
  cases h
  exact ⟨τ,rfl,rfl,fun _ _=>rfl,fun u hu=>by simp [dstsL] at hu,hW⟩
 | i::is,W,S,x,τ,h,ho,hW,ht0=>by
  simp only [okIs] at h
  obtain ⟨y,h1,h2⟩:=bind_some' h
  simp only [dstsL,List.mem_append,not_or] at ht0
  obtain ⟨τ1,g1,g2,g3,g5,g4⟩:=skipI (call:=call) i h1 ho hW ht0.1
  have ho1:Off τ1 t0 want:=by unfold Off; rw [g3 t0 ht0.1]; exact ho
  obtain ⟨τ2,k1,k2,k3,k5,k4⟩:=skipIs (call:=call) is h2 ho1 g4 ht0.2
  refine ⟨τ2,?_,by rw [k2,g2],fun u hu=>?_,fun u hu=>?_,k4⟩
  · simp only [flatIs]; exact evFs_app.2 ⟨τ1,g1,k1⟩
  · simp only [dstsL,List.mem_append,not_or] at hu
    rw [k3 u hu.2,g3 u hu.1]
  · simp only [dstsL,List.mem_append] at hu
    by_cases c:u∈dstsL is
    · exact k5 u c
    · rw [k3 u c]; exact g5 u (hu.resolve_right c)
end

def On (τ:St):Option (Nat × Bool)→Prop
 | none=>True
 | some (t,want)=>τ.env.get t=.one (.d (.bool want))
theorem act_on {call:Call} {τ:St} {i:FI} (h:On τ i.g):act call i τ=evO call τ i.o:=by
 unfold act
 cases hg:i.g with
 | none=>rfl
 | some p =>
  obtain ⟨t,want⟩:=p
  rw [hg] at h
  have h:τ.env.get t=.one (.d (.bool want)):=h
  simp only [h,if_true]
def gT:Option (Nat × Bool)→List Nat
 | none=>[]
 | some (t,_)=>[t]
theorem On.keep {τ τ':St} {g:Option (Nat × Bool)} (h:On τ g) (k:∀ t∈gT g,τ'.env.get t=τ.env.get t):On τ' g:=by
 cases g with
 | none=>trivial
 | some p=>obtain ⟨t,w⟩:=p; have:=k t (by simp [gT]); unfold On; simp only [this]; exact h

mutual
theorem nestI {call:Call} {g:Option (Nat × Bool)}:∀ (i:MI) {top:Bool} {W S:List Nat} {x:List Nat × List Nat} {σ σ' τ:St},okI top W S i=some x→Near S σ τ→On τ g→(∀ t∈gT g,t ∉ i.dsts) →
 evI call i σ=some σ'→∃ τ',evFs call (flatI g i) τ=some τ'∧Near x.2 σ' τ'∧(∀ u,u ∉ i.dsts→τ'.env.get u=τ.env.get u)
 | .op d o,top,W,S,x,σ,σ',τ,h,hn,ho,hg,e=>by
  simp only [okI] at h
  split at h
  · rename_i hk
    cases h
    simp only [evI] at e
    obtain ⟨r,h1,h2⟩:=bind_some' e
    cases h2
    rw [evO_congr (call:=call) (o:=o) (τ:=τ) (fun t ht=>hn.1 t (none_of_spec hk t ht)) hn.2] at h1
    refine ⟨St.put ⟨τ.env,r.2⟩ d r.1,?_,⟨fun t ht=>?_,by rw [put_mem,put_mem]⟩,fun u hu=>?_⟩
    · simp only [flatI,evFs,evFI,act_on (i:=⟨g,d,o⟩) ho,h1,Option.bind_some]
    · rw [put_get,put_get]
      split
      · rfl
      · rename_i c
        refine hn.1 t fun hs=>ht ?_
        simpa using ⟨hs,c⟩
    · rw [put_get,if_neg]
      intro c
      exact hu (by simp [MI.dsts,c])
  · cases h
 | .sc t w body d e r,top,W,S,x,σ,σ',τ,h,hn,ho,hg,ev=>by
  simp only [okI] at h
  split at h
  · rename_i hk
    simp only [Bool.and_eq_true] at hk
    obtain ⟨⟨k1,k2⟩,k3⟩:=hk
    obtain ⟨y,hy,h2⟩:=bind_some' h
    clear h
    split at h2
    · rename_i k4
      cases h2
      simp only [evI] at ev
      obtain ⟨p,hp,h3⟩:=bind_some' ev
      clear ev
      have htS:t ∉ S++dstsL body:=none_of_spec k2 t (by simp)
      simp only [List.mem_append,not_or] at htS
      have hp':τ.env.get t=.one (.d (.bool p)):=by
       rw [←hn.1 t htS.1]
       generalize σ.env.get t=v at hp
       unfold V.bool? at hp
       split at hp <;> cases hp
       rfl
      have hgb:∀ u∈gT g,u ∉ dstsL body∧u≠d:=fun u hu=>by
       have:=hg u hu
       simp only [MI.dsts,List.mem_cons,not_or] at this
       exact ⟨this.2,this.1⟩
      have fin:∀ (z:V × Heap) (τ1:St),evFs call (flatIs (some (t,w)) body) τ=some τ1→(∀ u,u ∉ dstsL body→τ1.env.get u=τ.env.get u)→τ1.mem=z.2→τ1.arg (if p=w then r else e)=z.1→some (⟨σ.env.put d z.1,z.2⟩:St)=some σ' →
       ∃ τ',evFs call (flatI g (.sc t w body d e r)) τ=some τ'∧Near ((S++dstsL body).filter (· != d)) σ' τ'∧(∀ u,u ∉ (MI.sc t w body d e r).dsts→τ'.env.get u=τ.env.get u):=by
       intro z τ1 g1 g2 g3 g4 g5
       cases g5
       refine ⟨St.put ⟨τ1.env,τ1.mem⟩ (some d) z.1,?_,⟨fun u hu=>?_,by rw [put_mem,g3]⟩,fun u hu=>?_⟩
       · simp only [flatI]
         refine evFs_app.2 ⟨τ1,g1,?_⟩
         have hon:On τ1 g:=ho.keep fun u hu=>g2 u (hgb u hu).1
         have:τ1.arg (.t t)=.one (.d (.bool p)):=by
          show τ1.env.get t=_
          rw [g2 t htS.2]; exact hp'
         have hv:(if p=true then τ1.arg (if w then r else e) else τ1.arg (if w then e else r))=z.1:=by
          rw [←g4]
          cases p <;> cases w <;> rfl
         simp only [evFs,evFI,act_on (i:=⟨g,some d,.pick (.t t) (if w then r else e) (if w then e else r)⟩) hon,evO,this,V.bool?,Option.bind_some,hv]
       · rw [put_get,Env.get_put]
         by_cases c:u=d
         · subst c; simp
         · rw [if_neg c,if_neg (fun c'=>c (by cases c'; rfl))]
           have:u ∉ S++dstsL body:=fun hs=>hu (by simp only [List.mem_filter,bne_iff_ne]; exact ⟨hs,c⟩)
           simp only [List.mem_append,not_or] at this
           rw [g2 u this.2]
           exact hn.1 u this.1
       · simp only [MI.dsts,List.mem_cons,not_or] at hu
         rw [put_get,if_neg (fun c=>hu.1 (by cases c; rfl)),g2 u hu.2]
      by_cases hpw:p=w
      · rw [if_pos hpw] at h3
        obtain ⟨z,hz,h4⟩:=bind_some' h3
        obtain ⟨σ1,e1,e2⟩:=bind_some' hz
        cases e2
        obtain ⟨τ1,g1,g2,g3⟩:=nestIs (call:=call) (g:=some (t,w)) body hy hn (by subst hpw; exact hp') (fun u hu=>by simp [gT] at hu; subst hu; exact htS.2) e1
        refine fin _ τ1 g1 g3 g2.2.symm ?_ h4
        rw [if_pos hpw]
        exact (g2.arg (none_of_spec k4)).symm
      · rw [if_neg hpw] at h3
        obtain ⟨z,hz,h4⟩:=bind_some' h3
        cases hz
        obtain ⟨τ1,g1,g2,g3,_,_⟩:=skipIs (call:=call) (t0:=t) (want:=w) (τ:=τ) body hy (.inl ⟨p,hp',hpw⟩) (fun u hu=>by cases hu) htS.2
        refine fin _ τ1 g1 g3 (g2.trans hn.2.symm) ?_ h4
        rw [if_neg hpw]
        have ke:=none_of_spec k3
        simp only [List.mem_append,not_or] at ke
        refine Eq.symm ((hn.arg fun u hu=>(ke u hu).1).trans ?_)
        exact arg_congr fun u hu=>(g3 u (ke u hu).2).symm
    · cases h2
  · cases h
theorem nestIs {call:Call} {g:Option (Nat × Bool)}:∀ (is:List MI) {top:Bool} {W S:List Nat} {x:List Nat × List Nat} {σ σ' τ:St},okIs top W S is=some x→Near S σ τ→On τ g→(∀ t∈gT g,t ∉ dstsL is) →
 evIs call is σ=some σ'→∃ τ',evFs call (flatIs g is) τ=some τ'∧Near x.2 σ' τ'∧(∀ u,u ∉ dstsL is→τ'.env.get u=τ.env.get u)
 | [],top,W,S,x,σ,σ',τ,h,hn,ho,hg,e=>by
  simp only [okIs] at h
  cases h
  simp only [evIs] at e
  cases e
  exact ⟨τ,rfl,hn,fun _ _=>rfl⟩
 | i::is,top,W,S,x,σ,σ',τ,h,hn,ho,hg,e=>by
  simp only [okIs] at h
  obtain ⟨y,h1,h2⟩:=bind_some' h
  simp only [evIs] at e
  obtain ⟨σ1,e1,e2⟩:=bind_some' e
  have hg':∀ t∈gT g,t ∉ i.dsts∧t ∉ dstsL is:=fun t ht=>by
   have:=hg t ht
   simpa only [dstsL,List.mem_append,not_or] using this
  obtain ⟨τ1,g1,g2,g3⟩:=nestI (call:=call) (g:=g) i h1 hn ho (fun t ht=>(hg' t ht).1) e1
  obtain ⟨τ2,k1,k2,k3⟩:=nestIs (call:=call) (g:=g) is h2 g2 (ho.keep fun u hu=>g3 u (hg' u hu).1) (fun t ht=>(hg' t ht).2) e2
  refine ⟨τ2,?_,k2,fun u hu=>?_⟩
  · simp only [flatIs]; exact evFs_app.2 ⟨τ1,g1,k1⟩
  · simp only [dstsL,List.mem_append,not_or] at hu
    rw [k3 u hu.2,g3 u hu.1]
end

mutual
theorem trI_flat {N:Nat} {ops:Array Oper} {g:Option (Nat × Bool)}:∀ (m:MI) (rest:List Oper) {i:MI} {rest':List Oper},trI P N ops g m rest=some (i,rest') →
 ∃ used,rest=used++rest'∧All2 (TrF P N ops) (flatI g i) used
 | .op d0 m,[],i,rest',h=>by simp [trI] at h
 | .op d0 m,o::rest,i,rest',h=>by
  simp only [trI] at h
  split at h
  · rename_i hk
    rw [Bool.and_eq_true] at hk
    cases hm:trOp P o.op m with
    | none=>rw [hm] at h; cases h
    | some m' =>
     rw [hm] at h
     cases h
     exact ⟨[o],rfl,.cons ⟨rfl,hk.2,hk.1,m,hm⟩ .nil⟩
  · cases h
 | .sc t w body d0 e r,rest,i,rest',h=>by
  simp only [trI] at h
  obtain ⟨⟨body',rest1⟩,h1,h2⟩:=bind_some' h
  obtain ⟨used,hu1,hu2⟩:=trIs_flat body rest h1
  clear h h1
  simp only [] at h2
  split at h2
  · rename_i o rest2
    split at h2
    · rename_i hk
      rw [Bool.and_eq_true] at hk
      split at h2
      · rename_i d c a b hd ho
        split at h2
        · rename_i t' a' b' hc ha hb
          split at h2
          · rename_i htt
            subst htt
            cases h2
            refine ⟨used++[o],by rw [hu1]; simp,?_⟩
            simp only [flatI]
            refine hu2.append (.cons ⟨hd,hk.2,hk.1,.pick default default default,?_⟩ .nil)
            rw [ho]
            simp only [trOp,hc,ha,hb,Option.bind_some,Option.map_some]
            cases w <;> rfl
          · cases h2
        · cases h2
      · cases h2
    · cases h2
  · cases h2
theorem trIs_flat {N:Nat} {ops:Array Oper} {g:Option (Nat × Bool)}:∀ (ms:List MI) (rest:List Oper) {is:List MI} {rest':List Oper},trIs P N ops g ms rest=some (is,rest') →
 ∃ used,rest=used++rest'∧All2 (TrF P N ops) (flatIs g is) used
 | [],rest,is,rest',h=>by
  simp only [trIs] at h
  cases h
  exact ⟨[],rfl,.nil⟩
 | m::ms,rest,is,rest',h=>by
  simp only [trIs] at h
  obtain ⟨⟨i,rest1⟩,h1,h2⟩:=bind_some' h
  obtain ⟨⟨is1,rest2⟩,h3,h4⟩:=bind_some' h2
  cases h4
  obtain ⟨u1,a1,a2⟩:=trI_flat m rest h1
  obtain ⟨u2,b1,b2⟩:=trIs_flat ms rest1 h3
  refine ⟨u1++u2,by rw [a1,b1,List.append_assoc],?_⟩
  simp only [flatIs]
  exact a2.append b2
end

theorem RelS.ghosts {G:Ground} {σ σ':St} {a:Act} {w:World} {gs:List Ghost} (hr:RelS G σ a w) (e:evGs G.m0.length gs σ=some σ'):RelS G σ' a w:=by
 obtain ⟨β,h1,h2,h3,h4,h5⟩:=hr
 obtain ⟨β',g1,g2,g3,_⟩:=ghosts_ok gs h1 h2 h3 e
 exact ⟨β',g1,g2,g3,h4,h5⟩
theorem RelS.less {G:Ground} {σ τ:St} {a:Act} {w:World} (hr:RelS G τ a w) (h:∀ t,σ.env.get t=τ.env.get t∨σ.env.get t=.dead) (hm:σ.mem=τ.mem):RelS G σ a w:=by
 obtain ⟨β,h1,h2,h3,h4,h5⟩:=hr
 refine ⟨β,hm ▸ h1,hm ▸ h2,fun t=>?_,h4,h5⟩
 rcases h t with h | h
 · rw [h,hm]; exact h3 t
 · rw [h]; trivial
theorem memN_mem {k:Nat}:∀ {ts:List Nat},memN k ts=true→k∈ts
 | [],h=>by cases h
 | t::ts,h=>by
  simp only [memN] at h
  split at h
  · rename_i e; subst e; simp
  · exact List.mem_cons_of_mem _ (memN_mem h)
theorem keepE_spec (ts:List Nat) (e:Env) (t:Nat):(keepE ts e).get t=.dead∨(t∈ts∧(keepE ts e).get t=e.get t):=by
 by_cases ht:memN t ts=true
 · rcases Env.get_keep ts e t with h | h
   · exact .inr ⟨memN_mem ht,h⟩
   · exact .inl h
 · left
   induction e with
   | nil=>rfl
   | cons x e ih =>
    obtain ⟨k,v⟩:=x
    simp only [keepE]
    split
    · rename_i hk
      simp only [Env.get]
      rw [if_neg (fun c=>ht (by rw [←c]; exact hk))]
      exact ih
    · exact ih
theorem RelS.draw {G:Ground} {σ:St} {a:Act} {w:World} (hr:RelS G σ a w):RelS G σ a { w with drawn:=w.drawn+1 }:=by
 obtain ⟨β,h1,h2,h3,h4,h5⟩:=hr
 exact ⟨β,h1,⟨h2.os,h2.tape,⟨h2.output.1,Nat.le_succ_of_le h2.output.2⟩,h2.size,h2.av,h2.fo,h2.own,h2.evo⟩,h3,h4,h5⟩

theorem region_ok {X:Nat→Option MFn} {call:Call} (hc:CallOK P call) (hP:P.follows .mixedOrders=true) {G:Ground} {r:Option Nat} {id:Nat} {ops:Array Oper} {draw:Bool} {ms is:List MI} {gh gh0:List Ghost} {σ:St} {x:Ex × St} {a:Act} {w:World} {k:Nat}
 {Q:Exit→Act→World→Prop} (ht:trCode P G.N (.region id ops draw) (.reg ms gh0)=some (.reg is gh)) (e:evC X call k G.m0.length (.reg is gh) σ=some x) (hr:RelS G σ a w)
 (hQ:∀ a' w',x.1=.normal→RelS G x.2 a' w'→Q .normal a' w'):(Code.region id ops draw).wpIn (W r) 0 P Q a w:=by
 simp only [trCode] at ht
 obtain ⟨⟨is1,rest⟩,t1,t2⟩:=bind_some' ht
 clear ht
 simp only [] at t2
 split at t2
 · split at t2
   · rename_i hk
     cases t2
     rw [Bool.and_eq_true] at hk
     obtain ⟨hk1,hk2⟩:=hk
     obtain ⟨used,u1,u2⟩:=trIs_flat ms ops.toList t1
     rw [List.append_nil] at u1
     subst u1
     simp only [evC] at e
     obtain ⟨σ1,e1,e2⟩:=bind_some' e
     obtain ⟨σ2,e3,e4⟩:=bind_some' e2
     cases e4
     unfold okReg at hk1
     cases hs:okIs true [] [] is with
     | none=>rw [hs] at hk1; cases hk1
     | some y =>
      obtain ⟨W0,S⟩:=y
      rw [hs] at hk1
      obtain ⟨τ1,g1,g2,_⟩:=nestIs (call:=call) (g:=none) is hs (τ:=σ) ⟨fun _ _=>rfl,rfl⟩ trivial (fun t ht=>by cases ht) e1
      have post:∀ a' w',RelS G τ1 a' w'→Q .normal a' w':=by
       intro a' w' hr'
       refine hQ a' w' rfl ?_
       cases S with
       | nil=>exact (hr'.less (σ:=σ1) (fun t=>.inl (g2.1 t (by simp))) g2.2).ghosts e3
       | cons s S =>
        cases gh with
        | nil=>cases hk1
        | cons gi gh =>
         cases gi <;> simp only [] at hk1 <;> first | (cases hk1; done) | skip
         rename_i ts
         simp only [evGs] at e3
         obtain ⟨σ3,e5,e6⟩:=bind_some' e3
         simp only [evG] at e5
         cases e5
         refine (hr'.less (σ:=⟨keepE ts σ1.env,σ1.mem⟩) (fun t=>?_) g2.2).ghosts e6
         rcases keepE_spec ts σ1.env t with h | ⟨h1,h2⟩
         · exact .inr h
         · exact .inl (h2.trans (g2.1 t (none_of_spec hk1 t h1)))
      have hlen:(flatIs none is).length=ops.size:=by rw [u2.length,Array.length_toList]
      cases draw with
      | false =>
       refine wpIn_region (seq_ok hc (flatIs none is) (List.range ops.size) σ τ1 a w ?_ g1 hr post)
       refine All2.of_get (by simp [hlen]) fun n i j hi hj=>?_
       have hj':j=n:=by
        have:=List.getElem?_range (show n < ops.size by have:=(List.getElem?_eq_some_iff.1 hi).1; omega)
        rw [this] at hj; cases hj; rfl
       subst hj'
       have hlt:j < ops.size:=by have:=(List.getElem?_eq_some_iff.1 hi).1; omega
       exact ⟨ops[j],Array.getElem?_eq_getElem hlt,(by obtain ⟨b,hb,ht⟩:=u2.get hi; rw [Array.getElem?_toList,Array.getElem?_eq_getElem hlt] at hb; cases hb; exact ht)⟩
      | true =>
       refine wpIn_region_any hP (drawn_ok hc (is:=flatIs none is) (σf:=τ1) hlen (fun n i o hi ho=>by obtain ⟨b,hb,ht⟩:=u2.get hi; rw [Array.getElem?_toList,ho] at hb; cases hb; exact ht) (by simpa using hk2) post ops.size _ (List.range ops.size) σ τ1 a _ (by simp) (by simp) (fun n=>?_) List.pairwise_lt_range ?_ ?_ (.refl _) hr.draw)
       · simp only [List.mem_range]
         constructor
         · intro h; exact ⟨h,by simp [h]⟩
         · exact fun h=>h.1
       · intro n o h ho
         exfalso
         have:=(Array.getElem?_eq_some_iff.1 ho).1
         simp [this] at h
       · have:(List.range ops.size).map (fun n=>(flatIs none is).getD n default)=flatIs none is:=by
          rw [←hlen]
          apply List.ext_getElem
          · simp
          · intro n h1 h2; simp [List.getD_eq_getElem?_getD,h2]
         rw [this]; exact g1
   · cases t2
 · cases t2
end

section
variable {P:Program}

theorem dpure_act {call:Call} {σ:St} {i:FI} (hc:dpure σ i.o=true) {v:V} {m':Heap} (h:act call i σ=some (v,m')):∀ m,act call i ⟨σ.env,m⟩=some (v,m)∧m'=σ.mem:=by
 have ea:∀ m,(⟨σ.env,m⟩:St).arg=σ.arg:=fun m=>by funext x; cases x <;> rfl
 have op:∀ {v m'},evO call σ i.o=some (v,m')→∀ m,evO call ⟨σ.env,m⟩ i.o=some (v,m)∧m'=σ.mem:=by
  intro v m' h m
  by_cases c:i.o.cls=0
  · obtain ⟨h1,h2⟩:=evO_pure c h; exact ⟨h2 m,h1⟩
  · cases ho:i.o <;> rw [ho] at hc h c <;> first | (simp [dpure,MOp.cls] at hc c; done) | skip
    all_goals simp only [dpure] at hc
    case iaddr z x y =>
     split at hc
     · rename_i xs hx
       simp only [evO,hx,ea] at h ⊢
       simp only [V.c?,Option.bind_some] at h ⊢
       obtain ⟨j,h1,h2⟩:=bind_some' h
       rw [h1]
       simp only [Option.bind_some] at h2 ⊢
       split at h2
       · rename_i h3
         rw [if_pos h3]
         split at h2
         · rename_i h4; rw [if_pos h4]; cases h2; exact ⟨rfl,rfl⟩
         · cases h2
       · cases h2
     · cases hc
    case load n g x =>
     split at hc
     · rename_i xs hx
       simp only [evO,hx,ea] at h ⊢
       simp only [V.c?,Option.bind_some,ldC] at h ⊢
       obtain ⟨cs,h1,h2⟩:=bind_some' h
       obtain ⟨u,h3,h4⟩:=bind_some' h2
       cases h4
       rw [h1]
       exact ⟨by simp only [Option.bind_some,h3],rfl⟩
     · cases hc
    case slice z x lo hi mx =>
     split at hc
     · rename_i xs hx
       simp only [evO,hx,ea] at h ⊢
       simp only [V.c?,Option.bind_some] at h ⊢
       split at h
       · rename_i h3
         rw [if_pos h3]
         obtain ⟨b,h1,h2⟩:=bind_some' h
         cases h2
         rw [h1]
         exact ⟨rfl,rfl⟩
       · cases h
     · cases hc
    all_goals (simp at hc; exact absurd hc c)
 intro m
 unfold act at h ⊢
 cases hg:i.g with
 | none=>rw [hg] at h; exact op h m
 | some p =>
  obtain ⟨t,want⟩:=p
  rw [hg] at h
  simp only [] at h ⊢
  split at h
  · rename_i p hp
    split at h
    · rename_i hw; rw [if_pos hw]; exact op h m
    · rename_i hw; rw [if_neg hw]; cases h; exact ⟨rfl,rfl⟩
  · cases h; exact ⟨rfl,rfl⟩
  · cases h

theorem unbubble {call:Call} {i:FI} {v:V}:∀ {pre:List FI} {σ τ τ':St},(∀ j∈pre,i.apart j=true)→(∀ m,act call i ⟨σ.env,m⟩=some (v,m))→evFI call i σ=some τ→evFs call pre τ=some τ' →
 ∃ ρ ρ',evFs call pre σ=some ρ∧evFI call i ρ=some ρ'∧τ'.eqv ρ'
 | [],σ,τ,τ',_,_,h1,h2=>by simp only [evFs] at h2; cases h2; exact ⟨σ,τ,rfl,h1,.refl _⟩
 | j::pre,σ,τ,τ',hap,hp,h1,h2=>by
  simp only [evFs] at h2
  obtain ⟨τ1,h3,h4⟩:=bind_some' h2
  obtain ⟨a1,a2,a3⟩:=apart_spec (hap j (by simp))
  unfold evFI at h1 h3
  have hpσ:=hp σ.mem
  rw [show (⟨σ.env,σ.mem⟩:St)=σ from rfl] at hpσ
  rw [hpσ] at h1
  cases h1
  obtain ⟨⟨u,mj⟩,g1,g2⟩:=bind_some' h3
  cases g2
  have gj:act call j σ=some (u,mj):=by
   rw [←g1]
   refine act_congr (fun t ht=>?_) (by rw [put_mem])
   rw [put_get,if_neg (fun e=>a1 t e ht)]
  have hi:∀ m,act call i ⟨(St.put ⟨σ.env,mj⟩ j.dst u).env,m⟩=some (v,m):=fun m=>by
   rw [←hp m]
   refine act_congr (fun t ht=>?_) rfl
   show (St.put ⟨σ.env,mj⟩ j.dst u).env.get t=σ.env.get t
   rw [put_get,if_neg (fun e=>a3 t e ht)]
  have e1:evFI call j σ=some (St.put ⟨σ.env,mj⟩ j.dst u):=by unfold evFI; rw [gj]; rfl
  have e2:evFI call i (St.put ⟨σ.env,mj⟩ j.dst u)=some (St.put ⟨(St.put ⟨σ.env,mj⟩ j.dst u).env,mj⟩ i.dst v):=by
   unfold evFI
   have:=hi mj
   rw [show (⟨(St.put ⟨σ.env,mj⟩ j.dst u).env,mj⟩:St)=St.put ⟨σ.env,mj⟩ j.dst u from by cases j.dst <;> rfl] at this
   rw [this]; rfl
  have q:(St.put ⟨(St.put ⟨σ.env,σ.mem⟩ i.dst v).env,mj⟩ j.dst u).eqv (St.put ⟨(St.put ⟨σ.env,mj⟩ j.dst u).env,mj⟩ i.dst v):=by
   refine ⟨fun t=>?_,by rw [put_mem,put_mem]⟩
   rw [put_get,put_get,put_get,put_get]
   by_cases c1:j.dst=some t
   · rw [if_pos c1,if_pos c1,if_neg (fun c2=>a2 t c2 c1)]
   · rw [if_neg c1,if_neg c1]
  obtain ⟨τ2,k1,k2⟩:=evFs_eqv q h4
  obtain ⟨ρ,ρ',l1,l2,l3⟩:=unbubble (fun x hx=>hap x (by simp [hx])) hi e2 k1
  exact ⟨ρ,ρ',by simp only [evFs,e1,Option.bind_some]; exact l1,l2,k2.trans l3⟩

theorem mem_rdy {pre:List (List Nat)} {done:List Nat} {i:Nat}:i∈rdy pre done↔i < pre.length∧i ∉ done∧∀ j∈pre.getD i [],j∈done:=by
 unfold rdy
 rw [List.mem_filter,List.mem_range]
 simp only [Bool.and_eq_true,Bool.not_eq_true',List.all_eq_true,memN_iff]
 constructor
 · rintro ⟨h1,h2,h3⟩
   exact ⟨h1,fun c=>(by rw [memN_iff.2 c] at h2; cases h2),h3⟩
 · rintro ⟨h1,h2,h3⟩
   refine ⟨h1,?_,h3⟩
   cases c:memN i done with
   | false=>rfl
   | true=>exact absurd (memN_iff.1 c) h2

def Valid (pre:List (List Nat)):List Nat→List Nat→Prop
 | done,[]=>rdy pre done=[]
 | done,i::L=>i∈rdy pre done∧Valid pre (i::done) L
theorem rdy_same {pre:List (List Nat)} {d e:List Nat} (h:∀ x,x∈d↔x∈e):rdy pre d=rdy pre e:=by
 unfold rdy
 refine List.filter_congr fun i _=>?_
 have:∀ x,memN x d=memN x e:=fun x=>by
  rw [Bool.eq_iff_iff,memN_iff,memN_iff]; exact h x
 simp only [this]
theorem Valid.same {pre:List (List Nat)}:∀ {L d e:List Nat},(∀ x,x∈d↔x∈e)→Valid pre d L→Valid pre e L
 | [],d,e,h,v=>by unfold Valid at v ⊢; rw [←rdy_same h]; exact v
 | i::L,d,e,h,v=>by
  obtain ⟨h1,h2⟩:=v
  exact ⟨by rw [←rdy_same h]; exact h1,Valid.same (fun x=>by simp [h x]) h2⟩
theorem Valid.mem {pre:List (List Nat)}:∀ {L d:List Nat} {i:Nat},Valid pre d L→i∈rdy pre d→i∈L
 | [],d,i,v,h=>by unfold Valid at v; rw [v] at h; cases h
 | j::L,d,i,v,h=>by
  by_cases c:i=j
  · simp [c]
  · have h':=mem_rdy.1 h
    exact List.mem_cons_of_mem _ (Valid.mem v.2 (mem_rdy.2 ⟨h'.1,by simp [c,h'.2.1],fun x hx=>by simp [h'.2.2 x hx]⟩))
theorem Valid.front {pre:List (List Nat)} {i:Nat} {B:List Nat}:∀ {A d:List Nat},Valid pre d (A++i::B)→i∈rdy pre d→i ∉ A→Valid pre (i::d) (A++B)
 | [],d,v,_,_=>v.2
 | j::A,d,v,h,hn=>by
  simp only [List.mem_cons,not_or] at hn
  obtain ⟨h1,h2⟩:=v
  have h':=mem_rdy.1 h
  have h1':=mem_rdy.1 h1
  refine ⟨mem_rdy.2 ⟨h1'.1,by simp [h1'.2.1,Ne.symm hn.1],fun x hx=>by simp [h1'.2.2 x hx]⟩,?_⟩
  refine Valid.same (d:=i::j::d) (fun x=>by simp only [List.mem_cons]; exact ⟨fun h=>by rcases h with h | h | h <;> simp [h],fun h=>by rcases h with h | h | h <;> simp [h]⟩) ?_
  exact Valid.front h2 (mem_rdy.2 ⟨h'.1,by simp [hn.1,h'.2.1],fun x hx=>by simp [h'.2.2 x hx]⟩) hn.2
theorem Valid.out {pre:List (List Nat)}:∀ {L d:List Nat} {j:Nat},Valid pre d L→j∈L→j ∉ d∧j < pre.length
 | i::L,d,j,v,h=>by
  obtain ⟨h1,h2⟩:=v
  have:=mem_rdy.1 h1
  rcases List.mem_cons.1 h with h | h
  · subst h; exact ⟨this.2.1,this.1⟩
  · have:=Valid.out h2 h
    simp only [List.mem_cons,not_or] at this
    exact ⟨this.1.2,this.2⟩

theorem Valid.free {pre:List (List Nat)} {i:Nat} {B:List Nat}:∀ {A d:List Nat},Valid pre d (A++i::B)→i ∉ d→i ∉ A→∀ k∈A,i ∉ pre.getD k []
 | j::A,d,v,hd,hn,k,hk=>by
  simp only [List.mem_cons,not_or] at hn
  obtain ⟨h1,h2⟩:=v
  rcases List.mem_cons.1 hk with h | h
  · subst h
    intro c
    exact hd ((mem_rdy.1 h1).2.2 i c)
  · exact Valid.free h2 (by simp [hd,hn.1]) hn.2 k h
def left (pre:List (List Nat)) (done:List Nat):List Nat:=(List.range pre.length).filter fun i=>!memN i done
theorem left_lt {pre:List (List Nat)} {done:List Nat} {i:Nat} (h:i∈rdy pre done):(left pre (i::done)).length < (left pre done).length:=by
 obtain ⟨h1,h2,_⟩:=mem_rdy.1 h
 have e:left pre (i::done)=(left pre done).filter fun j=>j != i:=by
  unfold left
  rw [List.filter_filter]
  refine List.filter_congr fun j _=>?_
  simp only [memN]
  by_cases c:i=j
  · subst c; simp
  · rw [if_neg c]
    have:(j != i)=true:=by simp [Ne.symm c]
    rw [this]; simp
 rw [e]
 rw [List.length_filter_lt_length_iff_exists]
 refine ⟨i,?_,by simp⟩
 unfold left
 rw [List.mem_filter]
 refine ⟨by simpa using h1,?_⟩
 cases c:memN i done with
 | false=>rfl
 | true=>exact absurd (memN_iff.1 c) h2
theorem valid_ex {pre:List (List Nat)}:∀ (n:Nat) (d:List Nat),(left pre d).length≤n→∃ L,Valid pre d L
 | 0,d,h=>by
  refine ⟨[],?_⟩
  cases c:rdy pre d with
  | nil=>exact c
  | cons i r=>exact absurd (left_lt (show i∈rdy pre d by rw [c]; simp)) (by omega)
 | n+1,d,h=>by
  cases c:rdy pre d with
  | nil=>exact ⟨[],c⟩
  | cons i r =>
   have hi:i∈rdy pre d:=by rw [c]; simp
   obtain ⟨L,hL⟩:=valid_ex (pre:=pre) n (i::d) (by have:=left_lt hi; omega)
   exact ⟨i::L,hi,hL⟩

def Good (call:Call) (G:Ground) (is:List FI) (pre:List (List Nat)) (R:St) (done:List Nat) (σ:St):Prop :=
 ∀ L,Valid pre done L→∃ σ',evFs call (L.map fun n=>is.getD n default) σ=some σ'∧∀ a w,RelS G σ' a w→RelS G R a w

theorem sameAll_spec:∀ {l:List (Option St)} {R:St},sameAll l=some R→∀ x∈l,x=some R
 | [],R,h=>by simp [sameAll] at h
 | [x],R,h=>by simp only [sameAll] at h; intro y hy; simp at hy; subst hy; exact h
 | x::y::r,R,h=>by
  simp only [sameAll] at h
  obtain ⟨s,h1,h2⟩:=bind_some' h
  split at h2
  · rename_i hx
    cases h2
    intro z hz
    rcases List.mem_cons.1 hz with hz | hz
    · subst hz; exact hx
    · exact sameAll_spec h1 z hz
  · cases h2

theorem evD_good {call:Call} {G:Ground} {is:List FI} {pre:List (List Nat)} {gh:List Ghost} {R:St}:∀ (n:Nat) (done:List Nat) (σ:St),evD call G.m0.length is pre gh n done σ=some R→Good call G is pre R done σ:=by
 intro n
 induction n with
 | zero=>intro done σ h; simp only [evD] at h; cases h
 | succ n ih =>
  intro done σ h L hL
  simp only [evD] at h
  split at h
  · rename_i hr
    cases L with
    | nil=>exact ⟨σ,rfl,fun a w hr=>hr.ghosts h⟩
    | cons i L=>have:=hL.1; rw [hr] at this; cases this
  · rename_i i r hr
    split at h
    ·
      rename_i j hj
      have hjm:j∈rdy pre done:=by rw [hr]; exact List.mem_of_find?_eq_some hj
      have hjf:=List.find?_some hj
      unfold fstOk at hjf
      rw [Bool.and_eq_true] at hjf
      obtain ⟨hpure,hap⟩:=hjf
      obtain ⟨σ1,h1,h2⟩:=bind_some' h
      have hin:=hL.mem hjm
      obtain ⟨A,B,hAB,hnA⟩:=List.eq_append_cons_of_mem hin
      subst hAB
      obtain ⟨σ',g1,g2⟩:=ih _ _ h2 (A++B) (hL.front hjm hnA)
      rw [List.map_append] at g1
      obtain ⟨τ',g3,g4⟩:=evFs_app.1 g1
      have hact:∃ v,∀ m,act call (is.getD j default) ⟨σ.env,m⟩=some (v,m):=by
       unfold evFI at h1
       obtain ⟨⟨v,m'⟩,e1,_⟩:=bind_some' h1
       exact ⟨v,fun m=>(dpure_act hpure e1 m).1⟩
      obtain ⟨v,hv⟩:=hact
      obtain ⟨ρ,ρ',l1,l2,l3⟩:=unbubble (fun x hx=>by
       obtain ⟨k,hk,rfl⟩:=List.mem_map.1 hx
       have hko:=hL.out (List.mem_append_left _ hk)
       have:=List.all_eq_true.1 hap k (by simpa using hko.2)
       simp only [Bool.or_eq_true,beq_iff_eq] at this
       rcases this with ((this | this) | this) | this
       · exact absurd (memN_iff.1 this) hko.1
       · exact absurd (this ▸ hk) hnA
       · exact absurd (memN_iff.1 this) (hL.free (mem_rdy.1 hjm).2.1 hnA k hk)
       · exact this) hv h1 g3
      obtain ⟨σ'',k1,k2⟩:=evFs_eqv l3 g4
      refine ⟨σ'',?_,fun a w hw=>g2 a w (hw.eqv k2.symm)⟩
      rw [List.map_append,List.map_cons]
      refine evFs_app.2 ⟨ρ,l1,?_⟩
      simp only [evFs,l2,Option.bind_some]
      exact k1
    · cases L with
      | nil=>exact absurd hL (by unfold Valid; rw [hr]; simp)
      | cons j L =>
       have hjm:=hL.1
       rw [hr] at hjm
       have:=sameAll_spec h _ (List.mem_map.2 ⟨j,hjm,rfl⟩)
       obtain ⟨σ1,h1,h2⟩:=bind_some' this
       obtain ⟨σ',g1,g2⟩:=ih _ _ h2 L hL.2
       exact ⟨σ',by simp only [List.map_cons,evFs,h1,Option.bind_some]; exact g1,g2⟩

theorem anyD_ok {call:Call} (hc:CallOK P call) {G:Ground} {r:Option Nat} {ops:Array Oper} {Q:Exit→Act→World→Prop} {is:List FI} {pre:List (List Nat)} (hl:pre.length=ops.size)
 (hpre:∀ (n:Nat) (o:Oper),ops[n]?=some o→pre.getD n []=o.after.toList.filterMap fun e=>if Region.binds .any e then some e.on else none)
 (ht:∀ (n:Nat) (o:Oper),ops[n]?=some o→TrF P G.N ops (is.getD n default) o) {R:St} (hQ:∀ a' w',RelS G R a' w'→Q .normal a' w') :
 ∀ (fuel:Nat) (listed:Array Bool) (done:List Nat) (σ:St) (a:Act) (w:World),listed.size=ops.size→(∀ n,n < ops.size→(listed.getD n true=true↔n∈done))→(∀ n∈done,n < ops.size) →
  (left pre done).length≤fuel→Good call G is pre R done σ→RelS G σ a w→wpAnyIn (W r) 0 P .any ops Q fuel listed a w:=by
 have rd:∀ (listed:Array Bool) (done:List Nat),listed.size=ops.size→(∀ n,n < ops.size→(listed.getD n true=true↔n∈done))→(∀ n∈done,n < ops.size)→∀ n,n∈Region.ready .any ops listed→n∈rdy pre done:=by
  intro listed done hs hd hlt n hn
  obtain ⟨h1,o,h2,h3⟩:=mem_ready.1 hn
  have hno:=(Array.getElem?_eq_some_iff.1 h2).1
  refine mem_rdy.2 ⟨by omega,fun c=>?_,fun j hj=>?_⟩
  · have:=(hd n hno).2 c; rw [this] at h1; cases h1
  · rw [hpre n o h2] at hj
    obtain ⟨e,he,hje⟩:=List.mem_filterMap.1 hj
    split at hje
    · rename_i hb
      cases hje
      have:=h3 e (by simpa using he) hb
      have hlt':e.on < listed.size:=by
       rcases Nat.lt_or_ge e.on listed.size with c | c
       · exact c
       · simp [Array.getElem?_eq_none c] at this
      refine (hd e.on (by omega)).1 ?_
      simp [Array.getD_eq_getD_getElem?,hlt'] at this ⊢
      exact this
    · cases hje
 have dr:∀ (listed:Array Bool) (done:List Nat),listed.size=ops.size→(∀ n,n < ops.size→(listed.getD n true=true↔n∈done))→(∀ n∈done,n < ops.size)→∀ n,n∈rdy pre done→n∈Region.ready .any ops listed:=by
  intro listed done hs hd hlt n hn
  obtain ⟨h1,h2,h3⟩:=mem_rdy.1 hn
  have hno:n < ops.size:=by omega
  have ho:ops[n]?=some ops[n]:=Array.getElem?_eq_getElem hno
  refine mem_ready.2 ⟨?_,_,ho,fun e he hb=>?_⟩
  · cases c:listed.getD n true with
    | false=>rfl
    | true=>exact absurd ((hd n hno).1 c) h2
  · have:e.on∈done:=h3 e.on (by
     rw [hpre n _ ho]
     exact List.mem_filterMap.2 ⟨e,by simpa using he,by rw [if_pos hb]⟩)
    have hlt':=hlt _ this
    have:=(hd e.on hlt').2 this
    have hs':e.on < listed.size:=by omega
    simp [Array.getD_eq_getD_getElem?,hs'] at this ⊢
    exact this
 intro fuel
 have fin:∀ (listed:Array Bool) (done:List Nat) (σ:St) (a:Act) (w:World),listed.size=ops.size→(∀ n,n < ops.size→(listed.getD n true=true↔n∈done))→(∀ n∈done,n < ops.size)→Good call G is pre R done σ→RelS G σ a w→Region.ready .any ops listed=[]→Q .normal a w:=by
  intro listed done σ a w hs hd hlt hg hr hn
  have:rdy pre done=[]:=by
   cases c:rdy pre done with
   | nil=>rfl
   | cons i r=>have:=dr listed done hs hd hlt i (by rw [c]; simp); rw [hn] at this; cases this
  obtain ⟨σ',g1,g2⟩:=hg [] this
  simp only [List.map_nil,evFs] at g1
  cases g1
  exact hQ _ _ (g2 _ _ hr)
 induction fuel with
 | zero =>
  intro listed done σ a w hs hd hlt hf hg hr
  have hn:Region.ready .any ops listed=[]:=by
   cases c:Region.ready .any ops listed with
   | nil=>rfl
   | cons i r=>have:=left_lt (rd listed done hs hd hlt i (by rw [c]; simp)); omega
  exact ⟨hn,fin listed done σ a w hs hd hlt hg hr hn⟩
 | succ fuel ih =>
  intro listed done σ a w hs hd hlt hf hg hr
  refine ⟨fin listed done σ a w hs hd hlt hg hr,fun i hi=>?_⟩
  have hir:=rd listed done hs hd hlt i hi
  have hio:i < ops.size:=by have:=(mem_rdy.1 hir).1; omega
  have hoi:ops[i]?=some ops[i]:=Array.getElem?_eq_getElem hio
  obtain ⟨L,hL⟩:=valid_ex (pre:=pre) _ (i::done) (Nat.le_refl _)
  obtain ⟨σ',g1,_⟩:=hg (i::L) ⟨hir,hL⟩
  simp only [List.map_cons,evFs] at g1
  obtain ⟨σ1,e1,_⟩:=bind_some' g1
  refine step_ok hc hoi (ht i _ hoi) e1 hr fun a' w' hr'=>?_
  refine ih (listed.setIfInBounds i true) (i::done) σ1 a' w' (by simpa using hs) (fun n hn=>?_) (fun n hn=>?_) (by have:=left_lt hir; omega) (fun L' hL'=>?_) hr'
  · by_cases c:i=n
    · subst c
      have:i < listed.size:=by omega
      simp [Array.getD_eq_getD_getElem?,this]
    · rw [getD_set_ne true c,hd n hn]
      simp [Ne.symm c]
  · rcases List.mem_cons.1 hn with h | h
    · omega
    · exact hlt n h
  · obtain ⟨σ2,k1,k2⟩:=hg (i::L') ⟨hir,hL'⟩
    simp only [List.map_cons,evFs,e1,Option.bind_some] at k1
    exact ⟨σ2,k1,k2⟩

theorem trD_spec {N:Nat} {ops:Array Oper}:∀ {is:List FI} {pre:List (List Nat)} {os:List Oper} {is':List FI},trD P N ops is pre os=some is'→is'.length=os.length∧pre.length=os.length ∧
 ∀ (n:Nat) (o:Oper),os[n]?=some o→TrF P N ops (is'.getD n default) o∧pre.getD n []=o.after.toList.filterMap fun e=>if Region.binds .any e then some e.on else none
 | [],[],[],is',h=>by simp only [trD] at h; cases h; exact ⟨rfl,rfl,fun n o h=>by simp at h⟩
 | i::is,p::ps,o::os,is',h=>by
  simp only [trD] at h
  split at h
  · rename_i hk
    simp only [Bool.and_eq_true,beq_iff_eq] at hk
    obtain ⟨m,h1,h⟩:=bind_some' h
    obtain ⟨r,h2,h⟩:=bind_some' h
    cases h
    obtain ⟨g1,g2,g3⟩:=trD_spec h2
    refine ⟨by simp [g1],by simp [g2],fun n o' hn=>?_⟩
    cases n with
    | zero=>simp at hn; subst hn; exact ⟨⟨rfl,hk.1.2,hk.1.1,i.o,h1⟩,hk.2.symm⟩
    | succ n=>simpa using g3 n o' (by simpa using hn)
  · cases h
 | [],[],_::_,is',h=>by simp [trD] at h
 | [],_::_,_,is',h=>by simp [trD] at h
 | _::_,[],_,is',h=>by simp [trD] at h
 | _::_,_::_,[],is',h=>by simp [trD] at h

theorem regionD_ok {X:Nat→Option MFn} {call:Call} (hc:CallOK P call) (hP:P.follows .mixedOrders=true) {G:Ground} {r:Option Nat} {id:Nat} {ops:Array Oper} {is0 is:List FI} {pre0 pre:List (List Nat)} {gh gh0:List Ghost} {σ:St} {x:Ex × St} {a:Act} {w:World} {k:Nat}
 {Q:Exit→Act→World→Prop} (ht:trCode P G.N (.region id ops true) (.regD is0 pre0 gh0)=some (.regD is pre gh)) (e:evC X call k G.m0.length (.regD is pre gh) σ=some x) (hr:RelS G σ a w)
 (hQ:∀ a' w',x.1=.normal→RelS G x.2 a' w'→Q .normal a' w'):(Code.region id ops true).wpIn (W r) 0 P Q a w:=by
 simp only [trCode] at ht
 obtain ⟨is',t1,t2⟩:=Option.map_eq_some_iff.1 ht
 cases t2
 obtain ⟨h1,h2,h3⟩:=trD_spec t1
 simp only [Array.length_toList] at h1 h2
 simp only [evC] at e
 obtain ⟨R,e1,e2⟩:=bind_some' e
 cases e2
 have hg:=evD_good _ _ _ e1
 have post:∀ a' w',RelS G R a' w'→Q .normal a' w':=fun a' w' h=>hQ a' w' rfl h
 have main:∀ w',RelS G σ a w'→wpAnyIn (W r) 0 P .any ops Q ops.size (Array.replicate ops.size false) a w':=fun w' hr' =>
  anyD_ok hc h2 (fun n o ho=>(h3 n o (by simpa using ho)).2) (fun n o ho=>(h3 n o (by simpa using ho)).1) post ops.size _ [] σ a w' (by simp) (fun n hn=>by simp [hn]) (by simp) (by
   unfold left
   refine Nat.le_trans (List.length_filter_le _ _) ?_
   simp [h2]) hg hr'
 exact wpIn_region_any hP (main _ hr.draw)
end

end Go.Proofs.YtkeddnagijjbaaaGreat
