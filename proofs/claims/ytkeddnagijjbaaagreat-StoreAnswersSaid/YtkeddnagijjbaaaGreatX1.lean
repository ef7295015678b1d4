/- Part 1 of 4 of the theory that this claim's proof uses: functions of the program as terms of a small language, what these compute, and that the program's functions answer so.
 There are no conditions beyond those that the theorems name. -/
import Derived.CallsIn
import Derived.OrdersIn
import Derived.RangeFuncLeaves
import Derived.RangeFuncRecord
import Derived.WalkMore
import Derived.RowKit3
import Derived.Below
import Derived.KernelRfl
import Derived.Laws.StructEq
import Derived.LoopNIn
import Derived.Laws.Externs
import Derived.Conc.MuLone
import Derived.MapKept
set_option linter.unusedVariables false
set_option linter.unusedSimpArgs false
namespace Go.Proofs.YtkeddnagijjbaaaGreat
open Go
section
inductive D where
 | int (k:IntKind) (n:Int)
 | bool (b:Bool)
 | str (s:ByteArray)
 | list (xs:List D)
 | agg (cs:List D)
 | fn (f:Fn) (caps:List D)
 | ref (cs:List D)
 | nilp
 | nilf
deriving Inhabited

def D.cells:D→List D
 | .agg cs=>cs
 | d=>[d]

inductive Cap where
 | d (x:D)
 | p (s:Nat)
deriving Inhabited

inductive C where
 | d (x:D)
 | nil
 | own (s off len:Nat)
 | ptr (s i j:Nat)
 | mp (s:Nat)
 | fn (f:Fn) (caps:List Cap)
 | dead
deriving Inhabited

inductive V where
 | one (c:C)
 | agg (cs:List C)
 | tup (xs:List (Bool × List C))
 | dead
deriving Inhabited

inductive Slot where
 | vals (z:D) (xs:List D)
 | cells (cs:List C)
 | rows (z:D) (rs:List (List D)) (br:List (Nat × C))
 | map (es:List (Int × D))
 | dead
deriving Inhabited
def brGet:List (Nat × C)→Nat→Option C
 | [],_=>none
 | (j,c)::r,i=>if j=i then some c else brGet r i

def brOne:List (Nat × C)→Option C
 | (i,c)::_=>if i=0 then some c else none
 | []=>none
def brHas (s:Nat) (br:List (Nat × C)):List (Nat × C)→Option (Nat × Nat)
 | []=>none
 | (i,_)::r=>match brGet br i with
  | some (.own t o l)=>if t=s∧o=0 then some (i,l) else brHas s br r
  | _=>brHas s br r
def brDel:List (Nat × C)→Nat→List (Nat × C)
 | [],_=>[]
 | (j,c)::r,i=>if j=i then brDel r i else (j,c)::brDel r i
def getM:List (Int × D)→Int→Option D
 | [],_=>none
 | (j,x)::r,k=>if j=k then some x else getM r k
def putM:List (Int × D)→Int→D→List (Int × D)
 | [],k,d=>[(k,d)]
 | (j,x)::r,k,d=>if k < j then (k,d)::(j,x)::r else (j,x)::putM r k d

inductive Arg where
 | t (n:Nat)
 | k (v:V)
 | f (g:Nat)
deriving Inhabited

inductive MOp where
 | mov (x:Arg)
 | nilc (x:Arg)
 | pick (c a b:Arg)
 | bin (op:BinOp) (x y:Arg)
 | eqs (neg g:Bool) (ks:List Nat) (x y:Arg)
 | isn (neg:Bool) (x:Arg)
 | not (x:Arg)
 | neg (x:Arg)
 | conv (k:IntKind) (x:Arg)
 | alloc (cs:List C)
 | allocA (z:D) (n:Nat)
 | box (x:Arg)
 | build (zero:List C) (parts:List (Nat × Nat × Arg))
 | lit (data:Bool) (z:D) (n:Nat) (parts:List (Nat × Arg))
 | load (n:Nat) (g:Bool) (a:Arg)
 | store (n:Nat) (a x:Arg)
 | faddr (off:Nat) (x:Arg)
 | field (off n:Nat) (g:Bool) (x:Arg)
 | iaddr (z:D) (x i:Arg)
 | aaddr (n sz:Nat) (x i:Arg)
 | aflat (n sz:Nat) (x i:Arg)
 | slice (z:Nat) (x:Arg) (lo hi max:Option Arg)
 | mkslice (z:D) (len cap:Arg)
 | len (str:Bool) (x:Arg)
 | min (xs:List Arg)
 | max (xs:List Arg)
 | append (z:D) (x y:Arg)
 | ext (x:Arg) (i:Nat)
 | call (pure:Bool) (g:Nat) (args:List Arg)
 | callv (x:Arg) (args:List Arg)
 | mkfn (f:Fn) (caps:List Arg)
 | mkmap
 | insert (x k v:Arg)
 | lookup (x k:Arg)
 | mkrows (z:D) (len cap:Arg)
 | litR (z:D) (n:Nat) (parts:List (Nat × Arg))
 | appendR (x y:Arg)
 | view (g:Nat) (args:List Arg)
 | viewO (g:Nat) (args:List Arg)
 | lend (a:Arg)
 | sidx (x i:Arg)
 | vidx (n sz:Nat) (g:Bool) (x i:Arg)
deriving Inhabited

inductive MI where
 | op (dst:Option Nat) (o:MOp)
 | sc (t:Nat) (want:Bool) (body:List MI) (dst:Nat) (e r:Arg)
deriving Inhabited

inductive Ghost where
 | keep (ts:List Nat)
 | gc
 | frz (t:Nat)
 | frzC (t j:Nat)
 | prom (t:Nat) (z:D)
 | promC (t j:Nat) (z:D)
 | bak (t:Nat)
 | renew (t:Nat)
 | renewC (t j:Nat)
deriving Inhabited

structure FI where
 g:Option (Nat × Bool)
 dst:Option Nat
 o:MOp
deriving Inhabited
inductive MCode where
 | skip
 | bad
 | gh (gs:List Ghost) (c:MCode)
 | regD (is:List FI) (pre:List (List Nat)) (gh:List Ghost)
 | reg (is:List MI) (gh:List Ghost)
 | seq (a b:MCode)
 | cond (t:Nat) (a b:MCode)
 | block (id:Nat) (b:MCode)
 | loop (b:MCode)
 | scope (b:MCode)
 | exit (id:Nat)
 | ret
 | rangef (x:Arg) (ps:List Nat) (as body:MCode) (gh:List Ghost)
 | yld (is:List FI) (pre:List (List Nat)) (y:Nat) (gh:List Ghost)
 | ext (e:(Nat→List V→List Slot→Option (V × List Slot))→List V→List Slot→Option (V × List Slot))
deriving Inhabited

inductive RF where
 | data
 | own (z:D)
 | asis
deriving Inhabited

inductive MRes where
 | tmp (t:Nat)
 | cell (t n:Nat) (g:Bool)
deriving Inhabited

structure MFn where
 n:Nat
 np:Nat
 res:List MRes
 rf:List RF
 code:MCode
deriving Inhabited

abbrev Env:=List (Nat × V)
abbrev Heap:=List Slot

def Env.get:Env→Nat→V
 | [],_=>.dead
 | (k,v)::r,t=>if k=t then v else Env.get r t

def Env.put:Env→Nat→V→Env
 | [],t,v=>[(t,v)]
 | (k,u)::r,t,v=>if t < k then (t,v)::(k,u)::r else if t=k then (t,v)::r else (k,u)::Env.put r t v

def memN (t:Nat):List Nat→Bool
 | []=>false
 | x::r=>if x=t then true else memN t r
def keepE (ts:List Nat):Env→Env
 | []=>[]
 | (k,v)::r=>if memN k ts=true then (k,v)::keepE ts r else keepE ts r
def dropE (t:Nat):Env→Env
 | []=>[]
 | (k,v)::r=>if k=t then dropE t r else (k,v)::dropE t r

structure St where
 env:Env
 mem:Heap

def St.arg (σ:St):Arg→V
 | .t n=>σ.env.get n
 | .k v=>v
 | .f g=>.one (.fn (.func g) [])

def St.put (σ:St) (dst:Option Nat) (v:V):St :=
 match dst with
 | some t=>{ σ with env:=σ.env.put t v }
 | none=>σ

def V.c?:V→Option C
 | .one c=>some c
 | _=>none
def V.cs?:V→Option (List C)
 | .one c=>some [c]
 | .agg cs=>some cs
 | _=>none
def V.csG:Bool→V→Option (List C)
 | false,.one c=>some [c]
 | true,.agg cs=>some cs
 | _,_=>none
def V.int?:V→Option (IntKind × Int)
 | .one (.d (.int k n))=>some (k,n)
 | _=>none
def V.bool?:V→Option Bool
 | .one (.d (.bool b))=>some b
 | _=>none
def mkV (g:Bool) (cs:List C):Option V :=
 if g then some (.agg cs) else match cs with
 | [c]=>some (.one c)
 | _=>none

abbrev V.int (k:IntKind) (n:Int):V:=.one (.d (.int k n))
abbrev V.bool (b:Bool):V:=.one (.d (.bool b))

def LIM:Nat:=4294967296

def bits (op:BinOp) (k:IntKind) (x y:Int):Option V :=
 let a:=BitVec.ofInt k.bits x
 let b:=BitVec.ofInt k.bits y
 match op with
 | .and=>some (.int k (k.wrap (a &&& b).toNat))
 | .or=>some (.int k (k.wrap (a ||| b).toNat))
 | .xor=>some (.int k (k.wrap (a ^^^ b).toNat))
 | .andNot=>some (.int k (k.wrap (a &&& ~~~b).toNat))
 | _=>none

def binI (op:BinOp) (k:IntKind) (x:Int) (yk:IntKind) (y:Int):Option V :=
 match op with
 | .shl=>if y < 0 then none else some (.int k (k.wrap (x*2 ^ (Nat.min y.toNat k.bits))))
 | .shr=>if y < 0 then none else some (.int k (x.fdiv (2 ^ (Nat.min y.toNat k.bits))))
 | op =>
  if k=yk then
   match op with
   | .add=>some (.int k (k.wrap (x+y)))
   | .sub=>some (.int k (k.wrap (x - y)))
   | .mul=>some (.int k (k.wrap (x*y)))
   | .quo=>if y=0 then none else some (.int k (k.wrap (x.tdiv y)))
   | .rem=>if y=0 then none else some (.int k (x.tmod y))
   | .eql=>some (.bool (decide (x=y)))
   | .neq=>some (.bool (!decide (x=y)))
   | .lss=>some (.bool (decide (x < y)))
   | .leq=>some (.bool (decide (x≤y)))
   | .gtr=>some (.bool (decide (y < x)))
   | .geq=>some (.bool (decide (y≤x)))
   | op=>bits op k x y
  else none

def eqC:Nat→C→C→Option Bool
 | 0,.d (.int k a),.d (.int k' b)=>if k=k' then some (decide (a=b)) else none
 | 1,.d (.bool a),.d (.bool b)=>some (a == b)
 | 2,.d (.str a),.d (.str b)=>some (a == b)
 | _,_,_=>none
def eqCs:List Nat→List C→List C→Option Bool
 | [],[],[]=>some true
 | k::ks,a::as,b::bs=>(eqC k a b).bind fun x=>(eqCs ks as bs).bind fun y=>some (x && y)
 | _,_,_=>none

def splice {α:Type} (l:List α) (j:Nat) (n:List α):List α:=l.take j++n++l.drop (j+n.length)

def elemOf (z:D) (cs:List D):D :=
 match z with
 | .agg _=>.agg cs
 | _=>cs.headD z

def capD:Cap→Option D
 | .d x=>some x
 | .p _=>none
def capsD:List Cap→Option (List D)
 | []=>some []
 | c::cs=>(capD c).bind fun x=>(capsD cs).bind fun xs=>some (x::xs)

def cellD:C→Option D
 | .d x=>some x
 | .nil=>some (.list [])
 | .fn f caps=>(capsD caps).bind fun ds=>some (.fn f ds)
 | _=>none
def cellsD:List C→Option (List D)
 | []=>some []
 | c::cs=>(cellD c).bind fun x=>(cellsD cs).bind fun xs=>some (x::xs)

def C.sub (s:Nat) (own:Nat→Nat→C) (ptr:Nat→Nat→C) (cap:Cap):C→C
 | .own s' off len=>if s'=s then own off len else .own s' off len
 | .ptr s' i j=>if s'=s then ptr i j else .ptr s' i j
 | .mp s'=>if s'=s then .dead else .mp s'
 | .fn f caps=>.fn f (caps.map fun c=>match c with | .p s'=>if s'=s then cap else .p s' | .d x=>.d x)
 | c=>c
def V.mapC (f:C→C):V→V
 | .one c=>.one (f c)
 | .agg cs=>.agg (cs.map f)
 | .tup xs=>.tup (xs.map fun x=>(x.1,x.2.map f))
 | .dead=>.dead
def Slot.mapC (f:C→C):Slot→Slot
 | .cells cs=>.cells (cs.map f)
 | .rows z rs br=>.rows z rs (br.map fun x=>(x.1,f x.2))
 | s=>s
def St.mapC (f:C→C) (σ:St):St:=⟨σ.env.map fun x=>(x.1,x.2.mapC f),σ.mem.map (Slot.mapC f)⟩

def toD (m:Heap):C→Option (D × Heap)
 | .own s off len =>
  match m[s]? with
  | some (.vals _ xs)=>some (.list ((xs.drop off).take len),m.set s .dead)
  | some (.rows _ rs br)=>if br.isEmpty=true then some (.list (((rs.drop off).take len).map .list),m.set s .dead) else none
  | _=>none
 | c=>(cellD c).bind fun x=>some (x,m)
def toDs (m:Heap):List C→Option (List D × Heap)
 | []=>some ([],m)
 | c::cs=>(toD m c).bind fun x=>(toDs x.2 cs).bind fun y=>some (x.1::y.1,y.2)

def elems (m:Heap):C→Option (List D)
 | .d (.list xs)=>some xs
 | .nil=>some []
 | .own s off len =>
  match m[s]? with
  | some (.vals _ xs)=>some ((xs.drop off).take len)
  | _=>none
 | _=>none

def seeRow (m:Heap):C→Option (List D)
 | .d (.list xs)=>some xs
 | .nil=>some []
 | .own s off len =>
  match m[s]? with
  | some (.vals _ xs)=>some ((xs.drop off).take len)
  | _=>none
 | _=>none
def seeBr (m:Heap):List (Nat × C)→List (List D)→Option (List (List D))
 | [],rs=>some rs
 | (i,c)::r,rs=>(seeRow m c).bind fun x=>(seeBr m r rs).bind fun rs'=>some (rs'.set i x)
def seeC (m:Heap):C→Option D
 | .own s off len =>
  match m[s]? with
  | some (.vals _ xs)=>some (.list ((xs.drop off).take len))
  | some (.rows _ rs br)=>(seeBr m br rs).bind fun rs'=>some (.list (((rs'.drop off).take len).map .list))
  | _=>none
 | c=>cellD c
def seeCs (m:Heap):List C→Option (List D)
 | []=>some []
 | c::cs=>(seeC m c).bind fun x=>(seeCs m cs).bind fun xs=>some (x::xs)
def seeV (m:Heap):V→Option V
 | .one c=>(seeC m c).bind fun d=>some (.one (.d d))
 | .agg cs=>(seeCs m cs).bind fun ds=>some (.agg (ds.map .d))
 | _=>none
def seeVs (m:Heap):List V→Option (List V)
 | []=>some []
 | v::vs=>(seeV m v).bind fun x=>(seeVs m vs).bind fun xs=>some (x::xs)
def C.plain:C→Bool
 | .d (.int ..)=>true
 | .d (.bool _)=>true
 | _=>false
def V.plain:V→Bool
 | .one c=>c.plain
 | .agg cs=>cs.all C.plain
 | .tup xs=>xs.all fun x=>x.2.all C.plain
 | .dead=>false

def D.num:D→Bool
 | .int .. | .bool _=>true
 | _=>false
def C.own1:C→Bool
 | .own s _ _=>s == 0
 | c=>c.plain
def V.own1:V→Bool
 | .one c=>c.own1
 | .agg cs=>cs.all C.own1
 | .tup xs=>xs.all fun x=>x.2.all C.own1
 | .dead=>false
def C.at (n:Nat):C→C
 | .own _ off len=>.own n off len
 | c=>c

def ldC (m:Heap) (n:Nat):C→Option (List C)
 | .ptr s i j =>
  match m[s]? with
  | some (.vals z xs)=>if 1 < n∧z.cells.length=1 then (if i=0∧j=0∧xs.length=n then some ((xs.flatMap D.cells).map .d) else none)
   else if j+n≤(xs.getD i z).cells.length then some ((((xs.getD i z).cells.drop j).take n).map .d) else none
  | some (.cells cs)=>if j+n≤cs.length then some ((cs.drop j).take n) else none
  | _=>none
 | .d (.ref ds)=>if n≤ds.length then some ((ds.take n).map .d) else none
 | _=>none

def stC (m:Heap) (a:C) (x:List C):Option Heap :=
 match a with
 | .ptr s i j =>
  match m[s]? with
  | some (.vals _ _) =>
   (toDs m x).bind fun y =>
    match y.2[s]? with
    | some (.vals z xs)=>if j+x.length≤z.cells.length then some (y.2.set s (.vals z (xs.set i (elemOf z (splice (xs.getD i z).cells j y.1)))))
     else if i=0∧j=0∧z.cells.length=1∧xs.length=x.length then some (y.2.set s (.vals z y.1)) else none
    | _=>none
  | some (.cells cs)=>if j+x.length≤cs.length then some (m.set s (.cells (splice cs j x))) else none
  | some (.rows z rs br)=>match x with
   | [c]=>if j=0 then some (m.set s (.rows z rs ((i,c)::br))) else none
   | _=>none
  | _=>none
 | _=>none

def litParts (z:D):Heap→List D→List (Nat × V)→Option (List D × Heap)
 | m,xs,[]=>some (xs,m)
 | m,xs,(i,v)::r =>
  v.cs?.bind fun cs=>(toDs m cs).bind fun y=>if y.1.length=z.cells.length then litParts z y.2 (xs.set i (elemOf z y.1)) r else none

def litPartsD (z:D):List D→List (Nat × V)→Option (List D)
 | xs,[]=>some xs
 | xs,(i,v)::r =>
  v.cs?.bind fun cs=>(cellsD cs).bind fun y=>if y.length=z.cells.length then litPartsD z (xs.set i (elemOf z y)) r else none

def bldParts:List C→List (Nat × Nat × V)→Option (List C)
 | cs,[]=>some cs
 | cs,(o,n,v)::r=>v.cs?.bind fun x=>if x.length=n∧o+x.length≤cs.length then bldParts (splice cs o x) r else none

def litBr:List (Nat × C)→List (Nat × V)→Option (List (Nat × C))
 | br,[]=>some br
 | br,(i,v)::r=>v.c?.bind fun c=>litBr ((i,c)::br) r

def minV (a x:V):Option V:=a.int?.bind fun p=>x.int?.bind fun q=>some (.int p.1 (if q.2 < p.2 then q.2 else p.2))
def maxV (a x:V):Option V:=a.int?.bind fun p=>x.int?.bind fun q=>some (.int p.1 (if p.2 < q.2 then q.2 else p.2))
def foldV (f:V→V→Option V):Option V→List V→Option V
 | acc,[]=>acc
 | acc,x::r=>foldV f (acc.bind fun a=>f a x) r
def minL:List V→Option V
 | []=>none
 | v::r=>foldV minV (v.int?.bind fun p=>some (.int p.1 p.2)) r
def maxL:List V→Option V
 | []=>none
 | v::r=>foldV maxV (v.int?.bind fun p=>some (.int p.1 p.2)) r

def C.slots:C→List Nat
 | .own s _ _=>[s]
 | .ptr s _ _=>[s]
 | .mp s=>[s]
 | .fn _ caps=>caps.filterMap fun c=>match c with | .p s=>some s | _=>none
 | _=>[]
def V.slots:V→List Nat
 | .one c=>c.slots
 | .agg cs=>cs.flatMap C.slots
 | .tup xs=>xs.flatMap fun x=>x.2.flatMap C.slots
 | .dead=>[]
def Slot.slots:Slot→List Nat
 | .cells cs=>cs.flatMap C.slots
 | .rows _ _ br=>br.flatMap fun x=>x.2.slots
 | _=>[]
def reach (m:Heap):Nat→List Nat→List Nat→List Nat
 | 0,_,acc=>acc
 | _+1,[],acc=>acc
 | n+1,s::r,acc=>if memN s acc=true then reach m n r acc else reach m n ((m.getD s .dead).slots++r) (acc++[s])

def find (s:Nat):List Nat→Nat→Option Nat
 | [],_=>none
 | x::r,i=>if x=s then some i else find s r (i+1)
def renCaps (ρ:Nat→Option Nat):List Cap→Option (List Cap)
 | []=>some []
 | .d x::r=>(renCaps ρ r).bind fun cs=>some (.d x::cs)
 | .p s::r=>(ρ s).bind fun t=>(renCaps ρ r).bind fun cs=>some (.p t::cs)
def C.ren (ρ:Nat→Option Nat):C→C
 | .own s off len=>match ρ s with | some i=>.own i off len | none=>.dead
 | .ptr s i j=>match ρ s with | some t=>.ptr t i j | none=>.dead
 | .mp s=>match ρ s with | some t=>.mp t | none=>.dead
 | .fn f caps=>match renCaps ρ caps with | some cs=>.fn f cs | none=>.dead
 | c=>c
def sel (ids:List Nat) (m:Heap):Heap:=ids.map fun s=>(m.getD s .dead).mapC (C.ren fun t=>find t ids 0)
def allLt:List Nat→Nat→Bool
 | [],_=>true
 | x::r,n=>if x < n then allLt r n else false
def back (ids:List Nat) (n:Nat) (j:Nat):Nat:=if j < ids.length then ids.getD j 0 else n+(j - ids.length)
def wback:List Nat→Heap→Heap→Heap
 | [],m',m=>m++m'
 | s::ids,sl::m',m=>wback ids m' (m.set s sl)
 | _::_,[],m=>m

def gcIds (b:Nat) (m:Heap) (roots:List Nat):List Nat:=reach m (8*m.length+roots.length+8) ((List.range b).flatMap (fun s=>(m.getD s .dead).slots)++roots) (List.range b)

def St.gc (b:Nat) (σ:St):St :=
 let ids:=gcIds b σ.mem (σ.env.flatMap fun x=>x.2.slots)
 ⟨σ.env.map fun x=>(x.1,x.2.mapC (C.ren fun t=>find t ids 0)),sel ids σ.mem⟩

abbrev Call:=Nat→List V→Heap→Option (V × Heap)

def V.noSlots (v:V):Bool:=v.slots.isEmpty
def doCall (call:Call) (pure:Bool) (g:Nat) (args:List V) (m:Heap):Option (V × Heap) :=
 if pure then if args.all V.noSlots then (call g args []).bind fun r=>match r.2 with | []=>some (r.1,m) | _=>none else none
 else
  let ids:=reach m (4*m.length+args.length*8+8) (args.flatMap V.slots) []
  if allLt ids m.length=true then
   (call g (args.map (V.mapC (C.ren fun t=>find t ids 0))) (sel ids m)).bind fun r =>
    let ρ:=C.ren fun t=>some (back ids m.length t)
    some (r.1.mapC ρ,wback ids (r.2.map (Slot.mapC ρ)) m)
  else none

def capOf:V→Option Cap
 | .one (.d x)=>some (.d x)
 | .one (.ptr s 0 0)=>some (.p s)
 | _=>none
def capsOf:List V→Option (List Cap)
 | []=>some []
 | v::r=>(capOf v).bind fun c=>(capsOf r).bind fun cs=>some (c::cs)
def Cap.c:Cap→C
 | .d x=>.d x
 | .p s=>.ptr s 0 0

def sliceB (lo hi max:Option V) (len:Nat):Option (Nat × Nat) :=
 (match lo with | some l=>l.int? | none=>some (.i64,0)).bind fun l =>
 match max with
 | some v=>v.int?.bind fun m=>hi.bind fun h=>h.int?.bind fun h =>
  if 0≤l.2∧l.2≤h.2∧h.2≤m.2∧m.2≤len then some (l.2.toNat,h.2.toNat) else none
 | none=>(match hi with | some h=>h.int? | none=>some (.i64,(len:Int))).bind fun h =>
  if 0≤l.2∧l.2≤h.2∧h.2≤len then some (l.2.toNat,h.2.toNat) else none

def evO (call:Call) (σ:St):MOp→Option (V × Heap)
 | .mov x=>some (σ.arg x,σ.mem)
 | .nilc x=>match σ.arg x with
  | .one (.ptr s i j)=>some (.one (.ptr s i j),σ.mem)
  | .one (.d (.ref ds))=>some (.one (.d (.ref ds)),σ.mem)
  | _=>none
 | .pick c a b=>(σ.arg c).bool?.bind fun p=>some (if p then σ.arg a else σ.arg b,σ.mem)
 | .bin op x y=>(σ.arg x).int?.bind fun a=>(σ.arg y).int?.bind fun b=>(binI op a.1 a.2 b.1 b.2).bind fun v=>some (v,σ.mem)
 | .eqs neg g ks x y=>((σ.arg x).csG g).bind fun a=>((σ.arg y).csG g).bind fun b=>(eqCs ks a b).bind fun p=>some (.bool (if neg then !p else p),σ.mem)
 | .isn neg x=>(σ.arg x).c?.bind fun
  | .nil=>some (.bool (!neg),σ.mem)
  | .d (.list xs)=>if 0 < xs.length then some (.bool neg,σ.mem) else none
  | _=>none
 | .not x=>(σ.arg x).bool?.bind fun p=>some (.bool (!p),σ.mem)
 | .neg x=>(σ.arg x).int?.bind fun p=>some (.int p.1 (p.1.wrap (0 - p.2)),σ.mem)
 | .conv k x=>(σ.arg x).int?.bind fun p=>some (.int k (k.wrap p.2),σ.mem)
 | .alloc cs=>some (.one (.ptr σ.mem.length 0 0),σ.mem++[.cells cs])
 | .allocA z n=>some (.one (.ptr σ.mem.length 0 0),σ.mem++[.vals z (List.replicate n z)])
 | .box x=>(σ.arg x).cs?.bind fun cs=>some (.one (.ptr σ.mem.length 0 0),σ.mem++[.cells cs])
 | .build zero parts=>(bldParts zero (parts.map fun p=>(p.1,p.2.1,σ.arg p.2.2))).bind fun cs=>some (.agg cs,σ.mem)
 | .lit data z n parts =>
  if data then (litPartsD z (List.replicate n z) (parts.map fun p=>(p.1,σ.arg p.2))).bind fun xs=>some (.one (.d (.list xs)),σ.mem)
  else (litParts z σ.mem (List.replicate n z) (parts.map fun p=>(p.1,σ.arg p.2))).bind fun y=>some (.one (.own y.2.length 0 n),y.2++[.vals z y.1])
 | .load n g a=>(σ.arg a).c?.bind fun a=>(ldC σ.mem n a).bind fun cs=>(mkV g cs).bind fun v=>some (v,σ.mem)
 | .store n a x=>(σ.arg a).c?.bind fun a=>(σ.arg x).cs?.bind fun cs=>if cs.length=n then (stC σ.mem a cs).bind fun m=>some (.tup [],m) else none
 | .faddr off x=>(σ.arg x).c?.bind fun
  | .ptr s i j=>some (.one (.ptr s i (j+off)),σ.mem)
  | .d (.ref ds)=>some (.one (.d (.ref (ds.drop off))),σ.mem)
  | _=>none
 | .field off n g x=>match σ.arg x with
  | .agg cs=>(mkV g ((cs.drop off).take n)).bind fun v=>some (v,σ.mem)
  | _=>none
 | .iaddr z x i=>(σ.arg x).c?.bind fun c=>(σ.arg i).int?.bind fun i=>match c with
  | .d (.list xs)=>if 0≤i.2∧i.2 < xs.length then (if (xs.getD i.2.toNat z).cells.length=z.cells.length then some (.one (.d (.ref (xs.getD i.2.toNat z).cells)),σ.mem) else none) else none
  | .own s off len=>match σ.mem[s]? with
   | some (.vals z' _)=>if z'.cells.length=z.cells.length then (if 0≤i.2∧i.2 < len then some (.one (.ptr s (off+i.2.toNat) 0),σ.mem) else none) else none
   | some (.rows ..)=>if z.cells.length=1 then (if 0≤i.2∧i.2 < len then some (.one (.ptr s (off+i.2.toNat) 0),σ.mem) else none) else none
   | _=>none
  | _=>none
 | .aaddr n sz x i=>(σ.arg x).c?.bind fun c=>(σ.arg i).int?.bind fun i=>match c with
  | .ptr s 0 0=>match σ.mem[s]? with
   | some (.vals z xs)=>if z.cells.length=sz then if 0≤i.2∧i.2 < n∧i.2 < xs.length then some (.one (.ptr s i.2.toNat 0),σ.mem) else none else none
   | some (.cells _)=>if 0≤i.2∧i.2 < n then some (.one (.ptr s 0 (i.2.toNat*sz)),σ.mem) else none
   | _=>none
  | _=>none
 | .aflat n sz x i=>(σ.arg x).c?.bind fun c=>(σ.arg i).int?.bind fun i=>match c with
  | .ptr s p 0=>match σ.mem[s]? with
   | some (.vals z xs)=>if z.cells.length=1 then if 0≤i.2∧i.2 < n∧p+i.2.toNat*sz < xs.length then some (.one (.ptr s (p+i.2.toNat*sz) 0),σ.mem) else none else none
   | _=>none
  | _=>none
 | .slice z x lo hi max=>(σ.arg x).c?.bind fun
  | .d (.list xs)=>if xs.all (fun d=>d.cells.length == z) then (sliceB (lo.map σ.arg) (hi.map σ.arg) (max.map σ.arg) xs.length).bind fun b=>some (.one (.d (.list ((xs.drop b.1).take (b.2 - b.1)))),σ.mem) else none
  | .own s off len=>match σ.mem[s]? with
   | some (.vals z' _)=>if z'.cells.length=z then (sliceB (lo.map σ.arg) (hi.map σ.arg) (max.map σ.arg) len).bind fun b=>some (.one (.own s (off+b.1) (b.2 - b.1)),σ.mem) else none
   | some (.rows ..)=>if z=1 then (sliceB (lo.map σ.arg) (hi.map σ.arg) (max.map σ.arg) len).bind fun b=>some (.one (.own s (off+b.1) (b.2 - b.1)),σ.mem) else none
   | _=>none
  | .nil=>(sliceB (lo.map σ.arg) (hi.map σ.arg) (max.map σ.arg) 0).bind fun _=>some (.one .nil,σ.mem)
  | _=>none
 | .mkslice z l c=>(σ.arg l).int?.bind fun l=>(σ.arg c).int?.bind fun c =>
  if 0≤l.2∧l.2≤c.2∧c.2≤LIM then some (.one (.own σ.mem.length 0 l.2.toNat),σ.mem++[.vals z (List.replicate l.2.toNat z)]) else none
 | .len str x=>if str then (σ.arg x).c?.bind fun
  | .d (.str s)=>some (.int .i64 s.size,σ.mem)
  | _=>none
  else (σ.arg x).c?.bind fun
   | .d (.list xs)=>some (.int .i64 xs.length,σ.mem)
   | .own _ _ len=>some (.int .i64 len,σ.mem)
   | .nil=>some (.int .i64 0,σ.mem)
   | _=>none
 | .min xs=>(minL (xs.map σ.arg)).bind fun v=>some (v,σ.mem)
 | .max xs=>(maxL (xs.map σ.arg)).bind fun v=>some (v,σ.mem)
 | .append z x y=>(σ.arg x).c?.bind fun a=>(σ.arg y).c?.bind fun b=>(elems σ.mem b).bind fun ys =>
  if ys.all (fun d=>d.cells.length == z.cells.length) then
  match a with
  | .nil=>if ys.length≤LIM then some (.one (.own σ.mem.length 0 ys.length),σ.mem++[.vals z ys]) else none
  | .own s off len =>
   match σ.mem[s]? with
   | some (.vals z' xs)=>if z'.cells.length=z.cells.length∧len+ys.length≤LIM then
    some (.one (.own σ.mem.length 0 (len+ys.length)),σ.mem.set s .dead++[.vals z' ((xs.drop off).take len++ys)]) else none
   | _=>none
  | _=>none
  else none
 | .ext x i=>match σ.arg x with
  | .tup xs=>match xs[i]? with
   | some (g,cs)=>(mkV g cs).bind fun v=>some (v,σ.mem)
   | none=>none
  | _=>none
 | .call pure g args=>doCall call pure g (args.map σ.arg) σ.mem
 | .view g args=>(seeVs σ.mem (args.map σ.arg)).bind fun vs=>(call g vs []).bind fun r=>if r.1.plain then (match r.2 with | []=>some (r.1,σ.mem) | _=>none) else none
 | .viewO g args=>(seeVs σ.mem (args.map σ.arg)).bind fun vs=>(call g vs []).bind fun r=>if r.1.own1 then (match r.2 with
  | [.vals z xs]=>if xs.all (fun d=>d.cells.all D.num) then some (r.1.mapC (C.at σ.mem.length),σ.mem++[.vals z xs]) else none
  | _=>none) else none
 | .callv x args=>match σ.arg x with
  | .one (.fn (.func g) caps)=>doCall call false g (args.map σ.arg++caps.map fun c=>.one c.c) σ.mem
  | .one (.d (.fn (.func g) caps))=>doCall call false g (args.map σ.arg++caps.map fun c=>.one (.d c)) σ.mem
  | _=>none
 | .mkfn f caps=>(capsOf (caps.map σ.arg)).bind fun cs=>some (.one (.fn f cs),σ.mem)
 | .mkrows z l c=>(σ.arg l).int?.bind fun l=>(σ.arg c).int?.bind fun c =>
  if 0≤l.2∧l.2≤c.2∧c.2≤LIM then some (.one (.own σ.mem.length 0 l.2.toNat),σ.mem++[.rows z (List.replicate l.2.toNat []) []]) else none
 | .litR z n ps=>(litBr [] (ps.map fun p=>(p.1,σ.arg p.2))).bind fun br=>some (.one (.own σ.mem.length 0 n),σ.mem++[.rows z (List.replicate n []) br])
 | .appendR x y=>(σ.arg x).c?.bind fun a=>(σ.arg y).c?.bind fun b=>match b with
  | .own s2 o2 n2=>match σ.mem[s2]? with
   | some (.rows z2 rs2 br2)=>(brOne br2).bind fun c=>if o2=0∧n2=1∧rs2.length=1 then match a with
    | .nil=>some (.one (.own σ.mem.length 0 1),σ.mem.set s2 .dead++[.rows z2 [[]] [(0,c)]])
    | .own s o len=>match σ.mem[s]? with
     | some (.rows z rs br)=>if o=0∧br.isEmpty=true∧len+1≤LIM then some (.one (.own σ.mem.length 0 (len+1)),(σ.mem.set s .dead).set s2 .dead++[.rows z (rs.take len++[[]]) [(len,c)]]) else none
     | _=>none
    | _=>none
    else none
   | _=>none
  | _=>none
 | .lend a=>(σ.arg a).c?.bind fun c=>match c with
  | .ptr s i j=>match σ.mem[s]? with
   | some (.rows z rs br)=>if j≠0 then none else match brGet br i with
    | some c=>some (.one c,σ.mem)
    | none=>some (.one (.own σ.mem.length 0 (rs.getD i []).length),σ.mem.set s (.rows z rs ((i,.own σ.mem.length 0 (rs.getD i []).length)::br))++[.vals z (rs.getD i [])])
   | _=>none
  | _=>none
 | .sidx x i=>(σ.arg x).c?.bind fun c=>(σ.arg i).int?.bind fun i=>match c with
  | .d (.str s)=>if 0≤i.2 then (s[i.2.toNat]?).bind fun b=>some (.one (.d (.int .u8 b.toNat)),σ.mem) else none
  | _=>none
 | .vidx n sz g x i=>(σ.arg i).int?.bind fun i=>match σ.arg x with
  | .agg cs=>if 0≤i.2∧i.2 < n then (mkV g ((cs.drop (i.2.toNat*sz)).take sz)).bind fun v=>some (v,σ.mem) else none
  | _=>none
 | .mkmap=>some (.one (.mp σ.mem.length),σ.mem++[.map []])
 | .insert x k v=>(σ.arg x).c?.bind fun c=>(σ.arg k).int?.bind fun k=>(σ.arg v).c?.bind fun v=>(cellD v).bind fun d=>match c with
  | .mp s=>match σ.mem[s]? with
   | some (.map es)=>if k.1=.i64 then (match getM es k.2 with | none=>some (.tup [],σ.mem.set s (.map (putM es k.2 d))) | some _=>none) else none
   | _=>none
  | _=>none
 | .lookup x k=>(σ.arg x).c?.bind fun c=>(σ.arg k).int?.bind fun k=>match c with
  | .mp s=>match σ.mem[s]? with
   | some (.map es)=>if k.1=.i64 then (getM es k.2).bind fun d=>some (.one (.d d),σ.mem) else none
   | _=>none
  | _=>none

mutual
def evI (call:Call):MI→St→Option St
 | .op dst o,σ=>(evO call σ o).bind fun r=>some (St.put ⟨σ.env,r.2⟩ dst r.1)
 | .sc t want body dst e r,σ=>(σ.env.get t).bool?.bind fun p =>
  (if p=want then (evIs call body σ).bind fun σ'=>some (σ'.arg r,σ'.mem) else some (σ.arg e,σ.mem)).bind fun x=>some ⟨σ.env.put dst x.1,x.2⟩
def evIs (call:Call):List MI→St→Option St
 | [],σ=>some σ
 | i::is,σ=>(evI call i σ).bind fun σ'=>evIs call is σ'
end

def St.cellOf (σ:St) (t j:Nat):Option (Nat × C) :=
 match σ.env.get t with
 | .one (.ptr s 0 0)=>match σ.mem[s]? with
  | some (.cells cs)=>(cs[j]?).map fun c=>(s,c)
  | _=>none
 | _=>none
def frzS (s:Nat) (σ:St):Option St :=
 match σ.mem[s]? with
 | some (.vals _ xs) =>
  let σ':=σ.mapC (C.sub s (fun off len=>.d (.list ((xs.drop off).take len))) (fun _ _=>.dead) (.p s))
  some ⟨σ'.env,σ'.mem.set s .dead⟩
 | some (.rows _ rs br) =>
  if br.isEmpty=true then
   let σ':=σ.mapC (C.sub s (fun off len=>.d (.list (((rs.drop off).take len).map .list))) (fun _ _=>.dead) (.p s))
   some ⟨σ'.env,σ'.mem.set s .dead⟩
  else none
 | some (.cells cs)=>(cellsD cs).bind fun ds =>
  let σ':=σ.mapC (C.sub s (fun _ _=>.dead) (fun _ j=>.d (.ref (ds.drop j))) (.d (.ref ds)))
  some ⟨σ'.env,σ'.mem.set s .dead⟩
 | _=>none
def lender (s':Nat):Heap→Nat→Option (Nat × Nat × Nat)
 | [],_=>none
 | .rows _ _ br::r,n=>match brHas s' br br with
  | some x=>some (n,x)
  | none=>lender s' r (n+1)
 | _::r,n=>lender s' r (n+1)
def bakS (s':Nat) (m:Heap):Option Heap:=(lender s' m 0).bind fun x=>match m[x.1]?,m[s']? with
 | some (.rows z rs br),some (.vals z' xs)=>if z'.cells.length=z.cells.length then some ((m.set x.1 (.rows z (rs.set x.2.1 (xs.take x.2.2)) (brDel br x.2.1))).set s' .dead) else none
 | _,_=>none
def evG (b:Nat):Ghost→St→Option St
 | .bak t,σ=>match σ.env.get t with
  | .one (.own s' _ _)=>(bakS s' σ.mem).bind fun m=>some ⟨σ.env,m⟩
  | .tup []=>some σ
  | _=>none
 | .keep ts,σ=>some ⟨keepE ts σ.env,σ.mem⟩
 | .gc,σ=>some (σ.gc b)
 | .frz t,σ=>match σ.env.get t with
  | .one (.own s _ _)=>frzS s σ
  | .one (.ptr s _ _)=>frzS s σ
  | _=>none
 | .frzC t j,σ=>(σ.cellOf t j).bind fun x=>match x.2 with
  | .own s _ _=>frzS s σ
  | _=>none
 | .prom t z,σ=>match σ.env.get t with
  | .one .nil=>if 0 < z.cells.length then some ⟨σ.env.put t (.one (.own σ.mem.length 0 0)),σ.mem++[.vals z []]⟩ else none
  | _=>none
 | .promC t j z,σ=>(σ.cellOf t j).bind fun x=>match x.2,σ.mem[x.1]? with
  | .nil,some (.cells cs)=>if 0 < z.cells.length then some ⟨σ.env,(σ.mem++[Slot.vals z []]).set x.1 (.cells (cs.set j (.own σ.mem.length 0 0)))⟩ else none
  | _,_=>none
 | .renew t,σ=>match σ.env.get t with
  | .one (.own s off len)=>match σ.mem[s]? with
   | some (.vals z xs)=>some ⟨σ.env.put t (.one (.own σ.mem.length off len)),σ.mem.set s .dead++[.vals z xs]⟩
   | _=>none
  | _=>none
 | .renewC t j,σ=>(σ.cellOf t j).bind fun x=>match x.2,σ.mem[x.1]? with
  | .own s off len,some (.cells cs)=>match σ.mem[s]? with
   | some (.vals z xs)=>some ⟨σ.env,(σ.mem.set s .dead++[Slot.vals z xs]).set x.1 (.cells (cs.set j (.own σ.mem.length off len)))⟩
   | _=>none
  | _,_=>none
def evGs (b:Nat):List Ghost→St→Option St
 | [],σ=>some σ
 | g::gs,σ=>(evG b g σ).bind fun σ'=>evGs b gs σ'

inductive Ex where
 | normal
 | exit (id:Nat)
 | ret
deriving DecidableEq,Inhabited

def iter {T:Type} (f:T→Option (Ex × T)):Nat→T→Option (Ex × T)
 | 0,_=>none
 | n+1,σ=>(f σ).bind fun r=>match r.1 with
  | .normal=>iter f n r.2
  | e=>some (e,r.2)

def MOp.cls:MOp→Nat
 | .mov _ | .nilc _ | .pick .. | .bin .. | .eqs .. | .isn .. | .not _ | .neg _ | .conv .. | .build .. | .faddr .. | .field .. | .sidx .. | .vidx .. | .ext .. | .mkfn .. | .min _ | .max _ | .len ..=>0
 | .lit d ..=>if d then 0 else 2
 | .call p ..=>if p then 0 else 2
 | .load .. | .iaddr .. | .aaddr .. | .aflat .. | .slice .. | .lookup .. | .view ..=>1
 | _=>2
def Arg.tmp?:Arg→List Nat
 | .t n=>[n]
 | _=>[]
def optT:Option Arg→List Nat
 | some x=>x.tmp?
 | none=>[]
def MOp.tmps:MOp→List Nat
 | .mov x | .nilc x | .isn _ x | .not x | .neg x | .conv _ x | .box x | .load _ _ x | .faddr _ x | .field _ _ _ x | .len _ x | .ext x _=>x.tmp?
 | .pick c a b=>c.tmp?++a.tmp?++b.tmp?
 | .mkmap=>[]
 | .lend x=>x.tmp?
 | .mkrows _ x y | .appendR x y=>x.tmp?++y.tmp?
 | .litR _ _ ps=>ps.flatMap fun p=>p.2.tmp?
 | .insert x k v=>x.tmp?++k.tmp?++v.tmp?
 | .bin _ x y | .eqs _ _ _ x y | .lookup x y | .sidx x y | .vidx _ _ _ x y | .store _ x y | .iaddr _ x y | .aaddr _ _ x y | .aflat _ _ x y | .mkslice _ x y | .append _ x y=>x.tmp?++y.tmp?
 | .alloc _ | .allocA ..=>[]
 | .build _ ps=>ps.flatMap fun p=>p.2.2.tmp?
 | .lit _ _ _ ps=>ps.flatMap fun p=>p.2.tmp?
 | .slice _ x l h m=>x.tmp?++optT l++optT h++optT m
 | .min xs | .max xs | .call _ _ xs | .mkfn _ xs | .view _ xs | .viewO _ xs=>xs.flatMap Arg.tmp?
 | .callv x xs=>x.tmp?++xs.flatMap Arg.tmp?
def FI.looks (i:FI):List Nat:=(match i.g with | some (t,_)=>[t] | none=>[])++i.o.tmps
def FI.apart (x y:FI):Bool :=
 (match x.dst with
  | some d=>!y.looks.contains d && y.dst != some d
  | none=>true) &&
 (match y.dst with
  | some d=>!x.looks.contains d
  | none=>true)
def FI.comm (x y:FI):Bool:=x.apart y && (x.o.cls == 0 || y.o.cls == 0 || (x.o.cls == 1 && y.o.cls == 1))

def act (call:Call) (i:FI) (σ:St):Option (V × Heap) :=
 match i.g with
 | none=>evO call σ i.o
 | some (t,want) =>
  match σ.env.get t with
  | .one (.d (.bool p))=>if p=want then evO call σ i.o else some (.tup [],σ.mem)
  | .tup []=>some (.tup [],σ.mem)
  | _=>none
def evFI (call:Call) (i:FI) (σ:St):Option St:=(act call i σ).bind fun r=>some (St.put ⟨σ.env,r.2⟩ i.dst r.1)
def rdy (pre:List (List Nat)) (done:List Nat):List Nat:=(List.range pre.length).filter fun i=>!memN i done && (pre.getD i []).all fun j=>memN j done
def dpure (σ:St):MOp→Bool
 | .iaddr _ x _=>match σ.arg x with | .one (.d (.list _))=>true | _=>false
 | .load _ _ x=>match σ.arg x with | .one (.d (.ref _))=>true | _=>false
 | .slice _ x _ _ _=>match σ.arg x with | .one (.d (.list _))=>true | _=>false
 | o=>o.cls == 0
def fstOk (is:List FI) (pre:List (List Nat)) (done:List Nat) (σ:St) (i:Nat):Bool :=
 dpure σ (is.getD i default).o && (List.range pre.length).all fun j=>memN j done || j == i || memN i (pre.getD j []) || (is.getD i default).apart (is.getD j default)
mutual
def D.eqb:D→D→Bool
 | .int k n,.int k' n'=>decide (k=k') && decide (n=n')
 | .bool a,.bool b=>a == b
 | .str a,.str b=>decide (a=b)
 | .list xs,.list ys=>Ds.eqb xs ys
 | .agg xs,.agg ys=>Ds.eqb xs ys
 | .fn f xs,.fn g ys=>decide (f=g) && Ds.eqb xs ys
 | .ref xs,.ref ys=>Ds.eqb xs ys
 | .nilp,.nilp=>true
 | .nilf,.nilf=>true
 | _,_=>false
def Ds.eqb:List D→List D→Bool
 | [],[]=>true
 | x::xs,y::ys=>D.eqb x y && Ds.eqb xs ys
 | _,_=>false
end
mutual
theorem D.eqb_iff:∀ (x y:D),D.eqb x y=true↔x=y
 | .int ..,y=>by cases y <;> simp [D.eqb]
 | .bool _,y=>by cases y <;> simp [D.eqb]
 | .str _,y=>by cases y <;> simp [D.eqb]
 | .list xs,y=>by cases y <;> simp [D.eqb,Ds.eqb_iff xs]
 | .agg xs,y=>by cases y <;> simp [D.eqb,Ds.eqb_iff xs]
 | .fn f xs,y=>by cases y <;> simp [D.eqb,Ds.eqb_iff xs]
 | .ref xs,y=>by cases y <;> simp [D.eqb,Ds.eqb_iff xs]
 | .nilp,y=>by cases y <;> simp [D.eqb]
 | .nilf,y=>by cases y <;> simp [D.eqb]
theorem Ds.eqb_iff:∀ (x y:List D),Ds.eqb x y=true↔x=y
 | [],y=>by cases y <;> simp [Ds.eqb]
 | x::xs,y=>by cases y <;> simp [Ds.eqb,D.eqb_iff x,Ds.eqb_iff xs]
end
instance:DecidableEq D:=fun x y=>if h:D.eqb x y=true then isTrue ((D.eqb_iff x y).1 h) else isFalse fun e=>h ((D.eqb_iff x y).2 e)
deriving instance DecidableEq for Cap
deriving instance DecidableEq for C
deriving instance DecidableEq for V
deriving instance DecidableEq for Slot
deriving instance DecidableEq for St
def sameAll:List (Option St)→Option St
 | []=>none
 | [x]=>x
 | x::y::r=>(sameAll (y::r)).bind fun s=>if x=some s then some s else none
noncomputable def evD (call:Call) (b:Nat) (is:List FI) (pre:List (List Nat)) (gh:List Ghost):Nat→List Nat→St→Option St
 | 0,_,_=>none
 | n+1,done,σ=>match rdy pre done with
  | []=>evGs b gh σ
  | i::r=>match (i::r).find? (fstOk is pre done σ) with
   | some j=>(evFI call (is.getD j default) σ).bind (evD call b is pre gh n (j::done))
   | none=>sameAll ((i::r).map fun j=>(evFI call (is.getD j default) σ).bind (evD call b is pre gh n (j::done)))

def evFs (call:Call):List FI→St→Option St
 | [],σ=>some σ
 | i::is,σ=>(evFI call i σ).bind fun σ'=>evFs call is σ'
noncomputable def evGen {S:Type} (call:Call) (k l:Nat) (rd:List V→S→Option (Bool × S)):MCode→St × S→Option (Ex × (St × S))
 | .skip,σ=>some (.normal,σ)
 | .bad,_=>none
 | .ext _,_=>none
 | .rangef ..,_=>none
 | .gh gs c,σ=>(evGs 0 gs σ.1).bind fun σ'=>match σ'.mem with
  | []=>evGen call k l rd c (σ',σ.2)
  | _=>none
 | .reg is gh,σ=>(evIs call is σ.1).bind fun σ'=>(evGs 0 gh σ').bind fun σ''=>match σ''.mem with
  | []=>some (.normal,(σ'',σ.2))
  | _=>none
 | .regD is pre gh,σ=>(evD call 0 is pre gh (is.length+1) [] σ.1).bind fun σ'=>match σ'.mem with
  | []=>some (.normal,(σ',σ.2))
  | _=>none
 | .yld is _ y gh,σ=>(evFs call (is.take y) σ.1).bind fun σ1=>match σ1.mem,is.getD y default with
  | [],⟨none,some d,.callv x args⟩=>match σ1.arg x with
   | .one (.d (.fn (.yield l') []))=>if l'=l then
    (rd (args.map σ1.arg) σ.2).bind fun r=>(evFs call (is.drop (y+1)) ⟨σ1.env.put d (.bool r.1),[]⟩).bind fun σ2=>(evGs 0 gh σ2).bind fun σ3=>match σ3.mem with
    | []=>some (.normal,(σ3,r.2))
    | _=>none
    else none
   | _=>none
  | _,_=>none
 | .seq x y,σ=>(evGen call k l rd x σ).bind fun r=>match r.1 with
  | .normal=>evGen call k l rd y r.2
  | e=>some (e,r.2)
 | .cond t x y,σ=>(σ.1.env.get t).bool?.bind fun p=>if p then evGen call k l rd x σ else evGen call k l rd y σ
 | .block id x,σ=>(evGen call k l rd x σ).bind fun r=>match r.1 with
  | .exit id'=>if id'=id then some (.normal,r.2) else some (.exit id',r.2)
  | e=>some (e,r.2)
 | .loop x,σ=>iter (evGen call k l rd x) k σ
 | .scope x,σ=>evGen call k l rd x σ
 | .exit id,σ=>some (.exit id,σ)
 | .ret,σ=>some (.ret,σ)

def putAll:List Nat→List V→Env→Env
 | t::ts,v::vs,e=>putAll ts vs (e.put t v)
 | _,_,e=>e
def roundM (fa fb:Nat→St→Option (Ex × St)) (b:Nat) (ps:List Nat) (gh:List Ghost) (args:List V) (s:Ex × St):Option (Bool × (Ex × St)) :=
 match s.1 with
 | .normal=>if args.length=ps.length then
  (fa s.2.mem.length ⟨putAll ps args s.2.env,s.2.mem⟩).bind fun r1=>match r1.1 with
  | .normal=>(fb r1.2.mem.length r1.2).bind fun r2=>(evGs b gh ⟨s.2.env,r2.2.mem⟩).bind fun σ3=>some (decide (r2.1=.normal),(r2.1,σ3))
  | _=>none
  else none
 | _=>none
open Classical in
noncomputable def allL {T:Type} (f:Nat→Option T):Option T:=if h:∃ r,∀ l,f l=some r then some h.choose else none
theorem allL_some {T:Type} {f:Nat→Option T} {r:T} (h:∀ l,f l=some r):allL f=some r:=by
 unfold allL
 have hx:∃ r,∀ l,f l=some r:=⟨r,h⟩
 rw [dif_pos hx,←hx.choose_spec 0,h 0]
theorem allL_spec {T:Type} {f:Nat→Option T} {r:T} (h:allL f=some r):∀ l,f l=some r:=by
 unfold allL at h
 split at h
 · rename_i hx
   cases h
   exact hx.choose_spec
 · cases h

def startEnv:Nat→List V→Env
 | _,[]=>[]
 | i,v::r=>(i,v)::startEnv (i+1) r
noncomputable def evC (X:Nat→Option MFn) (call:Call) (k b:Nat):MCode→St→Option (Ex × St)
 | .skip,σ=>some (.normal,σ)
 | .bad,_=>none
 | .ext _,_=>none
 | .yld ..,_=>none
 | .gh gs c,σ=>(evGs b gs σ).bind (evC X call k b c)
 | .reg is gh,σ=>(evIs call is σ).bind fun σ'=>(evGs b gh σ').bind fun σ''=>some (.normal,σ'')
 | .regD is pre gh,σ=>(evD call b is pre gh (is.length+1) [] σ).bind fun σ'=>some (.normal,σ')
 | .seq x y,σ=>(evC X call k b x σ).bind fun r=>match r.1 with
  | .normal=>evC X call k b y r.2
  | e=>some (e,r.2)
 | .cond t x y,σ=>(σ.env.get t).bool?.bind fun p=>if p then evC X call k b x σ else evC X call k b y σ
 | .block id x,σ=>(evC X call k b x σ).bind fun r=>match r.1 with
  | .exit id'=>if id'=id then some (.normal,r.2) else some (.exit id',r.2)
  | e=>some (e,r.2)
 | .loop x,σ=>iter (evC X call k b x) k σ
 | .scope x,σ=>evC X call k b x σ
 | .exit id,σ=>some (.exit id,σ)
 | .ret,σ=>some (.ret,σ)
 | .rangef x ps as body gh,σ=>match σ.arg x with
  | .one (.d (.fn (.func g) caps))=>(X g).bind fun fn=>if fn.np=caps.length+1∧fn.res.isEmpty=true then
   allL fun l=>(evGen call k l (roundM (fun b'=>evC X call k b' as) (fun b'=>evC X call k b' body) b ps gh) fn.code
    (⟨startEnv 0 (.one (.d (.fn (.yield l) []))::caps.map fun c=>.one (.d c)),[]⟩,(.normal,σ))).bind fun r=>match r.1 with
    | .exit _=>none
    | _=>some r.2.2
   else none
  | _=>none

def resOf (σ:St):MRes→Option (Bool × List C)
 | .tmp t=>match σ.env.get t with
  | .one c=>some (false,[c])
  | .agg cs=>some (true,cs)
  | _=>none
 | .cell t n g=>(σ.env.get t).c?.bind fun a=>(ldC σ.mem n a).bind fun cs=>some (g,cs)
def handC (m:Heap):RF→List C→Option (List C × Heap)
 | .data,cs=>(toDs m cs).bind fun y=>some (y.1.map .d,y.2)
 | .own z,cs=>match cs with
  | [.nil]=>if 0 < z.cells.length then some ([.own m.length 0 0],m++[.vals z []]) else none
  | [.own s off len]=>some ([.own s off len],m)
  | _=>none
 | .asis,cs=>some (cs,m)
def handAll (σ:St):Heap→List (MRes × RF)→Option (List (Bool × List C) × Heap)
 | m,[]=>some ([],m)
 | m,(r,f)::rest=>(resOf σ r).bind fun x=>(handC m f x.2).bind fun y=>(handAll σ y.2 rest).bind fun z=>some ((x.1,y.1)::z.1,z.2)
def resV:List (Bool × List C)→Option V
 | [(g,cs)]=>mkV g cs
 | xs=>some (.tup xs)

def finish (fn:MFn) (b:Nat) (r:Ex × St):Option (V × Heap) :=
 match r.1 with
 | .exit _=>none
 | _=>(handAll r.2 r.2.mem (fn.res.zip fn.rf)).bind fun x=>(resV x.1).bind fun v =>
  let ids:=gcIds b x.2 v.slots
  some (v.mapC (C.ren fun t=>find t ids 0),sel ids x.2)


def MCode.isExt:MCode→Bool
 | .ext _=>true
 | _=>false
def MCode.extF:MCode→Call→List V→Heap→Option (V × Heap)
 | .ext e=>e
 | _=>fun _ _ _=>none
noncomputable def evF (X:Nat→Option MFn):Nat→Call
 | 0=>fun _ _ _=>none
 | k+1=>fun f args m =>
  (X f).bind fun fn=>if fn.code.isExt=true then fn.code.extF (evF X k) args m else if args.length=fn.np then (evC X (evF X k) k m.length fn.code ⟨startEnv 0 args,m⟩).bind (finish fn m.length) else none
end

section
def cellAt (h:Array Obj) (b o:Nat):Option Value :=
 match h[b]? with
 | some (.cells c _ _)=>c[o]?
 | _=>none
def blkSize (h:Array Obj) (b:Nat):Option Nat :=
 match h[b]? with
 | some (.cells c _ _)=>some c.size
 | _=>none
def Plain (h:Array Obj) (b:Nat):Prop:=∃ c T,h[b]?=some (.cells c T (0,0))

theorem cellAt_congr {h h':Array Obj} {b:Nat} (e:h'[b]?=h[b]?) (o:Nat):cellAt h' b o=cellAt h b o:=by simp only [cellAt,e]
theorem blkSize_congr {h h':Array Obj} {b:Nat} (e:h'[b]?=h[b]?):blkSize h' b=blkSize h b:=by simp only [blkSize,e]
theorem Plain.congr {h h':Array Obj} {b:Nat} (e:h'[b]?=h[b]?) (p:Plain h b):Plain h' b:=by
 obtain ⟨c,T,k⟩:=p; exact ⟨c,T,e.trans k⟩
theorem Plain.size {h:Array Obj} {b:Nat} (p:Plain h b):∃ N,blkSize h b=some N:=by
 obtain ⟨c,T,k⟩:=p; exact ⟨c.size,by simp only [blkSize,k]⟩
theorem Plain.lt {h:Array Obj} {b:Nat} (p:Plain h b):b < h.size:=by
 obtain ⟨c,T,k⟩:=p; exact (Array.getElem?_eq_some_iff.1 k).1

def isCell:Value→Prop
 | .agg _=>False
 | .tuple _=>False
 | _=>True

inductive RepD (h:Array Obj) (A:Nat→Prop):D→Value→Prop
 | int (k:IntKind) (n:Int):RepD h A (.int k n) (.int k n)
 | bool (b:Bool):RepD h A (.bool b) (.bool b)
 | str (s:ByteArray):RepD h A (.str s) (.string s)
 | empty (a:Option Addr) (cap:Nat):RepD h A (.list []) (.slice a 0 cap)
 | list (xs:List D) (b o sz cap:Nat) (u:Nat→Nat→Value) (hA:A b) (hsz:0 < sz)
  (hlen:∀ (i:Nat) (d:D),xs[i]?=some d→d.cells.length=sz)
  (hc:∀ (i j:Nat),i < xs.length→j < sz→cellAt h b (o+i*sz+j)=some (u i j))
  (hr:∀ (i j:Nat) (d e:D),xs[i]?=some d→d.cells[j]?=some e→RepD h A e (u i j)) (hcap:xs.length≤cap) :
  RepD h A (.list xs) (.slice (some ⟨b,o,none⟩) xs.length cap)
 | fn (f:Fn) (caps:List D) (vs:Array Value) (hl:vs.size=caps.length)
  (hr:∀ (i:Nat) (c:D) (v:Value),caps[i]?=some c→vs[i]?=some v→RepD h A c v):RepD h A (.fn f caps) (.func f #[] vs)
 | ref (cs:List D) (b o:Nat) (u:Nat→Value) (hA:A b) (hc:∀ (j:Nat),j < cs.length→cellAt h b (o+j)=some (u j))
  (hr:∀ (j:Nat) (e:D),cs[j]?=some e→RepD h A e (u j)):RepD h A (.ref cs) (.pointer (some ⟨b,o,none⟩))
 | nilp:RepD h A .nilp (.pointer none)
 | nilf:RepD h A .nilf .nilFunc

theorem RepD.mono {h h':Array Obj} {A A':Nat→Prop} (hk:∀ b,A b→A' b∧h'[b]?=h[b]?) {d:D} {v:Value} (r:RepD h A d v):RepD h' A' d v:=by
 induction r with
 | int k n=>exact .int k n
 | bool b=>exact .bool b
 | str s=>exact .str s
 | empty a cap=>exact .empty a cap
 | list xs b o sz cap u hA hsz hlen hc hr hcap ih =>
  exact .list xs b o sz cap u (hk b hA).1 hsz hlen (fun i j hi hj=>by rw [cellAt_congr (hk b hA).2]; exact hc i j hi hj) ih hcap
 | fn f caps vs hl hr ih=>exact .fn f caps vs hl ih
 | ref cs b o u hA hc hr ih=>exact .ref cs b o u (hk b hA).1 (fun j hj=>by rw [cellAt_congr (hk b hA).2]; exact hc j hj) ih
 | nilp=>exact .nilp
 | nilf=>exact .nilf
theorem RepD.isCell {h:Array Obj} {A:Nat→Prop} {d:D} {v:Value} (r:RepD h A d v):Go.Proofs.YtkeddnagijjbaaaGreat.isCell v:=by cases r <;> trivial
theorem RepD.cells {h:Array Obj} {A:Nat→Prop} {d:D} {v:Value} (r:RepD h A d v):d.cells=[d]:=by cases r <;> rfl

inductive All2 {α β:Type} (R:α→β→Prop):List α→List β→Prop
 | nil:All2 R [] []
 | cons {a:α} {b:β} {as:List α} {bs:List β} (h:R a b) (t:All2 R as bs):All2 R (a::as) (b::bs)
namespace All2
variable {α β:Type} {R S:α→β→Prop}
theorem length {as:List α} {bs:List β} (h:All2 R as bs):as.length=bs.length:=by
 induction h with
 | nil=>rfl
 | cons _ _ ih=>simp [ih]
theorem mono {as:List α} {bs:List β} (h:All2 R as bs) (k:∀ a b,R a b→S a b):All2 S as bs:=by
 induction h with
 | nil=>exact .nil
 | cons h _ ih=>exact .cons (k _ _ h) ih
theorem get {as:List α} {bs:List β} (h:All2 R as bs) {i:Nat} {a:α} (hi:as[i]?=some a):∃ b,bs[i]?=some b∧R a b:=by
 induction h generalizing i with
 | nil=>simp at hi
 | cons h _ ih =>
  cases i with
  | zero=>simp at hi; subst hi; exact ⟨_,rfl,h⟩
  | succ i=>exact ih hi
theorem of_get {as:List α} {bs:List β} (hl:as.length=bs.length) (h:∀ (i:Nat) (a:α) (b:β),as[i]?=some a→bs[i]?=some b→R a b):All2 R as bs:=by
 induction as generalizing bs with
 | nil=>cases bs with
  | nil=>exact .nil
  | cons=>simp at hl
 | cons a as ih=>cases bs with
  | nil=>simp at hl
  | cons b bs=>exact .cons (h 0 a b rfl rfl) (ih (by simpa using hl) fun i x y hx hy=>h (i+1) x y hx hy)
theorem append {as as':List α} {bs bs':List β} (h:All2 R as bs) (k:All2 R as' bs'):All2 R (as++as') (bs++bs'):=by
 induction h with
 | nil=>exact k
 | cons h _ ih=>exact .cons h ih
theorem take {as:List α} {bs:List β} (h:All2 R as bs) (n:Nat):All2 R (as.take n) (bs.take n):=by
 induction h generalizing n with
 | nil=>simp; exact .nil
 | cons h _ ih=>cases n with
  | zero=>simp; exact .nil
  | succ n=>simp; exact .cons h (ih n)
theorem drop {as:List α} {bs:List β} (h:All2 R as bs) (n:Nat):All2 R (as.drop n) (bs.drop n):=by
 induction h generalizing n with
 | nil=>simp; exact .nil
 | cons h t ih=>cases n with
  | zero=>simp; exact .cons h t
  | succ n=>simp; exact ih n
theorem map {γ:Type} {T:γ→β→Prop} {f:α→γ} {as:List α} {bs:List β} (h:All2 R as bs) (k:∀ a b,R a b→T (f a) b):All2 T (as.map f) bs:=by
 induction h with
 | nil=>exact .nil
 | cons h _ ih=>exact .cons (k _ _ h) ih
end All2

abbrev Key:=Nat × Option Nat
instance:Coe Nat Key:=⟨fun n=>(n,none)⟩
abbrev Place:=Key→Option (Nat × Nat)

def Slot.part:Slot→Option Nat→Option Slot
 | sl,none=>some sl
 | .rows z rs br,some i=>match brGet br i with
  | none=>(rs[i]?).map (.vals z)
  | some _=>none
 | _,some _=>none
def live (m:Heap) (k:Key):Option Slot:=(m[k.1]?).bind fun sl=>sl.part k.2
def Owned (m:Heap) (β:Place) (b:Nat):Prop:=∃ (k:Key) (sl:Slot) (o:Nat),live m k=some sl∧sl≠.dead∧β k=some (b,o)
theorem live_s {m:Heap} {s:Nat}:live m (s:Key)=m[s]?:=by
 unfold live
 cases m[s]? <;> rfl
theorem Owned.mk {m:Heap} {β:Place} {s:Nat} {sl:Slot} {b o:Nat} (h1:m[s]?=some sl) (h2:sl≠.dead) (h3:β s=some (b,o)):Owned m β b:=⟨s,sl,o,live_s.trans h1,h2,h3⟩
theorem part_dead {x:Option Nat} {sl:Slot} (h:Slot.dead.part x=some sl):sl=.dead:=by
 cases x with
 | none=>exact (Option.some.inj h).symm
 | some i=>cases h
def Slot.flat:Slot→Prop
 | .rows ..=>False
 | _=>True
theorem Slot.flat.part {sl x:Slot} {i:Option Nat} (h:sl.flat) (e:sl.part i=some x):i=none∧x=sl:=by
 cases i with
 | none=>exact ⟨rfl,(Option.some.inj e).symm⟩
 | some i=>cases sl <;> first | exact h.elim | cases e
theorem part_ne {sl x:Slot} {i:Option Nat} (h:sl.part i=some x) (hx:x≠.dead):sl≠.dead:=by
 intro e; subst e; exact hx (part_dead h)
def Avail (F:Nat→Prop) (m:Heap) (β:Place) (h:Array Obj) (b:Nat):Prop:=b < h.size∧¬F b∧¬Owned m β b

def RepPtr (m:Heap) (β:Place) (s i j:Nat) (v:Value):Prop :=
 match m[s]? with
 | some (.vals z xs)=>i < xs.length∧∃ b o,β s=some (b,o)∧v=.pointer (some ⟨b,o+i*z.cells.length+j,none⟩)
 | some (.cells _)=>i=0∧∃ b o,β s=some (b,o)∧v=.pointer (some ⟨b,o+j,none⟩)
 | some (.rows _ rs _)=>i < rs.length∧∃ b o,β s=some (b,o)∧v=.pointer (some ⟨b,o+i+j,none⟩)
 | some .dead=>∃ b o,v=.pointer (some ⟨b,o,none⟩)
 | _=>False
def RepMp (m:Heap) (β:Place) (s:Nat) (v:Value):Prop :=
 match m[s]? with
 | some (.map _)=>∃ b o,β s=some (b,o)∧v=.map (some b)
 | some .dead=>isCell v
 | _=>False
def RepOwn (h:Array Obj) (m:Heap) (β:Place) (s off len:Nat) (v:Value):Prop :=
 match m[s]? with
 | some (.vals z xs)=>off+len≤xs.length∧((len=0∧∃ x,v=.slice x 0 0) ∨
  ∃ b o cap N,β s=some (b,o)∧v=.slice (some ⟨b,o+off*z.cells.length,none⟩) len cap∧len≤cap∧blkSize h b=some N∧o+off*z.cells.length+cap*z.cells.length≤N)
 | some (.rows _ rs _)=>off+len≤rs.length∧((len=0∧∃ x,v=.slice x 0 0) ∨
  ∃ b o cap N,β s=some (b,o)∧v=.slice (some ⟨b,o+off,none⟩) len cap∧len≤cap∧blkSize h b=some N∧o+off+cap≤N)
 | some .dead=>∃ x cap,v=.slice x len cap
 | _=>False
def RepCap (h:Array Obj) (A:Nat→Prop) (m:Heap) (β:Place):Cap→Value→Prop
 | .d x,v=>RepD h A x v
 | .p s,v=>RepPtr m β s 0 0 v
def RepC (h:Array Obj) (A:Nat→Prop) (m:Heap) (β:Place):C→Value→Prop
 | .d x,v=>RepD h A x v
 | .nil,v=>v=.slice none 0 0
 | .own s off len,v=>RepOwn h m β s off len v
 | .ptr s i j,v=>RepPtr m β s i j v
 | .mp s,v=>RepMp m β s v
 | .fn f caps,v=>∃ vs,v=.func f #[] vs∧All2 (RepCap h A m β) caps vs.toList
 | .dead,v=>isCell v
def RepV (h:Array Obj) (A:Nat→Prop) (m:Heap) (β:Place):V→Value→Prop
 | .one c,v=>RepC h A m β c v
 | .agg cs,v=>∃ vs,v=.agg vs∧All2 (RepC h A m β) cs vs.toList
 | .tup xs,v=>∃ vs,v=.tuple vs∧All2 (fun (x:Bool × List C) u=>if x.1 then ∃ us,u=.agg us∧All2 (RepC h A m β) x.2 us.toList else ∃ c,x.2=[c]∧RepC h A m β c u) xs vs.toList
 | .dead,_=>True

theorem RepPtr.ptr {m:Heap} {β:Place} {s i j:Nat} {v:Value} (r:RepPtr m β s i j v):∃ b o,v=.pointer (some ⟨b,o,none⟩):=by
 unfold RepPtr at r
 split at r
 · obtain ⟨_,b,o,_,rfl⟩:=r; exact ⟨_,_,rfl⟩
 · obtain ⟨_,b,o,_,rfl⟩:=r; exact ⟨_,_,rfl⟩
 · obtain ⟨_,b,o,_,rfl⟩:=r; exact ⟨_,_,rfl⟩
 · exact r
 · exact r.elim
theorem RepPtr.isCell {m:Heap} {β:Place} {s i j:Nat} {v:Value} (r:RepPtr m β s i j v):Go.Proofs.YtkeddnagijjbaaaGreat.isCell v:=by
 obtain ⟨b,o,rfl⟩:=r.ptr; trivial
theorem RepMp.isCell {m:Heap} {β:Place} {s:Nat} {v:Value} (r:RepMp m β s v):Go.Proofs.YtkeddnagijjbaaaGreat.isCell v:=by
 unfold RepMp at r
 split at r
 · obtain ⟨b,o,_,rfl⟩:=r; trivial
 · exact r
 · exact r.elim
theorem RepOwn.isCell {h:Array Obj} {m:Heap} {β:Place} {s i j:Nat} {v:Value} (r:RepOwn h m β s i j v):Go.Proofs.YtkeddnagijjbaaaGreat.isCell v:=by
 unfold RepOwn at r
 split at r
 · obtain ⟨_,⟨_,x,rfl⟩ | ⟨b,o,cap,N,_,rfl,_⟩⟩:=r <;> trivial
 · obtain ⟨_,⟨_,x,rfl⟩ | ⟨b,o,cap,N,_,rfl,_⟩⟩:=r <;> trivial
 · obtain ⟨x,cap,rfl⟩:=r; trivial
 · exact r.elim
theorem RepOwn.slice {h:Array Obj} {m:Heap} {β:Place} {s i j:Nat} {v:Value} (r:RepOwn h m β s i j v):∃ x cap,v=.slice x j cap:=by
 unfold RepOwn at r
 split at r
 · obtain ⟨_,⟨rfl,x,rfl⟩ | ⟨b,o,cap,N,_,rfl,_⟩⟩:=r
   · exact ⟨_,_,rfl⟩
   · exact ⟨_,_,rfl⟩
 · obtain ⟨_,⟨rfl,x,rfl⟩ | ⟨b,o,cap,N,_,rfl,_⟩⟩:=r
   · exact ⟨_,_,rfl⟩
   · exact ⟨_,_,rfl⟩
 · exact r
 · exact r.elim
theorem RepC.isCell {h:Array Obj} {A:Nat→Prop} {m:Heap} {β:Place} {c:C} {v:Value} (r:RepC h A m β c v):Go.Proofs.YtkeddnagijjbaaaGreat.isCell v:=by
 cases c with
 | d x=>exact RepD.isCell r
 | nil=>obtain rfl:v=_:=r; trivial
 | own s i j=>exact RepOwn.isCell r
 | ptr s i j=>exact RepPtr.isCell r
 | mp s=>exact RepMp.isCell r
 | fn f caps=>obtain ⟨vs,rfl,_⟩:=r; trivial
 | dead=>exact r

def Slot.like:Slot→Slot→Prop
 | .vals z xs,.vals z' xs'=>z=z'∧xs.length=xs'.length
 | .cells cs,.cells cs'=>cs.length=cs'.length
 | .rows z rs _,.rows z' rs' _=>z=z'∧rs.length=rs'.length
 | .map _,.map _=>True
 | .dead,.dead=>True
 | _,_=>False
theorem Slot.like.refl (s:Slot):s.like s:=by cases s <;> simp [Slot.like]
theorem Slot.like.trans {a b c:Slot} (h:a.like b) (k:b.like c):a.like c:=by
 cases a <;> cases b <;> first | exact h.elim | skip
 all_goals cases c <;> first | exact k.elim | simp_all [Slot.like]

abbrev OutTo (w w':World):Prop:=w'.output=w.output∧w.drawn≤w'.drawn
structure Evo (F:Nat→Prop) (m:Heap) (β:Place) (w:World) (m':Heap) (β':Place) (w':World):Prop where
 os:w'.os=w.os
 tape:w'.tape=w.tape
 output:OutTo w w'
 size:w.heap.size≤w'.heap.size
 av:∀ b,Avail F m β w.heap b→Avail F m' β' w'.heap b∧w'.heap[b]?=w.heap[b]?
 fo:∀ b,b < w.heap.size→F b→w'.heap[b]?=w.heap[b]?
 own:∀ b,Owned m' β' b→Owned m β b∨w.heap.size≤b
 evo:∀ (s:Nat) (sl:Slot),m[s]?=some sl→∃ sl',m'[s]?=some sl'∧(sl'=.dead∨(sl'.like sl∧β' s=β s∧∀ b o,β s=some (b,o)→blkSize w'.heap b=blkSize w.heap b))

theorem Evo.refl (F:Nat→Prop) (m:Heap) (β:Place) (w:World):Evo F m β w m β w :=
 ⟨rfl,rfl,⟨rfl,Nat.le_refl _⟩,Nat.le_refl _,fun _ h=>⟨h,rfl⟩,fun _ _ _=>rfl,fun _ h=>.inl h,fun s sl h=>⟨sl,h,.inr ⟨Slot.like.refl _,rfl,fun _ _ _=>rfl⟩⟩⟩
theorem Evo.trans {F:Nat→Prop} {m m1 m2:Heap} {β β1 β2:Place} {w w1 w2:World} (h:Evo F m β w m1 β1 w1) (k:Evo F m1 β1 w1 m2 β2 w2):Evo F m β w m2 β2 w2 where
 os:=k.os.trans h.os
 tape:=k.tape.trans h.tape
 output:=⟨k.output.1.trans h.output.1,Nat.le_trans h.output.2 k.output.2⟩
 size:=Nat.le_trans h.size k.size
 av:=fun b hb=>⟨(k.av b (h.av b hb).1).1,(k.av b (h.av b hb).1).2.trans (h.av b hb).2⟩
 fo:=fun b hb hf=>(k.fo b (Nat.lt_of_lt_of_le hb h.size) hf).trans (h.fo b hb hf)
 own:=fun b hb=>by
  rcases k.own b hb with h1 | h1
  · exact h.own b h1
  · exact .inr (Nat.le_trans h.size h1)
 evo:=fun s sl hs=>by
  obtain ⟨sl1,h1,h2⟩:=h.evo s sl hs
  obtain ⟨sl2,k1,k2⟩:=k.evo s sl1 h1
  refine ⟨sl2,k1,?_⟩
  rcases k2 with rfl | ⟨k2,k3,k4⟩
  · exact .inl rfl
  · rcases h2 with rfl | ⟨h2,h3,h4⟩
    · cases sl2 <;> simp [Slot.like] at k2; exact .inl rfl
    · exact .inr ⟨k2.trans h2,k3.trans h3,fun b o hb=>(k4 b o (h3.trans hb)).trans (h4 b o hb)⟩

theorem RepPtr.evo {F:Nat→Prop} {m m':Heap} {β β':Place} {w w':World} (k:Evo F m β w m' β' w') {s i j:Nat} {v:Value} (r:RepPtr m β s i j v):RepPtr m' β' s i j v:=by
 have ic:=r.ptr
 unfold RepPtr at r
 cases hs:m[s]? with
 | none=>simp only [hs] at r
 | some sl =>
  simp only [hs] at r
  obtain ⟨sl',h1,h2⟩:=k.evo s sl hs
  unfold RepPtr
  simp only [h1]
  rcases h2 with rfl | ⟨h2,h3,_⟩
  · exact ic
  · cases sl <;> cases sl' <;> simp [Slot.like] at h2 <;> simp only [] at r ⊢
    · obtain ⟨rfl,hl⟩:=h2; rw [h3,hl]; exact r
    · rw [h3]; exact r
    · obtain ⟨rfl,hl⟩:=h2; rw [h3,hl]; exact r
    · exact r
theorem RepMp.evo {F:Nat→Prop} {m m':Heap} {β β':Place} {w w':World} (k:Evo F m β w m' β' w') {s:Nat} {v:Value} (r:RepMp m β s v):RepMp m' β' s v:=by
 have ic:=r.isCell
 unfold RepMp at r
 cases hs:m[s]? with
 | none=>simp only [hs] at r
 | some sl =>
  simp only [hs] at r
  obtain ⟨sl',h1,h2⟩:=k.evo s sl hs
  unfold RepMp
  simp only [h1]
  rcases h2 with rfl | ⟨h2,h3,_⟩
  · exact ic
  · cases sl <;> cases sl' <;> simp [Slot.like] at h2 <;> simp only [] at r ⊢
    · rw [h3]; exact r
    · exact r
theorem RepOwn.evo {F:Nat→Prop} {m m':Heap} {β β':Place} {w w':World} (k:Evo F m β w m' β' w') {s i j:Nat} {v:Value} (r:RepOwn w.heap m β s i j v):RepOwn w'.heap m' β' s i j v:=by
 have ic:=r.slice
 unfold RepOwn at r
 cases hs:m[s]? with
 | none=>simp only [hs] at r
 | some sl =>
  simp only [hs] at r
  obtain ⟨sl',h1,h2⟩:=k.evo s sl hs
  unfold RepOwn
  simp only [h1]
  rcases h2 with rfl | ⟨h2,h3,h4⟩
  · exact ic
  · cases sl <;> cases sl' <;> simp [Slot.like] at h2 <;> simp only [] at r ⊢
    · obtain ⟨rfl,hl⟩:=h2
      rw [h3,hl]
      refine ⟨r.1,r.2.imp id ?_⟩
      rintro ⟨b,o,cap,N,e1,e2,e3,e4,e5⟩
      exact ⟨b,o,cap,N,e1,e2,e3,by rw [h4 b o e1]; exact e4,e5⟩
    · obtain ⟨rfl,hl⟩:=h2
      rw [h3,hl]
      refine ⟨r.1,r.2.imp id ?_⟩
      rintro ⟨b,o,cap,N,e1,e2,e3,e4,e5⟩
      exact ⟨b,o,cap,N,e1,e2,e3,by rw [h4 b o e1]; exact e4,e5⟩
    · exact r
theorem RepCap.evo {F:Nat→Prop} {m m':Heap} {β β':Place} {w w':World} (k:Evo F m β w m' β' w') {c:Cap} {v:Value}
 (r:RepCap w.heap (Avail F m β w.heap) m β c v):RepCap w'.heap (Avail F m' β' w'.heap) m' β' c v:=by
 cases c with
 | d x=>exact RepD.mono k.av r
 | p s=>exact RepPtr.evo k r
theorem RepC.evo {F:Nat→Prop} {m m':Heap} {β β':Place} {w w':World} (k:Evo F m β w m' β' w') {c:C} {v:Value}
 (r:RepC w.heap (Avail F m β w.heap) m β c v):RepC w'.heap (Avail F m' β' w'.heap) m' β' c v:=by
 cases c with
 | d x=>exact RepD.mono k.av r
 | nil=>exact r
 | own s i j=>exact RepOwn.evo k r
 | ptr s i j=>exact RepPtr.evo k r
 | mp s=>exact RepMp.evo k r
 | fn f caps=>obtain ⟨vs,e,h⟩:=r; exact ⟨vs,e,h.mono fun _ _=>RepCap.evo k⟩
 | dead=>exact r
theorem RepV.map {h h':Array Obj} {A A':Nat→Prop} {m m':Heap} {β β':Place} {f:C→C} (k:∀ c v,RepC h A m β c v→RepC h' A' m' β' (f c) v) {x:V} {v:Value}
 (r:RepV h A m β x v):RepV h' A' m' β' (x.mapC f) v:=by
 cases x with
 | one c=>exact k _ _ r
 | agg cs=>obtain ⟨vs,e,h⟩:=r; exact ⟨vs,e,h.map k⟩
 | tup xs =>
  obtain ⟨vs,e,h⟩:=r
  refine ⟨vs,e,h.map fun a b hab=>?_⟩
  obtain ⟨g,cs⟩:=a
  cases g with
  | true=>obtain ⟨us,e,h⟩:=hab; exact ⟨us,e,h.map k⟩
  | false=>obtain ⟨c,e,h⟩:=hab; exact ⟨f c,by simp at e; simp [e],k _ _ h⟩
 | dead=>trivial
theorem V.mapC_id (x:V):x.mapC (fun c=>c)=x:=by cases x <;> simp [V.mapC]
theorem RepV.evo {F:Nat→Prop} {m m':Heap} {β β':Place} {w w':World} (k:Evo F m β w m' β' w') {x:V} {v:Value}
 (r:RepV w.heap (Avail F m β w.heap) m β x v):RepV w'.heap (Avail F m' β' w'.heap) m' β' x v:=by
 have:=RepV.map (f:=fun c=>c) (fun c v (h:RepC w.heap (Avail F m β w.heap) m β c v)=>RepC.evo k h) r
 rwa [V.mapC_id] at this

def Lies (h:Array Obj) (A:Nat→Prop) (z:D) (xs:List D):Option (Nat × Nat)→Prop
 | none=>xs=[]
 | some (b,o)=>Plain h b∧∀ (i j:Nat) (d e:D),xs[i]?=some d→d.cells[j]?=some e→∃ v,cellAt h b (o+i*z.cells.length+j)=some v∧RepD h A e v
def Whole (h:Array Obj) (z:D) (n:Nat) (v:Value):Option (Nat × Nat)→Prop
 | none=>n=0∧∃ x,v=.slice x 0 0
 | some (b,o)=>∃ cap N,v=.slice (some ⟨b,o,none⟩) n cap∧n≤cap∧blkSize h b=some N∧o+cap*z.cells.length≤N
def Entries (h:Array Obj) (A:Nat→Prop) (es:List (Int × D)) (ents:Array MapEntry):Prop :=
 (∀ e∈ents.toList,∃ n,e.key=.int .i64 n)∧(∀ n,getM es n=none→∀ e∈ents.toList,e.key≠.int .i64 n) ∧
 ∀ n d,getM es n=some d→(∃ e∈ents.toList,e.key=.int .i64 n)∧∀ e∈ents.toList,e.key=.int .i64 n→RepD h A d e.val
theorem Entries.mono {h h':Array Obj} {A A':Nat→Prop} {es:List (Int × D)} {ents:Array MapEntry} (r:Entries h A es ents) (k:∀ b,A b→A' b∧h'[b]?=h[b]?):Entries h' A' es ents :=
 ⟨r.1,r.2.1,fun n d e=>⟨(r.2.2 n d e).1,fun x hx hk=>((r.2.2 n d e).2 x hx hk).mono k⟩⟩
def SlotRel (h:Array Obj) (A:Nat→Prop) (m:Heap) (β:Place) (s:Nat):Slot→Prop
 | .vals z xs=>0 < z.cells.length∧(∀ d∈xs,d.cells.length=z.cells.length)∧Lies h A z xs (β s)
 | .cells cs=>∃ b o,β s=some (b,o)∧Plain h b∧∀ (j:Nat) (c:C),cs[j]?=some c→∃ v,cellAt h b (o+j)=some v∧RepC h A m β c v
 | .rows z rs br=>0 < z.cells.length∧(∀ r∈rs,∀ d∈r,d.cells.length=z.cells.length)∧∃ b o,β s=some (b,o)∧Plain h b ∧
  ∀ (i:Nat) (r:List D),rs[i]?=some r→∃ v,cellAt h b (o+i)=some v∧match brGet br i with
   | some c=>RepC h A m β c v
   | none=>Lies h A z r (β (s,some i))∧Whole h z r.length v (β (s,some i))
 | .map es=>∃ b o,β s=some (b,o)∧∃ ents clock,h[b]?=some (.map ents clock)∧Entries h A es ents
 | .dead=>True

structure MemOK (F:Nat→Prop) (m:Heap) (β:Place) (h:Array Obj):Prop where
 slots:∀ s sl,m[s]?=some sl→SlotRel h (Avail F m β h) m β s sl
 injK:∀ (k l:Key) (sl tl:Slot) (b o o':Nat),live m k=some sl→sl≠.dead→live m l=some tl→tl≠.dead→β k=some (b,o)→β l=some (b,o')→k=l
 nf:∀ b,Owned m β b→¬F b
 fl:∀ b,F b→b < h.size
theorem MemOK.inj {F:Nat→Prop} {m:Heap} {β:Place} {h:Array Obj} (k:MemOK F m β h) (s t:Nat) (sl tl:Slot) (b o o':Nat) (h1:m[s]?=some sl) (h2:sl≠.dead) (h3:m[t]?=some tl) (h4:tl≠.dead)
 (h5:β s=some (b,o)) (h6:β t=some (b,o')):s=t:=congrArg Prod.fst (k.injK s t sl tl b o o' (live_s.trans h1) h2 (live_s.trans h3) h4 h5 h6)

theorem Lies.evo {F:Nat→Prop} {m m':Heap} {β β':Place} {w w':World} (k:Evo F m β w m' β' w') {z:D} {xs:List D} {p:Option (Nat × Nat)} (hb:∀ b o,p=some (b,o)→w'.heap[b]?=w.heap[b]?)
 (r:Lies w.heap (Avail F m β w.heap) z xs p):Lies w'.heap (Avail F m' β' w'.heap) z xs p:=by
 cases p with
 | none=>exact r
 | some p =>
  obtain ⟨b,o⟩:=p
  have e:=hb b o rfl
  refine ⟨r.1.congr e,fun i j d x hd hx=>?_⟩
  obtain ⟨v,hv,hr⟩:=r.2 i j d x hd hx
  exact ⟨v,by rw [cellAt_congr e]; exact hv,hr.mono k.av⟩
theorem Whole.same {h h':Array Obj} {z:D} {n:Nat} {v:Value} {p:Option (Nat × Nat)} (hb:∀ b o,p=some (b,o)→h'[b]?=h[b]?) (r:Whole h z n v p):Whole h' z n v p:=by
 cases p with
 | none=>exact r
 | some p =>
  obtain ⟨b,o⟩:=p
  obtain ⟨cap,N,e1,e2,e3,e4⟩:=r
  exact ⟨cap,N,e1,e2,by rw [blkSize_congr (hb b o rfl)]; exact e3,e4⟩
def Still (β β':Place) (s:Nat):Prop:=∀ i:Option Nat,β' (s,i)=β (s,i)
theorem SlotRel.evo {F:Nat→Prop} {m m':Heap} {β β':Place} {w w':World} (k:Evo F m β w m' β' w') {s:Nat} {sl:Slot} (hβ:Still β β' s)
 (hb:∀ (i:Option Nat) (x:Slot) (b o:Nat),sl.part i=some x→β (s,i)=some (b,o)→w'.heap[b]?=w.heap[b]?) (r:SlotRel w.heap (Avail F m β w.heap) m β s sl):SlotRel w'.heap (Avail F m' β' w'.heap) m' β' s sl:=by
 cases sl with
 | vals z xs =>
  obtain ⟨h1,h2,h3⟩:=r
  refine ⟨h1,h2,?_⟩
  rw [hβ none]
  exact h3.evo k fun b o e=>hb none _ b o rfl e
 | cells cs =>
  obtain ⟨b,o,e1,h1,h2⟩:=r
  have e:=hb none _ b o rfl e1
  refine ⟨b,o,(hβ none).trans e1,h1.congr e,fun j c hc=>?_⟩
  obtain ⟨v,hv,hr⟩:=h2 j c hc
  exact ⟨v,by rw [cellAt_congr e]; exact hv,hr.evo k⟩
 | rows z rs br =>
  obtain ⟨h0,h00,b,o,e1,h1,h2⟩:=r
  have e:=hb none _ b o rfl e1
  refine ⟨h0,h00,b,o,(hβ none).trans e1,h1.congr e,fun i r hr=>?_⟩
  obtain ⟨v,hv,hh⟩:=h2 i r hr
  refine ⟨v,by rw [cellAt_congr e]; exact hv,?_⟩
  cases hg:brGet br i with
  | some c=>simp only [hg] at hh ⊢; exact hh.evo k
  | none =>
   simp only [hg] at hh ⊢
   have same:∀ b o,β (s,some i)=some (b,o)→w'.heap[b]?=w.heap[b]?:=fun b o e=>hb (some i) (.vals z r) b o (by simp only [Slot.part,hg,hr,Option.map_some]) e
   rw [hβ (some i)]
   exact ⟨hh.1.evo k same,hh.2.same same⟩
 | map es =>
  obtain ⟨b,o,e1,ents,cl,h1,h2⟩:=r
  exact ⟨b,o,(hβ none).trans e1,ents,cl,(hb none _ b o rfl e1).trans h1,h2.mono k.av⟩
 | dead=>trivial

theorem MemOK.blkK {F:Nat→Prop} {m:Heap} {β:Place} {h:Array Obj} (k:MemOK F m β h) {l:Key} {sl:Slot} {b o:Nat} (hs:live m l=some sl) (hd:sl≠.dead) (hb:β l=some (b,o)):b < h.size:=by
 unfold live at hs
 obtain ⟨s0,h1,h2⟩:=Option.bind_eq_some_iff.1 hs
 obtain ⟨s,i⟩:=l
 simp only at h1 h2
 have:=k.slots s s0 h1
 cases i with
 | none =>
  cases h2
  cases sl with
  | vals z xs=>have h3:=this.2.2; simp only [hb,Lies] at h3; exact h3.1.lt
  | cells cs=>obtain ⟨b',o',e,h1,_⟩:=this; rw [hb] at e; cases e; exact h1.lt
  | rows z rs br=>obtain ⟨_,_,b',o',e,h1,_⟩:=this; rw [hb] at e; cases e; exact h1.lt
  | map es=>obtain ⟨b',o',e,ents,cl,h1,_⟩:=this; rw [hb] at e; cases e; exact (Array.getElem?_eq_some_iff.1 h1).1
  | dead=>exact absurd rfl hd
 | some i =>
  cases s0 with
  | rows z rs br =>
   obtain ⟨_,_,b',o',e,h3,h4⟩:=this
   simp only [Slot.part] at h2
   cases hg:brGet br i with
   | some c=>simp only [hg] at h2; cases h2
   | none =>
    simp only [hg] at h2
    cases hr:rs[i]? with
    | none=>rw [hr] at h2; cases h2
    | some r =>
     obtain ⟨v,hv,hh⟩:=h4 i r hr
     simp only [hg,hb,Lies] at hh
     exact hh.1.1.lt
  | _=>cases h2
theorem MemOK.blk_lt {F:Nat→Prop} {m:Heap} {β:Place} {h:Array Obj} (k:MemOK F m β h) {s:Nat} {sl:Slot} {b o:Nat} (hs:m[s]?=some sl) (hd:sl≠.dead) (hb:β s=some (b,o)):b < h.size:=k.blkK (live_s.trans hs) hd hb
theorem MemOK.owned {F:Nat→Prop} {m:Heap} {β:Place} {h:Array Obj} (k:MemOK F m β h) {b:Nat} (ho:Owned m β b):b < h.size:=by
 obtain ⟨s,sl,o,hs,hd,hb⟩:=ho; exact k.blkK hs hd hb
end

section
def constC:Value→Option C
 | .int k n=>some (.d (.int k n))
 | .bool b=>some (.d (.bool b))
 | .string s=>some (.d (.str s))
 | .slice none 0 0=>some .nil
 | .pointer none=>some (.d .nilp)
 | .nilFunc=>some (.d .nilf)
 | .map none=>some .dead
 | .nilIface=>some .dead
 | _=>none
def constCs:List Value→Option (List C)
 | []=>some []
 | v::r=>(constC v).bind fun c=>(constCs r).bind fun cs=>some (c::cs)
def constV:Value→Option V
 | .agg cs=>(constCs cs.toList).map .agg
 | v=>(constC v).map .one
def trArg:Operand→Option Arg
 | .tmp t=>some (.t t)
 | .const v=>(constV v).map .k
 | .func f=>some (.f f)
 | .global _=>none
def trArgs:List Operand→Option (List Arg)
 | []=>some []
 | x::r=>(trArg x).bind fun y=>(trArgs r).bind fun ys=>some (y::ys)
def trOpt:Option Operand→Option (Option Arg)
 | none=>some none
 | some x=>(trArg x).map some

def zVal (P:Program) (T:TypeId):Option Value:=(P.info? T).bind (·.zero)
def zC (P:Program) (T:TypeId):Option (List C):=(zVal P T).bind fun v=>constCs v.cells.toList
def zD (P:Program) (T:TypeId):Option D :=
 (zVal P T).bind fun v=>match v with
 | .agg cs=>((constCs cs.toList).bind cellsD).map .agg
 | v=>(constC v).bind cellD
def szT (P:Program) (T:TypeId):Option Nat:=(P.info? T).map (·.size)
def aggT (P:Program) (T:TypeId):Option Bool:=(P.underlying T).map fun d=>match d with | .struct _ | .array _ _=>true | _=>false
def elT (P:Program) (T:TypeId):Option (Nat × Nat × D) :=
 (P.info? T).bind fun i=>(zD P T).bind fun z=>if z.cells.length=i.size∧0 < i.size∧i.bytes≤16384 then some (i.size,i.bytes,z) else none

def kindT (P:Program) (T:TypeId):Option Nat:=match P.underlying T with
 | some (.int _)=>some 0
 | some .bool=>some 1
 | some .string=>some 2
 | _=>none
def flatFs (f:TypeId→Option (List Nat)):List Field→Nat→Option (List Nat)
 | [],_=>some []
 | x :: r, o => if x.name ≠ "_" ∧ x.offset = o then (f x.type).bind fun ks => (flatFs f r (o + ks.length)).map (ks ++ ·) else none
def flatT (P:Program):Nat→TypeId→Option (List Nat)
 | 0,_=>none
 | d+1,T=>match kindT P T with
  | some k=>if szT P T=some 1 then some [k] else none
  | none=>match P.underlying T with
   | some (.struct fs)=>if P.stoodInHeld T then none else (flatFs (flatT P d) fs.toList 0).bind fun ks=>if szT P T=some ks.length then some ks else none
   | _=>none

def eqV0:Value→Value→Bool
 | .int k n,.int k' n'=>k == k' && n == n'
 | .bool b,.bool b'=>b == b'
 | .slice none 0 0,.slice none 0 0=>true
 | .pointer none,.pointer none=>true
 | .nilFunc,.nilFunc=>true
 | _,_=>false
def eqVs:List Value→List Value→Bool
 | [],[]=>true
 | a::as,b::bs=>eqV0 a b && eqVs as bs
 | _,_=>false

def fieldsAt (P:Program) (fs:Array Field):List (Nat × Operand)→Option (List (Nat × Nat × Arg))
 | []=>some []
 | (i,x)::r=>(fs[i]?).bind fun f=>(szT P f.type).bind fun n=>(trArg x).bind fun y=>(fieldsAt P fs r).bind fun ys=>some ((f.offset,n,y)::ys)
def elemsAt (len:Nat):List (Nat × Operand)→Option (List (Nat × Arg))
 | []=>some []
 | (i,x)::r=>if i < len then (trArg x).bind fun y=>(elemsAt len r).bind fun ys=>some ((i,y)::ys) else none
def arrAt (len sz:Nat):List (Nat × Operand)→Option (List (Nat × Nat × Arg))
 | []=>some []
 | (i,x)::r=>if i < len then (trArg x).bind fun y=>(arrAt len sz r).bind fun ys=>some ((i*sz,sz,y)::ys) else none

def rowT (P:Program) (e:TypeId):Option D:=(elT P e).bind fun z=>match zVal P e with
 | some (.slice none 0 0)=>if z.1=1 then (match P.underlying e with | some (.slice i)=>(elT P i).map (·.2.2) | _=>none) else none
 | _=>none
def trOp (P:Program) (o:Op) (m:MOp):Option MOp :=
 match o with
 | .move x | .assign x=>(trArg x).map .mov
 | .nilCheck x=>(trArg x).map .nilc
 | .pick c a b=>(trArg c).bind fun c=>(trArg a).bind fun a=>(trArg b).map fun b=>.pick c a b
 | .binOp op T x y _=>(trArg x).bind fun x'=>(trArg y).bind fun y' =>
  match m with
  | .isn _ _=>match P.underlying T,y,op with
   | some (.slice _),.const (.slice none 0 0),.eql=>some (.isn false x')
   | some (.slice _),.const (.slice none 0 0),.neq=>some (.isn true x')
   | _,_,_=>none
  | .eqs _ _ _ _ _=>(flatT P 6 T).bind fun ks=>(aggT P T).bind fun g=>if P.eqGuardType P.depth T then none else match op with
   | .eql=>some (.eqs false g ks x' y')
   | .neq=>some (.eqs true g ks x' y')
   | _=>none
  | _=>some (.bin op x' y')
 | .unOp op _ x=>match op with
  | .not=>(trArg x).map .not
  | .neg=>(trArg x).map .neg
  | _=>none
 | .convert src dst x=>match P.underlying src,P.underlying dst with
  | some _,some (.int k)=>(trArg x).map (.conv k)
  | _,_=>none
 | .alloc T=>match m with
  | .allocA (.int .i64 _) N=>(zVal P T).bind fun z=>if eqVs z.cells.toList (List.replicate N (.int .i64 0)) && N != 0 then some (.allocA (.int .i64 0) N) else none
  | .allocA _ _=>match P.underlying T with
   | some (.array n e)=>(elT P e).bind fun x=>(zVal P T).bind fun z=>(zVal P e).bind fun ze =>
    if eqVs z.cells.toList (List.replicate n ze.cells.toList).flatten && n != 0 then some (.allocA x.2.2 n) else none
   | _=>none
  | _=>(zC P T).map .alloc
 | .box _ x=>(trArg x).map .box
 | .build T parts=>match P.underlying T with
  | some (.struct fs)=>(zC P T).bind fun z=>if fs.toList.all (fun f=>(szT P f.type).isSome) then (fieldsAt P fs parts.toList).map (.build z) else none
  | some (.array n e)=>(zC P T).bind fun z=>(szT P e).bind fun s=>(arrAt n s parts.toList).map (.build z)
  | _=>none
 | .buildSlice T len parts=>match P.underlying T with
  | some (.slice e)=>match m with
   | .litR ..=>(rowT P e).bind fun z=>if len≤2 ^ 24 then (elemsAt len parts.toList).map (.litR z len) else none
   | _=>(elT P e).bind fun x=>if len*x.1≤2 ^ 24 then (elemsAt len parts.toList).map (.lit (match m with | .lit d _ _ _=>d | _=>false) x.2.2 len) else none
  | _=>none
 | .load T a=>match m with
  | .lend _=>(szT P T).bind fun n=>(aggT P T).bind fun g=>if g=false∧n=1 then (trArg a).map .lend else none
  | _=>(szT P T).bind fun n=>(aggT P T).bind fun g=>if g=false∧n≠1 then none else (trArg a).map (.load n g)
 | .store T a x=>(szT P T).bind fun n=>if n=0 then none else (trArg a).bind fun a=>(trArg x).map (.store n a)
 | .fieldAddr T x f=>match P.underlying T with
  | some (.struct fs)=>(fs[f]?).bind fun fd=>(szT P fd.type).bind fun n=>if n=0 then none else (trArg x).map (.faddr fd.offset)
  | _=>none
 | .field T x f=>match P.underlying T with
  | some (.struct fs)=>(fs[f]?).bind fun fd=>(szT P fd.type).bind fun n=>(aggT P fd.type).bind fun g=>if g=false∧n≠1 then none else (trArg x).map (.field fd.offset n g)
  | _=>none
 | .index T x i=>match P.underlying T with
  | some .string=>(trArg x).bind fun x=>(trArg i).map (.sidx x)
  | some (.array n e)=>(szT P e).bind fun s=>(aggT P e).bind fun g=>if g=false∧s≠1 then none else (trArg x).bind fun x=>(trArg i).map (.vidx n s g x)
  | _=>none
 | .indexAddr T x i=>match P.underlying T with
  | some (.slice e)=>(elT P e).bind fun z=>(trArg x).bind fun x=>(trArg i).map (.iaddr z.2.2 x)
  | some (.array n e)=>(szT P e).bind fun s=>(trArg x).bind fun x=>(trArg i).map (match m with | .aflat ..=>.aflat n s x | _=>.aaddr n s x)
  | _=>none
 | .slice T x lo hi mx=>match P.underlying T with
  | some (.slice e)=>(elT P e).bind fun z=>(trArg x).bind fun x=>(trOpt lo).bind fun lo=>(trOpt hi).bind fun hi=>(trOpt mx).map (.slice z.1 x lo hi)
  | _=>none
 | .makeSlice T l c=>match P.underlying T with
  | some (.slice e)=>match m with
   | .mkrows ..=>(rowT P e).bind fun z=>(trArg l).bind fun l=>(trArg c).map (.mkrows z l)
   | _=>(elT P e).bind fun z=>(trArg l).bind fun l=>(trArg c).map (.mkslice z.2.2 l)
  | _=>none
 | .extract x i=>(trArg x).map fun x=>.ext x i
 | .makeMap T none=>match P.underlying T with
  | some (.map K _)=>match P.underlying K with
   | some (.int .i64)=>some .mkmap
   | _=>none
  | _=>none
 | .insert T x k v=>match P.underlying T with
  | some (.map K _)=>match P.underlying K with
   | some (.int .i64)=>(trArg x).bind fun x=>(trArg k).bind fun k=>(trArg v).map (.insert x k)
   | _=>none
  | _=>none
 | .lookup T x k false=>match P.underlying T with
  | some (.map K _)=>match P.underlying K with
   | some (.int .i64)=>(trArg x).bind fun x=>(trArg k).map (.lookup x)
   | _=>none
  | _=>none
 | .makeFunc f first caps=>if first.isEmpty then (trArgs caps.toList).map (.mkfn f) else none
 | .call c=>match c.callee with
  | .builtin .len=>match c.args.toList,c.argTypes.toList with
   | [x],[T]=>match P.underlying T with
    | some (.slice _)=>(trArg x).map (.len false)
    | some .string=>(trArg x).map (.len true)
    | _=>none
   | _,_=>none
  | .builtin .min=>(trArgs c.args.toList).map .min
  | .builtin .max=>(trArgs c.args.toList).map .max
  | .builtin .append=>match c.args.toList,c.argTypes.toList with
   | [x,y],[T,U]=>match P.underlying T,P.underlying U with
    | some (.slice e),some (.slice _)=>match m with
     | .appendR ..=>(rowT P e).bind fun _=>(trArg x).bind fun x=>(trArg y).map (.appendR x)
     | _=>(elT P e).bind fun z=>(trArg x).bind fun x=>(trArg y).map (.append z.2.2 x)
    | _,_=>none
   | _,_=>none
  | .value (.func g)=>(trArgs c.args.toList).map fun xs=>match m with | .view ..=>.view g xs | .viewO ..=>.viewO g xs | .call p _ _=>.call p g xs | _=>.call false g xs
  | .value (.tmp t)=>(trArgs c.args.toList).map (.callv (.t t))
  | _=>none
 | _=>none

def guardOk (ops:Array Oper) (o:Oper) (g:Option (Nat × Bool)):Bool :=
 match o.guard,g with
 | none,none=>true
 | some (j,w),some (t,w')=>w == w' && ((ops[j]?).bind (·.dst)) == some t
 | _,_=>false
def dstOk (N:Nat) (d:Option Nat):Bool:=match d with | some t=>t < N | none=>true

mutual
def trI (P:Program) (N:Nat) (ops:Array Oper) (g:Option (Nat × Bool)):MI→List Oper→Option (MI × List Oper)
 | .op _ m,o::rest=>if guardOk ops o g && dstOk N o.dst then (trOp P o.op m).map fun m'=>(.op o.dst m',rest) else none
 | .op _ _,[]=>none
 | .sc t want body _ e r,rest=>(trIs P N ops (some (t,want)) body rest).bind fun x =>
  match x.2 with
  | o::rest2=>if guardOk ops o g && dstOk N o.dst then
   match o.dst,o.op with
   | some d,.pick c a b=>match trArg c,trArg a,trArg b with
    | some (.t t'),some a',some b'=>if t'=t then some (.sc t want x.1 d (if want then b' else a') (if want then a' else b'),rest2) else none
    | _,_,_=>none
   | _,_=>none
   else none
  | []=>none
def trIs (P:Program) (N:Nat) (ops:Array Oper) (g:Option (Nat × Bool)):List MI→List Oper→Option (List MI × List Oper)
 | [],rest=>some ([],rest)
 | i::is,rest=>(trI P N ops g i rest).bind fun x=>(trIs P N ops g is x.2).bind fun y=>some (x.1::y.1,y.2)
end

mutual
def flatI (g:Option (Nat × Bool)):MI→List FI
 | .op dst o=>[⟨g,dst,o⟩]
 | .sc t want body dst e r=>flatIs (some (t,want)) body++[⟨g,some dst,.pick (.t t) (if want then r else e) (if want then e else r)⟩]
def flatIs (g:Option (Nat × Bool)):List MI→List FI
 | []=>[]
 | i::is=>flatI g i++flatIs g is
end

def drawOk (ops:Array Oper) (is:List FI):Bool :=
 let b:=Region.before ops
 ((List.range is.length).all fun j=>(List.range j).all fun i=>(b.getD j 0).testBit i || (is.getD i default).comm (is.getD j default)) &&
 (List.range is.length).all fun j=>match ops[j]? with
  | some o=>o.after.all fun e=>!Region.binds .any e || decide (e.on < j)
  | none=>true
theorem drawOk_spec {ops:Array Oper} {is:List FI} (h:drawOk ops is=true) :
 (∀ (j:Nat),j < is.length→∀ (i:Nat),i < j→((Region.before ops).getD j 0).testBit i=true∨(is.getD i default).comm (is.getD j default)=true) ∧
 ∀ (j:Nat) (o:Oper),j < is.length→ops[j]?=some o→∀ e∈o.after,Region.binds .any e=true→e.on < j:=by
 unfold drawOk at h
 simp only [Bool.and_eq_true,List.all_eq_true,List.mem_range,Bool.or_eq_true] at h
 refine ⟨fun j hj i hi=>h.1 j hj i hi,fun j o hj ho e he hb=>?_⟩
 have:=h.2 j hj
 rw [ho] at this
 simp only [Array.all_eq_true_iff_forall_mem,Bool.or_eq_true,Bool.not_eq_true',decide_eq_true_eq] at this
 exact (this e he).resolve_left (by simp [hb])

mutual
def MI.dsts:MI→List Nat
 | .op d _=>d.toList
 | .sc _ _ body d _ _=>d::dstsL body
def dstsL:List MI→List Nat
 | []=>[]
 | i::is=>i.dsts++dstsL is
end
def none_of (ts S:List Nat):Bool:=ts.all fun t=>!S.contains t
mutual
def okI (top:Bool) (W S:List Nat):MI→Option (List Nat × List Nat)
 | .op d o=>if none_of o.tmps S then some (d.toList++W,S.filter fun u=>d != some u) else none
 | .sc t _ body d e r =>
  if (top || W.contains t) && none_of [t] (S++dstsL body) && none_of e.tmp? (S++dstsL body) then
   (okIs false [] S body).bind fun x=>if none_of r.tmp? x.2 then some (d::W,(S++dstsL body).filter (· != d)) else none
  else none
def okIs (top:Bool) (W S:List Nat):List MI→Option (List Nat × List Nat)
 | []=>some (W,S)
 | i::is=>(okI top W S i).bind fun x=>okIs top x.1 x.2 is
end
def okReg (is:List MI) (gh:List Ghost):Bool :=
 match okIs true [] [] is with
 | some (_,[])=>true
 | some (_,S)=>match gh with
  | .keep ts::_=>none_of ts S
  | _=>false
 | none=>false

def trD (P:Program) (N:Nat) (ops:Array Oper):List FI→List (List Nat)→List Oper→Option (List FI)
 | [],[],[]=>some []
 | i::is,p::ps,o::os =>
  if guardOk ops o i.g && dstOk N o.dst && (o.after.toList.filterMap fun e=>if Region.binds .any e then some e.on else none) == p then
   (trOp P o.op i.o).bind fun m=>(trD P N ops is ps os).bind fun r=>some (⟨i.g,o.dst,m⟩::r)
  else none
 | _,_,_=>none
def callvOp (o:Op):Bool:=match o with
 | .call c=>match c.callee with
  | .value (.tmp _)=>true
  | _=>false
 | _=>false
def yldOk (ops:Array Oper) (y:Nat):Bool :=
 let b:=Region.before ops
 (List.range ops.size).all fun i=>(List.range i).all fun j=>!(decide (j≤y) && decide (y≤i)) || (b.getD i 0).testBit j
theorem yldOk_spec {ops:Array Oper} {y:Nat} (h:yldOk ops y=true):∀ i j,i < ops.size→j < i→j≤y→y≤i→((Region.before ops).getD i 0).testBit j=true:=by
 unfold yldOk at h
 simp only [List.all_eq_true,List.mem_range,Bool.or_eq_true,Bool.not_eq_true',Bool.and_eq_false_iff,decide_eq_false_iff_not] at h
 intro i j hi hj h1 h2
 rcases h i hi j hj with (h | h) | h
 · exact absurd h1 h
 · exact absurd h2 h
 · exact h
def trCode (P:Program) (N:Nat):Code→MCode→Option MCode
 | _,.bad=>some .bad
 | c,.gh gs y=>(trCode P N c y).map (.gh gs)
 | .skip,.skip=>some .skip
 | .label _,.skip=>some .skip
 | .region _ ops draw,.reg is gh=>(trIs P N ops none is ops.toList).bind fun x =>
  match x.2 with
  | []=>if okReg x.1 gh && (!draw || drawOk ops (flatIs none x.1)) then some (.reg x.1 gh) else none
  | _=>none
 | .region _ ops true,.regD is pre gh=>(trD P N ops is pre ops.toList).map fun is'=>.regD is' pre gh
 | .seq a b,.seq a' b'=>(trCode P N a a').bind fun x=>(trCode P N b b').map fun y=>.seq x y
 | .cond (.tmp t) a b,.cond _ a' b'=>(trCode P N a a').bind fun x=>(trCode P N b b').map fun y=>.cond t x y
 | .cond (.const (.bool true)) a _,.scope y=>(trCode P N a y).map .scope
 | .cond (.const (.bool false)) _ b,.scope y=>(trCode P N b y).map .scope
 | .block id a,.block _ a'=>(trCode P N a a').map (.block id)
 | .loop a,.loop a'=>(trCode P N a a').map .loop
 | .scope a,.scope a'=>(trCode P N a a').map .scope
 | .exit id,.exit _=>some (.exit id)
 | .ret,.ret=>some .ret
 | .region _ ops draw,.yld is pre y gh=>(trD P N ops is pre ops.toList).bind fun is'=>if (!draw || (drawOk ops is' && yldOk ops y)) && (match ops[y]? with | some o=>callvOp o.op | none=>false) then some (.yld is' pre y gh) else none
 | .rangeFunc f ps a b,.rangef _ _ a' b' gh=>(trArg f).bind fun x=>(trCode P N a a').bind fun y=>(trCode P N b b').bind fun z=>if ps.toList.all (· < N) then some (.rangef x ps.toList y z gh) else none
 | _,_=>none

theorem trCode_const {P:Program} {N:Nat} {v:Value} {a b:Code} {mc mc':MCode} (h:trCode P N (.cond (.const v) a b) mc=some mc') (hb:mc≠.bad) (hg:∀ gs y,mc≠.gh gs y) :
 ∃ t m m',v=.bool t∧mc=.scope m∧mc'=.scope m'∧trCode P N (if t then a else b) m=some m':=by
 cases mc with
 | scope m =>
  cases v with
  | bool t =>
   cases t <;> simp only [trCode] at h <;> (obtain ⟨m',h1,h2⟩:=Option.map_eq_some_iff.1 h; exact ⟨_,m,m',rfl,rfl,h2.symm,by simpa using h1⟩)
  | _=>simp [trCode] at h
 | bad=>exact absurd rfl hb
 | gh gs y=>exact absurd rfl (hg _ _)
 | _=>simp [trCode] at h

def trRes (P:Program):ResultVar→Option MRes
 | .tmp t=>some (.tmp t)
 | .cell a T=>(szT P T).bind fun n=>(aggT P T).bind fun g=>if g=false∧n≠1 then none else some (.cell a n g)
def trResL (P:Program):List ResultVar→Option (List MRes)
 | []=>some []
 | x::r=>(trRes P x).bind fun y=>(trResL P r).bind fun ys=>some (y::ys)
def trFn (P:Program) (f:FuncId) (fn:MFn):Option MFn :=
 (P.funcs[f]?).bind fun pf=>pf.body.bind fun c =>
  if pf.name == "runtime.NumGoroutine" then none else
  if fn.np≤pf.ntmps∧fn.rf.length=pf.results.size then
   (trResL P pf.results.toList).bind fun res=>(trCode P pf.ntmps c fn.code).map fun code=>⟨pf.ntmps,fn.np,res,fn.rf,code⟩
  else none
end

section
variable {P:Program}

theorem Env.get_put:∀ (e:Env) (t:Nat) (v:V) (t':Nat),(e.put t v).get t'=if t'=t then v else e.get t'
 | [],t,v,t'=>by
  simp only [Env.put,Env.get]
  by_cases h:t=t'
  · subst h; simp
  · simp [h]; intro h'; exact absurd h'.symm h
 | (k,u)::r,t,v,t'=>by
  simp only [Env.put]
  split
  · simp only [Env.get]
    by_cases h:t=t'
    · subst h; simp
    · simp [h]; intro h'; exact absurd h'.symm h
  · split
    · rename_i h1 h2
      subst h2
      simp only [Env.get]
      by_cases h:t=t'
      · subst h; simp
      · simp only [if_neg h]; rw [if_neg (fun h'=>h h'.symm)]
    · rename_i h1 h2
      simp only [Env.get]
      rw [Env.get_put r t v t']
      by_cases h:k=t'
      · subst h; simp; intro h'; exact absurd h'.symm h2
      · simp [h]
theorem Env.get_keep (ts:List Nat):∀ (e:Env) (t:Nat),(keepE ts e).get t=e.get t∨(keepE ts e).get t=.dead
 | [],_=>.inl rfl
 | (k,v)::r,t=>by
  simp only [keepE]
  have ih:=Env.get_keep ts r t
  split
  · simp only [Env.get]
    split
    · exact .inl rfl
    · exact ih
  · rename_i hk
    rcases ih with ih | ih
    · simp only [Env.get]
      split
      · rename_i e
        subst e
        right
        clear ih
        induction r with
        | nil=>rfl
        | cons x r ih =>
         obtain ⟨k',v'⟩:=x
         simp only [keepE]
         split
         · rename_i h1
           simp only [Env.get]
           rw [if_neg (fun e=>hk (by rw [←e]; exact h1))]
           exact ih
         · exact ih
      · exact .inl ih
    · exact .inr ih
theorem Env.get_drop (d:Nat):∀ (e:Env) (t:Nat),(dropE d e).get t=e.get t∨(dropE d e).get t=.dead
 | [],_=>.inl rfl
 | (k,v)::r,t=>by
  simp only [dropE]
  have ih:=Env.get_drop d r t
  split
  · rename_i hk
    subst hk
    rcases ih with ih | ih
    · simp only [Env.get]
      split
      · rename_i e
        subst e
        right
        clear ih
        induction r with
        | nil=>rfl
        | cons x r ih =>
         obtain ⟨k',v'⟩:=x
         simp only [dropE]
         split
         · exact ih
         · rename_i h1
           simp only [Env.get]
           rw [if_neg h1]
           exact ih
      · exact .inl ih
    · exact .inr ih
  · simp only [Env.get]
    split
    · exact .inl rfl
    · exact ih
theorem Env.get_map (f:V→V) (hf:f .dead=.dead):∀ (e:Env) (t:Nat),Env.get (e.map fun x=>(x.1,f x.2)) t=f (e.get t)
 | [],_=>hf.symm
 | (k,v)::r,t=>by
  simp only [List.map_cons,Env.get]
  split
  · rfl
  · exact Env.get_map f hf r t

def EnvOK (h:Array Obj) (A:Nat→Prop) (m:Heap) (β:Place) (e:Env) (a:Act):Prop:=∀ t,RepV h A m β (e.get t) (a.tmps.getD t undef)

theorem EnvOK.put {h:Array Obj} {A:Nat→Prop} {m:Heap} {β:Place} {e:Env} {a:Act} (k:EnvOK h A m β e a) {t:Nat} {v:V} {u:Value} (ht:t < a.tmps.size)
 (r:RepV h A m β v u):EnvOK h A m β (e.put t v) (a.put (some t) u):=by
 intro t'
 rw [Env.get_put]
 simp only [Act.put]
 by_cases c:t'=t
 · subst c; simp [ht]; exact r
 · rw [if_neg c]
   have:(a.tmps.setIfInBounds t u).getD t' undef=a.tmps.getD t' undef:=by
    simp [Array.getD_eq_getD_getElem?,Array.getElem?_setIfInBounds_ne (fun e=>c e.symm)]
   rw [this]; exact k t'
theorem EnvOK.evo {F:Nat→Prop} {m m':Heap} {β β':Place} {w w':World} {e:Env} {a:Act} (k:Evo F m β w m' β' w')
 (h:EnvOK w.heap (Avail F m β w.heap) m β e a):EnvOK w'.heap (Avail F m' β' w'.heap) m' β' e a:=fun t=>RepV.evo k (h t)

theorem RepC_const {h:Array Obj} {A:Nat→Prop} {m:Heap} {β:Place} {v:Value} {c:C} (e:constC v=some c):RepC h A m β c v:=by
 unfold constC at e
 split at e <;> first | cases e | skip
 · exact .int _ _
 · exact .bool _
 · exact .str _
 · rfl
 · exact .nilp
 · exact .nilf
 all_goals trivial
theorem RepCs_const {h:Array Obj} {A:Nat→Prop} {m:Heap} {β:Place}:∀ {vs:List Value} {cs:List C},constCs vs=some cs→All2 (RepC h A m β) cs vs
 | [],cs,e=>by simp only [constCs] at e; cases e; exact .nil
 | v::r,cs,e=>by
  simp only [constCs] at e
  cases h1:constC v with
  | none=>simp [h1] at e
  | some c =>
   cases h2:constCs r with
   | none=>simp [h1,h2] at e
   | some cs' =>
    simp [h1,h2] at e
    subst e
    exact .cons (RepC_const h1) (RepCs_const h2)
theorem RepV_const {h:Array Obj} {A:Nat→Prop} {m:Heap} {β:Place} {v:Value} {x:V} (e:constV v=some x):RepV h A m β x v:=by
 unfold constV at e
 split at e
 · rename_i cs
   cases h1:constCs cs.toList with
   | none=>simp [h1] at e
   | some l=>simp [h1] at e; subst e; exact ⟨cs,rfl,RepCs_const h1⟩
 · rename_i v _
   obtain ⟨c,h1,rfl⟩:=Option.map_eq_some_iff.1 e
   exact RepC_const h1
theorem Rep_arg {h:Array Obj} {A:Nat→Prop} {σ:St} {β:Place} {a:Act} {x:Operand} {y:Arg} (k:EnvOK h A σ.mem β σ.env a) (e:trArg x=some y) :
 RepV h A σ.mem β (σ.arg y) (a.eval x):=by
 unfold trArg at e
 split at e <;> first | cases e | skip
 · exact k _
 · rename_i v
   cases h1:constV v with
   | none=>simp [h1] at e
   | some c=>simp [h1] at e; subst e; exact RepV_const h1
 · exact ⟨#[],rfl,.nil⟩

theorem c?_some {v:V} {c:C} (e:v.c?=some c):v=.one c:=by cases v <;> simp [V.c?] at e; subst e; rfl
theorem int?_some {v:V} {p:IntKind × Int} (e:v.int?=some p):v=.int p.1 p.2:=by
 unfold V.int? at e
 split at e
 · cases e; rfl
 · cases e
theorem bool?_some {v:V} {p:Bool} (e:v.bool?=some p):v=.bool p:=by
 unfold V.bool? at e
 split at e
 · cases e; rfl
 · cases e
theorem Rep_int {h:Array Obj} {A:Nat→Prop} {m:Heap} {β:Place} {x:V} {v:Value} {p:IntKind × Int} (r:RepV h A m β x v) (e:x.int?=some p):v=.int p.1 p.2:=by
 rw [int?_some e] at r
 have r:RepD h A (.int p.1 p.2) v:=r
 cases r; rfl
theorem Rep_bool {h:Array Obj} {A:Nat→Prop} {m:Heap} {β:Place} {x:V} {v:Value} {p:Bool} (r:RepV h A m β x v) (e:x.bool?=some p):v=.bool p:=by
 rw [bool?_some e] at r
 have r:RepD h A (.bool p) v:=r
 cases r; rfl
theorem Rep_cs {h:Array Obj} {A:Nat→Prop} {m:Heap} {β:Place} {x:V} {v:Value} {cs:List C} (r:RepV h A m β x v) (e:x.cs?=some cs):All2 (RepC h A m β) cs v.cells.toList:=by
 cases x with
 | one c =>
  simp only [V.cs?] at e; cases e
  have r:RepC h A m β c v:=r
  have ic:=r.isCell
  have:v.cells=#[v]:=by cases v <;> first | rfl | exact ic.elim
  rw [this]; exact .cons r .nil
 | agg cs' =>
  simp only [V.cs?] at e; cases e
  obtain ⟨vs,rfl,k⟩:=r
  exact k
 | tup xs=>simp [V.cs?] at e
 | dead=>simp [V.cs?] at e
theorem Rep_mkV {h:Array Obj} {A:Nat→Prop} {m:Heap} {β:Place} {g:Bool} {cs:List C} {x:V} {vs:List Value} (e:mkV g cs=some x) (r:All2 (RepC h A m β) cs vs) :
 RepV h A m β x (if g then .agg vs.toArray else vs.headD undef):=by
 unfold mkV at e
 cases g with
 | true=>simp at e; subst e; exact ⟨_,rfl,by simpa using r⟩
 | false =>
  simp at e
  split at e
  · cases e; cases r with
    | cons h t=>cases t; exact h
  · cases e
theorem mkV_len {g:Bool} {cs:List C} {x:V} (e:mkV g cs=some x) (hg:g=false):cs.length=1:=by
 subst hg
 simp [mkV] at e
 split at e
 · rfl
 · cases e

theorem isCell_one {v:Value} (h:isCell v):v.oneCell'=true:=by cases v <;> first | rfl | exact h.elim

def Does (P:Program) (F:Nat→Prop) (m:Heap) (β:Place) (w:World) (s:Sem Next) (v:V) (m':Heap):Prop :=
 ∃ u w' β',(s.run P w=.ok (.value u) w'∨(s.run P w=.ok .skip w'∧u=undef))∧MemOK F m' β' w'.heap∧Evo F m β w m' β' w'∧RepV w'.heap (Avail F m' β' w'.heap) m' β' v u

theorem Does.same {F:Nat→Prop} {m:Heap} {β:Place} {w:World} {s:Sem Next} {v:V} {u:Value} (hm:MemOK F m β w.heap) (hs:s.run P w=.ok (.value u) w)
 (r:RepV w.heap (Avail F m β w.heap) m β v u):Does P F m β w s v m:=⟨u,w,β,.inl hs,hm,.refl _ _ _ _,r⟩
end

section
variable {P:Program} {F:Nat→Prop} {β:Place} {w:World} {σ:St} {a:Act}

theorem do_val {x:Operand} {y:Arg} (hm:MemOK F σ.mem β w.heap) (k:EnvOK w.heap (Avail F σ.mem β w.heap) σ.mem β σ.env a) (e:trArg x=some y) :
 Does P F σ.mem β w (pure (.value (a.eval x))) (σ.arg y) σ.mem:=.same hm rfl (Rep_arg k e)

theorem run_bits (op:BinOp) (k:IntKind) (x y:Int) (v:V) (h:bits op k x y=some v):∃ n,v=.int k n∧(Op.intBits op k x y).run P w=.ok (.int k n) w:=by
 unfold bits at h
 cases op <;> simp only [] at h <;> first | (cases h; done) | (cases h; exact ⟨_,rfl,rfl⟩)

theorem run_binI (op:BinOp) (T:TypeId) (k yk:IntKind) (x y:Int) (v:V) (h:binI op k x yk y=some v) :
 ∃ u,(binOp op T (.int k x) (.int yk y)).run P w=.ok u w∧∀ h A m β,RepV h A m β v u:=by
 by_cases hs:op=.shl
 · subst hs
   simp only [binI] at h
   split at h
   · cases h
   · rename_i c
     cases h
     refine ⟨_,?_,fun h A m β=>RepD.int _ _⟩
     simp [binOp,Op.shift,if_neg c,Nat.min_def]
 · by_cases hs':op=.shr
   · subst hs'
     simp only [binI] at h
     split at h
     · cases h
     · rename_i c
       cases h
       refine ⟨_,?_,fun h A m β=>RepD.int _ _⟩
       simp [binOp,Op.shift,if_neg c,Nat.min_def]
   · have hk:k=yk:=by
      cases op <;> first | exact absurd rfl hs | exact absurd rfl hs' | skip
      all_goals
       simp only [binI] at h
       split at h
       · assumption
       · cases h
     subst hk
     cases op <;> first | exact absurd rfl hs | exact absurd rfl hs' | skip
     case quo =>
      simp only [binI,if_true] at h
      split at h
      · cases h
      · rename_i c; cases h; exact ⟨_,by simp [binOp,Op.intDiv,if_neg c],fun h A m β=>RepD.int _ _⟩
     case rem =>
      simp only [binI,if_true] at h
      split at h
      · cases h
      · rename_i c; cases h; exact ⟨_,by simp [binOp,Op.intDiv,if_neg c],fun h A m β=>RepD.int _ _⟩
     case and =>
      simp only [binI,if_true] at h
      obtain ⟨n,rfl,hn⟩:=run_bits (P:=P) (w:=w) _ _ _ _ _ h
      exact ⟨_,by simp [binOp,hn],fun h A m β=>RepD.int _ _⟩
     case or =>
      simp only [binI,if_true] at h
      obtain ⟨n,rfl,hn⟩:=run_bits (P:=P) (w:=w) _ _ _ _ _ h
      exact ⟨_,by simp [binOp,hn],fun h A m β=>RepD.int _ _⟩
     case xor =>
      simp only [binI,if_true] at h
      obtain ⟨n,rfl,hn⟩:=run_bits (P:=P) (w:=w) _ _ _ _ _ h
      exact ⟨_,by simp [binOp,hn],fun h A m β=>RepD.int _ _⟩
     case andNot =>
      simp only [binI,if_true] at h
      obtain ⟨n,rfl,hn⟩:=run_bits (P:=P) (w:=w) _ _ _ _ _ h
      exact ⟨_,by simp [binOp,hn],fun h A m β=>RepD.int _ _⟩
     case add=>simp only [binI,if_true] at h; cases h; exact ⟨_,by simp [binOp,Op.intArith],fun h A m β=>RepD.int _ _⟩
     case sub=>simp only [binI,if_true] at h; cases h; exact ⟨_,by simp [binOp,Op.intArith],fun h A m β=>RepD.int _ _⟩
     case mul=>simp only [binI,if_true] at h; cases h; exact ⟨_,by simp [binOp,Op.intArith],fun h A m β=>RepD.int _ _⟩
     case eql=>simp only [binI,if_true] at h; cases h; exact ⟨_,by simp [binOp,Op.intCmp]; rfl,fun h A m β=>by rw [show (x == y)=decide (x=y) from rfl]; exact RepD.bool _⟩
     case neq=>simp only [binI,if_true] at h; cases h; exact ⟨_,by simp [binOp,Op.intCmp]; rfl,fun h A m β=>by rw [show (x != y)=!decide (x=y) from rfl]; exact RepD.bool _⟩
     case lss=>simp only [binI,if_true] at h; cases h; exact ⟨_,by simp [binOp,Op.intCmp],fun h A m β=>RepD.bool _⟩
     case leq=>simp only [binI,if_true] at h; cases h; exact ⟨_,by simp [binOp,Op.intCmp],fun h A m β=>RepD.bool _⟩
     case gtr=>simp only [binI,if_true] at h; cases h; exact ⟨_,by simp [binOp,Op.intCmp],fun h A m β=>RepD.bool _⟩
     case geq=>simp only [binI,if_true] at h; cases h; exact ⟨_,by simp [binOp,Op.intCmp],fun h A m β=>RepD.bool _⟩

theorem run_eqGuard_int (op:BinOp) (T:TypeId) (x y:Operand) (k k':IntKind) (n n':Int):(eqGuard op T x y (.int k n) (.int k' n')).run P w=.ok () w:=by
 unfold eqGuard
 split <;> simp

theorem bind_some' {α β:Type} {x:Option α} {f:α→Option β} {b:β} (h:x.bind f=some b):∃ a,x=some a∧f a=some b:=by
 cases x with
 | none=>cases h
 | some a=>exact ⟨a,rfl,h⟩

theorem do_bin {op:BinOp} {T U:TypeId} {x y:Operand} {x' y':Arg} {call:Call} {v:V} {m':Heap} (hm:MemOK F σ.mem β w.heap) (k:EnvOK w.heap (Avail F σ.mem β w.heap) σ.mem β σ.env a)
 (ex:trArg x=some x') (ey:trArg y=some y') (h:evO call σ (.bin op x' y')=some (v,m')) (o:Oper) (ho:o.op=.binOp op T x y U) :
 Does P F σ.mem β w (execOp a.eval o) v m':=by
 simp only [evO] at h
 obtain ⟨p,hp,h⟩:=bind_some' h
 obtain ⟨q,hq,h⟩:=bind_some' h
 obtain ⟨u,hu,h⟩:=bind_some' h
 cases h
 have ax:=Rep_int (Rep_arg k ex) hp
 have ay:=Rep_int (Rep_arg k ey) hq
 obtain ⟨r,hr,rr⟩:=run_binI (P:=P) (w:=w) op T p.1 q.1 p.2 q.2 v hu
 refine .same (u:=r) hm ?_ (rr _ _ _ _)
 simp [execOp,ho,ax,ay,run_eqGuard_int,hr]

theorem do_not {x:Operand} {x':Arg} {T:TypeId} {call:Call} {v:V} {m':Heap} (hm:MemOK F σ.mem β w.heap) (k:EnvOK w.heap (Avail F σ.mem β w.heap) σ.mem β σ.env a)
 (ex:trArg x=some x') (h:evO call σ (.not x')=some (v,m')) (o:Oper) (ho:o.op=.unOp .not T x):Does P F σ.mem β w (execOp a.eval o) v m':=by
 simp only [evO] at h
 obtain ⟨p,hp,h⟩:=bind_some' h
 cases h
 have ax:=Rep_bool (Rep_arg k ex) hp
 refine .same (u:=.bool (!p)) hm ?_ (RepD.bool _)
 simp [execOp,ho,ax,Op.unary]
theorem do_neg {x:Operand} {x':Arg} {T:TypeId} {call:Call} {v:V} {m':Heap} (hm:MemOK F σ.mem β w.heap) (k:EnvOK w.heap (Avail F σ.mem β w.heap) σ.mem β σ.env a)
 (ex:trArg x=some x') (h:evO call σ (.neg x')=some (v,m')) (o:Oper) (ho:o.op=.unOp .neg T x):Does P F σ.mem β w (execOp a.eval o) v m':=by
 simp only [evO] at h
 obtain ⟨p,hp,h⟩:=bind_some' h
 cases h
 have ax:=Rep_int (Rep_arg k ex) hp
 refine .same (u:=.int p.1 (p.1.wrap (0 - p.2))) hm ?_ (RepD.int _ _)
 simp [execOp,ho,ax,Op.unary,Op.intArith]
theorem do_conv {x:Operand} {x':Arg} {S T:TypeId} {d:TypeDesc} {q:IntKind} {call:Call} {v:V} {m':Heap} (hm:MemOK F σ.mem β w.heap) (k:EnvOK w.heap (Avail F σ.mem β w.heap) σ.mem β σ.env a)
 (ex:trArg x=some x') (hS:P.underlying S=some d) (hT:P.underlying T=some (.int q)) (h:evO call σ (.conv q x')=some (v,m')) (o:Oper) (ho:o.op=.convert S T x) :
 Does P F σ.mem β w (execOp a.eval o) v m':=by
 simp only [evO] at h
 obtain ⟨p,hp,h⟩:=bind_some' h
 cases h
 have ax:=Rep_int (Rep_arg k ex) hp
 refine .same (u:=.int q (q.wrap p.2)) hm ?_ (RepD.int _ _)
 simp only [execOp,ho,ax,Sem.run_bind,convert,run_underlying hS,run_underlying hT,Result.andThen_ok]
 rfl
theorem do_pick {c x y:Operand} {c' x' y':Arg} {call:Call} {v:V} {m':Heap} (hm:MemOK F σ.mem β w.heap) (k:EnvOK w.heap (Avail F σ.mem β w.heap) σ.mem β σ.env a)
 (ec:trArg c=some c') (ex:trArg x=some x') (ey:trArg y=some y') (h:evO call σ (.pick c' x' y')=some (v,m')) (o:Oper) (ho:o.op=.pick c x y) :
 Does P F σ.mem β w (execOp a.eval o) v m':=by
 simp only [evO] at h
 obtain ⟨p,hp,h⟩:=bind_some' h
 cases h
 have ac:=Rep_bool (Rep_arg k ec) hp
 cases p with
 | true=>exact .same (u:=a.eval x) hm (by simp [execOp,ho,ac,asBool]) (by simpa using Rep_arg k ex)
 | false=>exact .same (u:=a.eval y) hm (by simp [execOp,ho,ac,asBool]) (by simpa using Rep_arg k ey)
theorem do_len {x:Operand} {x':Arg} {str:Bool} {T:TypeId} {call:Call} {v:V} {m':Heap} (k:EnvOK w.heap (Avail F σ.mem β w.heap) σ.mem β σ.env a)
 (ex:trArg x=some x') (hT:if str then P.underlying T=some .string else ∃ e,P.underlying T=some (.slice e)) (h:evO call σ (.len str x')=some (v,m')) (U:TypeId) :
 ∃ u,(Builtin.len_ #[T] U #[a.eval x]).run P w=.ok u w∧RepV w.heap (Avail F σ.mem β w.heap) σ.mem β v u∧m'=σ.mem:=by
 have r:=Rep_arg k ex
 cases str with
 | true =>
  simp only [if_true] at hT
  simp only [evO,if_true] at h
  obtain ⟨c,hc,h⟩:=bind_some' h
  rw [c?_some hc] at r
  split at h
  · rename_i s
    have r:RepD w.heap (Avail F σ.mem β w.heap) (.str s) (a.eval x):=r
    generalize a.eval x=va at *
    cases r
    cases h
    exact ⟨_,by simp [Builtin.len_,run_underlying hT,goInt],RepD.int _ _,rfl⟩
  · cases h
 | false =>
  simp only [Bool.false_eq_true,if_false] at hT
  obtain ⟨e',hT⟩:=hT
  simp only [evO,Bool.false_eq_true,if_false] at h
  obtain ⟨c,hc,h⟩:=bind_some' h
  rw [c?_some hc] at r
  have fin:∀ (n:Nat),(∃ p q,a.eval x=.slice p n q)→some (V.int .i64 (n:Int),σ.mem)=some (v,m') →
   ∃ u,(Builtin.len_ #[T] U #[a.eval x]).run P w=.ok u w∧RepV w.heap (Avail F σ.mem β w.heap) σ.mem β v u∧m'=σ.mem:=by
   rintro n ⟨p,q,e⟩ h
   cases h
   exact ⟨.int .i64 n,by simp [Builtin.len_,run_underlying hT,e,goInt],RepD.int _ _,rfl⟩
  split at h
  · rename_i xs
    have r:RepD w.heap (Avail F σ.mem β w.heap) (.list xs) (a.eval x):=r
    generalize a.eval x=va at *
    cases r with
    | empty p q=>exact fin 0 ⟨_,_,rfl⟩ (by simpa using h)
    | list _ b o sz cap u=>exact fin xs.length ⟨_,_,rfl⟩ h
  · rename_i s off len
    have r:RepOwn w.heap σ.mem β s off len (a.eval x):=r
    obtain ⟨p,q,e⟩:=r.slice
    exact fin len ⟨p,q,e⟩ h
  · have r:a.eval x=.slice none 0 0:=r
    exact fin 0 ⟨_,_,r⟩ (by simpa using h)
  · cases h

theorem foldV_none (f:V→V→Option V):∀ (l:List V),foldV f none l=none
 | []=>rfl
 | _::r=>foldV_none f r
theorem run_minL {m:Heap} {A:Nat→Prop} {h:Array Obj}:∀ (xs:List V) (vs:List Value) (k:IntKind) (n:Int) (v:V),All2 (RepV h A m β) xs vs →
 foldV minV (some (V.int k n)) xs=some v→∃ u,(vs.foldlM Builtin.min2 (.int k n)).run P w=.ok u w∧RepV h A m β v u
 | [],_,k,n,v,r,e=>by cases r; cases e; exact ⟨_,rfl,RepD.int _ _⟩
 | x::xs,_,k,n,v,r,e=>by
  cases r with
  | cons h1 t =>
   simp only [foldV,Option.bind_some] at e
   cases hq:x.int? with
   | none =>
    have:minV (V.int k n) x=none:=by simp only [minV,hq,Option.bind_none]; rfl
    rw [this,foldV_none] at e
    cases e
   | some q =>
    have:minV (V.int k n) x=some (V.int k (if q.2 < n then q.2 else n)):=by simp only [minV,hq,Option.bind_some]; rfl
    rw [this] at e
    rw [Rep_int h1 hq]
    simp only [List.foldlM_cons,Sem.run_bind,Builtin.min2,Sem.run_pure,Result.andThen_ok]
    exact run_minL xs _ k _ v t e
theorem run_maxL {m:Heap} {A:Nat→Prop} {h:Array Obj}:∀ (xs:List V) (vs:List Value) (k:IntKind) (n:Int) (v:V),All2 (RepV h A m β) xs vs →
 foldV maxV (some (V.int k n)) xs=some v→∃ u,(vs.foldlM Builtin.max2 (.int k n)).run P w=.ok u w∧RepV h A m β v u
 | [],_,k,n,v,r,e=>by cases r; cases e; exact ⟨_,rfl,RepD.int _ _⟩
 | x::xs,_,k,n,v,r,e=>by
  cases r with
  | cons h1 t =>
   simp only [foldV,Option.bind_some] at e
   cases hq:x.int? with
   | none =>
    have:maxV (V.int k n) x=none:=by simp only [maxV,hq,Option.bind_none]; rfl
    rw [this,foldV_none] at e
    cases e
   | some q =>
    have:maxV (V.int k n) x=some (V.int k (if n < q.2 then q.2 else n)):=by simp only [maxV,hq,Option.bind_some]; rfl
    rw [this] at e
    rw [Rep_int h1 hq]
    simp only [List.foldlM_cons,Sem.run_bind,Builtin.max2,Sem.run_pure,Result.andThen_ok]
    exact run_maxL xs _ k _ v t e
theorem Rep_args {h:Array Obj} {A:Nat→Prop} (k:EnvOK h A σ.mem β σ.env a):∀ {xs:List Operand} {ys:List Arg},trArgs xs=some ys →
 All2 (RepV h A σ.mem β) (ys.map σ.arg) (xs.map a.eval)
 | [],ys,e=>by simp only [trArgs] at e; cases e; exact .nil
 | x::r,ys,e=>by
  simp only [trArgs] at e
  obtain ⟨y,h1,e⟩:=bind_some' e
  obtain ⟨ys',h2,e⟩:=bind_some' e
  cases e
  exact .cons (Rep_arg k h1) (Rep_args k h2)

theorem do_min {xs:Array Operand} {xs':List Arg} {call:Call} {v:V} {m':Heap} (k:EnvOK w.heap (Avail F σ.mem β w.heap) σ.mem β σ.env a)
 (ex:trArgs xs.toList=some xs') (h:evO call σ (.min xs')=some (v,m')) (ts:Array TypeId) (U:TypeId) :
 ∃ u,(Builtin.min_ ts U (xs.map a.eval)).run P w=.ok u w∧RepV w.heap (Avail F σ.mem β w.heap) σ.mem β v u∧m'=σ.mem:=by
 simp only [evO] at h
 obtain ⟨q,hq,h⟩:=bind_some' h
 cases h
 have r:=Rep_args k ex
 unfold Builtin.min_
 rw [Array.toList_map]
 generalize hl:List.map a.eval xs.toList=l at r ⊢
 cases xs' with
 | nil=>simp [minL] at hq
 | cons y ys =>
  cases r with
  | cons h1 t =>
   simp only [List.map_cons,minL] at hq
   cases hp:(σ.arg y).int? with
   | none =>
    simp only [hp,Option.bind_none] at hq
    rw [foldV_none] at hq
    cases hq
   | some p =>
    simp only [hp,Option.bind_some] at hq
    rw [Rep_int h1 hp]
    obtain ⟨u,h2,h3⟩:=run_minL (P:=P) (w:=w) _ _ _ _ _ t hq
    exact ⟨u,h2,h3,rfl⟩
theorem do_max {xs:Array Operand} {xs':List Arg} {call:Call} {v:V} {m':Heap} (k:EnvOK w.heap (Avail F σ.mem β w.heap) σ.mem β σ.env a)
 (ex:trArgs xs.toList=some xs') (h:evO call σ (.max xs')=some (v,m')) (ts:Array TypeId) (U:TypeId) :
 ∃ u,(Builtin.max_ ts U (xs.map a.eval)).run P w=.ok u w∧RepV w.heap (Avail F σ.mem β w.heap) σ.mem β v u∧m'=σ.mem:=by
 simp only [evO] at h
 obtain ⟨q,hq,h⟩:=bind_some' h
 cases h
 have r:=Rep_args k ex
 unfold Builtin.max_
 rw [Array.toList_map]
 generalize hl:List.map a.eval xs.toList=l at r ⊢
 cases xs' with
 | nil=>simp [maxL] at hq
 | cons y ys =>
  cases r with
  | cons h1 t =>
   simp only [List.map_cons,maxL] at hq
   cases hp:(σ.arg y).int? with
   | none =>
    simp only [hp,Option.bind_none] at hq
    rw [foldV_none] at hq
    cases hq
   | some p =>
    simp only [hp,Option.bind_some] at hq
    rw [Rep_int h1 hp]
    obtain ⟨u,h2,h3⟩:=run_maxL (P:=P) (w:=w) _ _ _ _ _ t hq
    exact ⟨u,h2,h3,rfl⟩

theorem do_ext {x:Operand} {x':Arg} {i:Nat} {call:Call} {v:V} {m':Heap} (hm:MemOK F σ.mem β w.heap) (k:EnvOK w.heap (Avail F σ.mem β w.heap) σ.mem β σ.env a)
 (ex:trArg x=some x') (h:evO call σ (.ext x' i)=some (v,m')) (o:Oper) (ho:o.op=.extract x i):Does P F σ.mem β w (execOp a.eval o) v m':=by
 have r:=Rep_arg k ex
 simp only [evO] at h
 split at h
 · rename_i xs hx
   rw [hx] at r
   obtain ⟨vs,e,r⟩:=r
   split at h
   · rename_i g cs hi
     obtain ⟨q,hq,h⟩:=bind_some' h
     cases h
     obtain ⟨u,hu,ru⟩:=r.get hi
     have hu':vs[i]?=some u:=by simpa using hu
     refine .same (u:=u) hm (by simp [execOp,ho,e,Instr.extract,hu']) ?_
     cases g with
     | true=>obtain ⟨us,rfl,h2⟩:=ru; simpa using Rep_mkV hq h2
     | false =>
      obtain ⟨c,h1,h2⟩:=ru
      simp at h1
      subst h1
      simpa using Rep_mkV hq (.cons h2 .nil)
   · cases h
 · cases h
theorem do_mkfn {f:Fn} {xs:Array Operand} {xs':List Arg} {call:Call} {v:V} {m':Heap} (hm:MemOK F σ.mem β w.heap) (k:EnvOK w.heap (Avail F σ.mem β w.heap) σ.mem β σ.env a)
 (ex:trArgs xs.toList=some xs') (h:evO call σ (.mkfn f xs')=some (v,m')) (o:Oper) (ho:o.op=.makeFunc f #[] xs):Does P F σ.mem β w (execOp a.eval o) v m':=by
 simp only [evO] at h
 obtain ⟨cs,hc,h⟩:=bind_some' h
 cases h
 have r:=Rep_args k ex
 refine .same (u:=.func f #[] (xs.map a.eval)) hm (by simp [execOp,ho,Instr.makeFunc]) ⟨_,rfl,?_⟩
 rw [Array.toList_map]
 generalize List.map a.eval xs.toList=l at r
 generalize List.map σ.arg xs'=l' at r hc
 clear ex h ho
 induction r generalizing cs with
 | nil=>simp only [capsOf] at hc; cases hc; exact .nil
 | cons h1 t ih =>
  simp only [capsOf] at hc
  obtain ⟨c,h2,hc⟩:=bind_some' hc
  obtain ⟨cs',h3,hc⟩:=bind_some' hc
  cases hc
  refine .cons ?_ (ih cs' h3)
  unfold capOf at h2
  split at h2
  · cases h2; exact h1
  · cases h2; exact h1
  · cases h2
end

section
variable {P:Program} {F:Nat→Prop} {β:Place} {w:World} {σ:St} {a:Act}

theorem cell_at (w:World) (b o t:Nat):w.cell? ((⟨b,o,none⟩:Addr).add t)=cellAt w.heap b (o+t):=by
 have e:(⟨b,o,none⟩:Addr).add t=⟨b,o+t,none⟩:=by
  unfold Addr.add
  split
  · rename_i h; subst h; rfl
  · rfl
 rw [e]
 unfold World.cell? cellAt
 cases w.heap[b]? with
 | none=>rfl
 | some x=>cases x <;> rfl
theorem cell_zero (w:World) (b o:Nat):w.cell? ⟨b,o,none⟩=cellAt w.heap b o:=cell_at w b o 0
theorem run_tyInfo {T:TypeId} {i:TypeInfo} (h:P.info? T=some i):(typeInfo T).run P w=.ok i w:=by
 unfold typeInfo
 simp [h]
theorem exL {Q:Nat→Value→Prop}:∀ (n:Nat),(∀ t,t < n→∃ u,Q t u)→∃ vs:List Value,vs.length=n∧∀ (t:Nat) u,vs[t]?=some u→Q t u
 | 0,_=>⟨[],rfl,fun t u h=>by simp at h⟩
 | n+1,h=>by
  obtain ⟨vs,h1,h2⟩:=exL n fun t ht=>h t (by omega)
  obtain ⟨u,hu⟩:=h n (by omega)
  refine ⟨vs++[u],by simp [h1],fun t x hx=>?_⟩
  rcases Nat.lt_or_ge t n with c | c
  · rw [List.getElem?_append_left (by omega)] at hx; exact h2 t x hx
  · rw [List.getElem?_append_right (by omega)] at hx
    have:t - vs.length=0:=by
     rcases Nat.lt_or_ge (t - vs.length) 1 with c' | c'
     · omega
     · rw [List.getElem?_eq_none (by simpa using c')] at hx; cases hx
    rw [this] at hx
    simp at hx
    subst hx
    have:t=n:=by omega
    subst this
    exact hu

theorem D_get {z d:D} {xs:List D} {i:Nat} (h:xs[i]?=some d):xs.getD i z=d:=by simp [List.getD_eq_getElem?_getD,h]

theorem rd_cells {m:Heap} (hm:MemOK F m β w.heap) {c:C} {n:Nat} {cs:List C} {v:Value} (r:RepC w.heap (Avail F m β w.heap) m β c v) (h:ldC m n c=some cs) :
 ∃ b o vs,v=.pointer (some ⟨b,o,none⟩)∧vs.length=n∧All2 (RepC w.heap (Avail F m β w.heap) m β) cs vs∧(∀ (t:Nat) u,vs[t]?=some u→cellAt w.heap b (o+t)=some u)∧∀ u∈vs,isCell u:=by
 have fin:∀ (b o:Nat),v=.pointer (some ⟨b,o,none⟩)→cs.length=n→(∀ t,t < n→∃ u,cellAt w.heap b (o+t)=some u∧∀ c,cs[t]?=some c→RepC w.heap (Avail F m β w.heap) m β c u) →
  ∃ b o vs,v=.pointer (some ⟨b,o,none⟩)∧vs.length=n∧All2 (RepC w.heap (Avail F m β w.heap) m β) cs vs∧(∀ (t:Nat) u,vs[t]?=some u→cellAt w.heap b (o+t)=some u)∧∀ u∈vs,isCell u:=by
  intro b o e hl hc
  obtain ⟨vs,h1,h2⟩:=exL (Q:=fun t u=>cellAt w.heap b (o+t)=some u∧∀ c,cs[t]?=some c→RepC w.heap (Avail F m β w.heap) m β c u) n hc
  have a2:All2 (RepC w.heap (Avail F m β w.heap) m β) cs vs:=All2.of_get (hl.trans h1.symm) fun i c u hc hu=>(h2 i u hu).2 c hc
  refine ⟨b,o,vs,e,h1,a2,fun t u hu=>(h2 t u hu).1,fun u hu=>?_⟩
  obtain ⟨i,hi⟩:=List.getElem?_of_mem hu
  have hlt:i < cs.length:=by rw [hl,←h1]; exact (List.getElem?_eq_some_iff.1 hi).1
  exact ((h2 i u hi).2 cs[i] (List.getElem?_eq_getElem hlt)).isCell
 cases c with
 | ptr s i j =>
  have r:RepPtr m β s i j v:=r
  unfold RepPtr at r
  simp only [ldC] at h
  cases hs:m[s]? with
  | none=>simp only [hs] at r
  | some sl =>
   have hsl:=hm.slots s sl hs
   cases sl with
   | vals z xs =>
    simp only [hs] at r h
    obtain ⟨hi,b,o,e1,e2⟩:=r
    obtain ⟨hz,hall,hb⟩:=hsl
    simp only [e1] at hb
    obtain ⟨hp,hb⟩:=hb
    have hd:xs[i]?=some xs[i]:=List.getElem?_eq_getElem hi
    split at h
    · rename_i hf
      split at h
      · rename_i hq
        obtain ⟨rfl,rfl,hlen⟩:=hq
        cases h
        have flat:∀ (l:List D),(∀ d∈l,d.cells.length=1)→(l.flatMap D.cells).length=l.length∧∀ (t:Nat) (c:D),(l.flatMap D.cells)[t]?=some c→∃ d:D,l[t]?=some d∧d.cells[0]?=some c:=by
         intro l
         induction l with
         | nil=>intro _; simp
         | cons d l ih =>
          intro hl
          obtain ⟨g1,g2⟩:=ih fun x hx=>hl x (List.mem_cons_of_mem _ hx)
          have hd1:=hl d (by simp)
          match hdc:d.cells,hd1 with
          | [c0],_ =>
           refine ⟨by simp [hdc,g1],fun t c ht=>?_⟩
           simp only [List.flatMap_cons,hdc,List.singleton_append] at ht
           cases t with
           | zero=>exact ⟨d,rfl,by rw [hdc]; simpa using ht⟩
           | succ t=>simpa using g2 t c (by simpa using ht)
        obtain ⟨g1,g2⟩:=flat xs fun d hd=>(hall d hd).trans hf.2
        refine fin b _ e2 (by simp [g1,hlen]) fun t ht=>?_
        have htl:t < xs.length:=by omega
        obtain ⟨d,k1,k2⟩:=g2 t _ (List.getElem?_eq_getElem (by omega))
        obtain ⟨u,hu,hr⟩:=hb t 0 d _ k1 k2
        refine ⟨u,by rw [←hu]; congr 1; rw [hf.2]; omega,fun c hc=>?_⟩
        rw [List.getElem?_map,List.getElem?_eq_getElem (by omega)] at hc
        simp at hc
        subst hc
        exact hr
      · cases h
    rw [D_get hd] at h
    split at h
    · rename_i hjn
      cases h
      refine fin b _ e2 (by simp; omega) fun t ht=>?_
      have hjt:j+t < xs[i].cells.length:=by omega
      obtain ⟨u,hu,hr⟩:=hb i (j+t) xs[i] xs[i].cells[j+t] hd (List.getElem?_eq_getElem hjt)
      refine ⟨u,by rw [←hu]; congr 1; omega,fun c hc=>?_⟩
      rw [List.getElem?_map,List.getElem?_take_of_lt ht,List.getElem?_drop,List.getElem?_eq_getElem hjt] at hc
      simp at hc
      subst hc
      exact hr
    · cases h
   | cells cs' =>
    simp only [hs] at r h
    obtain ⟨rfl,b,o,e1,e2⟩:=r
    obtain ⟨b',o',e1',hp,hb⟩:=hsl
    rw [e1] at e1'
    cases e1'
    split at h
    · rename_i hjn
      cases h
      refine fin b _ e2 (by simp; omega) fun t ht=>?_
      have hjt:j+t < cs'.length:=by omega
      obtain ⟨u,hu,hr⟩:=hb (j+t) cs'[j+t] (List.getElem?_eq_getElem hjt)
      refine ⟨u,by rw [←hu]; congr 1; omega,fun c hc=>?_⟩
      rw [List.getElem?_take_of_lt ht,List.getElem?_drop,List.getElem?_eq_getElem hjt] at hc
      simp at hc
      subst hc
      exact hr
    · cases h
   | _=>simp only [hs] at h; cases h
 | d x =>
  cases x with
  | ref ds =>
   have r:RepD w.heap (Avail F m β w.heap) (.ref ds) v:=r
   simp only [ldC] at h
   split at h
   · rename_i hn
     cases h
     cases r with
     | ref _ b o u hA hc hr =>
      refine fin b o rfl (by simp; omega) fun t ht=>⟨u t,hc t (by omega),fun c hc'=>?_⟩
      rw [List.getElem?_map,List.getElem?_take_of_lt ht,List.getElem?_eq_getElem (by omega)] at hc'
      simp at hc'
      subst hc'
      exact hr t _ (List.getElem?_eq_getElem (by omega))
   · cases h
  | _=>simp [ldC] at h
 | _=>simp [ldC] at h

theorem run_szT {T:TypeId} {n:Nat} (h:szT P T=some n):(sizeOf T).run P w=.ok n w:=by
 unfold szT at h
 obtain ⟨i,h1,h2⟩:=Option.map_eq_some_iff.1 h
 unfold sizeOf
 simp [run_tyInfo h1,h2]
theorem run_aggT {T:TypeId} {g:Bool} (h:aggT P T=some g):(isAgg T).run P w=.ok g w:=by
 unfold aggT at h
 obtain ⟨d,h1,h2⟩:=Option.map_eq_some_iff.1 h
 unfold isAgg
 simp only [Sem.run_bind,run_underlying h1,Result.andThen_ok]
 cases d <;> simp at h2 <;> subst h2 <;> rfl

theorem do_load {T:TypeId} {x:Operand} {x':Arg} {n:Nat} {g:Bool} {call:Call} {v:V} {m':Heap} (hm:MemOK F σ.mem β w.heap) (k:EnvOK w.heap (Avail F σ.mem β w.heap) σ.mem β σ.env a)
 (hs:szT P T=some n) (hg:aggT P T=some g) (hn:¬(g=false∧n≠1)) (ex:trArg x=some x') (h:evO call σ (.load n g x')=some (v,m')) (o:Oper) (ho:o.op=.load T x) :
 Does P F σ.mem β w (execOp a.eval o) v m':=by
 simp only [evO] at h
 obtain ⟨c,hc,h⟩:=bind_some' h
 obtain ⟨cs,hcs,h⟩:=bind_some' h
 obtain ⟨q,hq,h⟩:=bind_some' h
 cases h
 have r:=Rep_arg k ex
 rw [c?_some hc] at r
 obtain ⟨b,o',vs,e,hl,h2,h3,_⟩:=rd_cells hm r hcs
 have rv:=Rep_mkV hq h2
 refine .same hm ?_ rv
 simp only [execOp,ho,Instr.loadAt,e,Instr.sureAddr,loadVar,Sem.run_bind,Sem.run_pure,Result.andThen_ok,run_aggT hg]
 cases g with
 | true =>
  simp only [if_true,Sem.run_bind,run_szT hs,Result.andThen_ok]
  rw [←hl,run_loadCells_list w _ vs (fun j u hu=>by rw [cell_at]; exact h3 j u hu)]
  simp
 | false =>
  have hn1:n=1:=by
   rcases Nat.decEq n 1 with c | c
   · exact absurd ⟨rfl,c⟩ hn
   · exact c
  subst hn1
  match vs,hl with
  | [u],_ =>
   have:=h3 0 u rfl
   have hcell:w.cell? ⟨b,o',none⟩=some u:=by rw [cell_zero]; simpa using this
   simp [hcell]

theorem do_field {T:TypeId} {fs:Array Field} {fd:Field} {f:Nat} {x:Operand} {x':Arg} {n:Nat} {g:Bool} {call:Call} {v:V} {m':Heap} (hm:MemOK F σ.mem β w.heap)
 (k:EnvOK w.heap (Avail F σ.mem β w.heap) σ.mem β σ.env a) (hT:P.underlying T=some (.struct fs)) (hf:fs[f]?=some fd) (hs:szT P fd.type=some n) (hg:aggT P fd.type=some g)
 (hn:¬(g=false∧n≠1)) (ex:trArg x=some x') (h:evO call σ (.field fd.offset n g x')=some (v,m')) (o:Oper) (ho:o.op=.field T x f):Does P F σ.mem β w (execOp a.eval o) v m':=by
 have r:=Rep_arg k ex
 simp only [evO] at h
 split at h
 · rename_i cs hx
   rw [hx] at r
   obtain ⟨vs,e,r⟩:=r
   obtain ⟨q,hq,h⟩:=bind_some' h
   cases h
   have r2:=(r.drop fd.offset).take n
   have rv:=Rep_mkV hq r2
   refine .same hm ?_ rv
   simp only [execOp,ho,Instr.field,e,Sem.run_bind,run_underlying hT,Result.andThen_ok,hf,asAgg,part,run_aggT hg,Sem.run_pure]
   cases g with
   | true =>
    simp only [if_true,Sem.run_bind,run_szT hs,Result.andThen_ok,Sem.run_pure]
    congr 3
    have:vs.extract fd.offset (fd.offset+n)=(List.take n (List.drop fd.offset vs.toList)).toArray:=by
     apply Array.ext'
     simp [Array.toList_extract,List.extract_eq_take_drop]
    rw [this]
   | false =>
    have hn1:n=1:=by
     rcases Nat.decEq n 1 with c | c
     · exact absurd ⟨rfl,c⟩ hn
     · exact c
    subst hn1
    have hl:=mkV_len hq rfl
    have hlv:(List.take 1 (List.drop fd.offset vs.toList)).length=1:=by rw [←r2.length]; exact hl
    have hlt:fd.offset < vs.size:=by
     rcases Nat.lt_or_ge fd.offset vs.size with c | c
     · exact c
     · simp at hlv; omega
    simp only [Bool.false_eq_true,if_false,Array.getElem?_eq_getElem hlt,Sem.run_pure,Result.andThen_ok]
    congr 2
    rw [List.drop_eq_getElem_cons (by simpa using hlt)]
    simp
 · cases h

theorem do_faddr {T:TypeId} {fs:Array Field} {fd:Field} {f:Nat} {x:Operand} {x':Arg} {n:Nat} {call:Call} {v:V} {m':Heap} (hm:MemOK F σ.mem β w.heap)
 (k:EnvOK w.heap (Avail F σ.mem β w.heap) σ.mem β σ.env a) (hT:P.underlying T=some (.struct fs)) (hf:fs[f]?=some fd) (hs:szT P fd.type=some n) (hn:n≠0)
 (ex:trArg x=some x') (h:evO call σ (.faddr fd.offset x')=some (v,m')) (o:Oper) (ho:o.op=.fieldAddr T x f):Does P F σ.mem β w (execOp a.eval o) v m':=by
 have r:=Rep_arg k ex
 simp only [evO] at h
 obtain ⟨c,hc,h⟩:=bind_some' h
 rw [c?_some hc] at r
 have fin:∀ (b p:Nat),a.eval x=.pointer (some ⟨b,p,none⟩)→(execOp a.eval o).run P w=.ok (.value (.pointer (some ⟨b,p+fd.offset,none⟩))) w:=by
  intro b p e
  simp only [execOp,ho,Instr.fieldAt,e,Sem.run_bind,run_underlying hT,Result.andThen_ok,hf,Instr.sureAddr,Sem.run_pure,fieldPlace,run_szT hs,if_neg hn]
  congr 4
  unfold Addr.add
  split
  · rename_i h0; rw [h0]; rfl
  · rfl
 split at h
 · rename_i s i j
   cases h
   have r:RepPtr σ.mem β s i j (a.eval x):=r
   unfold RepPtr at r
   cases hs':σ.mem[s]? with
   | none=>simp only [hs'] at r
   | some sl =>
    cases sl with
    | vals z xs =>
     simp only [hs'] at r
     obtain ⟨hi,b,p,e1,e2⟩:=r
     refine .same hm (fin _ _ e2) ?_
     show RepPtr σ.mem β s i (j+fd.offset) _
     unfold RepPtr
     simp only [hs']
     exact ⟨hi,b,p,e1,by rw [Nat.add_assoc]⟩
    | cells cs =>
     simp only [hs'] at r
     obtain ⟨hi,b,p,e1,e2⟩:=r
     refine .same hm (fin _ _ e2) ?_
     show RepPtr σ.mem β s i (j+fd.offset) _
     unfold RepPtr
     simp only [hs']
     exact ⟨hi,b,p,e1,by rw [Nat.add_assoc]⟩
    | rows z rs br =>
     simp only [hs'] at r
     obtain ⟨hi,b,p,e1,e2⟩:=r
     refine .same hm (fin _ _ e2) ?_
     show RepPtr σ.mem β s i (j+fd.offset) _
     unfold RepPtr
     simp only [hs']
     exact ⟨hi,b,p,e1,by rw [Nat.add_assoc]⟩
    | map es=>simp only [hs'] at r
    | dead =>
     simp only [hs'] at r
     obtain ⟨b,p,e2⟩:=r
     refine .same hm (fin _ _ e2) ?_
     show RepPtr σ.mem β s i (j+fd.offset) _
     unfold RepPtr
     simp only [hs']
     exact ⟨_,_,rfl⟩
 · rename_i ds
   cases h
   have r:RepD w.heap (Avail F σ.mem β w.heap) (.ref ds) (a.eval x):=r
   generalize hv:a.eval x=va at r
   cases r with
   | ref _ b p u hA hc' hr =>
    refine .same hm (fin _ _ hv) ?_
    show RepD _ _ _ _
    refine .ref _ b (p+fd.offset) (fun j=>u (fd.offset+j)) hA (fun j hj=>?_) fun j e he=>?_
    · simp at hj; rw [Nat.add_assoc]; exact hc' _ (by omega)
    · rw [List.getElem?_drop] at he; exact hr _ _ he
 · cases h

theorem elT_some {T:TypeId} {x:Nat × Nat × D} (h:elT P T=some x):∃ i,P.info? T=some i∧zD P T=some x.2.2∧x.1=i.size∧x.2.1=i.bytes∧x.2.2.cells.length=i.size∧0 < i.size∧i.bytes≤16384:=by
 unfold elT at h
 obtain ⟨i,h1,h⟩:=bind_some' h
 obtain ⟨z,h2,h⟩:=bind_some' h
 split at h
 · rename_i c; cases h; exact ⟨i,h1,h2,rfl,rfl,c.1,c.2.1,c.2.2⟩
 · cases h
theorem run_size {T:TypeId} {i:TypeInfo} (h:P.info? T=some i):(sizeOf T).run P w=.ok i.size w:=by
 unfold sizeOf
 simp [run_tyInfo h]
theorem addr_add (b o t:Nat):(⟨b,o,none⟩:Addr).add t=⟨b,o+t,none⟩:=by
 unfold Addr.add
 split
 · rename_i h; subst h; rfl
 · rfl

theorem do_iaddr {T e:TypeId} {z:Nat × Nat × D} {x y:Operand} {x' y':Arg} {call:Call} {v:V} {m':Heap} (hm:MemOK F σ.mem β w.heap) (k:EnvOK w.heap (Avail F σ.mem β w.heap) σ.mem β σ.env a)
 (hT:P.underlying T=some (.slice e)) (hz:elT P e=some z) (ex:trArg x=some x') (ey:trArg y=some y') (h:evO call σ (.iaddr z.2.2 x' y')=some (v,m')) (o:Oper) (ho:o.op=.indexAddr T x y) :
 Does P F σ.mem β w (execOp a.eval o) v m':=by
 obtain ⟨ti,hi,hzd,e1,e2,e3,e4,e5⟩:=elT_some hz
 simp only [evO] at h
 obtain ⟨c,hc,h1⟩:=bind_some' h
 clear h
 obtain ⟨p,hp,h⟩:=bind_some' h1
 clear h1
 have r:=Rep_arg k ex
 have ai:=Rep_int (Rep_arg k ey) hp
 rw [c?_some hc] at r
 have fin:∀ (b q len cap:Nat),a.eval x=.slice (some ⟨b,q,none⟩) len cap→0≤p.2→p.2 < (len:Int)→(execOp a.eval o).run P w=.ok (.value (.pointer (some ⟨b,q+p.2.toNat*ti.size,none⟩))) w:=by
  intro b q len cap e h0 h1
  simp only [execOp,ho,Instr.indexAt,e,ai,asIntOf,Sem.run_bind,run_underlying hT,Result.andThen_ok,Sem.run_pure,run_size hi]
  have:(0≤p.2∧p.2 < (len:Int)):=⟨h0,h1⟩
  simp [this,run_size hi,addr_add]
 split at h
 · rename_i xs
   have r:RepD w.heap (Avail F σ.mem β w.heap) (.list xs) (a.eval x):=r
   split at h
   · rename_i hb
     split at h
     · rename_i hsz
       cases h
       generalize hv:a.eval x=va at r
       cases r with
       | empty q cap=>simp at hb; omega
       | list _ b q sz cap u hA hsz0 hlen hc' hr hcap =>
        have hlt:p.2.toNat < xs.length:=by omega
        have hd:xs[p.2.toNat]?=some xs[p.2.toNat]:=List.getElem?_eq_getElem hlt
        rw [D_get hd] at hsz ⊢
        have hsz':sz=ti.size:=by rw [←hlen _ _ hd,hsz,e3]
        subst hsz'
        refine .same hm (fin _ _ _ _ hv hb.1 hb.2) ?_
        show RepD _ _ _ _
        exact .ref _ b _ (fun j=>u p.2.toNat j) hA (fun j hj=>hc' _ _ hlt (by rw [hlen _ _ hd] at hj; exact hj)) fun j e he=>hr _ _ _ _ hd he
     · cases h
   · cases h
 · rename_i s off len
   have r:RepOwn w.heap σ.mem β s off len (a.eval x):=r
   split at h
   · rename_i z' xs hs
     split at h
     · rename_i hzz
       split at h
       · rename_i hb
         cases h
         unfold RepOwn at r
         simp only [hs] at r
         obtain ⟨hlen,r⟩:=r
         rcases r with ⟨rfl,_⟩ | ⟨b,q,cap,N,b1,b2,b3,b4,b5⟩
         · simp at hb; omega
         · refine .same hm (fin _ _ _ _ b2 hb.1 hb.2) ?_
           show RepPtr σ.mem β s (off+p.2.toNat) 0 _
           unfold RepPtr
           simp only [hs]
           refine ⟨by omega,b,q,b1,?_⟩
           rw [hzz,e3,Nat.add_mul]
           simp [Nat.add_assoc]
       · cases h
     · cases h
   · rename_i z' rs br hs
     split at h
     · rename_i hzz
       split at h
       · rename_i hb
         cases h
         unfold RepOwn at r
         simp only [hs] at r
         obtain ⟨hlen,r⟩:=r
         rcases r with ⟨rfl,_⟩ | ⟨b,q,cap,N,b1,b2,b3,b4,b5⟩
         · simp at hb; omega
         · refine .same hm (fin _ _ _ _ b2 hb.1 hb.2) ?_
           show RepPtr σ.mem β s (off+p.2.toNat) 0 _
           unfold RepPtr
           simp only [hs]
           refine ⟨by omega,b,q,b1,?_⟩
           rw [←e3,hzz]
           simp [Nat.add_assoc]
       · cases h
     · cases h
   · cases h
 · cases h

theorem do_aaddr {T e:TypeId} {n sz:Nat} {x y:Operand} {x' y':Arg} {call:Call} {v:V} {m':Heap} (hm:MemOK F σ.mem β w.heap) (k:EnvOK w.heap (Avail F σ.mem β w.heap) σ.mem β σ.env a)
 (hT:P.underlying T=some (.array n e)) (hz:szT P e=some sz) (ex:trArg x=some x') (ey:trArg y=some y') (h:evO call σ (.aaddr n sz x' y')=some (v,m')) (o:Oper) (ho:o.op=.indexAddr T x y) :
 Does P F σ.mem β w (execOp a.eval o) v m':=by
 simp only [evO] at h
 obtain ⟨c,hc,h1⟩:=bind_some' h
 clear h
 obtain ⟨p,hp,h⟩:=bind_some' h1
 clear h1
 have r:=Rep_arg k ex
 have ai:=Rep_int (Rep_arg k ey) hp
 rw [c?_some hc] at r
 split at h
 · rename_i s
   have r:RepPtr σ.mem β s 0 0 (a.eval x):=r
   split at h
   · rename_i z xs hs
     split at h
     · rename_i hzz
       split at h
       · rename_i hb
         cases h
         unfold RepPtr at r
         simp only [hs] at r
         obtain ⟨hi,b,q,b1,b2⟩:=r
         refine .same (u:=.pointer (some ⟨b,q+p.2.toNat*sz,none⟩)) hm ?_ ?_
         · simp only [execOp,ho,Instr.indexAt,b2,ai,asIntOf,Sem.run_bind,run_underlying hT,Result.andThen_ok,Sem.run_pure,Instr.sureAddr]
           have:(0≤p.2∧p.2 < (n:Int)):=⟨hb.1,hb.2.1⟩
           simp [this,run_szT hz,addr_add]
         · show RepPtr σ.mem β s p.2.toNat 0 _
           unfold RepPtr
           simp only [hs]
           exact ⟨by omega,b,q,b1,by rw [hzz]; simp⟩
       · cases h
     · cases h
   · rename_i cs hs
     split at h
     · rename_i hb
       cases h
       unfold RepPtr at r
       simp only [hs] at r
       obtain ⟨hi,b,q,b1,b2⟩:=r
       refine .same (u:=.pointer (some ⟨b,q+p.2.toNat*sz,none⟩)) hm ?_ ?_
       · simp only [execOp,ho,Instr.indexAt,b2,ai,asIntOf,Sem.run_bind,run_underlying hT,Result.andThen_ok,Sem.run_pure,Instr.sureAddr]
         simp [hb,run_szT hz,addr_add]
       · show RepPtr σ.mem β s 0 (p.2.toNat*sz) _
         unfold RepPtr
         simp only [hs]
         exact ⟨by trivial,b,q,b1,by simp⟩
     · cases h
   · cases h
 · cases h

theorem do_aflat {T e:TypeId} {n sz:Nat} {x y:Operand} {x' y':Arg} {call:Call} {v:V} {m':Heap} (hm:MemOK F σ.mem β w.heap) (k:EnvOK w.heap (Avail F σ.mem β w.heap) σ.mem β σ.env a)
 (hT:P.underlying T=some (.array n e)) (hz:szT P e=some sz) (ex:trArg x=some x') (ey:trArg y=some y') (h:evO call σ (.aflat n sz x' y')=some (v,m')) (o:Oper) (ho:o.op=.indexAddr T x y) :
 Does P F σ.mem β w (execOp a.eval o) v m':=by
 simp only [evO] at h
 obtain ⟨c,hc,h1⟩:=bind_some' h
 clear h
 obtain ⟨p,hp,h⟩:=bind_some' h1
 clear h1
 have r:=Rep_arg k ex
 have ai:=Rep_int (Rep_arg k ey) hp
 rw [c?_some hc] at r
 split at h
 · rename_i s i0
   have r:RepPtr σ.mem β s i0 0 (a.eval x):=r
   split at h
   · rename_i z xs hs
     split at h
     · rename_i hzz
       split at h
       · rename_i hb
         cases h
         unfold RepPtr at r
         simp only [hs] at r
         obtain ⟨hi,b,q,b1,b2⟩:=r
         refine .same (u:=.pointer (some ⟨b,q+i0*z.cells.length+0+p.2.toNat*sz,none⟩)) hm ?_ ?_
         · simp only [execOp,ho,Instr.indexAt,b2,ai,asIntOf,Sem.run_bind,run_underlying hT,Result.andThen_ok,Sem.run_pure,Instr.sureAddr]
           have:(0≤p.2∧p.2 < (n:Int)):=⟨hb.1,hb.2.1⟩
           simp [this,run_szT hz,addr_add]
         · show RepPtr σ.mem β s (i0+p.2.toNat*sz) 0 _
           unfold RepPtr
           simp only [hs]
           exact ⟨hb.2.2,b,q,b1,by rw [hzz]; simp [Nat.add_assoc]⟩
       · cases h
     · cases h
   · cases h
 · cases h

theorem run_sliceB {lo hi mx:Option Operand} {lo' hi' mx':Option Arg} {len cap:Nat} {b:Nat × Nat} (k:EnvOK w.heap (Avail F σ.mem β w.heap) σ.mem β σ.env a)
 (el:trOpt lo=some lo') (eh:trOpt hi=some hi') (em:trOpt mx=some mx') (hcap:len≤cap) (h:sliceB (lo'.map σ.arg) (hi'.map σ.arg) (mx'.map σ.arg) len=some b) :
 ∃ m,(Instr.sliceBounds true len cap (lo.map a.eval) (hi.map a.eval) (mx.map a.eval)).run P w=.ok (b.1,b.2,m) w∧b.1≤b.2∧b.2≤m∧b.2≤len∧m≤cap:=by
 have bd:∀ (x:Operand) (x':Arg) (q:IntKind × Int) (y:Nat) (code:BoundsCode),trArg x=some x'→(σ.arg x').int?=some q→0≤q.2→q.2≤(y:Int) →
  (Instr.sliceBound (a.eval x) y code).run P w=.ok q.2.toNat w:=by
  intro x x' q y code hx hq h0 h1
  have:=Rep_int (Rep_arg k hx) hq
  have hh:(0≤q.2∧q.2≤(y:Int)):=⟨h0,h1⟩
  simp [Instr.sliceBound,this,asIntOf,hh]
 have lox:∀ (x:Option Operand) (x':Option Arg),trOpt x=some x'→(x=none∧x'=none)∨∃ y y',x=some y∧x'=some y'∧trArg y=some y':=by
  intro x x' e
  cases x with
  | none=>simp only [trOpt] at e; cases e; exact .inl ⟨rfl,rfl⟩
  | some y =>
   simp only [trOpt] at e
   obtain ⟨y',h1,h2⟩:=Option.map_eq_some_iff.1 e
   exact .inr ⟨y,y',rfl,h2.symm,h1⟩
 unfold sliceB at h
 obtain ⟨l,hl,h⟩:=bind_some' h
 rcases lox mx mx' em with ⟨rfl,rfl⟩ | ⟨m,m',rfl,rfl,tm⟩
 · simp only [Option.map_none] at h
   obtain ⟨q,hq,h⟩:=bind_some' h
   split at h
   · rename_i c
     cases h
     rcases lox hi hi' eh with ⟨rfl,rfl⟩ | ⟨y,y',rfl,rfl,th⟩
     · simp only [Option.map_none] at hq
       cases hq
       refine ⟨cap,?_,by omega,by omega,by omega,Nat.le_refl _⟩
       rcases lox lo lo' el with ⟨rfl,rfl⟩ | ⟨u,u',rfl,rfl,tl⟩
       · simp only [Option.map_none] at hl
         cases hl
         simp [Instr.sliceBounds]
       · simp only [Option.map_some] at hl
         simp [Instr.sliceBounds,bd u u' l len _ tl hl c.1 c.2.1]
     · simp only [Option.map_some] at hq
       refine ⟨cap,?_,by omega,by omega,by omega,Nat.le_refl _⟩
       rcases lox lo lo' el with ⟨rfl,rfl⟩ | ⟨u,u',rfl,rfl,tl⟩
       · simp only [Option.map_none] at hl
         cases hl
         simp [Instr.sliceBounds,bd y y' q cap _ th hq (by omega) (by omega)]
       · simp only [Option.map_some] at hl
         simp [Instr.sliceBounds,bd y y' q cap _ th hq (by omega) (by omega),bd u u' l q.2.toNat _ tl hl c.1 (by omega)]
   · cases h
 · simp only [Option.map_some] at h
   obtain ⟨pm,hpm,h⟩:=bind_some' h
   obtain ⟨vh,hvh,h⟩:=bind_some' h
   obtain ⟨q,hq,h⟩:=bind_some' h
   split at h
   · rename_i c
     cases h
     rcases lox hi hi' eh with ⟨rfl,rfl⟩ | ⟨y,y',rfl,rfl,th⟩
     · simp at hvh
     · simp only [Option.map_some] at hvh
       cases hvh
       refine ⟨pm.2.toNat,?_,by omega,by omega,by omega,by omega⟩
       rcases lox lo lo' el with ⟨rfl,rfl⟩ | ⟨u,u',rfl,rfl,tl⟩
       · simp only [Option.map_none] at hl
         cases hl
         simp [Instr.sliceBounds,bd m m' pm cap _ tm hpm (by omega) (by omega),bd y y' q pm.2.toNat _ th hq (by omega) (by omega)]
       · simp only [Option.map_some] at hl
         simp [Instr.sliceBounds,bd m m' pm cap _ tm hpm (by omega) (by omega),bd y y' q pm.2.toNat _ th hq (by omega) (by omega),bd u u' l q.2.toNat _ tl hl c.1 (by omega)]
   · cases h

theorem do_slice {T e:TypeId} {z:Nat × Nat × D} {x:Operand} {x':Arg} {lo hi mx:Option Operand} {lo' hi' mx':Option Arg} {call:Call} {v:V} {m':Heap} (hm:MemOK F σ.mem β w.heap)
 (k:EnvOK w.heap (Avail F σ.mem β w.heap) σ.mem β σ.env a) (hT:P.underlying T=some (.slice e)) (hz:elT P e=some z) (ex:trArg x=some x') (el:trOpt lo=some lo') (eh:trOpt hi=some hi')
 (em:trOpt mx=some mx') (h:evO call σ (.slice z.1 x' lo' hi' mx')=some (v,m')) (o:Oper) (ho:o.op=.slice T x lo hi mx):Does P F σ.mem β w (execOp a.eval o) v m':=by
 obtain ⟨ti,hti,hzd,e1,e2,e3,e4,e5⟩:=elT_some hz
 simp only [evO] at h
 obtain ⟨c,hc,h1⟩:=bind_some' h
 clear h
 have h:=h1
 clear h1
 have r:=Rep_arg k ex
 rw [c?_some hc] at r
 have fin:∀ (q:Option Addr) (len cap:Nat) (b:Nat × Nat),a.eval x=.slice q len cap→len≤cap→sliceB (lo'.map σ.arg) (hi'.map σ.arg) (mx'.map σ.arg) len=some b →
  ∃ m,(execOp a.eval o).run P w=.ok (.value (.slice (if m=b.1 then q else q.map (·.add (b.1*ti.size))) (b.2 - b.1) (m - b.1))) w∧b.1≤b.2∧b.2≤m∧b.2≤len∧m≤cap:=by
  intro q len cap b e hcap hb
  obtain ⟨m,h1,h2,h3,h4,h5⟩:=run_sliceB (P:=P) (w:=w) k el eh em hcap hb
  refine ⟨m,?_,h2,h3,h4,h5⟩
  simp only [execOp,ho,Instr.sliceAt,Instr.slice,e,Sem.run_bind,run_underlying hT,Result.andThen_ok,h1,run_size hti,Sem.run_pure]
 split at h
 · rename_i xs
   have r:RepD w.heap (Avail F σ.mem β w.heap) (.list xs) (a.eval x):=r
   split at h
   · rename_i hall
     obtain ⟨b,hb,h1⟩:=bind_some' h
     cases h1
     generalize hv:a.eval x=va at r
     cases r with
     | empty q cap =>
      obtain ⟨m,h1,h2,h3,h4,h5⟩:=fin _ _ _ b hv (Nat.zero_le _) (by simpa using hb)
      refine .same hm h1 ?_
      have h4:b.2=0:=by simpa using h4
      have:b.2 - b.1=0:=by omega
      rw [this]
      simp
      exact RepD.empty _ _
     | list _ b0 q sz cap u hA hsz0 hlen hc' hr hcap =>
      obtain ⟨m,h1,h2,h3,h4,h5⟩:=fin _ _ _ b hv hcap hb
      refine .same hm h1 ?_
      rcases Nat.eq_zero_or_pos (b.2 - b.1) with c0 | c0
      · rw [c0]; simp; exact RepD.empty _ _
      · have hlt:b.1 < xs.length:=by omega
        have hsz':sz=ti.size:=by
         have hd:xs[b.1]?=some xs[b.1]:=List.getElem?_eq_getElem hlt
         rw [List.all_eq_true] at hall
         have:=hall _ (List.getElem_mem hlt)
         rw [←hlen _ _ hd,←e1]
         simpa using this
        subst hsz'
        rw [if_neg (by omega)]
        simp only [Option.map_some,addr_add]
        have hl:((xs.drop b.1).take (b.2 - b.1)).length=b.2 - b.1:=by simp; omega
        show RepD _ _ (.list _) _
        have gg:∀ i,i < b.2 - b.1→((xs.drop b.1).take (b.2 - b.1))[i]?=xs[b.1+i]?:=fun i hi=>by rw [List.getElem?_take_of_lt hi,List.getElem?_drop]
        have gl:∀ (i:Nat) (d:D),((xs.drop b.1).take (b.2 - b.1))[i]?=some d→i < b.2 - b.1:=fun i d hd=>by
         have:=(List.getElem?_eq_some_iff.1 hd).1
         rw [hl] at this; exact this
        have key:=RepD.list (h:=w.heap) (A:=Avail F σ.mem β w.heap) ((xs.drop b.1).take (b.2 - b.1)) b0 (q+b.1*ti.size) ti.size (m - b.1) (fun i j=>u (b.1+i) j) hA hsz0
         (fun i d hd=>by rw [gg i (gl i d hd)] at hd; exact hlen _ _ hd)
         (fun i j hi hj=>by
          rw [hl] at hi
          have:=hc' (b.1+i) j (by omega) hj
          rw [Nat.add_mul] at this
          rw [←this]; congr 1; omega)
         (fun i j d x hd hx=>by rw [gg i (gl i d hd)] at hd; exact hr _ _ _ _ hd hx)
         (by rw [hl]; omega)
        rw [hl] at key
        exact key
   · cases h
 · rename_i s off len
   have r:RepOwn w.heap σ.mem β s off len (a.eval x):=r
   split at h
   · rename_i z' xs hs
     split at h
     · rename_i hzz
       obtain ⟨b,hb,h1⟩:=bind_some' h
       cases h1
       unfold RepOwn at r
       simp only [hs] at r
       obtain ⟨hlen,r⟩:=r
       rcases r with ⟨rfl,b1,b2⟩ | ⟨b0,q,cap,N,b1,b2,b3,b4,b5⟩
       · obtain ⟨m,h1,h2,h3,h4,h5⟩:=fin _ _ _ b b2 (Nat.le_refl _) hb
         refine .same hm h1 ?_
         show RepOwn w.heap σ.mem β s (off+b.1) (b.2 - b.1) _
         unfold RepOwn
         simp only [hs]
         refine ⟨by omega,.inl ⟨by omega,b1,?_⟩⟩
         have e0:b.1=0:=by omega
         have e0':b.2=0:=by omega
         have e0'':m=0:=by omega
         simp [e0,e0',e0'']
       · obtain ⟨m,h1,h2,h3,h4,h5⟩:=fin _ _ _ b b2 b3 hb
         refine .same hm h1 ?_
         show RepOwn w.heap σ.mem β s (off+b.1) (b.2 - b.1) _
         unfold RepOwn
         simp only [hs]
         refine ⟨by omega,?_⟩
         by_cases hmb:m=b.1
         · refine .inl ⟨by omega,some ⟨b0,q+off*z'.cells.length,none⟩,?_⟩
           have e0:b.2 - b.1=0:=by omega
           rw [if_pos hmb,e0,hmb,Nat.sub_self]
         · refine .inr ⟨b0,q,m - b.1,N,b1,?_,by omega,b4,?_⟩
           · rw [if_neg hmb]
             simp only [Option.map_some,addr_add]
             rw [hzz,e1,Nat.add_mul,Nat.add_assoc]
           · have:(off+b.1)*z'.cells.length+(m - b.1)*z'.cells.length=off*z'.cells.length+m*z'.cells.length:=by
              rw [Nat.add_mul,Nat.add_assoc,←Nat.add_mul]
              congr 2; omega
             have h6:m*z'.cells.length≤cap*z'.cells.length:=Nat.mul_le_mul_right _ h5
             omega
     · cases h
   · rename_i z' rs br hs
     split at h
     · rename_i hzz
       obtain ⟨b,hb,h1⟩:=bind_some' h
       cases h1
       unfold RepOwn at r
       simp only [hs] at r
       obtain ⟨hlen,r⟩:=r
       rcases r with ⟨rfl,b1,b2⟩ | ⟨b0,q,cap,N,b1,b2,b3,b4,b5⟩
       · obtain ⟨m,h1,h2,h3,h4,h5⟩:=fin _ _ _ b b2 (Nat.le_refl _) hb
         refine .same hm h1 ?_
         show RepOwn w.heap σ.mem β s (off+b.1) (b.2 - b.1) _
         unfold RepOwn
         simp only [hs]
         refine ⟨by omega,.inl ⟨by omega,b1,?_⟩⟩
         have e0:b.1=0:=by omega
         have e0':b.2=0:=by omega
         have e0'':m=0:=by omega
         simp [e0,e0',e0'']
       · obtain ⟨m,h1,h2,h3,h4,h5⟩:=fin _ _ _ b b2 b3 hb
         refine .same hm h1 ?_
         show RepOwn w.heap σ.mem β s (off+b.1) (b.2 - b.1) _
         unfold RepOwn
         simp only [hs]
         refine ⟨by omega,?_⟩
         by_cases hmb:m=b.1
         · refine .inl ⟨by omega,some ⟨b0,q+off,none⟩,?_⟩
           have e0:b.2 - b.1=0:=by omega
           rw [if_pos hmb,e0,hmb,Nat.sub_self]
         · refine .inr ⟨b0,q,m - b.1,N,b1,?_,by omega,b4,by omega⟩
           rw [if_neg hmb]
           simp only [Option.map_some,addr_add]
           rw [←e1,hzz,Nat.mul_one,Nat.add_assoc]
     · cases h
   · cases h
 · obtain ⟨b,hb,h1⟩:=bind_some' h
   cases h1
   have r:a.eval x=.slice none 0 0:=r
   obtain ⟨m,h1,h2,h3,h4,h5⟩:=fin _ _ _ b r (Nat.le_refl _) hb
   refine .same hm h1 ?_
   have e0:b.1=0:=by omega
   have e0':b.2=0:=by omega
   have e0'':m=0:=by omega
   simp [e0,e0',e0'']
   rfl
 · cases h
end

section
variable {P:Program} {F:Nat→Prop} {β:Place} {w:World} {σ:St} {a:Act}

theorem Evo.make {m m':Heap} {β':Place} {w':World} (hm:MemOK F m β w.heap) {B:Nat→Prop} (os:w'.os=w.os) (tape:w'.tape=w.tape) (out:OutTo w w') (size:w.heap.size≤w'.heap.size)
 (hB:∀ b,B b→Owned m β b∨w.heap.size≤b) (same:∀ b,¬B b→w'.heap[b]?=w.heap[b]?) (own:∀ b,Owned m' β' b→Owned m β b∨w.heap.size≤b)
 (evo:∀ (s:Nat) (sl:Slot),m[s]?=some sl→∃ sl',m'[s]?=some sl'∧(sl'=.dead∨(sl'.like sl∧β' s=β s∧∀ b o,β s=some (b,o)→blkSize w'.heap b=blkSize w.heap b))):Evo F m β w m' β' w' where
 os:=os
 tape:=tape
 output:=out
 size:=size
 av:=fun b ⟨h1,h2,h3⟩=>by
  have nb:¬B b:=fun hb=>by
   rcases hB b hb with c | c
   · exact h3 c
   · omega
  refine ⟨⟨by omega,h2,fun ho=>?_⟩,same b nb⟩
  rcases own b ho with c | c
  · exact h3 c
  · omega
 fo:=fun b h1 h2=>same b fun hb=>by
  rcases hB b hb with c | c
  · exact hm.nf b c h2
  · omega
 own:=own
 evo:=evo

theorem live_of {m:Heap} {s:Nat} {sl:Slot} (h:m[s]?=some sl) (i:Option Nat):live m (s,i)=sl.part i:=by
 unfold live
 simp only [h,Option.bind_some]
theorem part_live {sl x:Slot} {i:Option Nat} (hd:sl≠.dead) (h:sl.part i=some x):x≠.dead:=by
 cases i with
 | none=>cases h; exact hd
 | some i =>
  cases sl with
  | rows z rs br =>
   simp only [Slot.part] at h
   split at h
   · obtain ⟨r,_,rfl⟩:=Option.map_eq_some_iff.1 h; simp
   · cases h
  | _=>cases h
theorem MemOK.make {m m':Heap} {β':Place} {w':World} (hm:MemOK F m β w.heap) (E:Evo F m β w m' β' w')
 (inj:∀ (k l:Key) (sl tl:Slot) (b o o':Nat),live m' k=some sl→sl≠.dead→live m' l=some tl→tl≠.dead→β' k=some (b,o)→β' l=some (b,o')→k=l)
 (slots:∀ (s:Nat) (sl:Slot),m'[s]?=some sl→(m[s]?=some sl∧Still β β' s∧∀ (k:Key) (x:Slot) (b o:Nat),k.1=s→live m k=some x→x≠.dead→β k=some (b,o)→w'.heap[b]?=w.heap[b]?)∨SlotRel w'.heap (Avail F m' β' w'.heap) m' β' s sl):MemOK F m' β' w'.heap where
 slots:=fun s sl hs=>by
  rcases slots s sl hs with ⟨h1,h2,h3⟩ | h
  · by_cases hd:sl=.dead
    · subst hd; trivial
    · exact SlotRel.evo E h2 (fun i x b o hx hb=>h3 (s,i) x b o rfl ((live_of h1 i).trans hx) (part_live hd hx) hb) (hm.slots s sl h1)
  · exact h
 injK:=inj
 nf:=fun b hb hf=>by
  rcases E.own b hb with c | c
  · exact hm.nf b c hf
  · have:=hm.fl b hf; omega
 fl:=fun b hb=>Nat.lt_of_lt_of_le (hm.fl b hb) E.size

def upd (β:Place) (n:Nat) (p:Option (Nat × Nat)):Place:=fun k=>if k=(n,none) then p else β k
theorem upd_same (β:Place) (n:Nat) (p:Option (Nat × Nat)):upd β n p n=p:=by simp [upd]
theorem upd_neK {β:Place} {n:Nat} {k:Key} {p:Option (Nat × Nat)} (h:k.1≠n):upd β n p k=β k:=by
 unfold upd
 rw [if_neg fun e=>h (by rw [e])]
theorem upd_ne {β:Place} {n s:Nat} {p:Option (Nat × Nat)} (h:s≠n):upd β n p s=β s:=upd_neK h
theorem upd_still {β:Place} {n s:Nat} {p:Option (Nat × Nat)} (h:s≠n):Still β (upd β n p) s:=fun _=>upd_neK h

theorem get_push {m:Heap} {sl x:Slot} {s:Nat} (h:(m++[sl])[s]?=some x):(s < m.length∧m[s]?=some x)∨(s=m.length∧x=sl):=by
 rcases Nat.lt_or_ge s m.length with c | c
 · rw [List.getElem?_append_left c] at h; exact .inl ⟨c,h⟩
 · rw [List.getElem?_append_right c] at h
   have:s - m.length=0:=by
    rcases Nat.lt_or_ge (s - m.length) 1 with c' | c'
    · omega
    · rw [List.getElem?_eq_none (by simpa using c')] at h; cases h
   rw [this] at h
   simp at h
   exact .inr ⟨by omega,h.symm⟩
theorem slot_lt {m:Heap} {s:Nat} {sl:Slot} (h:m[s]?=some sl):s < m.length:=(List.getElem?_eq_some_iff.1 h).1
theorem live_lt {m:Heap} {k:Key} {x:Slot} (h:live m k=some x):k.1 < m.length:=by
 obtain ⟨s0,h1,_⟩:=Option.bind_eq_some_iff.1 h
 exact slot_lt h1
theorem live_push {m:Heap} {sl x:Slot} {k:Key} (h:live (m++[sl]) k=some x):(k.1 < m.length∧live m k=some x)∨(k.1=m.length∧sl.part k.2=some x):=by
 obtain ⟨s0,h1,h2⟩:=Option.bind_eq_some_iff.1 h
 rcases get_push h1 with ⟨c,h3⟩ | ⟨c,h3⟩
 · exact .inl ⟨c,by unfold live; rw [h3]; exact h2⟩
 · subst h3; exact .inr ⟨c,h2⟩
theorem live_pushF {m:Heap} {sl x:Slot} {k:Key} (h:live (m++[sl]) k=some x) (hf:sl.flat:=by trivial):(k.1 < m.length∧live m k=some x)∨(k=(m.length,none)∧x=sl):=by
 rcases live_push h with h1 | ⟨c,h1⟩
 · exact .inl h1
 · obtain ⟨e1,e2⟩:=hf.part h1
   obtain ⟨a,b⟩:=k
   simp only at c e1
   subst c e1
   exact .inr ⟨rfl,e2⟩
theorem live_kill {m:Heap} {s:Nat} {k:Key} {x:Slot} (h:live (m.set s .dead) k=some x) (hx:x≠.dead):live m k=some x∧k.1≠s:=by
 obtain ⟨s0,h1,h2⟩:=Option.bind_eq_some_iff.1 h
 rw [List.getElem?_set] at h1
 split at h1
 · split at h1
   · cases h1; exact absurd (part_dead h2) hx
   · cases h1
 · rename_i c
   exact ⟨by unfold live; rw [h1]; exact h2,fun e=>c e.symm⟩
theorem live_set {m:Heap} {s:Nat} {new:Slot} {k:Key} {x:Slot} (h:live (m.set s new) k=some x):(k.1≠s∧live m k=some x)∨(k.1=s∧s < m.length∧new.part k.2=some x):=by
 obtain ⟨s0,h1,h2⟩:=Option.bind_eq_some_iff.1 h
 rw [List.getElem?_set] at h1
 split at h1
 · rename_i c
   split at h1
   · rename_i c2; cases h1; exact .inr ⟨c.symm,by omega,h2⟩
   · cases h1
 · rename_i c
   exact .inl ⟨fun e=>c e.symm,by unfold live; rw [h1]; exact h2⟩

theorem evo_push {m:Heap} (hm:MemOK F m β w.heap) (o:Obj) (sl:Slot) (hf:sl.flat):Evo F m β w (m++[sl]) (upd β m.length (some (w.heap.size,0))) { w with heap:=w.heap.push o }:=by
 refine Evo.make hm (B:=fun b=>b=w.heap.size) rfl rfl ⟨rfl,Nat.le_refl _⟩ (by simp) (fun b hb=>.inr (by omega)) (fun b hb=>?_) ?_ ?_
 · show (w.heap.push o)[b]?=_
   rw [Array.getElem?_push,if_neg (by omega)]
 · rintro b ⟨k,x,p,h1,h2,h3⟩
   rcases live_pushF h1 hf with ⟨c,h⟩ | ⟨c,h⟩
   · rw [upd_neK (by omega)] at h3; exact .inl ⟨k,x,p,h,h2,h3⟩
   · subst c
     rw [upd_same] at h3
     cases h3
     exact .inr (Nat.le_refl _)
 · intro s x hs
   have hl:=slot_lt hs
   have hg:(m++[sl])[s]?=some x:=by rw [List.getElem?_append_left hl]; exact hs
   by_cases hd:x=.dead
   · exact ⟨x,hg,.inl hd⟩
   · refine ⟨x,hg,.inr ⟨Slot.like.refl _,upd_ne (by omega),fun b p hb=>?_⟩⟩
     have:=hm.blk_lt hs hd hb
     exact blkSize_congr (by show (w.heap.push o)[b]?=_; rw [Array.getElem?_push,if_neg (by omega)])
theorem push_inj {m:Heap} (hm:MemOK F m β w.heap) (sl0:Slot) (hf:sl0.flat):∀ (k l:Key) (sl tl:Slot) (b o o':Nat),live (m++[sl0]) k=some sl→sl≠.dead→live (m++[sl0]) l=some tl→tl≠.dead →
 upd β m.length (some (w.heap.size,0)) k=some (b,o)→upd β m.length (some (w.heap.size,0)) l=some (b,o')→k=l:=by
 intro s t sl tl b o o' h1 h2 h3 h4 h5 h6
 rcases live_pushF h1 hf with ⟨c1,k1⟩ | ⟨c1,k1⟩ <;> rcases live_pushF h3 hf with ⟨c2,k2⟩ | ⟨c2,k2⟩
 · rw [upd_neK (by omega)] at h5 h6
   exact hm.injK s t sl tl b o o' k1 h2 k2 h4 h5 h6
 · subst c2
   rw [upd_neK (by omega)] at h5
   rw [upd_same] at h6
   cases h6
   have:=hm.blkK k1 h2 h5
   omega
 · subst c1
   rw [upd_same] at h5
   rw [upd_neK (by omega)] at h6
   cases h5
   have:=hm.blkK k2 h4 h6
   omega
 · rw [c1,c2]
theorem ok_push {m:Heap} (hm:MemOK F m β w.heap) (o:Obj) (sl:Slot) (hf:sl.flat)
 (hs:SlotRel (w.heap.push o) (Avail F (m++[sl]) (upd β m.length (some (w.heap.size,0))) (w.heap.push o)) (m++[sl]) (upd β m.length (some (w.heap.size,0))) m.length sl) :
 MemOK F (m++[sl]) (upd β m.length (some (w.heap.size,0))) (w.heap.push o):=by
 refine MemOK.make hm (evo_push hm o sl hf) (push_inj hm sl hf) fun s x h=>?_
 rcases get_push h with ⟨c,h1⟩ | ⟨c,h1⟩
 · refine .inl ⟨h1,upd_still (by omega),fun k x b p hk hx hd hb=>?_⟩
   have:=hm.blkK hx hd hb
   show (w.heap.push o)[b]?=_
   rw [Array.getElem?_push,if_neg (by omega)]
 · subst c; subst h1; exact .inr hs

theorem cell_push (h:Array Obj) (c:Array Value) (T:TypeId) (j:Nat):cellAt (h.push (.cells c T)) h.size j=c[j]?:=by
 unfold cellAt
 rw [Array.getElem?_push_size]
theorem plain_push (h:Array Obj) (c:Array Value) (T:TypeId):Plain (h.push (.cells c T)) h.size:=⟨c,T,by rw [Array.getElem?_push_size]⟩
theorem size_push (h:Array Obj) (c:Array Value) (T:TypeId):blkSize (h.push (.cells c T)) h.size=some c.size:=by
 unfold blkSize
 rw [Array.getElem?_push_size]

theorem new_cells {m:Heap} (hm:MemOK F m β w.heap) {cs:List C} {vs:Array Value} {T:TypeId} (r:All2 (RepC w.heap (Avail F m β w.heap) m β) cs vs.toList) :
 MemOK F (m++[.cells cs]) (upd β m.length (some (w.heap.size,0))) (w.heap.push (.cells vs T)) ∧
 RepPtr (m++[.cells cs]) (upd β m.length (some (w.heap.size,0))) m.length 0 0 (.pointer (some ⟨w.heap.size,0,none⟩)):=by
 have E:=evo_push hm (.cells vs T) (.cells cs) trivial
 refine ⟨ok_push hm _ _ trivial ⟨w.heap.size,0,upd_same _ _ _,plain_push _ _ _,fun j c hc=>?_⟩,?_⟩
 · obtain ⟨v,hv,hr⟩:=r.get hc
   exact ⟨v,by rw [Nat.zero_add,cell_push]; simpa using hv,RepC.evo E hr⟩
 · unfold RepPtr
   rw [List.getElem?_append_right (Nat.le_refl _),Nat.sub_self]
   exact ⟨rfl,w.heap.size,0,upd_same _ _ _,rfl⟩
theorem new_vals {m:Heap} (hm:MemOK F m β w.heap) {z:D} {xs:List D} {vs:Array Value} {T:TypeId} (hz:0 < z.cells.length) (hall:∀ d∈xs,d.cells.length=z.cells.length)
 (r:∀ (i j:Nat) (d e:D),xs[i]?=some d→d.cells[j]?=some e→∃ v,vs[i*z.cells.length+j]?=some v∧RepD w.heap (Avail F m β w.heap) e v) :
 MemOK F (m++[.vals z xs]) (upd β m.length (some (w.heap.size,0))) (w.heap.push (.cells vs T)) ∧
 (0 < xs.length→RepPtr (m++[.vals z xs]) (upd β m.length (some (w.heap.size,0))) m.length 0 0 (.pointer (some ⟨w.heap.size,0,none⟩))) ∧
 ∀ len cap,len≤xs.length→len≤cap→cap*z.cells.length≤vs.size →
  RepOwn (w.heap.push (.cells vs T)) (m++[.vals z xs]) (upd β m.length (some (w.heap.size,0))) m.length 0 len (.slice (some ⟨w.heap.size,0,none⟩) len cap):=by
 have E:=evo_push hm (.cells vs T) (.vals z xs) trivial
 have hg:(m++[Slot.vals z xs])[m.length]?=some (.vals z xs):=by rw [List.getElem?_append_right (Nat.le_refl _),Nat.sub_self]; rfl
 refine ⟨ok_push hm _ _ trivial ⟨hz,hall,?_⟩,fun h0=>?_,fun len cap h1 h2 h3=>?_⟩
 · rw [upd_same]
   simp only [Lies]
   refine ⟨plain_push _ _ _,fun i j d e hd he=>?_⟩
   obtain ⟨v,hv,hr⟩:=r i j d e hd he
   exact ⟨v,by rw [Nat.zero_add,cell_push]; exact hv,hr.mono E.av⟩
 · unfold RepPtr
   rw [hg]
   exact ⟨h0,w.heap.size,0,upd_same _ _ _,by simp⟩
 · unfold RepOwn
   rw [hg]
   refine ⟨by omega,.inr ⟨w.heap.size,0,cap,vs.size,upd_same _ _ _,by simp,h2,size_push _ _ _,by omega⟩⟩

theorem run_zVal {T:TypeId} {z:Value} (h:zVal P T=some z):(zeroValue T).run P w=.ok z w:=by
 unfold zVal at h
 obtain ⟨i,h1,h2⟩:=bind_some' h
 unfold zeroValue
 simp [run_tyInfo h1,h2]
theorem run_newVar (T:TypeId) (v:Value):(newVar T v).run P w=.ok ⟨w.heap.size,0,none⟩ { w with heap:=w.heap.push (.cells v.cells T) }:=by
 simp [newVar,newRow]

theorem do_alloc {T:TypeId} {cs:List C} {call:Call} {v:V} {m':Heap} (hm:MemOK F σ.mem β w.heap) (hz:zC P T=some cs) (h:evO call σ (.alloc cs)=some (v,m')) (o:Oper) (ho:o.op=.alloc T) :
 Does P F σ.mem β w (execOp a.eval o) v m':=by
 simp only [evO] at h
 cases h
 unfold zC at hz
 obtain ⟨z,hz1,hz2⟩:=bind_some' hz
 obtain ⟨k1,k2⟩:=new_cells hm (T:=T) (RepCs_const (h:=w.heap) (A:=Avail F σ.mem β w.heap) (m:=σ.mem) (β:=β) hz2)
 refine ⟨_,_,_,.inl ?_,k1,evo_push hm _ _ trivial,k2⟩
 simp only [execOp,ho,Instr.alloc,Sem.run_bind,run_zVal hz1,Result.andThen_ok,run_newVar,Sem.run_pure]
theorem do_box {T:TypeId} {x:Operand} {x':Arg} {call:Call} {v:V} {m':Heap} (hm:MemOK F σ.mem β w.heap) (k:EnvOK w.heap (Avail F σ.mem β w.heap) σ.mem β σ.env a)
 (ex:trArg x=some x') (h:evO call σ (.box x')=some (v,m')) (o:Oper) (ho:o.op=.box T x):Does P F σ.mem β w (execOp a.eval o) v m':=by
 simp only [evO] at h
 obtain ⟨cs,hc,h⟩:=bind_some' h
 cases h
 obtain ⟨k1,k2⟩:=new_cells hm (T:=T) (Rep_cs (Rep_arg k ex) hc)
 refine ⟨_,_,_,.inl ?_,k1,evo_push hm _ _ trivial,k2⟩
 simp only [execOp,ho,Instr.box,Sem.run_bind,Result.andThen_ok,run_newVar,Sem.run_pure]

theorem zD_rep {T:TypeId} {z:D} (h:zD P T=some z):∃ zv,zVal P T=some zv∧zv.cells.size=z.cells.length∧∀ (j:Nat) (e:D),z.cells[j]?=some e→∃ v,zv.cells[j]?=some v∧∀ h A,RepD h A e v:=by
 have one:∀ (v:Value) (c:C) (d:D),constC v=some c→cellD c=some d→d.cells=[d]∧v.cells=#[v]∧∀ h A,RepD h A d v:=by
  intro v c d h1 h2
  unfold constC at h1
  split at h1 <;> first | cases h1 | skip
  all_goals
   simp only [cellD] at h2
   try cases h2
  all_goals
   refine ⟨rfl,rfl,fun h A=>?_⟩
   constructor
 unfold zD at h
 obtain ⟨zv,h1,h⟩:=bind_some' h
 refine ⟨zv,h1,?_⟩
 split at h
 · rename_i cs
   obtain ⟨ds,h2,rfl⟩:=Option.map_eq_some_iff.1 h
   obtain ⟨l,h3,h4⟩:=bind_some' h2
   have key:∀ (vs:List Value) (l:List C) (ds:List D),constCs vs=some l→cellsD l=some ds→vs.length=ds.length∧∀ (j:Nat) (e:D),ds[j]?=some e→∃ v,vs[j]?=some v∧∀ h A,RepD h A e v:=by
    intro vs
    induction vs with
    | nil =>
     intro l ds h1 h2
     simp only [constCs] at h1
     cases h1
     simp only [cellsD] at h2
     cases h2
     exact ⟨rfl,fun j e h=>by simp at h⟩
    | cons v r ih =>
     intro l ds h1 h2
     simp only [constCs] at h1
     obtain ⟨c,g1,h1⟩:=bind_some' h1
     obtain ⟨cs,g2,h1⟩:=bind_some' h1
     cases h1
     simp only [cellsD] at h2
     obtain ⟨d,g3,h2⟩:=bind_some' h2
     obtain ⟨ds',g4,h2⟩:=bind_some' h2
     cases h2
     obtain ⟨i1,i2⟩:=ih _ _ g2 g4
     refine ⟨by simp [i1],fun j e h=>?_⟩
     cases j with
     | zero=>simp at h; subst h; exact ⟨v,rfl,(one _ _ _ g1 g3).2.2⟩
     | succ j=>exact i2 j e h
   obtain ⟨i1,i2⟩:=key _ _ _ h3 h4
   refine ⟨by simpa [D.cells,Value.cells] using i1,fun j e he=>?_⟩
   obtain ⟨v,hv,hr⟩:=i2 j e he
   exact ⟨v,by simpa [Value.cells] using hv,hr⟩
 · obtain ⟨c,g1,g2⟩:=bind_some' h
   obtain ⟨d1,d2,d3⟩:=one _ _ _ g1 g2
   rw [d1,d2]
   refine ⟨rfl,fun j e he=>?_⟩
   cases j with
   | zero=>simp at he; subst he; exact ⟨zv,rfl,d3⟩
   | succ j=>simp at he

theorem zeros_get {z:Array Value} {n s:Nat} (hs:z.size=s) (h0:0 < s) {i j:Nat} (hi:i < n) (hj:j < s):((Array.range (n*s)).map fun k=>z[k % z.size]!)[i*s+j]?=z[j]?:=by
 have hlt:i*s+j < n*s:=by
  have:(i+1)*s≤n*s:=Nat.mul_le_mul_right _ hi
  rw [Nat.add_mul] at this; omega
 rw [Array.getElem?_map]
 simp [hlt]
 have e:(i*s+j) % z.size=j:=by rw [hs,Nat.mul_comm,Nat.mul_add_mod]; exact Nat.mod_eq_of_lt hj
 rw [e]
 have:j < z.size:=by omega
 simp [this]

theorem rep_get {n:Nat} {z d:D} {i:Nat} (h:(List.replicate n z)[i]?=some d):i < n∧d=z:=by
 rw [List.getElem?_replicate] at h
 split at h
 · cases h; exact ⟨‹_›,rfl⟩
 · cases h

theorem do_mkslice {T e:TypeId} {z:Nat × Nat × D} {x y:Operand} {x' y':Arg} {call:Call} {v:V} {m':Heap} (hm:MemOK F σ.mem β w.heap) (k:EnvOK w.heap (Avail F σ.mem β w.heap) σ.mem β σ.env a)
 (hT:P.underlying T=some (.slice e)) (hz:elT P e=some z) (ex:trArg x=some x') (ey:trArg y=some y') (h:evO call σ (.mkslice z.2.2 x' y')=some (v,m')) (o:Oper) (ho:o.op=.makeSlice T x y) :
 Does P F σ.mem β w (execOp a.eval o) v m':=by
 obtain ⟨ti,hti,hzd,e1,e2,e3,e4,e5⟩:=elT_some hz
 obtain ⟨zv,z1,z2,z3⟩:=zD_rep hzd
 simp only [evO] at h
 obtain ⟨p,hp,h1⟩:=bind_some' h
 clear h
 obtain ⟨q,hq,h⟩:=bind_some' h1
 clear h1
 have ax:=Rep_int (Rep_arg k ex) hp
 have ay:=Rep_int (Rep_arg k ey) hq
 split at h
 · rename_i c
   cases h
   unfold LIM at c
   obtain ⟨k1,k2,k3⟩:=new_vals hm (T:=e) (z:=z.2.2) (xs:=List.replicate p.2.toNat z.2.2) (vs:=(Array.range (q.2.toNat*ti.size)).map fun k=>zv.cells[k % zv.cells.size]!) (by omega)
    (fun d hd=>by rw [List.eq_of_mem_replicate hd]) (fun i j d x hd hx=>by
     obtain ⟨hi,rfl⟩:=rep_get hd
     obtain ⟨v,hv,hr⟩:=z3 j x hx
     have hj:=(List.getElem?_eq_some_iff.1 hx).1
     refine ⟨v,?_,hr _ _⟩
     rw [e3,zeros_get (by omega) e4 (by omega) (by omega)]
     exact hv)
   refine ⟨_,_,_,.inl ?_,k1,evo_push hm _ _ trivial,k3 p.2.toNat q.2.toNat (by simp) (by omega) (by simp [e3])⟩
   have w1:IntKind.i64.wrap p.2=p.2:=by simp [IntKind.wrap,IntKind.bits,IntKind.signed]; omega
   have w2:IntKind.i64.wrap q.2=q.2:=by simp [IntKind.wrap,IntKind.bits,IntKind.signed]; omega
   have hb:(ti.bytes:Int)*q.2≤16384*4294967296:=Int.mul_le_mul (by omega) (by omega) (by omega) (by omega)
   simp only [execOp,ho,Instr.makeSlice,ax,ay,Sem.run_bind,run_underlying hT,Result.andThen_ok,asInt,asIntOf,Sem.run_pure,run_tyInfo hti,w1,w2,run_size hti,run_askRoom]
   have n1:(decide (q.2 < 0) || decide ((ti.bytes:Int)*q.2 > 2 ^ 48))=false:=by simp; omega
   simp only [n1]
   have n2:((false || decide (p.2 < 0)) || decide (p.2 > q.2))=false:=by simp; omega
   simp only [n2]
   simp only [Bool.false_eq_true,if_false,Sem.run_bind,Sem.run_pure,Result.andThen_ok,run_askRoom,run_size hti]
   by_cases h0:q.2.toNat*ti.size=0
   · have r0:Array.range 0=#[]:=rfl
     simp [h0,newRow,r0]
   · simp [h0,newRow,run_zVal z1]
 · cases h

theorem cellD_rep {h:Array Obj} {A:Nat→Prop} {m:Heap} {c:C} {v:Value} {d:D} (r:RepC h A m β c v) (e:cellD c=some d):RepD h A d v:=by
 unfold cellD at e
 split at e
 · cases e; exact r
 · cases e
   have r:v=.slice none 0 0:=r
   subst r
   exact .empty _ _
 · rename_i f caps
   obtain ⟨ds,h1,h2⟩:=bind_some' e
   cases h2
   obtain ⟨vs,rfl,r⟩:=r
   have key:∀ (caps:List Cap) (vs:List Value) (ds:List D),All2 (RepCap h A m β) caps vs→capsD caps=some ds→vs.length=ds.length∧∀ (i:Nat) (c:D) (v:Value),ds[i]?=some c→vs[i]?=some v→RepD h A c v:=by
    intro caps vs ds r
    induction r generalizing ds with
    | nil=>intro e; simp only [capsD] at e; cases e; exact ⟨rfl,fun i c v h=>by simp at h⟩
    | cons h1 t ih =>
     intro e
     simp only [capsD] at e
     obtain ⟨d,g1,e⟩:=bind_some' e
     obtain ⟨ds',g2,e⟩:=bind_some' e
     cases e
     obtain ⟨i1,i2⟩:=ih _ g2
     refine ⟨by simp [i1],fun i c v hc hv=>?_⟩
     cases i with
     | zero =>
      simp at hc hv
      subst hc hv
      unfold capD at g1
      split at g1
      · cases g1; exact h1
      · cases g1
     | succ i=>exact i2 i c v hc hv
   obtain ⟨k1,k2⟩:=key _ _ _ r h1
   exact .fn _ _ _ (by simpa using k1) (fun i c v hc hv=>k2 i c v hc (by simpa using hv))
 · cases e
theorem cellsD_rep {h:Array Obj} {A:Nat→Prop} {m:Heap} {cs:List C} {vs:List Value} (r:All2 (RepC h A m β) cs vs):∀ {ds:List D},cellsD cs=some ds→All2 (RepD h A) ds vs:=by
 induction r with
 | nil=>intro ds e; simp only [cellsD] at e; cases e; exact .nil
 | cons h1 t ih =>
  intro ds e
  simp only [cellsD] at e
  obtain ⟨d,g1,e⟩:=bind_some' e
  obtain ⟨ds',g2,e⟩:=bind_some' e
  cases e
  exact .cons (cellD_rep h1 g1) (ih g2)

theorem evo_kill {m:Heap} {s:Nat} (w:World):Evo F m β w (m.set s .dead) β w:=by
 have own:∀ b,Owned (m.set s .dead) β b→Owned m β b:=by
  rintro b ⟨t,sl,o,h1,h2,h3⟩
  exact ⟨t,sl,o,(live_kill h1 h2).1,h2,h3⟩
 refine ⟨rfl,rfl,⟨rfl,Nat.le_refl _⟩,Nat.le_refl _,fun b hb=>⟨⟨hb.1,hb.2.1,fun h=>hb.2.2 (own b h)⟩,rfl⟩,fun _ _ _=>rfl,fun b hb=>.inl (own b hb),fun t sl ht=>?_⟩
 by_cases c:s=t
 · subst c
   exact ⟨.dead,by rw [List.getElem?_set_self (slot_lt ht)],.inl rfl⟩
 · exact ⟨sl,by rw [List.getElem?_set_ne c]; exact ht,.inr ⟨Slot.like.refl _,rfl,fun _ _ _=>rfl⟩⟩
theorem ok_kill {m:Heap} (hm:MemOK F m β w.heap) (s:Nat):MemOK F (m.set s .dead) β w.heap:=by
 have get:∀ (t:Nat) (sl:Slot),(m.set s Slot.dead)[t]?=some sl→sl≠Slot.dead→m[t]?=some sl:=by
  intro t sl h1 h2
  rw [List.getElem?_set] at h1
  split at h1
  · split at h1
    · cases h1; exact absurd rfl h2
    · cases h1
  · exact h1
 refine hm.make (w':=w) (evo_kill w) (fun s t sl tl b o o' h1 h2 h3 h4=>hm.injK s t sl tl b o o' (live_kill h1 h2).1 h2 (live_kill h3 h4).1 h4) fun t sl h=>?_
 by_cases hd:sl=.dead
 · subst hd; exact .inr trivial
 · exact .inl ⟨get t sl h hd,fun _=>rfl,fun _ _ _ _ _ _ _ _=>rfl⟩

theorem own_data {m:Heap} (hm:MemOK F m β w.heap) {s off len:Nat} {v:Value} {z:D} {xs:List D} (hs:m[s]?=some (.vals z xs)) (r:RepOwn w.heap m β s off len v) :
 RepD w.heap (Avail F (m.set s .dead) β w.heap) (.list ((xs.drop off).take len)) v:=by
 have hsl:=hm.slots s _ hs
 obtain ⟨hz,hall,hb⟩:=hsl
 unfold RepOwn at r
 simp only [hs] at r
 obtain ⟨hlen,r⟩:=r
 have hl:((xs.drop off).take len).length=len:=by simp; omega
 rcases r with ⟨rfl,x,rfl⟩ | ⟨b,o,cap,N,b1,rfl,b3,b4,b5⟩
 · simp; exact .empty _ _
 · simp only [b1,Lies] at hb
   obtain ⟨hp,hb⟩:=hb
   have E:=evo_kill (F:=F) (β:=β) (m:=m) (s:=s) w
   have hA:Avail F (m.set s .dead) β w.heap b:=by
    have hO:Owned m β b:=.mk hs (by simp) b1
    refine ⟨hp.lt,hm.nf b hO,?_⟩
    rintro ⟨t,sl,o',h1,h2,h3⟩
    obtain ⟨g1,g2⟩:=live_kill h1 h2
    exact g2 (congrArg Prod.fst (hm.injK s t _ sl b o o' (live_s.trans hs) (by simp) g1 h2 b1 h3)).symm
   have gg:∀ i,i < len→((xs.drop off).take len)[i]?=xs[off+i]?:=fun i hi=>by rw [List.getElem?_take_of_lt hi,List.getElem?_drop]
   have ex:∀ i j,i < len→j < z.cells.length→∃ u,cellAt w.heap b (o+off*z.cells.length+i*z.cells.length+j)=some u∧∀ d e,xs[off+i]?=some d→d.cells[j]?=some e→RepD w.heap (Avail F m β w.heap) e u:=by
    intro i j hi hj
    have hlt:off+i < xs.length:=by omega
    have hd:xs[off+i]?=some xs[off+i]:=List.getElem?_eq_getElem hlt
    have hdl:=hall _ (List.getElem_mem hlt)
    obtain ⟨u,hu,hr⟩:=hb (off+i) j _ _ hd (List.getElem?_eq_getElem (by omega:j < xs[off+i].cells.length))
    refine ⟨u,by rw [←hu,Nat.add_mul]; congr 1; omega,fun d e hd' he=>?_⟩
    rw [hd] at hd'
    cases hd'
    rw [List.getElem?_eq_getElem (by omega:j < xs[off+i].cells.length)] at he
    cases he
    exact hr
   have hu:∃ u:Nat→Nat→Value,∀ i j,i < len→j < z.cells.length→cellAt w.heap b (o+off*z.cells.length+i*z.cells.length+j)=some (u i j)∧∀ d e,xs[off+i]?=some d→d.cells[j]?=some e→RepD w.heap (Avail F m β w.heap) e (u i j):=by
    refine ⟨fun i j=>if h:i < len∧j < z.cells.length then Classical.choose (ex i j h.1 h.2) else undef,fun i j hi hj=>?_⟩
    simp only [hi,hj,and_self,dite_true]
    exact Classical.choose_spec (ex i j hi hj)
   obtain ⟨u,hu⟩:=hu
   have gl:∀ (i:Nat) (d:D),((xs.drop off).take len)[i]?=some d→i < len:=fun i d hd=>by
    have:=(List.getElem?_eq_some_iff.1 hd).1
    rw [hl] at this; exact this
   have key:=RepD.list (h:=w.heap) (A:=Avail F (m.set s .dead) β w.heap) ((xs.drop off).take len) b (o+off*z.cells.length) z.cells.length cap u hA hz
    (fun i d hd=>by rw [gg i (gl i d hd)] at hd; exact hall _ (List.mem_of_getElem? hd))
    (fun i j hi hj=>(hu i j (by rw [hl] at hi; exact hi) hj).1)
    (fun i j d e hd he=>by
     have hi:=gl i d hd
     rw [gg i hi] at hd
     have hj:j < z.cells.length:=by rw [←hall d (List.mem_of_getElem? hd)]; exact (List.getElem?_eq_some_iff.1 he).1
     exact ((hu i j hi hj).2 d e hd he).mono E.av)
    (by rw [hl]; exact b3)
   rw [hl] at key
   exact key

theorem lies_data {h:Array Obj} {A A':Nat→Prop} {z:D} {xs:List D} {v:Value} {p:Option (Nat × Nat)} (hz:0 < z.cells.length) (hall:∀ d∈xs,d.cells.length=z.cells.length) (hl:Lies h A z xs p) (hw:Whole h z xs.length v p)
 (hA:∀ b o,p=some (b,o)→A' b) (mono:∀ b,A b→A' b):RepD h A' (.list xs) v:=by
 cases p with
 | none =>
  obtain ⟨h1,x,rfl⟩:=hw
  have:xs=[]:=List.eq_nil_of_length_eq_zero h1
  subst this
  exact .empty _ _
 | some p =>
  obtain ⟨b,o⟩:=p
  obtain ⟨cap,N,rfl,h2,_,_⟩:=hw
  obtain ⟨hp,hb⟩:=hl
  have ex:∀ i j,i < xs.length→j < z.cells.length→∃ u,cellAt h b (o+i*z.cells.length+j)=some u∧∀ d e,xs[i]?=some d→d.cells[j]?=some e→RepD h A e u:=by
   intro i j hi hj
   have hd:xs[i]?=some xs[i]:=List.getElem?_eq_getElem hi
   have hdl:=hall _ (List.getElem_mem hi)
   obtain ⟨u,hu,hr⟩:=hb i j _ _ hd (List.getElem?_eq_getElem (by omega:j < xs[i].cells.length))
   refine ⟨u,hu,fun d e hd' he=>?_⟩
   rw [hd] at hd'; cases hd'
   rw [List.getElem?_eq_getElem (by omega:j < xs[i].cells.length)] at he
   cases he
   exact hr
  obtain ⟨u,hu⟩:∃ u:Nat→Nat→Value,∀ i j,i < xs.length→j < z.cells.length→cellAt h b (o+i*z.cells.length+j)=some (u i j)∧∀ d e,xs[i]?=some d→d.cells[j]?=some e→RepD h A e (u i j):=by
   refine ⟨fun i j=>if h:i < xs.length∧j < z.cells.length then Classical.choose (ex i j h.1 h.2) else undef,fun i j hi hj=>?_⟩
   simp only [hi,hj,and_self,dite_true]
   exact Classical.choose_spec (ex i j hi hj)
  exact RepD.list xs b o z.cells.length cap u (hA b o rfl) hz (fun i d hd=>hall d (List.mem_of_getElem? hd)) (fun i j hi hj=>(hu i j hi hj).1)
   (fun i j d e hd he=>by
    have hi:=(List.getElem?_eq_some_iff.1 hd).1
    have hj:j < z.cells.length:=by rw [←hall d (List.mem_of_getElem? hd)]; exact (List.getElem?_eq_some_iff.1 he).1
    exact RepD.mono (fun b hb=>⟨mono b hb,rfl⟩) ((hu i j hi hj).2 d e hd he)) h2
theorem rows_data {m:Heap} (hm:MemOK F m β w.heap) {s off len:Nat} {v:Value} {z:D} {rs:List (List D)} (hs:m[s]?=some (.rows z rs [])) (r:RepOwn w.heap m β s off len v) :
 RepD w.heap (Avail F (m.set s .dead) β w.heap) (.list (((rs.drop off).take len).map .list)) v:=by
 obtain ⟨hz,hall,b0,o0,e1,hp,hcl⟩:=hm.slots s _ hs
 unfold RepOwn at r
 simp only [hs] at r
 obtain ⟨hlen,r⟩:=r
 have hl:(((rs.drop off).take len).map D.list).length=len:=by simp; omega
 rcases r with ⟨rfl,x,rfl⟩ | ⟨b,o,cap,N,b1,rfl,b3,b4,b5⟩
 · simp; exact .empty _ _
 · rw [e1] at b1; cases b1
   have E:=evo_kill (F:=F) (β:=β) (m:=m) (s:=s) w
   have free:∀ (i:Option Nat) (x:Slot) (b o:Nat),live m (s,i)=some x→x≠.dead→β (s,i)=some (b,o)→Avail F (m.set s .dead) β w.heap b:=by
    intro i x b o hx hd hb
    refine ⟨hm.blkK hx hd hb,hm.nf b ⟨_,_,_,hx,hd,hb⟩,?_⟩
    rintro ⟨t,sl,o',h1,h2,h3⟩
    obtain ⟨g1,g2⟩:=live_kill h1 h2
    exact g2 (congrArg Prod.fst (hm.injK (s,i) t _ sl b o o' hx hd g1 h2 hb h3)).symm
   have each:∀ i,i < len→∃ u,cellAt w.heap b0 (o0+off+i)=some u∧∀ d,(((rs.drop off).take len).map D.list)[i]?=some d→RepD w.heap (Avail F (m.set s .dead) β w.heap) d u:=by
    intro i hi
    have hlt:off+i < rs.length:=by omega
    obtain ⟨u,hu,hh⟩:=hcl (off+i) _ (List.getElem?_eq_getElem hlt)
    simp only [brGet] at hh
    refine ⟨u,by rw [←hu,Nat.add_assoc],fun d hd=>?_⟩
    rw [List.getElem?_map,List.getElem?_take_of_lt hi,List.getElem?_drop,List.getElem?_eq_getElem hlt] at hd
    cases hd
    refine lies_data hz (hall _ (List.getElem_mem hlt)) hh.1 hh.2 (fun b o hb=>?_) (fun b hb=>(E.av b hb).1)
    exact free (some (off+i)) (.vals z rs[off+i]) b o ((live_of hs _).trans (by simp only [Slot.part,brGet,List.getElem?_eq_getElem hlt,Option.map_some])) (by simp) hb
   obtain ⟨u,hu⟩:∃ u:Nat→Value,∀ i,i < len→cellAt w.heap b0 (o0+off+i)=some (u i)∧∀ d,(((rs.drop off).take len).map D.list)[i]?=some d→RepD w.heap (Avail F (m.set s .dead) β w.heap) d (u i):=by
    refine ⟨fun i=>if h:i < len then Classical.choose (each i h) else undef,fun i hi=>?_⟩
    simp only [hi,dite_true]
    exact Classical.choose_spec (each i hi)
   have key:=RepD.list (h:=w.heap) (A:=Avail F (m.set s .dead) β w.heap) (((rs.drop off).take len).map D.list) b0 (o0+off) 1 cap (fun i _=>u i) (free none _ b0 o0 (live_s.trans hs) (by simp) e1) (by omega)
    (fun i d hd=>by rw [List.getElem?_map] at hd; obtain ⟨q,_,rfl⟩:=Option.map_eq_some_iff.1 hd; rfl)
    (fun i j hi hj=>by
     have:j=0:=by omega
     subst this
     rw [Nat.mul_one,Nat.add_zero]
     exact (hu i (by rw [hl] at hi; exact hi)).1)
    (fun i j d e hd he=>by
     have hi:i < len:=by have:=(List.getElem?_eq_some_iff.1 hd).1; rw [hl] at this; exact this
     have hd':=hd
     rw [List.getElem?_map] at hd'
     obtain ⟨q,_,rfl⟩:=Option.map_eq_some_iff.1 hd'
     have:e=D.list q:=by
      cases j with
      | zero=>simp [D.cells] at he; exact he.symm
      | succ j=>simp [D.cells] at he
     subst this
     exact (hu i hi).2 _ hd)
    (by rw [hl]; exact b3)
   rw [hl] at key
   exact key

theorem toD_rep {m m':Heap} (hm:MemOK F m β w.heap) {c:C} {v:Value} {d:D} (r:RepC w.heap (Avail F m β w.heap) m β c v) (e:toD m c=some (d,m')) :
 MemOK F m' β w.heap∧Evo F m β w m' β w∧RepD w.heap (Avail F m' β w.heap) d v:=by
 have other:∀ (x:Option D),cellD c=x→(x.bind fun y=>some (y,m))=some (d,m')→MemOK F m' β w.heap∧Evo F m β w m' β w∧RepD w.heap (Avail F m' β w.heap) d v:=by
  intro x hx hh
  obtain ⟨y,h1,h2⟩:=bind_some' hh
  cases h2
  subst h1
  exact ⟨hm,.refl _ _ _ _,cellD_rep r hx⟩
 cases c with
 | own s off len =>
  simp only [toD] at e
  split at e
  · rename_i z xs hs
    cases e
    exact ⟨ok_kill hm s,evo_kill w,own_data hm hs r⟩
  · rename_i z rs br hs
    split at e
    · rename_i hb
      cases e
      rw [List.isEmpty_iff] at hb
      subst hb
      exact ⟨ok_kill hm s,evo_kill w,rows_data hm hs r⟩
    · cases e
  · cases e
 | _=>exact other _ rfl (by simpa only [toD] using e)
theorem toDs_rep {m m':Heap} (hm:MemOK F m β w.heap) {cs:List C} {vs:List Value} (r:All2 (RepC w.heap (Avail F m β w.heap) m β) cs vs):∀ {ds:List D},toDs m cs=some (ds,m') →
 MemOK F m' β w.heap∧Evo F m β w m' β w∧All2 (RepD w.heap (Avail F m' β w.heap)) ds vs:=by
 induction cs generalizing m vs with
 | nil=>intro ds e; cases r; simp only [toDs] at e; cases e; exact ⟨hm,.refl _ _ _ _,.nil⟩
 | cons c cs ih =>
  intro ds e
  cases r with
  | cons h1 t =>
   simp only [toDs] at e
   obtain ⟨x,g1,e⟩:=bind_some' e
   obtain ⟨y,g2,e⟩:=bind_some' e
   cases e
   obtain ⟨k1,k2,k3⟩:=toD_rep hm h1 g1
   obtain ⟨l1,l2,l3⟩:=ih k1 (t.mono fun _ _ h=>RepC.evo k2 h) g2
   exact ⟨l1,k2.trans l2,.cons (k3.mono l2.av) l3⟩

theorem splice_len {α:Type} {l n:List α} {j:Nat} (h:j+n.length≤l.length):(splice l j n).length=l.length:=by unfold splice; simp; omega
theorem splice_get {α:Type} {l n:List α} {j:Nat} (h:j+n.length≤l.length) (t:Nat):(splice l j n)[t]?=if t < j then l[t]? else if t < j+n.length then n[t - j]? else l[t]?:=by
 have e1:(l.take j).length=j:=by simp; omega
 unfold splice
 by_cases c:t < j
 · rw [if_pos c,List.append_assoc,List.getElem?_append_left (by omega),List.getElem?_take_of_lt c]
 · rw [if_neg c,List.append_assoc,List.getElem?_append_right (by omega),e1]
   by_cases c2:t < j+n.length
   · rw [if_pos c2,List.getElem?_append_left (by omega)]
   · rw [if_neg c2,List.getElem?_append_right (by omega),List.getElem?_drop]
     congr 1; omega
theorem elemOf_cells {z:D} {cs:List D} (hl:cs.length=z.cells.length) (h:∀ c∈cs,c.cells=[c]):(elemOf z cs).cells=cs:=by
 cases z with
 | agg zs=>rfl
 | _ =>
  simp [D.cells] at hl
  match cs,hl with
  | [c],_=>simpa [elemOf] using h c (by simp)

theorem run_put {b p:Nat} {cur:Array Value} {T:TypeId} {vs:List Value} (hb:w.heap[b]?=some (.cells cur T (0,0))) (hp:p+vs.length≤cur.size) (hv:∀ v∈vs,isCell v) :
 ∃ w',(storeCells ⟨b,p,none⟩ vs).run P w=.ok () w'∧w'.os=w.os∧w'.tape=w.tape∧OutTo w w'∧w'.heap.size=w.heap.size∧(∀ b',b'≠b→w'.heap[b']?=w.heap[b']?) ∧
  w'.heap[b]?=some (.cells (splice cur.toList p vs).toArray T (0,0)):=by
 have h:=run_storeCells_at (P:=P) b p T vs 0 cur w hb (by simpa using hp) (fun v hv'=>isCell_one (hv v hv'))
 refine ⟨_,h,rfl,rfl,⟨rfl,Nat.le_refl _⟩,by simp [World.setRow],fun b' hb'=>setRow_other _ _ _ _ hb',?_⟩
 rw [setRow_heap _ _ _ _ _ _ hb]
 simp [splice]

theorem like_set {m:Heap} {s:Nat} {old new:Slot} (hs:m[s]?=some old) (hl:new.like old) {w w':World} (hsz:∀ (t:Nat) (b o:Nat) (sl:Slot),m[t]?=some sl→sl≠.dead→β t=some (b,o)→blkSize w'.heap b=blkSize w.heap b) :
 ∀ (t:Nat) (sl:Slot),m[t]?=some sl→∃ sl',(m.set s new)[t]?=some sl'∧(sl'=.dead∨(sl'.like sl∧β t=β t∧∀ b o,β t=some (b,o)→blkSize w'.heap b=blkSize w.heap b)):=by
 intro t sl ht
 by_cases c:s=t
 · subst c
   rw [hs] at ht
   cases ht
   refine ⟨new,by rw [List.getElem?_set_self (slot_lt hs)],?_⟩
   by_cases hd:old=.dead
   · subst hd
     cases new <;> simp [Slot.like] at hl
     exact .inl rfl
   · exact .inr ⟨hl,rfl,fun b o hb=>hsz s b o old hs hd hb⟩
 · refine ⟨sl,by rw [List.getElem?_set_ne c]; exact ht,?_⟩
   by_cases hd:sl=.dead
   · exact .inl hd
   · exact .inr ⟨Slot.like.refl _,rfl,fun b o hb=>hsz t b o sl ht hd hb⟩

theorem owned_set {m:Heap} {s:Nat} {old new:Slot} (hf:new.flat) (hs:m[s]?=some old) (ho:old≠.dead) {b:Nat} (h:Owned (m.set s new) β b):Owned m β b:=by
 obtain ⟨t,sl,o,h1,h2,h3⟩:=h
 rcases live_set h1 with ⟨c,h4⟩ | ⟨c,_,h4⟩
 · exact ⟨t,sl,o,h4,h2,h3⟩
 · obtain ⟨e,_⟩:=hf.part h4
   obtain ⟨a,i⟩:=t
   simp only at c e
   subst c e
   exact .mk hs ho h3
theorem inj_set {m:Heap} (hm:MemOK F m β w.heap) {s:Nat} {old new:Slot} (hf:new.flat) (hs:m[s]?=some old) (ho:old≠.dead) :
 ∀ (k l:Key) (sl tl:Slot) (b o o':Nat),live (m.set s new) k=some sl→sl≠.dead→live (m.set s new) l=some tl→tl≠.dead→β k=some (b,o)→β l=some (b,o')→k=l:=by
 have get:∀ (t:Key) (sl:Slot),live (m.set s new) t=some sl→sl≠.dead→∃ sl',live m t=some sl'∧sl'≠.dead:=by
  intro t sl h1 h2
  rcases live_set h1 with ⟨c,h4⟩ | ⟨c,_,h4⟩
  · exact ⟨sl,h4,h2⟩
  · obtain ⟨e,_⟩:=hf.part h4
    obtain ⟨a,i⟩:=t
    simp only at c e
    subst c e
    exact ⟨old,live_s.trans hs,ho⟩
 intro s' t sl tl b o o' h1 h2 h3 h4 h5 h6
 obtain ⟨x,x1,x2⟩:=get _ _ h1 h2
 obtain ⟨y,y1,y2⟩:=get _ _ h3 h4
 exact hm.injK s' t x y b o o' x1 x2 y1 y2 h5 h6

theorem do_store {T:TypeId} {x y:Operand} {x' y':Arg} {n:Nat} {call:Call} {v:V} {m':Heap} (hm:MemOK F σ.mem β w.heap) (k:EnvOK w.heap (Avail F σ.mem β w.heap) σ.mem β σ.env a)
 (hn:szT P T=some n) (hn0:n≠0) (ex:trArg x=some x') (ey:trArg y=some y') (h:evO call σ (.store n x' y')=some (v,m')) (o:Oper) (ho:o.op=.store T x y):Does P F σ.mem β w (execOp a.eval o) v m':=by
 simp only [evO] at h
 obtain ⟨c,hc,h1⟩:=bind_some' h
 clear h
 obtain ⟨cs,hcs,h⟩:=bind_some' h1
 clear h1
 split at h
 · rename_i hlen
   obtain ⟨m1,hst,h1⟩:=bind_some' h
   cases h1
   have rx:=Rep_arg k ex
   rw [c?_some hc] at rx
   have ry:=Rep_cs (Rep_arg k ey) hcs
   have lv:(a.eval y).cells.toList.length=n:=by rw [←ry.length]; exact hlen
   have lv2:(a.eval y).cells.size=n:=by simpa using lv
   have fin:∀ (b p:Nat) (w':World),a.eval x=.pointer (some ⟨b,p,none⟩)→(storeCells ⟨b,p,none⟩ (a.eval y).cells.toList).run P w=.ok () w'→(execOp a.eval o).run P w=.ok .skip w':=by
    intro b p w' e hs
    have lv':(a.eval y).cells.size=n:=by simpa using lv
    simp only [execOp,ho,Instr.storeAt,e,Instr.sureAddr,storeVar,Sem.run_bind,Sem.run_pure,Result.andThen_ok,run_szT hn]
    rw [if_neg (by simp [lv'])]
    simp [hs]
   have cellv:∀ u∈(a.eval y).cells.toList,isCell u:=by
    intro u hu
    obtain ⟨i,hi⟩:=List.getElem?_of_mem hu
    have hlt:i < cs.length:=by rw [ry.length]; exact (List.getElem?_eq_some_iff.1 hi).1
    obtain ⟨u',h1,h2⟩:=ry.get (List.getElem?_eq_getElem hlt)
    rw [hi] at h1
    cases h1
    exact h2.isCell
   cases c with
   | ptr s i j =>
    have rx:RepPtr σ.mem β s i j (a.eval x):=rx
    simp only [stC] at hst
    split at hst
    ·
      rename_i z0 xs0 hs0
      obtain ⟨yd,hyd,hst⟩:=bind_some' hst
      obtain ⟨hm1,E1,rd⟩:=toDs_rep hm ry hyd
      split at hst
      · rename_i z xs hs
        split at hst
        · rename_i hj
          cases hst
          have rx1:=RepPtr.evo E1 rx
          unfold RepPtr at rx1
          simp only [hs] at rx1
          obtain ⟨hi,b,q,b1,b2⟩:=rx1
          obtain ⟨hz,hall,hb⟩:=hm1.slots s _ hs
          simp only [b1,Lies] at hb
          obtain ⟨⟨cur,T',hcur⟩,hb⟩:=hb
          have hxi:=hall _ (List.getElem_mem hi)
          have hxg:xs[i]?=some xs[i]:=List.getElem?_eq_getElem hi
          have hin:q+i*z.cells.length+z.cells.length≤cur.size:=by
           obtain ⟨u,hu,_⟩:=hb i (z.cells.length - 1) _ _ hxg (List.getElem?_eq_getElem (by omega:z.cells.length - 1 < xs[i].cells.length))
           simp only [cellAt,hcur] at hu
           have:=(Array.getElem?_eq_some_iff.1 hu).1
           omega
          have ld:yd.1.length=n:=by rw [rd.length]; exact lv
          obtain ⟨w',r1,r2,r3,r4,r5,r6,r7⟩:=run_put (P:=P) (w:=w) (b:=b) (p:=q+i*z.cells.length+j) (vs:=(a.eval y).cells.toList) hcur (by omega) cellv
          have hO:Owned yd.2 β b:=.mk hs (by simp) b1
          have hsplice:j+yd.1.length≤(xs.getD i z).cells.length:=by rw [D_get hxg]; omega
          have hel:(elemOf z (splice (xs.getD i z).cells j yd.1)).cells=splice (xs.getD i z).cells j yd.1:=by
           refine elemOf_cells (by rw [splice_len hsplice,D_get hxg]; exact hxi) fun c hc=>?_
           obtain ⟨t,ht⟩:=List.getElem?_of_mem hc
           rw [splice_get hsplice] at ht
           have old:∀ c,(xs.getD i z).cells[t]?=some c→c.cells=[c]:=by
            intro c hc
            rw [D_get hxg] at hc
            obtain ⟨u,_,hr⟩:=hb i t _ _ hxg hc
            exact hr.cells
           split at ht
           · exact old _ ht
           · split at ht
             · obtain ⟨u,_,hr⟩:=rd.get ht; exact hr.cells
             · exact old _ ht
          have hszb:blkSize w'.heap b=blkSize w.heap b:=by
           simp only [blkSize,r7,hcur]
           congr 1
           rw [List.size_toArray,splice_len (by simp; omega)]
           simp
          have E2:Evo F yd.2 β w (yd.2.set s (.vals z (xs.set i (elemOf z (splice (xs.getD i z).cells j yd.1))))) β w':=by
           refine Evo.make hm1 (B:=fun b'=>b'=b) r2 r3 r4 (by omega) (fun b' e=>.inl (e ▸ hO)) (fun b' hne=>r6 b' hne) (fun b' h=>.inl (owned_set (by trivial) hs (by simp) h)) ?_
           refine like_set hs (by simp [Slot.like]) fun t b' o' sl h1 h2 h3=>?_
           by_cases c:b'=b
           · rw [c]; exact hszb
           · exact blkSize_congr (r6 b' c)
          refine ⟨undef,w',β,.inr ⟨fin b _ w' b2 r1,rfl⟩,?_,E1.trans E2,⟨#[],rfl,.nil⟩⟩
          refine hm1.make E2 (inj_set hm1 (by trivial) hs (by simp)) fun t sl ht=>?_
          by_cases c:s=t
          · subst c
            rw [List.getElem?_set_self (slot_lt hs)] at ht
            cases ht
            right
            refine ⟨hz,fun d hd=>?_,?_⟩
            · rcases List.mem_or_eq_of_mem_set hd with hd | rfl
              · exact hall d hd
              · rw [hel,splice_len hsplice,D_get hxg]; exact hxi
            · rw [b1]
              simp only [Lies]
              refine ⟨⟨_,_,r7⟩,fun i' j' d e hd he=>?_⟩
              have cellw:∀ t,cellAt w'.heap b t=(splice cur.toList (q+i*z.cells.length+j) (a.eval y).cells.toList)[t]?:=by
               intro t; simp only [cellAt,r7]; simp
              rw [cellw,splice_get (by simp; omega)]
              have cellold:∀ t,cellAt w.heap b t=cur.toList[t]?:=by intro t; simp only [cellAt,hcur]; simp
              by_cases ci:i=i'
              · subst ci
                rw [List.getElem?_set_self hi] at hd
                cases hd
                rw [hel] at he
                have hj':j' < z.cells.length:=by
                 have hlt:=(List.getElem?_eq_some_iff.1 he).1
                 rw [splice_len hsplice,D_get hxg] at hlt
                 omega
                rw [splice_get hsplice] at he
                rw [D_get hxg] at he
                by_cases cj:j' < j
                · rw [if_pos cj] at he
                  rw [if_pos (by omega)]
                  obtain ⟨u,hu,hr⟩:=hb i j' _ _ hxg he
                  exact ⟨u,by rw [←cellold]; exact hu,hr.mono E2.av⟩
                · rw [if_neg cj] at he
                  by_cases cj2:j' < j+yd.1.length
                  · rw [if_pos cj2] at he
                    rw [if_neg (by omega),if_pos (by omega)]
                    obtain ⟨u,hu,hr⟩:=rd.get he
                    refine ⟨u,by rw [←hu]; congr 1; omega,hr.mono E2.av⟩
                  · rw [if_neg cj2] at he
                    rw [if_neg (by omega),if_neg (by omega)]
                    obtain ⟨u,hu,hr⟩:=hb i j' _ _ hxg he
                    exact ⟨u,by rw [←cellold]; exact hu,hr.mono E2.av⟩
              · rw [List.getElem?_set_ne ci] at hd
                obtain ⟨u,hu,hr⟩:=hb i' j' d e hd he
                have hj':j' < z.cells.length:=by
                 rw [←hall d (List.mem_of_getElem? hd)]; exact (List.getElem?_eq_some_iff.1 he).1
                refine ⟨u,?_,hr.mono E2.av⟩
                rw [←hu,cellold]
                rcases Nat.lt_or_gt_of_ne ci with c | c
                · have:(i+1)*z.cells.length≤i'*z.cells.length:=Nat.mul_le_mul_right _ c
                  rw [Nat.add_mul] at this
                  rw [if_neg (by omega),if_neg (by omega)]
                · have:(i'+1)*z.cells.length≤i*z.cells.length:=Nat.mul_le_mul_right _ c
                  rw [Nat.add_mul] at this
                  rw [if_pos (by omega)]
          · rw [List.getElem?_set_ne c] at ht
            refine .inl ⟨ht,fun _=>rfl,fun k x b' o' hk hx hd hb'=>r6 b' fun e=>?_⟩
            subst e hk
            exact c (congrArg Prod.fst (hm1.injK s k _ x b' q o' (live_s.trans hs) (by simp) hx hd b1 hb'))
        · split at hst
          · rename_i hj hq
            cases hst
            obtain ⟨rfl,rfl,hz1,hxl⟩:=hq
            have rx1:=RepPtr.evo E1 rx
            unfold RepPtr at rx1
            simp only [hs] at rx1
            obtain ⟨hi,b,q,b1,b2⟩:=rx1
            have b2:a.eval x=.pointer (some ⟨b,q,none⟩):=by rw [b2]; simp
            obtain ⟨hz,hall,hb⟩:=hm1.slots s _ hs
            simp only [b1,Lies] at hb
            obtain ⟨⟨cur,T',hcur⟩,hb⟩:=hb
            have ld:yd.1.length=n:=by rw [rd.length]; exact lv
            have hl:xs.length=n:=hxl.trans hlen
            have hin:q+n≤cur.size:=by
             have hxg:xs[n - 1]?=some (xs[n - 1]'(by omega)):=List.getElem?_eq_getElem (by omega)
             have hc1:=hall _ (List.getElem_mem (by omega:n - 1 < xs.length))
             obtain ⟨u,hu,_⟩:=hb (n - 1) 0 _ _ hxg (List.getElem?_eq_getElem (by omega))
             simp only [cellAt,hcur,hz1] at hu
             have:=(Array.getElem?_eq_some_iff.1 hu).1
             omega
            obtain ⟨w',r1,r2,r3,r4,r5,r6,r7⟩:=run_put (P:=P) (w:=w) (b:=b) (p:=q) (vs:=(a.eval y).cells.toList) hcur (by rw [lv]; exact hin) cellv
            have hO:Owned yd.2 β b:=.mk hs (by simp) b1
            have d1:∀ d∈yd.1,d.cells.length=1:=fun d hd=>by
             obtain ⟨t,ht⟩:=List.getElem?_of_mem hd
             obtain ⟨u,_,hr⟩:=rd.get ht
             rw [hr.cells]; rfl
            have hszb:blkSize w'.heap b=blkSize w.heap b:=by
             simp only [blkSize,r7,hcur]
             congr 1
             rw [List.size_toArray,splice_len (by simp; omega)]
             simp
            have E2:Evo F yd.2 β w (yd.2.set s (.vals z yd.1)) β w':=by
             refine Evo.make hm1 (B:=fun b'=>b'=b) r2 r3 r4 (by omega) (fun b' e=>.inl (e ▸ hO)) (fun b' hne=>r6 b' hne) (fun b' h=>.inl (owned_set (by trivial) hs (by simp) h)) ?_
             refine like_set hs (by simp [Slot.like]; omega) fun t b' o' sl h1 h2 h3=>?_
             by_cases c:b'=b
             · rw [c]; exact hszb
             · exact blkSize_congr (r6 b' c)
            refine ⟨undef,w',β,.inr ⟨fin b _ w' b2 r1,rfl⟩,?_,E1.trans E2,⟨#[],rfl,.nil⟩⟩
            refine hm1.make E2 (inj_set hm1 (by trivial) hs (by simp)) fun t sl ht=>?_
            by_cases c:s=t
            · subst c
              rw [List.getElem?_set_self (slot_lt hs)] at ht
              cases ht
              right
              refine ⟨hz,fun d hd=>(d1 d hd).trans hz1.symm,?_⟩
              rw [b1]
              simp only [Lies]
              refine ⟨⟨_,_,r7⟩,fun i' j' d e hd he=>?_⟩
              obtain ⟨u,hu,hr⟩:=rd.get hd
              rw [hr.cells] at he
              have hj0:j'=0:=by have:=(List.getElem?_eq_some_iff.1 he).1; simp at this; exact this
              subst hj0
              simp at he
              subst he
              have hi':=(List.getElem?_eq_some_iff.1 hd).1
              refine ⟨u,?_,hr.mono E2.av⟩
              have cellw:∀ t,cellAt w'.heap b t=(splice cur.toList q (a.eval y).cells.toList)[t]?:=by
               intro t; simp only [cellAt,r7]; simp
              rw [cellw,splice_get (by simp; omega),hz1,if_neg (by omega),if_pos (by rw [lv]; omega),←hu]
              congr 1
              omega
            · rw [List.getElem?_set_ne c] at ht
              refine .inl ⟨ht,fun _=>rfl,fun k x b' o' hk hx hd hb'=>r6 b' fun e=>?_⟩
              subst e hk
              exact c (congrArg Prod.fst (hm1.injK s k _ x b' q o' (live_s.trans hs) (by simp) hx hd b1 hb'))
          · cases hst
      · cases hst
    ·
      rename_i cs0 hs
      split at hst
      · rename_i hj
        cases hst
        unfold RepPtr at rx
        simp only [hs] at rx
        obtain ⟨rfl,b,q,b1,b2⟩:=rx
        obtain ⟨b',q',b1',⟨cur,T',hcur⟩,hb⟩:=hm.slots s _ hs
        rw [b1] at b1'
        cases b1'
        have hin:q+cs0.length≤cur.size:=by
         obtain ⟨u,hu,_⟩:=hb (cs0.length - 1) _ (List.getElem?_eq_getElem (by omega:cs0.length - 1 < cs0.length))
         simp only [cellAt,hcur] at hu
         have:=(Array.getElem?_eq_some_iff.1 hu).1
         omega
        obtain ⟨w',r1,r2,r3,r4,r5,r6,r7⟩:=run_put (P:=P) (w:=w) (b:=b) (p:=q+j) (vs:=(a.eval y).cells.toList) hcur (by omega) cellv
        have hO:Owned σ.mem β b:=.mk hs (by simp) b1
        have hszb:blkSize w'.heap b=blkSize w.heap b:=by
         simp only [blkSize,r7,hcur]
         congr 1
         rw [List.size_toArray,splice_len (by simp; omega)]
         simp
        have E2:Evo F σ.mem β w (σ.mem.set s (.cells (splice cs0 j cs))) β w':=by
         refine Evo.make hm (B:=fun b'=>b'=b) r2 r3 r4 (by omega) (fun b' e=>.inl (e ▸ hO)) (fun b' hne=>r6 b' hne) (fun b' h=>.inl (owned_set (by trivial) hs (by simp) h)) ?_
         refine like_set hs (by simp only [Slot.like]; exact splice_len hj) fun t b' o' sl h1 h2 h3=>?_
         by_cases c:b'=b
         · rw [c]; exact hszb
         · exact blkSize_congr (r6 b' c)
        refine ⟨undef,w',β,.inr ⟨fin b _ w' b2 r1,rfl⟩,?_,E2,⟨#[],rfl,.nil⟩⟩
        refine hm.make E2 (inj_set hm (by trivial) hs (by simp)) fun t sl ht=>?_
        by_cases c:s=t
        · subst c
          rw [List.getElem?_set_self (slot_lt hs)] at ht
          cases ht
          right
          refine ⟨b,q,b1,⟨_,_,r7⟩,fun j' c hc=>?_⟩
          have cellw:∀ t,cellAt w'.heap b t=(splice cur.toList (q+j) (a.eval y).cells.toList)[t]?:=by
           intro t; simp only [cellAt,r7]; simp
          have cellold:∀ t,cellAt w.heap b t=cur.toList[t]?:=by intro t; simp only [cellAt,hcur]; simp
          rw [cellw,splice_get (by simp; omega)]
          rw [splice_get hj] at hc
          by_cases cj:j' < j
          · rw [if_pos cj] at hc
            rw [if_pos (by omega)]
            obtain ⟨u,hu,hr⟩:=hb j' _ hc
            exact ⟨u,by rw [←cellold]; exact hu,RepC.evo E2 hr⟩
          · rw [if_neg cj] at hc
            by_cases cj2:j' < j+cs.length
            · rw [if_pos cj2] at hc
              rw [if_neg (by omega),if_pos (by omega)]
              obtain ⟨u,hu,hr⟩:=ry.get hc
              exact ⟨u,by rw [←hu]; congr 1; omega,RepC.evo E2 hr⟩
            · rw [if_neg cj2] at hc
              rw [if_neg (by omega),if_neg (by omega)]
              obtain ⟨u,hu,hr⟩:=hb j' _ hc
              exact ⟨u,by rw [←cellold]; exact hu,RepC.evo E2 hr⟩
        · rw [List.getElem?_set_ne c] at ht
          refine .inl ⟨ht,fun _=>rfl,fun k x b' o' hk hx hd hb'=>r6 b' fun e=>?_⟩
          subst e hk
          exact c (congrArg Prod.fst (hm.injK s k _ x b' q o' (live_s.trans hs) (by simp) hx hd b1 hb'))
      · cases hst
    ·
      rename_i z0 rs br hs
      split at hst
      · rename_i c
        split at hst
        · rename_i hj
          cases hst
          subst hj
          unfold RepPtr at rx
          simp only [hs] at rx
          obtain ⟨hi,b,q,b1,b2⟩:=rx
          obtain ⟨h0,h00,b',q',b1',⟨cur,T',hcur⟩,hcl⟩:=hm.slots s _ hs
          rw [b1] at b1'
          cases b1'
          rw [Nat.add_zero] at b2
          obtain ⟨u0,hu0,_⟩:=hcl i _ (List.getElem?_eq_getElem hi)
          have hin:q+i < cur.size:=by
           simp only [cellAt,hcur] at hu0
           exact (Array.getElem?_eq_some_iff.1 hu0).1
          have lv1:(a.eval y).cells.toList.length=1:=by rw [←ry.length]; rfl
          obtain ⟨w',r1,r2,r3,r4,r5,r6,r7⟩:=run_put (P:=P) (w:=w) (b:=b) (p:=q+i) (vs:=(a.eval y).cells.toList) hcur (by omega) cellv
          have hO:Owned σ.mem β b:=.mk hs (by simp) b1
          have hszb:blkSize w'.heap b=blkSize w.heap b:=by
           simp only [blkSize,r7,hcur]
           congr 1
           rw [List.size_toArray,splice_len (by simp; omega)]
           simp
          have own:∀ b',Owned (σ.mem.set s (.rows z0 rs ((i,c)::br))) β b'→Owned σ.mem β b':=by
           rintro b' ⟨k,x,o',h1,h2,h3⟩
           rcases live_set h1 with ⟨c1,h4⟩ | ⟨c1,_,h4⟩
           · exact ⟨k,x,o',h4,h2,h3⟩
           · obtain ⟨k1,k2⟩:=k
             simp only at c1 h4
             subst c1
             cases k2 with
             | none=>exact .mk hs (by simp) h3
             | some j =>
              simp only [Slot.part,brGet] at h4
              by_cases e:i=j
              · rw [if_pos e] at h4; cases h4
              · rw [if_neg e] at h4
                exact ⟨(k1,some j),x,o',(live_of hs (some j)).trans (by simp only [Slot.part]; exact h4),h2,h3⟩
          have E2:Evo F σ.mem β w (σ.mem.set s (.rows z0 rs ((i,c)::br))) β w':=by
           refine Evo.make hm (B:=fun b'=>b'=b) r2 r3 r4 (by omega) (fun b' e=>.inl (e ▸ hO)) (fun b' hne=>r6 b' hne) (fun b' h=>.inl (own b' h)) ?_
           refine like_set hs (by simp [Slot.like]) fun t b' o' sl h1 h2 h3=>?_
           by_cases c:b'=b
           · rw [c]; exact hszb
           · exact blkSize_congr (r6 b' c)
          refine ⟨undef,w',β,.inr ⟨fin b _ w' b2 r1,rfl⟩,?_,E2,⟨#[],rfl,.nil⟩⟩
          refine hm.make E2 (fun k l x1 x2 b1' o1 o2 h1 h2 h3 h4 h5 h6=>?_) fun t sl ht=>?_
          · have old:∀ (k:Key) (x:Slot),live (σ.mem.set s (.rows z0 rs ((i,c)::br))) k=some x→x≠.dead→∃ y,live σ.mem k=some y∧y≠.dead:=by
             intro k x h1 h2
             rcases live_set h1 with ⟨c1,h4⟩ | ⟨c1,_,h4⟩
             · exact ⟨x,h4,h2⟩
             · obtain ⟨k1,k2⟩:=k
               simp only at c1 h4
               subst c1
               cases k2 with
               | none=>exact ⟨_,live_s.trans hs,by simp⟩
               | some j =>
                simp only [Slot.part,brGet] at h4
                by_cases e:i=j
                · rw [if_pos e] at h4; cases h4
                · rw [if_neg e] at h4
                  exact ⟨x,(live_of hs (some j)).trans (by simp only [Slot.part]; exact h4),h2⟩
            obtain ⟨y1,g1,g2⟩:=old k x1 h1 h2
            obtain ⟨y2,g3,g4⟩:=old l x2 h3 h4
            exact hm.injK k l y1 y2 b1' o1 o2 g1 g2 g3 g4 h5 h6
          · by_cases ct:s=t
            · subst ct
              rw [List.getElem?_set_self (slot_lt hs)] at ht
              cases ht
              right
              refine ⟨h0,h00,b,q,b1,⟨_,_,r7⟩,fun j r hr=>?_⟩
              have cellw:∀ t,cellAt w'.heap b t=(splice cur.toList (q+i) (a.eval y).cells.toList)[t]?:=by
               intro t; simp only [cellAt,r7]; simp
              have cellold:∀ t,cellAt w.heap b t=cur.toList[t]?:=by intro t; simp only [cellAt,hcur]; simp
              by_cases ci:i=j
              · subst ci
                obtain ⟨u,hu,hru⟩:=ry.get (i:=0) rfl
                refine ⟨u,?_,?_⟩
                · rw [cellw,splice_get (by simp; omega),if_neg (by omega),if_pos (by omega),Nat.sub_self]; exact hu
                · simp only [brGet,if_true]; exact RepC.evo E2 hru
              · obtain ⟨v,hv,hh⟩:=hcl j r hr
                refine ⟨v,?_,?_⟩
                · rw [cellw,splice_get (by simp; omega)]
                  rcases Nat.lt_or_gt_of_ne ci with c | c
                  · rw [if_neg (by omega),if_neg (by omega),←cellold]; exact hv
                  · rw [if_pos (by omega),←cellold]; exact hv
                · simp only [brGet]
                  rw [if_neg ci]
                  cases hgj:brGet br j with
                  | some c=>simp only [hgj] at hh ⊢; exact hh.evo E2
                  | none =>
                   simp only [hgj] at hh ⊢
                   have same:∀ b' o',β (s,some j)=some (b',o')→w'.heap[b']?=w.heap[b']?:=fun b' o' hb'=>r6 b' fun e=>by
                    subst e
                    have:=hm.injK s (s,some j) _ (.vals z0 r) b' q o' (live_s.trans hs) (by simp) ((live_of hs (some j)).trans (by simp only [Slot.part,hgj,hr,Option.map_some])) (by simp) b1 hb'
                    cases this
                   exact ⟨hh.1.evo E2 same,hh.2.same same⟩
            · rw [List.getElem?_set_ne ct] at ht
              refine .inl ⟨ht,fun _=>rfl,fun k x b' o' hk hx hd hb'=>r6 b' fun e=>?_⟩
              subst e hk
              exact ct (congrArg Prod.fst (hm.injK s k _ x b' q o' (live_s.trans hs) (by simp) hx hd b1 hb'))
        · cases hst
      · cases hst
    · cases hst
   | _=>simp [stC] at hst
 · cases h
end

section
variable {P:Program} {F:Nat→Prop} {β:Place} {w:World} {σ:St} {a:Act}

def rowCells (xs:List D):List D:=xs.flatMap D.cells
theorem rowCells_len {n:Nat}:∀ {xs:List D},(∀ d∈xs,d.cells.length=n)→(rowCells xs).length=xs.length*n
 | [],_=>by simp [rowCells]
 | d::r,h=>by
  have ih:=rowCells_len (xs:=r) fun d hd=>h d (by simp [hd])
  simp only [rowCells,List.flatMap_cons,List.length_append,List.length_cons] at ih ⊢
  rw [ih,h d (by simp),Nat.add_mul]; omega
theorem rowCells_get {n:Nat} (hn:0 < n):∀ {xs:List D},(∀ d∈xs,d.cells.length=n)→∀ (i j:Nat) (d:D),xs[i]?=some d→j < n→(rowCells xs)[i*n+j]?=d.cells[j]?
 | [],_,i,j,d,h,_=>by simp at h
 | x::r,hl,0,j,d,h,hj=>by
  simp at h; subst h
  simp only [rowCells,List.flatMap_cons,Nat.zero_mul,Nat.zero_add]
  rw [List.getElem?_append_left (by rw [hl x (by simp)]; exact hj)]
 | x::r,hl,i+1,j,d,h,hj=>by
  have ih:=rowCells_get hn (xs:=r) (fun d hd=>hl d (by simp [hd])) i j d (by simpa using h) hj
  simp only [rowCells,List.flatMap_cons]
  rw [List.getElem?_append_right (by rw [hl x (by simp),Nat.add_mul]; omega),hl x (by simp)]
  rw [←ih,rowCells]
  congr 1
  rw [Nat.add_mul]; omega

def RowRep (h:Array Obj) (A:Nat→Prop) (xs:List D) (vs:List Value):Prop:=All2 (RepD h A) (rowCells xs) vs

theorem RowRep.get {h:Array Obj} {A:Nat→Prop} {xs:List D} {vs:List Value} {n:Nat} (hn:0 < n) (hl:∀ d∈xs,d.cells.length=n) (r:RowRep h A xs vs) {i j:Nat} {d e:D} (hd:xs[i]?=some d) (he:d.cells[j]?=some e) :
 ∃ v,vs[i*n+j]?=some v∧RepD h A e v:=by
 have hj:j < n:=by rw [←hl d (List.mem_of_getElem? hd)]; exact (List.getElem?_eq_some_iff.1 he).1
 exact All2.get r (by rw [rowCells_get hn hl i j d hd hj]; exact he)
theorem RowRep.of_get {h:Array Obj} {A:Nat→Prop} {xs:List D} {vs:List Value} {n:Nat} (hn:0 < n) (hl:∀ d∈xs,d.cells.length=n) (hv:vs.length=xs.length*n)
 (k:∀ (i j:Nat) (d e:D) (v:Value),xs[i]?=some d→d.cells[j]?=some e→vs[i*n+j]?=some v→RepD h A e v):RowRep h A xs vs:=by
 refine All2.of_get (by rw [rowCells_len hl,hv]) fun t e v he hv'=>?_
 have ht:t < xs.length*n:=by rw [←hv]; exact (List.getElem?_eq_some_iff.1 hv').1
 have hi:t / n < xs.length:=Nat.div_lt_of_lt_mul (by rw [Nat.mul_comm]; exact ht)
 have hj:t % n < n:=Nat.mod_lt _ hn
 have e1:t / n*n+t % n=t:=Nat.div_add_mod' t n
 have hd:xs[t / n]?=some xs[t / n]:=List.getElem?_eq_getElem hi
 rw [←e1,rowCells_get hn hl _ _ _ hd hj] at he
 exact k _ _ _ _ v hd he (by rw [e1]; exact hv')

theorem elems_row {m:Heap} (hm:MemOK F m β w.heap) {c:C} {v:Value} {ys:List D} {n:Nat} (hn:0 < n) (hl:∀ d∈ys,d.cells.length=n) (r:RepC w.heap (Avail F m β w.heap) m β c v) (h:elems m c=some ys) :
 ∃ ad cap vs,v=.slice ad ys.length cap∧RowRep w.heap (Avail F m β w.heap) ys vs∧(∀ w1:World,w1.heap=w.heap→(Builtin.firstCells n ys.length v).run P w1=.ok vs.toArray w1)∧∀ u∈vs,isCell u:=by
 have fin:∀ (b o cap:Nat),v=.slice (some ⟨b,o,none⟩) ys.length cap→(∀ i j,i < ys.length→j < n→∃ u,cellAt w.heap b (o+i*n+j)=some u∧∀ d e,ys[i]?=some d→d.cells[j]?=some e→RepD w.heap (Avail F m β w.heap) e u) →
  ∃ ad cap vs,v=.slice ad ys.length cap∧RowRep w.heap (Avail F m β w.heap) ys vs∧(∀ w1:World,w1.heap=w.heap→(Builtin.firstCells n ys.length v).run P w1=.ok vs.toArray w1)∧∀ u∈vs,isCell u:=by
  intro b o cap e hc
  obtain ⟨vs,h1,h2⟩:=exL (Q:=fun t u=>cellAt w.heap b (o+t)=some u∧∀ d e,ys[t / n]?=some d→d.cells[t % n]?=some e→RepD w.heap (Avail F m β w.heap) e u) (ys.length*n) fun t ht=>by
   have hi:t / n < ys.length:=Nat.div_lt_of_lt_mul (by rw [Nat.mul_comm]; exact ht)
   obtain ⟨u,hu,hr⟩:=hc (t / n) (t % n) hi (Nat.mod_lt _ hn)
   have e1:t / n*n+t % n=t:=Nat.div_add_mod' t n
   exact ⟨u,by rw [←hu,Nat.add_assoc,e1],hr⟩
  have rr:RowRep w.heap (Avail F m β w.heap) ys vs:=RowRep.of_get hn hl h1 fun i j d e v hd he hv=>by
   have hj:j < n:=by rw [←hl d (List.mem_of_getElem? hd)]; exact (List.getElem?_eq_some_iff.1 he).1
   have e1:(i*n+j) / n=i:=by rw [Nat.mul_comm,Nat.mul_add_div hn,Nat.div_eq_of_lt hj,Nat.add_zero]
   have e2:(i*n+j) % n=j:=by rw [Nat.mul_comm,Nat.mul_add_mod]; exact Nat.mod_eq_of_lt hj
   exact (h2 _ v hv).2 d e (by rw [e1]; exact hd) (by rw [e2]; exact he)
  refine ⟨_,_,vs,e,rr,fun w1 hw1=>?_,fun u hu=>?_⟩
  · rw [e]
    simp only [Builtin.firstCells]
    rw [←h1,run_loadCells_list w1 _ vs (fun j u hu=>by rw [cell_at,hw1]; exact (h2 j u hu).1)]
  · obtain ⟨i,hi⟩:=List.getElem?_of_mem hu
    have hlt:i < (rowCells ys).length:=by rw [All2.length rr]; exact (List.getElem?_eq_some_iff.1 hi).1
    obtain ⟨u',g1,g2⟩:=All2.get rr (List.getElem?_eq_getElem hlt)
    rw [hi] at g1; cases g1
    exact g2.isCell
 have nil:∀ ad cap,v=.slice ad 0 cap→ys=[]→∃ ad cap vs,v=.slice ad ys.length cap∧RowRep w.heap (Avail F m β w.heap) ys vs∧(∀ w1:World,w1.heap=w.heap→(Builtin.firstCells n ys.length v).run P w1=.ok vs.toArray w1)∧∀ u∈vs,isCell u:=by
  rintro ad cap rfl rfl
  refine ⟨ad,cap,[],rfl,.nil,fun w1 _=>?_,by simp⟩
  cases ad with
  | none=>rfl
  | some x =>
   simp only [Builtin.firstCells,List.length_nil,Nat.zero_mul]
   have:=run_loadCells_list (P:=P) w1 x [] (by simp)
   simpa using this
 unfold elems at h
 split at h
 · rename_i xs
   cases h
   have r:RepD w.heap (Avail F m β w.heap) (.list ys) v:=r
   cases r with
   | empty ad cap=>exact nil _ _ rfl rfl
   | list _ b o sz cap u hA hsz hlen hc hr hcap =>
    rcases Nat.eq_zero_or_pos ys.length with c0 | c0
    · have:ys=[]:=List.eq_nil_of_length_eq_zero c0
      subst this
      exact nil _ _ rfl rfl
    · have hd:ys[0]?=some ys[0]:=List.getElem?_eq_getElem c0
      have hs:sz=n:=by rw [←hlen _ _ hd,hl _ (List.getElem_mem c0)]
      subst hs
      exact fin b o cap rfl fun i j hi hj=>⟨u i j,hc i j hi hj,fun d e hd he=>hr i j d e hd he⟩
 · cases h
   have r:v=.slice none 0 0:=r
   exact nil _ _ r rfl
 · rename_i s off len
   split at h
   · rename_i z xs hs
     cases h
     have r:RepOwn w.heap m β s off len v:=r
     unfold RepOwn at r
     simp only [hs] at r
     obtain ⟨hlen,r⟩:=r
     have hl':((xs.drop off).take len).length=len:=by simp; omega
     obtain ⟨hz,hall,hb⟩:=hm.slots s _ hs
     rcases r with ⟨rfl,x,rfl⟩ | ⟨b,o,cap,N,b1,rfl,b3,b4,b5⟩
     · exact nil _ _ rfl (by simp)
     · rcases Nat.eq_zero_or_pos len with c0 | c0
       · subst c0; exact nil _ _ rfl (by simp)
       · have hd0:((xs.drop off).take len)[0]?=some (xs[off]'(by omega)):=by
          rw [List.getElem?_take_of_lt c0,List.getElem?_drop]; simp
         have hzn:z.cells.length=n:=by
          rw [←hl _ (List.mem_of_getElem? hd0)]; exact (hall _ (List.getElem_mem _)).symm
         subst hzn
         simp only [b1] at hb
         refine fin b (o+off*z.cells.length) cap (by rw [hl']) fun i j hi hj=>?_
         rw [hl'] at hi
         have hlt:off+i < xs.length:=by omega
         have hd:xs[off+i]?=some xs[off+i]:=List.getElem?_eq_getElem hlt
         obtain ⟨u,hu,hr⟩:=hb.2 (off+i) j _ _ hd (List.getElem?_eq_getElem (by rw [hall _ (List.getElem_mem hlt)]; exact hj))
         refine ⟨u,by rw [←hu,Nat.add_mul]; congr 1; omega,fun d e hd' he=>?_⟩
         rw [List.getElem?_take_of_lt hi,List.getElem?_drop,hd] at hd'
         cases hd'
         rw [List.getElem?_eq_getElem (by rw [hall _ (List.getElem_mem hlt)]; exact hj)] at he
         cases he
         exact hr
   · cases h
 · cases h

theorem rowCells_app (xs ys:List D):rowCells (xs++ys)=rowCells xs++rowCells ys:=by simp [rowCells]
theorem RowRep.app {h:Array Obj} {A:Nat→Prop} {xs ys:List D} {us vs:List Value} (r:RowRep h A xs us) (k:RowRep h A ys vs):RowRep h A (xs++ys) (us++vs):=by
 unfold RowRep
 rw [rowCells_app]
 exact All2.append r k
theorem RowRep.len {h:Array Obj} {A:Nat→Prop} {xs:List D} {vs:List Value} {n:Nat} (r:RowRep h A xs vs) (hl:∀ d∈xs,d.cells.length=n):vs.length=xs.length*n:=by
 rw [←All2.length r,rowCells_len hl]
theorem RowRep.mono {h h':Array Obj} {A A':Nat→Prop} {xs:List D} {vs:List Value} (r:RowRep h A xs vs) (k:∀ b,A b→A' b∧h'[b]?=h[b]?):RowRep h' A' xs vs:=All2.mono r fun _ _ x=>x.mono k

theorem evo_draw {m:Heap} (w:World) (n:Nat):Evo F m β w m β { w with drawn:=w.drawn+n }:=⟨rfl,rfl,⟨rfl,Nat.le_add_right _ _⟩,Nat.le_refl _,fun _ h=>⟨h,rfl⟩,fun _ _ _=>rfl,fun _ h=>.inl h,fun s sl h=>⟨sl,h,.inr ⟨Slot.like.refl _,rfl,fun _ _ _=>rfl⟩⟩⟩

theorem append_grow {m:Heap} {T U e f:TypeId} {z:Nat × Nat × D} {ty:TypeId} (hT:P.underlying T=some (.slice e)) (hU:P.underlying U=some (.slice f)) (hz:elT P e=some z)
 {olds ys:List D} {va vb:Value} {ad:Option Addr} {cap:Nat} {adb:Option Addr} {capb:Nat} {us vs:List Value} (ea:va=.slice ad olds.length cap) (eb:vb=.slice adb ys.length capb)
 (fa:∀ w1:World,w1.heap=w.heap→(Builtin.firstCells z.1 olds.length va).run P w1=.ok us.toArray w1) (fb:∀ w1:World,w1.heap=w.heap→(Builtin.firstCells z.1 ys.length vb).run P w1=.ok vs.toArray w1)
 (la:∀ d∈olds,d.cells.length=z.1) (lb:∀ d∈ys,d.cells.length=z.1) (lim:olds.length+ys.length≤LIM)
 (big:¬olds.length+ys.length≤cap) {m1:Heap} (hm1:MemOK F m1 β w.heap) (E1:Evo F m β w m1 β w) (ra:RowRep w.heap (Avail F m1 β w.heap) olds us) (rb:RowRep w.heap (Avail F m1 β w.heap) ys vs)
 {z':D} (hz':z'.cells.length=z.1) :
 ∃ u w' β',(Builtin.append_ #[T,U] ty #[va,vb]).run P w=.ok u w'∧MemOK F (m1++[.vals z' (olds++ys)]) β' w'.heap∧Evo F m β w (m1++[.vals z' (olds++ys)]) β' w' ∧
  RepOwn w'.heap (m1++[.vals z' (olds++ys)]) β' m1.length 0 (olds.length+ys.length) u:=by
 obtain ⟨ti,hti,hzd,e1,e2,e3,e4,e5⟩:=elT_some hz
 obtain ⟨zv,z1,z2,z3⟩:=zD_rep hzd
 unfold LIM at lim
 obtain ⟨w1,hw1⟩:∃ w1:World,w1=w.drew:=⟨_,rfl⟩
 obtain ⟨nc,hnc⟩:∃ nc,nc=(Question.appendCap (olds.length+ys.length) cap e).cut (w.tape w.drawn (.appendCap (olds.length+ys.length) cap e)):=⟨_,rfl⟩
 have hge:olds.length+ys.length≤nc:=by rw [hnc]; simp only [Question.cut]; omega
 have hh1:w1.heap=w.heap:=by rw [hw1]; rfl
 have ED:Evo F m1 β w m1 β w1:=by rw [hw1]; exact evo_draw w _
 have hm1':MemOK F m1 β w1.heap:=by rw [hh1]; exact hm1
 have us_len:=ra.len la
 have vs_len:=rb.len lb
 have rab:=(ra.app rb).mono (fun b hb=>ED.av b hb)
 have lab:∀ d∈olds++ys,d.cells.length=z'.cells.length:=fun d hd=>by
  rw [hz']
  rcases List.mem_append.1 hd with c | c
  · exact la d c
  · exact lb d c
 obtain ⟨cells,hcells⟩:∃ cells,cells=us.toArray++vs.toArray++Builtin.zeroCells zv.cells (nc - (olds.length+ys.length)):=⟨_,rfl⟩
 have hsize:cells.size=nc*z.1:=by
  rw [hcells]
  simp only [Array.size_append,List.size_toArray,us_len,vs_len,size_zeroCells,z2,e3,e1]
  rw [←Nat.add_mul,←Nat.add_mul]
  congr 1; omega
 obtain ⟨k1,k2,k3⟩:=new_vals hm1' (T:=e) (z:=z') (xs:=olds++ys) (vs:=cells) (by rw [hz',e1]; exact e4) lab (fun i j d x hd hx=>by
  obtain ⟨v,hv,hr⟩:=RowRep.get (by rw [hz',e1]; exact e4) lab rab hd hx
  refine ⟨v,?_,hr⟩
  rw [hcells]
  have hlt:=(List.getElem?_eq_some_iff.1 hv).1
  rw [Array.getElem?_append_left (by simpa using hlt),←hv]
  simp)
 have ko:=k3 (olds.length+ys.length) nc (by simp) hge (by rw [hsize,hz']; exact Nat.le_refl _)
 have E2:=evo_push hm1' (.cells cells e) (.vals z' (olds++ys)) trivial
 refine ⟨_,_,_,?_,k1,(E1.trans ED).trans E2,ko⟩
 have hnx:Builtin.nextslicecap (olds.length+ys.length) cap*ti.bytes≤2*4294967296*16384:=Nat.mul_le_mul (Nat.le_trans (nextslicecap_le (by omega)) (by omega)) e5
 have h63':¬(9223372036854775807 < ((olds.length:Int)+(ys.length:Int))):=by omega
 have h48':¬(281474976710656 < Builtin.nextslicecap (olds.length+ys.length) cap*ti.bytes):=by omega
 have hfo:=fa w1 hh1
 have hf:=fb w1 hh1
 rw [e1] at hfo hf
 have hzz:=run_zVal (P:=P) (w:=w1) z1
 rw [hw1] at hfo hf hzz
 subst ea eb
 have hnc':=hnc
 simp only [Question.cut] at hnc'
 have hgo:(Builtin.append_ #[T,U] ty #[.slice ad olds.length cap,.slice adb ys.length capb]).run P w=.ok (.slice (some ⟨w1.heap.size,0,none⟩) (olds.length+ys.length) nc) { w1 with heap:=w1.heap.push (.cells cells e) }:=by
  rw [hcells,hw1,hnc]
  simp [Builtin.append_,run_underlying hT,run_underlying hU,sizeOf,typeInfo,hti,Builtin.lenOf,big,h63',h48',Question.forced,hf,hfo,hzz,newRow,Question.cut]
  show World.alloc _ _=World.alloc w.drew _
  congr 2
  apply Array.ext'
  simp [List.append_assoc]
 exact hgo

theorem append_room {T U e f:TypeId} {z:Nat × Nat × D} {ty:TypeId} (hT:P.underlying T=some (.slice e)) (hU:P.underlying U=some (.slice f)) (hz:elT P e=some z)
 {sLen n cap capb:Nat} {ad adb:Option Addr} {vs:List Value} (fb:(Builtin.firstCells z.1 n (.slice adb n capb)).run P w=.ok vs.toArray w) (room:sLen+n≤cap) :
 (Builtin.append_ #[T,U] ty #[.slice ad sLen cap,.slice adb n capb]).run P w=match ad with
  | some x=>((storeCells (x.add (sLen*z.1)) vs).run P w).andThen fun _ w'=>.ok (.slice ad (sLen+n) cap) w'
  | none=>.ok (.slice ad (sLen+n) cap) w:=by
 obtain ⟨ti,hti,hzd,e1,e2,e3,e4,e5⟩:=elT_some hz
 rw [e1] at fb ⊢
 cases ad with
 | none=>simp [Builtin.append_,run_underlying hT,run_underlying hU,sizeOf,typeInfo,hti,Builtin.lenOf,room,fb]
 | some x=>simp [Builtin.append_,run_underlying hT,run_underlying hU,sizeOf,typeInfo,hti,Builtin.lenOf,room,fb]

theorem all_len {xs:List D} {n:Nat} (h:(xs.all fun d=>d.cells.length == n)=true):∀ d∈xs,d.cells.length=n:=by
 intro d hd
 have:=List.all_eq_true.1 h d hd
 simpa using this

theorem do_append {T U e f:TypeId} {z:Nat × Nat × D} {x y:Operand} {x' y':Arg} {call:Call} {v:V} {m':Heap} (hm:MemOK F σ.mem β w.heap) (k:EnvOK w.heap (Avail F σ.mem β w.heap) σ.mem β σ.env a)
 (hT:P.underlying T=some (.slice e)) (hU:P.underlying U=some (.slice f)) (hz:elT P e=some z) (ex:trArg x=some x') (ey:trArg y=some y') (h:evO call σ (.append z.2.2 x' y')=some (v,m')) (ty:TypeId) :
 ∃ u w' β',(Builtin.append_ #[T,U] ty #[a.eval x,a.eval y]).run P w=.ok u w'∧MemOK F m' β' w'.heap∧Evo F σ.mem β w m' β' w'∧RepV w'.heap (Avail F m' β' w'.heap) m' β' v u:=by
 obtain ⟨ti,hti,hzd,e1,e2,e3,e4,e5⟩:=elT_some hz
 have hz0:0 < z.1:=by omega
 have hz1:z.2.2.cells.length=z.1:=by omega
 simp only [evO] at h
 obtain ⟨ca,hca,h1⟩:=bind_some' h
 clear h
 obtain ⟨cb,hcb,h2⟩:=bind_some' h1
 clear h1
 obtain ⟨ys,hys,h⟩:=bind_some' h2
 clear h2
 have ra:=Rep_arg k ex
 rw [c?_some hca] at ra
 have rb:=Rep_arg k ey
 rw [c?_some hcb] at rb
 split at h
 · rename_i hall
   have lb:∀ d∈ys,d.cells.length=z.1:=by rw [←hz1]; exact all_len hall
   obtain ⟨adb,capb,vs,eb,rrb,fb,cvs⟩:=elems_row hm hz0 lb rb hys
   have vlen:=rrb.len lb
   have empty:∀ (ad:Option Addr) (m1:Heap) (z':D) (xs:List D),a.eval x=.slice ad 0 0→ys=[]→MemOK F m1 β w.heap→Evo F σ.mem β w m1 β w→z'.cells.length=z.1→xs=[] →
    ∃ u w' β',(Builtin.append_ #[T,U] ty #[a.eval x,a.eval y]).run P w=.ok u w'∧MemOK F (m1++[.vals z' xs]) β' w'.heap∧Evo F σ.mem β w (m1++[.vals z' xs]) β' w' ∧
     RepV w'.heap (Avail F (m1++[.vals z' xs]) β' w'.heap) (m1++[.vals z' xs]) β' (.one (.own m1.length 0 0)) u:=by
    intro ad m1 z' xs ea hy hm1 E1 hz' hxs
    subst hy hxs
    have vs0:vs=[]:=List.eq_nil_of_length_eq_zero (by simpa using vlen)
    subst vs0
    have own:∀ b,Owned (m1++[.vals z' []]) (upd β m1.length none) b→Owned m1 β b:=by
     rintro b ⟨s,sl,o,h1,h2,h3⟩
     rcases live_pushF h1 with ⟨c,h1⟩ | ⟨c,h1⟩
     · rw [upd_neK (by omega)] at h3; exact ⟨s,sl,o,h1,h2,h3⟩
     · subst c; rw [upd_same] at h3; cases h3
    have E2:Evo F m1 β w (m1++[.vals z' []]) (upd β m1.length none) w:=by
     refine Evo.make hm1 (B:=fun _=>False) rfl rfl ⟨rfl,Nat.le_refl _⟩ (Nat.le_refl _) (fun _ h=>h.elim) (fun _ _=>rfl) (fun b hb=>.inl (own b hb)) fun s sl hs=>?_
     have hl:=slot_lt hs
     exact ⟨sl,by rw [List.getElem?_append_left hl]; exact hs,.inr ⟨Slot.like.refl _,upd_ne (by omega),fun _ _ _=>rfl⟩⟩
    refine ⟨.slice ad 0 0,w,upd β m1.length none,?_,?_,E1.trans E2,?_⟩
    · have hr:=append_room (P:=P) (w:=w) (ty:=ty) hT hU hz (sLen:=0) (n:=0) (cap:=0) (capb:=capb) (ad:=ad) (adb:=adb) (vs:=[]) (by have:=fb w rfl; rw [eb] at this; exact this) (Nat.le_refl _)
      rw [ea,eb]
      refine Eq.trans hr ?_
      cases ad with
      | none=>rfl
      | some q=>simp [storeCells]
    · refine hm1.make E2 ?_ fun s sl hs=>?_
      · intro s t sl tl b o o' h1 h2 h3 h4 h5 h6
        rcases live_pushF h1 with ⟨c,h1⟩ | ⟨c,h1⟩
        · rcases live_pushF h3 with ⟨c',h3⟩ | ⟨c',h3⟩
          · rw [upd_neK (by omega)] at h5 h6
            exact hm1.injK s t sl tl b o o' h1 h2 h3 h4 h5 h6
          · subst c'; rw [upd_same] at h6; cases h6
        · subst c; rw [upd_same] at h5; cases h5
      · rcases get_push hs with ⟨c,h1⟩ | ⟨c,h1⟩
        · exact .inl ⟨h1,upd_still (by omega),fun _ _ _ _ _ _ _ _=>rfl⟩
        · subst c h1
          right
          refine ⟨by omega,by simp,?_⟩
          rw [upd_same]
          exact rfl
    · show RepOwn _ _ _ _ _ _ _
      unfold RepOwn
      rw [List.getElem?_append_right (Nat.le_refl _),Nat.sub_self]
      exact ⟨by simp,.inl ⟨rfl,ad,rfl⟩⟩
   split at h
   ·
     split at h
     · rename_i lim
       cases h
       have ra:a.eval x=.slice none 0 0:=ra
       by_cases c0:ys=[]
       · obtain ⟨u,w',β',g1,g2,g3,g4⟩:=empty none σ.mem z.2.2 ys ra c0 hm (.refl _ _ _ _) hz1 c0
         refine ⟨u,w',β',g1,g2,g3,?_⟩
         rw [c0] at g4 ⊢
         exact g4
       · have pos:0 < ys.length:=List.length_pos_iff.2 c0
         obtain ⟨u,w',β',g1,g2,g3,g4⟩:=append_grow (P:=P) (F:=F) (β:=β) (w:=w) (ty:=ty) hT hU hz (olds:=[]) (ys:=ys) ra eb (fun w1 _=>by rw [ra]; rfl) fb (by simp) lb (by simpa using lim) (by simp; omega) hm (.refl _ _ _ _) All2.nil rrb hz1
         refine ⟨u,w',β',g1,g2,g3,?_⟩
         simp only [List.length_nil,Nat.zero_add,List.nil_append] at g4
         exact g4
     · cases h
   ·
     rename_i s off len
     have ra:RepOwn w.heap σ.mem β s off len (a.eval x):=ra
     split at h
     · rename_i z' xs hs
       split at h
       · rename_i hc
         obtain ⟨hzz,lim⟩:=hc
         cases h
         have rown:=ra
         unfold RepOwn at ra
         simp only [hs] at ra
         obtain ⟨hlen,ra⟩:=ra
         have hl':((xs.drop off).take len).length=len:=by simp; omega
         obtain ⟨hz'0,hall',hb⟩:=hm.slots s _ hs
         have la:∀ d∈(xs.drop off).take len,d.cells.length=z.1:=fun d hd=>by
          rw [←hz1,←hzz]; exact hall' d (List.mem_of_mem_drop (List.mem_of_mem_take hd))
         have hm1:=ok_kill hm s
         have E1:=evo_kill (F:=F) (β:=β) (m:=σ.mem) (s:=s) w
         have mlen:(σ.mem.set s .dead).length=σ.mem.length:=List.length_set
         obtain ⟨ada,capa,us,ea,rra,fa,cus⟩:=elems_row (ys:=(xs.drop off).take len) hm hz0 la (c:=.own s off len) rown (by simp only [elems,hs])
         rw [hl'] at ea
         by_cases big:len+ys.length≤capa
         · rcases ra with ⟨rfl,q,ra⟩ | ⟨b,o,cap,N,b1,b2,b3,b4,b5⟩
           · rw [ra] at ea
             cases ea
             have y0:ys=[]:=List.eq_nil_of_length_eq_zero (by omega)
             obtain ⟨u,w',β',g1,g2,g3,g4⟩:=empty ada (σ.mem.set s .dead) z' ((xs.drop off).take 0++ys) ra y0 hm1 E1 (by omega) (by simp [y0])
             refine ⟨u,w',β',g1,g2,g3,?_⟩
             rw [mlen] at g4
             have:0+ys.length=0:=by rw [y0]; rfl
             rw [this]
             exact g4
           · rw [b2] at ea
             cases ea
             simp only [b1,Lies] at hb
             obtain ⟨⟨cur,T',hcur⟩,hb⟩:=hb
             have hN:N=cur.size:=by simp only [blkSize,hcur] at b4; cases b4; rfl
             have hzn:z'.cells.length=z.1:=by omega
             rw [hzn] at b5 hb
             have cap_le:(len+ys.length)*z.1≤capa*z.1:=Nat.mul_le_mul_right _ big
             rw [Nat.add_mul] at cap_le
             obtain ⟨w',r1,r2,r3,r4,r5,r6,r7⟩:=run_put (P:=P) (w:=w) (b:=b) (p:=o+off*z.1+len*z.1) (vs:=vs) hcur (by omega) cvs
             have hO:Owned σ.mem β b:=.mk hs (by simp) b1
             have hszb:blkSize w'.heap b=some N:=by
              simp only [blkSize,r7,hN]
              congr 1
              rw [List.size_toArray,splice_len (by simp; omega)]
              simp
             have get1:∀ (t:Nat) (sl:Slot),(σ.mem.set s Slot.dead)[t]?=some sl→sl≠Slot.dead→σ.mem[t]?=some sl∧t≠s:=by
              intro t sl h1 h2
              by_cases c:s=t
              · subst c; rw [List.getElem?_set_self (slot_lt hs)] at h1; cases h1; exact absurd rfl h2
              · rw [List.getElem?_set_ne c] at h1; exact ⟨h1,fun e=>c e.symm⟩
             have E2:Evo F σ.mem β w (σ.mem.set s .dead++[.vals z' ((xs.drop off).take len++ys)]) (upd β σ.mem.length (some (b,o+off*z.1))) w':=by
              refine Evo.make hm (B:=fun b'=>b'=b) r2 r3 r4 (by omega) (fun b' e=>.inl (e ▸ hO)) (fun b' hne=>r6 b' hne) ?_ ?_
              · rintro b' ⟨t,sl,o',h1,h2,h3⟩
                rcases live_pushF h1 with ⟨c,h1⟩ | ⟨c,h1⟩
                · rw [upd_neK (by omega)] at h3
                  exact .inl ⟨t,sl,o',(live_kill h1 h2).1,h2,h3⟩
                · rw [mlen] at c
                  subst c
                  rw [upd_same] at h3
                  cases h3
                  exact .inl hO
              · intro t sl ht
                have hl:=slot_lt ht
                by_cases c:s=t
                · subst c
                  exact ⟨.dead,by rw [List.getElem?_append_left (by omega),List.getElem?_set_self (slot_lt hs)],.inl rfl⟩
                · refine ⟨sl,by rw [List.getElem?_append_left (by omega),List.getElem?_set_ne c]; exact ht,?_⟩
                  by_cases hd:sl=.dead
                  · exact .inl hd
                  · refine .inr ⟨Slot.like.refl _,upd_ne (by omega),fun b' o' hb'=>?_⟩
                    refine blkSize_congr (r6 b' fun e=>?_)
                    subst e
                    exact c (hm.inj s t _ sl b' o o' hs (by simp) ht hd b1 hb')
             have hr:=append_room (P:=P) (w:=w) (ty:=ty) hT hU hz (sLen:=len) (n:=ys.length) (cap:=capa) (capb:=capb) (ad:=some ⟨b,o+off*z.1,none⟩) (adb:=adb) (vs:=vs) (by have:=fb w rfl; rw [eb] at this; exact this) big
             have r1':(storeCells ((⟨b,o+off*z.1,none⟩:Addr).add (len*z.1)) vs).run P w=.ok () w':=by rw [addr_add]; exact r1
             simp only [r1',Result.andThen_ok] at hr
             refine ⟨.slice (some ⟨b,o+off*z.1,none⟩) (len+ys.length) capa,w',_,?_,?_,E2,?_⟩
             · rw [b2,eb,hzn]; exact hr
             · refine hm.make E2 ?_ fun t sl ht=>?_
               · intro t t' sl tl b' o1 o2 h1 h2 h3 h4 h5 h6
                 rcases live_pushF h1 with ⟨c,h1⟩ | ⟨c,h1⟩
                 · rw [mlen] at c
                   rw [upd_neK (by omega)] at h5
                   rcases live_pushF h3 with ⟨c',h3⟩ | ⟨c',h3⟩
                   · rw [mlen] at c'
                     rw [upd_neK (by omega)] at h6
                     exact hm.injK t t' sl tl b' o1 o2 (live_kill h1 h2).1 h2 (live_kill h3 h4).1 h4 h5 h6
                   · rw [mlen] at c'
                     subst c'
                     rw [upd_same] at h6
                     cases h6
                     exact absurd (congrArg Prod.fst (hm.injK t s sl _ b o1 o (live_kill h1 h2).1 h2 (live_s.trans hs) (by simp) h5 b1)) (live_kill h1 h2).2
                 · rw [mlen] at c
                   subst c
                   rw [upd_same] at h5
                   cases h5
                   rcases live_pushF h3 with ⟨c',h3⟩ | ⟨c',h3⟩
                   · rw [mlen] at c'
                     rw [upd_neK (by omega)] at h6
                     exact absurd (congrArg Prod.fst (hm.injK t' s tl _ b o2 o (live_kill h3 h4).1 h4 (live_s.trans hs) (by simp) h6 b1)) (live_kill h3 h4).2
                   · rw [c',mlen]
               · rcases get_push ht with ⟨c,h1⟩ | ⟨c,h1⟩
                 · by_cases hd:sl=.dead
                   · subst hd; exact .inr trivial
                   · obtain ⟨g1,g2⟩:=get1 t sl h1 hd
                     refine .inl ⟨g1,upd_still (by omega),fun k x b' o' hk hx hd hb'=>r6 b' fun e=>?_⟩
                     subst e hk
                     exact g2 (congrArg Prod.fst (hm.injK k s x _ b' o' o hx hd (live_s.trans hs) (by simp) hb' b1))
                 · rw [mlen] at c
                   subst c h1
                   right
                   refine ⟨by omega,fun d hd=>?_,?_⟩
                   · rw [hzn]
                     rcases List.mem_append.1 hd with hd | hd
                     · exact la d hd
                     · exact lb d hd
                   · rw [upd_same]
                     simp only [Lies]
                     refine ⟨⟨_,_,r7⟩,fun i j d e hd he=>?_⟩
                     have cellw:∀ t,cellAt w'.heap b t=(splice cur.toList (o+off*z.1+len*z.1) vs)[t]?:=by
                      intro t; simp only [cellAt,r7]; simp
                     have cellold:∀ t,cellAt w.heap b t=cur.toList[t]?:=by intro t; simp only [cellAt,hcur]; simp
                     have hjlt:j < z.1:=by
                      have:=(List.getElem?_eq_some_iff.1 he).1
                      rcases List.mem_append.1 (List.mem_of_getElem? hd) with hd | hd
                      · rw [la d hd] at this; exact this
                      · rw [lb d hd] at this; exact this
                     rw [hzn,cellw,splice_get (by simp; omega)]
                     by_cases ci:i < len
                     · rw [List.getElem?_append_left (by omega),List.getElem?_take_of_lt ci,List.getElem?_drop] at hd
                       obtain ⟨u,hu,hr'⟩:=hb (off+i) j d e hd he
                       have:(i+1)*z.1≤len*z.1:=Nat.mul_le_mul_right _ ci
                       rw [Nat.add_mul] at this
                       rw [if_pos (by omega)]
                       refine ⟨u,?_,hr'.mono E2.av⟩
                       rw [←hu,cellold,Nat.add_mul]
                       congr 1; omega
                     · rw [List.getElem?_append_right (by omega),hl'] at hd
                       obtain ⟨u,hu,hr'⟩:=RowRep.get hz0 lb rrb hd he
                       have hlt:=(List.getElem?_eq_some_iff.1 hu).1
                       have e6:i*z.1=len*z.1+(i - len)*z.1:=by rw [←Nat.add_mul]; congr 1; omega
                       rw [if_neg (by omega),if_pos (by omega)]
                       refine ⟨u,?_,hr'.mono E2.av⟩
                       rw [←hu]
                       congr 1; omega
             · show RepOwn _ _ _ _ _ _ _
               unfold RepOwn
               rw [List.getElem?_append_right (by omega),mlen,Nat.sub_self]
               refine ⟨by simp [hl'],.inr ⟨b,o+off*z.1,capa,N,upd_same _ _ _,by simp,big,hszb,?_⟩⟩
               rw [hzn]; simp; omega
         · obtain ⟨u,w',β',g1,g2,g3,g4⟩:=append_grow (P:=P) (F:=F) (β:=β) (w:=w) (ty:=ty) (olds:=(xs.drop off).take len) (ys:=ys) hT hU hz (by rw [hl']; exact ea) eb fa fb la lb (by rw [hl']; exact lim) (by rw [hl']; exact big) hm1 E1
            (rra.mono E1.av) (rrb.mono E1.av) (z':=z') (by omega)
           rw [mlen,hl'] at g4
           exact ⟨u,w',β',g1,g2,g3,g4⟩
       · cases h
     · cases h
   · cases h
 · cases h

theorem fill_one (cs v:Array Value) (off:Nat) (h:off+v.size≤cs.size):v.zipIdx.foldl (fun cs (c,j)=>cs.setIfInBounds (off+j) c) cs=(splice cs.toList off v.toList).toArray:=by
 have key:∀ (l:List Value) (k:Nat) (cs:Array Value),off+k+l.length≤cs.size →
  (l.zipIdx k).foldl (fun cs (x:Value × Nat)=>cs.setIfInBounds (off+x.2) x.1) cs=(splice cs.toList (off+k) l).toArray:=by
  intro l
  induction l with
  | nil=>intro k cs _; simp [splice]
  | cons x r ih =>
   intro k cs hk
   simp only [List.zipIdx_cons,List.foldl_cons]
   simp only [List.length_cons] at hk
   rw [ih (k+1) (cs.setIfInBounds (off+k) x) (by simp; omega)]
   congr 1
   apply List.ext_getElem?
   intro t
   rw [splice_get (by simp; omega),splice_get (by simp; omega)]
   simp only [Array.toList_setIfInBounds,List.getElem?_set,List.length_cons,Array.length_toList]
   by_cases c1:t < off+k
   · rw [if_pos (by omega),if_pos c1,if_neg (by omega)]
   · rw [if_neg c1]
     by_cases c2:t=off+k
     · subst c2
       rw [if_pos (by omega),if_pos rfl,if_pos (by omega),if_pos (by omega)]
       simp
     · by_cases c3:t < off+k+(r.length+1)
       · rw [if_neg (by omega),if_pos (by omega),if_pos c3]
         have:t - (off+k)=t - (off+(k+1))+1:=by omega
         rw [this,List.getElem?_cons_succ]
       · rw [if_neg (by omega),if_neg (by omega),if_neg (by omega),if_neg c3]
 have:=key v.toList 0 cs (by simpa using h)
 rw [←Array.foldl_toList]
 simpa [Array.toList_zipIdx] using this

theorem litParts_ok {z:D} {place:Nat→Option (Nat × Nat)} {len:Nat} (hz:0 < z.cells.length) (hp:∀ i,i < len→place i=some (i*z.cells.length,z.cells.length)) :
 ∀ (parts:List (Nat × V)) (vparts:List (Nat × Value)) (m m':Heap) (xs xs':List D) (cs:Array Value),
  All2 (fun (p:Nat × V) (q:Nat × Value)=>p.1=q.1∧p.1 < len∧RepV w.heap (Avail F m β w.heap) m β p.2 q.2) parts vparts→MemOK F m β w.heap→xs.length=len→(∀ d∈xs,d.cells.length=z.cells.length) →
  RowRep w.heap (Avail F m β w.heap) xs cs.toList→litParts z m xs parts=some (xs',m') →
  ∃ cs',Instr.fill place cs vparts=some cs'∧xs'.length=len∧(∀ d∈xs',d.cells.length=z.cells.length)∧MemOK F m' β w.heap∧Evo F m β w m' β w∧RowRep w.heap (Avail F m' β w.heap) xs' cs'.toList:=by
 intro parts
 induction parts with
 | nil =>
  intro vparts m m' xs xs' cs hr hm hl hall row h
  cases hr
  simp only [litParts] at h
  cases h
  exact ⟨cs,rfl,hl,hall,hm,.refl _ _ _ _,row⟩
 | cons p parts ih =>
  intro vparts m m' xs xs' cs hr hm hl hall row h
  obtain ⟨i,v⟩:=p
  cases hr with
  | @cons _ q _ vs h1 t =>
   obtain ⟨i',u⟩:=q
   obtain ⟨rfl,hi,rv⟩:=h1
   simp only [litParts] at h
   obtain ⟨c,hc,h1⟩:=bind_some' h
   clear h
   obtain ⟨y,hy,h⟩:=bind_some' h1
   clear h1
   split at h
   · rename_i hlen
     have ry:=Rep_cs rv hc
     obtain ⟨hm1,E1,rd⟩:=toDs_rep hm ry hy
     have row1:=row.mono E1.av
     have csz:cs.size=len*z.cells.length:=by rw [←Array.length_toList,RowRep.len row hall,hl]
     have hfit:i*z.cells.length+z.cells.length≤cs.size:=by
      have:(i+1)*z.cells.length≤len*z.cells.length:=Nat.mul_le_mul_right _ hi
      rw [Nat.add_mul] at this; omega
     have usz:u.cells.size=z.cells.length:=by rw [←Array.length_toList,←rd.length]; exact hlen
     have ecells:(elemOf z y.1).cells=y.1:=elemOf_cells hlen fun c hc=>by
      obtain ⟨t,ht⟩:=List.getElem?_of_mem hc
      obtain ⟨x,_,hx⟩:=rd.get ht
      exact hx.cells
     have hall':∀ d∈xs.set i (elemOf z y.1),d.cells.length=z.cells.length:=fun d hd=>by
      rcases List.mem_or_eq_of_mem_set hd with hd | rfl
      · exact hall d hd
      · rw [ecells,hlen]
     have row2:RowRep w.heap (Avail F y.2 β w.heap) (xs.set i (elemOf z y.1)) (splice cs.toList (i*z.cells.length) u.cells.toList):=by
      refine RowRep.of_get hz hall' (by rw [splice_len (by simp; omega),List.length_set,hl]; simpa using csz) fun i' j d e v hd he hv=>?_
      have hj:j < z.cells.length:=by rw [←hall' d (List.mem_of_getElem? hd)]; exact (List.getElem?_eq_some_iff.1 he).1
      rw [splice_get (by simp; omega)] at hv
      by_cases ci:i=i'
      · subst ci
        rw [List.getElem?_set_self (by omega)] at hd
        cases hd
        rw [ecells] at he
        rw [if_neg (by omega),if_pos (by simp; omega)] at hv
        obtain ⟨x,hx,hr⟩:=rd.get he
        have:i*z.cells.length+j - i*z.cells.length=j:=by omega
        rw [this,hx] at hv
        cases hv
        exact hr
      · rw [List.getElem?_set_ne ci] at hd
        obtain ⟨x,hx,hr⟩:=RowRep.get hz hall row1 hd he
        have:v=x:=by
         rcases Nat.lt_or_gt_of_ne ci with c | c
         · have:(i+1)*z.cells.length≤i'*z.cells.length:=Nat.mul_le_mul_right _ c
           rw [Nat.add_mul] at this
           rw [if_neg (by omega),if_neg (by simp; omega),hx] at hv
           cases hv; rfl
         · have:(i'+1)*z.cells.length≤i*z.cells.length:=Nat.mul_le_mul_right _ c
           rw [Nat.add_mul] at this
           rw [if_pos (by omega),hx] at hv
           cases hv; rfl
        subst this
        exact hr
     obtain ⟨cs',g1,g2,g3,g4,g5,g6⟩:=ih vs y.2 m' _ xs' (splice cs.toList (i*z.cells.length) u.cells.toList).toArray (t.mono fun a b hab=>⟨hab.1,hab.2.1,RepV.evo E1 hab.2.2⟩) hm1 (by rw [List.length_set,hl]) hall' (by simpa using row2) h
     refine ⟨cs',?_,g2,g3,g4,E1.trans g5,g6⟩
     simp only [Instr.fill,hp i hi]
     rw [if_neg (by simp [usz]; omega)]
     rw [fill_one _ _ _ (by omega)]
     exact g1
   · cases h
theorem litPartsD_ok {z:D} {place:Nat→Option (Nat × Nat)} {len:Nat} {h0:Array Obj} {A:Nat→Prop} {m:Heap} (hz:0 < z.cells.length) (hp:∀ i,i < len→place i=some (i*z.cells.length,z.cells.length)) :
 ∀ (parts:List (Nat × V)) (vparts:List (Nat × Value)) (xs xs':List D) (cs:Array Value),
  All2 (fun (p:Nat × V) (q:Nat × Value)=>p.1=q.1∧p.1 < len∧RepV h0 A m β p.2 q.2) parts vparts→xs.length=len→(∀ d∈xs,d.cells.length=z.cells.length) →
  RowRep h0 A xs cs.toList→litPartsD z xs parts=some xs' →
  ∃ cs',Instr.fill place cs vparts=some cs'∧xs'.length=len∧(∀ d∈xs',d.cells.length=z.cells.length)∧RowRep h0 A xs' cs'.toList:=by
 intro parts
 induction parts with
 | nil =>
  intro vparts xs xs' cs hr hl hall row h
  cases hr
  simp only [litPartsD] at h
  cases h
  exact ⟨cs,rfl,hl,hall,row⟩
 | cons p parts ih =>
  intro vparts xs xs' cs hr hl hall row h
  obtain ⟨i,v⟩:=p
  cases hr with
  | @cons _ q _ vs h1 t =>
   obtain ⟨i',u⟩:=q
   obtain ⟨rfl,hi,rv⟩:=h1
   simp only [litPartsD] at h
   obtain ⟨c,hc,h1⟩:=bind_some' h
   clear h
   obtain ⟨y,hy,h⟩:=bind_some' h1
   clear h1
   split at h
   · rename_i hlen
     have ry:=Rep_cs rv hc
     have rd:=cellsD_rep ry hy
     have csz:cs.size=len*z.cells.length:=by rw [←Array.length_toList,RowRep.len row hall,hl]
     have hfit:i*z.cells.length+z.cells.length≤cs.size:=by
      have:(i+1)*z.cells.length≤len*z.cells.length:=Nat.mul_le_mul_right _ hi
      rw [Nat.add_mul] at this; omega
     have usz:u.cells.size=z.cells.length:=by rw [←Array.length_toList,←rd.length]; exact hlen
     have ecells:(elemOf z y).cells=y:=elemOf_cells hlen fun c hc=>by
      obtain ⟨t,ht⟩:=List.getElem?_of_mem hc
      obtain ⟨x,_,hx⟩:=rd.get ht
      exact hx.cells
     have hall':∀ d∈xs.set i (elemOf z y),d.cells.length=z.cells.length:=fun d hd=>by
      rcases List.mem_or_eq_of_mem_set hd with hd | rfl
      · exact hall d hd
      · rw [ecells,hlen]
     have row2:RowRep h0 A (xs.set i (elemOf z y)) (splice cs.toList (i*z.cells.length) u.cells.toList):=by
      refine RowRep.of_get hz hall' (by rw [splice_len (by simp; omega),List.length_set,hl]; simpa using csz) fun i' j d e v hd he hv=>?_
      have hj:j < z.cells.length:=by rw [←hall' d (List.mem_of_getElem? hd)]; exact (List.getElem?_eq_some_iff.1 he).1
      rw [splice_get (by simp; omega)] at hv
      by_cases ci:i=i'
      · subst ci
        rw [List.getElem?_set_self (by omega)] at hd
        cases hd
        rw [ecells] at he
        rw [if_neg (by omega),if_pos (by simp; omega)] at hv
        obtain ⟨x,hx,hr⟩:=rd.get he
        have:i*z.cells.length+j - i*z.cells.length=j:=by omega
        rw [this,hx] at hv
        cases hv
        exact hr
      · rw [List.getElem?_set_ne ci] at hd
        obtain ⟨x,hx,hr⟩:=RowRep.get hz hall row hd he
        have:v=x:=by
         rcases Nat.lt_or_gt_of_ne ci with c | c
         · have:(i+1)*z.cells.length≤i'*z.cells.length:=Nat.mul_le_mul_right _ c
           rw [Nat.add_mul] at this
           rw [if_neg (by omega),if_neg (by simp; omega),hx] at hv
           cases hv; rfl
         · have:(i'+1)*z.cells.length≤i*z.cells.length:=Nat.mul_le_mul_right _ c
           rw [Nat.add_mul] at this
           rw [if_pos (by omega),hx] at hv
           cases hv; rfl
        subst this
        exact hr
     obtain ⟨cs',g1,g2,g3,g6⟩:=ih vs _ xs' (splice cs.toList (i*z.cells.length) u.cells.toList).toArray t (by rw [List.length_set,hl]) hall' (by simpa using row2) h
     refine ⟨cs',?_,g2,g3,g6⟩
     simp only [Instr.fill,hp i hi]
     rw [if_neg (by simp [usz]; omega)]
     rw [fill_one _ _ _ (by omega)]
     exact g1
   · cases h
end

end Go.Proofs.YtkeddnagijjbaaaGreat
