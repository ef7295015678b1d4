/- What the functions that the statement StoreAnswers reaches compute, told as functions of Lean, and that the theory's language computes the same: part 1 of 1. There are no conditions. -/
import Derived.Test.YtkeddnagijjbaaaGreatMStoreAnswers
set_option maxRecDepth 100000
set_option linter.unusedVariables false
set_option linter.unusedSimpArgs false
namespace Go.Proofs.YtkeddnagijjbaaaGreat.storeAnswers
open Go
abbrev e_st0 (p:Int × Int):D:=.agg [.int .i64 p.1,.int .i64 p.2]
abbrev e_st1 (p:Int × Int × Int × Int):D:=.agg [.int .i64 p.1,.int .i64 p.2.1,.int .i64 p.2.2.1,.int .i64 p.2.2.2]
def T_shapesearchsecond_Few (k:Nat) (p1:List Int):Option Unit:=match k with
 | 0=>none
 | k+1=>some ()
theorem o2 {k:Nat} {p1:List Int} {r:Unit} (H:T_shapesearchsecond_Few k p1=some r):evF X k n_shapesearchsecond_Few [(LI p1)] []=some ((B (decide ((p1.length:Int)≤400))),[]):=by
 refine Fi X_shapesearchsecond_Few (f:=fun k=>T_shapesearchsecond_Few k p1) H fun k H=>?_
 cases H
 exact Kz 5 (fl (D.int .i64) p1 zz)
def T_store_sample (k:Nat) (p1:Int):Option Unit:=match k with
 | 0=>none
 | k+1=>some ()
theorem o10 {k:Nat} {p1:Int} {r:Unit} (H:T_store_sample k p1=some r):evF X k n_store_sample [(I p1)] []=some ((B (decide ((-1000)≤p1) && decide (p1≤1000))),[]):=by
 refine Fi X_store_sample (f:=fun k=>T_store_sample k p1) H fun k H=>?_
 cases H
 exact Kz 5 (fo (.m) (ff (rfl (a:=([]:Heap))) zz))
def T_store_Check_1 (k:Nat) (p1:Int):Option Bool:=match k with
 | 0=>none
 | k+1=>(((if (!decide (p1=1073741824))=true then ((T_store_sample k p1).bind fun x3=>some (!(decide ((-1000)≤p1) && decide (p1≤1000)))) else some false)).bind fun x4=>some x4)
theorem o9 {k:Nat} {p1:Int} {r:Bool} (H:T_store_Check_1 k p1=some r):evF X k n_store_Check_1 [(I p1)] []=some ((B r),[]):=by
 refine Fi X_store_Check_1 (f:=fun k=>T_store_Check_1 k p1) H fun k H=>?_
 obtain ⟨x4,hx4,H⟩:=bs H
 refine Kx 3 zz ?_
 refine Kc ⟨[(2,(B x4))],[]⟩ ?_ ?_
 · replace H:=hx4
   rcases is H with ⟨hx2,H⟩ | ⟨hx2,H⟩
   · obtain ⟨x3,hx3,H⟩:=bs H
     cases H
     exact Kz 1 (ft hx2 (fc (o10 hx3) zz))
   · cases H
     exact Kz 1 (fn hx2 zz)
 cases H
 exact Kz 1 zz
def T_slices_IndexFunc_b354_l1 (k:Nat) (p1:List Int) (x2:Int) (x8:Int):Option (Int ⊕ (Unit ⊕ Int)) :=
 (if x8 < x2 then ((at? p1 x8).bind fun x10=>(T_store_Check_1 k x10).bind fun x11=>(if x11=true then some (.inr (.inr x8)) else some (.inl (w64 (x8+1))))) else some (.inr (.inl ())))
theorem o8_1 {k:Nat} {p1:List Int} {x2:Int}:Rnd (T_slices_IndexFunc_b354_l1 k p1 x2) (evC X (evF X k) k 0 l_slices_IndexFunc_b354_1) (fun s:Int=>⟨[(0,(LI p1)),(1,(.one (.fn (.func n_store_Check_1) []))),(7,(I x2)),(8,(I s))],[]⟩) (fun r:Unit ⊕ Int=>Sum.elim (fun y=>(.exit 0,⟨[],[]⟩)) (fun y=>(.ret,⟨[(4,(I y))],[]⟩)) r):=rnd fun x8 x H=>by
 rcases is H with ⟨hx9,H⟩ | ⟨hx9,H⟩
 · obtain ⟨x10,hx10,H⟩:=bs H
   obtain ⟨x11,hx11,H⟩:=bs H
   refine Kx 12 (fT hx9 (fi hx10 (fc (o9 hx11) zz))) ?_
   rcases is H with ⟨hx12,H⟩ | ⟨hx12,H⟩
   · cases H
     exact Kz 4 (ft hx12 zz)
   · cases H
     exact Kz 5 (fn hx12 zz)
 · cases H
   exact Kz 5 (fN hx9 zz)
def T_slices_IndexFunc_b354 (k:Nat) (p1:List Int):Option Int:=match k with
 | 0=>none
 | k+1=>((loopT (T_slices_IndexFunc_b354_l1 k p1 (p1.length:Int)) k 0).bind fun x13=>(match x13 with | .inl x14=>some (-1) | .inr x15=>some x15))
theorem o8 {k:Nat} {p1:List Int} {r:Int} (H:T_slices_IndexFunc_b354 k p1=some r):evF X k n_slices_IndexFunc_b354 [(LI p1),(.one (.fn (.func n_store_Check_1) []))] []=some ((I r),[]):=by
 refine Fi X_slices_IndexFunc_b354 (f:=fun k=>T_slices_IndexFunc_b354 k p1) H fun k H=>?_
 obtain ⟨x13,hx13,H⟩:=bs H
 refine Kx 6 (fl (D.int .i64) p1 zz) ?_
 cases x13 with
 | inl x14 =>
  refine Kl (o8_1.go hx13) ?_
  cases H
  exact Kz 3 zz
 | inr x15 =>
  cases H
  exact Klr (o8_1.go hx13)
def T_slices_ContainsFunc_b354 (k:Nat) (p1:List Int):Option Bool:=match k with
 | 0=>none
 | k+1=>((T_slices_IndexFunc_b354 k p1).bind fun x1=>some (decide (0≤x1)))
theorem o7 {k:Nat} {p1:List Int} {r:Bool} (H:T_slices_ContainsFunc_b354 k p1=some r):evF X k n_slices_ContainsFunc_b354 [(LI p1),(.one (.fn (.func n_store_Check_1) []))] []=some ((B r),[]):=by
 refine Fi X_slices_ContainsFunc_b354 (f:=fun k=>T_slices_ContainsFunc_b354 k p1) H fun k H=>?_
 obtain ⟨x1,hx1,H⟩:=bs H
 cases H
 exact Kz 5 (fc (o8 hx1) zz)
def T_store_Check_l1 (k:Nat) (p1:List (List Int)) (x3:Int) (x8:Int × Int):Option ((Int × Int) ⊕ Int) :=
 (if x8.2 < x3 then ((at? p1 x8.2).bind fun x10=>some (.inl ((w64 (x8.1+(x10.length:Int))),(w64 (x8.2+1))))) else some (.inr x8.1))
theorem o6_1 {k:Nat} {p1:List (List Int)} {x3:Int}:Rnd (T_store_Check_l1 k p1 x3) (evC X (evF X k) k 0 l_store_Check_1) (fun s:Int × Int=>⟨[(1,(Pt 0)),(3,(I s.1)),(9,(.one (.d (.list (p1.map (el (D.int .i64))))))),(10,(I x3)),(11,(I s.2))],[.cells [.d (.list (p1.map (el (D.int .i64))))]]⟩) (fun r:Int=>(.exit 0,⟨[(1,(Pt 0)),(3,(I r))],[.cells [.d (.list (p1.map (el (D.int .i64))))]]⟩)):=rnd fun x8 x H=>by
 rcases is H with ⟨hx9,H⟩ | ⟨hx9,H⟩
 · obtain ⟨x10,hx10,H⟩:=bs H
   cases H
   exact Kz 13 (fT hx9 (fa (el (D.int .i64)) (.list []) hx10 (fl (D.int .i64) x10 zz)))
 · cases H
   exact Kz 5 (fN hx9 zz)
def T_store_Check_l2 (k:Nat) (p1:List (List Int)) (x14:Int) (x20:Int):Option (Int ⊕ (Unit ⊕ Unit)) :=
 (if x20 < x14 then ((at? p1 x20).bind fun x22=>(T_slices_ContainsFunc_b354 k x22).bind fun x23=>(if x23=true then some (.inr (.inr ())) else some (.inl (w64 (x20+1))))) else some (.inr (.inl ())))
theorem o6_2 {k:Nat} {p1:List (List Int)} {x14:Int}:Rnd (T_store_Check_l2 k p1 x14) (evC X (evF X k) k 0 l_store_Check_2) (fun s:Int=>⟨[(29,(.one (.d (.list (p1.map (el (D.int .i64))))))),(30,(I x14)),(31,(I s))],[]⟩) (fun r:Unit ⊕ Unit=>Sum.elim (fun y=>(.exit 2,⟨[],[]⟩)) (fun y=>(.ret,⟨[(2,(I 12))],[]⟩)) r):=rnd fun x20 x H=>by
 rcases is H with ⟨hx21,H⟩ | ⟨hx21,H⟩
 · obtain ⟨x22,hx22,H⟩:=bs H
   obtain ⟨x23,hx23,H⟩:=bs H
   refine Kx 12 (fT hx21 (fa (el (D.int .i64)) (.list []) hx22 (fc (o7 hx23) zz))) ?_
   rcases is H with ⟨hx24,H⟩ | ⟨hx24,H⟩
   · cases H
     exact Kz 4 (ft hx24 zz)
   · cases H
     exact Kz 5 (fn hx24 zz)
 · cases H
   exact Kz 5 (fN hx21 zz)
def T_store_Check (k:Nat) (p1:List (List Int)):Option Int:=match k with
 | 0=>none
 | k+1=>((loopT (T_store_Check_l1 k p1 (p1.length:Int)) k (0,0)).bind fun x11=>(if (decide (16 < (p1.length:Int)) || decide (2000 < x11))=true then some 20 else ((loopT (T_store_Check_l2 k p1 (p1.length:Int)) k 0).bind fun x25=>(match x25 with | .inl x26=>some 0 | .inr x27=>some 12))))
theorem o6 {k:Nat} {p1:List (List Int)} {r:Int} (H:T_store_Check k p1=some r):evF X k n_store_Check [(.agg [.d (.list (p1.map (el (D.int .i64))))])] []=some ((I r),[]):=by
 refine Fi X_store_Check (f:=fun k=>T_store_Check k p1) H fun k H=>?_
 obtain ⟨x11,hx11,H⟩:=bs H
 refine Kx 8 (fl (el (D.int .i64)) p1 zz) ?_
 refine Kl (o6_1.go hx11) ?_
 refine Kx 3 (fl (el (D.int .i64)) p1 (fo (.m) (ff (rfl (a:=([.cells [.d (.list (p1.map (el (D.int .i64))))]]:Heap))) zz))) ?_
 rcases is H with ⟨hx12,H⟩ | ⟨hx12,H⟩
 · cases H
   exact Kz 4 (ft hx12 zz)
 · obtain ⟨x25,hx25,H⟩:=bs H
   refine Kx 7 (fn hx12 (fl (el (D.int .i64)) p1 zz)) ?_
   cases x25 with
   | inl x26 =>
    refine Kl (o6_2.go hx25) ?_
    cases H
    exact Kz 3 zz
   | inr x27 =>
    cases H
    exact Klr (o6_2.go hx25)
def T_store_length (k:Nat) (p1:Int):Option Unit:=match k with
 | 0=>none
 | k+1=>some ()
theorem o11 {k:Nat} {p1:Int} {r:Unit} (H:T_store_length k p1=some r):evF X k n_store_length [(I p1)] []=some ((B (decide (2≤p1) && decide (p1≤32))),[]):=by
 refine Fi X_store_length (f:=fun k=>T_store_length k p1) H fun k H=>?_
 cases H
 exact Kz 5 (fo (.m) (ff (rfl (a:=([]:Heap))) zz))
def T_store_check (k:Nat) (p1:List (List Int)) (p2:Int):Option Int:=match k with
 | 0=>none
 | k+1=>((T_store_Check k p1).bind fun x1=>(if (!decide (x1=0))=true then some x1 else ((T_store_length k p2).bind fun x3=>(if (!(decide (2≤p2) && decide (p2≤32)))=true then some 8 else some 0))))
theorem o5 {k:Nat} {p1:List (List Int)} {p2:Int} {r:Int} (H:T_store_check k p1 p2=some r):evF X k n_store_check [(.agg [.d (.list (p1.map (el (D.int .i64))))]),(I p2)] []=some ((I r),[]):=by
 refine Fi X_store_check (f:=fun k=>T_store_check k p1 p2) H fun k H=>?_
 obtain ⟨x1,hx1,H⟩:=bs H
 refine Kx 7 (fc (o6 hx1) zz) ?_
 rcases is H with ⟨hx2,H⟩ | ⟨hx2,H⟩
 · cases H
   exact Kz 4 (ft hx2 zz)
 · obtain ⟨x3,hx3,H⟩:=bs H
   refine Kx 6 (fn hx2 (fc (o11 hx3) zz)) ?_
   rcases is H with ⟨hx4,H⟩ | ⟨hx4,H⟩
   · cases H
     exact Kz 4 (ft hx4 zz)
   · cases H
     exact Kz 6 (fn hx4 zz)
def T_store_Starts_l1 (k:Nat) (p1:List Int) (p2:Int) (x5:Int) (x15:Nat × Int × Int × (List Int)):Option ((Nat × Int × Int × (List Int)) ⊕ ((Nat × (List Int)))) :=
 (if x15.2.2.1 < x5 then ((at? p1 x15.2.2.1).bind fun x17=>((if x17=1073741824 then some (w64 (x15.2.2.1+1)) else some x15.2.1)).bind fun x19=>((if x19≤(w64 ((w64 (x15.2.2.1+1)) - p2)) then (if x15.1+1≤LIM then some ((x15.1+1),((x15.2.2.2.drop 0).take x15.1++([(w64 ((w64 (x15.2.2.1+1)) - p2))]:List Int))) else none) else some (x15.1,x15.2.2.2))).bind fun x22=>some (.inl (x22.1,x19,(w64 (x15.2.2.1+1)),x22.2))) else some (.inr (x15.1,x15.2.2.2)))
theorem o12_1 {k:Nat} {p1:List Int} {p2:Int} {x5:Int}:Rnd (T_store_Starts_l1 k p1 p2 x5) (evC X (evF X k) k 0 l_store_Starts_1) (fun s:Nat × Int × Int × (List Int)=>⟨[(1,(I p2)),(5,(.one (.own 0 0 s.1))),(6,(I s.2.1)),(10,(LI p1)),(11,(I x5)),(12,(I s.2.2.1))],[VI s.2.2.2]⟩) (fun r:(Nat × (List Int))=>(.exit 0,⟨[(5,(.one (.own 0 0 r.1)))],[VI r.2]⟩)):=rnd fun x15 x H=>by
 rcases is H with ⟨hx16,H⟩ | ⟨hx16,H⟩
 · obtain ⟨x17,hx17,H⟩:=bs H
   obtain ⟨x19,hx19,H⟩:=bs H
   refine Kx 13 (fT hx16 (fi hx17 zz)) ?_
   refine Kc ⟨[(1,(I p2)),(5,(.one (.own 0 0 x15.1))),(6,(I x19)),(7,(I x15.2.2.1)),(10,(LI p1)),(11,(I x5)),(12,(I x15.2.2.1))],[VI x15.2.2.2]⟩ ?_ ?_
   · replace H:=hx19
     rcases is H with ⟨hx18,H⟩ | ⟨hx18,H⟩
     · cases H
       exact Kz 2 (fT hx18 zz)
     · cases H
       exact Kz 3 (fN hx18 zz)
   obtain ⟨x22,hx22,H⟩:=bs H
   refine Kx 4 zz ?_
   refine Kc ⟨[(1,(I p2)),(5,(.one (.own 0 0 x22.1))),(6,(I x19)),(10,(LI p1)),(11,(I x5)),(12,(I x15.2.2.1))],[VI x22.2]⟩ ?_ ?_
   · replace H:=hx22
     rcases is H with ⟨hx20,H⟩ | ⟨hx20,H⟩
     · obtain ⟨hx21,H⟩:=gs H
       cases H
       exact Kz 2 (fT hx20 (fP (D.int .i64) 1 x15.2.2.2 0 x15.1 ([(w64 ((w64 (x15.2.2.1+1)) - p2))]:List Int) 1 hx21 zz))
     · cases H
       exact Kz 3 (fN hx20 zz)
   cases H
   exact Kz 2 zz
 · cases H
   exact Kz 5 (fN hx16 zz)
def T_store_Starts (k:Nat) (p1:List Int) (p2:Int):Option ((List Int)):=match k with
 | 0=>none
 | k+1=>((loopT (T_store_Starts_l1 k p1 p2 (p1.length:Int)) k (0,0,0,[])).bind fun x23=>some ((x23.2.drop 0).take x23.1))
theorem o12 {k:Nat} {p1:List Int} {p2:Int} {r:(List Int)} (H:T_store_Starts k p1 p2=some r):evF X k n_store_Starts [(LI p1),(I p2)] []=some ((LI r),[]):=by
 refine Fi X_store_Starts (f:=fun k=>T_store_Starts k p1 p2) H fun k H=>?_
 obtain ⟨x23,hx23,H⟩:=bs H
 refine Kx 11 (fl (D.int .i64) p1 zz) ?_
 refine Kl (o12_1.go hx23) ?_
 cases H
 exact Kw 3 (some ((.one (.d (.list (((x23.2.map (D.int .i64)).drop 0).take x23.1)))),[])) zz (by simp only [dt_map,rl_map,LI,VI])
def T_store_Places_l1 (k:Nat) (p1:List (List Int)) (p2:Int) (x6:Int) (x33:(List Int)) (x36:Int) (x39:Int) (x41:Int) (x47:Nat × Int × (List (Int × Int))):Option ((Nat × Int × (List (Int × Int))) ⊕ ((Nat × (List (Int × Int))))) :=
 (if x47.2.1 < x41 then (at? x33 x47.2.1).bind fun x49=>(if x47.1+1≤LIM then some (.inl ((x47.1+1),(w64 (x47.2.1+1)),((x47.2.2.drop 0).take x47.1++([(x36,x49)]:List (Int × Int))))) else none) else some (.inr (x47.1,x47.2.2)))
theorem o4_1 {k:Nat} {p1:List (List Int)} {p2:Int} {x6:Int} {x33:(List Int)} {x36:Int} {x39:Int} {x41:Int}:Rnd (T_store_Places_l1 k p1 p2 x6 x33 x36 x39 x41) (evC X (evF X k) k 0 l_store_Places_1) (fun s:Nat × Int × (List (Int × Int))=>⟨[(1,(I p2)),(7,(.one (.own 0 0 s.1))),(8,(I x36)),(19,(.one (.d (.list (p1.map (el (D.int .i64))))))),(20,(I x6)),(21,(I x39)),(28,(LI x33)),(29,(I x41)),(30,(I s.2.1))],[.vals (.agg [(.int .i64 0),(.int .i64 0)]) (s.2.2.map e_st0)]⟩) (fun r:(Nat × (List (Int × Int)))=>(.exit 2,⟨[(1,(I p2)),(7,(.one (.own 0 0 r.1))),(19,(.one (.d (.list (p1.map (el (D.int .i64))))))),(20,(I x6)),(21,(I x39))],[.vals (.agg [(.int .i64 0),(.int .i64 0)]) (r.2.map e_st0)]⟩)):=rnd fun x47 x H=>by
 rcases is H with ⟨hx48,H⟩ | ⟨hx48,H⟩
 · obtain ⟨x49,hx49,H⟩:=bs H
   obtain ⟨hx50,H⟩:=gs H
   cases H
   exact Kz 13 (fT hx48 (fi hx49 (fP e_st0 2 x47.2.2 0 x47.1 ([(x36,x49)]:List (Int × Int)) 1 hx50 zz)))
 · cases H
   exact Kz 5 (fN hx48 zz)
def T_store_Places_l2 (k:Nat) (p1:List (List Int)) (p2:Int) (x6:Int) (x30:Nat × Int × (List (Int × Int))):Option ((Nat × Int × (List (Int × Int))) ⊕ ((Nat × (List (Int × Int))))) :=
 (if x30.2.1 < x6 then ((at? p1 x30.2.1).bind fun x32=>(T_store_Starts k x32 p2).bind fun x33=>(loopT (T_store_Places_l1 k p1 p2 x6 x33 x30.2.1 x30.2.1 (x33.length:Int)) k (x30.1,0,x30.2.2)).bind fun x51=>some (.inl (x51.1,(w64 (x30.2.1+1)),x51.2))) else some (.inr (x30.1,x30.2.2)))
theorem o4_2 {k:Nat} {p1:List (List Int)} {p2:Int} {x6:Int}:Rnd (T_store_Places_l2 k p1 p2 x6) (evC X (evF X k) k 0 l_store_Places_2) (fun s:Nat × Int × (List (Int × Int))=>⟨[(1,(I p2)),(7,(.one (.own 0 0 s.1))),(19,(.one (.d (.list (p1.map (el (D.int .i64))))))),(20,(I x6)),(21,(I s.2.1))],[.vals (.agg [(.int .i64 0),(.int .i64 0)]) (s.2.2.map e_st0)]⟩) (fun r:(Nat × (List (Int × Int)))=>(.exit 0,⟨[(7,(.one (.own 0 0 r.1)))],[.vals (.agg [(.int .i64 0),(.int .i64 0)]) (r.2.map e_st0)]⟩)):=rnd fun x30 x H=>by
 rcases is H with ⟨hx31,H⟩ | ⟨hx31,H⟩
 · obtain ⟨x32,hx32,H⟩:=bs H
   obtain ⟨x33,hx33,H⟩:=bs H
   obtain ⟨x51,hx51,H⟩:=bs H
   refine Kx 13 (fT hx31 (fa (el (D.int .i64)) (.list []) hx32 (fc (o12 hx33) (fl (D.int .i64) x33 zz)))) ?_
   refine Kl (o4_1.go hx51) ?_
   cases H
   exact Kz 2 zz
 · cases H
   exact Kz 5 (fN hx31 zz)
def T_store_Places (k:Nat) (p1:List (List Int)) (p2:Int):Option ((List (Int × Int)) × Int):=match k with
 | 0=>none
 | k+1=>((T_store_check k p1 p2).bind fun x1=>(if (!decide (x1=0))=true then some ([],x1) else ((loopT (T_store_Places_l2 k p1 p2 (p1.length:Int)) k (0,0,[])).bind fun x52=>some (((x52.2.drop 0).take x52.1),0))))
theorem o4 {k:Nat} {p1:List (List Int)} {p2:Int} {r:(List (Int × Int)) × Int} (H:T_store_Places k p1 p2=some r):evF X k n_store_Places [(.agg [.d (.list (p1.map (el (D.int .i64))))]),(I p2)] []=some ((.tup [(false,[.d (.list (r.1.map e_st0))]),(false,[cI r.2])]),[]):=by
 refine Fi X_store_Places (f:=fun k=>T_store_Places k p1 p2) H fun k H=>?_
 obtain ⟨x1,hx1,H⟩:=bs H
 refine Kx 7 (fc (o5 hx1) zz) ?_
 rcases is H with ⟨hx2,H⟩ | ⟨hx2,H⟩
 · cases H
   exact Kz 4 (ft hx2 zz)
 · obtain ⟨x52,hx52,H⟩:=bs H
   refine Kx 10 (fn hx2 (fl (el (D.int .i64)) p1 zz)) ?_
   refine Kl (o4_2.go hx52) ?_
   cases H
   exact Kw 3 (some ((.tup [(false,[.d (.list (((x52.2.map e_st0).drop 0).take x52.1))]),(false,[cI 0])]),[])) zz (by simp only [dt_map,rl_map,LI,VI])
def T_measure_name (k:Nat) (p1:Int):Option ByteArray:=match k with
 | 0=>none
 | k+1=>(if p1=1 then some (⟨#[101,117,99,108,105,100]⟩:ByteArray) else (if p1=2 then some (⟨#[115,104,105,102,116,101,100]⟩:ByteArray) else (if p1=3 then some (⟨#[110,111,114,109,97,108]⟩:ByteArray) else (if p1=4 then some (⟨#[119,97,114,112]⟩:ByteArray) else (if p1=5 then some (⟨#[101,100,105,116]⟩:ByteArray) else some (⟨#[]⟩:ByteArray))))))
theorem o17 {k:Nat} {p1:Int} {r:ByteArray} (H:T_measure_name k p1=some r):evF X k n_measure_name [(I p1)] []=some ((.one (.d (.str r))),[]):=by
 refine Fi X_measure_name (f:=fun k=>T_measure_name k p1) H fun k H=>?_
 rcases is H with ⟨hx1,H⟩ | ⟨hx1,H⟩
 · cases H
   exact Kz 12 (fT hx1 zz)
 · refine Kx 11 (fN hx1 zz) ?_
   rcases is H with ⟨hx2,H⟩ | ⟨hx2,H⟩
   · cases H
     exact Kz 4 (fT hx2 zz)
   · refine Kx 3 (fN hx2 zz) ?_
     rcases is H with ⟨hx3,H⟩ | ⟨hx3,H⟩
     · cases H
       exact Kz 4 (fT hx3 zz)
     · refine Kx 3 (fN hx3 zz) ?_
       rcases is H with ⟨hx4,H⟩ | ⟨hx4,H⟩
       · cases H
         exact Kz 4 (fT hx4 zz)
       · refine Kx 3 (fN hx4 zz) ?_
         rcases is H with ⟨hx5,H⟩ | ⟨hx5,H⟩
         · cases H
           exact Kz 4 (fT hx5 zz)
         · cases H
           exact Kz 7 (fN hx5 zz)
def T_measure_Check (k:Nat) (p1:Int) (p2:Int) (p3:Int):Option Int:=match k with
 | 0=>none
 | k+1=>((T_measure_name k p1).bind fun x1=>((if ((x1 == (⟨#[]⟩:ByteArray)) && true)=true then some ((x1 == (⟨#[]⟩:ByteArray)) && true) else (if ((decide (p2 < 0) || decide (32 < p2)) || ((!decide (p2=0)) && (!decide (p1=4))))=true then some ((decide (p2 < 0) || decide (32 < p2)) || ((!decide (p2=0)) && (!decide (p1=4)))) else some ((decide (p3 < (-1000)) || decide (1000 < p3)) || ((!decide (p3=0)) && (!decide (p1=5))))))).bind fun x4=>(if x4=true then some 9 else some 0))
theorem o16 {k:Nat} {p1:Int} {p2:Int} {p3:Int} {r:Int} (H:T_measure_Check k p1 p2 p3=some r):evF X k n_measure_Check [(.agg [cI p1,cI p2,cI p3])] []=some ((I r),[]):=by
 refine Fi X_measure_Check (f:=fun k=>T_measure_Check k p1 p2 p3) H fun k H=>?_
 obtain ⟨x1,hx1,H⟩:=bs H
 obtain ⟨x4,hx4,H⟩:=bs H
 refine Kx 7 (fc (o17 hx1) zz) ?_
 refine Kc ⟨[(3,(B x4))],[]⟩ ?_ ?_
 · replace H:=hx4
   rcases is H with ⟨hx2,H⟩ | ⟨hx2,H⟩
   · cases H
     exact Kz 3 (ft hx2 zz)
   · refine Kx 3 (fn hx2 (fo (.m) (ff (rfl (a:=([.cells [cI p1,cI p2,cI p3]]:Heap))) (fo (.m) (fo (.m) (ff (p:=(decide (p2 < 0) || decide (32 < p2))=false→AllT [([.cells [cI p1,cI p2,cI p3]]:Heap)=[.cells [cI p1,cI p2,cI p3]]]) (fun _=>(A1 rfl)) (ff (rfl (a:=([.cells [cI p1,cI p2,cI p3]]:Heap))) zz))))))) ?_
     rcases is H with ⟨hx3,H⟩ | ⟨hx3,H⟩
     · cases H
       exact Kz 3 (ft hx3 zz)
     · cases H
       exact Kz 2 (fn hx3 (fo (.m) (ff (rfl (a:=([.cells [cI p1,cI p2,cI p3]]:Heap))) (fo (.m) (fo (.m) (ff (p:=(decide (p3 < (-1000)) || decide (1000 < p3))=false→AllT [([.cells [cI p1,cI p2,cI p3]]:Heap)=[.cells [cI p1,cI p2,cI p3]]]) (fun _=>(A1 rfl)) (ff (rfl (a:=([.cells [cI p1,cI p2,cI p3]]:Heap))) zz)))))))
 rcases is H with ⟨hx5,H⟩ | ⟨hx5,H⟩
 · cases H
   exact Kz 4 (ft hx5 zz)
 · cases H
   exact Kz 7 (fn hx5 zz)
def T_store_Query_1 (k:Nat) (p1:Int):Option Unit:=match k with
 | 0=>none
 | k+1=>((T_store_sample k p1).bind fun x1=>some ())
theorem o20 {k:Nat} {p1:Int} {r:Unit} (H:T_store_Query_1 k p1=some r):evF X k n_store_Query_1 [(I p1)] []=some ((B (!(decide ((-1000)≤p1) && decide (p1≤1000)))),[]):=by
 refine Fi X_store_Query_1 (f:=fun k=>T_store_Query_1 k p1) H fun k H=>?_
 obtain ⟨x1,hx1,H⟩:=bs H
 cases H
 exact Kz 5 (fc (o10 hx1) zz)
def T_slices_IndexFunc_b354_v2_l1 (k:Nat) (p1:List Int) (x2:Int) (x8:Int):Option (Int ⊕ (Unit ⊕ Int)) :=
 (if x8 < x2 then ((at? p1 x8).bind fun x10=>(T_store_Query_1 k x10).bind fun x11=>(if (!(decide ((-1000)≤x10) && decide (x10≤1000)))=true then some (.inr (.inr x8)) else some (.inl (w64 (x8+1))))) else some (.inr (.inl ())))
theorem o19_1 {k:Nat} {p1:List Int} {x2:Int}:Rnd (T_slices_IndexFunc_b354_v2_l1 k p1 x2) (evC X (evF X k) k 0 l_slices_IndexFunc_b354_1) (fun s:Int=>⟨[(0,(LI p1)),(1,(.one (.fn (.func n_store_Query_1) []))),(7,(I x2)),(8,(I s))],[]⟩) (fun r:Unit ⊕ Int=>Sum.elim (fun y=>(.exit 0,⟨[],[]⟩)) (fun y=>(.ret,⟨[(4,(I y))],[]⟩)) r):=rnd fun x8 x H=>by
 rcases is H with ⟨hx9,H⟩ | ⟨hx9,H⟩
 · obtain ⟨x10,hx10,H⟩:=bs H
   obtain ⟨x11,hx11,H⟩:=bs H
   refine Kx 12 (fT hx9 (fi hx10 (fc (o20 hx11) zz))) ?_
   rcases is H with ⟨hx12,H⟩ | ⟨hx12,H⟩
   · cases H
     exact Kz 4 (ft hx12 zz)
   · cases H
     exact Kz 5 (fn hx12 zz)
 · cases H
   exact Kz 5 (fN hx9 zz)
def T_slices_IndexFunc_b354_v2 (k:Nat) (p1:List Int):Option Int:=match k with
 | 0=>none
 | k+1=>((loopT (T_slices_IndexFunc_b354_v2_l1 k p1 (p1.length:Int)) k 0).bind fun x13=>(match x13 with | .inl x14=>some (-1) | .inr x15=>some x15))
theorem o19 {k:Nat} {p1:List Int} {r:Int} (H:T_slices_IndexFunc_b354_v2 k p1=some r):evF X k n_slices_IndexFunc_b354 [(LI p1),(.one (.fn (.func n_store_Query_1) []))] []=some ((I r),[]):=by
 refine Fi X_slices_IndexFunc_b354 (f:=fun k=>T_slices_IndexFunc_b354_v2 k p1) H fun k H=>?_
 obtain ⟨x13,hx13,H⟩:=bs H
 refine Kx 6 (fl (D.int .i64) p1 zz) ?_
 cases x13 with
 | inl x14 =>
  refine Kl (o19_1.go hx13) ?_
  cases H
  exact Kz 3 zz
 | inr x15 =>
  cases H
  exact Klr (o19_1.go hx13)
def T_slices_ContainsFunc_b354_v2 (k:Nat) (p1:List Int):Option Bool:=match k with
 | 0=>none
 | k+1=>((T_slices_IndexFunc_b354_v2 k p1).bind fun x1=>some (decide (0≤x1)))
theorem o18 {k:Nat} {p1:List Int} {r:Bool} (H:T_slices_ContainsFunc_b354_v2 k p1=some r):evF X k n_slices_ContainsFunc_b354 [(LI p1),(.one (.fn (.func n_store_Query_1) []))] []=some ((B r),[]):=by
 refine Fi X_slices_ContainsFunc_b354 (f:=fun k=>T_slices_ContainsFunc_b354_v2 k p1) H fun k H=>?_
 obtain ⟨x1,hx1,H⟩:=bs H
 cases H
 exact Kz 5 (fc (o19 hx1) zz)
def T_store_Query (k:Nat) (p1:Int) (p2:Int) (p3:Int) (p4:List Int):Option Int:=match k with
 | 0=>none
 | k+1=>((T_measure_Check k p1 p2 p3).bind fun x1=>(if (!decide (x1=0))=true then some x1 else ((T_store_length k (p4.length:Int)).bind fun x3=>(if (!(decide (2≤(p4.length:Int)) && decide ((p4.length:Int)≤32)))=true then some 8 else ((T_slices_ContainsFunc_b354_v2 k p4).bind fun x5=>(if x5=true then some 12 else some 0))))))
theorem o15 {k:Nat} {p1:Int} {p2:Int} {p3:Int} {p4:List Int} {r:Int} (H:T_store_Query k p1 p2 p3 p4=some r):evF X k n_store_Query [(.agg [cI p1,cI p2,cI p3]),(LI p4)] []=some ((I r),[]):=by
 refine Fi X_store_Query (f:=fun k=>T_store_Query k p1 p2 p3 p4) H fun k H=>?_
 obtain ⟨x1,hx1,H⟩:=bs H
 refine Kx 7 (fc (o16 hx1) zz) ?_
 rcases is H with ⟨hx2,H⟩ | ⟨hx2,H⟩
 · cases H
   exact Kz 4 (ft hx2 zz)
 · obtain ⟨x3,hx3,H⟩:=bs H
   refine Kx 6 (fn hx2 (fl (D.int .i64) p4 (fc (o11 hx3) zz))) ?_
   rcases is H with ⟨hx4,H⟩ | ⟨hx4,H⟩
   · cases H
     exact Kz 4 (ft hx4 zz)
   · obtain ⟨x5,hx5,H⟩:=bs H
     refine Kx 6 (fn hx4 (fc (o18 hx5) zz)) ?_
     rcases is H with ⟨hx6,H⟩ | ⟨hx6,H⟩
     · cases H
       exact Kz 4 (ft hx6 zz)
     · cases H
       exact Kz 6 (fn hx6 zz)
def T_measure_distances (k:Nat) (p1:Int) (p2:Int) (p3:Int):Option Unit:=match k with
 | 0=>none
 | k+1=>some ()
theorem o22 {k:Nat} {p1:Int} {p2:Int} {p3:Int} {r:Unit} (H:T_measure_distances k p1 p2 p3=some r):evF X k n_measure_distances [(.agg [cI p1,cI p2,cI p3])] []=some ((.one (.mp 0)),[.map [(1,.fn (.func n_measure_distances_1) []),(2,.fn (.func n_euclid_Shifted) []),(3,.fn (.func n_normal_Gap) []),(4,.fn (.func n_measure_distances_2) [.ref [.int .i64 p1,.int .i64 p2,.int .i64 p3]]),(5,.fn (.func n_measure_distances_3) [.ref [.int .i64 p1,.int .i64 p2,.int .i64 p3]])]]):=by
 refine Fi X_measure_distances (f:=fun k=>T_measure_distances k p1 p2 p3) H fun k H=>?_
 cases H
 exact Kz 6 zz
def T_euclid_length (k:Nat) (p1:List Int):Option Unit:=match k with
 | 0=>none
 | k+1=>some ()
theorem o26 {k:Nat} {p1:List Int} {r:Unit} (H:T_euclid_length k p1=some r):evF X k n_euclid_length [(LI p1)] []=some ((B (decide (2≤(p1.length:Int)) && decide ((p1.length:Int)≤32))),[]):=by
 refine Fi X_euclid_length (f:=fun k=>T_euclid_length k p1) H fun k H=>?_
 cases H
 exact Kz 5 (fl (D.int .i64) p1 (fo (.m) (fo (.n p1.length) (ff (p:=decide (2≤(p1.length:Int))=true→AllT [((p1.map (D.int .i64))).length=p1.length]) (fun _=>(A1 (List.length_map _))) (ff (rfl (a:=([]:Heap))) zz)))))
def T_euclid_samples_l1 (k:Nat) (p1:List Int) (x2:Int) (x7:Int):Option (Int ⊕ (Unit ⊕ Unit)) :=
 (if x7 < x2 then ((at? p1 x7).bind fun x9=>(if (decide (x9 < (-1000)) || decide (1000 < x9))=true then some (.inr (.inr ())) else some (.inl (w64 (x7+1))))) else some (.inr (.inl ())))
theorem o27_1 {k:Nat} {p1:List Int} {x2:Int}:Rnd (T_euclid_samples_l1 k p1 x2) (evC X (evF X k) k 0 l_euclid_samples_1) (fun s:Int=>⟨[(5,(LI p1)),(6,(I x2)),(7,(I s))],[]⟩) (fun r:Unit ⊕ Unit=>Sum.elim (fun y=>(.exit 0,⟨[],[]⟩)) (fun y=>(.ret,⟨[(2,(B false))],[]⟩)) r):=rnd fun x7 x H=>by
 rcases is H with ⟨hx8,H⟩ | ⟨hx8,H⟩
 · obtain ⟨x9,hx9,H⟩:=bs H
   refine Kx 12 (fT hx8 (fi hx9 (fo (.m) (ff (rfl (a:=([]:Heap))) zz)))) ?_
   rcases is H with ⟨hx10,H⟩ | ⟨hx10,H⟩
   · cases H
     exact Kz 4 (ft hx10 zz)
   · cases H
     exact Kz 5 (fn hx10 zz)
 · cases H
   exact Kz 5 (fN hx8 zz)
def T_euclid_samples (k:Nat) (p1:List Int):Option Bool:=match k with
 | 0=>none
 | k+1=>((loopT (T_euclid_samples_l1 k p1 (p1.length:Int)) k 0).bind fun x11=>(match x11 with | .inl x12=>some true | .inr x13=>some false))
theorem o27 {k:Nat} {p1:List Int} {r:Bool} (H:T_euclid_samples k p1=some r):evF X k n_euclid_samples [(LI p1)] []=some ((B r),[]):=by
 refine Fi X_euclid_samples (f:=fun k=>T_euclid_samples k p1) H fun k H=>?_
 obtain ⟨x11,hx11,H⟩:=bs H
 refine Kx 6 (fl (D.int .i64) p1 zz) ?_
 cases x11 with
 | inl x12 =>
  refine Kl (o27_1.go hx11) ?_
  cases H
  exact Kz 3 zz
 | inr x13 =>
  cases H
  exact Klr (o27_1.go hx11)
def T_euclid_check (k:Nat) (p1:List Int) (p2:List Int):Option Int:=match k with
 | 0=>none
 | k+1=>((((T_euclid_length k p1).bind fun x1=>(if (!(decide (2≤(p1.length:Int)) && decide ((p1.length:Int)≤32)))=true then some true else ((T_euclid_length k p2).bind fun x4=>some (!(decide (2≤(p2.length:Int)) && decide ((p2.length:Int)≤32))))))).bind fun x5=>(if x5=true then some 8 else ((((T_euclid_samples k p1).bind fun x7=>(if (!x7)=true then some true else ((T_euclid_samples k p2).bind fun x10=>some (!x10))))).bind fun x11=>(if x11=true then some 12 else (if (!decide ((p1.length:Int)=(p2.length:Int)))=true then some 8 else some 0)))))
theorem o25 {k:Nat} {p1:List Int} {p2:List Int} {r:Int} (H:T_euclid_check k p1 p2=some r):evF X k n_euclid_check [(LI p1),(LI p2)] []=some ((I r),[]):=by
 refine Fi X_euclid_check (f:=fun k=>T_euclid_check k p1 p2) H fun k H=>?_
 obtain ⟨x5,hx5,H⟩:=bs H
 refine Kx 5 zz ?_
 refine Kc ⟨[(0,(LI p1)),(1,(LI p2)),(5,(B x5))],[]⟩ ?_ ?_
 · replace H:=hx5
   obtain ⟨x1,hx1,H⟩:=bs H
   rcases is H with ⟨hx3,H⟩ | ⟨hx3,H⟩
   · cases H
     exact Kz 1 (fc (o26 hx1) (ft hx3 zz))
   · obtain ⟨x4,hx4,H⟩:=bs H
     cases H
     exact Kz 1 (fc (o26 hx1) (fn hx3 (fc (o26 hx4) zz)))
 rcases is H with ⟨hx6,H⟩ | ⟨hx6,H⟩
 · cases H
   exact Kz 4 (ft hx6 zz)
 · obtain ⟨x11,hx11,H⟩:=bs H
   refine Kx 2 (fn hx6 zz) ?_
   refine Kc ⟨[(0,(LI p1)),(1,(LI p2)),(14,(B x11))],[]⟩ ?_ ?_
   · replace H:=hx11
     obtain ⟨x7,hx7,H⟩:=bs H
     rcases is H with ⟨hx9,H⟩ | ⟨hx9,H⟩
     · cases H
       exact Kz 1 (fc (o27 hx7) (ft hx9 zz))
     · obtain ⟨x10,hx10,H⟩:=bs H
       cases H
       exact Kz 1 (fc (o27 hx7) (fn hx9 (fc (o27 hx10) zz)))
   rcases is H with ⟨hx12,H⟩ | ⟨hx12,H⟩
   · cases H
     exact Kz 4 (ft hx12 zz)
   · refine Kx 3 (fn hx12 (fl (D.int .i64) p1 (fl (D.int .i64) p2 zz))) ?_
     rcases is H with ⟨hx13,H⟩ | ⟨hx13,H⟩
     · cases H
       exact Kz 4 (ft hx13 zz)
     · cases H
       exact Kz 7 (fn hx13 zz)
def T_euclid_square_l1 (k:Nat) (p1:List Int) (p2:List Int) (x4:Int) (x9:Int × Int):Option ((Int × Int) ⊕ Int) :=
 (if x9.2 < x4 then ((at? p1 x9.2).bind fun x11=>(at? p2 x9.2).bind fun x12=>some (.inl ((w64 (x9.1+(w64 ((w64 (x11 - x12))*(w64 (x11 - x12)))))),(w64 (x9.2+1))))) else some (.inr x9.1))
theorem o28_1 {k:Nat} {p1:List Int} {p2:List Int} {x4:Int}:Rnd (T_euclid_square_l1 k p1 p2 x4) (evC X (evF X k) k 0 l_euclid_square_1) (fun s:Int × Int=>⟨[(1,(LI p2)),(5,(I s.1)),(8,(LI p1)),(9,(I x4)),(10,(I s.2))],[]⟩) (fun r:Int=>(.exit 0,⟨[(5,(I r))],[]⟩)):=rnd fun x9 x H=>by
 rcases is H with ⟨hx10,H⟩ | ⟨hx10,H⟩
 · obtain ⟨x11,hx11,H⟩:=bs H
   obtain ⟨x12,hx12,H⟩:=bs H
   cases H
   exact Kz 13 (fT hx10 (fi hx11 (fi hx12 (fi hx12 zz))))
 · cases H
   exact Kz 5 (fN hx10 zz)
def T_euclid_square (k:Nat) (p1:List Int) (p2:List Int):Option Int:=match k with
 | 0=>none
 | k+1=>((loopT (T_euclid_square_l1 k p1 p2 (p1.length:Int)) k (0,0)).bind fun x13=>some x13)
theorem o28 {k:Nat} {p1:List Int} {p2:List Int} {r:Int} (H:T_euclid_square k p1 p2=some r):evF X k n_euclid_square [(LI p1),(LI p2)] []=some ((I r),[]):=by
 refine Fi X_euclid_square (f:=fun k=>T_euclid_square k p1 p2) H fun k H=>?_
 obtain ⟨x13,hx13,H⟩:=bs H
 refine Kx 8 (fl (D.int .i64) p1 zz) ?_
 refine Kl (o28_1.go hx13) ?_
 cases H
 exact Kz 3 zz
def T_euclid_Distance (k:Nat) (p1:List Int) (p2:List Int):Option (Int × Int):=match k with
 | 0=>none
 | k+1=>((T_euclid_check k p1 p2).bind fun x1=>(if (!decide (x1=0))=true then some (0,x1) else ((T_euclid_square k p1 p2).bind fun x3=>some (x3,0))))
theorem o24 {k:Nat} {p1:List Int} {p2:List Int} {r:Int × Int} (H:T_euclid_Distance k p1 p2=some r):evF X k n_euclid_Distance [(LI p1),(LI p2)] []=some ((.tup [(false,[cI r.1]),(false,[cI r.2])]),[]):=by
 refine Fi X_euclid_Distance (f:=fun k=>T_euclid_Distance k p1 p2) H fun k H=>?_
 obtain ⟨x1,hx1,H⟩:=bs H
 refine Kx 7 (fc (o25 hx1) zz) ?_
 rcases is H with ⟨hx2,H⟩ | ⟨hx2,H⟩
 · cases H
   exact Kz 4 (ft hx2 zz)
 · obtain ⟨x3,hx3,H⟩:=bs H
   cases H
   exact Kz 6 (fn hx2 (fc (o28 hx3) zz))
def T_ratio_divisor_l1 (k:Nat) (x5:Int × Int):Option ((Int × Int) ⊕ Int) :=
 (if (!decide (x5.2=0))=true then (if x5.2≠0 then some (.inl (x5.2,(x5.1.tmod x5.2))) else none) else some (.inr x5.1))
theorem o31_1 {k:Nat}:Rnd (T_ratio_divisor_l1 k) (evC X (evF X k) k 0 l_ratio_divisor_1) (fun s:Int × Int=>⟨[(0,(I s.1)),(1,(I s.2))],[]⟩) (fun r:Int=>(.exit 0,⟨[(0,(I r))],[]⟩)):=rnd fun x5 x H=>by
 rcases is H with ⟨hx6,H⟩ | ⟨hx6,H⟩
 · obtain ⟨hx7,H⟩:=gs H
   cases H
   exact Kz 9 (ft hx6 (ff hx7 zz))
 · cases H
   exact Kz 5 (fn hx6 zz)
def T_ratio_divisor (k:Nat) (p1:Int) (p2:Int):Option Int:=match k with
 | 0=>none
 | k+1=>((loopT (T_ratio_divisor_l1 k) k (p1,p2)).bind fun x8=>some x8)
theorem o31 {k:Nat} {p1:Int} {p2:Int} {r:Int} (H:T_ratio_divisor k p1 p2=some r):evF X k n_ratio_divisor [(I p1),(I p2)] []=some ((I r),[]):=by
 refine Fi X_ratio_divisor (f:=fun k=>T_ratio_divisor k p1 p2) H fun k H=>?_
 obtain ⟨x8,hx8,H⟩:=bs H
 refine Kx 4 zz ?_
 refine Kl (o31_1.go hx8) ?_
 cases H
 exact Kz 3 zz
def T_ratio_within (k:Nat) (p1:Int) (p2:Int):Option Unit:=match k with
 | 0=>none
 | k+1=>some ()
theorem o32 {k:Nat} {p1:Int} {p2:Int} {r:Unit} (H:T_ratio_within k p1 p2=some r):evF X k n_ratio_within [(.agg [cI p1,cI p2])] []=some ((B (((decide (0≤p1) && decide (p1≤2305843009213693952)) && decide (1≤p2)) && decide (p2≤1152921504606846976))),[]):=by
 refine Fi X_ratio_within (f:=fun k=>T_ratio_within k p1 p2) H fun k H=>?_
 cases H
 exact Kz 5 (fo (.m) (ff (rfl (a:=([.cells [cI p1,cI p2]]:Heap))) (fo (.m) (ff (rfl (a:=([.cells [cI p1,cI p2]]:Heap))) (fo (.m) (ff (rfl (a:=([.cells [cI p1,cI p2]]:Heap))) zz))))))
def T_ratio_Make (k:Nat) (p1:Int) (p2:Int):Option (Int × Int × Int):=match k with
 | 0=>none
 | k+1=>(if (decide (p1 < 0) || decide (p2 < 1))=true then some (0,0,1) else (T_ratio_divisor k p1 p2).bind fun x2=>(if x2≠0 then (T_ratio_within k (w64 (p1.tdiv x2)) (w64 (p2.tdiv x2))).bind fun x4=>(if (!(((decide (0≤(w64 (p1.tdiv x2))) && decide ((w64 (p1.tdiv x2))≤2305843009213693952)) && decide (1≤(w64 (p2.tdiv x2)))) && decide ((w64 (p2.tdiv x2))≤1152921504606846976)))=true then some (0,0,1) else some ((w64 (p1.tdiv x2)),(w64 (p2.tdiv x2)),0)) else none))
theorem o30 {k:Nat} {p1:Int} {p2:Int} {r:Int × Int × Int} (H:T_ratio_Make k p1 p2=some r):evF X k n_ratio_Make [(I p1),(I p2)] []=some ((.tup [(true,[cI r.1,cI r.2.1]),(false,[cI r.2.2])]),[]):=by
 refine Fi X_ratio_Make (f:=fun k=>T_ratio_Make k p1 p2) H fun k H=>?_
 refine Kx 5 (fo (.m) (ff (rfl (a:=([.cells [cI 0,cI 0]]:Heap))) zz)) ?_
 rcases is H with ⟨hx1,H⟩ | ⟨hx1,H⟩
 · cases H
   exact Kz 4 (ft hx1 zz)
 · obtain ⟨x2,hx2,H⟩:=bs H
   obtain ⟨hx3,H⟩:=gs H
   obtain ⟨x4,hx4,H⟩:=bs H
   refine Kx 10 (fn hx1 (fc (o31 hx2) (ff hx3 (ff hx3 (fc (o32 hx4) zz))))) ?_
   rcases is H with ⟨hx5,H⟩ | ⟨hx5,H⟩
   · cases H
     exact Kz 4 (ft hx5 zz)
   · cases H
     exact Kz 6 (fn hx5 zz)
def T_measure_whole (k:Nat) (p1:Int) (p2:Int):Option (Int × Int × Int):=match k with
 | 0=>none
 | k+1=>(if (!decide (p2=0))=true then some (0,0,p2) else ((T_ratio_Make k p1 1).bind fun x2=>some (x2.1,x2.2.1,x2.2.2)))
theorem o29 {k:Nat} {p1:Int} {p2:Int} {r:Int × Int × Int} (H:T_measure_whole k p1 p2=some r):evF X k n_measure_whole [(I p1),(I p2)] []=some ((.tup [(true,[cI r.1,cI r.2.1]),(false,[cI r.2.2])]),[]):=by
 refine Fi X_measure_whole (f:=fun k=>T_measure_whole k p1 p2) H fun k H=>?_
 rcases is H with ⟨hx1,H⟩ | ⟨hx1,H⟩
 · cases H
   exact Kz 9 (ft hx1 zz)
 · obtain ⟨x2,hx2,H⟩:=bs H
   cases H
   exact Kz 11 (fn hx1 (fc (o30 hx2) zz))
def T_measure_distances_1 (k:Nat) (p1:List Int) (p2:List Int):Option (Int × Int × Int):=match k with
 | 0=>none
 | k+1=>((T_euclid_Distance k p1 p2).bind fun x1=>(T_measure_whole k x1.1 x1.2).bind fun x2=>some (x2.1,x2.2.1,x2.2.2))
theorem o23 {k:Nat} {p1:List Int} {p2:List Int} {r:Int × Int × Int} (H:T_measure_distances_1 k p1 p2=some r):evF X k n_measure_distances_1 [(LI p1),(LI p2)] []=some ((.tup [(true,[cI r.1,cI r.2.1]),(false,[cI r.2.2])]),[]):=by
 refine Fi X_measure_distances_1 (f:=fun k=>T_measure_distances_1 k p1 p2) H fun k H=>?_
 obtain ⟨x1,hx1,H⟩:=bs H
 obtain ⟨x2,hx2,H⟩:=bs H
 cases H
 exact Kz 5 (fc (o24 hx1) (fc (o29 hx2) zz))
def T_euclid_Shifted_l1 (k:Nat) (p1:List Int) (p2:List Int) (x6:Int) (x8:Int) (x15:Int × Int):Option ((Int × Int) ⊕ Int) :=
 (if x15.2 < x8 then ((at? p1 x15.2).bind fun x17=>(at? p2 x15.2).bind fun x18=>some (.inl ((w64 (x15.1+(w64 (x17 - x18)))),(w64 (x15.2+1))))) else some (.inr x15.1))
theorem o33_1 {k:Nat} {p1:List Int} {p2:List Int} {x6:Int} {x8:Int}:Rnd (T_euclid_Shifted_l1 k p1 p2 x6 x8) (evC X (evF X k) k 0 l_euclid_Shifted_1) (fun s:Int × Int=>⟨[(0,(LI p1)),(1,(LI p2)),(4,(Pt 0)),(7,(I s.1)),(8,(I x6)),(20,(LI p1)),(21,(I x8)),(22,(I s.2))],[.cells [cI 0,cI 0]]⟩) (fun r:Int=>(.exit 0,⟨[(0,(LI p1)),(1,(LI p2)),(4,(Pt 0)),(7,(I r)),(8,(I x6))],[.cells [cI 0,cI 0]]⟩)):=rnd fun x15 x H=>by
 rcases is H with ⟨hx16,H⟩ | ⟨hx16,H⟩
 · obtain ⟨x17,hx17,H⟩:=bs H
   obtain ⟨x18,hx18,H⟩:=bs H
   cases H
   exact Kz 13 (fT hx16 (fi hx17 (fi hx18 zz)))
 · cases H
   exact Kz 5 (fN hx16 zz)
def T_euclid_Shifted (k:Nat) (p1:List Int) (p2:List Int):Option (Int × Int × Int):=match k with
 | 0=>none
 | k+1=>((T_euclid_check k p1 p2).bind fun x1=>(if (!decide (x1=0))=true then some (0,0,x1) else ((loopT (T_euclid_Shifted_l1 k p1 p2 (p1.length:Int) (p1.length:Int)) k (0,0)).bind fun x19=>(T_euclid_square k p1 p2).bind fun x20=>(T_ratio_Make k (w64 ((w64 ((p1.length:Int)*x20)) - (w64 (x19*x19)))) (p1.length:Int)).bind fun x21=>some (x21.1,x21.2.1,x21.2.2))))
theorem o33 {k:Nat} {p1:List Int} {p2:List Int} {r:Int × Int × Int} (H:T_euclid_Shifted k p1 p2=some r):evF X k n_euclid_Shifted [(LI p1),(LI p2)] []=some ((.tup [(true,[cI r.1,cI r.2.1]),(false,[cI r.2.2])]),[]):=by
 refine Fi X_euclid_Shifted (f:=fun k=>T_euclid_Shifted k p1 p2) H fun k H=>?_
 obtain ⟨x1,hx1,H⟩:=bs H
 refine Kx 7 (fc (o25 hx1) zz) ?_
 rcases is H with ⟨hx2,H⟩ | ⟨hx2,H⟩
 · cases H
   exact Kz 4 (ft hx2 zz)
 · obtain ⟨x19,hx19,H⟩:=bs H
   refine Kx 9 (fn hx2 (fl (D.int .i64) p1 (fl (D.int .i64) p1 zz))) ?_
   refine Kl (o33_1.go hx19) ?_
   obtain ⟨x20,hx20,H⟩:=bs H
   obtain ⟨x21,hx21,H⟩:=bs H
   cases H
   exact Kz 3 (fc (o28 hx20) (fc (o30 hx21) zz))
def T_window_Variance (k:Nat) (p1:Int) (p2:Int) (p3:Int):Option Int:=match k with
 | 0=>none
 | k+1=>(if (((((decide (p1 < 1) || decide (2000 < p1)) || decide (p2 < (w64 ((-1000)*p1)))) || decide ((w64 (1000*p1)) < p2)) || decide (p3 < 0)) || decide ((w64 (1000000*p1)) < p3))=true then some 0 else some (imax 0 (w64 ((w64 (p1*p3)) - (w64 (p2*p2))))))
theorem o37 {k:Nat} {p1:Int} {p2:Int} {p3:Int} {r:Int} (H:T_window_Variance k p1 p2 p3=some r):evF X k n_window_Variance [(.agg [cI p1,cI p2,cI p3])] []=some ((I r),[]):=by
 refine Fi X_window_Variance (f:=fun k=>T_window_Variance k p1 p2 p3) H fun k H=>?_
 refine Kx 5 (fo (.m) (ff (rfl (a:=([.cells [cI p1,cI p2,cI p3]]:Heap))) (fo (.m) (ff (rfl (a:=([.cells [cI p1,cI p2,cI p3]]:Heap))) (fo (.m) (ff (rfl (a:=([.cells [cI p1,cI p2,cI p3]]:Heap))) (fo (.m) (ff (rfl (a:=([.cells [cI p1,cI p2,cI p3]]:Heap))) (fo (.m) (ff (rfl (a:=([.cells [cI p1,cI p2,cI p3]]:Heap))) zz)))))))))) ?_
 rcases is H with ⟨hx1,H⟩ | ⟨hx1,H⟩
 · cases H
   exact Kz 4 (ft hx1 zz)
 · cases H
   exact Kz 6 (fn hx1 zz)
def T_normal_variance_l1 (k:Nat) (p1:List Int) (x2:Int) (x4:Int) (x9:Int × Int × Int):Option ((Int × Int × Int) ⊕ ((Int × Int))) :=
 (if x9.1 < x2 then ((at? p1 x9.1).bind fun x11=>some (.inl ((w64 (x9.1+1)),(w64 (x9.2.1+x11)),(w64 (x9.2.2+(w64 (x11*x11))))))) else some (.inr (x9.2.1,x9.2.2)))
theorem o36_1 {k:Nat} {p1:List Int} {x2:Int} {x4:Int}:Rnd (T_normal_variance_l1 k p1 x2 x4) (evC X (evF X k) k 0 l_normal_variance_1) (fun s:Int × Int × Int=>⟨[(3,(Pt 0)),(9,(LI p1)),(10,(I x2)),(11,(I s.1))],[.cells [cI x4,cI s.2.1,cI s.2.2]]⟩) (fun r:(Int × Int)=>(.exit 0,⟨[(3,(Pt 0))],[.cells [cI x4,cI r.1,cI r.2]]⟩)):=rnd fun x9 x H=>by
 rcases is H with ⟨hx10,H⟩ | ⟨hx10,H⟩
 · obtain ⟨x11,hx11,H⟩:=bs H
   cases H
   exact Kz 15 (fT hx10 (fi hx11 zz))
 · cases H
   exact Kz 5 (fN hx10 zz)
def T_normal_variance (k:Nat) (p1:List Int):Option Int:=match k with
 | 0=>none
 | k+1=>((loopT (T_normal_variance_l1 k p1 (p1.length:Int) (p1.length:Int)) k (0,0,0)).bind fun x12=>(T_window_Variance k (p1.length:Int) x12.1 x12.2).bind fun x13=>some x13)
theorem o36 {k:Nat} {p1:List Int} {r:Int} (H:T_normal_variance k p1=some r):evF X k n_normal_variance [(LI p1)] []=some ((I r),[]):=by
 refine Fi X_normal_variance (f:=fun k=>T_normal_variance k p1) H fun k H=>?_
 obtain ⟨x12,hx12,H⟩:=bs H
 refine Kx 8 (fl (D.int .i64) p1 (fl (D.int .i64) p1 zz)) ?_
 refine Kl (o36_1.go hx12) ?_
 obtain ⟨x13,hx13,H⟩:=bs H
 cases H
 exact Kz 3 (fc (o37 hx13) zz)
def T_normal_product_l1 (k:Nat) (p1:List Int) (p2:List Int) (x7:Int) (x12:Int × Int × Int × Int):Option ((Int × Int × Int × Int) ⊕ ((Int × Int × Int))) :=
 (if x12.2.2.2 < x7 then ((at? p1 x12.2.2.2).bind fun x14=>(at? p2 x12.2.2.2).bind fun x15=>some (.inl ((w64 (x12.1+(w64 (x14*x15)))),(w64 (x12.2.1+x14)),(w64 (x12.2.2.1+x15)),(w64 (x12.2.2.2+1))))) else some (.inr (x12.1,x12.2.1,x12.2.2.1)))
theorem o38_1 {k:Nat} {p1:List Int} {p2:List Int} {x7:Int}:Rnd (T_normal_product_l1 k p1 p2 x7) (evC X (evF X k) k 0 l_normal_product_1) (fun s:Int × Int × Int × Int=>⟨[(0,(LI p1)),(1,(LI p2)),(5,(I s.1)),(6,(I s.2.1)),(7,(I s.2.2.1)),(10,(LI p1)),(11,(I x7)),(12,(I s.2.2.2))],[]⟩) (fun r:(Int × Int × Int)=>(.exit 0,⟨[(0,(LI p1)),(5,(I r.1)),(6,(I r.2.1)),(7,(I r.2.2))],[]⟩)):=rnd fun x12 x H=>by
 rcases is H with ⟨hx13,H⟩ | ⟨hx13,H⟩
 · obtain ⟨x14,hx14,H⟩:=bs H
   obtain ⟨x15,hx15,H⟩:=bs H
   cases H
   exact Kz 13 (fT hx13 (fi hx14 (fi hx15 (fi hx15 zz))))
 · cases H
   exact Kz 5 (fN hx13 zz)
def T_normal_product (k:Nat) (p1:List Int) (p2:List Int):Option Int:=match k with
 | 0=>none
 | k+1=>((loopT (T_normal_product_l1 k p1 p2 (p1.length:Int)) k (0,0,0,0)).bind fun x16=>some (w64 ((w64 ((p1.length:Int)*x16.1)) - (w64 (x16.2.1*x16.2.2)))))
theorem o38 {k:Nat} {p1:List Int} {p2:List Int} {r:Int} (H:T_normal_product k p1 p2=some r):evF X k n_normal_product [(LI p1),(LI p2)] []=some ((I r),[]):=by
 refine Fi X_normal_product (f:=fun k=>T_normal_product k p1 p2) H fun k H=>?_
 obtain ⟨x16,hx16,H⟩:=bs H
 refine Kx 8 (fl (D.int .i64) p1 zz) ?_
 refine Kl (o38_1.go hx16) ?_
 cases H
 exact Kz 3 (fl (D.int .i64) p1 zz)
def T_normal_gap (k:Nat) (p1:List Int) (p2:List Int):Option (Int × Int × Int):=match k with
 | 0=>none
 | k+1=>((T_normal_variance k p1).bind fun x1=>(T_normal_variance k p2).bind fun x2=>(if (decide (x1=0) && decide (x2=0))=true then ((T_ratio_Make k 0 1).bind fun x4=>some (x4.1,x4.2.1,x4.2.2)) else (if (decide (x1=0) || decide (x2=0))=true then ((T_ratio_Make k 1 1).bind fun x6=>some (x6.1,x6.2.1,x6.2.2)) else ((T_normal_product k p1 p2).bind fun x7=>(if x7 < 0 then ((T_ratio_Make k (w64 ((w64 (x1*x2))+(w64 (x7*x7)))) (w64 (x1*x2))).bind fun x9=>some (x9.1,x9.2.1,x9.2.2)) else ((T_ratio_Make k (w64 ((w64 (x1*x2)) - (w64 (x7*x7)))) (w64 (x1*x2))).bind fun x10=>some (x10.1,x10.2.1,x10.2.2)))))))
theorem o35 {k:Nat} {p1:List Int} {p2:List Int} {r:Int × Int × Int} (H:T_normal_gap k p1 p2=some r):evF X k n_normal_gap [(LI p1),(LI p2)] []=some ((.tup [(true,[cI r.1,cI r.2.1]),(false,[cI r.2.2])]),[]):=by
 refine Fi X_normal_gap (f:=fun k=>T_normal_gap k p1 p2) H fun k H=>?_
 obtain ⟨x1,hx1,H⟩:=bs H
 obtain ⟨x2,hx2,H⟩:=bs H
 refine Kx 8 (fc (o36 hx1) (fc (o36 hx2) (fo (.m) (ff (rfl (a:=([.cells [cI 0,cI 0]]:Heap))) zz)))) ?_
 rcases is H with ⟨hx3,H⟩ | ⟨hx3,H⟩
 · obtain ⟨x4,hx4,H⟩:=bs H
   cases H
   exact Kz 4 (ft hx3 (fc (o30 hx4) zz))
 · refine Kx 3 (fn hx3 (fo (.m) (ff (rfl (a:=([.cells [cI 0,cI 0]]:Heap))) zz))) ?_
   rcases is H with ⟨hx5,H⟩ | ⟨hx5,H⟩
   · obtain ⟨x6,hx6,H⟩:=bs H
     cases H
     exact Kz 4 (ft hx5 (fc (o30 hx6) zz))
   · obtain ⟨x7,hx7,H⟩:=bs H
     refine Kx 9 (fn hx5 (fc (o38 hx7) zz)) ?_
     rcases is H with ⟨hx8,H⟩ | ⟨hx8,H⟩
     · obtain ⟨x9,hx9,H⟩:=bs H
       cases H
       exact Kz 4 (fT hx8 (fc (o30 hx9) zz))
     · obtain ⟨x10,hx10,H⟩:=bs H
       cases H
       exact Kz 6 (fN hx8 (fc (o30 hx10) zz))
def T_normal_Gap (k:Nat) (p1:List Int) (p2:List Int):Option (Int × Int × Int):=match k with
 | 0=>none
 | k+1=>((T_euclid_Distance k p1 p2).bind fun x1=>(if (!decide (x1.2=0))=true then some (0,0,x1.2) else ((T_normal_gap k p1 p2).bind fun x3=>some (x3.1,x3.2.1,x3.2.2))))
theorem o34 {k:Nat} {p1:List Int} {p2:List Int} {r:Int × Int × Int} (H:T_normal_Gap k p1 p2=some r):evF X k n_normal_Gap [(LI p1),(LI p2)] []=some ((.tup [(true,[cI r.1,cI r.2.1]),(false,[cI r.2.2])]),[]):=by
 refine Fi X_normal_Gap (f:=fun k=>T_normal_Gap k p1 p2) H fun k H=>?_
 obtain ⟨x1,hx1,H⟩:=bs H
 refine Kx 7 (fc (o24 hx1) zz) ?_
 rcases is H with ⟨hx2,H⟩ | ⟨hx2,H⟩
 · cases H
   exact Kz 4 (ft hx2 zz)
 · obtain ⟨x3,hx3,H⟩:=bs H
   cases H
   exact Kz 6 (fn hx2 (fc (o35 hx3) zz))
def T_warp_check (k:Nat) (p1:List Int) (p2:List Int) (p3:Int):Option Int:=match k with
 | 0=>none
 | k+1=>(if (decide (p3 < 0) || decide (32 < p3))=true then some 1 else ((T_euclid_Distance k p1 p1).bind fun x2=>(T_euclid_Distance k p2 p2).bind fun x3=>(if (decide (x2.2=8) || decide (x3.2=8))=true then some 8 else (if (!decide (x2.2=0))=true then some x2.2 else (if (!decide (x3.2=0))=true then some x3.2 else (if (decide (p3 < (w64 ((p1.length:Int) - (p2.length:Int)))) || decide (p3 < (w64 ((p2.length:Int) - (p1.length:Int)))))=true then some 8 else some 0))))))
theorem o41 {k:Nat} {p1:List Int} {p2:List Int} {p3:Int} {r:Int} (H:T_warp_check k p1 p2 p3=some r):evF X k n_warp_check [(LI p1),(LI p2),(I p3)] []=some ((I r),[]):=by
 refine Fi X_warp_check (f:=fun k=>T_warp_check k p1 p2 p3) H fun k H=>?_
 refine Kx 5 (fo (.m) (ff (rfl (a:=([]:Heap))) zz)) ?_
 rcases is H with ⟨hx1,H⟩ | ⟨hx1,H⟩
 · cases H
   exact Kz 4 (ft hx1 zz)
 · obtain ⟨x2,hx2,H⟩:=bs H
   obtain ⟨x3,hx3,H⟩:=bs H
   refine Kx 11 (fn hx1 (fc (o24 hx2) (fc (o24 hx3) (fo (.m) (ff (rfl (a:=([]:Heap))) zz))))) ?_
   rcases is H with ⟨hx4,H⟩ | ⟨hx4,H⟩
   · cases H
     exact Kz 4 (ft hx4 zz)
   · refine Kx 3 (fn hx4 zz) ?_
     rcases is H with ⟨hx5,H⟩ | ⟨hx5,H⟩
     · cases H
       exact Kz 4 (ft hx5 zz)
     · refine Kx 3 (fn hx5 zz) ?_
       rcases is H with ⟨hx6,H⟩ | ⟨hx6,H⟩
       · cases H
         exact Kz 4 (ft hx6 zz)
       · refine Kx 3 (fn hx6 (fl (D.int .i64) p1 (fl (D.int .i64) p2 (fo (.m) (fo (.n p2.length) (fo (.n p1.length) (ff (p:=decide (p3 < (w64 ((p1.length:Int) - (p2.length:Int))))=false→AllT [((p2.map (D.int .i64))).length=p2.length,((p1.map (D.int .i64))).length=p1.length]) (fun _=>(AC (List.length_map _) (A1 (List.length_map _)))) (ff (rfl (a:=([]:Heap))) zz)))))))) ?_
         rcases is H with ⟨hx7,H⟩ | ⟨hx7,H⟩
         · cases H
           exact Kz 4 (ft hx7 zz)
         · cases H
           exact Kz 7 (fn hx7 zz)
def T_warp_near (k:Nat) (p1:Int) (p2:Int) (p3:Int):Option Unit:=match k with
 | 0=>none
 | k+1=>some ()
theorem o44 {k:Nat} {p1:Int} {p2:Int} {p3:Int} {r:Unit} (H:T_warp_near k p1 p2 p3=some r):evF X k n_warp_near [(I p1),(I p2),(I p3)] []=some ((B (decide ((w64 (p1 - p2))≤p3) && decide ((w64 (p2 - p1))≤p3))),[]):=by
 refine Fi X_warp_near (f:=fun k=>T_warp_near k p1 p2 p3) H fun k H=>?_
 cases H
 exact Kz 5 (fo (.m) (ff (rfl (a:=([]:Heap))) zz))
def T_warp_fill_l1 (k:Nat) (p1:Nat) (p2:Nat) (p3:List Int) (p4:List Int) (p5:Int) (p6:Int) (x7:Int) (p8:List Int) (x34:Int × (List Int)):Option ((Int × (List Int)) ⊕ (((List Int)))) :=
 (if x34.1 < x7 then (if (0:Int)≤x34.1∧x34.1 < ((p1:Nat):Int) then (T_warp_near k p6 x34.1 p5).bind fun x37=>(if (!(decide ((w64 (p6 - x34.1))≤p5) && decide ((w64 (x34.1 - p6))≤p5)))=true then some (.inl ((w64 (x34.1+1)),(x34.2.set (0+x34.1.toNat) 4611686018427387904))) else ((if (decide (p6=0) && decide (x34.1=0))=true then some 0 else some 4611686018427387904)).bind fun x40=>((if 0 < x34.1 then (if (0:Int)≤(w64 (x34.1 - 1))∧(w64 (x34.1 - 1)) < ((p1:Nat):Int) then ((x34.2.set (0+x34.1.toNat) 4611686018427387904)[(0+(w64 (x34.1 - 1)).toNat)]?).bind fun x43=>some (imin x40 x43) else none) else some x40)).bind fun x44=>((if 0 < p6 then (if (0:Int)≤x34.1∧x34.1 < ((p2:Nat):Int) then (p8[(0+x34.1.toNat)]?).bind fun x47=>some (imin x44 x47) else none) else some x44)).bind fun x48=>((if (decide (0 < p6) && decide (0 < x34.1))=true then (if (0:Int)≤x34.1∧x34.1 < ((p2:Nat):Int) then (p8[(0+x34.1.toNat)]?).bind fun x51=>(if (0:Int)≤(w64 (x34.1 - 1))∧(w64 (x34.1 - 1)) < ((p2:Nat):Int) then (p8[(0+(w64 (x34.1 - 1)).toNat)]?).bind fun x53=>some (imin (imin x48 x51) x53) else none) else none) else some x48)).bind fun x54=>(at? p3 p6).bind fun x55=>(at? p4 x34.1).bind fun x56=>(if (0:Int)≤x34.1∧x34.1 < ((p1:Nat):Int) then some (.inl ((w64 (x34.1+1)),((x34.2.set (0+x34.1.toNat) 4611686018427387904).set (0+x34.1.toNat) (imin 4611686018427387904 (w64 (x54+(w64 ((w64 (x55 - x56))*(w64 (x55 - x56)))))))))) else none)) else none) else some (.inr x34.2))
theorem o43_1 {k:Nat} {p1:Nat} {p2:Nat} {p3:List Int} {p4:List Int} {p5:Int} {p6:Int} {x7:Int} {p8:List Int}:Rnd (T_warp_fill_l1 k p1 p2 p3 p4 p5 p6 x7 p8) (evC X (evF X k) k 2 l_warp_fill_1) (fun s:Int × (List Int)=>⟨[(0,(.one (.own 0 0 p1))),(1,(.one (.own 1 0 p2))),(2,(LI p3)),(3,(LI p4)),(4,(I p5)),(5,(I p6)),(15,(I x7)),(16,(I s.1))],[VI s.2,VI p8]⟩) (fun r:((List Int))=>(.exit 0,⟨[],[VI r,VI p8]⟩)):=rnd fun x34 x H=>by
 rcases is H with ⟨hx35,H⟩ | ⟨hx35,H⟩
 · obtain ⟨hx36,H⟩:=gs H
   obtain ⟨x37,hx37,H⟩:=bs H
   refine Kx 15 (fT hx35 (ff hx36 (fw x34.2 (0+x34.1.toNat) 4611686018427387904 (D.int .i64) (.int .i64 0) (fc (o44 hx37) zz)))) ?_
   rcases is H with ⟨hx38,H⟩ | ⟨hx38,H⟩
   · cases H
     exact Kz 4 (ft hx38 zz)
   · obtain ⟨x40,hx40,H⟩:=bs H
     refine Kx 8 (fn hx38 (fo (.m) (ff (rfl (a:=([VI (x34.2.set (0+x34.1.toNat) 4611686018427387904),VI p8]:Heap))) zz))) ?_
     refine Kc ⟨[(0,(.one (.own 0 0 p1))),(1,(.one (.own 1 0 p2))),(2,(LI p3)),(3,(LI p4)),(4,(I p5)),(5,(I p6)),(12,(I x34.1)),(13,(I x40)),(15,(I x7)),(16,(I x34.1))],[VI (x34.2.set (0+x34.1.toNat) 4611686018427387904),VI p8]⟩ ?_ ?_
     · replace H:=hx40
       rcases is H with ⟨hx39,H⟩ | ⟨hx39,H⟩
       · cases H
         exact Kz 2 (ft hx39 zz)
       · cases H
         exact Kz 3 (fn hx39 zz)
     obtain ⟨x44,hx44,H⟩:=bs H
     refine Kx 3 zz ?_
     refine Kc ⟨[(0,(.one (.own 0 0 p1))),(1,(.one (.own 1 0 p2))),(2,(LI p3)),(3,(LI p4)),(4,(I p5)),(5,(I p6)),(12,(I x34.1)),(13,(I x44)),(15,(I x7)),(16,(I x34.1))],[VI (x34.2.set (0+x34.1.toNat) 4611686018427387904),VI p8]⟩ ?_ ?_
     · replace H:=hx44
       rcases is H with ⟨hx41,H⟩ | ⟨hx41,H⟩
       · obtain ⟨hx42,H⟩:=gs H
         obtain ⟨x43,hx43,H⟩:=bs H
         cases H
         exact Kz 2 (fT hx41 (ff hx42 (fg (D.int .i64) (.int .i64 0) hx43 zz)))
       · cases H
         exact Kz 3 (fN hx41 zz)
     obtain ⟨x48,hx48,H⟩:=bs H
     refine Kx 3 zz ?_
     refine Kc ⟨[(0,(.one (.own 0 0 p1))),(1,(.one (.own 1 0 p2))),(2,(LI p3)),(3,(LI p4)),(4,(I p5)),(5,(I p6)),(12,(I x34.1)),(13,(I x48)),(15,(I x7)),(16,(I x34.1))],[VI (x34.2.set (0+x34.1.toNat) 4611686018427387904),VI p8]⟩ ?_ ?_
     · replace H:=hx48
       rcases is H with ⟨hx45,H⟩ | ⟨hx45,H⟩
       · obtain ⟨hx46,H⟩:=gs H
         obtain ⟨x47,hx47,H⟩:=bs H
         cases H
         exact Kz 2 (fT hx45 (ff hx46 (fg (D.int .i64) (.int .i64 0) hx47 zz)))
       · cases H
         exact Kz 3 (fN hx45 zz)
     obtain ⟨x54,hx54,H⟩:=bs H
     refine Kx 3 (fo (.m) (ff (rfl (a:=([VI (x34.2.set (0+x34.1.toNat) 4611686018427387904),VI p8]:Heap))) zz)) ?_
     refine Kc ⟨[(0,(.one (.own 0 0 p1))),(1,(.one (.own 1 0 p2))),(2,(LI p3)),(3,(LI p4)),(4,(I p5)),(5,(I p6)),(12,(I x34.1)),(13,(I x54)),(15,(I x7)),(16,(I x34.1))],[VI (x34.2.set (0+x34.1.toNat) 4611686018427387904),VI p8]⟩ ?_ ?_
     · replace H:=hx54
       rcases is H with ⟨hx49,H⟩ | ⟨hx49,H⟩
       · obtain ⟨hx50,H⟩:=gs H
         obtain ⟨x51,hx51,H⟩:=bs H
         obtain ⟨hx52,H⟩:=gs H
         obtain ⟨x53,hx53,H⟩:=bs H
         cases H
         exact Kz 2 (ft hx49 (ff hx50 (fg (D.int .i64) (.int .i64 0) hx51 (ff hx52 (fg (D.int .i64) (.int .i64 0) hx53 zz)))))
       · cases H
         exact Kz 3 (fn hx49 zz)
     obtain ⟨x55,hx55,H⟩:=bs H
     obtain ⟨x56,hx56,H⟩:=bs H
     obtain ⟨hx57,H⟩:=gs H
     cases H
     exact Kz 3 (fi hx55 (fi hx56 (fi hx55 (fi hx56 (ff hx57 (fw (x34.2.set (0+x34.1.toNat) 4611686018427387904) (0+x34.1.toNat) (imin 4611686018427387904 (w64 (x54+(w64 ((w64 (x55 - x56))*(w64 (x55 - x56))))))) (D.int .i64) (.int .i64 0) zz))))))
 · cases H
   exact Kz 5 (fN hx35 zz)
def T_warp_fill (k:Nat) (p1:Nat) (p2:Nat) (p3:List Int) (p4:List Int) (p5:Int) (p6:Int) (p7:List Int) (p8:List Int):Option ((List Int)):=match k with
 | 0=>none
 | k+1=>((loopT (T_warp_fill_l1 k p1 p2 p3 p4 p5 p6 (p4.length:Int) p8) k (0,p7)).bind fun x58=>some x58)
theorem o43 {k:Nat} {p1:Nat} {p2:Nat} {p3:List Int} {p4:List Int} {p5:Int} {p6:Int} {p7:List Int} {p8:List Int} {r:(List Int)} (H:T_warp_fill k p1 p2 p3 p4 p5 p6 p7 p8=some r):evF X k n_warp_fill [(.one (.own 0 0 p1)),(.one (.own 1 0 p2)),(LI p3),(LI p4),(I p5),(I p6)] [VI p7,VI p8]=some ((.tup []),[VI r,VI p8]):=by
 refine Fi X_warp_fill (f:=fun k=>T_warp_fill k p1 p2 p3 p4 p5 p6 p7 p8) H fun k H=>?_
 obtain ⟨x58,hx58,H⟩:=bs H
 refine Kx 3 (fl (D.int .i64) p4 zz) ?_
 refine Kl (o43_1.go hx58) ?_
 cases H
 exact Kz 0 zz
def T_slices_Min_b354_l1 (k:Nat) (p1:Nat) (p2:List Int) (x11:Int × Int):Option ((Int × Int) ⊕ Int) :=
 (if x11.2 < ((p1:Nat):Int) then (if (0:Int)≤x11.2∧x11.2 < ((p1:Nat):Int) then (p2[(0+x11.2.toNat)]?).bind fun x14=>some (.inl ((imin x11.1 x14),(w64 (x11.2+1)))) else none) else some (.inr x11.1))
theorem o45_1 {k:Nat} {p1:Nat} {p2:List Int}:Rnd (T_slices_Min_b354_l1 k p1 p2) (evC X (evF X k) k 1 l_slices_Min_b354_1) (fun s:Int × Int=>⟨[(0,(.one (.own 0 0 p1))),(3,(I s.1)),(4,(I s.2))],[VI p2]⟩) (fun r:Int=>(.exit 0,⟨[(3,(I r))],[VI p2]⟩)):=rnd fun x11 x H=>by
 rcases is H with ⟨hx12,H⟩ | ⟨hx12,H⟩
 · obtain ⟨hx13,H⟩:=gs H
   obtain ⟨x14,hx14,H⟩:=bs H
   cases H
   exact Kz 11 (fT hx12 (ff hx13 (fg (D.int .i64) (.int .i64 0) hx14 zz)))
 · cases H
   exact Kz 5 (fN hx12 zz)
def T_slices_Min_b354 (k:Nat) (p1:Nat) (p2:List Int):Option Int:=match k with
 | 0=>none
 | k+1=>(if ((p1:Nat):Int) < 1 then none else (if (0:Int)≤0∧0 < ((p1:Nat):Int) then (p2[(0+0)]?).bind fun x3=>(loopT (T_slices_Min_b354_l1 k p1 p2) k (x3,1)).bind fun x15=>some x15 else none))
theorem o45 {k:Nat} {p1:Nat} {p2:List Int} {r:Int} (H:T_slices_Min_b354 k p1 p2=some r):evF X k n_slices_Min_b354 [(.one (.own 0 0 p1))] [VI p2]=some ((I r),[VI p2]):=by
 refine Fi X_slices_Min_b354 (f:=fun k=>T_slices_Min_b354 k p1 p2) H fun k H=>?_
 rcases is H with ⟨hx1,H⟩ | ⟨hx1,H⟩
 · cases H
 · obtain ⟨hx2,H⟩:=gs H
   obtain ⟨x3,hx3,H⟩:=bs H
   obtain ⟨x15,hx15,H⟩:=bs H
   refine Kx 14 (fN hx1 (ff hx2 (fg (D.int .i64) (.int .i64 0) hx3 zz))) ?_
   refine Kl (o45_1.go hx15) ?_
   cases H
   exact Kz 3 zz
def T_warp_distance_l1 (k:Nat) (p1:List Int) (p2:List Int) (p3:Int) (p4:Int) (x8:Int) (x16:Nat × Nat × Int × (List Int) × (List Int)):Option ((Nat × Nat × Int × (List Int) × (List Int)) ⊕ ((Nat × (List Int)) ⊕ Unit)) :=
 (if x16.2.2.1 < x8 then ((T_warp_fill k x16.1 x16.2.1 p1 p2 p3 x16.2.2.1 x16.2.2.2.1 x16.2.2.2.2).bind fun x18=>(T_slices_Min_b354 k x16.1 x18).bind fun x19=>(if p4 < x19 then some (.inr (.inr ())) else some (.inl (x16.2.1,x16.1,(w64 (x16.2.2.1+1)),x16.2.2.2.2,x18)))) else some (.inr (.inl (x16.2.1,x16.2.2.2.2))))
theorem o42_1 {k:Nat} {p1:List Int} {p2:List Int} {p3:Int} {p4:Int} {x8:Int}:Rnd (T_warp_distance_l1 k p1 p2 p3 p4 x8) (evC X (evF X k) k 0 l_warp_distance_1) (fun s:Nat × Nat × Int × (List Int) × (List Int)=>⟨[(0,(LI p1)),(1,(LI p2)),(2,(I p3)),(3,(I p4)),(9,(.one (.own 0 0 s.1))),(10,(.one (.own 1 0 s.2.1))),(19,(I x8)),(20,(I s.2.2.1))],[VI s.2.2.2.1,VI s.2.2.2.2]⟩) (fun r:(Nat × (List Int)) ⊕ Unit=>Sum.elim (fun y=>(.exit 0,⟨[(1,(LI p2)),(10,(.one (.own 0 0 y.1)))],[VI y.2]⟩)) (fun y=>(.ret,⟨[(8,(I 4611686018427387904))],[]⟩)) r):=rnd fun x16 x H=>by
 rcases is H with ⟨hx17,H⟩ | ⟨hx17,H⟩
 · obtain ⟨x18,hx18,H⟩:=bs H
   obtain ⟨x19,hx19,H⟩:=bs H
   refine Kx 16 (fT hx17 (fc (o43 hx18) (fc (o45 hx19) zz))) ?_
   rcases is H with ⟨hx20,H⟩ | ⟨hx20,H⟩
   · cases H
     exact Kz 4 (fT hx20 zz)
   · cases H
     exact Kz 5 (fN hx20 zz)
 · cases H
   exact Kz 5 (fN hx17 zz)
def T_warp_distance (k:Nat) (p1:List Int) (p2:List Int) (p3:Int) (p4:Int):Option Int:=match k with
 | 0=>none
 | k+1=>(if (0:Int)≤(p2.length:Int)∧(p2.length:Int)≤(p2.length:Int)∧(p2.length:Int)≤(LIM:Int) then (loopT (T_warp_distance_l1 k p1 p2 p3 p4 (p1.length:Int)) k ((p2.length:Int).toNat,(p2.length:Int).toNat,0,(List.replicate (p2.length:Int).toNat (0:Int)),(List.replicate (p2.length:Int).toNat (0:Int)))).bind fun x21=>(match x21 with | .inl x22=>(if (0:Int)≤(w64 ((p2.length:Int) - 1))∧(w64 ((p2.length:Int) - 1)) < ((x22.1:Nat):Int) then (x22.2[(0+(w64 ((p2.length:Int) - 1)).toNat)]?).bind fun x24=>some x24 else none) | .inr x25=>some 4611686018427387904) else none)
theorem o42 {k:Nat} {p1:List Int} {p2:List Int} {p3:Int} {p4:Int} {r:Int} (H:T_warp_distance k p1 p2 p3 p4=some r):evF X k n_warp_distance [(LI p1),(LI p2),(I p3),(I p4)] []=some ((I r),[]):=by
 refine Fi X_warp_distance (f:=fun k=>T_warp_distance k p1 p2 p3 p4) H fun k H=>?_
 obtain ⟨hx1,H⟩:=gs H
 refine Kx 3 zz ?_
 refine KI [0,0,1,1,1,1] [0,0,1,2,1,2,1,2,1,2,3] (fl (D.int .i64) p2 (ff hx1 (fo (.l ((List.replicate (p2.length:Int).toNat (0:Int)).map (D.int .i64))) (ff (rep_map (D.int .i64) (p2.length:Int).toNat (0:Int)) (ff (rfl (a:=(⟨[(0,(LI p1)),(1,(LI p2)),(2,(I p3)),(3,(I p4)),(9,(.one (.own 0 0 ((p2.length:Int).toNat)))),(10,(.one (.own 1 0 ((p2.length:Int).toNat))))],[VI (List.replicate (p2.length:Int).toNat (0:Int)),VI (List.replicate (p2.length:Int).toNat (0:Int))]⟩:St))) zz))))) ?_
 obtain ⟨x21,hx21,H⟩:=bs H
 refine Kx 4 (fl (D.int .i64) p1 zz) ?_
 cases x21 with
 | inl x22 =>
  refine Kl (o42_1.go hx21) ?_
  obtain ⟨hx23,H⟩:=gs H
  obtain ⟨x24,hx24,H⟩:=bs H
  cases H
  exact Kz 3 (fl (D.int .i64) p2 (ff hx23 (fg (D.int .i64) (.int .i64 0) hx24 zz)))
 | inr x25 =>
  cases H
  exact Klr (o42_1.go hx21)
def T_warp_Distance (k:Nat) (p1:List Int) (p2:List Int) (p3:Int):Option (Int × Int):=match k with
 | 0=>none
 | k+1=>((T_warp_check k p1 p2 p3).bind fun x1=>(if (!decide (x1=0))=true then some (0,x1) else ((T_warp_distance k p1 p2 p3 4611686018427387904).bind fun x3=>some (x3,0))))
theorem o40 {k:Nat} {p1:List Int} {p2:List Int} {p3:Int} {r:Int × Int} (H:T_warp_Distance k p1 p2 p3=some r):evF X k n_warp_Distance [(LI p1),(LI p2),(I p3)] []=some ((.tup [(false,[cI r.1]),(false,[cI r.2])]),[]):=by
 refine Fi X_warp_Distance (f:=fun k=>T_warp_Distance k p1 p2 p3) H fun k H=>?_
 obtain ⟨x1,hx1,H⟩:=bs H
 refine Kx 7 (fc (o41 hx1) zz) ?_
 rcases is H with ⟨hx2,H⟩ | ⟨hx2,H⟩
 · cases H
   exact Kz 4 (ft hx2 zz)
 · obtain ⟨x3,hx3,H⟩:=bs H
   cases H
   exact Kz 6 (fn hx2 (fc (o42 hx3) zz))
def T_measure_distances_2 (k:Nat) (p1:List Int) (p2:List Int) (p3:Int) (p4:Int) (p5:Int):Option (Int × Int × Int):=match k with
 | 0=>none
 | k+1=>((T_warp_Distance k p1 p2 p4).bind fun x1=>(T_measure_whole k x1.1 x1.2).bind fun x2=>some (x2.1,x2.2.1,x2.2.2))
theorem o39 {k:Nat} {p1:List Int} {p2:List Int} {p3:Int} {p4:Int} {p5:Int} {r:Int × Int × Int} (H:T_measure_distances_2 k p1 p2 p3 p4 p5=some r):evF X k n_measure_distances_2 [(LI p1),(LI p2),(.one (.d (.ref [.int .i64 p3,.int .i64 p4,.int .i64 p5])))] []=some ((.tup [(true,[cI r.1,cI r.2.1]),(false,[cI r.2.2])]),[]):=by
 refine Fi X_measure_distances_2 (f:=fun k=>T_measure_distances_2 k p1 p2 p3 p4 p5) H fun k H=>?_
 obtain ⟨x1,hx1,H⟩:=bs H
 obtain ⟨x2,hx2,H⟩:=bs H
 cases H
 exact Kz 5 (fc (o40 hx1) (fc (o29 hx2) zz))
def T_edit_check (k:Nat) (p1:List Int) (p2:List Int) (p3:Int):Option Int:=match k with
 | 0=>none
 | k+1=>(if (decide (p3 < (-1000)) || decide (1000 < p3))=true then some 1 else ((T_euclid_Distance k p1 p1).bind fun x2=>(T_euclid_Distance k p2 p2).bind fun x3=>(if (decide (x2.2=8) || decide (x3.2=8))=true then some 8 else some (imax x2.2 x3.2))))
theorem o48 {k:Nat} {p1:List Int} {p2:List Int} {p3:Int} {r:Int} (H:T_edit_check k p1 p2 p3=some r):evF X k n_edit_check [(LI p1),(LI p2),(I p3)] []=some ((I r),[]):=by
 refine Fi X_edit_check (f:=fun k=>T_edit_check k p1 p2 p3) H fun k H=>?_
 refine Kx 5 (fo (.m) (ff (rfl (a:=([]:Heap))) zz)) ?_
 rcases is H with ⟨hx1,H⟩ | ⟨hx1,H⟩
 · cases H
   exact Kz 4 (ft hx1 zz)
 · obtain ⟨x2,hx2,H⟩:=bs H
   obtain ⟨x3,hx3,H⟩:=bs H
   refine Kx 10 (fn hx1 (fc (o24 hx2) (fc (o24 hx3) (fo (.m) (ff (rfl (a:=([]:Heap))) zz))))) ?_
   rcases is H with ⟨hx4,H⟩ | ⟨hx4,H⟩
   · cases H
     exact Kz 4 (ft hx4 zz)
   · cases H
     exact Kz 6 (fn hx4 zz)
def T_edit_apart (k:Nat) (p1:Int) (p2:Int):Option Unit:=match k with
 | 0=>none
 | k+1=>some ()
theorem o51 {k:Nat} {p1:Int} {p2:Int} {r:Unit} (H:T_edit_apart k p1 p2=some r):evF X k n_edit_apart [(I p1),(I p2)] []=some ((I (imax (w64 (p1 - p2)) (w64 (p2 - p1)))),[]):=by
 refine Fi X_edit_apart (f:=fun k=>T_edit_apart k p1 p2) H fun k H=>?_
 cases H
 exact Kz 5 zz
def T_edit_last (k:Nat) (p1:Int) (p2:List Int) (p3:List Int) (p4:Int) (p5:Int) (p6:Int):Option (Int × Int × Int × Bool):=match k with
 | 0=>none
 | k+1=>(if ((decide (p1=1) && decide (0 < p5)) && decide (0 < p6))=true then ((at? p2 (w64 (p5 - 1))).bind fun x2=>(at? p3 (w64 (p6 - 1))).bind fun x3=>(T_edit_apart k x2 x3).bind fun x4=>some ((imax (w64 (x2 - x3)) (w64 (x3 - x2))),(w64 (p5 - 1)),(w64 (p6 - 1)),true)) else (if (decide (p1=2) && decide (0 < p5))=true then ((at? p2 (w64 (p5 - 1))).bind fun x6=>(T_edit_apart k x6 p4).bind fun x7=>some ((imax (w64 (x6 - p4)) (w64 (p4 - x6))),(w64 (p5 - 1)),p6,true)) else (if (decide (p1=3) && decide (0 < p6))=true then ((at? p3 (w64 (p6 - 1))).bind fun x9=>(T_edit_apart k x9 p4).bind fun x10=>some ((imax (w64 (x9 - p4)) (w64 (p4 - x9))),p5,(w64 (p6 - 1)),true)) else some (0,0,0,false))))
theorem o50 {k:Nat} {p1:Int} {p2:List Int} {p3:List Int} {p4:Int} {p5:Int} {p6:Int} {r:Int × Int × Int × Bool} (H:T_edit_last k p1 p2 p3 p4 p5 p6=some r):evF X k n_edit_last [(I p1),(LI p2),(LI p3),(I p4),(I p5),(I p6)] []=some ((.tup [(false,[cI r.1]),(false,[cI r.2.1]),(false,[cI r.2.2.1]),(false,[cB r.2.2.2])]),[]):=by
 refine Fi X_edit_last (f:=fun k=>T_edit_last k p1 p2 p3 p4 p5 p6) H fun k H=>?_
 refine Kx 6 (fo (.m) (ff (rfl (a:=([]:Heap))) (fo (.m) (ff (rfl (a:=([]:Heap))) zz)))) ?_
 rcases is H with ⟨hx1,H⟩ | ⟨hx1,H⟩
 · obtain ⟨x2,hx2,H⟩:=bs H
   obtain ⟨x3,hx3,H⟩:=bs H
   obtain ⟨x4,hx4,H⟩:=bs H
   cases H
   exact Kz 4 (ft hx1 (fi hx2 (fi hx3 (fc (o51 hx4) zz))))
 · refine Kx 3 (fn hx1 (fo (.m) (ff (rfl (a:=([]:Heap))) zz))) ?_
   rcases is H with ⟨hx5,H⟩ | ⟨hx5,H⟩
   · obtain ⟨x6,hx6,H⟩:=bs H
     obtain ⟨x7,hx7,H⟩:=bs H
     cases H
     exact Kz 4 (ft hx5 (fi hx6 (fc (o51 hx7) zz)))
   · refine Kx 3 (fn hx5 (fo (.m) (ff (rfl (a:=([]:Heap))) zz))) ?_
     rcases is H with ⟨hx8,H⟩ | ⟨hx8,H⟩
     · obtain ⟨x9,hx9,H⟩:=bs H
       obtain ⟨x10,hx10,H⟩:=bs H
       cases H
       exact Kz 4 (ft hx8 (fi hx9 (fc (o51 hx10) zz)))
     · cases H
       exact Kz 7 (fn hx8 zz)
def T_edit_table_l1 (k:Nat) (p1:List Int) (p2:List Int) (p3:Int) (x5:List Int) (x230:Int) (x344:Int) (x395:Bool × Int × (List Int)):Option ((Bool × Int × (List Int)) ⊕ (((List Int)))) :=
 (if x395.2.1≤3 then ((T_edit_last k x395.2.1 p1 p2 p3 x230 x344).bind fun x397=>((if x397.2.2.2=true then (if x395.1=true then some true else (if (0:Int)≤x397.2.1∧x397.2.1 < 33 then (if (x397.2.1.toNat*33) < x395.2.2.length then (if (0:Int)≤x397.2.2.1∧x397.2.2.1 < 33 then (if ((x397.2.1.toNat*33)+x397.2.2.1.toNat) < x395.2.2.length then (x395.2.2[((x397.2.1.toNat*33)+x397.2.2.1.toNat)]?).bind fun x424=>(if (0:Int)≤x230∧x230 < 33 then (if (x230.toNat*33) < x395.2.2.length then (if (0:Int)≤x344∧x344 < 33 then (if ((x230.toNat*33)+x344.toNat) < x395.2.2.length then (x395.2.2[((x230.toNat*33)+x344.toNat)]?).bind fun x429=>some (decide ((w64 (x424+x397.1)) < x429)) else none) else none) else none) else none) else none) else none) else none) else none)) else some false)).bind fun x430=>((if x430=true then (if (0:Int)≤x397.2.1∧x397.2.1 < 33 then (if (x397.2.1.toNat*33) < x395.2.2.length then (if (0:Int)≤x397.2.2.1∧x397.2.2.1 < 33 then (if ((x397.2.1.toNat*33)+x397.2.2.1.toNat) < x395.2.2.length then (x395.2.2[((x397.2.1.toNat*33)+x397.2.2.1.toNat)]?).bind fun x436=>(if (0:Int)≤x230∧x230 < 33 then (if (x230.toNat*33) < x395.2.2.length then (if (0:Int)≤x344∧x344 < 33 then (if ((x230.toNat*33)+x344.toNat) < x395.2.2.length then some (false,(x395.2.2.set ((x230.toNat*33)+x344.toNat) (w64 (x436+x397.1)))) else none) else none) else none) else none) else none) else none) else none) else none) else some (x395.1,x395.2.2))).bind fun x441=>some (.inl (x441.1,(w64 (x395.2.1+1)),x441.2))) else some (.inr x395.2.2))
theorem o49_1 {k:Nat} {p1:List Int} {p2:List Int} {p3:Int} {x5:List Int} {x230:Int} {x344:Int}:Rnd (T_edit_table_l1 k p1 p2 p3 x5 x230 x344) (evC X (evF X k) k 0 l_edit_table_1) (fun s:Bool × Int × (List Int)=>⟨[(0,(LI p1)),(1,(LI p2)),(2,(I p3)),(6,(Pt 0)),(7,(Pt 1)),(8,(I x230)),(9,(I x344)),(10,(B s.1)),(11,(I s.2.1))],[VI x5,VI s.2.2]⟩) (fun r:((List Int))=>(.exit 4,⟨[(0,(LI p1)),(1,(LI p2)),(2,(I p3)),(6,(Pt 0)),(7,(Pt 1)),(8,(I x230)),(9,(I x344))],[VI x5,VI r]⟩)):=rnd fun x395 x H=>by
 rcases is H with ⟨hx396,H⟩ | ⟨hx396,H⟩
 · obtain ⟨x397,hx397,H⟩:=bs H
   obtain ⟨x430,hx430,H⟩:=bs H
   refine Kx 11 (fT hx396 (fc (o50 hx397) zz)) ?_
   refine Kc ⟨[(0,(LI p1)),(1,(LI p2)),(2,(I p3)),(6,(Pt 0)),(7,(Pt 1)),(8,(I x230)),(9,(I x344)),(10,(B x395.1)),(11,(I x395.2.1)),(12,(I x397.1)),(13,(I x397.2.1)),(14,(I x397.2.2.1)),(62,(B x430))],[VI x5,VI x395.2.2]⟩ ?_ ?_
   · replace H:=hx430
     rcases is H with ⟨hx408,H⟩ | ⟨hx408,H⟩
     · rcases is H with ⟨hx419,H⟩ | ⟨hx419,H⟩
       · cases H
         exact Kz 1 (ft hx408 (ft hx419 zz))
       · obtain ⟨hx420,H⟩:=gs H
         obtain ⟨hx421,H⟩:=gs H
         obtain ⟨hx422,H⟩:=gs H
         obtain ⟨hx423,H⟩:=gs H
         obtain ⟨x424,hx424,H⟩:=bs H
         obtain ⟨hx425,H⟩:=gs H
         obtain ⟨hx426,H⟩:=gs H
         obtain ⟨hx427,H⟩:=gs H
         obtain ⟨hx428,H⟩:=gs H
         obtain ⟨x429,hx429,H⟩:=bs H
         cases H
         exact Kz 1 (ft hx408 (fn hx419 (fq0 (D.int .i64) hx420 hx421 (fq1 (D.int .i64) hx422 hx423 (fg (D.int .i64) (.int .i64 0) hx424 (fq0 (D.int .i64) hx425 hx426 (fq1 (D.int .i64) hx427 hx428 (fg (D.int .i64) (.int .i64 0) hx429 zz))))))))
     · cases H
       exact Kz 1 (fn hx408 zz)
   obtain ⟨x441,hx441,H⟩:=bs H
   refine Kc ⟨[(0,(LI p1)),(1,(LI p2)),(2,(I p3)),(6,(Pt 0)),(7,(Pt 1)),(8,(I x230)),(9,(I x344)),(10,(B x441.1)),(11,(I x395.2.1))],[VI x5,VI x441.2]⟩ ?_ ?_
   · replace H:=hx441
     rcases is H with ⟨hx431,H⟩ | ⟨hx431,H⟩
     · obtain ⟨hx432,H⟩:=gs H
       obtain ⟨hx433,H⟩:=gs H
       obtain ⟨hx434,H⟩:=gs H
       obtain ⟨hx435,H⟩:=gs H
       obtain ⟨x436,hx436,H⟩:=bs H
       obtain ⟨hx437,H⟩:=gs H
       obtain ⟨hx438,H⟩:=gs H
       obtain ⟨hx439,H⟩:=gs H
       obtain ⟨hx440,H⟩:=gs H
       cases H
       exact Kz 2 (ft hx431 (fq0 (D.int .i64) hx432 hx433 (fq1 (D.int .i64) hx434 hx435 (fg (D.int .i64) (.int .i64 0) hx436 (fq0 (D.int .i64) hx437 hx438 (fq1 (D.int .i64) hx439 hx440 (fw x395.2.2 ((x230.toNat*33)+x344.toNat) (w64 (x436+x397.1)) (D.int .i64) (.int .i64 0) zz)))))))
     · cases H
       exact Kz 3 (fn hx431 zz)
   cases H
   exact Kz 2 zz
 · cases H
   exact Kz 5 (fN hx396 zz)
def T_edit_table_l2 (k:Nat) (p1:List Int) (p2:List Int) (p3:Int) (x5:List Int) (x230:Int) (x338:Int × (List Int)):Option ((Int × (List Int)) ⊕ (((List Int)))) :=
 (if x338.1≤(p2.length:Int) then ((loopT (T_edit_table_l1 k p1 p2 p3 x5 x230 x338.1) k (true,1,x338.2)).bind fun x442=>some (.inl ((w64 (x338.1+1)),x442))) else some (.inr x338.2))
theorem o49_2 {k:Nat} {p1:List Int} {p2:List Int} {p3:Int} {x5:List Int} {x230:Int}:Rnd (T_edit_table_l2 k p1 p2 p3 x5 x230) (evC X (evF X k) k 0 l_edit_table_2) (fun s:Int × (List Int)=>⟨[(0,(LI p1)),(1,(LI p2)),(2,(I p3)),(6,(Pt 0)),(7,(Pt 1)),(8,(I x230)),(9,(I s.1))],[VI x5,VI s.2]⟩) (fun r:((List Int))=>(.exit 2,⟨[(0,(LI p1)),(1,(LI p2)),(2,(I p3)),(6,(Pt 0)),(7,(Pt 1)),(8,(I x230))],[VI x5,VI r]⟩)):=rnd fun x338 x H=>by
 refine Kx 3 (fl (D.int .i64) p2 zz) ?_
 rcases is H with ⟨hx339,H⟩ | ⟨hx339,H⟩
 · obtain ⟨x442,hx442,H⟩:=bs H
   refine Kx 10 (fT hx339 zz) ?_
   refine Kl (o49_1.go hx442) ?_
   cases H
   exact Kz 2 zz
 · cases H
   exact Kz 2 (fN hx339 zz)
def T_edit_table_l3 (k:Nat) (p1:List Int) (p2:List Int) (p3:Int) (x5:List Int) (x225:Int × (List Int)):Option ((Int × (List Int)) ⊕ (((List Int)))) :=
 (if x225.1≤(p1.length:Int) then ((loopT (T_edit_table_l2 k p1 p2 p3 x5 x225.1) k (0,x225.2)).bind fun x443=>some (.inl ((w64 (x225.1+1)),x443))) else some (.inr x225.2))
theorem o49_3 {k:Nat} {p1:List Int} {p2:List Int} {p3:Int} {x5:List Int}:Rnd (T_edit_table_l3 k p1 p2 p3 x5) (evC X (evF X k) k 0 l_edit_table_3) (fun s:Int × (List Int)=>⟨[(0,(LI p1)),(1,(LI p2)),(2,(I p3)),(6,(Pt 0)),(7,(Pt 1)),(8,(I s.1))],[VI x5,VI s.2]⟩) (fun r:((List Int))=>(.exit 0,⟨[(6,(Pt 0)),(7,(Pt 1))],[VI x5,VI r]⟩)):=rnd fun x225 x H=>by
 refine Kx 3 (fl (D.int .i64) p1 zz) ?_
 rcases is H with ⟨hx226,H⟩ | ⟨hx226,H⟩
 · obtain ⟨x443,hx443,H⟩:=bs H
   refine Kx 8 (fT hx226 zz) ?_
   refine Kl (o49_2.go hx443) ?_
   cases H
   exact Kz 2 zz
 · cases H
   exact Kz 2 (fN hx226 zz)
def T_edit_table (k:Nat) (p1:List Int) (p2:List Int) (p3:Int):Option ((List Int)):=match k with
 | 0=>none
 | k+1=>(loopT (T_edit_table_l3 k p1 p2 p3 (List.replicate 1089 (0:Int))) k (0,(List.replicate 1089 (0:Int)))).bind fun x444=>(if x444.length=1089 then some x444 else none)
theorem o49 {k:Nat} {p1:List Int} {p2:List Int} {p3:Int} {r:(List Int)} (H:T_edit_table k p1 p2 p3=some r):evF X k n_edit_table [(LI p1),(LI p2),(I p3)] []=some ((.agg ((r.map (D.int .i64)).map .d)),[]):=by
 refine Fi X_edit_table (f:=fun k=>T_edit_table k p1 p2 p3) H fun k H=>?_
 obtain ⟨x444,hx444,H⟩:=bs H
 refine Kx 8 zz ?_
 refine Kl (o49_3.go hx444) ?_
 obtain ⟨hx445,H⟩:=gs H
 have H:=Option.some.inj H; subst H
 exact Kq 3 .ret ⟨[(6,(Pt 0))],[VI x444]⟩ (fo (.l (x444.map (D.int .i64))) (ff (p:=(x444.map (D.int .i64)).length=1089) (by simpa using hx445) (ff (p:=(x444.map (D.int .i64)).flatMap D.cells=x444.map (D.int .i64)) (fm_int x444) (fo (.l (x444.map (D.int .i64))) (ff (p:=((x444.map (D.int .i64)).map C.d)=(x444.map (D.int .i64)).map C.d) rfl (ff (p:=(x444.map (D.int .i64)).length=1089) (by simpa using hx445) (ff (p:=((List.replicate 1089 (0:Int)).map (D.int .i64)).length=1089) (by simp) zz))))))) (fin_flat (fn:=m_edit_table) (n:=1089) (t:=6) (xs:=x444) (env:=[(6,(Pt 0))]) (e:=.ret) rfl rfl rfl (by decide) (by assumption) (fun i h=>by cases h))
def T_edit_Distance (k:Nat) (p1:List Int) (p2:List Int) (p3:Int):Option (Int × Int):=match k with
 | 0=>none
 | k+1=>((T_edit_check k p1 p2 p3).bind fun x1=>(if (!decide (x1=0))=true then some (0,x1) else (T_edit_table k p1 p2 p3).bind fun x3=>(if (0:Int)≤(p1.length:Int)∧(p1.length:Int) < 33 then (if (0:Int)≤(p2.length:Int)∧(p2.length:Int) < 33 then (at? ((x3.drop ((p1.length:Int).toNat*33)).take 33) (p2.length:Int)).bind fun x6=>some (x6,0) else none) else none)))
theorem o47 {k:Nat} {p1:List Int} {p2:List Int} {p3:Int} {r:Int × Int} (H:T_edit_Distance k p1 p2 p3=some r):evF X k n_edit_Distance [(LI p1),(LI p2),(I p3)] []=some ((.tup [(false,[cI r.1]),(false,[cI r.2])]),[]):=by
 refine Fi X_edit_Distance (f:=fun k=>T_edit_Distance k p1 p2 p3) H fun k H=>?_
 obtain ⟨x1,hx1,H⟩:=bs H
 refine Kx 7 (fc (o48 hx1) zz) ?_
 rcases is H with ⟨hx2,H⟩ | ⟨hx2,H⟩
 · cases H
   exact Kz 4 (ft hx2 zz)
 · obtain ⟨x3,hx3,H⟩:=bs H
   obtain ⟨hx4,H⟩:=gs H
   obtain ⟨hx5,H⟩:=gs H
   obtain ⟨x6,hx6,H⟩:=bs H
   cases H
   exact Kz 6 (fn hx2 (fc (o49 hx3) (fl (D.int .i64) p1 (fo (.l (((x3.drop ((p1.length:Int).toNat*33)).take 33).map (D.int .i64))) (ff hx4 (ff (p:=(List.drop ((p1.length:Int).toNat*33) ((x3.map (D.int .i64)).map C.d)).take 33=(((x3.drop ((p1.length:Int).toNat*33)).take 33).map (D.int .i64)).map C.d) (ag_map (D.int .i64) x3 _ _) (fl (D.int .i64) p2 (fo (.l [.int .i64 x6]) (ff hx5 (ff (p:=(List.drop ((p2.length:Int).toNat*1) ((((x3.drop ((p1.length:Int).toNat*33)).take 33).map (D.int .i64)).map C.d)).take 1=[cI x6]) (ag_one (D.int .i64) hx6) zz))))))))))
def T_measure_distances_3 (k:Nat) (p1:List Int) (p2:List Int) (p3:Int) (p4:Int) (p5:Int):Option (Int × Int × Int):=match k with
 | 0=>none
 | k+1=>((T_edit_Distance k p1 p2 p5).bind fun x1=>(T_measure_whole k x1.1 x1.2).bind fun x2=>some (x2.1,x2.2.1,x2.2.2))
theorem o46 {k:Nat} {p1:List Int} {p2:List Int} {p3:Int} {p4:Int} {p5:Int} {r:Int × Int × Int} (H:T_measure_distances_3 k p1 p2 p3 p4 p5=some r):evF X k n_measure_distances_3 [(LI p1),(LI p2),(.one (.d (.ref [.int .i64 p3,.int .i64 p4,.int .i64 p5])))] []=some ((.tup [(true,[cI r.1,cI r.2.1]),(false,[cI r.2.2])]),[]):=by
 refine Fi X_measure_distances_3 (f:=fun k=>T_measure_distances_3 k p1 p2 p3 p4 p5) H fun k H=>?_
 obtain ⟨x1,hx1,H⟩:=bs H
 obtain ⟨x2,hx2,H⟩:=bs H
 cases H
 exact Kz 5 (fc (o47 hx1) (fc (o29 hx2) zz))
def T_measure_Distance (k:Nat) (p1:Int) (p2:Int) (p3:Int) (p4:List Int) (p5:List Int):Option (Int × Int × Int):=match k with
 | 0=>none
 | k+1=>((T_measure_Check k p1 p2 p3).bind fun x1=>(if (!decide (x1=0))=true then some (0,0,x1) else ((((T_measure_distances k p1 p2 p3).bind fun x3=>(if p1=1 then ((T_measure_distances_1 k p4 p5).bind fun x5=>some (x5.2.2,x5.1,x5.2.1)) else (if p1=2 then ((T_euclid_Shifted k p4 p5).bind fun x7=>some (x7.2.2,x7.1,x7.2.1)) else (if p1=3 then ((T_normal_Gap k p4 p5).bind fun x9=>some (x9.2.2,x9.1,x9.2.1)) else (if p1=4 then ((T_measure_distances_2 k p4 p5 p1 p2 p3).bind fun x11=>some (x11.2.2,x11.1,x11.2.1)) else (if p1=5 then ((T_measure_distances_3 k p4 p5 p1 p2 p3).bind fun x13=>some (x13.2.2,x13.1,x13.2.1)) else none))))))).bind fun x14=>some (x14.2.1,x14.2.2,x14.1))))
theorem o21 {k:Nat} {p1:Int} {p2:Int} {p3:Int} {p4:List Int} {p5:List Int} {r:Int × Int × Int} (H:T_measure_Distance k p1 p2 p3 p4 p5=some r):evF X k n_measure_Distance [(.agg [cI p1,cI p2,cI p3]),(LI p4),(LI p5)] []=some ((.tup [(true,[cI r.1,cI r.2.1]),(false,[cI r.2.2])]),[]):=by
 refine Fi X_measure_Distance (f:=fun k=>T_measure_Distance k p1 p2 p3 p4 p5) H fun k H=>?_
 obtain ⟨x1,hx1,H⟩:=bs H
 refine Kx 7 (fc (o16 hx1) zz) ?_
 rcases is H with ⟨hx2,H⟩ | ⟨hx2,H⟩
 · cases H
   exact Kz 4 (ft hx2 zz)
 · obtain ⟨x14,hx14,H⟩:=bs H
   refine Kx 4 (fn hx2 zz) ?_
   refine Kc ⟨[(6,(Pt 0)),(7,(I x14.1))],[.cells [cI x14.2.1,cI x14.2.2]]⟩ ?_ ?_
   · replace H:=hx14
     obtain ⟨x3,hx3,H⟩:=bs H
     rcases is H with ⟨hx4,H⟩ | ⟨hx4,H⟩
     · obtain ⟨x5,hx5,H⟩:=bs H
       refine KI [0,1,2,0,1,2,0,1,2] [0,1,2,0,1,2,3,0,1,2,3] (fc (o22 hx3) (fo (.n 1) (ff (p:=p1=((1:Nat):Int)) (of_decide_eq_true (decide_eq_true hx4)) (fc (o23 hx5) (ff (rfl (a:=(⟨[(6,(Pt 0)),(7,(I x5.2.2))],[.cells [cI x5.1,cI x5.2.1]]⟩:St))) zz))))) ?_
       cases H
       exact Kz 0 zz
     · rcases is H with ⟨hx6,H⟩ | ⟨hx6,H⟩
       · obtain ⟨x7,hx7,H⟩:=bs H
         refine KI [0,1,2,0,1,2,0,1,2] [0,1,2,0,1,2,3,0,1,2,3] (fc (o22 hx3) (fo (.n 2) (ff (p:=p1=((2:Nat):Int)) (of_decide_eq_true (decide_eq_true hx6)) (fc (o33 hx7) (ff (rfl (a:=(⟨[(6,(Pt 0)),(7,(I x7.2.2))],[.cells [cI x7.1,cI x7.2.1]]⟩:St))) zz))))) ?_
         cases H
         exact Kz 0 zz
       · rcases is H with ⟨hx8,H⟩ | ⟨hx8,H⟩
         · obtain ⟨x9,hx9,H⟩:=bs H
           refine KI [0,1,2,0,1,2,0,1,2] [0,1,2,0,1,2,3,0,1,2,3] (fc (o22 hx3) (fo (.n 3) (ff (p:=p1=((3:Nat):Int)) (of_decide_eq_true (decide_eq_true hx8)) (fc (o34 hx9) (ff (rfl (a:=(⟨[(6,(Pt 0)),(7,(I x9.2.2))],[.cells [cI x9.1,cI x9.2.1]]⟩:St))) zz))))) ?_
           cases H
           exact Kz 0 zz
         · rcases is H with ⟨hx10,H⟩ | ⟨hx10,H⟩
           · obtain ⟨x11,hx11,H⟩:=bs H
             refine KI [0,1,2,0,1,2,0,1,2] [0,1,2,0,1,2,3,0,1,2,3] (fc (o22 hx3) (fo (.n 4) (ff (p:=p1=((4:Nat):Int)) (of_decide_eq_true (decide_eq_true hx10)) (fc (o39 hx11) (ff (rfl (a:=(⟨[(6,(Pt 0)),(7,(I x11.2.2))],[.cells [cI x11.1,cI x11.2.1]]⟩:St))) zz))))) ?_
             cases H
             exact Kz 0 zz
           · rcases is H with ⟨hx12,H⟩ | ⟨hx12,H⟩
             · obtain ⟨x13,hx13,H⟩:=bs H
               refine KI [0,1,2,0,1,2,0,1,2] [0,1,2,0,1,2,3,0,1,2,3] (fc (o22 hx3) (fo (.n 5) (ff (p:=p1=((5:Nat):Int)) (of_decide_eq_true (decide_eq_true hx12)) (fc (o46 hx13) (ff (rfl (a:=(⟨[(6,(Pt 0)),(7,(I x13.2.2))],[.cells [cI x13.1,cI x13.2.1]]⟩:St))) zz))))) ?_
               cases H
               exact Kz 0 zz
             · cases H
   cases H
   exact Kz 1 zz
def T_ratio_Valid (k:Nat) (p1:Int) (p2:Int):Option Bool:=match k with
 | 0=>none
 | k+1=>((((T_ratio_within k p1 p2).bind fun x1=>(if (((decide (0≤p1) && decide (p1≤2305843009213693952)) && decide (1≤p2)) && decide (p2≤1152921504606846976))=true then ((T_ratio_divisor k p1 p2).bind fun x4=>some (decide (x4=1))) else some false))).bind fun x5=>some x5)
theorem o57 {k:Nat} {p1:Int} {p2:Int} {r:Bool} (H:T_ratio_Valid k p1 p2=some r):evF X k n_ratio_Valid [(.agg [cI p1,cI p2])] []=some ((B r),[]):=by
 refine Fi X_ratio_Valid (f:=fun k=>T_ratio_Valid k p1 p2) H fun k H=>?_
 obtain ⟨x5,hx5,H⟩:=bs H
 refine Kx 3 zz ?_
 refine Kc ⟨[(2,(B x5))],[]⟩ ?_ ?_
 · replace H:=hx5
   obtain ⟨x1,hx1,H⟩:=bs H
   rcases is H with ⟨hx3,H⟩ | ⟨hx3,H⟩
   · obtain ⟨x4,hx4,H⟩:=bs H
     cases H
     exact Kz 1 (fc (o32 hx1) (ft hx3 (fc (o31 hx4) zz)))
   · cases H
     exact Kz 1 (fc (o32 hx1) (fn hx3 zz))
 cases H
 exact Kz 1 zz
def T_math_bits_Mul64 (k:Nat) (p1:Int) (p2:Int):Option Unit:=match k with
 | 0=>none
 | k+1=>some ()
theorem o58 {k:Nat} {p1:Int} {p2:Int} {r:Unit} (H:T_math_bits_Mul64 k p1 p2=some r):evF X k n_math_bits_Mul64 [(.one (.d (.int .u64 p1))),(.one (.d (.int .u64 p2)))] []=some ((.tup [(false,[.d (.int .u64 (IntKind.wrap .u64 ((IntKind.wrap .u64 ((IntKind.wrap .u64 ((p1.fdiv (2 ^ 32))*(p2.fdiv (2 ^ 32))))+((IntKind.wrap .u64 ((IntKind.wrap .u64 ((p1.fdiv (2 ^ 32))*(bAnd .u64 p2 4294967295)))+((IntKind.wrap .u64 ((bAnd .u64 p1 4294967295)*(bAnd .u64 p2 4294967295))).fdiv (2 ^ 32)))).fdiv (2 ^ 32))))+((IntKind.wrap .u64 ((bAnd .u64 (IntKind.wrap .u64 ((IntKind.wrap .u64 ((p1.fdiv (2 ^ 32))*(bAnd .u64 p2 4294967295)))+((IntKind.wrap .u64 ((bAnd .u64 p1 4294967295)*(bAnd .u64 p2 4294967295))).fdiv (2 ^ 32)))) 4294967295)+(IntKind.wrap .u64 ((bAnd .u64 p1 4294967295)*(p2.fdiv (2 ^ 32)))))).fdiv (2 ^ 32)))))]),(false,[.d (.int .u64 (IntKind.wrap .u64 (p1*p2)))])]),[]):=by
 refine Fi X_math_bits_Mul64 (f:=fun k=>T_math_bits_Mul64 k p1 p2) H fun k H=>?_
 cases H
 exact Kz 25 (ff (p:=(0:Int)≤32) (by decide) (ff (p:=(0:Int)≤32) (by decide) (ff (p:=(0:Int)≤32) (by decide) (ff (p:=(0:Int)≤32) (by decide) (ff (p:=(0:Int)≤32) (by decide) zz)))))
def T_ratio_Cmp (k:Nat) (p1:Int) (p2:Int) (p3:Int) (p4:Int):Option Int:=match k with
 | 0=>none
 | k+1=>((((T_ratio_Valid k p1 p2).bind fun x1=>(if (!x1)=true then some true else ((T_ratio_Valid k p3 p4).bind fun x4=>some (!x4))))).bind fun x5=>(if x5=true then some 0 else ((T_math_bits_Mul64 k (IntKind.wrap .u64 (p1)) (IntKind.wrap .u64 (p4))).bind fun x7=>(T_math_bits_Mul64 k (IntKind.wrap .u64 (p3)) (IntKind.wrap .u64 (p2))).bind fun x8=>(if (decide ((IntKind.wrap .u64 ((IntKind.wrap .u64 ((IntKind.wrap .u64 (((IntKind.wrap .u64 (p1)).fdiv (2 ^ 32))*((IntKind.wrap .u64 (p4)).fdiv (2 ^ 32))))+((IntKind.wrap .u64 ((IntKind.wrap .u64 (((IntKind.wrap .u64 (p1)).fdiv (2 ^ 32))*(bAnd .u64 (IntKind.wrap .u64 (p4)) 4294967295)))+((IntKind.wrap .u64 ((bAnd .u64 (IntKind.wrap .u64 (p1)) 4294967295)*(bAnd .u64 (IntKind.wrap .u64 (p4)) 4294967295))).fdiv (2 ^ 32)))).fdiv (2 ^ 32))))+((IntKind.wrap .u64 ((bAnd .u64 (IntKind.wrap .u64 ((IntKind.wrap .u64 (((IntKind.wrap .u64 (p1)).fdiv (2 ^ 32))*(bAnd .u64 (IntKind.wrap .u64 (p4)) 4294967295)))+((IntKind.wrap .u64 ((bAnd .u64 (IntKind.wrap .u64 (p1)) 4294967295)*(bAnd .u64 (IntKind.wrap .u64 (p4)) 4294967295))).fdiv (2 ^ 32)))) 4294967295)+(IntKind.wrap .u64 ((bAnd .u64 (IntKind.wrap .u64 (p1)) 4294967295)*((IntKind.wrap .u64 (p4)).fdiv (2 ^ 32)))))).fdiv (2 ^ 32)))) < (IntKind.wrap .u64 ((IntKind.wrap .u64 ((IntKind.wrap .u64 (((IntKind.wrap .u64 (p3)).fdiv (2 ^ 32))*((IntKind.wrap .u64 (p2)).fdiv (2 ^ 32))))+((IntKind.wrap .u64 ((IntKind.wrap .u64 (((IntKind.wrap .u64 (p3)).fdiv (2 ^ 32))*(bAnd .u64 (IntKind.wrap .u64 (p2)) 4294967295)))+((IntKind.wrap .u64 ((bAnd .u64 (IntKind.wrap .u64 (p3)) 4294967295)*(bAnd .u64 (IntKind.wrap .u64 (p2)) 4294967295))).fdiv (2 ^ 32)))).fdiv (2 ^ 32))))+((IntKind.wrap .u64 ((bAnd .u64 (IntKind.wrap .u64 ((IntKind.wrap .u64 (((IntKind.wrap .u64 (p3)).fdiv (2 ^ 32))*(bAnd .u64 (IntKind.wrap .u64 (p2)) 4294967295)))+((IntKind.wrap .u64 ((bAnd .u64 (IntKind.wrap .u64 (p3)) 4294967295)*(bAnd .u64 (IntKind.wrap .u64 (p2)) 4294967295))).fdiv (2 ^ 32)))) 4294967295)+(IntKind.wrap .u64 ((bAnd .u64 (IntKind.wrap .u64 (p3)) 4294967295)*((IntKind.wrap .u64 (p2)).fdiv (2 ^ 32)))))).fdiv (2 ^ 32))))) || (decide ((IntKind.wrap .u64 ((IntKind.wrap .u64 ((IntKind.wrap .u64 (((IntKind.wrap .u64 (p1)).fdiv (2 ^ 32))*((IntKind.wrap .u64 (p4)).fdiv (2 ^ 32))))+((IntKind.wrap .u64 ((IntKind.wrap .u64 (((IntKind.wrap .u64 (p1)).fdiv (2 ^ 32))*(bAnd .u64 (IntKind.wrap .u64 (p4)) 4294967295)))+((IntKind.wrap .u64 ((bAnd .u64 (IntKind.wrap .u64 (p1)) 4294967295)*(bAnd .u64 (IntKind.wrap .u64 (p4)) 4294967295))).fdiv (2 ^ 32)))).fdiv (2 ^ 32))))+((IntKind.wrap .u64 ((bAnd .u64 (IntKind.wrap .u64 ((IntKind.wrap .u64 (((IntKind.wrap .u64 (p1)).fdiv (2 ^ 32))*(bAnd .u64 (IntKind.wrap .u64 (p4)) 4294967295)))+((IntKind.wrap .u64 ((bAnd .u64 (IntKind.wrap .u64 (p1)) 4294967295)*(bAnd .u64 (IntKind.wrap .u64 (p4)) 4294967295))).fdiv (2 ^ 32)))) 4294967295)+(IntKind.wrap .u64 ((bAnd .u64 (IntKind.wrap .u64 (p1)) 4294967295)*((IntKind.wrap .u64 (p4)).fdiv (2 ^ 32)))))).fdiv (2 ^ 32))))=(IntKind.wrap .u64 ((IntKind.wrap .u64 ((IntKind.wrap .u64 (((IntKind.wrap .u64 (p3)).fdiv (2 ^ 32))*((IntKind.wrap .u64 (p2)).fdiv (2 ^ 32))))+((IntKind.wrap .u64 ((IntKind.wrap .u64 (((IntKind.wrap .u64 (p3)).fdiv (2 ^ 32))*(bAnd .u64 (IntKind.wrap .u64 (p2)) 4294967295)))+((IntKind.wrap .u64 ((bAnd .u64 (IntKind.wrap .u64 (p3)) 4294967295)*(bAnd .u64 (IntKind.wrap .u64 (p2)) 4294967295))).fdiv (2 ^ 32)))).fdiv (2 ^ 32))))+((IntKind.wrap .u64 ((bAnd .u64 (IntKind.wrap .u64 ((IntKind.wrap .u64 (((IntKind.wrap .u64 (p3)).fdiv (2 ^ 32))*(bAnd .u64 (IntKind.wrap .u64 (p2)) 4294967295)))+((IntKind.wrap .u64 ((bAnd .u64 (IntKind.wrap .u64 (p3)) 4294967295)*(bAnd .u64 (IntKind.wrap .u64 (p2)) 4294967295))).fdiv (2 ^ 32)))) 4294967295)+(IntKind.wrap .u64 ((bAnd .u64 (IntKind.wrap .u64 (p3)) 4294967295)*((IntKind.wrap .u64 (p2)).fdiv (2 ^ 32)))))).fdiv (2 ^ 32))))) && decide ((IntKind.wrap .u64 ((IntKind.wrap .u64 (p1))*(IntKind.wrap .u64 (p4)))) < (IntKind.wrap .u64 ((IntKind.wrap .u64 (p3))*(IntKind.wrap .u64 (p2)))))))=true then some (-1) else (if (decide ((IntKind.wrap .u64 ((IntKind.wrap .u64 ((IntKind.wrap .u64 (((IntKind.wrap .u64 (p1)).fdiv (2 ^ 32))*((IntKind.wrap .u64 (p4)).fdiv (2 ^ 32))))+((IntKind.wrap .u64 ((IntKind.wrap .u64 (((IntKind.wrap .u64 (p1)).fdiv (2 ^ 32))*(bAnd .u64 (IntKind.wrap .u64 (p4)) 4294967295)))+((IntKind.wrap .u64 ((bAnd .u64 (IntKind.wrap .u64 (p1)) 4294967295)*(bAnd .u64 (IntKind.wrap .u64 (p4)) 4294967295))).fdiv (2 ^ 32)))).fdiv (2 ^ 32))))+((IntKind.wrap .u64 ((bAnd .u64 (IntKind.wrap .u64 ((IntKind.wrap .u64 (((IntKind.wrap .u64 (p1)).fdiv (2 ^ 32))*(bAnd .u64 (IntKind.wrap .u64 (p4)) 4294967295)))+((IntKind.wrap .u64 ((bAnd .u64 (IntKind.wrap .u64 (p1)) 4294967295)*(bAnd .u64 (IntKind.wrap .u64 (p4)) 4294967295))).fdiv (2 ^ 32)))) 4294967295)+(IntKind.wrap .u64 ((bAnd .u64 (IntKind.wrap .u64 (p1)) 4294967295)*((IntKind.wrap .u64 (p4)).fdiv (2 ^ 32)))))).fdiv (2 ^ 32))))=(IntKind.wrap .u64 ((IntKind.wrap .u64 ((IntKind.wrap .u64 (((IntKind.wrap .u64 (p3)).fdiv (2 ^ 32))*((IntKind.wrap .u64 (p2)).fdiv (2 ^ 32))))+((IntKind.wrap .u64 ((IntKind.wrap .u64 (((IntKind.wrap .u64 (p3)).fdiv (2 ^ 32))*(bAnd .u64 (IntKind.wrap .u64 (p2)) 4294967295)))+((IntKind.wrap .u64 ((bAnd .u64 (IntKind.wrap .u64 (p3)) 4294967295)*(bAnd .u64 (IntKind.wrap .u64 (p2)) 4294967295))).fdiv (2 ^ 32)))).fdiv (2 ^ 32))))+((IntKind.wrap .u64 ((bAnd .u64 (IntKind.wrap .u64 ((IntKind.wrap .u64 (((IntKind.wrap .u64 (p3)).fdiv (2 ^ 32))*(bAnd .u64 (IntKind.wrap .u64 (p2)) 4294967295)))+((IntKind.wrap .u64 ((bAnd .u64 (IntKind.wrap .u64 (p3)) 4294967295)*(bAnd .u64 (IntKind.wrap .u64 (p2)) 4294967295))).fdiv (2 ^ 32)))) 4294967295)+(IntKind.wrap .u64 ((bAnd .u64 (IntKind.wrap .u64 (p3)) 4294967295)*((IntKind.wrap .u64 (p2)).fdiv (2 ^ 32)))))).fdiv (2 ^ 32))))) && decide ((IntKind.wrap .u64 ((IntKind.wrap .u64 (p1))*(IntKind.wrap .u64 (p4))))=(IntKind.wrap .u64 ((IntKind.wrap .u64 (p3))*(IntKind.wrap .u64 (p2))))))=true then some 0 else some 1)))))
theorem o56 {k:Nat} {p1:Int} {p2:Int} {p3:Int} {p4:Int} {r:Int} (H:T_ratio_Cmp k p1 p2 p3 p4=some r):evF X k n_ratio_Cmp [(.agg [cI p1,cI p2]),(.agg [cI p3,cI p4])] []=some ((I r),[]):=by
 refine Fi X_ratio_Cmp (f:=fun k=>T_ratio_Cmp k p1 p2 p3 p4) H fun k H=>?_
 obtain ⟨x5,hx5,H⟩:=bs H
 refine Kx 4 zz ?_
 refine Kc ⟨[(2,(Pt 0)),(3,(Pt 1)),(16,(B x5))],[.cells [cI p1,cI p2],.cells [cI p3,cI p4]]⟩ ?_ ?_
 · replace H:=hx5
   obtain ⟨x1,hx1,H⟩:=bs H
   rcases is H with ⟨hx3,H⟩ | ⟨hx3,H⟩
   · cases H
     exact Kz 1 (fc (o57 hx1) (ft hx3 zz))
   · obtain ⟨x4,hx4,H⟩:=bs H
     cases H
     exact Kz 1 (fc (o57 hx1) (fn hx3 (fc (o57 hx4) zz)))
 rcases is H with ⟨hx6,H⟩ | ⟨hx6,H⟩
 · cases H
   exact Kz 4 (ft hx6 zz)
 · obtain ⟨x7,hx7,H⟩:=bs H
   obtain ⟨x8,hx8,H⟩:=bs H
   refine Kx 11 (fn hx6 (fc (o58 hx7) (fc (o58 hx8) (fo (.m) (fo (.m) (ff (p:=decide ((IntKind.wrap .u64 ((IntKind.wrap .u64 ((IntKind.wrap .u64 (((IntKind.wrap .u64 (p1)).fdiv (2 ^ 32))*((IntKind.wrap .u64 (p4)).fdiv (2 ^ 32))))+((IntKind.wrap .u64 ((IntKind.wrap .u64 (((IntKind.wrap .u64 (p1)).fdiv (2 ^ 32))*(bAnd .u64 (IntKind.wrap .u64 (p4)) 4294967295)))+((IntKind.wrap .u64 ((bAnd .u64 (IntKind.wrap .u64 (p1)) 4294967295)*(bAnd .u64 (IntKind.wrap .u64 (p4)) 4294967295))).fdiv (2 ^ 32)))).fdiv (2 ^ 32))))+((IntKind.wrap .u64 ((bAnd .u64 (IntKind.wrap .u64 ((IntKind.wrap .u64 (((IntKind.wrap .u64 (p1)).fdiv (2 ^ 32))*(bAnd .u64 (IntKind.wrap .u64 (p4)) 4294967295)))+((IntKind.wrap .u64 ((bAnd .u64 (IntKind.wrap .u64 (p1)) 4294967295)*(bAnd .u64 (IntKind.wrap .u64 (p4)) 4294967295))).fdiv (2 ^ 32)))) 4294967295)+(IntKind.wrap .u64 ((bAnd .u64 (IntKind.wrap .u64 (p1)) 4294967295)*((IntKind.wrap .u64 (p4)).fdiv (2 ^ 32)))))).fdiv (2 ^ 32)))) < (IntKind.wrap .u64 ((IntKind.wrap .u64 ((IntKind.wrap .u64 (((IntKind.wrap .u64 (p3)).fdiv (2 ^ 32))*((IntKind.wrap .u64 (p2)).fdiv (2 ^ 32))))+((IntKind.wrap .u64 ((IntKind.wrap .u64 (((IntKind.wrap .u64 (p3)).fdiv (2 ^ 32))*(bAnd .u64 (IntKind.wrap .u64 (p2)) 4294967295)))+((IntKind.wrap .u64 ((bAnd .u64 (IntKind.wrap .u64 (p3)) 4294967295)*(bAnd .u64 (IntKind.wrap .u64 (p2)) 4294967295))).fdiv (2 ^ 32)))).fdiv (2 ^ 32))))+((IntKind.wrap .u64 ((bAnd .u64 (IntKind.wrap .u64 ((IntKind.wrap .u64 (((IntKind.wrap .u64 (p3)).fdiv (2 ^ 32))*(bAnd .u64 (IntKind.wrap .u64 (p2)) 4294967295)))+((IntKind.wrap .u64 ((bAnd .u64 (IntKind.wrap .u64 (p3)) 4294967295)*(bAnd .u64 (IntKind.wrap .u64 (p2)) 4294967295))).fdiv (2 ^ 32)))) 4294967295)+(IntKind.wrap .u64 ((bAnd .u64 (IntKind.wrap .u64 (p3)) 4294967295)*((IntKind.wrap .u64 (p2)).fdiv (2 ^ 32)))))).fdiv (2 ^ 32)))))=false→AllT [([]:Heap)=[]]) (fun _=>(A1 rfl)) (ff (rfl (a:=([]:Heap))) zz))))))) ?_
   rcases is H with ⟨hx9,H⟩ | ⟨hx9,H⟩
   · cases H
     exact Kz 4 (ft hx9 zz)
   · refine Kx 3 (fn hx9 (fo (.m) (ff (rfl (a:=([]:Heap))) zz))) ?_
     rcases is H with ⟨hx10,H⟩ | ⟨hx10,H⟩
     · cases H
       exact Kz 4 (ft hx10 zz)
     · cases H
       exact Kz 7 (fn hx10 zz)
def T_ratio_Less (k:Nat) (p1:Int) (p2:Int) (p3:Int) (p4:Int):Option Bool:=match k with
 | 0=>none
 | k+1=>((T_ratio_Cmp k p1 p2 p3 p4).bind fun x1=>some (decide (x1 < 0)))
theorem o55 {k:Nat} {p1:Int} {p2:Int} {p3:Int} {p4:Int} {r:Bool} (H:T_ratio_Less k p1 p2 p3 p4=some r):evF X k n_ratio_Less [(.agg [cI p1,cI p2]),(.agg [cI p3,cI p4])] []=some ((B r),[]):=by
 refine Fi X_ratio_Less (f:=fun k=>T_ratio_Less k p1 p2 p3 p4) H fun k H=>?_
 obtain ⟨x1,hx1,H⟩:=bs H
 cases H
 exact Kz 5 (fc (o56 hx1) zz)
def T_cmp_isNaN_557a (k:Nat) (p1:Int):Option Unit:=match k with
 | 0=>none
 | k+1=>some ()
theorem o61 {k:Nat} {p1:Int} {r:Unit} (H:T_cmp_isNaN_557a k p1=some r):evF X k n_cmp_isNaN_557a [(I p1)] []=some ((B (!decide (p1=p1))),[]):=by
 refine Fi X_cmp_isNaN_557a (f:=fun k=>T_cmp_isNaN_557a k p1) H fun k H=>?_
 cases H
 exact Kz 5 zz
def T_cmp_Compare_557a (k:Nat) (p1:Int) (p2:Int):Option Int:=match k with
 | 0=>none
 | k+1=>((T_cmp_isNaN_557a k p1).bind fun x1=>(T_cmp_isNaN_557a k p2).bind fun x2=>(if (!decide (p1=p1))=true then (if (!decide (p2=p2))=true then some 0 else some (-1)) else (if (!decide (p2=p2))=true then some 1 else (if p1 < p2 then some (-1) else (if p2 < p1 then some 1 else some 0)))))
theorem o60 {k:Nat} {p1:Int} {p2:Int} {r:Int} (H:T_cmp_Compare_557a k p1 p2=some r):evF X k n_cmp_Compare_557a [(I p1),(I p2)] []=some ((I r),[]):=by
 refine Fi X_cmp_Compare_557a (f:=fun k=>T_cmp_Compare_557a k p1 p2) H fun k H=>?_
 obtain ⟨x1,hx1,H⟩:=bs H
 obtain ⟨x2,hx2,H⟩:=bs H
 refine Kx 9 (fc (o61 hx1) (fc (o61 hx2) zz)) ?_
 rcases is H with ⟨hx3,H⟩ | ⟨hx3,H⟩
 · refine Kx 4 (ft hx3 zz) ?_
   rcases is H with ⟨hx4,H⟩ | ⟨hx4,H⟩
   · cases H
     exact Kz 4 (ft hx4 zz)
   · cases H
     exact Kz 6 (fn hx4 zz)
 · refine Kx 6 (fn hx3 zz) ?_
   rcases is H with ⟨hx5,H⟩ | ⟨hx5,H⟩
   · cases H
     exact Kz 4 (ft hx5 zz)
   · refine Kx 6 (fn hx5 zz) ?_
     rcases is H with ⟨hx6,H⟩ | ⟨hx6,H⟩
     · cases H
       exact Kz 4 (fT hx6 zz)
     · refine Kx 6 (fN hx6 zz) ?_
       rcases is H with ⟨hx7,H⟩ | ⟨hx7,H⟩
       · cases H
         exact Kz 4 (fT hx7 zz)
       · cases H
         exact Kz 6 (fN hx7 zz)
def T_cmp_Or_557a_l1 (k:Nat) (p1:List Int) (x3:Int) (x8:Int):Option (Int ⊕ (Unit ⊕ Int)) :=
 (if x8 < x3 then ((at? p1 x8).bind fun x10=>(if (!decide (x10=0))=true then some (.inr (.inr x10)) else some (.inl (w64 (x8+1))))) else some (.inr (.inl ())))
theorem o62_1 {k:Nat} {p1:List Int} {x3:Int}:Rnd (T_cmp_Or_557a_l1 k p1 x3) (evC X (evF X k) k 0 l_cmp_Or_557a_1) (fun s:Int=>⟨[(3,(I 0)),(6,(LI p1)),(7,(I x3)),(8,(I s))],[]⟩) (fun r:Unit ⊕ Int=>Sum.elim (fun y=>(.exit 0,⟨[(3,(I 0))],[]⟩)) (fun y=>(.ret,⟨[(2,(I y))],[]⟩)) r):=rnd fun x8 x H=>by
 rcases is H with ⟨hx9,H⟩ | ⟨hx9,H⟩
 · obtain ⟨x10,hx10,H⟩:=bs H
   refine Kx 12 (fT hx9 (fi hx10 zz)) ?_
   rcases is H with ⟨hx11,H⟩ | ⟨hx11,H⟩
   · cases H
     exact Kz 4 (ft hx11 zz)
   · cases H
     exact Kz 5 (fn hx11 zz)
 · cases H
   exact Kz 5 (fN hx9 zz)
def T_cmp_Or_557a (k:Nat) (p1:List Int):Option Int:=match k with
 | 0=>none
 | k+1=>((loopT (T_cmp_Or_557a_l1 k p1 (p1.length:Int)) k 0).bind fun x12=>(match x12 with | .inl x13=>some 0 | .inr x14=>some x14))
theorem o62 {k:Nat} {p1:List Int} {r:Int} (H:T_cmp_Or_557a k p1=some r):evF X k n_cmp_Or_557a [(LI p1)] []=some ((I r),[]):=by
 refine Fi X_cmp_Or_557a (f:=fun k=>T_cmp_Or_557a k p1) H fun k H=>?_
 obtain ⟨x12,hx12,H⟩:=bs H
 refine Kx 8 (fl (D.int .i64) p1 zz) ?_
 cases x12 with
 | inl x13 =>
  refine Kl (o62_1.go hx12) ?_
  cases H
  exact Kz 3 zz
 | inr x14 =>
  cases H
  exact Klr (o62_1.go hx12)
def T_store_Compare (k:Nat) (p1:Int) (p2:Int) (p3:Int) (p4:Int):Option Int:=match k with
 | 0=>none
 | k+1=>((T_cmp_Compare_557a k p1 p3).bind fun x1=>(T_cmp_Compare_557a k p2 p4).bind fun x2=>(T_cmp_Or_557a k ([x1,x2]:List Int)).bind fun x3=>some x3)
theorem o59 {k:Nat} {p1:Int} {p2:Int} {p3:Int} {p4:Int} {r:Int} (H:T_store_Compare k p1 p2 p3 p4=some r):evF X k n_store_Compare [(.agg [cI p1,cI p2]),(.agg [cI p3,cI p4])] []=some ((I r),[]):=by
 refine Fi X_store_Compare (f:=fun k=>T_store_Compare k p1 p2 p3 p4) H fun k H=>?_
 obtain ⟨x1,hx1,H⟩:=bs H
 obtain ⟨x2,hx2,H⟩:=bs H
 obtain ⟨x3,hx3,H⟩:=bs H
 cases H
 exact Kz 5 (fc (o60 hx1) (fc (o60 hx2) (fc (o62 hx3) zz)))
def T_store_Before (k:Nat) (p1:Int) (p2:Int) (p3:Int) (p4:Int) (p5:Int) (p6:Int) (p7:Int) (p8:Int):Option Bool:=match k with
 | 0=>none
 | k+1=>((T_ratio_Less k p1 p2 p5 p6).bind fun x1=>(if x1=true then some true else ((T_ratio_Less k p5 p6 p1 p2).bind fun x3=>(if x3=true then some false else ((T_store_Compare k p3 p4 p7 p8).bind fun x5=>some (decide (x5 < 0)))))))
theorem o54 {k:Nat} {p1:Int} {p2:Int} {p3:Int} {p4:Int} {p5:Int} {p6:Int} {p7:Int} {p8:Int} {r:Bool} (H:T_store_Before k p1 p2 p3 p4 p5 p6 p7 p8=some r):evF X k n_store_Before [(.agg [cI p1,cI p2,cI p3,cI p4]),(.agg [cI p5,cI p6,cI p7,cI p8])] []=some ((B r),[]):=by
 refine Fi X_store_Before (f:=fun k=>T_store_Before k p1 p2 p3 p4 p5 p6 p7 p8) H fun k H=>?_
 obtain ⟨x1,hx1,H⟩:=bs H
 refine Kx 6 (fc (o55 hx1) zz) ?_
 rcases is H with ⟨hx2,H⟩ | ⟨hx2,H⟩
 · cases H
   exact Kz 4 (ft hx2 zz)
 · obtain ⟨x3,hx3,H⟩:=bs H
   refine Kx 3 (fn hx2 (fc (o55 hx3) zz)) ?_
   rcases is H with ⟨hx4,H⟩ | ⟨hx4,H⟩
   · cases H
     exact Kz 4 (ft hx4 zz)
   · obtain ⟨x5,hx5,H⟩:=bs H
     cases H
     exact Kz 7 (fn hx4 (fc (o59 hx5) zz))
def T_store_Sort_1 (k:Nat) (p1:Int) (p2:Int) (p3:Int) (p4:Int) (p5:Int) (p6:Int) (p7:Int) (p8:Int):Option Int:=match k with
 | 0=>none
 | k+1=>((T_store_Before k p1 p2 p3 p4 p5 p6 p7 p8).bind fun x1=>(if x1=true then some (-1) else ((T_store_Before k p5 p6 p7 p8 p1 p2 p3 p4).bind fun x3=>(if x3=true then some 1 else some 0))))
theorem o53 {k:Nat} {p1:Int} {p2:Int} {p3:Int} {p4:Int} {p5:Int} {p6:Int} {p7:Int} {p8:Int} {r:Int} (H:T_store_Sort_1 k p1 p2 p3 p4 p5 p6 p7 p8=some r):evF X k n_store_Sort_1 [(.agg [cI p1,cI p2,cI p3,cI p4]),(.agg [cI p5,cI p6,cI p7,cI p8])] []=some ((I r),[]):=by
 refine Fi X_store_Sort_1 (f:=fun k=>T_store_Sort_1 k p1 p2 p3 p4 p5 p6 p7 p8) H fun k H=>?_
 obtain ⟨x1,hx1,H⟩:=bs H
 refine Kx 6 (fc (o54 hx1) zz) ?_
 rcases is H with ⟨hx2,H⟩ | ⟨hx2,H⟩
 · cases H
   exact Kz 4 (ft hx2 zz)
 · obtain ⟨x3,hx3,H⟩:=bs H
   refine Kx 3 (fn hx2 (fc (o54 hx3) zz)) ?_
   rcases is H with ⟨hx4,H⟩ | ⟨hx4,H⟩
   · cases H
     exact Kz 4 (ft hx4 zz)
   · cases H
     exact Kz 7 (fn hx4 zz)
def T_slices_SortFunc_8a0a (k:Nat) (p1:Nat) (p2:List (Int × Int × Int × Int)):Option (List (Int × Int × Int × Int)):=match k with
 | 0=>none
 | k+1=>sortT (fun x y:Int × Int × Int × Int=>T_store_Sort_1 k x.1 x.2.1 x.2.2.1 x.2.2.2 y.1 y.2.1 y.2.2.1 y.2.2.2) p1 p2
abbrev C_T_slices_SortFunc_8a0a (k:Nat) (p1:Nat) (p2:List (Int × Int × Int × Int)) (r:List (Int × Int × Int × Int)):Prop:=evF X k n_slices_SortFunc_8a0a [(.one (.own 0 0 p1)),(.one (.fn (.func n_store_Sort_1) []))] [.vals (.agg [(.int .i64 0),(.int .i64 0),(.int .i64 0),(.int .i64 0)]) (p2.map e_st1)]=some (.tup [],[.vals (.agg [(.int .i64 0),(.int .i64 0),(.int .i64 0),(.int .i64 0)]) (r.map e_st1)])
theorem T_slices_SortFunc_8a0a_ok {k:Nat} {p1:Nat} {p2:List (Int × Int × Int × Int)} {r:List (Int × Int × Int × Int)} (H:T_slices_SortFunc_8a0a k p1 p2=some r):C_T_slices_SortFunc_8a0a k p1 p2 r:=by
 cases k with
 | zero=>cases H
 | succ k=>exact sortT_ok X_slices_SortFunc_8a0a rfl rfl (fun x=>⟨rfl,fun c hc=>by simp only [D.cells,List.mem_cons,List.not_mem_nil,or_false] at hc; rcases hc with rfl | rfl | rfl | rfl <;> rfl⟩) (fun x y r h=>o53 h) H
def T_store_Sort (k:Nat) (p1:Nat) (p2:List (Int × Int × Int × Int)):Option ((List (Int × Int × Int × Int))):=match k with
 | 0=>none
 | k+1=>((T_slices_SortFunc_8a0a k p1 p2).bind fun x1=>some x1)
theorem o52 {k:Nat} {p1:Nat} {p2:List (Int × Int × Int × Int)} {r:(List (Int × Int × Int × Int))} (H:T_store_Sort k p1 p2=some r):evF X k n_store_Sort [(.one (.own 0 0 p1))] [.vals (.agg [(.int .i64 0),(.int .i64 0),(.int .i64 0),(.int .i64 0)]) (p2.map e_st1)]=some ((.tup []),[.vals (.agg [(.int .i64 0),(.int .i64 0),(.int .i64 0),(.int .i64 0)]) (r.map e_st1)]):=by
 refine Fi X_store_Sort (f:=fun k=>T_store_Sort k p1 p2) H fun k H=>?_
 obtain ⟨x1,hx1,H⟩:=bs H
 cases H
 exact Kz 3 (fc (T_slices_SortFunc_8a0a_ok hx1) zz)
def T_store_Hits_l1 (k:Nat) (p1:List (List Int)) (p2:Int) (p3:Int) (p4:Int) (p5:List Int) (x8:Int) (x49:List Int) (x50:(List Int)) (x53:Int) (x57:Int) (x59:Int) (x71:Nat × Int × (List (Int × Int × Int × Int))):Option ((Nat × Int × (List (Int × Int × Int × Int))) ⊕ ((Nat × (List (Int × Int × Int × Int))) ⊕ Int)) :=
 (if x71.2.1 < x59 then (at? x50 x71.2.1).bind fun x73=>(if (0:Int)≤x73∧x73≤(w64 (x73+(p5.length:Int)))∧(w64 (x73+(p5.length:Int)))≤(x49.length:Int)∧(x49.length:Int)≤(x49.length:Int) then (T_measure_Distance k p2 p3 p4 p5 ((x49.drop x73.toNat).take ((w64 (x73+(p5.length:Int))).toNat - x73.toNat))).bind fun x75=>(if (!decide (x75.2.2=0))=true then some (.inr (.inr x75.2.2)) else (if x71.1+1≤LIM then some (.inl ((x71.1+1),(w64 (x71.2.1+1)),((x71.2.2.drop 0).take x71.1++([(x75.1,x75.2.1,x53,x73)]:List (Int × Int × Int × Int))))) else none)) else none) else some (.inr (.inl (x71.1,x71.2.2))))
theorem o14_1 {k:Nat} {p1:List (List Int)} {p2:Int} {p3:Int} {p4:Int} {p5:List Int} {x8:Int} {x49:List Int} {x50:(List Int)} {x53:Int} {x57:Int} {x59:Int}:Rnd (T_store_Hits_l1 k p1 p2 p3 p4 p5 x8 x49 x50 x53 x57 x59) (evC X (evF X k) k 0 l_store_Hits_1) (fun s:Nat × Int × (List (Int × Int × Int × Int))=>⟨[(2,(LI p5)),(4,(Pt 0)),(10,(.one (.own 1 0 s.1))),(11,(I x53)),(12,(LI x49)),(29,(.one (.d (.list (p1.map (el (D.int .i64))))))),(30,(I x8)),(31,(I x57)),(39,(LI x50)),(40,(I x59)),(41,(I s.2.1))],[.cells [cI p2,cI p3,cI p4],.vals (.agg [(.int .i64 0),(.int .i64 0),(.int .i64 0),(.int .i64 0)]) (s.2.2.map e_st1)]⟩) (fun r:(Nat × (List (Int × Int × Int × Int))) ⊕ Int=>Sum.elim (fun y=>(.exit 2,⟨[(2,(LI p5)),(4,(Pt 0)),(10,(.one (.own 1 0 y.1))),(29,(.one (.d (.list (p1.map (el (D.int .i64))))))),(30,(I x8)),(31,(I x57))],[.cells [cI p2,cI p3,cI p4],.vals (.agg [(.int .i64 0),(.int .i64 0),(.int .i64 0),(.int .i64 0)]) (y.2.map e_st1)]⟩)) (fun y=>(.ret,⟨[(6,(.one (.nil))),(7,(I y))],[]⟩)) r):=rnd fun x71 x H=>by
 rcases is H with ⟨hx72,H⟩ | ⟨hx72,H⟩
 · obtain ⟨x73,hx73,H⟩:=bs H
   obtain ⟨hx74,H⟩:=gs H
   obtain ⟨x75,hx75,H⟩:=bs H
   refine Kx 11 (fT hx72 (fi hx73 zz)) ?_
   refine KI [0,1,2,2] [0,1,2,3,4,4,5] (fl (D.int .i64) p5 (fh (D.int .i64) 1 hx74 (fc (o21 hx75) (ff (rfl (a:=(⟨[(2,(LI p5)),(4,(Pt 0)),(10,(.one (.own 1 0 x71.1))),(11,(I x53)),(12,(LI x49)),(14,(I x73)),(15,(Pt 2)),(16,(I x75.2.2)),(29,(.one (.d (.list (p1.map (el (D.int .i64))))))),(30,(I x8)),(31,(I x57)),(39,(LI x50)),(40,(I x59)),(41,(I x71.2.1))],[.cells [cI p2,cI p3,cI p4],.vals (.agg [(.int .i64 0),(.int .i64 0),(.int .i64 0),(.int .i64 0)]) (x71.2.2.map e_st1),.cells [cI x75.1,cI x75.2.1]]⟩:St))) zz)))) ?_
   rcases is H with ⟨hx76,H⟩ | ⟨hx76,H⟩
   · cases H
     exact Kz 7 (ft hx76 zz)
   · obtain ⟨hx77,H⟩:=gs H
     cases H
     exact Kz 9 (fn hx76 (fP e_st1 4 x71.2.2 0 x71.1 ([(x75.1,x75.2.1,x53,x73)]:List (Int × Int × Int × Int)) 1 hx77 zz))
 · cases H
   exact Kz 5 (fN hx72 zz)
def T_store_Hits_l2 (k:Nat) (p1:List (List Int)) (p2:Int) (p3:Int) (p4:Int) (p5:List Int) (x8:Int) (x47:Nat × Int × (List (Int × Int × Int × Int))):Option ((Nat × Int × (List (Int × Int × Int × Int))) ⊕ ((Nat × (List (Int × Int × Int × Int))) ⊕ Int)) :=
 (if x47.2.1 < x8 then ((at? p1 x47.2.1).bind fun x49=>(T_store_Starts k x49 (p5.length:Int)).bind fun x50=>(loopT (T_store_Hits_l1 k p1 p2 p3 p4 p5 x8 x49 x50 x47.2.1 x47.2.1 (x50.length:Int)) k (x47.1,0,x47.2.2)).bind fun x78=>(match x78 with | .inl x79=>some (.inl (x79.1,(w64 (x47.2.1+1)),x79.2)) | .inr x80=>some (.inr (.inr x80)))) else some (.inr (.inl (x47.1,x47.2.2))))
theorem o14_2 {k:Nat} {p1:List (List Int)} {p2:Int} {p3:Int} {p4:Int} {p5:List Int} {x8:Int}:Rnd (T_store_Hits_l2 k p1 p2 p3 p4 p5 x8) (evC X (evF X k) k 0 l_store_Hits_2) (fun s:Nat × Int × (List (Int × Int × Int × Int))=>⟨[(2,(LI p5)),(4,(Pt 0)),(10,(.one (.own 1 0 s.1))),(29,(.one (.d (.list (p1.map (el (D.int .i64))))))),(30,(I x8)),(31,(I s.2.1))],[.cells [cI p2,cI p3,cI p4],.vals (.agg [(.int .i64 0),(.int .i64 0),(.int .i64 0),(.int .i64 0)]) (s.2.2.map e_st1)]⟩) (fun r:(Nat × (List (Int × Int × Int × Int))) ⊕ Int=>Sum.elim (fun y=>(.exit 0,⟨[(10,(.one (.own 0 0 y.1)))],[.vals (.agg [(.int .i64 0),(.int .i64 0),(.int .i64 0),(.int .i64 0)]) (y.2.map e_st1)]⟩)) (fun y=>(.ret,⟨[(6,(.one (.nil))),(7,(I y))],[]⟩)) r):=rnd fun x47 x H=>by
 rcases is H with ⟨hx48,H⟩ | ⟨hx48,H⟩
 · obtain ⟨x49,hx49,H⟩:=bs H
   obtain ⟨x50,hx50,H⟩:=bs H
   obtain ⟨x78,hx78,H⟩:=bs H
   refine Kx 13 (fT hx48 (fa (el (D.int .i64)) (.list []) hx49 (fl (D.int .i64) p5 (fc (o12 hx50) (fl (D.int .i64) x50 zz))))) ?_
   cases x78 with
   | inl x79 =>
    refine Kl (o14_1.go hx78) ?_
    cases H
    exact Kz 2 zz
   | inr x80 =>
    cases H
    exact Klr (o14_1.go hx78)
 · cases H
   exact Kz 5 (fN hx48 zz)
def T_store_Hits (k:Nat) (p1:List (List Int)) (p2:Int) (p3:Int) (p4:Int) (p5:List Int):Option ((List (Int × Int × Int × Int)) × Int):=match k with
 | 0=>none
 | k+1=>((T_store_Check k p1).bind fun x1=>(if (!decide (x1=0))=true then some ([],x1) else ((T_store_Query k p2 p3 p4 p5).bind fun x3=>(if (!decide (x3=0))=true then some ([],x3) else ((loopT (T_store_Hits_l2 k p1 p2 p3 p4 p5 (p1.length:Int)) k (0,0,[])).bind fun x81=>(match x81 with | .inl x82=>((T_store_Sort k x82.1 x82.2).bind fun x83=>some (((x83.drop 0).take x82.1),0)) | .inr x84=>some ([],x84)))))))
theorem o14 {k:Nat} {p1:List (List Int)} {p2:Int} {p3:Int} {p4:Int} {p5:List Int} {r:(List (Int × Int × Int × Int)) × Int} (H:T_store_Hits k p1 p2 p3 p4 p5=some r):evF X k n_store_Hits [(.agg [.d (.list (p1.map (el (D.int .i64))))]),(.agg [cI p2,cI p3,cI p4]),(LI p5)] []=some ((.tup [(false,[.d (.list (r.1.map e_st1))]),(false,[cI r.2])]),[]):=by
 refine Fi X_store_Hits (f:=fun k=>T_store_Hits k p1 p2 p3 p4 p5) H fun k H=>?_
 obtain ⟨x1,hx1,H⟩:=bs H
 refine Kx 7 (fc (o6 hx1) zz) ?_
 rcases is H with ⟨hx2,H⟩ | ⟨hx2,H⟩
 · cases H
   exact Kz 4 (ft hx2 zz)
 · obtain ⟨x3,hx3,H⟩:=bs H
   refine Kx 8 (fn hx2 (fc (o15 hx3) zz)) ?_
   rcases is H with ⟨hx4,H⟩ | ⟨hx4,H⟩
   · cases H
     exact Kz 4 (ft hx4 zz)
   · obtain ⟨x81,hx81,H⟩:=bs H
     refine Kx 10 (fn hx4 (fl (el (D.int .i64)) p1 zz)) ?_
     cases x81 with
     | inl x82 =>
      refine Kl (o14_2.go hx81) ?_
      obtain ⟨x83,hx83,H⟩:=bs H
      cases H
      exact Kw 5 (some ((.tup [(false,[.d (.list (((x83.map e_st1).drop 0).take x82.1))]),(false,[cI 0])]),[])) (fc (o52 hx83) zz) (by simp only [dt_map,rl_map,LI,VI])
     | inr x84 =>
      cases H
      exact Klr (o14_2.go hx81)
def T_store_Count (k:Nat) (p1:Int):Option Unit:=match k with
 | 0=>none
 | k+1=>some ()
theorem o63 {k:Nat} {p1:Int} {r:Unit} (H:T_store_Count k p1=some r):evF X k n_store_Count [(I p1)] []=some ((B (decide (1≤p1) && decide (p1≤64))),[]):=by
 refine Fi X_store_Count (f:=fun k=>T_store_Count k p1) H fun k H=>?_
 cases H
 exact Kz 5 (fo (.m) (ff (rfl (a:=([]:Heap))) zz))
def T_store_Nearest (k:Nat) (p1:List (List Int)) (p2:Int) (p3:Int) (p4:Int) (p5:List Int) (p6:Int):Option ((List (Int × Int × Int × Int)) × Int):=match k with
 | 0=>none
 | k+1=>((T_store_Hits k p1 p2 p3 p4 p5).bind fun x1=>(if (!decide (x1.2=0))=true then some ([],x1.2) else ((T_store_Count k p6).bind fun x3=>(if (!(decide (1≤p6) && decide (p6≤64)))=true then some ([],24) else (if (0:Int)≤0∧0≤(imin p6 (x1.1.length:Int))∧(imin p6 (x1.1.length:Int))≤(x1.1.length:Int)∧(x1.1.length:Int)≤(x1.1.length:Int) then some (((x1.1.drop 0).take ((imin p6 (x1.1.length:Int)).toNat - 0)),0) else none)))))
theorem o13 {k:Nat} {p1:List (List Int)} {p2:Int} {p3:Int} {p4:Int} {p5:List Int} {p6:Int} {r:(List (Int × Int × Int × Int)) × Int} (H:T_store_Nearest k p1 p2 p3 p4 p5 p6=some r):evF X k n_store_Nearest [(.agg [.d (.list (p1.map (el (D.int .i64))))]),(.agg [cI p2,cI p3,cI p4]),(LI p5),(I p6)] []=some ((.tup [(false,[.d (.list (r.1.map e_st1))]),(false,[cI r.2])]),[]):=by
 refine Fi X_store_Nearest (f:=fun k=>T_store_Nearest k p1 p2 p3 p4 p5 p6) H fun k H=>?_
 obtain ⟨x1,hx1,H⟩:=bs H
 refine Kx 7 (fc (o14 hx1) zz) ?_
 rcases is H with ⟨hx2,H⟩ | ⟨hx2,H⟩
 · cases H
   exact Kz 4 (ft hx2 zz)
 · obtain ⟨x3,hx3,H⟩:=bs H
   refine Kx 6 (fn hx2 (fc (o63 hx3) zz)) ?_
   rcases is H with ⟨hx4,H⟩ | ⟨hx4,H⟩
   · cases H
     exact Kz 4 (ft hx4 zz)
   · obtain ⟨hx5,H⟩:=gs H
     cases H
     exact Kz 6 (fn hx4 (fl e_st1 x1.1 (fh e_st1 4 hx5 zz)))
def T_law23_awake (k:Nat):Option Bool:=match k with
 | 0=>none
 | k+1=>((T_store_Places k ([([0,1,1073741824,3,4]:List Int)]:List (List Int)) 2).bind fun x1=>(T_store_Nearest k ([([0,1,1073741824,3,4]:List Int)]:List (List Int)) 1 0 0 ([3,5]:List Int) 1).bind fun x2=>((if ((decide (x1.2=0) && decide (x2.2=0)) && decide ((x1.1.length:Int)=2))=true then ((at? x1.1 1).bind fun x5=>(if ((decide (x5.1=0) && (decide (x5.2=3) && true)) && decide ((x2.1.length:Int)=1))=true then ((at? x2.1 0).bind fun x8=>some (decide (x8.2.2.2=3) && (decide (x8.1=1) && (decide (x8.2.1=1) && true)))) else some false)) else some false)).bind fun x9=>some x9)
theorem o3 {k:Nat} {r:Bool} (H:T_law23_awake k=some r):evF X k n_law23_awake [] []=some ((B r),[]):=by
 refine Fi X_law23_awake (f:=fun k=>T_law23_awake k) H fun k H=>?_
 obtain ⟨x1,hx1,H⟩:=bs H
 obtain ⟨x2,hx2,H⟩:=bs H
 obtain ⟨x9,hx9,H⟩:=bs H
 refine Kx 9 (fc (o4 hx1) (fc (o13 hx2) zz)) ?_
 refine Kc ⟨[(0,(B x9))],[]⟩ ?_ ?_
 · replace H:=hx9
   rcases is H with ⟨hx4,H⟩ | ⟨hx4,H⟩
   · obtain ⟨x5,hx5,H⟩:=bs H
     rcases is H with ⟨hx7,H⟩ | ⟨hx7,H⟩
     · obtain ⟨x8,hx8,H⟩:=bs H
       cases H
       exact Kz 1 (fo (.m) (ff (rfl (a:=([]:Heap))) (fo (.m) (fo (.n x1.1.length) (ff (p:=(decide (x1.2=0) && decide (x2.2=0))=true→AllT [((x1.1.map e_st0)).length=x1.1.length]) (fun _=>(A1 (List.length_map _))) (ff (rfl (a:=([]:Heap))) (ft hx4 (fa e_st0 (.agg [(.int .i64 0),(.int .i64 0)]) hx5 (fo (.m) (fo (.n x2.1.length) (ff (p:=(decide (x5.1=0) && (decide (x5.2=3) && true))=true→AllT [((x2.1.map e_st1)).length=x2.1.length]) (fun _=>(A1 (List.length_map _))) (ff (rfl (a:=([]:Heap))) (ft hx7 (fa e_st1 (.agg [(.int .i64 0),(.int .i64 0),(.int .i64 0),(.int .i64 0)]) hx8 (fo (.m) (fo (.l [.int .i64 x8.1,.int .i64 x8.2.1,.int .i64 x8.2.2.1,.int .i64 x8.2.2.2]) (ff (p:=decide (x8.2.2.2=3)=true→AllT [(0:Int)≤0∧0 < (((x2.1.map e_st1)).length:Int),((x2.1.map e_st1).getD 0 (.agg [(.int .i64 0),(.int .i64 0),(.int .i64 0),(.int .i64 0)])).cells=[.int .i64 x8.1,.int .i64 x8.2.1,.int .i64 x8.2.2.1,.int .i64 x8.2.2.2]]) (fun _=>(AC (at_ok hx8 e_st1 (.agg [(.int .i64 0),(.int .i64 0),(.int .i64 0),(.int .i64 0)])).1 (A1 (at_ok hx8 e_st1 (.agg [(.int .i64 0),(.int .i64 0),(.int .i64 0),(.int .i64 0)])).2))) (ff (rfl (a:=([]:Heap))) zz))))))))))))))))))
     · cases H
       exact Kz 1 (fo (.m) (ff (rfl (a:=([]:Heap))) (fo (.m) (fo (.n x1.1.length) (ff (p:=(decide (x1.2=0) && decide (x2.2=0))=true→AllT [((x1.1.map e_st0)).length=x1.1.length]) (fun _=>(A1 (List.length_map _))) (ff (rfl (a:=([]:Heap))) (ft hx4 (fa e_st0 (.agg [(.int .i64 0),(.int .i64 0)]) hx5 (fo (.m) (fo (.n x2.1.length) (ff (p:=(decide (x5.1=0) && (decide (x5.2=3) && true))=true→AllT [((x2.1.map e_st1)).length=x2.1.length]) (fun _=>(A1 (List.length_map _))) (ff (rfl (a:=([]:Heap))) (fn hx7 (f0 zz))))))))))))))
   · cases H
     exact Kz 1 (fo (.m) (ff (rfl (a:=([]:Heap))) (fo (.m) (fo (.n x1.1.length) (ff (p:=(decide (x1.2=0) && decide (x2.2=0))=true→AllT [((x1.1.map e_st0)).length=x1.1.length]) (fun _=>(A1 (List.length_map _))) (ff (rfl (a:=([]:Heap))) (fn hx4 (f0 (f0 (f0 zz))))))))))
 cases H
 exact Kz 1 zz
def T_shapesearchsecond_New (k:Nat) (p1:List Int):Option Unit:=match k with
 | 0=>none
 | k+1=>some ()
theorem o64 {k:Nat} {p1:List Int} {r:Unit} (H:T_shapesearchsecond_New k p1=some r):evF X k n_shapesearchsecond_New [(LI p1)] []=some ((Pt 0),[.cells [cL p1,cI 0]]):=by
 refine Fi X_shapesearchsecond_New (f:=fun k=>T_shapesearchsecond_New k p1) H fun k H=>?_
 cases H
 exact Kz 5 zz
def T_shapesearchsecond_Mod (k:Nat) (p1:Int) (p2:Int):Option Unit:=match k with
 | 0=>none
 | k+1=>(if p2≠0 then some () else none)
theorem o67 {k:Nat} {p1:Int} {p2:Int} {r:Unit} (H:T_shapesearchsecond_Mod k p1 p2=some r):evF X k n_shapesearchsecond_Mod [(I p1),(I p2)] []=some ((I ((w64 ((p1.tmod p2)+p2)).tmod p2)),[]):=by
 refine Fi X_shapesearchsecond_Mod (f:=fun k=>T_shapesearchsecond_Mod k p1 p2) H fun k H=>?_
 obtain ⟨hx1,H⟩:=gs H
 cases H
 exact Kz 5 (ff hx1 (ff hx1 zz))
def T_shapesearchsecond_Deck_Next (k:Nat) (p1:Int) (p2:List Int) (p3:Int):Option (Int × Int):=match k with
 | 0=>none
 | k+1=>(if (decide ((p2.length:Int)≤p3) || decide (p1≤1))=true then some (0,p3) else ((at? p2 (w64 ((w64 (p3+1)) - 1))).bind fun x2=>(T_shapesearchsecond_Mod k x2 p1).bind fun x3=>some (((w64 ((x2.tmod p1)+p1)).tmod p1),(w64 (p3+1)))))
theorem o66 {k:Nat} {p1:Int} {p2:List Int} {p3:Int} {r:Int × Int} (H:T_shapesearchsecond_Deck_Next k p1 p2 p3=some r):evF X k n_shapesearchsecond_Deck_Next [(Pt 0),(I p1)] [.cells [cL p2,cI p3]]=some ((I r.1),[.cells [cL p2,cI r.2]]):=by
 refine Fi X_shapesearchsecond_Deck_Next (f:=fun k=>T_shapesearchsecond_Deck_Next k p1 p2 p3) H fun k H=>?_
 refine Kx 5 (fl (D.int .i64) p2 (fo (.m) (ff (rfl (a:=([.cells [cL p2,cI p3]]:Heap))) zz))) ?_
 rcases is H with ⟨hx1,H⟩ | ⟨hx1,H⟩
 · cases H
   exact Kz 4 (ft hx1 zz)
 · obtain ⟨x2,hx2,H⟩:=bs H
   obtain ⟨x3,hx3,H⟩:=bs H
   cases H
   exact Kz 8 (fn hx1 (fi hx2 (fc (o67 hx3) zz)))
def T_shapesearchsecond_Deck_Sample (k:Nat) (p1:List Int) (p2:Int):Option (Int × Int):=match k with
 | 0=>none
 | k+1=>((T_shapesearchsecond_Deck_Next k 12 p1 p2).bind fun x1=>(if x1.1=0 then ((T_shapesearchsecond_Deck_Next k 2001 p1 x1.2).bind fun x3=>some ((w64 (x3.1 - 1000)),x3.2)) else (if x1.1=1 then ((T_shapesearchsecond_Deck_Next k 2 p1 x1.2).bind fun x5=>(at? ([1000,(-1000)]:List Int) x5.1).bind fun x6=>some (x6,x5.2)) else ((T_shapesearchsecond_Deck_Next k 13 p1 x1.2).bind fun x7=>some ((w64 (x7.1 - 4)),x7.2)))))
theorem o69 {k:Nat} {p1:List Int} {p2:Int} {r:Int × Int} (H:T_shapesearchsecond_Deck_Sample k p1 p2=some r):evF X k n_shapesearchsecond_Deck_Sample [(Pt 0)] [.cells [cL p1,cI p2]]=some ((I r.1),[.cells [cL p1,cI r.2]]):=by
 refine Fi X_shapesearchsecond_Deck_Sample (f:=fun k=>T_shapesearchsecond_Deck_Sample k p1 p2) H fun k H=>?_
 obtain ⟨x1,hx1,H⟩:=bs H
 refine Kx 8 (fc (o66 hx1) zz) ?_
 rcases is H with ⟨hx2,H⟩ | ⟨hx2,H⟩
 · obtain ⟨x3,hx3,H⟩:=bs H
   cases H
   exact Kz 4 (fT hx2 (fc (o66 hx3) zz))
 · refine Kx 3 (fN hx2 zz) ?_
   rcases is H with ⟨hx4,H⟩ | ⟨hx4,H⟩
   · obtain ⟨x5,hx5,H⟩:=bs H
     obtain ⟨x6,hx6,H⟩:=bs H
     cases H
     exact Kz 4 (fT hx4 (fc (o66 hx5) (fi hx6 zz)))
   · obtain ⟨x7,hx7,H⟩:=bs H
     cases H
     exact Kz 7 (fN hx4 (fc (o66 hx7) zz))
def T_shapesearchsecond_Deck_Values_l1 (k:Nat) (p1:Int) (p2:List Int) (x5:Int) (x6:Int) (x25:Nat × Int × Int × (List Int)):Option ((Nat × Int × Int × (List Int)) ⊕ ((Nat × Int × (List Int)))) :=
 (if x25.2.1 < p1 then (T_shapesearchsecond_Deck_Sample k p2 x25.2.2.1).bind fun x27=>((if x5=0 then (if x6≠0 then some ((w64 ((x25.2.1.tmod x6)*3)),x27.2) else none) else (if x5=1 then (if x6≠0 then (T_shapesearchsecond_Deck_Next k 2 p2 x27.2).bind fun x32=>some ((w64 ((w64 ((x25.2.1.tmod x6)*4))+x32.1)),x32.2) else none) else (if x5=2 then (if x6≠0 then some ((w64 ((w64 (x25.2.1.tdiv x6))*2)),x27.2) else none) else some (x27.1,x27.2))))).bind fun x35=>(T_shapesearchsecond_Deck_Next k 30 p2 x35.2).bind fun x36=>((if x36.1=29 then some 1073741824 else some x35.1)).bind fun x38=>(if x25.1+1≤LIM then some (.inl ((x25.1+1),(w64 (x25.2.1+1)),x36.2,((x25.2.2.2.drop 0).take x25.1++([x38]:List Int)))) else none) else some (.inr (x25.1,x25.2.2.1,x25.2.2.2)))
theorem o68_1 {k:Nat} {p1:Int} {p2:List Int} {x5:Int} {x6:Int}:Rnd (T_shapesearchsecond_Deck_Values_l1 k p1 p2 x5 x6) (evC X (evF X k) k 1 l_shapesearchsecond_Deck_Values_1) (fun s:Nat × Int × Int × (List Int)=>⟨[(0,(Pt 0)),(1,(I p1)),(5,(.one (.own 1 0 s.1))),(6,(I x5)),(7,(I x6)),(8,(I s.2.1))],[.cells [cL p2,cI s.2.2.1],VI s.2.2.2]⟩) (fun r:(Nat × Int × (List Int))=>(.exit 0,⟨[(5,(.one (.own 1 0 r.1)))],[.cells [cL p2,cI r.2.1],VI r.2.2]⟩)):=rnd fun x25 x H=>by
 rcases is H with ⟨hx26,H⟩ | ⟨hx26,H⟩
 · obtain ⟨x27,hx27,H⟩:=bs H
   obtain ⟨x35,hx35,H⟩:=bs H
   refine Kx 16 (fT hx26 (fc (o69 hx27) zz)) ?_
   refine Kc ⟨[(0,(Pt 0)),(1,(I p1)),(5,(.one (.own 1 0 x25.1))),(6,(I x5)),(7,(I x6)),(8,(I x25.2.1)),(9,(I x35.1))],[.cells [cL p2,cI x35.2],VI x25.2.2.2]⟩ ?_ ?_
   · replace H:=hx35
     rcases is H with ⟨hx28,H⟩ | ⟨hx28,H⟩
     · obtain ⟨hx29,H⟩:=gs H
       cases H
       exact Kz 2 (fT hx28 (ff hx29 zz))
     · refine Kx 3 (fN hx28 zz) ?_
       rcases is H with ⟨hx30,H⟩ | ⟨hx30,H⟩
       · obtain ⟨hx31,H⟩:=gs H
         obtain ⟨x32,hx32,H⟩:=bs H
         cases H
         exact Kz 2 (fT hx30 (ff hx31 (fc (o66 hx32) zz)))
       · refine Kx 3 (fN hx30 zz) ?_
         rcases is H with ⟨hx33,H⟩ | ⟨hx33,H⟩
         · obtain ⟨hx34,H⟩:=gs H
           cases H
           exact Kz 2 (fT hx33 (ff hx34 zz))
         · cases H
           exact Kz 3 (fN hx33 zz)
   obtain ⟨x36,hx36,H⟩:=bs H
   obtain ⟨x38,hx38,H⟩:=bs H
   refine Kx 4 (fc (o66 hx36) zz) ?_
   refine Kc ⟨[(0,(Pt 0)),(1,(I p1)),(5,(.one (.own 1 0 x25.1))),(6,(I x5)),(7,(I x6)),(8,(I x25.2.1)),(9,(I x38))],[.cells [cL p2,cI x36.2],VI x25.2.2.2]⟩ ?_ ?_
   · replace H:=hx38
     rcases is H with ⟨hx37,H⟩ | ⟨hx37,H⟩
     · cases H
       exact Kz 2 (fT hx37 zz)
     · cases H
       exact Kz 3 (fN hx37 zz)
   obtain ⟨hx39,H⟩:=gs H
   cases H
   exact Kz 3 (fP (D.int .i64) 1 x25.2.2.2 0 x25.1 ([x38]:List Int) 1 hx39 zz)
 · cases H
   exact Kz 5 (fN hx26 zz)
def T_shapesearchsecond_Deck_Values (k:Nat) (p1:Int) (p2:List Int) (p3:Int):Option ((List Int) × Int):=match k with
 | 0=>none
 | k+1=>((T_shapesearchsecond_Deck_Next k 5 p2 p3).bind fun x1=>(T_shapesearchsecond_Deck_Next k 4 p2 x1.2).bind fun x2=>(loopT (T_shapesearchsecond_Deck_Values_l1 k p1 p2 x1.1 (w64 (2+x2.1))) k (0,0,x2.2,[])).bind fun x40=>some (((x40.2.2.drop 0).take x40.1),x40.2.1))
theorem o68 {k:Nat} {p1:Int} {p2:List Int} {p3:Int} {r:(List Int) × Int} (H:T_shapesearchsecond_Deck_Values k p1 p2 p3=some r):evF X k n_shapesearchsecond_Deck_Values [(Pt 0),(I p1)] [.cells [cL p2,cI p3]]=some ((LI r.1),[.cells [cL p2,cI r.2]]):=by
 refine Fi X_shapesearchsecond_Deck_Values (f:=fun k=>T_shapesearchsecond_Deck_Values k p1 p2 p3) H fun k H=>?_
 obtain ⟨x1,hx1,H⟩:=bs H
 obtain ⟨x2,hx2,H⟩:=bs H
 obtain ⟨x40,hx40,H⟩:=bs H
 refine Kx 13 (fc (o66 hx1) (fc (o66 hx2) zz)) ?_
 refine Kl (o68_1.go hx40) ?_
 cases H
 exact Kw 3 (some ((.one (.d (.list (((x40.2.2.map (D.int .i64)).drop 0).take x40.1)))),[.cells [cL p2,cI x40.2.1]])) zz (by simp only [dt_map,rl_map,LI,VI])
def T_shapesearchsecond_Deck_Store_l1 (k:Nat) (p1:Int) (p2:List Int) (x12:Int × Int × Nat × (List (List Int))):Option ((Int × Int × Nat × (List (List Int))) ⊕ ((Int × Nat × (List (List Int))))) :=
 (if 0≤x12.1 then (T_shapesearchsecond_Deck_Next k (w64 (p1+1)) p2 x12.2.1).bind fun x14=>(T_shapesearchsecond_Deck_Values k x14.1 p2 x14.2).bind fun x15=>(if x12.2.2.1+1≤LIM then some (.inl ((w64 (x12.1 - 1)),x15.2,(x12.2.2.1+1),((x12.2.2.2.drop 0).take x12.2.2.1++([x15.1]:List (List Int))))) else none) else some (.inr (x12.2.1,x12.2.2.1,x12.2.2.2)))
theorem o65_1 {k:Nat} {p1:Int} {p2:List Int}:Rnd (T_shapesearchsecond_Deck_Store_l1 k p1 p2) (evC X (evF X k) k 1 l_shapesearchsecond_Deck_Store_1) (fun s:Int × Int × Nat × (List (List Int))=>⟨[(0,(Pt 0)),(1,(I p1)),(4,(Pt 1)),(5,(Pt 2)),(6,(I s.1))],[.cells [cL p2,cI s.2.1],.cells [.nil],.cells [.own 3 0 s.2.2.1],.vals (.list []) (s.2.2.2.map (el (D.int .i64)))]⟩) (fun r:(Int × Nat × (List (List Int)))=>(.exit 0,⟨[(4,(Pt 1)),(5,(Pt 2))],[.cells [cL p2,cI r.1],.cells [.nil],.cells [.own 3 0 r.2.1],.vals (.list []) (r.2.2.map (el (D.int .i64)))]⟩)):=rnd fun x12 x H=>by
 rcases is H with ⟨hx13,H⟩ | ⟨hx13,H⟩
 · obtain ⟨x14,hx14,H⟩:=bs H
   obtain ⟨x15,hx15,H⟩:=bs H
   obtain ⟨hx16,H⟩:=gs H
   refine Kx 8 (fT hx13 zz) ?_
   refine KI [0,1,2,3,0,1,2,3,1,2,3] [0,1,2,3,4,5,0,1,2,3,4,5,1,2,3,4,5,6,6] (fc (o66 hx14) (fc (o68 hx15) (fP (el (D.int .i64)) 1 x12.2.2.2 0 x12.2.2.1 ([x15.1]:List (List Int)) 1 hx16 (ff (rfl (a:=(⟨[(0,(Pt 0)),(1,(I p1)),(4,(Pt 1)),(5,(Pt 2)),(6,(I x12.1))],[.cells [cL p2,cI x15.2],.cells [.nil],.cells [.own 3 0 (x12.2.2.1+1)],.vals (.list []) (((x12.2.2.2.drop 0).take x12.2.2.1++([x15.1]:List (List Int))).map (el (D.int .i64)))]⟩:St))) zz)))) ?_
   cases H
   exact Kz 2 zz
 · cases H
   exact Kz 5 (fN hx13 zz)
def T_shapesearchsecond_Deck_Store (k:Nat) (p1:Int) (p2:List Int) (p3:Int):Option ((List (List Int)) × Int):=match k with
 | 0=>none
 | k+1=>((T_shapesearchsecond_Deck_Next k 4 p2 p3).bind fun x1=>(loopT (T_shapesearchsecond_Deck_Store_l1 k p1 p2) k (x1.1,x1.2,0,[])).bind fun x17=>some (((x17.2.2.drop 0).take x17.2.1),x17.1))
theorem o65 {k:Nat} {p1:Int} {p2:List Int} {p3:Int} {r:(List (List Int)) × Int} (H:T_shapesearchsecond_Deck_Store k p1 p2 p3=some r):evF X k n_shapesearchsecond_Deck_Store [(Pt 0),(I p1)] [.cells [cL p2,cI p3]]=some ((.agg [.d (.list (r.1.map (el (D.int .i64))))]),[.cells [cL p2,cI r.2]]):=by
 refine Fi X_shapesearchsecond_Deck_Store (f:=fun k=>T_shapesearchsecond_Deck_Store k p1 p2 p3) H fun k H=>?_
 obtain ⟨x1,hx1,H⟩:=bs H
 obtain ⟨x17,hx17,H⟩:=bs H
 refine Kx 9 (fc (o66 hx1) zz) ?_
 refine Kl (o65_1.go hx17) ?_
 cases H
 exact Kw 3 (some ((.agg [.d (.list (((x17.2.2.map (el (D.int .i64))).drop 0).take x17.2.1))]),[.cells [cL p2,cI x17.1]])) zz (by simp only [dt_map,rl_map,LI,VI])
def T_shapesearchsecond_Deck_Measure (k:Nat) (p1:Int) (p2:List Int) (p3:Int):Option (Int × Int × Int × Int):=match k with
 | 0=>none
 | k+1=>(((if p1=0 then ((T_shapesearchsecond_Deck_Next k 5 p2 p3).bind fun x2=>some (x2.2,(w64 (1+x2.1)))) else some (p3,p1))).bind fun x3=>((if x3.2=4 then ((T_shapesearchsecond_Deck_Next k 5 p2 x3.1).bind fun x5=>(at? ([0,1,2,5,32]:List Int) x5.1).bind fun x6=>some (x5.2,x6,0)) else (if x3.2=5 then ((T_shapesearchsecond_Deck_Next k 9 p2 x3.1).bind fun x8=>some (x8.2,0,(w64 (x8.1 - 3)))) else some (x3.1,0,0)))).bind fun x9=>some (x3.2,x9.2.1,x9.2.2,x9.1))
theorem o70 {k:Nat} {p1:Int} {p2:List Int} {p3:Int} {r:Int × Int × Int × Int} (H:T_shapesearchsecond_Deck_Measure k p1 p2 p3=some r):evF X k n_shapesearchsecond_Deck_Measure [(Pt 0),(I p1)] [.cells [cL p2,cI p3]]=some ((.agg [cI r.1,cI r.2.1,cI r.2.2.1]),[.cells [cL p2,cI r.2.2.2]]):=by
 refine Fi X_shapesearchsecond_Deck_Measure (f:=fun k=>T_shapesearchsecond_Deck_Measure k p1 p2 p3) H fun k H=>?_
 obtain ⟨x3,hx3,H⟩:=bs H
 refine Kx 7 zz ?_
 refine Kc ⟨[(0,(Pt 0)),(4,(Pt 1)),(5,(Pt 2))],[.cells [cL p2,cI x3.1],.cells [cI 0,cI 0,cI 0],.cells [cI x3.2,cI 0,cI 0]]⟩ ?_ ?_
 · replace H:=hx3
   rcases is H with ⟨hx1,H⟩ | ⟨hx1,H⟩
   · obtain ⟨x2,hx2,H⟩:=bs H
     cases H
     exact Kz 2 (fT hx1 (fc (o66 hx2) zz))
   · cases H
     exact Kz 3 (fN hx1 zz)
 obtain ⟨x9,hx9,H⟩:=bs H
 refine Kx 6 zz ?_
 refine Kc ⟨[(4,(Pt 1)),(5,(Pt 2))],[.cells [cL p2,cI x9.1],.cells [cI 0,cI 0,cI 0],.cells [cI x3.2,cI x9.2.1,cI x9.2.2]]⟩ ?_ ?_
 · replace H:=hx9
   rcases is H with ⟨hx4,H⟩ | ⟨hx4,H⟩
   · obtain ⟨x5,hx5,H⟩:=bs H
     obtain ⟨x6,hx6,H⟩:=bs H
     cases H
     exact Kz 2 (fT hx4 (fc (o66 hx5) (fi hx6 zz)))
   · refine Kx 3 (fN hx4 zz) ?_
     rcases is H with ⟨hx7,H⟩ | ⟨hx7,H⟩
     · obtain ⟨x8,hx8,H⟩:=bs H
       cases H
       exact Kz 2 (fT hx7 (fc (o66 hx8) zz))
     · cases H
       exact Kz 3 (fN hx7 zz)
 cases H
 exact Kz 4 zz
def T_shapesearchsecond_Deck_Length (k:Nat) (p1:List Int) (p2:Int):Option (Int × Int):=match k with
 | 0=>none
 | k+1=>((T_shapesearchsecond_Deck_Next k 5 p1 p2).bind fun x1=>some ((w64 (2+x1.1)),x1.2))
theorem o71 {k:Nat} {p1:List Int} {p2:Int} {r:Int × Int} (H:T_shapesearchsecond_Deck_Length k p1 p2=some r):evF X k n_shapesearchsecond_Deck_Length [(Pt 0)] [.cells [cL p1,cI p2]]=some ((I r.1),[.cells [cL p1,cI r.2]]):=by
 refine Fi X_shapesearchsecond_Deck_Length (f:=fun k=>T_shapesearchsecond_Deck_Length k p1 p2) H fun k H=>?_
 obtain ⟨x1,hx1,H⟩:=bs H
 cases H
 exact Kz 5 (fc (o66 hx1) zz)
def T_ref23_Sample (k:Nat) (p1:Int):Option Unit:=match k with
 | 0=>none
 | k+1=>some ()
theorem o75 {k:Nat} {p1:Int} {r:Unit} (H:T_ref23_Sample k p1=some r):evF X k n_ref23_Sample [(I p1)] []=some ((B (decide ((-1000)≤p1) && decide (p1≤1000))),[]):=by
 refine Fi X_ref23_Sample (f:=fun k=>T_ref23_Sample k p1) H fun k H=>?_
 cases H
 exact Kz 5 (fo (.m) (ff (rfl (a:=([]:Heap))) zz))
def T_ref23_Check_l1 (k:Nat) (p1:List (List Int)) (x8:Int × Int):Option ((Int × Int) ⊕ (Unit ⊕ Unit)) :=
 (if x8.2 < (p1.length:Int) then ((at? p1 x8.2).bind fun x10=>(if 2000 < (w64 (x8.1+(x10.length:Int))) then some (.inr (.inr ())) else some (.inl ((w64 (x8.1+(x10.length:Int))),(w64 (x8.2+1)))))) else some (.inr (.inl ())))
theorem o74_1 {k:Nat} {p1:List (List Int)}:Rnd (T_ref23_Check_l1 k p1) (evC X (evF X k) k 0 l_ref23_Check_1) (fun s:Int × Int=>⟨[(1,(Pt 0)),(3,(I s.1)),(4,(I s.2))],[.cells [.d (.list (p1.map (el (D.int .i64))))]]⟩) (fun r:Unit ⊕ Unit=>Sum.elim (fun y=>(.exit 0,⟨[(1,(Pt 0))],[.cells [.d (.list (p1.map (el (D.int .i64))))]]⟩)) (fun y=>(.ret,⟨[(2,(I 20))],[]⟩)) r):=rnd fun x8 x H=>by
 refine Kx 3 (fl (el (D.int .i64)) p1 zz) ?_
 rcases is H with ⟨hx9,H⟩ | ⟨hx9,H⟩
 · obtain ⟨x10,hx10,H⟩:=bs H
   refine Kx 9 (fT hx9 (fa (el (D.int .i64)) (.list []) hx10 (fl (D.int .i64) x10 zz))) ?_
   rcases is H with ⟨hx11,H⟩ | ⟨hx11,H⟩
   · cases H
     exact Kz 4 (fT hx11 zz)
   · cases H
     exact Kz 5 (fN hx11 zz)
 · cases H
   exact Kz 2 (fN hx9 zz)
def T_ref23_Check_l2 (k:Nat) (p1:List (List Int)) (x42:Int) (x56:Int):Option (Int ⊕ (Unit ⊕ Unit)) :=
 ((at? p1 x42).bind fun x57=>(if x56 < (x57.length:Int) then ((at? p1 x42).bind fun x59=>(at? x59 x56).bind fun x60=>((if (!decide (x60=1073741824))=true then ((T_ref23_Sample k x60).bind fun x63=>some (!(decide ((-1000)≤x60) && decide (x60≤1000)))) else some false)).bind fun x64=>(if x64=true then some (.inr (.inr ())) else some (.inl (w64 (x56+1))))) else some (.inr (.inl ()))))
theorem o74_2 {k:Nat} {p1:List (List Int)} {x42:Int}:Rnd (T_ref23_Check_l2 k p1 x42) (evC X (evF X k) k 0 l_ref23_Check_2) (fun s:Int=>⟨[(1,(Pt 0)),(5,(I x42)),(6,(I s))],[.cells [.d (.list (p1.map (el (D.int .i64))))]]⟩) (fun r:Unit ⊕ Unit=>Sum.elim (fun y=>(.exit 4,⟨[(1,(Pt 0)),(5,(I x42))],[.cells [.d (.list (p1.map (el (D.int .i64))))]]⟩)) (fun y=>(.ret,⟨[(2,(I 12))],[]⟩)) r):=rnd fun x56 x H=>by
 obtain ⟨x57,hx57,H⟩:=bs H
 refine Kx 3 (fa (el (D.int .i64)) (.list []) hx57 (fl (D.int .i64) x57 zz)) ?_
 rcases is H with ⟨hx58,H⟩ | ⟨hx58,H⟩
 · obtain ⟨x59,hx59,H⟩:=bs H
   obtain ⟨x60,hx60,H⟩:=bs H
   obtain ⟨x64,hx64,H⟩:=bs H
   refine Kx 8 (fT hx58 (fa (el (D.int .i64)) (.list []) hx59 (fi hx60 zz))) ?_
   refine Kc ⟨[(1,(Pt 0)),(5,(I x42)),(6,(I x56)),(60,(B x64))],[.cells [.d (.list (p1.map (el (D.int .i64))))]]⟩ ?_ ?_
   · replace H:=hx64
     rcases is H with ⟨hx62,H⟩ | ⟨hx62,H⟩
     · obtain ⟨x63,hx63,H⟩:=bs H
       cases H
       exact Kz 1 (ft hx62 (fc (o75 hx63) zz))
     · cases H
       exact Kz 1 (fn hx62 zz)
   rcases is H with ⟨hx65,H⟩ | ⟨hx65,H⟩
   · cases H
     exact Kz 4 (ft hx65 zz)
   · cases H
     exact Kz 5 (fn hx65 zz)
 · cases H
   exact Kz 2 (fN hx58 zz)
def T_ref23_Check_l3 (k:Nat) (p1:List (List Int)) (x42:Int):Option (Int ⊕ (Unit ⊕ Unit)) :=
 (if x42 < (p1.length:Int) then ((loopT (T_ref23_Check_l2 k p1 x42) k 0).bind fun x66=>(match x66 with | .inl x67=>some (.inl (w64 (x42+1))) | .inr x68=>some (.inr (.inr ())))) else some (.inr (.inl ())))
theorem o74_3 {k:Nat} {p1:List (List Int)}:Rnd (T_ref23_Check_l3 k p1) (evC X (evF X k) k 0 l_ref23_Check_3) (fun s:Int=>⟨[(1,(Pt 0)),(5,(I s))],[.cells [.d (.list (p1.map (el (D.int .i64))))]]⟩) (fun r:Unit ⊕ Unit=>Sum.elim (fun y=>(.exit 2,⟨[],[]⟩)) (fun y=>(.ret,⟨[(2,(I 12))],[]⟩)) r):=rnd fun x42 x H=>by
 refine Kx 3 (fl (el (D.int .i64)) p1 zz) ?_
 rcases is H with ⟨hx43,H⟩ | ⟨hx43,H⟩
 · obtain ⟨x66,hx66,H⟩:=bs H
   refine Kx 8 (fT hx43 zz) ?_
   cases x66 with
   | inl x67 =>
    refine Kl (o74_2.go hx66) ?_
    cases H
    exact Kz 2 zz
   | inr x68 =>
    cases H
    exact Klr (o74_2.go hx66)
 · cases H
   exact Kz 2 (fN hx43 zz)
def T_ref23_Check (k:Nat) (p1:List (List Int)):Option Int:=match k with
 | 0=>none
 | k+1=>(if 16 < (p1.length:Int) then some 20 else ((loopT (T_ref23_Check_l1 k p1) k (0,0)).bind fun x12=>(match x12 with | .inl x13=>((loopT (T_ref23_Check_l3 k p1) k 0).bind fun x69=>(match x69 with | .inl x70=>some 0 | .inr x71=>some 12)) | .inr x72=>some 20)))
theorem o74 {k:Nat} {p1:List (List Int)} {r:Int} (H:T_ref23_Check k p1=some r):evF X k n_ref23_Check [(.agg [.d (.list (p1.map (el (D.int .i64))))])] []=some ((I r),[]):=by
 refine Fi X_ref23_Check (f:=fun k=>T_ref23_Check k p1) H fun k H=>?_
 refine Kx 5 (fl (el (D.int .i64)) p1 zz) ?_
 rcases is H with ⟨hx1,H⟩ | ⟨hx1,H⟩
 · cases H
   exact Kz 4 (fT hx1 zz)
 · obtain ⟨x12,hx12,H⟩:=bs H
   refine Kx 9 (fN hx1 zz) ?_
   cases x12 with
   | inl x13 =>
    refine Kl (o74_1.go hx12) ?_
    obtain ⟨x69,hx69,H⟩:=bs H
    cases x69 with
    | inl x70 =>
     refine Kx 4 zz ?_
     refine Kl (o74_3.go hx69) ?_
     cases H
     exact Kz 3 zz
    | inr x71 =>
     cases H
     refine Kx 4 zz ?_
     exact Klr (o74_3.go hx69)
   | inr x72 =>
    cases H
    exact Klr (o74_1.go hx12)
def T_ref23_whole_l1 (k:Nat) (p1:List Int) (p2:Int) (p3:Int) (x9:Int):Option (Int ⊕ (Unit ⊕ Unit)) :=
 (if x9 < p3 then ((at? p1 (w64 (p2+x9))).bind fun x11=>(if x11=1073741824 then some (.inr (.inr ())) else some (.inl (w64 (x9+1))))) else some (.inr (.inl ())))
theorem o76_1 {k:Nat} {p1:List Int} {p2:Int} {p3:Int}:Rnd (T_ref23_whole_l1 k p1 p2 p3) (evC X (evF X k) k 0 l_ref23_whole_1) (fun s:Int=>⟨[(0,(LI p1)),(1,(I p2)),(2,(I p3)),(7,(I s))],[]⟩) (fun r:Unit ⊕ Unit=>Sum.elim (fun y=>(.exit 0,⟨[],[]⟩)) (fun y=>(.ret,⟨[(6,(B false))],[]⟩)) r):=rnd fun x9 x H=>by
 rcases is H with ⟨hx10,H⟩ | ⟨hx10,H⟩
 · obtain ⟨x11,hx11,H⟩:=bs H
   refine Kx 10 (fT hx10 (fi hx11 zz)) ?_
   rcases is H with ⟨hx12,H⟩ | ⟨hx12,H⟩
   · cases H
     exact Kz 4 (fT hx12 zz)
   · cases H
     exact Kz 5 (fN hx12 zz)
 · cases H
   exact Kz 5 (fN hx10 zz)
def T_ref23_whole (k:Nat) (p1:List Int) (p2:Int) (p3:Int):Option Bool:=match k with
 | 0=>none
 | k+1=>(if (decide (p2 < 0) || decide ((w64 ((p1.length:Int) - p3)) < p2))=true then some false else ((loopT (T_ref23_whole_l1 k p1 p2 p3) k 0).bind fun x13=>(match x13 with | .inl x14=>some true | .inr x15=>some false)))
theorem o76 {k:Nat} {p1:List Int} {p2:Int} {p3:Int} {r:Bool} (H:T_ref23_whole k p1 p2 p3=some r):evF X k n_ref23_whole [(LI p1),(I p2),(I p3)] []=some ((B r),[]):=by
 refine Fi X_ref23_whole (f:=fun k=>T_ref23_whole k p1 p2 p3) H fun k H=>?_
 refine Kx 5 (fo (.m) (fo (.n p1.length) (ff (p:=decide (p2 < 0)=false→AllT [((p1.map (D.int .i64))).length=p1.length]) (fun _=>(A1 (List.length_map _))) (ff (rfl (a:=([]:Heap))) zz)))) ?_
 rcases is H with ⟨hx1,H⟩ | ⟨hx1,H⟩
 · cases H
   exact Kz 4 (ft hx1 zz)
 · obtain ⟨x13,hx13,H⟩:=bs H
   refine Kx 7 (fn hx1 zz) ?_
   cases x13 with
   | inl x14 =>
    refine Kl (o76_1.go hx13) ?_
    cases H
    exact Kz 3 zz
   | inr x15 =>
    cases H
    exact Klr (o76_1.go hx13)
def T_ref23_Places_l1 (k:Nat) (p1:List (List Int)) (p2:Int) (x36:Int) (x47:Nat × Int × (List (Int × Int))):Option ((Nat × Int × (List (Int × Int))) ⊕ ((Nat × (List (Int × Int))))) :=
 ((at? p1 x36).bind fun x48=>(if x47.2.1 < (x48.length:Int) then ((at? p1 x36).bind fun x50=>(T_ref23_whole k x50 x47.2.1 p2).bind fun x51=>((if x51=true then (if x47.1+1≤LIM then some ((x47.1+1),((x47.2.2.drop 0).take x47.1++([(x36,x47.2.1)]:List (Int × Int)))) else none) else some (x47.1,x47.2.2))).bind fun x54=>some (.inl (x54.1,(w64 (x47.2.1+1)),x54.2))) else some (.inr (x47.1,x47.2.2))))
theorem o73_1 {k:Nat} {p1:List (List Int)} {p2:Int} {x36:Int}:Rnd (T_ref23_Places_l1 k p1 p2 x36) (evC X (evF X k) k 0 l_ref23_Places_1) (fun s:Nat × Int × (List (Int × Int))=>⟨[(1,(I p2)),(2,(Pt 0)),(7,(.one (.own 1 0 s.1))),(8,(I x36)),(9,(I s.2.1))],[.cells [.d (.list (p1.map (el (D.int .i64))))],.vals (.agg [(.int .i64 0),(.int .i64 0)]) (s.2.2.map e_st0)]⟩) (fun r:(Nat × (List (Int × Int)))=>(.exit 2,⟨[(1,(I p2)),(2,(Pt 0)),(7,(.one (.own 1 0 r.1))),(8,(I x36))],[.cells [.d (.list (p1.map (el (D.int .i64))))],.vals (.agg [(.int .i64 0),(.int .i64 0)]) (r.2.map e_st0)]⟩)):=rnd fun x47 x H=>by
 obtain ⟨x48,hx48,H⟩:=bs H
 refine Kx 3 (fa (el (D.int .i64)) (.list []) hx48 (fl (D.int .i64) x48 zz)) ?_
 rcases is H with ⟨hx49,H⟩ | ⟨hx49,H⟩
 · obtain ⟨x50,hx50,H⟩:=bs H
   obtain ⟨x51,hx51,H⟩:=bs H
   obtain ⟨x54,hx54,H⟩:=bs H
   refine Kx 7 (fT hx49 (fa (el (D.int .i64)) (.list []) hx50 (fc (o76 hx51) zz))) ?_
   refine Kc ⟨[(1,(I p2)),(2,(Pt 0)),(7,(.one (.own 1 0 x54.1))),(8,(I x36)),(9,(I x47.2.1))],[.cells [.d (.list (p1.map (el (D.int .i64))))],.vals (.agg [(.int .i64 0),(.int .i64 0)]) (x54.2.map e_st0)]⟩ ?_ ?_
   · replace H:=hx54
     rcases is H with ⟨hx52,H⟩ | ⟨hx52,H⟩
     · obtain ⟨hx53,H⟩:=gs H
       cases H
       exact Kz 2 (ft hx52 (fP e_st0 2 x47.2.2 0 x47.1 ([(x36,x47.2.1)]:List (Int × Int)) 1 hx53 zz))
     · cases H
       exact Kz 3 (fn hx52 zz)
   cases H
   exact Kz 2 zz
 · cases H
   exact Kz 2 (fN hx49 zz)
def T_ref23_Places_l2 (k:Nat) (p1:List (List Int)) (p2:Int) (x32:Nat × Int × (List (Int × Int))):Option ((Nat × Int × (List (Int × Int))) ⊕ ((Nat × (List (Int × Int))))) :=
 (if x32.2.1 < (p1.length:Int) then ((loopT (T_ref23_Places_l1 k p1 p2 x32.2.1) k (x32.1,0,x32.2.2)).bind fun x55=>some (.inl (x55.1,(w64 (x32.2.1+1)),x55.2))) else some (.inr (x32.1,x32.2.2)))
theorem o73_2 {k:Nat} {p1:List (List Int)} {p2:Int}:Rnd (T_ref23_Places_l2 k p1 p2) (evC X (evF X k) k 0 l_ref23_Places_2) (fun s:Nat × Int × (List (Int × Int))=>⟨[(1,(I p2)),(2,(Pt 0)),(7,(.one (.own 1 0 s.1))),(8,(I s.2.1))],[.cells [.d (.list (p1.map (el (D.int .i64))))],.vals (.agg [(.int .i64 0),(.int .i64 0)]) (s.2.2.map e_st0)]⟩) (fun r:(Nat × (List (Int × Int)))=>(.exit 0,⟨[(7,(.one (.own 0 0 r.1)))],[.vals (.agg [(.int .i64 0),(.int .i64 0)]) (r.2.map e_st0)]⟩)):=rnd fun x32 x H=>by
 refine Kx 3 (fl (el (D.int .i64)) p1 zz) ?_
 rcases is H with ⟨hx33,H⟩ | ⟨hx33,H⟩
 · obtain ⟨x55,hx55,H⟩:=bs H
   refine Kx 8 (fT hx33 zz) ?_
   refine Kl (o73_1.go hx55) ?_
   cases H
   exact Kz 2 zz
 · cases H
   exact Kz 2 (fN hx33 zz)
def T_ref23_Places (k:Nat) (p1:List (List Int)) (p2:Int):Option ((List (Int × Int)) × Int):=match k with
 | 0=>none
 | k+1=>((T_ref23_Check k p1).bind fun x1=>(if (!decide (x1=0))=true then some ([],x1) else (if (decide (p2 < 2) || decide (32 < p2))=true then some ([],8) else ((loopT (T_ref23_Places_l2 k p1 p2) k (0,0,[])).bind fun x56=>some (((x56.2.drop 0).take x56.1),0)))))
theorem o73 {k:Nat} {p1:List (List Int)} {p2:Int} {r:(List (Int × Int)) × Int} (H:T_ref23_Places k p1 p2=some r):evF X k n_ref23_Places [(.agg [.d (.list (p1.map (el (D.int .i64))))]),(I p2)] []=some ((.tup [(false,[.d (.list (r.1.map e_st0))]),(false,[cI r.2])]),[]):=by
 refine Fi X_ref23_Places (f:=fun k=>T_ref23_Places k p1 p2) H fun k H=>?_
 obtain ⟨x1,hx1,H⟩:=bs H
 refine Kx 7 (fc (o74 hx1) zz) ?_
 rcases is H with ⟨hx2,H⟩ | ⟨hx2,H⟩
 · cases H
   exact Kz 4 (ft hx2 zz)
 · refine Kx 6 (fn hx2 (fo (.m) (ff (rfl (a:=([.cells [.d (.list (p1.map (el (D.int .i64))))]]:Heap))) zz))) ?_
   rcases is H with ⟨hx3,H⟩ | ⟨hx3,H⟩
   · cases H
     exact Kz 4 (ft hx3 zz)
   · obtain ⟨x56,hx56,H⟩:=bs H
     refine Kx 10 (fn hx3 zz) ?_
     refine Kl (o73_2.go hx56) ?_
     cases H
     exact Kw 3 (some ((.tup [(false,[.d (.list (((x56.2.map e_st0).drop 0).take x56.1))]),(false,[cI 0])]),[])) zz (by simp only [dt_map,rl_map,LI,VI])
def T_ref23_Window (k:Nat) (p1:List (List Int)) (p2:Int) (p3:Int) (p4:Int):Option (Nat × Int × (List Int)):=match k with
 | 0=>none
 | k+1=>((T_ref23_Check k p1).bind fun x1=>(if (!decide (x1=0))=true then some (0,x1,[]) else (if (decide (p4 < 2) || decide (32 < p4))=true then some (0,8,[]) else (((if ((decide (p2 < 0) || decide ((p1.length:Int)≤p2)) || decide (p3 < 0))=true then some true else ((at? p1 p2).bind fun x6=>some (decide ((w64 ((x6.length:Int) - p4)) < p3))))).bind fun x7=>(if x7=true then some (0,21,[]) else ((at? p1 p2).bind fun x9=>(T_ref23_whole k x9 p3 p4).bind fun x10=>(if (!x10)=true then some (0,13,[]) else (at? p1 p2).bind fun x12=>(if (0:Int)≤p3∧p3≤(w64 (p3+p4))∧(w64 (p3+p4))≤(x12.length:Int)∧(x12.length:Int)≤(x12.length:Int) then (if 0+((x12.drop p3.toNat).take ((w64 (p3+p4)).toNat - p3.toNat)).length≤LIM then some ((0+((x12.drop p3.toNat).take ((w64 (p3+p4)).toNat - p3.toNat)).length),0,((([]:List Int).drop 0).take 0++((x12.drop p3.toNat).take ((w64 (p3+p4)).toNat - p3.toNat)))) else none) else none))))))))
theorem o77 {k:Nat} {p1:List (List Int)} {p2:Int} {p3:Int} {p4:Int} {r:Nat × Int × (List Int)} (H:T_ref23_Window k p1 p2 p3 p4=some r):evF X k n_ref23_Window [(.agg [.d (.list (p1.map (el (D.int .i64))))]),(.agg [cI p2,cI p3]),(I p4)] []=some ((.tup [(false,[.own 0 0 r.1]),(false,[cI r.2.1])]),[VI r.2.2]):=by
 refine Fi X_ref23_Window (f:=fun k=>T_ref23_Window k p1 p2 p3 p4) H fun k H=>?_
 obtain ⟨x1,hx1,H⟩:=bs H
 refine Kx 7 (fc (o74 hx1) zz) ?_
 rcases is H with ⟨hx2,H⟩ | ⟨hx2,H⟩
 · cases H
   exact Kz 4 (ft hx2 zz)
 · refine Kx 6 (fn hx2 (fo (.m) (ff (rfl (a:=([.cells [.d (.list (p1.map (el (D.int .i64))))],.cells [cI p2,cI p3]]:Heap))) zz))) ?_
   rcases is H with ⟨hx3,H⟩ | ⟨hx3,H⟩
   · cases H
     exact Kz 4 (ft hx3 zz)
   · obtain ⟨x7,hx7,H⟩:=bs H
     refine Kx 5 (fn hx3 zz) ?_
     refine Kc ⟨[(2,(I p4)),(3,(Pt 0)),(4,(Pt 1)),(49,(B x7))],[.cells [.d (.list (p1.map (el (D.int .i64))))],.cells [cI p2,cI p3]]⟩ ?_ ?_
     · replace H:=hx7
       rcases is H with ⟨hx5,H⟩ | ⟨hx5,H⟩
       · cases H
         exact Kz 1 (fo (.m) (fo (.n p1.length) (ff (p:=decide (p2 < 0)=false→AllT [((p1.map (el (D.int .i64)))).length=p1.length]) (fun _=>(A1 (List.length_map _))) (ff (rfl (a:=([.cells [.d (.list (p1.map (el (D.int .i64))))],.cells [cI p2,cI p3]]:Heap))) (fo (.m) (ff (rfl (a:=([.cells [.d (.list (p1.map (el (D.int .i64))))],.cells [cI p2,cI p3]]:Heap))) (ft hx5 zz)))))))
       · obtain ⟨x6,hx6,H⟩:=bs H
         cases H
         exact Kz 1 (fo (.m) (fo (.n p1.length) (ff (p:=decide (p2 < 0)=false→AllT [((p1.map (el (D.int .i64)))).length=p1.length]) (fun _=>(A1 (List.length_map _))) (ff (rfl (a:=([.cells [.d (.list (p1.map (el (D.int .i64))))],.cells [cI p2,cI p3]]:Heap))) (fo (.m) (ff (rfl (a:=([.cells [.d (.list (p1.map (el (D.int .i64))))],.cells [cI p2,cI p3]]:Heap))) (fn hx5 (fa (el (D.int .i64)) (.list []) hx6 (fl (D.int .i64) x6 zz)))))))))
     rcases is H with ⟨hx8,H⟩ | ⟨hx8,H⟩
     · cases H
       exact Kz 4 (ft hx8 zz)
     · obtain ⟨x9,hx9,H⟩:=bs H
       obtain ⟨x10,hx10,H⟩:=bs H
       refine Kx 6 (fn hx8 (fa (el (D.int .i64)) (.list []) hx9 (fc (o76 hx10) zz))) ?_
       rcases is H with ⟨hx11,H⟩ | ⟨hx11,H⟩
       · cases H
         exact Kz 4 (ft hx11 zz)
       · obtain ⟨x12,hx12,H⟩:=bs H
         obtain ⟨hx13,H⟩:=gs H
         obtain ⟨hx14,H⟩:=gs H
         refine Kx 4 (fn hx11 zz) ?_
         refine KI [0,1,2,3,1,2,3,0,1,2,3,0,1,2,3,0,1,2,3,0,1,2,3,0,1,2,3,1,2,3,0,1,2,3,0,1,2,3,0,1,2,3,0,1,2,3,0,1,2,3,0,1,2,3,0,1,2,3,0,1,2,3,0,1,2,3,0,1,2,3,0,1,2,3,0,1,2,3,0,1,2,3,0,1,2,3,0,1,2,3,0,1,2,3,0,1,2,3,1,2,3,0,1,2,3,0,1,2,3,0,1,2,3,0,1,2,3,0,1,2,3,1,2,3,1,2,3,1,2,3,1,2,3,1,2,3,0,1,2,3,0,1,2,3,0,1,2,3,1,2,3,0,1,2,3,0,1,2,3,0,1,2,3,0,1,2,3,0,1,2,3,1,2,3,0,1,2,3,0,1,2,3,0,1,2,3,1,2,3,0,1,2,3,0,1,2,3,0,1,2,3,0,1,2,3,0,1,2,3,1,2,3,1,2,3,1,2,3,1,2,3,1,2,3,0,1,2,3,0,1,2,3,0,1,2,3,1,2,3,0,1,2,3,0,1,2,3,0,1,2,3,0,1,2,3,0,1,2,3,1,2,3,0,1,2,3,0,1,2,3,0,1,2,3,0,1,2,3,0,1,2,3,0,1,2,3,0,1,2,3,0,1,2,3,0,1,2,3,0,1,2,3,0,1,2,3,1,2,3,0,1,2,3,0,1,2,3,0,1,2,3,0,1,2,3,0,1,2,3,1,2,3,0,1,2,3,0,1,2,3,0,1,2,3,0,1,2,3,0,1,2,3,0,1,2,3,0,1,2,3,0,1,2,3,0,1,2,3,0,1,2,3,0,1,2,3,0,1,2,3,0,1,2,3,0,1,2,3,0,1,2,3,0,1,2,3,0,1,2,3,1,2,3,0,1,2,3,0,1,2,3,0,1,2,3,0,1,2,3,0,1,2,3,1,2,3,0,1,2,3,0,1,2,3,0,1,2,3,0,1,2,3,0,1,2,3,0,1,2,3,0,1,2,3,0,1,2,3] [0,1,2,3,4,5,6,7,8,2,3,4,5,6,7,8,9,0,1,2,3,4,5,6,7,8,0,1,2,3,4,5,6,7,8,9,9,0,1,2,3,4,5,6,7,8,0,1,2,3,4,5,6,7,8,9,9,0,1,2,3,4,5,6,7,8,2,3,4,5,6,7,8,9,0,1,2,3,4,5,6,7,8,0,1,2,3,4,5,6,7,8,9,9,0,1,2,3,4,5,6,7,8,0,1,2,3,4,5,6,7,8,9,9,9,0,1,2,3,4,5,6,7,8,0,1,2,3,4,5,6,7,8,9,0,1,2,3,4,5,6,7,8,0,1,2,3,4,5,6,7,8,9,9,0,1,2,3,4,5,6,7,8,0,1,2,3,4,5,6,7,8,9,9,9,0,1,2,3,4,5,6,7,8,0,1,2,3,4,5,6,7,8,9,0,1,2,3,4,5,6,7,8,0,1,2,3,4,5,6,7,8,9,9,0,1,2,3,4,5,6,7,8,0,1,2,3,4,5,6,7,8,9,9,9,0,1,2,3,4,5,6,7,8,2,3,4,5,6,7,8,9,0,1,2,3,4,5,6,7,8,0,1,2,3,4,5,6,7,8,9,9,0,1,2,3,4,5,6,7,8,0,1,2,3,4,5,6,7,8,9,9,0,1,2,3,4,5,6,7,8,2,3,4,5,6,7,8,9,2,3,4,5,6,7,8,2,3,4,5,6,7,8,9,9,2,3,4,5,6,7,8,2,3,4,5,6,7,8,9,9,9,0,1,2,3,4,5,6,7,8,0,1,2,3,4,5,6,7,8,9,0,1,2,3,4,5,6,7,8,2,3,4,5,6,7,8,9,9,0,1,2,3,4,5,6,7,8,0,1,2,3,4,5,6,7,8,9,9,9,0,1,2,3,4,5,6,7,8,0,1,2,3,4,5,6,7,8,9,0,1,2,3,4,5,6,7,8,2,3,4,5,6,7,8,9,9,0,1,2,3,4,5,6,7,8,0,1,2,3,4,5,6,7,8,9,9,9,9,0,1,2,3,4,5,6,7,8,2,3,4,5,6,7,8,9,0,1,2,3,4,5,6,7,8,0,1,2,3,4,5,6,7,8,9,9,0,1,2,3,4,5,6,7,8,0,1,2,3,4,5,6,7,8,9,9,0,1,2,3,4,5,6,7,8,2,3,4,5,6,7,8,9,2,3,4,5,6,7,8,2,3,4,5,6,7,8,9,9,2,3,4,5,6,7,8,2,3,4,5,6,7,8,9,9,9,0,1,2,3,4,5,6,7,8,0,1,2,3,4,5,6,7,8,9,0,1,2,3,4,5,6,7,8,2,3,4,5,6,7,8,9,9,0,1,2,3,4,5,6,7,8,0,1,2,3,4,5,6,7,8,9,9,9,0,1,2,3,4,5,6,7,8,0,1,2,3,4,5,6,7,8,9,0,1,2,3,4,5,6,7,8,2,3,4,5,6,7,8,9,9,0,1,2,3,4,5,6,7,8,0,1,2,3,4,5,6,7,8,9,9,9,9,0,1,2,3,4,5,6,7,8,0,1,2,3,4,5,6,7,8,9,0,1,2,3,4,5,6,7,8,0,1,2,3,4,5,6,7,8,9,9,0,1,2,3,4,5,6,7,8,0,1,2,3,4,5,6,7,8,9,9,0,1,2,3,4,5,6,7,8,0,1,2,3,4,5,6,7,8,9,0,1,2,3,4,5,6,7,8,2,3,4,5,6,7,8,9,9,0,1,2,3,4,5,6,7,8,0,1,2,3,4,5,6,7,8,9,9,9,0,1,2,3,4,5,6,7,8,0,1,2,3,4,5,6,7,8,9,0,1,2,3,4,5,6,7,8,2,3,4,5,6,7,8,9,9,0,1,2,3,4,5,6,7,8,0,1,2,3,4,5,6,7,8,9,9,9,0,1,2,3,4,5,6,7,8,0,1,2,3,4,5,6,7,8,9,0,1,2,3,4,5,6,7,8,0,1,2,3,4,5,6,7,8,9,9,0,1,2,3,4,5,6,7,8,0,1,2,3,4,5,6,7,8,9,9,9,9,0,1,2,3,4,5,6,7,8,0,1,2,3,4,5,6,7,8,9,0,1,2,3,4,5,6,7,8,0,1,2,3,4,5,6,7,8,9,9,0,1,2,3,4,5,6,7,8,0,1,2,3,4,5,6,7,8,9,9,0,1,2,3,4,5,6,7,8,0,1,2,3,4,5,6,7,8,9,0,1,2,3,4,5,6,7,8,2,3,4,5,6,7,8,9,9,0,1,2,3,4,5,6,7,8,0,1,2,3,4,5,6,7,8,9,9,9,0,1,2,3,4,5,6,7,8,0,1,2,3,4,5,6,7,8,9,0,1,2,3,4,5,6,7,8,2,3,4,5,6,7,8,9,9,0,1,2,3,4,5,6,7,8,0,1,2,3,4,5,6,7,8,9,9,9,0,1,2,3,4,5,6,7,8,0,1,2,3,4,5,6,7,8,9,0,1,2,3,4,5,6,7,8,0,1,2,3,4,5,6,7,8,9,9,0,1,2,3,4,5,6,7,8,0,1,2,3,4,5,6,7,8,9,9,9,9] (fa (el (D.int .i64)) (.list []) hx12 (fh (D.int .i64) 1 hx13 (fP (D.int .i64) 1 ([]:List Int) 0 0 ((x12.drop p3.toNat).take ((w64 (p3+p4)).toNat - p3.toNat)) (((x12.drop p3.toNat).take ((w64 (p3+p4)).toNat - p3.toNat)).length) hx14 (ff (rfl (a:=(⟨[(6,(.one (.own 0 0 (0+((x12.drop p3.toNat).take ((w64 (p3+p4)).toNat - p3.toNat)).length)))),(7,(I 0))],[VI ((([]:List Int).drop 0).take 0++((x12.drop p3.toNat).take ((w64 (p3+p4)).toNat - p3.toNat)))]⟩:St))) zz)))) ?_
         cases H
         exact Kz 1 zz
def T_shapesearchsecond_Deck_Query_l1 (k:Nat) (p2:Int) (p3:List Int) (x12:Nat) (x21:Int × Int × (List Int)):Option ((Int × Int × (List Int)) ⊕ ((Int × (List Int)))) :=
 (if 0 < x21.1 then (T_shapesearchsecond_Deck_Next k p2 p3 x21.2.1).bind fun x23=>(T_shapesearchsecond_Deck_Sample k p3 x23.2).bind fun x24=>(if (0:Int)≤x23.1∧x23.1 < ((x12:Nat):Int) then some (.inl ((w64 (x21.1 - 1)),x24.2,(x21.2.2.set (0+x23.1.toNat) x24.1))) else none) else some (.inr (x21.2.1,x21.2.2)))
theorem o72_1 {k:Nat} {p2:Int} {p3:List Int} {x12:Nat}:Rnd (T_shapesearchsecond_Deck_Query_l1 k p2 p3 x12) (evC X (evF X k) k 1 l_shapesearchsecond_Deck_Query_1) (fun s:Int × Int × (List Int)=>⟨[(0,(Pt 0)),(2,(I p2)),(9,(.one (.own 1 0 x12))),(10,(I s.1))],[.cells [cL p3,cI s.2.1],VI s.2.2]⟩) (fun r:(Int × (List Int))=>(.exit 0,⟨[(9,(.one (.own 1 0 x12)))],[.cells [cL p3,cI r.1],VI r.2]⟩)):=rnd fun x21 x H=>by
 rcases is H with ⟨hx22,H⟩ | ⟨hx22,H⟩
 · obtain ⟨x23,hx23,H⟩:=bs H
   obtain ⟨x24,hx24,H⟩:=bs H
   obtain ⟨hx25,H⟩:=gs H
   cases H
   exact Kz 11 (fT hx22 (fc (o66 hx23) (fc (o69 hx24) (ff hx25 (fw x21.2.2 (0+x23.1.toNat) x24.1 (D.int .i64) (.int .i64 0) zz)))))
 · cases H
   exact Kz 5 (fN hx22 zz)
def T_shapesearchsecond_Deck_Query_l2 (k:Nat) (p2:Int) (p3:List Int) (x36:Nat × Int × Int × (List Int)):Option ((Nat × Int × Int × (List Int)) ⊕ ((Nat × Int × (List Int)))) :=
 (if x36.2.1 < p2 then (T_shapesearchsecond_Deck_Sample k p3 x36.2.2.1).bind fun x38=>(if x36.1+1≤LIM then some (.inl ((x36.1+1),(w64 (x36.2.1+1)),x38.2,((x36.2.2.2.drop 0).take x36.1++([x38.1]:List Int)))) else none) else some (.inr (x36.1,x36.2.2.1,x36.2.2.2)))
theorem o72_2 {k:Nat} {p2:Int} {p3:List Int}:Rnd (T_shapesearchsecond_Deck_Query_l2 k p2 p3) (evC X (evF X k) k 1 l_shapesearchsecond_Deck_Query_2) (fun s:Nat × Int × Int × (List Int)=>⟨[(0,(Pt 0)),(2,(I p2)),(9,(.one (.own 1 0 s.1))),(11,(I s.2.1))],[.cells [cL p3,cI s.2.2.1],VI s.2.2.2]⟩) (fun r:(Nat × Int × (List Int))=>(.exit 2,⟨[(9,(.one (.own 1 0 r.1)))],[.cells [cL p3,cI r.2.1],VI r.2.2]⟩)):=rnd fun x36 x H=>by
 rcases is H with ⟨hx37,H⟩ | ⟨hx37,H⟩
 · obtain ⟨x38,hx38,H⟩:=bs H
   obtain ⟨hx39,H⟩:=gs H
   cases H
   exact Kz 11 (fT hx37 (fc (o69 hx38) (fP (D.int .i64) 1 x36.2.2.2 0 x36.1 ([x38.1]:List Int) 1 hx39 zz)))
 · cases H
   exact Kz 5 (fN hx37 zz)
def T_shapesearchsecond_Deck_Query (k:Nat) (p1:List (List Int)) (p2:Int) (p3:List Int) (p4:Int):Option (Nat × Int × (List Int)):=match k with
 | 0=>none
 | k+1=>((T_ref23_Places k p1 p2).bind fun x1=>((if 0 < (x1.1.length:Int) then ((T_shapesearchsecond_Deck_Next k 4 p3 p4).bind fun x4=>some (decide (0 < x4.1),x4.2)) else some (false,p4))).bind fun x5=>(if x5.1=true then ((T_shapesearchsecond_Deck_Next k (x1.1.length:Int) p3 x5.2).bind fun x7=>(at? x1.1 x7.1).bind fun x8=>(T_ref23_Window k p1 x8.1 x8.2 p2).bind fun x9=>(T_shapesearchsecond_Deck_Next k 3 p3 x7.2).bind fun x10=>(loopT (T_shapesearchsecond_Deck_Query_l1 k p2 p3 x9.1) k (x10.1,x10.2,x9.2.2)).bind fun x26=>some (x9.1,x26.1,x26.2)) else ((loopT (T_shapesearchsecond_Deck_Query_l2 k p2 p3) k (0,0,x5.2,[])).bind fun x40=>some (x40.1,x40.2.1,x40.2.2))))
theorem o72 {k:Nat} {p1:List (List Int)} {p2:Int} {p3:List Int} {p4:Int} {r:Nat × Int × (List Int)} (H:T_shapesearchsecond_Deck_Query k p1 p2 p3 p4=some r):evF X k n_shapesearchsecond_Deck_Query [(Pt 0),(.agg [.d (.list (p1.map (el (D.int .i64))))]),(I p2)] [.cells [cL p3,cI p4]]=some ((.one (.own 1 0 r.1)),[.cells [cL p3,cI r.2.1],VI r.2.2]):=by
 refine Fi X_shapesearchsecond_Deck_Query (f:=fun k=>T_shapesearchsecond_Deck_Query k p1 p2 p3 p4) H fun k H=>?_
 obtain ⟨x1,hx1,H⟩:=bs H
 obtain ⟨x5,hx5,H⟩:=bs H
 refine Kx 8 (fc (o73 hx1) zz) ?_
 refine Kc ⟨[(0,(Pt 0)),(2,(I p2)),(4,(Pt 1)),(7,(.one (.d (.list (x1.1.map e_st0))))),(9,(.one (.nil))),(25,(B x5.1))],[.cells [cL p3,cI x5.2],.cells [.d (.list (p1.map (el (D.int .i64))))]]⟩ ?_ ?_
 · replace H:=hx5
   rcases is H with ⟨hx3,H⟩ | ⟨hx3,H⟩
   · obtain ⟨x4,hx4,H⟩:=bs H
     cases H
     exact Kz 1 (fl e_st0 x1.1 (fT hx3 (fc (o66 hx4) zz)))
   · cases H
     exact Kz 1 (fl e_st0 x1.1 (fN hx3 zz))
 rcases is H with ⟨hx6,H⟩ | ⟨hx6,H⟩
 · obtain ⟨x7,hx7,H⟩:=bs H
   obtain ⟨x8,hx8,H⟩:=bs H
   obtain ⟨x9,hx9,H⟩:=bs H
   refine Kx 2 (ft hx6 zz) ?_
   refine KI [0,1,2,3,1,2,3] [0,1,2,3,4,1,2,3,4,5] (fl e_st0 x1.1 (fc (o66 hx7) (fa e_st0 (.agg [(.int .i64 0),(.int .i64 0)]) hx8 (fc (o77 hx9) (ff (rfl (a:=(⟨[(0,(Pt 0)),(2,(I p2)),(9,(.one (.own 1 0 x9.1)))],[.cells [cL p3,cI x7.2],VI x9.2.2]⟩:St))) zz))))) ?_
   obtain ⟨x10,hx10,H⟩:=bs H
   obtain ⟨x26,hx26,H⟩:=bs H
   refine Kx 4 (fc (o66 hx10) zz) ?_
   refine Kl (o72_1.go hx26) ?_
   cases H
   exact Kz 3 zz
 · obtain ⟨x40,hx40,H⟩:=bs H
   refine Kx 8 (fn hx6 zz) ?_
   refine Kl (o72_2.go hx40) ?_
   cases H
   exact Kz 3 zz
def T_ref04_Sample (k:Nat) (p1:Int):Option Unit:=match k with
 | 0=>none
 | k+1=>some ()
theorem o82 {k:Nat} {p1:Int} {r:Unit} (H:T_ref04_Sample k p1=some r):evF X k n_ref04_Sample [(I p1)] []=some ((B (decide ((-1000)≤p1) && decide (p1≤1000))),[]):=by
 refine Fi X_ref04_Sample (f:=fun k=>T_ref04_Sample k p1) H fun k H=>?_
 cases H
 exact Kz 5 (fo (.m) (ff (rfl (a:=([]:Heap))) zz))
def T_ref17_Check (k:Nat) (p1:Int) (p2:Int) (p3:Int):Option Int:=match k with
 | 0=>none
 | k+1=>(((if ((((decide (p1 < 1) || decide (5 < p1)) || decide (p2 < 0)) || decide (32 < p2)) || ((!decide (p1=4)) && (!decide (p2=0))))=true then some true else ((T_ref04_Sample k p3).bind fun x3=>some ((!(decide ((-1000)≤p3) && decide (p3≤1000))) || ((!decide (p1=5)) && (!decide (p3=0))))))).bind fun x4=>(if x4=true then some 9 else some 0))
theorem o81 {k:Nat} {p1:Int} {p2:Int} {p3:Int} {r:Int} (H:T_ref17_Check k p1 p2 p3=some r):evF X k n_ref17_Check [(.agg [cI p1,cI p2,cI p3])] []=some ((I r),[]):=by
 refine Fi X_ref17_Check (f:=fun k=>T_ref17_Check k p1 p2 p3) H fun k H=>?_
 obtain ⟨x4,hx4,H⟩:=bs H
 refine Kx 4 zz ?_
 refine Kc ⟨[(46,(B x4))],[]⟩ ?_ ?_
 · replace H:=hx4
   rcases is H with ⟨hx2,H⟩ | ⟨hx2,H⟩
   · cases H
     exact Kz 1 (fo (.m) (ff (rfl (a:=([.cells [cI p1,cI p2,cI p3]]:Heap))) (fo (.m) (ff (rfl (a:=([.cells [cI p1,cI p2,cI p3]]:Heap))) (fo (.m) (ff (rfl (a:=([.cells [cI p1,cI p2,cI p3]]:Heap))) (fo (.m) (fo (.m) (ff (p:=(((decide (p1 < 1) || decide (5 < p1)) || decide (p2 < 0)) || decide (32 < p2))=false→AllT [([.cells [cI p1,cI p2,cI p3]]:Heap)=[.cells [cI p1,cI p2,cI p3]]]) (fun _=>(A1 rfl)) (ff (rfl (a:=([.cells [cI p1,cI p2,cI p3]]:Heap))) (ft hx2 (f1 zz))))))))))))
   · obtain ⟨x3,hx3,H⟩:=bs H
     cases H
     exact Kz 1 (fo (.m) (ff (rfl (a:=([.cells [cI p1,cI p2,cI p3]]:Heap))) (fo (.m) (ff (rfl (a:=([.cells [cI p1,cI p2,cI p3]]:Heap))) (fo (.m) (ff (rfl (a:=([.cells [cI p1,cI p2,cI p3]]:Heap))) (fo (.m) (fo (.m) (ff (p:=(((decide (p1 < 1) || decide (5 < p1)) || decide (p2 < 0)) || decide (32 < p2))=false→AllT [([.cells [cI p1,cI p2,cI p3]]:Heap)=[.cells [cI p1,cI p2,cI p3]]]) (fun _=>(A1 rfl)) (ff (rfl (a:=([.cells [cI p1,cI p2,cI p3]]:Heap))) (fn hx2 (fc (o82 hx3) (fo (.m) (fo (.m) (ff (p:=(!(decide ((-1000)≤p3) && decide (p3≤1000)))=false→AllT [([.cells [cI p1,cI p2,cI p3]]:Heap)=[.cells [cI p1,cI p2,cI p3]]]) (fun _=>(A1 rfl)) (ff (rfl (a:=([.cells [cI p1,cI p2,cI p3]]:Heap))) zz))))))))))))))))
 rcases is H with ⟨hx5,H⟩ | ⟨hx5,H⟩
 · cases H
   exact Kz 4 (ft hx5 zz)
 · cases H
   exact Kz 6 (fn hx5 zz)
def T_ref23_Query_l1 (k:Nat) (p4:List Int) (x10:Int):Option (Int ⊕ (Unit ⊕ Unit)) :=
 (if x10 < (p4.length:Int) then ((at? p4 x10).bind fun x12=>(T_ref23_Sample k x12).bind fun x13=>(if (!(decide ((-1000)≤x12) && decide (x12≤1000)))=true then some (.inr (.inr ())) else some (.inl (w64 (x10+1))))) else some (.inr (.inl ())))
theorem o80_1 {k:Nat} {p4:List Int}:Rnd (T_ref23_Query_l1 k p4) (evC X (evF X k) k 0 l_ref23_Query_1) (fun s:Int=>⟨[(1,(LI p4)),(6,(I s))],[]⟩) (fun r:Unit ⊕ Unit=>Sum.elim (fun y=>(.exit 0,⟨[],[]⟩)) (fun y=>(.ret,⟨[(4,(I 12))],[]⟩)) r):=rnd fun x10 x H=>by
 refine Kx 3 (fl (D.int .i64) p4 zz) ?_
 rcases is H with ⟨hx11,H⟩ | ⟨hx11,H⟩
 · obtain ⟨x12,hx12,H⟩:=bs H
   obtain ⟨x13,hx13,H⟩:=bs H
   refine Kx 7 (fT hx11 (fi hx12 (fc (o75 hx13) zz))) ?_
   rcases is H with ⟨hx14,H⟩ | ⟨hx14,H⟩
   · cases H
     exact Kz 4 (ft hx14 zz)
   · cases H
     exact Kz 5 (fn hx14 zz)
 · cases H
   exact Kz 2 (fN hx11 zz)
def T_ref23_Query (k:Nat) (p1:Int) (p2:Int) (p3:Int) (p4:List Int):Option Int:=match k with
 | 0=>none
 | k+1=>((T_ref17_Check k p1 p2 p3).bind fun x1=>(if (!decide (x1=0))=true then some x1 else (if (decide ((p4.length:Int) < 2) || decide (32 < (p4.length:Int)))=true then some 8 else ((loopT (T_ref23_Query_l1 k p4) k 0).bind fun x15=>(match x15 with | .inl x16=>some 0 | .inr x17=>some 12)))))
theorem o80 {k:Nat} {p1:Int} {p2:Int} {p3:Int} {p4:List Int} {r:Int} (H:T_ref23_Query k p1 p2 p3 p4=some r):evF X k n_ref23_Query [(.agg [cI p1,cI p2,cI p3]),(LI p4)] []=some ((I r),[]):=by
 refine Fi X_ref23_Query (f:=fun k=>T_ref23_Query k p1 p2 p3 p4) H fun k H=>?_
 obtain ⟨x1,hx1,H⟩:=bs H
 refine Kx 7 (fc (o81 hx1) zz) ?_
 rcases is H with ⟨hx2,H⟩ | ⟨hx2,H⟩
 · cases H
   exact Kz 4 (ft hx2 zz)
 · refine Kx 6 (fn hx2 (fl (D.int .i64) p4 (fo (.m) (fo (.n p4.length) (ff (p:=decide ((p4.length:Int) < 2)=false→AllT [((p4.map (D.int .i64))).length=p4.length]) (fun _=>(A1 (List.length_map _))) (ff (rfl (a:=([]:Heap))) zz)))))) ?_
   rcases is H with ⟨hx3,H⟩ | ⟨hx3,H⟩
   · cases H
     exact Kz 4 (ft hx3 zz)
   · obtain ⟨x15,hx15,H⟩:=bs H
     refine Kx 7 (fn hx3 zz) ?_
     cases x15 with
     | inl x16 =>
      refine Kl (o80_1.go hx15) ?_
      cases H
      exact Kz 3 zz
     | inr x17 =>
      cases H
      exact Klr (o80_1.go hx15)
def T_ref12_Samples_l1 (k:Nat) (p1:List Int) (x2:Int) (x8:Int):Option (Int ⊕ (Unit ⊕ Unit)) :=
 (if x8 < x2 then ((at? p1 x8).bind fun x10=>(T_ref04_Sample k x10).bind fun x11=>(if (!(decide ((-1000)≤x10) && decide (x10≤1000)))=true then some (.inr (.inr ())) else some (.inl (w64 (x8+1))))) else some (.inr (.inl ())))
theorem o86_1 {k:Nat} {p1:List Int} {x2:Int}:Rnd (T_ref12_Samples_l1 k p1 x2) (evC X (evF X k) k 0 l_ref12_Samples_1) (fun s:Int=>⟨[(0,(LI p1)),(5,(I x2)),(6,(I s))],[]⟩) (fun r:Unit ⊕ Unit=>Sum.elim (fun y=>(.exit 0,⟨[],[]⟩)) (fun y=>(.ret,⟨[(2,(I 12))],[]⟩)) r):=rnd fun x8 x H=>by
 rcases is H with ⟨hx9,H⟩ | ⟨hx9,H⟩
 · obtain ⟨x10,hx10,H⟩:=bs H
   obtain ⟨x11,hx11,H⟩:=bs H
   refine Kx 12 (fT hx9 (fi hx10 (fc (o82 hx11) zz))) ?_
   rcases is H with ⟨hx12,H⟩ | ⟨hx12,H⟩
   · cases H
     exact Kz 4 (ft hx12 zz)
   · cases H
     exact Kz 5 (fn hx12 zz)
 · cases H
   exact Kz 5 (fN hx9 zz)
def T_ref12_Samples (k:Nat) (p1:List Int):Option Int:=match k with
 | 0=>none
 | k+1=>((loopT (T_ref12_Samples_l1 k p1 (p1.length:Int)) k 0).bind fun x13=>(match x13 with | .inl x14=>some 0 | .inr x15=>some 12))
theorem o86 {k:Nat} {p1:List Int} {r:Int} (H:T_ref12_Samples k p1=some r):evF X k n_ref12_Samples [(LI p1)] []=some ((I r),[]):=by
 refine Fi X_ref12_Samples (f:=fun k=>T_ref12_Samples k p1) H fun k H=>?_
 obtain ⟨x13,hx13,H⟩:=bs H
 refine Kx 6 (fl (D.int .i64) p1 zz) ?_
 cases x13 with
 | inl x14 =>
  refine Kl (o86_1.go hx13) ?_
  cases H
  exact Kz 3 zz
 | inr x15 =>
  cases H
  exact Klr (o86_1.go hx13)
def T_ref12_Two (k:Nat) (p1:List Int) (p2:List Int) (p3:Int):Option Int:=match k with
 | 0=>none
 | k+1=>(if (((decide ((p1.length:Int) < 2) || decide (32 < (p1.length:Int))) || decide ((p2.length:Int) < 2)) || decide (32 < (p2.length:Int)))=true then some 8 else ((((T_ref12_Samples k p1).bind fun x2=>(if (!decide (x2=0))=true then some true else ((T_ref12_Samples k p2).bind fun x5=>some (!decide (x5=0)))))).bind fun x6=>(if x6=true then some 12 else (if (decide (p3 < (w64 ((p1.length:Int) - (p2.length:Int)))) || decide (p3 < (w64 ((p2.length:Int) - (p1.length:Int)))))=true then some 8 else some 0))))
theorem o85 {k:Nat} {p1:List Int} {p2:List Int} {p3:Int} {r:Int} (H:T_ref12_Two k p1 p2 p3=some r):evF X k n_ref12_Two [(LI p1),(LI p2),(I p3)] []=some ((I r),[]):=by
 refine Fi X_ref12_Two (f:=fun k=>T_ref12_Two k p1 p2 p3) H fun k H=>?_
 refine Kx 5 (fl (D.int .i64) p1 (fo (.m) (fo (.n p1.length) (ff (p:=decide ((p1.length:Int) < 2)=false→AllT [((p1.map (D.int .i64))).length=p1.length]) (fun _=>(A1 (List.length_map _))) (ff (rfl (a:=([]:Heap))) (fo (.m) (fo (.n p2.length) (ff (p:=(decide ((p1.length:Int) < 2) || decide (32 < (p1.length:Int)))=false→AllT [((p2.map (D.int .i64))).length=p2.length]) (fun _=>(A1 (List.length_map _))) (ff (rfl (a:=([]:Heap))) (fo (.m) (fo (.n p2.length) (ff (p:=((decide ((p1.length:Int) < 2) || decide (32 < (p1.length:Int))) || decide ((p2.length:Int) < 2))=false→AllT [((p2.map (D.int .i64))).length=p2.length]) (fun _=>(A1 (List.length_map _))) (ff (rfl (a:=([]:Heap))) zz))))))))))))) ?_
 rcases is H with ⟨hx1,H⟩ | ⟨hx1,H⟩
 · cases H
   exact Kz 4 (ft hx1 zz)
 · obtain ⟨x6,hx6,H⟩:=bs H
   refine Kx 5 (fn hx1 zz) ?_
   refine Kc ⟨[(0,(LI p1)),(1,(LI p2)),(2,(I p3)),(32,(B x6))],[]⟩ ?_ ?_
   · replace H:=hx6
     obtain ⟨x2,hx2,H⟩:=bs H
     rcases is H with ⟨hx4,H⟩ | ⟨hx4,H⟩
     · cases H
       exact Kz 1 (fc (o86 hx2) (ft hx4 zz))
     · obtain ⟨x5,hx5,H⟩:=bs H
       cases H
       exact Kz 1 (fc (o86 hx2) (fn hx4 (fc (o86 hx5) zz)))
   rcases is H with ⟨hx7,H⟩ | ⟨hx7,H⟩
   · cases H
     exact Kz 4 (ft hx7 zz)
   · refine Kx 6 (fn hx7 (fl (D.int .i64) p1 (fl (D.int .i64) p2 (fo (.m) (fo (.n p2.length) (fo (.n p1.length) (ff (p:=decide (p3 < (w64 ((p1.length:Int) - (p2.length:Int))))=false→AllT [((p2.map (D.int .i64))).length=p2.length,((p1.map (D.int .i64))).length=p1.length]) (fun _=>(AC (List.length_map _) (A1 (List.length_map _)))) (ff (rfl (a:=([]:Heap))) zz)))))))) ?_
     rcases is H with ⟨hx8,H⟩ | ⟨hx8,H⟩
     · cases H
       exact Kz 4 (ft hx8 zz)
     · cases H
       exact Kz 6 (fn hx8 zz)
def T_ref12_sums_l1 (k:Nat) (p1:List Int) (p2:List Int) (x5:Int) (x10:Int × Int × Int):Option ((Int × Int × Int) ⊕ ((Int × Int))) :=
 (if x10.2.2 < x5 then ((at? p1 x10.2.2).bind fun x12=>(at? p2 x10.2.2).bind fun x13=>some (.inl ((w64 ((w64 (x10.1+x12)) - x13)),(w64 (x10.2.1+(w64 ((w64 (x12 - x13))*(w64 (x12 - x13)))))),(w64 (x10.2.2+1))))) else some (.inr (x10.1,x10.2.1)))
theorem o87_1 {k:Nat} {p1:List Int} {p2:List Int} {x5:Int}:Rnd (T_ref12_sums_l1 k p1 p2 x5) (evC X (evF X k) k 0 l_ref12_sums_1) (fun s:Int × Int × Int=>⟨[(0,(LI p1)),(1,(LI p2)),(6,(I s.1)),(7,(I s.2.1)),(10,(I x5)),(11,(I s.2.2))],[]⟩) (fun r:(Int × Int)=>(.exit 0,⟨[(6,(I r.1)),(7,(I r.2))],[]⟩)):=rnd fun x10 x H=>by
 rcases is H with ⟨hx11,H⟩ | ⟨hx11,H⟩
 · obtain ⟨x12,hx12,H⟩:=bs H
   obtain ⟨x13,hx13,H⟩:=bs H
   cases H
   exact Kz 13 (fT hx11 (fi hx12 (fi hx13 (fi hx12 (fi hx13 (fi hx12 (fi hx13 zz)))))))
 · cases H
   exact Kz 5 (fN hx11 zz)
def T_ref12_sums (k:Nat) (p1:List Int) (p2:List Int):Option (Int × Int):=match k with
 | 0=>none
 | k+1=>((loopT (T_ref12_sums_l1 k p1 p2 (p1.length:Int)) k (0,0,0)).bind fun x14=>some (x14.1,x14.2))
theorem o87 {k:Nat} {p1:List Int} {p2:List Int} {r:Int × Int} (H:T_ref12_sums k p1 p2=some r):evF X k n_ref12_sums [(LI p1),(LI p2)] []=some ((.tup [(false,[cI r.1]),(false,[cI r.2])]),[]):=by
 refine Fi X_ref12_sums (f:=fun k=>T_ref12_sums k p1 p2) H fun k H=>?_
 obtain ⟨x14,hx14,H⟩:=bs H
 refine Kx 8 (fl (D.int .i64) p1 zz) ?_
 refine Kl (o87_1.go hx14) ?_
 cases H
 exact Kz 3 zz
def T_ref01_common_l1 (k:Nat) (x5:Int × Int):Option ((Int × Int) ⊕ Int) :=
 (if 0 < x5.2 then (if x5.2≠0 then some (.inl (x5.2,(x5.1.tmod x5.2))) else none) else some (.inr x5.1))
theorem o89_1 {k:Nat}:Rnd (T_ref01_common_l1 k) (evC X (evF X k) k 0 l_ref01_common_1) (fun s:Int × Int=>⟨[(0,(I s.1)),(1,(I s.2))],[]⟩) (fun r:Int=>(.exit 0,⟨[(0,(I r))],[]⟩)):=rnd fun x5 x H=>by
 rcases is H with ⟨hx6,H⟩ | ⟨hx6,H⟩
 · obtain ⟨hx7,H⟩:=gs H
   cases H
   exact Kz 9 (fT hx6 (ff hx7 zz))
 · cases H
   exact Kz 5 (fN hx6 zz)
def T_ref01_common (k:Nat) (p1:Int) (p2:Int):Option Int:=match k with
 | 0=>none
 | k+1=>((loopT (T_ref01_common_l1 k) k (p1,p2)).bind fun x8=>some x8)
theorem o89 {k:Nat} {p1:Int} {p2:Int} {r:Int} (H:T_ref01_common k p1 p2=some r):evF X k n_ref01_common [(I p1),(I p2)] []=some ((I r),[]):=by
 refine Fi X_ref01_common (f:=fun k=>T_ref01_common k p1 p2) H fun k H=>?_
 obtain ⟨x8,hx8,H⟩:=bs H
 refine Kx 4 zz ?_
 refine Kl (o89_1.go hx8) ?_
 cases H
 exact Kz 3 zz
def T_ref01_Valid (k:Nat) (p1:Int) (p2:Int):Option Bool:=match k with
 | 0=>none
 | k+1=>(((if (((decide (0≤p1) && decide (p1≤2305843009213693952)) && decide (1≤p2)) && decide (p2≤1152921504606846976))=true then ((T_ref01_common k p1 p2).bind fun x3=>some (decide (x3=1))) else some false)).bind fun x4=>some x4)
theorem o90 {k:Nat} {p1:Int} {p2:Int} {r:Bool} (H:T_ref01_Valid k p1 p2=some r):evF X k n_ref01_Valid [(.agg [cI p1,cI p2])] []=some ((B r),[]):=by
 refine Fi X_ref01_Valid (f:=fun k=>T_ref01_Valid k p1 p2) H fun k H=>?_
 obtain ⟨x4,hx4,H⟩:=bs H
 refine Kx 3 zz ?_
 refine Kc ⟨[(2,(B x4))],[]⟩ ?_ ?_
 · replace H:=hx4
   rcases is H with ⟨hx2,H⟩ | ⟨hx2,H⟩
   · obtain ⟨x3,hx3,H⟩:=bs H
     cases H
     exact Kz 1 (fo (.m) (ff (rfl (a:=([.cells [cI p1,cI p2]]:Heap))) (fo (.m) (ff (rfl (a:=([.cells [cI p1,cI p2]]:Heap))) (fo (.m) (ff (rfl (a:=([.cells [cI p1,cI p2]]:Heap))) (ft hx2 (fc (o89 hx3) zz))))))))
   · cases H
     exact Kz 1 (fo (.m) (ff (rfl (a:=([.cells [cI p1,cI p2]]:Heap))) (fo (.m) (ff (rfl (a:=([.cells [cI p1,cI p2]]:Heap))) (fo (.m) (ff (rfl (a:=([.cells [cI p1,cI p2]]:Heap))) (fn hx2 zz)))))))
 cases H
 exact Kz 1 zz
def T_ref01_Make (k:Nat) (p1:Int) (p2:Int):Option (Int × Int × Int):=match k with
 | 0=>none
 | k+1=>(if (decide (p1 < 0) || decide (p2 < 1))=true then some (0,0,1) else (T_ref01_common k p1 p2).bind fun x2=>(if x2≠0 then (T_ref01_Valid k (w64 (p1.tdiv x2)) (w64 (p2.tdiv x2))).bind fun x4=>(if (!x4)=true then some (0,0,1) else some ((w64 (p1.tdiv x2)),(w64 (p2.tdiv x2)),0)) else none))
theorem o88 {k:Nat} {p1:Int} {p2:Int} {r:Int × Int × Int} (H:T_ref01_Make k p1 p2=some r):evF X k n_ref01_Make [(I p1),(I p2)] []=some ((.tup [(true,[cI r.1,cI r.2.1]),(false,[cI r.2.2])]),[]):=by
 refine Fi X_ref01_Make (f:=fun k=>T_ref01_Make k p1 p2) H fun k H=>?_
 refine Kx 5 (fo (.m) (ff (rfl (a:=([.cells [cI 0,cI 0]]:Heap))) zz)) ?_
 rcases is H with ⟨hx1,H⟩ | ⟨hx1,H⟩
 · cases H
   exact Kz 4 (ft hx1 zz)
 · obtain ⟨x2,hx2,H⟩:=bs H
   obtain ⟨hx3,H⟩:=gs H
   obtain ⟨x4,hx4,H⟩:=bs H
   refine Kx 10 (fn hx1 (fc (o89 hx2) (ff hx3 (ff hx3 (fc (o90 hx4) zz))))) ?_
   rcases is H with ⟨hx5,H⟩ | ⟨hx5,H⟩
   · cases H
     exact Kz 4 (ft hx5 zz)
   · cases H
     exact Kz 6 (fn hx5 zz)
def T_ref12_Shifted (k:Nat) (p1:List Int) (p2:List Int):Option (Int × Int × Int):=match k with
 | 0=>none
 | k+1=>((T_ref12_Two k p1 p2 0).bind fun x1=>(if (!decide (x1=0))=true then some (0,0,x1) else ((T_ref12_sums k p1 p2).bind fun x3=>(T_ref01_Make k (w64 ((w64 ((p1.length:Int)*x3.2)) - (w64 (x3.1*x3.1)))) (p1.length:Int)).bind fun x4=>some (x4.1,x4.2.1,x4.2.2))))
theorem o84 {k:Nat} {p1:List Int} {p2:List Int} {r:Int × Int × Int} (H:T_ref12_Shifted k p1 p2=some r):evF X k n_ref12_Shifted [(LI p1),(LI p2)] []=some ((.tup [(true,[cI r.1,cI r.2.1]),(false,[cI r.2.2])]),[]):=by
 refine Fi X_ref12_Shifted (f:=fun k=>T_ref12_Shifted k p1 p2) H fun k H=>?_
 obtain ⟨x1,hx1,H⟩:=bs H
 refine Kx 7 (fc (o85 hx1) zz) ?_
 rcases is H with ⟨hx2,H⟩ | ⟨hx2,H⟩
 · cases H
   exact Kz 4 (ft hx2 zz)
 · obtain ⟨x3,hx3,H⟩:=bs H
   obtain ⟨x4,hx4,H⟩:=bs H
   cases H
   exact Kz 8 (fn hx2 (fc (o87 hx3) (fl (D.int .i64) p1 (fl (D.int .i64) p1 (fc (o88 hx4) zz)))))
def T_ref13_product_l1 (k:Nat) (p1:List Int) (p2:List Int) (x6:Int) (x11:Int × Int × Int × Int):Option ((Int × Int × Int × Int) ⊕ ((Int × Int × Int))) :=
 (if x11.2.2.2 < x6 then ((at? p1 x11.2.2.2).bind fun x13=>(at? p2 x11.2.2.2).bind fun x14=>some (.inl ((w64 (x11.1+(w64 (x13*x14)))),(w64 (x11.2.1+x13)),(w64 (x11.2.2.1+x14)),(w64 (x11.2.2.2+1))))) else some (.inr (x11.1,x11.2.1,x11.2.2.1)))
theorem o93_1 {k:Nat} {p1:List Int} {p2:List Int} {x6:Int}:Rnd (T_ref13_product_l1 k p1 p2 x6) (evC X (evF X k) k 0 l_ref13_product_1) (fun s:Int × Int × Int × Int=>⟨[(0,(LI p1)),(1,(LI p2)),(5,(I s.1)),(6,(I s.2.1)),(7,(I s.2.2.1)),(10,(I x6)),(11,(I s.2.2.2))],[]⟩) (fun r:(Int × Int × Int)=>(.exit 0,⟨[(0,(LI p1)),(5,(I r.1)),(6,(I r.2.1)),(7,(I r.2.2))],[]⟩)):=rnd fun x11 x H=>by
 rcases is H with ⟨hx12,H⟩ | ⟨hx12,H⟩
 · obtain ⟨x13,hx13,H⟩:=bs H
   obtain ⟨x14,hx14,H⟩:=bs H
   cases H
   exact Kz 13 (fT hx12 (fi hx13 (fi hx14 (fi hx13 (fi hx14 zz)))))
 · cases H
   exact Kz 5 (fN hx12 zz)
def T_ref13_product (k:Nat) (p1:List Int) (p2:List Int):Option Int:=match k with
 | 0=>none
 | k+1=>((loopT (T_ref13_product_l1 k p1 p2 (p1.length:Int)) k (0,0,0,0)).bind fun x15=>some (w64 ((w64 ((p1.length:Int)*x15.1)) - (w64 (x15.2.1*x15.2.2)))))
theorem o93 {k:Nat} {p1:List Int} {p2:List Int} {r:Int} (H:T_ref13_product k p1 p2=some r):evF X k n_ref13_product [(LI p1),(LI p2)] []=some ((I r),[]):=by
 refine Fi X_ref13_product (f:=fun k=>T_ref13_product k p1 p2) H fun k H=>?_
 obtain ⟨x15,hx15,H⟩:=bs H
 refine Kx 8 (fl (D.int .i64) p1 zz) ?_
 refine Kl (o93_1.go hx15) ?_
 cases H
 exact Kz 3 (fl (D.int .i64) p1 zz)
def T_ref13_Product (k:Nat) (p1:List Int) (p2:List Int):Option (Int × Int):=match k with
 | 0=>none
 | k+1=>((T_ref12_Two k p1 p2 0).bind fun x1=>(if (!decide (x1=0))=true then some (0,x1) else ((T_ref13_product k p1 p2).bind fun x3=>some (x3,0))))
theorem o92 {k:Nat} {p1:List Int} {p2:List Int} {r:Int × Int} (H:T_ref13_Product k p1 p2=some r):evF X k n_ref13_Product [(LI p1),(LI p2)] []=some ((.tup [(false,[cI r.1]),(false,[cI r.2])]),[]):=by
 refine Fi X_ref13_Product (f:=fun k=>T_ref13_Product k p1 p2) H fun k H=>?_
 obtain ⟨x1,hx1,H⟩:=bs H
 refine Kx 7 (fc (o85 hx1) zz) ?_
 rcases is H with ⟨hx2,H⟩ | ⟨hx2,H⟩
 · cases H
   exact Kz 4 (ft hx2 zz)
 · obtain ⟨x3,hx3,H⟩:=bs H
   cases H
   exact Kz 6 (fn hx2 (fc (o93 hx3) zz))
def T_ref13_Between (k:Nat) (p1:Int) (p2:Int) (p3:Int):Option (Int × Int):=match k with
 | 0=>none
 | k+1=>(((if (decide (p2=0) && decide (p3=0))=true then some (0,1) else (if (((!decide (p2=0)) && (!decide (p3=0))) && decide (0≤p1))=true then ((T_ref01_Make k (w64 ((w64 (p2*p3)) - (w64 (p1*p1)))) (w64 (p2*p3))).bind fun x3=>some (x3.1,x3.2.1)) else (if ((!decide (p2=0)) && (!decide (p3=0)))=true then ((T_ref01_Make k (w64 ((w64 (p2*p3))+(w64 (p1*p1)))) (w64 (p2*p3))).bind fun x5=>some (x5.1,x5.2.1)) else some (1,1))))).bind fun x6=>some (x6.1,x6.2))
theorem o94 {k:Nat} {p1:Int} {p2:Int} {p3:Int} {r:Int × Int} (H:T_ref13_Between k p1 p2 p3=some r):evF X k n_ref13_Between [(I p1),(I p2),(I p3)] []=some ((.agg [cI r.1,cI r.2]),[]):=by
 refine Fi X_ref13_Between (f:=fun k=>T_ref13_Between k p1 p2 p3) H fun k H=>?_
 obtain ⟨x6,hx6,H⟩:=bs H
 refine Kx 8 (fo (.m) (ff (rfl (a:=([.cells [cI 0,cI 0],.cells [cI 1,cI 1]]:Heap))) zz)) ?_
 refine Kc ⟨[(6,(Pt 0)),(7,(Pt 1))],[.cells [cI 0,cI 0],.cells [cI x6.1,cI x6.2]]⟩ ?_ ?_
 · replace H:=hx6
   rcases is H with ⟨hx1,H⟩ | ⟨hx1,H⟩
   · cases H
     exact Kz 2 (ft hx1 zz)
   · refine Kx 3 (fn hx1 (fo (.m) (ff (rfl (a:=([.cells [cI 0,cI 0],.cells [cI 1,cI 1]]:Heap))) (fo (.m) (ff (rfl (a:=([.cells [cI 0,cI 0],.cells [cI 1,cI 1]]:Heap))) zz))))) ?_
     rcases is H with ⟨hx2,H⟩ | ⟨hx2,H⟩
     · obtain ⟨x3,hx3,H⟩:=bs H
       cases H
       exact Kz 2 (ft hx2 (fc (o88 hx3) zz))
     · refine Kx 3 (fn hx2 (fo (.m) (ff (rfl (a:=([.cells [cI 0,cI 0],.cells [cI 1,cI 1]]:Heap))) zz))) ?_
       rcases is H with ⟨hx4,H⟩ | ⟨hx4,H⟩
       · obtain ⟨x5,hx5,H⟩:=bs H
         cases H
         exact Kz 2 (ft hx4 (fc (o88 hx5) zz))
       · cases H
         exact Kz 3 (fn hx4 zz)
 cases H
 exact Kz 4 zz
def T_ref13_Gap (k:Nat) (p1:List Int) (p2:List Int):Option (Int × Int × Int):=match k with
 | 0=>none
 | k+1=>((T_ref13_Product k p1 p2).bind fun x1=>(if (!decide (x1.2=0))=true then some (0,0,x1.2) else ((T_ref13_product k p1 p1).bind fun x3=>(T_ref13_product k p2 p2).bind fun x4=>(T_ref13_Between k x1.1 x3 x4).bind fun x5=>some (x5.1,x5.2,0))))
theorem o91 {k:Nat} {p1:List Int} {p2:List Int} {r:Int × Int × Int} (H:T_ref13_Gap k p1 p2=some r):evF X k n_ref13_Gap [(LI p1),(LI p2)] []=some ((.tup [(true,[cI r.1,cI r.2.1]),(false,[cI r.2.2])]),[]):=by
 refine Fi X_ref13_Gap (f:=fun k=>T_ref13_Gap k p1 p2) H fun k H=>?_
 obtain ⟨x1,hx1,H⟩:=bs H
 refine Kx 7 (fc (o92 hx1) zz) ?_
 rcases is H with ⟨hx2,H⟩ | ⟨hx2,H⟩
 · cases H
   exact Kz 4 (ft hx2 zz)
 · obtain ⟨x3,hx3,H⟩:=bs H
   obtain ⟨x4,hx4,H⟩:=bs H
   obtain ⟨x5,hx5,H⟩:=bs H
   cases H
   exact Kz 6 (fn hx2 (fc (o93 hx3) (fc (o93 hx4) (fc (o94 hx5) zz))))
def T_ref12_Distance (k:Nat) (p1:List Int) (p2:List Int):Option (Int × Int):=match k with
 | 0=>none
 | k+1=>((T_ref12_Two k p1 p2 0).bind fun x1=>(if (!decide (x1=0))=true then some (0,x1) else ((T_ref12_sums k p1 p2).bind fun x3=>some (x3.2,0))))
theorem o95 {k:Nat} {p1:List Int} {p2:List Int} {r:Int × Int} (H:T_ref12_Distance k p1 p2=some r):evF X k n_ref12_Distance [(LI p1),(LI p2)] []=some ((.tup [(false,[cI r.1]),(false,[cI r.2])]),[]):=by
 refine Fi X_ref12_Distance (f:=fun k=>T_ref12_Distance k p1 p2) H fun k H=>?_
 obtain ⟨x1,hx1,H⟩:=bs H
 refine Kx 7 (fc (o85 hx1) zz) ?_
 rcases is H with ⟨hx2,H⟩ | ⟨hx2,H⟩
 · cases H
   exact Kz 4 (ft hx2 zz)
 · obtain ⟨x3,hx3,H⟩:=bs H
   cases H
   exact Kz 8 (fn hx2 (fc (o87 hx3) zz))
def T_ref14_Check (k:Nat) (p1:List Int) (p2:List Int) (p3:Int):Option Int:=match k with
 | 0=>none
 | k+1=>(if (decide (p3 < 0) || decide (32 < p3))=true then some 1 else ((T_ref12_Two k p1 p2 p3).bind fun x2=>some x2))
theorem o97 {k:Nat} {p1:List Int} {p2:List Int} {p3:Int} {r:Int} (H:T_ref14_Check k p1 p2 p3=some r):evF X k n_ref14_Check [(LI p1),(LI p2),(I p3)] []=some ((I r),[]):=by
 refine Fi X_ref14_Check (f:=fun k=>T_ref14_Check k p1 p2 p3) H fun k H=>?_
 refine Kx 5 (fo (.m) (ff (rfl (a:=([]:Heap))) zz)) ?_
 rcases is H with ⟨hx1,H⟩ | ⟨hx1,H⟩
 · cases H
   exact Kz 4 (ft hx1 zz)
 · obtain ⟨x2,hx2,H⟩:=bs H
   cases H
   exact Kz 6 (fn hx1 (fc (o85 hx2) zz))
def T_ref14_Costs_l1 (k:Nat) (p1:List Int) (p2:List Int) (x4:Nat) (x5:Int) (x37:Int) (x39:Int) (x40:Int) (x49:Int × (List (List Int))):Option ((Int × (List (List Int))) ⊕ (((List (List Int))))) :=
 (if x49.1 < x40 then (at? p1 x37).bind fun x51=>(at? p2 x49.1).bind fun x52=>(if (0:Int)≤x37∧x37 < ((x4:Nat):Int) then (x49.2[(0+x37.toNat)]?).bind fun x54=>(if x54.length+1≤LIM then some (.inl ((w64 (x49.1+1)),(x49.2.set (0+x37.toNat) (((x54.drop 0).take x54.length++([(w64 ((w64 (x51 - x52))*(w64 (x51 - x52))))]:List Int)).take (x54.length+1))))) else none) else none) else some (.inr x49.2))
theorem o98_1 {k:Nat} {p1:List Int} {p2:List Int} {x4:Nat} {x5:Int} {x37:Int} {x39:Int} {x40:Int}:Rnd (T_ref14_Costs_l1 k p1 p2 x4 x5 x37 x39 x40) (evC X (evF X k) k 0 l_ref14_Costs_1) (fun s:Int × (List (List Int))=>⟨[(0,(LI p1)),(1,(LI p2)),(5,(.one (.own 0 0 x4))),(6,(I x37)),(12,(I x5)),(13,(I x39)),(17,(I x40)),(18,(I s.1))],[.rows (.int .i64 0) (s.2.map (List.map (D.int .i64))) []]⟩) (fun r:((List (List Int)))=>(.exit 2,⟨[(0,(LI p1)),(1,(LI p2)),(5,(.one (.own 0 0 x4))),(12,(I x5)),(13,(I x39))],[.rows (.int .i64 0) (r.map (List.map (D.int .i64))) []]⟩)):=rnd fun x49 x H=>by
 rcases is H with ⟨hx50,H⟩ | ⟨hx50,H⟩
 · obtain ⟨x51,hx51,H⟩:=bs H
   obtain ⟨x52,hx52,H⟩:=bs H
   obtain ⟨hx53,H⟩:=gs H
   obtain ⟨x54,hx54,H⟩:=bs H
   obtain ⟨hx55,H⟩:=gs H
   refine Kx 10 (fT hx50 zz) ?_
   refine KI [0,1,0,1,2,3,4,5,6,7,8,9,10] [0,1,2,3,0,1,2,3,4,5,6,7,8,9,10,4,11,12,13] (fi hx51 (fi hx52 (ff hx53 (fo (.n 0) (fo (.l (x54.map (D.int .i64))) (fo (.n x54.length) (ff (p:=(x49.2.map (List.map (D.int .i64))).getD (0+x37.toNat) []=x54.map (D.int .i64)) (rg_ok hx54 (D.int .i64)) (ff (p:=(x54.map (D.int .i64)).length=x54.length) (List.length_map _) (fP (D.int .i64) 1 x54 0 x54.length ([(w64 ((w64 (x51 - x52))*(w64 (x51 - x52))))]:List Int) 1 hx55 (fo (.n (0+x37.toNat)) (fo (.n (x54.length+1)) (fo (.ll ((x49.2.set (0+x37.toNat) (((x54.drop 0).take x54.length++([(w64 ((w64 (x51 - x52))*(w64 (x51 - x52))))]:List Int)).take (x54.length+1))).map (List.map (D.int .i64)))) (fo (.br []) (ff (p:=brHas 2 [((0+x37.toNat),.own 2 0 (x54.length+1)),((0+x37.toNat),.own 1 0 x54.length)] [((0+x37.toNat),.own 2 0 (x54.length+1)),((0+x37.toNat),.own 1 0 x54.length)]=some ((0+x37.toNat),(x54.length+1))) bh_1 (ff (p:=(x49.2.map (List.map (D.int .i64))).set (0+x37.toNat) ((((x54.drop 0).take x54.length++([(w64 ((w64 (x51 - x52))*(w64 (x51 - x52))))]:List Int)).map (D.int .i64)).take (x54.length+1))=(x49.2.set (0+x37.toNat) (((x54.drop 0).take x54.length++([(w64 ((w64 (x51 - x52))*(w64 (x51 - x52))))]:List Int)).take (x54.length+1))).map (List.map (D.int .i64))) (bk_map (D.int .i64) x49.2 (0+x37.toNat) ((x54.drop 0).take x54.length++([(w64 ((w64 (x51 - x52))*(w64 (x51 - x52))))]:List Int)) (x54.length+1)) (ff (p:=brDel [((0+x37.toNat),.own 2 0 (x54.length+1)),((0+x37.toNat),.own 1 0 x54.length)] (0+x37.toNat)=[]) bd_s zz)))))))))))))))) ?_
   cases H
   exact Kz 2 zz
 · cases H
   exact Kz 5 (fN hx50 zz)
def T_ref14_Costs_l2 (k:Nat) (p1:List Int) (p2:List Int) (x4:Nat) (x5:Int) (x32:Int × (List (List Int))):Option ((Int × (List (List Int))) ⊕ (((List (List Int))))) :=
 (if x32.1 < x5 then ((loopT (T_ref14_Costs_l1 k p1 p2 x4 x5 x32.1 x32.1 (p2.length:Int)) k (0,x32.2)).bind fun x56=>some (.inl ((w64 (x32.1+1)),x56))) else some (.inr x32.2))
theorem o98_2 {k:Nat} {p1:List Int} {p2:List Int} {x4:Nat} {x5:Int}:Rnd (T_ref14_Costs_l2 k p1 p2 x4 x5) (evC X (evF X k) k 0 l_ref14_Costs_2) (fun s:Int × (List (List Int))=>⟨[(0,(LI p1)),(1,(LI p2)),(5,(.one (.own 0 0 x4))),(12,(I x5)),(13,(I s.1))],[.rows (.int .i64 0) (s.2.map (List.map (D.int .i64))) []]⟩) (fun r:((List (List Int)))=>(.exit 0,⟨[(5,(.one (.own 0 0 x4)))],[.rows (.int .i64 0) (r.map (List.map (D.int .i64))) []]⟩)):=rnd fun x32 x H=>by
 rcases is H with ⟨hx33,H⟩ | ⟨hx33,H⟩
 · obtain ⟨x56,hx56,H⟩:=bs H
   refine Kx 13 (fT hx33 (fl (D.int .i64) p2 zz)) ?_
   refine Kl (o98_1.go hx56) ?_
   cases H
   exact Kz 2 zz
 · cases H
   exact Kz 5 (fN hx33 zz)
def T_ref14_Costs (k:Nat) (p1:List Int) (p2:List Int):Option ((List (List Int))):=match k with
 | 0=>none
 | k+1=>(if (0:Int)≤(p1.length:Int)∧(p1.length:Int)≤(p1.length:Int)∧(p1.length:Int)≤(LIM:Int) then (loopT (T_ref14_Costs_l2 k p1 p2 ((p1.length:Int).toNat) (p1.length:Int)) k (0,(List.replicate (p1.length:Int).toNat ([]:List Int)))).bind fun x57=>some ((x57.drop 0).take ((p1.length:Int).toNat)) else none)
theorem o98 {k:Nat} {p1:List Int} {p2:List Int} {r:(List (List Int))} (H:T_ref14_Costs k p1 p2=some r):evF X k n_ref14_Costs [(LI p1),(LI p2)] []=some ((.one (.d (.list (r.map (el (D.int .i64)))))),[]):=by
 refine Fi X_ref14_Costs (f:=fun k=>T_ref14_Costs k p1 p2) H fun k H=>?_
 obtain ⟨hx1,H⟩:=gs H
 obtain ⟨x57,hx57,H⟩:=bs H
 refine Kx 8 (fl (D.int .i64) p1 (fo (.ll ((List.replicate (p1.length:Int).toNat ([]:List Int)).map (List.map (D.int .i64)))) (ff hx1 (ff (p:=List.replicate (p1.length:Int).toNat ([]:List D)=(List.replicate (p1.length:Int).toNat ([]:List Int)).map (List.map (D.int .i64))) (rr_map (D.int .i64) _) (fl (D.int .i64) p1 zz))))) ?_
 refine Kl (o98_2.go hx57) ?_
 cases H
 exact Kw 3 (some ((.one (.d (.list ((((x57.map (List.map (D.int .i64))).drop 0).take ((p1.length:Int).toNat)).map D.list)))),[])) zz (by simp only [dt_map,rl_map,LI,VI])
def T_ref14_out (k:Nat) (p1:Int) (p2:Int) (p3:Int) (p4:Int) (p5:Int):Option Unit:=match k with
 | 0=>none
 | k+1=>some ()
theorem o100 {k:Nat} {p1:Int} {p2:Int} {p3:Int} {p4:Int} {p5:Int} {r:Unit} (H:T_ref14_out k p1 p2 p3 p4 p5=some r):evF X k n_ref14_out [(I p1),(I p2),(I p3),(I p4),(I p5)] []=some ((B (((((decide (p4 < 0) || decide (p5 < 0)) || decide (p1≤p4)) || decide (p2≤p5)) || decide (p3 < (w64 (p4 - p5)))) || decide (p3 < (w64 (p5 - p4))))),[]):=by
 refine Fi X_ref14_out (f:=fun k=>T_ref14_out k p1 p2 p3 p4 p5) H fun k H=>?_
 cases H
 exact Kz 5 (fo (.m) (ff (rfl (a:=([]:Heap))) (fo (.m) (ff (rfl (a:=([]:Heap))) (fo (.m) (ff (rfl (a:=([]:Heap))) (fo (.m) (ff (rfl (a:=([]:Heap))) (fo (.m) (ff (rfl (a:=([]:Heap))) zz))))))))))
def T_ref14_At (k:Nat) (p1:List (List Int)) (p2:Int) (p3:Int) (p4:Int):Option Int:=match k with
 | 0=>none
 | k+1=>(((if (p1.length:Int)=0 then some true else ((at? p1 0).bind fun x4=>(T_ref14_out k (p1.length:Int) (x4.length:Int) p2 p3 p4).bind fun x5=>some (((((decide (p3 < 0) || decide (p4 < 0)) || decide ((p1.length:Int)≤p3)) || decide ((x4.length:Int)≤p4)) || decide (p2 < (w64 (p3 - p4)))) || decide (p2 < (w64 (p4 - p3))))))).bind fun x6=>(if x6=true then some 4611686018427387904 else ((at? p1 p3).bind fun x8=>(at? x8 p4).bind fun x9=>some x9)))
theorem o102 {k:Nat} {p1:List (List Int)} {p2:Int} {p3:Int} {p4:Int} {r:Int} (H:T_ref14_At k p1 p2 p3 p4=some r):evF X k n_ref14_At [(.one (.d (.list (p1.map (el (D.int .i64)))))),(I p2),(I p3),(I p4)] []=some ((I r),[]):=by
 refine Fi X_ref14_At (f:=fun k=>T_ref14_At k p1 p2 p3 p4) H fun k H=>?_
 obtain ⟨x6,hx6,H⟩:=bs H
 refine Kx 4 zz ?_
 refine Kc ⟨[(0,(.one (.d (.list (p1.map (el (D.int .i64))))))),(2,(I p3)),(3,(I p4)),(23,(B x6))],[]⟩ ?_ ?_
 · replace H:=hx6
   rcases is H with ⟨hx3,H⟩ | ⟨hx3,H⟩
   · cases H
     exact Kz 1 (fl (el (D.int .i64)) p1 (fT hx3 zz))
   · obtain ⟨x4,hx4,H⟩:=bs H
     obtain ⟨x5,hx5,H⟩:=bs H
     cases H
     exact Kz 1 (fl (el (D.int .i64)) p1 (fN hx3 (fl (el (D.int .i64)) p1 (fa (el (D.int .i64)) (.list []) hx4 (fl (D.int .i64) x4 (fc (o100 hx5) zz))))))
 rcases is H with ⟨hx7,H⟩ | ⟨hx7,H⟩
 · cases H
   exact Kz 4 (ft hx7 zz)
 · obtain ⟨x8,hx8,H⟩:=bs H
   obtain ⟨x9,hx9,H⟩:=bs H
   cases H
   exact Kz 6 (fn hx7 (fa (el (D.int .i64)) (.list []) hx8 (fi hx9 zz)))
def T_ref14_Before_l1 (k:Nat) (p1:List (List Int)) (p2:Int) (p3:Int) (x3:Int) (p4:Int) (x6:Int) (x18:Int × Int × Int):Option ((Int × Int × Int) ⊕ ((Int × Int))) :=
 (if x18.1 < 2 then ((at? ([(x3,p4),(p3,x6)]:List (Int × Int)) x18.1).bind fun x20=>(T_ref14_At k p1 p2 x20.1 x20.2).bind fun x21=>(T_ref14_At k p1 p2 x18.2.1 x18.2.2).bind fun x22=>((if x21 < x22 then some (x20.1,x20.2) else some (x18.2.1,x18.2.2))).bind fun x24=>some (.inl ((w64 (x18.1+1)),x24.1,x24.2))) else some (.inr (x18.2.1,x18.2.2)))
theorem o101_1 {k:Nat} {p1:List (List Int)} {p2:Int} {p3:Int} {x3:Int} {p4:Int} {x6:Int}:Rnd (T_ref14_Before_l1 k p1 p2 p3 x3 p4 x6) (evC X (evF X k) k 0 l_ref14_Before_1) (fun s:Int × Int × Int=>⟨[(0,(.one (.d (.list (p1.map (el (D.int .i64))))))),(1,(I p2)),(8,(Pt 0)),(9,(Pt 1)),(25,(.agg [cI x3,cI p4,cI p3,cI x6])),(26,(I s.1))],[.cells [cI 0,cI 0],.cells [cI s.2.1,cI s.2.2]]⟩) (fun r:(Int × Int)=>(.exit 0,⟨[(8,(Pt 0)),(9,(Pt 1))],[.cells [cI 0,cI 0],.cells [cI r.1,cI r.2]]⟩)):=rnd fun x18 x H=>by
 rcases is H with ⟨hx19,H⟩ | ⟨hx19,H⟩
 · obtain ⟨x20,hx20,H⟩:=bs H
   obtain ⟨x21,hx21,H⟩:=bs H
   obtain ⟨x22,hx22,H⟩:=bs H
   obtain ⟨x24,hx24,H⟩:=bs H
   refine Kx 12 (fT hx19 (fo (.l [.int .i64 x20.1,.int .i64 x20.2]) (ff (p:=(0:Int)≤x18.1∧x18.1 < ((2:Nat):Int)) (vx_in hx20 2 rfl) (ff (p:=(List.drop (x18.1.toNat*2) [cI x3,cI p4,cI p3,cI x6]).take 2=[cI x20.1,cI x20.2]) (vx_ok hx20 (fun p:Int × Int=>[cI p.1,cI p.2]) 2 (fun _=>rfl)) (fc (o102 hx21) (fc (o102 hx22) zz)))))) ?_
   refine Kc ⟨[(0,(.one (.d (.list (p1.map (el (D.int .i64))))))),(1,(I p2)),(8,(Pt 0)),(9,(Pt 1)),(25,(.agg [cI x3,cI p4,cI p3,cI x6])),(26,(I x18.1))],[.cells [cI 0,cI 0],.cells [cI x24.1,cI x24.2]]⟩ ?_ ?_
   · replace H:=hx24
     rcases is H with ⟨hx23,H⟩ | ⟨hx23,H⟩
     · cases H
       exact Kz 2 (fT hx23 zz)
     · cases H
       exact Kz 3 (fN hx23 zz)
   cases H
   exact Kz 2 zz
 · cases H
   exact Kz 5 (fN hx19 zz)
def T_ref14_Before (k:Nat) (p1:List (List Int)) (p2:Int) (p3:Int) (p4:Int):Option (Int × Int):=match k with
 | 0=>none
 | k+1=>((loopT (T_ref14_Before_l1 k p1 p2 p3 (w64 (p3 - 1)) p4 (w64 (p4 - 1))) k (0,(w64 (p3 - 1)),(w64 (p4 - 1)))).bind fun x25=>some (x25.1,x25.2))
theorem o101 {k:Nat} {p1:List (List Int)} {p2:Int} {p3:Int} {p4:Int} {r:Int × Int} (H:T_ref14_Before k p1 p2 p3 p4=some r):evF X k n_ref14_Before [(.one (.d (.list (p1.map (el (D.int .i64)))))),(I p2),(I p3),(I p4)] []=some ((.agg [cI r.1,cI r.2]),[]):=by
 refine Fi X_ref14_Before (f:=fun k=>T_ref14_Before k p1 p2 p3 p4) H fun k H=>?_
 obtain ⟨x25,hx25,H⟩:=bs H
 refine Kx 8 zz ?_
 refine Kl (o101_1.go hx25) ?_
 cases H
 exact Kz 3 zz
def T_ref14_Fill_l1 (k:Nat) (p1:List (List Int)) (p2:Int) (x4:Nat) (x5:Int) (x12:Int × (List (List Int))):Option ((Int × (List (List Int))) ⊕ (((List (List Int))))) :=
 (if x12.1 < x5 then (at? p1 x12.1).bind fun x14=>(if (0:Int)≤(x14.length:Int)∧(x14.length:Int)≤(x14.length:Int)∧(x14.length:Int)≤(LIM:Int) then (if (0:Int)≤x12.1∧x12.1 < ((x4:Nat):Int) then some (.inl ((w64 (x12.1+1)),(x12.2.set (0+x12.1.toNat) (List.replicate (x14.length:Int).toNat (0:Int))))) else none) else none) else some (.inr x12.2))
theorem o99_1 {k:Nat} {p1:List (List Int)} {p2:Int} {x4:Nat} {x5:Int}:Rnd (T_ref14_Fill_l1 k p1 p2 x4 x5) (evC X (evF X k) k 0 l_ref14_Fill_1) (fun s:Int × (List (List Int))=>⟨[(0,(.one (.d (.list (p1.map (el (D.int .i64))))))),(1,(I p2)),(5,(.one (.own 0 0 x4))),(14,(I x5)),(15,(I s.1))],[.rows (.int .i64 0) (s.2.map (List.map (D.int .i64))) []]⟩) (fun r:((List (List Int)))=>(.exit 0,⟨[(0,(.one (.d (.list (p1.map (el (D.int .i64))))))),(1,(I p2)),(5,(.one (.own 0 0 x4)))],[.rows (.int .i64 0) (r.map (List.map (D.int .i64))) []]⟩)):=rnd fun x12 x H=>by
 rcases is H with ⟨hx13,H⟩ | ⟨hx13,H⟩
 · obtain ⟨x14,hx14,H⟩:=bs H
   obtain ⟨hx15,H⟩:=gs H
   obtain ⟨hx16,H⟩:=gs H
   cases H
   exact Kz 13 (fT hx13 (fa (el (D.int .i64)) (.list []) hx14 (fl (D.int .i64) x14 (ff hx15 (fo (.l ((List.replicate (x14.length:Int).toNat (0:Int)).map (D.int .i64))) (ff (rep_map (D.int .i64) (x14.length:Int).toNat (0:Int)) (ff hx16 (fo (.n (0+x12.1.toNat)) (fo (.n ((x14.length:Int).toNat)) (fo (.ll ((x12.2.set (0+x12.1.toNat) (List.replicate (x14.length:Int).toNat (0:Int))).map (List.map (D.int .i64)))) (fo (.br []) (ff (p:=brHas 1 [((0+x12.1.toNat),.own 1 0 ((x14.length:Int).toNat))] [((0+x12.1.toNat),.own 1 0 ((x14.length:Int).toNat))]=some ((0+x12.1.toNat),(x14.length:Int).toNat)) bh_1 (ff (p:=(x12.2.map (List.map (D.int .i64))).set (0+x12.1.toNat) (((List.replicate (x14.length:Int).toNat (0:Int)).map (D.int .i64)).take ((x14.length:Int).toNat))=(x12.2.set (0+x12.1.toNat) (List.replicate (x14.length:Int).toNat (0:Int))).map (List.map (D.int .i64))) (bk_all (D.int .i64) x12.2 (0+x12.1.toNat) (List.replicate (x14.length:Int).toNat (0:Int)) ((x14.length:Int).toNat) (by simp)) (ff (p:=brDel [((0+x12.1.toNat),.own 1 0 ((x14.length:Int).toNat))] (0+x12.1.toNat)=[]) bd_1 zz))))))))))))))
 · cases H
   exact Kz 5 (fN hx13 zz)
def T_ref14_Fill_l2 (k:Nat) (p1:List (List Int)) (p2:Int) (x20:Nat) (x21:Int) (x77:Int) (x79:Int) (x80:Int) (x100:Int × (List (List Int))):Option ((Int × (List (List Int))) ⊕ (((List (List Int))))) :=
 (if x100.1 < x80 then ((at? p1 x77).bind fun x102=>(T_ref14_out k (p1.length:Int) (x102.length:Int) p2 x77 x100.1).bind fun x103=>(if (((((decide (x77 < 0) || decide (x100.1 < 0)) || decide ((p1.length:Int)≤x77)) || decide ((x102.length:Int)≤x100.1)) || decide (p2 < (w64 (x77 - x100.1)))) || decide (p2 < (w64 (x100.1 - x77))))=true then some (.inl ((w64 (x100.1+1)),x100.2)) else (at? p1 x77).bind fun x105=>(at? x105 x100.1).bind fun x106=>(if (0:Int)≤x77∧x77 < ((x20:Nat):Int) then (x100.2[(0+x77.toNat)]?).bind fun x108=>(if (0:Int)≤x100.1∧x100.1 < ((x108.length:Nat):Int) then ((if 0 < (w64 (x77+x100.1)) then (T_ref14_Before k (((x100.2.set (0+x77.toNat) (x108.set (0+x100.1.toNat) x106)).drop 0).take x20) p2 x77 x100.1).bind fun x111=>(if (0:Int)≤x77∧x77 < ((x20:Nat):Int) then ((x100.2.set (0+x77.toNat) (x108.set (0+x100.1.toNat) x106))[(0+x77.toNat)]?).bind fun x113=>(if (0:Int)≤x100.1∧x100.1 < ((x113.length:Nat):Int) then (x113[(0+x100.1.toNat)]?).bind fun x115=>(T_ref14_At k (((x100.2.set (0+x77.toNat) (x108.set (0+x100.1.toNat) x106)).drop 0).take x20) p2 x111.1 x111.2).bind fun x116=>some ((x100.2.set (0+x77.toNat) (x108.set (0+x100.1.toNat) x106)).set (0+x77.toNat) (x113.set (0+x100.1.toNat) (w64 (x115+x116)))) else none) else none) else some (x100.2.set (0+x77.toNat) (x108.set (0+x100.1.toNat) x106)))).bind fun x117=>some (.inl ((w64 (x100.1+1)),x117)) else none) else none))) else some (.inr x100.2))
theorem o99_2 {k:Nat} {p1:List (List Int)} {p2:Int} {x20:Nat} {x21:Int} {x77:Int} {x79:Int} {x80:Int}:Rnd (T_ref14_Fill_l2 k p1 p2 x20 x21 x77 x79 x80) (evC X (evF X k) k 0 l_ref14_Fill_2) (fun s:Int × (List (List Int))=>⟨[(0,(.one (.d (.list (p1.map (el (D.int .i64))))))),(1,(I p2)),(5,(.one (.own 0 0 x20))),(7,(I x77)),(29,(I x21)),(30,(I x79)),(37,(I x80)),(38,(I s.1))],[.rows (.int .i64 0) (s.2.map (List.map (D.int .i64))) []]⟩) (fun r:((List (List Int)))=>(.exit 4,⟨[(0,(.one (.d (.list (p1.map (el (D.int .i64))))))),(1,(I p2)),(5,(.one (.own 0 0 x20))),(29,(I x21)),(30,(I x79))],[.rows (.int .i64 0) (r.map (List.map (D.int .i64))) []]⟩)):=rnd fun x100 x H=>by
 rcases is H with ⟨hx101,H⟩ | ⟨hx101,H⟩
 · obtain ⟨x102,hx102,H⟩:=bs H
   obtain ⟨x103,hx103,H⟩:=bs H
   refine Kx 13 (fT hx101 (fl (el (D.int .i64)) p1 (fa (el (D.int .i64)) (.list []) hx102 (fl (D.int .i64) x102 (fc (o100 hx103) zz))))) ?_
   rcases is H with ⟨hx104,H⟩ | ⟨hx104,H⟩
   · cases H
     exact Kz 4 (ft hx104 zz)
   · obtain ⟨x105,hx105,H⟩:=bs H
     obtain ⟨x106,hx106,H⟩:=bs H
     obtain ⟨hx107,H⟩:=gs H
     obtain ⟨x108,hx108,H⟩:=bs H
     obtain ⟨hx109,H⟩:=gs H
     obtain ⟨x117,hx117,H⟩:=bs H
     refine Kx 7 (fn hx104 (fa (el (D.int .i64)) (.list []) hx105 (fi hx106 (ff hx107 (fo (.n 0) (fo (.l (x108.map (D.int .i64))) (fo (.n x108.length) (ff (p:=(x100.2.map (List.map (D.int .i64))).getD (0+x77.toNat) []=x108.map (D.int .i64)) (rg_ok hx108 (D.int .i64)) (ff (p:=(x108.map (D.int .i64)).length=x108.length) (List.length_map _) (ff hx109 (fw x108 (0+x100.1.toNat) x106 (D.int .i64) (.int .i64 0) (fo (.n (0+x77.toNat)) (fo (.n x108.length) (fo (.ll ((x100.2.set (0+x77.toNat) (x108.set (0+x100.1.toNat) x106)).map (List.map (D.int .i64)))) (fo (.br []) (ff (p:=brHas 1 [((0+x77.toNat),.own 1 0 x108.length)] [((0+x77.toNat),.own 1 0 x108.length)]=some ((0+x77.toNat),x108.length)) bh_1 (ff (p:=(x100.2.map (List.map (D.int .i64))).set (0+x77.toNat) (((x108.set (0+x100.1.toNat) x106).map (D.int .i64)).take x108.length)=(x100.2.set (0+x77.toNat) (x108.set (0+x100.1.toNat) x106)).map (List.map (D.int .i64))) (bk_all (D.int .i64) x100.2 (0+x77.toNat) (x108.set (0+x100.1.toNat) x106) x108.length (by simp)) (ff (p:=brDel [((0+x77.toNat),.own 1 0 x108.length)] (0+x77.toNat)=[]) bd_1 zz)))))))))))))))))) ?_
     refine Kc ⟨[(0,(.one (.d (.list (p1.map (el (D.int .i64))))))),(1,(I p2)),(5,(.one (.own 0 0 x20))),(7,(I x77)),(29,(I x21)),(30,(I x79)),(37,(I x80)),(38,(I x100.1))],[.rows (.int .i64 0) (x117.map (List.map (D.int .i64))) []]⟩ ?_ ?_
     · replace H:=hx117
       rcases is H with ⟨hx110,H⟩ | ⟨hx110,H⟩
       · obtain ⟨x111,hx111,H⟩:=bs H
         obtain ⟨hx112,H⟩:=gs H
         obtain ⟨x113,hx113,H⟩:=bs H
         obtain ⟨hx114,H⟩:=gs H
         obtain ⟨x115,hx115,H⟩:=bs H
         obtain ⟨x116,hx116,H⟩:=bs H
         refine Kx 3 (fT hx110 (fo (.l ((((x100.2.set (0+x77.toNat) (x108.set (0+x100.1.toNat) x106)).drop 0).take x20).map (el (D.int .i64)))) (ff (see0 (D.int .i64) (x100.2.set (0+x77.toNat) (x108.set (0+x100.1.toNat) x106)) 0 x20) (fc (o101 hx111) zz)))) ?_
         refine KI [0,1,2,3,4,5,6,7,2,8,9,4,5,3,6,7,2,8,9,4,5,3,6,7,2,8,9,4,5,0,1,2,3,6,7,2,8,9,4,5,0,1,2,3,6,7,2,8,9] [0,1,2,3,4,5,6,3,7,8,9,10,5,6,4,3,7,8,9,10,11,5,6,3,4,3,7,8,9,10,11,12,6,1,2,3,4,3,7,8,9,10,11,12,6,0,1,2,3,4,3,7,8,9,10,11] (ff hx112 (fo (.n 0) (fo (.l (x113.map (D.int .i64))) (fo (.n x113.length) (ff (p:=((x100.2.set (0+x77.toNat) (x108.set (0+x100.1.toNat) x106)).map (List.map (D.int .i64))).getD (0+x77.toNat) []=x113.map (D.int .i64)) (rg_ok hx113 (D.int .i64)) (ff (p:=(x113.map (D.int .i64)).length=x113.length) (List.length_map _) (ff hx114 (fg (D.int .i64) (.int .i64 0) hx115 (fo (.l ((((x100.2.set (0+x77.toNat) (x108.set (0+x100.1.toNat) x106)).drop 0).take x20).map (el (D.int .i64)))) (ff (see1 (D.int .i64) (x100.2.set (0+x77.toNat) (x108.set (0+x100.1.toNat) x106)) (x100.2.set (0+x77.toNat) (x108.set (0+x100.1.toNat) x106)) (0+x77.toNat) x113 0 x113.length 0 x20 (set_self hx113)) (fc (o102 hx116) (fw x113 (0+x100.1.toNat) (w64 (x115+x116)) (D.int .i64) (.int .i64 0) (fo (.n (0+x77.toNat)) (fo (.ll (((x100.2.set (0+x77.toNat) (x108.set (0+x100.1.toNat) x106)).set (0+x77.toNat) (x113.set (0+x100.1.toNat) (w64 (x115+x116)))).map (List.map (D.int .i64)))) (fo (.br []) (ff (p:=brHas 1 [((0+x77.toNat),.own 1 0 x113.length)] [((0+x77.toNat),.own 1 0 x113.length)]=some ((0+x77.toNat),x113.length)) bh_1 (ff (p:=((x100.2.set (0+x77.toNat) (x108.set (0+x100.1.toNat) x106)).map (List.map (D.int .i64))).set (0+x77.toNat) (((x113.set (0+x100.1.toNat) (w64 (x115+x116))).map (D.int .i64)).take x113.length)=((x100.2.set (0+x77.toNat) (x108.set (0+x100.1.toNat) x106)).set (0+x77.toNat) (x113.set (0+x100.1.toNat) (w64 (x115+x116)))).map (List.map (D.int .i64))) (bk_all (D.int .i64) (x100.2.set (0+x77.toNat) (x108.set (0+x100.1.toNat) x106)) (0+x77.toNat) (x113.set (0+x100.1.toNat) (w64 (x115+x116))) x113.length (by simp)) (ff (p:=brDel [((0+x77.toNat),.own 1 0 x113.length)] (0+x77.toNat)=[]) bd_1 (ff (rfl (a:=(⟨[(0,(.one (.d (.list (p1.map (el (D.int .i64))))))),(1,(I p2)),(5,(.one (.own 0 0 x20))),(7,(I x77)),(29,(I x21)),(30,(I x79)),(37,(I x80)),(38,(I x100.1))],[.rows (.int .i64 0) (((x100.2.set (0+x77.toNat) (x108.set (0+x100.1.toNat) x106)).set (0+x77.toNat) (x113.set (0+x100.1.toNat) (w64 (x115+x116)))).map (List.map (D.int .i64))) []]⟩:St))) (ff (p:=(((setAll [] ((x100.2.set (0+x77.toNat) (x108.set (0+x100.1.toNat) x106)).map (List.map (D.int .i64)))).drop 0).take x20).map D.list=(((x100.2.set (0+x77.toNat) (x108.set (0+x100.1.toNat) x106)).drop 0).take x20).map (el (D.int .i64))) (see0 (D.int .i64) (x100.2.set (0+x77.toNat) (x108.set (0+x100.1.toNat) x106)) 0 x20) zz)))))))))))))))))))) ?_
         cases H
         exact Kz 0 zz
       · cases H
         exact Kz 3 (fN hx110 zz)
     cases H
     exact Kz 2 zz
 · cases H
   exact Kz 5 (fN hx101 zz)
def T_ref14_Fill_l3 (k:Nat) (p1:List (List Int)) (p2:Int) (x20:Nat) (x21:Int) (x71:Int × (List (List Int))):Option ((Int × (List (List Int))) ⊕ (((List (List Int))))) :=
 (if x71.1 < x21 then ((at? p1 x71.1).bind fun x73=>(loopT (T_ref14_Fill_l2 k p1 p2 x20 x21 x71.1 x71.1 (x73.length:Int)) k (0,x71.2)).bind fun x118=>some (.inl ((w64 (x71.1+1)),x118))) else some (.inr x71.2))
theorem o99_3 {k:Nat} {p1:List (List Int)} {p2:Int} {x20:Nat} {x21:Int}:Rnd (T_ref14_Fill_l3 k p1 p2 x20 x21) (evC X (evF X k) k 0 l_ref14_Fill_3) (fun s:Int × (List (List Int))=>⟨[(0,(.one (.d (.list (p1.map (el (D.int .i64))))))),(1,(I p2)),(5,(.one (.own 0 0 x20))),(29,(I x21)),(30,(I s.1))],[.rows (.int .i64 0) (s.2.map (List.map (D.int .i64))) []]⟩) (fun r:((List (List Int)))=>(.exit 2,⟨[(5,(.one (.own 0 0 x20)))],[.rows (.int .i64 0) (r.map (List.map (D.int .i64))) []]⟩)):=rnd fun x71 x H=>by
 rcases is H with ⟨hx72,H⟩ | ⟨hx72,H⟩
 · obtain ⟨x73,hx73,H⟩:=bs H
   obtain ⟨x118,hx118,H⟩:=bs H
   refine Kx 13 (fT hx72 (fa (el (D.int .i64)) (.list []) hx73 (fl (D.int .i64) x73 zz))) ?_
   refine Kl (o99_2.go hx118) ?_
   cases H
   exact Kz 2 zz
 · cases H
   exact Kz 5 (fN hx72 zz)
def T_ref14_Fill (k:Nat) (p1:List (List Int)) (p2:Int):Option ((List (List Int))):=match k with
 | 0=>none
 | k+1=>(if (0:Int)≤(p1.length:Int)∧(p1.length:Int)≤(p1.length:Int)∧(p1.length:Int)≤(LIM:Int) then (loopT (T_ref14_Fill_l1 k p1 p2 ((p1.length:Int).toNat) (p1.length:Int)) k (0,(List.replicate (p1.length:Int).toNat ([]:List Int)))).bind fun x17=>(loopT (T_ref14_Fill_l3 k p1 p2 ((p1.length:Int).toNat) (p1.length:Int)) k (0,x17)).bind fun x119=>some ((x119.drop 0).take ((p1.length:Int).toNat)) else none)
theorem o99 {k:Nat} {p1:List (List Int)} {p2:Int} {r:(List (List Int))} (H:T_ref14_Fill k p1 p2=some r):evF X k n_ref14_Fill [(.one (.d (.list (p1.map (el (D.int .i64)))))),(I p2)] []=some ((.one (.d (.list (r.map (el (D.int .i64)))))),[]):=by
 refine Fi X_ref14_Fill (f:=fun k=>T_ref14_Fill k p1 p2) H fun k H=>?_
 obtain ⟨hx1,H⟩:=gs H
 obtain ⟨x17,hx17,H⟩:=bs H
 refine Kx 8 (fl (el (D.int .i64)) p1 (fo (.ll ((List.replicate (p1.length:Int).toNat ([]:List Int)).map (List.map (D.int .i64)))) (ff hx1 (ff (p:=List.replicate (p1.length:Int).toNat ([]:List D)=(List.replicate (p1.length:Int).toNat ([]:List Int)).map (List.map (D.int .i64))) (rr_map (D.int .i64) _) (fl (el (D.int .i64)) p1 zz))))) ?_
 refine Kl (o99_1.go hx17) ?_
 obtain ⟨x119,hx119,H⟩:=bs H
 refine Kx 4 (fl (el (D.int .i64)) p1 zz) ?_
 refine Kl (o99_3.go hx119) ?_
 cases H
 exact Kw 3 (some ((.one (.d (.list ((((x119.map (List.map (D.int .i64))).drop 0).take ((p1.length:Int).toNat)).map D.list)))),[])) zz (by simp only [dt_map,rl_map,LI,VI])
def T_ref14_Distance (k:Nat) (p1:List Int) (p2:List Int) (p3:Int):Option (Int × Int):=match k with
 | 0=>none
 | k+1=>((T_ref14_Check k p1 p2 p3).bind fun x1=>(if (!decide (x1=0))=true then some (0,x1) else ((T_ref14_Costs k p1 p2).bind fun x3=>(T_ref14_Fill k x3 p3).bind fun x4=>(at? x4 (w64 ((p1.length:Int) - 1))).bind fun x5=>(at? x5 (w64 ((p2.length:Int) - 1))).bind fun x6=>some (x6,0))))
theorem o96 {k:Nat} {p1:List Int} {p2:List Int} {p3:Int} {r:Int × Int} (H:T_ref14_Distance k p1 p2 p3=some r):evF X k n_ref14_Distance [(LI p1),(LI p2),(I p3)] []=some ((.tup [(false,[cI r.1]),(false,[cI r.2])]),[]):=by
 refine Fi X_ref14_Distance (f:=fun k=>T_ref14_Distance k p1 p2 p3) H fun k H=>?_
 obtain ⟨x1,hx1,H⟩:=bs H
 refine Kx 7 (fc (o97 hx1) zz) ?_
 rcases is H with ⟨hx2,H⟩ | ⟨hx2,H⟩
 · cases H
   exact Kz 4 (ft hx2 zz)
 · obtain ⟨x3,hx3,H⟩:=bs H
   obtain ⟨x4,hx4,H⟩:=bs H
   obtain ⟨x5,hx5,H⟩:=bs H
   obtain ⟨x6,hx6,H⟩:=bs H
   cases H
   exact Kz 6 (fn hx2 (fc (o98 hx3) (fc (o99 hx4) (fl (D.int .i64) p1 (fa (el (D.int .i64)) (.list []) hx5 (fl (D.int .i64) p2 (fi hx6 zz)))))))
def T_ref15_check (k:Nat) (p1:List Int) (p2:List Int) (p3:Int):Option Int:=match k with
 | 0=>none
 | k+1=>((T_ref04_Sample k p3).bind fun x1=>(if (!(decide ((-1000)≤p3) && decide (p3≤1000)))=true then some 1 else ((T_ref12_Two k p1 p2 32).bind fun x3=>some x3)))
theorem o104 {k:Nat} {p1:List Int} {p2:List Int} {p3:Int} {r:Int} (H:T_ref15_check k p1 p2 p3=some r):evF X k n_ref15_check [(LI p1),(LI p2),(I p3)] []=some ((I r),[]):=by
 refine Fi X_ref15_check (f:=fun k=>T_ref15_check k p1 p2 p3) H fun k H=>?_
 obtain ⟨x1,hx1,H⟩:=bs H
 refine Kx 5 (fc (o82 hx1) zz) ?_
 rcases is H with ⟨hx2,H⟩ | ⟨hx2,H⟩
 · cases H
   exact Kz 4 (ft hx2 zz)
 · obtain ⟨x3,hx3,H⟩:=bs H
   cases H
   exact Kz 6 (fn hx2 (fc (o85 hx3) zz))
def T_ref15_Abs (k:Nat) (p1:Int):Option Unit:=match k with
 | 0=>none
 | k+1=>some ()
theorem o106 {k:Nat} {p1:Int} {r:Unit} (H:T_ref15_Abs k p1=some r):evF X k n_ref15_Abs [(I p1)] []=some ((I (imax p1 (w64 (0 - p1)))),[]):=by
 refine Fi X_ref15_Abs (f:=fun k=>T_ref15_Abs k p1) H fun k H=>?_
 cases H
 exact Kz 5 zz
def T_ref15_table_l1 (k:Nat) (p1:List Int) (p2:List Int) (p3:Int) (x5:Nat) (x6:Int) (x96:Int) (x98:Int) (x99:Int) (x132:Int × (List (List Int))):Option ((Int × (List (List Int))) ⊕ (((List (List Int))))) :=
 (if x132.1 < x99 then (if (w64 (x96+x132.1))=0 then some (.inl ((w64 (x132.1+1)),x132.2)) else ((if (decide (0 < x96) && decide (0 < x132.1))=true then (at? p1 (w64 (x96 - 1))).bind fun x136=>(at? p2 (w64 (x132.1 - 1))).bind fun x137=>(T_ref15_Abs k (w64 (x136 - x137))).bind fun x138=>(if (0:Int)≤(w64 (x96 - 1))∧(w64 (x96 - 1)) < ((x5:Nat):Int) then (x132.2[(0+(w64 (x96 - 1)).toNat)]?).bind fun x140=>(if (0:Int)≤(w64 (x132.1 - 1))∧(w64 (x132.1 - 1)) < ((x140.length:Nat):Int) then (x140[(0+(w64 (x132.1 - 1)).toNat)]?).bind fun x142=>some (w64 (x142+(imax (w64 (x136 - x137)) (w64 (0 - (w64 (x136 - x137))))))) else none) else none) else some 4611686018427387904)).bind fun x143=>((if 0 < x96 then (at? p1 (w64 (x96 - 1))).bind fun x145=>(T_ref15_Abs k (w64 (x145 - p3))).bind fun x146=>(if (0:Int)≤(w64 (x96 - 1))∧(w64 (x96 - 1)) < ((x5:Nat):Int) then (x132.2[(0+(w64 (x96 - 1)).toNat)]?).bind fun x148=>(if (0:Int)≤x132.1∧x132.1 < ((x148.length:Nat):Int) then (x148[(0+x132.1.toNat)]?).bind fun x150=>some (imin x143 (w64 (x150+(imax (w64 (x145 - p3)) (w64 (0 - (w64 (x145 - p3)))))))) else none) else none) else some x143)).bind fun x151=>((if 0 < x132.1 then (at? p2 (w64 (x132.1 - 1))).bind fun x153=>(T_ref15_Abs k (w64 (x153 - p3))).bind fun x154=>(if (0:Int)≤x96∧x96 < ((x5:Nat):Int) then (x132.2[(0+x96.toNat)]?).bind fun x156=>(if (0:Int)≤(w64 (x132.1 - 1))∧(w64 (x132.1 - 1)) < ((x156.length:Nat):Int) then (x156[(0+(w64 (x132.1 - 1)).toNat)]?).bind fun x158=>some (imin x151 (w64 (x158+(imax (w64 (x153 - p3)) (w64 (0 - (w64 (x153 - p3)))))))) else none) else none) else some x151)).bind fun x159=>(if (0:Int)≤x96∧x96 < ((x5:Nat):Int) then (x132.2[(0+x96.toNat)]?).bind fun x161=>(if (0:Int)≤x132.1∧x132.1 < ((x161.length:Nat):Int) then some (.inl ((w64 (x132.1+1)),(x132.2.set (0+x96.toNat) (x161.set (0+x132.1.toNat) x159)))) else none) else none)) else some (.inr x132.2))
theorem o105_1 {k:Nat} {p1:List Int} {p2:List Int} {p3:Int} {x5:Nat} {x6:Int} {x96:Int} {x98:Int} {x99:Int}:Rnd (T_ref15_table_l1 k p1 p2 p3 x5 x6 x96 x98 x99) (evC X (evF X k) k 0 l_ref15_table_1) (fun s:Int × (List (List Int))=>⟨[(0,(LI p1)),(1,(LI p2)),(2,(I p3)),(7,(.one (.own 0 0 x5))),(8,(I x96)),(16,(I x6)),(17,(I x98)),(31,(I x99)),(32,(I s.1))],[.rows (.int .i64 0) (s.2.map (List.map (D.int .i64))) []]⟩) (fun r:((List (List Int)))=>(.exit 2,⟨[(0,(LI p1)),(1,(LI p2)),(2,(I p3)),(7,(.one (.own 0 0 x5))),(16,(I x6)),(17,(I x98))],[.rows (.int .i64 0) (r.map (List.map (D.int .i64))) []]⟩)):=rnd fun x132 x H=>by
 rcases is H with ⟨hx133,H⟩ | ⟨hx133,H⟩
 · refine Kx 13 (fT hx133 zz) ?_
   rcases is H with ⟨hx134,H⟩ | ⟨hx134,H⟩
   · cases H
     exact Kz 4 (fT hx134 zz)
   · obtain ⟨x143,hx143,H⟩:=bs H
     refine Kx 8 (fN hx134 (fo (.m) (ff (rfl (a:=([.rows (.int .i64 0) (x132.2.map (List.map (D.int .i64))) []]:Heap))) zz))) ?_
     refine Kc ⟨[(0,(LI p1)),(1,(LI p2)),(2,(I p3)),(7,(.one (.own 0 0 x5))),(8,(I x96)),(9,(I x132.1)),(10,(I x143)),(16,(I x6)),(17,(I x98)),(31,(I x99)),(32,(I x132.1))],[.rows (.int .i64 0) (x132.2.map (List.map (D.int .i64))) []]⟩ ?_ ?_
     · replace H:=hx143
       rcases is H with ⟨hx135,H⟩ | ⟨hx135,H⟩
       · obtain ⟨x136,hx136,H⟩:=bs H
         obtain ⟨x137,hx137,H⟩:=bs H
         obtain ⟨x138,hx138,H⟩:=bs H
         obtain ⟨hx139,H⟩:=gs H
         obtain ⟨x140,hx140,H⟩:=bs H
         obtain ⟨hx141,H⟩:=gs H
         obtain ⟨x142,hx142,H⟩:=bs H
         cases H
         exact Kz 2 (ft hx135 (fi hx136 (fi hx137 (fc (o106 hx138) (ff hx139 (fo (.n 0) (fo (.l (x140.map (D.int .i64))) (fo (.n x140.length) (ff (p:=(x132.2.map (List.map (D.int .i64))).getD (0+(w64 (x96 - 1)).toNat) []=x140.map (D.int .i64)) (rg_ok hx140 (D.int .i64)) (ff (p:=(x140.map (D.int .i64)).length=x140.length) (List.length_map _) (ff hx141 (fg (D.int .i64) (.int .i64 0) hx142 (fo (.n (0+(w64 (x96 - 1)).toNat)) (fo (.n x140.length) (fo (.ll (x132.2.map (List.map (D.int .i64)))) (fo (.br []) (ff (p:=brHas 1 [((0+(w64 (x96 - 1)).toNat),.own 1 0 x140.length)] [((0+(w64 (x96 - 1)).toNat),.own 1 0 x140.length)]=some ((0+(w64 (x96 - 1)).toNat),x140.length)) bh_1 (ff (p:=(x132.2.map (List.map (D.int .i64))).set (0+(w64 (x96 - 1)).toNat) ((x140.map (D.int .i64)).take x140.length)=x132.2.map (List.map (D.int .i64))) (bk_same (D.int .i64) hx140) (ff (p:=brDel [((0+(w64 (x96 - 1)).toNat),.own 1 0 x140.length)] (0+(w64 (x96 - 1)).toNat)=[]) bd_1 zz)))))))))))))))))))
       · cases H
         exact Kz 3 (fn hx135 zz)
     obtain ⟨x151,hx151,H⟩:=bs H
     refine Kx 3 zz ?_
     refine Kc ⟨[(0,(LI p1)),(1,(LI p2)),(2,(I p3)),(7,(.one (.own 0 0 x5))),(8,(I x96)),(9,(I x132.1)),(10,(I x151)),(16,(I x6)),(17,(I x98)),(31,(I x99)),(32,(I x132.1))],[.rows (.int .i64 0) (x132.2.map (List.map (D.int .i64))) []]⟩ ?_ ?_
     · replace H:=hx151
       rcases is H with ⟨hx144,H⟩ | ⟨hx144,H⟩
       · obtain ⟨x145,hx145,H⟩:=bs H
         obtain ⟨x146,hx146,H⟩:=bs H
         obtain ⟨hx147,H⟩:=gs H
         obtain ⟨x148,hx148,H⟩:=bs H
         obtain ⟨hx149,H⟩:=gs H
         obtain ⟨x150,hx150,H⟩:=bs H
         cases H
         exact Kz 2 (fT hx144 (fi hx145 (fc (o106 hx146) (ff hx147 (fo (.n 0) (fo (.l (x148.map (D.int .i64))) (fo (.n x148.length) (ff (p:=(x132.2.map (List.map (D.int .i64))).getD (0+(w64 (x96 - 1)).toNat) []=x148.map (D.int .i64)) (rg_ok hx148 (D.int .i64)) (ff (p:=(x148.map (D.int .i64)).length=x148.length) (List.length_map _) (ff hx149 (fg (D.int .i64) (.int .i64 0) hx150 (fo (.n (0+(w64 (x96 - 1)).toNat)) (fo (.n x148.length) (fo (.ll (x132.2.map (List.map (D.int .i64)))) (fo (.br []) (ff (p:=brHas 1 [((0+(w64 (x96 - 1)).toNat),.own 1 0 x148.length)] [((0+(w64 (x96 - 1)).toNat),.own 1 0 x148.length)]=some ((0+(w64 (x96 - 1)).toNat),x148.length)) bh_1 (ff (p:=(x132.2.map (List.map (D.int .i64))).set (0+(w64 (x96 - 1)).toNat) ((x148.map (D.int .i64)).take x148.length)=x132.2.map (List.map (D.int .i64))) (bk_same (D.int .i64) hx148) (ff (p:=brDel [((0+(w64 (x96 - 1)).toNat),.own 1 0 x148.length)] (0+(w64 (x96 - 1)).toNat)=[]) bd_1 zz))))))))))))))))))
       · cases H
         exact Kz 3 (fN hx144 zz)
     obtain ⟨x159,hx159,H⟩:=bs H
     refine Kx 3 zz ?_
     refine Kc ⟨[(0,(LI p1)),(1,(LI p2)),(2,(I p3)),(7,(.one (.own 0 0 x5))),(8,(I x96)),(9,(I x132.1)),(10,(I x159)),(16,(I x6)),(17,(I x98)),(31,(I x99)),(32,(I x132.1))],[.rows (.int .i64 0) (x132.2.map (List.map (D.int .i64))) []]⟩ ?_ ?_
     · replace H:=hx159
       rcases is H with ⟨hx152,H⟩ | ⟨hx152,H⟩
       · obtain ⟨x153,hx153,H⟩:=bs H
         obtain ⟨x154,hx154,H⟩:=bs H
         obtain ⟨hx155,H⟩:=gs H
         obtain ⟨x156,hx156,H⟩:=bs H
         obtain ⟨hx157,H⟩:=gs H
         obtain ⟨x158,hx158,H⟩:=bs H
         cases H
         exact Kz 2 (fT hx152 (fi hx153 (fc (o106 hx154) (ff hx155 (fo (.n 0) (fo (.l (x156.map (D.int .i64))) (fo (.n x156.length) (ff (p:=(x132.2.map (List.map (D.int .i64))).getD (0+x96.toNat) []=x156.map (D.int .i64)) (rg_ok hx156 (D.int .i64)) (ff (p:=(x156.map (D.int .i64)).length=x156.length) (List.length_map _) (ff hx157 (fg (D.int .i64) (.int .i64 0) hx158 (fo (.n (0+x96.toNat)) (fo (.n x156.length) (fo (.ll (x132.2.map (List.map (D.int .i64)))) (fo (.br []) (ff (p:=brHas 1 [((0+x96.toNat),.own 1 0 x156.length)] [((0+x96.toNat),.own 1 0 x156.length)]=some ((0+x96.toNat),x156.length)) bh_1 (ff (p:=(x132.2.map (List.map (D.int .i64))).set (0+x96.toNat) ((x156.map (D.int .i64)).take x156.length)=x132.2.map (List.map (D.int .i64))) (bk_same (D.int .i64) hx156) (ff (p:=brDel [((0+x96.toNat),.own 1 0 x156.length)] (0+x96.toNat)=[]) bd_1 zz))))))))))))))))))
       · cases H
         exact Kz 3 (fN hx152 zz)
     obtain ⟨hx160,H⟩:=gs H
     obtain ⟨x161,hx161,H⟩:=bs H
     obtain ⟨hx162,H⟩:=gs H
     cases H
     exact Kz 3 (ff hx160 (fo (.n 0) (fo (.l (x161.map (D.int .i64))) (fo (.n x161.length) (ff (p:=(x132.2.map (List.map (D.int .i64))).getD (0+x96.toNat) []=x161.map (D.int .i64)) (rg_ok hx161 (D.int .i64)) (ff (p:=(x161.map (D.int .i64)).length=x161.length) (List.length_map _) (ff hx162 (fw x161 (0+x132.1.toNat) x159 (D.int .i64) (.int .i64 0) (fo (.n (0+x96.toNat)) (fo (.n x161.length) (fo (.ll ((x132.2.set (0+x96.toNat) (x161.set (0+x132.1.toNat) x159)).map (List.map (D.int .i64)))) (fo (.br []) (ff (p:=brHas 1 [((0+x96.toNat),.own 1 0 x161.length)] [((0+x96.toNat),.own 1 0 x161.length)]=some ((0+x96.toNat),x161.length)) bh_1 (ff (p:=(x132.2.map (List.map (D.int .i64))).set (0+x96.toNat) (((x161.set (0+x132.1.toNat) x159).map (D.int .i64)).take x161.length)=(x132.2.set (0+x96.toNat) (x161.set (0+x132.1.toNat) x159)).map (List.map (D.int .i64))) (bk_all (D.int .i64) x132.2 (0+x96.toNat) (x161.set (0+x132.1.toNat) x159) x161.length (by simp)) (ff (p:=brDel [((0+x96.toNat),.own 1 0 x161.length)] (0+x96.toNat)=[]) bd_1 zz)))))))))))))))
 · cases H
   exact Kz 5 (fN hx133 zz)
def T_ref15_table_l2 (k:Nat) (p1:List Int) (p2:List Int) (p3:Int) (x5:Nat) (x6:Int) (x86:Int × (List (List Int))):Option ((Int × (List (List Int))) ⊕ (((List (List Int))))) :=
 (if x86.1 < x6 then (if (0:Int)≤(w64 ((p2.length:Int)+1))∧(w64 ((p2.length:Int)+1))≤(w64 ((p2.length:Int)+1))∧(w64 ((p2.length:Int)+1))≤(LIM:Int) then (if (0:Int)≤x86.1∧x86.1 < ((x5:Nat):Int) then (if (0:Int)≤x86.1∧x86.1 < ((x5:Nat):Int) then ((x86.2.set (0+x86.1.toNat) (List.replicate (w64 ((p2.length:Int)+1)).toNat (0:Int)))[(0+x86.1.toNat)]?).bind fun x91=>(loopT (T_ref15_table_l1 k p1 p2 p3 x5 x6 x86.1 x86.1 ((x91.length:Nat):Int)) k (0,(x86.2.set (0+x86.1.toNat) (List.replicate (w64 ((p2.length:Int)+1)).toNat (0:Int))))).bind fun x163=>some (.inl ((w64 (x86.1+1)),x163)) else none) else none) else none) else some (.inr x86.2))
theorem o105_2 {k:Nat} {p1:List Int} {p2:List Int} {p3:Int} {x5:Nat} {x6:Int}:Rnd (T_ref15_table_l2 k p1 p2 p3 x5 x6) (evC X (evF X k) k 0 l_ref15_table_2) (fun s:Int × (List (List Int))=>⟨[(0,(LI p1)),(1,(LI p2)),(2,(I p3)),(7,(.one (.own 0 0 x5))),(16,(I x6)),(17,(I s.1))],[.rows (.int .i64 0) (s.2.map (List.map (D.int .i64))) []]⟩) (fun r:((List (List Int)))=>(.exit 0,⟨[(7,(.one (.own 0 0 x5)))],[.rows (.int .i64 0) (r.map (List.map (D.int .i64))) []]⟩)):=rnd fun x86 x H=>by
 rcases is H with ⟨hx87,H⟩ | ⟨hx87,H⟩
 · obtain ⟨hx88,H⟩:=gs H
   obtain ⟨hx89,H⟩:=gs H
   obtain ⟨hx90,H⟩:=gs H
   obtain ⟨x91,hx91,H⟩:=bs H
   obtain ⟨x163,hx163,H⟩:=bs H
   refine Kx 15 (fT hx87 (fl (D.int .i64) p2 (ff hx88 (fo (.l ((List.replicate (w64 ((p2.length:Int)+1)).toNat (0:Int)).map (D.int .i64))) (ff (rep_map (D.int .i64) (w64 ((p2.length:Int)+1)).toNat (0:Int)) (ff hx89 (fo (.n (0+x86.1.toNat)) (fo (.n ((w64 ((p2.length:Int)+1)).toNat)) (fo (.ll ((x86.2.set (0+x86.1.toNat) (List.replicate (w64 ((p2.length:Int)+1)).toNat (0:Int))).map (List.map (D.int .i64)))) (fo (.br []) (ff (p:=brHas 1 [((0+x86.1.toNat),.own 1 0 ((w64 ((p2.length:Int)+1)).toNat))] [((0+x86.1.toNat),.own 1 0 ((w64 ((p2.length:Int)+1)).toNat))]=some ((0+x86.1.toNat),(w64 ((p2.length:Int)+1)).toNat)) bh_1 (ff (p:=(x86.2.map (List.map (D.int .i64))).set (0+x86.1.toNat) (((List.replicate (w64 ((p2.length:Int)+1)).toNat (0:Int)).map (D.int .i64)).take ((w64 ((p2.length:Int)+1)).toNat))=(x86.2.set (0+x86.1.toNat) (List.replicate (w64 ((p2.length:Int)+1)).toNat (0:Int))).map (List.map (D.int .i64))) (bk_all (D.int .i64) x86.2 (0+x86.1.toNat) (List.replicate (w64 ((p2.length:Int)+1)).toNat (0:Int)) ((w64 ((p2.length:Int)+1)).toNat) (by simp)) (ff (p:=brDel [((0+x86.1.toNat),.own 1 0 ((w64 ((p2.length:Int)+1)).toNat))] (0+x86.1.toNat)=[]) bd_1 (ff hx90 (fo (.n 0) (fo (.l (x91.map (D.int .i64))) (fo (.n x91.length) (ff (p:=((x86.2.set (0+x86.1.toNat) (List.replicate (w64 ((p2.length:Int)+1)).toNat (0:Int))).map (List.map (D.int .i64))).getD (0+x86.1.toNat) []=x91.map (D.int .i64)) (rg_ok hx91 (D.int .i64)) (ff (p:=(x91.map (D.int .i64)).length=x91.length) (List.length_map _) (fo (.n (0+x86.1.toNat)) (fo (.n x91.length) (fo (.ll ((x86.2.set (0+x86.1.toNat) (List.replicate (w64 ((p2.length:Int)+1)).toNat (0:Int))).map (List.map (D.int .i64)))) (fo (.br []) (ff (p:=brHas 1 [((0+x86.1.toNat),.own 1 0 x91.length)] [((0+x86.1.toNat),.own 1 0 x91.length)]=some ((0+x86.1.toNat),x91.length)) bh_1 (ff (p:=((x86.2.set (0+x86.1.toNat) (List.replicate (w64 ((p2.length:Int)+1)).toNat (0:Int))).map (List.map (D.int .i64))).set (0+x86.1.toNat) ((x91.map (D.int .i64)).take x91.length)=(x86.2.set (0+x86.1.toNat) (List.replicate (w64 ((p2.length:Int)+1)).toNat (0:Int))).map (List.map (D.int .i64))) (bk_same (D.int .i64) hx91) (ff (p:=brDel [((0+x86.1.toNat),.own 1 0 x91.length)] (0+x86.1.toNat)=[]) bd_1 zz)))))))))))))))))))))))))) ?_
   refine Kl (o105_1.go hx163) ?_
   cases H
   exact Kz 2 zz
 · cases H
   exact Kz 5 (fN hx87 zz)
def T_ref15_table (k:Nat) (p1:List Int) (p2:List Int) (p3:Int):Option ((List (List Int))):=match k with
 | 0=>none
 | k+1=>(if (0:Int)≤(w64 ((p1.length:Int)+1))∧(w64 ((p1.length:Int)+1))≤(w64 ((p1.length:Int)+1))∧(w64 ((p1.length:Int)+1))≤(LIM:Int) then (loopT (T_ref15_table_l2 k p1 p2 p3 ((w64 ((p1.length:Int)+1)).toNat) (((w64 ((p1.length:Int)+1)).toNat:Nat):Int)) k (0,(List.replicate (w64 ((p1.length:Int)+1)).toNat ([]:List Int)))).bind fun x164=>some ((x164.drop 0).take ((w64 ((p1.length:Int)+1)).toNat)) else none)
theorem o105 {k:Nat} {p1:List Int} {p2:List Int} {p3:Int} {r:(List (List Int))} (H:T_ref15_table k p1 p2 p3=some r):evF X k n_ref15_table [(LI p1),(LI p2),(I p3)] []=some ((.one (.d (.list (r.map (el (D.int .i64)))))),[]):=by
 refine Fi X_ref15_table (f:=fun k=>T_ref15_table k p1 p2 p3) H fun k H=>?_
 obtain ⟨hx1,H⟩:=gs H
 obtain ⟨x164,hx164,H⟩:=bs H
 refine Kx 8 (fl (D.int .i64) p1 (fo (.ll ((List.replicate (w64 ((p1.length:Int)+1)).toNat ([]:List Int)).map (List.map (D.int .i64)))) (ff hx1 (ff (p:=List.replicate (w64 ((p1.length:Int)+1)).toNat ([]:List D)=(List.replicate (w64 ((p1.length:Int)+1)).toNat ([]:List Int)).map (List.map (D.int .i64))) (rr_map (D.int .i64) _) zz)))) ?_
 refine Kl (o105_2.go hx164) ?_
 cases H
 exact Kw 3 (some ((.one (.d (.list ((((x164.map (List.map (D.int .i64))).drop 0).take ((w64 ((p1.length:Int)+1)).toNat)).map D.list)))),[])) zz (by simp only [dt_map,rl_map,LI,VI])
def T_ref15_Distance (k:Nat) (p1:List Int) (p2:List Int) (p3:Int):Option (Int × Int):=match k with
 | 0=>none
 | k+1=>((T_ref15_check k p1 p2 p3).bind fun x1=>(if (!decide (x1=0))=true then some (0,x1) else ((T_ref15_table k p1 p2 p3).bind fun x3=>(at? x3 (p1.length:Int)).bind fun x4=>(at? x4 (p2.length:Int)).bind fun x5=>some (x5,0))))
theorem o103 {k:Nat} {p1:List Int} {p2:List Int} {p3:Int} {r:Int × Int} (H:T_ref15_Distance k p1 p2 p3=some r):evF X k n_ref15_Distance [(LI p1),(LI p2),(I p3)] []=some ((.tup [(false,[cI r.1]),(false,[cI r.2])]),[]):=by
 refine Fi X_ref15_Distance (f:=fun k=>T_ref15_Distance k p1 p2 p3) H fun k H=>?_
 obtain ⟨x1,hx1,H⟩:=bs H
 refine Kx 7 (fc (o104 hx1) zz) ?_
 rcases is H with ⟨hx2,H⟩ | ⟨hx2,H⟩
 · cases H
   exact Kz 4 (ft hx2 zz)
 · obtain ⟨x3,hx3,H⟩:=bs H
   obtain ⟨x4,hx4,H⟩:=bs H
   obtain ⟨x5,hx5,H⟩:=bs H
   cases H
   exact Kz 6 (fn hx2 (fc (o105 hx3) (fl (D.int .i64) p1 (fa (el (D.int .i64)) (.list []) hx4 (fl (D.int .i64) p2 (fi hx5 zz))))))
def T_ref17_Distance (k:Nat) (p1:Int) (p2:Int) (p3:Int) (p4:List Int) (p5:List Int):Option (Int × Int × Int):=match k with
 | 0=>none
 | k+1=>((T_ref17_Check k p1 p2 p3).bind fun x1=>(if (!decide (x1=0))=true then some (0,0,x1) else (if p1=2 then ((T_ref12_Shifted k p4 p5).bind fun x13=>some (x13.1,x13.2.1,x13.2.2)) else (if p1=3 then ((T_ref13_Gap k p4 p5).bind fun x22=>some (x22.1,x22.2.1,x22.2.2)) else (((if p1=1 then ((T_ref12_Distance k p4 p5).bind fun x24=>some (x24.1,x24.2)) else (if p1=4 then ((T_ref14_Distance k p4 p5 p2).bind fun x26=>some (x26.1,x26.2)) else ((T_ref15_Distance k p4 p5 p3).bind fun x27=>some (x27.1,x27.2))))).bind fun x28=>(if (!decide (x28.2=0))=true then some (0,0,x28.2) else some (x28.1,1,0)))))))
theorem o83 {k:Nat} {p1:Int} {p2:Int} {p3:Int} {p4:List Int} {p5:List Int} {r:Int × Int × Int} (H:T_ref17_Distance k p1 p2 p3 p4 p5=some r):evF X k n_ref17_Distance [(.agg [cI p1,cI p2,cI p3]),(LI p4),(LI p5)] []=some ((.tup [(true,[cI r.1,cI r.2.1]),(false,[cI r.2.2])]),[]):=by
 refine Fi X_ref17_Distance (f:=fun k=>T_ref17_Distance k p1 p2 p3 p4 p5) H fun k H=>?_
 obtain ⟨x1,hx1,H⟩:=bs H
 refine Kx 7 (fc (o81 hx1) zz) ?_
 rcases is H with ⟨hx2,H⟩ | ⟨hx2,H⟩
 · cases H
   exact Kz 4 (ft hx2 zz)
 · refine Kx 11 (fn hx2 zz) ?_
   rcases is H with ⟨hx12,H⟩ | ⟨hx12,H⟩
   · obtain ⟨x13,hx13,H⟩:=bs H
     cases H
     exact Kz 4 (fT hx12 (fc (o84 hx13) zz))
   · refine Kx 3 (fN hx12 zz) ?_
     rcases is H with ⟨hx21,H⟩ | ⟨hx21,H⟩
     · obtain ⟨x22,hx22,H⟩:=bs H
       cases H
       exact Kz 4 (fT hx21 (fc (o91 hx22) zz))
     · obtain ⟨x28,hx28,H⟩:=bs H
       refine Kx 3 (fN hx21 zz) ?_
       refine Kc ⟨[(6,(Pt 0)),(9,(I x28.1)),(10,(I x28.2))],[.cells [cI 0,cI 0]]⟩ ?_ ?_
       · replace H:=hx28
         rcases is H with ⟨hx23,H⟩ | ⟨hx23,H⟩
         · obtain ⟨x24,hx24,H⟩:=bs H
           cases H
           exact Kz 2 (fT hx23 (fc (o95 hx24) zz))
         · refine Kx 3 (fN hx23 zz) ?_
           rcases is H with ⟨hx25,H⟩ | ⟨hx25,H⟩
           · obtain ⟨x26,hx26,H⟩:=bs H
             cases H
             exact Kz 2 (fT hx25 (fc (o96 hx26) zz))
           · obtain ⟨x27,hx27,H⟩:=bs H
             cases H
             exact Kz 2 (fN hx25 (fc (o103 hx27) zz))
       rcases is H with ⟨hx29,H⟩ | ⟨hx29,H⟩
       · cases H
         exact Kz 8 (ft hx29 zz)
       · cases H
         exact Kz 10 (fn hx29 zz)
def T_ref01_order (k:Nat) (p1:Int) (p2:Int) (p3:Int) (p4:Int):Option Int:=match k with
 | 0=>none
 | k+1=>(if p2≠0 then (if p4≠0 then (if (!decide ((w64 (p1.tdiv p2))=(w64 (p3.tdiv p4))))=true then (if (w64 (p1.tdiv p2)) < (w64 (p3.tdiv p4)) then some (-1) else some 1) else (if p2≠0 then (if p4≠0 then (if (decide ((p1.tmod p2)=0) && decide ((p3.tmod p4)=0))=true then some 0 else (if (p1.tmod p2)=0 then some (-1) else (if (p3.tmod p4)=0 then some 1 else ((T_ref01_order k p4 (p3.tmod p4) p2 (p1.tmod p2)).bind fun x10=>some x10)))) else none) else none)) else none) else none)
theorem o111 {k:Nat} {p1:Int} {p2:Int} {p3:Int} {p4:Int} {r:Int} (H:T_ref01_order k p1 p2 p3 p4=some r):evF X k n_ref01_order [(I p1),(I p2),(I p3),(I p4)] []=some ((I r),[]):=by
 cases k with
 | zero=>cases H
 | succ k =>
 refine Fr1 X_ref01_order ?_
 obtain ⟨hx1,H⟩:=gs H
 obtain ⟨hx2,H⟩:=gs H
 refine Kx 7 (ff hx1 (ff hx2 zz)) ?_
 rcases is H with ⟨hx3,H⟩ | ⟨hx3,H⟩
 · refine Kx 4 (ft hx3 zz) ?_
   rcases is H with ⟨hx4,H⟩ | ⟨hx4,H⟩
   · cases H
     exact Kz 4 (fT hx4 zz)
   · cases H
     exact Kz 6 (fN hx4 zz)
 · obtain ⟨hx5,H⟩:=gs H
   obtain ⟨hx6,H⟩:=gs H
   refine Kx 9 (fn hx3 (ff hx5 (ff hx6 (fo (.m) (ff (rfl (a:=([]:Heap))) zz))))) ?_
   rcases is H with ⟨hx7,H⟩ | ⟨hx7,H⟩
   · cases H
     exact Kz 4 (ft hx7 zz)
   · refine Kx 3 (fn hx7 zz) ?_
     rcases is H with ⟨hx8,H⟩ | ⟨hx8,H⟩
     · cases H
       exact Kz 4 (fT hx8 zz)
     · refine Kx 3 (fN hx8 zz) ?_
       rcases is H with ⟨hx9,H⟩ | ⟨hx9,H⟩
       · cases H
         exact Kz 4 (fT hx9 zz)
       · obtain ⟨x10,hx10,H⟩:=bs H
         cases H
         exact Kz 7 (fN hx9 (fc (o111 hx10) zz))
def T_ref01_Cmp (k:Nat) (p1:Int) (p2:Int) (p3:Int) (p4:Int):Option Int:=match k with
 | 0=>none
 | k+1=>((((T_ref01_Valid k p1 p2).bind fun x1=>(if (!x1)=true then some true else ((T_ref01_Valid k p3 p4).bind fun x4=>some (!x4))))).bind fun x5=>(if x5=true then some 0 else ((T_ref01_order k p1 p2 p3 p4).bind fun x7=>some x7)))
theorem o110 {k:Nat} {p1:Int} {p2:Int} {p3:Int} {p4:Int} {r:Int} (H:T_ref01_Cmp k p1 p2 p3 p4=some r):evF X k n_ref01_Cmp [(.agg [cI p1,cI p2]),(.agg [cI p3,cI p4])] []=some ((I r),[]):=by
 refine Fi X_ref01_Cmp (f:=fun k=>T_ref01_Cmp k p1 p2 p3 p4) H fun k H=>?_
 obtain ⟨x5,hx5,H⟩:=bs H
 refine Kx 4 zz ?_
 refine Kc ⟨[(2,(Pt 0)),(3,(Pt 1)),(12,(B x5))],[.cells [cI p1,cI p2],.cells [cI p3,cI p4]]⟩ ?_ ?_
 · replace H:=hx5
   obtain ⟨x1,hx1,H⟩:=bs H
   rcases is H with ⟨hx3,H⟩ | ⟨hx3,H⟩
   · cases H
     exact Kz 1 (fc (o90 hx1) (ft hx3 zz))
   · obtain ⟨x4,hx4,H⟩:=bs H
     cases H
     exact Kz 1 (fc (o90 hx1) (fn hx3 (fc (o90 hx4) zz)))
 rcases is H with ⟨hx6,H⟩ | ⟨hx6,H⟩
 · cases H
   exact Kz 4 (ft hx6 zz)
 · obtain ⟨x7,hx7,H⟩:=bs H
   cases H
   exact Kz 6 (fn hx6 (fc (o111 hx7) zz))
def T_ref01_Less (k:Nat) (p1:Int) (p2:Int) (p3:Int) (p4:Int):Option Bool:=match k with
 | 0=>none
 | k+1=>((T_ref01_Cmp k p1 p2 p3 p4).bind fun x1=>some (decide (x1 < 0)))
theorem o109 {k:Nat} {p1:Int} {p2:Int} {p3:Int} {p4:Int} {r:Bool} (H:T_ref01_Less k p1 p2 p3 p4=some r):evF X k n_ref01_Less [(.agg [cI p1,cI p2]),(.agg [cI p3,cI p4])] []=some ((B r),[]):=by
 refine Fi X_ref01_Less (f:=fun k=>T_ref01_Less k p1 p2 p3 p4) H fun k H=>?_
 obtain ⟨x1,hx1,H⟩:=bs H
 cases H
 exact Kz 5 (fc (o110 hx1) zz)
def T_ref23_Sooner (k:Nat) (p1:Int) (p2:Int) (p3:Int) (p4:Int):Option Unit:=match k with
 | 0=>none
 | k+1=>some ()
theorem o112 {k:Nat} {p1:Int} {p2:Int} {p3:Int} {p4:Int} {r:Unit} (H:T_ref23_Sooner k p1 p2 p3 p4=some r):evF X k n_ref23_Sooner [(.agg [cI p1,cI p2]),(.agg [cI p3,cI p4])] []=some ((B (decide (p1 < p3) || (decide (p1=p3) && decide (p2 < p4)))),[]):=by
 refine Fi X_ref23_Sooner (f:=fun k=>T_ref23_Sooner k p1 p2 p3 p4) H fun k H=>?_
 cases H
 exact Kz 5 (fo (.m) (fo (.m) (ff (p:=decide (p1 < p3)=false→AllT [([.cells [cI p1,cI p2],.cells [cI p3,cI p4]]:Heap)=[.cells [cI p1,cI p2],.cells [cI p3,cI p4]]]) (fun _=>(A1 rfl)) (ff (rfl (a:=([.cells [cI p1,cI p2],.cells [cI p3,cI p4]]:Heap))) zz))))
def T_ref23_Before (k:Nat) (p1:Int) (p2:Int) (p3:Int) (p4:Int) (p5:Int) (p6:Int) (p7:Int) (p8:Int):Option Bool:=match k with
 | 0=>none
 | k+1=>((T_ref01_Less k p1 p2 p5 p6).bind fun x1=>(if x1=true then some true else ((((T_ref01_Less k p5 p6 p1 p2).bind fun x3=>(if (!x3)=true then ((T_ref23_Sooner k p3 p4 p7 p8).bind fun x6=>some (decide (p3 < p7) || (decide (p3=p7) && decide (p4 < p8)))) else some false))).bind fun x7=>some x7)))
theorem o108 {k:Nat} {p1:Int} {p2:Int} {p3:Int} {p4:Int} {p5:Int} {p6:Int} {p7:Int} {p8:Int} {r:Bool} (H:T_ref23_Before k p1 p2 p3 p4 p5 p6 p7 p8=some r):evF X k n_ref23_Before [(.agg [cI p1,cI p2,cI p3,cI p4]),(.agg [cI p5,cI p6,cI p7,cI p8])] []=some ((B r),[]):=by
 refine Fi X_ref23_Before (f:=fun k=>T_ref23_Before k p1 p2 p3 p4 p5 p6 p7 p8) H fun k H=>?_
 obtain ⟨x1,hx1,H⟩:=bs H
 refine Kx 5 (fc (o109 hx1) zz) ?_
 rcases is H with ⟨hx2,H⟩ | ⟨hx2,H⟩
 · cases H
   exact Kz 4 (ft hx2 zz)
 · obtain ⟨x7,hx7,H⟩:=bs H
   refine Kx 4 (fn hx2 zz) ?_
   refine Kc ⟨[(4,(B x7))],[]⟩ ?_ ?_
   · replace H:=hx7
     obtain ⟨x3,hx3,H⟩:=bs H
     rcases is H with ⟨hx5,H⟩ | ⟨hx5,H⟩
     · obtain ⟨x6,hx6,H⟩:=bs H
       cases H
       exact Kz 1 (fc (o109 hx3) (ft hx5 (fc (o112 hx6) zz)))
     · cases H
       exact Kz 1 (fc (o109 hx3) (fn hx5 zz))
   cases H
   exact Kz 1 zz
def T_ref23_Put_l1 (k:Nat) (p1:List (Int × Int × Int × Int)) (p2:Int) (p3:Int) (p4:Int) (p5:Int) (x14:Int):Option (Int ⊕ Int) :=
 (((if 0 < x14 then ((at? p1 (w64 (x14 - 1))).bind fun x18=>(T_ref23_Before k p2 p3 p4 p5 x18.1 x18.2.1 x18.2.2.1 x18.2.2.2).bind fun x19=>some x19) else some false)).bind fun x20=>(if x20=true then some (.inl (w64 (x14 - 1))) else some (.inr x14)))
theorem o107_1 {k:Nat} {p1:List (Int × Int × Int × Int)} {p2:Int} {p3:Int} {p4:Int} {p5:Int}:Rnd (T_ref23_Put_l1 k p1 p2 p3 p4 p5) (evC X (evF X k) k 0 l_ref23_Put_1) (fun s:Int=>⟨[(0,(.one (.d (.list (p1.map e_st1))))),(3,(Pt 0)),(5,(I s))],[.cells [cI p2,cI p3,cI p4,cI p5]]⟩) (fun r:Int=>(.exit 0,⟨[(0,(.one (.d (.list (p1.map e_st1))))),(3,(Pt 0)),(5,(I r))],[.cells [cI p2,cI p3,cI p4,cI p5]]⟩)):=rnd fun x14 x H=>by
 obtain ⟨x20,hx20,H⟩:=bs H
 refine Kx 2 zz ?_
 refine Kc ⟨[(0,(.one (.d (.list (p1.map e_st1))))),(3,(Pt 0)),(5,(I x14)),(19,(B x20))],[.cells [cI p2,cI p3,cI p4,cI p5]]⟩ ?_ ?_
 · replace H:=hx20
   rcases is H with ⟨hx17,H⟩ | ⟨hx17,H⟩
   · obtain ⟨x18,hx18,H⟩:=bs H
     obtain ⟨x19,hx19,H⟩:=bs H
     cases H
     exact Kz 1 (fT hx17 (fa e_st1 (.agg [(.int .i64 0),(.int .i64 0),(.int .i64 0),(.int .i64 0)]) hx18 (fc (o108 hx19) zz)))
   · cases H
     exact Kz 1 (fN hx17 zz)
 rcases is H with ⟨hx21,H⟩ | ⟨hx21,H⟩
 · cases H
   exact Kz 6 (ft hx21 zz)
 · cases H
   exact Kz 2 (fn hx21 zz)
def T_ref23_Put (k:Nat) (p1:List (Int × Int × Int × Int)) (p2:Int) (p3:Int) (p4:Int) (p5:Int):Option (Nat × (List (Int × Int × Int × Int))):=match k with
 | 0=>none
 | k+1=>(loopT (T_ref23_Put_l1 k p1 p2 p3 p4 p5) k (p1.length:Int)).bind fun x22=>(if (0:Int)≤0∧0≤x22∧x22≤(p1.length:Int)∧(p1.length:Int)≤(p1.length:Int) then (if 0+((p1.drop 0).take (x22.toNat - 0)).length≤LIM then (if (0+((p1.drop 0).take (x22.toNat - 0)).length)+1≤LIM then (if (0:Int)≤x22∧x22≤(p1.length:Int)∧(p1.length:Int)≤(p1.length:Int)∧(p1.length:Int)≤(p1.length:Int) then (if ((0+((p1.drop 0).take (x22.toNat - 0)).length)+1)+((p1.drop x22.toNat).take ((p1.length:Int).toNat - x22.toNat)).length≤LIM then some ((((0+((p1.drop 0).take (x22.toNat - 0)).length)+1)+((p1.drop x22.toNat).take ((p1.length:Int).toNat - x22.toNat)).length),((((((([]:List (Int × Int × Int × Int)).drop 0).take 0++((p1.drop 0).take (x22.toNat - 0))).drop 0).take (0+((p1.drop 0).take (x22.toNat - 0)).length)++([(p2,p3,p4,p5)]:List (Int × Int × Int × Int))).drop 0).take ((0+((p1.drop 0).take (x22.toNat - 0)).length)+1)++((p1.drop x22.toNat).take ((p1.length:Int).toNat - x22.toNat)))) else none) else none) else none) else none) else none)
theorem o107 {k:Nat} {p1:List (Int × Int × Int × Int)} {p2:Int} {p3:Int} {p4:Int} {p5:Int} {r:Nat × (List (Int × Int × Int × Int))} (H:T_ref23_Put k p1 p2 p3 p4 p5=some r):evF X k n_ref23_Put [(.one (.d (.list (p1.map e_st1)))),(.agg [cI p2,cI p3,cI p4,cI p5])] []=some ((.one (.own 0 0 r.1)),[.vals (.agg [(.int .i64 0),(.int .i64 0),(.int .i64 0),(.int .i64 0)]) (r.2.map e_st1)]):=by
 refine Fi X_ref23_Put (f:=fun k=>T_ref23_Put k p1 p2 p3 p4 p5) H fun k H=>?_
 obtain ⟨x22,hx22,H⟩:=bs H
 refine Kx 6 (fl e_st1 p1 zz) ?_
 refine Kl (o107_1.go hx22) ?_
 obtain ⟨hx23,H⟩:=gs H
 obtain ⟨hx24,H⟩:=gs H
 obtain ⟨hx25,H⟩:=gs H
 obtain ⟨hx26,H⟩:=gs H
 obtain ⟨hx27,H⟩:=gs H
 cases H
 exact Kz 7 (fh e_st1 4 hx23 (fP e_st1 4 ([]:List (Int × Int × Int × Int)) 0 0 ((p1.drop 0).take (x22.toNat - 0)) (((p1.drop 0).take (x22.toNat - 0)).length) hx24 (fP e_st1 4 ((([]:List (Int × Int × Int × Int)).drop 0).take 0++((p1.drop 0).take (x22.toNat - 0))) 0 (0+((p1.drop 0).take (x22.toNat - 0)).length) ([(p2,p3,p4,p5)]:List (Int × Int × Int × Int)) 1 hx25 (fe e_st1 4 hx26 (fP e_st1 4 ((((([]:List (Int × Int × Int × Int)).drop 0).take 0++((p1.drop 0).take (x22.toNat - 0))).drop 0).take (0+((p1.drop 0).take (x22.toNat - 0)).length)++([(p2,p3,p4,p5)]:List (Int × Int × Int × Int))) 0 ((0+((p1.drop 0).take (x22.toNat - 0)).length)+1) ((p1.drop x22.toNat).take ((p1.length:Int).toNat - x22.toNat)) (((p1.drop x22.toNat).take ((p1.length:Int).toNat - x22.toNat)).length) hx27 zz)))))
def T_ref23_Hits_l1 (k:Nat) (p1:List (List Int)) (p2:Int) (p3:Int) (p4:Int) (p5:List Int) (x11:List (Int × Int)) (x21:Nat × Int × (List (Int × Int × Int × Int))):Option ((Nat × Int × (List (Int × Int × Int × Int))) ⊕ ((Nat × (List (Int × Int × Int × Int))))) :=
 (if x21.2.1 < (x11.length:Int) then (at? x11 x21.2.1).bind fun x23=>(at? p1 x23.1).bind fun x24=>(if (0:Int)≤x23.2∧x23.2≤(w64 (x23.2+(p5.length:Int)))∧(w64 (x23.2+(p5.length:Int)))≤(x24.length:Int)∧(x24.length:Int)≤(x24.length:Int) then (T_ref17_Distance k p2 p3 p4 p5 ((x24.drop x23.2.toNat).take ((w64 (x23.2+(p5.length:Int))).toNat - x23.2.toNat))).bind fun x26=>(T_ref23_Put k ((x21.2.2.drop 0).take x21.1) x26.1 x26.2.1 x23.1 x23.2).bind fun x27=>some (.inl (x27.1,(w64 (x21.2.1+1)),x27.2)) else none) else some (.inr (x21.1,x21.2.2)))
theorem o79_1 {k:Nat} {p1:List (List Int)} {p2:Int} {p3:Int} {p4:Int} {p5:List Int} {x11:List (Int × Int)}:Rnd (T_ref23_Hits_l1 k p1 p2 p3 p4 p5 x11) (evC X (evF X k) k 0 l_ref23_Hits_1) (fun s:Nat × Int × (List (Int × Int × Int × Int))=>⟨[(2,(LI p5)),(3,(.one (.d (.ref [.list (p1.map (el (D.int .i64)))])))),(4,(.one (.d (.ref [.int .i64 p2,.int .i64 p3,.int .i64 p4])))),(10,(.one (.d (.list (x11.map e_st0))))),(12,(.one (.own 0 0 s.1))),(13,(I s.2.1))],[.vals (.agg [(.int .i64 0),(.int .i64 0),(.int .i64 0),(.int .i64 0)]) (s.2.2.map e_st1)]⟩) (fun r:(Nat × (List (Int × Int × Int × Int)))=>(.exit 0,⟨[(12,(.one (.own 0 0 r.1)))],[.vals (.agg [(.int .i64 0),(.int .i64 0),(.int .i64 0),(.int .i64 0)]) (r.2.map e_st1)]⟩)):=rnd fun x21 x H=>by
 refine Kx 3 (fl e_st0 x11 zz) ?_
 rcases is H with ⟨hx22,H⟩ | ⟨hx22,H⟩
 · obtain ⟨x23,hx23,H⟩:=bs H
   obtain ⟨x24,hx24,H⟩:=bs H
   obtain ⟨hx25,H⟩:=gs H
   obtain ⟨x26,hx26,H⟩:=bs H
   obtain ⟨x27,hx27,H⟩:=bs H
   cases H
   exact Kz 13 (fT hx22 (fa e_st0 (.agg [(.int .i64 0),(.int .i64 0)]) hx23 (fa (el (D.int .i64)) (.list []) hx24 (fl (D.int .i64) p5 (fh (D.int .i64) 1 hx25 (fc (o83 hx26) (fd e_st1 x21.2.2 0 x21.1 (fc (o107 hx27) (ff (nm_all e_st1 x27.2 (fun _=>rfl)) zz)))))))))
 · cases H
   exact Kz 2 (fN hx22 zz)
def T_ref23_Hits (k:Nat) (p1:List (List Int)) (p2:Int) (p3:Int) (p4:Int) (p5:List Int):Option (Nat × Int × (List (Int × Int × Int × Int))):=match k with
 | 0=>none
 | k+1=>((T_ref23_Check k p1).bind fun x1=>(if (!decide (x1=0))=true then some (0,x1,[]) else ((T_ref23_Query k p2 p3 p4 p5).bind fun x3=>(if (!decide (x3=0))=true then some (0,x3,[]) else ((T_ref23_Places k p1 (p5.length:Int)).bind fun x5=>(loopT (T_ref23_Hits_l1 k p1 p2 p3 p4 p5 x5.1) k (0,0,[])).bind fun x28=>some (x28.1,0,x28.2))))))
theorem o79 {k:Nat} {p1:List (List Int)} {p2:Int} {p3:Int} {p4:Int} {p5:List Int} {r:Nat × Int × (List (Int × Int × Int × Int))} (H:T_ref23_Hits k p1 p2 p3 p4 p5=some r):evF X k n_ref23_Hits [(.agg [.d (.list (p1.map (el (D.int .i64))))]),(.agg [cI p2,cI p3,cI p4]),(LI p5)] []=some ((.tup [(false,[.own 0 0 r.1]),(false,[cI r.2.1])]),[.vals (.agg [(.int .i64 0),(.int .i64 0),(.int .i64 0),(.int .i64 0)]) (r.2.2.map e_st1)]):=by
 refine Fi X_ref23_Hits (f:=fun k=>T_ref23_Hits k p1 p2 p3 p4 p5) H fun k H=>?_
 obtain ⟨x1,hx1,H⟩:=bs H
 refine Kx 8 (fc (o74 hx1) zz) ?_
 rcases is H with ⟨hx2,H⟩ | ⟨hx2,H⟩
 · cases H
   exact Kz 4 (ft hx2 zz)
 · obtain ⟨x3,hx3,H⟩:=bs H
   refine Kx 8 (fn hx2 (fc (o80 hx3) zz)) ?_
   rcases is H with ⟨hx4,H⟩ | ⟨hx4,H⟩
   · cases H
     exact Kz 4 (ft hx4 zz)
   · obtain ⟨x5,hx5,H⟩:=bs H
     obtain ⟨x28,hx28,H⟩:=bs H
     refine Kx 12 (fn hx4 (fl (D.int .i64) p5 (fc (o73 hx5) zz))) ?_
     refine Kl (o79_1.go hx28) ?_
     cases H
     exact Kz 3 zz
def T_shapesearchsecond_Deck_Limit (k:Nat) (p1:List (List Int)) (p2:Int) (p3:Int) (p4:Int) (p5:Nat) (p6:List Int) (p7:Int) (p8:List Int):Option (Int × Int × Int):=match k with
 | 0=>none
 | k+1=>((T_ref23_Hits k p1 p2 p3 p4 ((p8.drop 0).take p5)).bind fun x1=>((if 0 < ((x1.1:Nat):Int) then ((T_shapesearchsecond_Deck_Next k 2 p6 p7).bind fun x4=>some (decide (x4.1=1),x4.2)) else some (false,p7))).bind fun x5=>(if x5.1=true then (T_shapesearchsecond_Deck_Next k ((x1.1:Nat):Int) p6 x5.2).bind fun x7=>(if (0:Int)≤x7.1∧x7.1 < ((x1.1:Nat):Int) then (x1.2.2[(0+x7.1.toNat)]?).bind fun x9=>some (x9.1,x9.2.1,x7.2) else none) else ((T_shapesearchsecond_Deck_Next k 60 p6 x5.2).bind fun x10=>(T_shapesearchsecond_Deck_Next k 5 p6 x10.2).bind fun x11=>(T_ref01_Make k x10.1 (w64 (1+x11.1))).bind fun x12=>some (x12.1,x12.2.1,x11.2))))
theorem o78 {k:Nat} {p1:List (List Int)} {p2:Int} {p3:Int} {p4:Int} {p5:Nat} {p6:List Int} {p7:Int} {p8:List Int} {r:Int × Int × Int} (H:T_shapesearchsecond_Deck_Limit k p1 p2 p3 p4 p5 p6 p7 p8=some r):evF X k n_shapesearchsecond_Deck_Limit [(Pt 0),(.agg [.d (.list (p1.map (el (D.int .i64))))]),(.agg [cI p2,cI p3,cI p4]),(.one (.own 1 0 p5))] [.cells [cL p6,cI p7],VI p8]=some ((.agg [cI r.1,cI r.2.1]),[.cells [cL p6,cI r.2.2],VI p8]):=by
 refine Fi X_shapesearchsecond_Deck_Limit (f:=fun k=>T_shapesearchsecond_Deck_Limit k p1 p2 p3 p4 p5 p6 p7 p8) H fun k H=>?_
 obtain ⟨x1,hx1,H⟩:=bs H
 obtain ⟨x5,hx5,H⟩:=bs H
 refine Kx 6 (fd (D.int .i64) p8 0 p5 (fc (o79 hx1) (ff (nm_all e_st1 x1.2.2 (fun _=>rfl)) zz))) ?_
 refine Kc ⟨[(0,(Pt 0)),(8,(Pt 2)),(9,(.one (.own 3 0 x1.1))),(27,(B x5.1))],[.cells [cL p6,cI x5.2],VI p8,.cells [cI 0,cI 0],.vals (.agg [(.int .i64 0),(.int .i64 0),(.int .i64 0),(.int .i64 0)]) (x1.2.2.map e_st1)]⟩ ?_ ?_
 · replace H:=hx5
   rcases is H with ⟨hx3,H⟩ | ⟨hx3,H⟩
   · obtain ⟨x4,hx4,H⟩:=bs H
     cases H
     exact Kz 1 (fT hx3 (fc (o66 hx4) zz))
   · cases H
     exact Kz 1 (fN hx3 zz)
 rcases is H with ⟨hx6,H⟩ | ⟨hx6,H⟩
 · obtain ⟨x7,hx7,H⟩:=bs H
   obtain ⟨hx8,H⟩:=gs H
   obtain ⟨x9,hx9,H⟩:=bs H
   cases H
   exact Kz 4 (ft hx6 (fc (o66 hx7) (ff hx8 (fg e_st1 (.agg [(.int .i64 0),(.int .i64 0),(.int .i64 0),(.int .i64 0)]) hx9 zz))))
 · obtain ⟨x10,hx10,H⟩:=bs H
   obtain ⟨x11,hx11,H⟩:=bs H
   obtain ⟨x12,hx12,H⟩:=bs H
   cases H
   exact Kz 8 (fn hx6 (fc (o66 hx10) (fc (o66 hx11) (fc (o88 hx12) zz))))
def T_ref23_Nearest (k:Nat) (p1:List (List Int)) (p2:Int) (p3:Int) (p4:Int) (p5:List Int) (p6:Int):Option ((List (Int × Int × Int × Int)) × Int):=match k with
 | 0=>none
 | k+1=>((T_ref23_Hits k p1 p2 p3 p4 p5).bind fun x1=>(if (!decide (x1.2.1=0))=true then some ([],x1.2.1) else (if (decide (p6 < 1) || decide (64 < p6))=true then some ([],24) else (if (0:Int)≤0∧0≤(imin p6 ((x1.1:Nat):Int))∧(imin p6 ((x1.1:Nat):Int))≤((x1.1:Nat):Int)∧((x1.1:Nat):Int)≤((x1.1:Nat):Int) then some (((x1.2.2.drop (0+0)).take ((imin p6 ((x1.1:Nat):Int)).toNat - 0)),0) else none))))
theorem o113 {k:Nat} {p1:List (List Int)} {p2:Int} {p3:Int} {p4:Int} {p5:List Int} {p6:Int} {r:(List (Int × Int × Int × Int)) × Int} (H:T_ref23_Nearest k p1 p2 p3 p4 p5 p6=some r):evF X k n_ref23_Nearest [(.agg [.d (.list (p1.map (el (D.int .i64))))]),(.agg [cI p2,cI p3,cI p4]),(LI p5),(I p6)] []=some ((.tup [(false,[.d (.list (r.1.map e_st1))]),(false,[cI r.2])]),[]):=by
 refine Fi X_ref23_Nearest (f:=fun k=>T_ref23_Nearest k p1 p2 p3 p4 p5 p6) H fun k H=>?_
 obtain ⟨x1,hx1,H⟩:=bs H
 refine Kx 7 (fc (o79 hx1) (ff (nm_all e_st1 x1.2.2 (fun _=>rfl)) zz)) ?_
 rcases is H with ⟨hx2,H⟩ | ⟨hx2,H⟩
 · cases H
   exact Kz 4 (ft hx2 zz)
 · refine Kx 6 (fn hx2 (fo (.m) (ff (rfl (a:=([.vals (.agg [(.int .i64 0),(.int .i64 0),(.int .i64 0),(.int .i64 0)]) (x1.2.2.map e_st1)]:Heap))) zz))) ?_
   rcases is H with ⟨hx3,H⟩ | ⟨hx3,H⟩
   · cases H
     exact Kz 4 (ft hx3 zz)
   · obtain ⟨hx4,H⟩:=gs H
     cases H
     exact Kw 6 (some ((.tup [(false,[.d (.list (((x1.2.2.map e_st1).drop (0+0)).take ((imin p6 ((x1.1:Nat):Int)).toNat - 0)))]),(false,[cI 0])]),[])) (fn hx3 (ff hx4 zz)) (by simp only [dt_map,rl_map,LI,VI])
def T_store_Within_l1 (k:Nat) (x5:List (Int × Int × Int × Int)) (p6:Int) (p7:Int) (x16:Int):Option (Int ⊕ Int) :=
 (((if x16 < (x5.length:Int) then ((at? x5 x16).bind fun x20=>(T_ratio_Less k p6 p7 x20.1 x20.2.1).bind fun x21=>some (!x21)) else some false)).bind fun x22=>(if x22=true then some (.inl (w64 (x16+1))) else some (.inr x16)))
theorem o114_1 {k:Nat} {x5:List (Int × Int × Int × Int)} {p6:Int} {p7:Int}:Rnd (T_store_Within_l1 k x5 p6 p7) (evC X (evF X k) k 0 l_store_Within_1) (fun s:Int=>⟨[(7,(Pt 0)),(10,(.one (.d (.list (x5.map e_st1))))),(12,(I s))],[.cells [cI p6,cI p7]]⟩) (fun r:Int=>(.exit 0,⟨[(10,(.one (.d (.list (x5.map e_st1))))),(12,(I r))],[]⟩)):=rnd fun x16 x H=>by
 obtain ⟨x22,hx22,H⟩:=bs H
 refine Kx 2 zz ?_
 refine Kc ⟨[(7,(Pt 0)),(10,(.one (.d (.list (x5.map e_st1))))),(12,(I x16)),(39,(B x22))],[.cells [cI p6,cI p7]]⟩ ?_ ?_
 · replace H:=hx22
   rcases is H with ⟨hx19,H⟩ | ⟨hx19,H⟩
   · obtain ⟨x20,hx20,H⟩:=bs H
     obtain ⟨x21,hx21,H⟩:=bs H
     cases H
     exact Kz 1 (fl e_st1 x5 (fT hx19 (fa e_st1 (.agg [(.int .i64 0),(.int .i64 0),(.int .i64 0),(.int .i64 0)]) hx20 (fc (o55 hx21) zz))))
   · cases H
     exact Kz 1 (fl e_st1 x5 (fN hx19 zz))
 rcases is H with ⟨hx23,H⟩ | ⟨hx23,H⟩
 · cases H
   exact Kz 6 (ft hx23 zz)
 · cases H
   exact Kz 2 (fn hx23 zz)
def T_store_Within (k:Nat) (p1:List (List Int)) (p2:Int) (p3:Int) (p4:Int) (p5:List Int) (p6:Int) (p7:Int):Option ((List (Int × Int × Int × Int)) × Int):=match k with
 | 0=>none
 | k+1=>((T_store_Hits k p1 p2 p3 p4 p5).bind fun x1=>(if (!decide (x1.2=0))=true then some ([],x1.2) else ((T_ratio_Valid k p6 p7).bind fun x3=>(if (!x3)=true then some ([],1) else (loopT (T_store_Within_l1 k x1.1 p6 p7) k 0).bind fun x24=>(if (0:Int)≤0∧0≤x24∧x24≤(x1.1.length:Int)∧(x1.1.length:Int)≤(x1.1.length:Int) then some (((x1.1.drop 0).take (x24.toNat - 0)),0) else none)))))
theorem o114 {k:Nat} {p1:List (List Int)} {p2:Int} {p3:Int} {p4:Int} {p5:List Int} {p6:Int} {p7:Int} {r:(List (Int × Int × Int × Int)) × Int} (H:T_store_Within k p1 p2 p3 p4 p5 p6 p7=some r):evF X k n_store_Within [(.agg [.d (.list (p1.map (el (D.int .i64))))]),(.agg [cI p2,cI p3,cI p4]),(LI p5),(.agg [cI p6,cI p7])] []=some ((.tup [(false,[.d (.list (r.1.map e_st1))]),(false,[cI r.2])]),[]):=by
 refine Fi X_store_Within (f:=fun k=>T_store_Within k p1 p2 p3 p4 p5 p6 p7) H fun k H=>?_
 obtain ⟨x1,hx1,H⟩:=bs H
 refine Kx 7 (fc (o14 hx1) zz) ?_
 rcases is H with ⟨hx2,H⟩ | ⟨hx2,H⟩
 · cases H
   exact Kz 4 (ft hx2 zz)
 · obtain ⟨x3,hx3,H⟩:=bs H
   refine Kx 6 (fn hx2 (fc (o57 hx3) zz)) ?_
   rcases is H with ⟨hx4,H⟩ | ⟨hx4,H⟩
   · cases H
     exact Kz 4 (ft hx4 zz)
   · obtain ⟨x24,hx24,H⟩:=bs H
     refine Kx 7 (fn hx4 zz) ?_
     refine Kl (o114_1.go hx24) ?_
     obtain ⟨hx25,H⟩:=gs H
     cases H
     exact Kz 3 (fh e_st1 4 hx25 zz)
def T_ref23_Within_l1 (k:Nat) (x5:Nat) (p6:Int) (p7:Int) (x10:List (Int × Int × Int × Int)) (x21:Nat × Int × (List (Int × Int × Int × Int))):Option ((Nat × Int × (List (Int × Int × Int × Int))) ⊕ ((Nat × (List (Int × Int × Int × Int))))) :=
 (if x21.2.1 < ((x5:Nat):Int) then (if (0:Int)≤x21.2.1∧x21.2.1 < ((x5:Nat):Int) then (x10[(0+x21.2.1.toNat)]?).bind fun x24=>(T_ref01_Less k p6 p7 x24.1 x24.2.1).bind fun x25=>((if (!x25)=true then (if (0:Int)≤x21.2.1∧x21.2.1 < ((x5:Nat):Int) then (x10[(0+x21.2.1.toNat)]?).bind fun x28=>(if x21.1+1≤LIM then some ((x21.1+1),((x21.2.2.drop 0).take x21.1++([(x28.1,x28.2.1,x28.2.2.1,x28.2.2.2)]:List (Int × Int × Int × Int)))) else none) else none) else some (x21.1,x21.2.2))).bind fun x30=>some (.inl (x30.1,(w64 (x21.2.1+1)),x30.2)) else none) else some (.inr (x21.1,x21.2.2)))
theorem o115_1 {k:Nat} {x5:Nat} {p6:Int} {p7:Int} {x10:List (Int × Int × Int × Int)}:Rnd (T_ref23_Within_l1 k x5 p6 p7 x10) (evC X (evF X k) k 0 l_ref23_Within_1) (fun s:Nat × Int × (List (Int × Int × Int × Int))=>⟨[(7,(Pt 0)),(10,(.one (.own 1 0 x5))),(12,(.one (.own 2 0 s.1))),(13,(I s.2.1))],[.cells [cI p6,cI p7],.vals (.agg [(.int .i64 0),(.int .i64 0),(.int .i64 0),(.int .i64 0)]) (x10.map e_st1),.vals (.agg [(.int .i64 0),(.int .i64 0),(.int .i64 0),(.int .i64 0)]) (s.2.2.map e_st1)]⟩) (fun r:(Nat × (List (Int × Int × Int × Int)))=>(.exit 0,⟨[(12,(.one (.own 0 0 r.1)))],[.vals (.agg [(.int .i64 0),(.int .i64 0),(.int .i64 0),(.int .i64 0)]) (r.2.map e_st1)]⟩)):=rnd fun x21 x H=>by
 rcases is H with ⟨hx22,H⟩ | ⟨hx22,H⟩
 · obtain ⟨hx23,H⟩:=gs H
   obtain ⟨x24,hx24,H⟩:=bs H
   obtain ⟨x25,hx25,H⟩:=bs H
   obtain ⟨x30,hx30,H⟩:=bs H
   refine Kx 10 (fT hx22 (ff hx23 (fg e_st1 (.agg [(.int .i64 0),(.int .i64 0),(.int .i64 0),(.int .i64 0)]) hx24 (fc (o109 hx25) zz)))) ?_
   refine Kc ⟨[(7,(Pt 0)),(10,(.one (.own 1 0 x5))),(12,(.one (.own 2 0 x30.1))),(13,(I x21.2.1))],[.cells [cI p6,cI p7],.vals (.agg [(.int .i64 0),(.int .i64 0),(.int .i64 0),(.int .i64 0)]) (x10.map e_st1),.vals (.agg [(.int .i64 0),(.int .i64 0),(.int .i64 0),(.int .i64 0)]) (x30.2.map e_st1)]⟩ ?_ ?_
   · replace H:=hx30
     rcases is H with ⟨hx26,H⟩ | ⟨hx26,H⟩
     · obtain ⟨hx27,H⟩:=gs H
       obtain ⟨x28,hx28,H⟩:=bs H
       obtain ⟨hx29,H⟩:=gs H
       cases H
       exact Kz 2 (ft hx26 (ff hx27 (fg e_st1 (.agg [(.int .i64 0),(.int .i64 0),(.int .i64 0),(.int .i64 0)]) hx28 (fP e_st1 4 x21.2.2 0 x21.1 ([(x28.1,x28.2.1,x28.2.2.1,x28.2.2.2)]:List (Int × Int × Int × Int)) 1 hx29 zz))))
     · cases H
       exact Kz 3 (fn hx26 zz)
   cases H
   exact Kz 2 zz
 · cases H
   exact Kz 5 (fN hx22 zz)
def T_ref23_Within (k:Nat) (p1:List (List Int)) (p2:Int) (p3:Int) (p4:Int) (p5:List Int) (p6:Int) (p7:Int):Option ((List (Int × Int × Int × Int)) × Int):=match k with
 | 0=>none
 | k+1=>((T_ref23_Hits k p1 p2 p3 p4 p5).bind fun x1=>(if (!decide (x1.2.1=0))=true then some ([],x1.2.1) else ((T_ref01_Valid k p6 p7).bind fun x3=>(if (!x3)=true then some ([],1) else ((loopT (T_ref23_Within_l1 k x1.1 p6 p7 x1.2.2) k (0,0,[])).bind fun x31=>some (((x31.2.drop 0).take x31.1),0))))))
theorem o115 {k:Nat} {p1:List (List Int)} {p2:Int} {p3:Int} {p4:Int} {p5:List Int} {p6:Int} {p7:Int} {r:(List (Int × Int × Int × Int)) × Int} (H:T_ref23_Within k p1 p2 p3 p4 p5 p6 p7=some r):evF X k n_ref23_Within [(.agg [.d (.list (p1.map (el (D.int .i64))))]),(.agg [cI p2,cI p3,cI p4]),(LI p5),(.agg [cI p6,cI p7])] []=some ((.tup [(false,[.d (.list (r.1.map e_st1))]),(false,[cI r.2])]),[]):=by
 refine Fi X_ref23_Within (f:=fun k=>T_ref23_Within k p1 p2 p3 p4 p5 p6 p7) H fun k H=>?_
 obtain ⟨x1,hx1,H⟩:=bs H
 refine Kx 7 (fc (o79 hx1) (ff (nm_all e_st1 x1.2.2 (fun _=>rfl)) zz)) ?_
 rcases is H with ⟨hx2,H⟩ | ⟨hx2,H⟩
 · cases H
   exact Kz 4 (ft hx2 zz)
 · obtain ⟨x3,hx3,H⟩:=bs H
   refine Kx 6 (fn hx2 (fc (o90 hx3) zz)) ?_
   rcases is H with ⟨hx4,H⟩ | ⟨hx4,H⟩
   · cases H
     exact Kz 4 (ft hx4 zz)
   · obtain ⟨x31,hx31,H⟩:=bs H
     refine Kx 10 (fn hx4 zz) ?_
     refine Kl (o115_1.go hx31) ?_
     cases H
     exact Kw 3 (some ((.tup [(false,[.d (.list (((x31.2.map e_st1).drop 0).take x31.1))]),(false,[cI 0])]),[])) zz (by simp only [dt_map,rl_map,LI,VI])
def T_ref23_Same_l1 (k:Nat) (p1:List (Int × Int × Int × Int)) (p2:List (Int × Int × Int × Int)) (x9:Int):Option (Int ⊕ (Unit ⊕ Unit)) :=
 (if x9 < (p1.length:Int) then ((at? p1 x9).bind fun x11=>(at? p2 x9).bind fun x12=>(if (!(decide (x11.1=x12.1) && (decide (x11.2.1=x12.2.1) && (decide (x11.2.2.1=x12.2.2.1) && (decide (x11.2.2.2=x12.2.2.2) && true)))))=true then some (.inr (.inr ())) else some (.inl (w64 (x9+1))))) else some (.inr (.inl ())))
theorem o116_1 {k:Nat} {p1:List (Int × Int × Int × Int)} {p2:List (Int × Int × Int × Int)}:Rnd (T_ref23_Same_l1 k p1 p2) (evC X (evF X k) k 0 l_ref23_Same_1) (fun s:Int=>⟨[(0,(.one (.d (.list (p1.map e_st1))))),(1,(.one (.d (.list (p2.map e_st1))))),(5,(I s))],[]⟩) (fun r:Unit ⊕ Unit=>Sum.elim (fun y=>(.exit 0,⟨[],[]⟩)) (fun y=>(.ret,⟨[(4,(B false))],[]⟩)) r):=rnd fun x9 x H=>by
 refine Kx 3 (fl e_st1 p1 zz) ?_
 rcases is H with ⟨hx10,H⟩ | ⟨hx10,H⟩
 · obtain ⟨x11,hx11,H⟩:=bs H
   obtain ⟨x12,hx12,H⟩:=bs H
   refine Kx 7 (fT hx10 (fa e_st1 (.agg [(.int .i64 0),(.int .i64 0),(.int .i64 0),(.int .i64 0)]) hx11 (fa e_st1 (.agg [(.int .i64 0),(.int .i64 0),(.int .i64 0),(.int .i64 0)]) hx12 zz))) ?_
   rcases is H with ⟨hx13,H⟩ | ⟨hx13,H⟩
   · cases H
     exact Kz 4 (ft hx13 zz)
   · cases H
     exact Kz 5 (fn hx13 zz)
 · cases H
   exact Kz 2 (fN hx10 zz)
def T_ref23_Same (k:Nat) (p1:List (Int × Int × Int × Int)) (p2:List (Int × Int × Int × Int)):Option Bool:=match k with
 | 0=>none
 | k+1=>(if (!decide ((p1.length:Int)=(p2.length:Int)))=true then some false else ((loopT (T_ref23_Same_l1 k p1 p2) k 0).bind fun x14=>(match x14 with | .inl x15=>some true | .inr x16=>some false)))
theorem o116 {k:Nat} {p1:List (Int × Int × Int × Int)} {p2:List (Int × Int × Int × Int)} {r:Bool} (H:T_ref23_Same k p1 p2=some r):evF X k n_ref23_Same [(.one (.d (.list (p1.map e_st1)))),(.one (.d (.list (p2.map e_st1))))] []=some ((B r),[]):=by
 refine Fi X_ref23_Same (f:=fun k=>T_ref23_Same k p1 p2) H fun k H=>?_
 refine Kx 5 (fl e_st1 p1 (fl e_st1 p2 zz)) ?_
 rcases is H with ⟨hx1,H⟩ | ⟨hx1,H⟩
 · cases H
   exact Kz 4 (ft hx1 zz)
 · obtain ⟨x14,hx14,H⟩:=bs H
   refine Kx 7 (fn hx1 zz) ?_
   cases x14 with
   | inl x15 =>
    refine Kl (o116_1.go hx14) ?_
    cases H
    exact Kz 3 zz
   | inr x16 =>
    cases H
    exact Klr (o116_1.go hx14)
def T_law23_StoreAnswers (k:Nat) (p1:List Int) (p2:Int) (p3:Int):Option Bool:=match k with
 | 0=>none
 | k+1=>((T_shapesearchsecond_Few k p1).bind fun x1=>(if (!decide ((p1.length:Int)≤400))=true then ((T_law23_awake k).bind fun x3=>some x3) else ((T_shapesearchsecond_New k p1).bind fun x4=>(T_shapesearchsecond_Deck_Store k 20 p1 0).bind fun x5=>(T_shapesearchsecond_Deck_Measure k 0 p1 x5.2).bind fun x6=>(T_shapesearchsecond_Deck_Length k p1 x6.2.2.2).bind fun x7=>(T_shapesearchsecond_Deck_Query k x5.1 x7.1 p1 x7.2).bind fun x8=>(T_shapesearchsecond_Deck_Limit k x5.1 x6.1 x6.2.1 x6.2.2.1 x8.1 p1 x8.2.1 x8.2.2).bind fun x9=>(T_shapesearchsecond_Deck_Next k 8 p1 x9.2.2).bind fun x10=>(T_shapesearchsecond_Mod k p2 10).bind fun x11=>((if ((w64 ((p2.tmod 10)+10)).tmod 10)=0 then ((T_shapesearchsecond_Mod k p3 67).bind fun x13=>some (0,x8.1,(w64 (((w64 ((p3.tmod 67)+67)).tmod 67) - 1)),x6.2.1,x8.2.2,x9.1)) else (if ((w64 ((p2.tmod 10)+10)).tmod 10)=1 then some (0,x8.1,(w64 (1+x10.1)),x6.2.1,x8.2.2,p3) else (if ((w64 ((p2.tmod 10)+10)).tmod 10)=2 then some (0,x8.1,(w64 (1+x10.1)),p3,x8.2.2,x9.1) else (if ((w64 ((p2.tmod 10)+10)).tmod 10)=3 then (if (0:Int)≤0∧0 < ((x8.1:Nat):Int) then some (0,x8.1,(w64 (1+x10.1)),x6.2.1,(x8.2.2.set (0+0) p3),x9.1) else none) else (if ((w64 ((p2.tmod 10)+10)).tmod 10)=4 then (if (0:Int)≤0∧0≤(1:Int)∧(1:Int)≤((x8.1:Nat):Int)∧((x8.1:Nat):Int)≤((x8.1:Nat):Int) then some ((0+0),(1 - 0),(w64 (1+x10.1)),x6.2.1,x8.2.2,x9.1) else none) else some (0,x8.1,(w64 (1+x10.1)),x6.2.1,x8.2.2,x9.1))))))).bind fun x20=>(T_store_Hits k x5.1 x6.1 x20.2.2.2.1 x6.2.2.1 ((x20.2.2.2.2.1.drop x20.1).take x20.2.1)).bind fun x21=>(T_ref23_Hits k x5.1 x6.1 x20.2.2.2.1 x6.2.2.1 ((x20.2.2.2.2.1.drop x20.1).take x20.2.1)).bind fun x22=>(T_store_Nearest k x5.1 x6.1 x20.2.2.2.1 x6.2.2.1 ((x20.2.2.2.2.1.drop x20.1).take x20.2.1) x20.2.2.1).bind fun x23=>(T_ref23_Nearest k x5.1 x6.1 x20.2.2.2.1 x6.2.2.1 ((x20.2.2.2.2.1.drop x20.1).take x20.2.1) x20.2.2.1).bind fun x24=>(T_store_Within k x5.1 x6.1 x20.2.2.2.1 x6.2.2.1 ((x20.2.2.2.2.1.drop x20.1).take x20.2.1) x20.2.2.2.2.2 x9.2.1).bind fun x25=>(T_ref23_Within k x5.1 x6.1 x20.2.2.2.1 x6.2.2.1 ((x20.2.2.2.2.1.drop x20.1).take x20.2.1) x20.2.2.2.2.2 x9.2.1).bind fun x26=>((if ((decide (x21.2=x22.2.1) && decide (x23.2=x24.2)) && decide (x25.2=x26.2))=true then ((T_ref23_Same k x21.1 ((x22.2.2.drop 0).take x22.1)).bind fun x29=>(if x29=true then ((T_ref23_Same k x23.1 x24.1).bind fun x32=>(if x32=true then ((T_ref23_Same k x25.1 x26.1).bind fun x35=>(if x35=true then ((T_law23_awake k).bind fun x38=>some x38) else some false)) else some false)) else some false)) else some false)).bind fun x39=>some x39)))
theorem o1 {k:Nat} {p1:List Int} {p2:Int} {p3:Int} {r:Bool} (H:T_law23_StoreAnswers k p1 p2 p3=some r):evF X k n_law23_StoreAnswers [(LI p1),(I p2),(I p3)] []=some ((B r),[]):=by
 refine Fi X_law23_StoreAnswers (f:=fun k=>T_law23_StoreAnswers k p1 p2 p3) H fun k H=>?_
 obtain ⟨x1,hx1,H⟩:=bs H
 refine Kx 5 (fc (o2 hx1) zz) ?_
 rcases is H with ⟨hx2,H⟩ | ⟨hx2,H⟩
 · obtain ⟨x3,hx3,H⟩:=bs H
   cases H
   exact Kz 4 (ft hx2 (fc (o3 hx3) zz))
 · obtain ⟨x4,hx4,H⟩:=bs H
   obtain ⟨x5,hx5,H⟩:=bs H
   obtain ⟨x6,hx6,H⟩:=bs H
   obtain ⟨x7,hx7,H⟩:=bs H
   obtain ⟨x8,hx8,H⟩:=bs H
   refine Kx 10 (fn hx2 (fc (o64 hx4) (fc (o65 hx5) (fc (o70 hx6) zz)))) ?_
   refine KI [0,1,0,1] [0,1,0,1,2] (fc (o71 hx7) (fc (o72 hx8) (ff (rfl (a:=(⟨[(1,(I p2)),(2,(I p3)),(7,(Pt 0)),(8,(Pt 1)),(9,(Pt 2)),(10,(.one (.own 3 0 x8.1)))],[.cells [cL p1,cI x8.2.1],.cells [.d (.list (x5.1.map (el (D.int .i64))))],.cells [cI x6.1,cI x6.2.1,cI x6.2.2.1],VI x8.2.2]⟩:St))) zz))) ?_
   obtain ⟨x9,hx9,H⟩:=bs H
   obtain ⟨x10,hx10,H⟩:=bs H
   obtain ⟨x11,hx11,H⟩:=bs H
   obtain ⟨x20,hx20,H⟩:=bs H
   refine Kx 8 (fc (o78 hx9) (fc (o66 hx10) (fc (o67 hx11) zz))) ?_
   refine Kc ⟨[(8,(Pt 0)),(9,(Pt 1)),(10,(.one (.own 2 x20.1 x20.2.1))),(11,(Pt 3)),(12,(I x20.2.2.1))],[.cells [.d (.list (x5.1.map (el (D.int .i64))))],.cells [cI x6.1,cI x20.2.2.2.1,cI x6.2.2.1],VI x20.2.2.2.2.1,.cells [cI x20.2.2.2.2.2,cI x9.2.1]]⟩ ?_ ?_
   · replace H:=hx20
     rcases is H with ⟨hx12,H⟩ | ⟨hx12,H⟩
     · obtain ⟨x13,hx13,H⟩:=bs H
       cases H
       exact Kz 2 (fT hx12 (fc (o67 hx13) zz))
     · refine Kx 3 (fN hx12 zz) ?_
       rcases is H with ⟨hx14,H⟩ | ⟨hx14,H⟩
       · cases H
         exact Kz 2 (fT hx14 zz)
       · refine Kx 3 (fN hx14 zz) ?_
         rcases is H with ⟨hx15,H⟩ | ⟨hx15,H⟩
         · cases H
           exact Kz 2 (fT hx15 zz)
         · refine Kx 3 (fN hx15 zz) ?_
           rcases is H with ⟨hx16,H⟩ | ⟨hx16,H⟩
           · obtain ⟨hx17,H⟩:=gs H
             cases H
             exact Kz 2 (fT hx16 (ff hx17 (fw x8.2.2 (0+0) p3 (D.int .i64) (.int .i64 0) zz)))
           · refine Kx 3 (fN hx16 zz) ?_
             rcases is H with ⟨hx18,H⟩ | ⟨hx18,H⟩
             · obtain ⟨hx19,H⟩:=gs H
               cases H
               exact Kz 2 (fT hx18 (ff hx19 zz))
             · cases H
               exact Kz 3 (fN hx18 zz)
   refine Kx 3 zz ?_
   refine Kv ⟨[(8,(Pt 0)),(9,(Pt 1)),(10,(.one (.d (.list (((x20.2.2.2.2.1.map (D.int .i64)).drop x20.1).take x20.2.1))))),(11,(Pt 2)),(12,(I x20.2.2.1))],[.cells [.d (.list (x5.1.map (el (D.int .i64))))],.cells [cI x6.1,cI x20.2.2.2.1,cI x6.2.2.1],.cells [cI x20.2.2.2.2.2,cI x9.2.1]]⟩ ⟨[(8,(Pt 0)),(9,(Pt 1)),(10,(LI ((x20.2.2.2.2.1.drop x20.1).take x20.2.1))),(11,(Pt 2)),(12,(I x20.2.2.1))],[.cells [.d (.list (x5.1.map (el (D.int .i64))))],.cells [cI x6.1,cI x20.2.2.2.1,cI x6.2.2.1],.cells [cI x20.2.2.2.2.2,cI x9.2.1]]⟩ (by simp only [dt_map,rl_map,LI,VI]) ?_
   obtain ⟨x21,hx21,H⟩:=bs H
   obtain ⟨x22,hx22,H⟩:=bs H
   obtain ⟨x23,hx23,H⟩:=bs H
   obtain ⟨x24,hx24,H⟩:=bs H
   obtain ⟨x25,hx25,H⟩:=bs H
   obtain ⟨x26,hx26,H⟩:=bs H
   obtain ⟨x39,hx39,H⟩:=bs H
   refine Kx 12 (fc (o14 hx21) (fc (o79 hx22) (ff (nm_all e_st1 x22.2.2 (fun _=>rfl)) (fc (o13 hx23) (fc (o113 hx24) (fc (o114 hx25) (fc (o115 hx26) zz))))))) ?_
   refine Kc ⟨[(6,(B x39))],[]⟩ ?_ ?_
   · replace H:=hx39
     rcases is H with ⟨hx28,H⟩ | ⟨hx28,H⟩
     · obtain ⟨x29,hx29,H⟩:=bs H
       rcases is H with ⟨hx31,H⟩ | ⟨hx31,H⟩
       · obtain ⟨x32,hx32,H⟩:=bs H
         rcases is H with ⟨hx34,H⟩ | ⟨hx34,H⟩
         · obtain ⟨x35,hx35,H⟩:=bs H
           rcases is H with ⟨hx37,H⟩ | ⟨hx37,H⟩
           · obtain ⟨x38,hx38,H⟩:=bs H
             cases H
             exact Kz 1 (fo (.m) (ff (rfl (a:=([.vals (.agg [(.int .i64 0),(.int .i64 0),(.int .i64 0),(.int .i64 0)]) (x22.2.2.map e_st1)]:Heap))) (fo (.m) (ff (rfl (a:=([.vals (.agg [(.int .i64 0),(.int .i64 0),(.int .i64 0),(.int .i64 0)]) (x22.2.2.map e_st1)]:Heap))) (ft hx28 (fd e_st1 x22.2.2 0 x22.1 (fc (o116 hx29) (ft hx31 (fc (o116 hx32) (ft hx34 (fc (o116 hx35) (ft hx37 (fc (o3 hx38) zz)))))))))))))
           · cases H
             exact Kz 1 (fo (.m) (ff (rfl (a:=([.vals (.agg [(.int .i64 0),(.int .i64 0),(.int .i64 0),(.int .i64 0)]) (x22.2.2.map e_st1)]:Heap))) (fo (.m) (ff (rfl (a:=([.vals (.agg [(.int .i64 0),(.int .i64 0),(.int .i64 0),(.int .i64 0)]) (x22.2.2.map e_st1)]:Heap))) (ft hx28 (fd e_st1 x22.2.2 0 x22.1 (fc (o116 hx29) (ft hx31 (fc (o116 hx32) (ft hx34 (fc (o116 hx35) (fn hx37 zz))))))))))))
         · cases H
           exact Kz 1 (fo (.m) (ff (rfl (a:=([.vals (.agg [(.int .i64 0),(.int .i64 0),(.int .i64 0),(.int .i64 0)]) (x22.2.2.map e_st1)]:Heap))) (fo (.m) (ff (rfl (a:=([.vals (.agg [(.int .i64 0),(.int .i64 0),(.int .i64 0),(.int .i64 0)]) (x22.2.2.map e_st1)]:Heap))) (ft hx28 (fd e_st1 x22.2.2 0 x22.1 (fc (o116 hx29) (ft hx31 (fc (o116 hx32) (fn hx34 (f0 zz)))))))))))
       · cases H
         exact Kz 1 (fo (.m) (ff (rfl (a:=([.vals (.agg [(.int .i64 0),(.int .i64 0),(.int .i64 0),(.int .i64 0)]) (x22.2.2.map e_st1)]:Heap))) (fo (.m) (ff (rfl (a:=([.vals (.agg [(.int .i64 0),(.int .i64 0),(.int .i64 0),(.int .i64 0)]) (x22.2.2.map e_st1)]:Heap))) (ft hx28 (fd e_st1 x22.2.2 0 x22.1 (fc (o116 hx29) (fn hx31 (f0 (f0 zz))))))))))
     · cases H
       exact Kz 1 (fo (.m) (ff (rfl (a:=([.vals (.agg [(.int .i64 0),(.int .i64 0),(.int .i64 0),(.int .i64 0)]) (x22.2.2.map e_st1)]:Heap))) (fo (.m) (ff (rfl (a:=([.vals (.agg [(.int .i64 0),(.int .i64 0),(.int .i64 0),(.int .i64 0)]) (x22.2.2.map e_st1)]:Heap))) (fn hx28 (f0 (f0 (f0 zz))))))))
   cases H
   exact Kz 1 zz
end Go.Proofs.YtkeddnagijjbaaaGreat.storeAnswers
