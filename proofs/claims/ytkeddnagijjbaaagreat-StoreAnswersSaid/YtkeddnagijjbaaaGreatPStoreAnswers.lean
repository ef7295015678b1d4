/- That the told functions answer as the statement StoreAnswers says, in plain Lean. There are no conditions. -/
import Derived.Test.YtkeddnagijjbaaaGreatTStoreAnswers0
set_option maxRecDepth 100000
set_option linter.unusedVariables false
set_option linter.unusedSimpArgs false
namespace Go.Proofs.YtkeddnagijjbaaaGreat.storeAnswers
open Go
theorem w64_id {x:Int} (h1:-9223372036854775808≤x) (h2:x < 9223372036854775808):w64 x=x:=wrap_id h1 h2

def Gives {α:Type} (f:Nat→Option α) (Q:α→Prop):Prop:=∃ r,(∃ K,∀ k,K≤k→f k=some r)∧Q r
theorem Gives.mono {α:Type} {f:Nat→Option α} {Q Q':α→Prop} (h:Gives f Q) (k:∀ r,Q r→Q' r):Gives f Q':=by
 obtain ⟨r,h1,h2⟩:=h; exact ⟨r,h1,k r h2⟩
theorem Gives.now {α:Type} {r:α} {Q:α→Prop} (h:Q r):Gives (fun _=>some r) Q:=⟨r,⟨0,fun _ _=>rfl⟩,h⟩
theorem Gives.bind {α β:Type} {f:Nat→Option α} {g:Nat→α→Option β} {Q:α→Prop} {Q':β→Prop} (h:Gives f Q) (k:∀ a,Q a→Gives (fun n=>g n a) Q'):Gives (fun n=>(f n).bind (g n)) Q':=by
 obtain ⟨a,⟨K,hK⟩,ha⟩:=h
 obtain ⟨r,⟨K2,hK2⟩,hr⟩:=k a ha
 exact ⟨r,⟨max K K2,fun n hn=>by show (f n).bind (g n)=some r; rw [hK n (by omega),Option.bind_some]; exact hK2 n (by omega)⟩,hr⟩
theorem Gives.opt {α β:Type} {x:Option α} {a:α} {g:Nat→α→Option β} {Q:β→Prop} (h:x=some a) (k:Gives (fun n=>g n a) Q):Gives (fun n=>x.bind (g n)) Q:=by
 subst h; exact k
theorem Gives.step {α:Type} {f:Nat→Option α} {Q:α→Prop} (h:Gives (fun k=>f (k+1)) Q):Gives f Q:=by
 obtain ⟨r,⟨K,hK⟩,hr⟩:=h
 refine ⟨r,⟨K+1,fun n hn=>?_⟩,hr⟩
 obtain ⟨m,rfl⟩:∃ m,n=m+1:=⟨n - 1,by omega⟩
 exact hK m (by omega)
theorem Gives.ite {α:Type} {c:Prop} [Decidable c] {f g:Nat→Option α} {Q:α→Prop} (h:c→Gives f Q) (k:¬c→Gives g Q):Gives (fun n=>if c then f n else g n) Q:=by
 by_cases hc:c
 · simp only [if_pos hc]; exact h hc
 · simp only [if_neg hc]; exact k hc
theorem Gives.pos {α:Type} {c:Prop} [Decidable c] {f g:Nat→Option α} {Q:α→Prop} (hc:c) (h:Gives f Q):Gives (fun n=>if c then f n else g n) Q:=by
 simp only [if_pos hc]; exact h
theorem Gives.neg {α:Type} {c:Prop} [Decidable c] {f g:Nat→Option α} {Q:α→Prop} (hc:¬c) (h:Gives g Q):Gives (fun n=>if c then f n else g n) Q:=by
 simp only [if_neg hc]; exact h
theorem Gives.loop {S R:Type} {f:Nat→S→Option (S ⊕ R)} {Q:R→Prop} (Inv:S→Prop) (m:S→Nat)
 (h:∀ s,Inv s→Gives (fun k=>f k s) (fun x=>match x with | .inl s'=>Inv s'∧m s' < m s | .inr r=>Q r)) {s:S} (hs:Inv s):Gives (fun k=>loopT (f k) k s) Q:=by
 suffices H:∀ (n:Nat) (s:S),m s < n→Inv s→∃ r,(∃ K N,∀ k,K≤k→∀ j,N≤j→loopT (f k) j s=some r)∧Q r by
  obtain ⟨r,⟨K,N,hK⟩,hr⟩:=H (m s+1) s (by omega) hs
  exact ⟨r,⟨max K N,fun k hk=>hK k (by omega) k (by omega)⟩,hr⟩
 intro n
 induction n with
 | zero=>intro s hs; omega
 | succ n ih =>
  intro s hs hI
  obtain ⟨x,⟨K,hK⟩,hx⟩:=h s hI
  cases x with
  | inl s' =>
   obtain ⟨r,⟨K2,N,hK2⟩,hr⟩:=ih s' (by have:=hx.2; omega) hx.1
   refine ⟨r,⟨max K K2,N+1,fun k hk j hj=>?_⟩,hr⟩
   obtain ⟨j',rfl⟩:∃ j',j=j'+1:=⟨j - 1,by omega⟩
   simp only [loopT,hK k (by omega),Option.bind_some]
   exact hK2 k (by omega) j' (by omega)
  | inr r =>
   refine ⟨r,⟨K,1,fun k hk j hj=>?_⟩,hx⟩
   obtain ⟨j',rfl⟩:∃ j',j=j'+1:=⟨j - 1,by omega⟩
   simp only [loopT,hK k hk,Option.bind_some]
theorem Gives.true {f:Nat→Option Bool} (h:Gives f (·=true)):∃ k,f k=some true:=by
 obtain ⟨r,⟨K,hK⟩,hr⟩:=h
 subst hr
 exact ⟨K,hK K (Nat.le_refl _)⟩
def rd (xs:List Int) (i:Int):Int:=xs.getD i.toNat 0
theorem at_rd {xs:List Int} {i:Int} (h0:0≤i) (h1:i < (xs.length:Int)):at? xs i=some (rd xs i):=by
 unfold at? rd
 rw [if_pos h0,List.getD_eq_getElem?_getD,List.getElem?_eq_getElem (by omega)]; rfl
theorem rd_mem {xs:List Int} {i:Int} (h0:0≤i) (h1:i < (xs.length:Int)):rd xs i∈xs:=by
 unfold rd
 have h:i.toNat < xs.length:=by omega
 rw [List.getD_eq_getElem?_getD,List.getElem?_eq_getElem h]; exact List.getElem_mem h
def Smp (xs:List Int):Prop:=∀ v∈xs,-1000≤v∧v≤1000
theorem Smp.rd {xs:List Int} (h:Smp xs) (i:Int):-1000≤rd xs i∧rd xs i≤1000:=by
 show -1000≤xs.getD i.toNat 0∧xs.getD i.toNat 0≤1000
 rw [List.getD_eq_getElem?_getD]
 rcases Nat.lt_or_ge i.toNat xs.length with c | c
 · rw [List.getElem?_eq_getElem c]; exact h _ (List.getElem_mem c)
 · rw [List.getElem?_eq_none c]; decide
theorem Smp.nil:Smp []:=fun _ h=>by simp at h
theorem Smp.app {xs ys:List Int} (h:Smp xs) (k:Smp ys):Smp (xs++ys):=fun v hv=>by
 rcases List.mem_append.1 hv with h1 | h1
 · exact h v h1
 · exact k v h1
theorem Smp.one {v:Int} (h0:-1000≤v) (h1:v≤1000):Smp [v]:=fun u hu=>by
 obtain rfl:=List.mem_singleton.1 hu; exact ⟨h0,h1⟩
theorem Smp.take {xs:List Int} (h:Smp xs) (n:Nat):Smp (xs.take n):=fun v hv=>h v (List.mem_of_mem_take hv)
theorem Smp.drop {xs:List Int} (h:Smp xs) (n:Nat):Smp (xs.drop n):=fun v hv=>h v (List.mem_of_mem_drop hv)
theorem Smp.set {xs:List Int} (h:Smp xs) (n:Nat) {v:Int} (h0:-1000≤v) (h1:v≤1000):Smp (xs.set n v):=fun u hu=>by
 rcases List.mem_or_eq_of_mem_set hu with h2 | h2
 · exact h u h2
 · subst h2; exact ⟨h0,h1⟩
structure Win (xs:List Int):Prop where
 lo:2≤xs.length
 hi:xs.length≤32
 smp:Smp xs

structure Fits (xs ys:List Int) (b:Int):Prop where
 wx:Win xs
 wy:Win ys
 lo:0≤b
 hi:b≤32
 ab:(xs.length:Int) - ys.length≤b
 ba:(ys.length:Int) - xs.length≤b
theorem eu_samples {xs:List Int} (h:Win xs):Gives (fun k=>T_euclid_samples k xs) (·=true):=by
 have h2:=h.hi
 refine Gives.step ?_
 simp only [T_euclid_samples]
 refine Gives.bind (Q:=fun r=>r=.inl ()) ?_ fun r hr=>by subst hr; exact Gives.now rfl
 refine Gives.loop (fun s=>0≤s∧s≤(xs.length:Int)) (fun s=>((xs.length:Int) - s).toNat) ?_ ⟨by omega,by omega⟩
 intro s ⟨i1,i2⟩
 unfold T_euclid_samples_l1
 refine Gives.ite (fun c=>Gives.opt (at_rd i1 c) ?_) fun c=>Gives.now rfl
 have:=h.smp.rd s
 refine Gives.neg (by simp; omega) ?_
 rw [w64_id (by omega) (by omega)]
 exact Gives.now ⟨⟨by omega,by omega⟩,by omega⟩
theorem eu_len (xs:List Int):Gives (fun k=>T_euclid_length k xs) (fun _=>True):=by
 refine Gives.step ?_
 simp only [T_euclid_length]
 exact Gives.now trivial
theorem eu_check {xs ys:List Int} (hx:Win xs) (hy:Win ys) (hl:xs.length=ys.length):Gives (fun k=>T_euclid_check k xs ys) (·=0):=by
 have x1:=hx.lo
 have x2:=hx.hi
 refine Gives.step ?_
 simp only [T_euclid_check]
 refine Gives.bind (Q:=fun b=>b=false) ?_ fun b hb=>?_
 · refine Gives.bind (eu_len xs) fun _ _=>Gives.neg (by simp; omega) ?_
   refine Gives.bind (eu_len ys) fun _ _=>Gives.now ?_
   simp; omega
 subst hb
 refine Gives.neg (by simp) ?_
 refine Gives.bind (Q:=fun b=>b=false) ?_ fun b hb=>?_
 · refine Gives.bind (eu_samples hx) fun u hu=>?_
   subst hu
   refine Gives.neg (by simp) (Gives.bind (eu_samples hy) fun u hu=>?_)
   subst hu
   exact Gives.now rfl
 subst hb
 refine Gives.neg (by simp) (Gives.neg (by simp [hl]) (Gives.now rfl))
theorem eu_square {xs ys:List Int} (hx:Win xs) (hl:xs.length=ys.length):Gives (fun k=>T_euclid_square k xs ys) (fun _=>True):=by
 have x2:=hx.hi
 refine Gives.step ?_
 simp only [T_euclid_square]
 refine Gives.bind (Q:=fun _=>True) ?_ fun r hr=>Gives.now trivial
 refine Gives.loop (fun s=>0≤s.2∧s.2≤(xs.length:Int)) (fun s=>((xs.length:Int) - s.2).toNat) ?_ ⟨by simp only []; omega,by simp only []; omega⟩
 intro s ⟨i1,i2⟩
 unfold T_euclid_square_l1
 refine Gives.ite (fun c=>Gives.opt (at_rd i1 c) (Gives.opt (at_rd i1 (by omega)) ?_)) fun c=>Gives.now trivial
 rw [w64_id (x:=s.2+1) (by omega) (by omega)]
 exact Gives.now ⟨⟨by simp only []; omega,by simp only []; omega⟩,by simp only []; omega⟩
theorem eu_distance {xs ys:List Int} (hx:Win xs) (hy:Win ys) (hl:xs.length=ys.length):Gives (fun k=>T_euclid_Distance k xs ys) (fun r=>r.2=0):=by
 refine Gives.step ?_
 simp only [T_euclid_Distance]
 refine Gives.bind (eu_check hx hy hl) fun e he=>?_
 subst he
 exact Gives.neg (by simp) (Gives.bind (eu_square hx hl) fun v _=>Gives.now rfl)

def psum (x:List Int) (i:Int):Int:=(x.take i.toNat).sum
theorem psum_zero (x:List Int):psum x 0=0:=by simp [psum]
theorem psum_succ {x:List Int} {i:Int} (h0:0≤i) (h1:i < (x.length:Int)):psum x (i+1)=psum x i+rd x i:=by
 unfold psum rd
 rw [show (i+1).toNat=i.toNat+1 by omega,List.take_succ_eq_append_getElem (show i.toNat < x.length by omega),List.sum_append]
 rw [List.getD_eq_getElem?_getD,List.getElem?_eq_getElem (show i.toNat < x.length by omega)]
 simp
theorem psum_bound {x:List Int} {B:Int} (hB:∀ v∈x,-B≤v∧v≤B):∀ n:Nat,n≤x.length→-(B*n)≤psum x n∧psum x n≤B*n
 | 0,_=>by simp [psum]
 | n+1,h=>by
  have ih:=psum_bound hB n (by omega)
  have e:=psum_succ (x:=x) (i:=(n:Int)) (by omega) (by omega)
  have hb:=hB _ (rd_mem (xs:=x) (i:=(n:Int)) (by omega) (by omega))
  have:(((n+1:Nat)):Int)=(n:Int)+1:=by omega
  rw [this,e,Int.mul_add,Int.mul_one]
  omega
theorem psum_all {x:List Int}:psum x x.length=x.sum:=by simp [psum]
theorem prod_bound {a b A B:Int} (h1:-A≤a) (h2:a≤A) (h3:-B≤b) (h4:b≤B):-(A*B)≤a*b∧a*b≤A*B:=by
 have hA:0≤A:=by omega
 have hB:0≤B:=by omega
 have p1:0≤(A - a)*(B - b):=Int.mul_nonneg (by omega) (by omega)
 have p2:0≤(A+a)*(B+b):=Int.mul_nonneg (by omega) (by omega)
 have p3:0≤(A - a)*(B+b):=Int.mul_nonneg (by omega) (by omega)
 have p4:0≤(A+a)*(B - b):=Int.mul_nonneg (by omega) (by omega)
 rw [Int.sub_mul,Int.mul_sub,Int.mul_sub] at p1
 rw [Int.add_mul,Int.mul_add,Int.mul_add] at p2
 rw [Int.sub_mul,Int.mul_add,Int.mul_add] at p3
 rw [Int.add_mul,Int.mul_sub,Int.mul_sub] at p4
 omega
theorem pc_bounds {x:List Int} (hx:Win x) {i:Int} (h0:0≤i) (h1:i≤(x.length:Int)):-32000≤psum x i∧psum x i≤32000:=by
 have x2:=hx.hi
 have:=psum_bound (B:=1000) hx.smp i.toNat (by omega)
 rw [Int.toNat_of_nonneg h0] at this
 omega
def sg (f:Int→Int):Nat→Int
 | 0=>0
 | n+1=>sg f n+f n
theorem sg_congr {f g:Int→Int}:∀ {n:Nat},(∀ i:Int,0≤i→i < n→f i=g i)→sg f n=sg g n
 | 0,_=>rfl
 | n+1,h=>by
  rw [sg,sg,sg_congr (n:=n) fun i h1 h2=>h i h1 (by omega),h n (by omega) (by omega)]
theorem sg_psum {x:List Int}:∀ {n:Nat},n≤x.length→sg (rd x) n=psum x n
 | 0,_=>by simp [sg,psum]
 | n+1,h=>by
  have e:=psum_succ (x:=x) (i:=(n:Int)) (by omega) (by omega)
  have:(((n+1:Nat)):Int)=(n:Int)+1:=by omega
  rw [sg,sg_psum (n:=n) (by omega),this,e]
theorem sg_bound {f:Int→Int} {B:Int}:∀ {n:Nat},(∀ i:Int,0≤i→i < n→-B≤f i∧f i≤B)→-(B*n)≤sg f n∧sg f n≤B*n
 | 0,_=>by simp [sg]
 | n+1,h=>by
  have ih:=sg_bound (n:=n) fun i h1 h2=>h i h1 (by omega)
  have hb:=h n (by omega) (by omega)
  have:(((n+1:Nat)):Int)=(n:Int)+1:=by omega
  rw [sg,this,Int.mul_add,Int.mul_one]
  omega
theorem sg_nonneg {f:Int→Int}:∀ {n:Nat},(∀ i:Int,0≤i→i < n→0≤f i)→0≤sg f n
 | 0,_=>by simp [sg]
 | n+1,h=>by
  have ih:=sg_nonneg (n:=n) fun i h1 h2=>h i h1 (by omega)
  have hb:=h n (by omega) (by omega)
  rw [sg]; omega
theorem sg_cent (a b:Int→Int) (L S T:Int):∀ n:Nat,sg (fun i=>(L*a i - S)*(L*b i - T)) n=L*L*sg (fun i=>a i*b i) n - L*T*sg a n - L*S*sg b n+n*(S*T)
 | 0=>by simp [sg]
 | n+1=>by
  have ih:=sg_cent a b L S T n
  have:(((n+1:Nat)):Int)=(n:Int)+1:=by omega
  rw [sg,sg,sg,sg,ih,this]
  grind
theorem sg_quad (u v:Int→Int) (A B:Int):∀ n:Nat,sg (fun i=>(A*v i - B*u i)*(A*v i - B*u i)) n=A*A*sg (fun i=>v i*v i) n - 2*(A*B*sg (fun i=>u i*v i) n)+B*B*sg (fun i=>u i*u i) n
 | 0=>by simp [sg]
 | n+1=>by
  have ih:=sg_quad u v A B n
  rw [sg,sg,sg,sg,ih]
  grind
theorem sq_nonneg (a:Int):0≤a*a:=by
 rcases Int.le_total 0 a with h | h
 · exact Int.mul_nonneg h h
 · exact Int.mul_nonneg_of_nonpos_of_nonpos h h
theorem sg_cs (u v:Int→Int) (n:Nat):sg (fun i=>u i*v i) n*sg (fun i=>u i*v i) n≤sg (fun i=>u i*u i) n*sg (fun i=>v i*v i) n:=by
 obtain ⟨A,hA⟩:∃ A,A=sg (fun i=>u i*u i) n:=⟨_,rfl⟩
 obtain ⟨B,hB⟩:∃ B,B=sg (fun i=>u i*v i) n:=⟨_,rfl⟩
 obtain ⟨C,hC⟩:∃ C,C=sg (fun i=>v i*v i) n:=⟨_,rfl⟩
 rw [←hA,←hB,←hC]
 have hA0:0≤A:=by rw [hA]; exact sg_nonneg fun i _ _=>sq_nonneg _
 have hC0:0≤C:=by rw [hC]; exact sg_nonneg fun i _ _=>sq_nonneg _
 have q:∀ s t:Int,0≤s*s*C - 2*(s*t*B)+t*t*A:=fun s t=>by
  rw [hA,hB,hC,←sg_quad u v s t n]
  exact sg_nonneg fun i _ _=>sq_nonneg _
 have q1:=q A B
 have q2:=q B C
 have q3:=q 1 1
 have q4:=q 1 (-1)
 have e1:A*A*C - 2*(A*B*B)+B*B*A=A*(A*C - B*B):=by grind
 have e2:B*B*C - 2*(B*C*B)+C*C*A=C*(A*C - B*B):=by grind
 rw [e1] at q1
 rw [e2] at q2
 by_cases h1:0 < A
 · have:=Int.nonneg_of_mul_nonneg_right q1 h1
   omega
 · by_cases h2:0 < C
   · have:=Int.nonneg_of_mul_nonneg_right q2 h2
     omega
   · have a0:A=0:=by omega
     have c0:C=0:=by omega
     subst a0 c0
     have:B=0:=by omega
     subst this
     simp
def prodP (x y:List Int):Int:=(x.length:Int)*sg (fun i=>rd x i*rd y i) x.length - x.sum*y.sum
theorem cent_sum {x y:List Int} (hl:x.length=y.length):sg (fun i=>((x.length:Int)*rd x i - x.sum)*((x.length:Int)*rd y i - y.sum)) x.length=(x.length:Int)*prodP x y:=by
 have e1:sg (rd x) x.length=x.sum:=by rw [sg_psum (Nat.le_refl _)]; exact psum_all
 have e2:sg (rd y) x.length=y.sum:=by rw [hl,sg_psum (Nat.le_refl _)]; exact psum_all
 rw [sg_cent,e1,e2]
 unfold prodP
 grind
theorem prodP_nonneg {x:List Int} (h:0 < x.length):0≤prodP x x:=by
 have e:=cent_sum (x:=x) (y:=x) rfl
 have:0≤(x.length:Int)*prodP x x:=by rw [←e]; exact sg_nonneg fun i _ _=>sq_nonneg _
 exact Int.nonneg_of_mul_nonneg_right this (by omega)
theorem prodP_cs {x y:List Int} (hl:x.length=y.length) (h:0 < x.length):prodP x y*prodP x y≤prodP x x*prodP y y:=by
 have c:=sg_cs (fun i=>(x.length:Int)*rd x i - x.sum) (fun i=>(x.length:Int)*rd y i - y.sum) x.length
 have e1:=cent_sum (x:=x) (y:=x) rfl
 have e2:=cent_sum hl
 have e3:=cent_sum (x:=y) (y:=y) rfl
 rw [←hl] at e3
 rw [e1,e2,e3] at c
 generalize prodP x y=p at c ⊢
 generalize prodP x x=q at c ⊢
 generalize prodP y y=r at c ⊢
 have hL:0 < (x.length:Int):=by omega
 generalize (x.length:Int)=L at c hL
 have:0≤L*(L*(q*r - p*p)):=by
  have:L*(L*(q*r - p*p))=L*q*(L*r) - L*p*(L*p):=by grind
  omega
 have:=Int.nonneg_of_mul_nonneg_right (Int.nonneg_of_mul_nonneg_right this hL) hL
 omega

theorem gcd_step (m n:Nat) (h:n≠0):Nat.gcd n (m % n)=Nat.gcd m n:=by
 rw [Nat.gcd_comm m n,Nat.gcd_rec n m,Nat.gcd_comm]
theorem tmod_nat (m n:Nat):(m:Int).tmod n=((m % n:Nat):Int):=by
 rw [Int.tmod_eq_emod_of_nonneg (by omega)]; rfl
theorem ra_divisor (m n:Nat):Gives (fun k=>T_ratio_divisor k m n) (fun r=>r=(Nat.gcd m n:Nat)):=by
 refine Gives.step ?_
 simp only [T_ratio_divisor]
 refine Gives.bind (Q:=fun r=>r=((Nat.gcd m n:Nat):Int)) ?_ fun r hr=>Gives.now hr
 refine Gives.loop (fun s=>∃ a b:Nat,s=((a:Int),(b:Int))∧Nat.gcd a b=Nat.gcd m n) (fun s=>s.2.toNat) ?_ ⟨m,n,rfl,rfl⟩
 intro s ⟨a,b,hs,hg⟩
 subst hs
 unfold T_ratio_divisor_l1
 simp only []
 by_cases c:b=0
 · subst c
   refine Gives.neg (by simp) (Gives.now ?_)
   rw [←hg]; simp
 · refine Gives.pos (by simp; omega) (Gives.pos (by omega) (Gives.now ⟨⟨b,a % b,by rw [tmod_nat],by rw [gcd_step a b c,hg]⟩,?_⟩))
   simp only [tmod_nat]
   have:=Nat.mod_lt a (show 0 < b by omega)
   omega
theorem ra_common (m n:Nat):Gives (fun k=>T_ref01_common k m n) (fun r=>r=(Nat.gcd m n:Nat)):=by
 refine Gives.step ?_
 simp only [T_ref01_common]
 refine Gives.bind (Q:=fun r=>r=((Nat.gcd m n:Nat):Int)) ?_ fun r hr=>Gives.now hr
 refine Gives.loop (fun s=>∃ a b:Nat,s=((a:Int),(b:Int))∧Nat.gcd a b=Nat.gcd m n) (fun s=>s.2.toNat) ?_ ⟨m,n,rfl,rfl⟩
 intro s ⟨a,b,hs,hg⟩
 subst hs
 unfold T_ref01_common_l1
 simp only []
 by_cases c:b=0
 · subst c
   refine Gives.neg (by simp) (Gives.now ?_)
   rw [←hg]; simp
 · refine Gives.pos (by omega) (Gives.pos (by omega) (Gives.now ⟨⟨b,a % b,by rw [tmod_nat],by rw [gcd_step a b c,hg]⟩,?_⟩))
   simp only [tmod_nat]
   have:=Nat.mod_lt a (show 0 < b by omega)
   omega
theorem tdiv_nat (m n:Nat):(m:Int).tdiv n=((m / n:Nat):Int):=by
 rw [Int.tdiv_eq_ediv_of_nonneg (by omega)]; rfl
theorem ra_Make {m n:Nat} (hn:0 < n) (h1:m≤2305843009213693952) (h2:n≤1152921504606846976):Gives (fun k=>T_ratio_Make k m n) (fun r=>r=(((m / Nat.gcd m n:Nat):Int),((n / Nat.gcd m n:Nat):Int),0)):=by
 have g0:0 < Nat.gcd m n:=Nat.gcd_pos_of_pos_right m hn
 have d1:m / Nat.gcd m n≤m:=Nat.div_le_self _ _
 have d2:n / Nat.gcd m n≤n:=Nat.div_le_self _ _
 have d3:0 < n / Nat.gcd m n:=Nat.div_pos (Nat.gcd_le_right m hn) g0
 refine Gives.step ?_
 simp only [T_ratio_Make]
 refine Gives.neg (by simp; omega) (Gives.bind (ra_divisor m n) fun g hg=>?_)
 subst hg
 simp only [tdiv_nat]
 generalize m / Nat.gcd m n=qa at d1 ⊢
 generalize n / Nat.gcd m n=qb at d2 d3 ⊢
 rw [w64_id (x:=(qa:Int)) (by omega) (by omega),w64_id (x:=(qb:Int)) (by omega) (by omega)]
 refine Gives.pos (by omega) (Gives.bind (Q:=fun _=>True) ?_ fun _ _=>Gives.neg (by simp; omega) (Gives.now rfl))
 refine Gives.step ?_
 simp only [T_ratio_within]
 exact Gives.now trivial

structure Rep (p q T M:Nat):Prop where
 pos:0 < q
 cop:Nat.gcd p q=1
 eq:p*M=T*q
theorem Rep.dvd {p q T M:Nat} (h:Rep p q T M):q ∣ M:=by
 have:q ∣ p*M:=⟨T,by rw [h.eq,Nat.mul_comm]⟩
 exact Nat.Coprime.dvd_of_dvd_mul_left (Nat.coprime_comm.1 h.cop) this
theorem Rep.le {p q T M:Nat} (h:Rep p q T M) (hM:0 < M):p≤T∧q≤M:=by
 obtain ⟨m,hm⟩:=h.dvd
 have e:=h.eq
 have hm0:0 < m:=by
  rcases Nat.eq_zero_or_pos m with c | c
  · subst c; omega
  · exact c
 refine ⟨?_,Nat.le_of_dvd hM h.dvd⟩
 have:p*m=T:=by
  have h1:q*(p*m)=q*T:=by
   rw [hm] at e
   calc q*(p*m)=p*(q*m):=by grind
    _=T*q:=e
    _=q*T:=Nat.mul_comm _ _
  exact Nat.eq_of_mul_eq_mul_left h.pos h1
 calc p=p*1:=by omega
  _≤p*m:=Nat.mul_le_mul_left p hm0
  _=T:=this
theorem Rep.uniq {p q p' q' T M:Nat} (h:Rep p q T M) (k:Rep p' q' T M) (hM:0 < M):p=p'∧q=q':=by
 have e:p*q'=p'*q:=by
  have h1:M*(p*q')=M*(p'*q):=by
   calc M*(p*q')=(p*M)*q':=by grind
    _=(T*q)*q':=by rw [h.eq]
    _=(T*q')*q:=by grind
    _=(p'*M)*q:=by rw [k.eq]
    _=M*(p'*q):=by grind
  exact Nat.eq_of_mul_eq_mul_left hM h1
 have d1:q ∣ q':=Nat.Coprime.dvd_of_dvd_mul_left (Nat.coprime_comm.1 h.cop) ⟨p',by rw [e,Nat.mul_comm]⟩
 have d2:q' ∣ q:=Nat.Coprime.dvd_of_dvd_mul_left (Nat.coprime_comm.1 k.cop) ⟨p,by rw [←e,Nat.mul_comm]⟩
 have eq:q=q':=Nat.dvd_antisymm d1 d2
 subst eq
 exact ⟨Nat.eq_of_mul_eq_mul_right h.pos e,rfl⟩
theorem Rep.make {m n w:Nat} (hn:0 < n):Rep (m / Nat.gcd m n) (n / Nat.gcd m n) (m*w) (n*w):=by
 have g0:0 < Nat.gcd m n:=Nat.gcd_pos_of_pos_right m hn
 refine ⟨Nat.div_pos (Nat.gcd_le_right m hn) g0,by rw [Nat.gcd_div (Nat.gcd_dvd_left m n) (Nat.gcd_dvd_right m n),Nat.div_self g0],?_⟩
 obtain ⟨a,ha⟩:=Nat.gcd_dvd_left m n
 obtain ⟨b,hb⟩:=Nat.gcd_dvd_right m n
 generalize Nat.gcd m n=g at ha hb g0
 subst ha hb
 rw [Nat.mul_div_cancel_left _ g0,Nat.mul_div_cancel_left _ g0]
 grind
theorem u64_id {x:Int} (h1:0≤x) (h2:x < 18446744073709551616):IntKind.wrap .u64 x=x:=by
 show (if (false && decide (x % 18446744073709551616 ≥ 9223372036854775808))=true then x % 18446744073709551616 - 18446744073709551616 else x % 18446744073709551616)=x
 simp only [Bool.false_and,Bool.false_eq_true,if_false]
 omega
theorem and_mask {x:Int} (h1:0≤x) (h2:x < 18446744073709551616):bAnd .u64 x 4294967295=x % 4294967296:=by
 obtain ⟨n,rfl⟩:∃ n:Nat,x=n:=⟨x.toNat,by omega⟩
 unfold bAnd
 have e:(BitVec.ofInt (IntKind.bits .u64) (n:Int) &&& BitVec.ofInt (IntKind.bits .u64) 4294967295).toNat=n % 4294967296:=by
  show (BitVec.ofInt 64 (n:Int) &&& BitVec.ofInt 64 4294967295).toNat=_
  rw [BitVec.toNat_and,BitVec.ofInt_natCast,BitVec.toNat_ofNat,Nat.mod_eq_of_lt (by omega)]
  have:(BitVec.ofInt 64 4294967295).toNat=2 ^ 32 - 1:=by decide
  rw [this,Nat.and_two_pow_sub_one_eq_mod]
 rw [e,u64_id (by omega) (by omega)]
 rfl
def hiE (x y:Int):Int:=IntKind.wrap .u64 ((IntKind.wrap .u64 ((IntKind.wrap .u64 ((x.fdiv (2 ^ 32))*(y.fdiv (2 ^ 32))))+((IntKind.wrap .u64 ((IntKind.wrap .u64 ((x.fdiv (2 ^ 32))*(bAnd .u64 y 4294967295)))+((IntKind.wrap .u64 ((bAnd .u64 x 4294967295)*(bAnd .u64 y 4294967295))).fdiv (2 ^ 32)))).fdiv (2 ^ 32))))+((IntKind.wrap .u64 ((bAnd .u64 (IntKind.wrap .u64 ((IntKind.wrap .u64 ((x.fdiv (2 ^ 32))*(bAnd .u64 y 4294967295)))+((IntKind.wrap .u64 ((bAnd .u64 x 4294967295)*(bAnd .u64 y 4294967295))).fdiv (2 ^ 32)))) 4294967295)+(IntKind.wrap .u64 ((bAnd .u64 x 4294967295)*(y.fdiv (2 ^ 32)))))).fdiv (2 ^ 32)))
theorem ra_mul (x y:Int):Gives (fun k=>T_math_bits_Mul64 k x y) (fun _=>True):=by
 refine Gives.step ?_
 simp only [T_math_bits_Mul64]
 exact Gives.now trivial
theorem r01_valid {p q:Nat} (h:Nat.gcd p q=1) (h0:0 < q) (h1:p≤2305843009213693952) (h2:q≤1152921504606846976):Gives (fun k=>T_ref01_Valid k p q) (·=true):=by
 refine Gives.step ?_
 simp only [T_ref01_Valid]
 refine Gives.bind (Q:=fun b=>b=true) ?_ fun b hb=>Gives.now hb
 refine Gives.pos (by simp; omega) (Gives.bind (ra_common p q) fun g hg=>Gives.now ?_)
 rw [hg,h]; rfl

theorem ro_order:∀ (n a b c d:Nat),b+d < n→0 < b→0 < d→a < 4611686018427387904→c < 4611686018427387904→b < 4611686018427387904→d < 4611686018427387904→Gives (fun k=>T_ref01_order k a b c d) (fun r=>(a*d < c*b∧r=-1)∨(a*d=c*b∧r=0)∨(c*b < a*d∧r=1))
 | 0,_,_,_,_,h,_,_,_,_,_,_=>by omega
 | n+1,a,b,c,d,h,hb,hd,la,lc,lb,ld=>by
  refine Gives.step ?_
  simp only [T_ref01_order,tdiv_nat,tmod_nat]
  have q1:a / b≤a:=Nat.div_le_self _ _
  have q2:c / d≤c:=Nat.div_le_self _ _
  have ea:=Nat.div_add_mod a b
  have ec:=Nat.div_add_mod c d
  have ra:=Nat.mod_lt a hb
  have rc:=Nat.mod_lt c hd
  have fin:∀ (u v:Nat) (r:Int),(u < v↔a*d < c*b)→(u=v↔a*d=c*b)→((u < v∧r=-1)∨(u=v∧r=0)∨(v < u∧r=1))→(a*d < c*b∧r=-1)∨(a*d=c*b∧r=0)∨(c*b < a*d∧r=1):=by
   intro u v r h1 h2 h3
   rcases h3 with ⟨h,e⟩ | ⟨h,e⟩ | ⟨h,e⟩
   · exact Or.inl ⟨h1.1 h,e⟩
   · exact Or.inr (Or.inl ⟨h2.1 h,e⟩)
   · refine Or.inr (Or.inr ⟨?_,e⟩)
     have n1:¬a*d < c*b:=fun g=>by have:=h1.2 g; omega
     have n2:¬a*d=c*b:=fun g=>by have:=h2.2 g; omega
     omega
  generalize a / b=p at ea q1 ⊢
  generalize c / d=q at ec q2 ⊢
  generalize a % b=a' at ea ra ⊢
  generalize c % d=c' at ec rc ⊢
  rw [w64_id (x:=(p:Int)) (by omega) (by omega),w64_id (x:=(q:Int)) (by omega) (by omega)]
  have eA:a*d=p*(b*d)+a'*d:=by rw [←ea]; grind
  have eC:c*b=q*(b*d)+c'*b:=by rw [←ec]; grind
  have lA:a'*d < b*d:=Nat.mul_lt_mul_of_pos_right ra hd
  have lC:c'*b < b*d:=by rw [Nat.mul_comm b d]; exact Nat.mul_lt_mul_of_pos_right rc hb
  refine Gives.pos (by omega) (Gives.pos (by omega) (Gives.ite (fun cc=>?_) fun cc=>?_))
  · have ne:p≠q:=by
     intro e; subst e; simp at cc
    refine Gives.ite (fun lt=>Gives.now ?_) fun lt=>Gives.now ?_
    · have:(p+1)*(b*d)≤q*(b*d):=Nat.mul_le_mul_right _ (by omega)
      rw [Nat.add_mul] at this
      exact Or.inl ⟨by omega,rfl⟩
    · have:(q+1)*(b*d)≤p*(b*d):=Nat.mul_le_mul_right _ (by omega)
      rw [Nat.add_mul] at this
      exact Or.inr (Or.inr ⟨by omega,rfl⟩)
  · have eq:p=q:=by
     simp at cc; omega
    subst eq
    refine Gives.pos (by omega) (Gives.pos (by omega) (Gives.ite (fun z=>Gives.now ?_) fun z=>Gives.ite (fun z1=>Gives.now ?_) fun z1=>Gives.ite (fun z2=>Gives.now ?_) fun z2=>?_))
    · simp at z
      obtain ⟨rfl,rfl⟩:=z
      exact Or.inr (Or.inl ⟨by omega,rfl⟩)
    · have e1:a'=0:=by omega
      subst e1
      simp at z
      have:0 < c'*b:=Nat.mul_pos (by omega) hb
      exact Or.inl ⟨by omega,rfl⟩
    · have e1:c'=0:=by omega
      subst e1
      have:0 < a'*d:=Nat.mul_pos (by omega) hd
      exact Or.inr (Or.inr ⟨by omega,rfl⟩)
    · refine Gives.bind (ro_order n d c' b a' (by omega) (by omega) (by omega) (by omega) (by omega) (by omega) (by omega)) fun r hr=>Gives.now ?_
      rw [Nat.mul_comm d a',Nat.mul_comm b c'] at hr
      exact fin (a'*d) (c'*b) r (by omega) (by omega) hr
theorem Rep.scale {p q T M:Nat} (h:Rep p q T M) (k:Nat):Rep p q (T*k) (M*k):=⟨h.pos,h.cop,by have:=h.eq; grind⟩
theorem Rep.same {p q T M p' q' T' M':Nat} (h:Rep p q T M) (k:Rep p' q' T' M') (hM:0 < M) (hM':0 < M') (l:T*M'=T'*M):p=p'∧q=q':=by
 have a:=h.scale M'
 have b:=k.scale M
 rw [l,Nat.mul_comm M M'] at a
 exact a.uniq b (Nat.mul_pos hM' hM)

theorem r12_samples {x:List Int} (hx:Win x):Gives (fun k=>T_ref12_Samples k x) (fun r=>r=0):=by
 have x2:=hx.hi
 refine Gives.step ?_
 simp only [T_ref12_Samples]
 refine Gives.bind (Q:=fun r=>r=.inl ()) ?_ fun r hr=>by subst hr; exact Gives.now rfl
 refine Gives.loop (fun s=>0≤s∧s≤(x.length:Int)) (fun s=>((x.length:Int) - s).toNat) ?_ ⟨by omega,by omega⟩
 intro s ⟨i1,i2⟩
 unfold T_ref12_Samples_l1
 refine Gives.ite (fun c=>Gives.opt (at_rd i1 c) (Gives.bind (Q:=fun _=>True) ?_ fun _ _=>?_)) fun c=>Gives.now rfl
 · refine Gives.step ?_
   simp only [T_ref04_Sample]
   exact Gives.now trivial
 · have h:=hx.smp.rd s
   rw [w64_id (by omega) (by omega)]
   exact Gives.neg (by simp; omega) (Gives.now ⟨⟨by omega,by omega⟩,by omega⟩)
theorem r12_two {x y:List Int} (hx:Win x) (hy:Win y) (hl:x.length=y.length):Gives (fun k=>T_ref12_Two k x y 0) (fun r=>r=0):=by
 have x1:=hx.lo
 have x2:=hx.hi
 refine Gives.step ?_
 simp only [T_ref12_Two]
 refine Gives.neg (by simp; omega) (Gives.bind (Q:=fun b=>b=false) ?_ fun b hb=>?_)
 · exact Gives.bind (r12_samples hx) fun r hr=>Gives.neg (by simp [hr]) (Gives.bind (r12_samples hy) fun r hr=>Gives.now (by simp [hr]))
 · subst hb
   rw [←hl,Int.sub_self,w64_id (x:=0) (by omega) (by omega)]
   exact Gives.neg (by simp) (Gives.neg (by simp) (Gives.now rfl))

theorem hi_eq {x y:Int} (hx:0≤x) (hx2:x < 18446744073709551616) (hy:0≤y) (hy2:y < 18446744073709551616):hiE x y=x*y / 18446744073709551616:=by
 have p:((2:Int) ^ 32)=4294967296:=by decide
 have f1:y.fdiv 4294967296=y / 4294967296:=Int.fdiv_eq_ediv_of_nonneg _ (by omega)
 have f2:x.fdiv 4294967296=x / 4294967296:=Int.fdiv_eq_ediv_of_nonneg _ (by omega)
 unfold hiE
 rw [p,f1,f2,and_mask hx hx2,and_mask hy hy2]
 have dx:=Int.emod_add_mul_ediv x 4294967296
 have dy:=Int.emod_add_mul_ediv y 4294967296
 have qx0:0≤x / 4294967296:=by omega
 have qx1:x / 4294967296≤4294967295:=by omega
 have rx0:0≤x % 4294967296:=by omega
 have rx1:x % 4294967296≤4294967295:=by omega
 have qy0:0≤y / 4294967296:=by omega
 have qy1:y / 4294967296≤4294967295:=by omega
 have ry0:0≤y % 4294967296:=by omega
 have ry1:y % 4294967296≤4294967295:=by omega
 generalize x / 4294967296=a at dx qx0 qx1 ⊢
 generalize x % 4294967296=b at dx rx0 rx1 ⊢
 generalize y / 4294967296=c at dy qy0 qy1 ⊢
 generalize y % 4294967296=d at dy ry0 ry1 ⊢
 have bound:∀ u v:Int,0≤u→u≤4294967295→0≤v→v≤4294967295→0≤u*v∧u*v≤18446744065119617025:=fun u v u0 u1 v0 v1 =>
  ⟨Int.mul_nonneg u0 v0,Int.le_trans (Int.mul_le_mul u1 v1 v0 (by omega)) (by omega)⟩
 have e:x*y=a*c*18446744073709551616+(a*d+b*c)*4294967296+b*d:=by rw [←dx,←dy]; grind
 obtain ⟨ac0,ac1⟩:=bound a c qx0 qx1 qy0 qy1
 obtain ⟨ad0,ad1⟩:=bound a d qx0 qx1 ry0 ry1
 obtain ⟨bc0,bc1⟩:=bound b c rx0 rx1 qy0 qy1
 obtain ⟨bd0,bd1⟩:=bound b d rx0 rx1 ry0 ry1
 rw [e]
 generalize a*c=A at *
 generalize a*d=X at *
 generalize b*c=Y at *
 generalize b*d=Z at *
 have f3:Z.fdiv 4294967296=Z / 4294967296:=Int.fdiv_eq_ediv_of_nonneg _ (by omega)
 rw [u64_id ac0 (by omega),u64_id ad0 (by omega),u64_id bd0 (by omega),u64_id bc0 (by omega),f3,u64_id (x:=X+Z / 4294967296) (by omega) (by omega)]
 have f4:(X+Z / 4294967296).fdiv 4294967296=(X+Z / 4294967296) / 4294967296:=Int.fdiv_eq_ediv_of_nonneg _ (by omega)
 rw [f4,and_mask (by omega) (by omega),u64_id (x:=(X+Z / 4294967296) % 4294967296+Y) (by omega) (by omega)]
 have f5:((X+Z / 4294967296) % 4294967296+Y).fdiv 4294967296=((X+Z / 4294967296) % 4294967296+Y) / 4294967296:=Int.fdiv_eq_ediv_of_nonneg _ (by omega)
 rw [f5,u64_id (x:=A+(X+Z / 4294967296) / 4294967296) (by omega) (by omega)]
 rw [u64_id (by omega) (by omega)]
 omega
def vR (p q:Int):Bool:=decide (0≤p) && decide (p≤2305843009213693952) && decide (1≤q) && decide (q≤1152921504606846976) && decide (Nat.gcd p.toNat q.toNat=1)
theorem vR_spec {p q:Int} (h:vR p q=true):∃ m n:Nat,p=m∧q=n∧Nat.gcd m n=1∧0 < n∧m≤2305843009213693952∧n≤1152921504606846976:=by
 simp only [vR,Bool.and_eq_true,decide_eq_true_eq] at h
 exact ⟨p.toNat,q.toNat,by omega,by omega,h.2,by omega,by omega,by omega⟩
theorem ra_validI (p q:Int):Gives (fun k=>T_ratio_Valid k p q) (·=vR p q):=by
 refine Gives.step ?_
 simp only [T_ratio_Valid]
 refine Gives.bind (Q:=fun b=>b=vR p q) ?_ fun b hb=>Gives.now hb
 refine Gives.bind (Q:=fun _=>True) (Gives.step (by simp only [T_ratio_within]; exact Gives.now trivial)) fun _ _=>Gives.ite (fun h=>?_) fun h=>Gives.now ?_
 · simp only [Bool.and_eq_true,decide_eq_true_eq] at h
   obtain ⟨m,rfl⟩:∃ m:Nat,p=m:=⟨p.toNat,by omega⟩
   obtain ⟨n,rfl⟩:∃ n:Nat,q=n:=⟨q.toNat,by omega⟩
   refine Gives.bind (ra_divisor m n) fun g hg=>Gives.now ?_
   simp only [vR,hg,Int.toNat_natCast]
   have e1:decide ((0:Int)≤m)=true:=by simp
   have e2:decide ((m:Int)≤2305843009213693952)=true:=by simp; omega
   have e3:decide ((1:Int)≤n)=true:=by simp; omega
   have e4:decide ((n:Int)≤1152921504606846976)=true:=by simp; omega
   rw [e1,e2,e3,e4]
   simp only [Bool.and_true,Bool.true_and]
   exact decide_eq_decide.2 (by omega)
 · cases hv:vR p q with
   | false=>rfl
   | true=>exact absurd (by obtain ⟨m,n,rfl,rfl,_,h1,h2,h3⟩:=vR_spec hv; simp; omega) h
theorem r01_validI (p q:Int):Gives (fun k=>T_ref01_Valid k p q) (·=vR p q):=by
 refine Gives.step ?_
 simp only [T_ref01_Valid]
 refine Gives.bind (Q:=fun b=>b=vR p q) ?_ fun b hb=>Gives.now hb
 refine Gives.ite (fun h=>?_) fun h=>Gives.now ?_
 · simp only [Bool.and_eq_true,decide_eq_true_eq] at h
   obtain ⟨m,rfl⟩:∃ m:Nat,p=m:=⟨p.toNat,by omega⟩
   obtain ⟨n,rfl⟩:∃ n:Nat,q=n:=⟨q.toNat,by omega⟩
   refine Gives.bind (ra_common m n) fun g hg=>Gives.now ?_
   simp only [vR,hg,Int.toNat_natCast]
   have e1:decide ((0:Int)≤m)=true:=by simp
   have e2:decide ((m:Int)≤2305843009213693952)=true:=by simp; omega
   have e3:decide ((1:Int)≤n)=true:=by simp; omega
   have e4:decide ((n:Int)≤1152921504606846976)=true:=by simp; omega
   rw [e1,e2,e3,e4]
   simp only [Bool.and_true,Bool.true_and]
   exact decide_eq_decide.2 (by omega)
 · cases hv:vR p q with
   | false=>rfl
   | true=>exact absurd (by obtain ⟨m,n,rfl,rfl,_,h1,h2,h3⟩:=vR_spec hv; simp; omega) h
def lR (a b c d:Int):Bool:=vR a b && (vR c d && decide (a*d < c*b))
theorem ra_less (a b c d:Int):Gives (fun k=>T_ratio_Less k a b c d) (·=lR a b c d):=by
 refine Gives.step ?_
 simp only [T_ratio_Less]
 refine Gives.bind (Q:=fun r=>decide (r < 0)=lR a b c d) ?_ fun r hr=>Gives.now hr
 refine Gives.step ?_
 simp only [T_ratio_Cmp]
 refine Gives.bind (Q:=fun r=>r=!(vR a b && vR c d)) ?_ fun r hr=>?_
 · refine Gives.bind (ra_validI a b) fun v hv=>Gives.ite (fun h=>Gives.now ?_) fun h=>Gives.bind (ra_validI c d) fun w hw=>Gives.now ?_
   · rw [←hv]; simp only [Bool.not_eq_true'] at h; rw [h]; rfl
   · rw [←hv,hw]; simp only [Bool.not_eq_true',Bool.not_eq_false] at h; rw [h]; rfl
 subst hr
 cases h1:vR a b with
 | false=>exact Gives.pos (by simp) (Gives.now (by simp [lR,h1]))
 | true =>
  cases h2:vR c d with
  | false=>exact Gives.pos (by simp) (Gives.now (by simp [lR,h1,h2]))
  | true =>
   refine Gives.neg (by simp) ?_
   obtain ⟨m,n,rfl,rfl,_,n0,m1,n1⟩:=vR_spec h1
   obtain ⟨p,q,rfl,rfl,_,q0,p1,q1⟩:=vR_spec h2
   have hl:lR m n p q=decide ((m:Int)*q < p*n):=by simp [lR,h1,h2]
   rw [hl]
   refine Gives.bind (ra_mul _ _) fun _ _=>Gives.bind (ra_mul _ _) fun _ _=>?_
   rw [u64_id (x:=(m:Int)) (by omega) (by omega),u64_id (x:=(n:Int)) (by omega) (by omega),u64_id (x:=(p:Int)) (by omega) (by omega),u64_id (x:=(q:Int)) (by omega) (by omega)]
   have g1:=hi_eq (x:=(m:Int)) (y:=q) (by omega) (by omega) (by omega) (by omega)
   have g2:=hi_eq (x:=(p:Int)) (y:=n) (by omega) (by omega) (by omega) (by omega)
   unfold hiE at g1 g2
   rw [g1,g2]
   have lo:∀ z:Int,IntKind.wrap .u64 z=z % 18446744073709551616:=fun z=>by
    show (if (false && decide (z % 18446744073709551616 ≥ 9223372036854775808))=true then z % 18446744073709551616 - 18446744073709551616 else z % 18446744073709551616)=_
    simp
   rw [lo,lo]
   generalize (m:Int)*q=X
   generalize (p:Int)*n=Y
   refine Gives.ite (fun h=>Gives.now ?_) fun h=>Gives.ite (fun h'=>Gives.now ?_) fun h'=>Gives.now ?_
   · simp only [Bool.or_eq_true,Bool.and_eq_true,decide_eq_true_eq] at h
     have:X < Y:=by omega
     simp [this]
   · simp only [Bool.or_eq_true,Bool.and_eq_true,decide_eq_true_eq] at h h'
     have:¬X < Y:=by omega
     simp [this]
   · simp only [Bool.or_eq_true,Bool.and_eq_true,decide_eq_true_eq] at h h'
     have:¬X < Y:=by omega
     simp [this]
theorem r01_less (a b c d:Int):Gives (fun k=>T_ref01_Less k a b c d) (·=lR a b c d):=by
 refine Gives.step ?_
 simp only [T_ref01_Less]
 refine Gives.bind (Q:=fun r=>decide (r < 0)=lR a b c d) ?_ fun r hr=>Gives.now hr
 refine Gives.step ?_
 simp only [T_ref01_Cmp]
 refine Gives.bind (Q:=fun r=>r=!(vR a b && vR c d)) ?_ fun r hr=>?_
 · refine Gives.bind (r01_validI a b) fun v hv=>Gives.ite (fun h=>Gives.now ?_) fun h=>Gives.bind (r01_validI c d) fun w hw=>Gives.now ?_
   · rw [←hv]; simp only [Bool.not_eq_true'] at h; rw [h]; rfl
   · rw [←hv,hw]; simp only [Bool.not_eq_true',Bool.not_eq_false] at h; rw [h]; rfl
 subst hr
 cases h1:vR a b with
 | false=>exact Gives.pos (by simp) (Gives.now (by simp [lR,h1]))
 | true =>
  cases h2:vR c d with
  | false=>exact Gives.pos (by simp) (Gives.now (by simp [lR,h1,h2]))
  | true =>
   refine Gives.neg (by simp) ?_
   obtain ⟨m,n,rfl,rfl,_,n0,m1,n1⟩:=vR_spec h1
   obtain ⟨p,q,rfl,rfl,_,q0,p1,q1⟩:=vR_spec h2
   have hl:lR m n p q=decide ((m:Int)*q < p*n):=by simp [lR,h1,h2]
   rw [hl]
   refine Gives.bind (ro_order (n+q+1) m n p q (by omega) n0 q0 (by omega) (by omega) (by omega) (by omega)) fun r hr=>Gives.now ?_
   have c1:((m*q:Nat):Int)=(m:Int)*q:=by simp
   have c2:((p*n:Nat):Int)=(p:Int)*n:=by simp
   rw [←c1,←c2]
   rcases hr with ⟨h,rfl⟩ | ⟨h,rfl⟩ | ⟨h,rfl⟩
   · have:((m*q:Nat):Int) < ((p*n:Nat):Int):=by omega
     simp only [this]; decide
   · have:¬((m*q:Nat):Int) < ((p*n:Nat):Int):=by omega
     simp only [this]; decide
   · have:¬((m*q:Nat):Int) < ((p*n:Nat):Int):=by omega
     simp only [this]; decide

theorem at_nat {α:Type} {xs:List α} {n:Nat} (h:n < xs.length):at? xs (n:Int)=some xs[n]:=by
 unfold at?
 rw [if_pos (by omega),Int.toNat_natCast,List.getElem?_eq_getElem h]
theorem w64_nat {n:Nat} (h:n≤140737488351232):w64 ((n:Int)+1)=((n+1:Nat):Int):=by
 rw [w64_id (by omega) (by omega)]; omega
theorem any_take {α:Type} {p:α→Bool} {xs:List α} {n:Nat} (h:n < xs.length):(xs.take (n+1)).any p=((xs.take n).any p || p xs[n]):=by
 rw [List.take_succ_eq_append_getElem h,List.any_append]
 simp
theorem any_at {α:Type} {p:α→Bool} {xs:List α} {n:Nat} (h:n < xs.length) (hp:p xs[n]=true):xs.any p=true:=List.any_eq_true.2 ⟨_,List.getElem_mem h,hp⟩
def badS (v:Int):Bool:=!decide (v=1073741824) && !(decide (-1000≤v) && decide (v≤1000))
def noS (v:Int):Bool:=!(decide (-1000≤v) && decide (v≤1000))
def Short (l:List Int):Prop:=l.length≤140737488351232
theorem sto_bad (v:Int):Gives (fun k=>T_store_Check_1 k v) (·=badS v):=by
 refine Gives.step ?_
 simp only [T_store_Check_1]
 refine Gives.bind (Q:=fun b=>b=badS v) ?_ fun b hb=>Gives.now hb
 refine Gives.ite (fun h=>?_) fun h=>Gives.now ?_
 · refine Gives.bind (Q:=fun _=>True) (Gives.step (by simp only [T_store_sample]; exact Gives.now trivial)) fun _ _=>Gives.now ?_
   simp only [badS,h,Bool.true_and]
 · simp only [Bool.not_eq_true',Bool.not_eq_false] at h
   simp only [badS,h,Bool.not_true,Bool.false_and]
theorem sto_any {xs:List Int} (hx:Short xs):Gives (fun k=>T_slices_ContainsFunc_b354 k xs) (·=xs.any badS):=by
 refine Gives.step ?_
 simp only [T_slices_ContainsFunc_b354]
 refine Gives.bind (Q:=fun r=>decide (0≤r)=xs.any badS) ?_ fun r hr=>Gives.now hr
 refine Gives.step ?_
 simp only [T_slices_IndexFunc_b354]
 refine Gives.bind (Q:=fun (r:Unit ⊕ Int)=>match r with | .inl _=>xs.any badS=false | .inr i=>0≤i∧xs.any badS=true) ?_ fun r hr=>?_
 · refine Gives.loop (fun (s:Int)=>∃ n:Nat,s=n∧n≤xs.length∧(xs.take n).any badS=false) (fun s=>xs.length - s.toNat) ?_ ⟨0,rfl,by omega,by simp⟩
   rintro s ⟨n,rfl,hn,ha⟩
   unfold T_slices_IndexFunc_b354_l1
   refine Gives.ite (fun h=>?_) fun h=>Gives.now ?_
   · have h:n < xs.length:=by omega
     refine Gives.opt (at_nat h) (Gives.bind (sto_bad _) fun b hb=>?_)
     subst hb
     refine Gives.ite (fun hb=>Gives.now ?_) fun hb=>Gives.now ?_
     · exact ⟨by omega,any_at h hb⟩
     · unfold Short at hx
       rw [w64_nat (by omega)]
       refine ⟨⟨n+1,rfl,h,by rw [any_take h,ha]; simpa using hb⟩,by simp only [Int.toNat_natCast]; omega⟩
   · have:n=xs.length:=by omega
     rw [this,List.take_length] at ha
     exact ha
 · cases r with
   | inl u=>exact Gives.now (by simp only at hr; rw [hr]; decide)
   | inr i=>exact Gives.now (by simp only at hr; rw [hr.2]; simpa using hr.1)
def tot (xss:List (List Int)):Nat:=(xss.map List.length).sum
theorem tot_take {xss:List (List Int)} {n:Nat} (h:n < xss.length):tot (xss.take (n+1))=tot (xss.take n)+xss[n].length:=by
 unfold tot
 rw [List.take_succ_eq_append_getElem h,List.map_append,List.sum_append]
 simp only [List.map_cons,List.map_nil,List.sum_cons,List.sum_nil,Nat.add_zero]
theorem tot_le {xss:List (List Int)} (n:Nat):tot (xss.take n)≤tot xss:=by
 unfold tot
 conv=>rhs; rw [←List.take_append_drop n xss]
 rw [List.map_append,List.sum_append]
 omega
theorem tot_bound:∀ {xss:List (List Int)},(∀ l∈xss,Short l)→tot xss≤xss.length*140737488351232
 | [],_=>by simp [tot]
 | l::r,h=>by
  have ih:=tot_bound (xss:=r) fun x hx=>h x (by simp [hx])
  have h1:l.length≤140737488351232:=h l (by simp)
  simp only [tot,List.map_cons,List.sum_cons,List.length_cons] at ih ⊢
  omega
theorem row_le {xss:List (List Int)} {l:List Int} (h:l∈xss):l.length≤tot xss:=by
 induction xss with
 | nil=>simp at h
 | cons x r ih =>
  simp only [tot,List.map_cons,List.sum_cons]
  rcases List.mem_cons.1 h with rfl | h
  · omega
  · have:=ih h; unfold tot at this; omega
def chkV (xss:List (List Int)):Int:=if 16 < xss.length∨2000 < tot xss then 20 else if xss.any (·.any badS)=true then 12 else 0
def Wide (xss:List (List Int)):Prop:=xss.length≤140737488351232∧∀ l∈xss,Short l
theorem sto_check {xss:List (List Int)} (hx:Wide xss):Gives (fun k=>T_store_Check k xss) (·=chkV xss):=by
 refine Gives.step ?_
 simp only [T_store_Check]
 refine Gives.bind (Q:=fun (r:Int)=>xss.length≤16→r=tot xss) ?_ fun r hr=>?_
 · refine Gives.loop (fun (s:Int × Int)=>∃ n:Nat,s.2=n∧n≤xss.length∧(xss.length≤16→s.1=tot (xss.take n))) (fun s=>xss.length - s.2.toNat) ?_ ⟨0,rfl,by omega,fun _=>by simp [tot]⟩
   rintro ⟨a,i⟩ ⟨n,e,hn,ha⟩
   simp only at e ha
   subst e
   unfold T_store_Check_l1
   refine Gives.ite (fun h=>?_) fun h=>Gives.now fun h16=>?_
   · have h:n < xss.length:=by simp only at h; omega
     refine Gives.opt (at_nat h) (Gives.now ?_)
     have:=hx.1
     simp only
     rw [w64_nat (by omega)]
     refine ⟨⟨n+1,rfl,h,fun h16=>?_⟩,by simp only [Int.toNat_natCast]; omega⟩
     have b:=tot_bound (xss:=xss) hx.2
     have b1:=tot_le (xss:=xss) (n+1)
     rw [tot_take h] at b1 ⊢
     rw [ha h16,w64_id (by omega) (by omega)]
     omega
   · have:n=xss.length:=by simp only at h; omega
     rw [this,List.take_length] at ha
     exact ha h16
 have e0:(decide (16 < (xss.length:Int)) || decide (2000 < r))=true↔(16 < xss.length∨2000 < tot xss):=by
  simp only [Bool.or_eq_true,decide_eq_true_eq]
  constructor
  · rintro (h | h)
    · exact .inl (by omega)
    · rcases Nat.lt_or_ge 16 xss.length with c | c
      · exact .inl c
      · have:=hr c; exact .inr (by omega)
  · rintro (h | h)
    · exact .inl (by omega)
    · rcases Nat.lt_or_ge 16 xss.length with c | c
      · exact .inl (by omega)
      · have:=hr c; exact .inr (by omega)
 refine Gives.ite (fun h=>Gives.now ?_) fun h=>?_
 · unfold chkV; rw [if_pos (e0.1 h)]
 have hc:¬(16 < xss.length∨2000 < tot xss):=fun c=>h (e0.2 c)
 refine Gives.bind (Q:=fun (r:Unit ⊕ Unit)=>match r with | .inl _=>xss.any (·.any badS)=false | .inr _=>xss.any (·.any badS)=true) ?_ fun r hr=>?_
 · refine Gives.loop (fun (s:Int)=>∃ n:Nat,s=n∧n≤xss.length∧(xss.take n).any (·.any badS)=false) (fun s=>xss.length - s.toNat) ?_ ⟨0,rfl,by omega,by simp⟩
   rintro s ⟨n,rfl,hn,ha⟩
   unfold T_store_Check_l2
   refine Gives.ite (fun h=>?_) fun h=>Gives.now ?_
   · have h:n < xss.length:=by omega
     refine Gives.opt (at_nat h) (Gives.bind (sto_any (hx.2 _ (List.getElem_mem h))) fun b hb=>?_)
     subst hb
     refine Gives.ite (fun hb=>Gives.now ?_) fun hb=>Gives.now ?_
     · exact any_at (p:=fun l:List Int=>l.any badS) h hb
     · have:=hx.1
       rw [w64_nat (by omega)]
       refine ⟨⟨n+1,rfl,h,by rw [any_take h,ha]; simpa using hb⟩,by simp only [Int.toNat_natCast]; omega⟩
   · have:n=xss.length:=by omega
     rw [this,List.take_length] at ha
     exact ha
 · unfold chkV
   rw [if_neg hc]
   cases r with
   | inl u=>exact Gives.now (by simp only at hr; rw [hr]; rfl)
   | inr u=>exact Gives.now (by simp only at hr; rw [hr]; rfl)
theorem ref_check {xss:List (List Int)} (hx:Wide xss):Gives (fun k=>T_ref23_Check k xss) (·=chkV xss):=by
 refine Gives.step ?_
 simp only [T_ref23_Check]
 refine Gives.ite (fun h=>Gives.now ?_) fun h=>?_
 · unfold chkV; rw [if_pos (.inl (by omega))]
 have h16:xss.length≤16:=by omega
 have b:=tot_bound (xss:=xss) hx.2
 refine Gives.bind (Q:=fun (r:Unit ⊕ Unit)=>match r with | .inl _=>tot xss≤2000 | .inr _=>2000 < tot xss) ?_ fun r hr=>?_
 · refine Gives.loop (fun (s:Int × Int)=>∃ n:Nat,s.2=n∧n≤xss.length∧s.1=tot (xss.take n)∧tot (xss.take n)≤2000) (fun s=>xss.length - s.2.toNat) ?_ ⟨0,rfl,by omega,by simp [tot],by simp [tot]⟩
   rintro ⟨a,i⟩ ⟨n,e,hn,ha,hb⟩
   simp only at e ha
   subst e ha
   unfold T_ref23_Check_l1
   refine Gives.ite (fun h=>?_) fun h=>Gives.now ?_
   · have h:n < xss.length:=by simp only at h; omega
     refine Gives.opt (at_nat h) ?_
     have b1:=tot_le (xss:=xss) (n+1)
     have t:=tot_take h
     simp only
     rw [w64_id (x:=((tot (xss.take n):Nat):Int)+(xss[n].length:Int)) (by omega) (by omega)]
     refine Gives.ite (fun hb=>Gives.now ?_) fun hb=>Gives.now ?_
     · show 2000 < tot xss
       omega
     · have:=hx.1
       rw [w64_nat (by omega)]
       refine ⟨⟨n+1,rfl,h,by rw [t]; simp,by omega⟩,by simp only [Int.toNat_natCast]; omega⟩
   · have:n=xss.length:=by simp only at h; omega
     rw [this,List.take_length] at hb
     exact hb
 cases r with
 | inr u=>exact Gives.now (by simp only at hr; unfold chkV; rw [if_pos (.inr hr)])
 | inl u =>
  simp only at hr
  have hc:¬(16 < xss.length∨2000 < tot xss):=by omega
  refine Gives.bind (Q:=fun (r:Unit ⊕ Unit)=>match r with | .inl _=>xss.any (·.any badS)=false | .inr _=>xss.any (·.any badS)=true) ?_ fun r hr=>?_
  · refine Gives.loop (fun (s:Int)=>∃ n:Nat,s=n∧n≤xss.length∧(xss.take n).any (·.any badS)=false) (fun s=>xss.length - s.toNat) ?_ ⟨0,rfl,by omega,by simp⟩
    rintro s ⟨n,rfl,hn,ha⟩
    unfold T_ref23_Check_l3
    refine Gives.ite (fun h=>?_) fun h=>Gives.now ?_
    · have h:n < xss.length:=by omega
      have hs:=hx.2 _ (List.getElem_mem h)
      unfold Short at hs
      refine Gives.bind (Q:=fun (r:Unit ⊕ Unit)=>match r with | .inl _=>xss[n].any badS=false | .inr _=>xss[n].any badS=true) ?_ fun r hr=>?_
      · refine Gives.loop (fun (s:Int)=>∃ j:Nat,s=j∧j≤xss[n].length∧(xss[n].take j).any badS=false) (fun s=>xss[n].length - s.toNat) ?_ ⟨0,rfl,by omega,by simp⟩
        rintro s ⟨j,rfl,hj,hja⟩
        unfold T_ref23_Check_l2
        refine Gives.opt (at_nat h) (Gives.ite (fun hl=>?_) fun hl=>Gives.now ?_)
        · have hl:j < xss[n].length:=by omega
          refine Gives.opt (at_nat h) (Gives.opt (at_nat hl) (Gives.bind (Q:=fun b=>b=badS xss[n][j]) ?_ fun b hb=>?_))
          · refine Gives.ite (fun h=>?_) fun h=>Gives.now ?_
            · refine Gives.bind (Q:=fun _=>True) (Gives.step (by simp only [T_ref23_Sample]; exact Gives.now trivial)) fun _ _=>Gives.now ?_
              simp only [badS,h,Bool.true_and]
            · simp only [Bool.not_eq_true',Bool.not_eq_false] at h
              simp only [badS,h,Bool.not_true,Bool.false_and]
          · subst hb
            refine Gives.ite (fun hb=>Gives.now (any_at hl hb)) fun hb=>Gives.now ?_
            rw [w64_nat (by omega)]
            exact ⟨⟨j+1,rfl,hl,by rw [any_take hl,hja]; simpa using hb⟩,by simp only [Int.toNat_natCast]; omega⟩
        · have:j=xss[n].length:=by omega
          rw [this,List.take_length] at hja
          exact hja
      · cases r with
        | inl u =>
         simp only at hr
         refine Gives.now ?_
         have:=hx.1
         rw [w64_nat (by omega)]
         exact ⟨⟨n+1,rfl,h,by rw [any_take h,ha,hr]; rfl⟩,by simp only [Int.toNat_natCast]; omega⟩
        | inr u=>exact Gives.now (any_at (p:=fun l:List Int=>l.any badS) h hr)
    · have:n=xss.length:=by omega
      rw [this,List.take_length] at ha
      exact ha
  · unfold chkV
    rw [if_neg hc]
    cases r with
    | inl u=>exact Gives.now (by simp only at hr; rw [hr]; rfl)
    | inr u=>exact Gives.now (by simp only at hr; rw [hr]; rfl)
theorem chk_ok {xss:List (List Int)} (h:chkV xss=0):xss.length≤16∧tot xss≤2000:=by
 unfold chkV at h
 split at h
 · cases h
 · omega

def miss (v:Int):Bool:=decide (v=1073741824)
def cl (l:List Int) (m k:Nat):Bool:=decide (k+m≤l.length) && !((l.drop k).take m).any miss
theorem cl_iff {l:List Int} {m k:Nat}:cl l m k=true↔k+m≤l.length∧∀ (j:Nat) (h:j < l.length),k≤j→j < k+m→l[j]≠1073741824:=by
 simp only [cl,Bool.and_eq_true,decide_eq_true_eq,Bool.not_eq_true']
 refine and_congr_right fun hk=>?_
 rw [Bool.eq_false_iff]
 constructor
 · intro h j hj h1 h2 e
   refine h (List.any_eq_true.2 ⟨l[j],?_,by simp [miss,e]⟩)
   refine List.mem_of_getElem? (i:=j - k) ?_
   rw [List.getElem?_take,if_pos (by omega),List.getElem?_drop,List.getElem?_eq_getElem (by omega:k+(j - k) < l.length)]
   congr 2; omega
 · intro h e
   obtain ⟨v,hv,hm⟩:=List.any_eq_true.1 e
   obtain ⟨i,hi⟩:=List.getElem?_of_mem hv
   rw [List.getElem?_take] at hi
   split at hi
   · rw [List.getElem?_drop] at hi
     obtain ⟨hlt,he⟩:=List.getElem?_eq_some_iff.1 hi
     refine h (k+i) hlt (by omega) (by omega) ?_
     rw [he]
     simpa [miss] using hm
   · cases hi
def stN (l:List Int) (m n:Nat):List Nat:=(List.range n).filter (cl l m)
theorem stN_succ (l:List Int) (m n:Nat):stN l m (n+1)=if cl l m n=true then stN l m n++[n] else stN l m n:=by
 unfold stN
 rw [List.range_succ,List.filter_append]
 split
 · rename_i h; simp [h]
 · rename_i h; simp [h]
theorem stN_more {l:List Int} {m n:Nat} (h:l.length < n+m):∀ d,stN l m (n+d)=stN l m n
 | 0=>rfl
 | d+1=>by
  rw [←Nat.add_assoc,stN_succ,stN_more h d,if_neg]
  intro c
  have:=(cl_iff.1 c).1
  omega
theorem stN_len (l:List Int) (m n:Nat):(stN l m n).length≤n:=by
 unfold stN
 have:=List.length_filter_le (cl l m) (List.range n)
 simpa using this
def stI (l:List Int) (m n:Nat):List Int:=(stN l m n).map fun (k:Nat)=>(k:Int)
theorem stI_len (l:List Int) (m n:Nat):(stI l m n).length≤n:=by unfold stI; rw [List.length_map]; exact stN_len l m n
theorem take_all {α:Type} {n:Nat} {xs:List α} (h:n=xs.length):(xs.drop 0).take n=xs:=by subst h; simp
theorem sto_starts {l:List Int} {m:Nat} (hl:l.length≤2000) (h2:2≤m) (h32:m≤32):Gives (fun k=>T_store_Starts k l m) (·=stI l m l.length):=by
 refine Gives.step ?_
 simp only [T_store_Starts]
 refine Gives.bind (Q:=fun (r:Nat × List Int)=>r.1=r.2.length∧r.2=stI l m (l.length+1 - m)) ?_ fun r hr=>Gives.now ?_
 · refine Gives.loop (fun (s:Nat × Int × Int × List Int)=>∃ n b:Nat,s.2.2.1=n∧n≤l.length∧s.2.1=b∧b≤n∧s.1=s.2.2.2.length∧s.2.2.2=stI l m (n+1 - m)∧(∀ (j:Nat) (h:j < l.length),b≤j→j < n→l[j]≠1073741824) ∧
    (b=0∨∃ h:b - 1 < l.length,l[b - 1]=1073741824)) (fun s=>l.length - s.2.2.1.toNat) ?_ ⟨0,0,rfl,by omega,rfl,by omega,rfl,?_,fun j h h1 h2=>by omega,.inl rfl⟩
   · rintro ⟨c,b',i,out⟩ ⟨n,b,e1,hn,e2,hb,hc,ho,hfree,hmiss⟩
     simp only at e1 e2 hc ho
     subst e1 e2
     unfold T_store_Starts_l1
     refine Gives.ite (fun h=>?_) fun h=>Gives.now ?_
     · have h:n < l.length:=by simp only at h; omega
       refine Gives.opt (at_nat h) ?_
       simp only
       rw [w64_nat (by omega),w64_id (x:=((n+1:Nat):Int) - m) (by omega) (by omega)]
       obtain ⟨q,hq1,hq2,hq3,hq4⟩:∃ q:Nat,(if l[n]=1073741824 then some (((n+1:Nat):Int)) else some (b:Int))=some (q:Int)∧q≤n+1∧(∀ (j:Nat) (h:j < l.length),q≤j→j < n+1→l[j]≠1073741824)∧(q=0∨∃ h:q - 1 < l.length,l[q - 1]=1073741824):=by
        by_cases c:l[n]=1073741824
        · refine ⟨n+1,by rw [if_pos c],by omega,fun j hj h1 h2=>by omega,.inr ⟨by simpa using h,by simpa using c⟩⟩
        · refine ⟨b,by rw [if_neg c],by omega,fun j hj h1 h2=>?_,hmiss⟩
          rcases Nat.lt_or_ge j n with c2 | c2
          · exact hfree j hj h1 c2
          · have:j=n:=by omega
            subst this; exact c
       refine Gives.opt hq1 ?_
       have key:((q:Int)≤((n+1:Nat):Int) - m)↔(m≤n+1∧cl l m (n+1 - m)=true):=by
        constructor
        · intro hle
          refine ⟨by omega,cl_iff.2 ⟨by omega,fun j hj h1 h2=>hq3 j hj (by omega) (by omega)⟩⟩
        · rintro ⟨hm,hcl⟩
          rcases Nat.lt_or_ge (n+1 - m) q with c | c
          · rcases hq4 with hq4 | ⟨hlt,hq4⟩
            · omega
            · exact absurd hq4 ((cl_iff.1 hcl).2 (q - 1) hlt (by omega) (by omega))
          · omega
       have olen:out.length≤n+1:=by rw [ho]; have:=stI_len l m (n+1 - m); omega
       refine Gives.bind (Q:=fun (r:Nat × List Int)=>r.1=r.2.length∧r.2=stI l m (n+1+1 - m)) ?_ fun r hr=>Gives.now ?_
       · refine Gives.ite (fun hle=>Gives.pos (by show c+1≤4294967296; omega) (Gives.now ?_)) fun hle=>Gives.now ?_
         · obtain ⟨hm,hcl⟩:=key.1 hle
           simp only
           rw [take_all hc]
           have e:n+1+1 - m=(n+1 - m)+1:=by omega
           refine ⟨by simp [hc],?_⟩
           rw [e]
           unfold stI
           rw [stN_succ,if_pos hcl,List.map_append,ho]
           unfold stI
           congr 1
           simp
           omega
         · refine ⟨hc,?_⟩
           simp only
           rw [ho]
           by_cases hm:m≤n+1
           · have hcl:¬cl l m (n+1 - m)=true:=fun c=>hle (key.2 ⟨hm,c⟩)
             have e:n+1+1 - m=(n+1 - m)+1:=by omega
             rw [e]
             unfold stI
             rw [stN_succ,if_neg hcl]
           · have e1:n+1+1 - m=0:=by omega
             have e2:n+1 - m=0:=by omega
             rw [e1,e2]
       · obtain ⟨r1,r2⟩:=r
         simp only at hr
         exact ⟨⟨n+1,q,rfl,h,rfl,hq2,hr.1,hr.2,hq3,hq4⟩,by simp only [Int.toNat_natCast]; omega⟩
     · have:n=l.length:=by simp only at h; omega
       subst this
       exact ⟨hc,ho⟩
   · show []=stI l m (0+1 - m)
     have:0+1 - m=0:=by omega
     rw [this]; rfl
 · obtain ⟨h1,h3⟩:=hr
   rw [take_all h1,h3]
   unfold stI
   rcases Nat.lt_or_ge l.length (m - 1) with c | c
   · have e:l.length+1 - m=0:=by omega
     rw [e]
     have:=stN_more (l:=l) (m:=m) (n:=0) (by omega) l.length
     rw [Nat.zero_add] at this
     rw [this]
   · have:=stN_more (l:=l) (m:=m) (n:=l.length+1 - m) (by omega) (m - 1)
     have e:l.length+1 - m+(m - 1)=l.length:=by omega
     rw [e] at this
     rw [this]
theorem ref_whole {l:List Int} {m:Nat} {p:Int} (hl:l.length≤2000) (h2:2≤m) (h32:m≤32) (hp:0≤p) (hp2:p≤9223372036854775807):Gives (fun k=>T_ref23_whole k l p m) (·=cl l m p.toNat):=by
 obtain ⟨q,rfl⟩:∃ q:Nat,p=q:=⟨p.toNat,by omega⟩
 refine Gives.step ?_
 simp only [T_ref23_whole,Int.toNat_natCast]
 rw [w64_id (x:=(l.length:Int) - m) (by omega) (by omega)]
 refine Gives.ite (fun h=>Gives.now ?_) fun h=>?_
 · simp only [Bool.or_eq_true,decide_eq_true_eq] at h
   have:¬q+m≤l.length:=by omega
   simp [cl,this]
 · simp only [Bool.or_eq_true,decide_eq_true_eq,not_or] at h
   have hk:q+m≤l.length:=by omega
   refine Gives.bind (Q:=fun (r:Unit ⊕ Unit)=>match r with | .inl _=>cl l m q=true | .inr _=>cl l m q=false) ?_ fun r hr=>?_
   · refine Gives.loop (fun (s:Int)=>∃ n:Nat,s=n∧n≤m∧∀ (j:Nat) (h:j < l.length),q≤j→j < q+n→l[j]≠1073741824) (fun s=>m - s.toNat) ?_ ⟨0,rfl,by omega,fun j h h1 h2=>by omega⟩
     rintro s ⟨n,rfl,hn,ha⟩
     unfold T_ref23_whole_l1
     refine Gives.ite (fun h=>?_) fun h=>Gives.now ?_
     · have h:n < m:=by omega
       have hlt:q+n < l.length:=by omega
       have e:w64 ((q:Int)+n)=((q+n:Nat):Int):=by rw [w64_id (by omega) (by omega)]; omega
       rw [e]
       refine Gives.opt (at_nat hlt) (Gives.ite (fun hb=>Gives.now ?_) fun hb=>Gives.now ?_)
       · show cl l m q=false
         rw [Bool.eq_false_iff]
         intro c
         exact (cl_iff.1 c).2 (q+n) hlt (by omega) (by omega) hb
       · rw [w64_nat (by omega)]
         refine ⟨⟨n+1,rfl,h,fun j hj h1 h2=>?_⟩,by simp only [Int.toNat_natCast]; omega⟩
         rcases Nat.lt_or_ge j (q+n) with c | c
         · exact ha j hj h1 c
         · have:j=q+n:=by omega
           subst this; exact hb
     · have:n=m:=by omega
       subst this
       exact cl_iff.2 ⟨hk,ha⟩
   · cases r with
     | inl u=>exact Gives.now (by simp only at hr; rw [hr])
     | inr u=>exact Gives.now (by simp only at hr; rw [hr])
def plN (xss:List (List Int)) (m n:Nat):List (Int × Int):=(List.range n).flatMap fun i=>(stI (xss.getD i []) m (xss.getD i []).length).map fun k=>((i:Int),k)
theorem plN_succ (xss:List (List Int)) (m n:Nat):plN xss m (n+1)=plN xss m n++(stI (xss.getD n []) m (xss.getD n []).length).map fun k=>((n:Int),k):=by
 unfold plN
 rw [List.range_succ,List.flatMap_append]
 simp
theorem plN_len {xss:List (List Int)} {m:Nat}:∀ {n:Nat},n≤xss.length→(plN xss m n).length≤tot (xss.take n)
 | 0,_=>by simp [plN]
 | n+1,h=>by
  have ih:=plN_len (xss:=xss) (m:=m) (n:=n) (by omega)
  rw [plN_succ,tot_take (by omega),List.length_append,List.length_map]
  have:=stI_len (xss.getD n []) m (xss.getD n []).length
  have e:xss.getD n []=xss[n]:=by rw [List.getD_eq_getElem?_getD,List.getElem?_eq_getElem (by omega)]; rfl
  rw [e] at this ⊢
  omega
theorem getD_at {xss:List (List Int)} {n:Nat} (h:n < xss.length):xss.getD n []=xss[n]:=by rw [List.getD_eq_getElem?_getD,List.getElem?_eq_getElem h]; rfl
theorem LIM_ok {c:Nat} (h:c≤4000):c+1≤LIM:=by show c+1≤4294967296; omega
def plV (xss:List (List Int)) (p:Int):List (Int × Int) × Int:=if chkV xss=0 then (if 2≤p∧p≤32 then (plN xss p.toNat xss.length,0) else ([],8)) else ([],chkV xss)
theorem ref_places {xss:List (List Int)} (hx:Wide xss) (p:Int):Gives (fun k=>T_ref23_Places k xss p) (·=plV xss p):=by
 refine Gives.step ?_
 simp only [T_ref23_Places]
 refine Gives.bind (ref_check hx) fun r hr=>?_
 subst hr
 unfold plV
 by_cases h0:chkV xss=0
 · rw [if_pos h0]
   refine Gives.neg (by simp [h0]) ?_
   by_cases hp:2≤p∧p≤32
   · rw [if_pos hp]
     refine Gives.neg (by simp; omega) ?_
     obtain ⟨m,rfl⟩:∃ m:Nat,p=m:=⟨p.toNat,by omega⟩
     rw [Int.toNat_natCast]
     obtain ⟨h16,h2000⟩:=chk_ok h0
     refine Gives.bind (Q:=fun (r:Nat × List (Int × Int))=>r.1=r.2.length∧r.2=plN xss m xss.length) ?_ fun r hr=>Gives.now (by rw [take_all hr.1,hr.2])
     refine Gives.loop (fun (s:Nat × Int × List (Int × Int))=>∃ n:Nat,s.2.1=n∧n≤xss.length∧s.1=s.2.2.length∧s.2.2=plN xss m n) (fun s=>xss.length - s.2.1.toNat) ?_ ⟨0,rfl,by omega,rfl,rfl⟩
     rintro ⟨c,i,out⟩ ⟨n,e1,hn,hc,ho⟩
     simp only at e1 hc ho
     subst e1
     unfold T_ref23_Places_l2
     refine Gives.ite (fun h=>?_) fun h=>Gives.now ?_
     · have h:n < xss.length:=by simp only at h; omega
       have hrow:=row_le (List.getElem_mem h)
       have hlen:=plN_len (xss:=xss) (m:=m) (n:=n) hn
       have hle:=tot_le (xss:=xss) n
       refine Gives.bind (Q:=fun (r:Nat × List (Int × Int))=>r.1=r.2.length∧r.2=plN xss m (n+1)) ?_ fun r hr=>Gives.now ?_
       · refine Gives.loop (fun (s:Nat × Int × List (Int × Int))=>∃ j:Nat,s.2.1=j∧j≤xss[n].length∧s.1=s.2.2.length∧s.2.2=out++(stI xss[n] m j).map fun k=>((n:Int),k)) (fun s=>xss[n].length - s.2.1.toNat) ?_ ⟨0,rfl,by omega,hc,by simp [stI,stN]⟩
         rintro ⟨c',i',out'⟩ ⟨j,e1,hj,hc',ho'⟩
         simp only at e1 hc' ho'
         subst e1
         unfold T_ref23_Places_l1
         have ol:out'.length≤4000:=by
          rw [ho',List.length_append,List.length_map,ho]; have:=stI_len xss[n] m j; omega
         refine Gives.opt (at_nat h) (Gives.ite (fun hl=>?_) fun hl=>Gives.now ?_)
         · have hl:j < xss[n].length:=by simp only at hl; omega
           refine Gives.opt (at_nat h) (Gives.bind (ref_whole (l:=xss[n]) (m:=m) (p:=(j:Int)) (by omega) (by omega) (by omega) (by omega) (by omega)) fun b hb=>?_)
           rw [Int.toNat_natCast] at hb
           refine Gives.bind (Q:=fun (r:Nat × List (Int × Int))=>r.1=r.2.length∧r.2=out++(stI xss[n] m (j+1)).map fun k=>((n:Int),k)) ?_ fun r hr=>Gives.now ?_
           · refine Gives.ite (fun hbt=>Gives.pos (LIM_ok (by simp only; omega)) (Gives.now ?_)) fun hbt=>Gives.now ?_
             · simp only
               rw [take_all hc']
               refine ⟨by simp [hc'],?_⟩
               rw [ho']
               unfold stI
               rw [stN_succ,if_pos (by rw [←hb]; exact hbt)]
               simp
             · refine ⟨hc',?_⟩
               simp only
               rw [ho']
               unfold stI
               rw [stN_succ,if_neg (by rw [←hb]; exact hbt)]
           · rw [w64_nat (by omega)]
             exact ⟨⟨j+1,rfl,hl,hr.1,hr.2⟩,by simp only [Int.toNat_natCast]; omega⟩
         · have:j=xss[n].length:=by simp only at hl; omega
           subst this
           refine ⟨hc',?_⟩
           simp only
           rw [ho',plN_succ,ho,getD_at h]
       · have:=hx.1
         simp only
         rw [w64_nat (by omega)]
         exact ⟨⟨n+1,rfl,h,hr.1,hr.2⟩,by simp only [Int.toNat_natCast]; omega⟩
     · have:n=xss.length:=by simp only at h; omega
       subst this
       exact ⟨hc,ho⟩
   · rw [if_neg hp]
     exact Gives.pos (by simp; omega) (Gives.now rfl)
 · rw [if_neg h0]
   exact Gives.pos (by simp [h0]) (Gives.now rfl)

def beV (a b c d a' b' c' d':Int):Bool:=if lR a b a' b'=true then true else if lR a' b' a b=true then false else decide (c < c') || (decide (c=c') && decide (d < d'))
theorem sto_before (a b c d a' b' c' d':Int):Gives (fun k=>T_store_Before k a b c d a' b' c' d') (·=beV a b c d a' b' c' d'):=by
 refine Gives.step ?_
 simp only [T_store_Before]
 unfold beV
 refine Gives.bind (ra_less a b a' b') fun v hv=>?_
 subst hv
 refine Gives.ite (fun h=>Gives.now (by rw [if_pos h])) fun h=>?_
 rw [if_neg h]
 refine Gives.bind (ra_less a' b' a b) fun v hv=>?_
 subst hv
 refine Gives.ite (fun h=>Gives.now (by rw [if_pos h])) fun h=>?_
 rw [if_neg h]
 refine Gives.bind (Q:=fun r=>decide (r < 0)=(decide (c < c') || (decide (c=c') && decide (d < d')))) ?_ fun r hr=>Gives.now hr
 refine Gives.step ?_
 simp only [T_store_Compare]
 have cmq:∀ x y:Int,Gives (fun k=>T_cmp_Compare_557a k x y) (·=if x < y then -1 else if y < x then 1 else 0):=by
  intro x y
  refine Gives.step ?_
  have e:∀ k,T_cmp_Compare_557a (k+1) x y=((T_cmp_isNaN_557a k x).bind fun _=>(T_cmp_isNaN_557a k y).bind fun _=>if x < y then some (-1) else if y < x then some 1 else some 0):=fun k=>by
   rw [T_cmp_Compare_557a]; simp
  simp only [e]
  have nan:∀ z,Gives (fun k=>T_cmp_isNaN_557a k z) (fun _=>True):=fun z=>Gives.step (by simp only [T_cmp_isNaN_557a]; exact Gives.now trivial)
  refine Gives.bind (nan x) fun _ _=>Gives.bind (nan y) fun _ _=>Gives.ite (fun h=>Gives.now (by rw [if_pos h])) fun h=>?_
  rw [if_neg h]
  exact Gives.ite (fun h=>Gives.now (by rw [if_pos h])) fun h=>Gives.now (by rw [if_neg h])
 refine Gives.bind (cmq c c') fun u hu=>Gives.bind (cmq d d') fun v hv=>Gives.bind (Q:=fun r=>r=if u=0 then v else u) ?_ fun r hr=>Gives.now ?_
 · refine Gives.step ?_
   simp only [T_cmp_Or_557a]
   refine Gives.bind (Q:=fun (r:Unit ⊕ Int)=>match r with | .inl _=>u=0∧v=0 | .inr x=>x=if u=0 then v else u) ?_ fun r hr=>?_
   · refine Gives.loop (fun (s:Int)=>s=0∨(s=1∧u=0)∨(s=2∧u=0∧v=0)) (fun s=>2 - s.toNat) ?_ (.inl rfl)
     intro s hs
     unfold T_cmp_Or_557a_l1
     rcases hs with rfl | ⟨rfl,h0⟩ | ⟨rfl,h0,h1⟩
     · refine Gives.pos (by simp) (Gives.opt (a:=u) rfl (Gives.ite (fun h=>Gives.now ?_) fun h=>Gives.now ?_))
       · simp only [Bool.not_eq_true',decide_eq_false_iff_not] at h
         show u=if u=0 then v else u
         rw [if_neg h]
       · simp only [Bool.not_eq_true',Bool.not_eq_false,decide_eq_true_eq] at h
         exact ⟨.inr (.inl ⟨rfl,h⟩),by decide⟩
     · refine Gives.pos (by simp) (Gives.opt (a:=v) rfl (Gives.ite (fun h=>Gives.now ?_) fun h=>Gives.now ?_))
       · show v=if u=0 then v else u
         rw [if_pos h0]
       · simp only [Bool.not_eq_true',Bool.not_eq_false,decide_eq_true_eq] at h
         exact ⟨.inr (.inr ⟨rfl,h0,h⟩),by decide⟩
     · exact Gives.neg (by simp) (Gives.now ⟨h0,h1⟩)
   · cases r with
     | inl x=>simp only at hr; exact Gives.now (by rw [if_pos hr.1,hr.2])
     | inr x=>simp only at hr; exact Gives.now hr
 · subst hu hv hr
   rcases Int.lt_trichotomy c c' with h | h | h
   · have h1:¬c=c':=by omega
     rw [if_pos h]
     simp [h]
   · subst h
     simp only [Int.lt_irrefl,if_false,if_true,decide_false,Bool.false_or,decide_true,Bool.true_and]
     rcases Int.lt_trichotomy d d' with h | h | h
     · rw [if_pos h]; simp [h]
     · subst h; simp
     · rw [if_neg (by omega),if_pos h]
       have:¬d < d':=by omega
       simp [this]
   · have h1:¬c=c':=by omega
     have h2:¬c < c':=by omega
     rw [if_neg h2,if_pos h]
     simp [h1,h2]
theorem ref_before (a b c d a' b' c' d':Int):Gives (fun k=>T_ref23_Before k a b c d a' b' c' d') (·=beV a b c d a' b' c' d'):=by
 refine Gives.step ?_
 simp only [T_ref23_Before]
 unfold beV
 refine Gives.bind (r01_less a b a' b') fun v hv=>?_
 subst hv
 refine Gives.ite (fun h=>Gives.now (by rw [if_pos h])) fun h=>?_
 rw [if_neg h]
 refine Gives.bind (Q:=fun r=>r=if lR a' b' a b=true then false else decide (c < c') || (decide (c=c') && decide (d < d'))) ?_ fun r hr=>Gives.now hr
 refine Gives.bind (r01_less a' b' a b) fun v hv=>?_
 subst hv
 refine Gives.ite (fun h=>?_) fun h=>Gives.now ?_
 · refine Gives.bind (Q:=fun _=>True) (Gives.step (by simp only [T_ref23_Sooner]; exact Gives.now trivial)) fun _ _=>Gives.now ?_
   rw [if_neg (by simpa using h)]
 · rw [if_pos (by simpa using h)]
def meV (k b g:Int):Int:=if k < 1∨5 < k∨b < 0∨32 < b∨(k≠4∧b≠0)∨g < -1000∨1000 < g∨(k≠5∧g≠0) then 9 else 0
theorem me_check (k b g:Int):Gives (fun n=>T_measure_Check n k b g) (·=meV k b g):=by
 refine Gives.step ?_
 simp only [T_measure_Check]
 refine Gives.bind (Q:=fun s=>((s == (⟨#[]⟩:ByteArray))=true↔(k < 1∨5 < k))) ?_ fun s hs=>?_
 · refine Gives.step ?_
   simp only [T_measure_name]
   have f:∀ (s:ByteArray) (p:Prop),(s == (⟨#[]⟩:ByteArray))=false→¬p→((s == (⟨#[]⟩:ByteArray))=true↔p):=fun s p h hp=>by rw [h]; simp [hp]
   refine Gives.ite (fun h=>Gives.now (f _ _ rfl (by omega))) fun h1=>Gives.ite (fun h=>Gives.now (f _ _ rfl (by omega))) fun h2=>Gives.ite (fun h=>Gives.now (f _ _ rfl (by omega))) fun h3=>Gives.ite (fun h=>Gives.now (f _ _ rfl (by omega))) fun h4 =>
    Gives.ite (fun h=>Gives.now (f _ _ rfl (by omega))) fun h5=>Gives.now ?_
   refine ⟨fun _=>by omega,fun _=>rfl⟩
 · refine Gives.bind (Q:=fun r=>r=true↔(k < 1∨5 < k∨b < 0∨32 < b∨(k≠4∧b≠0)∨g < -1000∨1000 < g∨(k≠5∧g≠0))) ?_ fun r hr=>?_
   · refine Gives.ite (fun h=>Gives.now ?_) fun h=>Gives.ite (fun h'=>Gives.now ?_) fun h'=>Gives.now ?_
     · rw [Bool.and_true] at h ⊢
       have:=hs.1 h
       rw [h]; simp only [true_iff]; omega
     · rw [Bool.and_true] at h
       have h:¬(k < 1∨5 < k):=fun c=>h (hs.2 c)
       rw [h']
       simp only [Bool.or_eq_true,Bool.and_eq_true,Bool.not_eq_true',decide_eq_true_eq,decide_eq_false_iff_not] at h'
       simp only [true_iff]; omega
     · rw [Bool.and_true] at h
       have h:¬(k < 1∨5 < k):=fun c=>h (hs.2 c)
       simp only [Bool.or_eq_true,Bool.and_eq_true,Bool.not_eq_true',decide_eq_true_eq,decide_eq_false_iff_not] at h' ⊢
       omega
   · unfold meV
     exact Gives.ite (fun h=>Gives.now (by rw [if_pos (hr.1 h)])) fun h=>Gives.now (by rw [if_neg fun c=>h (hr.2 c)])
theorem r17_check (k b g:Int):Gives (fun n=>T_ref17_Check n k b g) (·=meV k b g):=by
 refine Gives.step ?_
 simp only [T_ref17_Check]
 refine Gives.bind (Q:=fun r=>r=true↔(k < 1∨5 < k∨b < 0∨32 < b∨(k≠4∧b≠0)∨g < -1000∨1000 < g∨(k≠5∧g≠0))) ?_ fun r hr=>?_
 · refine Gives.ite (fun h=>Gives.now ?_) fun h=>Gives.bind (Q:=fun _=>True) (Gives.step (by simp only [T_ref04_Sample]; exact Gives.now trivial)) fun _ _=>Gives.now ?_
   · simp only [Bool.or_eq_true,Bool.and_eq_true,Bool.not_eq_true',decide_eq_true_eq,decide_eq_false_iff_not] at h
     simp only [true_iff]; omega
   · simp only [Bool.or_eq_true,Bool.and_eq_true,Bool.not_eq_true',decide_eq_true_eq,decide_eq_false_iff_not,Bool.and_eq_false_iff] at h ⊢
     omega
 · unfold meV
   exact Gives.ite (fun h=>Gives.now (by rw [if_pos (hr.1 h)])) fun h=>Gives.now (by rw [if_neg fun c=>h (hr.2 c)])
def quV (k b g:Int) (q:List Int):Int:=if meV k b g=0 then (if 2≤q.length∧q.length≤32 then (if q.any noS=true then 12 else 0) else 8) else meV k b g
theorem sto_query {k b g:Int} {q:List Int}:Gives (fun n=>T_store_Query n k b g q) (·=quV k b g q):=by
 refine Gives.step ?_
 simp only [T_store_Query]
 refine Gives.bind (me_check k b g) fun r hr=>?_
 subst hr
 unfold quV
 refine Gives.ite (fun h=>Gives.now ?_) fun h=>?_
 · rw [if_neg (by simpa using h)]
 rw [if_pos (by simpa using h)]
 refine Gives.bind (Q:=fun _=>True) (Gives.step (by simp only [T_store_length]; exact Gives.now trivial)) fun _ _=>Gives.ite (fun h=>Gives.now ?_) fun h=>?_
 · rw [if_neg]; simp at h; omega
 have hq:2≤q.length∧q.length≤32:=by simp at h; omega
 rw [if_pos hq]
 refine Gives.bind (Q:=fun r=>r=q.any noS) ?_ fun r hr=>?_
 · refine Gives.step ?_
   simp only [T_slices_ContainsFunc_b354_v2]
   refine Gives.bind (Q:=fun r=>decide (0≤r)=q.any noS) ?_ fun r hr=>Gives.now hr
   refine Gives.step ?_
   simp only [T_slices_IndexFunc_b354_v2]
   refine Gives.bind (Q:=fun (r:Unit ⊕ Int)=>match r with | .inl _=>q.any noS=false | .inr i=>0≤i∧q.any noS=true) ?_ fun r hr=>?_
   · refine Gives.loop (fun (s:Int)=>∃ n:Nat,s=n∧n≤q.length∧(q.take n).any noS=false) (fun s=>q.length - s.toNat) ?_ ⟨0,rfl,by omega,by simp⟩
     rintro s ⟨n,rfl,hn,ha⟩
     unfold T_slices_IndexFunc_b354_v2_l1
     refine Gives.ite (fun h=>?_) fun h=>Gives.now ?_
     · have h:n < q.length:=by omega
       refine Gives.opt (at_nat h) (Gives.bind (Q:=fun _=>True) ?_ fun _ _=>?_)
       · refine Gives.step ?_
         simp only [T_store_Query_1]
         exact Gives.bind (Q:=fun _=>True) (Gives.step (by simp only [T_store_sample]; exact Gives.now trivial)) fun _ _=>Gives.now trivial
       · refine Gives.ite (fun hb=>Gives.now ⟨by omega,any_at (p:=noS) h hb⟩) fun hb=>Gives.now ?_
         rw [w64_nat (by omega)]
         refine ⟨⟨n+1,rfl,h,by rw [any_take h,ha]; simpa [noS] using hb⟩,by simp only [Int.toNat_natCast]; omega⟩
     · have:n=q.length:=by omega
       rw [this,List.take_length] at ha
       exact ha
   · cases r with
     | inl u=>exact Gives.now (by simp only at hr; rw [hr]; decide)
     | inr i=>exact Gives.now (by simp only at hr; rw [hr.2]; simpa using hr.1)
 · subst hr
   exact Gives.ite (fun h=>Gives.now (by rw [if_pos h])) fun h=>Gives.now (by rw [if_neg h])
theorem ref_query {k b g:Int} {q:List Int}:Gives (fun n=>T_ref23_Query n k b g q) (·=quV k b g q):=by
 refine Gives.step ?_
 simp only [T_ref23_Query]
 refine Gives.bind (r17_check k b g) fun r hr=>?_
 subst hr
 unfold quV
 refine Gives.ite (fun h=>Gives.now ?_) fun h=>?_
 · rw [if_neg (by simpa using h)]
 rw [if_pos (by simpa using h)]
 refine Gives.ite (fun h=>Gives.now ?_) fun h=>?_
 · rw [if_neg]; simp at h; omega
 have hq:2≤q.length∧q.length≤32:=by simp at h; omega
 rw [if_pos hq]
 refine Gives.bind (Q:=fun (r:Unit ⊕ Unit)=>match r with | .inl _=>q.any noS=false | .inr _=>q.any noS=true) ?_ fun r hr=>?_
 · refine Gives.loop (fun (s:Int)=>∃ n:Nat,s=n∧n≤q.length∧(q.take n).any noS=false) (fun s=>q.length - s.toNat) ?_ ⟨0,rfl,by omega,by simp⟩
   rintro s ⟨n,rfl,hn,ha⟩
   unfold T_ref23_Query_l1
   refine Gives.ite (fun h=>?_) fun h=>Gives.now ?_
   · have h:n < q.length:=by omega
     refine Gives.opt (at_nat h) (Gives.bind (Q:=fun _=>True) (Gives.step (by simp only [T_ref23_Sample]; exact Gives.now trivial)) fun _ _=>?_)
     refine Gives.ite (fun hb=>Gives.now (any_at (p:=noS) h hb)) fun hb=>Gives.now ?_
     rw [w64_nat (by omega)]
     refine ⟨⟨n+1,rfl,h,by rw [any_take h,ha]; simpa [noS] using hb⟩,by simp only [Int.toNat_natCast]; omega⟩
   · have:n=q.length:=by omega
     rw [this,List.take_length] at ha
     exact ha
 · cases r with
   | inl u=>exact Gives.now (by simp only at hr; rw [hr]; rfl)
   | inr u=>exact Gives.now (by simp only at hr; rw [hr]; rfl)
theorem mod_ok {x n:Int} (hn:1≤n) (hn2:n≤1000000):0≤(w64 (x.tmod n+n)).tmod n∧(w64 (x.tmod n+n)).tmod n < n:=by
 have h1:=Int.tmod_lt_of_pos x (show 0 < n by omega)
 have h2:-n < x.tmod n:=by
  have:=Int.lt_tmod_of_pos x (show 0 < n by omega)
  omega
 rw [w64_id (by omega) (by omega)]
 exact ⟨Int.tmod_nonneg _ (by omega),Int.tmod_lt_of_pos _ (by omega)⟩
theorem dk_mod {x n:Int} (hn:n≠0):Gives (fun k=>T_shapesearchsecond_Mod k x n) (fun _=>True):=by
 refine Gives.step ?_
 simp only [T_shapesearchsecond_Mod]
 exact Gives.pos hn (Gives.now trivial)
structure Dk (L:List Int) (p:Int):Prop where
 len:L.length≤400
 lo:0≤p
 hi:p≤(L.length:Int)
theorem dk_next {L:List Int} {p:Int} (h:Dk L p) (n:Int) (hn:n≤1000000):Gives (fun k=>T_shapesearchsecond_Deck_Next k n L p) (fun r=>(0≤r.1∧(r.1 < n∨r.1=0))∧Dk L r.2):=by
 have h1:=h.len
 have h2:=h.lo
 have h3:=h.hi
 refine Gives.step ?_
 simp only [T_shapesearchsecond_Deck_Next]
 refine Gives.ite (fun _=>Gives.now ⟨⟨by simp only []; omega,.inr rfl⟩,h⟩) fun c=>?_
 simp at c
 rw [w64_id (x:=p+1) (by omega) (by omega),w64_id (x:=p+1 - 1) (by omega) (by omega)]
 refine Gives.opt (at_rd (by omega) (by omega)) (Gives.bind (dk_mod (by omega)) fun _ _=>Gives.now ?_)
 have m:=mod_ok (x:=rd L (p+1 - 1)) (n:=n) (by omega) hn
 exact ⟨⟨m.1,.inl m.2⟩,⟨h1,by simp only []; omega,by simp only []; omega⟩⟩
def mn (a b:Int):Int:=if b < a then b else a
def INF:Int:=4611686018427387904

def nearB (b:Int) (i j:Nat):Prop:=(i:Int) - j≤b∧(j:Int) - i≤b
instance (b:Int) (i j:Nat):Decidable (nearB b i j):=by unfold nearB; infer_instance

def Wc (c:Nat→Nat→Int) (b:Int):Nat→Nat→Int
 | 0,0=>if nearB b 0 0 then mn INF (0+c 0 0) else INF
 | 0,j+1=>if nearB b 0 (j+1) then mn INF (mn INF (Wc c b 0 j)+c 0 (j+1)) else INF
 | i+1,0=>if nearB b (i+1) 0 then mn INF (mn INF (Wc c b i 0)+c (i+1) 0) else INF
 | i+1,j+1=>if nearB b (i+1) (j+1) then mn INF (mn (mn (mn (mn INF (Wc c b (i+1) j)) (Wc c b i (j+1))) (Wc c b i (j+1))) (Wc c b i j)+c (i+1) (j+1)) else INF
termination_by i j=>(i,j)

theorem W00 (c:Nat→Nat→Int) (b:Int):Wc c b 0 0=if nearB b 0 0 then mn INF (0+c 0 0) else INF:=by rw [Wc]
theorem W0s (c:Nat→Nat→Int) (b:Int) (j:Nat):Wc c b 0 (j+1)=if nearB b 0 (j+1) then mn INF (mn INF (Wc c b 0 j)+c 0 (j+1)) else INF:=by rw [Wc]
theorem Ws0 (c:Nat→Nat→Int) (b:Int) (i:Nat):Wc c b (i+1) 0=if nearB b (i+1) 0 then mn INF (mn INF (Wc c b i 0)+c (i+1) 0) else INF:=by rw [Wc]
theorem Wss (c:Nat→Nat→Int) (b:Int) (i j:Nat):Wc c b (i+1) (j+1)=if nearB b (i+1) (j+1) then mn INF (mn (mn (mn (mn INF (Wc c b (i+1) j)) (Wc c b i (j+1))) (Wc c b i (j+1))) (Wc c b i j)+c (i+1) (j+1)) else INF:=by rw [Wc]

inductive WPath (c:Nat→Nat→Int) (b:Int) (p q:Nat):Nat→Nat→Int→Prop
 | one:nearB b p q→WPath c b p q p q (c p q)
 | diag (i j:Nat) (s:Int):WPath c b p q i j s→nearB b (i+1) (j+1)→WPath c b p q (i+1) (j+1) (s+c (i+1) (j+1))
 | down (i j:Nat) (s:Int):WPath c b p q i j s→nearB b (i+1) j→WPath c b p q (i+1) j (s+c (i+1) j)
 | right (i j:Nat) (s:Int):WPath c b p q i j s→nearB b i (j+1)→WPath c b p q i (j+1) (s+c i (j+1))

theorem WPath.near {c:Nat→Nat→Int} {b:Int} {p q i j:Nat} {s:Int} (h:WPath c b p q i j s):nearB b i j:=by
 cases h <;> assumption
theorem WPath.le {c:Nat→Nat→Int} {b:Int} {p q i j:Nat} {s:Int} (h:WPath c b p q i j s):p≤i∧q≤j:=by
 induction h <;> omega

theorem mn_le_l (a b:Int):mn a b≤a:=by unfold mn; split <;> omega
theorem mn_le_r (a b:Int):mn a b≤b:=by unfold mn; split <;> omega
theorem mn_or (a b:Int):mn a b=a∨mn a b=b:=by unfold mn; split <;> omega
theorem le_mn {a b x:Int} (h:x≤a) (k:x≤b):x≤mn a b:=by unfold mn; split <;> omega

theorem W_le_INF (c:Nat→Nat→Int) (b:Int):∀ i j,Wc c b i j≤INF
 | 0,0=>by rw [W00]; split; (· exact mn_le_l _ _); (· exact Int.le_refl _)
 | 0,j+1=>by rw [W0s]; split; (· exact mn_le_l _ _); (· exact Int.le_refl _)
 | i+1,0=>by rw [Ws0]; split; (· exact mn_le_l _ _); (· exact Int.le_refl _)
 | i+1,j+1=>by rw [Wss]; split; (· exact mn_le_l _ _); (· exact Int.le_refl _)

theorem W_nonneg {c:Nat→Nat→Int} (b:Int) (hc:∀ i j,0≤c i j):∀ i j,0≤Wc c b i j:=by
 intro i
 induction i with
 | zero =>
  intro j
  induction j with
  | zero=>rw [W00]; have:=hc 0 0; split; (· exact le_mn (by decide) (by omega)); (· decide)
  | succ j ih=>rw [W0s]; have:=hc 0 (j+1); split; (· exact le_mn (by decide) (Int.add_nonneg (le_mn (by decide) ih) this)); (· decide)
 | succ i ihi =>
  intro j
  induction j with
  | zero=>rw [Ws0]; have:=hc (i+1) 0; split; (· exact le_mn (by decide) (Int.add_nonneg (le_mn (by decide) (ihi 0)) this)); (· decide)
  | succ j ih=>rw [Wss]; have:=hc (i+1) (j+1); split; (· exact le_mn (by decide) (Int.add_nonneg (le_mn (le_mn (le_mn (le_mn (by decide) ih) (ihi _)) (ihi _)) (ihi _)) this)); (· decide)

theorem W_diag {c:Nat→Nat→Int} {b:Int} {i j:Nat} (h:nearB b (i+1) (j+1)):Wc c b (i+1) (j+1)≤Wc c b i j+c (i+1) (j+1):=by
 rw [Wss,if_pos h]
 have:=mn_le_r INF (mn (mn (mn (mn INF (Wc c b (i+1) j)) (Wc c b i (j+1))) (Wc c b i (j+1))) (Wc c b i j)+c (i+1) (j+1))
 have:=mn_le_r (mn (mn (mn INF (Wc c b (i+1) j)) (Wc c b i (j+1))) (Wc c b i (j+1))) (Wc c b i j)
 omega
theorem W_down {c:Nat→Nat→Int} {b:Int} {i j:Nat} (h:nearB b (i+1) j):Wc c b (i+1) j≤Wc c b i j+c (i+1) j:=by
 cases j with
 | zero =>
  rw [Ws0,if_pos h]
  have:=mn_le_r INF (mn INF (Wc c b i 0)+c (i+1) 0)
  have:=mn_le_r INF (Wc c b i 0)
  omega
 | succ j =>
  rw [Wss,if_pos h]
  have:=mn_le_r INF (mn (mn (mn (mn INF (Wc c b (i+1) j)) (Wc c b i (j+1))) (Wc c b i (j+1))) (Wc c b i j)+c (i+1) (j+1))
  have:=mn_le_l (mn (mn (mn INF (Wc c b (i+1) j)) (Wc c b i (j+1))) (Wc c b i (j+1))) (Wc c b i j)
  have:=mn_le_r (mn (mn INF (Wc c b (i+1) j)) (Wc c b i (j+1))) (Wc c b i (j+1))
  omega
theorem W_right {c:Nat→Nat→Int} {b:Int} {i j:Nat} (h:nearB b i (j+1)):Wc c b i (j+1)≤Wc c b i j+c i (j+1):=by
 cases i with
 | zero =>
  rw [W0s,if_pos h]
  have:=mn_le_r INF (mn INF (Wc c b 0 j)+c 0 (j+1))
  have:=mn_le_r INF (Wc c b 0 j)
  omega
 | succ i =>
  rw [Wss,if_pos h]
  have:=mn_le_r INF (mn (mn (mn (mn INF (Wc c b (i+1) j)) (Wc c b i (j+1))) (Wc c b i (j+1))) (Wc c b i j)+c (i+1) (j+1))
  have:=mn_le_l (mn (mn (mn INF (Wc c b (i+1) j)) (Wc c b i (j+1))) (Wc c b i (j+1))) (Wc c b i j)
  have:=mn_le_l (mn (mn INF (Wc c b (i+1) j)) (Wc c b i (j+1))) (Wc c b i (j+1))
  have:=mn_le_l (mn INF (Wc c b (i+1) j)) (Wc c b i (j+1))
  have:=mn_le_r INF (Wc c b (i+1) j)
  omega

theorem W_le_path {c:Nat→Nat→Int} {b:Int} {p q i j:Nat} {s:Int} (h:WPath c b p q i j s):p=0→q=0→Wc c b i j≤s:=by
 induction h with
 | one h=>intro h1 h2; subst h1 h2; rw [W00,if_pos h]; have:=mn_le_r INF (0+c 0 0); omega
 | diag i j s _ hn ih=>intro h1 h2; have:=ih h1 h2; have:=W_diag (c:=c) hn; omega
 | down i j s _ hn ih=>intro h1 h2; have:=ih h1 h2; have:=W_down (c:=c) hn; omega
 | right i j s _ hn ih=>intro h1 h2; have:=ih h1 h2; have:=W_right (c:=c) hn; omega

theorem W_path {c:Nat→Nat→Int} {b:Int} (hc:∀ i j,0≤c i j):∀ i j,Wc c b i j < INF→WPath c b 0 0 i j (Wc c b i j):=by
 intro i
 induction i with
 | zero =>
  intro j
  induction j with
  | zero =>
   intro h
   rw [W00] at h ⊢
   split at h
   · rename_i hn
     rw [if_pos hn]
     rcases mn_or INF (0+c 0 0) with e | e
     · omega
     · rw [e,Int.zero_add]; exact WPath.one hn
   · omega
  | succ j ih =>
   intro h
   rw [W0s] at h ⊢
   split at h
   · rename_i hn
     rw [if_pos hn]
     have:=hc 0 (j+1)
     rcases mn_or INF (mn INF (Wc c b 0 j)+c 0 (j+1)) with e | e
     · omega
     · rw [e] at h ⊢
       rcases mn_or INF (Wc c b 0 j) with e2 | e2
       · omega
       · rw [e2] at h ⊢; exact WPath.right 0 j _ (ih (by omega)) hn
   · omega
 | succ i ihi =>
  intro j
  induction j with
  | zero =>
   intro h
   rw [Ws0] at h ⊢
   split at h
   · rename_i hn
     rw [if_pos hn]
     have:=hc (i+1) 0
     rcases mn_or INF (mn INF (Wc c b i 0)+c (i+1) 0) with e | e
     · omega
     · rw [e] at h ⊢
       rcases mn_or INF (Wc c b i 0) with e2 | e2
       · omega
       · rw [e2] at h ⊢; exact WPath.down i 0 _ (ihi 0 (by omega)) hn
   · omega
  | succ j ih =>
   intro h
   rw [Wss] at h ⊢
   split at h
   · rename_i hn
     rw [if_pos hn]
     have:=hc (i+1) (j+1)
     rcases mn_or INF (mn (mn (mn (mn INF (Wc c b (i+1) j)) (Wc c b i (j+1))) (Wc c b i (j+1))) (Wc c b i j)+c (i+1) (j+1)) with e | e
     · omega
     · rw [e] at h ⊢
       rcases mn_or (mn (mn (mn INF (Wc c b (i+1) j)) (Wc c b i (j+1))) (Wc c b i (j+1))) (Wc c b i j) with e2 | e2
       · rw [e2] at h ⊢
         rcases mn_or (mn (mn INF (Wc c b (i+1) j)) (Wc c b i (j+1))) (Wc c b i (j+1)) with e3 | e3
         · rw [e3] at h ⊢
           rcases mn_or (mn INF (Wc c b (i+1) j)) (Wc c b i (j+1)) with e4 | e4
           · rw [e4] at h ⊢
             rcases mn_or INF (Wc c b (i+1) j) with e5 | e5
             · omega
             · rw [e5] at h ⊢; exact WPath.right (i+1) j _ (ih (by omega)) hn
           · rw [e4] at h ⊢; exact WPath.down i (j+1) _ (ihi _ (by omega)) hn
         · rw [e3] at h ⊢; exact WPath.down i (j+1) _ (ihi _ (by omega)) hn
       · rw [e2] at h ⊢; exact WPath.diag i j _ (ihi _ (by omega)) hn
   · omega

theorem WPath.bound {c:Nat→Nat→Int} {b K:Int} {p q i j:Nat} {s:Int} (h:WPath c b p q i j s) (hK:0≤K) (hc:∀ i j,c i j≤K):s≤K*((i - p+(j - q):Nat)+1):=by
 induction h with
 | one _=>have:=hc p q; simp; omega
 | diag i j s h hn ih =>
  have:=hc (i+1) (j+1); have hl:=h.le
  have e:((i+1 - p+(j+1 - q):Nat):Int)=((i - p+(j - q):Nat):Int)+2:=by omega
  rw [e,show (((i - p+(j - q):Nat):Int)+2+1)=(((i - p+(j - q):Nat):Int)+1)+2 by omega,Int.mul_add]; omega
 | down i j s h hn ih =>
  have:=hc (i+1) j; have hl:=h.le
  have e:((i+1 - p+(j - q):Nat):Int)=((i - p+(j - q):Nat):Int)+1:=by omega
  rw [e,Int.mul_add]; omega
 | right i j s h hn ih =>
  have:=hc i (j+1); have hl:=h.le
  have e:((i - p+(j+1 - q):Nat):Int)=((i - p+(j - q):Nat):Int)+1:=by omega
  rw [e,Int.mul_add]; omega

theorem path_exists (c:Nat→Nat→Int) {b:Int} (hb:0≤b):∀ i j,nearB b i j→∃ s,WPath c b 0 0 i j s:=by
 intro i
 induction i with
 | zero =>
  intro j
  induction j with
  | zero=>intro h; exact ⟨_,WPath.one h⟩
  | succ j ih=>intro h; obtain ⟨s,hs⟩:=ih (by unfold nearB at h ⊢; omega); exact ⟨_,WPath.right 0 j s hs h⟩
 | succ i ihi =>
  intro j h
  cases j with
  | zero=>obtain ⟨s,hs⟩:=ihi 0 (by unfold nearB at h ⊢; omega); exact ⟨_,WPath.down i 0 s hs h⟩
  | succ j=>obtain ⟨s,hs⟩:=ihi j (by unfold nearB at h ⊢; omega); exact ⟨_,WPath.diag i j s hs h⟩

structure Costs (c:Nat→Nat→Int):Prop where
 pos:∀ i j,0≤c i j
 le:∀ i j,c i j≤4000000

theorem W_lt {c:Nat→Nat→Int} {b:Int} (hc:Costs c) (hb:0≤b) {i j:Nat} (hi:i≤64) (hj:j≤64) (h:nearB b i j):Wc c b i j < INF:=by
 obtain ⟨s,hs⟩:=path_exists c hb i j h
 have h1:=W_le_path hs rfl rfl
 have h2:=hs.bound (K:=4000000) (by decide) hc.le
 have h3:(4000000:Int)*(((i - 0+(j - 0):Nat):Int)+1)≤4000000*129:=Int.mul_le_mul_of_nonneg_left (by omega) (by decide)
 unfold INF; omega

theorem W_min {c:Nat→Nat→Int} {b:Int} (hc:Costs c) (hb:0≤b) {i j:Nat} (hi:i≤64) (hj:j≤64) (h:nearB b i j) :
 WPath c b 0 0 i j (Wc c b i j)∧∀ s,WPath c b 0 0 i j s→Wc c b i j≤s :=
 ⟨W_path hc.pos i j (W_lt hc hb hi hj h),fun _ hs=>W_le_path hs rfl rfl⟩

def tv (R:List (List Int)) (i j:Nat):Int:=(R.getD i []).getD j 0
structure Tbl (n m:Nat) (R:List (List Int)):Prop where
 len:R.length=n
 row:∀ i,i < n→(R.getD i []).length=m
theorem row_get {R:List (List Int)} {i:Nat} (h:i < R.length):R[i]?=some (R.getD i []):=by
 rw [List.getD_eq_getElem?_getD,List.getElem?_eq_getElem h]; rfl
theorem row_at {R:List (List Int)} {i:Int} (h0:0≤i) (h:i < (R.length:Int)):at? R i=some (R.getD i.toNat []):=by
 unfold at?; rw [if_pos h0]; exact row_get (by omega)
theorem row_set {R:List (List Int)} {i p:Nat} {r:List Int} (h:i < R.length):(R.set i r).getD p []=if p=i then r else R.getD p []:=by
 rw [List.getD_eq_getElem?_getD,List.getElem?_set]
 by_cases c:i=p
 · subst c; rw [if_pos rfl,if_pos h,if_pos rfl]; rfl
 · rw [if_neg c,if_neg (fun e=>c e.symm),List.getD_eq_getElem?_getD]
theorem el_set {r:List Int} {j q:Nat} {v:Int} (h:j < r.length):(r.set j v).getD q 0=if q=j then v else r.getD q 0:=by
 rw [List.getD_eq_getElem?_getD,List.getElem?_set]
 by_cases c:j=q
 · subst c; rw [if_pos rfl,if_pos h,if_pos rfl]; rfl
 · rw [if_neg c,if_neg (fun e=>c e.symm),List.getD_eq_getElem?_getD]
theorem el_at {r:List Int} {j:Int} (h0:0≤j) (h:j < (r.length:Int)):at? r j=some (r.getD j.toNat 0):=at_rd h0 h
theorem el_get {r:List Int} {j:Nat} (h:j < r.length):r[j]?=some (r.getD j 0):=by
 rw [List.getD_eq_getElem?_getD,List.getElem?_eq_getElem h]; rfl
theorem tk_all {α:Type} {R:List α} {n:Nat} (h:R.length=n):(R.drop 0).take n=R:=by subst h; simp
def tset (R:List (List Int)) (i j:Nat) (v:Int):List (List Int):=R.set i ((R.getD i []).set j v)
theorem tset_ok {n m:Nat} {R:List (List Int)} (h:Tbl n m R) {i j:Nat} (hi:i < n) (hj:j < m) (v:Int):Tbl n m (tset R i j v)∧∀ p q,tv (tset R i j v) p q=if p=i∧q=j then v else tv R p q:=by
 have hl:=h.len
 have hr:=h.row i hi
 refine ⟨⟨by simp [tset,hl],fun p hp=>?_⟩,fun p q=>?_⟩
 · unfold tset
   rw [row_set (by omega)]
   split
   · rw [List.length_set]; exact hr
   · exact h.row p hp
 · unfold tv tset
   rw [row_set (by omega)]
   by_cases c:p=i
   · subst c
     rw [if_pos rfl,el_set (by omega)]
     by_cases d:q=j
     · rw [if_pos d,if_pos ⟨rfl,d⟩]
     · rw [if_neg d,if_neg (fun e=>d e.2)]
   · rw [if_neg c,if_neg (fun e=>c e.1)]
theorem tset_row {R:List (List Int)} {i j:Nat} {v:Int} (h:i < R.length):(tset R i j v).getD i []=(R.getD i []).set j v:=by
 unfold tset; rw [row_set h,if_pos rfl]
theorem tset_tset {R:List (List Int)} {i j:Nat} {v w:Int} (h:i < R.length):(tset R i j v).set i (((tset R i j v).getD i []).set j w)=tset R i j w:=by
 rw [tset_row h,List.set_set]; unfold tset; rw [List.set_set]
def av (R:List (List Int)) (n m:Nat) (b i j:Int):Int:=if 0≤i∧0≤j∧i < n∧j < m∧i - j≤b∧j - i≤b then tv R i.toNat j.toNat else INF
theorem r14_out (n m b i j:Int):Gives (fun k=>T_ref14_out k n m b i j) (fun _=>True):=Gives.step (by simp only [T_ref14_out]; exact Gives.now trivial)
theorem r14_at {R:List (List Int)} {n m:Nat} {b i j:Int} (h:Tbl n m R) (hn:1≤n) (hn2:n≤100) (hm2:m≤100) (i0:-2≤i) (i1:i≤100) (j0:-2≤j) (j1:j≤100):Gives (fun k=>T_ref14_At k R b i j) (fun r=>r=av R n m b i j):=by
 have hl:=h.len
 have h0:=h.row 0 (by omega)
 refine Gives.step ?_
 simp only [T_ref14_At]
 rw [hl]
 refine Gives.bind (Q:=fun v=>v=!decide (0≤i∧0≤j∧i < n∧j < m∧i - j≤b∧j - i≤b)) ?_ fun v hv=>?_
 · refine Gives.neg (by omega) (Gives.opt (row_at (by omega) (by omega)) (Gives.bind (r14_out _ _ _ _ _) fun _ _=>Gives.now ?_))
   rw [w64_id (x:=i - j) (by omega) (by omega),w64_id (x:=j - i) (by omega) (by omega),show (0:Int).toNat=0 from rfl,h0]
   by_cases c:0≤i∧0≤j∧i < (n:Int)∧j < (m:Int)∧i - j≤b∧j - i≤b
   · rw [decide_eq_true c]; simp; omega
   · rw [decide_eq_false c]; simp; omega
 · subst hv
   unfold av
   by_cases c:0≤i∧0≤j∧i < (n:Int)∧j < (m:Int)∧i - j≤b∧j - i≤b
   · rw [if_pos c,decide_eq_true c]
     have hr:=h.row i.toNat (by omega)
     exact Gives.neg (by simp) (Gives.opt (row_at (by omega) (by omega)) (Gives.opt (el_at (by omega) (by omega)) (Gives.now rfl)))
   · rw [if_neg c,decide_eq_false c]
     exact Gives.pos (by simp) (Gives.now rfl)
theorem r14_before {R:List (List Int)} {n m:Nat} {b i j:Int} (h:Tbl n m R) (hn:1≤n) (hn2:n≤100) (hm2:m≤100) (i0:0≤i) (i1:i≤100) (j0:0≤j) (j1:j≤100):Gives (fun k=>T_ref14_Before k R b i j)
 (fun r=>(-1≤r.1∧r.1≤100∧-1≤r.2∧r.2≤100)∧r=(if av R n m b i (j - 1) < av R n m b (if av R n m b (i - 1) j < av R n m b (i - 1) (j - 1) then (i - 1,j) else (i - 1,j - 1)).1 (if av R n m b (i - 1) j < av R n m b (i - 1) (j - 1) then (i - 1,j) else (i - 1,j - 1)).2 then (i,j - 1) else if av R n m b (i - 1) j < av R n m b (i - 1) (j - 1) then (i - 1,j) else (i - 1,j - 1))):=by
 obtain ⟨P,hP⟩:∃ P:Int × Int,P=if av R n m b (i - 1) j < av R n m b (i - 1) (j - 1) then (i - 1,j) else (i - 1,j - 1):=⟨_,rfl⟩
 rw [←hP]
 have pb:-1≤P.1∧P.1≤100∧-1≤P.2∧P.2≤100:=by rw [hP]; split <;> (simp only []; omega)
 refine Gives.step ?_
 simp only [T_ref14_Before]
 rw [w64_id (x:=i - 1) (by omega) (by omega),w64_id (x:=j - 1) (by omega) (by omega)]
 refine Gives.bind (Q:=fun r=>(-1≤r.1∧r.1≤100∧-1≤r.2∧r.2≤100)∧r=if av R n m b i (j - 1) < av R n m b P.1 P.2 then (i,j - 1) else P) ?_ fun r hr=>Gives.now hr
 refine Gives.loop (fun s=>(s.1=0∧s.2=(i - 1,j - 1))∨(s.1=1∧s.2=P)∨(s.1=2∧s.2=if av R n m b i (j - 1) < av R n m b P.1 P.2 then (i,j - 1) else P)) (fun s=>(2 - s.1).toNat) ?_ (.inl ⟨rfl,rfl⟩)
 intro ⟨a,q⟩ hs
 unfold T_ref14_Before_l1
 simp only at hs ⊢
 rcases hs with ⟨rfl,rfl⟩ | ⟨rfl,hq⟩ | ⟨rfl,hq⟩
 · refine Gives.pos (by omega) (Gives.opt (a:=(i - 1,j)) rfl ?_)
   refine Gives.bind (r14_at h hn hn2 hm2 (by simp only []; omega) (by simp only []; omega) (by simp only []; omega) (by simp only []; omega)) fun u hu=>Gives.bind (r14_at h hn hn2 hm2 (by simp only []; omega) (by simp only []; omega) (by simp only []; omega) (by simp only []; omega)) fun v hv=>?_
   subst hu hv
   refine Gives.bind (Q:=fun z=>z=P) ?_ fun z hz=>Gives.now ⟨.inr (.inl ⟨rfl,?_⟩),(by decide:(2 - w64 (0+1)).toNat < (2 - 0:Int).toNat)⟩
   · refine Gives.ite (fun c=>Gives.now ?_) fun c=>Gives.now ?_
     · rw [hP,if_pos c]
     · rw [hP,if_neg c]
   · rw [←hz]
 · subst hq
   refine Gives.pos (by omega) (Gives.opt (a:=(i,j - 1)) rfl ?_)
   refine Gives.bind (r14_at h hn hn2 hm2 (by simp only []; omega) (by simp only []; omega) (by simp only []; omega) (by simp only []; omega)) fun u hu=>Gives.bind (r14_at h hn hn2 hm2 (by omega) (by omega) (by omega) (by omega)) fun v hv=>?_
   subst hu hv
   refine Gives.bind (Q:=fun z=>z=if av R n m b i (j - 1) < av R n m b q.1 q.2 then (i,j - 1) else q) ?_ fun z hz=>Gives.now ⟨.inr (.inr ⟨rfl,?_⟩),(by decide:(2 - w64 (1+1)).toNat < (2 - 1:Int).toNat)⟩
   · refine Gives.ite (fun c=>Gives.now ?_) fun c=>Gives.now ?_
     · rw [if_pos c]
     · rw [if_neg c]
   · rw [←hz]
 · refine Gives.neg (by omega) (Gives.now ⟨?_,hq⟩)
   simp only []
   rw [hq]
   split
   · simp only []; omega
   · exact pb

def Wx (c:Nat→Nat→Int) (b i j:Int):Int:=if 0≤i∧0≤j then Wc c b i.toNat j.toNat else INF
theorem W_out {c:Nat→Nat→Int} {b:Int} {i j:Nat} (h:¬nearB b i j):Wc c b i j=INF:=by
 cases i <;> cases j
 · rw [W00,if_neg h]
 · rw [W0s,if_neg h]
 · rw [Ws0,if_neg h]
 · rw [Wss,if_neg h]
theorem W_in {c:Nat→Nat→Int} {b:Int} {i j:Nat} (h:nearB b i j) (hlt:Wc c b i j < INF) (hc:0≤c i j) (hij:0 < i+j):Wc c b i j=mn (mn (Wx c b (i - 1) (j - 1)) (Wx c b (i - 1) j)) (Wx c b i (j - 1))+c i j:=by
 have key:∀ X:Int,mn INF X < INF→mn INF X=X:=by intro X hX; unfold mn at hX ⊢; split at hX <;> split <;> omega
 have low:=W_le_INF c b
 cases i with
 | zero =>
  cases j with
  | zero=>omega
  | succ j =>
   rw [W0s,if_pos h] at hlt ⊢
   rw [key _ hlt]
   have e1:Wx c b ((0:Nat) - 1:Int) (((j+1:Nat):Int) - 1)=INF:=by unfold Wx; rw [if_neg (by omega)]
   have e2:Wx c b ((0:Nat) - 1:Int) ((j+1:Nat):Int)=INF:=by unfold Wx; rw [if_neg (by omega)]
   have e3:Wx c b ((0:Nat):Int) (((j+1:Nat):Int) - 1)=Wc c b 0 j:=by unfold Wx; rw [if_pos (by omega)]; congr 1; omega
   rw [e1,e2,e3]
   have:=low 0 j
   unfold mn; split <;> split <;> omega
 | succ i =>
  cases j with
  | zero =>
   rw [Ws0,if_pos h] at hlt ⊢
   rw [key _ hlt]
   have e1:Wx c b (((i+1:Nat):Int) - 1) (((0:Nat):Int) - 1)=INF:=by unfold Wx; rw [if_neg (by omega)]
   have e2:Wx c b (((i+1:Nat):Int) - 1) ((0:Nat):Int)=Wc c b i 0:=by unfold Wx; rw [if_pos (by omega)]; congr 1; omega
   have e3:Wx c b ((i+1:Nat):Int) (((0:Nat):Int) - 1)=INF:=by unfold Wx; rw [if_neg (by omega)]
   rw [e1,e2,e3]
   have:=low i 0
   unfold mn; split <;> split <;> (try split) <;> omega
  | succ j =>
   rw [Wss,if_pos h] at hlt ⊢
   rw [key _ hlt]
   have e1:Wx c b (((i+1:Nat):Int) - 1) (((j+1:Nat):Int) - 1)=Wc c b i j:=by unfold Wx; rw [if_pos (by omega)]; congr 1 <;> omega
   have e2:Wx c b (((i+1:Nat):Int) - 1) ((j+1:Nat):Int)=Wc c b i (j+1):=by unfold Wx; rw [if_pos (by omega)]; congr 1; omega
   have e3:Wx c b ((i+1:Nat):Int) (((j+1:Nat):Int) - 1)=Wc c b (i+1) j:=by unfold Wx; rw [if_pos (by omega)]; congr 1; omega
   rw [e1,e2,e3]
   have a1:=low i j
   have a2:=low i (j+1)
   have a3:=low (i+1) j
   generalize Wc c b i j=A at *
   generalize Wc c b i (j+1)=B at *
   generalize Wc c b (i+1) j=C at *
   have:mn (mn (mn (mn INF C) B) B) A=mn (mn A B) C:=by
    unfold mn
    repeat' split
    all_goals omega
   rw [this]
theorem W_zero0 {c:Nat→Nat→Int} {b:Int} (h:nearB b 0 0) (hlt:Wc c b 0 0 < INF):Wc c b 0 0=c 0 0:=by
 rw [W00,if_pos h] at hlt ⊢
 unfold mn at hlt ⊢
 split at hlt <;> split <;> omega
def Done (c:Nat→Nat→Int) (b:Int) (R:List (List Int)) (n m i j:Nat):Prop:=∀ p q,p < n→q < m→(p < i∨(p=i∧q < j))→nearB b p q→tv R p q=Wc c b p q
theorem av_done {c:Nat→Nat→Int} {b:Int} {R:List (List Int)} {n m i j:Nat} (h:Done c b R n m i j) {p q:Int} (hp:p < n) (hq:q < m) (hpq:p < i∨(p=i∧q < j)):av R n m b p q=Wx c b p q:=by
 unfold av Wx
 by_cases c1:0≤p∧0≤q
 · rw [if_pos c1]
   by_cases c2:nearB b p.toNat q.toNat
   · have c3:p - q≤b∧q - p≤b:=by unfold nearB at c2; omega
     rw [if_pos (by omega)]
     exact h _ _ (by omega) (by omega) (by omega) c2
   · have c3:¬(p - q≤b∧q - p≤b):=by unfold nearB at c2; omega
     rw [if_neg (by omega),W_out c2]
 · rw [if_neg (by omega),if_neg c1]
structure CTbl (c:Nat→Nat→Int) (n m:Nat) (C:List (List Int)):Prop where
 tbl:Tbl n m C
 val:∀ i j,i < n→j < m→tv C i j=c i j
theorem r14_fill1 {C:List (List Int)} {n m:Nat} (h:Tbl n m C) (hn:n≤64) (hm:m≤64) (b:Int) :
 Gives (fun k=>loopT (T_ref14_Fill_l1 k C b n n) k (0,List.replicate n [])) (fun R=>Tbl n m R):=by
 refine Gives.loop (fun s=>0≤s.1∧s.1≤(n:Int)∧s.2.length=n∧∀ p:Nat,(p:Int) < s.1→(s.2.getD p []).length=m) (fun s=>((n:Int) - s.1).toNat) ?_ ⟨by simp only []; omega,by simp only []; omega,by simp,fun p hp=>by simp only at hp; omega⟩
 intro ⟨i,R⟩ ⟨i0,i1,i2,i3⟩
 simp only at i0 i1 i2 i3
 unfold T_ref14_Fill_l1
 simp only []
 refine Gives.ite (fun cc=>?_) fun cc=>Gives.now ⟨i2,fun p hp=>i3 p (by omega)⟩
 have hl:=h.len
 refine Gives.opt (row_at i0 (by omega)) ?_
 rw [h.row i.toNat (by omega),w64_id (x:=i+1) (by omega) (by omega)]
 refine Gives.pos (by unfold LIM; omega) (Gives.pos ⟨i0,by omega⟩ (Gives.now ⟨⟨by simp only []; omega,by simp only []; omega,by simp [i2],fun p hp=>?_⟩,by simp only []; omega⟩))
 simp only at hp ⊢
 rw [Nat.zero_add,row_set (by omega)]
 split
 · simp
 · exact i3 p (by omega)
theorem r14_fill2 {c:Nat→Nat→Int} {C:List (List Int)} {n m:Nat} {b:Int} {R:List (List Int)} {i:Nat} (hc:Costs c) (h:CTbl c n m C) (hn:n≤64) (hm:m≤64) (hb:0≤b) (hR:Tbl n m R) (hi:i < n) (hD:Done c b R n m i 0) (hb2:b≤64) (x:Int) :
 Gives (fun k=>loopT (T_ref14_Fill_l2 k C b n x i i m) k (0,R)) (fun R'=>Tbl n m R'∧Done c b R' n m (i+1) 0):=by
 refine Gives.loop (fun s=>0≤s.1∧s.1≤(m:Int)∧Tbl n m s.2∧Done c b s.2 n m i s.1.toNat) (fun s=>((m:Int) - s.1).toNat) ?_ ⟨by simp only []; omega,by simp only []; omega,hR,hD⟩
 intro ⟨j,R⟩ ⟨j0,j1,hT,hd⟩
 simp only at j0 j1 hT hd
 unfold T_ref14_Fill_l2
 simp only []
 refine Gives.ite (fun cc=>?_) fun cc=>Gives.now ⟨hT,fun p q hp hq hpq hn'=>hd p q hp hq (by omega) hn'⟩
 have hl:=h.tbl.len
 have hr:=h.tbl.row i hi
 have rl:=hT.len
 have rr:=hT.row i hi
 obtain ⟨jn,rfl⟩:∃ jn:Nat,j=jn:=⟨j.toNat,by omega⟩
 rw [Int.toNat_natCast] at hd
 refine Gives.opt (row_at (by omega) (by omega)) (Gives.bind (r14_out _ _ _ _ _) fun _ _=>?_)
 rw [Int.toNat_natCast,Int.toNat_natCast,hr,hl,w64_id (x:=(jn:Int)+1) (by omega) (by omega),w64_id (x:=(i:Int) - jn) (by omega) (by omega),w64_id (x:=(jn:Int) - i) (by omega) (by omega)]
 have next:∀ R',Tbl n m R'→(∀ p q,(p,q)≠(i,jn)→tv R' p q=tv R p q)→(nearB b i jn→tv R' i jn=Wc c b i jn)→Done c b R' n m i (jn+1):=by
  intro R' hT' h1 h2 p q hp hq hpq hnr
  by_cases e:p=i∧q=jn
  · obtain ⟨rfl,rfl⟩:=e; exact h2 hnr
  · rw [h1 p q (fun e'=>e (by cases e'; exact ⟨rfl,rfl⟩))]
    exact hd p q hp hq (by omega) hnr
 refine Gives.ite (fun c2=>?_) fun c2=>?_
 · have hnn:¬nearB b i jn:=by unfold nearB; simp at c2; omega
   exact Gives.now ⟨⟨by simp only []; omega,by simp only []; omega,hT,next R hT (fun _ _ _=>rfl) fun e=>absurd e hnn⟩,by simp only []; omega⟩
 have hnr:nearB b i jn:=by unfold nearB; simp at c2; omega
 have hlt:=W_lt hc hb (i:=i) (j:=jn) (by omega) (by omega) hnr
 have cp:=hc.pos i jn
 have cl:=hc.le i jn
 refine Gives.opt (row_at (by omega) (by omega)) ?_
 rw [Int.toNat_natCast]
 refine Gives.opt (el_at (by omega) (by rw [hr]; omega)) ?_
 rw [Int.toNat_natCast,Nat.zero_add,Nat.zero_add,show (C.getD i []).getD jn 0=c i jn from h.val i jn hi (by omega)]
 refine Gives.pos ⟨by omega,by omega⟩ (Gives.opt (row_get (by omega)) (Gives.pos ⟨by omega,by omega⟩ ?_))
 rw [show R.set i ((R.getD i []).set jn (c i jn))=tset R i jn (c i jn) from rfl]
 obtain ⟨t1,t2⟩:=tset_ok hT hi (j:=jn) (by omega) (c i jn)
 have tl:=t1.len
 have tr:=t1.row i hi
 have hd1:Done c b (tset R i jn (c i jn)) n m i jn:=fun p q hp hq hpq hn'=>by
  rw [t2,if_neg (by omega)]; exact hd p q hp hq hpq hn'
 rw [tk_all tl]
 refine Gives.bind (Q:=fun R'=>Tbl n m R'∧(∀ p q,(p,q)≠(i,jn)→tv R' p q=tv R p q)∧tv R' i jn=Wc c b i jn) ?_ fun R' hR'=>Gives.now ⟨⟨by simp only []; omega,by simp only []; omega,hR'.1,by
  rw [show ((jn:Int)+1).toNat=jn+1 by omega]; exact next R' hR'.1 hR'.2.1 fun _=>hR'.2.2⟩,by simp only []; omega⟩
 rw [w64_id (x:=(i:Int)+jn) (by omega) (by omega)]
 refine Gives.ite (fun c3=>?_) fun c3=>?_
 · refine Gives.bind (r14_before t1 (by omega) (by omega) (by omega) (by omega) (by omega) (by omega) (by omega)) fun p hp=>?_
   obtain ⟨⟨p1,p2,p3,p4⟩,hp⟩:=hp
   refine Gives.pos ⟨by omega,by omega⟩ (Gives.opt (row_get (by omega)) (Gives.pos ⟨by omega,by omega⟩ (Gives.opt (el_get (by omega)) ?_)))
   refine Gives.bind (r14_at t1 (by omega) (by omega) (by omega) (by omega) p2 (by omega) p4) fun v hv=>?_
   rw [show ((tset R i jn (c i jn)).getD i []).getD jn 0=c i jn by have:=t2 i jn; rw [if_pos ⟨rfl,rfl⟩] at this; exact this]
   have e1:=av_done hd1 (p:=(i:Int) - 1) (q:=jn) (by omega) (by omega) (by omega)
   have e2:=av_done hd1 (p:=(i:Int) - 1) (q:=(jn:Int) - 1) (by omega) (by omega) (by omega)
   have e3:=av_done hd1 (p:=(i:Int)) (q:=(jn:Int) - 1) (by omega) (by omega) (by omega)
   have wi:=W_in hnr hlt cp (by omega)
   have hv2:c i jn+v=Wc c b i jn:=by
    rw [wi,hv,hp]
    by_cases d1:av (tset R i jn (c i jn)) n m b (i - 1) jn < av (tset R i jn (c i jn)) n m b (i - 1) (jn - 1)
    · rw [if_pos d1]
      by_cases d2:av (tset R i jn (c i jn)) n m b i (jn - 1) < av (tset R i jn (c i jn)) n m b (i - 1) jn
      · rw [if_pos d2]
        rw [e1,e2] at d1; rw [e3,e1] at d2
        show c i jn+av (tset R i jn (c i jn)) n m b i (jn - 1)=_
        rw [e3]; unfold mn; rw [if_pos d1,if_pos d2]; omega
      · rw [if_neg d2]
        rw [e1,e2] at d1; rw [e3,e1] at d2
        show c i jn+av (tset R i jn (c i jn)) n m b (i - 1) jn=_
        rw [e1]; unfold mn; rw [if_pos d1,if_neg d2]; omega
    · rw [if_neg d1]
      by_cases d2:av (tset R i jn (c i jn)) n m b i (jn - 1) < av (tset R i jn (c i jn)) n m b (i - 1) (jn - 1)
      · rw [if_pos d2]
        rw [e1,e2] at d1; rw [e3,e2] at d2
        show c i jn+av (tset R i jn (c i jn)) n m b i (jn - 1)=_
        rw [e3]; unfold mn; rw [if_neg d1,if_pos d2]; omega
      · rw [if_neg d2]
        rw [e1,e2] at d1; rw [e3,e2] at d2
        show c i jn+av (tset R i jn (c i jn)) n m b (i - 1) (jn - 1)=_
        rw [e2]; unfold mn; rw [if_neg d1,if_neg d2]; omega
   have wn:=W_nonneg b hc.pos i jn
   rw [w64_id (x:=c i jn+v) (by unfold INF at hlt; omega) (by unfold INF at hlt; omega),hv2,tset_tset (by omega)]
   obtain ⟨u1,u2⟩:=tset_ok hT hi (j:=jn) (by omega) (Wc c b i jn)
   exact Gives.now ⟨u1,fun p q hpq=>by rw [u2,if_neg (fun e=>hpq (by rw [e.1,e.2]))],by rw [u2,if_pos ⟨rfl,rfl⟩]⟩
 · have e0:i=0∧jn=0:=by omega
   refine Gives.now ⟨t1,fun p q hpq=>by rw [t2,if_neg (fun e=>hpq (by rw [e.1,e.2]))],?_⟩
   rw [t2,if_pos ⟨rfl,rfl⟩]
   obtain ⟨rfl,rfl⟩:=e0
   exact (W_zero0 hnr hlt).symm
theorem r14_fill {c:Nat→Nat→Int} {C:List (List Int)} {n m:Nat} {b:Int} (hc:Costs c) (h:CTbl c n m C) (hn:n≤64) (hm:m≤64) (hb:0≤b) (hb2:b≤64) :
 Gives (fun k=>T_ref14_Fill k C b) (fun R=>Tbl n m R∧Done c b R n m n 0):=by
 have hl:=h.tbl.len
 refine Gives.step ?_
 simp only [T_ref14_Fill]
 rw [hl,Int.toNat_natCast]
 refine Gives.pos (by unfold LIM; omega) (Gives.bind (r14_fill1 h.tbl hn hm b) fun R hR=>?_)
 refine Gives.bind (Q:=fun R'=>Tbl n m R'∧Done c b R' n m n 0) ?_ fun R' hR'=>by rw [tk_all hR'.1.len]; exact Gives.now hR'
 refine Gives.loop (fun s=>0≤s.1∧s.1≤(n:Int)∧Tbl n m s.2∧Done c b s.2 n m s.1.toNat 0) (fun s=>((n:Int) - s.1).toNat) ?_ ⟨by simp only []; omega,by simp only []; omega,hR,fun p q _ _ hpq=>by simp only at hpq; omega⟩
 intro ⟨i,R⟩ ⟨i0,i1,hT,hd⟩
 simp only at i0 i1 hT hd
 unfold T_ref14_Fill_l3
 simp only []
 refine Gives.ite (fun cc=>?_) fun cc=>Gives.now ⟨hT,fun p q hp hq hpq hn'=>hd p q hp hq (by omega) hn'⟩
 obtain ⟨iN,rfl⟩:∃ iN:Nat,i=iN:=⟨i.toNat,by omega⟩
 rw [Int.toNat_natCast] at hd
 refine Gives.opt (row_at (by omega) (by omega)) ?_
 rw [Int.toNat_natCast,h.tbl.row iN (by omega),w64_id (x:=(iN:Int)+1) (by omega) (by omega)]
 exact Gives.bind (r14_fill2 hc h hn hm hb hT (by omega) hd hb2 n) fun R' hR'=>Gives.now ⟨⟨by simp only []; omega,by simp only []; omega,hR'.1,by simp only []; rw [show ((iN:Int)+1).toNat=iN+1 by omega]; exact hR'.2⟩,by simp only []; omega⟩

def sqc (x y:List Int) (i j:Nat):Int:=(x.getD i 0 - y.getD j 0)*(x.getD i 0 - y.getD j 0)
theorem sqc_ok {x y:List Int} (hx:Smp x) (hy:Smp y):Costs (sqc x y):=by
 have key:∀ i j,-2000≤x.getD i 0 - y.getD j 0∧x.getD i 0 - y.getD j 0≤2000:=by
  intro i j
  have h1:=hx.rd (i:Int)
  have h2:=hy.rd (j:Int)
  unfold rd at h1 h2
  simp only [Int.toNat_natCast] at h1 h2
  omega
 refine ⟨fun i j=>?_,fun i j=>?_⟩
 · unfold sqc
   generalize x.getD i 0 - y.getD j 0=d
   rcases Int.le_total 0 d with h | h
   · exact Int.mul_nonneg h h
   · exact Int.mul_nonneg_of_nonpos_of_nonpos h h
 · obtain ⟨h1,h2⟩:=key i j
   unfold sqc
   generalize x.getD i 0 - y.getD j 0=d at h1 h2
   have:d*d≤2000*2000:=by
    rcases Int.le_total 0 d with h | h
    · exact Int.mul_le_mul h2 h2 h (by omega)
    · have:=Int.mul_le_mul (a:=-d) (b:=-d) (c:=2000) (d:=2000) (by omega) (by omega) (by omega) (by omega)
      rw [Int.neg_mul_neg] at this; exact this
   omega
theorem r14_costs {x y:List Int} (hx:Win x) (hy:Win y):Gives (fun k=>T_ref14_Costs k x y) (fun R=>CTbl (sqc x y) x.length y.length R):=by
 have x1:=hx.lo
 have x2:=hx.hi
 have y1:=hy.lo
 have y2:=hy.hi
 have hc:=sqc_ok hx.smp hy.smp
 refine Gives.step ?_
 simp only [T_ref14_Costs]
 rw [Int.toNat_natCast]
 refine Gives.pos (by unfold LIM; omega) (Gives.bind (Q:=fun R=>CTbl (sqc x y) x.length y.length R) ?_ fun R hR=>by rw [tk_all hR.tbl.len]; exact Gives.now hR)
 refine Gives.loop (fun s=>0≤s.1∧s.1≤(x.length:Int)∧s.2.length=x.length∧(∀ p:Nat,(p:Int) < s.1→(s.2.getD p []).length=y.length∧∀ q,q < y.length→tv s.2 p q=sqc x y p q)∧∀ p:Nat,s.1≤(p:Int)→s.2.getD p []=[]) (fun s=>((x.length:Int) - s.1).toNat) ?_ ⟨by simp only []; omega,by simp only []; omega,by simp,fun p hp=>by simp only at hp; omega,fun p _=>by simp only [List.getD_eq_getElem?_getD,List.getElem?_replicate]; split <;> rfl⟩
 intro ⟨i,R⟩ ⟨i0,i1,i2,i3,i4⟩
 simp only at i0 i1 i2 i3 i4
 unfold T_ref14_Costs_l2
 simp only []
 refine Gives.ite (fun cc=>?_) fun cc=>Gives.now ⟨⟨i2,fun p hp=>(i3 p (by omega)).1⟩,fun p q hp hq=>(i3 p (by omega)).2 q hq⟩
 obtain ⟨iN,rfl⟩:∃ iN:Nat,i=iN:=⟨i.toNat,by omega⟩
 have e0:=i4 iN (by omega)
 refine Gives.bind (Q:=fun R'=>R'.length=x.length∧(∀ p,p≠iN→R'.getD p []=R.getD p [])∧(R'.getD iN []).length=y.length∧∀ q,q < y.length→(R'.getD iN []).getD q 0=sqc x y iN q) ?_ fun R' hR'=>?_
 · refine Gives.loop (fun s=>0≤s.1∧s.1≤(y.length:Int)∧s.2.length=x.length∧(∀ p,p≠iN→s.2.getD p []=R.getD p [])∧(s.2.getD iN []).length=s.1.toNat∧∀ q:Nat,(q:Int) < s.1→(s.2.getD iN []).getD q 0=sqc x y iN q) (fun s=>((y.length:Int) - s.1).toNat) ?_ ⟨by simp only []; omega,by simp only []; omega,i2,fun _ _=>rfl,by simp only []; rw [e0]; rfl,fun q hq=>by simp only at hq; omega⟩
   intro ⟨j,R'⟩ ⟨j0,j1,j2,j3,j4,j5⟩
   simp only at j0 j1 j2 j3 j4 j5
   unfold T_ref14_Costs_l1
   simp only []
   refine Gives.ite (fun cd=>?_) fun cd=>Gives.now ⟨j2,j3,by omega,fun q hq=>j5 q (by omega)⟩
   obtain ⟨jN,rfl⟩:∃ jN:Nat,j=jN:=⟨j.toNat,by omega⟩
   rw [Int.toNat_natCast] at j4
   refine Gives.opt (at_rd (by omega) (by omega)) (Gives.opt (at_rd (by omega) (by omega)) (Gives.pos ⟨by omega,by omega⟩ (Gives.opt (row_get (by omega)) ?_)))
   rw [Int.toNat_natCast,Nat.zero_add,j4]
   refine Gives.pos (by unfold LIM; omega) ?_
   have cv:w64 (w64 (rd x iN - rd y jN)*w64 (rd x iN - rd y jN))=sqc x y iN jN:=by
    have h1:=hx.smp.rd (iN:Int)
    have h2:=hy.smp.rd (jN:Int)
    have h3:=hc.le iN jN
    have h4:=hc.pos iN jN
    have e:sqc x y iN jN=(rd x iN - rd y jN)*(rd x iN - rd y jN):=by unfold sqc rd; simp
    rw [w64_id (x:=rd x iN - rd y jN) (by omega) (by omega),←e,w64_id (by omega) (by omega)]
   rw [cv,w64_id (x:=(jN:Int)+1) (by omega) (by omega)]
   have er:((List.take jN (List.drop 0 (R'.getD iN []))++[sqc x y iN jN]).take (jN+1))=R'.getD iN []++[sqc x y iN jN]:=by
    rw [tk_all j4,List.take_of_length_le (by rw [List.length_append,j4]; simp)]
   rw [er]
   refine Gives.now ⟨⟨by simp only []; omega,by simp only []; omega,by simp only []; rw [List.length_set]; exact j2,fun p hp=>?_,?_,fun q hq=>?_⟩,by simp only []; omega⟩
   · simp only []
     rw [row_set (by omega),if_neg hp]; exact j3 p hp
   · simp only []
     rw [row_set (by omega),if_pos rfl,List.length_append,j4]; simp
   · simp only at hq ⊢
     rw [row_set (by omega),if_pos rfl,List.getD_eq_getElem?_getD]
     by_cases cq:q < jN
     · rw [List.getElem?_append_left (by omega),←List.getD_eq_getElem?_getD]; exact j5 q (by omega)
     · have:q=jN:=by omega
       subst this
       rw [List.getElem?_append_right (by omega),j4,Nat.sub_self]
       rfl
 · obtain ⟨h1,h2,h3,h4⟩:=hR'
   rw [w64_id (x:=(iN:Int)+1) (by omega) (by omega)]
   refine Gives.now ⟨⟨by simp only []; omega,by simp only []; omega,h1,fun p hp=>?_,fun p hp=>?_⟩,by simp only []; omega⟩
   · simp only at hp ⊢
     by_cases c:p=iN
     · subst c; exact ⟨h3,h4⟩
     · rw [h2 p c]
       refine ⟨(i3 p (by omega)).1,fun q hq=>?_⟩
       have:=(i3 p (by omega)).2 q hq
       unfold tv at this ⊢
       rw [h2 p c]; exact this
   · simp only at hp ⊢
     rw [h2 p (by omega)]; exact i4 p (by omega)
theorem r12_twoB {x y:List Int} {b:Int} (h:Fits x y b):Gives (fun k=>T_ref12_Two k x y b) (fun r=>r=0):=by
 have x1:=h.wx.lo
 have x2:=h.wx.hi
 have y1:=h.wy.lo
 have y2:=h.wy.hi
 have ab:=h.ab
 have ba:=h.ba
 have b0:=h.lo
 refine Gives.step ?_
 simp only [T_ref12_Two]
 refine Gives.neg (by simp; omega) (Gives.bind (Q:=fun b=>b=false) ?_ fun v hv=>?_)
 · exact Gives.bind (r12_samples h.wx) fun r hr=>Gives.neg (by simp [hr]) (Gives.bind (r12_samples h.wy) fun r hr=>Gives.now (by simp [hr]))
 · subst hv
   rw [w64_id (x:=(x.length:Int) - y.length) (by omega) (by omega),w64_id (x:=(y.length:Int) - x.length) (by omega) (by omega)]
   exact Gives.neg (by simp) (Gives.neg (by simp; omega) (Gives.now rfl))
theorem r14_check {x y:List Int} {b:Int} (h:Fits x y b):Gives (fun k=>T_ref14_Check k x y b) (fun r=>r=0):=by
 have b0:=h.lo
 have b1:=h.hi
 refine Gives.step ?_
 simp only [T_ref14_Check]
 exact Gives.neg (by simp; omega) (Gives.bind (r12_twoB h) fun r hr=>Gives.now hr)
theorem r14_distance {x y:List Int} {b:Int} (h:Fits x y b):Gives (fun k=>T_ref14_Distance k x y b) (fun r=>r.2=0∧r.1=Wc (sqc x y) b (x.length - 1) (y.length - 1)):=by
 have x1:=h.wx.lo
 have x2:=h.wx.hi
 have y1:=h.wy.lo
 have y2:=h.wy.hi
 have ab:=h.ab
 have ba:=h.ba
 have b0:=h.lo
 have b1:=h.hi
 refine Gives.step ?_
 simp only [T_ref14_Distance]
 refine Gives.bind (r14_check h) fun r hr=>Gives.neg (by simp [hr]) (Gives.bind (r14_costs h.wx h.wy) fun C hC=>Gives.bind (r14_fill (sqc_ok h.wx.smp h.wy.smp) hC (by omega) (by omega) b0 (by omega)) fun R hR=>?_)
 obtain ⟨hT,hD⟩:=hR
 have hl:=hT.len
 have hr:=hT.row (x.length - 1) (by omega)
 rw [w64_id (x:=(x.length:Int) - 1) (by omega) (by omega),w64_id (x:=(y.length:Int) - 1) (by omega) (by omega)]
 refine Gives.opt (row_at (by omega) (by omega)) ?_
 rw [show ((x.length:Int) - 1).toNat=x.length - 1 by omega]
 refine Gives.opt (el_at (by omega) (by omega)) (Gives.now ⟨rfl,?_⟩)
 rw [show ((y.length:Int) - 1).toNat=y.length - 1 by omega]
 exact hD _ _ (by omega) (by omega) (by omega) (by unfold nearB; omega)

theorem imin_mn (a b:Int):imin a b=mn a b:=rfl
def fv1 (i j:Nat):Int:=if i=0∧j=0 then 0 else INF
def fv2 (c:Nat→Nat→Int) (b:Int) (i j:Nat):Int:=if 0 < j then mn (fv1 i j) (Wc c b i (j - 1)) else fv1 i j
def fv3 (c:Nat→Nat→Int) (b:Int) (i j:Nat):Int:=if 0 < i then mn (fv2 c b i j) (Wc c b (i - 1) j) else fv2 c b i j
def fv4 (c:Nat→Nat→Int) (b:Int) (i j:Nat):Int:=if 0 < i∧0 < j then mn (mn (fv3 c b i j) (Wc c b (i - 1) j)) (Wc c b (i - 1) (j - 1)) else fv3 c b i j
theorem fv_W {c:Nat→Nat→Int} {b:Int} {i j:Nat} (h:nearB b i j):mn INF (fv4 c b i j+c i j)=Wc c b i j:=by
 unfold fv4 fv3 fv2 fv1
 cases i with
 | zero =>
  cases j with
  | zero=>rw [W00,if_pos h]; simp
  | succ j=>rw [W0s,if_pos h]; simp
 | succ i =>
  cases j with
  | zero=>rw [Ws0,if_pos h]; simp
  | succ j=>rw [Wss,if_pos h]; simp
theorem fv_bd {c:Nat→Nat→Int} (b:Int) (hc:∀ i j,0≤c i j) (i j:Nat):0≤fv4 c b i j∧fv4 c b i j≤INF:=by
 have k:(0:Int)≤INF:=by decide
 have w:=W_nonneg b hc
 have m1:∀ {a d:Int},0≤a→0≤d→a≤INF→0≤mn a d∧mn a d≤INF:=fun {a d} h1 h2 h3=>⟨le_mn h1 h2,Int.le_trans (mn_le_l _ _) h3⟩
 have h1:0≤fv1 i j∧fv1 i j≤INF:=by unfold fv1; split <;> omega
 have h2:0≤fv2 c b i j∧fv2 c b i j≤INF:=by
  unfold fv2; split
  · exact m1 h1.1 (w _ _) h1.2
  · exact h1
 have h3:0≤fv3 c b i j∧fv3 c b i j≤INF:=by
  unfold fv3; split
  · exact m1 h2.1 (w _ _) h2.2
  · exact h2
 unfold fv4; split
 · have:=m1 h3.1 (w (i - 1) j) h3.2
   exact m1 this.1 (w _ _) this.2
 · exact h3
theorem wp_fillW {x y:List Int} {b:Int} {r q:List Int} {n i:Nat} (hx:Smp x) (hy:Smp y) (hn:y.length=n) (hl:n≤64) (hr:r.length=n) (hq:q.length=n) (hi:i < x.length) (xl:x.length≤64)
 (hW:0 < i→∀ j,j < n→q.getD j 0=Wc (sqc x y) b (i - 1) j):Gives (fun k=>T_warp_fill k n n x y b i r q) (fun z=>z.length=n∧∀ j,j < n→z.getD j 0=Wc (sqc x y) b i j):=by
 have hc:=sqc_ok hx hy
 refine Gives.step ?_
 simp only [T_warp_fill]
 refine Gives.bind (Q:=fun z=>z.length=n∧∀ j,j < n→z.getD j 0=Wc (sqc x y) b i j) ?_ fun z hz=>Gives.now hz
 refine Gives.loop (fun s=>0≤s.1∧s.1≤(n:Int)∧s.2.length=n∧∀ j:Nat,(j:Int) < s.1→s.2.getD j 0=Wc (sqc x y) b i j) (fun s=>((n:Int) - s.1).toNat) ?_ ⟨by simp only []; omega,by simp only []; omega,hr,fun j hj=>by simp only at hj; omega⟩
 intro ⟨j,w⟩ ⟨j0,j1,jw,jv⟩
 simp only at j0 j1 jw jv
 unfold T_warp_fill_l1
 simp only []
 rw [hn]
 refine Gives.ite (fun cc=>Gives.pos ⟨j0,cc⟩ ?_) fun cc=>Gives.now ⟨jw,fun j hj=>jv j (by omega)⟩
 obtain ⟨jN,rfl⟩:∃ jN:Nat,j=jN:=⟨j.toNat,by omega⟩
 rw [w64_id (x:=(jN:Int)+1) (by omega) (by omega),w64_id (x:=(jN:Int) - 1) (by omega) (by omega),w64_id (x:=(i:Int) - jN) (by omega) (by omega),w64_id (x:=(jN:Int) - i) (by omega) (by omega)]
 simp only [Int.toNat_natCast,Nat.zero_add]
 have fin:∀ v:Int,v=Wc (sqc x y) b i jN→∀ j:Nat,(j:Int) < (jN:Int)+1→(w.set jN v).getD j 0=Wc (sqc x y) b i j:=by
  intro v hv j hj
  rw [el_set (by omega)]
  by_cases e:j=jN
  · rw [if_pos e,hv,e]
  · rw [if_neg e]; exact jv j (by omega)
 refine Gives.bind (Q:=fun _=>True) (Gives.step (by simp only [T_warp_near]; exact Gives.now trivial)) fun _ _=>?_
 refine Gives.ite (fun c2=>?_) fun c2=>?_
 · have hnn:¬nearB b i jN:=by unfold nearB; simp at c2; omega
   exact Gives.now ⟨⟨by simp only []; omega,by simp only []; omega,by simp [jw],fin _ (W_out hnn).symm⟩,by simp only []; omega⟩
 have hnr:nearB b i jN:=by unfold nearB; simp at c2; omega
 refine Gives.bind (Q:=fun v=>v=fv1 i jN) ?_ fun v1 h1=>?_
 · unfold fv1
   refine Gives.ite (fun c3=>Gives.now ?_) fun c3=>Gives.now ?_
   · rw [if_pos (by simp at c3; omega)]
   · rw [if_neg (by simp at c3; omega)]; rfl
 refine Gives.bind (Q:=fun v=>v=fv2 (sqc x y) b i jN) ?_ fun v2 h2=>?_
 · unfold fv2
   refine Gives.ite (fun c3=>Gives.pos ⟨by omega,by omega⟩ (Gives.opt (el_get (by rw [List.length_set]; omega)) (Gives.now ?_))) fun c3=>Gives.now ?_
   · rw [if_pos (by omega),el_set (by omega),if_neg (by omega),show ((jN:Int) - 1).toNat=jN - 1 by omega,jv (jN - 1) (by omega),h1]; rfl
   · rw [if_neg (by omega),h1]
 refine Gives.bind (Q:=fun v=>v=fv3 (sqc x y) b i jN) ?_ fun v3 h3=>?_
 · unfold fv3
   refine Gives.ite (fun c3=>Gives.pos ⟨by omega,by omega⟩ (Gives.opt (el_get (by omega)) (Gives.now ?_))) fun c3=>Gives.now ?_
   · rw [if_pos (by omega),hW (by omega) jN (by omega),h2]; rfl
   · rw [if_neg (by omega),h2]
 refine Gives.bind (Q:=fun v=>v=fv4 (sqc x y) b i jN) ?_ fun v4 h4=>?_
 · unfold fv4
   refine Gives.ite (fun c3=>?_) fun c3=>Gives.now ?_
   · simp at c3
     refine Gives.pos ⟨by omega,by omega⟩ (Gives.opt (el_get (by omega)) (Gives.pos ⟨by omega,by omega⟩ (Gives.opt (el_get (by omega)) (Gives.now ?_))))
     rw [if_pos (by omega),hW (by omega) jN (by omega),show ((jN:Int) - 1).toNat=jN - 1 by omega,hW (by omega) (jN - 1) (by omega),h3]; rfl
   · rw [if_neg (by simp at c3; omega),h3]
 refine Gives.opt (at_rd (by omega) (by omega)) (Gives.opt (at_rd (by omega) (by omega)) (Gives.pos ⟨by omega,by omega⟩ ?_))
 have cv:w64 (w64 (rd x i - rd y jN)*w64 (rd x i - rd y jN))=sqc x y i jN:=by
  have h1:=hx.rd (i:Int)
  have h2:=hy.rd (jN:Int)
  have h3:=hc.le i jN
  have h4:=hc.pos i jN
  have e:sqc x y i jN=(rd x i - rd y jN)*(rd x i - rd y jN):=by unfold sqc rd; simp
  rw [w64_id (x:=rd x i - rd y jN) (by omega) (by omega),←e,w64_id (by omega) (by omega)]
 have hb:=fv_bd b hc.pos i jN
 have hp:=hc.pos i jN
 have hq':=hc.le i jN
 rw [cv,h4,w64_id (x:=fv4 (sqc x y) b i jN+sqc x y i jN) (by unfold INF at hb; omega) (by unfold INF at hb; omega),List.set_set]
 exact Gives.now ⟨⟨by simp only []; omega,by simp only []; omega,by simp [jw],fin _ (fv_W hnr)⟩,by simp only []; omega⟩
theorem wp_minW {r:List Int} {n:Nat} (h:1≤n) (hl:n≤64) (hr:r.length=n) (hb:∀ j,j < n→r.getD j 0≤INF):Gives (fun k=>T_slices_Min_b354 k n r) (fun v=>v≤INF):=by
 refine Gives.step ?_
 simp only [T_slices_Min_b354]
 refine Gives.neg (by omega) (Gives.pos (by omega) (Gives.opt (el_get (by omega)) (Gives.bind (Q:=fun v=>v≤INF) ?_ fun _ hv=>Gives.now hv)))
 refine Gives.loop (fun s=>s.1≤INF∧0≤s.2∧s.2≤(n:Int)) (fun s=>((n:Int) - s.2).toNat) ?_ ⟨hb 0 (by omega),by simp only []; omega,by simp only []; omega⟩
 intro ⟨m,i⟩ ⟨m0,i0,i1⟩
 simp only at m0 i0 i1
 unfold T_slices_Min_b354_l1
 simp only []
 refine Gives.ite (fun c=>Gives.pos ⟨i0,c⟩ (Gives.opt (el_get (by omega)) ?_)) fun c=>Gives.now m0
 rw [w64_id (by omega) (by omega)]
 exact Gives.now ⟨⟨by simp only [imin_mn]; exact Int.le_trans (mn_le_l _ _) m0,by simp only []; omega,by simp only []; omega⟩,by simp only []; omega⟩
theorem wp_check {x y:List Int} {b:Int} (h:Fits x y b):Gives (fun k=>T_warp_check k x y b) (fun r=>r=0):=by
 have x1:=h.wx.lo
 have x2:=h.wx.hi
 have y1:=h.wy.lo
 have y2:=h.wy.hi
 have b0:=h.lo
 have b1:=h.hi
 have ab:=h.ab
 have ba:=h.ba
 refine Gives.step ?_
 simp only [T_warp_check]
 refine Gives.neg (by simp; omega) (Gives.bind (eu_distance h.wx h.wx rfl) fun e he=>Gives.bind (eu_distance h.wy h.wy rfl) fun f hf=>Gives.neg (by simp [he,hf]) (Gives.neg (by simp [he]) (Gives.neg (by simp [hf]) (Gives.neg ?_ (Gives.now rfl)))))
 rw [w64_id (x:=(x.length:Int) - (y.length:Int)) (by omega) (by omega),w64_id (x:=(y.length:Int) - (x.length:Int)) (by omega) (by omega)]
 simp; omega
theorem wp_distanceW {x y:List Int} {b:Int} (h:Fits x y b):Gives (fun k=>T_warp_Distance k x y b) (fun r=>r.2=0∧r.1=Wc (sqc x y) b (x.length - 1) (y.length - 1)):=by
 have x1:=h.wx.lo
 have x2:=h.wx.hi
 have y1:=h.wy.lo
 have y2:=h.wy.hi
 refine Gives.step ?_
 simp only [T_warp_Distance]
 refine Gives.bind (wp_check h) fun r hr=>Gives.neg (by simp [hr]) (Gives.bind (Q:=fun v=>v=Wc (sqc x y) b (x.length - 1) (y.length - 1)) ?_ fun _ hv=>Gives.now ⟨rfl,hv⟩)
 refine Gives.step ?_
 simp only [T_warp_distance]
 rw [Int.toNat_natCast]
 refine Gives.pos (by unfold LIM; omega) (Gives.bind (Q:=fun v=>∃ z,v=.inl z∧z.1=y.length∧z.2.length=y.length∧∀ j,j < y.length→z.2.getD j 0=Wc (sqc x y) b (x.length - 1) j) ?_ fun v hv=>?_)
 · refine Gives.loop (fun s=>s.1=y.length∧s.2.1=y.length∧0≤s.2.2.1∧s.2.2.1≤(x.length:Int)∧s.2.2.2.1.length=y.length∧s.2.2.2.2.length=y.length∧(0 < s.2.2.1→∀ j,j < y.length→s.2.2.2.2.getD j 0=Wc (sqc x y) b (s.2.2.1.toNat - 1) j)) (fun s=>((x.length:Int) - s.2.2.1).toNat) ?_ ⟨rfl,rfl,by simp only []; omega,by simp only []; omega,by simp,by simp,fun c=>by simp only at c; omega⟩
   intro ⟨n1,n2,i,r,q⟩ ⟨s1,s2,s3,s4,s5,s6,s7⟩
   simp only at s1 s2 s3 s4 s5 s6 s7
   subst s1 s2
   unfold T_warp_distance_l1
   simp only []
   refine Gives.ite (fun c=>?_) fun c=>Gives.now ⟨_,rfl,rfl,s6,fun j hj=>?_⟩
   · obtain ⟨iN,rfl⟩:∃ iN:Nat,i=iN:=⟨i.toNat,by omega⟩
     refine Gives.bind (wp_fillW (i:=iN) h.wx.smp h.wy.smp rfl (by omega) s5 s6 (by omega) (by omega) (fun p j hj=>by have:=s7 (by omega) j hj; rw [Int.toNat_natCast] at this; exact this)) fun z hz=>Gives.bind (wp_minW (by omega) (by omega) hz.1 fun j hj=>by rw [hz.2 j hj]; exact W_le_INF _ _ _ _) fun m hm=>Gives.neg (by unfold INF at hm; omega) ?_
     rw [w64_id (by omega) (by omega)]
     refine Gives.now ⟨⟨rfl,rfl,by simp only []; omega,by simp only []; omega,s6,hz.1,fun _ j hj=>?_⟩,by simp only []; omega⟩
     simp only []
     rw [show ((iN:Int)+1).toNat - 1=iN by omega]; exact hz.2 j hj
   · have:=s7 (by omega) j hj
     rw [show i.toNat - 1=x.length - 1 by omega] at this
     exact this
 · obtain ⟨z,rfl,z1,z2,z3⟩:=hv
   simp only []
   rw [z1,w64_id (by omega) (by omega)]
   refine Gives.pos ⟨by omega,by omega⟩ (Gives.opt (el_get (by omega)) (Gives.now ?_))
   rw [show 0+((y.length:Int) - 1).toNat=y.length - 1 by omega]
   exact z3 _ (by omega)

noncomputable def limV {α:Type} [Inhabited α] (f:Nat→Option α):α:=open Classical in if h:∃ r,∃ K,∀ k,K≤k→f k=some r then h.choose else default
theorem Gives.val {α:Type} [Inhabited α] {f:Nat→Option α} {Q:α→Prop} (h:Gives f Q):Gives f (fun r=>r=limV f∧Q r):=by
 obtain ⟨r,h1,h2⟩:=h
 refine ⟨r,h1,?_,h2⟩
 unfold limV
 have hex:∃ r,∃ K,∀ k,K≤k→f k=some r:=⟨r,h1⟩
 rw [dif_pos hex]
 obtain ⟨K2,hK2⟩:=hex.choose_spec
 obtain ⟨K,hK⟩:=h1
 have a:=hK (max K K2) (by omega)
 have b:=hK2 (max K K2) (by omega)
 rw [a] at b
 exact Option.some.inj b
theorem Gives.eqv {α:Type} [Inhabited α] {f:Nat→Option α} {v:α} (h:Gives f (·=v)):limV f=v:=by
 obtain ⟨r,_,h1,h2⟩:=h.val
 rw [←h1]; exact h2
def OkR (r:Int × Int × Int):Prop:=r.2.2=0∧vR r.1 r.2.1=true
def mkQ (m n:Int):Int × Int × Int:=(((m.toNat / Nat.gcd m.toNat n.toNat:Nat):Int),((n.toNat / Nat.gcd m.toNat n.toNat:Nat):Int),0)
theorem mk_ok {m n:Int} (hm:0≤m) (hn:0 < n) (h1:m≤2305843009213693952) (h2:n≤1152921504606846976):OkR (mkQ m n):=by
 have g0:0 < Nat.gcd m.toNat n.toNat:=Nat.gcd_pos_of_pos_right _ (by omega)
 have d1:m.toNat / Nat.gcd m.toNat n.toNat≤m.toNat:=Nat.div_le_self _ _
 have d2:n.toNat / Nat.gcd m.toNat n.toNat≤n.toNat:=Nat.div_le_self _ _
 have d3:0 < n.toNat / Nat.gcd m.toNat n.toNat:=Nat.div_pos (Nat.gcd_le_right _ (by omega)) g0
 have g1:Nat.gcd (m.toNat / Nat.gcd m.toNat n.toNat) (n.toNat / Nat.gcd m.toNat n.toNat)=1:=Nat.coprime_div_gcd_div_gcd g0
 refine ⟨rfl,?_⟩
 unfold vR mkQ
 generalize m.toNat / Nat.gcd m.toNat n.toNat=qa at d1 g1 ⊢
 generalize n.toNat / Nat.gcd m.toNat n.toNat=qb at d2 d3 g1 ⊢
 simp only [Bool.and_eq_true,decide_eq_true_eq,Int.toNat_natCast]
 exact ⟨⟨⟨⟨by omega,by omega⟩,by omega⟩,by omega⟩,g1⟩
theorem mk_gives {m n:Int} (hm:0≤m) (hn:0 < n) (h1:m≤2305843009213693952) (h2:n≤1152921504606846976):Gives (fun k=>T_ratio_Make k m n) (·=mkQ m n):=by
 have:=ra_Make (m:=m.toNat) (n:=n.toNat) (by omega) (by omega) (by omega)
 rw [Int.toNat_of_nonneg hm,Int.toNat_of_nonneg (by omega)] at this
 exact this
theorem eu_squareV {x y:List Int} (hx:Win x) (hy:Win y) (hl:x.length=y.length):Gives (fun k=>T_euclid_square k x y) (·=sg (fun i=>(rd x i - rd y i)*(rd x i - rd y i)) x.length):=by
 have x2:=hx.hi
 have db:∀ i,-2000≤rd x i - rd y i∧rd x i - rd y i≤2000:=fun i=>by
  have:=hx.smp.rd i
  have:=hy.smp.rd i
  omega
 have pb:∀ i,-4000000≤(rd x i - rd y i)*(rd x i - rd y i)∧(rd x i - rd y i)*(rd x i - rd y i)≤4000000:=fun i=>by
  have:=prod_bound (a:=rd x i - rd y i) (b:=rd x i - rd y i) (A:=2000) (B:=2000) (db i).1 (db i).2 (db i).1 (db i).2
  omega
 refine Gives.step ?_
 simp only [T_euclid_square]
 refine Gives.bind (Q:=fun r=>r=sg (fun i=>(rd x i - rd y i)*(rd x i - rd y i)) x.length) ?_ fun r hr=>Gives.now hr
 refine Gives.loop (fun s=>0≤s.2∧s.2≤(x.length:Int)∧s.1=sg (fun i=>(rd x i - rd y i)*(rd x i - rd y i)) s.2.toNat) (fun s=>((x.length:Int) - s.2).toNat) ?_ ⟨by simp only []; omega,by simp only []; omega,rfl⟩
 intro ⟨a,i⟩ ⟨i1,i2,i3⟩
 simp only at i1 i2 i3
 unfold T_euclid_square_l1
 simp only []
 refine Gives.ite (fun c=>Gives.opt (at_rd i1 c) (Gives.opt (at_rd i1 (by omega)) ?_)) fun c=>Gives.now ?_
 · have d:=db i
   have p:=pb i
   have g:=sg_bound (f:=fun i=>(rd x i - rd y i)*(rd x i - rd y i)) (B:=4000000) (n:=i.toNat) fun j _ _=>pb j
   rw [←i3] at g
   rw [w64_id (x:=rd x i - rd y i) (by omega) (by omega),w64_id (x:=(rd x i - rd y i)*(rd x i - rd y i)) (by omega) (by omega),w64_id (x:=i+1) (by omega) (by omega),w64_id (by omega) (by omega)]
   refine Gives.now ⟨⟨by simp only []; omega,by simp only []; omega,?_⟩,by simp only []; omega⟩
   simp only []
   rw [show (i+1).toNat=i.toNat+1 by omega,sg,←i3,Int.toNat_of_nonneg i1]
 · have e:i.toNat=x.length:=by omega
   rw [i3,e]
theorem ms_whole {d:Int} (h0:0≤d) (h1:d≤2305843009213693952):Gives (fun k=>T_measure_whole k d 0) (·=mkQ d 1):=by
 refine Gives.step ?_
 simp only [T_measure_whole]
 exact Gives.neg (by simp) (Gives.bind (mk_gives h0 (by omega) h1 (by omega)) fun r hr=>Gives.now hr)
theorem ms_euclid {x y:List Int} (hx:Win x) (hy:Win y) (hl:x.length=y.length):Gives (fun k=>T_measure_distances_1 k x y) (fun r=>r=mkQ (sg (fun i=>(rd x i - rd y i)*(rd x i - rd y i)) x.length) 1∧OkR r):=by
 refine Gives.step ?_
 simp only [T_measure_distances_1]
 have x2:=hx.hi
 have pb:∀ i,0≤(rd x i - rd y i)*(rd x i - rd y i)∧(rd x i - rd y i)*(rd x i - rd y i)≤4000000:=fun i=>by
  have:=hx.smp.rd i
  have:=hy.smp.rd i
  have:=prod_bound (a:=rd x i - rd y i) (b:=rd x i - rd y i) (A:=2000) (B:=2000) (by omega) (by omega) (by omega) (by omega)
  have:=sq_nonneg (rd x i - rd y i)
  omega
 refine Gives.bind (Q:=fun r=>r=(sg (fun i=>(rd x i - rd y i)*(rd x i - rd y i)) x.length,0)) ?_ fun r hr=>?_
 · refine Gives.step ?_
   simp only [T_euclid_Distance]
   refine Gives.bind (eu_check hx hy hl) fun e he=>?_
   subst he
   exact Gives.neg (by simp) (Gives.bind (eu_squareV hx hy hl) fun v hv=>Gives.now (by rw [hv]))
 · subst hr
   have g:=sg_bound (f:=fun i=>(rd x i - rd y i)*(rd x i - rd y i)) (B:=4000000) (n:=x.length) fun j _ _=>⟨by have:=pb j; omega,(pb j).2⟩
   have g0:=sg_nonneg (f:=fun i=>(rd x i - rd y i)*(rd x i - rd y i)) (n:=x.length) fun j _ _=>(pb j).1
   refine Gives.bind (ms_whole g0 (by omega)) fun r hr=>Gives.now ?_
   rw [hr]
   exact ⟨rfl,mk_ok g0 (by omega) (by omega) (by omega)⟩
def shN (x y:List Int):Int:=(x.length:Int)*sg (fun i=>(rd x i - rd y i)*(rd x i - rd y i)) x.length - sg (fun i=>rd x i - rd y i) x.length*sg (fun i=>rd x i - rd y i) x.length
theorem sg_cauchy (f:Int→Int) (n:Nat):sg f n*sg f n≤(n:Int)*sg (fun i=>f i*f i) n:=by
 have h:=sg_cs f (fun _=>1) n
 have e1:sg (fun i=>f i*1) n=sg f n:=sg_congr fun i _ _=>Int.mul_one _
 have e2:∀ n:Nat,sg (fun _=>(1:Int)*1) n=n:=by
  intro n
  induction n with
  | zero=>rfl
  | succ n ih=>rw [sg,ih]; omega
 rw [e1,e2] at h
 rw [Int.mul_comm (n:Int)]
 exact h
theorem eu_shifted {x y:List Int} (hx:Win x) (hy:Win y) (hl:x.length=y.length):Gives (fun k=>T_euclid_Shifted k x y) (·=mkQ (shN x y) x.length)∧OkR (mkQ (shN x y) x.length):=by
 have x1:=hx.lo
 have x2:=hx.hi
 have db:∀ i,-2000≤rd x i - rd y i∧rd x i - rd y i≤2000:=fun i=>by
  have:=hx.smp.rd i
  have:=hy.smp.rd i
  omega
 have pb:∀ i,0≤(rd x i - rd y i)*(rd x i - rd y i)∧(rd x i - rd y i)*(rd x i - rd y i)≤4000000:=fun i=>by
  have:=db i
  have:=prod_bound (a:=rd x i - rd y i) (b:=rd x i - rd y i) (A:=2000) (B:=2000) (by omega) (by omega) (by omega) (by omega)
  have:=sq_nonneg (rd x i - rd y i)
  omega
 have g:=sg_bound (f:=fun i=>(rd x i - rd y i)*(rd x i - rd y i)) (B:=4000000) (n:=x.length) fun j _ _=>⟨by have:=pb j; omega,(pb j).2⟩
 have g0:=sg_nonneg (f:=fun i=>(rd x i - rd y i)*(rd x i - rd y i)) (n:=x.length) fun j _ _=>(pb j).1
 have s:=sg_bound (f:=fun i=>rd x i - rd y i) (B:=2000) (n:=x.length) fun j _ _=>db j
 have c:=sg_cauchy (fun i=>rd x i - rd y i) x.length
 have q1:=prod_bound (a:=(x.length:Int)) (b:=sg (fun i=>(rd x i - rd y i)*(rd x i - rd y i)) x.length) (A:=32) (B:=128000000) (by omega) (by omega) (by omega) (by omega)
 have q2:=prod_bound (a:=sg (fun i=>rd x i - rd y i) x.length) (b:=sg (fun i=>rd x i - rd y i) x.length) (A:=64000) (B:=64000) (by omega) (by omega) (by omega) (by omega)
 have q3:=sq_nonneg (sg (fun i=>rd x i - rd y i) x.length)
 have h0:0≤shN x y:=by unfold shN; omega
 have h1:shN x y≤4096000000:=by unfold shN; omega
 refine ⟨?_,mk_ok h0 (by omega) (by omega) (by omega)⟩
 refine Gives.step ?_
 simp only [T_euclid_Shifted]
 refine Gives.bind (eu_check hx hy hl) fun e he=>?_
 subst he
 refine Gives.neg (by simp) (Gives.bind (Q:=fun r=>r=sg (fun i=>rd x i - rd y i) x.length) ?_ fun r hr=>Gives.bind (eu_squareV hx hy hl) fun v hv=>?_)
 · refine Gives.loop (fun s=>0≤s.2∧s.2≤(x.length:Int)∧s.1=sg (fun i=>rd x i - rd y i) s.2.toNat) (fun s=>((x.length:Int) - s.2).toNat) ?_ ⟨by simp only []; omega,by simp only []; omega,rfl⟩
   intro ⟨a,i⟩ ⟨i1,i2,i3⟩
   simp only at i1 i2 i3
   unfold T_euclid_Shifted_l1
   simp only []
   refine Gives.ite (fun c=>Gives.opt (at_rd i1 c) (Gives.opt (at_rd i1 (by omega)) ?_)) fun c=>Gives.now ?_
   · have d:=db i
     have g:=sg_bound (f:=fun i=>rd x i - rd y i) (B:=2000) (n:=i.toNat) fun j _ _=>db j
     rw [←i3] at g
     rw [w64_id (x:=rd x i - rd y i) (by omega) (by omega),w64_id (x:=i+1) (by omega) (by omega),w64_id (by omega) (by omega)]
     refine Gives.now ⟨⟨by simp only []; omega,by simp only []; omega,?_⟩,by simp only []; omega⟩
     simp only []
     rw [show (i+1).toNat=i.toNat+1 by omega,sg,←i3,Int.toNat_of_nonneg i1]
   · have e:i.toNat=x.length:=by omega
     rw [i3,e]
 · subst hr hv
   rw [w64_id (x:=(x.length:Int)*_) (by omega) (by omega),w64_id (x:=sg (fun i=>rd x i - rd y i) x.length*_) (by omega) (by omega),w64_id (x:=_ - _) (by omega) (by omega)]
   exact Gives.bind (mk_gives h0 (by omega) (by omega) (by omega)) fun r hr=>Gives.now hr
theorem nm_variance {x:List Int} (hx:Win x):Gives (fun k=>T_normal_variance k x) (·=prodP x x):=by
 have x1:=hx.lo
 have x2:=hx.hi
 have pb:∀ i,0≤rd x i*rd x i∧rd x i*rd x i≤1000000:=fun i=>by
  have:=hx.smp.rd i
  have:=prod_bound (a:=rd x i) (b:=rd x i) (A:=1000) (B:=1000) (by omega) (by omega) (by omega) (by omega)
  have:=sq_nonneg (rd x i)
  omega
 have e1:sg (rd x) x.length=x.sum:=by rw [sg_psum (Nat.le_refl _)]; exact psum_all
 refine Gives.step ?_
 simp only [T_normal_variance]
 refine Gives.bind (Q:=fun r=>r=(sg (rd x) x.length,sg (fun i=>rd x i*rd x i) x.length)) ?_ fun r hr=>?_
 · refine Gives.loop (fun s=>0≤s.1∧s.1≤(x.length:Int)∧s.2.1=sg (rd x) s.1.toNat∧s.2.2=sg (fun i=>rd x i*rd x i) s.1.toNat) (fun s=>((x.length:Int) - s.1).toNat) ?_ ⟨by simp only []; omega,by simp only []; omega,rfl,rfl⟩
   intro ⟨i,a,b⟩ ⟨i1,i2,i3,i4⟩
   simp only at i1 i2 i3 i4
   unfold T_normal_variance_l1
   simp only []
   refine Gives.ite (fun c=>Gives.opt (at_rd i1 c) ?_) fun c=>Gives.now ?_
   · have d:=hx.smp.rd i
     have p:=pb i
     have g1:=sg_bound (f:=rd x) (B:=1000) (n:=i.toNat) fun j _ _=>hx.smp.rd j
     have g2:=sg_bound (f:=fun i=>rd x i*rd x i) (B:=1000000) (n:=i.toNat) fun j _ _=>⟨by have:=pb j; omega,(pb j).2⟩
     rw [←i3] at g1
     rw [←i4] at g2
     rw [w64_id (x:=rd x i*rd x i) (by omega) (by omega),w64_id (x:=i+1) (by omega) (by omega),w64_id (x:=a+rd x i) (by omega) (by omega),w64_id (by omega) (by omega)]
     refine Gives.now ⟨⟨by simp only []; omega,by simp only []; omega,?_,?_⟩,by simp only []; omega⟩
     · simp only []
       rw [show (i+1).toNat=i.toNat+1 by omega,sg,←i3,Int.toNat_of_nonneg i1]
     · simp only []
       rw [show (i+1).toNat=i.toNat+1 by omega,sg,←i4,Int.toNat_of_nonneg i1]
   · have e:i.toNat=x.length:=by omega
     rw [i3,i4,e]
 · subst hr
   have g1:=sg_bound (f:=rd x) (B:=1000) (n:=x.length) fun j _ _=>hx.smp.rd j
   have g2:=sg_bound (f:=fun i=>rd x i*rd x i) (B:=1000000) (n:=x.length) fun j _ _=>⟨by have:=pb j; omega,(pb j).2⟩
   have g0:=sg_nonneg (f:=fun i=>rd x i*rd x i) (n:=x.length) fun j _ _=>(pb j).1
   have nn:=prodP_nonneg (x:=x) (by omega)
   unfold prodP at nn ⊢
   rw [←e1] at nn ⊢
   refine Gives.bind (Q:=fun r=>r=(x.length:Int)*sg (fun i=>rd x i*rd x i) x.length - sg (rd x) x.length*sg (rd x) x.length) ?_ fun r hr=>Gives.now hr
   refine Gives.step ?_
   simp only [T_window_Variance]
   have q1:=prod_bound (a:=(x.length:Int)) (b:=sg (fun i=>rd x i*rd x i) x.length) (A:=32) (B:=32000000) (by omega) (by omega) (by omega) (by omega)
   have q2:=prod_bound (a:=sg (rd x) x.length) (b:=sg (rd x) x.length) (A:=32000) (B:=32000) (by omega) (by omega) (by omega) (by omega)
   rw [w64_id (x:=(-1000)*(x.length:Int)) (by omega) (by omega),w64_id (x:=1000*(x.length:Int)) (by omega) (by omega),w64_id (x:=1000000*(x.length:Int)) (by omega) (by omega)]
   refine Gives.neg (by simp; omega) (Gives.now ?_)
   rw [w64_id (x:=(x.length:Int)*_) (by omega) (by omega),w64_id (x:=sg (rd x) x.length*_) (by omega) (by omega),w64_id (x:=_ - _) (by omega) (by omega)]
   unfold imax
   split <;> omega
theorem nm_productV {x y:List Int} (hx:Win x) (hy:Win y) (hl:x.length=y.length):Gives (fun k=>T_normal_product k x y) (·=prodP x y):=by
 have x1:=hx.lo
 have x2:=hx.hi
 have pb:∀ i,-1000000≤rd x i*rd y i∧rd x i*rd y i≤1000000:=fun i=>by
  have:=hx.smp.rd i
  have:=hy.smp.rd i
  have:=prod_bound (a:=rd x i) (b:=rd y i) (A:=1000) (B:=1000) (by omega) (by omega) (by omega) (by omega)
  omega
 have e1:sg (rd x) x.length=x.sum:=by rw [sg_psum (Nat.le_refl _)]; exact psum_all
 have e2:sg (rd y) x.length=y.sum:=by rw [hl,sg_psum (Nat.le_refl _)]; exact psum_all
 refine Gives.step ?_
 simp only [T_normal_product]
 refine Gives.bind (Q:=fun r=>r=(sg (fun i=>rd x i*rd y i) x.length,sg (rd x) x.length,sg (rd y) x.length)) ?_ fun r hr=>?_
 · refine Gives.loop (fun s=>0≤s.2.2.2∧s.2.2.2≤(x.length:Int)∧s.1=sg (fun i=>rd x i*rd y i) s.2.2.2.toNat∧s.2.1=sg (rd x) s.2.2.2.toNat∧s.2.2.1=sg (rd y) s.2.2.2.toNat) (fun s=>((x.length:Int) - s.2.2.2).toNat) ?_ ⟨by simp only []; omega,by simp only []; omega,rfl,rfl,rfl⟩
   intro ⟨a,b,d,i⟩ ⟨i1,i2,i3,i4,i5⟩
   simp only at i1 i2 i3 i4 i5
   unfold T_normal_product_l1
   simp only []
   refine Gives.ite (fun c=>Gives.opt (at_rd i1 c) (Gives.opt (at_rd i1 (by omega)) ?_)) fun c=>Gives.now ?_
   · have d1:=hx.smp.rd i
     have d2:=hy.smp.rd i
     have p:=pb i
     have g1:=sg_bound (f:=rd x) (B:=1000) (n:=i.toNat) fun j _ _=>hx.smp.rd j
     have g3:=sg_bound (f:=rd y) (B:=1000) (n:=i.toNat) fun j _ _=>hy.smp.rd j
     have g2:=sg_bound (f:=fun i=>rd x i*rd y i) (B:=1000000) (n:=i.toNat) fun j _ _=>pb j
     rw [←i4] at g1
     rw [←i5] at g3
     rw [←i3] at g2
     rw [w64_id (x:=rd x i*rd y i) (by omega) (by omega),w64_id (x:=i+1) (by omega) (by omega),w64_id (x:=b+rd x i) (by omega) (by omega),w64_id (x:=d+rd y i) (by omega) (by omega),w64_id (by omega) (by omega)]
     refine Gives.now ⟨⟨by simp only []; omega,by simp only []; omega,?_,?_,?_⟩,by simp only []; omega⟩
     · simp only []
       rw [show (i+1).toNat=i.toNat+1 by omega,sg,←i3,Int.toNat_of_nonneg i1]
     · simp only []
       rw [show (i+1).toNat=i.toNat+1 by omega,sg,←i4,Int.toNat_of_nonneg i1]
     · simp only []
       rw [show (i+1).toNat=i.toNat+1 by omega,sg,←i5,Int.toNat_of_nonneg i1]
   · have e:i.toNat=x.length:=by omega
     rw [i3,i4,i5,e]
 · subst hr
   have g1:=sg_bound (f:=rd x) (B:=1000) (n:=x.length) fun j _ _=>hx.smp.rd j
   have g3:=sg_bound (f:=rd y) (B:=1000) (n:=x.length) fun j _ _=>hy.smp.rd j
   have g2:=sg_bound (f:=fun i=>rd x i*rd y i) (B:=1000000) (n:=x.length) fun j _ _=>pb j
   have q1:=prod_bound (a:=(x.length:Int)) (b:=sg (fun i=>rd x i*rd y i) x.length) (A:=32) (B:=32000000) (by omega) (by omega) (by omega) (by omega)
   have q2:=prod_bound (a:=sg (rd x) x.length) (b:=sg (rd y) x.length) (A:=32000) (B:=32000) (by omega) (by omega) (by omega) (by omega)
   simp only []
   rw [w64_id (x:=(x.length:Int)*_) (by omega) (by omega),w64_id (x:=sg (rd x) x.length*_) (by omega) (by omega),w64_id (x:=_ - _) (by omega) (by omega)]
   refine Gives.now ?_
   unfold prodP
   rw [←e1,←e2]
def nmV (p v w:Int):Int × Int × Int:=if v=0∧w=0 then mkQ 0 1 else if v=0∨w=0 then mkQ 1 1 else if p < 0 then mkQ (v*w+p*p) (v*w) else mkQ (v*w - p*p) (v*w)
theorem prodP_bd {x y:List Int} (hx:Win x) (hy:Win y) (hl:x.length=y.length):-2048000000≤prodP x y∧prodP x y≤2048000000:=by
 have x1:=hx.lo
 have x2:=hx.hi
 have pb:∀ i,-1000000≤rd x i*rd y i∧rd x i*rd y i≤1000000:=fun i=>by
  have:=hx.smp.rd i
  have:=hy.smp.rd i
  have:=prod_bound (a:=rd x i) (b:=rd y i) (A:=1000) (B:=1000) (by omega) (by omega) (by omega) (by omega)
  omega
 have e1:sg (rd x) x.length=x.sum:=by rw [sg_psum (Nat.le_refl _)]; exact psum_all
 have e2:sg (rd y) x.length=y.sum:=by rw [hl,sg_psum (Nat.le_refl _)]; exact psum_all
 have g1:=sg_bound (f:=rd x) (B:=1000) (n:=x.length) fun j _ _=>hx.smp.rd j
 have g3:=sg_bound (f:=rd y) (B:=1000) (n:=x.length) fun j _ _=>hy.smp.rd j
 have g2:=sg_bound (f:=fun i=>rd x i*rd y i) (B:=1000000) (n:=x.length) fun j _ _=>pb j
 have q1:=prod_bound (a:=(x.length:Int)) (b:=sg (fun i=>rd x i*rd y i) x.length) (A:=32) (B:=32000000) (by omega) (by omega) (by omega) (by omega)
 have q2:=prod_bound (a:=sg (rd x) x.length) (b:=sg (rd y) x.length) (A:=32000) (B:=32000) (by omega) (by omega) (by omega) (by omega)
 unfold prodP
 rw [←e1,←e2]
 omega
theorem prodP_self {x:List Int} (hx:Win x):prodP x x≤1024000000:=by
 have x1:=hx.lo
 have x2:=hx.hi
 have pb:∀ i,-1000000≤rd x i*rd x i∧rd x i*rd x i≤1000000:=fun i=>by
  have:=hx.smp.rd i
  have:=prod_bound (a:=rd x i) (b:=rd x i) (A:=1000) (B:=1000) (by omega) (by omega) (by omega) (by omega)
  omega
 have g2:=sg_bound (f:=fun i=>rd x i*rd x i) (B:=1000000) (n:=x.length) fun j _ _=>pb j
 have q1:=prod_bound (a:=(x.length:Int)) (b:=sg (fun i=>rd x i*rd x i) x.length) (A:=32) (B:=32000000) (by omega) (by omega) (by omega) (by omega)
 have q2:=sq_nonneg x.sum
 unfold prodP
 omega
theorem nm_gap {x y:List Int} (hx:Win x) (hy:Win y) (hl:x.length=y.length):Gives (fun k=>T_normal_Gap k x y) (·=nmV (prodP x y) (prodP x x) (prodP y y))∧OkR (nmV (prodP x y) (prodP x x) (prodP y y)):=by
 have x1:=hx.lo
 have x2:=hx.hi
 have b1:=prodP_bd hx hy hl
 have b2:=prodP_self hx
 have b3:=prodP_self hy
 have n1:=prodP_nonneg (x:=x) (by omega)
 have n2:=prodP_nonneg (x:=y) (by omega)
 have cs:=prodP_cs hl (by omega)
 have V:=nm_variance hx
 have W:=nm_variance hy
 have C:=nm_productV hx hy hl
 generalize prodP x y=p at *
 generalize prodP x x=v at *
 generalize prodP y y=w at *
 have q1:=prod_bound (a:=v) (b:=w) (A:=1024000000) (B:=1024000000) (by omega) (by omega) (by omega) (by omega)
 have q2:=sq_nonneg p
 have q3:=Int.mul_nonneg n1 n2
 have q4:¬(v=0∨w=0)→0 < v*w:=fun h=>Int.mul_pos (by omega) (by omega)
 have wv:w64 (v*w)=v*w:=w64_id (by omega) (by omega)
 have wp:w64 (p*p)=p*p:=w64_id (by omega) (by omega)
 refine ⟨?_,?_⟩
 · refine Gives.step ?_
   simp only [T_normal_Gap]
   refine Gives.bind (eu_distance hx hy hl) fun e he=>Gives.neg (by simp [he]) (Gives.bind (Q:=fun r=>r=nmV p v w) ?_ fun r hr=>Gives.now hr)
   refine Gives.step ?_
   simp only [T_normal_gap]
   refine Gives.bind V fun r hr=>Gives.bind W fun r' hr'=>?_
   subst hr hr'
   unfold nmV
   refine Gives.ite (fun h=>?_) fun h=>?_
   · rw [if_pos (by simpa using h)]
     exact Gives.bind (mk_gives (by omega) (by omega) (by omega) (by omega)) fun r hr=>Gives.now hr
   rw [if_neg (by simpa using h)]
   refine Gives.ite (fun h=>?_) fun h=>?_
   · rw [if_pos (by simpa using h)]
     exact Gives.bind (mk_gives (by omega) (by omega) (by omega) (by omega)) fun r hr=>Gives.now hr
   have h':¬(r=0∨r'=0):=by simpa using h
   have q5:=q4 h'
   rw [if_neg h',wv]
   refine Gives.bind C fun u hu=>?_
   subst hu
   rw [wp]
   refine Gives.ite (fun h=>?_) fun h=>?_
   · rw [if_pos h,w64_id (by omega) (by omega)]
     exact Gives.bind (mk_gives (by omega) (by omega) (by omega) (by omega)) fun r hr=>Gives.now hr
   · rw [if_neg h,w64_id (by omega) (by omega)]
     exact Gives.bind (mk_gives (by omega) (by omega) (by omega) (by omega)) fun r hr=>Gives.now hr
 · unfold nmV
   split
   · exact mk_ok (by omega) (by omega) (by omega) (by omega)
   split
   · exact mk_ok (by omega) (by omega) (by omega) (by omega)
   rename_i h
   have q5:=q4 h
   split
   · exact mk_ok (by omega) (by omega) (by omega) (by omega)
   · exact mk_ok (by omega) (by omega) (by omega) (by omega)
def ab (a b:Int):Int:=imax (a - b) (b - a)
theorem ab_bd {a b:Int} (h:-1000≤a∧a≤1000) (k:-1000≤b∧b≤1000):0≤ab a b∧ab a b≤2000:=by
 unfold ab imax
 split <;> omega
theorem ab_w {a b:Int} (h:-1000≤a∧a≤1000) (k:-1000≤b∧b≤1000):imax (w64 (a - b)) (w64 (b - a))=ab a b:=by
 rw [w64_id (by omega) (by omega),w64_id (by omega) (by omega)]; rfl
theorem ab_v {a b:Int} (h:-1000≤a∧a≤1000) (k:-1000≤b∧b≤1000):imax (w64 (a - b)) (w64 (0 - w64 (a - b)))=ab a b:=by
 rw [w64_id (x:=a - b) (by omega) (by omega),w64_id (by omega) (by omega)]
 unfold ab
 rw [show (0:Int) - (a - b)=b - a by omega]
def Ed (x y:List Int) (g:Int):Nat→Nat→Int
 | 0,0=>0
 | 0,j+1=>Ed x y g 0 j+ab (rd y j) g
 | i+1,0=>Ed x y g i 0+ab (rd x i) g
 | i+1,j+1=>mn (mn (Ed x y g i j+ab (rd x i) (rd y j)) (Ed x y g i (j+1)+ab (rd x i) g)) (Ed x y g (i+1) j+ab (rd y j) g)
termination_by i j=>i+j
theorem Ed_bd {x y:List Int} {g:Int} (hx:Smp x) (hy:Smp y) (hg:-1000≤g∧g≤1000):∀ i j:Nat,0≤Ed x y g i j∧Ed x y g i j≤2000*((i:Int)+j)
 | 0,0=>by rw [Ed]; omega
 | 0,j+1=>by
  rw [Ed]
  have:=Ed_bd hx hy hg 0 j
  have:=ab_bd (hy.rd j) hg
  omega
 | i+1,0=>by
  rw [Ed]
  have:=Ed_bd hx hy hg i 0
  have:=ab_bd (hx.rd i) hg
  omega
 | i+1,j+1=>by
  rw [Ed]
  have:=Ed_bd hx hy hg i j
  have:=Ed_bd hx hy hg i (j+1)
  have:=Ed_bd hx hy hg (i+1) j
  have:=ab_bd (hx.rd i) (hy.rd j)
  have:=ab_bd (hx.rd i) hg
  have:=ab_bd (hy.rd j) hg
  unfold mn
  split <;> split <;> omega
termination_by i j=>i+j
def stp (x y:List Int) (g:Int) (i j:Nat):Nat→Option (Int × Nat × Nat)
 | 0=>if 0 < i∧0 < j then some (ab (rd x ((i - 1:Nat):Int)) (rd y ((j - 1:Nat):Int)),i - 1,j - 1) else none
 | 1=>if 0 < i then some (ab (rd x ((i - 1:Nat):Int)) g,i - 1,j) else none
 | _=>if 0 < j then some (ab (rd y ((j - 1:Nat):Int)) g,i,j - 1) else none
def cmb (u:Option Int) (v:Int):Int:=match u with | none=>v | some u=>mn u v
def bstN (x y:List Int) (g:Int) (i j:Nat):Nat→Option Int
 | 0=>none
 | n+1=>match stp x y g i j n with
  | none=>bstN x y g i j n
  | some (c,a,b)=>some (cmb (bstN x y g i j n) (Ed x y g a b+c))
theorem bst_Ed {x y:List Int} {g:Int} {i j:Nat} (h:0 < i+j):bstN x y g i j 3=some (Ed x y g i j):=by
 cases i with
 | zero =>
  cases j with
  | zero=>omega
  | succ j=>simp [bstN,stp,cmb,Ed]
 | succ i =>
  cases j with
  | zero=>simp [bstN,stp,cmb,Ed]
  | succ j=>simp [bstN,stp,cmb,Ed]
theorem bst_bd {x y:List Int} {g:Int} (hx:Smp x) (hy:Smp y) (hg:-1000≤g∧g≤1000) {i j:Nat} (hi:i≤32) (hj:j≤32) {n:Nat} {c:Int} {a b:Nat} (h:stp x y g i j n=some (c,a,b)) :
 (0≤c∧c≤2000)∧a≤i∧b≤j∧(a < i∨a=i∧b < j):=by
 unfold stp at h
 split at h
 · split at h
   · cases h
     exact ⟨ab_bd (hx.rd _) (hy.rd _),by omega,by omega,by omega⟩
   · cases h
 · split at h
   · cases h
     exact ⟨ab_bd (hx.rd _) hg,by omega,by omega,by omega⟩
   · cases h
 · split at h
   · cases h
     exact ⟨ab_bd (hy.rd _) hg,by omega,by omega,by omega⟩
   · cases h
theorem bst_le {x y:List Int} {g:Int} (hx:Smp x) (hy:Smp y) (hg:-1000≤g∧g≤1000) {i j:Nat} (hi:i≤32) (hj:j≤32):∀ {n:Nat} {u:Int},bstN x y g i j n=some u→0≤u∧u≤1000000
 | 0,u,h=>by cases h
 | n+1,u,h=>by
  unfold bstN at h
  split at h
  · exact bst_le hx hy hg hi hj h
  · rename_i c a b hs
    obtain ⟨h1,h2,h3,_⟩:=bst_bd hx hy hg hi hj hs
    have e:=Ed_bd hx hy hg a b
    cases h
    unfold cmb
    split
    · omega
    · rename_i u hu
      have:=bst_le hx hy hg hi hj hu
      unfold mn
      split <;> omega
structure Fl (x y:List Int) (g:Int) (t:List Int) (i j:Nat):Prop where
 len:t.length=1089
 val:∀ p q:Nat,p≤x.length→q≤y.length→p < i∨p=i∧q < j→t.getD (p*33+q) 0=Ed x y g p q
 zero:t.getD 0 0=0
theorem ed_lastV {x y:List Int} (hx:Win x) (hy:Win y) {g:Int} (hg:-1000≤g∧g≤1000) {i j n:Nat} (hi:i≤x.length) (hj:j≤y.length) (hn:n < 3) :
 Gives (fun k=>T_edit_last k ((n+1:Nat):Int) x y g i j) (fun r=>match stp x y g i j n with | none=>r.2.2.2=false | some (c,a,b)=>r=(c,(a:Int),(b:Int),true)):=by
 have x2:=hx.hi
 have y2:=hy.hi
 have ap:∀ a b:Int,Gives (fun k=>T_edit_apart k a b) (fun _=>True):=fun a b=>Gives.step (by simp only [T_edit_apart]; exact Gives.now trivial)
 have wi:w64 ((i:Int) - 1)=(i:Int) - 1:=w64_id (by omega) (by omega)
 have wj:w64 ((j:Int) - 1)=(j:Int) - 1:=w64_id (by omega) (by omega)
 refine Gives.step ?_
 simp only [T_edit_last]
 have ci:0 < i→((i - 1:Nat):Int)=(i:Int) - 1:=fun h=>by omega
 have cj:0 < j→((j - 1:Nat):Int)=(j:Int) - 1:=fun h=>by omega
 refine Gives.ite (fun h=>?_) fun h=>Gives.ite (fun h2=>?_) fun h2=>Gives.ite (fun h3=>?_) fun h3=>Gives.now ?_
 · simp only [Bool.and_eq_true,decide_eq_true_eq] at h
   obtain rfl:n=0:=by omega
   rw [wi,wj]
   refine Gives.opt (at_rd (by omega) (by omega)) (Gives.opt (at_rd (by omega) (by omega)) (Gives.bind (ap _ _) fun _ _=>Gives.now ?_))
   rw [ab_w (hx.smp.rd _) (hy.smp.rd _)]
   simp only [stp]
   rw [if_pos (by omega)]
   simp only []
   rw [ci (by omega),cj (by omega)]
 · simp only [Bool.and_eq_true,decide_eq_true_eq] at h2
   obtain rfl:n=1:=by omega
   rw [wi]
   refine Gives.opt (at_rd (by omega) (by omega)) (Gives.bind (ap _ _) fun _ _=>Gives.now ?_)
   rw [ab_w (hx.smp.rd _) hg]
   simp only [stp]
   rw [if_pos (by omega)]
   simp only []
   rw [ci (by omega)]
 · simp only [Bool.and_eq_true,decide_eq_true_eq] at h3
   obtain rfl:n=2:=by omega
   rw [wj]
   refine Gives.opt (at_rd (by omega) (by omega)) (Gives.bind (ap _ _) fun _ _=>Gives.now ?_)
   rw [ab_w (hy.smp.rd _) hg]
   simp only [stp]
   rw [if_pos (by omega)]
   simp only []
   rw [cj (by omega)]
 · simp only [Bool.and_eq_true,decide_eq_true_eq] at h h2 h3
   have e:stp x y g i j n=none:=by
    rcases (by omega:n=0∨n=1∨n=2) with rfl | rfl | rfl
    · simp only [stp]; rw [if_neg (by omega)]
    · simp only [stp]; rw [if_neg (by omega)]
    · simp only [stp]; rw [if_neg (by omega)]
   rw [e]
def edS (t:List Int) (d:Nat):Option Int→Bool × List Int
 | none=>(true,t)
 | some v=>(false,t.set d v)
theorem ed_stepV {x y:List Int} (hx:Win x) (hy:Win y) {g:Int} (hg:-1000≤g∧g≤1000) {i j:Nat} {z t:List Int} (hi:i≤x.length) (hj:j≤y.length) (ht:Fl x y g t i j) :
 Gives (fun k=>loopT (T_edit_table_l1 k x y g z i j) k (true,1,t)) (fun r=>r=(edS t (i*33+j) (bstN x y g i j 3)).2):=by
 have x2:=hx.hi
 have y2:=hy.hi
 have hl:=ht.len
 refine Gives.loop (fun s=>∃ n:Nat,n≤3∧s.2.1=((n+1:Nat):Int)∧(s.1,s.2.2)=edS t (i*33+j) (bstN x y g i j n)) (fun s=>(4 - s.2.1).toNat) ?_ ⟨0,by omega,rfl,rfl⟩
 rintro ⟨f,s,t'⟩ ⟨n,n3,e1,e2⟩
 simp only at e1 e2
 subst e1
 unfold T_edit_table_l1
 simp only []
 refine Gives.ite (fun hs=>?_) fun hs=>Gives.now ?_
 · refine Gives.bind (ed_lastV hx hy hg hi hj (n:=n) (by omega)) fun r hr=>?_
   cases hs':stp x y g i j n with
   | none =>
    rw [hs'] at hr
    have hr:r.2.2.2=false:=hr
    refine Gives.bind (Q:=fun p=>p=false) ?_ fun p hp=>?_
    · exact Gives.neg (by rw [hr]; simp) (Gives.now rfl)
    · subst hp
      refine Gives.bind (Q:=fun q=>q=(f,t')) (Gives.neg (by simp) (Gives.now rfl)) fun q hq=>Gives.now ?_
      subst hq
      rw [w64_nat (by omega)]
      refine ⟨⟨n+1,by omega,rfl,?_⟩,by simp only []; omega⟩
      simp only []
      rw [e2]
      unfold bstN
      rw [hs']
      cases n <;> rfl
   | some v =>
    obtain ⟨c,a,b⟩:=v
    rw [hs'] at hr
    have hr:r=(c,(a:Int),(b:Int),true):=hr
    subst hr
    obtain ⟨c1,a1,b1,hab⟩:=bst_bd hx.smp hy.smp hg (i:=i) (j:=j) (by omega) (by omega) hs'
    have eab:=Ed_bd hx.smp hy.smp hg a b
    have hne:¬i*33+j=a*33+b:=by omega
    have tv:t.getD (a*33+b) 0=Ed x y g a b:=ht.val a b (by omega) (by omega) hab
    have len':t'.length=1089:=by
     have:=congrArg Prod.snd e2
     simp only [] at this
     rw [this]
     unfold edS
     split
     · exact hl
     · rw [List.length_set]; exact hl
    have get':t'[a*33+b]?=some (Ed x y g a b):=by
     rw [el_get (by omega)]
     have:=congrArg Prod.snd e2
     simp only [] at this
     rw [this]
     unfold edS
     split
     · rw [tv]
     · rw [el_set (by omega),if_neg (fun e=>hne e.symm),tv]
    simp only [Int.toNat_natCast]
    have w1:w64 (Ed x y g a b+c)=Ed x y g a b+c:=w64_id (by omega) (by omega)
    have fin:∀ (f2:Bool) (t2:List Int),(f2,t2)=edS t (i*33+j) (bstN x y g i j (n+1))→(∃ m:Nat,m≤3∧w64 (((n+1:Nat):Int)+1)=((m+1:Nat):Int)∧(f2,t2)=edS t (i*33+j) (bstN x y g i j m))∧(4 - w64 (((n+1:Nat):Int)+1)).toNat < (4 - ((n+1:Nat):Int)).toNat:=fun f2 t2 h=>by
     rw [w64_nat (by omega)]
     exact ⟨⟨n+1,by omega,rfl,h⟩,by omega⟩
    have bn:bstN x y g i j (n+1)=some (cmb (bstN x y g i j n) (Ed x y g a b+c)):=by
     conv=>lhs; unfold bstN
     rw [hs']
    cases hb:bstN x y g i j n with
    | none =>
     rw [hb] at e2 bn
     cases e2
     refine Gives.bind (Q:=fun p=>p=true) (Gives.pos (by simp) (Gives.pos (by simp) (Gives.now rfl))) fun p hp=>?_
     subst hp
     refine Gives.bind (Q:=fun q=>q=(false,t.set (i*33+j) (Ed x y g a b+c))) ?_ fun q hq=>?_
     · refine Gives.pos (by simp) (Gives.pos (by omega) (Gives.pos (by omega) (Gives.pos (by omega) (Gives.pos (by omega) (Gives.opt get' (Gives.pos (by omega) (Gives.pos (by omega) (Gives.pos (by omega) (Gives.pos (by omega) (Gives.now ?_))))))))))
       rw [w1]
     · subst hq
       exact Gives.now (fin false (t.set (i*33+j) (Ed x y g a b+c)) (by rw [bn]; rfl))
    | some u =>
     rw [hb] at e2 bn
     cases e2
     have ub:=bst_le hx.smp hy.smp hg (i:=i) (j:=j) (by omega) (by omega) hb
     have gu:(t.set (i*33+j) u)[i*33+j]?=some u:=by
      rw [List.getElem?_set_self (by omega)]
     refine Gives.bind (Q:=fun p=>p=decide (Ed x y g a b+c < u)) (Gives.pos (by simp) (Gives.neg (by simp) ?_)) fun p hp=>?_
     · refine Gives.pos (by omega) (Gives.pos (by omega) (Gives.pos (by omega) (Gives.pos (by omega) (Gives.opt get' (Gives.pos (by omega) (Gives.pos (by omega) (Gives.pos (by omega) (Gives.pos (by omega) (Gives.opt gu (Gives.now ?_))))))))))
       rw [w1]
     subst hp
     refine Gives.bind (Q:=fun q=>q=(false,t.set (i*33+j) (mn u (Ed x y g a b+c)))) ?_ fun q hq=>?_
     · refine Gives.ite (fun h=>?_) fun h=>Gives.now ?_
       · refine Gives.pos (by omega) (Gives.pos (by omega) (Gives.pos (by omega) (Gives.pos (by omega) (Gives.opt get' (Gives.pos (by omega) (Gives.pos (by omega) (Gives.pos (by omega) (Gives.pos (by omega) (Gives.now ?_)))))))))
         simp only [decide_eq_true_eq] at h
         rw [w1,List.set_set]
         unfold mn
         rw [if_pos h]
       · simp only [decide_eq_true_eq] at h
         unfold mn
         rw [if_neg h]
     · subst hq
       exact Gives.now (fin false (t.set (i*33+j) (mn u (Ed x y g a b+c))) (by rw [bn]; rfl))
 · obtain rfl:n=3:=by omega
   simp only []
   rw [←e2]
theorem ed_fl {x y:List Int} {g:Int} {t:List Int} {i j:Nat} (hi:i≤32) (hj:j≤32) (h:Fl x y g t i j) (hy:y.length≤32):Fl x y g (edS t (i*33+j) (bstN x y g i j 3)).2 i (j+1):=by
 by_cases c:0 < i+j
 · rw [bst_Ed c]
   have hl:=h.len
   refine ⟨by simp [edS,hl],fun p q hp hq hpq=>?_,?_⟩
   · show (t.set (i*33+j) _).getD _ 0=_
     rw [el_set (by omega)]
     by_cases e:p*33+q=i*33+j
     · have e1:p=i:=by omega
       have e2:q=j:=by omega
       rw [if_pos e,e1,e2]
     · rw [if_neg e]
       exact h.val p q hp hq (by omega)
   · show (t.set (i*33+j) _).getD _ 0=_
     rw [el_set (by omega),if_neg (by omega)]
     exact h.zero
 · obtain rfl:i=0:=by omega
   obtain rfl:j=0:=by omega
   refine ⟨h.len,fun p q hp hq hpq=>?_,h.zero⟩
   obtain rfl:p=0:=by omega
   obtain rfl:q=0:=by omega
   have:Ed x y g 0 0=0:=by rw [Ed]
   rw [this]
   exact h.zero
theorem ed_distance {x y:List Int} {g:Int} (hx:Win x) (hy:Win y) (hg:-1000≤g∧g≤1000):Gives (fun k=>T_edit_Distance k x y g) (fun r=>r=(Ed x y g x.length y.length,0)):=by
 have x1:=hx.lo
 have x2:=hx.hi
 have y1:=hy.lo
 have y2:=hy.hi
 refine Gives.step ?_
 simp only [T_edit_Distance]
 refine Gives.bind (Q:=fun r=>r=0) ?_ fun r hr=>?_
 · refine Gives.step ?_
   simp only [T_edit_check]
   refine Gives.neg (by simp; omega) (Gives.bind (eu_distance hx hx rfl) fun e he=>Gives.bind (eu_distance hy hy rfl) fun f hf=>Gives.neg (by simp [he,hf]) (Gives.now ?_))
   rw [he,hf]; rfl
 subst hr
 refine Gives.neg (by simp) (Gives.bind (Q:=fun r=>Fl x y g r (x.length+1) 0) ?_ fun r hr=>?_)
 · refine Gives.step ?_
   simp only [T_edit_table]
   refine Gives.bind (Q:=fun r=>Fl x y g r (x.length+1) 0) ?_ fun r hr=>Gives.pos hr.len (Gives.now hr)
   refine Gives.loop (fun s=>∃ i:Nat,s.1=(i:Int)∧i≤x.length+1∧Fl x y g s.2 i 0) (fun s=>((x.length:Int)+1 - s.1).toNat) ?_ ⟨0,rfl,by omega,by simp,fun p q _ _ h=>by omega,by simp⟩
   rintro ⟨i,t⟩ ⟨n,e1,e2,e3⟩
   simp only at e1 e2 e3
   subst e1
   unfold T_edit_table_l3
   simp only []
   refine Gives.ite (fun c=>?_) fun c=>Gives.now ?_
   · refine Gives.bind (Q:=fun r=>Fl x y g r (n+1) 0) ?_ fun r hr=>Gives.now ?_
     · refine Gives.loop (fun s=>∃ j:Nat,s.1=(j:Int)∧j≤y.length+1∧Fl x y g s.2 n j) (fun s=>((y.length:Int)+1 - s.1).toNat) ?_ ⟨0,rfl,by omega,e3⟩
       rintro ⟨j,t⟩ ⟨m,f1,f2,f3⟩
       simp only at f1 f2 f3
       subst f1
       unfold T_edit_table_l2
       simp only []
       refine Gives.ite (fun c'=>?_) fun c'=>Gives.now ?_
       · refine Gives.bind (ed_stepV hx hy hg (by omega) (by omega) f3) fun r hr=>Gives.now ?_
         subst hr
         rw [w64_nat (by omega)]
         exact ⟨⟨m+1,rfl,by omega,ed_fl (by omega) (by omega) f3 y2⟩,by simp only []; omega⟩
       · exact ⟨f3.len,fun p q hp hq h=>f3.val p q hp hq (by omega),f3.zero⟩
     · rw [w64_nat (by omega)]
       exact ⟨⟨n+1,rfl,by omega,hr⟩,by simp only []; omega⟩
   · obtain rfl:n=x.length+1:=by omega
     exact e3
 · refine Gives.pos (by omega) (Gives.pos (by omega) ?_)
   rw [Int.toNat_natCast]
   have hl:=hr.len
   have hn:y.length < ((r.drop (x.length*33)).take 33).length:=by simp; omega
   refine Gives.opt (at_nat hn) (Gives.now ?_)
   have v:=hr.val x.length y.length (by omega) (by omega) (by omega)
   rw [List.getD_eq_getElem?_getD,List.getElem?_eq_getElem (by omega)] at v
   have v:r[x.length*33+y.length]'(by omega)=_:=v
   rw [←v]
   simp

theorem rf_product {x y:List Int} (hx:Win x) (hy:Win y) (hl:x.length=y.length):Gives (fun k=>T_ref13_product k x y) (·=prodP x y):=by
 have x2:=hx.hi
 refine Gives.step ?_
 simp only [T_ref13_product]
 have sx:=pc_bounds hx (i:=x.length) (by omega) (by omega)
 have sy:=pc_bounds hy (i:=y.length) (by omega) (by omega)
 rw [psum_all] at sx sy
 have gb:∀ n:Nat,-(1000000*(n:Int))≤sg (fun i=>rd x i*rd y i) n∧sg (fun i=>rd x i*rd y i) n≤1000000*(n:Int):=fun n=>sg_bound fun j h1 h2=>by
  have s1:=hx.smp.rd j
  have s2:=hy.smp.rd j
  have:=prod_bound (a:=rd x j) (b:=rd y j) (A:=1000) (B:=1000) s1.1 s1.2 s2.1 s2.2
  omega
 refine Gives.bind (Q:=fun r=>r.1=sg (fun i=>rd x i*rd y i) x.length∧r.2.1=x.sum∧r.2.2=y.sum) ?_ fun r hr=>?_
 · refine Gives.loop (fun s=>0≤s.2.2.2∧s.2.2.2≤(x.length:Int)∧s.1=sg (fun i=>rd x i*rd y i) s.2.2.2.toNat∧s.2.1=psum x s.2.2.2∧s.2.2.1=psum y s.2.2.2) (fun s=>((x.length:Int) - s.2.2.2).toNat) ?_ ⟨by simp only []; omega,by simp only []; omega,rfl,(psum_zero _).symm,(psum_zero _).symm⟩
   intro ⟨a,b,c,i⟩ ⟨i1,i2,i3,i4,i5⟩
   simp only at i1 i2 i3 i4 i5
   unfold T_ref13_product_l1
   simp only []
   refine Gives.ite (fun cc=>Gives.opt (at_rd i1 cc) (Gives.opt (at_rd i1 (by omega)) ?_)) fun cc=>Gives.now ?_
   · have e2:=psum_succ (x:=x) i1 cc
     have e3:=psum_succ (x:=y) i1 (by omega)
     have b2:=pc_bounds hx i1 (by omega)
     have b3:=pc_bounds hy i1 (by omega)
     have s1:=hx.smp.rd i
     have s2:=hy.smp.rd i
     have b4:=prod_bound (a:=rd x i) (b:=rd y i) (A:=1000) (B:=1000) s1.1 s1.2 s2.1 s2.2
     have g:=gb i.toNat
     rw [←i3] at g
     rw [w64_id (x:=rd x i*rd y i) (by omega) (by omega),w64_id (x:=a+rd x i*rd y i) (by omega) (by omega),w64_id (x:=b+rd x i) (by omega) (by omega),w64_id (x:=c+rd y i) (by omega) (by omega),w64_id (x:=i+1) (by omega) (by omega)]
     refine Gives.now ⟨⟨by simp only []; omega,by simp only []; omega,?_,by simp only []; omega,by simp only []; omega⟩,by simp only []; omega⟩
     simp only []
     rw [show (i+1).toNat=i.toNat+1 by omega,sg,←i3,Int.toNat_of_nonneg i1]
   · have e:i=x.length:=by omega
     subst e
     refine ⟨by rw [i3]; rfl,i4.trans psum_all,i5.trans ?_⟩
     rw [hl]; exact psum_all
 · obtain ⟨r1,r2,r3⟩:=hr
   have g:=gb x.length
   rw [r1,r2,r3]
   have q1:=prod_bound (a:=(x.length:Int)) (b:=sg (fun i=>rd x i*rd y i) x.length) (A:=32) (B:=32000000) (by omega) (by omega) (by omega) (by omega)
   have q2:=prod_bound (a:=x.sum) (b:=y.sum) (A:=32000) (B:=32000) (by omega) (by omega) (by omega) (by omega)
   rw [w64_id (x:=(x.length:Int)*sg (fun i=>rd x i*rd y i) x.length) (by omega) (by omega),w64_id (x:=x.sum*y.sum) (by omega) (by omega),w64_id (by omega) (by omega)]
   exact Gives.now rfl
theorem rf_Product {x y:List Int} (hx:Win x) (hy:Win y) (hl:x.length=y.length):Gives (fun n=>T_ref13_Product n x y) (fun r=>r.1=prodP x y∧r.2=0):=by
 refine Gives.step ?_
 simp only [T_ref13_Product]
 refine Gives.bind (r12_two hx hy hl) fun v hv=>?_
 subst hv
 exact Gives.neg (by simp) (Gives.bind (rf_product hx hy hl) fun r hr=>Gives.now ⟨hr,rfl⟩)

structure Tr (x y:List Int) (g:Int) (R:List (List Int)) (i j:Nat):Prop where
 len:R.length=x.length+1
 row:∀ p:Nat,p≤i→(R.getD p []).length=y.length+1
 val:∀ p q:Nat,q≤y.length→p < i∨p=i∧q < j→tv R p q=Ed x y g p q
 zero:i=0→tv R 0 0=0
structure To (x y:List Int) (g:Int) (R:List (List Int)) (i:Nat):Prop where
 len:R.length=x.length+1
 row:∀ p:Nat,p < i→(R.getD p []).length=y.length+1
 val:∀ p q:Nat,q≤y.length→p < i→tv R p q=Ed x y g p q
theorem mn_INF {v:Int} (h:v≤1000000):mn 4611686018427387904 v=v:=by
 unfold mn
 rw [if_pos (by omega)]
theorem Ed_best {x y:List Int} {g:Int} (hx:Smp x) (hy:Smp y) (hg:-1000≤g∧g≤1000) {i j:Nat} (hi:i≤32) (hj:j≤32) (h:0 < i+j) {v1 v2 v3:Int}
 (h1:v1=if 0 < i∧0 < j then Ed x y g (i - 1) (j - 1)+ab (rd x ((i - 1:Nat):Int)) (rd y ((j - 1:Nat):Int)) else 4611686018427387904)
 (h2:v2=if 0 < i then mn v1 (Ed x y g (i - 1) j+ab (rd x ((i - 1:Nat):Int)) g) else v1)
 (h3:v3=if 0 < j then mn v2 (Ed x y g i (j - 1)+ab (rd y ((j - 1:Nat):Int)) g) else v2):v3=Ed x y g i j:=by
 subst h1 h2 h3
 cases i with
 | zero =>
  cases j with
  | zero=>omega
  | succ j =>
   have b:=Ed_bd hx hy hg 0 j
   have c:=ab_bd (hy.rd j) hg
   simp only [Nat.lt_irrefl,false_and,if_false,Nat.succ_pos,if_true,Nat.add_sub_cancel]
   rw [mn_INF (by omega),Ed]
 | succ i =>
  cases j with
  | zero =>
   have b:=Ed_bd hx hy hg i 0
   have c:=ab_bd (hx.rd i) hg
   simp only [Nat.lt_irrefl,and_false,if_false,Nat.succ_pos,if_true,Nat.add_sub_cancel]
   rw [mn_INF (by omega),Ed]
  | succ j =>
   simp only [and_self,Nat.succ_pos,if_true,Nat.add_sub_cancel]
   rw [Ed]
theorem r15_abs (v:Int):Gives (fun k=>T_ref15_Abs k v) (fun _=>True):=Gives.step (by simp only [T_ref15_Abs]; exact Gives.now trivial)
theorem r15_l1 {x y:List Int} (hx:Win x) (hy:Win y) {g:Int} (hg:-1000≤g∧g≤1000) {i:Nat} (hi:i≤x.length) {R:List (List Int)} (hR:Tr x y g R i 0) (n6 n8:Int) :
 Gives (fun k=>loopT (T_ref15_table_l1 k x y g (x.length+1) n6 i n8 ((y.length+1:Nat):Int)) k (0,R)) (fun r=>To x y g r (i+1)):=by
 have x2:=hx.hi
 have y2:=hy.hi
 refine Gives.loop (fun s=>∃ j:Nat,s.1=(j:Int)∧j≤y.length+1∧Tr x y g s.2 i j) (fun s=>(y.length+1 - s.1.toNat)) ?_ ⟨0,rfl,by omega,hR⟩
 rintro ⟨j',R⟩ ⟨j,e1,e2,T⟩
 simp only at e1 e2 T
 subst e1
 unfold T_ref15_table_l1
 simp only []
 have hl:=T.len
 refine Gives.ite (fun c=>?_) fun c=>Gives.now ?_
 · have hj:j≤y.length:=by omega
   have nx:w64 ((j:Int)+1)=((j+1:Nat):Int):=w64_nat (by omega)
   rw [nx,w64_id (x:=(i:Int)+j) (by omega) (by omega)]
   refine Gives.ite (fun h=>Gives.now ?_) fun h=>?_
   · refine ⟨⟨j+1,rfl,by omega,hl,T.row,fun p q hq hpq=>?_,T.zero⟩,by simp only [Int.toNat_natCast]; omega⟩
     obtain rfl:i=0:=by omega
     obtain rfl:j=0:=by omega
     obtain rfl:p=0:=by omega
     obtain rfl:q=0:=by omega
     have:Ed x y g 0 0=0:=by rw [Ed]
     rw [this]
     exact T.zero rfl
   have wi:0 < i→w64 ((i:Int) - 1)=((i - 1:Nat):Int):=fun h=>by rw [w64_id (by omega) (by omega)]; omega
   have wj:0 < j→w64 ((j:Int) - 1)=((j - 1:Nat):Int):=fun h=>by rw [w64_id (by omega) (by omega)]; omega
   have gr:∀ p:Nat,p≤i→R[0+p]?=some (R.getD p []):=fun p hp=>by rw [Nat.zero_add]; exact row_get (by omega)
   have gc:∀ p q:Nat,p≤i→q≤y.length→p < i∨p=i∧q < j→(R.getD p [])[0+q]?=some (Ed x y g p q):=fun p q hp hq hpq=>by
    rw [Nat.zero_add,el_get (by rw [T.row p hp]; omega)]
    exact congrArg some (T.val p q hq hpq)
   have eb:=fun p q:Nat=>Ed_bd hx.smp hy.smp hg p q
   refine Gives.bind (Q:=fun v=>v=if 0 < i∧0 < j then Ed x y g (i - 1) (j - 1)+ab (rd x ((i - 1:Nat):Int)) (rd y ((j - 1:Nat):Int)) else 4611686018427387904) ?_ fun v1 hv1=>?_
   · refine Gives.ite (fun h=>?_) fun h=>Gives.now ?_
     · simp only [Bool.and_eq_true,decide_eq_true_eq] at h
       rw [wi (by omega),wj (by omega),if_pos (by omega),Int.toNat_natCast,Int.toNat_natCast]
       refine Gives.opt (at_rd (by omega) (by omega)) (Gives.opt (at_rd (by omega) (by omega)) (Gives.bind (r15_abs _) fun _ _=>Gives.pos (by omega) (Gives.opt (gr _ (by omega)) (Gives.pos (by rw [T.row _ (by omega)]; omega) (Gives.opt (gc _ _ (by omega) (by omega) (by omega)) (Gives.now ?_))))))
       have a:=ab_bd (hx.smp.rd ((i - 1:Nat):Int)) (hy.smp.rd ((j - 1:Nat):Int))
       have e:=eb (i - 1) (j - 1)
       rw [ab_v (hx.smp.rd _) (hy.smp.rd _),w64_id (by omega) (by omega)]
     · simp only [Bool.and_eq_true,decide_eq_true_eq] at h
       rw [if_neg (by omega)]
   refine Gives.bind (Q:=fun v=>v=if 0 < i then mn v1 (Ed x y g (i - 1) j+ab (rd x ((i - 1:Nat):Int)) g) else v1) ?_ fun v2 hv2=>?_
   · refine Gives.ite (fun h=>?_) fun h=>Gives.now ?_
     · rw [wi (by omega),if_pos (by omega),Int.toNat_natCast,Int.toNat_natCast]
       refine Gives.opt (at_rd (by omega) (by omega)) (Gives.bind (r15_abs _) fun _ _=>Gives.pos (by omega) (Gives.opt (gr _ (by omega)) (Gives.pos (by rw [T.row _ (by omega)]; omega) (Gives.opt (gc _ _ (by omega) (by omega) (by omega)) (Gives.now ?_)))))
       have a:=ab_bd (hx.smp.rd ((i - 1:Nat):Int)) hg
       have e:=eb (i - 1) j
       rw [ab_v (hx.smp.rd _) hg,w64_id (x:=Ed x y g (i - 1) j+_) (by omega) (by omega)]
       rfl
     · rw [if_neg (by omega)]
   refine Gives.bind (Q:=fun v=>v=if 0 < j then mn v2 (Ed x y g i (j - 1)+ab (rd y ((j - 1:Nat):Int)) g) else v2) ?_ fun v3 hv3=>?_
   · refine Gives.ite (fun h=>?_) fun h=>Gives.now ?_
     · rw [wj (by omega),if_pos (by omega),Int.toNat_natCast,Int.toNat_natCast]
       refine Gives.opt (at_rd (by omega) (by omega)) (Gives.bind (r15_abs _) fun _ _=>Gives.pos (by omega) (Gives.opt (gr _ (by omega)) (Gives.pos (by rw [T.row _ (by omega)]; omega) (Gives.opt (gc _ _ (by omega) (by omega) (by omega)) (Gives.now ?_)))))
       have a:=ab_bd (hy.smp.rd ((j - 1:Nat):Int)) hg
       have e:=eb i (j - 1)
       rw [ab_v (hy.smp.rd _) hg,w64_id (x:=Ed x y g i (j - 1)+_) (by omega) (by omega)]
       rfl
     · rw [if_neg (by omega)]
   have e3:=Ed_best hx.smp hy.smp hg (i:=i) (j:=j) (by omega) (by omega) (by omega) hv1 hv2 hv3
   subst e3
   rw [Int.toNat_natCast,Int.toNat_natCast]
   refine Gives.pos (by omega) (Gives.opt (gr i (by omega)) (Gives.pos (by rw [T.row i (by omega)]; omega) (Gives.now ?_)))
   rw [Nat.zero_add,Nat.zero_add]
   have rs:∀ p:Nat,(R.set i ((R.getD i []).set j (Ed x y g i j))).getD p []=if p=i then (R.getD i []).set j (Ed x y g i j) else R.getD p []:=fun p=>row_set (by omega)
   have ri:=T.row i (Nat.le_refl _)
   have vs:∀ p q:Nat,tv (R.set i ((R.getD i []).set j (Ed x y g i j))) p q=if p=i∧q=j then Ed x y g i j else tv R p q:=fun p q=>by
    unfold tv
    rw [rs]
    by_cases c:p=i
    · subst c
      rw [if_pos rfl,el_set (by omega)]
      by_cases d:q=j
      · rw [if_pos d,if_pos ⟨rfl,d⟩]
      · rw [if_neg d,if_neg (fun e=>d e.2)]
    · rw [if_neg c,if_neg (fun e=>c e.1)]
   refine ⟨⟨j+1,rfl,by omega,by simp only []; rw [List.length_set]; exact hl,fun p hp=>?_,fun p q hq hpq=>?_,fun h0=>?_⟩,by simp only [Int.toNat_natCast]; omega⟩
   · simp only []
     rw [rs]
     split
     · rw [List.length_set]; exact ri
     · exact T.row p hp
   · simp only []
     rw [vs]
     split
     · rename_i c; rw [c.1,c.2]
     · rename_i c; exact T.val p q hq (by omega)
   · simp only []
     rw [vs,if_neg (by omega)]
     exact T.zero h0
 · obtain rfl:j=y.length+1:=by omega
   exact ⟨hl,fun p hp=>T.row p (by omega),fun p q hq hp=>T.val p q hq (by omega)⟩
theorem r15_check {x y:List Int} (hx:Win x) (hy:Win y) (hl:x.length=y.length) {g:Int} (hg:-1000≤g∧g≤1000):Gives (fun k=>T_ref15_check k x y g) (·=0):=by
 have x1:=hx.lo
 have x2:=hx.hi
 refine Gives.step ?_
 simp only [T_ref15_check]
 refine Gives.bind (Q:=fun _=>True) (Gives.step (by simp only [T_ref04_Sample]; exact Gives.now trivial)) fun _ _=>Gives.neg (by simp; omega) (Gives.bind (Q:=fun r=>r=0) ?_ fun r hr=>Gives.now hr)
 refine Gives.step ?_
 simp only [T_ref12_Two]
 refine Gives.neg (by simp; omega) (Gives.bind (Q:=fun r=>r=false) ?_ fun r hr=>?_)
 · refine Gives.bind (r12_samples hx) fun a ha=>Gives.neg (by simp [ha]) (Gives.bind (r12_samples hy) fun b hb=>Gives.now (by rw [hb]; rfl))
 · subst hr
   rw [w64_id (by omega) (by omega),w64_id (by omega) (by omega)]
   exact Gives.neg (by simp) (Gives.neg (by simp; omega) (Gives.now rfl))
theorem r15_distance {x y:List Int} (hx:Win x) (hy:Win y) (hl:x.length=y.length) {g:Int} (hg:-1000≤g∧g≤1000):Gives (fun k=>T_ref15_Distance k x y g) (fun r=>r=(Ed x y g x.length y.length,0)):=by
 have x2:=hx.hi
 have y2:=hy.hi
 refine Gives.step ?_
 simp only [T_ref15_Distance]
 refine Gives.bind (r15_check hx hy hl hg) fun e he=>?_
 subst he
 refine Gives.neg (by simp) (Gives.bind (Q:=fun R=>To x y g R (x.length+1)) ?_ fun R hR=>?_)
 · refine Gives.step ?_
   simp only [T_ref15_table]
   have w1:w64 ((x.length:Int)+1)=((x.length+1:Nat):Int):=w64_nat (by omega)
   have w2:w64 ((y.length:Int)+1)=((y.length+1:Nat):Int):=w64_nat (by omega)
   rw [w1]
   refine Gives.pos ⟨by omega,by omega,by show ((x.length+1:Nat):Int)≤4294967296; omega⟩ (Gives.bind (Q:=fun R=>To x y g R (x.length+1)) ?_ fun R hR=>Gives.now ?_)
   · rw [Int.toNat_natCast]
     refine Gives.loop (fun s=>∃ i:Nat,s.1=(i:Int)∧i≤x.length+1∧To x y g s.2 i) (fun s=>x.length+1 - s.1.toNat) ?_ ⟨0,rfl,by omega,by simp,fun p hp=>by omega,fun p q _ hp=>by omega⟩
     rintro ⟨i',R⟩ ⟨i,e1,e2,T⟩
     simp only at e1 e2 T
     subst e1
     unfold T_ref15_table_l2
     simp only []
     have hl':=T.len
     refine Gives.ite (fun c=>?_) fun c=>Gives.now ?_
     · rw [w2,Int.toNat_natCast,Int.toNat_natCast,Nat.zero_add]
       refine Gives.pos ⟨by omega,by omega,by show ((y.length+1:Nat):Int)≤4294967296; omega⟩ (Gives.pos (by omega) (Gives.pos (by omega) ?_))
       have gi:(R.set i (List.replicate (y.length+1) (0:Int)))[i]?=some (List.replicate (y.length+1) (0:Int)):=List.getElem?_set_self (by omega)
       refine Gives.opt gi ?_
       rw [List.length_replicate]
       have rs:∀ p:Nat,(R.set i (List.replicate (y.length+1) (0:Int))).getD p []=if p=i then List.replicate (y.length+1) (0:Int) else R.getD p []:=fun p=>row_set (by omega)
       refine Gives.bind (r15_l1 hx hy hg (i:=i) (by omega) ⟨by rw [List.length_set]; exact hl',fun p hp=>?_,fun p q hq hpq=>?_,fun h0=>?_⟩ _ _) fun r hr=>Gives.now ?_
       · rw [rs]
         split
         · simp
         · exact T.row p (by omega)
       · unfold tv
         rw [rs,if_neg (by omega)]
         exact T.val p q hq (by omega)
       · subst h0
         unfold tv
         rw [rs,if_pos rfl]
         simp
       · rw [w64_nat (by omega)]
         exact ⟨⟨i+1,rfl,by omega,hr⟩,by simp only [Int.toNat_natCast]; omega⟩
     · obtain rfl:i=x.length+1:=by omega
       exact T
   · rw [Int.toNat_natCast,tk_all hR.len]
     exact hR
 · have l1:=hR.len
   have l2:=hR.row x.length (by omega)
   have v:=hR.val x.length y.length (by omega) (by omega)
   unfold tv at v
   refine Gives.opt (row_at (by omega) (by omega)) ?_
   rw [Int.toNat_natCast]
   refine Gives.opt (el_at (by omega) (by rw [l2]; omega)) (Gives.now ?_)
   rw [Int.toNat_natCast,v]

theorem ms_warp {x y:List Int} {b:Int} (h:Fits x y b) (kd gp:Int):Gives (fun k=>T_measure_distances_2 k x y kd b gp) (fun r=>r=mkQ (Wc (sqc x y) b (x.length - 1) (y.length - 1)) 1∧OkR r):=by
 have x1:=h.wx.lo
 have x2:=h.wx.hi
 have y1:=h.wy.lo
 have y2:=h.wy.hi
 have ab:=h.ab
 have ba:=h.ba
 have C:=sqc_ok h.wx.smp h.wy.smp
 have near:nearB b (x.length - 1) (y.length - 1):=by unfold nearB; omega
 have P:=(W_min C h.lo (i:=x.length - 1) (j:=y.length - 1) (by omega) (by omega) near).1
 have up:=P.bound (K:=4000000) (by omega) C.le
 have lo:=W_nonneg (c:=sqc x y) b C.pos (x.length - 1) (y.length - 1)
 refine Gives.step ?_
 simp only [T_measure_distances_2]
 refine Gives.bind (wp_distanceW h) fun r hr=>?_
 obtain ⟨d,e⟩:=r
 obtain ⟨h1,h2⟩:=hr
 simp only at h1 h2
 subst h1 h2
 simp only []
 refine Gives.bind (ms_whole lo (by omega)) fun r hr=>Gives.now ?_
 rw [hr]
 exact ⟨rfl,mk_ok lo (by omega) (by omega) (by omega)⟩
theorem ms_edit {x y:List Int} {g:Int} (hx:Win x) (hy:Win y) (hl:x.length=y.length) (g0:-1000≤g) (g1:g≤1000) (kd bd:Int):Gives (fun k=>T_measure_distances_3 k x y kd bd g) (fun r=>r=mkQ (Ed x y g x.length y.length) 1∧OkR r):=by
 have x2:=hx.hi
 have y2:=hy.hi
 have b:=Ed_bd hx.smp hy.smp ⟨g0,g1⟩ x.length y.length
 refine Gives.step ?_
 simp only [T_measure_distances_3]
 refine Gives.bind (ed_distance hx hy ⟨g0,g1⟩) fun r hr=>?_
 subst hr
 refine Gives.bind (ms_whole b.1 (by omega)) fun r hr=>Gives.now ?_
 rw [hr]
 exact ⟨rfl,mk_ok b.1 (by omega) (by omega) (by omega)⟩
structure Ms (kd bd gp:Int):Prop where
 ok:meV kd bd gp=0
theorem Ms.kd {kd bd gp:Int} (h:Ms kd bd gp):1≤kd∧kd≤5∧0≤bd∧bd≤32∧-1000≤gp∧gp≤1000:=by
 have:=h.ok
 unfold meV at this
 split at this
 · cases this
 · omega
noncomputable def dsV (kd bd gp:Int) (x y:List Int):Int × Int × Int:=limV fun k=>T_measure_Distance k kd bd gp x y
theorem ms_pick {kd bd gp:Int} (h:Ms kd bd gp) {x y:List Int} {Q:Int × Int × Int→Prop} (h1:kd=1→Gives (fun k=>T_measure_distances_1 k x y) Q) (h2:kd=2→Gives (fun k=>T_euclid_Shifted k x y) Q) (h3:kd=3→Gives (fun k=>T_normal_Gap k x y) Q)
 (h4:kd=4→Gives (fun k=>T_measure_distances_2 k x y kd bd gp) Q) (h5:kd=5→Gives (fun k=>T_measure_distances_3 k x y kd bd gp) Q):Gives (fun k=>T_measure_Distance k kd bd gp x y) Q:=by
 have hk:=h.kd
 refine Gives.step ?_
 simp only [T_measure_Distance]
 refine Gives.bind (me_check kd bd gp) fun r hr=>?_
 rw [h.ok] at hr
 subst hr
 refine Gives.neg (by simp) (Gives.bind (Q:=fun r=>Q (r.2.1,r.2.2,r.1)) ?_ fun r hr=>Gives.now hr)
 refine Gives.bind (Q:=fun _=>True) (Gives.step (by simp only [T_measure_distances]; exact Gives.now trivial)) fun _ _=>?_
 have go:∀ {f:Nat→Option (Int × Int × Int)},Gives f Q→Gives (fun n=>(f n).bind fun x5=>some (x5.2.2,x5.1,x5.2.1)) (fun r=>Q (r.2.1,r.2.2,r.1)):=fun g=>Gives.bind g fun r hr=>Gives.now hr
 exact Gives.ite (fun c=>go (h1 c)) fun _=>Gives.ite (fun c=>go (h2 c)) fun _=>Gives.ite (fun c=>go (h3 c)) fun _=>Gives.ite (fun c=>go (h4 c)) fun _=>Gives.pos (by omega) (go (h5 (by omega)))
theorem ms_dist {kd bd gp:Int} (h:Ms kd bd gp) {x y:List Int} (hx:Win x) (hy:Win y) (hl:x.length=y.length):Gives (fun k=>T_measure_Distance k kd bd gp x y) (fun r=>r=dsV kd bd gp x y∧OkR r):=by
 have hk:=h.kd
 exact Gives.val (ms_pick h (fun _=>(ms_euclid hx hy hl).mono fun r hr=>hr.2) (fun _=>(eu_shifted hx hy hl).1.mono fun r hr=>by rw [hr]; exact (eu_shifted hx hy hl).2) (fun _=>(nm_gap hx hy hl).1.mono fun r hr=>by rw [hr]; exact (nm_gap hx hy hl).2)
  (fun _=>(ms_warp ⟨hx,hy,by omega,by omega,by omega,by omega⟩ _ _).mono fun r hr=>hr.2) fun _=>(ms_edit hx hy hl (by omega) (by omega) _ _).mono fun r hr=>hr.2)
theorem mkQ_one {d:Int} (h:0≤d):mkQ d 1=(d,1,0):=by
 unfold mkQ
 simp
 omega
theorem r01_mk {m n:Int} (hm:0≤m) (hn:0 < n) (h1:m≤2305843009213693952) (h2:n≤1152921504606846976):Gives (fun k=>T_ref01_Make k m n) (·=mkQ m n):=by
 obtain ⟨m,rfl⟩:=Int.eq_ofNat_of_zero_le hm
 obtain ⟨n,rfl⟩:=Int.eq_ofNat_of_zero_le (Int.le_of_lt hn)
 have hn':0 < n:=by omega
 have R:=Rep.make (m:=m) (n:=n) (w:=1) hn'
 rw [Nat.mul_one,Nat.mul_one] at R
 have l:=R.le hn'
 have g0:0 < Nat.gcd m n:=Nat.gcd_pos_of_pos_right m hn'
 refine Gives.step ?_
 simp only [T_ref01_Make]
 refine Gives.neg (by simp; omega) (Gives.bind (ra_common m n) fun g hg=>?_)
 subst hg
 unfold mkQ
 simp only [tdiv_nat,Int.toNat_natCast]
 generalize m / Nat.gcd m n=u at R l ⊢
 generalize n / Nat.gcd m n=v at R l ⊢
 rw [w64_id (x:=(u:Int)) (by omega) (by omega),w64_id (x:=(v:Int)) (by omega) (by omega)]
 exact Gives.pos (by omega) (Gives.bind (r01_valid R.cop R.pos (by omega) (by omega)) fun v hv=>Gives.neg (by simp [hv]) (Gives.now rfl))
theorem r12_sg {x y:List Int} (hx:Win x) (hy:Win y) (hl:x.length=y.length):Gives (fun k=>T_ref12_sums k x y) (·=(sg (fun i=>rd x i - rd y i) x.length,sg (fun i=>(rd x i - rd y i)*(rd x i - rd y i)) x.length)):=by
 have x2:=hx.hi
 have db:∀ i,-2000≤rd x i - rd y i∧rd x i - rd y i≤2000:=fun i=>by
  have:=hx.smp.rd i
  have:=hy.smp.rd i
  omega
 have pb:∀ i,-4000000≤(rd x i - rd y i)*(rd x i - rd y i)∧(rd x i - rd y i)*(rd x i - rd y i)≤4000000:=fun i=>by
  have:=prod_bound (a:=rd x i - rd y i) (b:=rd x i - rd y i) (A:=2000) (B:=2000) (db i).1 (db i).2 (db i).1 (db i).2
  omega
 refine Gives.step ?_
 simp only [T_ref12_sums]
 refine Gives.bind (Q:=fun r=>r=(sg (fun i=>rd x i - rd y i) x.length,sg (fun i=>(rd x i - rd y i)*(rd x i - rd y i)) x.length)) ?_ fun r hr=>Gives.now hr
 refine Gives.loop (fun s=>0≤s.2.2∧s.2.2≤(x.length:Int)∧s.1=sg (fun i=>rd x i - rd y i) s.2.2.toNat∧s.2.1=sg (fun i=>(rd x i - rd y i)*(rd x i - rd y i)) s.2.2.toNat) (fun s=>((x.length:Int) - s.2.2).toNat) ?_ ⟨by simp only []; omega,by simp only []; omega,rfl,rfl⟩
 intro ⟨d,a,i⟩ ⟨i1,i2,i3,i4⟩
 simp only at i1 i2 i3 i4
 unfold T_ref12_sums_l1
 simp only []
 refine Gives.ite (fun c=>Gives.opt (at_rd i1 c) (Gives.opt (at_rd i1 (by omega)) ?_)) fun c=>Gives.now ?_
 · have e:=db i
   have p:=pb i
   have sx:=hx.smp.rd i
   have sy:=hy.smp.rd i
   have g1:=sg_bound (f:=fun i=>rd x i - rd y i) (B:=2000) (n:=i.toNat) fun j _ _=>db j
   have g2:=sg_bound (f:=fun i=>(rd x i - rd y i)*(rd x i - rd y i)) (B:=4000000) (n:=i.toNat) fun j _ _=>pb j
   rw [←i3] at g1
   rw [←i4] at g2
   rw [w64_id (x:=rd x i - rd y i) (by omega) (by omega),w64_id (x:=(rd x i - rd y i)*(rd x i - rd y i)) (by omega) (by omega),w64_id (x:=i+1) (by omega) (by omega),w64_id (x:=d+rd x i) (by omega) (by omega),w64_id (x:=d+rd x i - rd y i) (by omega) (by omega),w64_id (x:=a+_) (by omega) (by omega)]
   refine Gives.now ⟨⟨by simp only []; omega,by simp only []; omega,?_,?_⟩,by simp only []; omega⟩
   · simp only []
     rw [show (i+1).toNat=i.toNat+1 by omega,sg,←i3,Int.toNat_of_nonneg i1]
     omega
   · simp only []
     rw [show (i+1).toNat=i.toNat+1 by omega,sg,←i4,Int.toNat_of_nonneg i1]
 · have e:i.toNat=x.length:=by omega
   rw [i3,i4,e]
theorem r12_eu {x y:List Int} (hx:Win x) (hy:Win y) (hl:x.length=y.length):Gives (fun k=>T_ref12_Distance k x y) (·=(sg (fun i=>(rd x i - rd y i)*(rd x i - rd y i)) x.length,0)):=by
 refine Gives.step ?_
 simp only [T_ref12_Distance]
 refine Gives.bind (r12_two hx hy hl) fun e he=>?_
 subst he
 exact Gives.neg (by simp) (Gives.bind (r12_sg hx hy hl) fun r hr=>Gives.now (by rw [hr]))
theorem shN_bd {x y:List Int} (hx:Win x) (hy:Win y):0≤shN x y∧shN x y≤4096000000∧sg (fun i=>rd x i - rd y i) x.length*sg (fun i=>rd x i - rd y i) x.length≤4096000000∧(x.length:Int)*sg (fun i=>(rd x i - rd y i)*(rd x i - rd y i)) x.length≤4096000000:=by
 have x2:=hx.hi
 have pb:∀ i,0≤(rd x i - rd y i)*(rd x i - rd y i)∧(rd x i - rd y i)*(rd x i - rd y i)≤4000000:=fun i=>by
  have:=hx.smp.rd i
  have:=hy.smp.rd i
  have:=prod_bound (a:=rd x i - rd y i) (b:=rd x i - rd y i) (A:=2000) (B:=2000) (by omega) (by omega) (by omega) (by omega)
  have:=sq_nonneg (rd x i - rd y i)
  omega
 have g:=sg_bound (f:=fun i=>(rd x i - rd y i)*(rd x i - rd y i)) (B:=4000000) (n:=x.length) fun j _ _=>⟨by have:=pb j; omega,(pb j).2⟩
 have g0:=sg_nonneg (f:=fun i=>(rd x i - rd y i)*(rd x i - rd y i)) (n:=x.length) fun j _ _=>(pb j).1
 have c:=sg_cauchy (fun i=>rd x i - rd y i) x.length
 have q1:=prod_bound (a:=(x.length:Int)) (b:=sg (fun i=>(rd x i - rd y i)*(rd x i - rd y i)) x.length) (A:=32) (B:=128000000) (by omega) (by omega) (by omega) (by omega)
 have q3:=sq_nonneg (sg (fun i=>rd x i - rd y i) x.length)
 unfold shN
 omega
theorem r12_sh {x y:List Int} (hx:Win x) (hy:Win y) (hl:x.length=y.length):Gives (fun k=>T_ref12_Shifted k x y) (·=mkQ (shN x y) x.length):=by
 have x1:=hx.lo
 have x2:=hx.hi
 obtain ⟨b0,b1,b2,b3⟩:=shN_bd hx hy
 have q3:=sq_nonneg (sg (fun i=>rd x i - rd y i) x.length)
 refine Gives.step ?_
 simp only [T_ref12_Shifted]
 refine Gives.bind (r12_two hx hy hl) fun e he=>?_
 subst he
 refine Gives.neg (by simp) (Gives.bind (r12_sg hx hy hl) fun r hr=>?_)
 subst hr
 simp only []
 unfold shN at b0 b1 ⊢
 rw [w64_id (x:=(x.length:Int)*_) (by omega) (by omega),w64_id (x:=sg (fun i=>rd x i - rd y i) x.length*_) (by omega) (by omega),w64_id (x:=_ - _) (by omega) (by omega)]
 exact Gives.bind (r01_mk b0 (by omega) (by omega) (by omega)) fun r hr=>Gives.now (by rw [hr])
theorem r13_gap {x y:List Int} (hx:Win x) (hy:Win y) (hl:x.length=y.length):Gives (fun k=>T_ref13_Gap k x y) (·=nmV (prodP x y) (prodP x x) (prodP y y)):=by
 have x1:=hx.lo
 have x2:=hx.hi
 have b1:=prodP_bd hx hy hl
 have b2:=prodP_self hx
 have b3:=prodP_self hy
 have n1:=prodP_nonneg (x:=x) (by omega)
 have n2:=prodP_nonneg (x:=y) (by omega)
 have cs:=prodP_cs hl (by omega)
 have V:=rf_product hx hx rfl
 have W:=rf_product hy hy rfl
 have C:=rf_Product hx hy hl
 generalize prodP x y=p at *
 generalize prodP x x=v at *
 generalize prodP y y=w at *
 have q1:=prod_bound (a:=v) (b:=w) (A:=1024000000) (B:=1024000000) (by omega) (by omega) (by omega) (by omega)
 have q2:=sq_nonneg p
 have q3:=Int.mul_nonneg n1 n2
 have q4:¬(v=0∨w=0)→0 < v*w:=fun h=>Int.mul_pos (by omega) (by omega)
 have wv:w64 (v*w)=v*w:=w64_id (by omega) (by omega)
 have wp:w64 (p*p)=p*p:=w64_id (by omega) (by omega)
 refine Gives.step ?_
 simp only [T_ref13_Gap]
 refine Gives.bind C fun r hr=>?_
 obtain ⟨c,e⟩:=r
 obtain ⟨h1,h2⟩:=hr
 simp only at h1 h2
 subst h1 h2
 refine Gives.neg (by simp) (Gives.bind V fun r hr=>Gives.bind W fun r' hr'=>?_)
 subst hr hr'
 refine Gives.bind (Q:=fun u=>(u.1,u.2,(0:Int))=nmV c r r') ?_ fun u hu=>Gives.now hu
 refine Gives.step ?_
 simp only [T_ref13_Between]
 refine Gives.bind (Q:=fun u=>(u.1,u.2,(0:Int))=nmV c r r') ?_ fun u hu=>Gives.now hu
 unfold nmV
 have m0:mkQ 0 1=(0,1,0):=mkQ_one (by omega)
 have m1:mkQ 1 1=(1,1,0):=mkQ_one (by omega)
 have go:∀ (m n:Int),0≤m→0 < n→m≤2305843009213693952→n≤1152921504606846976→Gives (fun k=>(T_ref01_Make k m n).bind fun x3=>some (x3.1,x3.2.1)) (fun u=>(u.1,u.2,(0:Int))=mkQ m n):=fun m n h0 h1 h2 h3=>Gives.bind (r01_mk h0 h1 h2 h3) fun r hr=>Gives.now (by rw [hr]; rfl)
 refine Gives.ite (fun h=>?_) fun h=>Gives.ite (fun h2=>?_) fun h2=>Gives.ite (fun h3=>?_) fun h3=>?_
 · simp only [Bool.and_eq_true,decide_eq_true_eq] at h
   rw [if_pos h]
   exact Gives.now m0.symm
 · simp at h h2
   have h':¬(r=0∨r'=0):=by omega
   have q5:=q4 h'
   rw [if_neg (by omega),if_neg h',if_neg (by omega),wv,wp,w64_id (by omega) (by omega)]
   exact go _ _ (by omega) (by omega) (by omega) (by omega)
 · simp at h h2 h3
   have h':¬(r=0∨r'=0):=by omega
   have q5:=q4 h'
   rw [if_neg (by omega),if_neg h',if_pos (by omega),wv,wp,w64_id (by omega) (by omega)]
   exact go _ _ (by omega) (by omega) (by omega) (by omega)
 · simp at h h3
   rw [if_neg (by omega),if_pos (by omega)]
   exact Gives.now m1.symm
theorem r17_dist {kd bd gp:Int} (h:Ms kd bd gp) {x y:List Int} (hx:Win x) (hy:Win y) (hl:x.length=y.length):Gives (fun k=>T_ref17_Distance k kd bd gp x y) (·=dsV kd bd gp x y):=by
 have hk:=h.kd
 have x2:=hx.hi
 have y2:=hy.hi
 have x1:=hx.lo
 refine Gives.step ?_
 simp only [T_ref17_Distance]
 refine Gives.bind (r17_check kd bd gp) fun r hr=>?_
 rw [h.ok] at hr
 subst hr
 refine Gives.neg (by simp) ?_
 refine Gives.ite (fun c=>?_) fun c2=>Gives.ite (fun c=>?_) fun c3=>?_
 · have a:=Gives.eqv (ms_pick (Q:=fun r=>r=mkQ (shN x y) x.length) h (fun c=>by omega) (fun _=>(eu_shifted hx hy hl).1) (fun c=>by omega) (fun c=>by omega) (fun c=>by omega))
   exact Gives.bind (r12_sh hx hy hl) fun r hr=>Gives.now (by rw [hr]; exact a.symm)
 · have a:=Gives.eqv (ms_pick (Q:=fun r=>r=nmV (prodP x y) (prodP x x) (prodP y y)) h (fun c=>by omega) (fun c=>by omega) (fun _=>(nm_gap hx hy hl).1) (fun c=>by omega) (fun c=>by omega))
   exact Gives.bind (r13_gap hx hy hl) fun r hr=>Gives.now (by rw [hr]; exact a.symm)
 · refine Gives.bind (Q:=fun r=>r.2=0∧(r.1,(1:Int),(0:Int))=dsV kd bd gp x y) ?_ fun r hr=>Gives.neg (by simp [hr.1]) (Gives.now hr.2)
   refine Gives.ite (fun c=>?_) fun c1=>Gives.ite (fun c=>?_) fun c4=>?_
   · have a:=Gives.eqv (ms_pick (Q:=fun r=>r=mkQ (sg (fun i=>(rd x i - rd y i)*(rd x i - rd y i)) x.length) 1) h (fun _=>(ms_euclid hx hy hl).mono fun r hr=>hr.1) (fun c=>by omega) (fun c=>by omega) (fun c=>by omega) (fun c=>by omega))
     refine Gives.bind (r12_eu hx hy hl) fun r hr=>Gives.now ⟨by rw [hr],?_⟩
     rw [hr]
     exact ((mkQ_one (sg_nonneg fun j _ _=>sq_nonneg _)).symm.trans a.symm)
   · have F:Fits x y bd:=⟨hx,hy,by omega,by omega,by omega,by omega⟩
     have C:=sqc_ok hx.smp hy.smp
     have a:=Gives.eqv (ms_pick (Q:=fun r=>r=mkQ (Wc (sqc x y) bd (x.length - 1) (y.length - 1)) 1) h (fun c=>by omega) (fun c=>by omega) (fun c=>by omega) (fun _=>(ms_warp F _ _).mono fun r hr=>hr.1) (fun c=>by omega))
     refine Gives.bind (r14_distance F) fun r hr=>Gives.now ⟨hr.1,?_⟩
     rw [hr.2]
     exact ((mkQ_one (W_nonneg (c:=sqc x y) bd C.pos (x.length - 1) (y.length - 1))).symm.trans a.symm)
   · have g:-1000≤gp∧gp≤1000:=by omega
     have a:=Gives.eqv (ms_pick (Q:=fun r=>r=mkQ (Ed x y gp x.length y.length) 1) h (fun c=>by omega) (fun c=>by omega) (fun c=>by omega) (fun c=>by omega) (fun _=>(ms_edit hx hy hl g.1 g.2 _ _).mono fun r hr=>hr.1))
     refine Gives.bind (r15_distance hx hy hl g) fun r hr=>Gives.now ⟨by rw [hr],?_⟩
     rw [hr]
     exact ((mkQ_one (Ed_bd hx.smp hy.smp g x.length y.length).1).symm.trans a.symm)

abbrev Hit:=Int × Int × Int × Int
def vH (h:Hit):Prop:=vR h.1 h.2.1=true
def bH (x y:Hit):Bool:=beV x.1 x.2.1 x.2.2.1 x.2.2.2 y.1 y.2.1 y.2.2.1 y.2.2.2
def leH (x y:Hit):Bool:=!bH y x
theorem vH_pos {h:Hit} (v:vH h):0≤h.1∧1≤h.2.1:=by
 unfold vH vR at v
 simp only [Bool.and_eq_true,decide_eq_true_eq] at v
 omega
theorem bH_iff {x y:Hit} (hx:vH x) (hy:vH y):bH x y=true↔x.1*y.2.1 < y.1*x.2.1∨(x.1*y.2.1=y.1*x.2.1∧(x.2.2.1 < y.2.2.1∨(x.2.2.1=y.2.2.1∧x.2.2.2 < y.2.2.2))):=by
 unfold vH at hx hy
 unfold bH beV lR
 rw [hx,hy]
 simp only [Bool.true_and,decide_eq_true_eq]
 generalize x.1*y.2.1=A
 generalize y.1*x.2.1=B
 split
 · simp; omega
 · split
   · simp; omega
   · simp only [Bool.or_eq_true,Bool.and_eq_true,decide_eq_true_eq]; omega
theorem bH_irr {x:Hit} (hx:vH x):bH x x=false:=by
 rw [Bool.eq_false_iff]
 intro h
 have:=(bH_iff hx hx).1 h
 omega
theorem cross_tr {a b c d e f:Int} (hb:0 < b) (hd:0 < d) (hf:0 < f) (h1:a*d≤c*b) (h2:c*f≤e*d):a*f≤e*b∧(a*f=e*b→a*d=c*b∧c*f=e*d):=by
 have p1:=Int.mul_le_mul_of_nonneg_right h1 (Int.le_of_lt hf)
 have p2:=Int.mul_le_mul_of_nonneg_right h2 (Int.le_of_lt hb)
 have q1:a*d*f=(a*f)*d:=by grind
 have q2:c*b*f=c*f*b:=by grind
 have q3:e*d*b=(e*b)*d:=by grind
 have l:(a*f)*d≤(e*b)*d:=by omega
 refine ⟨Int.le_of_mul_le_mul_right l hd,fun e0=>?_⟩
 rw [e0] at q1
 have s1:a*d*f=c*b*f:=by omega
 have s2:c*f*b=e*d*b:=by omega
 exact ⟨Int.eq_of_mul_eq_mul_right (by omega) s1,Int.eq_of_mul_eq_mul_right (by omega) s2⟩
theorem bH_tr {x y z:Hit} (hx:vH x) (hy:vH y) (hz:vH z) (h1:bH x y=true) (h2:bH y z=true):bH x z=true:=by
 rw [bH_iff hx hy] at h1
 rw [bH_iff hy hz] at h2
 rw [bH_iff hx hz]
 have a:=vH_pos hx
 have b:=vH_pos hy
 have c:=vH_pos hz
 obtain ⟨k1,k2⟩:=cross_tr (a:=x.1) (b:=x.2.1) (c:=y.1) (d:=y.2.1) (e:=z.1) (f:=z.2.1) (by omega) (by omega) (by omega) (by omega) (by omega)
 generalize x.1*z.2.1=A at *
 generalize z.1*x.2.1=B at *
 generalize x.1*y.2.1=C at *
 generalize y.1*x.2.1=D at *
 generalize y.1*z.2.1=E at *
 generalize z.1*y.2.1=G at *
 by_cases e:A=B
 · have:=k2 e; omega
 · omega
theorem bH_ntr {x y z:Hit} (hx:vH x) (hy:vH y) (hz:vH z) (h1:bH x y=false) (h2:bH y z=false):bH x z=false:=by
 rw [Bool.eq_false_iff] at *
 rw [ne_eq,bH_iff hx hy] at h1
 rw [ne_eq,bH_iff hy hz] at h2
 rw [ne_eq,bH_iff hx hz]
 have a:=vH_pos hx
 have b:=vH_pos hy
 have c:=vH_pos hz
 obtain ⟨k1,k2⟩:=cross_tr (a:=z.1) (b:=z.2.1) (c:=y.1) (d:=y.2.1) (e:=x.1) (f:=x.2.1) (by omega) (by omega) (by omega) (by omega) (by omega)
 generalize x.1*z.2.1=A at *
 generalize z.1*x.2.1=B at *
 generalize x.1*y.2.1=C at *
 generalize y.1*x.2.1=D at *
 generalize y.1*z.2.1=E at *
 generalize z.1*y.2.1=G at *
 by_cases e:B=A
 · have:=k2 e; omega
 · omega
theorem low_eq {a b c d:Nat} (h1:Nat.gcd a b=1) (h2:Nat.gcd c d=1) (hb:0 < b) (hd:0 < d) (h:a*d=c*b):a=c∧b=d:=by
 have d1:b ∣ d:=(Nat.Coprime.symm h1).dvd_of_dvd_mul_left (⟨c,by rw [h,Nat.mul_comm]⟩:b ∣ a*d)
 have d2:d ∣ b:=(Nat.Coprime.symm h2).dvd_of_dvd_mul_left (⟨a,by rw [←h,Nat.mul_comm]⟩:d ∣ c*b)
 have e:=Nat.dvd_antisymm d1 d2
 subst e
 exact ⟨Nat.eq_of_mul_eq_mul_right hb h,rfl⟩
theorem bH_tot {x y:Hit} (hx:vH x) (hy:vH y) (h1:bH x y=false) (h2:bH y x=false):x=y:=by
 rw [Bool.eq_false_iff,ne_eq] at h1 h2
 rw [bH_iff hx hy] at h1
 rw [bH_iff hy hx] at h2
 obtain ⟨m,n,e1,e2,g1,g2,_,_⟩:=vR_spec hx
 obtain ⟨m',n',f1,f2,k1,k2,_,_⟩:=vR_spec hy
 obtain ⟨a,b,c,d⟩:=x
 obtain ⟨a',b',c',d'⟩:=y
 simp only at e1 e2 f1 f2 h1 h2
 subst e1 e2 f1 f2
 have e:(m:Int)*n'=m'*n:=by omega
 obtain ⟨r1,r2⟩:=low_eq g1 k1 g2 k2 (by exact_mod_cast e)
 subst r1 r2
 have e3:c=c':=by omega
 have e4:d=d':=by omega
 rw [e3,e4]
theorem leH_tr {x y z:Hit} (hx:vH x) (hy:vH y) (hz:vH z) (h1:leH x y=true) (h2:leH y z=true):leH x z=true:=by
 unfold leH at *
 rw [Bool.not_eq_true'] at *
 exact bH_ntr hz hy hx h2 h1
theorem leH_to {x y:Hit} (hx:vH x) (hy:vH y):(leH x y || leH y x)=true:=by
 unfold leH
 cases h:bH y x
 · rfl
 · cases h':bH x y
   · rfl
   · have:=bH_tr hy hx hy h h'
     rw [bH_irr hy] at this
     cases this
theorem leH_anti {x y:Hit} (hx:vH x) (hy:vH y) (h1:leH x y=true) (h2:leH y x=true):x=y:=by
 unfold leH at *
 rw [Bool.not_eq_true'] at *
 exact bH_tot hx hy h2 h1
theorem insH_pw (x:Hit) (hx:vH x):∀ ys,(∀ y∈ys,vH y)→ys.Pairwise (fun a b=>leH a b=true)→(insL leH x ys).Pairwise (fun a b=>leH a b=true)
 | [],_,_=>by simp [insL]
 | y::ys,hv,h=>by
  unfold insL
  obtain ⟨h1,h2⟩:=List.pairwise_cons.1 h
  split
  · rename_i c
    exact List.pairwise_cons.2 ⟨fun z hz=>(List.mem_cons.1 hz).elim (fun e=>e ▸ c) fun hz'=>leH_tr hx (hv y (by simp)) (hv z hz) c (h1 z hz'),h⟩
  · rename_i c
    refine List.pairwise_cons.2 ⟨fun z hz=>?_,insH_pw x hx ys (fun z hz=>hv z (by simp [hz])) h2⟩
    rcases List.mem_cons.1 ((insL_perm leH x ys).mem_iff.1 hz) with rfl | hz
    · have:=leH_to (hv y (by simp)) hx; simpa [c] using this
    · exact h1 z hz
theorem sortH_pw:∀ xs:List Hit,(∀ x∈xs,vH x)→(isort leH xs).Pairwise (fun a b=>leH a b=true)
 | [],_=>.nil
 | x::xs,h=>insH_pw x (h x (by simp)) _ (fun y hy=>h y (by simp [(isort_perm leH xs).mem_iff.1 hy])) (sortH_pw xs fun y hy=>h y (by simp [hy]))
theorem sortH_uniq {xs ys:List Hit} (hx:∀ x∈xs,vH x) (pw:ys.Pairwise (fun a b=>leH a b=true)) (p:ys.Perm xs):ys=isort leH xs :=
 List.Perm.eq_of_pairwise (le:=fun a b=>leH a b=true) (fun a b ha hb h1 h2=>leH_anti (hx a (p.mem_iff.1 ha)) (hx b ((isort_perm leH xs).mem_iff.1 hb)) h1 h2) pw (sortH_pw xs hx) (p.trans (isort_perm leH xs).symm)
theorem max_list {α:Type} {P:Nat→α→Prop}:∀ {l:List α},(∀ x∈l,∃ K,∀ k,K≤k→P k x)→∃ K,∀ k,K≤k→∀ x∈l,P k x
 | [],_=>⟨0,fun _ _ x hx=>by simp at hx⟩
 | x::l,h=>by
  obtain ⟨K,hK⟩:=h x (by simp)
  obtain ⟨K2,hK2⟩:=max_list (l:=l) fun y hy=>h y (by simp [hy])
  exact ⟨max K K2,fun k hk y hy=>(List.mem_cons.1 hy).elim (fun e=>e ▸ hK k (by omega)) fun hy=>hK2 k (by omega) y hy⟩
def cH (x y:Hit):Int:=if bH x y=true then -1 else if bH y x=true then 1 else 0
theorem cH_lt {x y:Hit}:cH x y < 0↔bH x y=true:=by
 unfold cH
 split
 · simp_all
 · split <;> simp_all
theorem so_cmp (x y:Hit):Gives (fun k=>T_store_Sort_1 k x.1 x.2.1 x.2.2.1 x.2.2.2 y.1 y.2.1 y.2.2.1 y.2.2.2) (·=cH x y):=by
 refine Gives.step ?_
 simp only [T_store_Sort_1]
 unfold cH bH
 refine Gives.bind (sto_before _ _ _ _ _ _ _ _) fun r hr=>?_
 subst hr
 refine Gives.ite (fun h=>Gives.now (by rw [if_pos h])) fun h=>?_
 rw [if_neg h]
 refine Gives.bind (sto_before _ _ _ _ _ _ _ _) fun r hr=>?_
 subst hr
 exact Gives.ite (fun h=>Gives.now (by rw [if_pos h])) fun h=>Gives.now (by rw [if_neg h])
theorem so_sort {xs:List Hit} (hx:∀ x∈xs,vH x) (hl:xs.length < 4611686018427387904):Gives (fun k=>T_store_Sort k xs.length xs) (·=isort leH xs):=by
 refine Gives.step ?_
 simp only [T_store_Sort]
 refine Gives.bind (Q:=fun r=>r=isort leH xs) (Gives.step ?_) fun r hr=>Gives.now hr
 simp only [T_slices_SortFunc_8a0a]
 obtain ⟨K,hK⟩:=max_list (P:=fun k x=>∀ y∈xs,T_store_Sort_1 k x.1 x.2.1 x.2.2.1 x.2.2.2 y.1 y.2.1 y.2.2.1 y.2.2.2=some (cH x y)) (l:=xs) fun x _=>max_list (P:=fun k y=>T_store_Sort_1 k x.1 x.2.1 x.2.2.1 x.2.2.2 y.1 y.2.1 y.2.2.1 y.2.2.2=some (cH x y)) fun y _=>by
  obtain ⟨r,⟨K,hK⟩,hr⟩:=so_cmp x y
  exact ⟨K,fun k hk=>(hK k hk).trans (by rw [hr])⟩
 refine ⟨_,⟨K,fun k hk=>?_⟩,rfl⟩
 have c:=hK k hk
 have o:∀ x∈xs,∀ y∈xs,ordT (fun x y:Hit=>T_store_Sort_1 k x.1 x.2.1 x.2.2.1 x.2.2.2 y.1 y.2.1 y.2.2.1 y.2.2.2) x y=bH x y:=fun x hx y hy=>by
  unfold ordT
  simp only [c x hx y hy]
  rw [Bool.eq_iff_iff,decide_eq_true_eq]
  exact cH_lt
 show sortT _ _ _=_
 unfold sortT
 rw [if_pos]
 · have e:=isort_map (le:=fun x y:Hit=>!ordT (fun x y:Hit=>T_store_Sort_1 k x.1 x.2.1 x.2.2.1 x.2.2.2 y.1 y.2.1 y.2.2.1 y.2.2.2) y x) (le':=leH) (f:=id) xs fun x hx y hy=>by
    show (!_)=leH x y
    rw [o y hy x hx]; rfl
   rw [List.map_id,List.map_id] at e
   rw [e]
 · refine ⟨rfl,hl,?_⟩
   simp only [List.all_eq_true,Bool.and_eq_true,Bool.or_eq_true,Bool.not_eq_true',beq_iff_eq]
   refine fun x hx'=>⟨by rw [o x hx' x hx']; exact bH_irr (hx x hx'),fun y hy=>⟨⟨by rw [c x hx' y hy]; rfl,?_⟩,fun z hz=>⟨?_,?_⟩⟩⟩
   · rw [o x hx' y hy,o y hy x hx']
     cases h1:bH x y
     · cases h2:bH y x
       · exact .inr (bH_tot (hx x hx') (hx y hy) h1 h2)
       · exact .inl (.inr rfl)
     · exact .inl (.inl rfl)
   · rw [o x hx' y hy,o y hy z hz,o x hx' z hz]
     cases h1:bH x y
     · exact .inl rfl
     · cases h2:bH y z
       · exact .inl rfl
       · exact .inr (bH_tr (hx x hx') (hx y hy) (hx z hz) h1 h2)
   · rw [o x hx' y hy,o y hy z hz,o x hx' z hz]
     cases h1:bH x y
     · cases h2:bH y z
       · exact .inr (bH_ntr (hx x hx') (hx y hy) (hx z hz) h1 h2)
       · exact .inl (.inr rfl)
     · exact .inl (.inl rfl)

structure Qy (kd bd gp:Int) (q:List Int):Prop where
 ms:Ms kd bd gp
 win:Win q
noncomputable def hR (kd bd gp:Int) (q row:List Int) (i p:Int):Hit:=((dsV kd bd gp q ((row.drop p.toNat).take q.length)).1,(dsV kd bd gp q ((row.drop p.toNat).take q.length)).2.1,i,p)
noncomputable def hN (kd bd gp:Int) (xss:List (List Int)) (q:List Int) (n:Nat):List Hit:=(List.range n).flatMap fun i=>(stI (xss.getD i []) q.length (xss.getD i []).length).map (hR kd bd gp q (xss.getD i []) i)
theorem hN_succ (kd bd gp:Int) (xss:List (List Int)) (q:List Int) (n:Nat):hN kd bd gp xss q (n+1)=hN kd bd gp xss q n++(stI (xss.getD n []) q.length (xss.getD n []).length).map (hR kd bd gp q (xss.getD n []) n):=by
 unfold hN
 rw [List.range_succ,List.flatMap_append]
 simp
theorem hN_len {kd bd gp:Int} {xss:List (List Int)} {q:List Int}:∀ n:Nat,(hN kd bd gp xss q n).length=(plN xss q.length n).length
 | 0=>by simp [hN,plN]
 | n+1=>by rw [hN_succ,plN_succ,List.length_append,List.length_append,hN_len n,List.length_map,List.length_map]
theorem hN_bd {kd bd gp:Int} {xss:List (List Int)} {q:List Int} (h:chkV xss=0) {n:Nat} (hn:n≤xss.length):(hN kd bd gp xss q n).length≤2000:=by
 rw [hN_len]
 have a:=plN_len (xss:=xss) (m:=q.length) hn
 have b:=tot_le (xss:=xss) n
 have c:=(chk_ok h).2
 omega
theorem chk_smp {xss:List (List Int)} (h:chkV xss=0) {row:List Int} (hr:row∈xss):∀ v∈row,v=1073741824∨(-1000≤v∧v≤1000):=by
 intro v hv
 have hb:¬xss.any (·.any badS)=true:=by
  unfold chkV at h
  split at h
  · cases h
  · split at h
    · cases h
    · assumption
 have:¬badS v=true:=fun c=>hb (List.any_eq_true.2 ⟨row,hr,List.any_eq_true.2 ⟨v,hv,c⟩⟩)
 unfold badS at this
 simp at this
 omega
theorem chk_row {xss:List (List Int)} (h:chkV xss=0) {row:List Int} (hr:row∈xss):row.length≤2000:=by
 have a:=row_le hr
 have b:=(chk_ok h).2
 omega
theorem win_row {xss:List (List Int)} (h:chkV xss=0) {row:List Int} (hr:row∈xss) {m k:Nat} (h2:2≤m) (h32:m≤32) (hc:cl row m k=true):k+m≤row.length∧Win ((row.drop k).take m)∧((row.drop k).take m).length=m:=by
 unfold cl at hc
 simp only [Bool.and_eq_true,decide_eq_true_eq,Bool.not_eq_true'] at hc
 obtain ⟨h1,h3⟩:=hc
 have hl:((row.drop k).take m).length=m:=by simp; omega
 refine ⟨h1,⟨by omega,by omega,fun v hv=>?_⟩,hl⟩
 have hv':=chk_smp h hr v (List.mem_of_mem_drop (List.mem_of_mem_take hv))
 have:¬miss v=true:=fun c=>by
  rw [List.any_eq_true.2 ⟨v,hv,c⟩] at h3
  cases h3
 unfold miss at this
 simp at this
 omega
theorem st_mem {l:List Int} {m n:Nat} {p:Int} (h:p∈stI l m n):∃ k:Nat,p=k∧cl l m k=true:=by
 unfold stI stN at h
 obtain ⟨k,hk,rfl⟩:=List.mem_map.1 h
 exact ⟨k,rfl,(List.mem_filter.1 hk).2⟩
theorem hN_val {kd bd gp:Int} {xss:List (List Int)} {q:List Int} (h:chkV xss=0) (hq:Qy kd bd gp q):∀ {n:Nat},n≤xss.length→∀ x∈hN kd bd gp xss q n,vH x∧0≤x.2.2.1∧x.2.2.1 < n:=by
 intro n hn x hx
 unfold hN at hx
 obtain ⟨i,hi,hx⟩:=List.mem_flatMap.1 hx
 obtain ⟨p,hp,rfl⟩:=List.mem_map.1 hx
 have hi':i < n:=List.mem_range.1 hi
 have hil:i < xss.length:=by omega
 rw [getD_at hil] at hp ⊢
 obtain ⟨k,rfl,hc⟩:=st_mem hp
 obtain ⟨w1,w2,w3⟩:=win_row h (List.getElem_mem hil) hq.win.lo hq.win.hi hc
 obtain ⟨r,_,e,ok⟩:=ms_dist hq.ms hq.win w2 w3.symm
 refine ⟨?_,by simp only [hR]; omega,by simp only [hR]; omega⟩
 unfold vH hR
 simp only [Int.toNat_natCast]
 rw [←e]
 exact ok.2

theorem so_hits {kd bd gp:Int} {xss:List (List Int)} {q:List Int} (hw:Wide xss) (h:chkV xss=0) (hq:Qy kd bd gp q) :
 Gives (fun k=>T_store_Hits k xss kd bd gp q) (·=(isort leH (hN kd bd gp xss q xss.length),0)):=by
 have q1:=hq.win.lo
 have q2:=hq.win.hi
 have xl:=(chk_ok h).1
 refine Gives.step ?_
 simp only [T_store_Hits]
 refine Gives.bind (sto_check hw) fun r hr=>?_
 rw [h] at hr
 subst hr
 refine Gives.neg (by simp) (Gives.bind sto_query fun r hr=>?_)
 have qv:quV kd bd gp q=0:=by
  unfold quV
  rw [if_pos hq.ms.ok,if_pos ⟨q1,q2⟩,if_neg]
  intro c
  obtain ⟨v,hv,c⟩:=List.any_eq_true.1 c
  have:=hq.win.smp v hv
  unfold noS at c
  simp at c
  omega
 rw [qv] at hr
 subst hr
 refine Gives.neg (by simp) (Gives.bind (Q:=fun (r:(Nat × List Hit) ⊕ Int)=>r=.inl ((hN kd bd gp xss q xss.length).length,hN kd bd gp xss q xss.length)) ?_ fun r hr=>?_)
 · refine Gives.loop (fun s=>∃ n:Nat,s.2.1=(n:Int)∧n≤xss.length∧s.2.2=hN kd bd gp xss q n∧s.1=s.2.2.length) (fun s=>xss.length - s.2.1.toNat) ?_ ⟨0,rfl,by omega,by simp [hN],rfl⟩
   rintro ⟨l,i,hs⟩ ⟨n,e1,e2,e3,e4⟩
   simp only at e1 e2 e3 e4
   subst e1 e3 e4
   unfold T_store_Hits_l2
   simp only []
   refine Gives.ite (fun c=>?_) fun c=>Gives.now ?_
   · have hn:n < xss.length:=by omega
     refine Gives.opt (at_nat hn) (Gives.bind (sto_starts (m:=q.length) (chk_row h (List.getElem_mem hn)) q1 q2) fun st hst=>?_)
     have hbd:=hN_bd (kd:=kd) (bd:=bd) (gp:=gp) (q:=q) h (n:=n) (by omega)
     have sl:st.length≤2000:=by rw [hst]; have:=stI_len xss[n] q.length xss[n].length; have:=chk_row h (List.getElem_mem hn); omega
     refine Gives.bind (Q:=fun (r:(Nat × List Hit) ⊕ Int)=>r=.inl ((hN kd bd gp xss q (n+1)).length,hN kd bd gp xss q (n+1))) ?_ fun r hr=>?_
     · refine Gives.loop (fun s=>∃ t:Nat,s.2.1=(t:Int)∧t≤st.length∧s.2.2=hN kd bd gp xss q n++(st.take t).map (hR kd bd gp q xss[n] n)∧s.1=s.2.2.length) (fun s=>st.length - s.2.1.toNat) ?_ ⟨0,rfl,by omega,by simp,rfl⟩
       rintro ⟨l,j,hs⟩ ⟨t,f1,f2,f3,f4⟩
       simp only at f1 f2 f3 f4
       subst f1 f4
       unfold T_store_Hits_l1
       simp only []
       refine Gives.ite (fun c'=>?_) fun c'=>Gives.now ?_
       · have ht:t < st.length:=by omega
         have hm:st[t]∈stI xss[n] q.length xss[n].length:=by rw [←hst]; exact List.getElem_mem ht
         obtain ⟨p,hp,hc⟩:=st_mem hm
         obtain ⟨w1,w2,w3⟩:=win_row h (List.getElem_mem hn) q1 q2 hc
         have rl:=chk_row h (List.getElem_mem hn)
         refine Gives.opt (at_nat ht) ?_
         rw [hp]
         have e:w64 ((p:Int)+q.length)=((p+q.length:Nat):Int):=by rw [w64_id (by omega) (by omega)]; omega
         rw [e,Int.toNat_natCast,Int.toNat_natCast,show p+q.length - p=q.length by omega]
         refine Gives.pos (by omega) (Gives.bind (ms_dist hq.ms hq.win w2 w3.symm) fun r hr=>?_)
         have hl:hs.length≤4000:=by rw [f3,List.length_append,List.length_map,List.length_take]; omega
         refine Gives.neg (by simp [hr.2.1]) (Gives.pos (LIM_ok hl) (Gives.now ?_))
         rw [w64_nat (by omega),take_all rfl]
         refine ⟨⟨t+1,rfl,ht,?_,by simp⟩,by simp only [Int.toNat_natCast]; omega⟩
         simp only []
         rw [f3,List.take_succ_eq_append_getElem ht,List.map_append,List.append_assoc,hp,hr.1]
         simp [hR]
       · have et:t=st.length:=by omega
         rw [et,List.take_length,hst] at f3
         rw [hN_succ,getD_at hn,f3]
     · subst hr
       refine Gives.now ⟨⟨n+1,by rw [w64_nat (by omega)],hn,rfl,rfl⟩,?_⟩
       simp only []
       rw [w64_nat (by omega),Int.toNat_natCast,Int.toNat_natCast]
       omega
   · have en:n=xss.length:=by omega
     rw [en]
 · subst hr
   simp only []
   have hbd:=hN_bd (kd:=kd) (bd:=bd) (gp:=gp) (q:=q) h (Nat.le_refl xss.length)
   exact Gives.bind (so_sort (fun x hx=>(hN_val h hq (Nat.le_refl _) x hx).1) (by omega)) fun r hr=>Gives.now (by rw [hr,take_all (isort_perm leH _).length_eq.symm])

def okV (v:Int):Prop:=v=1073741824∨(-1000≤v∧v≤1000)
theorem dk_sampleB {L:List Int} {p:Int} (h:Dk L p):Gives (fun k=>T_shapesearchsecond_Deck_Sample k L p) (fun r=>(-1000≤r.1∧r.1≤1000)∧Dk L r.2):=by
 refine Gives.step ?_
 simp only [T_shapesearchsecond_Deck_Sample]
 refine Gives.bind (dk_next h 12 (by omega)) fun a ha=>Gives.ite (fun _=>Gives.bind (dk_next ha.2 2001 (by omega)) fun b hb=>?_) fun _=>Gives.ite (fun _=>Gives.bind (dk_next ha.2 2 (by omega)) fun b hb=>?_) fun _=>Gives.bind (dk_next ha.2 13 (by omega)) fun b hb=>?_
 · have:=hb.1
   rw [w64_id (by omega) (by omega)]
   exact Gives.now ⟨⟨by simp only []; omega,by simp only []; omega⟩,hb.2⟩
 · have h1:=hb.1
   have:b.1=0∨b.1=1:=by omega
   rcases this with e | e
   · rw [e]; exact Gives.opt (a:=1000) rfl (Gives.now ⟨⟨by simp only []; omega,by simp only []; omega⟩,hb.2⟩)
   · rw [e]; exact Gives.opt (a:=-1000) rfl (Gives.now ⟨⟨by simp only []; omega,by simp only []; omega⟩,hb.2⟩)
 · have:=hb.1
   rw [w64_id (by omega) (by omega)]
   exact Gives.now ⟨⟨by simp only []; omega,by simp only []; omega⟩,hb.2⟩
theorem tmod_bd {i w:Int} (hi:0≤i) (h1:2≤w) (h2:w≤5):0≤i.tmod w∧i.tmod w≤4:=by
 have a:=Int.tmod_nonneg w hi
 have b:=Int.tmod_lt_of_pos i (show 0 < w by omega)
 omega
theorem tdiv_bd {i w:Int} (hi:0≤i) (h1:2≤w):0≤i.tdiv w∧2*i.tdiv w≤i:=by
 have a:=Int.tdiv_nonneg hi (show 0≤w by omega)
 have b:=Int.mul_tdiv_add_tmod i w
 have c:=Int.tmod_nonneg w hi
 have d:2*i.tdiv w≤w*i.tdiv w:=Int.mul_le_mul_of_nonneg_right h1 a
 omega
theorem dk_valuesS {L:List Int} {p:Int} (h:Dk L p) (n:Int) (hn:n≤900):Gives (fun k=>T_shapesearchsecond_Deck_Values k n L p) (fun r=>(∀ v∈r.1,okV v)∧(r.1.length≤n.toNat)∧Dk L r.2):=by
 refine Gives.step ?_
 simp only [T_shapesearchsecond_Deck_Values]
 refine Gives.bind (dk_next h 5 (by omega)) fun a ha=>Gives.bind (dk_next ha.2 4 (by omega)) fun b hb=>?_
 have b1:=hb.1
 rw [w64_id (x:=2+b.1) (by omega) (by omega)]
 refine Gives.bind (Q:=fun r=>r.1=r.2.2.length∧r.1≤n.toNat∧(∀ v∈r.2.2,okV v)∧Dk L r.2.1) ?_ fun r hr=>Gives.now ?_
 · refine Gives.loop (fun s=>0≤s.2.1∧s.2.1≤900∧(s.2.1.toNat≤n.toNat)∧s.1=s.2.1.toNat∧s.2.2.2.length=s.1∧(∀ v∈s.2.2.2,okV v)∧Dk L s.2.2.1) (fun s=>(n - s.2.1).toNat) ?_ ⟨by simp only []; omega,by simp only []; omega,by simp,rfl,rfl,fun v hv=>by simp at hv,hb.2⟩
   intro ⟨cnt,i,q,l⟩ ⟨i0,i1,i2,i3,i4,i5,i6⟩
   simp only at i0 i1 i2 i3 i4 i5 i6
   unfold T_shapesearchsecond_Deck_Values_l1
   simp only []
   refine Gives.ite (fun c=>Gives.bind (dk_sampleB i6) fun u hu=>?_) fun c=>Gives.now ⟨i4.symm,by simp only []; omega,i5,i6⟩
   have t1:=tmod_bd (i:=i) (w:=2+b.1) i0 (by omega) (by omega)
   have t2:=tdiv_bd (i:=i) (w:=2+b.1) i0 (by omega)
   refine Gives.bind (Q:=fun r=>(-1000≤r.1∧r.1≤1000)∧Dk L r.2) ?_ fun v hv=>?_
   · refine Gives.ite (fun _=>Gives.pos (by omega) (Gives.now ⟨?_,hu.2⟩)) fun _=>Gives.ite (fun _=>Gives.pos (by omega) (Gives.bind (dk_next hu.2 2 (by omega)) fun w hw=>Gives.now ⟨?_,hw.2⟩)) fun _=>Gives.ite (fun _=>Gives.pos (by omega) (Gives.now ⟨?_,hu.2⟩)) fun _=>Gives.now hu
     · simp only []
       rw [w64_id (by omega) (by omega)]; omega
     · have:=hw.1
       simp only []
       rw [w64_id (x:=i.tmod (2+b.1)*4) (by omega) (by omega),w64_id (by omega) (by omega)]; omega
     · simp only []
       rw [w64_id (x:=i.tdiv (2+b.1)) (by omega) (by omega),w64_id (by omega) (by omega)]; omega
   refine Gives.bind (dk_next hv.2 30 (by omega)) fun w hw=>Gives.bind (Q:=fun z=>okV z) (Gives.ite (fun _=>Gives.now (.inl rfl)) fun _=>Gives.now (.inr hv.1)) fun z hz=>?_
   rw [w64_id (x:=i+1) (by omega) (by omega),tk_all i4]
   exact Gives.pos (by unfold LIM; omega) (Gives.now ⟨⟨by simp only []; omega,by simp only []; omega,by simp only []; omega,by simp only []; omega,by simp only []; rw [List.length_append,i4]; rfl,fun v hv=>by
    rcases List.mem_append.1 hv with h | h
    · exact i5 v h
    · rw [List.mem_singleton.1 h]; exact hz,hw.2⟩,by simp only []; omega⟩)
 · obtain ⟨r1,r2,r3,r4⟩:=hr
   simp only []
   rw [take_all r1]
   exact ⟨r3,by omega,r4⟩
theorem dk_storeS {L:List Int} {p:Int} (h:Dk L p) (n:Int) (n0:0≤n) (hn:n≤100):Gives (fun k=>T_shapesearchsecond_Deck_Store k n L p) (fun r=>r.1.length≤4∧(∀ l∈r.1,l.length≤100∧∀ v∈l,okV v)∧Dk L r.2):=by
 refine Gives.step ?_
 simp only [T_shapesearchsecond_Deck_Store]
 refine Gives.bind (dk_next h 4 (by omega)) fun a ha=>?_
 have a1:=ha.1
 have wn:w64 (n+1)=n+1:=w64_id (by omega) (by omega)
 refine Gives.bind (Q:=fun r=>r.2.1=r.2.2.length∧r.2.1≤4∧(∀ l∈r.2.2,l.length≤100∧∀ v∈l,okV v)∧Dk L r.1) ?_ fun r hr=>Gives.now ?_
 · refine Gives.loop (fun s=>-1≤s.1∧s.1≤3∧s.2.2.1=s.2.2.2.length∧(s.2.2.1:Int)≤3 - s.1∧(∀ l∈s.2.2.2,l.length≤100∧∀ v∈l,okV v)∧Dk L s.2.1) (fun s=>(s.1+1).toNat) ?_ ⟨by simp only []; omega,by simp only []; omega,rfl,by simp only []; omega,fun l hl=>by simp at hl,ha.2⟩
   intro ⟨i,q,c,rs⟩ ⟨i0,i1,i2,i3,i4,i5⟩
   simp only at i0 i1 i2 i3 i4 i5
   unfold T_shapesearchsecond_Deck_Store_l1
   simp only [wn]
   refine Gives.ite (fun hi=>Gives.bind (dk_next i5 (n+1) (by omega)) fun u hu=>Gives.bind (dk_valuesS hu.2 u.1 (by have:=hu.1; omega)) fun v hv=>?_) fun hi=>Gives.now ⟨i2,by simp only []; omega,i4,i5⟩
   rw [w64_id (x:=i - 1) (by omega) (by omega),take_all i2]
   exact Gives.pos (by unfold LIM; omega) (Gives.now ⟨⟨by simp only []; omega,by simp only []; omega,by simp only []; rw [List.length_append,i2]; rfl,by simp only []; omega,fun l hl=>by
    rcases List.mem_append.1 hl with h | h
    · exact i4 l h
    · rw [List.mem_singleton.1 h]; exact ⟨by have:=hu.1; have:=hv.2.1; omega,hv.1⟩,hv.2.2⟩,by simp only []; omega⟩)
 · obtain ⟨r1,r2,r3,r4⟩:=hr
   simp only []
   rw [take_all r1]
   exact ⟨by omega,r3,r4⟩
theorem ms_ok {k b g:Int} (h:1≤k∧k≤5∧0≤b∧b≤32∧(k=4∨b=0)∧-1000≤g∧g≤1000∧(k=5∨g=0)):Ms k b g:=⟨by unfold meV; rw [if_neg (by omega)]⟩
theorem dk_measure {L:List Int} {p:Int} (h:Dk L p):Gives (fun k=>T_shapesearchsecond_Deck_Measure k 0 L p) (fun r=>Ms r.1 r.2.1 r.2.2.1∧Dk L r.2.2.2):=by
 refine Gives.step ?_
 simp only [T_shapesearchsecond_Deck_Measure]
 refine Gives.bind (Q:=fun r=>(1≤r.2∧r.2≤5)∧Dk L r.1) ?_ fun a ha=>?_
 · refine Gives.pos trivial (Gives.bind (dk_next h 5 (by omega)) fun a ha=>Gives.now ⟨?_,ha.2⟩)
   have:=ha.1
   simp only []
   rw [w64_id (by omega) (by omega)]; omega
 have a1:=ha.1
 refine Gives.bind (Q:=fun r=>Ms a.2 r.2.1 r.2.2∧Dk L r.1) ?_ fun r hr=>Gives.now hr
 refine Gives.ite (fun c=>Gives.bind (dk_next ha.2 5 (by omega)) fun b hb=>?_) fun c=>Gives.ite (fun c'=>Gives.bind (dk_next ha.2 9 (by omega)) fun b hb=>?_) fun c'=>Gives.now ⟨ms_ok (k:=a.2) (b:=0) (g:=0) (by omega),ha.2⟩
 · have h1:=hb.1
   obtain ⟨v,hv,v0,v1⟩:∃ v,at? ([0,1,2,5,32]:List Int) b.1=some v∧0≤v∧v≤32:=by
    have:b.1=0∨b.1=1∨b.1=2∨b.1=3∨b.1=4:=by omega
    rcases this with e | e | e | e | e <;> rw [e]
    · exact ⟨0,rfl,by omega,by omega⟩
    · exact ⟨1,rfl,by omega,by omega⟩
    · exact ⟨2,rfl,by omega,by omega⟩
    · exact ⟨5,rfl,by omega,by omega⟩
    · exact ⟨32,rfl,by omega,by omega⟩
   exact Gives.opt hv (Gives.now ⟨ms_ok (k:=a.2) (b:=v) (g:=0) (by omega),hb.2⟩)
 · have h1:=hb.1
   rw [w64_id (by omega) (by omega)]
   exact Gives.now ⟨ms_ok (k:=a.2) (b:=0) (g:=b.1 - 3) (by omega),hb.2⟩
theorem dk_length {L:List Int} {p:Int} (h:Dk L p):Gives (fun k=>T_shapesearchsecond_Deck_Length k L p) (fun r=>(2≤r.1∧r.1≤6)∧Dk L r.2):=by
 refine Gives.step ?_
 simp only [T_shapesearchsecond_Deck_Length]
 refine Gives.bind (dk_next h 5 (by omega)) fun a ha=>Gives.now ?_
 have:=ha.1
 rw [w64_id (by omega) (by omega)]
 exact ⟨by simp only []; omega,ha.2⟩
theorem pl_mem {xss:List (List Int)} {m n:Nat} {x:Int × Int} (h:x∈plN xss m n):∃ i k:Nat,i < n∧x=((i:Int),(k:Int))∧cl (xss.getD i []) m k=true:=by
 unfold plN at h
 obtain ⟨i,hi,hx⟩:=List.mem_flatMap.1 h
 obtain ⟨p,hp,rfl⟩:=List.mem_map.1 hx
 obtain ⟨k,rfl,hc⟩:=st_mem hp
 exact ⟨i,k,List.mem_range.1 hi,rfl,hc⟩
theorem rf_windowO {xss:List (List Int)} (hw:Wide xss) (h:chkV xss=0) {i k m:Nat} (hi:i < xss.length) (h2:2≤m) (h32:m≤32) (hc:cl (xss.getD i []) m k=true) :
 Gives (fun n=>T_ref23_Window n xss i k m) (fun r=>Win r.2.2∧r.2.2.length=m∧r.1=m):=by
 rw [getD_at hi] at hc
 have rl:=chk_row h (List.getElem_mem hi)
 obtain ⟨w1,w2,w3⟩:=win_row h (List.getElem_mem hi) h2 h32 hc
 have xl:=(chk_ok h).1
 refine Gives.step ?_
 simp only [T_ref23_Window]
 refine Gives.bind (ref_check hw) fun r hr=>?_
 rw [h] at hr
 subst hr
 refine Gives.neg (by simp) (Gives.neg (by simp; omega) (Gives.bind (Q:=fun b=>b=false) ?_ fun b hb=>?_))
 · refine Gives.neg (by simp; omega) (Gives.opt (at_nat hi) (Gives.now ?_))
   rw [w64_id (by omega) (by omega)]
   simp; omega
 subst hb
 refine Gives.neg (by simp) (Gives.opt (at_nat hi) (Gives.bind (ref_whole (l:=xss[i]) (m:=m) (p:=(k:Int)) (by omega) (by omega) (by omega) (by omega) (by omega)) fun b hb=>?_))
 rw [Int.toNat_natCast,hc] at hb
 subst hb
 refine Gives.neg (by simp) (Gives.opt (at_nat hi) ?_)
 have e:w64 ((k:Int)+m)=((k+m:Nat):Int):=by rw [w64_id (by omega) (by omega)]; omega
 rw [e,Int.toNat_natCast,Int.toNat_natCast,show k+m - k=m by omega]
 refine Gives.pos (by omega) (Gives.pos (by rw [w3]; unfold LIM; omega) (Gives.now ?_))
 simp only [List.drop_nil,List.take_nil,List.nil_append]
 exact ⟨w2,w3,by omega⟩
theorem dk_queryO {xss:List (List Int)} {L:List Int} {p m:Int} (hw:Wide xss) (h:chkV xss=0) (hd:Dk L p) (m0:2≤m) (m1:m≤6):Gives (fun k=>T_shapesearchsecond_Deck_Query k xss m L p) (fun r=>r.1=r.2.2.length∧Win r.2.2∧Dk L r.2.1):=by
 obtain ⟨m,rfl⟩:∃ n:Nat,m=n:=⟨m.toNat,by omega⟩
 refine Gives.step ?_
 simp only [T_shapesearchsecond_Deck_Query]
 refine Gives.bind (ref_places hw m) fun r hr=>?_
 have hp:plV xss m=(plN xss m xss.length,0):=by
  unfold plV
  rw [if_pos h,if_pos (by omega),Int.toNat_natCast]
 rw [hp] at hr
 subst hr
 have pl:(plN xss m xss.length).length≤2000:=by
  have a:=plN_len (xss:=xss) (m:=m) (Nat.le_refl xss.length)
  have b:=tot_le (xss:=xss) xss.length
  have c:=(chk_ok h).2
  omega
 simp only []
 refine Gives.bind (Q:=fun r=>(r.1=true→0 < (plN xss m xss.length).length)∧Dk L r.2) ?_ fun a ha=>?_
 · exact Gives.ite (fun c=>Gives.bind (dk_next hd 4 (by omega)) fun a ha=>Gives.now ⟨fun _=>by omega,ha.2⟩) fun _=>Gives.now ⟨fun c=>(by cases c),hd⟩
 refine Gives.ite (fun c=>?_) fun c=>?_
 · have c:=ha.1 c
   refine Gives.bind (dk_next ha.2 _ (by omega)) fun b hb=>?_
   have b1:=hb.1
   obtain ⟨j,hj⟩:∃ j:Nat,b.1=j:=⟨b.1.toNat,by omega⟩
   rw [hj]
   have jl:j < (plN xss m xss.length).length:=by omega
   refine Gives.opt (at_nat jl) ?_
   obtain ⟨i,k,i1,e,hc⟩:=pl_mem (List.getElem_mem jl)
   rw [e]
   refine Gives.bind (rf_windowO hw h i1 (by omega) (by omega) hc) fun w hww=>Gives.bind (dk_next hb.2 3 (by omega)) fun u hu=>?_
   obtain ⟨w1,w2,w3⟩:=hww
   refine Gives.bind (Q:=fun r=>r.2.length=m∧Smp r.2∧Dk L r.1) ?_ fun r hr=>Gives.now ?_
   · refine Gives.loop (fun s=>s.1≤3∧s.2.2.length=m∧Smp s.2.2∧Dk L s.2.1) (fun s=>s.1.toNat) ?_ ⟨by have:=hu.1; simp only []; omega,w2,w1.smp,hu.2⟩
     intro ⟨i,q,l⟩ ⟨i0,i1,i2,i3⟩
     simp only at i0 i1 i2 i3
     unfold T_shapesearchsecond_Deck_Query_l1
     simp only []
     refine Gives.ite (fun c=>Gives.bind (dk_next i3 m (by omega)) fun a ha=>Gives.bind (dk_sampleB ha.2) fun b hb=>?_) fun c=>Gives.now ⟨i1,i2,i3⟩
     have:=ha.1
     rw [w64_id (by omega) (by omega)]
     exact Gives.pos (by omega) (Gives.now ⟨⟨by simp only []; omega,by simp only []; rw [List.length_set]; exact i1,i2.set _ hb.1.1 hb.1.2,hb.2⟩,by simp only []; omega⟩)
   · obtain ⟨r1,r2,r3⟩:=hr
     simp only []
     exact ⟨by omega,⟨by omega,by omega,r2⟩,r3⟩
 · refine Gives.bind (Q:=fun r=>r.1=r.2.2.length∧r.1=m∧Smp r.2.2∧Dk L r.2.1) ?_ fun r hr=>Gives.now ?_
   · refine Gives.loop (fun s=>0≤s.2.1∧s.2.1≤(m:Int)∧s.1=s.2.1.toNat∧s.2.2.2.length=s.1∧Smp s.2.2.2∧Dk L s.2.2.1) (fun s=>((m:Int) - s.2.1).toNat) ?_ ⟨by simp only []; omega,by simp only []; omega,rfl,rfl,Smp.nil,ha.2⟩
     intro ⟨cnt,i,q,l⟩ ⟨i0,i1,i2,i3,i4,i5⟩
     simp only at i0 i1 i2 i3 i4 i5
     unfold T_shapesearchsecond_Deck_Query_l2
     simp only []
     refine Gives.ite (fun c=>Gives.bind (dk_sampleB i5) fun u hu=>?_) fun c=>Gives.now ⟨i3.symm,by simp only []; omega,i4,i5⟩
     rw [w64_id (by omega) (by omega),tk_all i3]
     exact Gives.pos (by unfold LIM; omega) (Gives.now ⟨⟨by simp only []; omega,by simp only []; omega,by simp only []; omega,by simp only []; rw [List.length_append,i3]; rfl,i4.app (Smp.one hu.1.1 hu.1.2),hu.2⟩,by simp only []; omega⟩)
   · obtain ⟨r1,r2,r3,r4⟩:=hr
     simp only []
     exact ⟨r1,⟨by omega,by omega,r3⟩,r4⟩

theorem hN_pl (kd bd gp:Int) (xss:List (List Int)) (q:List Int) (n:Nat):hN kd bd gp xss q n=(plN xss q.length n).map fun z=>hR kd bd gp q (xss.getD z.1.toNat []) z.1 z.2:=by
 unfold hN plN
 rw [List.map_flatMap]
 congr 1
 funext i
 rw [List.map_map]
 exact List.map_congr_left fun p _=>by simp
def putH (l:List Hit) (h:Hit) (i:Nat):List Hit:=l.take i++h::l.drop i
theorem r23_put {l:List Hit} {h:Hit} (hl:l.length≤4000):Gives (fun k=>T_ref23_Put k l h.1 h.2.1 h.2.2.1 h.2.2.2)
 (fun r=>r.1=r.2.length∧∃ i:Nat,i≤l.length∧r.2=putH l h i∧(∀ (j:Nat) (hj:j < l.length),i≤j→bH h l[j]=true)∧∀ (hi:i - 1 < l.length),0 < i→bH h l[i - 1]=false):=by
 refine Gives.step ?_
 simp only [T_ref23_Put]
 refine Gives.bind (Q:=fun x=>∃ i:Nat,x=(i:Int)∧i≤l.length∧(∀ (j:Nat) (hj:j < l.length),i≤j→bH h l[j]=true)∧∀ (hi:i - 1 < l.length),0 < i→bH h l[i - 1]=false) ?_ fun x hx=>?_
 · refine Gives.loop (fun s=>∃ i:Nat,s=(i:Int)∧i≤l.length∧∀ (j:Nat) (hj:j < l.length),i≤j→bH h l[j]=true) (fun s=>s.toNat) ?_ ⟨l.length,rfl,by omega,fun j hj hij=>by omega⟩
   rintro s ⟨i,rfl,hi,hb⟩
   unfold T_ref23_Put_l1
   refine Gives.bind (Q:=fun b=>b=decide (0 < i∧∃ hi:i - 1 < l.length,bH h l[i - 1]=true)) ?_ fun b hb'=>?_
   · refine Gives.ite (fun c=>?_) fun c=>Gives.now ?_
     · have wi:w64 ((i:Int) - 1)=((i - 1:Nat):Int):=by rw [w64_id (by omega) (by omega)]; omega
       rw [wi]
       have hi':i - 1 < l.length:=by omega
       refine Gives.opt (at_nat hi') (Gives.bind (ref_before _ _ _ _ _ _ _ _) fun r hr=>Gives.now ?_)
       rw [hr,Bool.eq_iff_iff,decide_eq_true_eq]
       exact ⟨fun e=>⟨by omega,hi',e⟩,fun e=>e.2.2⟩
     · rw [eq_comm,decide_eq_false_iff_not]; omega
   subst hb'
   refine Gives.ite (fun c=>?_) fun c=>Gives.now ⟨i,rfl,hi,hb,fun hi' h0=>?_⟩
   · rw [decide_eq_true_eq] at c
     obtain ⟨c0,c1,c2⟩:=c
     have wi:w64 ((i:Int) - 1)=((i - 1:Nat):Int):=by rw [w64_id (by omega) (by omega)]; omega
     rw [wi]
     refine Gives.now ⟨⟨i - 1,rfl,by omega,fun j hj hij=>?_⟩,by simp only [Int.toNat_natCast]; omega⟩
     by_cases e:j=i - 1
     · subst e; exact c2
     · exact hb j hj (by omega)
   · rw [decide_eq_true_eq] at c
     rw [Bool.eq_false_iff]
     exact fun e=>c ⟨h0,hi',e⟩
 · obtain ⟨i,rfl,hi,h1,h2⟩:=hx
   have L1:(4001:Nat)≤LIM:=by show 4001≤4294967296; omega
   have tl:((l.drop 0).take ((i:Int).toNat - 0))=l.take i:=by simp
   have dl:((l.drop (i:Int).toNat).take ((l.length:Int).toNat - (i:Int).toNat))=l.drop i:=by
    rw [Int.toNat_natCast,Int.toNat_natCast]
    exact List.take_of_length_le (by simp)
   rw [tl,dl]
   have t1:(l.take i).length=i:=by rw [List.length_take]; omega
   have d1:(l.drop i).length=l.length - i:=by simp
   rw [t1,d1]
   refine Gives.pos (by omega) (Gives.pos (by omega) (Gives.pos (by omega) (Gives.pos (by omega) (Gives.pos (by omega) (Gives.now ?_)))))
   have e:(((((([]:List Hit).drop 0).take 0++l.take i).drop 0).take (0+i)++[(h.1,h.2.1,h.2.2.1,h.2.2.2)]).drop 0).take ((0+i)+1)++l.drop i=putH l h i:=by
    unfold putH
    simp only [List.drop_nil,List.take_nil,List.nil_append,List.drop_zero,Nat.zero_add]
    rw [List.take_of_length_le (l:=l.take i) (by omega),List.take_of_length_le (by simp; omega)]
    simp
   refine ⟨?_,i,hi,e,h1,h2⟩
   simp only []
   rw [e]
   unfold putH
   simp
   omega
theorem put_perm (l:List Hit) (h:Hit) (i:Nat):(putH l h i).Perm (h::l):=by
 unfold putH
 have e:=List.take_append_drop i l
 conv=>rhs; rw [←e]
 exact List.perm_middle
theorem put_pw {l:List Hit} {h:Hit} {i:Nat} (hv:vH h) (lv:∀ x∈l,vH x) (pw:l.Pairwise fun a b=>leH a b=true) (hi:i≤l.length) (h1:∀ (j:Nat) (hj:j < l.length),i≤j→bH h l[j]=true) (h2:∀ (hi:i - 1 < l.length),0 < i→bH h l[i - 1]=false) :
 (putH l h i).Pairwise fun a b=>leH a b=true:=by
 have le1:∀ x∈l.take i,leH x h=true:=fun x hx=>by
  obtain ⟨j,hj,rfl⟩:=List.mem_iff_getElem.1 hx
  rw [List.length_take] at hj
  rw [List.getElem_take]
  have e:leH l[i - 1] h=true:=by unfold leH; rw [Bool.not_eq_true']; exact h2 (by omega) (by omega)
  by_cases c:j=i - 1
  · subst c; exact e
  · exact leH_tr (lv _ (List.getElem_mem _)) (lv _ (List.getElem_mem _)) hv (List.pairwise_iff_getElem.1 pw j (i - 1) (by omega) (by omega) (by omega)) e
 have le2:∀ x∈l.drop i,leH h x=true:=fun x hx=>by
  obtain ⟨j,hj,rfl⟩:=List.mem_iff_getElem.1 hx
  rw [List.length_drop] at hj
  rw [List.getElem_drop]
  have b:=h1 (i+j) (by omega) (by omega)
  unfold leH
  rw [Bool.not_eq_true']
  cases c:bH l[i+j] h
  · rfl
  · have:=bH_tr hv (lv _ (List.getElem_mem _)) hv b c
    rw [bH_irr hv] at this
    cases this
 have sp:=List.take_append_drop i l
 rw [←sp,List.pairwise_append] at pw
 unfold putH
 rw [List.pairwise_append,List.pairwise_cons]
 refine ⟨pw.1,⟨le2,pw.2.1⟩,fun a ha b hb=>?_⟩
 rcases List.mem_cons.1 hb with rfl | hb
 · exact le1 a ha
 · exact pw.2.2 a ha b hb
theorem qu_ok {kd bd gp:Int} {q:List Int} (hq:Qy kd bd gp q):quV kd bd gp q=0:=by
 unfold quV
 rw [if_pos hq.ms.ok,if_pos ⟨hq.win.lo,hq.win.hi⟩,if_neg]
 intro c
 obtain ⟨v,hv,c⟩:=List.any_eq_true.1 c
 have:=hq.win.smp v hv
 unfold noS at c
 simp at c
 omega

theorem rf_hits {kd bd gp:Int} {xss:List (List Int)} {q:List Int} (hw:Wide xss) (h:chkV xss=0) (hq:Qy kd bd gp q) :
 Gives (fun k=>T_ref23_Hits k xss kd bd gp q) (·=((hN kd bd gp xss q xss.length).length,0,isort leH (hN kd bd gp xss q xss.length))):=by
 have q1:=hq.win.lo
 have q2:=hq.win.hi
 have xl:=(chk_ok h).1
 refine Gives.step ?_
 simp only [T_ref23_Hits]
 refine Gives.bind (ref_check hw) fun r hr=>?_
 rw [h] at hr
 subst hr
 refine Gives.neg (by simp) (Gives.bind ref_query fun r hr=>?_)
 rw [qu_ok hq] at hr
 subst hr
 refine Gives.neg (by simp) (Gives.bind (ref_places hw q.length) fun r hr=>?_)
 have hp:plV xss q.length=(plN xss q.length xss.length,0):=by
  unfold plV
  rw [if_pos h,if_pos (by omega),Int.toNat_natCast]
 rw [hp] at hr
 subst hr
 simp only []
 have hbd:=hN_bd (kd:=kd) (bd:=bd) (gp:=gp) (q:=q) h (Nat.le_refl xss.length)
 have val:=fun x hx=>(hN_val h hq (Nat.le_refl xss.length) x hx).1
 rw [hN_pl] at hbd val ⊢
 have pm:∀ z∈plN xss q.length xss.length,∃ i k:Nat,i < xss.length∧z=((i:Int),(k:Int))∧cl (xss.getD i []) q.length k=true:=fun z hz=>pl_mem hz
 generalize plN xss q.length xss.length=P at hbd val pm ⊢
 rw [List.length_map] at hbd
 refine Gives.bind (Q:=fun s=>s.1=s.2.length∧s.2=isort leH (P.map fun z=>hR kd bd gp q (xss.getD z.1.toNat []) z.1 z.2)) ?_ fun s hs=>Gives.now (by rw [hs.1,hs.2,(isort_perm leH _).length_eq])
 refine Gives.loop (fun s=>∃ n:Nat,s.2.1=(n:Int)∧n≤P.length∧s.1=s.2.2.length∧s.2.2.Pairwise (fun a b=>leH a b=true)∧s.2.2.Perm ((P.take n).map fun z=>hR kd bd gp q (xss.getD z.1.toNat []) z.1 z.2)) (fun s=>P.length - s.2.1.toNat) ?_ ⟨0,rfl,by omega,rfl,.nil,by simp⟩
 rintro ⟨l,i,out⟩ ⟨n,e1,e2,e3,e4,e5⟩
 simp only at e1 e2 e3 e4 e5
 subst e1 e3
 unfold T_ref23_Hits_l1
 simp only []
 have ol:out.length=n:=by rw [e5.length_eq,List.length_map,List.length_take]; omega
 have ov:∀ x∈out,vH x:=fun x hx=>val x (by
  obtain ⟨z,hz,rfl⟩:=List.mem_map.1 (e5.mem_iff.1 hx)
  exact List.mem_map.2 ⟨z,List.mem_of_mem_take hz,rfl⟩)
 refine Gives.ite (fun c=>?_) fun c=>Gives.now ?_
 · have hn:n < P.length:=by omega
   refine Gives.opt (at_nat hn) ?_
   obtain ⟨a,k,ha,e,hc⟩:=pm _ (List.getElem_mem hn)
   have hh:vH (hR kd bd gp q (xss.getD P[n].1.toNat []) P[n].1 P[n].2):=val _ (List.mem_map.2 ⟨P[n],List.getElem_mem hn,rfl⟩)
   have tk:(P.take (n+1)).map (fun z=>hR kd bd gp q (xss.getD z.1.toNat []) z.1 z.2)=(P.take n).map (fun z=>hR kd bd gp q (xss.getD z.1.toNat []) z.1 z.2)++[hR kd bd gp q (xss.getD P[n].1.toNat []) P[n].1 P[n].2]:=by
    rw [List.take_succ_eq_append_getElem hn,List.map_append]; rfl
   rw [e] at hh tk ⊢
   simp only [Int.toNat_natCast] at hh tk ⊢
   rw [getD_at ha] at hc hh tk
   obtain ⟨w1,w2,w3⟩:=win_row h (List.getElem_mem ha) q1 q2 hc
   have rl:=chk_row h (List.getElem_mem ha)
   have we:w64 ((k:Int)+q.length)=((k+q.length:Nat):Int):=by rw [w64_id (by omega) (by omega)]; omega
   refine Gives.opt (at_nat ha) ?_
   rw [we,Int.toNat_natCast,show k+q.length - k=q.length by omega]
   refine Gives.pos (by omega) (Gives.bind (r17_dist hq.ms hq.win w2 w3.symm) fun r hr=>?_)
   subst hr
   rw [take_all rfl]
   refine Gives.bind (r23_put (l:=out) (h:=hR kd bd gp q xss[a] a k) (by omega)) fun r hr=>Gives.now ?_
   obtain ⟨r1,i,hi,r2,g1,g2⟩:=hr
   rw [w64_nat (by omega)]
   refine ⟨⟨n+1,rfl,hn,r1,?_,?_⟩,by simp only [Int.toNat_natCast]; omega⟩
   · simp only []
     rw [r2]
     exact put_pw hh ov e4 hi g1 g2
   · simp only []
     rw [r2,tk]
     exact (put_perm _ _ _).trans ((List.Perm.cons _ e5).trans (List.perm_append_singleton _ _).symm)
 · have en:n=P.length:=by omega
   refine ⟨rfl,sortH_uniq val e4 ?_⟩
   rw [en,List.take_length] at e5
   exact e5

theorem dk_limitO {kd bd gp:Int} {xss:List (List Int)} {q q0 L:List Int} {p:Int} {c0:Nat} (e0:(q0.drop 0).take c0=q) (hw:Wide xss) (h:chkV xss=0) (hq:Qy kd bd gp q) (hd:Dk L p) :
 Gives (fun k=>T_shapesearchsecond_Deck_Limit k xss kd bd gp c0 L p q0) (fun r=>vR r.1 r.2.1=true∧Dk L r.2.2):=by
 refine Gives.step ?_
 simp only [T_shapesearchsecond_Deck_Limit]
 rw [e0]
 refine Gives.bind (rf_hits hw h hq) fun r hr=>?_
 subst hr
 simp only []
 have hbd:=hN_bd (kd:=kd) (bd:=bd) (gp:=gp) (q:=q) h (Nat.le_refl xss.length)
 have pl:=(isort_perm leH (hN kd bd gp xss q xss.length)).length_eq
 rw [←pl]
 have av:∀ x∈isort leH (hN kd bd gp xss q xss.length),vH x:=fun x hx=>(hN_val h hq (Nat.le_refl _) x ((isort_perm leH _).mem_iff.1 hx)).1
 generalize isort leH (hN kd bd gp xss q xss.length)=A at pl av
 refine Gives.bind (Q:=fun r=>(r.1=true→0 < A.length)∧Dk L r.2) ?_ fun a ha=>?_
 · exact Gives.ite (fun c=>Gives.bind (dk_next hd 2 (by omega)) fun a ha=>Gives.now ⟨fun _=>by omega,ha.2⟩) fun _=>Gives.now ⟨fun c=>(by cases c),hd⟩
 refine Gives.ite (fun c=>?_) fun c=>?_
 · have c:=ha.1 c
   refine Gives.bind (dk_next ha.2 _ (by omega)) fun b hb=>?_
   obtain ⟨j,hj⟩:∃ j:Nat,b.1=j:=⟨b.1.toNat,by omega⟩
   have jl:j < A.length:=by omega
   rw [hj]
   rw [Int.toNat_natCast,Nat.zero_add]
   exact Gives.pos (by omega) (Gives.opt (List.getElem?_eq_getElem jl) (Gives.now ⟨av _ (List.getElem_mem jl),hb.2⟩))
 · refine Gives.bind (dk_next ha.2 60 (by omega)) fun b hb=>Gives.bind (dk_next hb.2 5 (by omega)) fun c hc=>?_
   rw [w64_id (by omega) (by omega)]
   refine Gives.bind (r01_mk (by omega) (by omega) (by omega) (by omega)) fun r hr=>Gives.now ?_
   rw [hr]
   exact ⟨(mk_ok (by omega) (by omega) (by omega) (by omega)).2,hc.2⟩

theorem so_within {kd bd gp a b:Int} {xss:List (List Int)} {q:List Int} (hw:Wide xss) (h:chkV xss=0) (hq:Qy kd bd gp q) (hl:vR a b=true) :
 Gives (fun k=>T_store_Within k xss kd bd gp q a b) (fun r=>r.2=0∧∃ m:Nat,m≤(isort leH (hN kd bd gp xss q xss.length)).length∧r.1=(isort leH (hN kd bd gp xss q xss.length)).take m ∧
  (∀ (i:Nat) (hi:i < (isort leH (hN kd bd gp xss q xss.length)).length),i < m→lR a b (isort leH (hN kd bd gp xss q xss.length))[i].1 (isort leH (hN kd bd gp xss q xss.length))[i].2.1=false) ∧
  ∀ (hm:m < (isort leH (hN kd bd gp xss q xss.length)).length),lR a b (isort leH (hN kd bd gp xss q xss.length))[m].1 (isort leH (hN kd bd gp xss q xss.length))[m].2.1=true):=by
 refine Gives.step ?_
 simp only [T_store_Within]
 refine Gives.bind (so_hits hw h hq) fun r hr=>?_
 subst hr
 have hbd:=hN_bd (kd:=kd) (bd:=bd) (gp:=gp) (q:=q) h (Nat.le_refl xss.length)
 have pl:=(isort_perm leH (hN kd bd gp xss q xss.length)).length_eq
 generalize isort leH (hN kd bd gp xss q xss.length)=A at pl ⊢
 simp only []
 refine Gives.neg (by simp) (Gives.bind (ra_validI a b) fun v hv=>?_)
 rw [hl] at hv
 subst hv
 refine Gives.neg (by simp) (Gives.bind (Q:=fun x=>∃ m:Nat,x=(m:Int)∧m≤A.length∧(∀ (i:Nat) (hi:i < A.length),i < m→lR a b A[i].1 A[i].2.1=false)∧∀ (hm:m < A.length),lR a b A[m].1 A[m].2.1=true) ?_ fun x hx=>?_)
 · refine Gives.loop (fun s=>∃ m:Nat,s=(m:Int)∧m≤A.length∧∀ (i:Nat) (hi:i < A.length),i < m→lR a b A[i].1 A[i].2.1=false) (fun s=>A.length - s.toNat) ?_ ⟨0,rfl,by omega,fun i hi c=>by omega⟩
   rintro s ⟨m,rfl,hm,hb⟩
   unfold T_store_Within_l1
   refine Gives.bind (Q:=fun r=>r=decide (∃ hm:m < A.length,lR a b A[m].1 A[m].2.1=false)) ?_ fun r hr=>?_
   · refine Gives.ite (fun c=>?_) fun c=>Gives.now ?_
     · have c:m < A.length:=by omega
       refine Gives.opt (at_nat c) (Gives.bind (ra_less a b A[m].1 A[m].2.1) fun r hr=>Gives.now ?_)
       rw [hr,Bool.eq_iff_iff,decide_eq_true_eq,Bool.not_eq_true']
       exact ⟨fun e=>⟨c,e⟩,fun e=>e.2⟩
     · rw [eq_comm,decide_eq_false_iff_not]
       exact fun e=>by have:=e.1; omega
   subst hr
   refine Gives.ite (fun c=>?_) fun c=>Gives.now ⟨m,rfl,hm,hb,fun hm=>?_⟩
   · rw [decide_eq_true_eq] at c
     obtain ⟨c1,c2⟩:=c
     rw [w64_nat (by omega)]
     refine Gives.now ⟨⟨m+1,rfl,c1,fun i hi him=>?_⟩,by simp only [Int.toNat_natCast]; omega⟩
     by_cases e:i=m
     · subst e; exact c2
     · exact hb i hi (by omega)
   · rw [decide_eq_true_eq] at c
     cases e:lR a b A[m].1 A[m].2.1
     · exact absurd ⟨hm,e⟩ c
     · rfl
 · obtain ⟨m,rfl,hm,h1,h2⟩:=hx
   exact Gives.pos (by omega) (Gives.now ⟨rfl,m,hm,by simp,h1,h2⟩)

theorem chk_zero {xss:List (List Int)} (h1:xss.length≤5) (h2:∀ l∈xss,l.length≤100∧∀ v∈l,okV v):chkV xss=0∧Wide xss:=by
 have t:∀ xss:List (List Int),(∀ l∈xss,l.length≤100)→tot xss≤xss.length*100:=by
  intro xss h
  induction xss with
  | nil=>simp [tot]
  | cons l xs ih =>
   have a:=ih fun l hl=>h l (by simp [hl])
   have b:=h l (by simp)
   simp only [tot,List.map_cons,List.sum_cons,List.length_cons] at a ⊢
   omega
 have t1:=t xss fun l hl=>(h2 l hl).1
 refine ⟨?_,by omega,fun l hl=>by have:=(h2 l hl).1; unfold Short; omega⟩
 unfold chkV
 rw [if_neg (by omega),if_neg]
 intro c
 obtain ⟨l,hl,c⟩:=List.any_eq_true.1 c
 obtain ⟨v,hv,c⟩:=List.any_eq_true.1 c
 have:=(h2 l hl).2 v hv
 unfold okV at this
 unfold badS at c
 simp at c
 omega
theorem same_hits {l:List Hit} (hl:l.length≤140737488351232):Gives (fun k=>T_ref23_Same k l l) (·=true):=by
 refine Gives.step ?_
 simp only [T_ref23_Same]
 refine Gives.neg (by simp) (Gives.bind (Q:=fun (r:Unit ⊕ Unit)=>∃ u,r=.inl u) ?_ fun r ⟨u,hr⟩=>?_)
 · refine Gives.loop (fun (s:Int)=>∃ n:Nat,s=n∧n≤l.length) (fun s=>l.length - s.toNat) ?_ ⟨0,rfl,by omega⟩
   rintro s ⟨n,rfl,hn⟩
   unfold T_ref23_Same_l1
   refine Gives.ite (fun h=>?_) fun h=>Gives.now ⟨_,rfl⟩
   have h:n < l.length:=by omega
   refine Gives.opt (at_nat h) (Gives.opt (at_nat h) (Gives.neg (by simp) (Gives.now ?_)))
   rw [w64_nat (by omega)]
   exact ⟨⟨n+1,rfl,h⟩,by simp only [Int.toNat_natCast]; omega⟩
 · subst hr; exact Gives.now rfl
theorem lR_mono {a b:Int} {x y:Hit} (hl:vR a b=true) (hx:vH x) (hy:vH y) (hxy:leH x y=true) (h:lR a b x.1 x.2.1=true):lR a b y.1 y.2.1=true:=by
 unfold vH at hx hy
 unfold lR at h ⊢
 rw [hl,hx] at h
 rw [hl,hy]
 simp only [Bool.true_and,decide_eq_true_eq] at h ⊢
 unfold leH at hxy
 rw [Bool.not_eq_true',Bool.eq_false_iff,ne_eq,bH_iff hy hx] at hxy
 have p1:=vH_pos (h:=(a,b,0,0)) hl
 have p2:=vH_pos hx
 have p3:=vH_pos hy
 simp only [] at p1
 obtain ⟨k1,k2⟩:=cross_tr (a:=a) (b:=b) (c:=x.1) (d:=x.2.1) (e:=y.1) (f:=y.2.1) (by omega) (by omega) (by omega) (by omega) (by omega)
 rcases Int.lt_or_eq_of_le k1 with c | c
 · exact c
 · have:=(k2 c).1
   omega
theorem awake_run (k:Nat):T_law23_awake (k+40)=some true:=by kernel_rfl
theorem awake_ok:Gives (fun k=>T_law23_awake k) (·=true):=⟨true,⟨40,fun k hk=>by obtain ⟨j,rfl⟩:=Nat.exists_eq_add_of_le' hk; exact awake_run j⟩,rfl⟩
theorem qy_of {kd bd gp:Int} {q:List Int} (h:quV kd bd gp q=0):Qy kd bd gp q:=by
 unfold quV at h
 split at h
 · rename_i h1
   split at h
   · rename_i h2
     split at h
     · cases h
     · rename_i h3
       refine ⟨⟨h1⟩,⟨h2.1,h2.2,fun v hv=>?_⟩⟩
       have:¬noS v=true:=fun c=>h3 (List.any_eq_true.2 ⟨v,hv,c⟩)
       unfold noS at this
       simp at this
       omega
   · cases h
 · rename_i h1; exact absurd h h1
noncomputable def AV (kd bd gp:Int) (xss:List (List Int)) (q:List Int):List Hit:=if quV kd bd gp q=0 then isort leH (hN kd bd gp xss q xss.length) else []
theorem AV_len {kd bd gp:Int} {xss:List (List Int)} {q:List Int} (h:chkV xss=0):(AV kd bd gp xss q).length≤2000:=by
 unfold AV
 split
 · rw [(isort_perm leH _).length_eq]; exact hN_bd h (Nat.le_refl _)
 · simp
theorem so_hitsV {kd bd gp:Int} {xss:List (List Int)} {q:List Int} (hw:Wide xss) (h:chkV xss=0):Gives (fun k=>T_store_Hits k xss kd bd gp q) (·=(AV kd bd gp xss q,quV kd bd gp q)):=by
 unfold AV
 by_cases c:quV kd bd gp q=0
 · rw [if_pos c,c]
   exact so_hits hw h (qy_of c)
 · rw [if_neg c]
   refine Gives.step ?_
   simp only [T_store_Hits]
   refine Gives.bind (sto_check hw) fun r hr=>?_
   rw [h] at hr
   subst hr
   refine Gives.neg (by simp) (Gives.bind sto_query fun r hr=>?_)
   subst hr
   exact Gives.pos (by simpa using c) (Gives.now rfl)
theorem rf_hitsV {kd bd gp:Int} {xss:List (List Int)} {q:List Int} (hw:Wide xss) (h:chkV xss=0):Gives (fun k=>T_ref23_Hits k xss kd bd gp q) (·=((AV kd bd gp xss q).length,quV kd bd gp q,AV kd bd gp xss q)):=by
 unfold AV
 by_cases c:quV kd bd gp q=0
 · rw [if_pos c,c,(isort_perm leH _).length_eq]
   exact rf_hits hw h (qy_of c)
 · rw [if_neg c]
   refine Gives.step ?_
   simp only [T_ref23_Hits]
   refine Gives.bind (ref_check hw) fun r hr=>?_
   rw [h] at hr
   subst hr
   refine Gives.neg (by simp) (Gives.bind ref_query fun r hr=>?_)
   subst hr
   exact Gives.pos (by simpa using c) (Gives.now rfl)
theorem im_nat (n:Int) (m:Nat) (h0:0≤n):0≤imin n m∧imin n m≤m∧imin n m≤n:=by
 unfold imin; split <;> omega
noncomputable def NV (kd bd gp n:Int) (xss:List (List Int)) (q:List Int):List Hit × Int :=
 if quV kd bd gp q=0 then if 1≤n∧n≤64 then ((AV kd bd gp xss q).take (imin n ((AV kd bd gp xss q).length:Int)).toNat,0) else ([],24) else ([],quV kd bd gp q)
theorem so_nearestV {kd bd gp n:Int} {xss:List (List Int)} {q:List Int} (hw:Wide xss) (h:chkV xss=0):Gives (fun k=>T_store_Nearest k xss kd bd gp q n) (·=NV kd bd gp n xss q):=by
 unfold NV
 refine Gives.step ?_
 simp only [T_store_Nearest]
 refine Gives.bind (so_hitsV hw h) fun r hr=>?_
 subst hr
 simp only []
 refine Gives.ite (fun c=>Gives.now ?_) fun c=>?_
 · rw [if_neg (by simpa using c)]
 · have c:quV kd bd gp q=0:=by simpa using c
   rw [if_pos c]
   refine Gives.bind (Q:=fun _=>True) (Gives.step (by simp only [T_store_Count]; exact Gives.now trivial)) fun _ _=>Gives.ite (fun d=>Gives.now ?_) fun d=>?_
   · rw [if_neg (by simp at d; omega)]
   · have d:1≤n∧n≤64:=by simp at d; omega
     rw [if_pos d]
     have:=im_nat n (AV kd bd gp xss q).length (by omega)
     exact Gives.pos (by omega) (Gives.now (by simp))
theorem rf_nearestV {kd bd gp n:Int} {xss:List (List Int)} {q:List Int} (hw:Wide xss) (h:chkV xss=0):Gives (fun k=>T_ref23_Nearest k xss kd bd gp q n) (·=NV kd bd gp n xss q):=by
 unfold NV
 refine Gives.step ?_
 simp only [T_ref23_Nearest]
 refine Gives.bind (rf_hitsV hw h) fun r hr=>?_
 subst hr
 simp only []
 refine Gives.ite (fun c=>Gives.now ?_) fun c=>?_
 · rw [if_neg (by simpa using c)]
 · have c:quV kd bd gp q=0:=by simpa using c
   rw [if_pos c]
   refine Gives.ite (fun d=>Gives.now ?_) fun d=>?_
   · rw [if_neg (by simp at d; omega)]
   · have d:1≤n∧n≤64:=by simp at d; omega
     rw [if_pos d]
     have:=im_nat n (AV kd bd gp xss q).length (by omega)
     exact Gives.pos (by omega) (Gives.now (by simp))
noncomputable def WV (kd bd gp a b:Int) (xss:List (List Int)) (q:List Int):List Hit × Int :=
 if quV kd bd gp q=0 then if vR a b=true then ((AV kd bd gp xss q).filter (fun x=>!lR a b x.1 x.2.1),0) else ([],1) else ([],quV kd bd gp q)
theorem so_withinV {kd bd gp a b:Int} {xss:List (List Int)} {q:List Int} (hw:Wide xss) (h:chkV xss=0):Gives (fun k=>T_store_Within k xss kd bd gp q a b) (·=WV kd bd gp a b xss q):=by
 by_cases c:quV kd bd gp q=0
 · by_cases v:vR a b=true
   · have hq:=qy_of c
     refine (so_within hw h hq v).mono fun r hr=>?_
     have av:∀ x∈isort leH (hN kd bd gp xss q xss.length),vH x:=fun x hx=>(hN_val h hq (Nat.le_refl _) x ((isort_perm leH _).mem_iff.1 hx)).1
     have pw:=sortH_pw (hN kd bd gp xss q xss.length) fun x hx=>(hN_val h hq (Nat.le_refl _) x hx).1
     unfold WV AV
     rw [if_pos c,if_pos v,if_pos c]
     generalize isort leH (hN kd bd gp xss q xss.length)=A at *
     obtain ⟨h1,m,h2,h3,h4,h5⟩:=hr
     obtain ⟨r,e⟩:=r
     simp only at h1 h3
     subst h1 h3
     have e1:(A.take m).filter (fun x=>!lR a b x.1 x.2.1)=A.take m:=List.filter_eq_self.2 fun x hx=>by
      obtain ⟨j,hj,rfl⟩:=List.mem_iff_getElem.1 hx
      rw [List.length_take] at hj
      rw [List.getElem_take,h4 j (by omega) (by omega)]; rfl
     have e2:(A.drop m).filter (fun x=>!lR a b x.1 x.2.1)=[]:=List.filter_eq_nil_iff.2 fun x hx=>by
      obtain ⟨j,hj,rfl⟩:=List.mem_iff_getElem.1 hx
      rw [List.length_drop] at hj
      rw [List.getElem_drop]
      have lm:=h5 (by omega)
      by_cases z:j=0
      · subst z
        simp only [Nat.add_zero]
        rw [lm]; simp
      · rw [lR_mono v (av _ (List.getElem_mem _)) (av _ (List.getElem_mem _)) (List.pairwise_iff_getElem.1 pw m (m+j) (by omega) (by omega) (by omega)) lm]; simp
     have sp:=List.take_append_drop m A
     conv=>rhs; rw [←sp,List.filter_append,e1,e2,List.append_nil]
   · unfold WV
     rw [if_pos c,if_neg v]
     refine Gives.step ?_
     simp only [T_store_Within]
     refine Gives.bind (so_hitsV hw h) fun r hr=>?_
     subst hr
     refine Gives.neg (by simp [c]) (Gives.bind (ra_validI a b) fun w hw=>?_)
     subst hw
     exact Gives.pos (by simpa using v) (Gives.now rfl)
 · unfold WV
   rw [if_neg c]
   refine Gives.step ?_
   simp only [T_store_Within]
   refine Gives.bind (so_hitsV hw h) fun r hr=>?_
   subst hr
   exact Gives.pos (by simpa using c) (Gives.now rfl)
theorem rf_withinV {kd bd gp a b:Int} {xss:List (List Int)} {q:List Int} (hw:Wide xss) (h:chkV xss=0):Gives (fun k=>T_ref23_Within k xss kd bd gp q a b) (·=WV kd bd gp a b xss q):=by
 unfold WV
 refine Gives.step ?_
 simp only [T_ref23_Within]
 refine Gives.bind (rf_hitsV hw h) fun r hr=>?_
 subst hr
 simp only []
 have al:=AV_len (kd:=kd) (bd:=bd) (gp:=gp) (q:=q) h
 refine Gives.ite (fun c=>Gives.now ?_) fun c=>?_
 · rw [if_neg (by simpa using c)]
 have c:quV kd bd gp q=0:=by simpa using c
 rw [if_pos c]
 refine Gives.bind (r01_validI a b) fun w hw=>?_
 subst hw
 refine Gives.ite (fun v=>Gives.now ?_) fun v=>?_
 · rw [if_neg (by simpa using v)]
 have v:vR a b=true:=by simpa using v
 rw [if_pos v]
 generalize AV kd bd gp xss q=A at al ⊢
 refine Gives.bind (Q:=fun s=>s.1=s.2.length∧s.2=A.filter (fun x=>!lR a b x.1 x.2.1)) ?_ fun s hs=>Gives.now (by rw [hs.1,take_all rfl,hs.2])
 refine Gives.loop (fun s=>∃ n:Nat,s.2.1=(n:Int)∧n≤A.length∧s.1=s.2.2.length∧s.2.2=(A.take n).filter (fun x=>!lR a b x.1 x.2.1)) (fun s=>A.length - s.2.1.toNat) ?_ ⟨0,rfl,by omega,rfl,by simp⟩
 rintro ⟨l,i,out⟩ ⟨n,e1,e2,e3,e4⟩
 simp only at e1 e2 e3 e4
 subst e1 e3
 unfold T_ref23_Within_l1
 simp only []
 refine Gives.ite (fun c=>?_) fun c=>Gives.now ?_
 · have hn:n < A.length:=by omega
   rw [Int.toNat_natCast,Nat.zero_add]
   refine Gives.pos (by omega) (Gives.opt (List.getElem?_eq_getElem hn) (Gives.bind (r01_less a b A[n].1 A[n].2.1) fun r hr=>?_))
   subst hr
   have tk:(A.take (n+1)).filter (fun x=>!lR a b x.1 x.2.1)=(A.take n).filter (fun x=>!lR a b x.1 x.2.1)++[A[n]].filter (fun x=>!lR a b x.1 x.2.1):=by
    rw [List.take_succ_eq_append_getElem hn,List.filter_append]
   have ol:out.length≤2000:=by
    have a1:=List.length_filter_le (fun x:Hit=>!lR a b x.1 x.2.1) (A.take n)
    rw [←e4,List.length_take] at a1
    omega
   refine Gives.bind (Q:=fun s=>s.1=s.2.length∧s.2=(A.take (n+1)).filter (fun x=>!lR a b x.1 x.2.1)) ?_ fun s hs=>Gives.now ?_
   · refine Gives.ite (fun d=>?_) fun d=>Gives.now ⟨rfl,?_⟩
     · refine Gives.pos (by omega) (Gives.opt (List.getElem?_eq_getElem hn) (Gives.pos (by show out.length+1≤4294967296; omega) (Gives.now ?_)))
       rw [take_all rfl]
       refine ⟨by simp,?_⟩
       simp only []
       rw [tk,e4,List.filter_cons,if_pos d]
       rfl
     · simp only []
       rw [tk,e4,List.filter_cons,if_neg d]
       simp
   · rw [w64_nat (by omega)]
     exact ⟨⟨n+1,rfl,hn,hs.1,hs.2⟩,by simp only [Int.toNat_natCast]; omega⟩
 · have en:n=A.length:=by omega
   rw [en,List.take_length] at e4
   exact ⟨rfl,e4⟩
theorem pure_storeAnswers (a0:List Int) (w0:∀ n∈a0,(Lit.int .i64 n).wf=true) (a1:Int) (w1:(Lit.int .i64 a1).wf=true) (a2:Int) (w2:(Lit.int .i64 a2).wf=true):∃ k,T_law23_StoreAnswers k a0 a1 a2=some true:=by
 refine Gives.true (f:=fun k=>T_law23_StoreAnswers k a0 a1 a2) (Gives.step ?_)
 simp only [T_law23_StoreAnswers]
 refine Gives.bind (Q:=fun _=>True) (Gives.step (by simp only [T_shapesearchsecond_Few]; exact Gives.now trivial)) fun _ _=>Gives.ite (fun _=>Gives.bind awake_ok fun b hb=>Gives.now hb) fun c=>?_
 have d0:Dk a0 0:=⟨by simp at c; omega,by omega,by omega⟩
 refine Gives.bind (Q:=fun _=>True) (Gives.step (by simp only [T_shapesearchsecond_New]; exact Gives.now trivial)) fun _ _=>Gives.bind (dk_storeS d0 20 (by omega) (by omega)) fun s hs=>?_
 obtain ⟨s1,s2,s3⟩:=hs
 obtain ⟨ck,wd⟩:=chk_zero (by omega) s2
 refine Gives.bind (dk_measure s3) fun m hm=>Gives.bind (dk_length hm.2) fun l hl=>Gives.bind (dk_queryO wd ck hl.2 hl.1.1 hl.1.2) fun q hq=>?_
 obtain ⟨ql,qw,qd⟩:=hq
 have qy:Qy m.1 m.2.1 m.2.2.1 q.2.2:=⟨hm.1,qw⟩
 have q1:=qw.lo
 refine Gives.bind (dk_limitO (take_all ql) wd ck qy qd) fun lim hlim=>Gives.bind (dk_next hlim.2 8 (by omega)) fun u hu=>Gives.bind (dk_mod (by omega)) fun _ _=>?_
 refine Gives.bind (Q:=fun _=>True) ?_ fun z _=>?_
 · refine Gives.ite (fun _=>Gives.bind (dk_mod (by omega)) fun _ _=>Gives.now trivial) fun _=>Gives.ite (fun _=>Gives.now trivial) fun _=>Gives.ite (fun _=>Gives.now trivial) fun _=>Gives.ite (fun _=>Gives.pos (by omega) (Gives.now trivial)) fun _=>Gives.ite (fun _=>Gives.pos (by omega) (Gives.now trivial)) fun _=>Gives.now trivial
 generalize (z.2.2.2.2.1.drop z.1).take z.2.1=Q
 refine Gives.bind (so_hitsV wd ck) fun A hA=>Gives.bind (rf_hitsV wd ck) fun A' hA'=>Gives.bind (so_nearestV wd ck) fun B hB=>Gives.bind (rf_nearestV wd ck) fun B' hB'=>Gives.bind (so_withinV wd ck) fun C hC=>Gives.bind (rf_withinV wd ck) fun C' hC'=>?_
 have al:=AV_len (kd:=m.1) (bd:=z.2.2.2.1) (gp:=m.2.2.1) (q:=Q) ck
 have bl:B.1.length≤2000:=by
  rw [hB]
  unfold NV
  split
  · split
    · have:=List.length_take_le (imin z.2.2.1 ((AV m.1 z.2.2.2.1 m.2.2.1 s.1 Q).length:Int)).toNat (AV m.1 z.2.2.2.1 m.2.2.1 s.1 Q)
      simp only []
      rw [List.length_take]
      omega
    · simp
  · simp
 have cl':C.1.length≤2000:=by
  rw [hC]
  unfold WV
  split
  · split
    · have:=List.length_filter_le (fun x:Hit=>!lR z.2.2.2.2.2 lim.2.1 x.1 x.2.1) (AV m.1 z.2.2.2.1 m.2.2.1 s.1 Q)
      simp only []
      omega
    · simp
  · simp
 rw [←hB] at hB'
 rw [←hC] at hC'
 subst hA hA' hB' hC'
 simp only []
 rw [take_all rfl]
 refine Gives.bind (Q:=fun b=>b=true) ?_ fun b hb=>Gives.now hb
 refine Gives.pos (by simp) (Gives.bind (same_hits (by omega)) fun b hb=>Gives.pos hb (Gives.bind (same_hits (by omega)) fun b hb=>Gives.pos hb (Gives.bind (same_hits (by omega)) fun b hb=>Gives.pos hb (Gives.bind awake_ok fun b hb=>Gives.now hb))))

end Go.Proofs.YtkeddnagijjbaaaGreat.storeAnswers
