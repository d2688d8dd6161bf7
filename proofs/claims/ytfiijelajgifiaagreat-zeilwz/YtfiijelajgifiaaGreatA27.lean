/-
  Part 27 of the machine and of the contracts of functions of the program (packed).
-/
import Derived.Test.YtfiijelajgifiaaGreatA26
set_option linter.all false
set_option linter.defProp false
open Bool renaming false→aa,true→ab,and_eq_true→aTT,eq_iff_iff→aUp
open Int renaming ofNat→af,negSucc→aT2
open List renaming length_cons→aTV,length_append→aTW,mem_cons→aTZ,mem_cons_self→aT0,replicate→aT5,mem_cons_of_mem→aT8,length_nil→aUf,append_assoc→aUr
open Nat renaming blt→ah,beq→ai,log2→aj,ble→aTQ,blt_eq→aTR,le_refl→aTS,gcd→aTY,eq_of_beq_eq_true→aT1,zero_add→aUe,lt_of_le_of_lt→aUh
open Option renaming some→Z,none→U
namespace Go.Proofs.YtfiijelajgifiaaGreat
noncomputable section
open Go Go.Mach Go.Flow
set_option maxRecDepth 100000
set_option maxHeartbeats 4000000
section
variable {γ:Type}
def bd {α:Type}(x:Option α)(k:α→Option γ):Option γ:=match x with|some a=>k a|none=>U
def bB (b:Bool)(f t:Option γ):Option γ:=@Bool.rec (fun _=>Option γ) f t b
def nK (n:Nat)(k:Nat→Option γ):Option γ:=@Nat.rec (fun _=>Option γ) (k Nat.zero) (fun m _=>k (Nat.succ m)) n
def aV (n:Nat)(k:Nat→Option γ):nK n k=k n:=by cases n<;>rfl
@[simp] theorem lR (f t:Option γ):bB ab f t=t:=rfl
@[simp] theorem fj (f t:Option γ):bB aa f t=f:=rfl
def arB (a b:Nat)(k:Int→Option γ):Option γ:=bB (aTQ b a) (nK (Nat.sub b (Nat.succ a)) (fun m=>k (.negSucc m))) (nK (Nat.sub a b) (fun m=>k (.ofNat m)))
def anZ (a b:Nat)(k:Int→Option γ):arB a b k=k ((a:Int)-b):=by
 unfold arB
 simp only[aV]
 cases h:aTQ b a with
 |true=>
  rw[lR]
  have:=Nat.le_of_ble_eq_true h
  congr 1
  show((a-b:Nat):Int)=_
  omega
 |false=>
  rw[fj]
  have h1:¬b≤a:=fun hh=>by rw[Nat.ble_eq_true_of_le hh]at h;cases h
  congr 1
  rw[Int.negSucc_eq]
  show -(((b-(a+1):Nat):Int)+1)=_
  omega
def nnK (p:Nat)(k:Int→Option γ):Option γ:=@Nat.rec (fun _=>Option γ) (k (.ofNat Nat.zero)) (fun m _=>k (.negSucc m)) p
def ad4 (p:Nat)(k:Int→Option γ):nnK p k=k (-(p:Int)):=by
 cases p with
 |zero=>rfl
 |succ m=>rfl
def aez (x y:Int)(k:Int→Option γ):Option γ:=
 @Int.rec (fun _=>Option γ)
  (fun a=>@Int.rec (fun _=>Option γ) (fun b=>nK (Nat.add a b) (fun s=>k (.ofNat s))) (fun b=>arB a (Nat.succ b) k) y)
  (fun a=>@Int.rec (fun _=>Option γ) (fun b=>arB b (Nat.succ a) k) (fun b=>nK (Nat.succ (Nat.add a b)) (fun s=>k (.negSucc s))) y) x
def alJ (x y:Int)(k:Int→Option γ):aez x y k=k (x+y):=by
 cases x with
 |ofNat a=>
  cases y with
  |ofNat b=>unfold aez;dsimp only;rw[aV];rfl
  |negSucc b=>exact(anZ _ _ _).trans (congrArg k (by rw[Int.negSucc_eq];show(a:Int)-((b+1:Nat):Int)=(a:Int)+_;omega))
 |negSucc a=>
  cases y with
  |ofNat b=>exact(anZ _ _ _).trans (congrArg k (by rw[Int.negSucc_eq];show(b:Int)-((a+1:Nat):Int)=_+(b:Int);omega))
  |negSucc b=>unfold aez;dsimp only;rw[aV];rfl
def nH (x y:Int)(k:Int→Option γ):Option γ:=
 @Int.rec (fun _=>Option γ)
  (fun a=>@Int.rec (fun _=>Option γ) (fun b=>nK (Nat.mul a b) (fun s=>k (.ofNat s))) (fun b=>nnK (Nat.mul a (Nat.succ b)) k) y)
  (fun a=>@Int.rec (fun _=>Option γ) (fun b=>nnK (Nat.mul (Nat.succ a) b) k) (fun b=>nK (Nat.mul (Nat.succ a) (Nat.succ b)) (fun s=>k (.ofNat s))) y) x
def lm (x y:Int)(k:Int→Option γ):nH x y k=k (x*y):=by
 cases x with
 |ofNat a=>
  cases y with
  |ofNat b=>unfold nH;dsimp only;rw[aV];rfl
  |negSucc b=>exact(ad4 _ _).trans rfl
 |negSucc a=>
  cases y with
  |ofNat b=>exact(ad4 _ _).trans rfl
  |negSucc b=>unfold nH;dsimp only;rw[aV];rfl
def ar5 (x:Int)(k:Int→Option γ):Option γ:=@Int.rec (fun _=>Option γ) (fun a=>nnK a k) (fun a=>k (.ofNat (Nat.succ a))) x
def aBR (x:Int)(k:Int→Option γ):ar5 x k=k (-x):=by
 cases x with
 |ofNat a=>exact ad4 _ _
 |negSucc a=>rfl
def ab8 (n:Int)(d:Nat)(k:Q→Option γ):Option γ:=
 @Int.rec (fun _=>Option γ)
  (fun a=>nK (aTY a d) fun g=>bB (ai g 1) (nK (Nat.div a g) fun a'=>nK (Nat.div d g) fun d'=>k ⟨.ofNat a',d'⟩) (k ⟨.ofNat a,d⟩))
  (fun a=>nK (aTY (Nat.succ a) d) fun g=>bB (ai g 1) (nK (Nat.div d g) fun d'=>nnK (Nat.div (Nat.succ a) g) fun z=>k ⟨z,d'⟩) (k ⟨.negSucc a,d⟩)) n
def aaR (n:Int)(d:Nat)(k:Q→Option γ):ab8 n d k=k (Q.low n d):=by
 cases n with
 |ofNat a=>
  unfold ab8;dsimp only
  rw[aV]
  cases h:ai (aTY a d) 1 with
  |true=>
   have h1:=aT1 h
   rw[lR]
   congr 1
   unfold Q.low jz jy ap
   simp only[h1]
   congr 1
   ·show(a:Int)=(a:Int)/(1:Int);rw[Int.ediv_one]
   ·rw[Nat.div_one]
  |false=>
   rw[fj,aV,aV]
   rfl
 |negSucc a=>
  unfold ab8;dsimp only
  rw[aV]
  cases h:ai (aTY (Nat.succ a) d) 1 with
  |true=>
   have h1:=aT1 h
   rw[lR]
   congr 1
   unfold Q.low jz jy ap
   simp only[h1]
   congr 1
   ·show aT2 a=(aT2 a)/(1:Int);rw[Int.ediv_one]
   ·rw[Nat.div_one]
  |false=>
   rw[fj,aV,ad4]
   congr 1
   unfold Q.low jz jy ap
   congr 1
   show -((Nat.div (a+1) (aTY (a+1) d):Nat):Int)=(aT2 a)/((aTY (a+1) d:Nat):Int)
   obtain⟨c,hc⟩:=Nat.gcd_dvd_left (a+1) d
   have hg:0<aTY (a+1) d:=Nat.gcd_pos_of_pos_left _ (Nat.succ_pos a)
   generalize aTY (a+1) d=g at*
   have e1:Nat.div (a+1) g=c:=by show(a+1)/g=c;rw[hc,Nat.mul_div_cancel_left _ hg]
   have e2:aT2 a=(g:Int)*(-(c:Int)):=by
    rw[Int.negSucc_eq]
    have:((a:Int)+1)=(g:Int)*(c:Int):=by exact_mod_cast hc
    rw[this,Int.mul_neg]
   rw[e1,e2,Int.mul_ediv_cancel_left _ (by omega)]
def wO (a b:Q)(k:Q→Option γ):Option γ:=
 @Q.rec (fun _=>Option γ) (fun n1 d1=>@Q.rec (fun _=>Option γ) (fun n2 d2=>nK (Nat.mul d1 d2) fun D=>bB (ai D 1)
  (nH n1 (.ofNat d2) fun x=>nH n2 (.ofNat d1) fun y=>aez x y fun z=>ab8 z D k)
  (aez n1 n2 fun z=>k ⟨z,D⟩)) b) a
def avX (n:Int):Q.low n 1=⟨n,1⟩:=by
 unfold Q.low
 obtain⟨h1,h2⟩:=afa (n:=n) (d:=1) (Nat.gcd_one_right _)
 rw[h1,h2]
def ave {a b:Nat}(h:a*b=1):a=1∧b=1:=⟨Nat.eq_one_of_mul_eq_one_right h,Nat.eq_one_of_mul_eq_one_left h⟩
def acw (a b:Q)(k:Q→Option γ):wO a b k=k (a.add b):=by
 obtain⟨n1,d1⟩:=a
 obtain⟨n2,d2⟩:=b
 unfold wO;dsimp only
 rw[aV]
 cases h:ai (Nat.mul d1 d2) 1 with
 |true=>
  have h1:=aT1 h
  obtain⟨rfl,rfl⟩:=ave h1
  rw[lR,alJ]
  congr 1
  unfold Q.add
  dsimp only
  rw[show n1*af 1=n1 from Int.mul_one n1,show n2*af 1=n2 from Int.mul_one n2,Nat.mul_one,avX]
 |false=>
  rw[fj,lm,lm,alJ,aaR]
  rfl
def ahU (a b:Q)(k:Q→Option γ):Option γ:=
 @Q.rec (fun _=>Option γ) (fun n1 d1=>@Q.rec (fun _=>Option γ) (fun n2 d2=>nK (Nat.mul d1 d2) fun D=>nH n1 n2 fun z=>bB (ai D 1) (ab8 z D k) (k ⟨z,D⟩)) b) a
def akO (a b:Q)(k:Q→Option γ):ahU a b k=k (a.mul b):=by
 obtain⟨n1,d1⟩:=a
 obtain⟨n2,d2⟩:=b
 unfold ahU;dsimp only
 rw[aV,lm]
 cases h:ai (Nat.mul d1 d2) 1 with
 |true=>
  have h1:=aT1 h
  rw[lR]
  congr 1
  unfold Q.mul
  dsimp only
  rw[show d1*d2=1 from h1,avX,show Nat.mul d1 d2=1 from h1]
 |false=>
  rw[fj,aaR]
  rfl
def wP (a b:Q)(k:Q→Option γ):Option γ:=
 @Q.rec (fun _=>Option γ) (fun n1 d1=>@Q.rec (fun _=>Option γ) (fun n2 d2=>nH n1 (.ofNat d2) fun x=>nH (.ofNat d1) n2 fun m=>
  @Int.rec (fun _=>Option γ) (fun M=>ab8 x M k) (fun M=>ar5 x fun x'=>ab8 x' (Nat.succ M) k) m) b) a
def acx (a b:Q)(k:Q→Option γ):wP a b k=k (a.div b):=by
 obtain⟨n1,d1⟩:=a
 obtain⟨n2,d2⟩:=b
 unfold wP;dsimp only
 rw[lm,lm]
 unfold Q.div Q.ofI
 dsimp only
 generalize n1*af d2=x
 generalize af d1*n2=m
 cases m with
 |ofNat M=>exact aaR _ _ _
 |negSucc M=>
  show ar5 x _=_
  rw[aBR,aaR]
  rfl
def okK (a d:Nat)(y:Option γ):Option γ:=bB (aTQ 1000000 (aj a)) (bB (aTQ 1000000 (aj d)) (bB (ai d 0) y U) U) U
def ee (a b:Nat):ah a b=!aTQ b a:=by
 rw[aUp,aTR,Bool.not_eq_true',← Bool.not_eq_true,Nat.ble_eq]
 omega
def avA (a d:Nat)(y:Option γ):okK a d y=match Q.okB a d with|true=>y|false=>U:=by
 unfold okK Q.okB
 rw[ee,ee,ee]
 cases aTQ 1000000 (aj a)with
 |true=>rfl
 |false=>
  cases aTQ 1000000 (aj d)with
  |true=>rfl
  |false=>
   cases d with
   |zero=>rfl
   |succ d=>
    have:ai (d+1) 0=aa:=rfl
    have h2:aTQ (d+1) 0=aa:=rfl
    rw[this,h2]
    rfl
def aiw (z:Int)(k:Nat→Option γ):Option γ:=@Int.rec (fun _=>Option γ) (fun a=>k a) (fun a=>k (Nat.succ a)) z
def aeD (z:Int)(k:Nat→Option γ):aiw z k=k (ap z):=by cases z<;>rfl
def sY (z:Int)(y n:Option γ):Option γ:=@Int.rec (fun _=>Option γ) (fun a=>bB (ai a 0) n y) (fun _=>n) z
def rO (z:Int)(y n:Option γ):sY z y n=match co z 0 with|true=>y|false=>n:=by
 cases z with
 |ofNat a=>
  show bB (ai a 0) n y=match ai a 0 with|true=>y|false=>n
  cases ai a 0<;>rfl
 |negSucc a=>rfl
end
section
variable {γ:Type}
def abN (a b c d a' b' c' d':Nat)(g e l:Option γ):Option γ:=
 bB (ai d d') (bB (aTQ d d') g l) (bB (ai c c') (bB (aTQ c c') g l) (bB (ai b b') (bB (aTQ b b') g l) (bB (ai a a') (bB (aTQ a a') g l) e)))
def aoY (a b:Nat)(g l:Option γ)(h:ai a b=aa):bB (aTQ a b) g l=match ah b a with|true=>g|false=>l:=by
 rw[ee]
 cases aTQ a b<;>rfl
def aaj {a b:Nat}(h:ai a b=aa):ah a b=!ah b a:=by
 have hn:a≠b:=fun e=>by subst e;rw[Nat.beq_refl]at h;cases h
 rw[ee,ee]
 cases h1:aTQ b a with
 |true=>
  have:=Nat.le_of_ble_eq_true h1
  cases h2:aTQ a b with
  |true=>exact absurd (Nat.le_antisymm (Nat.le_of_ble_eq_true h2) this) hn
  |false=>rfl
 |false=>
  cases h2:aTQ a b with
  |true=>rfl
  |false=>
   have h3:¬b≤a:=fun hh=>by rw[Nat.ble_eq_true_of_le hh]at h1;cases h1
   have h4:¬a≤b:=fun hh=>by rw[Nat.ble_eq_true_of_le hh]at h2;cases h2
   omega
def sI (a b:Nat):ai a b=ai b a:=by
 rw[aUp,Nat.beq_eq,Nat.beq_eq]
 exact eq_comm
def aeM (a b c d a' b' c' d':Nat)(g e l:Option γ):abN a b c d a' b' c' d' g e l=match oW a b c d a' b' c' d' with|true=>g|false=>match oW a' b' c' d' a b c d with|true=>l|false=>e:=by
 unfold abN oW
 rw[sI d' d,sI c' c,sI b' b]
 cases hd:ai d d' with
 |false=>
  rw[fj,aoY _ _ _ _ hd]
  dsimp only
  rw[aaj hd]
  cases ah d' d<;>rfl
 |true=>
  rw[lR]
  dsimp only
  cases hc:ai c c' with
  |false=>
   rw[fj,aoY _ _ _ _ hc]
   dsimp only
   rw[aaj hc]
   cases ah c' c<;>rfl
  |true=>
   rw[lR]
   dsimp only
   cases hb:ai b b' with
   |false=>
    rw[fj,aoY _ _ _ _ hb]
    dsimp only
    rw[aaj hb]
    cases ah b' b<;>rfl
   |true=>
    rw[lR]
    dsimp only
    cases ha:ai a a' with
    |false=>
     rw[fj,aoY _ _ _ _ ha,aaj ha]
     cases ah a' a<;>rfl
    |true=>
     have:=aT1 ha
     subst this
     rw[lR,ee,Nat.ble_eq_true_of_le (aTS a)]
     rfl
def xv (m:Mn)(y:Option γ):Option γ:=
 @Mn.rec (fun _=>Option γ) (fun a b c d q=>bB (aTQ 1073741824 (Nat.lor (Nat.lor a b) (Nat.lor c d))) (@Q.rec (fun _=>Option γ) (fun n e=>aiw n fun x=>okK x e y) q) U) m
def ajz {a b n:Nat}:a ||| b<2 ^ n↔a<2 ^ n∧b<2 ^ n:=
 ⟨fun h=>⟨aUh Nat.left_le_or h,aUh Nat.right_le_or h⟩,fun h=>Nat.or_lt_two_pow h.1 h.2⟩
def aeZ (a b c d:Nat):uj a b c d=!aTQ 1073741824 (Nat.lor (Nat.lor a b) (Nat.lor c d)):=by
 rw[aUp,← ee,aTR]
 unfold uj
 simp only[aTT,aTR]
 show _↔(a ||| b) ||| (c ||| d)<2 ^ 30
 rw[ajz,ajz,ajz]
 show _↔(a<1073741824∧b<1073741824)∧(c<1073741824∧d<1073741824)
 constructor
 ·rintro⟨h1,h2,h3,h4⟩;exact⟨⟨h1,h2⟩,h3,h4⟩
 ·rintro⟨⟨h1,h2⟩,h3,h4⟩;exact⟨h1,h2,h3,h4⟩
def y4 (m:Mn)(y:Option γ):xv m y=match gS m with|true=>y|false=>U:=by
 obtain⟨a,b,c,d,n,e⟩:=m
 unfold xv gS
 dsimp only
 rw[aeZ]
 cases aTQ 1073741824 (Nat.lor (Nat.lor a b) (Nat.lor c d))with
 |true=>rfl
 |false=>
  rw[fj,aeD,avA]
  cases Q.okB (ap n) e<;>rfl
def azh (p:List Mn):Nat→Option γ→Option γ:=@List.rec Mn (fun _=>Nat→Option γ→Option γ) (fun _ y=>y) (fun m _ ih n y=>@Nat.rec (fun _=>Option γ) U (fun n' _=>xv m (ih n' y)) n) p
def anv:∀(p:List Mn) (n:Nat) (y:Option γ),azh p n y=match aTQ p.length n with|true=>(match afs p with|true=>y|false=>U)|false=>U
 |[],n,y=>by
  have:aTQ ([]:List Mn).length n=ab:=Nat.ble_eq_true_of_le (Nat.zero_le _)
  rw[this];rfl
 |m::p,0,y=>rfl
 |m::p,n+1,y=>by
  show xv m (azh p n y)=_
  rw[y4,anv p n y]
  have:aTQ (m::p).length (n+1)=aTQ p.length n:=rfl
  rw[this,afs]
  cases gS m<;>cases aTQ p.length n<;>rfl
def gE (p:List Mn)(y:Option γ):Option γ:=azh p 9999999 y
def fP (p:List Mn)(y:Option γ):gE p y=match dN p with|true=>y|false=>U:=by
 unfold gE dN
 rw[anv]
 have:aTQ p.length 9999999=ah p.length 10000000:=by
  rw[aUp,Nat.ble_eq,aTR];omega
 rw[this]
 cases ah p.length 10000000<;>rfl
def aIU (p:List Mn)(k:List Mn→Option γ):Option γ:=gE p (k p)
def amr (p:List Mn)(k:List Mn→Option γ):aIU p k=bd (fS p) k:=by
 unfold aIU fS
 rw[fP]
 cases dN p<;>rfl
def kL (p:List Mn):List Mn→(List Mn→Option γ)→Option γ:=
 @List.rec Mn (fun _=>List Mn→(List Mn→Option γ)→Option γ) (fun q k=>k q)
  (fun m p' ih q=>@List.rec Mn (fun _=>(List Mn→Option γ)→Option γ) (fun k=>k (m::p'))
   (fun c q' ih' k=>@Mn.rec (fun _=>Option γ) (fun a1 b1 c1 d1 x1=>@Mn.rec (fun _=>Option γ) (fun a2 b2 c2 d2 x2=>
    abN a1 b1 c1 d1 a2 b2 c2 d2 (ih (c::q') (fun r=>k (m::r)))
     (wO x1 x2 fun s=>sY s.n (ih q' k) (ih q' (fun r=>k (⟨a1,b1,c1,d1,s⟩::r))))
     (ih' (fun r=>k (c::r)))) c) m) q) p
def vH:∀(f:Nat) (p q:List Mn) (k:List Mn→Option γ),p.length+q.length≤f→kL p q k=k (iI f p q)
 |0,[],q,k,h=>by
  have:q=[]:=List.eq_nil_of_length_eq_zero (by simpa using h)
  subst this;rfl
 |0,m::p,q,k,h=>by simp at h
 |f+1,[],q,k,h=>by
  rw[iI]
  cases q<;>rfl
 |f+1,m::p,[],k,h=>by rw[iI];rfl
 |f+1,m::p,c::q,k,h=>by
  have h':p.length+q.length+1≤f:=by simp only[aTV]at h;omega
  have e1:=fun k=>vH f p (c::q) k (by simp only[aTV];omega)
  have e2:=fun k=>vH f p q k (by omega)
  have e3:=fun k=>vH f (m::p) q k (by simp only[aTV];omega)
  obtain⟨a1,b1,c1,d1,x1⟩:=m
  obtain⟨a2,b2,c2,d2,x2⟩:=c
  show abN a1 b1 c1 d1 a2 b2 c2 d2 (kL p (_::q) (fun r=>k (_::r))) (wO x1 x2 fun s=>sY s.n (kL p q k) (kL p q (fun r=>k (⟨a1,b1,c1,d1,s⟩::r)))) (kL (⟨a1,b1,c1,d1,x1⟩::p) q (fun r=>k (_::r)))=_
  rw[aeM,acw,rO,e1,e2,e2,e3,iI]
  dsimp only[aZ,Mn.with]
  cases oW a1 b1 c1 d1 a2 b2 c2 d2 with
  |true=>rfl
  |false=>
   dsimp only
   cases oW a2 b2 c2 d2 a1 b1 c1 d1 with
   |true=>rfl
   |false=>
    dsimp only
    cases co (x1.add x2).n 0<;>rfl
def qe (p q:List Mn)(k:List Mn→Option γ):kL p q k=k (jA p q):=vH _ p q k (aTS _)
def mmK (m x:Mn)(k:Mn→Option γ):Option γ:=
 @Mn.rec (fun _=>Option γ) (fun a1 b1 c1 d1 x1=>@Mn.rec (fun _=>Option γ) (fun a2 b2 c2 d2 x2=>nK (Nat.add a1 a2) fun a=>nK (Nat.add b1 b2) fun b=>nK (Nat.add c1 c2) fun c=>nK (Nat.add d1 d2) fun d=>ahU x1 x2 fun q=>k ⟨a,b,c,d,q⟩) x) m
def ajV (m x:Mn)(k:Mn→Option γ):mmK m x k=k (m.mul x):=by
 obtain⟨a1,b1,c1,d1,x1⟩:=m
 obtain⟨a2,b2,c2,d2,x2⟩:=x
 unfold mmK
 dsimp only
 rw[aV,aV,aV,aV,akO]
 rfl
def tmK (x:Mn)(p:List Mn):(List Mn→Option γ)→Option γ:=@List.rec Mn (fun _=>(List Mn→Option γ)→Option γ) (fun k=>k []) (fun m _ ih k=>mmK m x fun y=>ih (fun r=>k (y::r))) p
def awT (x:Mn):∀(p:List Mn) (k:List Mn→Option γ),tmK x p k=k (jp x p)
 |[],k=>rfl
 |m::p,k=>by
  show mmK m x (fun y=>tmK x p (fun r=>k (y::r)))=_
  rw[ajV,awT x p];rfl
def kK (p:List Mn)(x:Mn)(k:List Mn→Option γ):Option γ:=@Mn.rec (fun _=>Option γ) (fun a b c d q=>@Q.rec (fun _=>Option γ) (fun n e=>sY n (k []) (tmK ⟨a,b,c,d,⟨n,e⟩⟩ p k)) q) x
def lN (p:List Mn)(x:Mn)(k:List Mn→Option γ):kK p x k=k (cw p x):=by
 obtain⟨a,b,c,d,n,e⟩:=x
 unfold kK cw
 dsimp only
 rw[rO,awT]
 cases co n 0<;>rfl
def rJ (p:List Mn)(c:Q)(k:List Mn→Option γ):Option γ:=kK p ⟨0,0,0,0,c⟩ k
def zZ (p:List Mn)(c:Q)(k:List Mn→Option γ):rJ p c k=k (eG p c):=lN _ _ _
def pI (p q:List Mn)(k:List Mn→Option γ):Option γ:=kK q ⟨0,0,0,0,⟨.negSucc 0,1⟩⟩ fun t=>kL p t k
def rK (p q:List Mn)(k:List Mn→Option γ):pI p q k=k (fX p q):=by
 unfold pI
 rw[lN,qe]
 rfl
def aa7 (p q:List Mn)(k:List Mn→Option γ):Option γ:=pI p q fun r=>gE r (k r)
def alf (p q:List Mn)(k:List Mn→Option γ):aa7 p q k=bd (tC p q) k:=by
 unfold aa7 tC
 rw[rK,fP]
 cases dN (fX p q)<;>rfl
def mlK (p q:List Mn):List Mn→(List Mn→Option γ)→Option γ:=@List.rec Mn (fun _=>List Mn→(List Mn→Option γ)→Option γ) (fun o k=>k o) (fun m _ ih o k=>kK p m fun t=>gE t (kL o t fun s=>gE s (ih s k))) q
def au8 (p:List Mn):∀(q o:List Mn) (k:List Mn→Option γ),mlK p q o k=bd (mlO p q o) k
 |[],o,k=>rfl
 |m::q,o,k=>by
  show kK p m (fun t=>gE t (kL o t fun s=>gE s (mlK p q s k)))=_
  rw[lN,fP,qe,fP,au8 p q,mlO]
  cases dN (cw p m)with
  |false=>rfl
  |true=>
   dsimp only
   cases dN (jA o (cw p m))<;>rfl
def iW (p q:List Mn)(k:List Mn→Option γ):Option γ:=mlK p q [] k
def ik (p q:List Mn)(k:List Mn→Option γ):iW p q k=bd (cE p q) k:=au8 p q [] k
def aMA (v a b c d:Nat)(k:Nat→Option γ):Option γ:=@Nat.rec (fun _=>Option γ) (k a) (fun v _=>@Nat.rec (fun _=>Option γ) (k b) (fun v _=>@Nat.rec (fun _=>Option γ) (k c) (fun _ _=>k d) v) v) v
def aGF (v:Nat)(m:Mn)(k:Nat→Option γ):aMA v m.a m.b m.c m.d k=k (m.ex v):=by
 match v with
 |0=>rfl
 |1=>rfl
 |2=>rfl
 |v+3=>rfl
def exK (v:Nat)(m:Mn)(k:Nat→Option γ):Option γ:=@Mn.rec (fun _=>Option γ) (fun a b c d _=>aMA v a b c d k) m
def ai0 (v:Nat)(m:Mn)(k:Nat→Option γ):exK v m k=k (m.ex v):=aGF v m k
def ao8 (v:Nat)(p:List Mn):Nat→(Nat→Option γ)→Option γ:=@List.rec Mn (fun _=>Nat→(Nat→Option γ)→Option γ) (fun o k=>k o) (fun m _ ih o k=>exK v m fun e=>bB (aTQ o (Nat.succ e)) (ih o k) (nK (Nat.succ e) fun o'=>ih o' k)) p
def aeS (v:Nat):∀(p:List Mn) (o:Nat) (k:Nat→Option γ),ao8 v p o k=k (rZ v p o)
 |[],o,k=>rfl
 |m::p,o,k=>by
  show exK v m (fun e=>bB (aTQ o (Nat.succ e)) (ao8 v p o k) (nK (Nat.succ e) fun o'=>ao8 v p o' k))=_
  rw[ai0,aV,aeS v p,aeS v p,rZ]
  unfold mxN
  show bB (aTQ o (m.ex v+1)) _ _=_
  cases aTQ o (m.ex v+1)<;>rfl
def ei (v:Nat)(p:List Mn)(k:Nat→Option γ):Option γ:=ao8 v p Nat.zero k
def cj (v:Nat)(p:List Mn)(k:Nat→Option γ):ei v p k=k (dg v p):=aeS v p 0 k
def ar4 (v:Nat)(m:Mn)(k:Mn→Option γ):Option γ:=@Mn.rec (fun _=>Option γ) (fun a b c d q=>@Nat.rec (fun _=>Option γ) (k ⟨0,b,c,d,q⟩) (fun v _=>@Nat.rec (fun _=>Option γ) (k ⟨a,0,c,d,q⟩) (fun v _=>@Nat.rec (fun _=>Option γ) (k ⟨a,b,0,d,q⟩) (fun _ _=>k ⟨a,b,c,0,q⟩) v) v) v) m
def aBQ (v:Nat)(m:Mn)(k:Mn→Option γ):ar4 v m k=k (m.zero v):=by
 match v with
 |0=>rfl
 |1=>rfl
 |2=>rfl
 |v+3=>rfl
def cfK (v n:Nat)(p:List Mn):(List Mn→Option γ)→Option γ:=@List.rec Mn (fun _=>(List Mn→Option γ)→Option γ) (fun k=>k []) (fun m _ ih k=>exK v m fun e=>bB (ai e n) (ih k) (ar4 v m fun y=>ih (fun r=>k (y::r)))) p
def xY (v n:Nat):∀(p:List Mn) (k:List Mn→Option γ),cfK v n p k=k (fD v n p)
 |[],k=>rfl
 |m::p,k=>by
  show exK v m (fun e=>bB (ai e n) (cfK v n p k) (ar4 v m fun y=>cfK v n p (fun r=>k (y::r))))=_
  rw[ai0,aBQ,xY v n p,xY v n p,fD]
  cases ai (m.ex v) n<;>rfl
def axs (v:Nat)(p:List Mn)(j:Nat):Nat→(List (List Mn)→Option γ)→Option γ:=@Nat.rec (fun _=>Nat→(List (List Mn)→Option γ)→Option γ) (fun _ k=>k []) (fun _ ih n k=>cfK v n p fun c=>nK (Nat.succ n) fun n'=>ih n' (fun l=>k (c::l))) j
def amp (v:Nat)(p:List Mn):∀(j n:Nat) (k:List (List Mn)→Option γ),axs v p j n k=k (kj v p j n)
 |0,n,k=>rfl
 |j+1,n,k=>by
  show cfK v n p (fun c=>nK (Nat.succ n) fun n'=>axs v p j n' (fun l=>k (c::l)))=_
  rw[xY,aV,amp v p j];rfl
def mR (v:Nat)(p:List Mn)(k:List (List Mn)→Option γ):Option γ:=ei v p fun n=>axs v p n Nat.zero k
def lS (v:Nat)(p:List Mn)(k:List (List Mn)→Option γ):mR v p k=k (aS v p):=by
 unfold mR
 rw[cj,amp];rfl
end
def mS (m k:Mn):bp m k=ab↔m.a=k.a∧m.b=k.b∧m.c=k.c∧m.d=k.d:=by
 unfold bp tY
 cases h1:ai m.a k.a with
 |false=>simp only[Bool.false_eq_true,false_iff];rintro⟨e,_⟩;rw[e,Nat.beq_refl]at h1;cases h1
 |true=>
  cases h2:ai m.b k.b with
  |false=>simp only[Bool.false_eq_true,false_iff];rintro⟨_,e,_⟩;rw[e,Nat.beq_refl]at h2;cases h2
  |true=>
   cases h3:ai m.c k.c with
   |false=>simp only[Bool.false_eq_true,false_iff];rintro⟨_,_,e,_⟩;rw[e,Nat.beq_refl]at h3;cases h3
   |true=>
    simp only[Nat.beq_eq]
    exact⟨fun e=>⟨aT1 h1,aT1 h2,aT1 h3,e⟩,fun e=>e.2.2.2⟩
def pQ {m k:Mn}:bp m k=aa↔¬(m.a=k.a∧m.b=k.b∧m.c=k.c∧m.d=k.d):=by
 rw[← mS,Bool.not_eq_true]
def adq {m k:Mn}(h:aZ m k=ab):bp m k=aa:=by
 rw[pQ];rw[jg]at h;omega
def aJG {m k:Mn}(h:aZ m k=ab):bp k m=aa:=by
 rw[pQ];rw[jg]at h;omega
def aOw {m k:Mn}(h:aZ m k=aa)(h':aZ k m=aa):bp m k=ab:=by
 rw[mS];rw[uq]at h h';omega
abbrev DK (l:List Mn):Prop:=l.Pairwise fun x y=>bp x y=aa
def axJ {x y:Mn}(h:bp x y=aa):bp y x=aa:=by rw[pQ]at *;omega
def DK.perm {l l':List Mn}(h:DK l)(hp:l.Perm l'):DK l':=(List.Perm.pairwise_iff (fun h=>axJ h) hp).1 h
def Dsc.dk {l:List Mn}(h:Dsc l):DK l:=h.imp adq
def mN {y:Mn}:∀{a:List Mn},(∀k∈a,bp k y=aa)→lu y a=Z (a++[y])
 |[],_=>rfl
 |k::a,h=>by
  rw[lu,h k aT0,mN (fun j hj=>h j (aT8 _ hj))];rfl
def xN {y k:Mn}{a2:List Mn}(hk:bp k y=ab)(ho:Q.okB (ap (k.q.add y.q).n) (k.q.add y.q).d=ab):∀{a0:List Mn},(∀j∈a0,bp j y=aa)→lu y (a0++k::a2)=Z (a0++y.with (k.q.add y.q)::a2)
 |[],_=>by rw[List.nil_append,lu,hk,ho];rfl
 |j::a0,h=>by
  rw[List.cons_append,lu,h j aT0,xN hk ho (fun j hj=>h j (aT8 _ hj))];rfl
def aeF {y k:Mn}{a2:List Mn}(hk:bp k y=ab)(ho:Q.okB (ap (k.q.add y.q).n) (k.q.add y.q).d=aa):∀{a0:List Mn},(∀j∈a0,bp j y=aa)→lu y (a0++k::a2)=U
 |[],_=>by rw[List.nil_append,lu,hk,ho]
 |j::a0,h=>by
  rw[List.cons_append,lu,h j aT0,aeF hk ho (fun j hj=>h j (aT8 _ hj))]
def aEv {j k y:Mn}(hj:bp j k=aa)(hk:bp k y=ab):bp j y=aa:=by
 rw[pQ]at *;rw[mS]at hk;omega
def wY {a:List Mn}{k y:Mn}(hd:DK a)(hk:k∈a)(he:bp k y=ab):∃a0 a2,a=a0++k::a2∧∀j∈a0,bp j y=aa:=by
 obtain⟨a0,a2,rfl⟩:=List.append_of_mem hk
 refine⟨a0,a2,rfl,fun j hj=>?_⟩
 have h1:=(List.pairwise_append.1 hd).2.2 j hj k aT0
 exact aEv h1 he
def axe {a a1 b1:List Mn}{m y:Mn}(hd:DK a)(hp:a.Perm (m::a1))(hm:bp m y=aa)(h:lu y a1=Z b1):∃b,lu y a=Z b∧b.Perm (m::b1):=by
 have hd1:DK (m::a1):=hd.perm hp
 have hd2:DK a1:=(List.pairwise_cons.1 hd1).2
 by_cases hx:∃k∈a1,bp k y=ab
 ·obtain⟨k,hk,he⟩:=hx
  obtain⟨a0,a2,rfl,h0⟩:=wY hd2 hk he
  obtain⟨c0,c2,rfl,h1⟩:=wY hd (hp.mem_iff.2 (aT8 _ hk)) he
  cases ho:Q.okB (ap (k.q.add y.q).n) (k.q.add y.q).d with
  |false=>rw[aeF he ho h0]at h;cases h
  |true=>
   rw[xN he ho h0]at h
   cases h
   refine⟨_,xN he ho h1,?_⟩
   have p1:(c0++c2).Perm (m::(a0++a2)):=by
    have q1:(k::(c0++c2)).Perm (k::(m::(a0++a2))):=
     (List.perm_middle.symm.trans hp).trans ((List.Perm.cons m List.perm_middle).trans (List.Perm.swap k m _))
    exact q1.cons_inv
   exact List.perm_middle.trans ((p1.cons _).trans ((List.Perm.swap m _ _).trans (List.Perm.cons m List.perm_middle.symm)))
 ·have h1:∀k∈a1,bp k y=aa:=fun k hk=>by
   cases e:bp k y with
   |false=>rfl
   |true=>exact absurd ⟨k,hk,e⟩ hx
  rw[mN h1]at h
  cases h
  refine⟨_,mN (fun k hk=>?_),?_⟩
  ·rcases aTZ.1 (hp.mem_iff.1 hk)with rfl|hk
   ·exact hm
   ·exact h1 k hk
  ·exact(hp.append_right [y])
def aiy {a b:List Mn}{y:Mn}(hd:DK a)(h:lu y a=Z b):DK b:=by
 by_cases hx:∃k∈a,bp k y=ab
 ·obtain⟨k,hk,he⟩:=hx
  obtain⟨a0,a2,rfl,h0⟩:=wY hd hk he
  cases ho:Q.okB (ap (k.q.add y.q).n) (k.q.add y.q).d with
  |false=>rw[aeF he ho h0]at h;cases h
  |true=>
   rw[xN he ho h0]at h
   cases h
   have e2:=(mS k y).1 he
   have h1:=List.pairwise_append.1 hd
   have h2:=List.pairwise_cons.1 h1.2.1
   refine List.pairwise_append.2 ⟨h1.1,List.pairwise_cons.2 ⟨fun j hj=>?_,h2.2⟩,fun i hi j hj=>?_⟩
   ·have:=h2.1 j hj
    rw[pQ]at*
    show ¬(y.a=j.a∧y.b=j.b∧y.c=j.c∧y.d=j.d)
    omega
   ·rcases aTZ.1 hj with rfl|hj
    ·have:=h1.2.2 i hi k aT0
     rw[pQ]at*
     show ¬(i.a=y.a∧i.b=y.b∧i.c=y.c∧i.d=y.d)
     omega
    ·exact h1.2.2 i hi j (aT8 _ hj)
 ·have h1:∀k∈a,bp k y=aa:=fun k hk=>by
   cases e:bp k y with
   |false=>rfl
   |true=>exact absurd ⟨k,hk,e⟩ hx
  rw[mN h1]at h
  cases h
  exact List.pairwise_append.2 ⟨hd,List.pairwise_singleton _ _,fun i hi j hj=>by
   rcases aTZ.1 hj with rfl|hj
   ·exact h1 i hi
   ·cases hj⟩
def lQ:List Mn→List Mn→Option (List Mn)
 |[],a=>Z a
 |y::R,a=>match lu y a with
  |some b=>lQ R b
  |none=>U
def vF {m:Mn}:∀{R a a1 b1:List Mn},DK a→a.Perm (m::a1)→(∀y∈R,bp m y=aa)→lQ R a1=Z b1→∃b,lQ R a=Z b∧b.Perm (m::b1)
 |[],a,a1,b1,hd,hp,_,h=>by rw[lQ]at h;cases h;exact⟨a,rfl,hp⟩
 |y::R,a,a1,b1,hd,hp,hm,h=>by
  rw[lQ]at h
  split at h
  ·rename_i c1 hc
   obtain⟨c,h1,h2⟩:=axe hd hp (hm y aT0) hc
   obtain⟨b,h3,h4⟩:=vF (aiy hd h1) h2 (fun z hz=>hm z (aT8 _ hz)) h
   exact⟨b,by rw[lQ,h1];exact h3,h4⟩
  ·cases h
def aeG:∀{R a:List Mn},Dsc R→(∀y∈R,∀k∈a,bp k y=aa)→lQ R a=Z (a++R)
 |[],a,_,_=>by rw[lQ,List.append_nil]
 |y::R,a,hd,h=>by
  rw[lQ,mN (h y aT0)]
  have h1:=List.pairwise_cons.1 hd
  show lQ R (a++[y])=_
  rw[aeG h1.2 (fun z hz k hk=>by
   rcases List.mem_append.1 hk with hk|hk
   ·exact h z (aT8 _ hz) k hk
   ·rcases aTZ.1 hk with rfl|hk
    ·exact adq (h1.1 z hz)
    ·cases hk),aUr];rfl
def mI:Nat→List Mn→List Mn→Option (List Mn)
 |0,_,_=>U
 |f+1,o,R=>match o with
  |[]=>Z R
  |m::o'=>match R with
   |[]=>Z o
   |k::R'=>match aZ m k with
    |true=>(match mI f o' R with|some r=>Z (m::r)|none=>U)
    |false=>match aZ k m with
     |true=>(match mI f o R' with|some r=>Z (k::r)|none=>U)
     |false=>match Q.okB (ap (m.q.add k.q).n) (m.q.add k.q).d with
      |true=>(match mI f o' R' with|some r=>Z (m.with (m.q.add k.q)::r)|none=>U)
      |false=>U
def uS {x:Mn}:∀{f:Nat} {o R r:List Mn},mI f o R=Z r→(∀y∈o,aZ x y=ab)→(∀y∈R,aZ x y=ab)→∀y∈r,aZ x y=ab
 |0,o,R,r,h,_,_=>by cases h
 |f+1,o,R,r,h,ho,hR=>by
  unfold mI at h
  split at h
  ·cases h;exact hR
  rename_i m o'
  split at h
  ·cases h;exact ho
  rename_i k R'
  have ho':=fun y hy=>ho y (aT8 _ hy)
  have hR':=fun y hy=>hR y (aT8 _ hy)
  split at h
  ·split at h
   ·rename_i r' e
    cases h
    intro y hy
    rcases aTZ.1 hy with rfl|hy
    ·exact ho _ aT0
    ·exact uS e ho' hR y hy
   ·cases h
  split at h
  ·split at h
   ·rename_i r' e
    cases h
    intro y hy
    rcases aTZ.1 hy with rfl|hy
    ·exact hR _ aT0
    ·exact uS e ho hR' y hy
   ·cases h
  split at h
  ·split at h
   ·rename_i r' e
    cases h
    intro y hy
    rcases aTZ.1 hy with rfl|hy
    ·have:=ho m aT0
     rw[jg]at*
     exact this
    ·exact uS e ho' hR' y hy
   ·cases h
  ·cases h
def y6:∀{f:Nat} {o R r:List Mn},Dsc o→Dsc R→mI f o R=Z r→Dsc r∧∀a,a.Perm o→∃b,lQ R a=Z b∧b.Perm r
 |0,o,R,r,_,_,h=>by cases h
 |f+1,o,R,r,ho,hR,h=>by
  unfold mI at h
  split at h
  ·cases h
   refine⟨hR,fun a ha=>?_⟩
   cases ha.eq_nil
   exact⟨_,aeG hR (fun y _ k hk=>by cases hk),.refl _⟩
  rename_i m o'
  split at h
  ·cases h
   exact⟨ho,fun a ha=>⟨a,rfl,ha⟩⟩
  rename_i k R'
  have ho1:=List.pairwise_cons.1 ho
  have hR1:=List.pairwise_cons.1 hR
  split at h
  ·rename_i hmk
   split at h
   ·rename_i r' e
    cases h
    obtain⟨d1,p1⟩:=y6 ho1.2 hR e
    have hgt:∀y∈k::R',aZ m y=ab:=fun y hy=>by
     rcases aTZ.1 hy with rfl|hy
     ·exact hmk
     ·exact ahE hmk (hR1.1 y hy)
    refine⟨List.pairwise_cons.2 ⟨uS e ho1.1 hgt,d1⟩,fun a ha=>?_⟩
    obtain⟨b,h1,h2⟩:=p1 o' (.refl _)
    obtain⟨c,h3,h4⟩:=vF (m:=m) (ho.dk.perm ha.symm) ha (fun y hy=>adq (hgt y hy)) h1
    exact⟨c,h3,h4.trans (h2.cons m)⟩
   ·cases h
  rename_i hmk
  split at h
  ·rename_i hkm
   split at h
   ·rename_i r' e
    cases h
    obtain⟨d1,p1⟩:=y6 ho hR1.2 e
    have hgt:∀y∈m::o',aZ k y=ab:=fun y hy=>by
     rcases aTZ.1 hy with rfl|hy
     ·exact hkm
     ·exact ahE hkm (ho1.1 y hy)
    refine⟨List.pairwise_cons.2 ⟨uS e hgt hR1.1,d1⟩,fun a ha=>?_⟩
    have hnew:∀j∈a,bp j k=aa:=fun j hj=>aJG (hgt j (ha.mem_iff.1 hj))
    have hda:DK a:=ho.dk.perm ha.symm
    obtain⟨b,h1,h2⟩:=p1 a ha
    obtain⟨c,h3,h4⟩:=vF (m:=k) (a:=a++[k]) (aiy hda (mN hnew)) (List.perm_append_singleton k a) (fun y hy=>adq (hR1.1 y hy)) h1
    exact⟨c,by rw[lQ,mN hnew];exact h3,h4.trans (h2.cons k)⟩
   ·cases h
  rename_i hkm
  have heq:=aOw hmk hkm
  have hew:=(mS m k).1 heq
  have hwith:m.with (m.q.add k.q)=k.with (m.q.add k.q):=by unfold Mn.with;rw[hew.1,hew.2.1,hew.2.2.1,hew.2.2.2]
  split at h
  ·rename_i hok
   split at h
   ·rename_i r' e
    cases h
    obtain⟨d1,p1⟩:=y6 ho1.2 hR1.2 e
    have g1:∀y∈o',aZ (m.with (m.q.add k.q)) y=ab:=fun y hy=>by have:=ho1.1 y hy;rw[jg]at *;exact this
    have g2:∀y∈R',aZ (m.with (m.q.add k.q)) y=ab:=fun y hy=>by rw[hwith];have:=hR1.1 y hy;rw[jg]at *;exact this
    refine⟨List.pairwise_cons.2 ⟨uS e g1 g2,d1⟩,fun a ha=>?_⟩
    have hda:DK a:=ho.dk.perm ha.symm
    obtain⟨a0,a2,rfl,h0⟩:=wY hda (ha.mem_iff.2 aT0) heq
    have hp:(a0++a2).Perm o':=(List.perm_middle.symm.trans ha).cons_inv
    have hadd:=xN (a2:=a2) heq hok h0
    obtain⟨b,h1,h2⟩:=p1 o' (.refl _)
    obtain⟨c,h3,h4⟩:=vF (m:=k.with (m.q.add k.q)) (aiy hda hadd) (List.perm_middle.trans (hp.cons _)) (fun y hy=>by rw[← hwith];exact adq (g2 y hy)) h1
    exact⟨c,by rw[lQ,hadd];exact h3,by rw[hwith];exact h4.trans (h2.cons _)⟩
   ·cases h
  ·cases h
def xy (x:Mn):List Mn→Option (List Mn)
 |[]=>Z []
 |y::q=>match gS (x.mul y)with
  |true=>(match xy x q with|some r=>Z (x.mul y::r)|none=>U)
  |false=>U
def anx {x:Mn}:∀{q R:List Mn} (o:List Mn),xy x q=Z R→sD x q o=lQ R o
 |[],R,o,h=>by rw[xy]at h;cases h;rfl
 |y::q,R,o,h=>by
  rw[xy]at h
  split at h
  ·rename_i g
   split at h
   ·rename_i r e
    cases h
    rw[sD,g,lQ]
    dsimp only
    cases lu (x.mul y) o with
    |none=>rfl
    |some o'=>exact anx o' e
   ·cases h
  ·cases h
def aKI {x y z:Mn}(h:aZ y z=ab):aZ (x.mul y) (x.mul z)=ab:=by
 rw[jg]at*
 show x.d+z.d<x.d+y.d∨(x.d+y.d=x.d+z.d∧(x.c+z.c<x.c+y.c∨(x.c+y.c=x.c+z.c∧(x.b+z.b<x.b+y.b∨(x.b+y.b=x.b+z.b∧x.a+z.a<x.a+y.a)))))
 omega
def anw {x:Mn}:∀{q R:List Mn},Dsc q→xy x q=Z R→Dsc R∧∀r∈R,∃y∈q,r=x.mul y
 |[],R,_,h=>by rw[xy]at h;cases h;exact⟨.nil,fun r hr=>by cases hr⟩
 |y::q,R,hd,h=>by
  rw[xy]at h
  split at h
  ·split at h
   ·rename_i r e
    cases h
    have h1:=List.pairwise_cons.1 hd
    obtain⟨h2,h3⟩:=anw h1.2 e
    refine⟨List.pairwise_cons.2 ⟨fun z hz=>?_,h2⟩,fun z hz=>?_⟩
    ·obtain⟨w,hw,rfl⟩:=h3 z hz
     exact aKI (h1.1 w hw)
    ·rcases aTZ.1 hz with rfl|hz
     ·exact⟨y,aT0,rfl⟩
     ·obtain⟨w,hw,rfl⟩:=h3 z hz
      exact⟨w,aT8 _ hw,rfl⟩
   ·cases h
  ·cases h
def muS (q:List Mn):List Mn→List Mn→Option (List Mn)
 |[],o=>Z o
 |x::p,o=>match xy x q with
  |none=>U
  |some R=>match mI (o.length+R.length+1) o R with
   |some o'=>muS q p o'
   |none=>U
def avd {q:List Mn}(hq:Dsc q):∀{p o O:List Mn},Dsc o→muS q p o=Z O→Dsc O∧∀a,a.Perm o→∃A,qR q p a=Z A∧A.Perm O
 |[],o,O,ho,h=>by rw[muS]at h;cases h;exact⟨ho,fun a ha=>⟨a,rfl,ha⟩⟩
 |x::p,o,O,ho,h=>by
  rw[muS]at h
  split at h
  ·cases h
  rename_i R hR
  split at h
  ·rename_i o' e
   obtain⟨h1,h2⟩:=y6 ho (anw hq hR).1 e
   obtain⟨h3,h4⟩:=avd hq h1 h
   refine⟨h3,fun a ha=>?_⟩
   obtain⟨b,h5,h6⟩:=h2 a ha
   obtain⟨A,h7,h8⟩:=h4 b h6
   exact⟨A,by rw[qR,anx a hR,h5];exact h7,h8⟩
  ·cases h
def xw (y:Mn):List Mn→Option (List Mn)
 |[]=>Z []
 |x::p=>match gS (x.mul y)with
  |true=>(match xw y p with|some r=>Z (x.mul y::r)|none=>U)
  |false=>U
def aFt {x y z:Mn}(h:aZ y z=ab):aZ (y.mul x) (z.mul x)=ab:=by
 rw[jg]at*
 show z.d+x.d<y.d+x.d∨(y.d+x.d=z.d+x.d∧(z.c+x.c<y.c+x.c∨(y.c+x.c=z.c+x.c∧(z.b+x.b<y.b+x.b∨(y.b+x.b=z.b+x.b∧z.a+x.a<y.a+x.a)))))
 omega
def anf {y:Mn}:∀{p R:List Mn},Dsc p→xw y p=Z R→Dsc R∧∀r∈R,∃x∈p,r=x.mul y
 |[],R,_,h=>by rw[xw]at h;cases h;exact⟨.nil,fun r hr=>by cases hr⟩
 |x::p,R,hd,h=>by
  rw[xw]at h
  split at h
  ·split at h
   ·rename_i r e
    cases h
    have h1:=List.pairwise_cons.1 hd
    obtain⟨h2,h3⟩:=anf h1.2 e
    refine⟨List.pairwise_cons.2 ⟨fun z hz=>?_,h2⟩,fun z hz=>?_⟩
    ·obtain⟨w,hw,rfl⟩:=h3 z hz
     exact aFt (h1.1 w hw)
    ·rcases aTZ.1 hz with rfl|hz
     ·exact⟨x,aT0,rfl⟩
     ·obtain⟨w,hw,rfl⟩:=h3 z hz
      exact⟨w,aT8 _ hw,rfl⟩
   ·cases h
  ·cases h
def ang {y:Mn}:∀{p R:List Mn} (o:List Mn),xw y p=Z R→qR [y] p o=lQ R o
 |[],R,o,h=>by rw[xw]at h;cases h;rfl
 |x::p,R,o,h=>by
  rw[xw]at h
  split at h
  ·rename_i g
   split at h
   ·rename_i r e
    cases h
    rw[qR,sD,g,lQ]
    dsimp only
    cases lu (x.mul y) o with
    |none=>rfl
    |some o'=>exact ang o' e
   ·cases h
  ·cases h
def am8:∀(p o:List Mn),qR [] p o=Z o
 |[],_=>rfl
 |x::p,o=>by rw[qR,sD];exact am8 p o
def afk (p q:List Mn):Option (List Mn):=match q with
 |[]=>Z []
 |y::q'=>match q' with
  |[]=>(match cx p with|true=>xw y p|false=>U)
  |z::q2=>match cx (y::z::q2)with|true=>muS (y::z::q2) p []|false=>U
def td:∀{l:List Mn},Dsc l→cx l=ab
 |[],_=>rfl
 |[m],_=>rfl
 |m::k::r,h=>by
  have h1:=List.pairwise_cons.1 h
  unfold cx
  dsimp only
  rw[h1.1 k aT0]
  exact td h1.2
def aFr {p q O:List Mn}(h:afk p q=Z O):Dsc O∧∃A,qR q p []=Z A∧A.Perm O:=by
 unfold afk at h
 split at h
 ·cases h;exact⟨.nil,[],am8 p [],.refl _⟩
 split at h
 ·rename_i y
  split at h
  ·rename_i g
   obtain⟨h1,h2⟩:=anf (jt g) h
   refine⟨h1,O,?_,.refl _⟩
   rw[ang [] h,aeG h1 (fun y _ k hk=>by cases hk)];rfl
  ·cases h
 ·split at h
  ·rename_i g
   obtain⟨h1,h2⟩:=avd (jt g) .nil h
   exact⟨h1,h2 [] (.refl _)⟩
  ·cases h
def anh {p q O:List Mn}(h:afk p q=Z O):br p q=match ah O.length 10000000 with|true=>Z (fA O)|false=>U:=by
 obtain⟨hd,A,hA,hp⟩:=aFr h
 have hn:Dsc (fA O):=by rw[i6];exact hd.filter _
 have h1:cu (fA A)=fA O:=nQ hn ((fg _).trans (acn hp)) (pH _)
 unfold br
 rw[hA]
 dsimp only
 rw[hp.length_eq,h1,td hn]
 cases ah O.length 10000000<;>rfl
section
variable {γ:Type}
def okE (a d:Nat)(y e:Option γ):Option γ:=bB (aTQ 1000000 (aj a)) (bB (aTQ 1000000 (aj d)) (bB (ai d 0) y e) e) e
def avy (a d:Nat)(y e:Option γ):okE a d y e=match Q.okB a d with|true=>y|false=>e:=by
 unfold okE Q.okB
 rw[ee,ee,ee]
 cases aTQ 1000000 (aj a)with
 |true=>rfl
 |false=>
  cases aTQ 1000000 (aj d)with
  |true=>rfl
  |false=>
   cases d with
   |zero=>rfl
   |succ d=>
    have:ai (d+1) 0=aa:=rfl
    have h2:aTQ (d+1) 0=aa:=rfl
    rw[this,h2]
    rfl
def mfE (m:Mn)(y e:Option γ):Option γ:=
 @Mn.rec (fun _=>Option γ) (fun a b c d q=>bB (aTQ 1073741824 (Nat.lor (Nat.lor a b) (Nat.lor c d))) (@Q.rec (fun _=>Option γ) (fun n f=>aiw n fun x=>okE x f y e) q) e) m
def ajQ (m:Mn)(y e:Option γ):mfE m y e=match gS m with|true=>y|false=>e:=by
 obtain⟨a,b,c,d,n,f⟩:=m
 unfold mfE gS
 dsimp only
 rw[aeZ]
 cases aTQ 1073741824 (Nat.lor (Nat.lor a b) (Nat.lor c d))with
 |true=>rfl
 |false=>
  rw[fj,aeD,avy]
  cases Q.okB (ap n) f<;>rfl
def grK (m k:Mn)(y n:Option γ):Option γ:=@Mn.rec (fun _=>Option γ) (fun a1 b1 c1 d1 _=>@Mn.rec (fun _=>Option γ) (fun a2 b2 c2 d2 _=>abN a1 b1 c1 d1 a2 b2 c2 d2 y n n) k) m
def aJE (m k:Mn)(y n:Option γ):grK m k y n=match aZ m k with|true=>y|false=>n:=by
 obtain⟨a1,b1,c1,d1,x1⟩:=m
 obtain⟨a2,b2,c2,d2,x2⟩:=k
 unfold grK
 dsimp only
 rw[aeM]
 dsimp only[aZ]
 cases oW a1 b1 c1 d1 a2 b2 c2 d2 with
 |true=>rfl
 |false=>cases oW a2 b2 c2 d2 a1 b1 c1 d1<;>rfl
def aBb (l:List Mn):Mn→Option γ→Option γ→Option γ:=@List.rec Mn (fun _=>Mn→Option γ→Option γ→Option γ) (fun _ y _=>y) (fun k _ ih m y n=>grK m k (ih k y n) n) l
def anV:∀(l:List Mn) (m:Mn) (y n:Option γ),aBb l m y n=match cx (m::l)with|true=>y|false=>n
 |[],m,y,n=>rfl
 |k::l,m,y,n=>by
  show grK m k (aBb l k y n) n=_
  rw[aJE,anV l k]
  have:cx (m::k::l)=match aZ m k with|true=>cx (k::l)|false=>aa:=rfl
  rw[this]
  cases aZ m k<;>rfl
def sdK (l:List Mn)(y n:Option γ):Option γ:=@List.rec Mn (fun _=>Option γ) y (fun m l' _=>aBb l' m y n) l
def ak2 (l:List Mn)(y n:Option γ):sdK l y n=match cx l with|true=>y|false=>n:=by
 cases l with
 |nil=>rfl
 |cons m l=>exact anV l m y n
def mgK (p:List Mn):List Mn→(List Mn→Option γ)→Option γ→Option γ:=
 @List.rec Mn (fun _=>List Mn→(List Mn→Option γ)→Option γ→Option γ) (fun q k _=>k q)
  (fun m p' ih q=>@List.rec Mn (fun _=>(List Mn→Option γ)→Option γ→Option γ) (fun k _=>k (m::p'))
   (fun c q' ih' k e=>@Mn.rec (fun _=>Option γ) (fun a1 b1 c1 d1 x1=>@Mn.rec (fun _=>Option γ) (fun a2 b2 c2 d2 x2=>
    abN a1 b1 c1 d1 a2 b2 c2 d2 (ih (c::q') (fun r=>k (m::r)) e)
     (wO x1 x2 fun s=>aiw s.n fun x=>okE x s.d (ih q' (fun r=>k (⟨a1,b1,c1,d1,s⟩::r)) e) e)
     (ih' (fun r=>k (c::r)) e)) c) m) q) p
def y7:∀(f:Nat) (p q:List Mn) (k:List Mn→Option γ) (e:Option γ),p.length+q.length+1≤f→mgK p q k e=match mI f p q with|some r=>k r|none=>e
 |0,p,q,k,e,h=>by omega
 |f+1,[],q,k,e,h=>by rw[mI];rfl
 |f+1,m::p,[],k,e,h=>by rw[mI];rfl
 |f+1,m::p,c::q,k,e,h=>by
  have h':p.length+q.length+2≤f:=by simp only[aTV]at h;omega
  have e1:=fun k=>y7 f p (c::q) k e (by simp only[aTV];omega)
  have e2:=fun k=>y7 f p q k e (by omega)
  have e3:=fun k=>y7 f (m::p) q k e (by simp only[aTV];omega)
  obtain⟨a1,b1,c1,d1,x1⟩:=m
  obtain⟨a2,b2,c2,d2,x2⟩:=c
  show abN a1 b1 c1 d1 a2 b2 c2 d2 (mgK p (_::q) (fun r=>k (_::r)) e) (wO x1 x2 fun s=>aiw s.n fun x=>okE x s.d (mgK p q (fun r=>k (⟨a1,b1,c1,d1,s⟩::r)) e) e) (mgK (⟨a1,b1,c1,d1,x1⟩::p) q (fun r=>k (_::r)) e)=_
  rw[aeM,acw,aeD,avy,e1,e2,e3,mI]
  dsimp only[aZ,Mn.with]
  cases oW a1 b1 c1 d1 a2 b2 c2 d2 with
  |true=>dsimp only;cases mI f p (⟨a2,b2,c2,d2,x2⟩::q)<;>rfl
  |false=>
   dsimp only
   cases oW a2 b2 c2 d2 a1 b1 c1 d1 with
   |true=>dsimp only;cases mI f (⟨a1,b1,c1,d1,x1⟩::p) q<;>rfl
   |false=>
    dsimp only
    cases Q.okB (ap (x1.add x2).n) (x1.add x2).d with
    |true=>dsimp only;cases mI f p q<;>rfl
    |false=>rfl
def prK (x:Mn)(q:List Mn):(List Mn→Option γ)→Option γ→Option γ:=@List.rec Mn (fun _=>(List Mn→Option γ)→Option γ→Option γ) (fun k _=>k []) (fun y _ ih k e=>mmK x y fun z=>mfE z (ih (fun r=>k (z::r)) e) e) q
def avL (x:Mn):∀(q:List Mn) (k:List Mn→Option γ) (e:Option γ),prK x q k e=match xy x q with|some r=>k r|none=>e
 |[],k,e=>rfl
 |y::q,k,e=>by
  show mmK x y (fun z=>mfE z (prK x q (fun r=>k (z::r)) e) e)=_
  rw[ajV,ajQ,avL x q,xy]
  cases gS (x.mul y)with
  |false=>rfl
  |true=>dsimp only;cases xy x q<;>rfl
def apW (q p:List Mn):List Mn→(List Mn→Option γ)→Option γ→Option γ:=@List.rec Mn (fun _=>List Mn→(List Mn→Option γ)→Option γ→Option γ) (fun o k _=>k o) (fun x _ ih o k e=>prK x q (fun R=>mgK o R (fun o'=>ih o' k e) e) e) p
def anb (q:List Mn):∀(p o:List Mn) (k:List Mn→Option γ) (e:Option γ),apW q p o k e=match muS q p o with|some r=>k r|none=>e
 |[],o,k,e=>rfl
 |x::p,o,k,e=>by
  show prK x q (fun R=>mgK o R (fun o'=>apW q p o' k e) e) e=_
  rw[avL,muS]
  cases xy x q with
  |none=>rfl
  |some R=>
   dsimp only
   rw[y7 _ o R _ _ (aTS _)]
   cases mI (o.length+R.length+1) o R with
   |none=>rfl
   |some o'=>exact anb q p o' k e
def apX (y:Mn)(p:List Mn):(List Mn→Option γ)→Option γ→Option γ:=@List.rec Mn (fun _=>(List Mn→Option γ)→Option γ→Option γ) (fun k _=>k []) (fun x _ ih k e=>mmK x y fun z=>mfE z (ih (fun r=>k (z::r)) e) e) p
def ane (y:Mn):∀(p:List Mn) (k:List Mn→Option γ) (e:Option γ),apX y p k e=match xw y p with|some r=>k r|none=>e
 |[],k,e=>rfl
 |x::p,k,e=>by
  show mmK x y (fun z=>mfE z (apX y p (fun r=>k (z::r)) e) e)=_
  rw[ajV,ajQ,ane y p,xw]
  cases gS (x.mul y)with
  |false=>rfl
  |true=>dsimp only;cases xw y p<;>rfl
def nzK (p:List Mn):Nat→(List Mn→Option γ)→Option γ→Option γ:=@List.rec Mn (fun _=>Nat→(List Mn→Option γ)→Option γ→Option γ) (fun _ k _=>k [])
 (fun m _ ih n k e=>@Nat.rec (fun _=>Option γ) e (fun n' _=>@Mn.rec (fun _=>Option γ) (fun _ _ _ _ q=>@Q.rec (fun _=>Option γ) (fun z _=>sY z (ih n' k e) (ih n' (fun r=>k (m::r)) e)) q) m) n) p
def ad7:∀(p:List Mn) (n:Nat) (k:List Mn→Option γ) (e:Option γ),nzK p n k e=match aTQ p.length n with|true=>k (fA p)|false=>e
 |[],n,k,e=>by
  have:aTQ ([]:List Mn).length n=ab:=Nat.ble_eq_true_of_le (Nat.zero_le _)
  rw[this];rfl
 |m::p,0,k,e=>rfl
 |m::p,n+1,k,e=>by
  have h1:=ad7 p n k e
  have h2:=ad7 p n (fun r=>k (m::r)) e
  obtain⟨a,b,c,d,z,f⟩:=m
  show sY z (nzK p n k e) (nzK p n (fun r=>k (_::r)) e)=_
  rw[rO,h1,h2]
  have:aTQ ((⟨a,b,c,d,z,f⟩:Mn)::p).length (n+1)=aTQ p.length n:=rfl
  rw[this,fA]
  dsimp only
  cases co z 0<;>cases aTQ p.length n<;>rfl
def iV (p q:List Mn)(k:List Mn→Option γ):Option γ:=
 @List.rec Mn (fun _=>Option γ) (k []) (fun y q' _=>@List.rec Mn (fun _=>Option γ)
  (sdK p (apX y p (fun O=>nzK O 9999999 k (bd (br p q) k)) (bd (br p q) k)) (bd (br p q) k))
  (fun _ _ _=>sdK q (apW q p [] (fun O=>nzK O 9999999 k (bd (br p q) k)) (bd (br p q) k)) (bd (br p q) k)) q') q
def ajZ {p q O:List Mn}(h:afk p q=Z O)(k:List Mn→Option γ):nzK O 9999999 k (bd (br p q) k)=bd (br p q) k:=by
 have h1:=anh h
 rw[ad7,h1]
 have:aTQ O.length 9999999=ah O.length 10000000:=by
  rw[aUp,Nat.ble_eq,aTR];omega
 rw[this]
 cases ah O.length 10000000<;>rfl
def ij (p q:List Mn)(k:List Mn→Option γ):iV p q k=bd (br p q) k:=by
 match q with
 |[]=>
  have:br p []=Z []:=by
   have:=anh (p:=p) (q:=[]) (O:=[]) rfl
   rw[this];rfl
  rw[this];rfl
 |[y]=>
  show sdK p (apX y p (fun O=>nzK O 9999999 k (bd (br p [y]) k)) (bd (br p [y]) k)) (bd (br p [y]) k)=_
  rw[ak2]
  cases hs:cx p with
  |false=>rfl
  |true=>
   dsimp only
   rw[ane]
   cases hm:xw y p with
   |none=>rfl
   |some O=>exact ajZ (by simp only[afk,hs,hm]) k
 |y::z::q2=>
  show sdK (y::z::q2) (apW (y::z::q2) p [] (fun O=>nzK O 9999999 k (bd (br p (y::z::q2)) k)) (bd (br p (y::z::q2)) k)) (bd (br p (y::z::q2)) k)=_
  rw[ak2]
  cases hs:cx (y::z::q2)with
  |false=>rfl
  |true=>
   dsimp only
   rw[anb]
   cases hm:muS (y::z::q2) p []with
   |none=>rfl
   |some O=>exact ajZ (by simp only[afk,hs,hm]) k
def leK (k m:Mn)(y n:Option γ):Option γ:=@Mn.rec (fun _=>Option γ) (fun a1 b1 c1 d1 _=>@Mn.rec (fun _=>Option γ) (fun a2 b2 c2 d2 _=>bB (aTQ a1 a2) n (bB (aTQ b1 b2) n (bB (aTQ c1 c2) n (bB (aTQ d1 d2) n y)))) m) k
def auA (k m:Mn)(y n:Option γ):leK k m y n=match xr k m with|true=>y|false=>n:=by
 obtain⟨a1,b1,c1,d1,x1⟩:=k
 obtain⟨a2,b2,c2,d2,x2⟩:=m
 unfold leK xr
 dsimp only
 cases aTQ a1 a2 with
 |false=>rfl
 |true=>
  cases aTQ b1 b2 with
  |false=>rfl
  |true=>
   cases aTQ c1 c2 with
   |false=>rfl
   |true=>cases aTQ d1 d2<;>rfl
def qmK (m k:Mn)(kk:Mn→Option γ):Option γ:=
 @Mn.rec (fun _=>Option γ) (fun a1 b1 c1 d1 x1=>@Mn.rec (fun _=>Option γ) (fun a2 b2 c2 d2 x2=>nK (Nat.sub a1 a2) fun a=>nK (Nat.sub b1 b2) fun b=>nK (Nat.sub c1 c2) fun c=>nK (Nat.sub d1 d2) fun d=>wP x1 x2 fun q=>kk ⟨a,b,c,d,q⟩) k) m
def avY (m x:Mn)(k:Mn→Option γ):qmK m x k=k (m.sub x (m.q.div x.q)):=by
 obtain⟨a1,b1,c1,d1,x1⟩:=m
 obtain⟨a2,b2,c2,d2,x2⟩:=x
 unfold qmK
 dsimp only
 rw[aV,aV,aV,aV,acx]
 rfl
def cP (m:Mn)(kk:Option (List Mn)→Option γ)(o:Option (List Mn)):Option γ:=@Option.rec (List Mn) (fun _=>Option γ) (kk U) (fun l=>kk (Z (m::l))) o
def apc (b:List Mn)(k:Mn)(f:Nat):List Mn→(Option (List Mn)→Option γ)→Option γ:=
 @Nat.rec (fun _=>List Mn→(Option (List Mn)→Option γ)→Option γ) (fun _ _=>U) (fun _ ih p kk=>@List.rec Mn (fun _=>Option γ) (kk (Z []))
  (fun m t _=>leK k m (qmK m k fun x=>xv x (iV b [x] fun s=>gE s (pI (m::t) s fun r=>gE r (ih r (cP x kk))))) (kk U)) p) f
def amB (b:List Mn)(k:Mn):∀(f:Nat) (p:List Mn) (kk:Option (List Mn)→Option γ),apc b k f p kk=bd (yj b k f p) kk
 |0,p,kk=>rfl
 |f+1,[],kk=>by rw[yj];rfl
 |f+1,m::t,kk=>by
  show leK k m (qmK m k fun x=>xv x (iV b [x] fun s=>gE s (pI (m::t) s fun r=>gE r (apc b k f r (cP x kk))))) (kk U)=_
  rw[auA,avY,y4,ij,yj]
  cases xr k m with
  |false=>rfl
  |true=>
   dsimp only
   cases gS (m.sub k (m.q.div k.q))with
   |false=>rfl
   |true=>
    dsimp only
    cases br b [m.sub k (m.q.div k.q)]with
    |none=>rfl
    |some s=>
     dsimp only[bd]
     rw[fP]
     cases dN s with
     |false=>rfl
     |true=>
      dsimp only
      rw[rK,fP]
      cases dN (fX (m::t) s)with
      |false=>rfl
      |true=>
       dsimp only
       rw[amB b k f]
       cases yj b k f (fX (m::t) s)with
       |none=>rfl
       |some o=>cases o<;>rfl
def r9 (p b:List Mn)(kk:Option (List Mn)→Option γ):Option γ:=@List.rec Mn (fun _=>Option γ) U (fun k _ _=>@Mn.rec (fun _=>Option γ) (fun _ _ _ _ q=>@Q.rec (fun _=>Option γ) (fun z _=>sY z U (apc b k 1000000 p kk)) q) k) b
def qo (p b:List Mn)(kk:Option (List Mn)→Option γ):r9 p b kk=bd (jF p b) kk:=by
 cases b with
 |nil=>rfl
 |cons k bt=>
  have h:=amB (k::bt) k 1000000 p kk
  unfold jF
  obtain⟨a,b,c,d,z,f⟩:=k
  show sY z U (apc _ _ 1000000 p kk)=_
  rw[rO,h]
  dsimp only
  cases co z 0<;>rfl
def apb (b:List Mn)(k:Mn)(f:Nat):List Mn→(Option (List Mn)→Option γ)→Option γ:=
 @Nat.rec (fun _=>List Mn→(Option (List Mn)→Option γ)→Option γ) (fun _ _=>U) (fun _ ih p kk=>@List.rec Mn (fun _=>Option γ) (kk (Z []))
  (fun m t _=>leK k m (qmK m k fun x=>xv x (kK b x fun s=>gE s (pI (m::t) s fun r=>gE r (ih r (cP x kk))))) (kk U)) p) f
def amA (b:List Mn)(k:Mn):∀(f:Nat) (p:List Mn) (kk:Option (List Mn)→Option γ),apb b k f p kk=bd (yi b k f p) kk
 |0,p,kk=>rfl
 |f+1,[],kk=>by rw[yi];rfl
 |f+1,m::t,kk=>by
  show leK k m (qmK m k fun x=>xv x (kK b x fun s=>gE s (pI (m::t) s fun r=>gE r (apb b k f r (cP x kk))))) (kk U)=_
  rw[auA,avY,y4,lN,fP,rK,fP,amA b k f,yi]
  cases xr k m with
  |false=>rfl
  |true=>
   dsimp only
   cases gS (m.sub k (m.q.div k.q))with
   |false=>rfl
   |true=>
    dsimp only
    cases dN (cw b (m.sub k (m.q.div k.q)))with
    |false=>rfl
    |true=>
     dsimp only
     cases dN (fX (m::t) (cw b (m.sub k (m.q.div k.q))))with
     |false=>rfl
     |true=>
      dsimp only
      cases yi b k f (fX (m::t) (cw b (m.sub k (m.q.div k.q))))with
      |none=>rfl
      |some o=>cases o<;>rfl
def aaq (p b:List Mn)(kk:Option (List Mn)→Option γ):Option γ:=@List.rec Mn (fun _=>Option γ) U (fun k _ _=>@Mn.rec (fun _=>Option γ) (fun _ _ _ _ q=>@Q.rec (fun _=>Option γ) (fun z _=>sY z U (apb b k 1000000 p kk)) q) k) b
def abV (p b:List Mn)(kk:Option (List Mn)→Option γ):aaq p b kk=bd (kO p b) kk:=by
 cases b with
 |nil=>rfl
 |cons k bt=>
  have h:=amA (k::bt) k 1000000 p kk
  unfold kO
  obtain⟨a,b,c,d,z,f⟩:=k
  show sY z U (apb _ _ 1000000 p kk)=_
  rw[rO,h]
  dsimp only
  cases co z 0<;>rfl
def ovK (k:List Mn→Option γ)(o:Option (List Mn)):Option γ:=@Option.rec (List Mn) (fun _=>Option γ) (k []) (fun l=>gE l (k l)) o
def mt (p q:List Mn)(k:List Mn→Option γ):Option γ:=r9 p q (ovK k)
def sN (p q:List Mn)(k:List Mn→Option γ):mt p q k=bd (j9 p q) k:=by
 unfold mt j9
 rw[qo]
 cases jF p q with
 |none=>rfl
 |some o=>
  cases o with
  |none=>rfl
  |some l=>exact amr l k
def ad9 (p q:List Mn)(k:List Mn→Option γ):Option γ:=aaq p q (ovK k)
def avE (p q:List Mn)(k:List Mn→Option γ):ad9 p q k=bd (pE p q) k:=by
 unfold ad9 pE
 rw[abV]
 cases kO p q with
 |none=>rfl
 |some o=>
  cases o with
  |none=>rfl
  |some l=>exact amr l k
def iZ (p:List Mn)(k:List Mn→Option γ):Option γ:=@List.rec Mn (fun _=>Option γ) (k []) (fun m _ _=>@Mn.rec (fun _=>Option γ) (fun _ _ _ _ q=>sY q.n U (wP ⟨.ofNat 1,1⟩ q fun c=>xv ⟨0,0,0,0,c⟩ (rJ p c fun r=>gE r (k r)))) m) p
def gL (p:List Mn)(k:List Mn→Option γ):iZ p k=bd (fw p) k:=by
 cases p with
 |nil=>rfl
 |cons m t=>
  show sY m.q.n U (wP ⟨.ofNat 1,1⟩ m.q fun c=>xv ⟨0,0,0,0,c⟩ (rJ (m::t) c fun r=>gE r (k r)))=_
  rw[rO,acx,y4,zZ,fP]
  unfold fw
  dsimp only
  have e:(⟨.ofNat 1,1⟩:Q)=Q.whole 1:=rfl
  rw[e]
  have e2:(⟨0,0,0,0,(Q.whole 1).div m.q⟩:Mn)=io ((Q.whole 1).div m.q):=rfl
  rw[e2]
  cases co m.q.n 0 with
  |true=>rfl
  |false=>
   dsimp only
   cases gS (io ((Q.whole 1).div m.q))with
   |false=>rfl
   |true=>
    dsimp only
    unfold fS
    cases dN (eG (m::t) ((Q.whole 1).div m.q))<;>rfl
end
section
variable {γ:Type}
def pwK (a n:Nat)(k:Nat→Option γ):Option γ:=
 bB (ai a 1) (nK (Nat.mod (Nat.pow a 256) 2147483647) fun b=>nK (Nat.mod (Nat.pow b 256) 2147483647) fun c=>nK (Nat.mod (Nat.pow c 256) 2147483647) fun d=>
  nK (Nat.mod (Nat.mul (Nat.mul (Nat.pow a (Nat.mod n 256)) (Nat.pow b (Nat.mod (Nat.div n 256) 256))) (Nat.mul (Nat.pow c (Nat.mod (Nat.div n 65536) 256)) (Nat.pow d (Nat.div n 16777216)))) 2147483647) k) (k 1)
def aky (a n:Nat)(k:Nat→Option γ):pwK a n k=k (rE a n):=by
 unfold pwK rE
 cases ai a 1 with
 |true=>rfl
 |false=>rw[fj,aV,aV,aV,aV]
def aLt (a n:Nat)(k:Nat→Option γ):Option γ:=@Nat.rec (fun _=>Option γ) (k 1) (fun _ _=>pwK a n k) n
def aO9 (a:Nat):rE a 0=1:=by
 unfold rE
 cases ai a 1 with
 |true=>rfl
 |false=>
  show Nat.mod (Nat.mul (Nat.mul (Nat.pow a 0) (Nat.pow _ 0)) (Nat.mul (Nat.pow _ 0) (Nat.pow _ 0))) 2147483647=1
  simp only[Nat.pow_eq,Nat.pow_zero]
def aGd (a n:Nat)(k:Nat→Option γ):aLt a n k=k (rE a n):=by
 cases n with
 |zero=>rw[aO9];rfl
 |succ n=>exact aky a (n+1) k
def oM (z:Int)(k:Nat→Option γ):Option γ:=@Int.rec (fun _=>Option γ) (fun a=>nK (Nat.mod a 2147483647) k) (fun a=>nK (Nat.mod (Nat.succ a) 2147483647) fun r=>@Nat.rec (fun _=>Option γ) (k Nat.zero) (fun m _=>nK (Nat.sub 2147483647 (Nat.succ m)) k) r) z
def aGg (z:Int)(k:Nat→Option γ):oM z k=k (mz (aw z) (ap z)):=by
 cases z with
 |ofNat a=>unfold oM;dsimp only;rw[aV];rfl
 |negSucc a=>
  unfold oM;dsimp only
  rw[aV]
  unfold mz
  show @Nat.rec (fun _=>Option γ) _ _ (Nat.mod (a+1) 2147483647)=k (rsV ab (Nat.mod (a+1) 2147483647))
  cases Nat.mod (a+1) 2147483647 with
  |zero=>rfl
  |succ m=>dsimp only;rw[aV];rfl
def stK (w v x:Nat)(a n:Nat)(k:Nat→Option γ):Option γ:=bB (ai w v) (aLt a n fun y=>nK (Nat.mod (Nat.mul x y) 2147483647) k) (k x)
def aer (w v x a n:Nat)(k:Nat→Option γ):stK w v x a n k=k (sX w v x (rE a n)):=by
 unfold stK sX
 cases ai w v with
 |true=>rfl
 |false=>rw[fj,aGd,aV]
def apu (v at':Nat)(m:Mn)(k:Nat→Option γ)(e:Option γ):Option γ:=
 @Mn.rec (fun _=>Option γ) (fun a b c d q=>@Q.rec (fun _=>Option γ) (fun n f=>nK (Nat.mod f 2147483647) fun r=>@Nat.rec (fun _=>Option γ) e (fun r' _=>oM n fun x=>pwK (Nat.succ r') 2147483645 fun y=>nK (Nat.mod (Nat.mul x y) 2147483647) fun x=>
  stK 0 v x at' a fun x=>stK 1 v x (Nat.add at' 1) b fun x=>stK 2 v x (Nat.add at' 2) c fun x=>stK 3 v x (Nat.add at' 3) d k) r) q) m
def aES (v at':Nat)(m:Mn)(k:Nat→Option γ)(e:Option γ):apu v at' m k e=match xp v at' m with|some x=>k x|none=>e:=by
 obtain⟨a,b,c,d,n,f⟩:=m
 unfold apu xp
 dsimp only
 rw[aV]
 unfold mz
 show @Nat.rec (fun _=>Option γ) e _ (Nat.mod f 2147483647)=_
 have:rsV aa (Nat.mod f 2147483647)=Nat.mod f 2147483647:=rfl
 rw[this]
 cases Nat.mod f 2147483647 with
 |zero=>rfl
 |succ r=>
  dsimp only
  rw[aGg,aky,aV,aer,aer,aer,aer]
  rfl
def acZ (l:List Nat):Nat→Nat→(List Nat→Option γ)→Option γ:=@List.rec Nat (fun _=>Nat→Nat→(List Nat→Option γ)→Option γ) (fun _ _ k=>k [])
 (fun o r ih i x k=>@Nat.rec (fun _=>Option γ) (nK (Nat.mod (Nat.add o x) 2147483647) fun y=>k (y::r)) (fun i' _=>ih i' x fun r=>k (o::r)) i) l
def agn:∀(l:List Nat) (i x:Nat) (k:List Nat→Option γ),acZ l i x k=k (iP l i x)
 |[],i,x,k=>rfl
 |o::r,0,x,k=>by
  show nK (Nat.mod (Nat.add o x) 2147483647) (fun y=>k (y::r))=_
  rw[aV];rfl
 |o::r,i+1,x,k=>by
  show acZ r i x (fun r=>k (o::r))=_
  rw[agn r i x];rfl
def ayc (v at':Nat)(p:List Mn):List Nat→(List Nat→Option γ)→Option γ→Option γ:=@List.rec Mn (fun _=>List Nat→(List Nat→Option γ)→Option γ→Option γ) (fun o k _=>k o)
 (fun m _ ih o k e=>apu v at' m (fun x=>exK v m fun j=>acZ o j x fun o=>ih o k e) e) p
def amS (v at':Nat):∀(p:List Mn) (o:List Nat) (k:List Nat→Option γ) (e:Option γ),ayc v at' p o k e=match qz v at' p o with|some x=>k x|none=>e
 |[],o,k,e=>rfl
 |m::p,o,k,e=>by
  show apu v at' m (fun x=>exK v m fun j=>acZ o j x fun o=>ayc v at' p o k e) e=_
  rw[aES,qz]
  cases xp v at' m with
  |none=>rfl
  |some x=>
   dsimp only
   rw[ai0,agn,amS v at' p]
def aAK (n:Nat):(List Nat→Option γ)→Option γ:=@Nat.rec (fun _=>(List Nat→Option γ)→Option γ) (fun k=>k []) (fun _ ih k=>ih fun l=>k (0::l)) n
def anP:∀(n:Nat) (k:List Nat→Option γ),aAK n k=k (aT5 n 0)
 |0,k=>rfl
 |n+1,k=>by
  show aAK n (fun l=>k (0::l))=_
  rw[anP n];rfl
def aaP (l:List Nat)(k:Nat→Option γ)(e:Option γ):Option γ:=@List.rec Nat (fun _=>Option γ) e (fun x l' _=>@List.rec Nat (fun _=>Nat→Option γ) (fun x=>k x) (fun y _ ih _=>ih y) l' x) l
def wg:∀(l:List Nat) (k:Nat→Option γ) (e:Option γ),aaP l k e=match dW l with|some x=>k x|none=>e
 |[],k,e=>rfl
 |[x],k,e=>rfl
 |x::y::l,k,e=>by
  show aaP (y::l) k e=_
  rw[wg (y::l)]
  rfl
def tg (p:List Mn)(v at':Nat)(k:List Nat→Bool→Option γ):Option γ:=ei v p fun n=>aAK n fun o=>ayc v at' p o (fun l=>aaP l (fun x=>@Nat.rec (fun _=>Option γ) (k l aa) (fun _ _=>k l ab) x) U) (k [] aa)
def aaI (p:List Mn)(v at':Nat)(k:List Nat→Bool→Option γ):tg p v at' k=match mG p v at' with|some (l,b)=>k l b|none=>U:=by
 unfold tg mG l9
 rw[cj,anP,amS]
 cases qz v at' p (aT5 (dg v p) 0)with
 |none=>rfl
 |some l=>
  dsimp only
  rw[wg]
  cases dW l with
  |none=>rfl
  |some x=>cases x<;>rfl
def alz (f:Nat)(r:List Nat):Nat→List Nat→(List Nat→Option γ)→Option γ:=@List.rec Nat (fun _=>Nat→List Nat→(List Nat→Option γ)→Option γ) (fun _ _ k=>k [])
 (fun o r ih i b k=>@Nat.rec (fun _=>Option γ) (@List.rec Nat (fun _=>Option γ) (k (o::r)) (fun c b' _=>nK (Nat.mod (Nat.add o (Nat.mul (Nat.sub 2147483647 c) f)) 2147483647) fun y=>ih Nat.zero b' fun r=>k (y::r)) b) (fun i' _=>ih i' b fun r=>k (o::r)) i) r
def agf (f:Nat):∀(r:List Nat) (i:Nat) (b:List Nat) (k:List Nat→Option γ),alz f r i b k=k (bN f r i b)
 |[],i,b,k=>by
  show k []=_
  cases i<;>cases b<;>rfl
 |o::r,0,[],k=>rfl
 |o::r,0,c::b,k=>by
  show nK (Nat.mod (Nat.add o (Nat.mul (Nat.sub 2147483647 c) f)) 2147483647) (fun y=>alz f r 0 b fun r=>k (y::r))=_
  rw[aV,agf f r];rfl
 |o::r,i+1,b,k=>by
  show alz f r i b (fun r=>k (o::r))=_
  rw[agf f r]
  cases b<;>rfl
def ah0 (l:List Nat):(List Nat→Option γ)→Option γ:=@List.rec Nat (fun _=>(List Nat→Option γ)→Option γ) (fun k=>k []) (fun x _ ih k=>ih fun r=>@List.rec Nat (fun _=>Option γ) (@Nat.rec (fun _=>Option γ) (k []) (fun _ _=>k [x]) x) (fun _ _ _=>k (x::r)) r) l
def alr:∀(l:List Nat) (k:List Nat→Option γ),ah0 l k=k (cC l)
 |[],k=>rfl
 |x::l,k=>by
  show ah0 l (fun r=>@List.rec Nat (fun _=>Option γ) (@Nat.rec (fun _=>Option γ) (k []) (fun _ _=>k [x]) x) (fun _ _ _=>k (x::r)) r)=_
  rw[alr l,cC]
  cases cC l with
  |nil=>cases x<;>rfl
  |cons y t=>cases x<;>rfl
def ig {α:Type}(l:List α):Nat→(Nat→Option γ)→Option γ:=@List.rec α (fun _=>Nat→(Nat→Option γ)→Option γ) (fun n k=>k n) (fun _ _ ih n k=>nK (Nat.succ n) fun n=>ih n k) l
def eO {α:Type}:∀(l:List α) (n:Nat) (k:Nat→Option γ),ig l n k=k (l.length+n)
 |[],n,k=>by show k n=_;rw[aUf,aUe]
 |x::l,n,k=>by
  show nK (Nat.succ n) (fun n=>ig l n k)=_
  rw[aV,eO l,aTV]
  congr 1
  omega
def aA1 (b:List Nat)(lb y:Nat)(g:Nat):List Nat→(List Nat→Option γ)→Option γ:=@Nat.rec (fun _=>List Nat→(List Nat→Option γ)→Option γ) (fun _ _=>U)
 (fun _ ih row k=>ig row Nat.zero fun lr=>bB (aTQ lb lr) (k row) (aaP row (fun x=>nK (Nat.mod (Nat.mul x y) 2147483647) fun f=>nK (Nat.sub lr lb) fun sh=>alz f row sh b fun r=>ah0 r fun r=>ih r k) U)) g
def anR (b:List Nat)(y:Nat):∀(g:Nat) (row:List Nat) (k:List Nat→Option γ),aA1 b b.length y g row k=bd (rsq b y g row) k
 |0,row,k=>rfl
 |g+1,row,k=>by
  show ig row Nat.zero (fun lr=>bB (aTQ b.length lr) (k row) (aaP row (fun x=>nK (Nat.mod (Nat.mul x y) 2147483647) fun f=>nK (Nat.sub lr b.length) fun sh=>alz f row sh b fun r=>ah0 r fun r=>aA1 b b.length y g r k) U))=_
  rw[eO,rsq]
  show bB (aTQ b.length row.length) _ _=_
  cases aTQ b.length row.length with
  |false=>rfl
  |true=>
   rw[lR,wg]
   cases dW row with
   |none=>rfl
   |some x=>
    dsimp only
    rw[aV,aV,agf,alr,anR b y g]
    rfl
def ahV (a b:List Nat)(k:List Nat→Option γ):Option γ:=aaP b (fun l=>@List.rec Nat (fun _=>Option γ) U (fun _ _ _=>pwK l 2147483645 fun y=>ig b Nat.zero fun lb=>ig a Nat.zero fun la=>aA1 b lb y (Nat.succ la) a k) a) U
def aAN (a b:List Nat)(k:List Nat→Option γ):ahV a b k=bd (kQ a b) k:=by
 unfold ahV kQ
 rw[wg]
 cases dW b with
 |none=>rfl
 |some l=>
  cases a with
  |nil=>rfl
  |cons x a=>
   dsimp only
   rw[aky,eO,eO]
   exact anR b _ _ _ k
def vV (g:Nat):List Nat→List Nat→(List Nat→Option γ)→Option γ:=@Nat.rec (fun _=>List Nat→List Nat→(List Nat→Option γ)→Option γ) (fun _ _ _=>U)
 (fun _ ih a b k=>@List.rec Nat (fun _=>Option γ) (k a) (fun _ _ _=>ahV a b fun r=>ih b r k) b) g
def aar:∀(g:Nat) (a b:List Nat) (k:List Nat→Option γ),vV g a b k=bd (gr g a b) k
 |0,a,b,k=>rfl
 |g+1,a,[],k=>by rw[gr];rfl
 |g+1,a,o::b,k=>by
  show ahV a (o::b) (fun r=>vV g (o::b) r k)=_
  rw[aAN,gr]
  cases kQ a (o::b)with
  |none=>rfl
  |some r=>exact aar g _ r k
def aa6 (a b:List Nat)(k:Nat→Option γ):Option γ:=ig a Nat.zero fun la=>ig b Nat.zero fun lb=>bB (aTQ lb la) (vV (Nat.add la 2) b a fun r=>ig r Nat.zero k) (vV (Nat.add lb 2) a b fun r=>ig r Nat.zero k)
def aru (a b:List Nat)(k:Nat→Option γ):aa6 a b k=bd (nh a b) k:=by
 unfold aa6 nh
 rw[eO,eO]
 show bB (aTQ b.length a.length) _ _=_
 cases aTQ b.length a.length with
 |true=>
  rw[lR]
  show vV (b.length+2) a b _=_
  rw[aar]
  dsimp only
  cases gr (b.length+2) a b with
  |none=>rfl
  |some r=>exact eO r 0 k
 |false=>
  rw[fj]
  show vV (a.length+2) b a _=_
  rw[aar]
  dsimp only
  cases gr (a.length+2) b a with
  |none=>rfl
  |some r=>exact eO r 0 k
def bmK (p q:List Mn)(v:Nat)(g:Nat):Nat→(Nat→Option γ)→Option γ:=@Nat.rec (fun _=>Nat→(Nat→Option γ)→Option γ) (fun _ _=>U)
 (fun _ ih i k=>bB (aTQ 3 i) (nK (Nat.add 17 (Nat.mul 100 i)) fun at'=>tg p v at' fun a x=>tg q v at' fun b y=>@Bool.rec (fun _=>Option γ) (nK (Nat.succ i) fun i=>ih i k) (@Bool.rec (fun _=>Option γ) (nK (Nat.succ i) fun i=>ih i k) (aa6 a b k) y) x) U) g
def asQ (p q:List Mn)(v:Nat):∀(g i:Nat) (k:Nat→Option γ),bmK p q v g i k=bd (bmF p q v g i) k
 |0,i,k=>rfl
 |g+1,i,k=>by
  show bB (aTQ 3 i) (nK (17+100*i) fun at'=>tg p v at' fun a x=>tg q v at' fun b y=>@Bool.rec (fun _=>Option γ) (nK (Nat.succ i) fun i=>bmK p q v g i k) (@Bool.rec (fun _=>Option γ) (nK (Nat.succ i) fun i=>bmK p q v g i k) (aa6 a b k) y) x) U=_
  rw[bmF,ee]
  cases aTQ 3 i with
  |true=>rfl
  |false=>
   rw[fj,aV,aaI,aV,asQ p q v g]
   cases mG p v (17+100*i)with
   |none=>rfl
   |some x=>
    obtain⟨a,x⟩:=x
    dsimp only
    rw[aaI]
    cases mG q v (17+100*i)with
    |none=>cases x<;>rfl
    |some y=>
     obtain⟨b,y⟩:=y
     cases x with
     |false=>rfl
     |true=>
      cases y with
      |false=>rfl
      |true=>exact aru a b k
def iG (n:Nat)(y:Option γ):Option γ:=bB (aTQ 10000000 n) y U
def fC (n:Nat)(y:Option γ):iG n y=match ah n 10000000 with|true=>y|false=>U:=by
 unfold iG
 rw[ee]
 cases aTQ 10000000 n<;>rfl
def aeJ (p q:List Mn)(v:Nat)(k:Nat→Option γ):Option γ:=ei v p fun a=>ei v q fun b=>iG a (iG b (bmK p q v 5 Nat.zero k))
def aoT (p q:List Mn)(v:Nat)(k:Nat→Option γ):aeJ p q v k=bd (nJ p q v) k:=by
 unfold aeJ nJ
 rw[cj,cj,fC,fC,asQ]
 cases ah (dg v p) 10000000 with
 |false=>rfl
 |true=>cases ah (dg v q) 10000000<;>rfl
def aoO (p q:List Mn)(v:Nat)(g:Nat):Nat→(Nat→Option γ)→Option γ:=@Nat.rec (fun _=>Nat→(Nat→Option γ)→Option γ) (fun _ _=>U)
 (fun _ ih at' k=>bB (aTQ 300 at') (tg p v at' fun a x=>tg q v at' fun b y=>@Bool.rec (fun _=>Option γ) (nK (Nat.add at' 100) fun i=>ih i k) (@Bool.rec (fun _=>Option γ) (nK (Nat.add at' 100) fun i=>ih i k) (ig b Nat.zero fun lb=>vV (Nat.add lb 2) a b fun r=>ig r Nat.zero k) y) x) (ei v p k)) g
def amk (p q:List Mn)(v:Nat):∀(g i:Nat) (k:Nat→Option γ),aoO p q v g i k=bd (xf p q v g i) k
 |0,i,k=>rfl
 |g+1,i,k=>by
  show bB (aTQ 300 i) (tg p v i fun a x=>tg q v i fun b y=>@Bool.rec (fun _=>Option γ) (nK (i+100) fun i=>aoO p q v g i k) (@Bool.rec (fun _=>Option γ) (nK (i+100) fun i=>aoO p q v g i k) (ig b Nat.zero fun lb=>vV (Nat.add lb 2) a b fun r=>ig r Nat.zero k) y) x) (ei v p k)=_
  rw[xf,ee]
  cases aTQ 300 i with
  |true=>exact cj v p k
  |false=>
   rw[fj,aaI,aV,amk p q v g]
   cases mG p v i with
   |none=>rfl
   |some x=>
    obtain⟨a,x⟩:=x
    dsimp only
    rw[aaI]
    cases mG q v i with
    |none=>cases x<;>rfl
    |some y=>
     obtain⟨b,y⟩:=y
     cases x with
     |false=>rfl
     |true=>
      cases y with
      |false=>rfl
      |true=>
       dsimp only
       rw[eO]
       show vV (b.length+2) a b _=_
       rw[aar]
       cases gr (b.length+2) a b with
       |none=>rfl
       |some r=>exact eO r 0 k
def aeK (p q:List Mn)(v:Nat)(k:Nat→Option γ):Option γ:=ei v p fun a=>ei v q fun b=>iG a (iG b (aoO p q v 5 17 k))
def aoU (p q:List Mn)(v:Nat)(k:Nat→Option γ):aeK p q v k=bd (nL p q v) k:=by
 unfold aeK nL
 rw[cj,cj,fC,fC,amk]
 cases ah (dg v p) 10000000 with
 |false=>rfl
 |true=>cases ah (dg v q) 10000000<;>rfl
end
def xF (v k:Nat):List Mn→Option (List Mn)
 |[]=>Z []
 |y::q=>match gS (y.up v k)with
  |true=>(match xF v k q with|some r=>Z (y.up v k::r)|none=>U)
  |false=>U
def aot {v k:Nat}:∀{q R:List Mn} (o:List Mn),xF v k q=Z R→xj v k q o=lQ R o
 |[],R,o,h=>by rw[xF]at h;cases h;rfl
 |y::q,R,o,h=>by
  rw[xF]at h
  split at h
  ·rename_i g
   split at h
   ·rename_i r e
    cases h
    rw[xj,g,lQ]
    dsimp only
    cases lu (y.up v k) o with
    |none=>rfl
    |some o'=>exact aot o' e
   ·cases h
  ·cases h
def aPw {v k:Nat}{y z:Mn}(h:aZ y z=ab):aZ (y.up v k) (z.up v k)=ab:=by
 rw[jg]at*
 match v with
 |0=>show z.d<y.d∨(y.d=z.d∧(z.c<y.c∨(y.c=z.c∧(z.b<y.b∨(y.b=z.b∧z.a+k<y.a+k)))));omega
 |1=>show z.d<y.d∨(y.d=z.d∧(z.c<y.c∨(y.c=z.c∧(z.b+k<y.b+k∨(y.b+k=z.b+k∧z.a<y.a)))));omega
 |2=>show z.d<y.d∨(y.d=z.d∧(z.c+k<y.c+k∨(y.c+k=z.c+k∧(z.b<y.b∨(y.b=z.b∧z.a<y.a)))));omega
 |v+3=>show z.d+k<y.d+k∨(y.d+k=z.d+k∧(z.c<y.c∨(y.c=z.c∧(z.b<y.b∨(y.b=z.b∧z.a<y.a)))));omega
def aos {v k:Nat}:∀{q R:List Mn},Dsc q→xF v k q=Z R→Dsc R∧∀r∈R,∃y∈q,r=y.up v k
 |[],R,_,h=>by rw[xF]at h;cases h;exact⟨.nil,fun r hr=>by cases hr⟩
 |y::q,R,hd,h=>by
  rw[xF]at h
  split at h
  ·split at h
   ·rename_i r e
    cases h
    have h1:=List.pairwise_cons.1 hd
    obtain⟨h2,h3⟩:=aos h1.2 e
    refine⟨List.pairwise_cons.2 ⟨fun z hz=>?_,h2⟩,fun z hz=>?_⟩
    ·obtain⟨w,hw,rfl⟩:=h3 z hz
     exact aPw (h1.1 w hw)
    ·rcases aTZ.1 hz with rfl|hz
     ·exact⟨y,aT0,rfl⟩
     ·obtain⟨w,hw,rfl⟩:=h3 z hz
      exact⟨w,aT8 _ hw,rfl⟩
   ·cases h
  ·cases h
def frS (v:Nat):Nat→List (List Mn)→List Mn→Option (List Mn)
 |_,[],o=>Z o
 |k,q::l,o=>match cx q with
  |false=>U
  |true=>match xF v k q with
   |none=>U
   |some R=>match mI (o.length+R.length+1) o R with
    |some o'=>frS v (k+1) l o'
    |none=>U
def atL {v:Nat}:∀{l:List (List Mn)} {k:Nat} {o O:List Mn},Dsc o→frS v k l o=Z O→Dsc O∧∀a,a.Perm o→∃A,ym v k l a=Z A∧A.Perm O
 |[],k,o,O,ho,h=>by rw[frS]at h;cases h;exact⟨ho,fun a ha=>⟨a,by rw[ym],ha⟩⟩
 |q::l,k,o,O,ho,h=>by
  rw[frS]at h
  split at h
  ·cases h
  rename_i hq
  split at h
  ·cases h
  rename_i R hR
  split at h
  ·rename_i o' e
   obtain⟨h1,h2⟩:=y6 ho (aos (jt hq) hR).1 e
   obtain⟨h3,h4⟩:=atL h1 h
   refine⟨h3,fun a ha=>?_⟩
   obtain⟨b,h5,h6⟩:=h2 a ha
   obtain⟨A,h7,h8⟩:=h4 b h6
   exact⟨A,by rw[ym,aot a hR,h5];exact h7,h8⟩
  ·cases h
def aJz {l:List (List Mn)}{v:Nat}{O:List Mn}(h:frS v 0 l []=Z O):kP l v=match ah O.length 10000000 with|true=>Z (fA O)|false=>U:=by
 obtain⟨hd,h2⟩:=atL .nil h
 obtain⟨A,hA,hp⟩:=h2 [] (.refl _)
 have hn:Dsc (fA O):=by rw[i6];exact hd.filter _
 have h1:cu (fA A)=fA O:=nQ hn ((fg _).trans (acn hp)) (pH _)
 unfold kP
 rw[hA]
 dsimp only
 rw[hp.length_eq,h1,td hn]
 cases ah O.length 10000000<;>rfl
section
variable {γ:Type}
def upK (m:Mn)(v j:Nat)(k:Mn→Option γ):Option γ:=@Mn.rec (fun _=>Option γ) (fun a b c d q=>@Nat.rec (fun _=>Option γ) (nK (Nat.add a j) fun a=>k ⟨a,b,c,d,q⟩)
 (fun v _=>@Nat.rec (fun _=>Option γ) (nK (Nat.add b j) fun b=>k ⟨a,b,c,d,q⟩) (fun v _=>@Nat.rec (fun _=>Option γ) (nK (Nat.add c j) fun c=>k ⟨a,b,c,d,q⟩) (fun _ _=>nK (Nat.add d j) fun d=>k ⟨a,b,c,d,q⟩) v) v) v) m
def aN5 (m:Mn)(v j:Nat)(k:Mn→Option γ):upK m v j k=k (m.up v j):=by
 obtain⟨a,b,c,d,q⟩:=m
 match v with
 |0=>show nK (Nat.add a j) (fun a=>k ⟨a,b,c,d,q⟩)=_;rw[aV];rfl
 |1=>show nK (Nat.add b j) (fun b=>k ⟨a,b,c,d,q⟩)=_;rw[aV];rfl
 |2=>show nK (Nat.add c j) (fun c=>k ⟨a,b,c,d,q⟩)=_;rw[aV];rfl
 |v+3=>show nK (Nat.add d j) (fun d=>k ⟨a,b,c,d,q⟩)=_;rw[aV];rfl
def arV (v j:Nat)(q:List Mn):(List Mn→Option γ)→Option γ→Option γ:=@List.rec Mn (fun _=>(List Mn→Option γ)→Option γ→Option γ) (fun k _=>k []) (fun y _ ih k e=>upK y v j fun z=>mfE z (ih (fun r=>k (z::r)) e) e) q
def aor (v j:Nat):∀(q:List Mn) (k:List Mn→Option γ) (e:Option γ),arV v j q k e=match xF v j q with|some r=>k r|none=>e
 |[],k,e=>rfl
 |y::q,k,e=>by
  show upK y v j (fun z=>mfE z (arV v j q (fun r=>k (z::r)) e) e)=_
  rw[aN5,ajQ,aor v j q,xF]
  cases gS (y.up v j)with
  |false=>rfl
  |true=>dsimp only;cases xF v j q<;>rfl
def ax1 (v:Nat)(l:List (List Mn)):Nat→List Mn→(List Mn→Option γ)→Option γ→Option γ:=@List.rec (List Mn) (fun _=>Nat→List Mn→(List Mn→Option γ)→Option γ→Option γ) (fun _ o k _=>k o)
 (fun q _ ih j o k e=>sdK q (arV v j q (fun R=>mgK o R (fun o'=>nK (Nat.succ j) fun j'=>ih j' o' k e) e) e) e) l
def amJ (v:Nat):∀(l:List (List Mn)) (j:Nat) (o:List Mn) (k:List Mn→Option γ) (e:Option γ),ax1 v l j o k e=match frS v j l o with|some r=>k r|none=>e
 |[],j,o,k,e=>rfl
 |q::l,j,o,k,e=>by
  show sdK q (arV v j q (fun R=>mgK o R (fun o'=>nK (Nat.succ j) fun j'=>ax1 v l j' o' k e) e) e) e=_
  rw[ak2,frS]
  cases cx q with
  |false=>rfl
  |true=>
   dsimp only
   rw[aor]
   cases xF v j q with
   |none=>rfl
   |some R=>
    dsimp only
    rw[y7 _ o R _ _ (aTS _)]
    cases mI (o.length+R.length+1) o R with
    |none=>rfl
    |some o'=>
     dsimp only
     rw[aV]
     exact amJ v l (j+1) o' k e
def apn (l:List (List Mn))(v:Nat)(k:List Mn→Option γ):Option γ:=ax1 v l Nat.zero [] (fun O=>nzK O 9999999 k (bd (kP l v) k)) (bd (kP l v) k)
def ax2 (l:List (List Mn))(v:Nat)(k:List Mn→Option γ):apn l v k=bd (kP l v) k:=by
 unfold apn
 rw[amJ]
 cases h:frS v Nat.zero l []with
 |none=>rfl
 |some O=>
  dsimp only
  rw[ad7,aJz h]
  have:aTQ O.length 9999999=ah O.length 10000000:=by
   rw[aUp,Nat.ble_eq,aTR];omega
  rw[this]
  cases ah O.length 10000000<;>rfl
def ajf {α:Type}(l:List α):Nat→(α→Option γ)→Option γ:=@List.rec α (fun _=>Nat→(α→Option γ)→Option γ) (fun _ _=>U) (fun x _ ih n k=>@Nat.rec (fun _=>Option γ) (k x) (fun n' _=>ih n' k) n) l
def ae2 {α:Type}:∀(l:List α) (n:Nat) (k:α→Option γ),ajf l n k=bd l[n]? k
 |[],n,k=>rfl
 |x::l,0,k=>rfl
 |x::l,n+1,k=>by
  show ajf l n k=_
  rw[ae2 l n,List.getElem?_cons_succ]
def akv (ld top:List Mn)(dv:List (List Mn))(sh:Nat)(l:List (List Mn)):Nat→(List (List Mn)→Option γ)→Option γ:=@List.rec (List Mn) (fun _=>Nat→(List (List Mn)→Option γ)→Option γ) (fun _ k=>k [])
 (fun x _ ih i k=>iV x ld fun y=>nK (Nat.succ i) fun i'=>bB (aTQ sh i) (ih i' fun o=>k (y::o)) (nK (Nat.sub i sh) fun j=>ajf dv j fun d=>iV top d fun z=>aa7 y z fun w=>ih i' fun o=>k (w::o))) l
def afu (ld top:List Mn)(dv:List (List Mn))(sh:Nat):∀(l:List (List Mn)) (i:Nat) (k:List (List Mn)→Option γ),akv ld top dv sh l i k=bd (mw ld top dv sh i l) k
 |[],i,k=>by rw[mw];rfl
 |x::l,i,k=>by
  show iV x ld (fun y=>nK (Nat.succ i) fun i'=>bB (aTQ sh i) (akv ld top dv sh l i' fun o=>k (y::o)) (nK (Nat.sub i sh) fun j=>ajf dv j fun d=>iV top d fun z=>aa7 y z fun w=>akv ld top dv sh l i' fun o=>k (w::o)))=_
  rw[ij,mw]
  cases br x ld with
  |none=>rfl
  |some y=>
   dsimp only[bd]
   rw[aV]
   cases aTQ sh i with
   |false=>
    rw[fj,afu ld top dv sh l]
    show bd (mw ld top dv sh (i+1) l) _=_
    dsimp only
    cases mw ld top dv sh (i+1) l<;>rfl
   |true=>
    rw[lR,aV,ae2]
    show bd dv[i-sh]? _=_
    dsimp only
    cases dv[i-sh]? with
    |none=>rfl
    |some d=>
     dsimp only[bd]
     rw[ij]
     cases br top d with
     |none=>rfl
     |some z=>
      dsimp only[bd]
      rw[alf]
      cases tC y z with
      |none=>rfl
      |some w=>
       dsimp only[bd]
       rw[afu ld top dv sh l]
       show bd (mw ld top dv sh (i+1) l) _=_
       cases mw ld top dv sh (i+1) l<;>rfl
def arU {α:Type}(l:List α):(List α→α→Option γ)→Option γ→Option γ:=@List.rec α (fun _=>(List α→α→Option γ)→Option γ→Option γ) (fun _ e=>e) (fun x _ ih k _=>ih (fun i t=>k (x::i) t) (k [] x)) l
def aoq {α:Type}:∀(l:List α) (k:List α→α→Option γ) (e:Option γ),arU l k e=match uns l with|some (i,t)=>k i t|none=>e
 |[],k,e=>rfl
 |x::l,k,e=>by
  show arU l (fun i t=>k (x::i) t) (k [] x)=_
  rw[aoq l,uns]
  cases uns l with
  |none=>rfl
  |some p=>obtain⟨i,t⟩:=p;rfl
def azl (ld:List Mn)(dv:List (List Mn))(n:Nat)(f:Nat):List (List Mn)→(List (List Mn)→Option γ)→Option γ:=@Nat.rec (fun _=>List (List Mn)→(List (List Mn)→Option γ)→Option γ) (fun _ _=>U)
 (fun _ ih l k=>ig l Nat.zero fun m=>bB (aTQ m n) (arU l (fun i top=>nK (Nat.sub (Nat.pred m) n) fun sh=>akv ld top dv sh i Nat.zero fun o=>ih o k) U) (k l)) f
def anA (ld:List Mn)(dv:List (List Mn))(n:Nat):∀(f:Nat) (l:List (List Mn)) (k:List (List Mn)→Option γ),azl ld dv n f l k=bd (psO ld dv n f l) k
 |0,l,k=>rfl
 |f+1,l,k=>by
  show ig l Nat.zero (fun m=>bB (aTQ m n) (arU l (fun i top=>nK (Nat.sub (Nat.pred m) n) fun sh=>akv ld top dv sh i Nat.zero fun o=>azl ld dv n f o k) U) (k l))=_
  rw[eO,psO]
  show bB (aTQ l.length n) _ _=_
  cases aTQ l.length n with
  |true=>rfl
  |false=>
   rw[fj,aoq]
   dsimp only
   cases hu:uns l with
   |none=>rfl
   |some p=>
    obtain⟨i,top⟩:=p
    dsimp only
    have h1:=congrArg List.length (aac hu)
    rw[aTW,List.length_singleton]at h1
    rw[aV,afu]
    have h2:Nat.sub (Nat.pred (l.length+Nat.zero)) n=i.length-n:=by
     show(l.length+0).pred-n=_
     rw[h1];rfl
    rw[h2]
    cases mw ld top dv (i.length-n) 0 i with
    |none=>rfl
    |some o=>exact anA ld dv n f o k
def ahS (p q:List Mn)(v:Nat)(k:List Mn→Option γ):Option γ:=ei v q fun j=>@Nat.rec (fun _=>Option γ) U (fun n _=>ei v p fun a=>iG a (iG (Nat.succ n) (mR v q fun dv=>ajf dv n fun ld=>mR v p fun l=>azl ld dv n 10000001 l fun l=>apn l v k))) j
def azm (p q:List Mn)(v:Nat)(k:List Mn→Option γ):ahS p q v k=bd (tq p q v) k:=by
 unfold ahS tq
 rw[cj]
 cases dg v q with
 |zero=>rfl
 |succ n=>
  dsimp only
  rw[cj,fC,fC,lS,ae2]
  cases ah (dg v p) 10000000 with
  |false=>rfl
  |true=>
   show(match ah (n+1) 10000000 with|true=>_|false=>U)=_
   cases ah (n+1) 10000000 with
   |false=>rfl
   |true=>
    dsimp only
    cases (aS v q)[n]? with
    |none=>rfl
    |some ld=>
     dsimp only[bd]
     rw[lS,anA]
     cases psO ld (aS v q) n 10000001 (aS v p)with
     |none=>rfl
     |some l=>exact ax2 l v k
end
end
end Go.Proofs.YtfiijelajgifiaaGreat
