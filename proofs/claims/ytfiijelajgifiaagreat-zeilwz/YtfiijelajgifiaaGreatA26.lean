/-
  Part 26 of the machine and of the contracts of functions of the program (packed).
-/
import Derived.Test.YtfiijelajgifiaaGreatA25
set_option linter.all false
set_option linter.defProp false
open Bool renaming false→aa,true→ab,eq_iff_iff→aUp
open Int renaming reduceOfNat→ac,reduceNegSucc→ae,ofNat→af
open List renaming getElem?_eq_some_iff→aTU,length_cons→aTV,length_append→aTW,getElem?_eq_getElem→aTX,mem_cons→aTZ,mem_cons_self→aT0,mem_cons_of_mem→aT8,length_nil→aUf,drop_length→aUg,take_of_length_le→aUi,getElem?_set_ne→aUn,length_take→aUo,getElem?_append_left→aUs
open Nat renaming blt→ah,beq→ai,ble→aTQ,blt_eq→aTR,le_refl→aTS,lt_or_ge→aT6,le_trans→aUd,zero_add→aUe
open Option renaming some→Z,none→U
namespace Go.Proofs.YtfiijelajgifiaaGreat
noncomputable section
open Go Go.Mach Go.Flow
set_option maxRecDepth 100000
set_option maxHeartbeats 4000000
def aHt {z:Int}(h1 : -1000000000≤z)(h2:z≤1000000000):IntKind.i64.wrap z=z:=aov (by show(-9223372036854775808:Int)≤z;omega) (by show z≤(9223372036854775807:Int);omega)
def RwL (x:Nat)(H:Hp)(L:List D)(l:List (List Mn)):Prop:=l.length≤L.length∧∀(j:Nat) (d:D) (r:List Mn),L[j]?=Z d→l[j]?=Z r→RwX x H d r
def RwL.set {x:Nat}{H:Hp}{L:List D}{l:List (List Mn)}(h:RwL x H L l)(z:Option Blk):RwL x (H.set x z) L l:=⟨h.1,fun j d r hj hr=>(h.2 j d r hj hr).set z⟩
def RwL.put {x i:Nat}{H:Hp}{L:List D}{l:List (List Mn)}(h:RwL x H L l)(y:List Mn):RwL x H (L.set i (.c (pC y))) (l.set i y):=by
 refine⟨by rw[List.length_set,List.length_set];exact h.1,fun j d r hj hr=>?_⟩
 rcases Nat.decEq i j with hn|rfl
 ·rw[aUn hn]at hj hr
  exact h.2 j d r hj hr
 ·have h1:=(aTU.1 hj).1
  have h2:=(aTU.1 hr).1
  rw[List.length_set]at h1 h2
  rw[List.getElem?_set_self h1]at hj
  rw[List.getElem?_set_self h2]at hr
  cases hj;cases hr
  exact .inr (.inr rfl)
def CoR.rw {n0 x:Nat}{H:Hp}{L:List D}{l:List (List Mn)}(h:CoR n0 H L l)(hx:∀b,n0+1≤b→b<H.length→b≠x):RwL x H L l:=
 ⟨by rw[h.len];exact aTS _,fun j d r hj hr=>RwX.of_got (h.got j d r hj hr) fun b o k s e=>by
  subst e
  have:=(h.got j _ r hj hr).lt
  exact hx b this.1 this.2⟩
def RwL.fz {x k:Nat}{H:Hp}:∀{L:List D} {l:List (List Mn)},RwL x H L l→L.length=l.length→∃bs,kg (fz H (k+1)) L=Z (l.map pC,bs)∧x∉bs
 |[],[],_,_=>⟨[],rfl,by simp⟩
 |[],_::_,_,h=>by cases h
 |_::_,[],_,h=>by cases h
 |d::L,r::l,h,hl=>by
  obtain⟨b1,e1,n1⟩:=(h.2 0 d r rfl rfl).fz
  obtain⟨b2,e2,n2⟩:=RwL.fz (x:=x) (k:=k) (H:=H) (L:=L) (l:=l) ⟨by have:=h.1;simp only[aTV]at this;omega,fun j d r hj hr=>h.2 (j+1) d r hj hr⟩ (by simpa using hl)
  refine⟨b1++b2,?_,fun hm=>?_⟩
  ·rw[kg,e1,e2];rfl
  ·rcases List.mem_append.1 hm with hm|hm
   ·exact n1 hm
   ·exact n2 hm
def RwL.take {x n:Nat}{H:Hp}{L:List D}{l:List (List Mn)}(h:RwL x H L l)(hn:n≤l.length):RwL x H (L.take n) (l.take n)∧(L.take n).length=(l.take n).length:=by
 have h1:=h.1
 refine⟨⟨by rw[aUo,aUo];omega,fun j d r hj hr=>?_⟩,by rw[aUo,aUo];omega⟩
 rw[List.getElem?_take]at hj hr
 split at hj
 ·rename_i hjn
  rw[if_pos hjn]at hr
  exact h.2 j d r hj hr
 ·cases hj
def ai9 {x x0:Nat}{H:Hp}{L:List D}{l:List (List Mn)}(h:RwL x H L l)(h0:H[x0]?=Z (Z (.cells L))):∃bs,fz H 8 (.lsl x0 0 l.length 1)=Z (lC l,bs):=by
 obtain⟨h2,h3⟩:=h.take (aTS _)
 obtain⟨bs,e,_⟩:=h2.fz (k:=6) h3
 rw[List.take_length]at e
 refine⟨x0::bs,?_⟩
 rw[Go.Mach.fz,h0]
 have h4:l.length≤L.length:=h.1
 simp only[aUe,h4,↓reduceIte,List.drop_zero,Nat.mul_one,e]
def asS {N:Nt}{x x0 n:Nat}{H:Hp}{S:List Nat}{L:List D}{l:List (List Mn)}{r:List Mn}(h:RwL x H L l)(h0:H[x0]?=Z (Z (.cells L)))(hn:l.length=n)(e:N [lV l]=Z [pV r]):
  ∃S',bC N [cD x0 n] H S=Z (pT r,H,S',[]):=by
 obtain⟨bs,e1⟩:=ai9 h h0
 subst hn
 exact⟨_,by simp only[bC,o6,jc,oS,nu,e1,e,Option.map_some];rfl⟩
def aoW {N:Nt}{x x0 n v:Nat}{H:Hp}{S:List Nat}{L:List D}{l:List (List Mn)}{r:List Mn}(h:RwL x H L l)(h0:H[x0]?=Z (Z (.cells L)))(hn:l.length=n)(e:N [lV l,sV (af v)]=Z [pV r]):
  ∃S',bC N [cD x0 n,iT v] H S=Z (pT r,H,S',[]):=by
 obtain⟨bs,e1⟩:=ai9 h h0
 subst hn
 have e2:fz H 8 (.c (.v (.int .i64 (af v))))=Z (.v (.int .i64 (af v)),[]):=rfl
 exact⟨_,by simp only[bC,o6,jc,oS,nu,e1,e2,e,Option.map_some];rfl⟩
structure PsJ (x0 x1:Nat) (H:Hp) (S:List Nat) (L M:List D) (l dv:List (List Mn)) (g:D) (top:List Mn):Prop where
 b0:H[x0]?=Z (Z (.cells L))
 b1:H[x1]?=Z (Z (.cells M))
 ne:x0≠x1
 s0:x0∉S
 l0:RwL x0 H L l
 m0:RwL x0 H M dv
 g0:RwX x0 H g top
def PsJ.next {x0 x1 i:Nat}{H:Hp}{S S':List Nat}{L M:List D}{l dv:List (List Mn)}{g:D}{top:List Mn}(h:PsJ x0 x1 H S L M l dv g top)(hS:x0∉S')(y:List Mn):PsJ x0 x1 (H.set x0 (Z (.cells (L.set i (.c (pC y)))))) S' (L.set i (.c (pC y))) M (l.set i y) dv g top:=
 ⟨List.getElem?_set_self (aTU.1 h.b0).1,by rw[aUn h.ne];exact h.b1,h.ne,hS,(h.l0.set _).put y,h.m0.set _,h.g0.set _⟩
section
variable {x0 x1 n sh v:Nat} {M:List D} {g:D} {dv R l0:List (List Mn)} {ld top:List Mn} {t1 t3 t6 t7 t10 t12 t13 t14 t15 t16:T} {cf:av}
def zt {ld top:List Mn}{dv:List (List Mn)}{sh:Nat}:∀{l:List (List Mn)} {i:Nat} {o:List (List Mn)},mw ld top dv sh i l=Z o→(∀q∈o,PF q)∧o.length=l.length
 |[],i,o,h=>by rw[mw]at h;cases h;exact⟨fun q hq=>(by cases hq),rfl⟩
 |x::r,i,o,h=>by
  rw[mw]at h
  split at h
  ·cases h
  rename_i y hy
  split at h
  ·split at h
   ·rename_i o' ho
    cases h
    obtain⟨h1,h2⟩:=zt ho
    refine⟨fun q hq=>?_,by rw[aTV,aTV,h2]⟩
    rcases aTZ.1 hq with rfl|hq
    ·exact eU hy
    ·exact h1 q hq
   ·cases h
  ·split at h
   ·cases h
   split at h
   ·cases h
   rename_i z hz
   split at h
   ·cases h
   rename_i w hw
   split at h
   ·rename_i o' ho
    cases h
    obtain⟨h1,h2⟩:=zt ho
    refine⟨fun q hq=>?_,by rw[aTV,aTV,h2]⟩
    rcases aTZ.1 hq with rfl|hq
    ·unfold tC at hw
     split at hw
     ·rename_i g;cases hw;exact gB g
     ·cases hw
    ·exact h1 q hq
   ·cases h
def aFZ {H0:Hp}{S0 W0:List Nat}{L0:List D}(hJ:PsJ x0 x1 H0 S0 L0 M l0 dv g top)(hl:l0.length<10000000)(hnl:n≤l0.length)(hM:dv[n]?=Z ld)(hdn:dv.length=n+1)(hpf:∀q∈l0,PF q)(hdf:∀q∈dv,PF q)(htp:PF top)
  (hR:mw ld top dv (l0.length-n) 0 l0=Z R)
  (c1:CA cf 89 bU)(c2:CA cf 104 cS):
  ∃t1' t3' t6' t7' H S W L,aG (am cf ak md) ak ⟨zu x0 x1 n l0.length 0 v g t1 t3 t6 t7 t10 t12 t13 t14 t15 t16,H0,S0,W0,[]⟩=Z (.exit 2,⟨zu x0 x1 n l0.length l0.length v g t1' t3' t6' t7' t10 t12 t13 t14 t15 t16,H,S,W,[]⟩)∧PsJ x0 x1 H S L M R dv g top:=by
 have hld:PF ld:=hdf ld (List.mem_of_getElem? hM)
 obtain⟨sh,hsh⟩:∃sh,l0.length-n=sh:=⟨_,rfl⟩
 rw[hsh]at hR
 have w1:IntKind.i64.wrap (af l0.length-af n)=af sh:=by
  rw[show af l0.length-af n=af sh by rw[← hsh];show((l0.length:Int)-n)=((l0.length-n:Nat):Int);omega,lk,pf,if_pos (by omega)]
 obtain⟨st',hlp,t1',t3',t6',t7',H,S,W,L,rfl,hJ'⟩:=bq (body:=am cf ak md) (id:=2) l0.length
  (fun i st=>∃t1 t3 t6 t7 H S W L l o,st=⟨zu x0 x1 n l0.length i v g t1 t3 t6 t7 t10 t12 t13 t14 t15 t16,H,S,W,[]⟩∧PsJ x0 x1 H S L M l dv g top∧l.length=l0.length∧l.drop i=l0.drop i∧mw ld top dv sh i (l0.drop i)=Z o∧l.take i++o=R)
  (fun st=>∃t1 t3 t6 t7 H S W L,st=⟨zu x0 x1 n l0.length l0.length v g t1 t3 t6 t7 t10 t12 t13 t14 t15 t16,H,S,W,[]⟩∧PsJ x0 x1 H S L M R dv g top)
  (fun i st hi=>by
   rintro⟨t1,t3,t6,t7,H,S,W,L,l,o,rfl,hJ,hll,hld0,ho,hR⟩
   obtain⟨x,u,hm⟩:=bo hi
   have hx:=hpf x (aX hm)
   rw[hm]at hld0 ho
   have hil:i<l.length:=by rw[hll];exact hi
   have hlx:l[i]?=Z x:=by
    have:=List.getElem?_drop (xs:=l) (i:=i) (j:=0)
    rw[hld0]at this
    simpa using this.symm
   obtain⟨d,hd⟩:∃d,L[i]?=Z d:=⟨_,aTX (by have:=hJ.l0.1;omega)⟩
   obtain⟨e,he⟩:∃e,M[n]?=Z e:=⟨_,aTX (by have:=hJ.m0.1;omega)⟩
   have rx:=hJ.l0.2 i d x hd hlx
   have re:=hJ.m0.2 n e ld he hM
   rw[mw]at ho
   split at ho
   ·cases ho
   rename_i y hy
   have py:=eU hy
   obtain⟨S1,e1,n1⟩:=amn (S:=S) rx re (iF hx hld hy) hJ.s0
   have fin:∀(q:List Mn) (o':List (List Mn)),o=q::o'→(l.set i q).take (i+1)++o'=R:=fun q o' hq=>by
    rw[← hR,hq,List.take_set,← List.take_append_getElem (by omega:i<l.length),List.set_append_right _ _ (by rw[aUo];omega)]
    simp[Nat.min_eq_left (Nat.le_of_lt hil)]
   have fin2:∀q:List Mn,(l.set i q).drop (i+1)=l0.drop (i+1):=fun q=>by
    rw[List.drop_set_of_lt (Nat.lt_succ_self i),bf hld0,bf hm]
   split at ho
   ·rename_i hb
    split at ho
    rotate_left
    ·cases ho
    rename_i o' ho'
    cases ho
    have hlt:i<sh:=by
     rcases aT6 i sh with h|h
     ·exact h
     ·rw[Nat.ble_eq_true_of_le h]at hb;cases hb
    have w2:IntKind.i64.wrap (af i-af sh)=(i:Int)-sh:=by
     show IntKind.i64.wrap ((i:Int)-sh)=_
     exact aHt (by omega) (by omega)
    obtain⟨t1',t3',t6',t7',W',es⟩:=aK7 (v:=v) (g:=g) (t1:=t1) (t3:=t3) (t6:=t6) (t7:=t7) (t10:=t10) (t12:=t12) (t13:=t13) (t14:=t14) (t15:=t15) (t16:=t16) (W:=W) hi hl hd he hJ.b0 hJ.b1 n1 e1 w1 w2 (by rw[decide_eq_false_iff_not];show ¬((i:Int)-sh≥0);omega) c1 ak
    exact⟨_,es,_,_,_,_,_,_,_,_,_,o',rfl,hJ.next n1 y,by rw[List.length_set];exact hll,fin2 y,by rw[bf hm];exact ho',fin y o' rfl⟩
   ·rename_i hb
    have hge:=Nat.le_of_ble_eq_true hb
    split at ho
    ·cases ho
    rename_i dk hdk
    split at ho
    ·cases ho
    rename_i z hz
    split at ho
    ·cases ho
    rename_i w hw
    split at ho
    rotate_left
    ·cases ho
    rename_i o' ho'
    cases ho
    have hkk:i-sh<n+1:=by rw[← hdn];exact(aTU.1 hdk).1
    obtain⟨f,hf⟩:∃f,M[i-sh]?=Z f:=⟨_,aTX (by have:=hJ.m0.1;omega)⟩
    have w2:IntKind.i64.wrap (af i-af sh)=af (i-sh):=by
     rw[show af i-af sh=af (i-sh) by show((i:Int)-sh)=((i-sh:Nat):Int);omega,lk,pf,if_pos (by omega)]
    have hJ1:=hJ.next (i:=i) n1 y
    have pz:=eU hz
    obtain⟨S2,e2,n2⟩:=amn (S:=S1) hJ1.g0 (hJ1.m0.2 _ f dk hf hdk) (iF htp (hdf dk (List.mem_of_getElem? hdk)) hz) n1
    have e3:=ve py pz
    unfold tC at hw
    split at hw
    rotate_left
    ·cases hw
    cases hw
    obtain⟨t1',t3',t6',t7',W',es⟩:=aFY (v:=v) (g:=g) (t1:=t1) (t3:=t3) (t6:=t6) (t7:=t7) (t10:=t10) (t12:=t12) (t13:=t13) (t14:=t14) (t15:=t15) (t16:=t16) (W:=W) hi hl hJ.ne hd he hf hkk hJ.b0 hJ.b1 n1 n2 e1 e2 e3 w1 w2 c1 c2 ak
    exact⟨_,es,_,_,_,_,_,_,_,_,_,o',rfl,hJ.next n2 _,by rw[List.length_set];exact hll,fin2 _,by rw[bf hm];exact ho',fin _ o' rfl⟩)
  (fun st=>by
   rintro⟨t1,t3,t6,t7,H,S,W,L,l,o,rfl,hJ,hll,hld0,ho,hR⟩
   rw[aUg,mw]at ho
   cases ho
   rw[List.append_nil,aUi (by omega)]at hR
   subst hR
   obtain⟨t6',e⟩:=aK6 (x0:=x0) (x1:=x1) (n:=n) (n1:=l0.length) (v:=v) (g:=g) (t1:=t1) (t3:=t3) (t6:=t6) (t7:=t7) (t10:=t10) (t12:=t12) (t13:=t13) (t14:=t14) (t15:=t15) (t16:=t16) (H:=H) (S:=S) (W:=W) (cf:=cf) ak
   exact⟨_,e,_,_,_,_,_,_,_,_,rfl,hJ⟩)
  ak ⟨zu x0 x1 n l0.length 0 v g t1 t3 t6 t7 t10 t12 t13 t14 t15 t16,H0,S0,W0,[]⟩ ⟨t1,t3,t6,t7,H0,S0,W0,L0,l0,R,rfl,hJ,rfl,rfl,hR,rfl⟩ (aN hl)
 exact⟨_,_,_,_,_,_,_,_,hlp,hJ'⟩
end
def uns {α:Type}:List α→Option (List α × α)
 |[]=>U
 |x::l=>match uns l with|none=>Z ([],x)|some (i,t)=>Z (x::i,t)
def aac {α:Type}:∀{l:List α} {i:List α} {t:α},uns l=Z (i,t)→l=i++[t]
 |[],i,t,h=>by cases h
 |x::l,i,t,h=>by
  rw[uns]at h
  split at h
  ·rename_i e
   cases h
   cases l with
   |nil=>rfl
   |cons y l=>rw[uns]at e;split at e<;>cases e
  ·rename_i i' t' e
   cases h
   rw[aac e];rfl
def psO (ld:List Mn)(dv:List (List Mn))(n:Nat):Nat→List (List Mn)→Option (List (List Mn))
 |0,_=>U
 |f+1,l=>match aTQ l.length n with
  |true=>Z l
  |false=>match uns l with
   |none=>U
   |some (i,top)=>match mw ld top dv (i.length-n) 0 i with
    |none=>U
    |some o=>psO ld dv n f o
def tq (p q:List Mn)(v:Nat):Option (List Mn):=match dg v q with
 |0=>U
 |n+1=>match ah (dg v p) 10000000,ah (n+1) 10000000 with
  |true,ab=>(match (aS v q)[n]? with
   |none=>U
   |some ld=>match psO ld (aS v q) n 10000001 (aS v p)with
    |none=>U
    |some l=>kP l v)
  |_,_=>U
def afv {ld:List Mn}{dv:List (List Mn)}{n:Nat}:∀{f:Nat} {l o:List (List Mn)},psO ld dv n f l=Z o→(∀q∈l,PF q)→(∀q∈o,PF q)∧o.length≤l.length
 |0,l,o,h,_=>by cases h
 |f+1,l,o,h,hl=>by
  rw[psO]at h
  split at h
  ·cases h;exact⟨hl,aTS _⟩
  ·split at h
   ·cases h
   rename_i i top e
   split at h
   ·cases h
   rename_i o' e'
   obtain⟨h1,h2⟩:=zt e'
   obtain⟨h3,h4⟩:=afv h h1
   have h5:=congrArg List.length (aac e)
   rw[aTW]at h5
   simp only[aTV,aUf]at h5
   exact⟨h3,by omega⟩
def aF8 {p q r:List Mn}{v:Nat}(hp:PF p)(h:tq p q v=Z r):PF r:=by
 unfold tq at h
 split at h
 ·cases h
 ·split at h
  ·split at h
   ·cases h
   split at h
   ·cases h
   rename_i l e
   exact aze (afv e (iJ hp)).1 h
  ·cases h
section
variable {x0 x1 n v:Nat} {M:List D} {dv:List (List Mn)} {ld:List Mn} {t1 t2 t3 t6 t7 t8 t9 t10 t12 t13 t14 t15 t16:T} {cf:av}
abbrev psU (x0 x1 n n1 v:Nat)(t1 t2 t3 t6 t7 t8 t9 t10 t12 t13 t14 t15 t16:T):List T:=[cD x0 n1,t1,t2,t3,iT n,cD x1 (n+1),t6,t7,t8,t9,t10,iT v,t12,t13,t14,t15,t16]
structure PsQ (x0 x1:Nat) (H:Hp) (S:List Nat) (L M:List D) (l dv:List (List Mn)):Prop where
 b0:H[x0]?=Z (Z (.cells L))
 b1:H[x1]?=Z (Z (.cells M))
 ne:x0≠x1
 s0:x0∉S
 l0:RwL x0 H L l
 m0:RwL x0 H M dv
def aF1 {H:Hp}{S W:List Nat}{L:List D}{l i R:List (List Mn)}{top:List Mn}(hQ:PsQ x0 x1 H S L M l dv)(hl:l=i++[top])(hll:l.length<10000000)(hn:n<l.length)(hM:dv[n]?=Z ld)(hdn:dv.length=n+1)(hpf:∀q∈l,PF q)(hdf:∀q∈dv,PF q)
  (hR:mw ld top dv (i.length-n) 0 i=Z R)
  (c1:CA cf 89 bU)(c2:CA cf 104 cS):
  ∃t1' t2' t3' t6' t7' t8' t9' t10' H' S' W' L',am cf ak yB ⟨psU x0 x1 n l.length v t1 t2 t3 t6 t7 t8 t9 t10 t12 t13 t14 t15 t16,H,S,W,[]⟩=
   Z (.normal,⟨psU x0 x1 n R.length v t1' t2' t3' t6' t7' t8' t9' t10' t12 t13 t14 t15 t16,H',S',W',[]⟩)∧PsQ x0 x1 H' S' L' M R dv:=by
 have hil:l.length=i.length+1:=by rw[hl,aTW];rfl
 have h1:l[i.length]?=Z top:=by rw[hl,List.getElem?_append_right (aTS _),Nat.sub_self];rfl
 obtain⟨g,hg⟩:∃g,L[i.length]?=Z g:=⟨_,aTX (by have:=hQ.l0.1;omega)⟩
 have rg:=hQ.l0.2 _ g top hg h1
 have hJ:PsJ x0 x1 H S L M i dv g top:=⟨hQ.b0,hQ.b1,hQ.ne,hQ.s0,⟨by have:=hQ.l0.1;omega,fun j d r hj hr=>hQ.l0.2 j d r hj (by rw[hl,aUs (aTU.1 hr).1];exact hr)⟩,hQ.m0,rg⟩
 have hw:IntKind.i64.wrap (af (i.length+1)-af 1)=af i.length:=by rw[dJ (by omega)];rfl
 have hb0:=hQ.b0
 have a1:=fY hg
 have a2:i.length+1≤L.length:=(aTU.1 hg).1
 have a3:i.length<i.length+1:=Nat.lt_succ_self _
 have a4:i.length≤i.length+1:=Nat.le_succ _
 have a5:i.length+1>n:=by omega
 obtain⟨t1',t3',t6',t7',H',S',W',L',hlp,hJ'⟩:=aFZ (v:=v) (t1:=t1) (t3:=t3) (t6:=t6) (t7:=t7) (t10:=bj ab) (t12:=t12) (t13:=t13) (t14:=t14) (t15:=t15) (t16:=t16) (W0:=W) hJ (by omega) (by omega) hM hdn (fun q hq=>hpf q (by rw[hl];exact List.mem_append_left _ hq)) hdf (hpf top (by rw[hl];simp)) hR c1 c2
 have hRl:=(zt hR).2
 rw[hil,hRl]
 refine⟨t1',iT i.length,t3',t6',t7',.t (.one g),iT i.length,bj ab,H',S',W',L',?_,⟨hJ'.b0,hJ'.b1,hJ'.ne,hJ'.s0,hJ'.l0,hJ'.m0⟩⟩
 have a6:IntKind.i64.wrap (af i.length)=af i.length:=by rw[lk,pf,if_pos (by omega)]
 have b0:∀k:Nat,(if 0<k then Z (T.t (T1.one (D.lsl x0 0 k 1))) else Z (T.t (T1.one (D.lsl x0 0 0 1))))=Z (T.t (T1.one (D.lsl x0 0 k 1))):=fun k=>by
  cases k with
  |zero=>rfl
  |succ k=>rfl
 simp(maxSteps:=9^9) only[au,seval,-ac,-ae,asm,ar,b0,hb0,Nat.add_sub_cancel,a6,a1,a2,a3,a4,a5,hlp]
def aLc {H:Hp}{S W:List Nat}{n1:Nat}(h:¬n<n1)(fl:Nat):
  ∃t10',am cf fl yB ⟨psU x0 x1 n n1 v t1 t2 t3 t6 t7 t8 t9 t10 t12 t13 t14 t15 t16,H,S,W,[]⟩=Z (.exit 0,⟨psU x0 x1 n n1 v t1 t2 t3 t6 t7 t8 t9 t10' t12 t13 t14 t15 t16,H,S,W,[]⟩):=by
 simp(maxSteps:=9^9) only[au,seval,-ac,-ae,asm,ar,h]
 exact⟨_,rfl⟩
end
def tPsM  : Ft:=.n (.n (.n .z 89 (.nat bU) U .z) 92 (.nat a9) U .z) 104 (.nat cS) U (.n (.n .z 106 (.code jU.1) U .z) 259 (.nat wv) U .z)
def aHe   {k:Cls}:tPsM.Ok Tryz.prog k aH:=⟨⟨⟨tv,jQ,tv,tv⟩,jP,tv,tv⟩,sA,tv,⟨⟨tv,jU.2,tv,tv⟩,auX,tv,tv⟩⟩
def aF6 {p q r:List Mn}{v:Nat}(hp:PF p)(hq:PF q)(hv:v<4)(h:tq p q v=Z r):bM (ao tPsM.tb ak 8) ak zL.1 [pV p,pV q,sV (af v)]=Z [pV r,sV (af 0)]:=by
 have c0:∀x y H S,ao tPsM.tb ak 8 (fT 106) [x,y] H S=cy (ao tPsM.tb ak 7) ak jU.1 [x,y] H S:=fun _ _ _ _=>rfl
 have c0':CA (ao tPsM.tb ak 7) 92 a9:=fun _ _ _=>rfl
 have c1:CA (ao tPsM.tb ak 8) 89 bU:=fun _ _ _=>rfl
 have c2:CA (ao tPsM.tb ak 8) 104 cS:=fun _ _ _=>rfl
 have c3:CA (ao tPsM.tb ak 8) 259 wv:=fun _ _ _=>rfl
 generalize ao tPsM.tb ak 8=cf at*
 generalize ao tPsM.tb ak 7=cg at*
 unfold tq at h
 split at h
 ·cases h
 rename_i n hn
 split at h
 rotate_left
 ·cases h
 rename_i k1 k2
 rw[aTR]at k1 k2
 split at h
 ·cases h
 rename_i ld hld
 split at h
 ·cases h
 rename_i l hl
 obtain⟨H1,W1,M,e1,i1,f1⟩:=rW hq hv (by omega) c0' []
 obtain⟨H2,W2,L,e2,i2,f2⟩:=rW hp hv k1 c0' H1
 rw[hn]at e1
 have hdn:(aS v q).length=n+1:=by unfold aS;rw[mQ,hn]
 have hrn:(aS v p).length=dg v p:=by unfold aS;rw[mQ]
 have hb1:=(aTU.1 i1.blk).1
 have i1':CoR 0 H1 M (aS v q):=i1
 have hQ:PsQ H1.length 0 H2 [] L M (aS v p) (aS v q):=by
  refine⟨i2.blk,by rw[f2 0 hb1];exact i1.blk,by omega,by simp,i2.rw fun b h1 _=>by omega,?_⟩
  have hr:=i1'.rw (x:=H1.length) fun b _ h2=>by omega
  refine⟨hr.1,fun j d r hj hr'=>?_⟩
  rcases hr.2 j d r hj hr' with h|⟨b,ds,hne,hd,hb,ht⟩|h
  ·exact .inl h
  ·exact .inr (.inl ⟨b,ds,hne,hd,by rw[f2 b (aTU.1 hb).1];exact hb,ht⟩)
  ·exact .inr (.inr h)
 obtain⟨_,st',hlp,_,rfl,t1,t2,t3,t6,t7,t8,t9,t10,H,S,W,L',rfl,hQ'⟩:=bg (body:=am cf ak yB)
  (fun(s:Nat × List (List Mn)) st=>psO ld (aS v q) n s.1 s.2=Z l∧(∀x∈s.2,PF x)∧s.2.length<10000000∧∃t1 t2 t3 t6 t7 t8 t9 t10 H S W L,st=⟨psU H1.length 0 n s.2.length v t1 t2 t3 t6 t7 t8 t9 t10 aR (iT 0) (pT q) (bj aa) (pT p),H,S,W,[]⟩∧PsQ H1.length 0 H S L M s.2 (aS v q)) (fun s=>s.1)
  (fun x st'=>x=.exit 0∧∃t1 t2 t3 t6 t7 t8 t9 t10 H S W L,st'=⟨psU H1.length 0 n l.length v t1 t2 t3 t6 t7 t8 t9 t10 aR (iT 0) (pT q) (bj aa) (pT p),H,S,W,[]⟩∧PsQ H1.length 0 H S L M l (aS v q))
  (fun s st hI=>by
   obtain⟨f,lr⟩:=s
   obtain⟨h1,h2,h3,t1,t2,t3,t6,t7,t8,t9,t10,H,S,W,L,rfl,hQ⟩:=hI
   dsimp only at h1 h2 h3 hQ
   match f,h1 with
   |0,h1=>cases h1
   |f+1,h1=>
    rw[psO]at h1
    split at h1
    ·rename_i hb
     cases h1
     have hle:=Nat.le_of_ble_eq_true hb
     obtain⟨t10',e⟩:=aLc (x0:=H1.length) (x1:=0) (n:=n) (n1:=l.length) (v:=v) (t1:=t1) (t2:=t2) (t3:=t3) (t6:=t6) (t7:=t7) (t8:=t8) (t9:=t9) (t10:=t10) (t12:=aR) (t13:=iT 0) (t14:=pT q) (t15:=bj aa) (t16:=pT p) (H:=H) (S:=S) (W:=W) (cf:=cf) (by omega) ak
     exact .inr ⟨_,_,e,by simp,rfl,_,_,_,_,_,_,_,_,_,_,_,_,rfl,hQ⟩
    ·rename_i hb
     have hlt:n<lr.length:=by
      rcases aT6 n lr.length with h|h
      ·exact h
      ·rw[Nat.ble_eq_true_of_le h]at hb;cases hb
     split at h1
     ·cases h1
     rename_i i top hu
     split at h1
     ·cases h1
     rename_i o ho
     obtain⟨h4,h5⟩:=zt ho
     have h6:=congrArg List.length (aac hu)
     rw[aTW]at h6
     simp only[aTV,aUf]at h6
     obtain⟨t1',t2',t3',t6',t7',t8',t9',t10',H',S',W',L',e,hQ'⟩:=aF1 (v:=v) (t1:=t1) (t2:=t2) (t3:=t3) (t6:=t6) (t7:=t7) (t8:=t8) (t9:=t9) (t10:=t10) (t12:=aR) (t13:=iT 0) (t14:=pT q) (t15:=bj aa) (t16:=pT p) (W:=W) hQ (aac hu) h3 hlt hld hdn h2 (iJ hq) ho c1 c2
     exact .inl ⟨(f,o),_,e,⟨h1,h4,by dsimp only;omega,_,_,_,_,_,_,_,_,_,_,_,_,rfl,hQ'⟩,Nat.lt_succ_self f⟩)
  ak (10000001,aS v p) ⟨psU H1.length 0 n (aS v p).length v .nil .nil .nil .nil .nil .nil .nil .nil aR (iT 0) (pT q) (bj aa) (pT p),H2,[],W2++W1,[]⟩ ⟨hl,iJ hp,by rw[hrn];exact k1,_,_,_,_,_,_,_,_,_,_,_,L,rfl,hQ⟩ (eI (by omega))
 obtain⟨hlf,hll⟩:=afv hl (iJ hp)
 obtain⟨S',e3⟩:=aoW (N:=wv) (S:=S) hQ'.l0 hQ'.b0 rfl (aFz hlf (by omega) hv h)
 have hql:(q.length==0)=aa:=by
  cases q with
  |nil=>cases hn
  |cons m t=>rfl
 have hw:IntKind.i64.wrap (af (n+1)-af 1)=af n:=by rw[dJ (by omega)];rfl
 rw[hrn]at hlp
 have e1':cy cg ak jU.1 [pT q,iT v] [] []=Z (cD 0 (n+1),H1,[],W1):=e1
 have k3:=(c3 _ _ _).trans e3
 have k4:=(c0 _ _ _ _).trans e1'
 have k5:=(c0 _ _ _ _).trans e2
 have a6:IntKind.i64.wrap (af n)=af n:=by rw[lk,pf,if_pos (by omega)]
 simp(maxSteps:=9^9) only[au,seval,-ac,-ae,aQZ,ar,k4,k5,k3,hql,Nat.add_sub_cancel,a6,hlp]
def gx:Nt:=wF fun p q v=>match tq p q v with|some r=>Z [pV r,sV (af 0)]|none=>U
def wx {p q r:List Mn}{v:Nat}(hp:PF p)(hq:PF q)(hv:v<4)(h:tq p q v=Z r):gx [pV p,pV q,sV (af v)]=Z [pV r,sV (af 0)]:=by
 unfold gx
 rw[zo hp hq hv]
 simp only[h]
def al0 {k:Cls}:Cn k 229 gx:=tU (ay aHe zL.2 ak ak 8) fun p q v rs hp hq hv h=>by
 split at h
 ·rename_i r e
  cases h;exact aF6 hp hq hv e
 ·cases h
def gC (G:Gt)(p:List Mn)(v:Nat):Option (List Mn):=match ah (dg v p) 10000000 with
 |true=>tI G (aS v p) []
 |false=>U
def nB (G:Gt)(p:List Mn)(v:Nat):Option (List Mn):=match p with
 |[]=>Z []
 |m::t=>match gC G (m::t) v with
  |some c=>j9 (m::t) c
  |none=>U
def asJ {G:Gt}(hG:jK G):∀{l:List (List Mn)} {o r:List Mn},(∀c∈l,PF c)→PF o→tI G l o=Z r→PF r
 |[],o,r,_,ho,h=>by rw[tI]at h;cases h;exact ho
 |c::l,o,r,hl,ho,h=>by
  rw[tI]at h
  split at h
  ·rename_i o' g
   have po:=hG o c o' ho (hl c aT0) g
   split at h
   ·cases h;exact po
   ·exact asJ hG (fun x hx=>hl x (aT8 _ hx)) po h
  ·cases h
def kW {G:Gt}(hG:jK G){p r:List Mn}{v:Nat}(hp:PF p)(h:gC G p v=Z r):PF r:=by
 unfold gC at h
 split at h
 ·exact asJ hG (iJ hp) jm h
 ·cases h
def azi {G:Gt}{p r:List Mn}{v:Nat}(h:nB G p v=Z r):PF r:=by
 unfold nB at h
 split at h
 ·cases h;exact jm
 ·split at h
  ·exact acq h
  ·cases h
def aKJ {G:Gt}{l:List (List Mn)}{r:List Mn}(hl:∀q∈l,PF q)(hn:l.length<10000000)(h:tI G l []=Z r):ml G [lV l]=Z [pV r]:=by
 simp only[ml,aCS hl hn,h]
def z9 (Ng:Nt):Ft:=.n (.n .z 92 (.nat a9) U .z) 106 (.code jU.1) U (.n .z 227 (.nat Ng) U .z)
def aGZ {Ng:Nt}(hg:∀{k:Cls},Cn k 227 Ng){k:Cls}:(z9 Ng).Ok Tryz.prog k aH:=⟨⟨tv,jP,tv,tv⟩,jU.2,tv,⟨tv,hg,tv,tv⟩⟩
def atb {G:Gt}{p r:List Mn}{v:Nat}(hp:PF p)(hv:v<4)(h:gC G p v=Z r):bM (ao (z9 (ml G)).tb ak 8) ak acs.1 [pV p,sV (af v)]=Z [pV r]:=by
 have c0:∀x y H S,ao (z9 (ml G)).tb ak 8 (fT 106) [x,y] H S=cy (ao (z9 (ml G)).tb ak 7) ak jU.1 [x,y] H S:=fun _ _ _ _=>rfl
 have c0':∀al H S,ao (z9 (ml G)).tb ak 7 (fT 92) al H S=bC a9 al H S:=fun _ _ _=>rfl
 have c1:∀al H S,ao (z9 (ml G)).tb ak 8 (fT 227) al H S=bC (ml G) al H S:=fun _ _ _=>rfl
 generalize ao (z9 (ml G)).tb ak 8=cf at*
 generalize ao (z9 (ml G)).tb ak 7=cg at*
 unfold gC at h
 split at h
 rotate_left
 ·cases h
 rename_i k1
 rw[aTR]at k1
 obtain⟨H1,W1,M,e1,i1,f1⟩:=rW hp hv k1 c0' []
 have hrn:(aS v p).length=dg v p:=by unfold aS;rw[mQ]
 have hb1:=(aTU.1 i1.blk).1
 have e1':cy cg ak jU.1 [pT p,iT v] [] []=Z (cD 0 (dg v p),H1,[],W1):=e1
 obtain⟨S',e3⟩:=asS (N:=ml G) (S:=[]) (i1.rw (x:=H1.length) fun b _ h2=>by omega) i1.blk hrn (aKJ (iJ hp) (by rw[hrn];exact k1) h)
 have e3':bC (ml G) [cD 0 (dg v p)] H1 []=Z (pT r,H1,S',[]):=e3
 have k3:=(c1 _ _ _).trans e3'
 have k4:=(c0 _ _ _ _).trans e1'
 simp(maxSteps:=9^9) only[au,seval,-ac,-ae,aQA,ar,k4,k3]
def qX (G:Gt):Nt:=sO fun p v=>match gC G p v with|some r=>Z [pV r]|none=>U
def qY {G:Gt}{p r:List Mn}{v:Nat}(hp:PF p)(hv:v<4)(h:gC G p v=Z r):qX G [pV p,sV (af v)]=Z [pV r]:=by
 unfold qX
 rw[wG hp hv]
 simp only[h]
def agN {G:Gt}(hG:jK G)(hg:∀{k:Cls},Cn k 91 (nG G)){k:Cls}:Cn k 169 (qX G):=lU (ay (aGZ (ayF hG hg)) acs.2 ak ak 8) fun p v rs hp hv h=>by
 split at h
 ·rename_i r e
  cases h;exact atb hp hv e
 ·cases h
def aNz (Ng:Nt):Ft:=.n (.n .z 169 (.nat Ng) U .z) 171 (.nat jl) U .z
def aHd {Ng:Nt}(hg:∀{k:Cls},Cn k 169 Ng){k:Cls}:(aNz Ng).Ok Tryz.prog k aH:=⟨⟨tv,hg,tv,tv⟩,yY,tv,tv⟩
def aF4 {v:Nat}{cf:av}:bM cf ak wI.1 [pV [],sV (af v)]=Z [pV []]:=by
 simp(maxSteps:=9^9) only[au,seval,-ac,-ae,aHR,ar,pL,aUf]
 rfl
def aF5 {N:Nt}{p c r:List Mn}{v:Nat}{cf:av}(z:(p.length==0)=aa)(e1:N [pV p,sV (af v)]=Z [pV c])(e2:jl [pV p,pV c]=Z [pV r])
  (c1:CA cf 169 N)(c2:CA cf 171 jl):
  bM cf ak wI.1 [pV p,sV (af v)]=Z [pV r]:=by
 simp(maxSteps:=9^9) only[au,seval,-ac,-ae,aHR,ar,c1,c2,e1,e2,z]
def avN {G:Gt}(hG:jK G){p r:List Mn}{v:Nat}(hp:PF p)(hv:v<4)(h:nB G p v=Z r):bM (ao (aNz (qX G)).tb 10 8) ak wI.1 [pV p,sV (af v)]=Z [pV r]:=by
 unfold nB at h
 split at h
 ·cases h;exact aF4
 ·split at h
  ·rename_i c g
   exact aF5 (N:=qX G) rfl (qY hp hv g) (acj hp (kW hG hp g) h) (fun _ _ _=>rfl) (fun _ _ _=>rfl)
  ·cases h
def oo (G:Gt):Nt:=sO fun p v=>match nB G p v with|some r=>Z [pV r]|none=>U
def ay7 {G:Gt}{p r:List Mn}{v:Nat}(hp:PF p)(hv:v<4)(h:nB G p v=Z r):oo G [pV p,sV (af v)]=Z [pV r]:=by
 unfold oo
 rw[wG hp hv]
 simp only[h]
def auZ {G:Gt}(hG:jK G)(hg:∀{k:Cls},Cn k 91 (nG G)){k:Cls}:Cn k 177 (oo G):=lU (ay (aHd (agN hG hg)) wI.2 10 ak 8) fun p v rs hp hv h=>by
 split at h
 ·rename_i r e
  cases h;exact avN hG hp hv e
 ·cases h
def sqM (G:Gt)(v:Nat):Nat→List Mn→List Mn→Option (List Mn)
 |0,_,_=>U
 |g+1,a,b=>match tq a b v with
  |none=>U
  |some []=>Z b
  |some (m::t)=>match ai (dg v (m::t)) 1 with
   |true=>Z (cQ (Q.whole 1))
   |false=>match nB G (m::t) v with
    |none=>U
    |some r1=>match fw r1 with
     |none=>U
     |some r2=>sqM G v g b r2
section
variable {N:Nt} {a b r r1 r2 u:List Mn} {v K:Nat} {t2 t4 t5 t6 t7 t8 t9 t10 t11:T} {H:Hp} {W:List Nat} {cf:av}
def aKF (e1:gx [pV a,pV b,sV (af v)]=Z [pV [],sV (af 0)])(c1:CA cf 229 gx)(fl:Nat):
  ∃t2' t5' t6' H' W',am cf fl nX ⟨[pT b,iT v,t2,pT a,t4,t5,t6,t7,t8,t9,t10,t11],H,[],W,[]⟩=Z (.ret,⟨[pT b,iT v,t2',pT a,pT b,t5',t6',t7,t8,t9,t10,t11],H',[],W',[]⟩):=by
 have e0:pC []=.sl 0 []:=rfl
 simp(maxSteps:=9^9) only[au,seval,-ac,-ae,aib,ar,c1,e1,e0]
 exact⟨_,_,_,_,_,rfl⟩
def aKG (z:(r.length==0)=aa)(z1:(m1 K==af 0)=ab)(e1:gx [pV a,pV b,sV (af v)]=Z [pV r,sV (af 0)])(e2:a9 [pV r,sV (af v)]=Z [sV (m1 K)])(e3:cM []=Z [pV u])
  (c1:CA cf 229 gx)(c2:CA cf 92 a9)(c3:CA cf 167 cM)(fl:Nat):
  ∃t2' t5' t6' H' W',am cf fl nX ⟨[pT b,iT v,t2,pT a,t4,t5,t6,t7,t8,t9,t10,t11],H,[],W,[]⟩=Z (.ret,⟨[pT b,iT v,t2',pT a,pT u,t5',t6',t7,t8,t9,t10,t11],H',[],W',[]⟩):=by
 simp(maxSteps:=9^9) only[au,seval,-ac,-ae,aib,ar,c1,c2,c3,e1,e2,e3,z,z1]
 exact⟨_,_,_,_,_,rfl⟩
def aFn (z:(r.length==0)=aa)(z1:(m1 K==af 0)=aa)(e1:gx [pV a,pV b,sV (af v)]=Z [pV r,sV (af 0)])(e2:a9 [pV r,sV (af v)]=Z [sV (m1 K)])(e3:N [pV r,sV (af v)]=Z [pV r1])(e4:bQ [pV r1]=Z [pV r2])
  (c1:CA cf 229 gx)(c2:CA cf 92 a9)(c3:CA cf 177 N)(c4:CA cf 165 bQ)(fl:Nat):
  ∃t2' t5' t6' H' W',am cf fl nX ⟨[pT b,iT v,t2,pT a,t4,t5,t6,t7,t8,t9,t10,t11],H,[],W,[]⟩=Z (.normal,⟨[pT r2,iT v,t2',pT b,t4,t5',t6',t7,t8,t9,t10,t11],H',[],W',[]⟩):=by
 simp(maxSteps:=9^9) only[au,seval,-ac,-ae,aib,ar,c1,c2,c3,c4,e1,e2,e3,e4,z,z1]
 exact⟨_,_,_,_,_,rfl⟩
structure MQf (cf:av) (N:Nt):Prop where
 ps:CA cf 229 gx
 dg:CA cf 92 a9
 one:CA cf 167 cM
 pr:CA cf 177 N
 no:CA cf 165 bQ
 bd:CA cf 228 lG
 dv:CA cf 164 iv
def am7 {G:Gt}{R:List Mn}(C:MQf cf (oo G))(hv:v<4)(ha:PF a)(hb:PF b){g:Nat}(hg:g<10000000)(h:sqM G v g a b=Z R):
  PF R∧∃t0' t2' t3' t5' t6' H' W',aG (am cf ak nX) ak ⟨[pT b,iT v,t2,pT a,t4,t5,t6,t7,t8,t9,t10,t11],H,[],W,[]⟩=Z (.ret,⟨[t0',iT v,t2',t3',pT R,t5',t6',t7,t8,t9,t10,t11],H',[],W',[]⟩):=by
 obtain⟨x,st',hl,_,rfl,hR,t0',t2',t3',t5',t6',H',W',rfl⟩:=bg (body:=am cf ak nX)
  (fun(s:Nat × List Mn × List Mn) st=>PF s.2.1∧PF s.2.2∧sqM G v s.1 s.2.1 s.2.2=Z R∧∃t2 t5 t6 H W,st=⟨[pT s.2.2,iT v,t2,pT s.2.1,t4,t5,t6,t7,t8,t9,t10,t11],H,[],W,[]⟩) (fun s=>s.1)
  (fun x st'=>x=.ret∧PF R∧∃t0 t2 t3 t5 t6 H W,st'=⟨[t0,iT v,t2,t3,pT R,t5,t6,t7,t8,t9,t10,t11],H,[],W,[]⟩)
  (fun s st hI=>by
   obtain⟨g,a,b⟩:=s
   obtain⟨h1,h2,h3,t2,t5,t6,H,W,rfl⟩:=hI
   dsimp only at h1 h2 h3
   match g,h3 with
   |0,h3=>cases h3
   |g+1,h3=>
    rw[sqM]at h3
    split at h3
    ·cases h3
    ·rename_i g1
     cases h3
     obtain⟨t2',t5',t6',H',W',e⟩:=aKF (t2:=t2) (t4:=t4) (t5:=t5) (t6:=t6) (t7:=t7) (t8:=t8) (t9:=t9) (t10:=t10) (t11:=t11) (H:=H) (W:=W) (wx h1 h2 hv g1) C.ps ak
     exact .inr ⟨_,_,e,by simp,rfl,h2,_,_,_,_,_,_,_,rfl⟩
    ·rename_i m t g1
     have pr:=aF8 h1 g1
     split at h3
     ·rename_i z
      cases h3
      obtain⟨t2',t5',t6',H',W',e⟩:=aKG (t2:=t2) (t4:=t4) (t5:=t5) (t6:=t6) (t7:=t7) (t8:=t8) (t9:=t9) (t10:=t10) (t11:=t11) (H:=H) (W:=W) rfl (by rw[kG];exact z) (wx h1 h2 hv g1) (cv pr hv) rfl C.ps C.dg C.one ak
      exact .inr ⟨_,_,e,by simp,rfl,nP fB,_,_,_,_,_,_,_,rfl⟩
     ·rename_i z
      split at h3
      ·cases h3
      rename_i r1 g2
      split at h3
      ·cases h3
      rename_i r2 g3
      obtain⟨t2',t5',t6',H',W',e⟩:=aFn (t2:=t2) (t4:=t4) (t5:=t5) (t6:=t6) (t7:=t7) (t8:=t8) (t9:=t9) (t10:=t10) (t11:=t11) (H:=H) (W:=W) rfl (by rw[kG];exact z) (wx h1 h2 hv g1) (cv pr hv) (ay7 pr hv g2) (cZ (azi g2) g3) C.ps C.dg C.pr C.no ak
      exact .inl ⟨(g,_,_),_,e,⟨h2,gM g3,h3,_,_,_,_,_,rfl⟩,Nat.lt_succ_self g⟩)
  ak (g,a,b) ⟨[pT b,iT v,t2,pT a,t4,t5,t6,t7,t8,t9,t10,t11],H,[],W,[]⟩ ⟨ha,hb,h,t2,t5,t6,H,W,rfl⟩ (aN hg)
 exact⟨hR,_,_,_,_,_,_,_,hl⟩
end
def af9 (G:Gt)(A B:List Mn)(v:Nat):Option (List Mn):=match nJ A B v with
 |none=>U
 |some K=>match ai K 1 with
  |true=>Z (cQ (Q.whole 1))
  |false=>match jF A B with
   |none=>U
   |some U=>sqM G v 1000 A B
   |some (Z _)=>match ai K (dg v B)with
    |true=>Z B
    |false=>sqM G v 1000 A B
def wX (G:Gt)(a b:List Mn)(v:Nat):Option (List Mn):=match aTQ (dg v b) (dg v a)with
 |true=>af9 G a b v
 |false=>af9 G b a v
section
variable {N:Nt} {a b A B R u:List Mn} {v K da db dB:Nat} {cf:av}
structure MQp (a b A B:List Mn) (v K da db:Nat):Prop where
 ea:a9 [pV a,sV (af v)]=Z [sV (m1 da)]
 eb:a9 [pV b,sV (af v)]=Z [sV (m1 db)]
 sw:(decide (m1 da<m1 db)=ab∧A=b∧B=a)∨(decide (m1 da<m1 db)=aa∧A=a∧B=b)
 bd:lG [pV A,pV B,sV (af v)]=Z [sV (m1 K)]
def aSA (C:MQf cf N)(h:MQp a b A B v K da db)(zk:(m1 K==af 0)=ab)(e:cM []=Z [pV u]):bM cf ak tz.1 [pV a,pV b,sV (af v)]=Z [pV u]:=by
 obtain⟨e1,e2,hs,e3⟩:=h
 have c1:=C.dg;have c2:=C.bd;have c3:=C.one
 rcases hs with⟨hs,rfl,rfl⟩|⟨hs,rfl,rfl⟩<;>
  simp(maxSteps:=9^9) only[au,seval,-ac,-ae,abJ,ar,c1,c2,c3,e1,e2,e3,hs,zk,e]
def aSB {l:List Mn}(C:MQf cf N)(h:MQp a b A B v K da db)(zk:(m1 K==af 0)=aa)(e:iv [pV A,pV B]=Z [pV l,bV ab])(zB:∀d,a9 [pV B,sV (af v)]=Z [sV (m1 d)]→(m1 K==m1 d)=ab):bM cf ak tz.1 [pV a,pV b,sV (af v)]=Z [pV B]:=by
 obtain⟨e1,e2,hs,e3⟩:=h
 have c1:=C.dg;have c2:=C.bd;have c3:=C.dv
 rcases hs with⟨hs,rfl,rfl⟩|⟨hs,rfl,rfl⟩
 ·have zB:=zB _ e1
  simp(maxSteps:=9^9) only[au,seval,-ac,-ae,abJ,ar,c1,c2,c3,e2,e1,e3,hs,zk,e,zB]
 ·have zB:=zB _ e2
  simp(maxSteps:=9^9) only[au,seval,-ac,-ae,abJ,ar,c1,c2,c3,e1,e2,e3,hs,zk,e,zB]
abbrev sqT (A B:List Mn)(v K:Nat)(t7 t8 t9 t10 t11:T):List T:=[pT B,iT v,.nil,pT A,aR,.nil,.nil,t7,t8,t9,t10,t11]
def aMF {l:List Mn}{bb:Bool}(C:MQf cf N)(h:MQp a b A B v K da db)(zk:(m1 K==af 0)=aa)(e:iv [pV A,pV B]=Z [pV l,bV bb])(zB:bb=ab→∀d,a9 [pV B,sV (af v)]=Z [sV (m1 d)]→(m1 K==m1 d)=aa)
  (hl:∀t7 t8 t9 t10 t11,∃t0' t2' t3' t5' t6' H' W',aG (am cf ak nX) ak ⟨sqT A B v K t7 t8 t9 t10 t11,[],[],[],[]⟩=Z (.ret,⟨[t0',iT v,t2',t3',pT R,t5',t6',t7,t8,t9,t10,t11],H',[],W',[]⟩)):
  bM cf ak tz.1 [pV a,pV b,sV (af v)]=Z [pV R]:=by
 obtain⟨e1,e2,hs,e3⟩:=h
 have c1:=C.dg;have c2:=C.bd;have c3:=C.dv
 rcases hs with⟨hs,rfl,rfl⟩|⟨hs,rfl,rfl⟩<;>cases bb
 ·obtain⟨t0',t2',t3',t5',t6',H',W',hl⟩:=hl (jT (m1 K)) (bj aa) (bj ab) (bj aa) (bj aa)
  simp(maxSteps:=9^9) only[au,seval,-ac,-ae,abJ,ar,c1,c2,c3,e1,e2,e3,hs,zk,e,hl]
 ·have zB:=zB rfl _ e1
  obtain⟨t0',t2',t3',t5',t6',H',W',hl⟩:=hl (jT (m1 K)) (bj ab) (bj ab) (bj aa) (bj aa)
  simp(maxSteps:=9^9) only[au,seval,-ac,-ae,abJ,ar,c1,c2,c3,e1,e2,e3,hs,zk,e,zB,hl]
 ·obtain⟨t0',t2',t3',t5',t6',H',W',hl⟩:=hl (jT (m1 K)) (bj aa) (bj aa) (bj aa) (bj aa)
  simp(maxSteps:=9^9) only[au,seval,-ac,-ae,abJ,ar,c1,c2,c3,e1,e2,e3,hs,zk,e,hl]
 ·have zB:=zB rfl _ e2
  obtain⟨t0',t2',t3',t5',t6',H',W',hl⟩:=hl (jT (m1 K)) (bj ab) (bj aa) (bj aa) (bj aa)
  simp(maxSteps:=9^9) only[au,seval,-ac,-ae,abJ,ar,c1,c2,c3,e1,e2,e3,hs,zk,e,zB,hl]
end
def auP (a b:Nat):(m1 a==m1 b)=ai a b:=by
 rw[aUp,beq_iff_eq,Nat.beq_eq,gD,gD]
 omega
def aNN (Np:Nt):Ft:=.n (.n (.n .z 92 (.nat a9) U .z) 164 (.nat iv) U (.n .z 165 (.nat bQ) U .z)) 167 (.nat cM) U (.n (.n .z 177 (.nat Np) U .z) 228 (.nat lG) U (.n .z 229 (.nat gx) U .z))
def aHh {Np:Nt}(hp:∀{k:Cls},Cn k 177 Np){k:Cls}:(aNN Np).Ok Tryz.prog k aH:=⟨⟨⟨tv,jP,tv,tv⟩,sx,tv,⟨tv,abv,tv,tv⟩⟩,aca,tv,⟨⟨tv,hp,tv,tv⟩,alY,tv,⟨tv,al0,tv,tv⟩⟩⟩
def aoj (Np:Nt):MQf (ao (aNN Np).tb 10 8) Np:=⟨fun _ _ _=>rfl,fun _ _ _=>rfl,fun _ _ _=>rfl,fun _ _ _=>rfl,fun _ _ _=>rfl,fun _ _ _=>rfl,fun _ _ _=>rfl⟩
def apY {p q:List Mn}{v n:Nat}(hp:PF p)(hq:PF q)(hv:v<4)(h:nJ p q v=Z n):lG [pV p,pV q,sV (af v)]=Z [sV (m1 n)]:=by
 unfold lG
 rw[zo hp hq hv]
 simp only[h]
def aI6 {p:List Mn}{v d:Nat}(hp:PF p)(hv:v<4)(h:a9 [pV p,sV (af v)]=Z [sV (m1 d)]):m1 d=m1 (dg v p):=by
 rw[cv hp hv]at h
 simp only[Option.some.injEq,List.cons.injEq,V1.one.injEq,C.v.injEq,Value.int.injEq,and_true,true_and]at h
 exact h.symm
def ak5 {G:Gt}{cf:av}(C:MQf cf (oo G)){a b A B R:List Mn}{v da db:Nat}(hv:v<4)(hA:PF A)(hB:PF B)(h:af9 G A B v=Z R)
  (hh:∀K,lG [pV A,pV B,sV (af v)]=Z [sV (m1 K)]→MQp a b A B v K da db):bM cf ak tz.1 [pV a,pV b,sV (af v)]=Z [pV R]∧PF R:=by
 unfold af9 at h
 split at h
 ·cases h
 rename_i K hK
 have hp:=hh K (apY hA hB hv hK)
 split at h
 ·rename_i g
  cases h
  exact⟨aSA C hp (by rw[kG];exact g) rfl,nP fB⟩
 ·rename_i g
  have zk:(m1 K==af 0)=aa:=by rw[kG];exact g
  split at h
  ·cases h
  ·rename_i hd
   have hl:=fun t7 t8 t9 t10 t11=>am7 (t2:=.nil) (t4:=aR) (t5:=.nil) (t6:=.nil) (t7:=t7) (t8:=t8) (t9:=t9) (t10:=t10) (t11:=t11) (H:=[]) (W:=[]) C hv hA hB (show(1000:Nat)<10000000 by decide) h
   exact⟨aMF (l:=[]) (bb:=aa) C hp zk (m7 hA hB hd) (fun h=>by cases h) (fun t7 t8 t9 t10 t11=>(hl t7 t8 t9 t10 t11).2),(hl .nil .nil .nil .nil .nil).1⟩
  ·rename_i l hd
   split at h
   ·rename_i g2
    cases h
    exact⟨aSB (l:=l) C hp zk (m7 hA hB hd) (fun d hd=>by rw[aI6 hB hv hd,auP];exact g2),hB⟩
   ·rename_i g2
    have hl:=fun t7 t8 t9 t10 t11=>am7 (t2:=.nil) (t4:=aR) (t5:=.nil) (t6:=.nil) (t7:=t7) (t8:=t8) (t9:=t9) (t10:=t10) (t11:=t11) (H:=[]) (W:=[]) C hv hA hB (show(1000:Nat)<10000000 by decide) h
    exact⟨aMF (l:=l) (bb:=ab) C hp zk (m7 hA hB hd) (fun _ d hd=>by rw[aI6 hB hv hd,auP];exact g2) (fun t7 t8 t9 t10 t11=>(hl t7 t8 t9 t10 t11).2),(hl .nil .nil .nil .nil .nil).1⟩
def ak6 {G:Gt}{cf:av}(C:MQf cf (oo G)){a b R:List Mn}{v:Nat}(hv:v<4)(ha:PF a)(hb:PF b)(h:wX G a b v=Z R):bM cf ak tz.1 [pV a,pV b,sV (af v)]=Z [pV R]∧PF R:=by
 unfold wX at h
 split at h
 ·rename_i g
  exact ak5 (da:=dg v a) (db:=dg v b) C hv ha hb h fun K hK=>⟨cv ha hv,cv hb hv,.inr ⟨by rw[adV,g];rfl,rfl,rfl⟩,hK⟩
 ·rename_i g
  exact ak5 (da:=dg v a) (db:=dg v b) C hv hb ha h fun K hK=>⟨cv ha hv,cv hb hv,.inl ⟨by rw[adV,g];rfl,rfl,rfl⟩,hK⟩
def aGG {G:Gt}{a b R:List Mn}{v:Nat}(hv:v<4)(ha:PF a)(hb:PF b)(h:wX G a b v=Z R):PF R:=(ak6 (aoj (oo G)) hv ha hb h).2
def ad3 (G:Gt):Nt:=wF fun p q v=>match wX G p q v with|some r=>Z [pV r]|none=>U
def aFH {G:Gt}{p q r:List Mn}{v:Nat}(hp:PF p)(hq:PF q)(hv:v<4)(h:wX G p q v=Z r):ad3 G [pV p,pV q,sV (af v)]=Z [pV r]:=by
 unfold ad3
 rw[zo hp hq hv]
 simp only[h]
def ayJ {G:Gt}(hG:jK G)(hg:∀{k:Cls},Cn k 91 (nG G)){k:Cls}:Cn k 170 (ad3 G):=tU (ay (aHh (auZ hG hg)) tz.2 10 ak 8) fun p q v rs hp hq hv h=>by
 split at h
 ·rename_i r e
  cases h;exact(ak6 (aoj (oo G)) hv hp hq e).1
 ·cases h
structure GMf (cf:av) (NG NC NS:Nt):Prop where
 no:CA cf 165 bQ
 cs:CA cf 166 eT
 one:CA cf 167 cM
 hi:CA cf 168 pA
 dg:CA cf 92 a9
 ct:CA cf 169 NC
 gc:CA cf 91 NG
 sq:CA cf 170 NS
 ov:CA cf 171 jl
 mu:CA cf 89 bU
section
variable {NG NC NS:Nt} {p q r x y g u w s m:List Mn} {v dp dq:Nat} {cf:av}
def aRT (C:GMf cf NG NC NS)(e:bQ [pV q]=Z [pV r]):bM cf ak xA.1 [pV [],pV q]=Z [pV r]:=by
 have c1:=C.no
 simp(maxSteps:=9^9) only[au,seval,-ac,-ae,E91,ar,pL,aUf,c1,e]
def aRU (C:GMf cf NG NC NS)(zp:(p.length==0)=aa)(e:bQ [pV p]=Z [pV r]):bM cf ak xA.1 [pV p,pV []]=Z [pV r]:=by
 have c1:=C.no
 have e0:pC []=.sl 0 []:=rfl
 simp(maxSteps:=9^9) only[au,seval,-ac,-ae,E91,ar,e0,c1,e,zp]
def aRV (C:GMf cf NG NC NS)(zp:(p.length==0)=aa)(zq:(q.length==0)=aa)(e1:eT [pV p]=Z [bV ab])(e2:cM []=Z [pV r]):bM cf ak xA.1 [pV p,pV q]=Z [pV r]:=by
 have c1:=C.cs;have c2:=C.one
 simp(maxSteps:=9^9) only[au,seval,-ac,-ae,E91,ar,c1,c2,e1,e2,zp,zq]
def aRW (C:GMf cf NG NC NS)(zp:(p.length==0)=aa)(zq:(q.length==0)=aa)(e1:eT [pV p]=Z [bV aa])(e1':eT [pV q]=Z [bV ab])(e2:cM []=Z [pV r]):bM cf ak xA.1 [pV p,pV q]=Z [pV r]:=by
 have c1:=C.cs;have c2:=C.one
 simp(maxSteps:=9^9) only[au,seval,-ac,-ae,E91,ar,c1,c2,e1,e1',e2,zp,zq]
structure GMp (p q:List Mn) (v dp dq:Nat):Prop where
 zp:(p.length==0)=aa
 zq:(q.length==0)=aa
 cp:eT [pV p]=Z [bV aa]
 cq:eT [pV q]=Z [bV aa]
 hi:pA [.one (.sl 2 [pC p,pC q])]=Z [sV (af v)]
 dp:a9 [pV p,sV (af v)]=Z [sV (m1 dp)]
 dq:a9 [pV q,sV (af v)]=Z [sV (m1 dq)]
def aRX (C:GMf cf NG NC NS)(h:GMp p q v dp dq)(z:(m1 dq==af 0)=ab)(e1:NC [pV p,sV (af v)]=Z [pV x])(e2:NG [pV x,pV q]=Z [pV r]):bM cf ak xA.1 [pV p,pV q]=Z [pV r]:=by
 obtain⟨zp,zq,cp,cq,hi,dp,dq⟩:=h
 have c1:=C.cs;have c2:=C.hi;have c3:=C.dg;have c4:=C.ct;have c5:=C.gc
 simp(maxSteps:=9^9) only[au,seval,-ac,-ae,E91,ar,c1,c2,c3,c4,c5,zp,zq,cp,cq,hi,dq,z,e1,e2]
def aRY (C:GMf cf NG NC NS)(h:GMp p q v dp dq)(z:(m1 dq==af 0)=aa)(z':(m1 dp==af 0)=ab)(e1:NC [pV q,sV (af v)]=Z [pV y])(e2:NG [pV p,pV y]=Z [pV r]):bM cf ak xA.1 [pV p,pV q]=Z [pV r]:=by
 obtain⟨zp,zq,cp,cq,hi,dp,dq⟩:=h
 have c1:=C.cs;have c2:=C.hi;have c3:=C.dg;have c4:=C.ct;have c5:=C.gc
 simp(maxSteps:=9^9) only[au,seval,-ac,-ae,E91,ar,c1,c2,c3,c4,c5,zp,zq,cp,cq,hi,dp,dq,z,z',e1,e2]
def aRZ (C:GMf cf NG NC NS)(h:GMp p q v dp dq)(z:(m1 dq==af 0)=aa)(z':(m1 dp==af 0)=aa)(e1:NC [pV p,sV (af v)]=Z [pV x])(e2:NC [pV q,sV (af v)]=Z [pV y])(e3:NG [pV x,pV y]=Z [pV g])
  (e4:jl [pV p,pV x]=Z [pV u])(e5:jl [pV q,pV y]=Z [pV w])(e6:NS [pV u,pV w,sV (af v)]=Z [pV s])(e7:bU [pV g,pV s]=Z [pV m])(e8:bQ [pV m]=Z [pV r]):bM cf ak xA.1 [pV p,pV q]=Z [pV r]:=by
 obtain⟨zp,zq,cp,cq,hi,dp,dq⟩:=h
 have c1:=C.cs;have c2:=C.hi;have c3:=C.dg;have c4:=C.ct;have c5:=C.gc;have c6:=C.ov;have c7:=C.sq;have c8:=C.mu;have c9:=C.no
 simp(maxSteps:=9^9) only[au,seval,-ac,-ae,E91,ar,c1,c2,c3,c4,c5,c6,c7,c8,c9,zp,zq,cp,cq,hi,dp,dq,z,z',e1,e2,e3,e4,e5,e6,e7,e8]
end
def aaE (G:Gt)(p q:List Mn):Nat→Option (List Mn)
 |0=>U
 |v+1=>match ai (dg v q) 1 with
  |true=>(match gC G p v with|some x=>G x q|none=>U)
  |false=>match ai (dg v p) 1 with
   |true=>(match gC G q v with|some y=>G p y|none=>U)
   |false=>match gC G p v with
    |none=>U
    |some x=>match gC G q v with
     |none=>U
     |some y=>match G x y with
      |none=>U
      |some g=>match j9 p x with
       |none=>U
       |some u=>match j9 q y with
        |none=>U
        |some w=>match wX G u w v with
         |none=>U
         |some s=>match br g s with
          |none=>U
          |some m=>fw m
def adn (G:Gt)(p q:List Mn):Option (List Mn):=match qm p with
 |true=>Z (cQ (Q.whole 1))
 |false=>match qm q with
  |true=>Z (cQ (Q.whole 1))
  |false=>aaE G p q (oX [p,q] 4)
def aaF (G:Gt)(p q:List Mn):Option (List Mn):=match p with
 |[]=>fw q
 |m::t=>match q with
  |[]=>fw (m::t)
  |k::s=>adn G (m::t) (k::s)
def ab3:Nat→Gt
 |0,_,_=>U
 |g+1,p,q=>aaF (ab3 g) p q
def ax6 {G:Gt}(hG:jK G):jK (aaF G):=fun p q r hp hq h=>by
 unfold aaF at h
 split at h
 ·exact gM h
 ·split at h
  ·exact gM h
  ·unfold adn at h
   split at h
   ·cases h;exact nP fB
   split at h
   ·cases h;exact nP fB
   unfold aaE at h
   split at h
   ·cases h
   split at h
   ·split at h
    ·rename_i e;exact hG _ _ _ (kW hG hp e) hq h
    ·cases h
   split at h
   ·split at h
    ·rename_i e;exact hG _ _ _ hp (kW hG hq e) h
    ·cases h
   split at h
   ·cases h
   split at h
   ·cases h
   split at h
   ·cases h
   split at h
   ·cases h
   split at h
   ·cases h
   split at h
   ·cases h
   split at h
   ·cases h
   exact gM h
def ab5:∀g,jK (ab3 g)
 |0=>fun _ _ _ _ _ h=>by cases h
 |g+1=>fun p q r hp hq h=>ax6 (ab5 g) p q r hp hq h
def atY (l:List (List Mn)):∀n,oX l n≤n
 |0=>aTS _
 |n+1=>by
  rw[oX]
  split
  ·exact aTS _
  ·exact aUd (atY l n) (Nat.le_succ n)
def aNb (Ng:Nt)(Nc:Nt)(Ns:Nt):Ft:=.n (.n (.n (.n .z 89 (.nat bU) U .z) 91 (.nat Ng) U .z) 92 (.nat a9) U (.n (.n .z 165 (.nat bQ) U .z) 166 (.nat eT) U .z)) 167 (.nat cM) U (.n (.n (.n .z 168 (.nat pA) U .z) 169 (.nat Nc) U .z) 170 (.nat Ns) U (.n .z 171 (.nat jl) U .z))
def aG6 {Ng:Nt}{Nc:Nt}{Ns:Nt}(hg:∀{k:Cls},Cn k 91 Ng)(hc:∀{k:Cls},Cn k 169 Nc)(hs:∀{k:Cls},Cn k 170 Ns){k:Cls}:(aNb Ng Nc Ns).Ok Tryz.prog k aH:=⟨⟨⟨⟨tv,jQ,tv,tv⟩,hg,tv,tv⟩,jP,tv,⟨⟨tv,abv,tv,tv⟩,abu,tv,tv⟩⟩,aca,tv,⟨⟨⟨tv,auY,tv,tv⟩,hc,tv,tv⟩,hs,tv,⟨tv,yY,tv,tv⟩⟩⟩
def aG5 (Ng Nc Ns:Nt):GMf (ao (aNb Ng Nc Ns).tb 10 8) Ng Nc Ns:=⟨fun _ _ _=>rfl,fun _ _ _=>rfl,fun _ _ _=>rfl,fun _ _ _=>rfl,fun _ _ _=>rfl,fun _ _ _=>rfl,fun _ _ _=>rfl,fun _ _ _=>rfl,fun _ _ _=>rfl,fun _ _ _=>rfl⟩
def ax4 {G:Gt}(hG:jK G){cf:av}(C:GMf cf (nG G) (qX G) (ad3 G)){p q r:List Mn}(hp:PF p)(hq:PF q)(zp:(p.length==0)=aa)(zq:(q.length==0)=aa)(cp:qm p=aa)(cq:qm q=aa)(h:aaE G p q (oX [p,q] 4)=Z r):bM cf ak xA.1 [pV p,pV q]=Z [pV r]:=by
 have e0:pA [.one (.sl 2 [pC p,pC q])]=Z [sV (m1 (oX [p,q] 4))]:=aFA hp hq
 have hle:=atY [p,q] 4
 have c1:=lH hp
 have c2:=lH hq
 rw[cp]at c1
 rw[cq]at c2
 generalize oX [p,q] 4=n at*
 unfold aaE at h
 split at h
 ·cases h
 rename_i v
 have hv:v<4:=by omega
 have P:GMp p q v (dg v p) (dg v q):=⟨zp,zq,c1,c2,e0,cv hp hv,cv hq hv⟩
 split at h
 ·rename_i z
  split at h
  ·rename_i x e
   exact aRX C P (by rw[kG];exact z) (qY hp hv e) (tj (kW hG hp e) hq h)
  ·cases h
 rename_i z
 have z:(m1 (dg v q)==af 0)=aa:=by rw[kG];exact z
 split at h
 ·rename_i z'
  split at h
  ·rename_i y e
   exact aRY C P z (by rw[kG];exact z') (qY hq hv e) (tj hp (kW hG hq e) h)
  ·cases h
 rename_i z'
 have z':(m1 (dg v p)==af 0)=aa:=by rw[kG];exact z'
 split at h
 ·cases h
 rename_i x ex
 split at h
 ·cases h
 rename_i y ey
 split at h
 ·cases h
 rename_i g eg
 split at h
 ·cases h
 rename_i u eu
 split at h
 ·cases h
 rename_i w ew
 split at h
 ·cases h
 rename_i s es
 split at h
 ·cases h
 rename_i m em
 have px:=kW hG hp ex
 have py:=kW hG hq ey
 have pg:=hG _ _ _ px py eg
 have pu:=acq eu
 have pw:=acq ew
 have ps:=aGG hv pu pw es
 exact aRZ C P z z' (qY hp hv ex) (qY hq hv ey) (tj px py eg) (acj hp px eu) (acj hq py ew) (aFH pu pw hv es) (iF pg ps em) (cZ (eU em) h)
def atV {G:Gt}(hG:jK G)(hg:∀{k:Cls},Cn k 91 (nG G)){k:Cls}:Cn k 91 (nG (aaF G)):=
 dG (ay (aG6 hg (agN hG hg) (ayJ hG hg)) xA.2 10 ak 8) fun p q rs hp hq h=>by
  split at h
  rotate_left
  ·cases h
  rename_i r e
  cases h
  have C:=aG5 (nG G) (qX G) (ad3 G)
  unfold aaF at e
  split at e
  ·exact aRT C (cZ hq e)
  ·split at e
   ·exact aRU C rfl (cZ hp e)
   ·rename_i m t k s
    unfold adn at e
    split at e
    ·rename_i g
     cases e
     exact aRV C rfl rfl (by rw[lH hp,g]) rfl
    rename_i g
    split at e
    ·rename_i g2
     cases e
     exact aRW C rfl rfl (by rw[lH hp,g]) (by rw[lH hq,g2]) rfl
    ·rename_i g2
     exact ax4 hG C hp hq rfl rfl g g2 e
def agC:∀(g:Nat) {k:Cls},Cn k 91 (nG (ab3 g))
 |0,k=>dG (ay (t:=.z) trivial xA.2 10 ak 8) fun p q rs _ _ h=>by cases h
 |g+1,k=>atV (ab5 g) (agC g)
def aaU:Nt:=nG (ab3 40)
def agO {k:Cls}:Cn k 91 aaU:=agC 40
end
end Go.Proofs.YtfiijelajgifiaaGreat
