/-
  Part 22 of the machine and of the contracts of functions of the program (packed).
-/
import Derived.Test.YtfiijelajgifiaaGreatA21
set_option linter.all false
set_option linter.defProp false
open Bool renaming false→aa,true→ab,eq_iff_iff→aUp
open Int renaming reduceOfNat→ac,reduceNegSucc→ae,ofNat→af,negSucc→aT2
open List renaming length_cons→aTV,length_append→aTW,mem_cons→aTZ,mem_cons_self→aT0,mem_cons_of_mem→aT8,length_nil→aUf,drop_length→aUg
open Nat renaming blt→ah,beq→ai,log2→aj,ble→aTQ,blt_eq→aTR,le_refl→aTS,lt_or_ge→aT6,eq_zero_or_pos→aUc,le_trans→aUd
open Option renaming some→Z,none→U
namespace Go.Proofs.YtfiijelajgifiaaGreat
noncomputable section
open Go Go.Mach Go.Flow
set_option maxRecDepth 100000
set_option maxHeartbeats 4000000
def m9 (m:Mn):List Mn:=match co m.q.n 0 with|true=>[]|false=>[m]
def aFR {m:Mn}(h:m.Ok):PF (m9 m):=by
 unfold m9
 split
 ·exact⟨fun m hm=>(by cases hm),by decide⟩
 ·exact⟨fun x hx=>(by rcases aTZ.1 hx with rfl|hx;exact h;cases hx),by simp⟩
def aEX {t1 t3 t4 t5 t6 t7 t8 t9:T}{H:Hp}{W:List Nat}{cf:av}(fl:Nat):
  ∃t3',am cf fl ajo ⟨[iT 0,t1,pT [],t3,t4,t5,t6,t7,t8,t9],H,[],W,[]⟩=Z (.exit 0,⟨[iT 0,t1,pT [],t3',t4,t5,t6,t7,t8,t9],H,[],W,[]⟩):=by
 simp(maxSteps:=9^9) only[au,seval,-ac,-ae,aHX,pL,aUf]
 exact⟨_,rfl⟩
def tIn  : Ft:=.n (.n .z 135 (.nat aY) U .z) 137 (.nat bn) U .z
def aNg   {k:Cls}:tIn.Ok Tryz.prog k aH:=⟨⟨tv,rG,tv,tv⟩,sS,tv,tv⟩
def aAP {m:Mn}(h:m.Ok):bM (ao tIn.tb 10 8) ak afN.1 [pV [],.agg (mC m)]=Z [pV (m9 m)]:=by
 have c1:CA (ao tIn.tb 10 8) 137 bn:=fun _ _ _=>rfl
 have c2:CA (ao tIn.tb 10 8) 135 aY:=fun _ _ _=>rfl
 generalize ao tIn.tb 10 8=cf at*
 have e1:=u9 h.q
 have e2:aY [.agg [eC m.a,eC m.b,eC m.c,eC m.d]]=Z [bV ab]:=rfl
 obtain⟨t3',e⟩:=aEX (t1:=.t (.one (.ptr 0 0))) (t3:=.nil) (t4:=.nil) (t5:=.nil) (t6:=aR) (t7:=.nil) (t8:=.nil) (t9:=.t (.agg (mD m))) (H:=[mB m]) (W:=[]) (cf:=cf) ak
 have hl:=wo e
 unfold m9
 cases hz:co m.q.n 0 with
 |true=>
  have z:(lL m.q.n != af 0)=aa:=by rw[gp hz];rfl
  simp(maxSteps:=9^9) only[az,seval,-ac,-ae,aHW,hl,c1,c2,e1,e2,z,pL,aUf,mC]
  rfl
 |false=>
  have z:(lL m.q.n != af 0)=ab:=by
   unfold bne
   rw[sT (by intro e;rw[e]at hz;cases hz)];rfl
  simp(maxSteps:=9^9) only[az,seval,-ac,-ae,aHW,hl,c1,c2,e1,e2,z,pL,aUf,mC]
  rfl
def aaW:List V1→Option (List V1)
 |[x,.agg [c1,c2,c3,c4,c5,c6,c7,c8]]=>match gz x,dM c1 c2 c3 c4 c5 c6 c7 c8 with|some [],Z m=>Z [pV (m9 m)]|_,_=>U
 |_=>U
def aFB {m:Mn}(h:m.Ok):aaW [pV [],.agg (mC m)]=Z [pV (m9 m)]:=by
 have h0:gz (pV [])=Z []:=rfl
 simp only[aaW,h0,aiT h]
def aAA {k:Cls}:Cn k 212 aaW:=aC (ay aNg afN.2 10 ak 8) fun al rs e=>by
 unfold aaW at e
 split at e
 ·split at e
  ·rename_i hx hy
   obtain⟨rfl,_,_⟩:=eH hx
   obtain⟨h3,h4⟩:=adf hy
   cases e
   rw[h3]
   exact aAP h4
  ·cases e
 ·cases e
def tMk  : Ft:=.n .z 212 (.nat aaW) U .z
def aNp   {k:Cls}:tMk.Ok Tryz.prog k aH:=⟨tv,aAA,tv,tv⟩
def awf {m:Mn}(h:m.Ok):bM (ao tMk.tb 10 8) ak afF.1 [pV [m]]=Z [pV (m9 m)]:=by
 have c1:CA (ao tMk.tb 10 8) 212 aaW:=fun _ _ _=>rfl
 generalize ao tMk.tb 10 8=cf at*
 have e1:=aFB h
 simp only[pV,pC,pL,mC,aUf,aTV]at e1 ⊢
 generalize m9 m=r at*
 obtain⟨g,hg⟩:∃g,ak=g+6:=⟨ak-6,by have:=aN (n:=10) (by omega);omega⟩
 rw[hg]
 simp(maxSteps:=9^9) only[au,seval,-ac,-ae,aG,aQq,aHJ,ar,c1,e1]
def ad2:=pg1 fun p=>match p with|[m]=>Z [pV (m9 m)]|_=>U
def ay4 {m:Mn}(h:m.Ok):ad2 [pV [m]]=Z [pV (m9 m)]:=aqa ⟨fun x hx=>(by rcases aTZ.1 hx with rfl|hx;exact h;cases hx),(by simp)⟩
def av6 {k:Cls}:Cn k 148 ad2:=tT (ay aNp afF.2 10 ak 8) fun p rs hp h=>by
 split at h
 ·cases h;exact awf (hp.ok _ aT0)
 ·cases h
def cQ (q:Q):List Mn:=m9 ⟨0,0,0,0,q⟩
def z30:(0:Nat)<1073741824:=by decide
def atc {q:Q}(h:q.Ok):(⟨0,0,0,0,q⟩:Mn).Ok:=⟨z30,z30,z30,z30,h⟩
def nP {q:Q}(h:q.Ok):PF (cQ q):=aFR (atc h)
def tCst  : Ft:=.n .z 148 (.nat ad2) U .z
def aGY   {k:Cls}:tCst.Ok Tryz.prog k aH:=⟨tv,av6,tv,tv⟩
def arc {q:Q}(h:q.Ok):bM (ao tCst.tb 10 8) ak q68.1 [eQ q]=Z [pV (cQ q)]:=by
 have c1:CA (ao tCst.tb 10 8) 148 ad2:=fun _ _ _=>rfl
 generalize ao tCst.tb 10 8=cf at*
 have e1:=ay4 (atc h)
 unfold cQ
 simp only[pV,pC,pL,aUf,aTV]at e1 ⊢
 generalize m9 ⟨0,0,0,0,q⟩=r at*
 simp(maxSteps:=9^9) only[au,seval,-ac,-ae,E68,ar,c1,e1]
def fK:=qg1 fun q=>Z [pV (cQ q)]
def wQ {k:Cls}:Cn k 68 fK:=ade (ay aGY q68.2 10 ak 8) fun q rs hq h=>by
 cases h;exact arc hq
def qW {q:Q}(h:q.Ok):fK [eQ q]=Z [pV (cQ q)]:=aDr h
def fB:(Q.whole 1).Ok:=⟨by decide,by decide,by decide⟩
def aw1 {z:Int}(h:ap z<4294967296):(Q.whole z).Ok:=by
 refine⟨?_,show aj 1<1000000 by decide,Nat.one_pos⟩
 show aj (ap z)<1000000
 generalize ap z=n at*
 have h2:n<2 ^ 32:=h
 rcases aUc n with rfl|hn
 ·decide
 ·have:=(Nat.log2_lt (by omega:n≠0)).2 h2;omega
def tf:aW [sV (af 1)]=Z [eQ (Q.whole 1)]:=ake (by decide)
def tOne  : Ft:=.n (.n .z 65 (.nat aW) U .z) 68 (.nat fK) U .z
def aob   {k:Cls}:tOne.Ok Tryz.prog k aH:=⟨⟨tv,gZ,tv,tv⟩,wQ,tv,tv⟩
def cM:List V1→Option (List V1)
 |[]=>Z [pV (cQ (Q.whole 1))]
 |_=>U
def aAS:bM (ao tOne.tb 10 8) ak aqq.1 []=Z [pV (cQ (Q.whole 1))]:=by
 have c1:CA (ao tOne.tb 10 8) 65 aW:=fun _ _ _=>rfl
 have c2:CA (ao tOne.tb 10 8) 68 fK:=fun _ _ _=>rfl
 generalize ao tOne.tb 10 8=cf at*
 have e1:=tf
 have e2:=qW fB
 generalize cQ (Q.whole 1)=r at*
 generalize Q.whole 1=q at*
 simp(maxSteps:=9^9) only[au,seval,-ac,-ae,aQo,c1,c2,e1,e2]
def aAE {k:Cls}:Cn k 143 cM:=aC (ay aob aqq.2 10 ak 8) fun al rs h=>by
 unfold cM at h
 split at h
 ·cases h;exact aAS
 ·cases h
def vf:List V1→Option (List V1)
 |[.one (.v (.int .i64 z))]=>match ah (ap z) 4294967296 with|true=>Z [pV (cQ (Q.whole z))]|false=>U
 |_=>U
def amc {z:Int}(h:ap z<4294967296):bM (ao tOne.tb 10 8) ak aqE.1 [sV z]=Z [pV (cQ (Q.whole z))]:=by
 have c1:CA (ao tOne.tb 10 8) 65 aW:=fun _ _ _=>rfl
 have c2:CA (ao tOne.tb 10 8) 68 fK:=fun _ _ _=>rfl
 generalize ao tOne.tb 10 8=cf at*
 have e1:=ake h
 have e2:=qW (aw1 h)
 generalize cQ (Q.whole z)=r at*
 generalize Q.whole z=q at*
 simp(maxSteps:=9^9) only[au,seval,-ac,-ae,aQG,c1,c2,e1,e2]
def al6 {k:Cls}:Cn k 187 vf:=aC (ay aob aqE.2 10 ak 8) fun al rs h=>by
 unfold vf at h
 split at h
 ·split at h
  ·rename_i hc
   cases h
   rw[aTR]at hc
   exact amc hc
  ·cases h
 ·cases h
def tVar  : Ft:=.n .z 65 (.nat aW) U .z
def aHk   {k:Cls}:tVar.Ok Tryz.prog k aH:=⟨tv,gZ,tv,tv⟩
def oT (v:Nat):Mn:=⟨(match v with|0=>1|_=>0),(match v with|1=>1|_=>0),(match v with|2=>1|_=>0),(match v with|3=>1|_=>0),Q.whole 1⟩
def mn:List V1→Option (List V1)
 |[.one (.v (.int .i64 (.ofNat v)))]=>match ah v 4 with|true=>Z [pV [oT v]]|false=>U
 |_=>U
def aA8 {v:Nat}(h:v<4):bM (ao tVar.tb 10 8) ak aqi.1 [sV (af v)]=Z [pV [oT v]]:=by
 have c1:CA (ao tVar.tb 10 8) 65 aW:=fun _ _ _=>rfl
 generalize ao tVar.tb 10 8=cf at*
 have e1:=tf
 unfold oT
 generalize Q.whole 1=q at*
 have hv':v=0∨v=1∨v=2∨v=3:=by omega
 rcases hv' with rfl|rfl|rfl|rfl<;>
 ·simp(maxSteps:=9^9) only[az,seval,-ac,-ae,aQe,c1,e1,mA]
  rfl
def akT {k:Cls}:Cn k 117 mn:=aC (ay aHk aqi.2 10 ak 8) fun al rs h=>by
 unfold mn at h
 split at h
 ·split at h
  ·rename_i hc
   cases h
   rw[aTR]at hc
   exact aA8 hc
  ·cases h
 ·cases h
def tCsM  : Ft:=.n .z 153 (.nat bn) U .z
def aGW   {k:Cls}:tCsM.Ok Tryz.prog k aH:=⟨tv,oq,tv,tv⟩
def apM {q:Q}(h:q.Ok):bM (ao tCsM.tb 10 8) ak aqy.1 [eQ q]=Z [pV (cQ q)]:=by
 have c1:CA (ao tCsM.tb 10 8) 153 bn:=fun _ _ _=>rfl
 generalize ao tCsM.tb 10 8=cf at*
 have e1:=u9 h
 unfold cQ m9
 cases hz:co q.n 0 with
 |true=>
  have z:(lL q.n==af 0)=ab:=by rw[gp hz];rfl
  simp(maxSteps:=9^9) only[au,seval,-ac,-ae,aHM,c1,e1,z,hz]
  rfl
 |false=>
  have z:(lL q.n==af 0)=aa:=sT (by intro e;rw[e]at hz;cases hz)
  simp(maxSteps:=9^9) only[au,seval,-ac,-ae,aHM,c1,e1,z,hz]
  rfl
def wp {k:Cls}:Cn k 160 fK:=ade (ay aGW aqy.2 10 ak 8) fun q rs hq h=>by
 cases h;exact apM hq
def tOneM  : Ft:=.n (.n .z 134 (.nat aW) U .z) 160 (.nat fK) U .z
def aBv   {k:Cls}:tOneM.Ok Tryz.prog k aH:=⟨⟨tv,gU,tv,tv⟩,wp,tv,tv⟩
def ayY:bM (ao tOneM.tb 10 8) ak aqz.1 []=Z [pV (cQ (Q.whole 1))]:=by
 have c1:CA (ao tOneM.tb 10 8) 134 aW:=fun _ _ _=>rfl
 have c2:CA (ao tOneM.tb 10 8) 160 fK:=fun _ _ _=>rfl
 generalize ao tOneM.tb 10 8=cf at*
 have e1:=tf
 have e2:=qW fB
 generalize cQ (Q.whole 1)=r at*
 generalize Q.whole 1=q at*
 simp(maxSteps:=9^9) only[au,seval,-ac,-ae,aQz,c1,c2,e1,e2]
def aca {k:Cls}:Cn k 167 cM:=aC (ay aBv aqz.2 10 ak 8) fun al rs h=>by
 unfold cM at h
 split at h
 ·cases h;exact ayY
 ·cases h
def tVarM  : Ft:=.n .z 134 (.nat aW) U .z
def aBD   {k:Cls}:tVarM.Ok Tryz.prog k aH:=⟨tv,gU,tv,tv⟩
def ay1 {v:Nat}(h:v<4):bM (ao tVarM.tb 10 8) ak aqe.1 [sV (af v)]=Z [pV [oT v]]:=by
 have c1:CA (ao tVarM.tb 10 8) 134 aW:=fun _ _ _=>rfl
 generalize ao tVarM.tb 10 8=cf at*
 have e1:=tf
 unfold oT
 generalize Q.whole 1=q at*
 have hv':v=0∨v=1∨v=2∨v=3:=by omega
 rcases hv' with rfl|rfl|rfl|rfl<;>
 ·simp(maxSteps:=9^9) only[az,seval,-ac,-ae,aP7,c1,e1,mA]
  rfl
def ayK {k:Cls}:Cn k 103 mn:=aC (ay aBD aqe.2 10 ak 8) fun al rs h=>by
 unfold mn at h
 split at h
 ·split at h
  ·rename_i hc
   cases h
   rw[aTR]at hc
   exact ay1 hc
  ·cases h
 ·cases h
def aKS {v:Nat}(h:v<4):mn [sV (af v)]=Z [pV [oT v]]:=by
 have hb:ah v 4=ab:=by rw[aTR];exact h
 simp only[mn,hb]
def aN6 (v:Nat):(oT v).Ok:=by
 refine⟨?_,?_,?_,?_,fB⟩<;>(unfold oT;dsimp only;split<;>decide)
def aN7 (v:Nat):PF [oT v]:=⟨fun x hx=>(by rcases aTZ.1 hx with rfl|hx;exact aN6 v;cases hx),by simp⟩
def au9 {p:List Mn}:∀{q o r:List Mn},PF o→mlO p q o=Z r→PF r
 |[],o,r,h,e=>by rw[mlO]at e;cases e;exact h
 |m::q,o,r,h,e=>by
  rw[mlO]at e
  split at e
  ·split at e
   ·rename_i g2
    exact au9 (gB g2) e
   ·cases e
  ·cases e
def dX {p q r:List Mn}(h:cE p q=Z r):PF r:=au9 jm h
def sP (p:List Mn):Nat→List Mn→Option (List Mn)
 |0,r=>Z r
 |n+1,r=>match cE r p with
  |some r'=>sP p n r'
  |none=>U
def avQ {p:List Mn}:∀{n:Nat} {r s:List Mn},PF r→sP p n r=Z s→PF s
 |0,r,s,h,e=>by rw[sP]at e;cases e;exact h
 |n+1,r,s,h,e=>by
  rw[sP]at e
  split at e
  ·rename_i g;exact avQ (dX g) e
  ·cases e
section
variable {p r s:List Mn} {i n:Nat} {t0 t1 t2 t5 t6:T} {H:Hp} {W:List Nat} {cf:av}
def aF3 (hi:i<n)(hn:n<10000000)(e1:cJ [pV r,pV p]=Z [pV s])(c1:CA cf 76 cJ)(fl:Nat):
  ∃t2' H' W',am cf fl yv ⟨[iT i,pT r,t2,iT n,pT p,t5,t6],H,[],W,[]⟩=Z (.normal,⟨[iT (i+1),pT s,t2',iT n,pT p,t5,t6],H',[],W',[]⟩):=by
 have f1:i+1<9223372036854775808:=by omega
 simp(maxSteps:=9^9) only[au,seval,-ac,-ae,ar9,ar,c1,e1,hi,f1]
 exact⟨_,_,_,rfl⟩
def aLd (fl:Nat):
  ∃t2',am cf fl yv ⟨[iT n,pT r,t2,iT n,pT p,t5,t6],H,[],W,[]⟩=Z (.exit 0,⟨[iT n,pT r,t2',iT n,pT p,t5,t6],H,[],W,[]⟩):=by
 simp(maxSteps:=9^9) only[au,seval,-ac,-ae,ar9,ar]
 exact⟨_,rfl⟩
end
def tPp  : Ft:=.n (.n .z 76 (.nat cJ) U .z) 187 (.nat vf) U .z
def aNB   {k:Cls}:tPp.Ok Tryz.prog k aH:=⟨⟨tv,oA,tv,tv⟩,al6,tv,tv⟩
def awi {p s:List Mn}{n:Nat}(hp:PF p)(hn:n<10000000)(h:sP p n (cQ (Q.whole 1))=Z s):bM (ao tPp.tb 10 8) ak afy.1 [pV p,sV (af n)]=Z [pV s]:=by
 have c0:CA (ao tPp.tb 10 8) 187 vf:=fun _ _ _=>rfl
 have c1:CA (ao tPp.tb 10 8) 76 cJ:=fun _ _ _=>rfl
 generalize ao tPp.tb 10 8=cf at*
 have e0:vf [sV (af 1)]=Z [pV (cQ (Q.whole 1))]:=rfl
 have h0:=nP fB
 generalize cQ (Q.whole 1)=u at*
 obtain⟨st',hl,t2,H,W,rfl⟩:=bq (body:=am cf ak yv) (id:=0) n
  (fun i st=>i≤n∧∃r t2 H W,st=⟨[iT i,pT r,t2,iT n,pT p,aR,.t (.one (.c (.v (.bool aa))))],H,[],W,[]⟩∧PF r∧sP p (n-i) r=Z s)
  (fun st=>∃t2 H W,st=⟨[iT n,pT s,t2,iT n,pT p,aR,.t (.one (.c (.v (.bool aa))))],H,[],W,[]⟩)
  (fun i st hi=>by
   rintro⟨_,r,t2,H,W,rfl,hr,he⟩
   obtain⟨k,hk⟩:∃k,n-i=k+1:=⟨n-i-1,by omega⟩
   rw[hk,sP]at he
   split at he
   ·rename_i r' g
    obtain⟨t2',H',W',e⟩:=aF3 (t2:=t2) (t5:=aR) (t6:=.t (.one (.c (.v (.bool aa))))) (H:=H) (W:=W) hi hn (gK hr hp g) c1 ak
    exact⟨_,e,hi,_,_,_,_,rfl,dX g,by rw[show n-(i+1)=k by omega];exact he⟩
   ·cases he)
  (fun st=>by
   rintro⟨_,r,t2,H,W,rfl,hr,he⟩
   rw[Nat.sub_self,sP]at he
   cases he
   obtain⟨t2',e⟩:=aLd (p:=p) (r:=s) (n:=n) (t2:=t2) (t5:=aR) (t6:=.t (.one (.c (.v (.bool aa))))) (H:=H) (W:=W) (cf:=cf) ak
   exact⟨_,e,_,_,_,rfl⟩)
  ak ⟨[iT 0,pT u,.nil,iT n,pT p,aR,.t (.one (.c (.v (.bool aa))))],[],[],[],[]⟩ ⟨Nat.zero_le _,u,_,_,_,rfl,h0,h⟩ (aN hn)
 have g0:¬n<0:=Nat.not_lt_zero n
 simp(maxSteps:=9^9) only[au,seval,-ac,-ae,aQf,ar,c0,e0,hl,g0]
def sG:List V1→Option (List V1)
 |[x,.one (.v (.int .i64 (.ofNat n)))]=>match gz x,ah n 10000000 with
  |some p,ab=>(match sP p n (cQ (Q.whole 1))with|some s=>Z [pV s]|none=>U)
  |_,_=>U
 |_=>U
def av7 {k:Cls}:Cn k 118 sG:=aC (ay aNB afy.2 10 ak 8) fun al rs h=>by
 unfold sG at h
 split at h
 ·split at h
  ·rename_i hx hn
   rw[aTR]at hn
   obtain⟨rfl,h1,h2⟩:=eH hx
   split at h
   ·rename_i g
    cases h
    exact awi ⟨h1,h2⟩ hn g
   ·cases h
  ·cases h
 ·cases h
def aFD {p s:List Mn}{n:Nat}(hp:PF p)(hn:n<10000000)(h:sP p n (cQ (Q.whole 1))=Z s):sG [pV p,sV (af n)]=Z [pV s]:=by
 have hb:ah n 10000000=ab:=by rw[aTR];exact hn
 simp only[sG,iy hp.ok hp.len,hb,h]
def tC (p q:List Mn):Option (List Mn):=match dN (fX p q)with|true=>Z (fX p q)|false=>U
def xz (q ld:List Mn)(v b:Nat):Nat→List Mn→Option (List Mn)
 |0,r=>Z r
 |j+1,r=>match sP [oT v] j (cQ (Q.whole 1))with
  |none=>U
  |some w=>match cE (fD v (b+j) r) w,cE ld r with
   |some x,Z y=>(match cE x q with
    |some z=>(match tC y z with|some r'=>xz q ld v b j r'|none=>U)
    |none=>U)
   |_,_=>U
section
variable {p q ld r c w x y z s vp:List Mn} {v b k j:Nat} {t4 t5:T} {H:Hp} {W:List Nat} {cf:av}
def aF7 (hk:k<10000000)(hb:b≤k)(hw:IntKind.i64.wrap (af (k-b))=af j)
  (e1:iD [pV r,sV (af v),sV (af k)]=Z [pV c])(e2:mn [sV (af v)]=Z [pV vp])(e3:sG [pV vp,sV (af j)]=Z [pV w])(e4:cJ [pV c,pV w]=Z [pV x])(e5:cJ [pV ld,pV r]=Z [pV y])(e6:cJ [pV x,pV q]=Z [pV z])(e7:cS [pV y,pV z]=Z [pV s])
  (c1:CA cf 188 iD)(c2:CA cf 117 mn)(c3:CA cf 118 sG)(c4:CA cf 76 cJ)(c5:CA cf 119 cS)(fl:Nat):
  ∃t4' t5' H' W',am cf fl yx ⟨[iT k,pT r,iT v,iT b,t4,t5,pT q,pT ld,aR,iT 0,pT p,bj aa],H,[],W,[]⟩=Z (.normal,⟨[jT (m1 k),pT s,iT v,iT b,t4',t5',pT q,pT ld,aR,iT 0,pT p,bj aa],H',[],W',[]⟩):=by
 have hw2:=dJ (k:=k) (by omega)
 simp(maxSteps:=9^9) only[rsE,seval,-ac,-ae,asM,asb,ar,c1,c2,c3,c4,c5,e1,e2,e3,e4,e5,e6,e7,hb,hw,hw2]
 exact⟨_,_,_,_,rfl⟩
def aLg (hb:(decide (m1 k≥af b))=aa)(fl:Nat):
  ∃t5',am cf fl yx ⟨[jT (m1 k),pT r,iT v,iT b,t4,t5,pT q,pT ld,aR,iT 0,pT p,bj aa],H,[],W,[]⟩=Z (.exit 0,⟨[jT (m1 k),pT r,iT v,iT b,t4,t5',pT q,pT ld,aR,iT 0,pT p,bj aa],H,[],W,[]⟩):=by
 simp(maxSteps:=9^9) only[au,seval,-ac,-ae,asb,ar,hb]
 exact⟨_,rfl⟩
end
def tPs  : Ft:=.n (.n (.n .z 76 (.nat cJ) U .z) 112 (.nat a9) U (.n .z 117 (.nat mn) U .z)) 118 (.nat sG) U (.n (.n .z 119 (.nat cS) U .z) 188 (.nat iD) U (.n .z 211 (.nat ad0) U .z))
def aNC   {k:Cls}:tPs.Ok Tryz.prog k aH:=⟨⟨⟨tv,oA,tv,tv⟩,lh,tv,⟨tv,akT,tv,tv⟩⟩,av7,tv,⟨⟨tv,ahi,tv,tv⟩,aef,tv,⟨tv,av5,tv,tv⟩⟩⟩
def aGa {p q s:List Mn}{v b:Nat}(hp:PF p)(hq:PF q)(hv:v<4)(hb:dg v q=b+1)(hap:dg v p<10000000)(hbq:b<10000000)(h:xz q (fD v b q) v b (dg v p-b) p=Z s):
  bM (ao tPs.tb 10 8) ak afE.1 [pV p,pV q,sV (af v)]=Z [pV s,sV (af 0)]:=by
 have c0:CA (ao tPs.tb 10 8) 112 a9:=fun _ _ _=>rfl
 have c6:CA (ao tPs.tb 10 8) 211 ad0:=fun _ _ _=>rfl
 have c1:CA (ao tPs.tb 10 8) 188 iD:=fun _ _ _=>rfl
 have c2:CA (ao tPs.tb 10 8) 117 mn:=fun _ _ _=>rfl
 have c3:CA (ao tPs.tb 10 8) 118 sG:=fun _ _ _=>rfl
 have c4:CA (ao tPs.tb 10 8) 76 cJ:=fun _ _ _=>rfl
 have c5:CA (ao tPs.tb 10 8) 119 cS:=fun _ _ _=>rfl
 generalize ao tPs.tb 10 8=cf at*
 have e0:=cv hq hv
 have e0':=cv hp hv
 rw[hb]at e0
 have e6:ad0 [pV q,sV (af v)]=Z [pV (fD v b q)]:=by
  unfold ad0
  rw[wG hq hv,hb]
 have hld:=aiL (v:=v) (n:=b) hq
 generalize fD v b q=ld at*
 obtain⟨a,ha⟩:∃a,dg v p=a:=⟨_,rfl⟩
 rw[ha]at e0' h hap
 obtain⟨_,st',hl,_,rfl,k,t4,t5,H,W,rfl⟩:=bg (body:=am cf ak yx)
  (fun(k:Nat) st=>k<10000000∧∃r t4 t5 H W,st=⟨[jT (m1 k),pT r,iT v,iT b,t4,t5,pT q,pT ld,aR,iT 0,pT p,bj aa],H,[],W,[]⟩∧PF r∧xz q ld v b (k-b) r=Z s) (fun k=>k)
  (fun x st'=>x=.exit 0∧∃k t4 t5 H W,st'=⟨[jT (m1 k),pT s,iT v,iT b,t4,t5,pT q,pT ld,aR,iT 0,pT p,bj aa],H,[],W,[]⟩)
  (fun k st hI=>by
   obtain⟨hk,r,t4,t5,H,W,rfl,hr,he⟩:=hI
   rcases aT6 b k with hlt|hge
   ·obtain⟨k,rfl⟩:∃m,k=m+1:=⟨k-1,by omega⟩
    obtain⟨j,hj⟩:∃j,k-b=j:=⟨_,rfl⟩
    rw[show k+1-b=j+1 by omega,xz,show b+j=k by omega]at he
    split at he
    ·cases he
    rename_i w g1
    split at he
    rotate_left
    ·cases he
    rename_i x y g2 g3
    split at he
    rotate_left
    ·cases he
    rename_i z g4
    split at he
    rotate_left
    ·cases he
    rename_i r' g5
    have hvp:=aN7 v
    have hw:=avQ (nP fB) g1
    have hx:=dX g2
    have hy:=dX g3
    have hz:=dX g4
    have hc:=aiL (v:=v) (n:=k) hr
    unfold tC at g5
    split at g5
    rotate_left
    ·cases g5
    rename_i g6
    injection g5 with g5
    have hr':=gB g6
    have e7:=ve hy hz
    rw[g5]at e7 hr'
    have hjw:IntKind.i64.wrap (af (k-b))=af j:=by rw[hj,lk,pf,if_pos (by omega)]
    obtain⟨t4',t5',H',W',e⟩:=aF7 (q:=q) (p:=p) (t4:=t4) (t5:=t5) (H:=H) (W:=W) (k:=k) (by omega) (by omega) hjw (acf hr hv) (aKS hv) (aFD hvp (by omega) g1) (gK hc hw g2) (gK hld hr g3) (gK hx hq g4) e7 c1 c2 c3 c4 c5 ak
    exact .inl ⟨k,_,e,⟨by omega,_,_,_,_,_,rfl,hr',by rw[hj];exact he⟩,Nat.lt_succ_self k⟩
   ·rw[show k-b=0 by omega,xz]at he
    cases he
    have hd:(decide (m1 k≥af b))=aa:=by
     rw[decide_eq_false_iff_not,gD]
     show ¬((b:Int)≤_)
     omega
    obtain⟨t5',e⟩:=aLg (q:=q) (p:=p) (ld:=ld) (r:=s) (v:=v) (t4:=t4) (t5:=t5) (H:=H) (W:=W) (cf:=cf) hd ak
    exact .inr ⟨_,_,e,by simp,rfl,_,_,_,_,_,rfl⟩)
  ak a ⟨[jT (m1 a),pT p,iT v,iT b,.nil,.nil,pT q,pT ld,aR,iT 0,pT p,bj aa],[],[],[],[]⟩ ⟨hap,p,_,_,_,_,rfl,hp,h⟩ (aN hap)
 have hql:(q.length==0)=aa:=by
  cases q with
  |nil=>cases hb
  |cons m t=>rfl
 have e0'':a9 [pV q,sV (af v)]=Z [sV (af b)]:=e0
 simp(maxSteps:=9^9) only[au,seval,-ac,-ae,aQp,ar,c0,c6,e0',e0'',e6,hl,hql]
def lI:=wF fun p q v=>match dg v q with
 |0=>U
 |b+1=>match ah (dg v p) 10000000,ah b 10000000 with
  |true,ab=>(match xz q (fD v b q) v b (dg v p-b) p with|some s=>Z [pV s,sV (af 0)]|none=>U)
  |_,_=>U
def al5 {k:Cls}:Cn k 147 lI:=tU (ay aNC afE.2 10 ak 8) fun p q v rs hp hq hv h=>by
 split at h
 ·cases h
 ·rename_i b hb
  split at h
  ·rename_i h1 h2
   rw[aTR]at h1 h2
   split at h
   ·rename_i s g
    cases h
    exact aGa hp hq hv hb h1 h2 g
   ·cases h
  ·cases h
def fS (p:List Mn):Option (List Mn):=match dN p with|true=>Z p|false=>U
def fE {p r:List Mn}(h:fS p=Z r):r=p∧PF p:=by
 unfold fS at h
 split at h
 ·rename_i g;cases h;exact⟨rfl,gB g⟩
 ·cases h
def fw (p:List Mn):Option (List Mn):=match p with
 |[]=>Z []
 |m::t=>match co m.q.n 0,gS (io ((Q.whole 1).div m.q))with
  |false,ab=>fS (eG (m::t) ((Q.whole 1).div m.q))
  |_,_=>U
def gM {p r:List Mn}(h:fw p=Z r):PF r:=by
 unfold fw at h
 split at h
 ·cases h;exact jm
 ·split at h
  ·obtain⟨rfl,h2⟩:=fE h;exact h2
  ·cases h
def tNo  : Ft:=.n (.n .z 65 (.nat aW) U .z) 84 (.nat bI) U (.n .z 185 (.nat pB) U .z)
def aNw   {k:Cls}:tNo.Ok Tryz.prog k aH:=⟨⟨tv,gZ,tv,tv⟩,pF,tv,⟨tv,ahg,tv,tv⟩⟩
def aKU:bM (ao tNo.tb 10 8) ak afA.1 [pV []]=Z [pV []]:=by
 simp(maxSteps:=9^9) only[au,seval,-ac,-ae,aHF,ar,pL,aUf]
 rfl
def aKV {m:Mn}{t r:List Mn}{u c:Q}{cf:av}(e1:aW [sV (af 1)]=Z [eQ u])(e2:pB [eQ u,eQ m.q]=Z [eQ c])(e3:bI [pV (m::t),eQ c]=Z [pV r])
  (c1:CA cf 65 aW)(c2:CA cf 185 pB)(c3:CA cf 84 bI):
  bM cf ak afA.1 [pV (m::t)]=Z [pV r]:=by
 have z:(t.length+1==0)=aa:=rfl
 have z1:0<t.length+1:=Nat.succ_pos _
 simp only[pV,pC,dH,aTV]at e3 ⊢
 simp(maxSteps:=9^9) only[au,seval,-ac,-ae,aHF,ar,c1,c2,c3,e1,e2,e3,z,z1]
def avs {p r:List Mn}(hp:PF p)(h:fw p=Z r):bM (ao tNo.tb 10 8) ak afA.1 [pV p]=Z [pV r]:=by
 unfold fw at h
 split at h
 ·cases h;exact aKU
 ·rename_i m t
  split at h
  ·rename_i h0 h1
   obtain⟨rfl,h2⟩:=fE h
   have om:=hp.ok m aT0
   have hc:=(jR h1).q
   exact aKV tf (ani fB om.q (by intro e;rw[e]at h0;cases h0)) (ga hp hc) (fun _ _ _=>rfl) (fun _ _ _=>rfl) (fun _ _ _=>rfl)
  ·cases h
def bQ:=pg1 fun p=>match fw p with|some r=>Z [pV r]|none=>U
def cZ {p r:List Mn}(hp:PF p)(h:fw p=Z r):bQ [pV p]=Z [pV r]:=by
 unfold bQ
 rw[aqa hp]
 simp only[h]
def al4 {k:Cls}:Cn k 141 bQ:=tT (ay aNw afA.2 10 ak 8) fun p rs hp h=>by
 split at h
 ·rename_i r e
  cases h;exact avs hp e
 ·cases h
def pE (p q:List Mn):Option (List Mn):=match kO p q with
 |some (Z l)=>fS l
 |some U=>Z []
 |none=>U
def azc {p q r:List Mn}(h:pE p q=Z r):PF r:=by
 unfold pE at h
 split at h
 ·obtain⟨rfl,h2⟩:=fE h;exact h2
 ·cases h;exact jm
 ·cases h
def tOv  : Ft:=.n .z 184 (.nat nx) U .z
def aNy   {k:Cls}:tOv.Ok Tryz.prog k aH:=⟨tv,ag9,tv,tv⟩
def ag0 {p q r:List Mn}{b:Bool}{cf:av}(e1:nx [pV p,pV q]=Z [pV r,bV b])(c1:CA cf 184 nx):
  bM cf ak akA.1 [pV p,pV q]=Z [pV r]:=by
 simp(maxSteps:=9^9) only[au,seval,-ac,-ae,aQb,ar,c1,e1]
def azd {p q r:List Mn}(hp:PF p)(hq:PF q)(h:pE p q=Z r):bM (ao tOv.tb 10 8) ak akA.1 [pV p,pV q]=Z [pV r]:=by
 unfold pE at h
 split at h
 ·rename_i l g
  obtain⟨rfl,h2⟩:=fE h
  exact ag0 (aaT hp hq g) (fun _ _ _=>rfl)
 ·rename_i g
  cases h
  exact ag0 (aaT hp hq g) (fun _ _ _=>rfl)
 ·cases h
def uY:=kI fun p q=>match pE p q with|some r=>Z [pV r]|none=>U
def ay6 {p q r:List Mn}(hp:PF p)(hq:PF q)(h:pE p q=Z r):uY [pV p,pV q]=Z [pV r]:=by
 unfold uY
 rw[i7 hp hq]
 simp only[h]
def ara {k:Cls}:Cn k 111 uY:=dG (ay aNy akA.2 10 ak 8) fun p q rs hp hq h=>by
 split at h
 ·rename_i r e
  cases h;exact azd hp hq e
 ·cases h
abbrev Nt:=List V1→Option (List V1)
abbrev Gt:=List Mn→List Mn→Option (List Mn)
abbrev jK (G:Gt):Prop:=∀p q r,PF p→PF q→G p q=Z r→PF r
def nG (G:Gt):Nt:=kI fun p q=>match G p q with|some r=>Z [pV r]|none=>U
def tj {G:Gt}{p q r:List Mn}(hp:PF p)(hq:PF q)(h:G p q=Z r):nG G [pV p,pV q]=Z [pV r]:=by
 unfold nG
 rw[i7 hp hq]
 simp only[h]
def ctF (G:Gt):List (List Mn)→List Mn→Option (List Mn)
 |[],o=>Z o
 |c::l,o=>match G o c with
  |some o'=>ctF G l o'
  |none=>U
def jE (G:Gt)(p:List Mn)(v:Nat):Option (List Mn):=match ah (dg v p) 10000000 with
 |true=>ctF G (aS v p) []
 |false=>U
def jI (G:Gt)(p:List Mn)(v:Nat):Option (List Mn):=match p with
 |[]=>Z []
 |m::t=>match jE G (m::t) v with
  |some c=>pE (m::t) c
  |none=>U
def asZ {v:Nat}{p:List Mn}(h:PF p):∀(n i:Nat) (c:List Mn),c∈kj v p n i→PF c
 |0,i,c,hc=>by rw[kj]at hc;cases hc
 |n+1,i,c,hc=>by
  rw[kj]at hc
  rcases List.mem_append.1 (show c∈[fD v i p]++kj v p n (i+1) from hc)with hc|hc
  ·rcases aTZ.1 hc with rfl|hc
   ·exact aiL h
   ·cases hc
  ·exact asZ h n (i+1) c hc
def iJ {v:Nat}{p:List Mn}(h:PF p):∀c∈aS v p,PF c:=fun c hc=>asZ h _ _ c hc
def atd {G:Gt}(hG:jK G):∀{l:List (List Mn)} {o r:List Mn},(∀c∈l,PF c)→PF o→ctF G l o=Z r→PF r
 |[],o,r,_,ho,h=>by rw[ctF]at h;cases h;exact ho
 |c::l,o,r,hl,ho,h=>by
  rw[ctF]at h
  split at h
  ·rename_i o' g
   exact atd hG (fun x hx=>hl x (aT8 _ hx)) (hG o c o' ho (hl c aT0) g) h
  ·cases h
def abR {G:Gt}(hG:jK G){p r:List Mn}{v:Nat}(hp:PF p)(h:jE G p v=Z r):PF r:=by
 unfold jE at h
 split at h
 ·exact atd hG (iJ hp) jm h
 ·cases h
def rC {G:Gt}{p r:List Mn}{v:Nat}(h:jI G p v=Z r):PF r:=by
 unfold jI at h
 split at h
 ·cases h;exact jm
 ·split at h
  ·exact azc h
  ·cases h
section
variable {G:Gt} {l:List (List Mn)} {c o r:List Mn} {i:Nat} {y t3 t4 t5 t6:T} {H:Hp} {W:List Nat} {cf:av}
def aaO {t:List (List Mn)}(hi:l.drop i=c::t):(l.map pC).drop i=pC c::t.map pC:=by rw[← List.map_drop,hi];rfl
def aEq {t:List (List Mn)}(hi:l.drop i=c::t)(hl:l.length<20000000)(hy:YP y o)(e1:nG G [pV o,pV c]=Z [pV r])(c1:CA cf 66 (nG G))(fl:Nat):
  ∃t3' H' W',am cf fl yw ⟨[iT i,y,lT l,t3,t4,t5,t6],H,[],W,[]⟩=Z (.normal,⟨[iT (i+1),pT r,lT l,t3',t4,t5,t6],H',[],W',[]⟩):=by
 have hd:=aaO hi
 have h1:=aM hi
 have f1:i+1<9223372036854775808:=by omega
 rcases hy with⟨rfl,rfl⟩|rfl
 ·have e1':nG G [.one (.sl 0 []),pV c]=Z [pV r]:=e1
  simp(maxSteps:=9^9) only[au,seval,-ac,-ae,ah5,ar,c1,e1',h1,hd,f1]
  exact⟨_,_,_,rfl⟩
 ·simp(maxSteps:=9^9) only[au,seval,-ac,-ae,ah5,ar,c1,e1,h1,hd,f1]
  exact⟨_,_,_,rfl⟩
def aI2 (fl:Nat):
  ∃t3',am cf fl yw ⟨[iT l.length,y,lT l,t3,t4,t5,t6],H,[],W,[]⟩=Z (.exit 0,⟨[iT l.length,y,lT l,t3',t4,t5,t6],H,[],W,[]⟩):=by
 simp(maxSteps:=9^9) only[au,seval,-ac,-ae,ah5,ar]
 exact⟨_,rfl⟩
end
def tCt (Ng:Nt):Ft:=.n (.n .z 66 (.nat Ng) U .z) 208 (.nat k8) U .z
def aMY {Ng:Nt}(hg:∀{k:Cls},Cn k 66 Ng){k:Cls}:(tCt Ng).Ok Tryz.prog k aH:=⟨⟨tv,hg,tv,tv⟩,abD,tv,tv⟩
def axB {G:Gt}(hG:jK G){p r:List Mn}{v:Nat}(hp:PF p)(hv:v<4)(h:jE G p v=Z r):bM (ao (tCt (nG G)).tb 10 8) ak afC.1 [pV p,sV (af v)]=Z [pV r]:=by
 have c0:∀al H S,ao (tCt (nG G)).tb 10 8 (fT 208) al H S=bC k8 al H S:=fun _ _ _=>rfl
 have c1:∀al H S,ao (tCt (nG G)).tb 10 8 (fT 66) al H S=bC (nG G) al H S:=fun _ _ _=>rfl
 generalize ao (tCt (nG G)).tb 10 8=cf at*
 unfold jE at h
 split at h
 rotate_left
 ·cases h
 rename_i hk
 rw[aTR]at hk
 have e0:=apZ hp hv hk
 have hpf:=iJ (v:=v) hp
 have hlen:(aS v p).length<20000000:=by
  have:∀(n i:Nat),(kj v p n i).length≤n:=by
   intro n
   induction n with
   |zero=>intro i;exact aTS _
   |succ n ih=>
    intro i
    rw[kj]
    have h2:=ih (i+1)
    simp only[aTW,aTV,aUf]
    omega
  have h3:=this (dg v p) 0
  unfold aS
  omega
 generalize aS v p=l at*
 obtain⟨st',hl,y,t3,H,W,rfl,hy⟩:=bq (body:=am cf ak yw) (id:=0) l.length
  (fun i st=>∃y t3 H W o,st=⟨[iT i,y,lT l,t3,aR,pT p,iT v],H,[],W,[]⟩∧YP y o∧PF o∧ctF G (l.drop i) o=Z r)
  (fun st=>∃y t3 H W,st=⟨[iT l.length,y,lT l,t3,aR,pT p,iT v],H,[],W,[]⟩∧YP y r)
  (fun i st hi=>by
   rintro⟨y,t3,H,W,o,rfl,hy,ho,hr⟩
   obtain⟨c,t,hm⟩:=bo hi
   have hc:=hpf c (aX hm)
   rw[hm,ctF]at hr
   split at hr
   ·rename_i o' g
    obtain⟨t3',H',W',e⟩:=aEq (t3:=t3) (t4:=aR) (t5:=pT p) (t6:=iT v) (H:=H) (W:=W) hm hlen hy (tj ho hc g) c1 ak
    exact⟨_,e,_,_,_,_,_,rfl,.inr rfl,hG _ _ _ ho hc g,by rw[bf hm];exact hr⟩
   ·cases hr)
  (fun st=>by
   rintro⟨y,t3,H,W,o,rfl,hy,ho,hr⟩
   obtain⟨t3',e⟩:=aI2 (l:=l) (y:=y) (t3:=t3) (t4:=aR) (t5:=pT p) (t6:=iT v) (H:=H) (W:=W) (cf:=cf) ak
   rw[aUg,ctF]at hr
   cases hr
   exact⟨_,e,_,_,_,_,rfl,hy⟩)
  ak ⟨[iT 0,.t (.one .z0),lT l,.nil,aR,pT p,iT v],[],[],[],[]⟩ ⟨.t (.one .z0),.nil,[],[],[],rfl,.inl ⟨rfl,rfl⟩,jm,h⟩ (by have:=eI (n:=l.length) (by omega);exact this)
 rcases hy with⟨rfl,rfl⟩|rfl
 ·simp(maxSteps:=9^9) only[au,seval,-ac,-ae,aHG,ar,c0,e0,hl];rfl
 ·simp(maxSteps:=9^9) only[au,seval,-ac,-ae,aHG,ar,c0,e0,hl]
def pp (G:Gt):Nt:=sO fun p v=>match jE G p v with|some r=>Z [pV r]|none=>U
def uW {G:Gt}{p r:List Mn}{v:Nat}(hp:PF p)(hv:v<4)(h:jE G p v=Z r):pp G [pV p,sV (af v)]=Z [pV r]:=by
 unfold pp
 rw[wG hp hv]
 simp only[h]
def ag8 {G:Gt}(hG:jK G)(hg:∀{k:Cls},Cn k 66 (nG G)){k:Cls}:Cn k 144 (pp G):=lU (ay (aMY hg) afC.2 10 ak 8) fun p v rs hp hv h=>by
 split at h
 ·rename_i r e
  cases h;exact axB hG hp hv e
 ·cases h
def tPi (Ng:Nt):Ft:=.n (.n .z 111 (.nat uY) U .z) 144 (.nat Ng) U .z
def aNA {Ng:Nt}(hg:∀{k:Cls},Cn k 144 Ng){k:Cls}:(tPi Ng).Ok Tryz.prog k aH:=⟨⟨tv,ara,tv,tv⟩,hg,tv,tv⟩
def aLe {v:Nat}{cf:av}:bM cf ak afD.1 [pV [],sV (af v)]=Z [pV []]:=by
 simp(maxSteps:=9^9) only[au,seval,-ac,-ae,aHH,ar,pL,aUf]
 rfl
def aLf {N:Nt}{m:Mn}{t c r:List Mn}{v:Nat}{cf:av}(e1:N [pV (m::t),sV (af v)]=Z [pV c])(e2:uY [pV (m::t),pV c]=Z [pV r])
  (c1:CA cf 144 N)(c2:CA cf 111 uY):
  bM cf ak afD.1 [pV (m::t),sV (af v)]=Z [pV r]:=by
 have z:(t.length+1==0)=aa:=rfl
 simp only[pV,pC,aTV]at e1 e2 ⊢
 generalize pL (m::t)=cs at*
 simp(maxSteps:=9^9) only[au,seval,-ac,-ae,aHH,ar,c1,c2,e1,e2,z]
def azj {G:Gt}(hG:jK G){p r:List Mn}{v:Nat}(hp:PF p)(hv:v<4)(h:jI G p v=Z r):bM (ao (tPi (pp G)).tb 10 8) ak afD.1 [pV p,sV (af v)]=Z [pV r]:=by
 unfold jI at h
 split at h
 ·cases h;exact aLe
 ·split at h
  ·rename_i c g
   exact aLf (N:=pp G) (uW hp hv g) (ay6 hp (abR hG hp g) h) (fun _ _ _=>rfl) (fun _ _ _=>rfl)
  ·cases h
def sH (G:Gt):Nt:=sO fun p v=>match jI G p v with|some r=>Z [pV r]|none=>U
def uZ {G:Gt}{p r:List Mn}{v:Nat}(hp:PF p)(hv:v<4)(h:jI G p v=Z r):sH G [pV p,sV (af v)]=Z [pV r]:=by
 unfold sH
 rw[wG hp hv]
 simp only[h]
def av8 {G:Gt}(hG:jK G)(hg:∀{k:Cls},Cn k 66 (nG G)){k:Cls}:Cn k 145 (sH G):=lU (ay (aNA (ag8 hG hg)) afD.2 10 ak 8) fun p v rs hp hv h=>by
 split at h
 ·rename_i r e
  cases h;exact azj hG hp hv e
 ·cases h
def zw (p q:List Mn)(v:Nat):Option (List Mn):=match dg v q with
 |0=>U
 |b+1=>match ah (dg v p) 10000000,ah b 10000000 with
  |true,ab=>xz q (fD v b q) v b (dg v p-b) p
  |_,_=>U
def avi {p q r:List Mn}{v:Nat}(hp:PF p)(hq:PF q)(hv:v<4)(h:zw p q v=Z r):lI [pV p,pV q,sV (af v)]=Z [pV r,sV (af 0)]:=by
 unfold lI
 rw[zo hp hq hv]
 unfold zw at h
 split at h
 ·cases h
 ·rename_i b hb
  split at h
  ·rename_i h1 h2
   simp only[hb,h1,h2,h]
  ·cases h
def avO {q ld:List Mn}{v b:Nat}:∀{j:Nat} {r s:List Mn},PF r→xz q ld v b j r=Z s→PF s
 |0,r,s,h,e=>by rw[xz]at e;cases e;exact h
 |j+1,r,s,h,e=>by
  rw[xz]at e
  split at e
  ·cases e
  ·split at e
   ·split at e
    ·split at e
     ·rename_i g5
      unfold tC at g5
      split at g5
      ·rename_i g6
       injection g5 with g5
       refine avO ?_ e
       rw[← g5]
       exact gB g6
      ·cases g5
     ·cases e
    ·cases e
   ·cases e
def aF9 {p q r:List Mn}{v:Nat}(hp:PF p)(h:zw p q v=Z r):PF r:=by
 unfold zw at h
 split at h
 ·cases h
 ·split at h
  ·exact avO hp h
  ·cases h
def sqF (G:Gt)(v:Nat):Nat→List Mn→List Mn→Option (List Mn)
 |0,_,_=>U
 |_+1,a,[]=>Z a
 |g+1,a,m::t=>match zw a (m::t) v with
  |none=>U
  |some r=>match jI G r v with
   |none=>U
   |some r1=>match fw r1 with
    |none=>U
    |some r2=>sqF G v g (m::t) r2
section
variable {N:Nt} {a t r r1 r2:List Mn} {m:Mn} {v:Nat} {t3 t4 t5 t6 t7 t8 t9 t10 t11 t12 t13 t14:T} {H:Hp} {W:List Nat} {cf:av}
def aGL (e1:lI [pV a,pV (m::t),sV (af v)]=Z [pV r,sV (af 0)])(e2:N [pV r,sV (af v)]=Z [pV r1])(e3:bQ [pV r1]=Z [pV r2])
  (c1:CA cf 147 lI)(c2:CA cf 145 N)(c3:CA cf 141 bQ)(fl:Nat):
  ∃t3' t4' H' W',am cf fl sp ⟨[pT (m::t),iT v,pT a,t3,t4,t5,t6,t7,t8,t9,t10,t11,t12,t13,t14],H,[],W,[]⟩=Z (.normal,⟨[pT r2,iT v,pT (m::t),t3',t4',t5,t6,t7,t8,t9,t10,t11,t12,t13,t14],H',[],W',[]⟩):=by
 have z:0<t.length+1:=Nat.succ_pos _
 simp only[pV,pC,pT,aTV]at e1 ⊢
 generalize pL (m::t)=cs at*
 simp(maxSteps:=9^9) only[au,seval,-ac,-ae,aBT,ar,c1,c2,c3,e1,e2,e3,z]
 exact⟨_,_,_,_,rfl⟩
def aMG (fl:Nat):
  ∃t4',am cf fl sp ⟨[pT [],iT v,pT a,t3,t4,t5,t6,t7,t8,t9,t10,t11,t12,t13,t14],H,[],W,[]⟩=Z (.exit 0,⟨[pT [],iT v,pT a,t3,t4',t5,t6,t7,t8,t9,t10,t11,t12,t13,t14],H,[],W,[]⟩):=by
 simp(maxSteps:=9^9) only[au,seval,-ac,-ae,aBT,ar,pL,aUf]
 exact⟨_,rfl⟩
def aGK {G:Gt}{b R:List Mn}(hv:v<4)(ha:PF a)(hb:PF b){g:Nat}(hg:g<10000000)(h:sqF G v g a b=Z R)
  (c1:CA cf 147 lI)(c2:CA cf 145 (sH G))(c3:CA cf 141 bQ):
  PF R∧∃t3' t4' H' W',aG (am cf ak sp) ak ⟨[pT b,iT v,pT a,t3,t4,t5,t6,t7,t8,t9,t10,t11,t12,t13,t14],H,[],W,[]⟩=Z (.exit 0,⟨[pT [],iT v,pT R,t3',t4',t5,t6,t7,t8,t9,t10,t11,t12,t13,t14],H',[],W',[]⟩):=by
 obtain⟨x,st',hl,_,rfl,hR,t3',t4',H',W',rfl⟩:=bg (body:=am cf ak sp)
  (fun(s:Nat × List Mn × List Mn) st=>PF s.2.1∧PF s.2.2∧sqF G v s.1 s.2.1 s.2.2=Z R∧∃t3 t4 H W,st=⟨[pT s.2.2,iT v,pT s.2.1,t3,t4,t5,t6,t7,t8,t9,t10,t11,t12,t13,t14],H,[],W,[]⟩) (fun s=>s.1)
  (fun x st'=>x=.exit 0∧PF R∧∃t3 t4 H W,st'=⟨[pT [],iT v,pT R,t3,t4,t5,t6,t7,t8,t9,t10,t11,t12,t13,t14],H,[],W,[]⟩)
  (fun s st hI=>by
   obtain⟨g,a,b⟩:=s
   obtain⟨h1,h2,h3,t3,t4,H,W,rfl⟩:=hI
   dsimp only at h1 h2 h3
   match g,b,h2,h3 with
   |0,_,_,h3=>cases h3
   |g+1,[],_,h3=>
    rw[sqF]at h3
    cases h3
    obtain⟨t4',e⟩:=aMG (a:=R) (v:=v) (t3:=t3) (t4:=t4) (t5:=t5) (t6:=t6) (t7:=t7) (t8:=t8) (t9:=t9) (t10:=t10) (t11:=t11) (t12:=t12) (t13:=t13) (t14:=t14) (H:=H) (W:=W) (cf:=cf) ak
    exact .inr ⟨_,_,e,by simp,rfl,h1,_,_,_,_,rfl⟩
   |g+1,m::t,h2,h3=>
    rw[sqF]at h3
    split at h3
    ·cases h3
    rename_i r g1
    split at h3
    ·cases h3
    rename_i r1 g2
    split at h3
    ·cases h3
    rename_i r2 g3
    have hr:=aF9 h1 g1
    obtain⟨t3',t4',H',W',e⟩:=aGL (t3:=t3) (t4:=t4) (t5:=t5) (t6:=t6) (t7:=t7) (t8:=t8) (t9:=t9) (t10:=t10) (t11:=t11) (t12:=t12) (t13:=t13) (t14:=t14) (H:=H) (W:=W) (avi h1 h2 hv g1) (uZ hr hv g2) (cZ (rC g2) g3) c1 c2 c3 ak
    exact .inl ⟨(g,_,_),_,e,⟨h2,gM g3,h3,_,_,_,_,rfl⟩,Nat.lt_succ_self g⟩)
  ak (g,a,b) _ ⟨ha,hb,h,t3,t4,H,W,rfl⟩ (aN hg)
 exact⟨hR,_,_,_,_,hl⟩
end
structure GCf (cf:av) (NG NC NP:Nt):Prop where
 no:CA cf 141 bQ
 tp:CA cf 142 afl
 one:CA cf 143 cM
 ct:CA cf 144 NC
 gc:CA cf 66 NG
 pr:CA cf 145 NP
 dg:CA cf 112 a9
 bd:CA cf 146 qT
 ps:CA cf 147 lI
 mu:CA cf 76 cJ
section
variable {NG NC NP:Nt} {p q r a b c p1 q1 u w A B R x:List Mn} {v K dR du dw:Nat} {cf:av}
def aRF (C:GCf cf NG NC NP)(e:bQ [pV q]=Z [pV r]):bM cf ak sQ.1 [pV [],pV q]=Z [pV r]:=by
 have c1:=C.no
 simp(maxSteps:=9^9) only[au,seval,-ac,-ae,E66,ar,pL,aUf,c1,e]
def aRG (C:GCf cf NG NC NP)(zp:(p.length==0)=aa)(e:bQ [pV p]=Z [pV r]):bM cf ak sQ.1 [pV p,pV []]=Z [pV r]:=by
 have c1:=C.no
 have e0:pC []=.sl 0 []:=rfl
 simp(maxSteps:=9^9) only[au,seval,-ac,-ae,E66,ar,e0,c1,e,zp]
def aRH (C:GCf cf NG NC NP)(zp:(p.length==0)=aa)(zq:(q.length==0)=aa)(e1:afl [pV p,pV q]=Z [sV (aT2 0)])(e2:cM []=Z [pV r]):bM cf ak sQ.1 [pV p,pV q]=Z [pV r]:=by
 have c1:=C.tp
 have c2:=C.one
 simp(maxSteps:=9^9) only[au,seval,-ac,-ae,E66,ar,c1,c2,e1,e2,zp,zq]
structure GCp (NG NC NP:Nt) (p q c u w A B:List Mn) (v K:Nat):Prop where
 zp:(p.length==0)=aa
 zq:(q.length==0)=aa
 tp:afl [pV p,pV q]=Z [sV (af v)]
 ex:∃a b p1 q1 du dw,NC [pV p,sV (af v)]=Z [pV a]∧NC [pV q,sV (af v)]=Z [pV b]∧NG [pV a,pV b]=Z [pV c]∧NP [pV p,sV (af v)]=Z [pV p1]∧bQ [pV p1]=Z [pV u]∧NP [pV q,sV (af v)]=Z [pV q1]∧bQ [pV q1]=Z [pV w]∧a9 [pV u,sV (af v)]=Z [sV (m1 du)]∧a9 [pV w,sV (af v)]=Z [sV (m1 dw)]∧((decide (m1 du<m1 dw)=ab∧A=w∧B=u)∨(decide (m1 du<m1 dw)=aa∧A=u∧B=w))
 bd:qT [pV A,pV B,sV (af v)]=Z [sV (m1 K)]
def aRI (C:GCf cf NG NC NP)(h:GCp NG NC NP p q c u w A B v K)(zk:(m1 K==af 0)=ab)(e:bQ [pV c]=Z [pV r]):bM cf ak sQ.1 [pV p,pV q]=Z [pV r]:=by
 obtain⟨zp,zq,e0,⟨a,b,p1,q1,du,dw,e1,e2,e3,e4,e5,e6,e7,e8,e9,hs⟩,e10⟩:=h
 have c1:=C.tp;have c2:=C.ct;have c3:=C.gc;have c4:=C.pr;have c5:=C.no;have c6:=C.dg;have c7:=C.bd
 rcases hs with⟨hs,rfl,rfl⟩|⟨hs,rfl,rfl⟩<;>
 ·simp(maxSteps:=9^9) only[au,seval,-ac,-ae,E66,ar,c1,c2,c3,c4,c5,c6,c7,e0,e1,e2,e3,e4,e5,e6,e7,e8,e9,e10,hs,zk,zp,zq,e]
abbrev gcT (p q c A B:List Mn)(v:Nat)(sw:Bool)(t3 t4:T):List T:=[pT B,iT v,pT A,t3,t4,aR,pT p,pT q,pT c,bj aa,bj aa,bj aa,bj sw,bj aa,.nil]
def aRJ (C:GCf cf NG NC NP)(h:GCp NG NC NP p q c u w A B v K)(zk:(m1 K==af 0)=aa)
  (hl:∀sw,∃t3' t4' H' W',aG (am cf ak sp) ak ⟨gcT p q c A B v sw .nil .nil,[],[],[],[]⟩=Z (.exit 0,⟨gcT p q c R [] v sw t3' t4',H',[],W',[]⟩))
  (eR:a9 [pV R,sV (af v)]=Z [sV (m1 dR)])(zR:aTQ dR 1=ab)(e:bQ [pV c]=Z [pV r]):bM cf ak sQ.1 [pV p,pV q]=Z [pV r]:=by
 obtain⟨zp,zq,e0,⟨a,b,p1,q1,du,dw,e1,e2,e3,e4,e5,e6,e7,e8,e9,hs⟩,e10⟩:=h
 have c1:=C.tp;have c2:=C.ct;have c3:=C.gc;have c4:=C.pr;have c5:=C.no;have c6:=C.dg;have c7:=C.bd
 rcases hs with⟨hs,rfl,rfl⟩|⟨hs,rfl,rfl⟩
 ·obtain⟨t3',t4',H',W',hl⟩:=hl ab
  simp(maxSteps:=9^9) only[au,seval,-ac,-ae,E66,ar,c1,c2,c3,c4,c5,c6,c7,e0,e1,e2,e3,e4,e5,e6,e7,e8,e9,e10,hs,zk,zp,zq,hl,eR,qM,zR,e]
 ·obtain⟨t3',t4',H',W',hl⟩:=hl aa
  simp(maxSteps:=9^9) only[au,seval,-ac,-ae,E66,ar,c1,c2,c3,c4,c5,c6,c7,e0,e1,e2,e3,e4,e5,e6,e7,e8,e9,e10,hs,zk,zp,zq,hl,eR,qM,zR,e]
def aRK (C:GCf cf NG NC NP)(h:GCp NG NC NP p q c u w A B v K)(zk:(m1 K==af 0)=aa)
  (hl:∀sw,∃t3' t4' H' W',aG (am cf ak sp) ak ⟨gcT p q c A B v sw .nil .nil,[],[],[],[]⟩=Z (.exit 0,⟨gcT p q c R [] v sw t3' t4',H',[],W',[]⟩))
  (eR:a9 [pV R,sV (af v)]=Z [sV (m1 dR)])(zR:aTQ dR 1=aa)(ex:cJ [pV c,pV R]=Z [pV x])(e:bQ [pV x]=Z [pV r]):bM cf ak sQ.1 [pV p,pV q]=Z [pV r]:=by
 obtain⟨zp,zq,e0,⟨a,b,p1,q1,du,dw,e1,e2,e3,e4,e5,e6,e7,e8,e9,hs⟩,e10⟩:=h
 have c1:=C.tp;have c2:=C.ct;have c3:=C.gc;have c4:=C.pr;have c5:=C.no;have c6:=C.dg;have c7:=C.bd;have c8:=C.mu
 rcases hs with⟨hs,rfl,rfl⟩|⟨hs,rfl,rfl⟩
 ·obtain⟨t3',t4',H',W',hl⟩:=hl ab
  simp(maxSteps:=9^9) only[au,seval,-ac,-ae,E66,ar,c1,c2,c3,c4,c5,c6,c7,c8,e0,e1,e2,e3,e4,e5,e6,e7,e8,e9,e10,hs,zk,zp,zq,hl,eR,qM,zR,ex,e]
 ·obtain⟨t3',t4',H',W',hl⟩:=hl aa
  simp(maxSteps:=9^9) only[au,seval,-ac,-ae,E66,ar,c1,c2,c3,c4,c5,c6,c7,c8,e0,e1,e2,e3,e4,e5,e6,e7,e8,e9,e10,hs,zk,zp,zq,hl,eR,qM,zR,ex,e]
end
def yp (G:Gt)(v:Nat)(c A B:List Mn):Option (List Mn):=match nL A B v with
 |none=>U
 |some K=>match ai K 1 with
  |true=>fw c
  |false=>match sqF G v 1000 A B with
   |none=>U
   |some R=>match aTQ (dg v R) 1 with
    |true=>fw c
    |false=>match cE c R with
     |none=>U
     |some x=>fw x
def yo (G:Gt)(p q:List Mn):Nat→Option (List Mn)
 |0=>Z (cQ (Q.whole 1))
 |v+1=>match jE G p v,jE G q v with
  |some a,Z b=>(match G a b with
   |none=>U
   |some c=>match jI G p v,jI G q v with
    |some p1,Z q1=>(match fw p1,fw q1 with
     |some u,Z w=>(match aTQ (dg v w) (dg v u)with
      |true=>yp G v c u w
      |false=>yp G v c w u)
     |_,_=>U)
    |_,_=>U)
  |_,_=>U
def ae1 (G:Gt)(p q:List Mn):Option (List Mn):=match p,q with
 |[],q=>fw q
 |m::t,[]=>fw (m::t)
 |m::t,k::s=>yo G (m::t) (k::s) (kl (m::t) (k::s) 4)
def yq:Nat→Gt
 |0,_,_=>U
 |g+1,p,q=>ae1 (yq g) p q
def aEO {G:Gt}{v:Nat}{c A B r:List Mn}(h:yp G v c A B=Z r):PF r:=by
 unfold yp at h
 split at h
 ·cases h
 ·split at h
  ·exact gM h
  ·split at h
   ·cases h
   ·split at h
    ·exact gM h
    ·split at h
     ·cases h
     ·exact gM h
def aEN {G:Gt}{p q r:List Mn}{n:Nat}(h:yo G p q n=Z r):PF r:=by
 unfold yo at h
 split at h
 ·cases h;exact nP fB
 ·split at h
  ·split at h
   ·cases h
   ·split at h
    ·split at h
     ·split at h<;>exact aEO h
     ·cases h
    ·cases h
  ·cases h
def aEP (G:Gt):jK (ae1 G):=fun p q r _ _ h=>by
 unfold ae1 at h
 split at h
 ·exact gM h
 ·exact gM h
 ·exact aEN h
def amN:∀g,jK (yq g)
 |0=>fun _ _ _ _ _ h=>by cases h
 |g+1=>fun p q r hp hq h=>aEP (yq g) p q r hp hq h
def aon (p q:List Mn):∀n,kl p q n≤n
 |0=>aTS _
 |n+1=>by
  rw[kl]
  split
  ·exact aUd (aon p q n) (Nat.le_succ n)
  ·exact aTS _
def kG (k:Nat):(m1 k==af 0)=ai k 1:=by
 rw[aUp,beq_iff_eq,Nat.beq_eq,gD]
 show(k:Int)-1=0↔_
 omega
def adV (a b:Nat):decide (m1 a<m1 b)=!aTQ b a:=by
 rw[aUp,decide_eq_true_eq,Bool.not_eq_true',← Bool.not_eq_true,Nat.ble_eq,gD,gD]
 omega
def aNd (Ng:Nt)(Nc:Nt)(Np:Nt):Ft:=.n (.n (.n (.n .z 66 (.nat Ng) U .z) 76 (.nat cJ) U .z) 112 (.nat a9) U (.n (.n .z 141 (.nat bQ) U .z) 142 (.nat afl) U .z)) 143 (.nat cM) U (.n (.n (.n .z 144 (.nat Nc) U .z) 145 (.nat Np) U .z) 146 (.nat qT) U (.n .z 147 (.nat lI) U .z))
def aG8 {Ng:Nt}{Nc:Nt}{Np:Nt}(hg:∀{k:Cls},Cn k 66 Ng)(hc:∀{k:Cls},Cn k 144 Nc)(hp:∀{k:Cls},Cn k 145 Np){k:Cls}:(aNd Ng Nc Np).Ok Tryz.prog k aH:=⟨⟨⟨⟨tv,hg,tv,tv⟩,oA,tv,tv⟩,lh,tv,⟨⟨tv,al4,tv,tv⟩,aAG,tv,tv⟩⟩,aAE,tv,⟨⟨⟨tv,hc,tv,tv⟩,hp,tv,tv⟩,aq3,tv,⟨tv,al5,tv,tv⟩⟩⟩
def aG7 (Ng Nc Np:Nt):GCf (ao (aNd Ng Nc Np).tb 10 8) Ng Nc Np:=⟨fun _ _ _=>rfl,fun _ _ _=>rfl,fun _ _ _=>rfl,fun _ _ _=>rfl,fun _ _ _=>rfl,fun _ _ _=>rfl,fun _ _ _=>rfl,fun _ _ _=>rfl,fun _ _ _=>rfl,fun _ _ _=>rfl⟩
def ay2 {p q:List Mn}{v n:Nat}(hp:PF p)(hq:PF q)(hv:v<4)(h:nL p q v=Z n):qT [pV p,pV q,sV (af v)]=Z [sV (m1 n)]:=by
 unfold qT
 rw[zo hp hq hv]
 simp only[h]
def amM {G:Gt}{cf:av}(C:GCf cf (nG G) (pp G) (sH G)){p q c u w A B r:List Mn}{v:Nat}(hv:v<4)(hc:PF c)(hA:PF A)(hB:PF B)(h:yp G v c A B=Z r)
  (hh:∀K,qT [pV A,pV B,sV (af v)]=Z [sV (m1 K)]→GCp (nG G) (pp G) (sH G) p q c u w A B v K):bM cf ak sQ.1 [pV p,pV q]=Z [pV r]:=by
 unfold yp at h
 split at h
 ·cases h
 rename_i K hK
 have hp:=hh K (ay2 hA hB hv hK)
 split at h
 ·rename_i g
  exact aRI C hp (by rw[kG];exact g) (cZ hc h)
 ·rename_i g
  have zk:(m1 K==af 0)=aa:=by rw[kG];exact g
  split at h
  ·cases h
  rename_i R hR
  have hl:=fun sw=>aGK (t3:=.nil) (t4:=.nil) (t5:=aR) (t6:=pT p) (t7:=pT q) (t8:=pT c) (t9:=bj aa) (t10:=bj aa) (t11:=bj aa) (t12:=bj sw) (t13:=bj aa) (t14:=.nil) (H:=[]) (W:=[]) hv hA hB (show(1000:Nat)<10000000 by decide) hR C.ps C.pr C.no
  have hRp:=(hl ab).1
  split at h
  ·rename_i g2
   exact aRJ C hp zk (fun sw=>(hl sw).2) (cv hRp hv) g2 (cZ hc h)
  ·rename_i g2
   split at h
   ·cases h
   rename_i x hx
   exact aRK C hp zk (fun sw=>(hl sw).2) (cv hRp hv) g2 (gK hc hRp hx) (cZ (dX hx) h)
def aEM {G:Gt}(hG:jK G){cf:av}(C:GCf cf (nG G) (pp G) (sH G)){p q r:List Mn}(hp:PF p)(hq:PF q)(zp:(p.length==0)=aa)(zq:(q.length==0)=aa)(h:yo G p q (kl p q 4)=Z r):bM cf ak sQ.1 [pV p,pV q]=Z [pV r]:=by
 have e0:=aKR hp hq
 have hle:=aon p q 4
 generalize kl p q 4=n at*
 unfold yo at h
 split at h
 ·cases h
  exact aRH C zp zq e0 rfl
 rename_i v
 have hv:v<4:=by omega
 split at h
 rotate_left
 ·cases h
 rename_i a b ha hb
 split at h
 ·cases h
 rename_i c hc
 split at h
 rotate_left
 ·cases h
 rename_i p1 q1 h1 h2
 split at h
 rotate_left
 ·cases h
 rename_i u w hu hw
 have pa:=abR hG hp ha
 have pb:=abR hG hq hb
 have pc:=hG _ _ _ pa pb hc
 have pu:=gM hu
 have pw:=gM hw
 split at h
 ·rename_i hs
  exact amM C hv pc pu pw h fun K hK=>⟨zp,zq,e0,⟨a,b,p1,q1,dg v u,dg v w,uW hp hv ha,uW hq hv hb,tj pa pb hc,uZ hp hv h1,cZ (rC h1) hu,uZ hq hv h2,cZ (rC h2) hw,cv pu hv,cv pw hv,.inr ⟨by rw[adV,hs];rfl,rfl,rfl⟩⟩,hK⟩
 ·rename_i hs
  exact amM C hv pc pw pu h fun K hK=>⟨zp,zq,e0,⟨a,b,p1,q1,dg v u,dg v w,uW hp hv ha,uW hq hv hb,tj pa pb hc,uZ hp hv h1,cZ (rC h1) hu,uZ hq hv h2,cZ (rC h2) hw,cv pu hv,cv pw hv,.inl ⟨by rw[adV,hs];rfl,rfl,rfl⟩⟩,hK⟩
def ax8 {G:Gt}(hG:jK G)(hg:∀{k:Cls},Cn k 66 (nG G)){k:Cls}:Cn k 66 (nG (ae1 G)):=
 dG (ay (aG8 hg (ag8 hG hg) (av8 hG hg)) sQ.2 10 ak 8) fun p q rs hp hq h=>by
  split at h
  rotate_left
  ·cases h
  rename_i r e
  cases h
  have C:=aG7 (nG G) (pp G) (sH G)
  unfold ae1 at e
  split at e
  ·exact aRF C (cZ hq e)
  ·exact aRG C rfl (cZ hp e)
  ·exact aEM hG C hp hq rfl rfl e
def aje:∀(g:Nat) {k:Cls},Cn k 66 (nG (yq g))
 |0,k=>dG (ay (t:=.z) trivial sQ.2 10 ak 8) fun p q rs _ _ h=>by cases h
 |g+1,k=>ax8 (amN g) (aje g)
def aaV:Nt:=nG (yq 40)
def ahe {k:Cls}:Cn k 66 aaV:=aje 40
def akB:=mq aa 113 2 Tryz.func113
def aQd:=ev (fl akB.1) akB.1
def q75:=mq aa 75 2 Tryz.func75
def E75:=ev (fl q75.1) q75.1
def q22:=mq aa 22 2 Tryz.func22
def E22:=ev (fl q22.1) q22.1
def q30:=mq aa 30 2 Tryz.func30
def E30:=ev (fl q30.1) q30.1
def q20:=mq aa 20 2 Tryz.func20
def E20:=ev (fl q20.1) q20.1
def q27:=mq aa 27 1 Tryz.func27
def E27:=ev (fl q27.1) q27.1
def aqu:=mq aa 156 2 Tryz.func156
def aQv:=ev (fl aqu.1) aqu.1
def q85:=mq aa 85 2 Tryz.func85
def E85:=ev (fl q85.1) q85.1
def q29:=mq aa 29 2 Tryz.func29
def E29:=ev (fl q29.1) q29.1
def q35:=mq aa 35 1 Tryz.func35
def E35:=ev (fl q35.1) q35.1
def q28:=mq aa 28 1 Tryz.func28
def E28:=ev (fl q28.1) q28.1
def q87:=mq aa 87 1 Tryz.func87
def q37:=mq aa 37 1 Tryz.func37
def q83:=mq aa 83 0 Tryz.func83
def E83:=ev (fl q83.1) q83.1
def q61:=mq aa 61 1 Tryz.func61
def aTz:=pk (lp q61.1 0 []=·)
def q26:=mq aa 26 1 Tryz.func26
def q79:=mq aa 79 1 Tryz.func79
def q77:=mq aa 77 2 Tryz.func77
def E77:=ev (fl q77.1) q77.1
def q80:=mq aa 80 3 Tryz.func80
def aqw:=mq aa 158 3 Tryz.func158
def aTc:=pk (lp aqw.1 0 []=·)
def q93:=mq aa 93 2 Tryz.func93
def E93:=ev (fl q93.1) q93.1
def q59:=mq aa 59 2 Tryz.func59
def E59:=ev (fl q59.1) q59.1
def q44:=mq aa 44 1 Tryz.func44
def E44:=ev (fl q44.1) q44.1
def q73:=mq aa 73 1 Tryz.func73
def E73:=ev (fl q73.1) q73.1
def q57:=mq aa 57 1 Tryz.func57
def aTy:=pk (lp q57.1 0 []=·)
def azN:=mq aa 202 3 Tryz.func202
def azs:=mq aa 110 1 Tryz.func110
def aqr:=mq aa 150 0 Tryz.func150
def aQs:=ev (fl aqr.1) aqr.1
def q69:=mq aa 69 1 Tryz.func69
def q54:=mq aa 54 2 Tryz.func54
def E54:=ev (fl q54.1) q54.1
def q74:=mq aa 74 2 Tryz.func74
def E74:=ev (fl q74.1) q74.1
def nf:=mq ab 124 3 Tryz.func124
def aHD:=ev (fl nf.1) nf.1
def q58:=mq aa 58 2 Tryz.func58
def E58:=ev (fl q58.1) q58.1
def aqh:=mq aa 109 2 Tryz.func109
def aQa:=ev (fl aqh.1) aqh.1
def azx:=mq aa 133 1 Tryz.func133
def azw:=mq aa 132 3 Tryz.func132
def aqd:=mq aa 101 1 Tryz.func101
def aP5:=ev (fl aqd.1) aqd.1
end
end Go.Proofs.YtfiijelajgifiaaGreat
