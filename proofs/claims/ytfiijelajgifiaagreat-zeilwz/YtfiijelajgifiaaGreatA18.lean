/-
  Part 18 of the machine and of the contracts of functions of the program (packed).
-/
import Derived.Test.YtfiijelajgifiaaGreatA17
set_option linter.all false
set_option linter.defProp false
open Bool renaming false→aa,true→ab,and_eq_true→aTT,eq_iff_iff→aUp
open Int renaming reduceOfNat→ac,reduceNegSucc→ae,ofNat→af,negSucc→aT2,ofNat_eq_natCast→aT7
open List renaming getElem?_eq_some_iff→aTU,length_cons→aTV,length_append→aTW,mem_cons_self→aT0,mem_cons_of_mem→aT8,length_nil→aUf,drop_length→aUg,take_of_length_le→aUi,getElem?_set_ne→aUn,append_assoc→aUr,getElem?_append_left→aUs
open Nat renaming blt→ah,beq→ai,ble→aTQ,blt_eq→aTR,le_refl→aTS,eq_of_beq_eq_true→aT1,lt_or_ge→aT6,mod_eq_of_lt→aT9,mod_lt→aUb,eq_zero_or_pos→aUc,zero_add→aUe,mul_assoc→aUk
open Option renaming some→Z,none→U
namespace Go.Proofs.YtfiijelajgifiaaGreat
noncomputable section
open Go Go.Mach Go.Flow
set_option maxRecDepth 100000
set_option maxHeartbeats 4000000
abbrev lD (l:List (List Mn)):List D:=l.map fun p=>.c (pC p)
abbrev lC (l:List (List Mn)):C:=.sl l.length (l.map pC)
abbrev lV (l:List (List Mn)):V1:=.one (lC l)
abbrev lT (l:List (List Mn)):T:=.t (.one (.c (lC l)))
def GotL (n:Nat)(H:Hp)(y:T)(r:List (List Mn)):Prop:=
 n≤H.length∧(((y=.t (.one .z0)∨y=.t (.one (.c (.v (.slice U 0 0)))))∧r=[])∨∃b,n≤b∧y=.t (.one (.lsl b 0 r.length 1))∧H[b]?=Z (Z (.cells (lD r))))
def GotL.snoc {n:Nat}{H:Hp}{y:T}{r:List (List Mn)}(h:GotL n H y r)(x:Option Blk):GotL n (H++[x]) y r:=by
 obtain⟨hn,h⟩:=h
 refine⟨by rw[aTW];omega,?_⟩
 rcases h with h|⟨b,hb0,hy,hb⟩
 ·exact .inl h
 ·exact .inr ⟨b,hb0,hy,by rw[aUs (aTU.1 hb).1];exact hb⟩
def alT (H:Hp)(r:List (List Mn)):T:=.t (.one (.lsl H.length 0 (r.length+1) 1))
def alH (H:Hp)(y:T)(r:List (List Mn))(p:List Mn):Hp:=kM y H++[Z (.cells (lD (r++[p])))]
def GotL.next {n:Nat}{H:Hp}{y:T}{r:List (List Mn)}(h:GotL n H y r)(p:List Mn):GotL n (alH H y r p) (alT H r) (r++[p]):=by
 have hk:=dV y H
 refine⟨by unfold alH;rw[aTW,hk];have:=h.1;omega,.inr ⟨H.length,h.1,by unfold alT;rw[aTW];rfl,?_⟩⟩
 unfold alH
 rw[← hk,List.getElem?_append_right (aTS _),Nat.sub_self]
 rfl
def GotL.keep {n:Nat}{H:Hp}{y:T}{r:List (List Mn)}(h:GotL n H y r)(p:List Mn){i:Nat}(hi:i<n):(alH H y r p)[i]?=H[i]?:=by
 have hk:=dV y H
 have h1:=h.1
 unfold alH
 rw[aUs (by omega)]
 rcases h.2 with⟨rfl|rfl,_⟩|⟨b,hb,rfl,_⟩
 ·rfl
 ·rfl
 ·exact aUn (by omega)
def axh {n:Nat}{y:T}{r:List (List Mn)}(hr:r.length<100000000)(p:List Mn)(x:T)(H:Hp)(hx:ch H 1 x=Z (1,[.c (pC p)]))(h:GotL n H y r):bJ 1 24 H [] y x=Z (alT H r,alH H y r p):=by
 have e3:r.length+1≤2 ^ 30:=by omega
 have e4:(r.length+1)*24≤2 ^ 46:=by omega
 unfold bJ
 rw[hx]
 rcases h.2 with⟨rfl|rfl,rfl⟩|⟨b,_,rfl,hb⟩
 ·rfl
 ·rfl
 ·have h2:r.length*1≤(lD r).length:=by rw[List.length_map];omega
  have h3:(lD r).take (r.length*1)=lD r:=aUi (by rw[List.length_map];omega)
  simp only[hb,h2,e3,e4,h3,List.not_mem_nil,not_false_eq_true,and_self,and_true,true_and,↓reduceIte,Nat.one_ne_zero]
  simp only[alT,alH,kM,lD,List.map_append]
  simp
def aCg (H:Hp)(k:Nat):∀l:List (List Mn),kg (fz H k) (lD l)=Z (l.map pC,[])
 |[]=>rfl
 |p::l=>by
  have h1:=aCg H k l
  simp only[lD,List.map_cons]at h1 ⊢
  cases k<;>simp only[kg,fz,h1,asW,List.nil_append]
def GotL.res {n:Nat}{H:Hp}{y:T}{r:List (List Mn)}(h:GotL n H y r):li H y=Z ([lV r],adp y):=by
 rcases h.2 with⟨rfl|rfl,rfl⟩|⟨b,_,rfl,hb⟩
 ·rfl
 ·rfl
 ·have h1:r.length*1≤(lD r).length:=by rw[List.length_map];omega
  have h2:((lD r).drop 0).take (r.length*1)=lD r:=by rw[List.drop_zero];exact aUi (by rw[List.length_map];omega)
  simp only[li,oS,nu,fz,hb,aUe,h1,h2,aCg,↓reduceIte,adp]
def kj (v:Nat)(p:List Mn):Nat→Nat→List (List Mn)
 |0,_=>[]
 |k+1,n=>fD v n p::kj v p k (n+1)
def aS (v:Nat)(p:List Mn):List (List Mn):=kj v p (dg v p) 0
def mQ (v:Nat)(p:List Mn):∀k n,(kj v p k n).length=k
 |0,_=>rfl
 |k+1,n=>by rw[kj,aTV,mQ v p k]
def aCT (n k:Nat):(af n≤m1 k)=(n<k):=by
 rw[gD]
 simp only[aT7,eq_iff_iff]
 omega
def tCs  : Ft:=.n (.n .z 112 (.nat a9) U .z) 188 (.nat iD) U .z
def awF   {k:Cls}:tCs.Ok Tryz.prog k aH:=⟨⟨tv,lh,tv,tv⟩,aef,tv,tv⟩
def aEp {p r:List Mn}{l:List (List Mn)}{v n k:Nat}(hn:(n<k)=True)(hk:n<1073741824)(hl:l.length<100000000)(e1:a9 [pV p,sV (af v)]=Z [sV (m1 k)])(e2:iD [pV p,sV (af v),sV (af n)]=Z [pV r]){y t4 t5:T}{H:Hp}{W:List Nat}{cf:av}(hG:GotL 0 H y l)
  (c1:CA cf 112 a9)(c2:CA cf 188 iD)(fl:Nat):
  ∃y' t4' H' W',am cf fl yA ⟨[iT n,y,pT p,iT v,t4,t5],H,[],W,[]⟩=Z (.normal,⟨[iT (n+1),y',pT p,iT v,t4',t5],H',[],W',[]⟩)∧GotL 0 H' y' (l++[r]):=by
 have f1:n+1<9223372036854775808:=by omega
 have hA:=fun(H':Hp) (x':T) (hx:ch H' 1 x'=Z (1,[.c (pC r)])) (h:GotL 0 H' y l)=>axh hl r x' H' hx h
 simp(maxSteps:=9^9) only[au,seval,-ac,-ae,ash,ar,c1,c2,e1,e2,aCT,hn,f1,hG,hA]
 exact⟨_,_,_,_,rfl,hG.next _⟩
def aI1 {p:List Mn}{v n k:Nat}(hn:(n<k)=False)(e1:a9 [pV p,sV (af v)]=Z [sV (m1 k)]){y t4 t5:T}{H:Hp}{W:List Nat}{cf:av}(c1:CA cf 112 a9)(fl:Nat):
  ∃t4' W',am cf fl yA ⟨[iT n,y,pT p,iT v,t4,t5],H,[],W,[]⟩=Z (.exit 0,⟨[iT n,y,pT p,iT v,t4',t5],H,[],W',[]⟩):=by
 simp(maxSteps:=9^9) only[au,seval,-ac,-ae,ash,ar,c1,e1,aCT,hn]
 exact⟨_,_,rfl⟩
def ao0 {p:List Mn}{v:Nat}(h:PF p)(hv:v<4)(hk:dg v p<10000000):bM (ao tCs.tb 10 8) ak afM.1 [pV p,sV (af v)]=Z [lV (aS v p)]:=by
 have c1:CA (ao tCs.tb 10 8) 112 a9:=fun _ _ _=>rfl
 have c2:CA (ao tCs.tb 10 8) 188 iD:=fun _ _ _=>rfl
 generalize ao tCs.tb 10 8=cf at*
 have e1:=cv h hv
 obtain⟨st',hl,y,t4,H,W,rfl,hG⟩:=bq (body:=am cf ak yA) (id:=0) (dg v p)
  (fun i st=>∃y t4 H W r,st=⟨[iT i,y,pT p,iT v,t4,.t (.one (.c (.v (.slice U 0 0))))],H,[],W,[]⟩∧GotL 0 H y r∧r.length≤i∧r++kj v p (dg v p-i) i=aS v p)
  (fun st=>∃y t4 H W,st=⟨[iT (dg v p),y,pT p,iT v,t4,.t (.one (.c (.v (.slice U 0 0))))],H,[],W,[]⟩∧GotL 0 H y (aS v p))
  (fun i st hi=>by
   rintro⟨y,t4,H,W,r,rfl,hG,hrl,hr⟩
   rw[show dg v p-i=(dg v p-(i+1))+1 by omega,kj]at hr
   obtain⟨y',t4',H',W',e,hG'⟩:=aEp (t4:=t4) (t5:=.t (.one (.c (.v (.slice U 0 0))))) (W:=W) (eq_true hi) (by omega) (by omega) e1 (acf (n:=i) h hv) hG c1 c2 ak
   exact⟨_,e,_,_,_,_,_,rfl,hG',by rw[aTW,List.length_singleton];omega,by rw[aUr];exact hr⟩)
  (fun st=>by
   rintro⟨y,t4,H,W,r,rfl,hG,hrl,hr⟩
   obtain⟨t4',W',e⟩:=aI1 (p:=p) (v:=v) (n:=dg v p) (y:=y) (t4:=t4) (t5:=.t (.one (.c (.v (.slice U 0 0))))) (H:=H) (W:=W) (eq_false (by omega)) e1 c1 ak
   rw[Nat.sub_self,kj,List.append_nil]at hr
   exact⟨_,e,_,_,_,_,rfl,by rw[← hr];exact hG⟩)
  ak _ ⟨.t (.one .z0),.nil,[],[],[],rfl,⟨aTS _,.inl ⟨.inl rfl,rfl⟩⟩,aTS _,rfl⟩ (aN hk)
 have hR:=hG.res
 simp(maxSteps:=9^9) only[au,seval,-ac,-ae,aQL,hl]
 exact uo hR
def k8:=sO fun p v=>match ah (dg v p) 10000000 with|true=>Z [lV (aS v p)]|false=>U
def apZ {p:List Mn}{v:Nat}(h:PF p)(hv:v<4)(hk:dg v p<10000000):k8 [pV p,sV (af v)]=Z [lV (aS v p)]:=by
 have hb:ah (dg v p) 10000000=ab:=by rw[aTR];exact hk
 unfold k8
 rw[wG h hv]
 simp only[hb]
def abD {k:Cls}:Cn k 208 k8:=lU (ay awF afM.2 10 ak 8) fun p v rs h hv e=>by
 split at e
 ·rename_i hb
  cases e
  rw[aTR]at hb
  exact ao0 h hv hb
 ·cases e
def auB {p r:List Mn}{v n:Nat}(e1:a9 [pV p,sV (af v)]=Z [sV (af n)])(e2:iD [pV p,sV (af v),sV (af n)]=Z [pV r]):bM (ao tCs.tb 10 8) 10 aqI.1 [pV p,sV (af v)]=Z [pV r]:=by
 simp(maxSteps:=9^9) only[au,seval,-ac,-ae,aQN,tCs,ar,e1,e2]
def ad0:=sO fun p v=>match dg v p with|0=>U|n+1=>Z [pV (fD v n p)]
def av5 {k:Cls}:Cn k 211 ad0:=lU (ay awF aqI.2 10 10 8) fun p v rs h hv e=>by
 split at e
 ·cases e
 ·rename_i n hn
  cases e
  exact auB (by rw[cv h hv,hn];rfl) (acf h hv)
def tY (a b c d a' b' c' d':Nat):Bool:=match ai a a' with|false=>aa|true=>match ai b b' with|false=>aa|true=>match ai c c' with|false=>aa|true=>ai d d'
def aaK (a b c d:Int):kB [.int .i64 a,.int .i64 b,.int .i64 c,.int .i64 d]=Z [a,b,c,d]:=rfl
def vr (a b c d:Nat):vu [.c (eC a),.c (eC b),.c (eC c),.c (eC d)]=Z [.int .i64 (af a),.int .i64 (af b),.int .i64 (af c),.int .i64 (af d)]:=rfl
def avu (a b:Nat):(af a==af b)=ai a b:=by rw[akp,vg]
def abM (a b c d a' b' c' d':Nat):([af a,af b,af c,af d]==[af a',af b',af c',af d'])=tY a b c d a' b' c' d':=by
 simp only[List.cons_beq_cons,avu,tY]
 cases ai a a'<;>cases ai b b'<;>cases ai c c'<;>cases ai d d'<;>rfl
def bp (m k:Mn):Bool:=tY m.a m.b m.c m.d k.a k.b k.c k.d
def aa2 (a b:Q):Bool:=match co a.n b.n with|true=>ai a.d b.d|false=>aa
def aA9 (a b:Q):(a.n==b.n&&af a.d==af b.d)=aa2 a b:=by
 unfold aa2
 rw[avu]
 have:(a.n==b.n)=co a.n b.n:=by
  rw[aUp,beq_iff_eq]
  constructor
  ·intro h
   rw[h]
   cases b.n with
   |ofNat n=>exact Nat.beq_refl n
   |negSucc n=>exact Nat.beq_refl n
  ·exact gp
 rw[this]
 cases co a.n b.n<;>rfl
def qp:List Mn→List Mn→Bool
 |[],[]=>ab
 |m::p,k::q=>(match bp m k with|false=>aa|true=>match aa2 m.q k.q with|false=>aa|true=>qp p q)
 |_,_=>aa
def tEq  : Ft:=.n .z 64 (.nat kN) U .z
def aM1   {k:Cls}:tEq.Ok Tryz.prog k aH:=⟨tv,ahh,tv,tv⟩
def aFG {a b:Q}(ha:a.Ok)(hb:b.Ok):kN [eQ a,eQ b]=Z [bV (aa2 a b)]:=by rw[aFF ha hb,aA9]
section
variable {p q t t':List Mn} {m k:Mn} {i:Nat} {t3 t4 t5 t6:T} {H:Hp} {W:List Nat} {cf:av}
def aOo (hi:p.drop i=m::t)(hj:q.drop i=k::t')(hl:p.length<10000000)(h:bp m k=aa)(fl:Nat):
  ∃t3' t4' H' W',am cf fl wd ⟨[iT i,pT p,pT q,t3,t4,t5,t6],H,[],W,[]⟩=Z (.ret,⟨[iT i,pT p,pT q,t3',t4',.t (.one (.c (.v (.bool aa)))),t6],H',[],W',[]⟩):=by
 have hd:=bW hi
 have h1:=aM hi
 have hd':=bW hj
 have h1':=aM hj
 unfold bp at h
 simp(maxSteps:=9^9) only[au,seval,-ac,-ae,aht,ar,h1,hd,h1',hd',vr,aaK,abM,List.toList_toArray,h]
 exact⟨_,_,_,_,rfl⟩
def aOp (hi:p.drop i=m::t)(hj:q.drop i=k::t')(hl:p.length<10000000)(h:bp m k=ab)(e1:kN [eQ m.q,eQ k.q]=Z [bV aa])(c1:CA cf 64 kN)(fl:Nat):
  ∃t3' t4' H' W',am cf fl wd ⟨[iT i,pT p,pT q,t3,t4,t5,t6],H,[],W,[]⟩=Z (.ret,⟨[iT i,pT p,pT q,t3',t4',.t (.one (.c (.v (.bool aa)))),t6],H',[],W',[]⟩):=by
 have hd:=bW hi
 have h1:=aM hi
 have hd':=bW hj
 have h1':=aM hj
 unfold bp at h
 simp(maxSteps:=9^9) only[au,seval,-ac,-ae,aht,ar,h1,hd,h1',hd',vr,aaK,abM,List.toList_toArray,h,c1,e1]
 exact⟨_,_,_,_,rfl⟩
def aOn (hi:p.drop i=m::t)(hj:q.drop i=k::t')(hl:p.length<10000000)(h:bp m k=ab)(e1:kN [eQ m.q,eQ k.q]=Z [bV ab])(c1:CA cf 64 kN)(fl:Nat):
  ∃t3' t4' H' W',am cf fl wd ⟨[iT i,pT p,pT q,t3,t4,t5,t6],H,[],W,[]⟩=Z (.normal,⟨[iT (i+1),pT p,pT q,t3',t4',t5,t6],H',[],W',[]⟩):=by
 have hd:=bW hi
 have h1:=aM hi
 have hd':=bW hj
 have h1':=aM hj
 have f1:i+1<9223372036854775808:=by omega
 unfold bp at h
 simp(maxSteps:=9^9) only[au,seval,-ac,-ae,aht,ar,h1,hd,h1',hd',vr,aaK,abM,List.toList_toArray,h,c1,e1,f1]
 exact⟨_,_,_,_,rfl⟩
def aJh (hl:p.length<10000000)(fl:Nat):
  ∃t3',am cf fl wd ⟨[iT p.length,pT p,pT q,t3,t4,t5,t6],H,[],W,[]⟩=Z (.exit 0,⟨[iT p.length,pT p,pT q,t3',t4,t5,t6],H,[],W,[]⟩):=by
 simp(maxSteps:=9^9) only[au,seval,-ac,-ae,aht]
 exact⟨_,rfl⟩
end
def IEq (p q:List Mn)(t6:T)(i:Nat)(st:St):Prop:=∃t3 t4 H W,st=⟨[iT i,pT p,pT q,t3,t4,.t (.one (.c (.v (.bool aa)))),t6],H,[],W,[]⟩∧i≤p.length∧qp (p.drop i) (q.drop i)=qp p q
def ato {p q:List Mn}(hp:PF p)(hq:PF q):bM (ao tEq.tb 10 8) ak q82.1 [pV p,pV q]=Z [bV (qp p q)]:=by
 have c1:CA (ao tEq.tb 10 8) 64 kN:=fun _ _ _=>rfl
 generalize ao tEq.tb 10 8=cf at*
 by_cases hlen:p.length=q.length
 ·obtain⟨x,st',hl,hx,hQ⟩:=bg (body:=am cf ak wd) (IEq p q (.t (.one (.c (.v (.bool aa)))))) (fun i=>p.length-i) (fun x st'=>(x=.exit 0∧qp p q=ab∧∃t3 t4 H W,st'=⟨[iT p.length,pT p,pT q,t3,t4,.t (.one (.c (.v (.bool aa)))),.t (.one (.c (.v (.bool aa))))],H,[],W,[]⟩)∨(x=.ret∧qp p q=aa∧∃i t3 t4 H W,st'=⟨[iT i,pT p,pT q,t3,t4,.t (.one (.c (.v (.bool aa)))),.t (.one (.c (.v (.bool aa))))],H,[],W,[]⟩))
   (fun i st h=>by
    obtain⟨t3,t4,H,W,rfl,hi,he⟩:=h
    rcases aT6 i p.length with h1|h1
    ·obtain⟨m,t,hm⟩:=bo h1
     obtain⟨k,t',hk⟩:=bo (p:=q) (i:=i) (by omega)
     rw[hm,hk,qp]at he
     cases g1:bp m k with
     |false=>
      rw[g1]at he
      obtain⟨t3',t4',H',W',e⟩:=aOo (t3:=t3) (t4:=t4) (t5:=.t (.one (.c (.v (.bool aa))))) (t6:=.t (.one (.c (.v (.bool aa))))) (H:=H) (W:=W) (cf:=cf) hm hk hp.len g1 ak
      exact .inr ⟨_,_,e,by simp,.inr ⟨rfl,he.symm,_,_,_,_,_,rfl⟩⟩
     |true=>
      rw[g1]at he
      have e1:=aFG (hp.ok m (aX hm)).q (hq.ok k (aX hk)).q
      cases g2:aa2 m.q k.q with
      |false=>
       rw[g2]at he e1
       obtain⟨t3',t4',H',W',e⟩:=aOp (t3:=t3) (t4:=t4) (t5:=.t (.one (.c (.v (.bool aa))))) (t6:=.t (.one (.c (.v (.bool aa))))) (H:=H) (W:=W) (cf:=cf) hm hk hp.len g1 e1 c1 ak
       exact .inr ⟨_,_,e,by simp,.inr ⟨rfl,he.symm,_,_,_,_,_,rfl⟩⟩
      |true=>
       rw[g2]at he e1
       obtain⟨t3',t4',H',W',e⟩:=aOn (t3:=t3) (t4:=t4) (t5:=.t (.one (.c (.v (.bool aa))))) (t6:=.t (.one (.c (.v (.bool aa))))) (H:=H) (W:=W) (cf:=cf) hm hk hp.len g1 e1 c1 ak
       exact .inl ⟨i+1,_,e,⟨_,_,_,_,rfl,h1,by rw[bf hm,bf hk];exact he⟩,by show p.length-(i+1)<p.length-i;omega⟩
    ·obtain rfl:i=p.length:=by omega
     obtain⟨t3',e⟩:=aJh (p:=p) (q:=q) (t3:=t3) (t4:=t4) (t5:=.t (.one (.c (.v (.bool aa))))) (t6:=.t (.one (.c (.v (.bool aa))))) (H:=H) (W:=W) (cf:=cf) hp.len ak
     rw[aUg,hlen,aUg,qp]at he
     exact .inr ⟨_,_,e,by simp,.inl ⟨rfl,he.symm,_,_,_,_,rfl⟩⟩) ak 0 _ ⟨.nil,.nil,[],[],rfl,Nat.zero_le _,rfl⟩ (by have:=aN hp.len;omega)
  have hb:(p.length != q.length)=aa:=by simp[hlen]
  rcases hQ with⟨rfl,he,t3,t4,H,W,rfl⟩|⟨rfl,he,i,t3,t4,H,W,rfl⟩
  ·rw[he]
   simp(maxSteps:=9^9) only[au,seval,-ac,-ae,E82,hl,hb]
  ·rw[he]
   simp(maxSteps:=9^9) only[au,seval,-ac,-ae,E82,hl,hb]
 ·have hb:(p.length != q.length)=ab:=by simpa using hlen
  have he:∀(p q:List Mn),p.length≠q.length→qp p q=aa:=by
   intro p
   induction p with
   |nil=>intro q h;cases q with|nil=>exact absurd rfl h|cons _ _=>rfl
   |cons m p ih=>
    intro q h
    cases q with
    |nil=>rfl
    |cons k q=>
     unfold qp
     rw[ih q (by simpa using h)]
     cases bp m k<;>cases aa2 m.q k.q<;>rfl
  rw[he p q hlen]
  simp(maxSteps:=9^9) only[au,seval,-ac,-ae,E82,hb]
def kH:=kI fun p q=>Z [bV (qp p q)]
def aj5 {p q:List Mn}(hp:PF p)(hq:PF q):kH [pV p,pV q]=Z [bV (qp p q)]:=i7 hp hq
def aeg {k:Cls}:Cn k 82 kH:=dG (ay aM1 q82.2 10 ak 8) fun p q rs hp hq h=>by
 cases h;exact ato hp hq
def xr (k m:Mn):Bool:=match aTQ k.a m.a with|false=>aa|true=>match aTQ k.b m.b with|false=>aa|true=>match aTQ k.c m.c with|false=>aa|true=>aTQ k.d m.d
def Mn.sub (m k:Mn)(x:Q):Mn:=⟨m.a-k.a,m.b-k.b,m.c-k.c,m.d-k.d,x⟩
def yi (b:List Mn)(k:Mn):Nat→List Mn→Option (Option (List Mn))
 |0,_=>U
 |f+1,p=>match p with
  |[]=>Z (Z [])
  |m::t=>match xr k m with
   |false=>Z U
   |true=>match gS (m.sub k (m.q.div k.q))with
    |false=>U
    |true=>match dN (cw b (m.sub k (m.q.div k.q)))with
     |false=>U
     |true=>match dN (fX (m::t) (cw b (m.sub k (m.q.div k.q))))with
      |false=>U
      |true=>(match yi b k f (fX (m::t) (cw b (m.sub k (m.q.div k.q))))with
       |some (Z l)=>Z (Z (m.sub k (m.q.div k.q)::l))
       |some U=>Z U
       |none=>U)
def amj {n:Nat}{H:Hp}{y:T}{r:List Mn}(h:GotP n H y r)(z:Option Blk)(m:Mn):(lw (H++[z]) y r m)[H.length]?=Z z:=by
 have hk:=dV y (H++[z])
 rw[aTW,List.length_singleton]at hk
 unfold lw
 rw[aUs (by omega)]
 rcases h.2 with⟨rfl|rfl,_⟩|⟨b,ds,_,rfl,hb,_⟩
 ·exact bk H z
 ·exact bk H z
 ·have hb:=(aTU.1 hb).1
  show((H++[z]).set b U)[H.length]?=_
  rw[aUn (by omega)]
  exact bk H z
section
variable {b p t bt r s u:List Mn} {m k:Mn} {x:Q} {y t0 t1 t3 t6 t7 t8 t9 t10 t11:T} {H:Hp} {W:List Nat} {cf:av} {z1 z2 z3 z4:Int}
def aI9 (w1:IntKind.i64.wrap (af m.a-af k.a)=z1)(w2:IntKind.i64.wrap (af m.b-af k.b)=z2)(w3:IntKind.i64.wrap (af m.c-af k.c)=z3)(w4:IntKind.i64.wrap (af m.d-af k.d)=z4)
  (e1:aY [zE z1 z2 z3 z4]=Z [bV aa])(c1:CA cf 135 aY):
  ∃t0' t1' t2' t3' t6' t7' H' W',am cf ak qK ⟨[t0,t1,pT (m::t),t3,pT (k::bt),y,t6,t7,t8,t9,t10,t11],H,[],W,[]⟩=Z (.ret,⟨[t0',t1',t2',t3',pT (k::bt),y,t6',t7',.t (.one .z0),.t (.one (.c (.v (.bool aa)))),t10,t11],H',[],W',[]⟩):=by
 obtain⟨g,hg⟩:∃g,ak=g+6:=⟨ak-6,by have:=aN (n:=10) (by omega);omega⟩
 rw[hg]
 simp(maxSteps:=9^9) only[au,seval,-ac,-ae,aG,aic,asf,ar,dH,Nat.succ_pos,Nat.zero_lt_succ,w1,w2,w3,w4,c1,e1,bk,bx]
 exact⟨_,_,_,_,_,_,_,_,rfl⟩
def aOj (hr:r.length<100000000)(hG:GotP 0 H y r)(w1:IntKind.i64.wrap (af m.a-af k.a)=af (m.a-k.a))(w2:IntKind.i64.wrap (af m.b-af k.b)=af (m.b-k.b))(w3:IntKind.i64.wrap (af m.c-af k.c)=af (m.c-k.c))(w4:IntKind.i64.wrap (af m.d-af k.d)=af (m.d-k.d))
  (e1:aY [eV (m.a-k.a) (m.b-k.b) (m.c-k.c) (m.d-k.d)]=Z [bV ab])(e2:fW [eQ m.q,eQ k.q]=Z [eQ x,sV (af 0)])(e3:gy [pV (k::bt),.agg (mC (m.sub k x))]=Z [pV s])(e4:cS [pV (m::t),pV s]=Z [pV u])
  (c1:CA cf 135 aY)(c2:CA cf 241 fW)(c3:CA cf 155 gy)(c4:CA cf 119 cS):
  ∃t0' t1' y' t3' t6' t7' H' W',am cf ak qK ⟨[t0,t1,pT (m::t),t3,pT (k::bt),y,t6,t7,t8,t9,t10,t11],H,[],W,[]⟩=Z (.normal,⟨[t0',t1',pT u,t3',pT (k::bt),y',t6',t7',t8,t9,t10,t11],H',[],W',[]⟩)∧GotP 0 H' y' (r++[m.sub k x]):=by
 have gG:∀(H':Hp),GotP 0 H' y r→∀x,GotP 0 (H'++[x]) y r:=fun H' h x=>h.snoc x
 have hA:=fun(H':Hp) (x':T) (hx:ch H' 8 x'=Z (1,mD (m.sub k x))) (h:GotP 0 H' y r)=>dS hr (m.sub k x) x' H' hx h
 simp only[Mn.sub]at hA
 simp only[Mn.sub,pV,pC,mC,dH,aTV]at e3 e4
 obtain⟨g,hg⟩:∃g,ak=g+6:=⟨ak-6,by have:=aN (n:=10) (by omega);omega⟩
 rw[hg]
 simp(maxSteps:=9^9) only[au,seval,-ac,-ae,aG,aic,asf,ar,dH,Nat.succ_pos,Nat.zero_lt_succ,w1,w2,w3,w4,c1,c2,c3,c4,e1,e2,e3,e4,hG,gG,hA,amj hG,bk,bx]
 exact⟨_,_,_,_,_,_,_,_,rfl,(hG.snoc _).next _⟩
end
def aJa {b:List Mn}{y t0 t1 t3 t6 t7 t8 t9 t10 t11:T}{H:Hp}{W:List Nat}{cf:av}(fl:Nat):
  ∃t6',am cf fl qK ⟨[t0,t1,pT [],t3,pT b,y,t6,t7,t8,t9,t10,t11],H,[],W,[]⟩=Z (.exit 0,⟨[t0,t1,pT [],t3,pT b,y,t6',t7,t8,t9,t10,t11],H,[],W,[]⟩):=by
 simp(maxSteps:=9^9) only[au,seval,-ac,-ae,aic,ar]
 exact⟨_,rfl⟩
def aae {a b:Nat}(ha:a<1073741824)(hb:b<1073741824):IntKind.i64.wrap (af a-af b)=af a-af b:=by
 simp only[IntKind.wrap,IntKind.bits,IntKind.signed,aT7,Int.bmod]
 simp
 omega
def aE0 (a b:Nat):iO (af a-af b)=aTQ b a:=by
 rw[← ado,aUp,decide_eq_true_eq,Nat.ble_eq]
 simp only[aT7]
 omega
def am0 (k m:Mn):aY [zE (af m.a-af k.a) (af m.b-af k.b) (af m.c-af k.c) (af m.d-af k.d)]=Z [bV (xr k m)]:=by
 simp only[aY,aE0,xr]
 cases aTQ k.a m.a<;>cases aTQ k.b m.b<;>cases aTQ k.c m.c<;>cases aTQ k.d m.d<;>rfl
def auz {k m:Mn}(h:xr k m=ab):k.a≤m.a∧k.b≤m.b∧k.c≤m.c∧k.d≤m.d:=by
 unfold xr at h
 cases h1:aTQ k.a m.a<;>rw[h1]at h
 ·cases h
 ·cases h2:aTQ k.b m.b<;>rw[h2]at h
  ·cases h
  ·cases h3:aTQ k.c m.c<;>rw[h3]at h
   ·cases h
   ·exact⟨Nat.le_of_ble_eq_true h1,Nat.le_of_ble_eq_true h2,Nat.le_of_ble_eq_true h3,Nat.le_of_ble_eq_true h⟩
def fQ {a b:Nat}(h:b≤a):af a-af b=af (a-b):=zl h
def IDv (b:List Mn)(k:Mn)(p:List Mn)(R:Option (List Mn))(f:Nat)(st:St):Prop:=
 ∃t0 t1 t3 y t6 t7 H W u r,st=⟨[t0,t1,pT u,t3,pT b,y,t6,t7,.t (.one (.c (.v (.slice U 0 0)))),.t (.one (.c (.v (.bool aa)))),.t (.one (.c (.v (.bool aa)))),pT p],H,[],W,[]⟩∧PF u∧GotP 0 H y r∧r.length+f=1000000∧(match yi b k f u with|some (Z l)=>R=Z (r++l)|some U=>R=U|none=>False)
def QDv (b:List Mn)(p:List Mn)(R:Option (List Mn))(x:X)(st:St):Prop:=
 (x=.exit 0∧∃l t0 t1 t3 y t6 t7 H W,R=Z l∧st=⟨[t0,t1,pT [],t3,pT b,y,t6,t7,.t (.one (.c (.v (.slice U 0 0)))),.t (.one (.c (.v (.bool aa)))),.t (.one (.c (.v (.bool aa)))),pT p],H,[],W,[]⟩∧GotP 0 H y l)∨
 (x=.ret∧∃t0 t1 t2 t3 y t6 t7 H W,R=U∧st=⟨[t0,t1,t2,t3,pT b,y,t6,t7,.t (.one .z0),.t (.one (.c (.v (.bool aa)))),.t (.one (.c (.v (.bool aa)))),pT p],H,[],W,[]⟩)
def axH {k:Mn}{bt p:List Mn}{R:Option (List Mn)}(hb:PF (k::bt))(h0:k.q.n≠0){cf:av}(c1:CA cf 135 aY)(c2:CA cf 241 fW)(c3:CA cf 155 gy)(c4:CA cf 119 cS)(f:Nat)(st:St)(h:IDv (k::bt) k p R f st):
  (∃f' st',am cf ak qK st=Z (.normal,st')∧IDv (k::bt) k p R f' st'∧f'<f)∨(∃x st',am cf ak qK st=Z (x,st')∧x≠.normal∧QDv (k::bt) p R x st'):=by
 obtain⟨t0,t1,t3,y,t6,t7,H,W,u,r,rfl,hu,hG,hrl,hd⟩:=h
 have ok:=hb.ok k aT0
 match f,u,hu,hd,hrl with
 |0,_,_,hd,_=>exact hd.elim
 |f+1,[],_,hd,_=>
  right
  obtain⟨t6',e⟩:=aJa (b:=k::bt) (y:=y) (t0:=t0) (t1:=t1) (t3:=t3) (t6:=t6) (t7:=t7) (t8:=.t (.one (.c (.v (.slice U 0 0))))) (t9:=.t (.one (.c (.v (.bool aa))))) (t10:=.t (.one (.c (.v (.bool aa))))) (t11:=pT p) (H:=H) (W:=W) (cf:=cf) ak
  simp only[yi,List.append_nil]at hd
  exact⟨_,_,e,by simp,.inl ⟨rfl,_,_,_,_,_,_,_,_,_,hd,rfl,hG⟩⟩
 |f+1,m::t,hu,hd,hrl=>
  have om:=hu.ok m aT0
  simp only[yi]at hd
  have w1:=aae om.a ok.a
  have w2:=aae om.b ok.b
  have w3:=aae om.c ok.c
  have w4:=aae om.d ok.d
  have e1:=am0 k m
  cases g1:xr k m with
  |false=>
   rw[g1]at hd e1
   right
   obtain⟨t0',t1',t2',t3',t6',t7',H',W',e⟩:=aI9 (t:=t) (bt:=bt) (y:=y) (t0:=t0) (t1:=t1) (t3:=t3) (t6:=t6) (t7:=t7) (t8:=.t (.one (.c (.v (.slice U 0 0))))) (t9:=.t (.one (.c (.v (.bool aa))))) (t10:=.t (.one (.c (.v (.bool aa))))) (t11:=pT p) (H:=H) (W:=W) w1 w2 w3 w4 e1 c1
   exact⟨_,_,e,by simp,.inr ⟨rfl,_,_,_,_,_,_,_,_,_,hd,rfl⟩⟩
  |true=>
   rw[g1]at hd e1
   obtain⟨l1,l2,l3,l4⟩:=auz g1
   have w1:=w1.trans (fQ l1)
   have w2:=w2.trans (fQ l2)
   have w3:=w3.trans (fQ l3)
   have w4:=w4.trans (fQ l4)
   rw[fQ l1,fQ l2,fQ l3,fQ l4]at e1
   dsimp only at hd
   cases g2:gS (m.sub k (m.q.div k.q))with
   |false=>rw[g2]at hd;exact hd.elim
   |true=>
    rw[g2]at hd
    dsimp only at hd
    cases g3:dN (cw (k::bt) (m.sub k (m.q.div k.q)))with
    |false=>rw[g3]at hd;exact hd.elim
    |true=>
     rw[g3]at hd
     dsimp only at hd
     cases g4:dN (fX (m::t) (cw (k::bt) (m.sub k (m.q.div k.q))))with
     |false=>rw[g4]at hd;exact hd.elim
     |true=>
      rw[g4]at hd
      dsimp only at hd
      left
      obtain⟨t0',t1',y',t3',t6',t7',H',W',e,hG'⟩:=aOj (t:=t) (bt:=bt) (t0:=t0) (t1:=t1) (t3:=t3) (t6:=t6) (t7:=t7) (t8:=.t (.one (.c (.v (.slice U 0 0))))) (t9:=.t (.one (.c (.v (.bool aa))))) (t10:=.t (.one (.c (.v (.bool aa))))) (t11:=pT p) (W:=W) (by omega) hG w1 w2 w3 w4 e1 (y9 om.q ok.q h0) (acl hb (jR g2)) (ve hu (gB g3)) c1 c2 c3 c4
      refine⟨f,_,e,⟨_,_,_,_,_,_,_,_,_,_,rfl,gB g4,hG',by rw[aTW,List.length_singleton];omega,?_⟩,Nat.lt_succ_self f⟩
      revert hd
      cases yi (k::bt) k f (fX (m::t) (cw (k::bt) (m.sub k (m.q.div k.q))))with
      |none=>exact fun h=>h
      |some o=>
       cases o with
       |none=>exact fun h=>h
       |some l=>intro h;dsimp only at h ⊢;rw[aUr];exact h
def tDv2  : Ft:=.n (.n (.n .z 119 (.nat cS) U .z) 135 (.nat aY) U .z) 155 (.nat gy) U (.n .z 241 (.nat fW) U .z)
def aG0   {k:Cls}:tDv2.Ok Tryz.prog k aH:=⟨⟨⟨tv,ahi,tv,tv⟩,rG,tv,tv⟩,wR,tv,⟨tv,akQ,tv,tv⟩⟩
def nr:Option (List Mn)→List V1
 |some l=>[pV l,bV ab]
 |none=>[pV [],bV aa]
def aEt {k:Mn}{bt p:List Mn}{R:Option (List Mn)}(hp:PF p)(hb:PF (k::bt))(h0:k.q.n≠0)(h:yi (k::bt) k 1000000 p=Z R):
  bM (ao tDv2.tb 10 8) ak wJ.1 [pV p,pV (k::bt)]=Z (nr R):=by
 have c1:CA (ao tDv2.tb 10 8) 135 aY:=fun _ _ _=>rfl
 have c2:CA (ao tDv2.tb 10 8) 241 fW:=fun _ _ _=>rfl
 have c3:CA (ao tDv2.tb 10 8) 155 gy:=fun _ _ _=>rfl
 have c4:CA (ao tDv2.tb 10 8) 119 cS:=fun _ _ _=>rfl
 generalize ao tDv2.tb 10 8=cf at*
 obtain⟨x,st',hl,_,hQ⟩:=bg (IDv (k::bt) k p R) (fun f=>f) (QDv (k::bt) p R) (fun f st h=>axH hb h0 c1 c2 c3 c4 f st h) ak 1000000 _
  ⟨.nil,.nil,.nil,.t (.one .z0),.nil,.nil,[],[],p,[],rfl,hp,⟨aTS _,.inl ⟨.inl rfl,rfl⟩⟩,rfl,by rw[h];cases R<;>rfl⟩ (eI (by decide))
 have hz:((bt.length+1==0))=aa:=rfl
 rcases hQ with⟨rfl,l,t0,t1,t3,y,t6,t7,H,W,rfl,rfl,hG⟩|⟨rfl,t0,t1,t2,t3,y,t6,t7,H,W,rfl,rfl⟩
 ·rcases hG.2 with⟨rfl|rfl,rfl⟩|⟨b',ds,_,rfl,hb',h2⟩
  ·simp(maxSteps:=9^9) only[au,seval,-ac,-ae,aoD,hl,hz];rfl
  ·simp(maxSteps:=9^9) only[au,seval,-ac,-ae,aoD,hl,hz];rfl
  ·have h1:=ni h2
   simp(maxSteps:=9^9) only[au,seval,-ac,-ae,aoD,hl,hz,hb',h1,h2,aaB,nr]
 ·simp(maxSteps:=9^9) only[au,seval,-ac,-ae,aoD,hl,hz]
  rfl
def kO (p b:List Mn):Option (Option (List Mn)):=match b with|[]=>U|k::bt=>match co k.q.n 0 with|true=>U|false=>yi (k::bt) k 1000000 p
def nx:=kI fun p b=>match kO p b with|some (Z l)=>Z [pV l,bV ab]|some U=>Z [pV [],bV aa]|none=>U
def aaT {p b:List Mn}{R:Option (List Mn)}(hp:PF p)(hb:PF b)(h:kO p b=Z R):nx [pV p,pV b]=Z (nr R):=by
 unfold nx
 rw[i7 hp hb]
 cases R<;>simp only[h,nr]
def ag9 {k:Cls}:Cn k 184 nx:=dG (ay aG0 wJ.2 10 ak 8) fun p b rs hp hb h=>by
 have key:∀R,kO p b=Z R→bM (ao tDv2.tb 10 8) ak wJ.1 [pV p,pV b]=Z (nr R):=by
  intro R e
  unfold kO at e
  split at e
  ·cases e
  ·split at e
   ·cases e
   ·rename_i hz
    exact aEt hp hb (by intro e;rw[e]at hz;cases hz) e
 split at h
 ·rename_i l e
  cases h;exact key _ e
 ·rename_i e
  cases h;exact key _ e
 ·cases h
def PR:Nat:=2147483647
def jS (a n:Nat):Nat:=Nat.mod (Nat.pow a n) 2147483647
def aLs {a n:Nat}(h:n%2=1)(o:Nat):((o*a%2147483647)*(a*a%2147483647) ^ (n/2))%2147483647=(o*a ^ n)%2147483647:=by
 have e:a ^ n=a*(a*a) ^ (n/2):=by
  have:n=2*(n/2)+1:=by omega
  conv=>lhs;rw[this]
  rw[Nat.pow_succ,Nat.pow_mul,Nat.pow_two,Nat.mul_comm]
 rw[e,← aUk,Nat.mul_mod,Nat.mod_mod,Nat.mul_mod (o*a),← Nat.pow_mod]
def aGb {a n:Nat}(h:n%2=0)(o:Nat):(o*(a*a%2147483647) ^ (n/2))%2147483647=(o*a ^ n)%2147483647:=by
 have e:a ^ n=(a*a) ^ (n/2):=by
  have:n=2*(n/2):=by omega
  conv=>lhs;rw[this]
  rw[Nat.pow_mul,Nat.pow_two]
 rw[e,Nat.mul_mod,Nat.mul_mod o ((a*a) ^ (n/2)),← Nat.pow_mod]
section
variable {a n o:Nat} {t3 t4 t5:T} {H:Hp} {W:List Nat} {cf:av}
def aMm (hn:0<n)(ha:a<2147483648)(ho:o<2147483648)(hN:n<4611686018427387904)(fl:Nat):
  ∃t3' t4' W',am cf fl yE ⟨[wT a,iT n,wT o,t3,t4,t5],H,[],W,[]⟩=Z (.normal,⟨[wT (a*a%2147483647),iT (n/2),wT (match ai (n%2) 1 with|true=>o*a%2147483647|false=>o),t3',t4',t5],H,[],W',[]⟩):=by
 have f1:a*a<18446744073709551616:=by have:=Nat.mul_lt_mul'' ha ha;omega
 have f2:o*a<18446744073709551616:=by have:=Nat.mul_lt_mul'' ho ha;omega
 have f3:n/2<9223372036854775808:=by omega
 cases hb:ai (n%2) 1 with
 |true=>
  have hb:=aT1 hb
  simp(maxSteps:=9^9) only[au,seval,-ac,-ae,ail,hn,f1,f2,f3,hb]
  exact⟨_,_,_,rfl⟩
 |false=>
  have hb:=ac1 hb
  simp(maxSteps:=9^9) only[au,seval,-ac,-ae,ail,hn,f1,f2,f3,hb]
  exact⟨_,_,_,rfl⟩
def aGv (fl:Nat):∃t3',am cf fl yE ⟨[wT a,iT 0,wT o,t3,t4,t5],H,[],W,[]⟩=Z (.exit 0,⟨[wT a,iT 0,wT o,t3',t4,t5],H,[],W,[]⟩):=by
 simp(maxSteps:=9^9) only[au,seval,-ac,-ae,ail]
 exact⟨_,rfl⟩
def aDY {n:Nat}(h:n<9223372036854775808):b9 .and .i64 (.ofNat n) (.ofNat 1)=Z (.int .i64 (.ofNat (n%2))):=by
 have e:(BitVec.ofInt 64 (af n) &&& BitVec.ofInt 64 (af 1)).toNat=n%2:=by
  have:BitVec.ofInt 64 (af n)=BitVec.ofNat 64 n:=by simp
  rw[this]
  have h1:(BitVec.ofInt 64 (af 1))=1#64:=by decide
  rw[h1]
  simp[aT9 (show n<18446744073709551616 by omega),Nat.and_one_is_mod]
 show Z (Value.int .i64 (IntKind.wrap .i64 (af (BitVec.ofInt 64 (af n) &&& BitVec.ofInt 64 (af 1)).toNat)))=_
 rw[e,show IntKind.wrap .i64 (af (n%2))=af (n%2) from Go.Mach.wrap_small .i64 _ (by show n%2<ah1;unfold ah1;omega)]
def aKE (hn:0<n)(ha:a<2147483648)(ho:o<2147483648)(hN:n<4611686018427387904)(fl:Nat):
  ∃t3' t4' W',am cf fl yM ⟨[wT a,iT n,wT o,t3,t4,t5],H,[],W,[]⟩=Z (.normal,⟨[wT (a*a%2147483647),iT (n/2),wT (match ai (n%2) 1 with|true=>o*a%2147483647|false=>o),t3',t4',t5],H,[],W',[]⟩):=by
 have f1:a*a<18446744073709551616:=by have:=Nat.mul_lt_mul'' ha ha;omega
 have f2:o*a<18446744073709551616:=by have:=Nat.mul_lt_mul'' ho ha;omega
 have f3:n/2<9223372036854775808:=by omega
 have f4:=aDY (n:=n) (by omega)
 have f5:n/2 ^ 1=n/2:=by rw[Nat.pow_one]
 cases hb:ai (n%2) 1 with
 |true=>
  have hb:=aT1 hb
  simp(maxSteps:=9^9) only[rsE,seval,-ac,-ae,aiq,hn,f1,f2,f3,f4,f5,hb]
  exact⟨_,_,_,rfl⟩
 |false=>
  have hb:=ac1 hb
  simp(maxSteps:=9^9) only[rsE,seval,-ac,-ae,aiq,hn,f1,f2,f3,f4,f5,hb]
  exact⟨_,_,_,rfl⟩
def aFm (fl:Nat):∃t3',am cf fl yM ⟨[wT a,iT 0,wT o,t3,t4,t5],H,[],W,[]⟩=Z (.exit 0,⟨[wT a,iT 0,wT o,t3',t4,t5],H,[],W,[]⟩):=by
 simp(maxSteps:=9^9) only[au,seval,-ac,-ae,aiq]
 exact⟨_,rfl⟩
end
def Ipw (R:Nat)(t5:T)(n:Nat)(st:St):Prop:=∃a o t3 t4 W,st=⟨[wT a,iT n,wT o,t3,t4,t5],[],[],W,[]⟩∧a<2147483648∧o<2147483648∧n<4611686018427387904∧(o*a ^ n)%2147483647=R∧(0<n∨o<2147483647)
def aGc {a n o R:Nat}(hn:0<n)(h:(o*a ^ n)%2147483647=R):((match ai (n%2) 1 with|true=>o*a%2147483647|false=>o)*(a*a%2147483647) ^ (n/2))%2147483647=R:=by
 cases hb:ai (n%2) 1 with
 |true=>rw[← h];exact aLs (aT1 hb) o
 |false=>rw[← h];exact aGb (by have:=Nat.ne_of_beq_eq_false hb;omega) o
def aPa {a n o:Nat}(hn:0<n)(ho:o<2147483648):(match ai (n%2) 1 with|true=>o*a%2147483647|false=>o)<2147483648∧(0<n/2∨(match ai (n%2) 1 with|true=>o*a%2147483647|false=>o)<2147483647):=by
 cases hb:ai (n%2) 1 with
 |true=>
  have:o*a%2147483647<2147483647:=aUb _ (by omega)
  exact⟨by show o*a%2147483647<_;omega,.inr this⟩
 |false=>exact⟨ho,.inl (by have:=Nat.ne_of_beq_eq_false hb;omega)⟩
def anD {body:St→Option (X × St)}{t5:T}(hg:∀a n o t3 t4 W,0<n→a<2147483648→o<2147483648→n<4611686018427387904→∃t3' t4' W',body ⟨[wT a,iT n,wT o,t3,t4,t5],[],[],W,[]⟩=Z (.normal,⟨[wT (a*a%2147483647),iT (n/2),wT (match ai (n%2) 1 with|true=>o*a%2147483647|false=>o),t3',t4',t5],[],[],W',[]⟩))
  (he:∀a o t3 t4 W,∃t3',body ⟨[wT a,iT 0,wT o,t3,t4,t5],[],[],W,[]⟩=Z (.exit 0,⟨[wT a,iT 0,wT o,t3',t4,t5],[],[],W,[]⟩)){a n:Nat}(ha:a<2147483648)(hn:n<4294967296){t3 t4:T}:
  ∃a' t3' t4' W',aG body ak ⟨[wT a,iT n,wT 1,t3,t4,t5],[],[],[],[]⟩=Z (.exit 0,⟨[wT a',iT 0,wT (jS a n),t3',t4',t5],[],[],W',[]⟩):=by
 obtain⟨x,st',hl,_,rfl,a',t3',t4',W',rfl⟩:=bg (body:=body) (Ipw (jS a n) t5) (fun n=>n) (fun x st'=>x=.exit 0∧∃a' t3' t4' W',st'=⟨[wT a',iT 0,wT (jS a n),t3',t4',t5],[],[],W',[]⟩)
  (fun n' st h=>by
   obtain⟨a',o,t3,t4,W,rfl,ha,ho,hN,hR,hx⟩:=h
   rcases aUc n' with rfl|h0
   ·obtain⟨t3',e⟩:=he a' o t3 t4 W
    have hx:o<2147483647:=by omega
    rw[Nat.pow_zero,Nat.mul_one,aT9 hx]at hR
    subst hR
    exact .inr ⟨_,_,e,by simp,rfl,_,_,_,_,rfl⟩
   ·obtain⟨t3',t4',W',e⟩:=hg a' n' o t3 t4 W h0 ha ho hN
    obtain⟨l1,l2⟩:=aPa (a:=a') h0 ho
    have:a'*a'%2147483647<2147483647:=aUb _ (by omega)
    exact .inl ⟨n'/2,_,e,⟨_,_,_,_,_,rfl,by omega,l1,by omega,aGc h0 hR,l2⟩,by show n'/2<n';omega⟩)
  ak n _ ⟨a,1,t3,t4,[],rfl,ha,by omega,by omega,by rw[Nat.one_mul];rfl,.inr (by omega)⟩ (eI hn)
 exact⟨a',t3',t4',W',hl⟩
abbrev uV (n:Nat):V1:=.one (.v (.int .u64 (af n)))
def arg {a n:Nat}(ha:a<2147483648)(hn:n<4294967296){cf:av}:bM cf ak afT.1 [uV a,sV (af n)]=Z [uV (jS a n)]:=by
 obtain⟨a',t3',t4',W',hl⟩:=anD (body:=am cf ak yE) (t5:=wT 0) (t3:=.nil) (t4:=.nil) (fun a n o t3 t4 W hn ha ho hN=>aMm hn ha ho hN ak) (fun a o t3 t4 W=>aGv ak) ha hn
 simp(maxSteps:=9^9) only[au,seval,-ac,-ae,aQ4,hl]
def apU {a n:Nat}(ha:a<2147483648)(hn:n<4294967296){cf:av}:bM cf ak afZ.1 [uV a,sV (af n)]=Z [uV (jS a n)]:=by
 obtain⟨a',t3',t4',W',hl⟩:=anD (body:=am cf ak yM) (t5:=wT 0) (t3:=.nil) (t4:=.nil) (fun a n o t3 t4 W hn ha ho hN=>aKE hn ha ho hN ak) (fun a o t3 t4 W=>aFm ak) ha hn
 simp(maxSteps:=9^9) only[au,seval,-ac,-ae,aRf,hl]
def rE (a n:Nat):Nat:=
 match ai a 1 with
 |true=>1
 |false=>
  (fun b=>(fun c=>(fun d=>Nat.mod (Nat.mul (Nat.mul (Nat.pow a (Nat.mod n 256)) (Nat.pow b (Nat.mod (Nat.div n 256) 256))) (Nat.mul (Nat.pow c (Nat.mod (Nat.div n 65536) 256)) (Nat.pow d (Nat.div n 16777216)))) 2147483647)
   (Nat.mod (Nat.pow c 256) 2147483647)) (Nat.mod (Nat.pow b 256) 2147483647)) (Nat.mod (Nat.pow a 256) 2147483647)
def vw (a n:Nat):rE a n=jS a n:=by
 unfold rE jS
 cases h:ai a 1 with
 |true=>
  rw[aT1 h]
  show 1=(1 ^ n)%2147483647
  rw[Nat.one_pow]
 |false=>
  show((a ^ (n%256)*(a ^ 256%2147483647) ^ (n/256%256))*(((a ^ 256%2147483647) ^ 256%2147483647) ^ (n/65536%256)*(((a ^ 256%2147483647) ^ 256%2147483647) ^ 256%2147483647) ^ (n/16777216)))%2147483647=a ^ n%2147483647
  have e:a ^ n=(a ^ (n%256)*(a ^ 256) ^ (n/256%256))*(((a ^ 256) ^ 256) ^ (n/65536%256)*(((a ^ 256) ^ 256) ^ 256) ^ (n/16777216)):=by
   simp only[← Nat.pow_mul,← Nat.pow_add]
   congr 1
   omega
  rw[e]
  have m1:(a ^ 256%2147483647)%2147483647=a ^ 256%2147483647:=Nat.mod_mod _ _
  have k1:∀x y n:Nat,x%2147483647=y%2147483647→x ^ n%2147483647=y ^ n%2147483647:=fun x y n h=>by rw[Nat.pow_mod,h,← Nat.pow_mod]
  have k2:∀x y z w:Nat,x%2147483647=y%2147483647→z%2147483647=w%2147483647→(x*z)%2147483647=(y*w)%2147483647:=fun x y z w h1 h2=>by rw[Nat.mul_mod,h1,h2,← Nat.mul_mod]
  have b1:(a ^ 256%2147483647)%2147483647=(a ^ 256)%2147483647:=m1
  have c1:((a ^ 256%2147483647) ^ 256%2147483647)%2147483647=((a ^ 256) ^ 256)%2147483647:=by rw[Nat.mod_mod];exact k1 _ _ _ b1
  have d1:(((a ^ 256%2147483647) ^ 256%2147483647) ^ 256%2147483647)%2147483647=(((a ^ 256) ^ 256) ^ 256)%2147483647:=by rw[Nat.mod_mod];exact k1 _ _ _ c1
  exact k2 _ _ _ _ (k2 _ _ _ _ rfl (k1 _ _ _ b1)) (k2 _ _ _ _ (k1 _ _ _ c1) (k1 _ _ _ d1))
def bH:List V1→Option (List V1)
 |[.one (.v (.int .u64 (.ofNat a))),.one (.v (.int .i64 (.ofNat n)))]=>(match ah a 2147483648&&ah n 4294967296 with|true=>Z [uV (rE a n)]|false=>U)
 |_=>U
def fI {a n:Nat}(ha:a<2147483648)(hn:n<4294967296):bH [uV a,sV (af n)]=Z [uV (jS a n)]:=by
 have hc:(ah a 2147483648&&ah n 4294967296)=ab:=by rw[aTT,aTR,aTR];exact⟨ha,hn⟩
 simp only[bH,hc,vw]
def agV {al rs:List V1}(h:bH al=Z rs):∃a n,al=[uV a,sV (af n)]∧a<2147483648∧n<4294967296∧rs=[uV (jS a n)]:=by
 unfold bH at h
 split at h
 ·split at h
  ·rename_i hc
   cases h
   rw[aTT,aTR,aTR]at hc
   exact⟨_,_,rfl,hc.1,hc.2,by rw[vw]⟩
  ·cases h
 ·cases h
def aei {k:Cls}:Cn k 245 bH:=aC (ay (t:=.z) trivial afT.2 10 ak 8) fun al rs h=>by
 obtain⟨a,n,rfl,ha,hn,rfl⟩:=agV h
 exact arg ha hn
def adW {k:Cls}:Cn k 290 bH:=aC (ay (t:=.z) trivial afZ.2 10 ak 8) fun al rs h=>by
 obtain⟨a,n,rfl,ha,hn,rfl⟩:=agV h
 exact apU ha hn
def axq (x:Int):(x != x)=aa:=by simp
def at7 {x:Int}{cf:av}:bM cf 10 akJ.1 [sV x]=Z [bV aa]:=by
 simp(maxSteps:=9^9) only[au,seval,-ac,-ae,aH4,axq]
def ze:List V1→Option (List V1)
 |[.one (.v (.int .i64 _))]=>Z [bV aa]
 |_=>U
def at5 {k:Cls}:Cn k 248 ze:=aC (ay (t:=.z) trivial akJ.2 10 10 8) fun al rs h=>by
 unfold ze at h
 split at h
 ·cases h;exact at7
 ·cases h
def tCp  : Ft:=.n .z 248 (.nat ze) U .z
def aMX   {k:Cls}:tCp.Ok Tryz.prog k aH:=⟨tv,at5,tv,tv⟩
def rU (a b:Nat):Int:=match ah a b with|true=>aT2 0|false=>match ah b a with|true=>af 1|false=>af 0
def ajj {a b:Nat}:bM (ao tCp.tb 10 8) 10 akH.1 [sV (af a),sV (af b)]=Z [sV (rU a b)]:=by
 have c1:CA (ao tCp.tb 10 8) 248 ze:=fun _ _ _=>rfl
 generalize ao tCp.tb 10 8=cf at*
 have e1:∀x:Int,ze [sV x]=Z [bV aa]:=fun x=>rfl
 unfold rU
 cases h1:ah a b with
 |true=>
  rw[aTR]at h1
  simp(maxSteps:=9^9) only[au,seval,-ac,-ae,aeC,c1,e1,h1]
 |false=>
  have h1:(a<b)=False:=eq_false (by intro h;rw[← aTR,h1]at h;cases h)
  cases h2:ah b a with
  |true=>
   rw[aTR]at h2
   simp(maxSteps:=9^9) only[au,seval,-ac,-ae,aeC,c1,e1,h1,h2]
  |false=>
   have h2:(b<a)=False:=eq_false (by intro h;rw[← aTR,h2]at h;cases h)
   simp(maxSteps:=9^9) only[au,seval,-ac,-ae,aeC,c1,e1,h1,h2]
def qU:List V1→Option (List V1)
 |[.one (.v (.int .i64 (.ofNat a))),.one (.v (.int .i64 (.ofNat b)))]=>Z [sV (rU a b)]
 |_=>U
def alR {k:Cls}:Cn k 218 qU:=aC (ay aMX akH.2 10 10 8) fun al rs h=>by
 unfold qU at h
 split at h
 ·cases h;exact ajj
 ·cases h
def x7 {a b:Nat}(h:ai a b=ab):rU a b=af 0:=by
 rw[aT1 h]
 unfold rU
 have:ah b b=aa:=by cases h:ah b b with|false=>rfl|true=>rw[aTR]at h;omega
 rw[this]
def as2 {a b:Nat}(h:ai a b=aa):rU a b=match ah a b with|true=>aT2 0|false=>af 1:=by
 have hn:=Nat.ne_of_beq_eq_false h
 unfold rU
 cases h1:ah a b with
 |true=>rfl
 |false=>
  have:ah b a=ab:=by
   rw[aTR]
   have:¬a<b:=by intro h;rw[← aTR,h1]at h;cases h
   omega
  rw[this]
def ac9 {a b:Nat}(h:ai a b=aa):(rU a b != af 0)=ab:=by
 rw[as2 h]
 cases ah a b<;>rfl
def cmE (a b c d a' b' c' d':Nat):Int:=
 match ai d d' with
 |false=>rU d d'
 |true=>match ai c c' with
  |false=>rU c c'
  |true=>match ai b b' with
   |false=>rU b b'
   |true=>rU a a'
def tCm2  : Ft:=.n .z 218 (.nat qU) U .z
def aGV   {k:Cls}:tCm2.Ok Tryz.prog k aH:=⟨tv,alR,tv,tv⟩
def ajM {a b c d a' b' c' d':Nat}:bM (ao tCm2.tb 10 8) 10 afG.1 [eV a b c d,eV a' b' c' d']=Z [sV (cmE a b c d a' b' c' d')]:=by
 have c1:CA (ao tCm2.tb 10 8) 218 qU:=fun _ _ _=>rfl
 have e1:∀a b:Nat,qU [sV (af a),sV (af b)]=Z [sV (rU a b)]:=fun a b=>rfl
 generalize ao tCm2.tb 10 8=cf at*
 unfold cmE
 cases h1:ai d d' with
 |false=>simp(maxSteps:=9^9) only[au,seval,-ac,-ae,aG,ah6,xI,ar,c1,e1,ac9 h1]
 |true=>
  have z1:=x7 h1
  cases h2:ai c c' with
  |false=>simp(maxSteps:=9^9) only[au,seval,-ac,-ae,aG,ah6,xI,ar,c1,e1,z1,ac9 h2]
  |true=>
   have z2:=x7 h2
   cases h3:ai b b' with
   |false=>simp(maxSteps:=9^9) only[au,seval,-ac,-ae,aG,ah6,xI,ar,c1,e1,z1,z2,ac9 h3]
   |true=>
    have z3:=x7 h3
    cases h4:ai a a' with
    |false=>simp(maxSteps:=9^9) only[au,seval,-ac,-ae,aG,ah6,xI,ar,c1,e1,z1,z2,z3,ac9 h4]
    |true=>
     have z4:=x7 h4
     simp(maxSteps:=9^9) only[au,seval,-ac,-ae,aG,ah6,xI,ar,c1,e1,z1,z2,z3,z4]
def bS:List V1→Option (List V1)
 |[.agg [.v (.int .i64 (.ofNat a)),.v (.int .i64 (.ofNat b)),.v (.int .i64 (.ofNat c)),.v (.int .i64 (.ofNat d))],.agg [.v (.int .i64 (.ofNat a')),.v (.int .i64 (.ofNat b')),.v (.int .i64 (.ofNat c')),.v (.int .i64 (.ofNat d'))]]=>Z [sV (cmE a b c d a' b' c' d')]
 |_=>U
def aby {a b c d a' b' c' d':Nat}:bS [eV a b c d,eV a' b' c' d']=Z [sV (cmE a b c d a' b' c' d')]:=rfl
def qN {k:Cls}:Cn k 154 bS:=aC (ay aGV afG.2 10 10 8) fun al rs h=>by
 unfold bS at h
 split at h
 ·cases h;exact ajM
 ·cases h
def mn4 (a b c d:Int):Int:=if d<if c<if b<a then b else a then c else if b<a then b else a then d else if c<if b<a then b else a then c else if b<a then b else a
def aFj {a b c d:Int}{cf:av}:bM cf 10 afP.1 [.one (.sl 4 [.v (.int .i64 a),.v (.int .i64 b),.v (.int .i64 c),.v (.int .i64 d)])]=Z [sV (mn4 a b c d)]:=by
 simp(maxSteps:=9^9) only[au,seval,-ac,-ae,aG,aQP,aHZ,ar]
 rfl
def aEZ (z:Int):iO z=ab↔0≤z:=by
 rw[← ado,decide_eq_true_eq];exact Iff.rfl
def aFk (a b c d:Int):iO (mn4 a b c d)=(iO a&&(iO b&&(iO c&&iO d))):=by
 rw[aUp]
 simp only[aTT,aEZ]
 unfold mn4
 repeat' split
 all_goals omega
def akb:List V1→Option (List V1)
 |[.one (.sl 4 [.v (.int .i64 a),.v (.int .i64 b),.v (.int .i64 c),.v (.int .i64 d)])]=>Z [sV (mn4 a b c d)]
 |_=>U
def aFi {k:Cls}:Cn k 214 akb:=aC (ay (t:=.z) trivial afP.2 10 10 8) fun al rs h=>by
 unfold akb at h
 split at h
 ·cases h;exact aFj
 ·cases h
def tMn  : Ft:=.n .z 214 (.nat akb) U .z
def aNr   {k:Cls}:tMn.Ok Tryz.prog k aH:=⟨tv,aFi,tv,tv⟩
def ajW {a b c d:Int}:bM (ao tMn.tb 10 8) 10 aqs.1 [zE a b c d]=Z [bV (iO a&&(iO b&&(iO c&&iO d)))]:=by
 have c1:CA (ao tMn.tb 10 8) 214 akb:=fun _ _ _=>rfl
 have e1:akb [.one (.sl 4 [.v (.int .i64 a),.v (.int .i64 b),.v (.int .i64 c),.v (.int .i64 d)])]=Z [sV (mn4 a b c d)]:=rfl
 generalize ao tMn.tb 10 8=cf at*
 rw[← aFk,← ado]
 simp(maxSteps:=9^9) only[au,seval,-ac,-ae,aQt,ar,c1,e1,kx]
def qO {k:Cls}:Cn k 151 aY:=aC (ay aNr aqs.2 10 10 8) fun al rs h=>by
 unfold aY at h
 split at h
 ·cases h;exact ajW
 ·cases h
def au5 {p r:List Mn}{m:Mn}{i v o:Nat}(hv:v<4)(hi:p.drop i=m::r)(hl:p.length<10000000){t2 t3 t7 t8:T}{E:Hp}{W:List Nat}(cf:av)(fl:Nat):
  ∃t2' t3' E' W',am cf fl adJ ⟨[iT i,jT (m1 o),t2,t3,pT p,iT p.length,iT v,t7,t8],E,[],W,[]⟩=Z (.normal,⟨[iT (i+1),jT (m1 (mxN o (m.ex v+1))),t2',t3',pT p,iT p.length,iT v,t7,t8],E',[],W',[]⟩):=by
 have hd:=bW hi
 have h1:=aM hi
 have e1:i+1<9223372036854775808:=by omega
 have hv':v=0∨v=1∨v=2∨v=3:=by omega
 rcases hv' with rfl|rfl|rfl|rfl<;>
  (simp(maxSteps:=9^9) only[au,seval,-ac,-ae,aBW,Mn.ex,h1,hd,e1,auR,bk,bx];exact⟨_,_,_,_,rfl⟩)
def ayP {n v o:Nat}(hl:n<10000000){t2 t3 t4 t7 t8:T}{E:Hp}{W:List Nat}(cf:av)(fl:Nat):
  ∃t3',am cf fl adJ ⟨[iT n,jT (m1 o),t2,t3,t4,iT n,iT v,t7,t8],E,[],W,[]⟩=Z (.exit 0,⟨[iT n,jT (m1 o),t2,t3',t4,iT n,iT v,t7,t8],E,[],W,[]⟩):=by
 simp(maxSteps:=9^9) only[au,seval,-ac,-ae,aBW]
 exact⟨_,rfl⟩
def ayQ {p:List Mn}{v:Nat}(hv:v<4)(hl:p.length<10000000){cf:av}:bM cf ak q92.1 [pV p,sV (af v)]=Z [sV (m1 (dg v p))]:=by
 obtain⟨st',h,o,t2,t3,E,W,rfl,hd⟩:=bq (body:=am cf ak adJ) (id:=0) p.length
  (fun i st=>∃o t2 t3 E W,st=⟨[iT i,jT (m1 o),t2,t3,pT p,iT p.length,iT v,iT 0,pT p],E,[],W,[]⟩∧rZ v (p.drop i) o=dg v p)
  (fun st=>∃o t2 t3 E W,st=⟨[iT p.length,jT (m1 o),t2,t3,pT p,iT p.length,iT v,iT 0,pT p],E,[],W,[]⟩∧o=dg v p)
  (fun i st hi=>by
   rintro⟨o,t2,t3,E,W,rfl,hd⟩
   obtain⟨m,r,hm⟩:=bo hi
   obtain⟨t2',t3',E',W',e⟩:=au5 (o:=o) (t2:=t2) (t3:=t3) (t7:=iT 0) (t8:=pT p) (E:=E) (W:=W) hv hm hl cf ak
   rw[hm,rZ]at hd
   exact⟨_,e,_,_,_,_,_,rfl,by rw[bf hm];exact hd⟩)
  (fun st=>by
   rintro⟨o,t2,t3,E,W,rfl,hd⟩
   obtain⟨t3',e⟩:=ayP (v:=v) (o:=o) (t2:=t2) (t3:=t3) (t4:=pT p) (t7:=iT 0) (t8:=pT p) (E:=E) (W:=W) hl cf ak
   rw[aUg,rZ]at hd
   exact⟨_,e,_,_,_,_,_,rfl,hd⟩)
  ak _ ⟨0,.nil,.nil,[],[],rfl,rfl⟩ (aN hl)
 subst hd
 rw[ajG]at h
 simp(maxSteps:=9^9) only[au,seval,-ac,-ae,E92,h]
def jP {k:Cls}:Cn k 92 a9:=lU (ay (t:=.z) trivial q92.2 10 ak 8) fun p v rs h hv e=>by
 cases e;exact ayQ hv h.len
def aB4 (m k:Mn):cmE m.a m.b m.c m.d k.a k.b k.c k.d=match aZ m k with|true=>af 1|false=>match aZ k m with|true=>aT2 0|false=>af 0:=by
 have key:∀a b:Nat,ai a b=aa→rU a b=match ah b a with|true=>af 1|false=>match ah a b with|true=>aT2 0|false=>af 0:=by
  intro a b h
  have hn:=Nat.ne_of_beq_eq_false h
  rw[as2 h]
  cases h1:ah a b with
  |true=>
   have:ah b a=aa:=by
    cases h2:ah b a with
    |false=>rfl
    |true=>rw[aTR]at h1 h2;omega
   rw[this]
  |false=>
   have:ah b a=ab:=by
    rw[aTR]
    have:¬a<b:=by intro h;rw[← aTR,h1]at h;cases h
    omega
   rw[this]
 have sw:∀a b:Nat,ai b a=ai a b:=by intro a b;rw[vg,vg,aUp,beq_iff_eq,beq_iff_eq];exact⟨Eq.symm,Eq.symm⟩
 unfold aZ oW cmE
 rw[sw m.d k.d,sw m.c k.c,sw m.b k.b]
 cases h1:ai m.d k.d with
 |false=>exact key _ _ h1
 |true=>
  cases h2:ai m.c k.c with
  |false=>exact key _ _ h2
  |true=>
   cases h3:ai m.b k.b with
   |false=>exact key _ _ h3
   |true=>
    cases h4:ai m.a k.a with
    |false=>exact key _ _ h4
    |true=>
     dsimp only
     rw[x7 h4]
     have e:ah k.a m.a=aa:=by cases h:ah k.a m.a with|false=>rfl|true=>rw[aTR]at h;have:=aT1 h4;omega
     have e':ah m.a k.a=aa:=by cases h:ah m.a k.a with|false=>rfl|true=>rw[aTR]at h;have:=aT1 h4;omega
     rw[e,e']
def abK (H:Hp)(y:T)(r t:List Mn):T:=match t with|[]=>y|_=>.t (.one (.lsl H.length 0 (r.length+t.length) 8))
def xT (H:Hp)(y:T)(r t:List Mn):Hp:=match t with|[]=>H|_=>kM y H++[Z (.cells (pD (r++t)))]
def GotP.many {n:Nat}{H:Hp}{y:T}{r:List Mn}(h:GotP n H y r)(t:List Mn):GotP n (xT H y r t) (abK H y r t) (r++t):=by
 cases t with
 |nil=>rw[List.append_nil];exact h
 |cons m t=>
  have hk:=dV y H
  refine⟨by unfold xT;rw[aTW,hk];have:=h.1;omega,.inr ⟨H.length,pD (r++m::t),h.1,by unfold abK;rw[aTW],?_,afr _⟩⟩
  unfold xT
  rw[← hk,List.getElem?_append_right (aTS _),Nat.sub_self]
  rfl
def abL {n:Nat}{y:T}{r:List Mn}(hr:r.length<100000000)(t:List Mn)(ht:t.length<100000000)(H:Hp)(h:GotP n H y r):bJ 8 96 H [] y (pT t)=Z (abK H y r t,xT H y r t):=by
 have hx:ch H 8 (pT t)=Z (t.length,pD t):=by
  show(if (pL t).length=t.length*8 then Z (t.length,(pL t).map D.c) else U)=_
  rw[if_pos (ou t)]
 unfold bJ
 rw[hx]
 cases t with
 |nil=>
  rcases h.2 with⟨rfl|rfl,rfl⟩|⟨b,ds,_,rfl,hb,h3⟩
  ·rfl
  ·rfl
  ·rfl
 |cons m t=>
  have e1:((m::t).length=0)=False:=eq_false (by simp)
  have e2:(m::t).length≤2 ^ 30:=by omega
  have e3:(m::t).length*96≤2 ^ 46:=by omega
  have e5:r.length+(m::t).length≤2 ^ 30:=by omega
  have e6:(r.length+(m::t).length)*96≤2 ^ 46:=by omega
  rcases h.2 with⟨rfl|rfl,rfl⟩|⟨b,ds,_,rfl,hb,h3⟩
  ·simp only[e1,e2,e3,and_self,↓reduceIte,abK,xT,kM,List.nil_append,aUf,aUe]
  ·simp only[e1,e2,e3,and_self,↓reduceIte,abK,xT,kM,List.nil_append,aUf,aUe]
  ·have h2:=ni h3
   have h4:pD (r++m::t)=pD r++pD (m::t):=by unfold pD;rw[lJ,List.map_append]
   simp only[hb,h2,e1,e2,e3,e5,e6,h3,List.not_mem_nil,not_false_eq_true,and_self,↓reduceIte]
   simp only[abK,xT,kM,h4]
def abc (p:List Mn):(if 1<p.length+1 then Z (T.t (.one (.c (.sl p.length (List.take (p.length*8) (pL p)))))) else Z (T.t (.one (.c (.sl 0 [])))))=Z (pT p):=by
 split
 ·rw[← ou,List.take_length]
 ·cases p with
  |nil=>rfl
  |cons m p=>rename_i h;simp at h
section
variable {p q r:List Mn} {m k:Mn} {y t3 t4 t5 t6 t7 t8 t9:T} {H:Hp} {W:List Nat} {cf:av}
def aRP (hr:r.length<100000000)(hG:GotP 0 H y r)(e0:bS [eV m.a m.b m.c m.d,eV k.a k.b k.c k.d]=Z [sV (af 1)])
  (c1:CA cf 154 bS)(fl:Nat):
  ∃y' t3' t5' t7' H' W',am cf fl ma ⟨[pT (m::p),pT (k::q),y,t3,t4,t5,t6,t7,t8,t9],H,[],W,[]⟩=Z (.normal,⟨[pT p,pT (k::q),y',t3',t4,t5',t6,t7',t8,t9],H',[],W',[]⟩)∧GotP 0 H' y' (r++[m]):=by
 have hA:=fun(H':Hp) (x':T) (hx:ch H' 8 x'=Z (1,mD m)) (h:GotP 0 H' y r)=>dS hr m x' H' hx h
 simp(maxSteps:=9^9) only[au,seval,-ac,-ae,qd,ar,dH,Nat.zero_lt_succ,c1,e0,hG,hA,abc,bk,bx]
 exact⟨_,_,_,_,_,_,rfl,hG.next _⟩
def aRQ (hr:r.length<100000000)(hG:GotP 0 H y r)(e0:bS [eV m.a m.b m.c m.d,eV k.a k.b k.c k.d]=Z [sV (aT2 0)])
  (c1:CA cf 154 bS)(fl:Nat):
  ∃y' t3' t5' t7' t8' H' W',am cf fl ma ⟨[pT (m::p),pT (k::q),y,t3,t4,t5,t6,t7,t8,t9],H,[],W,[]⟩=Z (.normal,⟨[pT (m::p),pT q,y',t3',t4,t5',t6,t7',t8',t9],H',[],W',[]⟩)∧GotP 0 H' y' (r++[k]):=by
 have hA:=fun(H':Hp) (x':T) (hx:ch H' 8 x'=Z (1,mD k)) (h:GotP 0 H' y r)=>dS hr k x' H' hx h
 simp(maxSteps:=9^9) only[au,seval,-ac,-ae,qd,ar,dH,Nat.zero_lt_succ,c1,e0,hG,hA,abc,bk,bx]
 exact⟨_,_,_,_,_,_,_,rfl,hG.next _⟩
def aRR {sg:Int}{x:Q}(hr:r.length<100000000)(hG:GotP 0 H y r)(e0:bS [eV m.a m.b m.c m.d,eV k.a k.b k.c k.d]=Z [sV (af 0)])(e1:cV [eQ m.q,eQ k.q]=Z [eQ x])(e2:bn [eQ x]=Z [sV sg])(z:(sg != af 0)=ab)
  (c1:CA cf 154 bS)(c2:CA cf 153 bn)(c3:CA cf 182 cV)(fl:Nat):
  ∃y' t3' t4' t5' t6' t7' t8' H' W',am cf fl ma ⟨[pT (m::p),pT (k::q),y,t3,t4,t5,t6,t7,t8,t9],H,[],W,[]⟩=Z (.normal,⟨[pT p,pT q,y',t3',t4',t5',t6',t7',t8',t9],H',[],W',[]⟩)∧GotP 0 H' y' (r++[m.with x]):=by
 have gG:∀(H':Hp),GotP 0 H' y r→∀x,GotP 0 (H'++[x]) y r:=fun H' h x=>h.snoc x
 have hA:=fun(H':Hp) (x':T) (hx:ch H' 8 x'=Z (1,mD (m.with x))) (h:GotP 0 H' y r)=>dS hr (m.with x) x' H' hx h
 simp only[Mn.with]at hA
 simp(maxSteps:=9^9) only[au,seval,-ac,-ae,qd,ar,dH,Nat.zero_lt_succ,c1,c2,c3,e0,e1,e2,z,hG,gG,hA,abc,bk,bx]
 exact⟨_,_,_,_,_,_,_,_,_,rfl,(hG.snoc _).next _⟩
def aRS {sg:Int}{x:Q}(hG:GotP 0 H y r)(e0:bS [eV m.a m.b m.c m.d,eV k.a k.b k.c k.d]=Z [sV (af 0)])(e1:cV [eQ m.q,eQ k.q]=Z [eQ x])(e2:bn [eQ x]=Z [sV sg])(z:(sg != af 0)=aa)
  (c1:CA cf 154 bS)(c2:CA cf 153 bn)(c3:CA cf 182 cV)(fl:Nat):
  ∃t3' t4' t5' t6' t7' t8' H' W',am cf fl ma ⟨[pT (m::p),pT (k::q),y,t3,t4,t5,t6,t7,t8,t9],H,[],W,[]⟩=Z (.normal,⟨[pT p,pT q,y,t3',t4',t5',t6',t7',t8',t9],H',[],W',[]⟩)∧GotP 0 H' y r:=by
 simp(maxSteps:=9^9) only[au,seval,-ac,-ae,qd,ar,dH,Nat.zero_lt_succ,c1,c2,c3,e0,e1,e2,z,abc,bk,bx]
 exact⟨_,_,_,_,_,_,_,_,rfl,hG.snoc _⟩
def au0 (h:p=[]∨q=[])(fl:Nat):
  ∃t5' W',am cf fl ma ⟨[pT p,pT q,y,t3,t4,t5,t6,t7,t8,t9],H,[],W,[]⟩=Z (.exit 0,⟨[pT p,pT q,y,t3,t4,t5',t6,t7,t8,t9],H,[],W',[]⟩):=by
 rcases h with rfl|rfl
 ·simp(maxSteps:=9^9) only[au,seval,-ac,-ae,qd,ar]
  exact⟨_,_,rfl⟩
 ·cases p with
  |nil=>
   simp(maxSteps:=9^9) only[au,seval,-ac,-ae,qd,ar]
   exact⟨_,_,rfl⟩
  |cons m p=>
   simp(maxSteps:=9^9) only[au,seval,-ac,-ae,qd,ar,Nat.zero_lt_succ]
   exact⟨_,_,rfl⟩
end
def avv:∀l:List Value,(∀v∈l,isCell v=ab)→∃ds,ge l=Z ds
 |[],_=>⟨[],rfl⟩
 |v::l,h=>by
  obtain⟨ds,hd⟩:=avv l (fun x hx=>h x (aT8 _ hx))
  exact⟨_,by unfold ge;rw[if_pos (h v aT0),hd]⟩
def anQ (n:Nat):∃ds,ge (cW [.int .i64 (af 0),.int .i64 (af 0),.int .i64 (af 0),.int .i64 (af 0),.bool aa,.slice U 0 0,.bool aa,.slice U 0 0] n)=Z ds:=by
 refine avv _ fun v hv=>?_
 unfold cW at hv
 obtain⟨i,_,rfl⟩:=List.mem_map.1 hv
 have hi:i%8<8:=aUb _ (by omega)
 show isCell ([Value.int .i64 (af 0),.int .i64 (af 0),.int .i64 (af 0),.int .i64 (af 0),.bool aa,.slice U 0 0,.bool aa,.slice U 0 0][i%8]!)=ab
 generalize i%8=j at hi
 match j,hi with
 |0,_=>rfl
 |1,_=>rfl
 |2,_=>rfl
 |3,_=>rfl
 |4,_=>rfl
 |5,_=>rfl
 |6,_=>rfl
 |7,_=>rfl
abbrev aR:T:=.t (.one (.c (.v (.slice U 0 0))))
def IMa (p q:List Mn)(s:Nat)(st:St):Prop:=
 ∃a b y t3 t4 t5 t6 t7 t8 H W r f,s=a.length+b.length∧st=⟨[pT a,pT b,y,t3,t4,t5,t6,t7,t8,aR],H,[],W,[]⟩∧cK a∧cK b∧r.length+a.length+b.length≤p.length+q.length∧GotP 0 H y r∧a.length+b.length≤f∧r++iI f a b=jA p q
def QMa (p q:List Mn)(x:X)(st:St):Prop:=
 x=.exit 0∧∃a b y t3 t4 t5 t6 t7 t8 H W r,st=⟨[pT a,pT b,y,t3,t4,t5,t6,t7,t8,aR],H,[],W,[]⟩∧r.length+a.length+b.length≤p.length+q.length∧GotP 0 H y r∧r++(a++b)=jA p q
def ayL {p q:List Mn}(hp:PF p)(hq:PF q){cf:av}(c1:CA cf 154 bS)(c2:CA cf 153 bn)(c3:CA cf 182 cV)(fl:Nat)(s:Nat)(st:St)(h:IMa p q s st):
  (∃s' st',am cf fl ma st=Z (.normal,st')∧IMa p q s' st'∧s'<s)∨(∃x st',am cf fl ma st=Z (x,st')∧x≠.normal∧QMa p q x st'):=by
 obtain⟨a,b,y,t3,t4,t5,t6,t7,t8,H,W,r,f,rfl,rfl,ha,hb,hrl,hG,hf,hr⟩:=h
 have lp:=hp.len
 have lq:=hq.len
 have hr':r.length<100000000:=by omega
 match a,b,ha,hb,hrl,hf,hr with
 |[],b,ha,hb,hrl,hf,hr=>
  right
  obtain⟨t5',W',e⟩:=au0 (p:=[]) (q:=b) (y:=y) (t3:=t3) (t4:=t4) (t5:=t5) (t6:=t6) (t7:=t7) (t8:=t8) (t9:=aR) (H:=H) (W:=W) (cf:=cf) (.inl rfl) fl
  have hx:iI f [] b=b:=by
   cases f with
   |zero=>have:b=[]:=List.length_eq_zero_iff.1 (by simpa using hf);rw[this];rfl
   |succ f=>rfl
  rw[hx]at hr
  exact⟨_,_,e,by simp,rfl,[],b,_,_,_,_,_,_,_,_,_,_,rfl,hrl,hG,hr⟩
 |m::a,[],ha,hb,hrl,hf,hr=>
  right
  obtain⟨t5',W',e⟩:=au0 (p:=m::a) (q:=[]) (y:=y) (t3:=t3) (t4:=t4) (t5:=t5) (t6:=t6) (t7:=t7) (t8:=t8) (t9:=aR) (H:=H) (W:=W) (cf:=cf) (.inr rfl) fl
  have hx:iI f (m::a) []=m::a:=by
   cases f with
   |zero=>simp at hf
   |succ f=>rfl
  rw[hx]at hr
  exact⟨_,_,e,by simp,rfl,m::a,[],_,_,_,_,_,_,_,_,_,_,rfl,hrl,hG,by rw[List.append_nil];exact hr⟩
 |m::a,k::b,ha,hb,hrl,hf,hr=>
  left
  obtain⟨f,rfl⟩:∃f',f=f'+1:=⟨f-1,by simp only[aTV]at hf;omega⟩
  have om:=ha m aT0
  have ok:=hb k aT0
  have ha':cK a:=fun x hx=>ha x (aT8 _ hx)
  have hb':cK b:=fun x hx=>hb x (aT8 _ hx)
  have e0:bS [eV m.a m.b m.c m.d,eV k.a k.b k.c k.d]=Z [sV (cmE m.a m.b m.c m.d k.a k.b k.c k.d)]:=aby
  rw[aB4]at e0
  simp only[aTV]at hrl hf
  cases g1:aZ m k with
  |true=>
   simp only[iI,g1]at hr e0
   obtain⟨y',t3',t5',t7',H',W',e,hG'⟩:=aRP (p:=a) (q:=b) (t3:=t3) (t4:=t4) (t5:=t5) (t6:=t6) (t7:=t7) (t8:=t8) (t9:=aR) (W:=W) hr' hG e0 c1 fl
   exact⟨_,_,e,⟨_,_,_,_,_,_,_,_,_,_,_,_,f,rfl,rfl,ha',hb,by simp only[aTW,aTV,aUf];omega,hG',by simp only[aTV];omega,by rw[aUr];exact hr⟩,by simp only[aTV];omega⟩
  |false=>
   cases g2:aZ k m with
   |true=>
    simp only[iI,g1,g2]at hr e0
    obtain⟨y',t3',t5',t7',t8',H',W',e,hG'⟩:=aRQ (p:=a) (q:=b) (t3:=t3) (t4:=t4) (t5:=t5) (t6:=t6) (t7:=t7) (t8:=t8) (t9:=aR) (W:=W) hr' hG e0 c1 fl
    exact⟨_,_,e,⟨_,_,_,_,_,_,_,_,_,_,_,_,f,rfl,rfl,ha,hb',by simp only[aTW,aTV,aUf];omega,hG',by simp only[aTV];omega,by rw[aUr];exact hr⟩,by simp only[aTV];omega⟩
   |false=>
    simp only[g1,g2]at e0
    have e1:=adZ om.q ok.q
    have e2:=agW om.q ok.q
    cases hz:co (m.q.add k.q).n 0 with
    |true=>
     simp only[iI,g1,g2,hz]at hr
     obtain⟨t3',t4',t5',t6',t7',t8',H',W',e,hG'⟩:=aRS (p:=a) (q:=b) (t3:=t3) (t4:=t4) (t5:=t5) (t6:=t6) (t7:=t7) (t8:=t8) (t9:=aR) (W:=W) hG e0 e1 e2 (by rw[gp hz];rfl) c1 c2 c3 fl
     exact⟨_,_,e,⟨_,_,_,_,_,_,_,_,_,_,_,_,f,rfl,rfl,ha',hb',by omega,hG',by omega,hr⟩,by simp only[aTV];omega⟩
    |false=>
     simp only[iI,g1,g2,hz]at hr
     obtain⟨y',t3',t4',t5',t6',t7',t8',H',W',e,hG'⟩:=aRR (p:=a) (q:=b) (t3:=t3) (t4:=t4) (t5:=t5) (t6:=t6) (t7:=t7) (t8:=t8) (t9:=aR) (W:=W) hr' hG e0 e1 e2 (by unfold bne;rw[sT (by intro e;rw[e]at hz;cases hz)];rfl) c1 c2 c3 fl
     exact⟨_,_,e,⟨_,_,_,_,_,_,_,_,_,_,_,_,f,rfl,rfl,ha',hb',by simp only[aTW,aTV,aUf];omega,hG',by omega,by rw[aUr];exact hr⟩,by simp only[aTV];omega⟩
def tMa  : Ft:=.n (.n .z 153 (.nat bn) U .z) 154 (.nat bS) U (.n .z 182 (.nat cV) U .z)
def aNo   {k:Cls}:tMa.Ok Tryz.prog k aH:=⟨⟨tv,oq,tv,tv⟩,qN,tv,⟨tv,wt,tv,tv⟩⟩
def ayM {p q:List Mn}(hp:PF p)(hq:PF q):bM (ao tMa.tb 10 8) ak afw.1 [pV p,pV q]=Z [pV (jA p q)]:=by
 have c1:CA (ao tMa.tb 10 8) 154 bS:=fun _ _ _=>rfl
 have c2:CA (ao tMa.tb 10 8) 153 bn:=fun _ _ _=>rfl
 have c3:CA (ao tMa.tb 10 8) 182 cV:=fun _ _ _=>rfl
 generalize ao tMa.tb 10 8=cf at*
 have lp:=hp.len
 have lq:=hq.len
 obtain⟨zs,hz⟩:=anQ ((p.length+q.length)*8)
 obtain⟨_,st',hl,_,rfl,a,b,y,t3,t4,t5,t6,t7,t8,H,W,r,rfl,hrl,hG,hr⟩:=bg (IMa p q) (fun s=>s) (QMa p q) (fun s st h=>ayL hp hq c1 c2 c3 ak s st h) ak (p.length+q.length) _
  ⟨p,q,.t (.one (.lsl 0 0 0 8)),.nil,.nil,.nil,.nil,.nil,.nil,[Z (.cells zs)],[],[],p.length+q.length,rfl,rfl,hp.ok,hq.ok,by simp,⟨by simp,.inr ⟨0,zs,aTS _,rfl,rfl,rfl⟩⟩,aTS _,rfl⟩ (eI (by omega))
 have hA1:=abL (by omega) a (by omega) H hG
 have hG1:=hG.many a
 have hA2:=abL (by rw[aTW];omega) b (by omega) _ hG1
 have hG2:=hG1.many b
 rw[aUr,hr]at hG2
 have hR:=hG2.res
 have f1:p.length+q.length<9223372036854775808:=by omega
 have f2:p.length+q.length≤1073741824:=by omega
 have f3:96*(p.length+q.length)≤70368744177664:=by omega
 simp(maxSteps:=9^9) only[au,seval,-ac,-ae,aP6,hl,hA1,hA2,f1,f2,f3,hz]
 exact uo hR
def yX {k:Cls}:Cn k 102 fG:=dG (ay aNo afw.2 10 ak 8) fun p q rs hp hq h=>by
 cases h;exact ayM hp hq
def clP:kU:=fk aqQ.1
def aEc {k:Cls}:CX k 231 clP:=nM (by kernel_rfl) aqQ.2 (fun _ _=>rfl) (fun _ _ _ _=>rfl)
def aEd {p:List Mn}(hl:p.length<10000000)(h0:p≠[])(H:Hp):∃W,clP [pT p] H []=Z (.t (.one (.lsl H.length 0 p.length 8)),H++[Z (.cells (pD p))],[],W):=by
 obtain⟨m,t,rfl⟩:∃m t,p=m::t:=by cases p with|nil=>exact absurd rfl h0|cons m t=>exact⟨m,t,rfl⟩
 have hA:=abL (n:=0) (y:=.t (.one .z0)) (r:=[]) (by simp) (m::t) (by omega) H ⟨Nat.zero_le _,.inl ⟨.inl rfl,rfl⟩⟩
 have e1:wc (pT (m::t))=aa:=rfl
 unfold clP fk
 simp only[e1]
 simp(maxSteps:=9^9) only[au,seval,-ac,-ae,aQ1,hA,se]
 exact⟨[],by simp only[abK,xT,kM,List.nil_append,aUf,aUe,aTV]⟩
def tMs  : Ft:=.n (.n .z 153 (.nat bn) U .z) 162 (.nat iE) U (.n .z 231 (.wnat clP) U .z)
def aNt   {k:Cls}:tMs.Ok Tryz.prog k aH:=⟨⟨tv,oq,tv,tv⟩,ach,tv,⟨tv,aEc,tv,tv⟩⟩
abbrev qD (c:Q):List D:=[.c (.v (.bool (aw c.n))),.c (.big (ap c.n)),.c (.v (.bool aa)),.c (.big c.d)]
abbrev qB (c:Q):Option Blk:=Z (.cells (qD c))
def aFo {ds ds' r:List D}{i n:Nat}{a c x:Q}(h1:i<n)(hn:n<10000000)(gl:i*8+4+4≤ds.length)(gd:ds.drop (i*8+4)=.c (.v (.bool (aw a.n)))::.c (.big (ap a.n))::.c (.v (.bool aa))::.c (.big a.d)::r)(gs:bF ds (i*8+4) [.c (.v (.bool (aw x.n))),.c (.big (ap x.n)),.c (.v (.bool aa)),.c (.big x.d)]=ds')
  (e1:iE [eQ a,eQ c]=Z [eQ x]){t1 t3 t6 t7 t8 t9:T}{W:List Nat}{cf:av}(c1:CA cf 162 iE)(fl:Nat):
  ∃t1' t3' W',am cf fl yy ⟨[iT i,t1,.t (.one (.lsl 1 0 n 8)),t3,.t (.one (.ptr 0 0)),iT n,t6,t7,t8,t9],[qB c,Z (.cells ds)],[],W,[]⟩=Z (.normal,⟨[iT (i+1),t1',.t (.one (.lsl 1 0 n 8)),t3',.t (.one (.ptr 0 0)),iT n,t6,t7,t8,t9],[qB c,Z (.cells ds')],[],W',[]⟩):=by
 have f1:i+1<9223372036854775808:=by omega
 simp(maxSteps:=9^9) only[au,seval,-ac,-ae,ase,ar,c1,e1,h1,f1,gl,gd,gs]
 exact⟨_,_,_,rfl⟩
def avb {ds:List D}{n:Nat}{c:Q}(hn:n<10000000){t1 t2 t3 t6 t7 t8 t9:T}{H:Hp}{W:List Nat}{cf:av}(fl:Nat):
  ∃t3',am cf fl yy ⟨[iT n,t1,t2,t3,.t (.one (.ptr 0 0)),iT n,t6,t7,t8,t9],H,[],W,[]⟩=Z (.exit 0,⟨[iT n,t1,t2,t3',.t (.one (.ptr 0 0)),iT n,t6,t7,t8,t9],H,[],W,[]⟩):=by
 simp(maxSteps:=9^9) only[au,seval,-ac,-ae,ase]
 exact⟨_,rfl⟩
def aGE (d t:List Mn)(m:Mn):(pD (d++m::t)).drop (d.length*8+4)=.c (.v (.bool (aw m.q.n)))::.c (.big (ap m.q.n))::.c (.v (.bool aa))::.c (.big m.q.d)::pD t:=by
 unfold pD
 rw[lJ,List.map_append,← List.drop_drop,← ou,show(pL d).length=(List.map D.c (pL d)).length by rw[List.length_map],List.drop_left]
 rfl
def aMy (d t:List Mn)(m:Mn)(x:Q):bF (pD (d++m::t)) (d.length*8+4) [.c (.v (.bool (aw x.n))),.c (.big (ap x.n)),.c (.v (.bool aa)),.c (.big x.d)]=pD (d++m.with x::t):=by
 have e1:pD (d++m::t)=(pD d++[D.c (eC m.a),D.c (eC m.b),D.c (eC m.c),D.c (eC m.d)])++([D.c (.v (.bool (aw m.q.n))),D.c (.big (ap m.q.n)),D.c (.v (.bool aa)),D.c (.big m.q.d)]++pD t):=by
  unfold pD;rw[lJ,List.map_append,aUr];rfl
 have e2:(pD d++[D.c (eC m.a),D.c (eC m.b),D.c (eC m.c),D.c (eC m.d)]).length=d.length*8+4:=by rw[aTW,gY];rfl
 unfold bF
 rw[e1,← e2,List.take_left,← List.drop_drop,List.drop_left]
 unfold pD
 rw[lJ,List.map_append,aUr,aUr]
 rfl
def apV {p:List Mn}{c:Q}(h:PF p)(hc:c.Ok):bM (ao tMs.tb 10 8) ak afI.1 [pV p,eQ c]=Z [pV (eG p c)]:=by
 have c1:CA (ao tMs.tb 10 8) 162 iE:=fun _ _ _=>rfl
 have c2:CA (ao tMs.tb 10 8) 153 bn:=fun _ _ _=>rfl
 have c3:∀x H S,ao tMs.tb 10 8 (fT 231) [x] H S=clP [x] H S:=fun _ _ _=>rfl
 generalize ao tMs.tb 10 8=cf at*
 have e1:=u9 hc
 have hlen:=h.len
 unfold eG cw
 cases hz:co c.n 0 with
 |true=>
  have z:(lL c.n==af 0)=ab:=by rw[gp hz];rfl
  simp(maxSteps:=9^9) only[au,seval,-ac,-ae,aw4,c2,e1,z,ar,io,hz]
  rfl
 |false=>
  have z:(lL c.n==af 0)=aa:=sT (by intro e;rw[e]at hz;cases hz)
  by_cases h0:p=[]
  ·subst h0
   have hcl:clP [pT []] [qB c] []=Z (.t (.one .z0),[qB c],[],[]):=rfl
   obtain⟨t3',e⟩:=avb (ds:=[]) (n:=0) (c:=c) (by omega) (t1:=.nil) (t2:=.t (.one .z0)) (t3:=.nil) (t6:=aR) (t7:=.t (.one (.c (.v (.bool aa))))) (t8:=pT []) (t9:=.t (.agg (qD c))) (H:=[qB c]) (W:=[]) (cf:=cf) ak
   have hl:=wo e
   simp(maxSteps:=9^9) only[au,seval,-ac,-ae,aw4,c2,c3,e1,z,ar,io,hz,hcl,hl]
   rfl
  ·obtain⟨W0,hcl⟩:=aEd h.len h0 [qB c]
   obtain⟨st',hl,t1,t3,W,rfl⟩:=bq (body:=am cf ak yy) (id:=0) p.length
    (fun i st=>∃t1 t3 W d t,d.length=i∧d++jp (io c) t=jp (io c) p∧t=p.drop i∧st=⟨[iT i,t1,.t (.one (.lsl 1 0 p.length 8)),t3,.t (.one (.ptr 0 0)),iT p.length,aR,.t (.one (.c (.v (.bool aa)))),pT p,.t (.agg (qD c))],[qB c,Z (.cells (pD (d++t)))],[],W,[]⟩)
    (fun st=>∃t1 t3 W,st=⟨[iT p.length,t1,.t (.one (.lsl 1 0 p.length 8)),t3,.t (.one (.ptr 0 0)),iT p.length,aR,.t (.one (.c (.v (.bool aa)))),pT p,.t (.agg (qD c))],[qB c,Z (.cells (pD (jp (io c) p)))],[],W,[]⟩)
    (fun i st hi=>by
     rintro⟨t1,t3,W,d,t,rfl,hr,ht,rfl⟩
     obtain⟨m,t',hm⟩:=bo hi
     rw[hm]at ht
     subst ht
     have hm':=h.ok m (aX hm)
     have gl:d.length*8+4+4≤(pD (d++m::t')).length:=by rw[gY,aTW,aTV];omega
     obtain⟨t1',t3',W',e⟩:=aFo (t1:=t1) (t3:=t3) (t6:=aR) (t7:=.t (.one (.c (.v (.bool aa))))) (t8:=pT p) (t9:=.t (.agg (qD c))) (W:=W) hi h.len gl (aGE d t' m) (aMy d t' m (m.q.mul c)) (akc hm'.q hc) c1 ak
     exact⟨_,e,_,_,_,d++[m.with (m.q.mul c)],t',by rw[aTW];rfl,by rw[aUr];exact hr,(bf hm).symm,by rw[aUr];rfl⟩)
    (fun st=>by
     rintro⟨t1,t3,W,d,t,hd,hr,ht,rfl⟩
     obtain⟨t3',e⟩:=avb (ds:=[]) (n:=p.length) (c:=c) h.len (t1:=t1) (t2:=.t (.one (.lsl 1 0 p.length 8))) (t3:=t3) (t6:=aR) (t7:=.t (.one (.c (.v (.bool aa))))) (t8:=pT p) (t9:=.t (.agg (qD c))) (H:=[qB c,Z (.cells (pD (d++t)))]) (W:=W) (cf:=cf) ak
     rw[aUg]at ht
     subst ht
     rw[jp]at hr
     exact⟨_,e,_,_,_,by rw[hr]⟩)
    ak _ ⟨.nil,.nil,W0,[],p,rfl,rfl,rfl,rfl⟩ (aN h.len)
   rw[List.nil_append]at hl
   have k1:p.length*8≤(pD (jp (io c) p)).length:=by rw[gY,jb];exact aTS _
   have k2:List.take (p.length*8) (pD (jp (io c) p))=pD (jp (io c) p):=by
    have:=afr (jp (io c) p)
    rw[jb]at this
    exact this
   show _=Z [pV (match co c.n 0 with|true=>[]|false=>jp (io c) p)]
   rw[hz]
   simp(maxSteps:=9^9) only[au,seval,-ac,-ae,aw4,c2,c3,e1,z,ar,hcl,hl,k1,k2,aaB]
   show _=Z [V1.one (C.sl (jp (io c) p).length (pL (jp (io c) p)))]
   rw[jb]
def pi {k:Cls}:Cn k 174 bI:=ata (ay aNt afI.2 10 ak 8) fun p c rs hp hc h=>by
 cases h;exact apV hp hc
def tMu  : Ft:=.n (.n .z 102 (.nat fG) U .z) 134 (.nat aW) U (.n .z 174 (.nat bI) U .z)
def aNu   {k:Cls}:tMu.Ok Tryz.prog k aH:=⟨⟨tv,yX,tv,tv⟩,gU,tv,⟨tv,pi,tv,tv⟩⟩
def avc {p q r s:List Mn}{c:Q}(e0:aW [sV (aT2 0)]=Z [eQ c])(e1:bI [pV q,eQ c]=Z [pV r])(e2:fG [pV p,pV r]=Z [pV s]):bM (ao tMu.tb 10 8) 10 aqf.1 [pV p,pV q]=Z [pV s]:=by
 simp(maxSteps:=9^9) only[au,seval,-ac,-ae,aP8,tMu,ar,e0,e1,e2]
def sA {k:Cls}:Cn k 104 cS:=dG (ay aNu aqf.2 10 10 8) fun p q rs hp hq h=>by
 cases h;exact avc (c:=q1n) rfl (ga hq aed) (uU hp (acr hq))
end
end Go.Proofs.YtfiijelajgifiaaGreat
