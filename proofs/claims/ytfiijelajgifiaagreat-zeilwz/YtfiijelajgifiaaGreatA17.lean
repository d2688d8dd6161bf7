/-
  Part 17 of the machine and of the contracts of functions of the program (packed).
-/
import Derived.Test.YtfiijelajgifiaaGreatA16
set_option linter.all false
set_option linter.defProp false
open Bool renaming false→aa,true→ab,and_eq_true→aTT,eq_iff_iff→aUp
open Int renaming reduceOfNat→ac,reduceNegSucc→ae,ofNat→af,negSucc→aT2,ofNat_eq_natCast→aT7
open List renaming getElem?_eq_some_iff→aTU,length_cons→aTV,length_append→aTW,mem_cons→aTZ,mem_cons_self→aT0,mem_cons_of_mem→aT8,drop_length→aUg,getElem?_set_ne→aUn,length_take→aUo,append_assoc→aUr,getElem?_append_left→aUs
open Nat renaming blt→ah,beq→ai,ble→aTQ,blt_eq→aTR,le_refl→aTS,gcd→aTY,eq_of_beq_eq_true→aT1,lt_or_ge→aT6,zero_add→aUe,lt_of_le_of_lt→aUh,lt_of_lt_of_le→aUj
open Option renaming some→Z,none→U
namespace Go.Proofs.YtfiijelajgifiaaGreat
noncomputable section
open Go Go.Mach Go.Flow
set_option maxRecDepth 100000
set_option maxHeartbeats 4000000
def wl0:IntKind.i64.wrap (af 0)=af 0:=by decide
def wl1:IntKind.i64.wrap (af 1)=af 1:=by decide
def wl2:IntKind.i64.wrap (af 2)=af 2:=by decide
def wl3:IntKind.i64.wrap (af 3)=af 3:=by decide
def wl4:IntKind.i64.wrap (af 4)=af 4:=by decide
def sg0 (a b c d x:D):bF [a,b,c,d] 0 [x]=[x,b,c,d]:=rfl
def sg1 (a b c d x:D):bF [a,b,c,d] 1 [x]=[a,x,c,d]:=rfl
def sg2 (a b c d x:D):bF [a,b,c,d] 2 [x]=[a,b,x,d]:=rfl
def sg3 (a b c d x:D):bF [a,b,c,d] 3 [x]=[a,b,c,x]:=rfl
def mA (a b c d e f g h a' b' c' d' e' f' g' h':D):bF [a,b,c,d,e,f,g,h] 0 [a',b',c',d',e',f',g',h']=[a',b',c',d',e',f',g',h']:=rfl
def sh0 (a b c d e f g h x:D):bF [a,b,c,d,e,f,g,h] 0 [x]=[x,b,c,d,e,f,g,h]:=rfl
def sh1 (a b c d e f g h x:D):bF [a,b,c,d,e,f,g,h] 1 [x]=[a,x,c,d,e,f,g,h]:=rfl
def sh2 (a b c d e f g h x:D):bF [a,b,c,d,e,f,g,h] 2 [x]=[a,b,x,d,e,f,g,h]:=rfl
def sh3 (a b c d e f g h x:D):bF [a,b,c,d,e,f,g,h] 3 [x]=[a,b,c,x,e,f,g,h]:=rfl
def sh4 (a b c d e f g h x y z w:D):bF [a,b,c,d,e,f,g,h] 4 [x,y,z,w]=[a,b,c,d,x,y,z,w]:=rfl
def aDv:ge (cW [.int .i64 (af 0),.int .i64 (af 0),.int .i64 (af 0),.int .i64 (af 0),.bool aa,.slice U 0 0,.bool aa,.slice U 0 0] 8)=
  Z [.c (.v (.int .i64 (af 0))),.c (.v (.int .i64 (af 0))),.c (.v (.int .i64 (af 0))),.c (.v (.int .i64 (af 0))),.c (.v (.bool aa)),.c (.v (.slice U 0 0)),.c (.v (.bool aa)),.c (.v (.slice U 0 0))]:=rfl
def rsX:=(aq (aq (aq (aq @wl0 @wl1) (aq @wl2 @wl3)) (aq (aq @wl4 @sg0) (aq @sg1 @sg2))) (aq (aq (aq @sg3 @mA) (aq @sh0 @sh1)) (aq (aq @sh2 @sh3) (aq @sh4 @aDv))))
def au:=aq xD rsX
def rsE:=aq rsA (aq rsC (aq rsG rsX))
def o3:=aq rsA (aq rsB (aq rsG rsX))
structure Mn where
 a:Nat
 b:Nat
 c:Nat
 d:Nat
 q:Q
abbrev eC (e:Nat):C:=.v (.int .i64 (af e))
abbrev mC (m:Mn):List C:=[eC m.a,eC m.b,eC m.c,eC m.d,.v (.bool (aw m.q.n)),.big (ap m.q.n),.v (.bool aa),.big m.q.d]
def pL:List Mn→List C
 |[]=>[]
 |m::p=>eC m.a::eC m.b::eC m.c::eC m.d::.v (.bool (aw m.q.n))::.big (ap m.q.n)::.v (.bool aa)::.big m.q.d::pL p
abbrev pC (p:List Mn):C:=.sl p.length (pL p)
abbrev pV (p:List Mn):V1:=.one (pC p)
abbrev pT (p:List Mn):T:=.t (.one (.c (pC p)))
def dH (m:Mn)(p:List Mn):pL (m::p)=eC m.a::eC m.b::eC m.c::eC m.d::.v (.bool (aw m.q.n))::.big (ap m.q.n)::.v (.bool aa)::.big m.q.d::pL p:=rfl
def ou:∀p,(pL p).length=p.length*8
 |[]=>rfl
 |m::p=>by simp only[pL,aTV,ou p];omega
def ant:∀(p:List Mn) (i:Nat),(pL p).drop (i*8)=pL (p.drop i)
 |[],i=>by simp[pL]
 |m::p,0=>rfl
 |m::p,i+1=>by
  rw[show(i+1)*8=i*8+8 by omega]
  simp only[pL,List.drop_succ_cons]
  exact ant p i
def bW {p r:List Mn}{m:Mn}{i:Nat}(h:p.drop i=m::r):(pL p).drop (i*8)=eC m.a::eC m.b::eC m.c::eC m.d::.v (.bool (aw m.q.n))::.big (ap m.q.n)::.v (.bool aa)::.big m.q.d::pL r:=by
 rw[ant,h,dH]
def aM {α:Type}{p r:List α}{m:α}{i:Nat}(h:p.drop i=m::r):i<p.length:=by
 rcases aT6 i p.length with h'|h'
 ·exact h'
 ·rw[List.drop_eq_nil_of_le h']at h;cases h
def bf {α:Type}{p r:List α}{m:α}{i:Nat}(h:p.drop i=m::r):p.drop (i+1)=r:=by
 rw[← List.drop_drop,h];rfl
def aX {α:Type}{p r:List α}{m:α}{i:Nat}(h:p.drop i=m::r):m∈p:=List.mem_of_mem_drop (i:=i) (by rw[h];exact aT0)
def lJ:∀p r,pL (p++r)=pL p++pL r
 |[],r=>rfl
 |m::p,r=>by simp only[List.cons_append,pL,lJ p r]
structure Mn.Ok (m:Mn):Prop where
 a:m.a<1073741824
 b:m.b<1073741824
 c:m.c<1073741824
 d:m.d<1073741824
 q:m.q.Ok
def cK (p:List Mn):Prop:=∀m∈p,m.Ok
def uj (a b c d:Nat):Bool:=ah a 1073741824&&(ah b 1073741824&&(ah c 1073741824&&ah d 1073741824))
def dM:C→C→C→C→C→C→C→C→Option Mn
 |.v (.int .i64 (.ofNat a)),.v (.int .i64 (.ofNat b)),.v (.int .i64 (.ofNat c)),.v (.int .i64 (.ofNat d)),c5,c6,c7,c8=>(match uj a b c d,dQ c5 c6 c7 c8 with|true,Z q=>Z ⟨a,b,c,d,q⟩|_,_=>U)
 |_,_,_,_,_,_,_,_=>U
def adf {c1 c2 c3 c4 c5 c6 c7 c8:C}{m:Mn}(h:dM c1 c2 c3 c4 c5 c6 c7 c8=Z m):[c1,c2,c3,c4,c5,c6,c7,c8]=mC m∧m.Ok:=by
 unfold dM at h
 split at h
 ·split at h
  ·rename_i a b c d c5 c6 c7 c8 q hx hq
   cases h
   obtain⟨rfl,rfl,rfl,rfl,hk⟩:=ao7 hq
   unfold uj at hx
   simp only[aTT,aTR]at hx
   exact⟨rfl,hx.1,hx.2.1,hx.2.2.1,hx.2.2.2,hk⟩
  ·cases h
 ·cases h
def aiT {m:Mn}(h:m.Ok):dM (eC m.a) (eC m.b) (eC m.c) (eC m.d) (.v (.bool (aw m.q.n))) (.big (ap m.q.n)) (.v (.bool aa)) (.big m.q.d)=Z m:=by
 have hx:uj m.a m.b m.c m.d=ab:=by unfold uj;simp only[aTT,aTR];exact⟨h.a,h.b,h.c,h.d⟩
 simp only[dM,hx,axE h.q]
def dP:List C→Option (List Mn)
 |[]=>Z []
 |c1::c2::c3::c4::c5::c6::c7::c8::r=>(match dM c1 c2 c3 c4 c5 c6 c7 c8,dP r with|some m,Z p=>Z (m::p)|_,_=>U)
 |_=>U
def ao6:∀(p:List Mn) (cs:List C),dP cs=Z p→cs=pL p∧cK p
 |p,[],h=>by cases h;exact⟨rfl,fun m hm=>by cases hm⟩
 |p,c1::c2::c3::c4::c5::c6::c7::c8::r,h=>by
  unfold dP at h
  split at h
  ·rename_i m p' h1 h2
   cases h
   obtain⟨e1,o1⟩:=adf h1
   obtain⟨e2,o2⟩:=ao6 p' r h2
   injection e1 with a1 e1;injection e1 with a2 e1;injection e1 with a3 e1;injection e1 with a4 e1;injection e1 with a5 e1;injection e1 with a6 e1;injection e1 with a7 e1;injection e1 with a8 _
   subst a1 a2 a3 a4 a5 a6 a7 a8 e2
   exact⟨rfl,fun m' hm=>by
    rcases aTZ.1 hm with rfl|hm
    ·exact o1
    ·exact o2 _ hm⟩
  ·cases h
def axD:∀p,cK p→dP (pL p)=Z p
 |[],_=>rfl
 |m::p,h=>by
  unfold pL dP
  rw[aiT (h m aT0),axD p (fun x hx=>h x (aT8 _ hx))]
def gz:V1→Option (List Mn)
 |.one (.sl n cs)=>(match dP cs with|some p=>(match ai n p.length&&ah n 10000000 with|true=>Z p|false=>U)|none=>U)
 |_=>U
def eH {v:V1}{p:List Mn}(h:gz v=Z p):v=pV p∧cK p∧p.length<10000000:=by
 unfold gz at h
 split at h
 ·split at h
  ·rename_i q hq
   split at h
   ·rename_i hc
    cases h
    rw[aTT,aTR]at hc
    obtain⟨rfl,ho⟩:=ao6 _ _ hq
    have:=aT1 hc.1
    subst this
    exact⟨rfl,ho,hc.2⟩
   ·cases h
  ·cases h
 ·cases h
def iy {p:List Mn}(h:cK p)(hl:p.length<10000000):gz (pV p)=Z p:=by
 have hc:(ai p.length p.length&&ah p.length 10000000)=ab:=by rw[aTT,aTR];exact⟨Nat.beq_refl _,hl⟩
 simp only[gz,axD p h,hc]
def Mn.ex (m:Mn)(v:Nat):Nat:=match v with|0=>m.a|1=>m.b|2=>m.c|_=>m.d
def mxN (a b:Nat):Nat:=match aTQ a b with|true=>b|false=>a
def rZ (v:Nat):List Mn→Nat→Nat
 |[],o=>o
 |m::p,o=>rZ v p (mxN o (m.ex v+1))
def dg (v:Nat)(p:List Mn):Nat:=rZ v p 0
def m1 (k:Nat):Int:=match k with|0=>aT2 0|k+1=>af k
def aj2 (a b:Nat):mxN a b=max a b:=by
 unfold mxN
 cases h:aTQ a b with
 |true=>have:=Nat.le_of_ble_eq_true h;show b=_;omega
 |false=>
  have:¬a≤b:=fun hh=>by rw[Nat.ble_eq_true_of_le hh]at h;cases h
  show a=_;omega
def ajG:m1 0=aT2 0:=rfl
def gD (k:Nat):m1 k=(k:Int)-1:=by
 cases k with
 |zero=>rfl
 |succ k=>show(k:Int)=_;omega
def auR (o e:Nat):(if af e>m1 o then af e else m1 o)=m1 (mxN o (e+1)):=by
 rw[aj2,gD,gD]
 simp only[aT7]
 split<;>omega
abbrev jT (z:Int):T:=.t (.one (.c (.v (.int .i64 z))))
def axF {p r:List Mn}{m:Mn}{i v o:Nat}(hv:v<4)(hi:p.drop i=m::r)(hl:p.length<10000000){t3 t5:T}{E:Hp}{W:List Nat}(cf:av)(fl:Nat):
  ∃t3' E' W',am cf fl yu ⟨[iT i,jT (m1 o),pT p,t3,iT v,t5],E,[],W,[]⟩=Z (.normal,⟨[iT (i+1),jT (m1 (mxN o (m.ex v+1))),pT p,t3',iT v,t5],E',[],W',[]⟩):=by
 have hd:=bW hi
 have h1:=aM hi
 have e1:i+1<9223372036854775808:=by omega
 have hv':v=0∨v=1∨v=2∨v=3:=by omega
 rcases hv' with rfl|rfl|rfl|rfl<;>
  (simp(maxSteps:=9^9) only[az,seval,-ac,-ae,ar8,Mn.ex,h1,hd,e1,auR,bk,bx])
 all_goals exact⟨_,_,_,rfl⟩
def aN {n:Nat}(h:n<10000000):n<ak:=pU (by
 have:=ol (k:=32) (x:=n) (Nat.lt_trans h (by decide)) (by omega)
 omega)
def eI {n:Nat}(h:n<4294967296):n<ak:=pU (by
 have:=ol (k:=32) (x:=n) (aUj h (by decide)) (by omega)
 omega)
def aEr {p:List Mn}{v o:Nat}(hl:p.length<10000000){t3 t5:T}{E:Hp}{W:List Nat}(cf:av)(fl:Nat):
  ∃t3',am cf fl yu ⟨[iT p.length,jT (m1 o),pT p,t3,iT v,t5],E,[],W,[]⟩=Z (.exit 0,⟨[iT p.length,jT (m1 o),pT p,t3',iT v,t5],E,[],W,[]⟩):=by
 simp(maxSteps:=9^9) only[az,seval,-ac,-ae,ar8]
 exact⟨_,rfl⟩
def bo {α:Type}{p:List α}{i:Nat}(h:i<p.length):∃m r,p.drop i=m::r:=⟨_,_,List.drop_eq_getElem_cons h⟩
def aEs {p:List Mn}{v:Nat}(hv:v<4)(hl:p.length<10000000){cf:av}:bM cf ak afx.1 [pV p,sV (af v)]=Z [sV (m1 (dg v p))]:=by
 obtain⟨st',h,o,t3,E,W,rfl,hd⟩:=bq (body:=am cf ak yu) (id:=0) p.length
  (fun i st=>∃o t3 E W,st=⟨[iT i,jT (m1 o),pT p,t3,iT v,iT 0],E,[],W,[]⟩∧rZ v (p.drop i) o=dg v p)
  (fun st=>∃o t3 E W,st=⟨[iT p.length,jT (m1 o),pT p,t3,iT v,iT 0],E,[],W,[]⟩∧o=dg v p)
  (fun i st hi=>by
   rintro⟨o,t3,E,W,rfl,hd⟩
   obtain⟨m,r,hm⟩:=bo hi
   obtain⟨t3',E',W',e⟩:=axF (o:=o) (t3:=t3) (t5:=iT 0) (E:=E) (W:=W) hv hm hl cf ak
   rw[hm,rZ]at hd
   exact⟨_,e,_,_,_,_,rfl,by rw[bf hm];exact hd⟩)
  (fun st=>by
   rintro⟨o,t3,E,W,rfl,hd⟩
   obtain⟨t3',e⟩:=aEr (p:=p) (v:=v) (o:=o) (t3:=t3) (t5:=iT 0) (E:=E) (W:=W) hl cf ak
   rw[aUg,rZ]at hd
   exact⟨_,e,_,_,_,_,rfl,hd⟩)
  ak _ ⟨0,.nil,[],[],rfl,rfl⟩ (aN hl)
 subst hd
 rw[ajG]at h
 simp(maxSteps:=9^9) only[az,seval,-ac,-ae,aQc,h]
def pg1 (f:List Mn→Option (List V1)):List V1→Option (List V1)
 |[x]=>match gz x with|some p=>f p|none=>U
 |_=>U
def kI (f:List Mn→List Mn→Option (List V1)):List V1→Option (List V1)
 |[x,y]=>match gz x,gz y with|some p,Z r=>f p r|_,_=>U
 |_=>U
def sO (f:List Mn→Nat→Option (List V1)):List V1→Option (List V1)
 |[x,.one (.v (.int .i64 (.ofNat v)))]=>match gz x,ah v 4 with|some p,ab=>f p v|_,_=>U
 |_=>U
def wF (f:List Mn→List Mn→Nat→Option (List V1)):List V1→Option (List V1)
 |[x,y,.one (.v (.int .i64 (.ofNat v)))]=>match gz x,gz y,ah v 4 with|some p,Z r,ab=>f p r v|_,_,_=>U
 |_=>U
def pgq (f:List Mn→Q→Option (List V1)):List V1→Option (List V1)
 |[x,y]=>match gz x,xB y with|some p,Z a=>f p a|_,_=>U
 |_=>U
structure PF (p:List Mn):Prop where
 ok:cK p
 len:p.length<10000000
def aqa {f:List Mn→Option (List V1)}{p:List Mn}(h:PF p):pg1 f [pV p]=f p:=by simp only[pg1,iy h.ok h.len]
def i7 {f:List Mn→List Mn→Option (List V1)}{p r:List Mn}(h:PF p)(h':PF r):kI f [pV p,pV r]=f p r:=by simp only[kI,iy h.ok h.len,iy h'.ok h'.len]
def wG {f:List Mn→Nat→Option (List V1)}{p:List Mn}{v:Nat}(h:PF p)(hv:v<4):sO f [pV p,sV (af v)]=f p v:=by
 have hb:ah v 4=ab:=by rw[aTR];exact hv
 simp only[sO,iy h.ok h.len,hb]
def zo {f:List Mn→List Mn→Nat→Option (List V1)}{p r:List Mn}{v:Nat}(h:PF p)(h':PF r)(hv:v<4):wF f [pV p,pV r,sV (af v)]=f p r v:=by
 have hb:ah v 4=ab:=by rw[aTR];exact hv
 simp only[wF,iy h.ok h.len,iy h'.ok h'.len,hb]
def aO8 {f:List Mn→Q→Option (List V1)}{p:List Mn}{a:Q}(h:PF p)(ha:a.Ok):pgq f [pV p,eQ a]=f p a:=by simp only[pgq,iy h.ok h.len,aee ha]
section
variable {k:Cls} {g:FuncId} {m:List V1→Option (List V1)}
def tT {f:List Mn→Option (List V1)}(hm:Cn k g m)(h:∀p rs,PF p→f p=Z rs→m [pV p]=Z rs):Cn k g (pg1 f):=aC hm fun al rs e=>by
 unfold pg1 at e
 split at e
 ·split at e
  ·rename_i hx
   obtain⟨rfl,h1,h2⟩:=eH hx
   exact h _ _ ⟨h1,h2⟩ e
  ·cases e
 ·cases e
def dG {f:List Mn→List Mn→Option (List V1)}(hm:Cn k g m)(h:∀p r rs,PF p→PF r→f p r=Z rs→m [pV p,pV r]=Z rs):Cn k g (kI f):=aC hm fun al rs e=>by
 unfold kI at e
 split at e
 ·split at e
  ·rename_i hx hy
   obtain⟨rfl,h1,h2⟩:=eH hx
   obtain⟨rfl,h3,h4⟩:=eH hy
   exact h _ _ _ ⟨h1,h2⟩ ⟨h3,h4⟩ e
  ·cases e
 ·cases e
def lU {f:List Mn→Nat→Option (List V1)}(hm:Cn k g m)(h:∀p v rs,PF p→v<4→f p v=Z rs→m [pV p,sV (af v)]=Z rs):Cn k g (sO f):=aC hm fun al rs e=>by
 unfold sO at e
 split at e
 ·split at e
  ·rename_i hx hv
   obtain⟨rfl,h1,h2⟩:=eH hx
   rw[aTR]at hv
   exact h _ _ _ ⟨h1,h2⟩ hv e
  ·cases e
 ·cases e
def tU {f:List Mn→List Mn→Nat→Option (List V1)}(hm:Cn k g m)(h:∀p r v rs,PF p→PF r→v<4→f p r v=Z rs→m [pV p,pV r,sV (af v)]=Z rs):Cn k g (wF f):=aC hm fun al rs e=>by
 unfold wF at e
 split at e
 ·split at e
  ·rename_i hx hy hv
   obtain⟨rfl,h1,h2⟩:=eH hx
   obtain⟨rfl,h3,h4⟩:=eH hy
   rw[aTR]at hv
   exact h _ _ _ _ ⟨h1,h2⟩ ⟨h3,h4⟩ hv e
  ·cases e
 ·cases e
def ata {f:List Mn→Q→Option (List V1)}(hm:Cn k g m)(h:∀p a rs,PF p→a.Ok→f p a=Z rs→m [pV p,eQ a]=Z rs):Cn k g (pgq f):=aC hm fun al rs e=>by
 unfold pgq at e
 split at e
 ·split at e
  ·rename_i hx hy
   obtain⟨rfl,h1,h2⟩:=eH hx
   obtain⟨rfl,h3⟩:=zQ hy
   exact h _ _ _ ⟨h1,h2⟩ h3 e
  ·cases e
 ·cases e
end
def a9:=sO fun p v=>Z [sV (m1 (dg v p))]
def lh {k:Cls}:Cn k 112 a9:=lU (ay (t:=.z) trivial afx.2 10 ak 8) fun p v rs h hv e=>by
 cases e;exact aEs hv h.len
def cv {p:List Mn}{v:Nat}(h:PF p)(hv:v<4):a9 [pV p,sV (af v)]=Z [sV (m1 (dg v p))]:=wG h hv
abbrev eV (a b c d:Nat):V1:=.agg [eC a,eC b,eC c,eC d]
def oW (a b c d a' b' c' d':Nat):Bool:=
 match ai d d' with
 |false=>ah d' d
 |true=>match ai c c' with
  |false=>ah c' c
  |true=>match ai b b' with
   |false=>ah b' b
   |true=>ah a' a
def cz:List V1→Option (List V1)
 |[.agg [.v (.int .i64 (.ofNat a)),.v (.int .i64 (.ofNat b)),.v (.int .i64 (.ofNat c)),.v (.int .i64 (.ofNat d))],.agg [.v (.int .i64 (.ofNat a')),.v (.int .i64 (.ofNat b')),.v (.int .i64 (.ofNat c')),.v (.int .i64 (.ofNat d'))]]=>Z [bV (oW a b c d a' b' c' d')]
 |_=>U
def ac1 {a b:Nat}(h:ai a b=aa):(a==b)=aa:=by rw[← vg];exact h
def ac2 {a b:Nat}(h:ai a b=aa):(a != b)=ab:=by unfold bne;rw[ac1 h];rfl
def adQ (a b:Nat):decide (a<b)=ah a b:=by rw[aUp,decide_eq_true_eq,aTR]
def alW {a b c d a' b' c' d':Nat}{cf:av}:bM cf 10 afz.1 [eV a b c d,eV a' b' c' d']=Z [bV (oW a b c d a' b' c' d')]:=by
 unfold oW
 cases h1:ai d d' with
 |false=>simp(maxSteps:=9^9) only[au,seval,-ac,-ae,aG,ah4,xH,ac2 h1,adQ]
 |true=>
  have h1:=aT1 h1
  subst h1
  cases h2:ai c c' with
  |false=>simp(maxSteps:=9^9) only[au,seval,-ac,-ae,aG,ah4,xH,ac2 h2,adQ]
  |true=>
   have h2:=aT1 h2
   subst h2
   cases h3:ai b b' with
   |false=>simp(maxSteps:=9^9) only[au,seval,-ac,-ae,aG,ah4,xH,ac2 h3,adQ]
   |true=>
    have h3:=aT1 h3
    subst h3
    cases h4:ai a a' with
    |false=>simp(maxSteps:=9^9) only[au,seval,-ac,-ae,aG,ah4,xH,ac2 h4,adQ]
    |true=>
     have h4:=aT1 h4
     subst h4
     have e:aTQ a.succ a=aa:=by cases h:aTQ a.succ a with|false=>rfl|true=>have:=Nat.le_of_ble_eq_true h;omega
     simp(maxSteps:=9^9) only[au,seval,-ac,-ae,aG,ah4,xH,e]
def zU {k:Cls}:Cn k 138 cz:=aC (ay (t:=.z) trivial afz.2 10 10 8) fun al rs h=>by
 unfold cz at h
 split at h
 ·cases h;exact alW
 ·cases h
def iX {a b c d a' b' c' d':Nat}:cz [eV a b c d,eV a' b' c' d']=Z [bV (oW a b c d a' b' c' d')]:=rfl
def iO (z:Int):Bool:=match z with|.ofNat _=>ab|.negSucc _=>aa
abbrev zE (a b c d:Int):V1:=.agg [.v (.int .i64 a),.v (.int .i64 b),.v (.int .i64 c),.v (.int .i64 d)]
def aY:List V1→Option (List V1)
 |[.agg [.v (.int .i64 a),.v (.int .i64 b),.v (.int .i64 c),.v (.int .i64 d)]]=>Z [bV (iO a&&(iO b&&(iO c&&iO d)))]
 |_=>U
def ado (z:Int):decide (z≥af 0)=iO z:=by
 cases z with
 |ofNat n=>simp[iO]
 |negSucc n=>simp only[aCZ,iO];rfl
def al2 {a b c d:Int}{cf:av}:bM cf 10 aqn.1 [zE a b c d]=Z [bV (iO a&&(iO b&&(iO c&&iO d)))]:=by
 cases h1:iO a<;>cases h2:iO b<;>cases h3:iO c<;>cases h4:iO d<;>simp(maxSteps:=9^9) only[au,seval,-ac,-ae,aQk,ado,h1,h2,h3,h4]
def rG {k:Cls}:Cn k 135 aY:=aC (ay (t:=.z) trivial aqn.2 10 10 8) fun al rs h=>by
 unfold aY at h
 split at h
 ·cases h;exact al2
 ·cases h
abbrev pD (p:List Mn):List D:=(pL p).map .c
def GotP (n:Nat)(H:Hp)(y:T)(r:List Mn):Prop:=
 n≤H.length∧(((y=.t (.one .z0)∨y=.t (.one (.c (.v (.slice U 0 0)))))∧r=[])∨∃b ds,n≤b∧y=.t (.one (.lsl b 0 r.length 8))∧H[b]?=Z (Z (.cells ds))∧ds.take (r.length*8)=pD r)
def GotP.snoc {n:Nat}{H:Hp}{y:T}{r:List Mn}(h:GotP n H y r)(x:Option Blk):GotP n (H++[x]) y r:=by
 obtain⟨hn,h⟩:=h
 refine⟨by rw[aTW];omega,?_⟩
 rcases h with h|⟨b,ds,hb0,hy,hb,hd⟩
 ·exact .inl h
 ·exact .inr ⟨b,ds,hb0,hy,by rw[aUs (aTU.1 hb).1];exact hb,hd⟩
def gY (p:List Mn):(pD p).length=p.length*8:=by rw[List.length_map,ou]
def afr (p:List Mn):(pD p).take (p.length*8)=pD p:=by rw[← gY];exact List.take_length
def ni {ds:List D}{r:List Mn}(h:ds.take (r.length*8)=pD r):r.length*8≤ds.length:=by
 have:=congrArg List.length h
 rw[aUo,gY]at this
 omega
def fU {H:Hp}{i:Nat}{z:Option Blk}(h:H[i]?=Z z)(x:Option Blk):(H++[x])[i]?=Z z:=by
 rw[aUs (aTU.1 h).1];exact h
def kM (y:T)(H:Hp):Hp:=match y with|.t (.one (.lsl b _ _ _))=>H.set b U|_=>H
def apT (H:Hp)(r:List Mn):T:=.t (.one (.lsl H.length 0 (r.length+1) 8))
def lw (H:Hp)(y:T)(r:List Mn)(m:Mn):Hp:=kM y H++[Z (.cells (pD (r++[m])))]
def dV (y:T)(H:Hp):(kM y H).length=H.length:=by
 unfold kM
 split
 ·exact List.length_set
 ·rfl
def GotP.next {n:Nat}{H:Hp}{y:T}{r:List Mn}(h:GotP n H y r)(m:Mn):GotP n (lw H y r m) (apT H r) (r++[m]):=by
 have hk:=dV y H
 refine⟨by unfold lw;rw[aTW,hk];have:=h.1;omega,.inr ⟨H.length,pD (r++[m]),h.1,by unfold apT;rw[aTW];rfl,?_,afr _⟩⟩
 unfold lw
 rw[← hk,List.getElem?_append_right (aTS _),Nat.sub_self]
 rfl
def GotP.keep {n:Nat}{H:Hp}{y:T}{r:List Mn}(h:GotP n H y r)(m:Mn){i:Nat}(hi:i<n):(lw H y r m)[i]?=H[i]?:=by
 have hk:=dV y H
 have h1:=h.1
 unfold lw
 rw[aUs (by omega)]
 rcases h.2 with⟨rfl|rfl,_⟩|⟨b,ds,hb,rfl,_⟩
 ·rfl
 ·rfl
 ·exact aUn (by omega)
abbrev mD (m:Mn):List D:=[.c (eC m.a),.c (eC m.b),.c (eC m.c),.c (eC m.d),.c (.v (.bool (aw m.q.n))),.c (.big (ap m.q.n)),.c (.v (.bool aa)),.c (.big m.q.d)]
def aFV (r:List Mn)(m:Mn):pD (r++[m])=pD r++mD m:=by
 unfold pD
 rw[lJ,List.map_append];rfl
def dS {n:Nat}{y:T}{r:List Mn}(hr:r.length<100000000)(m:Mn)(x:T)(H:Hp)(hx:ch H 8 x=Z (1,mD m))(h:GotP n H y r):bJ 8 96 H [] y x=Z (apT H r,lw H y r m):=by
 have e3:r.length+1≤2 ^ 30:=by omega
 have e4:(r.length+1)*96≤2 ^ 46:=by omega
 unfold bJ
 rw[hx]
 rcases h.2 with⟨rfl|rfl,rfl⟩|⟨b,ds,_,rfl,hb,h3⟩
 ·rfl
 ·rfl
 ·have h2:=ni h3
  simp only[hb,h2,e3,e4,h3,List.not_mem_nil,not_false_eq_true,and_self,and_true,true_and,↓reduceIte,Nat.one_ne_zero]
  simp only[apT,lw,kM,aFV]
  simp
def adp (y:T):List Nat:=match y with|.t (.one (.lsl b _ _ _))=>[b]|_=>[]
def aaB (H:Hp)(k:Nat):∀p:List Mn,kg (fz H k) (pD p)=Z (pL p,[])
 |[]=>rfl
 |m::p=>by
  have h1:=aaB H k p
  simp only[pD,dH,List.map_cons]at h1 ⊢
  cases k<;>simp only[kg,fz,h1,asV,asT,asU,List.nil_append]
def GotP.res {n:Nat}{H:Hp}{y:T}{r:List Mn}(h:GotP n H y r):li H y=Z ([pV r],adp y):=by
 rcases h.2 with⟨rfl|rfl,rfl⟩|⟨b,ds,_,rfl,hb,h3⟩
 ·rfl
 ·rfl
 ·have h1:=ni h3
  have h2:(ds.drop 0).take (r.length*8)=pD r:=by rw[List.drop_zero];exact h3
  simp only[li,oS,nu,fz,hb,aUe,h1,h2,aaB,↓reduceIte,adp]
def Mn.mul (m k:Mn):Mn:=⟨m.a+k.a,m.b+k.b,m.c+k.c,m.d+k.d,m.q.mul k.q⟩
def tTm  : Ft:=.n (.n .z 137 (.nat bn) U .z) 219 (.nat iE) U .z
def aNQ   {k:Cls}:tTm.Ok Tryz.prog k aH:=⟨⟨tv,sS,tv,tv⟩,aAB,tv,tv⟩
abbrev mB (m:Mn):Option Blk:=Z (.cells (mD m))
def arR {p t r:List Mn}{m k:Mn}{i:Nat}{sg:Int}{x:Q}(hm:m.Ok)(hk:k.Ok)(hi:p.drop i=m::t)(hl:p.length<10000000)(hr:r.length<100000000){t0 t1 t2 y t7 t8 t9:T}{H:Hp}{W:List Nat}{cf:av}(h0:H[0]?=Z (mB k))(hG:GotP 1 H y r)
  (e1:bn [eQ k.q]=Z [sV sg])(z:(sg != af 0)=ab)(e2:iE [eQ m.q,eQ k.q]=Z [eQ x])
  (c1:CA cf 137 bn)(c2:CA cf 219 iE):
  ∃t0' t1' t2' y' t7' H' W',am cf ak uy ⟨[t0,t1,t2,.t (.one (.ptr 0 0)),iT i,pT p,y,t7,t8,t9],H,[],W,[]⟩=Z (.normal,⟨[t0',t1',t2',.t (.one (.ptr 0 0)),iT (i+1),pT p,y',t7',t8,t9],H',[],W',[]⟩)∧H'[0]?=Z (mB k)∧GotP 1 H' y' (r++[⟨m.a+k.a,m.b+k.b,m.c+k.c,m.d+k.d,x⟩]):=by
 have hd:=bW hi
 have h1:=aM hi
 have f1:i+1<9223372036854775808:=by omega
 have a1:=hm.a;have a2:=hm.b;have a3:=hm.c;have a4:=hm.d
 have b1:=hk.a;have b2:=hk.b;have b3:=hk.c;have b4:=hk.d
 have g1:m.a+k.a<9223372036854775808:=by omega
 have g2:m.b+k.b<9223372036854775808:=by omega
 have g3:m.c+k.c<9223372036854775808:=by omega
 have g4:m.d+k.d<9223372036854775808:=by omega
 have gA:∀(H':Hp),H'[0]?=Z (mB k)→∀x,(H'++[x])[0]?=Z (mB k):=fun H' h x=>fU h x
 have gG:∀(H':Hp),GotP 1 H' y r→∀x,GotP 1 (H'++[x]) y r:=fun H' h x=>h.snoc x
 have hA:=fun(H':Hp) (x':T) (hx:ch H' 8 x'=Z (1,mD ⟨m.a+k.a,m.b+k.b,m.c+k.c,m.d+k.d,x⟩)) (h:GotP 1 H' y r)=>dS hr ⟨m.a+k.a,m.b+k.b,m.c+k.c,m.d+k.d,x⟩ x' H' hx h
 obtain⟨g,hg⟩:∃g,ak=g+6:=⟨ak-6,by have:=aN (n:=10) (by omega);omega⟩
 rw[hg]
 simp(maxSteps:=9^9) only[au,seval,-ac,-ae,aG,acN,aHL,ar,c1,c2,e1,e2,z,h1,hd,f1,g1,g2,g3,g4,h0,gA,gG,hG,hA,bk,bx]
 exact⟨_,_,_,_,_,_,_,rfl,((hG.snoc _).keep _ (by omega)).trans (gA _ h0 _),(hG.snoc _).next _⟩
def awR {p:List Mn}(hl:p.length<10000000){t0 t1 t2 t3 y t7 t8 t9:T}{H:Hp}{W:List Nat}{cf:av}(fl:Nat):
  ∃t7',am cf fl uy ⟨[t0,t1,t2,t3,iT p.length,pT p,y,t7,t8,t9],H,[],W,[]⟩=Z (.exit 0,⟨[t0,t1,t2,t3,iT p.length,pT p,y,t7',t8,t9],H,[],W,[]⟩):=by
 simp(maxSteps:=9^9) only[au,seval,-ac,-ae,acN]
 exact⟨_,rfl⟩
def arS {p:List Mn}{k:Mn}{sg:Int}(hl:p.length<10000000){t0 t1 t2 y t7 t8 t9:T}{H:Hp}{W:List Nat}{cf:av}(h0:H[0]?=Z (mB k))
  (e1:bn [eQ k.q]=Z [sV sg])(z:(sg != af 0)=aa)(c1:CA cf 137 bn)(fl:Nat):
  ∃t7' W',am cf fl uy ⟨[t0,t1,t2,.t (.one (.ptr 0 0)),iT 0,pT p,y,t7,t8,t9],H,[],W,[]⟩=Z (.exit 0,⟨[t0,t1,t2,.t (.one (.ptr 0 0)),iT 0,pT p,y,t7',t8,t9],H,[],W',[]⟩):=by
 by_cases h1:0<p.length
 ·simp(maxSteps:=9^9) only[au,seval,-ac,-ae,acN,ar,c1,e1,z,h0,h1]
  exact⟨_,_,rfl⟩
 ·have h1:(0<p.length)=False:=eq_false h1
  simp(maxSteps:=9^9) only[au,seval,-ac,-ae,acN,ar,c1,e1,z,h0,h1]
  exact⟨_,_,rfl⟩
def jp (k:Mn):List Mn→List Mn
 |[]=>[]
 |m::p=>m.mul k::jp k p
def jb (k:Mn):∀p,(jp k p).length=p.length
 |[]=>rfl
 |m::p=>by rw[jp,aTV,aTV,jb k p]
def cw (p:List Mn)(k:Mn):List Mn:=match co k.q.n 0 with|true=>[]|false=>jp k p
def gy:List V1→Option (List V1)
 |[x,.agg [c1,c2,c3,c4,c5,c6,c7,c8]]=>match gz x,dM c1 c2 c3 c4 c5 c6 c7 c8 with|some p,Z k=>Z [pV (cw p k)]|_,_=>U
 |_=>U
def uo {H:Hp}{y:T}{rs:List V1}{bs:List Nat}(h:li H y=Z (rs,bs)):(match li H y with|some (rs,_)=>Z rs|none=>U)=Z rs:=by rw[h]
def wo {body:St→Option (X × St)}{st st':St}{id:Nat}(h:body st=Z (.exit id,st')):aG body ak st=Z (.exit id,st'):=by
 obtain⟨g,hg⟩:∃g,ak=g+1:=⟨ak-1,by have:=aN (n:=10) (by omega);omega⟩
 rw[hg,aG,h]
def arn {p:List Mn}{k:Mn}(h:PF p)(hk:k.Ok):bM (ao tTm.tb 10 8) ak zD.1 [pV p,.agg (mC k)]=Z [pV (cw p k)]:=by
 have c1:CA (ao tTm.tb 10 8) 137 bn:=fun _ _ _=>rfl
 have c2:CA (ao tTm.tb 10 8) 219 iE:=fun _ _ _=>rfl
 generalize ao tTm.tb 10 8=cf at*
 have e1:=u9 hk.q
 cases hz:co k.q.n 0 with
 |true=>
  have z:(lL k.q.n != af 0)=aa:=by rw[gp hz];rfl
  obtain⟨t7',W',hl⟩:=arS (p:=p) (t0:=.nil) (t1:=.nil) (t2:=.nil) (y:=.t (.one .z0)) (t7:=.nil) (t8:=.t (.one (.c (.v (.slice U 0 0))))) (t9:=.t (.agg (mD k))) (H:=[mB k]) (W:=[]) h.len rfl e1 z c1 ak
  have hL:=wo hl
  simp(maxSteps:=9^9) only[au,seval,-ac,-ae,aHK,hL,aDv,cw,hz,pL]
  rfl
 |false=>
  have z:(lL k.q.n != af 0)=ab:=by
   unfold bne
   rw[sT (by intro e;rw[e]at hz;cases hz)];rfl
  obtain⟨st',hl,t0,t1,t2,y,t7,r,H,W,rfl,h0,hG,hr⟩:=bq (body:=am cf ak uy) (id:=0) p.length
   (fun i st=>∃t0 t1 t2 y t7 r H W,st=⟨[t0,t1,t2,.t (.one (.ptr 0 0)),iT i,pT p,y,t7,.t (.one (.c (.v (.slice U 0 0)))),.t (.agg (mD k))],H,[],W,[]⟩∧H[0]?=Z (mB k)∧GotP 1 H y r∧r++jp k (p.drop i)=jp k p)
   (fun st=>∃t0 t1 t2 y t7 r H W,st=⟨[t0,t1,t2,.t (.one (.ptr 0 0)),iT p.length,pT p,y,t7,.t (.one (.c (.v (.slice U 0 0)))),.t (.agg (mD k))],H,[],W,[]⟩∧H[0]?=Z (mB k)∧GotP 1 H y r∧r=jp k p)
   (fun i st hi=>by
    rintro⟨t0,t1,t2,y,t7,r,H,W,rfl,h0,hG,hr⟩
    obtain⟨m,t,hm⟩:=bo hi
    have hm':=h.ok m (aX hm)
    have hrl:r.length<100000000:=by
     have:=congrArg List.length hr
     rw[aTW,jb,jb]at this
     have:=h.len
     omega
    obtain⟨t0',t1',t2',y',t7',H',W',e,h0',hG'⟩:=arR (t0:=t0) (t1:=t1) (t2:=t2) (t7:=t7) (t8:=.t (.one (.c (.v (.slice U 0 0))))) (t9:=.t (.agg (mD k))) (W:=W) hm' hk hm h.len hrl h0 hG e1 z (akc hm'.q hk.q) c1 c2
    rw[hm,jp]at hr
    exact⟨_,e,_,_,_,_,_,_,_,_,rfl,h0',hG',by rw[bf hm,aUr];exact hr⟩)
   (fun st=>by
    rintro⟨t0,t1,t2,y,t7,r,H,W,rfl,h0,hG,hr⟩
    obtain⟨t7',e⟩:=awR (p:=p) (t0:=t0) (t1:=t1) (t2:=t2) (t3:=.t (.one (.ptr 0 0))) (y:=y) (t7:=t7) (t8:=.t (.one (.c (.v (.slice U 0 0))))) (t9:=.t (.agg (mD k))) (H:=H) (W:=W) (cf:=cf) h.len ak
    rw[aUg,jp,List.append_nil]at hr
    exact⟨_,e,_,_,_,_,_,_,_,_,rfl,h0,hG,hr⟩)
   ak _ ⟨.nil,.nil,.nil,.t (.one .z0),.nil,[],[mB k],[],rfl,rfl,⟨aTS _,.inl ⟨.inl rfl,rfl⟩⟩,rfl⟩ (aN h.len)
  have hR:=hG.res
  subst hr
  have hq:cw p k=jp k p:=by unfold cw;rw[hz]
  rw[hq]
  simp(maxSteps:=9^9) only[au,seval,-ac,-ae,aHK,hl]
  exact uo hR
def wR {k:Cls}:Cn k 155 gy:=aC (ay aNQ zD.2 10 ak 8) fun al rs e=>by
 unfold gy at e
 split at e
 ·split at e
  ·rename_i hx hy
   obtain⟨rfl,h1,h2⟩:=eH hx
   obtain⟨h3,h4⟩:=adf hy
   cases e
   rw[h3]
   exact arn ⟨h1,h2⟩ h4
  ·cases e
 ·cases e
def acl {p:List Mn}{k:Mn}(h:PF p)(hk:k.Ok):gy [pV p,.agg (mC k)]=Z [pV (cw p k)]:=by
 simp only[gy,iy h.ok h.len,aiT hk]
def aZ (m k:Mn):Bool:=oW m.a m.b m.c m.d k.a k.b k.c k.d
def Mn.with (m:Mn)(q:Q):Mn:=⟨m.a,m.b,m.c,m.d,q⟩
def iI:Nat→List Mn→List Mn→List Mn
 |0,_,_=>[]
 |f+1,p,q=>match p with
  |[]=>q
  |m::p'=>match q with
   |[]=>p
   |k::q'=>match aZ m k with
    |true=>m::iI f p' q
    |false=>match aZ k m with
     |true=>k::iI f p q'
     |false=>match co (m.q.add k.q).n 0 with
      |true=>iI f p' q'
      |false=>m.with (m.q.add k.q)::iI f p' q'
def jA (p q:List Mn):List Mn:=iI (p.length+q.length) p q
def tAd2  : Ft:=.n (.n .z 137 (.nat bn) U .z) 138 (.nat cz) U (.n .z 157 (.nat cV) U .z)
def aGU   {k:Cls}:tAd2.Ok Tryz.prog k aH:=⟨⟨tv,sS,tv,tv⟩,zU,tv,⟨tv,akP,tv,tv⟩⟩
section
variable {p q t t' r:List Mn} {m k:Mn} {i j:Nat} {y t5 t6 t7 t8 t9 t10:T} {H:Hp} {W:List Nat} {cf:av}
def ot {i:Nat}{n:Nat}(h:i<n):(i==n)=aa:=by simp only[beq_eq_false_iff_ne,ne_eq];omega
def aRr (hi:p.drop i=m::t)(hl:p.length<10000000)(hr:r.length<100000000)(hG:GotP 0 H y r)(fl:Nat):
  ∃y' t6' t7' H' W',am cf fl me ⟨[iT i,iT q.length,pT p,y,pT q,t5,t6,t7,t8,t9,t10],H,[],W,[]⟩=Z (.normal,⟨[iT (i+1),iT q.length,pT p,y',pT q,t5,t6',t7',t8,t9,t10],H',[],W',[]⟩)∧GotP 0 H' y' (r++[m]):=by
 have hd:=bW hi
 have h1:=aM hi
 have f1:i+1<9223372036854775808:=by omega
 have hA:=fun(H':Hp) (x':T) (hx:ch H' 8 x'=Z (1,mD m)) (h:GotP 0 H' y r)=>dS hr m x' H' hx h
 simp(maxSteps:=9^9) only[au,seval,-ac,-ae,vD,ar,h1,hd,f1,hG,hA,bk,bx]
 exact⟨_,_,_,_,_,rfl,hG.next _⟩
def aRt (hj:q.drop j=m::t)(hl:q.length<10000000)(hr:r.length<100000000)(hG:GotP 0 H y r)(fl:Nat):
  ∃y' t6' t7' t8' H' W',am cf fl me ⟨[iT p.length,iT j,pT p,y,pT q,t5,t6,t7,t8,t9,t10],H,[],W,[]⟩=Z (.normal,⟨[iT p.length,iT (j+1),pT p,y',pT q,t5,t6',t7',t8',t9,t10],H',[],W',[]⟩)∧GotP 0 H' y' (r++[m]):=by
 have hd:=bW hj
 have h1:=aM hj
 have f1:j+1<9223372036854775808:=by omega
 have f2:=ot h1
 have hA:=fun(H':Hp) (x':T) (hx:ch H' 8 x'=Z (1,mD m)) (h:GotP 0 H' y r)=>dS hr m x' H' hx h
 simp(maxSteps:=9^9) only[au,seval,-ac,-ae,vD,ar,h1,hd,f1,f2,hG,hA,bk,bx]
 exact⟨_,_,_,_,_,_,rfl,hG.next _⟩
def aRs (hi:p.drop i=m::t)(hj:q.drop j=k::t')(hl:p.length<10000000)(hl':q.length<10000000)(hr:r.length<100000000)(hG:GotP 0 H y r)(hg:aZ m k=ab)
  (c1:CA cf 138 cz)(fl:Nat):
  ∃y' t6' t7' H' W',am cf fl me ⟨[iT i,iT j,pT p,y,pT q,t5,t6,t7,t8,t9,t10],H,[],W,[]⟩=Z (.normal,⟨[iT (i+1),iT j,pT p,y',pT q,t5,t6',t7',t8,t9,t10],H',[],W',[]⟩)∧GotP 0 H' y' (r++[m]):=by
 have hd:=bW hi
 have h1:=aM hi
 have hd':=bW hj
 have h1':=aM hj
 have f1:i+1<9223372036854775808:=by omega
 have f2:=ot h1'
 have hg:cz [eV m.a m.b m.c m.d,eV k.a k.b k.c k.d]=Z [bV ab]:=by rw[iX];unfold aZ at hg;rw[hg]
 have hA:=fun(H':Hp) (x':T) (hx:ch H' 8 x'=Z (1,mD m)) (h:GotP 0 H' y r)=>dS hr m x' H' hx h
 simp(maxSteps:=9^9) only[au,seval,-ac,-ae,vD,ar,c1,hg,h1,hd,h1',hd',f1,f2,hG,hA,bk,bx]
 exact⟨_,_,_,_,_,rfl,hG.next _⟩
def aRu (hi:p.drop i=m::t)(hj:q.drop j=k::t')(hl:p.length<10000000)(hl':q.length<10000000)(hr:r.length<100000000)(hG:GotP 0 H y r)(hg:aZ m k=aa)(hg':aZ k m=ab)
  (c1:CA cf 138 cz)(fl:Nat):
  ∃y' t6' t7' t8' H' W',am cf fl me ⟨[iT i,iT j,pT p,y,pT q,t5,t6,t7,t8,t9,t10],H,[],W,[]⟩=Z (.normal,⟨[iT i,iT (j+1),pT p,y',pT q,t5,t6',t7',t8',t9,t10],H',[],W',[]⟩)∧GotP 0 H' y' (r++[k]):=by
 have hd:=bW hi
 have h1:=aM hi
 have hd':=bW hj
 have h1':=aM hj
 have f1:j+1<9223372036854775808:=by omega
 have f2:=ot h1'
 have f3:=ot h1
 have hg:cz [eV m.a m.b m.c m.d,eV k.a k.b k.c k.d]=Z [bV aa]:=by rw[iX];unfold aZ at hg;rw[hg]
 have hg':cz [eV k.a k.b k.c k.d,eV m.a m.b m.c m.d]=Z [bV ab]:=by rw[iX];unfold aZ at hg';rw[hg']
 have hA:=fun(H':Hp) (x':T) (hx:ch H' 8 x'=Z (1,mD k)) (h:GotP 0 H' y r)=>dS hr k x' H' hx h
 simp(maxSteps:=9^9) only[au,seval,-ac,-ae,vD,ar,c1,hg,hg',h1,hd,h1',hd',f1,f2,f3,hG,hA,bk,bx]
 exact⟨_,_,_,_,_,_,rfl,hG.next _⟩
def aRv {sg:Int}{x:Q}(hi:p.drop i=m::t)(hj:q.drop j=k::t')(hl:p.length<10000000)(hl':q.length<10000000)(hr:r.length<100000000)(hG:GotP 0 H y r)(hg:aZ m k=aa)(hg':aZ k m=aa)(e1:cV [eQ m.q,eQ k.q]=Z [eQ x])(e2:bn [eQ x]=Z [sV sg])(z:(sg != af 0)=ab)
  (c1:CA cf 138 cz)(c2:CA cf 137 bn)(c3:CA cf 157 cV)(fl:Nat):
  ∃y' t5' t6' t7' t8' t9' H' W',am cf fl me ⟨[iT i,iT j,pT p,y,pT q,t5,t6,t7,t8,t9,t10],H,[],W,[]⟩=Z (.normal,⟨[iT (i+1),iT (j+1),pT p,y',pT q,t5',t6',t7',t8',t9',t10],H',[],W',[]⟩)∧GotP 0 H' y' (r++[m.with x]):=by
 have hd:=bW hi
 have h1:=aM hi
 have hd':=bW hj
 have h1':=aM hj
 have f0:i+1<9223372036854775808:=by omega
 have f1:j+1<9223372036854775808:=by omega
 have f2:=ot h1'
 have f3:=ot h1
 have hg:cz [eV m.a m.b m.c m.d,eV k.a k.b k.c k.d]=Z [bV aa]:=by rw[iX];unfold aZ at hg;rw[hg]
 have hg':cz [eV k.a k.b k.c k.d,eV m.a m.b m.c m.d]=Z [bV aa]:=by rw[iX];unfold aZ at hg';rw[hg']
 have gG:∀(H':Hp),GotP 0 H' y r→∀x,GotP 0 (H'++[x]) y r:=fun H' h x=>h.snoc x
 have hA:=fun(H':Hp) (x':T) (hx:ch H' 8 x'=Z (1,mD (m.with x))) (h:GotP 0 H' y r)=>dS hr (m.with x) x' H' hx h
 simp only[Mn.with]at hA
 simp(maxSteps:=9^9) only[au,seval,-ac,-ae,vD,ar,c1,c2,c3,e1,e2,z,hg,hg',h1,hd,h1',hd',f0,f1,f2,f3,hG,gG,hA,bk,bx]
 exact⟨_,_,_,_,_,_,_,_,rfl,(hG.snoc _).next _⟩
def aRw {sg:Int}{x:Q}(hi:p.drop i=m::t)(hj:q.drop j=k::t')(hl:p.length<10000000)(hl':q.length<10000000)(hG:GotP 0 H y r)(hg:aZ m k=aa)(hg':aZ k m=aa)(e1:cV [eQ m.q,eQ k.q]=Z [eQ x])(e2:bn [eQ x]=Z [sV sg])(z:(sg != af 0)=aa)
  (c1:CA cf 138 cz)(c2:CA cf 137 bn)(c3:CA cf 157 cV)(fl:Nat):
  ∃t5' t6' t7' t8' t9' H' W',am cf fl me ⟨[iT i,iT j,pT p,y,pT q,t5,t6,t7,t8,t9,t10],H,[],W,[]⟩=Z (.normal,⟨[iT (i+1),iT (j+1),pT p,y,pT q,t5',t6',t7',t8',t9',t10],H',[],W',[]⟩)∧GotP 0 H' y r:=by
 have hd:=bW hi
 have h1:=aM hi
 have hd':=bW hj
 have h1':=aM hj
 have f0:i+1<9223372036854775808:=by omega
 have f1:j+1<9223372036854775808:=by omega
 have f2:=ot h1'
 have f3:=ot h1
 have hg:cz [eV m.a m.b m.c m.d,eV k.a k.b k.c k.d]=Z [bV aa]:=by rw[iX];unfold aZ at hg;rw[hg]
 have hg':cz [eV k.a k.b k.c k.d,eV m.a m.b m.c m.d]=Z [bV aa]:=by rw[iX];unfold aZ at hg';rw[hg']
 simp(maxSteps:=9^9) only[au,seval,-ac,-ae,vD,ar,c1,c2,c3,e1,e2,z,hg,hg',h1,hd,h1',hd',f0,f1,f2,f3,bk,bx]
 exact⟨_,_,_,_,_,_,_,rfl,hG.snoc _⟩
def aIp (hl:p.length<10000000)(hl':q.length<10000000)(fl:Nat):
  ∃t6' W',am cf fl me ⟨[iT p.length,iT q.length,pT p,y,pT q,t5,t6,t7,t8,t9,t10],H,[],W,[]⟩=Z (.exit 0,⟨[iT p.length,iT q.length,pT p,y,pT q,t5,t6',t7,t8,t9,t10],H,[],W',[]⟩):=by
 simp(maxSteps:=9^9) only[au,seval,-ac,-ae,vD,ar]
 exact⟨_,_,rfl⟩
end
def aDM (f:Nat)(q:List Mn):iI (f+1) [] q=q:=rfl
def aix (f:Nat)(p:List Mn):iI (f+1) p []=p:=by cases p<;>rfl
def axd (f:Nat):iI f [] []=[]:=by cases f<;>rfl
def IAd (p q:List Mn)(t10:T)(s:Nat × Nat)(st:St):Prop:=
 ∃y t5 t6 t7 t8 t9 H W r f,st=⟨[iT s.1,iT s.2,pT p,y,pT q,t5,t6,t7,t8,t9,t10],H,[],W,[]⟩∧s.1≤p.length∧s.2≤q.length∧r.length≤s.1+s.2∧GotP 0 H y r∧(p.length-s.1)+(q.length-s.2)≤f∧r++iI f (p.drop s.1) (q.drop s.2)=jA p q
def axf {p q:List Mn}{t10:T}(hp:PF p)(hq:PF q){cf:av}(c1:CA cf 138 cz)(c2:CA cf 137 bn)(c3:CA cf 157 cV)(fl:Nat)(s:Nat × Nat)(st:St)(h:IAd p q t10 s st):
  (∃s' st',am cf fl me st=Z (.normal,st')∧IAd p q t10 s' st'∧(p.length-s'.1)+(q.length-s'.2)<(p.length-s.1)+(q.length-s.2))∨
  (∃x st',am cf fl me st=Z (x,st')∧x≠.normal∧x=.exit 0∧∃y t5 t6 t7 t8 t9 H W,st'=⟨[iT p.length,iT q.length,pT p,y,pT q,t5,t6,t7,t8,t9,t10],H,[],W,[]⟩∧GotP 0 H y (jA p q)):=by
 obtain⟨i,j⟩:=s
 obtain⟨y,t5,t6,t7,t8,t9,H,W,r,f,rfl,hi,hj,hrl,hG,hf,hr⟩:=h
 have lp:=hp.len
 have lq:=hq.len
 dsimp only at*
 have hr':r.length<100000000:=by omega
 rcases aT6 i p.length with h1|h1
 ·obtain⟨m,t,hm⟩:=bo h1
  obtain⟨f,rfl⟩:∃f',f=f'+1:=⟨f-1,by omega⟩
  left
  rcases aT6 j q.length with h2|h2
  ·obtain⟨k,t',hk⟩:=bo h2
   rw[hm,hk]at hr
   have om:=hp.ok m (aX hm)
   have ok:=hq.ok k (aX hk)
   cases g1:aZ m k with
   |true=>
    simp only[iI,g1]at hr
    obtain⟨y',t6',t7',H',W',e,hG'⟩:=aRs (t5:=t5) (t6:=t6) (t7:=t7) (t8:=t8) (t9:=t9) (t10:=t10) (W:=W) hm hk lp lq hr' hG g1 c1 fl
    refine⟨(i+1,j),_,e,⟨_,_,_,_,_,_,_,_,_,f,rfl,by dsimp only;omega,hj,by rw[aTW,List.length_singleton];dsimp only;omega,hG',by dsimp only;omega,?_⟩,by dsimp only;omega⟩
    dsimp only
    rw[bf hm,hk,aUr];exact hr
   |false=>
    cases g2:aZ k m with
    |true=>
     simp only[iI,g1,g2]at hr
     obtain⟨y',t6',t7',t8',H',W',e,hG'⟩:=aRu (t5:=t5) (t6:=t6) (t7:=t7) (t8:=t8) (t9:=t9) (t10:=t10) (W:=W) hm hk lp lq hr' hG g1 g2 c1 fl
     refine⟨(i,j+1),_,e,⟨_,_,_,_,_,_,_,_,_,f,rfl,hi,by dsimp only;omega,by rw[aTW,List.length_singleton];dsimp only;omega,hG',by dsimp only;omega,?_⟩,by dsimp only;omega⟩
     dsimp only
     rw[bf hk,hm,aUr];exact hr
    |false=>
     have e1:=adZ om.q ok.q
     have e2:=agW om.q ok.q
     cases hz:co (m.q.add k.q).n 0 with
     |true=>
      simp only[iI,g1,g2,hz]at hr
      obtain⟨t5',t6',t7',t8',t9',H',W',e,hG'⟩:=aRw (t5:=t5) (t6:=t6) (t7:=t7) (t8:=t8) (t9:=t9) (t10:=t10) (W:=W) hm hk lp lq hG g1 g2 e1 e2 (by rw[gp hz];rfl) c1 c2 c3 fl
      refine⟨(i+1,j+1),_,e,⟨_,_,_,_,_,_,_,_,_,f,rfl,by dsimp only;omega,by dsimp only;omega,by dsimp only;omega,hG',by dsimp only;omega,?_⟩,by dsimp only;omega⟩
      dsimp only
      rw[bf hk,bf hm];exact hr
     |false=>
      simp only[iI,g1,g2,hz]at hr
      obtain⟨y',t5',t6',t7',t8',t9',H',W',e,hG'⟩:=aRv (t5:=t5) (t6:=t6) (t7:=t7) (t8:=t8) (t9:=t9) (t10:=t10) (W:=W) hm hk lp lq hr' hG g1 g2 e1 e2 (by unfold bne;rw[sT (by intro e;rw[e]at hz;cases hz)];rfl) c1 c2 c3 fl
      refine⟨(i+1,j+1),_,e,⟨_,_,_,_,_,_,_,_,_,f,rfl,by dsimp only;omega,by dsimp only;omega,by rw[aTW,List.length_singleton];dsimp only;omega,hG',by dsimp only;omega,?_⟩,by dsimp only;omega⟩
      dsimp only
      rw[bf hk,bf hm,aUr];exact hr
  ·obtain rfl:j=q.length:=by omega
   rw[hm,aUg,aix]at hr
   obtain⟨y',t6',t7',H',W',e,hG'⟩:=aRr (q:=q) (t5:=t5) (t6:=t6) (t7:=t7) (t8:=t8) (t9:=t9) (t10:=t10) (W:=W) (cf:=cf) hm lp hr' hG fl
   have hx:iI f (p.drop (i+1)) []=t:=by
    rw[bf hm]
    cases f with
    |zero=>
     have:t.length=0:=by
      have:=congrArg List.length hm
      rw[List.length_drop,aTV]at this
      omega
     rw[List.length_eq_zero_iff.1 this];rfl
    |succ f=>exact aix f t
   refine⟨(i+1,q.length),_,e,⟨_,_,_,_,_,_,_,_,_,f,rfl,by dsimp only;omega,hj,by rw[aTW,List.length_singleton];dsimp only;omega,hG',by dsimp only;omega,?_⟩,by dsimp only;omega⟩
   dsimp only
   rw[aUg,hx,aUr];exact hr
 ·obtain rfl:i=p.length:=by omega
  rcases aT6 j q.length with h2|h2
  ·left
   obtain⟨f,rfl⟩:∃f',f=f'+1:=⟨f-1,by omega⟩
   obtain⟨k,t',hk⟩:=bo h2
   rw[hk,aUg,aDM]at hr
   obtain⟨y',t6',t7',t8',H',W',e,hG'⟩:=aRt (p:=p) (t5:=t5) (t6:=t6) (t7:=t7) (t8:=t8) (t9:=t9) (t10:=t10) (W:=W) (cf:=cf) hk lq hr' hG fl
   have hx:iI f [] (q.drop (j+1))=t':=by
    rw[bf hk]
    cases f with
    |zero=>
     have:t'.length=0:=by
      have:=congrArg List.length hk
      rw[List.length_drop,aTV]at this
      omega
     rw[List.length_eq_zero_iff.1 this];rfl
    |succ f=>rfl
   refine⟨(p.length,j+1),_,e,⟨_,_,_,_,_,_,_,_,_,f,rfl,hi,by dsimp only;omega,by rw[aTW,List.length_singleton];dsimp only;omega,hG',by dsimp only;omega,?_⟩,by dsimp only;omega⟩
   dsimp only
   rw[aUg,hx,aUr];exact hr
  ·obtain rfl:j=q.length:=by omega
   right
   obtain⟨t6',W',e⟩:=aIp (p:=p) (q:=q) (y:=y) (t5:=t5) (t6:=t6) (t7:=t7) (t8:=t8) (t9:=t9) (t10:=t10) (H:=H) (W:=W) (cf:=cf) lp lq fl
   rw[aUg,aUg,axd,List.append_nil]at hr
   exact⟨_,_,e,by simp,rfl,_,_,_,_,_,_,_,_,rfl,by rw[← hr];exact hG⟩
def aAH {p q:List Mn}(hp:PF p)(hq:PF q):bM (ao tAd2.tb 10 8) ak q78.1 [pV p,pV q]=Z [pV (jA p q)]:=by
 have c1:CA (ao tAd2.tb 10 8) 138 cz:=fun _ _ _=>rfl
 have c2:CA (ao tAd2.tb 10 8) 137 bn:=fun _ _ _=>rfl
 have c3:CA (ao tAd2.tb 10 8) 157 cV:=fun _ _ _=>rfl
 generalize ao tAd2.tb 10 8=cf at*
 have lp:=hp.len
 have lq:=hq.len
 obtain⟨_,st',hl,_,rfl,y,t5,t6,t7,t8,t9,H,W,rfl,hG⟩:=bg (IAd p q (.t (.one (.c (.v (.slice U 0 0)))))) (fun s=>(p.length-s.1)+(q.length-s.2)) (fun x st'=>x=.exit 0∧∃y t5 t6 t7 t8 t9 H W,st'=⟨[iT p.length,iT q.length,pT p,y,pT q,t5,t6,t7,t8,t9,.t (.one (.c (.v (.slice U 0 0))))],H,[],W,[]⟩∧GotP 0 H y (jA p q))
  (fun s st h=>axf hp hq c1 c2 c3 ak s st h) ak (0,0) _ ⟨.t (.one .z0),.nil,.nil,.nil,.nil,.nil,[],[],[],p.length+q.length,rfl,Nat.zero_le _,Nat.zero_le _,Nat.zero_le _,⟨aTS _,.inl ⟨.inl rfl,rfl⟩⟩,by simp,rfl⟩
  (eI (by show p.length-0+(q.length-0)<_;omega))
 have hR:=hG.res
 simp(maxSteps:=9^9) only[au,seval,-ac,-ae,E78,hl]
 exact uo hR
def fG:=kI fun p q=>Z [pV (jA p q)]
def uU {p q:List Mn}(hp:PF p)(hq:PF q):fG [pV p,pV q]=Z [pV (jA p q)]:=i7 hp hq
def zS {k:Cls}:Cn k 78 fG:=dG (ay aGU q78.2 10 ak 8) fun p q rs hp hq h=>by
 cases h;exact aAH hp hq
def gS (m:Mn):Bool:=uj m.a m.b m.c m.d&&Q.okB (ap m.q.n) m.q.d
def afs:List Mn→Bool
 |[]=>ab
 |m::p=>match gS m with|true=>afs p|false=>aa
def dN (p:List Mn):Bool:=match ah p.length 10000000 with|true=>afs p|false=>aa
def avw {a:Q}(h:Q.okB (ap a.n) a.d=ab):a.Ok:=by
 unfold Q.okB at h
 rw[aTT,aTT,aTR,aTR,aTR]at h
 exact⟨h.1,h.2.1,h.2.2⟩
def jR {m:Mn}(h:gS m=ab):m.Ok:=by
 unfold gS uj at h
 simp only[aTT,aTR]at h
 exact⟨h.1.1,h.1.2.1,h.1.2.2.1,h.1.2.2.2,avw h.2⟩
def anu:∀{p:List Mn},afs p=ab→cK p
 |[],_=>fun m hm=>by cases hm
 |m::p,h=>by
  unfold afs at h
  split at h
  ·rename_i h1
   intro m' hm
   rcases aTZ.1 hm with rfl|hm
   ·exact jR h1
   ·exact anu h m' hm
  ·cases h
def gB {p:List Mn}(h:dN p=ab):PF p:=by
 unfold dN at h
 split at h
 ·rename_i h1
  rw[aTR]at h1
  exact⟨anu h,h1⟩
 ·cases h
def jm:PF []:=⟨fun m hm=>(List.not_mem_nil hm).elim,by show 0<_;omega⟩
def io (c:Q):Mn:=⟨0,0,0,0,c⟩
def eG (p:List Mn)(c:Q):List Mn:=cw p (io c)
def aKC {c:Q}(h:c.Ok):(io c).Ok:=⟨by show 0<_;omega,by show 0<_;omega,by show 0<_;omega,by show 0<_;omega,h⟩
def tSc  : Ft:=.n .z 155 (.nat gy) U .z
def aNL   {k:Cls}:tSc.Ok Tryz.prog k aH:=⟨tv,wR,tv,tv⟩
def ars {p r:List Mn}{c:Q}(e:gy [pV p,.agg (mC (io c))]=Z [pV r]):bM (ao tSc.tb 10 8) 10 q84.1 [pV p,eQ c]=Z [pV r]:=by
 simp only[io]at e
 simp(maxSteps:=9^9) only[au,seval,-ac,-ae,E84,tSc,ar,e]
def bI:=pgq fun p c=>Z [pV (eG p c)]
def ga {p:List Mn}{c:Q}(hp:PF p)(hc:c.Ok):bI [pV p,eQ c]=Z [pV (eG p c)]:=aO8 hp hc
def pF {k:Cls}:Cn k 84 bI:=ata (ay aNL q84.2 10 10 8) fun p c rs hp hc h=>by
 cases h;exact ars (acl hp (aKC hc))
def aFe (n:Int){d:Nat}(h:0<d):0<(Q.low n d).d:=by
 show 0<d/aTY (ap n) d
 exact Nat.div_pos (Nat.le_of_dvd h (Nat.gcd_dvd_right _ _)) (Nat.gcd_pos_of_pos_right _ h)
def q1n:Q:=Q.whole (aT2 0)
def aed:q1n.Ok:=aBH (by decide)
def aFJ {a:Q}(h:a.Ok):(a.mul q1n).Ok:=by
 have h1:=auK (a.n*aT2 0) (a.d*1)
 have e:ap (a.n*aT2 0)=ap a.n:=by rw[dF];show ap a.n*1=_;omega
 rw[e,Nat.mul_one]at h1
 exact⟨aUh (bR (by have:=h1.1;unfold Q.mul q1n Q.whole;rw[Nat.mul_one];exact this)) h.n,aUh (bR (by have:=h1.2;unfold Q.mul q1n Q.whole;rw[Nat.mul_one];exact this)) h.d,by unfold Q.mul q1n Q.whole;rw[Nat.mul_one];exact aFe _ h.p⟩
def aNV {k:Mn}{p:List Mn}(h:∀m∈p,(m.mul k).Ok):cK (jp k p):=by
 induction p with
 |nil=>exact fun m hm=>by cases hm
 |cons m p ih=>
  intro m' hm
  rw[jp]at hm
  rcases aTZ.1 hm with rfl|hm
  ·exact h m aT0
  ·exact ih (fun x hx=>h x (aT8 _ hx)) m' hm
def ap9 (p:List Mn):List Mn:=eG p q1n
def acr {p:List Mn}(h:PF p):PF (ap9 p):=by
 show PF (cw p (io q1n))
 have e:cw p (io q1n)=jp (io q1n) p:=rfl
 rw[e]
 exact⟨aNV fun m hm=>by
  have:=h.ok m hm
  exact⟨this.a,this.b,this.c,this.d,aFJ this.q⟩,by rw[jb];exact h.len⟩
def fX (p q:List Mn):List Mn:=jA p (ap9 q)
def tSu  : Ft:=.n (.n .z 65 (.nat aW) U .z) 78 (.nat fG) U (.n .z 84 (.nat bI) U .z)
def aNO   {k:Cls}:tSu.Ok Tryz.prog k aH:=⟨⟨tv,gZ,tv,tv⟩,zS,tv,⟨tv,pF,tv,tv⟩⟩
def aBo {p q r s:List Mn}{c:Q}(e0:aW [sV (aT2 0)]=Z [eQ c])(e1:bI [pV q,eQ c]=Z [pV r])(e2:fG [pV p,pV r]=Z [pV s]):bM (ao tSu.tb 10 8) 10 aqj.1 [pV p,pV q]=Z [pV s]:=by
 simp(maxSteps:=9^9) only[au,seval,-ac,-ae,aQg,tSu,ar,e0,e1,e2]
def cS:=kI fun p q=>Z [pV (fX p q)]
def ve {p q:List Mn}(hp:PF p)(hq:PF q):cS [pV p,pV q]=Z [pV (fX p q)]:=i7 hp hq
def ahi {k:Cls}:Cn k 119 cS:=dG (ay aNO aqj.2 10 10 8) fun p q rs hp hq h=>by
 cases h;exact aBo (c:=q1n) rfl (ga hq aed) (uU hp (acr hq))
def mlO (p:List Mn):List Mn→List Mn→Option (List Mn)
 |[],o=>Z o
 |m::q,o=>match dN (cw p m)with
  |true=>(match dN (jA o (cw p m))with|true=>mlO p q (jA o (cw p m))|false=>U)
  |false=>U
def cE (p q:List Mn):Option (List Mn):=mlO p q []
def YP (y:T)(r:List Mn):Prop:=(y=.t (.one .z0)∧r=[])∨y=pT r
def tMl  : Ft:=.n (.n .z 78 (.nat fG) U .z) 155 (.nat gy) U .z
def aNq   {k:Cls}:tMl.Ok Tryz.prog k aH:=⟨⟨tv,zS,tv,tv⟩,wR,tv,tv⟩
def qS {p q t o r s:List Mn}{m:Mn}{i:Nat}(hi:q.drop i=m::t)(hl:q.length<10000000){y t3 t5:T}{H:Hp}{W:List Nat}{cf:av}(hy:YP y o)(e1:gy [pV p,.agg (mC m)]=Z [pV r])(e2:fG [pV o,pV r]=Z [pV s])
  (c1:CA cf 155 gy)(c2:CA cf 78 fG)(fl:Nat):
  ∃t3' W',am cf fl adH ⟨[iT i,y,pT q,t3,pT p,t5],H,[],W,[]⟩=Z (.normal,⟨[iT (i+1),pT s,pT q,t3',pT p,t5],H,[],W',[]⟩):=by
 have hd:=bW hi
 have h1:=aM hi
 have f1:i+1<9223372036854775808:=by omega
 rcases hy with⟨rfl,rfl⟩|rfl
 ·have e2':fG [.one (.sl 0 []),pV r]=Z [pV s]:=e2
  simp(maxSteps:=9^9) only[au,seval,-ac,-ae,aoJ,ar,c1,c2,e1,e2',h1,hd,f1]
  exact⟨_,_,rfl⟩
 ·simp(maxSteps:=9^9) only[au,seval,-ac,-ae,aoJ,ar,c1,c2,e1,e2,h1,hd,f1]
  exact⟨_,_,rfl⟩
def aFs {p q:List Mn}(hl:q.length<10000000){y t3 t5:T}{H:Hp}{W:List Nat}{cf:av}(fl:Nat):
  ∃t3',am cf fl adH ⟨[iT q.length,y,pT q,t3,pT p,t5],H,[],W,[]⟩=Z (.exit 0,⟨[iT q.length,y,pT q,t3',pT p,t5],H,[],W,[]⟩):=by
 simp(maxSteps:=9^9) only[au,seval,-ac,-ae,aoJ]
 exact⟨_,rfl⟩
def awg {p q r:List Mn}(hp:PF p)(hq:PF q)(h:cE p q=Z r):bM (ao tMl.tb 10 8) ak q76.1 [pV p,pV q]=Z [pV r]:=by
 have c1:CA (ao tMl.tb 10 8) 155 gy:=fun _ _ _=>rfl
 have c2:CA (ao tMl.tb 10 8) 78 fG:=fun _ _ _=>rfl
 generalize ao tMl.tb 10 8=cf at*
 obtain⟨st',hl,y,t3,W,rfl,hy⟩:=bq (body:=am cf ak adH) (id:=0) q.length
  (fun i st=>∃y t3 W o,st=⟨[iT i,y,pT q,t3,pT p,.t (.one (.c (.v (.slice U 0 0))))],[],[],W,[]⟩∧YP y o∧PF o∧mlO p (q.drop i) o=Z r)
  (fun st=>∃y t3 W,st=⟨[iT q.length,y,pT q,t3,pT p,.t (.one (.c (.v (.slice U 0 0))))],[],[],W,[]⟩∧YP y r)
  (fun i st hi=>by
   rintro⟨y,t3,W,o,rfl,hy,ho,hr⟩
   obtain⟨m,t,hm⟩:=bo hi
   rw[hm,mlO]at hr
   split at hr
   ·rename_i g1
    split at hr
    ·rename_i g2
     obtain⟨t3',W',e⟩:=qS (t3:=t3) (t5:=.t (.one (.c (.v (.slice U 0 0))))) (H:=[]) (W:=W) hm hq.len hy (acl hp (hq.ok m (aX hm))) (uU ho (gB g1)) c1 c2 ak
     exact⟨_,e,_,_,_,_,rfl,.inr rfl,gB g2,by rw[bf hm];exact hr⟩
    ·cases hr
   ·cases hr)
  (fun st=>by
   rintro⟨y,t3,W,o,rfl,hy,ho,hr⟩
   obtain⟨t3',e⟩:=aFs (p:=p) (q:=q) (y:=y) (t3:=t3) (t5:=.t (.one (.c (.v (.slice U 0 0))))) (H:=[]) (W:=W) (cf:=cf) hq.len ak
   rw[aUg,mlO]at hr
   cases hr
   exact⟨_,e,_,_,_,rfl,hy⟩)
  ak _ ⟨.t (.one .z0),.nil,[],[],rfl,.inl ⟨rfl,rfl⟩,jm,h⟩ (aN hq.len)
 rcases hy with⟨rfl,rfl⟩|rfl
 ·simp(maxSteps:=9^9) only[au,seval,-ac,-ae,E76,hl];rfl
 ·simp(maxSteps:=9^9) only[au,seval,-ac,-ae,E76,hl]
def cJ:=kI fun p q=>match cE p q with|some r=>Z [pV r]|none=>U
def gK {p q r:List Mn}(hp:PF p)(hq:PF q)(h:cE p q=Z r):cJ [pV p,pV q]=Z [pV r]:=by
 unfold cJ
 rw[i7 hp hq]
 simp only[h]
def oA {k:Cls}:Cn k 76 cJ:=dG (ay aNq q76.2 10 ak 8) fun p q rs hp hq h=>by
 split at h
 ·rename_i r e
  cases h;exact awg hp hq e
 ·cases h
def Mn.zero (m:Mn)(v:Nat):Mn:=match v with|0=>⟨0,m.b,m.c,m.d,m.q⟩|1=>⟨m.a,0,m.c,m.d,m.q⟩|2=>⟨m.a,m.b,0,m.d,m.q⟩|_=>⟨m.a,m.b,m.c,0,m.q⟩
def fD (v n:Nat):List Mn→List Mn
 |[]=>[]
 |m::p=>match ai (m.ex v) n with|true=>m.zero v::fD v n p|false=>fD v n p
def amo (v n:Nat):∀p,(fD v n p).length≤p.length
 |[]=>aTS _
 |m::p=>by
  have:=amo v n p
  unfold fD
  split
  ·simp only[aTV];omega
  ·simp only[aTV];omega
def aHA {m:Mn}(h:m.Ok)(v:Nat):(m.zero v).Ok:=by
 unfold Mn.zero
 split
 ·exact⟨by show 0<_;omega,h.b,h.c,h.d,h.q⟩
 ·exact⟨h.a,by show 0<_;omega,h.c,h.d,h.q⟩
 ·exact⟨h.a,h.b,by show 0<_;omega,h.d,h.q⟩
 ·exact⟨h.a,h.b,h.c,by show 0<_;omega,h.q⟩
def asY (v n:Nat):∀p,cK p→cK (fD v n p)
 |[],_=>fun m hm=>(List.not_mem_nil hm).elim
 |m::p,h=>by
  have:=asY v n p (fun x hx=>h x (aT8 _ hx))
  unfold fD
  split
  ·intro x hx
   rcases aTZ.1 hx with rfl|hx
   ·exact aHA (h m aT0) v
   ·exact this x hx
  ·exact this
def aiL {v n:Nat}{p:List Mn}(h:PF p):PF (fD v n p):=⟨asY v n p h.ok,by have:=amo v n p;have:=h.len;omega⟩
def aEb {p t:List Mn}{m:Mn}{i v n:Nat}(hv:v<4)(hi:p.drop i=m::t)(hl:p.length<10000000)(hn:ai (m.ex v) n=aa){t1 y t5 t6 t8:T}{H:Hp}{W:List Nat}{cf:av}(fl:Nat):
  ∃t1' t5' t6' W' x,am cf fl uA ⟨[iT i,t1,y,pT p,iT v,t5,t6,iT n,t8],H,[],W,[]⟩=Z (.normal,⟨[iT (i+1),t1',y,pT p,iT v,t5',t6',iT n,t8],H++[x],[],W',[]⟩):=by
 have hd:=bW hi
 have h1:=aM hi
 have f1:i+1<9223372036854775808:=by omega
 have hn:=ac1 hn
 have hv':v=0∨v=1∨v=2∨v=3:=by omega
 rcases hv' with rfl|rfl|rfl|rfl<;>simp only[Mn.ex]at hn<;>
  (simp(maxSteps:=9^9) only[au,seval,-ac,-ae,aid,ar,h1,hd,f1,hn,bk,bx];exact⟨_,_,_,_,_,rfl⟩)
def aIT {p t r:List Mn}{m:Mn}{i v n:Nat}(hv:v<4)(hi:p.drop i=m::t)(hl:p.length<10000000)(hr:r.length<100000000)(hn:ai (m.ex v) n=ab){t1 y t5 t6 t8:T}{H:Hp}{W:List Nat}{cf:av}(hG:GotP 0 H y r)(fl:Nat):
  ∃t1' y' t5' t6' W' H',am cf fl uA ⟨[iT i,t1,y,pT p,iT v,t5,t6,iT n,t8],H,[],W,[]⟩=Z (.normal,⟨[iT (i+1),t1',y',pT p,iT v,t5',t6',iT n,t8],H',[],W',[]⟩)∧GotP 0 H' y' (r++[m.zero v]):=by
 have hd:=bW hi
 have h1:=aM hi
 have f1:i+1<9223372036854775808:=by omega
 have hn:=aT1 hn
 have gG:∀(H':Hp),GotP 0 H' y r→∀x,GotP 0 (H'++[x]) y r:=fun H' h x=>h.snoc x
 have hA:=fun(H':Hp) (x':T) (hx:ch H' 8 x'=Z (1,mD (m.zero v))) (h:GotP 0 H' y r)=>dS hr (m.zero v) x' H' hx h
 have hv':v=0∨v=1∨v=2∨v=3:=by omega
 subst hn
 rcases hv' with rfl|rfl|rfl|rfl<;>simp only[Mn.ex,Mn.zero]at hA ⊢<;>
  (simp(maxSteps:=9^9) only[au,seval,-ac,-ae,aid,ar,h1,hd,f1,hG,gG,hA,bk,bx];exact⟨_,_,_,_,_,_,rfl,(hG.snoc _).next _⟩)
def aIS {p:List Mn}{v n:Nat}(hl:p.length<10000000){t1 y t5 t6 t8:T}{H:Hp}{W:List Nat}{cf:av}(fl:Nat):
  ∃t5',am cf fl uA ⟨[iT p.length,t1,y,pT p,iT v,t5,t6,iT n,t8],H,[],W,[]⟩=Z (.exit 0,⟨[iT p.length,t1,y,pT p,iT v,t5',t6,iT n,t8],H,[],W,[]⟩):=by
 simp(maxSteps:=9^9) only[au,seval,-ac,-ae,aid]
 exact⟨_,rfl⟩
def as7 {p:List Mn}{v n:Nat}(h:PF p)(hv:v<4){cf:av}:bM cf ak afJ.1 [pV p,sV (af v),sV (af n)]=Z [pV (fD v n p)]:=by
 obtain⟨st',hl,t1,y,t5,t6,H,W,rfl,hG⟩:=bq (body:=am cf ak uA) (id:=0) p.length
  (fun i st=>∃t1 y t5 t6 H W r,st=⟨[iT i,t1,y,pT p,iT v,t5,t6,iT n,.t (.one (.c (.v (.slice U 0 0))))],H,[],W,[]⟩∧GotP 0 H y r∧r.length≤i∧r++fD v n (p.drop i)=fD v n p)
  (fun st=>∃t1 y t5 t6 H W,st=⟨[iT p.length,t1,y,pT p,iT v,t5,t6,iT n,.t (.one (.c (.v (.slice U 0 0))))],H,[],W,[]⟩∧GotP 0 H y (fD v n p))
  (fun i st hi=>by
   rintro⟨t1,y,t5,t6,H,W,r,rfl,hG,hrl,hr⟩
   obtain⟨m,t,hm⟩:=bo hi
   rw[hm,fD]at hr
   have:=h.len
   split at hr
   ·rename_i hn
    obtain⟨t1',y',t5',t6',W',H',e,hG'⟩:=aIT (t1:=t1) (t5:=t5) (t6:=t6) (t8:=.t (.one (.c (.v (.slice U 0 0))))) (W:=W) (cf:=cf) hv hm h.len (by omega) hn hG ak
    exact⟨_,e,_,_,_,_,_,_,_,rfl,hG',by rw[aTW,List.length_singleton];omega,by rw[bf hm,aUr];exact hr⟩
   ·rename_i hn
    obtain⟨t1',t5',t6',W',x,e⟩:=aEb (t1:=t1) (y:=y) (t5:=t5) (t6:=t6) (t8:=.t (.one (.c (.v (.slice U 0 0))))) (H:=H) (W:=W) (cf:=cf) hv hm h.len hn ak
    exact⟨_,e,_,_,_,_,_,_,_,rfl,hG.snoc _,by omega,by rw[bf hm];exact hr⟩)
  (fun st=>by
   rintro⟨t1,y,t5,t6,H,W,r,rfl,hG,hrl,hr⟩
   obtain⟨t5',e⟩:=aIS (p:=p) (v:=v) (n:=n) (t1:=t1) (y:=y) (t5:=t5) (t6:=t6) (t8:=.t (.one (.c (.v (.slice U 0 0))))) (H:=H) (W:=W) (cf:=cf) h.len ak
   rw[aUg,fD,List.append_nil]at hr
   exact⟨_,e,_,_,_,_,_,_,rfl,by rw[← hr];exact hG⟩)
  ak _ ⟨.nil,.t (.one .z0),.nil,.nil,[],[],[],rfl,⟨aTS _,.inl ⟨.inl rfl,rfl⟩⟩,aTS _,rfl⟩ (aN h.len)
 have hR:=hG.res
 simp(maxSteps:=9^9) only[au,seval,-ac,-ae,aQH,hl]
 exact uo hR
def iD:List V1→Option (List V1)
 |[x,.one (.v (.int .i64 (.ofNat v))),.one (.v (.int .i64 (.ofNat n)))]=>match gz x,ah v 4 with|some p,ab=>Z [pV (fD v n p)]|_,_=>U
 |_=>U
def acf {p:List Mn}{v n:Nat}(h:PF p)(hv:v<4):iD [pV p,sV (af v),sV (af n)]=Z [pV (fD v n p)]:=by
 have hb:ah v 4=ab:=by rw[aTR];exact hv
 simp only[iD,iy h.ok h.len,hb]
def aef {k:Cls}:Cn k 188 iD:=aC (ay (t:=.z) trivial afJ.2 10 ak 8) fun al rs e=>by
 unfold iD at e
 split at e
 ·split at e
  ·rename_i hx hv
   obtain⟨rfl,h1,h2⟩:=eH hx
   rw[aTR]at hv
   cases e
   exact as7 ⟨h1,h2⟩ hv
  ·cases e
 ·cases e
end
end Go.Proofs.YtfiijelajgifiaaGreat
