/-
  Part 23 of the machine and of the contracts of functions of the program (packed).
-/
import Derived.Test.YtfiijelajgifiaaGreatA22
set_option linter.all false
set_option linter.defProp false
open Bool renaming false→aa,true→ab,eq_iff_iff→aUp
open Int renaming reduceOfNat→ac,reduceNegSucc→ae,ofNat→af,negSucc→aT2
open List renaming getElem?_eq_some_iff→aTU,length_cons→aTV,length_append→aTW,mem_cons→aTZ,mem_cons_self→aT0,length_nil→aUf,drop_length→aUg,getElem?_set_ne→aUn,append_assoc→aUr
open Nat renaming ble→aTQ,le_refl→aTS,lt_or_ge→aT6,mod_lt→aUb,lt_of_lt_of_le→aUj
open Option renaming some→Z,none→U
namespace Go.Proofs.YtfiijelajgifiaaGreat
noncomputable section
open Go Go.Mach Go.Flow
set_option maxRecDepth 100000
set_option maxHeartbeats 4000000
abbrev eF (n d:List Mn):V1:=.agg [pC n,pC d]
def mW (p q:List Mn):Option (List Mn × List Mn):=match q with
 |[]=>U
 |k::s=>match yq 40 p (k::s)with
  |none=>U
  |some g=>match kO p g,kO (k::s) g with
   |some (Z n),Z (Z (m::t))=>(match dN n,dN (m::t),co m.q.n 0,gS (io ((Q.whole 1).div m.q))with
    |true,ab,aa,ab=>(match fS (eG n ((Q.whole 1).div m.q)),fS (eG (m::t) ((Q.whole 1).div m.q))with
     |some a,Z b=>Z (a,b)
     |_,_=>U)
    |_,_,_,_=>U)
   |_,_=>U
def tOf  : Ft:=.n (.n (.n .z 65 (.nat aW) U .z) 66 (.nat aaV) U .z) 84 (.nat bI) U (.n (.n .z 184 (.nat nx) U .z) 185 (.nat pB) U .z)
def aNx   {k:Cls}:tOf.Ok Tryz.prog k aH:=⟨⟨⟨tv,gZ,tv,tv⟩,ahe,tv,tv⟩,pF,tv,⟨⟨tv,ag9,tv,tv⟩,ahg,tv,tv⟩⟩
def atM {p q g n t a b:List Mn}{m:Mn}{u c:Q}{cf:av}(zq:(q.length==0)=aa)(e1:aaV [pV p,pV q]=Z [pV g])(e2:nx [pV p,pV g]=Z [pV n,bV ab])(e3:nx [pV q,pV g]=Z [pV (m::t),bV ab])(e4:aW [sV (af 1)]=Z [eQ u])(e5:pB [eQ u,eQ m.q]=Z [eQ c])(e6:bI [pV n,eQ c]=Z [pV a])(e7:bI [pV (m::t),eQ c]=Z [pV b])
  (c1:CA cf 66 aaV)(c2:CA cf 184 nx)(c3:CA cf 65 aW)(c4:CA cf 185 pB)(c5:CA cf 84 bI):
  bM cf ak akB.1 [pV p,pV q]=Z [eF a b,sV (af 0)]:=by
 have z1:0<t.length+1:=Nat.succ_pos _
 simp only[pV,pC,dH,aTV]at e3 e7
 simp(maxSteps:=9^9) only[az,seval,-ac,-ae,kR,ci,aQd,ar,c1,c2,c3,c4,c5,zq,e1,e2,e3,e4,e5,e6,e7,z1]
def ab2 {p q a b:List Mn}(hp:PF p)(hq:PF q)(h:mW p q=Z (a,b)):bM (ao tOf.tb 10 8) ak akB.1 [pV p,pV q]=Z [eF a b,sV (af 0)]∧PF a∧PF b:=by
 unfold mW at h
 split at h
 ·cases h
 rename_i k s
 split at h
 ·cases h
 rename_i g hg
 have pg:=amN 40 _ _ _ hp hq hg
 split at h
 rotate_left
 ·cases h
 rename_i n m t hn hd
 split at h
 rotate_left
 ·cases h
 rename_i f1 f2 f3 f4
 split at h
 rotate_left
 ·cases h
 rename_i a' b' ha hb
 cases h
 obtain⟨rfl,pa⟩:=fE ha
 obtain⟨rfl,pb⟩:=fE hb
 have pn:=gB f1
 have pd:=gB f2
 have hc:=(jR f4).q
 refine⟨?_,pa,pb⟩
 exact atM rfl (tj hp hq hg) (aaT hp pg hn) (aaT hq pg hd) tf (ani fB (pd.ok m aT0).q (by intro e;rw[e]at f3;cases f3)) (ga pn hc) (ga pd hc) (fun _ _ _=>rfl) (fun _ _ _=>rfl) (fun _ _ _=>rfl) (fun _ _ _=>rfl) (fun _ _ _=>rfl)
def ww:Nt:=kI fun p q=>match mW p q with|some (a,b)=>Z [eF a b,sV (af 0)]|none=>U
def avg {p q a b:List Mn}(hp:PF p)(hq:PF q)(h:mW p q=Z (a,b)):ww [pV p,pV q]=Z [eF a b,sV (af 0)]:=by
 unfold ww
 rw[i7 hp hq]
 simp only[h]
def akR {k:Cls}:Cn k 113 ww:=dG (ay aNx akB.2 10 ak 8) fun p q rs hp hq h=>by
 split at h
 ·rename_i a b e
  cases h;exact(ab2 hp hq e).1
 ·cases h
def tOf1  : Ft:=.n .z 113 (.nat ww) U .z
def aHa   {k:Cls}:tOf1.Ok Tryz.prog k aH:=⟨tv,akR,tv,tv⟩
def apm {p q a b:List Mn}{cf:av}(e1:ww [pV p,pV q]=Z [eF a b,sV (af 0)])(c1:CA cf 113 ww):bM cf ak q75.1 [pV p,pV q]=Z [eF a b]:=by
 simp(maxSteps:=9^9) only[az,seval,-ac,-ae,ci,E75,ar,c1,e1]
def zg:Nt:=kI fun p q=>match mW p q with|some (a,b)=>Z [eF a b]|none=>U
def avh {p q a b:List Mn}(hp:PF p)(hq:PF q)(h:mW p q=Z (a,b)):zg [pV p,pV q]=Z [eF a b]:=by
 unfold zg
 rw[i7 hp hq]
 simp only[h]
def aAD {k:Cls}:Cn k 75 zg:=dG (ay aHa q75.2 10 ak 8) fun p q rs hp hq h=>by
 split at h
 ·rename_i a b e
  cases h;exact apm (avg hp hq e) (fun _ _ _=>rfl)
 ·cases h
abbrev Fr:=List Mn × List Mn
abbrev fV (f:Fr):V1:=eF f.1 f.2
structure FF (f:Fr):Prop where
 n:PF f.1
 d:PF f.2
def aEJ {p q:List Mn}{f:Fr}(hp:PF p)(hq:PF q)(h:mW p q=Z f):FF f:=by
 obtain⟨a,b⟩:=f
 exact⟨(ab2 hp hq h).2.1,(ab2 hp hq h).2.2⟩
def ul:V1→Option Fr
 |.agg [c1,c2]=>(match gz (.one c1),gz (.one c2)with|some a,Z b=>Z (a,b)|_,_=>U)
 |_=>U
def adj {v:V1}{f:Fr}(h:ul v=Z f):v=fV f∧FF f:=by
 unfold ul at h
 split at h
 ·split at h
  ·rename_i ha hb
   cases h
   obtain⟨e1,h1,h2⟩:=eH ha
   obtain⟨e2,h3,h4⟩:=eH hb
   cases e1;cases e2
   exact⟨rfl,⟨h1,h2⟩,⟨h3,h4⟩⟩
  ·cases h
 ·cases h
def ahz {f:Fr}(h:FF f):ul (fV f)=Z f:=by
 have h1:=iy h.n.ok h.n.len
 have h2:=iy h.d.ok h.d.len
 simp only[pV]at h1 h2
 simp only[ul,h1,h2]
def fg1 (f:Fr→Option (List V1)):Nt
 |[x]=>(match ul x with|some a=>f a|none=>U)
 |_=>U
def nS (f:Fr→Fr→Option (List V1)):Nt
 |[x,y]=>(match ul x,ul y with|some a,Z b=>f a b|_,_=>U)
 |_=>U
def aOs {f:Fr→Option (List V1)}{a:Fr}(ha:FF a):fg1 f [fV a]=f a:=by simp only[fg1,ahz ha]
def apg {f:Fr→Fr→Option (List V1)}{a b:Fr}(ha:FF a)(hb:FF b):nS f [fV a,fV b]=f a b:=by simp only[nS,ahz ha,ahz hb]
section
variable {k:Cls} {g:FuncId} {m:Nt}
def adc {f:Fr→Option (List V1)}(hm:Cn k g m)(h:∀a rs,FF a→f a=Z rs→m [fV a]=Z rs):Cn k g (fg1 f):=aC hm fun al rs e=>by
 unfold fg1 at e
 split at e
 ·split at e
  ·rename_i hx
   obtain⟨rfl,h1⟩:=adj hx
   exact h _ _ h1 e
  ·cases e
 ·cases e
def je {f:Fr→Fr→Option (List V1)}(hm:Cn k g m)(h:∀a b rs,FF a→FF b→f a b=Z rs→m [fV a,fV b]=Z rs):Cn k g (nS f):=aC hm fun al rs e=>by
 unfold nS at e
 split at e
 ·split at e
  ·rename_i hx hy
   obtain⟨rfl,h1⟩:=adj hx
   obtain⟨rfl,h2⟩:=adj hy
   exact h _ _ _ h1 h2 e
  ·cases e
 ·cases e
end
def axg {p q r:List Mn}(hp:PF p)(hq:PF q)(h:fS (jA p q)=Z r):fG [pV p,pV q]=Z [pV r]∧PF r:=by
 obtain⟨rfl,h1⟩:=fE h
 exact⟨uU hp hq,h1⟩
def aCf (f g:Fr):Option Fr:=match cE f.1 g.1,cE f.2 g.2 with
 |some n,Z d=>mW n d
 |_,_=>U
def tFm  : Ft:=.n (.n .z 75 (.nat zg) U .z) 76 (.nat cJ) U (.n .z 78 (.nat fG) U .z)
def awH   {k:Cls}:tFm.Ok Tryz.prog k aH:=⟨⟨tv,aAD,tv,tv⟩,oA,tv,⟨tv,zS,tv,tv⟩⟩
section
variable {f g h:Fr} {n d x y s:List Mn} {cf:av}
def atH (e1:cJ [pV f.1,pV g.1]=Z [pV n])(e2:cJ [pV f.2,pV g.2]=Z [pV d])(e3:zg [pV n,pV d]=Z [fV h])
  (c1:CA cf 76 cJ)(c2:CA cf 75 zg):bM cf ak q20.1 [fV f,fV g]=Z [fV h]:=by
 simp(maxSteps:=9^9) only[az,seval,-ac,-ae,ci,E20,ar,c1,c2,e1,e2,e3]
def atF (e1:cJ [pV f.1,pV g.2]=Z [pV x])(e2:cJ [pV g.1,pV f.2]=Z [pV y])(e3:fG [pV x,pV y]=Z [pV s])(e4:cJ [pV f.2,pV g.2]=Z [pV d])(e5:zg [pV s,pV d]=Z [fV h])
  (c1:CA cf 76 cJ)(c2:CA cf 75 zg)(c3:CA cf 78 fG):bM cf ak q22.1 [fV f,fV g]=Z [fV h]:=by
 simp(maxSteps:=9^9) only[az,seval,-ac,-ae,ci,E22,ar,c1,c2,c3,e1,e2,e3,e4,e5]
end
def fO (r:Option Fr):Option (List V1):=match r with|some h=>Z [fV h]|none=>U
def ahP:Nt:=nS fun f g=>fO (aCf f g)
def ahc {k:Cls}:Cn k 20 ahP:=je (ay awH q20.2 10 ak 8) fun f g rs hf hg e=>by
 unfold fO at e
 split at e
 rotate_left
 ·cases e
 rename_i h hh
 cases e
 unfold aCf at hh
 split at hh
 ·rename_i n d h1 h2
  exact atH (gK hf.n hg.n h1) (gK hf.d hg.d h2) (avh (dX h1) (dX h2) hh) (fun _ _ _=>rfl) (fun _ _ _=>rfl)
 ·cases hh
def v7 (f g:Fr):Option Fr:=match cE f.1 g.2,cE g.1 f.2 with
 |some x,Z y=>(match fS (jA x y),cE f.2 g.2 with
  |some n,Z d=>mW n d
  |_,_=>U)
 |_,_=>U
def sE:Nt:=nS fun f g=>fO (v7 f g)
def aFw {f g h:Fr}(hf:FF f)(hg:FF g)(e:v7 f g=Z h):sE [fV f,fV g]=Z [fV h]:=by
 unfold sE
 rw[apg hf hg,e];rfl
def atJ {f g h:Fr}(hf:FF f)(hg:FF g)(hh:v7 f g=Z h):bM (ao tFm.tb 10 8) ak q22.1 [fV f,fV g]=Z [fV h]∧FF h:=by
 unfold v7 at hh
 split at hh
 ·rename_i x y h1 h2
  split at hh
  ·rename_i n d h3 h4
   obtain⟨e3,pn⟩:=axg (dX h1) (dX h2) h3
   exact⟨atF (gK hf.n hg.d h1) (gK hg.n hf.d h2) e3 (gK hf.d hg.d h4) (avh pn (dX h4) hh) (fun _ _ _=>rfl) (fun _ _ _=>rfl) (fun _ _ _=>rfl),aEJ pn (dX h4) hh⟩
  ·cases hh
 ·cases hh
def aha {k:Cls}:Cn k 22 sE:=je (ay awH q22.2 10 ak 8) fun f g rs hf hg e=>by
 unfold fO at e
 split at e
 rotate_left
 ·cases e
 rename_i h hh
 cases e
 exact(atJ hf hg hh).1
def ahB (f:Fr):Fr:=(ap9 f.1,f.2)
def ax0 {f:Fr}(hf:FF f):FF (ahB f):=⟨acr hf.n,hf.d⟩
def tFn  : Ft:=.n (.n .z 65 (.nat aW) U .z) 84 (.nat bI) U .z
def aM5   {k:Cls}:tFn.Ok Tryz.prog k aH:=⟨⟨tv,gZ,tv,tv⟩,pF,tv,tv⟩
def atI {f:Fr}{x:List Mn}{c:Q}{cf:av}(e0:aW [sV (aT2 0)]=Z [eQ c])(e1:bI [pV f.1,eQ c]=Z [pV x])(c1:CA cf 65 aW)(c2:CA cf 84 bI):
  bM cf ak q27.1 [fV f]=Z [fV (x,f.2)]:=by
 simp(maxSteps:=9^9) only[az,seval,-ac,-ae,ci,E27,ar,c1,c2,e0,e1]
def pt:Nt:=fg1 fun f=>Z [fV (ahB f)]
def aFy {f:Fr}(hf:FF f):pt [fV f]=Z [fV (ahB f)]:=aOs hf
def ahd {k:Cls}:Cn k 27 pt:=adc (ay aM5 q27.2 10 ak 8) fun f rs hf e=>by
 cases e
 exact atI (c:=q1n) rfl (ga hf.n aed) (fun _ _ _=>rfl) (fun _ _ _=>rfl)
def tFs  : Ft:=.n (.n .z 22 (.nat sE) U .z) 27 (.nat pt) U .z
def aM9   {k:Cls}:tFs.Ok Tryz.prog k aH:=⟨⟨tv,aha,tv,tv⟩,ahd,tv,tv⟩
def atN {f g h x:Fr}{cf:av}(e1:pt [fV g]=Z [fV x])(e2:sE [fV f,fV x]=Z [fV h])(c1:CA cf 27 pt)(c2:CA cf 22 sE):
  bM cf ak q30.1 [fV f,fV g]=Z [fV h]:=by
 simp(maxSteps:=9^9) only[az,seval,-ac,-ae,ci,E30,ar,c1,c2,e1,e2]
def ap0:Nt:=nS fun f g=>fO (v7 f (ahB g))
def av4 {k:Cls}:Cn k 30 ap0:=je (ay aM9 q30.2 10 ak 8) fun f g rs hf hg e=>by
 unfold fO at e
 split at e
 rotate_left
 ·cases e
 rename_i h hh
 cases e
 exact atN (aFy hg) (aFw hf (ax0 hg) hh) (fun _ _ _=>rfl) (fun _ _ _=>rfl)
def ahA (f g:Fr):Option Fr:=match cE f.1 g.2,cE f.2 g.1 with
 |some n,Z d=>mW n d
 |_,_=>U
def tFd  : Ft:=.n (.n .z 76 (.nat cJ) U .z) 113 (.nat ww) U .z
def aM3   {k:Cls}:tFd.Ok Tryz.prog k aH:=⟨⟨tv,oA,tv,tv⟩,akR,tv,tv⟩
def atG {f g h:Fr}{n d:List Mn}{cf:av}(e1:cJ [pV f.1,pV g.2]=Z [pV n])(e2:cJ [pV f.2,pV g.1]=Z [pV d])(e3:ww [pV n,pV d]=Z [fV h,sV (af 0)])
  (c1:CA cf 76 cJ)(c2:CA cf 113 ww):bM cf ak aqu.1 [fV f,fV g]=Z [fV h,sV (af 0)]:=by
 simp(maxSteps:=9^9) only[az,seval,-ac,-ae,ci,aQv,ar,c1,c2,e1,e2,e3]
def sF:Nt:=nS fun f g=>match ahA f g with|some h=>Z [fV h,sV (af 0)]|none=>U
def aFx {f g h:Fr}(hf:FF f)(hg:FF g)(e:ahA f g=Z h):sF [fV f,fV g]=Z [fV h,sV (af 0)]:=by
 unfold sF
 rw[apg hf hg]
 simp only[e]
def ahb {k:Cls}:Cn k 156 sF:=je (ay aM3 aqu.2 10 ak 8) fun f g rs hf hg e=>by
 split at e
 rotate_left
 ·cases e
 rename_i h hh
 cases e
 unfold ahA at hh
 split at hh
 ·rename_i n d h1 h2
  exact atG (gK hf.n hg.d h1) (gK hf.d hg.n h2) (avg (dX h1) (dX h2) hh) (fun _ _ _=>rfl) (fun _ _ _=>rfl)
 ·cases hh
def tFo  : Ft:=.n .z 156 (.nat sF) U .z
def aM6   {k:Cls}:tFo.Ok Tryz.prog k aH:=⟨tv,ahb,tv,tv⟩
def api {f g h:Fr}{cf:av}(e1:sF [fV f,fV g]=Z [fV h,sV (af 0)])(c1:CA cf 156 sF):bM cf ak q77.1 [fV f,fV g]=Z [fV h]:=by
 simp(maxSteps:=9^9) only[az,seval,-ac,-ae,ci,E77,ar,c1,e1]
def aj6:Nt:=nS fun f g=>fO (ahA f g)
def aq5 {k:Cls}:Cn k 77 aj6:=je (ay aM6 q77.2 10 ak 8) fun f g rs hf hg e=>by
 unfold fO at e
 split at e
 rotate_left
 ·cases e
 rename_i h hh
 cases e
 exact api (aFx hf hg hh) (fun _ _ _=>rfl)
def axZ (f g:Fr):Bool:=match qp f.1 g.1 with|true=>qp f.2 g.2|false=>aa
def tFe  : Ft:=.n .z 82 (.nat kH) U .z
def aM4   {k:Cls}:tFe.Ok Tryz.prog k aH:=⟨tv,aeg,tv,tv⟩
def aOr {f g:Fr}{b:Bool}{cf:av}(e1:kH [pV f.1,pV g.1]=Z [bV ab])(e2:kH [pV f.2,pV g.2]=Z [bV b])(c1:CA cf 82 kH):bM cf ak q85.1 [fV f,fV g]=Z [bV b]:=by
 simp(maxSteps:=9^9) only[az,seval,-ac,-ae,ci,E85,ar,c1,e1,e2]
def aOq {f g:Fr}{cf:av}(e1:kH [pV f.1,pV g.1]=Z [bV aa])(c1:CA cf 82 kH):bM cf ak q85.1 [fV f,fV g]=Z [bV aa]:=by
 simp(maxSteps:=9^9) only[az,seval,-ac,-ae,ci,E85,ar,c1,e1]
def zc:Nt:=nS fun f g=>Z [bV (axZ f g)]
def aAz {k:Cls}:Cn k 85 zc:=je (ay aM4 q85.2 10 ak 8) fun f g rs hf hg e=>by
 cases e
 have e1:=aj5 hf.n hg.n
 have e2:=aj5 hf.d hg.d
 unfold axZ
 cases he:qp f.1 g.1 with
 |true=>rw[he]at e1;exact aOr e1 e2 (fun _ _ _=>rfl)
 |false=>rw[he]at e1;exact aOq e1 (fun _ _ _=>rfl)
def aKO {f g:Fr}(hf:FF f)(hg:FF g):zc [fV f,fV g]=Z [bV (axZ f g)]:=apg hf hg
def tFe2  : Ft:=.n .z 85 (.nat zc) U .z
def aG3   {k:Cls}:tFe2.Ok Tryz.prog k aH:=⟨tv,aAz,tv,tv⟩
def apo {f g:Fr}{b:Bool}{cf:av}(e1:zc [fV f,fV g]=Z [bV b])(c1:CA cf 85 zc):bM cf ak q29.1 [fV f,fV g]=Z [bV b]:=by
 simp(maxSteps:=9^9) only[az,seval,-ac,-ae,ci,E29,ar,c1,e1]
def aq7 {k:Cls}:Cn k 29 zc:=je (ay aG3 q29.2 10 ak 8) fun f g rs hf hg e=>by
 cases e
 exact apo (aKO hf hg) (fun _ _ _=>rfl)
def aR8 (p:List Mn):Bool:=match p with|[]=>ab|_::_=>aa
def uX:Nt:=fg1 fun f=>Z [bV (aR8 f.1)]
def atQ {f:Fr}{b:Bool}(z:(f.1.length==0)=b){cf:av}:bM cf ak q35.1 [fV f]=Z [bV b]:=by
 simp(maxSteps:=9^9) only[az,seval,-ac,-ae,ci,E35,ar,z]
def aq8 {k:Cls}:Cn k 35 uX:=adc (ay (t:=.z) trivial q35.2 10 ak 8) fun f rs hf e=>by
 cases e
 exact atQ (by cases f.1<;>rfl)
def tFu  : Ft:=.n (.n .z 65 (.nat aW) U .z) 68 (.nat fK) U .z
def aNa   {k:Cls}:tFu.Ok Tryz.prog k aH:=⟨⟨tv,gZ,tv,tv⟩,wQ,tv,tv⟩
def atO:bM (ao tFu.tb 10 8) ak q83.1 []=Z [pV (cQ (Q.whole 1))]:=by
 have c1:CA (ao tFu.tb 10 8) 65 aW:=fun _ _ _=>rfl
 have c2:CA (ao tFu.tb 10 8) 68 fK:=fun _ _ _=>rfl
 generalize ao tFu.tb 10 8=cf at*
 have e1:=tf
 have e2:=qW fB
 generalize cQ (Q.whole 1)=r at*
 generalize Q.whole 1=q at*
 simp(maxSteps:=9^9) only[au,seval,-ac,-ae,E83,c1,c2,e1,e2]
def aeh {k:Cls}:Cn k 83 cM:=aC (ay aNa q83.2 10 ak 8) fun al rs h=>by
 unfold cM at h
 split at h
 ·cases h;exact atO
 ·cases h
def frP (p:List Mn):Fr:=(p,cQ (Q.whole 1))
def tFp  : Ft:=.n .z 83 (.nat cM) U .z
def aM7   {k:Cls}:tFp.Ok Tryz.prog k aH:=⟨tv,aeh,tv,tv⟩
def apj {p u:List Mn}{cf:av}(e1:cM []=Z [pV u])(c1:CA cf 83 cM):bM cf ak q28.1 [pV p]=Z [fV (p,u)]:=by
 simp(maxSteps:=9^9) only[az,seval,-ac,-ae,ci,E28,ar,c1,e1]
def zd:Nt:=pg1 fun p=>Z [fV (frP p)]
def aq6 {k:Cls}:Cn k 28 zd:=tT (ay aM7 q28.2 10 ak 8) fun p rs hp h=>by
 cases h;exact apj rfl (fun _ _ _=>rfl)
def tNoM  : Ft:=.n (.n .z 134 (.nat aW) U .z) 173 (.nat fW) U (.n .z 174 (.nat bI) U .z)
def aG9   {k:Cls}:tNoM.Ok Tryz.prog k aH:=⟨⟨tv,gU,tv,tv⟩,wu,tv,⟨tv,pi,tv,tv⟩⟩
def aFN {cf:av}:bM cf ak afH.1 [pV []]=Z [pV []]:=by
 simp(maxSteps:=9^9) only[au,seval,-ac,-ae,aHO,ar,pL,aUf]
 rfl
def aFO {m:Mn}{t r:List Mn}{u c:Q}{v1:V1}{cf:av}(hv1:∃z,v1=sV z)(e1:aW [sV (af 1)]=Z [eQ u])(e2:fW [eQ u,eQ m.q]=Z [eQ c,v1])(e3:bI [pV (m::t),eQ c]=Z [pV r])
  (c1:CA cf 134 aW)(c2:CA cf 173 fW)(c3:CA cf 174 bI):
  bM cf ak afH.1 [pV (m::t)]=Z [pV r]:=by
 obtain⟨z0,rfl⟩:=hv1
 have z:(t.length+1==0)=aa:=rfl
 have z1:0<t.length+1:=Nat.succ_pos _
 simp only[pV,pC,dH,aTV]at e3 ⊢
 simp(maxSteps:=9^9) only[az,seval,-ac,-ae,kR,aHO,ar,c1,c2,c3,e1,e2,e3,z,z1]
def avr {p r:List Mn}(hp:PF p)(h:fw p=Z r):bM (ao tNoM.tb 10 8) ak afH.1 [pV p]=Z [pV r]:=by
 unfold fw at h
 split at h
 ·cases h;exact aFN
 ·rename_i m t
  split at h
  ·rename_i h0 h1
   obtain⟨rfl,h2⟩:=fE h
   have om:=hp.ok m aT0
   have hc:=(jR h1).q
   exact aFO ⟨_,rfl⟩ tf (y9 fB om.q (by intro e;rw[e]at h0;cases h0)) (ga hp hc) (fun _ _ _=>rfl) (fun _ _ _=>rfl) (fun _ _ _=>rfl)
  ·cases h
def abv {k:Cls}:Cn k 165 bQ:=tT (ay aG9 afH.2 10 ak 8) fun p rs hp h=>by
 split at h
 ·rename_i r e
  cases h;exact avr hp e
 ·cases h
def j9 (p q:List Mn):Option (List Mn):=match jF p q with
 |some (Z l)=>fS l
 |some U=>Z []
 |none=>U
def acq {p q r:List Mn}(h:j9 p q=Z r):PF r:=by
 unfold j9 at h
 split at h
 ·obtain⟨rfl,h2⟩:=fE h;exact h2
 ·cases h;exact jm
 ·cases h
def tOvM  : Ft:=.n .z 164 (.nat iv) U .z
def aHc   {k:Cls}:tOvM.Ok Tryz.prog k aH:=⟨tv,sx,tv,tv⟩
def ad8 {p q r:List Mn}{b:Bool}{cf:av}(e1:iv [pV p,pV q]=Z [pV r,bV b])(c1:CA cf 164 iv):
  bM cf ak akE.1 [pV p,pV q]=Z [pV r]:=by
 simp(maxSteps:=9^9) only[au,seval,-ac,-ae,aQB,ar,c1,e1]
def avD {p q r:List Mn}(hp:PF p)(hq:PF q)(h:j9 p q=Z r):bM (ao tOvM.tb 10 8) ak akE.1 [pV p,pV q]=Z [pV r]:=by
 unfold j9 at h
 split at h
 ·rename_i l g
  obtain⟨rfl,h2⟩:=fE h
  exact ad8 (m7 hp hq g) (fun _ _ _=>rfl)
 ·rename_i g
  cases h
  exact ad8 (m7 hp hq g) (fun _ _ _=>rfl)
 ·cases h
def jl:=kI fun p q=>match j9 p q with|some r=>Z [pV r]|none=>U
def acj {p q r:List Mn}(hp:PF p)(hq:PF q)(h:j9 p q=Z r):jl [pV p,pV q]=Z [pV r]:=by
 unfold jl
 rw[i7 hp hq]
 simp only[h]
def yY {k:Cls}:Cn k 171 jl:=dG (ay aHc akE.2 10 ak 8) fun p q rs hp hq h=>by
 split at h
 ·rename_i r e
  cases h;exact avD hp hq e
 ·cases h
def qm (p:List Mn):Bool:=match p with
 |[m]=>tY m.a m.b m.c m.d 0 0 0 0
 |_=>aa
def aOh {m:Mn}{cf:av}:bM cf ak zF.1 [pV [m]]=Z [bV (tY m.a m.b m.c m.d 0 0 0 0)]:=by
 simp only[pV,pC,pL,aTV,aUf]
 simp(maxSteps:=9^9) only[az,seval,-ac,-ae,aHP,ar,vr,aaK,abM,List.toList_toArray]
def aB5 {p:List Mn}(z:(p.length==1)=aa){cf:av}:bM cf ak zF.1 [pV p]=Z [bV aa]:=by
 simp(maxSteps:=9^9) only[az,seval,-ac,-ae,aHP,ar,z]
def eT:Nt:=pg1 fun p=>Z [bV (qm p)]
def lH {p:List Mn}(hp:PF p):eT [pV p]=Z [bV (qm p)]:=aqa hp
def abu {k:Cls}:Cn k 166 eT:=tT (ay (t:=.z) trivial zF.2 10 ak 8) fun p rs hp h=>by
 cases h
 match p with
 |[]=>exact aB5 rfl
 |[m]=>exact aOh
 |_::_::_=>exact aB5 rfl
def ki (v:Nat):List (List Mn)→Bool
 |[]=>aa
 |c::l=>match aTQ (dg v c) 1 with|true=>ki v l|false=>ab
def oX (l:List (List Mn)):Nat→Nat
 |0=>0
 |v+1=>match ki v l with|true=>v+1|false=>oX l v
def auQ (k:Nat):decide (m1 k>af 0)=!aTQ k 1:=by
 rw[aUp,decide_eq_true_eq,Bool.not_eq_true',← Bool.not_eq_true,Nat.ble_eq,gD]
 show(k:Int)-1>0↔_
 omega
section
variable {l t:List (List Mn)} {c:List Mn} {i v k:Nat} {t0 t2 t3 t4 t5 t6 t8:T} {H:Hp} {W:List Nat} {cf:av}
def aER (hi:l.drop i=c::t)(hl:l.length<10000000)(e1:a9 [pV c,sV (af v)]=Z [sV (m1 k)])(hk:aTQ k 1=ab)(c1:CA cf 92 a9)(fl:Nat):
  ∃t2' t3' t4' H' W',am cf fl kC ⟨[iT i,iT v,t2,t3,t4,lT l,iT l.length,iT 0,t8,lT l],H,[],W,[]⟩=Z (.normal,⟨[iT (i+1),iT v,t2',t3',t4',lT l,iT l.length,iT 0,t8,lT l],H',[],W',[]⟩):=by
 have hd:=aaO hi
 have h1:=aM hi
 have f1:i+1<9223372036854775808:=by omega
 simp(maxSteps:=9^9) only[au,seval,-ac,-ae,aia,ar,c1,e1,h1,hd,f1,auQ,hk]
 exact⟨_,_,_,_,_,rfl⟩
def aJH (hi:l.drop i=c::t)(hl:l.length<10000000)(e1:a9 [pV c,sV (af v)]=Z [sV (m1 k)])(hk:aTQ k 1=aa)(c1:CA cf 92 a9)(fl:Nat):
  ∃t2' t3' t4' H' W',am cf fl kC ⟨[iT i,iT v,t2,t3,t4,lT l,iT l.length,iT 0,t8,lT l],H,[],W,[]⟩=Z (.ret,⟨[iT i,iT v,t2',t3',t4',lT l,iT l.length,iT v,t8,lT l],H',[],W',[]⟩):=by
 have hd:=aaO hi
 have h1:=aM hi
 simp(maxSteps:=9^9) only[au,seval,-ac,-ae,aia,ar,c1,e1,h1,hd,auQ,hk]
 exact⟨_,_,_,_,_,rfl⟩
def aJI (fl:Nat):
  ∃t3',am cf fl kC ⟨[iT l.length,iT v,t2,t3,t4,lT l,iT l.length,iT 0,t8,lT l],H,[],W,[]⟩=Z (.exit 2,⟨[iT l.length,iT v,t2,t3',t4,lT l,iT l.length,iT 0,t8,lT l],H,[],W,[]⟩):=by
 simp(maxSteps:=9^9) only[au,seval,-ac,-ae,aia,ar]
 exact⟨_,rfl⟩
def aCs (hpf:∀c∈l,PF c)(hl:l.length<10000000)(hv:v<4)(c1:CA cf 92 a9):
  (ki v l=ab∧∃i t2' t3' t4' H' W',aG (am cf ak kC) ak ⟨[iT 0,iT v,t2,t3,t4,lT l,iT l.length,iT 0,t8,lT l],H,[],W,[]⟩=Z (.ret,⟨[iT i,iT v,t2',t3',t4',lT l,iT l.length,iT v,t8,lT l],H',[],W',[]⟩))∨
  (ki v l=aa∧∃t2' t3' t4' H' W',aG (am cf ak kC) ak ⟨[iT 0,iT v,t2,t3,t4,lT l,iT l.length,iT 0,t8,lT l],H,[],W,[]⟩=Z (.exit 2,⟨[iT l.length,iT v,t2',t3',t4',lT l,iT l.length,iT 0,t8,lT l],H',[],W',[]⟩)):=by
 obtain⟨x,st',hlp,_,hQ⟩:=bg (body:=am cf ak kC) (fun i st=>i≤l.length∧ki v (l.drop i)=ki v l∧∃t2 t3 t4 H W,st=⟨[iT i,iT v,t2,t3,t4,lT l,iT l.length,iT 0,t8,lT l],H,[],W,[]⟩) (fun i=>l.length-i)
  (fun x st'=>(x=.ret∧ki v l=ab∧∃i t2 t3 t4 H W,st'=⟨[iT i,iT v,t2,t3,t4,lT l,iT l.length,iT v,t8,lT l],H,[],W,[]⟩)∨(x=.exit 2∧ki v l=aa∧∃t2 t3 t4 H W,st'=⟨[iT l.length,iT v,t2,t3,t4,lT l,iT l.length,iT 0,t8,lT l],H,[],W,[]⟩))
  (fun i st h=>by
   obtain⟨hi,ha,t2,t3,t4,H,W,rfl⟩:=h
   rcases aT6 i l.length with h1|h1
   ·obtain⟨c,t,hc⟩:=bo h1
    have e1:=cv (hpf c (aX hc)) hv
    rw[hc,ki]at ha
    cases hk:aTQ (dg v c) 1 with
    |true=>
     rw[hk]at ha
     obtain⟨t2',t3',t4',H',W',e⟩:=aER (t2:=t2) (t3:=t3) (t4:=t4) (t8:=t8) (H:=H) (W:=W) hc hl e1 hk c1 ak
     exact .inl ⟨i+1,_,e,⟨h1,by rw[bf hc];exact ha,_,_,_,_,_,rfl⟩,by omega⟩
    |false=>
     rw[hk]at ha
     obtain⟨t2',t3',t4',H',W',e⟩:=aJH (t2:=t2) (t3:=t3) (t4:=t4) (t8:=t8) (H:=H) (W:=W) hc hl e1 hk c1 ak
     exact .inr ⟨_,_,e,by simp,.inl ⟨rfl,ha.symm,_,_,_,_,_,_,rfl⟩⟩
   ·obtain rfl:i=l.length:=by omega
    obtain⟨t3',e⟩:=aJI (l:=l) (v:=v) (t2:=t2) (t3:=t3) (t4:=t4) (t8:=t8) (H:=H) (W:=W) (cf:=cf) ak
    rw[aUg,ki]at ha
    exact .inr ⟨_,_,e,by simp,.inr ⟨rfl,ha.symm,_,_,_,_,_,rfl⟩⟩)
  ak 0 _ ⟨Nat.zero_le _,by rw[List.drop_zero],t2,t3,t4,H,W,rfl⟩ (by have:=aN hl;omega)
 rcases hQ with⟨rfl,ha,i,t2',t3',t4',H',W',rfl⟩|⟨rfl,ha,t2',t3',t4',H',W',rfl⟩
 ·exact .inl ⟨ha,_,_,_,_,_,_,hlp⟩
 ·exact .inr ⟨ha,_,_,_,_,_,hlp⟩
end
section
variable {l:List (List Mn)} {v:Nat} {t0 t2 t3 t4 t5 t6 t8:T} {H:Hp} {W:List Nat} {cf:av}
def aJJ {t0 t5 t6 t7 t9:T}(fl:Nat):∃t8',am cf fl uz ⟨[t0,jT (m1 0),t2,t3,t4,t5,t6,t7,t8,t9],H,[],W,[]⟩=Z (.exit 0,⟨[t0,jT (m1 0),t2,t3,t4,t5,t6,t7,t8',t9],H,[],W,[]⟩):=by
 rw[ajG]
 simp(maxSteps:=9^9) only[au,seval,-ac,-ae,ah9]
 exact⟨_,rfl⟩
def aOx (hpf:∀c∈l,PF c)(hl:l.length<10000000)(hv:v<4)(ha:ki v l=aa)(c1:CA cf 92 a9):
  ∃t0' t2' t3' t4' t5' t6' t8' H' W',am cf ak uz ⟨[t0,jT (m1 (v+1)),t2,t3,t4,t5,t6,iT 0,t8,lT l],H,[],W,[]⟩=Z (.normal,⟨[t0',jT (m1 v),t2',t3',t4',t5',t6',iT 0,t8',lT l],H',[],W',[]⟩):=by
 have hw:=dJ (k:=v) (by omega)
 rw[show m1 (v+1)=af v from rfl]
 rcases aCs (t2:=t2) (t3:=t3) (t4:=t4) (t8:=bj ab) (H:=H) (W:=W) hpf hl hv c1 with⟨hb,_⟩|⟨_,t2',t3',t4',H',W',e⟩
 ·rw[ha]at hb;cases hb
 ·simp(maxSteps:=9^9) only[au,seval,-ac,-ae,ah9,ar,e,hw]
  exact⟨_,_,_,_,_,_,_,_,_,rfl⟩
def aJK (hpf:∀c∈l,PF c)(hl:l.length<10000000)(hv:v<4)(ha:ki v l=ab)(c1:CA cf 92 a9):
  ∃t0' t1' t2' t3' t4' t5' t6' t8' H' W',am cf ak uz ⟨[t0,jT (m1 (v+1)),t2,t3,t4,t5,t6,iT 0,t8,lT l],H,[],W,[]⟩=Z (.ret,⟨[t0',t1',t2',t3',t4',t5',t6',iT v,t8',lT l],H',[],W',[]⟩):=by
 rw[show m1 (v+1)=af v from rfl]
 rcases aCs (t2:=t2) (t3:=t3) (t4:=t4) (t8:=bj ab) (H:=H) (W:=W) hpf hl hv c1 with⟨_,i,t2',t3',t4',H',W',e⟩|⟨hb,_⟩
 ·simp(maxSteps:=9^9) only[au,seval,-ac,-ae,ah9,ar,e]
  exact⟨_,_,_,_,_,_,_,_,_,_,rfl⟩
 ·rw[ha]at hb;cases hb
end
def tHi  : Ft:=.n .z 92 (.nat a9) U .z
def aNe   {k:Cls}:tHi.Ok Tryz.prog k aH:=⟨tv,jP,tv,tv⟩
def ayb {l:List (List Mn)}(hpf:∀c∈l,PF c)(hl:l.length<10000000):bM (ao tHi.tb 10 8) ak zG.1 [lV l]=Z [sV (m1 (oX l 4))]:=by
 have c1:CA (ao tHi.tb 10 8) 92 a9:=fun _ _ _=>rfl
 generalize ao tHi.tb 10 8=cf at*
 obtain⟨R,hR⟩:∃R,oX l 4=R:=⟨_,rfl⟩
 rw[hR]
 obtain⟨x,st',hlp,_,hQ⟩:=bg (body:=am cf ak uz) (fun k st=>k≤4∧oX l k=R∧∃t0 t2 t3 t4 t5 t6 t8 H W,st=⟨[t0,jT (m1 k),t2,t3,t4,t5,t6,iT 0,t8,lT l],H,[],W,[]⟩) (fun k=>k)
  (fun x st'=>(x=.exit 0∧R=0∧∃t0 t1 t2 t3 t4 t5 t6 t8 H W,st'=⟨[t0,t1,t2,t3,t4,t5,t6,iT 0,t8,lT l],H,[],W,[]⟩)∨(x=.ret∧∃t0 t1 t2 t3 t4 t5 t6 t8 H W,st'=⟨[t0,t1,t2,t3,t4,t5,t6,jT (m1 R),t8,lT l],H,[],W,[]⟩))
  (fun k st h=>by
   obtain⟨hk,hr,t0,t2,t3,t4,t5,t6,t8,H,W,rfl⟩:=h
   cases k with
   |zero=>
    obtain⟨t8',e⟩:=aJJ (t0:=t0) (t2:=t2) (t3:=t3) (t4:=t4) (t5:=t5) (t6:=t6) (t7:=iT 0) (t8:=t8) (t9:=lT l) (H:=H) (W:=W) (cf:=cf) ak
    rw[oX]at hr
    exact .inr ⟨_,_,e,by simp,.inl ⟨rfl,hr.symm,_,_,_,_,_,_,_,_,_,_,rfl⟩⟩
   |succ v=>
    rw[oX]at hr
    cases ha:ki v l with
    |true=>
     rw[ha]at hr
     have hr:v+1=R:=hr
     subst hr
     obtain⟨t0',t1',t2',t3',t4',t5',t6',t8',H',W',e⟩:=aJK (t0:=t0) (t2:=t2) (t3:=t3) (t4:=t4) (t5:=t5) (t6:=t6) (t8:=t8) (H:=H) (W:=W) hpf hl (by omega) ha c1
     exact .inr ⟨_,_,e,by simp,.inr ⟨rfl,_,_,_,_,_,_,_,_,_,_,rfl⟩⟩
    |false=>
     rw[ha]at hr
     obtain⟨t0',t2',t3',t4',t5',t6',t8',H',W',e⟩:=aOx (t0:=t0) (t2:=t2) (t3:=t3) (t4:=t4) (t5:=t5) (t6:=t6) (t8:=t8) (H:=H) (W:=W) hpf hl (by omega) ha c1
     exact .inl ⟨v,_,e,⟨by omega,hr,_,_,_,_,_,_,_,_,_,rfl⟩,Nat.lt_succ_self v⟩)
  ak 4 ⟨[.nil,jT (m1 4),.nil,.nil,.nil,.nil,.nil,iT 0,.nil,lT l],[],[],[],[]⟩ ⟨aTS _,hR,_,_,_,_,_,_,_,_,_,rfl⟩ (aN (by decide))
 rw[show m1 4=af 3 from rfl]at hlp
 rcases hQ with⟨rfl,rfl,t0,t1,t2,t3,t4,t5,t6,t8,H,W,rfl⟩|⟨rfl,t0,t1,t2,t3,t4,t5,t6,t8,H,W,rfl⟩
 ·simp(maxSteps:=9^9) only[au,seval,-ac,-ae,aHQ,hlp]
  rfl
 ·simp(maxSteps:=9^9) only[au,seval,-ac,-ae,aHQ,hlp]
def pA:Nt
 |[.one (.sl 2 [c1,c2])]=>(match gz (.one c1),gz (.one c2)with
  |some a,Z b=>Z [sV (m1 (oX [a,b] 4))]
  |_,_=>U)
 |_=>U
def auY {k:Cls}:Cn k 168 pA:=aC (ay aNe zG.2 10 ak 8) fun al rs h=>by
 unfold pA at h
 split at h
 ·split at h
  ·rename_i a b ha hb
   cases h
   obtain⟨e1,h1,h2⟩:=eH ha
   obtain⟨e2,h3,h4⟩:=eH hb
   cases e1;cases e2
   exact ayb (l:=[a,b]) (fun c hc=>by
    rcases aTZ.1 hc with rfl|hc
    ·exact⟨h1,h2⟩
    ·rcases aTZ.1 hc with rfl|hc
     ·exact⟨h3,h4⟩
     ·cases hc) (by simp)
  ·cases h
 ·cases h
def aFA {a b:List Mn}(ha:PF a)(hb:PF b):pA [lV [a,b]]=Z [sV (m1 (oX [a,b] 4))]:=by
 have h1:=iy ha.ok ha.len
 have h2:=iy hb.ok hb.len
 simp only[pV]at h1 h2
 show pA [.one (.sl 2 [pC a,pC b])]=_
 simp only[pA,h1,h2]
def aqX:=mq ab 291 1 Tryz.func291
def aIb:=ev (fl aqX.1) aqX.1
def af3:=mq ab 310 1 Tryz.func310
def aRn:=ev (fl af3.1) af3.1
def zP:=mq ab 318 2 Tryz.func318
def uN:=pk (lp zP.1 0 []=·)
def asz:=ev (lp zP.1 0) uN
def aRo:=bO (fl zP.1) zP.1 uN
def RR (H:Hp)(y:T)(l:List Nat):Prop:=y=rT l∨∃b j,y=.t (.one (.lsl b 0 l.length 1))∧H[b]?=Z (Z (.cells (wD (l++j))))
def RN (x:Nat)(y:T):Prop:=∀b o n s,y=.t (.one (.lsl b o n s))→b≠x
def RR.set {H:Hp}{y:T}{l:List Nat}{x:Nat}(h:RR H y l)(hn:RN x y)(z:Option Blk):RR (H.set x z) y l:=by
 rcases h with h|⟨b,j,hy,hb⟩
 ·exact .inl h
 ·exact .inr ⟨b,j,hy,by rw[aUn (Ne.symm (hn b 0 _ 1 hy))];exact hb⟩
abbrev cD (b n:Nat):T:=.t (.one (.lsl b 0 n 1))
section
variable {L b t r:List Nat} {i sh n f o c u z x:Nat} {y t1 t2 t3 t4 t5 t6 t7 t8 t9 t10 t11 t12 t13 t14 t15 t16:T} {H:Hp} {W:List Nat} {cf:av}
def aGJ (hy:RR H y b)(hi:b.drop i=c::t)(hb:b.length<10000000)(hn:n<10000000)(h0:H[x]?=Z (Z (.cells (wD L))))(ho:L.drop (sh+i)=o::r)(hsn:sh+i<n)
  (e:IntKind.u64.wrap (af 2147483647-af c)=af u)(f1:u*f<18446744073709551616)(f2:o+u*f<18446744073709551616)(v:(o+u*f)%2147483647=z)(fl:Nat):
  ∃t2' t4' t5' W',am cf fl kD ⟨[cD x n,iT i,t2,iT sh,t4,t5,t6,wT f,y,iT b.length,y,t11,t12,t13,t14,t15,t16],H,[],W,[]⟩=Z (.normal,⟨[cD x n,iT (i+1),t2',iT sh,t4',t5',t6,wT f,y,iT b.length,y,t11,t12,t13,t14,t15,t16],H.set x (Z (.cells (wD (L.set (sh+i) z)))),[],W',[]⟩):=by
 have hl:=aM ho
 have h1:=aM hi
 have g1:sh+i<9223372036854775808:=by omega
 have g2:i+1<9223372036854775808:=by omega
 have g4:(wD L).drop (sh+i)=.c (iq o)::wD r:=by rw[eW,ho,iH]
 have g5:sh+i+1≤(wD L).length:=by rw[bA];omega
 have g6:=aey L (sh+i) z hl
 rcases hy with rfl|⟨bb,j,rfl,hbb⟩
 ·have g3:=abf hi
  simp(maxSteps:=9^9) only[au,seval,-ac,-ae,aim,ar,h0,h1,hsn,g1,g2,g3,g4,g5,g6,e,f1,f2,v]
  exact⟨_,_,_,_,rfl⟩
 ·have g3:(wD (b++j)).drop i=.c (iq c)::wD (t++j):=by rw[eW,List.drop_append_of_le_length (by omega),hi];rfl
  have g7:i+1≤(wD (b++j)).length:=by rw[bA,aTW];omega
  simp(maxSteps:=9^9) only[au,seval,-ac,-ae,aim,ar,h0,hbb,h1,hsn,g1,g2,g3,g4,g5,g6,g7,e,f1,f2,v]
  exact⟨_,_,_,_,rfl⟩
def aMD (fl:Nat):
  ∃t5',am cf fl kD ⟨[cD x n,iT i,t2,t3,t4,t5,t6,t7,y,iT i,t10,t11,t12,t13,t14,t15,t16],H,[],W,[]⟩=Z (.exit 4,⟨[cD x n,iT i,t2,t3,t4,t5',t6,t7,y,iT i,t10,t11,t12,t13,t14,t15,t16],H,[],W,[]⟩):=by
 simp(maxSteps:=9^9) only[au,seval,-ac,-ae,aim,ar]
 exact⟨_,rfl⟩
def aMI (fl:Nat):
  ∃t6',am cf fl jN ⟨[cD x 0,t1,t2,t3,t4,t5,t6,t7,t8,t9,t10,t11,t12,t13,t14,t15,t16],H,[],W,[]⟩=Z (.exit 6,⟨[cD x 0,t1,t2,t3,t4,t5,t6',t7,t8,t9,t10,t11,t12,t13,t14,t15,t16],H,[],W,[]⟩):=by
 simp(maxSteps:=9^9) only[au,seval,-ac,-ae,acU,ar]
 exact⟨_,rfl⟩
def aPq {k:Nat}(hn:k+1=n)(hk:k<10000000)(h0:H[x]?=Z (Z (.cells (wD L))))(h:L.drop k=0::r)(fl:Nat):
  ∃t6' W',am cf fl jN ⟨[cD x n,t1,t2,t3,t4,t5,t6,t7,t8,t9,t10,t11,t12,t13,t14,t15,t16],H,[],W,[]⟩=Z (.normal,⟨[cD x k,t1,t2,t3,t4,t5,t6',t7,t8,t9,t10,t11,t12,t13,t14,t15,t16],H,[],W',[]⟩):=by
 have hl:=aM h
 have g4:(wD L).drop k=.c (iq 0)::wD r:=by rw[eW,h,iH]
 have g5:k+1≤(wD L).length:=by rw[bA];omega
 have hw:IntKind.i64.wrap (af n-af 1)=af k:=by rw[← hn];exact dJ (k:=k+1) (by omega)
 have p1:0<n:=by omega
 have p2:k<n:=by omega
 have p3:k≤n:=by omega
 clear hn
 cases k with
 |zero=>
  simp(maxSteps:=9^9) only[au,seval,-ac,-ae,acU,ar,h0,hw,g4,g5,p1,p2,p3]
  exact⟨_,_,rfl⟩
 |succ k=>
  have p4:0<k+1:=Nat.succ_pos k
  simp(maxSteps:=9^9) only[au,seval,-ac,-ae,acU,ar,h0,hw,g4,g5,p1,p2,p3,p4]
  exact⟨_,_,rfl⟩
def aGO {k m:Nat}(hn:k+1=n)(hk:k<10000000)(h0:H[x]?=Z (Z (.cells (wD L))))(h:L.drop k=(m+1)::r)(fl:Nat):
  ∃t6' W',am cf fl jN ⟨[cD x n,t1,t2,t3,t4,t5,t6,t7,t8,t9,t10,t11,t12,t13,t14,t15,t16],H,[],W,[]⟩=Z (.exit 6,⟨[cD x n,t1,t2,t3,t4,t5,t6',t7,t8,t9,t10,t11,t12,t13,t14,t15,t16],H,[],W',[]⟩):=by
 have hl:=aM h
 have g4:(wD L).drop k=.c (iq (m+1))::wD r:=by rw[eW,h,iH]
 have g5:k+1≤(wD L).length:=by rw[bA];omega
 have hw:IntKind.i64.wrap (af n-af 1)=af k:=by rw[← hn];exact dJ (k:=k+1) (by omega)
 have p1:0<n:=by omega
 have p2:k<n:=by omega
 have p3:(m+1==0)=aa:=rfl
 clear hn
 simp(maxSteps:=9^9) only[au,seval,-ac,-ae,acU,ar,h0,hw,g4,g5,p1,p2,p3]
 exact⟨_,_,rfl⟩
end
def KH (x:Nat)(H0 H:Hp):Prop:=H.length=H0.length∧∀i,i≠x→H[i]?=H0[i]?
def KH.refl (x:Nat)(H:Hp):KH x H H:=⟨rfl,fun _ _=>rfl⟩
def KH.set {x:Nat}{H0 H:Hp}(h:KH x H0 H)(z:Option Blk):KH x H0 (H.set x z):=⟨by rw[List.length_set];exact h.1,fun i hi=>by rw[aUn (Ne.symm hi)];exact h.2 i hi⟩
def KH.trans {x:Nat}{H0 H1 H2:Hp}(h:KH x H0 H1)(h':KH x H1 H2):KH x H0 H2:=⟨h'.1.trans h.1,fun i hi=>(h'.2 i hi).trans (h.2 i hi)⟩
def RR.keep {x:Nat}{H0 H:Hp}{y:T}{l:List Nat}(h:RR H0 y l)(hn:RN x y)(hk:KH x H0 H):RR H y l:=by
 rcases h with h|⟨b,j,hy,hb⟩
 ·exact .inl h
 ·exact .inr ⟨b,j,hy,by rw[hk.2 b (hn b 0 _ 1 hy)];exact hb⟩
def aaG {H:Hp}{x:Nat}{y z:Option Blk}(h:H[x]?=Z y):(H.set x z)[x]?=Z z:=by
 rw[List.getElem?_set_self (aTU.1 h).1]
def aGI {b L0:List Nat}{sh n f x:Nat}{y:T}(hb:b.length<10000000)(hn:n<10000000)(hB:rQ b)(hP:iz L0)(hf:f<2147483647)(hs:sh+b.length=n)(hL:n≤L0.length){t2 t4 t5 t6 t11 t12 t13 t14 t15 t16:T}{H0:Hp}{W:List Nat}{cf:av}(hy:RR H0 y b)(hx:RN x y)(h0:H0[x]?=Z (Z (.cells (wD L0)))):
  ∃t2' t4' t5' H' W',aG (am cf ak kD) ak ⟨[cD x n,iT 0,t2,iT sh,t4,t5,t6,wT f,y,iT b.length,y,t11,t12,t13,t14,t15,t16],H0,[],W,[]⟩=Z (.exit 4,⟨[cD x n,iT b.length,t2',iT sh,t4',t5',t6,wT f,y,iT b.length,y,t11,t12,t13,t14,t15,t16],H',[],W',[]⟩)∧KH x H0 H'∧H'[x]?=Z (Z (.cells (wD (bN f L0 sh b)))):=by
 obtain⟨st',hl,t2',t4',t5',H',W',rfl,r1,r2⟩:=bq (body:=am cf ak kD) (id:=4) b.length
  (fun i st=>∃t2 t4 t5 H W L,st=⟨[cD x n,iT i,t2,iT sh,t4,t5,t6,wT f,y,iT b.length,y,t11,t12,t13,t14,t15,t16],H,[],W,[]⟩∧KH x H0 H∧H[x]?=Z (Z (.cells (wD L)))∧L.length=L0.length∧iz L∧bN f L (sh+i) (b.drop i)=bN f L0 sh b)
  (fun st=>∃t2 t4 t5 H W,st=⟨[cD x n,iT b.length,t2,iT sh,t4,t5,t6,wT f,y,iT b.length,y,t11,t12,t13,t14,t15,t16],H,[],W,[]⟩∧KH x H0 H∧H[x]?=Z (Z (.cells (wD (bN f L0 sh b)))))
  (fun i st hi=>by
   rintro⟨t2,t4,t5,H,W,L,rfl,hk,hh,hLl,hLP,hu⟩
   obtain⟨c,t,hc⟩:=bo hi
   obtain⟨o,r,ho⟩:=bo (p:=L) (i:=sh+i) (by omega)
   have hcP:=hB c (aX hc)
   have hoP:=hLP o (aX ho)
   obtain⟨f1,f2⟩:=avK (c:=c) (u:=2147483647-c) (f:=f) (o:=o) (by omega) hf hoP
   have e:=aMP hcP
   rw[hc,aad ho]at hu
   have hz:(o+(2147483647-c)*f)%2147483647<2147483648:=aUj (aUb _ (by omega)) (by omega)
   obtain⟨u,hu'⟩:∃u,2147483647-c=u:=⟨_,rfl⟩
   rw[hu']at e f1 f2 hu hz
   obtain⟨z,hz'⟩:∃z,(o+u*f)%2147483647=z:=⟨_,rfl⟩
   rw[hz']at hu hz
   obtain⟨t2',t4',t5',W',h⟩:=aGJ (n:=n) (x:=x) (t2:=t2) (t4:=t4) (t5:=t5) (t6:=t6) (t11:=t11) (t12:=t12) (t13:=t13) (t14:=t14) (t15:=t15) (t16:=t16) (W:=W) (cf:=cf) (hy.keep hx hk) hc hb hn hh ho (by omega) e f1 f2 hz' ak
   exact⟨_,h,_,_,_,_,_,_,rfl,hk.set _,aaG hh,by rw[List.length_set];exact hLl,anY hLP hz,by rw[bf hc];exact hu⟩)
  (fun st=>by
   rintro⟨t2,t4,t5,H,W,L,rfl,hk,hh,hLl,hLP,hu⟩
   obtain⟨t5',h⟩:=aMD (i:=b.length) (x:=x) (n:=n) (t2:=t2) (t3:=iT sh) (t4:=t4) (t5:=t5) (t6:=t6) (t7:=wT f) (y:=y) (t10:=y) (t11:=t11) (t12:=t12) (t13:=t13) (t14:=t14) (t15:=t15) (t16:=t16) (H:=H) (W:=W) (cf:=cf) ak
   rw[aUg,w7]at hu
   subst hu
   exact⟨_,h,_,_,_,_,_,rfl,hk,hh⟩)
  ak _ ⟨t2,t4,t5,H0,W,L0,rfl,KH.refl _ _,h0,rfl,hP,by rw[List.drop_zero,Nat.add_zero]⟩ (aN hb)
 exact⟨_,_,_,_,_,hl,r1,r2⟩
def aGN {row junk:List Nat}{x:Nat}(hr:row.length<10000000){t1 t2 t3 t4 t5 t6 t7 t8 t9 t10 t11 t12 t13 t14 t15 t16:T}{H:Hp}{W:List Nat}{cf:av}(h0:H[x]?=Z (Z (.cells (wD (row++junk))))):
  ∃t6' W' junk',aG (am cf ak jN) ak ⟨[cD x row.length,t1,t2,t3,t4,t5,t6,t7,t8,t9,t10,t11,t12,t13,t14,t15,t16],H,[],W,[]⟩=Z (.exit 6,⟨[cD x (cC row).length,t1,t2,t3,t4,t5,t6',t7,t8,t9,t10,t11,t12,t13,t14,t15,t16],H,[],W',[]⟩)∧cC row++junk'=row++junk:=by
 obtain⟨L0,hL0⟩:∃L0,row++junk=L0:=⟨_,rfl⟩
 rw[hL0]at h0 ⊢
 obtain⟨R,hR⟩:∃R,cC row=R:=⟨_,rfl⟩
 rw[hR]
 obtain⟨_,st',hl,_,rfl,t6',W',junk',rfl,hj⟩:=bg (body:=am cf ak jN) (fun r st=>r.length<10000000∧∃t6 W j,st=⟨[cD x r.length,t1,t2,t3,t4,t5,t6,t7,t8,t9,t10,t11,t12,t13,t14,t15,t16],H,[],W,[]⟩∧r++j=L0∧cC r=R) (fun r:List Nat=>r.length)
  (fun q st'=>q=.exit 6∧∃t6 W j,st'=⟨[cD x R.length,t1,t2,t3,t4,t5,t6,t7,t8,t9,t10,t11,t12,t13,t14,t15,t16],H,[],W,[]⟩∧R++j=L0)
  (fun r st h=>by
   obtain⟨hlen,t6,W,j,rfl,hj,ht⟩:=h
   rcases an0 r with rfl|⟨r,m,rfl⟩
   ·obtain⟨t6',e⟩:=aMI (x:=x) (t1:=t1) (t2:=t2) (t3:=t3) (t4:=t4) (t5:=t5) (t6:=t6) (t7:=t7) (t8:=t8) (t9:=t9) (t10:=t10) (t11:=t11) (t12:=t12) (t13:=t13) (t14:=t14) (t15:=t15) (t16:=t16) (H:=H) (W:=W) (cf:=cf) ak
    subst ht
    exact .inr ⟨_,_,e,by simp,rfl,_,_,_,rfl,hj⟩
   ·have hk:r.length+1=(r++[m]).length:=by rw[aTW];rfl
    have hd:L0.drop r.length=m::j:=by rw[← hj,aUr,List.drop_left];rfl
    cases m with
    |zero=>
     obtain⟨t6',W',e⟩:=aPq (x:=x) (t1:=t1) (t2:=t2) (t3:=t3) (t4:=t4) (t5:=t5) (t6:=t6) (t7:=t7) (t8:=t8) (t9:=t9) (t10:=t10) (t11:=t11) (t12:=t12) (t13:=t13) (t14:=t14) (t15:=t15) (t16:=t16) (W:=W) (cf:=cf) hk (by omega) h0 hd ak
     exact .inl ⟨r,_,e,⟨by omega,_,_,_,rfl,by rw[← hj,aUr],by rw[← ht,als]⟩,by omega⟩
    |succ m=>
     obtain⟨t6',W',e⟩:=aGO (x:=x) (t1:=t1) (t2:=t2) (t3:=t3) (t4:=t4) (t5:=t5) (t6:=t6) (t7:=t7) (t8:=t8) (t9:=t9) (t10:=t10) (t11:=t11) (t12:=t12) (t13:=t13) (t14:=t14) (t15:=t15) (t16:=t16) (W:=W) (cf:=cf) hk (by omega) h0 hd ak
     rw[alu]at ht
     subst ht
     exact .inr ⟨_,_,e,by simp,rfl,_,_,_,rfl,hj⟩)
  ak row _ ⟨hr,t6,W,junk,rfl,hL0,hR⟩ (aN hr)
 exact⟨_,_,_,hl,hj⟩
end
end Go.Proofs.YtfiijelajgifiaaGreat
