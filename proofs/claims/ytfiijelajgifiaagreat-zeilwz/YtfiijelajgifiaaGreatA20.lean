/-
  Part 20 of the machine and of the contracts of functions of the program (packed).
-/
import Derived.Test.YtfiijelajgifiaaGreatA19
set_option linter.all false
set_option linter.defProp false
open Bool renaming false→aa,true→ab
open Int renaming reduceOfNat→ac,reduceNegSucc→ae,ofNat→af
open List renaming getElem?_eq_some_iff→aTU,length_cons→aTV,length_append→aTW,mem_cons→aTZ,mem_cons_self→aT0,mem_cons_of_mem→aT8,length_nil→aUf,drop_length→aUg,append_assoc→aUr
open Nat renaming blt→ah,blt_eq→aTR,le_refl→aTS,zero_add→aUe
open Option renaming some→Z,none→U
namespace Go.Proofs.YtfiijelajgifiaaGreat
noncomputable section
open Go Go.Mach Go.Flow
set_option maxRecDepth 100000
set_option maxHeartbeats 4000000
def lu (m:Mn):List Mn→Option (List Mn)
 |[]=>Z [m]
 |k::r=>match bp k m with
  |true=>(match Q.okB (ap (k.q.add m.q).n) (k.q.add m.q).d with|true=>Z (m.with (k.q.add m.q)::r)|false=>U)
  |false=>(match lu m r with|some o=>Z (k::o)|none=>U)
def xO {m:Mn}(hm:m.Ok):∀{ts o:List Mn},cK ts→lu m ts=Z o→o=adT m ts∧cK o
 |[],o,_,h=>by
  cases h
  exact⟨rfl,fun x hx=>by
   rcases aTZ.1 hx with rfl|hx
   ·exact hm
   ·cases hx⟩
 |k::r,o,ho,h=>by
  unfold lu at h
  unfold adT
  have ok:=ho k aT0
  have ho':cK r:=fun x hx=>ho x (aT8 _ hx)
  split at h
  ·rename_i he
   split at h
   ·rename_i hs
    cases h
    rw[he]
    exact⟨rfl,fun x hx=>by
     rcases aTZ.1 hx with rfl|hx
     ·exact⟨hm.a,hm.b,hm.c,hm.d,avw hs⟩
     ·exact ho' x hx⟩
   ·cases h
  ·rename_i he
   split at h
   ·rename_i o' h'
    cases h
    obtain⟨rfl,h2⟩:=xO hm ho' h'
    rw[he]
    exact⟨rfl,fun x hx=>by
     rcases aTZ.1 hx with rfl|hx
     ·exact ok
     ·exact h2 x hx⟩
   ·cases h
def sD (x:Mn):List Mn→List Mn→Option (List Mn)
 |[],o=>Z o
 |y::q,o=>match gS (x.mul y)with
  |false=>U
  |true=>match lu (x.mul y) o with
   |some o'=>sD x q o'
   |none=>U
def qR (q:List Mn):List Mn→List Mn→Option (List Mn)
 |[],o=>Z o
 |x::p,o=>match sD x q o with
  |some o'=>qR q p o'
  |none=>U
def s8 (cf:av):List T→Hp→List Nat→Option (T × Hp × List Nat × List Nat):=cy cf 10 tw.1
def aFq {x y:Mn}{q t:List Mn}{i b:Nat}{t0 t1 t2 t3 t4 t7 t11 t12 t13 t14 t15 t16 t17:T}{H H':Hp}{W W1:List Nat}{cf cg:av}(hx:x.Ok)(hy:y.Ok)(hi:q.drop i=y::t)(hl:q.length<10000000)(hbx:H[b]?=Z (mB x))
  (e1:iE [eQ x.q,eQ y.q]=Z [eQ (x.q.mul y.q)])(eA:s8 cg [b7 0,keT (x.mul y),.t (.agg (qD (x.mul y).q))] (H++[mB y]++[Z (.cells [.c (eC (x.a+y.a)),.c (eC (x.b+y.b)),.c (eC (x.c+y.c)),.c (eC (x.d+y.d))])]) []=Z (.tup [],H',[],W1))
  (c1:CA cf 162 iE)(c2:∀x y z H S,cf (fT 161) [x,y,z] H S=s8 cg [x,y,z] H S):
  ∃t0' t1' t2' t3' t4' t7' W',am cf ak ss ⟨[t0,t1,t2,t3,t4,iT i,.t (.one (.ptr b 0)),t7,pT q,iT q.length,b7 0,t11,t12,t13,t14,t15,t16,t17],H,[],W,[]⟩=Z (.normal,⟨[t0',t1',t2',t3',t4',iT (i+1),.t (.one (.ptr b 0)),t7',pT q,iT q.length,b7 0,t11,t12,t13,t14,t15,t16,t17],H',[],W',[]⟩):=by
 have hd:=bW hi
 have h1:=aM hi
 have f1:i+1<9223372036854775808:=by omega
 have a1:=hx.a;have a2:=hx.b;have a3:=hx.c;have a4:=hx.d
 have b1:=hy.a;have b2:=hy.b;have b3:=hy.c;have b4:=hy.d
 have g1:x.a+y.a<9223372036854775808:=by omega
 have g2:x.b+y.b<9223372036854775808:=by omega
 have g3:x.c+y.c<9223372036854775808:=by omega
 have g4:x.d+y.d<9223372036854775808:=by omega
 have gA:∀(H':Hp),H'[b]?=Z (mB x)→∀z,(H'++[z])[b]?=Z (mB x):=fun H' h z=>fU h z
 simp only[Mn.mul]at eA
 obtain⟨g,hg⟩:∃g,ak=g+6:=⟨ak-6,by have:=aN (n:=10) (by omega);omega⟩
 rw[hg]
 simp(maxSteps:=9^9) (maxDischargeDepth:=6) only[au,seval,-ac,-ae,aG,aBV,aOb,ar,c1,c2,e1,eA,h1,hd,hbx,gA,f1,g1,g2,g3,g4,bk,bx,l6,nC,v8,aa4]
 exact⟨_,_,_,_,_,_,_,rfl⟩
def aKH {n b:Nat}(hl:n<10000000){t0 t1 t2 t3 t4 t7 t8 t11 t12 t13 t14 t15 t16 t17:T}{H:Hp}{W:List Nat}{cf:av}(fl:Nat):
  ∃t7',am cf fl ss ⟨[t0,t1,t2,t3,t4,iT n,.t (.one (.ptr b 0)),t7,t8,iT n,b7 0,t11,t12,t13,t14,t15,t16,t17],H,[],W,[]⟩=Z (.exit 2,⟨[t0,t1,t2,t3,t4,iT n,.t (.one (.ptr b 0)),t7',t8,iT n,b7 0,t11,t12,t13,t14,t15,t16,t17],H,[],W,[]⟩):=by
 simp(maxSteps:=9^9) only[au,seval,-ac,-ae,aBV]
 exact⟨_,rfl⟩
abbrev oU (H:Hp)(o:List Mn):Prop:=H[0]?=Z (Z (.mp (o.map fv)))
def aFp {x:Mn}{q O:List Mn}{b:Nat}(hx:x.Ok)(hq:PF q)(hb:0<b){cf cg:av}(c1:CA cf 162 iE)(c2:∀x y z H S,cf (fT 161) [x,y,z] H S=s8 cg [x,y,z] H S)(c3:CA cg 182 cV)
  {o:List Mn}{H:Hp}{W:List Nat}{t0 t1 t2 t3 t4 t7 t11 t12 t13 t14 t15 t16 t17:T}(hO:sD x q o=Z O)(ho:cK o)(hH:oU H o)(hbx:H[b]?=Z (mB x)):
  ∃t0' t1' t2' t3' t4' t7' H' W',aG (am cf ak ss) ak ⟨[t0,t1,t2,t3,t4,iT 0,.t (.one (.ptr b 0)),t7,pT q,iT q.length,b7 0,t11,t12,t13,t14,t15,t16,t17],H,[],W,[]⟩=Z (.exit 2,⟨[t0',t1',t2',t3',t4',iT q.length,.t (.one (.ptr b 0)),t7',pT q,iT q.length,b7 0,t11,t12,t13,t14,t15,t16,t17],H',[],W',[]⟩)∧oU H' O∧cK O:=by
 obtain⟨st',hl,t0',t1',t2',t3',t4',t7',H',W',rfl,r1,r2⟩:=bq (body:=am cf ak ss) (id:=2) q.length
  (fun i st=>∃t0 t1 t2 t3 t4 t7 H W o,st=⟨[t0,t1,t2,t3,t4,iT i,.t (.one (.ptr b 0)),t7,pT q,iT q.length,b7 0,t11,t12,t13,t14,t15,t16,t17],H,[],W,[]⟩∧oU H o∧H[b]?=Z (mB x)∧cK o∧sD x (q.drop i) o=Z O)
  (fun st=>∃t0 t1 t2 t3 t4 t7 H W,st=⟨[t0,t1,t2,t3,t4,iT q.length,.t (.one (.ptr b 0)),t7,pT q,iT q.length,b7 0,t11,t12,t13,t14,t15,t16,t17],H,[],W,[]⟩∧oU H O∧cK O)
  (fun i st hi=>by
   rintro⟨t0,t1,t2,t3,t4,t7,H,W,o,rfl,hH,hbx,ho,hr⟩
   obtain⟨y,t,hm⟩:=bo hi
   have hy:=hq.ok y (aX hm)
   rw[hm,sD]at hr
   split at hr
   ·cases hr
   ·rename_i g1
    split at hr
    ·rename_i o' g2
     have hxy:=jR g1
     obtain⟨rfl,ho'⟩:=xO hxy ho g2
     have hbl:=(aTU.1 hbx).1
     have h0l:=(aTU.1 hH).1
     obtain⟨H',W1,eA,r1,r2⟩:=aiC (b:=0) (H:=H++[mB y]++[Z (.cells [.c (eC (x.a+y.a)),.c (eC (x.b+y.b)),.c (eC (x.c+y.c)),.c (eC (x.d+y.d))])]) ho hxy (fU (fU hH _) _) c3 10
     obtain⟨t0',t1',t2',t3',t4',t7',W',e⟩:=aFq (cg:=cg) (t0:=t0) (t1:=t1) (t2:=t2) (t3:=t3) (t4:=t4) (t7:=t7) (t11:=t11) (t12:=t12) (t13:=t13) (t14:=t14) (t15:=t15) (t16:=t16) (t17:=t17) (W:=W) hx hy hm hq.len hbx (akc hx.q hy.q) eA c1 c2
     exact⟨_,e,_,_,_,_,_,_,_,_,_,rfl,r1,by rw[r2 b (by simp;omega) (by omega)];exact fU (fU hbx _) _,ho',by rw[bf hm];exact hr⟩
    ·cases hr)
  (fun st=>by
   rintro⟨t0,t1,t2,t3,t4,t7,H,W,o,rfl,hH,hbx,ho,hr⟩
   obtain⟨t7',e⟩:=aKH (n:=q.length) (b:=b) hq.len (t0:=t0) (t1:=t1) (t2:=t2) (t3:=t3) (t4:=t4) (t7:=t7) (t8:=pT q) (t11:=t11) (t12:=t12) (t13:=t13) (t14:=t14) (t15:=t15) (t16:=t16) (t17:=t17) (H:=H) (W:=W) (cf:=cf) ak
   rw[aUg,sD]at hr
   cases hr
   exact⟨_,e,_,_,_,_,_,_,_,_,rfl,hH,ho⟩)
  ak _ ⟨t0,t1,t2,t3,t4,t7,H,W,o,rfl,hH,hbx,ho,hO⟩ (aN hq.len)
 exact⟨_,_,_,_,_,_,_,_,hl,r1,r2⟩
def aFl {x:Mn}{p t q o O:List Mn}{i:Nat}(hi:p.drop i=x::t)(hl:p.length<10000000)(hx:x.Ok)(hq:PF q){cf cg:av}(c1:CA cf 162 iE)(c2:∀x y z H S,cf (fT 161) [x,y,z] H S=s8 cg [x,y,z] H S)(c3:CA cg 182 cV)
  {H:Hp}{W:List Nat}{t0 t1 t2 t3 t4 t5 t6 t7 t8 t9 t12 t16 t17:T}(hO:sD x q o=Z O)(ho:cK o)(hH:oU H o):
  ∃t0' t1' t2' t3' t4' t5' t6' t7' t8' t9' t12' H' W',am cf ak adI ⟨[t0,t1,t2,t3,t4,t5,t6,t7,t8,t9,b7 0,iT i,t12,pT p,iT p.length,pT q,t16,t17],H,[],W,[]⟩=Z (.normal,⟨[t0',t1',t2',t3',t4',t5',t6',t7',t8',t9',b7 0,iT (i+1),t12',pT p,iT p.length,pT q,t16,t17],H',[],W',[]⟩)∧oU H' O∧cK O:=by
 have hd:=bW hi
 have h1:=aM hi
 have f1:i+1<9223372036854775808:=by omega
 have h0l:=(aTU.1 hH).1
 obtain⟨t0',t1',t2',t3',t4',t7',H',W',hlp,r1,r2⟩:=aFp (b:=H.length) (H:=H++[mB x]) (W:=H.length::W) hx hq h0l c1 c2 c3 (t0:=t0) (t1:=t1) (t2:=t2) (t3:=t3) (t4:=t4) (t7:=t7) (t11:=iT i) (t12:=.t (.one (.c (.v (.bool ab))))) (t13:=pT p) (t14:=iT p.length) (t15:=pT q) (t16:=t16) (t17:=t17) hO ho (fU hH _) (bk _ _)
 simp(maxSteps:=9^9) only[au,seval,-ac,-ae,aBU,h1,hd,f1,bk,bx,mA,hlp]
 exact⟨_,_,_,_,_,_,_,_,_,_,_,_,_,rfl,r1,r2⟩
def aKD {n:Nat}(hl:n<10000000){t0 t1 t2 t3 t4 t5 t6 t7 t8 t9 t10 t12 t13 t15 t16 t17:T}{H:Hp}{W:List Nat}{cf:av}(fl:Nat):
  ∃t12',am cf fl adI ⟨[t0,t1,t2,t3,t4,t5,t6,t7,t8,t9,t10,iT n,t12,t13,iT n,t15,t16,t17],H,[],W,[]⟩=Z (.exit 0,⟨[t0,t1,t2,t3,t4,t5,t6,t7,t8,t9,t10,iT n,t12',t13,iT n,t15,t16,t17],H,[],W,[]⟩):=by
 simp(maxSteps:=9^9) only[au,seval,-ac,-ae,aBU]
 exact⟨_,rfl⟩
def br (p q:List Mn):Option (List Mn):=match qR q p []with
 |some o=>(match ah o.length 10000000,cx (cu (fA o))with|true,ab=>Z (cu (fA o))|_,_=>U)
 |none=>U
def tMp  : Ft:=.n (.n (.n .z 161 (.code tw.1) U .z) 162 (.nat iE) U .z) 163 (.wnat coN) U (.n .z 182 (.nat cV) U .z)
def aNs   {k:Cls}:tMp.Ok Tryz.prog k aH:=⟨⟨⟨tv,tw.2,tv,tv⟩,ach,tv,tv⟩,amv,tv,⟨tv,wt,tv,tv⟩⟩
def ayW {p q r:List Mn}(hp:PF p)(hq:PF q)(h:br p q=Z r):bM (ao tMp.tb 10 8) ak q89.1 [pV p,pV q]=Z [pV r]:=by
 have c1:CA (ao tMp.tb 10 8) 162 iE:=fun _ _ _=>rfl
 have c2:∀x y z H S,ao tMp.tb 10 8 (fT 161) [x,y,z] H S=s8 (ao tMp.tb 10 7) [x,y,z] H S:=fun _ _ _ _ _=>rfl
 have c3:CA (ao tMp.tb 10 7) 182 cV:=fun _ _ _=>rfl
 have c4:∀x H S,ao tMp.tb 10 8 (fT 163) [x] H S=coN [x] H S:=fun _ _ _=>rfl
 generalize ao tMp.tb 10 8=cf at*
 generalize ao tMp.tb 10 7=cg at*
 unfold br at h
 split at h
 rotate_left
 ·cases h
 rename_i O hO
 split at h
 rotate_left
 ·cases h
 rename_i hlen hsrt
 cases h
 rw[aTR]at hlen
 obtain⟨st',hl,t0,t1,t2,t3,t4,t5,t6,t7,t8,t9,t12,H,W,rfl,r1,r2⟩:=bq (body:=am cf ak adI) (id:=0) p.length
  (fun i st=>∃t0 t1 t2 t3 t4 t5 t6 t7 t8 t9 t12 H W o,st=⟨[t0,t1,t2,t3,t4,t5,t6,t7,t8,t9,b7 0,iT i,t12,pT p,iT p.length,pT q,aR,pT p],H,[],W,[]⟩∧oU H o∧cK o∧qR q (p.drop i) o=Z O)
  (fun st=>∃t0 t1 t2 t3 t4 t5 t6 t7 t8 t9 t12 H W,st=⟨[t0,t1,t2,t3,t4,t5,t6,t7,t8,t9,b7 0,iT p.length,t12,pT p,iT p.length,pT q,aR,pT p],H,[],W,[]⟩∧oU H O∧cK O)
  (fun i st hi=>by
   rintro⟨t0,t1,t2,t3,t4,t5,t6,t7,t8,t9,t12,H,W,o,rfl,hH,ho,hr⟩
   obtain⟨x,t,hm⟩:=bo hi
   rw[hm,qR]at hr
   split at hr
   ·rename_i o' g1
    obtain⟨t0',t1',t2',t3',t4',t5',t6',t7',t8',t9',t12',H',W',e,q1,q2⟩:=aFl (t0:=t0) (t1:=t1) (t2:=t2) (t3:=t3) (t4:=t4) (t5:=t5) (t6:=t6) (t7:=t7) (t8:=t8) (t9:=t9) (t12:=t12) (t16:=aR) (t17:=pT p) (W:=W) hm hp.len (hp.ok x (aX hm)) hq c1 c2 c3 g1 ho hH
    exact⟨_,e,_,_,_,_,_,_,_,_,_,_,_,_,_,_,rfl,q1,q2,by rw[bf hm];exact hr⟩
   ·cases hr)
  (fun st=>by
   rintro⟨t0,t1,t2,t3,t4,t5,t6,t7,t8,t9,t12,H,W,o,rfl,hH,ho,hr⟩
   obtain⟨t12',e⟩:=aKD (n:=p.length) hp.len (t0:=t0) (t1:=t1) (t2:=t2) (t3:=t3) (t4:=t4) (t5:=t5) (t6:=t6) (t7:=t7) (t8:=t8) (t9:=t9) (t10:=b7 0) (t12:=t12) (t13:=pT p) (t15:=pT q) (t16:=aR) (t17:=pT p) (H:=H) (W:=W) (cf:=cf) ak
   rw[aUg,qR]at hr
   cases hr
   exact⟨_,e,_,_,_,_,_,_,_,_,_,_,_,_,_,rfl,hH,ho⟩)
  ak _ ⟨.nil,.nil,.nil,.nil,.nil,.nil,.nil,.nil,.nil,.nil,.nil,[Z (.mp [])],[],[],rfl,rfl,fun m hm=>(List.not_mem_nil hm).elim,hO⟩ (aN hp.len)
 obtain⟨H',eC⟩:=aiP r1 r2 hlen hsrt
 simp(maxSteps:=9^9) only[au,seval,-ac,-ae,E89,hl,c4,eC]
def bU:=kI fun p q=>match br p q with|some r=>Z [pV r]|none=>U
def iF {p q r:List Mn}(hp:PF p)(hq:PF q)(h:br p q=Z r):bU [pV p,pV q]=Z [pV r]:=by
 unfold bU
 rw[i7 hp hq]
 simp only[h]
def jQ {k:Cls}:Cn k 89 bU:=dG (ay aNs q89.2 10 ak 8) fun p q rs hp hq h=>by
 split at h
 ·rename_i r e
  cases h;exact ayW hp hq e
 ·cases h
def yj (b:List Mn)(k:Mn):Nat→List Mn→Option (Option (List Mn))
 |0,_=>U
 |f+1,p=>match p with
  |[]=>Z (Z [])
  |m::t=>match xr k m with
   |false=>Z U
   |true=>match gS (m.sub k (m.q.div k.q))with
    |false=>U
    |true=>match br b [m.sub k (m.q.div k.q)]with
     |none=>U
     |some s=>match dN s with
      |false=>U
      |true=>match dN (fX (m::t) s)with
       |false=>U
       |true=>(match yj b k f (fX (m::t) s)with
        |some (Z l)=>Z (Z (m.sub k (m.q.div k.q)::l))
        |some U=>Z U
        |none=>U)
section
variable {b p t bt r s u:List Mn} {m k:Mn} {x:Q} {y t0 t1 t2 t3 t7 t8 t9 t10 t11:T} {H:Hp} {W:List Nat} {cf:av} {z1 z2 z3 z4:Int}
def aKx (w1:IntKind.i64.wrap (af m.a-af k.a)=z1)(w2:IntKind.i64.wrap (af m.b-af k.b)=z2)(w3:IntKind.i64.wrap (af m.c-af k.c)=z3)(w4:IntKind.i64.wrap (af m.d-af k.d)=z4)
  (e1:aY [zE z1 z2 z3 z4]=Z [bV aa])(c1:CA cf 151 aY):
  ∃t0' t1' t2' t3' t7' t8' H' W',am cf ak qJ ⟨[t0,t1,t2,t3,pT (k::bt),pT (m::t),y,t7,t8,t9,t10,t11],H,[],W,[]⟩=Z (.ret,⟨[t0',t1',t2',t3',pT (k::bt),pT (m::t),y,t7',t8',aR,.t (.one (.c (.v (.bool aa)))),t11],H',[],W',[]⟩):=by
 obtain⟨g,hg⟩:∃g,ak=g+6:=⟨ak-6,by have:=aN (n:=10) (by omega);omega⟩
 rw[hg]
 simp(maxSteps:=9^9) (maxDischargeDepth:=6) only[au,seval,-ac,-ae,aG,ah8,asd,ar,dH,Nat.succ_pos,Nat.zero_lt_succ,w1,w2,w3,w4,c1,e1,bk,bx]
 exact⟨_,_,_,_,_,_,_,_,rfl⟩
def aOJ (hr:r.length<100000000)(hG:GotP 0 H y r)(w1:IntKind.i64.wrap (af m.a-af k.a)=af (m.a-k.a))(w2:IntKind.i64.wrap (af m.b-af k.b)=af (m.b-k.b))(w3:IntKind.i64.wrap (af m.c-af k.c)=af (m.c-k.c))(w4:IntKind.i64.wrap (af m.d-af k.d)=af (m.d-k.d))
  (e1:aY [eV (m.a-k.a) (m.b-k.b) (m.c-k.c) (m.d-k.d)]=Z [bV ab])(e2:fW [eQ m.q,eQ k.q]=Z [eQ x,sV (af 0)])(e3:bU [pV (k::bt),pV [m.sub k x]]=Z [pV s])(e4:cS [pV (m::t),pV s]=Z [pV u])
  (c1:CA cf 151 aY)(c2:CA cf 173 fW)(c3:CA cf 89 bU)(c4:CA cf 104 cS):
  ∃t0' t1' y' t2' t3' t7' t8' H' W',am cf ak qJ ⟨[t0,t1,t2,t3,pT (k::bt),pT (m::t),y,t7,t8,t9,t10,t11],H,[],W,[]⟩=Z (.normal,⟨[t0',t1',t2',t3',pT (k::bt),pT u,y',t7',t8',t9,t10,t11],H',[],W',[]⟩)∧GotP 0 H' y' (r++[m.sub k x]):=by
 have gG:∀(H':Hp),GotP 0 H' y r→∀x,GotP 0 (H'++[x]) y r:=fun H' h x=>h.snoc x
 have hA:=fun(H':Hp) (x':T) (hx:ch H' 8 x'=Z (1,mD (m.sub k x))) (h:GotP 0 H' y r)=>dS hr (m.sub k x) x' H' hx h
 simp only[Mn.sub]at hA
 simp only[Mn.sub,pV,pC,mC,dH,pL,aTV,aUf,aUe]at e3 e4
 obtain⟨g,hg⟩:∃g,ak=g+6:=⟨ak-6,by have:=aN (n:=10) (by omega);omega⟩
 rw[hg]
 simp(maxSteps:=9^9) (maxDischargeDepth:=6) only[au,seval,-ac,-ae,aG,ah8,asd,ar,dH,Nat.succ_pos,Nat.zero_lt_succ,w1,w2,w3,w4,c1,c2,c3,c4,e1,e2,e3,e4,hG,gG,hA,amj hG,bk,bx]
 exact⟨_,_,_,_,_,_,_,_,_,rfl,(hG.snoc _).next _⟩
end
def aKy {b:List Mn}{y t0 t1 t2 t3 t7 t8 t9 t10 t11:T}{H:Hp}{W:List Nat}{cf:av}(fl:Nat):
  ∃t7',am cf fl qJ ⟨[t0,t1,t2,t3,pT b,pT [],y,t7,t8,t9,t10,t11],H,[],W,[]⟩=Z (.exit 0,⟨[t0,t1,t2,t3,pT b,pT [],y,t7',t8,t9,t10,t11],H,[],W,[]⟩):=by
 simp(maxSteps:=9^9) only[au,seval,-ac,-ae,ah8,ar]
 exact⟨_,rfl⟩
def aK5 {m:Mn}(h:m.Ok):PF [m]:=⟨fun x hx=>by
 rcases aTZ.1 hx with rfl|hx
 ·exact h
 ·exact(List.not_mem_nil hx).elim,by show 1<_;omega⟩
abbrev xi:T:=.t (.one (.c (.v (.bool aa))))
def IMd (b:List Mn)(k:Mn)(R:Option (List Mn))(f:Nat)(st:St):Prop:=
 ∃t0 t1 t2 t3 y t7 t8 H W u r,st=⟨[t0,t1,t2,t3,pT b,pT u,y,t7,t8,aR,xi,xi],H,[],W,[]⟩∧PF u∧GotP 0 H y r∧r.length+f=1000000∧(match yj b k f u with|some (Z l)=>R=Z (r++l)|some U=>R=U|none=>False)
def QMd (b:List Mn)(R:Option (List Mn))(x:X)(st:St):Prop:=
 (x=.exit 0∧∃l t0 t1 t2 t3 y t7 t8 H W,R=Z l∧st=⟨[t0,t1,t2,t3,pT b,pT [],y,t7,t8,aR,xi,xi],H,[],W,[]⟩∧GotP 0 H y l)∨
 (x=.ret∧∃t0 t1 t2 t3 t5 y t7 t8 H W,R=U∧st=⟨[t0,t1,t2,t3,pT b,t5,y,t7,t8,aR,xi,xi],H,[],W,[]⟩)
def ayO {k:Mn}{bt:List Mn}{R:Option (List Mn)}(hb:PF (k::bt))(h0:k.q.n≠0){cf:av}(c1:CA cf 151 aY)(c2:CA cf 173 fW)(c3:CA cf 89 bU)(c4:CA cf 104 cS)(f:Nat)(st:St)(h:IMd (k::bt) k R f st):
  (∃f' st',am cf ak qJ st=Z (.normal,st')∧IMd (k::bt) k R f' st'∧f'<f)∨(∃x st',am cf ak qJ st=Z (x,st')∧x≠.normal∧QMd (k::bt) R x st'):=by
 obtain⟨t0,t1,t2,t3,y,t7,t8,H,W,u,r,rfl,hu,hG,hrl,hd⟩:=h
 have ok:=hb.ok k aT0
 match f,u,hu,hd,hrl with
 |0,_,_,hd,_=>exact hd.elim
 |f+1,[],_,hd,_=>
  right
  obtain⟨t7',e⟩:=aKy (b:=k::bt) (y:=y) (t0:=t0) (t1:=t1) (t2:=t2) (t3:=t3) (t7:=t7) (t8:=t8) (t9:=aR) (t10:=xi) (t11:=xi) (H:=H) (W:=W) (cf:=cf) ak
  simp only[yj,List.append_nil]at hd
  exact⟨_,_,e,by simp,.inl ⟨rfl,_,_,_,_,_,_,_,_,_,_,hd,rfl,hG⟩⟩
 |f+1,m::t,hu,hd,hrl=>
  have om:=hu.ok m aT0
  simp only[yj]at hd
  have w1:=aae om.a ok.a
  have w2:=aae om.b ok.b
  have w3:=aae om.c ok.c
  have w4:=aae om.d ok.d
  have e1:=am0 k m
  cases g1:xr k m with
  |false=>
   rw[g1]at hd e1
   right
   obtain⟨t0',t1',t2',t3',t7',t8',H',W',e⟩:=aKx (t:=t) (bt:=bt) (y:=y) (t0:=t0) (t1:=t1) (t2:=t2) (t3:=t3) (t7:=t7) (t8:=t8) (t9:=aR) (t10:=xi) (t11:=xi) (H:=H) (W:=W) w1 w2 w3 w4 e1 c1
   exact⟨_,_,e,by simp,.inr ⟨rfl,_,_,_,_,_,_,_,_,_,_,hd,rfl⟩⟩
  |true=>
   rw[g1]at hd e1
   obtain⟨l1,l2,l3,l4⟩:=auz g1
   have w1:=w1.trans (fQ l1)
   have w2:=w2.trans (fQ l2)
   have w3:=w3.trans (fQ l3)
   have w4:=w4.trans (fQ l4)
   rw[fQ l1,fQ l2,fQ l3,fQ l4]at e1
   dsimp only at hd
   cases g2:gS (m.sub k (m.q.div k.q))with
   |false=>rw[g2]at hd;exact hd.elim
   |true=>
    rw[g2]at hd
    dsimp only at hd
    cases g3:br (k::bt) [m.sub k (m.q.div k.q)]with
    |none=>rw[g3]at hd;exact hd.elim
    |some s=>
     rw[g3]at hd
     dsimp only at hd
     cases g5:dN s with
     |false=>rw[g5]at hd;exact hd.elim
     |true=>
      rw[g5]at hd
      dsimp only at hd
      cases g4:dN (fX (m::t) s)with
      |false=>rw[g4]at hd;exact hd.elim
      |true=>
       rw[g4]at hd
       dsimp only at hd
       left
       have hone:PF [m.sub k (m.q.div k.q)]:=aK5 (jR g2)
       obtain⟨t0',t1',y',t2',t3',t7',t8',H',W',e,hG'⟩:=aOJ (t:=t) (bt:=bt) (t0:=t0) (t1:=t1) (t2:=t2) (t3:=t3) (t7:=t7) (t8:=t8) (t9:=aR) (t10:=xi) (t11:=xi) (W:=W) (by omega) hG w1 w2 w3 w4 e1 (y9 om.q ok.q h0) (iF hb hone g3) (ve hu (gB g5)) c1 c2 c3 c4
       refine⟨f,_,e,⟨_,_,_,_,_,_,_,_,_,_,_,rfl,gB g4,hG',by rw[aTW,List.length_singleton];omega,?_⟩,Nat.lt_succ_self f⟩
       revert hd
       cases yj (k::bt) k f (fX (m::t) s)with
       |none=>exact fun h=>h
       |some o=>
        cases o with
        |none=>exact fun h=>h
        |some l=>intro h;dsimp only at h ⊢;rw[aUr];exact h
def tMv  : Ft:=.n (.n (.n .z 89 (.nat bU) U .z) 104 (.nat cS) U .z) 151 (.nat aY) U (.n .z 173 (.nat fW) U .z)
def aNv   {k:Cls}:tMv.Ok Tryz.prog k aH:=⟨⟨⟨tv,jQ,tv,tv⟩,sA,tv,tv⟩,qO,tv,⟨tv,wu,tv,tv⟩⟩
def ayR {k:Mn}{bt p:List Mn}{R:Option (List Mn)}(hp:PF p)(hb:PF (k::bt))(h0:k.q.n≠0)(h:yj (k::bt) k 1000000 p=Z R):
  bM (ao tMv.tb 10 8) ak wH.1 [pV p,pV (k::bt)]=Z (nr R):=by
 have c1:CA (ao tMv.tb 10 8) 151 aY:=fun _ _ _=>rfl
 have c2:CA (ao tMv.tb 10 8) 173 fW:=fun _ _ _=>rfl
 have c3:CA (ao tMv.tb 10 8) 89 bU:=fun _ _ _=>rfl
 have c4:CA (ao tMv.tb 10 8) 104 cS:=fun _ _ _=>rfl
 generalize ao tMv.tb 10 8=cf at*
 obtain⟨x,st',hl,_,hQ⟩:=bg (IMd (k::bt) k R) (fun f=>f) (QMd (k::bt) R) (fun f st h=>ayO hb h0 c1 c2 c3 c4 f st h) ak 1000000 _
  ⟨.nil,.nil,.nil,.nil,aR,.nil,.nil,[],[],p,[],rfl,hp,⟨aTS _,.inl ⟨.inr rfl,rfl⟩⟩,rfl,by rw[h];cases R<;>rfl⟩ (eI (by decide))
 have hz:((bt.length+1==0))=aa:=rfl
 rcases hQ with⟨rfl,l,t0,t1,t2,t3,y,t7,t8,H,W,rfl,rfl,hG⟩|⟨rfl,t0,t1,t2,t3,t5,y,t7,t8,H,W,rfl,rfl⟩
 ·rcases hG.2 with⟨rfl|rfl,rfl⟩|⟨b',ds,_,rfl,hb',h2⟩
  ·simp(maxSteps:=9^9) only[au,seval,-ac,-ae,aoB,hl,hz];rfl
  ·simp(maxSteps:=9^9) only[au,seval,-ac,-ae,aoB,hl,hz];rfl
  ·have h1:=ni h2
   simp(maxSteps:=9^9) only[au,seval,-ac,-ae,aoB,hl,hz,hb',h1,h2,aaB,nr]
 ·simp(maxSteps:=9^9) only[au,seval,-ac,-ae,aoB,hl,hz]
  rfl
def jF (p b:List Mn):Option (Option (List Mn)):=match b with|[]=>U|k::bt=>match co k.q.n 0 with|true=>U|false=>yj (k::bt) k 1000000 p
def iv:=kI fun p b=>match jF p b with|some (Z l)=>Z [pV l,bV ab]|some U=>Z [pV [],bV aa]|none=>U
def m7 {p b:List Mn}{R:Option (List Mn)}(hp:PF p)(hb:PF b)(h:jF p b=Z R):iv [pV p,pV b]=Z (nr R):=by
 unfold iv
 rw[i7 hp hb]
 cases R<;>simp only[h,nr]
def sx {k:Cls}:Cn k 164 iv:=dG (ay aNv wH.2 10 ak 8) fun p b rs hp hb h=>by
 have key:∀R,jF p b=Z R→bM (ao tMv.tb 10 8) ak wH.1 [pV p,pV b]=Z (nr R):=by
  intro R e
  unfold jF at e
  split at e
  ·cases e
  ·split at e
   ·cases e
   ·rename_i hz
    exact ayR hp hb (by intro e;rw[e]at hz;cases hz) e
 split at h
 ·rename_i l e
  cases h;exact key _ e
 ·rename_i e
  cases h;exact key _ e
 ·cases h
end
end Go.Proofs.YtfiijelajgifiaaGreat
