/-
  Part 16 of the machine and of the contracts of functions of the program (packed).
-/
import Derived.Test.YtfiijelajgifiaaGreatA15
set_option linter.all false
set_option linter.defProp false
open Bool renaming false→aa,true→ab,and_eq_true→aTT
open Int renaming reduceOfNat→ac,reduceNegSucc→ae,ofNat→af,negSucc→aT2,ofNat_eq_natCast→aT7
open Nat renaming blt→ah,beq→ai,log2→aj,blt_eq→aTR,gcd→aTY,eq_of_beq_eq_true→aT1,eq_zero_or_pos→aUc,lt_of_le_of_lt→aUh,lt_of_lt_of_le→aUj
open Option renaming some→Z,none→U
namespace Go.Proofs.YtfiijelajgifiaaGreat
noncomputable section
open Go Go.Mach Go.Flow
set_option maxRecDepth 100000
set_option maxHeartbeats 4000000
abbrev c4 (a b:Int):List C:=[.v (.bool (aw a)),.big (ap a),.v (.bool (aw b)),.big (ap b)]
def tTi:Ft:=.n (.n .z 180 (.nat fM) U .z) 246 (.nat gJ) U .z
def aNP {k:Cls}:tTi.Ok Tryz.prog k aH:=⟨⟨tv,vq,tv,tv⟩,ajY,tv,tv⟩
def awS {a b:Int}(ha:aE a)(hb:aE b):bM (ao tTi.tb 10 8) 5 afO.1 [.one (.sl 2 (c4 a b))]=Z [gI (a*b)]:=by
 have e0:fM [.one (.v (.int .i64 (af 1)))]=Z [.agg [.v (.bool aa),.big 1]]:=rfl
 have e1:gJ [.agg [.v (.bool aa),.big 1],gI a]=Z [gI a]:=by
  have:=jh (a:=1) (b:=a) (by unfold aE;decide) ha
  rw[Int.one_mul]at this
  exact this
 have e2:=jh ha hb
 generalize a*b=m at*
 unfold gI at*
 simp(maxSteps:=9^9) only[az,seval,-ac,-ae,aG,aQO,aHY,tTi,ar,e0,e1,e2]
def mJ:List V1→Option (List V1)
 |[.one (.sl 2 [c1,c2,c3,c4])]=>match dU (.agg [c1,c2]),dU (.agg [c3,c4])with|some a,Z b=>Z [gI (a*b)]|_,_=>U
 |_=>U
def aja {c1 c2:C}{a:Int}(h:V1.agg [c1,c2]=gI a):[c1,c2]=[.v (.bool (aw a)),.big (ap a)]:=by
 unfold gI at h
 injection h
def aok {k:Cls}:Cn k 213 mJ:=aC (ay aNP afO.2 10 5 8) fun al rs h=>by
 unfold mJ at h
 split at h
 ·split at h
  ·rename_i hx hy
   obtain⟨h1,ha⟩:=bX hx
   obtain⟨h2,hb⟩:=bX hy
   have g1:=aja h1
   have g2:=aja h2
   cases h
   injection g1 with g1 g1';injection g1' with g1' _
   injection g2 with g2 g2';injection g2' with g2' _
   subst g1 g1' g2 g2'
   exact awS ha hb
  ·cases h
 ·cases h
def kS {a b:Int}(ha:aE a)(hb:aE b):mJ [.one (.sl 2 (c4 a b))]=Z [gI (a*b)]:=by
 have e1:dU (.agg [.v (.bool (aw a)),.big (ap a)])=Z a:=dj ha
 have e2:dU (.agg [.v (.bool (aw b)),.big (ap b)])=Z b:=dj hb
 simp only[mJ,e1,e2]
def tLo:Ft:=.n (.n (.n .z 179 (.nat mX) U .z) 180 (.nat fM) U (.n .z 216 (.nat cr) U .z)) 217 (.nat qy) U (.n (.n .z 253 (.nat gv) U .z) 254 (.nat ef) U .z)
def aNm {k:Cls}:tLo.Ok Tryz.prog k aH:=⟨⟨⟨tv,abO,tv,tv⟩,vq,tv,tv,sU,tv,tv⟩,ajd,tv,⟨tv,ri,tv,tv⟩,amz,tv,tv⟩
def aOI {pn w:Bool}{x y g q1 q2 m1 m2:Nat}{p1 p3:Bool}{cc:Int}
  (e1:cr [zV aa y]=Z [sV (af 1)])(e3:qy [zV pn x,zV aa y]=Z [zV aa g])(e4:fM [sV (af 1)]=Z [zV aa 1])(e5:mX [zV aa g,zV aa 1]=Z [sV cc])(z:(cc != af 0)=w)
  (e6:ef [zV pn x,zV aa g]=Z [zV p1 q1,zV p3 m1,sV (af 0)])(e7:ef [zV aa y,zV aa g]=Z [zV aa q2,zV aa m2,sV (af 0)]){cf:av}
  (c1:CA cf 216 cr)(c2:CA cf 217 qy)(c3:CA cf 180 fM)(c4:CA cf 179 mX)(c5:CA cf 254 ef):
  bM cf 10 zK.1 [zV pn x,zV aa y]=Z [cond w (.agg [.v (.bool p1),.big q1,.v (.bool aa),.big q2]) (.agg [.v (.bool pn),.big x,.v (.bool aa),.big y])]:=by
 cases w<;>simp(maxSteps:=9^9) only[az,seval,-ac,-ae,aH0,ar,c1,c2,c3,c4,c5,e1,e3,e4,e5,z,e6,e7,cond_true,cond_false]
def aOH {pn pm w:Bool}{x y g q1 q2 m1 m2:Nat}{p1 p3:Bool}{cc:Int}
  (e1:cr [zV ab y]=Z [sV (aT2 0)])(e2:gv [zV pn x]=Z [zV pm x])(e2':gv [zV ab y]=Z [zV aa y])(e3:qy [zV pm x,zV aa y]=Z [zV aa g])(e4:fM [sV (af 1)]=Z [zV aa 1])(e5:mX [zV aa g,zV aa 1]=Z [sV cc])(z:(cc != af 0)=w)
  (e6:ef [zV pm x,zV aa g]=Z [zV p1 q1,zV p3 m1,sV (af 0)])(e7:ef [zV aa y,zV aa g]=Z [zV aa q2,zV aa m2,sV (af 0)]){cf:av}
  (c1:CA cf 216 cr)(c2:CA cf 217 qy)(c3:CA cf 180 fM)(c4:CA cf 179 mX)(c5:CA cf 254 ef)(c6:CA cf 253 gv):
  bM cf 10 zK.1 [zV pn x,zV ab y]=Z [cond w (.agg [.v (.bool p1),.big q1,.v (.bool aa),.big q2]) (.agg [.v (.bool pm),.big x,.v (.bool aa),.big y])]:=by
 cases w<;>simp(maxSteps:=9^9) only[az,seval,-ac,-ae,aH0,ar,c1,c2,c3,c4,c5,c6,apD,e1,e2,e2',e3,e4,e5,z,e6,e7,cond_true,cond_false]
abbrev qV (n:Int)(d:Nat):V1:=.agg [.v (.bool (aw n)),.big (ap n),.v (.bool aa),.big d]
def jz (n:Int)(d:Nat):Int:=n.ediv (af (aTY (ap n) d))
def jy (n:Int)(d:Nat):Nat:=d/aTY (ap n) d
def agM {n:Int}{d:Nat}(hn:aj (ap n)<8000000)(hd:aj d<8000000)(h0:0<d):
  qy [gI n,zV aa d]=Z [zV aa (aTY (ap n) d)]∧(∃cc,mX [zV aa (aTY (ap n) d),zV aa 1]=Z [sV cc]∧((cc != af 0)=aa→aTY (ap n) d=1))∧
   (∃m1,ef [gI n,zV aa (aTY (ap n) d)]=Z [gI (jz n d),gI m1,sV (af 0)])∧(∃m2:Nat,ef [zV aa d,zV aa (aTY (ap n) d)]=Z [zV aa (jy n d),zV aa m2,sV (af 0)]):=by
 have hg:0<aTY (ap n) d:=Nat.gcd_pos_of_pos_right _ h0
 have hgd:aTY (ap n) d≤d:=Nat.gcd_le_right _ h0
 have hgl:aj (aTY (ap n) d)<8388608:=aUh (bR hgd) (by omega)
 have hgz:af (aTY (ap n) d)≠0:=fun h=>by
  have:aTY (ap n) d=0:=Int.ofNat.inj h
  omega
 refine⟨aJN (a:=n) (b:=af d) (by unfold aE;omega) (show aj d<8388608 by omega),⟨_,at2 (a:=af (aTY (ap n) d)) (b:=af 1) hgl (by unfold aE;decide),?_⟩,⟨_,agD hn (b:=af (aTY (ap n) d)) hgl hgz⟩,⟨d%aTY (ap n) d,agD (a:=af d) (b:=af (aTY (ap n) d)) hd hgl hgz⟩⟩
 intro h
 generalize aTY (ap n) d=g at h hg ⊢
 simp only[xg,cH]at h
 cases h1:ah g 1
 ·rw[h1]at h
  cases h2:ai g 1
  ·rw[h2]at h;cases h
  ·exact aT1 h2
 ·rw[h1]at h;cases h
def aDG {cf:av}(h:cf=ao tLo.tb 10 8):(CA cf 216 cr)∧(CA cf 217 qy)∧(CA cf 180 fM)∧(CA cf 179 mX)∧(CA cf 254 ef)∧(CA cf 253 gv):=by
 subst h
 exact⟨fun _ _ _=>rfl,fun _ _ _=>rfl,fun _ _ _=>rfl,fun _ _ _=>rfl,fun _ _ _=>rfl,fun _ _ _=>rfl⟩
def afa {n:Int}{d:Nat}(h:aTY (ap n) d=1):jz n d=n∧jy n d=d:=by
 unfold jz jy
 rw[h,Nat.div_one]
 exact⟨Int.ediv_one n,rfl⟩
def ayB {n:Int}{d:Nat}(hn:aj (ap n)<8000000)(hd:aj d<8000000)(h0:0<d):bM (ao tLo.tb 10 8) 10 zK.1 [gI n,zV aa d]=Z [qV (jz n d) (jy n d)]:=by
 obtain⟨e3,⟨cc,e5,hw⟩,⟨m1,e6⟩,⟨m2,e7⟩⟩:=agM hn hd h0
 have e1:=jr (a:=af d) (show aj d<8388608 by omega)
 rw[show lL (af d)=af 1 by cases d with|zero=>omega|succ d=>rfl]at e1
 obtain⟨c1,c2,c3,c4,c5,_⟩:=aDG rfl
 have key:=aOI (w:=cc != af 0) e1 e3 rfl e5 rfl e6 e7 c1 c2 c3 c4 c5
 refine key.trans ?_
 cases h:cc != af 0
 ·obtain⟨h1,h2⟩:=afa (hw h)
  rw[h1,h2]
  rfl
 ·rfl
def ayA {n:Int}{d:Nat}(hn:aj (ap n)<8000000)(hd:aj d<8000000)(h0:0<d):bM (ao tLo.tb 10 8) 10 zK.1 [gI n,zV ab d]=Z [qV (jz (-n) d) (jy (-n) d)]:=by
 have ha:ap (-n)=ap n:=by simp only[dZ,Int.natAbs_neg]
 obtain⟨e3,⟨cc,e5,hw⟩,⟨m1,e6⟩,⟨m2,e7⟩⟩:=agM (n := -n) (by rw[ha];exact hn) hd h0
 obtain⟨k,rfl⟩:∃k,d=k+1:=⟨d-1,by omega⟩
 have e1:=jr (a:=aT2 k) (show aj (k+1)<8388608 by omega)
 have e2:=ji (a:=n) (by unfold aE;omega)
 have e2':=ji (a:=aT2 k) (show aj (k+1)<8388608 by omega)
 obtain⟨c1,c2,c3,c4,c5,c6⟩:=aDG rfl
 unfold gI at e2 e3 e6
 rw[ha]at e2 e3 e6 e5 e7
 unfold gI
 have key:=aOH (w:=cc != af 0) e1 e2 e2' e3 rfl e5 rfl e6 e7 c1 c2 c3 c4 c5 c6
 refine key.trans ?_
 cases h:cc != af 0
 ·obtain⟨h1,h2⟩:=afa (hw h)
  rw[h1,h2]
  show Z [V1.agg [.v (.bool (aw (-n))),.big (ap n),.v (.bool aa),.big (k+1)]]=Z [qV (-n) (k+1)]
  unfold qV
  rw[ha]
 ·rfl
def oH:List V1→Option (List V1)
 |[x,y]=>match dU x,dU y with
  |some a,Z b=>(match co b 0,ah (aj (ap a)) 8000000&&ah (aj (ap b)) 8000000 with|false,ab=>Z [match aw b with|true=>qV (jz (-a) (ap b)) (jy (-a) (ap b))|false=>qV (jz a (ap b)) (jy a (ap b))]|_,_=>U)
  |_,_=>U
 |_=>U
def aFf {a b:Int}(ha:aj (ap a)<8000000)(hb:aj (ap b)<8000000)(h0:b≠0):bM (ao tLo.tb 10 8) 10 zK.1 [gI a,gI b]=Z [match aw b with|true=>qV (jz (-a) (ap b)) (jy (-a) (ap b))|false=>qV (jz a (ap b)) (jy a (ap b))]:=by
 match b,hb,h0 with
 |.ofNat 0,_,h=>exact absurd rfl h
 |.ofNat (n+1),hb,_=>exact ayB ha hb (Nat.succ_pos n)
 |.negSucc n,hb,_=>exact ayA ha hb (Nat.succ_pos n)
def ajg {k:Cls}:Cn k 224 oH:=aC (ay aNm zK.2 10 10 8) fun al rs h=>by
 unfold oH at h
 split at h
 ·split at h
  ·rename_i hx hy
   obtain⟨rfl,ha⟩:=bX hx
   obtain⟨rfl,hb⟩:=bX hy
   split at h
   ·rename_i hz hf
    cases h
    rw[aTT,aTR,aTR]at hf
    exact aFf hf.1 hf.2 (by intro e;subst e;cases hz)
   ·cases h
  ·cases h
 ·cases h
def ajh {a:Int}{d:Nat}(ha:aj (ap a)<8000000)(hd:aj d<8000000)(h0:0<d):oH [gI a,zV aa d]=Z [qV (jz a d) (jy a d)]:=by
 obtain⟨n,rfl⟩:∃n,d=n+1:=⟨d-1,by omega⟩
 have e1:dU (zV aa (n+1))=Z (af (n+1)):=dj (z:=af (n+1)) (show aj (n+1)<8388608 by omega)
 have hf:(ah (aj (ap a)) 8000000&&ah (aj (ap (af (n+1)))) 8000000)=ab:=by rw[aTT,aTR,aTR];exact⟨ha,hd⟩
 have hz:co (af (n+1)) 0=aa:=by
  cases h:co (af (n+1)) 0 with
  |false=>rfl
  |true=>have:=gp h;cases this
 simp only[oH,dj (show aE a by unfold aE;omega),e1,hf,hz]
 rfl
abbrev xE (p q:Bool)(x y:Nat):V1:=.one (.sl 2 [.v (.bool p),.big x,.v (.bool q),.big y])
abbrev q4 (p:Bool)(x d:Nat):V1:=.agg [.v (.bool p),.big x,.v (.bool aa),.big d]
def zX:ge (cW [.bool aa,.slice U 0 0] 4)=Z [.c (.v (.bool aa)),.c (.v (.slice U 0 0)),.c (.v (.bool aa)),.c (.v (.slice U 0 0))]:=rfl
def tQm:Ft:=.n (.n (.n .z 179 (.nat mX) U .z) 213 (.nat mJ) U .z) 224 (.nat oH) U (.n (.n .z 238 (.nat gH) U .z) 270 (.nat kX) U .z)
def aet {k:Cls}:tQm.Ok Tryz.prog k aH:=⟨⟨⟨tv,abO,tv,tv⟩,aok,tv,tv⟩,ajg,tv,⟨tv,vG,tv,tv⟩,alg,tv,tv⟩
def avZ {p1 p2 p3 p4:Bool}{x1 x2 d1 d2 x3 d3 x4 d4:Nat}(e1:mJ [xE p1 p2 x1 x2]=Z [zV p3 x3])(e2:mJ [xE aa aa d1 d2]=Z [zV aa d3])(e3:oH [zV p3 x3,zV aa d3]=Z [q4 p4 x4 d4]):
  bM (ao tQm.tb 10 8) 10 akD.1 [q4 p1 x1 d1,q4 p2 x2 d2]=Z [q4 p4 x4 d4]:=by
 simp(maxSteps:=9^9) only[az,seval,-ac,-ae,aQy,tQm,ar,zX,e1,e2,e3]
def avU {p1 p2 p3 p4 p5 p6:Bool}{x1 x2 d1 d2 x3 d3 x4 d4 x5 x6:Nat}(e1:mJ [xE p1 aa x1 d2]=Z [zV p3 x3])(e2:mJ [xE p2 aa x2 d1]=Z [zV p4 x4])(e3:gH [zV p3 x3,zV p4 x4]=Z [zV p5 x5])(e4:mJ [xE aa aa d1 d2]=Z [zV aa d3])(e5:oH [zV p5 x5,zV aa d3]=Z [q4 p6 x6 d4]):
  bM (ao tQm.tb 10 8) 10 akF.1 [q4 p1 x1 d1,q4 p2 x2 d2]=Z [q4 p6 x6 d4]:=by
 simp(maxSteps:=9^9) only[az,seval,-ac,-ae,aQE,tQm,ar,zX,e1,e2,e3,e4,e5]
def av1 {p1 p2 p3 p4 p5 p6:Bool}{x1 x2 d1 d2 x3 d3 x4 d4 x5 x6:Nat}(e1:mJ [xE p1 aa x1 d2]=Z [zV p3 x3])(e2:mJ [xE p2 aa x2 d1]=Z [zV p4 x4])(e3:kX [zV p3 x3,zV p4 x4]=Z [zV p5 x5])(e4:mJ [xE aa aa d1 d2]=Z [zV aa d3])(e5:oH [zV p5 x5,zV aa d3]=Z [q4 p6 x6 d4]):
  bM (ao tQm.tb 10 8) 10 akM.1 [q4 p1 x1 d1,q4 p2 x2 d2]=Z [q4 p6 x6 d4]:=by
 simp(maxSteps:=9^9) only[az,seval,-ac,-ae,aRp,tQm,ar,zX,e1,e2,e3,e4,e5]
def avV {p1 p2 p3 p4:Bool}{x1 x2 d1 d2 x3 x4:Nat}{z:Int}(e1:mJ [xE p1 aa x1 d2]=Z [zV p3 x3])(e2:mJ [xE p2 aa x2 d1]=Z [zV p4 x4])(e3:mX [zV p3 x3,zV p4 x4]=Z [sV z]):
  bM (ao tQm.tb 10 8) 10 akC.1 [q4 p1 x1 d1,q4 p2 x2 d2]=Z [sV z]:=by
 simp(maxSteps:=9^9) only[az,seval,-ac,-ae,aQr,tQm,ar,zX,e1,e2,e3]
def ib {x y:Nat}(hx:aj x<1000000)(hy:aj y<1000000):aj (x*y)<2000000:=by
 have h3:=lgB hx hy
 omega
def dF (a b:Int):ap (a*b)=ap a*ap b:=by simp only[dZ,Int.natAbs_mul]
def aAw {n1 n2:Int}{d1 d2:Nat}(h1:aj (ap n1)<1000000)(h2:aj (ap n2)<1000000)(h3:aj d1<1000000)(h4:aj d2<1000000)(p1:0<d1)(p2:0<d2):
  bM (ao tQm.tb 10 8) 10 akD.1 [qV n1 d1,qV n2 d2]=Z [qV (jz (n1*n2) (d1*d2)) (jy (n1*n2) (d1*d2))]:=
 avZ (kS (by unfold aE;omega) (by unfold aE;omega)) (kS (a:=af d1) (b:=af d2) (show aj d1<8388608 by omega) (show aj d2<8388608 by omega))
  (ajh (d:=d1*d2) (by rw[dF];have:=ib h1 h2;omega) (by have:=ib h3 h4;omega) (Nat.mul_pos p1 p2))
def axY {x y:Int}(hx:aj (ap x)<2000000)(hy:aj (ap y)<2000000):aj (ap (x+y))<2000001:=by
 have h:ap (x+y)≤ap x+ap y:=by simp only[dZ];omega
 exact aUh (bR h) (yU hx hy)
def aAu {n1 n2:Int}{d1 d2:Nat}(h1:aj (ap n1)<1000000)(h2:aj (ap n2)<1000000)(h3:aj d1<1000000)(h4:aj d2<1000000)(p1:0<d1)(p2:0<d2):
  bM (ao tQm.tb 10 8) 10 akF.1 [qV n1 d1,qV n2 d2]=Z [qV (jz (n1*af d2+n2*af d1) (d1*d2)) (jy (n1*af d2+n2*af d1) (d1*d2))]:=by
 have f1:aj (ap (n1*af d2))<2000000:=by rw[dF];exact ib h1 h4
 have f2:aj (ap (n2*af d1))<2000000:=by rw[dF];exact ib h2 h3
 have f3:=axY f1 f2
 exact avU (kS (a:=n1) (b:=af d2) (by unfold aE;omega) (show aj d2<8388608 by omega)) (kS (a:=n2) (b:=af d1) (by unfold aE;omega) (show aj d1<8388608 by omega))
  (qx (by unfold aE;omega) (by unfold aE;omega)) (kS (a:=af d1) (b:=af d2) (show aj d1<8388608 by omega) (show aj d2<8388608 by omega))
  (ajh (d:=d1*d2) (by omega) (by have:=ib h3 h4;omega) (Nat.mul_pos p1 p2))
def aRD {x y:Int}(hx:aj (ap x)<2000000)(hy:aj (ap y)<2000000):aj (ap (x-y))<2000001:=by
 have h:ap (x-y)≤ap x+ap y:=by simp only[dZ];omega
 exact aUh (bR h) (yU hx hy)
def aAy {n1 n2:Int}{d1 d2:Nat}(h1:aj (ap n1)<1000000)(h2:aj (ap n2)<1000000)(h3:aj d1<1000000)(h4:aj d2<1000000)(p1:0<d1)(p2:0<d2):
  bM (ao tQm.tb 10 8) 10 akM.1 [qV n1 d1,qV n2 d2]=Z [qV (jz (n1*af d2-n2*af d1) (d1*d2)) (jy (n1*af d2-n2*af d1) (d1*d2))]:=by
 have f1:aj (ap (n1*af d2))<2000000:=by rw[dF];exact ib h1 h4
 have f2:aj (ap (n2*af d1))<2000000:=by rw[dF];exact ib h2 h3
 have f3:=aRD f1 f2
 exact av1 (kS (a:=n1) (b:=af d2) (by unfold aE;omega) (show aj d2<8388608 by omega)) (kS (a:=n2) (b:=af d1) (by unfold aE;omega) (show aj d1<8388608 by omega))
  (aji (by unfold aE;omega) (by unfold aE;omega)) (kS (a:=af d1) (b:=af d2) (show aj d1<8388608 by omega) (show aj d2<8388608 by omega))
  (ajh (d:=d1*d2) (by omega) (by have:=ib h3 h4;omega) (Nat.mul_pos p1 p2))
def aAv {n1 n2:Int}{d1 d2:Nat}(h1:aj (ap n1)<1000000)(h2:aj (ap n2)<1000000)(h3:aj d1<1000000)(h4:aj d2<1000000):
  bM (ao tQm.tb 10 8) 10 akC.1 [qV n1 d1,qV n2 d2]=Z [sV (xg (n1*af d2) (n2*af d1))]:=by
 have f1:aj (ap (n1*af d2))<2000000:=by rw[dF];exact ib h1 h4
 have f2:aj (ap (n2*af d1))<2000000:=by rw[dF];exact ib h2 h3
 exact avV (kS (a:=n1) (b:=af d2) (by unfold aE;omega) (show aj d2<8388608 by omega)) (kS (a:=n2) (b:=af d1) (by unfold aE;omega) (show aj d1<8388608 by omega))
  (at2 (by unfold aE;omega) (by unfold aE;omega))
structure Q where
 n:Int
 d:Nat
def Q.low (n:Int)(d:Nat):Q:=⟨jz n d,jy n d⟩
def Q.mul (a b:Q):Q:=Q.low (a.n*b.n) (a.d*b.d)
def Q.add (a b:Q):Q:=Q.low (a.n*af b.d+b.n*af a.d) (a.d*b.d)
def Q.sub (a b:Q):Q:=Q.low (a.n*af b.d-b.n*af a.d) (a.d*b.d)
def Q.neg (a:Q):Q:=⟨-a.n,a.d⟩
def Q.ofI (n m:Int):Q:=match aw m with|true=>Q.low (-n) (ap m)|false=>Q.low n (ap m)
def Q.div (a b:Q):Q:=Q.ofI (a.n*af b.d) (af a.d*b.n)
def Q.whole (n:Int):Q:=⟨n,1⟩
structure Q.Ok (a:Q):Prop where
 n:aj (ap a.n)<1000000
 d:aj a.d<1000000
 p:0<a.d
abbrev qC (a:Q):List C:=[.v (.bool (aw a.n)),.big (ap a.n),.v (.bool aa),.big a.d]
abbrev eQ (a:Q):V1:=.agg (qC a)
def Q.okB (n d:Nat):Bool:=ah (aj n) 1000000&&(ah (aj d) 1000000&&ah 0 d)
def dQ:C→C→C→C→Option Q
 |.v (.bool b),.big n,.v (.bool c),.big d=>(match c,Q.okB n d with|false,ab=>(match b,n with|false,n=>Z ⟨.ofNat n,d⟩|true,m+1=>Z ⟨.negSucc m,d⟩|true,0=>U)|_,_=>U)
 |_,_,_,_=>U
def ao7 {c1 c2 c3 c4:C}{a:Q}(h:dQ c1 c2 c3 c4=Z a):c1=.v (.bool (aw a.n))∧c2=.big (ap a.n)∧c3=.v (.bool aa)∧c4=.big a.d∧a.Ok:=by
 unfold dQ at h
 split at h
 ·rename_i b n c d
  split at h
  ·rename_i hf
   unfold Q.okB at hf
   rw[aTT,aTT,aTR,aTR,aTR]at hf
   obtain⟨f1,f2,f3⟩:=hf
   split at h
   ·cases h;exact⟨rfl,rfl,rfl,rfl,f1,f2,f3⟩
   ·cases h;exact⟨rfl,rfl,rfl,rfl,f1,f2,f3⟩
   ·cases h
  ·cases h
 ·cases h
def axE {a:Q}(h:a.Ok):dQ (.v (.bool (aw a.n))) (.big (ap a.n)) (.v (.bool aa)) (.big a.d)=Z a:=by
 have hf:Q.okB (ap a.n) a.d=ab:=by
  unfold Q.okB
  rw[aTT,aTT,aTR,aTR,aTR]
  exact⟨h.n,h.d,h.p⟩
 obtain⟨n,d⟩:=a
 unfold dQ
 dsimp only at hf ⊢
 rw[hf]
 cases n<;>rfl
def xB:V1→Option Q
 |.agg [c1,c2,c3,c4]=>dQ c1 c2 c3 c4
 |_=>U
def zQ {v:V1}{a:Q}(h:xB v=Z a):v=eQ a∧a.Ok:=by
 unfold xB at h
 split at h
 ·obtain⟨rfl,rfl,rfl,rfl,ho⟩:=ao7 h
  exact⟨rfl,ho⟩
 ·cases h
def aee {a:Q}(h:a.Ok):xB (eQ a)=Z a:=axE h
def sR (f:Q→Q→Option (List V1)):List V1→Option (List V1)
 |[x,y]=>match xB x,xB y with|some a,Z b=>f a b|_,_=>U
 |_=>U
def qg1 (f:Q→Option (List V1)):List V1→Option (List V1)
 |[x]=>match xB x with|some a=>f a|none=>U
 |_=>U
def aMc {f:Q→Q→Option (List V1)}{al rs:List V1}(h:sR f al=Z rs):∃a b,al=[eQ a,eQ b]∧a.Ok∧b.Ok∧f a b=Z rs:=by
 unfold sR at h
 split at h
 ·split at h
  ·rename_i hx hy
   obtain⟨rfl,ha⟩:=zQ hx
   obtain⟨rfl,hb⟩:=zQ hy
   exact⟨_,_,rfl,ha,hb,h⟩
  ·cases h
 ·cases h
def aaY {f:Q→Q→Option (List V1)}{a b:Q}(ha:a.Ok)(hb:b.Ok):sR f [eQ a,eQ b]=f a b:=by
 simp only[sR,aee ha,aee hb]
def aMb {f:Q→Option (List V1)}{al rs:List V1}(h:qg1 f al=Z rs):∃a,al=[eQ a]∧a.Ok∧f a=Z rs:=by
 unfold qg1 at h
 split at h
 ·split at h
  ·rename_i hx
   obtain⟨rfl,ha⟩:=zQ hx
   exact⟨_,rfl,ha,h⟩
  ·cases h
 ·cases h
def aDr {f:Q→Option (List V1)}{a:Q}(ha:a.Ok):qg1 f [eQ a]=f a:=by
 simp only[qg1,aee ha]
def jL {k:Cls}{g:FuncId}{m:List V1→Option (List V1)}{f:Q→Q→Option (List V1)}(hm:Cn k g m)(h:∀a b rs,a.Ok→b.Ok→f a b=Z rs→m [eQ a,eQ b]=Z rs):Cn k g (sR f):=
 aC hm fun al rs e=>by
  obtain⟨a,b,rfl,ha,hb,e⟩:=aMc e
  exact h a b rs ha hb e
def ade {k:Cls}{g:FuncId}{m:List V1→Option (List V1)}{f:Q→Option (List V1)}(hm:Cn k g m)(h:∀a rs,a.Ok→f a=Z rs→m [eQ a]=Z rs):Cn k g (qg1 f):=
 aC hm fun al rs e=>by
  obtain⟨a,rfl,ha,e⟩:=aMb e
  exact h a rs ha e
def iE:=sR fun a b=>Z [eQ (a.mul b)]
def cV:=sR fun a b=>Z [eQ (a.add b)]
def ack:=sR fun a b=>Z [eQ (a.sub b)]
def y8:=sR fun a b=>Z [sV (xg (a.n*af b.d) (b.n*af a.d))]
def zf:=qg1 fun a=>Z [eQ a.neg]
def bn:List V1→Option (List V1)
 |[.agg [c1,c2,.v (.bool aa),.big _]]=>(match dU (.agg [c1,c2])with|some a=>Z [sV (lL a)]|none=>U)
 |_=>U
def akd {al rs:List V1}(h:bn al=Z rs):∃(a:Int) (d:Nat),al=[q4 (aw a) (ap a) d]∧aE a∧rs=[sV (lL a)]:=by
 unfold bn at h
 split at h
 ·split at h
  ·rename_i hx
   cases h
   obtain⟨e,hf⟩:=bX hx
   have e:=aja e
   injection e with e1 e2
   injection e2 with e2 _
   subst e1 e2
   exact⟨_,_,rfl,hf,rfl⟩
  ·cases h
 ·cases h
def fW:=sR fun a b=>match co b.n 0 with|false=>Z [eQ (a.div b),sV (af 0)]|true=>U
def aW:List V1→Option (List V1)
 |[.one (.v (.int .i64 z))]=>match ah (ap z) 4294967296 with|true=>Z [eQ (Q.whole z)]|false=>U
 |_=>U
def ach {k:Cls}:Cn k 162 iE:=jL (ay aet akD.2 10 10 8) fun a b rs ha hb h=>by
 cases h;exact aAw ha.n hb.n ha.d hb.d ha.p hb.p
def wt {k:Cls}:Cn k 182 cV:=jL (ay aet akF.2 10 10 8) fun a b rs ha hb h=>by
 cases h;exact aAu ha.n hb.n ha.d hb.d ha.p hb.p
def ay8 {k:Cls}:Cn k 324 ack:=jL (ay aet akM.2 10 10 8) fun a b rs ha hb h=>by
 cases h;exact aAy ha.n hb.n ha.d hb.d ha.p hb.p
def aj4 {k:Cls}:Cn k 149 y8:=jL (ay aet akC.2 10 10 8) fun a b rs ha hb h=>by
 cases h;exact aAv ha.n hb.n ha.d hb.d
def tQn  : Ft:=.n (.n .z 180 (.nat fM) U .z) 216 (.nat cr) U (.n .z 253 (.nat gv) U .z)
def alo   {k:Cls}:tQn.Ok Tryz.prog k aH:=⟨⟨tv,vq,tv,tv⟩,sU,tv,⟨tv,ri,tv,tv⟩⟩
def av0 {p p':Bool}{x x' d:Nat}(e1:gv [zV p x]=Z [zV p' x']):bM (ao tQn.tb 10 8) 10 aqY.1 [q4 p x d]=Z [q4 p' x' d]:=by
 simp(maxSteps:=9^9) only[az,seval,-ac,-ae,aRg,tQn,ar,e1]
def aq2 {p:Bool}{x d:Nat}{z:Int}(e1:cr [zV p x]=Z [sV z]):bM (ao tQn.tb 10 8) 10 aqt.1 [q4 p x d]=Z [sV z]:=by
 simp(maxSteps:=9^9) only[az,seval,-ac,-ae,aQu,tQn,ar,e1]
def al3 {p:Bool}{x:Nat}{z:Int}(e1:fM [sV z]=Z [zV p x])(e2:fM [sV (af 1)]=Z [zV aa 1]):bM (ao tQn.tb 10 8) 10 aqm.1 [sV z]=Z [q4 p x 1]:=by
 simp(maxSteps:=9^9) only[az,seval,-ac,-ae,aQj,tQn,ar,e1,e2]
def ay5 {k:Cls}:Cn k 297 zf:=ade (ay alo aqY.2 10 10 8) fun a rs ha h=>by
 cases h;exact av0 (ji (a:=a.n) (by unfold aE;have:=ha.n;omega))
def oq {k:Cls}:Cn k 153 bn:=aC (ay alo aqt.2 10 10 8) fun al rs h=>by
 obtain⟨a,d,rfl,hf,rfl⟩:=akd h
 exact aq2 (jr hf)
def aou {z:Int}(h:ap z<4294967296):fM [sV z]=Z [zV (aw z) (ap z)]:=by
 have hb:ah (ap z) 4294967296=ab:=by rw[aTR];exact h
 simp only[fM,hb]
 rfl
def ake {z:Int}(h:ap z<4294967296):aW [sV z]=Z [eQ (Q.whole z)]:=by
 have hb:ah (ap z) 4294967296=ab:=by rw[aTR];exact h
 simp only[aW,hb]
def gU {k:Cls}:Cn k 134 aW:=aC (ay alo aqm.2 10 10 8) fun al rs h=>by
 unfold aW at h
 split at h
 ·split at h
  ·rename_i hc
   cases h
   rw[aTR]at hc
   exact al3 (aou hc) rfl
  ·cases h
 ·cases h
def aBH {z:Int}(h:ap z<4294967296):(Q.whole z).Ok:=⟨by
 show aj (ap z)<1000000
 have:=ol (k:=32) (x:=ap z) (aUj h (by decide)) (by omega)
 omega,by show aj 1<1000000;decide,by show 0<1;omega⟩
def rh:List V1→Option (List V1)
 |[x,y]=>match dU x,dU y with
  |some a,Z b=>(match co b 0,ah (aj (ap a)) 8000000&&ah (aj (ap b)) 8000000 with|false,ab=>Z [eQ (Q.ofI a b),sV (af 0)]|_,_=>U)
  |_,_=>U
 |_=>U
def tQo  : Ft:=.n (.n .z 216 (.nat cr) U .z) 224 (.nat oH) U .z
def aNE   {k:Cls}:tQo.Ok Tryz.prog k aH:=⟨⟨tv,sU,tv,tv⟩,ajg,tv,tv⟩
def aAx {p1 p2 p3:Bool}{x y x' d':Nat}{sg:Int}(e1:cr [zV p2 y]=Z [sV sg])(z:(sg==af 0)=aa)(e2:oH [zV p1 x,zV p2 y]=Z [q4 p3 x' d']):
  bM (ao tQo.tb 10 8) 10 aqP.1 [zV p1 x,zV p2 y]=Z [q4 p3 x' d',sV (af 0)]:=by
 simp(maxSteps:=9^9) only[az,seval,-ac,-ae,aQ0,tQo,ar,e1,e2,z]
def sT {b:Int}(h0:b≠0):(lL b==af 0)=aa:=by
 match b,h0 with
 |.ofNat 0,h=>exact absurd rfl h
 |.ofNat (n+1),_=>rfl
 |.negSucc n,_=>rfl
def avt {b:Int}(h0:b≠0):co b 0=aa:=by
 cases h:co b 0 with
 |false=>rfl
 |true=>exact absurd (gp h) h0
def aFC {k:Cls}:Cn k 230 rh:=aC (ay aNE aqP.2 10 10 8) fun al rs h=>by
 unfold rh at h
 split at h
 ·split at h
  ·rename_i a b hx hy
   obtain⟨rfl,ha⟩:=bX hx
   obtain⟨rfl,hb⟩:=bX hy
   split at h
   ·rename_i hz hf
    cases h
    rw[aTT,aTR,aTR]at hf
    have h0:b≠0:=by intro e;subst e;cases hz
    have e2:oH [gI a,gI b]=Z [eQ (Q.ofI a b)]:=by
     have hf':(ah (aj (ap a)) 8000000&&ah (aj (ap b)) 8000000)=ab:=by rw[aTT,aTR,aTR];exact hf
     simp only[oH,dj ha,dj hb,hz,hf']
     unfold Q.ofI
     cases aw b<;>rfl
    exact aAx (jr hb) (sT h0) e2
   ·cases h
  ·cases h
 ·cases h
def ap2 {a b:Int}(ha:aj (ap a)<8000000)(hb:aj (ap b)<8000000)(h0:b≠0):rh [gI a,gI b]=Z [eQ (Q.ofI a b),sV (af 0)]:=by
 have hf:(ah (aj (ap a)) 8000000&&ah (aj (ap b)) 8000000)=ab:=by rw[aTT,aTR,aTR];exact⟨ha,hb⟩
 simp only[rh,dj (show aE a by unfold aE;omega),dj (show aE b by unfold aE;omega),avt h0,hf]
def tQd  : Ft:=.n (.n .z 213 (.nat mJ) U .z) 230 (.nat rh) U .z
def aND   {k:Cls}:tQd.Ok Tryz.prog k aH:=⟨⟨tv,aok,tv,tv⟩,aFC,tv,tv⟩
def avW {p1 p2 p3 p4 p5:Bool}{x1 x2 d1 d2 x3 x4 x5 d5:Nat}(e1:mJ [xE p1 aa x1 d2]=Z [zV p3 x3])(e2:mJ [xE aa p2 d1 x2]=Z [zV p4 x4])(e3:rh [zV p3 x3,zV p4 x4]=Z [q4 p5 x5 d5,sV (af 0)]):
  bM (ao tQd.tb 10 8) 10 aqB.1 [q4 p1 x1 d1,q4 p2 x2 d2]=Z [q4 p5 x5 d5,sV (af 0)]:=by
 simp(maxSteps:=9^9) only[az,seval,-ac,-ae,aQD,tQd,ar,zX,e1,e2,e3]
def wu {k:Cls}:Cn k 173 fW:=jL (ay aND aqB.2 10 10 8) fun a b rs ha hb h=>by
 split at h
 ·rename_i hz
  cases h
  have h0:b.n≠0:=by intro e;rw[e]at hz;cases hz
  have f1:aj (ap (a.n*af b.d))<2000000:=by rw[dF];exact ib ha.n hb.d
  have f2:aj (ap (af a.d*b.n))<2000000:=by rw[dF];exact ib ha.d hb.n
  have h1:af a.d*b.n≠0:=Int.mul_ne_zero (by have:=ha.p;simp only[aT7];omega) h0
  have a1:=ha.n;have a2:=ha.d;have b1:=hb.n;have b2:=hb.d
  exact avW (kS (a:=a.n) (b:=af b.d) (by unfold aE;omega) (show aj b.d<8388608 by omega)) (kS (a:=af a.d) (b:=b.n) (show aj a.d<8388608 by omega) (by unfold aE;omega)) (ap2 (by omega) (by omega) h1)
 ·cases h
def anj {a:Q}(h:aj (ap a.n)<8388608):bn [eQ a]=Z [sV (lL a.n)]:=by
 have:=dj (z:=a.n) h
 unfold gI at this
 simp only[bn,this]
def u9 {a:Q}(h:a.Ok):bn [eQ a]=Z [sV (lL a.n)]:=anj (by have:=h.n;omega)
def auK (n:Int)(d:Nat):ap (Q.low n d).n≤ap n∧(Q.low n d).d≤d:=by
 refine⟨?_,Nat.div_le_self _ _⟩
 show ap (n.ediv (af (aTY (ap n) d)))≤ap n
 simp only[dZ]
 have:(n/(af (aTY (n.natAbs) d))).natAbs≤n.natAbs:=by
  have hd:((aTY n.natAbs d:Nat):Int)∣n:=Int.ofNat_dvd_left.2 (Nat.gcd_dvd_left _ _)
  obtain⟨c,hc⟩:=hd
  rcases aUc (aTY n.natAbs d)with h0|h0
  ·rw[h0];simp
  ·have h0':((aTY n.natAbs d:Nat):Int)≠0:=by omega
   have e:n/af (aTY n.natAbs d)=c:=by
    show n/((aTY n.natAbs d:Nat):Int)=c
    generalize aTY n.natAbs d=g at*
    rw[hc]
    exact Int.mul_ediv_cancel_left c h0'
   rw[e]
   have:n.natAbs=(aTY n.natAbs d)*c.natAbs:=by
    have:=congrArg Int.natAbs hc
    rw[Int.natAbs_mul,Int.natAbs_natCast]at this
    exact this
   rw[this]
   exact Nat.le_mul_of_pos_left _ h0
 exact this
def agW {a b:Q}(ha:a.Ok)(hb:b.Ok):bn [eQ (a.add b)]=Z [sV (lL (a.add b).n)]:=anj (by
 have f1:aj (ap (a.n*af b.d))<2000000:=by rw[dF];exact ib ha.n hb.d
 have f2:aj (ap (b.n*af a.d))<2000000:=by rw[dF];exact ib hb.n ha.d
 have f3:=axY f1 f2
 have:=bR (auK (a.n*af b.d+b.n*af a.d) (a.d*b.d)).1
 show aj (ap (Q.low _ _).n)<_
 omega)
def adZ {a b:Q}(ha:a.Ok)(hb:b.Ok):cV [eQ a,eQ b]=Z [eQ (a.add b)]:=aaY ha hb
def akc {a b:Q}(ha:a.Ok)(hb:b.Ok):iE [eQ a,eQ b]=Z [eQ (a.mul b)]:=aaY ha hb
def aKP {a:Q}(ha:a.Ok):zf [eQ a]=Z [eQ a.neg]:=aDr ha
def aKM {a b:Q}(ha:a.Ok)(hb:b.Ok):y8 [eQ a,eQ b]=Z [sV (xg (a.n*af b.d) (b.n*af a.d))]:=aaY ha hb
def y9 {a b:Q}(ha:a.Ok)(hb:b.Ok)(h0:b.n≠0):fW [eQ a,eQ b]=Z [eQ (a.div b),sV (af 0)]:=by
 have hz:co b.n 0=aa:=by
  cases h:co b.n 0 with
  |false=>rfl
  |true=>exact absurd (gp h) h0
 unfold fW
 rw[aaY ha hb]
 simp only[hz]
def tRo  : Ft:=.n (.n (.n .z 204 (.nat cr) U .z) 205 (.nat tA) U .z) 243 (.nat oZ) U (.n .z 252 (.nat gv) U .z)
def aNK   {k:Cls}:tRo.Ok Tryz.prog k aH:=⟨⟨⟨tv,oB,tv,tv⟩,akW,tv,tv⟩,anO,tv,⟨tv,wU,tv,tv⟩⟩
def aPi {pn p1 p3:Bool}{x y g q1 q2 m1 m2:Nat}(e1:cr [zV aa y]=Z [sV (af 1)])(e3:tA [zV pn x,zV aa y]=Z [zV aa g])(e6:oZ [zV pn x,zV aa g]=Z [zV p1 q1,zV p3 m1,sV (af 0)])(e7:oZ [zV aa y,zV aa g]=Z [zV aa q2,zV aa m2,sV (af 0)]):
  bM (ao tRo.tb 10 8) 10 afW.1 [zV pn x,zV aa y]=Z [.agg [.v (.bool p1),.big q1,.v (.bool aa),.big q2],sV (af 0)]:=by
 simp(maxSteps:=9^9) only[az,seval,-ac,-ae,aH7,tRo,ar,e1,e3,e6,e7]
def aPh {pn pm p1 p3:Bool}{x y g q1 q2 m1 m2:Nat}(e1:cr [zV ab y]=Z [sV (aT2 0)])(e2:gv [zV pn x]=Z [zV pm x])(e2':gv [zV ab y]=Z [zV aa y])(e3:tA [zV pm x,zV aa y]=Z [zV aa g])(e6:oZ [zV pm x,zV aa g]=Z [zV p1 q1,zV p3 m1,sV (af 0)])(e7:oZ [zV aa y,zV aa g]=Z [zV aa q2,zV aa m2,sV (af 0)]):
  bM (ao tRo.tb 10 8) 10 afW.1 [zV pn x,zV ab y]=Z [.agg [.v (.bool p1),.big q1,.v (.bool aa),.big q2],sV (af 0)]:=by
 simp(maxSteps:=9^9) only[az,seval,-ac,-ae,aH7,tRo,ar,e1,e2,e2',e3,e6,e7]
def aej {n:Int}{d:Nat}(hn:aj (ap n)<8000000)(hd:aj d<8000000)(h0:0<d):
  tA [gI n,zV aa d]=Z [zV aa (aTY (ap n) d)]∧(∃m1,oZ [gI n,zV aa (aTY (ap n) d)]=Z [gI (jz n d),gI m1,sV (af 0)])∧(∃m2:Nat,oZ [zV aa d,zV aa (aTY (ap n) d)]=Z [zV aa (jy n d),zV aa m2,sV (af 0)]):=by
 have hg:0<aTY (ap n) d:=Nat.gcd_pos_of_pos_right _ h0
 have hgd:aTY (ap n) d≤d:=Nat.gcd_le_right _ h0
 have hgl:aj (aTY (ap n) d)<8000000:=aUh (bR hgd) hd
 have hgz:af (aTY (ap n) d)≠0:=fun h=>by
  have:aTY (ap n) d=0:=Int.ofNat.inj h
  omega
 exact⟨aMe (a:=n) (b:=af d) hn hd,⟨_,aq4 hn (b:=af (aTY (ap n) d)) hgl hgz⟩,⟨d%aTY (ap n) d,aq4 (a:=af d) (b:=af (aTY (ap n) d)) hd hgl hgz⟩⟩
def aA0 {a b:Int}(ha:aj (ap a)<8000000)(hb:aj (ap b)<8000000)(h0:b≠0):bM (ao tRo.tb 10 8) 10 afW.1 [gI a,gI b]=Z [eQ (Q.ofI a b),sV (af 0)]:=by
 match b,hb,h0 with
 |.ofNat 0,_,h=>exact absurd rfl h
 |.ofNat (n+1),hb,_=>
  obtain⟨e3,⟨m1,e6⟩,⟨m2,e7⟩⟩:=aej ha hb (Nat.succ_pos n)
  exact aPi (jr (a:=af (n+1)) (show aj (n+1)<8388608 from Nat.lt_trans hb (by omega))) e3 e6 e7
 |.negSucc n,hb,_=>
  have he:ap (-a)=ap a:=by simp only[dZ,Int.natAbs_neg]
  obtain⟨e3,⟨m1,e6⟩,⟨m2,e7⟩⟩:=aej (n := -a) (d:=n+1) (by rw[he];exact ha) hb (Nat.succ_pos n)
  have e2:=ji (a:=a) (by unfold aE;omega)
  have e2':=ji (a:=aT2 n) (Nat.lt_trans hb (by omega))
  have e1:=jr (a:=aT2 n) (Nat.lt_trans hb (by omega))
  unfold gI at e2 e3 e6
  rw[he]at e2 e3 e6 e7
  unfold gI
  exact aPh e1 e2 e2' e3 e6 e7
def anN {k:Cls}:Cn k 251 rh:=aC (ay aNK afW.2 10 10 8) fun al rs h=>by
 unfold rh at h
 split at h
 ·split at h
  ·rename_i a b hx hy
   obtain⟨rfl,ha⟩:=bX hx
   obtain⟨rfl,hb⟩:=bX hy
   split at h
   ·rename_i hz hf
    cases h
    rw[aTT,aTR,aTR]at hf
    exact aA0 hf.1 hf.2 (by intro e;subst e;cases hz)
   ·cases h
  ·cases h
 ·cases h
def tRf  : Ft:=.n .z 251 (.nat rh) U .z
def aNH   {k:Cls}:tRf.Ok Tryz.prog k aH:=⟨tv,anN,tv,tv⟩
def awh {p1 p2 p5:Bool}{x3 x4 x5 d5:Nat}(e3:rh [zV p1 x3,zV p2 x4]=Z [q4 p5 x5 d5,sV (af 0)]):bM (ao tRf.tb 10 8) 10 aqM.1 [zV p1 x3,zV p2 x4]=Z [q4 p5 x5 d5]:=by
 simp(maxSteps:=9^9) only[az,seval,-ac,-ae,aQV,tRf,ar,e3,kR]
def aci:List V1→Option (List V1):=fun al=>match rh al with|some [q,_]=>Z [q]|_=>U
def aAR {k:Cls}:Cn k 222 aci:=aC (ay aNH aqM.2 10 10 8) fun al rs h=>by
 unfold aci at h
 split at h
 ·rename_i q x e
  cases h
  have e':=e
  unfold rh at e'
  split at e'
  ·split at e'
   ·rename_i a b hx hy
    obtain⟨rfl,ha⟩:=bX hx
    obtain⟨rfl,hb⟩:=bX hy
    split at e'
    ·cases e'
     exact awh e
    ·cases e'
   ·cases e'
  ·cases e'
 ·cases h
def avf {a b:Int}(ha:aj (ap a)<8000000)(hb:aj (ap b)<8000000)(h0:b≠0):aci [gI a,gI b]=Z [eQ (Q.ofI a b)]:=by
 simp only[aci,ap2 ha hb h0]
def tRq  : Ft:=.n (.n (.n (.n .z 139 (.nat wb) U .z) 140 (.nat fM) U .z) 204 (.nat cr) U (.n .z 220 (.nat gH) U .z)) 221 (.nat gJ) U (.n (.n .z 222 (.nat aci) U .z) 251 (.nat rh) U (.n .z 252 (.nat gv) U .z))
def rL   {k:Cls}:tRq.Ok Tryz.prog k aH:=⟨⟨⟨⟨tv,ahk,tv,tv⟩,aa1,tv,tv⟩,oB,tv,⟨tv,wS,tv,tv⟩⟩,akX,tv,⟨⟨tv,aAR,tv,tv⟩,anN,tv,⟨tv,wU,tv,tv⟩⟩⟩
def arj {p1 p2 p3 p4:Bool}{x1 x2 d1 d2 x3 d3 x4 d4:Nat}(e1:gJ [zV p1 x1,zV p2 x2]=Z [zV p3 x3])(e2:gJ [zV aa d1,zV aa d2]=Z [zV aa d3])(e3:aci [zV p3 x3,zV aa d3]=Z [q4 p4 x4 d4]):
  bM (ao tRq.tb 10 8) 10 aqL.1 [q4 p1 x1 d1,q4 p2 x2 d2]=Z [q4 p4 x4 d4]:=by
 simp(maxSteps:=9^9) only[az,seval,-ac,-ae,aQT,tRq,ar,e1,e2,e3]
def arh {p1 p2 p3 p4 p5 p6:Bool}{x1 x2 d1 d2 x3 d3 x4 d4 x5 x6:Nat}(e1:gJ [zV p1 x1,zV aa d2]=Z [zV p3 x3])(e2:gJ [zV p2 x2,zV aa d1]=Z [zV p4 x4])(e3:gH [zV p3 x3,zV p4 x4]=Z [zV p5 x5])(e4:gJ [zV aa d1,zV aa d2]=Z [zV aa d3])(e5:aci [zV p5 x5,zV aa d3]=Z [q4 p6 x6 d4]):
  bM (ao tRq.tb 10 8) 10 aqv.1 [q4 p1 x1 d1,q4 p2 x2 d2]=Z [q4 p6 x6 d4]:=by
 simp(maxSteps:=9^9) only[az,seval,-ac,-ae,aQw,tRq,ar,e1,e2,e3,e4,e5]
def ari {p1 p2 p3 p4 p5:Bool}{x1 x2 d1 d2 x3 x4 x5 d5:Nat}(e1:gJ [zV p1 x1,zV aa d2]=Z [zV p3 x3])(e2:gJ [zV aa d1,zV p2 x2]=Z [zV p4 x4])(e3:rh [zV p3 x3,zV p4 x4]=Z [q4 p5 x5 d5,sV (af 0)]):
  bM (ao tRq.tb 10 8) 10 aqS.1 [q4 p1 x1 d1,q4 p2 x2 d2]=Z [q4 p5 x5 d5,sV (af 0)]:=by
 simp(maxSteps:=9^9) only[az,seval,-ac,-ae,aQ2,tRq,ar,e1,e2,e3]
def ark {p p':Bool}{x x' d:Nat}(e1:gv [zV p x]=Z [zV p' x']):bM (ao tRq.tb 10 8) 10 aqN.1 [q4 p x d]=Z [q4 p' x' d]:=by
 simp(maxSteps:=9^9) only[az,seval,-ac,-ae,aQW,tRq,ar,e1]
def ama {p:Bool}{x d:Nat}{z:Int}(e1:cr [zV p x]=Z [sV z]):bM (ao tRq.tb 10 8) 10 aqo.1 [q4 p x d]=Z [sV z]:=by
 simp(maxSteps:=9^9) only[az,seval,-ac,-ae,aQl,tRq,ar,e1]
def akZ {p:Bool}{x:Nat}{z:Int}(e1:fM [sV z]=Z [zV p x])(e2:fM [sV (af 1)]=Z [zV aa 1]):bM (ao tRq.tb 10 8) 10 q65.1 [sV z]=Z [q4 p x 1]:=by
 simp(maxSteps:=9^9) only[az,seval,-ac,-ae,E65,tRq,ar,e1,e2]
def al9 {p1 p2 b1 b2:Bool}{x1 x2 d1 d2:Nat}(e1:wb [zV p1 x1,zV p2 x2]=Z [bV b1])(e2:wb [zV aa d1,zV aa d2]=Z [bV b2]):bM (ao tRq.tb 10 8) 10 q64.1 [q4 p1 x1 d1,q4 p2 x2 d2]=Z [bV (b1&&b2)]:=by
 cases b1<;>simp(maxSteps:=9^9) only[az,seval,-ac,-ae,E64,tRq,ar,e1,e2]
def aAB {k:Cls}:Cn k 219 iE:=jL (ay rL aqL.2 10 10 8) fun a b rs ha hb h=>by
 cases h
 have a1:=ha.n;have a2:=ha.d;have b1:=hb.n;have b2:=hb.d
 have f1:aj (ap (a.n*b.n))<2000000:=by rw[dF];exact ib ha.n hb.n
 have f2:aj (a.d*b.d)<2000000:=ib ha.d hb.d
 exact arj (jh (a:=a.n) (b:=b.n) (by unfold aE;omega) (by unfold aE;omega)) (jh (a:=af a.d) (b:=af b.d) (show aj a.d<8388608 by omega) (show aj b.d<8388608 by omega))
  (avf (a:=a.n*b.n) (b:=af (a.d*b.d)) (by omega) (show aj (a.d*b.d)<8000000 by omega) (by have:=Nat.mul_pos ha.p hb.p;simp only[aT7];omega))
def akP {k:Cls}:Cn k 157 cV:=jL (ay rL aqv.2 10 10 8) fun a b rs ha hb h=>by
 cases h
 have a1:=ha.n;have a2:=ha.d;have b1:=hb.n;have b2:=hb.d
 have f1:aj (ap (a.n*af b.d))<2000000:=by rw[dF];exact ib ha.n hb.d
 have f2:aj (ap (b.n*af a.d))<2000000:=by rw[dF];exact ib hb.n ha.d
 have f3:=axY f1 f2
 have f4:aj (a.d*b.d)<2000000:=ib ha.d hb.d
 exact arh (jh (a:=a.n) (b:=af b.d) (by unfold aE;omega) (show aj b.d<8388608 by omega)) (jh (a:=b.n) (b:=af a.d) (by unfold aE;omega) (show aj a.d<8388608 by omega))
  (qx (by unfold aE;omega) (by unfold aE;omega)) (jh (a:=af a.d) (b:=af b.d) (show aj a.d<8388608 by omega) (show aj b.d<8388608 by omega))
  (avf (a:=a.n*af b.d+b.n*af a.d) (b:=af (a.d*b.d)) (by omega) (show aj (a.d*b.d)<8000000 by omega) (by have:=Nat.mul_pos ha.p hb.p;simp only[aT7];omega))
def akQ {k:Cls}:Cn k 241 fW:=jL (ay rL aqS.2 10 10 8) fun a b rs ha hb h=>by
 split at h
 ·rename_i hz
  cases h
  have h0:b.n≠0:=by intro e;rw[e]at hz;cases hz
  have f1:aj (ap (a.n*af b.d))<2000000:=by rw[dF];exact ib ha.n hb.d
  have f2:aj (ap (af a.d*b.n))<2000000:=by rw[dF];exact ib ha.d hb.n
  have h1:af a.d*b.n≠0:=Int.mul_ne_zero (by have:=ha.p;simp only[aT7];omega) h0
  have a1:=ha.n;have a2:=ha.d;have b1:=hb.n;have b2:=hb.d
  exact ari (jh (a:=a.n) (b:=af b.d) (by unfold aE;omega) (show aj b.d<8388608 by omega)) (jh (a:=af a.d) (b:=b.n) (show aj a.d<8388608 by omega) (by unfold aE;omega)) (ap2 (by omega) (by omega) h1)
 ·cases h
def aAC {k:Cls}:Cn k 223 zf:=ade (ay rL aqN.2 10 10 8) fun a rs ha h=>by
 cases h;exact ark (ji (a:=a.n) (by unfold aE;have:=ha.n;omega))
def sS {k:Cls}:Cn k 137 bn:=aC (ay rL aqo.2 10 10 8) fun al rs h=>by
 obtain⟨a,d,rfl,hf,rfl⟩:=akd h
 exact ama (jr hf)
def gZ {k:Cls}:Cn k 65 aW:=aC (ay rL q65.2 10 10 8) fun al rs h=>by
 unfold aW at h
 split at h
 ·split at h
  ·rename_i hc
   cases h
   rw[aTR]at hc
   exact akZ (aou hc) rfl
  ·cases h
 ·cases h
def kN:=sR fun a b=>Z [bV (a.n==b.n&&af a.d==af b.d)]
def aFF {a b:Q}(ha:a.Ok)(hb:b.Ok):kN [eQ a,eQ b]=Z [bV (a.n==b.n&&af a.d==af b.d)]:=aaY ha hb
def ahh {k:Cls}:Cn k 64 kN:=jL (ay rL q64.2 10 10 8) fun a b rs ha hb h=>by
 cases h
 have a1:=ha.n;have a2:=ha.d;have b1:=hb.n;have b2:=hb.d
 exact al9 (amQ (a:=a.n) (b:=b.n) (by unfold aE;omega) (by unfold aE;omega)) (amQ (a:=af a.d) (b:=af b.d) (show aj a.d<8388608 by omega) (show aj b.d<8388608 by omega))
def aKT {a:Q}(h:a.Ok):a.neg.Ok:=⟨by show aj (ap (-a.n))<1000000;rw[show ap (-a.n)=ap a.n by simp only[dZ,Int.natAbs_neg]];exact h.n,h.d,h.p⟩
def aGT (a b:Q):a.add b.neg=a.sub b:=by
 unfold Q.add Q.sub Q.neg
 dsimp only
 rw[Int.neg_mul,← Int.sub_eq_add_neg]
def tRs  : Ft:=.n (.n .z 157 (.nat cV) U .z) 223 (.nat zf) U (.n .z 241 (.nat fW) U .z)
def awI   {k:Cls}:tRs.Ok Tryz.prog k aH:=⟨⟨tv,akP,tv,tv⟩,aAC,tv,⟨tv,akQ,tv,tv⟩⟩
def arl {p1 p2 p3 p4:Bool}{x1 x2 d1 d2 x3 d3 x4 d4:Nat}(e1:zf [q4 p2 x2 d2]=Z [q4 p3 x3 d3])(e2:cV [q4 p1 x1 d1,q4 p3 x3 d3]=Z [q4 p4 x4 d4]):bM (ao tRs.tb 10 8) 10 aqx.1 [q4 p1 x1 d1,q4 p2 x2 d2]=Z [q4 p4 x4 d4]:=by
 simp(maxSteps:=9^9) only[az,seval,-ac,-ae,aQx,tRs,ar,e1,e2]
def aAF {k:Cls}:Cn k 159 ack:=jL (ay awI aqx.2 10 10 8) fun a b rs ha hb h=>by
 cases h
 rw[← aGT]
 exact arl (aKP hb) (adZ ha (aKT hb))
def al8 {p1 p2 p4:Bool}{x1 x2 d1 d2 x4 d4:Nat}(e1:fW [q4 p1 x1 d1,q4 p2 x2 d2]=Z [q4 p4 x4 d4,sV (af 0)]):bM (ao tRs.tb 10 8) 10 aqD.1 [q4 p1 x1 d1,q4 p2 x2 d2]=Z [q4 p4 x4 d4]:=by
 simp(maxSteps:=9^9) only[az,seval,-ac,-ae,aQF,tRs,ar,e1,kR]
def pB:=sR fun a b=>match co b.n 0 with|false=>Z [eQ (a.div b)]|true=>U
def ani {a b:Q}(ha:a.Ok)(hb:b.Ok)(h0:b.n≠0):pB [eQ a,eQ b]=Z [eQ (a.div b)]:=by
 unfold pB
 rw[aaY ha hb]
 simp only[avt h0]
def ahg {k:Cls}:Cn k 185 pB:=jL (ay awI aqD.2 10 10 8) fun a b rs ha hb h=>by
 split at h
 ·rename_i hz
  cases h
  exact al8 (y9 ha hb (by intro e;rw[e]at hz;cases hz))
 ·cases h
def afP:=mq aa 214 1 Tryz.func214
def aud:=pk (lp afP.1 0 []=·)
def aHZ:=ev (lp afP.1 0) aud
def aQP:=bO (fl afP.1) afP.1 aud
def aqQ:=mq ab 231 1 Tryz.func231
def aQ1:=ev (fl aqQ.1) aqQ.1
def afz:=mq aa 138 2 Tryz.func138
def at8:=pk (lp afz.1 0 []=·)
def xH:=ev (lp afz.1 0) at8
def ah4:=bO (fl afz.1) afz.1 at8
def aqn:=mq aa 135 1 Tryz.func135
def aQk:=ev (fl aqn.1) aqn.1
def afx:=mq aa 112 2 Tryz.func112
def yu:=pk (lp afx.1 0 []=·)
def ar8:=ev (lp afx.1 0) yu
def aQc:=bO (fl afx.1) afx.1 yu
def afJ:=mq aa 188 3 Tryz.func188
def uA:=pk (lp afJ.1 0 []=·)
def aid:=ev (lp afJ.1 0) uA
def aQH:=bO (fl afJ.1) afJ.1 uA
def afM:=mq aa 208 2 Tryz.func208
def yA:=pk (lp afM.1 0 []=·)
def ash:=ev (lp afM.1 0) yA
def aQL:=bO (fl afM.1) afM.1 yA
def aqI:=mq aa 211 2 Tryz.func211
def aQN:=ev (fl aqI.1) aqI.1
def q78:=mq aa 78 2 Tryz.func78
def me:=pk (lp q78.1 0 []=·)
def vD:=ev (lp q78.1 0) me
def E78:=bO (fl q78.1) q78.1 me
def zD:=mq aa 155 2 Tryz.func155
def adw:=pk (lp zD.1 1 []=·)
def aHL:=ev (lp zD.1 1) adw
def uy:=pk (lp zD.1 0 [adw]=·)
def acN:=bO (lp zD.1 0) uy adw
def aHK:=kf (fl zD.1) zD.1 uy adw
def q84:=mq aa 84 2 Tryz.func84
def E84:=ev (fl q84.1) q84.1
def aqj:=mq aa 119 2 Tryz.func119
def aQg:=ev (fl aqj.1) aqj.1
def q76:=mq aa 76 2 Tryz.func76
def adH:=pk (lp q76.1 0 []=·)
def aoJ:=ev (lp q76.1 0) adH
def E76:=bO (fl q76.1) q76.1 adH
def afy:=mq aa 118 2 Tryz.func118
def yv:=pk (lp afy.1 0 []=·)
def ar9:=ev (lp afy.1 0) yv
def aQf:=bO (fl afy.1) afy.1 yv
def wJ:=mq aa 184 2 Tryz.func184
def ady:=pk (lp wJ.1 1 []=·)
def asf:=ev (lp wJ.1 1) ady
def qK:=pk (lp wJ.1 0 [ady]=·)
def aic:=bO (lp wJ.1 0) qK ady
def aoD:=kf (fl wJ.1) wJ.1 qK ady
def afE:=mq aa 147 3 Tryz.func147
def yx:=pk (lp afE.1 0 []=·)
def asb:=ev (lp afE.1 0) yx
def aQp:=bO (fl afE.1) afE.1 yx
def afN:=mq aa 212 2 Tryz.func212
def ajo:=pk (lp afN.1 0 []=·)
def aHX:=ev (lp afN.1 0) ajo
def aHW:=bO (fl afN.1) afN.1 ajo
def afF:=mq aa 148 1 Tryz.func148
def at9:=pk (lp afF.1 0 []=·)
def aHJ:=ev (lp afF.1 0) at9
def aQq:=bO (fl afF.1) afF.1 at9
def q82:=mq aa 82 2 Tryz.func82
def wd:=pk (lp q82.1 0 []=·)
def aht:=ev (lp q82.1 0) wd
def E82:=bO (fl q82.1) q82.1 wd
def q67:=mq aa 67 2 Tryz.func67
def q68:=mq aa 68 1 Tryz.func68
def E68:=ev (fl q68.1) q68.1
def aqE:=mq aa 187 1 Tryz.func187
def aQG:=ev (fl aqE.1) aqE.1
def aqi:=mq aa 117 1 Tryz.func117
def aQe:=ev (fl aqi.1) aqi.1
def q62:=mq aa 62 1 Tryz.func62
def aTA:=pk (lp q62.1 0 []=·)
def afG:=mq aa 154 2 Tryz.func154
def aua:=pk (lp afG.1 0 []=·)
def xI:=ev (lp afG.1 0) aua
def ah6:=bO (fl afG.1) afG.1 aua
def aqs:=mq aa 151 1 Tryz.func151
def aQt:=ev (fl aqs.1) aqs.1
def q92:=mq aa 92 2 Tryz.func92
def adJ:=pk (lp q92.1 0 []=·)
def aBW:=ev (lp q92.1 0) adJ
def E92:=bO (fl q92.1) q92.1 adJ
def afw:=mq aa 102 2 Tryz.func102
def ma:=pk (lp afw.1 0 []=·)
def qd:=ev (lp afw.1 0) ma
def aP6:=bO (fl afw.1) afw.1 ma
def afI:=mq aa 174 2 Tryz.func174
def yy:=pk (lp afI.1 0 []=·)
def ase:=ev (lp afI.1 0) yy
def aw4:=bO (fl afI.1) afI.1 yy
def aqf:=mq aa 104 2 Tryz.func104
def aP8:=ev (fl aqf.1) aqf.1
def q89:=mq aa 89 2 Tryz.func89
def aaL:=pk (lp q89.1 2 []=·)
def aOb:=ev (lp q89.1 2) aaL
def ss:=pk (lp q89.1 1 [aaL]=·)
def aBV:=bO (lp q89.1 1) ss aaL
def adI:=pk (lp q89.1 0 [ss,aaL]=·)
def aBU:=kf (lp q89.1 0) adI ss aaL
def E89:=ev3 (fl q89.1) q89.1 adI ss aaL
def wH:=mq aa 164 2 Tryz.func164
def adx:=pk (lp wH.1 1 []=·)
def asd:=ev (lp wH.1 1) adx
def qJ:=pk (lp wH.1 0 [adx]=·)
def ah8:=bO (lp wH.1 0) qJ adx
def aoB:=kf (fl wH.1) wH.1 qJ adx
def jU:=mq ab 106 2 Tryz.func106
def yt:=pk (lp jU.1 0 []=·)
def ar7:=ev (lp jU.1 0) yt
def aP9:=bO (fl jU.1) jU.1 yt
def zO:=mq aa 259 2 Tryz.func259
def oh:=pk (lp zO.1 1 []=·)
def asq:=ev (lp zO.1 1) oh
def yH:=pk (lp zO.1 0 [oh]=·)
def asp:=bO (lp zO.1 0) yH oh
def aQ8:=kf (fl zO.1) zO.1 yH oh
def zL:=mq aa 229 3 Tryz.func229
def md:=pk (lp zL.1 1 []=·)
def aij:=ev (lp zL.1 1) md
def yB:=pk (lp zL.1 0 [md]=·)
def asm:=bO (lp zL.1 0) yB md
def aQZ:=kf (fl zL.1) zL.1 yB md
def aqk:=mq aa 130 2 Tryz.func130
def aQh:=ev (fl aqk.1) aqk.1
def aqy:=mq aa 160 1 Tryz.func160
def aHM:=ev (fl aqy.1) aqy.1
def aqe:=mq aa 103 1 Tryz.func103
def aP7:=ev (fl aqe.1) aqe.1
def aqg:=mq aa 105 2 Tryz.func105
def aTb:=pk (lp aqg.1 0 []=·)
def azB:=mq aa 175 3 Tryz.func175
def q72:=mq aa 72 1 Tryz.func72
def aTB:=pk (lp q72.1 0 []=·)
def tw:=mq ab 161 3 Tryz.func161
def aHN:=ev (fl tw.1) tw.1
def ng:=mq ab 163 1 Tryz.func163
def aub:=pk (lp ng.1 0 []=·)
def asc:=ev (lp ng.1 0) aub
def ah7:=bO (fl ng.1) ng.1 aub
def wM:=mq aa 244 1 Tryz.func244
def jM:=pk (lp wM.1 0 []=·)
def aH3:=ev (lp wM.1 0) jM
def aw9:=bO (fl wM.1) wM.1 jM
def afT:=mq aa 245 2 Tryz.func245
def yE:=pk (lp afT.1 0 []=·)
def ail:=ev (lp afT.1 0) yE
def aQ4:=bO (fl afT.1) afT.1 yE
def zI:=mq aa 209 3 Tryz.func209
def adA:=pk (lp zI.1 1 []=·)
def acO:=ev (lp zI.1 1) adA
def nY:=pk (lp zI.1 0 [adA]=·)
def tF:=bO (lp zI.1 0) nY adA
def aw6:=kf (fl zI.1) zI.1 nY adA
def rF:=mq aa 210 2 Tryz.func210
def mc:=pk (lp rF.1 2 []=·)
def acP:=ev (lp rF.1 2) mc
def nZ:=pk (lp rF.1 1 []=·)
def asj:=ev (lp rF.1 1) nZ
def uD:=pk (lp rF.1 0 [nZ,mc]=·)
def asi:=kf (lp rF.1 0) uD nZ mc
def aQM:=ev3 (fl rF.1) rF.1 uD nZ mc
def zC:=mq aa 146 3 Tryz.func146
def nU:=pk (lp zC.1 1 []=·)
def asa:=ev (lp zC.1 1) nU
def qI:=pk (lp zC.1 0 [nU]=·)
def acM:=bO (lp zC.1 0) qI nU
def aHI:=kf (fl zC.1) zC.1 qI nU
def sQ:=mq aa 66 2 Tryz.func66
def sp:=pk (lp sQ.1 0 []=·)
def aBT:=ev (lp sQ.1 0) sp
def E66:=bO (fl sQ.1) sQ.1 sp
def afC:=mq aa 144 2 Tryz.func144
def yw:=pk (lp afC.1 0 []=·)
def ah5:=ev (lp afC.1 0) yw
def aHG:=bO (fl afC.1) afC.1 yw
def afD:=mq aa 145 2 Tryz.func145
def aHH:=ev (fl afD.1) afD.1
def afB:=mq aa 142 2 Tryz.func142
def uw:=pk (lp afB.1 0 []=·)
def acL:=ev (lp afB.1 0) uw
def aQn:=bO (fl afB.1) afB.1 uw
def afA:=mq aa 141 1 Tryz.func141
def aHF:=ev (fl afA.1) afA.1
def akA:=mq aa 111 2 Tryz.func111
def aQb:=ev (fl akA.1) akA.1
def aqq:=mq aa 143 0 Tryz.func143
def aQo:=ev (fl aqq.1) aqq.1
def akL:=mq aa 289 1 Tryz.func289
def axc:=ev (fl akL.1) akL.1
def vL:=pk (bc 289 Tryz.f289=·)
def aOc:=ev (fun _=>vL) vL
def aDV:BdOk Tryz.prog aH 289 vL:=ac0 Tryz.func289
def afZ:=mq aa 290 2 Tryz.func290
def yM:=pk (lp afZ.1 0 []=·)
def aiq:=ev (lp afZ.1 0) yM
def aRf:=bO (fl afZ.1) afZ.1 yM
def zN:=mq aa 257 3 Tryz.func257
def adE:=pk (lp zN.1 1 []=·)
def acR:=ev (lp zN.1 1) adE
def oa:=pk (lp zN.1 0 [adE]=·)
def tH:=bO (lp zN.1 0) oa adE
def axa:=kf (fl zN.1) zN.1 oa adE
def oK:=mq aa 258 2 Tryz.func258
def jN:=pk (lp oK.1 3 []=·)
def acU:=ev (lp oK.1 3) jN
def kD:=pk (lp oK.1 2 []=·)
def aim:=ev (lp oK.1 2) kD
def oe:=pk (lp oK.1 1 [kD,jN]=·)
def acT:=kf (lp oK.1 1) oe kD jN
def uI:=pk (lp oK.1 0 [oe,kD,jN]=·)
def acS:=ev3 (lp oK.1 0) uI oe kD jN
def aoH:=ev4 (fl oK.1) oK.1 uI oe kD jN
def afR:=mq aa 228 3 Tryz.func228
def uG:=pk (lp afR.1 0 []=·)
def aii:=ev (lp afR.1 0) uG
def aQY:=bO (fl afR.1) afR.1 uG
def tz:=mq aa 170 3 Tryz.func170
def nX:=pk (lp tz.1 0 []=·)
def aib:=ev (lp tz.1 0) nX
def abJ:=bO (fl tz.1) tz.1 nX
def xA:=mq aa 91 2 Tryz.func91
def E91:=ev (fl xA.1) xA.1
def acs:=mq aa 169 2 Tryz.func169
def aQA:=ev (fl acs.1) acs.1
def wI:=mq aa 177 2 Tryz.func177
def aHR:=ev (fl wI.1) wI.1
def wK:=mq aa 227 1 Tryz.func227
def uF:=pk (lp wK.1 0 []=·)
def xJ:=ev (lp wK.1 0) uF
def aH1:=bO (fl wK.1) wK.1 uF
def zG:=mq aa 168 1 Tryz.func168
def kC:=pk (lp zG.1 1 []=·)
def aia:=ev (lp zG.1 1) kC
def uz:=pk (lp zG.1 0 [kC]=·)
def ah9:=bO (lp zG.1 0) uz kC
def aHQ:=kf (fl zG.1) zG.1 uz kC
def zF:=mq aa 166 1 Tryz.func166
def aHP:=ev (fl zF.1) zF.1
def afH:=mq aa 165 1 Tryz.func165
def aHO:=ev (fl afH.1) afH.1
def akE:=mq aa 171 2 Tryz.func171
def aQB:=ev (fl akE.1) akE.1
def aqz:=mq aa 167 0 Tryz.func167
def aQz:=ev (fl aqz.1) aqz.1
def aqO:=mq aa 226 2 Tryz.func226
def aQX:=ev (fl aqO.1) aqO.1
def zH:=mq ab 200 3 Tryz.func200
def uB:=pk (lp zH.1 0 []=·)
def aie:=ev (lp zH.1 0) uB
def aw5:=bO (fl zH.1) zH.1 uB
def akG:=mq aa 201 2 Tryz.func201
def aHU:=ev (fl akG.1) akG.1
end
end Go.Proofs.YtfiijelajgifiaaGreat
