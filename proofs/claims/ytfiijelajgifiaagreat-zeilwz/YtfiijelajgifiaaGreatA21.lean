/-
  Part 21 of the machine and of the contracts of functions of the program (packed).
-/
import Derived.Test.YtfiijelajgifiaaGreatA20
set_option linter.all false
set_option linter.defProp false
open Bool renaming false→aa,true→ab,and_eq_true→aTT,eq_iff_iff→aUp
open Int renaming reduceOfNat→ac,reduceNegSucc→ae,ofNat→af,negSucc→aT2,ofNat_eq_natCast→aT7
open List renaming length_cons→aTV,length_append→aTW,mem_cons→aTZ,mem_cons_self→aT0,replicate→aT5,mem_cons_of_mem→aT8,drop_length→aUg,append_assoc→aUr
open Nat renaming blt→ah,beq→ai,log2→aj,ble→aTQ,blt_eq→aTR,le_refl→aTS,eq_of_beq_eq_true→aT1,lt_or_ge→aT6,mod_eq_of_lt→aT9,mod_lt→aUb,le_trans→aUd,lt_of_le_of_lt→aUh,lt_of_lt_of_le→aUj
open Option renaming some→Z,none→U
namespace Go.Proofs.YtfiijelajgifiaaGreat
noncomputable section
open Go Go.Mach Go.Flow
set_option maxRecDepth 100000
set_option maxHeartbeats 4000000
def rsV (b:Bool)(v:Nat):Nat:=match b with
 |false=>v
 |true=>match v with
  |0=>0
  |m+1=>2147483647-(m+1)
def mz (b:Bool)(n:Nat):Nat:=rsV b (Nat.mod n 2147483647)
def dJ {k:Nat}(h:k<1000000000000):IntKind.i64.wrap (af k-af 1)=m1 k:=by
 rw[gD]
 simp only[IntKind.wrap,IntKind.bits,IntKind.signed,aT7,Int.bmod]
 simp
 omega
abbrev rB (b:Bool)(l:List Nat):Option Blk:=Z (.cells [.c (.v (.bool b)),.c (aB l)])
def aek (B:Nat):CC:=(.seq (.seq (.reg [⟨U,U,[],(.mv (.f 0))⟩,⟨U,(Z 2),[],(.pk (.bin .geq) [(.x 0),(.k (.t (.one (.c (.v (.int .i64 (af 0)))))))])⟩]) (.cond (.f 2) .skip (.exit 0))) (.seq (.block 1 (.reg [⟨U,U,[],(.mv (.f 1))⟩,⟨U,U,[],(.pk (.bin .mul) [(.x 0),(.k (.t (.one (.c (.v (.int .u64 (af B)))))))])⟩,⟨U,U,[],(.off 1 (.f 3))⟩,⟨U,U,[],(.ld aa 1 (.x 0))⟩,⟨U,U,[],(.mv (.f 0))⟩,⟨U,U,[],(.ixS 1 (.x 1) (.x 0))⟩,⟨U,U,[],(.ld aa 1 (.x 0))⟩,⟨U,U,[],(.pk (.cvt .u64) [(.x 0)])⟩,⟨U,U,[],(.pk (.bin .add) [(.x 6),(.x 0)])⟩,⟨U,U,[],(.pk (.bin .rem) [(.x 0),(.k (.t (.one (.c (.v (.int .u64 (af 2147483647)))))))])⟩,⟨U,(Z 1),[],(.mv (.x 0))⟩])) (.reg [⟨U,U,[],(.mv (.f 0))⟩,⟨U,U,[],(.pk (.bin .sub) [(.x 0),(.k (.t (.one (.c (.v (.int .i64 (af 1)))))))])⟩,⟨U,(Z 0),[],(.mv (.x 0))⟩])))
def aGy:jM=aek 4294967296:=rfl
def aAL {b:Bool}{l r:List Nat}{d i m v B:Nat}(hv:(m*B+d)%2147483647=v)(f1:m*B<18446744073709551616)(f2:m*B+d<18446744073709551616)(f3:d<18446744073709551616)(hi:l.drop i=d::r)(hl:l.length<1000000){t2 t4 t5 t6:T}{E:Hp}{W:List Nat}{cf:av}(fl:Nat):
  ∃t2' W',am cf fl (aek B) ⟨[iT i,wT m,t2,.t (.one (.ptr 0 0)),t4,t5,t6],rB b l::E,[],W,[]⟩=Z (.normal,⟨[jT (m1 i),wT v,t2',.t (.one (.ptr 0 0)),t4,t5,t6],rB b l::E,[],W',[]⟩):=by
 have h1:=aM hi
 have hw:=dJ (k:=i) (by omega)
 simp(maxSteps:=9^9) only[au,seval,-ac,-ae,aek,h1,hi,hw,f1,f2,f3,hv]
 exact⟨_,_,rfl⟩
def aGi {t1 t2 t3 t4 t5 t6:T}{H:Hp}{W:List Nat}{cf:av}(fl:Nat):
  ∃t2',am cf fl jM ⟨[jT (aT2 0),t1,t2,t3,t4,t5,t6],H,[],W,[]⟩=Z (.exit 0,⟨[jT (aT2 0),t1,t2',t3,t4,t5,t6],H,[],W,[]⟩):=by
 simp(maxSteps:=9^9) only[au,seval,-ac,-ae,aH3]
 exact⟨_,rfl⟩
def ip (l:List Nat)(k:Nat):Nat:=Nat.mod (val (l.drop k)) 2147483647
def alD {l r:List Nat}{d i:Nat}(hi:l.drop i=d::r)(hd:d<4294967296):∃B,B=4294967296∧(ip l (i+1)*B+d)%2147483647=ip l i∧ip l (i+1)*B<18446744073709551616∧ip l (i+1)*B+d<18446744073709551616:=by
 refine⟨_,rfl,?_⟩
 have h0:ip l (i+1)=val (l.drop (i+1))%2147483647:=rfl
 have h1:ip l i=val (l.drop i)%2147483647:=rfl
 rw[h0,h1,hi,bf hi,val]
 generalize val r=a
 refine⟨?_,?_,?_⟩<;>omega
def alA (l:List Nat):ip l l.length=0:=by unfold ip;rw[aUg];rfl
def alC (l:List Nat)(k:Nat):ip l k<2147483647:=aUb _ (by omega)
def awb {b:Bool}{l:List Nat}{k:Nat}(hk:k<l.length)(hl:l.length<1000000)(hlim:lims l){t2 t4 t5 t6:T}{E:Hp}{W:List Nat}{cf:av}:
  ∃t2' W',am cf ak jM ⟨[iT k,wT (ip l (k+1)),t2,.t (.one (.ptr 0 0)),t4,t5,t6],rB b l::E,[],W,[]⟩=Z (.normal,⟨[jT (m1 k),wT (ip l k),t2',.t (.one (.ptr 0 0)),t4,t5,t6],rB b l::E,[],W',[]⟩):=by
 obtain⟨d,r,hd⟩:=bo (p:=l) (i:=k) hk
 have hdl:=hlim d (aX hd)
 obtain⟨B,hB,hs,f1,f2⟩:=alD hd hdl
 have hc:jM=aek B:=by rw[hB];exact aGy
 rw[hc]
 clear hB hc
 exact aAL hs f1 f2 (by omega) hd hl ak
def aAM {b:Bool}{l:List Nat}(hl:l.length<1000000)(hlim:lims l){t4 t5 t6:T}{E:Hp}{cf:av}:
  ∃t2 W,aG (am cf ak jM) ak ⟨[jT (m1 l.length),wT 0,.nil,.t (.one (.ptr 0 0)),t4,t5,t6],rB b l::E,[],[],[]⟩=Z (.exit 0,⟨[jT (aT2 0),wT (ip l 0),t2,.t (.one (.ptr 0 0)),t4,t5,t6],rB b l::E,[],W,[]⟩):=by
 obtain⟨x,st',h,_,rfl,t2,W,rfl⟩:=bg (body:=am cf ak jM) (fun k st=>k≤l.length∧∃t2 W,st=⟨[jT (m1 k),wT (ip l k),t2,.t (.one (.ptr 0 0)),t4,t5,t6],rB b l::E,[],W,[]⟩) (fun k=>k)
  (fun x st'=>x=.exit 0∧∃t2 W,st'=⟨[jT (aT2 0),wT (ip l 0),t2,.t (.one (.ptr 0 0)),t4,t5,t6],rB b l::E,[],W,[]⟩)
  (fun k st h=>by
   obtain⟨hk,t2,W,rfl⟩:=h
   match k,hk with
   |0,hk=>
    obtain⟨t2',e⟩:=aGi (t1:=wT (ip l 0)) (t2:=t2) (t3:=.t (.one (.ptr 0 0))) (t4:=t4) (t5:=t5) (t6:=t6) (H:=rB b l::E) (W:=W) (cf:=cf) ak
    exact .inr ⟨_,_,e,by simp,rfl,_,_,rfl⟩
   |k+1,hk=>
    obtain⟨t2',W',e⟩:=awb (b:=b) (t2:=t2) (t4:=t4) (t5:=t5) (t6:=t6) (E:=E) (W:=W) (cf:=cf) (show k<l.length by omega) hl hlim
    exact .inl ⟨k,_,e,⟨by omega,_,_,rfl⟩,Nat.lt_succ_self k⟩)
  ak l.length _ ⟨aTS _,.nil,[],by rw[alA]⟩ (eI (by omega))
 exact⟨t2,W,h⟩
section
variable {l:List Nat} {t2:T} {W:List Nat} {cf:av}
def awd {v:Nat}(hl:l.length<1000000)
  (h:aG (am cf ak jM) ak ⟨[jT (m1 l.length),wT 0,.nil,.t (.one (.ptr 0 0)),wT 0,.nil,.t (.agg [.c (.v (.bool aa)),.c (aB l)])],[rB aa l],[],[],[]⟩=Z (.exit 0,⟨[jT (aT2 0),wT v,t2,.t (.one (.ptr 0 0)),wT 0,.nil,.t (.agg [.c (.v (.bool aa)),.c (aB l)])],[rB aa l],[],W,[]⟩)):
  bM cf ak wM.1 [.agg [.v (.bool aa),aB l]]=Z [uV v]:=by
 have hw:=dJ (k:=l.length) (by omega)
 have f1:l.length<9223372036854775808:=by omega
 simp(maxSteps:=9^9) only[au,seval,-ac,-ae,aw9,hw,f1,h]
def awc (hl:l.length<1000000)
  (h:aG (am cf ak jM) ak ⟨[jT (m1 l.length),wT 0,.nil,.t (.one (.ptr 0 0)),wT 0,.nil,.t (.agg [.c (.v (.bool ab)),.c (aB l)])],[rB ab l],[],[],[]⟩=Z (.exit 0,⟨[jT (aT2 0),wT 0,t2,.t (.one (.ptr 0 0)),wT 0,.nil,.t (.agg [.c (.v (.bool ab)),.c (aB l)])],[rB ab l],[],W,[]⟩)):
  bM cf ak wM.1 [.agg [.v (.bool ab),aB l]]=Z [uV 0]:=by
 have hw:=dJ (k:=l.length) (by omega)
 have f1:l.length<9223372036854775808:=by omega
 simp(maxSteps:=9^9) only[au,seval,-ac,-ae,aw9,hw,f1,h]
def awe {v u:Nat}(hv:0<v)(e:IntKind.u64.wrap (af 2147483647-af v)=af u)(hl:l.length<1000000)
  (h:aG (am cf ak jM) ak ⟨[jT (m1 l.length),wT 0,.nil,.t (.one (.ptr 0 0)),wT 0,.nil,.t (.agg [.c (.v (.bool ab)),.c (aB l)])],[rB ab l],[],[],[]⟩=Z (.exit 0,⟨[jT (aT2 0),wT v,t2,.t (.one (.ptr 0 0)),wT 0,.nil,.t (.agg [.c (.v (.bool ab)),.c (aB l)])],[rB ab l],[],W,[]⟩)):
  bM cf ak wM.1 [.agg [.v (.bool ab),aB l]]=Z [uV u]:=by
 have hw:=dJ (k:=l.length) (by omega)
 have f1:l.length<9223372036854775808:=by omega
 simp(maxSteps:=9^9) only[au,seval,-ac,-ae,aw9,hw,f1,h,e,hv]
end
def al7 {b:Bool}{l:List Nat}(hl:l.length<1000000)(hlim:lims l){cf:av}:bM cf ak wM.1 [.agg [.v (.bool b),aB l]]=Z [uV (mz b (val l))]:=by
 obtain⟨t2,W,h⟩:=aAM (b:=b) (t4:=wT 0) (t5:=.nil) (t6:=.t (.agg [.c (.v (.bool b)),.c (aB l)])) (E:=[]) (cf:=cf) hl hlim
 have hv:=alC l 0
 have hr:mz b (val l)=rsV b (ip l 0):=rfl
 rw[hr]
 generalize ip l 0=v at*
 clear hr
 cases b with
 |false=>exact awd hl h
 |true=>
  match v,hv,h with
  |0,_,h=>exact awc hl h
  |m+1,hv,h=>
   unfold rsV
   dsimp only
   have e:IntKind.u64.wrap (af 2147483647-af (m+1))=af (2147483647-(m+1)):=by
    rw[zl (by omega),np,aT9 (by omega)]
   generalize 2147483647-(m+1)=u at*
   exact awe (Nat.succ_pos m) e hl h
def ba:List V1→Option (List V1)
 |[.agg [.v (.bool b),.big n]]=>match iB n with|true=>Z [uV (mz b n)]|false=>U
 |_=>U
def j5 {b:Bool}{n:Nat}(h:aj n<8388608):ba [.agg [.v (.bool b),.big n]]=Z [uV (mz b n)]:=by
 have hf:iB n=ab:=by unfold iB;rw[aTR];exact h
 simp only[ba,hf]
def akS {k:Cls}:Cn k 244 ba:=bZ (ay (t:=.z) trivial wM.2 10 ak 8) fun al rs h=>by
 unfold ba at h
 split at h
 ·rename_i b n
  split at h
  ·rename_i hf
   cases h
   have hn:aj n<8388608:=by simpa [iB]using hf
   have hlen:=fe hn
   refine⟨[.agg [.v (.bool b),aB (ax n)]],_,.cons (j3 (.cons (.refl _) (.cons (j4 n) .nil))) .nil,?_,Imps.refl _⟩
   rw[al7 (by omega) (aI n),aD]
  ·cases h
 ·cases h
abbrev iq (n:Nat):C:=.v (.int .u64 (af n))
def wD (l:List Nat):List D:=l.map fun n=>.c (iq n)
def bA (l:List Nat):(wD l).length=l.length:=List.length_map _
def eW (l:List Nat)(k:Nat):(wD l).drop k=wD (l.drop k):=by unfold wD;rw[List.map_drop]
def iH (n:Nat)(l:List Nat):wD (n::l)=.c (iq n)::wD l:=rfl
def aey (l:List Nat)(k n:Nat)(h:k<l.length):bF (wD l) k [.c (iq n)]=wD (l.set k n):=by
 unfold bF
 show(wD l).take k++[D.c (iq n)]++(wD l).drop (k+1)=_
 rw[eW]
 unfold wD
 rw[← List.map_take,List.set_eq_take_append_cons_drop,if_pos h,List.map_append,List.map_cons,aUr]
 rfl
section
variable {p t:List Mn} {m:Mn} {i v at' n k:Nat} {out r:List Nat} {d a b o:Nat} {t0 t2 t4 t5 t9 t10 t11 t12 t13 t14:T} {W:List Nat} {cf:av}
def aJO (hi:p.drop i=m::t)(hl:p.length<10000000)(e1:ba [.agg [.v (.bool aa),.big m.q.d]]=Z [uV 0]){t6 t7 t8:T}{H:Hp}
  (c1:CA cf 244 ba)(fl:Nat):
  ∃t0' t2' t4' t5' t9' t10' t11' t12' W',am cf fl nY ⟨[t0,iT i,t2,pT p,t4,t5,t6,t7,t8,t9,t10,t11,t12,t13,t14],H,[],W,[]⟩=Z (.ret,⟨[t0',iT i,t2',pT p,t4',t5',t6,t7,t8,t9',t10',t11',t12',aR,bj aa],H,[],W',[]⟩):=by
 have hd:=bW hi
 have h1:=aM hi
 simp(maxSteps:=9^9) only[au,seval,-ac,-ae,tF,ar,h1,hd,c1,e1]
 exact⟨_,_,_,_,_,_,_,_,_,rfl⟩
def aOz (hv:v<4)(hi:p.drop i=m::t)(hl:p.length<10000000)(ha:at'<4294967296)(hk:m.ex v=k)(hkl:k<out.length)(hkn:k<n)(hout:out.length<10000000)(ho:out.drop k=o::r){rn y x0 ya yb yc yd xa xb xc xd z:Nat}
  (e1:ba [.agg [.v (.bool aa),.big m.q.d]]=Z [uV d])(hd0:(d==0)=aa)(e2:ba [.agg [.v (.bool (aw m.q.n)),.big (ap m.q.n)]]=Z [uV rn])(e3:bH [uV d,sV (af 2147483645)]=Z [uV y])(f0:rn*y<18446744073709551616)(v0:(rn*y)%2147483647=x0)
  (ea:bH [uV at',sV (af m.a)]=Z [uV ya])(eb:bH [uV (at'+1),sV (af m.b)]=Z [uV yb])(ec:bH [uV (at'+2),sV (af m.c)]=Z [uV yc])(ed:bH [uV (at'+3),sV (af m.d)]=Z [uV yd])
  (fa:x0*ya<18446744073709551616)(va:(match ai 0 v with|true=>x0|false=>(x0*ya)%2147483647)=xa)(fb:xa*yb<18446744073709551616)(vb:(match ai 1 v with|true=>xa|false=>(xa*yb)%2147483647)=xb)
  (fc:xb*yc<18446744073709551616)(vc:(match ai 2 v with|true=>xb|false=>(xb*yc)%2147483647)=xc)(fd:xc*yd<18446744073709551616)(vd:(match ai 3 v with|true=>xc|false=>(xc*yd)%2147483647)=xd)(fo:o+xd<18446744073709551616)(vo:(o+xd)%2147483647=z)
  (c1:CA cf 244 ba)(c2:CA cf 245 bH):
  ∃t0' t2' t4' t5' t9' t10' t11' t12' W',am cf ak nY ⟨[t0,iT i,t2,pT p,t4,t5,iT v,wT at',.t (.one (.lsl 0 0 n 1)),t9,t10,t11,t12,t13,t14],[Z (.cells (wD out))],[],W,[]⟩=Z (.normal,⟨[t0',iT (i+1),t2',pT p,t4',t5',iT v,wT at',.t (.one (.lsl 0 0 n 1)),t9',t10',t11',t12',t13,t14],[Z (.cells (wD (out.set k z)))],[],W',[]⟩):=by
 have hd:=bW hi
 have h1:=aM hi
 have f1:i+1<9223372036854775808:=by omega
 have g0:at'%18446744073709551616=at':=aT9 (by omega)
 have g1:at'+1<18446744073709551616:=by omega
 have g2:at'+2<18446744073709551616:=by omega
 have g3:at'+3<18446744073709551616:=by omega
 have g4:(wD out).drop k=.c (iq o)::wD r:=by rw[eW,ho,iH]
 have g5:k+1≤(wD out).length:=by rw[bA];omega
 have g6:=aey out k z hkl
 obtain⟨g,hg⟩:∃g,ak=g+6:=⟨ak-6,by have:=aN (n:=10) (by omega);omega⟩
 rw[hg]
 have hv':v=0∨v=1∨v=2∨v=3:=by omega
 rcases hv' with rfl|rfl|rfl|rfl
 ·have hk:m.a=k:=hk
  subst hk
  have va:x0=xa:=va
  subst va
  have vb:(x0*yb)%2147483647=xb:=vb
  have vc:(xb*yc)%2147483647=xc:=vc
  have vd:(xc*yd)%2147483647=xd:=vd
  simp(maxSteps:=9^9) only[au,seval,-ac,-ae,aG,tF,acO,ar,h1,hd,c1,c2,e1,hd0,e2,e3,f0,v0,ea,eb,ec,ed,fa,vb,fb,vc,fc,vd,fd,fo,vo,f1,g0,g1,g2,g3,g4,g5,g6,hkn]
  exact⟨_,_,_,_,_,_,_,_,_,rfl⟩
 ·have hk:m.b=k:=hk
  subst hk
  have va:(x0*ya)%2147483647=xa:=va
  have vb:xa=xb:=vb
  subst vb
  have vc:(xa*yc)%2147483647=xc:=vc
  have vd:(xc*yd)%2147483647=xd:=vd
  simp(maxSteps:=9^9) only[au,seval,-ac,-ae,aG,tF,acO,ar,h1,hd,c1,c2,e1,hd0,e2,e3,f0,v0,ea,eb,ec,ed,fa,va,fb,vc,fc,vd,fd,fo,vo,f1,g0,g1,g2,g3,g4,g5,g6,hkn]
  exact⟨_,_,_,_,_,_,_,_,_,rfl⟩
 ·have hk:m.c=k:=hk
  subst hk
  have va:(x0*ya)%2147483647=xa:=va
  have vb:(xa*yb)%2147483647=xb:=vb
  have vc:xb=xc:=vc
  subst vc
  have vd:(xb*yd)%2147483647=xd:=vd
  simp(maxSteps:=9^9) only[au,seval,-ac,-ae,aG,tF,acO,ar,h1,hd,c1,c2,e1,hd0,e2,e3,f0,v0,ea,eb,ec,ed,fa,va,vb,fb,fc,vd,fd,fo,vo,f1,g0,g1,g2,g3,g4,g5,g6,hkn]
  exact⟨_,_,_,_,_,_,_,_,_,rfl⟩
 ·have hk:m.d=k:=hk
  subst hk
  have va:(x0*ya)%2147483647=xa:=va
  have vb:(xa*yb)%2147483647=xb:=vb
  have vc:(xb*yc)%2147483647=xc:=vc
  have vd:xc=xd:=vd
  subst vd
  simp(maxSteps:=9^9) only[au,seval,-ac,-ae,aG,tF,acO,ar,h1,hd,c1,c2,e1,hd0,e2,e3,f0,v0,ea,eb,ec,ed,fa,va,vb,fb,vc,fc,fd,fo,vo,f1,g0,g1,g2,g3,g4,g5,g6,hkn]
  exact⟨_,_,_,_,_,_,_,_,_,rfl⟩
end
def sX (w v x y:Nat):Nat:=match ai w v with|true=>x|false=>Nat.mod (Nat.mul x y) 2147483647
def xp (v at':Nat)(m:Mn):Option Nat:=match mz aa m.q.d with
 |0=>U
 |d+1=>Z (sX 3 v (sX 2 v (sX 1 v (sX 0 v (Nat.mod (Nat.mul (mz (aw m.q.n) (ap m.q.n)) (rE (d+1) 2147483645)) 2147483647) (rE at' m.a)) (rE (at'+1) m.b)) (rE (at'+2) m.c)) (rE (at'+3) m.d))
def iP:List Nat→Nat→Nat→List Nat
 |[],_,_=>[]
 |o::r,0,x=>Nat.mod (Nat.add o x) 2147483647::r
 |o::r,k+1,x=>o::iP r k x
def qz (v at':Nat):List Mn→List Nat→Option (List Nat)
 |[],out=>Z out
 |m::p,out=>match xp v at' m with
  |none=>U
  |some x=>qz v at' p (iP out (m.ex v) x)
def xP:∀{out:List Nat} {k o x:Nat} {r:List Nat},out.drop k=o::r→iP out k x=out.set k ((o+x)%2147483647)
 |[],k,o,x,r,h=>by simp at h
 |a::l,0,o,x,r,h=>by cases h;rfl
 |a::l,k+1,o,x,r,h=>by
  have:l.drop k=o::r:=h
  rw[iP,xP this];rfl
def rR:∀(out:List Nat) (k x:Nat),(iP out k x).length=out.length
 |[],_,_=>rfl
 |o::r,0,x=>rfl
 |o::r,k+1,x=>by rw[iP,aTV,aTV,rR r k x]
abbrev iz (l:List Nat):Prop:=∀o∈l,o<2147483648
def ago {out:List Nat}(h:iz out)(k x:Nat):iz (iP out k x):=by
 induction out generalizing k with
 |nil=>exact h
 |cons a l ih=>
  have ha:=h a aT0
  have hl:iz l:=fun o ho=>h o (aT8 _ ho)
  cases k with
  |zero=>
   intro o ho
   rw[iP]at ho
   rcases aTZ.1 ho with rfl|ho
   ·exact aUj (aUb _ (by omega)) (by omega)
   ·exact hl o ho
  |succ k=>
   intro o ho
   rw[iP]at ho
   rcases aTZ.1 ho with rfl|ho
   ·exact ha
   ·exact ih hl k o ho
def aMr {b:Bool}{v:Nat}(h:v<2147483647):rsV b v<2147483647:=by
 unfold rsV
 split
 ·exact h
 ·split<;>omega
def aa0 (b:Bool)(n:Nat):mz b n<2147483647:=aMr (aUb _ (by omega))
def jo (a n:Nat):jS a n<2147483647:=aUb _ (by omega)
def oD {w v x y:Nat}(h:x<2147483647):sX w v x y<2147483647:=by
 unfold sX
 split
 ·exact h
 ·exact aUb _ (by omega)
def nA {x y:Nat}(hx:x<2147483647)(hy:y<2147483647):x*y<18446744073709551616:=by
 have:=Nat.mul_lt_mul'' hx hy
 omega
def ayd {p t:List Mn}{m:Mn}{i v at' n x:Nat}{out:List Nat}(hm:m.Ok)(hv:v<4)(hi:p.drop i=m::t)(hl:p.length<10000000)(ha:at'<2147483000)(hkl:m.ex v<out.length)(hkn:m.ex v<n)(hout:out.length<10000000)(hP:iz out)(hx:xp v at' m=Z x){t0 t2 t4 t5 t9 t10 t11 t12 t13 t14:T}{W:List Nat}{cf:av}
  (c1:CA cf 244 ba)(c2:CA cf 245 bH):
  ∃t0' t2' t4' t5' t9' t10' t11' t12' W',am cf ak nY ⟨[t0,iT i,t2,pT p,t4,t5,iT v,wT at',.t (.one (.lsl 0 0 n 1)),t9,t10,t11,t12,t13,t14],[Z (.cells (wD out))],[],W,[]⟩=Z (.normal,⟨[t0',iT (i+1),t2',pT p,t4',t5',iT v,wT at',.t (.one (.lsl 0 0 n 1)),t9',t10',t11',t12',t13,t14],[Z (.cells (wD (iP out (m.ex v) x)))],[],W',[]⟩):=by
 obtain⟨o,r,ho⟩:=bo hkl
 rw[xP ho]
 have hol:=hP o (aX ho)
 unfold xp at hx
 split at hx
 ·cases hx
 rename_i d hd
 have hdl:=aa0 aa m.q.d
 rw[hd]at hdl
 have a1:=hm.a;have a2:=hm.b;have a3:=hm.c;have a4:=hm.d
 have q1:=hm.q.n;have q2:=hm.q.d
 have e1:=j5 (b:=aa) (n:=m.q.d) (by omega)
 rw[hd]at e1
 have e2:=j5 (b:=aw m.q.n) (n:=ap m.q.n) (by omega)
 have e3:=fI (a:=d+1) (n:=2147483645) (by omega) (by omega)
 have ea:=fI (a:=at') (n:=m.a) (by omega) (by omega)
 have eb:=fI (a:=at'+1) (n:=m.b) (by omega) (by omega)
 have ec:=fI (a:=at'+2) (n:=m.c) (by omega) (by omega)
 have ed:=fI (a:=at'+3) (n:=m.d) (by omega) (by omega)
 simp only[vw,Option.some.injEq]at hx
 have l0:=aa0 (aw m.q.n) (ap m.q.n)
 have l1:=jo (d+1) 2147483645
 have la:=jo at' m.a
 have lb:=jo (at'+1) m.b
 have lc:=jo (at'+2) m.c
 have ld:=jo (at'+3) m.d
 generalize mz (aw m.q.n) (ap m.q.n)=rn at*
 generalize jS (d+1) 2147483645=y at*
 generalize jS at' m.a=ya at*
 generalize jS (at'+1) m.b=yb at*
 generalize jS (at'+2) m.c=yc at*
 generalize jS (at'+3) m.d=yd at*
 have k0:(rn*y)%2147483647<2147483647:=aUb _ (by omega)
 obtain⟨x0,hx0⟩:∃x0,(rn*y)%2147483647=x0:=⟨_,rfl⟩
 have hx0':Nat.mod (Nat.mul rn y) 2147483647=x0:=hx0
 rw[hx0]at k0
 rw[hx0']at hx
 have ka:=oD (w:=0) (v:=v) (y:=ya) k0
 obtain⟨xa,hxa⟩:∃xa,sX 0 v x0 ya=xa:=⟨_,rfl⟩
 rw[hxa]at ka hx
 have kb:=oD (w:=1) (v:=v) (y:=yb) ka
 obtain⟨xb,hxb⟩:∃xb,sX 1 v xa yb=xb:=⟨_,rfl⟩
 rw[hxb]at kb hx
 have kc:=oD (w:=2) (v:=v) (y:=yc) kb
 obtain⟨xc,hxc⟩:∃xc,sX 2 v xb yc=xc:=⟨_,rfl⟩
 rw[hxc]at kc hx
 have kd:=oD (w:=3) (v:=v) (y:=yd) kc
 rw[hx]at kd
 exact aOz hv hi hl (by omega) rfl hkl hkn hout ho e1 rfl e2 e3 (nA l0 l1) hx0 ea eb ec ed (nA k0 la) hxa (nA ka lb) hxb (nA kb lc) hxc (nA kc ld) hx (by omega) rfl c1 c2
abbrev imT (p:List Mn)(v at' n i:Nat)(t0 t2 t4 t5 t9 t10 t11 t12 t13 t14:T):List T:=[t0,iT i,t2,pT p,t4,t5,iT v,wT at',.t (.one (.lsl 0 0 n 1)),t9,t10,t11,t12,t13,t14]
def aJP {p:List Mn}{v at' n:Nat}{t0 t2 t4 t5 t9 t10 t11 t12 t13 t14:T}{H:Hp}{W:List Nat}{cf:av}(fl:Nat):
  ∃t11',am cf fl nY ⟨imT p v at' n p.length t0 t2 t4 t5 t9 t10 t11 t12 t13 t14,H,[],W,[]⟩=Z (.exit 0,⟨imT p v at' n p.length t0 t2 t4 t5 t9 t10 t11' t12 t13 t14,H,[],W,[]⟩):=by
 simp(maxSteps:=9^9) only[au,seval,-ac,-ae,tF]
 exact⟨_,rfl⟩
def IIm (p:List Mn)(v at' n:Nat)(R:Option (List Nat))(i:Nat)(st:St):Prop:=
 i≤p.length∧∃t0 t2 t4 t5 t9 t10 t11 t12 W out,st=⟨imT p v at' n i t0 t2 t4 t5 t9 t10 t11 t12 aR (bj aa),[Z (.cells (wD out))],[],W,[]⟩∧out.length=n∧iz out∧qz v at' (p.drop i) out=R
def QIm (p:List Mn)(v at' n:Nat)(R:Option (List Nat))(x:X)(st:St):Prop:=
 (x=.exit 0∧∃t0 t2 t4 t5 t9 t10 t11 t12 W out,st=⟨imT p v at' n p.length t0 t2 t4 t5 t9 t10 t11 t12 aR (bj aa),[Z (.cells (wD out))],[],W,[]⟩∧out.length=n∧iz out∧R=Z out)∨
 (x=.ret∧R=U∧∃i t0 t2 t4 t5 t9 t10 t11 t12 W out,st=⟨imT p v at' n i t0 t2 t4 t5 t9 t10 t11 t12 aR (bj aa),[Z (.cells (wD out))],[],W,[]⟩)
def ati {v o:Nat}:∀(p:List Mn) (o:Nat),o≤rZ v p o
 |[],o=>aTS _
 |m::p,o=>by
  rw[rZ]
  exact aUd (by rw[aj2];omega) (ati (o:=o) p _)
def adg {v:Nat}:∀{p:List Mn} {m:Mn} (o:Nat),m∈p→m.ex v+1≤rZ v p o
 |k::p,m,o,h=>by
  rw[rZ]
  rcases aTZ.1 h with rfl|h
  ·exact aUd (by rw[aj2];omega) (ati (o:=o) p _)
  ·exact adg _ h
def aET {p:List Mn}{v at' n:Nat}{R:Option (List Nat)}(hp:PF p)(hv:v<4)(ha:at'<2147483000)(hn:dg v p=n)(hn':n<10000000){cf:av}
  (c1:CA cf 244 ba)(c2:CA cf 245 bH)(i:Nat)(st:St)(h:IIm p v at' n R i st):
  (∃i' st',am cf ak nY st=Z (.normal,st')∧IIm p v at' n R i' st'∧p.length-i'<p.length-i)∨(∃x st',am cf ak nY st=Z (x,st')∧x≠.normal∧QIm p v at' n R x st'):=by
 obtain⟨hi,t0,t2,t4,t5,t9,t10,t11,t12,W,out,rfl,ho,hP,hR⟩:=h
 rcases aT6 i p.length with h1|h1
 ·obtain⟨m,t,hm⟩:=bo h1
  have om:=hp.ok m (aX hm)
  have hk:m.ex v+1≤n:=by rw[← hn];exact adg 0 (aX hm)
  rw[hm,qz]at hR
  cases hx:xp v at' m with
  |none=>
   rw[hx]at hR
   have e1:ba [.agg [.v (.bool aa),.big m.q.d]]=Z [uV 0]:=by
    rw[j5 (by have:=om.q.d;omega)]
    unfold xp at hx
    split at hx
    ·rename_i e;rw[e]
    ·cases hx
   obtain⟨t0',t2',t4',t5',t9',t10',t11',t12',W',e⟩:=aJO (t0:=t0) (t2:=t2) (t4:=t4) (t5:=t5) (t6:=iT v) (t7:=wT at') (t8:=.t (.one (.lsl 0 0 n 1))) (t9:=t9) (t10:=t10) (t11:=t11) (t12:=t12) (t13:=aR) (t14:=bj aa) (H:=[Z (.cells (wD out))]) (W:=W) hm hp.len e1 c1 ak
   exact .inr ⟨_,_,e,by simp,.inr ⟨rfl,hR.symm,_,_,_,_,_,_,_,_,_,_,_,rfl⟩⟩
  |some x=>
   rw[hx]at hR
   obtain⟨t0',t2',t4',t5',t9',t10',t11',t12',W',e⟩:=ayd (n:=n) (t0:=t0) (t2:=t2) (t4:=t4) (t5:=t5) (t9:=t9) (t10:=t10) (t11:=t11) (t12:=t12) (t13:=aR) (t14:=bj aa) (W:=W) om hv hm hp.len ha (by omega) (by omega) (by omega) hP hx c1 c2
   exact .inl ⟨i+1,_,e,⟨h1,_,_,_,_,_,_,_,_,_,_,rfl,by rw[rR];exact ho,ago hP _ _,by rw[bf hm];exact hR⟩,by omega⟩
 ·obtain rfl:i=p.length:=by omega
  obtain⟨t11',e⟩:=aJP (p:=p) (v:=v) (at':=at') (n:=n) (t0:=t0) (t2:=t2) (t4:=t4) (t5:=t5) (t9:=t9) (t10:=t10) (t11:=t11) (t12:=t12) (t13:=aR) (t14:=bj aa) (H:=[Z (.cells (wD out))]) (W:=W) (cf:=cf) ak
  rw[aUg,qz]at hR
  exact .inr ⟨_,_,e,by simp,.inl ⟨rfl,_,_,_,_,_,_,_,_,_,_,rfl,ho,hP,hR.symm⟩⟩
def tIm  : Ft:=.n (.n .z 112 (.nat a9) U .z) 244 (.nat ba) U (.n .z 245 (.nat bH) U .z)
def aNf   {k:Cls}:tIm.Ok Tryz.prog k aH:=⟨⟨tv,lh,tv,tv⟩,akS,tv,⟨tv,aei,tv,tv⟩⟩
def wL (l:List Nat):List C:=l.map iq
abbrev rV (l:List Nat):V1:=.one (.sl l.length (wL l))
def aaC (H:Hp)(k:Nat):∀l:List Nat,kg (fz H k) (wD l)=Z (wL l,[])
 |[]=>rfl
 |n::l=>by
  have h1:=aaC H k l
  rw[iH,kg,h1]
  cases k<;>rfl
def vn (n:Nat):ge (cW [.int .u64 (af 0)] n)=Z (wD (aT5 n 0)):=by
 have h:∀n,ge (aT5 n (Value.int .u64 0))=Z (wD (aT5 n 0)):=by
  intro n
  induction n with
  |zero=>rfl
  |succ n ih=>rw[List.replicate_succ,List.replicate_succ,ge,ih];rfl
 have e:cW [.int .u64 (af 0)] n=aT5 n (Value.int .u64 0):=by
  unfold cW
  apply List.ext_getElem
  ·simp
  ·intro i h1 h2
   simp[Nat.mod_one]
 rw[e,h]
def aoP {k:Nat}(h:k<1000000000000):b9 .add .i64 (m1 k) (af 1)=Z (.int .i64 (af k)):=by
 cases k with
 |zero=>rfl
 |succ k=>
  show b9 .add .i64 (af k) (af 1)=_
  rw[asL,agh,pf,if_pos (by omega)]
def l9 (p:List Mn)(v at':Nat):Option (List Nat):=qz v at' p (aT5 (dg v p) 0)
def dW:List Nat→Option Nat
 |[]=>U
 |[x]=>Z x
 |_::y::l=>dW (y::l)
def sn:Option (List Nat)→Option (List V1)
 |none=>Z [pV [],bV aa]
 |some l=>match dW l with
  |none=>U
  |some 0=>Z [rV l,bV aa]
  |some (_+1)=>Z [rV l,bV ab]
def b8:List V1→Option (List V1)
 |[x,.one (.v (.int .i64 (.ofNat v))),.one (.v (.int .u64 (.ofNat a)))]=>match gz x with
  |none=>U
  |some p=>match ah v 4,ah a 2147483000,ah (dg v p) 10000000 with
   |true,ab,ab=>sn (l9 p v a)
   |_,_,_=>U
 |_=>U
def iU:∀{l:List Nat} {x:Nat},dW l=Z x→l.drop (l.length-1)=[x]∧0<l.length
 |[y],x,h=>by cases h;exact⟨rfl,by simp⟩
 |_::y::l,x,h=>by
  obtain⟨h1,h2⟩:=iU (l:=y::l) h
  refine⟨?_,by simp⟩
  rw[← h1]
  rfl
def arf {p:List Mn}{v at':Nat}{rs:List V1}(hp:PF p)(hv:v<4)(ha:at'<2147483000)(hn':dg v p<10000000)(h:sn (l9 p v at')=Z rs):
  bM (ao tIm.tb 10 8) ak zI.1 [pV p,sV (af v),uV at']=Z rs:=by
 have c0:CA (ao tIm.tb 10 8) 112 a9:=fun _ _ _=>rfl
 have c1:CA (ao tIm.tb 10 8) 244 ba:=fun _ _ _=>rfl
 have c2:CA (ao tIm.tb 10 8) 245 bH:=fun _ _ _=>rfl
 generalize ao tIm.tb 10 8=cf at*
 have e0:=cv hp hv
 obtain⟨n,hn⟩:∃n,dg v p=n:=⟨_,rfl⟩
 have hR:l9 p v at'=qz v at' p (aT5 n 0):=by unfold l9;rw[hn]
 generalize l9 p v at'=R at*
 rw[hn]at hn' e0
 have hw:=aoP (k:=n) (by omega)
 have f1:n<9223372036854775808:=by omega
 have f2:n≤2 ^ 30:=by omega
 have f3:8*n≤70368744177664:=by omega
 obtain⟨x,st',hl,_,hQ⟩:=bg (IIm p v at' n R) (fun i=>p.length-i) (QIm p v at' n R) (fun i st h=>aET hp hv ha hn hn' c1 c2 i st h) ak 0 ⟨imT p v at' n 0 .nil .nil .nil .nil .nil .nil .nil .nil aR (bj aa),[Z (.cells (wD (aT5 n 0)))],[],[],[]⟩
  ⟨Nat.zero_le _,.nil,.nil,.nil,.nil,.nil,.nil,.nil,.nil,[],aT5 n 0,rfl,List.length_replicate,fun o ho=>by rw[List.eq_of_mem_replicate ho];omega,by rw[List.drop_zero];exact hR.symm⟩ (by have:=aN hp.len;omega)
 rcases hQ with⟨rfl,t0,t2,t4,t5,t9,t10,t11,t12,W,out,rfl,ho,hP,rfl⟩|⟨rfl,rfl,i,t0,t2,t4,t5,t9,t10,t11,t12,W,out,rfl⟩
 ·unfold sn at h
  dsimp only at h
  cases hx:dW out with
  |none=>rw[hx]at h;cases h
  |some x=>
   rw[hx]at h
   obtain⟨h1,h2⟩:=iU hx
   subst ho
   have hw2:IntKind.i64.wrap (af out.length-af 1)=af (out.length-1):=by
    rw[dJ (by omega),gD];show _=((out.length-1:Nat):Int);omega
   have g1:out.length-1<out.length:=by omega
   have g2:(wD out).drop (out.length-1)=[.c (iq x)]:=by rw[eW,h1];rfl
   have g3:out.length-1+1≤(wD out).length:=by rw[bA];omega
   have g4:out.length≤(wD out).length:=by rw[bA];omega
   have g5:(wD out).take out.length=wD out:=by rw[← bA out];exact List.take_length
   cases x with
   |zero=>
    cases h
    simp(maxSteps:=9^9) only[au,seval,-ac,-ae,aw6,c0,e0,hw,f1,f2,f3,vn,hl,hw2,g1,g2,g3,g4,g5,aaC]
   |succ x=>
    cases h
    simp(maxSteps:=9^9) only[au,seval,-ac,-ae,aw6,c0,e0,hw,f1,f2,f3,vn,hl,hw2,g1,g2,g3,g4,g5,aaC]
 ·cases h
  simp(maxSteps:=9^9) only[au,seval,-ac,-ae,aw6,c0,e0,hw,f1,f2,f3,vn,hl,pL]
  rfl
def aq9 {k:Cls}:Cn k 209 b8:=aC (ay aNf zI.2 10 ak 8) fun al rs h=>by
 unfold b8 at h
 split at h
 ·split at h
  ·cases h
  ·rename_i p e
   split at h
   ·rename_i h1 h2 h3
    rw[aTR]at h1 h2 h3
    obtain⟨rfl,h4,h5⟩:=eH e
    exact arf ⟨h4,h5⟩ h1 h2 h3 h
   ·cases h
 ·cases h
def ay3 {p:List Mn}{v at':Nat}(hp:PF p)(hv:v<4)(ha:at'<2147483000)(hn:dg v p<10000000):b8 [pV p,sV (af v),uV at']=sn (l9 p v at'):=by
 have h1:ah v 4=ab:=by rw[aTR];exact hv
 have h2:ah at' 2147483000=ab:=by rw[aTR];exact ha
 have h3:ah (dg v p) 10000000=ab:=by rw[aTR];exact hn
 simp only[b8,iy hp.ok hp.len,h1,h2,h3]
abbrev rT (l:List Nat):T:=.t (.one (.c (.sl l.length (wL l))))
abbrev kT (n:Nat):T:=.t (.one (.lsl 0 0 n 1))
def ahr (l:List Nat):(wL l).length=l.length:=List.length_map _
def aw0 (l:List Nat):(wL l).map .c=wD l:=by unfold wL wD;rw[List.map_map];rfl
def abf {l r:List Nat}{c i:Nat}(h:l.drop i=c::r):(wL l).drop i=iq c::wL r:=by
 unfold wL;rw[← List.map_drop,h];rfl
def ahq (l r:List Nat):wD (l++r)=wD l++wD r:=List.map_append
abbrev rQ (l:List Nat):Prop:=∀o∈l,o<2147483647
def bN (f:Nat):List Nat→Nat→List Nat→List Nat
 |o::r,0,c::b=>Nat.mod (Nat.add o (Nat.mul (Nat.sub 2147483647 c) f)) 2147483647::bN f r 0 b
 |o::r,k+1,b=>o::bN f r k b
 |r,_,_=>r
def w7 (f:Nat):∀(l:List Nat) (k:Nat),bN f l k []=l
 |[],0=>rfl
 |[],_+1=>rfl
 |_::_,0=>rfl
 |o::r,k+1=>by rw[bN,w7 f r k]
def aad {f:Nat}:∀{L:List Nat} {k o c:Nat} {r b:List Nat},L.drop k=o::r→bN f L k (c::b)=bN f (L.set k ((o+(2147483647-c)*f)%2147483647)) (k+1) b
 |[],k,o,c,r,b,h=>by simp at h
 |a::l,0,o,c,r,b,h=>by cases h;rfl
 |a::l,k+1,o,c,r,b,h=>by
  have:l.drop k=o::r:=h
  rw[bN,aad this,List.set_cons_succ,bN]
def lj (f:Nat):∀(l:List Nat) (k:Nat) (b:List Nat),(bN f l k b).length=l.length
 |[],0,[]=>rfl
 |[],0,_::_=>rfl
 |[],_+1,_=>rfl
 |o::r,0,[]=>rfl
 |o::r,0,c::b=>by rw[bN,aTV,aTV,lj f r 0 b]
 |o::r,k+1,b=>by rw[bN,aTV,aTV,lj f r k b]
def nj (f:Nat)(j:List Nat):∀(l:List Nat) (k:Nat) (b:List Nat),k+b.length≤l.length→bN f (l++j) k b=bN f l k b++j
 |[],0,[],_=>w7 f _ _
 |[],0,_::_,h=>by simp at h
 |[],_+1,_,h=>by simp at h
 |o::r,0,[],_=>rfl
 |o::r,0,c::b,h=>by
  rw[List.cons_append,bN,bN,nj f j r 0 b (by simp at h ⊢;omega)];rfl
 |o::r,k+1,b,h=>by
  rw[List.cons_append,bN,bN,nj f j r k b (by simp at h ⊢;omega)];rfl
def w8 {f:Nat}:∀{l:List Nat} {k:Nat} {b:List Nat},iz l→iz (bN f l k b)
 |[],0,[],h=>h
 |[],0,_::_,h=>h
 |[],_+1,_,h=>h
 |o::r,0,[],h=>h
 |o::r,0,c::b,h=>by
  intro x hx
  rw[bN]at hx
  rcases aTZ.1 hx with rfl|hx
  ·exact aUj (aUb _ (by omega)) (by omega)
  ·exact w8 (fun y hy=>h y (aT8 _ hy)) x hx
 |o::r,k+1,b,h=>by
  intro x hx
  rw[bN]at hx
  rcases aTZ.1 hx with rfl|hx
  ·exact h _ aT0
  ·exact w8 (fun y hy=>h y (aT8 _ hy)) x hx
def trc:Nat→List Nat→List Nat
 |0,[]=>[]
 |x+1,[]=>[x+1]
 |x,y::l=>x::y::l
def cC:List Nat→List Nat
 |[]=>[]
 |x::r=>trc x (cC r)
def als:∀r:List Nat,cC (r++[0])=cC r
 |[]=>rfl
 |x::r=>by rw[List.cons_append,cC,als r,cC]
def alu (x:Nat):∀r:List Nat,cC (r++[x+1])=r++[x+1]
 |[]=>rfl
 |y::r=>by
  rw[List.cons_append,cC,alu x r]
  cases r<;>cases y<;>rfl
def alt {y:Nat}:∀{r:List Nat},y∈cC r→y∈r
 |[],h=>h
 |x::r,h=>by
  rw[cC]at h
  have ih:=@alt y r
  cases hr:cC r with
  |nil=>
   rw[hr]at h
   cases x with
   |zero=>cases h
   |succ x=>
    rcases aTZ.1 h with rfl|h
    ·exact aT0
    ·cases h
  |cons z l=>
   rw[hr]at h ih
   rw[show trc x (z::l)=x::z::l by cases x<;>rfl]at h
   rcases aTZ.1 h with rfl|h
   ·exact aT0
   ·exact aT8 _ (ih h)
def wZ:∀r:List Nat,(cC r).length≤r.length
 |[]=>aTS _
 |x::r=>by
  have ih:=wZ r
  rw[cC]
  cases hr:cC r with
  |nil=>cases x<;>simp[trc]
  |cons z l=>rw[hr]at ih;rw[show trc x (z::l)=x::z::l by cases x<;>rfl];simp at ih ⊢;omega
def an0 {α:Type}:∀l:List α,l=[]∨∃r x,l=r++[x]:=fun l=>by
 rcases List.eq_nil_or_concat l with h|⟨r,x,h⟩
 ·exact .inl h
 ·exact .inr ⟨r,x,by rw[h,List.concat_eq_append]⟩
section
variable {L b t r:List Nat} {i sh n f o c u z:Nat} {t3 t4 t5 t6 t7 t8 t9 t10 t1:T} {W:List Nat} {cf:av}
def aGx (hi:b.drop i=c::t)(hb:b.length<10000000)(hn:n<10000000)(ho:L.drop (sh+i)=o::r)(hsn:sh+i<n)
  (e:IntKind.u64.wrap (af 2147483647-af c)=af u)(f1:u*f<18446744073709551616)(f2:o+u*f<18446744073709551616)(v:(o+u*f)%2147483647=z)(fl:Nat):
  ∃t4' W',am cf fl nZ ⟨[kT n,iT i,rT b,iT sh,t4,t5,wT f,t7,t8,t9,t10],[Z (.cells (wD L))],[],W,[]⟩=Z (.normal,⟨[kT n,iT (i+1),rT b,iT sh,t4',t5,wT f,t7,t8,t9,t10],[Z (.cells (wD (L.set (sh+i) z)))],[],W',[]⟩):=by
 have hl:=aM ho
 have h1:=aM hi
 have g1:sh+i<9223372036854775808:=by omega
 have g2:i+1<9223372036854775808:=by omega
 have g3:=abf hi
 have g4:(wD L).drop (sh+i)=.c (iq o)::wD r:=by rw[eW,ho,iH]
 have g5:sh+i+1≤(wD L).length:=by rw[bA];omega
 have g6:=aey L (sh+i) z hl
 simp(maxSteps:=9^9) only[au,seval,-ac,-ae,asj,ar,h1,hsn,g1,g2,g3,g4,g5,g6,e,f1,f2,v]
 exact⟨_,_,rfl⟩
def aMn {s0 t3 t6:T}{H:Hp}(fl:Nat):
  ∃t4',am cf fl nZ ⟨[s0,iT b.length,rT b,t3,t4,t5,t6,t7,t8,t9,t10],H,[],W,[]⟩=Z (.exit 2,⟨[s0,iT b.length,rT b,t3,t4',t5,t6,t7,t8,t9,t10],H,[],W,[]⟩):=by
 simp(maxSteps:=9^9) only[au,seval,-ac,-ae,asj,ar]
 exact⟨_,rfl⟩
def aMu {t2 t3 t6:T}{H:Hp}(fl:Nat):
  ∃t5',am cf fl mc ⟨[kT 0,t1,t2,t3,t4,t5,t6,t7,t8,t9,t10],H,[],W,[]⟩=Z (.exit 4,⟨[kT 0,t1,t2,t3,t4,t5',t6,t7,t8,t9,t10],H,[],W,[]⟩):=by
 simp(maxSteps:=9^9) only[au,seval,-ac,-ae,acP,ar]
 exact⟨_,rfl⟩
def aPk {t2 t3 t6:T}{k n:Nat}(hn:k+1=n)(hk:k<10000000)(h:L.drop k=0::r)(fl:Nat):
  ∃t5' W',am cf fl mc ⟨[kT n,t1,t2,t3,t4,t5,t6,t7,t8,t9,t10],[Z (.cells (wD L))],[],W,[]⟩=Z (.normal,⟨[kT k,t1,t2,t3,t4,t5',t6,t7,t8,t9,t10],[Z (.cells (wD L))],[],W',[]⟩):=by
 have hl:=aM h
 have g4:(wD L).drop k=.c (iq 0)::wD r:=by rw[eW,h,iH]
 have g5:k+1≤(wD L).length:=by rw[bA];omega
 have hw:IntKind.i64.wrap (af n-af 1)=af k:=by rw[← hn];exact dJ (k:=k+1) (by omega)
 have p1:0<n:=by omega
 have p2:k<n:=by omega
 have p3:k≤n:=by omega
 clear hn
 cases k with
 |zero=>
  simp(maxSteps:=9^9) only[au,seval,-ac,-ae,acP,ar,hw,g4,g5,p1,p2,p3]
  exact⟨_,_,rfl⟩
 |succ k=>
  have p4:0<k+1:=Nat.succ_pos k
  simp(maxSteps:=9^9) only[au,seval,-ac,-ae,acP,ar,hw,g4,g5,p1,p2,p3,p4]
  exact⟨_,_,rfl⟩
def aGB {t2 t3 t6:T}{k x n:Nat}(hn:k+1=n)(hk:k<10000000)(h:L.drop k=(x+1)::r)(fl:Nat):
  ∃t5' W',am cf fl mc ⟨[kT n,t1,t2,t3,t4,t5,t6,t7,t8,t9,t10],[Z (.cells (wD L))],[],W,[]⟩=Z (.exit 4,⟨[kT n,t1,t2,t3,t4,t5',t6,t7,t8,t9,t10],[Z (.cells (wD L))],[],W',[]⟩):=by
 have hl:=aM h
 have g4:(wD L).drop k=.c (iq (x+1))::wD r:=by rw[eW,h,iH]
 have g5:k+1≤(wD L).length:=by rw[bA];omega
 have hw:IntKind.i64.wrap (af n-af 1)=af k:=by rw[← hn];exact dJ (k:=k+1) (by omega)
 have p1:0<n:=by omega
 have p2:k<n:=by omega
 have p3:(x+1==0)=aa:=rfl
 clear hn
 simp(maxSteps:=9^9) only[au,seval,-ac,-ae,acP,ar,hw,g4,g5,p1,p2,p3]
 exact⟨_,_,rfl⟩
end
def avK {c f u o:Nat}(hu:u≤2147483647)(hf:f<2147483647)(ho:o<2147483648):u*f<18446744073709551616∧o+u*f<18446744073709551616:=by
 have:u*f≤2147483647*2147483647:=Nat.mul_le_mul hu (by omega)
 omega
def aMP {c:Nat}(h:c<2147483647):IntKind.u64.wrap (af 2147483647-af c)=af (2147483647-c):=by
 rw[zl (by omega),np,aT9 (by omega)]
def anY {L:List Nat}{k z:Nat}(h:iz L)(hz:z<2147483648):iz (L.set k z):=fun o ho=>by
 rcases List.mem_or_eq_of_mem_set ho with h1|rfl
 ·exact h o h1
 ·exact hz
def aGw {b L0:List Nat}{sh n f:Nat}(hb:b.length<10000000)(hn:n<10000000)(hB:rQ b)(hP:iz L0)(hf:f<2147483647)(hs:sh+b.length=n)(hL:n≤L0.length){t4 t5 t7 t8 t9 t10:T}{W:List Nat}{cf:av}:
  ∃t4' W',aG (am cf ak nZ) ak ⟨[kT n,iT 0,rT b,iT sh,t4,t5,wT f,t7,t8,t9,t10],[Z (.cells (wD L0))],[],W,[]⟩=Z (.exit 2,⟨[kT n,iT b.length,rT b,iT sh,t4',t5,wT f,t7,t8,t9,t10],[Z (.cells (wD (bN f L0 sh b)))],[],W',[]⟩):=by
 obtain⟨st',hl,t4',W',rfl⟩:=bq (body:=am cf ak nZ) (id:=2) b.length
  (fun i st=>∃t4 W L,st=⟨[kT n,iT i,rT b,iT sh,t4,t5,wT f,t7,t8,t9,t10],[Z (.cells (wD L))],[],W,[]⟩∧L.length=L0.length∧iz L∧bN f L (sh+i) (b.drop i)=bN f L0 sh b)
  (fun st=>∃t4 W,st=⟨[kT n,iT b.length,rT b,iT sh,t4,t5,wT f,t7,t8,t9,t10],[Z (.cells (wD (bN f L0 sh b)))],[],W,[]⟩)
  (fun i st hi=>by
   rintro⟨t4,W,L,rfl,hLl,hLP,hu⟩
   obtain⟨c,t,hc⟩:=bo hi
   obtain⟨o,r,ho⟩:=bo (p:=L) (i:=sh+i) (by omega)
   have hcP:=hB c (aX hc)
   have hoP:=hLP o (aX ho)
   obtain⟨f1,f2⟩:=avK (c:=c) (u:=2147483647-c) (f:=f) (o:=o) (by omega) hf hoP
   have e:=aMP hcP
   rw[hc,aad ho]at hu
   have hz:(o+(2147483647-c)*f)%2147483647<2147483648:=aUj (aUb _ (by omega)) (by omega)
   obtain⟨u,hu'⟩:∃u,2147483647-c=u:=⟨_,rfl⟩
   rw[hu']at e f1 f2 hu hz
   obtain⟨z,hz'⟩:∃z,(o+u*f)%2147483647=z:=⟨_,rfl⟩
   rw[hz']at hu hz
   obtain⟨t4',W',h⟩:=aGx (n:=n) (t4:=t4) (t5:=t5) (t7:=t7) (t8:=t8) (t9:=t9) (t10:=t10) (W:=W) (cf:=cf) hc hb hn ho (by omega) e f1 f2 hz' ak
   exact⟨_,h,_,_,_,rfl,by rw[List.length_set];exact hLl,anY hLP hz,by rw[bf hc];exact hu⟩)
  (fun st=>by
   rintro⟨t4,W,L,rfl,hLl,hLP,hu⟩
   obtain⟨t4',h⟩:=aMn (b:=b) (s0:=kT n) (t3:=iT sh) (t4:=t4) (t5:=t5) (t6:=wT f) (t7:=t7) (t8:=t8) (t9:=t9) (t10:=t10) (H:=[Z (.cells (wD L))]) (W:=W) (cf:=cf) ak
   rw[aUg,w7]at hu
   subst hu
   exact⟨_,h,_,_,rfl⟩)
  ak _ ⟨t4,W,L0,rfl,rfl,hP,by rw[List.drop_zero,Nat.add_zero]⟩ (aN hb)
 exact⟨_,_,hl⟩
def aGA {row junk:List Nat}(hr:row.length<10000000){t1 t2 t3 t4 t5 t6 t7 t8 t9 t10:T}{W:List Nat}{cf:av}:
  ∃t5' W' junk',aG (am cf ak mc) ak ⟨[kT row.length,t1,t2,t3,t4,t5,t6,t7,t8,t9,t10],[Z (.cells (wD (row++junk)))],[],W,[]⟩=Z (.exit 4,⟨[kT (cC row).length,t1,t2,t3,t4,t5',t6,t7,t8,t9,t10],[Z (.cells (wD (row++junk)))],[],W',[]⟩)∧cC row++junk'=row++junk:=by
 obtain⟨L0,hL0⟩:∃L0,row++junk=L0:=⟨_,rfl⟩
 rw[hL0]
 obtain⟨R,hR⟩:∃R,cC row=R:=⟨_,rfl⟩
 rw[hR]
 obtain⟨x,st',hl,_,rfl,t5',W',junk',rfl,hj⟩:=bg (body:=am cf ak mc) (fun r st=>r.length<10000000∧∃t5 W j,st=⟨[kT r.length,t1,t2,t3,t4,t5,t6,t7,t8,t9,t10],[Z (.cells (wD L0))],[],W,[]⟩∧r++j=L0∧cC r=R) (fun r:List Nat=>r.length)
  (fun x st'=>x=.exit 4∧∃t5 W j,st'=⟨[kT R.length,t1,t2,t3,t4,t5,t6,t7,t8,t9,t10],[Z (.cells (wD L0))],[],W,[]⟩∧R++j=L0)
  (fun r st h=>by
   obtain⟨hlen,t5,W,j,rfl,hj,ht⟩:=h
   rcases an0 r with rfl|⟨r,x,rfl⟩
   ·obtain⟨t5',e⟩:=aMu (t1:=t1) (t2:=t2) (t3:=t3) (t4:=t4) (t5:=t5) (t6:=t6) (t7:=t7) (t8:=t8) (t9:=t9) (t10:=t10) (H:=[Z (.cells (wD L0))]) (W:=W) (cf:=cf) ak
    subst ht
    exact .inr ⟨_,_,e,by simp,rfl,_,_,_,rfl,hj⟩
   ·have hk:r.length+1=(r++[x]).length:=by rw[aTW];rfl
    have hd:L0.drop r.length=x::j:=by rw[← hj,aUr,List.drop_left];rfl
    cases x with
    |zero=>
     obtain⟨t5',W',e⟩:=aPk (t1:=t1) (t2:=t2) (t3:=t3) (t4:=t4) (t5:=t5) (t6:=t6) (t7:=t7) (t8:=t8) (t9:=t9) (t10:=t10) (W:=W) (cf:=cf) hk (by omega) hd ak
     exact .inl ⟨r,_,e,⟨by omega,_,_,_,rfl,by rw[← hj,aUr],by rw[← ht,als]⟩,by omega⟩
    |succ x=>
     obtain⟨t5',W',e⟩:=aGB (t1:=t1) (t2:=t2) (t3:=t3) (t4:=t4) (t5:=t5) (t6:=t6) (t7:=t7) (t8:=t8) (t9:=t9) (t10:=t10) (W:=W) (cf:=cf) hk (by omega) hd ak
     rw[alu]at ht
     subst ht
     exact .inr ⟨_,_,e,by simp,rfl,_,_,_,rfl,hj⟩)
  ak row _ ⟨hr,t5,W,junk,rfl,hL0,hR⟩ (aN hr)
 exact⟨_,_,_,hl,hj⟩
def aA2 {b row junk:List Nat}{x f y:Nat}(hb:b.length<10000000)(hr:row.length<10000000)(hB:rQ b)(hP:iz (row++junk))(hb0:0<b.length)(hbr:b.length≤row.length)(hx:row.drop (row.length-1)=[x])(hy:y<2147483647)(hf:(x*y)%2147483647=f){t1 t3 t4 t5 t6 t7 t9 t10:T}{W:List Nat}{cf:av}:
  ∃t1' t3' t4' t5' t6' t7' W' junk',am cf ak uD ⟨[kT row.length,t1,rT b,t3,t4,t5,t6,t7,wT y,t9,t10],[Z (.cells (wD (row++junk)))],[],W,[]⟩=Z (.normal,⟨[kT (cC (bN f row (row.length-b.length) b)).length,t1',rT b,t3',t4',t5',t6',t7',wT y,t9,t10],[Z (.cells (wD (cC (bN f row (row.length-b.length) b)++junk')))],[],W',[]⟩)∧iz (cC (bN f row (row.length-b.length) b)++junk'):=by
 have hf':f<2147483647:=by rw[← hf];exact aUb _ (by omega)
 obtain⟨sh,hsh⟩:∃sh,row.length-b.length=sh:=⟨_,rfl⟩
 rw[hsh]
 have hd:(row++junk).drop (row.length-1)=x::junk:=by
  rw[List.drop_append_of_le_length (by omega),hx];rfl
 have hxl:=hP x (aX hd)
 have hL:row.length≤(row++junk).length:=by rw[aTW];omega
 obtain⟨t4',W1,e1⟩:=aGw (b:=b) (L0:=row++junk) (sh:=sh) (n:=row.length) (f:=f) (t4:=t4) (t5:=t5) (t7:=.t (.one (.c (.v (.bool ab))))) (t8:=wT y) (t9:=t9) (t10:=t10) (W:=W) (cf:=cf) hb hr hB hP hf' (by omega) hL
 rw[nj f junk row sh b (by omega)]at e1
 have hlu:=lj f row sh b
 have hPu:iz (bN f row sh b++junk):=by rw[← nj f junk row sh b (by omega)];exact w8 hP
 obtain⟨t5',W2,junk',e2,hj⟩:=aGA (row:=bN f row sh b) (junk:=junk) (t1:=iT b.length) (t2:=rT b) (t3:=iT sh) (t4:=t4') (t5:=t5) (t6:=wT f) (t7:=.t (.one (.c (.v (.bool ab))))) (t8:=wT y) (t9:=t9) (t10:=t10) (W:=W1) (cf:=cf) (by rw[hlu];exact hr)
 rw[hlu,← hj]at e2
 rw[← hj]at hPu e1
 have hw:IntKind.i64.wrap (af row.length-af 1)=af (row.length-1):=by
  rw[dJ (by omega),gD];show _=((row.length-1:Nat):Int);omega
 have g0:sh<9223372036854775808:=by omega
 have gw:IntKind.i64.wrap (af sh)=af sh:=by rw[lk,pf,if_pos g0]
 have g1:row.length-1<row.length:=by omega
 have g4:(wD (row++junk)).drop (row.length-1)=.c (iq x)::wD junk:=by rw[eW,hd,iH]
 have g5:row.length-1+1≤(wD (row++junk)).length:=by rw[bA,aTW];omega
 have g6:x*y<18446744073709551616:=by
  have:x*y≤2147483647*2147483647:=Nat.mul_le_mul (by omega) (by omega)
  omega
 refine⟨iT b.length,iT sh,t4',t5',wT f,.t (.one (.c (.v (.bool ab)))),W2,junk',?_,hPu⟩
 simp(maxSteps:=9^9) only[au,seval,-ac,-ae,asi,ar,hbr,hw,hsh,gw,g1,g4,g5,g6,hf,e1,e2]
def aMt {b:List Nat}{n:Nat}(hn:n<b.length)(hb:b.length<10000000){t1 t3 t4 t5 t6 t7 t8 t9 t10:T}{H:Hp}{W:List Nat}{cf:av}(fl:Nat):
  ∃t7',am cf fl uD ⟨[kT n,t1,rT b,t3,t4,t5,t6,t7,t8,t9,t10],H,[],W,[]⟩=Z (.exit 0,⟨[kT n,t1,rT b,t3,t4,t5,t6,t7',t8,t9,t10],H,[],W,[]⟩):=by
 have h1:¬(b.length≤n):=by omega
 simp(maxSteps:=9^9) only[au,seval,-ac,-ae,asi,ar,h1]
 exact⟨_,rfl⟩
def rsq (b:List Nat)(y:Nat):Nat→List Nat→Option (List Nat)
 |0,_=>U
 |g+1,row=>match aTQ b.length row.length with
  |false=>Z row
  |true=>match dW row with
   |none=>U
   |some x=>rsq b y g (cC (bN (Nat.mod (Nat.mul x y) 2147483647) row (row.length-b.length) b))
def aGz {b R:List Nat}{y:Nat}(hb:b.length<10000000)(hB:rQ b)(hb0:0<b.length)(hy:y<2147483647){t9 t10:T}{cf:av}{g:Nat}{row:List Nat}(hg:g<4294967296)(hr:row.length<10000000)(hP:iz row)(h:rsq b y g row=Z R){t1 t3 t4 t5 t6 t7:T}{W:List Nat}:
  ∃t1' t3' t4' t5' t6' t7' W' junk',aG (am cf ak uD) ak ⟨[kT row.length,t1,rT b,t3,t4,t5,t6,t7,wT y,t9,t10],[Z (.cells (wD row))],[],W,[]⟩=Z (.exit 0,⟨[kT R.length,t1',rT b,t3',t4',t5',t6',t7',wT y,t9,t10],[Z (.cells (wD (R++junk')))],[],W',[]⟩):=by
 obtain⟨x,st',hl,_,rfl,t1',t3',t4',t5',t6',t7',W',junk',rfl⟩:=bg (body:=am cf ak uD)
  (fun(s:Nat × List Nat) st=>s.2.length<10000000∧rsq b y s.1 s.2=Z R∧∃t1 t3 t4 t5 t6 t7 W junk,st=⟨[kT s.2.length,t1,rT b,t3,t4,t5,t6,t7,wT y,t9,t10],[Z (.cells (wD (s.2++junk)))],[],W,[]⟩∧iz (s.2++junk)) (fun s=>s.1)
  (fun x st'=>x=.exit 0∧∃t1 t3 t4 t5 t6 t7 W junk,st'=⟨[kT R.length,t1,rT b,t3,t4,t5,t6,t7,wT y,t9,t10],[Z (.cells (wD (R++junk)))],[],W,[]⟩)
  (fun s st hI=>by
   obtain⟨g,row⟩:=s
   obtain⟨hlen,hR,t1,t3,t4,t5,t6,t7,W,junk,rfl,hP⟩:=hI
   dsimp only at hlen hR hP
   match g,hR with
   |0,hR=>cases hR
   |g+1,hR=>
    rw[rsq]at hR
    cases hc:aTQ b.length row.length with
    |false=>
     rw[hc]at hR
     have hlt:row.length<b.length:=by
      rcases aT6 row.length b.length with h|h
      ·exact h
      ·rw[Nat.ble_eq_true_of_le h]at hc;cases hc
     cases hR
     obtain⟨t7',e⟩:=aMt (t1:=t1) (t3:=t3) (t4:=t4) (t5:=t5) (t6:=t6) (t7:=t7) (t8:=wT y) (t9:=t9) (t10:=t10) (H:=[Z (.cells (wD (R++junk)))]) (W:=W) (cf:=cf) hlt hb ak
     exact .inr ⟨_,_,e,by simp,rfl,_,_,_,_,_,_,_,_,rfl⟩
    |true=>
     rw[hc]at hR
     have hle:=Nat.le_of_ble_eq_true hc
     cases hx:dW row with
     |none=>rw[hx]at hR;cases hR
     |some x=>
      rw[hx]at hR
      obtain⟨h1,h2⟩:=iU hx
      obtain⟨t1',t3',t4',t5',t6',t7',W',junk',e,hP'⟩:=aA2 (t1:=t1) (t3:=t3) (t4:=t4) (t5:=t5) (t6:=t6) (t7:=t7) (t9:=t9) (t10:=t10) (W:=W) (cf:=cf) (f:=(x*y)%2147483647) hb hlen hB hP hb0 hle h1 hy rfl
      refine .inl ⟨(g,_),_,e,⟨?_,hR,_,_,_,_,_,_,_,_,rfl,hP'⟩,Nat.lt_succ_self g⟩
      have a1:=wZ (bN ((x*y)%2147483647) row (row.length-b.length) b)
      rw[lj]at a1
      exact aUh a1 hlen)
  ak (g,row) _ ⟨hr,h,t1,t3,t4,t5,t6,t7,W,[],by rw[List.append_nil],by rw[List.append_nil];exact hP⟩ (eI hg)
 exact⟨_,_,_,_,_,_,_,_,hl⟩
def wlD:List C→Option (List Nat)
 |[]=>Z []
 |.v (.int .u64 (.ofNat n))::cs=>(match ah n 2147483647 with
  |true=>(match wlD cs with|some l=>Z (n::l)|none=>U)
  |false=>U)
 |_=>U
def aw2:∀{cs:List C} {l:List Nat},wlD cs=Z l→cs=wL l∧rQ l
 |[],l,h=>by cases h;exact⟨rfl,fun o ho=>by cases ho⟩
 |c::cs,l,h=>by
  unfold wlD at h
  split at h
  ·cases h;exact⟨by assumption,fun o ho=>by cases ho⟩
  ·rename_i n cs' he
   cases he
   split at h
   ·rename_i hn
    rw[aTR]at hn
    split at h
    ·rename_i l' hl
     cases h
     obtain⟨rfl,h2⟩:=aw2 hl
     refine⟨rfl,fun o ho=>?_⟩
     rcases aTZ.1 ho with rfl|ho
     ·exact hn
     ·exact h2 o ho
    ·cases h
   ·cases h
  ·cases h
def aDK:∀{l:List Nat},rQ l→wlD (wL l)=Z l
 |[],_=>rfl
 |n::l,h=>by
  have h1:ah n 2147483647=ab:=by rw[aTR];exact h n aT0
  have h2:=aDK (l:=l) fun o ho=>h o (aT8 _ ho)
  show wlD (.v (.int .u64 (.ofNat n))::wL l)=_
  rw[wlD,h1,h2]
def rwV:V1→Option (List Nat)
 |.one (.sl n cs)=>(match wlD cs with
  |some l=>(match ai l.length n,ah n 10000000 with|true,ab=>Z l|_,_=>U)
  |none=>U)
 |_=>U
structure RF (l:List Nat):Prop where
 ok:rQ l
 len:l.length<10000000
def aem {v:V1}{l:List Nat}(h:rwV v=Z l):v=rV l∧RF l:=by
 unfold rwV at h
 split at h
 ·split at h
  ·rename_i l' hl
   split at h
   ·rename_i h1 h2
    cases h
    rw[aTR]at h2
    have:=aT1 h1
    subst this
    obtain⟨rfl,h3⟩:=aw2 hl
    exact⟨rfl,h3,h2⟩
   ·cases h
  ·cases h
 ·cases h
def ahW {l:List Nat}(h:RF l):rwV (rV l)=Z l:=by
 have h1:ai l.length l.length=ab:=Nat.beq_refl _
 have h2:ah l.length 10000000=ab:=by rw[aTR];exact h.len
 unfold rwV
 simp only[aDK h.ok,h1,h2]
def kQ (a b:List Nat):Option (List Nat):=match dW b,a with
 |some l,_::_=>rsq b (rE l 2147483645) (a.length+1) a
 |_,_=>U
def mm:List V1→Option (List V1)
 |[x,y]=>match rwV x,rwV y with
  |some a,Z b=>(match kQ a b with|some r=>Z [rV r]|none=>U)
  |_,_=>U
 |_=>U
def tRst  : Ft:=.n .z 245 (.nat bH) U .z
def aHg   {k:Cls}:tRst.Ok Tryz.prog k aH:=⟨tv,aei,tv,tv⟩
def awj {a b R:List Nat}(ha:RF a)(hb:RF b)(h:kQ a b=Z R):bM (ao tRst.tb 10 8) ak rF.1 [rV a,rV b]=Z [rV R]:=by
 have c1:CA (ao tRst.tb 10 8) 245 bH:=fun _ _ _=>rfl
 generalize ao tRst.tb 10 8=cf at*
 unfold kQ at h
 split at h
 rotate_left
 ·cases h
 rename_i l o a hl
 obtain⟨h1,h2⟩:=iU hl
 have hlm:=hb.ok l (aX h1)
 have e1:=fI (a:=l) (n:=2147483645) (by omega) (by omega)
 rw[vw]at h
 have hy:=jo l 2147483645
 generalize jS l 2147483645=y at*
 obtain⟨t1',t3',t4',t5',t6',t7',W',junk',e2⟩:=aGz (t9:=aR) (t10:=rT (o::a)) (cf:=cf) (t1:=.nil) (t3:=.nil) (t4:=.nil) (t5:=.nil) (t6:=.nil) (t7:=.nil) (W:=[]) hb.len hb.ok h2 hy (by have:=ha.len;omega) ha.len (fun o ho=>Nat.lt_trans (ha.ok o ho) (by omega)) h
 have hal:=ha.len
 have hbl:=hb.len
 have hw:IntKind.i64.wrap (af b.length-af 1)=af (b.length-1):=by
  rw[dJ (by omega),gD];show _=((b.length-1:Nat):Int);omega
 have g1:b.length-1<b.length:=by omega
 have g2:=abf h1
 have g3:=ahr (o::a)
 have g4:=aw0 (o::a)
 obtain⟨n,hn⟩:∃n,(o::a).length=n:=⟨_,rfl⟩
 have hn0:0<n:=by rw[← hn];simp
 rw[hn]at e2 g3 hal
 have g5:(n==0)=aa:=by cases n<;>first|omega|rfl
 have g6:n≤2 ^ 30:=by omega
 have g7:n*8≤2 ^ 46:=by omega
 have g8:R.length≤(wD (R++junk')).length:=by rw[bA,aTW];omega
 have g9:(wD (R++junk')).take R.length=wD R:=by
  rw[ahq,← bA R];exact List.take_left
 show bM cf ak rF.1 [.one (.sl (o::a).length (wL (o::a))),rV b]=_
 rw[hn]
 have hT:rT (o::a)=.t (.one (.c (.sl n (wL (o::a))))):=by rw[← hn]
 rw[hT]at e2
 generalize wL (o::a)=cs at*
 generalize wD (o::a)=ds at*
 clear hT hn ha h
 have eA:bJ 1 8 [] [] (.t (.one .z0)) (.t (.one (.c (.sl n cs))))=Z (kT n,[Z (.cells ds)]):=by
  have g0:¬n=0:=by omega
  have g3':cs.length=n*1:=by omega
  have hr:ch [] 1 (.t (.one (.c (.sl n cs))))=Z (n,ds):=by
   unfold ch
   simp only[ar,g3',g4,↓reduceIte]
  unfold bJ
  rw[hr]
  simp only[g0,g6,g7,and_self,↓reduceIte]
  rfl
 simp(maxSteps:=9^9) only[au,seval,-ac,-ae,aQM,c1,e1,hw,g1,g2,g8,g9,eA,e2,aaC,ar,Nat.mul_one]
def av9 {k:Cls}:Cn k 210 mm:=aC (ay aHg rF.2 10 ak 8) fun al rs h=>by
 unfold mm at h
 split at h
 ·split at h
  ·rename_i a b ha hb
   split at h
   ·rename_i r e
    cases h
    obtain⟨rfl,h1⟩:=aem ha
    obtain⟨rfl,h2⟩:=aem hb
    exact awj h1 h2 e
   ·cases h
  ·cases h
 ·cases h
def acF {f:Nat}:∀{l:List Nat} {k:Nat} {b:List Nat},rQ l→rQ (bN f l k b)
 |[],0,[],h=>h
 |[],0,_::_,h=>h
 |[],_+1,_,h=>h
 |o::r,0,[],h=>h
 |o::r,0,c::b,h=>by
  intro x hx
  rw[bN]at hx
  rcases aTZ.1 hx with rfl|hx
  ·exact aUb _ (by omega)
  ·exact acF (fun y hy=>h y (aT8 _ hy)) x hx
 |o::r,k+1,b,h=>by
  intro x hx
  rw[bN]at hx
  rcases aTZ.1 hx with rfl|hx
  ·exact h _ aT0
  ·exact acF (fun y hy=>h y (aT8 _ hy)) x hx
def awk {b:List Nat}{y:Nat}:∀{g:Nat} {row r:List Nat},RF row→rsq b y g row=Z r→RF r
 |0,_,_,_,h=>by cases h
 |g+1,row,r,hr,h=>by
  rw[rsq]at h
  split at h
  ·cases h;exact hr
  ·split at h
   ·cases h
   ·refine awk ⟨fun o ho=>acF hr.ok o (alt ho),?_⟩ h
    have a1:=wZ (bN ((Nat.mul ‹Nat› y).mod 2147483647) row (row.length-b.length) b)
    rw[lj]at a1
    exact aUh a1 hr.len
def acy {a b r:List Nat}(ha:RF a)(h:kQ a b=Z r):RF r:=by
 unfold kQ at h
 split at h
 ·exact awk ha h
 ·cases h
def aFE {a b r:List Nat}(ha:RF a)(hb:RF b)(h:kQ a b=Z r):mm [rV a,rV b]=Z [rV r]:=by
 simp only[mm,ahW ha,ahW hb,h]
def gr:Nat→List Nat→List Nat→Option (List Nat)
 |0,_,_=>U
 |_+1,a,[]=>Z a
 |g+1,a,o::b=>match kQ a (o::b)with
  |some r=>gr g (o::b) r
  |none=>U
section
variable {a b r:List Nat} {t2 t3 t4 t5 t6 t7 t8 t9 t10 t11:T} {H:Hp} {W:List Nat} {cf:av}
def aEz {o:Nat}(hb:(o::b).length<10000000)(e:mm [rV a,rV (o::b)]=Z [rV r])(c1:CA cf 210 mm)(fl:Nat):
  ∃t2' H' W',am cf fl nU ⟨[rT (o::b),rT a,t2,t3,t4,t5,t6,t7,t8,t9,t10,t11],H,[],W,[]⟩=Z (.normal,⟨[rT r,rT (o::b),t2',t3,t4,t5,t6,t7,t8,t9,t10,t11],H',[],W',[]⟩):=by
 have g0:0<(o::b).length:=by simp
 simp only[rV,rT]at e ⊢
 generalize (o::b).length=n at*
 generalize wL (o::b)=cs at*
 simp(maxSteps:=9^9) only[au,seval,-ac,-ae,asa,ar,g0,c1,e]
 exact⟨_,_,_,rfl⟩
def aJj (fl:Nat):
  ∃t2',am cf fl nU ⟨[rT [],rT a,t2,t3,t4,t5,t6,t7,t8,t9,t10,t11],H,[],W,[]⟩=Z (.exit 2,⟨[rT [],rT a,t2',t3,t4,t5,t6,t7,t8,t9,t10,t11],H,[],W,[]⟩):=by
 simp(maxSteps:=9^9) only[au,seval,-ac,-ae,asa,ar]
 exact⟨_,rfl⟩
def aEy {g:Nat}(hg:g<4294967296)(ha:RF a)(hb:RF b)(h:gr g a b=Z r)(c1:CA cf 210 mm):
  ∃t2' H' W',aG (am cf ak nU) ak ⟨[rT b,rT a,t2,t3,t4,t5,t6,t7,t8,t9,t10,t11],H,[],W,[]⟩=Z (.exit 2,⟨[rT [],rT r,t2',t3,t4,t5,t6,t7,t8,t9,t10,t11],H',[],W',[]⟩):=by
 obtain⟨x,st',hl,_,rfl,t2',H',W',rfl⟩:=bg (body:=am cf ak nU)
  (fun(s:Nat × List Nat × List Nat) st=>RF s.2.1∧RF s.2.2∧gr s.1 s.2.1 s.2.2=Z r∧∃t2 H W,st=⟨[rT s.2.2,rT s.2.1,t2,t3,t4,t5,t6,t7,t8,t9,t10,t11],H,[],W,[]⟩) (fun s=>s.1)
  (fun x st'=>x=.exit 2∧∃t2 H W,st'=⟨[rT [],rT r,t2,t3,t4,t5,t6,t7,t8,t9,t10,t11],H,[],W,[]⟩)
  (fun s st hI=>by
   obtain⟨g,a,b⟩:=s
   obtain⟨h1,h2,h3,t2,H,W,rfl⟩:=hI
   dsimp only at h1 h2 h3
   match g,b,h2,h3 with
   |0,_,_,h3=>cases h3
   |g+1,[],_,h3=>
    rw[gr]at h3
    cases h3
    obtain⟨t2',e⟩:=aJj (a:=r) (t2:=t2) (t3:=t3) (t4:=t4) (t5:=t5) (t6:=t6) (t7:=t7) (t8:=t8) (t9:=t9) (t10:=t10) (t11:=t11) (H:=H) (W:=W) (cf:=cf) ak
    exact .inr ⟨_,_,e,by simp,rfl,_,_,_,rfl⟩
   |g+1,o::b,h2,h3=>
    rw[gr]at h3
    cases hr:kQ a (o::b)with
    |none=>rw[hr]at h3;cases h3
    |some r'=>
     rw[hr]at h3
     obtain⟨t2',H',W',e⟩:=aEz (t2:=t2) (t3:=t3) (t4:=t4) (t5:=t5) (t6:=t6) (t7:=t7) (t8:=t8) (t9:=t9) (t10:=t10) (t11:=t11) (H:=H) (W:=W) h2.len (aFE h1 h2 hr) c1 ak
     exact .inl ⟨(g,_,_),_,e,⟨h2,acy h1 hr,h3,_,_,_,rfl⟩,Nat.lt_succ_self g⟩)
  ak (g,a,b) _ ⟨ha,hb,h,t2,H,W,rfl⟩ (eI hg)
 exact⟨_,_,_,hl⟩
end
def asH {out:List Nat}(h:rQ out)(k x:Nat):rQ (iP out k x):=by
 induction out generalizing k with
 |nil=>exact h
 |cons a l ih=>
  have ha:=h a aT0
  have hl:rQ l:=fun o ho=>h o (aT8 _ ho)
  cases k with
  |zero=>
   intro o ho
   rw[iP]at ho
   rcases aTZ.1 ho with rfl|ho
   ·exact aUb _ (by omega)
   ·exact hl o ho
  |succ k=>
   intro o ho
   rw[iP]at ho
   rcases aTZ.1 ho with rfl|ho
   ·exact ha
   ·exact ih hl k o ho
def at3 {v at':Nat}:∀{p:List Mn} {out r:List Nat},RF out→qz v at' p out=Z r→RF r
 |[],out,r,h,e=>by cases e;exact h
 |m::p,out,r,h,e=>by
  rw[qz]at e
  split at e
  ·cases e
  ·exact at3 ⟨asH h.ok _ _,by rw[rR];exact h.len⟩ e
def aEU {p:List Mn}{v at':Nat}{r:List Nat}(hn:dg v p<10000000)(h:l9 p v at'=Z r):RF r:=
 at3 ⟨fun o ho=>by rw[List.eq_of_mem_replicate ho];omega,by rw[List.length_replicate];exact hn⟩ h
def mG (p:List Mn)(v at':Nat):Option (List Nat × Bool):=match l9 p v at' with
 |none=>Z ([],aa)
 |some l=>match dW l with
  |none=>U
  |some 0=>Z (l,aa)
  |some (_+1)=>Z (l,ab)
def ads {p:List Mn}{v at':Nat}{l:List Nat}{k:Bool}(hp:PF p)(hv:v<4)(ha:at'<2147483000)(hn:dg v p<10000000)(h:mG p v at'=Z (l,k)):b8 [pV p,sV (af v),uV at']=Z [rV l,bV k]∧RF l:=by
 rw[ay3 hp hv ha hn]
 unfold mG at h
 cases hi:l9 p v at' with
 |none=>rw[hi]at h;cases h;exact⟨rfl,⟨fun o ho=>(by cases ho),by decide⟩⟩
 |some r=>
  rw[hi]at h
  have hr:=aEU hn hi
  dsimp only at h
  cases hx:dW r with
  |none=>rw[hx]at h;cases h
  |some x=>
   rw[hx]at h
   cases x with
   |zero=>cases h;exact⟨by simp only[sn,hx],hr⟩
   |succ x=>cases h;exact⟨by simp only[sn,hx],hr⟩
def xf (p q:List Mn)(v:Nat):Nat→Nat→Option Nat
 |0,_=>U
 |g+1,at'=>match ah at' 300 with
  |false=>Z (dg v p)
  |true=>match mG p v at',mG q v at' with
   |some (a,ab),Z (b,ab)=>(match gr (b.length+2) a b with|some r=>Z r.length|none=>U)
   |some (_,ab),Z (_,aa)=>xf p q v g (at'+100)
   |some (_,aa),Z _=>xf p q v g (at'+100)
   |_,_=>U
section
variable {p q:List Mn} {a b r:List Nat} {v at':Nat} {k1 k2:Bool} {t0 t1 t2 t5 t6 t7 t8 t9:T} {H:Hp} {W:List Nat} {cf:av}
def aDX (h3:at'<300)(e1:b8 [pV p,sV (af v),uV at']=Z [rV a,bV k1])(e2:b8 [pV q,sV (af v),uV at']=Z [rV b,bV k2])(hk:(k1&&k2)=aa)
  (c1:CA cf 209 b8)(fl:Nat):
  ∃t0' t1' t5' t6' t7' t8' H' W',am cf fl qI ⟨[t0,t1,t2,iT at',iT v,t5,t6,t7,t8,t9,pT p,pT q],H,[],W,[]⟩=Z (.normal,⟨[t0',t1',t2,iT (at'+100),iT v,t5',t6',t7',t8',t9,pT p,pT q],H',[],W',[]⟩):=by
 have g0:at'%18446744073709551616=at':=aT9 (by omega)
 have g1:at'+100<9223372036854775808:=by omega
 simp only[rV]at e1 e2
 generalize wL a=ca at*
 generalize wL b=cb at*
 cases k1 with
 |false=>
  simp(maxSteps:=9^9) only[au,seval,-ac,-ae,acM,ar,h3,g0,g1,c1,e1,e2]
  exact⟨_,_,_,_,_,_,_,_,rfl⟩
 |true=>
  cases k2 with
  |true=>cases hk
  |false=>
   simp(maxSteps:=9^9) only[au,seval,-ac,-ae,acM,ar,h3,g0,g1,c1,e1,e2]
   exact⟨_,_,_,_,_,_,_,_,rfl⟩
def aIu (h3:¬at'<300)(fl:Nat):
  ∃t7',am cf fl qI ⟨[t0,t1,t2,iT at',iT v,t5,t6,t7,t8,t9,pT p,pT q],H,[],W,[]⟩=Z (.exit 0,⟨[t0,t1,t2,iT at',iT v,t5,t6,t7',t8,t9,pT p,pT q],H,[],W,[]⟩):=by
 simp(maxSteps:=9^9) only[au,seval,-ac,-ae,acM,ar,h3]
 exact⟨_,rfl⟩
def aIv (h3:at'<300)(e1:b8 [pV p,sV (af v),uV at']=Z [rV a,bV ab])(e2:b8 [pV q,sV (af v),uV at']=Z [rV b,bV ab])(ha:RF a)(hb:RF b)(hr:r.length<10000000){g:Nat}(hg:g<4294967296)(hE:gr g a b=Z r)
  (c1:CA cf 209 b8)(c2:CA cf 210 mm):
  ∃t0' t1' t2' t5' t6' t7' t8' H' W',am cf ak qI ⟨[t0,t1,t2,iT at',iT v,t5,t6,t7,t8,t9,pT p,pT q],H,[],W,[]⟩=Z (.ret,⟨[t0',t1',t2',iT at',iT v,t5',t6',t7',t8',jT (m1 r.length),pT p,pT q],H',[],W',[]⟩):=by
 have g0:at'%18446744073709551616=at':=aT9 (by omega)
 have hw:=dJ (k:=r.length) (by omega)
 obtain⟨t2',H',W',hl⟩:=aEy (t2:=t2) (t3:=iT at') (t4:=iT v) (t5:=.t (.one (.c (.v (.bool ab))))) (t6:=.t (.one (.c (.v (.bool ab))))) (t7:=.t (.one (.c (.v (.bool ab))))) (t8:=.t (.one (.c (.v (.bool aa))))) (t9:=t9) (t10:=pT p) (t11:=pT q) (H:=H) (W:=W) hg ha hb hE c2
 simp only[rV,rT]at e1 e2 hl
 generalize wL a=ca at*
 generalize wL b=cb at*
 simp(maxSteps:=9^9) only[au,seval,-ac,-ae,acM,ar,h3,g0,c1,c2,e1,e2,hl,hw]
 exact⟨_,_,_,_,_,_,_,_,_,rfl⟩
end
def tBd  : Ft:=.n (.n .z 112 (.nat a9) U .z) 209 (.nat b8) U (.n .z 210 (.nat mm) U .z)
def aMS   {k:Cls}:tBd.Ok Tryz.prog k aH:=⟨⟨tv,lh,tv,tv⟩,aq9,tv,⟨tv,av9,tv,tv⟩⟩
def nL (p q:List Mn)(v:Nat):Option Nat:=match ah (dg v p) 10000000,ah (dg v q) 10000000 with
 |true,ab=>xf p q v 5 17
 |_,_=>U
def qT:=wF fun p q v=>match nL p q v with|some n=>Z [sV (m1 n)]|none=>U
def aas:∀{g:Nat} {a b r:List Nat},RF a→RF b→gr g a b=Z r→RF r
 |0,_,_,_,_,_,h=>by cases h
 |g+1,a,[],r,ha,_,h=>by rw[gr]at h;cases h;exact ha
 |g+1,a,o::b,r,ha,hb,h=>by
  rw[gr]at h
  split at h
  ·rename_i r' e
   exact aas hb (acy ha e) h
  ·cases h
def IBd (p q:List Mn)(v R:Nat)(s:Nat × Nat)(st:St):Prop:=
 xf p q v s.1 s.2=Z R∧s.2<1000000∧∃t0 t1 t2 t5 t6 t7 t8 H W,st=⟨[t0,t1,t2,iT s.2,iT v,t5,t6,t7,t8,iT 0,pT p,pT q],H,[],W,[]⟩
def QBd (p q:List Mn)(v R:Nat)(x:X)(st:St):Prop:=
 (x=.exit 0∧R=dg v p∧∃at' t0 t1 t2 t5 t6 t7 t8 H W,st=⟨[t0,t1,t2,iT at',iT v,t5,t6,t7,t8,iT 0,pT p,pT q],H,[],W,[]⟩)∨
 (x=.ret∧∃at' t0 t1 t2 t5 t6 t7 t8 H W,st=⟨[t0,t1,t2,iT at',iT v,t5,t6,t7,t8,jT (m1 R),pT p,pT q],H,[],W,[]⟩)
def axj {p q:List Mn}{v R:Nat}(hp:PF p)(hq:PF q)(hv:v<4)(hdp:dg v p<10000000)(hdq:dg v q<10000000){cf:av}
  (c1:CA cf 209 b8)(c2:CA cf 210 mm)(s:Nat × Nat)(st:St)(h:IBd p q v R s st):
  (∃s' st',am cf ak qI st=Z (.normal,st')∧IBd p q v R s' st'∧s'.1<s.1)∨(∃x st',am cf ak qI st=Z (x,st')∧x≠.normal∧QBd p q v R x st'):=by
 obtain⟨g,at'⟩:=s
 obtain⟨h1,h2,t0,t1,t2,t5,t6,t7,t8,H,W,rfl⟩:=h
 dsimp only at h1 h2
 match g,h1 with
 |0,h1=>cases h1
 |g+1,h1=>
  rw[xf]at h1
  cases hc:ah at' 300 with
  |false=>
   rw[hc]at h1
   have h3:¬at'<300:=fun h=>by rw[← aTR]at h;rw[h]at hc;cases hc
   obtain⟨t7',e⟩:=aIu (p:=p) (q:=q) (v:=v) (t0:=t0) (t1:=t1) (t2:=t2) (t5:=t5) (t6:=t6) (t7:=t7) (t8:=t8) (t9:=iT 0) (H:=H) (W:=W) (cf:=cf) h3 ak
   have h1:Z (dg v p)=Z R:=h1
   injection h1 with h1
   exact .inr ⟨_,_,e,by simp,.inl ⟨rfl,h1.symm,_,_,_,_,_,_,_,_,_,_,rfl⟩⟩
  |true=>
   rw[hc]at h1
   have h3:at'<300:=by rw[← aTR];exact hc
   dsimp only at h1
   cases hA:mG p v at' with
   |none=>rw[hA]at h1;cases mG q v at'<;>cases h1
   |some A=>
    obtain⟨a,k1⟩:=A
    obtain⟨e1,ra⟩:=ads hp hv (by omega) hdp hA
    cases hB:mG q v at' with
    |none=>rw[hA,hB]at h1;cases k1<;>cases h1
    |some B=>
     obtain⟨b,k2⟩:=B
     obtain⟨e2,rb⟩:=ads hq hv (by omega) hdq hB
     rw[hA,hB]at h1
     cases hk:(k1&&k2)with
     |false=>
      have h1':xf p q v g (at'+100)=Z R:=by
       cases k1<;>cases k2<;>first|exact h1|cases hk
      obtain⟨t0',t1',t5',t6',t7',t8',H',W',e⟩:=aDX (t0:=t0) (t1:=t1) (t2:=t2) (t5:=t5) (t6:=t6) (t7:=t7) (t8:=t8) (t9:=iT 0) (H:=H) (W:=W) h3 e1 e2 hk c1 ak
      exact .inl ⟨(g,at'+100),_,e,⟨h1',by show at'+100<1000000;omega,_,_,_,_,_,_,_,_,_,rfl⟩,Nat.lt_succ_self g⟩
     |true=>
      obtain⟨rfl,rfl⟩:k1=ab∧k2=ab:=by cases k1<;>cases k2<;>first|exact⟨rfl,rfl⟩|cases hk
      dsimp only at h1
      cases hE:gr (b.length+2) a b with
      |none=>rw[hE]at h1;cases h1
      |some r=>
       rw[hE]at h1
       have h1:Z r.length=Z R:=h1
       injection h1 with h1
       subst h1
       have hr:=aas ra rb hE
       obtain⟨t0',t1',t2',t5',t6',t7',t8',H',W',e⟩:=aIv (t0:=t0) (t1:=t1) (t2:=t2) (t5:=t5) (t6:=t6) (t7:=t7) (t8:=t8) (t9:=iT 0) (H:=H) (W:=W) h3 e1 e2 ra rb hr.len (by have:=rb.len;omega) hE c1 c2
       exact .inr ⟨_,_,e,by simp,.inr ⟨rfl,_,_,_,_,_,_,_,_,_,_,rfl⟩⟩
def arb {p q:List Mn}{v R:Nat}(hp:PF p)(hq:PF q)(hv:v<4)(h:nL p q v=Z R):bM (ao tBd.tb 10 8) ak zC.1 [pV p,pV q,sV (af v)]=Z [sV (m1 R)]:=by
 have c0:CA (ao tBd.tb 10 8) 112 a9:=fun _ _ _=>rfl
 have c1:CA (ao tBd.tb 10 8) 209 b8:=fun _ _ _=>rfl
 have c2:CA (ao tBd.tb 10 8) 210 mm:=fun _ _ _=>rfl
 generalize ao tBd.tb 10 8=cf at*
 unfold nL at h
 split at h
 rotate_left
 ·cases h
 rename_i hdp hdq
 rw[aTR]at hdp hdq
 have e0:=cv hp hv
 obtain⟨x,st',hl,_,hQ⟩:=bg (IBd p q v R) (fun s=>s.1) (QBd p q v R) (fun s st h=>axj hp hq hv hdp hdq c1 c2 s st h) ak (5,17) ⟨[.nil,.nil,.nil,iT 17,iT v,.nil,.nil,.nil,.nil,iT 0,pT p,pT q],[],[],[],[]⟩ ⟨h,by decide,_,_,_,_,_,_,_,_,_,rfl⟩ (aN (n:=5) (by decide))
 rcases hQ with⟨rfl,hR,at',t0,t1,t2,t5,t6,t7,t8,H,W,rfl⟩|⟨rfl,at',t0,t1,t2,t5,t6,t7,t8,H,W,rfl⟩
 ·rw[hR]
  simp(maxSteps:=9^9) only[au,seval,-ac,-ae,aHI,hl,c0,e0]
 ·simp(maxSteps:=9^9) only[au,seval,-ac,-ae,aHI,hl]
def aq3 {k:Cls}:Cn k 146 qT:=tU (ay aMS zC.2 10 ak 8) fun p q v rs hp hq hv h=>by
 split at h
 ·rename_i n e
  cases h;exact arb hp hq hv e
 ·cases h
def kl (p q:List Mn):Nat→Nat
 |0=>0
 |v+1=>match aTQ (dg v p) 1,aTQ (dg v q) 1 with
  |true,ab=>kl p q v
  |_,_=>v+1
def qM (k:Nat):decide (m1 k<af 1)=aTQ k 1:=by
 rw[aUp,decide_eq_true_eq,Nat.ble_eq,gD]
 show(k:Int)-1<1↔_
 omega
section
variable {p q:List Mn} {v a b:Nat} {t1 t4:T} {H:Hp} {W:List Nat} {cf:av}
def aNX (fl:Nat):∃t1',am cf fl uw ⟨[jT (m1 0),t1,pT p,pT q,t4],H,[],W,[]⟩=Z (.exit 0,⟨[jT (m1 0),t1',pT p,pT q,t4],H,[],W,[]⟩):=by
 rw[ajG]
 simp(maxSteps:=9^9) only[au,seval,-ac,-ae,acL]
 exact⟨_,rfl⟩
def aPv (hv:v<4)(e1:a9 [pV p,sV (af v)]=Z [sV (m1 a)])(e2:a9 [pV q,sV (af v)]=Z [sV (m1 b)])(h1:aTQ a 1=ab)(h2:aTQ b 1=ab)(c0:CA cf 112 a9)(fl:Nat):
  ∃t1' H' W',am cf fl uw ⟨[jT (m1 (v+1)),t1,pT p,pT q,t4],H,[],W,[]⟩=Z (.normal,⟨[jT (m1 v),t1',pT p,pT q,t4],H',[],W',[]⟩):=by
 have hw:=dJ (k:=v) (by omega)
 rw[show m1 (v+1)=af v from rfl]
 simp(maxSteps:=9^9) only[au,seval,-ac,-ae,acL,qM,c0,e1,e2,h1,h2,hw]
 exact⟨_,_,_,rfl⟩
def aHo (hv:v<4)(e1:a9 [pV p,sV (af v)]=Z [sV (m1 a)])(e2:a9 [pV q,sV (af v)]=Z [sV (m1 b)])(h:(aTQ a 1&&aTQ b 1)=aa)(c0:CA cf 112 a9)(fl:Nat):
  ∃t1' H' W',am cf fl uw ⟨[jT (m1 (v+1)),t1,pT p,pT q,t4],H,[],W,[]⟩=Z (.exit 0,⟨[jT (m1 (v+1)),t1',pT p,pT q,t4],H',[],W',[]⟩):=by
 rw[show m1 (v+1)=af v from rfl]
 cases h1:aTQ a 1 with
 |false=>
  simp(maxSteps:=9^9) only[au,seval,-ac,-ae,acL,qM,c0,e1,e2,h1]
  exact⟨_,_,_,rfl⟩
 |true=>
  cases h2:aTQ b 1 with
  |true=>rw[h1,h2]at h;cases h
  |false=>
   simp(maxSteps:=9^9) only[au,seval,-ac,-ae,acL,qM,c0,e1,e2,h1,h2]
   exact⟨_,_,_,rfl⟩
end
def tTp  : Ft:=.n .z 112 (.nat a9) U .z
def aNR   {k:Cls}:tTp.Ok Tryz.prog k aH:=⟨tv,lh,tv,tv⟩
def aA3 {p q:List Mn}(hp:PF p)(hq:PF q):bM (ao tTp.tb 10 8) ak afB.1 [pV p,pV q]=Z [sV (m1 (kl p q 4))]:=by
 have c0:CA (ao tTp.tb 10 8) 112 a9:=fun _ _ _=>rfl
 generalize ao tTp.tb 10 8=cf at*
 obtain⟨R,hR⟩:∃R,kl p q 4=R:=⟨_,rfl⟩
 rw[hR]
 obtain⟨x,st',hl,_,rfl,t1,H,W,rfl⟩:=bg (body:=am cf ak uw) (fun k st=>k≤4∧kl p q k=R∧∃t1 H W,st=⟨[jT (m1 k),t1,pT p,pT q,iT 0],H,[],W,[]⟩) (fun k=>k)
  (fun x st'=>x=.exit 0∧∃t1 H W,st'=⟨[jT (m1 R),t1,pT p,pT q,iT 0],H,[],W,[]⟩)
  (fun k st h=>by
   obtain⟨hk,hr,t1,H,W,rfl⟩:=h
   cases k with
   |zero=>
    obtain⟨t1',e⟩:=aNX (p:=p) (q:=q) (t1:=t1) (t4:=iT 0) (H:=H) (W:=W) (cf:=cf) ak
    rw[kl]at hr
    subst hr
    exact .inr ⟨_,_,e,by simp,rfl,_,_,_,rfl⟩
   |succ v=>
    have e1:=cv hp (v:=v) (by omega)
    have e2:=cv hq (v:=v) (by omega)
    rw[kl]at hr
    cases hb:(aTQ (dg v p) 1&&aTQ (dg v q) 1)with
    |false=>
     have hr':v+1=R:=by
      revert hb hr
      cases aTQ (dg v p) 1<;>cases aTQ (dg v q) 1<;>intro hr hb<;>first|exact hr|cases hb
     subst hr'
     obtain⟨t1',H',W',e⟩:=aHo (t1:=t1) (t4:=iT 0) (H:=H) (W:=W) (by omega) e1 e2 hb c0 ak
     exact .inr ⟨_,_,e,by simp,rfl,_,_,_,rfl⟩
    |true=>
     rw[aTT]at hb
     rw[hb.1,hb.2]at hr
     obtain⟨t1',H',W',e⟩:=aPv (t1:=t1) (t4:=iT 0) (H:=H) (W:=W) (by omega) e1 e2 hb.1 hb.2 c0 ak
     exact .inl ⟨v,_,e,⟨by omega,hr,_,_,_,rfl⟩,Nat.lt_succ_self v⟩)
  ak 4 ⟨[jT (m1 4),.nil,pT p,pT q,iT 0],[],[],[],[]⟩ ⟨aTS _,hR,_,_,_,rfl⟩ (aN (by decide))
 rw[show m1 4=af 3 from rfl]at hl
 simp(maxSteps:=9^9) only[au,seval,-ac,-ae,aQn,hl]
def afl:=kI fun p q=>Z [sV (m1 (kl p q 4))]
def aAG {k:Cls}:Cn k 142 afl:=dG (ay aNR afB.2 10 ak 8) fun p q rs hp hq h=>by
 cases h;exact aA3 hp hq
def aKR {p q:List Mn}(hp:PF p)(hq:PF q):afl [pV p,pV q]=Z [sV (m1 (kl p q 4))]:=i7 hp hq
end
end Go.Proofs.YtfiijelajgifiaaGreat
