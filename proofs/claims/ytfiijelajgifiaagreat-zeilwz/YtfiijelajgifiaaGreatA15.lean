/-
  Part 15 of the machine and of the contracts of functions of the program (packed).
-/
import Derived.Test.YtfiijelajgifiaaGreatA14
set_option linter.all false
set_option linter.defProp false
open Bool renaming false→aa,true→ab,and_eq_true→aTT
open Int renaming reduceOfNat→ac,reduceNegSucc→ae,ofNat→af,ofNat_eq_natCast→aT7
open List renaming length_append→aTW,getElem?_eq_getElem→aTX,mem_cons→aTZ,replicate→aT5,drop_length→aUg,take_of_length_le→aUi,getElem_mem→aUl,getElem?_set_ne→aUn,length_take→aUo
open Nat renaming blt→ah,log2→aj,ble→aTQ,blt_eq→aTR,le_refl→aTS,gcd→aTY,mul_add→aT4,lt_or_ge→aT6,mod_eq_of_lt→aT9,mod_lt→aUb,eq_zero_or_pos→aUc,zero_add→aUe,lt_of_le_of_lt→aUh,lt_of_lt_of_le→aUj,mul_assoc→aUk
open Option renaming some→Z,none→U
namespace Go.Proofs.YtfiijelajgifiaaGreat
noncomputable section
open Go Go.Mach Go.Flow
set_option maxRecDepth 100000
set_option maxHeartbeats 4000000
def auH {r x:Nat}(hr:r<4294967296)(hx:x<4294967296):r*4294967296+x<18446744073709551616:=by omega
def aAY {a:List Nat}{d:Nat}(ha:lims a)(hd:0<d)(hd':d<4294967296)(hn:a.length<2000000){j:Nat}{st:St}(h:Is a d j st)(fl:Nat)(cf:av):
  (∃j' st',am cf fl yN st=Z (.normal,st')∧Is a d j' st'∧j'<j)∨(∃x st',am cf fl yN st=Z (x,st')∧x≠.normal∧x=.exit 0∧Is a d 0 st'):=by
 obtain⟨o,t3,t6,t7,W,rfl,hj,ho,lo,hv⟩:=h
 rcases aUc j with rfl|hp
 ·right
  simp(maxSteps:=9^9) only[az,seval,-ac,-ae,jG,jH,asx,ar]
  exact⟨_,_,rfl,by simp,rfl,_,_,_,_,_,rfl,hj,ho,lo,hv⟩
 ·left
  obtain⟨i,rfl⟩:∃i,j=i+1:=⟨j-1,by omega⟩
  have hi:i<a.length:=by omega
  have da:=aA hi
  have la:=ha _ (aUl hi)
  have va:=nm hi
  have hr:=aUb (val (a.drop (i+1))) hd
  have hv':=Nat.div_add_mod (val (a.drop (i+1))) d
  rw[← hv]at hv'
  generalize hQ:val (a.drop (i+1))%d=r at hr hv'
  have e2:(0≤i)=True:=eq_true (by omega)
  have e3:i<9223372036854775808:=by omega
  have e4:i<o.length:=by omega
  have e5:i+1≤o.length:=by omega
  have e6:=jw e3
  have e7:r*4294967296<18446744073709551616:=by omega
  have e8:a[i]<18446744073709551616:=by omega
  have e9:=auH (show r<4294967296 by omega) la
  have e10:d<18446744073709551616:=by omega
  have e11:(d==0)=aa:=by simp only[beq_eq_false_iff_ne,ne_eq];omega
  have q1:(r*4294967296+a[i])/d<4294967296:=av2 hd hr la
  have q2:(r*4294967296+a[i])/d<18446744073709551616:=by omega
  have q3:(r*4294967296+a[i])%d<18446744073709551616:=by have:=aUb (r*4294967296+a[i]) hd;omega
  have eq1:val (a.drop i)=d*(4294967296*val (o.drop (i+1)))+(r*4294967296+a[i]):=by
   rw[va,← hv',aT4,Nat.mul_left_comm]
   omega
  have k1:val (a.drop i)/d=4294967296*val (o.drop (i+1))+(r*4294967296+a[i])/d:=by rw[eq1,Nat.mul_add_div hd]
  have k2:val (a.drop i)%d=(r*4294967296+a[i])%d:=by rw[eq1,Nat.mul_add_mod]
  simp(maxSteps:=9^9) only[az,seval,-ac,-ae,jG,jH,asx,ar,hi,da,e2,e3,e4,e5,e6,e7,e8,e9,e10,e11,q1,q2,q3,bY,aT9 q1]
  rw[← k2]
  refine⟨i,_,rfl,⟨o.set i ((r*4294967296+a[i])/d),_,_,_,_,rfl,by omega,by simpa using ho,lo.set q1,?_⟩,by omega⟩
  ·rw[nm (by simpa using e4),List.getElem_set_self,List.drop_set_of_lt (by omega),k1]
   omega
def arm {a:List Nat}{d:Nat}(ha:lims a)(hd:0<d)(hd':d<4294967296)(hn:a.length<1000000):
  bM (ao (Ft.tb .z) 10 8) 2000001 af0.1 [.one (aB a),dA d]=Z [.one (aB (aU a.length (val a/d))),dA (val a%d)]:=by
 have hcf:∀cf,∃st',aG (am cf 2000001 yN) 2000001 ⟨[wT 0,zT a.length,uT d,.nil,aT a,.t (.one (.lsl 0 0 a.length 1)),.t (.one (.c (.v (.slice U 0 0)))),uT 0],[Z (.cells (aJ (aT5 a.length 0)))],[],[],[]⟩=Z (.exit 0,st')∧Is a d 0 st':=by
  intro cf
  obtain⟨x,st',h1,_,rfl,h3⟩:=bg (Is a d) (fun j=>j) (fun x st'=>x=.exit 0∧Is a d 0 st') (fun j st h=>aAY ha hd hd' (by omega) h 2000001 cf) 2000001 a.length
   ⟨[wT 0,zT a.length,uT d,.nil,aT a,.t (.one (.lsl 0 0 a.length 1)),.t (.one (.c (.v (.slice U 0 0)))),uT 0],[Z (.cells (aJ (aT5 a.length 0)))],[],[],[]⟩
   ⟨aT5 a.length 0,.nil,.t (.one (.c (.v (.slice U 0 0)))),uT 0,[],by rw[aUg];simp[val],aTS _,by simp,gQ _,by rw[aUg,List.drop_of_length_le (by simp)];simp[val]⟩ (by omega)
  exact⟨st',h1,h3⟩
 obtain⟨st',hl,o,t3,t6,t7,W,rfl,_,ho,lo,hv⟩:=hcf (ao (Ft.tb .z) 10 8)
 rw[List.drop_zero,List.drop_zero]at hv
 rw[List.drop_zero]at hl
 have hr:=aUb (val a) hd
 have hd2:o=aU a.length (val a/d):=lz lo ho hv
 subst hd2
 generalize ao (Ft.tb .z) 10 8=cf at hl ⊢
 have e2:a.length<9223372036854775808:=by omega
 have e3:a.length≤1073741824:=by omega
 have e4:4*a.length≤70368744177664:=by omega
 have e5:=jw e2
 have e6:val a%d<4294967296:=by omega
 simp(maxSteps:=9^9) only[az,seval,-ac,-ae,aRk,hl,e2,e3,e4,e5,ar,aT9 e6]
def HQ (a b:List Nat)(b1 b2:Bool)(o:List Nat):Hp:=[Z (.cells [.c (.v (.bool b1)),.c (aB a)]),Z (.cells [.c (.v (.bool b2)),.c (aB b)]),Z (.cells [.c (.v (.bool aa)),.c (.v (.slice U 0 0))]),Z (.cells (aJ o))]
def QM1 (a b:List Nat)(b1 b2:Bool)(i x:Nat)(o0:List Nat)(t8:T)(k:Nat)(st:St):Prop:=
 ∃(o:List Nat) (c:Nat) (t5 t6:T) (W:List Nat),st=⟨[wT c,iT k,iT i,.t (.one (.ptr 1 0)),.t (.one (.lsl 3 0 (a.length+b.length+1) 1)),t5,t6,.t (.one (.ptr 0 0)),t8,.t (.one (.ptr 2 0)),iA b1 a,iA b2 b],HQ a b b1 b2 o,[],W,[]⟩∧
  o.length=a.length+b.length+1∧lims o∧c<4294967296∧val o+4294967296 ^ (i+k)*c=val o0+4294967296 ^ i*(x*val (b.take k))∧k≤b.length+1∧(b.length<k→c=0)∧(∀j,i+b.length≤j→i+k≤j→j<o.length→o[j]?=Z 0)
section
variable {a b:List Nat} {b1 b2:Bool} {i x:Nat} {o0:List Nat} {t8:T}
def aAU (hb:lims b)(hn:a.length<1000000)(hm:b.length<1000000)(hi:i<a.length)(hx:x<4294967296)(da:a.drop i=x::a.drop (i+1)){k:Nat}{st:St}(h:QM1 a b b1 b2 i x o0 t8 k st)(fl:Nat)(cf:av):
  (∃k' st',am cf fl uE st=Z (.normal,st')∧QM1 a b b1 b2 i x o0 t8 k' st'∧b.length+2-k'<b.length+2-k)∨(∃q st',am cf fl uE st=Z (q,st')∧q≠.normal∧q=.exit 2∧∃k',QM1 a b b1 b2 i x o0 t8 k' st'∧b.length≤k'∧st'.τ.head?=Z (wT 0)):=by
 obtain⟨o,c,t5,t6,W,rfl,ho,lo,hc,hv,hk1,hk2,hz⟩:=h
 have e1:k+1<9223372036854775808:=by omega
 have e2:i+k<9223372036854775808:=by omega
 have c1:c<18446744073709551616:=by omega
 by_cases hgo:k<b.length∨0<c
 ·left
  have hkb:k≤b.length:=by
   rcases hgo with h|h
   ·omega
   ·rcases aT6 b.length k with h2|h2
    ·have:=hk2 h2;omega
    ·exact h2
  have e3:i+k<a.length+b.length+1:=by omega
  have e4:i+k<o.length:=by omega
  have e5:i+k+1≤o.length:=by omega
  have dq:=aA e4
  have lo':=lo _ (aUl e4)
  have x1:x<18446744073709551616:=by omega
  have x3:o[i+k]<18446744073709551616:=by omega
  have x4:c+o[i+k]<18446744073709551616:=by omega
  by_cases hkl:k<b.length
  ·have db:=aA hkl
   have lb:=hb _ (aUl hkl)
   obtain⟨m1,m2,m3⟩:=aj0 hx lb lo' hc
   have x2:b[k]<18446744073709551616:=by omega
   have q:=qS (x:=x) (y:=b[k]) e4 hv
   have hs:c+(x*b[k]+o[i+k])=c+o[i+k]+x*b[k]:=by omega
   rw[hs]at q m3
   have key:∀t5 t6 W,QM1 a b b1 b2 i x o0 t8 (k+1) ⟨[wT ((c+o[i+k]+x*b[k])/4294967296),iT (k+1),iT i,.t (.one (.ptr 1 0)),.t (.one (.lsl 3 0 (a.length+b.length+1) 1)),t5,t6,.t (.one (.ptr 0 0)),t8,.t (.one (.ptr 2 0)),iA b1 a,iA b2 b],HQ a b b1 b2 (o.set (i+k) ((c+o[i+k]+x*b[k])%4294967296)),[],W,[]⟩:=by
    intro t5 t6 W
    refine⟨_,_,_,_,_,rfl,by simpa using ho,lo.set (by omega),by omega,?_,by omega,by omega,fun j h1 h2 h3=>?_⟩
    ·show _+4294967296 ^ (i+k+1)*_=_
     rw[q,bG (aTX hkl),aT4,aT4,Nat.pow_add]
     rw[Nat.mul_left_comm x,aUk]
     omega
    ·rw[aUn (by omega)]
     exact hz j h1 (by omega) (by simpa using h3)
   generalize hV:c+o[i+k]+x*b[k]=v at key m3
   have m4:v/4294967296<18446744073709551616:=by omega
   simp(maxSteps:=9^9) only[az,seval,-ac,-ae,HQ,aih,hi,hkl,e1,e2,e3,e4,e5,da,db,dq,m1,m3,m4,hV,x1,x2,x3,x4,c1,ar,bY]
   exact⟨k+1,_,rfl,key _ _ _,by omega⟩
  ·have hkE:k=b.length:=by omega
   have hc0:0<c:=by omega
   have oz:o[i+k]=0:=by
    have:=hz (i+k) (by omega) (by omega) e4
    rw[aTX e4]at this
    simpa using this
   have q:=qS (x:=x) (y:=0) e4 hv
   rw[oz]at q
   simp only[Nat.mul_zero,Nat.add_zero]at q
   have d0:c/4294967296=0:=Nat.div_eq_of_lt hc
   have key:∀t5 t6 W,QM1 a b b1 b2 i x o0 t8 (k+1) ⟨[wT 0,iT (k+1),iT i,.t (.one (.ptr 1 0)),.t (.one (.lsl 3 0 (a.length+b.length+1) 1)),t5,t6,.t (.one (.ptr 0 0)),t8,.t (.one (.ptr 2 0)),iA b1 a,iA b2 b],HQ a b b1 b2 (o.set (i+k) (c%4294967296)),[],W,[]⟩:=by
    intro t5 t6 W
    refine⟨_,_,_,_,_,rfl,by simpa using ho,lo.set (by omega),by omega,?_,by omega,by omega,fun j h1 h2 h3=>?_⟩
    ·show _+4294967296 ^ (i+k+1)*_=_
     rw[d0]at q
     rw[q,aUi (by omega),aUi (by omega)]
    ·rw[aUn (by omega)]
     exact hz j h1 (by omega) (by simpa using h3)
   rw[oz]at dq
   simp(maxSteps:=9^9) only[az,seval,-ac,-ae,HQ,aih,hi,hkl,hc0,e1,e2,e3,e4,e5,dq,d0,c1,ar,bY]
   exact⟨k+1,_,rfl,key _ _ _,by omega⟩
 ·right
  have h1:(k<b.length)=False:=eq_false (by omega)
  have h3:c=0:=by omega
  subst h3
  simp(maxSteps:=9^9) only[az,seval,-ac,-ae,HQ,aih,ar,h1]
  exact⟨_,_,rfl,by simp,rfl,k,⟨_,_,_,_,_,rfl,ho,lo,hc,hv,hk1,hk2,hz⟩,by omega,rfl⟩
end
def QM0 (a b:List Nat)(b1 b2:Bool)(i:Nat)(st:St):Prop:=
 ∃(o:List Nat) (t0 t1 t5 t6 t8:T) (W:List Nat),st=⟨[t0,t1,iT i,.t (.one (.ptr 1 0)),.t (.one (.lsl 3 0 (a.length+b.length+1) 1)),t5,t6,.t (.one (.ptr 0 0)),t8,.t (.one (.ptr 2 0)),iA b1 a,iA b2 b],HQ a b b1 b2 o,[],W,[]⟩∧
  o.length=a.length+b.length+1∧lims o∧val o=val (a.take i)*val b∧∀j,i+b.length≤j→j<o.length→o[j]?=Z 0
section
variable {a b:List Nat} {b1 b2:Bool}
def aGR (ha:lims a)(hb:lims b)(hn:a.length<1000000)(hm:b.length<1000000){i:Nat}{st:St}(hi:i<a.length)(h:QM0 a b b1 b2 i st)(cf:av):
  ∃st',am cf 2000001 adC st=Z (.normal,st')∧QM0 a b b1 b2 (i+1) st':=by
 obtain⟨o0,t0,t1,t5,t6,t8,W,rfl,ho,lo,hv,hz⟩:=h
 have e1:i+1<9223372036854775808:=by omega
 have da:=aA hi
 have la:=ha _ (aUl hi)
 obtain⟨q,st',hl,_,rfl,k,⟨o,c,s5,s6,W',rfl,ho',lo',hc,hv',hk1,hk2,hz'⟩,hkb,hh⟩:=bg (QM1 a b b1 b2 i a[i] o0 (bT ab)) (fun k=>b.length+2-k) (fun q st'=>q=.exit 2∧∃k',QM1 a b b1 b2 i a[i] o0 (bT ab) k' st'∧b.length≤k'∧st'.τ.head?=Z (wT 0))
  (fun k st h=>aAU hb hn hm hi la da h 2000001 cf) 2000001 0 ⟨[wT 0,iT 0,iT i,.t (.one (.ptr 1 0)),.t (.one (.lsl 3 0 (a.length+b.length+1) 1)),t5,t6,.t (.one (.ptr 0 0)),bT ab,.t (.one (.ptr 2 0)),iA b1 a,iA b2 b],HQ a b b1 b2 o0,[],W,[]⟩
  ⟨o0,0,_,_,_,rfl,ho,lo,by omega,by simp[val],by omega,by omega,fun j h1 _ h3=>hz j h1 h3⟩ (by omega)
 have hc0:c=0:=by
  have:=Option.some.inj hh
  injection this with h;injection h with h;injection h with h;injection h with h;injection h with h5 h;injection h
 subst hc0
 rw[Nat.mul_zero,Nat.add_zero,aUi hkb]at hv'
 have key:∀t0 t1 t5 t6 t8 W,QM0 a b b1 b2 (i+1) ⟨[t0,t1,iT (i+1),.t (.one (.ptr 1 0)),.t (.one (.lsl 3 0 (a.length+b.length+1) 1)),t5,t6,.t (.one (.ptr 0 0)),t8,.t (.one (.ptr 2 0)),iA b1 a,iA b2 b],HQ a b b1 b2 o,[],W,[]⟩:=by
  intro t0 t1 t5 t6 t8 W
  refine⟨_,_,_,_,_,_,_,rfl,ho',lo',?_,fun j h1 h2=>hz' j (by omega) (by omega) h2⟩
  rw[hv',bG (aTX hi),Nat.add_mul,hv,aUk]
 unfold HQ at hl
 simp(maxSteps:=9^9) only[az,seval,-ac,-ae,HQ,asl,hi,e1,hl,ar]
 exact⟨_,rfl,key _ _ _ _ _ _⟩
end
def aEF {a b:List Nat}{b1 b2:Bool}{st:St}(h:QM0 a b b1 b2 a.length st)(fl:Nat)(cf:av):
  ∃st',am cf fl adC st=Z (.exit 0,st')∧QM0 a b b1 b2 a.length st':=by
 obtain⟨o0,t0,t1,t5,t6,t8,W,rfl,h⟩:=h
 simp(maxSteps:=9^9) only[az,seval,-ac,-ae,HQ,asl,ar]
 exact⟨_,rfl,_,_,_,_,_,_,_,rfl,h⟩
def tQ:Ft:=.n .z 207 (.nat cG) U .z
def aPu {k:Cls}:tQ.Ok Tryz.prog k aH:=⟨tv,lF,tv,tv⟩
def aAQ {a b:List Nat}(ha:lims a)(hb:lims b)(b1 b2:Bool)(hn:a.length<400000)(hm:b.length<400000):
  bM (ao tQ.tb 10 8) 2000001 zJ.1 [.agg [.v (.bool b1),aB a],.agg [.v (.bool b2),aB b]]=Z [cI ((b1 != b2)&&ah 0 (val a*val b)) (val a*val b)]:=by
 obtain⟨st',hl,o,t0,t1,t5,t6,t8,W,rfl,ho,lo,hv,_⟩:=bq a.length (QM0 a b b1 b2) (QM0 a b b1 b2 a.length)
  (fun i st hi h=>aGR ha hb (by omega) (by omega) hi h (ao tQ.tb 10 8)) (fun st h=>aEF h 2000001 (ao tQ.tb 10 8)) 2000001 ⟨[.nil,.nil,iT 0,.t (.one (.ptr 1 0)),.t (.one (.lsl 3 0 (a.length+b.length+1) 1)),.nil,.nil,.t (.one (.ptr 0 0)),.nil,.t (.one (.ptr 2 0)),iA b1 a,iA b2 b],HQ a b b1 b2 (aT5 (a.length+b.length+1) 0),[],[],[]⟩
  ⟨_,_,_,_,_,_,_,rfl,by simp,gQ _,by simp[acH,val],fun j _ hj=>by rw[List.getElem?_replicate,if_pos (by simpa using hj)]⟩ (by omega)
 rw[List.take_length]at hv
 have c1:CA (ao tQ.tb 10 8) 207 cG:=fun _ _ _=>rfl
 have hN:∀q,_:=fun q=>m6 lo q (by omega)
 rw[hv]at hN
 have e1:a.length+b.length<9223372036854775808:=by omega
 have e2:a.length+b.length+1<9223372036854775808:=by omega
 have e3:a.length+b.length+1≤1073741824:=by omega
 have e4:4*(a.length+b.length+1)≤70368744177664:=by omega
 have e5:a.length+b.length+1≤o.length:=by omega
 have e6:o.take (a.length+b.length+1)=o:=aUi (by omega)
 unfold HQ at hl
 generalize ao tQ.tb 10 8=cf at hl c1 ⊢
 unfold aB at hN
 rw[ho]at hN
 cases b1<;>cases b2<;>simp(maxSteps:=9^9) only[az,seval,-ac,-ae,aQU,hl,c1,hN,e1,e2,e3,e4,e5,e6,ar,aB,cI]
def aFu (a b:Int):cI ((aw a != aw b)&&ah 0 (ap a*ap b)) (ap a*ap b)=gI (a*b):=by
 rw[pR (z:=a*b) (by simp only[dZ,Int.natAbs_mul]) ?_]
 intro hp
 match a,b with
 |.ofNat m,.ofNat n=>rfl
 |.ofNat (m+1),.negSucc n=>rfl
 |.ofNat 0,.negSucc n=>simp[ap]at hp
 |.negSucc m,.ofNat (n+1)=>rfl
 |.negSucc m,.ofNat 0=>simp[ap]at hp
 |.negSucc m,.negSucc n=>rfl
def akX {k:Cls}:Cn k 221 gJ:=bZ (ay aPu zJ.2 10 2000001 8) fun al rs h=>by
 obtain⟨a,b,rfl,ha,hb,rfl⟩:=l7 h
 have la:=fe ha
 have lb:=fe hb
 refine⟨_,_,apv a b,aAQ (aI _) (aI _) _ _ (by omega) (by omega),?_⟩
 rw[aD,aD,aFu]
 exact Imps.refl _
end
end Go.Proofs.YtfiijelajgifiaaGreat
namespace Go.Mach
noncomputable section
open Go Go.RowKit Go.Flow
def abX {l:List Nat}(h:lims l){i:Nat}(hi:i≤l.length):val (l.drop i)=val l/4294967296 ^ i:=by
 have e:val l=val (l.take i)+4294967296 ^ i*val (l.drop i):=by
  have:=fh (l.take i) (l.drop i)
  rw[List.take_append_drop,aUo,Nat.min_eq_left hi]at this
  exact this
 have h2:=bL (h.take i)
 rw[aUo,Nat.min_eq_left hi]at h2
 rw[e,Nat.add_mul_div_left _ _ (Nat.pow_pos (by omega)),Nat.div_eq_of_lt h2,aUe]
def abZ (a b:List Nat):Nat:=
 if a.length=b.length then max 1 (val (a.drop (a.length-1))/(val (b.drop (b.length-1))+1))
 else val (a.drop (a.length-2))/(val (b.drop (b.length-1))+1)*4294967296 ^ (a.length-b.length-1)
def atp {a b:List Nat}(ha:lims a)(hb:lims b)(ca:gn a)(h1:1≤b.length)(h2:b.length≤a.length)(h3:val b≤val a):1≤abZ a b∧abZ a b*val b≤val a:=by
 have tb:=abX hb (i:=b.length-1) (by omega)
 have hbt:val b<(val (b.drop (b.length-1))+1)*4294967296 ^ (b.length-1):=by
  rw[tb,Nat.mul_comm]
  exact Nat.lt_mul_div_succ _ (Nat.pow_pos (by omega))
 have hu:val (b.drop (b.length-1))+1≤4294967296:=by
  have:=bL (hb.drop (b.length-1))
  rw[List.length_drop,show b.length-(b.length-1)=1 by omega]at this
  omega
 unfold abZ
 generalize val (b.drop (b.length-1))=u at*
 split
 ·rename_i he
  have ta:=abX ha (i:=a.length-1) (by omega)
  generalize val (a.drop (a.length-1))=t at*
  refine⟨Nat.le_max_left _ _,?_⟩
  rcases Nat.le_total (t/(u+1)) 1 with h|h
  ·rw[Nat.max_eq_left h,Nat.one_mul];exact h3
  ·rw[Nat.max_eq_right h]
   have s1:t/(u+1)*val b≤t/(u+1)*((u+1)*4294967296 ^ (b.length-1)):=Nat.mul_le_mul_left _ (Nat.le_of_lt hbt)
   have s2:t/(u+1)*(u+1)≤t:=Nat.div_mul_le_self _ _
   have s3:=Nat.mul_le_mul_right (4294967296 ^ (b.length-1)) s2
   have s4:t*4294967296 ^ (a.length-1)≤val a:=by rw[ta];exact Nat.div_mul_le_self _ _
   rw[he]at s4
   rw[← aUk]at s1
   omega
 ·rename_i he
  have ta:=abX ha (i:=a.length-2) (by omega)
  have hge:4294967296≤val (a.drop (a.length-2)):=by
   rcases jW ca with rfl|h
   ·exfalso;have:([]:List Nat).length=0:=rfl;omega
   ·rw[ta]
    refine(Nat.le_div_iff_mul_le (Nat.pow_pos (by omega))).2 ?_
    rw[← Nat.pow_succ']
    rw[show(a.length-2).succ=a.length-1 by omega]
    exact h
  generalize val (a.drop (a.length-2))=t at*
  have p1:1≤t/(u+1):=(Nat.le_div_iff_mul_le (by omega)).2 (by omega)
  refine⟨Nat.mul_pos p1 (Nat.pow_pos (by omega)),?_⟩
  have s1:t/(u+1)*4294967296 ^ (a.length-b.length-1)*val b≤t/(u+1)*4294967296 ^ (a.length-b.length-1)*((u+1)*4294967296 ^ (b.length-1)):=Nat.mul_le_mul_left _ (Nat.le_of_lt hbt)
  have s2:t/(u+1)*(u+1)≤t:=Nat.div_mul_le_self _ _
  have e:4294967296 ^ (a.length-b.length-1)*4294967296 ^ (b.length-1)=4294967296 ^ (a.length-2):=by rw[← Nat.pow_add];congr 1;omega
  have s3:=Nat.mul_le_mul_right (4294967296 ^ (a.length-2)) s2
  have s4:t*4294967296 ^ (a.length-2)≤val a:=by rw[ta];exact Nat.div_mul_le_self _ _
  have s5:t/(u+1)*4294967296 ^ (a.length-b.length-1)*((u+1)*4294967296 ^ (b.length-1))=t/(u+1)*(u+1)*4294967296 ^ (a.length-2):=by
   rw[← e];ac_rfl
  omega
def aDU {k:Nat}(hk:k<1000000)(x:Option Blk)(o:List Nat)(ho:o.length=k)(p q:Nat):
  bJ 1 4 [x,Z (.cells (aJ o))] [] (.t (.one (.lsl 1 0 k 1))) (.t (.one (.c (.sl 2 [.v (.int .u32 (af p)),.v (.int .u32 (af q))]))))=
   Z (.t (.one (.lsl 2 0 (k+2) 1)),[x,U,Z (.cells (aJ (o++[p,q])))]):=by
 have h0:ch [x,Z (.cells (aJ o))] 1 (.t (.one (.c (.sl 2 [.v (.int .u32 (af p)),.v (.int .u32 (af q))]))))=Z (2,aJ [p,q]):=rfl
 unfold bJ
 rw[h0]
 dsimp only
 rw[if_neg (by omega),if_pos (by omega)]
 subst ho
 have e3:(aJ o).take o.length=aJ o:=by rw[il,List.take_length]
 show(match Z (Z (Blk.cells (aJ o)))with|some (Z (.cells ds))=>_|_=>U)=_
 dsimp only
 rw[if_pos (by refine⟨?_,?_,?_,?_,?_⟩<;>first|trivial|omega|(rw[h9];omega)|simp)]
 simp only[Nat.mul_one,e3,mE]
 rfl
end
end Go.Mach
namespace Go.Proofs.YtfiijelajgifiaaGreat
noncomputable section
open Go Go.Mach Go.Flow
set_option maxRecDepth 100000
set_option maxHeartbeats 4000000
def tEs:Ft:=.n (.n .z 140 (.nat fM) U .z) 207 (.nat cG) U .z
def aM2 {k:Cls}:tEs.Ok Tryz.prog k aH:=⟨⟨tv,aa1,tv,tv⟩,lF,tv,tv⟩
def aO7 {z:Int}(h:ap z<4294967296):fM [.one (.v (.int .i64 z))]=Z [gI z]:=by
 have hc:ah (ap z) 4294967296=ab:=by simpa using h
 simp only[fM,hc]
def aHr (e:Nat)(h:e<18446744073709551616):val [e%4294967296,e/4294967296%4294967296]=e:=by
 show e%4294967296+4294967296*(e/4294967296%4294967296+4294967296*0)=e
 omega
def ayv (e:Nat):lims [e%4294967296,e/4294967296%4294967296]:=fun d hd=>by
 rcases aTZ.1 hd with rfl|hd
 ·omega
 ·rcases aTZ.1 hd with rfl|hd
  ·omega
  ·cases hd
def ayN {k e:Nat}(hk:k<500000)(he:e<18446744073709551616):
  cG [.one (.sl (k+2) (uc (aT5 k 0++[e%4294967296,e/4294967296%4294967296]))),.one (.v (.bool aa))]=Z [gI (af (e*4294967296 ^ k))]∧
   (aJ (aT5 k 0++[e%4294967296,e/4294967296%4294967296])).length=k+2∧(aT5 k 0++[e%4294967296,e/4294967296%4294967296]).take (k+2)=aT5 k 0++[e%4294967296,e/4294967296%4294967296]:=by
 have lo:=(gQ k).append (ayv e)
 have hv:val (aT5 k 0++[e%4294967296,e/4294967296%4294967296])=4294967296 ^ k*e:=by
  rw[fh,acH,List.length_replicate,aHr e he,aUe]
 have hl:(aT5 k 0++[e%4294967296,e/4294967296%4294967296]).length=k+2:=by rw[aTW,List.length_replicate];rfl
 rw[Nat.mul_comm,← hv]
 generalize aT5 k 0++[e%4294967296,e/4294967296%4294967296]=o at*
 have e4:=m6 lo aa (by omega)
 unfold aB at e4
 rw[hl]at e4
 exact⟨e4,by rw[h9,hl],aUi (by omega)⟩
def atq {a b:List Nat}{n1 m1 k x y e mx:Nat}(e1:n1<a.length)(e2:m1<b.length)(da:a.drop n1=x::a.drop (n1+1))(db:b.drop m1=y::b.drop (m1+1))
  (s1:af a.length-af b.length=af k)(s2:af a.length-af 1=af n1)(s3:af b.length-af 1=af m1)
  (w1:IntKind.i64.wrap (af k)=af k)(w2:IntKind.i64.wrap (af n1)=af n1)(w3:IntKind.i64.wrap (af m1)=af m1)
  (q1:y<18446744073709551616)(q2:y+1<18446744073709551616)(q3:x<18446744073709551616)(q4:(y+1==0)=aa)(q5:e<18446744073709551616)(q6:mx<9223372036854775808)
  (z1:(k==0)=ab)(hE:x/(y+1)=e)(hm:(if 1<e then af e else af 1)=af mx)(e4:fM [.one (.v (.int .i64 (af mx)))]=Z [gI (af mx)]):
  bM (ao tEs.tb 10 8) 10 af1.1 [.one (aB a),.one (aB b)]=Z [gI (af mx)]:=by
 unfold gI at e4 ⊢
 simp(maxSteps:=9^9) only[az,seval,-ac,-ae,aIc,tEs,ar,e1,e2,da,db,s1,s2,s3,w1,w2,w3,q1,q2,q3,q4,q5,q6,z1,hE,hm,e4]
def atr {a b:List Nat}{n1 n2 m1 k1 k x x' y e v:Nat}{o:List Nat}(e1:n1<a.length)(e2:m1<b.length)(f1:n2<a.length)(da:a.drop n1=x::a.drop (n1+1))(db:b.drop m1=y::b.drop (m1+1))(dc:a.drop n2=x'::a.drop (n2+1))
  (s1:af a.length-af b.length=af k1)(s2:af a.length-af 1=af n1)(s3:af b.length-af 1=af m1)(s4:af a.length-af 2=af n2)(s5:af k1-af 1=af k)
  (w1:IntKind.i64.wrap (af k1)=af k1)(w2:IntKind.i64.wrap (af n1)=af n1)(w3:IntKind.i64.wrap (af m1)=af m1)(w4:IntKind.i64.wrap (af n2)=af n2)(w5:IntKind.i64.wrap (af k)=af k)
  (q1:y<18446744073709551616)(q2:y+1<18446744073709551616)(q3:x<18446744073709551616)(q4:(y+1==0)=aa)(q5:x*4294967296<18446744073709551616)(q6:x*4294967296+x'<18446744073709551616)(q7:x'<18446744073709551616)(q8:e<18446744073709551616)(q9:e/4294967296<18446744073709551616)
  (q10:k<9223372036854775808)(q11:k≤1073741824)(q12:4*k≤70368744177664)
  (z1:(k1==0)=aa)(hE:(x*4294967296+x')/(y+1)=e)
  (ea:bJ 1 4 [Z (.cells [.c (.v (.bool aa)),.c (.v (.slice U 0 0))]),Z (.cells (aJ (aT5 k 0)))] [] (.t (.one (.lsl 1 0 k 1))) (.t (.one (.c (.sl 2 [.v (.int .u32 (af (e%4294967296))),.v (.int .u32 (af (e/4294967296%4294967296)))]))))=
   Z (.t (.one (.lsl 2 0 (k+2) 1)),[Z (.cells [.c (.v (.bool aa)),.c (.v (.slice U 0 0))]),U,Z (.cells (aJ o))]))
  (e5:(aJ o).length=k+2)(e7:o.take (k+2)=o)(e4:cG [.one (.sl (k+2) (uc o)),.one (.v (.bool aa))]=Z [gI (af v)]):
  bM (ao tEs.tb 10 8) 10 af1.1 [.one (aB a),.one (aB b)]=Z [gI (af v)]:=by
 unfold gI at e4 ⊢
 simp(maxSteps:=9^9) only[xD,seval,-ac,-ae,aIc,tEs,ar,e1,e2,f1,da,db,dc,s1,s2,s3,s4,s5,w1,w2,w3,w4,w5,q1,q2,q3,q4,q5,q6,q7,q8,q9,q10,q11,q12,z1,hE,e4,ea,e5,e7,il,sk,Nat.mul_one,aUe,List.drop_zero]
def aEx {a b:List Nat}(ha:lims a)(hb:lims b)(h1:1≤b.length)(h2:b.length≤a.length)(hn:a.length<500000):
  bM (ao tEs.tb 10 8) 10 af1.1 [.one (aB a),.one (aB b)]=Z [gI (af (abZ a b))]:=by
 have e1:a.length-1<a.length:=by omega
 have e2:b.length-1<b.length:=by omega
 have da:=aA e1
 have db:=aA e2
 have va:val (a.drop (a.length-1))=a[a.length-1]:=by rw[da,val,List.drop_of_length_le (by omega)];simp[val]
 have vb:val (b.drop (b.length-1))=b[b.length-1]:=by rw[db,val,List.drop_of_length_le (by omega)];simp[val]
 have la:=ha _ (aUl e1)
 have lb:=hb _ (aUl e2)
 have s1:af a.length-af b.length=af (a.length-b.length):=by simp only[aT7];omega
 have s2:af a.length-af 1=af (a.length-1):=by simp only[aT7];omega
 have s3:af b.length-af 1=af (b.length-1):=by simp only[aT7];omega
 have w1:=lP (n:=a.length-b.length) (by omega)
 have w2:=lP (n:=a.length-1) (by omega)
 have w3:=lP (n:=b.length-1) (by omega)
 have q1:b[b.length-1]<18446744073709551616:=by omega
 have q2:b[b.length-1]+1<18446744073709551616:=by omega
 have q3:a[a.length-1]<18446744073709551616:=by omega
 have q4:(b[b.length-1]+1==0)=aa:=by simp
 unfold abZ
 split
 ·rename_i he
  have z1:(a.length-b.length==0)=ab:=by simp;omega
  rw[va,vb]
  generalize hE:a[a.length-1]/(b[b.length-1]+1)=e
  have hq:e<4294967296:=by have:=Nat.div_le_self a[a.length-1] (b[b.length-1]+1);omega
  have q5:e<18446744073709551616:=by omega
  have hm:(if 1<e then af e else af 1)=af (max 1 e):=by
   split
   ·rw[Nat.max_eq_right (by omega)]
   ·rw[Nat.max_eq_left (by omega)]
  have q6:max 1 e<9223372036854775808:=by omega
  have e4:=aO7 (z:=af (max 1 e)) (by show max 1 e<4294967296;omega)
  generalize max 1 e=mx at*
  exact atq e1 e2 da db s1 s2 s3 w1 w2 w3 q1 q2 q3 q4 q5 q6 z1 hE hm e4
 ·rename_i he
  have f1:a.length-2<a.length:=by omega
  have dc:=aA f1
  have lc:=ha _ (aUl f1)
  have vc:val (a.drop (a.length-2))=a[a.length-1]*4294967296+a[a.length-2]:=by
   rw[dc,val,show a.length-2+1=a.length-1 by omega,va];omega
  have z1:(a.length-b.length==0)=aa:=by simp only[beq_eq_false_iff_ne,ne_eq];omega
  have s4:af a.length-af 2=af (a.length-2):=by simp only[aT7];omega
  have s5:af (a.length-b.length)-af 1=af (a.length-b.length-1):=by simp only[aT7];omega
  have w4:=lP (n:=a.length-2) (by omega)
  have w5:=lP (n:=a.length-b.length-1) (by omega)
  have q5:a[a.length-1]*4294967296<18446744073709551616:=by omega
  have q6:=auH la lc
  have q7:a[a.length-2]<18446744073709551616:=by omega
  rw[vb,vc]
  generalize hE:(a[a.length-1]*4294967296+a[a.length-2])/(b[b.length-1]+1)=e
  have q8:e<18446744073709551616:=by have:=Nat.div_le_self (a[a.length-1]*4294967296+a[a.length-2]) (b[b.length-1]+1);omega
  have q9:e/4294967296<18446744073709551616:=by omega
  generalize hk:a.length-b.length-1=k at*
  have q10:k<9223372036854775808:=by omega
  have q11:k≤1073741824:=by omega
  have q12:4*k≤70368744177664:=by omega
  have ea:=aDU (k:=k) (by omega) (Z (.cells [.c (.v (.bool aa)),.c (.v (.slice U 0 0))])) (aT5 k 0) List.length_replicate (e%4294967296) (e/4294967296%4294967296)
  obtain⟨e4,e5,e7⟩:=ayN (k:=k) (e:=e) (by omega) q8
  exact atr e1 e2 f1 da db dc s1 s2 s3 s4 s5 w1 w2 w3 w4 w5 q1 q2 q3 q4 q5 q6 q7 q8 q9 q10 q11 q12 z1 hE ea e5 e7 e4
def yl:List V1→Option (List V1):=xV fun x y=>match ah 0 y&&aTQ y x with|true=>Z [gI (af (abZ (ax x) (ax y)))]|false=>U
def axK {k:Cls}:Cn k 302 yl:=bZ (ay aM2 af1.2 10 10 8) fun al rs h=>by
 obtain⟨x,y,rfl,hx,hy,h⟩:=qh h
 split at h
 ·rename_i hc
  cases h
  rw[aTT,aTR,Nat.ble_eq]at hc
  exact⟨_,_,mZ x y,aEx (aI x) (aI y) (cL hc.1) (jq hc.2) (by omega),Imps.refl _⟩
 ·cases h
def aJi {x y:Nat}(hx:aj x<8388608)(hy:aj y<8388608)(h0:0<y)(h1:y≤x):∃e,yl [cX x,cX y]=Z [gI (af e)]∧1≤e∧e*y≤x:=by
 refine⟨abZ (ax x) (ax y),?_,?_⟩
 ·unfold yl;rw[vM hx hy]
  have hc:(ah 0 y&&aTQ y x)=ab:=by rw[aTT,aTR,Nat.ble_eq];exact⟨h0,h1⟩
  simp only[hc]
 ·have:=atp (aI x) (aI y) (cn x) (cL h0) (jq h1) (by rw[aD,aD];exact h1)
  rw[aD,aD]at this
  exact this
def aEV:ImpC (.v (.slice U 0 0)) (.big 0):=fun k F w u hu=>by
 cases hu with
 |v x h=>exact .big0 U 0 (fun _=>rfl)
def nzC:C→C
 |.v (.slice U 0 0)=>.big 0
 |.sl 0 []=>.big 0
 |c=>c
def aJQ (c:C):ImpC c (nzC c):=by
 unfold nzC
 split
 ·exact aEV
 ·exact qA 0
 ·exact .refl _
def nzI:V1→V1
 |.agg [.v (.bool b),c]=>.agg [.v (.bool b),nzC c]
 |v=>v
def aEW (v:V1):Imp v (nzI v):=by
 unfold nzI
 split
 ·exact j3 (.cons (.refl _) (.cons (aJQ _) .nil))
 ·exact .refl _
def amU:∀al:List V1,Imps al (al.map nzI)
 |[]=>.nil
 |v::al=>.cons (aEW v) (amU al)
def nzN (m:List V1→Option (List V1)):List V1→Option (List V1):=fun al=>m (al.map nzI)
def aFP {P:Program}{k:Cls}{g:FuncId}{m:List V1→Option (List V1)}(h:ko P k g m):ko P k g (nzN m):=bZ h fun al rs e=>⟨_,_,amU al,e,Imps.refl _⟩
def vB:List V1→Option (List V1)
 |[.one (.big x),.one (.v (.int .u32 (.ofNat d)))]=>match ah 0 d&&(ah d 4294967296&&ah (aj x) 20000000)with|true=>Z [.one (aB (aU (ax x).length (x/d))),dA (x%d)]|false=>U
 |_=>U
def arx {k:Cls}:Cn k 301 vB:=bZ (ay (t:=.z) trivial af0.2 10 2000001 8) fun al rs h=>by
 unfold vB at h
 split at h
 ·rename_i x d
  split at h
  ·rename_i hc
   cases h
   rw[aTT,aTT,aTR,aTR,aTR]at hc
   refine⟨_,_,.cons (mY (j4 x)) (.cons (.refl _) .nil),arm (aI x) hc.1 hc.2.1 (aph hc.2.2),?_⟩
   rw[aD]
   exact Imps.refl _
  ·cases h
 ·cases h
def ak9 {x d:Nat}(hx:aj x<20000000)(hd:0<d)(hd':d<4294967296):vB [cX x,dA d]=Z [.one (aB (aU (ax x).length (x/d))),dA (x%d)]:=by
 have hc:(ah 0 d&&(ah d 4294967296&&ah (aj x) 20000000))=ab:=by rw[aTT,aTT,aTR,aTR,aTR];exact⟨hd,hd',hx⟩
 simp only[vB,hc]
def tRd:Ft:=.n (.n (.n .z 206 (.nat mf) U .z) 207 (.nat cG) U (.n .z 220 (.nat (nzN gH)) U .z)) 221 (.nat gJ) U (.n (.n .z 275 (.nat kX) U .z) 301 (.nat vB) U (.n .z 302 (.nat yl) U .z))
def aNG {k:Cls}:tRd.Ok Tryz.prog k aH:=⟨⟨⟨tv,agJ,tv,tv⟩,lF,tv,tv,aFP wS,tv,tv⟩,akX,tv,⟨tv,ak0,tv,tv⟩,arx,tv,tv,axK,tv,tv⟩
def au4 {x d:Nat}(hx:aj x<20000000)(hd:0<d):cG [.one (aB (aU (ax x).length (x/d))),.one (.v (.bool aa))]=Z [gI (af (x/d))]:=by
 have h:=m6 (ft (ax x).length (x/d)) aa (by rw[aQ];exact aph hx)
 have h2:=bL (aI x)
 rw[aD]at h2
 rw[go _ _ (aUh (Nat.div_le_self _ _) h2)]at h
 exact h
def au3 {r:Nat}(hr:r<4294967296):cG [.one (.sl 1 [.v (.int .u32 (.ofNat r))]),.one (.v (.bool aa))]=Z [gI (af r)]:=by
 have h:=m6 (l:=[r]) (fun d hd=>by simp at hd;omega) aa (by show 1<1000000;omega)
 rw[ke]at h
 exact h
def aPe {x y:Nat}(hx:aj x<8000000)(hy:0<y)(hy':y<4294967296)(fl:Nat):
  bM (ao tRd.tb 10 8) fl wN.1 [cX x,.one (aB [y])]=Z [gI (af (x/y)),gI (af (x%y))]:=by
 have e1:=ak9 (x:=x) (Nat.lt_trans hx (by omega)) hy hy'
 have e2:=au4 (x:=x) (Nat.lt_trans hx (by omega)) hy
 have e3:=au3 (r:=x%y) (Nat.lt_trans (aUb x hy) hy')
 generalize x/y=q at*
 generalize x%y=r at*
 simp only[aB,aQ]at e1 e2
 unfold gI at*
 simp(maxSteps:=9^9) only[az,seval,-ac,-ae,aIa,tRd,ar,aQ,e1,e2,e3,aB]
def aPo {b:List Nat}{m1 t s:Nat}{t0 t2 t3 t5 t6 t7 t8 t9 t10 t11 t12 t13 t14 t15:T}{H:Hp}{W:List Nat}(s3:af b.length-af 1=af m1)(w3:IntKind.i64.wrap (af m1)=af m1)(e2:m1<b.length)(db:b.drop m1=t::b.drop (m1+1))
  (q1:t<18446744073709551616)(q2:s<18446744073709551616)(q3:t*s<18446744073709551616)(q4:(t*s<2147483648)=True)(q5:2*s%4294967296=2*s)(fl:Nat)(cf:av):
  ∃W',am cf fl uJ ⟨[t0,uT s,t2,t3,aT b,t5,t6,t7,t8,t9,t10,t11,t12,t13,t14,t15],H,[],W,[]⟩=Z (.normal,⟨[t0,uT (2*s),t2,t3,aT b,t5,bT ab,t7,t8,t9,t10,t11,t12,t13,t14,t15],H,[],W',[]⟩):=by
 simp(maxSteps:=9^9) only[az,seval,-ac,-ae,asr,ar,s3,w3,e2,db,q1,q2,q3,q4,q5]
 exact⟨_,rfl⟩
def aMx {b:List Nat}{m1 t s:Nat}{t0 t2 t3 t5 t6 t7 t8 t9 t10 t11 t12 t13 t14 t15:T}{H:Hp}{W:List Nat}(s3:af b.length-af 1=af m1)(w3:IntKind.i64.wrap (af m1)=af m1)(e2:m1<b.length)(db:b.drop m1=t::b.drop (m1+1))
  (q1:t<18446744073709551616)(q2:s<18446744073709551616)(q3:t*s<18446744073709551616)(q4:(t*s<2147483648)=False)(fl:Nat)(cf:av):
  ∃W',am cf fl uJ ⟨[t0,uT s,t2,t3,aT b,t5,t6,t7,t8,t9,t10,t11,t12,t13,t14,t15],H,[],W,[]⟩=Z (.exit 0,⟨[t0,uT s,t2,t3,aT b,t5,bT aa,t7,t8,t9,t10,t11,t12,t13,t14,t15],H,[],W',[]⟩):=by
 simp(maxSteps:=9^9) only[az,seval,-ac,-ae,asr,ar,s3,w3,e2,db,q1,q2,q3,q4]
 exact⟨_,rfl⟩
abbrev vi (n:Nat):Option Blk:=Z (.cells [.c (.v (.bool aa)),.c (.big n)])
abbrev nV (n:Nat):V1:=.agg [.v (.bool aa),.big n]
def aPd {r d e q' m r':Nat}{qc:C}{h0 h1 h2:Option Blk}{E:Hp}{t1 t3 t4 t6 t7 t8 t9 t10 t11 t12 t13 t14 t15:T}{W:List Nat}{cf:av}
  (eL:mf [cX r,cX d]=Z [.one (.v (.bool aa))])(eE:yl [cX r,cX d]=Z [nV e])(eA:nzN gH [.agg [.v (.bool aa),jC qc],nV e]=Z [nV q'])(eM:gJ [nV e,nV d]=Z [nV m])(eS:kX [nV r,nV m]=Z [nV r'])
  (c1:CA cf 206 mf)(c2:CA cf 302 yl)(c3:CA cf 220 (nzN gH))(c4:CA cf 221 gJ)(c5:CA cf 275 kX)(fl:Nat):
  ∃t3' t6' t7' W' E',am cf fl uK ⟨[.t (.one (.ptr 3 0)),t1,.t (.one (.ptr 4 0)),t3,t4,.t (.one (.ptr 5 0)),t6,t7,t8,t9,t10,t11,t12,t13,t14,t15],h0::h1::h2::vi r::vi d::Z (.cells [.c (.v (.bool aa)),.c qc])::E,[],W,[]⟩=Z (.normal,⟨[.t (.one (.ptr 3 0)),t1,.t (.one (.ptr 4 0)),t3',t4,.t (.one (.ptr 5 0)),t6',t7',t8,t9,t10,t11,t12,t13,t14,t15],h0::h1::h2::vi r'::vi d::vi q'::E',[],W',[]⟩):=by
 simp(maxSteps:=9^9) only[az,seval,-ac,-ae,ass,ar,c1,c2,c3,c4,c5,eL,eE,eA,eM,eS,bk,bx,ci]
 exact⟨_,_,_,_,_,rfl⟩
def aMf {r d:Nat}{qc:C}{h0 h1 h2:Option Blk}{E:Hp}{t1 t3 t4 t6 t7 t8 t9 t10 t11 t12 t13 t14 t15:T}{W:List Nat}{cf:av}
  (eL:mf [cX r,cX d]=Z [.one (.v (.bool ab))])(c1:CA cf 206 mf)(fl:Nat):
  ∃t7' W',am cf fl uK ⟨[.t (.one (.ptr 3 0)),t1,.t (.one (.ptr 4 0)),t3,t4,.t (.one (.ptr 5 0)),t6,t7,t8,t9,t10,t11,t12,t13,t14,t15],h0::h1::h2::vi r::vi d::Z (.cells [.c (.v (.bool aa)),.c qc])::E,[],W,[]⟩=Z (.exit 2,⟨[.t (.one (.ptr 3 0)),t1,.t (.one (.ptr 4 0)),t3,t4,.t (.one (.ptr 5 0)),t6,t7',t8,t9,t10,t11,t12,t13,t14,t15],h0::h1::h2::vi r::vi d::Z (.cells [.c (.v (.bool aa)),.c qc])::E,[],W',[]⟩):=by
 simp(maxSteps:=9^9) only[az,seval,-ac,-ae,ass,ar,c1,eL]
 exact⟨_,_,rfl⟩
def QC (q:Nat)(qc:C):Prop:=qc=.big q∨(q=0∧qc=.v (.slice U 0 0))
def aOe {q e:Nat}{qc:C}(h:QC q qc)(hq:aj q<8388608)(he:aj e<8388608):nzN gH [.agg [.v (.bool aa),jC qc],nV e]=Z [nV (q+e)]:=by
 have e1:=qx (a:=af q) (b:=af e) hq he
 rw[show af q+af e=af (q+e) from rfl]at e1
 rcases h with rfl|⟨rfl,rfl⟩
 ·exact e1
 ·exact e1
def Ird (x y:Nat)(h0 h1 h2:Option Blk)(t1 t4 t8 t9 t10 t11 t12 t13 t14 t15:T)(s:Nat × Nat)(st:St):Prop:=
 ∃(t3 t6 t7:T) (W:List Nat) (E:Hp) (qc:C),st=⟨[.t (.one (.ptr 3 0)),t1,.t (.one (.ptr 4 0)),t3,t4,.t (.one (.ptr 5 0)),t6,t7,t8,t9,t10,t11,t12,t13,t14,t15],h0::h1::h2::vi s.1::vi y::Z (.cells [.c (.v (.bool aa)),.c qc])::E,[],W,[]⟩∧QC s.2 qc∧s.2*y+s.1=x
def aAV {x y:Nat}(hx:aj x<8388608)(hy:aj y<8388608)(hp:0<y){h0 h1 h2:Option Blk}{t1 t4 t8 t9 t10 t11 t12 t13 t14 t15:T}{cf:av}
  (c1:CA cf 206 mf)(c2:CA cf 302 yl)(c3:CA cf 220 (nzN gH))(c4:CA cf 221 gJ)(c5:CA cf 275 kX)(fl:Nat)
  (s:Nat × Nat)(st:St)(h:Ird x y h0 h1 h2 t1 t4 t8 t9 t10 t11 t12 t13 t14 t15 s st):
  (∃s' st',am cf fl uK st=Z (.normal,st')∧Ird x y h0 h1 h2 t1 t4 t8 t9 t10 t11 t12 t13 t14 t15 s' st'∧s'.1<s.1)∨(∃z st',am cf fl uK st=Z (z,st')∧z≠.normal∧z=.exit 2∧Ird x y h0 h1 h2 t1 t4 t8 t9 t10 t11 t12 t13 t14 t15 (x%y,x/y) st'):=by
 obtain⟨r,q⟩:=s
 obtain⟨t3,t6,t7,W,E,qc,rfl,hq,hv⟩:=h
 dsimp only at hv hq ⊢
 have hr:aj r<8388608:=aUh (bR (by omega)) hx
 have hqx:q≤x:=by have:=Nat.le_mul_of_pos_right q hp;omega
 have hql:aj q<8388608:=aUh (bR hqx) hx
 have eL:=aaQ hr hy
 rcases aT6 r y with hlt|hge
 ·right
  rw[show ah r y=ab by simpa using hlt]at eL
  obtain⟨t7',W',e⟩:=aMf (qc:=qc) (h0:=h0) (h1:=h1) (h2:=h2) (E:=E) (t1:=t1) (t3:=t3) (t4:=t4) (t6:=t6) (t7:=t7) (t8:=t8) (t9:=t9) (t10:=t10) (t11:=t11) (t12:=t12) (t13:=t13) (t14:=t14) (t15:=t15) (W:=W) eL c1 fl
  have h1:x%y=r:=by rw[← hv,Nat.mul_comm,Nat.mul_add_mod,aT9 hlt]
  have h2:x/y=q:=by rw[← hv,Nat.mul_comm,Nat.mul_add_div hp,Nat.div_eq_of_lt hlt,Nat.add_zero]
  rw[h1,h2]
  exact⟨_,_,e,by simp,rfl,_,_,_,_,_,_,rfl,hq,hv⟩
 ·left
  rw[show ah r y=aa by rw[Bool.eq_false_iff];simp;omega]at eL
  obtain⟨e,eE,he1,he2⟩:=aJi hr hy hp hge
  have hle:e≤r:=by have:=Nat.le_mul_of_pos_right e hp;omega
  have hel:aj e<8388608:=aUh (bR hle) hr
  have eA:=aOe hq hql hel
  have eM:=jh (a:=af e) (b:=af y) hel hy
  have hml:aj (e*y)<8388608:=aUh (bR he2) hr
  have eS:=aji (a:=af r) (b:=af (e*y)) hr hml
  rw[show af e*af y=af (e*y) from rfl]at eM
  rw[show af r-af (e*y)=af (r-e*y) by simp only[aT7];omega]at eS
  obtain⟨t3',t6',t7',W',E',e'⟩:=aPd (h0:=h0) (h1:=h1) (h2:=h2) (E:=E) (t1:=t1) (t3:=t3) (t4:=t4) (t6:=t6) (t7:=t7) (t8:=t8) (t9:=t9) (t10:=t10) (t11:=t11) (t12:=t12) (t13:=t13) (t14:=t14) (t15:=t15) (W:=W) eL eE eA eM eS c1 c2 c3 c4 c5 fl
  have hpos:0<e*y:=Nat.mul_pos he1 hp
  refine⟨(r-e*y,q+e),_,e',⟨_,_,_,_,_,_,rfl,.inl rfl,?_⟩,?_⟩
  ·show(q+e)*y+(r-e*y)=x
   rw[Nat.add_mul];omega
  ·show r-e*y<r
   omega
abbrev tk:Option Blk:=Z (.cells [.c (.v (.bool aa)),.c (.v (.slice U 0 0))])
def Isc (b:List Nat)(H:Hp)(t0 t2 t3 t5 t7 t8 t9 t10 t11 t12 t13 t14 t15:T)(s:Nat)(st:St):Prop:=
 ∃(t6:T) (W:List Nat),st=⟨[t0,uT s,t2,t3,aT b,t5,t6,t7,t8,t9,t10,t11,t12,t13,t14,t15],H,[],W,[]⟩∧0<s∧s<4294967296
def aAZ {b:List Nat}{m1 t:Nat}{t0 t2 t3 t5 t7 t8 t9 t10 t11 t12 t13 t14 t15:T}{H:Hp}(s3:af b.length-af 1=af m1)(w3:IntKind.i64.wrap (af m1)=af m1)(e2:m1<b.length)(db:b.drop m1=t::b.drop (m1+1))
  (ht:0<t)(ht':t<4294967296)(fl:Nat)(cf:av)(s:Nat)(st:St)(h:Isc b H t0 t2 t3 t5 t7 t8 t9 t10 t11 t12 t13 t14 t15 s st):
  (∃s' st',am cf fl uJ st=Z (.normal,st')∧Isc b H t0 t2 t3 t5 t7 t8 t9 t10 t11 t12 t13 t14 t15 s' st'∧4294967296-s'<4294967296-s)∨(∃x st',am cf fl uJ st=Z (x,st')∧x≠.normal∧x=.exit 0∧∃s,Isc b H t0 t2 t3 t5 t7 t8 t9 t10 t11 t12 t13 t14 t15 s st'):=by
 obtain⟨t6,W,rfl,h1,h2⟩:=h
 have q3:=(aj0 ht' h2 (u:=0) (c:=0) (by omega) (by omega)).1
 rcases aT6 (t*s) 2147483648 with hlt|hge
 ·left
  have hs:1*s≤t*s:=Nat.mul_le_mul_right s ht
  obtain⟨W',e⟩:=aPo (t0:=t0) (t2:=t2) (t3:=t3) (t5:=t5) (t6:=t6) (t7:=t7) (t8:=t8) (t9:=t9) (t10:=t10) (t11:=t11) (t12:=t12) (t13:=t13) (t14:=t14) (t15:=t15) (H:=H) (W:=W) s3 w3 e2 db (by omega) (by omega) q3 (eq_true hlt) (aT9 (by omega)) fl cf
  exact⟨2*s,_,e,⟨_,_,rfl,by omega,by omega⟩,by omega⟩
 ·right
  obtain⟨W',e⟩:=aMx (t0:=t0) (t2:=t2) (t3:=t3) (t5:=t5) (t6:=t6) (t7:=t7) (t8:=t8) (t9:=t9) (t10:=t10) (t11:=t11) (t12:=t12) (t13:=t13) (t14:=t14) (t15:=t15) (H:=H) (W:=W) s3 w3 e2 db (by omega) (by omega) q3 (eq_false (by omega)) fl cf
  exact⟨_,_,e,by simp,rfl,s,_,_,rfl,h1,h2⟩
def wl {x s:Nat}(hx:aj x<8000000)(hs:s<4294967296):aj (x*s)<8388608:=by
 have h2:=lgB hx (ol (k:=32) hs (by omega))
 omega
def aPf {x y:Nat}(hx:aj x<8000000)(hy:aj y<8000000)(h2:2≤(ax y).length):
  ∃qv,bM (ao tRd.tb 10 8) ak wN.1 [cX x,.one (aB (ax y))]=Z [qv,gI (af (x%y))]∧Imp qv (gI (af (x/y))):=by
 have c1:CA (ao tRd.tb 10 8) 206 mf:=fun _ _ _=>rfl
 have c2:CA (ao tRd.tb 10 8) 302 yl:=fun _ _ _=>rfl
 have c3:CA (ao tRd.tb 10 8) 220 (nzN gH):=fun _ _ _=>rfl
 have c4:CA (ao tRd.tb 10 8) 221 gJ:=fun _ _ _=>rfl
 have c5:CA (ao tRd.tb 10 8) 275 kX:=fun _ _ _=>rfl
 have c6:CA (ao tRd.tb 10 8) 207 cG:=fun _ _ _=>rfl
 have c7:CA (ao tRd.tb 10 8) 301 vB:=fun _ _ _=>rfl
 generalize ao tRd.tb 10 8=cf at*
 have hp:0<y:=by
  rcases aUc y with rfl|h
  ·simp[ax,vS]at h2
  ·exact h
 have ly:=fe (n:=y) (by omega)
 obtain⟨m1,hm1⟩:∃m1,(ax y).length=m1+1:=⟨(ax y).length-1,by omega⟩
 have e2:m1<(ax y).length:=by omega
 have s3:af (ax y).length-af 1=af m1:=by rw[hm1];simp only[aT7];omega
 have w3:=lP (n:=m1) (by omega)
 have db:=aA e2
 have lt:=aI y _ (aUl e2)
 have ht:0<(ax y)[m1]:=by
  have:(ax y)[m1]≠0:=cn y _ (by rw[List.getLast?_eq_getElem?,hm1];exact aTX e2)
  omega
 obtain⟨z,st',hl,_,rfl,s,t6,W,rfl,hs0,hs1⟩:=bg (Isc (ax y) [tk,tk] .nil .nil .nil .nil .nil (.t (.one (.ptr 0 0))) (.t (.one (.ptr 1 0))) .nil (gT x) .nil .nil .nil (bT aa)) (fun s=>4294967296-s) (fun z st'=>z=.exit 0∧∃s,Isc (ax y) [tk,tk] .nil .nil .nil .nil .nil (.t (.one (.ptr 0 0))) (.t (.one (.ptr 1 0))) .nil (gT x) .nil .nil .nil (bT aa) s st')
  (fun s st h=>aAZ s3 w3 e2 db ht lt ak cf s st h) ak 1 _ ⟨.nil,[],rfl,by omega,by omega⟩ (pU (aUj (ol (k:=33) (show 4294967296-1<2 ^ 33 by decide) (by omega)) (by omega)))
 have fx:aj (x*s)<8388608:=wl hx hs1
 have fy:aj (y*s)<8388608:=wl hy hs1
 have fs:aj s<8388608:=aUj (ol (k:=32) hs1 (by omega)) (by omega)
 have a1:cG [.one (.sl 1 [.v (.int .u32 (.ofNat s))]),.one (.v (.bool aa))]=Z [nV s]:=au3 hs1
 have a2:cG [cX x,.one (.v (.bool aa))]=Z [nV x]:=m5 (Nat.lt_trans hx (by omega)) aa
 have a3:cG [.one (aB (ax y)),.one (.v (.bool aa))]=Z [nV y]:=by
  have:=m6 (aI y) aa (by omega)
  rw[aD]at this
  exact this
 have a4:gJ [nV x,nV s]=Z [nV (x*s)]:=jh (a:=af x) (b:=af s) (show aj x<8388608 by omega) fs
 have a5:gJ [nV y,nV s]=Z [nV (y*s)]:=jh (a:=af y) (b:=af s) (show aj y<8388608 by omega) fs
 obtain⟨z,st',hl2,_,rfl,t3',t6',t7',W',E,qc,rfl,hq,hv⟩:=bg (Ird (x*s) (y*s) tk tk (vi s) (uT s) (aT (ax y)) (.t (.one (.ptr 0 0))) (.t (.one (.ptr 1 0))) (.t (.one (.ptr 2 0))) (gT x) .nil .nil .nil (bT aa)) (fun s=>s.1) (fun z st'=>z=.exit 2∧Ird (x*s) (y*s) tk tk (vi s) (uT s) (aT (ax y)) (.t (.one (.ptr 0 0))) (.t (.one (.ptr 1 0))) (.t (.one (.ptr 2 0))) (gT x) .nil .nil .nil (bT aa) ((x*s)%(y*s),(x*s)/(y*s)) st')
  (fun s' st h=>aAV fx fy (Nat.mul_pos hp hs0) c1 c2 c3 c4 c5 ak s' st h) ak (x*s,0) _ ⟨.nil,t6,.nil,5::4::3::2::W,[],.v (.slice U 0 0),rfl,.inr ⟨rfl,rfl⟩,by show 0*(y*s)+x*s=x*s;omega⟩ (pU fx)
 dsimp only at hl2
 have hr:(x*s)%(y*s)=x%y*s:=Nat.mul_mod_mul_right s x y
 have hqd:(x*s)/(y*s)=x/y:=Nat.mul_div_mul_right x y hs0
 rw[hr]at hl2
 dsimp only at hq
 rw[hqd]at hq
 have fr:aj (x%y*s)<8388608:=wl (aUh (bR (Nat.mod_le x y)) hx) hs1
 have a6:=ak9 (x:=x%y*s) (Nat.lt_trans fr (by omega)) hs0 hs1
 have a7:cG [.one (aB (aU (ax (x%y*s)).length (x%y*s/s))),.one (.v (.bool aa))]=Z [nV (x%y*s/s)]:=au4 (x:=x%y*s) (Nat.lt_trans fr (by omega)) hs0
 rw[Nat.mul_div_cancel _ hs0]at a6 a7
 refine⟨.agg [.v (.bool aa),jC qc],?_,?_⟩
 ·have z1:((ax y).length==1)=aa:=by simp only[beq_eq_false_iff_ne,ne_eq];omega
  generalize x%y*s%s=zz at*
  simp only[aB,aQ]at a3 a6 a7 hl hl2 ⊢
  unfold gI at*
  simp(maxSteps:=9^9) only[az,seval,-ac,-ae,aIa,ar,aQ,c6,c4,c7,a1,a2,a3,a4,a5,a6,a7,hl,hl2,z1]
  rfl
 ·rcases hq with rfl|⟨h0,rfl⟩
  ·exact Imp.refl _
  ·rw[h0]
   exact j3 (.cons (.refl _) (.cons (qA 0) .nil))
def af4:List V1→Option (List V1)
 |[.one (.big x),.one (.big y)]=>match ah 0 y&&(ah (aj x) 8000000&&ah (aj y) 8000000)with|true=>Z [gI (af (x/y)),gI (af (x%y))]|false=>U
 |_=>U
def aAJ {k:Cls}:Cn k 274 af4:=bZ (ay aNG wN.2 10 ak 8) fun al rs h=>by
 unfold af4 at h
 split at h
 ·rename_i x y
  split at h
  ·rename_i hc
   cases h
   rw[aTT,aTT,aTR,aTR,aTR]at hc
   obtain⟨hp,hx,hy⟩:=hc
   have hl:=cL hp
   by_cases h1:(ax y).length=1
   ·obtain⟨h2,h3⟩:=ayt h1
    refine⟨[cX x,.one (aB [y])],_,.cons (.refl _) (.cons (mY (by rw[← h2];exact j4 y)) .nil),aPe hx hp h3 ak,Imps.refl _⟩
   ·obtain⟨qv,h2,h3⟩:=aPf hx hy (by omega)
    exact⟨_,_,.cons (.refl _) (.cons (mY (j4 y)) .nil),h2,.cons h3 (.cons (.refl _) .nil)⟩
  ·cases h
 ·cases h
def aMg {x y:Nat}(hx:aj x<8000000)(hy:aj y<8000000)(h0:0<y):af4 [cX x,cX y]=Z [gI (af (x/y)),gI (af (x%y))]:=by
 have hc:(ah 0 y&&(ah (aj x) 8000000&&ah (aj y) 8000000))=ab:=by rw[aTT,aTT,aTR,aTR,aTR];exact⟨h0,hx,hy⟩
 simp only[af4,hc]
def tRm:Ft:=.n (.n (.n .z 140 (.nat fM) U .z) 204 (.nat cr) U (.n .z 207 (.nat cG) U .z)) 220 (.nat gH) U (.n (.n .z 252 (.nat gv) U .z) 274 (.nat af4) U (.n .z 275 (.nat kX) U .z))
def aNJ {k:Cls}:tRm.Ok Tryz.prog k aH:=⟨⟨⟨tv,aa1,tv,tv⟩,oB,tv,tv,lF,tv,tv⟩,wS,tv,⟨tv,wU,tv,tv⟩,aAJ,tv,tv,ak0,tv,tv⟩
abbrev bV (b:Bool):V1:=.one (.v (.bool b))
abbrev sV (z:Int):V1:=.one (.v (.int .i64 z))
abbrev zV (b:Bool)(n:Nat):V1:=.agg [.v (.bool b),.big n]
def aAI {pa pb g:Bool}{x y q r q1 r1:Nat}{mb sr:Int}{b1 b2:Bool}{v1 v2:Nat}
  (e1:cG [cX x,bV pa]=Z [zV pa x])(e2:cG [cX y,bV pb]=Z [zV pb y])(e3:cr [zV pb y]=Z [sV mb])(z3:(mb==af 0)=aa)
  (e4:af4 [cX x,cX y]=Z [zV aa q,zV aa r])(e5:cr [zV aa r]=Z [sV sr])(hg:sr=match g with|true=>af 1|false=>af 0)(e6:fM [sV (af 1)]=Z [zV aa 1])(e7:gH [zV aa q,zV aa 1]=Z [zV aa q1])
  (e8:cG [cX y,bV aa]=Z [zV aa y])(e9:kX [zV aa y,zV aa r]=Z [zV aa r1])(e10:gv [zV aa q]=Z [zV b1 v1])(e11:gv [zV aa q1]=Z [zV b2 v2]):
  bM (ao tRm.tb 10 8) 10 akI.1 [zV pa x,zV pb y]=Z [if pa&&g then (if pa != pb then zV b2 v2 else zV aa q1) else (if pa != pb then zV b1 v1 else zV aa q),if pa&&g then zV aa r1 else zV aa r,sV (af 0)]:=by
 subst hg
 cases g<;>cases pa<;>cases pb<;>simp(maxSteps:=9^9) only[az,seval,-ac,-ae,aQ3,tRm,ar,e1,e2,e3,z3,e4,e5,e6,e7,e8,e9,e10,e11]<;>rfl
def ak3 (a:Int):cI (aw a&&ah 0 (ap a)) (ap a)=gI a:=by
 rw[pR (z:=a) rfl (fun _=>rfl)]
def aGe {a b:Int}(ha:aj (ap a)<8000000)(hb:aj (ap b)<8000000)(h0:b≠0):bM (ao tRm.tb 10 8) 10 akI.1 [gI a,gI b]=Z [gI (a.ediv b),gI (a.emod b),sV (af 0)]:=by
 have hy:0<ap b:=by
  cases b with
  |ofNat n=>cases n with|zero=>exact absurd rfl h0|succ n=>exact Nat.succ_pos n
  |negSucc n=>exact Nat.succ_pos n
 have hfa:aE a:=by unfold aE;omega
 have hfb:aE b:=by unfold aE;omega
 have hm:=aUb (ap a) hy
 have fq1:=amG ha h0
 have fq:aE (af (ap a/ap b)):=aUh (bR (Nat.le_succ _)) fq1
 have fr:aE (af (ap a%ap b)):=aUh (bR (Nat.le_of_lt hm)) hfb
 have e1:=m5 (n:=ap a) (by omega) (aw a)
 rw[ak3]at e1
 have e2:=m5 (n:=ap b) (by omega) (aw b)
 rw[ak3]at e2
 have e3:=jr hfb
 have z3:(lL b==af 0)=aa:=by
  match b,h0 with
  |.ofNat 0,h=>exact absurd rfl h
  |.ofNat (n+1),_=>rfl
  |.negSucc n,_=>rfl
 have e4:=aMg ha hb hy
 have e5:=jr fr
 have hg:lL (af (ap a%ap b))=match ah 0 (ap a%ap b)with|true=>af 1|false=>af 0:=by
  cases ap a%ap b<;>rfl
 have e6:fM [sV (af 1)]=Z [zV aa 1]:=rfl
 have e7:gH [gI (af (ap a/ap b)),gI (af 1)]=Z [gI (af (ap a/ap b+1))]:=qx fq (show aE (af 1) by unfold aE;decide)
 have e8:cG [cX (ap b),bV aa]=Z [zV aa (ap b)]:=m5 (n:=ap b) (by omega) aa
 have e9:kX [gI (af (ap b)),gI (af (ap a%ap b))]=Z [gI (af (ap b-ap a%ap b))]:=by
  rw[aji (show aE (af (ap b)) from hfb) fr]
  congr 3
  simp only[aT7];omega
 have e10:=ji fq
 have e11:=ji (show aE (af (ap a/ap b+1)) from fq1)
 obtain⟨h1,h2⟩:=aB9 a h0
 have key:=aAI (g:=ah 0 (ap a%ap b)) e1 e2 e3 z3 e4 e5 hg e6 e7 e8 e9 e10 e11
 rw[h1,h2]
 refine key.trans ?_
 cases aw a&&ah 0 (ap a%ap b)<;>cases aw a != aw b<;>rfl
def oZ:List V1→Option (List V1)
 |[x,y]=>match dU x,dU y with
  |some a,Z b=>(match co b 0,ah (aj (ap a)) 8000000&&ah (aj (ap b)) 8000000 with|false,ab=>Z [gI (a.ediv b),gI (a.emod b),.one (.v (.int .i64 (.ofNat 0)))]|_,_=>U)
  |_,_=>U
 |_=>U
def anO {k:Cls}:Cn k 243 oZ:=aC (ay aNJ akI.2 10 10 8) fun al rs h=>by
 unfold oZ at h
 split at h
 ·split at h
  ·rename_i hx hy
   obtain⟨rfl,ha⟩:=bX hx
   obtain⟨rfl,hb⟩:=bX hy
   split at h
   ·rename_i hz hf
    cases h
    rw[aTT,aTR,aTR]at hf
    exact aGe hf.1 hf.2 (by intro e;subst e;cases hz)
   ·cases h
  ·cases h
 ·cases h
def aq4 {a b:Int}(ha:aj (ap a)<8000000)(hb:aj (ap b)<8000000)(h0:b≠0):oZ [gI a,gI b]=Z [gI (a.ediv b),gI (a.emod b),.one (.v (.int .i64 (.ofNat 0)))]:=by
 have hz:co b 0=aa:=by
  cases h:co b 0 with
  |false=>rfl
  |true=>exact absurd (gp h) h0
 have hf:(ah (aj (ap a)) 8000000&&ah (aj (ap b)) 8000000)=ab:=by rw[aTT,aTR,aTR];exact⟨ha,hb⟩
 simp only[oZ,dj (show aE a by unfold aE;omega),dj (show aE b by unfold aE;omega),hz,hf]
def l6 {α:Type}(E:List α)(x y:α):(E++[x]++[y])[E.length]?=Z x:=by simp
def nC {α:Type}(E:List α)(x y z:α):(E++[x]++[y]).set E.length z=E++[z]++[y]:=by simp
def v8 {α:Type}(E:List α)(x y:α):(E++[x]++[y])[E.length+1]?=Z y:=by simp
def aa4 {α:Type}(E:List α)(x y z:α):(E++[x]++[y]).set (E.length+1) z=E++[x]++[z]:=by simp
def tRg:Ft:=.n (.n .z 204 (.nat cr) U .z) 207 (.nat cG) U (.n .z 243 (.nat oZ) U .z)
def aNI {k:Cls}:tRg.Ok Tryz.prog k aH:=⟨⟨tv,oB,tv,tv⟩,lF,tv,tv,anO,tv,tv⟩
abbrev zcl (b:Bool)(n:Nat):Option Blk:=Z (.cells [.c (.v (.bool b)),.c (.big n)])
def aPg {pa pb pq pr:Bool}{x y q r:Nat}{sb:Int}{h2:Option Blk}{E:Hp}{t2 t3 t4 t5 t6:T}{W:List Nat}{cf:av}(e1:cr [zV pb y]=Z [sV sb])(z:(sb != af 0)=ab)(e2:oZ [zV pa x,zV pb y]=Z [zV pq q,zV pr r,sV (af 0)])
  (c1:CA cf 204 cr)(c2:CA cf 243 oZ)(fl:Nat):
  ∃t2' t3' W' E',am cf fl uC ⟨[.t (.one (.ptr 1 0)),.t (.one (.ptr 0 0)),t2,t3,t4,t5,t6],zcl pa x::zcl pb y::h2::E,[],W,[]⟩=Z (.normal,⟨[.t (.one (.ptr 1 0)),.t (.one (.ptr 0 0)),t2',t3',t4,t5,t6],zcl pb y::zcl pr r::h2::E',[],W',[]⟩):=by
 simp(maxSteps:=9^9) only[az,seval,-ac,-ae,asg,ar,c1,c2,e1,e2,z,bk,bx,l6,nC,v8,aa4,ci]
 exact⟨_,_,_,_,rfl⟩
def aMj {pa pb:Bool}{x y:Nat}{sb:Int}{h2:Option Blk}{E:Hp}{t2 t3 t4 t5 t6:T}{W:List Nat}{cf:av}(e1:cr [zV pb y]=Z [sV sb])(z:(sb != af 0)=aa)
  (c1:CA cf 204 cr)(fl:Nat):
  ∃t3' W',am cf fl uC ⟨[.t (.one (.ptr 1 0)),.t (.one (.ptr 0 0)),t2,t3,t4,t5,t6],zcl pa x::zcl pb y::h2::E,[],W,[]⟩=Z (.exit 0,⟨[.t (.one (.ptr 1 0)),.t (.one (.ptr 0 0)),t2,t3',t4,t5,t6],zcl pa x::zcl pb y::h2::E,[],W',[]⟩):=by
 simp(maxSteps:=9^9) only[az,seval,-ac,-ae,asg,ar,c1,e1,z]
 exact⟨_,_,rfl⟩
def Irg (n0:Nat)(h2:Option Blk)(t4 t5 t6:T)(s:Int × Int)(st:St):Prop:=
 ∃(t2 t3:T) (W:List Nat) (E:Hp),st=⟨[.t (.one (.ptr 1 0)),.t (.one (.ptr 0 0)),t2,t3,t4,t5,t6],zcl (aw s.1) (ap s.1)::zcl (aw s.2) (ap s.2)::h2::E,[],W,[]⟩∧aTY (ap s.1) (ap s.2)=n0∧aj (ap s.1)<8000000∧aj (ap s.2)<8000000
def axI (a:Int){b:Int}(h0:b≠0):ap (a.emod b)<ap b:=by
 have h1:=Int.emod_nonneg a h0
 have h2:=Int.emod_lt a h0
 simp only[dZ]
 show(a%b).natAbs<b.natAbs
 omega
def ax9 (a b:Int):aTY (ap b) (ap (a.emod b))=aTY (ap a) (ap b):=by
 simp only[dZ]
 show aTY b.natAbs (a%b).natAbs=aTY a.natAbs b.natAbs
 apply Nat.dvd_antisymm
 ·refine Nat.dvd_gcd ?_ (Nat.gcd_dvd_left _ _)
  have h1:((aTY b.natAbs (a%b).natAbs:Nat):Int)∣b:=Int.ofNat_dvd_left.2 (Nat.gcd_dvd_left _ _)
  have h2:((aTY b.natAbs (a%b).natAbs:Nat):Int)∣a%b:=Int.ofNat_dvd_left.2 (Nat.gcd_dvd_right _ _)
  refine Int.ofNat_dvd_left.1 ?_
  have h3:=Int.dvd_add (Int.dvd_trans h1 (Int.dvd_mul_right b (a/b))) h2
  rwa [Int.mul_ediv_add_emod]at h3
 ·refine Nat.dvd_gcd (Nat.gcd_dvd_right _ _) ?_
  have h1:((aTY a.natAbs b.natAbs:Nat):Int)∣b:=Int.ofNat_dvd_left.2 (Nat.gcd_dvd_right _ _)
  have h2:((aTY a.natAbs b.natAbs:Nat):Int)∣a:=Int.ofNat_dvd_left.2 (Nat.gcd_dvd_left _ _)
  refine Int.ofNat_dvd_left.1 ?_
  rw[Int.emod_def]
  exact Int.dvd_sub h2 (Int.dvd_trans h1 (Int.dvd_mul_right b (a/b)))
def aAW {n0:Nat}{h2:Option Blk}{t4 t5 t6:T}{cf:av}(c1:CA cf 204 cr)(c2:CA cf 243 oZ)(fl:Nat)(s:Int × Int)(st:St)(h:Irg n0 h2 t4 t5 t6 s st):
  (∃s' st',am cf fl uC st=Z (.normal,st')∧Irg n0 h2 t4 t5 t6 s' st'∧ap s'.2<ap s.2)∨(∃x st',am cf fl uC st=Z (x,st')∧x≠.normal∧x=.exit 0∧∃a,Irg n0 h2 t4 t5 t6 (a,0) st'):=by
 obtain⟨a,b⟩:=s
 obtain⟨t2,t3,W,E,rfl,hg,hx,hy⟩:=h
 dsimp only at hg hx hy ⊢
 have e1:=jr (a:=b) (by unfold aE;omega)
 by_cases h0:b=0
 ·right
  subst h0
  obtain⟨t3',W',e⟩:=aMj (pa:=aw a) (x:=ap a) (h2:=h2) (E:=E) (t2:=t2) (t3:=t3) (t4:=t4) (t5:=t5) (t6:=t6) (W:=W) e1 rfl c1 fl
  exact⟨_,_,e,by simp,rfl,a,_,_,_,_,rfl,hg,hx,hy⟩
 ·left
  have z3:(lL b != af 0)=ab:=by
   match b,h0 with
   |.ofNat 0,h=>exact absurd rfl h
   |.ofNat (n+1),_=>rfl
   |.negSucc n,_=>rfl
  have e2:=aq4 hx hy h0
  obtain⟨t2',t3',W',E',e⟩:=aPg (h2:=h2) (E:=E) (t2:=t2) (t3:=t3) (t4:=t4) (t5:=t5) (t6:=t6) (W:=W) e1 z3 e2 c1 c2 fl
  have hm:=axI a h0
  exact⟨(b,a.emod b),_,e,⟨_,_,_,_,rfl,by rw[ax9];exact hg,hy,aUh (bR (Nat.le_of_lt hm)) hy⟩,hm⟩
def aAO {a b:Int}(ha:aj (ap a)<8000000)(hb:aj (ap b)<8000000):bM (ao tRg.tb 10 8) ak afK.1 [gI a,gI b]=Z [gI (af (aTY (ap a) (ap b)))]:=by
 have c1:CA (ao tRg.tb 10 8) 204 cr:=fun _ _ _=>rfl
 have c2:CA (ao tRg.tb 10 8) 243 oZ:=fun _ _ _=>rfl
 have c3:CA (ao tRg.tb 10 8) 207 cG:=fun _ _ _=>rfl
 generalize ao tRg.tb 10 8=cf at*
 obtain⟨_,st',hl,_,rfl,g,t2,t3,W,E,rfl,hg,hx,_⟩:=bg (Irg (aTY (ap a) (ap b)) tk (.t (.one (.ptr 2 0))) (.t (.agg [.c (.v (.bool (aw a))),.c (.big (ap a))])) (.t (.agg [.c (.v (.bool (aw b))),.c (.big (ap b))]))) (fun s=>ap s.2) (fun x st'=>x=.exit 0∧∃g,Irg (aTY (ap a) (ap b)) tk (.t (.one (.ptr 2 0))) (.t (.agg [.c (.v (.bool (aw a))),.c (.big (ap a))])) (.t (.agg [.c (.v (.bool (aw b))),.c (.big (ap b))])) (g,0) st')
  (fun s st h=>aAW c1 c2 ak s st h) ak (a,b) _ ⟨.nil,.nil,[],[],rfl,rfl,ha,hb⟩ (pU (show aj (ap b)<8388608 by omega))
 dsimp only at hl hg hx
 have e0:ap (0:Int)=0:=rfl
 rw[e0,Nat.gcd_zero_right]at hg
 have e1:cG [cX (ap g),bV aa]=Z [zV aa (ap g)]:=m5 (n:=ap g) (by omega) aa
 show _=Z [zV aa (aTY (ap a) (ap b))]
 rw[← hg]
 unfold gI
 simp(maxSteps:=9^9) only[az,seval,-ac,-ae,aQK,ar,c3,hl,e1]
def tA:List V1→Option (List V1)
 |[x,y]=>match dU x,dU y with
  |some a,Z b=>(match ah (aj (ap a)) 8000000&&ah (aj (ap b)) 8000000 with|true=>Z [gI (af (aTY (ap a) (ap b)))]|_=>U)
  |_,_=>U
 |_=>U
def akW {k:Cls}:Cn k 205 tA:=aC (ay aNI afK.2 10 ak 8) fun al rs h=>by
 unfold tA at h
 split at h
 ·split at h
  ·rename_i hx hy
   obtain⟨rfl,ha⟩:=bX hx
   obtain⟨rfl,hb⟩:=bX hy
   split at h
   ·rename_i hf
    cases h
    rw[aTT,aTR,aTR]at hf
    exact aAO hf.1 hf.2
   ·cases h
  ·cases h
 ·cases h
def aMe {a b:Int}(ha:aj (ap a)<8000000)(hb:aj (ap b)<8000000):tA [gI a,gI b]=Z [gI (af (aTY (ap a) (ap b)))]:=by
 have hf:(ah (aj (ap a)) 8000000&&ah (aj (ap b)) 8000000)=ab:=by rw[aTT,aTR,aTR];exact⟨ha,hb⟩
 simp only[tA,dj (show aE a by unfold aE;omega),dj (show aE b by unfold aE;omega),hf]
def afO:=mq aa 213 1 Tryz.func213
def auc:=pk (lp afO.1 0 []=·)
def aHY:=ev (lp afO.1 0) auc
def aQO:=bO (fl afO.1) afO.1 auc
def zK:=mq aa 224 2 Tryz.func224
def aH0:=ev (fl zK.1) zK.1
def aqP:=mq aa 230 2 Tryz.func230
def aQ0:=ev (fl aqP.1) aqP.1
def akD:=mq aa 162 2 Tryz.func162
def aQy:=ev (fl akD.1) akD.1
def akF:=mq aa 182 2 Tryz.func182
def aQE:=ev (fl akF.1) akF.1
def akM:=mq aa 324 2 Tryz.func324
def aRp:=ev (fl akM.1) akM.1
def aqB:=mq aa 173 2 Tryz.func173
def aQD:=ev (fl aqB.1) aqB.1
def aqY:=mq aa 297 1 Tryz.func297
def aRg:=ev (fl aqY.1) aqY.1
def aqt:=mq aa 153 1 Tryz.func153
def aQu:=ev (fl aqt.1) aqt.1
def aqm:=mq aa 134 1 Tryz.func134
def aQj:=ev (fl aqm.1) aqm.1
def azA:=mq aa 152 1 Tryz.func152
def akC:=mq aa 149 2 Tryz.func149
def aQr:=ev (fl akC.1) akC.1
def aAe:=mq aa 296 1 Tryz.func296
def aqM:=mq aa 222 2 Tryz.func222
def aQV:=ev (fl aqM.1) aqM.1
def afW:=mq aa 251 2 Tryz.func251
def aH7:=ev (fl afW.1) afW.1
def aqL:=mq aa 219 2 Tryz.func219
def aQT:=ev (fl aqL.1) aqL.1
def aqv:=mq aa 157 2 Tryz.func157
def aQw:=ev (fl aqv.1) aqv.1
def aqx:=mq aa 159 2 Tryz.func159
def aQx:=ev (fl aqx.1) aqx.1
def aqS:=mq aa 241 2 Tryz.func241
def aQ2:=ev (fl aqS.1) aqS.1
def aqN:=mq aa 223 1 Tryz.func223
def aQW:=ev (fl aqN.1) aqN.1
def aqo:=mq aa 137 1 Tryz.func137
def aQl:=ev (fl aqo.1) aqo.1
def aqD:=mq aa 185 2 Tryz.func185
def aQF:=ev (fl aqD.1) aqD.1
def q65:=mq aa 65 1 Tryz.func65
def E65:=ev (fl q65.1) q65.1
def q64:=mq aa 64 2 Tryz.func64
def E64:=ev (fl q64.1) q64.1
def q81:=mq aa 81 2 Tryz.func81
def azy:=mq aa 136 1 Tryz.func136
end
end Go.Proofs.YtfiijelajgifiaaGreat
