/-
  Part 14 of the machine and of the contracts of functions of the program (packed).
-/
import Derived.Test.YtfiijelajgifiaaGreatA13
set_option linter.all false
set_option linter.defProp false
open Bool renaming false→aa,true→ab,and_eq_true→aTT,eq_iff_iff→aUp
open Int renaming reduceOfNat→ac,reduceNegSucc→ae,ofNat→af,negSucc→aT2,ofNat_eq_natCast→aT7
open List renaming length_cons→aTV,length_append→aTW,getElem?_eq_getElem→aTX,mem_cons→aTZ,length_nil→aUf,drop_length→aUg,take_of_length_le→aUi,getElem_mem→aUl,length_take→aUo
open Nat renaming blt→ah,log2→aj,ble→aTQ,blt_eq→aTR,le_refl→aTS,mul_add→aT4,lt_or_ge→aT6,mod_eq_of_lt→aT9,eq_zero_or_pos→aUc,zero_add→aUe,lt_of_le_of_lt→aUh,lt_of_lt_of_le→aUj,mul_assoc→aUk
open Option renaming some→Z,none→U
namespace Go.Proofs.YtfiijelajgifiaaGreat
noncomputable section
open Go Go.Mach Go.Flow
set_option maxRecDepth 100000
set_option maxHeartbeats 4000000
def Imd (l:List Nat)(b:Bool)(j:Nat)(st:St):Prop:=
 ∃(t1:T),st=⟨[iT j,t1,aT l,.t (.one (.ptr 0 0)),bT b],[Z (.cells [.c (.v (.bool aa)),.c (.v (.slice U 0 0))])],[],[],[]⟩∧j≤l.length∧val (l.take j)=val l
def aAT {l:List Nat}(hl:lims l){b:Bool}(hn:l.length<2000000){j:Nat}{st:St}(h:Imd l b j st)(fl:Nat)(cf:av):
  (∃j' st',am cf fl yz st=Z (.normal,st')∧Imd l b j' st'∧j'<j)∨(∃x st',am cf fl yz st=Z (x,st')∧x≠.normal∧x=.exit 0∧Imd l b (ax (val l)).length st'∧l.take (ax (val l)).length=ax (val l)):=by
 obtain⟨t1,rfl,hj,hv⟩:=h
 rcases aUc j with rfl|hp
 ·right
  have h0:val l=0:=by rw[← hv];rfl
  simp(maxSteps:=9^9) only[az,seval,-ac,-ae,aig,ar]
  refine⟨_,_,rfl,by simp,rfl,?_,?_⟩
  ·rw[h0];exact⟨_,rfl,Nat.zero_le _,by rw[h0];rfl⟩
  ·rw[h0];rfl
 ·obtain⟨i,rfl⟩:∃i,j=i+1:=⟨j-1,by omega⟩
  have hi:i<l.length:=by omega
  have di:=aA hi
  have e2:(0<i+1)=True:=eq_true (by omega)
  have e3:i<9223372036854775808:=by omega
  have e5:af (i+1)-af 1=af i:=by simp only[aT7];omega
  have vt:=bG (aTX hi)
  rw[hv]at vt
  by_cases hz:l[i]=0
  ·left
   have z1:(l[i]==0)=ab:=by rw[hz];rfl
   simp(maxSteps:=9^9) only[az,seval,-ac,-ae,aig,ar,hi,di,e2,e3,e5,z1]
   exact⟨i,_,rfl,⟨_,rfl,by omega,by rw[vt,hz];simp⟩,by omega⟩
  ·right
   have z1:(l[i]==0)=aa:=by simpa using hz
   have hc:gn (l.take (i+1)):=by
    intro d hd
    rw[aaa (aTX hi),List.getLast?_concat]at hd
    cases hd
    exact hz
   have hdg:ax (val l)=l.take (i+1):=by rw[← hv];exact tV (hl.take _) hc
   have hlen:(ax (val l)).length=i+1:=by rw[hdg,aUo];omega
   simp(maxSteps:=9^9) only[az,seval,-ac,-ae,aig,ar,hi,di,e2,e3,e5,z1]
   refine⟨_,_,rfl,by simp,rfl,?_,by rw[hlen,hdg]⟩
   rw[hlen]
   exact⟨_,rfl,hj,hv⟩
def ajI {l:List Nat}(hl:lims l)(b:Bool)(hn:l.length<1000000):
  bM (ao tN.tb 10 8) 2000001 act.1 [.one (aB l),.one (.v (.bool b))]=Z [.agg [.v (.bool (b&&ah 0 (ax (val l)).length)),aB (ax (val l))]]:=by
 have hcf:∀cf:av,∃st',aG (am cf 2000001 yz) 2000001 ⟨[iT l.length,.nil,aT l,.t (.one (.ptr 0 0)),bT b],[Z (.cells [.c (.v (.bool aa)),.c (.v (.slice U 0 0))])],[],[],[]⟩=Z (.exit 0,st')∧Imd l b (ax (val l)).length st'∧l.take (ax (val l)).length=ax (val l):=by
  intro cf
  obtain⟨x,st',h1,_,rfl,h3,h4⟩:=bg (Imd l b) (fun j=>j) (fun x st'=>x=.exit 0∧Imd l b (ax (val l)).length st'∧l.take (ax (val l)).length=ax (val l)) (fun j st h=>aAT hl (by omega) h 2000001 cf) 2000001 l.length _ ⟨_,rfl,aTS _,by rw[List.take_length]⟩ (by omega)
  exact⟨st',h1,h3,h4⟩
 obtain⟨st',h1,⟨t1,rfl,h2,_⟩,h3⟩:=hcf (ao tN.tb 10 8)
 generalize ao tN.tb 10 8=cf at h1 ⊢
 generalize hk:(ax (val l)).length=k at h1 h2 h3
 have e2:l.length<9223372036854775808:=by omega
 rcases aUc k with rfl|hp
 ·have hz:ax (val l)=[]:=List.eq_nil_of_length_eq_zero hk
  have i1:(0<0)=False:=by simp
  rw[show(b&&ah 0 0)=aa by cases b<;>rfl]
  cases b<;>simp(maxSteps:=9^9) only[az,seval,-ac,-ae,aHV,h1,h2,e2,ar,abe,h3,hk,hz,i1,aB]
 ·have i1:(0<k)=True:=eq_true hp
  have i2:(k=0)=False:=eq_false (by omega)
  have i3:k≤1073741824:=by omega
  have i4:k*4≤70368744177664:=by omega
  have i5:(ax (val l)).take k=ax (val l):=aUi (by omega)
  rw[show ah 0 k=ab by simpa using hp,Bool.and_true]
  cases b<;>simp(maxSteps:=9^9) only[az,seval,-ac,-ae,aHV,h1,h2,e2,ar,abe,h3,hk,i1,i2,i3,i4,i5,aB]
def aaS:List V1→Option (List V1)
 |[x,.one (.v (.bool b))]=>match wj x with|some l=>(match ah l.length 1000000 with|true=>Z [cI (b&&ah 0 (val l)) (val l)]|false=>U)|none=>U
 |_=>U
def au1 {k:Cls}:Cn k 207 aaS:=bZ (ay aa9 act.2 10 2000001 8) fun al rs h=>by
 unfold aaS at h
 split at h
 ·rename_i x b
  split at h
  ·rename_i l hx
   split at h
   ·rename_i hc
    cases h
    obtain⟨rfl,hl⟩:=uQ hx
    refine⟨_,_,Imps.refl _,ajI hl b (by simpa using hc),?_⟩
    rw[mO]
    exact .cons (j3 (.cons (.refl _) (.cons (qA _) .nil))) .nil
   ·cases h
  ·cases h
 ·cases h
def aFh {l:List Nat}(hl:lims l)(b:Bool)(h1:l.length<1000000):aaS [.one (aB l),.one (.v (.bool b))]=Z [cI (b&&ah 0 (val l)) (val l)]:=by
 have hc:ah l.length 1000000=ab:=by simpa using h1
 simp only[aaS,yR hl,hc]
def Il (a b:List Nat)(j:Nat)(st:St):Prop:=
 ∃(t3 t4 t6:T),st=⟨[zT j,aT a,aT b,t3,t4,bT aa,t6],[],[],[],[]⟩∧j≤a.length∧a.drop j=b.drop j
def Ql (a b:List Nat)(x:X)(st:St):Prop:=
 (x=.exit 0∧val a=val b∧∃(t0 t3 t4 t5 t6:T),st=⟨[t0,aT a,aT b,t3,t4,t5,t6],[],[],[],[]⟩)∨(x=.ret∧∃(t0 t3 t4 t6:T),st=⟨[t0,aT a,aT b,t3,t4,bT (decide (val a<val b)),t6],[],[],[],[]⟩)
def aGq {a b:List Nat}(ha:lims a)(hb:lims b)(hn:a.length<2000000)(he:a.length=b.length){j:Nat}{st:St}(h:Il a b j st)(fl:Nat)(cf:av):
  (∃j' st',am cf fl adz st=Z (.normal,st')∧Il a b j' st'∧j'<j)∨(∃x st',am cf fl adz st=Z (x,st')∧x≠.normal∧Ql a b x st'):=by
 obtain⟨t3,t4,t6,rfl,hj,hd⟩:=h
 rcases aUc j with rfl|hp
 ·right
  simp(maxSteps:=9^9) only[az,seval,-ac,-ae,jG,jH,aif,ar]
  exact⟨_,_,rfl,by simp,.inl ⟨rfl,by simpa using congrArg val hd,_,_,_,_,_,rfl⟩⟩
 ·obtain⟨i,rfl⟩:∃i,j=i+1:=⟨j-1,by omega⟩
  have hi:i<a.length:=by omega
  have hib:i<b.length:=by omega
  have da:=aA hi
  have db:=aA hib
  have e2:(0≤i)=True:=eq_true (by omega)
  have e3:i<9223372036854775808:=by omega
  have e6:=jw e3
  by_cases h:a[i]=b[i]
  ·left
   have z1:(b[i] != b[i])=aa:=by simp
   simp(maxSteps:=9^9) only[az,seval,-ac,-ae,jG,jH,aif,ar,hi,hib,da,db,e2,e3,e6,h,z1]
   exact⟨i,_,rfl,⟨_,_,_,rfl,by omega,by rw[da,db,h,hd]⟩,by omega⟩
  ·right
   have z1:(a[i] != b[i])=ab:=by simpa using h
   have hq:decide (a[i]<b[i])=decide (val a<val b):=by
    rcases aT6 a[i] b[i]with h1|h1
    ·have h2:=nF ha hi hib hd h1
     rw[decide_eq_true h2,decide_eq_true h1]
    ·have h2:=nF hb hib hi hd.symm (by omega)
     rw[decide_eq_false (by omega:¬val a<val b),decide_eq_false (by omega:¬a[i]<b[i])]
   simp(maxSteps:=9^9) only[az,seval,-ac,-ae,jG,jH,aif,ar,hi,hib,da,db,e2,e3,e6,z1]
   rw[hq]
   exact⟨_,_,rfl,by simp,.inr ⟨rfl,_,_,_,_,rfl⟩⟩
def ayu {a b:List Nat}(ha:lims a)(hb:lims b)(ca:gn a)(cb:gn b)(hn:a.length<1000000)(hm:b.length<1000000):
  bM (ao tN.tb 10 8) 2000001 afL.1 [.one (aB a),.one (aB b)]=Z [.one (.v (.bool (decide (val a<val b))))]:=by
 rcases Nat.lt_trichotomy a.length b.length with h|h|h
 ·have h2:=pM ha cb h
  have z1:(a.length != b.length)=ab:=by simp;omega
  rw[decide_eq_true h2]
  simp(maxSteps:=9^9) only[az,seval,-ac,-ae,aoE,ar,z1,h]
 ·obtain⟨x,st',hl,_,hQ⟩:=bg (Il a b) (fun j=>j) (Ql a b) (fun j st hI=>aGq ha hb (by omega) h hI 2000001 (ao tN.tb 10 8)) 2000001 a.length ⟨[zT a.length,aT a,aT b,.nil,.nil,bT aa,bT aa],[],[],[],[]⟩ ⟨_,_,_,rfl,aTS _,by rw[aUg,h,aUg]⟩ (by omega)
  have e3:=jw (i:=a.length) (by omega)
  have z1:(b.length != b.length)=aa:=by simp
  rw[h]at hl e3
  generalize ao tN.tb 10 8=cf at hl ⊢
  rcases hQ with⟨rfl,hv,t0,t3,t4,t5,t6,rfl⟩|⟨rfl,t0,t3,t4,t6,rfl⟩
  ·rw[decide_eq_false (by omega:¬val a<val b)]
   simp(maxSteps:=9^9) only[az,seval,-ac,-ae,aoE,ar,z1,h,hl,e3]
  ·simp(maxSteps:=9^9) only[az,seval,-ac,-ae,aoE,ar,z1,h,hl,e3]
 ·have h2:=pM hb ca h
  have z1:(a.length != b.length)=ab:=by simp;omega
  have z2:(a.length<b.length)=False:=eq_false (by omega)
  rw[decide_eq_false (by omega:¬val a<val b)]
  simp(maxSteps:=9^9) only[az,seval,-ac,-ae,aoE,ar,z1,z2]
def mf:List V1→Option (List V1):=xV fun x y=>Z [.one (.v (.bool (ah x y)))]
def agJ {k:Cls}:Cn k 206 mf:=bZ (ay aa9 afL.2 10 2000001 8) fun al rs h=>by
 obtain⟨x,y,rfl,hx,hy,h⟩:=qh h
 cases h
 refine⟨_,_,mZ x y,ayu (aI x) (aI y) (cn x) (cn y) (by omega) (by omega),?_⟩
 rw[aD,aD]
 have:decide (x<y)=ah x y:=by rw[aUp];simp
 rw[this]
 exact Imps.refl _
def aaQ {x y:Nat}(hx:aj x<8388608)(hy:aj y<8388608):mf [cX x,cX y]=Z [.one (.v (.bool (ah x y)))]:=by unfold mf;rw[vM hx hy]
end
end Go.Proofs.YtfiijelajgifiaaGreat
namespace Go.Mach
noncomputable section
open Go Go.RowKit Go.Flow
def Gu (i:Nat)(s:T)(H:Hp)(o:List Nat):Prop:=
 o.length=i∧((i=0∧H=[]∧s=.t (.one .z0))∨(0<i∧∃E,H=E++[Z (.cells (aJ o))]∧s=.t (.one (.lsl E.length 0 i 1))))
def aB1 {i:Nat}{s:T}{H:Hp}{o:List Nat}(h:Gu i s H o)(hi:i<3000000)(d:Nat):
  ∃s' H',bJ 1 4 H [] s (.t (.one (.c (.sl 1 [.v (.int .u32 (af d))]))))=Z (s',H')∧Gu (i+1) s' H' (o++[d]):=by
 obtain⟨hl,⟨rfl,rfl,rfl⟩|⟨hp,E,rfl,rfl⟩⟩:=h
 ·have:o=[]:=List.eq_nil_of_length_eq_zero hl
  subst this
  exact⟨_,_,rfl,rfl,.inr ⟨by omega,[],rfl,rfl⟩⟩
 ·have e1:o.length+1≤1073741824:=by omega
  have e2:(o.length+1)*4≤70368744177664:=by omega
  have e3:(aJ o).take o.length=aJ o:=by rw[il,List.take_length]
  have h0:ch (E++[Z (.cells (aJ o))]) 1 (.t (.one (.c (.sl 1 [.v (.int .u32 (af d))]))))=Z (1,[D.c (.v (.int .u32 (af d)))]):=rfl
  refine⟨.t (.one (.lsl (E++[U]).length 0 (i+1) 1)),(E++[U])++[Z (.cells (aJ (o++[d])))],?_,by simp[hl],.inr ⟨by omega,_,rfl,rfl⟩⟩
  unfold bJ
  rw[h0]
  dsimp only
  rw[if_neg (by omega),if_pos (by omega)]
  subst hl
  simp only[bk,Nat.mul_one]
  rw[if_pos (by refine⟨?_,?_,?_,?_,?_⟩<;>first|trivial|simp|(rw[h9];omega)|omega)]
  simp only[bx,Nat.mul_one,e3,aop,mE,aTW,aTV,aUf]
def aSG {i:Nat}{s:T}{H:Hp}{o:List Nat}(h:Gu i s H o):∃bs,oS H s=Z (.one (aB o),bs):=by
 obtain⟨hl,⟨rfl,rfl,rfl⟩|⟨hp,E,rfl,rfl⟩⟩:=h
 ·have:o=[]:=List.eq_nil_of_length_eq_zero hl
  subst this
  exact⟨_,rfl⟩
 ·subst hl
  refine⟨[E.length],?_⟩
  show(match fz (E++[Z (.cells (aJ o))]) 8 (.lsl E.length 0 o.length 1)with|some (c,bs)=>Z (V1.one c,bs)|none=>U)=_
  have:fz (E++[Z (.cells (aJ o))]) 8 (.lsl E.length 0 o.length 1)=Z (aB o,[E.length]):=by
   simp only[fz,bk,h9,Nat.mul_one,aUe,aTS,if_true,List.drop_zero,il,List.take_length,sk]
  rw[this]
end
end Go.Mach
namespace Go.Proofs.YtfiijelajgifiaaGreat
noncomputable section
open Go Go.Mach Go.Flow
set_option maxRecDepth 100000
set_option maxHeartbeats 4000000
def Irp (a b:List Nat)(i:Nat)(st:St):Prop:=
 ∃(o:List Nat) (c:Nat) (s4 t5 t6 t7 t8:T) (H:Hp) (W:List Nat),st=⟨[wT c,iT i,aT a,aT b,s4,t5,t6,t7,t8],H,[],W,[]⟩∧Gu i s4 H o∧lims o∧c<2∧i≤max a.length b.length+1∧
  val o+4294967296 ^ i*c=val (a.take i)+val (b.take i)∧(max a.length b.length<i→4294967296 ^ max a.length b.length≤val a+val b)
def aAX {a b:List Nat}(ha:lims a)(hb:lims b)(hn:a.length<1000000)(hm:b.length<1000000){i:Nat}{st:St}(h:Irp a b i st)(fl:Nat)(cf:av):
  (∃i' st',am cf fl yF st=Z (.normal,st')∧Irp a b i' st'∧max a.length b.length+2-i'<max a.length b.length+2-i)∨(∃x st',am cf fl yF st=Z (x,st')∧x≠.normal∧x=.exit 0∧∃i,Irp a b i st'∧a.length≤i∧b.length≤i∧st'.τ.head?=Z (wT 0)):=by
 obtain⟨o,c,s4,t5,t6,t7,t8,H,W,rfl,hG,lo,hc,him,hv,htop⟩:=h
 have hol:=hG.1
 have e1:i+1<9223372036854775808:=by omega
 by_cases hgo:i<a.length∨i<b.length∨0<c
 ·left
  obtain⟨x,hx,hxs,hxv⟩:∃y,y<4294967296∧(i<a.length→a.drop i=y::a.drop (i+1))∧(¬i<a.length→y=0):=by
   by_cases hib:i<a.length
   ·exact⟨_,ha _ (aUl hib),fun _=>aA hib,fun h=>absurd hib h⟩
   ·exact⟨0,by omega,fun h=>absurd h hib,fun _=>rfl⟩
  obtain⟨y,hy,hys,hyv⟩:∃y,y<4294967296∧(i<b.length→b.drop i=y::b.drop (i+1))∧(¬i<b.length→y=0):=by
   by_cases hib:i<b.length
   ·exact⟨_,hb _ (aUl hib),fun _=>aA hib,fun h=>absurd hib h⟩
   ·exact⟨0,by omega,fun h=>absurd h hib,fun _=>rfl⟩
  have vx:val (a.take (i+1))=val (a.take i)+4294967296 ^ i*x:=by
   by_cases hib:i<a.length
   ·have h1:=hxs hib
    rw[aA hib]at h1
    exact bG (by rw[aTX hib];exact congrArg Z (List.cons.inj h1).1)
   ·rw[hxv hib,aUi (by omega),aUi (by omega)];simp
  have vy:val (b.take (i+1))=val (b.take i)+4294967296 ^ i*y:=by
   by_cases hib:i<b.length
   ·have h1:=hys hib
    rw[aA hib]at h1
    exact bG (by rw[aTX hib];exact congrArg Z (List.cons.inj h1).1)
   ·rw[hyv hib,aUi (by omega),aUi (by omega)];simp
  have him':i+1≤max a.length b.length+1:=by
   rcases hgo with h|h|h
   ·omega
   ·omega
   ·rcases aT6 (max a.length b.length) i with h2|h2
    ·exfalso
     have h3:i=max a.length b.length+1:=by omega
     have h4:val (a.take i)+val (b.take i)<4294967296 ^ i:=by
      rw[aUi (by omega),aUi (by omega),h3]
      have a1:4294967296 ^ a.length≤4294967296 ^ max a.length b.length:=Nat.pow_le_pow_right (by omega) (Nat.le_max_left _ _)
      have a2:4294967296 ^ b.length≤4294967296 ^ max a.length b.length:=Nat.pow_le_pow_right (by omega) (Nat.le_max_right _ _)
      have:=bL ha
      have:=bL hb
      rw[Nat.pow_succ]
      omega
     have h5:4294967296 ^ i*1≤4294967296 ^ i*c:=Nat.mul_le_mul_left _ h
     omega
    ·omega
  have htop':max a.length b.length<i+1→4294967296 ^ max a.length b.length≤val a+val b:=by
   intro h
   have h1:i=max a.length b.length:=by omega
   have hc0:0<c:=by omega
   rw[aUi (by omega),aUi (by omega)]at hv
   rw[← h1]
   have h5:4294967296 ^ i*1≤4294967296 ^ i*c:=Nat.mul_le_mul_left _ hc0
   omega
  obtain⟨s',H',ea,hG'⟩:=aB1 hG (by omega) ((c+x+y)%4294967296)
  have key:∀t5 t6 t7 W,Irp a b (i+1) ⟨[wT ((c+x+y)/4294967296),iT (i+1),aT a,aT b,s',t5,t6,t7,t8],H',[],W,[]⟩:=by
   intro t5 t6 t7 W
   refine⟨_,_,_,_,_,_,_,_,_,rfl,hG',lo.append (fun d hd=>by simp at hd;omega),by omega,him',?_,htop'⟩
   rw[fh,ke,hol,vx,vy,Nat.pow_succ]
   have m:=Nat.mod_add_div (c+x+y) 4294967296
   have m2:4294967296 ^ i*((c+x+y)%4294967296)+4294967296 ^ i*4294967296*((c+x+y)/4294967296)=4294967296 ^ i*c+4294967296 ^ i*x+4294967296 ^ i*y:=by
    rw[aUk,← aT4,m,aT4,aT4]
   omega
  have f1:x<18446744073709551616:=by omega
  have f2:y<18446744073709551616:=by omega
  have f3:c+x<18446744073709551616:=by omega
  have f4:c+x+y<18446744073709551616:=by omega
  have f5:(c+x+y)/4294967296%18446744073709551616=(c+x+y)/4294967296:=by omega
  have f6:(c+x)%18446744073709551616=c+x:=by omega
  have f7:(c+x+y)%18446744073709551616=c+x+y:=by omega
  have f8:(c+y)%18446744073709551616=c+y:=by omega
  have f9:c%18446744073709551616=c:=by omega
  by_cases hia:i<a.length
  ·have da:=hxs hia
   by_cases hib:i<b.length
   ·have db:=hys hib
    simp(maxSteps:=9^9) only[xD,seval,-ac,-ae,xK,ar,hia,hib,da,db,e1,ea,f1,f2,f3,f4,f5,f6,f7,f8,f9]
    exact⟨i+1,_,rfl,key _ _ _ _,by omega⟩
   ·have h0:=hyv hib
    subst h0
    simp only[Nat.add_zero]at ea key f3 f4 f5
    simp(maxSteps:=9^9) only[xD,seval,-ac,-ae,xK,ar,hia,hib,da,e1,ea,f1,f2,f3,f4,f5,f6,f7,f8,f9]
    exact⟨i+1,_,rfl,key _ _ _ _,by omega⟩
  ·have h0:=hxv hia
   subst h0
   simp only[Nat.add_zero]at ea key f3 f4 f5
   by_cases hib:i<b.length
   ·have db:=hys hib
    simp(maxSteps:=9^9) only[xD,seval,-ac,-ae,xK,ar,hia,hib,db,e1,ea,f1,f2,f3,f4,f5,f6,f7,f8,f9]
    exact⟨i+1,_,rfl,key _ _ _ _,by omega⟩
   ·have h0:=hyv hib
    subst h0
    simp only[Nat.add_zero]at ea key f3 f4 f5
    have hc1:0<c:=by omega
    simp(maxSteps:=9^9) only[xD,seval,-ac,-ae,xK,ar,hia,hib,hc1,e1,ea,f1,f2,f3,f4,f5,f6,f7,f8,f9]
    exact⟨i+1,_,rfl,key _ _ _ _,by omega⟩
 ·right
  have h1:(i<a.length)=False:=eq_false (by omega)
  have h2:(i<b.length)=False:=eq_false (by omega)
  have h3:c=0:=by omega
  subst h3
  simp(maxSteps:=9^9) only[az,seval,-ac,-ae,xK,ar,h1,h2]
  exact⟨_,_,rfl,by simp,rfl,i,⟨_,_,_,_,_,_,_,_,_,rfl,hG,lo,hc,him,hv,htop⟩,by omega,by omega,rfl⟩
def aIM {l:List Nat}(h:lims l)(hv:l=[]∨4294967296 ^ (l.length-1)≤val l):gn l:=by
 intro d hd
 rcases hv with rfl|hv
 ·cases hd
 ·rintro rfl
  have e:l=l.dropLast++[0]:=by
   rw[List.getLast?_eq_some_iff]at hd
   obtain⟨ys,rfl⟩:=hd
   simp
  rw[e,fh,ke]at hv
  have h2:lims l.dropLast:=fun d hd=>h d (List.dropLast_subset _ hd)
  have h3:=bL h2
  simp at hv h3
  omega
def aMl {a b:List Nat}(ha:lims a)(hb:lims b)(ca:gn a)(cb:gn b)(hn:a.length<1000000)(hm:b.length<1000000):
  bM (ao tN.tb 10 8) 2000001 afU.1 [.one (aB a),.one (aB b)]=Z [.one (aB (ax (val a+val b)))]:=by
 have hcf:∀cf:av,∃st',aG (am cf 2000001 yF) 2000001 ⟨[wT 0,iT 0,aT a,aT b,.t (.one .z0),.nil,.nil,.nil,.t (.one (.c (.v (.slice U 0 0))))],[],[],[],[]⟩=Z (.exit 0,st')∧∃(o:List Nat) (i:Nat) (s4 t5 t6 t7 t8:T) (H:Hp) (W:List Nat),st'=⟨[wT 0,iT i,aT a,aT b,s4,t5,t6,t7,t8],H,[],W,[]⟩∧Gu i s4 H o∧o=ax (val a+val b):=by
  intro cf
  obtain⟨x,st',h1,_,rfl,i,hI,hia,hib,h4⟩:=bg (Irp a b) (fun i=>max a.length b.length+2-i) (fun x st'=>x=.exit 0∧∃i,Irp a b i st'∧a.length≤i∧b.length≤i∧st'.τ.head?=Z (wT 0)) (fun j st h=>aAX ha hb hn hm h 2000001 cf) 2000001 0 _ ⟨[],0,_,_,_,_,_,_,_,rfl,⟨rfl,.inl ⟨rfl,rfl,rfl⟩⟩,fun d hd=>(by cases hd),by omega,by omega,by simp[val],fun h=>by omega⟩ (by omega)
  obtain⟨o,c,s4,t5,t6,t7,t8,H,W,rfl,hG,lo,hc,him,hv,htop⟩:=hI
  have hc0:c=0:=by
   have:=Option.some.inj h4
   injection this with h;injection h with h;injection h with h;injection h with h;injection h with h5 h;injection h
  subst hc0
  refine⟨_,h1,o,i,_,_,_,_,_,_,_,rfl,hG,?_⟩
  rw[aUi hia,aUi hib,Nat.mul_zero,Nat.add_zero]at hv
  rw[← hv]
  refine(tV lo (aIM lo ?_)).symm
  have hl:=hG.1
  rcases aT6 (max a.length b.length) i with h|h
  ·right
   have:=htop h
   rw[hl,hv,show i-1=max a.length b.length by omega];exact this
  ·rcases jW ca with rfl|h5
   ·rcases jW cb with rfl|h6
    ·left;exact List.eq_nil_of_length_eq_zero (by simp at h;omega)
    ·right;rw[hl,hv,show i=b.length by simp at h;omega];omega
   ·rcases aT6 a.length b.length with h7|h7
    ·rcases jW cb with rfl|h6
     ·simp at h7
     ·right;rw[hl,hv,show i=b.length by omega];omega
    ·right;rw[hl,hv,show i=a.length by omega];omega
 obtain⟨st',hl,o,i,s4,t5,t6,t7,t8,H,W,rfl,hG,rfl⟩:=hcf (ao tN.tb 10 8)
 generalize ao tN.tb 10 8=cf at hl ⊢
 obtain⟨hl',⟨rfl,rfl,rfl⟩|⟨hp,E,rfl,rfl⟩⟩:=hG
 ·have hz:ax (val a+val b)=[]:=List.eq_nil_of_length_eq_zero hl'
  simp(maxSteps:=9^9) only[az,seval,-ac,-ae,aH5,hl,hz,ar,aB]
 ·generalize ax (val a+val b)=o at hl hl' ⊢
  subst hl'
  simp(maxSteps:=9^9) only[az,seval,-ac,-ae,aH5,hl,ar,bk,h9,Nat.mul_one,aUe,aTS,List.drop_zero,il,List.take_length,sk]
def rN {z:Int}(h1 : -9223372036854775808≤z)(h2:z<9223372036854775808):IntKind.wrap .i64 z=z:=by
 simp only[IntKind.wrap,IntKind.bits,IntKind.signed]
 simp
 omega
def alh {x y:Nat}(hx:x<4294967296)(hy:y<4294967296):
  (y≤x∧IntKind.wrap .i64 (af x-af y)=af (x-y))∨(x<y∧IntKind.wrap .i64 (af x-af y)=aT2 (y-x-1)):=by
 rw[rN (by simp only[aT7];omega) (by simp only[aT7];omega)]
 rcases aT6 x y with h|h
 ·right;exact⟨h,by simp only[aT7];omega⟩
 ·left;exact⟨h,by simp only[aT7];omega⟩
def afm (m:Nat):(aT2 m<af 0)=True:=eq_true (Int.negSucc_lt_zero m)
def aFK (m N:Nat)(h:m<N):aT2 m+af N=af (N-1-m):=by simp only[aT7];omega
def lP {n:Nat}(h:n<9223372036854775808):IntKind.wrap .i64 (af n)=af n:=rN (by simp only[aT7];omega) (by simp only[aT7];omega)
def aeH {m N:Nat}(h:m<N)(h2:N<9223372036854775808):b9 .add .i64 (aT2 m) (af N)=Z (.int .i64 (af (N-1-m))):=by
 rw[ags,aFK m N h,lP (by omega)]
def Irm (a b:List Nat)(i:Nat)(st:St):Prop:=
 ∃(o:List Nat) (c:Nat) (t0 s3 t6 t7 t8:T) (H:Hp) (W:List Nat),st=⟨[t0,iT i,iT c,s3,aT a,aT b,t6,t7,t8,.t (.one (.c (.v (.slice U 0 0))))],H,[],W,[]⟩∧Gu i s3 H o∧lims o∧c<2∧
  val o+val (b.take i)=val (a.take i)+4294967296 ^ i*c
def aGS {a b:List Nat}(ha:lims a)(hb:lims b)(hn:a.length<1000000)(hm:b.length≤a.length){i:Nat}{st:St}(hi:i<a.length)(h:Irm a b i st)(fl:Nat)(cf:av):
  ∃st',am cf fl yG st=Z (.normal,st')∧Irm a b (i+1) st':=by
 obtain⟨o,c,t0,s3,t6,t7,t8,H,W,rfl,hG,lo,hc,hv⟩:=h
 have hol:=hG.1
 have e1:i+1<9223372036854775808:=by omega
 have da:=aA hi
 have la:=ha _ (aUl hi)
 obtain⟨y,hy,hys,hyv⟩:∃y,y<4294967296∧(i<b.length→b.drop i=y::b.drop (i+1))∧(¬i<b.length→y=0):=by
  by_cases hib:i<b.length
  ·exact⟨_,hb _ (aUl hib),fun _=>aA hib,fun h=>absurd hib h⟩
  ·exact⟨0,by omega,fun h=>absurd h hib,fun _=>rfl⟩
 have hval:val (b.take (i+1))=val (b.take i)+4294967296 ^ i*y:=by
  by_cases hib:i<b.length
  ·have h1:=hys hib
   rw[aA hib]at h1
   exact bG (by rw[aTX hib];exact congrArg Z (List.cons.inj h1).1)
  ·rw[hyv hib,aUi (by omega),aUi (by omega)];simp
 obtain⟨s',H',ea,hG'⟩:=aB1 hG (by omega) ((a[i]+4294967296-y-c)%4294967296)
 have key:∀t0 t6 t7 t8 W,Irm a b (i+1) ⟨[t0,iT (i+1),iT (if a[i]<y+c then 1 else 0),s',aT a,aT b,t6,t7,t8,.t (.one (.c (.v (.slice U 0 0))))],H',[],W,[]⟩:=by
  intro t0 t6 t7 t8 W
  refine⟨_,_,_,_,_,_,_,_,_,rfl,hG',lo.append (fun d hd=>by simp at hd;omega),by split<;>omega,?_⟩
  rw[fh,ke,hol,hval,bG (aTX hi),Nat.pow_succ]
  have e:(a[i]+4294967296-y-c)%4294967296+y+c=a[i]+4294967296*(if a[i]<y+c then 1 else 0):=by split<;>omega
  have e2:4294967296 ^ i*((a[i]+4294967296-y-c)%4294967296)+4294967296 ^ i*y+4294967296 ^ i*c=4294967296 ^ i*a[i]+4294967296 ^ i*4294967296*(if a[i]<y+c then 1 else 0):=by
   rw[aUk,← aT4,← aT4,← aT4,e]
  omega
 have q1:a[i]<9223372036854775808:=by omega
 have q2:y<9223372036854775808:=by omega
 rcases alh la (show c<4294967296 by omega)with⟨h1,w1⟩|⟨h1,w1⟩
 ·by_cases hib:i<b.length
  ·have db:=hys hib
   rcases alh (show a[i]-c<4294967296 by omega) hy with⟨h2,w2⟩|⟨h2,w2⟩
   ·have k1:(a[i]+4294967296-y-c)%4294967296=(a[i]-c-y)%4294967296:=by omega
    have k2:(if a[i]<y+c then 1 else 0)=0:=if_neg (by omega)
    rw[k1]at ea
    rw[k2]at key
    simp(maxSteps:=9^9) only[xD,seval,-ac,-ae,tG,ar,hi,hib,e1,da,db,ea,q1,q2,w1,w2]
    exact⟨_,rfl,key _ _ _ _ _⟩
   ·obtain⟨z,r,w3,k0,k3,kr⟩:∃(z:Int) (r:Nat),IntKind.wrap .i64 (af (a[i]-c)-af y)=z∧((z<af 0)=True)∧b9 .add .i64 z (af 4294967296)=Z (.int .i64 (af r))∧r%4294967296=(a[i]+4294967296-y-c)%4294967296:=⟨_,_,w2,afm _,aeH (by omega) (by omega),by omega⟩
    have k2:(if a[i]<y+c then 1 else 0)=1:=if_pos (by omega)
    rw[← kr]at ea
    rw[k2]at key
    simp(maxSteps:=9^9) only[xD,seval,-ac,-ae,tG,ar,hi,hib,e1,da,db,ea,q1,q2,w1,w3,k0,k3]
    exact⟨_,rfl,key _ _ _ _ _⟩
  ·have hy0:=hyv hib
   subst hy0
   have k1:(a[i]+4294967296-0-c)%4294967296=(a[i]-c)%4294967296:=by omega
   have k2:(if a[i]<0+c then 1 else 0)=0:=if_neg (by omega)
   rw[k1]at ea
   rw[k2]at key
   simp(maxSteps:=9^9) only[xD,seval,-ac,-ae,tG,ar,hi,hib,e1,da,ea,q1,q2,w1]
   exact⟨_,rfl,key _ _ _ _ _⟩
 ·by_cases hib:i<b.length
  ·have db:=hys hib
   have w2:IntKind.wrap .i64 (aT2 (c-a[i]-1)-af y)=aT2 (c-a[i]-1+y):=by
    rw[rN (by simp only[aT7];omega) (by simp only[aT7];omega)]
    simp only[aT7];omega
   obtain⟨z,r,w3,k0,k3,kr⟩:∃(z:Int) (r:Nat),IntKind.wrap .i64 (aT2 (c-a[i]-1)-af y)=z∧((z<af 0)=True)∧b9 .add .i64 z (af 4294967296)=Z (.int .i64 (af r))∧r%4294967296=(a[i]+4294967296-y-c)%4294967296:=⟨_,_,w2,afm _,aeH (by omega) (by omega),by omega⟩
   have k2:(if a[i]<y+c then 1 else 0)=1:=if_pos (by omega)
   rw[← kr]at ea
   rw[k2]at key
   simp(maxSteps:=9^9) only[xD,seval,-ac,-ae,tG,ar,hi,hib,e1,da,db,ea,q1,q2,w1,w3,k0,k3]
   exact⟨_,rfl,key _ _ _ _ _⟩
  ·have hy0:=hyv hib
   subst hy0
   obtain⟨z,r,w3,k0,k3,kr⟩:∃(z:Int) (r:Nat),IntKind.wrap .i64 (af a[i]-af c)=z∧((z<af 0)=True)∧b9 .add .i64 z (af 4294967296)=Z (.int .i64 (af r))∧r%4294967296=(a[i]+4294967296-0-c)%4294967296:=⟨_,_,w1,afm _,aeH (by omega) (by omega),by omega⟩
   have k2:(if a[i]<0+c then 1 else 0)=1:=if_pos (by omega)
   rw[← kr]at ea
   rw[k2]at key
   simp(maxSteps:=9^9) only[xD,seval,-ac,-ae,tG,ar,hi,hib,e1,da,ea,q1,q2,w3,k0,k3]
   exact⟨_,rfl,key _ _ _ _ _⟩
def aEG {a b:List Nat}(hn:a.length<2000000){st:St}(h:Irm a b a.length st)(fl:Nat)(cf:av):
  ∃st',am cf fl yG st=Z (.exit 0,st')∧Irm a b a.length st':=by
 obtain⟨o,c,t0,s3,t6,t7,t8,H,W,rfl,h⟩:=h
 simp(maxSteps:=9^9) only[az,seval,-ac,-ae,tG,ar]
 exact⟨_,rfl,_,_,_,_,_,_,_,_,_,rfl,h⟩
def aMk {a b:List Nat}(ha:lims a)(hb:lims b)(hn:a.length<1000000)(hm:b.length≤a.length)(hv:val b≤val a):
  bM (ao tN.tb 10 8) 2000001 afV.1 [.one (aB a),.one (aB b)]=Z [.one (aB (aU a.length (val a-val b)))]:=by
 have hcf:∀cf:av,∃st',aG (am cf 2000001 yG) 2000001 ⟨[.nil,iT 0,iT 0,.t (.one .z0),aT a,aT b,.nil,.nil,.nil,.t (.one (.c (.v (.slice U 0 0))))],[],[],[],[]⟩=Z (.exit 0,st')∧Irm a b a.length st':=by
  intro cf
  exact bq a.length (Irm a b) (Irm a b a.length) (fun i st hi h=>aGS ha hb (by omega) hm hi h 2000001 cf) (fun st h=>aEG (by omega) h 2000001 _) 2000001 _ ⟨[],0,_,_,_,_,_,_,_,rfl,⟨rfl,.inl ⟨rfl,rfl,rfl⟩⟩,fun d hd=>(by cases hd),by omega,by simp[val]⟩ (by omega)
 obtain⟨st,hl,o,c,t0,s3,t6,t7,t8,H,W,rfl,hG,lo,hc,hI⟩:=hcf (ao tN.tb 10 8)
 have ho:=hG.1
 have hd:o=aU a.length (val a-val b):=by
  rw[aUi hm,aUi (aTS _)]at hI
  have h1:=bL lo
  rw[ho]at h1
  refine lz lo ho ?_
  have hc0:c=0∨c=1:=by omega
  rcases hc0 with rfl|rfl
  ·omega
  ·rw[Nat.mul_one]at hI;omega
 subst hd
 generalize ao tN.tb 10 8=cf at hl ⊢
 obtain⟨hl',⟨h0,rfl,rfl⟩|⟨hp,E,rfl,rfl⟩⟩:=hG
 ·have hz:a=[]:=List.eq_nil_of_length_eq_zero h0
  have hz2:aU a.length (val a-val b)=[]:=by rw[h0];rfl
  simp(maxSteps:=9^9) only[az,seval,-ac,-ae,aH6,hl,hz2,ar,aB]
 ·generalize aU a.length (val a-val b)=o at hl ho ⊢
  rw[← ho]at hl hp
  simp(maxSteps:=9^9) only[az,seval,-ac,-ae,aH6,hl,ar,bk,h9,Nat.mul_one,aUe,aTS,List.drop_zero,il,List.take_length,sk]
def rpB:List V1→Option (List V1):=xV fun x y=>Z [cX (x+y)]
def aGu {k:Cls}:Cn k 249 rpB:=bZ (ay aa9 afU.2 10 2000001 8) fun al rs h=>by
 obtain⟨x,y,rfl,hx,hy,h⟩:=qh h
 cases h
 refine⟨_,_,mZ x y,aMl (aI x) (aI y) (cn x) (cn y) (by omega) (by omega),?_⟩
 rw[aD,aD]
 exact .cons (mY (qA _)) .nil
def aPj {x y:Nat}(hx:aj x<8388608)(hy:aj y<8388608):rpB [cX x,cX y]=Z [cX (x+y)]:=by unfold rpB;rw[vM hx hy]
def rmB:List V1→Option (List V1):=xV fun x y=>match aTQ y x with|true=>Z [.one (aB (aU (ax x).length (x-y)))]|false=>U
def aGj {k:Cls}:Cn k 250 rmB:=bZ (ay aa9 afV.2 10 2000001 8) fun al rs h=>by
 obtain⟨x,y,rfl,hx,hy,h⟩:=qh h
 split at h
 ·rename_i hc
  cases h
  rw[Nat.ble_eq]at hc
  refine⟨_,_,mZ x y,aMk (aI x) (aI y) (by omega) (jq hc) (by rw[aD,aD];exact hc),?_⟩
  rw[aD,aD]
  exact Imps.refl _
 ·cases h
def aDu {x y:Nat}(hx:aj x<8388608)(hy:aj y<8388608)(h0:y≤x):rmB [cX x,cX y]=Z [.one (aB (aU (ax x).length (x-y)))]:=by
 unfold rmB;rw[vM hx hy]
 have hc:aTQ y x=ab:=by rw[Nat.ble_eq];exact h0
 simp only[hc]
def orN (m n:List V1→Option (List V1)):List V1→Option (List V1):=fun al=>match m al with|some r=>Z r|none=>n al
def aFS {P:Program}{k:Cls}{g:FuncId}{m n:List V1→Option (List V1)}(hm:ko P k g m)(hn:ko P k g n):ko P k g (orN m n):=
 ⟨hm.1,fun al rs h=>by
  unfold orN at h
  split at h
  ·rename_i r hr
   cases h
   exact hm.2 al _ hr
  ·exact hn.2 al rs h⟩
def aph {n:Nat}(h:aj n<20000000):(ax n).length<1000000:=by
 rcases aUc n with rfl|hn
 ·exact(by decide:(0:Nat)<1000000)
 ·have a1:4294967296 ^ ((ax n).length-1)≤n:=by
   rcases jW (cn n)with h1|h1
   ·have:=qn.1 h1;omega
   ·rw[aD]at h1;exact h1
  have a2:=lgA (k:=20000000) h
  have a3:(4294967296:Nat)=2 ^ 32:=by decide
  rw[a3,← Nat.pow_mul]at a1
  have:=(Nat.pow_lt_pow_iff_right (a:=2) (by omega)).1 (aUh a1 a2)
  omega
def ahM:List V1→Option (List V1)
 |[.one (.big n),.one (.v (.bool b))]=>match ah (aj n) 20000000 with|true=>Z [cI (b&&ah 0 n) n]|false=>U
 |_=>U
def au2 {k:Cls}:Cn k 207 ahM:=bZ (ay aa9 act.2 10 2000001 8) fun al rs h=>by
 unfold ahM at h
 split at h
 ·rename_i n b
  split at h
  ·rename_i hc
   cases h
   have hn:=aph (n:=n) (by simpa using hc)
   refine⟨_,_,.cons (mY (j4 n)) (.cons (.refl _) .nil),ajI (aI n) b (by omega),?_⟩
   rw[aD,mO]
   exact .cons (j3 (.cons (.refl _) (.cons (qA _) .nil))) .nil
  ·cases h
 ·cases h
def cG:List V1→Option (List V1):=orN aaS ahM
def lF {k:Cls}:Cn k 207 cG:=aFS au1 au2
def m6 {l:List Nat}(hl:lims l)(b:Bool)(h1:l.length<1000000):cG [.one (aB l),.one (.v (.bool b))]=Z [cI (b&&ah 0 (val l)) (val l)]:=by
 unfold cG orN;rw[aFh hl b h1]
def m5 {n:Nat}(h:aj n<20000000)(b:Bool):cG [cX n,.one (.v (.bool b))]=Z [cI (b&&ah 0 n) n]:=by
 have hc:ah (aj n) 20000000=ab:=by simpa using h
 have h0:aaS [cX n,.one (.v (.bool b))]=U:=rfl
 unfold cG orN;rw[h0]
 simp only[ahM,hc]
def yV {x k:Nat}(h:aj x<k):x<2 ^ k:=by
 rcases aUc x with rfl|hp
 ·exact Nat.pow_pos (by omega)
 ·exact(Nat.log2_lt (by omega)).1 h
def ol {x k:Nat}(h:x<2 ^ k)(hk:0<k):aj x<k:=by
 rcases aUc x with rfl|hp
 ·rw[show aj 0=0 from by decide];exact hk
 ·exact(Nat.log2_lt (by omega)).2 h
def yU {x y k:Nat}(hx:aj x<k)(hy:aj y<k):aj (x+y)<k+1:=by
 have h1:=yV hx
 have h2:=yV hy
 exact ol (by rw[Nat.pow_succ];omega) (by omega)
def ayy {x y:Nat}(hx:aj x<8388608)(hy:aj y<8388608):aj (x+y)<20000000:=aUj (yU hx hy) (by omega)
def tR1:Ft:=.n (.n .z 206 (.nat mf) U .z) 207 (.nat cG) U (.n .z 249 (.nat rpB) U (.n .z 250 (.nat rmB) U .z))
def aeu {k:Cls}:tR1.Ok Tryz.prog k aH:=⟨⟨tv,agJ,tv,tv⟩,lF,tv,tv,aGu,tv,tv,aGj,tv,tv⟩
def aFL (a:Int):cI (!aw a&&ah 0 (ap a)) (ap a)=gI (-a):=by
 rw[pR (z := -a) (by simp only[dZ,Int.natAbs_neg]) ?_]
 intro hp
 match a with
 |.ofNat (m+1)=>rfl
 |.ofNat 0=>simp[ap]at hp
 |.negSucc m=>rfl
def wU {k:Cls}:Cn k 252 gv:=aC (ay aeu azW.2 10 10 8) fun al rs h=>by
 obtain⟨a,rfl,ha,rfl⟩:=ut h
 unfold aE at ha
 have e:=m5 (n:=ap a) (by omega) (!aw a)
 rw[aFL]at e
 unfold gI at e ⊢
 simp(maxSteps:=9^9) only[az,seval,-ac,-ae,aQ6,tR1,ar,e]
def awl (b:Bool)(l:List Nat)(hn:l.length<1000000):bM (ao (Ft.tb .z) 10 8) 10 aqH.1 [aL b l]=Z [.one (.v (.int .i64 (match ah 0 l.length with|false=>.ofNat 0|true=>match b with|true=>.negSucc 0|false=>.ofNat 1)))]:=by
 rcases aUc l.length with h|h
 ·have:l=[]:=List.eq_nil_of_length_eq_zero h
  subst this
  cases b<;>rfl
 ·have e:ah 0 l.length=ab:=by simpa using h
  have e2:(l.length==0)=aa:=by simp only[beq_eq_false_iff_ne,ne_eq];omega
  rw[e]
  cases b<;>simp(maxSteps:=9^9) only[az,seval,-ac,-ae,aQJ,ar,e2]
def oB {k:Cls}:Cn k 204 cr:=bZ (ay (t:=.z) trivial aqH.2 10 10 8) fun al rs h=>by
 obtain⟨a,rfl,ha,rfl⟩:=ut h
 have la:=fe ha
 refine⟨_,_,aaJ a,awl _ _ (by omega),?_⟩
 rw[mO]
 match a with
 |.ofNat (m+1)=>exact Imps.refl _
 |.ofNat 0=>exact Imps.refl _
 |.negSucc m=>exact Imps.refl _
def wS {k:Cls}:Cn k 220 gH:=aC (ay aeu azO.2 10 10 8) fun al rs h=>by
 obtain⟨a,b,rfl,ha,hb,rfl⟩:=l7 h
 have hi:=amg a b
 unfold aE at ha hb
 have e1:=aPj ha hb
 have e2:=fun q=>m5 (ayy ha hb) q
 have e3:=aaQ ha hb
 have la:=fe ha
 have lb:=fe hb
 have e4:ap b≤ap a→_:=fun h=>aDu ha hb h
 have e5:ap a≤ap b→_:=fun h=>aDu hb ha h
 have e6:∀(x y:Nat) (q:Bool),(ax x).length<300000→y≤x→cG [.one (aB (aU (ax x).length (x-y))),.one (.v (.bool q))]=Z [cI (q&&ah 0 (x-y)) (x-y)]:=by
  intro x y q h1 h2
  have h3:=m6 (ft (ax x).length (x-y)) q (by rw[aQ];omega)
  have h4:=bL (aI x)
  rw[aD]at h4
  rw[go _ _ (by omega)]at h3
  exact h3
 simp only[aB,aQ]at e4 e5 e6
 generalize gI (a+b)=g at hi ⊢
 unfold gI cI at*
 generalize aw a=p at*
 generalize aw b=q at*
 generalize ap a=x at*
 generalize ap b=y at*
 cases hb:(p==q)
 ·rw[hb]at hi
  cases hl:ah x y
  ·rw[hl]at hi e3
   have hle:y≤x:=by rw[Bool.eq_false_iff]at hl;simpa using hl
   have e4:=e4 hle
   have e6:=e6 x y p la hle
   subst hi
   cases p<;>cases q<;>first|(cases hb;done)|simp(maxSteps:=9^9) only[az,seval,-ac,-ae,aw7,tR1,ar,aQ,e3,e4,e6]
  ·rw[hl]at hi e3
   have hle:x≤y:=by
    have:x<y:=by simpa using hl
    omega
   have e5:=e5 hle
   have e6:=e6 y x q lb hle
   subst hi
   cases p<;>cases q<;>first|(cases hb;done)|simp(maxSteps:=9^9) only[az,seval,-ac,-ae,aw7,tR1,ar,aQ,e3,e5,e6]
 ·rw[hb]at hi
  have e2:=e2 p
  subst hi
  cases p<;>cases q<;>first|(cases hb;done)|simp(maxSteps:=9^9) only[az,seval,-ac,-ae,aw7,tR1,ar,e1,e2]
def tR2:Ft:=.n (.n .z 220 (.nat gH) U .z) 252 (.nat gv) U .z
def aNF {k:Cls}:tR2.Ok Tryz.prog k aH:=⟨⟨tv,wS,tv,tv⟩,wU,tv,tv⟩
def ak0 {k:Cls}:Cn k 275 kX:=aC (ay aNF az9.2 10 10 8) fun al rs h=>by
 obtain⟨a,b,rfl,ha,hb,rfl⟩:=l7 h
 have e1:=ji hb
 have e2:=qx ha (ais hb)
 rw[Int.sub_eq_add_neg]
 unfold gI at e1 e2 ⊢
 simp(maxSteps:=9^9) only[az,seval,-ac,-ae,aRb,tR2,e1,e2]
def wb:List V1→Option (List V1):=ig2 fun a b=>[.one (.v (.bool (a==b)))]
def amQ {a b:Int}(ha:aE a)(hb:aE b):wb [gI a,gI b]=Z [.one (.v (.bool (a==b)))]:=aaH ha hb
def aBa (a b:Int):(a==b)=((aw a==aw b)&&!ah (ap a) (ap b)&&!ah (ap b) (ap a)):=by
 rw[aUp]
 simp only[dZ,agG,aTT,beq_iff_eq,Bool.not_eq_true',decide_eq_decide]
 rw[Bool.eq_false_iff,Bool.eq_false_iff]
 simp only[ne_eq,aTR]
 omega
def ahk {k:Cls}:Cn k 139 wb:=aC (ay aeu azz.2 10 10 8) fun al rs h=>by
 obtain⟨a,b,rfl,ha,hb,rfl⟩:=l7 h
 rw[aBa]
 unfold aE at ha hb
 have e3:=aaQ ha hb
 have e4:=aaQ hb ha
 unfold gI
 generalize aw a=p at*
 generalize aw b=q at*
 generalize ap a=x at*
 generalize ap b=y at*
 generalize ah x y=r1 at*
 generalize ah y x=r2 at*
 cases p<;>cases q<;>cases r1<;>cases r2<;>simp(maxSteps:=9^9) only[az,seval,-ac,-ae,aQm,tR1,ar,e3,e4]<;>rfl
def arq {b:Bool}{n:Nat}(hn:(ax n).length<1000000)(h:b=ab→0<n):bM (ao (Ft.tb .z) 10 8) 10 aqG.1 [aL b (ax n)]=Z [.one (.v (.bool ab))]:=by
 rcases aUc n with rfl|hp
 ·cases b
  ·rfl
  ·exact absurd (h rfl) (by omega)
 ·have hl:=cL hp
  have e0:((ax n).length==0)=aa:=by simp only[beq_eq_false_iff_ne,ne_eq];omega
  have e1:af (ax n).length-af 1=af ((ax n).length-1):=by simp only[aT7];omega
  have e2:(ax n).length-1<(ax n).length:=by omega
  have e3:(ax n).length-1<9223372036854775808:=by omega
  have dd:=aA e2
  have hne:(ax n)[(ax n).length-1]≠0:=cn n _ (by rw[List.getLast?_eq_getElem?];exact aTX e2)
  have e4:((ax n)[(ax n).length-1] != 0)=ab:=by simpa using hne
  have e5:=lP e3
  cases b<;>simp(maxSteps:=9^9) only[az,seval,-ac,-ae,aQI,ar,hl,e0,e1,e2,e3,dd,e4,e5]
def arp {k:Cls}:Cn k 203 ur:=bZ (ay (t:=.z) trivial aqG.2 10 10 8) fun al rs h=>by
 obtain⟨a,rfl,ha,rfl⟩:=ut h
 exact⟨_,_,aaJ a,arq (by have:=fe ha;omega) afo,Imps.refl _⟩
def aCX {n:Nat}(h:n<4294967296)(q:Bool):cG [.one (.sl 2 [.v (.int .u32 (af n)),.v (.int .u32 (af 0))]),.one (.v (.bool q))]=Z [cI (q&&ah 0 n) n]:=by
 have lo:lims [n,0]:=fun d hd=>by
  rcases aTZ.1 hd with rfl|hd
  ·exact h
  ·simp at hd;omega
 have hv:val [n,0]=n:=by simp[val]
 have:=m6 lo q (by show 2<1000000;omega)
 rw[hv]at this
 exact this
def aGk {z:Int}(h:ap z<4294967296):bM (ao tR1.tb 10 8) 10 aqp.1 [.one (.v (.int .i64 z))]=Z [gI z]:=by
 match z with
 |.ofNat n=>
  have h:n<4294967296:=h
  have e0:n/4294967296=0:=Nat.div_eq_of_lt h
  have e1:n<18446744073709551616:=by omega
  have e2:n%4294967296=n:=aT9 h
  have z:(n<0)=False:=eq_false (by omega)
  have eN:=aCX h aa
  simp(maxSteps:=9^9) only[az,seval,-ac,-ae,aHE,tR1,e0,e1,e2,eN,z,cI,gI,aw,ap]
 |.negSucc m=>
  have h:m+1<4294967296:=h
  have e0:(m+1)/4294967296=0:=Nat.div_eq_of_lt h
  have e2:(m+1)%4294967296=m+1:=aT9 h
  have eN:=aCX h ab
  have w1:=aox m (by omega)
  have w2:=aow m (by omega)
  have hb:ah 0 (m+1)=ab:=by simp
  rw[hb]at eN
  simp(maxSteps:=9^9) only[az,seval,-ac,-ae,aHE,tR1,w1,w2,e0,e2,eN,cI,gI,aw,ap]
def aa1 {k:Cls}:Cn k 140 fM:=aC (ay aeu aqp.2 10 10 8) fun al rs h=>by
 unfold fM at h
 split at h
 ·split at h
  ·rename_i hc
   cases h
   exact aGk (by simpa using hc)
  ·cases h
 ·cases h
end
end Go.Proofs.YtfiijelajgifiaaGreat
