/-
  Part 11 of the machine and of the contracts of functions of the program (packed).
-/
import Derived.Test.YtfiijelajgifiaaGreatA10
set_option linter.all false
set_option linter.defProp false
open Bool renaming false→aa,true→ab,and_eq_true→aTT,eq_iff_iff→aUp
open Int renaming reduceOfNat→ac,reduceNegSucc→ae,ofNat→af,negSucc→aT2,ofNat_eq_natCast→aT7
open List renaming getElem?_eq_getElem→aTX,replicate→aT5,drop_length→aUg,take_of_length_le→aUi,getElem_mem→aUl,getElem?_set_ne→aUn,length_take→aUo
open Nat renaming blt→ah,beq→ai,log2→aj,ble→aTQ,blt_eq→aTR,le_refl→aTS,eq_of_beq_eq_true→aT1,mul_add→aT4,lt_or_ge→aT6,mod_eq_of_lt→aT9,eq_zero_or_pos→aUc,zero_add→aUe,lt_of_le_of_lt→aUh,mul_assoc→aUk
open Option renaming some→Z,none→U
namespace Go.Proofs.YtfiijelajgifiaaGreat
noncomputable section
open Go Go.Mach Go.Flow
set_option maxRecDepth 100000
set_option maxHeartbeats 4000000
def aBn {a b c:Nat}(h1:a<4294967296)(h2:b<4294967296)(h3:c<2):aes [dA a,dA b,dA c]=Z [dA ((a+4294967296-b-c)%4294967296),dA (if a<b+c then 1 else 0)]:=by
 show(if _ then _ else _)=_
 rw[if_pos ⟨h1,h2,h3⟩]
def Im (a b:List Nat)(i:Nat)(st:St):Prop:=
 ∃(o:List Nat) (c:Nat) (t0 t2 t5 t6 t10:T) (W:List Nat),st=⟨[t0,iT i,t2,uT c,aT b,t5,t6,aT a,.t (.one (.lsl 0 0 a.length 1)),iT a.length,t10],[Z (.cells (aJ o))],[],W,[]⟩∧
  o.length=a.length∧lims o∧c<2∧val (o.take i)+val (b.take i)=val (a.take i)+4294967296 ^ i*c
def aMN {a b:List Nat}(ha:lims a)(hb:lims b)(hn:a.length<2000000)(hm:b.length≤a.length){i:Nat}{st:St}(hi:i<a.length)(h:Im a b i st)(fl:Nat):
  ∃st',am (ao tB.tb 10 8) fl yJ st=Z (.normal,st')∧Im a b (i+1) st':=by
 obtain⟨o,c,t0,t2,t5,t6,t10,W,rfl,ho,lo,hc,hv⟩:=h
 have e1:i+1<9223372036854775808:=by omega
 have e3:i<o.length:=by omega
 have e3':i+1≤o.length:=by omega
 have da:=aA hi
 have la:=ha _ (aUl hi)
 obtain⟨y,hy,hys,hyv⟩:∃y,y<4294967296∧(i<b.length→b.drop i=y::b.drop (i+1))∧(¬i<b.length→y=0):=by
  by_cases hib:i<b.length
  ·exact⟨_,hb _ (aUl hib),fun _=>aA hib,fun h=>absurd hib h⟩
  ·exact⟨0,by omega,fun h=>absurd h hib,fun _=>rfl⟩
 have hval:val (b.take (i+1))=val (b.take i)+4294967296 ^ i*y:=by
  by_cases hib:i<b.length
  ·have h1:=hys hib
   rw[aA hib]at h1
   exact bG (by rw[aTX hib];exact congrArg Z (List.cons.inj h1).1)
  ·rw[hyv hib,aUi (by omega),aUi (by omega)];simp
 have ea:=aBn la hy hc
 have key:∀t0 t2 t5 t6 W,Im a b (i+1) ⟨[t0,iT (i+1),t2,uT (if a[i]<y+c then 1 else 0),aT b,t5,t6,aT a,.t (.one (.lsl 0 0 a.length 1)),iT a.length,t10],[Z (.cells (aJ (o.set i ((a[i]+4294967296-y-c)%4294967296))))],[],W,[]⟩:=by
  intro t0 t2 t5 t6 W
  refine⟨_,_,_,_,_,_,_,_,rfl,by simpa using ho,lo.set (by omega),by split<;>omega,?_⟩
  rw[pX e3,hval,bG (aTX hi),Nat.pow_succ]
  have e:(a[i]+4294967296-y-c)%4294967296+y+c=a[i]+4294967296*(if a[i]<y+c then 1 else 0):=by split<;>omega
  have e2:4294967296 ^ i*((a[i]+4294967296-y-c)%4294967296)+4294967296 ^ i*y+4294967296 ^ i*c=4294967296 ^ i*a[i]+4294967296 ^ i*4294967296*(if a[i]<y+c then 1 else 0):=by
   rw[aUk,← aT4,← aT4,← aT4,e]
  omega
 by_cases hib:i<b.length
 ·have db:=hys hib
  simp(maxSteps:=9^9) only[az,seval,-ac,-ae,aio,tB,hi,hib,e1,e3,e3',da,db,ea,ar,bY]
  exact⟨_,rfl,key _ _ _ _ _⟩
 ·have hy0:=hyv hib
  subst hy0
  simp only[aUe,Nat.sub_zero]at key
  simp(maxSteps:=9^9) only[az,seval,-ac,-ae,aio,tB,hi,hib,e1,e3,e3',da,ea,ar,bY]
  exact⟨_,rfl,key _ _ _ _ _⟩
def aEE {a b:List Nat}(hn:a.length<2000000){st:St}(h:Im a b a.length st)(fl:Nat)(cf:av):
  ∃st',am cf fl yJ st=Z (.exit 0,st')∧Im a b a.length st':=by
 obtain⟨o,c,t0,t2,t5,t6,t10,W,rfl,h⟩:=h
 simp(maxSteps:=9^9) only[az,seval,-ac,-ae,aio,ar]
 exact⟨_,rfl,_,_,_,_,_,_,_,_,rfl,h⟩
def agS {a b:List Nat}(ha:lims a)(hb:lims b)(hn:a.length<1000000)(hm:b.length≤a.length)(hv:val b≤val a):
  bM (ao tB.tb 10 8) 2000001 acv.1 [.one (aB a),.one (aB b)]=Z [.one (aB (aU a.length (val a-val b)))]:=by
 have hcf:∀cf,cf=ao tB.tb 10 8→∃st',aG (am cf 2000001 yJ) 2000001 ⟨[.nil,iT 0,.nil,uT 0,aT b,.nil,.nil,aT a,.t (.one (.lsl 0 0 a.length 1)),iT a.length,.t (.one (.c (.v (.slice U 0 0))))],[Z (.cells (aJ (aT5 a.length 0)))],[],[],[]⟩=Z (.exit 0,st')∧Im a b a.length st':=by
  rintro cf rfl
  exact bq a.length (Im a b) (Im a b a.length) (fun i st hi h=>aMN ha hb (by omega) hm hi h 2000001) (fun st h=>aEE (by omega) h 2000001 _) 2000001 _ ⟨_,0,_,_,_,_,_,_,rfl,by simp,gQ _,by omega,by simp[val]⟩ (by omega)
 obtain⟨st,hl,o,c,t0,t2,t5,t6,t10,W,rfl,ho,lo,hc,hI⟩:=hcf _ rfl
 have hd:o=aU a.length (val a-val b):=by
  rw[aUi (by omega),aUi hm,aUi (aTS _)]at hI
  have h1:=bL lo
  rw[ho]at h1
  refine lz lo ho ?_
  have hc0:c=0∨c=1:=by omega
  rcases hc0 with rfl|rfl
  ·omega
  ·rw[Nat.mul_one]at hI;omega
 subst hd
 generalize ao tB.tb 10 8=cf at hl ⊢
 have e2:a.length<9223372036854775808:=by omega
 have e3:a.length≤1073741824:=by omega
 have e4:4*a.length≤70368744177664:=by omega
 simp(maxSteps:=9^9) only[az,seval,-ac,-ae,aRa,hl,e2,e3,e4,ar]
def adY:List V1→Option (List V1):=un2 fun a b=>match ah a.length 1000000&&(aTQ b.length a.length&&aTQ (val b) (val a))with|true=>Z [.one (aB (aU a.length (val a-val b)))]|false=>U
def apR {k:Cls}:Cn k 273 adY:=aC (ay arM acv.2 10 2000001 8) fun al rs h=>by
 obtain⟨a,b,rfl,ha,hb,h⟩:=aew h
 split at h
 ·rename_i hc
  cases h
  rw[aTT,aTT,aTR,Nat.ble_eq,Nat.ble_eq]at hc
  exact agS ha hb hc.1 hc.2.1 hc.2.2
 ·cases h
def ajT {a b:List Nat}(ha:lims a)(hb:lims b)(h1:a.length<1000000)(h2:b.length≤a.length)(h3:val b≤val a):adY [.one (aB a),.one (aB b)]=Z [.one (aB (aU a.length (val a-val b)))]:=by
 unfold adY;rw[ah3 ha hb]
 have hc:(ah a.length 1000000&&(aTQ b.length a.length&&aTQ (val b) (val a)))=ab:=by rw[aTT,aTT,aTR,Nat.ble_eq,Nat.ble_eq];exact⟨h1,h2,h3⟩
 simp only[hc]
def tN:Ft:=.z
def aa9 {k:Cls}:tN.Ok Tryz.prog k aH:=tv
abbrev bT (b:Bool):T:=.t (.one (.c (.v (.bool b))))
abbrev cI (b:Bool)(n:Nat):V1:=.agg [.v (.bool b),.big n]
def In (l:List Nat)(b:Bool)(j:Nat)(st:St):Prop:=
 ∃(t1 t2:T),st=⟨[iT j,t1,t2,aT l,.t (.one (.ptr 0 0)),bT b],[Z (.cells [.c (.v (.bool aa)),.c (.v (.slice U 0 0))])],[],[],[]⟩∧j≤l.length∧val (l.take j)=val l
def aGr {l:List Nat}(hl:lims l){b:Bool}(hn:l.length<2000000){j:Nat}{st:St}(h:In l b j st)(fl:Nat)(cf:av):
  (∃j' st',am cf fl yD st=Z (.normal,st')∧In l b j' st'∧j'<j)∨(∃x st',am cf fl yD st=Z (x,st')∧x≠.normal∧x=.exit 0∧In l b (ax (val l)).length st'∧l.take (ax (val l)).length=ax (val l)):=by
 obtain⟨t1,t2,rfl,hj,hv⟩:=h
 rcases aUc j with rfl|hp
 ·right
  have h0:val l=0:=by rw[← hv];rfl
  simp(maxSteps:=9^9) only[az,seval,-ac,-ae,aik,ar]
  refine⟨_,_,rfl,by simp,rfl,?_,?_⟩
  ·rw[h0];exact⟨_,_,rfl,Nat.zero_le _,by rw[h0];rfl⟩
  ·rw[h0];rfl
 ·obtain⟨i,rfl⟩:∃i,j=i+1:=⟨j-1,by omega⟩
  have hi:i<l.length:=by omega
  have di:=aA hi
  have e1:i+1-1=i:=by omega
  have e2:(0<i+1)=True:=eq_true (by omega)
  have e3:i<9223372036854775808:=by omega
  have e4:(1≤i+1)=True:=eq_true (by omega)
  have e5:af (i+1)-af 1=af i:=by simp only[aT7];omega
  have vt:=bG (aTX hi)
  rw[hv]at vt
  by_cases hz:l[i]=0
  ·left
   have z1:(l[i] != 0)=aa:=by rw[hz];rfl
   simp(maxSteps:=9^9) only[az,seval,-ac,-ae,aik,ar,hi,di,e1,e2,e3,e4,e5,z1]
   exact⟨i,_,rfl,⟨_,_,rfl,by omega,by rw[vt,hz];simp⟩,by omega⟩
  ·right
   have z1:(l[i] != 0)=ab:=by simpa using hz
   have hc:gn (l.take (i+1)):=by
    intro d hd
    rw[aaa (aTX hi),List.getLast?_concat]at hd
    cases hd
    exact hz
   have hdg:ax (val l)=l.take (i+1):=by rw[← hv];exact tV (hl.take _) hc
   have hlen:(ax (val l)).length=i+1:=by rw[hdg,aUo];omega
   simp(maxSteps:=9^9) only[az,seval,-ac,-ae,aik,ar,hi,di,e1,e2,e3,e4,e5,z1]
   refine⟨_,_,rfl,by simp,rfl,?_,by rw[hlen,hdg]⟩
   rw[hlen]
   exact⟨_,_,rfl,hj,hv⟩
def azb {l:List Nat}(hl:lims l)(b:Bool)(hn:l.length<1000000):
  bM (ao tN.tb 10 8) 2000001 afS.1 [.one (aB l),.one (.v (.bool b))]=Z [.agg [.v (.bool (b&&ah 0 (ax (val l)).length)),aB (ax (val l))]]:=by
 have hcf:∀cf:av,∃st',aG (am cf 2000001 yD) 2000001 ⟨[iT l.length,.nil,.nil,aT l,.t (.one (.ptr 0 0)),bT b],[Z (.cells [.c (.v (.bool aa)),.c (.v (.slice U 0 0))])],[],[],[]⟩=Z (.exit 0,st')∧In l b (ax (val l)).length st'∧l.take (ax (val l)).length=ax (val l):=by
  intro cf
  obtain⟨x,st',h1,_,rfl,h3,h4⟩:=bg (In l b) (fun j=>j) (fun x st'=>x=.exit 0∧In l b (ax (val l)).length st'∧l.take (ax (val l)).length=ax (val l)) (fun j st h=>aGr hl (by omega) h 2000001 cf) 2000001 l.length _ ⟨_,_,rfl,aTS _,by rw[List.take_length]⟩ (by omega)
  exact⟨st',h1,h3,h4⟩
 obtain⟨st',h1,⟨t1,t2,rfl,h2,_⟩,h3⟩:=hcf (ao tN.tb 10 8)
 generalize ao tN.tb 10 8=cf at h1 ⊢
 generalize hk:(ax (val l)).length=k at h1 h2 h3
 have e2:l.length<9223372036854775808:=by omega
 rcases aUc k with rfl|hp
 ·have hz:ax (val l)=[]:=List.eq_nil_of_length_eq_zero hk
  have i1:(0<0)=False:=by simp
  rw[show(b&&ah 0 0)=aa by cases b<;>rfl]
  cases b<;>simp(maxSteps:=9^9) only[az,seval,-ac,-ae,aH2,h1,h2,e2,ar,abe,h3,hk,hz,i1,aB]
 ·have i1:(0<k)=True:=eq_true hp
  rw[show ah 0 k=ab by simpa using hp,Bool.and_true]
  cases b<;>simp(maxSteps:=9^9) only[az,seval,-ac,-ae,aH2,h1,h2,e2,ar,abe,h3,hk,i1,aB]
def j8:List V1→Option (List V1)
 |[x,.one (.v (.bool b))]=>match wj x with|some l=>(match ah l.length 1000000 with|true=>Z [cI (b&&ah 0 (val l)) (val l)]|false=>U)|none=>U
 |_=>U
def mO (n:Nat):ah 0 (ax n).length=ah 0 n:=by
 rcases aUc n with rfl|hn
 ·rfl
 ·have:=cL hn
  rw[aUp,aTR,aTR]
  omega
def sJ {k:Cls}:Cn k 237 j8:=bZ (ay aa9 afS.2 10 2000001 8) fun al rs h=>by
 unfold j8 at h
 split at h
 ·rename_i x b
  split at h
  ·rename_i l hx
   split at h
   ·rename_i hc
    cases h
    obtain⟨rfl,hl⟩:=uQ hx
    refine⟨_,_,Imps.refl _,azb hl b (by simpa using hc),?_⟩
    rw[mO]
    exact .cons (j3 (.cons (.refl _) (.cons (qA _) .nil))) .nil
   ·cases h
  ·cases h
 ·cases h
def m8 {l:List Nat}(hl:lims l)(b:Bool)(h1:l.length<1000000):j8 [.one (aB l),.one (.v (.bool b))]=Z [cI (b&&ah 0 (val l)) (val l)]:=by
 have hc:ah l.length 1000000=ab:=by simpa using h1
 simp only[j8,yR hl,hc]
def cH (a b:Nat):Int:=match ah a b with|true=>.negSucc 0|false=>match ai a b with|true=>.ofNat 0|false=>.ofNat 1
def ahu:List V1→Option (List V1)
 |[.one (.v (.int .u32 (.ofNat a))),.one (.v (.int .u32 (.ofNat b)))]=>Z [.one (.v (.int .i64 (cH a b)))]
 |_=>U
def aam:List V1→Option (List V1)
 |[.one (.v (.int .i64 (.ofNat a))),.one (.v (.int .i64 (.ofNat b)))]=>Z [.one (.v (.int .i64 (cH a b)))]
 |_=>U
def zh (q:IntKind):List V1→Option (List V1)
 |[.one (.v (.int q' (.ofNat _)))]=>match ai (su q) (su q')with|true=>Z [.one (.v (.bool aa))]|false=>U
 |_=>U
def avl {k:Cls}:Cn k 298 (zh .u32):=aC (ay (t:=.z) trivial aAf.2 10 10 8) fun al rs h=>by
 unfold zh at h
 split at h
 ·rename_i q n
  split at h
  ·rename_i hk
   cases h
   have:=sv (aT1 hk)
   subst this
   simp(maxSteps:=9^9) only[az,seval,-ac,-ae,aRh]
  ·cases h
 ·cases h
def avm {k:Cls}:Cn k 248 (zh .i64):=aC (ay (t:=.z) trivial akJ.2 10 10 8) fun al rs h=>by
 unfold zh at h
 split at h
 ·rename_i q n
  split at h
  ·rename_i hk
   cases h
   have:=sv (aT1 hk)
   subst this
   simp(maxSteps:=9^9) only[az,seval,-ac,-ae,aH4]
  ·cases h
 ·cases h
def tC1:Ft:=.n (.n .z 248 (.nat (zh .i64)) U .z) 298 (.nat (zh .u32)) U .z
def awD {k:Cls}:tC1.Ok Tryz.prog k aH:=⟨⟨tv,avm,tv,tv⟩,avl,tv,tv⟩
def as3 {k:Cls}:Cn k 271 ahu:=aC (ay awD az8.2 10 10 8) fun al rs h=>by
 unfold ahu at h
 split at h
 ·rename_i a b
  cases h
  have n1:∀n:Nat,zh .u32 [.one (.v (.int .u32 (.ofNat n)))]=Z [.one (.v (.bool aa))]:=fun _=>rfl
  rcases Nat.lt_trichotomy a b with h|h|h
  ·have hc:cH a b=.negSucc 0:=by
    have h1:ah a b=ab:=by simpa using h
    simp only[cH,h1]
   rw[hc]
   simp(maxSteps:=9^9) only[az,seval,-ac,-ae,axb,tC1,n1,h]
  ·subst h
   have hc:cH a a=.ofNat 0:=by
    have h1:ah a a=aa:=by rw[Bool.eq_false_iff];simp
    have h3:ai a a=ab:=Nat.beq_refl a
    simp only[cH,h1,h3]
   have h2:(a<a)=False:=eq_false (by omega)
   rw[hc]
   simp(maxSteps:=9^9) only[az,seval,-ac,-ae,axb,tC1,n1,h2]
  ·have hc:cH a b=.ofNat 1:=by
    have h1:ah a b=aa:=by rw[Bool.eq_false_iff];simp;omega
    have h3:ai a b=aa:=by rw[Bool.eq_false_iff];simp;omega
    simp only[cH,h1,h3]
   have h2:(a<b)=False:=eq_false (by omega)
   rw[hc]
   simp(maxSteps:=9^9) only[az,seval,-ac,-ae,axb,tC1,n1,h,h2]
 ·cases h
def as4 {k:Cls}:Cn k 218 aam:=aC (ay awD akH.2 10 10 8) fun al rs h=>by
 unfold aam at h
 split at h
 ·rename_i a b
  cases h
  have n1:∀n:Nat,zh .i64 [.one (.v (.int .i64 (.ofNat n)))]=Z [.one (.v (.bool aa))]:=fun _=>rfl
  rcases Nat.lt_trichotomy a b with h|h|h
  ·have hc:cH a b=.negSucc 0:=by
    have h1:ah a b=ab:=by simpa using h
    simp only[cH,h1]
   rw[hc]
   simp(maxSteps:=9^9) only[az,seval,-ac,-ae,aeC,tC1,n1,h]
  ·subst h
   have hc:cH a a=.ofNat 0:=by
    have h1:ah a a=aa:=by rw[Bool.eq_false_iff];simp
    have h3:ai a a=ab:=Nat.beq_refl a
    simp only[cH,h1,h3]
   have h2:(a<a)=False:=eq_false (by omega)
   rw[hc]
   simp(maxSteps:=9^9) only[az,seval,-ac,-ae,aeC,tC1,n1,h2]
  ·have hc:cH a b=.ofNat 1:=by
    have h1:ah a b=aa:=by rw[Bool.eq_false_iff];simp;omega
    have h3:ai a b=aa:=by rw[Bool.eq_false_iff];simp;omega
    simp only[cH,h1,h3]
   have h2:(a<b)=False:=eq_false (by omega)
   rw[hc]
   simp(maxSteps:=9^9) only[az,seval,-ac,-ae,aeC,tC1,n1,h,h2]
 ·cases h
def tC2:Ft:=.n (.n .z 218 (.nat aam) U .z) 271 (.nat ahu) U .z
def awE {k:Cls}:tC2.Ok Tryz.prog k aH:=⟨⟨tv,as4,tv,tv⟩,as3,tv,tv⟩
def pP {a b:Nat}(h:a<b):cH a b=.negSucc 0:=by
 have h1:ah a b=ab:=by simpa using h
 simp only[cH,h1]
def tR (a:Nat):cH a a=.ofNat 0:=by
 have h1:ah a a=aa:=by rw[Bool.eq_false_iff];simp
 have h3:ai a a=ab:=Nat.beq_refl a
 simp only[cH,h1,h3]
def pO {a b:Nat}(h:b<a):cH a b=.ofNat 1:=by
 have h1:ah a b=aa:=by rw[Bool.eq_false_iff];simp;omega
 have h3:ai a b=aa:=by rw[Bool.eq_false_iff];simp;omega
 simp only[cH,h1,h3]
def nF {a b:List Nat}(ha:lims a){i:Nat}(hi:i<a.length)(hib:i<b.length)(hd:a.drop (i+1)=b.drop (i+1))(h:a[i]<b[i]):val a<val b:=by
 have e:∀(l:List Nat) (hl:i<l.length),val l=val (l.take i)+4294967296 ^ i*l[i]+4294967296 ^ (i+1)*val (l.drop (i+1)):=by
  intro l hl
  conv=>lhs;rw[← List.take_append_drop (i+1) l]
  rw[fh,bG (aTX hl),aUo,Nat.min_eq_left (by omega)]
 rw[e a hi,e b hib,hd]
 have h1:=bL (ha.take i)
 rw[aUo,Nat.min_eq_left (by omega)]at h1
 have h2:4294967296 ^ i*(a[i]+1)≤4294967296 ^ i*b[i]:=Nat.mul_le_mul_left _ h
 rw[aT4]at h2
 omega
def pM {a b:List Nat}(ha:lims a)(cb:gn b)(h:a.length<b.length):val a<val b:=by
 have h1:=bL ha
 rcases jW cb with rfl|h2
 ·simp at h
 ·have:4294967296 ^ a.length≤4294967296 ^ (b.length-1):=Nat.pow_le_pow_right (by omega) (by omega)
  omega
def prI:Nat→Int
 |0=>.negSucc 0
 |i+1=>.ofNat i
abbrev zT (j:Nat):T:=.t (.one (.c (.v (.int .i64 (prI j)))))
def jG:prI 0=.negSucc 0:=rfl
def jH (i:Nat):prI (i+1)=.ofNat i:=rfl
def jw {i:Nat}(h:i<9223372036854775808):IntKind.i64.wrap (af i-af 1)=prI i:=by
 cases i with
 |zero=>rfl
 |succ i=>
  have:af (i+1)-af 1=af i:=by simp only[aT7];omega
  rw[this]
  exact agi (by show i<9223372036854775808;omega)
def Ic (a b:List Nat)(j:Nat)(st:St):Prop:=
 ∃(t1 t2 t3 t7 t8:T),st=⟨[zT j,t1,t2,t3,iT 0,aT a,aT b,t7,t8],[],[],[],[]⟩∧j≤a.length∧a.drop j=b.drop j
def Qc (a b:List Nat)(x:X)(st:St):Prop:=
 (x=.exit 0∧val a=val b∧∃(t0 t1 t2 t3 t7 t8:T),st=⟨[t0,t1,t2,t3,iT 0,aT a,aT b,t7,t8],[],[],[],[]⟩)∨(x=.ret∧∃(t0 t1 t2 t3 t7 t8:T),st=⟨[t0,t1,t2,t3,.t (.one (.c (.v (.int .i64 (cH (val a) (val b)))))),aT a,aT b,t7,t8],[],[],[],[]⟩)
def aEi (a b:Nat):ahu [dA a,dA b]=Z [.one (.v (.int .i64 (cH a b)))]:=rfl
def aEj (a b:Nat):aam [.one (.v (.int .i64 (.ofNat a))),.one (.v (.int .i64 (.ofNat b)))]=Z [.one (.v (.int .i64 (cH a b)))]:=rfl
def aGo {a b:List Nat}(ha:lims a)(hb:lims b)(hn:a.length<2000000)(he:a.length=b.length){j:Nat}{st:St}(h:Ic a b j st)(fl:Nat):
  (∃j' st',am (ao tC2.tb 10 8) fl yC st=Z (.normal,st')∧Ic a b j' st'∧j'<j)∨(∃x st',am (ao tC2.tb 10 8) fl yC st=Z (x,st')∧x≠.normal∧Qc a b x st'):=by
 obtain⟨t1,t2,t3,t7,t8,rfl,hj,hd⟩:=h
 rcases aUc j with rfl|hp
 ·right
  simp(maxSteps:=9^9) only[az,seval,-ac,-ae,jG,jH,acQ,ar]
  exact⟨_,_,rfl,by simp,.inl ⟨rfl,by simpa using congrArg val hd,_,_,_,_,_,_,rfl⟩⟩
 ·obtain⟨i,rfl⟩:∃i,j=i+1:=⟨j-1,by omega⟩
  have hi:i<a.length:=by omega
  have hib:i<b.length:=by omega
  have da:=aA hi
  have db:=aA hib
  have lb:=ha.get (aTX hi)
  have e2:(0≤i)=True:=eq_true (by omega)
  have e3:i<9223372036854775808:=by omega
  have ec:=aEi a[i] b[i]
  have e6:=jw e3
  rcases Nat.lt_trichotomy a[i] b[i]with h|h|h
  ·right
   rw[pP h]at ec
   simp(maxSteps:=9^9) only[az,seval,-ac,-ae,jG,jH,acQ,tC2,ar,hi,hib,da,db,e2,e3,ec]
   refine⟨_,_,rfl,by simp,.inr ⟨rfl,?_⟩⟩
   rw[pP (nF ha hi hib hd h)]
   exact⟨_,_,_,_,_,_,rfl⟩
  ·left
   rw[h,tR]at ec
   simp(maxSteps:=9^9) only[az,seval,-ac,-ae,jG,jH,acQ,tC2,ar,hi,hib,da,db,e2,e3,h,ec,e6]
   exact⟨i,_,rfl,⟨_,_,_,_,_,rfl,by omega,by rw[da,db,h,hd]⟩,by omega⟩
  ·right
   rw[pO h]at ec
   simp(maxSteps:=9^9) only[az,seval,-ac,-ae,jG,jH,acQ,tC2,ar,hi,hib,da,db,e2,e3,ec]
   refine⟨_,_,rfl,by simp,.inr ⟨rfl,?_⟩⟩
   rw[pO (nF hb hib hi hd.symm h)]
   exact⟨_,_,_,_,_,_,rfl⟩
def abm {a b:List Nat}(ha:lims a)(hb:lims b)(ca:gn a)(cb:gn b)(hn:a.length<1000000)(hm:b.length<1000000):
  bM (ao tC2.tb 10 8) 2000001 acu.1 [.one (aB a),.one (aB b)]=Z [.one (.v (.int .i64 (cH (val a) (val b))))]:=by
 have el:=aEj a.length b.length
 rcases Nat.lt_trichotomy a.length b.length with h|h|h
 ·rw[pP h]at el
  rw[pP (pM ha cb h)]
  simp(maxSteps:=9^9) only[az,seval,-ac,-ae,aoF,tC2,ar,el]
 ·have hcf:∀cf,cf=ao tC2.tb 10 8→∃x st',aG (am cf 2000001 yC) 2000001 ⟨[zT a.length,.nil,.nil,.nil,iT 0,aT a,aT b,iT 0,bT aa],[],[],[],[]⟩=Z (x,st')∧x≠.normal∧Qc a b x st':=by
   rintro cf rfl
   exact bg (Ic a b) (fun j=>j) (Qc a b) (fun j st hI=>aGo ha hb (by omega) h hI 2000001) 2000001 a.length _ ⟨_,_,_,_,_,rfl,aTS _,by rw[aUg,h,aUg]⟩ (by omega)
  obtain⟨x,st',hl,_,hQ⟩:=hcf _ rfl
  have e3:=jw (i:=a.length) (by omega)
  rw[h,tR]at el
  rw[h]at hl e3
  rcases hQ with⟨rfl,hv,t0,t1,t2,t3,t7,t8,rfl⟩|⟨rfl,t0,t1,t2,t3,t7,t8,rfl⟩
  ·rw[hv,tR]
   have c1:CA (ao tC2.tb 10 8) 218 aam:=fun _ _ _=>rfl
   generalize ao tC2.tb 10 8=cf at hl c1 ⊢
   simp(maxSteps:=9^9) only[az,seval,-ac,-ae,aoF,c1,ar,h,el,e3,hl]
  ·have c1:CA (ao tC2.tb 10 8) 218 aam:=fun _ _ _=>rfl
   generalize ao tC2.tb 10 8=cf at hl c1 ⊢
   simp(maxSteps:=9^9) only[az,seval,-ac,-ae,aoF,c1,ar,h,el,e3,hl]
 ·rw[pO h]at el
  rw[pO (pM hb ca h)]
  simp(maxSteps:=9^9) only[az,seval,-ac,-ae,aoF,tC2,ar,el]
def xW (l:List Nat):Bool:=match l.getLast? with|some 0=>aa|_=>ab
def mP {l:List Nat}:xW l=ab↔gn l:=by
 unfold xW gn
 cases h:l.getLast? with
 |none=>simp
 |some d=>cases d<;>simp
def ql:List V1→Option (List V1):=un2 fun a b=>match ah a.length 1000000&&ah b.length 1000000&&(xW a&&xW b)with|true=>Z [.one (.v (.int .i64 (cH (val a) (val b))))]|false=>U
def yg {k:Cls}:Cn k 236 ql:=aC (ay awE acu.2 10 2000001 8) fun al rs h=>by
 obtain⟨a,b,rfl,ha,hb,h⟩:=aew h
 split at h
 ·rename_i hc
  cases h
  rw[aTT,aTT,aTT,aTR,aTR,mP,mP]at hc
  exact abm ha hb hc.2.1 hc.2.2 hc.1.1 hc.1.2
 ·cases h
def adb {a b:List Nat}(ha:lims a)(hb:lims b)(ca:gn a)(cb:gn b)(h1:a.length<1000000)(h2:b.length<1000000):ql [.one (aB a),.one (aB b)]=Z [.one (.v (.int .i64 (cH (val a) (val b))))]:=by
 unfold ql;rw[ah3 ha hb]
 have hc:(ah a.length 1000000&&ah b.length 1000000&&(xW a&&xW b))=ab:=by rw[aTT,aTT,aTT,aTR,aTR,mP,mP];exact⟨⟨h1,h2⟩,ca,cb⟩
 simp only[hc]
end
end Go.Proofs.YtfiijelajgifiaaGreat
namespace Go.Mach
noncomputable section
open Go Go.RowKit Go.Flow
def aj0 {x y u c:Nat}(hx:x<4294967296)(hy:y<4294967296)(hu:u<4294967296)(hc:c<4294967296):x*y<18446744073709551616∧x*y+u<18446744073709551616∧c+(x*y+u)<18446744073709551616:=by
 have:x*y≤4294967295*4294967295:=Nat.mul_le_mul (by omega) (by omega)
 omega
def qS {o:List Nat}{p c x y T:Nat}(hp:p<o.length)(h:val o+4294967296 ^ p*c=T):
  val (o.set p ((c+(x*y+o[p]))%4294967296))+4294967296 ^ (p+1)*((c+(x*y+o[p]))/4294967296)=T+4294967296 ^ p*(x*y):=by
 have e:=jd (d:=(c+(x*y+o[p]))%4294967296) hp
 have m:=Nat.mod_add_div (c+(x*y+o[p])) 4294967296
 have m2:4294967296 ^ p*((c+(x*y+o[p]))%4294967296)+4294967296 ^ p*(4294967296*((c+(x*y+o[p]))/4294967296))=4294967296 ^ p*c+4294967296 ^ p*(x*y)+4294967296 ^ p*o[p]:=by
  rw[← aT4,m,aT4,aT4];omega
 rw[Nat.pow_succ,aUk]
 omega
end
end Go.Mach
namespace Go.Proofs.YtfiijelajgifiaaGreat
noncomputable section
open Go Go.Mach Go.Flow
set_option maxRecDepth 100000
set_option maxHeartbeats 4000000
abbrev iA (b:Bool)(l:List Nat):T:=.t (.agg [.c (.v (.bool b)),.c (aB l)])
def HM (a b:List Nat)(b1 b2:Bool)(o:List Nat):Hp:=[Z (.cells [.c (.v (.bool b1)),.c (aB a)]),Z (.cells [.c (.v (.bool b2)),.c (aB b)]),Z (.cells [.c (.v (.bool aa)),.c (.v (.slice U 0 0))]),Z (.cells (aJ o))]
def J1 (a b:List Nat)(b1 b2:Bool)(i x:Nat)(o0:List Nat)(t7 t12 t17 t18:T)(k:Nat)(st:St):Prop:=
 ∃(o:List Nat) (c:Nat) (t2 t5 t6:T) (W:List Nat),st=⟨[wT c,iT k,t2,iT i,.t (.one (.lsl 3 0 (a.length+b.length) 1)),t5,t6,t7,uT x,aT b,iT b.length,.t (.one (.ptr 1 0)),t12,aT a,iT a.length,.t (.one (.ptr 0 0)),.t (.one (.ptr 2 0)),t17,t18],HM a b b1 b2 o,[],W,[]⟩∧
  o.length=a.length+b.length∧lims o∧c<4294967296∧val o+4294967296 ^ (i+k)*c=val o0+4294967296 ^ i*(x*val (b.take k))∧o.drop (i+b.length)=o0.drop (i+b.length)
section
variable {a b:List Nat} {b1 b2:Bool} {i x:Nat} {o0:List Nat} {t7 t12 t17 t18:T}
def aGQ (hb:lims b)(hn:a.length<2000000)(hm:b.length<2000000)(hi:i<a.length)(hx:x<4294967296){k:Nat}{st:St}(hk:k<b.length)(h:J1 a b b1 b2 i x o0 t7 t12 t17 t18 k st)(fl:Nat)(cf:av):
  ∃st',am cf fl uH st=Z (.normal,st')∧J1 a b b1 b2 i x o0 t7 t12 t17 t18 (k+1) st':=by
 obtain⟨o,c,t2,t5,t6,W,rfl,ho,lo,hc,hv,hd⟩:=h
 have e1:k+1<9223372036854775808:=by omega
 have e2:i+k<9223372036854775808:=by omega
 have e3:i+k<a.length+b.length:=by omega
 have e4:i+k<o.length:=by omega
 have e5:i+k+1≤o.length:=by omega
 have db:=aA hk
 have lb:=hb _ (aUl hk)
 have dq:=aA e4
 have lo':=lo _ (aUl e4)
 obtain⟨m1,m2,m3⟩:=aj0 hx lb lo' hc
 have x1:x<18446744073709551616:=by omega
 have x2:b[k]<18446744073709551616:=by omega
 have x3:o[i+k]<18446744073709551616:=by omega
 have q:=qS (x:=x) (y:=b[k]) e4 hv
 have key:∀t2 t5 t6 W,J1 a b b1 b2 i x o0 t7 t12 t17 t18 (k+1) ⟨[wT ((c+(x*b[k]+o[i+k]))/4294967296),iT (k+1),t2,iT i,.t (.one (.lsl 3 0 (a.length+b.length) 1)),t5,t6,t7,uT x,aT b,iT b.length,.t (.one (.ptr 1 0)),t12,aT a,iT a.length,.t (.one (.ptr 0 0)),.t (.one (.ptr 2 0)),t17,t18],HM a b b1 b2 (o.set (i+k) ((c+(x*b[k]+o[i+k]))%4294967296)),[],W,[]⟩:=by
  intro t2 t5 t6 W
  refine⟨_,_,_,_,_,_,rfl,by simpa using ho,lo.set (by omega),by omega,?_,by rw[List.drop_set_of_lt (by omega),hd]⟩
  show _+4294967296 ^ (i+k+1)*_=_
  rw[q,bG (aTX hk),aT4,aT4,Nat.pow_add]
  rw[Nat.mul_left_comm x,aUk]
  omega
 simp(maxSteps:=9^9) only[az,seval,-ac,-ae,HM,aso,hk,e1,e2,e3,e4,e5,db,dq,m1,m2,m3,x1,x2,x3,ar,bY]
 exact⟨_,rfl,key _ _ _ _⟩
def aED {st:St}(h:J1 a b b1 b2 i x o0 t7 t12 t17 t18 b.length st)(fl:Nat)(cf:av):
  ∃st',am cf fl uH st=Z (.exit 2,st')∧J1 a b b1 b2 i x o0 t7 t12 t17 t18 b.length st':=by
 obtain⟨o,c,t2,t5,t6,W,rfl,h⟩:=h
 simp(maxSteps:=9^9) only[az,seval,-ac,-ae,aso,ar]
 exact⟨_,rfl,_,_,_,_,_,_,rfl,h⟩
end
def J0 (a b:List Nat)(b1 b2:Bool)(t17 t18:T)(i:Nat)(st:St):Prop:=
 ∃(o:List Nat) (t0 t1 t2 t3 t5 t6 t8 t9 t10 t12:T) (W:List Nat),st=⟨[t0,t1,t2,t3,.t (.one (.lsl 3 0 (a.length+b.length) 1)),t5,t6,iT i,t8,t9,t10,.t (.one (.ptr 1 0)),t12,aT a,iT a.length,.t (.one (.ptr 0 0)),.t (.one (.ptr 2 0)),t17,t18],HM a b b1 b2 o,[],W,[]⟩∧
  o.length=a.length+b.length∧lims o∧val o=val (a.take i)*val b∧∀j,i+b.length≤j→j<o.length→o[j]?=Z 0
section
variable {a b:List Nat} {b1 b2:Bool} {t17 t18:T}
def aGP (ha:lims a)(hb:lims b)(hn:a.length<1000000)(hm:b.length<1000000){i:Nat}{st:St}(hi:i<a.length)(h:J0 a b b1 b2 t17 t18 i st)(cf:av):
  ∃st',am cf 2000001 adD st=Z (.normal,st')∧J0 a b b1 b2 t17 t18 (i+1) st':=by
 obtain⟨o0,t0,t1,t2,t3,t5,t6,t8,t9,t10,t12,W,rfl,ho,lo,hv,hz⟩:=h
 have e1:i+1<9223372036854775808:=by omega
 have e2:i+b.length<9223372036854775808:=by omega
 have e3:i+b.length<a.length+b.length:=by omega
 have da:=aA hi
 have la:=ha _ (aUl hi)
 obtain⟨st',hl,o,c,s2,s5,s6,W',rfl,ho',lo',hc,hv',hd⟩:=bq b.length (J1 a b b1 b2 i a[i] o0 (iT i) (bT ab) t17 t18) (J1 a b b1 b2 i a[i] o0 (iT i) (bT ab) t17 t18 b.length)
  (fun k st hk h=>aGQ hb (by omega) (by omega) hi la hk h 2000001 cf) (fun st h=>aED h 2000001 cf) 2000001 ⟨[wT 0,iT 0,t2,iT i,.t (.one (.lsl 3 0 (a.length+b.length) 1)),t5,t6,iT i,uT a[i],aT b,iT b.length,.t (.one (.ptr 1 0)),bT ab,aT a,iT a.length,.t (.one (.ptr 0 0)),.t (.one (.ptr 2 0)),t17,t18],HM a b b1 b2 o0,[],W,[]⟩
  ⟨o0,0,_,_,_,_,rfl,ho,lo,by omega,by simp[val],rfl⟩ (by omega)
 have e4:i+b.length<o.length:=by omega
 have e5:i+b.length+1≤o.length:=by omega
 have c1:c<18446744073709551616:=by omega
 have g0:∀j,i+b.length≤j→j<o.length→o[j]?=Z 0:=by
  intro j h1 h2
  have h3:=hz j h1 (by omega)
  have e:∀l:List Nat,l[j]?=(l.drop (i+b.length))[j-(i+b.length)]?:=by intro l;rw[List.getElem?_drop];congr 1;omega
  rw[e,hd,← e,h3]
 have o0z:o[i+b.length]=0:=by
  have:=g0 (i+b.length) (aTS _) e4
  rw[aTX e4]at this
  simpa using this
 have q:=jd (d:=c) e4
 rw[List.take_length]at hv'
 rw[o0z,Nat.mul_zero,Nat.add_zero,hv']at q
 have key:∀t0 t1 t2 t3 t5 t6 t8 t9 t10 t12 W,J0 a b b1 b2 t17 t18 (i+1) ⟨[t0,t1,t2,t3,.t (.one (.lsl 3 0 (a.length+b.length) 1)),t5,t6,iT (i+1),t8,t9,t10,.t (.one (.ptr 1 0)),t12,aT a,iT a.length,.t (.one (.ptr 0 0)),.t (.one (.ptr 2 0)),t17,t18],HM a b b1 b2 (o.set (i+b.length) c),[],W,[]⟩:=by
  intro t0 t1 t2 t3 t5 t6 t8 t9 t10 t12 W
  refine⟨_,_,_,_,_,_,_,_,_,_,_,_,rfl,by simpa using ho',lo'.set hc,?_,fun j h1 h2=>?_⟩
  ·rw[q,bG (aTX hi),Nat.add_mul,hv,aUk]
  ·rw[aUn (by omega)]
   exact g0 j (by omega) (by simpa using h2)
 unfold HM at hl
 simp(maxSteps:=9^9) only[az,seval,-ac,-ae,HM,asn,hi,e1,e2,e3,e4,e5,da,c1,hl,ar,bY,aT9 hc]
 exact⟨_,rfl,key _ _ _ _ _ _ _ _ _ _ _⟩
end
def aEC {a b:List Nat}{b1 b2:Bool}{t17 t18:T}{st:St}(h:J0 a b b1 b2 t17 t18 a.length st)(fl:Nat)(cf:av):
  ∃st',am cf fl adD st=Z (.exit 0,st')∧J0 a b b1 b2 t17 t18 a.length st':=by
 obtain⟨o0,t0,t1,t2,t3,t5,t6,t8,t9,t10,t12,W,rfl,h⟩:=h
 simp(maxSteps:=9^9) only[az,seval,-ac,-ae,asn,ar]
 exact⟨_,rfl,_,_,_,_,_,_,_,_,_,_,_,_,rfl,h⟩
def tM:Ft:=.n .z 237 (.nat j8) U .z
def aDH {k:Cls}:tM.Ok Tryz.prog k aH:=⟨tv,sJ,tv,tv⟩
def aFv {a b:List Nat}(ha:lims a)(hb:lims b)(b1 b2:Bool)(hn:a.length<500000)(hm:b.length<500000):
  bM (ao tM.tb 10 8) 2000001 zM.1 [.agg [.v (.bool b1),aB a],.agg [.v (.bool b2),aB b]]=Z [cI ((b1 != b2)&&ah 0 (val a*val b)) (val a*val b)]:=by
 obtain⟨st',hl,o,t0,t1,t2,t3,t5,t6,t8,t9,t10,t12,W,rfl,ho,lo,hv,_⟩:=bq a.length (J0 a b b1 b2 (iA b1 a) (iA b2 b)) (J0 a b b1 b2 (iA b1 a) (iA b2 b) a.length)
  (fun i st hi h=>aGP ha hb (by omega) (by omega) hi h (ao tM.tb 10 8)) (fun st h=>aEC h 2000001 (ao tM.tb 10 8)) 2000001 ⟨[.nil,.nil,.nil,.nil,.t (.one (.lsl 3 0 (a.length+b.length) 1)),.nil,.nil,iT 0,.nil,.nil,.nil,.t (.one (.ptr 1 0)),.nil,aT a,iT a.length,.t (.one (.ptr 0 0)),.t (.one (.ptr 2 0)),iA b1 a,iA b2 b],HM a b b1 b2 (aT5 (a.length+b.length) 0),[],[],[]⟩
  ⟨_,_,_,_,_,_,_,_,_,_,_,_,rfl,by simp,gQ _,by simp[acH,val],fun j _ hj=>by rw[List.getElem?_replicate,if_pos (by simpa using hj)]⟩ (by omega)
 rw[List.take_length]at hv
 have c1:CA (ao tM.tb 10 8) 237 j8:=fun _ _ _=>rfl
 have hN:∀q,_:=fun q=>m8 lo q (by omega)
 rw[hv]at hN
 have e2:a.length+b.length<9223372036854775808:=by omega
 have e3:a.length+b.length≤1073741824:=by omega
 have e4:4*(a.length+b.length)≤70368744177664:=by omega
 have e5:a.length+b.length≤o.length:=by omega
 have e6:o.take (a.length+b.length)=o:=aUi (by omega)
 unfold HM at hl
 generalize ao tM.tb 10 8=cf at hl c1 ⊢
 unfold aB at hN
 rw[ho]at hN
 simp(maxSteps:=9^9) only[az,seval,-ac,-ae,aQ5,hl,c1,hN,e2,e3,e4,e5,e6,ar,aB,cI]
 rfl
def lgA {n k:Nat}(h:n.log2<k):n<2 ^ k:=by
 rcases Nat.eq_zero_or_pos n with rfl|hn
 ·exact Nat.pow_pos (by omega)
 ·exact(Nat.log2_lt (by omega)).1 h
def lgB {x y a b:Nat}(h:x.log2<a)(g:y.log2<b):(x*y).log2<a+b:=by
 have e:=Nat.mul_lt_mul'' (lgA h) (lgA g)
 rw[← Nat.pow_add]at e
 rcases Nat.eq_zero_or_pos (x*y) with hz|hz
 ·rw[hz,Nat.log2_zero];omega
 ·exact(Nat.log2_lt (by omega)).2 e
def lgC {n k:Nat}(h:n.log2<k):(n*2+1).log2<k+1:=by
 have e:=lgA h
 refine(Nat.log2_lt (by omega)).2 ?_
 rw[Nat.pow_succ];omega
def exFu (k:Nat):∃f:Nat,∀y:Nat,y.log2<k→y<f:=⟨2 ^ k,fun _ h=>lgA h⟩
def gI (z:Int):V1:=.agg [.v (.bool (aw z)),.big (ap z)]
def aE (z:Int):Prop:=aj (ap z)<8388608
def iB (n:Nat):Bool:=ah (aj n) 8388608
def fe {n:Nat}(h:aj n<8388608):(ax n).length<300000:=by
 rcases aUc n with rfl|hn
 ·exact(by decide:(0:Nat)<300000)
 ·have a1:4294967296 ^ ((ax n).length-1)≤n:=by
   rcases jW (cn n)with h1|h1
   ·have:=qn.1 h1;omega
   ·rw[aD]at h1;exact h1
  have a2:=lgA (k:=8388608) h
  have a3:(4294967296:Nat)=2 ^ 32:=by decide
  rw[a3,← Nat.pow_mul]at a1
  have:=(Nat.pow_lt_pow_iff_right (a:=2) (by omega)).1 (aUh a1 a2)
  omega
def dU:V1→Option Int
 |.agg [.v (.bool b),.big n]=>match iB n with|true=>(match b,n with|false,n=>Z (.ofNat n)|true,m+1=>Z (.negSucc m)|true,0=>U)|false=>U
 |_=>U
def bX {v:V1}{z:Int}(h:dU v=Z z):v=gI z∧aE z:=by
 unfold dU at h
 split at h
 ·rename_i b n
  split at h
  ·rename_i hf
   have hf:aj n<8388608:=by simpa [iB]using hf
   split at h
   ·cases h;exact⟨rfl,hf⟩
   ·cases h;exact⟨rfl,hf⟩
   ·cases h
  ·cases h
 ·cases h
def dj {z:Int}(h:aE z):dU (gI z)=Z z:=by
 have hf:iB (ap z)=ab:=by unfold iB;rw[aTR];exact h
 cases z with
 |ofNat n=>
  show(match iB n with|true=>Z (af n)|false=>U)=_
  rw[show iB n=ab from hf]
 |negSucc n=>
  show(match iB (n+1)with|true=>Z (aT2 n)|false=>U)=_
  rw[show iB (n+1)=ab from hf]
def ig2 (f:Int→Int→List V1):List V1→Option (List V1)
 |[x,y]=>match dU x,dU y with|some a,Z b=>Z (f a b)|_,_=>U
 |_=>U
def ig1 (f:Int→List V1):List V1→Option (List V1)
 |[x]=>match dU x with|some a=>Z (f a)|none=>U
 |_=>U
def l7 {f:Int→Int→List V1}{al rs:List V1}(h:ig2 f al=Z rs):∃a b,al=[gI a,gI b]∧aE a∧aE b∧rs=f a b:=by
 unfold ig2 at h
 split at h
 ·split at h
  ·rename_i hx hy
   obtain⟨rfl,h2⟩:=bX hx
   obtain⟨rfl,h3⟩:=bX hy
   cases h
   exact⟨_,_,rfl,h2,h3,rfl⟩
  ·cases h
 ·cases h
def ut {f:Int→List V1}{al rs:List V1}(h:ig1 f al=Z rs):∃a,al=[gI a]∧aE a∧rs=f a:=by
 unfold ig1 at h
 split at h
 ·split at h
  ·rename_i hx
   obtain⟨rfl,h2⟩:=bX hx
   cases h
   exact⟨_,rfl,h2,rfl⟩
  ·cases h
 ·cases h
def aaH {f:Int→Int→List V1}{a b:Int}(ha:aE a)(hb:aE b):ig2 f [gI a,gI b]=Z (f a b):=by simp only[ig2,dj ha,dj hb]
def aCu {f:Int→List V1}{a:Int}(ha:aE a):ig1 f [gI a]=Z (f a):=by simp only[ig1,dj ha]
def gJ:List V1→Option (List V1):=ig2 fun a b=>[gI (a*b)]
def gH:List V1→Option (List V1):=ig2 fun a b=>[gI (a+b)]
def kX:List V1→Option (List V1):=ig2 fun a b=>[gI (a-b)]
def gv:List V1→Option (List V1):=ig1 fun a=>[gI (-a)]
def jh {a b:Int}(ha:aE a)(hb:aE b):gJ [gI a,gI b]=Z [gI (a*b)]:=aaH ha hb
def qx {a b:Int}(ha:aE a)(hb:aE b):gH [gI a,gI b]=Z [gI (a+b)]:=aaH ha hb
def aji {a b:Int}(ha:aE a)(hb:aE b):kX [gI a,gI b]=Z [gI (a-b)]:=aaH ha hb
def ji {a:Int}(ha:aE a):gv [gI a]=Z [gI (-a)]:=aCu ha
def ae3 (z:Int):Imp (gI z) (.agg [.v (.bool (aw z)),aB (ax (ap z))]):=j3 (.cons (.refl _) (.cons (j4 _) .nil))
def apv (a b:Int):Imps [gI a,gI b] [.agg [.v (.bool (aw a)),aB (ax (ap a))],.agg [.v (.bool (aw b)),aB (ax (ap b))]]:=.cons (ae3 a) (.cons (ae3 b) .nil)
def aaJ (a:Int):Imps [gI a] [.agg [.v (.bool (aw a)),aB (ax (ap a))]]:=.cons (ae3 a) .nil
def pR {b:Bool}{n:Nat}{z:Int}(h1:ap z=n)(h2:0<n→aw z=b):cI (b&&ah 0 n) n=gI z:=by
 subst h1
 unfold gI cI
 rcases aUc (ap z)with h|h
 ·have:z=0:=by cases z with|ofNat n=>have:n=0:=h;subst this;rfl|negSucc n=>cases h
  subst this
  cases b<;>rfl
 ·rw[h2 h,show ah 0 (ap z)=ab by simpa using h,Bool.and_true]
def ajY {k:Cls}:Cn k 246 gJ:=bZ (ay aDH zM.2 10 2000001 8) fun al rs h=>by
 obtain⟨a,b,rfl,ha,hb,rfl⟩:=l7 h
 have la:=fe ha
 have lb:=fe hb
 refine⟨_,_,apv a b,aFv (aI _) (aI _) _ _ (by omega) (by omega),?_⟩
 rw[aD,aD]
 rw[pR (z:=a*b) (by simp only[dZ,Int.natAbs_mul]) ?_]
 ·exact Imps.refl _
 ·intro hp
  match a,b with
  |.ofNat m,.ofNat n=>rfl
  |.ofNat (m+1),.negSucc n=>rfl
  |.ofNat 0,.negSucc n=>simp[ap]at hp
  |.negSucc m,.ofNat (n+1)=>rfl
  |.negSucc m,.ofNat 0=>simp[ap]at hp
  |.negSucc m,.negSucc n=>rfl
def tE:Ft:=.n (.n (.n .z 236 (.nat ql) U .z) 237 (.nat j8) U .z) 272 (.nat ahR) U (.n .z 273 (.nat adY) U .z)
def arN {k:Cls}:tE.Ok Tryz.prog k aH:=⟨⟨⟨tv,yg,tv,tv⟩,sJ,tv,tv⟩,avI,tv,tv,apR,tv,tv⟩
abbrev aL (b:Bool)(l:List Nat):V1:=.agg [.v (.bool b),aB l]
def aFM (b:Bool)(l:List Nat)(hn:l.length<1000000):bM (ao tE.tb 10 8) 10 aqU.1 [aL b l]=Z [aL (!b&&ah 0 l.length) l]:=by
 rcases aUc l.length with h|h
 ·have:l=[]:=List.eq_nil_of_length_eq_zero h
  subst this
  cases b<;>rfl
 ·have e:ah 0 l.length=ab:=by simpa using h
  rw[e]
  cases b<;>simp(maxSteps:=9^9) only[az,seval,-ac,-ae,aQ7,ar,h]
def ri {k:Cls}:Cn k 253 gv:=bZ (ay arN aqU.2 10 10 8) fun al rs h=>by
 obtain⟨a,rfl,ha,rfl⟩:=ut h
 have la:=fe ha
 refine⟨_,_,aaJ a,aFM _ _ (by omega),?_⟩
 rw[mO]
 have e:gI (-a)=cI (!aw a&&ah 0 (ap a)) (ap a):=by
  rw[pR (z := -a) (by simp only[dZ,Int.natAbs_neg]) ?_]
  intro hp
  match a with
  |.ofNat (m+1)=>rfl
  |.ofNat 0=>simp[ap]at hp
  |.negSucc m=>rfl
 rw[e]
 exact .cons (j3 (.cons (.refl _) (.cons (qA _) .nil))) .nil
def aBi (b:Bool)(l:List Nat)(hn:l.length<1000000):bM (ao tE.tb 10 8) 10 aqK.1 [aL b l]=Z [.one (.v (.int .i64 (match ah 0 l.length with|false=>.ofNat 0|true=>match b with|true=>.negSucc 0|false=>.ofNat 1)))]:=by
 rcases aUc l.length with h|h
 ·have:l=[]:=List.eq_nil_of_length_eq_zero h
  subst this
  cases b<;>rfl
 ·have e:ah 0 l.length=ab:=by simpa using h
  have e2:(l.length==0)=aa:=by simp only[beq_eq_false_iff_ne,ne_eq];omega
  rw[e]
  cases b<;>simp(maxSteps:=9^9) only[az,seval,-ac,-ae,aQR,ar,e2]
def lL (z:Int):Int:=match z with|.ofNat 0=>.ofNat 0|.ofNat (_+1)=>.ofNat 1|.negSucc _=>.negSucc 0
def cr:List V1→Option (List V1):=ig1 fun a=>[.one (.v (.int .i64 (lL a)))]
def jr {a:Int}(ha:aE a):cr [gI a]=Z [.one (.v (.int .i64 (lL a)))]:=aCu ha
def sU {k:Cls}:Cn k 216 cr:=bZ (ay arN aqK.2 10 10 8) fun al rs h=>by
 obtain⟨a,rfl,ha,rfl⟩:=ut h
 have la:=fe ha
 refine⟨_,_,aaJ a,aBi _ _ (by omega),?_⟩
 rw[mO]
 match a with
 |.ofNat (m+1)=>exact Imps.refl _
 |.ofNat 0=>exact Imps.refl _
 |.negSucc m=>exact Imps.refl _
def apD:((aT2 0<af 0)=True):=by decide
def aDP {l m:List Nat}(hl:lims l)(hm:lims m)(cl:gn l)(cm:gn m)(b1 b2:Bool)(h1:l.length<500000)(h2:m.length<500000):
  bM (ao tE.tb 10 8) 10 aqR.1 [aL b1 l,aL b2 m]=Z [match b1==b2 with|true=>cI (b1&&ah 0 (val l+val m)) (val l+val m)|false=>match ah (val l) (val m)with|true=>cI (b2&&ah 0 (val m-val l)) (val m-val l)|false=>cI (b1&&ah 0 (val l-val m)) (val l-val m)]:=by
 have eN:∀(k n:Nat) (q:Bool),k<1000000→n<4294967296 ^ k→j8 [.one (.sl k (uc (aU k n))),.one (.v (.bool q))]=Z [cI (q&&ah 0 n) n]:=by
  intro k n q hk hn
  have h:=m8 (ft k n) q (by rw[aQ];exact hk)
  rw[go k n hn]at h
  unfold aB at h
  rw[aQ]at h
  exact h
 have vl:=bL hl
 have vm:=bL hm
 by_cases hb:b1=b2
 ·subst hb
  have eP:=aF0 hl hm (by omega) (by omega)
  have hlt:val l+val m<4294967296 ^ (max l.length m.length+1):=by
   have a1:4294967296 ^ l.length≤4294967296 ^ max l.length m.length:=Nat.pow_le_pow_right (by omega) (Nat.le_max_left _ _)
   have a2:4294967296 ^ m.length≤4294967296 ^ max l.length m.length:=Nat.pow_le_pow_right (by omega) (Nat.le_max_right _ _)
   rw[Nat.pow_succ]
   omega
  have eN:=eN (max l.length m.length+1) (val l+val m) b1 (by omega) hlt
  rw[beq_self_eq_true]
  generalize max l.length m.length+1=kk at eP eN
  cases b1<;>simp(maxSteps:=9^9) only[az,seval,-ac,-ae,aw8,tE,ar,eP,eN]
 ·rw[show(b1==b2)=aa by simpa using hb]
  have eC:=adb hl hm cl cm (by omega) (by omega)
  by_cases hc:val l<val m
  ·rw[show ah (val l) (val m)=ab by simpa using hc]
   rw[pP hc]at eC
   have hle:l.length≤m.length:=by
    rcases aT6 m.length l.length with h|h
    ·have:=pM hm cl h;omega
    ·exact h
   have eM:=ajT hm hl (by omega) hle (by omega)
   have eN:=eN m.length (val m-val l) b2 (by omega) (by omega)
   cases b1<;>cases b2<;>first|exact absurd rfl hb|simp(maxSteps:=9^9) only[az,seval,-ac,-ae,aw8,tE,ar,eC,eM,eN,apD]
  ·rw[show ah (val l) (val m)=aa by rw[Bool.eq_false_iff];simpa using hc]
   have hle:m.length≤l.length:=by
    rcases aT6 l.length m.length with h|h
    ·have:=pM hl cm h;omega
    ·exact h
   have eM:=ajT hl hm (by omega) hle (by omega)
   have eN:=eN l.length (val l-val m) b1 (by omega) (by omega)
   have eC':∃n:Nat,cH (val l) (val m)=.ofNat n:=by
    rcases Nat.eq_or_lt_of_le (Nat.le_of_not_lt hc)with h|h
    ·rw[h];exact⟨0,tR _⟩
    ·exact⟨1,pO h⟩
   obtain⟨n,hn⟩:=eC'
   rw[hn]at eC
   have z:(n<0)=False:=eq_false (by omega)
   cases b1<;>cases b2<;>first|exact absurd rfl hb|simp(maxSteps:=9^9) only[az,seval,-ac,-ae,aw8,tE,ar,eC,eM,eN,z]
def amg (a b:Int):(match aw a==aw b with|true=>cI (aw a&&ah 0 (ap a+ap b)) (ap a+ap b)|false=>match ah (ap a) (ap b)with|true=>cI (aw b&&ah 0 (ap b-ap a)) (ap b-ap a)|false=>cI (aw a&&ah 0 (ap a-ap b)) (ap a-ap b))=gI (a+b):=by
 have key:∀(q:Bool) (n:Nat),ap (a+b)=n→(0<n→aw (a+b)=q)→cI (q&&ah 0 n) n=gI (a+b):=fun q n h1 h2=>pR h1 h2
 simp only[dZ,agG]at key ⊢
 split
 ·rename_i h
  refine key _ _ ?_ fun hp=>?_
  ·have:(decide (a<0))=decide (b<0):=by simpa using h
   by_cases ha:a<0<;>by_cases hb:b<0<;>simp[ha,hb]at this<;>omega
  ·have:(decide (a<0))=decide (b<0):=by simpa using h
   by_cases ha:a<0<;>by_cases hb:b<0<;>simp[ha,hb]at this ⊢<;>omega
 ·rename_i h
  have h':(decide (a<0))≠decide (b<0):=by simpa using h
  split
  ·rename_i hc
   have hc:a.natAbs<b.natAbs:=by simpa using hc
   refine key _ _ ?_ fun hp=>?_
   ·by_cases ha:a<0<;>by_cases hb:b<0<;>simp[ha,hb]at h'<;>omega
   ·by_cases ha:a<0<;>by_cases hb:b<0<;>simp[ha,hb]at h' ⊢<;>omega
  ·rename_i hc
   have hc:¬a.natAbs<b.natAbs:=by rw[Bool.eq_false_iff]at hc;simpa using hc
   refine key _ _ ?_ fun hp=>?_
   ·by_cases ha:a<0<;>by_cases hb:b<0<;>simp[ha,hb]at h'<;>omega
   ·by_cases ha:a<0<;>by_cases hb:b<0<;>simp[ha,hb]at h' ⊢<;>omega
def vG {k:Cls}:Cn k 238 gH:=bZ (ay arN aqR.2 10 10 8) fun al rs h=>by
 obtain⟨a,b,rfl,ha,hb,rfl⟩:=l7 h
 have la:=fe ha
 have lb:=fe hb
 refine⟨_,_,apv a b,aDP (aI _) (aI _) (cn _) (cn _) _ _ (by omega) (by omega),?_⟩
 rw[aD,aD,amg]
 exact Imps.refl _
end
end Go.Proofs.YtfiijelajgifiaaGreat
