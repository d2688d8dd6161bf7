/-
  Part 10 of the machine and of the contracts of functions of the program (packed).
-/
import Derived.Test.YtfiijelajgifiaaGreatA09
set_option linter.all false
set_option linter.defProp false
open Bool renaming false→aa,true→ab,and_eq_true→aTT
open Int renaming reduceOfNat→ac,reduceNegSucc→ae,ofNat→af
open List renaming getElem?_eq_getElem→aTX,replicate→aT5,take_of_length_le→aUi,getElem_mem→aUl
open Nat renaming blt→ah,blt_eq→aTR,le_refl→aTS,mul_add→aT4,lt_or_ge→aT6,mod_eq_of_lt→aT9,mul_assoc→aUk
open Option renaming some→Z,none→U
namespace Go.Mach
noncomputable section
open Go Go.RowKit Go.Flow
variable [Limb]
abbrev aNZ (n:Nat):C:=.v (.int .u32 (af n))
abbrev dA (n:Nat):V1:=.one (aNZ n)
abbrev iT (n:Nat):T:=.t (.one (.c (.v (.int .i64 (.ofNat n)))))
abbrev uT (n:Nat):T:=.t (.one (.c (.v (.int .u32 (.ofNat n)))))
abbrev wT (n:Nat):T:=.t (.one (.c (.v (.int .u64 (.ofNat n)))))
def o5:List V1→Option (List V1)
 |[.one (.v (.int .u32 (.ofNat a))),.one (.v (.int .u32 (.ofNat b))),.one (.v (.int .u32 (.ofNat c)))]=>
  if a<4294967296∧b<4294967296∧c<2 then Z [dA ((a+b+c)%4294967296),dA ((a+b+c)/4294967296)] else U
 |_=>U
def aes:List V1→Option (List V1)
 |[.one (.v (.int .u32 (.ofNat a))),.one (.v (.int .u32 (.ofNat b))),.one (.v (.int .u32 (.ofNat c)))]=>
  if a<4294967296∧b<4294967296∧c<2 then Z [dA ((a+4294967296-b-c)%4294967296),dA (if a<b+c then 1 else 0)] else U
 |_=>U
end
end Go.Mach
namespace Go.Proofs.YtfiijelajgifiaaGreat
noncomputable section
open Go Go.Mach Go.Flow
set_option maxRecDepth 100000
set_option maxHeartbeats 4000000
def ay {k:Cls}{t:Ft}(h:t.Ok Tryz.prog k aH){f:FuncId}{c:FnC}(hf:FO f c)(fl fl' n:Nat):Cn k f (bM (ao t.tb fl n) fl' c):=
 aoN (ue (vP (by kernel_rfl) (Ft.tb_ok h) n) (by kernel_rfl) hf)
def asG {al rs:List V1}(h:o5 al=Z rs):bM (ao (Ft.tb .z) 10 8) 10 aqZ.1 al=Z rs:=by
 unfold o5 at h
 split at h
 ·rename_i a b c
  split at h
  ·rename_i hc
   obtain⟨h1,h2,h3⟩:=hc
   cases h
   have e1:a+b<18446744073709551616:=by omega
   have e2:a+b+c<18446744073709551616:=by omega
   have e3:a<18446744073709551616:=by omega
   have e4:b<18446744073709551616:=by omega
   have e5:c<18446744073709551616:=by omega
   have e6:(a+b+c)/4294967296<4294967296:=by omega
   simp(maxSteps:=9^9) only[az,seval,-ac,-ae,aRi,e1,e2,e3,e4,e5,aT9 e6]
  ·cases h
 ·cases h
def agm {k:Cls}:Cn k 299 o5:=aC (ay (t:=.z) trivial aqZ.2 10 10 8) fun _ _ h=>asG h
def aD6 (v:BitVec 32):BitVec.ofInt 32 (af (v.toNat%4294967296))=v:=by
 have:v.toNat%4294967296=v.toNat:=aT9 v.isLt
 rw[this]
 simp
def aIK (v:BitVec 32):BitVec.ofInt 32 (if IntKind.u32.signed=ab then -1 else IntKind.u32.max) ^^^ v = ~~~v:=by
 have:BitVec.ofInt 32 (if IntKind.u32.signed=ab then -1 else IntKind.u32.max)=BitVec.allOnes 32:=by decide
 rw[this,BitVec.allOnes_xor]
def aoS {a b c:Nat}(h1:a<4294967296)(h2:b<4294967296)(h3:c<2):(BitVec.ofInt 32 (af ((BitVec.ofInt 32 (af ((BitVec.ofInt 32 (if IntKind.u32.signed=ab then -1 else IntKind.u32.max) ^^^ BitVec.ofInt 32 (af a)).toNat%4294967296)) &&& BitVec.ofInt 32 (af b)).toNat%4294967296)) |||
  BitVec.ofInt 32 (af ((BitVec.ofInt 32 (af ((BitVec.ofInt 32 (if IntKind.u32.signed=ab then -1 else IntKind.u32.max) ^^^ BitVec.ofInt 32 (af ((BitVec.ofInt 32 (af a) ^^^ BitVec.ofInt 32 (af b)).toNat%4294967296))).toNat%4294967296)) &&&
   BitVec.ofInt 32 (af (((a+(4294967296-b%4294967296))%4294967296+(4294967296-c%4294967296))%4294967296))).toNat%4294967296))).toNat%4294967296/2147483648=if a<b+c then 1 else 0:=by
 simp only[aD6,aIK]
 generalize hd:((a+(4294967296-b%4294967296))%4294967296+(4294967296-c%4294967296))%4294967296=d
 have k:=alN (BitVec.ofInt 32 (af a)) (BitVec.ofInt 32 (af b)) (BitVec.ofInt 32 (af d))
 rw[BitVec.toNat_ushiftRight,Nat.shiftRight_eq_div_pow]at k
 rw[aT9 (BitVec.isLt _)]
 refine(show _=_ from k).trans ?_
 have e:∀n:Nat,n<4294967296→(BitVec.ofInt 32 (af n)).msb=decide (2147483648≤n):=by
  intro n hn
  rw[BitVec.msb_eq_decide]
  have:(BitVec.ofInt 32 (af n)).toNat=n:=by simp<;>omega
  rw[this]
 have hdl:d<4294967296:=by omega
 rw[e a h1,e b h2,e d hdl]
 by_cases q1:2147483648≤a<;>by_cases q2:2147483648≤b<;>by_cases q3:2147483648≤d<;>by_cases q4:a<b+c<;>simp[q1,q2,q3,q4]<;>omega
def awy {al rs:List V1}(h:aes al=Z rs):bM (ao (Ft.tb .z) 10 8) 10 aq0.1 al=Z rs:=by
 unfold aes at h
 split at h
 ·rename_i a b c
  split at h
  ·rename_i hc
   obtain⟨h1,h2,h3⟩:=hc
   cases h
   simp(maxSteps:=9^9) only[az,seval,-ac,-ae,aRj,aBJ]
   have key:=aoS h1 h2 h3
   have e1:((a+(4294967296-b%4294967296))%4294967296+(4294967296-c%4294967296))%4294967296=(a+4294967296-b-c)%4294967296:=by omega
   rw[e1]at key ⊢
   exact congrArg (fun n=>Z [dA ((a+4294967296-b-c)%4294967296),dA n]) key
  ·cases h
 ·cases h
def awx {k:Cls}:Cn k 300 aes:=aC (ay (t:=.z) trivial aq0.2 10 10 8) fun _ _ h=>awy h
def tB:Ft:=.n (.n .z 299 (.nat o5) U .z) 300 (.nat aes) U .z
def arM {k:Cls}:tB.Ok Tryz.prog k aH:=⟨⟨tv,agm,tv,tv⟩,awx,tv,tv⟩
def aiB {a b c:Nat}(h1:a<4294967296)(h2:b<4294967296)(h3:c<2):o5 [dA a,dA b,dA c]=Z [dA ((a+b+c)%4294967296),dA ((a+b+c)/4294967296)]:=by
 show(if _ then _ else _)=_
 rw[if_pos ⟨h1,h2,h3⟩]
abbrev aT (l:List Nat):T:=.t (.one (.c (aB l)))
def ahR:List V1→Option (List V1):=un2 fun a b=>match ah a.length 1000000&&ah b.length 1000000 with|true=>Z [.one (aB (aU (max a.length b.length+1) (val a+val b)))]|false=>U
def Ip (a b:List Nat)(i:Nat)(st:St):Prop:=
 ∃(o:List Nat) (c:Nat) (t0 t2 t7 t8 t10 t11:T) (W:List Nat),st=⟨[t0,iT i,t2,aT a,aT b,uT c,.t (.one (.lsl 0 0 (a.length+1) 1)),t7,t8,iT a.length,t10,t11],[Z (.cells (aJ o))],[],W,[]⟩∧
  o.length=a.length+1∧lims o∧c<2∧val (o.take i)+4294967296 ^ i*c=val (a.take i)+val (b.take i)
def aMO {a b:List Nat}(ha:lims a)(hb:lims b)(hn:a.length<2000000)(hm:b.length≤a.length){i:Nat}{st:St}(hi:i<a.length)(h:Ip a b i st)(fl:Nat):
  ∃st',am (ao tB.tb 10 8) fl yI st=Z (.normal,st')∧Ip a b (i+1) st':=by
 obtain⟨o,c,t0,t2,t7,t8,t10,t11,W,rfl,ho,lo,hc,hv⟩:=h
 have e1:i+1<9223372036854775808:=by omega
 have e2:i<a.length+1:=by omega
 have e3:i<o.length:=by omega
 have e3':i+1≤o.length:=by omega
 have da:=aA hi
 have la:=ha _ (aUl hi)
 obtain⟨y,hy,hys,hyv⟩:∃y,y<4294967296∧(i<b.length→b.drop i=y::b.drop (i+1))∧(¬i<b.length→y=0):=by
  by_cases hib:i<b.length
  ·exact⟨_,hb _ (aUl hib),fun _=>aA hib,fun h=>absurd hib h⟩
  ·exact⟨0,by omega,fun h=>absurd h hib,fun _=>rfl⟩
 have hval:val (b.take (i+1))=val (b.take i)+4294967296 ^ i*y:=by
  by_cases hib:i<b.length
  ·have h1:=hys hib
   rw[aA hib]at h1
   exact bG (by rw[aTX hib];exact congrArg Z (List.cons.inj h1).1)
  ·rw[hyv hib,aUi (by omega),aUi (by omega)];simp
 have ea:=aiB la hy hc
 have key:∀t0 t2 t7 t8 W,Ip a b (i+1) ⟨[t0,iT (i+1),t2,aT a,aT b,uT ((a[i]+y+c)/4294967296),.t (.one (.lsl 0 0 (a.length+1) 1)),t7,t8,iT a.length,t10,t11],[Z (.cells (aJ (o.set i ((a[i]+y+c)%4294967296))))],[],W,[]⟩:=by
  intro t0 t2 t7 t8 W
  refine⟨_,_,_,_,_,_,_,_,_,rfl,by simpa using ho,lo.set (by omega),by omega,?_⟩
  rw[pX e3,hval,bG (aTX hi),Nat.pow_succ]
  have e:(a[i]+y+c)%4294967296+4294967296*((a[i]+y+c)/4294967296)=a[i]+y+c:=Nat.mod_add_div _ _
  have e2:4294967296 ^ i*((a[i]+y+c)%4294967296)+4294967296 ^ i*4294967296*((a[i]+y+c)/4294967296)=4294967296 ^ i*a[i]+4294967296 ^ i*y+4294967296 ^ i*c:=by
   rw[aUk,← aT4,e,aT4,aT4]
  omega
 by_cases hib:i<b.length
 ·have db:=hys hib
  simp(maxSteps:=9^9) only[az,seval,-ac,-ae,ain,tB,hi,hib,e1,e2,e3,e3',da,db,ea,ar,bY]
  exact⟨_,rfl,key _ _ _ _ _⟩
 ·have hy0:=hyv hib
  subst hy0
  simp(maxSteps:=9^9) only[az,seval,-ac,-ae,ain,tB,hi,hib,e1,e2,e3,e3',da,ea,ar,bY]
  exact⟨_,rfl,key _ _ _ _ _⟩
def aJs {a b:List Nat}(hn:a.length<2000000){st:St}(h:Ip a b a.length st)(fl:Nat)(cf:av):
  ∃st',am cf fl yI st=Z (.exit 0,st')∧Ip a b a.length st':=by
 obtain⟨o,c,t0,t2,t7,t8,t10,t11,W,rfl,h⟩:=h
 simp(maxSteps:=9^9) only[az,seval,-ac,-ae,ain,ar]
 exact⟨_,rfl,_,_,_,_,_,_,_,_,_,rfl,h⟩
def auJ {a b:List Nat}(ha:lims a)(hb:lims b)(hn:a.length<2000000)(hm:b.length≤a.length)(cf:av)(hcf:cf=ao tB.tb 10 8)(t0 t1 t2 t7 t8 t10 t11:T)(W:List Nat):
  ∃st',aG (am cf 2000001 yI) 2000001 ⟨[.nil,iT 0,.nil,aT a,aT b,uT 0,.t (.one (.lsl 0 0 (a.length+1) 1)),t7,t8,iT a.length,t10,t11],[Z (.cells (aJ (a++[0])))],[],W,[]⟩=Z (.exit 0,st')∧Ip a b a.length st':=by
 subst hcf
 refine bq a.length (Ip a b) (Ip a b a.length) (fun i st hi h=>aMO ha hb hn hm hi h 2000001) (fun st h=>aJs hn h 2000001 _) 2000001 _ ⟨a++[0],0,_,_,_,_,_,_,_,rfl,by simp,ha.append (fun d hd=>by simp at hd;omega),by omega,by simp[val]⟩ (by omega)
def azg {a b:List Nat}(ha:lims a)(hb:lims b)(hn:a.length<1000000)(hm:b.length<1000000):
  bM (ao tB.tb 10 8) 2000001 afX.1 [.one (aB a),.one (aB b)]=Z [.one (aB (aU (max a.length b.length+1) (val a+val b)))]:=by
 have key:∀{a b:List Nat} {st:St},lims a→lims b→Ip a b a.length st→b.length≤a.length→∃o c t0 t2 t7 t8 t10 t11 W,st=⟨[t0,iT a.length,t2,aT a,aT b,uT c,.t (.one (.lsl 0 0 (a.length+1) 1)),t7,t8,iT a.length,t10,t11],[Z (.cells (aJ o))],[],W,[]⟩∧o.length=a.length+1∧o.set a.length c=aU (a.length+1) (val a+val b):=by
  intro a b st ha hb h hle
  obtain⟨o,c,t0,t2,t7,t8,t10,t11,W,rfl,ho,lo,hc,hv⟩:=h
  refine⟨o,c,_,_,_,_,_,_,_,rfl,ho,lz (lo.set (by omega)) (by simpa using ho) ?_⟩
  have e:=pX (l:=o) (i:=a.length) (d:=c) (by omega)
  rw[aUi (by simp;omega)]at e
  rw[aUi (aTS _),aUi hle]at hv
  omega
 rcases aT6 a.length b.length with hlt|hge
 ·obtain⟨st,hl,hI⟩:=auJ hb ha (by omega) (Nat.le_of_lt hlt) (ao tB.tb 10 8) rfl .nil .nil .nil .nil .nil (.t (.one (.c (.v (.slice U 0 0))))) (.t (.one (.c (.v (.bool ab))))) [0]
  obtain⟨o,c,t0,t2,t7,t8,t10,t11,W,rfl,ho,hd⟩:=key hb ha hI (Nat.le_of_lt hlt)
  have e1:b.length<o.length:=by omega
  generalize ao tB.tb 10 8=cf at hl ⊢
  have e2:b.length+1<9223372036854775808:=by omega
  have e3:b.length+1≤1073741824:=by omega
  have e4:4*(b.length+1)≤70368744177664:=by omega
  have e5:b.length≤b.length+1:=by omega
  have e6:(aT5 (b.length+1) 0).drop b.length=[0]:=by simp
  have e7:b.length<b.length+1:=by omega
  have e8:b.length+1≤o.length:=by omega
  have e9:(aU (b.length+1) (val b+val a)).length=b.length+1:=aQ _ _
  have e10:max a.length b.length=b.length:=by omega
  rw[Nat.add_comm (val a),e10]
  simp(maxSteps:=9^9) only[az,seval,-ac,-ae,aH9,hl,hlt,e1,e2,e3,e4,e5,e6,e7,e8,hd,e9,ar,akq,bY,ak7,Nat.min_eq_left e5,il,List.take_length,sk]
 ·obtain⟨st,hl,hI⟩:=auJ ha hb (by omega) hge (ao tB.tb 10 8) rfl .nil .nil .nil .nil .nil (.t (.one (.c (.v (.slice U 0 0))))) (.t (.one (.c (.v (.bool aa))))) [0]
  obtain⟨o,c,t0,t2,t7,t8,t10,t11,W,rfl,ho,hd⟩:=key ha hb hI hge
  have e1:a.length<o.length:=by omega
  generalize ao tB.tb 10 8=cf at hl ⊢
  have hlt:(a.length<b.length)=False:=eq_false (by omega)
  have e2:a.length+1<9223372036854775808:=by omega
  have e3:a.length+1≤1073741824:=by omega
  have e4:4*(a.length+1)≤70368744177664:=by omega
  have e5:a.length≤a.length+1:=by omega
  have e6:(aT5 (a.length+1) 0).drop a.length=[0]:=by simp
  have e7:a.length<a.length+1:=by omega
  have e8:a.length+1≤o.length:=by omega
  have e9:(aU (a.length+1) (val a+val b)).length=a.length+1:=aQ _ _
  have e10:max a.length b.length=a.length:=by omega
  rw[e10]
  simp(maxSteps:=9^9) only[az,seval,-ac,-ae,aH9,hl,hlt,e1,e2,e3,e4,e5,e6,e7,e8,hd,e9,ar,akq,bY,ak7,Nat.min_eq_left e5,il,List.take_length,sk]
def avI {k:Cls}:Cn k 272 ahR:=aC (ay arM afX.2 10 2000001 8) fun al rs h=>by
 obtain⟨a,b,rfl,ha,hb,h⟩:=aew h
 split at h
 ·rename_i hc
  cases h
  rw[aTT,aTR,aTR]at hc
  exact azg ha hb hc.1 hc.2
 ·cases h
def aF0 {a b:List Nat}(ha:lims a)(hb:lims b)(h1:a.length<1000000)(h2:b.length<1000000):ahR [.one (aB a),.one (aB b)]=Z [.one (aB (aU (max a.length b.length+1) (val a+val b)))]:=by
 unfold ahR;rw[ah3 ha hb]
 have hc:(ah a.length 1000000&&ah b.length 1000000)=ab:=by rw[aTT,aTR,aTR];exact⟨h1,h2⟩
 simp only[hc]
end
end Go.Proofs.YtfiijelajgifiaaGreat
