/-
  Part 12 of the machine and of the contracts of functions of the program (packed).
-/
import Derived.Test.YtfiijelajgifiaaGreatA11
set_option linter.all false
set_option linter.defProp false
open Bool renaming false→aa,true→ab,and_eq_true→aTT
open Int renaming reduceOfNat→ac,reduceNegSucc→ae,ofNat→af,ofNat_eq_natCast→aT7
open List renaming getElem?_eq_some_iff→aTU,getElem?_eq_getElem→aTX,replicate→aT5,drop_length→aUg,take_of_length_le→aUi,getElem_mem→aUl,length_take→aUo
open Nat renaming blt→ah,log2→aj,ble→aTQ,blt_eq→aTR,le_refl→aTS,mul_add→aT4,lt_or_ge→aT6,mod_eq_of_lt→aT9,mod_lt→aUb,eq_zero_or_pos→aUc,le_trans→aUd,zero_add→aUe,lt_of_le_of_lt→aUh,lt_of_lt_of_le→aUj,mul_assoc→aUk
open Option renaming some→Z,none→U
namespace Go.Mach
noncomputable section
open Go Go.RowKit Go.Flow
def avC {x y k:Nat}(hy:y<2 ^ k):x*2 ^ k ||| y=x*2 ^ k+y:=by
 rw[← Nat.shiftLeft_eq,Nat.shiftLeft_add_eq_or_of_lt hy]
def aD7 {x y:Nat}(hx:x<18446744073709551616)(hy:y<18446744073709551616):b9 .or .u64 (.ofNat x) (.ofNat y)=Z (.int .u64 (.ofNat (x ||| y))):=by
 have e:(BitVec.ofInt 64 (af x) ||| BitVec.ofInt 64 (af y)).toNat=x ||| y:=by
  have hx':(BitVec.ofInt 64 (af x)).toNat=x:=by simp<;>omega
  have hy':(BitVec.ofInt 64 (af y)).toNat=y:=by simp<;>omega
  rw[BitVec.toNat_or,hx',hy']
 have lt:x ||| y<2 ^ 64:=Nat.or_lt_two_pow hx hy
 show Z (Value.int .u64 (IntKind.wrap .u64 (af (BitVec.ofInt 64 (af x) ||| BitVec.ofInt 64 (af y)).toNat)))=_
 rw[e,np,aT9 lt]
def aml {x y:Nat}(hx:x<4294967296)(hy:y<4294967296):b9 .or .u32 (.ofNat x) (.ofNat y)=Z (.int .u32 (.ofNat (x ||| y))):=by
 have e:(BitVec.ofInt 32 (af x) ||| BitVec.ofInt 32 (af y)).toNat=x ||| y:=by
  have hx':(BitVec.ofInt 32 (af x)).toNat=x:=by simp<;>omega
  have hy':(BitVec.ofInt 32 (af y)).toNat=y:=by simp<;>omega
  rw[BitVec.toNat_or,hx',hy']
 have lt:x ||| y<2 ^ 32:=Nat.or_lt_two_pow hx hy
 show Z (Value.int .u32 (IntKind.wrap .u32 (af (BitVec.ofInt 32 (af x) ||| BitVec.ofInt 32 (af y)).toNat)))=_
 rw[e,alG,aT9 lt]
def ahQ {x y:Nat}(hx:x<4294967296)(hy:y<4294967296):b9 .or .u64 (.ofNat (x*4294967296)) (.ofNat y)=Z (.int .u64 (.ofNat (x*4294967296+y))):=by
 rw[aD7 (by omega) (by omega)]
 have:x*4294967296 ||| y=x*4294967296+y:=avC (k:=32) hy
 rw[this]
def av2 {r x d:Nat}(hd:0<d)(hr:r<d)(hx:x<4294967296):(r*4294967296+x)/d<4294967296:=by
 rw[Nat.div_lt_iff_lt_mul hd]
 have h1:(r+1)*4294967296≤d*4294967296:=Nat.mul_le_mul_right _ hr
 rw[Nat.add_mul,Nat.one_mul,Nat.mul_comm d]at h1
 exact aUj (Nat.add_lt_add_left hx _) h1
def nm {l:List Nat}{i:Nat}(h:i<l.length):val (l.drop i)=l[i]+4294967296*val (l.drop (i+1)):=by
 rw[aA h,val]
end
end Go.Mach
namespace Go.Proofs.YtfiijelajgifiaaGreat
noncomputable section
open Go Go.Mach Go.Flow
set_option maxRecDepth 100000
set_option maxHeartbeats 4000000
def Is (a:List Nat)(d:Nat)(j:Nat)(st:St):Prop:=
 ∃(o:List Nat) (t3 t6 t7:T) (W:List Nat),st=⟨[wT (val (a.drop j)%d),zT j,uT d,t3,aT a,.t (.one (.lsl 0 0 a.length 1)),t6,t7],[Z (.cells (aJ o))],[],W,[]⟩∧
  j≤a.length∧o.length=a.length∧lims o∧val (o.drop j)=val (a.drop j)/d
def aGs {a:List Nat}{d:Nat}(ha:lims a)(hd:0<d)(hd':d<4294967296)(hn:a.length<2000000){j:Nat}{st:St}(h:Is a d j st)(fl:Nat)(cf:av):
  (∃j' st',am cf fl yK st=Z (.normal,st')∧Is a d j' st'∧j'<j)∨(∃x st',am cf fl yK st=Z (x,st')∧x≠.normal∧x=.exit 0∧Is a d 0 st'):=by
 obtain⟨o,t3,t6,t7,W,rfl,hj,ho,lo,hv⟩:=h
 rcases aUc j with rfl|hp
 ·right
  simp(maxSteps:=9^9) only[az,seval,-ac,-ae,jG,jH,ast,ar]
  exact⟨_,_,rfl,by simp,rfl,_,_,_,_,_,rfl,hj,ho,lo,hv⟩
 ·left
  obtain⟨i,rfl⟩:∃i,j=i+1:=⟨j-1,by omega⟩
  have hi:i<a.length:=by omega
  have da:=aA hi
  have la:=ha _ (aUl hi)
  have va:=nm hi
  have hr:=aUb (val (a.drop (i+1))) hd
  have hv':=Nat.div_add_mod (val (a.drop (i+1))) d
  rw[← hv]at hv'
  generalize hQ:val (a.drop (i+1))%d=r at hr hv'
  have e2:(0≤i)=True:=eq_true (by omega)
  have e3:i<9223372036854775808:=by omega
  have e4:i<o.length:=by omega
  have e5:i+1≤o.length:=by omega
  have e6:=jw e3
  have e7:r*4294967296<18446744073709551616:=by omega
  have e8:a[i]<18446744073709551616:=by omega
  have e9:=ahQ (x:=r) (y:=a[i]) (by omega) la
  have e10:d<18446744073709551616:=by omega
  have e11:(d==0)=aa:=by simp only[beq_eq_false_iff_ne,ne_eq];omega
  have q1:(r*4294967296+a[i])/d<4294967296:=av2 hd hr la
  have q2:(r*4294967296+a[i])/d<18446744073709551616:=by omega
  have q3:(r*4294967296+a[i])%d<18446744073709551616:=by have:=aUb (r*4294967296+a[i]) hd;omega
  have eq1:val (a.drop i)=d*(4294967296*val (o.drop (i+1)))+(r*4294967296+a[i]):=by
   rw[va,← hv',aT4,Nat.mul_left_comm]
   omega
  have k1:val (a.drop i)/d=4294967296*val (o.drop (i+1))+(r*4294967296+a[i])/d:=by rw[eq1,Nat.mul_add_div hd]
  have k2:val (a.drop i)%d=(r*4294967296+a[i])%d:=by rw[eq1,Nat.mul_add_mod]
  simp(maxSteps:=9^9) only[az,seval,-ac,-ae,jG,jH,ast,ar,hi,da,e2,e3,e4,e5,e6,e7,e8,e9,e10,e11,q1,q2,q3,bY,aT9 q1]
  rw[← k2]
  refine⟨i,_,rfl,⟨o.set i ((r*4294967296+a[i])/d),_,_,_,_,rfl,by omega,by simpa using ho,lo.set q1,?_⟩,by omega⟩
  ·rw[nm (by simpa using e4),List.getElem_set_self,List.drop_set_of_lt (by omega),k1]
   omega
def awr {a:List Nat}{d:Nat}(ha:lims a)(hd:0<d)(hd':d<4294967296)(hn:a.length<1000000):
  bM (ao (Ft.tb .z) 10 8) 2000001 afY.1 [.one (aB a),dA d]=Z [.one (aB (aU a.length (val a/d))),dA (val a%d)]:=by
 have hcf:∀cf,∃st',aG (am cf 2000001 yK) 2000001 ⟨[wT 0,zT a.length,uT d,.nil,aT a,.t (.one (.lsl 0 0 a.length 1)),.t (.one (.c (.v (.slice U 0 0)))),uT 0],[Z (.cells (aJ (aT5 a.length 0)))],[],[],[]⟩=Z (.exit 0,st')∧Is a d 0 st':=by
  intro cf
  obtain⟨x,st',h1,_,rfl,h3⟩:=bg (Is a d) (fun j=>j) (fun x st'=>x=.exit 0∧Is a d 0 st') (fun j st h=>aGs ha hd hd' (by omega) h 2000001 cf) 2000001 a.length
   ⟨[wT 0,zT a.length,uT d,.nil,aT a,.t (.one (.lsl 0 0 a.length 1)),.t (.one (.c (.v (.slice U 0 0)))),uT 0],[Z (.cells (aJ (aT5 a.length 0)))],[],[],[]⟩
   ⟨aT5 a.length 0,.nil,.t (.one (.c (.v (.slice U 0 0)))),uT 0,[],by rw[aUg];simp[val],aTS _,by simp,gQ _,by rw[aUg,List.drop_of_length_le (by simp)];simp[val]⟩ (by omega)
  exact⟨st',h1,h3⟩
 obtain⟨st',hl,o,t3,t6,t7,W,rfl,_,ho,lo,hv⟩:=hcf (ao (Ft.tb .z) 10 8)
 rw[List.drop_zero,List.drop_zero]at hv
 rw[List.drop_zero]at hl
 have hr:=aUb (val a) hd
 have hd2:o=aU a.length (val a/d):=lz lo ho hv
 subst hd2
 generalize ao (Ft.tb .z) 10 8=cf at hl ⊢
 have e2:a.length<9223372036854775808:=by omega
 have e3:a.length≤1073741824:=by omega
 have e4:4*a.length≤70368744177664:=by omega
 have e5:=jw e2
 have e6:val a%d<4294967296:=by omega
 simp(maxSteps:=9^9) only[az,seval,-ac,-ae,aRd,hl,e2,e3,e4,e5,ar,aT9 e6]
def z6:List V1→Option (List V1)
 |[x,.one (.v (.int .u32 (.ofNat d)))]=>match wj x with
  |some a=>(match ah 0 d&&(ah d 4294967296&&ah a.length 1000000)with|true=>Z [.one (aB (aU a.length (val a/d))),dA (val a%d)]|false=>U)
  |none=>U
 |_=>U
def ary {k:Cls}:Cn k 277 z6:=aC (ay (t:=.z) trivial afY.2 10 2000001 8) fun al rs h=>by
 unfold z6 at h
 split at h
 ·rename_i x d
  split at h
  ·rename_i a hx
   obtain⟨rfl,ha⟩:=uQ hx
   split at h
   ·rename_i hc
    cases h
    rw[aTT,aTT,aTR,aTR,aTR]at hc
    exact awr ha hc.1 hc.2.1 hc.2.2
   ·cases h
  ·cases h
 ·cases h
def aBe {a:List Nat}{d:Nat}(ha:lims a)(hd:0<d)(hd':d<4294967296)(hn:a.length<1000000):z6 [.one (aB a),dA d]=Z [.one (aB (aU a.length (val a/d))),dA (val a%d)]:=by
 have hc:(ah 0 d&&(ah d 4294967296&&ah a.length 1000000))=ab:=by rw[aTT,aTT,aTR,aTR,aTR];exact⟨hd,hd',hn⟩
 simp only[z6,yR ha,hc]
end
end Go.Proofs.YtfiijelajgifiaaGreat
namespace Go.Mach
noncomputable section
open Go Go.RowKit Go.Flow
def aKm {x k:Nat}(hk:k<32):(x*2 ^ k)%4294967296=(x%2 ^ (32-k))*2 ^ k:=by
 have:4294967296=2 ^ (32-k)*2 ^ k:=by rw[← Nat.pow_add,Nat.sub_add_cancel (by omega)]
 rw[this,Nat.mul_mod_mul_right]
def aKo {x k h:Nat}(hk:k<32)(hh:h<2 ^ k):h ||| (x*2 ^ k)%4294967296=h+(x*2 ^ k)%4294967296∧h+(x*2 ^ k)%4294967296<4294967296:=by
 rw[aKm hk,Nat.or_comm,avC hh,Nat.add_comm]
 refine⟨rfl,?_⟩
 have h1:x%2 ^ (32-k)<2 ^ (32-k):=aUb _ (Nat.pow_pos (by omega))
 have h2:(x%2 ^ (32-k)+1)*2 ^ k≤2 ^ (32-k)*2 ^ k:=Nat.mul_le_mul_right _ h1
 have h3:2 ^ (32-k)*2 ^ k=4294967296:=by rw[← Nat.pow_add,Nat.sub_add_cancel (by omega)]
 rw[h3,Nat.add_mul,Nat.one_mul]at h2
 omega
end
end Go.Mach
namespace Go.Proofs.YtfiijelajgifiaaGreat
noncomputable section
open Go Go.Mach Go.Flow
set_option maxRecDepth 100000
set_option maxHeartbeats 4000000
def Ih (H0:Hp)(a:List Nat)(k:Nat)(i:Nat)(st:St):Prop:=
 ∃(o:List Nat) (t1 t2 t4 t5 t9 t10:T) (W:List Nat),st=⟨[iT i,t1,t2,.t (.one (.lsl H0.length 0 (a.length+1) 1)),t4,t5,aT a,iT a.length,iT k,t9,t10],H0++[Z (.cells (aJ o))],[],W,[]⟩∧
  o.length=a.length+1∧lims o∧(∃h,o[i]?=Z h∧h<2 ^ k)∧val (o.take (i+1))=val (a.take i)*2 ^ k
def aMM {H0:Hp}{a:List Nat}{k:Nat}(ha:lims a)(hk:k<32)(hn:a.length<2000000){i:Nat}{st:St}(hi:i<a.length)(h:Ih H0 a k i st)(fl:Nat)(cf:av):
  ∃st',am cf fl yO st=Z (.normal,st')∧Ih H0 a k (i+1) st':=by
 obtain⟨o,t1,t2,t4,t5,t9,t10,W,rfl,ho,lo,⟨u,hu,hlt⟩,hv⟩:=h
 have e1:i+1<9223372036854775808:=by omega
 have e3:i<o.length:=by omega
 have e3':i+1≤o.length:=by omega
 have e4:i+1<a.length+1:=by omega
 have e5:i<a.length+1:=by omega
 have e6:i+1+1≤o.length:=by omega
 have e7:i+1<o.length:=by omega
 have da:=aA hi
 have la:=ha _ (aUl hi)
 have x1:a[i]<18446744073709551616:=by omega
 have pk:2 ^ k≤2147483648:=by
  have:2 ^ k≤2 ^ 31:=Nat.pow_le_pow_right (by omega) (by omega)
  simpa using this
 have x2:a[i]*2 ^ k<18446744073709551616:=by
  have:a[i]*2 ^ k≤4294967295*2147483648:=Nat.mul_le_mul (by omega) pk
  omega
 have x3:a[i]*2 ^ k/4294967296<2 ^ k:=by
  rw[Nat.div_lt_iff_lt_mul (by omega),Nat.mul_comm]
  exact Nat.mul_lt_mul_of_pos_left la (Nat.pow_pos (by omega))
 have x4:a[i]*2 ^ k/4294967296<4294967296:=by omega
 obtain⟨l1,l2⟩:=aKo (x:=a[i]) hk hlt
 have dq:o.drop i=u::o.drop (i+1):=by
  rw[aA e3]
  rw[aTX e3,Option.some.injEq]at hu
  rw[hu]
 have eo:=aml (x:=u) (y:=a[i]*2 ^ k%4294967296) (by omega) (by omega)
 rw[l1]at eo
 have k6:(aTQ (k+1) 64)=ab:=by simp;omega
 simp(maxSteps:=9^9) only[az,seval,-ac,-ae,asy,ar,hi,da,dq,e1,e3,e3',e4,e5,e6,e7,x1,x2,eo,k6,bY,aT9 x4,List.length_set,bk,bx]
 refine⟨_,rfl,(o.set i (u+a[i]*2 ^ k%4294967296)).set (i+1) (a[i]*2 ^ k/4294967296),_,_,_,_,_,_,_,rfl,by simpa using ho,(lo.set l2).set x4,⟨_,aaG (by simpa using e7),x3⟩,?_⟩
 rw[pX (by simpa using e7),pX e3,bG (aTX hi),Nat.add_mul,← hv,bG hu,Nat.pow_succ,aT4]
 have m:=Nat.mod_add_div (a[i]*2 ^ k) 4294967296
 have m2:4294967296 ^ i*(a[i]*2 ^ k%4294967296)+4294967296 ^ i*4294967296*(a[i]*2 ^ k/4294967296)=4294967296 ^ i*a[i]*2 ^ k:=by
  rw[aUk,← aT4,m,aUk]
 omega
def aJr {H0:Hp}{a:List Nat}{k:Nat}{st:St}(h:Ih H0 a k a.length st)(fl:Nat)(cf:av):
  ∃st',am cf fl yO st=Z (.exit 0,st')∧Ih H0 a k a.length st':=by
 obtain⟨o,t1,t2,t4,t5,t9,t10,W,rfl,h⟩:=h
 simp(maxSteps:=9^9) only[az,seval,-ac,-ae,asy,ar]
 exact⟨_,rfl,_,_,_,_,_,_,_,_,rfl,h⟩
def z5:kU:=cy cf0 2000001 af2.1
def arw {k:Cls}:CX k 304 z5:=ue asX (by kernel_rfl) af2.2
def aep {H0:Hp}{a:List Nat}{k:Nat}(ha:lims a)(hk:k<32)(hn:a.length<1000000):
  ∃W,z5 [aT a,iT k] H0 []=Z (.t (.one (.lsl H0.length 0 (a.length+1) 1)),H0++[Z (.cells (aJ (aU (a.length+1) (val a*2 ^ k))))],[],W):=by
 have hcf:∃st',aG (am cf0 2000001 yO) 2000001 ⟨[iT 0,.nil,.nil,.t (.one (.lsl H0.length 0 (a.length+1) 1)),.nil,.nil,aT a,iT a.length,iT k,aT a,.t (.one (.c (.v (.slice U 0 0))))],H0++[Z (.cells (aJ (aT5 (a.length+1) 0)))],[],[],[]⟩=Z (.exit 0,st')∧Ih H0 a k a.length st':=
  bq a.length (Ih H0 a k) (Ih H0 a k a.length) (fun i st hi h=>aMM ha hk (by omega) hi h 2000001 cf0) (fun st h=>aJr h 2000001 _) 2000001 _ ⟨_,_,_,_,_,_,_,_,rfl,by simp,gQ _,⟨0,by simp,Nat.pow_pos (by omega)⟩,by simp[List.replicate_succ,val]⟩ (by omega)
 obtain⟨st',hl,o,t1,t2,t4,t5,t9,t10,W,rfl,ho,lo,_,hv⟩:=hcf
 rw[aUi (by omega),List.take_length]at hv
 have hd:o=aU (a.length+1) (val a*2 ^ k):=lz lo ho hv
 subst hd
 have e2:a.length+1<9223372036854775808:=by omega
 have e3:a.length+1≤1073741824:=by omega
 have e4:4*(a.length+1)≤70368744177664:=by omega
 refine⟨W,?_⟩
 unfold z5
 generalize cf0=cf at hl
 simp(maxSteps:=9^9) only[az,seval,-ac,-ae,aRm,hl,e2,e3,e4,ar]
def ahH:List V1→Option (List V1)
 |[.one (.v (.int .u32 (.ofNat x)))]=>match ah 0 x&&ah x 4294967296 with|true=>Z [.one (.v (.int .i64 (.ofNat (aj x+1))))]|false=>U
 |_=>U
def jO (y:Nat):Nat:=match y with|0=>0|_=>aj y+1
def arO:List UInt8:=[0,1,2,2,3,3,3,3,4,4,4,4,4,4,4,4,5,5,5,5,5,5,5,5,5,5,5,5,5,5,5,5,6,6,6,6,6,6,6,6,6,6,6,6,6,6,6,6,6,6,6,6,6,6,6,6,6,6,6,6,6,6,6,6,7,7,7,7,7,7,7,7,7,7,7,7,7,7,7,7,7,7,7,7,7,7,7,7,7,7,7,7,7,7,7,7,7,7,7,7,7,7,7,7,7,7,7,7,7,7,7,7,7,7,7,7,7,7,7,7,7,7,7,7,7,7,7,7,8,8,8,8,8,8,8,8,8,8,8,8,8,8,8,8,8,8,8,8,8,8,8,8,8,8,8,8,8,8,8,8,8,8,8,8,8,8,8,8,8,8,8,8,8,8,8,8,8,8,8,8,8,8,8,8,8,8,8,8,8,8,8,8,8,8,8,8,8,8,8,8,8,8,8,8,8,8,8,8,8,8,8,8,8,8,8,8,8,8,8,8,8,8,8,8,8,8,8,8,8,8,8,8,8,8,8,8,8,8,8,8,8,8,8,8,8,8,8,8,8,8,8,8,8,8,8,8]
def aBE:∀y,y<256→arO[y]?=Z (UInt8.ofNat (jO y)):=by decide +kernel
def pS {y:Nat}(h:y<256):jO y<256:=by
 cases y with
 |zero=>simp[jO]
 |succ y=>
  have:=(Nat.log2_lt (n:=y+1) (k:=8) (by omega)).2 (by omega)
  show aj (y+1)+1<256
  omega
def apw {y:Nat}(h:y<256):adi (.t (.one (.c (.v (.string ⟨⟨arO⟩⟩))))) (.t (.one (.c (.v (.int .u8 (af y))))))=Z (.t (.one (.c (.v (.int .u8 (af (jO y))))))):=by
 show(match arO[y]? with|some b=>Z (T.t (.one (.c (.v (.int .u8 (af b.toNat))))))|none=>U)=_
 rw[aBE y h]
 have:(UInt8.ofNat (jO y)).toNat=jO y:=by
  rw[UInt8.toNat_ofNat'];exact aT9 (pS h)
 simp only[this]
def ahJ:uP .u8=256:=rfl
def aba:([0,1,2,2,3,3,3,3,4,4,4,4,4,4,4,4,5,5,5,5,5,5,5,5,5,5,5,5,5,5,5,5,6,6,6,6,6,6,6,6,6,6,6,6,6,6,6,6,6,6,6,6,6,6,6,6,6,6,6,6,6,6,6,6,7,7,7,7,7,7,7,7,7,7,7,7,7,7,7,7,7,7,7,7,7,7,7,7,7,7,7,7,7,7,7,7,7,7,7,7,7,7,7,7,7,7,7,7,7,7,7,7,7,7,7,7,7,7,7,7,7,7,7,7,7,7,7,7,8,8,8,8,8,8,8,8,8,8,8,8,8,8,8,8,8,8,8,8,8,8,8,8,8,8,8,8,8,8,8,8,8,8,8,8,8,8,8,8,8,8,8,8,8,8,8,8,8,8,8,8,8,8,8,8,8,8,8,8,8,8,8,8,8,8,8,8,8,8,8,8,8,8,8,8,8,8,8,8,8,8,8,8,8,8,8,8,8,8,8,8,8,8,8,8,8,8,8,8,8,8,8,8,8,8,8,8,8,8,8,8,8,8,8,8,8,8,8,8,8,8,8,8,8,8,8,8]:List UInt8)=arO:=rfl
def wn {x k:Nat}(h:2 ^ k≤x):aj (x/2 ^ k)+k=aj x:=by
 have hx:0<x:=aUj (Nat.pow_pos (by omega)) h
 have hp:0<2 ^ k:=Nat.pow_pos (by omega)
 have hy:x/2 ^ k≠0:=by have:=Nat.div_pos h hp;omega
 have a1:=Nat.log2_self_le hy
 have a2:x/2 ^ k<2 ^ (aj (x/2 ^ k)+1):=(Nat.log2_lt hy).1 (by omega)
 have b1:2 ^ (aj (x/2 ^ k)+k)≤x:=by
  rw[Nat.pow_add]
  exact aUd (Nat.mul_le_mul_right _ a1) (Nat.div_mul_le_self x _)
 have b2:x<2 ^ (aj (x/2 ^ k)+k+1):=by
  rw[show aj (x/2 ^ k)+k+1=(aj (x/2 ^ k)+1)+k by omega,Nat.pow_add]
  exact(Nat.div_lt_iff_lt_mul hp).1 a2
 have c1:=(Nat.log2_lt (n:=x) (k:=aj (x/2 ^ k)+k+1) (by omega)).2 b2
 have c2:aj (x/2 ^ k)+k≤aj x:=(Nat.le_log2 (by omega)).2 b1
 omega
def auE {x:Nat}(h0:0<x)(h:x<4294967296):bM (ao (Ft.tb .z) 10 8) 10 aqW.1 [dA x]=Z [.one (.v (.int .i64 (.ofNat (aj x+1))))]:=by
 have i64:∀n:Nat,n<1000→n<9223372036854775808:=fun n h=>by omega
 have l8:∀{y:Nat},0<y→jO y=aj y+1:=fun {y} h=>by
  obtain⟨m,rfl⟩:∃m,y=m+1:=⟨y-1,by omega⟩
  rfl
 have fin:∀(y s:Nat),y<256→s+jO y=aj x+1→s<100→s+jO y<9223372036854775808:=fun y s h1 h2 h3=>by have:=pS h1;omega
 by_cases c1:65536≤x
 ·have s1:=wn (x:=x) (k:=16) c1
  have hx1:x/65536<65536:=by omega
  have d1:0<x/65536:=by omega
  by_cases c2:256≤x/65536
  ·have s2:=wn (x:=x/65536) (k:=8) c2
   have d2:0<x/65536/256:=by omega
   have c3:x/65536/256<256:=by omega
   have e:=apw c3
   have e2:24+jO (x/65536/256)=aj x+1:=by rw[l8 d2];have s1:aj (x/65536)+16=_:=s1;have s2:aj (x/65536/256)+8=_:=s2;omega
   have e3:=fin _ 24 c3 e2 (by omega)
   have e4:jO (x/65536/256)<9223372036854775808:=by have:=pS c3;omega
   rw[e2]at e3
   simp(maxSteps:=9^9) only[az,seval,-ac,-ae,aoI,aba,ahJ,c1,c2,c3,e,e2,e3,e4]
  ·have c3:x/65536<256:=by omega
   have e:=apw c3
   have e2:16+jO (x/65536)=aj x+1:=by rw[l8 d1];have s1:aj (x/65536)+16=_:=s1;omega
   have e3:=fin _ 16 c3 e2 (by omega)
   have e4:jO (x/65536)<9223372036854775808:=by have:=pS c3;omega
   rw[e2]at e3
   simp(maxSteps:=9^9) only[az,seval,-ac,-ae,aoI,aba,ahJ,c1,c2,c3,e,e2,e3,e4]
 ·by_cases c2:256≤x
  ·have s2:=wn (x:=x) (k:=8) c2
   have d2:0<x/256:=by omega
   have c3:x/256<256:=by omega
   have e:=apw c3
   have e2:8+jO (x/256)=aj x+1:=by rw[l8 d2];have s2:aj (x/256)+8=_:=s2;omega
   have e3:=fin _ 8 c3 e2 (by omega)
   have e4:jO (x/256)<9223372036854775808:=by have:=pS c3;omega
   rw[e2]at e3
   simp(maxSteps:=9^9) only[az,seval,-ac,-ae,aoI,aba,ahJ,c1,c2,c3,e,e2,e3,e4]
  ·have c3:x<256:=by omega
   have e:=apw c3
   have e2:jO x=aj x+1:=l8 h0
   have e4:jO x<9223372036854775808:=by have:=pS c3;omega
   rw[e2]at e4
   simp(maxSteps:=9^9) only[az,seval,-ac,-ae,aoI,aba,ahJ,c1,c2,c3,e,e2,e4]
def auD {k:Cls}:Cn k 287 ahH:=aC (ay (t:=.z) trivial aqW.2 10 10 8) fun al rs h=>by
 unfold ahH at h
 split at h
 ·rename_i x
  split at h
  ·rename_i hc
   cases h
   rw[aTT,aTR,aTR]at hc
   exact auE hc.1 hc.2
  ·cases h
 ·cases h
def afb:List V1→Option (List V1)
 |[.one (.v (.int .u32 (.ofNat x)))]=>match ah 0 x&&ah x 4294967296 with|true=>Z [.one (.v (.int .i64 (.ofNat (31-aj x))))]|false=>U
 |_=>U
def tLz:Ft:=.n .z 287 (.nat ahH) U .z
def aNn {k:Cls}:tLz.Ok Tryz.prog k aH:=⟨tv,auD,tv,tv⟩
def ayE {k:Cls}:Cn k 303 afb:=aC (ay aNn aAg.2 10 10 8) fun al rs h=>by
 unfold afb at h
 split at h
 ·rename_i x
  split at h
  ·rename_i hc
   cases h
   have e:ahH [dA x]=Z [.one (.v (.int .i64 (.ofNat (aj x+1))))]:=by
    show(match ah 0 x&&ah x 4294967296 with|true=>_|false=>_)=_
    rw[hc]
   rw[aTT,aTR,aTR]at hc
   have hl:aj x<32:=(Nat.log2_lt (by omega)).2 (by simpa using hc.2)
   have e2:af 32-af (aj x+1)=af (31-aj x):=by simp only[aT7];omega
   have e3:31-aj x<9223372036854775808:=by omega
   simp(maxSteps:=9^9) only[az,seval,-ac,-ae,aRl,tLz,e,e2,e3]
  ·cases h
 ·cases h
def aKw {x:Nat}(h0:0<x)(h:x<4294967296):afb [dA x]=Z [.one (.v (.int .i64 (.ofNat (31-aj x))))]:=by
 have hc:(ah 0 x&&ah x 4294967296)=ab:=by rw[aTT,aTR,aTR];exact⟨h0,h⟩
 simp only[afb,hc]
section
variable {u v qs:List Nat} {i n m w:Nat} {t3 t4 t5 t9 t10 t11 t12 t13 t14 t15 t18 t19 t20 t21 t22 t23 t24 t25 t26 t27 t28 t29 t30 t31 t32 t33 t34 t35 t36:T} {W:List Nat}
def I1 (u v qs:List Nat)(i n m w:Nat)(t3 t4 t5 t9 t10 t11 t12 t13 t14 t15 t18 t19 t20 t21 t22 t23 t24 t25 t26 t27 t28 t29 t30 t31 t32 t33 t34 t35 t36:T)(W:List Nat)(K:Nat × Nat × Nat × Nat)(s:Nat × Nat × Nat)(st:St):Prop:=
 ∃(t16 t17:T),(match s with|(g,r,c)=>st=⟨[iT i,.t (.one (.lsl 0 0 m 1)),wT g,t3,t4,t5,iT n,wT r,.t (.one (.lsl 1 0 n 1)),t9,t10,t11,t12,t13,t14,t15,t16,t17,t18,t19,t20,t21,t22,t23,t24,t25,t26,t27,t28,t29,t30,t31,t32,t33,t34,t35,t36],[Z (.cells (aJ u)),Z (.cells (aJ v)),Z (.cells (aJ qs))],[],W,[]⟩∧g*K.1+r=K.2.1∧K.2.2.1≤g∧g≤4294967297∧r≤4294967295∧c*2147483648≤r)
def Q1 (u v qs:List Nat)(i n m w:Nat)(t3 t4 t5 t9 t10 t11 t12 t13 t14 t15 t18 t19 t20 t21 t22 t23 t24 t25 t26 t27 t28 t29 t30 t31 t32 t33 t34 t35 t36:T)(W:List Nat)(q:Nat)(x:X)(st:St):Prop:=
 x=.exit 2∧∃(g:Nat) (t7 t16 t17:T),st=⟨[iT i,.t (.one (.lsl 0 0 m 1)),wT g,t3,t4,t5,iT n,t7,.t (.one (.lsl 1 0 n 1)),t9,t10,t11,t12,t13,t14,t15,t16,t17,t18,t19,t20,t21,t22,t23,t24,t25,t26,t27,t28,t29,t30,t31,t32,t33,t34,t35,t36],[Z (.cells (aJ u)),Z (.cells (aJ v)),Z (.cells (aJ qs))],[],W,[]⟩∧g≤4294967295∧q≤g∧g≤q+1
def aGn {T0 V0 P0 top u2 vt v2:Nat}(kn:Kn T0 V0 P0 top u2 vt v2)(hn:2≤n)(hm:i+n<m)(hm2:m<2000000)(hv1:v[n-1]?=Z vt)(hv2:v[n-2]?=Z v2)(hu2:u[i+n-2]?=Z u2)(cf:av)(fl:Nat)(s:Nat × Nat × Nat)(st:St)
  (h:I1 u v qs i n m w t3 t4 t5 t9 t10 t11 t12 t13 t14 t15 t18 t19 t20 t21 t22 t23 t24 t25 t26 t27 t28 t29 t30 t31 t32 t33 t34 t35 t36 W (vt,top,T0/V0,0) s st):
  (∃s' st',am cf fl oi st=Z (.normal,st')∧I1 u v qs i n m w t3 t4 t5 t9 t10 t11 t12 t13 t14 t15 t18 t19 t20 t21 t22 t23 t24 t25 t26 t27 t28 t29 t30 t31 t32 t33 t34 t35 t36 W (vt,top,T0/V0,0) s' st'∧2-s'.2.2<2-s.2.2)∨(∃x st',am cf fl oi st=Z (x,st')∧x≠.normal∧Q1 u v qs i n m w t3 t4 t5 t9 t10 t11 t12 t13 t14 t15 t18 t19 t20 t21 t22 t23 t24 t25 t26 t27 t28 t29 t30 t31 t32 t33 t34 t35 t36 W (T0/V0) x st'):=by
 obtain⟨g,r,c⟩:=s
 obtain⟨t16,t17,rfl,hg,hq,hgs,hr,hc⟩:=h
 simp only at hg hq
 have kv:=kn.hv
 have kv':=kn.hv'
 have k2:=kn.h2
 have ku:=kn.hu
 have n1:n-1<n:=by omega
 have n2:n-2<n:=by omega
 have n3:(1≤n)=True:=eq_true (by omega)
 have n4:i+n-2<m:=by omega
 have n5:af n-af 1=af (n-1):=by simp only[aT7];omega
 have n6:af n-af 2=af (n-2):=by simp only[aT7];omega
 have n7:af (i+n)-af 2=af (i+n-2):=by simp only[aT7];omega
 have n8:n-1<9223372036854775808:=by omega
 have n9:n-2<9223372036854775808:=by omega
 have n10:i+n<9223372036854775808:=by omega
 have n11:i+n-2<9223372036854775808:=by omega
 have dv1:v.drop (n-1)=vt::v.drop (n-1+1):=by
  have h:=(aTU.1 hv1)
  rw[aA h.1,h.2]
 have dv2:v.drop (n-2)=v2::v.drop (n-2+1):=by
  have h:=(aTU.1 hv2)
  rw[aA h.1,h.2]
 have du2:u.drop (i+n-2)=u2::u.drop (i+n-2+1):=by
  have h:=(aTU.1 hu2)
  rw[aA h.1,h.2]
 have l1:n-1+1≤v.length:=(aTU.1 hv1).1
 have l2:n-2+1≤v.length:=(aTU.1 hv2).1
 have l3:i+n-2+1≤u.length:=(aTU.1 hu2).1
 have x1:v2<18446744073709551616:=by omega
 have x2:g*v2<18446744073709551616:=by
  have:g*v2≤4294967297*4294967295:=Nat.mul_le_mul hgs (by omega)
  omega
 have x3:r*4294967296<18446744073709551616:=by omega
 have x4:u2<18446744073709551616:=by omega
 have x5:=ahQ (x:=r) (y:=u2) (by omega) ku
 have x6:vt<18446744073709551616:=by omega
 by_cases c1:4294967295<g∨r*4294967296+u2<g*v2
 ·obtain⟨hp,hd⟩:=kn.dec hg hq c1
  have e1:(1≤g)=True:=eq_true hp
  have e2:af g-af 1=af (g-1):=by simp only[aT7];omega
  have e3:g-1<18446744073709551616:=by omega
  have e4:r+vt<18446744073709551616:=by omega
  have hg':(g-1)*vt+(r+vt)=top:=by
   obtain⟨y,rfl⟩:∃y,g=y+1:=⟨g-1,by omega⟩
   rw[Nat.add_mul]at hg
   simp only[Nat.add_sub_cancel]
   omega
  have y1:g-1≤4294967297:=aUd (Nat.sub_le _ _) hgs
  have y2:(c+1)*2147483648≤r+vt:=by rw[Nat.add_mul];exact Nat.add_le_add hc (by simpa using kv)
  have y3:r+vt≤4294967295→2-(c+1)<2-c:=by intro h;omega
  have both:∀c2:Bool,decide (4294967295<r+vt)=c2→(decide (4294967295<g)=ab∨(decide (4294967295<g)=aa∧decide (r*4294967296+u2<g*v2)=ab))→(if c2 then ∃st',am cf fl oi ⟨[iT i,.t (.one (.lsl 0 0 m 1)),wT g,t3,t4,t5,iT n,wT r,.t (.one (.lsl 1 0 n 1)),t9,t10,t11,t12,t13,t14,t15,t16,t17,t18,t19,t20,t21,t22,t23,t24,t25,t26,t27,t28,t29,t30,t31,t32,t33,t34,t35,t36],[Z (.cells (aJ u)),Z (.cells (aJ v)),Z (.cells (aJ qs))],[],W,[]⟩=Z (.exit 2,st')∧(∃t16 t17,st'=⟨[iT i,.t (.one (.lsl 0 0 m 1)),wT (g-1),t3,t4,t5,iT n,wT (r+vt),.t (.one (.lsl 1 0 n 1)),t9,t10,t11,t12,t13,t14,t15,t16,t17,t18,t19,t20,t21,t22,t23,t24,t25,t26,t27,t28,t29,t30,t31,t32,t33,t34,t35,t36],[Z (.cells (aJ u)),Z (.cells (aJ v)),Z (.cells (aJ qs))],[],W,[]⟩) else ∃st',am cf fl oi ⟨[iT i,.t (.one (.lsl 0 0 m 1)),wT g,t3,t4,t5,iT n,wT r,.t (.one (.lsl 1 0 n 1)),t9,t10,t11,t12,t13,t14,t15,t16,t17,t18,t19,t20,t21,t22,t23,t24,t25,t26,t27,t28,t29,t30,t31,t32,t33,t34,t35,t36],[Z (.cells (aJ u)),Z (.cells (aJ v)),Z (.cells (aJ qs))],[],W,[]⟩=Z (.normal,st')∧∃t16 t17,st'=⟨[iT i,.t (.one (.lsl 0 0 m 1)),wT (g-1),t3,t4,t5,iT n,wT (r+vt),.t (.one (.lsl 1 0 n 1)),t9,t10,t11,t12,t13,t14,t15,t16,t17,t18,t19,t20,t21,t22,t23,t24,t25,t26,t27,t28,t29,t30,t31,t32,t33,t34,t35,t36],[Z (.cells (aJ u)),Z (.cells (aJ v)),Z (.cells (aJ qs))],[],W,[]⟩):=by
   intro c2 hc2 hh
   rcases hh with hh|⟨hh,hh2⟩
   ·have hh:=of_decide_eq_true hh
    cases c2
    ·have hc2:(4294967295<r+vt)=False:=eq_false (of_decide_eq_false hc2)
     simp(maxSteps:=9^9) only[az,seval,-ac,-ae,xL,hh,hc2,n1,n2,n3,n4,n5,n6,n7,n8,n9,n10,n11,dv1,dv2,du2,l1,l2,l3,x1,x2,x3,x4,x5,x6,e1,e2,e3,e4,aT9 e3]
     exact⟨_,rfl,_,_,rfl⟩
    ·have hc2:=of_decide_eq_true hc2
     simp(maxSteps:=9^9) only[az,seval,-ac,-ae,xL,hh,hc2,n1,n2,n3,n4,n5,n6,n7,n8,n9,n10,n11,dv1,dv2,du2,l1,l2,l3,x1,x2,x3,x4,x5,x6,e1,e2,e3,e4,aT9 e3]
     exact⟨_,rfl,_,_,rfl⟩
   ·have hh:(4294967295<g)=False:=eq_false (of_decide_eq_false hh)
    have hh2:=of_decide_eq_true hh2
    cases c2
    ·have hc2:(4294967295<r+vt)=False:=eq_false (of_decide_eq_false hc2)
     simp(maxSteps:=9^9) only[az,seval,-ac,-ae,xL,hh,hh2,hc2,n1,n2,n3,n4,n5,n6,n7,n8,n9,n10,n11,dv1,dv2,du2,l1,l2,l3,x1,x2,x3,x4,x5,x6,e1,e2,e3,e4,aT9 e3]
     exact⟨_,rfl,_,_,rfl⟩
    ·have hc2:=of_decide_eq_true hc2
     simp(maxSteps:=9^9) only[az,seval,-ac,-ae,xL,hh,hh2,hc2,n1,n2,n3,n4,n5,n6,n7,n8,n9,n10,n11,dv1,dv2,du2,l1,l2,l3,x1,x2,x3,x4,x5,x6,e1,e2,e3,e4,aT9 e3]
     exact⟨_,rfl,_,_,rfl⟩
  have hh:(decide (4294967295<g)=ab∨(decide (4294967295<g)=aa∧decide (r*4294967296+u2<g*v2)=ab)):=by
   by_cases q1:4294967295<g
   ·exact .inl (decide_eq_true q1)
   ·exact .inr ⟨decide_eq_false q1,decide_eq_true (c1.resolve_left q1)⟩
  by_cases c2:4294967295<r+vt
  ·right
   obtain⟨st',h1,t16',t17',rfl⟩:=both ab (decide_eq_true c2) hh
   have tl:=kn.top_lt
   have hb:g-1≤4294967295:=by
    rcases aT6 4294967295 (g-1)with h|h
    ·exfalso
     have:4294967296*vt≤(g-1)*vt:=Nat.mul_le_mul_right _ h
     omega
    ·exact h
   have h2:(g-1)*v2≤(r+vt)*4294967296+u2:=by
    have:(g-1)*v2≤4294967295*4294967295:=Nat.mul_le_mul hb (by omega)
    omega
   exact⟨_,_,h1,by simp,rfl,_,_,_,_,rfl,hb,hd,kn.out hg' hb h2⟩
  ·left
   obtain⟨st',h1,t16',t17',rfl⟩:=both aa (decide_eq_false c2) hh
   exact⟨(g-1,r+vt,c+1),_,h1,⟨_,_,rfl,hg',hd,y1,Nat.le_of_not_lt c2,y2⟩,y3 (Nat.le_of_not_lt c2)⟩
 ·right
  have hh:(4294967295<g)=False:=eq_false (by omega)
  have hh2:(r*4294967296+u2<g*v2)=False:=eq_false (by omega)
  simp(maxSteps:=9^9) only[az,seval,-ac,-ae,xL,hh,hh2,n1,n2,n3,n4,n5,n6,n7,n8,n9,n10,n11,dv1,dv2,du2,l1,l2,l3,x1,x2,x3,x4,x5,x6]
  exact⟨_,_,rfl,by simp,rfl,_,_,_,_,rfl,Nat.le_of_not_lt fun h=>c1 (.inl h),hq,kn.out hg (Nat.le_of_not_lt fun h=>c1 (.inl h)) (Nat.le_of_not_lt fun h=>c1 (.inr h))⟩
end
section
variable {u v qs:List Nat} {i n m w g:Nat} {t5 t6 t7 t11 t13 t15 t16 t17 t19 t22 t23 t24 t25 t26 t27 t28 t29 t30 t31 t32 t33 t34 t35 t36:T}
def I2 (u v qs:List Nat)(i n m w g:Nat)(t5 t6 t7 t11 t13 t15 t16 t17 t19 t22 t23 t24 t25 t26 t27 t28 t29 t30 t31 t32 t33 t34 t35 t36:T)(j:Nat)(st:St):Prop:=
 ∃(x:List Nat) (c be:Nat) (t9 t10 t14 t18:T) (W:List Nat),st=⟨[iT i,.t (.one (.lsl 0 0 m 1)),wT g,wT c,iT j,t5,t6,t7,.t (.one (.lsl 1 0 n 1)),t9,t10,t11,wT be,t13,t14,t15,t16,t17,t18,t19,.t (.one (.lsl 1 0 n 1)),iT n,t22,t23,t24,t25,t26,t27,t28,t29,t30,t31,t32,t33,t34,t35,t36],[Z (.cells (aJ x)),Z (.cells (aJ v)),Z (.cells (aJ qs))],[],W,[]⟩∧x.length=u.length∧lims x∧c<4294967296∧be<2∧x.drop (i+n)=u.drop (i+n)∧
  val x+4294967296 ^ i*(g*val (v.take j))=val u+4294967296 ^ (i+j)*(be+c)
def aMJ (hv:lims v)(hg:g≤4294967295)(hn:n≤v.length)(hm:i+n<m)(hu:u.length=m)(hm2:m<2000000)(cf:av)(fl:Nat){j:Nat}{st:St}(hj:j<n)(h:I2 u v qs i n m w g t5 t6 t7 t11 t13 t15 t16 t17 t19 t22 t23 t24 t25 t26 t27 t28 t29 t30 t31 t32 t33 t34 t35 t36 j st):
  ∃st',am cf fl uL st=Z (.normal,st')∧I2 u v qs i n m w g t5 t6 t7 t11 t13 t15 t16 t17 t19 t22 t23 t24 t25 t26 t27 t28 t29 t30 t31 t32 t33 t34 t35 t36 (j+1) st':=by
 obtain⟨x,c,be,t9,t10,t14,t18,W,rfl,hx,lx,hc,hbe,hd,he⟩:=h
 have p1:i+j<x.length:=by omega
 have p2:i+j<m:=by omega
 have p3:i+j+1≤x.length:=p1
 have p4:i+j<9223372036854775808:=by omega
 have p5:j+1<9223372036854775808:=by omega
 have p6:j<v.length:=by omega
 have p7:j+1≤v.length:=p6
 have dv:=aA p6
 have dx:=aA p1
 have lv:=hv _ (aUl p6)
 have lxx:=lx _ (aUl p1)
 have m1:g*v[j]≤4294967295*4294967295:=Nat.mul_le_mul hg (by omega)
 have x1:v[j]<18446744073709551616:=by omega
 have x2:g*v[j]<18446744073709551616:=by omega
 have x3:c+g*v[j]<18446744073709551616:=by omega
 have x4:x[i+j]<18446744073709551616:=by omega
 have x5:(c+g*v[j])%4294967296<18446744073709551616:=by omega
 obtain⟨s1,s2,s3⟩:=ali (u:=x[i+j]) (lo:=(c+g*v[j])%4294967296) (b:=be) lxx (by omega) hbe
 have x6:(c+g*v[j])/4294967296<4294967296:=by omega
 simp(maxSteps:=9^9) only[az,seval,-ac,-ae,asu,hj,p1,p2,p3,p4,p5,p6,p7,dv,dx,x1,x2,x3,x4,x5,w9]
 simp only[s1,s2,bY _ _ _ p1]
 refine⟨_,rfl,_,_,_,_,_,_,_,_,rfl,by simpa using hx,lx.set (by omega),x6,by split<;>omega,by rw[List.drop_set_of_lt (by omega)];exact hd,?_⟩
 have e:=jd (d:=(x[i+j]+4294967296-(c+g*v[j])%4294967296-be)%4294967296) p1
 have f:=Nat.mod_add_div (c+g*v[j]) 4294967296
 have a1:4294967296 ^ (i+j)*((x[i+j]+4294967296-(c+g*v[j])%4294967296-be)%4294967296)+4294967296 ^ (i+j)*be+4294967296 ^ (i+j)*c+4294967296 ^ (i+j)*(g*v[j])=4294967296 ^ (i+j)*x[i+j]+4294967296 ^ (i+j)*4294967296*((if x[i+j]<(c+g*v[j])%4294967296+be then 1 else 0)+(c+g*v[j])/4294967296):=by
  rw[aUk,← aT4,← aT4,← aT4,← aT4]
  congr 1
  omega
 have a2:4294967296 ^ i*(g*val (v.take (j+1)))=4294967296 ^ i*(g*val (v.take j))+4294967296 ^ (i+j)*(g*v[j]):=by
  rw[bG (aTX p6),aT4,aT4,Nat.pow_add,Nat.mul_left_comm g,aUk]
 show _=val u+4294967296 ^ (i+j+1)*_
 rw[a2,Nat.pow_succ]
 rw[aT4 (4294967296 ^ (i+j)) be]at he
 omega
def aJo (cf:av)(fl:Nat){st:St}(h:I2 u v qs i n m w g t5 t6 t7 t11 t13 t15 t16 t17 t19 t22 t23 t24 t25 t26 t27 t28 t29 t30 t31 t32 t33 t34 t35 t36 n st):
  ∃st',am cf fl uL st=Z (.exit 4,st')∧I2 u v qs i n m w g t5 t6 t7 t11 t13 t15 t16 t17 t19 t22 t23 t24 t25 t26 t27 t28 t29 t30 t31 t32 t33 t34 t35 t36 n st':=by
 obtain⟨x,c,be,t9,t10,t14,t18,W,rfl,h⟩:=h
 simp(maxSteps:=9^9) only[az,seval,-ac,-ae,asu]
 exact⟨_,rfl,_,_,_,_,_,_,_,_,rfl,h⟩
end
section
variable {u v qs:List Nat} {i n m w:Nat} {t2 t3 t4 t6 t7 t9 t10 t12 t14 t16 t17 t18 t20 t21 t24 t25 t26 t27 t28 t29 t30 t31 t32 t33 t34 t35 t36:T}
def I3 (u v qs:List Nat)(i n m w:Nat)(t2 t3 t4 t6 t7 t9 t10 t12 t14 t16 t17 t18 t20 t21 t24 t25 t26 t27 t28 t29 t30 t31 t32 t33 t34 t35 t36:T)(j:Nat)(st:St):Prop:=
 ∃(x:List Nat) (c:Nat) (t11 t15 t19:T) (W:List Nat),st=⟨[iT i,.t (.one (.lsl 0 0 m 1)),t2,t3,t4,iT j,t6,t7,.t (.one (.lsl 1 0 n 1)),t9,t10,t11,t12,uT c,t14,t15,t16,t17,t18,t19,t20,t21,.t (.one (.lsl 1 0 n 1)),iT n,t24,t25,t26,t27,t28,t29,t30,t31,t32,t33,t34,t35,t36],[Z (.cells (aJ x)),Z (.cells (aJ v)),Z (.cells (aJ qs))],[],W,[]⟩∧x.length=u.length∧lims x∧c<2∧x.drop (i+n)=u.drop (i+n)∧
  val x+4294967296 ^ (i+j)*c=val u+4294967296 ^ i*val (v.take j)
def aMK (hv:lims v)(hn:n≤v.length)(hm:i+n<m)(hu:u.length=m)(hm2:m<2000000)(fl:Nat){j:Nat}{st:St}(hj:j<n)(h:I3 u v qs i n m w t2 t3 t4 t6 t7 t9 t10 t12 t14 t16 t17 t18 t20 t21 t24 t25 t26 t27 t28 t29 t30 t31 t32 t33 t34 t35 t36 j st)(cf:av)(hcf:CA cf 299 o5):
  ∃st',am cf fl uM st=Z (.normal,st')∧I3 u v qs i n m w t2 t3 t4 t6 t7 t9 t10 t12 t14 t16 t17 t18 t20 t21 t24 t25 t26 t27 t28 t29 t30 t31 t32 t33 t34 t35 t36 (j+1) st':=by
 obtain⟨x,c,t11,t15,t19,W,rfl,hx,lx,hc,hd,he⟩:=h
 have p1:i+j<x.length:=by omega
 have p2:i+j<m:=by omega
 have p3:i+j+1≤x.length:=p1
 have p4:i+j<9223372036854775808:=by omega
 have p5:j+1<9223372036854775808:=by omega
 have p6:j<v.length:=by omega
 have p7:j+1≤v.length:=p6
 have dv:=aA p6
 have dx:=aA p1
 have lv:=hv _ (aUl p6)
 have lxx:=lx _ (aUl p1)
 have ea:=aiB lxx lv hc
 simp(maxSteps:=9^9) only[az,seval,-ac,-ae,asv,hj,p1,p2,p3,p4,p5,p6,p7,dv,dx,hcf,ea,bY]
 refine⟨_,rfl,_,_,_,_,_,_,rfl,by simpa using hx,lx.set (by omega),by omega,by rw[List.drop_set_of_lt (by omega)];exact hd,?_⟩
 have e:=jd (d:=(x[i+j]+v[j]+c)%4294967296) p1
 have f:=Nat.mod_add_div (x[i+j]+v[j]+c) 4294967296
 have a1:4294967296 ^ (i+j)*((x[i+j]+v[j]+c)%4294967296)+4294967296 ^ (i+j)*4294967296*((x[i+j]+v[j]+c)/4294967296)=4294967296 ^ (i+j)*x[i+j]+4294967296 ^ (i+j)*v[j]+4294967296 ^ (i+j)*c:=by
  rw[aUk,← aT4,f,aT4,aT4]
 have a2:4294967296 ^ i*val (v.take (j+1))=4294967296 ^ i*val (v.take j)+4294967296 ^ (i+j)*v[j]:=by
  rw[bG (aTX p6),aT4,Nat.pow_add,aUk]
 show _+4294967296 ^ (i+j+1)*_=_
 rw[a2,Nat.pow_succ]
 omega
def aJp (cf:av)(fl:Nat){st:St}(h:I3 u v qs i n m w t2 t3 t4 t6 t7 t9 t10 t12 t14 t16 t17 t18 t20 t21 t24 t25 t26 t27 t28 t29 t30 t31 t32 t33 t34 t35 t36 n st):
  ∃st',am cf fl uM st=Z (.exit 6,st')∧I3 u v qs i n m w t2 t3 t4 t6 t7 t9 t10 t12 t14 t16 t17 t18 t20 t21 t24 t25 t26 t27 t28 t29 t30 t31 t32 t33 t34 t35 t36 n st':=by
 obtain⟨x,c,t11,t15,t19,W,rfl,h⟩:=h
 simp(maxSteps:=9^9) only[az,seval,-ac,-ae,asv]
 exact⟨_,rfl,_,_,_,_,_,_,rfl,h⟩
end
def I0 (v:List Nat)(U0 VV n m w k:Nat)(j:Nat)(st:St):Prop:=
 ∃(x qs:List Nat) (t2 t3 t4 t5 t7 t9 t10 t11 t12 t13 t14 t15 t16 t17 t18 t19 t20 t21 t22 t23 t24 t25 t26 t27 t30 t31 t32 t33 t34 t35 t36:T) (W:List Nat),st=⟨[zT j,.t (.one (.lsl 0 0 m 1)),t2,t3,t4,t5,iT n,t7,.t (.one (.lsl 1 0 n 1)),t9,t10,t11,t12,t13,t14,t15,t16,t17,t18,t19,t20,t21,t22,t23,t24,t25,t26,t27,iT k,.t (.one (.lsl 2 0 w 1)),t30,t31,t32,t33,t34,t35,t36],[Z (.cells (aJ x)),Z (.cells (aJ v)),Z (.cells (aJ qs))],[],W,[]⟩∧x.length=m∧lims x∧qs.length=w∧lims qs∧j≤w∧val x<VV*4294967296 ^ j∧U0=val x+VV*4294967296 ^ j*val (qs.drop j)
def aGm {v:List Nat}{U0 VV n m w k:Nat}(lv:lims v)(hvl:v.length=n+1)(hVV:val (v.take n)=VV)(hn:2≤n)(hw:n+w=m)(hm2:m<2000000)(hvt:2147483648*4294967296 ^ (n-1)≤VV)(cf:av)(hcf:CA cf 299 o5)
  {j:Nat}{st:St}(h:I0 v U0 VV n m w k j st):
  (∃j' st',am cf 2000001 yL st=Z (.normal,st')∧I0 v U0 VV n m w k j' st'∧j'<j)∨(∃x st',am cf 2000001 yL st=Z (x,st')∧x≠.normal∧x=.exit 0∧I0 v U0 VV n m w k 0 st'):=by
 obtain⟨x,qs,t2,t3,t4,t5,t7,t9,t10,t11,t12,t13,t14,t15,t16,t17,t18,t19,t20,t21,t22,t23,t24,t25,t26,t27,t30,t31,t32,t33,t34,t35,t36,W,rfl,hx,lx,hqs,lq,hj,hlt,hU⟩:=h
 rcases aUc j with rfl|hp
 ·right
  simp(maxSteps:=9^9) only[az,seval,-ac,-ae,jG,jH,aip]
  exact⟨_,_,rfl,by simp,rfl,_,_,_,_,_,_,_,_,_,_,_,_,_,_,_,_,_,_,_,_,_,_,_,_,_,_,_,_,_,_,_,_,_,_,rfl,hx,lx,hqs,lq,hj,hlt,hU⟩
 ·left
  obtain⟨i,rfl⟩:∃i,j=i+1:=⟨j-1,by omega⟩
  show ∃j' st',am cf 2000001 yL ⟨[iT i,.t (.one (.lsl 0 0 m 1)),t2,t3,t4,t5,iT n,t7,.t (.one (.lsl 1 0 n 1)),t9,t10,t11,t12,t13,t14,t15,t16,t17,t18,t19,t20,t21,t22,t23,t24,t25,t26,t27,iT k,.t (.one (.lsl 2 0 w 1)),t30,t31,t32,t33,t34,t35,t36],[Z (.cells (aJ x)),Z (.cells (aJ v)),Z (.cells (aJ qs))],[],W,[]⟩=Z (.normal,st')∧I0 v U0 VV n m w k j' st'∧j'<i+1
  have z0:i+n<x.length:=by omega
  have z1:i+n-1<x.length:=by omega
  have z2:i+n-2<x.length:=by omega
  have y1:n-1<v.length:=by omega
  have y2:n-2<v.length:=by omega
  have hBn:VV<4294967296 ^ n:=by
   have h:=bL (lv.take n)
   rw[aUo,Nat.min_eq_left (by omega),hVV]at h
   exact h
  have hVp:0<VV:=by
   rcases aUc VV with h|h
   ·rw[h]at hlt;simp at hlt
   ·exact h
  have hz:val (x.drop (i+n+1))=0:=by
   have e:=jX (l:=x) (i:=i+n+1) (by omega)
   have h1:VV*4294967296 ^ (i+1)<4294967296 ^ n*4294967296 ^ (i+1):=Nat.mul_lt_mul_of_pos_right hBn (Nat.pow_pos (by omega))
   rw[← Nat.pow_add,show n+(i+1)=i+n+1 by omega]at h1
   rcases aUc (val (x.drop (i+n+1)))with h|h
   ·exact h
   ·exfalso
    have h2:4294967296 ^ (i+n+1)*1≤4294967296 ^ (i+n+1)*val (x.drop (i+n+1)):=Nat.mul_le_mul_left _ h
    omega
  obtain⟨top,htop⟩:∃top,top=x[i+n]*4294967296+x[i+n-1]:=⟨_,rfl⟩
  obtain⟨vt,hvt'⟩:∃vt,vt=v[n-1]:=⟨_,rfl⟩
  have lxa:=lx _ (aUl z0)
  have lxb:=lx _ (aUl z1)
  have lxc:=lx _ (aUl z2)
  have lva:=lv _ (aUl y1)
  have lvb:=lv _ (aUl y2)
  have kn:Kn (val x/4294967296 ^ i) VV (4294967296 ^ (n-2)) top x[i+n-2] vt v[n-2]:=aOE hx lx lv hvl hVV hn z0 z1 z2 y1 y2 hz htop hvt' hvt (by rw[Nat.pow_succ]at hlt;rw[Nat.div_lt_iff_lt_mul (Nat.pow_pos (by omega)),aUk,Nat.mul_comm 4294967296];exact hlt)
  have kv:=kn.hv
  have kq:=kn.lt
  obtain⟨q,hq⟩:∃q,q=val x/4294967296 ^ i/VV:=⟨_,rfl⟩
  rw[← hq]at kq
  obtain⟨_,st1,hl1,_,rfl,g,s7,s16,s17,rfl,g1,g2,g3⟩:=bg (I1 x v qs i n m w t3 t4 t5 t9 t10 t11 t12 t13 t14 t15 t18 t19 t20 t21 t22 t23 t24 t25 (wT top) t27 (iT k) (.t (.one (.lsl 2 0 w 1))) t30 (bT ab) t32 t33 t34 t35 t36 W (vt,top,val x/4294967296 ^ i/VV,0)) (fun s=>2-s.2.2) (Q1 x v qs i n m w t3 t4 t5 t9 t10 t11 t12 t13 t14 t15 t18 t19 t20 t21 t22 t23 t24 t25 (wT top) t27 (iT k) (.t (.one (.lsl 2 0 w 1))) t30 (bT ab) t32 t33 t34 t35 t36 W (val x/4294967296 ^ i/VV))
   (fun s st h=>aGn kn hn (by omega) hm2 (by rw[hvt'];exact aTX y1) (aTX y2) (aTX z2) cf 2000001 s st h) 2000001 (top/vt,top%vt,0) ⟨[iT i,.t (.one (.lsl 0 0 m 1)),wT (top/vt),t3,t4,t5,iT n,wT (top%vt),.t (.one (.lsl 1 0 n 1)),t9,t10,t11,t12,t13,t14,t15,t16,t17,t18,t19,t20,t21,t22,t23,t24,t25,wT top,t27,iT k,.t (.one (.lsl 2 0 w 1)),t30,bT ab,t32,t33,t34,t35,t36],[Z (.cells (aJ x)),Z (.cells (aJ v)),Z (.cells (aJ qs))],[],W,[]⟩
   ⟨t16,t17,rfl,Nat.div_add_mod' top vt,kn.init,kn.small,by have:=aUb top (show vt>0 by omega);have:=kn.hv';omega,Nat.zero_le _⟩ (by show 2-0<2000001;omega)
  rw[← hq]at g2 g3
  obtain⟨st2,hl2,x1,c,be,s9,s10,s14,s18,W2,rfl,hx1,lx1,hc,hbe,hd1,he1⟩:=bq n (I2 x v qs i n m w g t5 (iT n) (s7) t11 t13 t15 (s16) (s17) t19 t22 t23 t24 t25 (wT top) t27 (iT k) (.t (.one (.lsl 2 0 w 1))) t30 (bT ab) t32 t33 t34 t35 t36) (I2 x v qs i n m w g t5 (iT n) (s7) t11 t13 t15 (s16) (s17) t19 t22 t23 t24 t25 (wT top) t27 (iT k) (.t (.one (.lsl 2 0 w 1))) t30 (bT ab) t32 t33 t34 t35 t36 n)
   (fun j st hj h=>aMJ lv g1 (by omega) (by omega) hx hm2 cf 2000001 hj h) (fun st h=>aJo cf 2000001 h) 2000001 ⟨[iT i,.t (.one (.lsl 0 0 m 1)),wT g,wT 0,iT 0,t5,iT n,s7,.t (.one (.lsl 1 0 n 1)),t9,t10,t11,wT 0,t13,t14,t15,s16,s17,t18,t19,.t (.one (.lsl 1 0 n 1)),iT n,t22,t23,t24,t25,wT top,t27,iT k,.t (.one (.lsl 2 0 w 1)),t30,bT ab,t32,t33,t34,t35,t36],[Z (.cells (aJ x)),Z (.cells (aJ v)),Z (.cells (aJ qs))],[],W,[]⟩
   ⟨x,0,0,_,_,_,_,W,rfl,rfl,lx,by omega,by omega,rfl,by simp[val]⟩ (by omega)
  rw[hVV]at he1
  have z0':i+n<x1.length:=by omega
  have hy1:x1[i+n]=x[i+n]:=by
   rw[aA z0,aA z0']at hd1
   exact(List.cons.inj hd1).1
  have hz1:val (x1.drop (i+n+1))=0:=by
   rw[aA z0,aA z0']at hd1
   rw[(List.cons.inj hd1).2];exact hz
  obtain⟨s1,s2,s3⟩:=ali (u:=x[i+n]) (lo:=c) (b:=be) lxa hc hbe
  obtain⟨D,hD⟩:∃D,D=((x[i+n]+(18446744073709551616-c%18446744073709551616))%18446744073709551616+(18446744073709551616-be%18446744073709551616))%18446744073709551616:=⟨_,rfl⟩
  rw[← hD]at s1 s2
  have gq:g<4294967296:=by omega
  have e1:i+n<m:=by omega
  have e2:i+n-1<m:=by omega
  have e3:n-1<n:=by omega
  have e4:i<w:=by omega
  have e5:i+n<9223372036854775808:=by omega
  have e6:af (i+n)-af 1=af (i+n-1):=by simp only[aT7];omega
  have e7:af n-af 1=af (n-1):=by simp only[aT7];omega
  have e8:i+n-1<9223372036854775808:=by omega
  have e9:n-1<9223372036854775808:=by omega
  have e10:i<9223372036854775808:=by omega
  have e11:(0≤i)=True:=eq_true (by omega)
  have e12:=jw e10
  have e13:c<18446744073709551616:=by omega
  have f1:i+n+1≤x.length:=z0
  have f2:i+n-1+1≤x.length:=z1
  have f3:n-1+1≤v.length:=y1
  have f4:i+n+1≤x1.length:=z0'
  have f5:i+1≤qs.length:=by omega
  have f6:i<qs.length:=by omega
  have f7:n≤v.length:=by omega
  have dx0:=aA z0
  have dx1:x1.drop (i+n)=x[i+n]::x1.drop (i+n+1):=by rw[aA z0',hy1]
  have dv:v.drop (n-1)=vt::v.drop (n-1+1):=by rw[aA y1,hvt']
  have d1:=aA z1
  have d2:=ahQ lxa lxb
  rw[← htop]at d2
  have d3:x[i+n]<18446744073709551616:=by omega
  have d4:x[i+n-1]<18446744073709551616:=by omega
  have d5:x[i+n]*4294967296<18446744073709551616:=by omega
  have d6:vt<18446744073709551616:=by have:=kn.hv';omega
  have d7:(vt==0)=aa:=by simp only[beq_eq_false_iff_ne,ne_eq];omega
  have htl:top<18446744073709551616:=by omega
  have d8:top/vt<18446744073709551616:=aUh (Nat.div_le_self _ _) htl
  have d9:top%vt<18446744073709551616:=aUh (Nat.mod_le _ _) htl
  have f8:g<18446744073709551616:=by omega
  have f9:g%4294967296=g:=aT9 gq
  have f10:c%18446744073709551616=c:=aT9 e13
  by_cases hb:x[i+n]<c+be
  ·rw[if_pos hb]at s2 s3
   have r1:D%4294967296=x[i+n]+4294967296-c-be:=by rw[s1];omega
   have r4:(if D<4294967296 then af D else af (x[i+n]+4294967296-c-be))=af (x[i+n]+4294967296-c-be):=by rw[← r1];exact apt D
   have r2:=s2
   have vb:x[i+n]+4294967296-c-be<4294967296:=by omega
   have he2:=aOu he1 z0' hy1 hc hbe
   have lx2:lims (x1.set (i+n) (x[i+n]+4294967296-c-be)):=lx1.set vb
   have hx2:(x1.set (i+n) (x[i+n]+4294967296-c-be)).length=x.length:=by simpa using hx1
   have hz2:val ((x1.set (i+n) (x[i+n]+4294967296-c-be)).drop (i+n+1))=0:=by rw[List.drop_set_of_lt (by omega)];exact hz1
   have hl2':=aKn lx2 (by omega) hz2
   have gq1:g=q+1:=by
    have:=aPc hVp (u:=x) (i:=i) (g:=g) (by omega)
    omega
   obtain⟨st3,hl3,x3,cc,s11,s15,s19,W3,rfl,hx3,lx3,hcc,hd3,he3⟩:=bq n (I3 (x1.set (i+n) (x[i+n]+4294967296-c-be)) v qs i n m w (wT (g-1)) (wT c) (iT n) (iT n) (s7) (s9) (s10) (wT be) (s14) (s16) (s17) (s18) (.t (.one (.lsl 1 0 n 1))) (iT n) t24 t25 (wT top) (wT D) (iT k) (.t (.one (.lsl 2 0 w 1))) t30 (bT ab) (bT ab) t33 t34 t35 t36) (I3 (x1.set (i+n) (x[i+n]+4294967296-c-be)) v qs i n m w (wT (g-1)) (wT c) (iT n) (iT n) (s7) (s9) (s10) (wT be) (s14) (s16) (s17) (s18) (.t (.one (.lsl 1 0 n 1))) (iT n) t24 t25 (wT top) (wT D) (iT k) (.t (.one (.lsl 2 0 w 1))) t30 (bT ab) (bT ab) t33 t34 t35 t36 n)
    (fun j st hj h=>aMK lv (by omega) (by omega) (by omega) hm2 2000001 hj h cf hcf) (fun st h=>aJp cf 2000001 h) 2000001 ⟨[iT i,.t (.one (.lsl 0 0 m 1)),wT (g-1),wT c,iT n,iT 0,iT n,s7,.t (.one (.lsl 1 0 n 1)),s9,s10,t11,wT be,uT 0,s14,t15,s16,s17,s18,t19,.t (.one (.lsl 1 0 n 1)),iT n,.t (.one (.lsl 1 0 n 1)),iT n,t24,t25,wT top,wT D,iT k,.t (.one (.lsl 2 0 w 1)),t30,bT ab,bT ab,t33,t34,t35,t36],[Z (.cells (aJ (x1.set (i+n) (x[i+n]+4294967296-c-be)))),Z (.cells (aJ v)),Z (.cells (aJ qs))],[],0::W2,[]⟩
    ⟨_,0,_,_,_,_,rfl,rfl,lx2,by omega,rfl,by simp[val]⟩ (by omega)
   rw[hVV]at he3
   have z3:i+n<x3.length:=by omega
   have hy3:x3[i+n]=x[i+n]+4294967296-c-be:=by
    rw[aA z3,aA (show i+n<(x1.set (i+n) (x[i+n]+4294967296-c-be)).length by omega)]at hd3
    rw[(List.cons.inj hd3).1,List.getElem_set_self]
   have hz3:val (x3.drop (i+n+1))=0:=by
    rw[aA z3,aA (show i+n<(x1.set (i+n) (x[i+n]+4294967296-c-be)).length by omega)]at hd3
    rw[(List.cons.inj hd3).2];exact hz2
   have gV:4294967296 ^ i*(g*VV)=4294967296 ^ i*(q*VV)+4294967296 ^ i*VV:=by rw[gq1,Nat.add_mul,Nat.one_mul,aT4]
   have hql:4294967296 ^ i*(q*VV)≤val x:=by
    have h1:=Nat.div_mul_le_self (val x/4294967296 ^ i) VV
    rw[← hq]at h1
    exact aUd (Nat.mul_le_mul_left _ h1) (Nat.mul_div_le (val x) _)
   have hqr:val x<4294967296 ^ i*(q*VV)+4294967296 ^ (i+n):=by
    have h1:val x<4294967296 ^ i*(q*VV)+VV*4294967296 ^ i:=by
     have:=akh hVp (X:=val x) (X':=val x-4294967296 ^ i*(q*VV)) (by omega) hq
     omega
    have h2:VV*4294967296 ^ i≤4294967296 ^ n*4294967296 ^ i:=Nat.mul_le_mul_right _ (Nat.le_of_lt hBn)
    rw[← Nat.pow_add,Nat.add_comm n]at h2
    omega
   obtain⟨k1,k2⟩:=aOv (u:=x) (x:=x3) (V:=VV) (q:=q) (cc:=cc) (by omega) z3 hy3 hz3 lx3 hql hqr
   have r3:(x[i+n]+4294967296-c-be+cc)%4294967296=0:=by rw[k1]
   have r5:(if x[i+n]+4294967296-c-be+cc<4294967296 then af (x[i+n]+4294967296-c-be+cc) else af 0)=af 0:=by rw[if_neg (by omega)]
   have dx3:x3.drop (i+n)=(x[i+n]+4294967296-c-be)::x3.drop (i+n+1):=by rw[aA z3,hy3]
   have f11:i+n+1≤x3.length:=z3
   have f12:af g-af 1=af q:=by rw[gq1];simp only[aT7];omega
   have f13:(1≤g)=True:=eq_true (by omega)
   have f14:q<18446744073709551616:=by omega
   have f15:q%4294967296=q:=aT9 kq
   have f16:q%18446744073709551616=q:=aT9 f14
   rw[show g-1=q by omega]at hl3
   have key:∀t2 t3 t4 t5 t7 t9 t10 t11 t12 t13 t14 t15 t16 t17 t18 t19 t20 t21 t22 t23 t24 t25 t26 t27 t30 t31 t32 t33 t34 t35 t36 W,I0 v U0 VV n m w k i ⟨[zT i,.t (.one (.lsl 0 0 m 1)),t2,t3,t4,t5,iT n,t7,.t (.one (.lsl 1 0 n 1)),t9,t10,t11,t12,t13,t14,t15,t16,t17,t18,t19,t20,t21,t22,t23,t24,t25,t26,t27,iT k,.t (.one (.lsl 2 0 w 1)),t30,t31,t32,t33,t34,t35,t36],[Z (.cells (aJ (x3.set (i+n) 0))),Z (.cells (aJ v)),Z (.cells (aJ (qs.set i q)))],[],W,[]⟩:=by
    intro t2 t3 t4 t5 t7 t9 t10 t11 t12 t13 t14 t15 t16 t17 t18 t19 t20 t21 t22 t23 t24 t25 t26 t27 t30 t31 t32 t33 t34 t35 t36 W
    exact⟨_,_,_,_,_,_,_,_,_,_,_,_,_,_,_,_,_,_,_,_,_,_,_,_,_,_,_,_,_,_,_,_,_,_,rfl,by simp;omega,lx3.set (by omega),by simpa using hqs,lq.set kq,by omega,akh hVp k2 hq,avn k2 hU f6⟩
   simp(maxSteps:=9^9) only[az,seval,-ac,-ae,jG,jH,aip,e1,e2,e3,e4,e5,e6,e7,e8,e9,e10,e11,e12,e13,f1,f2,f3,f4,f5,f6,f7,f8,f9,d1,d2,d3,d4,d5,d6,d7,d8,d9,dx0,dx1,dv,r1,r2,r4,w9,← hD,hl1,hl2,hl3,r3,r5,dx3,f11,f12,f13,f14,f15,f16,bY _ _ _ z0',bY _ _ _ z3,bY _ _ _ f6]
   exact⟨i,_,rfl,key _ _ _ _ _ _ _ _ _ _ _ _ _ _ _ _ _ _ _ _ _ _ _ _ _ _ _ _ _ _ _ _,by omega⟩
  ·rw[if_neg hb]at s2 s3
   have r1:D%4294967296=x[i+n]-c-be:=by rw[s1];omega
   have r4:(if D<4294967296 then af D else af (x[i+n]-c-be))=af (x[i+n]-c-be):=by rw[← r1];exact apt D
   have r2:=s2
   have he2:=aOt he1 z0' hy1 (by omega)
   have gq1:g=q:=by
    have:=aPb hVp (u:=x) (i:=i) (g:=g) (by omega)
    omega
   subst gq1
   have key:∀t2 t3 t4 t5 t7 t9 t10 t11 t12 t13 t14 t15 t16 t17 t18 t19 t20 t21 t22 t23 t24 t25 t26 t27 t30 t31 t32 t33 t34 t35 t36 W,I0 v U0 VV n m w k i ⟨[zT i,.t (.one (.lsl 0 0 m 1)),t2,t3,t4,t5,iT n,t7,.t (.one (.lsl 1 0 n 1)),t9,t10,t11,t12,t13,t14,t15,t16,t17,t18,t19,t20,t21,t22,t23,t24,t25,t26,t27,iT k,.t (.one (.lsl 2 0 w 1)),t30,t31,t32,t33,t34,t35,t36],[Z (.cells (aJ (x1.set (i+n) (x[i+n]-c-be)))),Z (.cells (aJ v)),Z (.cells (aJ (qs.set i g)))],[],W,[]⟩:=by
    intro t2 t3 t4 t5 t7 t9 t10 t11 t12 t13 t14 t15 t16 t17 t18 t19 t20 t21 t22 t23 t24 t25 t26 t27 t30 t31 t32 t33 t34 t35 t36 W
    exact⟨_,_,_,_,_,_,_,_,_,_,_,_,_,_,_,_,_,_,_,_,_,_,_,_,_,_,_,_,_,_,_,_,_,_,rfl,by simp;omega,lx1.set (by omega),by simpa using hqs,lq.set kq,by omega,akh hVp he2 hq,avn he2 hU f6⟩
   simp(maxSteps:=9^9) only[az,seval,-ac,-ae,jG,jH,aip,e1,e2,e3,e4,e5,e6,e7,e8,e9,e10,e11,e12,e13,f1,f2,f3,f4,f5,f6,f7,f8,f9,d1,d2,d3,d4,d5,d6,d7,d8,d9,dx0,dx1,dv,r1,r2,r4,w9,← hD,hl1,hl2,bY _ _ _ z0',bY _ _ _ f6]
   exact⟨i,_,rfl,key _ _ _ _ _ _ _ _ _ _ _ _ _ _ _ _ _ _ _ _ _ _ _ _ _ _ _ _ _ _ _ _,by omega⟩
section
variable {x v qs:List Nat} {n m w k Y:Nat} {t0 t2 t3 t4 t5 t6 t7 t8 t9 t10 t11 t12 t13 t14 t15 t16 t17 t18 t19 t20 t21 t22 t23 t26 t27 t29 t31 t32 t35 t36:T}
def I4 (x v qs:List Nat)(n m k Y:Nat)(t0 t2 t3 t4 t5 t6 t7 t8 t9 t10 t11 t12 t13 t14 t15 t16 t17 t18 t19 t20 t21 t22 t23 t26 t27 t29 t31 t32 t35 t36:T)(i:Nat)(st:St):Prop:=
 ∃(r:List Nat) (t25 t33:T) (W:List Nat),st=⟨[t0,.t (.one (.lsl 0 0 m 1)),t2,t3,t4,t5,t6,t7,t8,t9,t10,t11,t12,t13,t14,t15,t16,t17,t18,t19,t20,t21,t22,t23,iT i,t25,t26,t27,iT k,t29,.t (.one (.lsl 3 0 n 1)),t31,t32,t33,iT n,t35,t36],[Z (.cells (aJ x)),Z (.cells (aJ v)),Z (.cells (aJ qs)),Z (.cells (aJ r))],[],W,[]⟩∧r.length=n∧lims r∧val (r.take i)=Y%4294967296 ^ i
def aML (lx:lims x)(hx:x.length=m)(hn:n<m)(hk:k<32)(hm2:m<2000000)(hY:Y=val x/2 ^ k)(cf:av)(fl:Nat){i:Nat}{st:St}(hi:i<n)(h:I4 x v qs n m k Y t0 t2 t3 t4 t5 t6 t7 t8 t9 t10 t11 t12 t13 t14 t15 t16 t17 t18 t19 t20 t21 t22 t23 t26 t27 t29 t31 t32 t35 t36 i st):
  ∃st',am cf fl adG st=Z (.normal,st')∧I4 x v qs n m k Y t0 t2 t3 t4 t5 t6 t7 t8 t9 t10 t11 t12 t13 t14 t15 t16 t17 t18 t19 t20 t21 t22 t23 t26 t27 t29 t31 t32 t35 t36 (i+1) st':=by
 obtain⟨r,t25,t33,W,rfl,hr,lr,hv⟩:=h
 have p1:i<x.length:=by omega
 have p2:i+1<x.length:=by omega
 have p3:i<r.length:=by omega
 have p4:i+1≤x.length:=p1
 have p5:i+1+1≤x.length:=p2
 have p6:i+1≤r.length:=p3
 have p7:i+1<9223372036854775808:=by omega
 have p8:i<m:=by omega
 have p9:i+1<m:=by omega
 have dx:=aA p1
 have dy:=aA p2
 have lxa:=lx _ (aUl p1)
 have lxb:=lx _ (aUl p2)
 have x1:x[i+1]<18446744073709551616:=by omega
 have x2:x[i+1]*4294967296<18446744073709551616:=by omega
 obtain⟨s1,s2,y,s3⟩:=aBf (u0:=x[i]) (u1:=x[i+1]) (rest:=val (x.drop (i+1+1))) hk lxa
 have hp:0<2 ^ k:=Nat.pow_pos (by omega)
 have x3:x[i]/2 ^ k<4294967296:=aUh (Nat.div_le_self _ _) lxa
 have x4:x[i+1]*4294967296/2 ^ k<18446744073709551616:=aUh (Nat.div_le_self _ _) x2
 have x5:x[i+1]*4294967296/2 ^ k%4294967296<4294967296:=aUb _ (by omega)
 have eo:=aml x3 x5
 have eo2:x[i]/2 ^ k ||| x[i+1]*4294967296/2 ^ k%4294967296=x[i]/2 ^ k+x[i+1]*4294967296/2 ^ k%4294967296:=by rw[s3];exact aFT s2
 rw[eo2]at eo
 have hlim:x[i]/2 ^ k+x[i+1]*4294967296/2 ^ k%4294967296<4294967296:=by rw[← s1];exact aUb _ (by omega)
 have k6:(aTQ (k+1) 64)=ab:=by simp;omega
 have k7:(aTQ (k+1) 32)=ab:=by simp;omega
 simp(maxSteps:=9^9) only[az,seval,-ac,-ae,asw,hi,p1,p2,p3,p4,p5,p6,p7,p8,p9,dx,dy,x1,x2,x3,x4,eo,k6,k7,bY _ _ _ p3]
 refine⟨_,rfl,_,_,_,_,rfl,by simpa using hr,lr.set hlim,?_⟩
 rw[pX p3,hv,Nat.mod_pow_succ]
 congr 2
 rw[← s1,hY,Nat.div_div_eq_div_mul,Nat.mul_comm (2 ^ k),← Nat.div_div_eq_div_mul]
 congr 2
 have e:=jX (l:=x) (i:=i) (by omega)
 have h1:=bL (lx.take i)
 rw[aUo,Nat.min_eq_left (by omega)]at h1
 rw[e,Nat.add_mul_div_left _ _ (Nat.pow_pos (by omega)),Nat.div_eq_of_lt h1,aUe,nm p1,nm p2]
def aJq (cf:av)(fl:Nat){st:St}(h:I4 x v qs n m k Y t0 t2 t3 t4 t5 t6 t7 t8 t9 t10 t11 t12 t13 t14 t15 t16 t17 t18 t19 t20 t21 t22 t23 t26 t27 t29 t31 t32 t35 t36 n st):
  ∃st',am cf fl adG st=Z (.exit 8,st')∧I4 x v qs n m k Y t0 t2 t3 t4 t5 t6 t7 t8 t9 t10 t11 t12 t13 t14 t15 t16 t17 t18 t19 t20 t21 t22 t23 t26 t27 t29 t31 t32 t35 t36 n st':=by
 obtain⟨r,t25,t33,W,rfl,h⟩:=h
 simp(maxSteps:=9^9) only[az,seval,-ac,-ae,asw]
 exact⟨_,rfl,_,_,_,_,rfl,h⟩
end
end
end Go.Proofs.YtfiijelajgifiaaGreat
