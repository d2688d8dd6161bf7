/-
  Part 13 of the machine and of the contracts of functions of the program (packed).
-/
import Derived.Test.YtfiijelajgifiaaGreatA12
set_option linter.all false
set_option linter.defProp false
open Bool renaming false→aa,true→ab,and_eq_true→aTT
open Int renaming reduceOfNat→ac,reduceNegSucc→ae,ofNat→af,negSucc→aT2,ofNat_eq_natCast→aT7
open List renaming length_cons→aTV,getElem?_eq_getElem→aTX,mem_cons→aTZ,replicate→aT5,length_nil→aUf,take_of_length_le→aUi
open Nat renaming blt→ah,log2→aj,ble→aTQ,blt_eq→aTR,le_refl→aTS,gcd→aTY,mul_add→aT4,lt_or_ge→aT6,mod_eq_of_lt→aT9,mod_lt→aUb,eq_zero_or_pos→aUc,le_trans→aUd,zero_add→aUe,lt_of_le_of_lt→aUh,lt_of_lt_of_le→aUj,mul_assoc→aUk
open Option renaming some→Z,none→U
namespace Go.Proofs.YtfiijelajgifiaaGreat
noncomputable section
open Go Go.Mach Go.Flow
set_option maxRecDepth 100000
set_option maxHeartbeats 4000000
def tL:Ft:=.n (.n .z 299 (.nat o5) U .z) 303 (.nat afb) U (.n .z 304 (.wnat z5) U .z)
def aPt {k:Cls}:tL.Ok Tryz.prog k aH:=⟨⟨tv,agm,tv,tv⟩,ayE,tv,tv,arw,tv,tv⟩
def ayz {a b:List Nat}(ha:lims a)(hb:lims b)(cb:gn b)(hn:a.length<1000000)(h2:2≤b.length)(hle:b.length≤a.length):
  bM (ao tL.tb 10 8) 2000001 my.1 [.one (aB a),.one (aB b)]=Z [.one (aB (aU (a.length+1-b.length) (val a/val b))),.one (aB (aU b.length (val a%val b)))]:=by
 have ht:b.length-1<b.length:=by omega
 obtain⟨t,htd⟩:∃t,t=b[b.length-1]:=⟨_,rfl⟩
 have htq:b[b.length-1]?=Z t:=by rw[htd];exact aTX ht
 have h0:0<t:=by
  have:=cb t (by rw[List.getLast?_eq_getElem?];exact htq)
  omega
 have htl:=hb.get htq
 obtain⟨k,hk⟩:∃k,k=31-aj t:=⟨_,rfl⟩
 obtain⟨k32,hVlt,hVge⟩:=apA hb (by omega) htq h0 hk
 have elz:=aKw h0 htl
 rw[← hk]at elz
 obtain⟨W1,sh1⟩:=aep (H0:=[]) ha k32 hn
 obtain⟨W2,sh2⟩:=aep (H0:=[Z (.cells (aJ (aU (a.length+1) (val a*2 ^ k))))]) hb k32 (by omega)
 rw[List.nil_append]at sh1
 simp only[aUf,aTV,List.cons_append,List.nil_append,aUe]at sh1 sh2
 have hVB:val b*2 ^ k<4294967296 ^ (b.length+1):=aUj hVlt (Nat.pow_le_pow_right (by omega) (by omega))
 have hp2:2 ^ k≤2147483648:=by
  have:2 ^ k≤2 ^ 31:=Nat.pow_le_pow_right (by omega) (by omega)
  simpa using this
 have hAB:val a*2 ^ k<4294967296 ^ (a.length+1):=by
  rw[Nat.pow_succ]
  exact Nat.mul_lt_mul_of_lt_of_le (bL ha) (by omega) (by omega)
 have hV0:0<val b*2 ^ k:=aUj (Nat.mul_pos (by omega) (Nat.pow_pos (by omega))) hVge
 have hstart:val (aU (a.length+1) (val a*2 ^ k))<val b*2 ^ k*4294967296 ^ (a.length+1-b.length):=by
  rw[go _ _ hAB]
  have e1:val a*2 ^ k<4294967296 ^ a.length*2147483648:=Nat.mul_lt_mul_of_lt_of_le (bL ha) hp2 (by omega)
  have e2:2147483648*4294967296 ^ (b.length-1)*4294967296 ^ (a.length+1-b.length)≤val b*2 ^ k*4294967296 ^ (a.length+1-b.length):=Nat.mul_le_mul_right _ hVge
  rw[aUk,← Nat.pow_add,show b.length-1+(a.length+1-b.length)=a.length by omega,Nat.mul_comm]at e2
  omega
 have hcf:CA (ao tL.tb 10 8) 299 o5:=fun _ _ _=>rfl
 obtain⟨_,st1,hl1,_,rfl,x,qs,t2,t3,t4,t5,t7,t9,t10,t11,t12,t13,t14,t15,t16,t17,t18,t19,t20,t21,t22,t23,t24,t25,t26,t27,t30,t31,t32,t33,t34,t35,t36,W3,rfl,hx,lx,hqs,lq,_,hlt,hU⟩:=bg (I0 (aU (b.length+1) (val b*2 ^ k)) (val a*2 ^ k) (val b*2 ^ k) b.length (a.length+1) (a.length+1-b.length) k) (fun j=>j) (fun x st=>x=.exit 0∧I0 (aU (b.length+1) (val b*2 ^ k)) (val a*2 ^ k) (val b*2 ^ k) b.length (a.length+1) (a.length+1-b.length) k 0 st)
  (fun j st h=>aGm (ft _ _) (aQ _ _) (arQ (by omega) hVlt) h2 (by omega) (by omega) hVge (ao tL.tb 10 8) hcf h) 2000001 (a.length+1-b.length) ⟨[zT (a.length+1-b.length),.t (.one (.lsl 0 0 (a.length+1) 1)),.nil,.nil,.nil,.nil,iT b.length,.nil,.t (.one (.lsl 1 0 b.length 1)),.nil,.nil,.nil,.nil,.nil,.nil,.nil,.nil,.nil,.nil,.nil,.nil,.nil,.nil,.nil,.nil,.nil,.nil,.nil,iT k,.t (.one (.lsl 2 0 (a.length+1-b.length) 1)),.t (.one (.c (.v (.slice U 0 0)))),.nil,.nil,.nil,.nil,aT b,aT a],[Z (.cells (aJ (aU (a.length+1) (val a*2 ^ k)))),Z (.cells (aJ (aU (b.length+1) (val b*2 ^ k)))),Z (.cells (aJ (aT5 (a.length+1-b.length) 0)))],[],W2++W1,[]⟩
  ⟨_,_,_,_,_,_,_,_,_,_,_,_,_,_,_,_,_,_,_,_,_,_,_,_,_,_,_,_,_,_,_,_,_,_,rfl,aQ _ _,ft _ _,by simp,gQ _,aTS _,hstart,by rw[go _ _ hAB,List.drop_of_length_le (by simp)];simp[val]⟩ (by omega)
 rw[Nat.pow_zero,Nat.mul_one]at hlt hU
 rw[List.drop_zero]at hU
 have hdiv:val b*2 ^ k*val qs=val b*val qs*2 ^ k:=by rw[Nat.mul_right_comm]
 have hp:0<2 ^ k:=Nat.pow_pos (by omega)
 have hb0:0<val b:=Nat.pos_of_mul_pos_right hV0
 have hq:val qs=val a/val b:=by
  have e1:val a*2 ^ k/(val b*2 ^ k)=val a/val b:=Nat.mul_div_mul_right _ _ hp
  rw[← e1,hU,Nat.add_mul_div_left _ _ hV0,Nat.div_eq_of_lt hlt,aUe]
 have hr:val x=val a%val b*2 ^ k:=by
  have e1:val a*2 ^ k%(val b*2 ^ k)=val a%val b*2 ^ k:=Nat.mul_mod_mul_right _ _ _
  rw[← e1,hU,Nat.add_mul_mod_self_left,aT9 hlt]
 have hY:val a%val b=val x/2 ^ k:=by rw[hr,Nat.mul_div_cancel _ hp]
 have hqd:qs=aU (a.length+1-b.length) (val a/val b):=lz lq hqs hq
 subst hqd
 obtain⟨st2,hl2,r,u25,u33,W4,rfl,hrl,lr,hrv⟩:=bq b.length (I4 x (aU (b.length+1) (val b*2 ^ k)) (aU (a.length+1-b.length) (val a/val b)) b.length (a.length+1) k (val a%val b) (zT 0) t2 t3 t4 t5 (iT b.length) t7 (.t (.one (.lsl 1 0 b.length 1))) t9 t10 t11 t12 t13 t14 t15 t16 t17 t18 t19 t20 t21 t22 t23 t26 t27 (.t (.one (.lsl 2 0 (a.length+1-b.length) 1))) t31 t32 t35 t36) (I4 x (aU (b.length+1) (val b*2 ^ k)) (aU (a.length+1-b.length) (val a/val b)) b.length (a.length+1) k (val a%val b) (zT 0) t2 t3 t4 t5 (iT b.length) t7 (.t (.one (.lsl 1 0 b.length 1))) t9 t10 t11 t12 t13 t14 t15 t16 t17 t18 t19 t20 t21 t22 t23 t26 t27 (.t (.one (.lsl 2 0 (a.length+1-b.length) 1))) t31 t32 t35 t36 b.length)
  (fun i st hi h=>aML lx hx (by omega) k32 (by omega) hY (ao tL.tb 10 8) 2000001 hi h) (fun st h=>aJq (ao tL.tb 10 8) 2000001 h) 2000001 ⟨[zT 0,.t (.one (.lsl 0 0 (a.length+1) 1)),t2,t3,t4,t5,iT b.length,t7,.t (.one (.lsl 1 0 b.length 1)),t9,t10,t11,t12,t13,t14,t15,t16,t17,t18,t19,t20,t21,t22,t23,iT 0,t25,t26,t27,iT k,.t (.one (.lsl 2 0 (a.length+1-b.length) 1)),.t (.one (.lsl 3 0 b.length 1)),t31,t32,t33,iT b.length,t35,t36],[Z (.cells (aJ x)),Z (.cells (aJ (aU (b.length+1) (val b*2 ^ k)))),Z (.cells (aJ (aU (a.length+1-b.length) (val a/val b)))),Z (.cells (aJ (aT5 b.length 0)))],[],W3,[]⟩
  ⟨_,_,_,_,rfl,by simp,gQ _,by simp[val,Nat.mod_one]⟩ (by omega)
 rw[aUi (by omega)]at hrv
 have hmb:val a%val b<4294967296 ^ b.length:=Nat.lt_trans (aUb _ hb0) (bL hb)
 rw[aT9 hmb]at hrv
 have hrd:r=aU b.length (val a%val b):=lz lr hrl hrv
 subst hrd
 have c1:CA (ao tL.tb 10 8) 303 afb:=fun _ _ _=>rfl
 have c2:∀al H S,ao tL.tb 10 8 (fT 304) al H S=z5 al H S:=fun al H S=>by simp only[ao,mV,tL,Ft.tb,Ft.fn,zx,List.map_nil,List.append_nil];rfl
 generalize ao tL.tb 10 8=cf at hl1 hl2 c1 c2 ⊢
 have db:b.drop (b.length-1)=t::b.drop (b.length-1+1):=by rw[aA ht,htd]
 have e1:af b.length-af 1=af (b.length-1):=by simp only[aT7];omega
 have e2:b.length-1<9223372036854775808:=by omega
 have e3:af (a.length+1)-af b.length=af (a.length+1-b.length):=by simp only[aT7];omega
 have e4:a.length+1-b.length<9223372036854775808:=by omega
 have e5:a.length+1-b.length≤1073741824:=by omega
 have e6:4*(a.length+1-b.length)≤70368744177664:=by omega
 have e7:b.length≤b.length+1:=by omega
 have e8:b.length≤1073741824:=by omega
 have e9:4*b.length≤70368744177664:=by omega
 have e10:=jw e4
 have e11:a.length+1<9223372036854775808:=by omega
 have e12:b.length<9223372036854775808:=by omega
 have e13:0<b.length:=by omega
 simp(maxSteps:=9^9) only[az,seval,-ac,-ae,aRe,c1,c2,elz,sh1,sh2,hl1,hl2,ht,db,e1,e2,e3,e4,e5,e6,e7,e8,e9,e10,e11,e12,e13,ar]
def aox (m:Nat)(h:m<4294967296):IntKind.wrap .u64 (aT2 m)=af (18446744073709551615-m):=by
 simp only[IntKind.wrap,IntKind.bits,IntKind.signed]
 have:aT2 m%18446744073709551616=((18446744073709551615-m:Nat):Int):=by omega
 simpa using this
def aow (m:Nat)(h:m<4294967296):IntKind.wrap .u64 (0-af (18446744073709551615-m))=af (m+1):=by
 simp only[IntKind.wrap,IntKind.bits,IntKind.signed]
 have:(0-af (18446744073709551615-m))%18446744073709551616=((m+1:Nat):Int):=by simp only[aT7];omega
 simpa using this
def aC0 {n:Nat}(h:n<4294967296)(q:Bool):j8 [.one (.sl 2 [.v (.int .u32 (af n)),.v (.int .u32 (af 0))]),.one (.v (.bool q))]=Z [cI (q&&ah 0 n) n]:=by
 have lo:lims [n,0]:=fun d hd=>by
  rcases aTZ.1 hd with rfl|hd
  ·exact h
  ·simp at hd;omega
 have hv:val [n,0]=n:=by simp[val]
 have:=m8 lo q (by show 2<1000000;omega)
 rw[hv]at this
 exact this
def fM:List V1→Option (List V1)
 |[.one (.v (.int .i64 z))]=>match ah (ap z) 4294967296 with|true=>Z [gI z]|false=>U
 |_=>U
def aK2 {z:Int}(h:ap z<4294967296):bM (ao tM.tb 10 8) 10 aqC.1 [.one (.v (.int .i64 z))]=Z [gI z]:=by
 match z with
 |.ofNat n=>
  have h:n<4294967296:=h
  have e0:n/4294967296=0:=Nat.div_eq_of_lt h
  have e1:n<18446744073709551616:=by omega
  have e2:n%4294967296=n:=aT9 h
  have z:(n<0)=False:=eq_false (by omega)
  have eN:=aC0 h aa
  simp(maxSteps:=9^9) only[az,seval,-ac,-ae,aHT,tM,e0,e1,e2,eN,z,cI,gI,aw,ap]
 |.negSucc m=>
  have h:m+1<4294967296:=h
  have e0:(m+1)/4294967296=0:=Nat.div_eq_of_lt h
  have e2:(m+1)%4294967296=m+1:=aT9 h
  have eN:=aC0 h ab
  have w1:=aox m (by omega)
  have w2:=aow m (by omega)
  have hb:ah 0 (m+1)=ab:=by simp
  rw[hb]at eN
  simp(maxSteps:=9^9) only[az,seval,-ac,-ae,aHT,tM,w1,w2,e0,e2,eN,cI,gI,aw,ap]
def vq {k:Cls}:Cn k 180 fM:=aC (ay aDH aqC.2 10 10 8) fun al rs h=>by
 unfold fM at h
 split at h
 ·split at h
  ·rename_i hc
   cases h
   exact aK2 (by simpa using hc)
  ·cases h
 ·cases h
def tJ1:Ft:=.n (.n .z 238 (.nat gH) U .z) 253 (.nat gv) U .z
def aNh {k:Cls}:tJ1.Ok Tryz.prog k aH:=⟨⟨tv,vG,tv,tv⟩,ri,tv,tv⟩
def ais {a:Int}(h:aE a):aE (-a):=by
 have e:ap (-a)=ap a:=by simp only[dZ,Int.natAbs_neg]
 unfold aE;rw[e];exact h
def alg {k:Cls}:Cn k 270 kX:=aC (ay aNh az7.2 10 10 8) fun al rs h=>by
 obtain⟨a,b,rfl,ha,hb,rfl⟩:=l7 h
 have e1:=ji hb
 have e2:=qx ha (ais hb)
 rw[Int.sub_eq_add_neg]
 unfold gI at e1 e2 ⊢
 simp(maxSteps:=9^9) only[az,seval,-ac,-ae,aQ9,tJ1,e1,e2]
def as1 {k:Cls}:CX k 276 (fk akK.1):=nM (by kernel_rfl) akK.2 (fun _ _=>rfl) (fun _ _ _ _=>rfl)
def ahK:List V1→Option (List V1):=un2 fun a b=>match ah a.length 1000000&&(aTQ 2 b.length&&(aTQ b.length a.length&&xW b))with|true=>Z [.one (aB (aU (a.length+1-b.length) (val a/val b))),.one (aB (aU b.length (val a%val b)))]|false=>U
def auI {k:Cls}:Cn k 278 ahK:=aC (ay aPt my.2 10 2000001 8) fun al rs h=>by
 obtain⟨a,b,rfl,ha,hb,h⟩:=aew h
 split at h
 ·rename_i hc
  cases h
  rw[aTT,aTT,aTT,aTR,Nat.ble_eq,Nat.ble_eq,mP]at hc
  exact ayz ha hb hc.2.2.2 hc.1 hc.2.1 hc.2.2.1
 ·cases h
def aFd {a b:List Nat}(ha:lims a)(hb:lims b)(cb:gn b)(h1:a.length<1000000)(h2:2≤b.length)(h3:b.length≤a.length):ahK [.one (aB a),.one (aB b)]=Z [.one (aB (aU (a.length+1-b.length) (val a/val b))),.one (aB (aU b.length (val a%val b)))]:=by
 unfold ahK;rw[ah3 ha hb]
 have hc:(ah a.length 1000000&&(aTQ 2 b.length&&(aTQ b.length a.length&&xW b)))=ab:=by rw[aTT,aTT,aTT,aTR,Nat.ble_eq,Nat.ble_eq,mP];exact⟨h1,h2,h3,cb⟩
 simp only[hc]
def tDv:Ft:=.n (.n .z 236 (.nat ql) U .z) 276 (.wnat (fk akK.1)) U (.n (.n .z 277 (.nat z6) U .z) 278 (.nat ahK) U .z)
def aM0 {k:Cls}:tDv.Ok Tryz.prog k aH:=⟨⟨tv,yg,tv,tv⟩,as1,tv,⟨tv,ary,tv,tv⟩,auI,tv,tv⟩
def qLs (x y:Nat):List Nat:=if x<y then [] else if (ax y).length=1 then aU (ax x).length (x/y) else aU ((ax x).length+1-(ax y).length) (x/y)
def rLs (x y:Nat):List Nat:=if x<y then ax x else if (ax y).length=1 then [x%y] else aU (ax y).length (x%y)
def ayt {y:Nat}(h:(ax y).length=1):ax y=[y]∧y<4294967296:=by
 match hd:ax y,h with
 |[d],_=>
  have:=aD y
  rw[hd,ke]at this
  subst this
  exact⟨rfl,aI d d (by rw[hd];simp)⟩
def aMd {x y:Nat}(hy:0<y)(hx:(ax x).length<500000):lims (qLs x y)∧val (qLs x y)=x/y∧(qLs x y).length<600000∧lims (rLs x y)∧val (rLs x y)=x%y∧(rLs x y).length<600000:=by
 unfold qLs rLs
 by_cases h:x<y
 ·rw[if_pos h,if_pos h]
  exact⟨fun d hd=>(List.not_mem_nil hd).elim,by rw[Nat.div_eq_of_lt h];rfl,by show 0<600000;omega,aI x,by rw[aD,aT9 h],by omega⟩
 ·rw[if_neg h,if_neg h]
  have hle:=jq (Nat.le_of_not_lt h)
  have hxv:=bL (aI x)
  rw[aD]at hxv
  have hyv:=bL (aI y)
  rw[aD]at hyv
  have hm:=aUb x hy
  by_cases h1:(ax y).length=1
  ·rw[if_pos h1,if_pos h1]
   have:=(ayt h1).2
   exact⟨ft _ _,go _ _ (aUh (Nat.div_le_self _ _) hxv),by rw[aQ];omega,fun d hd=>by simp at hd;omega,ke _,by show 1<600000;omega⟩
  ·rw[if_neg h1,if_neg h1]
   refine⟨ft _ _,go _ _ ?_,by rw[aQ];omega,ft _ _,go _ _ (by omega),by rw[aQ];omega⟩
   have hp:=cL hy
   have hy1:4294967296 ^ ((ax y).length-1)≤y:=by
    rcases jW (cn y)with h2|h2
    ·have:=qn.1 h2;omega
    ·rw[aD]at h2;exact h2
   rw[Nat.div_lt_iff_lt_mul hy]
   refine aUj hxv ?_
   refine aUd ?_ (Nat.mul_le_mul_left _ hy1)
   rw[← Nat.pow_add]
   exact Nat.pow_le_pow_right (by omega) (by omega)
def apa {x y:Nat}(hy:0<y)(hx:(ax x).length<500000)(hy':(ax y).length<500000):
  bM (ao tDv.tb 10 8) 10 aqT.1 [.one (aB (ax x)),.one (aB (ax y))]=Z [.one (aB (qLs x y)),.one (aB (rLs x y))]:=by
 have eC:=adb (aI x) (aI y) (cn x) (cn y) (by omega) (by omega)
 rw[aD,aD]at eC
 unfold qLs rLs
 by_cases h:x<y
 ·rw[pP h]at eC
  rw[if_pos h,if_pos h]
  rcases aUc x with rfl|hp
  ·have d0:ax 0=[]:=rfl
   rw[d0]at eC ⊢
   simp only[aB,aUf,alx]at eC
   simp(maxSteps:=9^9) only[az,seval,-ac,-ae,aoG,tDv,ar,eC,apD,fk,wc,aB]
  ·obtain⟨d,r,hd⟩:=abT hp
   have hne:wc (.t (.one (.c (.sl (r.length+1) (aNZ d::uc r)))))=aa:=rfl
   rw[hd]at eC hx ⊢
   simp only[aTV]at hx
   have l1:r.length+1≤1073741824:=by omega
   have l2:(r.length+1)*4≤70368744177664:=by omega
   have l3:(r.length+1=0)=False:=eq_false (by omega)
   simp only[aB,aTV,abd]at eC
   simp(maxSteps:=9^9) only[az,seval,-ac,-ae,aoG,tDv,ar,eC,apD,fk,hne,l1,l2,l3,aB,List.take_length,aRc]
 ·have eC':∃n:Nat,cH x y=.ofNat n:=by
   rcases Nat.eq_or_lt_of_le (Nat.le_of_not_lt h)with h|h
   ·rw[h];exact⟨0,tR _⟩
   ·exact⟨1,pO h⟩
  obtain⟨n,hn⟩:=eC'
  rw[hn]at eC
  have z:(n<0)=False:=eq_false (by omega)
  have hle:=jq (Nat.le_of_not_lt h)
  rw[if_neg h,if_neg h]
  by_cases h1:(ax y).length=1
  ·obtain⟨hd,hy32⟩:=ayt h1
   rw[if_pos h1,if_pos h1]
   have eS:=aBe (aI x) hy hy32 (by omega)
   rw[aD]at eS
   rw[hd]at eC ⊢
   simp only[aB,aTV,aUf,aUe,abd,alx,aQ]at eC eS
   simp(maxSteps:=9^9) only[az,seval,-ac,-ae,aoG,tDv,ar,eC,eS,z,aB]
  ·rw[if_neg h1,if_neg h1]
   have hp:=cL hy
   have eL:=aFd (aI x) (aI y) (cn y) (by omega) (by omega) hle
   rw[aD,aD]at eL
   have h1':((ax y).length==1)=aa:=by simpa using h1
   simp(maxSteps:=9^9) only[az,seval,-ac,-ae,aoG,tDv,ar,eC,eL,z,h1']
abbrev cX (n:Nat):V1:=.one (.big n)
def xV (f:Nat→Nat→Option (List V1)):List V1→Option (List V1)
 |[.one (.big x),.one (.big y)]=>match iB x&&iB y with|true=>f x y|false=>U
 |_=>U
def mU {n:Nat}:iB n=ab↔aj n<8388608:=by unfold iB;rw[aTR]
def qh {f:Nat→Nat→Option (List V1)}{al rs:List V1}(h:xV f al=Z rs):∃x y,al=[cX x,cX y]∧(ax x).length<300000∧(ax y).length<300000∧f x y=Z rs:=by
 unfold xV at h
 split at h
 ·split at h
  ·rename_i hc
   rw[aTT,mU,mU]at hc
   exact⟨_,_,rfl,fe hc.1,fe hc.2,h⟩
  ·cases h
 ·cases h
def vM {f:Nat→Nat→Option (List V1)}{x y:Nat}(hx:aj x<8388608)(hy:aj y<8388608):xV f [cX x,cX y]=f x y:=by
 have hc:(iB x&&iB y)=ab:=by rw[aTT,mU,mU];exact⟨hx,hy⟩
 simp only[xV,hc]
def mZ (x y:Nat):Imps [cX x,cX y] [.one (aB (ax x)),.one (aB (ax y))]:=.cons (mY (j4 x)) (.cons (mY (j4 y)) .nil)
def abU:List V1→Option (List V1):=xV fun x y=>match ah 0 y with|true=>Z [.one (aB (qLs x y)),.one (aB (rLs x y))]|false=>U
def aiU {k:Cls}:Cn k 247 abU:=bZ (ay aM0 aqT.2 10 10 8) fun al rs h=>by
 obtain⟨x,y,rfl,hx,hy,h⟩:=qh h
 split at h
 ·rename_i h0
  cases h
  exact⟨_,_,mZ x y,apa (by simpa using h0) (by omega) (by omega),Imps.refl _⟩
 ·cases h
def apQ:List V1→Option (List V1):=xV fun x y=>match aTQ y x with|true=>Z [.one (aB (aU (ax x).length (x-y)))]|false=>U
def ayU {k:Cls}:Cn k 273 apQ:=bZ (ay arM acv.2 10 2000001 8) fun al rs h=>by
 obtain⟨x,y,rfl,hx,hy,h⟩:=qh h
 split at h
 ·rename_i h0
  cases h
  have h0:y≤x:=by simpa using h0
  refine⟨_,_,mZ x y,agS (aI x) (aI y) (by omega) (jq h0) (by rw[aD,aD];exact h0),?_⟩
  rw[aD,aD]
  exact Imps.refl _
 ·cases h
def atj {x y:Nat}(hx:aj x<8388608)(hy:aj y<8388608)(h0:0<y):abU [cX x,cX y]=Z [.one (aB (qLs x y)),.one (aB (rLs x y))]:=by
 have h:ah 0 y=ab:=by simpa using h0
 unfold abU;rw[vM hx hy];simp only[h]
def aKz {x y:Nat}(hx:aj x<8388608)(hy:aj y<8388608)(h0:y≤x):apQ [cX x,cX y]=Z [.one (aB (aU (ax x).length (x-y)))]:=by
 have h:aTQ y x=ab:=by simpa using h0
 unfold apQ;rw[vM hx hy];simp only[h]
def bR {m n:Nat}(h:m≤n):aj m≤aj n:=by
 rcases aUc m with rfl|hm
 ·exact Nat.zero_le _
 ·exact(Nat.le_log2 (by omega)).2 (aUd (Nat.log2_self_le (by omega)) h)
def tGc:Ft:=.n (.n .z 237 (.nat j8) U .z) 247 (.nat abU) U .z
def aNc {k:Cls}:tGc.Ok Tryz.prog k aH:=⟨⟨tv,sJ,tv,tv⟩,aiU,tv,tv⟩
abbrev gT (n:Nat):T:=.t (.one (.c (.big n)))
def Ig (n0:Nat)(H:Hp)(t4 t5 t6 t7 t8:T)(s:Nat × Nat)(st:St):Prop:=
 ∃(t2 t3:T),(match s with|(x,y)=>st=⟨[gT y,gT x,t2,t3,t4,t5,t6,t7,t8],H,[],[],[]⟩∧aTY x y=n0∧aj x<8388608∧aj y<8388608)
def exFuel:∃f:Nat,∀y,aj y<8388608→y<f:=exFu 8388608
def ak:Nat:=exFuel.choose
def pU {y:Nat}(h:aj y<8388608):y<ak:=exFuel.choose_spec y h
def aGp {n0:Nat}{H:Hp}{t4 t5 t6 t7 t8:T}{cf:av}(c1:CA cf 247 abU)(c2:CA cf 237 j8)(fl:Nat)(s:Nat × Nat)(st:St)(h:Ig n0 H t4 t5 t6 t7 t8 s st):
  (∃s' st',am cf fl adB st=Z (.normal,st')∧Ig n0 H t4 t5 t6 t7 t8 s' st'∧s'.2<s.2)∨(∃x st',am cf fl adB st=Z (x,st')∧x≠.normal∧x=.exit 0∧Ig n0 H t4 t5 t6 t7 t8 (n0,0) st'):=by
 obtain⟨x,y⟩:=s
 obtain⟨t2,t3,rfl,hg,hx,hy⟩:=h
 rcases aUc y with rfl|hp
 ·right
  have d0:ax 0=[]:=rfl
  simp(maxSteps:=9^9) only[az,seval,-ac,-ae,ask,ar,d0]
  rw[Nat.gcd_zero_right]at hg
  subst hg
  exact⟨_,_,rfl,by simp,rfl,_,_,rfl,Nat.gcd_zero_right _,hx,hy⟩
 ·left
  have hl:=cL hp
  have e1:=atj hx hy hp
  obtain⟨q1,q2,q3,q4,q5,q6⟩:=aMd hp (x:=x) (by have:=fe hx;omega)
  have e2:=m8 q4 aa (by omega)
  rw[q5]at e2
  simp(maxSteps:=9^9) only[az,seval,-ac,-ae,ask,ar,hl,c1,c2,e1,e2,cI]
  have hm:=aUb x hp
  refine⟨(y,x%y),_,rfl,⟨_,_,rfl,?_,hy,aUh (bR (Nat.le_of_lt hm)) hy⟩,hm⟩
  rw[← hg,Nat.gcd_comm y,← Nat.gcd_rec,Nat.gcd_comm]
def aEQ {a b:Int}(ha:aE a)(hb:aE b):bM (ao tGc.tb 10 8) ak afQ.1 [gI a,gI b]=Z [.agg [.v (.bool aa),.big (aTY (ap a) (ap b))]]:=by
 have c1:CA (ao tGc.tb 10 8) 247 abU:=fun _ _ _=>rfl
 have c2:CA (ao tGc.tb 10 8) 237 j8:=fun _ _ _=>rfl
 generalize ao tGc.tb 10 8=cf at c1 c2 ⊢
 obtain⟨_,st',hl,_,rfl,t2,t3,rfl,_⟩:=bg (Ig (aTY (ap a) (ap b)) [Z (.cells [.c (.v (.bool (aw a))),.c (.big (ap a))]),Z (.cells [.c (.v (.bool (aw b))),.c (.big (ap b))]),Z (.cells [.c (.v (.bool aa)),.c (.v (.slice U 0 0))])] (.t (.one (.ptr 0 0))) (.t (.one (.ptr 1 0))) (.t (.one (.ptr 2 0))) (.t (.agg [.c (.v (.bool (aw a))),.c (.big (ap a))])) (.t (.agg [.c (.v (.bool (aw b))),.c (.big (ap b))]))) (fun s=>s.2) (fun x st'=>x=.exit 0∧Ig (aTY (ap a) (ap b)) [Z (.cells [.c (.v (.bool (aw a))),.c (.big (ap a))]),Z (.cells [.c (.v (.bool (aw b))),.c (.big (ap b))]),Z (.cells [.c (.v (.bool aa)),.c (.v (.slice U 0 0))])] (.t (.one (.ptr 0 0))) (.t (.one (.ptr 1 0))) (.t (.one (.ptr 2 0))) (.t (.agg [.c (.v (.bool (aw a))),.c (.big (ap a))])) (.t (.agg [.c (.v (.bool (aw b))),.c (.big (ap b))])) (aTY (ap a) (ap b),0) st')
  (fun s st h=>aGp c1 c2 ak s st h) ak (ap a,ap b) _ ⟨.nil,.nil,rfl,rfl,ha,hb⟩ (pU hb)
 simp(maxSteps:=9^9) only[az,seval,-ac,-ae,aQS,hl,gI]
def qy:List V1→Option (List V1):=ig2 fun a b=>[gI (af (aTY (ap a) (ap b)))]
def ajd {k:Cls}:Cn k 217 qy:=aC (ay aNc afQ.2 10 ak 8) fun al rs h=>by
 obtain⟨a,b,rfl,ha,hb,rfl⟩:=l7 h
 exact aEQ ha hb
def aJN {a b:Int}(ha:aE a)(hb:aE b):qy [gI a,gI b]=Z [gI (af (aTY (ap a) (ap b)))]:=aaH ha hb
def tDm:Ft:=.n (.n (.n .z 180 (.nat fM) U .z) 237 (.nat j8) U .z) 238 (.nat gH) U (.n (.n .z 247 (.nat abU) U .z) 253 (.nat gv) U (.n .z 273 (.nat apQ) U .z))
def aMZ {k:Cls}:tDm.Ok Tryz.prog k aH:=⟨⟨⟨tv,vq,tv,tv⟩,sJ,tv,tv⟩,vG,tv,⟨tv,aiU,tv,tv⟩,ri,tv,tv,ayU,tv,tv⟩
def afn (n:Nat):aw (af n)=aa:=rfl
def aeE (n:Nat):ap (af n)=n:=rfl
def an5 (m:Nat){y:Nat}(hy:0<y):((m+1)%y=0∧(m+1)/y=m/y+1∧m%y+1=y)∨(0<(m+1)%y∧(m+1)/y=m/y∧(m+1)%y=m%y+1):=by
 have h:=Nat.div_add_mod m y
 have hr:=aUb m hy
 by_cases he:m%y+1=y
 ·left
  have e:m+1=y*(m/y+1):=by rw[aT4,Nat.mul_one];omega
  exact⟨by rw[e,Nat.mul_mod_right],by rw[e,Nat.mul_div_cancel_left _ hy],he⟩
 ·right
  have e:m+1=y*(m/y)+(m%y+1):=by omega
  have e1:(m+1)%y=m%y+1:=by
   have e3:(y*(m/y)+(m%y+1))%y=m%y+1:=by rw[Nat.mul_add_mod,aT9 (show m%y+1<y by omega)]
   rw[← e]at e3
   exact e3
  have e2:(m+1)/y=m/y:=by
   have e3:(y*(m/y)+(m%y+1))/y=m/y:=by rw[Nat.mul_add_div hy,Nat.div_eq_of_lt (show m%y+1<y by omega),Nat.add_zero]
   rw[← e]at e3
   exact e3
  exact⟨by rw[e1];exact Nat.succ_pos _,e2,e1⟩
def aB9 (a:Int){b:Int}(h0:b≠0):a.ediv b=(if aw a&&ah 0 (ap a%ap b) then (if aw a != aw b then -af (ap a/ap b+1) else af (ap a/ap b+1)) else (if aw a != aw b then -af (ap a/ap b) else af (ap a/ap b)))∧a.emod b=(if aw a&&ah 0 (ap a%ap b) then af (ap b-ap a%ap b) else af (ap a%ap b)):=by
 match a,b,h0 with
 |.ofNat x,.ofNat y,_=>exact⟨rfl,rfl⟩
 |.ofNat x,.negSucc m,_=>exact⟨rfl,rfl⟩
 |.negSucc m,.ofNat 0,h0=>exact absurd rfl h0
 |.negSucc m,.ofNat (n+1),_=>
  show aT2 (m/(n+1))=(if ab&&ah 0 ((m+1)%(n+1)) then -af ((m+1)/(n+1)+1) else -af ((m+1)/(n+1)))∧Int.subNatNat (n+1) (m%(n+1)+1)=(if ab&&ah 0 ((m+1)%(n+1)) then af (n+1-(m+1)%(n+1)) else af ((m+1)%(n+1)))
  have hr:=aUb m (Nat.succ_pos n)
  rcases an5 m (Nat.succ_pos n)with⟨h1,h2,h3⟩|⟨h1,h2,h3⟩
  ·have hb:ah 0 ((m+1)%(n+1))=aa:=by rw[h1];rfl
   rw[hb,h1,h2,h3,Int.subNatNat_self]
   exact⟨rfl,rfl⟩
  ·have hb:ah 0 ((m+1)%(n+1))=ab:=by simpa using h1
   rw[hb,h2,h3,Int.subNatNat_of_le hr]
   exact⟨rfl,rfl⟩
 |.negSucc m,.negSucc n,_=>
  show af (m/(n+1)+1)=(if ab&&ah 0 ((m+1)%(n+1)) then af ((m+1)/(n+1)+1) else af ((m+1)/(n+1)))∧Int.subNatNat (n+1) (m%(n+1)+1)=(if ab&&ah 0 ((m+1)%(n+1)) then af (n+1-(m+1)%(n+1)) else af ((m+1)%(n+1)))
  have hr:=aUb m (Nat.succ_pos n)
  rcases an5 m (Nat.succ_pos n)with⟨h1,h2,h3⟩|⟨h1,h2,h3⟩
  ·have hb:ah 0 ((m+1)%(n+1))=aa:=by rw[h1];rfl
   rw[hb,h1,h2,h3,Int.subNatNat_self]
   exact⟨rfl,rfl⟩
  ·have hb:ah 0 ((m+1)%(n+1))=ab:=by simpa using h1
   rw[hb,h2,h3,Int.subNatNat_of_le hr]
   exact⟨rfl,rfl⟩
def aI7 {a b:Int}(ha:aE a)(hb:aE b)(h0:b≠0)(hq:aE (af (ap a/ap b+1))):bM (ao tDm.tb 10 8) 10 aqV.1 [gI a,gI b]=Z [gI (a.ediv b),gI (a.emod b),.one (.v (.int .i64 (.ofNat 0)))]:=by
 have hy:0<ap b:=by
  cases b with
  |ofNat n=>cases n with|zero=>exact absurd rfl h0|succ n=>exact Nat.succ_pos n
  |negSucc n=>exact Nat.succ_pos n
 have hl:=cL hy
 have e0:((ax (ap b)).length==0)=aa:=by simp only[beq_eq_false_iff_ne,ne_eq];omega
 have e1:=atj ha hb hy
 obtain⟨q1,q2,q3,q4,q5,q6⟩:=aMd hy (x:=ap a) (by have:=fe ha;omega)
 have e2:=m8 q1 aa (by omega)
 have e3:=m8 q4 aa (by omega)
 rw[q2]at e2
 rw[q5]at e3
 have hm:=aUb (ap a) hy
 have fr:aj (ap a%ap b)<8388608:=aUh (bR (Nat.le_of_lt hm)) hb
 have fq:aE (af (ap a/ap b)):=aUh (bR (Nat.le_succ _)) hq
 have e4:fM [.one (.v (.int .i64 (af 1)))]=Z [gI (af 1)]:=rfl
 have e5:gH [gI (af (ap a/ap b)),gI (af 1)]=Z [gI (af (ap a/ap b+1))]:=qx fq (show aE (af 1) by unfold aE;decide)
 have e6:=aKz hb fr (Nat.le_of_lt hm)
 have hyr:ap b-ap a%ap b<4294967296 ^ (ax (ap b)).length:=by
  have:=bL (aI (ap b));rw[aD]at this;omega
 have e7:=m8 (ft (ax (ap b)).length (ap b-ap a%ap b)) aa (by rw[aQ];have:=fe hb;omega)
 rw[go _ _ hyr]at e7
 rw[ala]at e6 e7
 have e8:=ji fq
 have e9:=ji hq
 have hE:=aB9 a h0
 obtain⟨hE1,hE2⟩:=hE
 rw[hE1,hE2]
 simp only[gI,afn,aeE]at e4 e5 e8 e9
 rcases aUc (ap a%ap b)with hr|hr
 ·have d0:ax 0=[]:=rfl
  rw[hr]at e3 ⊢
  cases hna:aw a<;>cases hnb:aw b<;>simp(maxSteps:=9^9) only[az,seval,-ac,-ae,aH8,tDm,ar,e0,e1,e2,e3,e8,e9,gI,hna,hnb,cI,d0,afn,aeE]
 ·have hrl:=cL hr
  have hb0:ah 0 (ap a%ap b)=ab:=by simpa using hr
  cases hna:aw a<;>cases hnb:aw b<;>simp(maxSteps:=9^9) only[az,seval,-ac,-ae,aH8,tDm,ar,e0,e1,e2,e3,e4,e5,e6,e7,e8,e9,gI,hna,hnb,cI,hrl,hb0,show 1≤ap a%ap b from hr,afn,aeE]
def ef:List V1→Option (List V1)
 |[x,y]=>match dU x,dU y with
  |some a,Z b=>(match co b 0,iB (ap a/ap b+1)with|false,ab=>Z [gI (a.ediv b),gI (a.emod b),.one (.v (.int .i64 (.ofNat 0)))]|_,_=>U)
  |_,_=>U
 |_=>U
def amz {k:Cls}:Cn k 254 ef:=aC (ay aMZ aqV.2 10 10 8) fun al rs h=>by
 unfold ef at h
 split at h
 ·split at h
  ·rename_i hx hy
   obtain⟨rfl,ha⟩:=bX hx
   obtain⟨rfl,hb⟩:=bX hy
   split at h
   ·rename_i hz hf
    cases h
    exact aI7 ha hb (by intro e;subst e;cases hz) (mU.1 hf)
   ·cases h
  ·cases h
 ·cases h
def amG {a b:Int}(ha:aj (ap a)<8000000)(hb:b≠0):aj (ap a/ap b+1)<8388608:=by
 have:ap a/ap b+1≤ap a*2+1:=by
  have:=Nat.div_le_self (ap a) (ap b)
  omega
 have h2:=bR this
 have h3:=lgC ha
 omega
def agD {a b:Int}(ha:aj (ap a)<8000000)(hb:aE b)(h0:b≠0):ef [gI a,gI b]=Z [gI (a.ediv b),gI (a.emod b),.one (.v (.int .i64 (.ofNat 0)))]:=by
 have hz:co b 0=aa:=by
  cases h:co b 0 with
  |false=>rfl
  |true=>exact absurd (gp h) h0
 have hf:=mU.2 (amG ha h0)
 have ha':aE a:=by unfold aE;omega
 simp only[ef,dj ha',dj hb,hz,hf]
def aoZ:List V1→Option (List V1):=xV fun x y=>Z [.one (.v (.int .i64 (cH x y)))]
def axw {k:Cls}:Cn k 236 aoZ:=bZ (ay awE acu.2 10 2000001 8) fun al rs h=>by
 obtain⟨x,y,rfl,hx,hy,h⟩:=qh h
 cases h
 refine⟨_,_,mZ x y,abm (aI x) (aI y) (cn x) (cn y) (by omega) (by omega),?_⟩
 rw[aD,aD]
 exact Imps.refl _
def as5 {x y:Nat}(hx:aj x<8388608)(hy:aj y<8388608):aoZ [cX x,cX y]=Z [.one (.v (.int .i64 (cH x y)))]:=by unfold aoZ;rw[vM hx hy]
def xg:Int→Int→Int
 |.ofNat a,.ofNat b=>cH a b
 |.ofNat _,.negSucc _=>.ofNat 1
 |.negSucc _,.ofNat _=>.negSucc 0
 |.negSucc a,.negSucc b=>cH (b+1) (a+1)
def tCm:Ft:=.n .z 236 (.nat aoZ) U .z
def aMV {k:Cls}:tCm.Ok Tryz.prog k aH:=⟨tv,axw,tv,tv⟩
def mX:List V1→Option (List V1):=ig2 fun a b=>[.one (.v (.int .i64 (xg a b)))]
def at2 {a b:Int}(ha:aE a)(hb:aE b):mX [gI a,gI b]=Z [.one (.v (.int .i64 (xg a b)))]:=aaH ha hb
def abO {k:Cls}:Cn k 179 mX:=aC (ay aMV azE.2 10 10 8) fun al rs h=>by
 obtain⟨a,b,rfl,ha,hb,rfl⟩:=l7 h
 match a,b,ha,hb with
 |.ofNat a,.ofNat b,ha,hb=>
  have e:=as5 (x:=a) (y:=b) ha hb
  simp(maxSteps:=9^9) only[az,seval,-ac,-ae,aoC,tCm,gI,aw,ap,e,xg]
 |.ofNat a,.negSucc b,ha,hb=>simp(maxSteps:=9^9) only[az,seval,-ac,-ae,aoC,tCm,gI,aw,ap,xg]
 |.negSucc a,.ofNat b,ha,hb=>simp(maxSteps:=9^9) only[az,seval,-ac,-ae,aoC,tCm,gI,aw,ap,xg]
 |.negSucc a,.negSucc b,ha,hb=>
  have e:=as5 (x:=b+1) (y:=a+1) hb ha
  simp(maxSteps:=9^9) only[az,seval,-ac,-ae,aoC,tCm,gI,aw,ap,e,xg]
def ur:List V1→Option (List V1):=ig1 fun _=>[.one (.v (.bool ab))]
def awZ {b:Bool}{n:Nat}(hn:(ax n).length<1000000)(h:b=ab→0<n):bM (ao (Ft.tb .z) 10 8) 10 aqJ.1 [aL b (ax n)]=Z [.one (.v (.bool ab))]:=by
 rcases aUc n with rfl|hp
 ·cases b
  ·rfl
  ·exact absurd (h rfl) (by omega)
 ·have hl:=cL hp
  have e0:((ax n).length==0)=aa:=by simp only[beq_eq_false_iff_ne,ne_eq];omega
  have e1:af (ax n).length-af 1=af ((ax n).length-1):=by simp only[aT7];omega
  have e2:(ax n).length-1<(ax n).length:=by omega
  have e3:(ax n).length-1<9223372036854775808:=by omega
  have dd:=aA e2
  have hne:(ax n)[(ax n).length-1]≠0:=cn n _ (by rw[List.getLast?_eq_getElem?];exact aTX e2)
  have e4:((ax n)[(ax n).length-1] != 0)=ab:=by simpa using hne
  cases b<;>simp(maxSteps:=9^9) only[az,seval,-ac,-ae,aQQ,ar,hl,e0,e1,e2,e3,dd,e4]
def afo {a:Int}(h:aw a=ab):0<ap a:=by
 cases a with
 |ofNat n=>cases h
 |negSucc n=>exact Nat.succ_pos n
def arW {k:Cls}:Cn k 215 ur:=bZ (ay (t:=.z) trivial aqJ.2 10 10 8) fun al rs h=>by
 obtain⟨a,rfl,ha,rfl⟩:=ut h
 exact⟨_,_,aaJ a,awZ (by have:=fe ha;omega) afo,Imps.refl _⟩
def adr:List V1→Option (List V1)
 |[x]=>match dU x with|some a=>(match ah (ap a) 9223372036854775808 with|true=>Z [.one (.v (.int .i64 a)),.one (.v (.bool ab))]|false=>U)|none=>U
 |_=>U
def ao9 {n:Nat}(h:n<18446744073709551616):(n=0∧ax n=[])∨(0<n∧n<4294967296∧ax n=[n])∨(4294967296≤n∧ax n=[n%4294967296,n/4294967296]):=by
 rcases aUc n with rfl|hp
 ·exact .inl ⟨rfl,rfl⟩
 ·right
  rcases aT6 n 4294967296 with h1|h1
  ·left
   refine⟨hp,h1,?_⟩
   have e:val [n]=n:=ke n
   conv=>lhs;rw[← e]
   exact tV (fun d hd=>by simp at hd;omega) (fun d hd=>by simp at hd;omega)
  ·right
   refine⟨h1,?_⟩
   have e:val [n%4294967296,n/4294967296]=n:=by simp[val];omega
   conv=>lhs;rw[← e]
   exact tV (fun d hd=>by simp at hd;omega) (fun d hd=>by simp at hd;omega)
def arZ {n:Nat}(h:n<9223372036854775808):IntKind.wrap .i64 (0-af n) = -af n:=by
 simp only[IntKind.wrap,IntKind.bits,IntKind.signed]
 simp
 omega
def arA {k:Cls}:Cn k 178 adr:=bZ (ay (t:=.z) trivial azD.2 10 10 8) fun al rs h=>by
 unfold adr at h
 split at h
 ·rename_i x
  split at h
  ·rename_i a hx
   obtain⟨rfl,ha⟩:=bX hx
   split at h
   ·rename_i hc
    cases h
    have hs:ap a<9223372036854775808:=by simpa using hc
    clear hc
    refine⟨_,_,aaJ a,?_,Imps.refl _⟩
    have hz:a=if aw a then -af (ap a) else af (ap a):=by cases a<;>rfl
    have hn:aw a=ab→0<ap a:=afo
    generalize hb:aw a=b at hz hn ⊢
    generalize ap a=n at hs hz hn ⊢
    subst hz
    have w1:=arZ hs
    have w2:n≤9223372036854775808:=by omega
    have w3:(9223372036854775807<n)=False:=eq_false (by omega)
    have w4:n<18446744073709551616:=by omega
    rcases ao9 (n:=n) (by omega)with⟨rfl,h2⟩|⟨h1,h2,h3⟩|⟨h1,h2⟩
    ·cases b
     ·rfl
     ·exact absurd (hn rfl) (by omega)
    ·rw[h3]
     cases b<;>simp(maxSteps:=9^9) only[az,seval,-ac,-ae,aHS,ar,w1,w2,w3,w4,hs,aB]
    ·have q1:n/4294967296<4294967296:=by omega
     have q2:n%4294967296<18446744073709551616:=by omega
     have q3:n/4294967296<18446744073709551616:=by omega
     have q4:n/4294967296*4294967296<18446744073709551616:=by omega
     have q5:=ahQ (x:=n/4294967296) (y:=n%4294967296) q1 (by omega)
     rw[show n/4294967296*4294967296+n%4294967296=n by omega]at q5
     rw[h2]
     cases b<;>simp(maxSteps:=9^9) only[az,seval,-ac,-ae,aHS,ar,w1,w2,w3,w4,hs,aB,q1,q2,q3,q4,q5]
   ·cases h
  ·cases h
 ·cases h
end
end Go.Proofs.YtfiijelajgifiaaGreat
