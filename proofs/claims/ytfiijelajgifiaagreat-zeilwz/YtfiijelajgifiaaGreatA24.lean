/-
  Part 24 of the machine and of the contracts of functions of the program (packed).
-/
import Derived.Test.YtfiijelajgifiaaGreatA23
set_option linter.all false
set_option linter.defProp false
open Bool renaming false→aa,true→ab
open Int renaming reduceOfNat→ac,reduceNegSucc→ae,ofNat→af
open List renaming getElem?_eq_some_iff→aTU,length_append→aTW,replicate→aT5,drop_length→aUg
open Nat renaming blt→ah,beq→ai,ble→aTQ,blt_eq→aTR,lt_or_ge→aT6,mod_eq_of_lt→aT9,mod_lt→aUb,lt_of_le_of_lt→aUh
open Option renaming some→Z,none→U
namespace Go.Proofs.YtfiijelajgifiaaGreat
noncomputable section
open Go Go.Mach Go.Flow
set_option maxRecDepth 100000
set_option maxHeartbeats 4000000
def aBl {b row junk:List Nat}{x m f v:Nat}{y:T}(hb:b.length<10000000)(hr:row.length<10000000)(hB:rQ b)(hP:iz (row++junk))(hb0:0<b.length)(hbr:b.length≤row.length)(hm:row.drop (row.length-1)=[m])(hv:v<2147483647)(hf:(m*v)%2147483647=f){t1 t2 t3 t4 t5 t6 t7 t8 t9 t11 t13 t14 t15 t16:T}{H:Hp}{W:List Nat}{cf:av}(hy:RR H y b)(hx:RN x y)(h0:H[x]?=Z (Z (.cells (wD (row++junk))))):
  ∃t1' t2' t3' t4' t5' t6' t7' t8' t9' t11' H' W' junk',am cf ak oe ⟨[cD x row.length,t1,t2,t3,t4,t5,t6,t7,t8,t9,y,t11,wT v,t13,t14,t15,t16],H,[],W,[]⟩=Z (.normal,⟨[cD x (cC (bN f row (row.length-b.length) b)).length,t1',t2',t3',t4',t5',t6',t7',t8',t9',y,t11',wT v,t13,t14,t15,t16],H',[],W',[]⟩)∧KH x H H'∧H'[x]?=Z (Z (.cells (wD (cC (bN f row (row.length-b.length) b)++junk'))))∧iz (cC (bN f row (row.length-b.length) b)++junk'):=by
 have hf':f<2147483647:=by rw[← hf];exact aUb _ (by omega)
 obtain⟨sh,hsh⟩:∃sh,row.length-b.length=sh:=⟨_,rfl⟩
 rw[hsh]
 have hd:(row++junk).drop (row.length-1)=m::junk:=by
  rw[List.drop_append_of_le_length (by omega),hm];rfl
 have hxl:=hP m (aX hd)
 have hL:row.length≤(row++junk).length:=by rw[aTW];omega
 obtain⟨t2',t4',t5',H1,W1,e1,hk,hh⟩:=aGI (b:=b) (L0:=row++junk) (sh:=sh) (n:=row.length) (f:=f) (t2:=t2) (t4:=t4) (t5:=t5) (t6:=t6) (t11:=bj ab) (t12:=wT v) (t13:=t13) (t14:=t14) (t15:=t15) (t16:=t16) (W:=W) (cf:=cf) hb hr hB hP hf' (by omega) hL hy hx h0
 rw[nj f junk row sh b (by omega)]at hh
 have hlu:=lj f row sh b
 have hPu:iz (bN f row sh b++junk):=by rw[← nj f junk row sh b (by omega)];exact w8 hP
 obtain⟨t6',W2,junk',e2,hj⟩:=aGN (row:=bN f row sh b) (junk:=junk) (t1:=iT b.length) (t2:=t2') (t3:=iT sh) (t4:=t4') (t5:=t5') (t6:=t6) (t7:=wT f) (t8:=y) (t9:=iT b.length) (t10:=y) (t11:=bj ab) (t12:=wT v) (t13:=t13) (t14:=t14) (t15:=t15) (t16:=t16) (W:=W1) (cf:=cf) (by rw[hlu];exact hr) hh
 rw[hlu]at e2
 rw[← hj]at hPu hh
 have hw:IntKind.i64.wrap (af row.length-af 1)=af (row.length-1):=by
  rw[dJ (by omega),gD];show _=((row.length-1:Nat):Int);omega
 have g0:sh<9223372036854775808:=by omega
 have gw:IntKind.i64.wrap (af sh)=af sh:=by rw[lk,pf,if_pos g0]
 have g1:row.length-1<row.length:=by omega
 have g4:(wD (row++junk)).drop (row.length-1)=.c (iq m)::wD junk:=by rw[eW,hd,iH]
 have g5:row.length-1+1≤(wD (row++junk)).length:=by rw[bA,aTW];omega
 have g6:m*v<18446744073709551616:=by
  have:m*v≤2147483647*2147483647:=Nat.mul_le_mul (by omega) (by omega)
  omega
 refine⟨iT b.length,t2',iT sh,t4',t5',t6',wT f,y,iT b.length,bj ab,H1,W2,junk',?_,hk,hh,hPu⟩
 rcases hy with rfl|⟨bb,j,rfl,hbb⟩
 ·simp(maxSteps:=9^9) only[au,seval,-ac,-ae,acT,ar,h0,hbr,hw,hsh,gw,g1,g4,g5,g6,hf,e1,e2]
 ·simp(maxSteps:=9^9) only[au,seval,-ac,-ae,acT,ar,h0,hbr,hw,hsh,gw,g1,g4,g5,g6,hf,e1,e2]
def aMH {b:List Nat}{n x:Nat}{y:T}(hn:n<b.length)(hb:b.length<10000000){t1 t2 t3 t4 t5 t6 t7 t8 t9 t11 t12 t13 t14 t15 t16:T}{H:Hp}{W:List Nat}{cf:av}(hy:RR H y b)(fl:Nat):
  ∃t11',am cf fl oe ⟨[cD x n,t1,t2,t3,t4,t5,t6,t7,t8,t9,y,t11,t12,t13,t14,t15,t16],H,[],W,[]⟩=Z (.exit 2,⟨[cD x n,t1,t2,t3,t4,t5,t6,t7,t8,t9,y,t11',t12,t13,t14,t15,t16],H,[],W,[]⟩):=by
 have h1:¬(b.length≤n):=by omega
 rcases hy with rfl|⟨bb,j,rfl,hbb⟩
 ·simp(maxSteps:=9^9) only[au,seval,-ac,-ae,acT,ar,h1]
  exact⟨_,rfl⟩
 ·simp(maxSteps:=9^9) only[au,seval,-ac,-ae,acT,ar,h1]
  exact⟨_,rfl⟩
def aGM {b R:List Nat}{v x:Nat}{y:T}(hb:b.length<10000000)(hB:rQ b)(hb0:0<b.length)(hv:v<2147483647){t13 t14 t15 t16:T}{H0:Hp}{cf:av}{g:Nat}{row junk:List Nat}(hg:g<4294967296)(hr:row.length<10000000)(hP:iz (row++junk))(h:rsq b v g row=Z R)(hy:RR H0 y b)(hx:RN x y)(h0:H0[x]?=Z (Z (.cells (wD (row++junk))))){t1 t2 t3 t4 t5 t6 t7 t8 t9 t11:T}{W:List Nat}:
  ∃t1' t2' t3' t4' t5' t6' t7' t8' t9' t11' H' W' junk',aG (am cf ak oe) ak ⟨[cD x row.length,t1,t2,t3,t4,t5,t6,t7,t8,t9,y,t11,wT v,t13,t14,t15,t16],H0,[],W,[]⟩=Z (.exit 2,⟨[cD x R.length,t1',t2',t3',t4',t5',t6',t7',t8',t9',y,t11',wT v,t13,t14,t15,t16],H',[],W',[]⟩)∧KH x H0 H'∧H'[x]?=Z (Z (.cells (wD (R++junk')))):=by
 obtain⟨_,st',hl,_,rfl,t1',t2',t3',t4',t5',t6',t7',t8',t9',t11',H',W',junk',rfl,r1,r2⟩:=bg (body:=am cf ak oe)
  (fun(s:Nat × List Nat) st=>s.2.length<10000000∧rsq b v s.1 s.2=Z R∧∃t1 t2 t3 t4 t5 t6 t7 t8 t9 t11 H W junk,st=⟨[cD x s.2.length,t1,t2,t3,t4,t5,t6,t7,t8,t9,y,t11,wT v,t13,t14,t15,t16],H,[],W,[]⟩∧KH x H0 H∧H[x]?=Z (Z (.cells (wD (s.2++junk))))∧iz (s.2++junk)) (fun s=>s.1)
  (fun q st'=>q=.exit 2∧∃t1 t2 t3 t4 t5 t6 t7 t8 t9 t11 H W junk,st'=⟨[cD x R.length,t1,t2,t3,t4,t5,t6,t7,t8,t9,y,t11,wT v,t13,t14,t15,t16],H,[],W,[]⟩∧KH x H0 H∧H[x]?=Z (Z (.cells (wD (R++junk)))))
  (fun s st hI=>by
   obtain⟨g,row⟩:=s
   obtain⟨hlen,hR,t1,t2,t3,t4,t5,t6,t7,t8,t9,t11,H,W,junk,rfl,hk,hh,hP⟩:=hI
   dsimp only at hlen hR hP hh
   match g,hR with
   |0,hR=>cases hR
   |g+1,hR=>
    rw[rsq]at hR
    cases hc:aTQ b.length row.length with
    |false=>
     rw[hc]at hR
     have hlt:row.length<b.length:=by
      rcases aT6 row.length b.length with h|h
      ·exact h
      ·rw[Nat.ble_eq_true_of_le h]at hc;cases hc
     cases hR
     obtain⟨t11',e⟩:=aMH (x:=x) (t1:=t1) (t2:=t2) (t3:=t3) (t4:=t4) (t5:=t5) (t6:=t6) (t7:=t7) (t8:=t8) (t9:=t9) (t11:=t11) (t12:=wT v) (t13:=t13) (t14:=t14) (t15:=t15) (t16:=t16) (H:=H) (W:=W) (cf:=cf) hlt hb (hy.keep hx hk) ak
     exact .inr ⟨_,_,e,by simp,rfl,_,_,_,_,_,_,_,_,_,_,_,_,_,rfl,hk,hh⟩
    |true=>
     rw[hc]at hR
     have hle:=Nat.le_of_ble_eq_true hc
     cases hm:dW row with
     |none=>rw[hm]at hR;cases hR
     |some m=>
      rw[hm]at hR
      obtain⟨h1,h2⟩:=iU hm
      obtain⟨t1',t2',t3',t4',t5',t6',t7',t8',t9',t11',H',W',junk',e,k1,k2,k3⟩:=aBl (t1:=t1) (t2:=t2) (t3:=t3) (t4:=t4) (t5:=t5) (t6:=t6) (t7:=t7) (t8:=t8) (t9:=t9) (t11:=t11) (t13:=t13) (t14:=t14) (t15:=t15) (t16:=t16) (W:=W) (cf:=cf) (f:=(m*v)%2147483647) hb hlen hB hP hb0 hle h1 hv rfl (hy.keep hx hk) hx hh
      refine .inl ⟨(g,_),_,e,⟨?_,hR,_,_,_,_,_,_,_,_,_,_,_,_,_,rfl,hk.trans k1,k2,k3⟩,Nat.lt_succ_self g⟩
      have a1:=wZ (bN ((m*v)%2147483647) row (row.length-b.length) b)
      rw[lj]at a1
      exact aUh a1 hlen)
  ak (g,row) _ ⟨hr,h,t1,t2,t3,t4,t5,t6,t7,t8,t9,t11,H0,W,junk,rfl,KH.refl _ _,h0,hP⟩ (eI hg)
 exact⟨_,_,_,_,_,_,_,_,_,_,_,_,_,hl,r1,r2⟩
def clU:kU:=fk aqX.1
def aEe {k:Cls}:CX k 291 clU:=nM (by kernel_rfl) aqX.2 (fun _ _=>rfl) (fun _ _ _ _=>rfl)
def aEf {a:List Nat}{y:T}{H:Hp}(hl:a.length<10000000)(h0:0<a.length)(hy:RR H y a):clU [y] H []=Z (cD H.length a.length,H++[Z (.cells (wD a))],[],[]):=by
 have g1:¬a.length=0:=by omega
 have g2:a.length≤2 ^ 30:=by omega
 have g3:a.length*8≤2 ^ 46:=by omega
 have g4:=ahr a
 have g5:=aw0 a
 have g6:(a.length==0)=aa:=by cases a with|nil=>exact absurd h0 (by simp)|cons _ _=>rfl
 have hA:∀(x:T),ch H 1 x=Z (a.length,wD a)→bJ 1 8 H [] (.t (.one .z0)) x=Z (cD H.length a.length,H++[Z (.cells (wD a))]):=by
  intro x hx
  unfold bJ
  rw[hx]
  simp only[g1,g2,g3,and_self,↓reduceIte]
 rcases hy with rfl|⟨b,j,rfl,hb⟩
 ·have e1:wc (rT a)=aa:=by
   cases a with
   |nil=>exact absurd h0 (by simp)
   |cons _ _=>rfl
  have hr:ch H 1 (rT a)=Z (a.length,wD a):=by
   have g4':(wL a).length=a.length*1:=by omega
   unfold ch
   simp only[ar,g4',g5,↓reduceIte]
  have hA':=hA _ hr
  obtain⟨o,t,rfl⟩:∃o t,a=o::t:=by cases a with|nil=>exact absurd h0 (by simp)|cons o t=>exact⟨o,t,rfl⟩
  unfold clU fk
  simp only[e1]
  simp(maxSteps:=9^9) only[au,seval,-ac,-ae,aIb,hA',se]
 ·have hr:ch H 1 (cD b a.length)=Z (a.length,wD a):=by
   have e2:0+a.length*1≤(wD (a++j)).length:=by rw[bA,aTW];omega
   have e3:((wD (a++j)).drop 0).take (a.length*1)=wD a:=by
    rw[List.drop_zero,Nat.mul_one,ahq,← bA a];exact List.take_left
   unfold ch
   simp only[hb,e2,e3,and_self,↓reduceIte]
  have hA':=hA _ hr
  unfold clU fk
  simp(maxSteps:=9^9) only[au,seval,-ac,-ae,aIb,wc,hA',se,g6,h0]
def RR.app {H:Hp}{y:T}{l:List Nat}(h:RR H y l)(z:Option Blk):RR (H++[z]) y l:=by
 rcases h with h|⟨b,j,hy,hb⟩
 ·exact .inl h
 ·exact .inr ⟨b,j,hy,fU hb z⟩
def RR.rn {H:Hp}{y:T}{l:List Nat}(h:RR H y l):RN H.length y:=by
 intro b o n s he
 rcases h with rfl|⟨b',j,rfl,hb⟩
 ·cases he
 ·cases he
  have:=(aTU.1 hb).1
  omega
def aBc {a b R:List Nat}{l:Nat}{y z:T}(ha:RF a)(ha0:0<a.length)(hb:RF b)(hb0:0<b.length)(hl:dW b=Z l)(h:rsq b (jS l 2147483645) (a.length+1) a=Z R){H:Hp}(hy:RR H y b)(hz:RR H z a){t0 t1 t2 t3 t4 t5 t6 t7 t8 t9 t11 t12 t14 t15 t16:T}{W:List Nat}{cf:av}
  (c1:∀x H S,cf (fT 291) [x] H S=clU [x] H S)(c2:CA cf 290 bH):
  ∃t0' t1' t2' t3' t4' t5' t6' t7' t8' t9' y' t11' t12' t14' H' W',am cf ak uI ⟨[t0,t1,t2,t3,t4,t5,t6,t7,t8,t9,y,t11,t12,z,t14,t15,t16],H,[],W,[]⟩=Z (.normal,⟨[t0',t1',t2',t3',t4',t5',t6',t7',t8',t9',y',t11',t12',y,t14',t15,t16],H',[],W',[]⟩)∧RR H' y' R∧RR H' y b:=by
 obtain⟨h1,h2⟩:=iU hl
 have hlm:=hb.ok l (aX h1)
 have e1:=fI (a:=l) (n:=2147483645) (by omega) (by omega)
 have hv:=jo l 2147483645
 generalize jS l 2147483645=v at*
 have hal:=ha.len
 have hbl:=hb.len
 have eC:=aEf hal ha0 hz
 obtain⟨t1',t2',t3',t4',t5',t6',t7',t8',t9',t11',H',W1,junk',e2,k1,k2⟩:=aGM (x:=H.length) (H0:=H++[Z (.cells (wD a))]) (junk:=[]) (t1:=t1) (t2:=t2) (t3:=t3) (t4:=t4) (t5:=t5) (t6:=t6) (t7:=t7) (t8:=t8) (t9:=t9) (t11:=t11) (t13:=z) (t14:=bj ab) (t15:=t15) (t16:=t16) (W:=W) (cf:=cf) hbl hb.ok hb0 hv (by omega) hal (by rw[List.append_nil];exact fun o ho=>Nat.lt_trans (ha.ok o ho) (by omega)) h (hy.app _) hy.rn (by rw[List.append_nil];exact bk _ _)
 have hw:IntKind.i64.wrap (af b.length-af 1)=af (b.length-1):=by
  rw[dJ (by omega),gD];show _=((b.length-1:Nat):Int);omega
 have g1:b.length-1<b.length:=by omega
 refine⟨cD H.length R.length,t1',t2',t3',t4',t5',t6',t7',t8',t9',cD H.length R.length,t11',wT v,bj ab,H',W1,?_,.inr ⟨H.length,junk',rfl,k2⟩,(hy.app _).keep hy.rn k1⟩
 rcases hy with rfl|⟨bb,j,rfl,hbb⟩
 ·have g2:=abf h1
  simp(maxSteps:=9^9) only[au,seval,-ac,-ae,acS,ar,c1,eC,c2,e1,hb0,hw,g1,g2,e2]
 ·have g3:(wD (b++j)).drop (b.length-1)=.c (iq l)::wD j:=by rw[eW,List.drop_append_of_le_length (by omega),h1];rfl
  have g7:b.length-1+1≤(wD (b++j)).length:=by rw[bA,aTW];omega
  have hbb':=fU hbb (Z (Blk.cells (wD a)))
  simp(maxSteps:=9^9) only[au,seval,-ac,-ae,acS,ar,c1,eC,c2,e1,hb0,hbb',hw,g1,g3,g7,e2]
def aMz {y:T}{H:Hp}(hy:RR H y []){t0 t1 t2 t3 t4 t5 t6 t7 t8 t9 t11 t12 t13 t14 t15 t16:T}{W:List Nat}{cf:av}(fl:Nat):
  ∃t14',am cf fl uI ⟨[t0,t1,t2,t3,t4,t5,t6,t7,t8,t9,y,t11,t12,t13,t14,t15,t16],H,[],W,[]⟩=Z (.exit 0,⟨[t0,t1,t2,t3,t4,t5,t6,t7,t8,t9,y,t11,t12,t13,t14',t15,t16],H,[],W,[]⟩):=by
 rcases hy with rfl|⟨bb,j,rfl,hbb⟩
 ·simp(maxSteps:=9^9) only[au,seval,-ac,-ae,acS,ar]
  exact⟨_,rfl⟩
 ·simp(maxSteps:=9^9) only[au,seval,-ac,-ae,acS,ar]
  exact⟨_,rfl⟩
def anW {R:List Nat}{cf:av}(c1:∀x H S,cf (fT 291) [x] H S=clU [x] H S)(c2:CA cf 290 bH)
  {t15 t16:T}{a b:List Nat}{y z:T}{g:Nat}(hg:g<4294967296)(ha:RF a)(hb:RF b)(h:gr g a b=Z R){t0 t1 t2 t3 t4 t5 t6 t7 t8 t9 t11 t12 t14:T}{H:Hp}{W:List Nat}(hy:RR H y b)(hz:RR H z a):
  ∃t0' t1' t2' t3' t4' t5' t6' t7' t8' t9' y' t11' t12' z' t14' H' W',aG (am cf ak uI) ak ⟨[t0,t1,t2,t3,t4,t5,t6,t7,t8,t9,y,t11,t12,z,t14,t15,t16],H,[],W,[]⟩=Z (.exit 0,⟨[t0',t1',t2',t3',t4',t5',t6',t7',t8',t9',y',t11',t12',z',t14',t15,t16],H',[],W',[]⟩)∧RR H' z' R:=by
 obtain⟨_,st',hl,_,rfl,t0',t1',t2',t3',t4',t5',t6',t7',t8',t9',y',t11',t12',z',t14',H',W',rfl,r⟩:=bg (body:=am cf ak uI)
  (fun(s:Nat × List Nat × List Nat) st=>RF s.2.1∧RF s.2.2∧gr s.1 s.2.1 s.2.2=Z R∧∃t0 t1 t2 t3 t4 t5 t6 t7 t8 t9 y t11 t12 z t14 H W,st=⟨[t0,t1,t2,t3,t4,t5,t6,t7,t8,t9,y,t11,t12,z,t14,t15,t16],H,[],W,[]⟩∧RR H y s.2.2∧RR H z s.2.1) (fun s=>s.1)
  (fun q st'=>q=.exit 0∧∃t0 t1 t2 t3 t4 t5 t6 t7 t8 t9 y t11 t12 z t14 H W,st'=⟨[t0,t1,t2,t3,t4,t5,t6,t7,t8,t9,y,t11,t12,z,t14,t15,t16],H,[],W,[]⟩∧RR H z R)
  (fun s st hI=>by
   obtain⟨g,a,b⟩:=s
   obtain⟨h1,h2,h3,t0,t1,t2,t3,t4,t5,t6,t7,t8,t9,y,t11,t12,z,t14,H,W,rfl,hy,hz⟩:=hI
   dsimp only at h1 h2 h3 hy hz
   match g,b,h2,h3,hy with
   |0,_,_,h3,_=>cases h3
   |g+1,[],_,h3,hy=>
    rw[gr]at h3
    cases h3
    obtain⟨t14',e⟩:=aMz hy (t0:=t0) (t1:=t1) (t2:=t2) (t3:=t3) (t4:=t4) (t5:=t5) (t6:=t6) (t7:=t7) (t8:=t8) (t9:=t9) (t11:=t11) (t12:=t12) (t13:=z) (t14:=t14) (t15:=t15) (t16:=t16) (W:=W) (cf:=cf) ak
    exact .inr ⟨_,_,e,by simp,rfl,_,_,_,_,_,_,_,_,_,_,_,_,_,_,_,_,_,rfl,hz⟩
   |g+1,o::b,h2,h3,hy=>
    rw[gr]at h3
    split at h3
    rotate_left
    ·cases h3
    rename_i r hr
    have hr':=hr
    have h4:=h3
    unfold kQ at hr
    split at hr
    rotate_left
    ·cases hr
    rename_i l o' a' hl
    rw[vw]at hr
    obtain⟨t0',t1',t2',t3',t4',t5',t6',t7',t8',t9',y',t11',t12',t14',H',W',e,k1,k2⟩:=aBc (t0:=t0) (t1:=t1) (t2:=t2) (t3:=t3) (t4:=t4) (t5:=t5) (t6:=t6) (t7:=t7) (t8:=t8) (t9:=t9) (t11:=t11) (t12:=t12) (t14:=t14) (t15:=t15) (t16:=t16) (W:=W) h1 (Nat.succ_pos _) h2 (Nat.succ_pos _) hl hr hy hz c1 c2
    exact .inl ⟨(g,_,_),_,e,⟨h2,acy h1 hr',h4,_,_,_,_,_,_,_,_,_,_,_,_,_,_,_,_,_,rfl,k1,k2⟩,Nat.lt_succ_self g⟩)
  ak (g,a,b) _ ⟨ha,hb,h,t0,t1,t2,t3,t4,t5,t6,t7,t8,t9,y,t11,t12,z,t14,H,W,rfl,hy,hz⟩ (eI hg)
 exact⟨_,_,_,_,_,_,_,_,_,_,_,_,_,_,_,_,_,hl,r⟩
def tSh  : Ft:=.n (.n .z 290 (.nat bH) U .z) 291 (.wnat clU) U .z
def aNM   {k:Cls}:tSh.Ok Tryz.prog k aH:=⟨⟨tv,adW,tv,tv⟩,aEe,tv,tv⟩
def nh (a b:List Nat):Option Nat:=match aTQ b.length a.length with
 |true=>(match gr (b.length+2) a b with|some r=>Z r.length|none=>U)
 |false=>(match gr (a.length+2) b a with|some r=>Z r.length|none=>U)
def arv {a b:List Nat}{n:Nat}(ha:RF a)(hb:RF b)(h:nh a b=Z n):bM (ao tSh.tb 10 8) ak oK.1 [rV a,rV b]=Z [sV (m1 n)]:=by
 have c1:∀x H S,ao tSh.tb 10 8 (fT 291) [x] H S=clU [x] H S:=fun _ _ _=>rfl
 have c2:CA (ao tSh.tb 10 8) 290 bH:=fun _ _ _=>rfl
 generalize ao tSh.tb 10 8=cf at*
 have hal:=ha.len
 have hbl:=hb.len
 unfold nh at h
 split at h
 ·rename_i hc
  have hle:=Nat.le_of_ble_eq_true hc
  have hlt:¬a.length<b.length:=by omega
  split at h
  rotate_left
  ·cases h
  rename_i r hr
  have h:Z r.length=Z n:=h
  injection h with h
  subst h
  obtain⟨t0,t1,t2,t3,t4,t5,t6,t7,t8,t9,y,t11,t12,z,t14,H,W,hl,hR⟩:=anW (t15:=iT 0) (t16:=bj aa) (y:=rT b) (z:=rT a) (t0:=.nil) (t1:=.nil) (t2:=.nil) (t3:=.nil) (t4:=.nil) (t5:=.nil) (t6:=.nil) (t7:=.nil) (t8:=.nil) (t9:=.nil) (t11:=.nil) (t12:=.nil) (t14:=.nil) (H:=[]) (W:=[]) c1 c2 (by omega) ha hb hr (.inl rfl) (.inl rfl)
  have hrl:=aas ha hb hr
  have hw:=dJ (k:=r.length) (by have:=hrl.len;omega)
  rcases hR with rfl|⟨bb,j,rfl,hbb⟩
  ·simp(maxSteps:=9^9) only[au,seval,-ac,-ae,aoH,ar,hlt,hl,hw]
  ·simp(maxSteps:=9^9) only[au,seval,-ac,-ae,aoH,ar,hlt,hl,hw]
 ·rename_i hc
  have hlt:a.length<b.length:=by
   rcases aT6 a.length b.length with h|h
   ·exact h
   ·rw[Nat.ble_eq_true_of_le h]at hc;cases hc
  split at h
  rotate_left
  ·cases h
  rename_i r hr
  have h:Z r.length=Z n:=h
  injection h with h
  subst h
  obtain⟨t0,t1,t2,t3,t4,t5,t6,t7,t8,t9,y,t11,t12,z,t14,H,W,hl,hR⟩:=anW (t15:=iT 0) (t16:=bj ab) (y:=rT a) (z:=rT b) (t0:=.nil) (t1:=.nil) (t2:=.nil) (t3:=.nil) (t4:=.nil) (t5:=.nil) (t6:=.nil) (t7:=.nil) (t8:=.nil) (t9:=.nil) (t11:=.nil) (t12:=.nil) (t14:=.nil) (H:=[]) (W:=[]) c1 c2 (by omega) hb ha hr (.inl rfl) (.inl rfl)
  have hrl:=aas hb ha hr
  have hw:=dJ (k:=r.length) (by have:=hrl.len;omega)
  rcases hR with rfl|⟨bb,j,rfl,hbb⟩
  ·simp(maxSteps:=9^9) only[au,seval,-ac,-ae,aoH,ar,hlt,hl,hw]
  ·simp(maxSteps:=9^9) only[au,seval,-ac,-ae,aoH,ar,hlt,hl,hw]
def j6:Nt
 |[x,y]=>match rwV x,rwV y with
  |some a,Z b=>(match nh a b with|some n=>Z [sV (m1 n)]|none=>U)
  |_,_=>U
 |_=>U
def al1 {k:Cls}:Cn k 258 j6:=aC (ay aNM oK.2 10 ak 8) fun al rs h=>by
 unfold j6 at h
 split at h
 ·split at h
  ·rename_i a b ha hb
   split at h
   ·rename_i n e
    cases h
    obtain⟨rfl,h1⟩:=aem ha
    obtain⟨rfl,h2⟩:=aem hb
    exact arv h1 h2 e
   ·cases h
  ·cases h
 ·cases h
abbrev xq (p:List Mn)(v at' n i:Nat)(t0 t1 t2 t3 t4 t5 t7 t8 t12 t13 t14:T):List T:=[t0,t1,t2,t3,t4,t5,iT v,t7,t8,iT i,wT at',cD 0 n,t12,t13,t14,aR,bj aa,pT p,iT p.length,pT p]
section
variable {p t:List Mn} {m:Mn} {i v at' n k:Nat} {out r:List Nat} {d a b o:Nat} {t0 t1 t2 t3 t4 t5 t7 t8 t12 t13 t14:T} {E:Hp} {W:List Nat} {cf:av}
def aJS (hi:p.drop i=m::t)(hl:p.length<10000000)(e1:ba [.agg [.v (.bool aa),.big m.q.d]]=Z [uV 0]){B:Option Blk}
  (c1:CA cf 289 ba)(fl:Nat):
  ∃t0' t1' t2' t3' t4' t5' t7' t8' t12' t13' t14' H' W',am cf fl oa ⟨xq p v at' n i t0 t1 t2 t3 t4 t5 t7 t8 t12 t13 t14,B::E,[],W,[]⟩=Z (.ret,⟨xq p v at' n i t0' t1' t2' t3' t4' t5' t7' t8' t12' t13' t14',H',[],W',[]⟩):=by
 have hd:=bW hi
 have h1:=aM hi
 simp(maxSteps:=9^9) only[au,seval,-ac,-ae,tH,ar,h1,hd,c1,e1,bk,bx,mA]
 exact⟨_,_,_,_,_,_,_,_,_,_,_,_,_,rfl⟩
def aJT {H:Hp}(fl:Nat):
  ∃t13',am cf fl oa ⟨xq p v at' n p.length t0 t1 t2 t3 t4 t5 t7 t8 t12 t13 t14,H,[],W,[]⟩=Z (.exit 0,⟨xq p v at' n p.length t0 t1 t2 t3 t4 t5 t7 t8 t12 t13' t14,H,[],W,[]⟩):=by
 simp(maxSteps:=9^9) only[au,seval,-ac,-ae,tH]
 exact⟨_,rfl⟩
def aOB (hv:v<4)(hi:p.drop i=m::t)(hl:p.length<10000000)(ha:at'<4294967296)(hk:m.ex v=k)(hkl:k<out.length)(hkn:k<n)(hout:out.length<10000000)(ho:out.drop k=o::r){rn y x0 ya yb yc yd xa xb xc xd z:Nat}
  (e1:ba [.agg [.v (.bool aa),.big m.q.d]]=Z [uV d])(hd0:(d==0)=aa)(e2:ba [.agg [.v (.bool (aw m.q.n)),.big (ap m.q.n)]]=Z [uV rn])(e3:bH [uV d,sV (af 2147483645)]=Z [uV y])(f0:rn*y<18446744073709551616)(v0:(rn*y)%2147483647=x0)
  (ea:bH [uV at',sV (af m.a)]=Z [uV ya])(eb:bH [uV (at'+1),sV (af m.b)]=Z [uV yb])(ec:bH [uV (at'+2),sV (af m.c)]=Z [uV yc])(ed:bH [uV (at'+3),sV (af m.d)]=Z [uV yd])
  (fa:x0*ya<18446744073709551616)(va:(match ai 0 v with|true=>x0|false=>(x0*ya)%2147483647)=xa)(fb:xa*yb<18446744073709551616)(vb:(match ai 1 v with|true=>xa|false=>(xa*yb)%2147483647)=xb)
  (fc:xb*yc<18446744073709551616)(vc:(match ai 2 v with|true=>xb|false=>(xb*yc)%2147483647)=xc)(fd:xc*yd<18446744073709551616)(vd:(match ai 3 v with|true=>xc|false=>(xc*yd)%2147483647)=xd)(fo:o+xd<18446744073709551616)(vo:(o+xd)%2147483647=z)
  (c1:CA cf 289 ba)(c2:CA cf 290 bH):
  ∃t0' t1' t2' t3' t4' t5' t7' t8' t12' t13' t14' E' W',am cf ak oa ⟨xq p v at' n i t0 t1 t2 t3 t4 t5 t7 t8 t12 t13 t14,Z (.cells (wD out))::E,[],W,[]⟩=Z (.normal,⟨xq p v at' n (i+1) t0' t1' t2' t3' t4' t5' t7' t8' t12' t13' t14',Z (.cells (wD (out.set k z)))::E',[],W',[]⟩):=by
 have hd:=bW hi
 have h1:=aM hi
 have f1:i+1<9223372036854775808:=by omega
 have g0:at'%18446744073709551616=at':=aT9 (by omega)
 have g1:at'+1<18446744073709551616:=by omega
 have g2:at'+2<18446744073709551616:=by omega
 have g3:at'+3<18446744073709551616:=by omega
 have g4:(wD out).drop k=.c (iq o)::wD r:=by rw[eW,ho,iH]
 have g5:k+1≤(wD out).length:=by rw[bA];omega
 have g6:=aey out k z hkl
 obtain⟨g,hg⟩:∃g,ak=g+6:=⟨ak-6,by have:=aN (n:=10) (by omega);omega⟩
 rw[hg]
 have hv':v=0∨v=1∨v=2∨v=3:=by omega
 rcases hv' with rfl|rfl|rfl|rfl
 ·have hk:m.a=k:=hk
  subst hk
  have va:x0=xa:=va
  subst va
  have vb:(x0*yb)%2147483647=xb:=vb
  have vc:(xb*yc)%2147483647=xc:=vc
  have vd:(xc*yd)%2147483647=xd:=vd
  simp(maxSteps:=9^9) only[au,seval,-ac,-ae,aG,tH,acR,ar,h1,hd,c1,c2,e1,hd0,e2,e3,f0,v0,ea,eb,ec,ed,fa,vb,fb,vc,fc,vd,fd,fo,vo,f1,g0,g1,g2,g3,g4,g5,g6,hkn,bk,bx,mA]
  exact⟨_,_,_,_,_,_,_,_,_,_,_,_,_,rfl⟩
 ·have hk:m.b=k:=hk
  subst hk
  have va:(x0*ya)%2147483647=xa:=va
  have vb:xa=xb:=vb
  subst vb
  have vc:(xa*yc)%2147483647=xc:=vc
  have vd:(xc*yd)%2147483647=xd:=vd
  simp(maxSteps:=9^9) only[au,seval,-ac,-ae,aG,tH,acR,ar,h1,hd,c1,c2,e1,hd0,e2,e3,f0,v0,ea,eb,ec,ed,fa,va,fb,vc,fc,vd,fd,fo,vo,f1,g0,g1,g2,g3,g4,g5,g6,hkn,bk,bx,mA]
  exact⟨_,_,_,_,_,_,_,_,_,_,_,_,_,rfl⟩
 ·have hk:m.c=k:=hk
  subst hk
  have va:(x0*ya)%2147483647=xa:=va
  have vb:(xa*yb)%2147483647=xb:=vb
  have vc:xb=xc:=vc
  subst vc
  have vd:(xb*yd)%2147483647=xd:=vd
  simp(maxSteps:=9^9) only[au,seval,-ac,-ae,aG,tH,acR,ar,h1,hd,c1,c2,e1,hd0,e2,e3,f0,v0,ea,eb,ec,ed,fa,va,vb,fb,fc,vd,fd,fo,vo,f1,g0,g1,g2,g3,g4,g5,g6,hkn,bk,bx,mA]
  exact⟨_,_,_,_,_,_,_,_,_,_,_,_,_,rfl⟩
 ·have hk:m.d=k:=hk
  subst hk
  have va:(x0*ya)%2147483647=xa:=va
  have vb:(xa*yb)%2147483647=xb:=vb
  have vc:(xb*yc)%2147483647=xc:=vc
  have vd:xc=xd:=vd
  subst vd
  simp(maxSteps:=9^9) only[au,seval,-ac,-ae,aG,tH,acR,ar,h1,hd,c1,c2,e1,hd0,e2,e3,f0,v0,ea,eb,ec,ed,fa,va,vb,fb,vc,fc,fd,fo,vo,f1,g0,g1,g2,g3,g4,g5,g6,hkn,bk,bx,mA]
  exact⟨_,_,_,_,_,_,_,_,_,_,_,_,_,rfl⟩
end
def ayg {p t:List Mn}{m:Mn}{i v at' n x:Nat}{out:List Nat}(hm:m.Ok)(hv:v<4)(hi:p.drop i=m::t)(hl:p.length<10000000)(ha:at'<2147483000)(hkl:m.ex v<out.length)(hkn:m.ex v<n)(hout:out.length<10000000)(hP:iz out)(hx:xp v at' m=Z x){t0 t1 t2 t3 t4 t5 t7 t8 t12 t13 t14:T}{E:Hp}{W:List Nat}{cf:av}
  (c1:CA cf 289 ba)(c2:CA cf 290 bH):
  ∃t0' t1' t2' t3' t4' t5' t7' t8' t12' t13' t14' E' W',am cf ak oa ⟨xq p v at' n i t0 t1 t2 t3 t4 t5 t7 t8 t12 t13 t14,Z (.cells (wD out))::E,[],W,[]⟩=Z (.normal,⟨xq p v at' n (i+1) t0' t1' t2' t3' t4' t5' t7' t8' t12' t13' t14',Z (.cells (wD (iP out (m.ex v) x)))::E',[],W',[]⟩):=by
 obtain⟨o,r,ho⟩:=bo hkl
 rw[xP ho]
 have hol:=hP o (aX ho)
 unfold xp at hx
 split at hx
 ·cases hx
 rename_i d hd
 have hdl:=aa0 aa m.q.d
 rw[hd]at hdl
 have a1:=hm.a;have a2:=hm.b;have a3:=hm.c;have a4:=hm.d
 have q1:=hm.q.n;have q2:=hm.q.d
 have e1:=j5 (b:=aa) (n:=m.q.d) (by omega)
 rw[hd]at e1
 have e2:=j5 (b:=aw m.q.n) (n:=ap m.q.n) (by omega)
 have e3:=fI (a:=d+1) (n:=2147483645) (by omega) (by omega)
 have ea:=fI (a:=at') (n:=m.a) (by omega) (by omega)
 have eb:=fI (a:=at'+1) (n:=m.b) (by omega) (by omega)
 have ec:=fI (a:=at'+2) (n:=m.c) (by omega) (by omega)
 have ed:=fI (a:=at'+3) (n:=m.d) (by omega) (by omega)
 simp only[vw,Option.some.injEq]at hx
 have l0:=aa0 (aw m.q.n) (ap m.q.n)
 have l1:=jo (d+1) 2147483645
 have la:=jo at' m.a
 have lb:=jo (at'+1) m.b
 have lc:=jo (at'+2) m.c
 have ld:=jo (at'+3) m.d
 generalize mz (aw m.q.n) (ap m.q.n)=rn at*
 generalize jS (d+1) 2147483645=y at*
 generalize jS at' m.a=ya at*
 generalize jS (at'+1) m.b=yb at*
 generalize jS (at'+2) m.c=yc at*
 generalize jS (at'+3) m.d=yd at*
 have k0:(rn*y)%2147483647<2147483647:=aUb _ (by omega)
 obtain⟨x0,hx0⟩:∃x0,(rn*y)%2147483647=x0:=⟨_,rfl⟩
 have hx0':Nat.mod (Nat.mul rn y) 2147483647=x0:=hx0
 rw[hx0]at k0
 rw[hx0']at hx
 have ka:=oD (w:=0) (v:=v) (y:=ya) k0
 obtain⟨xa,hxa⟩:∃xa,sX 0 v x0 ya=xa:=⟨_,rfl⟩
 rw[hxa]at ka hx
 have kb:=oD (w:=1) (v:=v) (y:=yb) ka
 obtain⟨xb,hxb⟩:∃xb,sX 1 v xa yb=xb:=⟨_,rfl⟩
 rw[hxb]at kb hx
 have kc:=oD (w:=2) (v:=v) (y:=yc) kb
 obtain⟨xc,hxc⟩:∃xc,sX 2 v xb yc=xc:=⟨_,rfl⟩
 rw[hxc]at kc hx
 have kd:=oD (w:=3) (v:=v) (y:=yd) kc
 rw[hx]at kd
 exact aOB hv hi hl (by omega) rfl hkl hkn hout ho e1 rfl e2 e3 (nA l0 l1) hx0 ea eb ec ed (nA k0 la) hxa (nA ka lb) hxb (nA kb lc) hxc (nA kc ld) hx (by omega) rfl c1 c2
def IJm (p:List Mn)(v at' n:Nat)(R:Option (List Nat))(i:Nat)(st:St):Prop:=
 i≤p.length∧∃t0 t1 t2 t3 t4 t5 t7 t8 t12 t13 t14 E W out,st=⟨xq p v at' n i t0 t1 t2 t3 t4 t5 t7 t8 t12 t13 t14,Z (.cells (wD out))::E,[],W,[]⟩∧out.length=n∧iz out∧qz v at' (p.drop i) out=R
def QJm (p:List Mn)(v at' n:Nat)(R:Option (List Nat))(x:X)(st:St):Prop:=
 (x=.exit 0∧∃t0 t1 t2 t3 t4 t5 t7 t8 t12 t13 t14 E W out,st=⟨xq p v at' n p.length t0 t1 t2 t3 t4 t5 t7 t8 t12 t13 t14,Z (.cells (wD out))::E,[],W,[]⟩∧out.length=n∧iz out∧R=Z out)∨
 (x=.ret∧R=U∧∃i t0 t1 t2 t3 t4 t5 t7 t8 t12 t13 t14 H W,st=⟨xq p v at' n i t0 t1 t2 t3 t4 t5 t7 t8 t12 t13 t14,H,[],W,[]⟩)
def aE3 {p:List Mn}{v at' n:Nat}{R:Option (List Nat)}(hp:PF p)(hv:v<4)(ha:at'<2147483000)(hn:dg v p=n)(hn':n<10000000){cf:av}
  (c1:CA cf 289 ba)(c2:CA cf 290 bH)(i:Nat)(st:St)(h:IJm p v at' n R i st):
  (∃i' st',am cf ak oa st=Z (.normal,st')∧IJm p v at' n R i' st'∧p.length-i'<p.length-i)∨(∃x st',am cf ak oa st=Z (x,st')∧x≠.normal∧QJm p v at' n R x st'):=by
 obtain⟨hi,t0,t1,t2,t3,t4,t5,t7,t8,t12,t13,t14,E,W,out,rfl,ho,hP,hR⟩:=h
 rcases aT6 i p.length with h1|h1
 ·obtain⟨m,t,hm⟩:=bo h1
  have om:=hp.ok m (aX hm)
  have hk:m.ex v+1≤n:=by rw[← hn];exact adg 0 (aX hm)
  rw[hm,qz]at hR
  cases hx:xp v at' m with
  |none=>
   rw[hx]at hR
   have e1:ba [.agg [.v (.bool aa),.big m.q.d]]=Z [uV 0]:=by
    rw[j5 (by have:=om.q.d;omega)]
    unfold xp at hx
    split at hx
    ·rename_i e;rw[e]
    ·cases hx
   obtain⟨t0',t1',t2',t3',t4',t5',t7',t8',t12',t13',t14',H',W',e⟩:=aJS (v:=v) (at':=at') (n:=n) (t0:=t0) (t1:=t1) (t2:=t2) (t3:=t3) (t4:=t4) (t5:=t5) (t7:=t7) (t8:=t8) (t12:=t12) (t13:=t13) (t14:=t14) (E:=E) (B:=Z (.cells (wD out))) (W:=W) hm hp.len e1 c1 ak
   exact .inr ⟨_,_,e,by simp,.inr ⟨rfl,hR.symm,_,_,_,_,_,_,_,_,_,_,_,_,_,_,rfl⟩⟩
  |some x=>
   rw[hx]at hR
   obtain⟨t0',t1',t2',t3',t4',t5',t7',t8',t12',t13',t14',E',W',e⟩:=ayg (n:=n) (t0:=t0) (t1:=t1) (t2:=t2) (t3:=t3) (t4:=t4) (t5:=t5) (t7:=t7) (t8:=t8) (t12:=t12) (t13:=t13) (t14:=t14) (E:=E) (W:=W) om hv hm hp.len ha (by omega) (by omega) (by omega) hP hx c1 c2
   exact .inl ⟨i+1,_,e,⟨h1,_,_,_,_,_,_,_,_,_,_,_,_,_,_,rfl,by rw[rR];exact ho,ago hP _ _,by rw[bf hm];exact hR⟩,by omega⟩
 ·obtain rfl:i=p.length:=by omega
  obtain⟨t13',e⟩:=aJT (p:=p) (v:=v) (at':=at') (n:=n) (t0:=t0) (t1:=t1) (t2:=t2) (t3:=t3) (t4:=t4) (t5:=t5) (t7:=t7) (t8:=t8) (t12:=t12) (t13:=t13) (t14:=t14) (H:=Z (.cells (wD out))::E) (W:=W) (cf:=cf) ak
  rw[aUg,qz]at hR
  exact .inr ⟨_,_,e,by simp,.inl ⟨rfl,_,_,_,_,_,_,_,_,_,_,_,_,_,_,rfl,ho,hP,hR.symm⟩⟩
def tJm (Nr:Nt):Ft:=.n (.n .z 92 (.nat a9) U .z) 289 (.nat Nr) U (.n .z 290 (.nat bH) U .z)
def aNi {Nr:Nt}(hr:∀{k:Cls},Cn k 289 Nr){k:Cls}:(tJm Nr).Ok Tryz.prog k aH:=⟨⟨tv,jP,tv,tv⟩,hr,tv,⟨tv,adW,tv,tv⟩⟩
def apP {p:List Mn}{v at':Nat}{rs:List V1}(hp:PF p)(hv:v<4)(ha:at'<2147483000)(hn':dg v p<10000000)(h:sn (l9 p v at')=Z rs):
  bM (ao (tJm ba).tb 10 8) ak zN.1 [pV p,sV (af v),uV at']=Z rs:=by
 have c0:∀al H S,ao (tJm ba).tb 10 8 (fT 92) al H S=bC a9 al H S:=fun _ _ _=>rfl
 have c1:∀al H S,ao (tJm ba).tb 10 8 (fT 289) al H S=bC ba al H S:=fun _ _ _=>rfl
 have c2:∀al H S,ao (tJm ba).tb 10 8 (fT 290) al H S=bC bH al H S:=fun _ _ _=>rfl
 generalize ao (tJm ba).tb 10 8=cf at*
 have e0:=cv hp hv
 obtain⟨n,hn⟩:∃n,dg v p=n:=⟨_,rfl⟩
 have hR:l9 p v at'=qz v at' p (aT5 n 0):=by unfold l9;rw[hn]
 generalize l9 p v at'=R at*
 rw[hn]at hn' e0
 have hw:=aoP (k:=n) (by omega)
 have f1:n<9223372036854775808:=by omega
 have f2:n≤2 ^ 30:=by omega
 have f3:8*n≤70368744177664:=by omega
 obtain⟨x,st',hl,_,hQ⟩:=bg (IJm p v at' n R) (fun i=>p.length-i) (QJm p v at' n R) (fun i st h=>aE3 hp hv ha hn hn' c1 c2 i st h) ak 0 ⟨xq p v at' n 0 .nil .nil .nil .nil .nil .nil .nil .nil .nil .nil .nil,[Z (.cells (wD (aT5 n 0)))],[],[],[]⟩
  ⟨Nat.zero_le _,.nil,.nil,.nil,.nil,.nil,.nil,.nil,.nil,.nil,.nil,.nil,[],[],aT5 n 0,rfl,List.length_replicate,fun o ho=>by rw[List.eq_of_mem_replicate ho];omega,by rw[List.drop_zero];exact hR.symm⟩ (by have:=aN hp.len;omega)
 rcases hQ with⟨rfl,t0,t1,t2,t3,t4,t5,t7,t8,t12,t13,t14,E,W,out,rfl,ho,hP,rfl⟩|⟨rfl,rfl,i,t0,t1,t2,t3,t4,t5,t7,t8,t12,t13,t14,H,W,rfl⟩
 ·unfold sn at h
  dsimp only at h
  cases hx:dW out with
  |none=>rw[hx]at h;cases h
  |some x=>
   rw[hx]at h
   obtain⟨h1,h2⟩:=iU hx
   subst ho
   have hw2:IntKind.i64.wrap (af out.length-af 1)=af (out.length-1):=by
    rw[dJ (by omega),gD];show _=((out.length-1:Nat):Int);omega
   have g1:out.length-1<out.length:=by omega
   have g2:(wD out).drop (out.length-1)=[.c (iq x)]:=by rw[eW,h1];rfl
   have g3:out.length-1+1≤(wD out).length:=by rw[bA];omega
   have g4:out.length≤(wD out).length:=by rw[bA];omega
   have g5:(wD out).take out.length=wD out:=by rw[← bA out];exact List.take_length
   cases x with
   |zero=>
    cases h
    simp(maxSteps:=9^9) only[au,seval,-ac,-ae,axa,c0,e0,hw,f1,f2,f3,vn,hl,hw2,g1,g2,g3,g4,g5,aaC]
   |succ x=>
    cases h
    simp(maxSteps:=9^9) only[au,seval,-ac,-ae,axa,c0,e0,hw,f1,f2,f3,vn,hl,hw2,g1,g2,g3,g4,g5,aaC]
 ·cases h
  simp(maxSteps:=9^9) only[au,seval,-ac,-ae,axa,c0,e0,hw,f1,f2,f3,vn,hl,pL]
  rfl
def apJ (hr:∀{k:Cls},Cn k 289 ba){k:Cls}:Cn k 257 b8:=aC (ay (aNi hr) zN.2 10 ak 8) fun al rs h=>by
 unfold b8 at h
 split at h
 ·split at h
  ·cases h
  ·rename_i p e
   split at h
   ·rename_i h1 h2 h3
    rw[aTR]at h1 h2 h3
    obtain⟨rfl,h4,h5⟩:=eH e
    exact apP ⟨h4,h5⟩ h1 h2 h3 h
   ·cases h
 ·cases h
def bmF (p q:List Mn)(v:Nat):Nat→Nat→Option Nat
 |0,_=>U
 |g+1,i=>match ah i 3 with
  |false=>U
  |true=>match mG p v (17+100*i),mG q v (17+100*i)with
   |some (a,ab),Z (b,ab)=>nh a b
   |some (_,ab),Z (_,aa)=>bmF p q v g (i+1)
   |some (_,aa),Z _=>bmF p q v g (i+1)
   |_,_=>U
section
variable {p q:List Mn} {a b:List Nat} {v i K:Nat} {k1 k2:Bool} {t1 t3 t4 t5 t6 t7 t8 t9:T} {H:Hp} {W:List Nat} {cf:av}
def aD4 (h3:i<3)(e1:b8 [pV p,sV (af v),uV (17+100*i)]=Z [rV a,bV k1])(e2:b8 [pV q,sV (af v),uV (17+100*i)]=Z [rV b,bV k2])(hk:(k1&&k2)=aa)
  (c1:CA cf 257 b8)(fl:Nat):
  ∃t1' t3' t4' t5' t6' t7' t8' H' W',am cf fl uG ⟨[wT i,t1,iT v,t3,t4,t5,t6,t7,t8,t9,pT p,pT q],H,[],W,[]⟩=Z (.normal,⟨[wT (i+1),t1',iT v,t3',t4',t5',t6',t7',t8',t9,pT p,pT q],H',[],W',[]⟩):=by
 have g1:100*i<18446744073709551616:=by omega
 have g2:17+100*i<18446744073709551616:=by omega
 have g3:i+1<18446744073709551616:=by omega
 simp only[rV]at e1 e2
 generalize wL a=ca at*
 generalize wL b=cb at*
 cases k1 with
 |false=>
  simp(maxSteps:=9^9) only[au,seval,-ac,-ae,aii,ar,h3,g1,g2,g3,c1,e1,e2]
  exact⟨_,_,_,_,_,_,_,_,_,rfl⟩
 |true=>
  cases k2 with
  |true=>cases hk
  |false=>
   simp(maxSteps:=9^9) only[au,seval,-ac,-ae,aii,ar,h3,g1,g2,g3,c1,e1,e2]
   exact⟨_,_,_,_,_,_,_,_,_,rfl⟩
def aII (h3:i<3)(e1:b8 [pV p,sV (af v),uV (17+100*i)]=Z [rV a,bV ab])(e2:b8 [pV q,sV (af v),uV (17+100*i)]=Z [rV b,bV ab])(e3:j6 [rV a,rV b]=Z [sV (m1 K)])
  (c1:CA cf 257 b8)(c2:CA cf 258 j6)(fl:Nat):
  ∃t1' t3' t4' t5' t6' t7' t8' H' W',am cf fl uG ⟨[wT i,t1,iT v,t3,t4,t5,t6,t7,t8,t9,pT p,pT q],H,[],W,[]⟩=Z (.ret,⟨[wT i,t1',iT v,t3',t4',t5',t6',t7',t8',jT (m1 K),pT p,pT q],H',[],W',[]⟩):=by
 have g1:100*i<18446744073709551616:=by omega
 have g2:17+100*i<18446744073709551616:=by omega
 simp only[rV]at e1 e2 e3
 generalize wL a=ca at*
 generalize wL b=cb at*
 simp(maxSteps:=9^9) only[au,seval,-ac,-ae,aii,ar,h3,g1,g2,c1,c2,e1,e2,e3]
 exact⟨_,_,_,_,_,_,_,_,_,rfl⟩
end
def tBm (Ni:Nt):Ft:=.n (.n .z 257 (.nat Ni) U .z) 258 (.nat j6) U .z
def aMT {Ni:Nt}(hi:∀{k:Cls},Cn k 257 Ni){k:Cls}:(tBm Ni).Ok Tryz.prog k aH:=⟨⟨tv,hi,tv,tv⟩,al1,tv,tv⟩
def nJ (p q:List Mn)(v:Nat):Option Nat:=match ah (dg v p) 10000000,ah (dg v q) 10000000 with
 |true,ab=>bmF p q v 5 0
 |_,_=>U
def lG:Nt:=wF fun p q v=>match nJ p q v with|some n=>Z [sV (m1 n)]|none=>U
def avk {a b:List Nat}{n:Nat}(ha:RF a)(hb:RF b)(h:nh a b=Z n):j6 [rV a,rV b]=Z [sV (m1 n)]:=by
 simp only[j6,ahW ha,ahW hb,h]
def IBm (p q:List Mn)(v R:Nat)(s:Nat × Nat)(st:St):Prop:=
 bmF p q v s.1 s.2=Z R∧∃t1 t3 t4 t5 t6 t7 t8 H W,st=⟨[wT s.2,t1,iT v,t3,t4,t5,t6,t7,t8,iT 0,pT p,pT q],H,[],W,[]⟩
def QBm (p q:List Mn)(v R:Nat)(x:X)(st:St):Prop:=
 x=.ret∧∃i t1 t3 t4 t5 t6 t7 t8 H W,st=⟨[wT i,t1,iT v,t3,t4,t5,t6,t7,t8,jT (m1 R),pT p,pT q],H,[],W,[]⟩
def axp {p q:List Mn}{v R:Nat}(hp:PF p)(hq:PF q)(hv:v<4)(hdp:dg v p<10000000)(hdq:dg v q<10000000){cf:av}
  (c1:CA cf 257 b8)(c2:CA cf 258 j6)(s:Nat × Nat)(st:St)(h:IBm p q v R s st):
  (∃s' st',am cf ak uG st=Z (.normal,st')∧IBm p q v R s' st'∧s'.1<s.1)∨(∃x st',am cf ak uG st=Z (x,st')∧x≠.normal∧QBm p q v R x st'):=by
 obtain⟨g,i⟩:=s
 obtain⟨h1,t1,t3,t4,t5,t6,t7,t8,H,W,rfl⟩:=h
 dsimp only at h1
 match g,h1 with
 |0,h1=>cases h1
 |g+1,h1=>
  rw[bmF]at h1
  cases hc:ah i 3 with
  |false=>rw[hc]at h1;cases h1
  |true=>
   rw[hc]at h1
   have h3:i<3:=by rw[← aTR];exact hc
   dsimp only at h1
   cases hA:mG p v (17+100*i)with
   |none=>rw[hA]at h1;cases mG q v (17+100*i)<;>cases h1
   |some A=>
    obtain⟨a,k1⟩:=A
    obtain⟨e1,ra⟩:=ads hp hv (by omega) hdp hA
    cases hB:mG q v (17+100*i)with
    |none=>rw[hA,hB]at h1;cases k1<;>cases h1
    |some B=>
     obtain⟨b,k2⟩:=B
     obtain⟨e2,rb⟩:=ads hq hv (by omega) hdq hB
     rw[hA,hB]at h1
     cases hk:(k1&&k2)with
     |false=>
      have h1':bmF p q v g (i+1)=Z R:=by
       cases k1<;>cases k2<;>first|exact h1|cases hk
      obtain⟨t1',t3',t4',t5',t6',t7',t8',H',W',e⟩:=aD4 (t1:=t1) (t3:=t3) (t4:=t4) (t5:=t5) (t6:=t6) (t7:=t7) (t8:=t8) (t9:=iT 0) (H:=H) (W:=W) h3 e1 e2 hk c1 ak
      exact .inl ⟨(g,i+1),_,e,⟨h1',_,_,_,_,_,_,_,_,_,rfl⟩,Nat.lt_succ_self g⟩
     |true=>
      obtain⟨rfl,rfl⟩:k1=ab∧k2=ab:=by cases k1<;>cases k2<;>first|exact⟨rfl,rfl⟩|cases hk
      dsimp only at h1
      obtain⟨t1',t3',t4',t5',t6',t7',t8',H',W',e⟩:=aII (t1:=t1) (t3:=t3) (t4:=t4) (t5:=t5) (t6:=t6) (t7:=t7) (t8:=t8) (t9:=iT 0) (H:=H) (W:=W) h3 e1 e2 (avk ra rb h1) c1 c2 ak
      exact .inr ⟨_,_,e,by simp,rfl,_,_,_,_,_,_,_,_,_,_,rfl⟩
def apL {p q:List Mn}{v R:Nat}(hp:PF p)(hq:PF q)(hv:v<4)(h:nJ p q v=Z R):bM (ao (tBm b8).tb 10 8) ak afR.1 [pV p,pV q,sV (af v)]=Z [sV (m1 R)]:=by
 have c1:∀al H S,ao (tBm b8).tb 10 8 (fT 257) al H S=bC b8 al H S:=fun _ _ _=>rfl
 have c2:∀al H S,ao (tBm b8).tb 10 8 (fT 258) al H S=bC j6 al H S:=fun _ _ _=>rfl
 generalize ao (tBm b8).tb 10 8=cf at*
 unfold nJ at h
 split at h
 rotate_left
 ·cases h
 rename_i hdp hdq
 rw[aTR]at hdp hdq
 obtain⟨_,st',hl,_,rfl,i,t1,t3,t4,t5,t6,t7,t8,H,W,rfl⟩:=bg (IBm p q v R) (fun s=>s.1) (QBm p q v R) (fun s st h=>axp hp hq hv hdp hdq c1 c2 s st h) ak (5,0) ⟨[wT 0,.nil,iT v,.nil,.nil,.nil,.nil,.nil,.nil,iT 0,pT p,pT q],[],[],[],[]⟩ ⟨h,_,_,_,_,_,_,_,_,_,rfl⟩ (aN (n:=5) (by decide))
 simp(maxSteps:=9^9) only[au,seval,-ac,-ae,aQY,hl]
def apF (hr:∀{k:Cls},Cn k 289 ba){k:Cls}:Cn k 228 lG:=tU (ay (aMT (apJ hr)) afR.2 10 ak 8) fun p q v rs hp hq hv h=>by
 split at h
 ·rename_i n e
  cases h;exact apL hp hq hv e
 ·cases h
end
end Go.Proofs.YtfiijelajgifiaaGreat
