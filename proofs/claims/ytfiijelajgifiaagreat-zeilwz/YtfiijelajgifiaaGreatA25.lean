/-
  Part 25 of the machine and of the contracts of functions of the program (packed).
-/
import Derived.Test.YtfiijelajgifiaaGreatA24
set_option linter.all false
set_option linter.defProp false
open Bool renaming false→aa,true→ab
open Int renaming reduceOfNat→ac,reduceNegSucc→ae,ofNat→af,negSucc→aT2
open List renaming getElem?_eq_some_iff→aTU,length_append→aTW,getElem?_eq_getElem→aTX,mem_cons→aTZ,mem_cons_self→aT0,replicate→aT5,mem_cons_of_mem→aT8,drop_length→aUg,getElem_mem→aUl,getElem?_set_ne→aUn,append_assoc→aUr,getElem?_append_left→aUs
open Nat renaming reduceAdd→aTJ,blt→ah,beq→ai,log2→aj,ble→aTQ,blt_eq→aTR,le_refl→aTS,eq_of_beq_eq_true→aT1,lt_or_ge→aT6,mod_eq_of_lt→aT9,zero_add→aUe
open Option renaming some→Z,none→U
namespace Go.Proofs.YtfiijelajgifiaaGreat
noncomputable section
open Go Go.Mach Go.Flow
set_option maxRecDepth 100000
set_option maxHeartbeats 4000000
def aFU {m d:Nat}(hm:m<2147483648)(hd:d<4294967296):b9 .or .u64 (af (m*4294967296)) (af d)=Z (.int .u64 (af (m*4294967296+d))):=by
 have h0:m*4294967296+d<18446744073709551616:=by omega
 have e:(BitVec.ofInt 64 (af (m*4294967296)) ||| BitVec.ofInt 64 (af d)).toNat=m*4294967296+d:=by
  have e1:(BitVec.ofInt 64 (af (m*4294967296))).toNat=m*4294967296:=by simp;omega
  have e2:(BitVec.ofInt 64 (af d)).toNat=d:=by simp;omega
  rw[BitVec.toNat_or,e1,e2]
  have:=Nat.two_pow_add_eq_or_of_lt (i:=32) (show d<2 ^ 32 by omega) m
  rw[Nat.mul_comm (2 ^ 32) m]at this
  exact this.symm
 show Z (Value.int .u64 (IntKind.wrap .u64 (af (BitVec.ofInt 64 (af (m*4294967296)) ||| BitVec.ofInt 64 (af d)).toNat)))=_
 rw[e,np,aT9 h0]
section
variable {m d s w z i:Nat} {t1 t2 t3 t4 t5 t6 t7:T} {B0 B2 B3:Option Blk} {S:List Nat} {cf:av} {bd:Nat→Option BdC}
def aBL (hb:bd 289=Z vL)(e1:shI .shl .u64 (af m) (af 32)=Z (.int .u64 (af s)))(e2:b9 .or .u64 (af s) (af d)=Z (.int .u64 (af w)))(v:w%2147483647=z)(hd:d%18446744073709551616=d)(fl:Nat):
  ∃W,lX bd cf fl 4 [iT i,uT d] [B0,Z (.cells [.c (iq m)]),B2,B3,Z (.lp ⟨289,[.t (.one (.ptr 1 0)),t1,t2,t3,t4,t5,t6,t7],.ready,U⟩)] []=Z (.t (.one (.c (.v (.bool ab)))),[B0,Z (.cells [.c (iq z)]),B2,B3,Z (.lp ⟨289,[.t (.one (.ptr 1 0)),t1,t2,t3,t4,t5,t6,t7],.ready,U⟩)],[],W):=by
 simp(maxSteps:=9^9) only[az,seval,-ac,-ae,lX,hb,aOc,uv,qH,z7,kE,aen,e1,e2,v,hd]
 exact⟨_,rfl⟩
end
abbrev xt (t1 t2 t3 t4 t5 t6 t7:T):Option Blk:=Z (.lp ⟨289,[.t (.one (.ptr 1 0)),t1,t2,t3,t4,t5,t6,t7],.ready,U⟩)
abbrev rH (l:List Nat)(m:Nat)(B0 B3 L:Option Blk):Hp:=[B0,Z (.cells [.c (iq m)]),Z (.cells [.c (aB l)]),B3,L]
section
variable {m d z i:Nat} {l r:List Nat} {t1 t2 u1 u2 u3 u4 u5 u6 u7:T} {B0 B3 L:Option Blk} {W W1:List Nat} {cf:av}
def aD3 (hi:l.drop i=d::r)(hl:l.length<1000000)
  (hy:cf (.t (.one (.yld 4))) [iT i,uT d] (rH l m B0 B3 L) []=Z (.t (.one (.c (.v (.bool ab)))),rH l z B0 B3 L,[],W1))(fl:Nat):
  ∃t1' t2' W',am cf fl uN ⟨[iT i,t1,t2,.t (.one (.ptr 2 0)),.t (.one (.yld 4))],rH l m B0 B3 L,[],W,[]⟩=Z (.normal,⟨[jT (m1 i),t1',t2',.t (.one (.ptr 2 0)),.t (.one (.yld 4))],rH l z B0 B3 L,[],W',[]⟩):=by
 have h1:=aM hi
 have hw:=dJ (k:=i) (by omega)
 simp only[rH]at hy ⊢
 simp(maxSteps:=9^9) only[au,seval,-ac,-ae,asz,h1,hi,hw,hy]
 exact⟨_,_,_,rfl⟩
def aIH {H:Hp}(fl:Nat):
  ∃t1',am cf fl uN ⟨[jT (m1 0),t1,t2,.t (.one (.ptr 2 0)),.t (.one (.yld 4))],H,[],W,[]⟩=Z (.exit 0,⟨[jT (m1 0),t1',t2,.t (.one (.ptr 2 0)),.t (.one (.yld 4))],H,[],W,[]⟩):=by
 rw[ajG]
 simp(maxSteps:=9^9) only[au,seval,-ac,-ae,asz]
 exact⟨_,rfl⟩
end
def aPp {m:Nat}(hm:m<2147483648):shI .shl .u64 (af m) (af 32)=Z (.int .u64 (af (m*4294967296))):=by
 have h:m*4294967296<18446744073709551616:=by omega
 rw[aws,show ah 32 IntKind.u64.bits=ab from rfl,show(2:Nat) ^ 32=4294967296 from rfl,agh,auG,if_pos h]
 rfl
def aHu {l r:List Nat}{d i:Nat}(hi:l.drop i=d::r)(hlim:lims l){t1 t2 t3 t4 t5 t6 t7:T}{B0 B3:Option Blk}{cg:av}{bd:Nat→Option BdC}(hb:bd 289=Z vL)(fl:Nat):
  ∃W,lX bd cg fl 4 [iT i,uT d] (rH l (ip l (i+1)) B0 B3 (xt t1 t2 t3 t4 t5 t6 t7)) []=Z (.t (.one (.c (.v (.bool ab)))),rH l (ip l i) B0 B3 (xt t1 t2 t3 t4 t5 t6 t7),[],W):=by
 have hdl:=hlim d (aX hi)
 have hm:=alC l (i+1)
 have e1:=aPp (m:=ip l (i+1)) (by omega)
 have e2:=aFU (m:=ip l (i+1)) (d:=d) (by omega) hdl
 obtain⟨B,hB,hv,_,_⟩:=alD hi hdl
 rw[← hB]at e1 e2
 clear hB
 exact aBL hb e1 e2 hv (aT9 (by omega)) fl
def aD2 {l:List Nat}(hl:l.length<1000000)(hlim:lims l){t1 t2 t3 t4 t5 t6 t7 u1 u2:T}{B0 B3:Option Blk}{cf cg:av}{bd:Nat→Option BdC}{fl:Nat}(hb:bd 289=Z vL)
  (c3:∀args H S,cf (.t (.one (.yld 4))) args H S=lX bd cg fl 4 args H S):
  ∃u1' u2' W,aG (am cf ak uN) ak ⟨[jT (m1 l.length),u1,u2,.t (.one (.ptr 2 0)),.t (.one (.yld 4))],rH l 0 B0 B3 (xt t1 t2 t3 t4 t5 t6 t7),[],[],[]⟩=Z (.exit 0,⟨[jT (m1 0),u1',u2',.t (.one (.ptr 2 0)),.t (.one (.yld 4))],rH l (ip l 0) B0 B3 (xt t1 t2 t3 t4 t5 t6 t7),[],W,[]⟩):=by
 obtain⟨x,st',h,_,rfl,u1',u2',W,rfl⟩:=bg (body:=am cf ak uN) (fun k st=>k≤l.length∧∃u1 u2 W,st=⟨[jT (m1 k),u1,u2,.t (.one (.ptr 2 0)),.t (.one (.yld 4))],rH l (ip l k) B0 B3 (xt t1 t2 t3 t4 t5 t6 t7),[],W,[]⟩) (fun k=>k)
  (fun x st'=>x=.exit 0∧∃u1 u2 W,st'=⟨[jT (m1 0),u1,u2,.t (.one (.ptr 2 0)),.t (.one (.yld 4))],rH l (ip l 0) B0 B3 (xt t1 t2 t3 t4 t5 t6 t7),[],W,[]⟩)
  (fun k st h=>by
   obtain⟨hk,u1,u2,W,rfl⟩:=h
   match k,hk with
   |0,hk=>
    obtain⟨u1',e⟩:=aIH (t1:=u1) (t2:=u2) (W:=W) (cf:=cf) (H:=rH l (ip l 0) B0 B3 (xt t1 t2 t3 t4 t5 t6 t7)) ak
    exact .inr ⟨_,_,e,by simp,rfl,_,_,_,rfl⟩
   |k+1,hk=>
    obtain⟨d,r,hd⟩:=bo (p:=l) (i:=k) (by omega)
    obtain⟨W1,ey⟩:=aHu (t1:=t1) (t2:=t2) (t3:=t3) (t4:=t4) (t5:=t5) (t6:=t6) (t7:=t7) (B0:=B0) (B3:=B3) (cg:=cg) hd hlim hb fl
    rw[← c3]at ey
    obtain⟨u1',u2',W',e⟩:=aD3 (t1:=u1) (t2:=u2) (W:=W) hd hl ey ak
    exact .inl ⟨k,_,e,⟨by omega,_,_,_,rfl⟩,Nat.lt_succ_self k⟩)
  ak l.length _ ⟨aTS _,u1,u2,[],by rw[alA]⟩ (eI (by omega))
 exact⟨u1',u2',W,h⟩
def tRsd  : Ft:=.n (.n .z 289 .none (Z vL) .z) 310 (.code af3.1) U (.n .z 318 (.code zP.1) U .z)
def aHf   {k:Cls}:tRsd.Ok Tryz.prog k aH:=⟨⟨tv,tv,aDV,tv⟩,af3.2,tv,⟨tv,zP.2,tv,tv⟩⟩
def aIL {l:List Nat}(hl:l.length<1000000)(hlim:lims l){t1 t2 t3 t4 t5 t6 t7:T}{B0 B3:Option Blk}{cf cg:av}{bd:Nat→Option BdC}{fl:Nat}(hb:bd 289=Z vL)
  (c3:∀args H S,cf (.t (.one (.yld 4))) args H S=lX bd cg fl 4 args H S):
  ∃y W,cy cf ak zP.1 [.t (.one (.yld 4)),.t (.one (.ptr 2 0))] (rH l 0 B0 B3 (xt t1 t2 t3 t4 t5 t6 t7)) []=Z (y,rH l (ip l 0) B0 B3 (xt t1 t2 t3 t4 t5 t6 t7),[],W):=by
 obtain⟨u1',u2',W,h⟩:=aD2 hl hlim (t1:=t1) (t2:=t2) (t3:=t3) (t4:=t4) (t5:=t5) (t6:=t6) (t7:=t7) (u1:=.nil) (u2:=.nil) (B0:=B0) (B3:=B3) hb c3
 have hw:=dJ (k:=l.length) (by omega)
 have f1:l.length<9223372036854775808:=by omega
 simp only[rH]at h ⊢
 simp(maxSteps:=9^9) only[au,seval,-ac,-ae,aRo,hw,f1,h]
 exact⟨_,_,rfl⟩
abbrev clT:T:=.t (.one (.fn 318 [(2,0)]))
def aD8 {l:List Nat}{B0 B1:Option Blk}{cf:av}:∃W,cy cf ak af3.1 [.t (.one (.c (aB l)))] [B0,B1] []=Z (clT,[B0,B1,Z (.cells [.c (aB l)])],[],W):=by
 simp(maxSteps:=9^9) only[az,seval,-ac,-ae,aRn,aaw]
 exact⟨_,rfl⟩
section
variable {b:Bool} {l:List Nat} {v u:Nat} {y:T} {W0 W:List Nat} {cf:av}
def aR0 (eB:cf (fT 310) [.t (.one (.c (aB l)))] [rB b l,Z (.cells [.c (iq 0)])] []=Z (clT,[rB b l,Z (.cells [.c (iq 0)]),Z (.cells [.c (aB l)])],[],W0))
  (eR:cf clT [.t (.one (.yld 4))] (rH l 0 (rB b l) (Z .df) (xt .nil .nil (.t (.one (.ptr 0 0))) (wT 0) clT .nil (.t (.agg [.c (.v (.bool b)),.c (aB l)])))) []=Z (y,rH l v (rB b l) (Z .df) (xt .nil .nil (.t (.one (.ptr 0 0))) (wT 0) clT .nil (.t (.agg [.c (.v (.bool b)),.c (aB l)]))),[],W))
  (hu:(b=aa∧u=v)∨(b=ab∧v=0∧u=0)∨(b=ab∧0<v∧IntKind.u64.wrap (af 2147483647-af v)=af u)):
  bM cf ak akL.1 [.agg [.v (.bool b),aB l]]=Z [uV u]:=by
 simp only[rH,xt]at eR
 rcases hu with⟨rfl,rfl⟩|⟨rfl,rfl,rfl⟩|⟨rfl,hv,e⟩
 ·simp(maxSteps:=9^9) only[az,seval,-ac,-ae,aen,ci,axc,eB,eR,uu]
 ·simp(maxSteps:=9^9) only[az,seval,-ac,-ae,aen,ci,axc,eB,eR,uu]
 ·simp(maxSteps:=9^9) only[az,seval,-ac,-ae,aen,ci,axc,eB,eR,uu,hv,e]
end
def ajX {b:Bool}{l:List Nat}(hl:l.length<1000000)(hlim:lims l):bM (ao tRsd.tb ak 8) ak akL.1 [.agg [.v (.bool b),aB l]]=Z [uV (mz b (val l))]:=by
 obtain⟨W0,eB⟩:=aD8 (l:=l) (B0:=rB b l) (B1:=Z (.cells [.c (iq 0)])) (cf:=ao tRsd.tb ak 7)
 have c1:ao tRsd.tb ak 8 (fT 310) [.t (.one (.c (aB l)))] [rB b l,Z (.cells [.c (iq 0)])] []=cy (ao tRsd.tb ak 7) ak af3.1 [.t (.one (.c (aB l)))] [rB b l,Z (.cells [.c (iq 0)])] []:=rfl
 have c2:∀H,ao tRsd.tb ak 8 clT [.t (.one (.yld 4))] H []=cy (ao tRsd.tb ak 7) ak zP.1 [.t (.one (.yld 4)),.t (.one (.ptr 2 0))] H []:=fun _=>rfl
 have c3:∀args H S,ao tRsd.tb ak 7 (.t (.one (.yld 4))) args H S=lX tRsd.tb.bd (ao tRsd.tb ak 6) ak 4 args H S:=fun _ _ _=>rfl
 have hb:tRsd.tb.bd 289=Z vL:=rfl
 obtain⟨y,W,eR⟩:=aIL hl hlim (t1:=.nil) (t2:=.nil) (t3:=.t (.one (.ptr 0 0))) (t4:=wT 0) (t5:=clT) (t6:=.nil) (t7:=.t (.agg [.c (.v (.bool b)),.c (aB l)])) (B0:=rB b l) (B3:=Z .df) hb c3
 rw[← c1]at eB
 rw[← c2]at eR
 have hv:=alC l 0
 have hr:mz b (val l)=rsV b (ip l 0):=rfl
 rw[hr]
 generalize ip l 0=v at*
 clear hr
 refine aR0 eB eR ?_
 cases b with
 |false=>exact .inl ⟨rfl,rfl⟩
 |true=>
  match v,hv with
  |0,_=>exact .inr (.inl ⟨rfl,rfl,rfl⟩)
  |m+1,hv=>exact .inr (.inr ⟨rfl,Nat.succ_pos m,by show _=af (2147483647-(m+1));rw[zl (by omega),np,aT9 (by omega)]⟩)
def ajH {k:Cls}:Cn k 289 ba:=bZ (ay aHf akL.2 ak ak 8) fun al rs h=>by
 unfold ba at h
 split at h
 ·rename_i b n
  split at h
  ·rename_i hf
   cases h
   have hn:aj n<8388608:=by simpa [iB]using hf
   have hlen:=fe hn
   refine⟨[.agg [.v (.bool b),aB (ax n)]],_,.cons (j3 (.cons (.refl _) (.cons (j4 n) .nil))) .nil,?_,Imps.refl _⟩
   rw[ajX (by omega) (aI n),aD]
  ·cases h
 ·cases h
def alY {k:Cls}:Cn k 228 lG:=apF ajH
def tI (G:Gt):List (List Mn)→List Mn→Option (List Mn)
 |[],o=>Z o
 |c::l,o=>match G o c with
  |some o'=>(match qm o' with|true=>Z o'|false=>tI G l o')
  |none=>U
section
variable {N:Nt} {l:List (List Mn)} {c o r:List Mn} {i:Nat} {y t2 t3 t4 t7 t8:T} {H:Hp} {W:List Nat} {cf:av}
def YN (y:T)(r:List Mn):Prop:=(y=aR∧r=[])∨y=pT r
def aDR {b:Bool}{t:List (List Mn)}(hi:l.drop i=c::t)(hl:l.length<20000000)(hy:YN y o)(e1:N [pV o,pV c]=Z [pV r])(e2:eT [pV r]=Z [bV aa])(c1:CA cf 91 N)(c2:CA cf 166 eT)(fl:Nat):
  ∃t2' t3' t4' H' W',am cf fl uF ⟨[iT i,y,t2,t3,t4,lT l,iT l.length,t7,t8],H,[],W,[]⟩=Z (.normal,⟨[iT (i+1),pT r,t2',t3',t4',lT l,iT l.length,t7,t8],H',[],W',[]⟩):=by
 have hd:=aaO hi
 have h1:=aM hi
 have f1:i+1<9223372036854775808:=by omega
 rcases hy with⟨rfl,rfl⟩|rfl
 ·have e1':N [.one (.sl 0 []),pV c]=Z [pV r]:=e1
  simp(maxSteps:=9^9) only[au,seval,-ac,-ae,xJ,ar,c1,c2,e1',e2,h1,hd,f1]
  exact⟨_,_,_,_,_,rfl⟩
 ·simp(maxSteps:=9^9) only[au,seval,-ac,-ae,xJ,ar,c1,c2,e1,e2,h1,hd,f1]
  exact⟨_,_,_,_,_,rfl⟩
def aDS {t:List (List Mn)}(hi:l.drop i=c::t)(hl:l.length<20000000)(hy:YN y o)(e1:N [pV o,pV c]=Z [pV r])(e2:eT [pV r]=Z [bV ab])(c1:CA cf 91 N)(c2:CA cf 166 eT)(fl:Nat):
  ∃t2' t3' t4' H' W',am cf fl uF ⟨[iT i,y,t2,t3,t4,lT l,iT l.length,t7,t8],H,[],W,[]⟩=Z (.exit 0,⟨[iT i,pT r,t2',t3',t4',lT l,iT l.length,t7,t8],H',[],W',[]⟩):=by
 have hd:=aaO hi
 have h1:=aM hi
 rcases hy with⟨rfl,rfl⟩|rfl
 ·have e1':N [.one (.sl 0 []),pV c]=Z [pV r]:=e1
  simp(maxSteps:=9^9) only[au,seval,-ac,-ae,xJ,ar,c1,c2,e1',e2,h1,hd]
  exact⟨_,_,_,_,_,rfl⟩
 ·simp(maxSteps:=9^9) only[au,seval,-ac,-ae,xJ,ar,c1,c2,e1,e2,h1,hd]
  exact⟨_,_,_,_,_,rfl⟩
def aIt (fl:Nat):
  ∃t3',am cf fl uF ⟨[iT l.length,y,t2,t3,t4,lT l,iT l.length,t7,t8],H,[],W,[]⟩=Z (.exit 0,⟨[iT l.length,y,t2,t3',t4,lT l,iT l.length,t7,t8],H,[],W,[]⟩):=by
 simp(maxSteps:=9^9) only[au,seval,-ac,-ae,xJ,ar]
 exact⟨_,rfl⟩
end
def lD1:List C→Option (List (List Mn))
 |[]=>Z []
 |c::cs=>match gz (.one c),lD1 cs with|some p,Z l=>Z (p::l)|_,_=>U
def lV1:V1→Option (List (List Mn))
 |.one (.sl n cs)=>(match lD1 cs with|some l=>(match ai l.length n,ah n 10000000 with|true,ab=>Z l|_,_=>U)|none=>U)
 |_=>U
def auv:∀{cs:List C} {l:List (List Mn)},lD1 cs=Z l→cs=l.map pC∧∀p∈l,PF p
 |[],l,h=>by cases h;exact⟨rfl,fun p hp=>(by cases hp)⟩
 |c::cs,l,h=>by
  rw[lD1]at h
  split at h
  ·rename_i p l' hp hl
   cases h
   obtain⟨e1,h1,h2⟩:=eH hp
   cases e1
   obtain⟨rfl,h3⟩:=auv hl
   refine⟨rfl,fun q hq=>?_⟩
   rcases aTZ.1 hq with rfl|hq
   ·exact⟨h1,h2⟩
   ·exact h3 q hq
  ·cases h
def aCR:∀{l:List (List Mn)},(∀p∈l,PF p)→lD1 (l.map pC)=Z l
 |[],_=>rfl
 |p::l,h=>by
  have h1:=iy (h p aT0).ok (h p aT0).len
  have h2:=aCR (l:=l) fun q hq=>h q (aT8 _ hq)
  rw[List.map_cons,lD1,h1,h2]
def auw {v:V1}{l:List (List Mn)}(h:lV1 v=Z l):v=lV l∧(∀p∈l,PF p)∧l.length<10000000:=by
 unfold lV1 at h
 split at h
 ·split at h
  ·rename_i l' hl
   split at h
   ·rename_i h1 h2
    cases h
    rw[aTR]at h2
    have:=aT1 h1
    subst this
    obtain⟨rfl,h3⟩:=auv hl
    exact⟨rfl,h3,h2⟩
   ·cases h
  ·cases h
 ·cases h
def aCS {l:List (List Mn)}(h:∀p∈l,PF p)(hl:l.length<10000000):lV1 (lV l)=Z l:=by
 have h1:ai l.length l.length=ab:=Nat.beq_refl _
 have h2:ah l.length 10000000=ab:=by rw[aTR];exact hl
 unfold lV1
 simp only[aCR h,h1,h2]
def tAl (Ng:Nt):Ft:=.n (.n .z 91 (.nat Ng) U .z) 166 (.nat eT) U .z
def aMR {Ng:Nt}(hg:∀{k:Cls},Cn k 91 Ng){k:Cls}:(tAl Ng).Ok Tryz.prog k aH:=⟨⟨tv,hg,tv,tv⟩,abu,tv,tv⟩
def aDT {G:Gt}(hG:jK G){l:List (List Mn)}{r:List Mn}(hpf:∀c∈l,PF c)(hlen:l.length<10000000)(h:tI G l []=Z r):bM (ao (tAl (nG G)).tb 10 8) ak wK.1 [lV l]=Z [pV r]:=by
 have c1:∀al H S,ao (tAl (nG G)).tb 10 8 (fT 91) al H S=bC (nG G) al H S:=fun _ _ _=>rfl
 have c2:∀al H S,ao (tAl (nG G)).tb 10 8 (fT 166) al H S=bC eT al H S:=fun _ _ _=>rfl
 generalize ao (tAl (nG G)).tb 10 8=cf at*
 obtain⟨_,st',hl,_,rfl,i,y,t2,t3,t4,H,W,rfl,hy⟩:=bg (body:=am cf ak uF)
  (fun i st=>i≤l.length∧∃y t2 t3 t4 H W o,st=⟨[iT i,y,t2,t3,t4,lT l,iT l.length,aR,lT l],H,[],W,[]⟩∧YN y o∧PF o∧tI G (l.drop i) o=Z r) (fun i=>l.length-i)
  (fun x st'=>x=.exit 0∧∃i y t2 t3 t4 H W,st'=⟨[iT i,y,t2,t3,t4,lT l,iT l.length,aR,lT l],H,[],W,[]⟩∧YN y r)
  (fun i st hI=>by
   obtain⟨hi,y,t2,t3,t4,H,W,o,rfl,hy,ho,hr⟩:=hI
   rcases aT6 i l.length with h1|h1
   ·obtain⟨c,t,hm⟩:=bo h1
    have hc:=hpf c (aX hm)
    rw[hm,tI]at hr
    split at hr
    rotate_left
    ·cases hr
    rename_i o' g
    have po:=hG _ _ _ ho hc g
    have e2:=lH po
    split at hr
    ·rename_i hb
     cases hr
     rw[hb]at e2
     obtain⟨t2',t3',t4',H',W',e⟩:=aDS (t2:=t2) (t3:=t3) (t4:=t4) (t7:=aR) (t8:=lT l) (H:=H) (W:=W) hm (by omega) hy (tj ho hc g) e2 c1 c2 ak
     exact .inr ⟨_,_,e,by simp,rfl,_,_,_,_,_,_,_,rfl,.inr rfl⟩
    ·rename_i hb
     rw[hb]at e2
     obtain⟨t2',t3',t4',H',W',e⟩:=aDR (b:=aa) (t2:=t2) (t3:=t3) (t4:=t4) (t7:=aR) (t8:=lT l) (H:=H) (W:=W) hm (by omega) hy (tj ho hc g) e2 c1 c2 ak
     exact .inl ⟨i+1,_,e,⟨h1,_,_,_,_,_,_,_,rfl,.inr rfl,po,by rw[bf hm];exact hr⟩,by omega⟩
   ·obtain rfl:i=l.length:=by omega
    obtain⟨t3',e⟩:=aIt (l:=l) (y:=y) (t2:=t2) (t3:=t3) (t4:=t4) (t7:=aR) (t8:=lT l) (H:=H) (W:=W) (cf:=cf) ak
    rw[aUg,tI]at hr
    cases hr
    exact .inr ⟨_,_,e,by simp,rfl,_,_,_,_,_,_,_,rfl,hy⟩)
  ak 0 ⟨[iT 0,aR,.nil,.nil,.nil,lT l,iT l.length,aR,lT l],[],[],[],[]⟩ ⟨Nat.zero_le _,_,_,_,_,_,_,_,rfl,.inl ⟨rfl,rfl⟩,jm,h⟩ (by have:=aN hlen;omega)
 rcases hy with⟨rfl,rfl⟩|rfl
 ·simp(maxSteps:=9^9) only[au,seval,-ac,-ae,aH1,ar,hl];rfl
 ·simp(maxSteps:=9^9) only[au,seval,-ac,-ae,aH1,ar,hl]
def ml (G:Gt):Nt
 |[x]=>(match lV1 x with|some l=>(match tI G l []with|some r=>Z [pV r]|none=>U)|none=>U)
 |_=>U
def ayF {G:Gt}(hG:jK G)(hg:∀{k:Cls},Cn k 91 (nG G)){k:Cls}:Cn k 227 (ml G):=aC (ay (aMR hg) wK.2 10 ak 8) fun al rs h=>by
 unfold ml at h
 split at h
 ·split at h
  ·rename_i l hl
   obtain⟨rfl,h1,h2⟩:=auw hl
   split at h
   ·rename_i r e
    cases h
    exact aDT hG h1 h2 e
   ·cases h
  ·cases h
 ·cases h
def tKn  : Ft:=.n (.n .z 134 (.nat aW) U .z) 174 (.nat bI) U .z
def aNj   {k:Cls}:tKn.Ok Tryz.prog k aH:=⟨⟨tv,gU,tv,tv⟩,pi,tv,tv⟩
def aur {f:Fr}{x:List Mn}{c:Q}{cf:av}(e0:aW [sV (aT2 0)]=Z [eQ c])(e1:bI [pV f.1,eQ c]=Z [pV x])(c1:CA cf 134 aW)(c2:CA cf 174 bI):
  bM cf ak aqd.1 [fV f]=Z [fV (x,f.2)]:=by
 simp(maxSteps:=9^9) only[az,seval,-ac,-ae,ci,aP5,ar,c1,c2,e0,e1]
def auV {k:Cls}:Cn k 101 pt:=adc (ay aNj aqd.2 10 ak 8) fun f rs hf e=>by
 cases e
 exact aur (c:=q1n) rfl (ga hf.n aed) (fun _ _ _=>rfl) (fun _ _ _=>rfl)
def auu {f:Fr}{b:Bool}(z:(f.1.length==0)=b){cf:av}:bM cf ak q44.1 [fV f]=Z [bV b]:=by
 simp(maxSteps:=9^9) only[az,seval,-ac,-ae,ci,E44,ar,z]
def apI {k:Cls}:Cn k 44 uX:=adc (ay (t:=.z) trivial q44.2 10 ak 8) fun f rs hf e=>by
 cases e
 exact auu (by cases f.1<;>rfl)
def tKu  : Ft:=.n (.n .z 134 (.nat aW) U .z) 160 (.nat fK) U .z
def aNl   {k:Cls}:tKu.Ok Tryz.prog k aH:=⟨⟨tv,gU,tv,tv⟩,wp,tv,tv⟩
def aut:bM (ao tKu.tb 10 8) ak aqr.1 []=Z [pV (cQ (Q.whole 1))]:=by
 have c1:CA (ao tKu.tb 10 8) 134 aW:=fun _ _ _=>rfl
 have c2:CA (ao tKu.tb 10 8) 160 fK:=fun _ _ _=>rfl
 generalize ao tKu.tb 10 8=cf at*
 have e1:=tf
 have e2:=qW fB
 generalize cQ (Q.whole 1)=r at*
 generalize Q.whole 1=q at*
 simp(maxSteps:=9^9) only[au,seval,-ac,-ae,aQs,c1,c2,e1,e2]
def ws {k:Cls}:Cn k 150 cM:=aC (ay aNl aqr.2 10 ak 8) fun al rs h=>by
 unfold cM at h
 split at h
 ·cases h;exact aut
 ·cases h
def tKp  : Ft:=.n .z 150 (.nat cM) U .z
def aNk   {k:Cls}:tKp.Ok Tryz.prog k aH:=⟨tv,ws,tv,tv⟩
def apz {p u:List Mn}{cf:av}(e1:cM []=Z [pV u])(c1:CA cf 150 cM):bM cf ak q73.1 [pV p]=Z [fV (p,u)]:=by
 simp(maxSteps:=9^9) only[az,seval,-ac,-ae,ci,E73,ar,c1,e1]
def apG {k:Cls}:Cn k 73 zd:=tT (ay aNk q73.2 10 ak 8) fun p rs hp h=>by
 cases h;exact apz rfl (fun _ _ _=>rfl)
def GotP.of {n:Nat}{H H':Hp}{y:T}{r:List Mn}(h:GotP n H y r)(hl:H.length≤H'.length)(hb:∀b o k s,y=.t (.one (.lsl b o k s))→H'[b]?=H[b]?):GotP n H' y r:=by
 obtain⟨hn,h⟩:=h
 refine⟨by omega,?_⟩
 rcases h with h|⟨b,ds,hb0,rfl,hb1,hd⟩
 ·exact .inl h
 ·exact .inr ⟨b,ds,hb0,rfl,by rw[hb _ _ _ _ rfl];exact hb1,hd⟩
def GotP.lt {n b o k s:Nat}{H:Hp}{r:List Mn}(h:GotP n H (.t (.one (.lsl b o k s))) r):n≤b∧b<H.length:=by
 rcases h.2 with⟨h|h,_⟩|⟨b',ds,hb0,hy,hb1,hd⟩
 ·cases h
 ·cases h
 ·cases hy
  exact⟨hb0,(aTU.1 hb1).1⟩
structure CoR (n0:Nat) (H:Hp) (L:List D) (l:List (List Mn)):Prop where
 blk:H[n0]?=Z (Z (.cells L))
 len:L.length=l.length
 got:∀(j:Nat) (d:D) (r:List Mn),L[j]?=Z d→l[j]?=Z r→GotP (n0+1) H (.t (.one d)) r
 dis:∀(i j b o n s o' n' s':Nat),L[i]?=Z (.lsl b o n s)→L[j]?=Z (.lsl b o' n' s')→i=j
def aa5 {L:List D}{e:Nat}(h:e<L.length)(x:D):bF L e [x]=L.set e x:=by
 unfold bF
 rw[List.set_eq_take_append_cons_drop,if_pos h]
 simp
def fY {α:Type}{L:List α}{e:Nat}{d:α}(h:L[e]?=Z d):L.drop e=d::L.drop (e+1):=by
 obtain⟨h1,rfl⟩:=aTU.1 h
 exact List.drop_eq_getElem_cons h1
section
variable {p t r:List Mn} {m:Mn} {i v e n n0:Nat} {L:List D} {d:D} {t1 t2 t5 t9:T} {H:Hp} {W:List Nat} {cf:av}
def aEm (hv:v<4)(hi:p.drop i=m::t)(hl:p.length<10000000)(hr:r.length<100000000)(he:m.ex v=e)(hen:e<n)(hL:L[e]?=Z d)(h0:H[n0]?=Z (Z (.cells L)))(hG:GotP (n0+1) H (.t (.one d)) r)(fl:Nat):
  ∃t1' t2' t5' W',am cf fl yt ⟨[iT i,t1,t2,cD n0 n,iT v,t5,pT p,iT p.length,pT p,t9],H,[],W,[]⟩=
   Z (.normal,⟨[iT (i+1),t1',t2',cD n0 n,iT v,t5',pT p,iT p.length,pT p,t9],(lw (H++[mB (m.zero v)]) (.t (.one d)) r (m.zero v)).set n0 (Z (.cells (L.set e (.lsl (H.length+1) 0 (r.length+1) 8)))),[],W',[]⟩):=by
 have hd:=bW hi
 have h1:=aM hi
 have f1:i+1<9223372036854775808:=by omega
 have g1:=(aTU.1 hL).1
 have g2:e+1≤L.length:=g1
 have g3:=fY hL
 have g4:=aa5 g1
 have gA:∀x,(H++[x])[n0]?=Z (Z (.cells L)):=fun x=>fU h0 x
 have gG:∀x,GotP (n0+1) (H++[x]) (.t (.one d)) r:=fun x=>hG.snoc x
 have hA:=fun(H':Hp) (x':T) (hx:ch H' 8 x'=Z (1,mD (m.zero v))) (h:GotP (n0+1) H' (.t (.one d)) r)=>dS hr (m.zero v) x' H' hx h
 have hK:(lw (H++[mB (m.zero v)]) (.t (.one d)) r (m.zero v))[n0]?=Z (Z (.cells L)):=((hG.snoc _).keep _ (by omega)).trans (gA _)
 have hT:apT (H++[mB (m.zero v)]) r=.t (.one (.lsl (H.length+1) 0 (r.length+1) 8)):=by unfold apT;rw[aTW];rfl
 have hv':v=0∨v=1∨v=2∨v=3:=by omega
 subst he
 rcases hv' with rfl|rfl|rfl|rfl<;>simp only[Mn.ex,Mn.zero]at hA hK hT hen g2 g3 g4 ⊢<;>
  (simp(maxSteps:=9^9) only[au,seval,-ac,-ae,ar7,ar,h0,h1,hd,f1,hen,g2,g3,g4,gA,gG,hA,hK,hT,bk,bx];exact⟨_,_,_,_,rfl⟩)
def aI0 {k:Nat}(fl:Nat):
  ∃t5',am cf fl yt ⟨[iT k,t1,t2,cD n0 n,iT v,t5,pT p,iT k,pT p,t9],H,[],W,[]⟩=Z (.exit 0,⟨[iT k,t1,t2,cD n0 n,iT v,t5',pT p,iT k,pT p,t9],H,[],W,[]⟩):=by
 simp(maxSteps:=9^9) only[au,seval,-ac,-ae,ar7,ar]
 exact⟨_,rfl⟩
end
def CoR.next {n0 e:Nat}{H:Hp}{L:List D}{l:List (List Mn)}{d:D}{r:List Mn}(h:CoR n0 H L l)(hd:L[e]?=Z d)(hr:l[e]?=Z r)(m:Mn):
  CoR n0 ((lw (H++[mB m]) (.t (.one d)) r m).set n0 (Z (.cells (L.set e (.lsl (H.length+1) 0 (r.length+1) 8))))) (L.set e (.lsl (H.length+1) 0 (r.length+1) 8)) (l.set e (r++[m])):=by
 have hG:=h.got e d r hd hr
 have hn0:=(aTU.1 h.blk).1
 have he:=(aTU.1 hd).1
 have hk:=dV (.t (.one d)) (H++[mB m])
 have hlen:(lw (H++[mB m]) (.t (.one d)) r m).length=H.length+2:=by unfold lw;rw[aTW,hk,aTW];rfl
 have hlt:∀(j b o k s:Nat),L[j]?=Z (.lsl b o k s)→n0+1≤b∧b<H.length:=fun j b o k s hj=>by
  have h1:=(aTU.1 hj).1
  obtain⟨r',h2⟩:∃r',l[j]?=Z r':=⟨_,aTX (by rw[← h.len];exact h1)⟩
  exact(h.got j _ _ hj h2).lt
 refine⟨?_,?_,?_,?_⟩
 ·exact List.getElem?_set_self (by rw[hlen];omega)
 ·rw[List.length_set,List.length_set];exact h.len
 ·intro j d' r' hj hr'
  rcases Nat.decEq e j with hne|rfl
  ·rw[aUn hne]at hj hr'
   refine(h.got j d' r' hj hr').of (by rw[List.length_set,hlen];omega) fun b o k s hy=>?_
   cases hy
   have hb:=hlt _ _ _ _ _ hj
   rw[aUn (by omega)]
   unfold lw
   rw[aUs (by rw[hk,aTW];simp;omega)]
   have h2:∀b',(∃o k s,d=.lsl b' o k s)→b'≠b:=by
    rintro b' ⟨o',k',s',rfl⟩ rfl
    exact hne (h.dis e j _ _ _ _ _ _ _ hd hj)
   have h3:(H++[mB m])[b]?=H[b]?:=aUs hb.2
   unfold kM
   split
   ·rename_i b' _ _ _ hy
    cases hy
    rw[aUn (h2 _ ⟨_,_,_,rfl⟩)];exact h3
   ·exact h3
  ·rw[List.getElem?_set_self he]at hj
   rw[List.getElem?_set_self (by rw[← h.len];exact he)]at hr'
   cases hj;cases hr'
   have h1:=(hG.snoc (mB m)).next m
   have h2:apT (H++[mB m]) r=.t (.one (.lsl (H.length+1) 0 (r.length+1) 8)):=by unfold apT;rw[aTW];rfl
   rw[h2]at h1
   exact h1.of (by rw[List.length_set];exact aTS _) fun b o k s hy=>by
    cases hy
    exact aUn (by omega)
 ·intro i j b o n s o' n' s' hi hj
  rcases Nat.decEq e i with h1|rfl<;>rcases Nat.decEq e j with h2|rfl
  ·rw[aUn h1]at hi
   rw[aUn h2]at hj
   exact h.dis _ _ _ _ _ _ _ _ _ hi hj
  ·rw[aUn h1]at hi
   rw[List.getElem?_set_self he]at hj
   cases hj
   have:=hlt _ _ _ _ _ hi
   omega
  ·rw[List.getElem?_set_self he]at hi
   rw[aUn h2]at hj
   cases hi
   have:=hlt _ _ _ _ _ hj
   omega
  ·rfl
def aEa (v n:Nat):fD v n []=[]:=rfl
def CoP (v:Nat)(p q:List Mn)(n:Nat)(l:List (List Mn)):Prop:=l.length=n∧∀(j:Nat) (r:List Mn),l[j]?=Z r→r++fD v j q=fD v j p
def amq {v:Nat}{p:List Mn}:∀(k n j:Nat),j<k→(kj v p k n)[j]?=Z (fD v (n+j) p)
 |0,n,j,h=>by omega
 |k+1,n,0,h=>rfl
 |k+1,n,j+1,h=>by
  rw[kj,List.getElem?_cons_succ,amq k (n+1) j (by omega)]
  rw[show n+1+j=n+(j+1) by omega]
def CoP.fin {v:Nat}{p:List Mn}{l:List (List Mn)}(h:CoP v p [] (dg v p) l):l=aS v p:=by
 apply List.ext_getElem?
 intro j
 rcases aT6 j (dg v p)with h1|h1
 ·have h2:j<l.length:=by rw[h.1];exact h1
  have h3:=h.2 j _ (aTX h2)
  rw[aEa,List.append_nil]at h3
  unfold aS
  rw[amq _ _ _ h1,aUe,aTX h2,h3]
 ·rw[List.getElem?_eq_none (by rw[h.1];exact h1),List.getElem?_eq_none (by unfold aS;rw[mQ];exact h1)]
def CoP.next {v n e:Nat}{p q:List Mn}{m:Mn}{l:List (List Mn)}{r:List Mn}(h:CoP v p (m::q) n l)(he:m.ex v=e)(hr:l[e]?=Z r):CoP v p q n (l.set e (r++[m.zero v])):=by
 refine⟨by rw[List.length_set];exact h.1,fun j s hj=>?_⟩
 rcases Nat.decEq e j with h1|rfl
 ·rw[aUn h1]at hj
  have h2:=h.2 j s hj
  have h3:ai (m.ex v) j=aa:=by
   rw[he]
   cases h4:ai e j with
   |false=>rfl
   |true=>exact absurd (aT1 h4) h1
  rw[fD,h3]at h2
  exact h2
 ·rw[List.getElem?_set_self (aTU.1 hr).1]at hj
  cases hj
  have h2:=h.2 e r hr
  have h3:ai (m.ex v) e=ab:=by rw[he];exact Nat.beq_refl _
  rw[fD,h3]at h2
  rw[aUr]
  exact h2
abbrev vj:D:=.c (.v (.slice U 0 0))
def aK0 (n:Nat):ge (cW [.slice U 0 0] n)=Z (aT5 n vj):=by
 have h:∀n,ge (aT5 n (Value.slice U 0 0))=Z (aT5 n vj):=by
  intro n
  induction n with
  |zero=>rfl
  |succ n ih=>rw[List.replicate_succ,List.replicate_succ,ge,ih];rfl
 have e:cW [.slice U 0 0] n=aT5 n (Value.slice U 0 0):=by
  unfold cW
  apply List.ext_getElem
  ·simp
  ·intro i h1 h2
   simp[Nat.mod_one]
 rw[e,h]
def rW {p:List Mn}{v:Nat}(h:PF p)(hv:v<4)(hk:dg v p<10000000){cf:av}(c1:CA cf 92 a9)(H:Hp):
  ∃H' W' L,cy cf ak jU.1 [pT p,iT v] H []=Z (cD H.length (dg v p),H',[],W')∧CoR H.length H' L (aS v p)∧∀i,i<H.length→H'[i]?=H[i]?:=by
 have e0:=cv h hv
 obtain⟨n,hn⟩:∃n,dg v p=n:=⟨_,rfl⟩
 rw[hn]at hk e0
 have hw:=aoP (k:=n) (by omega)
 have f1:n<9223372036854775808:=by omega
 have f2:n≤2 ^ 30:=by omega
 have f3:24*n≤70368744177664:=by omega
 have hmem:∀m∈p,m.ex v<n:=fun m hm=>by rw[← hn];exact adg 0 hm
 obtain⟨st',hl,t1,t2,t5,H',W,L,l,rfl,hI,hP,hF⟩:=bq (body:=am cf ak yt) (id:=0) p.length
  (fun i st=>∃t1 t2 t5 H' W L l,st=⟨[iT i,t1,t2,cD H.length n,iT v,t5,pT p,iT p.length,pT p,aR],H',[],W,[]⟩∧CoR H.length H' L l∧CoP v p (p.drop i) n l∧(∀j,j<H.length→H'[j]?=H[j]?)∧∀r∈l,r.length≤i)
  (fun st=>∃t1 t2 t5 H' W L l,st=⟨[iT p.length,t1,t2,cD H.length n,iT v,t5,pT p,iT p.length,pT p,aR],H',[],W,[]⟩∧CoR H.length H' L l∧CoP v p [] n l∧∀j,j<H.length→H'[j]?=H[j]?)
  (fun i st hi=>by
   rintro⟨t1,t2,t5,H',W,L,l,rfl,hI,hP,hF,hR⟩
   obtain⟨m,t,hm⟩:=bo hi
   have hpl:=h.len
   have he:=hmem m (aX hm)
   have hl1:m.ex v<l.length:=by rw[hP.1];exact he
   have hl2:m.ex v<L.length:=by rw[hI.len];exact hl1
   have g1:=aTX hl1
   have g2:=aTX hl2
   have hG:=hI.got _ _ _ g2 g1
   have hr:=hR _ (aUl hl1)
   obtain⟨t1',t2',t5',W',e⟩:=aEm (t1:=t1) (t2:=t2) (t5:=t5) (t9:=aR) (W:=W) (cf:=cf) hv hm hpl (by omega) rfl he g2 hI.blk hG ak
   rw[hm]at hP
   refine⟨_,e,_,_,_,_,_,_,_,rfl,hI.next g2 g1 (m.zero v),by rw[bf hm];exact hP.next rfl g1,fun j hj=>?_,fun r hr'=>?_⟩
   ·rw[aUn (by omega),(hG.snoc _).keep _ (by omega),aUs (by have:=(aTU.1 hI.blk).1;omega)]
    exact hF j hj
   ·rcases List.mem_or_eq_of_mem_set hr' with hr'|rfl
    ·have:=hR r hr';omega
    ·rw[aTW]
     simp
     omega)
  (fun st=>by
   rintro⟨t1,t2,t5,H',W,L,l,rfl,hI,hP,hF,hR⟩
   obtain⟨t5',e⟩:=aI0 (p:=p) (v:=v) (n:=n) (n0:=H.length) (k:=p.length) (t1:=t1) (t2:=t2) (t5:=t5) (t9:=aR) (H:=H') (W:=W) (cf:=cf) ak
   rw[aUg]at hP
   exact⟨_,e,_,_,_,_,_,_,_,rfl,hI,hP,hF⟩)
  ak ⟨[iT 0,.nil,.nil,cD H.length n,iT v,.nil,pT p,iT p.length,pT p,aR],H++[Z (.cells (aT5 n vj))],[],[],[]⟩
  ⟨_,_,_,_,_,aT5 n vj,aT5 n [],rfl,⟨bk _ _,by rw[List.length_replicate,List.length_replicate],fun j d r hj hr=>by
    have h1:=List.eq_of_mem_replicate (List.mem_of_getElem? hj)
    have h2:=List.eq_of_mem_replicate (List.mem_of_getElem? hr)
    subst h1 h2
    exact⟨by rw[aTW];exact aTS _,.inl ⟨.inr rfl,rfl⟩⟩,fun i j b o n' s o' n'' s' hi hj=>by
    have h1:=List.eq_of_mem_replicate (List.mem_of_getElem? hi)
    cases h1⟩,⟨List.length_replicate,fun j r hr=>by
    have h2:=List.eq_of_mem_replicate (List.mem_of_getElem? hr)
    rw[h2];rfl⟩,fun j hj=>aUs hj,fun r hr=>by
    rw[List.eq_of_mem_replicate hr];exact Nat.zero_le _⟩ (aN h.len)
 rw[hn]
 rw[← hn]at hP
 have hfin:=hP.fin
 subst hfin
 refine⟨H',?_,L,?_,hI,hF⟩
 rotate_left
 ·simp(maxSteps:=9^9) only[au,seval,-ac,-ae,aP9,ar,c1,e0,hw,f1,f2,f3,aK0,hl]
  rfl
def Mn.up (m:Mn)(v k:Nat):Mn:=match v with|0=>⟨m.a+k,m.b,m.c,m.d,m.q⟩|1=>⟨m.a,m.b+k,m.c,m.d,m.q⟩|2=>⟨m.a,m.b,m.c+k,m.d,m.q⟩|_=>⟨m.a,m.b,m.c,m.d+k,m.q⟩
def xj (v k:Nat):List Mn→List Mn→Option (List Mn)
 |[],o=>Z o
 |m::q,o=>match gS (m.up v k)with
  |false=>U
  |true=>match lu (m.up v k) o with
   |some o'=>xj v k q o'
   |none=>U
def ym (v:Nat):Nat→List (List Mn)→List Mn→Option (List Mn)
 |_,[],o=>Z o
 |k,q::l,o=>match xj v k q o with
  |some o'=>ym v (k+1) l o'
  |none=>U
def kP (l:List (List Mn))(v:Nat):Option (List Mn):=match ym v 0 l []with
 |some o=>(match ah o.length 10000000,cx (cu (fA o))with|true,ab=>Z (cu (fA o))|_,_=>U)
 |none=>U
def ahn {o:List Mn}(ho:cK o)(hl:o.length<10000000):PF (cu (fA o)):=
 ⟨fun m hm=>ho m (ann ((fg _).mem_iff.1 hm)),by rw[(fg _).length_eq];have:=anm o;omega⟩
def ana {x:Mn}:∀{q o O:List Mn},cK o→sD x q o=Z O→cK O
 |[],o,O,ho,h=>by rw[sD]at h;cases h;exact ho
 |y::q,o,O,ho,h=>by
  rw[sD]at h
  split at h
  ·cases h
  ·rename_i g1
   split at h
   ·rename_i o' g2
    exact ana (xO (jR g1) ho g2).2 h
   ·cases h
def am9 {q:List Mn}:∀{p o O:List Mn},cK o→qR q p o=Z O→cK O
 |[],o,O,ho,h=>by rw[qR]at h;cases h;exact ho
 |x::p,o,O,ho,h=>by
  rw[qR]at h
  split at h
  ·rename_i o' g
   exact am9 (ana ho g) h
  ·cases h
def eU {p q r:List Mn}(h:br p q=Z r):PF r:=by
 unfold br at h
 split at h
 rotate_left
 ·cases h
 rename_i O hO
 split at h
 rotate_left
 ·cases h
 rename_i hlen _
 cases h
 rw[aTR]at hlen
 exact ahn (am9 (fun m hm=>(List.not_mem_nil hm).elim) hO) hlen
section
variable {q t:List Mn} {m:Mn} {i v k:Nat} {t0 t2 t3 t9 t10 t11 t12 t13 t14:T} {H H':Hp} {W W1:List Nat} {cf cg:av}
def aEL (hm:m.Ok)(hv:v<4)(hk:k<10000000)(hi:q.drop i=m::t)(hl:q.length<10000000)
  (eA:s8 cg [b7 0,keT (m.up v k),.t (.agg (qD (m.up v k).q))] (H++[mB (m.up v k)]) []=Z (.tup [],H',[],W1))
  (c2:∀x y z H S,cf (fT 161) [x,y,z] H S=s8 cg [x,y,z] H S)(fl:Nat):
  ∃t0' t2' W',am cf fl oh ⟨[t0,iT i,t2,t3,iT k,pT q,iT q.length,b7 0,iT v,t9,t10,t11,t12,t13,t14],H,[],W,[]⟩=Z (.normal,⟨[t0',iT (i+1),t2',t3,iT k,pT q,iT q.length,b7 0,iT v,t9,t10,t11,t12,t13,t14],H',[],W',[]⟩):=by
 have hd:=bW hi
 have h1:=aM hi
 have f1:i+1<9223372036854775808:=by omega
 have a1:=hm.a;have a2:=hm.b;have a3:=hm.c;have a4:=hm.d
 have g1:m.a+k<9223372036854775808:=by omega
 have g2:m.b+k<9223372036854775808:=by omega
 have g3:m.c+k<9223372036854775808:=by omega
 have g4:m.d+k<9223372036854775808:=by omega
 have hv':v=0∨v=1∨v=2∨v=3:=by omega
 rcases hv' with rfl|rfl|rfl|rfl<;>simp only[Mn.up]at eA<;>
  (simp(maxSteps:=9^9) only[au,seval,-ac,-ae,asq,ar,c2,eA,h1,hd,f1,g1,g2,g3,g4,bk,bx];exact⟨_,_,_,rfl⟩)
def aJA {n:Nat}(fl:Nat):
  ∃t2',am cf fl oh ⟨[t0,iT n,t2,t3,iT k,pT q,iT n,b7 0,iT v,t9,t10,t11,t12,t13,t14],H,[],W,[]⟩=Z (.exit 2,⟨[t0,iT n,t2',t3,iT k,pT q,iT n,b7 0,iT v,t9,t10,t11,t12,t13,t14],H,[],W,[]⟩):=by
 simp(maxSteps:=9^9) only[au,seval,-ac,-ae,asq,ar]
 exact⟨_,rfl⟩
def aEK {O o:List Mn}(hq:PF q)(hv:v<4)(hk:k<10000000)(c2:∀x y z H S,cf (fT 161) [x,y,z] H S=s8 cg [x,y,z] H S)(c3:CA cg 182 cV)
  (hO:xj v k q o=Z O)(ho:cK o)(hH:oU H o):
  ∃t0' t2' H' W',aG (am cf ak oh) ak ⟨[t0,iT 0,t2,t3,iT k,pT q,iT q.length,b7 0,iT v,t9,t10,t11,t12,t13,t14],H,[],W,[]⟩=Z (.exit 2,⟨[t0',iT q.length,t2',t3,iT k,pT q,iT q.length,b7 0,iT v,t9,t10,t11,t12,t13,t14],H',[],W',[]⟩)∧oU H' O∧cK O:=by
 obtain⟨st',hl,t0',t2',H',W',rfl,r1,r2⟩:=bq (body:=am cf ak oh) (id:=2) q.length
  (fun i st=>∃t0 t2 H W o,st=⟨[t0,iT i,t2,t3,iT k,pT q,iT q.length,b7 0,iT v,t9,t10,t11,t12,t13,t14],H,[],W,[]⟩∧oU H o∧cK o∧xj v k (q.drop i) o=Z O)
  (fun st=>∃t0 t2 H W,st=⟨[t0,iT q.length,t2,t3,iT k,pT q,iT q.length,b7 0,iT v,t9,t10,t11,t12,t13,t14],H,[],W,[]⟩∧oU H O∧cK O)
  (fun i st hi=>by
   rintro⟨t0,t2,H,W,o,rfl,hH,ho,hr⟩
   obtain⟨m,t,hm⟩:=bo hi
   have om:=hq.ok m (aX hm)
   rw[hm,xj]at hr
   split at hr
   ·cases hr
   ·rename_i g1
    split at hr
    ·rename_i o' g2
     have hxy:=jR g1
     obtain⟨rfl,ho'⟩:=xO hxy ho g2
     obtain⟨H',W1,eA,r1,r2⟩:=aiC (b:=0) (H:=H++[mB (m.up v k)]) ho hxy (fU hH _) c3 10
     obtain⟨t0',t2',W',e⟩:=aEL (cg:=cg) (t0:=t0) (t2:=t2) (t3:=t3) (t9:=t9) (t10:=t10) (t11:=t11) (t12:=t12) (t13:=t13) (t14:=t14) (W:=W) om hv hk hm hq.len eA c2 ak
     exact⟨_,e,_,_,_,_,_,rfl,r1,ho',by rw[bf hm];exact hr⟩
    ·cases hr)
  (fun st=>by
   rintro⟨t0,t2,H,W,o,rfl,hH,ho,hr⟩
   obtain⟨t2',e⟩:=aJA (q:=q) (n:=q.length) (v:=v) (k:=k) (t0:=t0) (t2:=t2) (t3:=t3) (t9:=t9) (t10:=t10) (t11:=t11) (t12:=t12) (t13:=t13) (t14:=t14) (H:=H) (W:=W) (cf:=cf) ak
   rw[aUg,xj]at hr
   cases hr
   exact⟨_,e,_,_,_,_,rfl,hH,ho⟩)
  ak ⟨[t0,iT 0,t2,t3,iT k,pT q,iT q.length,b7 0,iT v,t9,t10,t11,t12,t13,t14],H,[],W,[]⟩ ⟨t0,t2,H,W,o,rfl,hH,ho,hO⟩ (aN hq.len)
 exact⟨_,_,_,_,hl,r1,r2⟩
end
section
variable {l u:List (List Mn)} {q o O:List Mn} {k v:Nat} {t0 t1 t2 t4 t5 t6 t9 t10 t13 t14:T} {H H':Hp} {W W1:List Nat} {cf cg:av}
def aEI (hi:l.drop k=q::u)(hl:l.length<10000000)(hq:PF q)(hv:v<4)(c2:∀x y z H S,cf (fT 161) [x,y,z] H S=s8 cg [x,y,z] H S)(c3:CA cg 182 cV)
  (hO:xj v k q o=Z O)(ho:cK o)(hH:oU H o):
  ∃t0' t1' t2' t4' t5' t6' t9' t10' H' W',am cf ak yH ⟨[t0,t1,t2,iT k,t4,t5,t6,b7 0,iT v,t9,t10,lT l,iT l.length,t13,t14],H,[],W,[]⟩=Z (.normal,⟨[t0',t1',t2',iT (k+1),t4',t5',t6',b7 0,iT v,t9',t10',lT l,iT l.length,t13,t14],H',[],W',[]⟩)∧oU H' O∧cK O:=by
 have hd:=aaO hi
 have h1:=aM hi
 have f1:k+1<9223372036854775808:=by omega
 have f2:k<10000000:=by omega
 obtain⟨t0',t2',H',W',hlp,r1,r2⟩:=aEK (t0:=t0) (t2:=t2) (t3:=iT k) (t9:=pT q) (t10:=bj ab) (t11:=lT l) (t12:=iT l.length) (t13:=t13) (t14:=t14) (W:=W) hq hv f2 c2 c3 hO ho hH
 simp(maxSteps:=9^9) only[au,seval,-ac,-ae,asp,ar,h1,hd,f1,hlp]
 exact⟨_,_,_,_,_,_,_,_,_,_,rfl,r1,r2⟩
def aJx {n:Nat}(fl:Nat):
  ∃t10',am cf fl yH ⟨[t0,t1,t2,iT n,t4,t5,t6,b7 0,iT v,t9,t10,lT l,iT n,t13,t14],H,[],W,[]⟩=Z (.exit 0,⟨[t0,t1,t2,iT n,t4,t5,t6,b7 0,iT v,t9,t10',lT l,iT n,t13,t14],H,[],W,[]⟩):=by
 simp(maxSteps:=9^9) only[au,seval,-ac,-ae,asp,ar]
 exact⟨_,rfl⟩
end
def tFr  : Ft:=.n (.n .z 161 (.code tw.1) U .z) 163 (.wnat coN) U (.n .z 182 (.nat cV) U .z)
def aM8   {k:Cls}:tFr.Ok Tryz.prog k aH:=⟨⟨tv,tw.2,tv,tv⟩,amv,tv,⟨tv,wt,tv,tv⟩⟩
def ax3 {l:List (List Mn)}{v:Nat}{r:List Mn}(hl:∀q∈l,PF q)(hn:l.length<10000000)(hv:v<4)(h:kP l v=Z r):bM (ao tFr.tb 10 8) ak zO.1 [lV l,sV (af v)]=Z [pV r]:=by
 have c2:∀x y z H S,ao tFr.tb 10 8 (fT 161) [x,y,z] H S=s8 (ao tFr.tb 10 7) [x,y,z] H S:=fun _ _ _ _ _=>rfl
 have c3:CA (ao tFr.tb 10 7) 182 cV:=fun _ _ _=>rfl
 have c4:∀x H S,ao tFr.tb 10 8 (fT 163) [x] H S=coN [x] H S:=fun _ _ _=>rfl
 generalize ao tFr.tb 10 8=cf at*
 generalize ao tFr.tb 10 7=cg at*
 unfold kP at h
 split at h
 rotate_left
 ·cases h
 rename_i O hO
 split at h
 rotate_left
 ·cases h
 rename_i hlen hsrt
 cases h
 rw[aTR]at hlen
 obtain⟨st',hlp,t0,t1,t2,t4,t5,t6,t9,t10,H,W,rfl,r1,r2⟩:=bq (body:=am cf ak yH) (id:=0) l.length
  (fun i st=>∃t0 t1 t2 t4 t5 t6 t9 t10 H W o,st=⟨[t0,t1,t2,iT i,t4,t5,t6,b7 0,iT v,t9,t10,lT l,iT l.length,aR,lT l],H,[],W,[]⟩∧oU H o∧cK o∧ym v i (l.drop i) o=Z O)
  (fun st=>∃t0 t1 t2 t4 t5 t6 t9 t10 H W,st=⟨[t0,t1,t2,iT l.length,t4,t5,t6,b7 0,iT v,t9,t10,lT l,iT l.length,aR,lT l],H,[],W,[]⟩∧oU H O∧cK O)
  (fun i st hi=>by
   rintro⟨t0,t1,t2,t4,t5,t6,t9,t10,H,W,o,rfl,hH,ho,hr⟩
   obtain⟨q,u,hm⟩:=bo hi
   rw[hm,ym]at hr
   split at hr
   ·rename_i o' g1
    obtain⟨t0',t1',t2',t4',t5',t6',t9',t10',H',W',e,q1,q2⟩:=aEI (t0:=t0) (t1:=t1) (t2:=t2) (t4:=t4) (t5:=t5) (t6:=t6) (t9:=t9) (t10:=t10) (t13:=aR) (t14:=lT l) (W:=W) hm hn (hl q (aX hm)) hv c2 c3 g1 ho hH
    exact⟨_,e,_,_,_,_,_,_,_,_,_,_,_,rfl,q1,q2,by rw[bf hm];exact hr⟩
   ·cases hr)
  (fun st=>by
   rintro⟨t0,t1,t2,t4,t5,t6,t9,t10,H,W,o,rfl,hH,ho,hr⟩
   obtain⟨t10',e⟩:=aJx (l:=l) (n:=l.length) (v:=v) (t0:=t0) (t1:=t1) (t2:=t2) (t4:=t4) (t5:=t5) (t6:=t6) (t9:=t9) (t10:=t10) (t13:=aR) (t14:=lT l) (H:=H) (W:=W) (cf:=cf) ak
   rw[aUg,ym]at hr
   cases hr
   exact⟨_,e,_,_,_,_,_,_,_,_,_,_,rfl,hH,ho⟩)
  ak ⟨[.nil,.nil,.nil,iT 0,.nil,.nil,.nil,b7 0,iT v,.nil,.nil,lT l,iT l.length,aR,lT l],[Z (.mp [])],[],[],[]⟩ ⟨.nil,.nil,.nil,.nil,.nil,.nil,.nil,.nil,[Z (.mp [])],[],[],rfl,rfl,fun m hm=>(List.not_mem_nil hm).elim,hO⟩ (aN hn)
 obtain⟨H',eC⟩:=aiP r1 r2 hlen hsrt
 simp(maxSteps:=9^9) only[au,seval,-ac,-ae,aQ8,ar,hlp,c4,eC]
def wv:Nt
 |[x,.one (.v (.int .i64 (.ofNat v)))]=>(match lV1 x,ah v 4 with|some l,ab=>(match kP l v with|some r=>Z [pV r]|none=>U)|_,_=>U)
 |_=>U
def aFz {l:List (List Mn)}{v:Nat}{r:List Mn}(hl:∀q∈l,PF q)(hn:l.length<10000000)(hv:v<4)(h:kP l v=Z r):wv [lV l,sV (af v)]=Z [pV r]:=by
 have hb:ah v 4=ab:=by rw[aTR];exact hv
 simp only[wv,aCS hl hn,hb,h]
def auX {k:Cls}:Cn k 259 wv:=aC (ay aM8 zO.2 10 ak 8) fun al rs h=>by
 unfold wv at h
 split at h
 ·split at h
  ·rename_i l hx hv
   obtain⟨rfl,h1,h2⟩:=auw hx
   rw[aTR]at hv
   split at h
   ·rename_i r e
    cases h
    exact ax3 h1 h2 hv e
   ·cases h
  ·cases h
 ·cases h
def aze {l:List (List Mn)}{v:Nat}{r:List Mn}(hl:∀q∈l,PF q)(h:kP l v=Z r):PF r:=by
 unfold kP at h
 split at h
 rotate_left
 ·cases h
 rename_i O hO
 split at h
 rotate_left
 ·cases h
 rename_i hlen hsrt
 cases h
 rw[aTR]at hlen
 have hR:∀(k:Nat) (q o O:List Mn),cK o→xj v k q o=Z O→cK O:=by
  intro k q
  induction q with
  |nil=>intro o O ho h;rw[xj]at h;cases h;exact ho
  |cons m q ih=>
   intro o O ho h
   rw[xj]at h
   split at h
   ·cases h
   ·rename_i g1
    split at h
    ·rename_i o' g2
     exact ih _ _ (xO (jR g1) ho g2).2 h
    ·cases h
 have hA:∀(l:List (List Mn)) (k:Nat) (o O:List Mn),cK o→ym v k l o=Z O→cK O:=by
  intro l
  induction l with
  |nil=>intro k o O ho h;rw[ym]at h;cases h;exact ho
  |cons q l ih=>
   intro k o O ho h
   rw[ym]at h
   split at h
   ·rename_i o' g
    exact ih _ _ _ (hR _ _ _ _ ho g) h
   ·cases h
 exact ahn (hA l 0 [] O (fun m hm=>(List.not_mem_nil hm).elim) hO) hlen
def RwX (x:Nat)(H:Hp)(d:D)(r:List Mn):Prop:=
 ((d=vj∨d=.z0)∧r=[])∨(∃b ds,b≠x∧d=.lsl b 0 r.length 8∧H[b]?=Z (Z (.cells ds))∧ds.take (r.length*8)=pD r)∨d=.c (pC r)
def RwX.set {x:Nat}{H:Hp}{d:D}{r:List Mn}(h:RwX x H d r)(z:Option Blk):RwX x (H.set x z) d r:=by
 rcases h with h|⟨b,ds,hn,hd,hb,ht⟩|h
 ·exact .inl h
 ·exact .inr (.inl ⟨b,ds,hn,hd,by rw[aUn (Ne.symm hn)];exact hb,ht⟩)
 ·exact .inr (.inr h)
def RwX.fz {x:Nat}{H:Hp}{d:D}{r:List Mn}(h:RwX x H d r):∃bs,(∀k,fz H (k+1) d=Z (pC r,bs))∧x∉bs:=by
 rcases h with⟨rfl|rfl,rfl⟩|⟨b,ds,hn,rfl,hb,ht⟩|rfl
 ·exact⟨[],fun k=>rfl,by simp⟩
 ·exact⟨[],fun k=>rfl,by simp⟩
 ·refine⟨[b],fun k=>?_,by simpa using Ne.symm hn⟩
  have h1:=ni ht
  have h2:(ds.drop 0).take (r.length*8)=pD r:=by rw[List.drop_zero];exact ht
  rw[Go.Mach.fz,hb]
  simp only[aUe,h1,h2,aaB,↓reduceIte]
 ·exact⟨[],fun k=>by rw[Go.Mach.fz];rfl,by simp⟩
def RwX.of_got {n x:Nat}{H:Hp}{d:D}{r:List Mn}(h:GotP n H (.t (.one d)) r)(hx:∀b o k s,d=.lsl b o k s→b≠x):RwX x H d r:=by
 rcases h.2 with⟨e|e,rfl⟩|⟨b,ds,hb0,hy,hb,ht⟩
 ·injection e with e;injection e with e;exact .inl ⟨.inr e,rfl⟩
 ·injection e with e;injection e with e;exact .inl ⟨.inl e,rfl⟩
 ·injection hy with hy;injection hy with hy;exact .inr (.inl ⟨b,ds,hx _ _ _ _ hy,hy,hb,ht⟩)
def amn {N:Nt}{x:Nat}{H:Hp}{S:List Nat}{d e:D}{p q r:List Mn}(hd:RwX x H d p)(he:RwX x H e q)(h:N [pV p,pV q]=Z [pV r])(hS:x∉S):
  ∃S',bC N [.t (.one d),.t (.one e)] H S=Z (pT r,H,S',[])∧x∉S':=by
 obtain⟨b1,f1,n1⟩:=hd.fz
 obtain⟨b2,f2,n2⟩:=he.fz
 refine⟨xQ (b1++(b2++[])) S,?_,?_⟩
 ·have f1:=f1 7
  have f2:=f2 7
  simp only[aTJ]at f1 f2
  simp only[bC,o6,jc,oS,nu,f1,f2,h,Option.map_some]
  rfl
 ·unfold xQ
  rw[List.append_nil,List.mem_append]
  rintro(h|h)
  ·have:=(List.mem_filter.1 h).1
   rcases List.mem_append.1 this with h|h
   ·exact n1 h
   ·exact n2 h
  ·exact hS h
def mw (ld top:List Mn)(dv:List (List Mn))(sh:Nat):Nat→List (List Mn)→Option (List (List Mn))
 |_,[]=>Z []
 |i,x::r=>match br x ld with
  |none=>U
  |some y=>match aTQ sh i with
   |false=>(match mw ld top dv sh (i+1) r with|some o=>Z (y::o)|none=>U)
   |true=>match dv[i-sh]? with
    |none=>U
    |some d=>match br top d with
     |none=>U
     |some z=>match tC y z with
      |none=>U
      |some w=>(match mw ld top dv sh (i+1) r with|some o=>Z (w::o)|none=>U)
section
variable {x0 x1 i n n1 sh v kk:Nat} {z:Int} {L M:List D} {d e f g:D} {y w u:List Mn} {t1 t3 t6 t7 t10 t12 t13 t14 t15 t16:T} {H:Hp} {S S1 S2 W:List Nat} {cf:av}
abbrev zu (x0 x1 n n1 i v:Nat)(g:D)(t1 t3 t6 t7 t10 t12 t13 t14 t15 t16:T):List T:=[cD x0 n1,t1,iT i,t3,iT n,cD x1 (n+1),t6,t7,.t (.one g),iT n1,t10,iT v,t12,t13,t14,t15,t16]
def aK7 (hin:i<n1)(hn1:n1<10000000)(hL:L[i]?=Z d)(hM:M[n]?=Z e)(h0:H[x0]?=Z (Z (.cells L)))(h1:H[x1]?=Z (Z (.cells M)))(hS:x0∉S1)
  (e1:bC bU [.t (.one d),.t (.one e)] H S=Z (pT y,H,S1,[]))
  (w1:IntKind.i64.wrap (af n1-af n)=af sh)(w2:IntKind.i64.wrap (af i-af sh)=z)(w3:(decide (z≥af 0))=aa)
  (c1:CA cf 89 bU)(fl:Nat):
  ∃t1' t3' t6' t7' W',am cf fl md ⟨zu x0 x1 n n1 i v g t1 t3 t6 t7 t10 t12 t13 t14 t15 t16,H,S,W,[]⟩=
   Z (.normal,⟨zu x0 x1 n n1 (i+1) v g t1' t3' t6' t7' t10 t12 t13 t14 t15 t16,H.set x0 (Z (.cells (L.set i (.c (pC y))))),S1,W',[]⟩):=by
 have f1:i+1<9223372036854775808:=by omega
 have a1:=fY hL
 have a2:=fY hM
 have a3:i+1≤L.length:=(aTU.1 hL).1
 have a4:n+1≤M.length:=(aTU.1 hM).1
 have a5:=aa5 (L:=L) (e:=i) a3
 have a6:n<n+1:=Nat.lt_succ_self n
 have k1:=(c1 _ _ _).trans e1
 simp(maxSteps:=9^9) only[au,seval,-ac,-ae,aij,k1,hin,h0,h1,hS,f1,a1,a2,a3,a4,a5,a6,w1,w2,w3]
 exact⟨_,_,_,_,_,rfl⟩
def aFY (hin:i<n1)(hn1:n1<10000000)(hx:x0≠x1)(hL:L[i]?=Z d)(hM:M[n]?=Z e)(hK:M[kk]?=Z f)(hkk:kk<n+1)(h0:H[x0]?=Z (Z (.cells L)))(h1:H[x1]?=Z (Z (.cells M)))(hS:x0∉S1)(hS2:x0∉S2)
  (e1:bC bU [.t (.one d),.t (.one e)] H S=Z (pT y,H,S1,[]))
  (e2:bC bU [.t (.one g),.t (.one f)] (H.set x0 (Z (.cells (L.set i (.c (pC y)))))) S1=Z (pT w,H.set x0 (Z (.cells (L.set i (.c (pC y))))),S2,[]))
  (e3:cS [pV y,pV w]=Z [pV u])
  (w1:IntKind.i64.wrap (af n1-af n)=af sh)(w2:IntKind.i64.wrap (af i-af sh)=af kk)
  (c1:CA cf 89 bU)(c2:CA cf 104 cS)(fl:Nat):
  ∃t1' t3' t6' t7' W',am cf fl md ⟨zu x0 x1 n n1 i v g t1 t3 t6 t7 t10 t12 t13 t14 t15 t16,H,S,W,[]⟩=
   Z (.normal,⟨zu x0 x1 n n1 (i+1) v g t1' t3' t6' t7' t10 t12 t13 t14 t15 t16,H.set x0 (Z (.cells (L.set i (.c (pC u))))),S2,W',[]⟩):=by
 have f1:i+1<9223372036854775808:=by omega
 have a1:=fY hL
 have a2:=fY hM
 have a3:i+1≤L.length:=(aTU.1 hL).1
 have a4:n+1≤M.length:=(aTU.1 hM).1
 have a5:=aa5 (L:=L) (e:=i) a3
 have a6:n<n+1:=Nat.lt_succ_self n
 have a7:=fY hK
 have a8:kk+1≤M.length:=(aTU.1 hK).1
 have hl0:=(aTU.1 h0).1
 have b1:∀z:Option Blk,(H.set x0 z)[x0]?=Z z:=fun z=>List.getElem?_set_self hl0
 have b2:∀z:Option Blk,(H.set x0 z)[x1]?=Z (Z (.cells M)):=fun z=>by rw[aUn hx];exact h1
 have b3:∀z:D,(L.set i z).drop i=z::L.drop (i+1):=fun z=>by
  rw[fY (d:=z) (List.getElem?_set_self a3),List.drop_set_of_lt (Nat.lt_succ_self i)]
 have b4:∀z z':D,bF (L.set i z) i [z']=L.set i z':=fun z z'=>by rw[aa5 (by rw[List.length_set];exact a3),List.set_set]
 have b5:∀z z':Option Blk,(H.set x0 z).set x0 z'=H.set x0 z':=fun z z'=>List.set_set ..
 have k1:=(c1 _ _ _).trans e1
 have k2:=(c1 _ _ _).trans e2
 simp(maxSteps:=9^9) only[au,seval,-ac,-ae,aij,ar,k1,k2,c2,e3,hin,hkk,h0,h1,hS,hS2,f1,a1,a2,a3,a4,a5,a6,a7,a8,b1,b2,b3,b4,b5,w1,w2]
 exact⟨_,_,_,_,_,rfl⟩
def aK6 (fl:Nat):
  ∃t6',am cf fl md ⟨zu x0 x1 n n1 n1 v g t1 t3 t6 t7 t10 t12 t13 t14 t15 t16,H,S,W,[]⟩=Z (.exit 2,⟨zu x0 x1 n n1 n1 v g t1 t3 t6' t7 t10 t12 t13 t14 t15 t16,H,S,W,[]⟩):=by
 simp(maxSteps:=9^9) only[au,seval,-ac,-ae,aij,ar]
 exact⟨_,rfl⟩
end
end
end Go.Proofs.YtfiijelajgifiaaGreat
