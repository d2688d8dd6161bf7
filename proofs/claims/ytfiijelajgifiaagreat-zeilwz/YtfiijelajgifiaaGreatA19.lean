/-
  Part 19 of the machine and of the contracts of functions of the program (packed).
-/
import Derived.Shelf.SlSortCmp.WholeK
import Derived.Shelf.Small.Bits
import Derived.Ground.SlsfProg
import Derived.Ground.NamesProg
import Derived.Test.YtfiijelajgifiaaGreatA18
set_option linter.all false
set_option linter.defProp false
open Array renaming getElem?_eq_getElem→aUt
open Bool renaming false→aa,true→ab,and_eq_true→aTT
open Int renaming reduceOfNat→ac,reduceNegSucc→ae,ofNat→af
open List renaming getElem?_eq_some_iff→aTU,length_cons→aTV,length_append→aTW,getElem?_eq_getElem→aTX,mem_cons→aTZ,mem_cons_self→aT0,mem_cons_of_mem→aT8,length_nil→aUf,getElem?_map→aUm,getElem?_set_ne→aUn,append_assoc→aUr,getElem?_append_left→aUs
open Nat renaming blt→ah,beq→ai,ble→aTQ,blt_eq→aTR,le_refl→aTS,eq_of_beq_eq_true→aT1,mod_lt→aUb,le_trans→aUd,zero_add→aUe,lt_of_le_of_lt→aUh
open Option renaming some→Z,none→U
namespace Go.Proofs.YtfiijelajgifiaaGreat
noncomputable section
open Go Go.Proofs Go.Shelf Go.RowKit Go.Lib Go.Sort
theorem cgS {α : Type} {a b : α} (h : a = b) : some a = some b := congrArg some h
def sortL_ren : Go.Shelf.Ren:=⟨fun | 14 => 255 | 20 => 279 | 21 => 280 | 22 => 281 | 23 => 282 | 24 => 283 | 25 => 284 | 26 => 285 | 27 => 286 | 46 => 305 | 47 => 306 | 48 => 307 | 49 => 308 | 50 => 309 | 15 => 256 | 57 => 317 | 28 => 287 | 29 => 288 | n => n,fun | 24 => 94 | 22 => 26 | 3 => 3 | 25 => 198 | 4 => 4 | 0 => 0 | 46 => 247 | 45 => 246 | 50 => 251 | 66 => 268 | 39 => 163 | 55 => 184 | 70 => 272 | 76 => 283 | 77 => 284 | 53 => 186 | 5 => 5 | 9 => 9 | n => n,fun | n => n⟩
theorem sortL : Go.Proofs.SlLaysF0.n14 Tryz.prog sortL_ren:={
 mixed:=by kernel_rfl
 f14:=⟨Tryz.f255.name,by decide,Tryz.func255.trans (cgS (by kernel_rfl))⟩
 f15:=Tryz.func256.trans (cgS (by kernel_rfl))
 f20:=⟨Tryz.f279.name,by decide,Tryz.func279.trans (cgS (by kernel_rfl))⟩
 f21:=⟨Tryz.f280.name,by decide,Tryz.func280.trans (cgS (by kernel_rfl))⟩
 f22:=⟨Tryz.f281.name,by decide,Tryz.func281.trans (cgS (by kernel_rfl))⟩
 f23:=⟨Tryz.f282.name,by decide,Tryz.func282.trans (cgS (by kernel_rfl))⟩
 f24:=⟨Tryz.f283.name,by decide,Tryz.func283.trans (cgS (by kernel_rfl))⟩
 f25:=⟨Tryz.f284.name,by decide,Tryz.func284.trans (cgS (by kernel_rfl))⟩
 f26:=⟨Tryz.f285.name,by decide,Tryz.func285.trans (cgS (by kernel_rfl))⟩
 f27:=⟨Tryz.f286.name,by decide,Tryz.func286.trans (cgS (by kernel_rfl))⟩
 f28:=Tryz.func287.trans (cgS (by kernel_rfl))
 f29:=Tryz.func288.trans (cgS (by kernel_rfl))
 f46:=⟨Tryz.f305.name,by decide,Tryz.func305.trans (cgS (by kernel_rfl))⟩
 f47:=Tryz.func306.trans (cgS (by kernel_rfl))
 f48:=Tryz.func307.trans (cgS (by kernel_rfl))
 f49:=⟨Tryz.f308.name,by decide,Tryz.func308.trans (cgS (by kernel_rfl))⟩
 f50:=⟨Tryz.f309.name,by decide,Tryz.func309.trans (cgS (by kernel_rfl))⟩
 f57:=⟨Tryz.f317.name,by decide,Tryz.func317.trans (cgS (by kernel_rfl))⟩
 t0:=Tryz.underlying0
 a0:=Tryz.isAgg0
 z0:=Tryz.sizeOf0
 v0:=Tryz.zeroValue0
 t3:=Tryz.underlying3
 a3:=Tryz.isAgg3
 z3:=Tryz.sizeOf3
 v3:=Tryz.zeroValue3
 t4:=Tryz.underlying4
 a4:=Tryz.isAgg4
 z4:=Tryz.sizeOf4
 v4:=Tryz.zeroValue4
 t5:=Tryz.underlying5
 a5:=Tryz.isAgg5
 z5:=Tryz.sizeOf5
 v5:=Tryz.zeroValue5
 t9:=Tryz.underlying9
 a9:=Tryz.isAgg9
 z9:=Tryz.sizeOf9
 v9:=Tryz.zeroValue9
 t22:=Tryz.underlying26
 a22:=Tryz.isAgg26
 z22:=Tryz.sizeOf26
 v22:=Tryz.zeroValue26
 t25:=Tryz.underlying198
 a25:=Tryz.isAgg198
 z25:=Tryz.sizeOf198
 v25:=Tryz.zeroValue198
 t39:=Tryz.underlying163
 a39:=Tryz.isAgg163
 z39:=Tryz.sizeOf163
 v39:=Tryz.zeroValue163
 t45:=Tryz.underlying246
 a45:=Tryz.isAgg246
 z45:=Tryz.sizeOf246
 v45:=Tryz.zeroValue246
 t46:=Tryz.underlying247
 a46:=Tryz.isAgg247
 z46:=Tryz.sizeOf247
 v46:=Tryz.zeroValue247
 t50:=Tryz.underlying251
 a50:=Tryz.isAgg251
 z50:=Tryz.sizeOf251
 v50:=Tryz.zeroValue251
 t53:=Tryz.underlying186
 a53:=Tryz.isAgg186
 z53:=Tryz.sizeOf186
 v53:=Tryz.zeroValue186
 t55:=Tryz.underlying184
 a55:=Tryz.isAgg184
 z55:=Tryz.sizeOf184
 v55:=Tryz.zeroValue184
 t66:=Tryz.underlying268
 a66:=Tryz.isAgg268
 z66:=Tryz.sizeOf268
 v66:=Tryz.zeroValue268
 t70:=Tryz.underlying272
 a70:=Tryz.isAgg272
 z70:=Tryz.sizeOf272
 v70:=Tryz.zeroValue272
 t76:=Tryz.underlying283
 a76:=Tryz.isAgg283
 z76:=Tryz.sizeOf283
 v76:=Tryz.zeroValue283
 t77:=Tryz.underlying284
 a77:=Tryz.isAgg284
 z77:=Tryz.sizeOf284
 v77:=Tryz.zeroValue284 }
def lenL_ren : Go.Shelf.Ren:=⟨fun | 125 => 256 | 128 => 287 | 129 => 288 | n => n,fun | 46 => 163 | 3 => 3 | 51 => 186 | 53 => 184 | 4 => 4 | 5 => 5 | 9 => 9 | n => n,fun | n => n⟩
theorem lenL : Go.Proofs.Lays.n125 Tryz.prog lenL_ren:={
 mixed:=by kernel_rfl
 f125:=Tryz.func256.trans (cgS (by kernel_rfl))
 f128:=Tryz.func287.trans (cgS (by kernel_rfl))
 f129:=Tryz.func288.trans (cgS (by kernel_rfl))
 t3:=Tryz.underlying3
 a3:=Tryz.isAgg3
 z3:=Tryz.sizeOf3
 v3:=Tryz.zeroValue3
 t4:=Tryz.underlying4
 a4:=Tryz.isAgg4
 z4:=Tryz.sizeOf4
 v4:=Tryz.zeroValue4
 t5:=Tryz.underlying5
 a5:=Tryz.isAgg5
 z5:=Tryz.sizeOf5
 v5:=Tryz.zeroValue5
 t9:=Tryz.underlying9
 a9:=Tryz.isAgg9
 z9:=Tryz.sizeOf9
 v9:=Tryz.zeroValue9
 t46:=Tryz.underlying163
 a46:=Tryz.isAgg163
 z46:=Tryz.sizeOf163
 v46:=Tryz.zeroValue163
 t51:=Tryz.underlying186
 a51:=Tryz.isAgg186
 z51:=Tryz.sizeOf186
 v51:=Tryz.zeroValue186
 t53:=Tryz.underlying184
 a53:=Tryz.isAgg184
 z53:=Tryz.sizeOf184
 v53:=Tryz.zeroValue184 }
open Go Go.Mach Go.Flow
set_option maxRecDepth 100000
set_option maxHeartbeats 4000000
def aKL:List V1→Option (List V1)
 |[.agg [.v (.int .i64 (.ofNat a)),.v (.int .i64 (.ofNat b)),.v (.int .i64 (.ofNat c)),.v (.int .i64 (.ofNat d)),_,_,_,_],.agg [.v (.int .i64 (.ofNat a')),.v (.int .i64 (.ofNat b')),.v (.int .i64 (.ofNat c')),.v (.int .i64 (.ofNat d')),_,_,_,_]]=>Z [sV (cmE a' b' c' d' a b c d)]
 |_=>U
def tCl  : Ft:=.n .z 154 (.nat bS) U .z
def aMU   {k:Cls}:tCl.Ok Tryz.prog k aH:=⟨tv,qN,tv,tv⟩
def aEh {a b c d a' b' c' d':Nat}{p q r s p' q' r' s':C}:bM (ao tCl.tb 10 8) 10 aqO.1 [.agg [eC a,eC b,eC c,eC d,p,q,r,s],.agg [eC a',eC b',eC c',eC d',p',q',r',s']]=Z [sV (cmE a' b' c' d' a b c d)]:=by
 have c1:CA (ao tCl.tb 10 8) 154 bS:=fun _ _ _=>rfl
 have e1:=@aby a' b' c' d' a b c d
 generalize ao tCl.tb 10 8=cf at*
 simp(maxSteps:=9^9) only[au,seval,-ac,-ae,aQX,ar,c1,e1]
def aEg {k:Cls}:Cn k 226 aKL:=aC (ay aMU aqO.2 10 10 8) fun al rs h=>by
 unfold aKL at h
 split at h
 ·cases h;exact aEh
 ·cases h
structure Sm where
 m:Mn
 v1:Value
 v2:Value
 v3:Value
 v4:Value
 h1:isCell v1=ab
 h2:isCell v2=ab
 h3:isCell v3=ab
 h4:isCell v4=ab
instance:Inhabited Sm:=⟨⟨⟨0,0,0,0,⟨0,1⟩⟩,.bool aa,.bool aa,.bool aa,.bool aa,rfl,rfl,rfl,rfl⟩⟩
def dz (x:Sm):List Value:=[.int .i64 (af x.m.a),.int .i64 (af x.m.b),.int .i64 (af x.m.c),.int .i64 (af x.m.d),x.v1,x.v2,x.v3,x.v4]
def cfS (x y:Sm):Int:=cmE y.m.a y.m.b y.m.c y.m.d x.m.a x.m.b x.m.c x.m.d
def axX {w w':World}(h:Ext w w'):∃q os',w'=Go.Sort.grow (w.drewN q) os':=by
 refine⟨w'.drawn-w.drawn,w'.heap.extract w.heap.size w'.heap.size,?_⟩
 have hd:=h.dr
 have hs:=h.size
 have hh:w'.heap=w.heap++w'.heap.extract w.heap.size w'.heap.size:=by
  apply Array.ext
  ·simp;omega
  ·intro i h1 h2
   rw[Array.getElem_append]
   split
   ·rename_i hi
    have:=h.block i hi
    rw[aUt h1,aUt hi]at this
    exact Option.some.inj this
   ·rename_i hi
    rw[Array.getElem_extract]
    congr 1
    omega
 obtain⟨hp,tp,dr,os,out⟩:=w
 obtain⟨hp',tp',dr',os',out'⟩:=w'
 have e1:=h.os
 have e2:=h.tape
 have e3:=h.output
 dsimp only at*
 subst e1 e2 e3
 unfold Go.Sort.grow World.drewN
 dsimp only
 rw[World.mk.injEq]
 exact⟨hh,rfl,by omega,rfl,rfl⟩
def as0 (k:Cls)(x y:Sm)(w:World):Calls Tryz.prog 226 #[.agg (dz x).toArray,.agg (dz y).toArray] w fun e w'=>e=.returned (.int .i64 (cfS x y))∧∃q os',w'=Go.Sort.grow (w.drewN q) os':=by
 have rv:∀x:Sm,RV k (fun _=>False) w (.agg [eC x.m.a,eC x.m.b,eC x.m.c,eC x.m.d,.v x.v1,.v x.v2,.v x.v3,.v x.v4]) (.agg (dz x).toArray):=fun x=>by
  refine⟨_,rfl,rfl,fun j d hj=>?_⟩
  match j,hj with
  |0,hj=>cases hj;exact⟨_,rfl,RC.v _ rfl⟩
  |1,hj=>cases hj;exact⟨_,rfl,RC.v _ rfl⟩
  |2,hj=>cases hj;exact⟨_,rfl,RC.v _ rfl⟩
  |3,hj=>cases hj;exact⟨_,rfl,RC.v _ rfl⟩
  |4,hj=>cases hj;exact⟨_,rfl,RC.v _ x.h1⟩
  |5,hj=>cases hj;exact⟨_,rfl,RC.v _ x.h2⟩
  |6,hj=>cases hj;exact⟨_,rfl,RC.v _ x.h3⟩
  |7,hj=>cases hj;exact⟨_,rfl,RC.v _ x.h4⟩
  |j+8,hj=>simp at hj
 refine((aEg (k:=k)).2 [.agg [eC x.m.a,eC x.m.b,eC x.m.c,eC x.m.d,.v x.v1,.v x.v2,.v x.v3,.v x.v4],.agg [eC y.m.a,eC y.m.b,eC y.m.c,eC y.m.d,.v y.v1,.v y.v2,.v y.v3,.v y.v4]] _ rfl (fun _=>False) w [.agg (dz x).toArray,.agg (dz y).toArray] (fun _ h=>h.elim) rfl (fun j a hj=>?_)).mono ?_
 ·match j,hj with
  |0,hj=>cases hj;exact⟨_,rfl,rv x⟩
  |1,hj=>cases hj;exact⟨_,rfl,rv y⟩
  |j+2,hj=>simp at hj
 ·rintro e w' ⟨u,rfl,hx,hu⟩
  have hu':RC k (fun _=>False) w' (.v (.int .i64 (cfS x y))) u:=hu
  cases hu'
  exact⟨rfl,axX hx⟩
def axx (k:Cls)(blk off size:Nat)(w:World):CmpLays Tryz.prog 226 #[] dz 8 cfS blk off size w:=fun m os dk _ x y=>as0 k x y _
def jg (m k:Mn):aZ m k=ab↔k.d<m.d∨(m.d=k.d∧(k.c<m.c∨(m.c=k.c∧(k.b<m.b∨(m.b=k.b∧k.a<m.a))))):=by
 unfold aZ oW
 cases h1:ai m.d k.d with
 |false=>
  have:=Nat.ne_of_beq_eq_false h1
  simp only[aTR]
  omega
 |true=>
  have:=aT1 h1
  cases h2:ai m.c k.c with
  |false=>
   have:=Nat.ne_of_beq_eq_false h2
   simp only[aTR]
   omega
  |true=>
   have:=aT1 h2
   cases h3:ai m.b k.b with
   |false=>
    have:=Nat.ne_of_beq_eq_false h3
    simp only[aTR]
    omega
   |true=>
    have:=aT1 h3
    simp only[aTR]
    omega
def uq (m k:Mn):aZ m k=aa↔¬(k.d<m.d∨(m.d=k.d∧(k.c<m.c∨(m.c=k.c∧(k.b<m.b∨(m.b=k.b∧k.a<m.a)))))):=by
 rw[← jg];cases aZ m k<;>simp
def aJF (m:Mn):aZ m m=aa:=by rw[uq];omega
def ahE {m k l:Mn}(h:aZ m k=ab)(h':aZ k l=ab):aZ m l=ab:=by rw[jg]at *;omega
def amO {m k:Mn}(h:aZ m k=ab):aZ k m=aa:=by rw[jg]at h;rw[uq];omega
def ahL (x y:Sm):ltOf cfS x y=aZ x.m y.m:=by
 unfold ltOf cfS
 rw[aB4]
 cases h:aZ y.m x.m with
 |true=>rw[amO h];rfl
 |false=>cases h2:aZ x.m y.m<;>rfl
def aMQ:Go.Sort.SWO (ltOf cfS) where
 irrefl x:=by rw[ahL];exact aJF _
 trans x y z h1 h2:=by rw[ahL]at *;exact ahE h1 h2
 ntrans x y z h1 h2:=by rw[ahL]at *;rw[uq]at *;omega
def ae4 (m:Mn):List Mn→List Mn
 |[]=>[m]
 |k::r=>match aZ m k with|true=>m::k::r|false=>k::ae4 m r
def cu:List Mn→List Mn
 |[]=>[]
 |m::r=>ae4 m (cu r)
def cx:List Mn→Bool
 |[]=>ab
 |m::r=>match r with|[]=>ab|k::_=>match aZ m k with|true=>cx r|false=>aa
def yr (m:Mn):∀r,(ae4 m r).Perm (m::r)
 |[]=>.refl _
 |k::r=>by
  unfold ae4
  split
  ·exact .refl _
  ·exact((yr m r).cons k).trans (.swap m k r)
def fg:∀r,(cu r).Perm r
 |[]=>.refl _
 |m::r=>(yr m (cu r)).trans ((fg r).cons m)
abbrev Dsc (l:List Mn):Prop:=l.Pairwise fun x y=>aZ x y=ab
def jt:∀{l:List Mn},cx l=ab→Dsc l
 |[],_=>.nil
 |[m],_=>.cons (fun a ha=>by cases ha) .nil
 |m::k::r,h=>by
  unfold cx at h
  split at h
  ·rename_i h1;cases h1
  ·rename_i k' r' e
   cases e
   split at h
   ·rename_i h1
    have ih:=jt h
    refine .cons (fun a ha=>?_) ih
    rcases aTZ.1 ha with rfl|ha
    ·exact h1
    ·exact ahE h1 ((List.pairwise_cons.1 ih).1 a ha)
   ·cases h
def nQ:∀{s t:List Mn},Dsc s→t.Perm s→t.Pairwise (fun x y=>aZ y x=aa)→t=s
 |[],t,_,hp,_=>hp.eq_nil
 |x::s,[],_,hp,_=>absurd hp.symm.eq_nil (by simp)
 |x::s,a::t,hs,hp,ht=>by
  have ha:a=x:=by
   by_cases e:a=x
   ·exact e
   ·have h1:a∈s:=by
     have:=hp.mem_iff.1 (aT0 (a:=a) (l:=t))
     rcases aTZ.1 this with h|h
     ·exact absurd h e
     ·exact h
    have h2:x∈t:=by
     have:=hp.mem_iff.2 (aT0 (a:=x) (l:=s))
     rcases aTZ.1 this with h|h
     ·exact absurd h.symm e
     ·exact h
    have h3:=(List.pairwise_cons.1 hs).1 a h1
    have h4:=(List.pairwise_cons.1 ht).1 x h2
    rw[h3]at h4
    cases h4
  subst ha
  rw[nQ (List.pairwise_cons.1 hs).2 (List.Perm.cons_inv hp) (List.pairwise_cons.1 ht).2]
def arE (k:Cls)(blk cap:Nat)(d:Array Sm)(w:World)(hH:Go.Sort.HoldsK dz 8 w blk 0 d)(hblk:blk<w.heap.size)(hsz:d.size<4611686018427387904):
  Calls Tryz.prog 225 #[.slice (Z ⟨blk,0,U⟩) d.size cap,.func (.func 226) #[] #[]] w fun e w'=>
   e=.returned (.tuple #[])∧∃d' n os,Go.Sort.PermIn 0 d.size d d'∧Go.Sort.SortedIn (ltOf cfS) 0 d.size d'∧w'=sortWorldK dz 8 w blk 0 n d' os:=by
 have eg:∀args w,(callFunc 226 args).run Tryz.prog w=.ok (.enter 226 args) w:=enters_of Tryz.func226 (by kernel_rfl) rfl
 have e8:∀x:Sm,(dz x).length=8:=fun _=>rfl
 have o8:∀x:Sm,∀v∈dz x,v.oneCell'=ab:=fun x v hv=>by
  unfold dz at hv
  simp only[aTZ,List.not_mem_nil,or_false]at hv
  rcases hv with rfl|rfl|rfl|rfl|rfl|rfl|rfl|rfl
  ·rfl
  ·rfl
  ·rfl
  ·rfl
  ·exact x.h1
  ·exact x.h2
  ·exact x.h3
  ·exact x.h4
 have hlim:Lib.bitLen d.size<4611686018427387904:=aUh (Lib.bitLen_le d.size 62 (by omega) (by omega)) (by omega)
 have hp:=AnyQ.pdqsortCmpFunc_all sortL 8 Tryz.isAgg94 Tryz.sizeOf94 dz cfS 226 #[] aMQ blk 0 cap d w eg (axx k blk 0 d.size w) ⟨e8,o8,hH,hblk⟩ (d.size+1) 0 d.size (Lib.bitLen d.size) d w (by omega) rfl (SWK.start hH) (Nat.zero_le _) (aTS _) hsz hlim (Or.inl rfl)
 change Calls Tryz.prog 255 _ _ _ at hp
 have hl:Calls Tryz.prog 256 #[.int .u64 (d.size:Int)] w fun e w'=>e=.returned (.int .i64 (Lib.bitLen d.size:Nat))∧w'=w:=by
  have h:=Any.bits_Len lenL (d.size:Int) w (by omega) (by omega)
  rwa [Int.toNat_natCast]at h
 have wr:IntKind.u64.wrap (d.size:Int)=d.size:=by simp[IntKind.wrap,IntKind.bits,IntKind.signed];omega
 have fin:=Go.Sort.pdq_sorts (ltOf cfS) aMQ d 0 d.size (Lib.bitLen d.size) ab ab (Nat.zero_le _) (aTS _) (Or.inl rfl)
 clear hH
 go_enter Tryz.func225,Tryz.ntmps225
 go_wp2_with (first|(go_at_call 256;refine hl.mono ?_;rintro e w' ⟨rfl,rfl⟩)|(go_at_call 255;refine hp.mono ?_;rintro e w' ⟨rfl,n,os,rfl⟩))
 go_end0
 exact⟨rfl,_,n,os,fin.1,fin.2,rfl⟩
def RC.cell {k:Cls}{F:Nat→Prop}{w:World}{c:C}{u:Value}(h:RC k F w c u):isCell u=ab:=by
 cases h with
 |v x hx=>exact hx
 |vec l x h hx=>exact hx
 |_=>rfl
def sW:kU:=fun al H S=>
 match al with
 |[.t (.one (.lsl b 0 n 8)),.t (.one (.c (.v (.func (.func g) ⟨[]⟩ ⟨[]⟩))))]=>
  (match ai g 226,fL b S,H[b]? with
   |true,ab,Z (Z (.cells ds))=>(match mK (ds.take (n*8))with
    |some cs=>(match dP cs with
     |some r=>(match ai r.length n&&ah n 10000000,cx (cu r)with
      |true,ab=>Z (.nil,H.set b (Z (.cells (pD (cu r)++ds.drop (n*8)))),S,[b])
      |_,_=>U)
     |none=>U)
    |none=>U)
   |_,_,_=>U)
 |_=>U
def Cf (k:Cls)(F:Nat→Prop)(w:World)(x:Sm):Prop:=
 RC k F w (.v (.bool (aw x.m.q.n))) x.v1∧RC k F w (.big (ap x.m.q.n)) x.v2∧RC k F w (.v (.bool aa)) x.v3∧RC k F w (.big x.m.q.d) x.v4
def avF (p:List Mn){i:Nat}{m:Mn}(h:p[i]?=Z m)(j:Nat)(hj:j<8):(pD p)[i*8+j]?=(mD m)[j]?:=by
 have hd:p.drop i=m::p.drop (i+1):=by
  obtain⟨hi,e⟩:=aTU.1 h
  rw[← e];exact List.drop_eq_getElem_cons hi
 have:=bW hd
 have e:(pD p)[i*8+j]?=((pD p).drop (i*8))[j]?:=by rw[List.getElem?_drop]
 have e2:(pD p).drop (i*8)=mD m++pD (p.drop (i+1)):=by
  unfold pD
  rw[← List.map_drop,this]
  rfl
 rw[e,e2,aUs (by simp;omega)]
def aJg {k:Cls}{F:Nat→Prop}{φ:Nat→Option Nat}{w:World}{x:Sm}(h:Cf k F w x){j:Nat}{d:D}(hd:(mD x.m)[j]?=Z d):∃u,(dz x)[j]?=Z u∧RD k F φ w d u:=by
 match j,hd with
 |0,hd=>cases hd;exact⟨_,rfl,RC.v _ rfl⟩
 |1,hd=>cases hd;exact⟨_,rfl,RC.v _ rfl⟩
 |2,hd=>cases hd;exact⟨_,rfl,RC.v _ rfl⟩
 |3,hd=>cases hd;exact⟨_,rfl,RC.v _ rfl⟩
 |4,hd=>cases hd;exact⟨_,rfl,h.1⟩
 |5,hd=>cases hd;exact⟨_,rfl,h.2.1⟩
 |6,hd=>cases hd;exact⟨_,rfl,h.2.2.1⟩
 |7,hd=>cases hd;exact⟨_,rfl,h.2.2.2⟩
 |j+8,hd=>simp at hd
def aJf {k:Cls}{F:Nat→Prop}{φ:Nat→Option Nat}{w:World}{vs:Array Value}{o:Nat}{m:Mn}(h:∀j d,(mD m)[j]?=Z d→∃u,vs[o+j]?=Z u∧RD k F φ w d u):∃x:Sm,x.m=m∧Cf k F w x∧∀j,j<8→vs[o+j]?=(dz x)[j]?:=by
 obtain⟨u0,h0,r0⟩:=h 0 _ rfl
 obtain⟨u1,h1,r1⟩:=h 1 _ rfl
 obtain⟨u2,h2,r2⟩:=h 2 _ rfl
 obtain⟨u3,h3,r3⟩:=h 3 _ rfl
 obtain⟨u4,h4,r4⟩:=h 4 _ rfl
 obtain⟨u5,h5,r5⟩:=h 5 _ rfl
 obtain⟨u6,h6,r6⟩:=h 6 _ rfl
 obtain⟨u7,h7,r7⟩:=h 7 _ rfl
 have e0:RC k F w (eC m.a) u0:=r0
 have e1:RC k F w (eC m.b) u1:=r1
 have e2:RC k F w (eC m.c) u2:=r2
 have e3:RC k F w (eC m.d) u3:=r3
 cases e0;cases e1;cases e2;cases e3
 have e4:RC k F w _ u4:=r4
 have e5:RC k F w _ u5:=r5
 have e6:RC k F w _ u6:=r6
 have e7:RC k F w _ u7:=r7
 refine⟨⟨m,u4,u5,u6,u7,RC.cell e4,RC.cell e5,RC.cell e6,RC.cell e7⟩,rfl,⟨e4,e5,e6,e7⟩,fun j hj=>?_⟩
 match j,hj with
 |0,_=>exact h0
 |1,_=>exact h1
 |2,_=>exact h2
 |3,_=>exact h3
 |4,_=>exact h4
 |5,_=>exact h5
 |6,_=>exact h6
 |7,_=>exact h7
 |j+8,hj=>omega
def aFX {d d':Array Sm}(h:Go.Sort.PermIn 0 d.size d d'):d'.toList.Perm d.toList:=by
 obtain⟨h1,_,h3⟩:=h
 have e1:d.extract 0 d.size=d:=by simp
 have e2:d'.extract 0 d.size=d':=by rw[← h1];simp
 rw[e1,e2]at h3
 exact h3
def aFW {d d':Array Sm}(hs:d'.size=d.size)(h:Go.Sort.SortedIn (ltOf cfS) 0 d.size d'):(d'.toList.map (·.m)).Pairwise (fun x y=>aZ y x=aa):=by
 rw[List.pairwise_map,List.pairwise_iff_getElem]
 intro i j hi hj hij
 have hj':j<d'.size:=by simpa using hj
 have hi':i<d'.size:=by simpa using hi
 have:=h i j (Nat.zero_le _) hij (by omega)
 rw[ahL,getElem!_pos d' j hj',getElem!_pos d' i hi']at this
 simpa using this
def akx {w:World}{m x:Nat}{d:Array Sm}{vs:Array Value}{t:TypeId}(h:w.heap[x]?=Z (.cells vs t (0,0))):(Go.Sort.putRowK dz 8 (Go.Sort.ahead w m) x 0 d).heap[x]?=Z (.cells (Go.Sort.putCells id 0 (Go.Sort.flatK dz 8 d) vs) t (0,0)):=by
 show(w.heap.modify x (Go.Sort.onCells _))[x]?=_
 rw[Array.getElem?_modify,if_pos rfl,h]
 rfl
def zA {w:World}{m x z:Nat}{d:Array Sm}(h:z≠x):(Go.Sort.putRowK dz 8 (Go.Sort.ahead w m) x 0 d).heap[z]?=w.heap[z]?:=by
 show(w.heap.modify x (Go.Sort.onCells _))[z]?=_
 rw[Array.getElem?_modify,if_neg (fun e=>h e.symm)]
def anB {d:Array Sm}{vs:Array Value}(hs:d.size*8≤vs.size){j:Nat}(hj:j<vs.size):(Go.Sort.putCells id 0 (Go.Sort.flatK dz 8 d) vs)[j]?=Z (if j<d.size*8 then (dz d[j/8]!)[j%8]! else vs[j]):=by
 unfold Go.Sort.putCells
 rw[Array.getElem?_mapIdx,aUt hj]
 show Z _=_
 congr 1
 show(if 0≤j∧j<0+(Go.Sort.flatK dz 8 d).size then id (Go.Sort.flatK dz 8 d)[j-0]! else vs[j])=_
 by_cases h:j<d.size*8
 ·rw[if_pos h,if_pos ⟨Nat.zero_le _,by rw[Go.Sort.size_flatK];omega⟩,Nat.sub_zero,Go.Sort.get_flatK _ _ _ _ h]
  rfl
 ·rw[if_neg h,if_neg (by rw[Go.Sort.size_flatK];omega)]
def amC (x:Sm){j:Nat}(hj:j<8):(dz x)[j]?=Z ((dz x)[j]!):=by
 match j,hj with
 |0,_=>rfl
 |1,_=>rfl
 |2,_=>rfl
 |3,_=>rfl
 |4,_=>rfl
 |5,_=>rfl
 |6,_=>rfl
 |7,_=>rfl
 |j+8,hj=>omega
def awv {k:Cls}:CX k 225 sW:=by
 refine⟨⟨_,Tryz.func225,by kernel_rfl,by kernel_rfl⟩,fun al H S y H' S' W h=>?_⟩
 unfold sW at h
 split at h
 rotate_left
 ·cases h
 rename_i b n g
 split at h
 rotate_left
 ·cases h
 rename_i ds hg hbS hHb
 have hbS:=wz.1 hbS
 split at h
 rotate_left
 ·cases h
 rename_i cs hcs
 split at h
 rotate_left
 ·cases h
 rename_i r hr
 split at h
 rotate_left
 ·cases h
 rename_i hn hsrt
 simp only[Option.some.injEq,Prod.mk.injEq]at h
 obtain⟨rfl,rfl,rfl,rfl⟩:=h
 rw[aTT,aTR]at hn
 have hrn:=aT1 hn.1
 have hg:=aT1 hg
 subst hg
 obtain⟨rfl,_⟩:=ao6 _ _ hr
 have htk:ds.take (n*8)=pD r:=aly hcs
 subst hrn
 have hle:r.length*8≤ds.length:=ni htk
 refine⟨⟨by simp,fun c _ hW=>aUn (fun e=>hW (by subst e;simp))⟩,fun F0 N φ w us hH hN hl hrt=>?_⟩
 match us,hl with
 |[u0,u1],_=>
  obtain⟨v0,hv0,r0⟩:=hrt 0 _ rfl
  obtain⟨v1,hv1,r1⟩:=hrt 1 _ rfl
  simp only[List.getElem?_cons_zero,List.getElem?_cons_succ,Option.some.injEq]at hv0 hv1
  subst hv0 hv1
  obtain⟨x,cap,hx,rfl,hcap,_⟩:=r0
  have r1:RC k _ w (.v (.func (.func 226) ⟨[]⟩ ⟨[]⟩)) u1:=r1
  cases r1
  obtain⟨hNx,vs,t,hw,hsz,hcell,ht⟩:=hH.at_ b _ x hHb hx
  have hxl:=dn hw
  have key:∀i:Nat,∃s:Sm,∀m,r[i]?=Z m→s.m=m∧Cf k (Fo F0 φ H S) w s∧∀j,j<8→vs[i*8+j]?=(dz s)[j]?:=by
   intro i
   cases hi:r[i]? with
   |none=>exact⟨default,fun m hm=>by cases hm⟩
   |some m=>
    have hil:=(aTU.1 hi).1
    obtain⟨s,a1,a2,a3⟩:=aJf (vs:=vs) (o:=i*8) (m:=m) fun j d hd=>by
     have hj:j<8:=(aTU.1 hd).1
     have h1:=avF r hi j hj
     rw[hd,← htk,List.getElem?_take,if_pos (by omega)]at h1
     exact hcell _ _ h1
    exact⟨s,fun m' hm=>by cases hm;exact⟨a1,a2,a3⟩⟩
  obtain⟨f,hf⟩:∃f:Nat→Sm,∀i m,r[i]?=Z m→(f i).m=m∧Cf k (Fo F0 φ H S) w (f i)∧∀j,j<8→vs[i*8+j]?=(dz (f i))[j]?:=⟨fun i=>(key i).choose,fun i=>(key i).choose_spec⟩
  obtain⟨d,hdd⟩:∃d:Array Sm,d=(Array.range r.length).map f:=⟨_,rfl⟩
  have hds:d.size=r.length:=by simp[hdd]
  have hdg:∀i,i<r.length→d[i]! = f i:=fun i hi=>by
   rw[getElem!_pos d i (by omega)];simp[hdd]
  have hdl:d.toList.map (·.m)=r:=by
   apply List.ext_getElem?
   intro i
   rw[aUm]
   by_cases hi:i<r.length
   ·have h1:=(hf i r[i] (aTX hi)).1
    have:d.toList[i]?=Z (f i):=by
     rw[Array.getElem?_toList,aUt (by omega)]
     simp[hdd]
    rw[this,aTX hi,← h1];rfl
   ·have h1:d.toList[i]?=U:=List.getElem?_eq_none (by rw[Array.length_toList];omega)
    have h2:r[i]?=U:=List.getElem?_eq_none (by omega)
    rw[h1,h2];rfl
  have hCf:∀s∈d.toList,Cf k (Fo F0 φ H S) w s:=fun s hs=>by
   obtain⟨i,hi,e⟩:=List.getElem_of_mem hs
   have hi':i<r.length:=by simpa [hdd]using hi
   have:s=f i:=by rw[← e];simp[hdd]
   rw[this]
   exact(hf i r[i] (aTX hi')).2.1
  have hHolds:Go.Sort.HoldsK dz 8 w x 0 d:=by
   intro j hj
   rw[Go.Sort.size_flatK,hds]at hj
   have hi:j/8<r.length:=by omega
   have hm8:j%8<8:=aUb _ (by omega)
   have h1:=(hf (j/8) r[j/8] (aTX hi)).2.2 (j%8) hm8
   have e:j/8*8+j%8=j:=by omega
   rw[e]at h1
   refine⟨?_,?_⟩
   ·rw[Go.Sort.get_flatK _ _ _ _ (by rw[hds];exact hj),hdg _ hi,aUe]
    simp only[World.cell?,hw]
    rw[h1,amC _ hm8];rfl
   ·simp[World.frozen?,hw]
  have hc:=arE k x cap d w hHolds hxl (by omega)
  rw[hds]at hc
  refine hc.mono ?_
  rintro e w' ⟨rfl,d',m,os,hp,hso,rfl⟩
  rw[← hds]at hp hso
  have hd's:d'.size=d.size:=hp.1
  have hperm:=aFX hp
  have hs:d'.toList.map (·.m)=cu r:=nQ (jt hsrt) ((hperm.map _).trans (by rw[hdl];exact(fg r).symm)) (aFW hd's hso)
  have hCf':∀s∈d'.toList,Cf k (Fo F0 φ H S) w s:=fun s h=>hCf s (hperm.mem_iff.1 h)
  have hsl:(cu r).length=r.length:=(fg r).length_eq
  have hvs:d'.size*8≤vs.size:=by rw[hd's,hds];exact aUd hle hsz
  clear hdd
  have psz:(Go.Sort.putCells id 0 (Go.Sort.flatK dz 8 d') vs).size=vs.size:=Array.size_mapIdx
  obtain⟨g1,g2⟩:=hH.turn hHb hbS hx (y':=.cells (pD (cu r)++ds.drop (r.length*8))) (w':=Go.Sort.putRowK dz 8 (Go.Sort.ahead w m) x 0 d') (Go.Sort.size_putRowK ..) (fun z hz=>zA hz) (fun vs' t' fr' hc=>by
    rw[hw]at hc
    cases hc
    exact⟨_,akx hw,psz⟩) (fun q=>by
    refine⟨_,t,akx hw,?_,fun j dd hj=>?_,ht⟩
    ·rw[psz,aTW,gY,List.length_drop];omega
    ·rw[List.getElem?_append]at hj
     split at hj
     ·rename_i hjl
      rw[gY,hsl]at hjl
      have hi:j/8<d'.size:=by omega
      have hm8:j%8<8:=aUb _ (by omega)
      have e:j/8*8+j%8=j:=by omega
      have hsm:(cu r)[j/8]?=Z (d'[j/8]!).m:=by
       rw[← hs,aUm,Array.getElem?_toList,aUt hi,getElem!_pos d' _ hi];rfl
      have h2:=avF (cu r) hsm (j%8) hm8
      rw[e,hj]at h2
      have hmem:d'[j/8]! ∈ d'.toList:=by rw[getElem!_pos d' _ hi];exact Array.getElem_mem_toList hi
      obtain⟨u,hu,hru⟩:=aJg (φ:=φ) (hCf' _ hmem) h2.symm
      refine⟨u,?_,RD.kp q hru⟩
      rw[anB hvs (by omega),if_pos (by omega)]
      rw[amC _ hm8]at hu
      exact hu
     ·rename_i hjl
      rw[gY,hsl]at hj hjl
      rw[List.getElem?_drop]at hj
      have e:r.length*8+(j-r.length*8)=j:=by omega
      rw[e]at hj
      obtain⟨u,hu,hru⟩:=hcell j dd hj
      have hjv:j<vs.size:=(Array.getElem?_eq_some_iff.1 hu).1
      refine⟨u,?_,RD.kp q hru⟩
      rw[anB hvs hjv,if_neg (by omega)]
      rw[aUt hjv]at hu
      exact hu)
  have t1:Tr k aH F0 N φ w H S φ (Go.Sort.putRowK dz 8 (Go.Sort.ahead w m) x 0 d') (H.set b (Z (.cells (pD (cu r)++ds.drop (r.length*8))))) S:=
   ⟨⟨rfl,rfl,rfl,Nat.le_of_eq (Go.Sort.size_putRowK ..).symm,fun z hz=>zA (by omega),Nat.le_add_right _ _⟩,g1,g2,fun _ _=>rfl,fun z _ hz=>zA fun e=>hz b _ hHb hbS (e▸hx),by simp⟩
  have t2:Tr k aH F0 N φ (Go.Sort.putRowK dz 8 (Go.Sort.ahead w m) x 0 d') (H.set b (Z (.cells (pD (cu r)++ds.drop (r.length*8))))) S φ (sortWorldK dz 8 w x 0 m d' os) (H.set b (Z (.cells (pD (cu r)++ds.drop (r.length*8))))) S:=
   Tr.of_ext g1 (aUd hN t1.below.size) ⟨rfl,rfl,rfl,by unfold sortWorldK;rw[Go.Sort.size_grow];omega,fun z hz=>by
    unfold sortWorldK Go.Sort.grow
    show(_++os)[z]?=_
    rw[Array.getElem?_append_left hz],aTS _⟩
  exact⟨_,rfl,(t1.trans t2).post trivial⟩
def coA (c:CC):CC:=match c with|.seq a _=>a|_=>.skip
def oV (c:CC):CC:=match c with|.seq _ b=>b|_=>.skip
def coL (c:CC):CC:=match c with|.block _ (.loop b)=>b|_=>.skip
def coK (c:CC):CC:=match c with|.block _ b=>b|_=>.skip
def qCo:Col:=⟨ng.1.nk,ng.1.pin,coA ng.1.code,coA (oV ng.1.code),coA (coA (oV (oV ng.1.code))),coK (oV (oV (coL (oV (coA (oV (oV ng.1.code))))))),oV (oV (oV ng.1.code)),ng.1.res,3,4⟩
def aiH (b o:Nat):kV (.t (.one (.ptr b o)))=[b]:=rfl
def gW {n b:Nat}{r:List Nat}(h:n≤b)(hr:ff n r=ab):ff n (b::r)=ab:=by
 unfold ff
 rw[if_neg (by rw[aTR];omega)]
 exact hr
def agX {n:Nat}:∀{l r:List Nat},ff n l=ab→ff n r=ab→ff n (l++r)=ab
 |[],_,_,hr=>hr
 |b::l,r,h,hr=>by
  unfold ff at h
  split at h
  ·cases h
  ·rename_i hb
   exact gW (by rw[aTR]at hb;omega) (agX h hr)
def axo {n:Nat}{H:Hp}{y:T}{r:List Mn}(h:GotP n H y r):ff n (kV y)=ab:=by
 rcases h.2 with⟨rfl|rfl,_⟩|⟨b,ds,hb,rfl,_⟩
 ·rfl
 ·rfl
 ·exact gW hb rfl
def GotP.keepX {n:Nat}{H:Hp}{y:T}{r:List Mn}(h:GotP n H y r)(m:Mn){i:Nat}{z:Option Blk}(hz:H[i]?=Z z)(hne:∀ds,z≠Z (.cells ds)):(lw H y r m)[i]?=Z z:=by
 have hk:=dV y H
 have hi:=(aTU.1 hz).1
 unfold lw
 rw[aUs (by omega)]
 rcases h.2 with⟨rfl|rfl,_⟩|⟨b,ds,hb,rfl,hb',_⟩
 ·exact hz
 ·exact hz
 ·show(H.set b U)[i]?=_
  rw[aUn (by intro e;subst e;rw[hz]at hb';exact hne ds (Option.some.inj hb')),hz]
abbrev b7 (b:Nat):T:=.t (.one (.mp b))
abbrev bj (b:Bool):T:=.t (.one (.c (.v (.bool b))))
def aOg {N0 it b:Nat}{r:List Mn}{m:Mn}{sg:Int}{t0 t1 y t5:T}{H:Hp}{W:List Nat}{cf:av}(hr:r.length<100000000)(hG:GotP N0 H y r)
  (e0:pe H (.t (.one (.ptr it 0)))=Z (.tup [.agg [.c (eC m.a),.c (eC m.b),.c (eC m.c),.c (eC m.d)],.agg (qD m.q)]))(e2:bn [eQ m.q]=Z [sV sg])(z:(sg != af 0)=ab)
  (c1:CA cf 151 aY)(c2:CA cf 153 bn)(fl:Nat):
  ∃t0' t1' t5' x1 x2 W',am cf fl qCo.BD ⟨[t0,t1,y,.t (.one (.ptr it 0)),bj ab,t5,b7 b,aR],H,[],W,[]⟩=Z (.normal,⟨[t0',t1',apT (H++[x1]++[x2]) r,.t (.one (.ptr it 0)),bj ab,t5',b7 b,aR],lw (H++[x1]++[x2]) y r m,[],W',[]⟩)∧(ff N0 W=ab→ff N0 W'=ab):=by
 have gG:∀(H':Hp),GotP N0 H' y r→∀x,GotP N0 (H'++[x]) y r:=fun H' h x=>h.snoc x
 have hA:=fun(H':Hp) (x':T) (hx:ch H' 8 x'=Z (1,mD m)) (h:GotP N0 H' y r)=>dS hr m x' H' hx h
 have e1:aY [eV m.a m.b m.c m.d]=Z [bV ab]:=rfl
 have hn:N0≤H.length:=hG.1
 have hb:=axo hG
 simp(maxSteps:=9^9) (maxDischargeDepth:=6) only[o3,seval,-ac,-ae,qCo,coA,oV,coL,coK,ah7,asc,ar,c1,c2,e0,e1,e2,z,hG,gG,hA,bk,bx,l6,nC,v8,aa4,aiH,kR]
 exact⟨_,_,_,_,_,_,rfl,fun h=>agX hb (gW (by omega) (gW (by omega) h))⟩
def aEl {N0 it b:Nat}{r:List Mn}{m:Mn}{sg:Int}{t0 t1 y t5:T}{H:Hp}{W:List Nat}{cf:av}(hG:GotP N0 H y r)
  (e0:pe H (.t (.one (.ptr it 0)))=Z (.tup [.agg [.c (eC m.a),.c (eC m.b),.c (eC m.c),.c (eC m.d)],.agg (qD m.q)]))(e2:bn [eQ m.q]=Z [sV sg])(z:(sg != af 0)=aa)
  (c1:CA cf 151 aY)(c2:CA cf 153 bn)(fl:Nat):
  ∃t0' t1' t5' x1 x2 W',am cf fl qCo.BD ⟨[t0,t1,y,.t (.one (.ptr it 0)),bj ab,t5,b7 b,aR],H,[],W,[]⟩=Z (.normal,⟨[t0',t1',y,.t (.one (.ptr it 0)),bj ab,t5',b7 b,aR],H++[x1]++[x2],[],W',[]⟩)∧(ff N0 W=ab→ff N0 W'=ab):=by
 have e1:aY [eV m.a m.b m.c m.d]=Z [bV ab]:=rfl
 have hn:N0≤H.length:=hG.1
 simp(maxSteps:=9^9) (maxDischargeDepth:=6) only[o3,seval,-ac,-ae,qCo,coA,oV,coL,coK,ah7,asc,ar,c1,c2,e0,e1,e2,z,bk,bx,l6,nC,v8,aa4,aiH,kR]
 exact⟨_,_,_,_,_,_,rfl,fun h=>gW (by omega) (gW (by omega) h)⟩
def fA:List Mn→List Mn
 |[]=>[]
 |m::p=>match co m.q.n 0 with|true=>fA p|false=>m::fA p
def i6:∀l,fA l=l.filter fun m=>!(co m.q.n 0)
 |[]=>rfl
 |m::l=>by
  unfold fA
  rw[List.filter_cons,i6 l]
  cases co m.q.n 0<;>rfl
def acn {l l':List Mn}(h:l.Perm l'):(fA l).Perm (fA l'):=by rw[i6,i6];exact h.filter _
def ann {m:Mn}{l:List Mn}(h:m∈fA l):m∈l:=by rw[i6]at h;exact(List.mem_filter.1 h).1
def anm (l:List Mn):(fA l).length≤l.length:=by rw[i6];exact List.length_filter_le _ _
abbrev Wk (l:List Mn):Prop:=l.Pairwise fun x y=>aZ y x=aa
def agF (m:Mn):∀{l:List Mn},Wk l→Wk (ae4 m l)
 |[],_=>.cons (fun a ha=>by cases ha) .nil
 |k::r,h=>by
  have hk:=List.pairwise_cons.1 h
  unfold ae4
  split
  ·rename_i h1
   refine .cons (fun a ha=>?_) h
   rcases aTZ.1 ha with rfl|ha
   ·exact amO h1
   ·have:=hk.1 a ha
    rw[uq]at*
    rw[jg]at h1
    omega
  ·rename_i h1
   refine .cons (fun a ha=>?_) (agF m hk.2)
   rcases aTZ.1 ((yr m r).mem_iff.1 ha)with rfl|ha
   ·exact h1
   ·exact hk.1 a ha
def pH:∀r,Wk (cu r)
 |[]=>.nil
 |m::r=>agF m (pH r)
def aBj {r r':List Mn}(h:r.Perm r')(hs:cx (cu r')=ab):cu r=cu r':=
 nQ (jt hs) ((fg r).trans (h.trans (fg r').symm)) (pH r)
def awX:∀p:List Mn,mK (pD p)=Z (pL p)
 |[]=>rfl
 |m::p=>by
  have:=awX p
  unfold pD at this ⊢
  rw[dH]
  simp only[List.map_cons,mK,this,Option.map_some]
def arD {n:Nat}{H:Hp}{r S:List Mn}{b0:Nat}(hG:GotP n H (.t (.one (.lsl b0 0 r.length 8))) r)(ho:cK r)(hl:r.length<10000000)(hS:cu r=S)(hs:cx S=ab):
  ∃H',sW [.t (.one (.lsl b0 0 r.length 8)),fT 226] H []=Z (.nil,H',[],[b0])∧GotP n H' (.t (.one (.lsl b0 0 r.length 8))) S∧H'.length=H.length∧n≤b0:=by
 rcases hG.2 with⟨h|h,_⟩|⟨b,ds,hb,hy,hb',hd⟩
 ·cases h
 ·cases h
 ·injection hy with hy;injection hy with hy;injection hy with hy
  subst hy
  subst hS
  have h1:(ai r.length r.length&&ah r.length 10000000)=ab:=by rw[aTT,aTR];exact⟨Nat.beq_refl _,hl⟩
  have h2:ai 226 226=ab:=rfl
  have hsl:(cu r).length=r.length:=(fg r).length_eq
  refine⟨H.set b0 (Z (.cells (pD (cu r)++ds.drop (r.length*8)))),by simp only[sW,h2,fL,hb',hd,awX,axD r ho,h1,hs],⟨by rw[List.length_set];exact hG.1,.inr ⟨_,_,hb,by rw[hsl],by rw[List.getElem?_set_self (aTU.1 hb').1],?_⟩⟩,List.length_set,hb⟩
  rw[← gY,List.take_left]
def GotP.setX {n:Nat}{H:Hp}{y:T}{r:List Mn}(h:GotP n H y r){i:Nat}{z:Option Blk}(hz:H[i]?=Z z)(hne:∀ds,z≠Z (.cells ds))(z':Option Blk):GotP n (H.set i z') y r:=by
 refine⟨by rw[List.length_set];exact h.1,?_⟩
 rcases h.2 with h|⟨b,ds,hb,hy,hb',hd⟩
 ·exact .inl h
 ·exact .inr ⟨b,ds,hb,hy,by rw[aUn (by intro e;subst e;rw[hz]at hb';exact hne ds (Option.some.inj hb'))];exact hb',hd⟩
def fv (m:Mn):List Int × List D:=([af m.a,af m.b,af m.c,af m.d],qD m.q)
def atR (ts:List Mn)(ρ:List Nat):List Mn:=ρ.filterMap fun j=>ts[j]?
structure CoI (ts:List Mn) (N0 it b:Nat) (ks:List Nat) (r:List Mn) (y:T) (H:Hp) (W:List Nat):Prop where
 got:GotP N0 H y r
 lsl:∃b0,y=.t (.one (.lsl b0 0 r.length 8))
 hit:H[it]?=Z (Z (.it b ts.length ks))
 hb:H[b]?=Z (Z (.mp (ts.map fv)))
 ne:it≠b
 w:ff N0 W=ab
 len:H.length=N0+2+2*ks.length+r.length
def adL:∀(ks:List Nat) (j:Nat),dW (ks++[j])=Z j
 |[],j=>rfl
 |[k],j=>rfl
 |k::k'::r,j=>by
  have:=adL (k'::r) j
  show dW (k'::(r++[j]))=_
  exact this
def abo:∀l,kw l l=ab
 |[]=>rfl
 |x::l=>by unfold kw;rw[Nat.beq_refl];exact abo l
def abP {ts:List Mn}{N0 it b:Nat}{ks:List Nat}{r:List Mn}{y:T}{H:Hp}{W:List Nat}(h:CoI ts N0 it b ks r y H W)(t0 t1 t4 t5:T):rq ⟨[t0,t1,y,.t (.one (.ptr it 0)),t4,t5,b7 b,aR],H,[],W,[]⟩ 3 it b ts.length ks=ab:=by
 unfold rq
 simp only[ce,h.hit,h.hb,Nat.beq_refl,abo,List.elem_nil,Bool.not_false,Bool.and_self,List.length_map]
def aEk {ts:List Mn}(hok:cK ts)(hl:ts.length<10000000){N0 it b:Nat}(hN:N0≤it){cf:av}(c1:CA cf 151 aY)(c2:CA cf 153 bn)(fl:Nat):
  ∀(ρ ks:List Nat) (r:List Mn) (t0 t1 t4 t5 y:T) (H:Hp) (W:List Nat),(∀j∈ρ,j<ts.length)→r.length+ρ.length<20000000→CoI ts N0 it b ks r y H W→
   ∃t0' t1' t5' y' H' W' r',fF cf fl qCo.BD 3 4 it b ts.length ρ ks ⟨[t0,t1,y,.t (.one (.ptr it 0)),t4,t5,b7 b,aR],H,[],W,[]⟩=Z ⟨[t0',t1',y',.t (.one (.ptr it 0)),bj aa,t5',b7 b,aR],H',[],W',[]⟩∧r'=r++fA (atR ts ρ)∧CoI ts N0 it b (ks++ρ) r' y' H' W':=by
 intro ρ
 induction ρ with
 |nil=>
  intro ks r t0 t1 t4 t5 y H W hj hrl hI
  exact⟨t0,t1,t5,y,H,W,r,rfl,by simp[atR,fA],by rw[List.append_nil];exact hI⟩
 |cons j ρ ih=>
  intro ks r t0 t1 t4 t5 y H W hj hrl hI
  have hjl:=hj j aT0
  obtain⟨m,hm⟩:∃m,ts[j]?=Z m:=⟨_,aTX hjl⟩
  have om:=hok m (List.mem_of_getElem? hm)
  have hitl:=(aTU.1 hI.hit).1
  have g1:=hI.got.setX hI.hit (by simp) (Z (.it b ts.length (ks++[j])))
  have hit1:(H.set it (Z (.it b ts.length (ks++[j]))))[it]?=Z (Z (.it b ts.length (ks++[j]))):=by rw[List.getElem?_set_self hitl]
  have hb1:(H.set it (Z (.it b ts.length (ks++[j]))))[b]?=Z (Z (.mp (ts.map fv))):=by rw[aUn hI.ne];exact hI.hb
  have e0:pe (H.set it (Z (.it b ts.length (ks++[j])))) (.t (.one (.ptr it 0)))=Z (.tup [.agg [.c (eC m.a),.c (eC m.b),.c (eC m.c),.c (eC m.d)],.agg (qD m.q)]):=by
   have hme:(ts.map fv)[j]?=Z (fv m):=by rw[aUm,hm];rfl
   simp only[pe,hit1,adL,hb1,List.length_map,Nat.beq_refl,↓reduceIte,hme]
   rfl
  have w1:ff N0 (it::W)=ab:=gW hN hI.w
  have hat:atR ts (j::ρ)=m::atR ts ρ:=by unfold atR;rw[List.filterMap_cons,hm]
  have e2:=u9 om.q
  have hks:(ks++[j])++ρ=ks++j::ρ:=by simp
  rw[aTV]at hrl
  cases hz:co m.q.n 0 with
  |true=>
   obtain⟨t0',t1',t5',x1,x2,W',e,hW⟩:=aEl (b:=b) (t0:=t0) (t1:=t1) (t5:=t5) (W:=it::W) g1 e0 e2 (by rw[gp hz];rfl) c1 c2 fl
   have hI':CoI ts N0 it b (ks++[j]) r y (H.set it (Z (.it b ts.length (ks++[j])))++[x1]++[x2]) W':=⟨(g1.snoc _).snoc _,hI.lsl,fU (fU hit1 _) _,fU (fU hb1 _) _,hI.ne,hW w1,by
    have:=hI.len
    simp only[aTW,List.length_set,aTV,aUf]
    omega⟩
   obtain⟨u0,u1,u5,y',H',W'',r',e',hr',hI''⟩:=ih (ks++[j]) r t0' t1' (bj ab) t5' y _ W' (fun x hx=>hj x (aT8 _ hx)) (by omega) hI'
   refine⟨u0,u1,u5,y',H',W'',r',?_,?_,by rw[← hks];exact hI''⟩
   ·unfold fF
    have hs:dl [t0,t1,y,T.t (.one (.ptr it 0)),t4,t5,b7 b,aR] 4 (jB ab)=[t0,t1,y,.t (.one (.ptr it 0)),bj ab,t5,b7 b,aR]:=rfl
    simp only[hs,e,abP hI',↓reduceIte]
    exact e'
   ·rw[hr',hat,fA,hz]
  |false=>
   obtain⟨t0',t1',t5',x1,x2,W',e,hW⟩:=aOg (b:=b) (t0:=t0) (t1:=t1) (t5:=t5) (W:=it::W) (by omega) g1 e0 e2 (by unfold bne;rw[sT (by intro e;rw[e]at hz;cases hz)];rfl) c1 c2 fl
   have g2:=(g1.snoc x1).snoc x2
   have hI':CoI ts N0 it b (ks++[j]) (r++[m]) (apT (H.set it (Z (.it b ts.length (ks++[j])))++[x1]++[x2]) r) (lw (H.set it (Z (.it b ts.length (ks++[j])))++[x1]++[x2]) y r m) W':=⟨g2.next m,⟨_,by rw[show(r++[m]).length=r.length+1 by rw[aTW];rfl];rfl⟩,g2.keepX m (fU (fU hit1 _) _) (by simp),g2.keepX m (fU (fU hb1 _) _) (by simp),hI.ne,hW w1,by
    have:=hI.len
    have hk:=dV y (H.set it (Z (.it b ts.length (ks++[j])))++[x1]++[x2])
    unfold lw
    rw[aTW,hk]
    simp only[aTW,List.length_set,aTV,aUf]
    omega⟩
   obtain⟨u0,u1,u5,y',H',W'',r',e',hr',hI''⟩:=ih (ks++[j]) (r++[m]) t0' t1' (bj ab) t5' _ _ W' (fun x hx=>hj x (aT8 _ hx)) (by simp only[aTW,aTV,aUf];omega) hI'
   refine⟨u0,u1,u5,y',H',W'',r',?_,?_,by rw[← hks];exact hI''⟩
   ·unfold fF
    have hs:dl [t0,t1,y,T.t (.one (.ptr it 0)),t4,t5,b7 b,aR] 4 (jB ab)=[t0,t1,y,.t (.one (.ptr it 0)),bj ab,t5,b7 b,aR]:=rfl
    simp only[hs,e,abP hI',↓reduceIte]
    exact e'
   ·rw[hr',hat,fA,hz,aUr];rfl
def auF (ts:List Mn):(ts.map fv).length=ts.length:=List.length_map _
def axy {ts:List Mn}(hl:ts.length<10000000){b:Nat}{H:Hp}(hb:H[b]?=Z (Z (.mp (ts.map fv))))(cf:av)(fl:Nat):
  ∃(zs:List D),am cf fl qCo.A ⟨bv qCo.pin [b7 b] (er qCo.nk),H,[],[],[]⟩=Z (.normal,⟨[.nil,.nil,.nil,.nil,.nil,.nil,b7 b,aR],H,[],[],[]⟩)∧
   am cf fl qCo.B ⟨[.nil,.nil,.nil,.nil,.nil,.nil,b7 b,aR],H,[],[],[]⟩=Z (.normal,⟨[.nil,.nil,.t (.one (.lsl H.length 0 0 8)),.nil,.nil,.nil,b7 b,aR],H++[Z (.cells zs)],[],[],[]⟩)∧
   am cf fl qCo.R2 ⟨[.nil,.nil,.t (.one (.lsl H.length 0 0 8)),.nil,.nil,.nil,b7 b,aR],H++[Z (.cells zs)],[],[],[]⟩=Z (.normal,⟨[.nil,.nil,.t (.one (.lsl H.length 0 0 8)),.t (.one (.ptr (H.length+1) 0)),.nil,.nil,b7 b,aR],H++[Z (.cells zs)]++[Z (.it b ts.length [])],[],[],[]⟩):=by
 obtain⟨zs,hz⟩:=anQ (ts.length*8)
 have f1:ts.length<9223372036854775808:=by omega
 have f2:ts.length≤1073741824:=by omega
 have f3:96*ts.length≤70368744177664:=by omega
 have hb2:=fU hb (Z (.cells zs))
 refine⟨zs,rfl,?_,?_⟩
 ·simp(maxSteps:=9^9) only[au,seval,-ac,-ae,qCo,coA,oV,coL,coK,ah7,uf,hb,auF,f1,f2,f3,hz]
 ·simp(maxSteps:=9^9) only[au,seval,-ac,-ae,qCo,coA,oV,coL,coK,ah7,vY,hb2,auF]
def aEn {N0 b0:Nat}{r S:List Mn}{t0 t1 t3 t4 t5 t6 t7:T}{H H':Hp}{W:List Nat}{cf:av}(hG:GotP N0 H (.t (.one (.lsl b0 0 r.length 8))) r)(hW:ff N0 W=ab)(hs:sW [.t (.one (.lsl b0 0 r.length 8)),fT 226] H []=Z (.nil,H',[],[b0]))(hG':GotP N0 H' (.t (.one (.lsl b0 0 r.length 8))) S)(hl:H'.length=H.length)(hb:N0≤b0)
  (c3:∀x y H S,cf (fT 225) [x,y] H S=sW [x,y] H S)(fl:Nat):tS cf fl qCo N0 [] ⟨[t0,t1,.t (.one (.lsl b0 0 r.length 8)),t3,t4,t5,t6,t7],H,[],W,[]⟩=Z ([pV S],H.length):=by
 have e:∃W',am cf fl qCo.RS ⟨[t0,t1,.t (.one (.lsl b0 0 r.length 8)),t3,t4,t5,t6,t7],H,[],W,[]⟩=Z (.ret,⟨[t0,t1,.t (.one (.lsl b0 0 r.length 8)),t3,t4,t5,t6,.t (.one (.lsl b0 0 r.length 8))],H',[],W',[]⟩)∧ff N0 W'=ab:=by
  simp(maxSteps:=9^9) only[au,seval,-ac,-ae,qCo,coA,oV,coL,coK,ah7,c3,hs]
  exact⟨_,rfl,gW hb hW⟩
 obtain⟨W',e,hw⟩:=e
 have hR:=hG'.res
 have hn:=hG'.1
 have k1:nz N0 [] (adp (.t (.one (.lsl b0 0 r.length 8))))=ab:=by
  show nz N0 [] [b0]=ab
  unfold nz
  rw[if_neg (by rw[aTR];omega)]
  rfl
 have k2:aTQ N0 H'.length=ab:=Nat.ble_eq_true_of_le hn
 unfold tS
 simp only[e]
 have hr:fu H' [t0,t1,T.t (.one (.lsl b0 0 r.length 8)),t3,t4,t5,t6,T.t (.one (.lsl b0 0 r.length 8))] qCo.res=Z [.t (.one (.lsl b0 0 r.length 8))]:=rfl
 have hm:mj [T.t (.one (.lsl b0 0 r.length 8))]=Z (.t (.one (.lsl b0 0 r.length 8))):=rfl
 have hc:dT [] H' []=Z H':=rfl
 have hw2:ff N0 ([]++W')=ab:=hw
 rw[hl]at k2
 simp only[hc,hr,hm,hR,hw2,k1,k2,nz,Bool.and_self,↓reduceIte,hl]
def dE:List Int × List D→Option Mn
 |([.ofNat a,.ofNat b,.ofNat c,.ofNat d],[.c c5,.c c6,.c c7,.c c8])=>(match uj a b c d,dQ c5 c6 c7 c8 with|true,Z q=>Z ⟨a,b,c,d,q⟩|_,_=>U)
 |_=>U
def aOi {x:List Int × List D}{m:Mn}(h:dE x=Z m):x=fv m∧m.Ok:=by
 unfold dE at h
 split at h
 ·split at h
  ·rename_i hx hq
   cases h
   obtain⟨rfl,rfl,rfl,rfl,hk⟩:=ao7 hq
   unfold uj at hx
   simp only[aTT,aTR]at hx
   exact⟨rfl,hx.1,hx.2.1,hx.2.2.1,hx.2.2.2,hk⟩
  ·cases h
 ·cases h
def dEs:List (List Int × List D)→Option (List Mn)
 |[]=>Z []
 |x::r=>match dE x,dEs r with|some m,Z l=>Z (m::l)|_,_=>U
def ate:∀(es:List (List Int × List D)) (ts:List Mn),dEs es=Z ts→es=ts.map fv∧cK ts
 |[],ts,h=>by cases h;exact⟨rfl,fun m hm=>(List.not_mem_nil hm).elim⟩
 |x::r,ts,h=>by
  unfold dEs at h
  split at h
  ·rename_i m l h1 h2
   cases h
   obtain⟨rfl,o1⟩:=aOi h1
   obtain⟨rfl,o2⟩:=ate r l h2
   exact⟨rfl,fun m' hm=>by
    rcases aTZ.1 hm with rfl|hm
    ·exact o1
    ·exact o2 _ hm⟩
  ·cases h
def aRC {m:Mn}(h:m.Ok):dE (fv m)=Z m:=by
 have hx:uj m.a m.b m.c m.d=ab:=by unfold uj;simp only[aTT,aTR];exact⟨h.a,h.b,h.c,h.d⟩
 simp only[dE,fv,hx,axE h.q]
def aB7:∀{ts:List Mn},cK ts→dEs (ts.map fv)=Z ts
 |[],_=>rfl
 |m::ts,h=>by
  rw[List.map_cons,dEs,aRC (h m aT0),aB7 (fun x hx=>h x (aT8 _ hx))]
def coG (al:List T)(H:Hp)(S:List Nat):Option (List V1 × Nat):=
 match al,S with
 |[.t (.one (.mp b))],[]=>(match H[b]? with
  |some (Z (.mp es))=>(match dEs es with
   |some ts=>(match ah ts.length 10000000,cx (cu (fA ts))with
    |true,ab=>Z ([pV (cu (fA ts))],H.length+2+2*ts.length+(fA ts).length)
    |_,_=>U)
   |none=>U)
  |_=>U)
 |_,_=>U
def axi {ts:List Mn}{ρ:List Nat}(h:ρ.Perm (List.range ts.length)):(atR ts ρ).Perm ts:=by
 have h1:(atR ts ρ).Perm (atR ts (List.range ts.length)):=h.filterMap _
 have h2:atR ts (List.range ts.length)=ts:=by
  unfold atR
  apply List.ext_getElem?
  intro i
  have key:∀(n:Nat),n≤ts.length→(List.range n).filterMap (fun j=>ts[j]?)=ts.take n:=by
   intro n
   induction n with
   |zero=>intro _;rfl
   |succ n ih=>
    intro hn
    rw[List.range_succ,List.filterMap_append,ih (by omega),List.take_succ_eq_append_getElem (by omega)]
    simp[aTX (show n<ts.length by omega)]
  rw[key _ (aTS _),List.take_length]
 rw[h2]at h1
 exact h1
def aIZ {cf:av}(c1:CA cf 151 aY)(c2:CA cf 153 bn)(c3:∀x y H S,cf (fT 225) [x,y] H S=sW [x,y] H S)(fl:Nat)
  (al:List T)(H:Hp)(S:List Nat)(rs:List V1)(l:Nat)(h:coG al H S=Z (rs,l)):aoA cf fl qCo al H S rs l:=by
 unfold coG at h
 split at h
 rotate_left
 ·cases h
 rename_i b
 split at h
 rotate_left
 ·cases h
 rename_i es hb
 split at h
 rotate_left
 ·cases h
 rename_i ts hts
 split at h
 rotate_left
 ·cases h
 rename_i hlen hsrt
 cases h
 rw[aTR]at hlen
 obtain⟨rfl,hok⟩:=ate _ _ hts
 obtain⟨zs,eA,eB,eR⟩:=axy hlen hb cf fl
 have hbl:=(aTU.1 hb).1
 have hit:(H++[Z (.cells zs)]++[Z (.it b ts.length [])])[H.length+1]?=Z (Z (.it b ts.length [])):=v8 _ _ _
 have hI:CoI ts H.length (H.length+1) b [] [] (.t (.one (.lsl H.length 0 0 8))) (H++[Z (.cells zs)]++[Z (.it b ts.length [])]) []:=
  ⟨⟨by simp,.inr ⟨H.length,zs,aTS _,rfl,l6 _ _ _,rfl⟩⟩,⟨_,rfl⟩,hit,fU (fU hb _) _,by omega,rfl,by simp⟩
 refine⟨rfl,_,_,_,H.length+1,b,ts.length,eA,eB,eR,rfl,hit,abP hI _ _ _ _,fun ρ hρ=>?_⟩
 obtain⟨t0',t1',t5',y',H',W',r',e,hr',hI'⟩:=aEk hok hlen (Nat.le_succ _) c1 c2 fl ρ [] [] .nil .nil .nil .nil _ _ _ (fun j hj=>by have:=hρ.mem_iff.1 hj;simpa using this) (by have:=hρ.length_eq;simp at this;simp only[aUf];omega) hI
 rw[List.nil_append]at hr' hI'
 have hperm:r'.Perm (fA ts):=by rw[hr'];exact acn (axi hρ)
 obtain⟨b0,hy⟩:=hI'.lsl
 subst hy
 have hrl:=hperm.length_eq
 have hnl:=anm ts
 obtain⟨H'',hs,hG',hl',hb0⟩:=arD hI'.got (fun m hm=>hok m (ann (hperm.mem_iff.1 hm))) (by omega) (aBj hperm hsrt) hsrt
 unfold aiQ
 have e':fF cf fl qCo.BD qCo.p10 qCo.p12 (H.length+1) b ts.length ρ [] _=_:=e
 rw[e']
 dsimp only
 rw[aEn hI'.got hI'.w hs hG' hl' hb0 c3 fl]
 have:=hI'.len
 have h2:=hρ.length_eq
 simp only[List.length_range]at h2
 congr 2
 omega
def tCo  : Ft:=.n (.n .z 151 (.nat aY) U .z) 153 (.nat bn) U (.n .z 225 (.wnat sW) U .z)
def aMW   {k:Cls}:tCo.Ok Tryz.prog k aH:=⟨⟨tv,qO,tv,tv⟩,oq,tv,⟨tv,awv,tv,tv⟩⟩
def coN:kU:=qi coG
def amv {k:Cls}:CX k 163 coN:=
 aEo (cf:=ao tCo.tb 10 8) (fl:=10) (q:=qCo) (wm:=ab) (na:=1) (c:=ng.1) (vP (by kernel_rfl) (Ft.tb_ok aMW) 8) (by kernel_rfl) (fun al H S rs l h=>aIZ (fun _ _ _=>rfl) (fun _ _ _=>rfl) (fun _ _ _ _=>rfl) 10 al H S rs l h) Tryz.func163 (by kernel_rfl) (by kernel_rfl) (by kernel_rfl) rfl rfl (by kernel_rfl) rfl rfl rfl rfl rfl rfl
def aiP {ts:List Mn}{H:Hp}{b:Nat}(hb:H[b]?=Z (Z (.mp (ts.map fv))))(hok:cK ts)(hl:ts.length<10000000)(hs:cx (cu (fA ts))=ab):∃H',coN [b7 b] H []=Z (.t (.one (.c (pC (cu (fA ts))))),H',[],[]):=by
 have h1:ah ts.length 10000000=ab:=by rw[aTR];exact hl
 have:coG [b7 b] H []=Z ([pV (cu (fA ts))],H.length+2+2*ts.length+(fA ts).length):=by simp only[coG,hb,aB7 hok,h1,hs]
 exact⟨_,by simp only[coN,qi,this];rfl⟩
def kz (m:Mn):List Mn→Nat→Option Nat
 |[],_=>U
 |k::r,i=>match bp k m with|true=>Z i|false=>kz m r (i+1)
def qu (m:Mn):∀(ts:List Mn) (i:Nat),iR [af m.a,af m.b,af m.c,af m.d] ((ts.map fv).map (·.1)) i=kz m ts i
 |[],_=>rfl
 |k::r,i=>by
  have ih:=qu m r (i+1)
  simp only[List.map_cons,fv,iR,kz]at ih ⊢
  have hb:=abM k.a k.b k.c k.d m.a m.b m.c m.d
  cases h:bp k m with
  |true=>
   unfold bp at h
   rw[h]at hb
   rw[if_pos hb]
  |false=>
   unfold bp at h
   rw[h]at hb
   rw[if_neg (by rw[hb];simp)]
   exact ih
def adT (m:Mn):List Mn→List Mn
 |[]=>[m]
 |k::r=>match bp k m with|true=>m.with (k.q.add m.q)::r|false=>k::adT m r
def sf (m:Mn):∀(ts:List Mn) (i:Nat),kz m ts i=(kz m ts 0).map (·+i)
 |[],_=>rfl
 |k::r,i=>by
  unfold kz
  cases bp k m with
  |true=>simp
  |false=>
   simp only
   rw[sf m r (i+1),sf m r (0+1)]
   cases kz m r 0<;>simp
   omega
def aiz {m:Mn}:∀{ts:List Mn},kz m ts 0=U→adT m ts=ts++[m]
 |[],_=>rfl
 |k::r,h=>by
  unfold kz at h
  unfold adT
  cases hk:bp k m with
  |true=>rw[hk]at h;cases h
  |false=>
   rw[hk]at h
   simp only at h
   rw[sf]at h
   have:kz m r 0=U:=by cases h2:kz m r 0 with|none=>rfl|some x=>rw[h2]at h;cases h
   simp only
   rw[aiz this];rfl
def aiA {m:Mn}:∀{ts:List Mn} {j:Nat},kz m ts 0=Z j→∃k,ts[j]?=Z k∧adT m ts=ts.set j (m.with (k.q.add m.q))
 |[],_,h=>by cases h
 |k::r,j,h=>by
  unfold kz at h
  unfold adT
  cases hk:bp k m with
  |true=>
   rw[hk]at h
   cases h
   exact⟨k,rfl,rfl⟩
  |false=>
   rw[hk]at h
   simp only at h
   rw[sf]at h
   cases h2:kz m r 0 with
   |none=>rw[h2]at h;cases h
   |some x=>
    rw[h2]at h
    cases h
    obtain⟨k',e1,e2⟩:=aiA h2
    exact⟨k',by simpa using e1,by simp only;rw[e2];rfl⟩
abbrev keT (m:Mn):T:=.t (.agg [.c (eC m.a),.c (eC m.b),.c (eC m.c),.c (eC m.d)])
def aaN (m:Mn):ajs (keT m)=Z [af m.a,af m.b,af m.c,af m.d]:=rfl
def aFa {ts:List Mn}{m:Mn}{zs:List D}{b:Nat}(hf:kz m ts 0=U)(H:Hp)(hb:H[b]?=Z (Z (.mp (ts.map fv)))):eK zs H (b7 b) (keT m)=Z (.tup [.agg zs,.one (.c (.v (.bool aa)))]):=by
 simp only[eK,aaN,aTV,aUf,↓reduceIte,hb,qu,hf]
def aFb {ts:List Mn}{m k:Mn}{zs:List D}{b j:Nat}(hf:kz m ts 0=Z j)(hk:ts[j]?=Z k)(H:Hp)(hb:H[b]?=Z (Z (.mp (ts.map fv)))):eK zs H (b7 b) (keT m)=Z (.tup [.agg (qD k.q),.one (.c (.v (.bool ab)))]):=by
 simp only[eK,aaN,aTV,aUf,↓reduceIte,hb,qu,hf,aUm,hk,Option.map_some]
 rfl
def ayZ {ts:List Mn}{m:Mn}{b:Nat}(hf:kz m ts 0=U)(H:Hp)(hb:H[b]?=Z (Z (.mp (ts.map fv)))):gu H [] (b7 b) (keT m) (.t (.agg (qD m.q)))=Z (H.set b (Z (.mp ((ts++[m]).map fv)))):=by
 simp only[gu,aaN,aTV,aUf,↓reduceIte,hb,qu,hf,List.not_mem_nil,List.map_append]
 rfl
def ay0 {ts:List Mn}{m:Mn}{x:Q}{b j:Nat}(hf:kz m ts 0=Z j)(H:Hp)(hb:H[b]?=Z (Z (.mp (ts.map fv)))):gu H [] (b7 b) (keT m) (.t (.agg (qD x)))=Z (H.set b (Z (.mp ((ts.set j (m.with x)).map fv)))):=by
 simp only[gu,aaN,aTV,aUf,↓reduceIte,hb,qu,hf,List.not_mem_nil,List.map_set]
 rfl
section
variable {α:Type} (E:List α) (x y z u:α)
def g30:(E++[x]++[y]++[z])[E.length]?=Z x:=by simp
def g31:(E++[x]++[y]++[z])[E.length+1]?=Z y:=by simp
def g32:(E++[x]++[y]++[z])[E.length+1+1]?=Z z:=by
 rw[show E.length+1+1=(E++[x]++[y]).length by simp];exact bk _ _
def s30:(E++[x]++[y]++[z]).set E.length u=E++[u]++[y]++[z]:=by simp
def s31:(E++[x]++[y]++[z]).set (E.length+1) u=E++[x]++[u]++[z]:=by simp
def s32:(E++[x]++[y]++[z]).set (E.length+1+1) u=E++[x]++[y]++[u]:=by
 rw[show E.length+1+1=(E++[x]++[y]).length by simp];exact bx _ _ _
end
def ak8 {H:Hp}{b i:Nat}{x y z u:Option Blk}(hi:i<H.length)(hn:i≠b):((H++[x]++[y]++[z]).set b u)[i]?=H[i]?:=by
 rw[aUn (fun e=>hn e.symm),aUs (by simp;omega),aUs (by simp;omega),aUs hi]
def awp {H:Hp}{b:Nat}{x y z u w:Option Blk}(hb:H[b]?=Z w):((H++[x]++[y]++[z]).set b u)[b]?=Z u:=by
 have:=(aTU.1 hb).1
 exact List.getElem?_set_self (by simp;omega)
def aDN {ts:List Mn}{m:Mn}{b:Nat}{H:Hp}(hf:kz m ts 0=U)(hb:H[b]?=Z (Z (.mp (ts.map fv))))(cf:av)(fl:Nat):
  ∃H' W',cy cf fl tw.1 [b7 b,keT m,.t (.agg (qD m.q))] H []=Z (.tup [],H',[],W')∧H'[b]?=Z (Z (.mp ((adT m ts).map fv)))∧∀i,i<H.length→i≠b→H'[i]?=H[i]?:=by
 rw[aiz hf]
 have gA:∀(H':Hp),H'[b]?=Z (Z (.mp (ts.map fv)))→∀x,(H'++[x])[b]?=Z (Z (.mp (ts.map fv))):=fun H' h x=>fU h x
 have hL:=fun(zs:List D) (H':Hp) (h:H'[b]?=Z (Z (.mp (ts.map fv))))=>aFa (zs:=zs) hf H' h
 have hS:=fun(H':Hp) (h:H'[b]?=Z (Z (.mp (ts.map fv))))=>ayZ hf H' h
 simp(maxSteps:=9^9) (maxDischargeDepth:=6) only[au,seval,-ac,-ae,aHN,hb,gA,hL,hS,g30,g31,g32,s30,s31,s32,bk,bx,l6,nC,v8,aa4,kR]
 exact⟨_,_,rfl,awp hb,fun i hi hn=>ak8 hi hn⟩
def aDO {ts:List Mn}{m k:Mn}{b j:Nat}{H:Hp}(hf:kz m ts 0=Z j)(hk:ts[j]?=Z k){x:Q}(hb:H[b]?=Z (Z (.mp (ts.map fv))))(e1:cV [eQ k.q,eQ m.q]=Z [eQ x]){cf:av}(c1:CA cf 182 cV)(fl:Nat):
  ∃H' W',cy cf fl tw.1 [b7 b,keT m,.t (.agg (qD m.q))] H []=Z (.tup [],H',[],W')∧H'[b]?=Z (Z (.mp ((ts.set j (m.with x)).map fv)))∧∀i,i<H.length→i≠b→H'[i]?=H[i]?:=by
 have gA:∀(H':Hp),H'[b]?=Z (Z (.mp (ts.map fv)))→∀x,(H'++[x])[b]?=Z (Z (.mp (ts.map fv))):=fun H' h x=>fU h x
 have hL:=fun(zs:List D) (H':Hp) (h:H'[b]?=Z (Z (.mp (ts.map fv))))=>aFb (zs:=zs) hf hk H' h
 have hS:=fun(H':Hp) (h:H'[b]?=Z (Z (.mp (ts.map fv))))=>ay0 (x:=x) hf H' h
 simp(maxSteps:=9^9) (maxDischargeDepth:=6) only[au,seval,-ac,-ae,aHN,ar,c1,e1,hb,gA,hL,hS,g30,g31,g32,s30,s31,s32,bk,bx,l6,nC,v8,aa4,kR]
 exact⟨_,_,rfl,awp hb,fun i hi hn=>ak8 hi hn⟩
def aiC {ts:List Mn}{m:Mn}{b:Nat}{H:Hp}(ho:cK ts)(hm:m.Ok)(hb:H[b]?=Z (Z (.mp (ts.map fv)))){cf:av}(c1:CA cf 182 cV)(fl:Nat):
  ∃H' W',cy cf fl tw.1 [b7 b,keT m,.t (.agg (qD m.q))] H []=Z (.tup [],H',[],W')∧H'[b]?=Z (Z (.mp ((adT m ts).map fv)))∧∀i,i<H.length→i≠b→H'[i]?=H[i]?:=by
 cases hf:kz m ts 0 with
 |none=>exact aDN hf hb cf fl
 |some j=>
  obtain⟨k,hk,he⟩:=aiA hf
  rw[he]
  exact aDO hf hk hb (adZ (ho k (List.mem_of_getElem? hk)).q hm.q) c1 fl
end
end Go.Proofs.YtfiijelajgifiaaGreat
