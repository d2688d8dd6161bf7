/-
  Part 7 of the machine and of the contracts of functions of the program (packed).
-/
import Derived.Test.YtfiijelajgifiaaGreatA06
set_option linter.all false
set_option linter.defProp false
open Array renaming getD_eq_getD_getElem?→aUq
open Bool renaming false→aa,true→ab,and_eq_true→aTT
open List renaming getElem?_eq_some_iff→aTU,getElem?_append_left→aUs
open Nat renaming blt→ah,lt_of_lt_of_le→aUj
open Option renaming some→Z,none→U
namespace Go.Mach
noncomputable section
open Go Go.RowKit Go.Flow
variable [Limb]
def aSE:C→Option Sy
 |.smag l=>Z (.p l)
 |.sl 1 [.sy .u32 l]=>if cY (yS l)&&cY (4294967296-lub l) then Z (.p l) else U
 |m=>match aCY m with|some [n]=>Z (.k (.ofNat n))|_=>U
def aSD (n m:C):Option Sy:=
 match n with
 |.v (.bool b)=>(match aSE m with
  |some (.k (.ofNat x))=>(match sgI b x with|some z=>Z (.k z)|none=>U)
  |some (.p l)=>Z (match b with|true=>.p (yT l)|false=>.p l)
  |_=>U)
 |_=>U
def aBu:V1→Option Sy
 |.agg [n,m]=>aSD n m
 |_=>U
def aKA:Sy→Option V1
 |.k z=>if ah (ap z) 4294967296 then Z (.agg [.v (.bool (aw z)),.mag [ap z]]) else U
 |.p l=>
  match cY (yS l)&&cY (4294967296-lub l)with
  |true=>Z (.agg [.v (.bool aa),.smag l])
  |false=>(match cY (- lub l)&&cY (4294967296+yS l)with
   |true=>Z (.agg [.v (.bool ab),.smag (yT l)])
   |false=>U)
def s2 (f:Sy→Sy→Option Sy):List V1→Option (List V1)
 |[a,b]=>match aBu a,aBu b with
  |some x,Z y=>(match f x y with|some z=>(match aKA z with|some r=>Z [r]|none=>U)|none=>U)
  |_,_=>U
 |_=>U
def s1 (f:Sy→Sy):List V1→Option (List V1)
 |[a]=>match aBu a with
  |some x=>(match aKA (f x)with|some r=>Z [r]|none=>U)
  |none=>U
 |_=>U
section
variable {P:Program} {k:Cls} {F:Nat→Prop} {w:World}
def aP0 (x:Int):sgI (aw x) (ap x)=Z x:=by
 match x with
 |.ofNat n=>rfl
 |.negSucc n=>rfl
def dZ (z:Int):ap z=z.natAbs:=by cases z<;>rfl
def agG (z:Int):aw z=decide (z<0):=by
 match z with
 |.ofNat n=>simp[aw]
 |.negSucc n=>rw[decide_eq_true (Int.negSucc_lt_zero n)];rfl
end
abbrev yes:T:=.t (.one (.c (.v (.bool ab))))
abbrev aBK:List V1:=[.one (.v (.bool ab))]
def aa3:List V1→Option (List V1)
 |[]=>Z aBK
 |_=>U
section
variable {P:Program} {k:Cls} {Bt:aP}
def arr {g:FuncId}{m:List V1→Option (List V1)}(hm:ko P k g m)(h:m []=Z aBK):ko P k g aa3:=by
 refine⟨hm.1,fun as rs hs=>?_⟩
 match as,hs with
 |[],hs=>cases hs;exact hm.2 [] _ h
end
def qi (G:List T→Hp→List Nat→Option (List V1 × Nat)):kU:=fun al H S=>match G al H S with|some (rs,l)=>Z (oE rs,H++iw (l-H.length),S,[])|none=>U
def aoA (cf:av)(fl:Nat)(q:Col)(al:List T)(H:Hp)(S:List Nat)(rs:List V1)(l:Nat):Prop:=
 al.length=q.pin.length∧∃(s1 s2 s3:St) (it m n:Nat),am cf fl q.A ⟨bv q.pin al (er q.nk),H,S,[],[]⟩=Z (.normal,s1)∧am cf fl q.B s1=Z (.normal,s2)∧am cf fl q.R2 s2=Z (.normal,s3)∧
  ce s3.τ q.p10=.t (.one (.ptr it 0))∧s3.H[it]?=Z (Z (.it m n []))∧rq s3 q.p10 it m n []=ab∧∀ρ,ρ.Perm (List.range n)→aiQ cf fl q it m n H.length S s3 ρ=Z (rs,l)
section
variable {P:Program} {k:Cls} {Bt:aP} {cf:av} {fl:Nat} {q:Col}
def alP {G:List T→Hp→List Nat→Option (List V1 × Nat)}(hG:∀al H S rs l,G al H S=Z (rs,l)→aoA cf fl q al H S rs l)(hcf:gF P k Bt cf)(hm:P.follows .mixedOrders=ab){f:FuncId}{fn:Func}{kp:List Tmp}{A' B' R2' BD' RS':Code}{id t10 t11 t12:Nat}{opN opE:Oper}
  (hfn:P.funcs[f]?=Z fn)(hname:(fn.name == "runtime.NumGoroutine")=aa)
  (hbody:fn.body=Z (.seq A' (.seq B' (.seq (.seq R2' (.block 0 (.loop (.seq (.region id #[opN,opE] aa) (.seq (.cond (.tmp t12) .skip (.exit 0)) (.block 1 BD')))))) RS'))))
  (hkp:kp.length=q.nk)(hpn:q.pin.length≤fn.ntmps)(hpin:∀(j p:Nat),q.pin[j]?=Z (Z p)→kp[p]?=Z j)
  (cA:ln P fn.ntmps kp Bt aa q.A A')(cB:ln P fn.ntmps kp Bt aa q.B B')(cR:ln P fn.ntmps kp Bt aa q.R2 R2')(cBD:ln P fn.ntmps kp Bt aa q.BD BD')(cRS:ln P fn.ntmps kp Bt aa q.RS RS')
  (hres:sZ P kp fn.results.toList q.res)(hd:HdOk kp fn.ntmps t10 t11 t12 q.p10 q.p12)
  (hN:opN.op=.next (.tmp t10) aa)(hNd:opN.dst=Z t11)(hNg:opN.guard=U)(hE:opE.op=.extract (.tmp t11) 0)(hEd:opE.dst=Z t12)(hEg:opE.guard=U):pZ P k Bt f (qi G):=by
 refine⟨⟨fn,hfn,hname,by simp[hbody]⟩,fun as H S y H' S' W h=>?_⟩
 unfold qi at h
 split at h
 rotate_left
 ·cases h
 rename_i rs l hGe
 obtain⟨hal',s1,s2,s3,it,m,n,hA,hB,hR,hit,hH3,hok,hall'⟩:=hG _ _ _ _ _ hGe
 simp only[Option.some.injEq,Prod.mk.injEq]at h
 obtain⟨rfl,rfl,rfl,rfl⟩:=h
 refine⟨⟨by simp,fun c hc _=>by rw[aUs hc]⟩,fun F0 N φ w vs hH hN0 hl hr=>?_⟩
 refine aal (ro:=U) |>.1 ?_
 refine callsIn_of_wp_marks (F:=Fence.wide) hfn hbody trivial ?_
 have hsz:(vs.toArray++Array.replicate (fn.ntmps-vs.toArray.size) undef).size=fn.ntmps:=by simp;omega
 have hs:SRel k Bt F0 N fn.ntmps kp ⟨bv q.pin as (er q.nk),H,S,[],[]⟩ { tmps:=vs.toArray++Array.replicate (fn.ntmps-vs.toArray.size) undef,defers:=[] } w φ:=by
  refine⟨hH,fun p t hp=>?_,hsz,by rw[jk,nv,hkp],⟨rfl,fun j b hj=>by simp at hj⟩,hN0⟩
  rcases kA q.pin as (er q.nk) p hal' with⟨h1,_⟩|⟨j,a,h1,h2,h3⟩
  ·show RT _ _ _ _ (ce (bv q.pin as (er q.nk)) p) _
   rw[h1,akn];trivial
  ·have hpl:¬(er q.nk).length≤p:=by
    rw[nv,← hkp]
    have:=(aTU.1 hp).1
    omega
   show RT _ _ _ _ (ce (bv q.pin as (er q.nk)) p) _
   rw[h3.resolve_right hpl]
   have hkj:=hpin j p h1
   rw[hp]at hkj
   cases hkj
   obtain⟨u,hu,hq⟩:=hr t a h2
   have htl:t<vs.length:=(aTU.1 hu).1
   rw[aUq,Array.getElem?_append_left (by simpa using htl),List.getElem?_toArray,hu]
   exact hq
 obtain⟨fA1,fA2⟩:=iK hcf _ _ _ _ hA
 obtain⟨fB1,fB2⟩:=iK hcf _ _ _ _ hB
 obtain⟨fR1,fR2⟩:=iK hcf _ _ _ _ hR
 refine wpIn_seq (iL (ro:=U) (rd:=aa) hcf hm (.inr rfl) q.A A' cA hA hs fun a1 w1 φ1 tr1 hs1=>?_)
 refine wpIn_seq (iL (ro:=U) (rd:=aa) hcf hm (.inr rfl) q.B B' cB hB hs1 fun a2 w2 φ2 tr2 hs2=>?_)
 refine wpIn_seq (wpIn_seq (iL (ro:=U) (rd:=aa) hcf hm (.inr rfl) q.R2 R2' cR hR hs2 fun a3 w3 φ3 tr3 hs3=>?_))
 refine wpIn_block (wpIn_loop_rounds (n+1) ?_)
 have hphi:∃x,φ3 m=Z x:=by
  have hv:=hs3.fr q.p10 t10 hd.k10
  rw[hit]at hv
  obtain⟨x,hx,_⟩:=hv
  obtain⟨_,bm,hbm,_⟩:=hs3.hr.at_ it _ x hH3 hx
  exact⟨bm,hbm⟩
 refine axz (fl:=fl) hcf hm hd hN hNd hNg hE hEd hEg cBD (fun s4=>tS cf fl q H.length S s4=Z (rs,l)∧(∀b∈s3.W,b∈s4.W)∧Fm s3.H s4.W s4.H) (fun s4 a4 w4 φ4 hg hs4 tr4=>?_) n [] s3 a3 w3 φ3 hok hs3 ((tr1.trans tr2).trans tr3) (by simp) ⟨List.range n,by simp⟩ hphi (fun ρ hρ=>?_)
 ·obtain⟨hg,g1,g2⟩:=hg
  simp only[Exit.inBlock,if_true]
  show Code.wpIn (Fr U) 0 P _ _ a4 w4
  unfold tS at hg
  split at hg
  ·cases hg
  ·cases hg
  rename_i x s5 hne he
  split at hg
  ·cases hg
  rename_i H1 hcl
  split at hg
  ·cases hg
  rename_i ll hrs
  split at hg
  ·cases hg
  rename_i y hmk
  split at hg
  ·cases hg
  rename_i rs' bs htv
  split at hg
  rotate_left
  ·cases hg
  rename_i hchk
  simp only[Option.some.injEq,Prod.mk.injEq]at hg
  obtain⟨rfl,rfl⟩:=hg
  simp only[aTT]at hchk
  obtain⟨⟨⟨c1,c2⟩,c3⟩,c4⟩:=hchk
  have c1':=akg c1
  have c2':=wB c2
  have c3':=wB c3
  have c4':H.length≤H1.length:=by simpa using c4
  obtain⟨e1,e2⟩:=iK hcf _ _ _ _ he
  have e3:=xZ (S:=s5.S) _ _ _ hcl
  refine iL (ro:=U) (rd:=aa) hcf hm (.inr rfl) q.RS RS' cRS he hs4 fun a5 w5 φ5 tr5 hs5=>?_
  have post:LeavesInM Fence.wide 0 P fn a5.tmps (fun e w'=>∃u,e=.returned u∧Post k Bt F0 N φ w H S (H++iw (H1.length-H.length)) S (oE rs') u w') a5.defers .returning w5:=by
   refine yQ s5.dfs a5.defers s5.H w5 hs5.hr hs5.n hs5.df hcl fun w6 tr6=>?_
   obtain⟨v,h1,h2⟩:=awa (P:=P) tr6.hr (fun p t hp=>RT.kp tr6.kp (hs5.fr p t hp)) hres hrs hmk
   refine⟨v,h1,v,rfl,?_⟩
   have trA:=(tr4.trans tr5).trans tr6
   refine avJ hN0 trA c4' (fun b hb=>?_) c2' c3' ?_
   ·have hb:b<H.length:=hb
    have nW:b∉s5.W:=fun hm=>by have:=c1' b (List.mem_append_right _ hm);omega
    have nD:b∉s5.dfs:=fun hm=>by have:=c1' b (List.mem_append_left _ hm);omega
    have n4:b∉s4.W:=fun hm=>nW (e1 b hm)
    have n3:b∉s3.W:=fun hm=>n4 (g1 b hm)
    have n2:b∉s2.W:=fun hm=>n3 (fR1 b hm)
    have n1:b∉s1.W:=fun hm=>n2 (fB1 b hm)
    have l1:b<s1.H.length:=aUj hb fA2.1
    have l2:b<s2.H.length:=aUj l1 fB2.1
    have l3:b<s3.H.length:=aUj l2 fR2.1
    have l4:b<s4.H.length:=aUj l3 g2.1
    have l5:b<s5.H.length:=aUj l4 e2.1
    rw[e3.2 b l5 nD,e2.2 b l4 nW,g2.2 b l3 n4,fR2.2 b l2 n3,fB2.2 b l1 n2,fA2.2 b hb n1]
   ·have hH6:=tr6.hr.shutB bs
    exact aom hH6 htv (fun b hb=>List.mem_append_left _ hb) (RT.kp (Kp.shutB bs) h2)
  cases x with
  |normal=>exact post
  |ret=>exact post
  |exit id=>exact absurd rfl (hne id)
 ·have hρ':=hall' ρ (by simpa using hρ)
  unfold aiQ at hρ'
  split at hρ'
  ·rename_i s4 he4
   obtain⟨g1,g2⟩:=ada hcf _ _ _ _ he4
   exact⟨s4,he4,hρ',g1,g2⟩
  ·cases hρ'
end
section
variable {P:Program} {k:Cls} {cf:av} {fl:Nat} {q:Col}
def aEo {gP:Nat→List Nat}(hcf:gF P k (xe P gP) cf)(hm:P.follows .mixedOrders=ab){f:FuncId}{fn:Func}{wm:Bool}{na:Nat}{c:FnC}{A' B' R2' BD' RS':Code}{id t10 t11 t12:Nat}{opN opE:Oper}{R3 C3:CC}{wm':Bool}{G:List T→Hp→List Nat→Option (List V1 × Nat)}(hG:∀al H S rs l,G al H S=Z (rs,l)→aoA cf fl q al H S rs l)
  (hfn:P.funcs[f]?=Z fn)(hname:(fn.name == "runtime.NumGoroutine")=aa)(h1:acz fn=ab)(hc:qj (acC P) wm (gP f) f na fn=Z c)
  (hq:c=⟨wm',q.nk,q.pin,.seq q.A (.seq q.B (.seq (.seq q.R2 (.block 0 (.loop (.seq R3 (.seq C3 (.block 1 q.BD)))))) q.RS)),q.res⟩)
  (hbody:fn.body=Z (.seq A' (.seq B' (.seq (.seq R2' (.block 0 (.loop (.seq (.region id #[opN,opE] aa) (.seq (.cond (.tmp t12) .skip (.exit 0)) (.block 1 BD')))))) RS'))))
  (hd:aps (gP f) fn.ntmps t10 t11 t12 q.p10 q.p12=ab)
  (hN:opN.op=.next (.tmp t10) aa)(hNd:opN.dst=Z t11)(hNg:opN.guard=U)(hE:opE.op=.extract (.tmp t11) 0)(hEd:opE.dst=Z t12)(hEg:opE.guard=U):pZ P k (xe P gP) f (qi G):=by
 obtain⟨code,a1,a2,a3,a4,a5,a6⟩:=ye (abb P) (Bt:=xe P gP) h1 (fun bd h=>by unfold xe;rw[hfn];exact h) hc
 rw[hbody]at a1
 cases a1
 subst hq
 obtain⟨cA,cB,⟨cR,_,_,_,_,cBD⟩,cRS⟩:=a5
 exact alP hG hcf hm hfn hname hbody a2 a3 a4 cA cB cR cBD cRS a6 (aya hd) hN hNd hNg hE hEd hEg
end
end
end Go.Mach
