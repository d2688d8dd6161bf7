/-
  Part 2 of the machine and of the contracts of functions of the program (packed).
-/
import Derived.Scope
import Derived.RangeFuncNested
import Derived.Test.YtfiijelajgifiaaGreatA01
set_option linter.all false
set_option linter.defProp false
open Array renaming getD_eq_getD_getElem?→aUq,getElem?_eq_getElem→aUt
open Bool renaming false→aa,true→ab,and_eq_true→aTT
open List renaming getElem?_eq_some_iff→aTU,length_append→aTW,getElem?_eq_getElem→aTX,mem_cons→aTZ,mem_cons_self→aT0,mem_cons_of_mem→aT8,getElem?_map→aUm,getElem?_set_ne→aUn,getElem?_append_left→aUs
open Nat renaming blt→ah,beq→ai,ble→aTQ,le_refl→aTS,lt_or_ge→aT6,le_trans→aUd,zero_add→aUe,lt_of_lt_of_le→aUj
open Option renaming some→Z,none→U,map_eq_some_iff→aUa
namespace Go.Mach
noncomputable section
open Go Go.RowKit Go.Flow
variable [Limb]
section
variable {P:Program} {k:Cls} {Bt:aP} {F0:Nat→Prop} {N:Nat} {φ0:Nat→Option Nat} {w0:World} {H:Hp} {S:List Nat} {cf:av} {τ:List T} {os:List Ro1} {Y:Nat→T} {Hf:Nat→Hp} {Sf wf:Nat→List Nat} {rf:Nat→Option Nat}
 {L:Nat→Prop} {v:Nat→Value} {w w':World} {m:Nat} {φ φ':Nat→Option Nat} {A:Nat→Nat} {G:Nat→Prop}
def acG {v:Nat→Value}{i:Nat}{u:Value}:upd v i u i=u:=by simp[upd]
def lO {v:Nat→Value}{i j:Nat}{u:Value}(h:j≠i):upd v i u j=v j:=by simp[upd,h]
def JInv.add_r (h:JInv P k Bt F0 N φ0 w0 H S os Y Hf Sf L v w m φ A G)(hN:N≤w.heap.size){i:Nat}(he:ek Y os i=.r)(hx:Ext w w'){u:Value}(hu:RT k (Fo G φ (Hf m) (Sf m)) φ w' (Y i) u):
  JInv P k Bt F0 N φ0 w0 H S os Y Hf Sf (fun j=>L j∨j=i) (upd v i u) w' m φ A G:=by
 have q:Kp (Fo G φ (Hf m) (Sf m)) φ w (Fo G φ (Hf m) (Sf m)) φ w':=Kp.of_ext hx (fun _ _ h=>h) (fun _ _ h=>h)
 have hset:∀j,(m≤j∧(L j∨j=i)∧ek Y os j=.a)↔(m≤j∧L j∧ek Y os j=.a):=by
  intro j
  constructor
  ·rintro⟨h1,h2|rfl,h3⟩
   ·exact⟨h1,h2,h3⟩
   ·rw[he]at h3;cases h3
  ·rintro⟨h1,h2,h3⟩;exact⟨h1,.inl h2,h3⟩
 refine⟨h.le,fun j hj hej=>.inl (h.pre j hj hej),fun j hj hL=>?_,h.below.trans (Bel.mono hx hN),h.hr.ext hx,h.kp.trans q h.below.size,h.same,fun x hx0 hn=>?_,fun x=>?_,fun j hL hej=>?_,fun j hj hL hej=>?_⟩
 ·rcases hL with hL|rfl
  ·exact h.post j hj hL
  ·rw[he];simp
 ·rw[hx.block x (aUj hx0 h.below.size)];exact h.old x hx0 hn
 ·rw[h.g x]
  constructor
  ·rintro(h1|⟨j,h1,h2⟩)
   ·exact .inl h1
   ·exact .inr ⟨j,(hset j).2 h1,h2⟩
  ·rintro(h1|⟨j,h1,h2⟩)
   ·exact .inl h1
   ·exact .inr ⟨j,(hset j).1 h1,h2⟩
 ·by_cases hji:j=i
  ·subst hji;rw[acG];exact hu
  ·rw[lO hji]
   exact RT.kp q (h.val j (hL.resolve_right hji) hej)
 ·obtain⟨_,hL',_⟩:=(hset j).1 ⟨hj,hL,hej⟩
  have hji:j≠i:=by rintro rfl;rw[he]at hej;cases hej
  obtain⟨p1,p2,p3,blk,p4,p5,p6,p7⟩:=h.pend j hj hL' hej
  rw[lO hji]
  exact⟨p1,p2,fun j' h4 h5 h6=>p3 j' h4 ((hset j').1 ⟨h4,h5,h6⟩).2.1 h6,blk,p4,p5,RB.kp q p6 (hx.block _ p6.lt),p7⟩
def JInv.add_a (h:JInv P k Bt F0 N φ0 w0 H S os Y Hf Sf L v w m φ A G)(hN:N≤w.heap.size){i:Nat}(hmi:m≤i)(hLi:¬L i)(he:ek Y os i=.a){blk:Blk}{u:Value}
  (hal:acK k Bt (Fo G φ (Hf m) (Sf m)) φ w (Hf i).length blk (Y i) u w')(e1:Hf (i+1)=Hf i++[Z blk])(e2:Sf (i+1)=Sf i):
  ∃A' G',JInv P k Bt F0 N φ0 w0 H S os Y Hf Sf (fun j=>L j∨j=i) (upd v i u) w' m φ A' G':=by
 obtain⟨a,ha,hx,hB,hy⟩:=hal
 have q:Kp (Fo G φ (Hf m) (Sf m)) φ w (Fo (fun x=>G x∨x=a) φ (Hf m) (Sf m)) φ w':=Kp.of_ext hx (fun x hx0 hf hf'=>by
  rcases hf' with(h1|rfl)|h1
  ·exact hf (.inl h1)
  ·omega
  ·exact hf (.inr h1)) (fun _ _ h=>h)
 have hBa:=hB _ _ q
 have hal:a<w'.heap.size:=hBa.lt
 have hpl:∀j,m≤j→L j→ek Y os j=.a→A j<w.heap.size∧G (A j):=fun j h1 h2 h3=>by
  obtain⟨_,_,_,blk',_,_,p6,_⟩:=h.pend j h1 h2 h3
  exact⟨p6.lt,(h.g _).2 (.inr ⟨j,⟨h1,h2,h3⟩,rfl⟩)⟩
 have hne:∀j,L j→j≠i:=fun j hL e=>hLi (e▸hL)
 refine⟨fun j=>if j=i then a else A j,fun x=>G x∨x=a,⟨h.le,fun j hj hej=>.inl (h.pre j hj hej),fun j hj hL=>?_,h.below.trans (Bel.mono hx hN),?_,h.kp.trans q h.below.size,h.same,fun x hx0 hn=>?_,fun x=>?_,fun j hL hej=>?_,fun j hj hL hej=>?_⟩⟩
 ·rcases hL with hL|rfl
  ·exact h.post j hj hL
  ·rw[he];simp
 ·have hH:=h.hr.ext hx
  refine⟨hH.dom,fun x hx0=>?_,hH.inj,fun b y x hb hφ=>?_⟩
  ·rcases hx0 with hx0|rfl
   ·exact hH.f0 x hx0
   ·refine⟨hal,fun b y hb hφ=>?_,hBa.nolimb⟩
    have:=(h.hr.lt hb hφ).1
    omega
  ·obtain⟨g1,g2⟩:=h.hr.at_ b y x hb hφ
   exact⟨g1,RB.kp q g2 (hx.block x g2.lt)⟩
 ·rw[hx.block x (aUj hx0 h.below.size)];exact h.old x hx0 hn
 ·constructor
  ·rintro(h1|rfl)
   ·rcases(h.g x).1 h1 with h2|⟨j,⟨h2,h3,h4⟩,rfl⟩
    ·exact .inl h2
    ·exact .inr ⟨j,⟨h2,.inl h3,h4⟩,by rw[if_neg (hne j h3)]⟩
   ·exact .inr ⟨i,⟨hmi,.inr rfl,he⟩,by simp⟩
  ·rintro(h1|⟨j,⟨h2,h3,h4⟩,h5⟩)
   ·exact .inl ((h.g x).2 (.inl h1))
   ·by_cases hji:j=i
    ·rw[if_pos hji]at h5;exact .inr h5.symm
    ·rw[if_neg hji]at h5
     exact .inl ((h.g x).2 (.inr ⟨j,⟨h2,h3.resolve_right hji,h4⟩,h5⟩))
 ·have hji:j≠i:=by
   rintro rfl
   rcases hej with h1|h1
   ·omega
   ·rw[he]at h1;cases h1
  rw[lO hji]
  exact RT.kp q (h.val j (hL.resolve_right hji) hej)
 ·by_cases hji:j=i
  ·subst hji
   rw[if_pos rfl,acG]
   refine⟨by omega,fun hf=>?_,fun j' h4 h5 h6 h7=>?_,blk,e1,e2,hBa,fun F' φ' w''=>hy F' φ' w''⟩
   ·have:=(h.hr.f0 a ((h.g a).2 (.inl hf))).1
    omega
   ·by_cases hj':j'=j
    ·exact hj'
    ·rw[if_neg hj']at h7
     have:=(hpl j' h4 (h5.resolve_right hj') h6).1
     omega
  ·have hL':=hL.resolve_right hji
   obtain⟨p1,p2,p3,blk',p4,p5,p6,p7⟩:=h.pend j hj hL' hej
   rw[if_neg hji,lO hji]
   refine⟨p1,p2,fun j' h4 h5 h6 h7=>?_,blk',p4,p5,RB.kp q p6 (hx.block _ p6.lt),p7⟩
   by_cases hj':j'=i
   ·rw[if_pos hj']at h7
    have:=(hpl j hj hL' hej).1
    omega
   ·rw[if_neg hj']at h7
    exact p3 j' h4 (h5.resolve_right hj') h6 h7
def JInv.add_o (h:JInv P k Bt F0 N φ0 w0 H S os Y Hf Sf L v w m φ A G)(hml:m<os.length)(hLi:¬L m)(he:ek Y os m=.o)(hle:H.length≤(Hf m).length){u:Value}
  (tr:Tr k Bt G N φ w (Hf m) (Sf m) φ' w' (Hf (m+1)) (Sf (m+1)))(hu:RT k (Fo G φ' (Hf (m+1)) (Sf (m+1))) φ' w' (Y m) u):
  JInv P k Bt F0 N φ0 w0 H S os Y Hf Sf (fun j=>L j∨j=m) (upd v m u) w' (m+1) φ' A G:=by
 have hne:∀j,L j→j≠m:=fun j hL e=>hLi (e▸hL)
 have hset:∀j,(m+1≤j∧(L j∨j=m)∧ek Y os j=.a)↔(m≤j∧L j∧ek Y os j=.a):=by
  intro j
  constructor
  ·rintro⟨h1,h2,h3⟩
   exact⟨by omega,h2.resolve_right (by omega),h3⟩
  ·rintro⟨h1,h2,h3⟩
   have:=hne j h2
   exact⟨by omega,.inl h2,h3⟩
 refine⟨hml,fun j hj hej=>?_,fun j hj hL=>h.post j (by omega) (hL.resolve_right (by omega)),h.below.trans tr.below,tr.hr,h.kp.trans tr.kp h.below.size,fun c hc=>(tr.same c (by omega)).trans (h.same c hc),fun x hx0 hn=>?_,fun x=>?_,fun j hL hej=>?_,fun j hj hL hej=>?_⟩
 ·by_cases hjm:j=m
  ·exact .inr hjm
  ·exact .inl (h.pre j (by omega) hej)
 ·rw[tr.old x (aUj hx0 h.below.size) fun b y hb hs heq=>?_]
  ·exact h.old x hx0 hn
  ·by_cases h0:F0 x
   ·exact(h.hr.f0 x ((h.g x).2 (.inl h0))).2.1 b y hb heq
   ·refine(h.kp.keep x hx0 ?_).2 (.inr ⟨b,y,hb,hs,heq⟩)
    rintro(h1|⟨b',y',h1,h2,h3⟩)
    ·exact h0 h1
    ·exact hn b' y' h1 h2 h3
 ·rw[h.g x]
  constructor
  ·rintro(h1|⟨j,h1,h2⟩)
   ·exact .inl h1
   ·exact .inr ⟨j,(hset j).2 h1,h2⟩
  ·rintro(h1|⟨j,h1,h2⟩)
   ·exact .inl h1
   ·exact .inr ⟨j,(hset j).1 h1,h2⟩
 ·by_cases hjm:j=m
  ·subst hjm;rw[acG];exact hu
  ·rw[lO hjm]
   exact RT.kp tr.kp (h.val j (hL.resolve_right hjm) (hej.imp (fun h=>by omega) id))
 ·obtain⟨hj',hL',_⟩:=(hset j).1 ⟨hj,hL,hej⟩
  obtain⟨p1,p2,p3,blk,p4,p5,p6,p7⟩:=h.pend j hj' hL' hej
  rw[lO (hne j hL')]
  refine⟨p1,p2,fun j' h4 h5 h6=>p3 j' (by omega) ((hset j').1 ⟨h4,h5,h6⟩).2.1 h6,blk,p4,p5,RB.kp tr.kp p6 ?_,p7⟩
  exact tr.old _ p6.lt fun b y hb _=>(h.hr.f0 _ ((h.g _).2 (.inr ⟨j,⟨hj',hL',hej⟩,rfl⟩))).2.1 b y hb
def JInv.congr {L':Nat→Prop}(h:JInv P k Bt F0 N φ0 w0 H S os Y Hf Sf L v w m φ A G)(e:∀j,L j↔L' j):JInv P k Bt F0 N φ0 w0 H S os Y Hf Sf L' v w m φ A G:=by
 have:L=L':=funext fun j=>propext (e j)
 subst this
 exact h
def axG {ro:Option Nat}(hcf:gF P k Bt cf)(hm:P.follows .mixedOrders=ab){id nt:Nat}{kp:List Tmp}{ops:Array Oper}{anc:List (List (Nat × Tmp))}(hR:ROkD P nt kp ops os anc){a0:Act}{Q:Exit→Act→World→Prop}{τ1:List T}{H1:Hp}{S1 W1:List Nat}
  (hN:N≤w0.heap.size)(hH:HR k Bt F0 N φ0 w0 H S)(hF:FrR k (Fo F0 φ0 H S) φ0 w0 kp τ a0)(hsz:a0.tmps.size=nt)(hτ:τ.length=kp.length)(h:ja cf τ os [] H S τ [] []=Z (τ1,H1,S1,W1))
  (fin:∀a' w' φ',Tr k Bt F0 N φ0 w0 H S φ' w' H1 S1→FrR k (Fo F0 φ' H1 S1) φ' w' kp τ1 a'→a'.tmps.size=nt→a'.defers=a0.defers→τ1.length=kp.length→Q .normal a' w'):
  (Code.region id ops ab).wpIn (Fr ro) 0 P Q a0 w0:=by
 obtain⟨Y,Hf,Sf,wf,rf,_,g1,g2,g3,g4,g5,g6,g7,g8,g9⟩:=awm os 0 (fun _=>.nil) (fun _=>[]) (fun _=>U) H S τ [] (by simpa [mL,th]using h)
 simp only[aUe]at g3 g4 g5 g6 g8
 have tx:Tx cf τ os Y Hf Sf wf rf:=⟨g5,fun i d j r hr hd hj=>g6 i d j r hr hd hj⟩
 have hlt:∀{i o},ops[i]?=Z o→i<ops.size:=fun h=>(Array.getElem?_eq_some_iff.1 h).1
 refine ard hm hR.chk (fun i o ho=>?_) (fun j oj t hoj hd=>?_) (fun listed v w=>listed.size=ops.size∧JJ P k Bt F0 N φ0 w0 H S os Y Hf Sf (fun j=>listed.getD j aa=ab) v w) ?_ ?_ ?_
 ·have hil:i<os.length:=by rw[hR.len];exact hlt ho
  exact(hR.op i o os[i] ho (aTX hil)).1
 ·have hil:j<os.length:=by rw[hR.len];exact hlt hoj
  rw[hsz]
  exact(hR.op j oj os[j] hoj (aTX hil)).2.2.1 t hd
 ·intro listed v w i o hJ hls hcl ho hun hmask
  obtain⟨_,m,φ,A,G,hI,hC⟩:=hJ
  have hls':(listed.setIfInBounds i ab).size=ops.size:=by simpa using hls
  have hio:i<ops.size:=hlt ho
  have hil:i<os.length:=by rw[hR.len];exact hio
  have hri:os[i]?=Z os[i]:=aTX hil
  obtain⟨hnd,hop,hdst,hgd,hkp⟩:=hR.op i o os[i] ho hri
  have hNw:N≤w.heap.size:=aUd hN hI.below.size
  have hLi:¬(listed.getD i aa=ab):=by rw[hun];simp
  have hL':∀j,(listed.getD j aa=ab∨j=i)↔(listed.setIfInBounds i ab).getD j aa=ab:=by
   intro j
   rw[aUq,aUq,Array.getElem?_setIfInBounds]
   by_cases hji:i=j
   ·subst hji;simp[hls,hio]
   ·rw[if_neg hji]
    exact⟨fun h=>h.resolve_right fun e=>hji e.symm,.inl⟩
  have opv:∀j,afj ops i j→j<i→listed.getD j aa=ab∧(j<m∨ek Y os j=.r):=by
   intro j hj hji
   have hLj:=hmask j hj
   refine⟨hLj,?_⟩
   by_cases hr:ek Y os j=.r
   ·exact .inr hr
   refine .inl (Nat.lt_of_not_le fun hmj=>?_)
   have hjl:j<os.length:=by omega
   have hrj:os[j]?=Z os[j]:=aTX hjl
   rcases hC with hC|⟨hmlt,hmr,hmL⟩
   ·omega
   rcases aT6 m j with hlt'|hge
   ·have hrm:os[m]?=Z os[m]:=aTX hmlt
    have hkm:kd os[m].op≠.r:=fun e=>hmr (by
     unfold ek;rw[hrm];simp only;split
     ·exact e
     ·rfl)
    have hja:ek Y os j=.a:=by
     cases he:ek Y os j with
     |r=>exact absurd he hr
     |o=>exact absurd he (hI.post j hmj hLj)
     |a=>rfl
    have hkj:=(apd hrj (by simp) hja).1
    by_cases hko:kd os[i].op=.o
    ·exact hmL (hmask m (hR.ord i m os[i] os[m] hri hrm (by omega) hkm hko))
    ·exact hmL (hmask m (hR.al i j m os[i] os[j] os[m] hri hrj hrm hlt' hko hkj hkm hj))
   ·obtain rfl:m=j:=by omega
    exact hmL hLj
  have hanc:∀p∈anc.getD i [],p.1<i∧afj ops i p.1∧(ops[p.1]?).bind (·.dst)=Z p.2:=fun p hp=>hR.chk.ancs i o hio ho p hp
  have hσ:∀od x,RsD (anc.getD i []) kp i od x→RT k (Fo G φ (Hf m) (Sf m)) φ w (bD (mL Y i) τ od) ((i9 a0 v (anc.getD i [])).eval x):=by
   rintro od x (rfl|hk|⟨t,rfl,(⟨d,j,h1,h2,rfl⟩|⟨h1,p,h2,rfl⟩)⟩)
   ·trivial
   ·exact hk.rt
   ·obtain⟨q1,q2,q3⟩:=hanc (j,t) h1
    have ⟨hLj,hjv⟩:=opv j q2 q1
    have:=hI.val j hLj hjv
    show RT _ _ _ _ (ce (mL Y i) d) ((i9 a0 v (anc.getD i [])).tmps.getD t undef)
    rw[aaX Y i d j h2]
    cases hoj:ops[j]? with
    |none=>rw[hoj]at q3;cases q3
    |some oj=>
     rw[hoj,Option.bind_some]at q3
     have htn:t<a0.tmps.size:=by
      have hjl:j<os.length:=by rw[hR.len];exact hlt hoj
      rw[hsz]
      exact(hR.op j oj os[j] hoj (aTX hjl)).2.2.1 t q3
     have hat:=pW a0 v j t htn (anc.getD i []) h1 fun c hc=>by
      obtain⟨r1,r2,r3⟩:=hanc (c,t) hc
      cases hoc:ops[c]? with
      |none=>rw[hoc]at r3;cases r3
      |some oc=>
       rw[hoc,Option.bind_some]at r3
       exact hR.chk.uniq j oj c oc t (hlt hoj) hoj (hlt hoc) hoc r3 q3
     rw[aUq,hat]
     exact this
   ·show RT _ _ _ _ (ce τ p) ((i9 a0 v (anc.getD i [])).tmps.getD t undef)
    rw[aUq,nd a0 v t _ h1,← aUq]
    exact RT.kp hI.kp (hF p t h2)
  have hst:=tx.st i os[i] hri
  have hwant:∀b,ia (mL Y i) os[i].gd=Z b→nn o v=b:=by
   intro b hb
   unfold nn
   cases hg:o.guard with
   |none=>
    rw[hg]at hgd
    cases hrg:os[i].gd with
    |none=>rw[hrg]at hb;simp[ia]at hb;exact hb.symm
    |some x=>rw[hrg]at hgd;exact hgd.elim
   |some gb=>
    obtain⟨g,bb⟩:=gb
    rw[hg]at hgd
    cases hrg:os[i].gd with
    |none=>rw[hrg]at hgd;exact hgd.elim
    |some x=>
     obtain⟨d,b'⟩:=x
     rw[hrg]at hgd hb
     obtain⟨rfl,hgi⟩:=hgd
     obtain⟨_,t,hgt⟩:=hR.chk.guard i o g bb hio ho hg
     obtain⟨q1,q2,_⟩:=hanc (g,t) hgt
     obtain⟨hLg,hgv⟩:=opv g q2 q1
     have hv:=hI.val g hLg hgv
     simp only[ia]at hb
     split at hb
     ·rename_i c hc
      rw[aaX Y i d g hgi]at hc
      rw[hc]at hv
      have hv':v g=.bool c:=cF (x:=.bool c) rfl hv
      cases hb
      simp only[hv']
     ·rename_i hc
      rw[aaX Y i d g hgi]at hc
      rw[hc]at hv
      obtain⟨vs,hv',hs,_⟩:=hv
      cases hb
      simp only[hv']
     ·cases hb
  cases hb:ia (mL Y i) os[i].gd with
  |none=>simp[hZ,hb]at hst
  |some b=>
   have hwb:=hwant b hb
   cases b with
   |false=>
    rw[if_neg (by rw[hwb];simp)]
    have her:ek Y os i=.r:=by unfold ek;rw[hri];simp only[hb]
    have hY:Y i=.tup []:=by
     simp only[hZ,hb,Option.some.injEq,Prod.mk.injEq]at hst
     exact hst.1.symm
    exact⟨hls',((hI.add_r hNw (u:=undef) her (Ext.refl w) (by rw[hY];exact⟨#[],rfl,rfl,fun j d hj=>by simp at hj⟩)).congr hL').jj hcf tx g1⟩
   |true=>
    rw[if_pos hwb]
    have hek:ek Y os i=kd os[i].op:=by unfold ek;rw[hri];simp only[hb]
    have hst0:=hst
    unfold hZ at hst
    rw[hb]at hst
    simp only at hst
    cases hkd:kd os[i].op with
    |r=>
     rw[hkd]at hst hek
     simp only at hst
     split at hst
     ·rename_i y rd hev
      simp only[Option.some.injEq,Prod.mk.injEq]at hst
      obtain⟨rfl,_,_,_,hrd⟩:=hst
      subst hrd
      have hcong:∀b,rf i=Z b→(Hf m)[b]?=(Hf i)[b]?:=by
       intro b hbr
       rw[hbr]at hev
       obtain⟨hisr,hbl,od,x,hRx,hbo⟩:=aJn hop hev
       obtain⟨xb,hφb⟩:=alM hbo (hσ od x hRx)
       have hbm:b<(Hf m).length:=hI.hr.dom_lt hφb
       have hml:=hI.le
       rcases Nat.le_total m i with hmi|hmi
       ·have:=tx.chain hcf (b:=b) (i-m) m (by omega) hbm fun j h1 h2 hbw=>?_
        ·have e:m+(i-m)=i:=by omega
         rw[e]at this
         exact this.symm
        ·have hji:j<i:=by omega
         have hrj:os[j]?=Z os[j]:=aTX (by omega)
         cases hej:ek Y os j with
         |r=>rw[(tx.r (by omega) hej).2.2]at hbw;cases hbw
         |a=>rw[tx.a (by omega) hej]at hbw;cases hbw
         |o=>
          have hnL:¬(listed.getD j aa=ab):=fun hL=>hI.post j h1 hL hej
          obtain⟨d,hd,hdj⟩:=hR.lo i j os[i] os[j] hri hrj hji (fun hb=>hnL (hmask j hb)) (.inl ⟨hisr,(apd hrj (by simp) hej).1⟩)
          have:=(tx.lo i d j os[i] hri hd hdj).1
          rw[hbr]at this
          exact ad5 this hbw
       ·have:=tx.chain hcf (b:=b) (m-i) i (by omega) hbl fun j h1 h2 hbw=>?_
        ·have e:i+(m-i)=m:=by omega
         rw[e]at this
         exact this
        ·have hjl:j<os.length:=by omega
         have hrj:os[j]?=Z os[j]:=aTX hjl
         cases hej:ek Y os j with
         |r=>rw[(tx.r hjl hej).2.2]at hbw;cases hbw
         |a=>rw[tx.a hjl hej]at hbw;cases hbw
         |o=>
          have hji:i<j:=by
           rcases aT6 i j with h|h
           ·exact h
           ·obtain rfl:i=j:=by omega
            rw[hek]at hej;cases hej
          have hLj:listed.getD j aa=ab:=hI.pre j (by omega) (by rw[hej];simp)
          obtain⟨d,hd,hdj⟩:=hR.lo j i os[j] os[i] hrj hri hji (fun hb=>hLi (hcl j hLj i hb)) (.inr ⟨hisr,(apd hrj (by simp) hej).1⟩)
          have:=(tx.lo j d i os[j] hrj hd hdj).2
          rw[hbr]at this
          exact ad5 this hbw
      obtain⟨u,w',h1,h2,h3⟩:=atC hI.hr hop hσ (atB hev hcong)
      rw[h1]
      exact⟨hls',((hI.add_r hNw hek h2 h3).congr hL').jj hcf tx g1⟩
     ·cases hst
    |a=>
     rw[hkd]at hst hek
     simp only at hst
     split at hst
     ·rename_i x y hev
      simp only[Option.some.injEq,Prod.mk.injEq]at hst
      obtain⟨rfl,e1,e2,_,_⟩:=hst
      obtain⟨u,w',h1,h2⟩:=ats (Bt:=Bt) hop hσ hev
      rw[h1]
      have hmi:m≤i:=Nat.le_of_not_lt fun hlt'=>hLi (hI.pre i hlt' (by rw[hek];simp))
      obtain⟨A',G',hI'⟩:=hI.add_a hNw hmi hLi hek h2 e1.symm e2.symm
      exact⟨hls',(hI'.congr hL').jj hcf tx g1⟩
     ·cases hst
    |o=>
     rw[hkd]at hek
     have hmi:m=i:=by
      have h1:m≤i:=Nat.le_of_not_lt fun hlt'=>hLi (hI.pre i hlt' (by rw[hek];simp))
      rcases hC with hC|⟨hmlt,hmr,hmL⟩
      ·omega
      ·rcases aT6 m i with hlt'|hge
       ·have hrm:os[m]?=Z os[m]:=aTX hmlt
        have hkm:kd os[m].op≠.r:=fun e=>hmr (by
         unfold ek;rw[hrm];simp only;split
         ·exact e
         ·rfl)
        exact absurd (hmask m (hR.ord i m os[i] os[m] hri hrm hlt' hkm hkd)) hmL
       ·omega
     subst hmi
     refine aaf (an3 hcf hI.hr hNw hop hσ hb hst0) fun u w' ⟨φ',tr,hr⟩=>?_
     have hle:H.length≤(Hf m).length:=by
      have:=tx.len hcf m 0 (by omega)
      rw[aUe,g1]at this
      exact this
     exact⟨hls',((hI.add_o hil hLi hek hle tr hr).congr hL').jj hcf tx g1⟩
 ·intro listed v w hJ hall
  obtain⟨_,m,φ,A,G,hI,hC⟩:=hJ
  have hmn:m=os.length:=by
   rcases hC with hC|⟨h1,_,h3⟩
   ·exact hC
   ·exact absurd (hall m (by rw[← hR.len];exact h1)) h3
  subst hmn
  have hGF:G=F0:=funext fun x=>propext ⟨fun hx=>by
   rcases(hI.g x).1 hx with h1|⟨j,⟨h1,h2,h3⟩,_⟩
   ·exact h1
   ·have:os[j]?=U:=List.getElem?_eq_none h1
    simp[ek,this]at h3,fun hx=>(hI.g x).2 (.inl hx)⟩
  subst hGF
  have e3:Hf os.length=H1:=g3
  have e4:Sf os.length=S1:=g4
  have hHl:H.length≤H1.length:=by
   have:=tx.len hcf os.length 0 (by omega)
   rw[aUe,g1,e3]at this
   exact this
  have hHR:=hI.hr
  have hKp:=hI.kp
  have hval:=hI.val
  rw[e3,e4]at hHR hKp hval
  refine fin _ w φ ⟨hI.below,hHR,hKp,hI.same,hI.old,hHl⟩ (fun p t hp=>?_) (by rw[oy];exact hsz) (tu _ _ _) (by rw[g9,hτ])
  have memd:∀j t,(j,t)∈te ops ops.size↔j<ops.size∧(ops[j]?).bind (·.dst)=Z t:=by
   intro j t
   simp only[te,List.mem_filterMap,List.mem_range,aUa]
   constructor
   ·rintro⟨x,hx,t',ht',he⟩
    cases he
    exact⟨hx,ht'⟩
   ·rintro⟨hj,ht⟩
    exact⟨j,hj,t,ht,rfl⟩
  by_cases hex:∃(j:Nat) (oj:Oper),ops[j]?=Z oj∧oj.dst=Z t
  ·obtain⟨j,oj,hoj,hd⟩:=hex
   have hjl:j<os.length:=by rw[hR.len];exact hlt hoj
   have hrj:os[j]?=Z os[j]:=aTX hjl
   obtain⟨_,_,hdj,_,hkj⟩:=hR.op j oj os[j] hoj hrj
   have hkp:os[j].kp=Z p:=hkj.2 t p hd hp
   have hpl:p<τ.length:=by rw[hτ];exact(aTU.1 hp).1
   rw[g8 p j os[j] hrj hkp (fun j' r' hj' hk'=>by
    have hj'l:j'<ops.size:=by rw[← hR.len];exact(aTU.1 hj').1
    obtain⟨_,_,_,_,hk2⟩:=hR.op j' ops[j'] r' (aUt hj'l) hj'
    obtain⟨t',e1,e2⟩:=hk2.1 p hk'
    rw[hp]at e2
    cases e2
    exact hR.chk.uniq j oj j' ops[j'] t (hlt hoj) hoj hj'l (aUt hj'l) e1 hd) hpl]
   have hat:=pW a0 v j t (by rw[hsz];exact hdj t hd) (te ops ops.size) ((memd j t).2 ⟨hlt hoj,by rw[hoj,Option.bind_some,hd]⟩) fun c hc=>by
    obtain⟨hc1,hc2⟩:=(memd c t).1 hc
    cases hoc:ops[c]? with
    |none=>rw[hoc]at hc2;cases hc2
    |some oc=>rw[hoc,Option.bind_some]at hc2;exact hR.chk.uniq j oj c oc t (hlt hoj) hoj hc1 hoc hc2 hd
   rw[aUq,hat]
   exact hval j (hall j (hlt hoj)) (.inl hjl)
  ·rw[g7 p fun j r hj hk=>hex ?_]
   ·rw[aUq,nd a0 v t _ fun j hj=>hex ?_,← aUq]
    ·exact RT.kp hKp (hF p t hp)
    ·obtain⟨h1,h2⟩:=(memd j t).1 hj
     cases hoj:ops[j]? with
     |none=>rw[hoj]at h2;cases h2
     |some oj=>rw[hoj,Option.bind_some]at h2;exact⟨j,oj,hoj,h2⟩
   ·have hjl:j<ops.size:=by rw[← hR.len];exact(aTU.1 hj).1
    obtain⟨_,_,_,_,hk2⟩:=hR.op j ops[j] r (aUt hjl) hj
    obtain⟨t',e1,e2⟩:=hk2.1 p hk
    rw[hp]at e2
    cases e2
    exact⟨j,ops[j],aUt hjl,e1⟩
 ·refine⟨by simp,?_⟩
  have hx:Ext w0 { w0 with drawn:=w0.drawn+1 }:=Bel.drew (Bel.refl _ _)
  have q:Kp (Fo F0 φ0 H S) φ0 w0 (Fo F0 φ0 H S) φ0 { w0 with drawn:=w0.drawn+1 }:=Kp.of_ext hx (fun _ _ h=>h) (fun _ _ h=>h)
  have hno:∀j,¬((Array.replicate ops.size aa).getD j aa=ab):=by
   intro j hj
   rw[aUq,Array.getElem?_replicate]at hj
   split at hj<;>simp at hj
  refine JInv.jj hcf tx g1 (m:=0) (φ:=φ0) (A:=fun _=>0) (G:=F0) ⟨Nat.zero_le _,fun j hj=>absurd hj (by omega),fun j _ hj=>absurd hj (hno j),Bel.mono hx hN,by rw[g1,g2];exact hH.ext hx,by rw[g1,g2];exact q,fun _ _=>rfl,Old.ext hx,fun x=>⟨.inl,?_⟩,fun j hj=>absurd hj (hno j),fun j _ hj=>absurd hj (hno j)⟩
  rintro(h1|⟨j,⟨_,h2,_⟩,_⟩)
  ·exact h1
  ·exact absurd h2 (hno j)
end
inductive CC where
 |skip
 |reg (os:List Ro1)
 |seq (a b:CC)
 |cond (c:Od) (t e:CC)
 |block (id:Nat) (b:CC)
 |loop (b:CC)
 |rf (g:Od) (i:Nat)
 |exit (id:Nat)
 |scope (b:CC)
 |ret
 deriving Inhabited
structure St where
 τ:List T
 H:Hp
 S:List Nat
 W:List Nat
 dfs:List Nat
def aG (f:St→Option (X × St)):Nat→St→Option (X × St)
 |0,_=>U
 |n+1,s=>
  match f s with
  |some (.normal,s1)=>aG f n s1
  |r=>r
def uu:LoopState→Bool
 |.busy=>ab
 |_=>aa
def aeY (cf:av)(g:Od)(i:Nat)(s:St):Option (X × St):=
 match mV (bD [] s.τ g)with
 |none=>U
 |some _=>
  match cf (bD [] s.τ g) [.t (.one (.yld (s.H.length+1)))] ((s.H++[Z .df])++[Z (.lp ⟨i,s.τ,.ready,U⟩)]) s.S with
  |some (_,H1,S1,W1)=>
   match H1[s.H.length+1]? with
   |some (Z (.lp r))=>
    if uu r.st then U else if S1.elem (s.H.length+1) then U else
    (match r.pend with
     |none=>Z (.normal,⟨s.τ,H1.set (s.H.length+1) U,S1,W1++s.W,s.H.length::s.dfs⟩)
     |some x=>Z (x,⟨s.τ,H1.set (s.H.length+1) U,S1,W1++s.W,s.H.length::s.dfs⟩))
   |_=>U
  |none=>U
def am (cf:av)(fl:Nat):CC→St→Option (X × St)
 |.skip,s=>Z (.normal,s)
 |.reg os,s=>match ja cf s.τ os [] s.H s.S s.τ [] []with|some (τ,H,S,W)=>Z (.normal,⟨τ,H,S,W++s.W,s.dfs⟩)|none=>U
 |.seq a b,s=>
  match am cf fl a s with
  |some (.normal,s1)=>am cf fl b s1
  |r=>r
 |.cond c t e,s=>
  match bD [] s.τ c with
  |.t (.one (.c (.v (.bool ab))))=>am cf fl t s
  |.t (.one (.c (.v (.bool aa))))=>am cf fl e s
  |_=>U
 |.block id b,s=>
  match am cf fl b s with
  |some (.exit j,s1)=>if ai j id then Z (.normal,s1) else Z (.exit j,s1)
  |r=>r
 |.loop b,s=>aG (am cf fl b) fl s
 |.rf g i,s=>aeY cf g i s
 |.exit id,s=>Z (.exit id,s)
 |.scope b,s=>am cf fl b s
 |.ret,s=>Z (.ret,s)
def RsF (kp:List Tmp)(od:Od)(x:Operand):Prop:=od=.z∨RsK od x∨∃t p,x=.tmp t∧kp[p]?=Z t∧od=.f p
def ln (P:Program)(nt:Nat)(kp:List Tmp)(Bt:aP)(rd:Bool):CC→Code→Prop
 |.skip,.skip=>True
 |.skip,.label _=>True
 |.reg os,.region _ ops ab=>∃anc,ROkD P nt kp ops os anc
 |.reg os,.region _ ops aa=>ROkS P nt kp ops os
 |.seq a b,.seq a' b'=>ln P nt kp Bt rd a a'∧ln P nt kp Bt rd b b'
 |.cond c t e,.cond c' t' e'=>RsF kp c c'∧ln P nt kp Bt rd t t'∧ln P nt kp Bt rd e e'
 |.block id b,.block id' b'=>id=id'∧ln P nt kp Bt rd b b'
 |.loop b,.loop b'=>ln P nt kp Bt rd b b'
 |.rf g i,.rangeFunc g' ps as body=>rd=aa∧RsF kp g g'∧Bt i=Z ⟨nt,kp,ps,as,body⟩
 |.exit id,.exit id'=>id=id'
 |.scope b,.scope b'=>rd=aa∧ln P nt kp Bt rd b b'
 |.ret,.ret=>True
 |_,_=>False
section
variable {P:Program} {k:Cls} {Bt:aP} {F0:Nat→Prop} {N:Nat} {φ φ':Nat→Option Nat} {w w':World} {H H':Hp} {S S':List Nat} {cf:av} {fl:Nat}
def HR.close (hH:HR k Bt F0 N φ w H S){b x:Nat}{y:Blk}(hb:H[b]?=Z (Z y))(hs:b∉S)(hx:φ b=Z x)
  (hsz:w'.heap.size=w.heap.size)(oth:∀z,z≠x→w'.heap[z]?=w.heap[z]?)(hcl:∀vs t fr,w.heap[x]?≠Z (.cells vs t fr)):
  HR k Bt F0 N φ w' (H.set b U) S∧Kp (Fo F0 φ H S) φ w (Fo F0 φ (H.set b U) S) φ w':=by
 have get:∀(b':Nat) e,(H.set b U)[b']?=Z (Z e)→b'≠b∧H[b']?=Z (Z e):=by
  intro b' e h
  rw[List.getElem?_set]at h
  split at h
  ·split at h<;>cases h
  ·rename_i he;exact⟨fun e=>he e.symm,h⟩
 have hFx:Fo F0 φ H S x:=.inr ⟨b,y,hb,hs,hx⟩
 have q:Kp (Fo F0 φ H S) φ w (Fo F0 φ (H.set b U) S) φ w':=by
  refine⟨fun _ _ h=>h,fun z hz hf=>⟨oth z fun e=>hf (e▸hFx),fun h=>hf ?_⟩,fun z vs t fr h=>?_⟩
  ·rcases h with h|⟨b',e,h1,h2,h3⟩
   ·exact .inl h
   ·exact .inr ⟨b',e,(get b' e h1).2,h2,h3⟩
  ·have:z≠x:=fun e=>hcl vs t fr (e▸h)
   exact⟨vs,by rw[oth z this];exact h,rfl⟩
 refine⟨⟨fun c hc=>hH.dom c (by simpa using hc),fun z hz=>?_,fun b1 b2 e1 e2 z h1 h2=>hH.inj b1 b2 e1 e2 z (get b1 e1 h1).2 (get b2 e2 h2).2,fun b' e z h hz=>?_⟩,q⟩
 ·obtain⟨h1,h3,h4⟩:=hH.f0 z hz
  exact⟨by omega,fun b' e hb'=>h3 b' e (get b' e hb').2,ae8 (oth z fun e=>h3 b y hb (e▸hx)) h4⟩
 ·obtain⟨hne,h⟩:=get b' e h
  obtain⟨hNz,hB⟩:=hH.at_ b' e z h hz
  exact⟨hNz,RB.kp q hB (oth z fun ez=>hne (hH.inj b' b e y x h hb (ez▸hz) hx))⟩
def Tr.close (hH:HR k Bt F0 N φ w H S)(hN:N≤w.heap.size){b x:Nat}{y:Blk}(hb:H[b]?=Z (Z y))(hs:b∉S)(hx:φ b=Z x){o o':Obj}(ho:w.heap[x]?=Z o)(hcl:∀vs t fr,o≠.cells vs t fr):
  Tr k Bt F0 N φ w H S φ (w.putObj x o') (H.set b U) S:=by
 have hNx:=(hH.lt hb hx).2
 obtain⟨g1,g2⟩:=hH.close (w':=w.putObj x o') hb hs hx (by simp) (fun z hz=>World.putObj_heap_other hz) (fun vs t fr h=>by rw[ho]at h;cases h;exact hcl _ _ _ rfl)
 exact⟨⟨rfl,rfl,rfl,by simp,fun z hz=>World.putObj_heap_other (by omega),aTS _⟩,g1,g2,fun _ _=>rfl,fun z _ hz=>World.putObj_heap_other fun e=>hz b y hb hs (e▸hx),by simp⟩
def DfR (φ:Nat→Option Nat)(dfs:List Nat)(ds:List Deferred):Prop:=
 ds.length=dfs.length∧∀(j b:Nat),dfs[j]?=Z b→∃x,φ b=Z x∧ds[j]?=Z { target:=.collected x,args:=#[] }
structure SRel (k:Cls) (Bt:aP) (F0:Nat→Prop) (N nt:Nat) (kp:List Tmp) (s:St) (a:Act) (w:World) (φ:Nat→Option Nat):Prop where
 hr:HR k Bt F0 N φ w s.H s.S
 fr:FrR k (Fo F0 φ s.H s.S) φ w kp s.τ a
 sz:a.tmps.size=nt
 len:s.τ.length=kp.length
 df:DfR φ s.dfs a.defers
 n:N≤w.heap.size
def RsF.rt {F:Nat→Prop}{kp:List Tmp}{od:Od}{x:Operand}{τ:List T}{a:Act}(h:RsF kp od x)(hF:FrR k F φ w kp τ a):RT k F φ w (bD [] τ od) (a.eval x):=by
 rcases h with rfl|h|⟨t,p,rfl,h1,rfl⟩
 ·trivial
 ·exact h.rt
 ·exact hF p t h1
def ai1 {F:Nat→Prop}{g:T}{f:FuncId}{ps:List (Nat × Nat)}{u:Value}(h:mV g=Z (f,ps))(r:RT k F φ w g u):∃vs:Array Value,u=.func (.func f) #[] vs∧vs.size=ps.length∧∀(j b o:Nat),ps[j]?=Z (b,o)→∃x,φ b=Z x∧vs[j]?=Z (.pointer (Z ⟨x,o,U⟩)):=by
 unfold mV at h
 split at h
 ·cases h
  exact r
 ·cases h
  have:u=.func (.func f) ⟨[]⟩ ⟨[]⟩:=cF rfl r
  exact⟨#[],this,rfl,fun j b o hj=>by simp at hj⟩
 ·cases h
def iK (hcf:gF P k Bt cf):∀(c:CC) (s s':St) (x:X),am cf fl c s=Z (x,s')→(∀b∈s.W,b∈s'.W)∧Fm s.H s'.W s'.H:=by
 intro c
 have refl:∀s:St,(∀b∈s.W,b∈s.W)∧Fm s.H s.W s.H:=fun s=>⟨fun _ h=>h,Fm.refl _ _⟩
 have trans:∀{s s1 s2:St},((∀b∈s.W,b∈s1.W)∧Fm s.H s1.W s1.H)→((∀b∈s1.W,b∈s2.W)∧Fm s1.H s2.W s2.H)→(∀b∈s.W,b∈s2.W)∧Fm s.H s2.W s2.H:=by
  intro s s1 s2 h1 h2
  refine⟨fun b hb=>h2.1 b (h1.1 b hb),aUd h1.2.1 h2.2.1,fun c hc hW=>?_⟩
  rw[h2.2.2 c (aUj hc h1.2.1) hW,h1.2.2 c hc fun h=>hW (h2.1 c h)]
 induction c with
 |skip=>intro s s' x h;simp only[am,Option.some.injEq,Prod.mk.injEq]at h;obtain⟨_,rfl⟩:=h;exact refl s
 |exit id=>intro s s' x h;simp only[am,Option.some.injEq,Prod.mk.injEq]at h;obtain⟨_,rfl⟩:=h;exact refl s
 |ret=>intro s s' x h;simp only[am,Option.some.injEq,Prod.mk.injEq]at h;obtain⟨_,rfl⟩:=h;exact refl s
 |reg os=>
  intro s s' x h
  simp only[am]at h
  split at h
  ·rename_i hrun
   cases h
   obtain⟨_,h2⟩:=aGC hcf os _ _ _ _ _ _ hrun
   exact⟨fun b hb=>List.mem_append_right _ hb,h2.1,fun c hc hW=>h2.2 c hc fun h=>hW (List.mem_append_left _ h)⟩
  ·cases h
 |seq a b iha ihb=>
  intro s s' x h
  simp only[am]at h
  split at h
  ·rename_i s1 h1
   exact trans (iha _ _ _ h1) (ihb _ _ _ h)
  ·exact iha _ _ _ h
 |cond c t e iht ihe=>
  intro s s' x h
  simp only[am]at h
  split at h
  ·exact iht _ _ _ h
  ·exact ihe _ _ _ h
  ·cases h
 |block id b ih=>
  intro s s' x h
  simp only[am]at h
  split at h
  ·rename_i h1
   have:=ih _ _ _ h1
   split at h<;>· cases h;exact this
  ·exact ih _ _ _ h
 |loop b ih=>
  intro s s' x h
  simp only[am]at h
  have key:∀(m:Nat) (s:St),aG (am cf fl b) m s=Z (x,s')→(∀b∈s.W,b∈s'.W)∧Fm s.H s'.W s'.H:=by
   intro m
   induction m with
   |zero=>intro s h;simp[aG]at h
   |succ m ihm=>
    intro s h
    simp only[aG]at h
    split at h
    ·rename_i s1 h1
     exact trans (ih _ _ _ h1) (ihm _ h)
    ·exact ih _ _ _ h
  exact key fl s h
 |rf g i=>
  intro s s' x h
  simp only[am,aeY]at h
  split at h
  ·cases h
  ·split at h
   ·rename_i y H1 S1 W1 hc
    have hfm:=(hcf _ _ _ _ _ _ _ _ hc).2.1
    have fin:(∀b∈s.W,b∈W1++s.W)∧Fm s.H (W1++s.W) (H1.set (s.H.length+1) U):=by
     have hl:=hfm.1
     simp only[aTW,List.length_singleton]at hl
     refine⟨fun b hb=>List.mem_append_right _ hb,by simp;omega,fun c hc hW=>?_⟩
     rw[aUn (by omega),hfm.2 c (by simp;omega) fun h=>hW (List.mem_append_left _ h),aUs (by simp;omega),aUs hc]
    split at h
    ·split at h
     ·cases h
     ·split at h
      ·cases h
      ·split at h<;>· cases h;exact fin
    ·cases h
   ·cases h
 |scope b ih=>intro s s' x h;simp only[am]at h;exact ih _ _ _ h
def DfR.kp {F F':Nat→Prop}(q:Kp F φ w F' φ' w'){dfs:List Nat}{ds:List Deferred}(h:DfR φ dfs ds):DfR φ' dfs ds:=
 ⟨h.1,fun j b hj=>let ⟨x,hx,he⟩:=h.2 j b hj;⟨x,q.phi b x hx,he⟩⟩
def iL (hcf:gF P k Bt cf)(hm:P.follows .mixedOrders=ab){ro:Option Nat}{rd:Bool}(hro:rd=ab∨ro=U){nt:Nat}{kp:List Tmp}:∀(c:CC) (code:Code) {Q:Exit→Act→World→Prop} {s s':St} {x:X} {a:Act} {w:World} {φ:Nat→Option Nat},
  ln P nt kp Bt rd c code→am cf fl c s=Z (x,s')→SRel k Bt F0 N nt kp s a w φ→
  (∀a' w' φ',Tr k Bt F0 N φ w s.H s.S φ' w' s'.H s'.S→SRel k Bt F0 N nt kp s' a' w' φ'→Q x.toExit a' w')→code.wpIn (Fr ro) 0 P Q a w:=by
 intro c
 induction c with
 |skip=>
  intro code Q s s' x a w φ hc h hs q
  simp only[am,Option.some.injEq,Prod.mk.injEq]at h
  obtain⟨rfl,rfl⟩:=h
  cases code<;>first|exact(show False from hc).elim|exact wpIn_skip (q _ _ _ (Tr.refl hs.hr) hs)|exact wpIn_label (q _ _ _ (Tr.refl hs.hr) hs)
 |exit id=>
  intro code Q s s' x a w φ hc h hs q
  simp only[am,Option.some.injEq,Prod.mk.injEq]at h
  obtain⟨rfl,rfl⟩:=h
  cases code<;>first|exact(show False from hc).elim|skip
  obtain rfl:id=_:=hc
  exact wpIn_exit (q _ _ _ (Tr.refl hs.hr) hs)
 |ret=>
  intro code Q s s' x a w φ hc h hs q
  simp only[am,Option.some.injEq,Prod.mk.injEq]at h
  obtain⟨rfl,rfl⟩:=h
  cases code<;>first|exact(show False from hc).elim|exact wpIn_ret (q _ _ _ (Tr.refl hs.hr) hs)
 |reg os=>
  intro code Q s s' x a w φ hc h hs q
  simp only[am]at h
  split at h
  ·rename_i τ1 H1 S1 W1 hrun
   simp only[Option.some.injEq,Prod.mk.injEq]at h
   obtain⟨rfl,rfl⟩:=h
   have fin:∀a' w' φ',Tr k Bt F0 N φ w s.H s.S φ' w' H1 S1→FrR k (Fo F0 φ' H1 S1) φ' w' kp τ1 a'→a'.tmps.size=nt→a'.defers=a.defers→τ1.length=kp.length→Q .normal a' w':=by
    intro a' w' φ' tr hf hsz hdf hlen
    exact q a' w' φ' tr ⟨tr.hr,hf,hsz,hlen,by rw[hdf];exact hs.df.kp tr.kp,aUd hs.n tr.below.size⟩
   cases code with
   |region id ops dr=>
    cases dr with
    |true=>
     obtain⟨anc,hR⟩:=hc
     exact axG hcf hm hR hs.n hs.hr hs.fr hs.sz hs.len hrun fin
    |false=>
     have hR:ROkS P nt kp ops os:=hc
     refine wpIn_region_list ?_
     have:=aMB (ro:=ro) hcf hR (F0:=F0) (N:=N) (τ:=s.τ) (a0:=a) (Q:=Q) os 0 [] φ w s.H s.S s.τ [] [] a rfl hs.n hs.hr hs.fr ⟨hs.sz,rfl,fun t j d h=>by simp[dm]at h,fun t _=>rfl,fun p t j d _ h=>by simp[dm]at h,fun _ _ _ _=>rfl,hs.len⟩ hrun fin
     simpa using this
   |_=>exact(show False from hc).elim
  ·cases h
 |seq c1 c2 ih1 ih2=>
  intro code Q s s' x a w φ hc h hs q
  cases code<;>first|exact(show False from hc).elim|skip
  obtain⟨hc1,hc2⟩:=hc
  simp only[am]at h
  refine wpIn_seq ?_
  split at h
  ·rename_i s1 h1
   exact ih1 _ hc1 h1 hs fun a' w' φ' tr hs'=>ih2 _ hc2 h hs' fun a'' w'' φ'' tr' hs''=>q _ _ _ (tr.trans tr') hs''
  ·rename_i hne
   refine ih1 _ hc1 h hs fun a' w' φ' tr hs'=>?_
   have:=q a' w' φ' tr hs'
   cases x with
   |normal=>exact absurd h (hne s')
   |exit id=>exact this
   |ret=>exact this
 |cond c c1 c2 ih1 ih2=>
  intro code Q s s' x a w φ hc h hs q
  cases code<;>first|exact(show False from hc).elim|skip
  obtain⟨hc0,hc1,hc2⟩:=hc
  simp only[am]at h
  have hv:=hc0.rt hs.fr
  split at h
  ·rename_i he
   rw[he]at hv
   exact wpIn_cond_true (cF (x:=.bool ab) rfl hv) (ih1 _ hc1 h hs q)
  ·rename_i he
   rw[he]at hv
   exact wpIn_cond_false (cF (x:=.bool aa) rfl hv) (ih2 _ hc2 h hs q)
  ·cases h
 |block id c ih=>
  intro code Q s s' x a w φ hc h hs q
  cases code<;>first|exact(show False from hc).elim|skip
  obtain⟨rfl,hc1⟩:=hc
  simp only[am]at h
  refine wpIn_block ?_
  split at h
  ·rename_i j s1 h1
   refine ih _ hc1 h1 hs fun a' w' φ' tr hs'=>?_
   show(if j=id then Q .normal a' w' else Q (.exit j) a' w')
   split at h
   ·rename_i he
    cases h
    rw[if_pos (by simpa using he)]
    exact q _ _ _ tr hs'
   ·rename_i he
    cases h
    rw[if_neg (by simpa using he)]
    exact q _ _ _ tr hs'
  ·rename_i hne
   refine ih _ hc1 h hs fun a' w' φ' tr hs'=>?_
   have:=q a' w' φ' tr hs'
   cases x with
   |exit id'=>exact absurd h (hne id' s')
   |normal=>exact this
   |ret=>exact this
 |loop c ih=>
  intro code Q s s' x a w φ hc h hs q
  cases code<;>first|exact(show False from hc).elim|skip
  rename_i body
  have hc1:ln P nt kp Bt rd c body:=hc
  simp only[am]at h
  refine wpIn_loop_rounds fl ?_
  have key:∀(m:Nat) {s1:St} {a:Act} {w1:World} {φ1:Nat→Option Nat},aG (am cf fl c) m s1=Z (x,s')→Tr k Bt F0 N φ w s.H s.S φ1 w1 s1.H s1.S→SRel k Bt F0 N nt kp s1 a w1 φ1→Code.roundsIn (Fr ro) 0 P body Q m a w1:=by
   intro m
   induction m with
   |zero=>intro s1 a w1 φ1 h _ _;simp[aG]at h
   |succ m ihm=>
    intro s1 a w1 φ1 h tr hs
    simp only[aG]at h
    rw[roundsIn_succ]
    split at h
    ·rename_i s2 h1
     exact ih _ hc1 h1 hs fun a' w' φ' tr' hs'=>ihm h (tr.trans tr') hs'
    ·rename_i hne
     refine ih _ hc1 h hs fun a' w' φ' tr' hs'=>?_
     have:=q a' w' φ' (tr.trans tr') hs'
     cases x with
     |normal=>exact absurd h (hne s')
     |exit id=>exact this
     |ret=>exact this
  exact key fl h (Tr.refl hs.hr) hs
 |scope c ih=>
  intro code Q s s' x a w φ hc h hs q
  cases code<;>first|exact(show False from hc).elim|skip
  obtain⟨hrd,hc1⟩:=hc
  simp only[am]at h
  have hn:ro=U:=hro.resolve_left (by rw[hrd];simp)
  subst hn
  refine(wpIn_wide (n:=0)).2 (wp_scope_straight ((wpIn_wide (n:=0)).1 (ih _ hc1 h hs fun a' w' φ' tr hs'=>?_)))
  have:=q a' w' φ' tr hs'
  cases x<;>exact this
 |rf g i=>
  intro code Q s s' x a w φ hc h hs q
  cases code<;>first|exact(show False from hc).elim|skip
  rename_i g' ps as body
  obtain⟨hrd,hg,hBt⟩:=hc
  have hn:ro=U:=hro.resolve_left (by rw[hrd];simp)
  subst hn
  simp only[am,aeY]at h
  split at h
  ·cases h
  rename_i fp hfn
  obtain⟨f,fps⟩:=fp
  split at h
  ·rename_i y H1 S1 W1 hcall
   obtain⟨hcb,hfm,hsound⟩:=hcf _ _ _ _ _ _ _ _ hcall
   have hCal:=hcb f fps hfn
   have hgv:=hg.rt hs.fr
   obtain⟨vs,hu,_,_⟩:=ai1 hfn hgv
   refine wpIn_rangeFunc fun fn _=>?_
   let w1:=w.alloc (.deferred (Z []))
   let lp:Loop:={ state:=.ready,pending:=U,fn:=fn,tmps:=a.tmps,params:=ps,assign:=as,body:=body,defers:=w.heap.size }
   let w2:=w1.alloc (.loop lp)
   have hx1:Ext w w1:=iN _
   obtain⟨g1,k1⟩:=rD hs.hr (H1:=s.H) rfl (fun _ _ h=>h) hs.n (aTS _) hx1 (y0:=.df) (fun F ψ _=>gk w _)
   have t1:Tr k Bt F0 N φ w s.H s.S (bw φ s.H.length w.heap.size) w1 (s.H++[Z .df]) s.S:=⟨Bel.mono hx1 hs.n,g1,k1,fun c hc=>eZ (by omega),Old.ext hx1,by simp⟩
   have hx2:Ext w1 w2:=iN _
   have hn1:N≤w1.heap.size:=aUd hs.n hx1.size
   have hl1:(s.H++[Z Blk.df]).length=s.H.length+1:=by simp
   obtain⟨g2,k2⟩:=rD g1 (H1:=s.H++[Z .df]) rfl (fun _ _ h=>h) hn1 (aTS _) hx2 (y0:=.lp ⟨i,s.τ,.ready,U⟩) (fun F ψ qk=>⟨lp,_,gk w1 _,hBt,rfl,rfl,rfl,rfl,rfl,hs.sz,fun p t hp=>by rw[← akl];exact RT.kp (k1.trans qk hx1.size) (hs.fr p t hp)⟩)
   rw[hl1]at g2 k2
   have t2:Tr k Bt F0 N (bw φ s.H.length w.heap.size) w1 (s.H++[Z .df]) s.S (bw (bw φ s.H.length w.heap.size) (s.H.length+1) w1.heap.size) w2 ((s.H++[Z .df])++[Z (.lp ⟨i,s.τ,.ready,U⟩)]) s.S:=
    ⟨Bel.mono hx2 hn1,g2,k2,fun c hc=>eZ (by rw[hl1]at hc;omega),Old.ext hx2,by simp⟩
   have t12:=t1.trans t2
   have hn2:N≤w2.heap.size:=aUd hn1 hx2.size
   have hyield:=hsound F0 N _ w2 (.func (.func f) #[] vs) [.func (.yield w1.heap.size) #[] #[]] g2 hn2 (by rw[← hu];exact RT.kp t12.kp hgv) rfl (fun j t hj=>by
    have:j=0:=by have:=(aTU.1 hj).1;simpa using this
    subst this
    simp at hj
    subst hj
    exact⟨_,rfl,w1.heap.size,gN,rfl⟩)
   have hrun:((do let d ← Deferred.ofValue (.func (.func f) #[] vs) #[.func (.yield w1.heap.size) #[] #[]];invoke d.target d.args:Sem Next).run P w2)=.ok (.enter f (#[.func (.yield w1.heap.size) #[] #[]]++vs)) w2:=by
    simp[Deferred.ofValue,invoke,rI hCal]
   rw[hrun]at hyield
   have hsz1:w1.heap.size=w.heap.size+1:=by simp[w1]
   refine⟨w.heap.size+1,[{ target:=.collected w.heap.size,args:=#[] }],w2,{ target:=.fn (.func f) vs,args:=#[.func (.yield (w.heap.size+1)) #[] #[]] },w2,f,#[.func (.yield (w.heap.size+1)) #[] #[]]++vs,w2,run_enterLoop_outer _ _ _ _ _,?_,?_,?_,fun hd=>by simp[Fence.wide]at hd,?_⟩
   ·simp only[resolve,hu]
    simp[Deferred.ofValue]
    rfl
   ·intro f' _;trivial
   ·simp[invoke,rI hCal]
   ·rw[← hsz1]
    refine CallsIn.mono (aal.2 hyield) ?_
    rintro e w3 ⟨u,rfl,hpost⟩
    obtain⟨φ3,t3,_⟩:=Tr.of_post hpost hfm.1
    have t13:=t12.trans t3
    have hb3:φ3 (s.H.length+1)=Z w1.heap.size:=by rw[t3.same _ (by simp)];exact gN
    have hd3:φ3 s.H.length=Z w.heap.size:=by
     rw[t3.same _ (by simp),eZ (by omega)]
     exact gN
    split at h
    ·rename_i r hlp
     split at h
     ·cases h
     rename_i hbusy
     split at h
     ·cases h
     rename_i hS1
     obtain⟨hN3,l3,bd,hl3,hB3,_,_,_,hst3,hpd3,_,_⟩:=t3.hr.at_ _ _ _ hlp hb3
     have hbs:s.H.length+1∉S1:=by simpa using hS1
     have hnb:l3.state≠.busy:=by
      rw[hst3]
      intro e
      rw[e]at hbusy
      exact hbusy rfl
     have hn3:N≤w3.heap.size:=aUd hn2 t3.below.size
     have t4:=Tr.close t3.hr hn3 hlp hbs hb3 (o':=.loop { l3 with state:=.exhausted }) hl3 (fun _ _ _ h=>by cases h)
     have t14:=t13.trans t4
     have hs4:∀W',SRel k Bt F0 N nt kp ⟨s.τ,H1.set (s.H.length+1) U,S1,W',s.H.length::s.dfs⟩ { a with defers:={ target:=.collected w.heap.size,args:=#[] }::a.defers } (w3.putObj w1.heap.size (.loop { l3 with state:=.exhausted })) φ3:=by
      intro W'
      refine⟨t14.hr,fun p t hp=>RT.kp t14.kp (hs.fr p t hp),hs.sz,hs.len,⟨by simp[hs.df.1],fun j b hj=>?_⟩,aUd hs.n t14.below.size⟩
      cases j with
      |zero=>simp at hj;subst hj;exact⟨_,hd3,rfl⟩
      |succ j=>simpa using (hs.df.kp t14.kp).2 j b (by simpa using hj)
     split at h
     ·rename_i hp
      simp only[Option.some.injEq,Prod.mk.injEq]at h
      obtain⟨rfl,rfl⟩:=h
      have e:l3.pending=U:=by rw[hpd3,hp];rfl
      exact⟨U,_,(run_endLoop hl3 hnb).trans (congrArg (fun z=>Result.ok z _) e),q _ _ _ t14 (hs4 _)⟩
     ·rename_i x' hp
      simp only[Option.some.injEq,Prod.mk.injEq]at h
      obtain⟨rfl,rfl⟩:=h
      have e:l3.pending=Z x'.toCode:=by rw[hpd3,hp];rfl
      refine⟨Z x'.toCode,_,(run_endLoop hl3 hnb).trans (congrArg (fun z=>Result.ok z _) e),?_⟩
      have:=q _ _ _ t14 (hs4 _)
      cases x' with
      |normal=>exact wpIn_skip this
      |exit id=>exact wpIn_exit this
      |ret=>exact wpIn_ret this
    ·cases h
  ·cases h
end
inductive Rs1 where
 |z
 |p (p:Nat)
 |cell (agg:Bool) (n p:Nat)
 deriving Inhabited
structure FnC where
 wm:Bool
 nk:Nat
 pin:List (Option Nat)
 code:CC
 res:List Rs1
 deriving Inhabited
structure BdC where
 nk:Nat
 pin:List (Option Nat)
 as:CC
 body:CC
 deriving Inhabited
abbrev kU:=List T→Hp→List Nat→Option (T × Hp × List Nat × List Nat)
inductive FnE where
 |none
 |code (c:FnC)
 |nat (m:List V1→Option (List V1))
 |wnat (m:kU)
structure Tb where
 fn:Nat→FnE
 bd:Nat→Option BdC
def bv:List (Option Nat)→List T→List T→List T
 |some p::r,t::ts,τ=>bv r ts (dl τ p t)
 |none::r,_::ts,τ=>bv r ts τ
 |_,_,τ=>τ
def dT:List Nat→Hp→List Nat→Option Hp
 |[],H,_=>Z H
 |d::r,H,S=>match H[d]? with|some (Z .df)=>if S.elem d then U else dT r (H.set d U) S|_=>U
def fu (H:Hp)(τ:List T):List Rs1→Option (List T)
 |[]=>Z []
 |.z::r=>match fu H τ r with|some l=>Z (.nil::l)|none=>U
 |.p p::r=>match fu H τ r with|some l=>Z (ce τ p::l)|none=>U
 |.cell ag n p::r=>match lW ag n H (ce τ p),fu H τ r with|some y,Z l=>Z (y::l)|_,_=>U
def ir:List T→Option (List T1)
 |[]=>Z []
 |.t x::r=>match ir r with|some l=>Z (x::l)|none=>U
 |_=>U
def mj:List T→Option T
 |[t]=>Z t
 |l=>match ir l with|some xs=>Z (.tup xs)|none=>U
def er:Nat→List T
 |0=>[]
 |n+1=>.nil::er n
def cy (cf:av)(fl:Nat)(c:FnC)(args:List T)(H:Hp)(S:List Nat):Option (T × Hp × List Nat × List Nat):=
 if ai args.length c.pin.length then
  match am cf fl c.code ⟨bv c.pin args (er c.nk),H,S,[],[]⟩with
  |none=>U
  |some (.exit _,_)=>U
  |some (_,s)=>
   match dT s.dfs s.H s.S with
   |none=>U
   |some H1=>
    match fu H1 s.τ c.res with
    |none=>U
    |some l=>match mj l with|some y=>Z (y,H1,s.S,s.dfs++s.W)|none=>U
 else U
def li (H:Hp):T→Option (List V1 × List Nat)
 |.t x=>match oS H (.t x)with|some (v,bs)=>Z ([v],bs)|none=>U
 |.tup []=>Z ([],[])
 |.tup [_]=>U
 |.tup l=>jc H (l.map .t)
 |.row _ _=>U
 |.nil=>U
def bM (cf:av)(fl:Nat)(c:FnC)(as:List V1):Option (List V1):=
 match cy cf fl c (as.map fun v=>.t v.t1) [] []with
 |some (y,H1,_,_)=>match li H1 y with|some (rs,_)=>Z rs|none=>U
 |none=>U
def xQ (bs S:List Nat):List Nat:=bs.filter (fun b=>!S.elem b)++S
def bC (m:List V1→Option (List V1))(args:List T)(H:Hp)(S:List Nat):Option (T × Hp × List Nat × List Nat):=
 match o6 m args H with
 |some (y,bs)=>Z (y,H,xQ bs S,[])
 |none=>U
def zx (p:Nat × Nat):T:=.t (.one (.ptr p.1 p.2))
def kE:X→Option X
 |.normal=>U
 |x=>Z x
def z7:X→LoopState
 |.normal=>.ready
 |_=>.done
def qH:X→Bool
 |.normal=>ab
 |_=>aa
def uv:LoopState→Bool
 |.ready=>ab
 |_=>aa
def lX (bd:Nat→Option BdC)(cf:av)(fl:Nat)(b:Nat)(args:List T)(H:Hp)(S:List Nat):Option (T × Hp × List Nat × List Nat):=
 match H[b]? with
 |some (Z (.lp r))=>
  match bd r.i with
  |none=>U
  |some c=>
   if ai args.length c.pin.length&&ai r.τ.length c.nk then
    match am cf fl c.as ⟨bv c.pin args r.τ,H,S,[],[]⟩with
    |some (.normal,s1)=>
     match s1.H[b]? with
     |some (Z (.lp r1))=>
      if uv r1.st&&!s1.S.elem b then
       match am cf fl c.body { s1 with H:=s1.H.set b (Z (.lp { r1 with st:=.busy })) } with
       |none=>U
       |some (x,s2)=>
        match s2.H[b]? with
        |some (Z (.lp r2))=>if s2.S.elem b then U else Z (.t (.one (.c (.v (.bool (qH x))))),s2.H.set b (Z (.lp { r2 with st:=z7 x,pend:=kE x })),s2.S,b::s2.W)
        |_=>U
      else U
     |_=>U
    |_=>U
   else U
 |_=>U
def ao (tb:Tb)(fl:Nat):Nat→av
 |0,_,_,_,_=>U
 |n+1,g,args,H,S=>
  match mV g with
  |some (f,ps)=>
   match tb.fn f with
   |.code c=>if c.wm then cy (ao tb fl n) fl c (args++ps.map zx) H S else (match ps with|[]=>bC (bM (ao tb fl n) fl c) args H S|_=>U)
   |.nat m=>(match ps with|[]=>bC m args H S|_=>U)
   |.wnat m=>m (args++ps.map zx) H S
   |.none=>U
  |none=>
   match g with
   |.t (.one (.yld b))=>lX tb.bd (ao tb fl n) fl b args H S
   |_=>U
def sZ (P:Program)(kp:List Tmp):List ResultVar→List Rs1→Prop
 |[],[]=>True
 |.tmp _::l,.z::r=>sZ P kp l r
 |.tmp t::l,.p p::r=>kp[p]?=Z t∧sZ P kp l r
 |.cell a t::l,.cell ag n p::r=>kp[p]?=Z a∧vE P t ag n∧sZ P kp l r
 |_,_=>False
structure FnOk (P:Program) (Bt:aP) (f:FuncId) (c:FnC):Prop where
 ok:∃fn code kp,P.funcs[f]?=Z fn∧(fn.name == "runtime.NumGoroutine")=aa∧fn.body=Z code∧kp.length=c.nk∧c.pin.length≤fn.ntmps∧(∀(j p:Nat),c.pin[j]?=Z (Z p)→kp[p]?=Z j)∧
  ln P fn.ntmps kp Bt aa c.code code∧sZ P kp fn.results.toList c.res
structure BdOk (P:Program) (Bt:aP) (i:Nat) (c:BdC):Prop where
 ok:∃bd,Bt i=Z bd∧bd.kp.length=c.nk∧bd.params.size=c.pin.length∧(∀(j t:Nat),bd.params[j]?=Z t→t<bd.n)∧(∀(j t:Nat) r,bd.params[j]?=Z t→c.pin[j]?=Z r→KpS bd.kp (Z t) r)∧
  (∀(j j' t:Nat),bd.params[j]?=Z t→bd.params[j']?=Z t→j=j')∧ln P bd.n bd.kp Bt ab c.as bd.assign∧ln P bd.n bd.kp Bt ab c.body bd.body
def pZ (P:Program)(k:Cls)(Bt:aP)(f:FuncId)(m:kU):Prop:=
 pY P f∧
 ∀as H S y H' S' W,m as H S=Z (y,H',S',W)→Fm H W H'∧∀(F0:Nat→Prop) (N:Nat) (φ:Nat→Option Nat) (w:World) (vs:List Value),HR k Bt F0 N φ w H S→N≤w.heap.size→vs.length=as.length→(∀(j:Nat) a,as[j]?=Z a→∃u,vs[j]?=Z u∧RT k (Fo F0 φ H S) φ w a u)→
  Calls P f vs.toArray w fun e w'=>∃u,e=.returned u∧Post k Bt F0 N φ w H S H' S' y u w'
structure TbOk (P:Program) (k:Cls) (Bt:aP) (tb:Tb):Prop where
 code:∀f c,tb.fn f=.code c→FnOk P Bt f c
 nat:∀f m,tb.fn f=.nat m→ko P k f m
 wnat:∀f m,tb.fn f=.wnat m→pZ P k Bt f m
 bd:∀i c,tb.bd i=Z c→BdOk P Bt i c
section
variable {P:Program} {k:Cls} {Bt:aP} {F0:Nat→Prop} {N:Nat} {φ φ':Nat→Option Nat} {w w':World} {H H':Hp} {S S':List Nat} {cf:av} {fl:Nat}
def akn (n m:Nat):ce (er n) m=.nil:=by
 induction n generalizing m with
 |zero=>rfl
 |succ n ih=>cases m with
  |zero=>rfl
  |succ m=>exact ih m
def nv (n:Nat):(er n).length=n:=by induction n with|zero=>rfl|succ n ih=>simp[er,ih]
def jk:∀(pin:List (Option Nat)) (args τ:List T),(bv pin args τ).length=τ.length
 |[],_,_=>by simp[bv]
 |some p::r,t::ts,τ=>by rw[bv,jk r ts,ii]
 |none::r,_::ts,τ=>by rw[bv,jk r ts]
 |some p::r,[],τ=>by simp[bv]
 |none::r,[],τ=>by simp[bv]
def kA:∀(pin:List (Option Nat)) (args τ:List T) (p:Nat),args.length=pin.length→ce (bv pin args τ) p=ce τ p∧(∀j:Nat,pin[j]?≠Z (Z p))∨(∃(j:Nat) (a:T),pin[j]?=Z (Z p)∧args[j]?=Z a∧(ce (bv pin args τ) p=a∨τ.length≤p))
 |[],args,τ,p,_=>.inl ⟨by simp[bv],fun j=>by simp⟩
 |none::r,t::ts,τ,p,hl=>by
  rcases kA r ts τ p (by simpa using hl)with⟨h1,h2⟩|⟨j,a,h1,h2,h3⟩
  ·refine .inl ⟨h1,fun j=>?_⟩
   cases j with
   |zero=>simp
   |succ j=>simpa using h2 j
  ·exact .inr ⟨j+1,a,by simpa using h1,by simpa using h2,h3⟩
 |some q::r,t::ts,τ,p,hl=>by
  rcases kA r ts (dl τ q t) p (by simpa using hl)with⟨h1,h2⟩|⟨j,a,h1,h2,h3⟩
  ·by_cases hpq:p=q
   ·subst hpq
    refine .inr ⟨0,t,rfl,rfl,?_⟩
    rw[bv,h1,gg]
    by_cases hlt:p<τ.length
    ·exact .inl (by rw[if_pos ⟨rfl,hlt⟩])
    ·exact .inr (by omega)
   ·refine .inl ⟨?_,fun j=>?_⟩
    ·rw[bv,h1,gg,if_neg (fun h=>hpq h.1)]
    ·cases j with
     |zero=>simp;exact fun e=>hpq e.symm
     |succ j=>simpa using h2 j
  ·exact .inr ⟨j+1,a,by simpa using h1,by simpa using h2,by rw[bv];simpa [ii]using h3⟩
 |some q::r,[],τ,p,hl=>by simp at hl
 |none::r,[],τ,p,hl=>by simp at hl
def aro {t:TypeId}{u u':Value}(h:(Instr.loadAt t u).run P w=.ok u' w):(do loadVar t (← asAddr u)).run P w=.ok u' w:=by
 unfold Instr.loadAt at h
 have key:∀a,u=.pointer (Z a)→(do loadVar t (← asAddr u)).run P w=.ok u' w:=by
  rintro a rfl
  simpa [Instr.sureAddr,asAddr]using h
 cases u with
 |pointer a=>
  cases a with
  |some a=>exact key a rfl
  |none=>simp[Instr.sureAddr]at h
 |_=>simp[Instr.sureAddr]at h
def zW (tmps:Array Value):ResultVar→Sem Value
 |.tmp t=>pure (tmps.getD t undef)
 |.cell ad t=>do loadVar t (← asAddr (tmps.getD ad undef))
def are (fn:Func)(tmps:Array Value):results fn tmps=(do let vs ← fn.results.mapM (zW tmps);pure (if h:vs.size=1 then vs[0] else .tuple vs)):=by
 have:(fun r:ResultVar=>match r with|.tmp t=>(pure (tmps.getD t undef):Sem Value)|.cell a t=>do loadVar t (← asAddr (tmps.getD a undef)))=zW tmps:=by
  funext r;cases r<;>rfl
 unfold results
 rw[← this]
 rfl
def aaZ (hH:HR k Bt F0 N φ w H S){kp:List Tmp}{τ:List T}{a:Act}(hF:FrR k (Fo F0 φ H S) φ w kp τ a):∀{rs:List ResultVar} {l:List Rs1} {ts:List T},sZ P kp rs l→fu H τ l=Z ts→
  ∃us:List Value,(rs.mapM (zW a.tmps)).run P w=.ok us w∧us.length=ts.length∧∀(j:Nat) t,ts[j]?=Z t→∃u,us[j]?=Z u∧RT k (Fo F0 φ H S) φ w t u
 |[],[],ts,_,h=>by simp[fu]at h;subst h;exact⟨[],by simp,rfl,fun j t hj=>by simp at hj⟩
 |[],_::_,ts,hr,_=>hr.elim
 |.tmp _::_,[],ts,hr,_=>hr.elim
 |.cell _ _::_,[],ts,hr,_=>hr.elim
 |.cell _ _::_,.z::_,ts,hr,_=>hr.elim
 |.cell _ _::_,.p _::_,ts,hr,_=>hr.elim
 |.tmp _::_,.cell _ _ _::_,ts,hr,_=>hr.elim
 |.tmp t::rs,.z::l,ts,hr,h=>by
  simp only[fu]at h
  split at h
  ·rename_i l' hl
   cases h
   obtain⟨us,h1,h2,h3⟩:=aaZ hH hF (show sZ P kp rs l from hr) hl
   refine⟨a.tmps.getD t undef::us,by simp[List.mapM_cons,zW,h1],by simp[h2],fun j x hj=>?_⟩
   cases j with
   |zero=>simp at hj;subst hj;exact⟨_,rfl,tv⟩
   |succ j=>simpa using h3 j x (by simpa using hj)
  ·cases h
 |.tmp t::rs,.p p::l,ts,hr,h=>by
  obtain⟨hp,hr⟩:=hr
  simp only[fu]at h
  split at h
  ·rename_i l' hl
   cases h
   obtain⟨us,h1,h2,h3⟩:=aaZ hH hF hr hl
   refine⟨a.tmps.getD t undef::us,by simp[List.mapM_cons,zW,h1],by simp[h2],fun j x hj=>?_⟩
   cases j with
   |zero=>simp at hj;subst hj;exact⟨_,rfl,hF p t hp⟩
   |succ j=>simpa using h3 j x (by simpa using hj)
  ·cases h
 |.cell ad t::rs,.cell ag n p::l,ts,hr,h=>by
  obtain⟨hp,ht,hr⟩:=hr
  simp only[fu]at h
  split at h
  ·rename_i y l' hy hl
   cases h
   obtain⟨us,h1,h2,h3⟩:=aaZ hH hF hr hl
   obtain⟨u',h4,h5⟩:=amF (P:=P) hH ht hy (hF p ad hp)
   have h6:=aro h4
   refine⟨u'::us,?_,by simp[h2],fun j x hj=>?_⟩
   ·have h7:(zW a.tmps (.cell ad t)).run P w=.ok u' w:=h6
    simp[List.mapM_cons,h7,h1]
   ·cases j with
    |zero=>simp at hj;subst hj;exact⟨u',rfl,h5⟩
    |succ j=>simpa using h3 j x (by simpa using hj)
  ·cases h
def aiE:∀{l:List T} {xs:List T1},ir l=Z xs→l=xs.map .t
 |[],xs,h=>by simp[ir]at h;subst h;rfl
 |.t x::r,xs,h=>by
  simp only[ir]at h
  split at h
  ·rename_i l hl
   cases h
   rw[aiE hl];rfl
  ·cases h
 |.nil::_,xs,h=>by simp[ir]at h
 |.row _ _::_,xs,h=>by simp[ir]at h
 |.tup _::_,xs,h=>by simp[ir]at h
def ayV {F:Nat→Prop}{ts:List T}{y:T}{us:List Value}(h:mj ts=Z y)(hl:us.length=ts.length)(hr:∀(j:Nat) t,ts[j]?=Z t→∃u,us[j]?=Z u∧RT k F φ w t u):
  RT k F φ w y (if h:us.toArray.size=1 then us.toArray[0] else .tuple us.toArray):=by
 unfold mj at h
 split at h
 ·rename_i t
  cases h
  obtain⟨u,hu,hq⟩:=hr 0 y rfl
  match us,hl with
  |[v],_=>simp at hu;subst hu;simpa using hq
 ·rename_i hne
  split at h
  ·rename_i xs hxs
   cases h
   have e:=aiE hxs
   have hl1:¬us.toArray.size=1:=by
    intro h1
    simp at h1
    rw[h1]at hl
    match ts,hl with
    |[t],_=>exact hne t rfl
   rw[dif_neg hl1]
   refine⟨us.toArray,rfl,by rw[e]at hl;simpa using hl,fun j d hj=>?_⟩
   obtain⟨u,hu,hq⟩:=hr j (.t d) (by rw[e,aUm,hj];rfl)
   exact⟨u,by simpa using hu,hq⟩
  ·cases h
def awa (hH:HR k Bt F0 N φ w H S){kp:List Tmp}{τ:List T}{a:Act}(hF:FrR k (Fo F0 φ H S) φ w kp τ a){fn:Func}{l:List Rs1}{ts:List T}{y:T}(hr:sZ P kp fn.results.toList l)(h:fu H τ l=Z ts)(hy:mj ts=Z y):
  ∃v,(results fn a.tmps).run P w=.ok v w∧RT k (Fo F0 φ H S) φ w y v:=by
 obtain⟨us,h1,h2,h3⟩:=aaZ hH hF hr h
 refine⟨_,?_,ayV hy h2 h3⟩
 rw[are]
 have e:fn.results.mapM (zW a.tmps)=(do let us ← fn.results.toList.mapM (zW a.tmps);pure us.toArray):=by
  rw[Array.mapM_eq_mapM_toList]
  rfl
 rw[e]
 simp[h1]
def yQ {fn:Func}{tmps:Array Value}{R:Ending→World→Prop}{H1:Hp}:∀(dfs:List Nat) (ds:List Deferred) (H:Hp) (w:World),HR k Bt F0 N φ w H S→N≤w.heap.size→DfR φ dfs ds→dT dfs H S=Z H1→
  (∀w',Tr k Bt F0 N φ w H S φ w' H1 S→∃v,(results fn tmps).run P w'=.ok v w'∧R (.returned v) w')→LeavesInM Fence.wide 0 P fn tmps R ds .returning w
 |[],ds,H,w,hH,hN,hd,h,fin=>by
  have:ds=[]:=by have:=hd.1;simpa using this
  subst this
  simp only[dT,Option.some.injEq]at h
  subst h
  exact fin w (Tr.refl hH)
 |d::dfs,ds,H,w,hH,hN,hd,h,fin=>by
  cases ds with
  |nil=>have:=hd.1;simp at this
  |cons e ds=>
   obtain⟨x,hx,he⟩:=hd.2 0 d rfl
   simp at he;subst he
   simp only[dT]at h
   split at h
   ·rename_i hb
    split at h
    ·cases h
    ·rename_i hS
     have hbs:d∉S:=by simpa using hS
     obtain⟨_,hdf⟩:=hH.at_ d _ x hb hx
     have hdf':w.heap[x]?=Z (.deferred (Z [])):=hdf
     have t:=Tr.close hH hN hb hbs hx (o':=.deferred U) hdf' (fun _ _ _ h=>by cases h)
     refine⟨by simp,.inl ⟨x,_,rfl,run_takeDeferred hdf',?_⟩⟩
     exact yQ dfs ds _ _ t.hr (aUd hN t.below.size) ⟨by have:=hd.1;simpa using this,fun j b hj=>by simpa using hd.2 (j+1) b (by simpa using hj)⟩ h fun w' t'=>fin w' (t.trans t')
   ·cases h
def xZ:∀(dfs:List Nat) (H H1:Hp),dT dfs H S=Z H1→Fm H dfs H1
 |[],H,H1,h=>by simp only[dT,Option.some.injEq]at h;subst h;exact Fm.refl _ _
 |d::dfs,H,H1,h=>by
  simp only[dT]at h
  split at h
  ·split at h
   ·cases h
   ·exact(Fm.set H d U).trans (xZ dfs _ _ h)
  ·cases h
def ue (hcf:gF P k Bt cf)(hm:P.follows .mixedOrders=ab){f:FuncId}{c:FnC}(hf:FnOk P Bt f c):pZ P k Bt f (cy cf fl c):=by
 obtain⟨fn,code,kp,hfn,hname,hbody,hkp,hpn,hpin,hcode,hres⟩:=hf.ok
 refine⟨⟨fn,hfn,hname,by simp[hbody]⟩,fun as H S y H' S' W h=>?_⟩
 unfold cy at h
 split at h
 rotate_left
 ·cases h
 rename_i hal
 have hal':as.length=c.pin.length:=by simpa using hal
 have key:∀(x:X) (s:St) (H1:Hp) (l:List T),am cf fl c.code ⟨bv c.pin as (er c.nk),H,S,[],[]⟩=Z (x,s)→(∀id,x≠.exit id)→dT s.dfs s.H s.S=Z H1→fu H1 s.τ c.res=Z l→mj l=Z y→H'=H1→S'=s.S→W=s.dfs++s.W→
   Fm H W H'∧∀(F0:Nat→Prop) (N:Nat) (φ:Nat→Option Nat) (w:World) (vs:List Value),HR k Bt F0 N φ w H S→N≤w.heap.size→vs.length=as.length→(∀(j:Nat) a,as[j]?=Z a→∃u,vs[j]?=Z u∧RT k (Fo F0 φ H S) φ w a u)→
    Calls P f vs.toArray w fun e w'=>∃u,e=.returned u∧Post k Bt F0 N φ w H S H' S' y u w':=by
  rintro x s H1 l he hx hcl hrs hmk rfl rfl rfl
  obtain⟨_,hfm⟩:=iK hcf _ _ _ _ he
  have hfm2:=xZ (S:=s.S) _ _ _ hcl
  refine⟨?_,fun F0 N φ w vs hH hN hl hr=>?_⟩
  ·have:=hfm.trans hfm2
   exact⟨this.1,fun c hc hW=>this.2 c hc (by simpa [or_comm]using hW)⟩
  ·refine aal (ro:=U) |>.1 ?_
   refine callsIn_of_wp_marks (F:=Fence.wide) hfn hbody trivial ?_
   have hsz:(vs.toArray++Array.replicate (fn.ntmps-vs.toArray.size) undef).size=fn.ntmps:=by simp;omega
   have hs:SRel k Bt F0 N fn.ntmps kp ⟨bv c.pin as (er c.nk),H,S,[],[]⟩ { tmps:=vs.toArray++Array.replicate (fn.ntmps-vs.toArray.size) undef,defers:=[] } w φ:=by
    refine⟨hH,fun p t hp=>?_,hsz,by rw[jk,nv,hkp],⟨rfl,fun j b hj=>by simp at hj⟩,hN⟩
    rcases kA c.pin as (er c.nk) p hal' with⟨h1,_⟩|⟨j,a,h1,h2,h3⟩
    ·show RT _ _ _ _ (ce (bv c.pin as (er c.nk)) p) _
     rw[h1,akn];trivial
    ·have hpl:¬(er c.nk).length≤p:=by
      rw[nv,← hkp]
      have:=(aTU.1 hp).1
      omega
     show RT _ _ _ _ (ce (bv c.pin as (er c.nk)) p) _
     rw[h3.resolve_right hpl]
     have hkj:=hpin j p h1
     rw[hp]at hkj
     cases hkj
     obtain⟨u,hu,hq⟩:=hr t a h2
     have htl:t<vs.length:=(aTU.1 hu).1
     rw[aUq,Array.getElem?_append_left (by simpa using htl),List.getElem?_toArray,hu]
     exact hq
   refine iL (ro:=U) (rd:=aa) hcf hm (.inr rfl) c.code code hcode he hs fun a' w' φ' tr hs'=>?_
   have post:LeavesInM Fence.wide 0 P fn a'.tmps (fun e w'=>∃u,e=.returned u∧Post k Bt F0 N φ w H S H' s.S y u w') a'.defers .returning w':=by
    refine yQ s.dfs a'.defers s.H w' hs'.hr hs'.n hs'.df hcl fun w'' tr'=>?_
    obtain⟨v,h1,h2⟩:=awa (P:=P) tr'.hr (fun p t hp=>RT.kp tr'.kp (hs'.fr p t hp)) hres hrs hmk
    exact⟨v,h1,v,rfl,(tr.trans tr').post h2⟩
   cases x with
   |normal=>exact post
   |ret=>exact post
   |exit id=>exact absurd rfl (hx id)
 split at h
 ·cases h
 ·cases h
 ·rename_i x s hne he
  split at h
  ·cases h
  ·rename_i H1 hcl
   split at h
   ·cases h
   ·rename_i l hrs
    split at h
    ·rename_i y' hmk
     simp only[Option.some.injEq,Prod.mk.injEq]at h
     obtain⟨rfl,rfl,rfl,rfl⟩:=h
     exact key x s H1 l he hne hcl hrs hmk rfl rfl rfl
    ·cases h
end
section
variable {P:Program} {k:Cls} {Bt:aP} {F0:Nat→Prop} {N:Nat} {φ φ':Nat→Option Nat} {w w':World} {H H':Hp} {S S':List Nat} {cf:av} {fl:Nat}
def aom (hH:HR k Bt F0 N φ w H S){y:T}{rs:List V1}{bs:List Nat}{u:Value}(h:li H y=Z (rs,bs))(hs:∀b∈bs,b∈S)(r:RT k (Fo F0 φ H S) φ w y u):RT k (Fo F0 φ H S) φ0 w (oE rs) u:=by
 unfold li at h
 split at h
 ·split at h
  ·rename_i v bs' hv
   cases h
   exact aol hH hv hs r
  ·cases h
 ·cases h
  trivial
 ·cases h
 ·rename_i l hne0 hne1
  obtain⟨vs,rfl,hsz,hr⟩:=r
  obtain⟨q1,q2⟩:=acD hH h hs (us:=vs.toList) (by simpa using hsz) (fun j t hj=>by
   rw[aUm,aUa]at hj
   obtain⟨x,hx,rfl⟩:=hj
   obtain⟨u,hu,hq⟩:=hr j x hx
   exact⟨u,by simpa using hu,hq⟩)
  have hl:rs.length=l.length:=by rw[← q1];simpa using hsz
  match l,rs,hl with
  |[],_,_=>exact absurd rfl hne0
  |[x],_,_=>exact absurd rfl (hne1 x)
  |_::_::_,r1::r2::rs,_=>
   refine⟨vs,rfl,by simpa using q1,fun j d hj=>?_⟩
   rw[aUm,aUa]at hj
   obtain⟨v,hv,rfl⟩:=hj
   obtain⟨u,hu,hq⟩:=q2 j v hv
   exact⟨u,by simpa using hu,hq⟩
 ·cases h
 ·cases h
def aoN {f:FuncId}{c:FnC}(h:pZ P k Bt f (cy cf fl c)):ko P k f (bM cf fl c):=by
 refine⟨h.1,fun as rs hm F w vs hF hl hr=>?_⟩
 unfold bM at hm
 split at hm
 ·rename_i y H1 S1 W1 he
  split at hm
  ·rename_i rs' bs hv
   cases hm
   have hFo:∀x,Fo F φ0 [] [] x↔F x:=fun x=>⟨fun h=>h.elim id fun⟨b,ds,hb,_⟩=>by simp at hb,.inl⟩
   have hH:HR k Bt F w.heap.size φ0 w [] []:=⟨fun _ _=>rfl,fun x hx=>⟨(hF x hx).1,fun b y hb=>by simp at hb,(hF x hx).2⟩,fun b b' y y' x hb=>by simp at hb,fun b y x hb=>by simp at hb⟩
   refine((h.2 _ _ _ _ _ _ _ he).2 F w.heap.size φ0 w vs hH (aTS _) (by simpa using hl) (fun j a hj=>?_)).mono ?_
   ·rw[aUm,aUa]at hj
    obtain⟨v,hv',rfl⟩:=hj
    obtain⟨u,hu,hq⟩:=hr j v hv'
    exact⟨u,hu,RT1.kp (φ:=φ0) (φ':=φ0) (F:=F) ⟨fun _ _ h=>h,fun x _ hf=>⟨rfl,fun h=>hf ((hFo x).1 h)⟩,fun _ vs _ _ h=>⟨vs,h,rfl⟩⟩ hq⟩
   ·rintro e w' ⟨u,rfl,φ1,hb,hH1,_,hr1,_,_⟩
    refine⟨u,rfl,hb,?_⟩
    have hH2:=hH1.shutB bs
    have:=aom hH2 hv (fun b hb=>List.mem_append_left _ hb) (RT.kp (Kp.shutB bs) hr1)
    exact RT.kp (φ:=φ0) (φ':=φ0) ⟨fun _ _ h=>h,fun x _ hf=>⟨rfl,fun h=>hf (.inl h)⟩,fun _ vs _ _ h=>⟨vs,h,rfl⟩⟩ this
  ·cases hm
 ·cases hm
def ayS {bs S:List Nat}{b:Nat}:b∈xQ bs S↔b∈bs++S:=by
 unfold xQ
 simp only[List.mem_append,List.mem_filter]
 constructor
 ·rintro(⟨h,_⟩|h)
  ·exact .inl h
  ·exact .inr h
 ·rintro(h|h)
  ·by_cases hb:b∈S
   ·exact .inr hb
   ·exact .inl ⟨h,by simpa using hb⟩
  ·exact .inr h
def agu {g:FuncId}{m:List V1→Option (List V1)}(hm:ko P k g m):pZ P k Bt g (bC m):=by
 refine⟨hm.1,fun as H S y H' S' W h=>?_⟩
 unfold bC at h
 split at h
 ·rename_i y' bs hc
  simp only[Option.some.injEq,Prod.mk.injEq]at h
  obtain⟨rfl,rfl,rfl,rfl⟩:=h
  refine⟨Fm.refl _ _,fun F0 N φ w vs hH hN hl hr=>?_⟩
  refine(axr hH hN hm hc hl hr).mono ?_
  rintro e w' ⟨u,rfl,hx,hq⟩
  refine⟨u,rfl,Post.ext hN hH hx (RT.kp (φ:=φ) (φ':=φ) ⟨fun _ _ h=>h,fun x _ hf=>⟨rfl,fun h=>hf ?_⟩,fun _ vs _ _ h=>⟨vs,h,rfl⟩⟩ hq)⟩
  rcases h with h|⟨b,y,hb,hs,hx⟩
  ·exact .inl h
  ·exact .inr ⟨b,y,hb,fun h=>hs (ayS.2 h),hx⟩
 ·cases h
def vU {f:FuncId}{m:kU}(hm:pZ P k Bt f m){g:T}{ps:List (Nat × Nat)}(hg:mV g=Z (f,ps)){as:List T}{y:T}{W:List Nat}(h:m (as++ps.map zx) H S=Z (y,H',S',W)):
  (∀f' ps',mV g=Z (f',ps')→pY P f')∧Fm H W H'∧
  ∀(F0:Nat→Prop) (N:Nat) (φ:Nat→Option Nat) (w:World) (u:Value) (us:List Value),HR k Bt F0 N φ w H S→N≤w.heap.size→RT k (Fo F0 φ H S) φ w g u→us.length=as.length→(∀(j:Nat) a,as[j]?=Z a→∃v,us[j]?=Z v∧RT k (Fo F0 φ H S) φ w a v)→
   jx P (fun v w'=>Post k Bt F0 N φ w H S H' S' y v w') ((do let d ← Deferred.ofValue u us.toArray;invoke d.target d.args:Sem Next).run P w):=by
 refine⟨fun f' ps' h'=>by rw[hg]at h';cases h';exact hm.1,(hm.2 _ _ _ _ _ _ _ h).1,fun F0 N φ w u us hH hN hgu hl hr=>?_⟩
 obtain⟨vs,rfl,hvs,hp⟩:=ai1 hg hgu
 have hrun:((do let d ← Deferred.ofValue (.func (.func f) #[] vs) us.toArray;invoke d.target d.args:Sem Next).run P w)=.ok (.enter f (us++vs.toList).toArray) w:=by
  have e:us.toArray++vs=(us++vs.toList).toArray:=by simp
  simp[Deferred.ofValue,invoke,rI hm.1,e]
 rw[hrun]
 refine(hm.2 _ _ _ _ _ _ _ h).2 F0 N φ w (us++vs.toList) hH hN (by simp[hl,hvs]) (fun j a hj=>?_)
 rw[List.getElem?_append]at hj ⊢
 rw[← hl]at hj
 split at hj
 ·rename_i h1
  rw[if_pos h1]
  exact hr j a hj
 ·rename_i h1
  rw[if_neg h1]
  rw[aUm,aUa]at hj
  obtain⟨⟨b,o⟩,hb,rfl⟩:=hj
  obtain⟨x,hx,hv⟩:=hp _ b o hb
  exact⟨_,by simpa using hv,x,hx,rfl⟩
def ai2 {params:Array Tmp}{args:List Value}{tmps:Array Value}(hl:args.length=params.size)(hd:∀(j j' t:Nat),params[j]?=Z t→params[j']?=Z t→j=j')(hlt:∀(j t:Nat),params[j]?=Z t→t<tmps.size):
  ((params.zip args.toArray).foldl (fun tmps (p:Tmp × Value)=>tmps.setIfInBounds p.1 p.2) tmps).size=tmps.size∧
  (∀(j t:Nat) v,params[j]?=Z t→args[j]?=Z v→((params.zip args.toArray).foldl (fun tmps (p:Tmp × Value)=>tmps.setIfInBounds p.1 p.2) tmps).getD t undef=v)∧
  ∀t,(∀j:Nat,params[j]?≠Z t)→((params.zip args.toArray).foldl (fun tmps (p:Tmp × Value)=>tmps.setIfInBounds p.1 p.2) tmps).getD t undef=tmps.getD t undef:=by
 have key:∀(ps:List Tmp) (as:List Value) (tmps:Array Value),as.length=ps.length→(∀(j j' t:Nat),ps[j]?=Z t→ps[j']?=Z t→j=j')→(∀(j t:Nat),ps[j]?=Z t→t<tmps.size)→
   ((ps.zip as).foldl (fun tmps (p:Tmp × Value)=>tmps.setIfInBounds p.1 p.2) tmps).size=tmps.size∧
   (∀(j t:Nat) v,ps[j]?=Z t→as[j]?=Z v→((ps.zip as).foldl (fun tmps (p:Tmp × Value)=>tmps.setIfInBounds p.1 p.2) tmps).getD t undef=v)∧
   ∀t,(∀j:Nat,ps[j]?≠Z t)→((ps.zip as).foldl (fun tmps (p:Tmp × Value)=>tmps.setIfInBounds p.1 p.2) tmps).getD t undef=tmps.getD t undef:=by
  intro ps
  induction ps with
  |nil=>intro as tmps _ _ _;exact⟨rfl,fun j t v h=>by simp at h,fun _ _=>rfl⟩
  |cons p ps ih=>
   intro as tmps hl hd hlt
   cases as with
   |nil=>simp at hl
   |cons a as=>
    simp only[List.zip_cons_cons,List.foldl_cons]
    obtain⟨h1,h2,h3⟩:=ih as (tmps.setIfInBounds p a) (by simpa using hl) (fun j j' t h h'=>by have:=hd (j+1) (j'+1) t (by simpa using h) (by simpa using h');omega) (fun j t h=>by simpa using hlt (j+1) t (by simpa using h))
    refine⟨by rw[h1];simp,fun j t v hj hv=>?_,fun t ht=>?_⟩
    ·cases j with
     |zero=>
      simp at hj hv;subst hj;subst hv
      have hp:=hlt 0 p rfl
      rw[h3 p fun j hj=>by have:=hd 0 (j+1) p rfl (by simpa using hj);omega]
      rw[aUq,Array.getElem?_setIfInBounds_self_of_lt hp];rfl
     |succ j=>exact h2 j t v (by simpa using hj) (by simpa using hv)
    ·rw[h3 t fun j hj=>ht (j+1) (by simpa using hj)]
     have hne:p≠t:=fun e=>ht 0 (by simp[e])
     rw[aUq,Array.getElem?_setIfInBounds_ne hne,← aUq]
 have:=key params.toList args tmps (by simpa using hl) (fun j j' t h h'=>hd j j' t (by simpa using h) (by simpa using h')) (fun j t h=>hlt j t (by simpa using h))
 have e:∀tm:Array Value,(params.zip args.toArray).foldl (fun tmps (p:Tmp × Value)=>tmps.setIfInBounds p.1 p.2) tm=(params.toList.zip args).foldl (fun tmps (p:Tmp × Value)=>tmps.setIfInBounds p.1 p.2) tm:=by
  intro tm
  rw[← Array.foldl_toList]
  simp
 rw[e]
 exact⟨this.1,fun j t v h h'=>this.2.1 j t v (by simpa using h) h',fun t h=>this.2.2 t fun j hj=>h j (by simpa using hj)⟩
def axW (hcf:gF P k Bt cf)(hm:P.follows .mixedOrders=ab){bd:Nat→Option BdC}(hbd:∀i c,bd i=Z c→BdOk P Bt i c){b:Nat}{as:List T}{y:T}{W:List Nat}(h:lX bd cf fl b as H S=Z (y,H',S',W)):
  Fm H W H'∧∀(F0:Nat→Prop) (N:Nat) (φ:Nat→Option Nat) (w:World) (u:Value) (us:List Value),HR k Bt F0 N φ w H S→N≤w.heap.size→RT k (Fo F0 φ H S) φ w (.t (.one (.yld b))) u→us.length=as.length→(∀(j:Nat) a,as[j]?=Z a→∃v,us[j]?=Z v∧RT k (Fo F0 φ H S) φ w a v)→
   jx P (fun v w'=>Post k Bt F0 N φ w H S H' S' y v w') ((do let d ← Deferred.ofValue u us.toArray;invoke d.target d.args:Sem Next).run P w):=by
 unfold lX at h
 split at h
 rotate_left
 ·cases h
 rename_i r hb
 split at h
 ·cases h
 rename_i c hc
 split at h
 rotate_left
 ·cases h
 rename_i hlen
 obtain⟨hl1,hl2⟩:as.length=c.pin.length∧r.τ.length=c.nk:=by simpa using hlen
 split at h
 rotate_left
 ·cases h
 rename_i s1 he1
 split at h
 rotate_left
 ·cases h
 rename_i r1 hb1
 split at h
 rotate_left
 ·cases h
 rename_i hrd
 obtain⟨hready,hS1⟩:uv r1.st=ab∧b∉s1.S:=by simpa using hrd
 split at h
 ·cases h
 rename_i x s2 he2
 split at h
 rotate_left
 ·cases h
 rename_i r2 hb2
 split at h
 ·cases h
 rename_i hS2'
 have hS2:b∉s2.S:=by simpa using hS2'
 simp only[Option.some.injEq,Prod.mk.injEq]at h
 obtain⟨rfl,rfl,rfl,rfl⟩:=h
 obtain⟨bdd,hBt,hnk,hps,hplt,hpk,hpd,hcas,hcbody⟩:=(hbd _ _ hc).ok
 have hfm1:=(iK hcf _ _ _ _ he1).2
 obtain⟨hW2,hfm2⟩:=iK hcf _ _ _ _ he2
 refine⟨?_,fun F0 N φ w u us hH hN hu hl hr=>?_⟩
 ·have h1:Fm H (b::s2.W) s1.H:=⟨hfm1.1,fun c hc hW=>hfm1.2 c hc fun h=>hW (aT8 _ (hW2 c h))⟩
  refine⟨?_,fun c hc hW=>?_⟩
  ·have:=hfm2.1
   simp at this ⊢
   exact aUd h1.1 this
  ·have hne:b≠c:=fun e=>hW (by simp[e])
   have hc2:c∉s2.W:=fun h=>hW (aT8 _ h)
   rw[aUn hne,hfm2.2 c (by simp;exact aUj hc h1.1) hc2]
   show(s1.H.set b _)[c]?=_
   rw[aUn hne,h1.2 c hc hW]
 ·obtain⟨l,hφ,rfl⟩:=hu
  obtain⟨hNl,lp,bd',hlp,hBt',hpar,has,hbody,hst,hpend,hsz,htm⟩:=hH.at_ b _ l hb hφ
  rw[hBt]at hBt'
  cases hBt'
  have husz:us.length=lp.params.size:=by rw[hl,hl1,hpar,hps]
  have hrun:((do let d ← Deferred.ofValue (.func (.yield l) #[] #[]) us.toArray;invoke d.target d.args:Sem Next).run P w)=.ok (.round l lp.fn ((lp.params.zip us.toArray).foldl (fun tmps (t,a)=>tmps.setIfInBounds t a) lp.tmps) lp.assign lp.body) w:=by
   have:=run_yield (P:=P) (args:=us.toArray) hlp (by simpa using husz)
   simpa [Deferred.ofValue,invoke]using this
  rw[hrun]
  obtain⟨q1,q2,q3⟩:=ai2 (params:=lp.params) (args:=us) (tmps:=lp.tmps) husz (by rw[hpar];exact hpd) (by rw[hpar,hsz];exact hplt)
  refine roundIn_of_wpIn (F:=Fence.wide) trivial ?_
  have hs:SRel k Bt F0 N bdd.n bdd.kp ⟨bv c.pin as r.τ,H,S,[],[]⟩ { tmps:=(lp.params.zip us.toArray).foldl (fun tmps (t,a)=>tmps.setIfInBounds t a) lp.tmps,defers:=[] } w φ:=by
   refine⟨hH,fun p t hp=>?_,by rw[← hsz];exact q1,by rw[jk,hl2,hnk],⟨rfl,fun j b hj=>by simp at hj⟩,hN⟩
   have hpl:¬r.τ.length≤p:=by
    rw[hl2,← hnk]
    have:=(aTU.1 hp).1
    omega
   rcases kA c.pin as r.τ p hl1 with⟨h1,h2⟩|⟨j,a,h1,h2,h3⟩
   ·show RT _ _ _ _ (ce (bv c.pin as r.τ) p) (((lp.params.zip us.toArray).foldl (fun tmps (p:Tmp × Value)=>tmps.setIfInBounds p.1 p.2) lp.tmps).getD t undef)
    rw[h1,q3 t fun j hj=>?_,akl]
    ·exact htm p t hp
    ·rw[hpar]at hj
     have hjl:j<c.pin.length:=by rw[← hps];exact(Array.getElem?_eq_some_iff.1 hj).1
     have:=(hpk j t c.pin[j] hj (aTX hjl)).2 t p rfl hp
     exact h2 j (by rw[aTX hjl,this])
   ·show RT _ _ _ _ (ce (bv c.pin as r.τ) p) (((lp.params.zip us.toArray).foldl (fun tmps (p:Tmp × Value)=>tmps.setIfInBounds p.1 p.2) lp.tmps).getD t undef)
    rw[h3.resolve_right hpl]
    have hjl:j<bdd.params.size:=by rw[hps];exact(aTU.1 h1).1
    obtain⟨t',e1,e2⟩:=(hpk j bdd.params[j] (Z p) (aUt hjl) h1).1 p rfl
    cases e1
    rw[hp]at e2
    cases e2
    obtain⟨v,hv,hq⟩:=hr j a h2
    rw[q2 j _ v (by rw[hpar];exact aUt hjl) hv]
    exact hq
  rw[has]
  refine iL (ro:=Z l) (rd:=ab) hcf hm (.inl rfl) c.as bdd.assign hcas he1 hs fun a1 w1 φ1 t1 hs1=>?_
  have hφ1:φ1 b=Z l:=t1.kp.phi b l hφ
  obtain⟨_,lp1,bd1,hlp1,hBt1,hpar1,has1,hbody1,hst1,hpend1,hsz1,htm1⟩:=hs1.hr.at_ b _ l hb1 hφ1
  have hr1:lp1.state=.ready:=by
   rw[hst1]
   cases hq:r1.st<;>rw[hq]at hready<;>first|rfl|cases hready
  have turn:∀{φ:Nat→Option Nat} {w:World} {H:Hp} {S:List Nat} {r:LpR} {lp:Loop} (st:LoopState) (pd:Option X) (lp':Loop),HR k Bt F0 N φ w H S→N≤w.heap.size→H[b]?=Z (Z (.lp r))→b∉S→φ b=Z l→w.heap[l]?=Z (.loop lp)→lp'={ lp with state:=st,pending:=pd.map X.toCode }→
    Tr k Bt F0 N φ w H S φ (w.putObj l (.loop lp')) (H.set b (Z (.lp { r with st:=st,pend:=pd }))) S:=by
   rintro φ w H S r lp st pd lp' hH hN hb hs hφ hlp rfl
   obtain⟨hNl,lpx,bdx,hlpx,h1,h2,h3,h4,h5,h6,h7,h8⟩:=hH.at_ b _ l hb hφ
   rw[hlp]at hlpx
   cases hlpx
   obtain⟨g1,g2⟩:=hH.turn (w':=w.putObj l (.loop { lp with state:=st,pending:=pd.map X.toCode })) (y':=.lp { r with st:=st,pend:=pd }) hb hs hφ (by simp) (fun z hz=>World.putObj_heap_other hz) (fun vs t fr h=>by rw[hlp]at h;cases h)
    (fun q=>⟨_,bdx,World.putObj_heap_same (dn hlp),h1,h2,h3,h4,rfl,rfl,h7,fun p t hp=>RT.kp q (h8 p t hp)⟩)
   exact⟨⟨rfl,rfl,rfl,by simp,fun z hz=>World.putObj_heap_other (by omega),aTS _⟩,g1,g2,fun _ _=>rfl,fun z _ hz=>World.putObj_heap_other fun e=>hz b _ hb hs (e▸hφ),by simp⟩
  have hN1:N≤w1.heap.size:=hs1.n
  have t2:=turn (φ:=φ1) (w:=w1) (H:=s1.H) (S:=s1.S) (r:=r1) (lp:=lp1) .busy r1.pend { lp1 with state:=.busy } hs1.hr hN1 hb1 hS1 hφ1 hlp1 (by rw[← hpend1])
  refine⟨_,run_beginRound hlp1 hr1,?_⟩
  have hs2:SRel k Bt F0 N bdd.n bdd.kp { s1 with H:=s1.H.set b (Z (.lp { r1 with st:=.busy })) } a1 (w1.putObj l (.loop { lp1 with state:=.busy })) φ1:=
   ⟨t2.hr,fun p t hp=>RT.kp t2.kp (hs1.fr p t hp),hs1.sz,hs1.len,hs1.df,aUd hN1 t2.below.size⟩
  rw[hbody]
  refine iL (ro:=Z l) (rd:=ab) hcf hm (.inl rfl) c.body bdd.body hcbody he2 hs2 fun a3 w3 φ3 t3 hs3=>?_
  have hφ3:φ3 b=Z l:=t3.kp.phi b l hφ1
  obtain⟨_,lp3,bd3,hlp3,_⟩:=hs3.hr.at_ b _ l hb2 hφ3
  have fin:∀(jump:Option Code),jump=(kE x).map X.toCode→(∃v w',(Instr.endRound l jump).run P w3=.ok v w'∧∃u,Ending.returned v=.returned u∧Post k Bt F0 N φ w H S (s2.H.set b (Z (.lp { r2 with st:=z7 x,pend:=kE x }))) s2.S (.t (.one (.c (.v (.bool (qH x)))))) u w'):=by
   rintro jump rfl
   have hend:=run_endRound (P:=P) ((kE x).map X.toCode) hlp3
   have e1:((kE x).map X.toCode).isNone=qH x:=by cases x<;>rfl
   have e2:(if qH x=ab then LoopState.ready else LoopState.done)=z7 x:=by cases x<;>rfl
   have t4:=turn (φ:=φ3) (w:=w3) (H:=s2.H) (S:=s2.S) (r:=r2) (lp:=lp3) (z7 x) (kE x) { lp3 with state:=z7 x,pending:=(kE x).map X.toCode } hs3.hr hs3.n hb2 hS2 hφ3 hlp3 rfl
   rw[e1,e2]at hend
   exact⟨_,_,hend,_,rfl,(((t1.trans t2).trans t3).trans t4).post (.v _ rfl)⟩
  cases x with
  |normal=>exact fin U rfl
  |ret=>exact fin (Z .ret) rfl
  |exit id=>exact fin (Z (.exit id)) rfl
def vP (hm:P.follows .mixedOrders=ab){tb:Tb}(hT:TbOk P k Bt tb):∀n,gF P k Bt (ao tb fl n)
 |0=>fun g as H S y H' S' W h=>by simp[ao]at h
 |n+1=>fun g as H S y H' S' W h=>by
  have ih:=vP hm hT n
  simp only[ao]at h
  split at h
  ·rename_i f ps hg
   split at h
   ·rename_i c hc
    have hx:=ue (fl:=fl) ih hm (hT.code f c hc)
    split at h
    ·exact vU hx hg h
    ·split at h
     ·refine vU (agu (aoN hx)) hg (as:=as) ?_
      simpa using h
     ·cases h
   ·rename_i m hc
    split at h
    ·refine vU (agu (hT.nat f m hc)) hg (as:=as) ?_
     simpa using h
    ·cases h
   ·rename_i m hc
    exact vU (hT.wnat f m hc) hg h
   ·cases h
  ·rename_i hg
   split at h
   ·exact⟨fun f ps h'=>(by rw[hg]at h';cases h'),axW ih hm hT.bd h⟩
   ·cases h
end
structure Ty where
 de:TypeDesc
 size:Nat
 bytes:Nat
 zero:Option Value
 eqg:Bool
 deriving Inhabited
abbrev im:=Nat→Option Ty
def gh (tab:im)(t:TypeId):Option TypeId:=match tab t with|some y=>(match y.de with|.slice e=>Z e|_=>U)|none=>U
def aah (tab:im)(t:TypeId):Option (Nat × TypeId):=match tab t with|some y=>(match y.de with|.array n e=>Z (n,e)|_=>U)|none=>U
def aaz (tab:im)(t:TypeId)(f:Nat):Option Field:=match tab t with|some y=>(match y.de with|.struct fs=>fs[f]?|_=>U)|none=>U
def nE (tab:im)(t:TypeId):Option Nat:=match tab t with|some y=>Z y.size|none=>U
def aeA (tab:im)(t:TypeId):Option (List D):=match tab t with|some y=>(match y.zero with|some z=>ge z.cells.toList|none=>U)|none=>U
def aiX (tab:im)(e:TypeId):Option (List Value × Nat × Nat):=match tab e with|some y=>(match y.zero with|some z=>Z (z.cells.toList,y.size,y.bytes)|none=>U)|none=>U
def elW (tab:im)(e:TypeId):Option (List Value × Nat × Nat):=if ai e Limb.u then U else aiX tab e
def adu (tab:im)(e:TypeId):Bool:=match tab e with|some y=>(match y.de with|.int .i64=>ai y.size 1|_=>aa)|none=>aa
def aku (tab:im)(t:TypeId):Option (List (Nat × Nat)):=
 match tab t with
 |some y=>
  (match y.de with
   |.struct fs=>fs.toList.mapM fun f=>match tab f.type with|some z=>Z (f.offset,z.size)|none=>U
   |.array n e=>match tab e with|some z=>Z ((List.range n).map fun i=>(i*z.size,z.size))|none=>U
   |_=>U)
 |none=>U
def ajL (tab:im)(t:TypeId):Option (List D):=
 match tab t with
 |some y=>
  (match y.de with
   |.map kt et=>
    (match aah tab kt with
    |some (4,e)=>if adu tab e then (match tab et with|some z=>(match z.zero with|some (.agg a)=>ge a.toList|_=>U)|none=>U) else U
    |_=>U)
   |_=>U)
 |none=>U
def aeN (tab:im)(op:BinOp)(t:TypeId):Option PK:=
 match op with
 |.eql=>(match tab t with
  |some y=>(match y.de with|.bool=>Z .eqB|.int _=>Z (.bin .eql)|.array 4 e=>if adu tab e&&y.eqg then Z (.eqA 4) else U|_=>U)
  |none=>U)
 |.neq=>(match tab t with
  |some y=>(match y.de with|.bool=>Z .neB|.int _=>Z (.bin .neq)|.array 4 e=>if adu tab e&&y.eqg then Z (.neA 4) else U|_=>U)
  |none=>U)
 |op=>Z (.bin op)
def abQ (tab:im)(ro:Operand→Od)(c:Call):Option COp:=
 match c.callee with
 |.value f=>Z (.call (ro f) (c.args.toList.map ro))
 |.builtin b=>
  (match b,c.args.toList,c.argTypes.toList with
   |.len,[x],[t]=>(match gh tab t with|some _=>Z (.len (ro x))|none=>(match tab t with|some y=>(match y.de with|.map _ _=>Z (.lenM (ro x))|_=>U)|none=>U))
   |.cap,[x],[t]=>(match gh tab t with|some _=>Z (.cap (ro x))|none=>U)
   |.append,[d,x],[t,t']=>if ai t t' then (match gh tab t with|some e=>(match elW tab e with|some (z,s,b)=>if ah 0 s&&ai z.length s then Z (.app s b (ro d) (ro x)) else U|none=>U)|none=>U) else
    (match gh tab t,tab t' with
     |some e,Z y=>(match y.de,elW tab e with|.int _,Z (z,s,b)=>if ah 0 s&&ai z.length s then Z (.appz z s b (ro d) (ro x)) else U|_,_=>U)
     |_,_=>U)
   |.copy,[d,x],[t,_]=>(match gh tab t with|some e=>(match nE tab e with|some s=>Z (.cpy s (ro d) (ro x))|none=>U)|none=>U)
   |.max,[x,y],_=>Z (.pk .max [ro x,ro y])
   |.min,[x,y],_=>Z (.pk .min [ro x,ro y])
   |_,_,_=>U)
 |_=>U
def aeQ (tab:im)(ro:Operand→Od)(o:Oper):Option COp:=
 match o.op with
 |.move x=>Z (.mv (ro x))
 |.assign x=>Z (.mv (ro x))
 |.pick c a b=>Z (.pick (ro c) (ro a) (ro b))
 |.load t a=>(match tab t with|some y=>Z (.ld (qF y.de) y.size (ro a))|none=>U)
 |.fieldAddr s x f=>(match aaz tab s f with|some fd=>(match nE tab fd.type with|some (_+1)=>Z (.off fd.offset (ro x))|_=>U)|none=>U)
 |.field s x f=>(match aaz tab s f with|some fd=>(match tab fd.type with|some y=>Z (.part (qF y.de) y.size fd.offset (ro x))|none=>U)|none=>U)
 |.indexAddr t x i=>
  (match gh tab t with
   |some e=>(match nE tab e with|some s=>Z (.ixS s (ro x) (ro i))|none=>U)
   |none=>(match aah tab t with|some (n,e)=>(match nE tab e with|some s=>Z (.ixR n s (ro x) (ro i))|none=>U)|none=>U))
 |.index t x i=>(match aah tab t with|some (n,e)=>(match tab e with|some y=>Z (.at_ (qF y.de) y.size n (ro x) (ro i))|none=>U)|none=>(match tab t with|some y=>(match y.de with|.string=>Z (.ixc (ro x) (ro i))|_=>U)|none=>U))
 |.extract x i=>Z (.ext i (ro x))
 |.nilCheck x=>Z (.nilc (ro x))
 |.build t ps=>(match aeA tab t,aku tab t with|some zs,Z pl=>Z (.bld zs pl (ps.toList.map (·.1)) (ps.toList.map fun p=>ro p.2))|_,_=>U)
 |.buildSlice t len ps=>(match gh tab t with|some e=>(match aiX tab e with|some (z,s,_)=>if ai len 1&&ai s 2&&!ai e Limb.u then Z (.bsb z s len (ps.toList.map (·.1)) (ps.toList.map fun p=>ro p.2)) else Z (.bsl z s len (ps.toList.map (·.1)) (ps.toList.map fun p=>ro p.2))|none=>U)|none=>U)
 |.slice t x lo hi U=>
  (match gh tab t with
   |some e=>(match nE tab e with|some s=>Z (.slc s (ro x) (lo.map ro) (hi.map ro))|none=>U)
   |none=>(match aah tab t,lo,hi with|some (n,e),U,U=>(match nE tab e with|some s=>Z (.slcR n s (ro x))|none=>U)|_,_,_=>U))
 |.slice t x lo (Z hi) (Z mx)=>(match gh tab t with|some e=>(match nE tab e with|some s=>Z (.slc3 s (ro x) (lo.map ro) (ro hi) (ro mx))|none=>U)|none=>U)
 |.call c=>abQ tab ro c
 |.binOp op t x y _=>(match gh tab t with
  |some _=>(match op with|.eql=>Z (.nilS aa (ro x) (ro y))|.neq=>Z (.nilS ab (ro x) (ro y))|_=>U)
  |none=>(match aeN tab op t with|some pk=>Z (.pk pk [ro x,ro y])|none=>U))
 |.unOp .not _ x=>Z (.pk .not [ro x])
 |.unOp .neg _ x=>Z (.pk .neg [ro x])
 |.unOp .xor _ x=>Z (.pk .inv [ro x])
 |.convert s d x=>(match tab s,tab d with|some _,Z y=>(match y.de with|.int q=>Z (.pk (.cvt q) [ro x])|_=>U)|_,_=>U)
 |.makeFunc (.func f) first cap=>(match first.toList with|[]=>Z (.mkf f (cap.toList.map ro))|_=>U)
 |.lookup t m key ab=>(match ajL tab t with|some zs=>Z (.lku zs (ro m) (ro key))|none=>U)
 |.alloc e=>if ai e Limb.u then U else (match aeA tab e with|some ds=>Z (.new ds)|none=>U)
 |.box e x=>if ai e Limb.u then U else Z (.box (ro x))
 |.makeSlice t l c=>(match gh tab t with|some e=>(match elW tab e with|some (z,s,b)=>Z (.mk z s b (ro l) (ro c))|none=>U)|none=>U)
 |.makeMap _ U=>Z .mkm
 |.store t a x=>(match nE tab t with|some n=>Z (.sto n (ro a) (ro x))|none=>U)
 |.mapUpdate t m key x=>(match ajL tab t with|some _=>Z (.mset (ro m) (ro key) (ro x))|none=>U)
 |.insert t m key x=>(match ajL tab t with|some _=>Z (.mset (ro m) (ro key) (ro x))|none=>U)
 |.range t x=>(match tab t with|some y=>(match y.de with|.map _ _=>Z (.rng (ro x))|_=>U)|none=>U)
 |.entry x=>Z (.ent (ro x))
 |_=>U
def yf (tab:im)(ro:Operand→Od)(o:Oper):COp:=match aeQ tab ro o with|some c=>c|none=>.bad
def oM:Operand→Od
 |.const v=>(match ny v with|some t1=>.k (.t t1)|none=>.z)
 |.func f=>.k (.t (.one (.c (.v (.func (.func f) #[] #[])))))
 |_=>.z
def ic (t:Nat):List Nat→Nat→Option Nat
 |[],_=>U
 |x::r,i=>if ai x t then Z i else ic t r (i+1)
def iC (t:Nat):List (Option Nat)→Nat→Option Nat
 |[],_=>U
 |some x::r,i=>if ai x t then Z i else iC t r (i+1)
 |none::r,i=>iC t r (i+1)
def jJ (kp:List Tmp):Operand→Od
 |.tmp t=>(match ic t kp 0 with|some p=>.f p|none=>.z)
 |x=>oM x
def akV (kp:List Tmp)(ds:List (Option Tmp)):Operand→Od
 |.tmp t=>(match iC t ds 0 with|some d=>.x d|none=>jJ kp (.tmp t))
 |x=>oM x
def ahG (kp:List Tmp):Option Tmp→Option Nat
 |some t=>ic t kp 0
 |none=>U
def ahw (nt:Nat):Option Tmp→Bool
 |some t=>ah t nt
 |none=>ab
def akj:List (Option Tmp)→Nat→Option Tmp
 |[],_=>U
 |x::_,0=>x
 |_::r,n+1=>akj r n
def aeP (i:Nat)(ds:List (Option Tmp)):Option (Nat × Bool)→Option (Option (Nat × Bool))
 |none=>Z U
 |some (g,b)=>
  if ah g i then
   (match akj ds (i-1-g)with
    |some t=>(match iC t ds 0 with|some d=>if ai d (i-1-g) then Z (Z (d,b)) else U|none=>U)
    |none=>U)
  else U
def vR (tab:im)(nt:Nat)(kp:List Tmp):List Oper→Nat→List (Option Tmp)→Option (List Ro1)
 |[],_,_=>Z []
 |o::r,i,ds=>
  if j7 o.op&&ahw nt o.dst then
   match aeP i ds o.guard,vR tab nt kp r (i+1) (o.dst::ds)with
   |some gd,Z l=>Z (⟨gd,ahG kp o.dst,[],yf tab (akV kp ds) o⟩::l)
   |_,_=>U
  else U
def aff (t:Nat):List Nat→Bool
 |[]=>aa
 |x::r=>if ai x t then ab else aff t r
def aRL (o:Oper)(j:Nat):Bool:=match o.guard with|some (g,_)=>ai g j|none=>aa
def aoL (msk:Nat)(tm:List Nat)(o:Oper):List (Nat × Option Tmp)→List (Nat × Tmp)
 |[]=>[]
 |(j,Z t)::r=>if msk.testBit j&&(aff t tm||aRL o j) then (j,t)::aoL msk tm o r else aoL msk tm o r
 |(_,U)::r=>aoL msk tm o r
def aiF:List Oper→List Nat→Nat→List (Nat × Option Tmp)→List (List (Nat × Tmp))
 |o::r,m::ms,i,js=>aoL m (aab o) o js::aiF r ms (i+1) ((i,o.dst)::js)
 |_,_,_,_=>[]
def sj (t:Nat):List (Nat × Tmp)→Option Nat
 |[]=>U
 |(j,x)::r=>if ai x t then Z j else sj t r
def af5 (kp:List Tmp)(i:Nat)(anc:List (Nat × Tmp)):Operand→Od
 |.tmp t=>(match sj t anc with|some j=>.x (i-1-j)|none=>jJ kp (.tmp t))
 |x=>oM x
def aeO (i:Nat):Option (Nat × Bool)→Option (Option (Nat × Bool))
 |none=>Z U
 |some (g,b)=>if ah g i then Z (Z (i-1-g,b)) else U
def kdR:Kd→Bool
 |.r=>ab
 |_=>aa
def kdO:Kd→Bool
 |.o=>ab
 |_=>aa
def kdA:Kd→Bool
 |.a=>ab
 |_=>aa
def oJ (m:Nat):List (Nat × COp)→Bool
 |[]=>ab
 |(j,c)::r=>if kdR (kd c)||m.testBit j then oJ m r else aa
def aRy (m:Nat):List (Nat × COp)→Bool:=oJ m
def xS (m:Nat):List (Nat × COp)→Bool
 |[]=>ab
 |(j,c)::r=>if kdA (kd c)&&m.testBit j then (if aRy m r then xS m r else aa) else xS m r
def adP (c d:COp):Bool:=(ajm c&&kdO (kd d))||(ajm d&&kdO (kd c))
def loB (m i:Nat)(c:COp):List (Nat × COp)→List Nat
 |[]=>[]
 |(j,d)::r=>if !m.testBit j&&adP c d then (i-1-j)::loB m i c r else loB m i c r
def o7 (tab:im)(nt:Nat)(kp:List Tmp):List Oper→List Nat→List (List (Nat × Tmp))→Nat→List (Nat × COp)→Option (List Ro1)
 |[],_,_,_,_=>Z []
 |o::r,m::ms,an::ans,i,js=>
  if j7 o.op&&ahw nt o.dst then
   match aeO i o.guard with
   |some gd=>
    (let c:=yf tab (af5 kp i an) o
     if (if kdO (kd c) then oJ m js else xS m js) then
     (match o7 tab nt kp r ms ans (i+1) ((i,c)::js)with
      |some l=>Z (⟨gd,ahG kp o.dst,loB m i c js,c⟩::l)
      |none=>U)
     else U)
   |none=>U
  else U
 |_,_,_,_,_=>U
def amw (tab:im)(nt:Nat)(kp:List Tmp)(ops:Array Oper)(dr:Bool):Option (List Ro1):=
 if dr then
  (let ms:=dI [] ops.toList
   let an:=aiF ops.toList ms 0 []
   if aaA ops ops.size an then o7 tab nt kp ops.toList ms an 0 [] else U)
 else vR tab nt kp ops.toList 0 []
def bz (tab:im)(nt:Nat)(kp:List Tmp)(bi:Nat)(rd:Bool):Code→Option CC
 |.skip=>Z .skip
 |.label _=>Z .skip
 |.region _ ops dr=>(match amw tab nt kp ops dr with|some os=>Z (.reg os)|none=>U)
 |.seq a b=>(match bz tab nt kp bi rd a,bz tab nt kp bi rd b with|some a,Z b=>Z (.seq a b)|_,_=>U)
 |.cond c t e=>(match bz tab nt kp bi rd t,bz tab nt kp bi rd e with|some t,Z e=>Z (.cond (jJ kp c) t e)|_,_=>U)
 |.block id b=>(match bz tab nt kp bi rd b with|some b=>Z (.block id b)|none=>U)
 |.loop b=>(match bz tab nt kp bi rd b with|some b=>Z (.loop b)|none=>U)
 |.rangeFunc g _ _ _=>if rd then U else Z (.rf (jJ kp g) bi)
 |.exit id=>Z (.exit id)
 |.scope b=>if rd then U else (match bz tab nt kp bi rd b with|some b=>Z (.scope b)|none=>U)
 |.ret=>Z .ret
 |_=>U
def xC:Code→List (Array Tmp × Code × Code)
 |.seq a b=>xC a++xC b
 |.cond _ t e=>xC t++xC e
 |.block _ b=>xC b
 |.loop b=>xC b
 |.scope b=>xC b
 |.rangeFunc _ ps as b=>[(ps,as,b)]
 |_=>[]
def j0 (tab:im)(kp:List Tmp):List ResultVar→Option (List Rs1)
 |[]=>Z []
 |.tmp t::r=>(match j0 tab kp r with|some l=>Z ((match ic t kp 0 with|some p=>.p p|none=>.z)::l)|none=>U)
 |.cell a t::r=>(match j0 tab kp r,ic a kp 0,tab t with|some l,Z p,Z y=>Z (.cell (qF y.de) y.size p::l)|_,_,_=>U)
def gX:List Nat→Bool
 |[]=>ab
 |x::r=>if aff x r then aa else gX r
def qj (tab:im)(wm:Bool)(kp:List Tmp)(f:FuncId)(na:Nat)(fn:Func):Option FnC:=
 match fn.body with
 |none=>U
 |some code=>
  if gX kp&&aTQ na fn.ntmps then
   match bz tab fn.ntmps kp f aa code,j0 tab kp fn.results.toList with
   |some c,Z rs=>Z ⟨wm,kp.length,(List.range na).map fun j=>ic j kp 0,c,rs⟩
   |_,_=>U
  else U
def x8 (tab:im)(kp:List Tmp)(f:FuncId)(fn:Func):Option BdC:=
 match fn.body with
 |none=>U
 |some code=>
  match xC code with
  |[(ps,as,b)]=>
   if gX ps.toList&&ps.toList.all (fun t=>ah t fn.ntmps) then
    match bz tab fn.ntmps kp f ab as,bz tab fn.ntmps kp f ab b with
    |some a,Z b=>Z ⟨kp.length,ps.toList.map fun t=>ic t kp 0,a,b⟩
    |_,_=>U
   else U
  |_=>U
def TabOk (P:Program)(tab:im):Prop:=
 ∀t y,tab t=Z y→P.underlying t=Z y.de∧∃i,P.info? t=Z i∧i.size=y.size∧i.bytes=y.bytes∧i.zero=y.zero∧(y.eqg=ab→P.eqGuardType P.depth t=aa)
section
variable {P:Program} {tab:im} {R:Od→Operand→Prop} {ro:Operand→Od}
def TabOk.sz (h:TabOk P tab){t:TypeId}{y:Ty}(ht:tab t=Z y):fR P t=Z y.size:=by
 obtain⟨_,i,hi,hs,_⟩:=h t y ht
 simp[fR,hi,hs]
def TabOk.ty (h:TabOk P tab){t:TypeId}{y:Ty}(ht:tab t=Z y):vE P t (qF y.de) y.size:=
 ⟨h.sz ht,y.de,(h t y ht).1,rfl⟩
def cT (h:TabOk P tab){t e:TypeId}(ht:gh tab t=Z e):P.underlying t=Z (.slice e):=by
 unfold gh at ht
 split at ht
 ·rename_i y hy
  split at ht
  ·rename_i e' he;cases ht;rw[(h t y hy).1,he]
  ·cases ht
 ·cases ht
def vJ (h:TabOk P tab){t e:TypeId}{n:Nat}(ht:aah tab t=Z (n,e)):P.underlying t=Z (.array n e):=by
 unfold aah at ht
 split at ht
 ·rename_i y hy
  split at ht
  ·rename_i n' e' he;cases ht;rw[(h t y hy).1,he]
  ·cases ht
 ·cases ht
def adk (h:TabOk P tab){t:TypeId}{f:Nat}{fd:Field}(ht:aaz tab t f=Z fd):∃fs,P.underlying t=Z (.struct fs)∧fs[f]?=Z fd:=by
 unfold aaz at ht
 split at ht
 ·rename_i y hy
  split at ht
  ·rename_i fs he;exact⟨fs,by rw[(h t y hy).1,he],ht⟩
  ·cases ht
 ·cases ht
def jV (h:TabOk P tab){t:TypeId}{n:Nat}(ht:nE tab t=Z n):fR P t=Z n:=by
 unfold nE at ht
 split at ht
 ·rename_i y hy;cases ht;exact h.sz hy
 ·cases ht
def alL (h:TabOk P tab){t:TypeId}{ds:List D}(ht:aeA tab t=Z ds):∃i z,P.info? t=Z i∧i.zero=Z z∧ge z.cells.toList=Z ds:=by
 unfold aeA at ht
 split at ht
 ·rename_i y hy
  split at ht
  ·rename_i z hz
   obtain⟨_,i,hi,_,_,hz',_⟩:=h t y hy
   exact⟨i,z,hi,by rw[hz',hz],ht⟩
  ·cases ht
 ·cases ht
def tW (h:TabOk P tab){e:TypeId}{z:List Value}{s b:Nat}(ht:aiX tab e=Z (z,s,b)):xM P e z s b:=by
 unfold aiX at ht
 split at ht
 ·rename_i y hy
  split at ht
  ·rename_i zv hz
   obtain⟨_,i,hi,hs,hb,hz',_⟩:=h e y hy
   cases ht
   exact⟨i,zv,hi,by rw[hz',hz],rfl,hs,hb⟩
  ·cases ht
 ·cases ht
def akf (n:Nat):ai n n=ab:=Nat.beq_refl n
def yk {e:TypeId}{z:List Value}{s b:Nat}(hT:TabOk P tab)(h:elW tab e=Z (z,s,b)):aiX tab e=Z (z,s,b)∧e≠Limb.u:=by
 unfold elW at h
 split at h
 ·cases h
 ·rename_i hu
  exact⟨h,fun he=>hu (by subst he;exact Nat.beq_refl _)⟩
def ab7 (h:TabOk P tab){e:TypeId}(ht:adu tab e=ab):P.underlying e=Z (.int .i64)∧fR P e=Z 1:=by
 unfold adu at ht
 split at ht
 ·rename_i y hy
  split at ht
  ·rename_i he
   refine⟨by rw[(h e y hy).1,he],?_⟩
   rw[h.sz hy]
   simpa using ht
  ·cases ht
 ·cases ht
def abw (h:TabOk P tab):∀{fs:List Field} {pl:List (Nat × Nat)},fs.mapM (fun f=>match tab f.type with|some z=>Z (f.offset,z.size)|none=>U)=Z pl→fs.mapM (fun f=>(P.info? f.type).map fun i=>(f.offset,i.size))=Z pl
 |[],pl,hp=>hp
 |f::fs,pl,hp=>by
  simp only[List.mapM_cons]at hp ⊢
  cases hf:tab f.type with
  |none=>rw[hf]at hp;cases hp
  |some z=>
   rw[hf]at hp
   obtain⟨_,i,hi,hs,_⟩:=h _ _ hf
   simp only[hi,Option.map_some]
   cases hm:fs.mapM (fun f=>match tab f.type with|some z=>Z (f.offset,z.size)|none=>U)with
   |none=>rw[hm]at hp;cases hp
   |some l=>
    rw[hm]at hp
    rw[abw h hm]
    rw[hs]
    exact hp
def aOf (h:TabOk P tab){t:TypeId}{zs:List D}{pl:List (Nat × Nat)}(hz:aeA tab t=Z zs)(hp:aku tab t=Z pl):aoz P t zs pl:=by
 obtain⟨i,z,hi,hz',hzs⟩:=alL h hz
 refine⟨i,z,hi,hz',hzs,?_⟩
 unfold aku at hp
 split at hp
 ·rename_i y hy
  split at hp
  ·rename_i fs he
   exact .inl ⟨fs,by rw[(h t y hy).1,he],abw h hp⟩
  ·rename_i n e he
   split at hp
   ·rename_i z' hz2
    obtain⟨_,ie,hie,hs,_⟩:=h e z' hz2
    cases hp
    refine .inr ⟨n,e,ie,by rw[(h t y hy).1,he],hie,fun j p hj=>?_⟩
    rw[aUm,aUa]at hj
    obtain⟨a,ha,rfl⟩:=hj
    rw[List.getElem?_range]at ha
    ·cases ha;rw[hs]
    ·have:=(aTU.1 ha).1
     simpa using this
   ·cases hp
  ·cases hp
 ·cases hp
def afd (h:TabOk P tab){t:TypeId}{zs:List D}(ht:ajL tab t=Z zs):acW P t zs:=by
 unfold ajL at ht
 split at ht
 ·rename_i y hy
  split at ht
  ·rename_i kt et he
   split at ht
   ·rename_i e ha
    split at ht
    ·rename_i hi64
     split at ht
     ·rename_i z hz
      split at ht
      ·rename_i a hza
       obtain⟨h1,h2⟩:=ab7 h hi64
       obtain⟨_,i,hi,_,_,hz',_⟩:=h et z hz
       exact⟨kt,et,e,by rw[(h t y hy).1,he],vJ h ha,h1,h2,i,.agg a,hi,by rw[hz',hza],⟨a,rfl⟩,ht⟩
      ·cases ht
     ·cases ht
    ·cases ht
   ·cases ht
  ·cases ht
 ·cases ht
def Rl.map (hro:∀x,R (ro x) x)(xs:List Operand):Rl R (xs.map ro) xs:=
 ⟨by simp,fun j c hj=>by
  rw[aUm,aUa]at hj
  obtain⟨x,hx,rfl⟩:=hj
  exact⟨x,hx,hro x⟩⟩
def Ro.map (hro:∀x,R (ro x) x)(x:Option Operand):Ro R (x.map ro) x:=by
 cases x with
 |none=>trivial
 |some x=>exact hro x
def ao1 (h:TabOk P tab){op:BinOp}{t:TypeId}{pk:PK}(hb:aeN tab op t=Z pk)(x y:Operand)(t':TypeId):ait P pk (.binOp op t x y t') [x,y]:=by
 unfold aeN at hb
 split at hb
 ·split at hb
  ·rename_i y hy
   have hu:=(h t y hy).1
   split at hb
   ·rename_i he;cases hb;exact⟨rfl,by rw[hu,he]⟩
   ·cases hb;exact⟨rfl,rfl⟩
   ·rename_i e he
    split at hb
    ·rename_i hc
     cases hb
     rw[aTT]at hc
     obtain⟨h1,h2⟩:=ab7 h hc.1
     obtain⟨_,i,_,_,_,_,heq⟩:=h t y hy
     exact⟨rfl,rfl,e,by rw[hu,he],h1,h2,heq hc.2⟩
    ·cases hb
   ·cases hb
  ·cases hb
 ·split at hb
  ·rename_i y hy
   have hu:=(h t y hy).1
   split at hb
   ·rename_i he;cases hb;exact⟨rfl,by rw[hu,he]⟩
   ·cases hb;exact⟨rfl,rfl⟩
   ·rename_i e he
    split at hb
    ·rename_i hc
     cases hb
     rw[aTT]at hc
     obtain⟨h1,h2⟩:=ab7 h hc.1
     obtain⟨_,i,_,_,_,_,heq⟩:=h t y hy
     exact⟨rfl,rfl,e,by rw[hu,he],h1,h2,heq hc.2⟩
    ·cases hb
   ·cases hb
  ·cases hb
 ·cases hb;exact⟨rfl,rfl⟩
def alQ (h:TabOk P tab)(hro:∀x,R (ro x) x){o:Oper}{c:Call}(ho:o.op=.call c){cop:COp}(hc:abQ tab ro c=Z cop):mM P R o cop:=by
 obtain⟨cal,args,tys⟩:=c
 unfold abQ at hc
 simp only at hc
 split at hc
 ·rename_i f
  cases hc
  exact⟨_,f,ho,rfl,hro f,Rl.map hro _⟩
 ·rename_i b
  split at hc
  ·rename_i x t ha ht
   have ha':args=#[x]:=by rw[← Array.toList_inj,ha]
   have ht':tys=#[t]:=by rw[← Array.toList_inj,ht]
   split at hc
   ·rename_i e he
    cases hc
    exact⟨_,x,t,e,ho,rfl,ha',ht',hro x,cT h he⟩
   ·split at hc
    ·rename_i y hy
     split at hc
     ·rename_i kt et hde
      cases hc
      exact⟨_,x,t,kt,et,ho,rfl,ha',ht',hro x,by rw[(h t y hy).1,hde]⟩
     ·cases hc
    ·cases hc
  ·rename_i x t ha ht
   have ha':args=#[x]:=by rw[← Array.toList_inj,ha]
   have ht':tys=#[t]:=by rw[← Array.toList_inj,ht]
   split at hc
   ·rename_i e he
    cases hc
    exact⟨_,x,t,e,ho,rfl,ha',ht',hro x,cT h he⟩
   ·cases hc
  ·rename_i d x t t' ha ht
   have ha':args=#[d,x]:=by rw[← Array.toList_inj,ha]
   have ht':tys=#[t,t']:=by rw[← Array.toList_inj,ht]
   split at hc
   ·rename_i htt
    have e:t=t':=by simpa using htt
    subst e
    split at hc
    ·rename_i e he
     split at hc
     ·rename_i z s b hel
      split at hc
      ·rename_i hs
       cases hc
       obtain⟨hel,hte⟩:=yk h hel
       obtain⟨i,zv,hi,hz,hzl,hsz,hb⟩:=tW h hel
       rw[aTT]at hs
       refine⟨_,d,x,t,e,ho,rfl,ha',ht',hro d,hro x,cT h he,i,zv,hi,hz,hsz,hb,by simpa using hs.1,?_,hte⟩
       have:=hs.2
       rw[← hzl]at this
       simpa using this
      ·cases hc
     ·cases hc
    ·cases hc
   ·split at hc
    ·rename_i e y he hy
     split at hc
     ·rename_i kn z s b hde hel
      split at hc
      ·rename_i hs
       cases hc
       rw[aTT]at hs
       exact⟨_,d,x,t,t',e,kn,ho,rfl,ha',ht',hro d,hro x,cT h he,by rw[(h t' y hy).1,hde],tW h (yk h hel).1,by simpa using hs.2,by simpa using hs.1,(yk h hel).2⟩
      ·cases hc
     ·cases hc
    ·cases hc
  ·rename_i d x t t' ha ht
   have ha':args=#[d,x]:=by rw[← Array.toList_inj,ha]
   have ht':tys=#[t,t']:=by rw[← Array.toList_inj,ht]
   split at hc
   ·rename_i e he
    split at hc
    ·rename_i s hs
     cases hc
     exact⟨_,d,x,t,t',e,ho,rfl,ha',ht',hro d,hro x,cT h he,jV h hs⟩
    ·cases hc
   ·cases hc
  ·rename_i x y ha
   have ha':args=#[x,y]:=by rw[← Array.toList_inj,ha]
   cases hc
   exact⟨[x,y],by rw[ho];exact⟨rfl,x,y,ha',rfl⟩,Rl.map hro [x,y]⟩
  ·rename_i x y ha
   have ha':args=#[x,y]:=by rw[← Array.toList_inj,ha]
   cases hc
   exact⟨[x,y],by rw[ho];exact⟨rfl,x,y,ha',rfl⟩,Rl.map hro [x,y]⟩
  ·cases hc
 ·cases hc
def ao4 (h:TabOk P tab)(hro:∀x,R (ro x) x){o:Oper}{cop:COp}(hc:aeQ tab ro o=Z cop):mM P R o cop:=by
 unfold aeQ at hc
 split at hc
 case h_1 x ho=>cases hc;exact⟨x,.inl ho,hro x⟩
 case h_2 x ho=>cases hc;exact⟨x,.inr ho,hro x⟩
 case h_3 c a b ho=>cases hc;exact⟨c,a,b,ho,hro c,hro a,hro b⟩
 case h_4 t a ho=>
  split at hc
  ·rename_i y hy;cases hc;exact⟨t,a,ho,hro a,h.ty hy⟩
  ·cases hc
 case h_5 s x f ho=>
  split at hc
  ·rename_i fd hfd
   split at hc
   ·rename_i n hn
    cases hc
    obtain⟨fs,h1,h2⟩:=adk h hfd
    exact⟨s,x,f,fs,fd,n,ho,hro x,h1,h2,rfl,jV h hn⟩
   ·cases hc
  ·cases hc
 case h_6 s x f ho=>
  split at hc
  ·rename_i fd hfd
   split at hc
   ·rename_i y hy
    cases hc
    obtain⟨fs,h1,h2⟩:=adk h hfd
    exact⟨s,x,f,fs,fd,ho,hro x,h1,h2,rfl,h.ty hy⟩
   ·cases hc
  ·cases hc
 case h_7 t x i ho=>
  split at hc
  ·rename_i e he
   split at hc
   ·rename_i s hs
    cases hc
    exact⟨t,e,x,i,ho,hro x,hro i,cT h he,jV h hs⟩
   ·cases hc
  ·split at hc
   ·rename_i n e he
    split at hc
    ·rename_i s hs
     cases hc
     exact⟨t,e,x,i,ho,hro x,hro i,vJ h he,jV h hs⟩
    ·cases hc
   ·cases hc
 case h_8 t x i ho=>
  split at hc
  ·rename_i n e he
   split at hc
   ·rename_i y hy
    cases hc
    exact⟨t,e,x,i,ho,hro x,hro i,vJ h he,h.ty hy⟩
   ·cases hc
  ·split at hc
   ·rename_i y hy
    split at hc
    ·rename_i hde
     cases hc
     exact⟨t,x,i,ho,hro x,hro i,by rw[(h t y hy).1,hde]⟩
    ·cases hc
   ·cases hc
 case h_9 x i ho=>cases hc;exact⟨x,ho,hro x⟩
 case h_10 x ho=>cases hc;exact⟨x,ho,hro x⟩
 case h_11 t ps ho=>
  split at hc
  ·rename_i zs pl hz hp
   cases hc
   refine⟨t,ps,ho,aOf h hz hp,rfl,?_⟩
   have:=Rl.map (R:=R) hro (ps.toList.map (·.2))
   rw[List.map_map]at this
   exact this
  ·cases hc
 case h_12 t len ps ho=>
  split at hc
  ·rename_i e he
   split at hc
   ·rename_i z s b hel
    have key:=Rl.map (R:=R) hro (ps.toList.map (·.2))
    rw[List.map_map]at key
    split at hc
    ·rename_i hb
     cases hc
     simp only[aTT,Bool.not_eq_true']at hb
     exact⟨t,e,b,ps,ho,cT h he,tW h hel,rfl,key,fun he'=>by rw[he',akf]at hb;exact absurd hb.2 (by decide)⟩
    ·cases hc
     exact⟨t,e,b,ps,ho,cT h he,tW h hel,rfl,key⟩
   ·cases hc
  ·cases hc
 case h_13 t x lo hi ho=>
  split at hc
  ·rename_i e he
   split at hc
   ·rename_i s hs
    cases hc
    exact⟨t,e,x,lo,hi,ho,hro x,Ro.map hro lo,Ro.map hro hi,cT h he,jV h hs⟩
   ·cases hc
  ·split at hc
   ·rename_i n e he
    split at hc
    ·rename_i s hs
     cases hc
     exact⟨t,e,x,ho,hro x,vJ h he,jV h hs⟩
    ·cases hc
   ·cases hc
 case h_14 t x lo hi mx ho=>
  split at hc
  ·rename_i e he
   split at hc
   ·rename_i s hs
    cases hc
    exact⟨t,e,x,lo,hi,mx,ho,hro x,Ro.map hro lo,hro hi,hro mx,cT h he,jV h hs⟩
   ·cases hc
  ·cases hc
 case h_15 c ho=>exact alQ h hro ho hc
 case h_16 op t x y t' ho=>
  split at hc
  ·rename_i e he
   split at hc
   ·cases hc;exact⟨t,e,x,y,t',by rw[ho];rfl,hro x,hro y,cT h he⟩
   ·cases hc;exact⟨t,e,x,y,t',by rw[ho];rfl,hro x,hro y,cT h he⟩
   ·cases hc
  ·split at hc
   ·rename_i pk hpk
    cases hc
    exact⟨[x,y],by rw[ho];exact ao1 h hpk x y t',Rl.map hro [x,y]⟩
   ·cases hc
 case h_17 t x ho=>cases hc;exact⟨[x],by rw[ho];exact rfl,Rl.map hro [x]⟩
 case h_18 t x ho=>cases hc;exact⟨[x],by rw[ho];exact rfl,Rl.map hro [x]⟩
 case h_19 t x ho=>cases hc;exact⟨[x],by rw[ho];exact rfl,Rl.map hro [x]⟩
 case h_20 s d x ho=>
  split at hc
  ·rename_i y1 y hs hd
   split at hc
   ·rename_i q hq
    cases hc
    exact⟨[x],by rw[ho];exact⟨rfl,by rw[(h d y hd).1,hq],y1.de,(h s y1 hs).1⟩,Rl.map hro [x]⟩
   ·cases hc
  ·cases hc
 case h_21 f first cap ho=>
  split at hc
  ·rename_i hf
   cases hc
   have e:first=#[]:=by rw[← Array.toList_inj,hf]
   subst e
   exact⟨cap,ho,Rl.map hro _⟩
  ·cases hc
 case h_22 t m key ho=>
  split at hc
  ·rename_i zs hz;cases hc;exact⟨t,m,key,ho,hro m,hro key,afd h hz⟩
  ·cases hc
 case h_23 e ho=>
  split at hc
  ·cases hc
  ·rename_i hu
   split at hc
   ·rename_i ds hz
    cases hc
    obtain⟨i,z,h1,h2,h3⟩:=alL h hz
    exact⟨e,i,z,ho,h1,h2,h3,fun he=>hu (by subst he;exact Nat.beq_refl _)⟩
   ·cases hc
 case h_24 e x ho=>
  split at hc
  ·cases hc
  ·rename_i hu;cases hc;exact⟨e,x,ho,hro x,fun he=>hu (by subst he;exact Nat.beq_refl _)⟩
 case h_25 t l c ho=>
  split at hc
  ·rename_i e he
   split at hc
   ·rename_i z s b hel
    cases hc
    exact⟨t,e,l,c,ho,hro l,hro c,cT h he,tW h (yk h hel).1,(yk h hel).2⟩
   ·cases hc
  ·cases hc
 case h_26 t ho=>cases hc;exact⟨t,ho⟩
 case h_27 t a x ho=>
  split at hc
  ·rename_i n hn;cases hc;exact⟨t,a,x,ho,hro a,hro x,jV h hn⟩
  ·cases hc
 case h_28 t m key x ho=>
  split at hc
  ·rename_i zs hz;cases hc;exact⟨t,zs,m,key,x,.inl ho,hro m,hro key,hro x,afd h hz⟩
  ·cases hc
 case h_29 t m key x ho=>
  split at hc
  ·rename_i zs hz;cases hc;exact⟨t,zs,m,key,x,.inr ho,hro m,hro key,hro x,afd h hz⟩
  ·cases hc
 case h_30 t x ho=>
  split at hc
  ·rename_i y hy
   split at hc
   ·rename_i kt et hde
    cases hc
    exact⟨t,x,kt,et,ho,hro x,by rw[(h t y hy).1,hde]⟩
   ·cases hc
  ·cases hc
 case h_31 x ho=>cases hc;exact⟨x,ho,hro x⟩
 case h_32=>cases hc
def agy (h:TabOk P tab)(hro:∀x,R (ro x) x)(o:Oper):mM P R o (yf tab ro o):=by
 unfold yf
 split
 ·rename_i c hc;exact ao4 h hro hc
 ·trivial
end
section
variable {P:Program} {tab:im}
def amR {t:Nat}:∀{l:List Nat} {i p:Nat},ic t l i=Z p→i≤p∧l[p-i]?=Z t
 |[],i,p,h=>by simp[ic]at h
 |x::r,i,p,h=>by
  simp only[ic]at h
  split at h
  ·rename_i hx
   cases h
   have:x=t:=by simpa using hx
   subst this
   exact⟨aTS _,by simp⟩
  ·obtain⟨h1,h2⟩:=amR h
   refine⟨by omega,?_⟩
   have e:p-i=(p-(i+1))+1:=by omega
   rw[e,List.getElem?_cons_succ]
   exact h2
def lA {t p:Nat}{kp:List Nat}(h:ic t kp 0=Z p):kp[p]?=Z t:=by simpa using (amR h).2
def j2 {t:Nat}:∀(l:List (Option Nat)) (i:Nat),iC t l i=(iC t l 0).map (·+i)
 |[],i=>rfl
 |some x::r,i=>by
  simp only[iC]
  split
  ·simp
  ·rw[j2 r (i+1),j2 r (0+1)]
   cases iC t r 0<;>simp;omega
 |none::r,i=>by
  simp only[iC]
  rw[j2 r (i+1),j2 r (0+1)]
  cases iC t r 0<;>simp;omega
def af6 (x:Operand):oM x=.z∨RsK (oM x) x:=by
 cases x with
 |tmp t=>exact .inl rfl
 |global g=>exact .inl rfl
 |func f=>exact .inr rfl
 |const v=>
  cases hv:ny v with
  |none=>exact .inl (by simp only[oM,hv])
  |some t1=>exact .inr ⟨t1,hv,by simp only[oM,hv]⟩
def DsOk (ops:Array Oper)(i:Nat)(ds:List (Option Tmp)):Prop:=
 ∀t,(∀d,iC t ds 0=Z d→dm ops t i=Z (i-1-d)∧d<i)∧(iC t ds 0=U→dm ops t i=U)
def DsOk.nil (ops:Array Oper):DsOk ops 0 []:=fun t=>⟨fun d h=>by simp[iC]at h,fun _=>rfl⟩
def DsOk.cons {ops:Array Oper}{i:Nat}{ds:List (Option Tmp)}{o:Oper}(h:DsOk ops i ds)(ho:ops[i]?=Z o):DsOk ops (i+1) (o.dst::ds):=by
 intro t
 have hw:dm ops t (i+1)=if o.dst=Z t then Z i else dm ops t i:=by simp[dm,ho]
 have hne:∀(hne:o.dst≠Z t),iC t (o.dst::ds) 0=(iC t ds 0).map (·+1):=by
  intro hne
  cases hd:o.dst with
  |none=>simp only[iC];exact j2 ds 1
  |some x=>
   have:ai x t=aa:=by
    cases hb:ai x t with
    |false=>rfl
    |true=>exact absurd (by rw[hd];congr 1;simpa using hb) hne
   simp only[iC,this]
   exact j2 ds 1
 by_cases hd:o.dst=Z t
 ·rw[if_pos hd]at hw
  have e:iC t (o.dst::ds) 0=Z 0:=by rw[hd];simp[iC]
  refine⟨fun d hd'=>?_,fun h0=>by rw[e]at h0;cases h0⟩
  rw[e]at hd'
  cases hd'
  exact⟨by rw[hw];simp,by omega⟩
 ·rw[if_neg hd]at hw
  rw[hne hd,hw]
  refine⟨fun d hd'=>?_,fun h0=>?_⟩
  ·rw[aUa]at hd'
   obtain⟨d0,h0,rfl⟩:=hd'
   obtain⟨h1,h2⟩:=(h t).1 d0 h0
   exact⟨by rw[h1];congr 1;omega,by omega⟩
  ·rw[Option.map_eq_none_iff]at h0
   exact(h t).2 h0
def aGh {ops:Array Oper}{kp:List Tmp}{i:Nat}{ds:List (Option Tmp)}(h:DsOk ops i ds)(x:Operand):RsS ops kp i (akV kp ds x) x:=by
 cases x with
 |tmp t=>
  cases hd:iC t ds 0 with
  |some d=>
   obtain⟨h1,h2⟩:=(h t).1 d hd
   exact .inr (.inr ⟨t,rfl,.inl ⟨d,i-1-d,h1,by omega,by simp only[akV,hd]⟩⟩)
  |none=>
   cases hk:ic t kp 0 with
   |none=>exact .inl (by simp only[akV,hd,jJ,hk])
   |some p=>exact .inr (.inr ⟨t,rfl,.inr ⟨(h t).2 hd,p,lA hk,by simp only[akV,hd,jJ,hk]⟩⟩)
 |global g=>exact .inl rfl
 |func f=>exact .inr (.inl rfl)
 |const v=>exact(af6 (.const v)).imp id .inl
def agE {t:Nat}:∀{l:List Nat} {i:Nat},ic t l i=U→∀p:Nat,l[p]?≠Z t
 |[],i,h,p=>by simp
 |x::r,i,h,p=>by
  simp only[ic]at h
  split at h
  ·cases h
  ·rename_i hx
   cases p with
   |zero=>simp;intro e;exact hx (by simp[e])
   |succ p=>simpa using agE h p
def ajN {t:Nat}:∀{l:List Nat},aff t l=ab↔t∈l
 |[]=>by simp[aff]
 |x::r=>by
  simp only[aff]
  split
  ·rename_i h
   have:x=t:=by simpa using h
   simp[this]
  ·rename_i h
   have:x≠t:=fun e=>h (by simp[e])
   rw[ajN (l:=r),aTZ]
   exact⟨.inr,fun h=>h.resolve_left fun e=>this e.symm⟩
def wy:∀{l:List Nat},gX l=ab→∀{p q t:Nat},l[p]?=Z t→l[q]?=Z t→p=q
 |[],_,p,q,t,h,_=>by simp at h
 |x::r,hn,p,q,t,h1,h2=>by
  simp only[gX]at hn
  split at hn
  ·cases hn
  ·rename_i hm
   have hx:x∉r:=fun h=>hm (ajN.2 h)
   cases p with
   |zero=>
    cases q with
    |zero=>rfl
    |succ q=>
     simp at h1 h2
     subst h1
     exact absurd (List.mem_of_getElem? h2) hx
   |succ p=>
    cases q with
    |zero=>
     simp at h1 h2
     subst h2
     exact absurd (List.mem_of_getElem? h1) hx
    |succ q=>
     have:=wy hn (p:=p) (q:=q) (by simpa using h1) (by simpa using h2)
     omega
def ajt {kp:List Tmp}(hn:gX kp=ab)(dst:Option Tmp):KpS kp dst (ahG kp dst):=by
 cases dst with
 |none=>exact⟨fun p h=>by simp[ahG]at h,fun t p h=>by cases h⟩
 |some t=>
  refine⟨fun p h=>⟨t,rfl,lA h⟩,fun t' p h1 h2=>?_⟩
  cases h1
  show ic t kp 0=Z p
  cases hk:ic t kp 0 with
  |none=>exact absurd h2 (agE hk p)
  |some q=>rw[wy hn (lA hk) h2]
def aiW {nt:Nat}{dst:Option Tmp}(h:ahw nt dst=ab):∀t,dst=Z t→t<nt:=by
 rintro t rfl
 simpa [ahw]using h
def akk:∀(ds:List (Option Tmp)) (n:Nat) (t:Tmp),akj ds n=Z t→ds[n]?=Z (Z t)
 |[],n,t,h=>by simp[akj]at h
 |x::r,0,t,h=>by simp[akj]at h;simp[h]
 |x::r,n+1,t,h=>by simpa using akk r n t h
def aHC (ops:Array Oper)(i:Nat)(ds:List (Option Tmp)):Prop:=∀(d:Nat) x,ds[d]?=Z x→d<i∧∃o,ops[i-1-d]?=Z o∧o.dst=x
def ao3 {ops:Array Oper}{i:Nat}{ds:List (Option Tmp)}(h:DsOk ops i ds)(ha:aHC ops i ds){g:Option (Nat × Bool)}{r:Option (Nat × Bool)}(hg:aeP i ds g=Z r):GdS ops i g r:=by
 unfold aeP at hg
 split at hg
 ·cases hg;trivial
 ·rename_i g b
  split at hg
  ·rename_i hlt
   have hlt':g<i:=by simpa using hlt
   split at hg
   ·rename_i t ht
    split at hg
    ·rename_i d hd
     split at hg
     ·rename_i hde
      have e:d=i-1-g:=by simpa using hde
      cases hg
      obtain⟨h1,h2⟩:=(h t).1 d hd
      obtain⟨_,o,ho,hod⟩:=ha _ _ (akk _ _ _ ht)
      have e2:i-1-(i-1-g)=g:=by omega
      rw[e2]at ho
      refine⟨rfl,by omega,o,t,ho,hod,?_⟩
      rw[h1];congr 1;omega
     ·cases hg
    ·cases hg
   ·cases hg
  ·cases hg
def aiS (h:TabOk P tab){nt:Nat}{kp:List Tmp}(hn:gX kp=ab){ops:Array Oper}:∀(l:List Oper) (i:Nat) (ds:List (Option Tmp)) (os:List Ro1),vR tab nt kp l i ds=Z os→(∀j,l[j]?=ops[i+j]?)→DsOk ops i ds→aHC ops i ds→
  os.length=l.length∧∀(j:Nat) o r,l[j]?=Z o→os[j]?=Z r→j7 o.op=ab∧mM P (RsS ops kp (i+j)) o r.op∧(∀t,o.dst=Z t→t<nt)∧GdS ops (i+j) o.guard r.gd∧KpS kp o.dst r.kp
 |[],i,ds,os,hc,_,_,_=>by
  simp only[vR,Option.some.injEq]at hc
  subst hc
  exact⟨rfl,fun j o r hj=>by simp at hj⟩
 |o::l,i,ds,os,hc,hl,hds,hda=>by
  simp only[vR]at hc
  split at hc
  ·rename_i hnd
   rw[aTT]at hnd
   split at hc
   ·rename_i gd os' hgd hos
    cases hc
    have ho:ops[i]?=Z o:=by have:=hl 0;simpa using this.symm
    obtain⟨h1,h2⟩:=aiS h hn l (i+1) (o.dst::ds) os' hos (fun j=>by have:=hl (j+1);rw[Nat.add_assoc,Nat.add_comm 1 j];simpa using this) (hds.cons ho) (fun d x hx=>by
     cases d with
     |zero=>
      simp at hx
      exact⟨by omega,o,by simpa using ho,hx⟩
     |succ d=>
      obtain⟨q1,o',q2,q3⟩:=hda d x (by simpa using hx)
      refine⟨by omega,o',?_,q3⟩
      rw[← q2];congr 1;omega)
    refine⟨by simp[h1],fun j o' r hj hr=>?_⟩
    cases j with
    |zero=>
     simp at hj hr
     subst hj;subst hr
     exact⟨hnd.1,agy h (aGh hds) o,aiW hnd.2,ao3 hds hda hgd,ajt hn o.dst⟩
    |succ j=>
     have:=h2 j o' r (by simpa using hj) (by simpa using hr)
     rw[Nat.add_assoc,Nat.add_comm 1 j]at this
     exact this
   ·cases hc
  ·cases hc
def as9 (h:TabOk P tab){nt:Nat}{kp:List Tmp}(hn:gX kp=ab){ops:Array Oper}{os:List Ro1}(hc:vR tab nt kp ops.toList 0 []=Z os):ROkS P nt kp ops os:=by
 obtain⟨h1,h2⟩:=aiS h hn ops.toList 0 [] os hc (fun j=>by simp) (DsOk.nil ops) (fun d x hx=>by simp at hx)
 refine⟨by simpa using h1,fun i o r ho hr=>?_⟩
 have:=h2 i o r (by simpa using ho) hr
 rwa [aUe]at this
end
def iS:List Ro1→Nat→List (Nat × COp)→Nat→List (Nat × COp)
 |_,_,js,0=>js
 |[],_,js,_+1=>js
 |r::os,i,js,n+1=>iS os (i+1) ((i,r.op)::js) n
def wa:∀(os:List Ro1) (i:Nat) (js:List (Nat × COp)) (n:Nat) (r:Ro1),os[n]?=Z r→iS os i js (n+1)=(i+n,r.op)::iS os i js n
 |[],i,js,n,r,h=>by simp at h
 |r'::os,i,js,0,r,h=>by
  simp at h;subst h
  cases os<;>simp[iS]
 |r'::os,i,js,n+1,r,h=>by
  have:=wa os (i+1) ((i,r'.op)::js) n r (by simpa using h)
  simp only[iS]
  rw[this]
  congr 2;omega
def abp {os:List Ro1}{j:Nat}{rj:Ro1}(hj:os[j]?=Z rj):∀(d:Nat),j+d+1≤os.length→(j,rj.op)::iS os 0 [] j <:+ iS os 0 [] (j+d+1)
 |0,_=>by
  rw[Nat.add_zero,wa os 0 [] j rj hj,aUe]
  exact List.suffix_refl _
 |d+1,h=>by
  have hlt:j+(d+1)<os.length:=by omega
  rw[wa os 0 [] (j+(d+1)) os[j+(d+1)] (aTX hlt)]
  exact(abp hj d (by omega)).trans (List.suffix_cons _ _)
def abA {m:Nat}:∀{L L':List (Nat × COp)},oJ m L=ab→L' <:+ L→oJ m L'=ab
 |[],L',h,hs=>by rw[List.suffix_nil.1 hs];rfl
 |(j,c)::L,L',h,hs=>by
  rcases List.suffix_cons_iff.1 hs with rfl|hs
  ·exact h
  ·simp only[oJ]at h
   split at h
   ·exact abA h hs
   ·cases h
def anr {m j:Nat}{c:COp}{L L':List (Nat × COp)}(h:oJ m L=ab)(hs:(j,c)::L' <:+ L)(hc:kd c≠.r):m.testBit j=ab:=by
 have:=abA h hs
 simp only[oJ]at this
 split at this
 ·rename_i hb
  rw[Bool.or_eq_true]at hb
  rcases hb with hb|hb
  ·cases hk:kd c<;>rw[hk]at hb hc<;>first|exact absurd rfl hc|cases hb
  ·exact hb
 ·cases this
def vI {m:Nat}:∀{L L':List (Nat × COp)},xS m L=ab→L' <:+ L→xS m L'=ab
 |[],L',h,hs=>by rw[List.suffix_nil.1 hs];rfl
 |(j,c)::L,L',h,hs=>by
  rcases List.suffix_cons_iff.1 hs with rfl|hs
  ·exact h
  ·simp only[xS]at h
   split at h
   ·split at h
    ·exact vI h hs
    ·cases h
   ·exact vI h hs
def aIr {m j:Nat}{c:COp}{L L':List (Nat × COp)}(h:xS m L=ab)(hs:(j,c)::L' <:+ L)(hc:kd c=.a)(hb:m.testBit j=ab):oJ m L'=ab:=by
 have:=vI h hs
 simp only[xS,hc,kdA,hb,Bool.and_self,if_true]at this
 split at this
 ·assumption
 ·cases this
def ae9 {m i:Nat}{c:COp}{j:Nat}{d:COp}:∀{L L':List (Nat × COp)},(j,d)::L' <:+ L→m.testBit j=aa→adP c d=ab→i-1-j∈loB m i c L
 |[],L',hs,_,_=>by have:=List.suffix_nil.1 hs;cases this
 |(j',d')::L,L',hs,hb,hl=>by
  rcases List.suffix_cons_iff.1 hs with he|hs
  ·cases he
   simp only[loB,hb,hl,Bool.not_false,Bool.and_self,if_true]
   exact aT0
  ·simp only[loB]
   split
   ·exact aT8 _ (ae9 hs hb hl)
   ·exact ae9 hs hb hl
section
variable {P:Program} {tab:im}
def adm {t j:Nat}:∀{l:List (Nat × Tmp)},sj t l=Z j→(j,t)∈l
 |[],h=>by simp[sj]at h
 |(k,x)::r,h=>by
  simp only[sj]at h
  split at h
  ·rename_i hx
   cases h
   have:x=t:=by simpa using hx
   subst this
   exact aT0
  ·exact aT8 _ (adm h)
def adl {t:Nat}:∀{l:List (Nat × Tmp)},sj t l=U→∀j,(j,t)∉l
 |[],_,j,h=>by cases h
 |(k,x)::r,h,j,hm=>by
  simp only[sj]at h
  split at h
  ·cases h
  ·rename_i hx
   rcases aTZ.1 hm with he|hm
   ·cases he;exact hx (by simp)
   ·exact adl h j hm
def aGf {kp:List Tmp}{i:Nat}{anc:List (Nat × Tmp)}(ha:∀p∈anc,p.1<i)(x:Operand):RsD anc kp i (af5 kp i anc x) x:=by
 cases x with
 |tmp t=>
  cases hd:sj t anc with
  |some j=>
   have hm:=adm hd
   have:=ha _ hm
   exact .inr (.inr ⟨t,rfl,.inl ⟨i-1-j,j,hm,by simp at this;omega,by simp only[af5,hd]⟩⟩)
  |none=>
   cases hk:ic t kp 0 with
   |none=>exact .inl (by simp only[af5,hd,jJ,hk])
   |some p=>exact .inr (.inr ⟨t,rfl,.inr ⟨adl hd,p,lA hk,by simp only[af5,hd,jJ,hk]⟩⟩)
 |global g=>exact .inl rfl
 |func f=>exact .inr (.inl rfl)
 |const v=>exact(af6 (.const v)).imp id .inl
def ao2 {i:Nat}{g:Option (Nat × Bool)}{r:Option (Nat × Bool)}(hg:aeO i g=Z r):GdD i g r:=by
 unfold aeO at hg
 split at hg
 ·cases hg;trivial
 ·rename_i g b
  split at hg
  ·rename_i hlt
   have hlt':g<i:=by simpa using hlt
   cases hg
   exact⟨rfl,by omega⟩
  ·cases hg
def aiR (h:TabOk P tab){nt:Nat}{kp:List Tmp}(hn:gX kp=ab):∀(l:List Oper) (ms:List Nat) (ans:List (List (Nat × Tmp))) (i:Nat) (js:List (Nat × COp)) (os:List Ro1),o7 tab nt kp l ms ans i js=Z os→(∀(n:Nat) an,ans[n]?=Z an→∀p∈an,p.1<i+n)→
  os.length=l.length∧∀(n:Nat) o r,l[n]?=Z o→os[n]?=Z r→∃m an,ms[n]?=Z m∧ans[n]?=Z an∧j7 o.op=ab∧mM P (RsD an kp (i+n)) o r.op∧(∀t,o.dst=Z t→t<nt)∧GdD (i+n) o.guard r.gd∧KpS kp o.dst r.kp∧
   (if kdO (kd r.op) then oJ m (iS os i js n) else xS m (iS os i js n))=ab∧r.lo=loB m (i+n) r.op (iS os i js n)
 |[],ms,ans,i,js,os,hc,_=>by
  simp only[o7,Option.some.injEq]at hc
  subst hc
  exact⟨rfl,fun j o r hj=>by simp at hj⟩
 |o::l,[],ans,i,js,os,hc,_=>by simp[o7]at hc
 |o::l,m::ms,[],i,js,os,hc,_=>by simp[o7]at hc
 |o::l,m::ms,an::ans,i,js,os,hc,ha=>by
  simp only[o7]at hc
  split at hc
  ·rename_i hnd
   rw[aTT]at hnd
   split at hc
   ·rename_i gd hgd
    by_cases hord:(if kdO (kd (yf tab (af5 kp i an) o)) then oJ m js else xS m js)=ab
    ·rw[if_pos hord]at hc
     split at hc
     ·rename_i os' hos
      cases hc
      obtain⟨h1,h2⟩:=aiR h hn l ms ans (i+1) _ os' hos (fun n an hn p hp=>by have:=ha (n+1) an (by simpa using hn) p hp;omega)
      refine⟨by simp[h1],fun n o' r hj hr=>?_⟩
      cases n with
      |zero=>
       simp at hj hr
       subst hj;subst hr
       exact⟨m,an,rfl,rfl,hnd.1,agy h (aGf fun p hp=>by have:=ha 0 an rfl p hp;omega) o,aiW hnd.2,ao2 hgd,ajt hn o.dst,hord,rfl⟩
      |succ n=>
       obtain⟨m',an',q1,q2,q3,q4,q5,q6,q7,q8,q9⟩:=h2 n o' r (by simpa using hj) (by simpa using hr)
       have e:i+1+n=i+(n+1):=by omega
       rw[e]at q4 q6 q9
       exact⟨m',an',by simpa using q1,by simpa using q2,q3,q4,q5,q6,q7,q8,q9⟩
     ·cases hc
    ·rw[if_neg hord]at hc
     cases hc
   ·cases hc
  ·cases hc
def aaM {k:Kd}:kdO k=ab↔k=.o:=by cases k<;>simp[kdO]
def as8 (h:TabOk P tab){nt:Nat}{kp:List Tmp}(hn:gX kp=ab){ops:Array Oper}{an:List (List (Nat × Tmp))}(hf:aaA ops ops.size an=ab){os:List Ro1}(hc:o7 tab nt kp ops.toList (dI [] ops.toList) an 0 []=Z os):ROkD P nt kp ops os an:=by
 have hchk:=aIV hf
 have hanc:∀(n:Nat) a,an[n]?=Z a→∀p∈a,p.1<0+n:=by
  intro n a ha p hp
  have hnl:n<ops.size:=by rw[← hchk.len];exact(aTU.1 ha).1
  have:=(hchk.ancs n ops[n] hnl (aUt hnl) p (by rw[List.getD_eq_getElem?_getD,ha];exact hp)).1
  omega
 obtain⟨h1,h2⟩:=aiR h hn ops.toList _ an 0 [] os hc hanc
 have hlen:os.length=ops.size:=by simpa using h1
 have get:∀(i:Nat) r,os[i]?=Z r→∃o m a,ops[i]?=Z o∧(dI [] ops.toList).getD i 0=m∧an.getD i []=a∧j7 o.op=ab∧mM P (RsD a kp i) o r.op∧(∀t,o.dst=Z t→t<nt)∧GdD i o.guard r.gd∧KpS kp o.dst r.kp∧
   (if kdO (kd r.op) then oJ m (iS os 0 [] i) else xS m (iS os 0 [] i))=ab∧r.lo=loB m i r.op (iS os 0 [] i):=by
  intro i r hr
  have hil:i<ops.size:=by rw[← hlen];exact(aTU.1 hr).1
  obtain⟨m,a,q1,q2,q3,q4,q5,q6,q7,q8,q9⟩:=h2 i ops[i] r (by simp[hil]) hr
  rw[aUe]at q4 q6 q9
  exact⟨ops[i],m,a,aUt hil,by rw[List.getD_eq_getElem?_getD,q1];rfl,by rw[List.getD_eq_getElem?_getD,q2];rfl,q3,q4,q5,q6,q7,q8,q9⟩
 have suf:∀(i j:Nat) rj,os[j]?=Z rj→j<i→i<os.length→(j,rj.op)::iS os 0 [] j <:+ iS os 0 [] i:=by
  intro i j rj hj hlt hil
  have:=abp hj (i-1-j) (by omega)
  have e:j+(i-1-j)+1=i:=by omega
  rwa [e]at this
 refine⟨hlen,hchk,fun i o r ho hr=>?_,fun i j r rj hi hj hlt hkj hki=>?_,fun i j l r rj rl hi hj hl hlt hki hkj hkl hb=>?_,fun i j r rj hi hj hlt hnb hloose=>?_⟩
 ·obtain⟨o',m,a,q0,_,q2,q3,q4,q5,q6,q7,_⟩:=get i r hr
  rw[ho]at q0;cases q0
  rw[q2]
  exact⟨q3,q4,q5,q6,q7⟩
 ·obtain⟨_,m,a,_,q1,_,_,_,_,_,_,q8,_⟩:=get i r hi
  rw[if_pos (aaM.2 hki)]at q8
  show((dI [] ops.toList).getD i 0).testBit j=ab
  rw[q1]
  exact anr q8 (suf i j rj hj hlt (aTU.1 hi).1) hkj
 ·obtain⟨_,m,a,_,q1,_,_,_,_,_,_,q8,_⟩:=get i r hi
  rw[if_neg (fun h=>hki (aaM.1 h))]at q8
  have hb':m.testBit j=ab:=by rw[← q1];exact hb
  have hji:j<i:=by
   rcases aT6 j i with h|h
   ·exact h
   ·have hlt2:=ti ops.toList [] (fun j oj hoj e he hb=>by simpa using hchk.back j oj (by simpa using hoj) e he hb) (fun j x hlt=>by simp at hlt) _ _ hb
    omega
  have hil:=(aTU.1 hi).1
  have:=aIr q8 (suf i j rj hj hji hil) hkj hb'
  show((dI [] ops.toList).getD i 0).testBit l=ab
  rw[q1]
  exact anr this (suf j l rl hl hlt (by omega)) hkl
 ·obtain⟨_,m,a,_,q1,_,_,_,_,_,_,_,q9⟩:=get i r hi
  have hb':m.testBit j=aa:=by
   have:¬m.testBit j=ab:=by rw[← q1];exact hnb
   simpa using this
  have hl:adP r.op rj.op=ab:=by
   unfold adP
   rw[Bool.or_eq_true,aTT,aTT,aaM,aaM]
   exact hloose
  refine⟨i-1-j,?_,by omega⟩
  rw[q9]
  exact ae9 (suf i j rj hj hlt (aTU.1 hi).1) hb' hl
end
section
variable {P:Program} {tab:im} {Bt:aP}
def akU (kp:List Tmp)(x:Operand):RsF kp (jJ kp x) x:=by
 cases x with
 |tmp t=>
  cases hk:ic t kp 0 with
  |none=>exact .inl (by simp only[jJ,hk])
  |some p=>exact .inr (.inr ⟨t,p,rfl,lA hk,by simp only[jJ,hk]⟩)
 |global g=>exact .inl rfl
 |func f=>exact .inr (.inl rfl)
 |const v=>exact(af6 (.const v)).imp id .inl
def tc (h:TabOk P tab){nt:Nat}{kp:List Tmp}(hn:gX kp=ab){bi:Nat}{rd:Bool}:∀(code:Code) (c:CC),bz tab nt kp bi rd code=Z c→(∀p∈xC code,Bt bi=Z ⟨nt,kp,p.1,p.2.1,p.2.2⟩)→ln P nt kp Bt rd c code:=by
 intro code
 induction code with
 |skip=>intro c hc _;cases hc;trivial
 |label l=>intro c hc _;cases hc;trivial
 |region id ops dr=>
  intro c hc _
  simp only[bz]at hc
  split at hc
  ·rename_i os hos
   cases hc
   unfold amw at hos
   cases dr with
   |true=>
    simp only[if_true]at hos
    split at hos
    ·rename_i hf;exact⟨_,as8 h hn hf hos⟩
    ·cases hos
   |false=>exact as9 h hn (by simpa using hos)
  ·cases hc
 |seq a b iha ihb=>
  intro c hc hp
  simp only[bz]at hc
  split at hc
  ·rename_i a' b' ha hb
   cases hc
   exact⟨iha a' ha fun p hm=>hp p (List.mem_append_left _ hm),ihb b' hb fun p hm=>hp p (List.mem_append_right _ hm)⟩
  ·cases hc
 |cond x t e iht ihe=>
  intro c hc hp
  simp only[bz]at hc
  split at hc
  ·rename_i t' e' ht he
   cases hc
   exact⟨akU kp x,iht t' ht fun p hm=>hp p (List.mem_append_left _ hm),ihe e' he fun p hm=>hp p (List.mem_append_right _ hm)⟩
  ·cases hc
 |block id b ih=>
  intro c hc hp
  simp only[bz]at hc
  split at hc
  ·rename_i b' hb;cases hc;exact⟨rfl,ih b' hb hp⟩
  ·cases hc
 |loop b ih=>
  intro c hc hp
  simp only[bz]at hc
  split at hc
  ·rename_i b' hb;cases hc;exact ih b' hb hp
  ·cases hc
 |rangeFunc g ps as b _ _=>
  intro c hc hp
  simp only[bz]at hc
  split at hc
  ·cases hc
  ·rename_i hrd
   cases hc
   exact⟨by simpa using hrd,akU kp g,hp (ps,as,b) aT0⟩
 |exit id=>intro c hc _;cases hc;exact rfl
 |scope b ih=>
  intro c hc hp
  simp only[bz]at hc
  split at hc
  ·cases hc
  ·rename_i hrd
   split at hc
   ·rename_i b' hb;cases hc;exact⟨by simpa using hrd,ih b' hb hp⟩
   ·cases hc
 |ret=>intro c hc _;cases hc;trivial
 |goto l=>intro c hc _;cases hc
 |refuse w=>intro c hc _;cases hc
def o9 (h:TabOk P tab){kp:List Tmp}:∀(rs:List ResultVar) (l:List Rs1),j0 tab kp rs=Z l→sZ P kp rs l
 |[],l,hc=>by simp only[j0,Option.some.injEq]at hc;subst hc;trivial
 |.tmp t::rs,l,hc=>by
  simp only[j0]at hc
  split at hc
  ·rename_i l' hl
   cases hc
   cases hk:ic t kp 0 with
   |none=>exact o9 h rs l' hl
   |some p=>exact⟨lA hk,o9 h rs l' hl⟩
  ·cases hc
 |.cell a t::rs,l,hc=>by
  simp only[j0]at hc
  split at hc
  ·rename_i l' p y hl hp hy
   cases hc
   exact⟨lA hp,h.ty hy,o9 h rs l' hl⟩
  ·cases hc
def tK (kp:List Tmp)(fn:Func):Option Bd:=
 match fn.body with
 |some c=>(match xC c with|[(ps,as,b)]=>Z ⟨fn.ntmps,kp,ps,as,b⟩|_=>U)
 |none=>U
def acz (fn:Func):Bool:=
 match fn.body with
 |some c=>(match xC c with|[]=>ab|[_]=>ab|_=>aa)
 |none=>aa
def ye (h:TabOk P tab){wm:Bool}{kp:List Tmp}{f:FuncId}{na:Nat}{fn:Func}{c:FnC}(h1:acz fn=ab)(hB:∀bd,tK kp fn=Z bd→Bt f=Z bd)
  (hc:qj tab wm kp f na fn=Z c):∃code,fn.body=Z code∧kp.length=c.nk∧c.pin.length≤fn.ntmps∧(∀(j p:Nat),c.pin[j]?=Z (Z p)→kp[p]?=Z j)∧ln P fn.ntmps kp Bt aa c.code code∧sZ P kp fn.results.toList c.res:=by
 unfold qj at hc
 split at hc
 ·cases hc
 ·rename_i code hcode
  split at hc
  ·rename_i hchk
   rw[aTT]at hchk
   split at hc
   ·rename_i cc rs hcc hrs
    cases hc
    refine⟨code,hcode,rfl,by simpa using hchk.2,fun j p hj=>?_,tc h hchk.1 code cc hcc fun p hp=>?_,o9 h _ _ hrs⟩
    ·rw[aUm,aUa]at hj
     obtain⟨a,ha,hk⟩:=hj
     have hjl:j<na:=by have:=(aTU.1 ha).1;simpa using this
     rw[List.getElem?_range hjl]at ha
     cases ha
     exact lA hk
    ·unfold acz at h1
     rw[hcode]at h1
     simp only at h1
     split at h1
     ·rename_i he;rw[he]at hp;cases hp
     ·rename_i q he
      rw[he]at hp
      obtain rfl:p=q:=by simpa using hp
      exact hB _ (by unfold tK;rw[hcode];simp only[he])
     ·cases h1
   ·cases hc
  ·cases hc
def x9 (h:TabOk P tab){wm:Bool}{kp:List Tmp}{f:FuncId}{na:Nat}{fn:Func}{c:FnC}(hf:P.funcs[f]?=Z fn)(hname:(fn.name == "runtime.NumGoroutine")=aa)(h1:acz fn=ab)(hB:∀bd,tK kp fn=Z bd→Bt f=Z bd)
  (hc:qj tab wm kp f na fn=Z c):FnOk P Bt f c:=by
 obtain⟨code,a1,a2,a3,a4,a5,a6⟩:=ye h h1 hB hc
 exact⟨fn,code,kp,hf,hname,a1,a2,a3,a4,a5,a6⟩
def agx (h:TabOk P tab){kp:List Tmp}{f:FuncId}{fn:Func}{c:BdC}(hn:gX kp=ab)(hB:∀bd,tK kp fn=Z bd→Bt f=Z bd)(hc:x8 tab kp f fn=Z c):BdOk P Bt f c:=by
 unfold x8 at hc
 split at hc
 ·cases hc
 ·rename_i code hcode
  split at hc
  ·rename_i ps as b hrf
   split at hc
   ·rename_i hchk
    rw[aTT]at hchk
    split at hc
    ·rename_i a' b' ha hb
     cases hc
     have hBt:=hB ⟨fn.ntmps,kp,ps,as,b⟩ (by unfold tK;rw[hcode];simp only[hrf])
     have no:∀{cd:Code} {c:CC},bz tab fn.ntmps kp f ab cd=Z c→∀p∈xC cd,False:=by
      intro cd
      induction cd with
      |seq a b iha ihb=>
       intro c hc p hp
       simp only[bz]at hc
       split at hc
       ·rename_i h1 h2
        rcases List.mem_append.1 hp with hp|hp
        ·exact iha h1 p hp
        ·exact ihb h2 p hp
       ·cases hc
      |cond x a b iha ihb=>
       intro c hc p hp
       simp only[bz]at hc
       split at hc
       ·rename_i h1 h2
        rcases List.mem_append.1 hp with hp|hp
        ·exact iha h1 p hp
        ·exact ihb h2 p hp
       ·cases hc
      |block id b ih=>
       intro c hc p hp
       simp only[bz]at hc
       split at hc
       ·rename_i h1;exact ih h1 p hp
       ·cases hc
      |loop b ih=>
       intro c hc p hp
       simp only[bz]at hc
       split at hc
       ·rename_i h1;exact ih h1 p hp
       ·cases hc
      |rangeFunc g ps as b _ _=>intro c hc p hp;simp[bz]at hc
      |scope b ih=>intro c hc p hp;simp[bz]at hc
      |_=>intro c hc p hp;cases hp
     refine⟨⟨fn.ntmps,kp,ps,as,b⟩,hBt,rfl,by simp,fun j t hj=>?_,fun j t r hj hr=>?_,fun j j' t h1 h2=>?_,tc h hn as a' ha fun p hp=>(no ha p hp).elim,tc h hn b b' hb fun p hp=>(no hb p hp).elim⟩
     ·have:=List.all_eq_true.1 hchk.2 t (by simpa using Array.mem_of_getElem? hj)
      simpa using this
     ·rw[aUm,aUa]at hr
      obtain⟨t',ht',rfl⟩:=hr
      have e:ps[j]?=Z t':=by simpa using ht'
      have hj':ps[j]?=Z t:=hj
      rw[hj']at e
      cases e
      exact ajt hn (Z t)
     ·exact wy hchk.1 (p:=j) (q:=j') (t:=t) (by simpa using h1) (by simpa using h2)
    ·cases hc
   ·cases hc
  ·cases hc
end
end
end Go.Mach
