/-
  Part 28, for the law ZeilWz, of the machine and of the contracts of functions of the program (packed).
-/
import Derived.Test.YtfiijelajgifiaaGreatA27
set_option linter.all false
set_option linter.defProp false
open Bool renaming false→aa,true→ab,eq_iff_iff→aUp
open Int renaming reduceOfNat→ac,reduceNegSucc→ae,ofNat→af,negSucc→aT2
open List renaming getElem?_eq_some_iff→aTU,length_cons→aTV,mem_cons_self→aT0,getElem?_append_left→aUs,length_nil→aUf,drop_length→aUg
open Nat renaming blt→ah,beq→ai,ble→aTQ,eq_of_beq_eq_true→aT1,lt_or_ge→aT6,blt_eq→aTR
open Option renaming some→Z,none→U
namespace Go.Proofs.YtfiijelajgifiaaGreat
noncomputable section
open Go Go.Mach Go.Flow
set_option maxRecDepth 100000
set_option maxHeartbeats 4000000
section
variable {γ:Type}
abbrev fi (γ:Type):=List Mn→List Mn→(List Mn→Option γ)→Option γ
abbrev nI (GK:fi γ)(G:Gt):Prop:=∀p q k,GK p q k=bd (G p q) k
def abS (p:List Mn)(y n:Option γ):Option γ:=@List.rec Mn (fun _=>Option γ) n (fun m r _=>@List.rec Mn (fun _=>Option γ) (@Mn.rec (fun _=>Option γ) (fun a b c d _=>bB (ai (Nat.lor (Nat.lor a b) (Nat.lor c d)) 0) n y) m) (fun _ _ _=>n) r) p
def aRO (a b c d:Nat):ai (Nat.lor (Nat.lor a b) (Nat.lor c d)) 0=tY a b c d 0 0 0 0:=by
 have h:=mS ⟨a,b,c,d,⟨0,1⟩⟩ ⟨0,0,0,0,⟨0,1⟩⟩
 rw[aUp]
 refine Iff.trans ?_ h.symm
 rw[Nat.beq_eq]
 show(a ||| b) ||| (c ||| d)=0↔a=0∧b=0∧c=0∧d=0
 rw[Nat.or_eq_zero_iff,Nat.or_eq_zero_iff,Nat.or_eq_zero_iff]
 constructor
 ·rintro⟨⟨h1,h2⟩,h3,h4⟩;exact⟨h1,h2,h3,h4⟩
 ·rintro⟨h1,h2,h3,h4⟩;exact⟨⟨h1,h2⟩,h3,h4⟩
def aeR (p:List Mn)(y n:Option γ):abS p y n=match qm p with|true=>y|false=>n:=by
 match p with
 |[]=>rfl
 |[m]=>
  obtain⟨a,b,c,d,q⟩:=m
  show bB (ai (Nat.lor (Nat.lor a b) (Nat.lor c d)) 0) n y=match tY a b c d 0 0 0 0 with|true=>y|false=>n
  rw[aRO]
  cases tY a b c d 0 0 0 0<;>rfl
 |m::k::r=>rfl
def alK (GK:fi γ)(l:List (List Mn)):List Mn→(List Mn→Option γ)→Option γ:=@List.rec (List Mn) (fun _=>List Mn→(List Mn→Option γ)→Option γ) (fun o k=>k o) (fun c _ ih o k=>GK o c fun o'=>abS o' (k o') (ih o' k)) l
def asK {GK:fi γ}{G:Gt}(hG:nI GK G):∀(l:List (List Mn)) (o:List Mn) (k:List Mn→Option γ),alK GK l o k=bd (tI G l o) k
 |[],o,k=>rfl
 |c::l,o,k=>by
  show GK o c (fun o'=>abS o' (k o') (alK GK l o' k))=_
  rw[hG,tI]
  cases G o c with
  |none=>rfl
  |some o'=>
   dsimp only[bd]
   rw[aeR,asK hG l]
   cases qm o'<;>rfl
def jf (GK:fi γ)(p:List Mn)(v:Nat)(k:List Mn→Option γ):Option γ:=ei v p fun n=>iG n (mR v p fun l=>alK GK l [] k)
def nN {GK:fi γ}{G:Gt}(hG:nI GK G)(p:List Mn)(v:Nat)(k:List Mn→Option γ):jf GK p v k=bd (gC G p v) k:=by
 unfold jf gC
 rw[cj,fC,lS,asK hG]
 cases ah (dg v p) 10000000<;>rfl
def aeb (GK:fi γ)(p:List Mn)(v:Nat)(k:List Mn→Option γ):Option γ:=@List.rec Mn (fun _=>Option γ) (k []) (fun _ _ _=>jf GK p v fun c=>mt p c k) p
def avM {GK:fi γ}{G:Gt}(hG:nI GK G)(p:List Mn)(v:Nat)(k:List Mn→Option γ):aeb GK p v k=bd (nB G p v) k:=by
 cases p with
 |nil=>rfl
 |cons m t=>
  show jf GK (m::t) v (fun c=>mt (m::t) c k)=_
  rw[nN hG,nB]
  cases gC G (m::t) v with
  |none=>rfl
  |some c=>exact sN _ _ _
abbrev lg:List Mn:=[⟨0,0,0,0,⟨.ofNat 1,1⟩⟩]
def aFQ:lg=cQ (Q.whole 1):=rfl
def alc (GK:fi γ)(v:Nat)(g:Nat):List Mn→List Mn→(List Mn→Option γ)→Option γ:=@Nat.rec (fun _=>List Mn→List Mn→(List Mn→Option γ)→Option γ) (fun _ _ _=>U)
 (fun _ ih a b k=>ahS a b v fun r=>@List.rec Mn (fun _=>Option γ) (k b) (fun _ _ _=>ei v r fun n=>bB (ai n 1) (aeb GK r v fun r1=>iZ r1 fun r2=>ih b r2 k) (k lg)) r) g
def agb {GK:fi γ}{G:Gt}(hG:nI GK G)(v:Nat):∀(g:Nat) (a b:List Mn) (k:List Mn→Option γ),alc GK v g a b k=bd (sqM G v g a b) k
 |0,a,b,k=>rfl
 |g+1,a,b,k=>by
  show ahS a b v (fun r=>@List.rec Mn (fun _=>Option γ) (k b) (fun _ _ _=>ei v r fun n=>bB (ai n 1) (aeb GK r v fun r1=>iZ r1 fun r2=>alc GK v g b r2 k) (k lg)) r)=_
  rw[azm,sqM]
  cases tq a b v with
  |none=>rfl
  |some r=>
   cases r with
   |nil=>rfl
   |cons m t=>
    show ei v (m::t) (fun n=>bB (ai n 1) (aeb GK (m::t) v fun r1=>iZ r1 fun r2=>alc GK v g b r2 k) (k lg))=_
    rw[cj]
    dsimp only
    cases ai (dg v (m::t)) 1 with
    |true=>rfl
    |false=>
     rw[fj,avM hG]
     dsimp only
     cases nB G (m::t) v with
     |none=>rfl
     |some r1=>
      dsimp only[bd]
      rw[gL]
      cases fw r1 with
      |none=>rfl
      |some r2=>exact agb hG v g b r2 k
def ahX (GK:fi γ)(A B:List Mn)(v:Nat)(k:List Mn→Option γ):Option γ:=aeJ A B v fun K=>bB (ai K 1) (r9 A B fun o=>@Option.rec (List Mn) (fun _=>Option γ) (alc GK v 1000 A B k) (fun _=>ei v B fun n=>bB (ai K n) (alc GK v 1000 A B k) (k B)) o) (k lg)
def ak4 {GK:fi γ}{G:Gt}(hG:nI GK G)(A B:List Mn)(v:Nat)(k:List Mn→Option γ):ahX GK A B v k=bd (af9 G A B v) k:=by
 unfold ahX af9
 rw[aoT]
 cases nJ A B v with
 |none=>rfl
 |some K=>
  dsimp only[bd]
  cases ai K 1 with
  |true=>rfl
  |false=>
   rw[fj,qo]
   dsimp only
   cases jF A B with
   |none=>rfl
   |some o=>
    cases o with
    |none=>exact agb hG v 1000 A B k
    |some l=>
     dsimp only[bd]
     rw[cj]
     cases ai K (dg v B)with
     |true=>rfl
     |false=>exact agb hG v 1000 A B k
def ahY (GK:fi γ)(a b:List Mn)(v:Nat)(k:List Mn→Option γ):Option γ:=ei v a fun m=>ei v b fun n=>bB (aTQ n m) (ahX GK b a v k) (ahX GK a b v k)
def aBd {GK:fi γ}{G:Gt}(hG:nI GK G)(a b:List Mn)(v:Nat)(k:List Mn→Option γ):ahY GK a b v k=bd (wX G a b v) k:=by
 unfold ahY wX
 rw[cj,cj,ak4 hG,ak4 hG]
 cases aTQ (dg v b) (dg v a)<;>rfl
def aoM (v:Nat)(l:List (List Mn))(y n:Option γ):Option γ:=@List.rec (List Mn) (fun _=>Option γ) n (fun c _ ih=>ei v c fun d=>bB (aTQ d 1) y ih) l
def ami (v:Nat)(y n:Option γ):∀(l:List (List Mn)),aoM v l y n=match ki v l with|true=>y|false=>n
 |[]=>rfl
 |c::l=>by
  show ei v c (fun d=>bB (aTQ d 1) y (aoM v l y n))=_
  rw[cj,ami v y n l,ki]
  cases aTQ (dg v c) 1<;>rfl
def hiK (l:List (List Mn))(g:Nat):(Nat→Option γ)→Option γ:=@Nat.rec (fun _=>(Nat→Option γ)→Option γ) (fun k=>k 0) (fun v ih k=>aoM v l (nK (Nat.succ v) k) (ih k)) g
def atZ (l:List (List Mn)):∀(g:Nat) (k:Nat→Option γ),hiK l g k=k (oX l g)
 |0,k=>rfl
 |v+1,k=>by
  show aoM v l (nK (Nat.succ v) k) (hiK l v k)=_
  rw[ami,aV,atZ l v,oX]
  cases ki v l<;>rfl
def ajc (GK:fi γ)(p q:List Mn)(j:Nat)(k:List Mn→Option γ):Option γ:=@Nat.rec (fun _=>Option γ) U (fun v _=>ei v q fun n=>bB (ai n 1)
 (ei v p fun m=>bB (ai m 1)
  (jf GK p v fun x=>jf GK q v fun y=>GK x y fun g=>mt p x fun u=>mt q y fun w=>ahY GK u w v fun s=>iV g s fun m=>iZ m k)
  (jf GK q v fun y=>GK p y k))
 (jf GK p v fun x=>GK x q k)) j
def atS {GK:fi γ}{G:Gt}(hG:nI GK G)(p q:List Mn)(j:Nat)(k:List Mn→Option γ):ajc GK p q j k=bd (aaE G p q j) k:=by
 cases j with
 |zero=>rfl
 |succ v=>
  show ei v q (fun n=>bB (ai n 1) (ei v p fun m=>bB (ai m 1)
   (jf GK p v fun x=>jf GK q v fun y=>GK x y fun g=>mt p x fun u=>mt q y fun w=>ahY GK u w v fun s=>iV g s fun m=>iZ m k)
   (jf GK q v fun y=>GK p y k)) (jf GK p v fun x=>GK x q k))=_
  unfold aaE
  rw[cj]
  dsimp only
  cases ai (dg v q) 1 with
  |true=>
   rw[lR,nN hG]
   dsimp only
   cases gC G p v with
   |none=>rfl
   |some x=>exact hG _ _ _
  |false=>
   rw[fj,cj]
   dsimp only
   cases ai (dg v p) 1 with
   |true=>
    rw[lR,nN hG]
    dsimp only
    cases gC G q v with
    |none=>rfl
    |some x=>exact hG _ _ _
   |false=>
    rw[fj,nN hG]
    dsimp only
    cases gC G p v with
    |none=>rfl
    |some x=>
     dsimp only[bd]
     rw[nN hG]
     cases gC G q v with
     |none=>rfl
     |some y=>
      dsimp only[bd]
      rw[hG]
      cases G x y with
      |none=>rfl
      |some g=>
       dsimp only[bd]
       rw[sN]
       cases j9 p x with
       |none=>rfl
       |some u=>
        dsimp only[bd]
        rw[sN]
        cases j9 q y with
        |none=>rfl
        |some w=>
         dsimp only[bd]
         rw[aBd hG]
         cases wX G u w v with
         |none=>rfl
         |some s=>
          dsimp only[bd]
          rw[ij]
          cases br g s with
          |none=>rfl
          |some m=>exact gL m k
def atT (GK:fi γ)(p q:List Mn)(k:List Mn→Option γ):Option γ:=@List.rec Mn (fun _=>Option γ) (iZ q k) (fun _ _ _=>@List.rec Mn (fun _=>Option γ) (iZ p k) (fun _ _ _=>abS p (k lg) (abS q (k lg) (hiK [p,q] 4 fun j=>ajc GK p q j k))) q) p
def atU {GK:fi γ}{G:Gt}(hG:nI GK G)(p q:List Mn)(k:List Mn→Option γ):atT GK p q k=bd (aaF G p q) k:=by
 cases p with
 |nil=>exact gL q k
 |cons m t=>
  cases q with
  |nil=>exact gL (m::t) k
  |cons j s=>
   show abS (m::t) (k lg) (abS (j::s) (k lg) (hiK [m::t,j::s] 4 fun n=>ajc GK (m::t) (j::s) n k))=bd (adn G (m::t) (j::s)) k
   unfold adn
   rw[aeR,aeR,atZ,atS hG]
   cases qm (m::t)with
   |true=>rfl
   |false=>cases qm (j::s)<;>rfl
def ahC (g:Nat):fi γ:=@Nat.rec (fun _=>fi γ) (fun _ _ _=>U) (fun _ ih=>atT ih) g
def ab4:∀g,nI (γ:=γ) (ahC g) (ab3 g)
 |0=>fun _ _ _=>rfl
 |g+1=>fun p q k=>atU (ab4 g) p q k
end
section
variable {γ:Type}
def axC (GK:fi γ)(l:List (List Mn)):List Mn→(List Mn→Option γ)→Option γ:=@List.rec (List Mn) (fun _=>List Mn→(List Mn→Option γ)→Option γ) (fun o k=>k o) (fun c _ ih o k=>GK o c fun o'=>ih o' k) l
def amx {GK:fi γ}{G:Gt}(hG:nI GK G):∀(l:List (List Mn)) (o:List Mn) (k:List Mn→Option γ),axC GK l o k=bd (ctF G l o) k
 |[],o,k=>rfl
 |c::l,o,k=>by
  show GK o c (fun o'=>axC GK l o' k)=_
  rw[hG,ctF]
  cases G o c with
  |none=>rfl
  |some o'=>exact amx hG l o' k
def nO (GK:fi γ)(p:List Mn)(v:Nat)(k:List Mn→Option γ):Option γ:=ei v p fun n=>iG n (mR v p fun l=>axC GK l [] k)
def yh {GK:fi γ}{G:Gt}(hG:nI GK G)(p:List Mn)(v:Nat)(k:List Mn→Option γ):nO GK p v k=bd (jE G p v) k:=by
 unfold nO jE
 rw[cj,fC,lS,amx hG]
 cases ah (dg v p) 10000000<;>rfl
def rz (GK:fi γ)(p:List Mn)(v:Nat)(k:List Mn→Option γ):Option γ:=@List.rec Mn (fun _=>Option γ) (k []) (fun _ _ _=>nO GK p v fun c=>ad9 p c k) p
def zr {GK:fi γ}{G:Gt}(hG:nI GK G)(p:List Mn)(v:Nat)(k:List Mn→Option γ):rz GK p v k=bd (jI G p v) k:=by
 cases p with
 |nil=>rfl
 |cons m t=>
  show nO GK (m::t) v (fun c=>ad9 (m::t) c k)=_
  rw[yh hG,jI]
  cases jE G (m::t) v with
  |none=>rfl
  |some c=>exact avE _ _ _
def aqc (p:List Mn)(n:Nat):List Mn→(List Mn→Option γ)→Option γ:=@Nat.rec (fun _=>List Mn→(List Mn→Option γ)→Option γ) (fun r k=>k r) (fun _ ih r k=>iW r p fun r'=>ih r' k) n
def anC (p:List Mn):∀(n:Nat) (r:List Mn) (k:List Mn→Option γ),aqc p n r k=bd (sP p n r) k
 |0,r,k=>rfl
 |n+1,r,k=>by
  show iW r p (fun r'=>aqc p n r' k)=_
  rw[ik,sP]
  cases cE r p with
  |none=>rfl
  |some r'=>exact anC p n r' k
def aBG (v:Nat)(k:List Mn→Option γ):Option γ:=@Nat.rec (fun _=>Option γ) (k [⟨1,0,0,0,⟨.ofNat 1,1⟩⟩]) (fun v _=>@Nat.rec (fun _=>Option γ) (k [⟨0,1,0,0,⟨.ofNat 1,1⟩⟩]) (fun v _=>@Nat.rec (fun _=>Option γ) (k [⟨0,0,1,0,⟨.ofNat 1,1⟩⟩]) (fun v _=>@Nat.rec (fun _=>Option γ) (k [⟨0,0,0,1,⟨.ofNat 1,1⟩⟩]) (fun _ _=>k [⟨0,0,0,0,⟨.ofNat 1,1⟩⟩]) v) v) v) v
def aHs (v:Nat)(k:List Mn→Option γ):aBG v k=k [oT v]:=by
 match v with
 |0=>rfl
 |1=>rfl
 |2=>rfl
 |3=>rfl
 |v+4=>rfl
def azk (q ld:List Mn)(v b:Nat)(j:Nat):List Mn→(List Mn→Option γ)→Option γ:=@Nat.rec (fun _=>List Mn→(List Mn→Option γ)→Option γ) (fun r k=>k r)
 (fun j ih r k=>aBG v fun vp=>aqc vp j lg fun w=>nK (Nat.add b j) fun n=>cfK v n r fun c=>iW c w fun x=>iW ld r fun y=>iW x q fun z=>aa7 y z fun r'=>ih r' k) j
def anz (q ld:List Mn)(v b:Nat):∀(j:Nat) (r:List Mn) (k:List Mn→Option γ),azk q ld v b j r k=bd (xz q ld v b j r) k
 |0,r,k=>rfl
 |j+1,r,k=>by
  show aBG v (fun vp=>aqc vp j lg fun w=>nK (Nat.add b j) fun n=>cfK v n r fun c=>iW c w fun x=>iW ld r fun y=>iW x q fun z=>aa7 y z fun r'=>azk q ld v b j r' k)=_
  rw[aHs,anC,xz,aFQ]
  cases sP [oT v] j (cQ (Q.whole 1))with
  |none=>rfl
  |some w=>
   dsimp only[bd]
   rw[aV,xY,ik]
   show bd (cE (fD v (b+j) r) w) _=_
   cases cE (fD v (b+j) r) w with
   |none=>rfl
   |some x=>
    dsimp only[bd]
    rw[ik]
    cases cE ld r with
    |none=>rfl
    |some y=>
     dsimp only[bd]
     rw[ik]
     cases cE x q with
     |none=>rfl
     |some z=>
      dsimp only[bd]
      rw[alf]
      cases tC y z with
      |none=>rfl
      |some r'=>exact anz q ld v b j r' k
def ahT (p q:List Mn)(v:Nat)(k:List Mn→Option γ):Option γ:=ei v q fun j=>@Nat.rec (fun _=>Option γ) U (fun b _=>ei v p fun a=>iG a (iG b (cfK v b q fun ld=>nK (Nat.sub a b) fun n=>azk q ld v b n p k))) j
def azn (p q:List Mn)(v:Nat)(k:List Mn→Option γ):ahT p q v k=bd (zw p q v) k:=by
 unfold ahT zw
 rw[cj]
 cases dg v q with
 |zero=>rfl
 |succ b=>
  dsimp only
  rw[cj,fC,fC,xY,aV]
  cases ah (dg v p) 10000000 with
  |false=>rfl
  |true=>
   dsimp only
   cases ah b 10000000 with
   |false=>rfl
   |true=>exact anz q _ v b _ p k
def aBk (GK:fi γ)(v:Nat)(g:Nat):List Mn→List Mn→(List Mn→Option γ)→Option γ:=@Nat.rec (fun _=>List Mn→List Mn→(List Mn→Option γ)→Option γ) (fun _ _ _=>U)
 (fun _ ih a b k=>@List.rec Mn (fun _=>Option γ) (k a) (fun _ _ _=>ahT a b v fun r=>rz GK r v fun r1=>iZ r1 fun r2=>ih b r2 k) b) g
def an1 {GK:fi γ}{G:Gt}(hG:nI GK G)(v:Nat):∀(g:Nat) (a b:List Mn) (k:List Mn→Option γ),aBk GK v g a b k=bd (sqF G v g a b) k
 |0,a,b,k=>rfl
 |g+1,a,[],k=>by rw[sqF];rfl
 |g+1,a,m::t,k=>by
  show ahT a (m::t) v (fun r=>rz GK r v fun r1=>iZ r1 fun r2=>aBk GK v g (m::t) r2 k)=_
  rw[azn,sqF]
  cases zw a (m::t) v with
  |none=>rfl
  |some r=>
   dsimp only[bd]
   rw[zr hG]
   cases jI G r v with
   |none=>rfl
   |some r1=>
    dsimp only[bd]
    rw[gL]
    cases fw r1 with
    |none=>rfl
    |some r2=>exact an1 hG v g (m::t) r2 k
def aaD (GK:fi γ)(v:Nat)(c A B:List Mn)(k:List Mn→Option γ):Option γ:=aeK A B v fun K=>bB (ai K 1) (aBk GK v 1000 A B fun R=>ei v R fun n=>bB (aTQ n 1) (iW c R fun x=>iZ x k) (iZ c k)) (iZ c k)
def ajb {GK:fi γ}{G:Gt}(hG:nI GK G)(v:Nat)(c A B:List Mn)(k:List Mn→Option γ):aaD GK v c A B k=bd (yp G v c A B) k:=by
 unfold aaD yp
 rw[aoU]
 cases nL A B v with
 |none=>rfl
 |some K=>
  dsimp only[bd]
  cases ai K 1 with
  |true=>exact gL c k
  |false=>
   rw[fj,an1 hG]
   dsimp only
   cases sqF G v 1000 A B with
   |none=>rfl
   |some R=>
    dsimp only[bd]
    rw[cj]
    cases aTQ (dg v R) 1 with
    |true=>exact gL c k
    |false=>
     rw[fj,ik]
     dsimp only
     cases cE c R with
     |none=>rfl
     |some x=>exact gL x k
def apq (GK:fi γ)(p q:List Mn)(j:Nat)(k:List Mn→Option γ):Option γ:=@Nat.rec (fun _=>Option γ) (k lg)
 (fun v _=>nO GK p v fun a=>nO GK q v fun b=>GK a b fun c=>rz GK p v fun p1=>rz GK q v fun q1=>iZ p1 fun u=>iZ q1 fun w=>ei v w fun n=>ei v u fun m=>bB (aTQ n m) (aaD GK v c w u k) (aaD GK v c u w k)) j
def ax5 {GK:fi γ}{G:Gt}(hG:nI GK G)(p q:List Mn)(j:Nat)(k:List Mn→Option γ):apq GK p q j k=bd (yo G p q j) k:=by
 cases j with
 |zero=>rfl
 |succ v=>
  show nO GK p v (fun a=>nO GK q v fun b=>GK a b fun c=>rz GK p v fun p1=>rz GK q v fun q1=>iZ p1 fun u=>iZ q1 fun w=>ei v w fun n=>ei v u fun m=>bB (aTQ n m) (aaD GK v c w u k) (aaD GK v c u w k))=_
  unfold yo
  rw[yh hG]
  dsimp only
  cases jE G p v with
  |none=>rfl
  |some a=>
   dsimp only[bd]
   rw[yh hG]
   cases jE G q v with
   |none=>rfl
   |some b=>
    dsimp only[bd]
    rw[hG]
    cases G a b with
    |none=>rfl
    |some c=>
     dsimp only[bd]
     rw[zr hG]
     cases jI G p v with
     |none=>rfl
     |some p1=>
      dsimp only[bd]
      rw[zr hG]
      cases jI G q v with
      |none=>rfl
      |some q1=>
       dsimp only[bd]
       rw[gL]
       cases fw p1 with
       |none=>rfl
       |some u=>
        dsimp only[bd]
        rw[gL]
        cases fw q1 with
        |none=>rfl
        |some w=>
         dsimp only[bd]
         rw[cj,cj,ajb hG,ajb hG]
         cases aTQ (dg v w) (dg v u)<;>rfl
def arT (p q:List Mn)(g:Nat):(Nat→Option γ)→Option γ:=@Nat.rec (fun _=>(Nat→Option γ)→Option γ) (fun k=>k 0) (fun v ih k=>ei v p fun a=>bB (aTQ a 1) (nK (Nat.succ v) k) (ei v q fun b=>bB (aTQ b 1) (nK (Nat.succ v) k) (ih k))) g
def aoo (p q:List Mn):∀(g:Nat) (k:Nat→Option γ),arT p q g k=k (kl p q g)
 |0,k=>rfl
 |v+1,k=>by
  show ei v p (fun a=>bB (aTQ a 1) (nK (Nat.succ v) k) (ei v q fun b=>bB (aTQ b 1) (nK (Nat.succ v) k) (arT p q v k)))=_
  rw[cj,cj,aV,aoo p q v,kl]
  cases aTQ (dg v p) 1 with
  |false=>rfl
  |true=>cases aTQ (dg v q) 1<;>rfl
def aCm (GK:fi γ)(p q:List Mn)(k:List Mn→Option γ):Option γ:=@List.rec Mn (fun _=>Option γ) (iZ q k) (fun _ _ _=>@List.rec Mn (fun _=>Option γ) (iZ p k) (fun _ _ _=>arT p q 4 fun j=>apq GK p q j k) q) p
def ax7 {GK:fi γ}{G:Gt}(hG:nI GK G)(p q:List Mn)(k:List Mn→Option γ):aCm GK p q k=bd (ae1 G p q) k:=by
 cases p with
 |nil=>exact gL q k
 |cons m t=>
  cases q with
  |nil=>exact gL (m::t) k
  |cons j s=>
   show arT (m::t) (j::s) 4 (fun n=>apq GK (m::t) (j::s) n k)=bd (yo G (m::t) (j::s) (kl (m::t) (j::s) 4)) k
   rw[aoo,ax5 hG]
def ahD (g:Nat):fi γ:=@Nat.rec (fun _=>fi γ) (fun _ _ _=>U) (fun _ ih=>aCm ih) g
def ab6:∀g,nI (γ:=γ) (ahD g) (yq g)
 |0=>fun _ _ _=>rfl
 |g+1=>fun p q k=>ax7 (ab6 g) p q k
end
section
variable {γ:Type}
def ac5 (c:C)(k:Bool→Option γ):Option γ:=match c with|.v (.bool b)=>k b|_=>U
def aeL (c:C)(k:Nat→Option γ):Option γ:=match c with|.big n=>k n|_=>U
def vO (c:C)(k:Nat→Option γ):Option γ:=match c with|.v (.int .i64 (.ofNat n))=>k n|_=>U
def aiI (c:C):(∃b,c=.v (.bool b))∨((∀b,c≠.v (.bool b))∧∀k:Bool→Option γ,ac5 c k=U):=by
 by_cases h:∃b,c=.v (.bool b)
 ·exact .inl h
 ·refine .inr ⟨fun b e=>h ⟨b,e⟩,fun k=>?_⟩
  unfold ac5
  split
  ·exact absurd ⟨_,rfl⟩ h
  ·rfl
def amm (c:C):(∃b,c=.big b)∨((∀b,c≠.big b)∧∀k:Nat→Option γ,aeL c k=U):=by
 by_cases h:∃b,c=.big b
 ·exact .inl h
 ·refine .inr ⟨fun b e=>h ⟨b,e⟩,fun k=>?_⟩
  unfold aeL
  split
  ·exact absurd ⟨_,rfl⟩ h
  ·rfl
def aak (c:C):(∃b,c=eC b)∨((∀b,c≠eC b)∧∀k:Nat→Option γ,vO c k=U):=by
 by_cases h:∃b,c=eC b
 ·exact .inl h
 ·refine .inr ⟨fun b e=>h ⟨b,e⟩,fun k=>?_⟩
  unfold vO
  split
  ·exact absurd ⟨_,rfl⟩ h
  ·rfl
def dQK (c1 c2 c3 c4:C)(k:Q→Option γ):Option γ:=ac5 c1 fun b=>aeL c2 fun n=>ac5 c3 fun c=>aeL c4 fun d=>bB c (okK n d (bB b (k ⟨.ofNat n,d⟩) (@Nat.rec (fun _=>Option γ) U (fun m _=>k ⟨.negSucc m,d⟩) n))) U
def aao {c1 c2 c3 c4:C}(h:∀b n c d,¬(c1=.v (.bool b)∧c2=.big n∧c3=.v (.bool c)∧c4=.big d)):dQ c1 c2 c3 c4=U:=by
 unfold dQ
 split
 ·exact absurd ⟨rfl,rfl,rfl,rfl⟩ (h _ _ _ _)
 ·rfl
def ath (c1 c2 c3 c4:C)(k:Q→Option γ):dQK c1 c2 c3 c4 k=bd (dQ c1 c2 c3 c4) k:=by
 unfold dQK
 rcases aiI (γ:=γ) c1 with⟨b,rfl⟩|⟨h,e⟩
 rotate_left
 ·rw[e,aao (fun b n c d hh=>h b hh.1)];rfl
 rcases amm (γ:=γ) c2 with⟨n,rfl⟩|⟨h,e⟩
 rotate_left
 ·show aeL c2 _=_
  rw[e,aao (fun b n c d hh=>h n hh.2.1)];rfl
 rcases aiI (γ:=γ) c3 with⟨c,rfl⟩|⟨h,e⟩
 rotate_left
 ·show ac5 c3 _=_
  rw[e,aao (fun b n c d hh=>h c hh.2.2.1)];rfl
 rcases amm (γ:=γ) c4 with⟨d,rfl⟩|⟨h,e⟩
 rotate_left
 ·show aeL c4 _=_
  rw[e,aao (fun b n c d hh=>h d hh.2.2.2)];rfl
 show bB c (okK n d (bB b (k ⟨.ofNat n,d⟩) (@Nat.rec (fun _=>Option γ) U (fun m _=>k ⟨.negSucc m,d⟩) n))) U=bd (match c,Q.okB n d with|false,ab=>(match b,n with|false,n=>Z ⟨.ofNat n,d⟩|true,m+1=>Z ⟨.negSucc m,d⟩|true,0=>U)|_,_=>U) k
 rw[avA]
 cases c with
 |true=>rfl
 |false=>
  cases Q.okB n d with
  |false=>rfl
  |true=>
   cases b with
   |false=>rfl
   |true=>cases n<;>rfl
def dMK (c1 c2 c3 c4 c5 c6 c7 c8:C)(k:Mn→Option γ):Option γ:=vO c1 fun a=>vO c2 fun b=>vO c3 fun c=>vO c4 fun d=>bB (aTQ 1073741824 (Nat.lor (Nat.lor a b) (Nat.lor c d))) (dQK c5 c6 c7 c8 fun q=>k ⟨a,b,c,d,q⟩) U
def aan {c1 c2 c3 c4 c5 c6 c7 c8:C}(h:∀a b c d,¬(c1=eC a∧c2=eC b∧c3=eC c∧c4=eC d)):dM c1 c2 c3 c4 c5 c6 c7 c8=U:=by
 unfold dM
 split
 ·exact absurd ⟨rfl,rfl,rfl,rfl⟩ (h _ _ _ _)
 ·rfl
def aI4 (c1 c2 c3 c4 c5 c6 c7 c8:C)(k:Mn→Option γ):dMK c1 c2 c3 c4 c5 c6 c7 c8 k=bd (dM c1 c2 c3 c4 c5 c6 c7 c8) k:=by
 unfold dMK
 rcases aak (γ:=γ) c1 with⟨a,rfl⟩|⟨h,e⟩
 rotate_left
 ·rw[e,aan (fun a b c d hh=>h a hh.1)];rfl
 rcases aak (γ:=γ) c2 with⟨b,rfl⟩|⟨h,e⟩
 rotate_left
 ·show vO c2 _=_
  rw[e,aan (fun a b c d hh=>h b hh.2.1)];rfl
 rcases aak (γ:=γ) c3 with⟨c,rfl⟩|⟨h,e⟩
 rotate_left
 ·show vO c3 _=_
  rw[e,aan (fun a b c d hh=>h c hh.2.2.1)];rfl
 rcases aak (γ:=γ) c4 with⟨d,rfl⟩|⟨h,e⟩
 rotate_left
 ·show vO c4 _=_
  rw[e,aan (fun a b c d hh=>h d hh.2.2.2)];rfl
 show bB (aTQ 1073741824 (Nat.lor (Nat.lor a b) (Nat.lor c d))) (dQK c5 c6 c7 c8 fun q=>k ⟨a,b,c,d,q⟩) U=bd (match uj a b c d,dQ c5 c6 c7 c8 with|true,Z q=>Z ⟨a,b,c,d,q⟩|_,_=>U) k
 rw[ath,aeZ]
 cases aTQ 1073741824 (Nat.lor (Nat.lor a b) (Nat.lor c d))with
 |true=>rfl
 |false=>cases dQ c5 c6 c7 c8<;>rfl
def un1 (cs:List C)(k:C→List C→Option γ):Option γ:=@List.rec C (fun _=>Option γ) U (fun c r _=>k c r) cs
def dPK (n:Nat):List C→(List Mn→Option γ)→Option γ:=@Nat.rec (fun _=>List C→(List Mn→Option γ)→Option γ) (fun cs k=>@List.rec C (fun _=>Option γ) (k []) (fun _ _ _=>U) cs)
 (fun _ ih cs k=>un1 cs fun c1 r=>un1 r fun c2 r=>un1 r fun c3 r=>un1 r fun c4 r=>un1 r fun c5 r=>un1 r fun c6 r=>un1 r fun c7 r=>un1 r fun c8 r=>dMK c1 c2 c3 c4 c5 c6 c7 c8 fun m=>ih r fun p=>k (m::p)) n
def atf:∀(n:Nat) (cs:List C) (k:List Mn→Option γ),dPK n cs k=match dP cs with|some p=>(match ai n p.length with|true=>k p|false=>U)|none=>U
 |0,[],k=>rfl
 |0,[_],k=>rfl
 |0,[_,_],k=>rfl
 |0,[_,_,_],k=>rfl
 |0,[_,_,_,_],k=>rfl
 |0,[_,_,_,_,_],k=>rfl
 |0,[_,_,_,_,_,_],k=>rfl
 |0,[_,_,_,_,_,_,_],k=>rfl
 |0,c1::c2::c3::c4::c5::c6::c7::c8::r,k=>by
  show U=_
  rw[dP]
  cases dM c1 c2 c3 c4 c5 c6 c7 c8 with
  |none=>rfl
  |some m=>cases dP r<;>rfl
 |n+1,[],k=>rfl
 |n+1,[_],k=>rfl
 |n+1,[_,_],k=>rfl
 |n+1,[_,_,_],k=>rfl
 |n+1,[_,_,_,_],k=>rfl
 |n+1,[_,_,_,_,_],k=>rfl
 |n+1,[_,_,_,_,_,_],k=>rfl
 |n+1,[_,_,_,_,_,_,_],k=>rfl
 |n+1,c1::c2::c3::c4::c5::c6::c7::c8::r,k=>by
  show dMK c1 c2 c3 c4 c5 c6 c7 c8 (fun m=>dPK n r fun p=>k (m::p))=_
  rw[aI4,dP]
  cases dM c1 c2 c3 c4 c5 c6 c7 c8 with
  |none=>rfl
  |some m=>
   dsimp only[bd]
   rw[atf n r]
   cases dP r with
   |none=>rfl
   |some p=>rfl
def pCK (n:Nat)(cs:List C)(k:List Mn→Option γ):Option γ:=bB (aTQ 10000000 n) (dPK n cs k) U
def pvK (x:V1)(k:List Mn→Option γ):Option γ:=match x with|.one (.sl n cs)=>pCK n cs k|_=>U
def vv (x:V1)(k:List Mn→Option γ):pvK x k=bd (gz x) k:=by
 unfold pvK gz
 split
 ·rename_i n cs
  unfold pCK
  rw[atf]
  dsimp only
  rw[ee]
  cases aTQ 10000000 n with
  |true=>
   show U=_
   cases dP cs with
   |none=>rfl
   |some p=>dsimp only;cases ai n p.length<;>rfl
  |false=>
   rw[fj]
   cases dP cs with
   |none=>rfl
   |some p=>dsimp only;cases ai n p.length<;>rfl
 ·rename_i h
  split
  ·exact absurd rfl (h _ _)
  ·rfl
def qvK (x:V1)(k:Q→Option γ):Option γ:=match x with|.agg [c1,c2,c3,c4]=>dQK c1 c2 c3 c4 k|_=>U
def av3 (x:V1)(k:Q→Option γ):qvK x k=bd (xB x) k:=by
 unfold qvK xB
 split
 ·exact ath _ _ _ _ _
 ·rename_i h
  split
  ·exact absurd rfl (h _ _ _ _)
  ·rfl
def eZK (z:Int)(k:C→C→Option γ):Option γ:=@Int.rec (fun _=>Option γ) (fun a=>k (.v (.bool aa)) (.big a)) (fun a=>k (.v (.bool ab)) (.big (Nat.succ a))) z
def atk (z:Int)(k:C→C→Option γ):eZK z k=k (.v (.bool (aw z))) (.big (ap z)):=by cases z<;>rfl
def enK (p:List Mn):(List C→Option γ)→Option γ:=@List.rec Mn (fun _=>(List C→Option γ)→Option γ) (fun k=>k []) (fun m _ ih k=>@Mn.rec (fun _=>Option γ) (fun a b c d q=>@Q.rec (fun _=>Option γ) (fun z e=>eZK z fun s x=>ih fun cs=>k (eC a::eC b::eC c::eC d::s::x::.v (.bool aa)::.big e::cs)) q) m) p
def atm:∀(p:List Mn) (k:List C→Option γ),enK p k=k (pL p)
 |[],k=>rfl
 |m::p,k=>by
  obtain⟨a,b,c,d,z,e⟩:=m
  show eZK z (fun s x=>enK p fun cs=>k (eC a::eC b::eC c::eC d::s::x::.v (.bool aa)::.big e::cs))=_
  rw[atk,atm p];rfl
def ry (p:List Mn)(k:C→Option γ):Option γ:=ig p Nat.zero fun n=>enK p fun cs=>k (.sl n cs)
def nb (p:List Mn)(k:C→Option γ):ry p k=k (pC p):=by
 unfold ry
 rw[eO,atm];rfl
def ap8 (l:List (List Mn)):(List C→Option γ)→Option γ:=@List.rec (List Mn) (fun _=>(List C→Option γ)→Option γ) (fun k=>k []) (fun p _ ih k=>ry p fun c=>ih fun cs=>k (c::cs)) l
def akr:∀(l:List (List Mn)) (k:List C→Option γ),ap8 l k=k (l.map pC)
 |[],k=>rfl
 |p::l,k=>by
  show ry p (fun c=>ap8 l fun cs=>k (c::cs))=_
  rw[nb,akr l];rfl
end
abbrev KR:=List V1→R4
def oP (p:List Mn)(k:KR):R4:=ry p fun c=>k [.one c]
def ap7 (p:List Mn)(k:KR):oP p k=k [pV p]:=nb _ _
def oQ (q:Q)(k:KR):R4:=@Q.rec (fun _=>R4) (fun z e=>eZK z fun s x=>k [.agg [s,x,.v (.bool aa),.big e]]) q
def aC2 (q:Q)(k:KR):oQ q k=k [eQ q]:=by
 obtain⟨z,e⟩:=q
 unfold oQ
 dsimp only
 rw[atk]
def oN (n:Nat)(k:KR):R4:=@Nat.rec (fun _=>R4) (k [sV (aT2 0)]) (fun m _=>k [sV (af m)]) n
def aOW (n:Nat)(k:KR):oN n k=k [sV (m1 n)]:=by cases n<;>rfl
def oL (l:List (List Mn))(k:KR):R4:=ig l Nat.zero fun n=>ap8 l fun cs=>k [.one (.sl n cs)]
def aOT (l:List (List Mn))(k:KR):oL l k=k [lV l]:=by
 unfold oL
 rw[eO,akr];rfl
def g1K (f:List Mn→KR→R4):eX:=fun al k=>match al with|[x]=>pvK x fun p=>f p k|_=>U
def yn (f:List Mn→List Mn→KR→R4):eX:=fun al k=>match al with|[x,y]=>pvK x fun p=>pvK y fun q=>f p q k|_=>U
def giK (f:List Mn→Nat→KR→R4):eX:=fun al k=>match al with|[x,.one (.v (.int .i64 (.ofNat v)))]=>bB (aTQ 4 v) (pvK x fun p=>f p v k) U|_=>U
def h2K (f:Q→Q→KR→R4):eX:=fun al k=>match al with|[x,y]=>qvK x fun p=>qvK y fun q=>f p q k|_=>U
abbrev fJ (m:eX)(n:Nt):Prop:=∀al k,m al k=qg (n al) k
def aJC {f:List Mn→KR→R4}{F:List Mn→Option (List V1)}(h:∀p k,f p k=qg (F p) k):fJ (g1K f) (pg1 F):=fun al k=>by
 unfold g1K pg1
 split
 ·rename_i x
  rw[vv]
  dsimp only
  cases gz x with
  |none=>rfl
  |some p=>exact h p k
 ·rename_i hh
  split
  ·exact absurd rfl (hh _)
  ·rfl
def lZ {f:List Mn→List Mn→KR→R4}{F:List Mn→List Mn→Option (List V1)}(h:∀p q k,f p q k=qg (F p q) k):fJ (yn f) (kI F):=fun al k=>by
 unfold yn kI
 split
 ·rename_i x y
  rw[vv]
  dsimp only
  cases gz x with
  |none=>rfl
  |some p=>
   dsimp only[bd]
   rw[vv]
   cases gz y with
   |none=>rfl
   |some q=>exact h p q k
 ·rename_i hh
  split
  ·exact absurd rfl (hh _ _)
  ·rfl
def atW {f:List Mn→Nat→KR→R4}{F:List Mn→Nat→Option (List V1)}(h:∀p v k,f p v k=qg (F p v) k):fJ (giK f) (sO F):=fun al k=>by
 unfold giK sO
 split
 ·rename_i x v
  rw[vv]
  dsimp only
  rw[ee]
  cases aTQ 4 v with
  |true=>cases gz x<;>rfl
  |false=>
   rw[fj]
   cases gz x with
   |none=>rfl
   |some p=>exact h p v k
 ·rename_i hh
  split
  ·exact absurd rfl (hh _ _)
  ·rfl
def atX {f:Q→Q→KR→R4}{F:Q→Q→Option (List V1)}(h:∀p q k,f p q k=qg (F p q) k):fJ (h2K f) (sR F):=fun al k=>by
 unfold h2K sR
 split
 ·rename_i x y
  rw[av3]
  dsimp only
  cases xB x with
  |none=>rfl
  |some p=>
   dsimp only[bd]
   rw[av3]
   cases xB y with
   |none=>rfl
   |some q=>exact h p q k
 ·rename_i hh
  split
  ·exact absurd rfl (hh _ _)
  ·rfl
def aKt (v:V1)(k:V1→R4):R4:=match v with|.one c=>lyC c fun c=>k (.one c)|.agg cs=>xu lyC cs fun cs=>k (.agg cs)
def aFg (v:V1)(k:V1→R4):aKt v k=k v:=by
 cases v with
 |one c=>show lyC c (fun c=>k (.one c))=_;rw[ajE]
 |agg cs=>show xu lyC cs (fun cs=>k (.agg cs))=_;rw[mg ajE]
def dh (n:Nt):eX:=fun al k=>match n al with|some rs=>xu aKt rs k|none=>U
def bh (n:Nt):fJ (dh n) n:=fun al k=>by
 unfold dh
 cases n al with
 |none=>rfl
 |some rs=>exact mg aFg rs k
def ahI (x:Option (List Mn))(k:KR):bd x (fun r=>oP r k)=qg (match x with|some r=>Z [pV r]|none=>U) k:=by
 cases x with
 |none=>rfl
 |some r=>exact ap7 r k
def aCI:eX:=yn fun p q k=>iV p q fun r=>oP r k
def ayq:fJ aCI bU:=lZ fun p q k=>(ij p q _).trans (ahI _ k)
def aCw:eX:=yn fun p q k=>kL p q fun r=>oP r k
def ayh:fJ aCw fG:=lZ fun p q k=>(qe p q _).trans (ap7 _ k)
def aCP:eX:=yn fun p q k=>pI p q fun r=>oP r k
def ayr:fJ aCP cS:=lZ fun p q k=>(rK p q _).trans (ap7 _ k)
def odP (o:Option (List Mn))(k:KR):R4:=@Option.rec (List Mn) (fun _=>R4) (k [.one (.sl 0 []),bV aa]) (fun l=>ry l fun c=>k [.one c,bV ab]) o
def aOG (x:Option (Option (List Mn)))(k:KR):bd x (fun r=>odP r k)=qg (match x with|some (Z l)=>Z [pV l,bV ab]|some U=>Z [pV [],bV aa]|none=>U) k:=by
 match x with
 |none=>rfl
 |some U=>rfl
 |some (Z l)=>show ry l (fun c=>k [.one c,bV ab])=_;rw[nb];rfl
def aCz:eX:=yn fun p q k=>r9 p q fun r=>odP r k
def ayj:fJ aCz iv:=lZ fun p q k=>(qo p q _).trans (aOG _ k)
def ayi:eX:=giK fun p v k=>ei v p fun n=>oN n k
def amV:fJ ayi a9:=atW fun p v k=>(cj v p _).trans (aOW _ k)
def auo:eX:=yn fun p q k=>mt p q fun r=>oP r k
def aup:fJ auo jl:=lZ fun p q k=>(sN p q _).trans (ahI _ k)
def aCD:eX:=yn fun p q k=>ahC 40 p q fun r=>oP r k
def ayn:fJ aCD aaU:=lZ fun p q k=>(ab4 40 p q _).trans (ahI _ k)
def aCE:eX:=yn fun p q k=>ahD 40 p q fun r=>oP r k
def ayo:fJ aCE aaV:=lZ fun p q k=>(ab6 40 p q _).trans (ahI _ k)
def we:eX:=giK fun p v k=>ei v p fun n=>iG n (mR v p fun l=>oL l k)
def abs:fJ we k8:=atW fun p v k=>by
 rw[cj,fC,lS,aOT]
 cases ah (dg v p) 10000000<;>rfl
def aKc:eX:=h2K fun a b k=>ahU a b fun r=>oQ r k
def aE6:fJ aKc iE:=atX fun a b k=>(akO a b _).trans (aC2 _ k)
def aJU:eX:=h2K fun a b k=>wO a b fun r=>oQ r k
def aE4:fJ aJU cV:=atX fun a b k=>(acw a b _).trans (aC2 _ k)
def tCsX  : Ft:=.n .z 92 (.nat a9) U .z
def aGX   {k:Cls}:tCsX.Ok Tryz.prog k aH:=⟨tv,jP,tv,tv⟩
def alO {p:List Mn}{v:Nat}(hp:PF p)(hv:v<4)(hk:dg v p<10000000):bM (ao tCsX.tb 10 8) ak jU.1 [pV p,sV (af v)]=Z [lV (aS v p)]:=by
 obtain⟨H1,W1,M,e1,i1,f1⟩:=rW (cf:=ao tCsX.tb 10 8) hp hv hk (fun _ _ _=>rfl) []
 have hrn:(aS v p).length=dg v p:=by unfold aS;rw[mQ]
 have i1':CoR 0 H1 M (aS v p):=i1
 obtain⟨bs,e2⟩:=ai9 (i1'.rw (x:=H1.length) fun b _ h2=>by omega) i1'.blk
 have e1':cy (ao tCsX.tb 10 8) ak jU.1 [pT p,iT v] [] []=Z (cD 0 (dg v p),H1,[],W1):=e1
 unfold bM
 show(match cy (ao tCsX.tb 10 8) ak jU.1 [pT p,iT v] [] []with|some (y,H,_,_)=>(match li H y with|some (rs,_)=>Z rs|none=>U)|none=>U)=_
 rw[e1']
 dsimp only[li,oS,nu,cD]
 rw[← hrn,e2]
def acg:=sO fun p v=>match ah (dg v p) 10000000 with|true=>Z [lV (aS v p)]|false=>U
def alZ {k:Cls}:Cn k 106 acg:=lU (ay aGX jU.2 10 ak 8) fun p v rs h hv e=>by
 split at e
 ·rename_i hb
  cases e
  rw[aTR]at hb
  exact alO h hv hb
 ·cases e
def cmB (a b:Q):Bool:=xg (a.n*af b.d) (b.n*af a.d)==af 0
def eD:List Mn→List Mn→Bool
 |[],[]=>ab
 |m::p,k::q=>(match bp m k with|false=>aa|true=>match cmB m.q k.q with|false=>aa|true=>eD p q)
 |_,_=>aa
def amD:∀{p q:List Mn},p.length≠q.length→eD p q=aa
 |[],[],h=>absurd rfl h
 |[],_::_,_=>rfl
 |_::_,[],_=>rfl
 |m::p,k::q,h=>by
  have:=amD (p:=p) (q:=q) (by simpa using h)
  rw[eD,this]
  cases bp m k with
  |false=>rfl
  |true=>cases cmB m.q k.q<;>rfl
def eqT (m k:Mn):Bool:=match bp m k with|false=>aa|true=>cmB m.q k.q
def qZ:Nt
 |[.agg [c1,c2,c3,c4,c5,c6,c7,c8],.agg [d1,d2,d3,d4,d5,d6,d7,d8]]=>(match dM c1 c2 c3 c4 c5 c6 c7 c8,dM d1 d2 d3 d4 d5 d6 d7 d8 with|some m,Z k=>Z [bV (eqT m k)]|_,_=>U)
 |_=>U
def aKN {m k:Mn}(hm:m.Ok)(hk:k.Ok):qZ [.agg (mC m),.agg (mC k)]=Z [bV (eqT m k)]:=by
 simp only[qZ,aiT hm,aiT hk]
def tEqX  : Ft:=.n .z 149 (.nat y8) U .z
def aG2   {k:Cls}:tEqX.Ok Tryz.prog k aH:=⟨tv,aj4,tv,tv⟩
def aOl {m k:Mn}(h:tY m.a m.b m.c m.d k.a k.b k.c k.d=aa){cf:av}:bM cf ak akG.1 [.agg (mC m),.agg (mC k)]=Z [bV aa]:=by
 simp(maxSteps:=9^9) only[az,seval,-ac,-ae,mA,aHU,ar,vr,aaK,abM,h,List.toList_toArray]
def aOm {m k:Mn}{z:Int}{b:Bool}(h:tY m.a m.b m.c m.d k.a k.b k.c k.d=ab)(e1:y8 [eQ m.q,eQ k.q]=Z [sV z])(hz:(z==af 0)=b){cf:av}(c1:CA cf 149 y8):bM cf ak akG.1 [.agg (mC m),.agg (mC k)]=Z [bV b]:=by
 simp(maxSteps:=9^9) only[az,seval,-ac,-ae,mA,aHU,ar,vr,aaK,abM,h,List.toList_toArray,c1,e1,hz]
def ayH {k:Cls}:Cn k 201 qZ:=aC (ay aG2 akG.2 10 ak 8) fun al rs h=>by
 unfold qZ at h
 split at h
 ·split at h
  ·rename_i m k hm hk
   obtain⟨h1,o1⟩:=adf hm
   obtain⟨h2,o2⟩:=adf hk
   cases h
   rw[h1,h2]
   unfold eqT bp
   cases he:tY m.a m.b m.c m.d k.a k.b k.c k.d with
   |false=>exact aOl he
   |true=>exact aOm he (aKM o1.q o2.q) rfl (fun _ _ _=>rfl)
  ·cases h
 ·cases h
section
variable {α:Type} (E:List α) (x y u:α)
def g20:(E++[x]++[y])[E.length]?=Z x:=by simp
def g21:(E++[x]++[y])[E.length+1]?=Z y:=by simp
def s20:(E++[x]++[y]).set E.length u=E++[u]++[y]:=by simp
def s21:(E++[x]++[y]).set (E.length+1) u=E++[x]++[u]:=by simp
end
section
variable {p q t u:List Mn} {m k:Mn} {i n:Nat} {t1 t2 t3 t4 t5 t6 t12:T} {H:Hp} {W:List Nat} {cf:av}
def aEu (hi:p.drop i=m::t)(hj:q.drop i=k::u)(hl:p.length<10000000)(e1:qZ [.agg (mC m),.agg (mC k)]=Z [bV ab])(c1:CA cf 201 qZ)(fl:Nat):
  ∃t1' t2' t3' t4' t5' H' W',am cf fl uB ⟨[iT i,t1,t2,t3,t4,t5,t6,pT q,pT p,iT p.length,fT 201,pT p,t12],H,[],W,[]⟩=Z (.normal,⟨[iT (i+1),t1',t2',t3',t4',t5',t6,pT q,pT p,iT p.length,fT 201,pT p,t12],H',[],W',[]⟩):=by
 have hd:=bW hi
 have he:=bW hj
 have h1:=aM hi
 have h2:=aM hj
 have f1:i+1<9223372036854775808:=by omega
 simp(maxSteps:=9^9) only[au,seval,-ac,-ae,aie,ar,c1,e1,h1,h2,hd,he,f1,g20,g21,s20,s21,bk,bx,l6,nC]
 exact⟨_,_,_,_,_,_,_,rfl⟩
def aOk (hi:p.drop i=m::t)(hj:q.drop i=k::u)(hl:p.length<10000000)(e1:qZ [.agg (mC m),.agg (mC k)]=Z [bV aa])(c1:CA cf 201 qZ)(fl:Nat):
  ∃t1' t2' t3' t4' t5' H' W',am cf fl uB ⟨[iT i,t1,t2,t3,t4,t5,t6,pT q,pT p,iT p.length,fT 201,pT p,t12],H,[],W,[]⟩=Z (.ret,⟨[iT i,t1',t2',t3',t4',t5',bj aa,pT q,pT p,iT p.length,fT 201,pT p,t12],H',[],W',[]⟩):=by
 have hd:=bW hi
 have he:=bW hj
 have h1:=aM hi
 have h2:=aM hj
 simp(maxSteps:=9^9) only[au,seval,-ac,-ae,aie,ar,c1,e1,h1,h2,hd,he,g20,g21,s20,s21,bk,bx,l6,nC]
 exact⟨_,_,_,_,_,_,_,rfl⟩
def aJb (fl:Nat):
  ∃t4',am cf fl uB ⟨[iT n,t1,t2,t3,t4,t5,t6,pT q,pT p,iT n,fT 201,pT p,t12],H,[],W,[]⟩=Z (.exit 0,⟨[iT n,t1,t2,t3,t4',t5,t6,pT q,pT p,iT n,fT 201,pT p,t12],H,[],W,[]⟩):=by
 simp(maxSteps:=9^9) only[au,seval,-ac,-ae,aie,ar]
 exact⟨_,rfl⟩
end
def aJc {p q:List Mn}(hp:PF p)(hq:PF q){cf:av}(c1:CA cf 201 qZ):
  ∃H' W',cy cf ak zH.1 [pT p,pT q,fT 201] [] []=Z (bj (eD p q),H',[],W'):=by
 cases hlen:(p.length != q.length)with
 |true=>
  have hne:p.length≠q.length:=by simpa using hlen
  rw[amD hne]
  simp(maxSteps:=9^9) only[au,seval,-ac,-ae,aw5,ar,hlen]
  exact⟨_,_,rfl⟩
 |false=>
  have heq:p.length=q.length:=by simpa using hlen
  obtain⟨x,st',hl,_,hQ⟩:=bg (body:=am cf ak uB)
   (fun i st=>i≤p.length∧eD (p.drop i) (q.drop i)=eD p q∧∃t1 t2 t3 t4 t5 H W,st=⟨[iT i,t1,t2,t3,t4,t5,bj aa,pT q,pT p,iT p.length,fT 201,pT p,bj aa],H,[],W,[]⟩) (fun i=>p.length-i)
   (fun x st'=>(x=.ret∧eD p q=aa∧∃t0 t1 t2 t3 t4 t5 H W,st'=⟨[t0,t1,t2,t3,t4,t5,bj aa,pT q,pT p,iT p.length,fT 201,pT p,bj aa],H,[],W,[]⟩)∨(x=.exit 0∧eD p q=ab∧∃t0 t1 t2 t3 t4 t5 H W,st'=⟨[t0,t1,t2,t3,t4,t5,bj aa,pT q,pT p,iT p.length,fT 201,pT p,bj aa],H,[],W,[]⟩))
   (fun i st hI=>by
    obtain⟨hi,hR,t1,t2,t3,t4,t5,H,W,rfl⟩:=hI
    rcases aT6 i p.length with h1|h1
    ·obtain⟨m,t,hm⟩:=bo h1
     obtain⟨k,u,hk⟩:=bo (p:=q) (i:=i) (by omega)
     have om:=hp.ok m (aX hm)
     have ok:=hq.ok k (aX hk)
     have e1:=aKN om ok
     rw[hm,hk,eD]at hR
     cases he:eqT m k with
     |true=>
      rw[he]at e1
      have:bp m k=ab∧cmB m.q k.q=ab:=by
       unfold eqT at he
       split at he
       ·cases he
       ·rename_i h2;exact⟨h2,he⟩
      rw[this.1,this.2]at hR
      obtain⟨t1',t2',t3',t4',t5',H',W',e⟩:=aEu (t1:=t1) (t2:=t2) (t3:=t3) (t4:=t4) (t5:=t5) (t6:=bj aa) (t12:=bj aa) (H:=H) (W:=W) hm hk hp.len e1 c1 ak
      exact .inl ⟨i+1,_,e,⟨h1,by rw[bf hm,bf hk];exact hR,_,_,_,_,_,_,_,rfl⟩,by omega⟩
     |false=>
      rw[he]at e1
      have hF:eD p q=aa:=by
       rw[← hR]
       unfold eqT at he
       cases h2:bp m k with
       |false=>rfl
       |true=>rw[h2]at he;dsimp only at he ⊢;rw[he]
      obtain⟨t1',t2',t3',t4',t5',H',W',e⟩:=aOk (t1:=t1) (t2:=t2) (t3:=t3) (t4:=t4) (t5:=t5) (t6:=bj aa) (t12:=bj aa) (H:=H) (W:=W) hm hk hp.len e1 c1 ak
      exact .inr ⟨_,_,e,by simp,.inl ⟨rfl,hF,_,_,_,_,_,_,_,_,rfl⟩⟩
    ·obtain rfl:i=p.length:=by omega
     obtain⟨t4',e⟩:=aJb (p:=p) (q:=q) (n:=p.length) (t1:=t1) (t2:=t2) (t3:=t3) (t4:=t4) (t5:=t5) (t6:=bj aa) (t12:=bj aa) (H:=H) (W:=W) (cf:=cf) ak
     rw[aUg,heq,aUg]at hR
     exact .inr ⟨_,_,e,by simp,.inr ⟨rfl,hR.symm,_,_,_,_,_,_,_,_,rfl⟩⟩)
   ak 0 ⟨[iT 0,.nil,.nil,.nil,.nil,.nil,bj aa,pT q,pT p,iT p.length,fT 201,pT p,bj aa],[],[],[],[]⟩ ⟨Nat.zero_le _,rfl,_,_,_,_,_,_,_,rfl⟩ (by have:=aN hp.len;omega)
  rcases hQ with⟨rfl,hF,t0,t1,t2,t3,t4,t5,H,W,rfl⟩|⟨rfl,hF,t0,t1,t2,t3,t4,t5,H,W,rfl⟩
  ·rw[hF]
   simp(maxSteps:=9^9) only[au,seval,-ac,-ae,aw5,ar,hlen,hl]
   exact⟨_,_,rfl⟩
  ·rw[hF]
   simp(maxSteps:=9^9) only[au,seval,-ac,-ae,aw5,ar,hlen,hl]
   exact⟨_,_,rfl⟩
def tEqM  : Ft:=.n (.n .z 200 (.code zH.1) U .z) 201 (.nat qZ) U .z
def aG1   {k:Cls}:tEqM.Ok Tryz.prog k aH:=⟨⟨tv,zH.2,tv,tv⟩,ayH,tv,tv⟩
def aEw {p q:List Mn}(hp:PF p)(hq:PF q):bM (ao tEqM.tb ak 8) ak aqk.1 [pV p,pV q]=Z [bV (eD p q)]:=by
 have c0:∀x y z H S,ao tEqM.tb ak 8 (fT 200) [x,y,z] H S=cy (ao tEqM.tb ak 7) ak zH.1 [x,y,z] H S:=fun _ _ _ _ _=>rfl
 have c1:CA (ao tEqM.tb ak 7) 201 qZ:=fun _ _ _=>rfl
 generalize ao tEqM.tb ak 8=cf at*
 generalize ao tEqM.tb ak 7=cg at*
 obtain⟨H',W',e⟩:=aJc hp hq c1
 have k1:=(c0 _ _ _ _ _).trans e
 simp(maxSteps:=9^9) only[au,seval,-ac,-ae,aQh,ar,k1]
def eh:=kI fun p q=>Z [bV (eD p q)]
def zb {p q:List Mn}(hp:PF p)(hq:PF q):eh [pV p,pV q]=Z [bV (eD p q)]:=i7 hp hq
def mh {k:Cls}:Cn k 130 eh:=dG (ay aG1 aqk.2 ak ak 8) fun p q rs hp hq h=>by
 cases h;exact aEw hp hq
def aqA:=mq aa 172 2 Tryz.func172
def aQC:=ev (fl aqA.1) aqA.1
def aql:=mq aa 131 2 Tryz.func131
def aQi:=ev (fl aql.1) aql.1
def ace:Nt
 |[x,.one (.v (.int .i64 _))]=>(match xB x with|some a=>Z [eQ a]|none=>U)
 |_=>U
def axu {a:Q}{z:Int}{cf:av}:bM cf ak aqA.1 [eQ a,sV z]=Z [eQ a]:=by
 simp(maxSteps:=9^9) only[az,seval,-ac,-ae,kR,aQC,ar]
def ayG {k:Cls}:Cn k 172 ace:=aC (ay (t:=.z) trivial aqA.2 10 ak 8) fun al rs h=>by
 unfold ace at h
 split at h
 ·split at h
  ·rename_i hx
   obtain⟨rfl,_⟩:=zQ hx
   cases h
   exact axu
  ·cases h
 ·cases h
def aKK {a:Q}(h:a.Ok)(z:Int):ace [eQ a,sV z]=Z [eQ a]:=by simp only[ace,aee h]
def oI:Nt
 |[x,.one (.v (.int .i64 _))]=>(match ul x with|some a=>Z [fV a]|none=>U)
 |_=>U
def axt {f:Fr}{z:Int}{cf:av}:bM cf ak aql.1 [fV f,sV z]=Z [fV f]:=by
 simp(maxSteps:=9^9) only[az,seval,-ac,-ae,ci,aQi,ar]
def ab9 {k:Cls}:Cn k 131 oI:=aC (ay (t:=.z) trivial aql.2 10 ak 8) fun al rs h=>by
 unfold oI at h
 split at h
 ·split at h
  ·rename_i hx
   obtain⟨rfl,_⟩:=adj hx
   cases h
   exact axt
  ·cases h
 ·cases h
def aj3 {a:Fr}(h:FF a)(z:Int):oI [fV a,sV z]=Z [fV a]:=by simp only[oI,ahz h]
def ayT (p q:List Mn)(g:List Mn):Option Fr:=match jF p g with
 |some (Z n)=>(match jF q g with
  |some (Z (m::t))=>(match dN n,dN (m::t),co m.q.n 0,gS (io ((Q.whole 1).div m.q))with
   |true,ab,aa,ab=>(match fS (eG n ((Q.whole 1).div m.q))with
    |some a=>(match fS (eG (m::t) ((Q.whole 1).div m.q))with
     |some b=>Z (a,b)
     |none=>U)
    |none=>U)
   |_,_,_,_=>U)
  |_=>U)
 |_=>U
def nw (p q:List Mn):Option Fr:=match q with
 |[]=>U
 |k::s=>match p with
  |[]=>Z ([],cQ (Q.whole 1))
  |m::t=>match ab3 40 (m::t) (k::s)with
   |none=>U
   |some g=>ayT (m::t) (k::s) g
def tOfM  : Ft:=.n (.n (.n .z 91 (.nat aaU) U .z) 134 (.nat aW) U (.n .z 150 (.nat cM) U .z)) 164 (.nat iv) U (.n (.n .z 172 (.nat ace) U .z) 173 (.nat fW) U (.n .z 174 (.nat bI) U .z))
def aHb   {k:Cls}:tOfM.Ok Tryz.prog k aH:=⟨⟨⟨tv,agO,tv,tv⟩,gU,tv,⟨tv,ws,tv,tv⟩⟩,sx,tv,⟨⟨tv,ayG,tv,tv⟩,wu,tv,⟨tv,pi,tv,tv⟩⟩⟩
def aOK {q u:List Mn}{cf:av}(zq:(q.length==0)=aa)(e1:cM []=Z [pV u])(c1:CA cf 150 cM):bM cf ak q93.1 [pV [],pV q]=Z [eF [] u,sV (af 0)]:=by
 have e0:pC []=.sl 0 []:=rfl
 simp(maxSteps:=9^9) only[az,seval,-ac,-ae,kR,ci,E93,ar,pL,aUf,c1,zq,e1,e0]
 rfl
def ayX {p q g n t a b:List Mn}{m:Mn}{u c:Q}{cf:av}(zq:(q.length==0)=aa)(zp:(p.length==0)=aa)(e1:aaU [pV p,pV q]=Z [pV g])(e2:iv [pV p,pV g]=Z [pV n,bV ab])(e3:iv [pV q,pV g]=Z [pV (m::t),bV ab])(e4:aW [sV (af 1)]=Z [eQ u])(e5:fW [eQ u,eQ m.q]=Z [eQ c,sV (af 0)])(e8:ace [eQ c,sV (af 0)]=Z [eQ c])(e6:bI [pV n,eQ c]=Z [pV a])(e7:bI [pV (m::t),eQ c]=Z [pV b])
  (c1:CA cf 91 aaU)(c2:CA cf 164 iv)(c3:CA cf 134 aW)(c4:CA cf 173 fW)(c5:CA cf 174 bI)(c6:CA cf 172 ace):
  bM cf ak q93.1 [pV p,pV q]=Z [eF a b,sV (af 0)]:=by
 have z1:0<t.length+1:=Nat.succ_pos _
 simp only[pV,pC,dH,aTV]at e3 e7
 simp(maxSteps:=9^9) only[az,seval,-ac,-ae,kR,ci,E93,ar,c1,c2,c3,c4,c5,c6,zq,zp,e1,e2,e3,e4,e5,e6,e7,e8,z1]
def am6 {p q:List Mn}{f:Fr}(hp:PF p)(hq:PF q)(h:nw p q=Z f):bM (ao tOfM.tb 10 8) ak q93.1 [pV p,pV q]=Z [fV f,sV (af 0)]∧FF f:=by
 unfold nw at h
 split at h
 ·cases h
 split at h
 ·cases h
  exact⟨aOK rfl rfl (fun _ _ _=>rfl),jm,nP fB⟩
 rename_i k s m0 t0
 split at h
 ·cases h
 rename_i g hg
 have pg:=ab5 40 _ _ _ hp hq hg
 unfold ayT at h
 split at h
 rotate_left
 ·cases h
 rename_i n hn
 split at h
 rotate_left
 ·cases h
 rename_i m t hd
 split at h
 rotate_left
 ·cases h
 rename_i f1 f2 f3 f4
 split at h
 rotate_left
 ·cases h
 rename_i a ha
 split at h
 rotate_left
 ·cases h
 rename_i b hb
 cases h
 obtain⟨rfl,pa⟩:=fE ha
 obtain⟨rfl,pb⟩:=fE hb
 have pn:=gB f1
 have pd:=gB f2
 have hc:=(jR f4).q
 refine⟨?_,pa,pb⟩
 exact ayX rfl rfl (tj hp hq hg) (m7 hp pg hn) (m7 hq pg hd) tf (y9 fB (pd.ok m aT0).q (by intro e;rw[e]at f3;cases f3)) (aKK hc _) (ga pn hc) (ga pd hc) (fun _ _ _=>rfl) (fun _ _ _=>rfl) (fun _ _ _=>rfl) (fun _ _ _=>rfl) (fun _ _ _=>rfl) (fun _ _ _=>rfl)
def k9:Nt:=kI fun p q=>match nw p q with|some f=>Z [fV f,sV (af 0)]|none=>U
def ad1 {p q:List Mn}{f:Fr}(hp:PF p)(hq:PF q)(h:nw p q=Z f):k9 [pV p,pV q]=Z [fV f,sV (af 0)]:=by
 unfold k9
 rw[i7 hp hq]
 simp only[h]
def wq {k:Cls}:Cn k 93 k9:=dG (ay aHb q93.2 10 ak 8) fun p q rs hp hq h=>by
 split at h
 ·rename_i f e
  cases h;exact(am6 hp hq e).1
 ·cases h
def acd {p q:List Mn}{f:Fr}(hp:PF p)(hq:PF q)(h:nw p q=Z f):FF f:=(am6 hp hq h).2
def afh (a b c d:List Mn):Option Fr:=match br a b with
 |none=>U
 |some n=>match br c d with
  |none=>U
  |some e=>nw n e
def tMulM  : Ft:=.n (.n .z 89 (.nat bU) U .z) 93 (.nat k9) U (.n .z 131 (.nat oI) U .z)
def aln   {k:Cls}:tMulM.Ok Tryz.prog k aH:=⟨⟨tv,jQ,tv,tv⟩,wq,tv,⟨tv,ab9,tv,tv⟩⟩
def apO {f g h:Fr}{n d:List Mn}{cf:av}(e1:bU [pV f.1,pV g.1]=Z [pV n])(e2:bU [pV f.2,pV g.2]=Z [pV d])(e3:k9 [pV n,pV d]=Z [fV h,sV (af 0)])(e4:oI [fV h,sV (af 0)]=Z [fV h])
  (c1:CA cf 89 bU)(c2:CA cf 93 k9)(c3:CA cf 131 oI):bM cf ak q59.1 [fV f,fV g]=Z [fV h]:=by
 simp(maxSteps:=9^9) only[az,seval,-ac,-ae,ci,g20,g21,s20,s21,E59,ar,c1,c2,c3,e1,e2,e3,e4]
def apN {f g h:Fr}{n d:List Mn}{cf:av}(e1:bU [pV f.1,pV g.2]=Z [pV n])(e2:bU [pV f.2,pV g.1]=Z [pV d])(e3:k9 [pV n,pV d]=Z [fV h,sV (af 0)])
  (c1:CA cf 89 bU)(c2:CA cf 93 k9):bM cf ak aqh.1 [fV f,fV g]=Z [fV h,sV (af 0)]:=by
 simp(maxSteps:=9^9) only[az,seval,-ac,-ae,ci,g20,g21,s20,s21,aQa,ar,c1,c2,e1,e2,e3]
def aj9:Nt:=nS fun f g=>fO (afh f.1 g.1 f.2 g.2)
def aj8:Nt:=nS fun f g=>match afh f.1 g.2 f.2 g.1 with|some h=>Z [fV h,sV (af 0)]|none=>U
def auU {k:Cls}:Cn k 59 aj9:=je (ay aln q59.2 10 ak 8) fun f g rs hf hg e=>by
 unfold fO at e
 split at e
 rotate_left
 ·cases e
 rename_i h hh
 cases e
 unfold afh at hh
 split at hh
 ·cases hh
 rename_i n h1
 split at hh
 ·cases hh
 rename_i d h2
 exact apO (iF hf.n hg.n h1) (iF hf.d hg.d h2) (ad1 (eU h1) (eU h2) hh) (aj3 (acd (eU h1) (eU h2) hh) _) (fun _ _ _=>rfl) (fun _ _ _=>rfl) (fun _ _ _=>rfl)
def auT {k:Cls}:Cn k 109 aj8:=je (ay aln aqh.2 10 ak 8) fun f g rs hf hg e=>by
 split at e
 rotate_left
 ·cases e
 rename_i h hh
 cases e
 unfold afh at hh
 split at hh
 ·cases hh
 rename_i n h1
 split at hh
 ·cases hh
 rename_i d h2
 exact apN (iF hf.n hg.d h1) (iF hf.d hg.n h2) (ad1 (eU h1) (eU h2) hh) (fun _ _ _=>rfl) (fun _ _ _=>rfl)
abbrev qt (f:Fr):T:=.t (.agg [.c (pC f.1),.c (pC f.2)])
structure SMf (cf:av) (jn:Nat) (NJ:Nt):Prop where
 eq:CA cf 130 eh
 mu:CA cf 89 bU
 ju:∀al H S,cf (fT jn) al H S=bC NJ al H S
 of:CA cf 93 k9
 ck:CA cf 131 oI
def aCQ {H:Hp}(x y z:Option Blk)(i:Nat)(hi:i<H.length):(H++[x]++[y]++[z])[i]?=H[i]?:=by
 rw[aUs (by simp;omega),aUs (by simp;omega),aUs hi]
section
variable {f g h:Fr} {x y s d:List Mn} {cf:av} {jn:Nat} {NJ:Nt} {H:Hp}
def aPs (C:SMf cf jn NJ)(e0:eh [pV f.2,pV g.2]=Z [bV ab])(e1:NJ [pV f.1,pV g.1]=Z [pV s])(e2:k9 [pV s,pV f.2]=Z [fV h,sV (af 0)])(e3:oI [fV h,sV (af 0)]=Z [fV h]):
  ∃H' W',cy cf ak nf.1 [qt f,qt g,fT jn] H []=Z (qt h,H',[],W')∧∀i,i<H.length→H'[i]?=H[i]?:=by
 have c1:=C.eq;have c3:=C.ju;have c4:=C.of;have c5:=C.ck
 simp(maxSteps:=9^9) only[az,seval,-ac,-ae,ci,aHD,ar,c1,c3,c4,c5,e0,e1,e2,e3,g30,g31,g32,s30,s31,s32,g20,g21,s20,s21,bk,bx,l6,nC]
 exact⟨_,_,rfl,fun i hi=>aCQ _ _ _ i hi⟩
def aPr (C:SMf cf jn NJ)(e0:eh [pV f.2,pV g.2]=Z [bV aa])(e1:bU [pV f.1,pV g.2]=Z [pV x])(e2:bU [pV g.1,pV f.2]=Z [pV y])(e3:NJ [pV x,pV y]=Z [pV s])(e4:bU [pV f.2,pV g.2]=Z [pV d])(e5:k9 [pV s,pV d]=Z [fV h,sV (af 0)])(e6:oI [fV h,sV (af 0)]=Z [fV h]):
  ∃H' W',cy cf ak nf.1 [qt f,qt g,fT jn] H []=Z (qt h,H',[],W')∧∀i,i<H.length→H'[i]?=H[i]?:=by
 have c1:=C.eq;have c2:=C.mu;have c3:=C.ju;have c4:=C.of;have c5:=C.ck
 simp(maxSteps:=9^9) only[az,seval,-ac,-ae,ci,aHD,ar,c1,c2,c3,c4,c5,e0,e1,e2,e3,e4,e5,e6,g30,g31,g32,s30,s31,s32,g20,g21,s20,s21,bk,bx,l6,nC]
 exact⟨_,_,rfl,fun i hi=>aCQ _ _ _ i hi⟩
end
def afg (J:List Mn→List Mn→List Mn)(f g:Fr):Option Fr:=match eD f.2 g.2 with
 |true=>(match fS (J f.1 g.1)with|some s=>nw s f.2|none=>U)
 |false=>match br f.1 g.2 with
  |none=>U
  |some x=>match br g.1 f.2 with
   |none=>U
   |some y=>match fS (J x y)with
    |none=>U
    |some s=>match br f.2 g.2 with
     |none=>U
     |some d=>nw s d
def an6 {cf:av}{jn:Nat}{J:List Mn→List Mn→List Mn}{NJ:Nt}(C:SMf cf jn NJ)(hJ:∀p q,PF p→PF q→NJ [pV p,pV q]=Z [pV (J p q)]){f g h:Fr}(hf:FF f)(hg:FF g)(hh:afg J f g=Z h){H:Hp}:
  ∃H' W',cy cf ak nf.1 [qt f,qt g,fT jn] H []=Z (qt h,H',[],W')∧∀i,i<H.length→H'[i]?=H[i]?:=by
 have e0:=zb hf.d hg.d
 unfold afg at hh
 split at hh
 ·rename_i he
  rw[he]at e0
  split at hh
  ·rename_i s hs
   obtain⟨rfl,ps⟩:=fE hs
   exact aPs C e0 (hJ _ _ hf.n hg.n) (ad1 ps hf.d hh) (aj3 (acd ps hf.d hh) _)
  ·cases hh
 ·rename_i he
  rw[he]at e0
  split at hh
  ·cases hh
  rename_i x hx
  split at hh
  ·cases hh
  rename_i y hy
  split at hh
  ·cases hh
  rename_i s hs
  split at hh
  ·cases hh
  rename_i d hd
  obtain⟨rfl,ps⟩:=fE hs
  have px:=eU hx
  have py:=eU hy
  have pd:=eU hd
  exact aPr C e0 (iF hf.n hg.d hx) (iF hg.n hf.d hy) (hJ _ _ px py) (iF hf.d hg.d hd) (ad1 ps pd hh) (aj3 (acd ps pd hh) _)
def tSuA  : Ft:=.n (.n (.n .z 89 (.nat bU) U .z) 93 (.nat k9) U (.n .z 102 (.nat fG) U .z)) 124 (.code nf.1) U (.n (.n .z 130 (.nat eh) U .z) 131 (.nat oI) U .z)
def aHi   {k:Cls}:tSuA.Ok Tryz.prog k aH:=⟨⟨⟨tv,jQ,tv,tv⟩,wq,tv,⟨tv,yX,tv,tv⟩⟩,nf.2,tv,⟨⟨tv,mh,tv,tv⟩,ab9,tv,tv⟩⟩
def tSuS  : Ft:=.n (.n (.n .z 89 (.nat bU) U .z) 93 (.nat k9) U (.n .z 104 (.nat cS) U .z)) 124 (.code nf.1) U (.n (.n .z 130 (.nat eh) U .z) 131 (.nat oI) U .z)
def aHj   {k:Cls}:tSuS.Ok Tryz.prog k aH:=⟨⟨⟨tv,jQ,tv,tv⟩,wq,tv,⟨tv,sA,tv,tv⟩⟩,nf.2,tv,⟨⟨tv,mh,tv,tv⟩,ab9,tv,tv⟩⟩
def auq {f g h:Fr}{cf cg:av}(c0:∀x y z H S,cf (fT 124) [x,y,z] H S=cy cg ak nf.1 [x,y,z] H S)(e:∀H,∃H' W',cy cg ak nf.1 [qt f,qt g,fT 102] H []=Z (qt h,H',[],W')∧∀i,i<H.length→H'[i]?=H[i]?):bM cf ak q74.1 [fV f,fV g]=Z [fV h]:=by
 obtain⟨H',W',e,hk⟩:=e ([Z (.cells [.c (pC f.1),.c (pC f.2)])]++[Z (.cells [.c (pC g.1),.c (pC g.2)])]++[Z (.cells [vj,vj])])
 have k1:=(c0 _ _ _ _ _).trans e
 have k2:=hk 2 (by simp)
 simp only[List.cons_append,List.nil_append]at k1 k2
 have k3:H'[2]?=Z (Z (.cells [vj,vj])):=k2
 have k4:=(aTU.1 k3).1
 have k5:∀z,(H'.set 2 z)[2]?=Z z:=fun z=>List.getElem?_set_self k4
 simp(maxSteps:=9^9) only[az,seval,-ac,-ae,ci,E74,ar,k1,k3,k5]
def aus {f g h:Fr}{cf cg:av}(c0:∀x y z H S,cf (fT 124) [x,y,z] H S=cy cg ak nf.1 [x,y,z] H S)(e:∀H,∃H' W',cy cg ak nf.1 [qt f,qt g,fT 104] H []=Z (qt h,H',[],W')∧∀i,i<H.length→H'[i]?=H[i]?):bM cf ak q54.1 [fV f,fV g]=Z [fV h]:=by
 obtain⟨H',W',e,hk⟩:=e ([Z (.cells [.c (pC f.1),.c (pC f.2)])]++[Z (.cells [.c (pC g.1),.c (pC g.2)])]++[Z (.cells [vj,vj])])
 have k1:=(c0 _ _ _ _ _).trans e
 have k2:=hk 2 (by simp)
 simp only[List.cons_append,List.nil_append]at k1 k2
 have k3:H'[2]?=Z (Z (.cells [vj,vj])):=k2
 have k4:=(aTU.1 k3).1
 have k5:∀z,(H'.set 2 z)[2]?=Z z:=fun z=>List.getElem?_set_self k4
 simp(maxSteps:=9^9) only[az,seval,-ac,-ae,ci,E54,ar,k1,k3,k5]
def aj7:Nt:=nS fun f g=>fO (afg jA f g)
def aka:Nt:=nS fun f g=>fO (afg fX f g)
def auS {k:Cls}:Cn k 74 aj7:=je (ay aHi q74.2 ak ak 8) fun f g rs hf hg e=>by
 unfold fO at e
 split at e
 rotate_left
 ·cases e
 rename_i h hh
 cases e
 exact auq (cg:=ao tSuA.tb ak 7) (fun _ _ _ _ _=>rfl) fun H=>an6 (NJ:=fG) ⟨fun _ _ _=>rfl,fun _ _ _=>rfl,fun _ _ _=>rfl,fun _ _ _=>rfl,fun _ _ _=>rfl⟩ (fun p q hp hq=>uU hp hq) hf hg hh
def auW {k:Cls}:Cn k 54 aka:=je (ay aHj q54.2 ak ak 8) fun f g rs hf hg e=>by
 unfold fO at e
 split at e
 rotate_left
 ·cases e
 rename_i h hh
 cases e
 exact aus (cg:=ao tSuS.tb ak 7) (fun _ _ _ _ _=>rfl) fun H=>an6 (NJ:=cS) ⟨fun _ _ _=>rfl,fun _ _ _=>rfl,fun _ _ _=>rfl,fun _ _ _=>rfl,fun _ _ _=>rfl⟩ (fun p q hp hq=>ve hp hq) hf hg hh
def aCe (f g:Fr):Bool:=match eD f.1 g.1 with|true=>eD f.2 g.2|false=>aa
def tFeM  : Ft:=.n .z 130 (.nat eh) U .z
def aG4   {k:Cls}:tFeM.Ok Tryz.prog k aH:=⟨tv,mh,tv,tv⟩
def aOD {f g:Fr}{b:Bool}{cf:av}(e1:eh [pV f.1,pV g.1]=Z [bV ab])(e2:eh [pV f.2,pV g.2]=Z [bV b])(c1:CA cf 130 eh):bM cf ak q58.1 [fV f,fV g]=Z [bV b]:=by
 simp(maxSteps:=9^9) only[az,seval,-ac,-ae,ci,E58,ar,c1,e1,e2]
def aOC {f g:Fr}{cf:av}(e1:eh [pV f.1,pV g.1]=Z [bV aa])(c1:CA cf 130 eh):bM cf ak q58.1 [fV f,fV g]=Z [bV aa]:=by
 simp(maxSteps:=9^9) only[az,seval,-ac,-ae,ci,E58,ar,c1,e1]
def ap1:Nt:=nS fun f g=>Z [bV (aCe f g)]
def ayI {k:Cls}:Cn k 58 ap1:=je (ay aG4 q58.2 10 ak 8) fun f g rs hf hg e=>by
 cases e
 have e1:=zb hf.n hg.n
 have e2:=zb hf.d hg.d
 unfold aCe
 cases he:eD f.1 g.1 with
 |true=>rw[he]at e1;exact aOD e1 e2 (fun _ _ _=>rfl)
 |false=>rw[he]at e1;exact aOC e1 (fun _ _ _=>rfl)
section
variable {γ:Type}
def ab1 (n d:List Mn)(kk:List Mn→List Mn→Option γ):Option γ:=@List.rec Mn (fun _=>Option γ) U (fun m _ _=>@Mn.rec (fun _=>Option γ) (fun _ _ _ _ q=>gE n (gE d (sY q.n U (wP ⟨.ofNat 1,1⟩ q fun c=>xv ⟨0,0,0,0,c⟩ (rJ n c fun a=>gE a (rJ d c fun b=>gE b (kk a b))))))) m) d
def frN (n d:List Mn):Option Fr:=match d with
 |m::t=>(match dN n,dN (m::t),co m.q.n 0,gS (io ((Q.whole 1).div m.q))with
  |true,ab,aa,ab=>(match fS (eG n ((Q.whole 1).div m.q))with
   |some a=>(match fS (eG (m::t) ((Q.whole 1).div m.q))with
    |some b=>Z (a,b)
    |none=>U)
   |none=>U)
  |_,_,_,_=>U)
 |_=>U
def amI (n d:List Mn)(kk:List Mn→List Mn→Option γ):ab1 n d kk=bd (frN n d) (fun f=>kk f.1 f.2):=by
 cases d with
 |nil=>rfl
 |cons m t=>
  show gE n (gE (m::t) (sY m.q.n U (wP ⟨.ofNat 1,1⟩ m.q fun c=>xv ⟨0,0,0,0,c⟩ (rJ n c fun a=>gE a (rJ (m::t) c fun b=>gE b (kk a b))))))=_
  rw[fP,fP,rO,acx,y4,zZ,fP,zZ,fP]
  have e:(⟨.ofNat 1,1⟩:Q)=Q.whole 1:=rfl
  rw[e]
  have e2:(⟨0,0,0,0,(Q.whole 1).div m.q⟩:Mn)=io ((Q.whole 1).div m.q):=rfl
  rw[e2]
  unfold frN fS
  dsimp only
  cases dN n with
  |false=>rfl
  |true=>
   cases dN (m::t)with
   |false=>rfl
   |true=>
    cases co m.q.n 0 with
    |true=>rfl
    |false=>
     dsimp only
     cases gS (io ((Q.whole 1).div m.q))with
     |false=>rfl
     |true=>
      dsimp only
      cases dN (eG n ((Q.whole 1).div m.q))with
      |false=>rfl
      |true=>
       dsimp only
       cases dN (eG (m::t) ((Q.whole 1).div m.q))<;>rfl
def apl (p q:List Mn)(kk:List Mn→List Mn→Option γ):Option γ:=@List.rec Mn (fun _=>Option γ) U (fun _ _ _=>ahD 40 p q fun g=>aaq p g fun o=>@Option.rec (List Mn) (fun _=>Option γ) U (fun n=>aaq q g fun o=>@Option.rec (List Mn) (fun _=>Option γ) U (fun d=>ab1 n d kk) o) o) q
def ai3 (p q:List Mn)(kk:List Mn→List Mn→Option γ):apl p q kk=bd (mW p q) (fun f=>kk f.1 f.2):=by
 cases q with
 |nil=>rfl
 |cons k s=>
  show ahD 40 p (k::s) (fun g=>aaq p g fun o=>@Option.rec (List Mn) (fun _=>Option γ) U (fun n=>aaq (k::s) g fun o=>@Option.rec (List Mn) (fun _=>Option γ) U (fun d=>ab1 n d kk) o) o)=_
  rw[ab6]
  unfold mW
  dsimp only
  cases yq 40 p (k::s)with
  |none=>rfl
  |some g=>
   dsimp only[bd]
   rw[abV]
   cases kO p g with
   |none=>rfl
   |some o=>
    cases o with
    |none=>rfl
    |some n=>
     dsimp only[bd]
     rw[abV]
     cases kO (k::s) g with
     |none=>rfl
     |some o=>
      cases o with
      |none=>rfl
      |some d=>
       show ab1 n d kk=_
       rw[amI]
       cases d with
       |nil=>rfl
       |cons m t=>
        unfold frN
        dsimp only
        cases dN n with
        |false=>rfl
        |true=>
         cases dN (m::t)with
         |false=>rfl
         |true=>
          cases co m.q.n 0 with
          |true=>rfl
          |false=>
           cases gS (io ((Q.whole 1).div m.q))with
           |false=>rfl
           |true=>
            dsimp only
            cases fS (eG n ((Q.whole 1).div m.q))with
            |none=>rfl
            |some a=>cases fS (eG (m::t) ((Q.whole 1).div m.q))<;>rfl
def y5 (p q:List Mn)(kk:List Mn→List Mn→Option γ):Option γ:=@List.rec Mn (fun _=>Option γ) U (fun _ _ _=>@List.rec Mn (fun _=>Option γ) (kk [] lg) (fun _ _ _=>ahC 40 p q fun g=>r9 p g fun o=>@Option.rec (List Mn) (fun _=>Option γ) U (fun n=>r9 q g fun o=>@Option.rec (List Mn) (fun _=>Option γ) U (fun d=>ab1 n d kk) o) o) p) q
def sC (p q:List Mn)(kk:List Mn→List Mn→Option γ):y5 p q kk=bd (nw p q) (fun f=>kk f.1 f.2):=by
 cases q with
 |nil=>rfl
 |cons k s=>
  cases p with
  |nil=>rfl
  |cons m0 t0=>
   show ahC 40 (m0::t0) (k::s) (fun g=>r9 (m0::t0) g fun o=>@Option.rec (List Mn) (fun _=>Option γ) U (fun n=>r9 (k::s) g fun o=>@Option.rec (List Mn) (fun _=>Option γ) U (fun d=>ab1 n d kk) o) o)=_
   rw[ab4]
   unfold nw
   dsimp only
   cases ab3 40 (m0::t0) (k::s)with
   |none=>rfl
   |some g=>
    dsimp only[bd]
    rw[qo]
    unfold ayT
    cases jF (m0::t0) g with
    |none=>rfl
    |some o=>
     cases o with
     |none=>rfl
     |some n=>
      dsimp only[bd]
      rw[qo]
      cases jF (k::s) g with
      |none=>rfl
      |some o=>
       cases o with
       |none=>rfl
       |some d=>
        show ab1 n d kk=_
        rw[amI]
        cases d<;>rfl
end
def fvK (x:V1)(k:List Mn→List Mn→R4):R4:=match x with|.agg [c1,c2]=>pvK (.one c1) fun a=>pvK (.one c2) fun b=>k a b|_=>U
def ai7 (x:V1)(k:List Mn→List Mn→R4):fvK x k=bd (ul x) (fun f=>k f.1 f.2):=by
 unfold fvK ul
 split
 ·rename_i c1 c2
  rw[vv]
  dsimp only
  cases gz (.one c1)with
  |none=>rfl
  |some a=>
   dsimp only[bd]
   rw[vv]
   cases gz (.one c2)<;>rfl
 ·rename_i h
  split
  ·exact absurd rfl (h _ _)
  ·rfl
def oF (a b:List Mn)(k:KR):R4:=ry a fun c=>ry b fun d=>k [.agg [c,d]]
def ap6 (a b:List Mn)(k:KR):oF a b k=k [fV (a,b)]:=by
 unfold oF
 rw[nb,nb]
def oFE (a b:List Mn)(k:KR):R4:=ry a fun c=>ry b fun d=>k [.agg [c,d],sV (af 0)]
def aKY (a b:List Mn)(k:KR):oFE a b k=k [fV (a,b),sV (af 0)]:=by
 unfold oFE
 rw[nb,nb]
def f1K (f:List Mn→List Mn→KR→R4):eX:=fun al k=>match al with|[x]=>fvK x fun a b=>f a b k|_=>U
def xh (f:List Mn→List Mn→List Mn→List Mn→KR→R4):eX:=fun al k=>match al with|[x,y]=>fvK x fun a b=>fvK y fun c d=>f a b c d k|_=>U
def aJv {f:List Mn→List Mn→KR→R4}{F:Fr→Option (List V1)}(h:∀a b k,f a b k=qg (F (a,b)) k):fJ (f1K f) (fg1 F):=fun al k=>by
 unfold f1K fg1
 split
 ·rename_i x
  rw[ai7]
  dsimp only
  cases ul x with
  |none=>rfl
  |some p=>exact h p.1 p.2 k
 ·rename_i hh
  split
  ·exact absurd rfl (hh _)
  ·rfl
def ky {f:List Mn→List Mn→List Mn→List Mn→KR→R4}{F:Fr→Fr→Option (List V1)}(h:∀a b c d k,f a b c d k=qg (F (a,b) (c,d)) k):fJ (xh f) (nS F):=fun al k=>by
 unfold xh nS
 split
 ·rename_i x y
  rw[ai7]
  dsimp only
  cases ul x with
  |none=>rfl
  |some p=>
   dsimp only[bd]
   rw[ai7]
   cases ul y with
   |none=>rfl
   |some q=>exact h p.1 p.2 q.1 q.2 k
 ·rename_i hh
  split
  ·exact absurd rfl (hh _ _)
  ·rfl
def wh (x:Option Fr)(k:KR):bd x (fun f=>oF f.1 f.2 k)=qg (fO x) k:=by
 cases x with
 |none=>rfl
 |some f=>exact ap6 f.1 f.2 k
def apB (x:Option Fr)(k:KR):bd x (fun f=>oFE f.1 f.2 k)=qg (match x with|some h=>Z [fV h,sV (af 0)]|none=>U) k:=by
 cases x with
 |none=>rfl
 |some f=>exact aKY f.1 f.2 k
def aJ9:eX:=yn fun p q k=>y5 p q fun a b=>oFE a b k
def aE5:fJ aJ9 k9:=lZ fun p q k=>(sC p q _).trans (apB _ k)
def ahO {γ:Type}(a b c d:List Mn)(kk:List Mn→List Mn→Option γ):Option γ:=iV a b fun n=>iV c d fun e=>y5 n e kk
def ajS {γ:Type}(a b c d:List Mn)(kk:List Mn→List Mn→Option γ):ahO a b c d kk=bd (afh a b c d) (fun f=>kk f.1 f.2):=by
 unfold ahO afh
 rw[ij]
 cases br a b with
 |none=>rfl
 |some n=>
  dsimp only[bd]
  rw[ij]
  cases br c d with
  |none=>rfl
  |some e=>exact sC n e kk
def auk:eX:=xh fun a b c d k=>ahO a c b d fun x y=>oF x y k
def aul:fJ auk aj9:=ky fun a b c d k=>(ajS a c b d _).trans (wh _ k)
def aui:eX:=xh fun a b c d k=>ahO a d b c fun x y=>oFE x y k
def auj:fJ aui aj8:=ky fun a b c d k=>(ajS a d b c _).trans (apB _ k)
def aN9 (x y:Int)(e n:R4):R4:=@Int.rec (fun _=>R4) (fun a=>@Int.rec (fun _=>R4) (fun b=>bB (ai a b) n e) (fun _=>n) y) (fun a=>@Int.rec (fun _=>R4) (fun _=>n) (fun b=>bB (ai a b) n e) y) x
def cmK (a b:Q)(e n:R4):R4:=nH a.n (af b.d) fun x=>nH b.n (af a.d) fun y=>aN9 x y e n
def aIW (x y:Int):(xg x y==af 0)=co x y:=by
 have hc:∀a b:Nat,(cH a b==af 0)=ai a b:=fun a b=>by
  unfold cH
  cases h1:ah a b with
  |true=>
   rw[aTR]at h1
   cases h2:ai a b with
   |true=>have:=aT1 h2;omega
   |false=>rfl
  |false=>
   dsimp only
   have h1':¬a<b:=fun h=>by rw[← aTR]at h;rw[h]at h1;cases h1
   cases h3:ah b a with
   |true=>
    rw[aTR]at h3
    cases h2:ai a b with
    |true=>have:=aT1 h2;omega
    |false=>rfl
   |false=>
    have h3':¬b<a:=fun h=>by rw[← aTR]at h;rw[h]at h3;cases h3
    have:a=b:=by omega
    subst this
    rw[Nat.beq_refl];rfl
 cases x with
 |ofNat a=>
  cases y with
  |ofNat b=>exact hc a b
  |negSucc b=>rfl
 |negSucc a=>
  cases y with
  |ofNat b=>rfl
  |negSucc b=>
   show(cH (b+1) (a+1)==af 0)=ai a b
   rw[hc,sI];rfl
def aHz (x y:Int)(e n:R4):aN9 x y e n=match co x y with|true=>e|false=>n:=by
 cases x with
 |ofNat a=>
  cases y with
  |ofNat b=>show bB (ai a b) n e=match ai a b with|true=>e|false=>n;cases ai a b<;>rfl
  |negSucc b=>rfl
 |negSucc a=>
  cases y with
  |ofNat b=>rfl
  |negSucc b=>show bB (ai a b) n e=match ai a b with|true=>e|false=>n;cases ai a b<;>rfl
def aIY (a b:Q)(e n:R4):cmK a b e n=match cmB a b with|true=>e|false=>n:=by
 unfold cmK cmB
 rw[lm,lm,aHz,aIW]
def emK (m k:Mn)(y n:R4):R4:=@Mn.rec (fun _=>R4) (fun a1 b1 c1 d1 x1=>@Mn.rec (fun _=>R4) (fun a2 b2 c2 d2 x2=>bB (ai a1 a2) n (bB (ai b1 b2) n (bB (ai c1 c2) n (bB (ai d1 d2) n (cmK x1 x2 y n))))) k) m
def aJd (m k:Mn)(y n:R4):emK m k y n=match eqT m k with|true=>y|false=>n:=by
 obtain⟨a1,b1,c1,d1,x1⟩:=m
 obtain⟨a2,b2,c2,d2,x2⟩:=k
 unfold emK eqT bp tY
 dsimp only
 cases ai a1 a2 with
 |false=>rfl
 |true=>
  cases ai b1 b2 with
  |false=>rfl
  |true=>
   cases ai c1 c2 with
   |false=>rfl
   |true=>
    cases ai d1 d2 with
    |false=>rfl
    |true=>exact aIY x1 x2 y n
def aeT (p:List Mn):List Mn→R4→R4→R4:=@List.rec Mn (fun _=>List Mn→R4→R4→R4) (fun q y n=>@List.rec Mn (fun _=>R4) y (fun _ _ _=>n) q) (fun m _ ih q y n=>@List.rec Mn (fun _=>R4) n (fun k q' _=>emK m k (ih q' y n) n) q) p
def tX:∀(p q:List Mn) (y n:R4),aeT p q y n=match eD p q with|true=>y|false=>n
 |[],[],y,n=>rfl
 |[],_::_,y,n=>rfl
 |_::_,[],y,n=>rfl
 |m::p,k::q,y,n=>by
  show emK m k (aeT p q y n) n=_
  rw[aJd,tX p q,eD]
  unfold eqT
  cases bp m k with
  |false=>rfl
  |true=>dsimp only;cases cmB m.q k.q<;>rfl
def ae5:eX:=yn fun p q k=>aeT p q (k [bV ab]) (k [bV aa])
def adK:fJ ae5 eh:=lZ fun p q k=>by
 rw[tX]
 cases eD p q<;>rfl
def aCG:eX:=xh fun a b c d k=>aeT a c (aeT b d (k [bV ab]) (k [bV aa])) (k [bV aa])
def ayp:fJ aCG ap1:=ky fun a b c d k=>by
 rw[tX,tX]
 show _=qg (Z [bV (match eD a c with|true=>eD b d|false=>aa)]) k
 cases eD a c with
 |false=>rfl
 |true=>cases eD b d<;>rfl
def ahN (JK:List Mn→List Mn→(List Mn→R4)→R4)(a b c d:List Mn)(kk:List Mn→List Mn→R4):R4:=aeT b d (JK a c fun s=>gE s (y5 s b kk)) (iV a d fun x=>iV c b fun y=>JK x y fun s=>gE s (iV b d fun e=>y5 s e kk))
def ajR {JK:List Mn→List Mn→(List Mn→R4)→R4}{J:List Mn→List Mn→List Mn}(hJ:∀p q k,JK p q k=k (J p q))(a b c d:List Mn)(kk:List Mn→List Mn→R4):ahN JK a b c d kk=bd (afg J (a,b) (c,d)) (fun f=>kk f.1 f.2):=by
 unfold ahN afg
 rw[tX]
 dsimp only
 cases eD b d with
 |true=>
  dsimp only
  rw[hJ,fP]
  unfold fS
  cases dN (J a c)with
  |false=>rfl
  |true=>exact sC _ _ kk
 |false=>
  dsimp only
  rw[ij]
  cases br a d with
  |none=>rfl
  |some x=>
   dsimp only[bd]
   rw[ij]
   cases br c b with
   |none=>rfl
   |some y=>
    dsimp only[bd]
    rw[hJ,fP]
    unfold fS
    cases dN (J x y)with
    |false=>rfl
    |true=>
     dsimp only
     rw[ij]
     cases br b d with
     |none=>rfl
     |some e=>exact sC _ _ kk
def aug:eX:=xh fun a b c d k=>ahN kL a b c d fun x y=>oF x y k
def auh:fJ aug aj7:=ky fun a b c d k=>(ajR qe a b c d _).trans (wh _ k)
def aum:eX:=xh fun a b c d k=>ahN pI a b c d fun x y=>oF x y k
def aun:fJ aum aka:=ky fun a b c d k=>(ajR rK a b c d _).trans (wh _ k)
def apy:eX:=f1K fun a b k=>kK a ⟨0,0,0,0,⟨.negSucc 0,1⟩⟩ fun x=>oF x b k
def ajq:fJ apy pt:=aJv fun a b k=>(lN a _ _).trans (ap6 _ _ k)
def alX:fJ we acg:=abs
def ajr:eX:=g1K fun p k=>oF p lg k
def agH:fJ ajr zd:=aJC fun p k=>ap6 p lg k
def ai4 {γ:Type}(a b c d:List Mn)(kk:List Mn→List Mn→Option γ):Option γ:=iW a b fun n=>iW c d fun e=>apl n e kk
def ae0 {γ:Type}(a b c d:List Mn)(kk:List Mn→List Mn→Option γ):ai4 a b c d kk=bd (match cE a b,cE c d with|some n,Z d=>mW n d|_,_=>U) (fun f=>kk f.1 f.2):=by
 unfold ai4
 rw[ik]
 cases cE a b with
 |none=>rfl
 |some n=>
  dsimp only[bd]
  rw[ik]
  cases cE c d with
  |none=>rfl
  |some e=>exact ai3 n e kk
def apx:eX:=xh fun a b c d k=>ai4 a c b d fun x y=>oF x y k
def ajp:fJ apx ahP:=ky fun a b c d k=>(ae0 a c b d _).trans (wh _ k)
def aCB:eX:=xh fun a b c d k=>ai4 a d b c fun x y=>oFE x y k
def ayl:fJ aCB sF:=ky fun a b c d k=>(ae0 a d b c _).trans (apB _ k)
def aue:eX:=xh fun a b c d k=>ai4 a d b c fun x y=>oF x y k
def auf:fJ aue aj6:=ky fun a b c d k=>(ae0 a d b c _).trans (wh _ k)
def apk (a b c d:List Mn)(kk:List Mn→List Mn→R4):R4:=iW a d fun x=>iW c b fun y=>kL x y fun s=>gE s (iW b d fun e=>apl s e kk)
def amH (a b c d:List Mn)(kk:List Mn→List Mn→R4):apk a b c d kk=bd (v7 (a,b) (c,d)) (fun f=>kk f.1 f.2):=by
 unfold apk v7
 rw[ik]
 dsimp only
 cases cE a d with
 |none=>rfl
 |some x=>
  dsimp only[bd]
  rw[ik]
  cases cE c b with
  |none=>rfl
  |some y=>
   dsimp only[bd]
   rw[qe,fP,ik]
   unfold fS
   cases dN (jA x y)with
   |false=>rfl
   |true=>
    dsimp only
    cases cE b d with
    |none=>rfl
    |some e=>exact ai3 _ _ kk
def aCA:eX:=xh fun a b c d k=>apk a b c d fun x y=>oF x y k
def ayk:fJ aCA sE:=ky fun a b c d k=>(amH a b c d _).trans (wh _ k)
def aCC:eX:=xh fun a b c d k=>kK c ⟨0,0,0,0,⟨.negSucc 0,1⟩⟩ fun c=>apk a b c d fun x y=>oF x y k
def aym:fJ aCC ap0:=ky fun a b c d k=>((lN c _ _).trans (amH a b _ d _)).trans (wh _ k)
def q6:=mq aa 6 1 Tryz.func6
def q7:=mr aa 7 0 Tryz.func7
def q8:=mq aa 8 1 Tryz.func8
def q9:=mq aa 9 2 Tryz.func9
def q11:=mq aa 11 2 Tryz.func11
def q13:=mq aa 13 1 Tryz.func13
def q16:=mq aa 16 1 Tryz.func16
def q17:=mq aa 17 2 Tryz.func17
def q19:=mq aa 19 2 Tryz.func19
def q21:=mq aa 21 2 Tryz.func21
def q23:=mq aa 23 0 Tryz.func23
def q24:=mq aa 24 1 Tryz.func24
def q25:=mq aa 25 3 Tryz.func25
def q31:=mq aa 31 2 Tryz.func31
def q32:=mq aa 32 0 Tryz.func32
def q33:=mq aa 33 0 Tryz.func33
def q34:=mq aa 34 2 Tryz.func34
def q36:=mq aa 36 1 Tryz.func36
def q38:=mq aa 38 2 Tryz.func38
def q39:=mq ab 39 2 Tryz.func39
def q40:=mq aa 40 2 Tryz.func40
def q41:=mq ab 41 1 Tryz.func41
def q42:=mq ab 42 2 Tryz.func42
def q43:=mq aa 43 1 Tryz.func43
def q45:=mq aa 45 2 Tryz.func45
def q46:=mq ab 46 2 Tryz.func46
def q47:=mq aa 47 1 Tryz.func47
def q55:=mq aa 55 2 Tryz.func55
def q60:=mq aa 60 3 Tryz.func60
def q63:=mq aa 63 2 Tryz.func63
def q70:=mq aa 70 2 Tryz.func70
def q71:=mq aa 71 1 Tryz.func71
def q86:=mq aa 86 1 Tryz.func86
def q88:=mq aa 88 0 Tryz.func88
def q90:=mq aa 90 2 Tryz.func90
def q94:=mq aa 94 2 Tryz.func94
def q95:=mq ab 95 2 Tryz.func95
def q96:=mq ab 96 2 Tryz.func96
def q97:=mq aa 97 1 Tryz.func97
def q98:=mq aa 98 2 Tryz.func98
def q99:=mq ab 99 1 Tryz.func99
def azp:=mq aa 100 1 Tryz.func100
def azq:=mq ab 107 2 Tryz.func107
def azr:=mq ab 108 2 Tryz.func108
def azt:=mq aa 125 1 Tryz.func125
def azu:=mq aa 126 1 Tryz.func126
def azv:=mq aa 127 2 Tryz.func127
def azC:=mq aa 176 2 Tryz.func176
def azF:=mq aa 181 2 Tryz.func181
def azG:=mq aa 183 2 Tryz.func183
def azH:=mq ab 189 2 Tryz.func189
def aqF:=mq ab 190 1 Tryz.func190
def aHx {k:Cls}:CX k 190 (fk aqF.1):=nM (by kernel_rfl) aqF.2 (fun _ _=>rfl) (fun _ _ _ _=>rfl)
def azI:=mq ab 191 2 Tryz.func191
def azJ:=mq ab 192 2 Tryz.func192
def azK:=mq ab 193 3 Tryz.func193
def azL:=mq ab 194 3 Tryz.func194
def azM:=mq ab 195 3 Tryz.func195
def azP:=mq ab 232 1 Tryz.func232
def azQ:=mr aa 233 3 Tryz.func233
def azR:=mq aa 234 1 Tryz.func234
def azS:=mq aa 235 1 Tryz.func235
def azT:=mq aa 239 2 Tryz.func239
def azU:=mq aa 240 2 Tryz.func240
def azV:=mq ab 242 4 Tryz.func242
def azX:=mq ab 260 2 Tryz.func260
def azY:=mq ab 261 2 Tryz.func261
def azZ:=mq aa 262 1 Tryz.func262
def az0:=mq aa 263 1 Tryz.func263
def az1:=mq aa 264 1 Tryz.func264
def az2:=mq ab 265 8 Tryz.func265
def az3:=mq aa 266 2 Tryz.func266
def az4:=mq aa 267 1 Tryz.func267
def az5:=mq aa 268 2 Tryz.func268
def az6:=mq aa 269 1 Tryz.func269
def aAa:=mq ab 292 1 Tryz.func292
def aAb:=mq aa 293 1 Tryz.func293
def aAc:=mq ab 294 1 Tryz.func294
def aAd:=mq ab 295 3 Tryz.func295
def aAh:=mq ab 311 2 Tryz.func311
def aAi:=mq aa 312 1 Tryz.func312
def aAj:=mq aa 313 2 Tryz.func313
def aAk:=mq aa 314 2 Tryz.func314
def aAl:=mq aa 315 2 Tryz.func315
def aAm:=mq ab 316 2 Tryz.func316
def aAn:=mq ab 319 2 Tryz.func319
def aAo:=mq ab 320 2 Tryz.func320
def aq1:=mq ab 321 1 Tryz.func321
def aHy {k:Cls}:CX k 321 (fk aq1.1):=nM (by kernel_rfl) aq1.2 (fun _ _=>rfl) (fun _ _ _ _=>rfl)
def aAp:=mq aa 322 2 Tryz.func322
def aAq:=mq aa 323 1 Tryz.func323
def aAr:=mq ab 325 3 Tryz.func325
def aAs:=mq aa 326 1 Tryz.func326
def aAt:=mq aa 327 0 Tryz.func327
def ar1:=pk (bc 175 Tryz.f175=·)
def aBN:BdOk Tryz.prog aH 175 ar1:=ac0 Tryz.func175
def ar2:=pk (bc 263 Tryz.f263=·)
def aBO:BdOk Tryz.prog aH 263 ar2:=ac0 Tryz.func263
def ar3:=pk (bc 266 Tryz.f266=·)
def aBP:BdOk Tryz.prog aH 266 ar3:=ac0 Tryz.func266
def tS0:Ft:=(.n (.n (.n (.n (.n (.n (.n .z 133 (.code azx.1) (U) .z) 134 (.nat aW) (U) .z) 135 (.nat aY) (U) (.n (.n .z 136 (.code azy.1) (U) .z) 137 (.nat bn) (U) .z)) 138 (.nat cz) (U) (.n (.n (.n .z 139 (.nat wb) (U) .z) 140 (.nat fM) (U) .z) 149 (.nat y8) (U) (.n (.n .z 150 (.nat cM) (U) .z) 151 (.nat aY) (U) .z))) 152 (.code azA.1) (U) (.n (.n (.n (.n .z 153 (.nat bn) (U) .z) 154 (.nat bS) (U) .z) 156 (.nat sF) (U) (.n (.n .z 158 (.code aqw.1) (U) .z) 159 (.nat ack) (U) .z)) 160 (.nat fK) (U) (.n (.n (.n .z 162 (.nat iE) (U) .z) 164 (.nat iv) (U) .z) 166 (.code zF.1) (U) (.n (.n .z 167 (.nat cM) (U) .z) 169 (.code acs.1) (U) .z)))) 171 (.nat jl) (U) (.n (.n (.n (.n (.n .z 173 (.nat fW) (U) .z) 175 (.code azB.1) (Z ar1) .z) 176 (.code azC.1) (U) (.n (.n .z 177 (.code wI.1) (U) .z) 178 (.nat adr) (U) .z)) 179 (.nat mX) (U) (.n (.n (.n .z 180 (.nat fM) (U) .z) 181 (.code azF.1) (U) .z) 182 (.nat cV) (U) (.n (.n .z 183 (.code azG.1) (U) .z) 189 (.code azH.1) (U) .z))) 190 (.wnat (fk aqF.1)) (U) (.n (.n (.n (.n .z 191 (.code azI.1) (U) .z) 192 (.code azJ.1) (U) .z) 193 (.code azK.1) (U) (.n (.n .z 194 (.code azL.1) (U) .z) 195 (.code azM.1) (U) .z)) 202 (.code azN.1) (U) (.n (.n (.n .z 203 (.nat ur) (U) .z) 204 (.nat cr) (U) .z) 205 (.nat tA) (U) (.n .z 208 (.nat k8) (U) .z))))) 215 (.nat ur) (U) (.n (.n (.n (.n (.n (.n .z 216 (.nat cr) (U) .z) 217 (.nat qy) (U) .z) 227 (.code wK.1) (U) (.n (.n .z 232 (.code azP.1) (U) .z) 233 (.code azQ.1) (U) .z)) 234 (.code azR.1) (U) (.n (.n (.n .z 235 (.code azS.1) (U) .z) 238 (.nat gH) (U) .z) 239 (.code azT.1) (U) (.n (.n .z 240 (.code azU.1) (U) .z) 242 (.code azV.1) (U) .z))) 246 (.nat gJ) (U) (.n (.n (.n (.n .z 253 (.nat gv) (U) .z) 254 (.nat ef) (U) .z) 260 (.code azX.1) (U) (.n (.n .z 261 (.code azY.1) (U) .z) 262 (.code azZ.1) (U) .z)) 263 (.code az0.1) (Z ar2) (.n (.n (.n .z 264 (.code az1.1) (U) .z) 265 (.code az2.1) (U) .z) 266 (.code az3.1) (Z ar3) (.n (.n .z 267 (.code az4.1) (U) .z) 268 (.code az5.1) (U) .z)))) 269 (.code az6.1) (U) (.n (.n (.n (.n (.n .z 270 (.nat kX) (U) .z) 292 (.code aAa.1) (U) .z) 293 (.code aAb.1) (U) (.n (.n .z 294 (.code aAc.1) (U) .z) 295 (.code aAd.1) (U) .z)) 296 (.code aAe.1) (U) (.n (.n (.n .z 297 (.nat zf) (U) .z) 311 (.code aAh.1) (U) .z) 312 (.code aAi.1) (U) (.n (.n .z 313 (.code aAj.1) (U) .z) 314 (.code aAk.1) (U) .z))) 315 (.code aAl.1) (U) (.n (.n (.n (.n .z 316 (.code aAm.1) (U) .z) 319 (.code aAn.1) (U) .z) 320 (.code aAo.1) (U) (.n (.n .z 321 (.wnat (fk aq1.1)) (U) .z) 322 (.code aAp.1) (U) .z)) 323 (.code aAq.1) (U) (.n (.n (.n .z 324 (.nat ack) (U) .z) 325 (.code aAr.1) (U) .z) 326 (.code aAs.1) (U) (.n .z 327 (.code aAt.1) (U) .z))))))
def awJ {k:Cls}:tS0.Ok Tryz.prog k aH:=⟨⟨⟨⟨⟨⟨⟨tv,azx.2,tv,tv⟩,gU,tv,tv⟩,rG,tv,⟨⟨tv,azy.2,tv,tv⟩,sS,tv,tv⟩⟩,zU,tv,⟨⟨⟨tv,ahk,tv,tv⟩,aa1,tv,tv⟩,aj4,tv,⟨⟨tv,ws,tv,tv⟩,qO,tv,tv⟩⟩⟩,azA.2,tv,⟨⟨⟨⟨tv,oq,tv,tv⟩,qN,tv,tv⟩,ahb,tv,⟨⟨tv,aqw.2,tv,tv⟩,aAF,tv,tv⟩⟩,wp,tv,⟨⟨⟨tv,ach,tv,tv⟩,sx,tv,tv⟩,zF.2,tv,⟨⟨tv,aca,tv,tv⟩,acs.2,tv,tv⟩⟩⟩⟩,yY,tv,⟨⟨⟨⟨⟨tv,wu,tv,tv⟩,azB.2,aBN,tv⟩,azC.2,tv,⟨⟨tv,wI.2,tv,tv⟩,arA,tv,tv⟩⟩,abO,tv,⟨⟨⟨tv,vq,tv,tv⟩,azF.2,tv,tv⟩,wt,tv,⟨⟨tv,azG.2,tv,tv⟩,azH.2,tv,tv⟩⟩⟩,aHx,tv,⟨⟨⟨⟨tv,azI.2,tv,tv⟩,azJ.2,tv,tv⟩,azK.2,tv,⟨⟨tv,azL.2,tv,tv⟩,azM.2,tv,tv⟩⟩,azN.2,tv,⟨⟨⟨tv,arp,tv,tv⟩,oB,tv,tv⟩,akW,tv,⟨tv,abD,tv,tv⟩⟩⟩⟩⟩,arW,tv,⟨⟨⟨⟨⟨⟨tv,sU,tv,tv⟩,ajd,tv,tv⟩,wK.2,tv,⟨⟨tv,azP.2,tv,tv⟩,azQ.2,tv,tv⟩⟩,azR.2,tv,⟨⟨⟨tv,azS.2,tv,tv⟩,vG,tv,tv⟩,azT.2,tv,⟨⟨tv,azU.2,tv,tv⟩,azV.2,tv,tv⟩⟩⟩,ajY,tv,⟨⟨⟨⟨tv,ri,tv,tv⟩,amz,tv,tv⟩,azX.2,tv,⟨⟨tv,azY.2,tv,tv⟩,azZ.2,tv,tv⟩⟩,az0.2,aBO,⟨⟨⟨tv,az1.2,tv,tv⟩,az2.2,tv,tv⟩,az3.2,aBP,⟨⟨tv,az4.2,tv,tv⟩,az5.2,tv,tv⟩⟩⟩⟩,az6.2,tv,⟨⟨⟨⟨⟨tv,alg,tv,tv⟩,aAa.2,tv,tv⟩,aAb.2,tv,⟨⟨tv,aAc.2,tv,tv⟩,aAd.2,tv,tv⟩⟩,aAe.2,tv,⟨⟨⟨tv,ay5,tv,tv⟩,aAh.2,tv,tv⟩,aAi.2,tv,⟨⟨tv,aAj.2,tv,tv⟩,aAk.2,tv,tv⟩⟩⟩,aAl.2,tv,⟨⟨⟨⟨tv,aAm.2,tv,tv⟩,aAn.2,tv,tv⟩,aAo.2,tv,⟨⟨tv,aHy,tv,tv⟩,aAp.2,tv,tv⟩⟩,aAq.2,tv,⟨⟨⟨tv,ay8,tv,tv⟩,aAr.2,tv,tv⟩,aAs.2,tv,⟨tv,aAt.2,tv,tv⟩⟩⟩⟩⟩⟩
def aBw:FtJ:=(.n (.n (.n (.n (.n (.n (.n .z 133 (.code (aF azx.1)) U .z) 134 (.nat (dh aW)) U .z) 135 (.nat (dh aY)) U (.n (.n .z 136 (.code (aF azy.1)) U .z) 137 (.nat (dh bn)) U .z)) 138 (.nat (dh cz)) U (.n (.n (.n .z 139 (.nat (dh wb)) U .z) 140 (.nat (dh fM)) U .z) 149 (.nat (dh y8)) U (.n (.n .z 150 (.nat (dh cM)) U .z) 151 (.nat (dh aY)) U .z))) 152 (.code (aF azA.1)) U (.n (.n (.n (.n .z 153 (.nat (dh bn)) U .z) 154 (.nat (dh bS)) U .z) 156 (.nat aCB) U (.n (.n .z 158 (.code (aF aqw.1)) U .z) 159 (.nat (dh ack)) U .z)) 160 (.nat (dh fK)) U (.n (.n (.n .z 162 (.nat aKc) U .z) 164 (.nat aCz) U .z) 166 (.code (aF zF.1)) U (.n (.n .z 167 (.nat (dh cM)) U .z) 169 (.code (aF acs.1)) U .z)))) 171 (.nat auo) U (.n (.n (.n (.n (.n .z 173 (.nat (dh fW)) U .z) 175 (.code (aF azB.1)) (Z (bdK ar1)) .z) 176 (.code (aF azC.1)) U (.n (.n .z 177 (.code (aF wI.1)) U .z) 178 (.nat (dh adr)) U .z)) 179 (.nat (dh mX)) U (.n (.n (.n .z 180 (.nat (dh fM)) U .z) 181 (.code (aF azF.1)) U .z) 182 (.nat aJU) U (.n (.n .z 183 (.code (aF azG.1)) U .z) 189 (.code (aF azH.1)) U .z))) 190 (.wnat (fk aqF.1)) U (.n (.n (.n (.n .z 191 (.code (aF azI.1)) U .z) 192 (.code (aF azJ.1)) U .z) 193 (.code (aF azK.1)) U (.n (.n .z 194 (.code (aF azL.1)) U .z) 195 (.code (aF azM.1)) U .z)) 202 (.code (aF azN.1)) U (.n (.n (.n .z 203 (.nat (dh ur)) U .z) 204 (.nat (dh cr)) U .z) 205 (.nat (dh tA)) U (.n .z 208 (.nat we) U .z))))) 215 (.nat (dh ur)) U (.n (.n (.n (.n (.n (.n .z 216 (.nat (dh cr)) U .z) 217 (.nat (dh qy)) U .z) 227 (.code (aF wK.1)) U (.n (.n .z 232 (.code (aF azP.1)) U .z) 233 (.code (aF azQ.1)) U .z)) 234 (.code (aF azR.1)) U (.n (.n (.n .z 235 (.code (aF azS.1)) U .z) 238 (.nat (dh gH)) U .z) 239 (.code (aF azT.1)) U (.n (.n .z 240 (.code (aF azU.1)) U .z) 242 (.code (aF azV.1)) U .z))) 246 (.nat (dh gJ)) U (.n (.n (.n (.n .z 253 (.nat (dh gv)) U .z) 254 (.nat (dh ef)) U .z) 260 (.code (aF azX.1)) U (.n (.n .z 261 (.code (aF azY.1)) U .z) 262 (.code (aF azZ.1)) U .z)) 263 (.code (aF az0.1)) (Z (bdK ar2)) (.n (.n (.n .z 264 (.code (aF az1.1)) U .z) 265 (.code (aF az2.1)) U .z) 266 (.code (aF az3.1)) (Z (bdK ar3)) (.n (.n .z 267 (.code (aF az4.1)) U .z) 268 (.code (aF az5.1)) U .z)))) 269 (.code (aF az6.1)) U (.n (.n (.n (.n (.n .z 270 (.nat (dh kX)) U .z) 292 (.code (aF aAa.1)) U .z) 293 (.code (aF aAb.1)) U (.n (.n .z 294 (.code (aF aAc.1)) U .z) 295 (.code (aF aAd.1)) U .z)) 296 (.code (aF aAe.1)) U (.n (.n (.n .z 297 (.nat (dh zf)) U .z) 311 (.code (aF aAh.1)) U .z) 312 (.code (aF aAi.1)) U (.n (.n .z 313 (.code (aF aAj.1)) U .z) 314 (.code (aF aAk.1)) U .z))) 315 (.code (aF aAl.1)) U (.n (.n (.n (.n .z 316 (.code (aF aAm.1)) U .z) 319 (.code (aF aAn.1)) U .z) 320 (.code (aF aAo.1)) U (.n (.n .z 321 (.wnat (fk aq1.1)) U .z) 322 (.code (aF aAp.1)) U .z)) 323 (.code (aF aAq.1)) U (.n (.n (.n .z 324 (.nat (dh ack)) U .z) 325 (.code (aF aAr.1)) U .z) 326 (.code (aF aAs.1)) U (.n .z 327 (.code (aF aAt.1)) U .z))))))
def aoc:rP aBw tS0:=⟨rfl,(bh _),rfl,⟨rfl,aup,rfl,⟨rfl,rfl,rfl,⟨rfl,(bh _),rfl,⟨rfl,(bh _),rfl,⟨rfl,(bh _),rfl,⟨rfl,rfl,rfl,tv,tv⟩,tv⟩,⟨rfl,(bh _),rfl,⟨rfl,rfl,rfl,tv,tv⟩,tv⟩⟩,⟨rfl,(bh _),rfl,⟨rfl,(bh _),rfl,⟨rfl,(bh _),rfl,tv,tv⟩,tv⟩,⟨rfl,(bh _),rfl,⟨rfl,(bh _),rfl,tv,tv⟩,tv⟩⟩⟩,⟨rfl,(bh _),rfl,⟨rfl,ayl,rfl,⟨rfl,(bh _),rfl,⟨rfl,(bh _),rfl,tv,tv⟩,tv⟩,⟨rfl,(bh _),rfl,⟨rfl,rfl,rfl,tv,tv⟩,tv⟩⟩,⟨rfl,rfl,rfl,⟨rfl,ayj,rfl,⟨rfl,aE6,rfl,tv,tv⟩,tv⟩,⟨rfl,rfl,rfl,⟨rfl,(bh _),rfl,tv,tv⟩,tv⟩⟩⟩⟩,⟨rfl,rfl,rfl,⟨rfl,(bh _),rfl,⟨rfl,rfl,rfl,⟨rfl,rfl,rfl,⟨rfl,(bh _),rfl,tv,tv⟩,tv⟩,⟨rfl,(bh _),rfl,⟨rfl,rfl,rfl,tv,tv⟩,tv⟩⟩,⟨rfl,aE4,rfl,⟨rfl,rfl,rfl,⟨rfl,(bh _),rfl,tv,tv⟩,tv⟩,⟨rfl,rfl,rfl,⟨rfl,rfl,rfl,tv,tv⟩,tv⟩⟩⟩,⟨rfl,rfl,rfl,⟨rfl,rfl,rfl,⟨rfl,rfl,rfl,⟨rfl,rfl,rfl,tv,tv⟩,tv⟩,⟨rfl,rfl,rfl,⟨rfl,rfl,rfl,tv,tv⟩,tv⟩⟩,⟨rfl,(bh _),rfl,⟨rfl,(bh _),rfl,⟨rfl,(bh _),rfl,tv,tv⟩,tv⟩,⟨rfl,abs,rfl,tv,tv⟩⟩⟩⟩⟩,⟨rfl,rfl,rfl,⟨rfl,(bh _),rfl,⟨rfl,rfl,rfl,⟨rfl,rfl,rfl,⟨rfl,(bh _),rfl,⟨rfl,(bh _),rfl,tv,tv⟩,tv⟩,⟨rfl,rfl,rfl,⟨rfl,rfl,rfl,tv,tv⟩,tv⟩⟩,⟨rfl,rfl,rfl,⟨rfl,(bh _),rfl,⟨rfl,rfl,rfl,tv,tv⟩,tv⟩,⟨rfl,rfl,rfl,⟨rfl,rfl,rfl,tv,tv⟩,tv⟩⟩⟩,⟨rfl,rfl,rfl,⟨rfl,rfl,rfl,⟨rfl,(bh _),rfl,⟨rfl,(bh _),rfl,tv,tv⟩,tv⟩,⟨rfl,rfl,rfl,⟨rfl,rfl,rfl,tv,tv⟩,tv⟩⟩,⟨rfl,rfl,rfl,⟨rfl,rfl,rfl,⟨rfl,rfl,rfl,tv,tv⟩,tv⟩,⟨rfl,rfl,rfl,⟨rfl,rfl,rfl,tv,tv⟩,tv⟩⟩⟩⟩,⟨rfl,rfl,rfl,⟨rfl,rfl,rfl,⟨rfl,rfl,rfl,⟨rfl,rfl,rfl,⟨rfl,(bh _),rfl,tv,tv⟩,tv⟩,⟨rfl,rfl,rfl,⟨rfl,rfl,rfl,tv,tv⟩,tv⟩⟩,⟨rfl,rfl,rfl,⟨rfl,rfl,rfl,⟨rfl,(bh _),rfl,tv,tv⟩,tv⟩,⟨rfl,rfl,rfl,⟨rfl,rfl,rfl,tv,tv⟩,tv⟩⟩⟩,⟨rfl,rfl,rfl,⟨rfl,rfl,rfl,⟨rfl,rfl,rfl,⟨rfl,rfl,rfl,tv,tv⟩,tv⟩,⟨rfl,rfl,rfl,⟨rfl,rfl,rfl,tv,tv⟩,tv⟩⟩,⟨rfl,rfl,rfl,⟨rfl,rfl,rfl,⟨rfl,(bh _),rfl,tv,tv⟩,tv⟩,⟨rfl,rfl,rfl,tv,tv⟩⟩⟩⟩⟩⟩
def tS1:Ft:=(.n (.n (.n (.n (.n (.n .z 66 (.nat aaV) (U) .z) 67 (.code q67.1) (U) .z) 68 (.nat fK) (U) (.n (.n .z 69 (.code q69.1) (U) .z) 70 (.code q70.1) (U) .z)) 71 (.code q71.1) (U) (.n (.n (.n .z 72 (.code q72.1) (U) .z) 73 (.nat zd) (U) .z) 74 (.nat aj7) (U) (.n (.n .z 77 (.nat aj6) (U) .z) 79 (.code q79.1) (U) .z))) 80 (.code q80.1) (U) (.n (.n (.n (.n .z 81 (.code q81.1) (U) .z) 82 (.nat kH) (U) .z) 83 (.nat cM) (U) (.n (.n .z 86 (.code q86.1) (U) .z) 87 (.code q87.1) (U) .z)) 88 (.code q88.1) (U) (.n (.n (.n .z 89 (.nat bU) (U) .z) 90 (.code q90.1) (U) .z) 91 (.nat aaU) (U) (.n (.n .z 92 (.nat a9) (U) .z) 93 (.nat k9) (U) .z)))) 94 (.code q94.1) (U) (.n (.n (.n (.n (.n .z 95 (.code q95.1) (U) .z) 96 (.code q96.1) (U) .z) 97 (.code q97.1) (U) (.n (.n .z 98 (.code q98.1) (U) .z) 99 (.code q99.1) (U) .z)) 100 (.code azp.1) (U) (.n (.n (.n .z 101 (.nat pt) (U) .z) 102 (.nat fG) (U) .z) 103 (.nat mn) (U) (.n (.n .z 104 (.nat cS) (U) .z) 105 (.code aqg.1) (U) .z))) 106 (.nat acg) (U) (.n (.n (.n (.n .z 107 (.code azq.1) (U) .z) 108 (.code azr.1) (U) .z) 109 (.nat aj8) (U) (.n (.n .z 110 (.code azs.1) (U) .z) 112 (.nat a9) (U) .z)) 117 (.nat mn) (U) (.n (.n (.n .z 125 (.code azt.1) (U) .z) 126 (.code azu.1) (U) .z) 127 (.code azv.1) (U) (.n .z 130 (.nat eh) (U) .z)))))
def awK {k:Cls}:tS1.Ok Tryz.prog k aH:=⟨⟨⟨⟨⟨⟨tv,ahe,tv,tv⟩,q67.2,tv,tv⟩,wQ,tv,⟨⟨tv,q69.2,tv,tv⟩,q70.2,tv,tv⟩⟩,q71.2,tv,⟨⟨⟨tv,q72.2,tv,tv⟩,apG,tv,tv⟩,auS,tv,⟨⟨tv,aq5,tv,tv⟩,q79.2,tv,tv⟩⟩⟩,q80.2,tv,⟨⟨⟨⟨tv,q81.2,tv,tv⟩,aeg,tv,tv⟩,aeh,tv,⟨⟨tv,q86.2,tv,tv⟩,q87.2,tv,tv⟩⟩,q88.2,tv,⟨⟨⟨tv,jQ,tv,tv⟩,q90.2,tv,tv⟩,agO,tv,⟨⟨tv,jP,tv,tv⟩,wq,tv,tv⟩⟩⟩⟩,q94.2,tv,⟨⟨⟨⟨⟨tv,q95.2,tv,tv⟩,q96.2,tv,tv⟩,q97.2,tv,⟨⟨tv,q98.2,tv,tv⟩,q99.2,tv,tv⟩⟩,azp.2,tv,⟨⟨⟨tv,auV,tv,tv⟩,yX,tv,tv⟩,ayK,tv,⟨⟨tv,sA,tv,tv⟩,aqg.2,tv,tv⟩⟩⟩,alZ,tv,⟨⟨⟨⟨tv,azq.2,tv,tv⟩,azr.2,tv,tv⟩,auT,tv,⟨⟨tv,azs.2,tv,tv⟩,lh,tv,tv⟩⟩,akT,tv,⟨⟨⟨tv,azt.2,tv,tv⟩,azu.2,tv,tv⟩,azv.2,tv,⟨tv,mh,tv,tv⟩⟩⟩⟩⟩
def aBx:FtJ:=(.n (.n (.n (.n (.n (.n .z 66 (.nat aCE) U .z) 67 (.code (aF q67.1)) U .z) 68 (.nat (dh fK)) U (.n (.n .z 69 (.code (aF q69.1)) U .z) 70 (.code (aF q70.1)) U .z)) 71 (.code (aF q71.1)) U (.n (.n (.n .z 72 (.code (aF q72.1)) U .z) 73 (.nat ajr) U .z) 74 (.nat aug) U (.n (.n .z 77 (.nat aue) U .z) 79 (.code (aF q79.1)) U .z))) 80 (.code (aF q80.1)) U (.n (.n (.n (.n .z 81 (.code (aF q81.1)) U .z) 82 (.nat (dh kH)) U .z) 83 (.nat (dh cM)) U (.n (.n .z 86 (.code (aF q86.1)) U .z) 87 (.code (aF q87.1)) U .z)) 88 (.code (aF q88.1)) U (.n (.n (.n .z 89 (.nat aCI) U .z) 90 (.code (aF q90.1)) U .z) 91 (.nat aCD) U (.n (.n .z 92 (.nat ayi) U .z) 93 (.nat aJ9) U .z)))) 94 (.code (aF q94.1)) U (.n (.n (.n (.n (.n .z 95 (.code (aF q95.1)) U .z) 96 (.code (aF q96.1)) U .z) 97 (.code (aF q97.1)) U (.n (.n .z 98 (.code (aF q98.1)) U .z) 99 (.code (aF q99.1)) U .z)) 100 (.code (aF azp.1)) U (.n (.n (.n .z 101 (.nat apy) U .z) 102 (.nat aCw) U .z) 103 (.nat (dh mn)) U (.n (.n .z 104 (.nat aCP) U .z) 105 (.code (aF aqg.1)) U .z))) 106 (.nat we) U (.n (.n (.n (.n .z 107 (.code (aF azq.1)) U .z) 108 (.code (aF azr.1)) U .z) 109 (.nat aui) U (.n (.n .z 110 (.code (aF azs.1)) U .z) 112 (.nat ayi) U .z)) 117 (.nat (dh mn)) U (.n (.n (.n .z 125 (.code (aF azt.1)) U .z) 126 (.code (aF azu.1)) U .z) 127 (.code (aF azv.1)) U (.n .z 130 (.nat ae5) U .z)))))
def aod:rP aBx tS1:=⟨rfl,rfl,rfl,⟨rfl,rfl,rfl,⟨rfl,rfl,rfl,⟨rfl,(bh _),rfl,⟨rfl,rfl,rfl,⟨rfl,ayo,rfl,tv,tv⟩,tv⟩,⟨rfl,rfl,rfl,⟨rfl,rfl,rfl,tv,tv⟩,tv⟩⟩,⟨rfl,auh,rfl,⟨rfl,agH,rfl,⟨rfl,rfl,rfl,tv,tv⟩,tv⟩,⟨rfl,rfl,rfl,⟨rfl,auf,rfl,tv,tv⟩,tv⟩⟩⟩,⟨rfl,rfl,rfl,⟨rfl,(bh _),rfl,⟨rfl,(bh _),rfl,⟨rfl,rfl,rfl,tv,tv⟩,tv⟩,⟨rfl,rfl,rfl,⟨rfl,rfl,rfl,tv,tv⟩,tv⟩⟩,⟨rfl,ayn,rfl,⟨rfl,rfl,rfl,⟨rfl,ayq,rfl,tv,tv⟩,tv⟩,⟨rfl,aE5,rfl,⟨rfl,amV,rfl,tv,tv⟩,tv⟩⟩⟩⟩,⟨rfl,alX,rfl,⟨rfl,rfl,rfl,⟨rfl,rfl,rfl,⟨rfl,rfl,rfl,⟨rfl,rfl,rfl,tv,tv⟩,tv⟩,⟨rfl,rfl,rfl,⟨rfl,rfl,rfl,tv,tv⟩,tv⟩⟩,⟨rfl,(bh _),rfl,⟨rfl,ayh,rfl,⟨rfl,ajq,rfl,tv,tv⟩,tv⟩,⟨rfl,rfl,rfl,⟨rfl,ayr,rfl,tv,tv⟩,tv⟩⟩⟩,⟨rfl,(bh _),rfl,⟨rfl,auj,rfl,⟨rfl,rfl,rfl,⟨rfl,rfl,rfl,tv,tv⟩,tv⟩,⟨rfl,amV,rfl,⟨rfl,rfl,rfl,tv,tv⟩,tv⟩⟩,⟨rfl,rfl,rfl,⟨rfl,rfl,rfl,⟨rfl,rfl,rfl,tv,tv⟩,tv⟩,⟨rfl,adK,rfl,tv,tv⟩⟩⟩⟩⟩
def tS2:Ft:=(.n (.n (.n (.n (.n .z 35 (.nat uX) (U) .z) 36 (.code q36.1) (U) .z) 37 (.code q37.1) (U) (.n (.n .z 38 (.code q38.1) (U) .z) 39 (.code q39.1) (U) .z)) 40 (.code q40.1) (U) (.n (.n (.n .z 41 (.code q41.1) (U) .z) 42 (.code q42.1) (U) .z) 43 (.code q43.1) (U) (.n (.n .z 44 (.nat uX) (U) .z) 45 (.code q45.1) (U) .z))) 46 (.code q46.1) (U) (.n (.n (.n (.n .z 47 (.code q47.1) (U) .z) 54 (.nat aka) (U) .z) 55 (.code q55.1) (U) (.n (.n .z 57 (.code q57.1) (U) .z) 58 (.nat ap1) (U) .z)) 59 (.nat aj9) (U) (.n (.n (.n .z 60 (.code q60.1) (U) .z) 61 (.code q61.1) (U) .z) 62 (.code q62.1) (U) (.n .z 63 (.code q63.1) (U) .z))))
def awL {k:Cls}:tS2.Ok Tryz.prog k aH:=⟨⟨⟨⟨⟨tv,aq8,tv,tv⟩,q36.2,tv,tv⟩,q37.2,tv,⟨⟨tv,q38.2,tv,tv⟩,q39.2,tv,tv⟩⟩,q40.2,tv,⟨⟨⟨tv,q41.2,tv,tv⟩,q42.2,tv,tv⟩,q43.2,tv,⟨⟨tv,apI,tv,tv⟩,q45.2,tv,tv⟩⟩⟩,q46.2,tv,⟨⟨⟨⟨tv,q47.2,tv,tv⟩,auW,tv,tv⟩,q55.2,tv,⟨⟨tv,q57.2,tv,tv⟩,ayI,tv,tv⟩⟩,auU,tv,⟨⟨⟨tv,q60.2,tv,tv⟩,q61.2,tv,tv⟩,q62.2,tv,⟨tv,q63.2,tv,tv⟩⟩⟩⟩
def aBy:FtJ:=(.n (.n (.n (.n (.n .z 35 (.nat (dh uX)) U .z) 36 (.code (aF q36.1)) U .z) 37 (.code (aF q37.1)) U (.n (.n .z 38 (.code (aF q38.1)) U .z) 39 (.code (aF q39.1)) U .z)) 40 (.code (aF q40.1)) U (.n (.n (.n .z 41 (.code (aF q41.1)) U .z) 42 (.code (aF q42.1)) U .z) 43 (.code (aF q43.1)) U (.n (.n .z 44 (.nat (dh uX)) U .z) 45 (.code (aF q45.1)) U .z))) 46 (.code (aF q46.1)) U (.n (.n (.n (.n .z 47 (.code (aF q47.1)) U .z) 54 (.nat aum) U .z) 55 (.code (aF q55.1)) U (.n (.n .z 57 (.code (aF q57.1)) U .z) 58 (.nat aCG) U .z)) 59 (.nat auk) U (.n (.n (.n .z 60 (.code (aF q60.1)) U .z) 61 (.code (aF q61.1)) U .z) 62 (.code (aF q62.1)) U (.n .z 63 (.code (aF q63.1)) U .z))))
def aoe:rP aBy tS2:=⟨rfl,rfl,rfl,⟨rfl,rfl,rfl,⟨rfl,rfl,rfl,⟨rfl,rfl,rfl,⟨rfl,(bh _),rfl,tv,tv⟩,tv⟩,⟨rfl,rfl,rfl,⟨rfl,rfl,rfl,tv,tv⟩,tv⟩⟩,⟨rfl,rfl,rfl,⟨rfl,rfl,rfl,⟨rfl,rfl,rfl,tv,tv⟩,tv⟩,⟨rfl,rfl,rfl,⟨rfl,(bh _),rfl,tv,tv⟩,tv⟩⟩⟩,⟨rfl,aul,rfl,⟨rfl,rfl,rfl,⟨rfl,aun,rfl,⟨rfl,rfl,rfl,tv,tv⟩,tv⟩,⟨rfl,ayp,rfl,⟨rfl,rfl,rfl,tv,tv⟩,tv⟩⟩,⟨rfl,rfl,rfl,⟨rfl,rfl,rfl,⟨rfl,rfl,rfl,tv,tv⟩,tv⟩,⟨rfl,rfl,rfl,tv,tv⟩⟩⟩⟩
def tS3:Ft:=(.n (.n (.n (.n .z 23 (.code q23.1) (U) .z) 24 (.code q24.1) (U) .z) 25 (.code q25.1) (U) (.n (.n .z 26 (.code q26.1) (U) .z) 27 (.nat pt) (U) .z)) 28 (.nat zd) (U) (.n (.n (.n .z 29 (.nat zc) (U) .z) 30 (.nat ap0) (U) .z) 31 (.code q31.1) (U) (.n (.n .z 32 (.code q32.1) (U) .z) 33 (.code q33.1) (U) .z)))
def awM {k:Cls}:tS3.Ok Tryz.prog k aH:=⟨⟨⟨⟨tv,q23.2,tv,tv⟩,q24.2,tv,tv⟩,q25.2,tv,⟨⟨tv,q26.2,tv,tv⟩,ahd,tv,tv⟩⟩,aq6,tv,⟨⟨⟨tv,aq7,tv,tv⟩,av4,tv,tv⟩,q31.2,tv,⟨⟨tv,q32.2,tv,tv⟩,q33.2,tv,tv⟩⟩⟩
def aBz:FtJ:=(.n (.n (.n (.n .z 23 (.code (aF q23.1)) U .z) 24 (.code (aF q24.1)) U .z) 25 (.code (aF q25.1)) U (.n (.n .z 26 (.code (aF q26.1)) U .z) 27 (.nat apy) U .z)) 28 (.nat ajr) U (.n (.n (.n .z 29 (.nat (dh zc)) U .z) 30 (.nat aCC) U .z) 31 (.code (aF q31.1)) U (.n (.n .z 32 (.code (aF q32.1)) U .z) 33 (.code (aF q33.1)) U .z)))
def aof:rP aBz tS3:=⟨rfl,agH,rfl,⟨rfl,rfl,rfl,⟨rfl,rfl,rfl,⟨rfl,rfl,rfl,tv,tv⟩,tv⟩,⟨rfl,ajq,rfl,⟨rfl,rfl,rfl,tv,tv⟩,tv⟩⟩,⟨rfl,rfl,rfl,⟨rfl,aym,rfl,⟨rfl,(bh _),rfl,tv,tv⟩,tv⟩,⟨rfl,rfl,rfl,⟨rfl,rfl,rfl,tv,tv⟩,tv⟩⟩⟩
def tS4:Ft:=(.n (.n (.n .z 16 (.code q16.1) (U) .z) 17 (.code q17.1) (U) .z) 19 (.code q19.1) (U) (.n (.n .z 20 (.nat ahP) (U) .z) 21 (.code q21.1) (U) .z))
def awN {k:Cls}:tS4.Ok Tryz.prog k aH:=⟨⟨⟨tv,q16.2,tv,tv⟩,q17.2,tv,tv⟩,q19.2,tv,⟨⟨tv,ahc,tv,tv⟩,q21.2,tv,tv⟩⟩
def aBA:FtJ:=(.n (.n (.n .z 16 (.code (aF q16.1)) U .z) 17 (.code (aF q17.1)) U .z) 19 (.code (aF q19.1)) U (.n (.n .z 20 (.nat apx) U .z) 21 (.code (aF q21.1)) U .z))
def aog:rP aBA tS4:=⟨rfl,rfl,rfl,⟨rfl,rfl,rfl,⟨rfl,rfl,rfl,tv,tv⟩,tv⟩,⟨rfl,rfl,rfl,⟨rfl,ajp,rfl,tv,tv⟩,tv⟩⟩
def tS5:Ft:=(.n (.n .z 9 (.code q9.1) (U) .z) 11 (.code q11.1) (U) .z)
def awO {k:Cls}:tS5.Ok Tryz.prog k aH:=⟨⟨tv,q9.2,tv,tv⟩,q11.2,tv,tv⟩
def aBB:FtJ:=(.n (.n .z 9 (.code (aF q9.1)) U .z) 11 (.code (aF q11.1)) U .z)
def aoh:rP aBB tS5:=⟨rfl,rfl,rfl,⟨rfl,rfl,rfl,tv,tv⟩,tv⟩
def tS6:Ft:=(.n .z 6 (.code q6.1) (U) .z)
def awP {k:Cls}:tS6.Ok Tryz.prog k aH:=⟨tv,q6.2,tv,tv⟩
def aBC:FtJ:=(.n .z 6 (.code (aF q6.1)) U .z)
def aoi:rP aBC tS6:=⟨rfl,rfl,rfl,tv,tv⟩
def tYZ:Ft:=(.n (.n (.n (.n (.n (.n (.n tS6 7 (.code q7.1) (U) .z) 8 (.code q8.1) (U) tS5) 13 (.code q13.1) (U) tS4) 22 (.nat sE) (U) tS3) 34 (.code q34.1) (U) tS2) 65 (.nat aW) (U) tS1) 132 (.code azw.1) (U) tS0)
def aNT {k:Cls}:tYZ.Ok Tryz.prog k aH:=⟨⟨⟨⟨⟨⟨⟨awP,q7.2,tv,tv⟩,q8.2,tv,awO⟩,q13.2,tv,awN⟩,aha,tv,awM⟩,q34.2,tv,awL⟩,gZ,tv,awK⟩,azw.2,tv,awJ⟩
def aNS:FtJ:=(.n (.n (.n (.n (.n (.n (.n aBC 7 (.code (aF q7.1)) U .z) 8 (.code (aF q8.1)) U aBB) 13 (.code (aF q13.1)) U aBA) 22 (.nat aCA) U aBz) 34 (.code (aF q34.1)) U aBy) 65 (.nat (dh aW)) U aBx) 132 (.code (aF azw.1)) U aBw)
def aHl:rP aNS tYZ:=⟨rfl,rfl,rfl,⟨rfl,(bh _),rfl,⟨rfl,rfl,rfl,⟨rfl,ayk,rfl,⟨rfl,rfl,rfl,⟨rfl,rfl,rfl,⟨rfl,rfl,rfl,aoi,tv⟩,aoh⟩,aog⟩,aof⟩,aoe⟩,aod⟩,aoc⟩
set_option maxRecDepth 1000000
def aGD:aA4 aNS 1000 100 (aF q7.1) []=Z (yes,[],[],[]):=by kernel_rfl
def awn {k:Cls}:Cn k 7 aa3:=arr (ay aNT q7.2 1000 1000 100) (aDW aHl aGD)
def tYM:Ft:=(.n (.n (.n (.n (.n (.n (.n tS6 7 (.nat aa3) (U) .z) 8 (.code q8.1) (U) tS5) 13 (.code q13.1) (U) tS4) 22 (.nat sE) (U) tS3) 34 (.code q34.1) (U) tS2) 65 (.nat aW) (U) tS1) 132 (.code azw.1) (U) tS0)
def aTs {k:Cls}:tYM.Ok Tryz.prog k aH:=⟨⟨⟨⟨⟨⟨⟨awP,awn,tv,tv⟩,q8.2,tv,awO⟩,q13.2,tv,awN⟩,aha,tv,awM⟩,q34.2,tv,awL⟩,gZ,tv,awK⟩,azw.2,tv,awJ⟩
def aSF:FtJ:=(.n (.n (.n (.n (.n (.n (.n aBC 7 (.nat (dh aa3)) U .z) 8 (.code (aF q8.1)) U aBB) 13 (.code (aF q13.1)) U aBA) 22 (.nat aCA) U aBz) 34 (.code (aF q34.1)) U aBy) 65 (.nat (dh aW)) U aBx) 132 (.code (aF azw.1)) U aBw)
def aSI:rP aSF tYM:=⟨rfl,rfl,rfl,⟨rfl,(bh _),rfl,⟨rfl,rfl,rfl,⟨rfl,ayk,rfl,⟨rfl,rfl,rfl,⟨rfl,rfl,rfl,⟨rfl,(bh _),rfl,aoi,tv⟩,aoh⟩,aog⟩,aof⟩,aoe⟩,aod⟩,aoc⟩
end
end Go.Proofs.YtfiijelajgifiaaGreat
