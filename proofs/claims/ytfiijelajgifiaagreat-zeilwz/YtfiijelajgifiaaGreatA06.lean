/-
  Part 6 of the machine and of the contracts of functions of the program (packed).
-/
import Derived.Test.YtfiijelajgifiaaGreatA05
set_option linter.all false
set_option linter.defProp false
open Nat renaming blt→ah,beq→ai
open Option renaming some→Z,none→U
namespace Go.Mach
noncomputable section
open Go Go.RowKit Go.Flow
variable [Limb]
structure BdK where
 nk:Nat
 pin:List (Option Nat)
 as:CK
 body:CK
def bdK (c:BdC):BdK:=⟨c.nk,c.pin,o4 c.as,o4 c.body⟩
def alI (b:Nat)(x:X)(s2:St)(k:K4):R4:=
 match s2.H[b]? with
 |some (Z (.lp r2))=>(match s2.S.elem b with|true=>U|false=>yW (s2.H.set b (Z (.lp { r2 with st:=z7 x,pend:=kE x }))) (fun H=>lyB (qH x) (fun y=>k (.t (.one (.c (.v (.bool y))))) H s2.S (b::s2.W))))
 |_=>U
def aBM (bd:Nat→Option BdK)(ck:mF)(fl:Nat)(b:Nat)(args:List T)(H:Hp)(S:List Nat)(k:K4):R4:=
 match H[b]? with
 |some (Z (.lp r))=>
  match bd r.i with
  |none=>U
  |some c=>
   match ai args.length c.pin.length&&ai r.τ.length c.nk with
   |true=>mH (bv c.pin args r.τ) (fun τ=>vW ck fl c.as ⟨τ,H,S,[],[]⟩ (fun x=>match x with
    |.nrm s1=>
     (match s1.H[b]? with
     |some (Z (.lp r1))=>
      (match uv r1.st&&!s1.S.elem b with
      |true=>yW (s1.H.set b (Z (.lp { r1 with st:=.busy }))) (fun H=>vW ck fl c.body { s1 with H:=H } (fun x=>match x with
       |.no=>U
       |.nrm s2=>alI b .normal s2 k
       |.ex id s2=>alI b (.exit id) s2 k
       |.ret s2=>alI b .ret s2 k))
      |false=>U)
     |_=>U)
    |_=>U))
   |false=>U
 |_=>U
def aHw (b:Nat)(x:X)(s2:St)(k:K4):alI b x s2 k=jD (match s2.H[b]? with
  |some (Z (.lp r2))=>if s2.S.elem b then U else Z (.t (.one (.c (.v (.bool (qH x))))),s2.H.set b (Z (.lp { r2 with st:=z7 x,pend:=kE x })),s2.S,b::s2.W)
  |_=>U) k:=by
 unfold alI
 generalize s2.H[b]?=x0
 match x0 with
 |none=>rfl
 |some U=>rfl
 |some (Z (.cells _))=>rfl
 |some (Z (.mp _))=>rfl
 |some (Z (.it _ _ _))=>rfl
 |some (Z .df)=>rfl
 |some (Z (.lp r))=>
  dsimp only
  cases s2.S.elem b with
  |true=>rfl
  |false=>simp only[Bool.false_eq_true,if_false,kF,auM,jD]
def aHv {bd:Nat→Option BdK}{bd':Nat→Option BdC}(hb:∀i,bd i=(bd' i).map bdK){ck:mF}{cf:av}(hc:xG ck cf)(fl:Nat)(b:Nat)(args:List T)(H:Hp)(S:List Nat)(k:K4):
  aBM bd ck fl b args H S k=jD (lX bd' cf fl b args H S) k:=by
 unfold aBM lX
 generalize H[b]?=x0
 match x0 with
 |none=>rfl
 |some U=>rfl
 |some (Z (.cells _))=>rfl
 |some (Z (.mp _))=>rfl
 |some (Z (.it _ _ _))=>rfl
 |some (Z .df)=>rfl
 |some (Z (.lp r))=>
  dsimp only
  rw[hb]
  cases bd' r.i with
  |none=>rfl
  |some c=>
   simp only[Option.map_some,bdK,gR,aeX hc]
   cases (ai args.length c.pin.length&&ai r.τ.length c.nk)with
   |false=>rfl
   |true=>
    simp only[if_true]
    cases am cf fl c.as ⟨bv c.pin args r.τ,H,S,[],[]⟩with
    |none=>rfl
    |some x=>
     obtain⟨x,s1⟩:=x
     cases x with
     |exit id=>rfl
     |ret=>rfl
     |normal=>
      simp only[rX]
      generalize s1.H[b]?=x1
      match x1 with
      |none=>rfl
      |some U=>rfl
      |some (Z (.cells _))=>rfl
      |some (Z (.mp _))=>rfl
      |some (Z (.it _ _ _))=>rfl
      |some (Z .df)=>rfl
      |some (Z (.lp r1))=>
       dsimp only
       cases (uv r1.st&&!s1.S.elem b)with
       |false=>rfl
       |true=>
        simp only[if_true,kF,aeX hc]
        cases am cf fl c.body { s1 with H:=s1.H.set b (Z (.lp { r1 with st:=.busy })) } with
        |none=>rfl
        |some x=>
         obtain⟨x,s2⟩:=x
         cases x<;>(simp only[rX,aHw];rfl)
inductive FeK where
 |none
 |code (c:FnK)
 |nat (m:List V1→Option (List V1))
 |wnat (m:kU)
inductive FtK where
 |z
 |n (l:FtK) (k:Nat) (e:FeK) (b:Option BdK) (r:FtK)
def FtK.fn:FtK→Nat→FeK
 |.z,_=>.none
 |.n l k e _ r,f=>match ah f k with|true=>l.fn f|false=>match ai f k with|true=>e|false=>r.fn f
def FtK.bd:FtK→Nat→Option BdK
 |.z,_=>Option.none
 |.n l k _ b r,f=>match ah f k with|true=>l.bd f|false=>match ai f k with|true=>b|false=>r.bd f
def aTD (m:List V1→Option (List V1))(args:List T)(H:Hp)(S:List Nat)(k:K4):R4:=
 match bC m args H S with|some (y,H,S,W)=>lyT y (fun y=>mH S (fun S=>k y H S W))|none=>U
def arY (m:kU)(args:List T)(H:Hp)(S:List Nat)(k:K4):R4:=
 match m args H S with|some (y,H,S,W)=>lyT y (fun y=>yW H (fun H=>mH S (fun S=>mH W (fun W=>k y H S W))))|none=>U
def aBI (m:kU)(args:List T)(H:Hp)(S:List Nat)(k:K4):arY m args H S k=jD (m args H S) k:=by
 unfold arY
 cases m args H S with
 |none=>rfl
 |some x=>obtain⟨y,H,S,W⟩:=x;simp only[cU,gR,kF,jD]
end
end Go.Mach
