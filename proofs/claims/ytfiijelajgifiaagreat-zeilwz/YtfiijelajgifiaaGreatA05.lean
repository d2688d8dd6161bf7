/-
  Part 5 of the machine and of the contracts of functions of the program (packed).
-/
import Derived.Test.YtfiijelajgifiaaGreatA04
set_option linter.all false
set_option linter.defProp false
open Bool renaming true→ab
open Nat renaming beq→ai
open Option renaming some→Z,none→U
namespace Go.Mach
noncomputable section
open Go Go.RowKit Go.Flow
variable [Limb]
inductive CK where
 |skip
 |reg (os:List KO)
 |seq (a b:CK)
 |cond (c:Od) (t e:CK)
 |block (id:Nat) (b:CK)
 |loop (b:CK)
 |rf (g:Od) (i:Nat)
 |exit (id:Nat)
 |scope (b:CK)
 |ret
def o4:CC→CK
 |.skip=>.skip
 |.reg os=>.reg (os.map qL)
 |.seq a b=>.seq (o4 a) (o4 b)
 |.cond c t e=>.cond c (o4 t) (o4 e)
 |.block id b=>.block id (o4 b)
 |.loop b=>.loop (o4 b)
 |.rf g i=>.rf g i
 |.exit id=>.exit id
 |.scope b=>.scope (o4 b)
 |.ret=>.ret
abbrev KX:=Cx→R4
def rX (x:Option (X × St))(k:KX):R4:=match x with|none=>U|some (.normal,s)=>k (.nrm s)|some (.exit id,s)=>k (.ex id s)|some (.ret,s)=>k (.ret s)
def cxK (k1:St→R4)(k:KX)(c:Cx):R4:=@Cx.rec (fun _=>R4) (k .no) k1 (fun id s=>k (.ex id s)) (fun s=>k (.ret s)) c
def apC (f:St→KX→R4)(n:Nat):St→KX→R4:=@Nat.rec (fun _=>St→KX→R4) (fun _ _=>U) (fun _ ih s k=>f s (cxK (fun s1=>ih s1 k) k)) n
def ajy {f:St→KX→R4}{g:St→Option (X × St)}(h:∀s k,f s k=rX (g s) k):∀(n:Nat) (s:St) (k:KX),apC f n s k=rX (aG g n s) k
 |0,_,_=>rfl
 |n+1,s,k=>by
  show f s (cxK (fun s1=>apC f n s1 k) k)=_
  simp only[aG,h]
  cases g s with
  |none=>rfl
  |some x=>
   obtain⟨x,s1⟩:=x
   cases x with
   |normal=>exact ajy h n s1 k
   |exit id=>rfl
   |ret=>rfl
def rfK (ck:mF)(g:Od)(i:Nat)(s:St)(k:KX):R4:=
 match mV (bD [] s.τ g)with
 |none=>U
 |some _=>
  oY s.H.length (fun n=>yW ((s.H++[Z .df])++[Z (.lp ⟨i,s.τ,.ready,U⟩)]) (fun H0=>ck (bD [] s.τ g) [.t (.one (.yld (n+1)))] H0 s.S (fun _ H1 S1 W1=>
   match H1[n+1]? with
   |some (Z (.lp r))=>
    (match uu r.st with
     |true=>U
     |false=>match S1.elem (n+1)with
      |true=>U
      |false=>yW (H1.set (n+1) U) (fun H2=>qf W1 s.W (fun W2=>rX (match r.pend with
       |none=>Z (.normal,⟨s.τ,H2,S1,W2,n::s.dfs⟩)
       |some x=>Z (x,⟨s.τ,H2,S1,W2,n::s.dfs⟩)) k)))
   |_=>U)))
def aMi {ck:mF}{cf:av}(hc:xG ck cf)(g:Od)(i:Nat)(s:St)(k:KX):rfK ck g i s k=rX (aeY cf g i s) k:=by
 unfold rfK aeY
 cases mV (bD [] s.τ g)with
 |none=>rfl
 |some _=>
  simp only[uR,kF]
  rw[hc]
  cases cf (bD [] s.τ g) [.t (.one (.yld (s.H.length+1)))] ((s.H++[Z .df])++[Z (.lp ⟨i,s.τ,.ready,U⟩)]) s.S with
  |none=>rfl
  |some x=>
   obtain⟨y,H1,S1,W1⟩:=x
   dsimp only
   generalize H1[s.H.length+1]?=x1
   match x1 with
   |none=>rfl
   |some U=>rfl
   |some (Z (.cells _))=>rfl
   |some (Z (.mp _))=>rfl
   |some (Z (.it _ _ _))=>rfl
   |some (Z .df)=>rfl
   |some (Z (.lp r))=>
    dsimp only
    cases uu r.st with
    |true=>rfl
    |false=>
     simp only[Bool.false_eq_true,if_false]
     cases S1.elem (s.H.length+1)with
     |true=>rfl
     |false=>
      simp only[Bool.false_eq_true,if_false,pK]
      cases r.pend with
      |none=>rfl
      |some x=>rfl
def cdK (x:T)(t e:R4):R4:=@Option.rec Bool (fun _=>R4) U (fun b=>@Bool.rec (fun _=>R4) e t b) (ac3 x)
def vW (ck:mF)(fl:Nat)(c:CK):St→KX→R4:=@CK.rec (fun _=>St→KX→R4)
 (fun s k=>k (.nrm s))
 (fun os s k=>@St.rec (fun _=>R4) (fun τ H S W dfs=>oR ck τ os [] H S τ [] [] (fun τ H S W'=>qf W' W (fun W=>k (.nrm ⟨τ,H,S,W,dfs⟩)))) s)
 (fun _ _ iha ihb s k=>iha s (cxK (fun s1=>ihb s1 k) k))
 (fun c _ _ iht ihe s k=>@St.rec (fun _=>R4) (fun τ H S W dfs=>cN [] τ c (fun x=>cdK x (iht ⟨τ,H,S,W,dfs⟩ k) (ihe ⟨τ,H,S,W,dfs⟩ k))) s)
 (fun id _ ih s k=>ih s (fun c=>@Cx.rec (fun _=>R4) (k .no) (fun s=>k (.nrm s)) (fun j s1=>bK (ai j id) (k (.ex j s1)) (k (.nrm s1))) (fun s=>k (.ret s)) c))
 (fun _ ih s k=>apC ih fl s k)
 (fun g i s k=>rfK ck g i s k)
 (fun id s k=>k (.ex id s))
 (fun _ ih s k=>ih s k)
 (fun s k=>k (.ret s)) c
def aeX {ck:mF}{cf:av}(hc:xG ck cf)(fl:Nat):∀(c:CC) (s:St) (k:KX),vW ck fl (o4 c) s k=rX (am cf fl c s) k:=by
 intro c
 induction c with
 |skip=>intro s k;rfl
 |exit id=>intro s k;rfl
 |ret=>intro s k;rfl
 |rf g i=>intro s k;exact aMi hc g i s k
 |reg os=>
  intro s k
  obtain⟨τ,H,S,W,dfs⟩:=s
  show oR ck τ (os.map qL) [] H S τ [] [] (fun τ H S W'=>qf W' W (fun W=>k (.nrm ⟨τ,H,S,W,dfs⟩)))=_
  simp only[am,af7 hc,pK]
  cases ja cf τ os [] H S τ [] []with
  |none=>rfl
  |some x=>obtain⟨τ,H,S,W⟩:=x;rfl
 |seq a b iha ihb=>
  intro s k
  show vW ck fl (o4 a) s (cxK (fun s1=>vW ck fl (o4 b) s1 k) k)=_
  simp only[am,iha]
  cases am cf fl a s with
  |none=>rfl
  |some x=>
   obtain⟨x,s1⟩:=x
   cases x with
   |normal=>exact ihb s1 k
   |exit id=>rfl
   |ret=>rfl
 |cond c t e iht ihe=>
  intro s k
  obtain⟨τ,H,S,W,dfs⟩:=s
  show cN [] τ c (fun x=>cdK x (vW ck fl (o4 t) ⟨τ,H,S,W,dfs⟩ k) (vW ck fl (o4 e) ⟨τ,H,S,W,dfs⟩ k))=_
  rw[bE]
  simp only[am]
  generalize bD [] τ c=x
  unfold cdK ac3
  split
  ·rename_i q
   cases q with
   |true=>exact iht _ k
   |false=>exact ihe _ k
  ·rename_i h
   split
   ·exact absurd rfl (h _)
   ·exact absurd rfl (h _)
   ·rfl
 |block id b ih=>
  intro s k
  show vW ck fl (o4 b) s _=_
  simp only[am,ih]
  cases am cf fl b s with
  |none=>rfl
  |some x=>
   obtain⟨x,s1⟩:=x
   cases x with
   |normal=>rfl
   |exit j=>
    show bK (ai j id) (k (.ex j s1)) (k (.nrm s1))=rX (if ai j id=ab then Z (.normal,s1) else Z (.exit j,s1)) k
    cases ai j id<;>rfl
   |ret=>rfl
 |loop b ih=>
  intro s k
  exact ajy ih fl s k
 |scope b ih=>intro s k;exact ih s k
structure FnK where
 wm:Bool
 nk:Nat
 pin:List (Option Nat)
 code:CK
 res:List Rs1
def aF (c:FnC):FnK:=⟨c.wm,c.nk,c.pin,o4 c.code,c.res⟩
abbrev K4:=T→Hp→List Nat→List Nat→R4
def jD (x:Option (T × Hp × List Nat × List Nat))(k:K4):R4:=match x with|some (y,H,S,W)=>k y H S W|none=>U
def rsK (H:Hp)(τ:List T)(rs:List Rs1):(List T→R4)→R4:=@List.rec Rs1 (fun _=>(List T→R4)→R4) (fun k=>k [])
 (fun r _ ih k=>@Rs1.rec (fun _=>R4) (ih (fun l=>k (.nil::l))) (fun p=>acm τ p (fun y=>ih (fun l=>k (y::l)))) (fun ag n p=>acm τ p (fun x=>dK x U (ldK ag n H [] (fun y _ _ _ _=>ih (fun l=>k (y::l)))))) r) rs
def aOF (ag:Bool)(n:Nat)(H:Hp)(x:T)(k:T→R4):dK x U (ldK ag n H [] (fun y _ _ _ _=>k y))=match lW ag n H x with|some y=>k y|none=>U:=by
 rw[auy]
 cases lW ag n H x with
 |none=>rfl
 |some y=>simp only[vK,cU]
def ael (H:Hp)(τ:List T):∀(rs:List Rs1) (k:List T→R4),rsK H τ rs k=match fu H τ rs with|some l=>k l|none=>U
 |[],k=>rfl
 |.z::r,k=>by
  show rsK H τ r (fun l=>k (.nil::l))=_
  rw[ael H τ r]
  simp only[fu]
  cases fu H τ r<;>rfl
 |.p p::r,k=>by
  show acm τ p (fun y=>rsK H τ r (fun l=>k (y::l)))=_
  rw[vk,ael H τ r]
  simp only[fu]
  cases fu H τ r<;>rfl
 |.cell ag n p::r,k=>by
  show acm τ p (fun x=>dK x U (ldK ag n H [] (fun y _ _ _ _=>rsK H τ r (fun l=>k (y::l)))))=_
  rw[vk,aOF]
  simp only[fu,ael H τ r]
  cases lW ag n H (ce τ p)with
  |none=>rfl
  |some y=>cases fu H τ r<;>rfl
def arL (l:List T):(List T1→R4)→R4:=@List.rec T (fun _=>(List T1→R4)→R4) (fun k=>k []) (fun x _ ih k=>@T.rec (fun _=>R4) U (fun t=>ih (fun r=>k (t::r))) (fun _=>U) (fun _ _=>U) x) l
def an9:∀(l:List T) (k:List T1→R4),arL l k=match ir l with|some r=>k r|none=>U
 |[],k=>rfl
 |.t x::r,k=>by
  show arL r (fun r=>k (x::r))=_
  rw[an9 r]
  simp only[ir]
  cases ir r<;>rfl
 |.nil::r,k=>rfl
 |.tup _::r,k=>rfl
 |.row _ _::r,k=>rfl
def ajU (l:List T)(k:T→R4):R4:=@List.rec T (fun _=>R4) (k (.tup [])) (fun x r _=>@List.rec T (fun _=>R4) (k x) (fun _ _ _=>arL l (fun xs=>k (.tup xs))) r) l
def au7 (l:List T)(k:T→R4):ajU l k=match mj l with|some y=>k y|none=>U:=by
 match l with
 |[]=>rfl
 |[x]=>rfl
 |x::y::r=>
  show arL (x::y::r) (fun xs=>k (.tup xs))=match (match ir (x::y::r)with|some xs=>Z (.tup xs)|none=>U)with|some y=>k y|none=>U
  rw[an9]
  cases ir (x::y::r)<;>rfl
def aoX (dfs:List Nat)(H:Hp)(S:List Nat)(k:Hp→R4):R4:=@List.rec Nat (fun _=>R4) (k H) (fun _ _ _=>match dT dfs H S with|none=>U|some H1=>yW H1 k) dfs
def axv (dfs:List Nat)(H:Hp)(S:List Nat)(k:Hp→R4):aoX dfs H S k=match dT dfs H S with|none=>U|some H1=>k H1:=by
 cases dfs with
 |nil=>rfl
 |cons d r=>
  show(match dT (d::r) H S with|none=>U|some H1=>yW H1 k)=_
  cases dT (d::r) H S with
  |none=>rfl
  |some H1=>simp only[kF]
def aJw (c:FnK)(s:St)(k:K4):R4:=
 @St.rec (fun _=>R4) (fun τ H S W dfs=>aoX dfs H S (fun H1=>rsK H1 τ c.res (fun l=>ajU l (fun y=>qf dfs W (fun W=>k y H1 S W))))) s
def inK (pin:List (Option Nat)):List T→List T→(List T→R4)→R4:=@List.rec (Option Nat) (fun _=>List T→List T→(List T→R4)→R4) (fun _ τ k=>k τ)
 (fun p _ ih as τ k=>@List.rec T (fun _=>R4) (k τ) (fun t ts _=>@Option.rec Nat (fun _=>R4) (ih ts τ k) (fun p=>acB τ p t (fun τ=>ih ts τ k)) p) as) pin
def ajl:∀(pin:List (Option Nat)) (as τ:List T) (k:List T→R4),inK pin as τ k=k (bv pin as τ)
 |[],as,τ,k=>by cases as<;>rfl
 |some p::r,[],τ,k=>rfl
 |none::r,[],τ,k=>rfl
 |some p::r,t::ts,τ,k=>by
  show acB τ p t (fun τ=>inK r ts τ k)=_
  rw[aga,ajl r];rfl
 |none::r,t::ts,τ,k=>by
  show inK r ts τ k=_
  rw[ajl r];rfl
def ap5 (n:Nat):(List T→R4)→R4:=@Nat.rec (fun _=>(List T→R4)→R4) (fun k=>k []) (fun _ ih k=>ih (fun l=>k (.nil::l))) n
def aki:∀(n:Nat) (k:List T→R4),ap5 n k=k (er n)
 |0,_=>rfl
 |n+1,k=>by show ap5 n (fun l=>k (.nil::l))=_;rw[aki n];rfl
def cxR (k1:St→R4)(c:Cx):R4:=@Cx.rec (fun _=>R4) U k1 (fun _ _=>U) k1 c
def aav (ck:mF)(fl:Nat)(c:FnK)(args:List T)(H:Hp)(S:List Nat)(k:K4):R4:=
 bK (ai args.length c.pin.length) U (ap5 c.nk (fun τ=>inK c.pin args τ (fun τ=>vW ck fl c.code ⟨τ,H,S,[],[]⟩ (cxR (fun s=>aJw c s k)))))
def ab0 {ck:mF}{cf:av}(hc:xG ck cf)(fl:Nat)(c:FnC)(args:List T)(H:Hp)(S:List Nat)(k:K4):aav ck fl (aF c) args H S k=jD (cy cf fl c args H S) k:=by
 unfold aav cy
 simp only[aF,aki,ajl,aeX hc]
 cases ai args.length c.pin.length with
 |false=>rfl
 |true=>
  simp only[if_true,bK]
  have fin:∀s:St,aJw (aF c) s k=jD (match dT s.dfs s.H s.S with
   |none=>U
   |some H1=>match fu H1 s.τ c.res with
    |none=>U
    |some l=>match mj l with|some y=>Z (y,H1,s.S,s.dfs++s.W)|none=>U) k:=by
   rintro⟨τ,H,S,W,dfs⟩
   show aoX dfs H S (fun H1=>rsK H1 τ c.res (fun l=>ajU l (fun y=>qf dfs W (fun W=>k y H1 S W))))=_
   rw[axv]
   dsimp only
   cases dT dfs H S with
   |none=>rfl
   |some H1=>
    dsimp only
    rw[ael]
    cases fu H1 τ c.res with
    |none=>rfl
    |some l=>
     dsimp only
     rw[au7]
     cases mj l with
     |none=>rfl
     |some y=>simp only[pK,jD]
  cases am cf fl c.code ⟨bv c.pin args (er c.nk),H,S,[],[]⟩with
  |none=>rfl
  |some x=>
   obtain⟨x,s⟩:=x
   cases x with
   |exit id=>rfl
   |normal=>exact fin s
   |ret=>exact fin s
def aoV (ck:mF)(fl:Nat)(c:FnK)(args:List T)(H:Hp)(S:List Nat)(k:K4):R4:=
 match jc H args with
 |some (as,bs)=>xu lyT (as.map fun v=>.t v.t1) (fun as=>aav ck fl c as [] [] (fun y H1 _ _=>match li H1 y with|some (rs,_)=>lyT (oE rs) (fun y=>mH (xQ bs S) (fun S=>k y H S []))|none=>U))
 |none=>U
def aD5 {ck:mF}{cf:av}(hc:xG ck cf)(fl:Nat)(c:FnC)(args:List T)(H:Hp)(S:List Nat)(k:K4):aoV ck fl (aF c) args H S k=jD (bC (bM cf fl c) args H S) k:=by
 unfold aoV bC o6 bM
 cases jc H args with
 |none=>rfl
 |some x=>
  obtain⟨as,bs⟩:=x
  simp only[mg cU,ab0 hc]
  cases cy cf fl c (as.map fun v=>.t v.t1) [] []with
  |none=>rfl
  |some x=>
   obtain⟨y,H1,S1,W1⟩:=x
   simp only[jD]
   cases li H1 y with
   |none=>rfl
   |some z=>
    obtain⟨rs,b2⟩:=z
    simp only[cU,gR,Option.map_some]
end
end Go.Mach
