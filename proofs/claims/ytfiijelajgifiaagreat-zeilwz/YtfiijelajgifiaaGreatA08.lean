/-
  Part 8 of the machine and of the contracts of functions of the program (packed).
-/
import Derived.Test.YtfiijelajgifiaaGreatA07
set_option linter.all false
set_option linter.defProp false
open Bool renaming false→aa,true→ab
open Int renaming ofNat→af,ofNat_eq_natCast→aT7
open List renaming getElem?_eq_some_iff→aTU,length_cons→aTV,length_append→aTW,getElem?_eq_getElem→aTX,mem_cons→aTZ,mem_cons_self→aT0,replicate→aT5,mem_cons_of_mem→aT8,length_nil→aUf,take_of_length_le→aUi,getElem_mem→aUl,getElem?_map→aUm,length_take→aUo,append_assoc→aUr
open Nat renaming blt→ah,beq→ai,log2→aj,ble→aTQ,blt_eq→aTR,le_refl→aTS,eq_of_beq_eq_true→aT1,mul_add→aT4,lt_or_ge→aT6,mod_eq_of_lt→aT9,mod_lt→aUb,eq_zero_or_pos→aUc,le_trans→aUd,zero_add→aUe,lt_of_le_of_lt→aUh,lt_of_lt_of_le→aUj,mul_assoc→aUk
open Option renaming some→Z,none→U,map_eq_some_iff→aUa
namespace Go.Mach
noncomputable section
open Go Go.RowKit Go.Flow
variable [Limb]
abbrev eX:=List V1→(List V1→R4)→R4
def qg (x:Option (List V1))(k:List V1→R4):R4:=match x with|some rs=>k rs|none=>U
inductive FeJ where
 |none
 |code (c:FnK)
 |nat (m:eX)
 |wnat (m:kU)
inductive FtJ where
 |z
 |n (l:FtJ) (k:Nat) (e:FeJ) (b:Option BdK) (r:FtJ)
def FtJ.fn (t:FtJ):Nat→FeJ:=@FtJ.rec (fun _=>Nat→FeJ) (fun _=>.none) (fun _ k e _ _ lf rf f=>@Bool.rec (fun _=>FeJ) (@Bool.rec (fun _=>FeJ) (lf f) e (ai f k)) (rf f) (aTQ (Nat.succ k) f)) t
def FtJ.bd:FtJ→Nat→Option BdK
 |.z,_=>Option.none
 |.n l k _ b r,f=>match ah f k with|true=>l.bd f|false=>match ai f k with|true=>b|false=>r.bd f
def agK (cs:List C):(List D→R4)→R4:=@List.rec C (fun _=>(List D→R4)→R4) (fun k=>k []) (fun c _ ih k=>ih fun ds=>k (.c c::ds)) cs
def asI:∀(cs:List C) (k:List D→R4),agK cs k=k (cs.map .c)
 |[],_=>rfl
 |c::r,k=>by show agK r (fun ds=>k (.c c::ds))=_;rw[asI r];rfl
def t1K (r:V1)(k:T1→R4):R4:=@V1.rec (fun _=>R4) (fun c=>k (.one (.c c))) (fun cs=>agK cs fun ds=>k (.agg ds)) r
def awA (r:V1)(k:T1→R4):t1K r k=k r.t1:=by
 cases r with
 |one c=>rfl
 |agg cs=>exact asI cs _
def arK (l:List V1):(List T1→R4)→R4:=@List.rec V1 (fun _=>(List T1→R4)→R4) (fun k=>k []) (fun r _ ih k=>t1K r fun t=>ih fun ts=>k (t::ts)) l
def an8:∀(l:List V1) (k:List T1→R4),arK l k=k (l.map V1.t1)
 |[],_=>rfl
 |r::l,k=>by show t1K r (fun t=>arK l fun ts=>k (t::ts))=_;rw[awA,an8 l];rfl
def aNW (l:List V1)(k:T→R4):R4:=@List.rec V1 (fun _=>R4) (k .nil) (fun r l' _=>@List.rec V1 (fun _=>R4) (t1K r fun t=>k (.t t)) (fun _ _ _=>arK l fun ts=>k (.tup ts)) l') l
def aHm (l:List V1)(k:T→R4):aNW l k=k (oE l):=by
 match l with
 |[]=>rfl
 |[r]=>show t1K r (fun t=>k (.t t))=_;rw[awA];rfl
 |r::s::l=>show arK (r::s::l) (fun ts=>k (.tup ts))=_;rw[an8];rfl
def aza (m:eX)(args:List T)(H:Hp)(S:List Nat)(k:K4):R4:=
 match jc H args with
 |some (as,bs)=>m as fun rs=>aNW rs fun y=>mH (xQ bs S) fun S=>k y H S []
 |none=>U
def FeR:FeJ→FnE→Prop
 |.none,.none=>True
 |.code c,.code d=>c=aF d
 |.nat m,.nat n=>∀as k,m as k=qg (n as) k
 |.wnat m,.wnat n=>m=n
 |_,_=>False
def aFI {m:eX}{n:List V1→Option (List V1)}(h:∀as k,m as k=qg (n as) k)(args:List T)(H:Hp)(S:List Nat)(k:K4):aza m args H S k=jD (bC n args H S) k:=by
 unfold aza bC o6
 cases jc H args with
 |none=>rfl
 |some x=>
  obtain⟨as,bs⟩:=x
  dsimp only
  rw[h]
  cases n as with
  |none=>rfl
  |some rs=>simp only[qg,aHm,gR,Option.map_some,jD]
def rS (t:FtJ)(fl:Nat):Nat→mF
 |0,_,_,_,_,_=>U
 |n+1,g,args,H,S,k=>
  match mV g with
  |some (f,ps)=>
   (match t.fn f with
    |.code c=>(match c.wm with|true=>mH (args++ps.map zx) (fun args=>aav (rS t fl n) fl c args H S k)|false=>(match ps with|[]=>aoV (rS t fl n) fl c args H S k|_=>U))
    |.nat m=>(match ps with|[]=>aza m args H S k|_=>U)
    |.wnat m=>arY m (args++ps.map zx) H S k
    |.none=>U)
  |none=>
   match g with
   |.t (.one (.yld b))=>aBM t.bd (rS t fl n) fl b args H S k
   |_=>U
def aiJ {t:FtJ}{tb:Tb}(h1:∀f,FeR (t.fn f) (tb.fn f))(h2:∀i,t.bd i=(tb.bd i).map bdK)(fl:Nat):∀n,xG (rS t fl n) (ao tb fl n)
 |0=>fun g args H S k=>rfl
 |n+1=>fun g args H S k=>by
  have ih:=aiJ h1 h2 fl n
  show _=jD (ao tb fl (n+1) g args H S) k
  simp only[rS,ao]
  cases mV g with
  |some q=>
   obtain⟨f,ps⟩:=q
   dsimp only
   have h:=h1 f
   generalize t.fn f=a at h
   generalize tb.fn f=b at h
   cases a with
   |none=>cases b<;>first|rfl|cases h
   |code c=>
    cases b with
    |code d=>
     cases (show c=aF d from h)
     show(match d.wm with|true=>mH (args++ps.map zx) (fun args=>aav (rS t fl n) fl (aF d) args H S k)|false=>(match ps with|[]=>aoV (rS t fl n) fl (aF d) args H S k|_=>U))=_
     dsimp only
     cases d.wm with
     |true=>simp only[gR,ab0 ih,if_true]
     |false=>
      cases ps with
      |nil=>simp only[aD5 ih,Bool.false_eq_true,if_false]
      |cons p ps=>rfl
    |none=>cases h
    |nat m=>cases h
    |wnat m=>cases h
   |nat m=>
    cases b with
    |nat d=>
     cases ps with
     |nil=>exact aFI h args H S k
     |cons p ps=>rfl
    |none=>cases h
    |code m=>cases h
    |wnat m=>cases h
   |wnat m=>
    cases b with
    |wnat d=>cases (show m=d from h);exact aBI m _ H S k
    |none=>cases h
    |code m=>cases h
    |nat m=>cases h
  |none=>
   dsimp only
   split
   ·rw[aHv h2 ih]
   ·rename_i hx
    split
    ·exact absurd rfl (hx _)
    ·rfl
def rP:FtJ→Ft→Prop
 |.z,.z=>True
 |.n l k e b r,.n l' k' e' b' r'=>k=k'∧FeR e e'∧b=b'.map bdK∧rP l l'∧rP r r'
 |_,_=>False
def ai6:∀{t:FtJ} {u:Ft},rP t u→∀f,FeR (t.fn f) (u.fn f)
 |.z,.z,_,f=>trivial
 |.n l k e b r,.n l' k' e' b' r',h,f=>by
  obtain⟨rfl,he,_,hl,hr⟩:=h
  show FeR (@Bool.rec (fun _=>FeJ) (@Bool.rec (fun _=>FeJ) (l.fn f) e (ai f k)) (r.fn f) (aTQ (Nat.succ k) f)) _
  simp only[Ft.fn]
  cases h1:aTQ (Nat.succ k) f with
  |true=>
   have h2:=Nat.le_of_ble_eq_true h1
   have h3:ah f k=aa:=by
    cases h4:ah f k with
    |false=>rfl
    |true=>rw[aTR]at h4;omega
   have h5:ai f k=aa:=by
    cases h4:ai f k with
    |false=>rfl
    |true=>have:=aT1 h4;omega
   rw[h3,h5]
   exact ai6 hr f
  |false=>
   have h2:¬k+1≤f:=fun h=>by rw[Nat.ble_eq_true_of_le h]at h1;cases h1
   cases h5:ai f k with
   |true=>
    have:=aT1 h5
    have h3:ah f k=aa:=by
     cases h4:ah f k with
     |false=>rfl
     |true=>rw[aTR]at h4;omega
    rw[h3]
    exact he
   |false=>
    have h6:f≠k:=fun h=>by subst h;rw[Nat.beq_refl]at h5;cases h5
    have h3:ah f k=ab:=by rw[aTR];omega
    rw[h3]
    exact ai6 hl f
 |.z,.n ..,h,_=>by cases h
 |.n ..,.z,h,_=>by cases h
def ai5:∀{t:FtJ} {u:Ft},rP t u→∀f,t.bd f=(u.bd f).map bdK
 |.z,.z,_,f=>rfl
 |.n l k e b r,.n l' k' e' b' r',h,f=>by
  obtain⟨rfl,_,hb,hl,hr⟩:=h
  simp only[FtJ.bd,Ft.bd]
  cases ah f k with
  |true=>exact ai5 hl f
  |false=>cases ai f k with
   |true=>exact hb
   |false=>exact ai5 hr f
 |.z,.n ..,h,_=>by cases h
 |.n ..,.z,h,_=>by cases h
def aA4 (t:FtJ)(fl n:Nat)(c:FnK)(as:List V1):R4:=
 aav (rS t fl n) fl c (as.map fun v=>.t v.t1) [] [] (fun y _ _ _=>Z (y,[],[],[]))
def aDW {t:FtJ}{u:Ft}(ht:rP t u){fl n:Nat}{c:FnC}{as:List V1}(h:aA4 t fl n (aF c) as=Z (yes,[],[],[])):bM (ao u.tb fl n) fl c as=Z aBK:=by
 have hc:=aiJ (t:=t) (tb:=u.tb) (ai6 ht) (ai5 ht) fl n
 unfold aA4 at h
 rw[ab0 hc]at h
 unfold bM
 cases he:cy (ao u.tb fl n) fl c (as.map fun v=>.t v.t1) [] []with
 |none=>rw[he]at h;cases h
 |some x=>
  obtain⟨y,H1,S1,W1⟩:=x
  rw[he]at h
  simp only[jD,Option.some.injEq,Prod.mk.injEq]at h
  obtain⟨rfl,_⟩:=h
  rfl
def bg {σ:Type}{body:St→Option (X × St)}(R:σ→St→Prop)(μ:σ→Nat)(Q:X→St→Prop)
  (h:∀s st,R s st→(∃s' st',body st=Z (.normal,st')∧R s' st'∧μ s'<μ s)∨(∃x st',body st=Z (x,st')∧x≠.normal∧Q x st')):
  ∀(fuel:Nat) (s:σ) (st:St),R s st→μ s<fuel→∃x st',aG body fuel st=Z (x,st')∧x≠.normal∧Q x st':=by
 intro fuel
 induction fuel with
 |zero=>intro s st _ hm;omega
 |succ fuel ih=>
  intro s st hR hm
  rcases h s st hR with⟨s',st',hb,hR',hlt⟩|⟨x,st',hb,hx,hQ⟩
  ·obtain⟨x,st'',h1,h2⟩:=ih s' st' hR' (by omega)
   exact⟨x,st'',by rw[aG,hb];exact h1,h2⟩
  ·refine⟨x,st',?_,hx,hQ⟩
   rw[aG,hb]
   cases x with
   |normal=>exact absurd rfl hx
   |exit id=>rfl
   |ret=>rfl
def bq {body:St→Option (X × St)}{id:Nat}(n:Nat)(I:Nat→St→Prop)(Q:St→Prop)
  (hs:∀i st,i<n→I i st→∃st',body st=Z (.normal,st')∧I (i+1) st')
  (he:∀st,I n st→∃st',body st=Z (.exit id,st')∧Q st')(fuel:Nat)(st:St)(h0:I 0 st)(hf:n<fuel):∃st',aG body fuel st=Z (.exit id,st')∧Q st':=by
 obtain⟨x,st',h1,_,h2,h3⟩:=bg (body:=body) (fun i st=>i≤n∧I i st) (fun i=>n-i) (fun x st=>x=.exit id∧Q st)
  (fun i st hI=>by
   rcases aT6 i n with h|h
   ·obtain⟨st',h1,h2⟩:=hs i st h hI.2
    exact .inl ⟨i+1,st',h1,⟨h,h2⟩,by show n-(i+1)<n-i;omega⟩
   ·have:i=n:=by have:=hI.1;omega
    subst this
    obtain⟨st',h1,h2⟩:=he st hI.2
    exact .inr ⟨_,st',h1,by simp,rfl,h2⟩) fuel 0 st ⟨Nat.zero_le _,h0⟩ (by show n-0<fuel;omega)
 subst h2
 exact⟨st',h1,h3⟩
def apt (n:Nat):(if n<4294967296 then af n else af (n%4294967296))=af (n%4294967296):=by
 split
 ·rename_i h;rw[aT9 h]
 ·rfl
def aOy (n:Nat):(if n<18446744073709551616 then af n else af (n%18446744073709551616))=af (n%18446744073709551616):=by
 split
 ·rename_i h;rw[aT9 h]
 ·rfl
def aBJ (a b:Nat):IntKind.wrap .u32 (af a-af b)=af ((a+(4294967296-b%4294967296))%4294967296):=by
 simp only[IntKind.wrap,IntKind.bits,IntKind.signed]
 have h1:(af a-af b)%(2 ^ 32:Nat)=(((a+(4294967296-b%4294967296))%4294967296:Nat):Int):=by
  have:((2 ^ 32:Nat):Int)=4294967296:=by decide
  rw[this]
  simp only[aT7]
  omega
 simp
 have h2:(af a-af b)%4294967296=(((a+(4294967296-b%4294967296))%4294967296:Nat):Int):=by
  simp only[aT7]
  omega
 simpa using h2
def w9 (a b:Nat):IntKind.wrap .u64 (af a-af b)=af ((a+(18446744073709551616-b%18446744073709551616))%18446744073709551616):=by
 simp only[IntKind.wrap,IntKind.bits,IntKind.signed]
 simp
 have h2:(af a-af b)%18446744073709551616=(((a+(18446744073709551616-b%18446744073709551616))%18446744073709551616:Nat):Int):=by
  simp only[aT7]
  omega
 simpa using h2
def alN (x y d:BitVec 32):(((~~~x &&& y) ||| (~~~(x ^^^ y) &&& d)) >>> 31).toNat=if x.msb=y.msb then d.msb.toNat else y.msb.toNat:=by
 have h:∀v:BitVec 32,(v >>> 31).toNat=v.msb.toNat:=by
  intro v
  rw[BitVec.toNat_ushiftRight,BitVec.msb_eq_decide,Nat.shiftRight_eq_div_pow]
  have:=v.isLt
  by_cases hv:2 ^ (32-1)≤v.toNat
  ·rw[decide_eq_true hv]
   show v.toNat/2147483648=1
   omega
  ·rw[decide_eq_false hv]
   show v.toNat/2147483648=0
   omega
 rw[h,BitVec.msb_or,BitVec.msb_and,BitVec.msb_and,BitVec.msb_not,BitVec.msb_not,BitVec.msb_xor]
 cases x.msb<;>cases y.msb<;>cases d.msb<;>rfl
abbrev fT (f:Nat):T:=.t (.one (.c (.v (.func (.func f) ⟨[]⟩ ⟨[]⟩))))
def val:List Nat→Nat
 |[]=>0
 |d::r=>d+4294967296*val r
def lims (l:List Nat):Prop:=∀d∈l,d<4294967296
def aJ (l:List Nat):List D:=l.map fun d=>.c (.v (.int .u32 (af d)))
abbrev aB (l:List Nat):C:=.sl l.length (uc l)
def alx:uc []=[]:=rfl
def abd (d:Nat)(l:List Nat):uc (d::l)=.v (.int .u32 (af d))::uc l:=rfl
def awW (l:List Nat):(uc l).length=l.length:=by simp[uc]
def aHq (l:List Nat)(i:Nat):(uc l).drop i=uc (l.drop i):=by simp[uc,List.map_drop]
def abe (l:List Nat)(i:Nat):(uc l).take i=uc (l.take i):=by simp[uc,List.map_take]
def aN3 (l:List Nat):(uc l).map D.c=aJ l:=by simp[uc,aJ]
def aHp:aJ []=[]:=rfl
def alv (d:Nat)(l:List Nat):aJ (d::l)=.c (.v (.int .u32 (af d)))::aJ l:=rfl
def h9 (l:List Nat):(aJ l).length=l.length:=by simp[aJ]
def acE (l:List Nat)(i:Nat):(aJ l).drop i=aJ (l.drop i):=by simp[aJ,List.map_drop]
def il (l:List Nat)(i:Nat):(aJ l).take i=aJ (l.take i):=by simp[aJ,List.map_take]
def mE (l m:List Nat):aJ l++aJ m=aJ (l++m):=by simp[aJ]
def aop (d:Nat):[D.c (.v (.int .u32 (af d)))]=aJ [d]:=rfl
def bY (l:List Nat)(o d:Nat)(h:o<l.length):bF (aJ l) o [.c (.v (.int .u32 (af d)))]=aJ (l.set o d):=by
 unfold bF
 rw[aop,il,mE,show o+(aJ [d]).length=o+1 from rfl,acE,mE,aUr]
 rw[List.set_eq_take_append_cons_drop,if_pos h]
 rfl
def ak7 (l m:List Nat):bF (aJ l) 0 (aJ m)=aJ (m++l.drop m.length):=by
 unfold bF
 rw[List.take_zero,List.nil_append,h9,acE,mE,aUe]
def aA {α:Type}{l:List α}{i:Nat}(h:i<l.length):l.drop i=l[i]::l.drop (i+1):=List.drop_eq_getElem_cons h
def sk (H:Hp)(n:Nat):∀l:List Nat,kg (fz H n) (aJ l)=Z (uc l,[])
 |[]=>rfl
 |d::l=>by
  have hd:fz H n (.c (.v (.int .u32 (af d))))=Z (.v (.int .u32 (af d)),[]):=by cases n<;>rfl
  rw[alv,kg,hd,sk H n l]
  rfl
def aK1 (n:Nat):ge (cW [.int .u32 0] n)=Z (aJ (aT5 n 0)):=by
 have h:∀n,ge (aT5 n (Value.int .u32 0))=Z (aJ (aT5 n 0)):=by
  intro n
  induction n with
  |zero=>rfl
  |succ n ih=>rw[List.replicate_succ,List.replicate_succ,ge,ih];rfl
 have e:cW [.int .u32 0] n=aT5 n (Value.int .u32 0):=by
  unfold cW
  apply List.ext_getElem
  ·simp
  ·intro i h1 h2
   simp[Nat.mod_one]
 rw[e,h]
def akq (n:Nat):ge (cW [.int .u32 (af 0)] n)=Z (aJ (aT5 n 0)):=aK1 n
def bk {α:Type}(E:List α)(x:α):(E++[x])[E.length]?=Z x:=by simp
def bx {α:Type}(E:List α)(x y:α):(E++[x]).set E.length y=E++[y]:=by simp
def aen (a b:D):bF [a] 0 [b]=[b]:=rfl
def ci (a b c d:D):bF [a,b] 0 [c,d]=[c,d]:=rfl
def kR (a b c d a' b' c' d':D):bF [a,b,c,d] 0 [a',b',c',d']=[a',b',c',d']:=rfl
def asT (b:Bool):jC (.v (.bool b))=.v (.bool b):=rfl
def asV (q:IntKind)(z:Int):jC (.v (.int q z))=.v (.int q z):=rfl
def aIP:jC (.v (.slice U 0 0))=.sl 0 []:=rfl
def asW (n:Nat)(cs:List C):jC (.sl n cs)=.sl n cs:=rfl
def aIN (l:List Nat):jC (.mag l)=.mag l:=rfl
def aIO (l:Pl):jC (.smag l)=.smag l:=rfl
def asU (n:Nat):jC (.big n)=.big n:=rfl
def aIQ (l:List Value):jC (.vec l)=.vec l:=rfl
def aC {P:Program}{k:Cls}{g:FuncId}{m N:List V1→Option (List V1)}(hm:ko P k g m)(h:∀al rs,N al=Z rs→m al=Z rs):ko P k g N:=
 ⟨hm.1,fun al rs hs=>hm.2 al rs (h al rs hs)⟩
def Imp (a b:V1):Prop:=∀(k:Cls) (F:Nat→Prop) (w:World) (u:Value),RV k F w a u→RV k F w b u
def Imp.refl (a:V1):Imp a a:=fun _ _ _ _ h=>h
inductive Imps:List V1→List V1→Prop
 |nil:Imps [] []
 |cons {a b:V1} {as bs:List V1} (h:Imp a b) (hs:Imps as bs):Imps (a::as) (b::bs)
def Imps.refl:∀l,Imps l l
 |[]=>.nil
 |a::l=>.cons (.refl a) (Imps.refl l)
def fh (l m:List Nat):val (l++m)=val l+4294967296 ^ l.length*val m:=by
 induction l with
 |nil=>simp[val]
 |cons d l ih=>simp only[List.cons_append,val,ih,aTV,Nat.pow_succ];rw[aT4,Nat.mul_comm (4294967296 ^ l.length) 4294967296,aUk];omega
def ke (d:Nat):val [d]=d:=by simp[val]
def aaa {l:List Nat}{i d:Nat}(h:l[i]?=Z d):l.take (i+1)=l.take i++[d]:=by
 rw[List.take_add_one,h];rfl
def bG {l:List Nat}{i d:Nat}(h:l[i]?=Z d):val (l.take (i+1))=val (l.take i)+4294967296 ^ i*d:=by
 have hi:=(aTU.1 h).1
 rw[aaa h,fh,ke,aUo,Nat.min_eq_left (by omega)]
def lims.take {l:List Nat}(h:lims l)(i:Nat):lims (l.take i):=fun d hd=>h d (List.mem_of_mem_take hd)
def lims.drop {l:List Nat}(h:lims l)(i:Nat):lims (l.drop i):=fun d hd=>h d (List.mem_of_mem_drop hd)
def lims.get {l:List Nat}(h:lims l){i d:Nat}(hd:l[i]?=Z d):d<4294967296:=h d (List.mem_of_getElem? hd)
def lims.set {l:List Nat}(h:lims l){i d:Nat}(hd:d<4294967296):lims (l.set i d):=fun x hx=>by
 rcases List.mem_or_eq_of_mem_set hx with hx|rfl
 ·exact h x hx
 ·exact hd
def lims.append {l m:List Nat}(h:lims l)(h':lims m):lims (l++m):=fun d hd=>by
 rcases List.mem_append.1 hd with hd|hd
 ·exact h d hd
 ·exact h' d hd
def gQ (n:Nat):lims (aT5 n 0):=fun d hd=>by rw[List.eq_of_mem_replicate hd];omega
def acH (n:Nat):val (aT5 n 0)=0:=by
 induction n with
 |zero=>rfl
 |succ n ih=>rw[List.replicate_succ,val,ih]
def bL {l:List Nat}(h:lims l):val l<4294967296 ^ l.length:=by
 induction l with
 |nil=>simp[val]
 |cons d l ih=>
  have h1:=ih (fun x hx=>h x (aT8 _ hx))
  have h2:=h d aT0
  rw[val,aTV,Nat.pow_succ]
  omega
def take_set {l:List Nat}{i d:Nat}:(l.set i d).take i=l.take i:=by
 rw[List.take_set_of_le (aTS _)]
def aaG {l:List Nat}{i d:Nat}(h:i<l.length):(l.set i d)[i]?=Z d:=by simp[h]
def pX {l:List Nat}{i d:Nat}(h:i<l.length):val ((l.set i d).take (i+1))=val (l.take i)+4294967296 ^ i*d:=by
 rw[bG (aaG h),take_set]
def aU:Nat→Nat→List Nat
 |0,_=>[]
 |k+1,n=>n%4294967296::aU k (n/4294967296)
def aQ:∀(k n:Nat),(aU k n).length=k
 |0,_=>rfl
 |k+1,n=>by rw[aU,aTV,aQ k]
def ft:∀(k n:Nat),lims (aU k n)
 |0,_=>fun d hd=>by cases hd
 |k+1,n=>fun d hd=>by
  rcases aTZ.1 hd with rfl|hd
  ·exact aUb _ (by omega)
  ·exact ft k _ d hd
def go:∀(k n:Nat),n<4294967296 ^ k→val (aU k n)=n
 |0,n,h=>by simp at h;subst h;rfl
 |k+1,n,h=>by
  have:n/4294967296<4294967296 ^ k:=by
   rw[Nat.pow_succ]at h
   exact Nat.div_lt_of_lt_mul (by rw[Nat.mul_comm];exact h)
  rw[aU,val,go k _ this]
  omega
def aap:∀{l:List Nat},lims l→l=aU l.length (val l)
 |[],_=>rfl
 |d::l,h=>by
  have h1:=h d aT0
  have h2:=aap (l:=l) (fun x hx=>h x (aT8 _ hx))
  rw[aTV,val,aU]
  have e1:(d+4294967296*val l)%4294967296=d:=by omega
  have e2:(d+4294967296*val l)/4294967296=val l:=by omega
  rw[e1,e2,← h2]
def lz {l:List Nat}{k n:Nat}(h:lims l)(hk:l.length=k)(hn:val l=n):l=aU k n:=by
 rw[← hk,← hn];exact aap h
def gn (l:List Nat):Prop:=∀d,l.getLast?=Z d→d≠0
def r8:∀(f n:Nat),n≤f→lims (vS f n)∧val (vS f n)=n∧gn (vS f n)
 |0,n,h=>by
  have:n=0:=by omega
  subst this
  exact⟨fun d hd=>(List.not_mem_nil hd).elim,rfl,fun d hd=>by cases hd⟩
 |f+1,0,_=>⟨fun d hd=>(List.not_mem_nil hd).elim,rfl,fun d hd=>by cases hd⟩
 |f+1,m+1,h=>by
  have hlt:(m+1)/4294967296≤f:=by omega
  obtain⟨h1,h2,h3⟩:=r8 f ((m+1)/4294967296) hlt
  have e:vS (f+1) (m+1)=(m+1)%4294967296::vS f ((m+1)/4294967296):=rfl
  rw[e]
  refine⟨fun d hd=>?_,?_,fun d hd=>?_⟩
  ·rcases aTZ.1 hd with rfl|hd
   ·exact aUb _ (by omega)
   ·exact h1 d hd
  ·rw[val,h2];omega
  ·cases hr:vS f ((m+1)/4294967296)with
   |nil=>
    rw[hr]at hd h2
    simp only[List.getLast?_singleton,Option.some.injEq]at hd
    simp[val]at h2
    omega
   |cons x r=>
    rw[hr,List.getLast?_cons_cons]at hd
    exact h3 d (by rw[hr];exact hd)
def aI (n:Nat):lims (ax n):=(r8 n n (aTS _)).1
def aD (n:Nat):val (ax n)=n:=(r8 n n (aTS _)).2.1
def cn (n:Nat):gn (ax n):=(r8 n n (aTS _)).2.2
def jW {l:List Nat}(h:gn l):l=[]∨4294967296 ^ (l.length-1)≤val l:=by
 cases hl:l.getLast? with
 |none=>exact .inl (List.getLast?_eq_none_iff.1 hl)
 |some d=>
  obtain⟨r,rfl⟩:=List.getLast?_eq_some_iff.1 hl
  right
  have:=h d hl
  rw[fh,ke]
  simp only[aTW,aTV,aUf,Nat.add_sub_cancel,aUe]
  have:4294967296 ^ r.length*1≤4294967296 ^ r.length*d:=Nat.mul_le_mul_left _ (by omega)
  omega
def aF2 {a b n:Nat}(h1:4294967296 ^ (a-1)≤n)(h2:n<4294967296 ^ a)(h3:4294967296 ^ (b-1)≤n)(h4:n<4294967296 ^ b)(ha:0<a)(hb:0<b):a=b:=by
 have h5:4294967296 ^ (a-1)<4294967296 ^ b:=by omega
 have h6:4294967296 ^ (b-1)<4294967296 ^ a:=by omega
 have:=(Nat.pow_lt_pow_iff_right (a:=4294967296) (by omega)).1 h5
 have:=(Nat.pow_lt_pow_iff_right (a:=4294967296) (by omega)).1 h6
 omega
def tV {l:List Nat}(h:lims l)(hc:gn l):ax (val l)=l:=by
 have e:(ax (val l)).length=l.length:=by
  have a1:=bL h
  have a2:=bL (aI (val l))
  rw[aD]at a2
  rcases jW hc with rfl|h1
  ·rfl
  ·rcases jW (cn (val l))with h2|h2
   ·exfalso
    have:=aD (val l)
    rw[h2]at this
    have hp:0<4294967296 ^ (l.length-1):=Nat.pow_pos (by omega)
    simp[val]at this
    omega
   ·rw[aD]at h2
    have p1:0<(ax (val l)).length:=by
     rcases aUc (ax (val l)).length with h0|h0
     ·rw[h0]at a2;simp at a2;have hp:0<4294967296 ^ (l.length-1):=Nat.pow_pos (by omega);omega
     ·exact h0
    have p2:0<l.length:=by
     rcases aUc l.length with h0|h0
     ·rw[h0]at a1;simp at a1
      have hp:0<4294967296 ^ ((ax (val l)).length-1):=Nat.pow_pos (by omega)
      omega
     ·exact h0
    exact aF2 h2 a2 h1 a1 p1 p2
 rw[aap (aI (val l)),aD,e,← aap h]
def qn {n:Nat}:ax n=[]↔n=0:=by
 constructor
 ·intro h;have:=aD n;rw[h]at this;simpa [val]using this.symm
 ·rintro rfl;rfl
def cL {n:Nat}(h:0<n):0<(ax n).length:=by
 rcases aUc (ax n).length with h0|h0
 ·have:=qn.1 (List.eq_nil_of_length_eq_zero h0);omega
 ·exact h0
def jq {m n:Nat}(h:m≤n):(ax m).length≤(ax n).length:=by
 rcases aUc m with rfl|hm
 ·exact Nat.zero_le _
 ·have a1:4294967296 ^ ((ax m).length-1)≤m:=by
   rcases jW (cn m)with h1|h1
   ·have:=qn.1 h1;omega
   ·rw[aD]at h1;exact h1
  have a2:=bL (aI n)
  rw[aD]at a2
  have:=(Nat.pow_lt_pow_iff_right (a:=4294967296) (by omega)).1 (aUh a1 (aUh h a2))
  omega
def ala (k n:Nat):aB (aU k n)=.sl k (uc (aU k n)):=by unfold aB;rw[aQ]
def awQ (k n:Nat):(aU k n).take k=aU k n:=aUi (by rw[aQ];exact aTS _)
def ucI:List C→Option (List Nat)
 |[]=>Z []
 |.v (.int .u32 (.ofNat d))::r=>match ah d 4294967296,ucI r with|true,Z l=>Z (d::l)|_,_=>U
 |_::_=>U
def awU:∀{cs:List C} {l:List Nat},ucI cs=Z l→cs=uc l∧lims l
 |[],l,h=>by cases h;exact⟨rfl,fun d hd=>by cases hd⟩
 |c::cs,l,h=>by
  unfold ucI at h
  split at h
  ·rename_i e;cases e
  ·rename_i d r e
   cases e
   split at h
   ·rename_i l' hd hl
    cases h
    obtain⟨rfl,h2⟩:=awU hl
    exact⟨rfl,fun x hx=>by
     rcases aTZ.1 hx with rfl|hx
     ·simpa using hd
     ·exact h2 x hx⟩
   ·cases h
  ·cases h
def awV:∀{l:List Nat},lims l→ucI (uc l)=Z l
 |[],_=>rfl
 |d::l,h=>by
  have h1:ah d 4294967296=ab:=by simpa using h d aT0
  rw[abd]
  show(match ah d 4294967296,ucI (uc l)with|true,Z l=>Z (d::l)|_,_=>U)=_
  rw[h1,awV (fun x hx=>h x (aT8 _ hx))]
def wj:V1→Option (List Nat)
 |.one (.sl n cs)=>match ucI cs with|some l=>if n=l.length then Z l else U|none=>U
 |_=>U
def uQ {v:V1}{l:List Nat}(h:wj v=Z l):v=.one (aB l)∧lims l:=by
 unfold wj at h
 split at h
 ·split at h
  ·rename_i hu
   split at h
   ·rename_i hn
    cases h
    obtain⟨rfl,h2⟩:=awU hu
    exact⟨by rw[hn],h2⟩
   ·cases h
  ·cases h
 ·cases h
def yR {l:List Nat}(h:lims l):wj (.one (aB l))=Z l:=by
 show(match ucI (uc l)with|some l'=>if l.length=l'.length then Z l' else U|none=>U)=_
 rw[awV h]
 simp
def un1 (f:List Nat→Option (List V1)):List V1→Option (List V1)
 |[x]=>match wj x with|some a=>f a|none=>U
 |_=>U
def un2 (f:List Nat→List Nat→Option (List V1)):List V1→Option (List V1)
 |[x,y]=>match wj x,wj y with|some a,Z b=>f a b|_,_=>U
 |_=>U
def ah3 {f:List Nat→List Nat→Option (List V1)}{a b:List Nat}(ha:lims a)(hb:lims b):un2 f [.one (aB a),.one (aB b)]=f a b:=by simp only[un2,yR ha,yR hb]
def aew {f:List Nat→List Nat→Option (List V1)}{al rs:List V1}(h:un2 f al=Z rs):∃a b,al=[.one (aB a),.one (aB b)]∧lims a∧lims b∧f a b=Z rs:=by
 unfold un2 at h
 split at h
 ·split at h
  ·rename_i a b hx hy
   obtain⟨rfl,h2⟩:=uQ hx
   obtain⟨rfl,h3⟩:=uQ hy
   exact⟨a,b,rfl,h2,h3,h⟩
  ·cases h
 ·cases h
def ImpC (c c':C):Prop:=∀(k:Cls) (F:Nat→Prop) (w:World) (u:Value),RC k F w c u→RC k F w c' u
def ImpC.refl (c:C):ImpC c c:=fun _ _ _ _ h=>h
inductive ImpCs:List C→List C→Prop
 |nil:ImpCs [] []
 |cons {a b:C} {as bs:List C} (h:ImpC a b) (hs:ImpCs as bs):ImpCs (a::as) (b::bs)
def ImpCs.refl:∀l,ImpCs l l
 |[]=>.nil
 |a::l=>.cons (.refl a) (ImpCs.refl l)
def ImpCs.get {as bs:List C}(h:ImpCs as bs):as.length=bs.length∧∀(j:Nat) b,bs[j]?=Z b→∃a,as[j]?=Z a∧ImpC a b:=by
 induction h with
 |nil=>exact⟨rfl,fun j b hj=>by simp at hj⟩
 |cons h hs ih=>
  refine⟨by simp[ih.1],fun j b hj=>?_⟩
  cases j with
  |zero=>simp at hj;subst hj;exact⟨_,rfl,h⟩
  |succ j=>simpa using ih.2 j b (by simpa using hj)
def mY {c c':C}(h:ImpC c c'):Imp (.one c) (.one c'):=fun k F w u hu=>h k F w u hu
def j3 {cs cs':List C}(h:ImpCs cs cs'):Imp (.agg cs) (.agg cs'):=fun k F w u hu=>by
 obtain⟨vs,rfl,hs,hr⟩:=hu
 obtain⟨h1,h2⟩:=h.get
 refine⟨vs,rfl,by simpa [h1]using hs,fun j d hj=>?_⟩
 rw[aUm,aUa]at hj
 obtain⟨c,hc,rfl⟩:=hj
 obtain⟨a,ha,hi⟩:=h2 j c hc
 obtain⟨x,hx,hd⟩:=hr j (.c a) (by rw[aUm,ha];rfl)
 exact⟨x,hx,hi k F w x hd⟩
def j4 (n:Nat):ImpC (.big n) (aB (ax n)):=fun k F w u hu=>by
 obtain⟨A,c,rfl,h,_⟩:=asN hu
 exact h
def qA (n:Nat):ImpC (aB (ax n)) (.big n):=fun k F w u hu=>by
 rcases aUc n with rfl|hn
 ·have h:RC k F w (.sl 0 []) u:=hu
  cases h with
  |nil A c h=>exact .big0 A c h
  |sl _ _ b o cap f hn hF hc hr=>exact .big0 _ cap (fun h=>by cases h)
 ·obtain⟨d,r,hd⟩:=abT hn
  have hne:uc (ax n)≠[]:=by rw[hd];intro h;cases h
  generalize hc:aB (ax n)=c at hu
  cases hu with
  |nil A c h=>rw[aB,hd]at hc;cases hc
  |sl m cs b o cap f hm hF hcell hr=>
   simp only[C.sl.injEq]at hc
   obtain⟨rfl,rfl⟩:=hc
   refine .big1 n b o cap hn hm (hF hne) fun j d hj=>?_
   have hj':(uc (ax n))[j]?=Z (.v (.int .u32 (af d))):=by unfold uc;rw[aUm,hj];rfl
   have h1:=hcell j _ hj'
   have h2:=hr j _ hj'
   generalize f j=x at h1 h2
   cases h2
   exact h1
  |_=>cases hc
def Imps.get {as bs:List V1}(h:Imps as bs):as.length=bs.length∧∀(j:Nat) b,bs[j]?=Z b→∃a,as[j]?=Z a∧Imp a b:=by
 induction h with
 |nil=>exact⟨rfl,fun j b hj=>by simp at hj⟩
 |cons h hs ih=>
  refine⟨by simp[ih.1],fun j b hj=>?_⟩
  cases j with
  |zero=>simp at hj;subst hj;exact⟨_,rfl,h⟩
  |succ j=>simpa using ih.2 j b (by simpa using hj)
def aHn {rs rs':List V1}(h:Imps rs rs'){k:Cls}{F:Nat→Prop}{w:World}{u:Value}(hr:RT k F φ0 w (oE rs) u):RT k F φ0 w (oE rs') u:=by
 cases h with
 |nil=>exact hr
 |cons h hs=>
  cases hs with
  |nil=>exact h k F w u hr
  |cons h2 hs2=>
   have hall:Imps (_::_::_) (_::_::_):=.cons h (.cons h2 hs2)
   obtain⟨g1,g2⟩:=hall.get
   obtain⟨vs,rfl,hsz,hv⟩:=hr
   refine⟨vs,rfl,by rw[hsz,List.length_map,List.length_map,g1],fun j d hj=>?_⟩
   rw[aUm,aUa]at hj
   obtain⟨b,hb,rfl⟩:=hj
   obtain⟨a,ha,hi⟩:=g2 j b hb
   obtain⟨x,hx,hd⟩:=hv j a.t1 (by rw[aUm,ha];rfl)
   exact⟨x,hx,hi k F w x hd⟩
def bZ {P:Program}{k:Cls}{g:FuncId}{m N:List V1→Option (List V1)}(hm:ko P k g m)
  (h:∀al rs,N al=Z rs→∃al' rs',Imps al al'∧m al'=Z rs'∧Imps rs' rs):ko P k g N:=by
 refine axA hm fun as rs hN F w us hr=>?_
 obtain⟨al',rs',h1,h2,h3⟩:=h as rs hN
 obtain⟨g1,g2⟩:=h1.get
 refine⟨al',rs',h2,⟨by rw[hr.1,g1],fun j a hj=>?_⟩,fun w' u hu=>aHn h3 hu⟩
 obtain⟨b,hb,hi⟩:=g2 j a hj
 obtain⟨v,hv,hd⟩:=hr.2 j b hb
 exact⟨v,hv,hi k F w v hd⟩
abbrev CA (cf:av)(n:Nat)(N:List V1→Option (List V1)):Prop:=∀al H S,cf (fT n) al H S=bC N al H S
def aq {a b:Prop}(h:a)(g:b):a∧b:=⟨h,g⟩
def rsA:=(aq (aq (aq (aq (aq (aq (aq (aq @aTV.{0} @aUf.{0}) (aq @List.map_cons.{0,0} @List.map_nil.{0,0})) (aq (aq @List.take_succ_cons.{0} @List.take_zero.{0}) (aq @List.drop_succ_cons.{0} @List.drop_zero.{0}))) (aq (aq (aq @List.set_cons_zero.{0} @List.set_cons_succ.{0}) (aq @List.getElem?_cons_zero.{0} @List.getElem?_cons_succ.{0})) (aq (aq @List.getElem?_nil.{0} @List.cons_append.{0}) (aq @List.nil_append.{0} (aq @List.append_nil.{0} @Option.map_some.{0,0}))))) (aq (aq (aq (aq @Option.map_none.{0,0} @Option.bind_some.{0,0}) (aq @Option.bind_none.{0,0} @Nat.blt.eq_def)) (aq (aq @Nat.ble_eq @and_self) (aq @and_true @true_and))) (aq (aq (aq @List.elem_nil.{0} @Bool.false_eq_true) (aq @aO0 @aOZ)) (aq (aq @aOY @aOX) (aq @akp (aq @aKZ @zl)))))) (aq (aq (aq (aq (aq @decide_true @decide_false) (aq @Nat.mul_one @Nat.one_mul)) (aq (aq @Nat.add_zero @aUe) (aq @aTS @not_true_eq_false))) (aq (aq (aq @not_false_eq_true @Bool.not_true) (aq @Bool.not_false @bne_self_eq_false.{0})) (aq (aq @beq_self_eq_true.{0} @Bool.and_self) (aq @Bool.and_true (aq @Bool.true_and @Bool.and_false))))) (aq (aq (aq (aq @Bool.false_and @Go.IntKind.bits.eq_def) (aq @Nat.lt_irrefl @aeY.eq_def)) (aq (aq @fu.eq_1 @fu.eq_2) (aq @fu.eq_3 (aq @fu.eq_4 @mj.eq_def)))) (aq (aq (aq @ir.eq_1 @ir.eq_2) (aq @ir.eq_3 @dT.eq_1)) (aq (aq @dT.eq_2 @li.eq_def) (aq @oS.eq_def (aq @jc.eq_1 @jc.eq_2))))))) (aq (aq (aq (aq (aq (aq @fz.eq_1 @fz.eq_2) (aq @fz.eq_3 @fz.eq_4)) (aq (aq @kg.eq_1 @kg.eq_2) (aq @asT @asV))) (aq (aq (aq @aIP @asW) (aq @aIN @aIO)) (aq (aq @asU @aIQ) (aq @nu.eq_def (aq @mV.eq_def @bC.eq_def))))) (aq (aq (aq (aq @o6.eq_def @xQ.eq_def) (aq @zx.eq_def @oE.eq_def)) (aq (aq @ns.eq_def @vX.eq_def) (aq @uh.eq_def (aq @aeW.eq_def @iM.eq_def)))) (aq (aq (aq @j1.eq_def @fZ.eq_def) (aq @nR.eq_def @ch.eq_def)) (aq (aq @aEY @pf) (aq @auG (aq @aKk @bM.eq_def)))))) (aq (aq (aq (aq (aq @V1.t1.eq_def @cy.eq_def) (aq @am.eq_1 @am.eq_2)) (aq (aq @am.eq_3 @am.eq_4) (aq @am.eq_5 @am.eq_6))) (aq (aq (aq @am.eq_7 @am.eq_8) (aq @am.eq_9 @am.eq_10)) (aq (aq @Ft.tb.eq_def @Ft.fn.eq_1) (aq @Ft.fn.eq_2 (aq @ao.eq_1 @ao.eq_2))))) (aq (aq (aq (aq @ao.eq_3 @bv.eq_1) (aq @bv.eq_2 @bv.eq_3)) (aq (aq @er.eq_1 @er.eq_2) (aq @dl.eq_1 (aq @dl.eq_2 @dl.eq_3)))) (aq (aq (aq @ja.eq_1 @ja.eq_2) (aq @hZ.eq_def @ia.eq_def)) (aq (aq @kd.eq_def @sc.eq_def) (aq @eY.eq_def (aq @bD.eq_def @ce.eq_1)))))))) (aq (aq (aq (aq (aq (aq (aq @ce.eq_2 @ce.eq_3) (aq @gO.eq_def @z4.eq_def)) (aq (aq @rr.eq_1 @rr.eq_2) (aq @aax.eq_def @zn.eq_def))) (aq (aq (aq @wi.eq_def @lW.eq_def) (aq @iu.eq_def @eJ.eq_def)) (aq (aq @aea.eq_def @sd.eq_def) (aq @apK (aq @iY.eq_def @kJ.eq_def))))) (aq (aq (aq (aq @ow.eq_def @mT.eq_def) (aq @kf.eq_def @bO.eq_def)) (aq (aq @acI.eq_def @pv.eq_def) (aq @asL @asM))) (aq (aq (aq @aIC @aIE) (aq @aIF @aIx)) (aq (aq @aID @aIB) (aq @aIA (aq @aIz @aIy)))))) (aq (aq (aq (aq (aq @aDZ @aIG) (aq @List.filter_cons.{0} @List.filter_nil.{0})) (aq (aq @List.elem_cons.{0} @vg) (aq @aJM @Option.isSome_some.{0}))) (aq (aq (aq @Option.isSome_none.{0} @aay.eq_def) (aq @aau.eq_def @ug.eq_def)) (aq (aq @qG.eq_def @jB.eq_def) (aq @tZ.eq_def (aq @tO.eq_def @mK.eq_1))))) (aq (aq (aq (aq @mK.eq_2 @mK.eq_3) (aq @List.isEmpty_cons.{0} @List.isEmpty_nil.{0})) (aq (aq @false_and @and_false) (aq @Nat.not_lt_zero (aq @avj @aKQ)))) (aq (aq (aq @aON @aOM) (aq @aOL @aCZ)) (aq (aq @mo.eq_def @wA.eq_1) (aq @wA.eq_2 (aq @wA.eq_3 @List.any_nil.{0}))))))) (aq (aq (aq (aq (aq (aq @List.any_cons.{0} @Bool.false_or) (aq @Bool.or_false @Bool.or_true)) (aq (aq @Bool.true_or @Bool.or_self) (aq @Nat.min_def @Nat.sub_zero))) (aq (aq (aq @Nat.zero_le @Nat.sub_self) (aq @aD9 @aws)) (aq (aq @aME @aRz) (aq @aRA (aq @aR3 @aR4))))) (aq (aq (aq (aq @aR2 @aR5) (aq @agh @alG)) (aq (aq @np @List.not_mem_nil.{0}) (aq @aTZ.{0} (aq @or_false @false_or)))) (aq (aq (aq @ny.eq_def @ge.eq_1) (aq @ge.eq_2 @wC.eq_def)) (aq (aq @isCell.eq_def @aSv) (aq @aSw (aq @aSx @aSy)))))) (aq (aq (aq (aq (aq @qr.eq_def @ui.eq_def) (aq @fN.eq_def @aat.eq_def)) (aq (aq @lY.eq_1 @lY.eq_2) (aq @qQ.eq_def @km.eq_1))) (aq (aq (aq @km.eq_2 @ar.eq_def) (aq @alx @abd)) (aq (aq @awW @aHq) (aq @aN3 (aq @h9 @acE))))) (aq (aq (aq (aq @alv @aHp) (aq @aTW.{0} @List.length_replicate.{0})) (aq (aq @List.length_set.{0} @Option.getD_some.{0}) (aq @ite_self.{1} (aq @apt @aOy)))) (aq (aq (aq @awQ @ala) (aq @aQ @akq)) (aq (aq @sk @il) (aq @aen (aq @ci @kR)))))))))
def rsB:=@aIw
def rsC:=@kV.eq_def
def rsG:=@rN
def xD:=aq rsA (aq rsB (aq rsC rsG))
def rsQ:=@bJ.eq_def
def az:=aq xD rsQ
structure Kn (T V P top u2 vt v2:Nat):Prop where
 v1:(vt*4294967296+v2)*P≤V
 v3:V<(vt*4294967296+v2+1)*P
 t1:(top*4294967296+u2)*P≤T
 t3:T<(top*4294967296+u2+1)*P
 hv:2147483648≤vt
 hv':vt<4294967296
 h2:v2<4294967296
 hu:u2<4294967296
 tv:T<V*4294967296
section
variable {T V P top u2 vt v2:Nat}
def Kn.pos (h:Kn T V P top u2 vt v2):0<V:=by
 rcases aUc V with h0|h0
 ·have:=h.tv;rw[h0]at this;omega
 ·exact h0
def Kn.top_lt (h:Kn T V P top u2 vt v2):top≤vt*4294967296+v2:=by
 have h1:(top*4294967296+u2)*P<((vt*4294967296+v2+1)*4294967296)*P:=by
  refine aUh h.t1 (Nat.lt_trans h.tv ?_)
  rw[Nat.mul_right_comm]
  exact Nat.mul_lt_mul_of_pos_right h.v3 (by omega)
 have h2:=Nat.lt_of_mul_lt_mul_right h1
 omega
def Kn.init (h:Kn T V P top u2 vt v2):T/V≤top/vt:=by
 have hv:=h.hv
 rw[Nat.le_div_iff_mul_le (by omega)]
 have h1:(T/V*(vt*4294967296+v2))*P<(top*4294967296+u2+1)*P:=by
  refine aUh ?_ h.t3
  rw[aUk]
  exact aUd (Nat.mul_le_mul_left _ h.v1) (Nat.div_mul_le_self T V)
 have h2:=Nat.lt_of_mul_lt_mul_right h1
 rw[aT4,← aUk]at h2
 have h3:=h.hu
 omega
def Kn.lt (h:Kn T V P top u2 vt v2):T/V<4294967296:=by
 rw[Nat.div_lt_iff_lt_mul h.pos,Nat.mul_comm]
 exact h.tv
def Kn.dec (h:Kn T V P top u2 vt v2){g r:Nat}(hg:g*vt+r=top)(hq:T/V≤g)(hc:4294967295<g∨r*4294967296+u2<g*v2):0<g∧T/V≤g-1:=by
 have hlt:=h.lt
 have hp:0<g:=by
  rcases aUc g with rfl|hp
  ·rcases hc with hc|hc<;>simp at hc
  ·exact hp
 refine⟨hp,?_⟩
 rcases hc with hc|hc
 ·omega
 ·rcases aT6 (T/V) g with h1|h1
  ·omega
  ·exfalso
   have h2:g*V≤T:=aUd (Nat.mul_le_mul_right _ h1) (Nat.div_mul_le_self T V)
   have h3:(g*(vt*4294967296+v2))*P≤T:=by
    rw[aUk]
    exact aUd (Nat.mul_le_mul_left _ h.v1) h2
   have h4:=Nat.lt_of_mul_lt_mul_right (aUh h3 h.t3)
   rw[aT4,← aUk]at h4
   omega
def Kn.out (h:Kn T V P top u2 vt v2){g r:Nat}(hg:g*vt+r=top)(h1:g≤4294967295)(h2:g*v2≤r*4294967296+u2):g≤T/V+1:=by
 have h3:g*(vt*4294967296+v2)≤top*4294967296+u2:=by
  rw[aT4,← aUk];omega
 have h4:g*V≤T+g*P:=by
  refine aUd (Nat.mul_le_mul_left _ (Nat.le_of_lt h.v3)) ?_
  rw[← aUk,aT4,Nat.mul_one,Nat.add_mul]
  exact Nat.add_le_add_right (aUd (Nat.mul_le_mul_right _ h3) h.t1) _
 have h5:g*P≤V:=by
  refine aUd (Nat.mul_le_mul_right P ?_) h.v1
  have:=h.hv
  omega
 rcases aUc g with rfl|hp
 ·exact Nat.zero_le _
 ·have h6:(g-1)*V≤T:=by
   obtain⟨m,rfl⟩:∃m,g=m+1:=⟨g-1,by omega⟩
   rw[Nat.add_mul,Nat.one_mul]at h4
   simp only[Nat.add_sub_cancel]
   omega
  have h7:=(Nat.le_div_iff_mul_le h.pos).2 h6
  omega
def Kn.small (h:Kn T V P top u2 vt v2):top/vt≤4294967297:=by
 have h1:=h.top_lt
 have hv:=h.hv
 have h2:=h.h2
 have:top/vt<4294967298:=by
  rw[Nat.div_lt_iff_lt_mul (by omega)]
  omega
 omega
end
def oG {l:List Nat}{i:Nat}(h:i<l.length):val (l.drop i)=l[i]+4294967296*val (l.drop (i+1)):=by
 rw[List.drop_eq_getElem_cons h,val]
def ali {u lo b:Nat}(h1:u<4294967296)(h2:lo<4294967296)(h3:b<2):
  ((u+(18446744073709551616-lo%18446744073709551616))%18446744073709551616+(18446744073709551616-b%18446744073709551616))%18446744073709551616%4294967296=(u+4294967296-lo-b)%4294967296∧
  ((u+(18446744073709551616-lo%18446744073709551616))%18446744073709551616+(18446744073709551616-b%18446744073709551616))%18446744073709551616/9223372036854775808=(if u<lo+b then 1 else 0)∧
  (u+4294967296-lo-b)%4294967296+lo+b=u+4294967296*(if u<lo+b then 1 else 0):=by
 refine⟨by omega,?_,?_⟩<;>split<;>omega
def jX {l:List Nat}{i:Nat}(h:i≤l.length):val l=val (l.take i)+4294967296 ^ i*val (l.drop i):=by
 conv=>lhs;rw[← List.take_append_drop i l]
 rw[fh,aUo,Nat.min_eq_left h]
def jd {l:List Nat}{j d:Nat}(h:j<l.length):val (l.set j d)+4294967296 ^ j*l[j]=val l+4294967296 ^ j*d:=by
 have e:∀(m:List Nat) (hm:j<m.length),val m=val (m.take j)+4294967296 ^ j*m[j]+4294967296 ^ (j+1)*val (m.drop (j+1)):=by
  intro m hm
  conv=>lhs;rw[← List.take_append_drop (j+1) m]
  rw[fh,bG (aTX hm),aUo,Nat.min_eq_left (by omega)]
 rw[e l h,e (l.set j d) (by simpa using h),take_set,List.getElem_set_self,List.drop_set_of_lt (by omega)]
 omega
section
variable {u x:List Nat} {i n g V c be y:Nat}
def aOt (hx:val x+4294967296 ^ i*(g*V)=val u+4294967296 ^ (i+n)*(be+c))(hp:i+n<x.length)(hy:x[i+n]=y)(hle:c+be≤y):val (x.set (i+n) (y-c-be))+4294967296 ^ i*(g*V)=val u:=by
 have e:=jd (d:=y-c-be) hp
 rw[hy]at e
 have e2:4294967296 ^ (i+n)*y=4294967296 ^ (i+n)*(y-c-be)+4294967296 ^ (i+n)*(be+c):=by
  rw[← aT4];congr 1;omega
 omega
def aOu (hx:val x+4294967296 ^ i*(g*V)=val u+4294967296 ^ (i+n)*(be+c))(hp:i+n<x.length)(hy:x[i+n]=y)(hc:c<4294967296)(hbe:be<2):val (x.set (i+n) (y+4294967296-c-be))+4294967296 ^ i*(g*V)=val u+4294967296 ^ (i+n+1):=by
 have e:=jd (d:=y+4294967296-c-be) hp
 rw[hy]at e
 have e2:4294967296 ^ (i+n)*y+4294967296 ^ (i+n)*4294967296=4294967296 ^ (i+n)*(y+4294967296-c-be)+4294967296 ^ (i+n)*(be+c):=by
  rw[← aT4,← aT4];congr 1;omega
 rw[Nat.pow_succ]
 omega
def aPb (hV:0<V)(h:4294967296 ^ i*(g*V)≤val u):g≤val u/4294967296 ^ i/V:=by
 rw[Nat.le_div_iff_mul_le hV,Nat.le_div_iff_mul_le (Nat.pow_pos (by omega)),Nat.mul_comm]
 exact h
def aPc (hV:0<V)(h:val u<4294967296 ^ i*(g*V)):val u/4294967296 ^ i/V<g:=by
 rw[Nat.div_lt_iff_lt_mul hV,Nat.div_lt_iff_lt_mul (Nat.pow_pos (by omega)),Nat.mul_comm]
 exact h
def aOv {q cc:Nat}(hx:val x+4294967296 ^ (i+n)*cc+4294967296 ^ i*(q*V)=val u+4294967296 ^ (i+n+1))(hp:i+n<x.length)(hy:x[i+n]=y)(hz:val (x.drop (i+n+1))=0)(lx:lims x)(hq:4294967296 ^ i*(q*V)≤val u)(hr:val u<4294967296 ^ i*(q*V)+4294967296 ^ (i+n)):
  (y+cc)=4294967296∧val (x.set (i+n) 0)+4294967296 ^ i*(q*V)=val u:=by
 have e:=jX (l:=x) (i:=i+n) (by omega)
 rw[oG hp,hz,Nat.mul_zero,Nat.add_zero,hy]at e
 have h1:=bL (lx.take (i+n))
 rw[aUo,Nat.min_eq_left (by omega)]at h1
 rw[Nat.pow_succ]at hx
 generalize hW:4294967296 ^ (i+n)=W at*
 have e2:W*y+W*cc=W*(y+cc):=by rw[aT4]
 have h3:y+cc=4294967296:=by
  rcases Nat.lt_trichotomy (y+cc) 4294967296 with h|h|h
  ·exfalso
   have:W*(y+cc+1)≤W*4294967296:=Nat.mul_le_mul_left _ h
   rw[aT4]at this
   omega
  ·exact h
  ·exfalso
   have:W*(4294967296+1)≤W*(y+cc):=Nat.mul_le_mul_left _ h
   rw[aT4]at this
   omega
 refine⟨h3,?_⟩
 have e3:=jd (d:=0) hp
 rw[hW,hy]at e3
 rw[h3]at e2
 omega
end
def aOE {x v:List Nat}{m n i VV top vt:Nat}(hx:x.length=m)(lx:lims x)(lv:lims v)(hvl:v.length=n+1)(hVV:val (v.take n)=VV)(hn:2≤n)(z0:i+n<x.length)(z1:i+n-1<x.length)(z2:i+n-2<x.length)(y1:n-1<v.length)(y2:n-2<v.length)(hz:val (x.drop (i+n+1))=0)(htop:top=x[i+n]*4294967296+x[i+n-1])(hvt':vt=v[n-1])(hvt:2147483648*4294967296 ^ (n-1)≤VV)(htv:val x/4294967296 ^ i<VV*4294967296):
  Kn (val x/4294967296 ^ i) VV (4294967296 ^ (n-2)) top x[i+n-2] vt v[n-2]:=by
 obtain⟨p,rfl⟩:∃p,n=p+2:=⟨n-2,by omega⟩
 simp only[show p+2-1=p+1 by omega,show p+2-2=p by omega,show i+(p+2)-1=i+p+1 by omega,show i+(p+2)-2=i+p by omega,show i+(p+2)=i+p+2 by omega]at*
 have w0:i+p+2<x.length:=by omega
 have w1:i+p+1<x.length:=by omega
 have w2:i+p<x.length:=by omega
 have u1:p+1<v.length:=by omega
 have u2:p<v.length:=by omega
 show Kn _ _ _ top x[i+p] vt v[p]
 have hT:val x/4294967296 ^ i=val (x.drop i):=by
  have e:=jX (l:=x) (i:=i) (by omega)
  have h1:=bL (lx.take i)
  rw[aUo,Nat.min_eq_left (by omega)]at h1
  rw[e,Nat.add_mul_div_left _ _ (Nat.pow_pos (by omega)),Nat.div_eq_of_lt h1,aUe]
 have hd:val (x.drop (i+p))=x[i+p]+4294967296*top:=by
  rw[oG w2,oG w1,oG w0,hz,htop];simp only[show i+p+2-1=i+p+1 by omega];omega
 have hT2:val (x.drop i)=val ((x.drop i).take p)+4294967296 ^ p*(x[i+p]+4294967296*top):=by
  have e:=jX (l:=x.drop i) (i:=p) (by rw[List.length_drop];omega)
  rw[List.drop_drop,hd]at e
  exact e
 have hlo:=bL ((lx.drop i).take p)
 rw[aUo,List.length_drop,Nat.min_eq_left (by omega)]at hlo
 have hV2:VV=val (v.take p)+4294967296 ^ p*(v[p]+4294967296*vt):=by
  rw[← hVV,bG (aTX u1),bG (aTX u2),← hvt',Nat.pow_succ,aT4,aUk]
  omega
 have hlv:=bL (lv.take p)
 rw[aUo,Nat.min_eq_left (by omega)]at hlv
 have lva:=lv _ (aUl u1)
 have lvb:=lv _ (aUl u2)
 have lxc:=lx _ (aUl w2)
 have comm:∀a b:Nat,4294967296 ^ p*(a+4294967296*b)=(b*4294967296+a)*4294967296 ^ p:=fun a b=>by rw[Nat.mul_comm (4294967296 ^ p),Nat.mul_comm 4294967296,Nat.add_comm a]
 rw[comm]at hT2 hV2
 refine⟨by omega,?_,by rw[hT];omega,?_,?_,by omega,by omega,by omega,htv⟩
 ·rw[Nat.add_mul (vt*4294967296+v[p]),Nat.one_mul];omega
 ·rw[hT,Nat.add_mul (top*4294967296+x[i+p]),Nat.one_mul];omega
 ·rcases aT6 vt 2147483648 with h|h
  ·exfalso
   have h1:(vt*4294967296+v[p]+1)*4294967296 ^ p≤(2147483648*4294967296)*4294967296 ^ p:=Nat.mul_le_mul_right _ (by omega)
   rw[Nat.pow_succ,Nat.mul_comm (4294967296 ^ p),← aUk]at hvt
   rw[Nat.add_mul (vt*4294967296+v[p]),Nat.one_mul]at h1
   omega
  ·exact h
def akh {X X' V q i:Nat}(hV:0<V)(h:X'+4294967296 ^ i*(q*V)=X)(hq:q=X/4294967296 ^ i/V):X'<V*4294967296 ^ i:=by
 rw[Nat.div_div_eq_div_mul]at hq
 have h1:=Nat.div_add_mod X (4294967296 ^ i*V)
 have h2:=aUb X (show 0<4294967296 ^ i*V from Nat.mul_pos (Nat.pow_pos (by omega)) hV)
 rw[← hq]at h1
 have e:4294967296 ^ i*(q*V)=4294967296 ^ i*V*q:=by rw[aUk,Nat.mul_comm q]
 rw[Nat.mul_comm V]
 omega
def avn {X X' V q i U0:Nat}{qs:List Nat}(h:X'+4294967296 ^ i*(q*V)=X)(hU:U0=X+V*4294967296 ^ (i+1)*val (qs.drop (i+1)))(hi:i<qs.length):U0=X'+V*4294967296 ^ i*val ((qs.set i q).drop i):=by
 rw[oG (by simpa using hi),List.getElem_set_self,List.drop_set_of_lt (by omega),hU,← h,aT4,Nat.pow_succ,← aUk V,aUk (V*4294967296 ^ i) 4294967296]
 have:4294967296 ^ i*(q*V)=V*4294967296 ^ i*q:=by rw[Nat.mul_comm q,← aUk,Nat.mul_comm V]
 omega
def aKn {x:List Nat}{p:Nat}(lx:lims x)(hp:p≤x.length)(hz:val (x.drop p)=0):val x<4294967296 ^ p:=by
 have e:=jX hp
 have h1:=bL (lx.take p)
 rw[aUo,Nat.min_eq_left hp]at h1
 rw[e,hz,Nat.mul_zero,Nat.add_zero]
 exact h1
def aBf {u0 u1 rest k:Nat}(hk:k<32)(h0:u0<4294967296):
  ((u0+4294967296*(u1+4294967296*rest))/2 ^ k)%4294967296=u0/2 ^ k+(u1*4294967296/2 ^ k)%4294967296∧u0/2 ^ k<2 ^ (32-k)∧∃y,(u1*4294967296/2 ^ k)%4294967296=y*2 ^ (32-k):=by
 have hB:4294967296=2 ^ (32-k)*2 ^ k:=by rw[← Nat.pow_add,Nat.sub_add_cancel (by omega)]
 have hp:0<2 ^ k:=Nat.pow_pos (by omega)
 have hq:0<2 ^ (32-k):=Nat.pow_pos (by omega)
 generalize 2 ^ (32-k)=Q at*
 generalize 2 ^ k=P at*
 have a0:u0/P<Q:=by rw[Nat.div_lt_iff_lt_mul hp,← hB];exact h0
 have a1:u1*4294967296/P=u1*Q:=by rw[hB,← aUk,Nat.mul_div_cancel _ hp]
 have a2:(u0+4294967296*(u1+4294967296*rest))/P=u0/P+Q*(u1+4294967296*rest):=by
  rw[show 4294967296*(u1+4294967296*rest)=P*(Q*(u1+4294967296*rest)) by rw[← aUk,Nat.mul_comm P,← hB],Nat.add_mul_div_left _ _ hp]
 have a3:u1*Q%4294967296=(u1%P)*Q:=by
  rw[show 4294967296=P*Q by rw[Nat.mul_comm,← hB],Nat.mul_mod_mul_right]
 refine⟨?_,a0,_,by rw[a1,a3]⟩
 rw[a2,a1,a3,aT4,show Q*(4294967296*rest)=4294967296*(Q*rest) by rw[Nat.mul_left_comm],← Nat.add_assoc,Nat.add_mul_mod_self_left]
 have a4:Q*u1=P*Q*(u1/P)+(u1%P)*Q:=by
  have:=Nat.div_add_mod u1 P
  have h2:Q*u1=Q*(P*(u1/P)+u1%P):=by rw[this]
  rw[h2,aT4,← aUk,Nat.mul_comm Q P,Nat.mul_comm Q (u1%P)]
 have a5:u0/P+(u1%P)*Q<4294967296:=by
  have h1:u1%P<P:=aUb _ hp
  have h2:(u1%P+1)*Q≤P*Q:=Nat.mul_le_mul_right _ h1
  rw[Nat.add_mul,Nat.one_mul,Nat.mul_comm P,← hB]at h2
  omega
 rw[a4,show P*Q=4294967296 by rw[Nat.mul_comm,← hB],← Nat.add_assoc,Nat.add_right_comm,Nat.add_mul_mod_self_left,aT9 a5]
def aFT {x y k:Nat}(hx:x<2 ^ k):x ||| y*2 ^ k=x+y*2 ^ k:=by
 rw[Nat.or_comm,← Nat.shiftLeft_eq,← Nat.shiftLeft_add_eq_or_of_lt hx,Nat.add_comm]
def arQ {i k n:Nat}(h:i≤k)(hn:n<4294967296 ^ i):val ((aU k n).take i)=n:=by
 have e:=jX (l:=aU k n) (i:=i) (by rw[aQ];exact h)
 have hk:n<4294967296 ^ k:=aUj hn (Nat.pow_le_pow_right (by omega) h)
 rw[go k n hk]at e
 have h1:=bL ((ft k n).take i)
 rw[aUo,aQ,Nat.min_eq_left h]at h1
 rcases aUc (val ((aU k n).drop i))with h0|h0
 ·rw[h0,Nat.mul_zero,Nat.add_zero]at e;exact e.symm
 ·have:4294967296 ^ i*1≤4294967296 ^ i*val ((aU k n).drop i):=Nat.mul_le_mul_left _ h0
  omega
def apA {b:List Nat}{t k:Nat}(lb:lims b)(hb:0<b.length)(ht:b[b.length-1]?=Z t)(h0:0<t)(hk:k=31-aj t):k<32∧val b*2 ^ k<4294967296 ^ b.length∧2147483648*4294967296 ^ (b.length-1)≤val b*2 ^ k:=by
 have htl:=lb.get ht
 have hl:aj t<32:=(Nat.log2_lt (by omega)).2 (by simpa using htl)
 have a1:=Nat.log2_self_le (show t≠0 by omega)
 have a2:t<2 ^ (aj t+1):=(Nat.log2_lt (by omega)).1 (by omega)
 have e:val b=val (b.take (b.length-1))+4294967296 ^ (b.length-1)*t:=by
  have:=bG ht
  rw[show b.length-1+1=b.length by omega,List.take_length]at this
  exact this
 have h1:=bL (lb.take (b.length-1))
 rw[aUo,Nat.min_eq_left (by omega)]at h1
 have hB:4294967296 ^ b.length=4294967296 ^ (b.length-1)*4294967296:=by rw[← Nat.pow_succ];congr 1;omega
 subst hk
 have k1:2 ^ (aj t+1)*2 ^ (31-aj t)=4294967296:=by rw[← Nat.pow_add,show aj t+1+(31-aj t)=32 by omega]
 have k2:2 ^ aj t*2 ^ (31-aj t)=2147483648:=by rw[← Nat.pow_add,show aj t+(31-aj t)=31 by omega]
 refine⟨by omega,?_,?_⟩
 ·rw[hB,show 4294967296 ^ (b.length-1)*4294967296=4294967296 ^ (b.length-1)*2 ^ (aj t+1)*2 ^ (31-aj t) by rw[aUk,k1]]
  refine Nat.mul_lt_mul_of_pos_right ?_ (Nat.pow_pos (by omega))
  have h2:4294967296 ^ (b.length-1)*(t+1)≤4294967296 ^ (b.length-1)*2 ^ (aj t+1):=Nat.mul_le_mul_left _ a2
  rw[aT4]at h2
  omega
 ·rw[← k2,Nat.mul_right_comm]
  refine Nat.mul_le_mul_right _ ?_
  have h2:4294967296 ^ (b.length-1)*2 ^ aj t≤4294967296 ^ (b.length-1)*t:=Nat.mul_le_mul_left _ a1
  rw[Nat.mul_comm (2 ^ aj t)]
  omega
end
end Go.Mach
