/-
  Part 3 of the machine and of the contracts of functions of the program (packed).
-/
import Derived.Test.YtfiijelajgifiaaGreatA02
set_option linter.all false
set_option linter.defProp false
open Array renaming getElem?_eq_getElem→aUt
open Bool renaming false→aa,true→ab,and_eq_true→aTT,eq_iff_iff→aUp
open Int renaming ofNat→af,negSucc→aT2,ofNat_eq_natCast→aT7
open List renaming getElem?_eq_some_iff→aTU,length_append→aTW,mem_cons→aTZ,mem_cons_self→aT0,mem_cons_of_mem→aT8,getElem?_set_ne→aUn
open Nat renaming blt→ah,beq→ai,ble→aTQ,blt_eq→aTR,le_refl→aTS,eq_of_beq_eq_true→aT1,mod_lt→aUb,le_trans→aUd,lt_of_lt_of_le→aUj
open Option renaming some→Z,none→U
namespace Go.Mach
noncomputable section
open Go Go.RowKit Go.Flow
variable [Limb]
def asR:List Value→List Bool→Option (List Bool)
 |[],acc=>Z (oO acc [])
 |.bool b::r,acc=>asR r (b::acc)
 |_::_,_=>U
def aIJ:C→Option (List Bool)
 |.v (.bool b)=>Z [b]
 |.vec l=>asR l []
 |_=>U
def aN0:List Value→List Nat→Option (List Nat)
 |[],acc=>Z (oO acc [])
 |.int .u32 (.ofNat n)::r,acc=>if ah 0 n&&ah n 4294967296 then aN0 r (n::acc) else U
 |_::_,_=>U
def aCY:C→Option (List Nat)
 |.mag l=>Z l
 |.v (.slice U 0 0)=>Z [0]
 |.sl 0 []=>Z [0]
 |.sl 1 [.v (.int .u32 (.ofNat n))]=>if ah 0 n&&ah n 4294967296 then Z [n] else U
 |.sl 1 [.vec l]=>aN0 l []
 |_=>U
def sgI:Bool→Nat→Option Int
 |false,n=>Z (af n)
 |true,0=>U
 |true,n+1=>Z (aT2 n)
def sgL:List Bool→List Nat→List Int→Option (List Int)
 |b::r,n::s,acc=>match sgI b n with|some z=>sgL r s (z::acc)|none=>U
 |[],[],acc=>Z (oO acc [])
 |_,_,_=>U
def sg1 (b:Bool):List Nat→List Int→Option (List Int)
 |n::s,acc=>match sgI b n with|some z=>sg1 b s (z::acc)|none=>U
 |[],acc=>Z (oO acc [])
def aOA (n m:C):Option (List Int):=
 match aIJ n,aCY m with
 |some [b],Z l=>sg1 b l []
 |some bs,Z l=>sgL bs l []
 |_,_=>U
def so:V1→Option (List Int)
 |.agg [n,m]=>aOA n m
 |_=>U
def qP {α β:Type}(f:α→β):List α→List β→List β
 |[],acc=>oO acc []
 |x::r,acc=>qP f r (f x::acc)
def acJ {α β γ:Type}(f:α→β→γ):List α→List β→List γ→Option (List γ)
 |x::r,y::s,acc=>acJ f r s (f x y::acc)
 |[],[],acc=>Z (oO acc [])
 |_,_,_=>U
def bc {α β γ:Type}(f:α→β→γ):List α→List β→Option (List γ)
 |[x],[y]=>Z [f x y]
 |[x],l=>Z (qP (f x) l [])
 |l,[y]=>Z (qP (fun x=>f x y) l [])
 |l,m=>acJ f l m []
def aw:Int→Bool
 |.ofNat _=>aa
 |.negSucc _=>ab
def ap:Int→Nat
 |.ofNat n=>n
 |.negSucc n=>n+1
def amh (b:Bool):List Bool→Bool
 |[]=>ab
 |c::r=>if c==b then amh b r else aa
def mkB:List Bool→C
 |[]=>.vec []
 |[b]=>.v (.bool b)
 |b::r=>if amh b r then .v (.bool b) else .vec ((b::r).map .bool)
def awu:List Nat→Bool
 |[]=>ab
 |n::r=>if ah n 4294967296 then awu r else aa
def apS (l:List Int):Option V1:=
 match l with
 |[z]=>if ah (ap z) 4294967296 then Z (.agg [.v (.bool (aw z)),.mag [ap z]]) else U
 |l=>let m:=qP ap l [];if awu m then Z (.agg [mkB (qP aw l []),.mag m]) else U
def aDB (z:Int):List Int→Bool
 |[]=>ab
 |c::r=>if c==z then aDB z r else aa
def mkI (l:List Int):C:=
 match l with
 |[z]=>.v (.int .i64 z)
 |z::r=>if aDB z r then .v (.int .i64 z) else .vec (qP (fun x=>Value.int .i64 x) (z::r) [])
 |[]=>.vec []
def ay9 (f:Int→Int→Int):List V1→Option (List V1)
 |[a,b]=>match so a,so b with
  |some x,Z y=>(match bc f x y with|some l=>(match apS l with|some r=>Z [r]|none=>U)|none=>U)
  |_,_=>U
 |_=>U
def aR6 (f:Int→Int):List V1→Option (List V1)
 |[a]=>match so a with
  |some x=>(match apS (qP f x [])with|some r=>Z [r]|none=>U)
  |none=>U
 |_=>U
def aOQ (f:Int→Int→Int):List V1→Option (List V1)
 |[a,b]=>match so a,so b with
  |some x,Z y=>(match bc f x y with|some l=>Z [.one (mkI l)]|none=>U)
  |_,_=>U
 |_=>U
def aOP (f:Int→Int):List V1→Option (List V1)
 |[a]=>match so a with
  |some x=>Z [.one (mkI (qP f x []))]
  |none=>U
 |_=>U
def aOO (f:Int→Int→Bool):List V1→Option (List V1)
 |[a,b]=>match so a,so b with
  |some x,Z y=>(match bc f x y with|some l=>Z [.one (mkB l)]|none=>U)
  |_,_=>U
 |_=>U
def aJL:List Value→List Int→Option (List Int)
 |[],acc=>Z (oO acc [])
 |.int .i64 z::r,acc=>aJL r (z::acc)
 |_::_,_=>U
def aRM:C→Option (List Int)
 |.v (.int .i64 x)=>Z [x]
 |.vec l=>aJL l []
 |_=>U
def aRx (a b:Int):Int:=a+b
def aSC (a b:Int):Int:=a-b
def aR1 (a b:Int):Int:=a*b
def aR7 (a:Int):Int := -a
def aRB (a b:Int):Int:=Int.sign (a-b)
def aPn (a b:Int):Bool:=a==b
def cV:=ay9 aRx
def ack:=ay9 aSC
def iE:=ay9 aR1
def zf:=aR6 aR7
def y8:=aOQ aRB
def bn:=aOP Int.sign
def kN:=aOO aPn
def rh:List V1→Option (List V1)
 |[.one c]=>match aRM c with|some x=>(match apS x with|some r=>Z [r]|none=>U)|none=>U
 |_=>U
def acC (P:Program):im:=fun t=>
 match P.info? t,P.underlying t with
 |some i,Z de=>Z ⟨de,i.size,i.bytes,i.zero,!(P.eqGuardType P.depth t)⟩
 |_,_=>U
def abb (P:Program):TabOk P (acC P):=by
 intro t y h
 unfold acC at h
 split at h
 ·rename_i i de hi hu
  cases h
  exact⟨hu,i,hi,rfl,rfl,rfl,fun h=>by simpa using h⟩
 ·cases h
def xe (P:Program)(gP:Nat→List Nat):aP:=fun i=>match P.funcs[i]? with|some fn=>tK (gP i) fn|none=>U
def fn_ok {P:Program}{gP:Nat→List Nat}{wm:Bool}{f:FuncId}{na:Nat}{fn:Func}{c:FnC}(hf:P.funcs[f]?=Z fn)(hname:(fn.name == "runtime.NumGoroutine")=aa)(h1:acz fn=ab)(hc:qj (acC P) wm (gP f) f na fn=Z c):FnOk P (xe P gP) f c:=
 x9 (abb P) hf hname h1 (fun bd h=>by unfold xe;rw[hf];exact h) hc
def bd_ok {P:Program}{gP:Nat→List Nat}{f:FuncId}{fn:Func}{c:BdC}(hf:P.funcs[f]?=Z fn)(hn:gX (gP f)=ab)(hc:x8 (acC P) (gP f) f fn=Z c):BdOk P (xe P gP) f c:=
 agx (abb P) hn (fun bd h=>by unfold xe;rw[hf];exact h) hc
inductive Ft where
 |z
 |n (l:Ft) (k:Nat) (e:FnE) (b:Option BdC) (r:Ft)
def Ft.fn:Ft→Nat→FnE
 |.z,_=>.none
 |.n l k e _ r,f=>match ah f k with|true=>l.fn f|false=>match ai f k with|true=>e|false=>r.fn f
def Ft.bd:Ft→Nat→Option BdC
 |.z,_=>U
 |.n l k _ b r,f=>match ah f k with|true=>l.bd f|false=>match ai f k with|true=>b|false=>r.bd f
def EOk (P:Program)(k:Cls)(Bt:aP)(f:Nat):FnE→Prop
 |.none=>True
 |.code c=>FnOk P Bt f c
 |.nat m=>ko P k f m
 |.wnat m=>pZ P k Bt f m
def BOk (P:Program)(Bt:aP)(f:Nat):Option BdC→Prop
 |none=>True
 |some c=>BdOk P Bt f c
def Ft.Ok (P:Program)(k:Cls)(Bt:aP):Ft→Prop
 |.z=>True
 |.n l f e b r=>l.Ok P k Bt∧EOk P k Bt f e∧BOk P Bt f b∧r.Ok P k Bt
section
variable {P:Program} {k:Cls} {Bt:aP}
def Ft.fn_ok:∀{t:Ft},t.Ok P k Bt→∀f,EOk P k Bt f (t.fn f)
 |.z,_,f=>trivial
 |.n l j e b r,h,f=>by
  simp only[Ft.fn]
  split
  ·exact Ft.fn_ok h.1 f
  ·split
   ·rename_i he
    rw[aT1 he];exact h.2.1
   ·exact Ft.fn_ok h.2.2.2 f
def Ft.bd_ok:∀{t:Ft},t.Ok P k Bt→∀f,BOk P Bt f (t.bd f)
 |.z,_,f=>trivial
 |.n l j e b r,h,f=>by
  simp only[Ft.bd]
  split
  ·exact Ft.bd_ok h.1 f
  ·split
   ·rename_i he
    rw[aT1 he];exact h.2.2.1
   ·exact Ft.bd_ok h.2.2.2 f
def Ft.tb (t:Ft):Tb:=⟨t.fn,t.bd⟩
def Ft.tb_ok {t:Ft}(h:t.Ok P k Bt):TbOk P k Bt t.tb where
 code f c hf:=by have:=Ft.fn_ok h f;rw[show t.fn f=.code c from hf]at this;exact this
 nat f m hf:=by have:=Ft.fn_ok h f;rw[show t.fn f=.nat m from hf]at this;exact this
 wnat f m hf:=by have:=Ft.fn_ok h f;rw[show t.fn f=.wnat m from hf]at this;exact this
 bd i c hi:=by have:=Ft.bd_ok h i;rw[show t.bd i=Z c from hi]at this;exact this
def aSH (hm:P.follows .mixedOrders=ab){t:Ft}(h:t.Ok P k Bt){f:FuncId}{c:FnC}(hf:FnOk P Bt f c)(fl n:Nat):ko P k f (bM (ao t.tb fl n) fl c):=
 aoN (ue (vP hm (Ft.tb_ok h) n) hm hf)
def RVs (k:Cls)(F:Nat→Prop)(w:World)(as:List V1)(vs:List Value):Prop:=vs.length=as.length∧∀(j:Nat) a,as[j]?=Z a→∃u,vs[j]?=Z u∧RV k F w a u
def axA {g:FuncId}{m N:List V1→Option (List V1)}(hm:ko P k g m)
  (H:∀as rs,N as=Z rs→∀F w us,RVs k F w as us→∃as' rs',m as'=Z rs'∧RVs k F w as' us∧∀w' u,RT k F φ0 w' (oE rs') u→RT k F φ0 w' (oE rs) u):ko P k g N:=by
 refine⟨hm.1,fun as rs h F w vs hF hl hr=>?_⟩
 obtain⟨as',rs',h1,h2,h3⟩:=H as rs h F w vs ⟨hl,hr⟩
 refine(hm.2 as' rs' h1 F w vs hF h2.1 h2.2).mono ?_
 rintro e w' ⟨u,rfl,hx,hq⟩
 exact⟨u,rfl,hx,h3 w' u hq⟩
variable {F:Nat→Prop} {w:World}
def afc {α β:Type}(f:α→β):∀(l:List α) (acc:List β),qP f l acc=acc.reverse++l.map f
 |[],acc=>by simp[qP,vz]
 |x::r,acc=>by rw[qP,afc f r];simp
def aoy {α β γ:Type}(f:α→β→γ):∀{l:List α} {m:List β} {acc out:List γ},acJ f l m acc=Z out→l.length=m.length∧out=acc.reverse++List.zipWith f l m
 |[],[],acc,out,h=>by simp[acJ,vz]at h;simp[h]
 |x::l,y::m,acc,out,h=>by
  rw[acJ]at h
  obtain⟨h1,h2⟩:=aoy f h
  exact⟨by simp[h1],by rw[h2];simp⟩
 |[],_::_,_,_,h=>by simp[acJ]at h
 |_::_,[],_,_,h=>by simp[acJ]at h
def ac0 {α β γ:Type}{f:α→β→γ}{l:List α}{m:List β}{out:List γ}(h:bc f l m=Z out){x:α}{y:β}(hx:gm l k=Z x)(hy:gm m k=Z y):gm out k=Z (f x y):=by
 unfold bc at h
 split at h
 ·cases h
  simp[gm]at hx hy
  simp[gm,hx,hy]
 ·cases h
  simp[gm]at hx
  subst hx
  rw[afc,List.reverse_nil,List.nil_append,tJ,hy];rfl
 ·cases h
  simp[gm]at hy
  subst hy
  rw[afc,List.reverse_nil,List.nil_append,tJ,hx];rfl
 ·rename_i hne1 hne2 hne3
  obtain⟨h1,h2⟩:=aoy f h
  simp only[List.reverse_nil,List.nil_append]at h2
  subst h2
  rcases jZ hx with⟨x',rfl,rfl⟩|⟨q1,q2,q3⟩
  ·rcases jZ hy with⟨y',rfl,rfl⟩|⟨p1,p2,p3⟩
   ·rfl
   ·simp at h1;omega
  ·rcases jZ hy with⟨y',rfl,rfl⟩|⟨p1,p2,p3⟩
   ·simp at h1;omega
   ·refine xU (by rw[List.length_zipWith];omega) ?_
    rw[List.getElem?_zipWith,q2,p2]
def RVs.one {a:V1}{us:List Value}(h:RVs k F w [a] us):∃u,us=[u]∧RV k F w a u:=by
 obtain⟨h1,h2⟩:=h
 match us,h1 with
 |[u],_=>
  obtain⟨x,hx,r1⟩:=h2 0 a rfl
  simp at hx;subst hx
  exact⟨_,rfl,r1⟩
end
inductive Kt where
 |z
 |n (l:Kt) (k:Nat) (x:List Nat) (r:Kt)
def Kt.get:Kt→Nat→List Nat
 |.z,_=>[]
 |.n l k x r,f=>match ah f k with|true=>l.get f|false=>match ai f k with|true=>x|false=>r.get f
def apK:adX [0]=Z (0,[]):=rfl
def aSv (v:Value):cW [v] 0=[]:=by simp[cW]
def aSw (v:Value):cW [v] 1=[v]:=by simp[cW]
def aSx (v:Value):cW [v] 2=[v,v]:=by simp[cW,List.range_succ]
def aSy (v:Value):cW [v] 3=[v,v,v]:=by simp[cW,List.range_succ]
def agh (q:IntKind)(n:Nat):fH q n=if n<uP q then af n else q.wrap (af n):=by unfold fH;simp only[aTR];rfl
def pf:uP .i64=9223372036854775808:=rfl
def auG:uP .u64=18446744073709551616:=rfl
def aKk:uP .u32=4294967296:=rfl
def aEY (n:Nat):qE n=.t (.one (.c (.v (.int .i64 (af n))))):=rfl
def aO0 (a b:Nat):(af a<af b)=(a<b):=propext Int.ofNat_lt
def aOZ (a b:Nat):(af a≤af b)=(a≤b):=propext Int.ofNat_le
def aOY (a b:Nat):(af a>af b)=(b<a):=propext Int.ofNat_lt
def aOX (a b:Nat):(af a≥af b)=(b≤a):=propext Int.ofNat_le
def akp (a b:Nat):(af a==af b)=(a==b):=by
 rw[aUp,beq_iff_eq,beq_iff_eq,Int.ofNat.injEq]
def aKZ (a b:Nat):(af a != af b)=(a != b):=by unfold bne;rw[akp]
def zl {a b:Nat}(h:b≤a):af a-af b=af (a-b):=(Int.ofNat_sub h).symm
def agi {q:IntKind}{n:Nat}(h:n<uP q):q.wrap (af n)=af n:=Go.Mach.wrap_small q n h
def lk (q:IntKind)(n:Nat):q.wrap (af n)=if n<uP q then af n else q.wrap (af n):=by
 split
 ·exact agi (by assumption)
 ·rfl
def asL (q:IntKind)(x y:Nat):b9 .add q (.ofNat x) (.ofNat y)=Z (.int q (fH q (x+y))):=rfl
def asM (q:IntKind)(x y:Int):b9 .sub q x y=Z (.int q (q.wrap (x-y))):=rfl
def aIC (q:IntKind)(x y:Nat):b9 .mul q (.ofNat x) (.ofNat y)=Z (.int q (fH q (x*y))):=rfl
def aIE (q:IntKind)(x y:Nat):b9 .quo q (.ofNat x) (.ofNat y)=if ai y 0 then U else Z (.int q (fH q (x/y))):=rfl
def aIF (q:IntKind)(x y:Nat):b9 .rem q (.ofNat x) (.ofNat y)=if ai y 0 then U else Z (.int q (af (x%y))):=rfl
def aIx (q:IntKind)(x y:Int):b9 .eql q x y=Z (.bool (x==y)):=rfl
def aID (q:IntKind)(x y:Int):b9 .neq q x y=Z (.bool (x != y)):=rfl
def aIB (q:IntKind)(x y:Int):b9 .lss q x y=Z (.bool (decide (x<y))):=rfl
def aIA (q:IntKind)(x y:Int):b9 .leq q x y=Z (.bool (decide (x≤y))):=rfl
def aIz (q:IntKind)(x y:Int):b9 .gtr q x y=Z (.bool (decide (x>y))):=rfl
def aIy (q:IntKind)(x y:Int):b9 .geq q x y=Z (.bool (decide (x≥y))):=rfl
def aIw (q:IntKind)(x y:Int):b9 .and q x y=Z (.int q (q.wrap (af (BitVec.ofInt q.bits x &&& BitVec.ofInt q.bits y).toNat))):=rfl
def aDZ (x y:Int):b9 .or .u32 x y=Z (.int .u32 (IntKind.wrap .u32 (af (BitVec.ofInt 32 x ||| BitVec.ofInt 32 y).toNat))):=rfl
def aIG (q:IntKind)(x y:Int):b9 .xor q x y=Z (.int q (q.wrap (af (BitVec.ofInt q.bits x ^^^ BitVec.ofInt q.bits y).toNat))):=rfl
def aws (q:IntKind)(x y:Nat):shI .shl q (.ofNat x) (.ofNat y)=if ah y q.bits then Z (.int q (fH q (x*2 ^ y))) else U:=rfl
def aME (q:IntKind)(x y:Nat):shI .shr q (.ofNat x) (.ofNat y)=if ah y q.bits then Z (.int q (af (x/2 ^ y))) else U:=rfl
def alG (n:Nat):IntKind.wrap .u32 (af n)=af (n%4294967296):=by
 simp[IntKind.wrap,IntKind.bits,IntKind.signed]
def np (n:Nat):IntKind.wrap .u64 (af n)=af (n%18446744073709551616):=by
 simp[IntKind.wrap,IntKind.bits,IntKind.signed]
def avj (a b:Nat):(aT2 a==af b)=aa:=by rw[beq_eq_false_iff_ne];intro h;cases h
def aKQ (a b:Nat):(aT2 a != af b)=ab:=by unfold bne;rw[avj];rfl
def aON (a b:Nat):(aT2 a<af b)=True:=by simp only[eq_iff_iff,iff_true];exact Int.lt_of_lt_of_le (Int.negSucc_lt_zero a) (Int.natCast_nonneg b)
def aOM (a b:Nat):(aT2 a≤af b)=True:=by simp only[eq_iff_iff,iff_true];exact Int.le_of_lt (Int.lt_of_lt_of_le (Int.negSucc_lt_zero a) (Int.natCast_nonneg b))
def aOL (a b:Nat):(aT2 a>af b)=False:=by simp only[eq_iff_iff,iff_false];have:=Int.negSucc_lt_zero a;have:=Int.natCast_nonneg b;simp only[gt_iff_lt,Int.not_lt,aT7];omega
def aCZ (a b:Nat):(aT2 a≥af b)=False:=by simp only[eq_iff_iff,iff_false];have:=Int.negSucc_lt_zero a;have:=Int.natCast_nonneg b;simp only[ge_iff_le,Int.not_le,aT7];omega
def aJM:IntKind.i64.wrap (af 0-af 1)=aT2 0:=by decide
def vg (a b:Nat):ai a b=(a==b):=by rw[aUp,Nat.beq_eq,beq_iff_eq]
def aD9 (n:Nat):((n:Nat):Int)=af n:=rfl
def aN8 (n:Nat):Int:=IntKind.i64.wrap (af n)
def rN (n:Nat):IntKind.wrap .i64 (af n)=if n<9223372036854775808 then af n else aN8 n:=by
 split
 ·exact agi (by assumption)
 ·rfl
def aRz:(aa==ab)=aa:=rfl
def aRA:(ab==aa)=aa:=rfl
def aR3:(aa != ab)=ab:=rfl
def aR4:(ab != aa)=ab:=rfl
def aR2:(aa != aa)=aa:=rfl
def aR5:(ab != ab)=aa:=rfl
def cf0:av:=fun _ _ _ _=>U
def asX {P:Program}{k:Cls}{Bt:aP}:gF P k Bt cf0:=fun _ _ _ _ _ _ _ _ h=>by cases h
def wc:T→Bool
 |.t (.one (.c (.sl 0 [])))=>ab
 |.t (.one .z0)=>ab
 |.t (.one (.c (.mag [0])))=>ab
 |.t (.one (.c (.big 0)))=>ab
 |_=>aa
def fk (c:FnC):kU:=fun as H S=>
 match as with
 |[x]=>match wc x with|true=>Z (.t (.one .z0),H,S,[])|false=>cy cf0 10 c [x] H S
 |_=>U
section
variable {P:Program} {k:Cls} {Bt:aP}
def nM (hm:P.follows .mixedOrders=ab){f:FuncId}{c:FnC}(hf:FnOk P Bt f c)
  (h1:∀H S,cy cf0 10 c [.t (.one (.c (.v (.slice U 0 0))))] H S=Z (.t (.one (.c (.v (.slice U 0 0)))),H,S,[]))
  (h2:∀a n H S,cy cf0 10 c [.t (.one (.c (.v (.slice (Z a) 0 n))))] H S=Z (.t (.one .z0),H,S,[])):pZ P k Bt f (fk c):=by
 have hc:=ue (fl:=10) (asX (P:=P) (k:=k) (Bt:=Bt)) hm hf
 refine⟨hc.1,fun as H S y H' S' W h=>?_⟩
 unfold fk at h
 split at h
 ·rename_i x
  split at h
  ·rename_i hx
   cases h
   refine⟨Fm.refl _ _,fun F0 N φ w vs hH hN hl hr=>?_⟩
   match vs,hl with
   |[u],_=>
    obtain⟨u',hu',hr⟩:=hr 0 x rfl
    simp at hu'
    subst hu'
    have hu:∃A n,u=.slice A 0 n∧(A=U→n=0):=by
     unfold wc at hx
     split at hx
     ·have r':RC k (Fo F0 φ H S) w (.sl 0 []) u:=hr
      cases r' with
      |nil A c h=>exact⟨A,c,rfl,h⟩
      |sl _ _ b o cap f hn hF hc hr=>exact⟨_,cap,rfl,fun h=>by cases h⟩
     ·obtain⟨A,rfl⟩:=hr
      exact⟨A,0,rfl,fun _=>rfl⟩
     ·have r':RC k (Fo F0 φ H S) w (.mag [0]) u:=hr
      cases r' with
      |mag0 _ A c h hA=>exact⟨A,c,rfl,hA⟩
      |mag1 _ n b o cap h h0=>simp[gm]at h;omega
     ·have r':RC k (Fo F0 φ H S) w (.big 0) u:=hr
      generalize hz:(0:Nat)=z at r'
      cases r' with
      |big0 A c hA=>exact⟨A,c,rfl,hA⟩
      |big1 n b o cap h0=>omega
     ·cases hx
    obtain⟨A,n,rfl,hn⟩:=hu
    have one:∀{x' y':T},cy cf0 10 c [x'] H S=Z (y',H,S,[])→RT k (Fo F0 φ H S) φ w x' (.slice A 0 n)→(∀F φ w u,RT k F φ w y' u→RT k F φ w (.t (.one .z0)) u)→
      Calls P f #[.slice A 0 n] w fun e w'=>∃u,e=.returned u∧Post k Bt F0 N φ w H S H S (.t (.one .z0)) u w':=by
     intro x' y' he hx' hy
     refine((hc.2 _ _ _ _ _ _ _ he).2 F0 N φ w [.slice A 0 n] hH hN rfl (fun j a hj=>?_)).mono ?_
     ·match j,hj with
      |0,hj=>simp at hj;subst hj;exact⟨_,rfl,hx'⟩
      |j+1,hj=>simp at hj
     ·rintro e w' ⟨u,rfl,φ',q1,q2,q3,q4,q5⟩
      exact⟨u,rfl,φ',q1,q2,q3,hy _ _ _ _ q4,q5⟩
    cases A with
    |none=>
     have hn':=hn rfl
     subst hn'
     refine one (h1 H S) (.v _ rfl) fun F φ w u hu=>?_
     have r':RC k F w (.v (.slice U 0 0)) u:=hu
     cases r'
     exact⟨U,rfl⟩
    |some a=>exact one (h2 a n H S) (.v _ rfl) fun F φ w u hu=>hu
  ·exact hc.2 _ _ _ _ _ _ _ h
 ·cases h
end
section
variable {P:Program} {k:Cls} {Bt:aP} {F0:Nat→Prop} {N:Nat} {φ φ':Nat→Option Nat} {w w':World} {H H':Hp} {S S':List Nat} {cf:av} {fl:Nat}
def aA5 {r bm n:Nat}{ks:List Nat}{ens:Array MapEntry}(ty:TypeId)(hr:w.heap[r]?=Z (.mapIter (Z bm) n ks.toArray n))(hb:w.heap[bm]?=Z (.map ens n))(hn:ens.size=n)(hborn:∀(j:Nat) e,ens[j]?=Z e→e.born=j):
  ((∀j,j<n→j∈ks)∧(Instr.next (.pointer (Z ⟨r,0,U⟩)) aa ty).run P w=.ok (.tuple #[.bool aa]) w)∨
  ∃(j:Nat) (e:MapEntry),ens[j]?=Z e∧j∉ks∧∃w1:World,(w1=w∨w1=w.drew)∧(Instr.next (.pointer (Z ⟨r,0,U⟩)) aa ty).run P w=.ok (.tuple #[.bool ab,e.key,e.val]) (w1.putObj r (.mapIter (Z bm) n (ks++[j]).toArray n)):=by
 have hold:∀x∈ens.toList,x.born<n:=by
  intro x hx
  obtain⟨i,hi⟩:=List.mem_iff_getElem?.1 hx
  have hi':ens[i]?=Z x:=by simpa using hi
  have:=(Array.getElem?_eq_some_iff.1 hi').1
  rw[hborn i x hi'];omega
 simp only[Instr.next,getObj,Sem.run_bind,Sem.run,hr,hb,Result.andThen,next_test_false ks.toArray ens n n hold (aTS _),Bool.false_eq_true,if_false]
 have hmem:∀x∈(Array.filter (fun e=>!ks.toArray.contains e.born) ens).toList,x∈ens∧x.born∉ks∧x.born<n:=fun x hx=>by
  simp only[Array.toList_filter,List.mem_filter]at hx
  refine⟨by simpa using hx.1,?_,hold x hx.1⟩
  have:=hx.2
  simpa using this
 have hall:(Array.filter (fun e=>!ks.toArray.contains e.born) ens).size=0→∀j,j<n→j∈ks:=by
  intro h0 j hj
  have he:Array.filter (fun e=>!ks.toArray.contains e.born) ens=#[]:=Array.eq_empty_of_size_eq_zero h0
  rw[Array.filter_eq_empty_iff]at he
  have hj':j<ens.size:=by omega
  have:=he ens[j] (Array.getElem_mem hj')
  rw[hborn j ens[j] (aUt hj')]at this
  simpa using this
 generalize Array.filter (fun e=>!ks.toArray.contains e.born) ens=L at hmem hall ⊢
 have e1:L.filter (fun x=>decide (x.born<n))=L:=Array.filter_eq_self.2 (fun x hx=>by simpa using (hmem x (by simpa using hx)).2.2)
 have e2:L.filter (fun x=>decide (x.born≥n))=#[]:=by
  rw[Array.filter_eq_empty_iff]
  intro x hx
  have:=(hmem x (by simpa using hx)).2.2
  simp
  omega
 simp only[e1,e2,Array.append_empty]
 by_cases h0:L.size=0
 ·left
  have:L=#[]:=Array.eq_empty_of_size_eq_zero h0
  refine⟨hall h0,?_⟩
  subst this
  simp[choose,Sem.run,Question.forced]
 ·right
  have hne:L.isEmpty=aa:=by simp[Array.isEmpty,h0]
  simp only[hne,Bool.false_eq_true,if_false,Array.empty_append,Array.size_map]
  have hch:∃(j:Nat) (w1:World),j<L.size∧(w1=w∨w1=w.drew)∧(choose (Question.mapNext L.size)).run P w=.ok j w1:=by
   by_cases hf:L.size≤1
   ·exact⟨0,w,by omega,.inl rfl,by simp[choose,Sem.run,Question.forced,hf]⟩
   ·exact⟨_,w.drew,aUb _ (by omega),.inr rfl,by
     simp only[choose,Sem.run,Question.forced,decide_eq_true_eq,hf,if_false,Question.cut]
     rfl⟩
  obtain⟨j,w1,hj,hal,hrun⟩:=hch
  obtain⟨m1,m2,m3⟩:=hmem L[j] (by simp)
  obtain⟨i,hi⟩:=Array.mem_iff_getElem?.1 m1
  have hbi:=hborn i L[j] hi
  refine⟨i,L[j],hi,by rw[← hbi];exact m2,w1,hal,?_⟩
  have hw1:w1.heap[r]?=Z (.mapIter (Z bm) n ks.toArray n):=by rcases hal with rfl|rfl<;>exact hr
  have hset:∀o':Obj,(setObj r o').run P w1=.ok () (w1.putObj r o'):=fun o'=>by
   simp only[setObj,Sem.run,hw1]
   rfl
  have hp:ks.toArray.push L[j].born=(ks++[i]).toArray:=by rw[hbi];simp
  simp only[hrun,Array.getElem?_map,aUt hj,Option.map_some,Sem.run_bind,hset,Result.andThen,hp]
  rfl
def Tr.drew (hH:HR k Bt F0 N φ w H S)(hN:N≤w.heap.size):Tr k Bt F0 N φ w H S φ w.drew H S:=
 Tr.of_ext hH hN ⟨rfl,rfl,rfl,aTS _,fun _ _=>rfl,Nat.le_succ _⟩
def Tr.iter (hH:HR k Bt F0 N φ w H S)(hN:N≤w.heap.size){it m n:Nat}{ks:List Nat}(hb:H[it]?=Z (Z (.it m n ks)))(hs:it∉S){x bm:Nat}(hx:φ it=Z x)(hbm:φ m=Z bm){ks':List Nat}(hw:w.heap[x]?=Z (.mapIter (Z bm) n ks.toArray n)):
  Tr k Bt F0 N φ w H S φ (w.putObj x (.mapIter (Z bm) n ks'.toArray n)) (H.set it (Z (.it m n ks'))) S:=by
 have hNx:=(hH.lt hb hx).2
 have hlt:=dn hw
 obtain⟨g1,g2⟩:=hH.turn hb hs hx (y':=.it m n ks') (w':=w.putObj x (.mapIter (Z bm) n ks'.toArray n)) (by simp) (fun z hz=>World.putObj_heap_other hz) (fun vs t fr hc=>by rw[hw]at hc;cases hc) (fun q=>⟨bm,hbm,World.putObj_heap_same hlt⟩)
 exact⟨⟨rfl,rfl,rfl,by simp,fun z hz=>World.putObj_heap_other (by omega),aTS _⟩,g1,g2,fun _ _=>rfl,fun z _ hz=>World.putObj_heap_other fun e=>hz it _ hb hs (e▸hx),by simp⟩
def FrR.put2 {F:Nat→Prop}{kp:List Tmp}{τ:List T}{a:Act}{nt t11 t12 p12:Nat}{u:Value}{b:Bool}(h:FrR k F φ w kp τ a)(hlen:τ.length=kp.length)(hsz:a.tmps.size=nt)(h12:t12<nt)(hne:t11≠t12)(hk1:∀p:Nat,kp[p]?≠Z t11)(hk2:kp[p12]?=Z t12)(hk3:∀p:Nat,kp[p]?=Z t12→p=p12):
  FrR k F φ w kp (dl τ p12 (jB b)) ((a.put (Z t11) u).put (Z t12) (.bool b)):=by
 intro p t hp
 rw[qw]
 have hs2:(a.put (Z t11) u).tmps.size=nt:=by
  show(Array.setIfInBounds _ _ _).size=_;rw[Array.size_setIfInBounds];exact hsz
 by_cases ht:t=t12
 ·subst ht
  have:=hk3 p hp
  subst this
  rw[if_pos ⟨rfl,by rw[hs2];exact h12⟩,gg,if_pos ⟨rfl,by rw[hlen];exact(aTU.1 hp).1⟩]
  exact .v _ rfl
 ·rw[if_neg (fun h=>ht h.1),qw,if_neg (fun h=>hk1 p (by rw[hp,h.1])),gg,if_neg]
  ·exact h p t hp
  ·rintro⟨rfl,_⟩
   rw[hk2]at hp
   cases hp
   exact ht rfl
end
structure HdOk (kp:List Tmp) (nt t10 t11 t12 p10 p12:Nat):Prop where
 k10:kp[p10]?=Z t10
 k11:∀p:Nat,kp[p]?≠Z t11
 k12:kp[p12]?=Z t12
 k12':∀p:Nat,kp[p]?=Z t12→p=p12
 l11:t11<nt
 l12:t12<nt
 ne:t11≠t12
section
variable {P:Program} {k:Cls} {Bt:aP} {F0:Nat→Prop} {N:Nat} {φ φ':Nat→Option Nat} {w w':World} {H H':Hp} {S S':List Nat} {cf:av} {fl:Nat}
def SRel.head {kp:List Tmp}{nt t10 t11 t12 p10 p12:Nat}(hd:HdOk kp nt t10 t11 t12 p10 p12){s:St}{a:Act}(hs:SRel k Bt F0 N nt kp s a w φ){H':Hp}(tr:Tr k Bt F0 N φ w s.H s.S φ' w' H' s.S)(u:Value)(b:Bool):
  SRel k Bt F0 N nt kp { s with τ:=dl s.τ p12 (jB b),H:=H' } ((a.put (Z t11) u).put (Z t12) (.bool b)) w' φ' where
 hr:=tr.hr
 fr:=FrR.put2 (fun p t hp=>RT.kp tr.kp (hs.fr p t hp)) hs.len hs.sz hd.l12 hd.ne hd.k11 hd.k12 hd.k12'
 sz:=by
  show(Array.setIfInBounds _ _ _).size=_
  rw[Array.size_setIfInBounds]
  show(Array.setIfInBounds _ _ _).size=_
  rw[Array.size_setIfInBounds]
  exact hs.sz
 len:=by show(dl _ _ _).length=_;rw[ii];exact hs.len
 df:=hs.df.kp tr.kp
 n:=aUd hs.n tr.below.size
def amP {Q:Exit→Act→World→Prop}{id:Nat}{kp:List Tmp}{nt t10 t11 t12 p10 p12:Nat}(hd:HdOk kp nt t10 t11 t12 p10 p12){s:St}{a:Act}(hs:SRel k Bt F0 N nt kp s a w φ){it m n:Nat}{ks:List Nat}{es:List (List Int × List D)}
  (hit:ce s.τ p10=.t (.one (.ptr it 0)))(hH:s.H[it]?=Z (Z (.it m n ks)))(hS:it∉s.S)(hm:s.H[m]?=Z (Z (.mp es)))(hn:es.length=n){opN opE:Oper}
  (hN:opN.op=.next (.tmp t10) aa)(hNd:opN.dst=Z t11)(hNg:opN.guard=U)(hE:opE.op=.extract (.tmp t11) 0)(hEd:opE.dst=Z t12)(hEg:opE.guard=U)
  (hphi:∃x,φ m=Z x)
  (q0:(∀j,j<n→j∈ks)→∀a' w' φ',Tr k Bt F0 N φ w s.H s.S φ' w' s.H s.S→SRel k Bt F0 N nt kp { s with τ:=dl s.τ p12 (jB aa) } a' w' φ'→Q .normal a' w')
  (q1:∀j,j<n→j∉ks→∀a' w' φ',Tr k Bt F0 N φ w s.H s.S φ' w' (s.H.set it (Z (.it m n (ks++[j])))) s.S→SRel k Bt F0 N nt kp { s with τ:=dl s.τ p12 (jB ab),H:=s.H.set it (Z (.it m n (ks++[j]))) } a' w' φ'→Q .normal a' w'):
  (Code.region id #[opN,opE] aa).wpIn (Fr U) 0 P Q a w:=by
 refine wpIn_region_list ?_
 show wpListIn (Fr U) 0 P #[opN,opE] Q [opN,opE] a w
 have hv:=hs.fr p10 t10 hd.k10
 rw[hit]at hv
 obtain⟨x,hx,hv⟩:=hv
 obtain⟨_,bm,hbm,hw⟩:=hs.hr.at_ it _ x hH hx
 obtain⟨_,ens,clk,hwm,hsz,hclk,hborn,_⟩:=hs.hr.at_ m _ bm hm hbm
 have hcn:clk=n:=by rw[hclk,hsz,hn]
 subst hcn
 have ev10:a.eval (.tmp t10)=.pointer (Z ⟨x,0,U⟩):=hv
 unfold wpListIn
 rw[if_pos (by unfold Region.wanted;rw[hNg])]
 have second:∀(u:Value) (b:Bool) (vs:Array Value) (w1:World),u=.tuple vs→vs[0]?=Z (.bool b)→Q .normal ((a.put (Z t11) u).put (Z t12) (.bool b)) w1→wpListIn (Fr U) 0 P #[opN,opE] Q [opE] (a.put (Z t11) u) w1:=by
  intro u b vs w1 hu h0 hq
  subst hu
  unfold wpListIn
  rw[if_pos (by unfold Region.wanted;rw[hEg])]
  have ev11:(a.put (Z t11) (.tuple vs)).eval (.tmp t11)=.tuple vs:=by
   show(a.put (Z t11) (.tuple vs)).tmps.getD t11 undef=.tuple vs
   rw[qw,if_pos ⟨rfl,by rw[hs.sz];exact hd.l11⟩]
  refine vC (G:=fun u' w'=>u'=.bool b∧w'=w1) (by rw[hE];rfl) ?_ ?_
  ·have:(execOp (a.put (Z t11) (.tuple vs)).eval opE).run P w1=.ok (.value (.bool b)) w1:=by
    have hx:(Instr.extract (.tuple vs) 0).run P w1=.ok (.bool b) w1:=by simp only[Instr.extract,h0];rfl
    simp only[execOp,hE,ev11]
    show((Instr.extract (.tuple vs) 0) >>= fun v=>pure (Next.value v):Sem Next).run P w1=_
    rw[Sem.run_bind,hx]
    rfl
   rw[this]
   exact⟨rfl,rfl⟩
  ·rintro u' w' ⟨rfl,rfl⟩
   rw[hEd]
   unfold wpListIn
   exact hq
 rcases aA5 (P:=P) opN.type hw hwm (by rw[hclk]) hborn with⟨hall,hrun⟩|⟨j,e,he,hj,w1,hw1,hrun⟩
 ·refine vC (G:=fun u' w'=>u'=.tuple #[.bool aa]∧w'=w) (by rw[hN];rfl) ?_ ?_
  ·have:(execOp a.eval opN).run P w=.ok (.value (.tuple #[.bool aa])) w:=by
    simp only[execOp,hN,ev10,Sem.run_bind,hrun,Result.andThen_ok]
    rfl
   rw[this]
   exact⟨rfl,rfl⟩
  ·rintro u' w' ⟨rfl,rfl⟩
   rw[hNd]
   refine second _ aa _ _ rfl rfl ?_
   exact q0 hall _ _ _ (Tr.refl hs.hr) (hs.head hd (Tr.refl hs.hr) _ aa)
 ·have hjn:j<clk:=by
   have:=(Array.getElem?_eq_some_iff.1 he).1
   omega
  have tr1:Tr k Bt F0 N φ w s.H s.S φ w1 s.H s.S:=by
   rcases hw1 with rfl|rfl
   ·exact Tr.refl hs.hr
   ·exact Tr.drew hs.hr hs.n
  have hw':w1.heap[x]?=Z (.mapIter (Z bm) clk ks.toArray clk):=by rcases hw1 with rfl|rfl<;>exact hw
  have tr2:=tr1.trans (Tr.iter tr1.hr (aUd hs.n tr1.below.size) hH hS hx hbm (ks':=ks++[j]) hw')
  refine vC (G:=fun u' w'=>u'=.tuple #[.bool ab,e.key,e.val]∧w'=w1.putObj x (.mapIter (Z bm) clk (ks++[j]).toArray clk)) (by rw[hN];rfl) ?_ ?_
  ·have:(execOp a.eval opN).run P w=.ok (.value (.tuple #[.bool ab,e.key,e.val])) (w1.putObj x (.mapIter (Z bm) clk (ks++[j]).toArray clk)):=by
    simp only[execOp,hN,ev10,Sem.run_bind,hrun,Result.andThen_ok]
    rfl
   rw[this]
   exact⟨rfl,rfl⟩
  ·rintro u' w' ⟨rfl,rfl⟩
   rw[hNd]
   refine second _ ab _ _ rfl rfl ?_
   exact q1 j hjn hj _ _ _ tr2 (hs.head hd tr2 _ ab)
end
def kw:List Nat→List Nat→Bool
 |[],[]=>ab
 |x::r,y::s=>match ai x y with|true=>kw r s|false=>aa
 |_,_=>aa
def sa:∀{l m:List Nat},kw l m=ab→l=m
 |[],[],_=>rfl
 |x::r,y::s,h=>by
  unfold kw at h
  split at h
  ·rename_i he;rw[aT1 he,sa h]
  ·cases h
 |[],_::_,h=>by simp[kw]at h
 |_::_,[],h=>by simp[kw]at h
def rq (s:St)(p10 it m n:Nat)(ks:List Nat):Bool:=
 (match ce s.τ p10 with|.t (.one (.ptr b 0))=>ai b it|_=>aa)&&
 (match s.H[it]? with|some (Z (.it m' n' ks'))=>ai m' m&&ai n' n&&kw ks' ks|_=>aa)&&
 !(s.S.elem it)&&
 (match s.H[m]? with|some (Z (.mp es))=>ai es.length n|_=>aa)
def agY {s:St}{p10 it m n:Nat}{ks:List Nat}(h:rq s p10 it m n ks=ab):
  ce s.τ p10=.t (.one (.ptr it 0))∧s.H[it]?=Z (Z (.it m n ks))∧it∉s.S∧∃es,s.H[m]?=Z (Z (.mp es))∧es.length=n:=by
 unfold rq at h
 simp only[aTT]at h
 obtain⟨⟨⟨h1,h2⟩,h3⟩,h4⟩:=h
 refine⟨?_,?_,by simpa using h3,?_⟩
 ·split at h1
  ·rename_i b hb
   rw[hb,aT1 h1]
  ·cases h1
 ·split at h2
  ·rename_i m' n' ks' hb
   simp only[aTT]at h2
   rw[hb,aT1 h2.1.1,aT1 h2.1.2,sa h2.2]
  ·cases h2
 ·split at h4
  ·rename_i es hb
   exact⟨es,hb,aT1 h4⟩
  ·cases h4
def fF (cf:av)(fl:Nat)(BD:CC)(p10 p12 it m n:Nat):List Nat→List Nat→St→Option St
 |[],_,s=>Z { s with τ:=dl s.τ p12 (jB aa) }
 |j::r,ks,s=>
  match am cf fl BD { s with τ:=dl s.τ p12 (jB ab),H:=s.H.set it (Z (.it m n (ks++[j]))),W:=it::s.W } with
  |some (.normal,s')=>if rq s' p10 it m n (ks++[j]) then fF cf fl BD p10 p12 it m n r (ks++[j]) s' else U
  |_=>U
section
variable {P:Program} {k:Cls} {Bt:aP} {F0:Nat→Prop} {N:Nat} {φ φ':Nat→Option Nat} {w w':World} {H H':Hp} {S S':List Nat} {cf:av} {fl:Nat}
def ag1 {ks ρ:List Nat}{n:Nat}(h:(ks++ρ).Perm (List.range n))(hall:∀j,j<n→j∈ks):ρ=[]:=by
 cases ρ with
 |nil=>rfl
 |cons j r=>
  have hnd:(ks++j::r).Nodup:=h.nodup_iff.2 List.nodup_range
  have hj:j∈List.range n:=h.mem_iff.1 (by simp)
  have:=hall j (by simpa using hj)
  rw[List.nodup_append]at hnd
  exact absurd rfl (hnd.2.2 j this j (by simp))
def avG {ks ρ:List Nat}{n j:Nat}(h:(ks++ρ).Perm (List.range n))(hj:j<n)(hn:j∉ks):∃ρ',(ks++(j::ρ')).Perm (List.range n):=by
 have:j∈ks++ρ:=h.mem_iff.2 (by simpa using hj)
 rcases List.mem_append.1 this with h'|h'
 ·exact absurd h' hn
 ·obtain⟨a,b,rfl⟩:=List.append_of_mem h'
  refine⟨a++b,(List.Perm.append_left ks ?_).trans h⟩
  exact List.perm_middle.symm
def axz (hcf:gF P k Bt cf)(hm:P.follows .mixedOrders=ab){Q:Exit→Act→World→Prop}{id:Nat}{kp:List Tmp}{nt t10 t11 t12 p10 p12:Nat}(hd:HdOk kp nt t10 t11 t12 p10 p12){opN opE:Oper}
  (hN:opN.op=.next (.tmp t10) aa)(hNd:opN.dst=Z t11)(hNg:opN.guard=U)(hE:opE.op=.extract (.tmp t11) 0)(hEd:opE.dst=Z t12)(hEg:opE.guard=U)
  {BD:CC}{BD':Code}(hc:ln P nt kp Bt aa BD BD'){it m n:Nat}{w0:World}{φ0:Nat→Option Nat}{H0:Hp}{S0:List Nat}(Good:St→Prop)
  (fin:∀s4 a' w' φ',Good s4→SRel k Bt F0 N nt kp s4 a' w' φ'→Tr k Bt F0 N φ0 w0 H0 S0 φ' w' s4.H s4.S→Q (.exit 0) a' w'):
  ∀(r:Nat) (ks:List Nat) (s:St) (a:Act) (w:World) (φ:Nat→Option Nat),rq s p10 it m n ks=ab→SRel k Bt F0 N nt kp s a w φ→Tr k Bt F0 N φ0 w0 H0 S0 φ w s.H s.S→n-ks.length=r→(∃ρ,(ks++ρ).Perm (List.range n))→(∃x,φ m=Z x)→
   (∀ρ,(ks++ρ).Perm (List.range n)→∃s4,fF cf fl BD p10 p12 it m n ρ ks s=Z s4∧Good s4)→
   Code.roundsIn (Fr U) 0 P (.seq (.region id #[opN,opE] aa) (.seq (.cond (.tmp t12) .skip (.exit 0)) (.block 1 BD'))) Q (r+1) a w:=by
 intro r
 induction r with
 |zero=>
  intro ks s a w φ hok hs tr hr hex hphi hgood
  obtain⟨ρ,hρ⟩:=hex
  have hlen:=hρ.length_eq
  simp at hlen
  have hall:∀j,j<n→j∈ks:=by
   intro j hj
   have:j∈ks++ρ:=hρ.mem_iff.2 (by simpa using hj)
   have hρ0:ρ=[]:=List.eq_nil_of_length_eq_zero (by omega)
   simpa [hρ0]using this
  obtain⟨h1,h2,h3,es,h4,h5⟩:=agY hok
  rw[roundsIn_succ]
  refine wpIn_seq (amP hd hs h1 h2 h3 h4 h5 hN hNd hNg hE hEd hEg hphi (fun _ a' w' φ' tr' hs'=>?_) (fun j hj hn=>absurd (hall j hj) hn))
  refine wpIn_seq (wpIn_cond_false ?_ (wpIn_exit ?_))
  ·have:=hs'.fr p12 t12 hd.k12
   rw[gg,if_pos ⟨rfl,by rw[hs.len];exact(aTU.1 hd.k12).1⟩]at this
   exact cF (x:=.bool aa) rfl this
  ·obtain⟨s4,e4,g4⟩:=hgood [] (by rw[ag1 hρ hall]at hρ;exact hρ)
   simp only[fF,Option.some.injEq]at e4
   subst e4
   exact fin _ _ _ _ g4 hs' (tr.trans tr')
 |succ r ih=>
  intro ks s a w φ hok hs tr hr hex hphi hgood
  obtain⟨ρ,hρ⟩:=hex
  obtain⟨h1,h2,h3,es,h4,h5⟩:=agY hok
  rw[roundsIn_succ]
  have last:∀a' w' φ',(∀j,j<n→j∈ks)→Tr k Bt F0 N φ w s.H s.S φ' w' s.H s.S→SRel k Bt F0 N nt kp { s with τ:=dl s.τ p12 (jB aa) } a' w' φ'→Q (.exit 0) a' w':=by
   intro a' w' φ' hall tr' hs'
   obtain⟨s4,e4,g4⟩:=hgood [] (by rw[ag1 hρ hall]at hρ;exact hρ)
   simp only[fF,Option.some.injEq]at e4
   subst e4
   exact fin _ _ _ _ g4 hs' (tr.trans tr')
  refine wpIn_seq (amP hd hs h1 h2 h3 h4 h5 hN hNd hNg hE hEd hEg hphi (fun hall a' w' φ' tr' hs'=>?_) (fun j hj hn a' w' φ' tr' hs'=>?_))
  ·refine wpIn_seq (wpIn_cond_false ?_ (wpIn_exit ?_))
   ·have:=hs'.fr p12 t12 hd.k12
    rw[gg,if_pos ⟨rfl,by rw[hs.len];exact(aTU.1 hd.k12).1⟩]at this
    exact cF (x:=.bool aa) rfl this
   ·exact last _ _ _ hall tr' hs'
  ·refine wpIn_seq (wpIn_cond_true ?_ (wpIn_skip ?_))
   ·have:=hs'.fr p12 t12 hd.k12
    rw[gg,if_pos ⟨rfl,by rw[hs.len];exact(aTU.1 hd.k12).1⟩]at this
    exact cF (x:=.bool ab) rfl this
   ·obtain⟨ρ',hρ'⟩:=avG hρ hj hn
    obtain⟨s4,e4,_⟩:=hgood (j::ρ') hρ'
    simp only[fF]at e4
    split at e4
    ·rename_i s' he
     split at e4
     ·rename_i hok'
      refine wpIn_block ?_
      refine iL hcf hm (.inr rfl) BD BD' hc he ⟨hs'.hr,hs'.fr,hs'.sz,hs'.len,hs'.df,hs'.n⟩ fun a'' w'' φ'' tr'' hs''=>?_
      have hlen:=hρ'.length_eq
      simp at hlen
      refine ih (ks++[j]) s' a'' w'' φ'' hok' hs'' ((tr.trans tr').trans tr'') (by simp;omega) ⟨ρ',by simpa using hρ'⟩ ?_ ?_
      ·obtain⟨x,hx⟩:=hphi
       exact⟨x,tr''.kp.phi m x (tr'.kp.phi m x hx)⟩
      ·intro ρ2 hρ2
       obtain⟨s5,e5,g5⟩:=hgood (j::ρ2) (by simpa using hρ2)
       simp only[fF,he,hok',if_true]at e5
       exact⟨s5,e5,g5⟩
     ·cases e4
    ·cases e4
def ada (hcf:gF P k Bt cf){BD:CC}{p10 p12 it m n:Nat}:∀(ρ ks:List Nat) (s s4:St),fF cf fl BD p10 p12 it m n ρ ks s=Z s4→(∀b∈s.W,b∈s4.W)∧Fm s.H s4.W s4.H
 |[],ks,s,s4,h=>by
  simp only[fF,Option.some.injEq]at h
  subst h
  exact⟨fun _ h=>h,Fm.refl _ _⟩
 |j::r,ks,s,s4,h=>by
  simp only[fF]at h
  split at h
  ·rename_i s' he
   split at h
   ·obtain⟨a1,a2⟩:=iK hcf _ _ _ _ he
    obtain⟨b1,b2⟩:=ada hcf r _ _ _ h
    refine⟨fun b hb=>b1 b (a1 b (aT8 _ hb)),?_⟩
    refine⟨aUd (by simpa using a2.1) b2.1,fun c hc hW=>?_⟩
    have hit:it∈s4.W:=b1 it (a1 it aT0)
    have hne:it≠c:=fun e=>hW (e▸hit)
    rw[b2.2 c (aUj hc (by simpa using a2.1)) hW,a2.2 c (by simpa using hc) (fun h=>hW (b1 c h))]
    exact aUn hne
   ·cases h
  ·cases h
end
def su:IntKind→Nat
 |.i8=>0|.i16=>1|.i32=>2|.i64=>3|.u8=>4|.u16=>5|.u32=>6|.u64=>7
def sv {a b:IntKind}(h:su a=su b):a=b:=by cases a<;>cases b<;>first|rfl|cases h
def co:Int→Int→Bool
 |.ofNat a,.ofNat b=>ai a b
 |.negSucc a,.negSucc b=>ai a b
 |_,_=>aa
def gp {a b:Int}(h:co a b=ab):a=b:=by
 unfold co at h
 split at h
 ·rw[aT1 h]
 ·rw[aT1 h]
 ·cases h
def eqV:Value→Value→Bool
 |.int q a,.int q' b=>if ai (su q) (su q') then co a b else aa
 |.bool a,.bool b=>a==b
 |.slice U a b,.slice U c d=>if ai a c then ai b d else aa
 |_,_=>aa
def atn {x y:Value}(h:eqV x y=ab):x=y:=by
 unfold eqV at h
 split at h
 ·split at h
  ·rename_i hk;rw[sv (aT1 hk),gp h]
  ·cases h
 ·rw[beq_iff_eq.1 h]
 ·split at h
  ·rename_i hk;rw[aT1 hk,aT1 h]
  ·cases h
 ·cases h
def aeV:List Value→List Value→Bool
 |[],[]=>ab
 |a::l,b::r=>if eqV a b then aeV l r else aa
 |_,_=>aa
def amE:∀{l m:List Value},aeV l m=ab→l=m
 |[],[],_=>rfl
 |x::r,y::s,h=>by
  unfold aeV at h
  split at h
  ·rename_i he;rw[atn he,amE h]
  ·cases h
 |[],_::_,h=>by simp[aeV]at h
 |_::_,[],h=>by simp[aeV]at h
def abY:Pl→Pl→Bool
 |[],[]=>ab
 |(m,c)::r,(m',c')::s=>if kw m m' then (if co c c' then abY r s else aa) else aa
 |_,_=>aa
def aeU:∀{l m:Pl},abY l m=ab→l=m
 |[],[],_=>rfl
 |(m,c)::r,(m',c')::s,h=>by
  unfold abY at h
  split at h
  ·rename_i h1
   split at h
   ·rename_i h2;rw[sa h1,gp h2,aeU h]
   ·cases h
  ·cases h
 |[],_::_,h=>by simp[abY]at h
 |_::_,[],h=>by simp[abY]at h
mutual
def eD:C→C→Bool
 |.v x,.v y=>eqV x y
 |.vec l,.vec m=>aeV l m
 |.mag l,.mag m=>kw l m
 |.sl n l,.sl m r=>if ai n m then eqCs l r else false
 |.sy q l,.sy q' m=>if ai (su q) (su q') then abY l m else false
 |.smag l,.smag m=>abY l m
 |.big n,.big m=>ai n m
 |_,_=>false
def eqCs:List C→List C→Bool
 |[],[]=>true
 |a::l,b::r=>if eD a b then eqCs l r else false
 |_,_=>false
end
mutual
theorem eqC_ok:∀{x y:C},eD x y=true→x=y
 |.v x,.v y,h=>by rw[atn (x:=x) (y:=y) (by simpa [eD]using h)]
 |.vec l,.vec m,h=>by rw[amE (l:=l) (m:=m) (by simpa [eD]using h)]
 |.mag l,.mag m,h=>by rw[sa (l:=l) (m:=m) (by simpa [eD]using h)]
 |.sl n l,.sl m r,h=>by
  rw[eD]at h
  split at h
  ·rename_i he;rw[aT1 he,eqCs_ok h]
  ·cases h
 |.sy q l,.sy q' m,h=>by
  rw[eD]at h
  split at h
  ·rename_i he;rw[sv (aT1 he),aeU h]
  ·cases h
 |.smag l,.smag m,h=>by rw[aeU (l:=l) (m:=m) (by simpa [eD]using h)]
 |.big n,.big m,h=>by rw[aT1 (show ai n m=true by simpa [eD]using h)]
 |.v _,.vec _,h|.v _,.mag _,h|.v _,.sl _ _,h|.v _,.sy _ _,h|.v _,.smag _,h|.vec _,.v _,h|.vec _,.mag _,h|.vec _,.sl _ _,h|.vec _,.sy _ _,h|.vec _,.smag _,h|.mag _,.v _,h|.mag _,.vec _,h|.mag _,.sl _ _,h|.mag _,.sy _ _,h|.mag _,.smag _,h|.sl _ _,.v _,h|.sl _ _,.vec _,h|.sl _ _,.mag _,h|.sl _ _,.sy _ _,h|.sl _ _,.smag _,h|.sy _ _,.v _,h|.sy _ _,.vec _,h|.sy _ _,.mag _,h|.sy _ _,.sl _ _,h|.sy _ _,.smag _,h|.smag _,.v _,h|.smag _,.vec _,h|.smag _,.mag _,h|.smag _,.sl _ _,h|.smag _,.sy _ _,h=>by simp[eD]at h
 |.v _,.big _,h|.vec _,.big _,h|.mag _,.big _,h|.sl _ _,.big _,h|.sy _ _,.big _,h|.smag _,.big _,h|.big _,.v _,h|.big _,.vec _,h|.big _,.mag _,h|.big _,.sl _ _,h|.big _,.sy _ _,h|.big _,.smag _,h=>by simp[eD]at h
theorem eqCs_ok:∀{l m:List C},eqCs l m=true→l=m
 |[],[],_=>rfl
 |x::r,y::s,h=>by
  rw[eqCs]at h
  split at h
  ·rename_i he;rw[eqC_ok he,eqCs_ok h]
  ·cases h
 |[],_::_,h=>by simp[eqCs]at h
 |_::_,[],h=>by simp[eqCs]at h
end
structure Col where
 nk:Nat
 pin:List (Option Nat)
 A:CC
 B:CC
 R2:CC
 BD:CC
 RS:CC
 res:List Rs1
 p10:Nat
 p12:Nat
def nz (n:Nat)(S:List Nat):List Nat→Bool
 |[]=>ab
 |b::r=>if ah b n then (if S.elem b then nz n S r else aa) else nz n S r
def ff (n:Nat):List Nat→Bool
 |[]=>ab
 |b::r=>if ah b n then aa else ff n r
def wB {n:Nat}{S:List Nat}:∀{l:List Nat},nz n S l=ab→∀b∈l,b<n→b∈S
 |[],_,b,hb,_=>by simp at hb
 |c::r,h,b,hb,hlt=>by
  unfold nz at h
  split at h
  ·split at h
   ·rename_i hS
    rcases aTZ.1 hb with rfl|hb
    ·simpa using hS
    ·exact wB h b hb hlt
   ·cases h
  ·rename_i hn
   rcases aTZ.1 hb with rfl|hb
   ·exact absurd (by simpa using hlt) hn
   ·exact wB h b hb hlt
def akg {n:Nat}:∀{l:List Nat},ff n l=ab→∀b∈l,n≤b
 |[],_,b,hb=>by simp at hb
 |c::r,h,b,hb=>by
  unfold ff at h
  split at h
  ·cases h
  ·rename_i hn
   rcases aTZ.1 hb with rfl|hb
   ·simpa using hn
   ·exact akg h b hb
def tS (cf:av)(fl:Nat)(q:Col)(n:Nat)(S:List Nat)(s4:St):Option (List V1 × Nat):=
 match am cf fl q.RS s4 with
 |none=>U
 |some (.exit _,_)=>U
 |some (_,s5)=>
  match dT s5.dfs s5.H s5.S with
  |none=>U
  |some H1=>
   match fu H1 s5.τ q.res with
   |none=>U
   |some l=>
    match mj l with
    |none=>U
    |some y=>
     match li H1 y with
     |none=>U
     |some (rs,bs)=>if ff n (s5.dfs++s5.W)&&nz n S s5.S&&nz n S bs&&aTQ n H1.length then Z (rs,H1.length) else U
def aiQ (cf:av)(fl:Nat)(q:Col)(it m n h0:Nat)(S:List Nat)(s3:St)(ρ:List Nat):Option (List V1 × Nat):=
 match fF cf fl q.BD q.p10 q.p12 it m n ρ [] s3 with
 |some s4=>tS cf fl q h0 S s4
 |none=>U
def iw:Nat→Hp
 |0=>[]
 |n+1=>U::iw n
def avp (n b:Nat)(y:Blk):(iw n)[b]?≠Z (Z y):=by
 induction n generalizing b with
 |zero=>simp[iw]
 |succ n ih=>cases b with
  |zero=>simp[iw]
  |succ b=>simpa [iw]using ih b
def avq (n:Nat):(iw n).length=n:=by induction n with|zero=>rfl|succ n ih=>simp[iw,ih]
section
variable {P:Program} {k:Cls} {Bt:aP} {F0:Nat→Prop} {N:Nat} {φ φ':Nat→Option Nat} {w w':World} {H H' H1:Hp} {S S' S1:List Nat} {cf:av} {fl:Nat}
def avJ (hN:N≤w.heap.size)(tr:Tr k Bt F0 N φ w H S φ' w' H1 S1)(hl:H.length≤H1.length)(hsame:∀b,b<H.length→H1[b]?=H[b]?){bs:List Nat}(h1:∀b∈S1,b<H.length→b∈S)(h2:∀b∈bs,b<H.length→b∈S)
  {rs:List V1}{u:Value}(hr:RT k (Fo F0 φ' H1 (bs++S1)) φ0 w' (oE rs) u):Post k Bt F0 N φ w H S (H++iw (H1.length-H.length)) S (oE rs) u w':=by
 have get:∀(b:Nat) (y:Blk),(H++iw (H1.length-H.length))[b]?=Z (Z y)→b<H.length∧H[b]?=Z (Z y)∧H1[b]?=Z (Z y):=by
  intro b y hb
  rw[List.getElem?_append]at hb
  split at hb
  ·rename_i hlt
   exact⟨hlt,hb,by rw[hsame b hlt];exact hb⟩
  ·exact absurd hb (avp _ _ _)
 have hF:∀x,Fo F0 φ' (H++iw (H1.length-H.length)) S x→Fo F0 φ' H1 (bs++S1) x:=by
  rintro x (h|⟨b,y,hb,hs,hx⟩)
  ·exact .inl h
  ·obtain⟨hlt,_,hb1⟩:=get b y hb
   refine .inr ⟨b,y,hb1,fun hm=>hs ?_,hx⟩
   rcases List.mem_append.1 hm with hm|hm
   ·exact h2 b hm hlt
   ·exact h1 b hm hlt
 have hF1:∀x,Fo F0 φ' (H++iw (H1.length-H.length)) S x→Fo F0 φ' H1 S1 x:=by
  rintro x (h|⟨b,y,hb,hs,hx⟩)
  ·exact .inl h
  ·obtain⟨hlt,_,hb1⟩:=get b y hb
   exact .inr ⟨b,y,hb1,fun hm=>hs (h1 b hm hlt),hx⟩
 have hF2:∀x,Fo F0 φ' (H++iw (H1.length-H.length)) S x→Fo F0 φ H S x:=by
  rintro x (h|⟨b,y,hb,hs,hx⟩)
  ·exact .inl h
  ·obtain⟨hlt,hb0,_⟩:=get b y hb
   exact .inr ⟨b,y,hb0,hs,by rw[← tr.same b hlt];exact hx⟩
 have q1:Kp (Fo F0 φ' H1 S1) φ' w' (Fo F0 φ' (H++iw (H1.length-H.length)) S) φ' w':=⟨fun _ _ h=>h,fun x _ hf=>⟨rfl,fun h=>hf (hF1 x h)⟩,fun _ vs _ _ h=>⟨vs,h,rfl⟩⟩
 have hlen:(H++iw (H1.length-H.length)).length=H1.length:=by rw[aTW,avq];omega
 refine⟨φ',tr.below,⟨fun b hb=>tr.hr.dom b (by rw[← hlen];exact hb),fun x hx=>?_,fun b b' y y' x hb hb'=>?_,fun b y x hb hx=>?_⟩,?_,?_,tr.same,tr.old⟩
 ·obtain⟨a1,a2,a3⟩:=tr.hr.f0 x hx
  exact⟨a1,fun b y hb=>a2 b y (get b y hb).2.2,a3⟩
 ·exact tr.hr.inj b b' y y' x (get b y hb).2.2 (get b' y' hb').2.2
 ·obtain⟨a1,a2⟩:=tr.hr.at_ b y x (get b y hb).2.2 hx
  exact⟨a1,RB.kp q1 a2 rfl⟩
 ·exact⟨tr.kp.phi,fun x hx hf=>⟨(tr.kp.keep x hx hf).1,fun h=>hf (hF2 x h)⟩,tr.kp.size⟩
 ·refine RT.of_nil ?_
  exact RT.kp (φ:=φ0) (φ':=φ0) ⟨fun _ _ h=>h,fun x _ hf=>⟨rfl,fun h=>hf (hF x h)⟩,fun _ vs _ _ h=>⟨vs,h,rfl⟩⟩ hr
end
section
variable {P:Program} {k:Cls} {Bt:aP} {cf:av} {fl:Nat}
end
def zi (t:Nat):List Nat→Bool
 |[]=>ab
 |x::r=>if ai x t then aa else zi t r
def zj {t:Nat}:∀{l:List Nat},zi t l=ab→∀p:Nat,l[p]?≠Z t
 |[],_,p=>by simp
 |x::r,h,p=>by
  unfold zi at h
  split at h
  ·cases h
  ·rename_i hx
   cases p with
   |zero=>simp;intro e;exact hx (by rw[e];exact Nat.beq_refl t)
   |succ p=>simpa using zj h p
def ru (t p:Nat):List Nat→Bool
 |[]=>aa
 |x::r=>match p with|0=>ai x t&&zi t r|p+1=>!(ai x t)&&ru t p r
def sL {t:Nat}:∀{l:List Nat} {p:Nat},ru t p l=ab→l[p]?=Z t∧∀p':Nat,l[p']?=Z t→p'=p
 |[],_,h=>by simp[ru]at h
 |x::r,0,h=>by
  simp only[ru,aTT]at h
  have hx:=aT1 h.1
  subst hx
  refine⟨rfl,fun p' hp=>?_⟩
  cases p' with
  |zero=>rfl
  |succ p'=>exact absurd (by simpa using hp) (zj h.2 p')
 |x::r,p+1,h=>by
  simp only[ru,aTT]at h
  obtain⟨a,b⟩:=sL h.2
  refine⟨by simpa using a,fun p' hp=>?_⟩
  cases p' with
  |zero=>
   simp at hp
   subst hp
   have:=h.1
   simp at this
  |succ p'=>rw[b p' (by simpa using hp)]
def aps (kp:List Nat)(nt t10 t11 t12 p10 p12:Nat):Bool:=
 ru t10 p10 kp&&zi t11 kp&&ru t12 p12 kp&&ah t11 nt&&ah t12 nt&&!(ai t11 t12)
def aya {kp:List Nat}{nt t10 t11 t12 p10 p12:Nat}(h:aps kp nt t10 t11 t12 p10 p12=ab):HdOk kp nt t10 t11 t12 p10 p12:=by
 unfold aps at h
 simp only[aTT]at h
 obtain⟨⟨⟨⟨⟨h1,h2⟩,h3⟩,h4⟩,h5⟩,h6⟩:=h
 refine⟨(sL h1).1,zj h2,(sL h3).1,(sL h3).2,by simpa using h4,by simpa using h5,fun e=>?_⟩
 subst e
 simp at h6
section
variable {P:Program} {k:Cls} {cf:av} {fl:Nat}
end
inductive Res where
 |no
 |ok (y:T) (H:Hp) (S W:List Nat) (rd:Option Nat)
abbrev dO:=av→List T→List T→Hp→List Nat→Res
def bu (cf:av)(ys τ:List T)(H:Hp)(S:List Nat)(op:COp):Option (T × Hp × List Nat × List Nat × Option Nat):=
 match kd op with
 |.r=>match eY H (bD ys τ) op with|some (y,rd)=>Z (y,H,S,[],rd)|none=>U
 |.a=>match sc H.length (bD ys τ) op with|some (x,y)=>Z (y,H++[Z x],S,[],U)|none=>U
 |.o=>match fZ cf H S (bD ys τ) op with|some (y,H',S',W)=>Z (y,H',S',W,U)|none=>U
def rY (H:Hp)(S:List Nat)(rd:Option Nat):Option T→Res
 |some y=>.ok y H S [] rd
 |none=>.no
def rA (H:Hp)(S:List Nat):Option (Blk × T)→Res
 |some (x,y)=>.ok y (H++[Z x]) S [] U
 |none=>.no
def rH (S W:List Nat):Option (T × Hp)→Res
 |some (y,H)=>.ok y H S W U
 |none=>.no
def aKW (l:List T):Nat→T:=@List.rec T (fun _=>Nat→T) (fun _=>.nil) (fun t _ ih n=>@Nat.rec (fun _=>T) t (fun m _=>ih m) n) l
def bP (ys τ:List T)(o:Od):T:=@Od.rec (fun _=>T) (fun d=>aKW ys d) (fun p=>aKW τ p) (fun t=>t) .nil o
def oMv (a:Od):dO:=fun _ ys τ H S=>.ok (bP ys τ a) H S [] U
def aO4 (c a b:Od):dO:=fun _ ys τ H S=>rY H S U (qr (bP ys τ c) (bP ys τ a) (bP ys τ b))
def oLd (ag:Bool)(n:Nat)(a:Od):dO:=fun _ ys τ H S=>rY H S (iu (bP ys τ a)) (lW ag n H (bP ys τ a))
def aSr (n:Nat)(a:Od):dO:=fun _ ys τ H S=>rY H S U (aax n (bP ys τ a))
def aO3 (ag:Bool)(n p:Nat)(a:Od):dO:=fun _ ys τ H S=>rY H S U (uh ag n p (bP ys τ a))
def aSk (s:Nat)(a i:Od):dO:=fun _ ys τ H S=>rY H S U (ns s (bP ys τ a) (bP ys τ i))
def aSj (len s:Nat)(a i:Od):dO:=fun _ ys τ H S=>rY H S U (vX len s (bP ys τ a) (bP ys τ i))
def oAt (ag:Bool)(n len:Nat)(a i:Od):dO:=fun _ ys τ H S=>rY H S U (aeW ag n len (bP ys τ a) (bP ys τ i))
def aSi (i:Nat)(a:Od):dO:=fun _ ys τ H S=>rY H S U (iM (bP ys τ a) i)
def aO2 (a:Od):dO:=fun _ ys τ H S=>rY H S U (se (bP ys τ a))
def aSb (zs:List D)(pl:List (Nat × Nat))(is:List Nat)(cs:List Od):dO:=fun _ ys τ H S=>rY H S U (aat zs pl (km is (cs.map (bP ys τ))))
def aSe (z:List Value)(s len:Nat)(is:List Nat)(cs:List Od):dO:=fun _ ys τ H S=>rY H S U (tZ z s len (km is (cs.map (bP ys τ))))
def aSt (s:Nat)(a:Od)(lo hi:Option Od):dO:=fun _ ys τ H S=>rY H S U (aay s (bP ys τ a) (qQ (bP ys τ) lo) (qQ (bP ys τ) hi))
def aO6 (n s:Nat)(a:Od):dO:=fun _ ys τ H S=>rY H S (iu (bP ys τ a)) (kx n s H (bP ys τ a))
def aO5 (s:Nat)(a:Od)(lo:Option Od)(hi mx:Od):dO:=fun _ ys τ H S=>rY H S U (ui s (bP ys τ a) (qQ (bP ys τ) lo) (bP ys τ hi) (bP ys τ mx))
def aSm (a:Od):dO:=fun _ ys τ H S=>rY H S U (sd (bP ys τ a))
def aSf (a:Od):dO:=fun _ ys τ H S=>rY H S U (aau (bP ys τ a))
def oPk (p:PK)(cs:List Od):dO:=fun _ ys τ H S=>rY H S U (mT p (cs.map (bP ys τ)))
def aSo (f:FuncId)(cs:List Od):dO:=fun _ ys τ H S=>rY H S U (aaw f (cs.map (bP ys τ)))
def aSl (a i:Od):dO:=fun _ ys τ H S=>rY H S U (adi (bP ys τ a) (bP ys τ i))
def aSn (zs:List D)(m key:Od):dO:=fun _ ys τ H S=>rY H S (iu (bP ys τ m)) (eK zs H (bP ys τ m) (bP ys τ key))
def aO1 (neg:Bool)(a b:Od):dO:=fun _ ys τ H S=>match qG (bP ys τ b)with|true=>rY H S U (ug neg (bP ys τ a))|false=>.no
def aSq (ds:List D):dO:=fun _ _ _ H S=>.ok (.t (.one (.ptr H.length 0))) (H++[Z (.cells ds)]) S [] U
def aSc (a:Od):dO:=fun _ ys τ H S=>match gO (bP ys τ a)with|some ds=>.ok (.t (.one (.ptr H.length 0))) (H++[Z (.cells ds)]) S [] U|none=>.no
def oMk (z:List Value)(s bytes:Nat)(l c:Od):dO:=fun _ ys τ H S=>rA H S (sc H.length (bP ys τ) (.mk z s bytes l c))
def aSd (z:List Value)(s len:Nat)(is:List Nat)(cs:List Od):dO:=fun _ ys τ H S=>rA H S (sc H.length (bP ys τ) (.bsb z s len is cs))
def aSp:dO:=fun _ _ _ H S=>.ok (.t (.one (.mp H.length))) (H++[Z (.mp [])]) S [] U
def aR9 (s bytes:Nat)(d a:Od):dO:=fun _ ys τ H S=>rH S (kV (bP ys τ d)) (bJ s bytes H S (bP ys τ d) (bP ys τ a))
def aOR (z:List Value)(s bytes:Nat)(d n:Od):dO:=fun _ ys τ H S=>rH S [] (qq z s bytes H (bP ys τ d) (bP ys τ n))
def aSg (s:Nat)(d a:Od):dO:=fun _ ys τ H S=>rH S (kV (bP ys τ d)) (nR s H S (bP ys τ d) (bP ys τ a))
def aSu (n:Nat)(a y:Od):dO:=fun _ ys τ H S=>match j1 n H S (bP ys τ a) (bP ys τ y)with|some H'=>.ok .nil H' S (kV (bP ys τ a)) U|none=>.no
def aOV (m key y:Od):dO:=fun _ ys τ H S=>match gu H S (bP ys τ m) (bP ys τ key) (bP ys τ y)with|some H'=>.ok .nil H' S (kV (bP ys τ m)) U|none=>.no
def aOS (g:Od)(cs:List Od):dO:=fun cf ys τ H S=>match cf (bP ys τ g) (cs.map (bP ys τ)) H S with|some (y,H',S',W)=>.ok y H' S' W U|none=>.no
def aSs (a:Od):dO:=fun _ ys τ H S=>rH S [] (vY H (bP ys τ a))
def aSh (a:Od):dO:=fun _ ys τ H S=>rY H S U (pe H (bP ys τ a))
def aOU (a:Od):dO:=fun _ ys τ H S=>rY H S U (uf H (bP ys τ a))
def aSa:dO:=fun _ _ _ _ _=>.no
def opF:COp→dO
 |.mv a=>oMv a
 |.pick c a b=>aO4 c a b
 |.ld ag n a=>oLd ag n a
 |.off n a=>aSr n a
 |.part ag n p a=>aO3 ag n p a
 |.ixS s a i=>aSk s a i
 |.ixR len s a i=>aSj len s a i
 |.at_ ag n len a i=>oAt ag n len a i
 |.ext i a=>aSi i a
 |.nilc a=>aO2 a
 |.bld zs pl is cs=>aSb zs pl is cs
 |.bsl z s len is cs=>aSe z s len is cs
 |.slc s a lo hi=>aSt s a lo hi
 |.slcR n s a=>aO6 n s a
 |.slc3 s a lo hi mx=>aO5 s a lo hi mx
 |.len a=>aSm a
 |.cap a=>aSf a
 |.pk p cs=>oPk p cs
 |.mkf f cs=>aSo f cs
 |.ixc a i=>aSl a i
 |.lku zs m key=>aSn zs m key
 |.nilS neg a b=>aO1 neg a b
 |.new ds=>aSq ds
 |.box a=>aSc a
 |.mk z s bytes l c=>oMk z s bytes l c
 |.mkm=>aSp
 |.bsb z s len is cs=>aSd z s len is cs
 |.app s bytes d a=>aR9 s bytes d a
 |.appz z s bytes d n=>aOR z s bytes d n
 |.cpy s d a=>aSg s d a
 |.sto n a y=>aSu n a y
 |.mset m key y=>aOV m key y
 |.call g cs=>aOS g cs
 |.rng a=>aSs a
 |.ent a=>aSh a
 |.lenM a=>aOU a
 |.bad=>aSa
def aBm (cf:av)(ys τ:List T)(H:Hp)(S:List Nat)(o:Ro1):hZ cf ys τ H S o=match ia ys o.gd with|none=>U|some aa=>Z (.tup [],H,S,[],U)|some ab=>bu cf ys τ H S o.op:=by
 unfold hZ bu
 rfl
structure FO where
 gd:Option (Nat × Bool)
 kp:Option Nat
 lo:List Nat
 f:dO
def aRE (o:Ro1):FO:=⟨o.gd,o.kp,o.lo,opF o.op⟩
def aTC:List Nat→List Nat→List Nat
 |[],W=>W
 |l,W=>l++W
def aKl (inf:List (Option Nat × List Nat))(rd:Option Nat)(W:List Nat):List Nat→Bool
 |[]=>ab
 |l=>rr inf rd W l
def aFc (inf:List (Option Nat × List Nat))(rd:Option Nat)(W l:List Nat):aKl inf rd W l=rr inf rd W l:=by cases l<;>rfl
inductive CF where
 |skip
 |reg (os:List FO)
 |seq (a b:CF)
 |cond (c:Od) (t e:CF)
 |block (id:Nat) (b:CF)
 |loop (b:CF)
 |rf (g:Od) (i:Nat)
 |exit (id:Nat)
 |scope (b:CF)
 |ret
def toF:CC→CF
 |.skip=>.skip
 |.reg os=>.reg (os.map aRE)
 |.seq a b=>.seq (toF a) (toF b)
 |.cond c t e=>.cond c (toF t) (toF e)
 |.block id b=>.block id (toF b)
 |.loop b=>.loop (toF b)
 |.rf g i=>.rf g i
 |.exit id=>.exit id
 |.scope b=>.scope (toF b)
 |.ret=>.ret
inductive Cx where
 |no
 |nrm (s:St)
 |ex (id:Nat) (s:St)
 |ret (s:St)
structure FnF where
 wm:Bool
 nk:Nat
 pin:List (Option Nat)
 code:CF
 res:List Rs1
structure BdF where
 nk:Nat
 pin:List (Option Nat)
 as:CF
 body:CF
def fnF (c:FnC):FnF:=⟨c.wm,c.nk,c.pin,toF c.code,c.res⟩
def xf (c:BdC):BdF:=⟨c.nk,c.pin,toF c.as,toF c.body⟩
inductive FeF where
 |none
 |code (c:FnF)
 |nat (m:List V1→Option (List V1))
 |wnat (m:kU)
inductive FtF where
 |z
 |n (l:FtF) (k:Nat) (e:FeF) (b:Option BdF) (r:FtF)
def FtF.fn:FtF→Nat→FeF
 |.z,_=>.none
 |.n l k e _ r,f=>match ah f k with|true=>l.fn f|false=>match ai f k with|true=>e|false=>r.fn f
def FtF.bd:FtF→Nat→Option BdF
 |.z,_=>Option.none
 |.n l k _ b r,f=>match ah f k with|true=>l.bd f|false=>match ai f k with|true=>b|false=>r.bd f
def feF:FnE→FeF
 |.none=>.none
 |.code c=>.code (fnF c)
 |.nat m=>.nat m
 |.wnat m=>.wnat m
def aOd (P:Program)(Bt:aP)(f:FuncId)(c:FnF):Prop:=∃c0,fnF c0=c∧FnOk P Bt f c0
def aOa (P:Program)(Bt:aP)(i:Nat)(c:BdF):Prop:=∃c0,xf c0=c∧BdOk P Bt i c0
def aRq (P:Program)(k:Cls)(Bt:aP)(f:Nat):FeF→Prop
 |.none=>True
 |.code c=>aOd P Bt f c
 |.nat m=>ko P k f m
 |.wnat m=>pZ P k Bt f m
def aP4 (P:Program)(Bt:aP)(f:Nat):Option BdF→Prop
 |Option.none=>True
 |some c=>aOa P Bt f c
def FtF.Ok (P:Program)(k:Cls)(Bt:aP):FtF→Prop
 |.z=>True
 |.n l f e b r=>l.Ok P k Bt∧aRq P k Bt f e∧aP4 P Bt f b∧r.Ok P k Bt
def FtF.slow {P:Program}{k:Cls}{Bt:aP}:∀{t:FtF},t.Ok P k Bt→∃t0:Ft,t0.Ok P k Bt∧(∀f,t.fn f=feF (t0.fn f))∧∀i,t.bd i=(t0.bd i).map xf
 |.z,_=>⟨.z,tv,fun _=>rfl,fun _=>rfl⟩
 |.n l j e b r,h=>by
  obtain⟨h1,h2,h3,h4⟩:=h
  obtain⟨l0,a1,a2,a3⟩:=FtF.slow h1
  obtain⟨r0,b1,b2,b3⟩:=FtF.slow h4
  obtain⟨e0,c1,c2⟩:∃e0:FnE,e=feF e0∧EOk P k Bt j e0:=by
   cases e with
   |none=>exact⟨.none,rfl,tv⟩
   |code c=>obtain⟨c0,rfl,hc⟩:=h2;exact⟨.code c0,rfl,hc⟩
   |nat m=>exact⟨.nat m,rfl,h2⟩
   |wnat m=>exact⟨.wnat m,rfl,h2⟩
  obtain⟨d0,d1,d2⟩:∃d0:Option BdC,b=d0.map xf∧BOk P Bt j d0:=by
   cases b with
   |none=>exact⟨Option.none,rfl,tv⟩
   |some c=>obtain⟨c0,rfl,hc⟩:=h3;exact⟨Z c0,rfl,hc⟩
  refine⟨.n l0 j e0 d0 r0,⟨a1,c2,d2,b1⟩,fun f=>?_,fun f=>?_⟩
  ·simp only[FtF.fn,Ft.fn]
   cases ah f j with
   |true=>exact a2 f
   |false=>cases ai f j with
    |true=>exact c1
    |false=>exact b2 f
  ·simp only[FtF.bd,Ft.bd]
   cases ah f j with
   |true=>exact a3 f
   |false=>cases ai f j with
    |true=>exact d1
    |false=>exact b3 f
section
variable {R:Type}
def oY (n:Nat)(k:Nat→R):R:=match n with|0=>k 0|m+1=>k (m+1)
def uR (n:Nat)(k:Nat→R):oY n k=k n:=by cases n<;>rfl
def lyB (b:Bool)(k:Bool→R):R:=match b with|true=>k ab|false=>k aa
def auM (b:Bool)(k:Bool→R):lyB b k=k b:=by cases b<;>rfl
def lyZ (z:Int)(k:Int→R):R:=match z with|.ofNat n=>oY n (fun n=>k (.ofNat n))|.negSucc n=>oY n (fun n=>k (.negSucc n))
def aKv (z:Int)(k:Int→R):lyZ z k=k z:=by cases z<;>simp only[lyZ,uR]
def lyV (x:Value)(k:Value→R):R:=
 match x with
 |.int q z=>lyZ z (fun z=>k (.int q z))
 |.bool b=>lyB b (fun b=>k (.bool b))
 |x=>k x
def auO (x:Value)(k:Value→R):lyV x k=k x:=by
 cases x<;>simp only[lyV,aKv,auM]
def xu {α:Type}(f:α→(α→R)→R):List α→(List α→R)→R
 |[],k=>k []
 |x::r,k=>f x (fun x=>xu f r (fun r=>k (x::r)))
def mg {α:Type}{f:α→(α→R)→R}(h:∀x k,f x k=k x):∀(l:List α) (k:List α→R),xu f l k=k l
 |[],_=>rfl
 |x::r,k=>by rw[xu,h,mg h r]
def mH {α:Type}:List α→(List α→R)→R
 |[],k=>k []
 |x::r,k=>mH r (fun r=>k (x::r))
def gR {α:Type}:∀(l:List α) (k:List α→R),mH l k=k l
 |[],_=>rfl
 |x::r,k=>by rw[mH,gR r]
def lyA {α:Type}(f:α→(α→R)→R):List α→List α→(List α→R)→R
 |[],acc,k=>k acc
 |x::r,acc,k=>f x (fun x=>lyA f r (x::acc) k)
def ajC {α:Type}{f:α→(α→R)→R}(h:∀x k,f x k=k x):∀(l acc:List α) (k:List α→R),lyA f l acc k=k (l.reverse++acc)
 |[],acc,k=>rfl
 |x::r,acc,k=>by rw[lyA,h,ajC h r];simp
def lyR {α:Type}(f:α→(α→R)→R)(l:List α)(k:List α→R):R:=lyA f l [] (fun r=>lyA (fun x k=>k x) r [] k)
def aKs {α:Type}{f:α→(α→R)→R}(h:∀x k,f x k=k x)(l:List α)(k:List α→R):lyR f l k=k l:=by
 unfold lyR
 rw[ajC h,ajC (fun _ _=>rfl)]
 simp
def lyC (c:C)(k:C→R):R:=
 match c with
 |.v x=>lyV x (fun x=>k (.v x))
 |.vec l=>lyR lyV l (fun l=>k (.vec l))
 |.mag l=>xu oY l (fun l=>k (.mag l))
 |.sl n cs=>oY n (fun n=>mH cs (fun cs=>k (.sl n cs)))
 |.sy q l=>k (.sy q l)
 |.smag l=>k (.smag l)
 |.big n=>oY n (fun n=>k (.big n))
def ajE (c:C)(k:C→R):lyC c k=k c:=by
 cases c<;>simp only[lyC,auO,uR,gR,aKs auO,mg uR]
def lyD (d:D)(k:D→R):R:=
 match d with
 |.c x=>lyC x (fun x=>k (.c x))
 |.fp cs=>mH cs (fun cs=>k (.fp cs))
 |.ptr b o=>oY b (fun b=>oY o (fun o=>k (.ptr b o)))
 |.lsl b o n s=>oY b (fun b=>oY o (fun o=>oY n (fun n=>oY s (fun s=>k (.lsl b o n s)))))
 |.yld b=>oY b (fun b=>k (.yld b))
 |.mp b=>oY b (fun b=>k (.mp b))
 |d=>k d
def ajF (d:D)(k:D→R):lyD d k=k d:=by
 cases d<;>simp only[lyD,ajE,gR,uR]
def apE (x:T1)(k:T1→R):R:=
 match x with
 |.one d=>lyD d (fun d=>k (.one d))
 |.agg ds=>xu lyD ds (fun ds=>k (.agg ds))
def am4 (x:T1)(k:T1→R):apE x k=k x:=by
 cases x<;>simp only[apE,ajF,mg ajF]
def lyT (x:T)(k:T→R):R:=
 match x with
 |.nil=>k .nil
 |.t x=>apE x (fun x=>k (.t x))
 |.tup l=>xu apE l (fun l=>k (.tup l))
 |.row n ds=>oY n (fun n=>xu lyD ds (fun ds=>k (.row n ds)))
def cU (x:T)(k:T→R):lyT x k=k x:=by
 cases x<;>simp only[lyT,am4,mg am4,uR,mg ajF]
def adS (x:Option Blk)(k:Option Blk→R):R:=
 match x with
 |some (.cells ds)=>mH ds (fun ds=>k (Z (.cells ds)))
 |some (.mp es)=>mH es (fun es=>k (Z (.mp es)))
 |some (.it m n ks)=>mH ks (fun ks=>k (Z (.it m n ks)))
 |x=>k x
def ayD (x:Option Blk)(k:Option Blk→R):adS x k=k x:=by
 match x with
 |none=>rfl
 |some (.cells ds)=>simp only[adS,gR]
 |some (.mp es)=>simp only[adS,gR]
 |some (.it m n ks)=>simp only[adS,gR]
 |some (.lp r)=>rfl
 |some .df=>rfl
def yW (H:Hp)(k:Hp→R):R:=xu adS H k
def kF (H:Hp)(k:Hp→R):yW H k=k H:=mg ayD H k
end
end
end Go.Mach
