/-
  Part 1 of the machine and of the contracts of functions of the program (packed).
-/
import Derived.WalkKit
import Derived.OrdersIn
import Derived.LoopNIn
import Derived.LoopIn
import Derived.RangeFuncLeaves
import Derived.OwnWalkIn
import Derived.Lib.SliceRun
import Derived.Lib.AppendZerosOnto
import Derived.RangeFuncRecord
import Derived.Laws.IdiomRangeMap
import Derived.TacticsIn
set_option linter.all false
set_option linter.defProp false
open Array renaming getD_eq_getD_getElem?→aUq,getElem?_eq_getElem→aUt
open Bool renaming false→aa,true→ab,and_eq_true→aTT,eq_iff_iff→aUp
open Int renaming ofNat→af,negSucc→aT2,ofNat_eq_natCast→aT7
open List renaming getElem?_eq_some_iff→aTU,length_cons→aTV,length_append→aTW,getElem?_eq_getElem→aTX,mem_cons→aTZ,mem_cons_self→aT0,mem_cons_of_mem→aT8,getElem?_map→aUm,getElem?_set_ne→aUn,length_take→aUo,getElem?_append_left→aUs
open Nat renaming blt→ah,beq→ai,ble→aTQ,le_refl→aTS,eq_of_beq_eq_true→aT1,lt_or_ge→aT6,le_trans→aUd,zero_add→aUe,lt_of_lt_of_le→aUj
open Option renaming some→Z,none→U,map_eq_some_iff→aUa
def tv:True:=True.intro
namespace Go.Flow
noncomputable section
open Go Go.RowKit
structure Bel (B:Nat) (w w':World):Prop where
 os:w'.os=w.os
 tape:w'.tape=w.tape
 output:w'.output=w.output
 size:w.heap.size≤w'.heap.size
 block:∀k,k<B→w'.heap[k]?=w.heap[k]?
 dr:w.drawn≤w'.drawn
def Bel.refl (B:Nat)(w:World):Bel B w w:=⟨rfl,rfl,rfl,aTS _,fun _ _=>rfl,aTS _⟩
def Bel.trans {B:Nat}{a b c:World}(h:Bel B a b)(k:Bel B b c):Bel B a c:=
 ⟨k.os.trans h.os,k.tape.trans h.tape,k.output.trans h.output,aUd h.size k.size,fun i hi=>(k.block i hi).trans (h.block i hi),aUd h.dr k.dr⟩
def Bel.mono {B B':Nat}{w w':World}(h:Bel B w w')(hB:B'≤B):Bel B' w w':=⟨h.os,h.tape,h.output,h.size,fun k hk=>h.block k (aUj hk hB),h.dr⟩
def Bel.drew {B:Nat}{a w:World}(h:Bel B a w):Bel B a w.drew:=⟨h.os,h.tape,h.output,h.size,h.block,aUd h.dr (Nat.le_succ _)⟩
def Bel.alloc {B:Nat}{a w:World}(h:Bel B a w)(hB:B≤w.heap.size)(o:Obj):Bel B a (w.alloc o):=
 h.trans ⟨rfl,rfl,rfl,by simp,fun k hk=>Below.heap_alloc _ _ _ (by omega),aTS _⟩
def Bel.below {B:Nat}{w w':World}(h:Bel B w w'):Below B w w':=⟨h.os,h.tape,h.output,h.size,h.block⟩
abbrev Ext (w w':World):Prop:=Bel w.heap.size w w'
def Ext.refl (w:World):Ext w w:=Bel.refl _ _
def Ext.trans {a b c:World}(h:Ext a b)(k:Ext b c):Ext a c:=Bel.trans h (Bel.mono k h.size)
structure MP where
 S:Value→World→Prop
 mono:∀u w w',Ext w w'→S u w→S u w'
def MP.eq (X:Value):MP:=⟨fun u _=>u=X,fun _ _ _ _ h=>h⟩
def MP.any:MP:=⟨fun _ _=>True,fun _ _ _ _ h=>h⟩
section
variable {P:Program} {ops:Array Oper}
def ar0 (P:Program)(G:Value→World→Prop):Result Next→Prop
 |.ok (.value u) w'=>G u w'
 |.ok .skip w'=>G undef w'
 |.ok (.enter f args) w'=>Calls P f args w' (fun e w''=>∃u,e=.returned u∧G u w'')
 |_=>False
def i9 (a:Act)(v:Nat→Value):List (Nat × Tmp)→Act
 |[]=>a
 |(j,t)::r=>(i9 a v r).put (Z t) (v j)
def nn (o:Oper)(v:Nat→Value):Bool:=
 match o.guard with
 |none=>ab
 |some (g,want)=>match v g with|.bool b=>b==want|_=>aa
def Facts (S:List MP)(v:Nat→Value)(w:World):List (Nat × Tmp)→Prop
 |[]=>True
 |(j,_)::r=>(S.getD j MP.any).S (v j) w∧Facts S v w r
def asF (P:Program)(a0:Act)(w0:World)(o:Oper)(l:List (Nat × Tmp))(S:List MP)(s:MP):Prop:=
 ∀(v:Nat→Value) (w:World),Ext w0 w→Facts S v w l→
  if nn o v then ar0 P (fun u w'=>Ext w w'∧s.S u w') ((execOp (i9 a0 v l).eval o).run P w) else s.S undef w
def FlowR (P:Program)(a0:Act)(w0:World)(fin:List MP→Prop):List (List (Nat × Tmp))→List Oper→List MP→Prop
 |[],_,S=>fin S
 |l::ls,o::os,S=>∃s:MP,asF P a0 w0 o l S s∧FlowR P a0 w0 fin ls os (S++[s])
 |_::_,[],_=>False
def yZ (acc:List Nat)(o:Oper):Nat:=
 o.after.toList.foldl (fun s e=>if Region.binds .any e then s ||| 2 ^ e.on ||| acc.getD e.on 0 else s) 0
def dI:List Nat→List Oper→List Nat
 |acc,[]=>acc
 |acc,o::r=>dI (acc++[yZ acc o]) r
def ajn:Op→Bool
 |.select ..=>ab
 |_=>aa
def aab (o:Oper):List Tmp:=o.op.operands.toList.filterMap fun|.tmp t=>Z t|_=>U
def aaA (ops:Array Oper)(m:Nat)(anc:List (List (Nat × Tmp))):Bool:=
 let M:=dI [] ops.toList
 anc.length==m&&aTQ m ops.size&&
 (List.range ops.size).all fun i=>
  match ops[i]? with
  |none=>aa
  |some o=>
   o.after.toList.all (fun e=>!Region.binds .any e||ah e.on i)&&
   if ah i m then
    let l:=anc.getD i []
    !ajn o.op&&
    l.all (fun(j,t)=>ah j i&&(M.getD i 0).testBit j&&(match (ops[j]?).bind (·.dst)with|some t'=>t'==t|none=>aa))&&
    (match o.guard with|none=>ab|some (g,_)=>ah g m&&l.any (fun(j,_)=>j==g))&&
    (List.range m).all (fun j=>match (ops[j]?).bind (·.dst)with
     |none=>ab
     |some t=>(j==i||o.dst != Z t)&&(!(aab o).contains t||l.any (fun(k,_)=>k==j)||(M.getD j 0).testBit i))
   else (List.range m).all fun j=>(M.getD i 0).testBit j
def v6 (acc:List Nat)(j:Nat):∀(l:List Edge) (s:Nat),
  (l.foldl (fun s e=>if Region.binds .any e then s ||| 2 ^ e.on ||| acc.getD e.on 0 else s) s).testBit j=ab→
   s.testBit j=ab∨∃e∈l,Region.binds .any e=ab∧(j=e.on∨(acc.getD e.on 0).testBit j=ab)
 |[],s,h=>.inl h
 |e::r,s,h=>by
  rw[List.foldl_cons]at h
  rcases v6 acc j r _ h with h1|⟨e',he',hb⟩
  ·by_cases hb:Region.binds .any e=ab
   ·rw[if_pos hb,Nat.testBit_or,Nat.testBit_or,Bool.or_eq_true,Bool.or_eq_true]at h1
    rcases h1 with(h1|h1)|h1
    ·exact .inl h1
    ·rw[Nat.testBit_two_pow,decide_eq_true_eq]at h1
     exact .inr ⟨e,aT0,hb,.inl h1.symm⟩
    ·exact .inr ⟨e,aT0,hb,.inr h1⟩
   ·rw[if_neg hb]at h1;exact .inl h1
  ·exact .inr ⟨e',aT8 _ he',hb⟩
def mi {L:Nat→Prop}:∀(os:List Oper) (acc:List Nat) (_hall:∀i o,os[i]?=Z o→L (acc.length+i)→∀e∈o.after,Region.binds .any e=ab→L e.on)
  (_hacc:∀i,L i→∀j,i<acc.length→(acc.getD i 0).testBit j=ab→L j),
  ∀i,L i→∀j,((dI acc os).getD i 0).testBit j=ab→L j
 |[],acc,_,hacc,i,hi,j,hb=>by
  by_cases hlt:i<acc.length
  ·exact hacc i hi j hlt hb
  ·rw[dI,List.getD_eq_getElem?_getD,List.getElem?_eq_none (by omega)]at hb
   simp at hb
 |o::r,acc,hall,hacc,i,hi,j,hb=>by
  rw[dI]at hb
  refine mi r (acc++[yZ acc o]) ?_ ?_ i hi j hb
  ·intro k o' ho' hL
   rw[aTW,List.length_singleton,Nat.add_assoc,Nat.add_comm 1 k]at hL
   exact hall (k+1) o' (by simpa using ho') hL
  ·intro k hk x hlt hbit
   rw[aTW,List.length_singleton]at hlt
   by_cases hkl:k<acc.length
   ·rw[List.getD_eq_getElem?_getD,aUs hkl,← List.getD_eq_getElem?_getD]at hbit
    exact hacc k hk x hkl hbit
   ·obtain rfl:k=acc.length:=by omega
    rw[List.getD_eq_getElem?_getD,List.getElem?_append_right (aTS _),Nat.sub_self,List.getElem?_cons_zero,Option.getD_some,yZ]at hbit
    rcases v6 acc x _ _ hbit with h0|⟨e,he,hbd,h1⟩
    ·simp at h0
    ·have hLe:=hall 0 o rfl (by simpa using hk) e (by simpa using he) hbd
     rcases h1 with rfl|h1
     ·exact hLe
     ·by_cases hel:e.on<acc.length
      ·exact hacc e.on hLe x hel h1
      ·rw[List.getD_eq_getElem?_getD,List.getElem?_eq_none (by omega)]at h1
       simp at h1
def ti:∀(os:List Oper) (acc:List Nat) (_hall:∀i o,os[i]?=Z o→∀e∈o.after,Region.binds .any e=ab→e.on<acc.length+i)
  (_hacc:∀i j,i<acc.length→(acc.getD i 0).testBit j=ab→j<i),∀i j,((dI acc os).getD i 0).testBit j=ab→j<i
 |[],acc,_,hacc,i,j,hb=>by
  by_cases hlt:i<acc.length
  ·exact hacc i j hlt hb
  ·rw[dI,List.getD_eq_getElem?_getD,List.getElem?_eq_none (by omega)]at hb
   simp at hb
 |o::r,acc,hall,hacc,i,j,hb=>by
  rw[dI]at hb
  refine ti r (acc++[yZ acc o]) ?_ ?_ i j hb
  ·intro k o' ho' e he hbd
   have:=hall (k+1) o' (by simpa using ho') e he hbd
   rw[aTW,List.length_singleton];omega
  ·intro k x hlt hbit
   rw[aTW,List.length_singleton]at hlt
   by_cases hkl:k<acc.length
   ·rw[List.getD_eq_getElem?_getD,aUs hkl,← List.getD_eq_getElem?_getD]at hbit
    exact hacc k x hkl hbit
   ·obtain rfl:k=acc.length:=by omega
    rw[List.getD_eq_getElem?_getD,List.getElem?_append_right (aTS _),Nat.sub_self,List.getElem?_cons_zero,Option.getD_some,yZ]at hbit
    rcases v6 acc x _ _ hbit with h0|⟨e,he,hbd,h1⟩
    ·simp at h0
    ·have hLe:=hall 0 o rfl e (by simpa using he) hbd
     rcases h1 with rfl|h1
     ·simpa using hLe
     ·by_cases hel:e.on<acc.length
      ·have:=hacc e.on x hel h1
       simp at hLe;omega
      ·rw[List.getD_eq_getElem?_getD,List.getElem?_eq_none (by omega)]at h1
       simp at h1
def tu (a:Act)(v:Nat→Value):∀l,(i9 a v l).defers=a.defers
 |[]=>rfl
 |(_,_)::r=>tu a v r
def oy (a:Act)(v:Nat→Value):∀l,(i9 a v l).tmps.size=a.tmps.size
 |[]=>rfl
 |(j,t)::r=>by
  show(Array.setIfInBounds _ _ _).size=_
  rw[Array.size_setIfInBounds];exact oy a v r
def nd (a:Act)(v:Nat→Value)(t:Tmp):∀l:List (Nat × Tmp),(∀j,(j,t)∉l)→(i9 a v l).tmps[t]?=a.tmps[t]?
 |[],_=>rfl
 |(j,t')::r,h=>by
  show(Array.setIfInBounds _ _ _)[t]?=_
  have hne:t'≠t:=fun e=>h j (by rw[e];exact aT0)
  rw[Array.getElem?_setIfInBounds_ne hne]
  exact nd a v t r fun k hk=>h k (aT8 _ hk)
def pW (a:Act)(v:Nat→Value)(j:Nat)(t:Tmp)(ht:t<a.tmps.size):∀l:List (Nat × Tmp),(j,t)∈l→(∀k,(k,t)∈l→k=j)→(i9 a v l).tmps[t]?=Z (v j)
 |[],h,_=>absurd h (by simp)
 |(k,t')::r,h,hu=>by
  show(Array.setIfInBounds _ _ _)[t]?=_
  by_cases hne:t'=t
  ·subst hne
   have hk:k=j:=hu k aT0
   subst hk
   rw[Array.getElem?_setIfInBounds_self_of_lt (by rw[oy];exact ht)]
  ·rw[Array.getElem?_setIfInBounds_ne hne]
   refine pW a v j t ht r ?_ fun x hx=>hu x (aT8 _ hx)
   rcases aTZ.1 h with h|h
   ·exact absurd (congrArg Prod.snd h).symm hne
   ·exact h
structure Inv (ops:Array Oper) (m:Nat) (S:List MP) (a0:Act) (w0:World) (listed:Array Bool) (v:Nat→Value) (a:Act) (w:World):Prop where
 size:listed.size=ops.size
 closed:∀i o,ops[i]?=Z o→listed.getD i aa=ab→∀e∈o.after,Region.binds .any e=ab→listed.getD e.on aa=ab
 notail:∀i,m≤i→listed.getD i aa=aa
 ext:Ext w0 w
 facts:∀i,listed.getD i aa=ab→(S.getD i MP.any).S (v i) w
 defers:a.defers=a0.defers
 tsize:a.tmps.size=a0.tmps.size
 at_:∀i o t,ops[i]?=Z o→listed.getD i aa=ab→o.dst=Z t→t<a0.tmps.size→a.tmps[t]?=Z (v i)
 far:∀t,(∀i o,ops[i]?=Z o→listed.getD i aa=ab→o.dst≠Z t)→a.tmps[t]?=a0.tmps[t]?
def te (ops:Array Oper)(m:Nat):List (Nat × Tmp):=(List.range m).filterMap fun i=>((ops[i]?).bind (·.dst)).map fun t=>(i,t)
def Facts.more {S:List MP}(S':List MP){v:Nat→Value}{w:World}:∀(l:List (Nat × Tmp)),(∀p∈l,p.1<S.length)→Facts (S++S') v w l→Facts S v w l
 |[],_,_=>trivial
 |(j,t)::r,hl,h=>by
  refine⟨?_,Facts.more S' r (fun p hp=>hl p (aT8 _ hp)) h.2⟩
  have:=h.1
  rw[List.getD_eq_getElem?_getD,aUs (hl (j,t) aT0),← List.getD_eq_getElem?_getD]at this
  exact this
def FlowR.all {a0:Act}{w0:World}{fin:List MP→Prop}:∀(ls:List (List (Nat × Tmp))) (os:List Oper) (S:List MP),
  (∀i l,ls[i]?=Z l→∀p∈l,p.1<S.length+i)→FlowR P a0 w0 fin ls os S→
  ∃S',S'.length=ls.length∧fin (S++S')∧∀i o l,ls[i]?=Z l→os[i]?=Z o→asF P a0 w0 o l (S++S') ((S++S').getD (S.length+i) MP.any)
 |[],_,S,_,h=>⟨[],rfl,by simpa [FlowR]using h,fun i o l hl=>by simp at hl⟩
 |l::ls,[],S,_,h=>h.elim
 |l::ls,o::os,S,hb,h=>by
  obtain⟨s,hs,hr⟩:=h
  obtain⟨S',hlen,hfin,hall⟩:=FlowR.all ls os (S++[s]) (fun i l' hl' p hp=>by
   have:=hb (i+1) l' (by simpa using hl') p hp
   rw[aTW,List.length_singleton];omega) hr
  have eqS:S++[s]++S'=S++(s::S'):=by simp
  rw[eqS]at hfin hall
  refine⟨s::S',by simp[hlen],hfin,fun i o' l' hl' ho'=>?_⟩
  cases i with
  |zero=>
   simp at hl' ho'
   subst hl';subst ho'
   have hg:(S++s::S').getD (S.length+0) MP.any=s:=by simp[List.getD_eq_getElem?_getD]
   rw[hg]
   intro v w hw hf
   exact hs v w hw (Facts.more (s::S') _ (fun p hp=>by have:=hb 0 l rfl p hp;omega) hf)
  |succ i=>
   have:=hall i o' l' (by simpa using hl') (by simpa using ho')
   rw[aTW,List.length_singleton,Nat.add_assoc,Nat.add_comm 1 i]at this
   exact this
structure Chk (ops:Array Oper) (m:Nat) (anc:List (List (Nat × Tmp))):Prop where
 len:anc.length=m
 le:m≤ops.size
 back:∀i o,ops[i]?=Z o→∀e∈o.after,Region.binds .any e=ab→e.on<i
 nosel:∀i o,i<m→ops[i]?=Z o→∀cs b,o.op≠.select cs b
 ancs:∀i o,i<m→ops[i]?=Z o→∀p∈anc.getD i [],p.1<i∧((dI [] ops.toList).getD i 0).testBit p.1=ab∧(ops[p.1]?).bind (·.dst)=Z p.2
 guard:∀i o g b,i<m→ops[i]?=Z o→o.guard=Z (g,b)→g<m∧∃t,(g,t)∈anc.getD i []
 uniq:∀i o j oj t,i<m→ops[i]?=Z o→j<m→ops[j]?=Z oj→oj.dst=Z t→o.dst=Z t→j=i
 opnd:∀i o j oj t,i<m→ops[i]?=Z o→j<m→ops[j]?=Z oj→oj.dst=Z t→t∈aab o→(∃t',(j,t')∈anc.getD i [])∨((dI [] ops.toList).getD j 0).testBit i=ab
 tail:∀i,m≤i→i<ops.size→∀j,j<m→((dI [] ops.toList).getD i 0).testBit j=ab
def aIV {m:Nat}{anc:List (List (Nat × Tmp))}(h:aaA ops m anc=ab):Chk ops m anc:=by
 simp only[aaA,aTT,beq_iff_eq,Nat.ble_eq]at h
 obtain⟨⟨h1,h2⟩,h3⟩:=h
 have key:∀i o,ops[i]?=Z o→_:=fun i o ho=>by
  have hlt:i<ops.size:=(Array.getElem?_eq_some_iff.1 ho).1
  have:=List.all_eq_true.1 h3 i (List.mem_range.2 hlt)
  simp only[ho]at this
  exact this
 have lt_of {i:Nat} {o:Oper} (ho:ops[i]?=Z o):i<ops.size:=(Array.getElem?_eq_some_iff.1 ho).1
 have inner:∀i o,i<m→ops[i]?=Z o→_:=fun i o hi ho=>by
  have:=key i o ho
  rw[aTT]at this
  have h2:=this.2
  rw[if_pos (by simpa using hi)]at h2
  simp only[aTT]at h2
  exact h2
 refine⟨h1,h2,?_,?_,?_,?_,?_,?_,?_⟩
 ·intro i o ho e he hb
  have:=key i o ho
  rw[aTT]at this
  have:=List.all_eq_true.1 this.1 e (by simpa using he)
  rw[hb]at this
  simpa using this
 ·intro i o hi ho cs b heq
  have:=(inner i o hi ho).1.1.1
  rw[heq]at this
  simp[ajn]at this
 ·intro i o hi ho p hp
  have:=List.all_eq_true.1 (inner i o hi ho).1.1.2 p hp
  obtain⟨j,t⟩:=p
  simp only[aTT]at this
  obtain⟨⟨a1,a2⟩,a3⟩:=this
  refine⟨by simpa using a1,a2,?_⟩
  cases hd:(ops[j]?).bind (·.dst)with
  |none=>rw[hd]at a3;simp at a3
  |some t'=>rw[hd]at a3;simpa using a3
 ·intro i o g b hi ho hg
  have:=(inner i o hi ho).1.2
  rw[hg]at this
  simp only[aTT,List.any_eq_true]at this
  obtain⟨a1,⟨j,t⟩,hp,heq⟩:=this
  refine⟨by simpa using a1,t,?_⟩
  have:j=g:=by simpa using heq
  subst this;exact hp
 ·intro i o j oj t hi ho hj hoj hd hd'
  have:=List.all_eq_true.1 (inner i o hi ho).2 j (List.mem_range.2 hj)
  simp only[hoj,Option.bind_some,hd,aTT,Bool.or_eq_true]at this
  rcases this.1 with h|h
  ·simpa using h
  ·rw[hd']at h;simp at h
 ·intro i o j oj t hi ho hj hoj hd ht
  have:=List.all_eq_true.1 (inner i o hi ho).2 j (List.mem_range.2 hj)
  simp only[hoj,Option.bind_some,hd,aTT,Bool.or_eq_true]at this
  rcases this.2 with(h|h)|h
  ·rw[Bool.not_eq_true',List.contains_eq_mem]at h
   simp[ht]at h
  ·obtain⟨⟨k,t'⟩,hp,heq⟩:=List.any_eq_true.1 h
   have:k=j:=by simpa using heq
   subst this
   exact .inl ⟨t',hp⟩
  ·exact .inr h
 ·intro i hi hlt j hj
  have ho:ops[i]?=Z ops[i]:=aUt hlt
  have:=key i _ ho
  rw[aTT]at this
  have h2:=this.2
  rw[if_neg (by simpa using hi)]at h2
  exact List.all_eq_true.1 h2 j (List.mem_range.2 hj)
def left (m:Nat)(listed:Array Bool):Nat:=((List.range m).filter fun i=>!listed.getD i aa).length
def auC {m:Nat}{listed:Array Bool}(h:left m listed=0)(i:Nat)(hi:i<m):listed.getD i aa=ab:=by
 have:=List.eq_nil_of_length_eq_zero h
 rw[List.filter_eq_nil_iff]at this
 simpa using this i (List.mem_range.2 hi)
def si (p q:Nat→Bool)(i:Nat)(hpi:p i=ab)(hqi:q i=aa)(hpq:∀j,j≠i→p j=q j):
  ∀l:List Nat,l.Nodup→i∈l→(l.filter p).length=(l.filter q).length+1
 |[],_,h=>by cases h
 |x::r,hn,h=>by
  rw[List.nodup_cons]at hn
  by_cases hx:x=i
  ·subst hx
   rw[List.filter_cons_of_pos hpi,List.filter_cons_of_neg (by simp[hqi]),aTV]
   congr 2
   exact List.filter_congr fun j hj=>hpq j fun e=>hn.1 (e▸hj)
  ·have hr:i∈r:=by
    rcases aTZ.1 h with h|h
    ·exact absurd h.symm hx
    ·exact h
   have ih:=si p q i hpi hqi hpq r hn.2 hr
   by_cases hp:p x=ab
   ·rw[List.filter_cons_of_pos hp,List.filter_cons_of_pos (by rw[← hpq x hx];exact hp),aTV,aTV,ih]
   ·rw[List.filter_cons_of_neg hp,List.filter_cons_of_neg (by rw[← hpq x hx];exact hp),ih]
def ays {m:Nat}{listed:Array Bool}{i:Nat}(hi:i<m)(hs:i<listed.size)(hu:listed.getD i aa=aa):
  left m listed=left m (listed.setIfInBounds i ab)+1:=by
 refine si _ _ i (by simp[hu]) ?_ ?_ _ List.nodup_range (List.mem_range.2 hi)
 ·simp[hs]
 ·intro j hj
  simp only[aUq,Array.getElem?_setIfInBounds_ne (Ne.symm hj)]
def upd (v:Nat→Value)(i:Nat)(u:Value):Nat→Value:=fun k=>if k=i then u else v k
def Inv.put {m:Nat}{anc:List (List (Nat × Tmp))}{S:List MP}{a0:Act}{w0:World}(c:Chk ops m anc){listed:Array Bool}{v:Nat→Value}{a:Act}{w w':World}{i:Nat}{o:Oper}{u:Value}
  (h:Inv ops m S a0 w0 listed v a w)(hi:i<m)(ho:ops[i]?=Z o)(hun:listed.getD i aa=aa)(hall:∀e∈o.after,Region.binds .any e=ab→listed.getD e.on aa=ab)
  (hext:Ext w w')(hs:(S.getD i MP.any).S u w'):Inv ops m S a0 w0 (listed.setIfInBounds i ab) (upd v i u) (a.put o.dst u) w':=by
 have hsz:i<listed.size:=by rw[h.size];exact(Array.getElem?_eq_some_iff.1 ho).1
 have hne {j:Nat} (hj:j≠i):(listed.setIfInBounds i ab).getD j aa=listed.getD j aa:=by
  simp only[aUq,Array.getElem?_setIfInBounds_ne (Ne.symm hj)]
 have hltm {j:Nat} (hj:listed.getD j aa=ab):j<m:=by
  rcases aT6 j m with h1|h1
  ·exact h1
  ·rw[h.notail j h1]at hj;cases hj
 refine⟨by simpa using h.size,?_,?_,h.ext.trans hext,?_,?_,?_,?_,?_⟩
 ·intro j oj hoj hj e he hb
  refine getD_set_true ?_
  by_cases hji:j=i
  ·subst hji;rw[ho]at hoj;cases hoj;exact hall e he hb
  ·exact h.closed j oj hoj (by rw[← hne hji];exact hj) e he hb
 ·intro j hj
  rw[hne (by omega)];exact h.notail j hj
 ·intro j hj
  by_cases hji:j=i
  ·subst hji;simpa [upd]using hs
  ·rw[hne hji]at hj
   simp only[upd,if_neg hji]
   exact(S.getD j MP.any).mono _ _ _ hext (h.facts j hj)
 ·cases o.dst<;>exact h.defers
 ·cases o.dst
  ·exact h.tsize
  ·show(Array.setIfInBounds _ _ _).size=_
   rw[Array.size_setIfInBounds];exact h.tsize
 ·intro j oj t hoj hj hd ht
  by_cases hji:j=i
  ·subst hji
   rw[ho]at hoj;cases hoj
   rw[hd]
   show(Array.setIfInBounds _ _ _)[t]?=_
   rw[Array.getElem?_setIfInBounds_self_of_lt (by rw[h.tsize];exact ht)]
   simp[upd]
  ·rw[hne hji]at hj
   simp only[upd,if_neg hji]
   rw[← h.at_ j oj t hoj hj hd ht]
   cases hdo:o.dst with
   |none=>rfl
   |some t'=>
    show(Array.setIfInBounds _ _ _)[t]?=_
    rw[Array.getElem?_setIfInBounds_ne]
    rintro rfl
    exact hji (c.uniq i o j oj t' hi ho (hltm hj) hoj hd hdo)
 ·intro t ht
  have h1:a.tmps[t]?=a0.tmps[t]?:=h.far t fun j oj hoj hj=>ht j oj hoj (getD_set_true hj)
  rw[← h1]
  cases hdo:o.dst with
  |none=>rfl
  |some t'=>
   show(Array.setIfInBounds _ _ _)[t]?=_
   rw[Array.getElem?_setIfInBounds_ne]
   rintro rfl
   exact ht i o ho (by simp[hsz]) hdo
def Inv.eval {m:Nat}{anc:List (List (Nat × Tmp))}{S:List MP}{a0:Act}{w0:World}(c:Chk ops m anc){listed:Array Bool}{v:Nat→Value}{a:Act}{w:World}{i:Nat}{o:Oper}
  (h:Inv ops m S a0 w0 listed v a w)(hi:i<m)(ho:ops[i]?=Z o)(hun:listed.getD i aa=aa)
  (hanc:∀p∈anc.getD i [],listed.getD p.1 aa=ab)(x:Operand)(hx:x∈o.op.operands):a.eval x=(i9 a0 v (anc.getD i [])).eval x:=by
 cases x with
 |tmp t=>
  have hmem:t∈aab o:=List.mem_filterMap.2 ⟨.tmp t,by simpa using hx,rfl⟩
  have hltm {j:Nat} (hj:listed.getD j aa=ab):j<m:=by
   rcases aT6 j m with h1|h1
   ·exact h1
   ·rw[h.notail j h1]at hj;cases hj
  have hcl:∀j,listed.getD j aa=ab→∀k,((dI [] ops.toList).getD j 0).testBit k=ab→listed.getD k aa=ab:=
   mi (L:=fun j=>listed.getD j aa=ab) ops.toList [] (fun j oj hoj hj e he hb=>h.closed j oj (by simpa using hoj) (by simpa using hj) e he hb) (fun j _ k hlt=>by simp at hlt)
  show a.tmps.getD t undef=(i9 a0 v (anc.getD i [])).tmps.getD t undef
  rw[aUq,aUq]
  congr 1
  by_cases hw:∃j oj,ops[j]?=Z oj∧listed.getD j aa=ab∧oj.dst=Z t
  ·obtain⟨j,oj,hoj,hj,hd⟩:=hw
   have hjm:=hltm hj
   rcases c.opnd i o j oj t hi ho hjm hoj hd hmem with⟨t',ht'⟩|hbit
   ·have h1:=(c.ancs i o hi ho _ ht').2.2
    rw[hoj,Option.bind_some,hd]at h1
    obtain rfl:t'=t:=by simpa using h1.symm
    rcases aT6 t' a0.tmps.size with hts|hts
    ·rw[h.at_ j oj t' hoj hj hd hts]
     refine(pW a0 v j t' hts _ ht' fun k hk=>?_).symm
     have h2:=(c.ancs i o hi ho _ hk).2.2
     have hkm:k<m:=Nat.lt_trans (c.ancs i o hi ho _ hk).1 hi
     cases hok:ops[k]? with
     |none=>rw[hok]at h2;cases h2
     |some ok=>
      rw[hok,Option.bind_some]at h2
      exact(c.uniq j oj k ok t' hjm hoj hkm hok h2 hd)
    ·rw[Array.getElem?_eq_none (by rw[h.tsize];exact hts),Array.getElem?_eq_none (by rw[oy];exact hts)]
   ·have:=hcl j hj i hbit
    rw[hun]at this;cases this
  ·rw[h.far t fun j oj hoj hj hd=>hw ⟨j,oj,hoj,hj,hd⟩]
   refine(nd a0 v t _ fun j hj=>hw ?_).symm
   have h1:=(c.ancs i o hi ho _ hj).2.2
   cases hoj:ops[j]? with
   |none=>rw[hoj]at h1;cases h1
   |some oj=>rw[hoj,Option.bind_some]at h1;exact⟨j,oj,hoj,hanc _ hj,h1⟩
 |const u=>rfl
 |global g=>rfl
 |func f=>rfl
section
variable {a0:Act} {w0:World} {fin:List MP→Prop} {l:List (Nat × Tmp)} {ls:List (List (Nat × Tmp))} {o:Oper} {os:List Oper} {S:List MP}
def FlowR.done (h:fin S):FlowR P a0 w0 fin [] os S:=h
end
end
section
variable {P:Program} {ops:Array Oper}
structure FInv (ops:Array Oper) (a0:Act) (listed:Array Bool) (v:Nat→Value) (a:Act):Prop where
 size:listed.size=ops.size
 closed:∀i o,ops[i]?=Z o→listed.getD i aa=ab→∀e∈o.after,Region.binds .any e=ab→listed.getD e.on aa=ab
 defers:a.defers=a0.defers
 tsize:a.tmps.size=a0.tmps.size
 at_:∀i o t,ops[i]?=Z o→listed.getD i aa=ab→o.dst=Z t→t<a0.tmps.size→a.tmps[t]?=Z (v i)
 far:∀t,(∀i o,ops[i]?=Z o→listed.getD i aa=ab→o.dst≠Z t)→a.tmps[t]?=a0.tmps[t]?
def FInv.put {anc:List (List (Nat × Tmp))}{a0:Act}(c:Chk ops ops.size anc){listed:Array Bool}{v:Nat→Value}{a:Act}{i:Nat}{o:Oper}{u:Value}
  (h:FInv ops a0 listed v a)(ho:ops[i]?=Z o)(hun:listed.getD i aa=aa)(hall:∀e∈o.after,Region.binds .any e=ab→listed.getD e.on aa=ab):
  FInv ops a0 (listed.setIfInBounds i ab) (upd v i u) (a.put o.dst u):=by
 have hi:i<ops.size:=(Array.getElem?_eq_some_iff.1 ho).1
 have hsz:i<listed.size:=by rw[h.size];exact hi
 have hne {j:Nat} (hj:j≠i):(listed.setIfInBounds i ab).getD j aa=listed.getD j aa:=by
  simp only[aUq,Array.getElem?_setIfInBounds_ne (Ne.symm hj)]
 have hltm {j:Nat} {oj:Oper} (hj:ops[j]?=Z oj):j<ops.size:=(Array.getElem?_eq_some_iff.1 hj).1
 refine⟨by simpa using h.size,?_,?_,?_,?_,?_⟩
 ·intro j oj hoj hj e he hb
  refine getD_set_true ?_
  by_cases hji:j=i
  ·subst hji;rw[ho]at hoj;cases hoj;exact hall e he hb
  ·exact h.closed j oj hoj (by rw[← hne hji];exact hj) e he hb
 ·cases o.dst<;>exact h.defers
 ·cases o.dst
  ·exact h.tsize
  ·show(Array.setIfInBounds _ _ _).size=_
   rw[Array.size_setIfInBounds];exact h.tsize
 ·intro j oj t hoj hj hd ht
  by_cases hji:j=i
  ·subst hji
   rw[ho]at hoj;cases hoj
   rw[hd]
   show(Array.setIfInBounds _ _ _)[t]?=_
   rw[Array.getElem?_setIfInBounds_self_of_lt (by rw[h.tsize];exact ht)]
   simp[upd]
  ·rw[hne hji]at hj
   simp only[upd,if_neg hji]
   rw[← h.at_ j oj t hoj hj hd ht]
   cases hdo:o.dst with
   |none=>rfl
   |some t'=>
    show(Array.setIfInBounds _ _ _)[t]?=_
    rw[Array.getElem?_setIfInBounds_ne]
    rintro rfl
    exact hji (c.uniq i o j oj t' hi ho (hltm hoj) hoj hd hdo)
 ·intro t ht
  have h1:a.tmps[t]?=a0.tmps[t]?:=h.far t fun j oj hoj hj=>ht j oj hoj (getD_set_true hj)
  rw[← h1]
  cases hdo:o.dst with
  |none=>rfl
  |some t'=>
   show(Array.setIfInBounds _ _ _)[t]?=_
   rw[Array.getElem?_setIfInBounds_ne]
   rintro rfl
   exact ht i o ho (by simp[hsz]) hdo
def FInv.eval {anc:List (List (Nat × Tmp))}{a0:Act}(c:Chk ops ops.size anc){listed:Array Bool}{v:Nat→Value}{a:Act}{i:Nat}{o:Oper}
  (h:FInv ops a0 listed v a)(ho:ops[i]?=Z o)(hun:listed.getD i aa=aa)
  (hanc:∀p∈anc.getD i [],listed.getD p.1 aa=ab)(x:Operand)(hx:x∈o.op.operands):a.eval x=(i9 a0 v (anc.getD i [])).eval x:=by
 have hi:i<ops.size:=(Array.getElem?_eq_some_iff.1 ho).1
 cases x with
 |tmp t=>
  have hmem:t∈aab o:=List.mem_filterMap.2 ⟨.tmp t,by simpa using hx,rfl⟩
  have hlt {j:Nat} {oj:Oper} (hj:ops[j]?=Z oj):j<ops.size:=(Array.getElem?_eq_some_iff.1 hj).1
  have hcl:∀j,listed.getD j aa=ab→∀k,((dI [] ops.toList).getD j 0).testBit k=ab→listed.getD k aa=ab:=
   mi (L:=fun j=>listed.getD j aa=ab) ops.toList [] (fun j oj hoj hj e he hb=>h.closed j oj (by simpa using hoj) (by simpa using hj) e he hb) (fun j _ k hlt=>by simp at hlt)
  show a.tmps.getD t undef=(i9 a0 v (anc.getD i [])).tmps.getD t undef
  rw[aUq,aUq]
  congr 1
  by_cases hw:∃j oj,ops[j]?=Z oj∧listed.getD j aa=ab∧oj.dst=Z t
  ·obtain⟨j,oj,hoj,hj,hd⟩:=hw
   have hjm:=hlt hoj
   rcases c.opnd i o j oj t hi ho hjm hoj hd hmem with⟨t',ht'⟩|hbit
   ·have h1:=(c.ancs i o hi ho _ ht').2.2
    rw[hoj,Option.bind_some,hd]at h1
    obtain rfl:t'=t:=by simpa using h1.symm
    rcases aT6 t' a0.tmps.size with hts|hts
    ·rw[h.at_ j oj t' hoj hj hd hts]
     refine(pW a0 v j t' hts _ ht' fun k hk=>?_).symm
     have h2:=(c.ancs i o hi ho _ hk).2.2
     have hkm:k<ops.size:=Nat.lt_trans (c.ancs i o hi ho _ hk).1 hi
     cases hok:ops[k]? with
     |none=>rw[hok]at h2;cases h2
     |some ok=>
      rw[hok,Option.bind_some]at h2
      exact(c.uniq j oj k ok t' hjm hoj hkm hok h2 hd)
    ·rw[Array.getElem?_eq_none (by rw[h.tsize];exact hts),Array.getElem?_eq_none (by rw[oy];exact hts)]
   ·have:=hcl j hj i hbit
    rw[hun]at this;cases this
  ·rw[h.far t fun j oj hoj hj hd=>hw ⟨j,oj,hoj,hj,hd⟩]
   refine(nd a0 v t _ fun j hj=>hw ?_).symm
   have h1:=(c.ancs i o hi ho _ hj).2.2
   cases hoj:ops[j]? with
   |none=>rw[hoj]at h1;cases h1
   |some oj=>rw[hoj,Option.bind_some]at h1;exact⟨j,oj,hoj,hanc _ hj,h1⟩
 |const u=>rfl
 |global g=>rfl
 |func f=>rfl
def arX {anc:List (List (Nat × Tmp))}{a0:Act}(c:Chk ops ops.size anc){listed:Array Bool}{v:Nat→Value}{a:Act}{i:Nat}{o:Oper}
  (h:FInv ops a0 listed v a)(ho:ops[i]?=Z o)(hsz:∀(j:Nat) oj t,ops[j]?=Z oj→oj.dst=Z t→t<a0.tmps.size)
  (hanc:∀p∈anc.getD i [],listed.getD p.1 aa=ab):Region.wanted o (yielded ops a.tmps)=nn o v:=by
 have hi:i<ops.size:=(Array.getElem?_eq_some_iff.1 ho).1
 unfold Region.wanted nn
 cases hg:o.guard with
 |none=>rfl
 |some gb=>
  obtain⟨g,b⟩:=gb
  obtain⟨hgm,t,ht⟩:=c.guard i o g b hi ho hg
  have h1:=(c.ancs i o hi ho _ ht).2.2
  cases hog:ops[g]? with
  |none=>rw[hog]at h1;cases h1
  |some og=>
   rw[hog,Option.bind_some]at h1
   have h2:=h.at_ g og t hog (hanc _ ht) h1 (hsz g og t hog h1)
   simp only[yielded,hog,Option.bind_some,h1,h2]
   cases v g<;>simp
def ar6 (ops:Array Oper)(listed:Array Bool):Prop:=∀j,listed.getD j aa=ab→∀x,((dI [] ops.toList).getD j 0).testBit x=ab→listed.getD x aa=ab
def FInv.cl {a0:Act}{listed:Array Bool}{v:Nat→Value}{a:Act}(h:FInv ops a0 listed v a):ar6 ops listed:=
 mi (L:=fun j=>listed.getD j aa=ab) ops.toList [] (fun j oj hoj hj e he hb=>h.closed j oj (by simpa using hoj) (by simpa using hj) e he hb) (fun j _ x hlt=>by simp at hlt)
end
end
end Go.Flow
namespace Go.Mach
noncomputable section
abbrev Pl:=List (List Nat × Int)
def Env (e:Nat→Nat):Prop:=∀i,e i≤127
def kh (e:Nat→Nat):Nat→List Nat→Int
 |_,[]=>1
 |i,n::r=>(e i:Int) ^ n*kh e (i+1) r
def cO (e:Nat→Nat):Pl→Int
 |[]=>0
 |(m,c)::r=>c*kh e 0 m+cO e r
def afi:List Nat→List Nat→List Nat
 |[],b=>b
 |a,[]=>a
 |x::r,y::s=>(x+y)::afi r s
def meq:List Nat→List Nat→Bool
 |[],[]=>ab
 |x::r,y::s=>ai x y&&meq r s
 |_,_=>aa
def mgt:List Nat→List Nat→Bool
 |x::r,y::s=>if ah y x then ab else if ai x y then mgt r s else aa
 |_::_,[]=>ab
 |[],_=>aa
def isZ:Int→Bool
 |.ofNat 0=>ab
 |_=>aa
def cY:Int→Bool
 |.ofNat (_+1)=>ab
 |_=>aa
def ajv (m:List Nat)(c:Int):Pl→Pl
 |[]=>if isZ c then [] else [(m,c)]
 |(m',c')::r=>if meq m m' then (if isZ (c+c') then r else (m,c+c')::r) else if mgt m m' then (if isZ c then (m',c')::r else (m,c)::(m',c')::r) else (m',c')::ajv m c r
def yP:Pl→Pl→Pl
 |[],b=>b
 |(m,c)::r,b=>ajv m c (yP r b)
def adN (m:List Nat)(c:Int):Pl→Pl
 |[]=>[]
 |(m',c')::r=>(afi m m',c*c')::adN m c r
def ajx:Pl→Pl→Pl
 |[],_=>[]
 |(m,c)::r,b=>yP (adN m c b) (ajx r b)
def yT:Pl→Pl
 |[]=>[]
 |(m,c)::r=>(m,-c)::yT r
def ayC (a b:Pl):Pl:=yP a (yT b)
def leq:Pl→Pl→Bool
 |[],[]=>ab
 |(m,c)::r,(m',c')::s=>meq m m'&&isZ (c-c')&&leq r s
 |_,_=>aa
def au6:∀{a b:List Nat},meq a b=ab→a=b
 |[],[],_=>rfl
 |x::r,y::s,h=>by
  simp only[meq,aTT]at h
  rw[aT1 h.1,au6 h.2]
 |[],_::_,h=>by simp[meq]at h
 |_::_,[],h=>by simp[meq]at h
def adv {z:Int}(h:isZ z=ab):z=0:=by
 unfold isZ at h
 split at h
 ·rfl
 ·cases h
def lE {z:Int}:cY z=ab↔0<z:=by
 match z with
 |.ofNat 0=>simp[cY]
 |.ofNat (n+1)=>simp only[cY,true_iff];exact Int.ofNat_lt.2 (Nat.succ_pos n)
 |.negSucc n=>simp only[cY,Bool.false_eq_true,false_iff];have:=Int.negSucc_lt_zero n;omega
def am5 (e:Nat→Nat):∀(i:Nat) (a b:List Nat),kh e i (afi a b)=kh e i a*kh e i b
 |i,[],b=>by simp[afi,kh]
 |i,x::r,[]=>by simp[afi,kh]
 |i,x::r,y::s=>by
  simp only[afi,kh,Int.pow_add,am5 e (i+1) r s]
  simp only[Int.mul_assoc]
  congr 1
  simp only[← Int.mul_assoc]
  rw[Int.mul_comm (↑(e i) ^ y) (kh e (i+1) r)]
def am2 (e:Nat→Nat)(m:List Nat)(c:Int):∀l:Pl,cO e (ajv m c l)=c*kh e 0 m+cO e l
 |[]=>by
  unfold ajv
  split
  ·rename_i h;rw[adv h];simp[cO]
  ·rfl
 |(m',c')::r=>by
  unfold ajv
  split
  ·rename_i h
   have hm:=au6 h;subst hm
   split
   ·rename_i hz
    have hz:=adv hz
    simp only[cO,← Int.add_assoc,← Int.add_mul,hz]
    simp
   ·simp only[cO,← Int.add_assoc,← Int.add_mul]
  ·split
   ·split
    ·rename_i hz;rw[adv hz];simp
    ·rfl
   ·simp only[cO,am2 e m c r]
    omega
def uO (e:Nat→Nat):∀a b:Pl,cO e (yP a b)=cO e a+cO e b
 |[],b=>by simp[yP,cO]
 |(m,c)::r,b=>by simp only[yP,am2,uO e r b,cO];omega
def aju (e:Nat→Nat)(m:List Nat)(c:Int):∀b:Pl,cO e (adN m c b)=c*kh e 0 m*cO e b
 |[]=>by simp[adN,cO]
 |(m',c')::r=>by
  simp only[adN,cO,am5,aju e m c r,Int.mul_add]
  congr 1
  simp only[Int.mul_assoc]
  congr 1
  rw[Int.mul_left_comm]
def am3 (e:Nat→Nat):∀a b:Pl,cO e (ajx a b)=cO e a*cO e b
 |[],b=>by simp[ajx,cO]
 |(m,c)::r,b=>by simp only[ajx,uO,aju,am3 e r b,cO,Int.add_mul]
def ae6 (e:Nat→Nat):∀a:Pl,cO e (yT a) =-cO e a
 |[]=>by simp[yT,cO]
 |(m,c)::r=>by simp only[yT,cO,ae6 e r,Int.neg_mul];omega
def aE8 (e:Nat→Nat)(a b:Pl):cO e (ayC a b)=cO e a-cO e b:=by
 unfold ayC;rw[uO,ae6];omega
def afe:List Nat→Nat
 |[]=>0
 |n::r=>n+afe r
def ub1 (m:List Nat)(c:Int):Int:=
 match m with
 |[]=>c
 |m=>match c with|.ofNat n=>.ofNat (n*127 ^ afe m)|.negSucc _=>0
def lb1 (m:List Nat)(c:Int):Int:=
 match m with
 |[]=>c
 |m=>match c with|.ofNat _=>0|.negSucc n =>-af ((n+1)*127 ^ afe m)
def lub:Pl→Int
 |[]=>0
 |(m,c)::r=>ub1 m c+lub r
def yS:Pl→Int
 |[]=>0
 |(m,c)::r=>lb1 m c+yS r
def ajP {e:Nat→Nat}(he:Env e):∀(i:Nat) (m:List Nat),0≤kh e i m∧kh e i m≤((127 ^ afe m:Nat):Int)
 |i,[]=>by simp[kh,afe]
 |i,n::r=>by
  obtain⟨h1,h2⟩:=ajP he (i+1) r
  have h3:(0:Int)≤(e i:Int) ^ n:=Int.pow_nonneg (Int.natCast_nonneg _)
  have h4:((e i:Int) ^ n)≤((127 ^ n:Nat):Int):=by
   rw[← Int.natCast_pow]
   exact Int.ofNat_le.2 (Nat.pow_le_pow_left (he i) n)
  refine⟨Int.mul_nonneg h3 h1,?_⟩
  simp only[kh,afe,Nat.pow_add,Int.natCast_mul]
  exact Int.mul_le_mul h4 h2 h1 (Int.natCast_nonneg _)
def aN2 {e:Nat→Nat}(he:Env e)(m:List Nat)(c:Int):c*kh e 0 m≤ub1 m c:=by
 unfold ub1
 split
 ·simp[kh]
 ·obtain⟨h1,h2⟩:=ajP he 0 m
  split
  ·rename_i n
   show(n:Int)*_≤((n*_:Nat):Int)
   rw[Int.natCast_mul]
   exact Int.mul_le_mul_of_nonneg_left h2 (Int.natCast_nonneg n)
  ·rename_i n
   exact Int.mul_nonpos_of_nonpos_of_nonneg (Int.le_of_lt (Int.negSucc_lt_zero n)) h1
def aKj {e:Nat→Nat}(he:Env e)(m:List Nat)(c:Int):lb1 m c≤c*kh e 0 m:=by
 unfold lb1
 split
 ·simp[kh]
 ·obtain⟨h1,h2⟩:=ajP he 0 m
  split
  ·rename_i n
   exact Int.mul_nonneg (Int.natCast_nonneg n) h1
  ·rename_i n
   have h3:aT2 n =-((n+1:Nat):Int):=rfl
   rw[h3,Int.neg_mul,aT7,Int.natCast_mul]
   exact Int.neg_le_neg (Int.mul_le_mul_of_nonneg_left h2 (Int.natCast_nonneg _))
def ajB {e:Nat→Nat}(he:Env e):∀l:Pl,cO e l≤lub l
 |[]=>Int.le_refl _
 |(m,c)::r=>Int.add_le_add (aN2 he m c) (ajB he r)
def adM {e:Nat→Nat}(he:Env e):∀l:Pl,yS l≤cO e l
 |[]=>Int.le_refl _
 |(m,c)::r=>Int.add_le_add (aKj he m c) (adM he r)
inductive Sy where
 |k (z:Int)
 |p (l:Pl)
 deriving Inhabited
def Sy.ev (e:Nat→Nat):Sy→Int
 |.k z=>z
 |.p l=>cO e l
def Sy.pl:Sy→Pl
 |.k z=>if isZ z then [] else [([],z)]
 |.p l=>l
def agc:Pl→Sy
 |[]=>.k 0
 |[([],z)]=>.k z
 |l=>.p l
def Sy.ev_pl (e:Nat→Nat)(a:Sy):cO e a.pl=a.ev e:=by
 cases a with
 |k z=>
  unfold Sy.pl
  dsimp only
  split
  ·rename_i h;rw[adv h];rfl
  ·simp[cO,kh,Sy.ev]
 |p l=>rfl
def aa8 (e:Nat→Nat)(l:Pl):(agc l).ev e=cO e l:=by
 unfold agc
 split
 ·rfl
 ·simp[Sy.ev,cO,kh]
 ·rfl
def arG:Sy→Sy→Sy
 |.k a,.k b=>.k (a+b)
 |a,b=>agc (yP a.pl b.pl)
def pJ:Sy→Sy→Sy
 |.k a,.k b=>.k (a-b)
 |a,b=>agc (ayC a.pl b.pl)
def arH:Sy→Sy→Sy
 |.k a,.k b=>.k (a*b)
 |a,b=>agc (ajx a.pl b.pl)
def aDF:Sy→Sy
 |.k a=>.k (-a)
 |.p l=>.p (yT l)
def aBp (e:Nat→Nat)(a b:Sy):(arG a b).ev e=a.ev e+b.ev e:=by
 unfold arG
 split
 ·rfl
 ·rw[aa8,uO,Sy.ev_pl,Sy.ev_pl]
def alk (e:Nat→Nat)(a b:Sy):(pJ a b).ev e=a.ev e-b.ev e:=by
 unfold pJ
 split
 ·rfl
 ·rw[aa8,aE8,Sy.ev_pl,Sy.ev_pl]
def aBq (e:Nat→Nat)(a b:Sy):(arH a b).ev e=a.ev e*b.ev e:=by
 unfold arH
 split
 ·rfl
 ·rw[aa8,am3,Sy.ev_pl,Sy.ev_pl]
def aBr (e:Nat→Nat)(a:Sy):(aDF a).ev e =-a.ev e:=by
 cases a with
 |k z=>rfl
 |p l=>exact ae6 e l
def arJ:Sy→Option Int
 |.k z=>Z (Int.sign z)
 |.p l=>if cY (yS l) then Z 1 else if cY (- lub l) then Z (-1) else U
def aBt {e:Nat→Nat}(he:Env e){a:Sy}{s:Int}(h:arJ a=Z s):Int.sign (a.ev e)=s:=by
 cases a with
 |k z=>cases h;rfl
 |p l=>
  simp only[arJ]at h
  have h1:=adM he l
  have h2:=ajB he l
  split at h
  ·rename_i hp
   cases h
   have:=lE.1 hp
   exact Int.sign_eq_one_of_pos (by show 0<cO e l;omega)
  ·split at h
   ·rename_i hp
    cases h
    have:=lE.1 hp
    exact Int.sign_eq_neg_one_of_neg (by show cO e l<0;omega)
   ·cases h
def alj (lo hi:Int):Sy→Bool
 |.k z=>cY (z-lo+1)&&cY (hi-z+1)
 |.p l=>cY (yS l-lo+1)&&cY (hi-lub l+1)
def an7 {e:Nat→Nat}(he:Env e){lo hi:Int}{a:Sy}(h:alj lo hi a=ab):lo≤a.ev e∧a.ev e≤hi:=by
 cases a with
 |k z=>
  simp only[alj,aTT,lE]at h
  simp only[Sy.ev]
  omega
 |p l=>
  simp only[alj,aTT,lE]at h
  have h1:=adM he l
  have h2:=ajB he l
  simp only[Sy.ev]
  omega
def wk (m:Int):Pl→Pl
 |[]=>[]
 |(x,c)::r=>(x,let d:=Int.emod c m;if cY (d+d-m) then d-m else d)::wk m r
def ajw (e:Nat→Nat)(m:Int):∀l:Pl,∃z,cO e (wk m l)=cO e l+m*z
 |[]=>⟨0,by simp[wk,cO]⟩
 |(x,c)::r=>by
  obtain⟨z,hz⟩:=ajw e m r
  have h1:c=m*(c/m)+c%m:=(Int.mul_ediv_add_emod c m).symm
  have key:∃y,(let d:=Int.emod c m;if cY (d+d-m) then d-m else d)=c+m*y:=by
   dsimp only
   split
   ·refine⟨-(c/m)-1,?_⟩
    show c%m-m=_
    rw[Int.mul_sub,Int.mul_neg]
    omega
   ·refine⟨-(c/m),?_⟩
    show c%m=_
    rw[Int.mul_neg]
    omega
  obtain⟨y,hy⟩:=key
  refine⟨y*kh e 0 x+z,?_⟩
  simp only[wk,cO,hz]
  rw[show(let d:=Int.emod c m;if cY (d+d-m) then d-m else d)=c+m*y from hy,Int.add_mul,Int.mul_add,Int.mul_assoc]
  omega
def arI (a:Sy)(m:Int):Option Sy:=
 match a with
 |.k z=>if cY m&&cY (z+1) then Z (.k (Int.emod z m)) else U
 |.p l=>
  let r0:=wk m l
  let r:=agc (yP r0 (Sy.k (- (m*Int.ediv (yS r0) m))).pl)
  if cY m&&(cY (yS l+1)&&alj 0 (m-1) r) then Z r else U
def aBs {e:Nat→Nat}(he:Env e){a r:Sy}{m:Int}(h:arI a m=Z r):0<m∧0≤a.ev e∧r.ev e=Int.emod (a.ev e) m:=by
 unfold arI at h
 split at h
 ·rename_i z
  split at h
  ·rename_i hc
   simp only[aTT,lE]at hc
   cases h
   exact⟨hc.1,by show 0≤z;omega,rfl⟩
  ·cases h
 ·rename_i l
  dsimp only at h
  split at h
  ·rename_i hc
   simp only[aTT,lE]at hc
   obtain⟨h1,h2,h3⟩:=hc
   cases h
   have h4:=an7 he h3
   have h5:=adM he l
   obtain⟨z,hz⟩:=ajw e m l
   refine⟨h1,by show 0≤cO e l;omega,?_⟩
   rw[aa8,uO,Sy.ev_pl,hz]at h4 ⊢
   simp only[Sy.ev]at h4 ⊢
   have h6:cO e l+m*z +-(m*Int.ediv (yS (wk m l)) m)=cO e l+m*(z-Int.ediv (yS (wk m l)) m):=by
    rw[Int.mul_sub];omega
   rw[h6]at h4 ⊢
   have h7:=Int.emod_eq_of_lt h4.1 (show _<m by omega)
   rw[Int.add_mul_emod_self_left]at h7
   exact h7.symm
  ·cases h
end
end Go.Mach
namespace Go.Flow
noncomputable section
open Go Go.RowKit
abbrev Fr (ro:Option Nat):Fence:={ Fence.wide with round:=ro }
def amd (ro:Option Nat)(n:Nat):(Fr ro).room n:=fun _ h=>by simp[Fence.wide]at h
def aal {ro:Option Nat}{P:Program}{f:FuncId}{args:Array Value}{w:World}{R:Ending→World→Prop}:CallsIn (Fr ro) 0 P f args w R↔Calls P f args w R:=by
 rw[← callsIn_wide (n:=0)]
 exact⟨fun h=>⟨tv,fun cs _=>h.2 cs (amd _ _)⟩,fun h=>⟨tv,fun cs _=>h.2 cs (room_wide _)⟩⟩
def asD (P:Program)(l:Nat)(f:FuncId)(tmps:Array Value)(assign body:Code)(w:World)(R:Ending→World→Prop):Prop:=
 RoundIn Fence.wide 0 P l f tmps assign body w R
def aGl {ro:Option Nat}{P:Program}{l:Nat}{f:FuncId}{tmps:Array Value}{assign body:Code}{w:World}{R:Ending→World→Prop}:
  RoundIn (Fr ro) 0 P l f tmps assign body w R↔asD P l f tmps assign body w R:=
 ⟨fun h=>⟨tv,fun c cs _=>h.2 c cs (amd _ _)⟩,fun h=>⟨tv,fun c cs _=>h.2 c cs (room_wide _)⟩⟩
section
variable {P:Program} {ops:Array Oper}
def jx (P:Program)(G:Value→World→Prop):Result Next→Prop
 |.ok (.value u) w'=>G u w'
 |.ok .skip w'=>G undef w'
 |.ok (.enter f args) w'=>Calls P f args w' (fun e w''=>∃u,e=.returned u∧G u w'')
 |.ok (.round l f tmps assign body) w'=>asD P l f tmps assign body w' (fun e w''=>∃u,e=.returned u∧G u w'')
 |_=>False
def aaf {G G':Value→World→Prop}{r:Result Next}(h:jx P G r)(k:∀u w',G u w'→G' u w'):jx P G' r:=by
 cases r with
 |ok n w'=>
  cases n with
  |value u=>exact k u w' h
  |skip=>exact k undef w' h
  |enter f args=>exact Calls.mono h fun e w'' ⟨u,he,hg⟩=>⟨u,he,k u w'' hg⟩
  |round l f tmps assign body=>exact RoundIn.mono h fun e w'' ⟨u,he,hg⟩=>⟨u,he,k u w'' hg⟩
  |_=>exact h.elim
 |halt x w'=>exact h.elim
def awY {ro:Option Nat}{G:Value→World→Prop}{o:Oper}{a:Act}{next:Act→World→Prop}{Q:Exit→Act→World→Prop}{r:Result Next}(h:jx P G r)(k:∀u w',G u w'→next (a.put o.dst u) w'):
  o.uponIn (Fr ro) 0 P a next Q r:=by
 cases r with
 |ok n w'=>
  cases n with
  |value u=>exact k u w' h
  |skip=>exact k undef w' h
  |enter f args=>
   refine⟨fun hd=>by simp[Fence.wide]at hd,?_⟩
   refine CallsIn.mono (aal.2 h) ?_
   rintro e w'' ⟨u,rfl,hg⟩
   exact k u w'' hg
  |round l f tmps assign body=>
   refine⟨fun hd=>by simp[Fence.wide]at hd,?_⟩
   refine RoundIn.mono (aGl.2 h) ?_
   rintro e w'' ⟨u,rfl,hg⟩
   exact k u w'' hg
  |_=>exact h.elim
 |halt x w'=>exact h.elim
def j7:Op→Bool
 |.defer _=>aa
 |_=>ab
def vC {ro:Option Nat}{G:Value→World→Prop}{o:Oper}{a:Act}{w:World}{next:Act→World→Prop}{Q:Exit→Act→World→Prop}(hd:j7 o.op=ab)(h:jx P G ((execOp a.eval o).run P w))(k:∀u w',G u w'→next (a.put o.dst u) w'):
  o.wpIn (Fr ro) 0 P a w next Q:=by
 refine⟨fun _ _=>trivial,?_⟩
 rw[Oper.semAt_plain _ _ _ (fun c hc=>by rw[hc]at hd;cases hd)]
 exact awY h k
def ard {ro:Option Nat}{id:Nat}{Q:Exit→Act→World→Prop}{a0:Act}{w0:World}(hm:P.follows .mixedOrders=ab){anc:List (List (Nat × Tmp))}(c:Chk ops ops.size anc)(hdf:∀(i:Nat) (o:Oper),ops[i]?=Z o→j7 o.op=ab)
  (hsz:∀(j:Nat) oj t,ops[j]?=Z oj→oj.dst=Z t→t<a0.tmps.size)(J:Array Bool→(Nat→Value)→World→Prop)
  (step:∀listed v w i o,J listed v w→listed.size=ops.size→ar6 ops listed→ops[i]?=Z o→listed.getD i aa=aa→(∀x,((dI [] ops.toList).getD i 0).testBit x=ab→listed.getD x aa=ab)→
   if nn o v then jx P (fun u w'=>J (listed.setIfInBounds i ab) (upd v i u) w') ((execOp (i9 a0 v (anc.getD i [])).eval o).run P w) else J (listed.setIfInBounds i ab) (upd v i undef) w)
  (fin:∀listed v w,J listed v w→(∀i,i<ops.size→listed.getD i aa=ab)→Q .normal (i9 a0 v (te ops ops.size)) w)
  (h0:J (Array.replicate ops.size aa) (fun _=>undef) { w0 with drawn:=w0.drawn+1 }):(Code.region id ops ab).wpIn (Fr ro) 0 P Q a0 w0:=by
 refine wpIn_region_any hm ?_
 have key:∀(k:Nat) (listed:Array Bool) (v:Nat→Value) (a:Act) (w:World),left ops.size listed=k→FInv ops a0 listed v a→J listed v w→wpAnyIn (Fr ro) 0 P .any ops Q k listed a w:=by
  intro k
  induction k with
  |zero=>
   intro listed v a w hk h hJ
   have hall:=auC hk
   have memd:∀j t,(j,t)∈te ops ops.size↔j<ops.size∧(ops[j]?).bind (·.dst)=Z t:=by
    intro j t
    simp only[te,List.mem_filterMap,List.mem_range,aUa]
    constructor
    ·rintro⟨x,hx,t',ht',he⟩
     cases he
     exact⟨hx,ht'⟩
    ·rintro⟨hj,ht⟩
     exact⟨j,hj,t,ht,rfl⟩
   have ha:a=i9 a0 v (te ops ops.size):=by
    have h1:a.tmps=(i9 a0 v (te ops ops.size)).tmps:=by
     apply Array.ext_getElem?
     intro t
     by_cases hw:∃j oj,ops[j]?=Z oj∧listed.getD j aa=ab∧oj.dst=Z t
     ·obtain⟨j,oj,hoj,hj,hd⟩:=hw
      have hjm:j<ops.size:=(Array.getElem?_eq_some_iff.1 hoj).1
      have hts:=hsz j oj t hoj hd
      rw[h.at_ j oj t hoj hj hd hts]
      refine(pW a0 v j t hts _ ((memd j t).2 ⟨hjm,by rw[hoj,Option.bind_some,hd]⟩) fun x hx=>?_).symm
      obtain⟨hxm,hxd⟩:=(memd x t).1 hx
      cases hox:ops[x]? with
      |none=>rw[hox]at hxd;cases hxd
      |some ox=>rw[hox,Option.bind_some]at hxd;exact c.uniq j oj x ox t hjm hoj hxm hox hxd hd
     ·rw[h.far t fun j oj hoj hj hd=>hw ⟨j,oj,hoj,hj,hd⟩]
      refine(nd a0 v t _ fun j hj=>hw ?_).symm
      obtain⟨hjm,hjd⟩:=(memd j t).1 hj
      cases hoj:ops[j]? with
      |none=>rw[hoj]at hjd;cases hjd
      |some oj=>rw[hoj,Option.bind_some]at hjd;exact⟨j,oj,hoj,hall j hjm,hjd⟩
    have h2:a.defers=(i9 a0 v (te ops ops.size)).defers:=by rw[tu];exact h.defers
    cases a with
    |mk t d=>
     cases hq:i9 a0 v (te ops ops.size)with
     |mk t' d'=>
      rw[hq]at h1 h2
      simp only at h1 h2
      rw[h1,h2]
   refine⟨?_,?_⟩
   ·refine List.eq_nil_iff_forall_not_mem.2 fun i hi=>?_
    obtain⟨hun,o,ho,_⟩:=mem_ready.1 hi
    have hlt:=(Array.getElem?_eq_some_iff.1 ho).1
    have hlt':i<listed.size:=by rw[h.size];exact hlt
    have:=hall i hlt
    rw[aUq,aUt hlt']at this hun
    rw[Option.getD_some]at this hun
    rw[this]at hun
    cases hun
   ·rw[ha];exact fin listed v w hJ hall
  |succ k ih=>
   intro listed v a w hk h hJ
   have hcl:=h.cl
   have hnotall:¬∀i,i<ops.size→listed.getD i aa=ab:=fun hall=>by
    have:left ops.size listed=0:=by
     unfold left
     rw[List.filter_eq_nil_iff.2 (fun i hi=>by simp[hall i (List.mem_range.1 hi)])]
     rfl
    omega
   refine⟨fun hr=>absurd hr ?_,fun i hi=>?_⟩
   ·have hex:∃i,i<ops.size∧listed.getD i aa=aa∧∀j,j<i→listed.getD j aa=ab:=by
     have:∀n,n≤ops.size→(∀j,j<n→listed.getD j aa=ab)∨∃i,i<n∧listed.getD i aa=aa∧∀j,j<i→listed.getD j aa=ab:=by
      intro n
      induction n with
      |zero=>intro _;exact .inl fun j hj=>absurd hj (by omega)
      |succ n ihn=>
       intro hn
       rcases ihn (by omega)with h1|⟨i,hi,h1,h2⟩
       ·by_cases hb:listed.getD n aa=ab
        ·refine .inl fun j hj=>?_
         rcases aT6 j n with h2|h2
         ·exact h1 j h2
         ·obtain rfl:j=n:=by omega
          exact hb
        ·exact .inr ⟨n,by omega,by simpa using hb,h1⟩
       ·exact .inr ⟨i,by omega,h1,h2⟩
     rcases this ops.size (aTS _)with h1|⟨i,hi,h1,h2⟩
     ·exact absurd h1 hnotall
     ·exact⟨i,hi,h1,h2⟩
    obtain⟨i,hlt,hun,hbef⟩:=hex
    have hoi:ops[i]?=Z ops[i]:=aUt hlt
    have hmem:i∈Region.ready .any ops listed:=mem_ready.2 ⟨by
     have hlt':i<listed.size:=by rw[h.size];exact hlt
     rw[aUq,aUt hlt']at hun ⊢
     exact hun,_,hoi,fun e he hb=>hbef e.on (c.back i _ hoi e he hb)⟩
    intro hnil
    rw[hnil]at hmem
    cases hmem
   ·obtain⟨hun',o,ho,hall⟩:=mem_ready.1 hi
    have hlt:i<ops.size:=(Array.getElem?_eq_some_iff.1 ho).1
    have hlt':i<listed.size:=by rw[h.size];exact hlt
    have hun:listed.getD i aa=aa:=by
     rw[aUq,aUt hlt']at hun' ⊢
     exact hun'
    have hreach:∀x,((dI [] ops.toList).getD i 0).testBit x=ab→listed.getD x aa=ab:=by
     intro x hx
     have:=mi (L:=fun j=>listed.getD j aa=ab∨j=i) ops.toList [] (fun j oj hoj hj e he hb=>by
      have hoj':ops[j]?=Z oj:=by simpa using hoj
      rcases(by simpa using hj:listed.getD j aa=ab∨j=i)with h1|rfl
      ·exact .inl (h.closed j oj hoj' h1 e he hb)
      ·rw[ho]at hoj';cases hoj';exact .inl (hall e he hb)) (fun j _ x hlt=>by simp at hlt) i (.inr rfl) x hx
     rcases this with h1|rfl
     ·exact h1
     ·exact absurd (ti ops.toList [] (fun j oj hoj e he hb=>by simpa using c.back j oj (by simpa using hoj) e he hb) (fun j x hlt=>by simp at hlt) _ _ hx) (Nat.lt_irrefl _)
    have hanc:∀p∈anc.getD i [],listed.getD p.1 aa=ab:=fun p hp=>hreach p.1 (c.ancs i o hlt ho p hp).2.1
    have hstep:=step listed v w i o hJ h.size hcl ho hun hreach
    have hcnt:=ays hlt hlt' hun
    have next:∀u w',J (listed.setIfInBounds i ab) (upd v i u) w'→wpAnyIn (Fr ro) 0 P .any ops Q k (listed.setIfInBounds i ab) (a.put o.dst u) w':=fun u w' hJ'=>
     ih _ (upd v i u) _ w' (by omega) (h.put c ho hun hall) hJ'
    unfold wpOpIn
    simp only[ho]
    rw[arX c h ho hsz hanc]
    by_cases hw:nn o v=ab
    ·rw[if_pos hw]at hstep ⊢
     refine vC (hdf i o ho) (G:=fun u w'=>J (listed.setIfInBounds i ab) (upd v i u) w') ?_ next
     rw[execOp_congr o (c.nosel i o hlt ho) (fun x hx=>h.eval c ho hun hanc x hx)]
     exact hstep
    ·rw[if_neg hw]at hstep ⊢
     exact⟨fun _ _=>trivial,next undef w hstep⟩
 refine key ops.size _ (fun _=>undef) a0 _ ?_ ?_ h0
 ·unfold left
  rw[List.filter_eq_self.2 (fun i hi=>by
   have:i<ops.size:=List.mem_range.1 hi
   simp[this]),List.length_range]
 ·refine⟨by simp,?_,rfl,rfl,?_,fun _ _=>rfl⟩
  ·intro i o _ hi
   rw[aUq,Array.getElem?_replicate]at hi
   split at hi<;>simp at hi
  ·intro i o t _ hi
   rw[aUq,Array.getElem?_replicate]at hi
   split at hi<;>simp at hi
end
end
end Go.Flow
namespace Go.Mach
noncomputable section
open Go Go.RowKit Go.Flow
inductive C where
 |v (x:Value)
 |vec (l:List Value)
 |mag (l:List Nat)
 |sl (n:Nat) (cs:List C)
 |sy (q:IntKind) (l:Pl)
 |smag (l:Pl)
 |big (n:Nat)
 deriving Inhabited
def vS:Nat→Nat→List Nat
 |0,_=>[]
 |f+1,n=>match n with|0=>[]|m+1=>Nat.mod (m+1) 4294967296::vS f (Nat.div (m+1) 4294967296)
def ax (n:Nat):List Nat:=vS n n
inductive D where
 |c (x:C)
 |fp (cs:List C)
 |ptr (b o:Nat)
 |lsl (b o n s:Nat)
 |fn (f:FuncId) (ps:List (Nat × Nat))
 |z0
 |yld (b:Nat)
 |mp (b:Nat)
 deriving Inhabited
inductive T1 where
 |one (d:D)
 |agg (ds:List D)
 deriving Inhabited
inductive T where
 |nil
 |t (x:T1)
 |tup (l:List T1)
 |row (n:Nat) (ds:List D)
 deriving Inhabited
inductive V1 where
 |one (c:C)
 |agg (cs:List C)
 deriving Inhabited
inductive X where
 |normal
 |exit (id:Nat)
 |ret
 deriving Inhabited,DecidableEq
def X.toExit:X→Exit
 |.normal=>.normal
 |.exit id=>.exit id
 |.ret=>.ret
def X.toCode:X→Code
 |.normal=>.skip
 |.exit id=>.exit id
 |.ret=>.ret
structure LpR where
 i:Nat
 τ:List T
 st:LoopState
 pend:Option X
 deriving Inhabited
inductive Blk where
 |cells (ds:List D)
 |mp (es:List (List Int × List D))
 |it (m n:Nat) (ks:List Nat)
 |lp (r:LpR)
 |df
 deriving Inhabited
structure Bd where
 n:Nat
 kp:List Tmp
 params:Array Tmp
 assign:Code
 body:Code
abbrev aP:=Nat→Option Bd
def isCell:Value→Bool
 |.agg _|.tuple _=>aa
 |_=>ab
structure Cls where
 n:Nat
 k:Nat
 e:Nat→Nat
 he:Env e
class Limb where
 u:TypeId
variable [Limb]
def ae7 (w:World)(x:Nat):Prop:=∃cs fr,w.heap[x]?=Z (.cells cs Limb.u fr)
def gm {α:Type}(l:List α)(k:Cls):Option α:=match l with|[x]=>Z x|l=>if l.length=k.n then l[k.k]? else U
inductive RC (k:Cls) (F:Nat→Prop) (w:World):C→Value→Prop
 |v (x:Value) (h:isCell x=ab):RC k F w (.v x) x
 |vec (l:List Value) (x:Value) (h:gm l k=Z x) (hx:isCell x=ab):RC k F w (.vec l) x
 |mag0 (l:List Nat) (A:Option Addr) (c:Nat) (h:gm l k=Z 0) (hA:A=U→c=0):RC k F w (.mag l) (.slice A 0 c)
 |mag1 (l:List Nat) (n b o cap:Nat) (h:gm l k=Z n) (h0:0<n) (h1:n<4294967296) (hc:1≤cap) (hF:¬F b) (hcell:w.cell? ⟨b,o,U⟩=Z (.int .u32 n)):RC k F w (.mag l) (.slice (Z ⟨b,o,U⟩) 1 cap)
 |nil (A:Option Addr) (c:Nat) (h:A=U→c=0):RC k F w (.sl 0 []) (.slice A 0 c)
 |sl (n:Nat) (cs:List C) (b o cap:Nat) (f:Nat→Value) (hn:n≤cap) (hF:cs≠[]→¬F b) (hc:∀(j:Nat) (c:C),cs[j]?=Z c→w.cell? ⟨b,o+j,U⟩=Z (f j)) (hr:∀(j:Nat) (c:C),cs[j]?=Z c→RC k F w c (f j)):RC k F w (.sl n cs) (.slice (Z ⟨b,o,U⟩) n cap)
 |sy (q:IntKind) (l:Pl):RC k F w (.sy q l) (.int q (cO k.e l))
 |smag (l:Pl) (n b o cap:Nat) (h:cO k.e l=(n:Int)) (h0:0<n) (h1:n<4294967296) (hc:1≤cap) (hF:¬F b) (hcell:w.cell? ⟨b,o,U⟩=Z (.int .u32 n)):RC k F w (.smag l) (.slice (Z ⟨b,o,U⟩) 1 cap)
 |big0 (A:Option Addr) (c:Nat) (hA:A=U→c=0):RC k F w (.big 0) (.slice A 0 c)
 |big1 (n b o cap:Nat) (h0:0<n) (hc:(ax n).length≤cap) (hF:¬F b) (hcell:∀(j d:Nat),(ax n)[j]?=Z d→w.cell? ⟨b,o+j,U⟩=Z (.int .u32 (af d))):RC k F w (.big n) (.slice (Z ⟨b,o,U⟩) (ax n).length cap)
def abT {n:Nat}(h:0<n):∃d r,ax n=d::r:=by
 obtain⟨m,rfl⟩:∃m,n=m+1:=⟨n-1,by omega⟩
 exact⟨_,_,rfl⟩
def RCs (k:Cls)(F:Nat→Prop)(w:World)(b o:Nat)(cs:List C):Prop:=
 (cs≠[]→¬F b)∧∀(j:Nat) (c:C),cs[j]?=Z c→∃u,w.cell? ⟨b,o+j,U⟩=Z u∧RC k F w c u
def RC.cs {k:Cls}{F:Nat→Prop}{w:World}{n:Nat}{cs:List C}{b o l cap:Nat}(h:RC k F w (.sl n cs) (.slice (Z ⟨b,o,U⟩) l cap)):RCs k F w b o cs:=by
 cases h with
 |nil=>exact⟨fun h=>absurd rfl h,fun j c hj=>by simp at hj⟩
 |sl _ _ _ _ _ f hn hF hc hr=>exact⟨hF,fun j c hj=>⟨f j,hc j c hj,hr j c hj⟩⟩
def RC.of_cs {k:Cls}{F:Nat→Prop}{w:World}{n:Nat}{cs:List C}{b o cap:Nat}(hn:n≤cap)(h:RCs k F w b o cs):RC k F w (.sl n cs) (.slice (Z ⟨b,o,U⟩) n cap):=by
 have key:∀j,∃u,∀c,cs[j]?=Z c→w.cell? ⟨b,o+j,U⟩=Z u∧RC k F w c u:=by
  intro j
  cases hj:cs[j]? with
  |none=>exact⟨undef,fun c hc=>by cases hc⟩
  |some c=>
   obtain⟨u,hu,hr⟩:=h.2 j c hj
   exact⟨u,fun c' hc'=>by cases hc';exact⟨hu,hr⟩⟩
 exact .sl n cs b o cap (fun j=>(key j).choose) hn h.1 (fun j c hj=>((key j).choose_spec c hj).1) (fun j c hj=>((key j).choose_spec c hj).2)
def RC.cap0 {k:Cls}{F:Nat→Prop}{w:World}{n:Nat}{cs:List C}{l cap:Nat}(h:RC k F w (.sl n cs) (.slice U l cap)):cap=0:=by
 cases h with
 |nil _ _ h=>exact h rfl
abbrev Hp:=List (Option Blk)
def Fo (F0:Nat→Prop)(φ:Nat→Option Nat)(H:Hp)(S:List Nat)(a:Nat):Prop:=
 F0 a∨∃(b:Nat) (x:Blk),H[b]?=Z (Z x)∧b∉S∧(φ b)=Z a
def RD (k:Cls)(F:Nat→Prop)(φ:Nat→Option Nat)(w:World):D→Value→Prop
 |.c x,u=>RC k F w x u
 |.fp cs,u=>∃b o,u=.pointer (Z ⟨b,o,U⟩)∧RCs k F w b o cs
 |.ptr b o,u=>∃x,(φ b)=Z x∧u=.pointer (Z ⟨x,o,U⟩)
 |.lsl b o n s,u=>∃x cap,(φ b)=Z x∧u=.slice (Z ⟨x,o,U⟩) n cap∧n≤cap∧∃vs t fr,w.heap[x]?=Z (.cells vs t fr)∧o+cap*s≤vs.size
 |.fn f ps,u=>∃vs:Array Value,u=.func (.func f) #[] vs∧vs.size=ps.length∧∀(j b o:Nat),ps[j]?=Z (b,o)→∃x,φ b=Z x∧vs[j]?=Z (.pointer (Z ⟨x,o,U⟩))
 |.z0,u=>∃A,u=.slice A 0 0
 |.yld b,u=>∃x,φ b=Z x∧u=.func (.yield x) #[] #[]
 |.mp b,u=>∃x,φ b=Z x∧u=.map (Z x)
def RT1 (k:Cls)(F:Nat→Prop)(φ:Nat→Option Nat)(w:World):T1→Value→Prop
 |.one d,u=>RD k F φ w d u
 |.agg ds,u=>∃vs:Array Value,u=.agg vs∧vs.size=ds.length∧∀(j:Nat) (d:D),ds[j]?=Z d→∃x,vs[j]?=Z x∧RD k F φ w d x
def RT (k:Cls)(F:Nat→Prop)(φ:Nat→Option Nat)(w:World):T→Value→Prop
 |.nil,_=>True
 |.t x,u=>RT1 k F φ w x u
 |.tup l,u=>∃vs:Array Value,u=.tuple vs∧vs.size=l.length∧∀(j:Nat) (d:T1),l[j]?=Z d→∃x,vs[j]?=Z x∧RT1 k F φ w d x
 |.row n ds,u=>∃b o cap,u=.slice (Z ⟨b,o,U⟩) n cap∧n≤cap∧¬F b∧b<w.heap.size∧∀(j:Nat) (d:D),ds[j]?=Z d→∃x,w.cell? ⟨b,o+j,U⟩=Z x∧RD k F φ w d x
def V1.t1:V1→T1
 |.one c=>.one (.c c)
 |.agg cs=>.agg (cs.map .c)
def RB (k:Cls)(Bt:aP)(F:Nat→Prop)(φ:Nat→Option Nat)(w:World)(x:Nat):Blk→Prop
 |.cells ds=>∃vs t,w.heap[x]?=Z (.cells vs t (0,0))∧ds.length≤vs.size∧(∀(j:Nat) (d:D),ds[j]?=Z d→∃u,vs[j]?=Z u∧RD k F φ w d u)∧t≠Limb.u
 |.mp es=>∃(ens:Array MapEntry) (clk:Nat),w.heap[x]?=Z (.map ens clk)∧ens.size=es.length∧clk=ens.size∧(∀(j:Nat) e,ens[j]?=Z e→e.born=j)∧
   ∀(j:Nat) key ds,es[j]?=Z (key,ds)→∃e,ens[j]?=Z e∧e.key=.agg (key.map (Value.int .i64)).toArray∧key.length=4∧RT1 k F φ w (.agg ds) e.val
 |.it m n ks=>∃bm,φ m=Z bm∧w.heap[x]?=Z (.mapIter (Z bm) n ks.toArray n)
 |.lp r=>∃(l:Loop) (bd:Bd),w.heap[x]?=Z (.loop l)∧Bt r.i=Z bd∧l.params=bd.params∧l.assign=bd.assign∧l.body=bd.body∧l.state=r.st∧l.pending=r.pend.map X.toCode∧l.tmps.size=bd.n∧∀(p t:Nat),bd.kp[p]?=Z t→RT k F φ w (r.τ.getD p .nil) (l.tmps.getD t undef)
 |.df=>w.heap[x]?=Z (.deferred (Z []))
structure HR (k:Cls) (Bt:aP) (F0:Nat→Prop) (N:Nat) (φ:Nat→Option Nat) (w:World) (H:Hp) (S:List Nat):Prop where
 dom:∀b,H.length≤b→φ b=U
 f0:∀x,F0 x→x<w.heap.size∧(∀(b:Nat) y,H[b]?=Z (Z y)→φ b≠Z x)∧¬ae7 w x
 inj:∀(b b':Nat) y y' x,H[b]?=Z (Z y)→H[b']?=Z (Z y')→(φ b)=Z x→(φ b')=Z x→b=b'
 at_:∀(b:Nat) y x,H[b]?=Z (Z y)→φ b=Z x→N≤x∧RB k Bt (Fo F0 φ H S) φ w x y
structure Kp (F:Nat→Prop) (φ:Nat→Option Nat) (w:World) (F':Nat→Prop) (φ':Nat→Option Nat) (w':World):Prop where
 phi:∀(b x:Nat),(φ b)=Z x→(φ' b)=Z x
 keep:∀(x:Nat),x<w.heap.size→¬F x→w'.heap[x]?=w.heap[x]?∧¬F' x
 size:∀(x:Nat) vs t fr,w.heap[x]?=Z (.cells vs t fr)→∃vs',w'.heap[x]?=Z (.cells vs' t fr)∧vs'.size=vs.size
section
variable {k:Cls} {Bt:aP} {F F' F'':Nat→Prop} {φ φ' φ'':Nat→Option Nat} {w w' w'':World}
def Kp.refl:Kp F φ w F φ w:=⟨fun _ _ h=>h,fun _ _ h=>⟨rfl,h⟩,fun _ vs _ _ h=>⟨vs,h,rfl⟩⟩
def dn {b:Nat}{o:Obj}(h:w.heap[b]?=Z o):b<w.heap.size:=by
 rcases aT6 b w.heap.size with hlt|hge
 ·exact hlt
 ·rw[Array.getElem?_eq_none hge]at h;cases h
def Kp.trans (h:Kp F φ w F' φ' w')(k:Kp F' φ' w' F'' φ'' w'')(hs:w.heap.size≤w'.heap.size):Kp F φ w F'' φ'' w'':=
 ⟨fun b x hx=>k.phi b x (h.phi b x hx),
  fun x hx hF=>⟨((k.keep x (aUj hx hs) (h.keep x hx hF).2).1).trans (h.keep x hx hF).1,(k.keep x (aUj hx hs) (h.keep x hx hF).2).2⟩,
  fun x vs t fr hx=>by
   obtain⟨vs',h1,h2⟩:=h.size x vs t fr hx
   obtain⟨vs'',h3,h4⟩:=k.size x vs' t fr h1
   exact⟨vs'',h3,h4.trans h2⟩⟩
def Kp.of_ext (h:Ext w w')(hF:∀x,x<w.heap.size→¬F x→¬F' x)(hφ:∀(b x:Nat),(φ b)=Z x→(φ' b)=Z x):Kp F φ w F' φ' w':=
 ⟨hφ,fun x hx hf=>⟨h.block x hx,hF x hx hf⟩,fun x vs t fr hx=>⟨vs,by rw[h.block x (dn hx)];exact hx,rfl⟩⟩
def tP {b o:Nat}{u:Value}(h:w.cell? ⟨b,o,U⟩=Z u):b<w.heap.size:=by
 rcases aT6 b w.heap.size with hlt|hge
 ·exact hlt
 ·simp[World.cell?,Array.getElem?_eq_none hge]at h
def pN {b o:Nat}(h:w'.heap[b]?=w.heap[b]?):w'.cell? ⟨b,o,U⟩=w.cell? ⟨b,o,U⟩:=World.cell?_of_block (w:=w) h
def RC.kp (q:Kp F φ w F' φ' w'){c:C}{u:Value}(h:RC k F w c u):RC k F' w' c u:=by
 induction h with
 |v x hx=>exact .v x hx
 |vec l x h hx=>exact .vec l x h hx
 |mag0 l A c h hA=>exact .mag0 l A c h hA
 |mag1 l n b o cap h h0 h1 hc hF hcell=>
  have hk:=q.keep b (tP hcell) hF
  exact .mag1 l n b o cap h h0 h1 hc hk.2 (by rw[pN hk.1];exact hcell)
 |nil A c h=>exact .nil A c h
 |sy q l=>exact .sy q l
 |smag l n b o cap h h0 h1 hc hF hcell=>
  have hk:=q.keep b (tP hcell) hF
  exact .smag l n b o cap h h0 h1 hc hk.2 (by rw[pN hk.1];exact hcell)
 |big0 A c hA=>exact .big0 A c hA
 |big1 n b o cap h0 hc hF hcell=>
  obtain⟨d,r,hd⟩:=abT h0
  have hk:=q.keep b (tP (hcell 0 d (by rw[hd];rfl))) hF
  exact .big1 n b o cap h0 hc hk.2 (fun j d hj=>by rw[pN hk.1];exact hcell j d hj)
 |sl n cs b o cap f hn hF hc hr ih=>
  by_cases hcs:cs=[]
  ·subst hcs
   exact .sl n [] b o cap f hn (fun h=>absurd rfl h) (fun j c hj=>by simp at hj) (fun j c hj=>by simp at hj)
  ·have hlt:b<w.heap.size:=by
    cases cs with
    |nil=>exact absurd rfl hcs
    |cons c r=>exact tP (hc 0 c rfl)
   have hk:=q.keep b hlt (hF hcs)
   exact .sl n cs b o cap f hn (fun _=>hk.2) (fun j c hj=>by rw[pN hk.1];exact hc j c hj) ih
def RCs.kp (q:Kp F φ w F' φ' w'){b o:Nat}{cs:List C}(h:RCs k F w b o cs):RCs k F' w' b o cs:=by
 by_cases hcs:cs=[]
 ·subst hcs
  exact⟨fun h=>absurd rfl h,fun j c hj=>by simp at hj⟩
 ·have hlt:b<w.heap.size:=by
   cases cs with
   |nil=>exact absurd rfl hcs
   |cons c r=>obtain⟨u,hu,_⟩:=h.2 0 c rfl;exact tP hu
  have hk:=q.keep b hlt (h.1 hcs)
  refine⟨fun _=>hk.2,fun j c hj=>?_⟩
  obtain⟨u,hu,hr⟩:=h.2 j c hj
  exact⟨u,by rw[pN hk.1];exact hu,hr.kp q⟩
def RD.kp (q:Kp F φ w F' φ' w'){d:D}{u:Value}(h:RD k F φ w d u):RD k F' φ' w' d u:=by
 cases d with
 |c x=>exact RC.kp q h
 |fp cs=>
  obtain⟨b,o,hu,hr⟩:=h
  exact⟨b,o,hu,hr.kp q⟩
 |ptr b o=>
  obtain⟨x,hx,hu⟩:=h
  exact⟨x,q.phi b x hx,hu⟩
 |lsl b o n s=>
  obtain⟨x,cap,hx,hu,hn,vs,t,fr,hw,hsz⟩:=h
  obtain⟨vs',h1,h2⟩:=q.size x vs t fr hw
  exact⟨x,cap,q.phi b x hx,hu,hn,vs',t,fr,h1,by omega⟩
 |fn f ps=>
  obtain⟨vs,hu,hs,hp⟩:=h
  refine⟨vs,hu,hs,fun j b o hj=>?_⟩
  obtain⟨x,hx,hv⟩:=hp j b o hj
  exact⟨x,q.phi b x hx,hv⟩
 |z0=>exact h
 |yld b=>
  obtain⟨x,hx,hu⟩:=h
  exact⟨x,q.phi b x hx,hu⟩
 |mp b=>
  obtain⟨x,hx,hu⟩:=h
  exact⟨x,q.phi b x hx,hu⟩
def RT1.kp (q:Kp F φ w F' φ' w'){x:T1}{u:Value}(h:RT1 k F φ w x u):RT1 k F' φ' w' x u:=by
 cases x with
 |one d=>exact RD.kp q h
 |agg ds=>
  obtain⟨vs,hu,hs,hr⟩:=h
  exact⟨vs,hu,hs,fun j d hj=>let ⟨x,hx,hd⟩:=hr j d hj;⟨x,hx,RD.kp q hd⟩⟩
def RT.kp (q:Kp F φ w F' φ' w'){x:T}{u:Value}(h:RT k F φ w x u):RT k F' φ' w' x u:=by
 cases x with
 |nil=>trivial
 |t x=>exact RT1.kp q h
 |tup l=>
  obtain⟨vs,hu,hs,hr⟩:=h
  exact⟨vs,hu,hs,fun j d hj=>let ⟨x,hx,hd⟩:=hr j d hj;⟨x,hx,RT1.kp q hd⟩⟩
 |row n ds=>
  obtain⟨b,o,cap,hu,hn,hF,hb,hr⟩:=h
  obtain⟨h1,h2⟩:=q.keep b hb hF
  have hsz:b<w'.heap.size:=by
   obtain⟨ob,hob⟩:∃ob,w.heap[b]?=Z ob:=⟨_,aUt hb⟩
   rw[hob]at h1
   exact dn h1
  exact⟨b,o,cap,hu,hn,h2,hsz,fun j d hj=>let ⟨x,hx,hd⟩:=hr j d hj;⟨x,by rw[pN h1];exact hx,RD.kp q hd⟩⟩
def RB.kp (q:Kp F φ w F' φ' w'){x:Nat}{y:Blk}(h:RB k Bt F φ w x y)(hx:w'.heap[x]?=w.heap[x]?):RB k Bt F' φ' w' x y:=by
 cases y with
 |cells ds=>
  obtain⟨vs,t,hw,hl,hc,ht⟩:=h
  exact⟨vs,t,by rw[hx];exact hw,hl,fun j d hj=>let ⟨u,hu,hd⟩:=hc j d hj;⟨u,hu,RD.kp q hd⟩,ht⟩
 |mp es=>
  obtain⟨ens,clk,hw,hs,h1,h2,h3⟩:=h
  exact⟨ens,clk,by rw[hx];exact hw,hs,h1,h2,fun j key ds hj=>let ⟨e,he,hk,hk4,hv⟩:=h3 j key ds hj;⟨e,he,hk,hk4,RT1.kp q hv⟩⟩
 |it m n ks=>
  obtain⟨bm,h1,h2⟩:=h
  exact⟨bm,q.phi m bm h1,by rw[hx];exact h2⟩
 |lp r=>
  obtain⟨l,bd,hw,h1,h2,h3,h4,h5,h6,h7,h8⟩:=h
  exact⟨l,bd,by rw[hx];exact hw,h1,h2,h3,h4,h5,h6,h7,fun p t hp=>RT.kp q (h8 p t hp)⟩
 |df=>show _=_;rw[hx];exact h
def RB.lt {x:Nat}{y:Blk}(h:RB k Bt F φ w x y):x<w.heap.size:=by
 cases y with
 |cells ds=>obtain⟨vs,t,hw,_⟩:=h;exact dn hw
 |mp es=>obtain⟨ens,clk,hw,_⟩:=h;exact dn hw
 |it m n ks=>obtain⟨bm,_,hw⟩:=h;exact dn hw
 |lp r=>obtain⟨l,bd,hw,_⟩:=h;exact dn hw
 |df=>exact dn h
def HR.dom_lt {F0:Nat→Prop}{N:Nat}{H:Hp}{S:List Nat}(h:HR k Bt F0 N φ w H S){b x:Nat}(hx:φ b=Z x):b<H.length:=by
 rcases aT6 b H.length with h1|h1
 ·exact h1
 ·rw[h.dom b h1]at hx;cases hx
def HR.lt {F0:Nat→Prop}{N:Nat}{H:Hp}{S:List Nat}(h:HR k Bt F0 N φ w H S){b:Nat}{y:Blk}(hb:H[b]?=Z (Z y)){x:Nat}(hx:(φ b)=Z x):x<w.heap.size∧N≤x:=by
 obtain⟨hN,hB⟩:=h.at_ b y x hb hx
 exact⟨hB.lt,hN⟩
def HR.fo_lt {F0:Nat→Prop}{N:Nat}{H:Hp}{S:List Nat}(h:HR k Bt F0 N φ w H S){x:Nat}(hx:Fo F0 φ H S x):x<w.heap.size:=by
 rcases hx with hx|⟨b,y,hb,_,hx⟩
 ·exact(h.f0 x hx).1
 ·exact(h.lt hb hx).1
def HR.ext {F0:Nat→Prop}{N:Nat}{H:Hp}{S:List Nat}(h:HR k Bt F0 N φ w H S)(hx:Ext w w'):HR k Bt F0 N φ w' H S:=by
 refine⟨h.dom,fun x h0=>?_,h.inj,fun b y x hb hφ=>?_⟩
 ·obtain⟨h1,h3,h4⟩:=h.f0 x h0
  exact⟨aUj h1 hx.size,h3,fun⟨cs,fr,hl⟩=>h4 ⟨cs,fr,by rw[← hx.block x h1];exact hl⟩⟩
 obtain⟨hN,hB⟩:=h.at_ b y x hb hφ
 exact⟨hN,RB.kp (Kp.of_ext hx (fun _ _ h=>h) (fun _ _ h=>h)) hB (hx.block x hB.lt)⟩
def ae8 {x:Nat}(h:w'.heap[x]?=w.heap[x]?)(hn:¬ae7 w x):¬ae7 w' x:=fun⟨cs,fr,hl⟩=>hn ⟨cs,fr,by rw[← h];exact hl⟩
def RB.nolimb {F:Nat→Prop}{x:Nat}{y:Blk}(h:RB k Bt F φ w x y):¬ae7 w x:=by
 rintro⟨cs,fr,hl⟩
 cases y with
 |cells ds=>
  obtain⟨vs,t,hw,_,_,ht⟩:=h
  rw[hw]at hl
  cases hl
  exact ht rfl
 |mp es=>obtain⟨ens,clk,hw,_⟩:=h;rw[hw]at hl;cases hl
 |it m n ks=>obtain⟨bm,_,hw⟩:=h;rw[hw]at hl;cases hl
 |lp r=>obtain⟨l,bd,hw,_⟩:=h;rw[hw]at hl;cases hl
 |df=>rw[show w.heap[x]?=Z (.deferred (Z [])) from h]at hl;cases hl
def HR.nolimb {F0:Nat→Prop}{N:Nat}{H:Hp}{S:List Nat}(h:HR k Bt F0 N φ w H S){x:Nat}(hx:Fo F0 φ H S x):¬ae7 w x:=by
 rcases hx with hx|⟨b,y,hb,_,hx⟩
 ·exact(h.f0 x hx).2.2
 ·exact(h.at_ b y x hb hx).2.nolimb
def Fo.shutB {F0:Nat→Prop}{H:Hp}{S S':List Nat}{x:Nat}(h:Fo F0 φ H (S'++S) x):Fo F0 φ H S x:=by
 rcases h with h|⟨b,y,hb,hs,hx⟩
 ·exact .inl h
 ·exact .inr ⟨b,y,hb,fun h=>hs (List.mem_append_right _ h),hx⟩
def Kp.shutB {F0:Nat→Prop}{H:Hp}{S:List Nat}(S':List Nat):Kp (Fo F0 φ H S) φ w (Fo F0 φ H (S'++S)) φ w:=
 ⟨fun _ _ h=>h,fun _ _ h=>⟨rfl,fun h'=>h (Fo.shutB h')⟩,fun _ vs _ _ h=>⟨vs,h,rfl⟩⟩
def HR.shutB {F0:Nat→Prop}{N:Nat}{H:Hp}{S:List Nat}(S':List Nat)(h:HR k Bt F0 N φ w H S):HR k Bt F0 N φ w H (S'++S):=by
 refine⟨h.dom,h.f0,h.inj,fun b y x hb hφ=>?_⟩
 obtain⟨hN,hB⟩:=h.at_ b y x hb hφ
 exact⟨hN,RB.kp (Kp.shutB S') hB rfl⟩
end
def ow:D→Option Value
 |.c (.v x)=>Z x
 |_=>U
def vu:List D→Option (List Value)
 |[]=>Z []
 |d::r=>match ow d,vu r with|some x,Z l=>Z (x::l)|_,_=>U
def kJ:T→Option Value
 |.t (.one d)=>ow d
 |.t (.agg ds)=>(vu ds).map fun l=>.agg l.toArray
 |_=>U
def ge:List Value→Option (List D)
 |[]=>Z []
 |x::r=>if isCell x then (match ge r with|some l=>Z (.c (.v x)::l)|none=>U) else U
def ny:Value→Option T1
 |.agg cs=>(ge cs.toList).map .agg
 |x=>if isCell x then Z (.one (.c (.v x))) else U
section
variable {P:Program} {k:Cls} {F:Nat→Prop} {φ:Nat→Option Nat} {w:World}
def ag2 {d:D}{x u:Value}(h:ow d=Z x)(r:RD k F φ w d u):u=x:=by
 cases d with
 |c y=>
  cases y with
  |v z=>simp[ow]at h;subst h;cases r;rfl
  |_=>simp[ow]at h
 |_=>simp[ow]at h
def ag3:∀{ds:List D} {l:List Value} (_h:vu ds=Z l) {vs:List Value} (_hl:vs.length=ds.length) (_r:∀(j:Nat) (d:D),ds[j]?=Z d→∃x,vs[j]?=Z x∧RD k F φ w d x),vs=l
 |[],l,h,vs,hl,_=>by simp[vu]at h;subst h;exact List.eq_nil_of_length_eq_zero hl
 |d::ds,l,h,vs,hl,r=>by
  unfold vu at h
  split at h
  ·rename_i x l' hx hl'
   cases h
   obtain⟨y,hy,hr⟩:=r 0 d rfl
   cases vs with
   |nil=>simp at hl
   |cons z vs=>
    simp at hy;subst hy
    have e1:z=x:=ag2 hx hr
    have e2:vs=l':=ag3 hl' (by simpa using hl) (fun j d' hj=>by simpa using r (j+1) d' (by simpa using hj))
    rw[e1,e2]
  ·cases h
def cF {t:T}{x u:Value}(h:kJ t=Z x)(r:RT k F φ w t u):u=x:=by
 cases t with
 |nil=>simp[kJ]at h
 |tup l=>simp[kJ]at h
 |row n ds=>simp[kJ]at h
 |t y=>
  cases y with
  |one d=>exact ag2 h r
  |agg ds=>
   simp only[kJ,aUa]at h
   obtain⟨l,hl,rfl⟩:=h
   obtain⟨vs,rfl,hs,hr⟩:=r
   have:=ag3 hl (vs:=vs.toList) (by simpa using hs) (fun j d hj=>by simpa using hr j d hj)
   rw[← this]
def afp:∀{l:List Value} {ds:List D} (_h:ge l=Z ds),l.length=ds.length∧∀(j:Nat) (d:D),ds[j]?=Z d→∃x,l[j]?=Z x∧RD k F φ w d x
 |[],ds,h=>by simp[ge]at h;subst h;simp
 |x::r,ds,h=>by
  unfold ge at h
  split at h
  ·rename_i hx
   split at h
   ·rename_i l' hl'
    cases h
    obtain⟨h1,h2⟩:=afp hl'
    refine⟨by simp[h1],fun j d hj=>?_⟩
    cases j with
    |zero=>simp at hj;subst hj;exact⟨x,rfl,RC.v x hx⟩
    |succ j=>simp at hj ⊢;exact h2 j d hj
   ·cases h
  ·cases h
def zm {x:Value}{t:T1}(h:ny x=Z t):RT1 k F φ w t x:=by
 unfold ny at h
 split at h
 ·rename_i cs
  simp only[aUa]at h
  obtain⟨ds,hd,rfl⟩:=h
  obtain⟨h1,h2⟩:=afp (k:=k) (F:=F) (φ:=φ) (w:=w) hd
  exact⟨cs,rfl,by simpa using h1,fun j d hj=>by simpa using h2 j d hj⟩
 ·split at h
  ·rename_i hx
   cases h
   exact RC.v _ hx
  ·cases h
end
def eJ (H:Hp):D→Nat→Option (List D)
 |.fp cs,n=>if n≤cs.length then Z ((cs.take n).map .c) else U
 |.ptr b o,n=>match H[b]? with|some (Z (.cells ds))=>(if o+n≤ds.length then Z ((ds.drop o).take n) else U)|_=>U
 |_,_=>U
def u32 (n:Nat):Value:=.int .u32 (n:Int)
def adX (l:List Nat):Option (Nat × List C):=
 if l.all (fun n=>ah 0 n) then Z (1,[.vec (l.map u32)]) else if l.all (fun n=>ai n 0) then Z (0,[]) else U
def uc (l:List Nat):List C:=l.map fun d=>.v (.int .u32 (af d))
def ar:D→Option (Nat × List C)
 |.c (.sl n cs)=>Z (n,cs)
 |.c (.v (.slice U 0 0))=>Z (0,[])
 |.c (.v (.slice (Z _) 0 _))=>Z (0,[])
 |.c (.mag l)=>adX l
 |.c (.smag l)=>Z (1,[.sy .u32 l])
 |.c (.big n)=>Z ((ax n).length,uc (ax n))
 |.z0=>Z (0,[])
 |_=>U
def tJ {α β:Type}(f:α→β)(l:List α)(k:Cls):gm (l.map f) k=(gm l k).map f:=by
 match l with
 |[]=>simp[gm]
 |[x]=>rfl
 |x::y::r=>show(if (List.map f (x::y::r)).length=k.n then (List.map f (x::y::r))[k.k]? else U)=Option.map f (if (x::y::r).length=k.n then (x::y::r)[k.k]? else U);rw[aUm,List.length_map];split<;>rfl
def aai {α:Type}{l:List α}{k:Cls}{x:α}(h:gm l k=Z x):x∈l:=by
 match l,h with
 |[],h=>simp[gm]at h
 |[y],h=>simp[gm]at h;simp[h]
 |y::z::r,h=>
  simp only[gm]at h
  split at h
  ·exact List.mem_of_getElem? h
  ·cases h
section
variable {P:Program} {k:Cls} {Bt:aP} {F0:Nat→Prop} {N:Nat} {φ:Nat→Option Nat} {w:World} {H:Hp} {S:List Nat}
def dt (b o j:Nat):(⟨b,o,U⟩:Addr).add j=⟨b,o+j,U⟩:=by
 unfold Addr.add
 by_cases h:j=0
 ·subst h;simp
 ·rw[if_neg h]
def ac6 (hH:HR k Bt F0 N φ w H S){d:D}{n:Nat}{ds:List D}{u:Value}(h:eJ H d n=Z ds)(r:RD k (Fo F0 φ H S) φ w d u):
  ∃b o,u=.pointer (Z ⟨b,o,U⟩)∧ds.length=n∧∀(j:Nat) (d':D),ds[j]?=Z d'→∃x,w.cell? ⟨b,o+j,U⟩=Z x∧RD k (Fo F0 φ H S) φ w d' x:=by
 cases d with
 |fp cs=>
  obtain⟨b,o,rfl,hF,hr⟩:=r
  simp only[eJ]at h
  split at h
  ·rename_i hn
   cases h
   refine⟨b,o,rfl,by simp;omega,fun j d' hj=>?_⟩
   simp only[aUm,List.getElem?_take,aUa]at hj
   obtain⟨c,hc,rfl⟩:=hj
   split at hc
   ·exact hr j c hc
   ·cases hc
  ·cases h
 |ptr b o=>
  obtain⟨x,hx,rfl⟩:=r
  simp only[eJ]at h
  split at h
  ·rename_i es hb
   split at h
   ·rename_i hn
    cases h
    obtain⟨_,vs,t,hw,hl,hc,_⟩:=hH.at_ b _ x hb hx
    refine⟨x,o,rfl,by simp;omega,fun j d' hj=>?_⟩
    simp only[List.getElem?_take,List.getElem?_drop]at hj
    split at hj
    ·obtain⟨u,hu,hd⟩:=hc (o+j) d' hj
     exact⟨u,by simp[World.cell?,hw,hu],hd⟩
    ·cases hj
   ·cases h
  ·cases h
 |_=>simp[eJ]at h
def ajJ {F:Nat→Prop}{l:List Nat}{n:Nat}{cs:List C}{u:Value}(h:adX l=Z (n,cs))(r:RC k F w (.mag l) u):∃A c,u=.slice A n c∧RC k F w (.sl n cs) (.slice A n c)∧n≤c:=by
 unfold adX at h
 split at h
 ·rename_i hall
  cases h
  cases r with
  |mag0 _ A c h hA=>
   have:=List.all_eq_true.1 hall 0 (aai h)
   simp at this
  |mag1 _ n b o cap h h0 h1 hc hF hcell=>
   refine⟨_,_,rfl,?_,hc⟩
   refine RC.sl 1 _ b o cap (fun _=>u32 n) hc (fun _=>hF) (fun j c hj=>?_) (fun j c hj=>?_)
   ·have:j=0:=by
     have:=(aTU.1 hj).1
     simp at this;exact this
    subst this
    exact hcell
   ·have:j=0:=by
     have:=(aTU.1 hj).1
     simp at this;exact this
    subst this
    simp at hj;subst hj
    exact RC.vec _ _ (by rw[tJ,h];rfl) rfl
 ·split at h
  ·rename_i hall
   cases h
   cases r with
   |mag0 _ A c h hA=>exact⟨A,c,rfl,.nil A c hA,Nat.zero_le _⟩
   |mag1 _ n b o cap h h0 h1 hc hF hcell=>
    have:=List.all_eq_true.1 hall n (aai h)
    simp at this;omega
  ·cases h
def asN {F:Nat→Prop}{n:Nat}{u:Value}(r:RC k F w (.big n) u):∃A c,u=.slice A (ax n).length c∧RC k F w (.sl (ax n).length (uc (ax n))) (.slice A (ax n).length c)∧(ax n).length≤c:=by
 cases r with
 |big0 A c hA=>exact⟨A,c,rfl,.nil A c hA,Nat.zero_le _⟩
 |big1 _ b o cap h0 hc hF hcell=>
  refine⟨_,_,rfl,RC.sl _ _ b o cap (fun j=>.int .u32 (af ((ax n).getD j 0))) hc (fun _=>hF) (fun j c hj=>?_) (fun j c hj=>?_),hc⟩
  ·unfold uc at hj
   rw[aUm,aUa]at hj
   obtain⟨d,hd,rfl⟩:=hj
   rw[List.getD_eq_getElem?_getD,hd]
   exact hcell j d hd
  ·unfold uc at hj
   rw[aUm,aUa]at hj
   obtain⟨d,hd,rfl⟩:=hj
   rw[List.getD_eq_getElem?_getD,hd]
   exact .v _ rfl
def lM {F:Nat→Prop}{d:D}{n:Nat}{cs:List C}{u:Value}(h:ar d=Z (n,cs))(r:RD k F φ w d u):∃A c,u=.slice A n c∧RC k F w (.sl n cs) (.slice A n c)∧n≤c:=by
 unfold ar at h
 split at h
 ·cases h
  have r':RC k F w (.sl n cs) u:=r
  cases r' with
  |nil A c h=>exact⟨A,c,rfl,.nil A c h,Nat.zero_le _⟩
  |sl _ _ b o cap f hn hF hc hr=>exact⟨_,_,rfl,.sl n cs b o cap f hn hF hc hr,hn⟩
 ·cases h
  have r':RC k F w (.v (.slice U 0 0)) u:=r
  cases r' with
  |v _ _=>exact⟨U,0,rfl,.nil U 0 (fun _=>rfl),aTS _⟩
 ·rename_i a c
  cases h
  have r':RC k F w (.v (.slice (Z a) 0 c)) u:=r
  cases r' with
  |v _ _=>exact⟨Z a,c,rfl,.nil (Z a) c (fun h=>by cases h),Nat.zero_le _⟩
 ·exact ajJ h r
 ·rename_i l
  cases h
  have r':RC k F w (.smag l) u:=r
  cases r' with
  |smag _ n b o cap h h0 h1 hc hF hcell=>
   refine⟨_,_,rfl,?_,hc⟩
   refine RC.sl 1 _ b o cap (fun _=>.int .u32 n) hc (fun _=>hF) (fun j c hj=>?_) (fun j c hj=>?_)
   ·have:j=0:=by
     have:=(aTU.1 hj).1
     simp at this;exact this
    subst this
    exact hcell
   ·have:j=0:=by
     have:=(aTU.1 hj).1
     simp at this;exact this
    subst this
    simp at hj;subst hj
    rw[← h]
    exact RC.sy .u32 l
 ·cases h
  exact asN r
 ·cases h
  obtain⟨A,rfl⟩:=r
  exact⟨A,0,rfl,.nil A 0 (fun _=>rfl),aTS _⟩
 ·cases h
def qF:TypeDesc→Bool
 |.struct _|.array _ _=>ab
 |_=>aa
def fR (P:Program)(t:TypeId):Option Nat:=(P.info? t).map (·.size)
def oC {t:TypeId}{d:TypeDesc}(h:P.underlying t=Z d):(isAgg t).run P w=.ok (qF d) w:=by
 unfold isAgg
 simp only[Sem.run_bind,run_underlying h,Result.andThen_ok]
 cases d<;>rfl
def bl {t:TypeId}{n:Nat}(h:fR P t=Z n):(sizeOf t).run P w=.ok n w:=by
 unfold fR at h
 simp only[aUa]at h
 obtain⟨i,hi,rfl⟩:=h
 simp[sizeOf,typeInfo,hi]
def vE (P:Program)(t:TypeId)(agg:Bool)(n:Nat):Prop:=fR P t=Z n∧∃de,P.underlying t=Z de∧qF de=agg
def lW (agg:Bool)(n:Nat)(H:Hp)(x:T):Option T:=
 match x with
 |.t (.one d)=>
  if agg then (eJ H d n).map fun ds=>.t (.agg ds)
  else match eJ H d 1 with|some [y]=>Z (.t (.one y))|_=>U
 |_=>U
def amF (hH:HR k Bt F0 N φ w H S){t:TypeId}{agg:Bool}{n:Nat}(ht:vE P t agg n){x y:T}{u:Value}(h:lW agg n H x=Z y)(r:RT k (Fo F0 φ H S) φ w x u):
  ∃u',(Instr.loadAt t u).run P w=.ok u' w∧RT k (Fo F0 φ H S) φ w y u':=by
 obtain⟨hn,de,hd,hde⟩:=ht
 unfold lW at h
 split at h
 ·rename_i d
  split at h
  ·rename_i hag
   subst hde
   simp only[aUa]at h
   obtain⟨ds,hds,rfl⟩:=h
   obtain⟨b,o,rfl,hl,hc⟩:=ac6 hH hds r
   have key:∀j,∃z,∀d',ds[j]?=Z d'→w.cell? ⟨b,o+j,U⟩=Z z∧RD k (Fo F0 φ H S) φ w d' z:=by
    intro j
    cases hj:ds[j]? with
    |none=>exact⟨undef,fun c hc=>by cases hc⟩
    |some c=>
     obtain⟨z,hz,hr⟩:=hc j c hj
     exact⟨z,fun c' hc'=>by cases hc';exact⟨hz,hr⟩⟩
   have hrun:=run_loadCells (P:=P) w ⟨b,o,U⟩ n (fun j=>(key j).choose) (fun j hj=>by
    rw[dt]
    exact((key j).choose_spec ds[j] (aTX (by omega))).1)
   refine⟨.agg ((List.range n).map fun j=>(key j).choose).toArray,?_,⟨_,rfl,by simp[hl],fun j d' hj=>?_⟩⟩
   ·simp[Instr.loadAt,Instr.sureAddr,loadVar,oC hd,hag,bl hn,hrun]
   ·have hjn:j<n:=by rw[← hl];exact(aTU.1 hj).1
    exact⟨(key j).choose,by simp[hjn],((key j).choose_spec d' hj).2⟩
  ·rename_i hag
   subst hde
   split at h
   ·rename_i y' hds
    cases h
    obtain⟨b,o,rfl,hl,hc⟩:=ac6 hH hds r
    obtain⟨z,hz,hr⟩:=hc 0 y' rfl
    refine⟨z,?_,hr⟩
    simp[Instr.loadAt,Instr.sureAddr,loadVar,oC hd,hag]
    simp at hz
    simp[hz]
   ·cases h
 ·cases h
def zn (d:D)(n:Nat):Option D:=
 match d with
 |.fp cs=>Z (.fp (cs.drop n))
 |.ptr b o=>Z (.ptr b (o+n))
 |_=>U
def RCs.drop {F:Nat→Prop}{b o:Nat}{cs:List C}(h:RCs k F w b o cs)(n:Nat):RCs k F w b (o+n) (cs.drop n):=by
 refine⟨fun hne=>h.1 fun he=>hne (by simp[he]),fun j c hj=>?_⟩
 rw[List.getElem?_drop]at hj
 obtain⟨u,hu,hr⟩:=h.2 (n+j) c hj
 exact⟨u,by rw[Nat.add_assoc];exact hu,hr⟩
def RCs.take {F:Nat→Prop}{b o:Nat}{cs:List C}(h:RCs k F w b o cs)(n:Nat):RCs k F w b o (cs.take n):=by
 refine⟨fun hne=>h.1 fun he=>hne (by simp[he]),fun j c hj=>?_⟩
 rw[List.getElem?_take]at hj
 split at hj
 ·exact h.2 j c hj
 ·cases hj
def anp {F:Nat→Prop}{d e:D}{n:Nat}{u:Value}(h:zn d n=Z e)(r:RD k F φ w d u):
  ∃b o,u=.pointer (Z ⟨b,o,U⟩)∧RD k F φ w e (.pointer (Z ⟨b,o+n,U⟩)):=by
 unfold zn at h
 split at h
 ·cases h
  obtain⟨b,o,rfl,hr⟩:=r
  exact⟨b,o,rfl,b,o+n,rfl,hr.drop n⟩
 ·cases h
  obtain⟨x,hx,rfl⟩:=r
  exact⟨x,_,rfl,x,hx,rfl⟩
 ·cases h
def aax (n:Nat)(x:T):Option T:=match x with|.t (.one d)=>(zn d n).map fun e=>.t (.one e)|_=>U
def aty {F:Nat→Prop}{s:TypeId}{fs:Array Field}{fd:Field}{f n m:Nat}(hu:P.underlying s=Z (.struct fs))(hf:fs[f]?=Z fd)(ho:fd.offset=n)(hm:fR P fd.type=Z (m+1)){x y:T}{u:Value}(h:aax n x=Z y)(r:RT k F φ w x u):
  ∃u',(Instr.fieldAt s u f).run P w=.ok u' w∧RT k F φ w y u':=by
 unfold aax at h
 split at h
 ·rename_i d
  simp only[aUa]at h
  obtain⟨e,he,rfl⟩:=h
  subst ho
  obtain⟨b,o,rfl,hr⟩:=anp he r
  refine⟨_,?_,hr⟩
  simp[Instr.fieldAt,run_underlying hu,hf,Instr.sureAddr,fieldPlace,bl hm,dt]
 ·cases h
def iY (x:T):Option Nat:=
 match kJ x with
 |some (.int _ (.ofNat n))=>Z n
 |_=>U
def gf {F:Nat→Prop}{x:T}{n:Nat}{u:Value}(h:iY x=Z n)(r:RT k F φ w x u):∃q,u=.int q (n:Int):=by
 unfold iY at h
 split at h
 ·rename_i q m hp
  cases h
  exact⟨q,cF hp r⟩
 ·cases h
def ns (s:Nat)(x ix:T):Option T:=
 match iY ix,x with
 |some i,.t (.one (.lsl b o n _))=>if i<n then Z (.t (.one (.ptr b (o+i*s)))) else U
 |some i,.t (.one d)=>(match ar d with|some (n,cs)=>if i<n then Z (.t (.one (.fp (cs.drop (i*s))))) else U|none=>U)
 |_,_=>U
def axO {F:Nat→Prop}{t elem:TypeId}{s:Nat}(hu:P.underlying t=Z (.slice elem))(hs:fR P elem=Z s){x ix y:T}{u v:Value}(h:ns s x ix=Z y)(r:RT k F φ w x u)(q:RT k F φ w ix v):
  ∃u',(Instr.indexAt t u v).run P w=.ok u' w∧RT k F φ w y u':=by
 unfold ns at h
 split at h
 ·rename_i i b o n s' hi
  obtain⟨kk,rfl⟩:=gf hi q
  split at h
  ·rename_i hlt
   cases h
   obtain⟨x,cap,hx,rfl,_⟩:=r
   refine⟨.pointer (Z ⟨x,o+i*s,U⟩),?_,x,hx,rfl⟩
   simp[Instr.indexAt,asIntOf,run_underlying hu,bl hs,dt,hlt]
  ·cases h
 ·rename_i i d _ hi
  obtain⟨kk,rfl⟩:=gf hi q
  split at h
  ·rename_i n cs hd
   split at h
   ·rename_i hlt
    cases h
    obtain⟨A,c,rfl,hr,_⟩:=lM hd r
    cases hr with
    |nil=>omega
    |sl _ _ b o _ f hn hF hc hr'=>
     refine⟨.pointer (Z ⟨b,o+i*s,U⟩),?_,b,o+i*s,rfl,RCs.drop ⟨hF,fun j c hj=>⟨f j,hc j c hj,hr' j c hj⟩⟩ _⟩
     simp[Instr.indexAt,asIntOf,run_underlying hu,bl hs,dt,hlt]
   ·cases h
  ·cases h
 ·cases h
def vX (len s:Nat)(x ix:T):Option T:=
 match iY ix,x with
 |some i,.t (.one d)=>if i<len then (zn d (i*s)).map fun e=>.t (.one e) else U
 |_,_=>U
def axN {F:Nat→Prop}{t elem:TypeId}{len s:Nat}(hu:P.underlying t=Z (.array len elem))(hs:fR P elem=Z s){x ix y:T}{u v:Value}(h:vX len s x ix=Z y)(r:RT k F φ w x u)(q:RT k F φ w ix v):
  ∃u',(Instr.indexAt t u v).run P w=.ok u' w∧RT k F φ w y u':=by
 unfold vX at h
 split at h
 ·rename_i i d hi
  obtain⟨kk,rfl⟩:=gf hi q
  split at h
  ·rename_i hlt
   simp only[aUa]at h
   obtain⟨e,he,rfl⟩:=h
   obtain⟨b,o,rfl,hr⟩:=anp he r
   refine⟨_,?_,hr⟩
   simp[Instr.indexAt,asIntOf,run_underlying hu,Instr.sureAddr,bl hs,dt,hlt]
  ·cases h
 ·cases h
def qE (n:Nat):T:=.t (.one (.c (.v (.int .i64 (n:Int)))))
def sd (x:T):Option T:=
 match x with
 |.t (.one (.lsl _ _ n _))=>Z (qE n)
 |.t (.one (.c (.mag l)))=>(match adX l with|some (n,_)=>Z (qE n)|none=>Z (.t (.one (.c (.vec (l.map fun n=>.int .i64 (if ai n 0 then 0 else 1)))))))
 |.t (.one d)=>(match ar d with|some (n,_)=>Z (qE n)|none=>U)
 |_=>U
def axP {F:Nat→Prop}{t ty elem:TypeId}(hu:P.underlying t=Z (.slice elem)){x y:T}{u:Value}(h:sd x=Z y)(r:RT k F φ w x u):
  ∃u',(Builtin.len_ #[t] ty #[u]).run P w=.ok u' w∧RT k F φ w y u':=by
 unfold sd at h
 split at h
 ·rename_i b o n s
  cases h
  obtain⟨x,cap,hx,rfl,_⟩:=r
  exact⟨.int .i64 n,by simp[Builtin.len_,run_underlying hu,goInt],.v _ rfl⟩
 ·rename_i l
  split at h
  ·rename_i n cs hm
   cases h
   obtain⟨A,c,rfl,hr,_⟩:=ajJ hm r
   exact⟨.int .i64 n,by simp[Builtin.len_,run_underlying hu,goInt],.v _ rfl⟩
  ·cases h
   have r':RC k F w (.mag l) u:=r
   cases r' with
   |mag0 _ A c h hA=>
    exact⟨.int .i64 0,by simp[Builtin.len_,run_underlying hu,goInt],.vec _ _ (by rw[tJ,h];rfl) rfl⟩
   |mag1 _ n b o cap h h0 h1 hc hF hcell=>
    refine⟨.int .i64 1,by simp[Builtin.len_,run_underlying hu,goInt],.vec _ _ (by rw[tJ,h];simp;omega) rfl⟩
 ·rename_i d _ _
  split at h
  ·rename_i n cs hd
   cases h
   obtain⟨A,c,rfl,hr,_⟩:=lM hd r
   exact⟨.int .i64 n,by simp[Builtin.len_,run_underlying hu,goInt],.v _ rfl⟩
  ·cases h
 ·cases h
def aau (x:T):Option T:=
 match x with
 |.t (.one .z0)=>Z (qE 0)
 |.t (.one (.c (.v (.slice U 0 0))))=>Z (qE 0)
 |_=>U
def axM {F:Nat→Prop}{t ty elem:TypeId}(hu:P.underlying t=Z (.slice elem)){x y:T}{u:Value}(h:aau x=Z y)(r:RT k F φ w x u):
  ∃u',(Builtin.cap_ #[t] ty #[u]).run P w=.ok u' w∧RT k F φ w y u':=by
 unfold aau at h
 split at h
 ·cases h
  obtain⟨A,rfl⟩:=r
  exact⟨.int .i64 (0:Nat),by simp[Builtin.cap_,run_underlying hu,goInt],.v _ rfl⟩
 ·cases h
  have r':RC k F w (.v (.slice U 0 0)) u:=r
  cases r'
  exact⟨.int .i64 (0:Nat),by simp[Builtin.cap_,run_underlying hu,goInt],.v _ rfl⟩
 ·cases h
def jB (b:Bool):T:=.t (.one (.c (.v (.bool b))))
def qG:T→Bool
 |.t (.one (.c (.v (.slice U 0 0))))=>ab
 |_=>aa
def at6 {F:Nat→Prop}{x:T}{u:Value}(h:qG x=ab)(r:RT k F φ w x u):u=.slice U 0 0:=by
 unfold qG at h
 split at h
 ·have r':RC k F w (.v (.slice U 0 0)) u:=r
  cases r';rfl
 ·cases h
def ug (neg:Bool)(x:T):Option T:=
 match x with
 |.t (.one (.lsl _ _ _ _))=>Z (jB neg)
 |.t (.one (.c (.v (.slice U _ _))))=>Z (jB (!neg))
 |.t (.one (.c (.v (.slice (Z _) _ _))))=>Z (jB neg)
 |.t (.one d)=>(match ar d with|some (_+1,_)=>Z (jB neg)|_=>U)
 |_=>U
def atw {F:Nat→Prop}{t elem:TypeId}(hu:P.underlying t=Z (.slice elem)){neg:Bool}{x y:T}{u:Value}(h:ug neg x=Z y)(r:RT k F φ w x u):
  ∃u',(binOp (if neg then .neq else .eql) t u (.slice U 0 0)).run P w=.ok u' w∧RT k F φ w y u'∧∃A n c,u=.slice A n c:=by
 have key:∀(A:Option Addr) (n c:Nat),(binOp (if neg then .neq else .eql) t (.slice A n c) (.slice U 0 0)).run P w=.ok (.bool (A.isNone != neg)) w:=by
  intro A n c
  cases neg
  ·have:=Lib.run_equalIn_slice_nil (P:=P) w 9999 t elem A n c 0 0 hu
   simp only[binOp]
   cases A<;>simp[Op.equal,Op.maxDepth,this]
  ·have:=Lib.run_equalIn_slice_nil (P:=P) w 9999 t elem A n c 0 0 hu
   simp only[binOp]
   cases A<;>simp[Op.equal,Op.maxDepth,this]
 unfold ug at h
 split at h
 ·cases h
  obtain⟨x,cap,_,rfl,_⟩:=r
  exact⟨_,key _ _ _,by cases neg<;>exact .v _ rfl,_,_,_,rfl⟩
 ·rename_i n c
  cases h
  have r':RC k F w (.v (.slice U n c)) u:=r
  cases r'
  exact⟨_,key _ _ _,by cases neg<;>exact .v _ rfl,_,_,_,rfl⟩
 ·rename_i a n c
  cases h
  have r':RC k F w (.v (.slice (Z a) n c)) u:=r
  cases r'
  exact⟨_,key _ _ _,by cases neg<;>exact .v _ rfl,_,_,_,rfl⟩
 ·split at h
  ·rename_i n cs hd
   cases h
   obtain⟨A,c,rfl,hr,hn⟩:=lM hd r
   cases hr with
   |sl _ _ b o cap f hn' hF hc hr=>exact⟨_,key _ _ _,by cases neg<;>exact .v _ rfl,_,_,_,rfl⟩
  ·cases h
 ·cases h
def aea (agg:Bool)(n:Nat)(ds:List D)(off:Nat):Option T:=
 if agg then (if off+n≤ds.length then Z (.t (.agg ((ds.drop off).take n))) else U)
 else (ds[off]?).map fun d=>.t (.one d)
def aks {F:Nat→Prop}{t:TypeId}{agg:Bool}{n:Nat}(ht:vE P t agg n){ds:List D}{off:Nat}{y:T}{vs:Array Value}(h:aea agg n ds off=Z y)(hl:vs.size=ds.length)(r:∀(j:Nat) (d:D),ds[j]?=Z d→∃x,vs[j]?=Z x∧RD k F φ w d x):
  ∃u',(part t vs off).run P w=.ok u' w∧RT k F φ w y u':=by
 obtain⟨hn,de,hd,hde⟩:=ht
 unfold aea at h
 split at h
 ·rename_i hag
  subst hde
  split at h
  ·rename_i hle
   cases h
   refine⟨.agg (vs.extract off (off+n)),?_,_,rfl,?_,fun j d hj=>?_⟩
   ·simp[part,oC hd,hag,bl hn]
   ·simp;omega
   ·rw[List.getElem?_take]at hj
    split at hj
    ·rename_i hjn
     rw[List.getElem?_drop]at hj
     obtain⟨x,hx,hr⟩:=r (off+j) d hj
     refine⟨x,?_,hr⟩
     have hlt:off+j<vs.size:=by omega
     rw[Array.getElem?_extract_of_lt (by omega)]
     rw[aUt hlt]at hx
     exact hx
    ·cases hj
  ·cases h
 ·rename_i hag
  subst hde
  simp only[aUa]at h
  obtain⟨d,hd',rfl⟩:=h
  obtain⟨x,hx,hr⟩:=r off d hd'
  exact⟨x,by simp[part,oC hd,hag,hx],hr⟩
def uh (agg:Bool)(n off:Nat)(x:T):Option T:=match x with|.t (.agg ds)=>aea agg n ds off|_=>U
def atz {F:Nat→Prop}{t:TypeId}{fs:Array Field}{fd:Field}{f off n:Nat}{agg:Bool}(hu:P.underlying t=Z (.struct fs))(hf:fs[f]?=Z fd)(ho:fd.offset=off)(ht:vE P fd.type agg n){x y:T}{u:Value}(h:uh agg n off x=Z y)(r:RT k F φ w x u):
  ∃u',(Instr.field t u f).run P w=.ok u' w∧RT k F φ w y u':=by
 unfold uh at h
 split at h
 ·rename_i ds
  subst ho
  obtain⟨vs,rfl,hs,hr⟩:=r
  obtain⟨u',h1,h2⟩:=aks ht h hs hr
  exact⟨u',by simp[Instr.field,run_underlying hu,hf,asAgg,h1],h2⟩
 ·cases h
def aeW (agg:Bool)(n len:Nat)(x ix:T):Option T:=
 match x,iY ix with
 |.t (.agg ds),Z i=>if i<len then aea agg n ds (i*n) else U
 |_,_=>U
def aEA {F:Nat→Prop}{t e:TypeId}{agg:Bool}{n len:Nat}(hu:P.underlying t=Z (.array len e))(ht:vE P e agg n){x ix y:T}{u v:Value}(h:aeW agg n len x ix=Z y)(r:RT k F φ w x u)(q:RT k F φ w ix v):
  ∃u',(Instr.index t u v).run P w=.ok u' w∧RT k F φ w y u':=by
 unfold aeW at h
 split at h
 ·rename_i ds i hi
  obtain⟨kk,rfl⟩:=gf hi q
  split at h
  ·rename_i hlt
   obtain⟨vs,rfl,hs',hr⟩:=r
   obtain⟨u',h1,h2⟩:=aks ht h hs' hr
   exact⟨u',by simp[Instr.index,asIntOf,run_underlying hu,hlt,bl ht.1,h1],h2⟩
  ·cases h
 ·cases h
def iM (x:T)(i:Nat):Option T:=
 match x with
 |.tup l=>(l[i]?).map .t
 |_=>U
def aiY {F:Nat→Prop}{x y:T}{i:Nat}{u:Value}(h:iM x i=Z y)(r:RT k F φ w x u):
  ∃u',(Instr.extract u i).run P w=.ok u' w∧RT k F φ w y u':=by
 cases x with
 |tup l=>
  simp only[iM,aUa]at h
  obtain⟨t,ht,rfl⟩:=h
  obtain⟨vs,rfl,hs,hr⟩:=r
  obtain⟨x,hx,hr'⟩:=hr i t ht
  exact⟨x,by simp[Instr.extract,hx],hr'⟩
 |_=>simp[iM]at h
def fN (lo:Option T)(d:Nat):Option Nat:=match lo with|some x=>iY x|none=>Z d
def aay (s:Nat)(x:T)(lo hi:Option T):Option T:=
 match x with
 |.t (.one (.lsl b o n s'))=>
  (match fN lo 0,fN hi n with
   |some l,Z h=>if s'=s∧l≤h∧h≤n then (if l<h then Z (.t (.one (.lsl b (o+l*s) (h-l) s))) else if l=0 then Z (.t (.one (.lsl b o 0 s))) else Z (.t (.one (.c (.sl 0 []))))) else U
   |_,_=>U)
 |.t (.one .z0)=>(match fN lo 0,fN hi 0 with|some 0,Z 0=>Z (.t (.one .z0))|_,_=>U)
 |.t (.one (.c (.v (.slice U 0 0))))=>(match fN lo 0,fN hi 0 with|some 0,Z 0=>Z (.t (.one .z0))|_,_=>U)
 |.t (.one d)=>
  (match ar d with
   |some (n,cs)=>
    (match fN lo 0,fN hi n with
    |some l,Z h=>if l≤h∧h≤n then (if l<h then Z (.t (.one (.c (.sl (h-l) ((cs.drop (l*s)).take ((h-l)*s)))))) else Z (.t (.one (.c (.sl 0 []))))) else U
    |_,_=>U)
   |none=>U)
 |_=>U
def kx (n s:Nat)(H:Hp)(x:T):Option T:=
 match x with
 |.t (.one d)=>
  (match eJ H d (n*s)with
   |some _=>(match d with|.ptr b o=>Z (.t (.one (.lsl b o n s)))|.fp cs=>Z (.t (.one (.c (.sl n cs))))|_=>U)
   |none=>U)
 |_=>U
def lK {n y:Nat}{q:IntKind}{code:BoundsCode}(h:n≤y):(Instr.sliceBound (.int q (n:Int)) y code).run P w=.ok n w:=by
 simp[Instr.sliceBound,asIntOf,h]
def RO (k:Cls)(F:Nat→Prop)(φ:Nat→Option Nat)(w:World):Option T→Option Value→Prop
 |some x,Z u=>RT k F φ w x u
 |none,U=>True
 |_,_=>False
def pG {F:Nat→Prop}{lo hi:Option T}{vl vh:Option Value}{l h n cap:Nat}(hl:fN lo 0=Z l)(hh:fN hi n=Z h)(r1:RO k F φ w lo vl)(r2:RO k F φ w hi vh)(h1:l≤h)(h2:h≤n)(h3:n≤cap)(b:Bool):
  (Instr.sliceBounds b n cap vl vh U).run P w=.ok (l,h,cap) w:=by
 have q1:∀x v,lo=Z x→vl=Z v→∃q,v=.int q (l:Int):=by
  rintro x v rfl rfl
  exact gf hl r1
 have q2:∀x v,hi=Z x→vh=Z v→∃q,v=.int q (h:Int):=by
  rintro x v rfl rfl
  exact gf hh r2
 have e1:lo=U→l=0:=by rintro rfl;simp[fN]at hl;exact hl.symm
 have e2:hi=U→h=n:=by rintro rfl;simp[fN]at hh;exact hh.symm
 clear hl hh
 cases hi with
 |none=>
  obtain rfl:=e2 rfl
  cases vh with
  |some v=>exact r2.elim
  |none=>
   cases lo with
   |none=>
    obtain rfl:=e1 rfl
    cases vl with
    |some v=>exact r1.elim
    |none=>simp[Instr.sliceBounds]
   |some x=>
    cases vl with
    |none=>exact r1.elim
    |some v=>
     obtain⟨q,rfl⟩:=q1 x v rfl rfl
     simp[Instr.sliceBounds,lK h1]
 |some y=>
  cases vh with
  |none=>exact r2.elim
  |some v=>
   obtain⟨q,rfl⟩:=q2 y v rfl rfl
   have hb:=fun code=>lK (P:=P) (w:=w) (n:=h) (y:=cap) (q:=q) (code:=code) (by omega)
   cases lo with
   |none=>
    obtain rfl:=e1 rfl
    cases vl with
    |some v=>exact r1.elim
    |none=>simp[Instr.sliceBounds,hb]
   |some x=>
    cases vl with
    |none=>exact r1.elim
    |some v=>
     obtain⟨q',rfl⟩:=q1 x v rfl rfl
     simp[Instr.sliceBounds,hb,lK h1]
def axS {F:Nat→Prop}{t elem:TypeId}{s:Nat}(hu:P.underlying t=Z (.slice elem))(hs:fR P elem=Z s){x y:T}{lo hi:Option T}{u:Value}{vl vh:Option Value}(h:aay s x lo hi=Z y)(r:RT k F φ w x u)(r1:RO k F φ w lo vl)(r2:RO k F φ w hi vh):
  ∃u',(Instr.sliceAt t u vl vh U).run P w=.ok u' w∧RT k F φ w y u':=by
 unfold aay at h
 split at h
 ·rename_i b o n s'
  split at h
  ·rename_i l hh hl hhi
   split at h
   ·rename_i hc
    obtain⟨rfl,h1,h2⟩:=hc
    obtain⟨x,cap,hx,rfl,hn,vs,tt,fr,hw,hsz⟩:=r
    have hb:=pG (P:=P) (w:=w) hl hhi r1 r2 h1 h2 hn ab
    split at h
    ·rename_i hlt
     cases h
     refine⟨.slice (Z ⟨x,o+l*s',U⟩) (hh-l) (cap-l),?_,x,cap-l,hx,rfl,by omega,vs,tt,fr,hw,?_⟩
     ·have hne:cap≠l:=by omega
      simp[Instr.sliceAt,Instr.slice,run_underlying hu,hb,bl hs,hne,dt]
     ·have:(cap-l)*s'+l*s'=cap*s':=by rw[← Nat.add_mul];congr 1;omega
      omega
    ·rename_i hlt
     obtain rfl:l=hh:=by omega
     split at h
     ·rename_i hl0
      subst hl0
      cases h
      refine⟨.slice (Z ⟨x,o,U⟩) 0 cap,?_,x,cap,hx,rfl,Nat.zero_le _,vs,tt,fr,hw,hsz⟩
      simp[Instr.sliceAt,Instr.slice,run_underlying hu,hb,bl hs,dt]
     cases h
     refine⟨.slice (if cap=l then Z ⟨x,o,U⟩ else Z ⟨x,o+l*s',U⟩) 0 (cap-l),?_,.nil _ _ (fun h=>by split at h<;>cases h)⟩
     simp[Instr.sliceAt,Instr.slice,run_underlying hu,hb,bl hs,dt]
   ·cases h
  ·cases h
 ·split at h
  ·rename_i hl hhi
   cases h
   obtain⟨A,rfl⟩:=r
   have hb:=pG (P:=P) (w:=w) (n:=0) (cap:=0) hl hhi r1 r2 (aTS _) (aTS _) (aTS _) ab
   exact⟨.slice A 0 0,by simp[Instr.sliceAt,Instr.slice,run_underlying hu,hb,bl hs],A,rfl⟩
  ·cases h
 ·split at h
  ·rename_i hl hhi
   cases h
   have r':RC k F w (.v (.slice U 0 0)) u:=r
   cases r'
   have hb:=pG (P:=P) (w:=w) (n:=0) (cap:=0) hl hhi r1 r2 (aTS _) (aTS _) (aTS _) ab
   exact⟨.slice U 0 0,by simp[Instr.sliceAt,Instr.slice,run_underlying hu,hb,bl hs],U,rfl⟩
  ·cases h
 ·rename_i d _
  split at h
  ·rename_i n cs hd
   split at h
   ·rename_i l hh hl hhi
    split at h
    ·rename_i hc
     obtain⟨h1,h2⟩:=hc
     obtain⟨A,cap,rfl,hr,hn⟩:=lM hd r
     have hb:=pG (P:=P) (w:=w) hl hhi r1 r2 h1 h2 hn ab
     split at h
     ·rename_i hlt
      cases h
      cases hr with
      |nil=>omega
      |sl _ _ b o _ f hn' hF hcc hrr=>
       have hcs:RCs k F w b o cs:=⟨hF,fun j c hj=>⟨f j,hcc j c hj,hrr j c hj⟩⟩
       refine⟨.slice (Z ⟨b,o+l*s,U⟩) (hh-l) (cap-l),?_,RC.of_cs (by omega) ((hcs.drop _).take _)⟩
       have hne:cap≠l:=by omega
       simp[Instr.sliceAt,Instr.slice,run_underlying hu,hb,bl hs,hne,dt]
     ·rename_i hlt
      cases h
      obtain rfl:l=hh:=by omega
      have hA:(if cap=l then A else A.map (·.add (l*s)))=U→cap-l=0:=by
       intro h
       have:A=U:=by split at h<;>simpa using h
       subst this
       have:=hr.cap0;omega
      refine⟨.slice (if cap=l then A else A.map (·.add (l*s))) 0 (cap-l),?_,.nil _ _ hA⟩
      simp[Instr.sliceAt,Instr.slice,run_underlying hu,hb,bl hs]
    ·cases h
   ·cases h
  ·cases h
 ·cases h
def atE (hH:HR k Bt F0 N φ w H S){t elem:TypeId}{n s:Nat}(hu:P.underlying t=Z (.array n elem))(hs:fR P elem=Z s){x y:T}{u:Value}(h:kx n s H x=Z y)(r:RT k (Fo F0 φ H S) φ w x u):
  ∃u',(Instr.sliceAt t u U U U).run P w=.ok u' w∧RT k (Fo F0 φ H S) φ w y u':=by
 unfold kx at h
 split at h
 ·rename_i d
  split at h
  ·rename_i es hes
   have hrun:∀b o,(Instr.sliceAt t (.pointer (Z ⟨b,o,U⟩)) U U U).run P w=.ok (.slice (Z ⟨b,o,U⟩) n n) w:=by
    intro b o
    simp[Instr.sliceAt,run_underlying hu,Instr.sureAddr,Instr.sliceBounds,bl hs,dt]
   split at h
   ·rename_i b o
    cases h
    obtain⟨x,hx,rfl⟩:=r
    simp only[eJ]at hes
    split at hes
    ·rename_i ds hb
     split at hes
     ·rename_i hle
      obtain⟨_,vs,tt,hw,hl',_,_⟩:=hH.at_ b _ x hb hx
      exact⟨_,hrun x o,x,n,hx,rfl,aTS _,vs,tt,_,hw,by omega⟩
     ·cases hes
    ·cases hes
   ·rename_i cs
    cases h
    obtain⟨b,o,rfl,hr⟩:=r
    exact⟨_,hrun b o,RC.of_cs (aTS _) hr⟩
   ·cases h
  ·cases h
 ·cases h
def ui (s:Nat)(x:T)(lo:Option T)(hi mx:T):Option T:=
 match iY mx,fN lo 0,iY hi with
 |some m,Z l,Z h=>
  (match x with
   |.t (.one (.lsl b o n s'))=>if s'=s∧l≤h∧h≤m∧m≤n then (if l<h then Z (.t (.one (.lsl b (o+l*s) (h-l) s))) else if l=m then Z (.t (.one .z0)) else Z (.t (.one (.c (.sl 0 []))))) else U
   |.t (.one d)=>
    (match ar d with
    |some (n,cs)=>if l≤h∧h≤m∧m≤n then (if l<h then Z (.t (.one (.c (.sl (h-l) ((cs.drop (l*s)).take ((h-l)*s)))))) else if l=m then Z (.t (.one .z0)) else Z (.t (.one (.c (.sl 0 []))))) else U
    |none=>U)
   |_=>U)
 |_,_,_=>U
def abE {F:Nat→Prop}{lo:Option T}{hi mx:T}{vl:Option Value}{vh vm:Value}{l h m n cap:Nat}(hl:fN lo 0=Z l)(hh:iY hi=Z h)(hm:iY mx=Z m)(r1:RO k F φ w lo vl)(r2:RT k F φ w hi vh)(r3:RT k F φ w mx vm)(h1:l≤h)(h2:h≤m)(h3:m≤cap)(b:Bool):
  (Instr.sliceBounds b n cap vl (Z vh) (Z vm)).run P w=.ok (l,h,m) w:=by
 obtain⟨k2,rfl⟩:=gf hh r2
 obtain⟨k3,rfl⟩:=gf hm r3
 have b1:=fun code=>lK (P:=P) (w:=w) (n:=m) (y:=cap) (q:=k3) (code:=code) h3
 have b2:=fun code=>lK (P:=P) (w:=w) (n:=h) (y:=m) (q:=k2) (code:=code) h2
 cases lo with
 |none=>
  cases vl with
  |some v=>exact r1.elim
  |none=>
   simp[fN]at hl;subst hl
   simp[Instr.sliceBounds,b1,b2]
 |some x=>
  cases vl with
  |none=>exact r1.elim
  |some v=>
   obtain⟨q,rfl⟩:=gf hl r1
   simp[Instr.sliceBounds,b1,b2,lK h1]
def atD {F:Nat→Prop}{t elem:TypeId}{s:Nat}(hu:P.underlying t=Z (.slice elem))(hs:fR P elem=Z s){x y hi mx:T}{lo:Option T}{u vh vm:Value}{vl:Option Value}(h:ui s x lo hi mx=Z y)(r:RT k F φ w x u)(r1:RO k F φ w lo vl)(r2:RT k F φ w hi vh)(r3:RT k F φ w mx vm):
  ∃u',(Instr.sliceAt t u vl (Z vh) (Z vm)).run P w=.ok u' w∧RT k F φ w y u':=by
 unfold ui at h
 split at h
 ·rename_i m l hh hm hl hhi
  split at h
  ·rename_i b o n s'
   split at h
   ·rename_i hc
    obtain⟨rfl,h1,h2,h3⟩:=hc
    obtain⟨x,cap,hx,rfl,hn,vs,tt,fr,hw,hsz⟩:=r
    have hb:=abE (P:=P) (w:=w) (n:=n) (cap:=cap) hl hhi hm r1 r2 r3 h1 h2 (by omega) ab
    split at h
    ·rename_i hlt
     cases h
     refine⟨.slice (Z ⟨x,o+l*s',U⟩) (hh-l) (m-l),?_,x,m-l,hx,rfl,by omega,vs,tt,fr,hw,?_⟩
     ·have hne:m≠l:=by omega
      simp[Instr.sliceAt,Instr.slice,run_underlying hu,hb,bl hs,hne,dt]
     ·have e1:(m-l)*s'+l*s'=m*s':=by rw[← Nat.add_mul];congr 1;omega
      have e2:m*s'≤cap*s':=Nat.mul_le_mul_right _ (by omega)
      omega
    ·rename_i hlt
     obtain rfl:l=hh:=by omega
     have hrun:(Instr.sliceAt t (.slice (Z ⟨x,o,U⟩) n cap) vl (Z vh) (Z vm)).run P w=.ok (.slice (if m=l then Z ⟨x,o,U⟩ else Z ⟨x,o+l*s',U⟩) 0 (m-l)) w:=by
      simp[Instr.sliceAt,Instr.slice,run_underlying hu,hb,bl hs,dt]
     split at h
     ·rename_i hlm
      cases h
      subst hlm
      exact⟨_,hrun,_,by rw[Nat.sub_self]⟩
     ·cases h
      exact⟨_,hrun,.nil _ _ (fun h=>by split at h<;>cases h)⟩
   ·cases h
  ·rename_i d _
   split at h
   ·rename_i n cs hd
    split at h
    ·rename_i hc
     obtain⟨h1,h2,h3⟩:=hc
     obtain⟨A,cap,rfl,hr,hn⟩:=lM hd r
     have hb:=abE (P:=P) (w:=w) (n:=n) (cap:=cap) hl hhi hm r1 r2 r3 h1 h2 (by omega) ab
     split at h
     ·rename_i hlt
      cases h
      cases hr with
      |nil=>omega
      |sl _ _ b o _ f hn' hF hcc hrr=>
       have hcs:RCs k F w b o cs:=⟨hF,fun j c hj=>⟨f j,hcc j c hj,hrr j c hj⟩⟩
       refine⟨.slice (Z ⟨b,o+l*s,U⟩) (hh-l) (m-l),?_,RC.of_cs (by omega) ((hcs.drop _).take _)⟩
       have hne:m≠l:=by omega
       simp[Instr.sliceAt,Instr.slice,run_underlying hu,hb,bl hs,hne,dt]
     ·rename_i hlt
      obtain rfl:l=hh:=by omega
      have hrun:(Instr.sliceAt t (.slice A n cap) vl (Z vh) (Z vm)).run P w=.ok (.slice (if m=l then A else A.map (·.add (l*s))) 0 (m-l)) w:=by
       simp[Instr.sliceAt,Instr.slice,run_underlying hu,hb,bl hs]
      split at h
      ·rename_i hlm
       cases h
       subst hlm
       exact⟨_,hrun,_,by rw[Nat.sub_self]⟩
      ·cases h
       have hA:(if m=l then A else A.map (·.add (l*s)))=U→m-l=0:=by
        intro h
        have:A=U:=by split at h<;>simpa using h
        subst this
        have:=hr.cap0;omega
       exact⟨_,hrun,.nil _ _ hA⟩
    ·cases h
   ·cases h
  ·cases h
 ·cases h
end
def gO:T→Option (List D)
 |.t (.one d)=>Z [d]
 |.t (.agg ds)=>Z ds
 |_=>U
def RL (k:Cls)(F:Nat→Prop)(φ:Nat→Option Nat)(w:World)(vs:List Value)(ds:List D):Prop:=
 vs.length=ds.length∧∀(j:Nat) (d:D),ds[j]?=Z d→∃x,vs[j]?=Z x∧RD k F φ w d x
section
variable {P:Program} {k:Cls} {F:Nat→Prop} {φ:Nat→Option Nat} {w:World}
def RD.isCell {d:D}{u:Value}(h:RD k F φ w d u):isCell u=ab:=by
 cases d with
 |c x=>cases (show RC k F w x u from h)<;>first|assumption|rfl
 |fp cs=>obtain⟨b,o,rfl,_⟩:=h;rfl
 |ptr b o=>obtain⟨x,_,rfl⟩:=h;rfl
 |lsl b o n s=>obtain⟨x,c,_,rfl,_⟩:=h;rfl
 |fn f ps=>obtain⟨vs,rfl,_⟩:=h;rfl
 |z0=>obtain⟨A,rfl⟩:=h;rfl
 |yld b=>obtain⟨x,_,rfl⟩:=h;rfl
 |mp b=>obtain⟨x,_,rfl⟩:=h;rfl
def ac7 {u:Value}(h:isCell u=ab):u.cells=#[u]:=by cases u<;>first|rfl|simp[isCell]at h
def xX {t:T}{ds:List D}{u:Value}(h:gO t=Z ds)(r:RT k F φ w t u):RL k F φ w u.cells.toList ds:=by
 cases t with
 |nil=>simp[gO]at h
 |tup l=>simp[gO]at h
 |row n ds=>simp[gO]at h
 |t x=>
  cases x with
  |one d=>
   simp[gO]at h;subst h
   rw[ac7 (RD.isCell r)]
   refine⟨rfl,fun j e hj=>?_⟩
   cases j with
   |zero=>simp at hj;subst hj;exact⟨u,rfl,r⟩
   |succ j=>simp at hj
  |agg es=>
   simp[gO]at h;subst h
   obtain⟨vs,rfl,hs,hr⟩:=r
   exact⟨by simpa [Value.cells]using hs,fun j d hj=>by simpa [Value.cells]using hr j d hj⟩
def RL.isCell {vs:List Value}{ds:List D}(h:RL k F φ w vs ds):∀v∈vs,Go.Mach.isCell v=ab:=by
 intro v hv
 obtain⟨j,hj⟩:=List.mem_iff_getElem?.1 hv
 have hlt:j<ds.length:=by rw[← h.1];exact(aTU.1 hj).1
 obtain⟨x,hx,hr⟩:=h.2 j ds[j] (aTX hlt)
 rw[hj]at hx;cases hx
 exact RD.isCell hr
def rp {l:List Value}{ds:List D}(h:ge l=Z ds):RL k F φ w l ds:=afp h
def RL.set {vs us:List Value}{ds es:List D}(h:RL k F φ w vs ds)(q:RL k F φ w us es)(off:Nat)(hle:off+us.length≤vs.length):
  RL k F φ w (vs.take off++us++vs.drop (off+us.length)) (ds.take off++es++ds.drop (off+es.length)):=by
 have e1:=h.1
 have e2:=q.1
 refine⟨by simp;omega,fun j d hj=>?_⟩
 simp only[List.getElem?_append,List.getElem?_take,List.getElem?_drop,aTW,aUo]at hj ⊢
 rw[Nat.min_eq_left (by omega)]at hj
 rw[Nat.min_eq_left (by omega)]
 rw[← e2]at hj
 split at hj
 ·rename_i h1
  rw[if_pos h1]
  split at hj
  ·rename_i h2
   rw[if_pos h2]
   simpa [h2]using h.2 j d hj
  ·rename_i h2
   rw[if_neg h2]
   exact q.2 _ d hj
 ·rename_i h1
  rw[if_neg h1]
  exact h.2 _ d hj
def agA (off:Nat):∀(l:List Value) (i:Nat) (vs:Array Value),off+i+l.length≤vs.size→
  ((l.zipIdx i).foldl (fun cs (p:Value × Nat)=>cs.setIfInBounds (off+p.2) p.1) vs).toList=vs.toList.take (off+i)++l++vs.toList.drop (off+i+l.length)
 |[],i,vs,_=>by simp
 |x::l,i,vs,hle=>by
  rw[List.zipIdx_cons,List.foldl_cons,agA off l (i+1) _ (by simp at hle ⊢;omega)]
  simp only[Array.toList_setIfInBounds,aTV]at hle ⊢
  apply List.ext_getElem?
  intro k
  simp only[List.getElem?_append,List.getElem?_take,List.getElem?_drop,aTW,aUo,List.length_set,List.getElem?_set,Array.length_toList]
  rw[Nat.min_eq_left (by omega),Nat.min_eq_left (by omega)]
  simp only[aTV]
  rcases Nat.lt_trichotomy k (off+i)with hk|hk|hk
  ·rw[if_pos (by omega),if_pos (by omega),if_pos (by omega),if_neg (by omega),if_pos (by omega),if_pos (by omega),if_pos (by omega)]
  ·subst hk
   rw[if_pos (by omega),if_pos (by omega),if_pos (by omega),if_pos rfl,if_pos (by omega),if_pos (by omega),if_neg (by omega)]
   simp
  ·by_cases h2:k<off+i+(l.length+1)
   ·rw[if_pos (by omega),if_neg (by omega),if_pos (by omega),if_neg (by omega)]
    have:k-(off+i)=(k-(off+(i+1)))+1:=by omega
    rw[this,List.getElem?_cons_succ]
   ·rw[if_neg (by omega),if_neg (by omega),if_neg (by omega)]
    congr 1;omega
def lY (place:Nat→Option (Nat × Nat)):List D→List (Nat × T)→Option (List D)
 |cells,[]=>Z cells
 |cells,(i,t)::r=>
  match place i,gO t with
  |some (off,size),Z ds=>if ds.length=size∧off+size≤cells.length then lY place (cells.take off++ds++cells.drop (off+ds.length)) r else U
  |_,_=>U
def v5 {place:Nat→Option (Nat × Nat)}:∀(ps:List (Nat × T)) (qs:List (Nat × Value)) (cells ds:List D) (vs:Array Value),RL k F φ w vs.toList cells→lY place cells ps=Z ds→
  ps.length=qs.length→(∀(j:Nat) i t,ps[j]?=Z (i,t)→∃u,qs[j]?=Z (i,u)∧RT k F φ w t u)→∃vs',Instr.fill place vs qs=Z vs'∧RL k F φ w vs'.toList ds
 |[],qs,cells,ds,vs,hv,h,hl,_=>by
  cases qs with
  |nil=>simp[lY]at h;subst h;exact⟨vs,rfl,hv⟩
  |cons q qs=>simp at hl
 |(i,t)::ps,qs,cells,ds,vs,hv,h,hl,hr=>by
  cases qs with
  |nil=>simp at hl
  |cons q qs=>
   obtain⟨u,hq,hu⟩:=hr 0 i t rfl
   simp at hq;subst hq
   simp only[lY]at h
   split at h
   ·rename_i off size es hp hc
    split at h
    ·rename_i hle
     have hes:=xX hc hu
     have e1:=hes.1
     have e2:=hv.1
     simp only[Array.length_toList]at e1 e2
     have hset:=agA off u.cells.toList 0 vs (by simp;omega)
     obtain⟨vs',h1,h2⟩:=v5 ps qs _ ds (u.cells.zipIdx.foldl (fun cs (p:Value × Nat)=>cs.setIfInBounds (off+p.2) p.1) vs) (by
      have:=RL.set hv hes off (by simp;omega)
      rw[← Array.foldl_toList,Array.toList_zipIdx,hset]
      simpa using this) h (by simpa using hl) (fun j i' t' hj=>by simpa using hr (j+1) i' t' (by simpa using hj))
     refine⟨vs',?_,h2⟩
     simp only[Instr.fill,hp]
     rw[if_neg (by simp;omega)]
     exact h1
    ·cases h
   ·cases h
def aoz (P:Program)(t:TypeId)(zs:List D)(pl:List (Nat × Nat)):Prop:=
 ∃(it:TypeInfo) (z:Value),P.info? t=Z it∧it.zero=Z z∧ge z.cells.toList=Z zs∧
  ((∃fields,P.underlying t=Z (.struct fields)∧fields.toList.mapM (fun f=>(P.info? f.type).map fun i=>(f.offset,i.size))=Z pl)∨
   (∃n e ie,P.underlying t=Z (.array n e)∧P.info? e=Z ie∧∀(i:Nat) p,pl[i]?=Z p→p=(i*ie.size,ie.size)))
def aat (zs:List D)(pl:List (Nat × Nat))(ps:List (Nat × T)):Option T:=(lY (pl[·]?) zs ps).map fun es=>.t (.agg es)
def vZ {f g:Nat→Option (Nat × Nat)}(hfg:∀i p,f i=Z p→g i=Z p):∀(ps:List (Nat × T)) (cells ds:List D),lY f cells ps=Z ds→lY g cells ps=Z ds
 |[],_,_,h=>h
 |(i,t)::ps,cells,ds,h=>by
  simp only[lY]at h ⊢
  split at h
  ·rename_i off size es hp hc
   rw[hfg i _ hp,hc]
   simp only
   split at h
   ·rename_i hle
    rw[if_pos hle]
    exact vZ hfg ps _ _ h
   ·cases h
  ·cases h
def axL {t:TypeId}{zs:List D}{pl:List (Nat × Nat)}(hb:aoz P t zs pl){ps:List (Nat × T)}{qs:Array (Nat × Value)}{y:T}(h:aat zs pl ps=Z y)(hl:ps.length=qs.size)(hr:∀(j:Nat) i t,ps[j]?=Z (i,t)→∃u,qs[j]?=Z (i,u)∧RT k F φ w t u):
  ∃u',(Instr.build t qs).run P w=.ok u' w∧RT k F φ w y u':=by
 obtain⟨it,z,hi,hz,hzs,hpl⟩:=hb
 unfold aat at h
 simp only[aUa]at h
 obtain⟨es,he,rfl⟩:=h
 rcases hpl with⟨fields,hu,hpl⟩|⟨n,e,ie,hu,hie,hpl⟩
 ·obtain⟨vs',h1,h2⟩:=v5 (k:=k) (F:=F) (φ:=φ) (w:=w) ps qs.toList zs es z.cells (rp hzs) (vZ (g:=(pl.toArray[·]?)) (fun i p h=>by simpa using h) _ _ _ he) (by simpa using hl) (fun j i t hj=>by simpa using hr j i t hj)
  refine⟨.agg vs',run_build w t qs vs' ?_,vs',rfl,by simpa using h2.1,fun j d hj=>by simpa using h2.2 j d hj⟩
  unfold Program.built
  simp only[hi,hu,hz,hpl]
  exact h1
 ·obtain⟨vs',h1,h2⟩:=v5 (k:=k) (F:=F) (φ:=φ) (w:=w) ps qs.toList zs es z.cells (rp hzs) (vZ (g:=fun i=>Z (i*ie.size,ie.size)) (fun i p h=>by rw[hpl i p h]) _ _ _ he) (by simpa using hl) (fun j i t hj=>by simpa using hr j i t hj)
  refine⟨.agg vs',run_build w t qs vs' ?_,vs',rfl,by simpa using h2.1,fun j d hj=>by simpa using h2.2 j d hj⟩
  unfold Program.built
  simp only[hi,hu,hz,hie]
  exact h1
def xM (P:Program)(e:TypeId)(z:List Value)(s bytes:Nat):Prop:=
 ∃(i:TypeInfo) (zv:Value),P.info? e=Z i∧i.zero=Z zv∧zv.cells.toList=z∧i.size=s∧i.bytes=bytes
def cW (z:List Value)(n:Nat):List Value:=(List.range n).map fun i=>z[i%z.length]!
def tO (z:List Value)(s len:Nat)(ps:List (Nat × T)):Option (List D):=
 if len=0∧ps.isEmpty then Z []
 else if len*s≤2 ^ 24∧0<len*s then (match ge (cW z (len*s))with|some ds=>lY (fun i=>Z (i*s,s)) ds ps|none=>U)
 else U
def gk (w:World)(o:Obj):(w.alloc o).heap[w.heap.size]?=Z o:=by
 show(w.heap.push o)[w.heap.size]?=_
 simp
def ac4 {t elem:TypeId}{z:List Value}{len s bytes:Nat}(hu:P.underlying t=Z (.slice elem))(hel:xM P elem z s bytes){ps:List (Nat × T)}{qs:Array (Nat × Value)}{es:List D}(h:tO z s len ps=Z es)(hl:ps.length=qs.size)(hr:∀(j:Nat) i t,ps[j]?=Z (i,t)→∃u,qs[j]?=Z (i,u)∧RT k F φ w t u):
  ∃cells:Array Value,(Instr.buildSlice t len qs).run P w=.ok (.slice (Z ⟨w.heap.size,0,U⟩) len len) (w.alloc (.cells cells elem))∧RL k F φ w cells.toList es∧cells.size=len*s:=by
 obtain⟨i,zv,hi,hz,rfl,rfl,rfl⟩:=hel
 unfold tO at h
 split at h
 ·rename_i hc
  obtain⟨rfl,hps⟩:=hc
  cases h
  have:ps=[]:=by simpa using hps
  subst this
  have hq:qs=#[]:=by
   have:qs.size=0:=by simpa using hl.symm
   exact Array.eq_empty_of_size_eq_zero this
  subst hq
  refine⟨#[],?_,⟨rfl,fun j d hj=>by simp at hj⟩,by simp⟩
  have hz0:(Array.map (fun _=>(default:Value)) (Array.range 0))=#[]:=by apply Array.eq_empty_of_size_eq_zero;simp
  simp[Instr.buildSlice,run_underlying hu,sizeOf,typeInfo,hi,Instr.fill,newRow,hz0]
 split at h
 ·rename_i hc
  split at h
  ·rename_i ds hd
   obtain⟨vs',h1,h2⟩:=v5 (k:=k) (F:=F) (φ:=φ) (w:=w) ps qs.toList ds es (cW zv.cells.toList (len*i.size)).toArray (by simpa using rp hd) h (by simpa using hl) (fun j i t hj=>by simpa using hr j i t hj)
   have hlen:∀(ps:List (Nat × Value)) (c c':Array Value) (pl:Nat→Option (Nat × Nat)),Instr.fill pl c ps=Z c'→c'.size=c.size:=by
    intro ps
    induction ps with
    |nil=>intro c c' pl h;simp[Instr.fill]at h;rw[h]
    |cons p ps ih=>
     intro c c' pl h
     obtain⟨k,v⟩:=p
     simp only[Instr.fill]at h
     split at h
     ·cases h
     ·split at h
      ·cases h
      ·rw[ih _ _ _ h]
       rename_i off size _ _
       have:∀(l:List (Value × Nat)) (c:Array Value),(l.foldl (fun cs (p:Value × Nat)=>cs.setIfInBounds (off+p.2) p.1) c).size=c.size:=by
        intro l
        induction l with
        |nil=>intro c;rfl
        |cons x l ih=>intro c;rw[List.foldl_cons,ih];simp
       rw[← Array.foldl_toList,this]
   refine⟨vs',?_,h2,by rw[hlen _ _ _ _ h1];simp[cW]⟩
   have h1':Instr.fill (fun k=>Z (k*i.size,i.size)) ((Array.range (len*i.size)).map (fun k=>zv.cells[k%zv.cells.size]!)) qs.toList=Z vs':=by
    rw[← h1];congr 1
    apply Array.ext'
    simp[cW]
    intro a _
    rw[getElem!_def]
    cases zv.cells[a%zv.cells.size]?<;>rfl
   have hne:¬(len*i.size>2 ^ 24):=by omega
   have hnz:¬(len*i.size=0):=by omega
   simp[Instr.buildSlice,run_underlying hu,sizeOf,typeInfo,zeroValue,hi,hz,hne,hnz,h1',newRow]
  ·cases h
 ·cases h
def mK:List D→Option (List C)
 |[]=>Z []
 |.c x::r=>(mK r).map (x::·)
 |_=>U
def aly:∀{ds:List D} {cs:List C},mK ds=Z cs→ds=cs.map .c
 |[],cs,h=>by simp[mK]at h;subst h;rfl
 |.c x::r,cs,h=>by
  simp only[mK,aUa]at h
  obtain⟨cs',h1,rfl⟩:=h
  rw[aly h1];rfl
 |.fp _::_,cs,h=>by simp[mK]at h
 |.ptr _ _::_,cs,h=>by simp[mK]at h
 |.lsl _ _ _ _::_,cs,h=>by simp[mK]at h
 |.fn _ _::_,cs,h=>by simp[mK]at h
 |.z0::_,cs,h=>by simp[mK]at h
 |.yld _::_,cs,h=>by simp[mK]at h
 |.mp _::_,cs,h=>by simp[mK]at h
def iN (o:Obj):Ext w (w.alloc o):=Bel.alloc (Bel.refl _ _) (aTS _) o
def tZ (z:List Value)(s len:Nat)(ps:List (Nat × T)):Option T:=
 match tO z s len ps with
 |some es=>(match len with|0=>Z (.t (.one .z0))|len+1=>match mK es with|some cs=>Z (.t (.one (.c (.sl (len+1) cs))))|none=>Z (.row (len+1) es))
 |none=>U
def atu (hF:∀x,F x→x<w.heap.size){t elem:TypeId}{z:List Value}{len s bytes:Nat}(hu:P.underlying t=Z (.slice elem))(hel:xM P elem z s bytes){ps:List (Nat × T)}{qs:Array (Nat × Value)}{y:T}(h:tZ z s len ps=Z y)(hl:ps.length=qs.size)(hr:∀(j:Nat) i t,ps[j]?=Z (i,t)→∃u,qs[j]?=Z (i,u)∧RT k F φ w t u):
  ∃u' w',(Instr.buildSlice t len qs).run P w=.ok u' w'∧Ext w w'∧RT k F φ w' y u':=by
 unfold tZ at h
 split at h
 ·rename_i es hb
  obtain⟨cells,h1,h2,_⟩:=ac4 hu hel hb hl hr
  have hx:Ext w (w.alloc (.cells cells elem)):=iN _
  split at h
  ·cases h
   exact⟨_,_,h1,hx,⟨_,rfl⟩⟩
  rename_i len
  split at h
  rotate_left
  ·cases h
   refine⟨_,_,h1,hx,w.heap.size,0,_,rfl,aTS _,fun hf=>Nat.lt_irrefl _ (hF _ hf),dn (gk w _),fun j d hj=>?_⟩
   obtain⟨x,hx',hr'⟩:=h2.2 j d hj
   refine⟨x,?_,RD.kp (φ:=φ) (φ':=φ) (Kp.of_ext hx (fun _ _ h=>h) (fun _ _ h=>h)) hr'⟩
   simp only[Array.getElem?_toList]at hx'
   unfold World.cell?
   rw[gk]
   simpa using hx'
  rename_i cs hc
  cases h
  refine⟨_,_,h1,hx,RC.of_cs (aTS _) ⟨fun _ hf=>Nat.lt_irrefl _ (hF _ hf),fun j c hj=>?_⟩⟩
  obtain⟨x,hx',hr'⟩:=h2.2 j (.c c) (by rw[aly hc,aUm,hj];rfl)
  refine⟨x,?_,RC.kp (φ:=φ) (φ':=φ) (Kp.of_ext hx (fun _ _ h=>h) (fun _ _ h=>h)) hr'⟩
  simp only[Array.getElem?_toList]at hx'
  unfold World.cell?
  rw[gk]
  simpa using hx'
 ·cases h
end
inductive PK where
 |bin (op:BinOp)
 |not
 |neg
 |cvt (q:IntKind)
 |eqB
 |eqA (n:Nat)
 |neA (n:Nat)
 |max
 |min
 |gen
 |neB
 |inv
 deriving Inhabited
def ah1:Nat:=9223372036854775808
def ah2:Nat:=18446744073709551616
def aDJ:Nat:=4294967296
def uP:IntKind→Nat
 |.i64=>ah1
 |.u64=>ah2
 |.u32=>aDJ
 |.i32=>2147483648
 |.u8=>256
 |_=>0
def fH (q:IntKind)(n:Nat):Int:=if ah n (uP q) then (n:Int) else q.wrap (n:Int)
def wrap_small (q:IntKind)(n:Nat)(h:n<uP q):q.wrap (n:Int)=n:=by
 unfold IntKind.wrap
 cases q<;>simp only[uP,ah1,ah2,aDJ,IntKind.bits,IntKind.signed]at h ⊢<;>first|omega|(simp;omega)
def jY (q:IntKind)(n:Nat):fH q n=q.wrap (n:Int):=by
 unfold fH
 split
 ·rename_i h
  rw[wrap_small q n (by simpa using h)]
 ·rfl
def b9 (op:BinOp)(q:IntKind)(a b:Int):Option Value:=
 match op,a,b with
 |.add,.ofNat x,.ofNat y=>Z (.int q (fH q (x+y)))
 |.add,x,y=>Z (.int q (q.wrap (x+y)))
 |.sub,x,y=>Z (.int q (q.wrap (x-y)))
 |.mul,.ofNat x,.ofNat y=>Z (.int q (fH q (x*y)))
 |.mul,x,y=>Z (.int q (q.wrap (x*y)))
 |.quo,.ofNat x,.ofNat y=>if ai y 0 then U else Z (.int q (fH q (x/y)))
 |.rem,.ofNat x,.ofNat y=>if ai y 0 then U else Z (.int q (x%y:Nat))
 |.eql,x,y=>Z (.bool (x==y))
 |.neq,x,y=>Z (.bool (x != y))
 |.lss,x,y=>Z (.bool (decide (x<y)))
 |.leq,x,y=>Z (.bool (decide (x≤y)))
 |.gtr,x,y=>Z (.bool (decide (x>y)))
 |.geq,x,y=>Z (.bool (decide (x≥y)))
 |.and,x,y=>Z (.int q (q.wrap (BitVec.ofInt q.bits x &&& BitVec.ofInt q.bits y).toNat))
 |.or,x,y=>Z (.int q (q.wrap (BitVec.ofInt q.bits x ||| BitVec.ofInt q.bits y).toNat))
 |.xor,x,y=>Z (.int q (q.wrap (BitVec.ofInt q.bits x ^^^ BitVec.ofInt q.bits y).toNat))
 |_,_,_=>U
def shI (op:BinOp)(q:IntKind)(a b:Int):Option Value:=
 match op,a,b with
 |.shl,.ofNat x,.ofNat y=>if ah y q.bits then Z (.int q (fH q (x*2 ^ y))) else U
 |.shr,.ofNat x,.ofNat y=>if ah y q.bits then Z (.int q (x/2 ^ y:Nat)) else U
 |_,_,_=>U
def kB:List Value→Option (List Int)
 |[]=>Z []
 |.int .i64 z::r=>(kB r).map (z::·)
 |_=>U
def pv (pk:PK)(l:List Value):Option Value:=
 match pk,l with
 |.bin op,[.int q a,.int q' b]=>(match op with|.shl=>shI op q a b|.shr=>shI op q a b|_=>if q=q' then b9 op q a b else U)
 |.not,[.bool b]=>Z (.bool (!b))
 |.neg,[.int q a]=>Z (.int q (q.wrap (0-a)))
 |.cvt q,[.int _ a]=>(match a with|.ofNat n=>Z (.int q (fH q n))|a=>Z (.int q (q.wrap a)))
 |.eqB,[.bool a,.bool b]=>Z (.bool (a==b))
 |.eqA n,[.agg a,.agg b]=>(match kB a.toList,kB b.toList with|some x,Z y=>if x.length=n∧y.length=n then Z (.bool (x==y)) else U|_,_=>U)
 |.neA n,[.agg a,.agg b]=>(match kB a.toList,kB b.toList with|some x,Z y=>if x.length=n∧y.length=n then Z (.bool (!(x==y))) else U|_,_=>U)
 |.max,[.int q a,.int _ b]=>Z (.int q (if b>a then b else a))
 |.min,[.int q a,.int _ b]=>Z (.int q (if b<a then b else a))
 |.neB,[.bool a,.bool b]=>Z (.bool (!(a==b)))
 |.inv,[.int q a]=>Z (.int q (q.wrap (BitVec.ofInt q.bits (if q.signed then -1 else q.max) ^^^ BitVec.ofInt q.bits a).toNat))
 |_,_=>U
def ait (P:Program):PK→Op→List Operand→Prop
 |.bin op,.binOp op' _ x y _,l=>op=op'∧l=[x,y]
 |.not,.unOp .not _ x,l=>l=[x]
 |.neg,.unOp .neg _ x,l=>l=[x]
 |.cvt q,.convert s d x,l=>l=[x]∧P.underlying d=Z (.int q)∧(∃ds,P.underlying s=Z ds)
 |.eqB,.binOp .eql t x y _,l=>l=[x,y]∧P.underlying t=Z .bool
 |.eqA n,.binOp .eql t x y _,l=>l=[x,y]∧n=4∧∃e,P.underlying t=Z (.array n e)∧P.underlying e=Z (.int .i64)∧fR P e=Z 1∧P.eqGuardType P.depth t=aa
 |.neA n,.binOp .neq t x y _,l=>l=[x,y]∧n=4∧∃e,P.underlying t=Z (.array n e)∧P.underlying e=Z (.int .i64)∧fR P e=Z 1∧P.eqGuardType P.depth t=aa
 |.max,.call c,l=>c.callee=.builtin .max∧∃x y,c.args=#[x,y]∧l=[x,y]
 |.min,.call c,l=>c.callee=.builtin .min∧∃x y,c.args=#[x,y]∧l=[x,y]
 |.neB,.binOp .neq t x y _,l=>l=[x,y]∧P.underlying t=Z .bool
 |.inv,.unOp .xor _ x,l=>l=[x]
 |_,_,_=>False
section
variable {P:Program} {w:World}
def axl {op:BinOp}{q:IntKind}{a b:Int}{X:Value}(h:b9 op q a b=Z X)(t:TypeId):(binOp op t (.int q a) (.int q b)).run P w=.ok X w:=by
 unfold b9 at h
 split at h
 case h_6 x y=>
  split at h
  ·cases h
  ·rename_i hy
   have hy':¬y=0:=fun e=>hy (by rw[e];rfl)
   cases h
   simp[binOp,Op.intDiv,jY,hy']
 case h_7 x y=>
  split at h
  ·cases h
  ·rename_i hy
   have hy':¬y=0:=fun e=>hy (by rw[e];rfl)
   cases h
   simp[binOp,Op.intDiv,hy']
   rfl
 all_goals first|(cases h;done)|(cases h;simp[binOp,Op.intArith,Op.intCmp,Op.intBits,jY])
def aGH {op:BinOp}{q q':IntKind}{a b:Int}{X:Value}(h:shI op q a b=Z X)(t:TypeId):(binOp op t (.int q a) (.int q' b)).run P w=.ok X w:=by
 unfold shI at h
 split at h
 ·rename_i x y
  split at h
  ·rename_i hy
   have hy':y<q.bits:=by simpa using hy
   cases h
   have hm:min y q.bits=y:=Nat.min_eq_left (by omega)
   have hn:¬((y:Int)<0):=by omega
   simp[binOp,Op.shift,jY,hm]
   omega
  ·cases h
 ·rename_i x y
  split at h
  ·rename_i hy
   have hy':y<q.bits:=by simpa using hy
   cases h
   have hm:min y q.bits=y:=Nat.min_eq_left (by omega)
   have hn:¬((y:Int)<0):=by omega
   have e:(2:Int) ^ y=((2 ^ y:Nat):Int):=by simp
   have hf:(x:Int).fdiv (2 ^ y)=((x/2 ^ y:Nat):Int):=by rw[e,Int.fdiv_eq_ediv_of_nonneg _ (Int.natCast_nonneg _)];rfl
   simp[binOp,Op.shift,hm,hn,hf]
  ·cases h
 ·cases h
def lB:∀{l:List Value} {z:List Int},kB l=Z z→l=z.map (Value.int .i64)
 |[],z,h=>by simp[kB]at h;subst h;rfl
 |.int .i64 a::r,z,h=>by
  simp only[kB,aUa]at h
  obtain⟨z',h',rfl⟩:=h
  rw[lB h'];rfl
def akt {e:TypeId}(hs:fR P e=Z 1)(he:P.underlying e=Z (.int .i64)){xs:Array Value}{j:Nat}{x:Value}(h:xs[j]?=Z x):(part e xs j).run P w=.ok x w:=by
 have ha:(isAgg e).run P w=.ok aa w:=oC he
 simp[part,ha,h]
def amb (D:Nat){t e:TypeId}(ht:P.underlying t=Z (.array 4 e))(he:P.underlying e=Z (.int .i64))(hs:fR P e=Z 1){a b:List Int}(ha:a.length=4)(hb:b.length=4)
  (hq:∀x y,(Op.equalIn D e (.int .i64 x) (.int .i64 y)).run P w=.ok (x==y) w):
  (Op.equalIn (D+1) t (.agg (a.map (Value.int .i64)).toArray) (.agg (b.map (Value.int .i64)).toArray)).run P w=.ok (a==b) w:=by
 match a,b,ha,hb with
 |[a0,a1,a2,a3],[b0,b1,b2,b3],_,_=>
  have hp:∀(x y z u:Int) (j:Nat) (v:Int),[x,y,z,u][j]?=Z v→(part e #[.int .i64 x,.int .i64 y,.int .i64 z,.int .i64 u] j).run P w=.ok (.int .i64 v) w:=by
   intro x y z u j v h
   refine akt hs he ?_
   have:(List.map (Value.int .i64) [x,y,z,u]).toArray[j]?=Z (.int .i64 v):=by rw[List.getElem?_toArray,aUm,h];rfl
   exact this
  have p0:=fun x y z u=>hp x y z u 0 x rfl
  have p1:=fun x y z u=>hp x y z u 1 y rfl
  have p2:=fun x y z u=>hp x y z u 2 z rfl
  have p3:=fun x y z u=>hp x y z u 3 u rfl
  have hr:List.range' 0 4=[0,1,2,3]:=rfl
  simp only[List.map_cons,List.map_nil]
  simp only[Op.equalIn,Sem.run_bind,run_underlying ht,Result.andThen_ok,bl hs]
  rw[Std.Legacy.Range.forIn_eq_forIn_range']
  simp only[Std.Legacy.Range.size,Nat.sub_zero,Nat.add_sub_cancel,Nat.div_one,hr,List.forIn_cons,List.forIn_nil,Nat.zero_mul,Nat.one_mul,Nat.mul_one,Sem.run_bind,p0,p1,p2,p3,Result.andThen_ok,hq]
  by_cases e0:a0=b0<;>by_cases e1:a1=b1<;>by_cases e2:a2=b2<;>by_cases e3:a3=b3<;>simp[e0,e1,e2,e3,hq,p0,p1,p2,p3]
def af8 {t e:TypeId}(ht:P.underlying t=Z (.array 4 e))(he:P.underlying e=Z (.int .i64))(hs:fR P e=Z 1){a b:List Int}(ha:a.length=4)(hb:b.length=4):
  (Op.equal t (.agg (a.map (Value.int .i64)).toArray) (.agg (b.map (Value.int .i64)).toArray)).run P w=.ok (a==b) w:=
 amb 9999 ht he hs ha hb fun x y=>run_equalIn_int (P:=P) w 9998 e .i64 .i64 x y he
def aLh {op:BinOp}{l:List Value}{X:Value}(h:pv (.bin op) l=Z X):∃q a q' b,l=[.int q a,.int q' b]∧((op=.shl∨op=.shr)∧shI op q a b=Z X∨q=q'∧b9 op q a b=Z X):=by
 unfold pv at h
 split at h
 case h_1 op' q a q' b hpk=>
  cases hpk
  refine⟨q,a,q',b,rfl,?_⟩
  split at h
  ·exact .inl ⟨.inl rfl,h⟩
  ·exact .inl ⟨.inr rfl,h⟩
  ·split at h
   ·exact .inr ⟨by assumption,h⟩
   ·cases h
 all_goals first|(rename_i hpk;cases hpk)|(rename_i hpk _;cases hpk)|cases h
def aLj {n:Nat}{l:List Value}{X:Value}(h:pv (.eqA n) l=Z X):∃x y:List Int,l=[.agg (x.map (Value.int .i64)).toArray,.agg (y.map (Value.int .i64)).toArray]∧x.length=n∧y.length=n∧X=.bool (x==y):=by
 unfold pv at h
 split at h
 case h_6 n' a b hpk=>
  cases hpk
  split at h
  ·rename_i x y hx hy
   split at h
   ·rename_i hxy
    cases h
    refine⟨x,y,?_,hxy.1,hxy.2,rfl⟩
    rw[← lB hx,← lB hy]
   ·cases h
  ·cases h
 all_goals first|(rename_i hpk;cases hpk)|(rename_i hpk _;cases hpk)|cases h
def aLo {n:Nat}{l:List Value}{X:Value}(h:pv (.neA n) l=Z X):∃x y:List Int,l=[.agg (x.map (Value.int .i64)).toArray,.agg (y.map (Value.int .i64)).toArray]∧x.length=n∧y.length=n∧X=.bool (!(x==y)):=by
 unfold pv at h
 split at h
 case h_7 n' a b hpk=>
  cases hpk
  split at h
  ·rename_i x y hx hy
   split at h
   ·rename_i hxy
    cases h
    refine⟨x,y,?_,hxy.1,hxy.2,rfl⟩
    rw[← lB hx,← lB hy]
   ·cases h
  ·cases h
 all_goals first|(rename_i hpk;cases hpk)|(rename_i hpk _;cases hpk)|cases h
def aLr {l:List Value}{X:Value}(h:pv .not l=Z X):∃b,l=[.bool b]∧X=.bool (!b):=by
 unfold pv at h
 split at h
 case h_2 b hpk=>cases h;exact⟨b,rfl,rfl⟩
 all_goals first|(rename_i hpk;cases hpk)|(rename_i hpk _;cases hpk)|cases h
def aLq {l:List Value}{X:Value}(h:pv .neg l=Z X):∃q a,l=[.int q a]∧X=.int q (q.wrap (0-a)):=by
 unfold pv at h
 split at h
 case h_3 q a hpk=>cases h;exact⟨q,a,rfl,rfl⟩
 all_goals first|(rename_i hpk;cases hpk)|(rename_i hpk _;cases hpk)|cases h
def aLi {q:IntKind}{l:List Value}{X:Value}(h:pv (.cvt q) l=Z X):∃q' a,l=[.int q' a]∧X=.int q (q.wrap a):=by
 unfold pv at h
 split at h
 case h_4 q0 q' a hpk=>
  cases hpk
  split at h
  ·cases h;exact⟨q',_,rfl,by rw[jY];rfl⟩
  ·cases h;exact⟨q',_,rfl,rfl⟩
 all_goals first|(rename_i hpk;cases hpk)|(rename_i hpk _;cases hpk)|cases h
def aLk {l:List Value}{X:Value}(h:pv .eqB l=Z X):∃a b,l=[.bool a,.bool b]∧X=.bool (a==b):=by
 unfold pv at h
 split at h
 case h_5 a b hpk=>cases h;exact⟨a,b,rfl,rfl⟩
 all_goals first|(rename_i hpk;cases hpk)|(rename_i hpk _;cases hpk)|cases h
def aLm {l:List Value}{X:Value}(h:pv .max l=Z X):∃q a q' b,l=[.int q a,.int q' b]∧X=.int q (if b>a then b else a):=by
 unfold pv at h
 split at h
 case h_8 q a q' b hpk=>cases h;exact⟨q,a,q',b,rfl,rfl⟩
 all_goals first|(rename_i hpk;cases hpk)|(rename_i hpk _;cases hpk)|cases h
def aLn {l:List Value}{X:Value}(h:pv .min l=Z X):∃q a q' b,l=[.int q a,.int q' b]∧X=.int q (if b<a then b else a):=by
 unfold pv at h
 split at h
 case h_9 q a q' b hpk=>cases h;exact⟨q,a,q',b,rfl,rfl⟩
 all_goals first|(rename_i hpk;cases hpk)|(rename_i hpk _;cases hpk)|cases h
def aLp {l:List Value}{X:Value}(h:pv .neB l=Z X):∃a b,l=[.bool a,.bool b]∧X=.bool (!(a==b)):=by
 unfold pv at h
 split at h
 case h_10 a b hpk=>cases h;exact⟨a,b,rfl,rfl⟩
 all_goals first|(rename_i hpk;cases hpk)|(rename_i hpk _;cases hpk)|cases h
def aLl {l:List Value}{X:Value}(h:pv .inv l=Z X):∃q a,l=[.int q a]∧X=.int q (q.wrap (BitVec.ofInt q.bits (if q.signed then -1 else q.max) ^^^ BitVec.ofInt q.bits a).toNat):=by
 unfold pv at h
 split at h
 case h_11 q a hpk=>cases h;exact⟨q,a,rfl,rfl⟩
 all_goals first|(rename_i hpk;cases hpk)|(rename_i hpk _;cases hpk)|cases h
def rM {ρ:Operand→Value}{x y:Operand}{u v:Value}(h:[x,y].map ρ=[u,v]):ρ x=u∧ρ y=v:=by simpa using h
def aC4 {pk:PK}{o:Oper}{l:List Operand}{ρ:Operand→Value}{X:Value}(hk:ait P pk o.op l)(h:pv pk (l.map ρ)=Z X):(execOp ρ o).run P w=.ok (.value X) w:=by
 unfold ait at hk
 split at hk
 ·rename_i op op' t x y t' hop
  obtain⟨rfl,rfl⟩:=hk
  obtain⟨q,a,q',b,hl,hX⟩:=aLh h
  obtain⟨e1,e2⟩:=rM hl
  have hg:(eqGuard op t x y (ρ x) (ρ y)).run P w=.ok () w:=by
   rw[e1,e2];cases op<;>rfl
  have hb:(binOp op t (ρ x) (ρ y)).run P w=.ok X w:=by
   rw[e1,e2]
   rcases hX with⟨_,h⟩|⟨rfl,h⟩
   ·exact aGH h t
   ·exact axl h t
  simp[execOp,hop,hg,hb]
 ·rename_i t x hop
  subst hk
  obtain⟨b,hl,rfl⟩:=aLr h
  have e1:ρ x=.bool b:=by simpa using hl
  simp[execOp,hop,e1,Op.unary]
 ·rename_i t x hop
  subst hk
  obtain⟨q,a,hl,rfl⟩:=aLq h
  have e1:ρ x=.int q a:=by simpa using hl
  simp[execOp,hop,e1,Op.unary,Op.intArith]
 ·rename_i q s d x hop
  obtain⟨rfl,hd,ds,hs⟩:=hk
  obtain⟨q',a,hl,rfl⟩:=aLi h
  have e1:ρ x=.int q' a:=by simpa using hl
  simp[execOp,hop,e1,convert,run_underlying hd,run_underlying hs,Conv.intToInt]
 ·rename_i t x y t' hop
  obtain⟨rfl,ht⟩:=hk
  obtain⟨a,b,hl,rfl⟩:=aLk h
  obtain⟨e1,e2⟩:=rM hl
  have hg:(eqGuard .eql t x y (ρ x) (ρ y)).run P w=.ok () w:=by rw[e1,e2];rfl
  have hb:(binOp .eql t (ρ x) (ρ y)).run P w=.ok (.bool (a==b)) w:=by
   rw[e1,e2]
   simp[binOp,run_equal_bool w t a b ht]
  simp[execOp,hop,hg,hb]
 ·rename_i n t x y t' hop
  obtain⟨rfl,rfl,e,ht,he,hs,hgt⟩:=hk
  obtain⟨a,b,hl,ha,hb',rfl⟩:=aLj h
  obtain⟨e1,e2⟩:=rM hl
  have hb:(binOp .eql t (ρ x) (ρ y)).run P w=.ok (.bool (a==b)) w:=by
   have:=af8 (P:=P) (w:=w) ht he hs ha hb'
   rw[e1,e2,run_eql_struct]
   unfold Op.equal Op.maxDepth at this
   rw[this];rfl
  have hg:(eqGuard .eql t x y (ρ x) (ρ y)).run P w=.ok () w:=by rw[e1,e2];exact run_eqGuard_agg w _ _ _ _ _ _ hgt
  simp[execOp,hop,hg,hb]
 ·rename_i n t x y t' hop
  obtain⟨rfl,rfl,e,ht,he,hs,hgt⟩:=hk
  obtain⟨a,b,hl,ha,hb',rfl⟩:=aLo h
  obtain⟨e1,e2⟩:=rM hl
  have hb:(binOp .neq t (ρ x) (ρ y)).run P w=.ok (.bool (!(a==b))) w:=by
   have:=af8 (P:=P) (w:=w) ht he hs ha hb'
   rw[e1,e2,run_neq_struct]
   unfold Op.equal Op.maxDepth at this
   rw[this];rfl
  have hg:(eqGuard .neq t x y (ρ x) (ρ y)).run P w=.ok () w:=by rw[e1,e2];exact run_eqGuard_agg w _ _ _ _ _ _ hgt
  simp[execOp,hop,hg,hb]
 ·rename_i c hop
  obtain⟨hcal,x,y,hargs,rfl⟩:=hk
  obtain⟨q,a,q',b,hl,rfl⟩:=aLm h
  obtain⟨e1,e2⟩:=rM hl
  simp[execOp,hop,resolve,hcal,invoke,builtin,hargs,e1,e2,Builtin.max_,Builtin.max2]
 ·rename_i c hop
  obtain⟨hcal,x,y,hargs,rfl⟩:=hk
  obtain⟨q,a,q',b,hl,rfl⟩:=aLn h
  obtain⟨e1,e2⟩:=rM hl
  simp[execOp,hop,resolve,hcal,invoke,builtin,hargs,e1,e2,Builtin.min_,Builtin.min2]
 ·rename_i t x y t' hop
  obtain⟨rfl,ht⟩:=hk
  obtain⟨a,b,hl,rfl⟩:=aLp h
  obtain⟨e1,e2⟩:=rM hl
  have hg:(eqGuard .neq t x y (ρ x) (ρ y)).run P w=.ok () w:=by rw[e1,e2];rfl
  have hb:(binOp .neq t (ρ x) (ρ y)).run P w=.ok (.bool (!(a==b))) w:=by
   rw[e1,e2]
   simp[binOp,run_equal_bool w t a b ht]
  simp[execOp,hop,hg,hb]
 ·rename_i t x hop
  subst hk
  obtain⟨q,a,hl,rfl⟩:=aLl h
  have e1:ρ x=.int q a:=by simpa using hl
  simp[execOp,hop,e1,Op.unary,Op.intBits]
 ·exact hk.elim
end
def oO {α:Type}:List α→List α→List α
 |[],acc=>acc
 |x::r,acc=>oO r (x::acc)
def vz {α:Type}:∀(l acc:List α),oO l acc=l.reverse++acc
 |[],acc=>rfl
 |x::r,acc=>by rw[oO,vz r];simp
def acb (f:Value→Option Value):List Value→List Value→Option (List Value)
 |[],acc=>Z (oO acc [])
 |x::r,acc=>match f x with|some y=>acb f r (y::acc)|none=>U
def ajK (f:Value→Value→Option Value):List Value→List Value→List Value→Option (List Value)
 |x::r,y::s,acc=>match f x y with|some z=>ajK f r s (z::acc)|none=>U
 |_,_,acc=>Z (oO acc [])
def sB {f:Value→Option Value}:∀{l acc out:List Value},acb f l acc=Z out→∃r,out=acc.reverse++r∧r.length=l.length∧∀(j:Nat) x,l[j]?=Z x→∃y,r[j]?=Z y∧f x=Z y
 |[],acc,out,h=>by
  simp only[acb,Option.some.injEq]at h
  exact⟨[],by rw[← h,vz],rfl,fun j x hj=>by simp at hj⟩
 |x::l,acc,out,h=>by
  simp only[acb]at h
  split at h
  ·rename_i y hy
   obtain⟨r,h1,h2,h3⟩:=sB h
   refine⟨y::r,by rw[h1];simp,by simp[h2],fun j z hj=>?_⟩
   cases j with
   |zero=>simp at hj;subst hj;exact⟨y,rfl,hy⟩
   |succ j=>simpa using h3 j z (by simpa using hj)
  ·cases h
def agP {f:Value→Value→Option Value}:∀{l m acc out:List Value},l.length=m.length→ajK f l m acc=Z out→∃r,out=acc.reverse++r∧r.length=l.length∧∀(j:Nat) x y,l[j]?=Z x→m[j]?=Z y→∃z,r[j]?=Z z∧f x y=Z z
 |[],[],acc,out,_,h=>by
  simp only[ajK,Option.some.injEq]at h
  exact⟨[],by rw[← h,vz],rfl,fun j x y hj=>by simp at hj⟩
 |x::l,y::m,acc,out,hl,h=>by
  simp only[ajK]at h
  split at h
  ·rename_i z hz
   obtain⟨r,h1,h2,h3⟩:=agP (by simpa using hl) h
   refine⟨z::r,by rw[h1];simp,by simp[h2],fun j a b ha hb=>?_⟩
   cases j with
   |zero=>simp at ha hb;subst ha;subst hb;exact⟨z,rfl,hz⟩
   |succ j=>simpa using h3 j a b (by simpa using ha) (by simpa using hb)
  ·cases h
 |[],_::_,_,_,hl,_=>by simp at hl
 |_::_,[],_,_,hl,_=>by simp at hl
def acI (x:T):Option (List Value):=
 match x with
 |.t (.one (.c (.vec l)))=>Z l
 |x=>(kJ x).map fun v=>[v]
def aoK (b:Bool):List Value→Bool
 |[]=>ab
 |.bool c::r=>if c==b then aoK b r else aa
 |_=>aa
def wC (l:List Value):Option T:=
 match l with
 |.bool b::r=>if aoK b r then Z (.t (.one (.c (.v (.bool b))))) else if l.all isCell then Z (.t (.one (.c (.vec l)))) else U
 |_=>if l.all isCell then Z (.t (.one (.c (.vec l)))) else U
def bO (f:Value→Option Value)(x:T):Option T:=
 match acI x with
 |some [u]=>(f u).bind fun X=>(ny X).map .t
 |some l=>(acb f l []).bind wC
 |none=>U
def kf (f:Value→Value→Option Value)(x y:T):Option T:=
 match acI x,acI y with
 |some [u],Z [v]=>(f u v).bind fun X=>(ny X).map .t
 |some [u],Z m=>(acb (f u) m []).bind wC
 |some l,Z [v]=>(acb (fun u=>f u v) l []).bind wC
 |some l,Z m=>(ajK f l m []).bind wC
 |_,_=>U
def alm:T→Option (IntKind × Sy)
 |.t (.one (.c (.sy q l)))=>Z (q,.p l)
 |.t (.one (.c (.v (.int q z))))=>Z (q,.k z)
 |_=>U
def loQ:IntKind→Int
 |.i8 => -128
 |.i64 => -9223372036854775808
 |_=>0
def hiQ:IntKind→Int
 |.i8=>127
 |.u8=>255
 |.i64=>9223372036854775807
 |.u64=>18446744073709551615
 |.u32=>4294967295
 |_ => -1
def pj (q:IntKind)(a:Sy):Option T:=
 match alj (loQ q) (hiQ q) a with
 |true=>(match a with|.k z=>Z (.t (.one (.c (.v (.int q z)))))|.p l=>Z (.t (.one (.c (.sy q l)))))
 |false=>U
def sgB (f:Int→Bool)(a:Sy):Option T:=match arJ a with|some s=>Z (.t (.one (.c (.v (.bool (f s))))))|none=>U
def ltZ:Int→Bool
 |.negSucc _=>ab
 |_=>aa
def ahx (pk:PK)(x:T):Option T:=
 match alm x with
 |some (q,a)=>(match pk with|.cvt q'=>pj q' a|.neg=>pj q (aDF a)|_=>U)
 |none=>U
def apf (op:BinOp)(q:IntKind)(a b:Sy):Option T:=
 match op with
 |.add=>pj q (arG a b)
 |.sub=>pj q (pJ a b)
 |.mul=>pj q (arH a b)
 |.rem=>(match b with|.k m=>(match arI a m with|some r=>pj q r|none=>U)|.p _=>U)
 |.or=>(match a,q with|.k (.ofNat 0),.u64=>pj .u64 b|_,_=>U)
 |.eql=>sgB isZ (pJ a b)
 |.neq=>sgB (fun s=>!isZ s) (pJ a b)
 |.lss=>sgB ltZ (pJ a b)
 |.leq=>sgB (fun s=>!cY s) (pJ a b)
 |.gtr=>sgB cY (pJ a b)
 |.geq=>sgB (fun s=>!ltZ s) (pJ a b)
 |_=>U
def ahy (pk:PK)(x y:T):Option T:=
 match alm x,alm y with
 |some (q,a),Z (q',b)=>(match pk with|.bin op=>if q=q' then apf op q a b else U|_=>U)
 |_,_=>U
def mT (pk:PK)(l:List T):Option T:=
 match l with
 |[x]=>(match bO (fun u=>pv pk [u]) x with|some y=>Z y|none=>ahx pk x)
 |[x,y]=>(match kf (fun u v=>pv pk [u,v]) x y with|some z=>Z z|none=>ahy pk x y)
 |_=>U
section
variable {P:Program} {k:Cls} {F:Nat→Prop} {φ:Nat→Option Nat} {w:World}
def jv {x:T}{l:List Value}{u:Value}(h:acI x=Z l)(r:RT k F φ w x u):gm l k=Z u:=by
 unfold acI at h
 split at h
 ·cases h
  have r':RC k F w (.vec l) u:=r
  cases r' with
  |vec _ _ h _=>exact h
 ·simp only[aUa]at h
  obtain⟨v,hv,rfl⟩:=h
  rw[cF hv r];rfl
def jZ {α:Type}{l:List α}{u:α}(h:gm l k=Z u):(∃x,l=[x]∧x=u)∨(l.length=k.n∧l[k.k]?=Z u∧l.length≠1):=by
 match l,h with
 |[],h=>simp[gm]at h
 |[x],h=>simp[gm]at h;exact .inl ⟨x,rfl,h⟩
 |x::y::r,h=>
  simp only[gm]at h
  split at h
  ·rename_i hl;exact .inr ⟨hl,h,by simp⟩
  ·cases h
def xU {α:Type}{l:List α}{u:α}(hl:l.length=k.n)(h:l[k.k]?=Z u):gm l k=Z u:=by
 match l,hl,h with
 |[],_,h=>simp at h
 |[x],hl,h=>
  have:k.k=0:=by have:=(aTU.1 h).1;simpa using this
  rw[this]at h
  simpa [gm]using h
 |x::y::r,hl,h=>simp only[gm];rw[if_pos hl];exact h
def agp:∀{l:List Value} {b:Bool} {j:Nat} {u:Value},aoK b l=ab→l[j]?=Z u→u=.bool b
 |[],b,j,u,h,hj=>by simp at hj
 |.bool c::r,b,j,u,h,hj=>by
  simp only[aoK]at h
  split at h
  ·rename_i hc
   have hc':c=b:=by simpa using hc
   cases j with
   |zero=>simp at hj;rw[← hj,hc']
   |succ j=>exact agp h (by simpa using hj)
  ·cases h
def wE {l:List Value}{y:T}{u:Value}(h:wC l=Z y)(ha:gm l k=Z u):RT k F φ w y u:=by
 unfold wC at h
 split at h
 ·rename_i b r
  split at h
  ·rename_i hall
   cases h
   have:u=.bool b:=by
    rcases jZ ha with⟨x,he,rfl⟩|⟨_,hj,_⟩
    ·cases he;rfl
    ·cases hk:k.k with
     |zero=>rw[hk]at hj;simpa using hj.symm
     |succ j=>rw[hk]at hj;exact agp hall (by simpa using hj)
   subst this
   exact RC.v _ rfl
  ·split at h
   ·rename_i hall
    cases h
    exact RC.vec _ _ ha (List.all_eq_true.1 hall _ (aai ha))
   ·cases h
 ·split at h
  ·rename_i hall
   cases h
   exact RC.vec _ _ ha (List.all_eq_true.1 hall _ (aai ha))
  ·cases h
def aJk {f:Value→Option Value}{x y:T}{u:Value}(h:bO f x=Z y)(r:RT k F φ w x u):∃X,f u=Z X∧RT k F φ w y X:=by
 unfold bO at h
 split at h
 ·rename_i v hv
  have:=jv hv r
  simp only[gm,Option.some.injEq]at this
  subst this
  simp only[Option.bind_eq_some_iff,aUa]at h
  obtain⟨X,hX,t,ht,rfl⟩:=h
  exact⟨X,hX,zm ht⟩
 ·rename_i l hne hv
  simp only[Option.bind_eq_some_iff]at h
  obtain⟨out,ho,hp⟩:=h
  obtain⟨r',h1,h2,h3⟩:=sB ho
  simp only[List.reverse_nil,List.nil_append]at h1
  subst h1
  have ha:=jv hv r
  rcases jZ ha with⟨z,he,rfl⟩|⟨hl,hj,_⟩
  ·exact absurd he (hne z)
  ·obtain⟨X,hX,hf⟩:=h3 _ _ hj
   exact⟨X,hf,wE hp (xU (by rw[h2,hl]) hX)⟩
 ·cases h
def aJl {f:Value→Value→Option Value}{x y z:T}{u v:Value}(h:kf f x y=Z z)(r:RT k F φ w x u)(q:RT k F φ w y v):∃X,f u v=Z X∧RT k F φ w z X:=by
 unfold kf at h
 split at h
 ·rename_i a b hx hy
  have e1:=jv hx r
  have e2:=jv hy q
  simp only[gm,Option.some.injEq]at e1 e2
  subst e1;subst e2
  simp only[Option.bind_eq_some_iff,aUa]at h
  obtain⟨X,hX,t,ht,rfl⟩:=h
  exact⟨X,hX,zm ht⟩
 ·rename_i a m hne hx hy
  have e1:=jv hx r
  simp only[gm,Option.some.injEq]at e1
  subst e1
  simp only[Option.bind_eq_some_iff]at h
  obtain⟨out,ho,hp⟩:=h
  obtain⟨r',h1,h2,h3⟩:=sB ho
  simp only[List.reverse_nil,List.nil_append]at h1
  subst h1
  rcases jZ (jv hy q)with⟨z,he,rfl⟩|⟨hl,hj,_⟩
  ·exact absurd he (hne z)
  ·obtain⟨X,hX,hf⟩:=h3 _ _ hj
   exact⟨X,hf,wE hp (xU (by rw[h2,hl]) hX)⟩
 ·rename_i l b hne hx hy
  have e2:=jv hy q
  simp only[gm,Option.some.injEq]at e2
  subst e2
  simp only[Option.bind_eq_some_iff]at h
  obtain⟨out,ho,hp⟩:=h
  obtain⟨r',h1,h2,h3⟩:=sB ho
  simp only[List.reverse_nil,List.nil_append]at h1
  subst h1
  rcases jZ (jv hx r)with⟨z,he,rfl⟩|⟨hl,hj,_⟩
  ·exact absurd he (hne z)
  ·obtain⟨X,hX,hf⟩:=h3 _ _ hj
   exact⟨X,hf,wE hp (xU (by rw[h2,hl]) hX)⟩
 ·rename_i l m hne1 hne2 hne3 hx hy
  simp only[Option.bind_eq_some_iff]at h
  obtain⟨out,ho,hp⟩:=h
  rcases jZ (jv hx r)with⟨z,he,rfl⟩|⟨hl,hj,_⟩
  ·exact absurd he (hne2 z)
  rcases jZ (jv hy q)with⟨z,he,rfl⟩|⟨hl',hj',_⟩
  ·exact absurd he (hne3 z)
  obtain⟨r',h1,h2,h3⟩:=agP (by rw[hl,hl']) ho
  simp only[List.reverse_nil,List.nil_append]at h1
  subst h1
  obtain⟨X,hX,hf⟩:=h3 _ _ _ hj hj'
  exact⟨X,hf,wE hp (xU (by rw[h2,hl]) hX)⟩
 ·cases h
def aov {q:IntKind}{z:Int}(h1:loQ q≤z)(h2:z≤hiQ q):q.wrap z=z:=by
 unfold IntKind.wrap
 cases q<;>simp only[loQ,hiQ,IntKind.bits,IntKind.signed]at h1 h2 ⊢<;>first|omega|(simp;omega)|(simp;split<;>omega)
def ags (q:IntKind)(a b:Int):b9 .add q a b=Z (.int q (q.wrap (a+b))):=by
 match a,b with
 |.ofNat x,.ofNat y=>show Z (Value.int q (fH q (x+y)))=_;rw[jY];rfl
 |.ofNat x,.negSucc y=>rfl
 |.negSucc x,.ofNat y=>rfl
 |.negSucc x,.negSucc y=>rfl
def asO (q:IntKind)(a b:Int):b9 .mul q a b=Z (.int q (q.wrap (a*b))):=by
 match a,b with
 |.ofNat x,.ofNat y=>show Z (Value.int q (fH q (x*y)))=_;rw[jY];rfl
 |.ofNat x,.negSucc y=>rfl
 |.negSucc x,.ofNat y=>rfl
 |.negSucc x,.negSucc y=>rfl
def asP (q:IntKind){a b:Int}(ha:0≤a)(hb:0<b):b9 .rem q a b=Z (.int q (Int.emod a b)):=by
 obtain⟨n,rfl⟩:=Int.eq_ofNat_of_zero_le ha
 obtain⟨m,rfl⟩:=Int.eq_ofNat_of_zero_le (Int.le_of_lt hb)
 have:¬(ai m 0=ab):=fun h=>by have:=aT1 h;omega
 show(if ai m 0 then U else Z (Value.int q ((n%m:Nat):Int)))=_
 rw[if_neg this];rfl
def axk {b:Int}(hb:0≤b)(h:b≤18446744073709551615):b9 .or .u64 (.ofNat 0) b=Z (.int .u64 b):=by
 obtain⟨n,rfl⟩:=Int.eq_ofNat_of_zero_le hb
 have e:(BitVec.ofInt 64 (af 0) ||| BitVec.ofInt 64 (n:Int)).toNat=n:=by simp;omega
 show Z (Value.int .u64 (IntKind.wrap .u64 (af (BitVec.ofInt 64 (af 0) ||| BitVec.ofInt 64 (n:Int)).toNat)))=_
 rw[e,show IntKind.wrap .u64 (af n)=af n from wrap_small .u64 n (by show n<ah2;unfold ah2;omega)]
 rfl
def agd {x:T}{q:IntKind}{a:Sy}{u:Value}(h:alm x=Z (q,a))(r:RT k F φ w x u):u=.int q (a.ev k.e):=by
 unfold alm at h
 split at h
 ·cases h
  have r':RC k F w (.sy q _) u:=r
  cases r'
  rfl
 ·cases h
  exact cF (x:=.int q _) rfl r
 ·cases h
def kZ {q:IntKind}{a:Sy}{y:T}(h:pj q a=Z y):RT k F φ w y (.int q (a.ev k.e))∧q.wrap (a.ev k.e)=a.ev k.e∧loQ q≤a.ev k.e∧a.ev k.e≤hiQ q:=by
 unfold pj at h
 split at h
 ·rename_i hin
  obtain⟨h1,h2⟩:=an7 k.he hin
  refine⟨?_,aov h1 h2,h1,h2⟩
  cases a with
  |k z=>cases h;exact RC.v _ rfl
  |p l=>cases h;exact RC.sy q l
 ·cases h
def aMC {f:Int→Bool}{a:Sy}{y:T}(h:sgB f a=Z y):RT k F φ w y (.bool (f (Int.sign (a.ev k.e)))):=by
 unfold sgB at h
 split at h
 ·rename_i s hs
  cases h
  rw[aBt k.he hs]
  exact RC.v _ rfl
 ·cases h
def aBh (z:Int):ltZ (Int.sign z)=decide (z<0):=by
 match z with
 |.ofNat 0=>rfl
 |.ofNat (n+1)=>rfl
 |.negSucc n=>rw[Int.sign_eq_neg_one_of_neg (Int.negSucc_lt_zero n),decide_eq_true (Int.negSucc_lt_zero n)];rfl
def aBg (z:Int):isZ (Int.sign z)=decide (z=0):=by
 match z with
 |.ofNat 0=>rfl
 |.ofNat (n+1)=>rfl
 |.negSucc n=>rfl
def arz (z:Int):cY (Int.sign z)=decide (0<z):=by
 match z with
 |.ofNat 0=>rfl
 |.ofNat (n+1)=>have h:(0:Int)<af (n+1):=Int.ofNat_lt.2 (Nat.succ_pos n);rw[decide_eq_true h];rfl
 |.negSucc n=>rfl
def axV {op:BinOp}{q:IntKind}{a b:Sy}{y:T}(h:apf op q a b=Z y):∃X,pv (.bin op) [.int q (a.ev k.e),.int q (b.ev k.e)]=Z X∧RT k F φ w y X:=by
 unfold apf at h
 split at h
 ·obtain⟨h1,h2,_⟩:=kZ (k:=k) (F:=F) (φ:=φ) (w:=w) h
  rw[aBp]at h1 h2
  refine⟨_,?_,h1⟩
  simp only[pv,if_true,ags,h2]
 ·obtain⟨h1,h2,_⟩:=kZ (k:=k) (F:=F) (φ:=φ) (w:=w) h
  rw[alk]at h1 h2
  refine⟨_,?_,h1⟩
  show(if q=q then b9 .sub q (a.ev k.e) (b.ev k.e) else U)=_
  rw[if_pos rfl]
  show Z (Value.int q (q.wrap (a.ev k.e-b.ev k.e)))=_
  rw[h2]
 ·obtain⟨h1,h2,_⟩:=kZ (k:=k) (F:=F) (φ:=φ) (w:=w) h
  rw[aBq]at h1 h2
  refine⟨_,?_,h1⟩
  simp only[pv,if_true,asO,h2]
 ·split at h
  ·rename_i m
   split at h
   ·rename_i r hr
    obtain⟨h1,h2,_⟩:=kZ (k:=k) (F:=F) (φ:=φ) (w:=w) h
    obtain⟨g1,g2,g3⟩:=aBs k.he hr
    rw[g3]at h1
    refine⟨_,?_,h1⟩
    simp only[pv,if_true]
    exact asP q g2 g1
   ·cases h
  ·cases h
 ·split at h
  ·obtain⟨h1,h2,h3,h4⟩:=kZ (k:=k) (F:=F) (φ:=φ) (w:=w) h
   exact⟨_,by simp only[pv,if_true];exact axk h3 h4,h1⟩
  ·cases h
 all_goals (try cases h)
 all_goals (
  have h1:=aMC (k:=k) (F:=F) (φ:=φ) (w:=w) h
  rw[alk]at h1
  refine⟨_,?_,h1⟩
  simp only[pv,if_true,b9,aBg,aBh,arz]
  congr 2
  rw[aUp]
  simp
  try omega)
def axU {pk:PK}{x y z:T}{u v:Value}(h:ahy pk x y=Z z)(r:RT k F φ w x u)(q:RT k F φ w y v):∃X,pv pk [u,v]=Z X∧RT k F φ w z X:=by
 unfold ahy at h
 split at h
 ·rename_i qa a qb b ha hb
  rw[agd ha r,agd hb q]
  split at h
  ·rename_i op
   split at h
   ·rename_i he
    subst he
    exact axV h
   ·cases h
  ·cases h
 ·cases h
def axT {pk:PK}{x y:T}{u:Value}(h:ahx pk x=Z y)(r:RT k F φ w x u):∃X,pv pk [u]=Z X∧RT k F φ w y X:=by
 unfold ahx at h
 split at h
 ·rename_i q a ha
  rw[agd ha r]
  split at h
  ·rename_i q'
   obtain⟨h1,h2,_⟩:=kZ (k:=k) (F:=F) (φ:=φ) (w:=w) h
   refine⟨_,?_,h1⟩
   show(match a.ev k.e with|.ofNat n=>Z (Value.int q' (fH q' n))|a=>Z (Value.int q' (q'.wrap a)))=_
   have e:∀z:Int,q'.wrap z=z→(match z with|.ofNat n=>Z (Value.int q' (fH q' n))|a=>Z (Value.int q' (q'.wrap a)))=Z (Value.int q' z):=by
    intro z hz
    match z,hz with
    |.ofNat n,hz=>show Z (Value.int q' (fH q' n))=_;rw[jY];exact congrArg _ (congrArg _ hz)
    |.negSucc n,hz=>show Z (Value.int q' (q'.wrap _))=_;rw[hz]
   exact e _ h2
  ·obtain⟨h1,h2,_⟩:=kZ (k:=k) (F:=F) (φ:=φ) (w:=w) h
   rw[aBr]at h1 h2
   refine⟨_,?_,h1⟩
   show Z (Value.int q (q.wrap (0-a.ev k.e)))=_
   rw[Int.zero_sub,h2]
  ·cases h
 ·cases h
def aK8 {pk:PK}{x y:T}{u:Value}(h:(match bO (fun u=>pv pk [u]) x with|some y=>Z y|none=>ahx pk x)=Z y)(r:RT k F φ w x u):∃X,pv pk [u]=Z X∧RT k F φ w y X:=by
 split at h
 ·rename_i y' hy
  cases h
  exact aJk hy r
 ·exact axT h r
def aK9 {pk:PK}{x y z:T}{u v:Value}(h:(match kf (fun u v=>pv pk [u,v]) x y with|some z=>Z z|none=>ahy pk x y)=Z z)(r:RT k F φ w x u)(q:RT k F φ w y v):∃X,pv pk [u,v]=Z X∧RT k F φ w z X:=by
 split at h
 ·rename_i y' hy
  cases h
  exact aJl hy r q
 ·exact axU h r q
end
def kg (f:D→Option (C × List Nat)):List D→Option (List C × List Nat)
 |[]=>Z ([],[])
 |d::r=>match f d,kg f r with|some (c,b),Z (cs,bs)=>Z (c::cs,b++bs)|_,_=>U
def jC:C→C
 |.v (.slice U 0 0)=>.sl 0 []
 |x=>x
def fz (H:Hp):Nat→D→Option (C × List Nat)
 |_,.c x=>Z (jC x,[])
 |_,.z0=>Z (.sl 0 [],[])
 |n+1,.lsl b o m s=>
  match H[b]? with
  |some (Z (.cells ds))=>if o+m*s≤ds.length then (match kg (fz H n) ((ds.drop o).take (m*s))with|some (cs,bs)=>Z (.sl m cs,b::bs)|none=>U) else U
  |_=>U
 |_,_=>U
section
variable {P:Program} {k:Cls} {Bt:aP} {F0:Nat→Prop} {N:Nat} {φ:Nat→Option Nat} {w:World} {H:Hp} {S:List Nat}
def aiK {F:Nat→Prop}{x:C}{u:Value}(h:RC k F w x u):RC k F w (jC x) u:=by
 unfold jC
 split
 ·cases h;exact .nil _ _ (fun _=>rfl)
 ·exact h
def HR.sealed (hH:HR k Bt F0 N φ w H S){b x:Nat}{y:Blk}(hb:H[b]?=Z (Z y))(hx:(φ b)=Z x)(hs:b∈S):¬Fo F0 φ H S x:=by
 rintro(h|⟨b',y',hb',hn,hx'⟩)
 ·exact(hH.f0 x h).2.1 b y hb hx
 ·exact hn (hH.inj b' b y' y x hb' hb hx' hx▸hs)
def aCh (hH:HR k Bt F0 N φ w H S):∀(n:Nat) {d:D} {c:C} {bs:List Nat} {u:Value},fz H n d=Z (c,bs)→(∀b∈bs,b∈S)→RD k (Fo F0 φ H S) φ w d u→RC k (Fo F0 φ H S) w c u:=by
 intro n
 induction n with
 |zero=>
  intro d c bs u h hs r
  cases d with
  |c x=>simp[fz]at h;obtain⟨rfl,rfl⟩:=h;exact aiK r
  |z0=>
   simp[fz]at h;obtain⟨rfl,rfl⟩:=h
   obtain⟨A,rfl⟩:=r
   exact .nil A 0 (fun _=>rfl)
  |_=>simp[fz]at h
 |succ n ih=>
  intro d c bs u h hs r
  cases d with
  |c x=>simp[fz]at h;obtain⟨rfl,rfl⟩:=h;exact aiK r
  |z0=>
   simp[fz]at h;obtain⟨rfl,rfl⟩:=h
   obtain⟨A,rfl⟩:=r
   exact .nil A 0 (fun _=>rfl)
  |lsl b o m s=>
   simp only[fz]at h
   split at h
   ·rename_i ds hb
    split at h
    ·rename_i hle
     split at h
     ·rename_i cs bs' hz
      cases h
      obtain⟨x,cap,hx,rfl,hn,_⟩:=r
      obtain⟨_,vs,tt,hw,hl,hc,_⟩:=hH.at_ b _ x hb hx
      have key:∀(l:List D) (cs:List C) (bs':List Nat),kg (fz H n) l=Z (cs,bs')→(∀b∈bs',b∈S)→∀(j:Nat) (c:C),cs[j]?=Z c→∃d bs'',l[j]?=Z d∧fz H n d=Z (c,bs'')∧∀b∈bs'',b∈S:=by
       intro l
       induction l with
       |nil=>intro cs bs' h _ j c hj;simp[kg]at h;obtain⟨rfl,rfl⟩:=h;simp at hj
       |cons d l ihl=>
        intro cs bs' h hbs j c hj
        simp only[kg]at h
        split at h
        ·rename_i c' b' cs' bs'' h1 h2
         cases h
         cases j with
         |zero=>simp at hj;subst hj;exact⟨d,b',rfl,h1,fun b hb=>hbs b (List.mem_append_left _ hb)⟩
         |succ j=>simpa using ihl cs' bs'' h2 (fun b hb=>hbs b (List.mem_append_right _ hb)) j c (by simpa using hj)
        ·cases h
      refine RC.of_cs hn ⟨fun _=>hH.sealed hb hx (hs b aT0),fun j c hj=>?_⟩
      obtain⟨d,bs'',hd,hfd,hbs⟩:=key _ _ _ hz (fun b hb=>hs b (aT8 _ hb)) j c hj
      rw[List.getElem?_take]at hd
      split at hd
      ·rw[List.getElem?_drop]at hd
       obtain⟨u,hu,hr⟩:=hc (o+j) d hd
       exact⟨u,by simp[World.cell?,hw,hu],ih hfd hbs hr⟩
      ·cases hd
     ·cases h
    ·cases h
   ·cases h
  |_=>simp[fz]at h
def nu:Nat:=8
def oS (H:Hp):T→Option (V1 × List Nat)
 |.t (.one d)=>match fz H nu d with|some (c,bs)=>Z (.one c,bs)|none=>U
 |.t (.agg ds)=>match kg (fz H nu) ds with|some (cs,bs)=>Z (.agg cs,bs)|none=>U
 |.row n ds=>match kg (fz H nu) ds with|some (cs,bs)=>Z (.one (.sl n cs),bs)|none=>U
 |_=>U
def jc (H:Hp):List T→Option (List V1 × List Nat)
 |[]=>Z ([],[])
 |t::r=>match oS H t,jc H r with|some (v,b),Z (vs,bs)=>Z (v::vs,b++bs)|_,_=>U
def φ0:Nat→Option Nat:=fun _=>U
def RV (k:Cls)(F:Nat→Prop)(w:World)(v:V1)(u:Value):Prop:=RT1 k F φ0 w v.t1 u
def ai8 (hH:HR k Bt F0 N φ w H S)(n:Nat):∀{ds:List D} {cs:List C} {bs:List Nat} {vs:List Value},kg (fz H n) ds=Z (cs,bs)→(∀b∈bs,b∈S)→RL k (Fo F0 φ H S) φ w vs ds→RL k (Fo F0 φ H S) φ0 w vs (cs.map .c)
 |[],cs,bs,vs,h,hs,r=>by
  simp[kg]at h;obtain⟨rfl,rfl⟩:=h
  exact⟨by simpa using r.1,fun j d hj=>by simp at hj⟩
 |d::ds,cs,bs,vs,h,hs,r=>by
  simp only[kg]at h
  split at h
  ·rename_i c' b' cs' bs'' h1 h2
   cases h
   cases vs with
   |nil=>have:=r.1;simp at this
   |cons v vs=>
    obtain⟨x,hx,hr⟩:=r.2 0 d rfl
    simp at hx;subst hx
    have ih:=ai8 hH n h2 (fun b hb=>hs b (List.mem_append_right _ hb)) (vs:=vs) ⟨by simpa using r.1,fun j d' hj=>by simpa using r.2 (j+1) d' (by simpa using hj)⟩
    refine⟨by simpa using ih.1,fun j d' hj=>?_⟩
    cases j with
    |zero=>simp at hj;subst hj;exact⟨v,rfl,aCh hH n h1 (fun b hb=>hs b (List.mem_append_left _ hb)) hr⟩
    |succ j=>simpa using ih.2 j d' (by simpa using hj)
  ·cases h
def aol (hH:HR k Bt F0 N φ w H S){t:T}{v:V1}{bs:List Nat}{u:Value}(h:oS H t=Z (v,bs))(hs:∀b∈bs,b∈S)(r:RT k (Fo F0 φ H S) φ w t u):RV k (Fo F0 φ H S) w v u:=by
 unfold oS at h
 split at h
 ·split at h
  ·rename_i c bs' hf
   cases h
   exact aCh hH _ hf hs r
  ·cases h
 ·split at h
  ·rename_i cs bs' hf
   cases h
   obtain⟨vs,rfl,hsz,hr⟩:=r
   have:=ai8 hH _ hf hs (vs:=vs.toList) ⟨by simpa using hsz,fun j d hj=>by simpa using hr j d hj⟩
   exact⟨vs,rfl,by simpa using this.1,fun j d hj=>by simpa using this.2 j d hj⟩
  ·cases h
 ·rename_i n ds
  split at h
  ·rename_i cs bs' hf
   cases h
   obtain⟨b,o,cap,rfl,hn,hF,_,hr⟩:=r
   have key:∀j:Nat,∃x,∀d,ds[j]?=Z d→w.cell? ⟨b,o+j,U⟩=Z x∧RD k (Fo F0 φ H S) φ w d x:=by
    intro j
    cases hj:ds[j]? with
    |none=>exact⟨undef,fun d hd=>by cases hd⟩
    |some d=>
     obtain⟨x,hx,hq⟩:=hr j d hj
     exact⟨x,fun d' hd=>by cases hd;exact⟨hx,hq⟩⟩
   have hrl:RL k (Fo F0 φ H S) φ w ((List.range ds.length).map fun j=>(key j).choose) ds:=by
    refine⟨by simp,fun j d hj=>?_⟩
    have hjl:=(aTU.1 hj).1
    exact⟨(key j).choose,by simp[hjl],((key j).choose_spec d hj).2⟩
   have:=ai8 hH _ hf hs hrl
   refine RC.of_cs hn ⟨fun _=>hF,fun j c hj=>?_⟩
   obtain⟨x,hx,hq⟩:=this.2 j (.c c) (by rw[aUm,hj];rfl)
   have hjl:j<ds.length:=by
    have:=(aTU.1 hx).1
    simpa using this
   have e:((List.range ds.length).map fun j=>(key j).choose)[j]?=Z (key j).choose:=by simp[hjl]
   rw[e]at hx
   cases hx
   exact⟨_,((key j).choose_spec ds[j] (aTX hjl)).1,hq⟩
  ·cases h
 ·cases h
def acD (hH:HR k Bt F0 N φ w H S):∀{ts:List T} {vs:List V1} {bs:List Nat} {us:List Value},jc H ts=Z (vs,bs)→(∀b∈bs,b∈S)→us.length=ts.length→(∀(j:Nat) t,ts[j]?=Z t→∃u,us[j]?=Z u∧RT k (Fo F0 φ H S) φ w t u)→
  us.length=vs.length∧∀(j:Nat) v,vs[j]?=Z v→∃u,us[j]?=Z u∧RV k (Fo F0 φ H S) w v u
 |[],vs,bs,us,h,hs,hl,hr=>by
  simp[jc]at h;obtain⟨rfl,rfl⟩:=h
  exact⟨by simpa using hl,fun j v hj=>by simp at hj⟩
 |t::ts,vs,bs,us,h,hs,hl,hr=>by
  simp only[jc]at h
  split at h
  ·rename_i v' b' vs' bs'' h1 h2
   cases h
   cases us with
   |nil=>simp at hl
   |cons u us=>
    obtain⟨x,hx,hr0⟩:=hr 0 t rfl
    simp at hx;subst hx
    have ih:=acD hH h2 (fun b hb=>hs b (List.mem_append_right _ hb)) (us:=us) (by simpa using hl) (fun j t' hj=>by simpa using hr (j+1) t' (by simpa using hj))
    refine⟨by simpa using ih.1,fun j v hj=>?_⟩
    cases j with
    |zero=>simp at hj;subst hj;exact⟨u,rfl,aol hH h1 (fun b hb=>hs b (List.mem_append_left _ hb)) hr0⟩
    |succ j=>simpa using ih.2 j v (by simpa using hj)
  ·cases h
def oE:List V1→T
 |[]=>.nil
 |[r]=>.t r.t1
 |l=>.tup (l.map V1.t1)
def pY (P:Program)(f:FuncId):Prop:=∃fn,P.funcs[f]?=Z fn∧(fn.name == "runtime.NumGoroutine")=aa∧fn.body.isNone=aa
def rI {f:FuncId}(h:pY P f)(args:Array Value):(callFunc f args).run P w=.ok (.enter f args) w:=by
 obtain⟨fn,hfn,hname,hbody⟩:=h
 have n1:fn.name ≠ "runtime.NumGoroutine" := by simpa using hname
 have n2:fn.body≠U:=by intro hb;simp[hb]at hbody
 simp[callFunc,hfn,n1,n2]
def ko (P:Program)(k:Cls)(f:FuncId)(m:List V1→Option (List V1)):Prop:=
 pY P f∧
 ∀as rs,m as=Z rs→∀(F:Nat→Prop) (w:World) (vs:List Value),(∀x,F x→x<w.heap.size∧¬ae7 w x)→vs.length=as.length→(∀(j:Nat) a,as[j]?=Z a→∃u,vs[j]?=Z u∧RV k F w a u)→
  Calls P f vs.toArray w fun e w'=>∃u,e=.returned u∧Ext w w'∧RT k F φ0 w' (oE rs) u
def Old (φ:Nat→Option Nat)(H:Hp)(S:List Nat)(w w':World):Prop:=
 ∀x,x<w.heap.size→(∀(b:Nat) y,H[b]?=Z (Z y)→b∉S→φ b≠Z x)→w'.heap[x]?=w.heap[x]?
def Old.ext {φ:Nat→Option Nat}{H:Hp}{S:List Nat}{w w':World}(h:Ext w w'):Old φ H S w w':=fun x hx _=>h.block x hx
def Post (k:Cls)(Bt:aP)(F0:Nat→Prop)(N:Nat)(φ:Nat→Option Nat)(w:World)(H:Hp)(S:List Nat)(H':Hp)(S':List Nat)(y:T)(u:Value)(w':World):Prop:=
 ∃φ',Bel N w w'∧HR k Bt F0 N φ' w' H' S'∧Kp (Fo F0 φ H S) φ w (Fo F0 φ' H' S') φ' w'∧RT k (Fo F0 φ' H' S') φ' w' y u∧(∀c,c<H.length→φ' c=φ c)∧Old φ H S w w'
def Post.ext {bs:List Nat}{y:T}{u:Value}{w':World}(hN:N≤w.heap.size)(hH:HR k Bt F0 N φ w H S)(hx:Ext w w')(hr:RT k (Fo F0 φ H (bs++S)) φ w' y u):Post k Bt F0 N φ w H S H (bs++S) y u w':=
 ⟨φ,Bel.mono hx hN,(hH.shutB bs).ext hx,(Kp.shutB bs).trans (Kp.of_ext hx (fun _ _ h=>h) (fun _ _ h=>h)) (aTS _),hr,fun _ _=>rfl,Old.ext hx⟩
def RT.of_nil {F:Nat→Prop}{rs:List V1}{u:Value}(h:RT k F φ0 w (oE rs) u):RT k F φ w (oE rs) u:=by
 have h1:∀(r:V1) (u:Value),RT1 k F φ0 w r.t1 u→RT1 k F φ w r.t1 u:=by
  intro r u h
  cases r with
  |one c=>exact h
  |agg cs=>
   obtain⟨vs,rfl,hs,hr⟩:=h
   refine⟨vs,rfl,hs,fun j d hj=>?_⟩
   obtain⟨x,hx,hd⟩:=hr j d hj
   refine⟨x,hx,?_⟩
   rw[aUm,aUa]at hj
   obtain⟨c,_,rfl⟩:=hj
   exact hd
 unfold oE at h ⊢
 split at h
 ·trivial
 ·exact h1 _ _ h
 ·obtain⟨vs,rfl,hs,hr⟩:=h
  refine⟨vs,rfl,hs,fun j d hj=>?_⟩
  obtain⟨x,hx,hd⟩:=hr j d hj
  refine⟨x,hx,?_⟩
  rw[aUm,aUa]at hj
  obtain⟨c,_,rfl⟩:=hj
  exact h1 _ _ hd
def o6 (m:List V1→Option (List V1))(args:List T)(H:Hp):Option (T × List Nat):=
 match jc H args with
 |some (as,bs)=>(m as).map fun rs=>(oE rs,bs)
 |none=>U
def axr (hH:HR k Bt F0 N φ w H S)(hN:N≤w.heap.size){g:FuncId}{m:List V1→Option (List V1)}(hm:ko P k g m){args:List T}{y:T}{bs:List Nat}{us:List Value}(h:o6 m args H=Z (y,bs))
  (hl:us.length=args.length)(hr:∀(j:Nat) t,args[j]?=Z t→∃u,us[j]?=Z u∧RT k (Fo F0 φ H S) φ w t u):
  Calls P g us.toArray w fun e w'=>∃u,e=.returned u∧Ext w w'∧RT k (Fo F0 φ H (bs++S)) φ w' y u:=by
 unfold o6 at h
 split at h
 ·rename_i as bs' has
  simp only[aUa,Prod.mk.injEq]at h
  obtain⟨rs,hrs,rfl,rfl⟩:=h
  have hH':=hH.shutB bs'
  obtain⟨h1,h2⟩:=acD hH' has (fun b hb=>List.mem_append_left _ hb) hl (fun j t hj=>let ⟨u,hu,hq⟩:=hr j t hj;⟨u,hu,RT.kp (Kp.shutB bs') hq⟩)
  refine(hm.2 as rs hrs (Fo F0 φ H (bs'++S)) w us (fun x hx=>⟨hH'.fo_lt hx,hH'.nolimb hx⟩) h1 h2).mono ?_
  rintro e w' ⟨u,rfl,hx,hr⟩
  exact⟨u,rfl,hx,RT.of_nil hr⟩
 ·cases h
end
def abz {u:Value}(h:isCell u=ab):u.oneCell'=ab:=by cases u<;>first|rfl|simp[isCell]at h
section
variable {P:Program} {k:Cls} {Bt:aP} {F0:Nat→Prop} {N:Nat} {φ:Nat→Option Nat} {w w':World} {H:Hp} {S:List Nat}
def getElem?_push {α:Type}{l:List α}{a x:α}{b:Nat}:(l++[a])[b]?=Z x↔l[b]?=Z x∨(b=l.length∧a=x):=by
 rw[List.getElem?_append]
 split
 ·rename_i h
  constructor
  ·exact .inl
  ·rintro(h1|⟨rfl,_⟩)
   ·exact h1
   ·omega
 ·rename_i h
  rw[List.getElem?_singleton]
  constructor
  ·intro h1
   split at h1
   ·cases h1;exact .inr ⟨by omega,rfl⟩
   ·cases h1
  ·rintro(h1|⟨rfl,rfl⟩)
   ·rw[List.getElem?_eq_none (by omega)]at h1;cases h1
   ·simp
def bw (φ:Nat→Option Nat)(b x:Nat):Nat→Option Nat:=fun c=>if c=b then Z x else φ c
def gN {b x:Nat}:bw φ b x b=Z x:=by simp[bw]
def eZ {b x c:Nat}(h:c≠b):bw φ b x c=φ c:=by simp[bw,h]
def vN {b x:Nat}(hb:φ b=U)(c y:Nat)(h:φ c=Z y):bw φ b x c=Z y:=by
 unfold bw
 rw[if_neg (fun e=>by rw[e,hb]at h;cases h)]
 exact h
def iQ {b x c y:Nat}(h:bw φ b x c=Z y):(c=b∧y=x)∨(c≠b∧φ c=Z y):=by
 unfold bw at h
 split at h
 ·rename_i e;exact .inl ⟨e,(Option.some.inj h).symm⟩
 ·rename_i e;exact .inr ⟨e,h⟩
def HR.grow (hH:HR k Bt F0 N φ w H S)(c:Option Blk):HR k Bt F0 N φ w (H++[c]) S∧∀x,Fo F0 φ (H++[c]) S x↔Fo F0 φ H S x:=by
 have get:∀(b:Nat) y x,(H++[c])[b]?=Z (Z y)→φ b=Z x→H[b]?=Z (Z y):=by
  intro b y x h hx
  rw[getElem?_push]at h
  rcases h with h|⟨rfl,_⟩
  ·exact h
  ·rw[hH.dom _ (aTS _)]at hx;cases hx
 have hF:∀x,Fo F0 φ (H++[c]) S x↔Fo F0 φ H S x:=by
  intro x
  constructor
  ·rintro(h|⟨b,y,hb,hs,hx⟩)
   ·exact .inl h
   ·exact .inr ⟨b,y,get b y x hb hx,hs,hx⟩
  ·rintro(h|⟨b,y,hb,hs,hx⟩)
   ·exact .inl h
   ·exact .inr ⟨b,y,getElem?_push.2 (.inl hb),hs,hx⟩
 have q:Kp (Fo F0 φ H S) φ w (Fo F0 φ (H++[c]) S) φ w:=⟨fun _ _ h=>h,fun _ _ h=>⟨rfl,fun h'=>h ((hF _).1 h')⟩,fun _ vs _ _ h=>⟨vs,h,rfl⟩⟩
 refine⟨⟨fun b hb=>hH.dom b (by simp at hb;omega),fun x h0=>⟨(hH.f0 x h0).1,fun b y hb hφ=>(hH.f0 x h0).2.1 b y (get b y x hb hφ) hφ,(hH.f0 x h0).2.2⟩,fun b b' y y' x h1 h2 h3 h4=>hH.inj b b' y y' x (get b y x h1 h3) (get b' y' x h2 h4) h3 h4,fun b y x hb hφ=>?_⟩,hF⟩
 obtain⟨hN,hB⟩:=hH.at_ b y x (get b y x hb hφ) hφ
 exact⟨hN,RB.kp q hB rfl⟩
def HR.kill (hH:HR k Bt F0 N φ w H S){H1:Hp}(hlen:H.length≤H1.length)(hsub:∀(b:Nat) y,H1[b]?=Z (Z y)→H[b]?=Z (Z y)):
  HR k Bt F0 N φ w H1 S∧Kp (Fo F0 φ H S) φ w (Fo F0 φ H1 S) φ w:=by
 have q:Kp (Fo F0 φ H S) φ w (Fo F0 φ H1 S) φ w:=by
  refine⟨fun _ _ h=>h,fun x _ h=>⟨rfl,?_⟩,fun _ vs _ _ h=>⟨vs,h,rfl⟩⟩
  rintro(h'|⟨b,y,hb,hs,hx⟩)
  ·exact h (.inl h')
  ·exact h (.inr ⟨b,y,hsub b y hb,hs,hx⟩)
 refine⟨⟨fun b hb=>hH.dom b (by omega),fun x h0=>⟨(hH.f0 x h0).1,fun b y hb=>(hH.f0 x h0).2.1 b y (hsub b y hb),(hH.f0 x h0).2.2⟩,fun b b' y y' x h1 h2=>hH.inj b b' y y' x (hsub b y h1) (hsub b' y' h2),fun b y x hb hφ=>?_⟩,q⟩
 obtain⟨hN,hB⟩:=hH.at_ b y x (hsub b y hb) hφ
 exact⟨hN,RB.kp q hB rfl⟩
def HR.bind (hH:HR k Bt F0 N φ w H S){H1:Hp}(hlen:H.length≤H1.length){b x:Nat}(hb:φ b=U){y0:Blk}(hbd:H1[b]?=Z (Z y0))
  (hsub:∀(b':Nat) y' z,φ b'=Z z→H1[b']?=Z (Z y')→H[b']?=Z (Z y'))
  (hF0x:∀y,F0 y→y≠x)(hF0e:∀y,F0 y→w'.heap[y]?=w.heap[y]?)(hsz:w.heap.size≤w'.heap.size)
  (hx:∀(b':Nat) y',H1[b']?=Z (Z y')→φ b'≠Z x)
  (hold:∀(b':Nat) y' z,H1[b']?=Z (Z y')→φ b'=Z z→w'.heap[z]?=w.heap[z]?)
  (q:Kp (Fo F0 φ H S) φ w (Fo F0 (bw φ b x) H1 S) (bw φ b x) w')
  (hNx:N≤x)(hB:RB k Bt (Fo F0 (bw φ b x) H1 S) (bw φ b x) w' x y0):HR k Bt F0 N (bw φ b x) w' H1 S:=by
 have hbl:b<H1.length:=(aTU.1 hbd).1
 refine⟨fun c hc=>?_,fun y hy=>?_,?_,?_⟩
 ·unfold bw
  rw[if_neg (by omega)]
  exact hH.dom c (by omega)
 ·obtain⟨h1,h3,h4⟩:=hH.f0 y hy
  refine⟨by omega,fun b' y' hb' hφ=>?_,ae8 (hF0e y hy) h4⟩
  rcases iQ hφ with⟨_,e⟩|⟨_,hφ⟩
  ·exact hF0x y hy e
  ·exact h3 b' y' (hsub b' y' y hφ hb') hφ
 ·intro b1 b2 e1 e2 y h1 h2 h3 h4
  rcases iQ h3 with⟨p1,q1⟩|⟨n1,h3⟩<;>rcases iQ h4 with⟨p2,q2⟩|⟨n2,h4⟩
  ·rw[p1,p2]
  ·exact absurd (q1▸h4) (hx b2 e2 h2)
  ·exact absurd (q2▸h3) (hx b1 e1 h1)
  ·exact hH.inj b1 b2 e1 e2 y (hsub b1 e1 y h3 h1) (hsub b2 e2 y h4 h2) h3 h4
 ·intro b1 e1 y h1 h2
  rcases iQ h2 with⟨p,e⟩|⟨n1,h2⟩
  ·subst p;subst e
   rw[hbd]at h1;cases h1
   exact⟨hNx,hB⟩
  ·obtain⟨hNy,hB'⟩:=hH.at_ b1 e1 y (hsub b1 e1 y h2 h1) h2
   exact⟨hNy,RB.kp q hB' (hold b1 e1 y h1 h2)⟩
def Fo.of_bind {b x y:Nat}(h:Fo F0 (bw φ b x) H S y):Fo F0 φ H S y∨y=x:=by
 rcases h with h|⟨c,z,hc,hs,hy⟩
 ·exact .inl (.inl h)
 ·rcases iQ hy with⟨_,e⟩|⟨_,hy⟩
  ·exact .inr e
  ·exact .inl (.inr ⟨c,z,hc,hs,hy⟩)
def axn (hH:HR k Bt F0 N φ w H S){b:Nat}(hb:φ b=U){y0:Blk}(hbd:H[b]?=Z (Z y0))(hN:N≤w.heap.size){x:Nat}(hxs:w.heap.size≤x)(hx:Ext w w')
  (hB:Kp (Fo F0 φ H S) φ w (Fo F0 (bw φ b x) H S) (bw φ b x) w'→RB k Bt (Fo F0 (bw φ b x) H S) (bw φ b x) w' x y0):
  HR k Bt F0 N (bw φ b x) w' H S∧Kp (Fo F0 φ H S) φ w (Fo F0 (bw φ b x) H S) (bw φ b x) w':=by
 have q:Kp (Fo F0 φ H S) φ w (Fo F0 (bw φ b x) H S) (bw φ b x) w':=
  Kp.of_ext hx (fun y hy hf hf'=>by
   rcases Fo.of_bind hf' with h|h
   ·exact hf h
   ·omega) (vN hb)
 refine⟨hH.bind (aTS _) hb hbd (fun _ _ _ _ h=>h) (fun y hy e=>by have:=(hH.f0 y hy).1;omega) (fun y hy=>hx.block y (hH.f0 y hy).1) hx.size ?_ ?_ q (by omega) (hB q),q⟩
 ·intro b' es h1 h2
  have:=(hH.lt h1 h2).1
  omega
 ·intro b' es y h1 h2
  exact hx.block y (hH.lt h1 h2).1
def Kp.grow (hH:HR k Bt F0 N φ w H S)(c:Option Blk):Kp (Fo F0 φ H S) φ w (Fo F0 φ (H++[c]) S) φ w:=
 ⟨fun _ _ h=>h,fun _ _ h=>⟨rfl,fun h'=>h (((hH.grow c).2 _).1 h')⟩,fun _ vs _ _ h=>⟨vs,h,rfl⟩⟩
def rD (hH:HR k Bt F0 N φ w H S){H1:Hp}(hlen:H1.length=H.length)(hsub:∀(b:Nat) y,H1[b]?=Z (Z y)→H[b]?=Z (Z y))(hN:N≤w.heap.size){x:Nat}(hxs:w.heap.size≤x)(hx:Ext w w'){y0:Blk}
  (hB:∀(F:Nat→Prop) (ψ:Nat→Option Nat),Kp (Fo F0 φ H S) φ w F ψ w'→RB k Bt F ψ w' x y0):
  HR k Bt F0 N (bw φ H.length x) w' (H1++[Z y0]) S∧Kp (Fo F0 φ H S) φ w (Fo F0 (bw φ H.length x) (H1++[Z y0]) S) (bw φ H.length x) w':=by
 obtain⟨g1,k1⟩:=hH.kill (Nat.le_of_eq hlen.symm) hsub
 have g2:=(g1.grow (Z y0)).1
 have k2:=Kp.grow g1 (Z y0)
 have k12:=k1.trans k2 (aTS _)
 obtain⟨g3,k3⟩:=axn g2 (hH.dom _ (aTS _)) (getElem?_push.2 (.inr ⟨hlen.symm,rfl⟩)) hN hxs hx (fun q=>hB _ _ (k12.trans q (aTS _)))
 exact⟨g3,k12.trans k3 (aTS _)⟩
def azo (hH:HR k Bt F0 N φ w H S){H1:Hp}(hlen:H1.length=H.length)(hsub:∀(b:Nat) y,H1[b]?=Z (Z y)→H[b]?=Z (Z y))(hN:N≤w.heap.size)(hx:Ext w w')
  {vs:Array Value}{t:TypeId}{ds:List D}(ht:t≠Limb.u)(hb:w'.heap[w.heap.size]?=Z (.cells vs t (0,0)))(hl:ds.length≤vs.size)
  (hc:∀(j:Nat) d,ds[j]?=Z d→∃u,vs[j]?=Z u∧RD k (Fo F0 φ H S) φ w d u):
  HR k Bt F0 N (bw φ H.length w.heap.size) w' (H1++[Z (.cells ds)]) S∧Kp (Fo F0 φ H S) φ w (Fo F0 (bw φ H.length w.heap.size) (H1++[Z (.cells ds)]) S) (bw φ H.length w.heap.size) w':=
 rD hH hlen hsub hN (aTS _) hx fun F ψ q=>⟨vs,t,hb,hl,fun j d hj=>let ⟨u,hu,hr⟩:=hc j d hj;⟨u,hu,RD.kp q hr⟩,ht⟩
def HR.turn (hH:HR k Bt F0 N φ w H S){b x:Nat}{y y':Blk}(hb:H[b]?=Z (Z y))(hs:b∉S)(hx:(φ b)=Z x)
  (hsz:w'.heap.size=w.heap.size)(oth:∀z,z≠x→w'.heap[z]?=w.heap[z]?)
  (hcl:∀vs t fr,w.heap[x]?=Z (.cells vs t fr)→∃vs',w'.heap[x]?=Z (.cells vs' t fr)∧vs'.size=vs.size)
  (hB:Kp (Fo F0 φ H S) φ w (Fo F0 φ (H.set b (Z y')) S) φ w'→RB k Bt (Fo F0 φ (H.set b (Z y')) S) φ w' x y'):
  HR k Bt F0 N φ w' (H.set b (Z y')) S∧Kp (Fo F0 φ H S) φ w (Fo F0 φ (H.set b (Z y')) S) φ w':=by
 have hbl:b<H.length:=(aTU.1 hb).1
 have get:∀(b':Nat) e,(H.set b (Z y'))[b']?=Z (Z e)→(b'=b∧e=y')∨(b'≠b∧H[b']?=Z (Z e)):=by
  intro b' e h
  rw[List.getElem?_set]at h
  split at h
  ·rename_i he
   cases h
   exact .inl ⟨he.symm,rfl⟩
  ·rename_i he
   exact .inr ⟨fun e=>he e.symm,h⟩
 have hFx:Fo F0 φ H S x:=.inr ⟨b,y,hb,hs,hx⟩
 have hF:∀z,Fo F0 φ (H.set b (Z y')) S z→Fo F0 φ H S z:=by
  rintro z (h|⟨b',e,h1,h2,h3⟩)
  ·exact .inl h
  ·rcases get b' e h1 with⟨rfl,rfl⟩|⟨_,h1⟩
   ·exact .inr ⟨b',y,hb,h2,h3⟩
   ·exact .inr ⟨b',e,h1,h2,h3⟩
 have hxN:=(hH.lt hb hx).2
 have q:Kp (Fo F0 φ H S) φ w (Fo F0 φ (H.set b (Z y')) S) φ w':=by
  refine⟨fun _ _ h=>h,fun z hz hf=>?_,fun z vs' t' fr h=>?_⟩
  ·have:z≠x:=fun e=>hf (e▸hFx)
   exact⟨oth z this,fun h=>hf (hF z h)⟩
  ·by_cases hzx:z=x
   ·subst hzx;exact hcl vs' t' fr h
   ·exact⟨vs',by rw[oth z hzx];exact h,rfl⟩
 refine⟨⟨fun c hc=>hH.dom c (by simpa using hc),fun z hz=>?_,?_,?_⟩,q⟩
 ·obtain⟨h1,h3,h4⟩:=hH.f0 z hz
  refine⟨by omega,fun b' e hb' hφ=>?_,ae8 (oth z fun e=>h3 b y hb (e▸hx)) h4⟩
  rcases get b' e hb' with⟨e1,_⟩|⟨_,h⟩
  ·exact h3 b y hb (e1▸hφ)
  ·exact h3 b' e h hφ
 ·intro b1 b2 e1 e2 z h1 h2 h3 h4
  have g:∀(b':Nat) e,(H.set b (Z y'))[b']?=Z (Z e)→∃e',H[b']?=Z (Z e'):=by
   intro b' e h
   rcases get b' e h with⟨rfl,_⟩|⟨_,h⟩
   ·exact⟨y,hb⟩
   ·exact⟨e,h⟩
  obtain⟨q1,g1⟩:=g b1 e1 h1
  obtain⟨q2,g2⟩:=g b2 e2 h2
  exact hH.inj b1 b2 q1 q2 z g1 g2 h3 h4
 ·intro b' e z h hz
  rcases get b' e h with⟨rfl,rfl⟩|⟨hne,h⟩
  ·rw[hx]at hz;cases hz
   exact⟨hxN,hB q⟩
  ·obtain⟨hNz,hB'⟩:=hH.at_ b' e z h hz
   exact⟨hNz,RB.kp q hB' (oth z fun ez=>hne (hH.inj b' b e y x h hb (ez▸hz) hx))⟩
def HR.store (hH:HR k Bt F0 N φ w H S){b x:Nat}{es ds:List D}(hb:H[b]?=Z (Z (.cells es)))(hs:b∉S)(hx:(φ b)=Z x){cur vs:Array Value}{t:TypeId}(hcur:w.heap[x]?=Z (.cells cur t (0,0)))
  (hsz:vs.size=cur.size)(hl:ds.length≤vs.size)(hc:∀(j:Nat) d,ds[j]?=Z d→∃u,vs[j]?=Z u∧RD k (Fo F0 φ H S) φ w d u):
  HR k Bt F0 N φ (w.setRow x vs) (H.set b (Z (.cells ds))) S∧Kp (Fo F0 φ H S) φ w (Fo F0 φ (H.set b (Z (.cells ds))) S) φ (w.setRow x vs):=
 hH.turn hb hs hx (by simp) (fun z hz=>setRow_other w x z vs hz)
  (fun vs' t' fr h=>by rw[hcur]at h;cases h;exact⟨vs,setRow_heap w x cur vs t _ hcur,hsz⟩)
  (fun q=>⟨vs,t,setRow_heap w x cur vs t _ hcur,hl,fun j d hj=>let ⟨u,hu,hr⟩:=hc j d hj;⟨u,hu,RD.kp q hr⟩,by
   obtain⟨_,vs0,t0,hw0,_,_,ht0⟩:=hH.at_ b _ x hb hx
   rw[hcur]at hw0
   cases hw0
   exact ht0⟩)
def awo (hH:HR k Bt F0 N φ w H S)(hN:N≤w.heap.size){b o y:Nat}{es ds:List D}{us:List Value}(hb:H[b]?=Z (Z (.cells es)))(h3:b∉S)(hy:φ b=Z y)(hx:RL k (Fo F0 φ H S) φ w us ds)(h2:o+ds.length≤es.length):
  ∃w',(storeCells ⟨y,o,U⟩ us).run P w=.ok () w'∧Bel N w w'∧HR k Bt F0 N φ w' (H.set b (Z (.cells (es.take o++ds++es.drop (o+ds.length))))) S∧Kp (Fo F0 φ H S) φ w (Fo F0 φ (H.set b (Z (.cells (es.take o++ds++es.drop (o+ds.length))))) S) φ w'∧Old φ H S w w':=by
 obtain⟨hNy,cur,tt,hw,hl,hcc,_⟩:=hH.at_ b _ y hb hy
 have e1:=hx.1
 have hst:=run_storeCells_at P y o tt us 0 cur w hw (by omega) (fun v hv=>abz (hx.isCell v hv))
 simp only[Nat.add_zero]at hst
 have hset:RL k (Fo F0 φ H S) φ w (cur.toList.take es.length) es:=by
  refine⟨by simp;omega,fun j d hj=>?_⟩
  obtain⟨u,hu,hr⟩:=hcc j d hj
  have hjl:=(aTU.1 hj).1
  exact⟨u,by rw[List.getElem?_take,if_pos hjl];simpa using hu,hr⟩
 have hnew:=hset.set hx o (by simp;omega)
 have key:∀j:Nat,j<es.length→(cur.toList.take o++us++cur.toList.drop (o+us.length))[j]?=(List.take o (cur.toList.take es.length)++us++List.drop (o+us.length) (cur.toList.take es.length))[j]?:=by
  intro j hj
  simp only[List.getElem?_append,List.getElem?_take,List.getElem?_drop,aTW,aUo,Array.length_toList]
  rw[Nat.min_eq_left (show o≤cur.size by omega),Nat.min_eq_left (show es.length≤cur.size by omega),Nat.min_eq_left (show o≤es.length by omega)]
  split
  ·split
   ·first|rfl|rw[if_pos hj]
   ·rfl
  ·rename_i hge
   first|rw[if_pos (by omega)]|rfl
 have hvsz:(cur.toList.take o++us++cur.toList.drop (o+us.length)).toArray.size=cur.size:=by
  simp;omega
 obtain⟨g1,g2⟩:=hH.store (ds:=es.take o++ds++es.drop (o+ds.length)) hb h3 hy hw hvsz (by rw[hvsz];simp;omega) (fun j d hj=>by
  obtain⟨u,hu,hr⟩:=hnew.2 j d hj
  have hjl:j<es.length:=by
   have:=(aTU.1 hj).1
   simp at this;omega
  refine⟨u,?_,hr⟩
  rw[List.getElem?_toArray,key j hjl]
  exact hu)
 exact⟨_,hst,⟨rfl,rfl,rfl,by simp,fun k hk=>setRow_other w y k _ (by omega),aTS _⟩,g1,g2,fun z _ hz=>setRow_other w y z _ fun e=>hz b _ hb h3 (e▸hy)⟩
def bF (es:List D)(o:Nat)(ds:List D):List D:=es.take o++ds++es.drop (o+ds.length)
def j1 (n:Nat)(H:Hp)(S:List Nat)(a x:T):Option Hp:=
 match a,gO x with
 |.t (.one (.ptr b o)),Z ds=>
  match H[b]? with
  |some (Z (.cells es))=>if ds.length=n∧o+n≤es.length∧b∉S then Z (H.set b (Z (.cells (bF es o ds)))) else U
  |_=>U
 |_,_=>U
def ape (hH:HR k Bt F0 N φ w H S)(hN:N≤w.heap.size){t:TypeId}{n:Nat}(hn:fR P t=Z n){a x:T}{H':Hp}{ua ux:Value}(h:j1 n H S a x=Z H')(ra:RT k (Fo F0 φ H S) φ w a ua)(rx:RT k (Fo F0 φ H S) φ w x ux):
  ∃w',(Instr.storeAt t ua ux).run P w=.ok () w'∧Bel N w w'∧HR k Bt F0 N φ w' H' S∧Kp (Fo F0 φ H S) φ w (Fo F0 φ H' S) φ w'∧Old φ H S w w':=by
 unfold j1 at h
 split at h
 ·rename_i b o ds hds
  split at h
  ·rename_i es hb
   split at h
   ·rename_i hc
    obtain⟨h1,h2,h3⟩:=hc
    cases h
    obtain⟨y,hy,rfl⟩:=ra
    have hx:=xX hds rx
    obtain⟨w',g1,g2,g3,g4,g5⟩:=awo (P:=P) hH hN (o:=o) hb h3 hy hx (by omega)
    have hsz:ux.cells.size=n:=by have:=hx.1;simpa [← h1]using this
    refine⟨w',?_,g2,g3,g4,g5⟩
    simp[Instr.storeAt,Instr.sureAddr,storeVar,hsz,bl hn,g1]
   ·cases h
  ·cases h
 ·cases h
end
section
variable {P:Program} {k:Cls} {Bt:aP} {F0:Nat→Prop} {N:Nat} {φ:Nat→Option Nat} {w w':World} {H:Hp} {S:List Nat}
def akY {F:Nat→Prop}{b o:Nat}{es:List D}(h:∀(j:Nat) d,es[j]?=Z d→∃x,w.cell? ⟨b,o+j,U⟩=Z x∧RD k F φ w d x):
  ∃l:List Value,RL k F φ w l es∧∀(j:Nat) v,l[j]?=Z v→w.cell? ((⟨b,o,U⟩:Addr).add j)=Z v:=by
 have key:∀j,∃z,∀d,es[j]?=Z d→w.cell? ⟨b,o+j,U⟩=Z z∧RD k F φ w d z:=by
  intro j
  cases hj:es[j]? with
  |none=>exact⟨undef,fun c hc=>by cases hc⟩
  |some c=>
   obtain⟨z,hz,hr⟩:=h j c hj
   exact⟨z,fun c' hc'=>by cases hc';exact⟨hz,hr⟩⟩
 refine⟨(List.range es.length).map fun j=>(key j).choose,⟨by simp,fun j d hj=>?_⟩,fun j v hj=>?_⟩
 ·have hl:=(aTU.1 hj).1
  exact⟨(key j).choose,by simp[hl],((key j).choose_spec d hj).2⟩
 ·rw[dt]
  simp only[aUm,aUa]at hj
  obtain⟨i,hi,rfl⟩:=hj
  have hlt:j<es.length:=by simpa using (aTU.1 hi).1
  have hkj:i=j:=by rw[List.getElem?_range hlt]at hi;exact(Option.some.inj hi).symm
  subst hkj
  exact((key i).choose_spec es[i] (aTX hlt)).1
def ch (H:Hp)(sz:Nat):T→Option (Nat × List D)
 |.t (.one (.lsl b o n s))=>
  match H[b]? with
  |some (Z (.cells ds))=>if s=sz∧o+n*s≤ds.length then Z (n,(ds.drop o).take (n*s)) else U
  |_=>U
 |.t (.one d)=>(match ar d with|some (n,cs)=>if cs.length=n*sz then Z (n,cs.map .c) else U|none=>U)
 |.row n ds=>if ds.length=n*sz then Z (n,ds) else U
 |_=>U
def wV (hH:HR k Bt F0 N φ w H S){sz m:Nat}{x:T}{es:List D}{u:Value}(h:ch H sz x=Z (m,es))(r:RT k (Fo F0 φ H S) φ w x u):
  ∃A c,u=.slice A m c∧es.length=m*sz∧(0<m→∃b o,A=Z ⟨b,o,U⟩∧∀(j:Nat) d,es[j]?=Z d→∃x,w.cell? ⟨b,o+j,U⟩=Z x∧RD k (Fo F0 φ H S) φ w d x):=by
 unfold ch at h
 split at h
 ·rename_i b o n s
  split at h
  ·rename_i ds hb
   split at h
   ·rename_i hc
    obtain⟨rfl,hle⟩:=hc
    cases h
    obtain⟨y,cap,hy,rfl,_⟩:=r
    obtain⟨_,vs,tt,hw,hl,hcc,_⟩:=hH.at_ b _ y hb hy
    refine⟨_,_,rfl,by simp;omega,fun _=>⟨y,o,rfl,fun j d hj=>?_⟩⟩
    rw[List.getElem?_take]at hj
    split at hj
    ·rw[List.getElem?_drop]at hj
     obtain⟨u,hu,hr⟩:=hcc (o+j) d hj
     exact⟨u,by simp[World.cell?,hw,hu],hr⟩
    ·cases hj
   ·cases h
  ·cases h
 ·rename_i d _
  split at h
  ·rename_i n cs hd
   split at h
   ·rename_i hle
    cases h
    obtain⟨A,c,rfl,hr,_⟩:=lM hd r
    refine⟨A,c,rfl,by simpa using hle,fun hm=>?_⟩
    cases hr with
    |nil=>omega
    |sl _ _ b o _ f hn hF hcc hrr=>
     refine⟨b,o,rfl,fun j d hj=>?_⟩
     rw[aUm,aUa]at hj
     obtain⟨c',hc',rfl⟩:=hj
     exact⟨f j,hcc j c' hc',hrr j c' hc'⟩
   ·cases h
  ·cases h
 ·rename_i n ds
  split at h
  ·rename_i hle
   cases h
   obtain⟨b,o,cap,rfl,hn,_,_,hr⟩:=r
   exact⟨_,cap,rfl,hle,fun _=>⟨b,o,rfl,hr⟩⟩
  ·cases h
 ·cases h
def aA6 (t ty e t':TypeId)(i:TypeInfo)(ht:P.underlying t=Z (.slice e))(hi:P.info? e=Z i)
  (g sLen sCap:Nat)(cur:Array Value)(hg:w.heap[g]?=Z (.cells cur t' (0,0)))
  (a:Addr)(m c:Nat)(news:List Value)(hl:news.length=m*i.size)(hnews:∀(j:Nat) u,news[j]?=Z u→w.cell? (a.add j)=Z u)(h1:∀u∈news,u.oneCell'=ab)
  (hroom:sLen+m≤sCap)(hfit:sLen*i.size+news.length≤cur.size):
  (Builtin.append_ #[t,t] ty #[.slice (Z ⟨g,0,U⟩) sLen sCap,.slice (Z a) m c]).run P w=
   .ok (.slice (Z ⟨g,0,U⟩) (sLen+m) sCap) (w.setRow g (cur.toList.take (sLen*i.size)++news++cur.toList.drop (sLen*i.size+news.length)).toArray):=by
 have hf:=run_firstCells_some (P:=P) w i.size m a m c news hl hnews
 have hst:=run_storeCells_at P g (sLen*i.size) t' news 0 cur w hg (by simpa using hfit) h1
 simp only[Nat.add_zero]at hst
 simp[Builtin.append_,run_underlying ht,sizeOf,typeInfo,hi,Builtin.lenOf,hroom,hf,Addr.add_lit,hst]
def aIf (P:Program)(e:TypeId)(s bytes:Nat):Prop:=∃(i:TypeInfo) (z:Value),P.info? e=Z i∧i.zero=Z z∧i.size=s∧i.bytes=bytes∧0<s∧z.cells.size=s∧e≠Limb.u
def bJ (s bytes:Nat)(H:Hp)(S:List Nat)(d x:T):Option (T × Hp):=
 match ch H s x with
 |some (m,es)=>
  if m=0 then (match d with|.t (.one (.lsl b o n s'))=>Z (.t (.one (.lsl b o n s')),H)|.t (.one d)=>(if (ar d).isSome then Z (.t (.one d),H) else U)|_=>U) else
  if m≤2 ^ 30∧m*bytes≤2 ^ 46 then
   match d with
   |.t (.one (.c (.v (.slice U 0 0))))=>Z (.t (.one (.lsl H.length 0 m s)),H++[Z (.cells es)])
   |.t (.one .z0)=>Z (.t (.one (.lsl H.length 0 m s)),H++[Z (.cells es)])
   |.t (.one (.lsl b 0 n s'))=>
    (match H[b]? with
     |some (Z (.cells ds))=>if s'=s∧n*s'≤ds.length∧b∉S∧n+m≤2 ^ 30∧(n+m)*bytes≤2 ^ 46 then Z (.t (.one (.lsl H.length 0 (n+m) s)),H.set b U++[Z (.cells (ds.take (n*s')++es))]) else U
     |_=>U)
   |_=>U
  else U
 |none=>U
def v9 (hH:HR k Bt F0 N φ w H S){H1:Hp}(hlen:H1.length=H.length)(hsub:∀(b:Nat) y,H1[b]?=Z (Z y)→H[b]?=Z (Z y))(hN:N≤w.heap.size){e:TypeId}(hte:e≠Limb.u){z:Array Value}{m s cap:Nat}{l:List Value}{ds:List D}
  (hl:RL k (Fo F0 φ H S) φ w l ds)(hk:l.length=m*s)(hz:z.size=s)(hcap:m≤cap):
  Post k Bt F0 N φ w H S (H1++[Z (.cells ds)]) S (.t (.one (.lsl H.length 0 m s))) (.slice (Z ⟨w.heap.size,0,U⟩) m cap) (w.drew.alloc (.cells (l.toArray++Builtin.zeroCells z (cap-m)) e)):=by
 have hx:Ext w (w.drew.alloc (.cells (l.toArray++Builtin.zeroCells z (cap-m)) e)):=Bel.alloc (Bel.drew (Bel.refl _ _)) (aTS _) _
 have hb:(w.drew.alloc (.cells (l.toArray++Builtin.zeroCells z (cap-m)) e)).heap[w.heap.size]?=Z (.cells (l.toArray++Builtin.zeroCells z (cap-m)) e (0,0)):=gk w.drew _
 have e1:=hl.1
 obtain⟨g1,g2⟩:=azo hH hlen hsub hN hx hte hb (ds:=ds) (by simp;omega) (fun j d hj=>by
  obtain⟨u,hu,hr⟩:=hl.2 j d hj
  have hjl:=(aTU.1 hu).1
  refine⟨u,?_,hr⟩
  rw[Array.getElem?_append_left (by simpa using hjl)]
  simpa using hu)
 refine⟨_,Bel.mono hx hN,g1,g2,⟨w.heap.size,cap,gN,rfl,hcap,_,_,_,hb,?_⟩,fun c hc=>eZ (by omega),Old.ext hx⟩
 simp only[Array.size_append,List.size_toArray,size_zeroCells,hk,hz,aUe,← Nat.add_mul]
 apply Nat.mul_le_mul_right
 omega
def Post.same (hH:HR k Bt F0 N φ w H S){y:T}{u:Value}(hr:RT k (Fo F0 φ H S) φ w y u):Post k Bt F0 N φ w H S H S y u w:=
 ⟨φ,Bel.refl _ _,hH,Kp.refl,hr,fun _ _=>rfl,Old.ext (Ext.refl _)⟩
def alS (hH:HR k Bt F0 N φ w H S)(hN:N≤w.heap.size){t ty e:TypeId}{sz bytes:Nat}(hu:P.underlying t=Z (.slice e))(he:aIf P e sz bytes){s x y:T}{H':Hp}{us ux:Value}(h:bJ sz bytes H S s x=Z (y,H'))(rs:RT k (Fo F0 φ H S) φ w s us)(rx:RT k (Fo F0 φ H S) φ w x ux):
  ∃u w',(Builtin.append_ #[t,t] ty #[us,ux]).run P w=.ok u w'∧Post k Bt F0 N φ w H S H' S y u w':=by
 obtain⟨i,z,hi,hz,rfl,rfl,hsz,hzs,hte⟩:=he
 unfold bJ at h
 split at h
 ·rename_i m es hrow
  split at h
  ·rename_i hm0
   subst hm0
   obtain⟨A,c,rfl,hel,_⟩:=wV hH hrow rx
   have hkey:∀(B:Option Addr) (n cap:Nat),us=.slice B n cap→n≤cap→(Builtin.append_ #[t,t] ty #[us,.slice A 0 c]).run P w=.ok us w:=by
    rintro B n cap rfl hle
    cases A<;>cases B<;>simp[Builtin.append_,run_underlying hu,sizeOf,typeInfo,hi,Builtin.lenOf,hle,Builtin.firstCells,loadCells,loadCellsFrom,storeCells]
   split at h
   ·cases h
    have rs':=rs
    obtain⟨q,cap,hq,hus,hle,_⟩:=rs
    exact⟨us,w,hkey _ _ _ hus hle,Post.same hH rs'⟩
   ·rename_i d _
    split at h
    ·rename_i hsl
     cases h
     obtain⟨⟨n,cs⟩,hd⟩:=Option.isSome_iff_exists.1 hsl
     obtain⟨B,cap,hus,_,hle⟩:=lM hd rs
     exact⟨us,w,hkey _ _ _ hus hle,Post.same hH rs⟩
    ·cases h
   ·cases h
  rename_i hm0
  have hm:0<m:=by omega
  split at h
  ·rename_i hb
   obtain⟨A,c,rfl,hel,hA⟩:=wV hH hrow rx
   obtain⟨xb,xo,rfl,hcells⟩:=hA hm
   obtain⟨news,hnews,hnc⟩:=akY hcells
   have hnl:news.length=m*i.size:=by rw[hnews.1,hel]
   have hnil:∀{ty},∃u w',(Builtin.append_ #[t,t] ty #[.slice U 0 0,.slice (Z ⟨xb,xo,U⟩) m c]).run P w=.ok u w'∧Post k Bt F0 N φ w H S (H++[Z (.cells es)]) S (.t (.one (.lsl H.length 0 m i.size))) u w':=by
    intro ty
    have hr:=run_append_nil (P:=P) w t ty e i z hu hi hz ⟨xb,xo,U⟩ m c news hnl hnc hm (by omega) (by omega)
    exact⟨_,_,hr,v9 hH (H1:=H) rfl (fun _ _ h=>h) hN hte (z:=z.cells) hnews hnl hzs (grownCap_ge w m 0 e)⟩
   split at h
   ·cases h
    have rs':RC k (Fo F0 φ H S) w (.v (.slice U 0 0)) us:=rs
    cases rs' with
    |v _ _=>exact hnil
   ·cases h
    obtain⟨B,rfl⟩:=rs
    cases B with
    |none=>exact hnil
    |some a=>
     have hr:=run_append_grow (P:=P) w t ty e i z hu hi hz a 0 0 [] (by simp) (fun j v hj=>by simp at hj) ⟨xb,xo,U⟩ m c news hnl hnc (by omega) (by omega) (growslice_fits (by omega) (by rw[aUe];omega))
     have hg:=v9 hH (H1:=H) rfl (fun _ _ h=>h) hN (e:=e) hte (z:=z.cells) (cap:=grownCap w (0+m) 0 e) hnews hnl hzs (by have:=grownCap_ge w (0+m) 0 e;omega)
     simp only[aUe,List.nil_append]at hr hg
     refine⟨_,_,hr,?_⟩
     have e0:(([]:List Value).toArray++news.toArray)=news.toArray:=by simp
     rw[e0]
     exact hg
   ·rename_i b n s'
    split at h
    ·rename_i ds hb'
     split at h
     ·rename_i hc
      obtain⟨rfl,hle,hbS,h30,h46⟩:=hc
      cases h
      obtain⟨y,cap,hy,rfl,hncap,vs0,t0,fr0,hw0,hfit⟩:=rs
      obtain⟨hNy,cur,tt,hw,hl,hcc,htt⟩:=hH.at_ b _ y hb' hy
      rw[hw]at hw0
      simp only[Option.some.injEq,Obj.cells.injEq]at hw0
      obtain⟨ecur,_,_⟩:=hw0
      rw[← ecur]at hfit
      clear ecur
      have hbl:b<H.length:=(aTU.1 hb').1
      have hlen:(H.set b U).length=H.length:=by simp
      have hsub:∀(b':Nat) y',(H.set b U)[b']?=Z (Z y')→H[b']?=Z (Z y'):=by
       intro b' ds' h
       rw[List.getElem?_set]at h
       split at h
       ·cases h
       ·exact h
      have hne:∀(b':Nat) y',(H.set b U)[b']?=Z (Z y')→b'≠b:=by
       intro b' ds' h e
       subst e
       rw[List.getElem?_set,if_pos rfl]at h
       simp at h
      have holdL:RL k (Fo F0 φ H S) φ w (cur.toList.take (n*i.size)) (ds.take (n*i.size)):=by
       refine⟨by simp;omega,fun j d hj=>?_⟩
       rw[List.getElem?_take]at hj ⊢
       split at hj
       ·rename_i hjn
        obtain⟨u,hu',hr⟩:=hcc j d hj
        exact⟨u,by rw[if_pos hjn];simpa using hu',hr⟩
       ·cases hj
      have hallL:RL k (Fo F0 φ H S) φ w (cur.toList.take (n*i.size)++news) (ds.take (n*i.size)++es):=by
       refine⟨by rw[aTW,aTW,holdL.1,hnews.1],fun j d hj=>?_⟩
       rw[List.getElem?_append]at hj ⊢
       rw[← holdL.1]at hj
       split at hj
       ·rename_i h1;rw[if_pos h1];exact holdL.2 j d hj
       ·rename_i h1;rw[if_neg h1];exact hnews.2 _ d hj
      have hollen:(cur.toList.take (n*i.size)).length=n*i.size:=by rw[holdL.1];simp;omega
      have hallen:(cur.toList.take (n*i.size)++news).length=(n+m)*i.size:=by rw[aTW,hollen,hnl,Nat.add_mul]
      by_cases hroom:n+m≤cap
      ·have hmul:(n+m)*i.size≤cap*i.size:=Nat.mul_le_mul_right _ hroom
       have hfit':n*i.size+news.length≤cur.size:=by rw[hnl,← Nat.add_mul];omega
       have hr:=aA6 (P:=P) (w:=w) t ty e tt i hu hi y n cap cur hw ⟨xb,xo,U⟩ m c news hnl hnc (fun u hu=>abz (hnews.isCell u hu)) hroom hfit'
       have hvsz:(cur.toList.take (n*i.size)++news++cur.toList.drop (n*i.size+news.length)).toArray.size=cur.size:=by
        simp;omega
       have hFy:Fo F0 φ H S y:=.inr ⟨b,_,hb',hbS,hy⟩
       have oth:∀q,q≠y→(w.setRow y (cur.toList.take (n*i.size)++news++cur.toList.drop (n*i.size+news.length)).toArray).heap[q]?=w.heap[q]?:=fun q hq=>setRow_other w y q _ hq
       obtain⟨g1,k1⟩:=hH.kill (Nat.le_of_eq hlen.symm) hsub
       have g2:=(g1.grow (Z (.cells (ds.take (n*i.size)++es)))).1
       have k2:=Kp.grow g1 (Z (.cells (ds.take (n*i.size)++es)))
       have k12:=k1.trans k2 (aTS _)
       have hφn:φ H.length=U:=hH.dom _ (aTS _)
       have k3:Kp (Fo F0 φ H S) φ w (Fo F0 (bw φ H.length y) (H.set b U++[Z (.cells (ds.take (n*i.size)++es))]) S) (bw φ H.length y) (w.setRow y (cur.toList.take (n*i.size)++news++cur.toList.drop (n*i.size+news.length)).toArray):=by
        refine⟨vN hφn,fun q hq hf=>?_,fun q vs' t' fr h=>?_⟩
        ·have:q≠y:=fun e=>hf (e▸hFy)
         refine⟨oth q this,fun h=>?_⟩
         rcases Fo.of_bind h with h|h
         ·exact(k12.keep q hq hf).2 h
         ·exact this h
        ·by_cases hqy:q=y
         ·subst hqy
          rw[hw]at h;cases h
          exact⟨_,setRow_heap w q cur _ tt _ hw,hvsz⟩
         ·exact⟨vs',by rw[oth q hqy];exact h,rfl⟩
       have hblk:=setRow_heap w y cur (cur.toList.take (n*i.size)++news++cur.toList.drop (n*i.size+news.length)).toArray tt (0,0) hw
       have hsub':∀(b':Nat) y' q,φ b'=Z q→(H.set b U++[Z (.cells (ds.take (n*i.size)++es))])[b']?=Z (Z y')→H[b']?=Z (Z y')∧b'≠b:=by
        intro b' ds' q h1 h2
        rw[getElem?_push]at h2
        rcases h2 with h2|⟨h2,_⟩
        ·exact⟨hsub b' ds' h2,hne b' ds' h2⟩
        ·rw[h2,hlen,hφn]at h1;cases h1
       refine⟨_,_,hr,bw φ H.length y,⟨rfl,rfl,rfl,by simp,fun q hq=>oth q (by omega),by first|exact aTS _|exact Nat.le_succ _|(simp;done)|(simp;omega)⟩,hH.bind (by simp) hφn (getElem?_push.2 (.inr ⟨hlen.symm,rfl⟩)) (fun b' ds' q h1 h2=>(hsub' b' ds' q h1 h2).1) (fun q hq e=>(hH.f0 q hq).2.1 b _ hb' (e▸hy)) (fun q hq=>oth q fun e=>(hH.f0 q hq).2.1 b _ hb' (e▸hy)) (by simp) ?_ ?_ k3 hNy ⟨_,tt,hblk,?_,?_,htt⟩,k3,?_,fun c hc=>eZ (by omega),fun z _ hz=>oth z fun e=>hz b _ hb' hbS (e▸hy)⟩
       ·intro b' ds' h1 h2
        exact(hsub' b' ds' y h2 h1).2 (hH.inj b' b ds' _ y (hsub' b' ds' y h2 h1).1 hb' h2 hy)
       ·intro b' ds' q h1 h2
        refine oth q fun e=>?_
        rw[e]at h2
        exact(hsub' b' ds' y h2 h1).2 (hH.inj b' b ds' _ y (hsub' b' ds' y h2 h1).1 hb' h2 hy)
       ·rw[hvsz,← hallL.1,hallen];omega
       ·intro j d hj
        obtain⟨u,hu',hr'⟩:=hallL.2 j d hj
        refine⟨u,?_,RD.kp k3 hr'⟩
        have hjl:=(aTU.1 hu').1
        rw[List.getElem?_toArray,aUs hjl]
        exact hu'
       ·exact⟨y,cap,gN,rfl,hroom,_,_,_,hblk,by rw[hvsz];exact hfit⟩
      ·have holds:∀(j:Nat) v,(cur.toList.take (n*i.size))[j]?=Z v→w.cell? ((⟨y,0,U⟩:Addr).add j)=Z v:=by
        intro j v hj
        rw[List.getElem?_take]at hj
        split at hj
        ·rw[dt];simpa [World.cell?,hw]using hj
        ·cases hj
       have hr:=run_append_grow (P:=P) w t ty e i z hu hi hz ⟨y,0,U⟩ n cap (cur.toList.take (n*i.size)) hollen holds ⟨xb,xo,U⟩ m c news hnl hnc (by omega) (by omega) (growslice_fits (by omega) (by omega))
       have hg:=v9 hH hlen hsub hN (e:=e) hte (z:=z.cells) hallL hallen hzs (grownCap_ge w (n+m) cap e)
       have e3:(cur.toList.take (n*i.size)++news).toArray=(cur.toList.take (n*i.size)).toArray++news.toArray:=by simp
       rw[e3]at hg
       exact⟨_,_,hr,hg⟩
     ·cases h
    ·cases h
   ·cases h
  ·cases h
 ·cases h
def nR (sz:Nat)(H:Hp)(S:List Nat)(d x:T):Option (T × Hp):=
 match d with
 |.t (.one (.lsl b o n s))=>
  match H[b]?,ch H sz x with
  |some (Z (.cells es)),Z (m,cs)=>
   if s=sz∧o+n*s≤es.length∧b∉S then Z (qE (min m n),H.set b (Z (.cells (bF es o (cs.take (min m n*sz)))))) else U
  |_,_=>U
 |.t (.one d)=>(match ar d,ch H sz x with|some (0,_),Z (_,_)=>Z (qE 0,H)|_,_=>U)
 |_=>U
def atv (hH:HR k Bt F0 N φ w H S)(hN:N≤w.heap.size){t t' ty e:TypeId}{sz:Nat}(hu:P.underlying t=Z (.slice e))(hsz:fR P e=Z sz){d x y:T}{H':Hp}{ud ux:Value}(h:nR sz H S d x=Z (y,H'))(rd:RT k (Fo F0 φ H S) φ w d ud)(rx:RT k (Fo F0 φ H S) φ w x ux):
  ∃u w',(Builtin.copy_ #[t,t'] ty #[ud,ux]).run P w=.ok u w'∧Post k Bt F0 N φ w H S H' S y u w':=by
 unfold nR at h
 split at h
 ·rename_i b o n s
  split at h
  ·rename_i es m cs hb hrow
   split at h
   ·rename_i hc
    obtain⟨rfl,hle,hbS⟩:=hc
    cases h
    obtain⟨q,cap,hq,rfl,hncap,_⟩:=rd
    obtain⟨A,c,rfl,hel,hA⟩:=wV hH hrow rx
    have hcells:∃us:List Value,RL k (Fo F0 φ H S) φ w us (cs.take (min m n*s))∧(Builtin.firstCells s (min m n) (.slice A m c)).run P w=.ok us.toArray w:=by
     by_cases hm:0<m
     ·obtain⟨xb,xo,rfl,hcc⟩:=hA hm
      obtain⟨l,hl,hlc⟩:=akY hcc
      refine⟨l.take (min m n*s),⟨by rw[aUo,aUo,hl.1],fun j d hj=>?_⟩,?_⟩
      ·rw[List.getElem?_take]at hj ⊢
       split at hj
       ·rename_i hlt;rw[if_pos hlt];exact hl.2 j d hj
       ·cases hj
      ·refine run_firstCells_some (P:=P) w s (min m n) ⟨xb,xo,U⟩ m c _ ?_ (fun j v hj=>?_)
       ·rw[aUo,hl.1,hel]
        exact Nat.min_eq_left (Nat.mul_le_mul_right _ (Nat.min_le_left _ _))
       ·rw[List.getElem?_take]at hj
        split at hj
        ·exact hlc j v hj
        ·cases hj
     ·obtain rfl:m=0:=by omega
      refine⟨[],⟨by simp,fun j d hj=>by simp at hj⟩,?_⟩
      cases A<;>simp[Builtin.firstCells,loadCells,loadCellsFrom]
    obtain⟨us,hus,hrun⟩:=hcells
    have hlen:(cs.take (min m n*s)).length≤n*s:=by
     rw[aUo]
     exact aUd (Nat.min_le_left _ _) (Nat.mul_le_mul_right _ (Nat.min_le_right _ _))
    obtain⟨w',h1,h2,h3,h4,h5⟩:=awo (P:=P) hH hN (o:=o) hb hbS hq hus (by omega)
    have hrun':(Builtin.firstCells s (m.min n) (.slice A m c)).run P w=.ok us.toArray w:=hrun
    refine⟨_,w',?_,φ,h2,h3,h4,.v _ rfl,fun _ _=>rfl,h5⟩
    simp[Builtin.copy_,run_underlying hu,Builtin.lenOf,bl hsz,hrun',h1,goInt]
   ·cases h
  ·cases h
 ·rename_i d _
  split at h
  ·rename_i cs0 m cs hd hrow
   cases h
   obtain⟨B,cap,rfl,_,_⟩:=lM hd rd
   obtain⟨A,c,rfl,hel,hA⟩:=wV hH hrow rx
   refine⟨.int .i64 (0:Nat),w,?_,Post.same hH (.v _ rfl)⟩
   cases A<;>cases B<;>simp[Builtin.copy_,run_underlying hu,Builtin.lenOf,bl hsz,Builtin.firstCells,loadCells,loadCellsFrom,storeCells,goInt]
  ·cases h
 ·cases h
def aGt (z:Array Value)(n:Nat):(madeCells z n).toList=cW z.toList n:=by
 unfold madeCells cW
 simp
 intro a _
 rw[getElem!_def]
 cases z[a%z.size]?<;>rfl
def aeB (z:Array Value)(n:Nat):(Builtin.zeroCells z n).toList=cW z.toList (n*z.size):=by
 unfold Builtin.zeroCells cW
 simp
 intro a _
 rw[getElem!_def]
 cases z[a%z.size]?<;>rfl
def qq (z:List Value)(s bytes:Nat)(H:Hp)(d nT:T):Option (T × Hp):=
 match iY nT with
 |some n=>
  if 0<n∧n≤2 ^ 30∧n*bytes≤2 ^ 46 then
   (match ge (cW z (n*s))with
    |some ds=>
     (match d with
     |.t (.one (.c (.v (.slice U 0 0))))=>Z (.t (.one (.lsl H.length 0 n s)),H++[Z (.cells ds)])
     |.t (.one .z0)=>Z (.t (.one (.lsl H.length 0 n s)),H++[Z (.cells ds)])
     |_=>U)
    |none=>U)
  else U
 |none=>U
def att (hH:HR k Bt F0 N φ w H S)(hN:N≤w.heap.size){t tn ty e:TypeId}(hte:e≠Limb.u){z:List Value}{s bytes:Nat}{kn:IntKind}(hu:P.underlying t=Z (.slice e))(htn:P.underlying tn=Z (.int kn))(he:xM P e z s bytes)(hzs:z.length=s)(hs0:0<s){d nT y:T}{H':Hp}{ud un:Value}(h:qq z s bytes H d nT=Z (y,H'))
  (rd:RT k (Fo F0 φ H S) φ w d ud)(rn:RT k (Fo F0 φ H S) φ w nT un):∃u w',(Builtin.append_ #[t,tn] ty #[ud,un]).run P w=.ok u w'∧Post k Bt F0 N φ w H S H' S y u w':=by
 obtain⟨i,zv,hi,hz,rfl,rfl,rfl⟩:=he
 unfold qq at h
 split at h
 ·rename_i n hn
  split at h
  ·rename_i hc
   obtain⟨h1,h2,h3⟩:=hc
   split at h
   ·rename_i ds hd
    obtain⟨kq,rfl⟩:=gf hn rn
    have hsz:zv.cells.size=i.size:=by simpa using hzs
    have key:∀A,∃u w',(Builtin.append_ #[t,tn] ty #[.slice A 0 0,.int kq (n:Int)]).run P w=.ok u w'∧Post k Bt F0 N φ w H S (H++[Z (.cells ds)]) S (.t (.one (.lsl H.length 0 n i.size))) u w':=by
     intro A
     have hr:=Lib.run_append_grow_zeros (P:=P) w t tn ty e i zv kq kn hu htn hi hz A 0 0 [] (by cases A<;>simp[Builtin.firstCells,loadCells,loadCellsFrom]) n h1 hs0 (by omega) (by omega) (by omega) (growslice_fits (by omega) (by rw[aUe];omega))
     have hrl:RL k (Fo F0 φ H S) φ w (Builtin.zeroCells zv.cells n).toList ds:=by rw[aeB,hsz];exact rp hd
     have hg:=v9 hH (H1:=H) rfl (fun _ _ h=>h) hN (e:=e) hte (z:=zv.cells) (cap:=grownCap w (0+n) 0 e) (m:=n) (s:=i.size) hrl (by rw[aeB,hsz];simp[cW]) hsz (by have:=grownCap_ge w (0+n) 0 e;omega)
     simp only[aUe]at hr hg
     refine⟨_,_,hr,?_⟩
     have e0:(([]:List Value).toArray++Builtin.zeroCells zv.cells n)=(Builtin.zeroCells zv.cells n).toList.toArray:=by simp
     rw[e0]
     exact hg
    split at h
    ·cases h
     have rd':RC k (Fo F0 φ H S) w (.v (.slice U 0 0)) ud:=rd
     cases rd'
     exact key U
    ·cases h
     obtain⟨A,rfl⟩:=rd
     exact key A
    ·cases h
   ·cases h
  ·cases h
 ·cases h
end
section
variable {P:Program} {k:Cls} {Bt:aP} {F0:Nat→Prop} {N:Nat} {φ:Nat→Option Nat} {w w':World} {H:Hp} {S:List Nat}
def wW {r:Nat}{es:Array MapEntry}{clk:Nat}(h:w.heap[r]?=Z (.map es clk)):(getObj r).run P w=.ok (.map es clk) w:=by
 simp[getObj,Sem.run,h]
def aA7 {r:Nat}{es:Array MapEntry}{clk:Nat}(h:w.heap[r]?=Z (.map es clk))(o:Obj):(setObj r o).run P w=.ok () (w.putObj r o):=by
 simp[setObj,Sem.run,h,World.putObj]
def acW (P:Program)(t:TypeId)(zs:List D):Prop:=
 ∃kt et e,P.underlying t=Z (.map kt et)∧P.underlying kt=Z (.array 4 e)∧P.underlying e=Z (.int .i64)∧fR P e=Z 1∧
  ∃(i:TypeInfo) (z:Value),P.info? et=Z i∧i.zero=Z z∧(∃a,z=.agg a)∧ge z.cells.toList=Z zs
def ep (l:List Int):Value:=.agg (l.map (Value.int .i64)).toArray
def acA (D:Nat)(b:Bool){t e:TypeId}(ht:P.underlying t=Z (.array 4 e))(he:P.underlying e=Z (.int .i64))(hs:fR P e=Z 1){a:List Int}(ha:a.length=4)
  (hq:∀x,(Instr.checkKey b D e (.int .i64 x)).run P w=.ok () w):(Instr.checkKey b (D+1) t (ep a)).run P w=.ok () w:=by
 match a,ha with
 |[a0,a1,a2,a3],_=>
  have hp:∀(x y z u:Int) (j:Nat) (v:Int),[x,y,z,u][j]?=Z v→(part e #[.int .i64 x,.int .i64 y,.int .i64 z,.int .i64 u] j).run P w=.ok (.int .i64 v) w:=by
   intro x y z u j v h
   refine akt hs he ?_
   have:(List.map (Value.int .i64) [x,y,z,u]).toArray[j]?=Z (.int .i64 v):=by rw[List.getElem?_toArray,aUm,h];rfl
   exact this
  have p0:=fun x y z u=>hp x y z u 0 x rfl
  have p1:=fun x y z u=>hp x y z u 1 y rfl
  have p2:=fun x y z u=>hp x y z u 2 z rfl
  have p3:=fun x y z u=>hp x y z u 3 u rfl
  have hr:List.range' 0 4=[0,1,2,3]:=rfl
  unfold ep
  simp only[List.map_cons,List.map_nil]
  simp only[Instr.checkKey,Sem.run_bind,run_underlying ht,Result.andThen_ok]
  rw[Std.Legacy.Range.forIn_eq_forIn_range']
  simp[Std.Legacy.Range.size,hr,bl hs,p0,p1,p2,p3,hq]
def zY (b:Bool){t e:TypeId}(ht:P.underlying t=Z (.array 4 e))(he:P.underlying e=Z (.int .i64))(hs:fR P e=Z 1){a:List Int}(ha:a.length=4):
  (Instr.checkKey b 10000 t (ep a)).run P w=.ok () w:=
 acA 9999 b ht he hs ha fun x=>by
  show(Instr.checkKey b (9998+1) e (.int .i64 x)).run P w=.ok () w
  generalize 9998=d
  simp[Instr.checkKey,run_underlying he]
def iR (key:List Int):List (List Int)→Nat→Option Nat
 |[],_=>U
 |x::r,i=>if x==key then Z i else iR key r (i+1)
def vA {t e:TypeId}(ht:P.underlying t=Z (.array 4 e))(he:P.underlying e=Z (.int .i64))(hs:fR P e=Z 1){key:List Int}(hk:key.length=4):
  ∀(es:List MapEntry) (ks:List (List Int)) (i:Nat),es.length=ks.length→(∀(j:Nat) x,ks[j]?=Z x→x.length=4∧∃en,es[j]?=Z en∧en.key=ep x)→
   (Instr.findAsking t (ep key) es i).run P w=.ok (match iR key ks i with|some j=>(es[j-i]?).map fun en=>(j,en.val)|none=>U) w∧∀j,iR key ks i=Z j→i≤j∧ks[j-i]?=Z key:=by
 intro es
 induction es with
 |nil=>
  intro ks i hl _
  cases ks with
  |nil=>exact⟨rfl,fun j h=>by simp[iR]at h⟩
  |cons=>simp at hl
 |cons en es ih=>
  intro ks i hl h
  cases ks with
  |nil=>simp at hl
  |cons x ks=>
   obtain⟨hx,en',hen,hkey⟩:=h 0 x rfl
   simp at hen;subst hen
   have heq:=af8 (P:=P) (w:=w) ht he hs hk hx
   obtain⟨i1,i2⟩:=ih ks (i+1) (by simpa using hl) (fun j y hj=>by simpa using h (j+1) y (by simpa using hj))
   have hxk:(key==x)=(x==key):=by rw[aUp,beq_iff_eq,beq_iff_eq];exact eq_comm
   by_cases hc:(x==key)=ab
   ·have hf:iR key (x::ks) i=Z i:=by simp[iR,hc]
    constructor
    ·rw[hf]
     simp only[Nat.sub_self,List.getElem?_cons_zero,Option.map_some]
     unfold Instr.findAsking
     rw[hkey]
     have:(Op.equal t (ep key) (ep x)).run P w=.ok ab w:=by
      have h2:=heq;rw[hxk,hc]at h2;exact h2
     simp[this]
    ·intro j hj
     rw[hf]at hj;cases hj
     exact⟨aTS _,by rw[Nat.sub_self];simp;simpa using hc⟩
   ·have hf:iR key (x::ks) i=iR key ks (i+1):=by simp[iR,hc]
    have h3:(Instr.findAsking t (ep key) (en::es) i).run P w=(Instr.findAsking t (ep key) es (i+1)).run P w:=by
     conv=>lhs;unfold Instr.findAsking
     rw[hkey]
     have:(Op.equal t (ep key) (ep x)).run P w=.ok aa w:=by
      have h2:=heq;rw[hxk]at h2
      have hc':(x==key)=aa:=by simpa using hc
      rw[hc']at h2;exact h2
     simp[this]
    constructor
    ·rw[h3,i1,hf]
     cases hq:iR key ks (i+1)with
     |none=>rfl
     |some j=>
      have:=(i2 j hq).1
      simp only
      have e1:j-i=(j-(i+1))+1:=by omega
      rw[e1,List.getElem?_cons_succ]
    ·intro j hj
     rw[hf]at hj
     obtain⟨a1,a2⟩:=i2 j hj
     have e1:j-i=(j-(i+1))+1:=by omega
     exact⟨by omega,by rw[e1,List.getElem?_cons_succ];exact a2⟩
def abF {t e:TypeId}(ht:P.underlying t=Z (.array 4 e))(he:P.underlying e=Z (.int .i64))(hs:fR P e=Z 1){key:List Int}(hk:key.length=4){es:List MapEntry}{ks:List (List Int)}(hl:es.length=ks.length)
  (h:∀(j:Nat) x,ks[j]?=Z x→x.length=4∧∃en,es[j]?=Z en∧en.key=ep x):
  (Instr.findKey t (ep key) es).run P w=.ok (match iR key ks 0 with|some j=>(es[j]?).map fun en=>(j,en.val)|none=>U) w:=by
 have h1:=(vA (P:=P) (w:=w) ht he hs hk es ks 0 hl h).1
 unfold Instr.findKey
 simp only[Sem.run_bind,run_underlying ht,Result.andThen_ok]
 cases es with
 |nil=>
  cases ks with
  |nil=>rfl
  |cons=>simp at hl
 |cons en es=>
  have:Instr.findNow (.array 4 e) (ep key) (en::es) 0=U:=by
   simp[Instr.findNow,Instr.sameNow]
  rw[this]
  simpa using h1
def ajs (x:T):Option (List Int):=match kJ x with|some (.agg a)=>kB a.toList|_=>U
def amW {F:Nat→Prop}{x:T}{l:List Int}{u:Value}(h:ajs x=Z l)(r:RT k F φ w x u):u=ep l:=by
 unfold ajs at h
 split at h
 ·rename_i a ha
  rw[cF ha r]
  show Value.agg a=Value.agg _
  rw[← lB h]
 ·cases h
def eK (zs:List D)(H:Hp)(m key:T):Option T:=
 match m,ajs key with
 |.t (.one (.mp b)),Z l=>
  if l.length=4 then
   match H[b]? with
   |some (Z (.mp es))=>
    (match iR l (es.map (·.1)) 0 with
     |some j=>(es[j]?).map fun p=>.tup [.agg p.2,.one (.c (.v (.bool ab)))]
     |none=>Z (.tup [.agg zs,.one (.c (.v (.bool aa)))]))
   |_=>U
  else U
 |_,_=>U
def amX {es:List (List Int × List D)}{ens:Array MapEntry}{F:Nat→Prop}(hs:ens.size=es.length)(h3:∀(j:Nat) key ds,es[j]?=Z (key,ds)→∃e,ens[j]?=Z e∧e.key=.agg (key.map (Value.int .i64)).toArray∧key.length=4∧RT1 k F φ w (.agg ds) e.val):
  ens.toList.length=(es.map (·.1)).length∧∀(j:Nat) x,(es.map (·.1))[j]?=Z x→x.length=4∧∃en,ens.toList[j]?=Z en∧en.key=ep x:=by
 refine⟨by simpa using hs,fun j x hj=>?_⟩
 rw[aUm,aUa]at hj
 obtain⟨⟨key,ds⟩,hp,rfl⟩:=hj
 obtain⟨e,he,hk,h4,_⟩:=h3 j key ds hp
 exact⟨h4,e,by simpa using he,hk⟩
def alU (hH:HR k Bt F0 N φ w H S){t:TypeId}{zs:List D}(ht:acW P t zs){m key y:T}{um uk:Value}(h:eK zs H m key=Z y)(rm:RT k (Fo F0 φ H S) φ w m um)(rk:RT k (Fo F0 φ H S) φ w key uk):
  ∃u,(Instr.lookup t um uk ab).run P w=.ok u w∧RT k (Fo F0 φ H S) φ w y u:=by
 obtain⟨kt,et,e,hu,hkt,he,hes,i,z,hi,hz,⟨za,rfl⟩,hzs⟩:=ht
 unfold eK at h
 split at h
 ·rename_i b l hl
  obtain rfl:=amW hl rk
  split at h
  ·rename_i h4
   split at h
   ·rename_i es hb
    obtain⟨x,hx,rfl⟩:=rm
    obtain⟨_,ens,clk,hw,hsz,_,_,h3⟩:=hH.at_ b _ x hb hx
    obtain⟨q1,q2⟩:=amX hsz h3
    have hck:=fun b=>zY (P:=P) (w:=w) b hkt he hes h4
    have hfk:=abF (P:=P) (w:=w) hkt he hes h4 q1 q2
    have hzv:(zeroValue et).run P w=.ok (.agg za) w:=by simp[zeroValue,typeInfo,hi,hz]
    split at h
    ·rename_i j hj
     simp only[aUa]at h
     obtain⟨⟨key',ds⟩,hp,rfl⟩:=h
     obtain⟨en,hen,_,_,hv⟩:=h3 j key' ds hp
     have hen':ens.toList[j]?=Z en:=by simpa using hen
     rw[hj]at hfk
     simp only[hen',Option.map_some]at hfk
     refine⟨.tuple #[en.val,.bool ab],?_,#[en.val,.bool ab],rfl,rfl,fun j d hd=>?_⟩
     ·simp[Instr.lookup,run_underlying hu,wW hw,hck,hfk]
     ·match j,hd with
      |0,hd=>simp at hd;subst hd;exact⟨_,rfl,hv⟩
      |1,hd=>simp at hd;subst hd;exact⟨_,rfl,RC.v _ rfl⟩
    ·rename_i hj
     cases h
     rw[hj]at hfk
     refine⟨.tuple #[.agg za,.bool aa],?_,#[.agg za,.bool aa],rfl,rfl,fun j d hd=>?_⟩
     ·simp[Instr.lookup,run_underlying hu,wW hw,hck,hfk,hzv]
     ·have hzr:=rp (k:=k) (F:=Fo F0 φ H S) (φ:=φ) (w:=w) hzs
      match j,hd with
      |0,hd=>simp at hd;subst hd;exact⟨_,rfl,za,rfl,by simpa [Value.cells]using hzr.1,fun j d hj=>by simpa [Value.cells]using hzr.2 j d hj⟩
      |1,hd=>simp at hd;subst hd;exact⟨_,rfl,RC.v _ rfl⟩
   ·cases h
  ·cases h
 ·cases h
def gu (H:Hp)(S:List Nat)(m key x:T):Option Hp:=
 match m,ajs key,x with
 |.t (.one (.mp b)),Z l,.t (.agg ds)=>
  if l.length=4 then
   match H[b]? with
   |some (Z (.mp es))=>
    if b∈S then U else
    (match iR l (es.map (·.1)) 0 with
     |some j=>Z (H.set b (Z (.mp (es.set j (l,ds)))))
     |none=>Z (H.set b (Z (.mp (es++[(l,ds)])))))
   |_=>U
  else U
 |_,_,_=>U
def ahs (l:List Int)(n:Nat):Instr.sameBits (n+1) (ep l) (ep l)=ab:=by
 have h:∀(q:List Int),((q.map (Value.int .i64)).zip (q.map (Value.int .i64))).all (fun(x,y)=>Instr.sameBits n x y)=ab:=by
  intro q
  induction q with
  |nil=>rfl
  |cons a q ih=>
   simp only[List.map_cons,List.zip_cons_cons,List.all_cons,ih,Bool.and_true]
   cases n<;>simp[Instr.sameBits]
 simp[ep,Instr.sameBits]
 intro a b hab
 have:=List.all_eq_true.1 (h l) (a,b) hab
 simpa using this
def alV (hH:HR k Bt F0 N φ w H S)(hN:N≤w.heap.size){t:TypeId}{zs:List D}(ht:acW P t zs){m key x:T}{H':Hp}{um uk ux:Value}(h:gu H S m key x=Z H')(rm:RT k (Fo F0 φ H S) φ w m um)(rk:RT k (Fo F0 φ H S) φ w key uk)(rx:RT k (Fo F0 φ H S) φ w x ux):
  ∃w',(Instr.mapUpdate t um uk ux).run P w=.ok () w'∧Bel N w w'∧HR k Bt F0 N φ w' H' S∧Kp (Fo F0 φ H S) φ w (Fo F0 φ H' S) φ w'∧Old φ H S w w':=by
 obtain⟨kt,et,e,hu,hkt,he,hes,i,z,hi,hz,⟨za,rfl⟩,hzs⟩:=ht
 unfold gu at h
 split at h
 ·rename_i b l ds hl
  obtain rfl:=amW hl rk
  split at h
  ·rename_i h4
   split at h
   ·rename_i es hb
    split at h
    ·cases h
    rename_i hbS
    obtain⟨x,hx,rfl⟩:=rm
    obtain⟨hNx,ens,clk,hw,hsz,hborn,hinj,h3⟩:=hH.at_ b _ x hb hx
    obtain⟨q1,q2⟩:=amX hsz h3
    have hck:=fun b=>zY (P:=P) (w:=w) b hkt he hes h4
    have hfk:=abF (P:=P) (w:=w) hkt he hes h4 q1 q2
    have hkts:(Instr.keyThatStays (ep l) (ep l)).run P w=.ok (ep l) w:=by
     simp[Instr.keyThatStays,ahs l 9999]
    have hpo:∀o:Obj,(setObj x o).run P w=.ok () (w.putObj x o):=fun o=>aA7 hw o
    have hlt:=dn hw
    have hbel:∀o:Obj,Bel N w (w.putObj x o):=fun o=>⟨rfl,rfl,rfl,by simp,fun q hq=>World.putObj_heap_other (by omega),aTS _⟩
    have hturn:∀(ens':Array MapEntry) (clk':Nat) (es':List (List Int × List D)),(∀F ψ,Kp (Fo F0 φ H S) φ w F ψ (w.putObj x (.map ens' clk'))→ens'.size=es'.length∧clk'=ens'.size∧(∀(j:Nat) e,ens'[j]?=Z e→e.born=j)∧
      ∀(j:Nat) key ds,es'[j]?=Z (key,ds)→∃e,ens'[j]?=Z e∧e.key=.agg (key.map (Value.int .i64)).toArray∧key.length=4∧RT1 k F ψ (w.putObj x (.map ens' clk')) (.agg ds) e.val)→
      HR k Bt F0 N φ (w.putObj x (.map ens' clk')) (H.set b (Z (.mp es'))) S∧Kp (Fo F0 φ H S) φ w (Fo F0 φ (H.set b (Z (.mp es'))) S) φ (w.putObj x (.map ens' clk')):=by
     intro ens' clk' es' hq
     refine hH.turn hb hbS hx (by simp) (fun z hz=>World.putObj_heap_other hz) (fun vs t fr hc=>by rw[hw]at hc;cases hc) (fun q=>?_)
     exact⟨ens',clk',World.putObj_heap_same hlt,hq _ _ q⟩
    split at h
    ·rename_i j hj
     cases h
     rw[hj]at hfk
     have hfj:=(vA (P:=P) (w:=w) hkt he hes h4 ens.toList (es.map (·.1)) 0 q1 q2).2 j hj
     simp only[Nat.sub_zero]at hfj
     obtain⟨_,en,hen,hkey⟩:=q2 j l hfj.2
     have hen':ens[j]?=Z en:=by simpa using hen
     simp only[hen,Option.map_some]at hfk
     obtain⟨g1,g2⟩:=hturn (ens.modify j fun e=>{ e with key:=ep l,val:=ux }) clk (es.set j (l,ds)) (fun F ψ q=>by
      refine⟨by simpa using hsz,by simpa using hborn,fun i1 e1 h1=>?_,fun j' key' ds' hj'=>?_⟩
      ·rw[Array.getElem?_modify]at h1
       split at h1
       ·simp only[aUa]at h1
        obtain⟨e0,h0,rfl⟩:=h1
        exact hinj i1 e0 h0
       ·exact hinj i1 e1 h1
      ·rw[List.getElem?_set]at hj'
       split at hj'
       ·rename_i hjj
        subst hjj
        split at hj'
        ·cases hj'
         refine⟨{ en with key:=ep l,val:=ux },?_,rfl,h4,RT1.kp q rx⟩
         rw[Array.getElem?_modify,if_pos rfl,hen'];rfl
        ·cases hj'
       ·rename_i hjj
        obtain⟨e0,h0,hk0,hl0,hv0⟩:=h3 j' key' ds' hj'
        exact⟨e0,by rw[Array.getElem?_modify,if_neg hjj];exact h0,hk0,hl0,RT1.kp q hv0⟩)
     refine⟨_,?_,hbel _,g1,g2,fun z _ hz=>World.putObj_heap_other fun e=>hz b _ hb hbS (e▸hx)⟩
     have hkey2:((ens[j]?).map (·.key)).getD (ep l)=ep l:=by rw[hen'];exact hkey
     simp[Instr.mapUpdate,run_underlying hu,wW hw,hck,hfk,hkey2,hkts,hpo]
    ·rename_i hj
     cases h
     rw[hj]at hfk
     obtain⟨g1,g2⟩:=hturn (ens.push { key:=ep l,val:=ux,born:=clk }) (clk+1) (es++[(l,ds)]) (fun F ψ q=>by
      refine⟨by simpa using hsz,by simp[hborn],fun i1 e1 h1=>?_,fun j' key' ds' hj'=>?_⟩
      ·rw[Array.getElem?_push]at h1
       split at h1
       ·rename_i he
        cases h1
        show clk=i1
        rw[he];exact hborn
       ·exact hinj i1 e1 h1
      ·rw[getElem?_push]at hj'
       rcases hj' with hj'|⟨rfl,hp⟩
       ·obtain⟨e0,h0,hk0,hl0,hv0⟩:=h3 j' key' ds' hj'
        refine⟨e0,?_,hk0,hl0,RT1.kp q hv0⟩
        have:=(Array.getElem?_eq_some_iff.1 h0).1
        rw[Array.getElem?_push,if_neg (by omega)];exact h0
       ·cases hp
        exact⟨{ key:=ep l,val:=ux,born:=clk },by rw[← hsz];simp,rfl,h4,RT1.kp q rx⟩)
     refine⟨_,?_,hbel _,g1,g2,fun z _ hz=>World.putObj_heap_other fun e=>hz b _ hb hbS (e▸hx)⟩
     simp[Instr.mapUpdate,run_underlying hu,wW hw,hck,hfk,hpo]
   ·cases h
  ·cases h
 ·cases h
end
inductive Od where
 |x (d:Nat)
 |f (p:Nat)
 |k (t:T)
 |z
 deriving Inhabited
def ce:List T→Nat→T
 |[],_=>.nil
 |t::_,0=>t
 |_::r,n+1=>ce r n
def akl:∀(l:List T) (n:Nat),ce l n=l.getD n .nil
 |[],n=>by simp[ce]
 |t::r,0=>by simp[ce]
 |t::r,n+1=>by simp[ce,akl r n]
def bD (ys τ:List T):Od→T
 |.x d=>ce ys d
 |.f p=>ce τ p
 |.k t=>t
 |.z=>.nil
inductive COp where
 |mv (x:Od)
 |pick (c a b:Od)
 |ld (agg:Bool) (n:Nat) (x:Od)
 |off (n:Nat) (x:Od)
 |part (agg:Bool) (n o:Nat) (x:Od)
 |ixS (s:Nat) (x i:Od)
 |ixR (len s:Nat) (x i:Od)
 |at_ (agg:Bool) (n len:Nat) (x i:Od)
 |ext (i:Nat) (x:Od)
 |nilc (x:Od)
 |bld (zs:List D) (pl:List (Nat × Nat)) (is:List Nat) (xs:List Od)
 |bsl (z:List Value) (s len:Nat) (is:List Nat) (xs:List Od)
 |slc (s:Nat) (x:Od) (lo hi:Option Od)
 |slcR (n s:Nat) (x:Od)
 |slc3 (s:Nat) (x:Od) (lo:Option Od) (hi mx:Od)
 |len (x:Od)
 |pk (p:PK) (xs:List Od)
 |mkf (f:FuncId) (xs:List Od)
 |lku (zs:List D) (m key:Od)
 |new (ds:List D)
 |box (x:Od)
 |mk (z:List Value) (s bytes:Nat) (l c:Od)
 |mkm
 |app (s bytes:Nat) (d x:Od)
 |cpy (s:Nat) (d x:Od)
 |sto (n:Nat) (a x:Od)
 |mset (m key x:Od)
 |call (g:Od) (xs:List Od)
 |bad
 |cap (x:Od)
 |appz (z:List Value) (s bytes:Nat) (d n:Od)
 |nilS (neg:Bool) (x z:Od)
 |rng (x:Od)
 |ent (x:Od)
 |lenM (x:Od)
 |ixc (x i:Od)
 |bsb (z:List Value) (s len:Nat) (is:List Nat) (xs:List Od)
 deriving Inhabited
inductive Kd where
 |r|a|o
 deriving DecidableEq,Inhabited
def kd:COp→Kd
 |.new _|.box _|.mk ..|.mkm|.bsb ..=>.a
 |.app ..|.cpy ..|.sto ..|.mset ..|.call ..|.appz ..|.rng _|.ent _|.lenM _=>.o
 |_=>.r
def Rl (R:Od→Operand→Prop)(cs:List Od)(xs:List Operand):Prop:=xs.length=cs.length∧∀(j:Nat) c,cs[j]?=Z c→∃x,xs[j]?=Z x∧R c x
def Ro (R:Od→Operand→Prop):Option Od→Option Operand→Prop
 |some c,Z x=>R c x
 |none,U=>True
 |_,_=>False
def mM (P:Program)(R:Od→Operand→Prop)(o:Oper):COp→Prop
 |.mv a=>∃x,(o.op=.move x∨o.op=.assign x)∧R a x
 |.pick c a b=>∃c' a' b',o.op=.pick c' a' b'∧R c c'∧R a a'∧R b b'
 |.ld ag n a=>∃t x,o.op=.load t x∧R a x∧vE P t ag n
 |.off n a=>∃s x f fs fd m,o.op=.fieldAddr s x f∧R a x∧P.underlying s=Z (.struct fs)∧fs[f]?=Z fd∧fd.offset=n∧fR P fd.type=Z (m+1)
 |.part ag n p a=>∃s x f fs fd,o.op=.field s x f∧R a x∧P.underlying s=Z (.struct fs)∧fs[f]?=Z fd∧fd.offset=p∧vE P fd.type ag n
 |.ixS s a i=>∃t e x ix,o.op=.indexAddr t x ix∧R a x∧R i ix∧P.underlying t=Z (.slice e)∧fR P e=Z s
 |.ixR len s a i=>∃t e x ix,o.op=.indexAddr t x ix∧R a x∧R i ix∧P.underlying t=Z (.array len e)∧fR P e=Z s
 |.at_ ag n len a i=>∃t e x ix,o.op=.index t x ix∧R a x∧R i ix∧P.underlying t=Z (.array len e)∧vE P e ag n
 |.ext i a=>∃x,o.op=.extract x i∧R a x
 |.nilc a=>∃x,o.op=.nilCheck x∧R a x
 |.bld zs pl is cs=>∃t ps,o.op=.build t ps∧aoz P t zs pl∧ps.toList.map (·.1)=is∧Rl R cs (ps.toList.map (·.2))
 |.bsl z s len is cs=>∃t e bytes ps,o.op=.buildSlice t len ps∧P.underlying t=Z (.slice e)∧xM P e z s bytes∧ps.toList.map (·.1)=is∧Rl R cs (ps.toList.map (·.2))
 |.slc s a lo hi=>∃t e x l h,o.op=.slice t x l h U∧R a x∧Ro R lo l∧Ro R hi h∧P.underlying t=Z (.slice e)∧fR P e=Z s
 |.slcR n s a=>∃t e x,o.op=.slice t x U U U∧R a x∧P.underlying t=Z (.array n e)∧fR P e=Z s
 |.slc3 s a lo hi mx=>∃t e x l h m,o.op=.slice t x l (Z h) (Z m)∧R a x∧Ro R lo l∧R hi h∧R mx m∧P.underlying t=Z (.slice e)∧fR P e=Z s
 |.len a=>∃c x t e,o.op=.call c∧c.callee=.builtin .len∧c.args=#[x]∧c.argTypes=#[t]∧R a x∧P.underlying t=Z (.slice e)
 |.pk p cs=>∃l,ait P p o.op l∧Rl R cs l
 |.mkf f cs=>∃cap,o.op=.makeFunc (.func f) #[] cap∧Rl R cs cap.toList
 |.lku zs m key=>∃t xm xk,o.op=.lookup t xm xk ab∧R m xm∧R key xk∧acW P t zs
 |.new ds=>∃e i z,o.op=.alloc e∧P.info? e=Z i∧i.zero=Z z∧ge z.cells.toList=Z ds∧e≠Limb.u
 |.box a=>∃e x,o.op=.box e x∧R a x∧e≠Limb.u
 |.mk z s bytes l c=>∃t e xl xc,o.op=.makeSlice t xl xc∧R l xl∧R c xc∧P.underlying t=Z (.slice e)∧xM P e z s bytes∧e≠Limb.u
 |.mkm=>∃t,o.op=.makeMap t U
 |.app s bytes d a=>∃c xd xs t e,o.op=.call c∧c.callee=.builtin .append∧c.args=#[xd,xs]∧c.argTypes=#[t,t]∧R d xd∧R a xs∧P.underlying t=Z (.slice e)∧aIf P e s bytes
 |.appz z s bytes d n=>∃c xd xn t tn e kn,o.op=.call c∧c.callee=.builtin .append∧c.args=#[xd,xn]∧c.argTypes=#[t,tn]∧R d xd∧R n xn∧P.underlying t=Z (.slice e)∧P.underlying tn=Z (.int kn)∧xM P e z s bytes∧z.length=s∧0<s∧e≠Limb.u
 |.cpy s d a=>∃c xd xs t t' e,o.op=.call c∧c.callee=.builtin .copy∧c.args=#[xd,xs]∧c.argTypes=#[t,t']∧R d xd∧R a xs∧P.underlying t=Z (.slice e)∧fR P e=Z s
 |.sto n a y=>∃t xa xx,o.op=.store t xa xx∧R a xa∧R y xx∧fR P t=Z n
 |.mset m key y=>∃t zs xm xk xx,(o.op=.mapUpdate t xm xk xx∨o.op=.insert t xm xk xx)∧R m xm∧R key xk∧R y xx∧acW P t zs
 |.call g cs=>∃c f,o.op=.call c∧c.callee=.value f∧R g f∧Rl R cs c.args.toList
 |.bad=>True
 |.cap a=>∃c x t e,o.op=.call c∧c.callee=.builtin .cap∧c.args=#[x]∧c.argTypes=#[t]∧R a x∧P.underlying t=Z (.slice e)
 |.nilS neg a b=>∃t e x z t',o.op=.binOp (if neg then .neq else .eql) t x z t'∧R a x∧R b z∧P.underlying t=Z (.slice e)
 |.rng a=>∃t x kt et,o.op=.range t x∧R a x∧P.underlying t=Z (.map kt et)
 |.ent a=>∃x,o.op=.entry x∧R a x
 |.lenM a=>∃c x t kt et,o.op=.call c∧c.callee=.builtin .len∧c.args=#[x]∧c.argTypes=#[t]∧R a x∧P.underlying t=Z (.map kt et)
 |.ixc a i=>∃t x ix,o.op=.index t x ix∧R a x∧R i ix∧P.underlying t=Z .string
 |.bsb z s len is cs=>∃t e bytes ps,o.op=.buildSlice t len ps∧P.underlying t=Z (.slice e)∧xM P e z s bytes∧ps.toList.map (·.1)=is∧Rl R cs (ps.toList.map (·.2))∧e≠Limb.u
def qr (c a b:T):Option T:=
 match c with
 |.t (.one (.c (.v (.bool ab))))=>Z a
 |.t (.one (.c (.v (.bool aa))))=>Z b
 |_=>U
def se (x:T):Option T:=
 match x with
 |.t (.one (.ptr _ _))=>Z x
 |.t (.one (.fp _))=>Z x
 |.t (.one (.fn _ _))=>Z x
 |.t (.one (.yld _))=>Z x
 |.t (.one (.c (.v (.func (.func _) _ _))))=>Z x
 |_=>U
def zy:List T→Option (List (Nat × Nat))
 |[]=>Z []
 |.t (.one (.ptr b o))::r=>(zy r).map ((b,o)::·)
 |_=>U
def aaw (f:FuncId)(xs:List T):Option T:=(zy xs).map fun ps=>.t (.one (.fn f ps))
def iu:T→Option Nat
 |.t (.one (.ptr b _))=>Z b
 |.t (.one (.mp b))=>Z b
 |_=>U
def qQ (σ:Od→T):Option Od→Option T
 |some c=>Z (σ c)
 |none=>U
def km:List Nat→List T→List (Nat × T)
 |i::r,t::s=>(i,t)::km r s
 |_,_=>[]
def wi (n:Option Nat):Option T→Option (T × Option Nat)
 |some y=>Z (y,n)
 |none=>U
def adi (x i:T):Option T:=
 match x,iY i with
 |.t (.one (.c (.v (.string s)))),Z n=>(match s.data.toList[n]? with|some b=>Z (.t (.one (.c (.v (.int .u8 (af b.toNat))))))|none=>U)
 |_,_=>U
def eY (H:Hp)(σ:Od→T):COp→Option (T × Option Nat)
 |.mv a=>Z (σ a,U)
 |.pick c a b=>wi U (qr (σ c) (σ a) (σ b))
 |.ld ag n a=>wi (iu (σ a)) (lW ag n H (σ a))
 |.off n a=>wi U (aax n (σ a))
 |.part ag n p a=>wi U (uh ag n p (σ a))
 |.ixS s a i=>wi U (ns s (σ a) (σ i))
 |.ixR len s a i=>wi U (vX len s (σ a) (σ i))
 |.at_ ag n len a i=>wi U (aeW ag n len (σ a) (σ i))
 |.ext i a=>wi U (iM (σ a) i)
 |.nilc a=>wi U (se (σ a))
 |.bld zs pl is cs=>wi U (aat zs pl (km is (cs.map σ)))
 |.bsl z s len is cs=>wi U (tZ z s len (km is (cs.map σ)))
 |.slc s a lo hi=>wi U (aay s (σ a) (qQ σ lo) (qQ σ hi))
 |.slcR n s a=>wi (iu (σ a)) (kx n s H (σ a))
 |.slc3 s a lo hi mx=>wi U (ui s (σ a) (qQ σ lo) (σ hi) (σ mx))
 |.len a=>wi U (sd (σ a))
 |.cap a=>wi U (aau (σ a))
 |.nilS neg a b=>if qG (σ b) then wi U (ug neg (σ a)) else U
 |.pk p cs=>wi U (mT p (cs.map σ))
 |.mkf f cs=>wi U (aaw f (cs.map σ))
 |.ixc a i=>wi U (adi (σ a) (σ i))
 |.lku zs m key=>wi (iu (σ m)) (eK zs H (σ m) (σ key))
 |_=>U
def sc (b:Nat)(σ:Od→T):COp→Option (Blk × T)
 |.new ds=>Z (.cells ds,.t (.one (.ptr b 0)))
 |.box a=>match gO (σ a)with|some ds=>Z (.cells ds,.t (.one (.ptr b 0)))|none=>U
 |.mk z s bytes l c=>
  (match iY (σ l),iY (σ c)with
   |some nl,Z nc=>if nl≤nc∧nc≤2 ^ 30∧bytes*nc≤2 ^ 46 then (match ge (cW z (nc*s))with|some ds=>Z (.cells ds,.t (.one (.lsl b 0 nl s)))|none=>U) else U
   |_,_=>U)
 |.mkm=>Z (.mp [],.t (.one (.mp b)))
 |.bsb z s len is cs=>match tO z s len (km is (cs.map σ))with|some ds=>Z (.cells ds,.t (.one (.lsl b 0 len s)))|none=>U
 |_=>U
abbrev av:=T→List T→Hp→List Nat→Option (T × Hp × List Nat × List Nat)
def kV:T→List Nat
 |.t (.one (.ptr b _))=>[b]
 |.t (.one (.mp b))=>[b]
 |.t (.one (.lsl b _ _ _))=>[b]
 |_=>[]
def vY (H:Hp)(x:T):Option (T × Hp):=
 match x with
 |.t (.one (.mp b))=>(match H[b]? with|some (Z (.mp es))=>Z (.t (.one (.ptr H.length 0)),H++[Z (.it b es.length [])])|_=>U)
 |_=>U
def dW:List Nat→Option Nat
 |[]=>U
 |[x]=>Z x
 |_::r=>dW r
def pe (H:Hp)(x:T):Option T:=
 match x with
 |.t (.one (.ptr b 0))=>
  (match H[b]? with
   |some (Z (.it m n ks))=>
    (match dW ks,H[m]? with
    |some j,Z (Z (.mp es))=>if ai n es.length then (match es[j]? with|some (key,ds)=>Z (.tup [.agg (key.map fun z=>.c (.v (.int .i64 z))),.agg ds])|none=>U) else U
    |_,_=>U)
   |_=>U)
 |_=>U
def uf (H:Hp)(x:T):Option T:=
 match x with
 |.t (.one (.mp b))=>(match H[b]? with|some (Z (.mp es))=>Z (qE es.length)|_=>U)
 |_=>U
def fZ (cf:av)(H:Hp)(S:List Nat)(σ:Od→T):COp→Option (T × Hp × List Nat × List Nat)
 |.app s bytes d a=>match bJ s bytes H S (σ d) (σ a)with|some (y,H')=>Z (y,H',S,kV (σ d))|none=>U
 |.appz z s bytes d n=>match qq z s bytes H (σ d) (σ n)with|some (y,H')=>Z (y,H',S,[])|none=>U
 |.cpy s d a=>match nR s H S (σ d) (σ a)with|some (y,H')=>Z (y,H',S,kV (σ d))|none=>U
 |.sto n a y=>match j1 n H S (σ a) (σ y)with|some H'=>Z (.nil,H',S,kV (σ a))|none=>U
 |.mset m key y=>match gu H S (σ m) (σ key) (σ y)with|some H'=>Z (.nil,H',S,kV (σ m))|none=>U
 |.call g cs=>cf (σ g) (cs.map σ) H S
 |.rng a=>match vY H (σ a)with|some (y,H')=>Z (y,H',S,[])|none=>U
 |.ent a=>match pe H (σ a)with|some y=>Z (y,H,S,[])|none=>U
 |.lenM a=>match uf H (σ a)with|some y=>Z (y,H,S,[])|none=>U
 |_=>U
def Fm (H:Hp)(W:List Nat)(H':Hp):Prop:=H.length≤H'.length∧∀c,c<H.length→c∉W→H'[c]?=H[c]?
def Fm.refl (H:Hp)(W:List Nat):Fm H W H:=⟨aTS _,fun _ _ _=>rfl⟩
def Fm.push (H:Hp)(c:Option Blk):Fm H [] (H++[c]):=⟨by simp,fun j hj _=>by rw[aUs hj]⟩
def Fm.imp_w {H H':Hp}{W:List Nat}(h:Fm H [] H'):Fm H W H':=⟨h.1,fun c hc _=>h.2 c hc (by simp)⟩
def Fm.trans {H H' H'':Hp}{W W':List Nat}(h:Fm H W H')(k:Fm H' W' H''):Fm H (W++W') H'':=
 ⟨aUd h.1 k.1,fun c hc hW=>by
  rw[List.mem_append,not_or]at hW
  rw[k.2 c (aUj hc h.1) hW.2,h.2 c hc hW.1]⟩
def Fm.set (H:Hp)(b:Nat)(x:Option Blk):Fm H [b] (H.set b x):=⟨by simp,fun c _ hW=>by
 have:b≠c:=fun e=>hW (by simp[e])
 rw[aUn this]⟩
def mV:T→Option (FuncId × List (Nat × Nat))
 |.t (.one (.fn f ps))=>Z (f,ps)
 |.t (.one (.c (.v (.func (.func f) ⟨[]⟩ ⟨[]⟩))))=>Z (f,[])
 |_=>U
def gF (P:Program)(k:Cls)(Bt:aP)(cf:av):Prop:=
 ∀g as H S y H' S' W,cf g as H S=Z (y,H',S',W)→(∀f ps,mV g=Z (f,ps)→pY P f)∧Fm H W H'∧
  ∀(F0:Nat→Prop) (N:Nat) (φ:Nat→Option Nat) (w:World) (u:Value) (us:List Value),HR k Bt F0 N φ w H S→N≤w.heap.size→RT k (Fo F0 φ H S) φ w g u→us.length=as.length→(∀(j:Nat) a,as[j]?=Z a→∃v,us[j]?=Z v∧RT k (Fo F0 φ H S) φ w a v)→
   jx P (fun v w'=>Post k Bt F0 N φ w H S H' S' y v w') ((do let d ← Deferred.ofValue u us.toArray;invoke d.target d.args:Sem Next).run P w)
section
variable {P:Program} {k:Cls} {Bt:aP} {F0:Nat→Prop} {N:Nat} {φ:Nat→Option Nat} {w:World} {H:Hp} {S:List Nat} {R:Od→Operand→Prop} {σ:Od→T} {ρ:Operand→Value} {o:Oper}
def aO {n m:Option Nat}{x:Option T}{y:T}(h:wi n x=Z (y,m)):x=Z y∧n=m:=by
 cases x with
 |none=>simp[wi]at h
 |some z=>simp[wi]at h;exact⟨by rw[h.1],h.2⟩
def Rl.rt {F:Nat→Prop}{cs:List Od}{xs:List Operand}(h:Rl R cs xs)(hσ:∀od x,R od x→RT k F φ w (σ od) (ρ x)):(xs.map ρ).length=(cs.map σ).length∧∀(j:Nat) t,(cs.map σ)[j]?=Z t→∃u,(xs.map ρ)[j]?=Z u∧RT k F φ w t u:=by
 refine⟨by simp[h.1],fun j t hj=>?_⟩
 rw[aUm,aUa]at hj
 obtain⟨c,hc,rfl⟩:=hj
 obtain⟨x,hx,hr⟩:=h.2 j c hc
 exact⟨ρ x,by rw[aUm,hx];rfl,hσ c x hr⟩
def Ro.rt {F:Nat→Prop}{c:Option Od}{x:Option Operand}(h:Ro R c x)(hσ:∀od x,R od x→RT k F φ w (σ od) (ρ x)):RO k F φ w (qQ σ c) (x.map ρ):=by
 cases c<;>cases x<;>first|exact h.elim|trivial|exact hσ _ _ h
def abg {F:Nat→Prop}:∀{is:List Nat} {ts:List T} {ps:List (Nat × Operand)},ps.map (·.1)=is→(ps.map fun p=>ρ p.2).length=ts.length→(∀(j:Nat) t,ts[j]?=Z t→∃u,(ps.map fun p=>ρ p.2)[j]?=Z u∧RT k F φ w t u)→
  (km is ts).length=(ps.map fun(i,x)=>(i,ρ x)).length∧∀(j:Nat) i t,(km is ts)[j]?=Z (i,t)→∃u,(ps.map fun(i,x)=>(i,ρ x))[j]?=Z (i,u)∧RT k F φ w t u
 |is,ts,[],he,hl,hr=>by
  simp at he;subst he
  simp[km]
 |is,[],p::ps,he,hl,hr=>by simp at hl
 |is,t::ts,p::ps,he,hl,hr=>by
  simp at he;subst he
  obtain⟨h1,h2⟩:=abg (ps:=ps) (ts:=ts) rfl (by simpa using hl) (fun j t hj=>by simpa using hr (j+1) t (by simpa using hj))
  refine⟨by simp[km];simpa using h1,fun j i t' hj=>?_⟩
  cases j with
  |zero=>
   simp[km]at hj
   obtain⟨rfl,rfl⟩:=hj
   obtain⟨u,hu,hq⟩:=hr 0 t rfl
   simp at hu;subst hu
   exact⟨_,rfl,hq⟩
  |succ j=>simpa using h2 j i t' (by simpa [km]using hj)
def aEB {F:Nat→Prop}{pk:PK}{l:List Operand}{ts:List T}{y:T}(hk:ait P pk o.op l)(h:mT pk ts=Z y)(hl:(l.map ρ).length=ts.length)(hr:∀(j:Nat) t,ts[j]?=Z t→∃u,(l.map ρ)[j]?=Z u∧RT k F φ w t u):
  ∃X,(execOp ρ o).run P w=.ok (.value X) w∧RT k F φ w y X:=by
 match ts,h with
 |[],h=>simp[mT]at h
 |[t],h=>
  match l,hl,hk,hr with
  |[x],_,hk,hr=>
   obtain⟨u,hu,hq⟩:=hr 0 t rfl
   simp at hu;subst hu
   obtain⟨X,hX,hr⟩:=aK8 h hq
   exact⟨X,aC4 hk hX,hr⟩
 |[t,s],h=>
  match l,hl,hk,hr with
  |[x,z],_,hk,hr=>
   obtain⟨u,hu,hq⟩:=hr 0 t rfl
   obtain⟨v,hv,hq'⟩:=hr 1 s rfl
   simp at hu hv;subst hu;subst hv
   obtain⟨X,hX,hr⟩:=aK9 h hq hq'
   exact⟨X,aC4 hk hX,hr⟩
 |_::_::_::_,h=>simp[mT]at h
def atA {F:Nat→Prop}{c a b y:T}{uc ua ub:Value}(h:qr c a b=Z y)(rc:RT k F φ w c uc)(ra:RT k F φ w a ua)(rb:RT k F φ w b ub):∃q,uc=.bool q∧RT k F φ w y (if q then ua else ub):=by
 unfold qr at h
 split at h
 ·cases h
  have:uc=.bool ab:=cF (x:=.bool ab) rfl rc
  exact⟨ab,this,by simpa using ra⟩
 ·cases h
  have:uc=.bool aa:=cF (x:=.bool aa) rfl rc
  exact⟨aa,this,by simpa using rb⟩
 ·cases h
def axR {F:Nat→Prop}{x y:T}{u:Value}(h:se x=Z y)(r:RT k F φ w x u):y=x∧((∃a,u=.pointer (Z a))∨(∃f c d,u=.func (.func f) c d)∨∃l c d,u=.func (.yield l) c d):=by
 unfold se at h
 split at h
 ·cases h;obtain⟨x,_,rfl⟩:=r;exact⟨rfl,.inl ⟨_,rfl⟩⟩
 ·cases h;obtain⟨b,o,rfl,_⟩:=r;exact⟨rfl,.inl ⟨_,rfl⟩⟩
 ·cases h;obtain⟨vs,rfl,_⟩:=r;exact⟨rfl,.inr (.inl ⟨_,_,_,rfl⟩)⟩
 ·cases h;obtain⟨x,_,rfl⟩:=r;exact⟨rfl,.inr (.inr ⟨_,_,_,rfl⟩)⟩
 ·rename_i f c d
  cases h
  have:u=.func (.func f) c d:=cF rfl r
  exact⟨rfl,.inr (.inl ⟨_,_,_,this⟩)⟩
 ·cases h
def ag5 {F:Nat→Prop}:∀{xs:List T} {ps:List (Nat × Nat)} {us:List Value},zy xs=Z ps→us.length=xs.length→(∀(j:Nat) t,xs[j]?=Z t→∃u,us[j]?=Z u∧RT k F φ w t u)→
  us.length=ps.length∧∀(j b o:Nat),ps[j]?=Z (b,o)→∃x,φ b=Z x∧us[j]?=Z (.pointer (Z ⟨x,o,U⟩))
 |[],ps,us,h,hl,hr=>by
  simp[zy]at h;subst h
  exact⟨by simpa using hl,fun j b o hj=>by simp at hj⟩
 |t::xs,ps,us,h,hl,hr=>by
  unfold zy at h
  split at h
  ·rename_i heq;cases heq
  ·rename_i b o r heq
   cases heq
   simp only[aUa]at h
   obtain⟨ps',h1,rfl⟩:=h
   cases us with
   |nil=>simp at hl
   |cons u us=>
    obtain⟨u',hu,x,hx,rfl⟩:=hr 0 _ rfl
    simp at hu;subst hu
    obtain⟨q1,q2⟩:=ag5 h1 (us:=us) (by simpa using hl) (fun j t hj=>by simpa using hr (j+1) t (by simpa using hj))
    refine⟨by simp[q1],fun j b' o' hj=>?_⟩
    cases j with
    |zero=>simp at hj;obtain⟨rfl,rfl⟩:=hj;exact⟨x,hx,rfl⟩
    |succ j=>simpa using q2 j b' o' (by simpa using hj)
  ·cases h
def axQ {F:Nat→Prop}{f:FuncId}{xs:List T}{y:T}{us:List Value}(h:aaw f xs=Z y)(hl:us.length=xs.length)(hr:∀(j:Nat) t,xs[j]?=Z t→∃u,us[j]?=Z u∧RT k F φ w t u):
  RT k F φ w y (.func (.func f) #[] us.toArray):=by
 unfold aaw at h
 simp only[aUa]at h
 obtain⟨ps,hp,rfl⟩:=h
 obtain⟨q1,q2⟩:=ag5 hp hl hr
 exact⟨us.toArray,rfl,by simpa using q1,fun j b o hj=>let ⟨x,hx,hu⟩:=q2 j b o hj;⟨x,hx,by simpa using hu⟩⟩
def atC (hH:HR k Bt F0 N φ w H S){cop:COp}(hok:mM P R o cop)(hσ:∀od x,R od x→RT k (Fo F0 φ H S) φ w (σ od) (ρ x)){y:T}{rd:Option Nat}(h:eY H σ cop=Z (y,rd)):
  ∃u w',(execOp ρ o).run P w=.ok (.value u) w'∧Ext w w'∧RT k (Fo F0 φ H S) φ w' y u:=by
 have pure:∀{s:Sem Value},(execOp ρ o=do Pure.pure (Next.value (← s)))→(∃u,s.run P w=.ok u w∧RT k (Fo F0 φ H S) φ w y u)→∃u w',(execOp ρ o).run P w=.ok (.value u) w'∧Ext w w'∧RT k (Fo F0 φ H S) φ w' y u:=by
  rintro s he ⟨u,hu,hr⟩
  exact⟨u,w,by rw[he];simp[hu],Ext.refl w,hr⟩
 cases cop with
 |mv a=>
  obtain⟨x,hop,ha⟩:=hok
  cases h
  refine⟨ρ x,w,?_,Ext.refl w,hσ _ _ ha⟩
  rcases hop with hop|hop<;>simp[execOp,hop]
 |pick c a b=>
  obtain⟨c',a',b',hop,hc,ha,hb⟩:=hok
  obtain⟨q,hq,hr⟩:=atA (aO h).1 (hσ _ _ hc) (hσ _ _ ha) (hσ _ _ hb)
  refine⟨_,w,?_,Ext.refl w,hr⟩
  simp[execOp,hop,hq,asBool]
 |ld ag n a=>
  obtain⟨t,x,hop,ha,ht⟩:=hok
  exact pure (by simp only[execOp,hop]) (amF hH ht (aO h).1 (hσ _ _ ha))
 |off n a=>
  obtain⟨s,x,f,fs,fd,m,hop,ha,hu,hf,ho,hm⟩:=hok
  exact pure (by simp only[execOp,hop]) (aty hu hf ho hm (aO h).1 (hσ _ _ ha))
 |part ag n p a=>
  obtain⟨s,x,f,fs,fd,hop,ha,hu,hf,ho,ht⟩:=hok
  exact pure (by simp only[execOp,hop]) (atz hu hf ho ht (aO h).1 (hσ _ _ ha))
 |ixS s a i=>
  obtain⟨t,e,x,ix,hop,ha,hi,hu,hs⟩:=hok
  exact pure (by simp only[execOp,hop]) (axO hu hs (aO h).1 (hσ _ _ ha) (hσ _ _ hi))
 |ixR len s a i=>
  obtain⟨t,e,x,ix,hop,ha,hi,hu,hs⟩:=hok
  exact pure (by simp only[execOp,hop]) (axN hu hs (aO h).1 (hσ _ _ ha) (hσ _ _ hi))
 |at_ ag n len a i=>
  obtain⟨t,e,x,ix,hop,ha,hi,hu,ht⟩:=hok
  exact pure (by simp only[execOp,hop]) (aEA hu ht (aO h).1 (hσ _ _ ha) (hσ _ _ hi))
 |ext i a=>
  obtain⟨x,hop,ha⟩:=hok
  exact pure (by simp only[execOp,hop]) (aiY (aO h).1 (hσ _ _ ha))
 |nilc a=>
  obtain⟨x,hop,ha⟩:=hok
  obtain⟨rfl,hu⟩:=axR (aO h).1 (hσ _ _ ha)
  refine⟨ρ x,w,?_,Ext.refl w,hσ _ _ ha⟩
  rcases hu with⟨a,hu⟩|⟨f,c,d,hu⟩|⟨f,c,d,hu⟩<;>simp[execOp,hop,hu]
 |bld zs pl is cs=>
  obtain⟨t,ps,hop,hb,his,hcs⟩:=hok
  have e:∀l:List (Nat × Operand),(l.map (·.2)).map ρ=l.map fun p=>ρ p.2:=fun l=>by simp
  obtain⟨q1,q2⟩:=hcs.rt hσ
  rw[e]at q1 q2
  obtain⟨p1,p2⟩:=abg his q1 q2
  exact pure (s:=Instr.build t (ps.map fun(i,x)=>(i,ρ x))) (by simp only[execOp,hop]) (axL hb (aO h).1 (by simpa using p1) (fun j i t hj=>by
   obtain⟨u,hu,hr⟩:=p2 j i t hj
   exact⟨u,by simpa using hu,hr⟩))
 |bsl z s len is cs=>
  obtain⟨t,e',bytes,ps,hop,hu,hel,his,hcs⟩:=hok
  have e:∀l:List (Nat × Operand),(l.map (·.2)).map ρ=l.map fun p=>ρ p.2:=fun l=>by simp
  obtain⟨q1,q2⟩:=hcs.rt hσ
  rw[e]at q1 q2
  obtain⟨p1,p2⟩:=abg his q1 q2
  obtain⟨u,w',h1,h2,h3⟩:=atu (P:=P) (fun x hx=>hH.fo_lt hx) hu hel (aO h).1 (qs:=ps.map fun(i,x)=>(i,ρ x)) (by simpa using p1) (fun j i t hj=>by
   obtain⟨u,hu,hr⟩:=p2 j i t hj
   exact⟨u,by simpa using hu,hr⟩)
  exact⟨u,w',by simp[execOp,hop,h1],h2,h3⟩
 |slc s a lo hi=>
  obtain⟨t,e,x,l,hh,hop,ha,hlo,hhi,hu,hs⟩:=hok
  exact pure (by simp only[execOp,hop,Option.map_none]) (axS hu hs (aO h).1 (hσ _ _ ha) (hlo.rt hσ) (hhi.rt hσ))
 |slcR n s a=>
  obtain⟨t,e,x,hop,ha,hu,hs⟩:=hok
  exact pure (by simp only[execOp,hop,Option.map_none]) (atE hH hu hs (aO h).1 (hσ _ _ ha))
 |slc3 s a lo hi mx=>
  obtain⟨t,e,x,l,hh,m,hop,ha,hlo,hhi,hmx,hu,hs⟩:=hok
  exact pure (by simp only[execOp,hop,Option.map_some]) (atD hu hs (aO h).1 (hσ _ _ ha) (hlo.rt hσ) (hσ _ _ hhi) (hσ _ _ hmx))
 |len a=>
  obtain⟨c,x,t,e,hop,hcal,hargs,hty,ha,hu⟩:=hok
  obtain⟨u,h1,h2⟩:=axP (ty:=o.type) hu (aO h).1 (hσ _ _ ha)
  exact⟨u,w,by simp[execOp,hop,resolve,hcal,invoke,builtin,hargs,hty,h1],Ext.refl w,h2⟩
 |cap a=>
  obtain⟨c,x,t,e,hop,hcal,hargs,hty,ha,hu⟩:=hok
  obtain⟨u,h1,h2⟩:=axM (ty:=o.type) hu (aO h).1 (hσ _ _ ha)
  exact⟨u,w,by simp[execOp,hop,resolve,hcal,invoke,builtin,hargs,hty,h1],Ext.refl w,h2⟩
 |nilS neg a b=>
  obtain⟨t,e,x,z,t',hop,ha,hb,hu⟩:=hok
  simp only[eY]at h
  split at h
  ·rename_i hz
   obtain⟨u',h1,h2,A,n,c,hx⟩:=atw hu (aO h).1 (hσ _ _ ha)
   have hc:=at6 hz (hσ _ _ hb)
   rw[hx]at h1
   refine⟨u',w,?_,Ext.refl w,h2⟩
   have hg:∀op,(eqGuard op t x z (.slice A n c) (.slice U 0 0)).run P w=.ok () w:=by
    intro op
    cases op<;>rfl
   cases neg
   ·have h1':(binOp .eql t (.slice A n c) (.slice U 0 0)).run P w=.ok u' w:=h1
    simp[execOp,hop,hg,hx,hc,h1']
   ·have h1':(binOp .neq t (.slice A n c) (.slice U 0 0)).run P w=.ok u' w:=h1
    simp[execOp,hop,hg,hx,hc,h1']
  ·cases h
 |ixc a i=>
  obtain⟨t,x,ix,hop,ha,hi,hu⟩:=hok
  have hev:=(aO h).1
  unfold adi at hev
  split at hev
  ·rename_i str n hx hn
   split at hev
   ·rename_i b hb
    cases hev
    obtain⟨q,e⟩:=gf hn (hσ _ _ hi)
    have hr:=hσ _ _ ha
    rw[hx]at hr
    have hstr:ρ x=.string str:=cF (x:=.string str) rfl hr
    have hget:str[n]?=Z b:=by
     have hlt:n<str.data.size:=by
      have:=(aTU.1 hb).1
      simpa using this
     have e1:str[n]?=Z str[n]:=getElem?_pos str n hlt
     rw[e1]
     have:=(aTU.1 hb).2
     rw[← this]
     rfl
    refine⟨.int .u8 (b.toNat:Int),w,?_,Ext.refl w,.v _ rfl⟩
    simp[execOp,hop,hstr,e,Instr.index,asIntOf,run_underlying hu,hget]
   ·cases hev
  ·cases hev
 |pk p cs=>
  obtain⟨l,hk,hl⟩:=hok
  obtain⟨q1,q2⟩:=hl.rt hσ
  obtain⟨X,h1,h2⟩:=aEB hk (aO h).1 q1 q2
  exact⟨X,w,h1,Ext.refl w,h2⟩
 |mkf f cs=>
  obtain⟨cap,hop,hl⟩:=hok
  obtain⟨q1,q2⟩:=hl.rt hσ
  refine⟨_,w,?_,Ext.refl w,axQ (aO h).1 q1 q2⟩
  have e:cap.map ρ=(cap.toList.map ρ).toArray:=by cases cap;simp
  simp[execOp,hop,Instr.makeFunc,e]
 |lku zs m key=>
  obtain⟨t,xm,xk,hop,hm,hk,ht⟩:=hok
  exact pure (by simp only[execOp,hop]) (alU hH ht (aO h).1 (hσ _ _ hm) (hσ _ _ hk))
 |_=>simp[eY]at h
def atB {H':Hp}{cop:COp}{y:T}{rd:Option Nat}(h:eY H σ cop=Z (y,rd))(hb:∀b,rd=Z b→H'[b]?=H[b]?):eY H' σ cop=Z (y,rd):=by
 have cells:∀(d:D) (n:Nat),(∀b,iu (.t (.one d))=Z b→H'[b]?=H[b]?)→eJ H' d n=eJ H d n:=by
  intro d n hd
  cases d with
  |ptr b o=>simp only[eJ,hd b rfl]
  |_=>rfl
 cases cop with
 |ld ag n a=>
  obtain⟨h1,h2⟩:=aO h
  subst h2
  have:lW ag n H' (σ a)=lW ag n H (σ a):=by
   unfold lW
   split
   ·rename_i d hd
    rw[hd]at hb
    rw[cells d n hb,cells d 1 hb]
   ·rfl
  simp only[eY,this,h1,wi]
 |slcR n s a=>
  obtain⟨h1,h2⟩:=aO h
  subst h2
  have:kx n s H' (σ a)=kx n s H (σ a):=by
   unfold kx
   split
   ·rename_i d hd
    rw[hd]at hb
    rw[cells d _ hb]
   ·rfl
  simp only[eY,this,h1,wi]
 |lku zs m key=>
  obtain⟨h1,h2⟩:=aO h
  subst h2
  have:eK zs H' (σ m) (σ key)=eK zs H (σ m) (σ key):=by
   unfold eK
   split
   ·rename_i b l hm hk
    rw[hm]at hb
    rw[hb b rfl]
   ·rfl
  simp only[eY,this,h1,wi]
 |_=>exact h
def acK (k:Cls)(Bt:aP)(F:Nat→Prop)(φ:Nat→Option Nat)(w:World)(b:Nat)(x:Blk)(y:T)(u:Value)(w':World):Prop:=
 ∃a,w.heap.size≤a∧Ext w w'∧(∀F' φ',Kp F φ w F' φ' w'→RB k Bt F' φ' w' a x)∧∀F' φ' w'',φ' b=Z a→RB k Bt F' φ' w'' a x→RT k F' φ' w'' y u
def ats {F:Nat→Prop}{b:Nat}{x:Blk}{cop:COp}(hok:mM P R o cop)(hσ:∀od x,R od x→RT k F φ w (σ od) (ρ x)){y:T}(h:sc b σ cop=Z (x,y)):
  ∃u w',(execOp ρ o).run P w=.ok (.value u) w'∧acK k Bt F φ w b x y u w':=by
 have var:∀{e:TypeId} {v:Value} {ds:List D},e≠Limb.u→RL k F φ w v.cells.toList ds→∃u w',(do pure (Value.pointer (Z (← newVar e v))):Sem Value).run P w=.ok u w'∧acK k Bt F φ w b (.cells ds) (.t (.one (.ptr b 0))) u w':=by
  intro e v ds hte hr
  have hx:Ext w (w.alloc (.cells v.cells e)):=iN _
  refine⟨.pointer (Z ⟨w.heap.size,0,U⟩),w.alloc (.cells v.cells e),by simp[newVar,newRow],w.heap.size,aTS _,hx,fun F' φ' q=>⟨v.cells,e,gk w _,?_,fun j d hj=>?_,hte⟩,fun F' φ' w'' hb _=>⟨w.heap.size,hb,rfl⟩⟩
  ·have:=hr.1;simp at this;omega
  ·obtain⟨u,hu,hd⟩:=hr.2 j d hj
   exact⟨u,by simpa using hu,hd.kp q⟩
 cases cop with
 |new ds=>
  obtain⟨e,i,z,hop,hi,hz,hds,hte⟩:=hok
  cases h
  obtain⟨u,w',h1,h2⟩:=var (e:=e) (v:=z) hte (rp hds)
  refine⟨u,w',?_,h2⟩
  have hzv:(zeroValue e).run P w=.ok z w:=by simp[zeroValue,typeInfo,hi,hz]
  simp only[execOp,hop,Instr.alloc,Sem.run_bind,hzv,Result.andThen_ok]
  rw[← Sem.run_bind,h1]
  rfl
 |box a=>
  obtain⟨e,xo,hop,ha,hte⟩:=hok
  simp only[sc]at h
  split at h
  ·rename_i ds hds
   cases h
   obtain⟨u,w',h1,h2⟩:=var (e:=e) (v:=ρ xo) hte (xX hds (hσ _ _ ha))
   refine⟨u,w',?_,h2⟩
   simp only[execOp,hop,Instr.box,Sem.run_bind]
   rw[← Sem.run_bind,h1]
   rfl
  ·cases h
 |mk z s bytes l c=>
  obtain⟨t,e,xl,xc,hop,hl,hc,hu,⟨i,zv,hi,hz,rfl,rfl,rfl⟩,hte⟩:=hok
  simp only[sc]at h
  split at h
  ·rename_i nl nc hnl hnc
   split at h
   ·rename_i hcond
    obtain⟨h1,h2,h3⟩:=hcond
    split at h
    ·rename_i ds hd
     cases h
     obtain⟨k1,e1⟩:=gf hnl (hσ _ _ hl)
     obtain⟨k2,e2⟩:=gf hnc (hσ _ _ hc)
     have hb:(i.bytes:Int)*(nc:Int)≤281474976710656:=by
      have:((i.bytes*nc:Nat):Int)≤281474976710656:=by omega
      rwa [Int.natCast_mul]at this
     have hr:=run_make (P:=P) w t e i zv hu hi hz k1 k2 nl nc (by omega) (by omega) hb (by omega)
     simp only[Int.toNat_natCast]at hr
     have hx:Ext w (w.alloc (.cells (madeCells zv.cells (nc*i.size)) e)):=iN _
     have hrl:RL k F φ w (madeCells zv.cells (nc*i.size)).toList ds:=by rw[aGt];exact rp hd
     have e1':=hrl.1
     refine⟨_,_,by simp only[execOp,hop,e1,e2,Sem.run_bind,hr,Result.andThen_ok];rfl,w.heap.size,aTS _,hx,fun F' φ' q=>⟨_,e,gk w _,by simp at e1';omega,fun j d hj=>?_,hte⟩,fun F' φ' w'' hb' hB=>?_⟩
     ·obtain⟨u,hu,hd⟩:=hrl.2 j d hj
      exact⟨u,by simpa using hu,hd.kp q⟩
     ·obtain⟨vs,tt,hw,hlen,_⟩:=hB
      have hdl:ds.length=nc*i.size:=by rw[← e1'];simp[size_madeCells]
      exact⟨w.heap.size,nc,hb',rfl,h1,vs,tt,_,hw,by omega⟩
    ·cases h
   ·cases h
  ·cases h
 |mkm=>
  obtain⟨t,hop⟩:=hok
  cases h
  have hx:Ext w (w.alloc (.map #[] 0)):=iN _
  exact⟨_,_,by simp only[execOp,hop,Instr.makeMap];simp,w.heap.size,aTS _,hx,fun F' φ' q=>⟨#[],0,gk w _,rfl,rfl,fun j e h=>by simp at h,fun j key ds hj=>by simp at hj⟩,fun F' φ' w'' hb _=>⟨w.heap.size,hb,rfl⟩⟩
 |bsb z s len is cs=>
  obtain⟨t,e',bytes,ps,hop,hu,hel,his,hcs,hte⟩:=hok
  have e:∀l:List (Nat × Operand),(l.map (·.2)).map ρ=l.map fun p=>ρ p.2:=fun l=>by simp
  obtain⟨q1,q2⟩:=hcs.rt hσ
  rw[e]at q1 q2
  obtain⟨p1,p2⟩:=abg his q1 q2
  simp only[sc]at h
  split at h
  ·rename_i ds hb
   cases h
   obtain⟨cells,h1,h2,h3⟩:=ac4 (P:=P) hu hel hb (qs:=ps.map fun(i,x)=>(i,ρ x)) (by simpa using p1) (fun j i t hj=>by
    obtain⟨u,hu,hr⟩:=p2 j i t hj
    exact⟨u,by simpa using hu,hr⟩)
   have hx:Ext w (w.alloc (.cells cells e')):=iN _
   refine⟨_,_,by simp[execOp,hop,h1];rfl,w.heap.size,aTS _,hx,fun F' φ' q=>⟨cells,e',gk w _,by have:=h2.1;simp at this;omega,fun j d hj=>?_,hte⟩,fun F' φ' w'' hb' hB=>?_⟩
   ·obtain⟨u,hu,hd⟩:=h2.2 j d hj
    exact⟨u,by simpa using hu,hd.kp q⟩
   ·obtain⟨vs,tt,hw,hlen,_⟩:=hB
    have e1':=h2.1
    simp at e1'
    exact⟨w.heap.size,len,hb',rfl,aTS _,vs,tt,_,hw,by omega⟩
  ·cases h
 |_=>simp[sc]at h
def atx {cf:av}(hcf:gF P k Bt cf){cop:COp}{y:T}{H':Hp}{S' W:List Nat}(h:fZ cf H S σ cop=Z (y,H',S',W)):Fm H W H':=by
 cases cop with
 |app s bytes d a=>
  simp only[fZ]at h
  split at h
  ·rename_i y' H1 he
   cases h
   unfold bJ at he
   split at he
   ·split at he
    ·split at he
     ·cases he;exact Fm.refl _ _
     ·split at he
      ·cases he;exact Fm.refl _ _
      ·cases he
     ·cases he
    ·split at he
     ·split at he
      ·rename_i hd
       cases he
       exact(Fm.push _ _).imp_w
      ·cases he
       exact(Fm.push _ _).imp_w
      ·rename_i b n s' hd
       split at he
       ·split at he
        ·cases he
         rw[hd]
         exact(Fm.set H b U).trans (Fm.push (H.set b U) _)
        ·cases he
       ·cases he
      ·cases he
     ·cases he
   ·cases he
  ·cases h
 |appz z s bytes d n=>
  simp only[fZ]at h
  split at h
  ·rename_i y' H1 he
   cases h
   unfold qq at he
   split at he
   ·split at he
    ·split at he
     ·split at he
      ·cases he;exact Fm.push _ _
      ·cases he;exact Fm.push _ _
      ·cases he
     ·cases he
    ·cases he
   ·cases he
  ·cases h
 |cpy s d a=>
  simp only[fZ]at h
  split at h
  ·rename_i y' H1 he
   cases h
   unfold nR at he
   split at he
   ·rename_i b o n s' hd
    split at he
    ·split at he
     ·cases he;rw[hd];exact Fm.set _ _ _
     ·cases he
    ·cases he
   ·split at he
    ·cases he;exact Fm.refl _ _
    ·cases he
   ·cases he
  ·cases h
 |sto n a x=>
  simp only[fZ]at h
  split at h
  ·rename_i H1 he
   cases h
   unfold j1 at he
   split at he
   ·rename_i b o ds ha hds
    split at he
    ·split at he
     ·cases he;rw[ha];exact Fm.set _ _ _
     ·cases he
    ·cases he
   ·cases he
  ·cases h
 |mset m key x=>
  simp only[fZ]at h
  split at h
  ·rename_i H1 he
   cases h
   unfold gu at he
   split at he
   ·rename_i b l ds hm hl hx
    rw[hm]
    split at he
    ·split at he
     ·split at he
      ·cases he
      ·split at he
       ·cases he;exact Fm.set _ _ _
       ·cases he;exact Fm.set _ _ _
     ·cases he
    ·cases he
   ·cases he
  ·cases h
 |call g xs=>exact(hcf _ _ _ _ _ _ _ _ h).2.1
 |rng a=>
  simp only[fZ]at h
  split at h
  ·rename_i y' H1 he
   cases h
   unfold vY at he
   split at he
   ·split at he
    ·cases he;exact Fm.push _ _
    ·cases he
   ·cases he
  ·cases h
 |ent a=>
  simp only[fZ]at h
  split at h
  ·cases h;exact Fm.refl _ _
  ·cases h
 |lenM a=>
  simp only[fZ]at h
  split at h
  ·cases h;exact Fm.refl _ _
  ·cases h
 |_=>simp[fZ]at h
def aJm {cf:av}(hcf:gF P k Bt cf)(hH:HR k Bt F0 N φ w H S)(hN:N≤w.heap.size){cop:COp}(hok:mM P R o cop)(hσ:∀od x,R od x→RT k (Fo F0 φ H S) φ w (σ od) (ρ x)){y:T}{H':Hp}{S' W:List Nat}(h:fZ cf H S σ cop=Z (y,H',S',W)):
  jx P (fun u w'=>Post k Bt F0 N φ w H S H' S' y u w') ((execOp ρ o).run P w):=by
 cases cop with
 |app s bytes d a=>
  obtain⟨c,xd,xs,t,e,hop,hcal,hargs,hty,hd,ha,hu,he⟩:=hok
  simp only[fZ]at h
  split at h
  ·rename_i y' H1 hev
   cases h
   obtain⟨u,w',h1,h2⟩:=alS (P:=P) (ty:=o.type) hH hN hu he hev (hσ _ _ hd) (hσ _ _ ha)
   have:(execOp ρ o).run P w=.ok (.value u) w':=by simp[execOp,hop,resolve,hcal,invoke,builtin,hargs,hty,h1]
   rw[this];exact h2
  ·cases h
 |appz z s bytes d n=>
  obtain⟨c,xd,xn,t,tn,e,kn,hop,hcal,hargs,hty,hd,hn,hu,htn,he,hzs,hs0,hte⟩:=hok
  simp only[fZ]at h
  split at h
  ·rename_i y' H1 hev
   cases h
   obtain⟨u,w',h1,h2⟩:=att (P:=P) (ty:=o.type) hH hN hte hu htn he hzs hs0 hev (hσ _ _ hd) (hσ _ _ hn)
   have:(execOp ρ o).run P w=.ok (.value u) w':=by simp[execOp,hop,resolve,hcal,invoke,builtin,hargs,hty,h1]
   rw[this];exact h2
  ·cases h
 |cpy s d a=>
  obtain⟨c,xd,xs,t,t',e,hop,hcal,hargs,hty,hd,ha,hu,he⟩:=hok
  simp only[fZ]at h
  split at h
  ·rename_i y' H1 hev
   cases h
   obtain⟨u,w',h1,h2⟩:=atv (P:=P) (t':=t') (ty:=o.type) hH hN hu he hev (hσ _ _ hd) (hσ _ _ ha)
   have:(execOp ρ o).run P w=.ok (.value u) w':=by simp[execOp,hop,resolve,hcal,invoke,builtin,hargs,hty,h1]
   rw[this];exact h2
  ·cases h
 |sto n a x=>
  obtain⟨t,xa,xx,hop,ha,hx,hn⟩:=hok
  simp only[fZ]at h
  split at h
  ·rename_i H1 hev
   cases h
   obtain⟨w',h1,h2,h3,h4,h5⟩:=ape (P:=P) hH hN hn hev (hσ _ _ ha) (hσ _ _ hx)
   have:(execOp ρ o).run P w=.ok .skip w':=by simp[execOp,hop,h1]
   rw[this]
   exact⟨φ,h2,h3,h4,tv,fun _ _=>rfl,h5⟩
  ·cases h
 |mset m key x=>
  obtain⟨t,zs,xm,xk,xx,hop,hm,hk,hx,ht⟩:=hok
  simp only[fZ]at h
  split at h
  ·rename_i H1 hev
   cases h
   obtain⟨w',h1,h2,h3,h4,h5⟩:=alV (P:=P) hH hN ht hev (hσ _ _ hm) (hσ _ _ hk) (hσ _ _ hx)
   have:(execOp ρ o).run P w=.ok .skip w':=by rcases hop with hop|hop<;>simp[execOp,hop,h1]
   rw[this]
   exact⟨φ,h2,h3,h4,tv,fun _ _=>rfl,h5⟩
  ·cases h
 |call g cs=>
  obtain⟨c,f,hop,hcal,hg,hcs⟩:=hok
  obtain⟨q1,q2⟩:=hcs.rt hσ
  have:=(hcf _ _ _ _ _ _ _ _ h).2.2 F0 N φ w (ρ f) (c.args.toList.map ρ) hH hN (hσ _ _ hg) q1 q2
  have e:c.args.map ρ=(c.args.toList.map ρ).toArray:=by cases c.args;simp
  simpa [execOp,hop,resolve,hcal,e]using this
 |rng a=>
  obtain⟨t,x,kt,et,hop,ha,hu⟩:=hok
  simp only[fZ]at h
  split at h
  ·rename_i y' H1 hev
   cases h
   have hr:=hσ _ _ ha
   unfold vY at hev
   split at hev
   ·rename_i b hb
    split at hev
    ·rename_i es hHb
     cases hev
     rw[hb]at hr
     obtain⟨bm,hbm,hx⟩:=hr
     obtain⟨_,ens,clk,hw,hsz,hclk,_,_⟩:=hH.at_ b _ bm hHb hbm
     have hx1:Ext w (w.alloc (.mapIter (Z bm) clk #[] clk)):=iN _
     have hn:clk=es.length:=by rw[hclk,hsz]
     obtain⟨g1,g2⟩:=rD hH (H1:=H) rfl (fun _ _ h=>h) hN (aTS _) hx1 (y0:=.it b es.length []) (fun F ψ q=>⟨bm,q.phi b bm hbm,by rw[← hn];exact gk w _⟩)
     have hrun:(execOp ρ o).run P w=.ok (.value (.pointer (Z ⟨w.heap.size,0,U⟩))) (w.alloc (.mapIter (Z bm) clk #[] clk)):=by
      simp only[execOp,hop,hx,Sem.run_bind,run_range_map w t kt et bm ens clk hu hw,Result.andThen_ok]
      rfl
     rw[hrun]
     exact⟨_,Bel.mono hx1 hN,g1,g2,⟨w.heap.size,gN,rfl⟩,fun c hc=>eZ (by omega),Old.ext hx1⟩
    ·cases hev
   ·cases hev
  ·cases h
 |ent a=>
  obtain⟨x,hop,ha⟩:=hok
  simp only[fZ]at h
  split at h
  ·rename_i y' hev
   cases h
   have hr:=hσ _ _ ha
   unfold pe at hev
   split at hev
   ·rename_i b hb
    split at hev
    ·rename_i m n ks hHb
     split at hev
     ·rename_i j es hj hHm
      split at hev
      ·rename_i hn
       split at hev
       ·rename_i key ds hes
        cases hev
        rw[hb]at hr
        obtain⟨r,hr1,hx⟩:=hr
        obtain⟨_,bm,hbm,hit⟩:=hH.at_ b _ r hHb hr1
        obtain⟨_,ens,clk,hw,hsz,hclk,hborn,h3⟩:=hH.at_ m _ bm hHm hbm
        obtain⟨e,he,hk,h4,hv⟩:=h3 j key ds hes
        have hn':n=clk:=by rw[hclk,hsz];exact aT1 hn
        have hback:ks.toArray.back?=Z j:=by
         rw[List.back?_toArray]
         have:∀{l:List Nat} {j:Nat},dW l=Z j→l.getLast?=Z j:=by
          intro l
          induction l with
          |nil=>intro j h;cases h
          |cons a l ih=>
           intro j h
           cases l with
           |nil=>simp[dW]at h;simp[h]
           |cons b l=>rw[List.getLast?_cons_cons];exact ih h
         exact this hj
        have hfind:ens.find? (·.born==j)=Z e:=by
         have hbe:=hborn j e he
         have hn2:(ens.toList.map (·.born)).Nodup:=by
          have:ens.toList.map (·.born)=List.range ens.size:=by
           apply List.ext_getElem?
           intro i
           rw[aUm]
           by_cases hi:i<ens.size
           ·rw[List.getElem?_range hi]
            simp[hi,hborn i ens[i] (aUt hi)]
           ·rw[List.getElem?_eq_none (by simpa using hi),List.getElem?_eq_none (by simpa using hi)];rfl
          rw[this];exact List.nodup_range
         rw[← Array.find?_toList,← hbe]
         exact find_born e ens.toList hn2 (by simpa using Array.mem_of_getElem? he)
        have hrun:(execOp ρ o).run P w=.ok (.value (.tuple #[e.key,e.val])) w:=by
         have hgr:(getObj r).run P w=.ok (.mapIter (Z bm) n ks.toArray n) w:=by simp[getObj,Sem.run,hit]
         have hgm:(getObj bm).run P w=.ok (.map ens clk) w:=by simp[getObj,Sem.run,hw]
         simp[execOp,hop,hx,Instr.entry,hgr,hgm,hback,hn',hfind]
        rw[hrun]
        refine⟨φ,Bel.refl _ _,hH,Kp.refl,⟨#[e.key,e.val],rfl,rfl,fun i d hi=>?_⟩,fun _ _=>rfl,Old.ext (Ext.refl _)⟩
        match i,hi with
        |0,hi=>
         simp at hi;subst hi
         refine⟨e.key,rfl,_,hk,by simp,fun i d hi=>?_⟩
         rw[aUm,aUa]at hi
         obtain⟨z,hz,rfl⟩:=hi
         exact⟨.int .i64 z,by simp[hz],.v _ rfl⟩
        |1,hi=>simp at hi;subst hi;exact⟨e.val,rfl,hv⟩
        |i+2,hi=>simp at hi
       ·cases hev
      ·cases hev
     ·cases hev
    ·cases hev
   ·cases hev
  ·cases h
 |lenM a=>
  obtain⟨c,x,t,kt,et,hop,hcal,hargs,hty,ha,hu⟩:=hok
  simp only[fZ]at h
  split at h
  ·rename_i y' hev
   cases h
   have hr:=hσ _ _ ha
   unfold uf at hev
   split at hev
   ·rename_i b hb
    split at hev
    ·rename_i es hHb
     cases hev
     rw[hb]at hr
     obtain⟨bm,hbm,hx⟩:=hr
     obtain⟨_,ens,clk,hw,hsz,_,_,_⟩:=hH.at_ b _ bm hHb hbm
     have hgm:(getObj bm).run P w=.ok (.map ens clk) w:=by simp[getObj,Sem.run,hw]
     have hrun:(execOp ρ o).run P w=.ok (.value (goInt ens.size)) w:=by
      simp[execOp,hop,resolve,hcal,invoke,builtin,hargs,hty,Builtin.len_,run_underlying hu,hx,hgm]
     rw[hrun]
     exact⟨φ,Bel.refl _ _,hH,Kp.refl,by rw[hsz];exact .v _ rfl,fun _ _=>rfl,Old.ext (Ext.refl _)⟩
    ·cases hev
   ·cases hev
  ·cases h
 |_=>simp[fZ]at h
end
structure Ro1 where
 gd:Option (Nat × Bool)
 kp:Option Nat
 lo:List Nat
 op:COp
 deriving Inhabited
def ia (ys:List T):Option (Nat × Bool)→Option Bool
 |none=>Z ab
 |some (d,b)=>match ce ys d with|.t (.one (.c (.v (.bool c))))=>Z (c==b)|.tup []=>Z aa|_=>U
def hZ (cf:av)(ys τ:List T)(H:Hp)(S:List Nat)(o:Ro1):Option (T × Hp × List Nat × List Nat × Option Nat):=
 match ia ys o.gd with
 |none=>U
 |some aa=>Z (.tup [],H,S,[],U)
 |some ab=>
  match kd o.op with
  |.r=>match eY H (bD ys τ) o.op with|some (y,rd)=>Z (y,H,S,[],rd)|none=>U
  |.a=>match sc H.length (bD ys τ) o.op with|some (x,y)=>Z (y,H++[Z x],S,[],U)|none=>U
  |.o=>match fZ cf H S (bD ys τ) o.op with|some (y,H',S',W)=>Z (y,H',S',W,U)|none=>U
def dl:List T→Nat→T→List T
 |[],_,_=>[]
 |_::r,0,y=>y::r
 |x::r,n+1,y=>x::dl r n y
def z4 (τ:List T)(y:T):Option Nat→List T
 |some p=>dl τ p y
 |none=>τ
def mo (rd:Option Nat)(W:List Nat):Bool:=match rd with|some b=>!(W.any fun c=>ai c b)|none=>ab
def wA:List (Option Nat × List Nat)→Nat→Option Nat × List Nat
 |[],_=>(U,[])
 |x::_,0=>x
 |_::r,n+1=>wA r n
def rr (inf:List (Option Nat × List Nat))(rd:Option Nat)(W:List Nat):List Nat→Bool
 |[]=>ab
 |d::r=>if mo rd (wA inf d).2&&mo (wA inf d).1 W then rr inf rd W r else aa
def ja (cf:av)(τ:List T):List Ro1→List T→Hp→List Nat→List T→List Nat→List (Option Nat × List Nat)→Option (List T × Hp × List Nat × List Nat)
 |[],_,H,S,τ',W,_=>Z (τ',H,S,W)
 |o::r,ys,H,S,τ',W,inf=>
  match hZ cf ys τ H S o with
  |some (y,H',S',W',rd)=>if rr inf rd W' o.lo then ja cf τ r (y::ys) H' S' (z4 τ' y o.kp) (W'++W) ((rd,W')::inf) else U
  |none=>U
structure Tr (k:Cls) (Bt:aP) (F0:Nat→Prop) (N:Nat) (φ:Nat→Option Nat) (w:World) (H:Hp) (S:List Nat) (φ':Nat→Option Nat) (w':World) (H':Hp) (S':List Nat):Prop where
 below:Bel N w w'
 hr:HR k Bt F0 N φ' w' H' S'
 kp:Kp (Fo F0 φ H S) φ w (Fo F0 φ' H' S') φ' w'
 same:∀c,c<H.length→φ' c=φ c
 old:Old φ H S w w'
 len:H.length≤H'.length
def FrR (k:Cls)(F:Nat→Prop)(φ:Nat→Option Nat)(w:World)(kp:List Tmp)(τ:List T)(a:Act):Prop:=
 ∀(p t:Nat),kp[p]?=Z t→RT k F φ w (ce τ p) (a.tmps.getD t undef)
section
variable {P:Program} {k:Cls} {Bt:aP} {F0:Nat→Prop} {N:Nat} {φ φ' φ'':Nat→Option Nat} {w w' w'':World} {H H' H'':Hp} {S S' S'':List Nat} {R:Od→Operand→Prop} {ρ:Operand→Value} {o:Oper}
def Tr.refl (hH:HR k Bt F0 N φ w H S):Tr k Bt F0 N φ w H S φ w H S:=⟨Bel.refl _ _,hH,Kp.refl,fun _ _=>rfl,Old.ext (Ext.refl _),aTS _⟩
def Tr.trans (h:Tr k Bt F0 N φ w H S φ' w' H' S')(q:Tr k Bt F0 N φ' w' H' S' φ'' w'' H'' S''):Tr k Bt F0 N φ w H S φ'' w'' H'' S'':=
 ⟨h.below.trans q.below,q.hr,h.kp.trans q.kp h.below.size,fun c hc=>(q.same c (aUj hc h.len)).trans (h.same c hc),
  fun x hx hn=>by
   rw[q.old x (aUj hx h.below.size) fun b y hb hs he=>?_,h.old x hx hn]
   by_cases h0:F0 x
   ·exact(h.hr.f0 x h0).2.1 b y hb he
   ·refine(h.kp.keep x hx ?_).2 (.inr ⟨b,y,hb,hs,he⟩)
    rintro(h1|⟨b',y',h1,h2,h3⟩)
    ·exact h0 h1
    ·exact hn b' y' h1 h2 h3,
  aUd h.len q.len⟩
def Tr.of_post {y:T}{u:Value}(h:Post k Bt F0 N φ w H S H' S' y u w')(hl:H.length≤H'.length):∃φ',Tr k Bt F0 N φ w H S φ' w' H' S'∧RT k (Fo F0 φ' H' S') φ' w' y u:=
 let ⟨φ',h1,h2,h3,h4,h5,h6⟩:=h
 ⟨φ',⟨h1,h2,h3,h5,h6,hl⟩,h4⟩
def Tr.of_ext (hH:HR k Bt F0 N φ w H S)(hN:N≤w.heap.size)(hx:Ext w w'):Tr k Bt F0 N φ w H S φ w' H S:=
 ⟨Bel.mono hx hN,hH.ext hx,Kp.of_ext hx (fun _ _ h=>h) (fun _ _ h=>h),fun _ _=>rfl,Old.ext hx,aTS _⟩
def Tr.post {y:T}{u:Value}(h:Tr k Bt F0 N φ w H S φ' w' H' S')(hr:RT k (Fo F0 φ' H' S') φ' w' y u):Post k Bt F0 N φ w H S H' S' y u w':=
 ⟨φ',h.below,h.hr,h.kp,hr,h.same,h.old⟩
def Tr.of_al (hH:HR k Bt F0 N φ w H S)(hN:N≤w.heap.size){x:Blk}{y:T}{u:Value}(h:acK k Bt (Fo F0 φ H S) φ w H.length x y u w'):
  ∃φ',Tr k Bt F0 N φ w H S φ' w' (H++[Z x]) S∧RT k (Fo F0 φ' (H++[Z x]) S) φ' w' y u:=by
 obtain⟨a,ha,hx,hB,hy⟩:=h
 obtain⟨g1,g2⟩:=rD hH (H1:=H) rfl (fun _ _ h=>h) hN ha hx hB
 exact⟨_,⟨Bel.mono hx hN,g1,g2,fun c hc=>eZ (by omega),Old.ext hx,by simp⟩,hy _ _ _ gN (hB _ _ g2)⟩
def an3 {cf:av}(hcf:gF P k Bt cf)(hH:HR k Bt F0 N φ w H S)(hN:N≤w.heap.size){ys τ:List T}{r:Ro1}(hok:mM P R o r.op)(hσ:∀od x,R od x→RT k (Fo F0 φ H S) φ w (bD ys τ od) (ρ x))
  (hw:ia ys r.gd=Z ab){y:T}{W:List Nat}{rd:Option Nat}(h:hZ cf ys τ H S r=Z (y,H',S',W,rd)):
  jx P (fun u w'=>∃φ',Tr k Bt F0 N φ w H S φ' w' H' S'∧RT k (Fo F0 φ' H' S') φ' w' y u) ((execOp ρ o).run P w):=by
 unfold hZ at h
 rw[hw]at h
 simp only at h
 split at h
 ·split at h
  ·rename_i he
   cases h
   obtain⟨u,w',h1,h2,h3⟩:=atC hH hok hσ he
   rw[h1]
   exact⟨φ,Tr.of_ext hH hN h2,h3⟩
  ·cases h
 ·split at h
  ·rename_i he
   cases h
   obtain⟨u,w',h1,h2⟩:=ats (Bt:=Bt) hok hσ he
   rw[h1]
   exact Tr.of_al hH hN h2
  ·cases h
 ·split at h
  ·rename_i he
   cases h
   exact aaf (aJm hcf hH hN hok hσ he) fun u w' hp=>Tr.of_post hp (atx hcf he).1
  ·cases h
def ald {cf:av}(hcf:gF P k Bt cf){ys τ:List T}{r:Ro1}{y:T}{W:List Nat}{rd:Option Nat}(h:hZ cf ys τ H S r=Z (y,H',S',W,rd)):Fm H W H':=by
 unfold hZ at h
 split at h
 ·cases h
 ·cases h;exact Fm.refl _ _
 ·split at h
  ·split at h
   ·cases h;exact Fm.refl _ _
   ·cases h
  ·split at h
   ·cases h;exact Fm.push _ _
   ·cases h
  ·split at h
   ·rename_i he
    cases h
    exact atx hcf he
   ·cases h
def gg:∀(l:List T) (n m:Nat) (y:T),ce (dl l n y) m=if m=n∧n<l.length then y else ce l m
 |[],n,m,y=>by simp[dl]
 |x::l,0,0,y=>by simp[dl,ce]
 |x::l,0,m+1,y=>by simp[dl,ce]
 |x::l,n+1,0,y=>by simp[dl,ce]
 |x::l,n+1,m+1,y=>by simp[dl,ce,gg l n m y]
def ii:∀(l:List T) (n:Nat) (y:T),(dl l n y).length=l.length
 |[],_,_=>rfl
 |_::_,0,_=>rfl
 |x::l,n+1,y=>by simp[dl,ii l n y]
def dm (ops:Array Oper)(t:Tmp):Nat→Option Nat
 |0=>U
 |i+1=>match ops[i]? with|some o=>(if o.dst=Z t then Z i else dm ops t i)|none=>dm ops t i
def RsK (od:Od):Operand→Prop
 |.tmp _=>False
 |.const v=>∃t1,ny v=Z t1∧od=.k (.t t1)
 |.global _=>False
 |.func f=>od=.k (.t (.one (.c (.v (.func (.func f) #[] #[])))))
def RsK.rt {F:Nat→Prop}{od:Od}{x:Operand}(h:RsK od x){ys τ:List T}{a:Act}:RT k F φ w (bD ys τ od) (a.eval x):=by
 cases x with
 |tmp t=>exact h.elim
 |const v=>obtain⟨t1,h1,rfl⟩:=h;exact zm h1
 |global g=>exact h.elim
 |func f=>cases h;exact RC.v _ rfl
def RsS (ops:Array Oper)(kp:List Tmp)(i:Nat)(od:Od)(x:Operand):Prop:=
 od=.z∨RsK od x∨∃t,x=.tmp t∧((∃d j,dm ops t i=Z j∧j+d+1=i∧od=.x d)∨(dm ops t i=U∧∃p,kp[p]?=Z t∧od=.f p))
def GdS (ops:Array Oper)(i:Nat):Option (Nat × Bool)→Option (Nat × Bool)→Prop
 |none,U=>True
 |some (g,b),Z (d,b')=>b=b'∧g+d+1=i∧∃o t,ops[g]?=Z o∧o.dst=Z t∧dm ops t i=Z g
 |_,_=>False
def KpS (kp:List Tmp)(dst:Option Tmp)(r:Option Nat):Prop:=(∀p,r=Z p→∃t,dst=Z t∧kp[p]?=Z t)∧∀t p,dst=Z t→kp[p]?=Z t→r=Z p
structure ROkS (P:Program) (nt:Nat) (kp:List Tmp) (ops:Array Oper) (os:List Ro1):Prop where
 len:os.length=ops.size
 op:∀(i:Nat) o r,ops[i]?=Z o→os[i]?=Z r→j7 o.op=ab∧mM P (RsS ops kp i) o r.op∧(∀t,o.dst=Z t→t<nt)∧GdS ops i o.guard r.gd∧KpS kp o.dst r.kp
structure SInv (k:Cls) (F:Nat→Prop) (φ:Nat→Option Nat) (w:World) (nt:Nat) (kp:List Tmp) (ops:Array Oper) (τ:List T) (a0:Act) (i:Nat) (ys τ':List T) (a:Act):Prop where
 size:a.tmps.size=nt
 df:a.defers=a0.defers
 new:∀(t j d:Nat),dm ops t i=Z j→j+d+1=i→RT k F φ w (ce ys d) (a.tmps.getD t undef)
 far:∀t,dm ops t i=U→a.tmps.getD t undef=a0.tmps.getD t undef
 upd:∀(p t j d:Nat),kp[p]?=Z t→dm ops t i=Z j→j+d+1=i→ce τ' p=ce ys d
 keep:∀(p t:Nat),kp[p]?=Z t→dm ops t i=U→ce τ' p=ce τ p
 len:τ'.length=kp.length
def kY {ops:Array Oper}{t:Tmp}:∀{i j:Nat},dm ops t i=Z j→j<i
 |0,j,h=>by simp[dm]at h
 |i+1,j,h=>by
  simp only[dm]at h
  split at h
  ·split at h
   ·cases h;omega
   ·have:=kY h;omega
  ·have:=kY h;omega
def SInv.kp {F F':Nat→Prop}(q:Kp F φ w F' φ' w'){nt:Nat}{kp:List Tmp}{ops:Array Oper}{τ:List T}{a0:Act}{i:Nat}{ys τ':List T}{a:Act}(h:SInv k F φ w nt kp ops τ a0 i ys τ' a):SInv k F' φ' w' nt kp ops τ a0 i ys τ' a:=
 { h with new:=fun t j d h1 h2=>RT.kp q (h.new t j d h1 h2) }
def qw {a:Act}{t t':Nat}{u:Value}:(a.put (Z t) u).tmps.getD t' undef=if t'=t∧t<a.tmps.size then u else a.tmps.getD t' undef:=by
 show(Array.setIfInBounds _ _ _).getD _ _=_
 simp only[aUq,Array.getElem?_setIfInBounds]
 by_cases h:t=t'
 ·subst h
  by_cases hl:t<a.tmps.size
  ·simp[hl]
  ·simp[hl]
 ·rw[if_neg h,if_neg (fun h'=>h h'.1.symm)]
def SInv.put {F:Nat→Prop}{nt:Nat}{kp:List Tmp}{ops:Array Oper}{τ:List T}{a0:Act}{i:Nat}{ys τ':List T}{a:Act}{o:Oper}{y:T}{u:Value}{r:Option Nat}(h:SInv k F φ w nt kp ops τ a0 i ys τ' a)
  (ho:ops[i]?=Z o)(hd:∀t,o.dst=Z t→t<nt)(hk:KpS kp o.dst r)(hr:RT k F φ w y u):SInv k F φ w nt kp ops τ a0 (i+1) (y::ys) (z4 τ' y r) (a.put o.dst u):=by
 have hlen:(z4 τ' y r).length=kp.length:=by
  cases r with
  |none=>exact h.len
  |some p=>show(dl _ _ _).length=_;rw[ii];exact h.len
 have hw:∀t,dm ops t (i+1)=if o.dst=Z t then Z i else dm ops t i:=fun t=>by simp[dm,ho]
 cases hdst:o.dst with
 |none=>
  rw[hdst]at hk hw
  have hr0:r=U:=by
   cases r with
   |none=>rfl
   |some p=>obtain⟨t,ht,_⟩:=hk.1 p rfl;cases ht
  subst hr0
  have hw':∀t,dm ops t (i+1)=dm ops t i:=fun t=>by rw[hw];simp
  refine⟨h.size,h.df,fun t j d h1 h2=>?_,fun t h1=>h.far t (by rw[← hw'];exact h1),fun p t j d h0 h1 h2=>?_,fun p t h0 h1=>h.keep p t h0 (by rw[← hw'];exact h1),hlen⟩
  ·rw[hw']at h1
   have:=kY h1
   obtain⟨d,rfl⟩:∃d',d=d'+1:=⟨d-1,by omega⟩
   exact h.new t j d h1 (by omega)
  ·rw[hw']at h1
   have:=kY h1
   obtain⟨d,rfl⟩:∃d',d=d'+1:=⟨d-1,by omega⟩
   exact h.upd p t j d h0 h1 (by omega)
 |some t0=>
  rw[hdst]at hk hw
  have ht0:t0<a.tmps.size:=by rw[h.size];exact hd t0 hdst
  refine⟨?_,?_,fun t j d h1 h2=>?_,fun t h1=>?_,fun p t j d h0 h1 h2=>?_,fun p t h0 h1=>?_,hlen⟩
  ·show(Array.setIfInBounds _ _ _).size=_;rw[Array.size_setIfInBounds];exact h.size
  ·exact h.df
  ·rw[hw]at h1
   rw[qw]
   split at h1
   ·rename_i e
    cases e;cases h1
    obtain rfl:d=0:=by omega
    rw[if_pos ⟨rfl,ht0⟩]
    exact hr
   ·rename_i e
    have:=kY h1
    obtain⟨d,rfl⟩:∃d',d=d'+1:=⟨d-1,by omega⟩
    rw[if_neg (fun h=>e (by rw[h.1]))]
    exact h.new t j d h1 (by omega)
  ·rw[hw]at h1
   split at h1
   ·cases h1
   ·rename_i e
    rw[qw,if_neg (fun h=>e (by rw[h.1]))]
    exact h.far t h1
  ·rw[hw]at h1
   split at h1
   ·rename_i e
    cases e;cases h1
    obtain rfl:d=0:=by omega
    rw[hk.2 t0 p rfl h0]
    show ce (dl _ _ _) _=_
    have hpl:=(aTU.1 h0).1
    rw[gg,if_pos ⟨rfl,by rw[h.len];exact hpl⟩];rfl
   ·rename_i e
    have:=kY h1
    obtain⟨d,rfl⟩:∃d',d=d'+1:=⟨d-1,by omega⟩
    rw[show ce (y::ys) (d+1)=ce ys d from rfl,← h.upd p t j d h0 h1 (by omega)]
    cases r with
    |none=>rfl
    |some q=>
     show ce (dl _ _ _) _=_
     rw[gg,if_neg]
     rintro⟨rfl,_⟩
     obtain⟨t',e1,e2⟩:=hk.1 p rfl
     rw[h0]at e2
     cases e1;cases e2
     exact e rfl
  ·rw[hw]at h1
   split at h1
   ·cases h1
   ·rename_i e
    rw[← h.keep p t h0 h1]
    cases r with
    |none=>rfl
    |some q=>
     show ce (dl _ _ _) _=_
     rw[gg,if_neg]
     rintro⟨rfl,_⟩
     obtain⟨t',e1,e2⟩:=hk.1 p rfl
     rw[h0]at e2
     cases e1;cases e2
     exact e rfl
def aMB {ro:Option Nat}{cf:av}(hcf:gF P k Bt cf){nt:Nat}{kp:List Tmp}{ops:Array Oper}{os:List Ro1}(hR:ROkS P nt kp ops os){τ:List T}{a0:Act}{Q:Exit→Act→World→Prop}{τ1:List T}{H1:Hp}{S1 W1:List Nat}:
  ∀(rest:List Ro1) (i:Nat) (ys:List T) (φ:Nat→Option Nat) (w:World) (H:Hp) (S:List Nat) (τ':List T) (W:List Nat) (inf:List (Option Nat × List Nat)) (a:Act),os.drop i=rest→N≤w.heap.size→
   HR k Bt F0 N φ w H S→FrR k (Fo F0 φ H S) φ w kp τ a0→SInv k (Fo F0 φ H S) φ w nt kp ops τ a0 i ys τ' a→ja cf τ rest ys H S τ' W inf=Z (τ1,H1,S1,W1)→
   (∀a' w' φ',Tr k Bt F0 N φ w H S φ' w' H1 S1→FrR k (Fo F0 φ' H1 S1) φ' w' kp τ1 a'→a'.tmps.size=nt→a'.defers=a0.defers→τ1.length=kp.length→Q .normal a' w')→wpListIn (Fr ro) 0 P ops Q (ops.toList.drop i) a w:=by
 intro rest
 induction rest with
 |nil=>
  intro i ys φ w H S τ' W inf a hrest hN hH hF hI h fin
  simp only[ja,Option.some.injEq,Prod.mk.injEq]at h
  obtain⟨rfl,rfl,rfl,rfl⟩:=h
  have hle:ops.size≤i:=by rw[← hR.len];simpa using hrest
  rw[List.drop_eq_nil_of_le (by simpa using hle)]
  refine fin a w φ (Tr.refl hH) (fun p t hp=>?_) hI.size hI.df hI.len
  cases hl:dm ops t i with
  |none=>rw[hI.keep p t hp hl,hI.far t hl];exact hF p t hp
  |some j=>
   have:=kY hl
   rw[hI.upd p t j (i-1-j) hp hl (by omega)]
   exact hI.new t j (i-1-j) hl (by omega)
 |cons r rest ih=>
  intro i ys φ w H S τ' W inf a hrest hN hH hF hI h fin
  have hri:os[i]?=Z r:=by rw[← List.head?_drop,hrest];rfl
  have hil:i<os.length:=(aTU.1 hri).1
  have hoi:∃o,ops[i]?=Z o:=⟨ops[i]'(by rw[← hR.len];exact hil),aUt _⟩
  obtain⟨o,hoi⟩:=hoi
  obtain⟨hnd,hop,hdst,hgd,hkp⟩:=hR.op i o r hoi hri
  have hrest':os.drop (i+1)=rest:=by rw[← List.tail_drop,hrest];rfl
  have hdrop:ops.toList.drop i=o::ops.toList.drop (i+1):=by
   have hil':i<ops.toList.length:=by rw[hR.len]at hil;simpa using hil
   rw[List.drop_eq_getElem_cons hil']
   congr 1
   have:=Array.getElem?_eq_some_iff.1 hoi
   obtain⟨_,he⟩:=this
   simpa using he
  simp only[ja]at h
  split at h
  ·rename_i y H' S' W' rd hst
   split at h
   ·rw[hdrop]
    unfold wpListIn
    have hσ:∀od x,RsS ops kp i od x→RT k (Fo F0 φ H S) φ w (bD ys τ od) (a.eval x):=by
     rintro od x (rfl|h|⟨t,rfl,(⟨d,j,h1,h2,rfl⟩|⟨h1,p,h2,rfl⟩)⟩)
     ·trivial
     ·exact h.rt
     ·exact hI.new t j d h1 h2
     ·show RT _ _ _ _ (ce τ p) (a.tmps.getD t undef)
      rw[hI.far t h1]
      exact hF p t h2
    have next:∀(u:Value) (w':World) (φ':Nat→Option Nat),Tr k Bt F0 N φ w H S φ' w' H' S'→RT k (Fo F0 φ' H' S') φ' w' y u→wpListIn (Fr ro) 0 P ops Q (ops.toList.drop (i+1)) (a.put o.dst u) w':=by
     intro u w' φ' tr hr
     refine ih (i+1) (y::ys) φ' w' H' S' _ _ _ _ hrest' (aUd hN tr.below.size) tr.hr (fun p t hp=>RT.kp tr.kp (hF p t hp)) ((hI.kp tr.kp).put hoi hdst hkp hr) h fun a' w'' φ'' tr'=>?_
     exact fin a' w'' φ'' (tr.trans tr')
    have hwant:∀b,ia ys r.gd=Z b→Region.wanted o (yielded ops a.tmps)=b:=by
     intro b hb
     unfold Region.wanted
     cases hg:o.guard with
     |none=>
      rw[hg]at hgd
      cases hrg:r.gd with
      |none=>rw[hrg]at hb;simp[ia]at hb;exact hb.symm
      |some x=>rw[hrg]at hgd;exact hgd.elim
     |some gb=>
      obtain⟨g,bb⟩:=gb
      rw[hg]at hgd
      cases hrg:r.gd with
      |none=>rw[hrg]at hgd;exact hgd.elim
      |some x=>
       obtain⟨d,b'⟩:=x
       rw[hrg]at hgd hb
       obtain⟨rfl,hgi,og,t,hog,hdt,hl⟩:=hgd
       have hv:=hI.new t g d hl hgi
       simp only[ia]at hb
       split at hb
       ·rename_i c hc
        rw[hc]at hv
        have hv':a.tmps.getD t undef=.bool c:=cF (x:=.bool c) rfl hv
        cases hb
        have:yielded ops a.tmps g=Z c:=by
         unfold yielded
         rw[hog,Option.bind_some,hdt,Option.bind_some]
         rw[aUq]at hv'
         cases hq:a.tmps[t]? with
         |none=>rw[hq]at hv';simp[undef]at hv'
         |some z=>rw[hq]at hv';simp at hv';rw[hv']
        simp only[this]
        cases c<;>cases bb<;>rfl
       ·rename_i hc
        rw[hc]at hv
        obtain⟨vs,hv',hs,_⟩:=hv
        have e0:vs=#[]:=Array.eq_empty_of_size_eq_zero (by simpa using hs)
        cases hb
        have:yielded ops a.tmps g=U:=by
         unfold yielded
         rw[hog,Option.bind_some,hdt,Option.bind_some]
         rw[aUq]at hv'
         cases hq:a.tmps[t]? with
         |none=>rfl
         |some z=>rw[hq]at hv';simp at hv';rw[hv']
        simp only[this]
        cases bb<;>rfl
       ·cases hb
    cases hb:ia ys r.gd with
    |none=>simp[hZ,hb]at hst
    |some b=>
     have hwb:=hwant b hb
     cases b with
     |true=>
      rw[if_pos hwb]
      refine vC hnd (an3 hcf hH hN hop hσ hb hst) fun u w' ⟨φ',tr,hr⟩=>next u w' φ' tr hr
     |false=>
      rw[if_neg (by rw[hwb];simp)]
      simp only[hZ,hb,Option.some.injEq,Prod.mk.injEq]at hst
      obtain⟨rfl,rfl,rfl,_,_⟩:=hst
      exact⟨fun _ _=>trivial,next undef w φ (Tr.refl hH) ⟨#[],rfl,rfl,fun j d hj=>by simp at hj⟩⟩
   ·cases h
  ·cases h
end
def ajm:COp→Bool
 |.ld ..|.slcR ..|.lku ..=>ab
 |_=>aa
def RsD (anc:List (Nat × Tmp))(kp:List Tmp)(i:Nat)(od:Od)(x:Operand):Prop:=
 od=.z∨RsK od x∨∃t,x=.tmp t∧((∃d j,(j,t)∈anc∧j+d+1=i∧od=.x d)∨((∀j,(j,t)∉anc)∧∃p,kp[p]?=Z t∧od=.f p))
def GdD (i:Nat):Option (Nat × Bool)→Option (Nat × Bool)→Prop
 |none,U=>True
 |some (g,b),Z (d,b')=>b=b'∧g+d+1=i
 |_,_=>False
def afj (ops:Array Oper)(i j:Nat):Prop:=((dI [] ops.toList).getD i 0).testBit j=ab
structure ROkD (P:Program) (nt:Nat) (kp:List Tmp) (ops:Array Oper) (os:List Ro1) (anc:List (List (Nat × Tmp))):Prop where
 len:os.length=ops.size
 chk:Chk ops ops.size anc
 op:∀(i:Nat) o r,ops[i]?=Z o→os[i]?=Z r→j7 o.op=ab∧mM P (RsD (anc.getD i []) kp i) o r.op∧(∀t,o.dst=Z t→t<nt)∧GdD i o.guard r.gd∧KpS kp o.dst r.kp
 ord:∀(i j:Nat) r rj,os[i]?=Z r→os[j]?=Z rj→j<i→kd rj.op≠.r→kd r.op=.o→afj ops i j
 al:∀(i j l:Nat) r rj rl,os[i]?=Z r→os[j]?=Z rj→os[l]?=Z rl→l<j→kd r.op≠.o→kd rj.op=.a→kd rl.op≠.r→afj ops i j→afj ops i l
 lo:∀(i j:Nat) r rj,os[i]?=Z r→os[j]?=Z rj→j<i→¬afj ops i j→(ajm r.op=ab∧kd rj.op=.o)∨(ajm rj.op=ab∧kd r.op=.o)→∃d,d∈r.lo∧j+d+1=i
section
variable {P:Program} {k:Cls} {Bt:aP} {F0:Nat→Prop} {N:Nat} {φ φ' φ'':Nat→Option Nat} {w w' w'':World} {H H' H'':Hp} {S S' S'':List Nat} {R:Od→Operand→Prop} {ρ:Operand→Value} {o:Oper} {σ:Od→T}
def mL (Y:Nat→T):Nat→List T
 |0=>[]
 |i+1=>Y i::mL Y i
def aaX (Y:Nat→T):∀(i d j:Nat),j+d+1=i→ce (mL Y i) d=Y j
 |0,d,j,h=>by omega
 |i+1,0,j,h=>by
  obtain rfl:j=i:=by omega
  rfl
 |i+1,d+1,j,h=>aaX Y i d j (by omega)
def aag {Y Y':Nat→T}:∀(i:Nat),(∀j,j<i→Y j=Y' j)→mL Y i=mL Y' i
 |0,_=>rfl
 |i+1,h=>by simp only[mL];rw[h i (by omega),aag i fun j hj=>h j (by omega)]
def th (rf:Nat→Option Nat)(wf:Nat→List Nat):Nat→List (Option Nat × List Nat)
 |0=>[]
 |i+1=>(rf i,wf i)::th rf wf i
def akm (rf:Nat→Option Nat)(wf:Nat→List Nat):∀(i d j:Nat),j+d+1=i→wA (th rf wf i) d=(rf j,wf j)
 |0,d,j,h=>by omega
 |i+1,0,j,h=>by
  obtain rfl:j=i:=by omega
  rfl
 |i+1,d+1,j,h=>akm rf wf i d j (by omega)
def adt {rf rf':Nat→Option Nat}{wf wf':Nat→List Nat}:∀(i:Nat),(∀j,j<i→rf j=rf' j∧wf j=wf' j)→th rf wf i=th rf' wf' i
 |0,_=>rfl
 |i+1,h=>by simp only[th];rw[(h i (by omega)).1,(h i (by omega)).2,adt i fun j hj=>h j (by omega)]
def agZ {inf:List (Option Nat × List Nat)}{rd:Option Nat}{W:List Nat}:∀{l:List Nat},rr inf rd W l=ab→∀d∈l,mo rd (wA inf d).2=ab∧mo (wA inf d).1 W=ab
 |[],_,d,hd=>by simp at hd
 |x::l,h,d,hd=>by
  simp only[rr]at h
  split at h
  ·rename_i hc
   rcases aTZ.1 hd with rfl|hd
   ·simpa using hc
   ·exact agZ h d hd
  ·cases h
def ad5 {b:Nat}{W:List Nat}(h:mo (Z b) W=ab):b∉W:=by
 intro hb
 simp only[mo,Bool.not_eq_true',List.any_eq_false]at h
 exact h b hb (by simp)
structure Tx (cf:av) (τ:List T) (os:List Ro1) (Y:Nat→T) (Hf:Nat→Hp) (Sf:Nat→List Nat) (wf:Nat→List Nat) (rf:Nat→Option Nat):Prop where
 st:∀(i:Nat) r,os[i]?=Z r→hZ cf (mL Y i) τ (Hf i) (Sf i) r=Z (Y i,Hf (i+1),Sf (i+1),wf i,rf i)
 lo:∀(i d j:Nat) r,os[i]?=Z r→d∈r.lo→j+d+1=i→mo (rf i) (wf j)=ab∧mo (rf j) (wf i)=ab
def awm {cf:av}{τ:List T}{τ1:List T}{H1:Hp}{S1 W1:List Nat}:∀(rest:List Ro1) (i0:Nat) (Y0:Nat→T) (wf0:Nat→List Nat) (rf0:Nat→Option Nat) (H:Hp) (S:List Nat) (τ':List T) (W:List Nat),
  ja cf τ rest (mL Y0 i0) H S τ' W (th rf0 wf0 i0)=Z (τ1,H1,S1,W1)→
  ∃(Y:Nat→T) (Hf:Nat→Hp) (Sf wf:Nat→List Nat) (rf:Nat→Option Nat),(∀j,j<i0→Y j=Y0 j∧wf j=wf0 j∧rf j=rf0 j)∧Hf i0=H∧Sf i0=S∧Hf (i0+rest.length)=H1∧Sf (i0+rest.length)=S1∧
   (∀(j:Nat) r,rest[j]?=Z r→hZ cf (mL Y (i0+j)) τ (Hf (i0+j)) (Sf (i0+j)) r=Z (Y (i0+j),Hf (i0+j+1),Sf (i0+j+1),wf (i0+j),rf (i0+j)))∧
   (∀(j d l:Nat) r,rest[j]?=Z r→d∈r.lo→l+d+1=i0+j→mo (rf (i0+j)) (wf l)=ab∧mo (rf l) (wf (i0+j))=ab)∧
   (∀p,(∀(j:Nat) r,rest[j]?=Z r→r.kp≠Z p)→ce τ1 p=ce τ' p)∧
   (∀(p j:Nat) r,rest[j]?=Z r→r.kp=Z p→(∀(j':Nat) r',rest[j']?=Z r'→r'.kp=Z p→j'=j)→p<τ'.length→ce τ1 p=Y (i0+j))∧τ1.length=τ'.length:=by
 intro rest
 induction rest with
 |nil=>
  intro i0 Y0 wf0 rf0 H S τ' W h
  simp only[ja,Option.some.injEq,Prod.mk.injEq]at h
  obtain⟨rfl,rfl,rfl,rfl⟩:=h
  exact⟨Y0,fun _=>H,fun _=>S,wf0,rf0,fun _ _=>⟨rfl,rfl,rfl⟩,rfl,rfl,rfl,rfl,fun j r hj=>by simp at hj,fun j d l r hj=>by simp at hj,fun _ _=>rfl,fun p j r hj=>by simp at hj,rfl⟩
 |cons r rest ih=>
  intro i0 Y0 wf0 rf0 H S τ' W h
  simp only[ja]at h
  split at h
  ·rename_i y H' S' W' rd hst
   split at h
   ·rename_i hlo
    have e1:y::mL Y0 i0=mL (fun j=>if j=i0 then y else Y0 j) (i0+1):=by
     simp only[mL,if_pos]
     congr 1
     exact aag i0 fun j hj=>by simp[show j≠i0 by omega]
    have e2:(rd,W')::th rf0 wf0 i0=th (fun j=>if j=i0 then rd else rf0 j) (fun j=>if j=i0 then W' else wf0 j) (i0+1):=by
     simp only[th,if_pos]
     congr 1
     exact adt i0 fun j hj=>by simp[show j≠i0 by omega]
    rw[e1,e2]at h
    obtain⟨Y,Hf,Sf,wf,rf,g0,g1,g2,g3,g4,g5,g6,g7,g8,g9⟩:=ih (i0+1) _ _ _ H' S' _ _ h
    have gi:=g0 i0 (by omega)
    simp only[if_pos]at gi
    have gj:∀j,j<i0→Y j=Y0 j∧wf j=wf0 j∧rf j=rf0 j:=fun j hj=>by
     have:=g0 j (by omega)
     simpa [show j≠i0 by omega]using this
    have hlen:i0+1+rest.length=i0+(r::rest).length:=by simp;omega
    rw[hlen]at g3 g4
    refine⟨Y,fun j=>if j=i0 then H else Hf j,fun j=>if j=i0 then S else Sf j,wf,rf,gj,by simp,by simp,?_,?_,fun j r' hj=>?_,fun j d l r' hj hd hl=>?_,fun p hp=>?_,fun p j r' hj hk hu hpl=>?_,?_⟩
    ·have e:¬i0+(r::rest).length=i0:=by simp
     simp only[if_neg e];exact g3
    ·have e:¬i0+(r::rest).length=i0:=by simp
     simp only[if_neg e];exact g4
    ·cases j with
     |zero=>
      simp at hj;subst hj
      simp only[Nat.add_zero,if_pos,if_neg (show ¬i0+1=i0 by omega)]
      rw[aag i0 fun j hj=>(gj j hj).1,hst,gi.1,gi.2.1,gi.2.2,g1,g2]
     |succ j=>
      have:=g5 j r' (by simpa using hj)
      have e:i0+1+j=i0+(j+1):=by omega
      rw[e]at this
      simp only[if_neg (show ¬i0+(j+1)=i0 by omega),if_neg (show ¬i0+(j+1)+1=i0 by omega)]
      exact this
    ·cases j with
     |zero=>
      simp at hj;subst hj
      have:=agZ hlo d hd
      rw[akm rf0 wf0 i0 d l (by omega)]at this
      have gl:=gj l (by omega)
      rw[Nat.add_zero,gi.2.1,gi.2.2,gl.2.1,gl.2.2]
      exact this
     |succ j=>
      have:=g6 j d l r' (by simpa using hj) hd (by omega)
      have e:i0+1+j=i0+(j+1):=by omega
      rw[e]at this
      exact this
    ·rw[g7 p fun j r' hj=>hp (j+1) r' (by simpa using hj)]
     have h0:=hp 0 r rfl
     cases hk:r.kp with
     |none=>rfl
     |some q=>
      show ce (dl _ _ _) _=_
      rw[gg,if_neg]
      rintro⟨rfl,_⟩
      exact h0 hk
    ·cases j with
     |zero=>
      simp at hj;subst hj
      rw[g7 p fun j r' hj' hk'=>by
       have:=hu (j+1) r' (by simpa using hj') hk'
       omega]
      rw[hk]
      show ce (dl _ _ _) _=_
      rw[gg,if_pos ⟨rfl,hpl⟩,Nat.add_zero,gi.1]
     |succ j=>
      have:=g8 p j r' (by simpa using hj) hk (fun j' r'' hj' hk'=>by
       have:=hu (j'+1) r'' (by simpa using hj') hk'
       omega) (by cases r.kp<;>simpa [z4,ii]using hpl)
      have e:i0+1+j=i0+(j+1):=by omega
      rw[e]at this
      exact this
    ·rw[g9]
     cases r.kp<;>simp[z4,ii]
   ·cases h
  ·cases h
def aGC {cf:av}(hcf:gF P k Bt cf){τ τ1:List T}{H1:Hp}{S1 W1:List Nat}:∀(rest:List Ro1) (ys:List T) (H:Hp) (S:List Nat) (τ':List T) (W:List Nat) (inf:List (Option Nat × List Nat)),
  ja cf τ rest ys H S τ' W inf=Z (τ1,H1,S1,W1)→(∀x∈W,x∈W1)∧Fm H W1 H1:=by
 intro rest
 induction rest with
 |nil=>
  intro ys H S τ' W inf h
  simp only[ja,Option.some.injEq,Prod.mk.injEq]at h
  obtain⟨rfl,rfl,rfl,rfl⟩:=h
  exact⟨fun _ h=>h,Fm.refl _ _⟩
 |cons r rest ih=>
  intro ys H S τ' W inf h
  simp only[ja]at h
  split at h
  ·rename_i y H' S' W' rd hst
   split at h
   ·obtain⟨h1,h2⟩:=ih _ _ _ _ _ _ h
    have h3:=ald hcf hst
    refine⟨fun x hx=>h1 x (List.mem_append_right _ hx),aUd h3.1 h2.1,fun c hc hW=>?_⟩
    rw[h2.2 c (aUj hc h3.1) hW,h3.2 c hc fun hx=>hW (h1 c (List.mem_append_left _ hx))]
   ·cases h
  ·cases h
def vQ {d:D}{n b:Nat}{ds:List D}(h:eJ H d n=Z ds)(hb:iu (.t (.one d))=Z b):b<H.length:=by
 cases d with
 |ptr c o=>
  cases hb
  simp only[eJ]at h
  split at h
  ·rename_i hc
   exact(aTU.1 hc).1
  ·cases h
 |_=>simp[eJ]at h<;>simp[iu]at hb
def aJn {cop:COp}(hok:mM P R o cop){y:T}{b:Nat}(h:eY H σ cop=Z (y,Z b)):ajm cop=ab∧b<H.length∧∃od x,R od x∧iu (σ od)=Z b:=by
 cases cop with
 |ld ag n a=>
  obtain⟨t,x,_,ha,_⟩:=hok
  obtain⟨h1,h2⟩:=aO h
  refine⟨rfl,?_,a,x,ha,h2⟩
  unfold lW at h1
  split at h1
  ·rename_i d hd
   rw[hd]at h2
   split at h1
   ·simp only[aUa]at h1
    obtain⟨ds,hds,_⟩:=h1
    exact vQ hds h2
   ·split at h1
    ·rename_i hds
     exact vQ hds h2
    ·cases h1
  ·cases h1
 |slcR n s a=>
  obtain⟨t,e,x,_,ha,_⟩:=hok
  obtain⟨h1,h2⟩:=aO h
  refine⟨rfl,?_,a,x,ha,h2⟩
  unfold kx at h1
  split at h1
  ·rename_i d hd
   rw[hd]at h2
   split at h1
   ·rename_i hds
    exact vQ hds h2
   ·cases h1
  ·cases h1
 |lku zs m key=>
  obtain⟨t,xm,xk,_,hm,_⟩:=hok
  obtain⟨h1,h2⟩:=aO h
  refine⟨rfl,?_,m,xm,hm,h2⟩
  unfold eK at h1
  split at h1
  ·rename_i c l hc hl
   rw[hc]at h2
   cases h2
   split at h1
   ·split at h1
    ·rename_i hb
     exact(aTU.1 hb).1
    ·cases h1
   ·cases h1
  ·cases h1
 |mv a=>cases h
 |pick c a b'=>exact absurd (aO h).2 (by simp)
 |off n a=>exact absurd (aO h).2 (by simp)
 |part ag n p a=>exact absurd (aO h).2 (by simp)
 |ixS s a i=>exact absurd (aO h).2 (by simp)
 |ixR len s a i=>exact absurd (aO h).2 (by simp)
 |at_ ag n len a i=>exact absurd (aO h).2 (by simp)
 |ext i a=>exact absurd (aO h).2 (by simp)
 |nilc a=>exact absurd (aO h).2 (by simp)
 |bld zs pl is cs=>exact absurd (aO h).2 (by simp)
 |bsl z s len is cs=>exact absurd (aO h).2 (by simp)
 |slc s a lo hi=>exact absurd (aO h).2 (by simp)
 |slc3 s a lo hi mx=>exact absurd (aO h).2 (by simp)
 |len a=>exact absurd (aO h).2 (by simp)
 |cap a=>exact absurd (aO h).2 (by simp)
 |ixc tb a=>exact absurd (aO h).2 (by simp)
 |nilS neg a b'=>
  simp only[eY]at h
  split at h
  ·exact absurd (aO h).2 (by simp)
  ·cases h
 |pk p cs=>exact absurd (aO h).2 (by simp)
 |mkf f cs=>exact absurd (aO h).2 (by simp)
 |_=>simp[eY]at h
def alM {F:Nat→Prop}{t:T}{b:Nat}{u:Value}(h:iu t=Z b)(r:RT k F φ w t u):∃x,φ b=Z x:=by
 unfold iu at h
 split at h
 ·cases h;obtain⟨x,hx,_⟩:=r;exact⟨x,hx⟩
 ·cases h;obtain⟨x,hx,_⟩:=r;exact⟨x,hx⟩
 ·cases h
end
def ek (Y:Nat→T)(os:List Ro1)(i:Nat):Kd:=
 match os[i]? with
 |some r=>(match ia (mL Y i) r.gd with|some ab=>kd r.op|_=>.r)
 |none=>.r
section
variable {P:Program} {k:Cls} {Bt:aP} {F0:Nat→Prop} {N:Nat} {φ0:Nat→Option Nat} {w0:World} {H:Hp} {S:List Nat} {cf:av} {τ:List T} {os:List Ro1} {Y:Nat→T} {Hf:Nat→Hp} {Sf wf:Nat→List Nat} {rf:Nat→Option Nat}
structure JInv (P:Program) (k:Cls) (Bt:aP) (F0:Nat→Prop) (N:Nat) (φ0:Nat→Option Nat) (w0:World) (H:Hp) (S:List Nat) (os:List Ro1) (Y:Nat→T) (Hf:Nat→Hp) (Sf:Nat→List Nat)
  (L:Nat→Prop) (v:Nat→Value) (w:World) (m:Nat) (φ:Nat→Option Nat) (A:Nat→Nat) (G:Nat→Prop):Prop where
 le:m≤os.length
 pre:∀j,j<m→ek Y os j≠.r→L j
 post:∀j,m≤j→L j→ek Y os j≠.o
 below:Bel N w0 w
 hr:HR k Bt G N φ w (Hf m) (Sf m)
 kp:Kp (Fo F0 φ0 H S) φ0 w0 (Fo G φ (Hf m) (Sf m)) φ w
 same:∀c,c<H.length→φ c=φ0 c
 old:Old φ0 H S w0 w
 g:∀x,G x↔F0 x∨∃j,(m≤j∧L j∧ek Y os j=.a)∧A j=x
 val:∀j,L j→(j<m∨ek Y os j=.r)→RT k (Fo G φ (Hf m) (Sf m)) φ w (Y j) (v j)
 pend:∀j,m≤j→L j→ek Y os j=.a→N≤A j∧¬F0 (A j)∧(∀j',m≤j'→L j'→ek Y os j'=.a→A j'=A j→j'=j)∧
  ∃blk,Hf (j+1)=Hf j++[Z blk]∧Sf (j+1)=Sf j∧RB k Bt (Fo G φ (Hf m) (Sf m)) φ w (A j) blk∧∀F' φ' w'',φ' (Hf j).length=Z (A j)→RB k Bt F' φ' w'' (A j) blk→RT k F' φ' w'' (Y j) (v j)
def aBS (os:List Ro1)(Y:Nat→T)(L:Nat→Prop)(m:Nat):Prop:=m=os.length∨(m<os.length∧ek Y os m≠.r∧¬L m)
def Tx.r (tx:Tx cf τ os Y Hf Sf wf rf){i:Nat}(hi:i<os.length)(h:ek Y os i=.r):Hf (i+1)=Hf i∧Sf (i+1)=Sf i∧wf i=[]:=by
 have hr:os[i]?=Z os[i]:=aTX hi
 have hst:=tx.st i _ hr
 unfold ek at h
 rw[hr]at h
 simp only at h
 unfold hZ at hst
 split at hst
 ·cases hst
 ·simp only[Option.some.injEq,Prod.mk.injEq]at hst
  obtain⟨_,h1,h2,h3,_⟩:=hst
  exact⟨h1.symm,h2.symm,h3.symm⟩
 ·rename_i hw
  rw[hw]at h
  simp only at h
  rw[h]at hst
  simp only at hst
  split at hst
  ·simp only[Option.some.injEq,Prod.mk.injEq]at hst
   obtain⟨_,h1,h2,h3,_⟩:=hst
   exact⟨h1.symm,h2.symm,h3.symm⟩
  ·cases hst
def Tx.fm (hcf:gF P k Bt cf)(tx:Tx cf τ os Y Hf Sf wf rf){i:Nat}(hi:i<os.length):Fm (Hf i) (wf i) (Hf (i+1)):=
 ald hcf (tx.st i _ (aTX hi))
def Tx.len (hcf:gF P k Bt cf)(tx:Tx cf τ os Y Hf Sf wf rf):∀(d i:Nat),i+d≤os.length→(Hf i).length≤(Hf (i+d)).length
 |0,i,_=>aTS _
 |d+1,i,h=>aUd (Tx.len hcf tx d i (by omega)) (tx.fm hcf (i:=i+d) (by omega)).1
def Tx.chain (hcf:gF P k Bt cf)(tx:Tx cf τ os Y Hf Sf wf rf){b:Nat}:∀(d i:Nat),i+d≤os.length→b<(Hf i).length→(∀j,i≤j→j<i+d→b∉wf j)→(Hf (i+d))[b]?=(Hf i)[b]?
 |0,i,_,_,_=>rfl
 |d+1,i,h,hb,hw=>by
  have h1:=Tx.chain hcf tx d i (by omega) hb fun j h1 h2=>hw j h1 (by omega)
  have h2:=(tx.fm hcf (i:=i+d) (by omega)).2 b (aUj hb (tx.len hcf d i (by omega))) (hw (i+d) (by omega) (by omega))
  show(Hf (i+d+1))[b]?=_
  rw[h2,h1]
def Tx.a (tx:Tx cf τ os Y Hf Sf wf rf){i:Nat}(hi:i<os.length)(h:ek Y os i=.a):wf i=[]:=by
 have hr:os[i]?=Z os[i]:=aTX hi
 have hst:=tx.st i _ hr
 unfold ek at h
 rw[hr]at h
 simp only at h
 unfold hZ at hst
 split at hst
 ·cases hst
 ·simp only[Option.some.injEq,Prod.mk.injEq]at hst
  exact hst.2.2.2.1.symm
 ·rename_i hw
  rw[hw]at h
  simp only at h
  rw[h]at hst
  simp only at hst
  split at hst
  ·simp only[Option.some.injEq,Prod.mk.injEq]at hst
   exact hst.2.2.2.1.symm
  ·cases hst
def apd {i:Nat}{r:Ro1}(hr:os[i]?=Z r){q:Kd}(hq:q≠.r)(h:ek Y os i=q):kd r.op=q∧ia (mL Y i) r.gd=Z ab:=by
 unfold ek at h
 rw[hr]at h
 simp only at h
 split at h
 ·rename_i hw;exact⟨h,hw⟩
 ·exact absurd h.symm hq
def aDQ {L:Nat→Prop}{v:Nat→Value}{w:World}(hcf:gF P k Bt cf)(tx:Tx cf τ os Y Hf Sf wf rf)(h0:Hf 0=H):
  ∀(d m:Nat) (φ:Nat→Option Nat) (A:Nat→Nat) (G:Nat→Prop),m+d=os.length→JInv P k Bt F0 N φ0 w0 H S os Y Hf Sf L v w m φ A G→∃m' φ' G',JInv P k Bt F0 N φ0 w0 H S os Y Hf Sf L v w m' φ' A G'∧aBS os Y L m':=by
 intro d
 induction d with
 |zero=>exact fun m φ A G hm h=>⟨m,φ,G,h,.inl hm⟩
 |succ d ih=>
  intro m φ A G hm h
  have hml:m<os.length:=by omega
  by_cases hr:ek Y os m=.r
  ·obtain⟨e1,e2,_⟩:=tx.r hml hr
   refine ih (m+1) φ A G (by omega) ?_
   have hset:∀j,(m+1≤j∧L j∧ek Y os j=.a)↔(m≤j∧L j∧ek Y os j=.a):=by
    intro j
    constructor
    ·rintro⟨h1,h2⟩;exact⟨by omega,h2⟩
    ·rintro⟨h1,h2,h3⟩
     refine⟨?_,h2,h3⟩
     rcases aT6 m j with h4|h4
     ·exact h4
     ·obtain rfl:j=m:=by omega
      rw[hr]at h3;cases h3
   refine⟨hml,fun j hj he=>?_,fun j hj=>h.post j (by omega),h.below,by rw[e1,e2];exact h.hr,by rw[e1,e2];exact h.kp,h.same,h.old,fun x=>?_,fun j hj he=>?_,fun j hj h2 h3=>?_⟩
   ·rcases aT6 j m with h4|h4
    ·exact h.pre j h4 he
    ·obtain rfl:j=m:=by omega
     exact absurd hr he
   ·rw[h.g x]
    constructor
    ·rintro(h1|⟨j,h1,h2⟩)
     ·exact .inl h1
     ·exact .inr ⟨j,(hset j).2 h1,h2⟩
    ·rintro(h1|⟨j,h1,h2⟩)
     ·exact .inl h1
     ·exact .inr ⟨j,(hset j).1 h1,h2⟩
   ·rw[e1,e2]
    refine h.val j hj ?_
    rcases he with he|he
    ·rcases aT6 j m with h4|h4
     ·exact .inl h4
     ·obtain rfl:j=m:=by omega
      exact .inr hr
    ·exact .inr he
   ·rw[e1,e2]
    obtain⟨p1,p2,p3,p4⟩:=h.pend j (by omega) h2 h3
    exact⟨p1,p2,fun j' h4=>p3 j' (by omega),p4⟩
  ·by_cases hL:L m
   ·have ha:ek Y os m=.a:=by
     have:=h.post m (aTS _) hL
     cases he:ek Y os m with
     |r=>exact absurd he hr
     |o=>exact absurd he this
     |a=>rfl
    obtain⟨p1,p2,p3,blk,p4,p5,p6,p7⟩:=h.pend m (aTS _) hL ha
    have hGm:G (A m):=(h.g _).2 (.inr ⟨m,⟨aTS _,hL,ha⟩,rfl⟩)
    let G':Nat→Prop:=fun x=>F0 x∨∃j,(m+1≤j∧L j∧ek Y os j=.a)∧A j=x
    have hG':∀x,G' x→G x∧x≠A m:=by
     rintro x (hx|⟨j,⟨h1,h2,h3⟩,rfl⟩)
     ·exact⟨(h.g x).2 (.inl hx),fun e=>p2 (e▸hx)⟩
     ·refine⟨(h.g _).2 (.inr ⟨j,⟨by omega,h2,h3⟩,rfl⟩),fun e=>?_⟩
      have:=p3 j (by omega) h2 h3 e
      omega
    have hφn:φ (Hf m).length=U:=h.hr.dom _ (aTS _)
    have q:Kp (Fo G φ (Hf m) (Sf m)) φ w (Fo G' (bw φ (Hf m).length (A m)) (Hf (m+1)) (Sf (m+1))) (bw φ (Hf m).length (A m)) w:=by
     refine⟨vN hφn,fun x _ hf=>⟨rfl,fun hf'=>hf ?_⟩,fun _ vs _ _ h=>⟨vs,h,rfl⟩⟩
     rcases hf' with hx|⟨b,y,hb,hs,hx⟩
     ·exact .inl (hG' x hx).1
     ·rw[p4,getElem?_push]at hb
      rcases iQ hx with⟨_,e⟩|⟨hne,hx⟩
      ·exact .inl (e▸hGm)
      ·rcases hb with hb|⟨hb,_⟩
       ·exact .inr ⟨b,y,hb,by rw[← p5];exact hs,hx⟩
       ·exact absurd hb hne
    have hH:HR k Bt G' N (bw φ (Hf m).length (A m)) w (Hf (m+1)) (Sf (m+1)):=by
     have oldB:∀(b:Nat) y x,(Hf (m+1))[b]?=Z (Z y)→bw φ (Hf m).length (A m) b=Z x→(b=(Hf m).length∧x=A m∧y=blk)∨((Hf m)[b]?=Z (Z y)∧φ b=Z x):=by
      intro b y x hb hx
      rw[p4,getElem?_push]at hb
      rcases iQ hx with⟨e1,e2⟩|⟨hne,hx⟩
      ·rcases hb with hb|⟨_,hb⟩
       ·have:=(aTU.1 hb).1;omega
       ·cases hb;exact .inl ⟨e1,e2,rfl⟩
      ·rcases hb with hb|⟨hb,_⟩
       ·exact .inr ⟨hb,hx⟩
       ·exact absurd hb hne
     refine⟨fun b hb=>?_,fun x hx=>⟨(h.hr.f0 x (hG' x hx).1).1,fun b y hb he=>?_,(h.hr.f0 x (hG' x hx).1).2.2⟩,fun b b' y y' x h1 h2 h3 h4=>?_,fun b y x hb hx=>?_⟩
     ·rw[p4,aTW,List.length_singleton]at hb
      rw[eZ (by omega)]
      exact h.hr.dom b (by omega)
     ·rcases oldB b y x hb he with⟨_,e,_⟩|⟨h1,h2⟩
      ·exact(hG' x hx).2 e
      ·exact(h.hr.f0 x (hG' x hx).1).2.1 b y h1 h2
     ·rcases oldB b y x h1 h3 with⟨e1,e2,_⟩|⟨g1,g2⟩<;>rcases oldB b' y' x h2 h4 with⟨e1',e2',_⟩|⟨g1',g2'⟩
      ·rw[e1,e1']
      ·exact absurd (e2▸g2') ((h.hr.f0 _ hGm).2.1 b' y' g1')
      ·exact absurd (e2'▸g2) ((h.hr.f0 _ hGm).2.1 b y g1)
      ·exact h.hr.inj b b' y y' x g1 g1' g2 g2'
     ·rcases oldB b y x hb hx with⟨_,rfl,rfl⟩|⟨h1,h2⟩
      ·exact⟨p1,RB.kp q p6 rfl⟩
      ·obtain⟨g1,g2⟩:=h.hr.at_ b y x h1 h2
       exact⟨g1,RB.kp q g2 rfl⟩
    refine ih (m+1) (bw φ (Hf m).length (A m)) A G' (by omega) ⟨hml,fun j hj he=>?_,fun j hj=>h.post j (by omega),h.below,hH,h.kp.trans q h.below.size,fun c hc=>?_,h.old,fun x=>Iff.rfl,fun j hj he=>?_,fun j hj h2 h3=>?_⟩
    ·rcases aT6 j m with h4|h4
     ·exact h.pre j h4 he
     ·obtain rfl:j=m:=by omega
      exact hL
    ·have hle:H.length≤(Hf m).length:=by
      have:=tx.len hcf m 0 (by omega)
      rw[aUe,h0]at this
      exact this
     rw[eZ (by omega)]
     exact h.same c hc
    ·by_cases hjm:j=m
     ·subst hjm
      exact p7 _ _ _ gN (RB.kp q p6 rfl)
     ·exact RT.kp q (h.val j hj (he.imp (fun h=>by omega) id))
    ·obtain⟨q1,q2,q3,blk',q4,q5,q6,q7⟩:=h.pend j (by omega) h2 h3
     exact⟨q1,q2,fun j' h4=>q3 j' (by omega),blk',q4,q5,RB.kp q q6 rfl,q7⟩
   ·exact⟨m,φ,G,h,.inr ⟨hml,hr,hL⟩⟩
def JJ (P:Program)(k:Cls)(Bt:aP)(F0:Nat→Prop)(N:Nat)(φ0:Nat→Option Nat)(w0:World)(H:Hp)(S:List Nat)(os:List Ro1)(Y:Nat→T)(Hf:Nat→Hp)(Sf:Nat→List Nat)(L:Nat→Prop)(v:Nat→Value)(w:World):Prop:=
 ∃m φ A G,JInv P k Bt F0 N φ0 w0 H S os Y Hf Sf L v w m φ A G∧aBS os Y L m
def JInv.jj {L:Nat→Prop}{v:Nat→Value}{w:World}{m:Nat}{φ:Nat→Option Nat}{A:Nat→Nat}{G:Nat→Prop}(hcf:gF P k Bt cf)(tx:Tx cf τ os Y Hf Sf wf rf)(h0:Hf 0=H)(h:JInv P k Bt F0 N φ0 w0 H S os Y Hf Sf L v w m φ A G):
  JJ P k Bt F0 N φ0 w0 H S os Y Hf Sf L v w:=by
 have hle:=h.le
 obtain⟨m',φ',G',h1,h2⟩:=aDQ hcf tx h0 (os.length-m) m φ A G (by omega) h
 exact⟨m',φ',A,G',h1,h2⟩
end
end
end Go.Mach
