/-
  The machine, first part: rules, values, operations.
-/
import Derived.WalkKit
import Derived.OrdersIn
import Derived.LoopNIn
import Derived.LoopIn
import Derived.RangeFuncLeaves
import Derived.OwnWalkIn
import Derived.Lib.SliceRun
set_option linter.all false
set_option linter.unusedSectionVars false
set_option linter.constructorNameAsVariable false
namespace Go.Flow
open Go Go.RowKit

/-- w' is w with more memory; nothing that was there has changed. -/
abbrev Ext (w w' : World) : Prop := Below w.heap.size w w'

theorem Ext.refl (w : World) : Ext w w := Below.refl _ _
theorem Ext.trans {a b c : World} (h : Ext a b) (k : Ext b c) : Ext a c := Below.trans h (Below.mono k h.size)

/-- A fact of a value that growing memory keeps. -/
structure MP where
  S : Value → World → Prop
  mono : ∀ u w w', Ext w w' → S u w → S u w'

def MP.eq (X : Value) : MP := ⟨fun u _ => u = X, fun _ _ _ _ h => h⟩
def MP.any : MP := ⟨fun _ _ => True, fun _ _ _ _ h => h⟩

section
variable {P : Program} {ops : Array Oper}

def yieldsUpon (P : Program) (G : Value → World → Prop) : Result Next → Prop
  | .ok (.value u) w' => G u w'
  | .ok .skip w' => G undef w'
  | .ok (.enter f args) w' => Calls P f args w' (fun e w'' => ∃ u, e = .returned u ∧ G u w'')
  | _ => False

@[go_sem] theorem yieldsUpon_value (G : Value → World → Prop) (u : Value) (w : World) : yieldsUpon P G (.ok (.value u) w) = G u w := rfl
@[go_sem] theorem yieldsUpon_enter (G : Value → World → Prop) (f : FuncId) (args : Array Value) (w : World) :
    yieldsUpon P G (.ok (.enter f args) w) = Calls P f args w (fun e w'' => ∃ u, e = .returned u ∧ G u w'') := rfl

def putL (a : Act) (v : Nat → Value) : List (Nat × Tmp) → Act
  | [] => a
  | (j, t) :: r => (putL a v r).put (some t) (v j)

def wantedV (o : Oper) (v : Nat → Value) : Bool :=
  match o.guard with
  | none => true
  | some (g, want) => match v g with | .bool b => b == want | _ => false

def Facts (S : List MP) (v : Nat → Value) (w : World) : List (Nat × Tmp) → Prop
  | [] => True
  | (j, _) :: r => (S.getD j MP.any).S (v j) w ∧ Facts S v w r

/-- The step of operation o, whose ancestors' values are known by S. -/
def StepAt (P : Program) (a0 : Act) (w0 : World) (o : Oper) (l : List (Nat × Tmp)) (S : List MP) (s : MP) : Prop :=
  ∀ (v : Nat → Value) (w : World), Ext w0 w → Facts S v w l →
    if wantedV o v then yieldsUpon P (fun u w' => Ext w w' ∧ s.S u w') ((execOp (putL a0 v l).eval o).run P w) else s.S undef w

def FlowR (P : Program) (a0 : Act) (w0 : World) (fin : List MP → Prop) : List (List (Nat × Tmp)) → List Oper → List MP → Prop
  | [], _, S => fin S
  | l :: ls, o :: os, S => ∃ s : MP, StepAt P a0 w0 o l S s ∧ FlowR P a0 w0 fin ls os (S ++ [s])
  | _ :: _, [], _ => False

def maskOf (acc : List Nat) (o : Oper) : Nat :=
  o.after.toList.foldl (fun s e => if Region.binds .any e then s ||| 2 ^ e.on ||| acc.getD e.on 0 else s) 0
def masks : List Nat → List Oper → List Nat
  | acc, [] => acc
  | acc, o :: r => masks (acc ++ [maskOf acc o]) r

def isSelect : Op → Bool
  | .select .. => true
  | _ => false

def tmpsOf (o : Oper) : List Tmp := o.op.operands.toList.filterMap fun | .tmp t => some t | _ => none

/-- What the kernel looks at once a region. -/
def flowChk (ops : Array Oper) (m : Nat) (anc : List (List (Nat × Tmp))) : Bool :=
  let M := masks [] ops.toList
  anc.length == m && Nat.ble m ops.size &&
  (List.range ops.size).all fun i =>
    match ops[i]? with
    | none => false
    | some o =>
      o.after.toList.all (fun e => !Region.binds .any e || Nat.blt e.on i) &&
      if Nat.blt i m then
        let l := anc.getD i []
        !isSelect o.op &&
        l.all (fun (j, t) => Nat.blt j i && (M.getD i 0).testBit j && (match (ops[j]?).bind (·.dst) with | some t' => t' == t | none => false)) &&
        (match o.guard with | none => true | some (g, _) => Nat.blt g m && l.any (fun (j, _) => j == g)) &&
        (List.range m).all (fun j => match (ops[j]?).bind (·.dst) with
          | none => true
          | some t => (j == i || o.dst != some t) && (!(tmpsOf o).contains t || l.any (fun (k, _) => k == j) || (M.getD j 0).testBit i))
      else (List.range m).all fun j => (M.getD i 0).testBit j

theorem foldl_bits (acc : List Nat) (j : Nat) : ∀ (l : List Edge) (s : Nat),
    (l.foldl (fun s e => if Region.binds .any e then s ||| 2 ^ e.on ||| acc.getD e.on 0 else s) s).testBit j = true →
      s.testBit j = true ∨ ∃ e ∈ l, Region.binds .any e = true ∧ (j = e.on ∨ (acc.getD e.on 0).testBit j = true)
  | [], s, h => .inl h
  | e :: r, s, h => by
    rw [List.foldl_cons] at h
    rcases foldl_bits acc j r _ h with h1 | ⟨e', he', hb⟩
    · by_cases hb : Region.binds .any e = true
      · rw [if_pos hb, Nat.testBit_or, Nat.testBit_or, Bool.or_eq_true, Bool.or_eq_true] at h1
        rcases h1 with (h1 | h1) | h1
        · exact .inl h1
        · rw [Nat.testBit_two_pow, decide_eq_true_eq] at h1
          exact .inr ⟨e, List.mem_cons_self, hb, .inl h1.symm⟩
        · exact .inr ⟨e, List.mem_cons_self, hb, .inr h1⟩
      · rw [if_neg hb] at h1; exact .inl h1
    · exact .inr ⟨e', List.mem_cons_of_mem _ he', hb⟩

/-- What is reached from what is listed is listed, too. -/
theorem masks_spec {L : Nat → Prop} : ∀ (os : List Oper) (acc : List Nat) (_hall : ∀ i o, os[i]? = some o → L (acc.length + i) → ∀ e ∈ o.after, Region.binds .any e = true → L e.on)
    (_hacc : ∀ i, L i → ∀ j, i < acc.length → (acc.getD i 0).testBit j = true → L j),
    ∀ i, L i → ∀ j, ((masks acc os).getD i 0).testBit j = true → L j
  | [], acc, _, hacc, i, hi, j, hb => by
    by_cases hlt : i < acc.length
    · exact hacc i hi j hlt hb
    · rw [masks, List.getD_eq_getElem?_getD, List.getElem?_eq_none (by omega)] at hb
      simp at hb
  | o :: r, acc, hall, hacc, i, hi, j, hb => by
    rw [masks] at hb
    refine masks_spec r (acc ++ [maskOf acc o]) ?_ ?_ i hi j hb
    · intro k o' ho' hL
      rw [List.length_append, List.length_singleton, Nat.add_assoc, Nat.add_comm 1 k] at hL
      exact hall (k + 1) o' (by simpa using ho') hL
    · intro k hk x hlt hbit
      rw [List.length_append, List.length_singleton] at hlt
      by_cases hkl : k < acc.length
      · rw [List.getD_eq_getElem?_getD, List.getElem?_append_left hkl, ← List.getD_eq_getElem?_getD] at hbit
        exact hacc k hk x hkl hbit
      · obtain rfl : k = acc.length := by omega
        rw [List.getD_eq_getElem?_getD, List.getElem?_append_right (Nat.le_refl _), Nat.sub_self, List.getElem?_cons_zero, Option.getD_some, maskOf] at hbit
        rcases foldl_bits acc x _ _ hbit with h0 | ⟨e, he, hbd, h1⟩
        · simp at h0
        · have hLe := hall 0 o rfl (by simpa using hk) e (by simpa using he) hbd
          rcases h1 with rfl | h1
          · exact hLe
          · by_cases hel : e.on < acc.length
            · exact hacc e.on hLe x hel h1
            · rw [List.getD_eq_getElem?_getD, List.getElem?_eq_none (by omega)] at h1
              simp at h1

/-- What is reached lies before. -/
theorem masks_below : ∀ (os : List Oper) (acc : List Nat) (_hall : ∀ i o, os[i]? = some o → ∀ e ∈ o.after, Region.binds .any e = true → e.on < acc.length + i)
    (_hacc : ∀ i j, i < acc.length → (acc.getD i 0).testBit j = true → j < i), ∀ i j, ((masks acc os).getD i 0).testBit j = true → j < i
  | [], acc, _, hacc, i, j, hb => by
    by_cases hlt : i < acc.length
    · exact hacc i j hlt hb
    · rw [masks, List.getD_eq_getElem?_getD, List.getElem?_eq_none (by omega)] at hb
      simp at hb
  | o :: r, acc, hall, hacc, i, j, hb => by
    rw [masks] at hb
    refine masks_below r (acc ++ [maskOf acc o]) ?_ ?_ i j hb
    · intro k o' ho' e he hbd
      have := hall (k + 1) o' (by simpa using ho') e he hbd
      rw [List.length_append, List.length_singleton]; omega
    · intro k x hlt hbit
      rw [List.length_append, List.length_singleton] at hlt
      by_cases hkl : k < acc.length
      · rw [List.getD_eq_getElem?_getD, List.getElem?_append_left hkl, ← List.getD_eq_getElem?_getD] at hbit
        exact hacc k x hkl hbit
      · obtain rfl : k = acc.length := by omega
        rw [List.getD_eq_getElem?_getD, List.getElem?_append_right (Nat.le_refl _), Nat.sub_self, List.getElem?_cons_zero, Option.getD_some, maskOf] at hbit
        rcases foldl_bits acc x _ _ hbit with h0 | ⟨e, he, hbd, h1⟩
        · simp at h0
        · have hLe := hall 0 o rfl e (by simpa using he) hbd
          rcases h1 with rfl | h1
          · simpa using hLe
          · by_cases hel : e.on < acc.length
            · have := hacc e.on x hel h1
              simp at hLe; omega
            · rw [List.getD_eq_getElem?_getD, List.getElem?_eq_none (by omega)] at h1
              simp at h1

theorem putL_defers (a : Act) (v : Nat → Value) : ∀ l, (putL a v l).defers = a.defers
  | [] => rfl
  | (_, _) :: r => putL_defers a v r
theorem putL_size (a : Act) (v : Nat → Value) : ∀ l, (putL a v l).tmps.size = a.tmps.size
  | [] => rfl
  | (j, t) :: r => by
    show (Array.setIfInBounds _ _ _).size = _
    rw [Array.size_setIfInBounds]; exact putL_size a v r
theorem putL_far (a : Act) (v : Nat → Value) (t : Tmp) : ∀ l : List (Nat × Tmp), (∀ j, (j, t) ∉ l) → (putL a v l).tmps[t]? = a.tmps[t]?
  | [], _ => rfl
  | (j, t') :: r, h => by
    show (Array.setIfInBounds _ _ _)[t]? = _
    have hne : t' ≠ t := fun e => h j (by rw [e]; exact List.mem_cons_self)
    rw [Array.getElem?_setIfInBounds_ne hne]
    exact putL_far a v t r fun k hk => h k (List.mem_cons_of_mem _ hk)
theorem putL_at (a : Act) (v : Nat → Value) (j : Nat) (t : Tmp) (ht : t < a.tmps.size) : ∀ l : List (Nat × Tmp), (j, t) ∈ l → (∀ k, (k, t) ∈ l → k = j) → (putL a v l).tmps[t]? = some (v j)
  | [], h, _ => absurd h (by simp)
  | (k, t') :: r, h, hu => by
    show (Array.setIfInBounds _ _ _)[t]? = _
    by_cases hne : t' = t
    · subst hne
      have hk : k = j := hu k List.mem_cons_self
      subst hk
      rw [Array.getElem?_setIfInBounds_self_of_lt (by rw [putL_size]; exact ht)]
    · rw [Array.getElem?_setIfInBounds_ne hne]
      refine putL_at a v j t ht r ?_ fun x hx => hu x (List.mem_cons_of_mem _ hx)
      rcases List.mem_cons.1 h with h | h
      · exact absurd (congrArg Prod.snd h).symm hne
      · exact h

theorem getD_true_iff {l : Array Bool} {i : Nat} : l.getD i false = true ↔ l[i]? = some true := by
  rw [Array.getD_eq_getD_getElem?]
  cases h : l[i]? <;> simp

/-- What has been carried out: the facts of its values, in this world; the frame. -/
structure Inv (ops : Array Oper) (m : Nat) (S : List MP) (a0 : Act) (w0 : World) (listed : Array Bool) (v : Nat → Value) (a : Act) (w : World) : Prop where
  size : listed.size = ops.size
  closed : ∀ i o, ops[i]? = some o → listed.getD i false = true → ∀ e ∈ o.after, Region.binds .any e = true → listed.getD e.on false = true
  notail : ∀ i, m ≤ i → listed.getD i false = false
  ext : Ext w0 w
  facts : ∀ i, listed.getD i false = true → (S.getD i MP.any).S (v i) w
  defers : a.defers = a0.defers
  tsize : a.tmps.size = a0.tmps.size
  at_ : ∀ i o t, ops[i]? = some o → listed.getD i false = true → o.dst = some t → t < a0.tmps.size → a.tmps[t]? = some (v i)
  far : ∀ t, (∀ i o, ops[i]? = some o → listed.getD i false = true → o.dst ≠ some t) → a.tmps[t]? = a0.tmps[t]?

def dsts (ops : Array Oper) (m : Nat) : List (Nat × Tmp) := (List.range m).filterMap fun i => ((ops[i]?).bind (·.dst)).map fun t => (i, t)

/-- The steps, each against the facts of all. -/
def StepsAll (P : Program) (ops : Array Oper) (m : Nat) (anc : List (List (Nat × Tmp))) (S : List MP) (a0 : Act) (w0 : World) : Prop :=
  ∀ i o, i < m → ops[i]? = some o → StepAt P a0 w0 o (anc.getD i []) S (S.getD i MP.any)

theorem Facts.of_all {S : List MP} {v : Nat → Value} {w : World} : ∀ (l : List (Nat × Tmp)), (∀ p ∈ l, (S.getD p.1 MP.any).S (v p.1) w) → Facts S v w l
  | [], _ => trivial
  | (j, t) :: r, h => ⟨h (j, t) List.mem_cons_self, Facts.of_all r fun p hp => h p (List.mem_cons_of_mem _ hp)⟩

theorem Facts.more {S : List MP} (S' : List MP) {v : Nat → Value} {w : World} : ∀ (l : List (Nat × Tmp)), (∀ p ∈ l, p.1 < S.length) → Facts (S ++ S') v w l → Facts S v w l
  | [], _, _ => trivial
  | (j, t) :: r, hl, h => by
    refine ⟨?_, Facts.more S' r (fun p hp => hl p (List.mem_cons_of_mem _ hp)) h.2⟩
    have := h.1
    rw [List.getD_eq_getElem?_getD, List.getElem?_append_left (hl (j, t) List.mem_cons_self), ← List.getD_eq_getElem?_getD] at this
    exact this

theorem FlowR.all {a0 : Act} {w0 : World} {fin : List MP → Prop} : ∀ (ls : List (List (Nat × Tmp))) (os : List Oper) (S : List MP),
    (∀ i l, ls[i]? = some l → ∀ p ∈ l, p.1 < S.length + i) → FlowR P a0 w0 fin ls os S →
    ∃ S', S'.length = ls.length ∧ fin (S ++ S') ∧ ∀ i o l, ls[i]? = some l → os[i]? = some o → StepAt P a0 w0 o l (S ++ S') ((S ++ S').getD (S.length + i) MP.any)
  | [], _, S, _, h => ⟨[], rfl, by simpa [FlowR] using h, fun i o l hl => by simp at hl⟩
  | l :: ls, [], S, _, h => h.elim
  | l :: ls, o :: os, S, hb, h => by
    obtain ⟨s, hs, hr⟩ := h
    obtain ⟨S', hlen, hfin, hall⟩ := FlowR.all ls os (S ++ [s]) (fun i l' hl' p hp => by
      have := hb (i + 1) l' (by simpa using hl') p hp
      rw [List.length_append, List.length_singleton]; omega) hr
    have eqS : S ++ [s] ++ S' = S ++ (s :: S') := by simp
    rw [eqS] at hfin hall
    refine ⟨s :: S', by simp [hlen], hfin, fun i o' l' hl' ho' => ?_⟩
    cases i with
    | zero =>
      simp at hl' ho'
      subst hl'; subst ho'
      have hg : (S ++ s :: S').getD (S.length + 0) MP.any = s := by simp [List.getD_eq_getElem?_getD]
      rw [hg]
      intro v w hw hf
      exact hs v w hw (Facts.more (s :: S') _ (fun p hp => by have := hb 0 l rfl p hp; omega) hf)
    | succ i =>
      have := hall i o' l' (by simpa using hl') (by simpa using ho')
      rw [List.length_append, List.length_singleton, Nat.add_assoc, Nat.add_comm 1 i] at this
      exact this

structure Chk (ops : Array Oper) (m : Nat) (anc : List (List (Nat × Tmp))) : Prop where
  len : anc.length = m
  le : m ≤ ops.size
  back : ∀ i o, ops[i]? = some o → ∀ e ∈ o.after, Region.binds .any e = true → e.on < i
  nosel : ∀ i o, i < m → ops[i]? = some o → ∀ cs b, o.op ≠ .select cs b
  ancs : ∀ i o, i < m → ops[i]? = some o → ∀ p ∈ anc.getD i [], p.1 < i ∧ ((masks [] ops.toList).getD i 0).testBit p.1 = true ∧ (ops[p.1]?).bind (·.dst) = some p.2
  guard : ∀ i o g b, i < m → ops[i]? = some o → o.guard = some (g, b) → g < m ∧ ∃ t, (g, t) ∈ anc.getD i []
  uniq : ∀ i o j oj t, i < m → ops[i]? = some o → j < m → ops[j]? = some oj → oj.dst = some t → o.dst = some t → j = i
  opnd : ∀ i o j oj t, i < m → ops[i]? = some o → j < m → ops[j]? = some oj → oj.dst = some t → t ∈ tmpsOf o → (∃ t', (j, t') ∈ anc.getD i []) ∨ ((masks [] ops.toList).getD j 0).testBit i = true
  tail : ∀ i, m ≤ i → i < ops.size → ∀ j, j < m → ((masks [] ops.toList).getD i 0).testBit j = true

theorem chk_of {m : Nat} {anc : List (List (Nat × Tmp))} (h : flowChk ops m anc = true) : Chk ops m anc := by
  simp only [flowChk, Bool.and_eq_true, beq_iff_eq, Nat.ble_eq] at h
  obtain ⟨⟨h1, h2⟩, h3⟩ := h
  have key : ∀ i o, ops[i]? = some o → _ := fun i o ho => by
    have hlt : i < ops.size := (Array.getElem?_eq_some_iff.1 ho).1
    have := List.all_eq_true.1 h3 i (List.mem_range.2 hlt)
    simp only [ho] at this
    exact this
  have lt_of {i : Nat} {o : Oper} (ho : ops[i]? = some o) : i < ops.size := (Array.getElem?_eq_some_iff.1 ho).1
  have inner : ∀ i o, i < m → ops[i]? = some o → _ := fun i o hi ho => by
    have := key i o ho
    rw [Bool.and_eq_true] at this
    have h2 := this.2
    rw [if_pos (by simpa using hi)] at h2
    simp only [Bool.and_eq_true] at h2
    exact h2
  refine ⟨h1, h2, ?_, ?_, ?_, ?_, ?_, ?_, ?_⟩
  · intro i o ho e he hb
    have := key i o ho
    rw [Bool.and_eq_true] at this
    have := List.all_eq_true.1 this.1 e (by simpa using he)
    rw [hb] at this
    simpa using this
  · intro i o hi ho cs b heq
    have := (inner i o hi ho).1.1.1
    rw [heq] at this
    simp [isSelect] at this
  · intro i o hi ho p hp
    have := List.all_eq_true.1 (inner i o hi ho).1.1.2 p hp
    obtain ⟨j, t⟩ := p
    simp only [Bool.and_eq_true] at this
    obtain ⟨⟨a1, a2⟩, a3⟩ := this
    refine ⟨by simpa using a1, a2, ?_⟩
    cases hd : (ops[j]?).bind (·.dst) with
    | none => rw [hd] at a3; simp at a3
    | some t' => rw [hd] at a3; simpa using a3
  · intro i o g b hi ho hg
    have := (inner i o hi ho).1.2
    rw [hg] at this
    simp only [Bool.and_eq_true, List.any_eq_true] at this
    obtain ⟨a1, ⟨j, t⟩, hp, heq⟩ := this
    refine ⟨by simpa using a1, t, ?_⟩
    have : j = g := by simpa using heq
    subst this; exact hp
  · intro i o j oj t hi ho hj hoj hd hd'
    have := List.all_eq_true.1 (inner i o hi ho).2 j (List.mem_range.2 hj)
    simp only [hoj, Option.bind_some, hd, Bool.and_eq_true, Bool.or_eq_true] at this
    rcases this.1 with h | h
    · simpa using h
    · rw [hd'] at h; simp at h
  · intro i o j oj t hi ho hj hoj hd ht
    have := List.all_eq_true.1 (inner i o hi ho).2 j (List.mem_range.2 hj)
    simp only [hoj, Option.bind_some, hd, Bool.and_eq_true, Bool.or_eq_true] at this
    rcases this.2 with (h | h) | h
    · rw [Bool.not_eq_true', List.contains_eq_mem] at h
      simp [ht] at h
    · obtain ⟨⟨k, t'⟩, hp, heq⟩ := List.any_eq_true.1 h
      have : k = j := by simpa using heq
      subst this
      exact .inl ⟨t', hp⟩
    · exact .inr h
  · intro i hi hlt j hj
    have ho : ops[i]? = some ops[i] := Array.getElem?_eq_getElem hlt
    have := key i _ ho
    rw [Bool.and_eq_true] at this
    have h2 := this.2
    rw [if_neg (by simpa using hi)] at h2
    exact List.all_eq_true.1 h2 j (List.mem_range.2 hj)

def listedM (ops : Array Oper) (m : Nat) : Array Bool := ((List.range ops.size).map fun i => Nat.blt i m).toArray

def left (m : Nat) (listed : Array Bool) : Nat := ((List.range m).filter fun i => !listed.getD i false).length

theorem left_zero {m : Nat} {listed : Array Bool} (h : left m listed = 0) (i : Nat) (hi : i < m) : listed.getD i false = true := by
  have := List.eq_nil_of_length_eq_zero h
  rw [List.filter_eq_nil_iff] at this
  simpa using this i (List.mem_range.2 hi)

theorem filter_drop_one (p q : Nat → Bool) (i : Nat) (hpi : p i = true) (hqi : q i = false) (hpq : ∀ j, j ≠ i → p j = q j) :
    ∀ l : List Nat, l.Nodup → i ∈ l → (l.filter p).length = (l.filter q).length + 1
  | [], _, h => by cases h
  | x :: r, hn, h => by
    rw [List.nodup_cons] at hn
    by_cases hx : x = i
    · subst hx
      rw [List.filter_cons_of_pos hpi, List.filter_cons_of_neg (by simp [hqi]), List.length_cons]
      congr 2
      exact List.filter_congr fun j hj => hpq j fun e => hn.1 (e ▸ hj)
    · have hr : i ∈ r := by
        rcases List.mem_cons.1 h with h | h
        · exact absurd h.symm hx
        · exact h
      have ih := filter_drop_one p q i hpi hqi hpq r hn.2 hr
      by_cases hp : p x = true
      · rw [List.filter_cons_of_pos hp, List.filter_cons_of_pos (by rw [← hpq x hx]; exact hp), List.length_cons, List.length_cons, ih]
      · rw [List.filter_cons_of_neg hp, List.filter_cons_of_neg (by rw [← hpq x hx]; exact hp), ih]

theorem left_set {m : Nat} {listed : Array Bool} {i : Nat} (hi : i < m) (hs : i < listed.size) (hu : listed.getD i false = false) :
    left m listed = left m (listed.setIfInBounds i true) + 1 := by
  refine filter_drop_one _ _ i (by simp [hu]) ?_ ?_ _ List.nodup_range (List.mem_range.2 hi)
  · simp [hs]
  · intro j hj
    simp only [Array.getD_eq_getD_getElem?, Array.getElem?_setIfInBounds_ne (Ne.symm hj)]

def upd (v : Nat → Value) (i : Nat) (u : Value) : Nat → Value := fun k => if k = i then u else v k

theorem Inv.put {m : Nat} {anc : List (List (Nat × Tmp))} {S : List MP} {a0 : Act} {w0 : World} (c : Chk ops m anc) {listed : Array Bool} {v : Nat → Value} {a : Act} {w w' : World} {i : Nat} {o : Oper} {u : Value}
    (h : Inv ops m S a0 w0 listed v a w) (hi : i < m) (ho : ops[i]? = some o) (hun : listed.getD i false = false) (hall : ∀ e ∈ o.after, Region.binds .any e = true → listed.getD e.on false = true)
    (hext : Ext w w') (hs : (S.getD i MP.any).S u w') : Inv ops m S a0 w0 (listed.setIfInBounds i true) (upd v i u) (a.put o.dst u) w' := by
  have hsz : i < listed.size := by rw [h.size]; exact (Array.getElem?_eq_some_iff.1 ho).1
  have hne {j : Nat} (hj : j ≠ i) : (listed.setIfInBounds i true).getD j false = listed.getD j false := by
    simp only [Array.getD_eq_getD_getElem?, Array.getElem?_setIfInBounds_ne (Ne.symm hj)]
  have hltm {j : Nat} (hj : listed.getD j false = true) : j < m := by
    rcases Nat.lt_or_ge j m with h1 | h1
    · exact h1
    · rw [h.notail j h1] at hj; cases hj
  refine ⟨by simpa using h.size, ?_, ?_, h.ext.trans hext, ?_, ?_, ?_, ?_, ?_⟩
  · intro j oj hoj hj e he hb
    refine getD_set_true ?_
    by_cases hji : j = i
    · subst hji; rw [ho] at hoj; cases hoj; exact hall e he hb
    · exact h.closed j oj hoj (by rw [← hne hji]; exact hj) e he hb
  · intro j hj
    rw [hne (by omega)]; exact h.notail j hj
  · intro j hj
    by_cases hji : j = i
    · subst hji; simpa [upd] using hs
    · rw [hne hji] at hj
      simp only [upd, if_neg hji]
      exact (S.getD j MP.any).mono _ _ _ hext (h.facts j hj)
  · cases o.dst <;> exact h.defers
  · cases o.dst
    · exact h.tsize
    · show (Array.setIfInBounds _ _ _).size = _
      rw [Array.size_setIfInBounds]; exact h.tsize
  · intro j oj t hoj hj hd ht
    by_cases hji : j = i
    · subst hji
      rw [ho] at hoj; cases hoj
      rw [hd]
      show (Array.setIfInBounds _ _ _)[t]? = _
      rw [Array.getElem?_setIfInBounds_self_of_lt (by rw [h.tsize]; exact ht)]
      simp [upd]
    · rw [hne hji] at hj
      simp only [upd, if_neg hji]
      rw [← h.at_ j oj t hoj hj hd ht]
      cases hdo : o.dst with
      | none => rfl
      | some t' =>
        show (Array.setIfInBounds _ _ _)[t]? = _
        rw [Array.getElem?_setIfInBounds_ne]
        rintro rfl
        exact hji (c.uniq i o j oj t' hi ho (hltm hj) hoj hd hdo)
  · intro t ht
    have h1 : a.tmps[t]? = a0.tmps[t]? := h.far t fun j oj hoj hj => ht j oj hoj (getD_set_true hj)
    rw [← h1]
    cases hdo : o.dst with
    | none => rfl
    | some t' =>
      show (Array.setIfInBounds _ _ _)[t]? = _
      rw [Array.getElem?_setIfInBounds_ne]
      rintro rfl
      exact ht i o ho (by simp [hsz]) hdo

/-- The frame before operation i is, for all that it looks at, its ancestors' values put into the first frame. -/
theorem Inv.eval {m : Nat} {anc : List (List (Nat × Tmp))} {S : List MP} {a0 : Act} {w0 : World} (c : Chk ops m anc) {listed : Array Bool} {v : Nat → Value} {a : Act} {w : World} {i : Nat} {o : Oper}
    (h : Inv ops m S a0 w0 listed v a w) (hi : i < m) (ho : ops[i]? = some o) (hun : listed.getD i false = false)
    (hanc : ∀ p ∈ anc.getD i [], listed.getD p.1 false = true) (x : Operand) (hx : x ∈ o.op.operands) : a.eval x = (putL a0 v (anc.getD i [])).eval x := by
  cases x with
  | tmp t =>
    have hmem : t ∈ tmpsOf o := List.mem_filterMap.2 ⟨.tmp t, by simpa using hx, rfl⟩
    have hltm {j : Nat} (hj : listed.getD j false = true) : j < m := by
      rcases Nat.lt_or_ge j m with h1 | h1
      · exact h1
      · rw [h.notail j h1] at hj; cases hj
    have hcl : ∀ j, listed.getD j false = true → ∀ k, ((masks [] ops.toList).getD j 0).testBit k = true → listed.getD k false = true :=
      masks_spec (L := fun j => listed.getD j false = true) ops.toList [] (fun j oj hoj hj e he hb => h.closed j oj (by simpa using hoj) (by simpa using hj) e he hb) (fun j _ k hlt => by simp at hlt)
    show a.tmps.getD t undef = (putL a0 v (anc.getD i [])).tmps.getD t undef
    rw [Array.getD_eq_getD_getElem?, Array.getD_eq_getD_getElem?]
    congr 1
    by_cases hw : ∃ j oj, ops[j]? = some oj ∧ listed.getD j false = true ∧ oj.dst = some t
    · obtain ⟨j, oj, hoj, hj, hd⟩ := hw
      have hjm := hltm hj
      rcases c.opnd i o j oj t hi ho hjm hoj hd hmem with ⟨t', ht'⟩ | hbit
      · have h1 := (c.ancs i o hi ho _ ht').2.2
        rw [hoj, Option.bind_some, hd] at h1
        obtain rfl : t' = t := by simpa using h1.symm
        rcases Nat.lt_or_ge t' a0.tmps.size with hts | hts
        · rw [h.at_ j oj t' hoj hj hd hts]
          refine (putL_at a0 v j t' hts _ ht' fun k hk => ?_).symm
          have h2 := (c.ancs i o hi ho _ hk).2.2
          have hkm : k < m := Nat.lt_trans (c.ancs i o hi ho _ hk).1 hi
          cases hok : ops[k]? with
          | none => rw [hok] at h2; cases h2
          | some ok =>
            rw [hok, Option.bind_some] at h2
            exact (c.uniq j oj k ok t' hjm hoj hkm hok h2 hd)
        · rw [Array.getElem?_eq_none (by rw [h.tsize]; exact hts), Array.getElem?_eq_none (by rw [putL_size]; exact hts)]
      · have := hcl j hj i hbit
        rw [hun] at this; cases this
    · rw [h.far t fun j oj hoj hj hd => hw ⟨j, oj, hoj, hj, hd⟩]
      refine (putL_far a0 v t _ fun j hj => hw ?_).symm
      have h1 := (c.ancs i o hi ho _ hj).2.2
      cases hoj : ops[j]? with
      | none => rw [hoj] at h1; cases h1
      | some oj => rw [hoj, Option.bind_some] at h1; exact ⟨j, oj, hoj, hanc _ hj, h1⟩
  | const u => rfl
  | global g => rfl
  | func f => rfl

theorem wanted_eq {m : Nat} {anc : List (List (Nat × Tmp))} {S : List MP} {a0 : Act} {w0 : World} (c : Chk ops m anc) {listed : Array Bool} {v : Nat → Value} {a : Act} {w : World} {i : Nat} {o : Oper}
    (h : Inv ops m S a0 w0 listed v a w) (hi : i < m) (ho : ops[i]? = some o) (hsz : ∀ j oj t, j < m → ops[j]? = some oj → oj.dst = some t → t < a0.tmps.size)
    (hanc : ∀ p ∈ anc.getD i [], listed.getD p.1 false = true) : Region.wanted o (yielded ops a.tmps) = wantedV o v := by
  unfold Region.wanted wantedV
  cases hg : o.guard with
  | none => rfl
  | some gb =>
    obtain ⟨g, b⟩ := gb
    obtain ⟨hgm, t, ht⟩ := c.guard i o g b hi ho hg
    have h1 := (c.ancs i o hi ho _ ht).2.2
    cases hog : ops[g]? with
    | none => rw [hog] at h1; cases h1
    | some og =>
      rw [hog, Option.bind_some] at h1
      have h2 := h.at_ g og t hog (hanc _ ht) h1 (hsz g og t hgm hog h1)
      simp only [yielded, hog, Option.bind_some, h1, h2]
      cases v g <;> simp

/-- Whatever order is drawn, the first m operations come to values of which S holds; what is behind them comes then. -/
theorem flow_any {Q : Exit → Act → World → Prop} {m : Nat} {anc : List (List (Nat × Tmp))} {S : List MP} {a0 : Act} {w0 : World} (c : Chk ops m anc) (hsteps : StepsAll P ops m anc S a0 w0)
    (hsz : ∀ j oj t, j < m → ops[j]? = some oj → oj.dst = some t → t < a0.tmps.size)
    (fin : ∀ v w, Ext w0 w → Facts S v w (dsts ops m) → wpAny P .any ops Q (ops.size - m) (listedM ops m) (putL a0 v (dsts ops m)) w) :
    ∀ (k fuel : Nat) (listed : Array Bool) (v : Nat → Value) (a : Act) (w : World), left m listed = k → fuel = k + (ops.size - m) → Inv ops m S a0 w0 listed v a w → wpAny P .any ops Q fuel listed a w := by
  intro k
  induction k with
  | zero =>
    intro fuel listed v a w hk hf h
    have hall := left_zero hk
    have hl : listed = listedM ops m := by
      apply Array.ext_getElem?
      intro i
      show listed[i]? = ((List.range ops.size).map fun i => Nat.blt i m).toArray[i]?
      rcases Nat.lt_or_ge i ops.size with hi | hi
      · rw [List.getElem?_toArray (xs := (List.range ops.size).map fun i => Nat.blt i m), List.getElem?_map, List.getElem?_range hi, Option.map_some]
        rcases Nat.lt_or_ge i m with hm | hm
        · rw [getD_true_iff.1 (hall i hm)]; simp [hm]
        · have h1 := h.notail i hm
          have hlt : i < listed.size := by rw [h.size]; exact hi
          rw [Array.getElem?_eq_getElem hlt]
          rw [Array.getD_eq_getD_getElem?, Array.getElem?_eq_getElem hlt, Option.getD_some] at h1
          rw [h1]
          have h2 : Nat.blt i m = false := by
            cases hb : Nat.blt i m
            · rfl
            · have : i < m := by rw [Nat.blt_eq] at hb; exact hb
              omega
          rw [h2]
      · rw [Array.getElem?_eq_none (by rw [h.size]; exact hi), List.getElem?_toArray (xs := (List.range ops.size).map fun i => Nat.blt i m), List.getElem?_eq_none (by simpa using hi)]
    have memd : ∀ j t, (j, t) ∈ dsts ops m ↔ j < m ∧ (ops[j]?).bind (·.dst) = some t := by
      intro j t
      simp only [dsts, List.mem_filterMap, List.mem_range, Option.map_eq_some_iff]
      constructor
      · rintro ⟨x, hx, t', ht', he⟩
        cases he
        exact ⟨hx, ht'⟩
      · rintro ⟨hj, ht⟩
        exact ⟨j, hj, t, ht, rfl⟩
    have ha : a = putL a0 v (dsts ops m) := by
      have h1 : a.tmps = (putL a0 v (dsts ops m)).tmps := by
        apply Array.ext_getElem?
        intro t
        by_cases hw : ∃ j oj, ops[j]? = some oj ∧ listed.getD j false = true ∧ oj.dst = some t
        · obtain ⟨j, oj, hoj, hj, hd⟩ := hw
          have hjm : j < m := by
            rcases Nat.lt_or_ge j m with h1 | h1
            · exact h1
            · rw [h.notail j h1] at hj; cases hj
          have hts := hsz j oj t hjm hoj hd
          rw [h.at_ j oj t hoj hj hd hts]
          refine (putL_at a0 v j t hts _ ((memd j t).2 ⟨hjm, by rw [hoj, Option.bind_some, hd]⟩) fun x hx => ?_).symm
          obtain ⟨hxm, hxd⟩ := (memd x t).1 hx
          cases hox : ops[x]? with
          | none => rw [hox] at hxd; cases hxd
          | some ox => rw [hox, Option.bind_some] at hxd; exact c.uniq j oj x ox t hjm hoj hxm hox hxd hd
        · rw [h.far t fun j oj hoj hj hd => hw ⟨j, oj, hoj, hj, hd⟩]
          refine (putL_far a0 v t _ fun j hj => hw ?_).symm
          obtain ⟨hjm, hjd⟩ := (memd j t).1 hj
          cases hoj : ops[j]? with
          | none => rw [hoj] at hjd; cases hjd
          | some oj => rw [hoj, Option.bind_some] at hjd; exact ⟨j, oj, hoj, hall j hjm, hjd⟩
      have h2 : a.defers = (putL a0 v (dsts ops m)).defers := by rw [putL_defers]; exact h.defers
      cases a with
      | mk t d =>
        cases hq : putL a0 v (dsts ops m) with
        | mk t' d' =>
          rw [hq] at h1 h2
          simp only at h1 h2
          rw [h1, h2]
    rw [hf, Nat.zero_add, hl, ha]
    refine fin v w h.ext (Facts.of_all _ fun p hp => h.facts p.1 (hall p.1 ?_))
    obtain ⟨j, t⟩ := p
    exact ((memd j t).1 hp).1
  | succ k ih =>
    intro fuel listed v a w hk hf h
    have hcl : ∀ j, listed.getD j false = true → ∀ x, ((masks [] ops.toList).getD j 0).testBit x = true → listed.getD x false = true :=
      masks_spec (L := fun j => listed.getD j false = true) ops.toList [] (fun j oj hoj hj e he hb => h.closed j oj (by simpa using hoj) (by simpa using hj) e he hb) (fun j _ x hlt => by simp at hlt)
    have hnotall : ¬ ∀ i, i < m → listed.getD i false = true := fun hall => by
      have : left m listed = 0 := by
        unfold left
        rw [List.filter_eq_nil_iff.2 (fun i hi => by simp [hall i (List.mem_range.1 hi)])]
        rfl
      omega
    obtain ⟨f, rfl⟩ : ∃ f, fuel = f + 1 := ⟨k + (ops.size - m), by omega⟩
    refine ⟨fun hr => absurd hr ?_, fun i hi => ?_⟩
    · -- the first that is not listed may come up
      have hex : ∃ i, i < m ∧ listed.getD i false = false ∧ ∀ j, j < i → listed.getD j false = true := by
        have : ∀ n, n ≤ m → (∀ j, j < n → listed.getD j false = true) ∨ ∃ i, i < n ∧ listed.getD i false = false ∧ ∀ j, j < i → listed.getD j false = true := by
          intro n
          induction n with
          | zero => intro _; exact .inl fun j hj => absurd hj (by omega)
          | succ n ihn =>
            intro hn
            rcases ihn (by omega) with h1 | ⟨i, hi, h1, h2⟩
            · by_cases hb : listed.getD n false = true
              · refine .inl fun j hj => ?_
                rcases Nat.lt_or_ge j n with h2 | h2
                · exact h1 j h2
                · obtain rfl : j = n := by omega
                  exact hb
              · exact .inr ⟨n, by omega, by simpa using hb, h1⟩
            · exact .inr ⟨i, by omega, h1, h2⟩
        rcases this m (Nat.le_refl _) with h1 | ⟨i, hi, h1, h2⟩
        · exact absurd h1 hnotall
        · exact ⟨i, hi, h1, h2⟩
      obtain ⟨i, him, hun, hbef⟩ := hex
      have hlt : i < ops.size := Nat.lt_of_lt_of_le him c.le
      have hoi : ops[i]? = some ops[i] := Array.getElem?_eq_getElem hlt
      have hmem : i ∈ Region.ready .any ops listed := mem_ready.2 ⟨by
        have hlt' : i < listed.size := by rw [h.size]; exact hlt
        rw [Array.getD_eq_getD_getElem?, Array.getElem?_eq_getElem hlt'] at hun ⊢
        exact hun, _, hoi, fun e he hb => hbef e.on (c.back i _ hoi e he hb)⟩
      intro hnil
      rw [hnil] at hmem
      cases hmem
    · obtain ⟨hun', o, ho, hall⟩ := mem_ready.1 hi
      have hlt : i < ops.size := (Array.getElem?_eq_some_iff.1 ho).1
      have hlt' : i < listed.size := by rw [h.size]; exact hlt
      have hun : listed.getD i false = false := by
        rw [Array.getD_eq_getD_getElem?, Array.getElem?_eq_getElem hlt'] at hun' ⊢
        exact hun'
      -- all that it reaches is listed
      have hreach : ∀ x, ((masks [] ops.toList).getD i 0).testBit x = true → listed.getD x false = true := by
        intro x hx
        have := masks_spec (L := fun j => listed.getD j false = true ∨ j = i) ops.toList [] (fun j oj hoj hj e he hb => by
          have hoj' : ops[j]? = some oj := by simpa using hoj
          rcases (by simpa using hj : listed.getD j false = true ∨ j = i) with h1 | rfl
          · exact .inl (h.closed j oj hoj' h1 e he hb)
          · rw [ho] at hoj'; cases hoj'; exact .inl (hall e he hb)) (fun j _ x hlt => by simp at hlt) i (.inr rfl) x hx
        rcases this with h1 | rfl
        · exact h1
        · -- nothing reaches itself: by the closure of its own edges
          exact absurd (masks_below ops.toList [] (fun j oj hoj e he hb => by simpa using c.back j oj (by simpa using hoj) e he hb) (fun j x hlt => by simp at hlt) _ _ hx) (Nat.lt_irrefl _)
      have him : i < m := by
        rcases Nat.lt_or_ge i m with h1 | h1
        · exact h1
        · exact absurd (fun j hj => hreach j (c.tail i h1 hlt j hj)) hnotall
      have hanc : ∀ p ∈ anc.getD i [], listed.getD p.1 false = true := fun p hp => hreach p.1 (c.ancs i o him ho p hp).2.1
      have hstep := hsteps i o him ho v w h.ext (Facts.of_all _ fun p hp => h.facts p.1 (hanc p hp))
      have hcnt := left_set him hlt' hun
      have next : ∀ u w', Ext w w' → (S.getD i MP.any).S u w' → wpAny P .any ops Q f (listed.setIfInBounds i true) (a.put o.dst u) w' := fun u w' hx hs =>
        ih f _ (upd v i u) _ w' (by omega) (by omega) (h.put c him ho hun hall hx hs)
      unfold wpOp
      simp only [ho]
      rw [wanted_eq c h him ho hsz hanc]
      by_cases hw : wantedV o v = true
      · rw [if_pos hw] at hstep ⊢
        refine .inl ?_
        unfold Oper.wp
        rw [execOp_congr o (c.nosel i o him ho) (fun x hx => h.eval c him ho hun hanc x hx)]
        generalize (execOp (putL a0 v (anc.getD i [])).eval o).run P w = r at hstep ⊢
        cases r with
        | ok n w' =>
          cases n with
          | value u => exact next u w' hstep.1 hstep.2
          | skip => exact next undef w' hstep.1 hstep.2
          | enter g args =>
            refine Calls.mono hstep fun e w'' he => ?_
            obtain ⟨u, rfl, hx, hs⟩ := he
            exact next u w'' hx hs
          | _ => exact hstep.elim
        | halt x w' => exact hstep.elim
      · rw [if_neg hw] at hstep ⊢
        exact next undef w (Ext.refl w) hstep

def tailChk (ops : Array Oper) (m : Nat) : Bool :=
  ((List.range ops.size).all fun i => Nat.blt i m || Region.ready .any ops (listedM ops i) == [i]) && Region.ready .any ops (listedM ops ops.size) == []

theorem listedM_next {i : Nat} (hi : i < ops.size) : (listedM ops i).setIfInBounds i true = listedM ops (i + 1) := by
  apply Array.ext_getElem?
  intro j
  have g : ∀ k, (listedM ops k)[j]? = if j < ops.size then some (Nat.blt j k) else none := by
    intro k
    show (((List.range ops.size).map fun i => Nat.blt i k).toArray)[j]? = _
    rw [List.getElem?_toArray (xs := (List.range ops.size).map fun i => Nat.blt i k)]
    by_cases hj : j < ops.size
    · rw [List.getElem?_map, List.getElem?_range hj, if_pos hj]; rfl
    · rw [List.getElem?_eq_none (by simpa using hj), if_neg hj]
  by_cases hji : i = j
  · subst hji
    have hs : i < (listedM ops i).size := by simp [listedM, hi]
    rw [Array.getElem?_setIfInBounds_self_of_lt hs, g, if_pos hi]
    congr 1
    symm; rw [Nat.blt_eq]; omega
  · rw [Array.getElem?_setIfInBounds_ne hji, g, g]
    have : Nat.blt j i = Nat.blt j (i + 1) := by
      rw [Bool.eq_iff_iff, Nat.blt_eq, Nat.blt_eq]; omega
    rw [this]

theorem tail_list {Q : Exit → Act → World → Prop} {m : Nat} (h : tailChk ops m = true) : ∀ (k i : Nat) (a : Act) (w : World), m ≤ i → i + k = ops.size →
    wpList P ops Q (ops.toList.drop i) a w → wpAny P .any ops Q k (listedM ops i) a w := by
  rw [tailChk, Bool.and_eq_true] at h
  intro k
  induction k with
  | zero =>
    intro i a w _ hk hl
    have hi : i = ops.size := by omega
    subst hi
    rw [List.drop_eq_nil_of_le (by simp)] at hl
    exact ⟨by simpa using h.2, hl⟩
  | succ k ih =>
    intro i a w hmi hk hl
    have hi : i < ops.size := by omega
    have hr : Region.ready .any ops (listedM ops i) = [i] := by
      have := List.all_eq_true.1 h.1 i (List.mem_range.2 hi)
      rw [Bool.or_eq_true] at this
      rcases this with h1 | h1
      · rw [Nat.blt_eq] at h1; omega
      · simpa using h1
    have hoi : ops[i]? = some ops[i] := Array.getElem?_eq_getElem hi
    have hd : ops.toList.drop i = ops[i] :: ops.toList.drop (i + 1) := by
      rw [List.drop_eq_getElem_cons (by simpa using hi)]; simp
    rw [hd, wpList] at hl
    refine ⟨fun h0 => (by rw [hr] at h0; cases h0), fun j hj => ?_⟩
    rw [hr, List.mem_singleton] at hj
    subst hj
    unfold wpOp
    simp only [hoi]
    have nx : ∀ a w, wpList P ops Q (ops.toList.drop (j + 1)) a w → wpAny P .any ops Q k ((listedM ops j).setIfInBounds j true) a w := fun a w hh => by
      rw [listedM_next hi]; exact ih (j + 1) a w (by omega) (by omega) hh
    split
    · rename_i hw
      rw [if_pos hw] at hl
      exact hl.imp (Oper.wp_mono nx) id
    · rename_i hw
      rw [if_neg hw] at hl
      exact nx _ _ hl

theorem FlowR.steps {a0 : Act} {w0 : World} {fin : List MP → Prop} {m : Nat} {anc : List (List (Nat × Tmp))} (c : Chk ops m anc) (h : FlowR P a0 w0 fin anc ops.toList []) :
    ∃ S, fin S ∧ StepsAll P ops m anc S a0 w0 := by
  obtain ⟨S, hlen, hfin, hall⟩ := FlowR.all anc ops.toList [] (fun i l hl p hp => by
    have him : i < m := by rw [← c.len]; exact (List.getElem?_eq_some_iff.1 hl).1
    have hlt : i < ops.size := Nat.lt_of_lt_of_le him c.le
    have := (c.ancs i _ him (Array.getElem?_eq_getElem hlt) p (by rw [List.getD_eq_getElem?_getD, hl]; exact hp)).1
    simpa using this) h
  refine ⟨S, by simpa using hfin, fun i o him ho => ?_⟩
  have hl : i < anc.length := by rw [c.len]; exact him
  have := hall i o (anc.getD i []) (by rw [List.getD_eq_getElem?_getD, List.getElem?_eq_getElem hl]; rfl) (by simpa using ho)
  simpa using this

/-- THE RULE. m: how many operations only yield values; anc: of each of these the ancestors that it looks at, with their slots; D: all their slots. -/
theorem wp_region_flow {id : Nat} {Q : Exit → Act → World → Prop} {a0 : Act} {w0 : World} (m : Nat) (anc : List (List (Nat × Tmp))) (D : List (Nat × Tmp)) (hm : P.follows .mixedOrders = true)
    (hchk : (flowChk ops m anc && tailChk ops m && dsts ops m == D && D.all fun p => Nat.blt p.2 a0.tmps.size) = true)
    (h : FlowR P a0 w0 (fun S => ∀ v w, Ext w0 w → Facts S v w D → wpList P ops Q (ops.toList.drop m) (putL a0 v D) w) anc ops.toList []) : (Code.region id ops true).wp P Q a0 w0 := by
  simp only [Bool.and_eq_true, beq_iff_eq] at hchk
  obtain ⟨⟨⟨h1, h2⟩, h3⟩, h4⟩ := hchk
  have c := chk_of h1
  have e0 : ∀ w, Ext { w0 with drawn := w0.drawn + 1 } w → Ext w0 w := fun w hw => ⟨hw.os, hw.tape, hw.output, hw.size, hw.block⟩
  obtain ⟨S, hfin, hsteps⟩ := FlowR.steps c h
  refine wp_region_any hm ?_
  refine flow_any (S := S) c (w0 := { w0 with drawn := w0.drawn + 1 }) (fun i o hi ho v w hw hf => hsteps i o hi ho v w (e0 w hw) hf) ?_ ?_ m ops.size (Array.replicate ops.size false) (fun _ => undef) a0 _ ?_ (by have := c.le; omega) ?_
  · intro j oj t hj hoj hd
    have := List.all_eq_true.1 h4 (j, t) (by
      rw [← h3]
      simp only [dsts, List.mem_filterMap, List.mem_range, Option.map_eq_some_iff]
      exact ⟨j, hj, t, by rw [hoj, Option.bind_some, hd], rfl⟩)
    simpa using this
  · intro v w hw hf
    rw [h3] at hf ⊢
    exact tail_list h2 (ops.size - m) m _ w (Nat.le_refl _) (by have := c.le; omega) (hfin v w (e0 w hw) hf)
  · unfold left
    rw [List.filter_eq_self.2 (fun i hi => by
      have : i < ops.size := Nat.lt_of_lt_of_le (List.mem_range.1 hi) c.le
      simp [this]), List.length_range]
  · refine ⟨by simp, ?_, ?_, Ext.refl _, ?_, rfl, rfl, ?_, fun _ _ => rfl⟩
    · intro i o _ hi
      rw [Array.getD_eq_getD_getElem?, Array.getElem?_replicate] at hi
      split at hi <;> simp at hi
    · intro i _
      rw [Array.getD_eq_getD_getElem?, Array.getElem?_replicate]
      split <;> rfl
    · intro i hi
      rw [Array.getD_eq_getD_getElem?, Array.getElem?_replicate] at hi
      split at hi <;> simp at hi
    · intro i o t _ hi
      rw [Array.getD_eq_getD_getElem?, Array.getElem?_replicate] at hi
      split at hi <;> simp at hi

section
variable {a0 : Act} {w0 : World} {fin : List MP → Prop} {l : List (Nat × Tmp)} {ls : List (List (Nat × Tmp))} {o : Oper} {os : List Oper} {S : List MP}
theorem FlowR.done (h : fin S) : FlowR P a0 w0 fin [] os S := h
theorem FlowR.exact_ {X : Value} (hg : o.guard = none) (h : ∀ v w, Ext w0 w → Facts S v w l → (execOp (putL a0 v l).eval o).run P w = .ok (.value X) w)
    (r : FlowR P a0 w0 fin ls os (S ++ [MP.eq X])) : FlowR P a0 w0 fin (l :: ls) (o :: os) S :=
  ⟨MP.eq X, fun v w hw hf => by
    have : wantedV o v = true := by simp [wantedV, hg]
    rw [if_pos this, h v w hw hf]
    exact ⟨Ext.refl w, rfl⟩, r⟩
theorem FlowR.step_ (s : MP) (hg : o.guard = none) (h : ∀ v w, Ext w0 w → Facts S v w l → yieldsUpon P (fun u w' => Ext w w' ∧ s.S u w') ((execOp (putL a0 v l).eval o).run P w))
    (r : FlowR P a0 w0 fin ls os (S ++ [s])) : FlowR P a0 w0 fin (l :: ls) (o :: os) S :=
  ⟨s, fun v w hw hf => by
    have : wantedV o v = true := by simp [wantedV, hg]
    rw [if_pos this]
    exact h v w hw hf, r⟩
end

end
end Go.Flow
namespace Go.Flow
open Go Go.RowKit

section
variable {P : Program} {ops : Array Oper}

/-- The frame's part of what has been carried out. -/
structure FInv (ops : Array Oper) (a0 : Act) (listed : Array Bool) (v : Nat → Value) (a : Act) : Prop where
  size : listed.size = ops.size
  closed : ∀ i o, ops[i]? = some o → listed.getD i false = true → ∀ e ∈ o.after, Region.binds .any e = true → listed.getD e.on false = true
  defers : a.defers = a0.defers
  tsize : a.tmps.size = a0.tmps.size
  at_ : ∀ i o t, ops[i]? = some o → listed.getD i false = true → o.dst = some t → t < a0.tmps.size → a.tmps[t]? = some (v i)
  far : ∀ t, (∀ i o, ops[i]? = some o → listed.getD i false = true → o.dst ≠ some t) → a.tmps[t]? = a0.tmps[t]?

theorem FInv.put {anc : List (List (Nat × Tmp))} {a0 : Act} (c : Chk ops ops.size anc) {listed : Array Bool} {v : Nat → Value} {a : Act} {i : Nat} {o : Oper} {u : Value}
    (h : FInv ops a0 listed v a) (ho : ops[i]? = some o) (hun : listed.getD i false = false) (hall : ∀ e ∈ o.after, Region.binds .any e = true → listed.getD e.on false = true) :
    FInv ops a0 (listed.setIfInBounds i true) (upd v i u) (a.put o.dst u) := by
  have hi : i < ops.size := (Array.getElem?_eq_some_iff.1 ho).1
  have hsz : i < listed.size := by rw [h.size]; exact hi
  have hne {j : Nat} (hj : j ≠ i) : (listed.setIfInBounds i true).getD j false = listed.getD j false := by
    simp only [Array.getD_eq_getD_getElem?, Array.getElem?_setIfInBounds_ne (Ne.symm hj)]
  have hltm {j : Nat} {oj : Oper} (hj : ops[j]? = some oj) : j < ops.size := (Array.getElem?_eq_some_iff.1 hj).1
  refine ⟨by simpa using h.size, ?_, ?_, ?_, ?_, ?_⟩
  · intro j oj hoj hj e he hb
    refine getD_set_true ?_
    by_cases hji : j = i
    · subst hji; rw [ho] at hoj; cases hoj; exact hall e he hb
    · exact h.closed j oj hoj (by rw [← hne hji]; exact hj) e he hb
  · cases o.dst <;> exact h.defers
  · cases o.dst
    · exact h.tsize
    · show (Array.setIfInBounds _ _ _).size = _
      rw [Array.size_setIfInBounds]; exact h.tsize
  · intro j oj t hoj hj hd ht
    by_cases hji : j = i
    · subst hji
      rw [ho] at hoj; cases hoj
      rw [hd]
      show (Array.setIfInBounds _ _ _)[t]? = _
      rw [Array.getElem?_setIfInBounds_self_of_lt (by rw [h.tsize]; exact ht)]
      simp [upd]
    · rw [hne hji] at hj
      simp only [upd, if_neg hji]
      rw [← h.at_ j oj t hoj hj hd ht]
      cases hdo : o.dst with
      | none => rfl
      | some t' =>
        show (Array.setIfInBounds _ _ _)[t]? = _
        rw [Array.getElem?_setIfInBounds_ne]
        rintro rfl
        exact hji (c.uniq i o j oj t' hi ho (hltm hoj) hoj hd hdo)
  · intro t ht
    have h1 : a.tmps[t]? = a0.tmps[t]? := h.far t fun j oj hoj hj => ht j oj hoj (getD_set_true hj)
    rw [← h1]
    cases hdo : o.dst with
    | none => rfl
    | some t' =>
      show (Array.setIfInBounds _ _ _)[t]? = _
      rw [Array.getElem?_setIfInBounds_ne]
      rintro rfl
      exact ht i o ho (by simp [hsz]) hdo

theorem FInv.eval {anc : List (List (Nat × Tmp))} {a0 : Act} (c : Chk ops ops.size anc) {listed : Array Bool} {v : Nat → Value} {a : Act} {i : Nat} {o : Oper}
    (h : FInv ops a0 listed v a) (ho : ops[i]? = some o) (hun : listed.getD i false = false)
    (hanc : ∀ p ∈ anc.getD i [], listed.getD p.1 false = true) (x : Operand) (hx : x ∈ o.op.operands) : a.eval x = (putL a0 v (anc.getD i [])).eval x := by
  have hi : i < ops.size := (Array.getElem?_eq_some_iff.1 ho).1
  cases x with
  | tmp t =>
    have hmem : t ∈ tmpsOf o := List.mem_filterMap.2 ⟨.tmp t, by simpa using hx, rfl⟩
    have hlt {j : Nat} {oj : Oper} (hj : ops[j]? = some oj) : j < ops.size := (Array.getElem?_eq_some_iff.1 hj).1
    have hcl : ∀ j, listed.getD j false = true → ∀ k, ((masks [] ops.toList).getD j 0).testBit k = true → listed.getD k false = true :=
      masks_spec (L := fun j => listed.getD j false = true) ops.toList [] (fun j oj hoj hj e he hb => h.closed j oj (by simpa using hoj) (by simpa using hj) e he hb) (fun j _ k hlt => by simp at hlt)
    show a.tmps.getD t undef = (putL a0 v (anc.getD i [])).tmps.getD t undef
    rw [Array.getD_eq_getD_getElem?, Array.getD_eq_getD_getElem?]
    congr 1
    by_cases hw : ∃ j oj, ops[j]? = some oj ∧ listed.getD j false = true ∧ oj.dst = some t
    · obtain ⟨j, oj, hoj, hj, hd⟩ := hw
      have hjm := hlt hoj
      rcases c.opnd i o j oj t hi ho hjm hoj hd hmem with ⟨t', ht'⟩ | hbit
      · have h1 := (c.ancs i o hi ho _ ht').2.2
        rw [hoj, Option.bind_some, hd] at h1
        obtain rfl : t' = t := by simpa using h1.symm
        rcases Nat.lt_or_ge t' a0.tmps.size with hts | hts
        · rw [h.at_ j oj t' hoj hj hd hts]
          refine (putL_at a0 v j t' hts _ ht' fun k hk => ?_).symm
          have h2 := (c.ancs i o hi ho _ hk).2.2
          have hkm : k < ops.size := Nat.lt_trans (c.ancs i o hi ho _ hk).1 hi
          cases hok : ops[k]? with
          | none => rw [hok] at h2; cases h2
          | some ok =>
            rw [hok, Option.bind_some] at h2
            exact (c.uniq j oj k ok t' hjm hoj hkm hok h2 hd)
        · rw [Array.getElem?_eq_none (by rw [h.tsize]; exact hts), Array.getElem?_eq_none (by rw [putL_size]; exact hts)]
      · have := hcl j hj i hbit
        rw [hun] at this; cases this
    · rw [h.far t fun j oj hoj hj hd => hw ⟨j, oj, hoj, hj, hd⟩]
      refine (putL_far a0 v t _ fun j hj => hw ?_).symm
      have h1 := (c.ancs i o hi ho _ hj).2.2
      cases hoj : ops[j]? with
      | none => rw [hoj] at h1; cases h1
      | some oj => rw [hoj, Option.bind_some] at h1; exact ⟨j, oj, hoj, hanc _ hj, h1⟩
  | const u => rfl
  | global g => rfl
  | func f => rfl

theorem wanted_eq2 {anc : List (List (Nat × Tmp))} {a0 : Act} (c : Chk ops ops.size anc) {listed : Array Bool} {v : Nat → Value} {a : Act} {i : Nat} {o : Oper}
    (h : FInv ops a0 listed v a) (ho : ops[i]? = some o) (hsz : ∀ (j : Nat) oj t, ops[j]? = some oj → oj.dst = some t → t < a0.tmps.size)
    (hanc : ∀ p ∈ anc.getD i [], listed.getD p.1 false = true) : Region.wanted o (yielded ops a.tmps) = wantedV o v := by
  have hi : i < ops.size := (Array.getElem?_eq_some_iff.1 ho).1
  unfold Region.wanted wantedV
  cases hg : o.guard with
  | none => rfl
  | some gb =>
    obtain ⟨g, b⟩ := gb
    obtain ⟨hgm, t, ht⟩ := c.guard i o g b hi ho hg
    have h1 := (c.ancs i o hi ho _ ht).2.2
    cases hog : ops[g]? with
    | none => rw [hog] at h1; cases h1
    | some og =>
      rw [hog, Option.bind_some] at h1
      have h2 := h.at_ g og t hog (hanc _ ht) h1 (hsz g og t hog h1)
      simp only [yielded, hog, Option.bind_some, h1, h2]
      cases v g <;> simp

/-- What is listed is closed under what comes before. -/
def Closed (ops : Array Oper) (listed : Array Bool) : Prop := ∀ j, listed.getD j false = true → ∀ x, ((masks [] ops.toList).getD j 0).testBit x = true → listed.getD x false = true

theorem FInv.cl {a0 : Act} {listed : Array Bool} {v : Nat → Value} {a : Act} (h : FInv ops a0 listed v a) : Closed ops listed :=
  masks_spec (L := fun j => listed.getD j false = true) ops.toList [] (fun j oj hoj hj e he hb => h.closed j oj (by simpa using hoj) (by simpa using hj) e he hb) (fun j _ x hlt => by simp at hlt)

/-- THE RULE. -/
theorem wp_region_inv {id : Nat} {Q : Exit → Act → World → Prop} {a0 : Act} {w0 : World} (hm : P.follows .mixedOrders = true) {anc : List (List (Nat × Tmp))} (c : Chk ops ops.size anc)
    (hsz : ∀ (j : Nat) oj t, ops[j]? = some oj → oj.dst = some t → t < a0.tmps.size) (J : Array Bool → (Nat → Value) → World → Prop)
    (step : ∀ listed v w i o, J listed v w → listed.size = ops.size → Closed ops listed → ops[i]? = some o → listed.getD i false = false → (∀ x, ((masks [] ops.toList).getD i 0).testBit x = true → listed.getD x false = true) →
      if wantedV o v then yieldsUpon P (fun u w' => J (listed.setIfInBounds i true) (upd v i u) w') ((execOp (putL a0 v (anc.getD i [])).eval o).run P w) else J (listed.setIfInBounds i true) (upd v i undef) w)
    (fin : ∀ listed v w, J listed v w → (∀ i, i < ops.size → listed.getD i false = true) → Q .normal (putL a0 v (dsts ops ops.size)) w)
    (h0 : J (Array.replicate ops.size false) (fun _ => undef) { w0 with drawn := w0.drawn + 1 }) : (Code.region id ops true).wp P Q a0 w0 := by
  refine wp_region_any hm ?_
  have key : ∀ (k : Nat) (listed : Array Bool) (v : Nat → Value) (a : Act) (w : World), left ops.size listed = k → FInv ops a0 listed v a → J listed v w → wpAny P .any ops Q k listed a w := by
    intro k
    induction k with
    | zero =>
      intro listed v a w hk h hJ
      have hall := left_zero hk
      have memd : ∀ j t, (j, t) ∈ dsts ops ops.size ↔ j < ops.size ∧ (ops[j]?).bind (·.dst) = some t := by
        intro j t
        simp only [dsts, List.mem_filterMap, List.mem_range, Option.map_eq_some_iff]
        constructor
        · rintro ⟨x, hx, t', ht', he⟩
          cases he
          exact ⟨hx, ht'⟩
        · rintro ⟨hj, ht⟩
          exact ⟨j, hj, t, ht, rfl⟩
      have ha : a = putL a0 v (dsts ops ops.size) := by
        have h1 : a.tmps = (putL a0 v (dsts ops ops.size)).tmps := by
          apply Array.ext_getElem?
          intro t
          by_cases hw : ∃ j oj, ops[j]? = some oj ∧ listed.getD j false = true ∧ oj.dst = some t
          · obtain ⟨j, oj, hoj, hj, hd⟩ := hw
            have hjm : j < ops.size := (Array.getElem?_eq_some_iff.1 hoj).1
            have hts := hsz j oj t hoj hd
            rw [h.at_ j oj t hoj hj hd hts]
            refine (putL_at a0 v j t hts _ ((memd j t).2 ⟨hjm, by rw [hoj, Option.bind_some, hd]⟩) fun x hx => ?_).symm
            obtain ⟨hxm, hxd⟩ := (memd x t).1 hx
            cases hox : ops[x]? with
            | none => rw [hox] at hxd; cases hxd
            | some ox => rw [hox, Option.bind_some] at hxd; exact c.uniq j oj x ox t hjm hoj hxm hox hxd hd
          · rw [h.far t fun j oj hoj hj hd => hw ⟨j, oj, hoj, hj, hd⟩]
            refine (putL_far a0 v t _ fun j hj => hw ?_).symm
            obtain ⟨hjm, hjd⟩ := (memd j t).1 hj
            cases hoj : ops[j]? with
            | none => rw [hoj] at hjd; cases hjd
            | some oj => rw [hoj, Option.bind_some] at hjd; exact ⟨j, oj, hoj, hall j hjm, hjd⟩
        have h2 : a.defers = (putL a0 v (dsts ops ops.size)).defers := by rw [putL_defers]; exact h.defers
        cases a with
        | mk t d =>
          cases hq : putL a0 v (dsts ops ops.size) with
          | mk t' d' =>
            rw [hq] at h1 h2
            simp only at h1 h2
            rw [h1, h2]
      refine ⟨?_, ?_⟩
      · refine List.eq_nil_iff_forall_not_mem.2 fun i hi => ?_
        obtain ⟨hun, o, ho, _⟩ := mem_ready.1 hi
        have hlt := (Array.getElem?_eq_some_iff.1 ho).1
        have hlt' : i < listed.size := by rw [h.size]; exact hlt
        have := hall i hlt
        rw [Array.getD_eq_getD_getElem?, Array.getElem?_eq_getElem hlt'] at this hun
        rw [Option.getD_some] at this hun
        rw [this] at hun
        cases hun
      · rw [ha]; exact fin listed v w hJ hall
    | succ k ih =>
      intro listed v a w hk h hJ
      have hcl := h.cl
      have hnotall : ¬ ∀ i, i < ops.size → listed.getD i false = true := fun hall => by
        have : left ops.size listed = 0 := by
          unfold left
          rw [List.filter_eq_nil_iff.2 (fun i hi => by simp [hall i (List.mem_range.1 hi)])]
          rfl
        omega
      refine ⟨fun hr => absurd hr ?_, fun i hi => ?_⟩
      · have hex : ∃ i, i < ops.size ∧ listed.getD i false = false ∧ ∀ j, j < i → listed.getD j false = true := by
          have : ∀ n, n ≤ ops.size → (∀ j, j < n → listed.getD j false = true) ∨ ∃ i, i < n ∧ listed.getD i false = false ∧ ∀ j, j < i → listed.getD j false = true := by
            intro n
            induction n with
            | zero => intro _; exact .inl fun j hj => absurd hj (by omega)
            | succ n ihn =>
              intro hn
              rcases ihn (by omega) with h1 | ⟨i, hi, h1, h2⟩
              · by_cases hb : listed.getD n false = true
                · refine .inl fun j hj => ?_
                  rcases Nat.lt_or_ge j n with h2 | h2
                  · exact h1 j h2
                  · obtain rfl : j = n := by omega
                    exact hb
                · exact .inr ⟨n, by omega, by simpa using hb, h1⟩
              · exact .inr ⟨i, by omega, h1, h2⟩
          rcases this ops.size (Nat.le_refl _) with h1 | ⟨i, hi, h1, h2⟩
          · exact absurd h1 hnotall
          · exact ⟨i, hi, h1, h2⟩
        obtain ⟨i, hlt, hun, hbef⟩ := hex
        have hoi : ops[i]? = some ops[i] := Array.getElem?_eq_getElem hlt
        have hmem : i ∈ Region.ready .any ops listed := mem_ready.2 ⟨by
          have hlt' : i < listed.size := by rw [h.size]; exact hlt
          rw [Array.getD_eq_getD_getElem?, Array.getElem?_eq_getElem hlt'] at hun ⊢
          exact hun, _, hoi, fun e he hb => hbef e.on (c.back i _ hoi e he hb)⟩
        intro hnil
        rw [hnil] at hmem
        cases hmem
      · obtain ⟨hun', o, ho, hall⟩ := mem_ready.1 hi
        have hlt : i < ops.size := (Array.getElem?_eq_some_iff.1 ho).1
        have hlt' : i < listed.size := by rw [h.size]; exact hlt
        have hun : listed.getD i false = false := by
          rw [Array.getD_eq_getD_getElem?, Array.getElem?_eq_getElem hlt'] at hun' ⊢
          exact hun'
        have hreach : ∀ x, ((masks [] ops.toList).getD i 0).testBit x = true → listed.getD x false = true := by
          intro x hx
          have := masks_spec (L := fun j => listed.getD j false = true ∨ j = i) ops.toList [] (fun j oj hoj hj e he hb => by
            have hoj' : ops[j]? = some oj := by simpa using hoj
            rcases (by simpa using hj : listed.getD j false = true ∨ j = i) with h1 | rfl
            · exact .inl (h.closed j oj hoj' h1 e he hb)
            · rw [ho] at hoj'; cases hoj'; exact .inl (hall e he hb)) (fun j _ x hlt => by simp at hlt) i (.inr rfl) x hx
          rcases this with h1 | rfl
          · exact h1
          · exact absurd (masks_below ops.toList [] (fun j oj hoj e he hb => by simpa using c.back j oj (by simpa using hoj) e he hb) (fun j x hlt => by simp at hlt) _ _ hx) (Nat.lt_irrefl _)
        have hanc : ∀ p ∈ anc.getD i [], listed.getD p.1 false = true := fun p hp => hreach p.1 (c.ancs i o hlt ho p hp).2.1
        have hstep := step listed v w i o hJ h.size hcl ho hun hreach
        have hcnt := left_set hlt hlt' hun
        have next : ∀ u w', J (listed.setIfInBounds i true) (upd v i u) w' → wpAny P .any ops Q k (listed.setIfInBounds i true) (a.put o.dst u) w' := fun u w' hJ' =>
          ih _ (upd v i u) _ w' (by omega) (h.put c ho hun hall) hJ'
        unfold wpOp
        simp only [ho]
        rw [wanted_eq2 c h ho hsz hanc]
        by_cases hw : wantedV o v = true
        · rw [if_pos hw] at hstep ⊢
          refine .inl ?_
          unfold Oper.wp
          rw [execOp_congr o (c.nosel i o hlt ho) (fun x hx => h.eval c ho hun hanc x hx)]
          generalize (execOp (putL a0 v (anc.getD i [])).eval o).run P w = r at hstep ⊢
          cases r with
          | ok n w' =>
            cases n with
            | value u => exact next u w' hstep
            | skip => exact next undef w' hstep
            | enter g args =>
              refine Calls.mono hstep fun e w'' he => ?_
              obtain ⟨u, rfl, hs⟩ := he
              exact next u w'' hs
            | _ => exact hstep.elim
          | halt x w' => exact hstep.elim
        · rw [if_neg hw] at hstep ⊢
          exact next undef w hstep
  refine key ops.size _ (fun _ => undef) a0 _ ?_ ?_ h0
  · unfold left
    rw [List.filter_eq_self.2 (fun i hi => by
      have : i < ops.size := List.mem_range.1 hi
      simp [this]), List.length_range]
  · refine ⟨by simp, ?_, rfl, rfl, ?_, fun _ _ => rfl⟩
    · intro i o _ hi
      rw [Array.getD_eq_getD_getElem?, Array.getElem?_replicate] at hi
      split at hi <;> simp at hi
    · intro i o t _ hi
      rw [Array.getD_eq_getD_getElem?, Array.getElem?_replicate] at hi
      split at hi <;> simp at hi
end
end Go.Flow
namespace Go.Mach

/-- A polynomial in the numbers of a class: exponents and coefficients. -/
abbrev Pl := List (List Nat × Int)

/-- The numbers of a class are small. -/
def Env (e : Nat → Nat) : Prop := ∀ i, e i ≤ 127

def mev (e : Nat → Nat) : Nat → List Nat → Int
  | _, [] => 1
  | i, n :: r => (e i : Int) ^ n * mev e (i + 1) r
def lev (e : Nat → Nat) : Pl → Int
  | [] => 0
  | (m, c) :: r => c * mev e 0 m + lev e r

def mmul : List Nat → List Nat → List Nat
  | [], b => b
  | a, [] => a
  | x :: r, y :: s => (x + y) :: mmul r s
def meq : List Nat → List Nat → Bool
  | [], [] => true
  | x :: r, y :: s => Nat.beq x y && meq r s
  | _, _ => false
def mgt : List Nat → List Nat → Bool
  | x :: r, y :: s => if Nat.blt y x then true else if Nat.beq x y then mgt r s else false
  | _ :: _, [] => true
  | [], _ => false
def isZ : Int → Bool
  | .ofNat 0 => true
  | _ => false
def isPos : Int → Bool
  | .ofNat (_ + 1) => true
  | _ => false
def lins (m : List Nat) (c : Int) : Pl → Pl
  | [] => if isZ c then [] else [(m, c)]
  | (m', c') :: r => if meq m m' then (if isZ (c + c') then r else (m, c + c') :: r) else if mgt m m' then (if isZ c then (m', c') :: r else (m, c) :: (m', c') :: r) else (m', c') :: lins m c r
def ladd : Pl → Pl → Pl
  | [], b => b
  | (m, c) :: r, b => lins m c (ladd r b)
def lmul1 (m : List Nat) (c : Int) : Pl → Pl
  | [] => []
  | (m', c') :: r => (mmul m m', c * c') :: lmul1 m c r
def lmul : Pl → Pl → Pl
  | [], _ => []
  | (m, c) :: r, b => ladd (lmul1 m c b) (lmul r b)
def lneg : Pl → Pl
  | [] => []
  | (m, c) :: r => (m, -c) :: lneg r
def lsub (a b : Pl) : Pl := ladd a (lneg b)
def leq : Pl → Pl → Bool
  | [], [] => true
  | (m, c) :: r, (m', c') :: s => meq m m' && isZ (c - c') && leq r s
  | _, _ => false

theorem meq_eq : ∀ {a b : List Nat}, meq a b = true → a = b
  | [], [], _ => rfl
  | x :: r, y :: s, h => by
    simp only [meq, Bool.and_eq_true] at h
    rw [Nat.eq_of_beq_eq_true h.1, meq_eq h.2]
  | [], _ :: _, h => by simp [meq] at h
  | _ :: _, [], h => by simp [meq] at h
theorem isZ_eq {z : Int} (h : isZ z = true) : z = 0 := by
  unfold isZ at h
  split at h
  · rfl
  · cases h
theorem isZ_iff {z : Int} : isZ z = true ↔ z = 0 := ⟨isZ_eq, fun h => by subst h; rfl⟩
theorem isPos_iff {z : Int} : isPos z = true ↔ 0 < z := by
  match z with
  | .ofNat 0 => simp [isPos]
  | .ofNat (n + 1) => simp only [isPos, true_iff]; exact Int.ofNat_lt.2 (Nat.succ_pos n)
  | .negSucc n => simp only [isPos, Bool.false_eq_true, false_iff]; have := Int.negSucc_lt_zero n; omega
theorem mev_mul (e : Nat → Nat) : ∀ (i : Nat) (a b : List Nat), mev e i (mmul a b) = mev e i a * mev e i b
  | i, [], b => by simp [mmul, mev]
  | i, x :: r, [] => by simp [mmul, mev]
  | i, x :: r, y :: s => by
    simp only [mmul, mev, Int.pow_add, mev_mul e (i + 1) r s]
    simp only [Int.mul_assoc]
    congr 1
    simp only [← Int.mul_assoc]
    rw [Int.mul_comm (↑(e i) ^ y) (mev e (i + 1) r)]
theorem lev_ins (e : Nat → Nat) (m : List Nat) (c : Int) : ∀ l : Pl, lev e (lins m c l) = c * mev e 0 m + lev e l
  | [] => by
    unfold lins
    split
    · rename_i h; rw [isZ_eq h]; simp [lev]
    · rfl
  | (m', c') :: r => by
    unfold lins
    split
    · rename_i h
      have hm := meq_eq h; subst hm
      split
      · rename_i hz
        have hz := isZ_eq hz
        simp only [lev, ← Int.add_assoc, ← Int.add_mul, hz]
        simp
      · simp only [lev, ← Int.add_assoc, ← Int.add_mul]
    · split
      · split
        · rename_i hz; rw [isZ_eq hz]; simp
        · rfl
      · simp only [lev, lev_ins e m c r]
        omega
theorem lev_add (e : Nat → Nat) : ∀ a b : Pl, lev e (ladd a b) = lev e a + lev e b
  | [], b => by simp [ladd, lev]
  | (m, c) :: r, b => by simp only [ladd, lev_ins, lev_add e r b, lev]; omega
theorem lev_mul1 (e : Nat → Nat) (m : List Nat) (c : Int) : ∀ b : Pl, lev e (lmul1 m c b) = c * mev e 0 m * lev e b
  | [] => by simp [lmul1, lev]
  | (m', c') :: r => by
    simp only [lmul1, lev, mev_mul, lev_mul1 e m c r, Int.mul_add]
    congr 1
    simp only [Int.mul_assoc]
    congr 1
    rw [Int.mul_left_comm]
theorem lev_mul (e : Nat → Nat) : ∀ a b : Pl, lev e (lmul a b) = lev e a * lev e b
  | [], b => by simp [lmul, lev]
  | (m, c) :: r, b => by simp only [lmul, lev_add, lev_mul1, lev_mul e r b, lev, Int.add_mul]
theorem lev_neg (e : Nat → Nat) : ∀ a : Pl, lev e (lneg a) = - lev e a
  | [] => by simp [lneg, lev]
  | (m, c) :: r => by simp only [lneg, lev, lev_neg e r, Int.neg_mul]; omega
theorem lev_sub (e : Nat → Nat) (a b : Pl) : lev e (lsub a b) = lev e a - lev e b := by
  unfold lsub; rw [lev_add, lev_neg]; omega
theorem leq_lev (e : Nat → Nat) : ∀ {a b : Pl}, leq a b = true → lev e a = lev e b
  | [], [], _ => rfl
  | (m, c) :: r, (m', c') :: s, h => by
    simp only [leq, Bool.and_eq_true] at h
    obtain ⟨⟨h1, h2⟩, h3⟩ := h
    have := meq_eq h1; subst this
    have hc : c = c' := by have := isZ_eq h2; omega
    subst hc
    simp only [lev, leq_lev e h3]
  | [], _ :: _, h => by simp [leq] at h
  | _ :: _, [], h => by simp [leq] at h

/-! ### Bounds. -/
def mdeg : List Nat → Nat
  | [] => 0
  | n :: r => n + mdeg r
def ub1 (m : List Nat) (c : Int) : Int :=
  match m with
  | [] => c
  | m => match c with | .ofNat n => .ofNat (n * 127 ^ mdeg m) | .negSucc _ => 0
def lb1 (m : List Nat) (c : Int) : Int :=
  match m with
  | [] => c
  | m => match c with | .ofNat _ => 0 | .negSucc n => - Int.ofNat ((n + 1) * 127 ^ mdeg m)
def lub : Pl → Int
  | [] => 0
  | (m, c) :: r => ub1 m c + lub r
def llb : Pl → Int
  | [] => 0
  | (m, c) :: r => lb1 m c + llb r

theorem mev_bd {e : Nat → Nat} (he : Env e) : ∀ (i : Nat) (m : List Nat), 0 ≤ mev e i m ∧ mev e i m ≤ ((127 ^ mdeg m : Nat) : Int)
  | i, [] => by simp [mev, mdeg]
  | i, n :: r => by
    obtain ⟨h1, h2⟩ := mev_bd he (i + 1) r
    have h3 : (0 : Int) ≤ (e i : Int) ^ n := Int.pow_nonneg (Int.natCast_nonneg _)
    have h4 : ((e i : Int) ^ n) ≤ ((127 ^ n : Nat) : Int) := by
      rw [← Int.natCast_pow]
      exact Int.ofNat_le.2 (Nat.pow_le_pow_left (he i) n)
    refine ⟨Int.mul_nonneg h3 h1, ?_⟩
    simp only [mev, mdeg, Nat.pow_add, Int.natCast_mul]
    exact Int.mul_le_mul h4 h2 h1 (Int.natCast_nonneg _)
theorem ub1_ok {e : Nat → Nat} (he : Env e) (m : List Nat) (c : Int) : c * mev e 0 m ≤ ub1 m c := by
  unfold ub1
  split
  · simp [mev]
  · obtain ⟨h1, h2⟩ := mev_bd he 0 m
    split
    · rename_i n
      show (n : Int) * _ ≤ ((n * _ : Nat) : Int)
      rw [Int.natCast_mul]
      exact Int.mul_le_mul_of_nonneg_left h2 (Int.natCast_nonneg n)
    · rename_i n
      exact Int.mul_nonpos_of_nonpos_of_nonneg (Int.le_of_lt (Int.negSucc_lt_zero n)) h1
theorem lb1_ok {e : Nat → Nat} (he : Env e) (m : List Nat) (c : Int) : lb1 m c ≤ c * mev e 0 m := by
  unfold lb1
  split
  · simp [mev]
  · obtain ⟨h1, h2⟩ := mev_bd he 0 m
    split
    · rename_i n
      exact Int.mul_nonneg (Int.natCast_nonneg n) h1
    · rename_i n
      have h3 : Int.negSucc n = - ((n + 1 : Nat) : Int) := rfl
      rw [h3, Int.neg_mul, Int.ofNat_eq_natCast, Int.natCast_mul]
      exact Int.neg_le_neg (Int.mul_le_mul_of_nonneg_left h2 (Int.natCast_nonneg _))
theorem lub_ok {e : Nat → Nat} (he : Env e) : ∀ l : Pl, lev e l ≤ lub l
  | [] => Int.le_refl _
  | (m, c) :: r => Int.add_le_add (ub1_ok he m c) (lub_ok he r)
theorem llb_ok {e : Nat → Nat} (he : Env e) : ∀ l : Pl, llb l ≤ lev e l
  | [] => Int.le_refl _
  | (m, c) :: r => Int.add_le_add (lb1_ok he m c) (llb_ok he r)

/-! ### Division. -/
def mdiv : List Nat → List Nat → Option (List Nat)
  | a, [] => some a
  | [], _ :: _ => none
  | x :: r, y :: s => if Nat.ble y x then (match mdiv r s with | some l => (match l, Nat.sub x y with | [], 0 => some [] | l, d => some (d :: l)) | none => none) else none
/-- Greedy division by the leading term: quotient, rest. -/
def ldm : Nat → Pl → Pl → Pl × Pl
  | 0, a, _ => ([], a)
  | _ + 1, [], _ => ([], [])
  | _ + 1, a, [] => ([], a)
  | n + 1, (m, c) :: r, (m', c') :: s =>
    match mdiv m m' with
    | some d => if isZ (Int.emod c c') then (match ldm n (lsub ((m, c) :: r) (lmul1 d (Int.ediv c c') ((m', c') :: s))) ((m', c') :: s) with | (q, t) => (lins d (Int.ediv c c') q, t)) else (match ldm n r ((m', c') :: s) with | (q, t) => (q, lins m c t))
    | none => (match ldm n r ((m', c') :: s) with | (q, t) => (q, lins m c t))
def lfuel : Nat := 60
/-- A divisor with its factors: (g, u, v) with g = u a + v b, if all goes well. -/
def lgcd : Nat → Pl → Pl → Option (Pl × Pl × Pl)
  | 0, _, _ => none
  | _ + 1, a, [] => some (a, [([], 1)], [])
  | _ + 1, [], b => some (b, [], [([], 1)])
  | n + 1, a, b =>
    match ldm lfuel a b with
    | (_ :: _, r) => (match ldm lfuel a b with | (q, _) => (match lgcd n b r with | some (g, u, v) => some (g, v, lsub u (lmul q v)) | none => none))
    | ([], _) =>
      match ldm lfuel b a with
      | (q, r) => (match lgcd n r a with | some (g, u, v) => some (g, lsub v (lmul q u), u) | none => none)
def lgcdOk (a b g u v : Pl) : Bool :=
  match ldm lfuel a g, ldm lfuel b g with
  | (qa, _), (qb, _) => leq (lmul qa g) a && leq (lmul qb g) b && leq (ladd (lmul u a) (lmul v b)) g
theorem lgcdOk_ok {a b g u v : Pl} (h : lgcdOk a b g u v = true) (e : Nat → Nat) : Int.gcd (lev e a) (lev e b) = (lev e g).natAbs := by
  unfold lgcdOk at h
  simp only [Bool.and_eq_true] at h
  obtain ⟨⟨h1, h2⟩, h3⟩ := h
  have h1 := leq_lev e h1
  have h2 := leq_lev e h2
  have h3 := leq_lev e h3
  rw [lev_mul] at h1 h2
  rw [lev_add, lev_mul, lev_mul] at h3
  apply Nat.dvd_antisymm
  · have key : ((Int.gcd (lev e a) (lev e b) : Nat) : Int) ∣ lev e g := by
      rw [← h3]
      exact Int.dvd_add (Int.dvd_trans (Int.gcd_dvd_left ..) (Int.dvd_mul_left _ _)) (Int.dvd_trans (Int.gcd_dvd_right ..) (Int.dvd_mul_left _ _))
    have := Int.natAbs_dvd_natAbs.2 key
    rwa [Int.natAbs_natCast] at this
  · refine Nat.dvd_gcd ?_ ?_
    · exact Int.natAbs_dvd_natAbs.2 ⟨_, by rw [← h1, Int.mul_comm]⟩
    · exact Int.natAbs_dvd_natAbs.2 ⟨_, by rw [← h2, Int.mul_comm]⟩

/-! ### Numbers: constants, or polynomials. -/
inductive Sy where
  | k (z : Int)
  | p (l : Pl)
  deriving Inhabited
def Sy.ev (e : Nat → Nat) : Sy → Int
  | .k z => z
  | .p l => lev e l
def Sy.pl : Sy → Pl
  | .k z => if isZ z then [] else [([], z)]
  | .p l => l
def syOf : Pl → Sy
  | [] => .k 0
  | [([], z)] => .k z
  | l => .p l
theorem Sy.ev_pl (e : Nat → Nat) (a : Sy) : lev e a.pl = a.ev e := by
  cases a with
  | k z =>
    unfold Sy.pl
    dsimp only
    split
    · rename_i h; rw [isZ_eq h]; rfl
    · simp [lev, mev, Sy.ev]
  | p l => rfl
theorem syOf_ev (e : Nat → Nat) (l : Pl) : (syOf l).ev e = lev e l := by
  unfold syOf
  split
  · rfl
  · simp [Sy.ev, lev, mev]
  · rfl
def syAdd : Sy → Sy → Sy
  | .k a, .k b => .k (a + b)
  | a, b => syOf (ladd a.pl b.pl)
def sySub : Sy → Sy → Sy
  | .k a, .k b => .k (a - b)
  | a, b => syOf (lsub a.pl b.pl)
def syMul : Sy → Sy → Sy
  | .k a, .k b => .k (a * b)
  | a, b => syOf (lmul a.pl b.pl)
def syNeg : Sy → Sy
  | .k a => .k (-a)
  | .p l => .p (lneg l)
theorem syAdd_ev (e : Nat → Nat) (a b : Sy) : (syAdd a b).ev e = a.ev e + b.ev e := by
  unfold syAdd
  split
  · rfl
  · rw [syOf_ev, lev_add, Sy.ev_pl, Sy.ev_pl]
theorem sySub_ev (e : Nat → Nat) (a b : Sy) : (sySub a b).ev e = a.ev e - b.ev e := by
  unfold sySub
  split
  · rfl
  · rw [syOf_ev, lev_sub, Sy.ev_pl, Sy.ev_pl]
theorem syMul_ev (e : Nat → Nat) (a b : Sy) : (syMul a b).ev e = a.ev e * b.ev e := by
  unfold syMul
  split
  · rfl
  · rw [syOf_ev, lev_mul, Sy.ev_pl, Sy.ev_pl]
theorem syNeg_ev (e : Nat → Nat) (a : Sy) : (syNeg a).ev e = - a.ev e := by
  cases a with
  | k z => rfl
  | p l => exact lev_neg e l

/-- The sign, if all classes have the same. -/
def sySgn : Sy → Option Int
  | .k z => some (Int.sign z)
  | .p l => if isPos (llb l) then some 1 else if isPos (- lub l) then some (-1) else none
theorem sySgn_ok {e : Nat → Nat} (he : Env e) {a : Sy} {s : Int} (h : sySgn a = some s) : Int.sign (a.ev e) = s := by
  cases a with
  | k z => cases h; rfl
  | p l =>
    simp only [sySgn] at h
    have h1 := llb_ok he l
    have h2 := lub_ok he l
    split at h
    · rename_i hp
      cases h
      have := isPos_iff.1 hp
      exact Int.sign_eq_one_of_pos (by show 0 < lev e l; omega)
    · split at h
      · rename_i hp
        cases h
        have := isPos_iff.1 hp
        exact Int.sign_eq_neg_one_of_neg (by show lev e l < 0; omega)
      · cases h
/-- All classes' numbers lie between the two. -/
def syIn (lo hi : Int) : Sy → Bool
  | .k z => isPos (z - lo + 1) && isPos (hi - z + 1)
  | .p l => isPos (llb l - lo + 1) && isPos (hi - lub l + 1)
theorem syIn_ok {e : Nat → Nat} (he : Env e) {lo hi : Int} {a : Sy} (h : syIn lo hi a = true) : lo ≤ a.ev e ∧ a.ev e ≤ hi := by
  cases a with
  | k z =>
    simp only [syIn, Bool.and_eq_true, isPos_iff] at h
    simp only [Sy.ev]
    omega
  | p l =>
    simp only [syIn, Bool.and_eq_true, isPos_iff] at h
    have h1 := llb_ok he l
    have h2 := lub_ok he l
    simp only [Sy.ev]
    omega
/-- Greatest common divisor. -/
def syGcd : Sy → Sy → Option Sy
  | .k a, .k b => some (.k (Int.ofNat (Int.gcd a b)))
  | a, b =>
    match lgcd 20 a.pl b.pl with
    | some (g, u, v) =>
      if lgcdOk a.pl b.pl g u v then
        (match sySgn (syOf g) with
         | some (.ofNat _) => some (syOf g)
         | some (.negSucc _) => some (syNeg (syOf g))
         | none => none)
      else none
    | none => none
theorem syGcd_ok {e : Nat → Nat} (he : Env e) {a b g : Sy} (h : syGcd a b = some g) : g.ev e = (Int.gcd (a.ev e) (b.ev e) : Nat) := by
  unfold syGcd at h
  split at h
  · cases h; rfl
  · split at h
    · rename_i g' u v hg
      split at h
      · rename_i hok
        have key := lgcdOk_ok hok e
        rw [Sy.ev_pl, Sy.ev_pl] at key
        rw [key]
        have hs : ∀ s, sySgn (syOf g') = some s → Int.sign (lev e g') = s := fun s hs => by rw [← syOf_ev]; exact sySgn_ok he hs
        split at h
        · rename_i n hn
          cases h
          rw [syOf_ev]
          have := hs _ hn
          have hp : 0 ≤ lev e g' := by
            rcases Int.lt_or_le (lev e g') 0 with h | h
            · rw [Int.sign_eq_neg_one_of_neg h] at this; cases this
            · exact h
          omega
        · rename_i n hn
          cases h
          rw [syNeg_ev, syOf_ev]
          have := hs _ hn
          have hp : lev e g' < 0 := by
            rcases Int.lt_trichotomy (lev e g') 0 with h | h | h
            · exact h
            · rw [h] at this; cases this
            · rw [Int.sign_eq_one_of_pos h] at this; cases this
          omega
        · cases h
      · cases h
    · cases h
/-- Division with remainder. -/
def syDm : Sy → Sy → Option (Sy × Sy)
  | .k a, .k b => if isZ b then none else some (.k (Int.ediv a b), .k (Int.emod a b))
  | a, b =>
    match ldm lfuel a.pl b.pl with
    | (q, []) => (match sySgn b with
      | some (.ofNat 0) => none
      | some _ => if leq (lmul q b.pl) a.pl then some (syOf q, .k 0) else none
      | none => none)
    | (q, r) => if isPos (llb b.pl) && (isPos (llb r + 1) && isPos (llb (lsub b.pl r))) && leq (ladd (lmul q b.pl) r) a.pl then some (syOf q, syOf r) else none
theorem syDm_ok {e : Nat → Nat} (he : Env e) {a b q r : Sy} (h : syDm a b = some (q, r)) : b.ev e ≠ 0 ∧ q.ev e = Int.ediv (a.ev e) (b.ev e) ∧ r.ev e = Int.emod (a.ev e) (b.ev e) := by
  unfold syDm at h
  split at h
  · split at h
    · cases h
    · rename_i hz
      cases h
      exact ⟨fun h0 => hz (isZ_iff.2 h0), rfl, rfl⟩
  · split at h
    · rename_i q' hd
      have key : ∀ s, sySgn b = some s → s ≠ 0 → leq (lmul q' b.pl) a.pl = true → b.ev e ≠ 0 ∧ (syOf q').ev e = Int.ediv (a.ev e) (b.ev e) ∧ (0 : Int) = Int.emod (a.ev e) (b.ev e) := by
        intro s hs h0 hl
        have h1 := sySgn_ok he hs
        have hb : b.ev e ≠ 0 := fun hb => h0 (by rw [← h1, hb]; rfl)
        have h2 := leq_lev e hl
        rw [lev_mul, Sy.ev_pl, Sy.ev_pl] at h2
        refine ⟨hb, ?_, ?_⟩
        · rw [syOf_ev, ← h2]
          exact (Int.mul_ediv_cancel _ hb).symm
        · rw [← h2]
          exact (Int.mul_emod_left _ _).symm
      split at h
      · cases h
      · rename_i s hs0 hs
        split at h
        · rename_i hl
          cases h
          exact key s hs (fun h0 => hs0 h0) hl
        · cases h
      · cases h
    · rename_i q' r' _ hd
      split at h
      · rename_i hc
        cases h
        simp only [Bool.and_eq_true, isPos_iff] at hc
        obtain ⟨⟨h1, h2, h3⟩, h4⟩ := hc
        have b1 := llb_ok he b.pl
        have b2 := llb_ok he r'
        have b3 := llb_ok he (lsub b.pl r')
        rw [lev_sub, Sy.ev_pl] at b3
        rw [Sy.ev_pl] at b1
        have h4 := leq_lev e h4
        rw [lev_add, lev_mul, Sy.ev_pl, Sy.ev_pl] at h4
        have hb : b.ev e ≠ 0 := by omega
        rw [syOf_ev, syOf_ev]
        refine ⟨hb, ?_, ?_⟩
        · show lev e q' = (a.ev e) / (b.ev e)
          rw [← h4, Int.add_comm, Int.add_mul_ediv_right _ _ hb, Int.ediv_eq_zero_of_lt (by omega) (by omega)]
          omega
        · show lev e r' = (a.ev e) % (b.ev e)
          rw [← h4, Int.add_comm, Int.add_mul_emod_self_right, Int.emod_eq_of_lt (by omega) (by omega)]
      · cases h

/-! ### Rests of a division by a number. -/
def lmodc (m : Int) : Pl → Pl
  | [] => []
  | (x, c) :: r => (x, let d := Int.emod c m; if isPos (d + d - m) then d - m else d) :: lmodc m r
theorem lmodc_ok (e : Nat → Nat) (m : Int) : ∀ l : Pl, ∃ z, lev e (lmodc m l) = lev e l + m * z
  | [] => ⟨0, by simp [lmodc, lev]⟩
  | (x, c) :: r => by
    obtain ⟨z, hz⟩ := lmodc_ok e m r
    have h1 : c = m * (c / m) + c % m := (Int.mul_ediv_add_emod c m).symm
    have key : ∃ y, (let d := Int.emod c m; if isPos (d + d - m) then d - m else d) = c + m * y := by
      dsimp only
      split
      · refine ⟨-(c / m) - 1, ?_⟩
        show c % m - m = _
        rw [Int.mul_sub, Int.mul_neg]
        omega
      · refine ⟨-(c / m), ?_⟩
        show c % m = _
        rw [Int.mul_neg]
        omega
    obtain ⟨y, hy⟩ := key
    refine ⟨y * mev e 0 x + z, ?_⟩
    simp only [lmodc, lev, hz]
    rw [show (let d := Int.emod c m; if isPos (d + d - m) then d - m else d) = c + m * y from hy, Int.add_mul, Int.mul_add, Int.mul_assoc]
    omega
/-- The rest of a number that is not negative by m > 0. -/
def syRem (a : Sy) (m : Int) : Option Sy :=
  match a with
  | .k z => if isPos m && isPos (z + 1) then some (.k (Int.emod z m)) else none
  | .p l =>
    let r0 := lmodc m l
    let r := syOf (ladd r0 (Sy.k (- (m * Int.ediv (llb r0) m))).pl)
    if isPos m && (isPos (llb l + 1) && syIn 0 (m - 1) r) then some r else none
theorem syRem_ok {e : Nat → Nat} (he : Env e) {a r : Sy} {m : Int} (h : syRem a m = some r) : 0 < m ∧ 0 ≤ a.ev e ∧ r.ev e = Int.emod (a.ev e) m := by
  unfold syRem at h
  split at h
  · rename_i z
    split at h
    · rename_i hc
      simp only [Bool.and_eq_true, isPos_iff] at hc
      cases h
      exact ⟨hc.1, by show 0 ≤ z; omega, rfl⟩
    · cases h
  · rename_i l
    dsimp only at h
    split at h
    · rename_i hc
      simp only [Bool.and_eq_true, isPos_iff] at hc
      obtain ⟨h1, h2, h3⟩ := hc
      cases h
      have h4 := syIn_ok he h3
      have h5 := llb_ok he l
      obtain ⟨z, hz⟩ := lmodc_ok e m l
      refine ⟨h1, by show 0 ≤ lev e l; omega, ?_⟩
      rw [syOf_ev, lev_add, Sy.ev_pl, hz] at h4 ⊢
      simp only [Sy.ev] at h4 ⊢
      have h6 : lev e l + m * z + - (m * Int.ediv (llb (lmodc m l)) m) = lev e l + m * (z - Int.ediv (llb (lmodc m l)) m) := by
        rw [Int.mul_sub]; omega
      rw [h6] at h4 ⊢
      have h7 := Int.emod_eq_of_lt h4.1 (show _ < m by omega)
      rw [Int.add_mul_emod_self_left] at h7
      exact h7.symm
    · cases h
end Go.Mach
namespace Go.Flow
open Go Go.RowKit

/-- The wide fence in a frame of any round. -/
abbrev Fr (ro : Option Nat) : Fence := { Fence.wide with round := ro }

theorem Fr_room (ro : Option Nat) (n : Nat) : (Fr ro).room n := fun _ h => by simp [Fence.wide] at h
theorem Fr_fenced (ro : Option Nat) (P : Program) : Machine.fenced P (Fr ro) = Machine.fenced P Fence.wide := rfl

theorem callsFr {ro : Option Nat} {P : Program} {f : FuncId} {args : Array Value} {w : World} {R : Ending → World → Prop} : CallsIn (Fr ro) 0 P f args w R ↔ Calls P f args w R := by
  rw [← callsIn_wide (n := 0)]
  exact ⟨fun h => ⟨trivial, fun cs _ => h.2 cs (Fr_room _ _)⟩, fun h => ⟨trivial, fun cs _ => h.2 cs (room_wide _)⟩⟩

/-- What a round comes to. -/
def RoundC (P : Program) (l : Nat) (f : FuncId) (tmps : Array Value) (assign body : Code) (w : World) (R : Ending → World → Prop) : Prop :=
  RoundIn Fence.wide 0 P l f tmps assign body w R
theorem roundFr {ro : Option Nat} {P : Program} {l : Nat} {f : FuncId} {tmps : Array Value} {assign body : Code} {w : World} {R : Ending → World → Prop} :
    RoundIn (Fr ro) 0 P l f tmps assign body w R ↔ RoundC P l f tmps assign body w R :=
  ⟨fun h => ⟨trivial, fun c cs _ => h.2 c cs (Fr_room _ _)⟩, fun h => ⟨trivial, fun c cs _ => h.2 c cs (room_wide _)⟩⟩

section
variable {P : Program} {ops : Array Oper}

/-- What an operation yields. -/
def yieldsC (P : Program) (G : Value → World → Prop) : Result Next → Prop
  | .ok (.value u) w' => G u w'
  | .ok .skip w' => G undef w'
  | .ok (.enter f args) w' => Calls P f args w' (fun e w'' => ∃ u, e = .returned u ∧ G u w'')
  | .ok (.round l f tmps assign body) w' => RoundC P l f tmps assign body w' (fun e w'' => ∃ u, e = .returned u ∧ G u w'')
  | _ => False

theorem yieldsC_of_upon {G : Value → World → Prop} {r : Result Next} (h : yieldsUpon P G r) : yieldsC P G r := by
  cases r with
  | ok n w => cases n <;> first | exact h | exact (show False from h).elim
  | halt x w => exact h

theorem yieldsC_mono {G G' : Value → World → Prop} {r : Result Next} (h : yieldsC P G r) (k : ∀ u w', G u w' → G' u w') : yieldsC P G' r := by
  cases r with
  | ok n w' =>
    cases n with
    | value u => exact k u w' h
    | skip => exact k undef w' h
    | enter f args => exact Calls.mono h fun e w'' ⟨u, he, hg⟩ => ⟨u, he, k u w'' hg⟩
    | round l f tmps assign body => exact RoundIn.mono h fun e w'' ⟨u, he, hg⟩ => ⟨u, he, k u w'' hg⟩
    | _ => exact h.elim
  | halt x w' => exact h.elim

theorem uponIn_of {ro : Option Nat} {G : Value → World → Prop} {o : Oper} {a : Act} {next : Act → World → Prop} {Q : Exit → Act → World → Prop} {r : Result Next} (h : yieldsC P G r) (k : ∀ u w', G u w' → next (a.put o.dst u) w') :
    o.uponIn (Fr ro) 0 P a next Q r := by
  cases r with
  | ok n w' =>
    cases n with
    | value u => exact k u w' h
    | skip => exact k undef w' h
    | enter f args =>
      refine ⟨fun hd => by simp [Fence.wide] at hd, ?_⟩
      refine CallsIn.mono (callsFr.2 h) ?_
      rintro e w'' ⟨u, rfl, hg⟩
      exact k u w'' hg
    | round l f tmps assign body =>
      refine ⟨fun hd => by simp [Fence.wide] at hd, ?_⟩
      refine RoundIn.mono (roundFr.2 h) ?_
      rintro e w'' ⟨u, rfl, hg⟩
      exact k u w'' hg
    | _ => exact h.elim
  | halt x w' => exact h.elim

def noDefer : Op → Bool
  | .defer _ => false
  | _ => true

theorem wpIn_of {ro : Option Nat} {G : Value → World → Prop} {o : Oper} {a : Act} {w : World} {next : Act → World → Prop} {Q : Exit → Act → World → Prop} (hd : noDefer o.op = true) (h : yieldsC P G ((execOp a.eval o).run P w)) (k : ∀ u w', G u w' → next (a.put o.dst u) w') :
    o.wpIn (Fr ro) 0 P a w next Q := by
  refine ⟨fun _ _ => trivial, ?_⟩
  rw [Oper.semAt_plain _ _ _ (fun c hc => by rw [hc] at hd; cases hd)]
  exact uponIn_of h k

/-- THE RULE for regions that draw their order. -/
theorem region_inv {ro : Option Nat} {id : Nat} {Q : Exit → Act → World → Prop} {a0 : Act} {w0 : World} (hm : P.follows .mixedOrders = true) {anc : List (List (Nat × Tmp))} (c : Chk ops ops.size anc) (hdf : ∀ (i : Nat) (o : Oper), ops[i]? = some o → noDefer o.op = true)
    (hsz : ∀ (j : Nat) oj t, ops[j]? = some oj → oj.dst = some t → t < a0.tmps.size) (J : Array Bool → (Nat → Value) → World → Prop)
    (step : ∀ listed v w i o, J listed v w → listed.size = ops.size → Closed ops listed → ops[i]? = some o → listed.getD i false = false → (∀ x, ((masks [] ops.toList).getD i 0).testBit x = true → listed.getD x false = true) →
      if wantedV o v then yieldsC P (fun u w' => J (listed.setIfInBounds i true) (upd v i u) w') ((execOp (putL a0 v (anc.getD i [])).eval o).run P w) else J (listed.setIfInBounds i true) (upd v i undef) w)
    (fin : ∀ listed v w, J listed v w → (∀ i, i < ops.size → listed.getD i false = true) → Q .normal (putL a0 v (dsts ops ops.size)) w)
    (h0 : J (Array.replicate ops.size false) (fun _ => undef) { w0 with drawn := w0.drawn + 1 }) : (Code.region id ops true).wpIn (Fr ro) 0 P Q a0 w0 := by
  refine wpIn_region_any hm ?_
  have key : ∀ (k : Nat) (listed : Array Bool) (v : Nat → Value) (a : Act) (w : World), left ops.size listed = k → FInv ops a0 listed v a → J listed v w → wpAnyIn (Fr ro) 0 P .any ops Q k listed a w := by
    intro k
    induction k with
    | zero =>
      intro listed v a w hk h hJ
      have hall := left_zero hk
      have memd : ∀ j t, (j, t) ∈ dsts ops ops.size ↔ j < ops.size ∧ (ops[j]?).bind (·.dst) = some t := by
        intro j t
        simp only [dsts, List.mem_filterMap, List.mem_range, Option.map_eq_some_iff]
        constructor
        · rintro ⟨x, hx, t', ht', he⟩
          cases he
          exact ⟨hx, ht'⟩
        · rintro ⟨hj, ht⟩
          exact ⟨j, hj, t, ht, rfl⟩
      have ha : a = putL a0 v (dsts ops ops.size) := by
        have h1 : a.tmps = (putL a0 v (dsts ops ops.size)).tmps := by
          apply Array.ext_getElem?
          intro t
          by_cases hw : ∃ j oj, ops[j]? = some oj ∧ listed.getD j false = true ∧ oj.dst = some t
          · obtain ⟨j, oj, hoj, hj, hd⟩ := hw
            have hjm : j < ops.size := (Array.getElem?_eq_some_iff.1 hoj).1
            have hts := hsz j oj t hoj hd
            rw [h.at_ j oj t hoj hj hd hts]
            refine (putL_at a0 v j t hts _ ((memd j t).2 ⟨hjm, by rw [hoj, Option.bind_some, hd]⟩) fun x hx => ?_).symm
            obtain ⟨hxm, hxd⟩ := (memd x t).1 hx
            cases hox : ops[x]? with
            | none => rw [hox] at hxd; cases hxd
            | some ox => rw [hox, Option.bind_some] at hxd; exact c.uniq j oj x ox t hjm hoj hxm hox hxd hd
          · rw [h.far t fun j oj hoj hj hd => hw ⟨j, oj, hoj, hj, hd⟩]
            refine (putL_far a0 v t _ fun j hj => hw ?_).symm
            obtain ⟨hjm, hjd⟩ := (memd j t).1 hj
            cases hoj : ops[j]? with
            | none => rw [hoj] at hjd; cases hjd
            | some oj => rw [hoj, Option.bind_some] at hjd; exact ⟨j, oj, hoj, hall j hjm, hjd⟩
        have h2 : a.defers = (putL a0 v (dsts ops ops.size)).defers := by rw [putL_defers]; exact h.defers
        cases a with
        | mk t d =>
          cases hq : putL a0 v (dsts ops ops.size) with
          | mk t' d' =>
            rw [hq] at h1 h2
            simp only at h1 h2
            rw [h1, h2]
      refine ⟨?_, ?_⟩
      · refine List.eq_nil_iff_forall_not_mem.2 fun i hi => ?_
        obtain ⟨hun, o, ho, _⟩ := mem_ready.1 hi
        have hlt := (Array.getElem?_eq_some_iff.1 ho).1
        have hlt' : i < listed.size := by rw [h.size]; exact hlt
        have := hall i hlt
        rw [Array.getD_eq_getD_getElem?, Array.getElem?_eq_getElem hlt'] at this hun
        rw [Option.getD_some] at this hun
        rw [this] at hun
        cases hun
      · rw [ha]; exact fin listed v w hJ hall
    | succ k ih =>
      intro listed v a w hk h hJ
      have hcl := h.cl
      have hnotall : ¬ ∀ i, i < ops.size → listed.getD i false = true := fun hall => by
        have : left ops.size listed = 0 := by
          unfold left
          rw [List.filter_eq_nil_iff.2 (fun i hi => by simp [hall i (List.mem_range.1 hi)])]
          rfl
        omega
      refine ⟨fun hr => absurd hr ?_, fun i hi => ?_⟩
      · have hex : ∃ i, i < ops.size ∧ listed.getD i false = false ∧ ∀ j, j < i → listed.getD j false = true := by
          have : ∀ n, n ≤ ops.size → (∀ j, j < n → listed.getD j false = true) ∨ ∃ i, i < n ∧ listed.getD i false = false ∧ ∀ j, j < i → listed.getD j false = true := by
            intro n
            induction n with
            | zero => intro _; exact .inl fun j hj => absurd hj (by omega)
            | succ n ihn =>
              intro hn
              rcases ihn (by omega) with h1 | ⟨i, hi, h1, h2⟩
              · by_cases hb : listed.getD n false = true
                · refine .inl fun j hj => ?_
                  rcases Nat.lt_or_ge j n with h2 | h2
                  · exact h1 j h2
                  · obtain rfl : j = n := by omega
                    exact hb
                · exact .inr ⟨n, by omega, by simpa using hb, h1⟩
              · exact .inr ⟨i, by omega, h1, h2⟩
          rcases this ops.size (Nat.le_refl _) with h1 | ⟨i, hi, h1, h2⟩
          · exact absurd h1 hnotall
          · exact ⟨i, hi, h1, h2⟩
        obtain ⟨i, hlt, hun, hbef⟩ := hex
        have hoi : ops[i]? = some ops[i] := Array.getElem?_eq_getElem hlt
        have hmem : i ∈ Region.ready .any ops listed := mem_ready.2 ⟨by
          have hlt' : i < listed.size := by rw [h.size]; exact hlt
          rw [Array.getD_eq_getD_getElem?, Array.getElem?_eq_getElem hlt'] at hun ⊢
          exact hun, _, hoi, fun e he hb => hbef e.on (c.back i _ hoi e he hb)⟩
        intro hnil
        rw [hnil] at hmem
        cases hmem
      · obtain ⟨hun', o, ho, hall⟩ := mem_ready.1 hi
        have hlt : i < ops.size := (Array.getElem?_eq_some_iff.1 ho).1
        have hlt' : i < listed.size := by rw [h.size]; exact hlt
        have hun : listed.getD i false = false := by
          rw [Array.getD_eq_getD_getElem?, Array.getElem?_eq_getElem hlt'] at hun' ⊢
          exact hun'
        have hreach : ∀ x, ((masks [] ops.toList).getD i 0).testBit x = true → listed.getD x false = true := by
          intro x hx
          have := masks_spec (L := fun j => listed.getD j false = true ∨ j = i) ops.toList [] (fun j oj hoj hj e he hb => by
            have hoj' : ops[j]? = some oj := by simpa using hoj
            rcases (by simpa using hj : listed.getD j false = true ∨ j = i) with h1 | rfl
            · exact .inl (h.closed j oj hoj' h1 e he hb)
            · rw [ho] at hoj'; cases hoj'; exact .inl (hall e he hb)) (fun j _ x hlt => by simp at hlt) i (.inr rfl) x hx
          rcases this with h1 | rfl
          · exact h1
          · exact absurd (masks_below ops.toList [] (fun j oj hoj e he hb => by simpa using c.back j oj (by simpa using hoj) e he hb) (fun j x hlt => by simp at hlt) _ _ hx) (Nat.lt_irrefl _)
        have hanc : ∀ p ∈ anc.getD i [], listed.getD p.1 false = true := fun p hp => hreach p.1 (c.ancs i o hlt ho p hp).2.1
        have hstep := step listed v w i o hJ h.size hcl ho hun hreach
        have hcnt := left_set hlt hlt' hun
        have next : ∀ u w', J (listed.setIfInBounds i true) (upd v i u) w' → wpAnyIn (Fr ro) 0 P .any ops Q k (listed.setIfInBounds i true) (a.put o.dst u) w' := fun u w' hJ' =>
          ih _ (upd v i u) _ w' (by omega) (h.put c ho hun hall) hJ'
        unfold wpOpIn
        simp only [ho]
        rw [wanted_eq2 c h ho hsz hanc]
        by_cases hw : wantedV o v = true
        · rw [if_pos hw] at hstep ⊢
          refine wpIn_of (hdf i o ho) (G := fun u w' => J (listed.setIfInBounds i true) (upd v i u) w') ?_ next
          rw [execOp_congr o (c.nosel i o hlt ho) (fun x hx => h.eval c ho hun hanc x hx)]
          exact hstep
        · rw [if_neg hw] at hstep ⊢
          exact ⟨fun _ _ => trivial, next undef w hstep⟩
  refine key ops.size _ (fun _ => undef) a0 _ ?_ ?_ h0
  · unfold left
    rw [List.filter_eq_self.2 (fun i hi => by
      have : i < ops.size := List.mem_range.1 hi
      simp [this]), List.length_range]
  · refine ⟨by simp, ?_, rfl, rfl, ?_, fun _ _ => rfl⟩
    · intro i o _ hi
      rw [Array.getD_eq_getD_getElem?, Array.getElem?_replicate] at hi
      split at hi <;> simp at hi
    · intro i o t _ hi
      rw [Array.getD_eq_getD_getElem?, Array.getElem?_replicate] at hi
      split at hi <;> simp at hi
end
end Go.Flow
namespace Go.Mach
open Go Go.RowKit Go.Flow

inductive C where
  | v (x : Value)
  | vec (l : List Value)
  | mag (l : List Nat)
  | sl (n : Nat) (cs : List C)
  | sy (q : IntKind) (l : Pl)
  | smag (l : Pl)
  deriving Inhabited
inductive D where
  | c (x : C)
  | fp (cs : List C)
  | ptr (b o : Nat)
  | lsl (b o n s : Nat)
  | fn (f : FuncId) (ps : List (Nat × Nat))
  | z0
  | yld (b : Nat)
  | mp (b : Nat)
  deriving Inhabited
inductive T1 where
  | one (d : D)
  | agg (ds : List D)
  deriving Inhabited
inductive T where
  | nil
  | t (x : T1)
  | tup (l : List T1)
  | row (n : Nat) (ds : List D)
  deriving Inhabited
/-- A value at a call's border. -/
inductive V1 where
  | one (c : C)
  | agg (cs : List C)
  deriving Inhabited

/-- How code is left. -/
inductive X where
  | normal
  | exit (id : Nat)
  | ret
  deriving Inhabited, DecidableEq
def X.toExit : X → Exit
  | .normal => .normal
  | .exit id => .exit id
  | .ret => .ret
def X.toCode : X → Code
  | .normal => .skip
  | .exit id => .exit id
  | .ret => .ret

/-- A range over a function that is under way: the number of its body, the frame in which it began. -/
structure LpR where
  i : Nat
  τ : List T
  st : LoopState
  pend : Option X
  deriving Inhabited

inductive Blk where
  | cells (ds : List D)
  | mp (es : List (List Int × List D))
  | it (m n : Nat) (ks : List Nat)
  | lp (r : LpR)
  | df
  deriving Inhabited

/-- A body of a range over a function: how many temporaries its function has, which of them are followed, the loop's parameters, the assignment to its variables, the body. -/
structure Bd where
  n : Nat
  kp : List Tmp
  params : Array Tmp
  assign : Code
  body : Code
abbrev Bodies := Nat → Option Bd

def isCell : Value → Bool
  | .agg _ | .tuple _ => false
  | _ => true

/-- How many classes of inputs there are, and which one is spoken of. -/
structure Cls where
  n : Nat
  k : Nat
  e : Nat → Nat
  he : Env e

/-- The type of a limb of a great integer: blocks of limbs are never written by the machine. -/
class Limb where
  u : TypeId
variable [Limb]
def limb (w : World) (x : Nat) : Prop := ∃ cs fr, w.heap[x]? = some (.cells cs Limb.u fr)

/-- The entry of a class; one entry stands for all classes. -/
def at1 {α : Type} (l : List α) (k : Cls) : Option α := match l with | [x] => some x | l => if l.length = k.n then l[k.k]? else none

inductive RC (k : Cls) (F : Nat → Prop) (w : World) : C → Value → Prop
  | v (x : Value) (h : isCell x = true) : RC k F w (.v x) x
  | vec (l : List Value) (x : Value) (h : at1 l k = some x) (hx : isCell x = true) : RC k F w (.vec l) x
  | mag0 (l : List Nat) (A : Option Addr) (c : Nat) (h : at1 l k = some 0) (hA : A = none → c = 0) : RC k F w (.mag l) (.slice A 0 c)
  | mag1 (l : List Nat) (n b o cap : Nat) (h : at1 l k = some n) (h0 : 0 < n) (h1 : n < 4294967296) (hc : 1 ≤ cap) (hF : ¬ F b) (hcell : w.cell? ⟨b, o, none⟩ = some (.int .u32 n)) : RC k F w (.mag l) (.slice (some ⟨b, o, none⟩) 1 cap)
  | nil (A : Option Addr) (c : Nat) (h : A = none → c = 0) : RC k F w (.sl 0 []) (.slice A 0 c)
  | sl (n : Nat) (cs : List C) (b o cap : Nat) (f : Nat → Value) (hn : n ≤ cap) (hF : cs ≠ [] → ¬ F b) (hc : ∀ (j : Nat) (c : C), cs[j]? = some c → w.cell? ⟨b, o + j, none⟩ = some (f j)) (hr : ∀ (j : Nat) (c : C), cs[j]? = some c → RC k F w c (f j)) : RC k F w (.sl n cs) (.slice (some ⟨b, o, none⟩) n cap)
  | sy (q : IntKind) (l : Pl) : RC k F w (.sy q l) (.int q (lev k.e l))
  | smag (l : Pl) (n b o cap : Nat) (h : lev k.e l = (n : Int)) (h0 : 0 < n) (h1 : n < 4294967296) (hc : 1 ≤ cap) (hF : ¬ F b) (hcell : w.cell? ⟨b, o, none⟩ = some (.int .u32 n)) : RC k F w (.smag l) (.slice (some ⟨b, o, none⟩) 1 cap)
def RCs (k : Cls) (F : Nat → Prop) (w : World) (b o : Nat) (cs : List C) : Prop :=
  (cs ≠ [] → ¬ F b) ∧ ∀ (j : Nat) (c : C), cs[j]? = some c → ∃ u, w.cell? ⟨b, o + j, none⟩ = some u ∧ RC k F w c u

theorem RC.cs {k : Cls} {F : Nat → Prop} {w : World} {n : Nat} {cs : List C} {b o l cap : Nat} (h : RC k F w (.sl n cs) (.slice (some ⟨b, o, none⟩) l cap)) : RCs k F w b o cs := by
  cases h with
  | nil => exact ⟨fun h => absurd rfl h, fun j c hj => by simp at hj⟩
  | sl _ _ _ _ _ f hn hF hc hr => exact ⟨hF, fun j c hj => ⟨f j, hc j c hj, hr j c hj⟩⟩

theorem RC.of_cs {k : Cls} {F : Nat → Prop} {w : World} {n : Nat} {cs : List C} {b o cap : Nat} (hn : n ≤ cap) (h : RCs k F w b o cs) : RC k F w (.sl n cs) (.slice (some ⟨b, o, none⟩) n cap) := by
  have key : ∀ j, ∃ u, ∀ c, cs[j]? = some c → w.cell? ⟨b, o + j, none⟩ = some u ∧ RC k F w c u := by
    intro j
    cases hj : cs[j]? with
    | none => exact ⟨undef, fun c hc => by cases hc⟩
    | some c =>
      obtain ⟨u, hu, hr⟩ := h.2 j c hj
      exact ⟨u, fun c' hc' => by cases hc'; exact ⟨hu, hr⟩⟩
  exact .sl n cs b o cap (fun j => (key j).choose) hn h.1 (fun j c hj => ((key j).choose_spec c hj).1) (fun j c hj => ((key j).choose_spec c hj).2)

theorem RC.cap0 {k : Cls} {F : Nat → Prop} {w : World} {n : Nat} {cs : List C} {l cap : Nat} (h : RC k F w (.sl n cs) (.slice none l cap)) : cap = 0 := by
  cases h with
  | nil _ _ h => exact h rfl

/-- The contents of the call's own blocks; none: no longer to be looked at. -/
abbrev Hp := List (Option Blk)

/-- Blocks that may still be written. -/
def Fo (F0 : Nat → Prop) (φ : Nat → Option Nat) (H : Hp) (S : List Nat) (a : Nat) : Prop :=
  F0 a ∨ ∃ (b : Nat) (x : Blk), H[b]? = some (some x) ∧ b ∉ S ∧ (φ b) = some a

def RD (k : Cls) (F : Nat → Prop) (φ : Nat → Option Nat) (w : World) : D → Value → Prop
  | .c x, u => RC k F w x u
  | .fp cs, u => ∃ b o, u = .pointer (some ⟨b, o, none⟩) ∧ RCs k F w b o cs
  | .ptr b o, u => ∃ x, (φ b) = some x ∧ u = .pointer (some ⟨x, o, none⟩)
  | .lsl b o n s, u => ∃ x cap, (φ b) = some x ∧ u = .slice (some ⟨x, o, none⟩) n cap ∧ n ≤ cap ∧ ∃ vs t fr, w.heap[x]? = some (.cells vs t fr) ∧ o + cap * s ≤ vs.size
  | .fn f ps, u => ∃ vs : Array Value, u = .func (.func f) #[] vs ∧ vs.size = ps.length ∧ ∀ (j b o : Nat), ps[j]? = some (b, o) → ∃ x, φ b = some x ∧ vs[j]? = some (.pointer (some ⟨x, o, none⟩))
  | .z0, u => ∃ A, u = .slice A 0 0
  | .yld b, u => ∃ x, φ b = some x ∧ u = .func (.yield x) #[] #[]
  | .mp b, u => ∃ x, φ b = some x ∧ u = .map (some x)

def RT1 (k : Cls) (F : Nat → Prop) (φ : Nat → Option Nat) (w : World) : T1 → Value → Prop
  | .one d, u => RD k F φ w d u
  | .agg ds, u => ∃ vs : Array Value, u = .agg vs ∧ vs.size = ds.length ∧ ∀ (j : Nat) (d : D), ds[j]? = some d → ∃ x, vs[j]? = some x ∧ RD k F φ w d x

def RT (k : Cls) (F : Nat → Prop) (φ : Nat → Option Nat) (w : World) : T → Value → Prop
  | .nil, _ => True
  | .t x, u => RT1 k F φ w x u
  | .tup l, u => ∃ vs : Array Value, u = .tuple vs ∧ vs.size = l.length ∧ ∀ (j : Nat) (d : T1), l[j]? = some d → ∃ x, vs[j]? = some x ∧ RT1 k F φ w d x
  | .row n ds, u => ∃ b o cap, u = .slice (some ⟨b, o, none⟩) n cap ∧ n ≤ cap ∧ ¬ F b ∧ b < w.heap.size ∧ ∀ (j : Nat) (d : D), ds[j]? = some d → ∃ x, w.cell? ⟨b, o + j, none⟩ = some x ∧ RD k F φ w d x

def V1.t1 : V1 → T1
  | .one c => .one (.c c)
  | .agg cs => .agg (cs.map .c)

/-- How a block lies. -/
def RB (k : Cls) (Bt : Bodies) (F : Nat → Prop) (φ : Nat → Option Nat) (w : World) (x : Nat) : Blk → Prop
  | .cells ds => ∃ vs t, w.heap[x]? = some (.cells vs t (0, 0)) ∧ ds.length ≤ vs.size ∧ (∀ (j : Nat) (d : D), ds[j]? = some d → ∃ u, vs[j]? = some u ∧ RD k F φ w d u) ∧ t ≠ Limb.u
  | .mp es => ∃ (ens : Array MapEntry) (clk : Nat), w.heap[x]? = some (.map ens clk) ∧ ens.size = es.length ∧ clk = ens.size ∧ (∀ (j : Nat) e, ens[j]? = some e → e.born = j) ∧
      ∀ (j : Nat) key ds, es[j]? = some (key, ds) → ∃ e, ens[j]? = some e ∧ e.key = .agg (key.map (Value.int .i64)).toArray ∧ key.length = 4 ∧ RT1 k F φ w (.agg ds) e.val
  | .it m n ks => ∃ bm, φ m = some bm ∧ w.heap[x]? = some (.mapIter (some bm) n ks.toArray n)
  | .lp r => ∃ (l : Loop) (bd : Bd), w.heap[x]? = some (.loop l) ∧ Bt r.i = some bd ∧ l.params = bd.params ∧ l.assign = bd.assign ∧ l.body = bd.body ∧ l.state = r.st ∧ l.pending = r.pend.map X.toCode ∧ l.tmps.size = bd.n ∧ ∀ (p t : Nat), bd.kp[p]? = some t → RT k F φ w (r.τ.getD p .nil) (l.tmps.getD t undef)
  | .df => w.heap[x]? = some (.deferred (some []))

structure HR (k : Cls) (Bt : Bodies) (F0 : Nat → Prop) (N : Nat) (φ : Nat → Option Nat) (w : World) (H : Hp) (S : List Nat) : Prop where
  dom : ∀ b, H.length ≤ b → φ b = none
  f0 : ∀ x, F0 x → x < w.heap.size ∧ (∀ (b : Nat) y, H[b]? = some (some y) → φ b ≠ some x) ∧ ¬ limb w x
  inj : ∀ (b b' : Nat) y y' x, H[b]? = some (some y) → H[b']? = some (some y') → (φ b) = some x → (φ b') = some x → b = b'
  at_ : ∀ (b : Nat) y x, H[b]? = some (some y) → φ b = some x → N ≤ x ∧ RB k Bt (Fo F0 φ H S) φ w x y

/-- What keeps cells: growth, writes into blocks of F, fewer blocks that may be written. -/
structure Kp (F : Nat → Prop) (φ : Nat → Option Nat) (w : World) (F' : Nat → Prop) (φ' : Nat → Option Nat) (w' : World) : Prop where
  phi : ∀ (b x : Nat), (φ b) = some x → (φ' b) = some x
  keep : ∀ (x : Nat), x < w.heap.size → ¬ F x → w'.heap[x]? = w.heap[x]? ∧ ¬ F' x
  size : ∀ (x : Nat) vs t fr, w.heap[x]? = some (.cells vs t fr) → ∃ vs', w'.heap[x]? = some (.cells vs' t fr) ∧ vs'.size = vs.size

section
variable {k : Cls} {Bt : Bodies} {F F' F'' : Nat → Prop} {φ φ' φ'' : Nat → Option Nat} {w w' w'' : World}

theorem Kp.refl : Kp F φ w F φ w := ⟨fun _ _ h => h, fun _ _ h => ⟨rfl, h⟩, fun _ vs _ _ h => ⟨vs, h, rfl⟩⟩
theorem lt_of_heap {b : Nat} {o : Obj} (h : w.heap[b]? = some o) : b < w.heap.size := by
  rcases Nat.lt_or_ge b w.heap.size with hlt | hge
  · exact hlt
  · rw [Array.getElem?_eq_none hge] at h; cases h
theorem Kp.trans (h : Kp F φ w F' φ' w') (k : Kp F' φ' w' F'' φ'' w'') (hs : w.heap.size ≤ w'.heap.size) : Kp F φ w F'' φ'' w'' :=
  ⟨fun b x hx => k.phi b x (h.phi b x hx),
   fun x hx hF => ⟨((k.keep x (Nat.lt_of_lt_of_le hx hs) (h.keep x hx hF).2).1).trans (h.keep x hx hF).1, (k.keep x (Nat.lt_of_lt_of_le hx hs) (h.keep x hx hF).2).2⟩,
   fun x vs t fr hx => by
     obtain ⟨vs', h1, h2⟩ := h.size x vs t fr hx
     obtain ⟨vs'', h3, h4⟩ := k.size x vs' t fr h1
     exact ⟨vs'', h3, h4.trans h2⟩⟩
theorem Kp.of_ext (h : Ext w w') (hF : ∀ x, x < w.heap.size → ¬ F x → ¬ F' x) (hφ : ∀ (b x : Nat), (φ b) = some x → (φ' b) = some x) : Kp F φ w F' φ' w' :=
  ⟨hφ, fun x hx hf => ⟨h.block x hx, hF x hx hf⟩, fun x vs t fr hx => ⟨vs, by rw [h.block x (lt_of_heap hx)]; exact hx, rfl⟩⟩

theorem cell_lt {b o : Nat} {u : Value} (h : w.cell? ⟨b, o, none⟩ = some u) : b < w.heap.size := by
  rcases Nat.lt_or_ge b w.heap.size with hlt | hge
  · exact hlt
  · simp [World.cell?, Array.getElem?_eq_none hge] at h

theorem cell_eq {b o : Nat} (h : w'.heap[b]? = w.heap[b]?) : w'.cell? ⟨b, o, none⟩ = w.cell? ⟨b, o, none⟩ := World.cell?_of_block (w := w) h

theorem RC.kp (q : Kp F φ w F' φ' w') {c : C} {u : Value} (h : RC k F w c u) : RC k F' w' c u := by
  induction h with
  | v x hx => exact .v x hx
  | vec l x h hx => exact .vec l x h hx
  | mag0 l A c h hA => exact .mag0 l A c h hA
  | mag1 l n b o cap h h0 h1 hc hF hcell =>
    have hk := q.keep b (cell_lt hcell) hF
    exact .mag1 l n b o cap h h0 h1 hc hk.2 (by rw [cell_eq hk.1]; exact hcell)
  | nil A c h => exact .nil A c h
  | sy q l => exact .sy q l
  | smag l n b o cap h h0 h1 hc hF hcell =>
    have hk := q.keep b (cell_lt hcell) hF
    exact .smag l n b o cap h h0 h1 hc hk.2 (by rw [cell_eq hk.1]; exact hcell)
  | sl n cs b o cap f hn hF hc hr ih =>
    by_cases hcs : cs = []
    · subst hcs
      exact .sl n [] b o cap f hn (fun h => absurd rfl h) (fun j c hj => by simp at hj) (fun j c hj => by simp at hj)
    · have hlt : b < w.heap.size := by
        cases cs with
        | nil => exact absurd rfl hcs
        | cons c r => exact cell_lt (hc 0 c rfl)
      have hk := q.keep b hlt (hF hcs)
      exact .sl n cs b o cap f hn (fun _ => hk.2) (fun j c hj => by rw [cell_eq hk.1]; exact hc j c hj) ih

theorem RCs.kp (q : Kp F φ w F' φ' w') {b o : Nat} {cs : List C} (h : RCs k F w b o cs) : RCs k F' w' b o cs := by
  by_cases hcs : cs = []
  · subst hcs
    exact ⟨fun h => absurd rfl h, fun j c hj => by simp at hj⟩
  · have hlt : b < w.heap.size := by
      cases cs with
      | nil => exact absurd rfl hcs
      | cons c r => obtain ⟨u, hu, _⟩ := h.2 0 c rfl; exact cell_lt hu
    have hk := q.keep b hlt (h.1 hcs)
    refine ⟨fun _ => hk.2, fun j c hj => ?_⟩
    obtain ⟨u, hu, hr⟩ := h.2 j c hj
    exact ⟨u, by rw [cell_eq hk.1]; exact hu, hr.kp q⟩

theorem RD.kp (q : Kp F φ w F' φ' w') {d : D} {u : Value} (h : RD k F φ w d u) : RD k F' φ' w' d u := by
  cases d with
  | c x => exact RC.kp q h
  | fp cs =>
    obtain ⟨b, o, hu, hr⟩ := h
    exact ⟨b, o, hu, hr.kp q⟩
  | ptr b o =>
    obtain ⟨x, hx, hu⟩ := h
    exact ⟨x, q.phi b x hx, hu⟩
  | lsl b o n s =>
    obtain ⟨x, cap, hx, hu, hn, vs, t, fr, hw, hsz⟩ := h
    obtain ⟨vs', h1, h2⟩ := q.size x vs t fr hw
    exact ⟨x, cap, q.phi b x hx, hu, hn, vs', t, fr, h1, by omega⟩
  | fn f ps =>
    obtain ⟨vs, hu, hs, hp⟩ := h
    refine ⟨vs, hu, hs, fun j b o hj => ?_⟩
    obtain ⟨x, hx, hv⟩ := hp j b o hj
    exact ⟨x, q.phi b x hx, hv⟩
  | z0 => exact h
  | yld b =>
    obtain ⟨x, hx, hu⟩ := h
    exact ⟨x, q.phi b x hx, hu⟩
  | mp b =>
    obtain ⟨x, hx, hu⟩ := h
    exact ⟨x, q.phi b x hx, hu⟩

theorem RT1.kp (q : Kp F φ w F' φ' w') {x : T1} {u : Value} (h : RT1 k F φ w x u) : RT1 k F' φ' w' x u := by
  cases x with
  | one d => exact RD.kp q h
  | agg ds =>
    obtain ⟨vs, hu, hs, hr⟩ := h
    exact ⟨vs, hu, hs, fun j d hj => let ⟨x, hx, hd⟩ := hr j d hj; ⟨x, hx, RD.kp q hd⟩⟩

theorem RT.kp (q : Kp F φ w F' φ' w') {x : T} {u : Value} (h : RT k F φ w x u) : RT k F' φ' w' x u := by
  cases x with
  | nil => trivial
  | t x => exact RT1.kp q h
  | tup l =>
    obtain ⟨vs, hu, hs, hr⟩ := h
    exact ⟨vs, hu, hs, fun j d hj => let ⟨x, hx, hd⟩ := hr j d hj; ⟨x, hx, RT1.kp q hd⟩⟩
  | row n ds =>
    obtain ⟨b, o, cap, hu, hn, hF, hb, hr⟩ := h
    obtain ⟨h1, h2⟩ := q.keep b hb hF
    have hsz : b < w'.heap.size := by
      obtain ⟨ob, hob⟩ : ∃ ob, w.heap[b]? = some ob := ⟨_, Array.getElem?_eq_getElem hb⟩
      rw [hob] at h1
      exact lt_of_heap h1
    exact ⟨b, o, cap, hu, hn, h2, hsz, fun j d hj => let ⟨x, hx, hd⟩ := hr j d hj; ⟨x, by rw [cell_eq h1]; exact hx, RD.kp q hd⟩⟩

/-- A block that has not changed is as it was. -/
theorem RB.kp (q : Kp F φ w F' φ' w') {x : Nat} {y : Blk} (h : RB k Bt F φ w x y) (hx : w'.heap[x]? = w.heap[x]?) : RB k Bt F' φ' w' x y := by
  cases y with
  | cells ds =>
    obtain ⟨vs, t, hw, hl, hc, ht⟩ := h
    exact ⟨vs, t, by rw [hx]; exact hw, hl, fun j d hj => let ⟨u, hu, hd⟩ := hc j d hj; ⟨u, hu, RD.kp q hd⟩, ht⟩
  | mp es =>
    obtain ⟨ens, clk, hw, hs, h1, h2, h3⟩ := h
    exact ⟨ens, clk, by rw [hx]; exact hw, hs, h1, h2, fun j key ds hj => let ⟨e, he, hk, hk4, hv⟩ := h3 j key ds hj; ⟨e, he, hk, hk4, RT1.kp q hv⟩⟩
  | it m n ks =>
    obtain ⟨bm, h1, h2⟩ := h
    exact ⟨bm, q.phi m bm h1, by rw [hx]; exact h2⟩
  | lp r =>
    obtain ⟨l, bd, hw, h1, h2, h3, h4, h5, h6, h7, h8⟩ := h
    exact ⟨l, bd, by rw [hx]; exact hw, h1, h2, h3, h4, h5, h6, h7, fun p t hp => RT.kp q (h8 p t hp)⟩
  | df => show _ = _; rw [hx]; exact h

theorem RB.lt {x : Nat} {y : Blk} (h : RB k Bt F φ w x y) : x < w.heap.size := by
  cases y with
  | cells ds => obtain ⟨vs, t, hw, _⟩ := h; exact lt_of_heap hw
  | mp es => obtain ⟨ens, clk, hw, _⟩ := h; exact lt_of_heap hw
  | it m n ks => obtain ⟨bm, _, hw⟩ := h; exact lt_of_heap hw
  | lp r => obtain ⟨l, bd, hw, _⟩ := h; exact lt_of_heap hw
  | df => exact lt_of_heap h

theorem HR.dom_lt {F0 : Nat → Prop} {N : Nat} {H : Hp} {S : List Nat} (h : HR k Bt F0 N φ w H S) {b x : Nat} (hx : φ b = some x) : b < H.length := by
  rcases Nat.lt_or_ge b H.length with h1 | h1
  · exact h1
  · rw [h.dom b h1] at hx; cases hx

theorem HR.lt {F0 : Nat → Prop} {N : Nat} {H : Hp} {S : List Nat} (h : HR k Bt F0 N φ w H S) {b : Nat} {y : Blk} (hb : H[b]? = some (some y)) {x : Nat} (hx : (φ b) = some x) : x < w.heap.size ∧ N ≤ x := by
  obtain ⟨hN, hB⟩ := h.at_ b y x hb hx
  exact ⟨hB.lt, hN⟩

theorem HR.fo_lt {F0 : Nat → Prop} {N : Nat} {H : Hp} {S : List Nat} (h : HR k Bt F0 N φ w H S) {x : Nat} (hx : Fo F0 φ H S x) : x < w.heap.size := by
  rcases hx with hx | ⟨b, y, hb, _, hx⟩
  · exact (h.f0 x hx).1
  · exact (h.lt hb hx).1

/-- Growth keeps the heap. -/
theorem HR.ext {F0 : Nat → Prop} {N : Nat} {H : Hp} {S : List Nat} (h : HR k Bt F0 N φ w H S) (hx : Ext w w') : HR k Bt F0 N φ w' H S := by
  refine ⟨h.dom, fun x h0 => ?_, h.inj, fun b y x hb hφ => ?_⟩
  · obtain ⟨h1, h3, h4⟩ := h.f0 x h0
    exact ⟨Nat.lt_of_lt_of_le h1 hx.size, h3, fun ⟨cs, fr, hl⟩ => h4 ⟨cs, fr, by rw [← hx.block x h1]; exact hl⟩⟩
  obtain ⟨hN, hB⟩ := h.at_ b y x hb hφ
  exact ⟨hN, RB.kp (Kp.of_ext hx (fun _ _ h => h) (fun _ _ h => h)) hB (hx.block x hB.lt)⟩

theorem limb_eq {x : Nat} (h : w'.heap[x]? = w.heap[x]?) (hn : ¬ limb w x) : ¬ limb w' x := fun ⟨cs, fr, hl⟩ => hn ⟨cs, fr, by rw [← h]; exact hl⟩

theorem RB.nolimb {F : Nat → Prop} {x : Nat} {y : Blk} (h : RB k Bt F φ w x y) : ¬ limb w x := by
  rintro ⟨cs, fr, hl⟩
  cases y with
  | cells ds =>
    obtain ⟨vs, t, hw, _, _, ht⟩ := h
    rw [hw] at hl
    cases hl
    exact ht rfl
  | mp es => obtain ⟨ens, clk, hw, _⟩ := h; rw [hw] at hl; cases hl
  | it m n ks => obtain ⟨bm, _, hw⟩ := h; rw [hw] at hl; cases hl
  | lp r => obtain ⟨l, bd, hw, _⟩ := h; rw [hw] at hl; cases hl
  | df => rw [show w.heap[x]? = some (.deferred (some [])) from h] at hl; cases hl

/-- What may still be written is no block of limbs. -/
theorem HR.nolimb {F0 : Nat → Prop} {N : Nat} {H : Hp} {S : List Nat} (h : HR k Bt F0 N φ w H S) {x : Nat} (hx : Fo F0 φ H S x) : ¬ limb w x := by
  rcases hx with hx | ⟨b, y, hb, _, hx⟩
  · exact (h.f0 x hx).2.2
  · exact (h.at_ b y x hb hx).2.nolimb

theorem Fo.shutB {F0 : Nat → Prop} {H : Hp} {S S' : List Nat} {x : Nat} (h : Fo F0 φ H (S' ++ S) x) : Fo F0 φ H S x := by
  rcases h with h | ⟨b, y, hb, hs, hx⟩
  · exact .inl h
  · exact .inr ⟨b, y, hb, fun h => hs (List.mem_append_right _ h), hx⟩

theorem Kp.shutB {F0 : Nat → Prop} {H : Hp} {S : List Nat} (S' : List Nat) : Kp (Fo F0 φ H S) φ w (Fo F0 φ H (S' ++ S)) φ w :=
  ⟨fun _ _ h => h, fun _ _ h => ⟨rfl, fun h' => h (Fo.shutB h')⟩, fun _ vs _ _ h => ⟨vs, h, rfl⟩⟩

theorem HR.shutB {F0 : Nat → Prop} {N : Nat} {H : Hp} {S : List Nat} (S' : List Nat) (h : HR k Bt F0 N φ w H S) : HR k Bt F0 N φ w H (S' ++ S) := by
  refine ⟨h.dom, h.f0, h.inj, fun b y x hb hφ => ?_⟩
  obtain ⟨hN, hB⟩ := h.at_ b y x hb hφ
  exact ⟨hN, RB.kp (Kp.shutB S') hB rfl⟩

end
end Go.Mach
namespace Go.Mach
open Go Go.RowKit Go.Flow
variable [Limb]

def plainD : D → Option Value
  | .c (.v x) => some x
  | _ => none
def plainL : List D → Option (List Value)
  | [] => some []
  | d :: r => match plainD d, plainL r with | some x, some l => some (x :: l) | _, _ => none
def plainT : T → Option Value
  | .t (.one d) => plainD d
  | .t (.agg ds) => (plainL ds).map fun l => .agg l.toArray
  | _ => none
def ofL : List Value → Option (List D)
  | [] => some []
  | x :: r => if isCell x then (match ofL r with | some l => some (.c (.v x) :: l) | none => none) else none
def ofVal : Value → Option T1
  | .agg cs => (ofL cs.toList).map .agg
  | x => if isCell x then some (.one (.c (.v x))) else none

/-- What an operand of the program's text holds. -/
def opd (τ : Nat → T) : Operand → T
  | .tmp t => τ t
  | .const v => match ofVal v with | some x => .t x | none => .nil
  | .global _ => .nil
  | .func f => .t (.one (.c (.v (.func (.func f) #[] #[]))))

/-- A run that asks memory nothing. -/
def pureRun {α : Type} (P : Program) : Sem α → Option α
  | .pure a => some a
  | .program k => pureRun P (k P)
  | _ => none
theorem pureRun_run {α : Type} (P : Program) (s : Sem α) (a : α) (h : pureRun P s = some a) (w : World) : s.run P w = .ok a w := by
  induction s with
  | pure b => simp [pureRun] at h; subst h; rfl
  | program k ih => exact ih P h
  | _ => simp [pureRun] at h

section
variable {P : Program} {k : Cls} {F : Nat → Prop} {φ : Nat → Option Nat} {w : World}

theorem plainD_eq {d : D} {x u : Value} (h : plainD d = some x) (r : RD k F φ w d u) : u = x := by
  cases d with
  | c y =>
    cases y with
    | v z => simp [plainD] at h; subst h; cases r; rfl
    | _ => simp [plainD] at h
  | _ => simp [plainD] at h

theorem plainL_eq : ∀ {ds : List D} {l : List Value} (_h : plainL ds = some l) {vs : List Value} (_hl : vs.length = ds.length) (_r : ∀ (j : Nat) (d : D), ds[j]? = some d → ∃ x, vs[j]? = some x ∧ RD k F φ w d x), vs = l
  | [], l, h, vs, hl, _ => by simp [plainL] at h; subst h; exact List.eq_nil_of_length_eq_zero hl
  | d :: ds, l, h, vs, hl, r => by
    unfold plainL at h
    split at h
    · rename_i x l' hx hl'
      cases h
      obtain ⟨y, hy, hr⟩ := r 0 d rfl
      cases vs with
      | nil => simp at hl
      | cons z vs =>
        simp at hy; subst hy
        have e1 : z = x := plainD_eq hx hr
        have e2 : vs = l' := plainL_eq hl' (by simpa using hl) (fun j d' hj => by simpa using r (j + 1) d' (by simpa using hj))
        rw [e1, e2]
    · cases h

theorem plainT_eq {t : T} {x u : Value} (h : plainT t = some x) (r : RT k F φ w t u) : u = x := by
  cases t with
  | nil => simp [plainT] at h
  | tup l => simp [plainT] at h
  | row n ds => simp [plainT] at h
  | t y =>
    cases y with
    | one d => exact plainD_eq h r
    | agg ds =>
      simp only [plainT, Option.map_eq_some_iff] at h
      obtain ⟨l, hl, rfl⟩ := h
      obtain ⟨vs, rfl, hs, hr⟩ := r
      have := plainL_eq hl (vs := vs.toList) (by simpa using hs) (fun j d hj => by simpa using hr j d hj)
      rw [← this]

theorem ofL_rep : ∀ {l : List Value} {ds : List D} (_h : ofL l = some ds), l.length = ds.length ∧ ∀ (j : Nat) (d : D), ds[j]? = some d → ∃ x, l[j]? = some x ∧ RD k F φ w d x
  | [], ds, h => by simp [ofL] at h; subst h; simp
  | x :: r, ds, h => by
    unfold ofL at h
    split at h
    · rename_i hx
      split at h
      · rename_i l' hl'
        cases h
        obtain ⟨h1, h2⟩ := ofL_rep hl'
        refine ⟨by simp [h1], fun j d hj => ?_⟩
        cases j with
        | zero => simp at hj; subst hj; exact ⟨x, rfl, RC.v x hx⟩
        | succ j => simp at hj ⊢; exact h2 j d hj
      · cases h
    · cases h

theorem ofVal_rep {x : Value} {t : T1} (h : ofVal x = some t) : RT1 k F φ w t x := by
  unfold ofVal at h
  split at h
  · rename_i cs
    simp only [Option.map_eq_some_iff] at h
    obtain ⟨ds, hd, rfl⟩ := h
    obtain ⟨h1, h2⟩ := ofL_rep (k := k) (F := F) (φ := φ) (w := w) hd
    exact ⟨cs, rfl, by simpa using h1, fun j d hj => by simpa using h2 j d hj⟩
  · split at h
    · rename_i hx
      cases h
      exact RC.v _ hx
    · cases h

theorem opd_rep {τ : Nat → T} {a : Act} (h : ∀ (t : Nat), RT k F φ w (τ t) (a.tmps.getD t undef)) (y : Operand) : RT k F φ w (opd τ y) (a.eval y) := by
  cases y with
  | tmp t => exact h t
  | const v =>
    unfold opd
    show RT k F φ w (match ofVal v with | some x => .t x | none => .nil) v
    cases hv : ofVal v with
    | none => trivial
    | some t => exact ofVal_rep hv
  | global g => trivial
  | func f => exact RC.v _ rfl
end

/-! ### What lies behind a pointer. -/
def cellsAt (H : Hp) : D → Nat → Option (List D)
  | .fp cs, n => if n ≤ cs.length then some ((cs.take n).map .c) else none
  | .ptr b o, n => match H[b]? with | some (some (.cells ds)) => (if o + n ≤ ds.length then some ((ds.drop o).take n) else none) | _ => none
  | _, _ => none

def u32 (n : Nat) : Value := .int .u32 (n : Int)
def magOf (l : List Nat) : Option (Nat × List C) :=
  if l.all (fun n => Nat.blt 0 n) then some (1, [.vec (l.map u32)]) else if l.all (fun n => Nat.beq n 0) then some (0, []) else none
def slOf : D → Option (Nat × List C)
  | .c (.sl n cs) => some (n, cs)
  | .c (.v (.slice none 0 0)) => some (0, [])
  | .c (.v (.slice (some _) 0 _)) => some (0, [])
  | .c (.mag l) => magOf l
  | .c (.smag l) => some (1, [.sy .u32 l])
  | .z0 => some (0, [])
  | _ => none

theorem at1_map {α β : Type} (f : α → β) (l : List α) (k : Cls) : at1 (l.map f) k = (at1 l k).map f := by
  match l with
  | [] => simp [at1]
  | [x] => rfl
  | x :: y :: r => show (if (List.map f (x :: y :: r)).length = k.n then (List.map f (x :: y :: r))[k.k]? else none) = Option.map f (if (x :: y :: r).length = k.n then (x :: y :: r)[k.k]? else none); rw [List.getElem?_map, List.length_map]; split <;> rfl
theorem at1_mem {α : Type} {l : List α} {k : Cls} {x : α} (h : at1 l k = some x) : x ∈ l := by
  match l, h with
  | [], h => simp [at1] at h
  | [y], h => simp [at1] at h; simp [h]
  | y :: z :: r, h =>
    simp only [at1] at h
    split at h
    · exact List.mem_of_getElem? h
    · cases h

section
variable {P : Program} {k : Cls} {Bt : Bodies} {F0 : Nat → Prop} {N : Nat} {φ : Nat → Option Nat} {w : World} {H : Hp} {S : List Nat}

theorem addr_add (b o j : Nat) : (⟨b, o, none⟩ : Addr).add j = ⟨b, o + j, none⟩ := by
  unfold Addr.add
  by_cases h : j = 0
  · subst h; simp
  · rw [if_neg h]

theorem cellsAt_ok (hH : HR k Bt F0 N φ w H S) {d : D} {n : Nat} {ds : List D} {u : Value} (h : cellsAt H d n = some ds) (r : RD k (Fo F0 φ H S) φ w d u) :
    ∃ b o, u = .pointer (some ⟨b, o, none⟩) ∧ ds.length = n ∧ ∀ (j : Nat) (d' : D), ds[j]? = some d' → ∃ x, w.cell? ⟨b, o + j, none⟩ = some x ∧ RD k (Fo F0 φ H S) φ w d' x := by
  cases d with
  | fp cs =>
    obtain ⟨b, o, rfl, hF, hr⟩ := r
    simp only [cellsAt] at h
    split at h
    · rename_i hn
      cases h
      refine ⟨b, o, rfl, by simp; omega, fun j d' hj => ?_⟩
      simp only [List.getElem?_map, List.getElem?_take, Option.map_eq_some_iff] at hj
      obtain ⟨c, hc, rfl⟩ := hj
      split at hc
      · exact hr j c hc
      · cases hc
    · cases h
  | ptr b o =>
    obtain ⟨x, hx, rfl⟩ := r
    simp only [cellsAt] at h
    split at h
    · rename_i es hb
      split at h
      · rename_i hn
        cases h
        obtain ⟨_, vs, t, hw, hl, hc, _⟩ := hH.at_ b _ x hb hx
        refine ⟨x, o, rfl, by simp; omega, fun j d' hj => ?_⟩
        simp only [List.getElem?_take, List.getElem?_drop] at hj
        split at hj
        · obtain ⟨u, hu, hd⟩ := hc (o + j) d' hj
          exact ⟨u, by simp [World.cell?, hw, hu], hd⟩
        · cases hj
      · cases h
    · cases h
  | _ => simp [cellsAt] at h

theorem magOf_ok {F : Nat → Prop} {l : List Nat} {n : Nat} {cs : List C} {u : Value} (h : magOf l = some (n, cs)) (r : RC k F w (.mag l) u) : ∃ A c, u = .slice A n c ∧ RC k F w (.sl n cs) (.slice A n c) ∧ n ≤ c := by
  unfold magOf at h
  split at h
  · rename_i hall
    cases h
    cases r with
    | mag0 _ A c h hA =>
      have := List.all_eq_true.1 hall 0 (at1_mem h)
      simp at this
    | mag1 _ n b o cap h h0 h1 hc hF hcell =>
      refine ⟨_, _, rfl, ?_, hc⟩
      refine RC.sl 1 _ b o cap (fun _ => u32 n) hc (fun _ => hF) (fun j c hj => ?_) (fun j c hj => ?_)
      · have : j = 0 := by
          have := (List.getElem?_eq_some_iff.1 hj).1
          simp at this; exact this
        subst this
        exact hcell
      · have : j = 0 := by
          have := (List.getElem?_eq_some_iff.1 hj).1
          simp at this; exact this
        subst this
        simp at hj; subst hj
        exact RC.vec _ _ (by rw [at1_map, h]; rfl) rfl
  · split at h
    · rename_i hall
      cases h
      cases r with
      | mag0 _ A c h hA => exact ⟨A, c, rfl, .nil A c hA, Nat.zero_le _⟩
      | mag1 _ n b o cap h h0 h1 hc hF hcell =>
        have := List.all_eq_true.1 hall n (at1_mem h)
        simp at this; omega
    · cases h

theorem slOf_ok {F : Nat → Prop} {d : D} {n : Nat} {cs : List C} {u : Value} (h : slOf d = some (n, cs)) (r : RD k F φ w d u) : ∃ A c, u = .slice A n c ∧ RC k F w (.sl n cs) (.slice A n c) ∧ n ≤ c := by
  unfold slOf at h
  split at h
  · cases h
    have r' : RC k F w (.sl n cs) u := r
    cases r' with
    | nil A c h => exact ⟨A, c, rfl, .nil A c h, Nat.zero_le _⟩
    | sl _ _ b o cap f hn hF hc hr => exact ⟨_, _, rfl, .sl n cs b o cap f hn hF hc hr, hn⟩
  · cases h
    have r' : RC k F w (.v (.slice none 0 0)) u := r
    cases r' with
    | v _ _ => exact ⟨none, 0, rfl, .nil none 0 (fun _ => rfl), Nat.le_refl _⟩
  · rename_i a c
    cases h
    have r' : RC k F w (.v (.slice (some a) 0 c)) u := r
    cases r' with
    | v _ _ => exact ⟨some a, c, rfl, .nil (some a) c (fun h => by cases h), Nat.zero_le _⟩
  · exact magOf_ok h r
  · rename_i l
    cases h
    have r' : RC k F w (.smag l) u := r
    cases r' with
    | smag _ n b o cap h h0 h1 hc hF hcell =>
      refine ⟨_, _, rfl, ?_, hc⟩
      refine RC.sl 1 _ b o cap (fun _ => .int .u32 n) hc (fun _ => hF) (fun j c hj => ?_) (fun j c hj => ?_)
      · have : j = 0 := by
          have := (List.getElem?_eq_some_iff.1 hj).1
          simp at this; exact this
        subst this
        exact hcell
      · have : j = 0 := by
          have := (List.getElem?_eq_some_iff.1 hj).1
          simp at this; exact this
        subst this
        simp at hj; subst hj
        rw [← h]
        exact RC.sy .u32 l
  · cases h
    obtain ⟨A, rfl⟩ := r
    exact ⟨A, 0, rfl, .nil A 0 (fun _ => rfl), Nat.le_refl _⟩
  · cases h

/-! ### The operations. -/
def isAggD : TypeDesc → Bool
  | .struct _ | .array _ _ => true
  | _ => false
def szC (P : Program) (t : TypeId) : Option Nat := (P.info? t).map (·.size)

theorem run_isAgg {t : TypeId} {d : TypeDesc} (h : P.underlying t = some d) : (isAgg t).run P w = .ok (isAggD d) w := by
  unfold isAgg
  simp only [Sem.run_bind, run_underlying h, Result.andThen_ok]
  cases d <;> rfl
theorem run_sizeOf {t : TypeId} {n : Nat} (h : szC P t = some n) : (sizeOf t).run P w = .ok n w := by
  unfold szC at h
  simp only [Option.map_eq_some_iff] at h
  obtain ⟨i, hi, rfl⟩ := h
  simp [sizeOf, typeInfo, hi]

/-- What a type is: a struct or an array, and its size. -/
def TyOk (P : Program) (t : TypeId) (agg : Bool) (n : Nat) : Prop := szC P t = some n ∧ ∃ de, P.underlying t = some de ∧ isAggD de = agg

def evLd (agg : Bool) (n : Nat) (H : Hp) (x : T) : Option T :=
  match x with
  | .t (.one d) =>
    if agg then (cellsAt H d n).map fun ds => .t (.agg ds)
    else match cellsAt H d 1 with | some [y] => some (.t (.one y)) | _ => none
  | _ => none

theorem evLd_ok (hH : HR k Bt F0 N φ w H S) {t : TypeId} {agg : Bool} {n : Nat} (ht : TyOk P t agg n) {x y : T} {u : Value} (h : evLd agg n H x = some y) (r : RT k (Fo F0 φ H S) φ w x u) :
    ∃ u', (Instr.loadAt t u).run P w = .ok u' w ∧ RT k (Fo F0 φ H S) φ w y u' := by
  obtain ⟨hn, de, hd, hde⟩ := ht
  unfold evLd at h
  split at h
  · rename_i d
    split at h
    · rename_i hag
      subst hde
      simp only [Option.map_eq_some_iff] at h
      obtain ⟨ds, hds, rfl⟩ := h
      obtain ⟨b, o, rfl, hl, hc⟩ := cellsAt_ok hH hds r
      have key : ∀ j, ∃ z, ∀ d', ds[j]? = some d' → w.cell? ⟨b, o + j, none⟩ = some z ∧ RD k (Fo F0 φ H S) φ w d' z := by
        intro j
        cases hj : ds[j]? with
        | none => exact ⟨undef, fun c hc => by cases hc⟩
        | some c =>
          obtain ⟨z, hz, hr⟩ := hc j c hj
          exact ⟨z, fun c' hc' => by cases hc'; exact ⟨hz, hr⟩⟩
      have hrun := run_loadCells (P := P) w ⟨b, o, none⟩ n (fun j => (key j).choose) (fun j hj => by
        rw [addr_add]
        exact ((key j).choose_spec ds[j] (List.getElem?_eq_getElem (by omega))).1)
      refine ⟨.agg ((List.range n).map fun j => (key j).choose).toArray, ?_, ⟨_, rfl, by simp [hl], fun j d' hj => ?_⟩⟩
      · simp [Instr.loadAt, Instr.sureAddr, loadVar, run_isAgg hd, hag, run_sizeOf hn, hrun]
      · have hjn : j < n := by rw [← hl]; exact (List.getElem?_eq_some_iff.1 hj).1
        exact ⟨(key j).choose, by simp [hjn], ((key j).choose_spec d' hj).2⟩
    · rename_i hag
      subst hde
      split at h
      · rename_i y' hds
        cases h
        obtain ⟨b, o, rfl, hl, hc⟩ := cellsAt_ok hH hds r
        obtain ⟨z, hz, hr⟩ := hc 0 y' rfl
        refine ⟨z, ?_, hr⟩
        simp [Instr.loadAt, Instr.sureAddr, loadVar, run_isAgg hd, hag]
        simp at hz
        simp [hz]
      · cases h
  · cases h

def offD (d : D) (n : Nat) : Option D :=
  match d with
  | .fp cs => some (.fp (cs.drop n))
  | .ptr b o => some (.ptr b (o + n))
  | _ => none
theorem RCs.drop {F : Nat → Prop} {b o : Nat} {cs : List C} (h : RCs k F w b o cs) (n : Nat) : RCs k F w b (o + n) (cs.drop n) := by
  refine ⟨fun hne => h.1 fun he => hne (by simp [he]), fun j c hj => ?_⟩
  rw [List.getElem?_drop] at hj
  obtain ⟨u, hu, hr⟩ := h.2 (n + j) c hj
  exact ⟨u, by rw [Nat.add_assoc]; exact hu, hr⟩
theorem RCs.take {F : Nat → Prop} {b o : Nat} {cs : List C} (h : RCs k F w b o cs) (n : Nat) : RCs k F w b o (cs.take n) := by
  refine ⟨fun hne => h.1 fun he => hne (by simp [he]), fun j c hj => ?_⟩
  rw [List.getElem?_take] at hj
  split at hj
  · exact h.2 j c hj
  · cases hj
theorem offD_ok {F : Nat → Prop} {d e : D} {n : Nat} {u : Value} (h : offD d n = some e) (r : RD k F φ w d u) :
    ∃ b o, u = .pointer (some ⟨b, o, none⟩) ∧ RD k F φ w e (.pointer (some ⟨b, o + n, none⟩)) := by
  unfold offD at h
  split at h
  · cases h
    obtain ⟨b, o, rfl, hr⟩ := r
    exact ⟨b, o, rfl, b, o + n, rfl, hr.drop n⟩
  · cases h
    obtain ⟨x, hx, rfl⟩ := r
    exact ⟨x, _, rfl, x, hx, rfl⟩
  · cases h

def evOff (n : Nat) (x : T) : Option T := match x with | .t (.one d) => (offD d n).map fun e => .t (.one e) | _ => none
theorem evOff_fld {F : Nat → Prop} {s : TypeId} {fs : Array Field} {fd : Field} {f n m : Nat} (hu : P.underlying s = some (.struct fs)) (hf : fs[f]? = some fd) (ho : fd.offset = n) (hm : szC P fd.type = some (m + 1)) {x y : T} {u : Value} (h : evOff n x = some y) (r : RT k F φ w x u) :
    ∃ u', (Instr.fieldAt s u f).run P w = .ok u' w ∧ RT k F φ w y u' := by
  unfold evOff at h
  split at h
  · rename_i d
    simp only [Option.map_eq_some_iff] at h
    obtain ⟨e, he, rfl⟩ := h
    subst ho
    obtain ⟨b, o, rfl, hr⟩ := offD_ok he r
    refine ⟨_, ?_, hr⟩
    simp [Instr.fieldAt, run_underlying hu, hf, Instr.sureAddr, fieldPlace, run_sizeOf hm, addr_add]
  · cases h

/-- The number in an operand. -/
def natT (x : T) : Option Nat :=
  match plainT x with
  | some (.int _ (.ofNat n)) => some n
  | _ => none
theorem natT_ok {F : Nat → Prop} {x : T} {n : Nat} {u : Value} (h : natT x = some n) (r : RT k F φ w x u) : ∃ q, u = .int q (n : Int) := by
  unfold natT at h
  split at h
  · rename_i q m hp
    cases h
    exact ⟨q, plainT_eq hp r⟩
  · cases h

/-- The address of an element of a slice whose elements have s cells. -/
def evIxS (s : Nat) (x ix : T) : Option T :=
  match natT ix, x with
  | some i, .t (.one (.lsl b o n _)) => if i < n then some (.t (.one (.ptr b (o + i * s)))) else none
  | some i, .t (.one d) => (match slOf d with | some (n, cs) => if i < n then some (.t (.one (.fp (cs.drop (i * s))))) else none | none => none)
  | _, _ => none
theorem evIxS_ok {F : Nat → Prop} {t elem : TypeId} {s : Nat} (hu : P.underlying t = some (.slice elem)) (hs : szC P elem = some s) {x ix y : T} {u v : Value} (h : evIxS s x ix = some y) (r : RT k F φ w x u) (q : RT k F φ w ix v) :
    ∃ u', (Instr.indexAt t u v).run P w = .ok u' w ∧ RT k F φ w y u' := by
  unfold evIxS at h
  split at h
  · rename_i i b o n s' hi
    obtain ⟨kk, rfl⟩ := natT_ok hi q
    split at h
    · rename_i hlt
      cases h
      obtain ⟨x, cap, hx, rfl, _⟩ := r
      refine ⟨.pointer (some ⟨x, o + i * s, none⟩), ?_, x, hx, rfl⟩
      simp [Instr.indexAt, asIntOf, run_underlying hu, run_sizeOf hs, addr_add, hlt]
    · cases h
  · rename_i i d _ hi
    obtain ⟨kk, rfl⟩ := natT_ok hi q
    split at h
    · rename_i n cs hd
      split at h
      · rename_i hlt
        cases h
        obtain ⟨A, c, rfl, hr, _⟩ := slOf_ok hd r
        cases hr with
        | nil => omega
        | sl _ _ b o _ f hn hF hc hr' =>
          refine ⟨.pointer (some ⟨b, o + i * s, none⟩), ?_, b, o + i * s, rfl, RCs.drop ⟨hF, fun j c hj => ⟨f j, hc j c hj, hr' j c hj⟩⟩ _⟩
          simp [Instr.indexAt, asIntOf, run_underlying hu, run_sizeOf hs, addr_add, hlt]
      · cases h
    · cases h
  · cases h

/-- The address of an element of an array. -/
def evIxR (len s : Nat) (x ix : T) : Option T :=
  match natT ix, x with
  | some i, .t (.one d) => if i < len then (offD d (i * s)).map fun e => .t (.one e) else none
  | _, _ => none
theorem evIxR_ok {F : Nat → Prop} {t elem : TypeId} {len s : Nat} (hu : P.underlying t = some (.array len elem)) (hs : szC P elem = some s) {x ix y : T} {u v : Value} (h : evIxR len s x ix = some y) (r : RT k F φ w x u) (q : RT k F φ w ix v) :
    ∃ u', (Instr.indexAt t u v).run P w = .ok u' w ∧ RT k F φ w y u' := by
  unfold evIxR at h
  split at h
  · rename_i i d hi
    obtain ⟨kk, rfl⟩ := natT_ok hi q
    split at h
    · rename_i hlt
      simp only [Option.map_eq_some_iff] at h
      obtain ⟨e, he, rfl⟩ := h
      obtain ⟨b, o, rfl, hr⟩ := offD_ok he r
      refine ⟨_, ?_, hr⟩
      simp [Instr.indexAt, asIntOf, run_underlying hu, Instr.sureAddr, run_sizeOf hs, addr_add, hlt]
    · cases h
  · cases h

def intV (n : Nat) : T := .t (.one (.c (.v (.int .i64 (n : Int)))))
/-- A cell of one value for each class; one entry where all are the same. -/
def packV (l : List Value) (same : Bool) : T := match l with | x :: _ => if same then .t (.one (.c (.v x))) else .t (.one (.c (.vec l))) | [] => .nil
def evLen (x : T) : Option T :=
  match x with
  | .t (.one (.lsl _ _ n _)) => some (intV n)
  | .t (.one (.c (.mag l))) => (match magOf l with | some (n, _) => some (intV n) | none => some (.t (.one (.c (.vec (l.map fun n => .int .i64 (if Nat.beq n 0 then 0 else 1)))))))
  | .t (.one d) => (match slOf d with | some (n, _) => some (intV n) | none => none)
  | _ => none
theorem evLen_ok {F : Nat → Prop} {t ty elem : TypeId} (hu : P.underlying t = some (.slice elem)) {x y : T} {u : Value} (h : evLen x = some y) (r : RT k F φ w x u) :
    ∃ u', (Builtin.len_ #[t] ty #[u]).run P w = .ok u' w ∧ RT k F φ w y u' := by
  unfold evLen at h
  split at h
  · rename_i b o n s
    cases h
    obtain ⟨x, cap, hx, rfl, _⟩ := r
    exact ⟨.int .i64 n, by simp [Builtin.len_, run_underlying hu, goInt], .v _ rfl⟩
  · rename_i l
    split at h
    · rename_i n cs hm
      cases h
      obtain ⟨A, c, rfl, hr, _⟩ := magOf_ok hm r
      exact ⟨.int .i64 n, by simp [Builtin.len_, run_underlying hu, goInt], .v _ rfl⟩
    · cases h
      have r' : RC k F w (.mag l) u := r
      cases r' with
      | mag0 _ A c h hA =>
        exact ⟨.int .i64 0, by simp [Builtin.len_, run_underlying hu, goInt], .vec _ _ (by rw [at1_map, h]; rfl) rfl⟩
      | mag1 _ n b o cap h h0 h1 hc hF hcell =>
        refine ⟨.int .i64 1, by simp [Builtin.len_, run_underlying hu, goInt], .vec _ _ (by rw [at1_map, h]; simp; omega) rfl⟩
  · rename_i d _ _
    split at h
    · rename_i n cs hd
      cases h
      obtain ⟨A, c, rfl, hr, _⟩ := slOf_ok hd r
      exact ⟨.int .i64 n, by simp [Builtin.len_, run_underlying hu, goInt], .v _ rfl⟩
    · cases h
  · cases h

/-- How far a slice that holds nothing may grow. -/
def evCap (x : T) : Option T :=
  match x with
  | .t (.one .z0) => some (intV 0)
  | .t (.one (.c (.v (.slice none 0 0)))) => some (intV 0)
  | _ => none
theorem evCap_ok {F : Nat → Prop} {t ty elem : TypeId} (hu : P.underlying t = some (.slice elem)) {x y : T} {u : Value} (h : evCap x = some y) (r : RT k F φ w x u) :
    ∃ u', (Builtin.cap_ #[t] ty #[u]).run P w = .ok u' w ∧ RT k F φ w y u' := by
  unfold evCap at h
  split at h
  · cases h
    obtain ⟨A, rfl⟩ := r
    exact ⟨.int .i64 (0 : Nat), by simp [Builtin.cap_, run_underlying hu, goInt], .v _ rfl⟩
  · cases h
    have r' : RC k F w (.v (.slice none 0 0)) u := r
    cases r'
    exact ⟨.int .i64 (0 : Nat), by simp [Builtin.cap_, run_underlying hu, goInt], .v _ rfl⟩
  · cases h

/-- A slice against nil. -/
def boolT (b : Bool) : T := .t (.one (.c (.v (.bool b))))
def isNilT : T → Bool
  | .t (.one (.c (.v (.slice none 0 0)))) => true
  | _ => false
theorem isNilT_ok {F : Nat → Prop} {x : T} {u : Value} (h : isNilT x = true) (r : RT k F φ w x u) : u = .slice none 0 0 := by
  unfold isNilT at h
  split at h
  · have r' : RC k F w (.v (.slice none 0 0)) u := r
    cases r'; rfl
  · cases h
def evNilS (neg : Bool) (x : T) : Option T :=
  match x with
  | .t (.one (.lsl _ _ _ _)) => some (boolT neg)
  | .t (.one (.c (.v (.slice none _ _)))) => some (boolT (!neg))
  | .t (.one (.c (.v (.slice (some _) _ _)))) => some (boolT neg)
  | .t (.one d) => (match slOf d with | some (_ + 1, _) => some (boolT neg) | _ => none)
  | _ => none
theorem evNilS_ok {F : Nat → Prop} {t elem : TypeId} (hu : P.underlying t = some (.slice elem)) {neg : Bool} {x y : T} {u : Value} (h : evNilS neg x = some y) (r : RT k F φ w x u) :
    ∃ u', (binOp (if neg then .neq else .eql) t u (.slice none 0 0)).run P w = .ok u' w ∧ RT k F φ w y u' ∧ ∃ A n c, u = .slice A n c := by
  have key : ∀ (A : Option Addr) (n c : Nat), (binOp (if neg then .neq else .eql) t (.slice A n c) (.slice none 0 0)).run P w = .ok (.bool (A.isNone != neg)) w := by
    intro A n c
    cases neg
    · have := Lib.run_equalIn_slice_nil (P := P) w 9999 t elem A n c 0 0 hu
      simp only [binOp]
      cases A <;> simp [Op.equal, Op.maxDepth, this]
    · have := Lib.run_equalIn_slice_nil (P := P) w 9999 t elem A n c 0 0 hu
      simp only [binOp]
      cases A <;> simp [Op.equal, Op.maxDepth, this]
  unfold evNilS at h
  split at h
  · cases h
    obtain ⟨x, cap, _, rfl, _⟩ := r
    exact ⟨_, key _ _ _, by cases neg <;> exact .v _ rfl, _, _, _, rfl⟩
  · rename_i n c
    cases h
    have r' : RC k F w (.v (.slice none n c)) u := r
    cases r'
    exact ⟨_, key _ _ _, by cases neg <;> exact .v _ rfl, _, _, _, rfl⟩
  · rename_i a n c
    cases h
    have r' : RC k F w (.v (.slice (some a) n c)) u := r
    cases r'
    exact ⟨_, key _ _ _, by cases neg <;> exact .v _ rfl, _, _, _, rfl⟩
  · split at h
    · rename_i n cs hd
      cases h
      obtain ⟨A, c, rfl, hr, hn⟩ := slOf_ok hd r
      cases hr with
      | sl _ _ b o cap f hn' hF hc hr => exact ⟨_, key _ _ _, by cases neg <;> exact .v _ rfl, _, _, _, rfl⟩
    · cases h
  · cases h

/-- A part of a struct's or an array's value. -/
def partT (agg : Bool) (n : Nat) (ds : List D) (off : Nat) : Option T :=
  if agg then (if off + n ≤ ds.length then some (.t (.agg ((ds.drop off).take n))) else none)
  else (ds[off]?).map fun d => .t (.one d)
theorem partT_ok {F : Nat → Prop} {t : TypeId} {agg : Bool} {n : Nat} (ht : TyOk P t agg n) {ds : List D} {off : Nat} {y : T} {vs : Array Value} (h : partT agg n ds off = some y) (hl : vs.size = ds.length) (r : ∀ (j : Nat) (d : D), ds[j]? = some d → ∃ x, vs[j]? = some x ∧ RD k F φ w d x) :
    ∃ u', (part t vs off).run P w = .ok u' w ∧ RT k F φ w y u' := by
  obtain ⟨hn, de, hd, hde⟩ := ht
  unfold partT at h
  split at h
  · rename_i hag
    subst hde
    split at h
    · rename_i hle
      cases h
      refine ⟨.agg (vs.extract off (off + n)), ?_, _, rfl, ?_, fun j d hj => ?_⟩
      · simp [part, run_isAgg hd, hag, run_sizeOf hn]
      · simp; omega
      · rw [List.getElem?_take] at hj
        split at hj
        · rename_i hjn
          rw [List.getElem?_drop] at hj
          obtain ⟨x, hx, hr⟩ := r (off + j) d hj
          refine ⟨x, ?_, hr⟩
          have hlt : off + j < vs.size := by omega
          rw [Array.getElem?_extract_of_lt (by omega)]
          rw [Array.getElem?_eq_getElem hlt] at hx
          exact hx
        · cases hj
    · cases h
  · rename_i hag
    subst hde
    simp only [Option.map_eq_some_iff] at h
    obtain ⟨d, hd', rfl⟩ := h
    obtain ⟨x, hx, hr⟩ := r off d hd'
    exact ⟨x, by simp [part, run_isAgg hd, hag, hx], hr⟩

def evPart (agg : Bool) (n off : Nat) (x : T) : Option T := match x with | .t (.agg ds) => partT agg n ds off | _ => none
theorem evPart_ok {F : Nat → Prop} {t : TypeId} {fs : Array Field} {fd : Field} {f off n : Nat} {agg : Bool} (hu : P.underlying t = some (.struct fs)) (hf : fs[f]? = some fd) (ho : fd.offset = off) (ht : TyOk P fd.type agg n) {x y : T} {u : Value} (h : evPart agg n off x = some y) (r : RT k F φ w x u) :
    ∃ u', (Instr.field t u f).run P w = .ok u' w ∧ RT k F φ w y u' := by
  unfold evPart at h
  split at h
  · rename_i ds
    subst ho
    obtain ⟨vs, rfl, hs, hr⟩ := r
    obtain ⟨u', h1, h2⟩ := partT_ok ht h hs hr
    exact ⟨u', by simp [Instr.field, run_underlying hu, hf, asAgg, h1], h2⟩
  · cases h

def evAt (agg : Bool) (n len : Nat) (x ix : T) : Option T :=
  match x, natT ix with
  | .t (.agg ds), some i => if i < len then partT agg n ds (i * n) else none
  | _, _ => none
theorem evAt_ok {F : Nat → Prop} {t e : TypeId} {agg : Bool} {n len : Nat} (hu : P.underlying t = some (.array len e)) (ht : TyOk P e agg n) {x ix y : T} {u v : Value} (h : evAt agg n len x ix = some y) (r : RT k F φ w x u) (q : RT k F φ w ix v) :
    ∃ u', (Instr.index t u v).run P w = .ok u' w ∧ RT k F φ w y u' := by
  unfold evAt at h
  split at h
  · rename_i ds i hi
    obtain ⟨kk, rfl⟩ := natT_ok hi q
    split at h
    · rename_i hlt
      obtain ⟨vs, rfl, hs', hr⟩ := r
      obtain ⟨u', h1, h2⟩ := partT_ok ht h hs' hr
      exact ⟨u', by simp [Instr.index, asIntOf, run_underlying hu, hlt, run_sizeOf ht.1, h1], h2⟩
    · cases h
  · cases h

def evExtract (x : T) (i : Nat) : Option T :=
  match x with
  | .tup l => (l[i]?).map .t
  | _ => none
theorem evExtract_ok {F : Nat → Prop} {x y : T} {i : Nat} {u : Value} (h : evExtract x i = some y) (r : RT k F φ w x u) :
    ∃ u', (Instr.extract u i).run P w = .ok u' w ∧ RT k F φ w y u' := by
  cases x with
  | tup l =>
    simp only [evExtract, Option.map_eq_some_iff] at h
    obtain ⟨t, ht, rfl⟩ := h
    obtain ⟨vs, rfl, hs, hr⟩ := r
    obtain ⟨x, hx, hr'⟩ := hr i t ht
    exact ⟨x, by simp [Instr.extract, hx], hr'⟩
  | _ => simp [evExtract] at h

/-! ### Slicing. -/
def optNat (lo : Option T) (d : Nat) : Option Nat := match lo with | some x => natT x | none => some d
/-- Slicing a slice whose elements have s cells. -/
def evSlc (s : Nat) (x : T) (lo hi : Option T) : Option T :=
  match x with
  | .t (.one (.lsl b o n s')) =>
    (match optNat lo 0, optNat hi n with
     | some l, some h => if s' = s ∧ l ≤ h ∧ h ≤ n then (if l < h then some (.t (.one (.lsl b (o + l * s) (h - l) s))) else if l = 0 then some (.t (.one (.lsl b o 0 s))) else some (.t (.one (.c (.sl 0 []))))) else none
     | _, _ => none)
  | .t (.one .z0) => (match optNat lo 0, optNat hi 0 with | some 0, some 0 => some (.t (.one .z0)) | _, _ => none)
  | .t (.one (.c (.v (.slice none 0 0)))) => (match optNat lo 0, optNat hi 0 with | some 0, some 0 => some (.t (.one .z0)) | _, _ => none)
  | .t (.one d) =>
    (match slOf d with
     | some (n, cs) =>
       (match optNat lo 0, optNat hi n with
        | some l, some h => if l ≤ h ∧ h ≤ n then (if l < h then some (.t (.one (.c (.sl (h - l) ((cs.drop (l * s)).take ((h - l) * s)))))) else some (.t (.one (.c (.sl 0 []))))) else none
        | _, _ => none)
     | none => none)
  | _ => none
/-- Slicing the whole of an array. -/
def evSlcR (n s : Nat) (H : Hp) (x : T) : Option T :=
  match x with
  | .t (.one d) =>
    (match cellsAt H d (n * s) with
     | some _ => (match d with | .ptr b o => some (.t (.one (.lsl b o n s))) | .fp cs => some (.t (.one (.c (.sl n cs)))) | _ => none)
     | none => none)
  | _ => none

theorem run_bound {n y : Nat} {q : IntKind} {code : BoundsCode} (h : n ≤ y) : (Instr.sliceBound (.int q (n : Int)) y code).run P w = .ok n w := by
  simp [Instr.sliceBound, asIntOf, h]

/-- Optional operands. -/
def RO (k : Cls) (F : Nat → Prop) (φ : Nat → Option Nat) (w : World) : Option T → Option Value → Prop
  | some x, some u => RT k F φ w x u
  | none, none => True
  | _, _ => False

theorem run_bounds {F : Nat → Prop} {lo hi : Option T} {vl vh : Option Value} {l h n cap : Nat} (hl : optNat lo 0 = some l) (hh : optNat hi n = some h) (r1 : RO k F φ w lo vl) (r2 : RO k F φ w hi vh) (h1 : l ≤ h) (h2 : h ≤ n) (h3 : n ≤ cap) (b : Bool) :
    (Instr.sliceBounds b n cap vl vh none).run P w = .ok (l, h, cap) w := by
  have q1 : ∀ x v, lo = some x → vl = some v → ∃ q, v = .int q (l : Int) := by
    rintro x v rfl rfl
    exact natT_ok hl r1
  have q2 : ∀ x v, hi = some x → vh = some v → ∃ q, v = .int q (h : Int) := by
    rintro x v rfl rfl
    exact natT_ok hh r2
  have e1 : lo = none → l = 0 := by rintro rfl; simp [optNat] at hl; exact hl.symm
  have e2 : hi = none → h = n := by rintro rfl; simp [optNat] at hh; exact hh.symm
  clear hl hh
  cases hi with
  | none =>
    obtain rfl := e2 rfl
    cases vh with
    | some v => exact r2.elim
    | none =>
      cases lo with
      | none =>
        obtain rfl := e1 rfl
        cases vl with
        | some v => exact r1.elim
        | none => simp [Instr.sliceBounds]
      | some x =>
        cases vl with
        | none => exact r1.elim
        | some v =>
          obtain ⟨q, rfl⟩ := q1 x v rfl rfl
          simp [Instr.sliceBounds, run_bound h1]
  | some y =>
    cases vh with
    | none => exact r2.elim
    | some v =>
      obtain ⟨q, rfl⟩ := q2 y v rfl rfl
      have hb := fun code => run_bound (P := P) (w := w) (n := h) (y := cap) (q := q) (code := code) (by omega)
      cases lo with
      | none =>
        obtain rfl := e1 rfl
        cases vl with
        | some v => exact r1.elim
        | none => simp [Instr.sliceBounds, hb]
      | some x =>
        cases vl with
        | none => exact r1.elim
        | some v =>
          obtain ⟨q', rfl⟩ := q1 x v rfl rfl
          simp [Instr.sliceBounds, hb, run_bound h1]

theorem evSlc_ok {F : Nat → Prop} {t elem : TypeId} {s : Nat} (hu : P.underlying t = some (.slice elem)) (hs : szC P elem = some s) {x y : T} {lo hi : Option T} {u : Value} {vl vh : Option Value} (h : evSlc s x lo hi = some y) (r : RT k F φ w x u) (r1 : RO k F φ w lo vl) (r2 : RO k F φ w hi vh) :
    ∃ u', (Instr.sliceAt t u vl vh none).run P w = .ok u' w ∧ RT k F φ w y u' := by
  unfold evSlc at h
  split at h
  · rename_i b o n s'
    split at h
    · rename_i l hh hl hhi
      split at h
      · rename_i hc
        obtain ⟨rfl, h1, h2⟩ := hc
        obtain ⟨x, cap, hx, rfl, hn, vs, tt, fr, hw, hsz⟩ := r
        have hb := run_bounds (P := P) (w := w) hl hhi r1 r2 h1 h2 hn true
        split at h
        · rename_i hlt
          cases h
          refine ⟨.slice (some ⟨x, o + l * s', none⟩) (hh - l) (cap - l), ?_, x, cap - l, hx, rfl, by omega, vs, tt, fr, hw, ?_⟩
          · have hne : cap ≠ l := by omega
            simp [Instr.sliceAt, Instr.slice, run_underlying hu, hb, run_sizeOf hs, hne, addr_add]
          · have : (cap - l) * s' + l * s' = cap * s' := by rw [← Nat.add_mul]; congr 1; omega
            omega
        · rename_i hlt
          obtain rfl : l = hh := by omega
          split at h
          · rename_i hl0
            subst hl0
            cases h
            refine ⟨.slice (some ⟨x, o, none⟩) 0 cap, ?_, x, cap, hx, rfl, Nat.zero_le _, vs, tt, fr, hw, hsz⟩
            simp [Instr.sliceAt, Instr.slice, run_underlying hu, hb, run_sizeOf hs, addr_add]
          cases h
          refine ⟨.slice (if cap = l then some ⟨x, o, none⟩ else some ⟨x, o + l * s', none⟩) 0 (cap - l), ?_, .nil _ _ (fun h => by split at h <;> cases h)⟩
          simp [Instr.sliceAt, Instr.slice, run_underlying hu, hb, run_sizeOf hs, addr_add]
      · cases h
    · cases h
  · split at h
    · rename_i hl hhi
      cases h
      obtain ⟨A, rfl⟩ := r
      have hb := run_bounds (P := P) (w := w) (n := 0) (cap := 0) hl hhi r1 r2 (Nat.le_refl _) (Nat.le_refl _) (Nat.le_refl _) true
      exact ⟨.slice A 0 0, by simp [Instr.sliceAt, Instr.slice, run_underlying hu, hb, run_sizeOf hs], A, rfl⟩
    · cases h
  · split at h
    · rename_i hl hhi
      cases h
      have r' : RC k F w (.v (.slice none 0 0)) u := r
      cases r'
      have hb := run_bounds (P := P) (w := w) (n := 0) (cap := 0) hl hhi r1 r2 (Nat.le_refl _) (Nat.le_refl _) (Nat.le_refl _) true
      exact ⟨.slice none 0 0, by simp [Instr.sliceAt, Instr.slice, run_underlying hu, hb, run_sizeOf hs], none, rfl⟩
    · cases h
  · rename_i d _
    split at h
    · rename_i n cs hd
      split at h
      · rename_i l hh hl hhi
        split at h
        · rename_i hc
          obtain ⟨h1, h2⟩ := hc
          obtain ⟨A, cap, rfl, hr, hn⟩ := slOf_ok hd r
          have hb := run_bounds (P := P) (w := w) hl hhi r1 r2 h1 h2 hn true
          split at h
          · rename_i hlt
            cases h
            cases hr with
            | nil => omega
            | sl _ _ b o _ f hn' hF hcc hrr =>
              have hcs : RCs k F w b o cs := ⟨hF, fun j c hj => ⟨f j, hcc j c hj, hrr j c hj⟩⟩
              refine ⟨.slice (some ⟨b, o + l * s, none⟩) (hh - l) (cap - l), ?_, RC.of_cs (by omega) ((hcs.drop _).take _)⟩
              have hne : cap ≠ l := by omega
              simp [Instr.sliceAt, Instr.slice, run_underlying hu, hb, run_sizeOf hs, hne, addr_add]
          · rename_i hlt
            cases h
            obtain rfl : l = hh := by omega
            have hA : (if cap = l then A else A.map (·.add (l * s))) = none → cap - l = 0 := by
              intro h
              have : A = none := by split at h <;> simpa using h
              subst this
              have := hr.cap0; omega
            refine ⟨.slice (if cap = l then A else A.map (·.add (l * s))) 0 (cap - l), ?_, .nil _ _ hA⟩
            simp [Instr.sliceAt, Instr.slice, run_underlying hu, hb, run_sizeOf hs]
        · cases h
      · cases h
    · cases h
  · cases h

theorem evSlcR_ok (hH : HR k Bt F0 N φ w H S) {t elem : TypeId} {n s : Nat} (hu : P.underlying t = some (.array n elem)) (hs : szC P elem = some s) {x y : T} {u : Value} (h : evSlcR n s H x = some y) (r : RT k (Fo F0 φ H S) φ w x u) :
    ∃ u', (Instr.sliceAt t u none none none).run P w = .ok u' w ∧ RT k (Fo F0 φ H S) φ w y u' := by
  unfold evSlcR at h
  split at h
  · rename_i d
    split at h
    · rename_i es hes
      have hrun : ∀ b o, (Instr.sliceAt t (.pointer (some ⟨b, o, none⟩)) none none none).run P w = .ok (.slice (some ⟨b, o, none⟩) n n) w := by
        intro b o
        simp [Instr.sliceAt, run_underlying hu, Instr.sureAddr, Instr.sliceBounds, run_sizeOf hs, addr_add]
      split at h
      · rename_i b o
        cases h
        obtain ⟨x, hx, rfl⟩ := r
        simp only [cellsAt] at hes
        split at hes
        · rename_i ds hb
          split at hes
          · rename_i hle
            obtain ⟨_, vs, tt, hw, hl', _, _⟩ := hH.at_ b _ x hb hx
            exact ⟨_, hrun x o, x, n, hx, rfl, Nat.le_refl _, vs, tt, _, hw, by omega⟩
          · cases hes
        · cases hes
      · rename_i cs
        cases h
        obtain ⟨b, o, rfl, hr⟩ := r
        exact ⟨_, hrun b o, RC.of_cs (Nat.le_refl _) hr⟩
      · cases h
    · cases h
  · cases h

/-! ### Slicing with a bound for what may grow. -/
def evSlc3 (s : Nat) (x : T) (lo : Option T) (hi mx : T) : Option T :=
  match natT mx, optNat lo 0, natT hi with
  | some m, some l, some h =>
    (match x with
     | .t (.one (.lsl b o n s')) => if s' = s ∧ l ≤ h ∧ h ≤ m ∧ m ≤ n then (if l < h then some (.t (.one (.lsl b (o + l * s) (h - l) s))) else if l = m then some (.t (.one .z0)) else some (.t (.one (.c (.sl 0 []))))) else none
     | .t (.one d) =>
       (match slOf d with
        | some (n, cs) => if l ≤ h ∧ h ≤ m ∧ m ≤ n then (if l < h then some (.t (.one (.c (.sl (h - l) ((cs.drop (l * s)).take ((h - l) * s)))))) else if l = m then some (.t (.one .z0)) else some (.t (.one (.c (.sl 0 []))))) else none
        | none => none)
     | _ => none)
  | _, _, _ => none

theorem run_bounds3 {F : Nat → Prop} {lo : Option T} {hi mx : T} {vl : Option Value} {vh vm : Value} {l h m n cap : Nat} (hl : optNat lo 0 = some l) (hh : natT hi = some h) (hm : natT mx = some m) (r1 : RO k F φ w lo vl) (r2 : RT k F φ w hi vh) (r3 : RT k F φ w mx vm) (h1 : l ≤ h) (h2 : h ≤ m) (h3 : m ≤ cap) (b : Bool) :
    (Instr.sliceBounds b n cap vl (some vh) (some vm)).run P w = .ok (l, h, m) w := by
  obtain ⟨k2, rfl⟩ := natT_ok hh r2
  obtain ⟨k3, rfl⟩ := natT_ok hm r3
  have b1 := fun code => run_bound (P := P) (w := w) (n := m) (y := cap) (q := k3) (code := code) h3
  have b2 := fun code => run_bound (P := P) (w := w) (n := h) (y := m) (q := k2) (code := code) h2
  cases lo with
  | none =>
    cases vl with
    | some v => exact r1.elim
    | none =>
      simp [optNat] at hl; subst hl
      simp [Instr.sliceBounds, b1, b2]
  | some x =>
    cases vl with
    | none => exact r1.elim
    | some v =>
      obtain ⟨q, rfl⟩ := natT_ok hl r1
      simp [Instr.sliceBounds, b1, b2, run_bound h1]

theorem evSlc3_ok {F : Nat → Prop} {t elem : TypeId} {s : Nat} (hu : P.underlying t = some (.slice elem)) (hs : szC P elem = some s) {x y hi mx : T} {lo : Option T} {u vh vm : Value} {vl : Option Value} (h : evSlc3 s x lo hi mx = some y) (r : RT k F φ w x u) (r1 : RO k F φ w lo vl) (r2 : RT k F φ w hi vh) (r3 : RT k F φ w mx vm) :
    ∃ u', (Instr.sliceAt t u vl (some vh) (some vm)).run P w = .ok u' w ∧ RT k F φ w y u' := by
  unfold evSlc3 at h
  split at h
  · rename_i m l hh hm hl hhi
    split at h
    · rename_i b o n s'
      split at h
      · rename_i hc
        obtain ⟨rfl, h1, h2, h3⟩ := hc
        obtain ⟨x, cap, hx, rfl, hn, vs, tt, fr, hw, hsz⟩ := r
        have hb := run_bounds3 (P := P) (w := w) (n := n) (cap := cap) hl hhi hm r1 r2 r3 h1 h2 (by omega) true
        split at h
        · rename_i hlt
          cases h
          refine ⟨.slice (some ⟨x, o + l * s', none⟩) (hh - l) (m - l), ?_, x, m - l, hx, rfl, by omega, vs, tt, fr, hw, ?_⟩
          · have hne : m ≠ l := by omega
            simp [Instr.sliceAt, Instr.slice, run_underlying hu, hb, run_sizeOf hs, hne, addr_add]
          · have e1 : (m - l) * s' + l * s' = m * s' := by rw [← Nat.add_mul]; congr 1; omega
            have e2 : m * s' ≤ cap * s' := Nat.mul_le_mul_right _ (by omega)
            omega
        · rename_i hlt
          obtain rfl : l = hh := by omega
          have hrun : (Instr.sliceAt t (.slice (some ⟨x, o, none⟩) n cap) vl (some vh) (some vm)).run P w = .ok (.slice (if m = l then some ⟨x, o, none⟩ else some ⟨x, o + l * s', none⟩) 0 (m - l)) w := by
            simp [Instr.sliceAt, Instr.slice, run_underlying hu, hb, run_sizeOf hs, addr_add]
          split at h
          · rename_i hlm
            cases h
            subst hlm
            exact ⟨_, hrun, _, by rw [Nat.sub_self]⟩
          · cases h
            exact ⟨_, hrun, .nil _ _ (fun h => by split at h <;> cases h)⟩
      · cases h
    · rename_i d _
      split at h
      · rename_i n cs hd
        split at h
        · rename_i hc
          obtain ⟨h1, h2, h3⟩ := hc
          obtain ⟨A, cap, rfl, hr, hn⟩ := slOf_ok hd r
          have hb := run_bounds3 (P := P) (w := w) (n := n) (cap := cap) hl hhi hm r1 r2 r3 h1 h2 (by omega) true
          split at h
          · rename_i hlt
            cases h
            cases hr with
            | nil => omega
            | sl _ _ b o _ f hn' hF hcc hrr =>
              have hcs : RCs k F w b o cs := ⟨hF, fun j c hj => ⟨f j, hcc j c hj, hrr j c hj⟩⟩
              refine ⟨.slice (some ⟨b, o + l * s, none⟩) (hh - l) (m - l), ?_, RC.of_cs (by omega) ((hcs.drop _).take _)⟩
              have hne : m ≠ l := by omega
              simp [Instr.sliceAt, Instr.slice, run_underlying hu, hb, run_sizeOf hs, hne, addr_add]
          · rename_i hlt
            obtain rfl : l = hh := by omega
            have hrun : (Instr.sliceAt t (.slice A n cap) vl (some vh) (some vm)).run P w = .ok (.slice (if m = l then A else A.map (·.add (l * s))) 0 (m - l)) w := by
              simp [Instr.sliceAt, Instr.slice, run_underlying hu, hb, run_sizeOf hs]
            split at h
            · rename_i hlm
              cases h
              subst hlm
              exact ⟨_, hrun, _, by rw [Nat.sub_self]⟩
            · cases h
              have hA : (if m = l then A else A.map (·.add (l * s))) = none → m - l = 0 := by
                intro h
                have : A = none := by split at h <;> simpa using h
                subst this
                have := hr.cap0; omega
              exact ⟨_, hrun, .nil _ _ hA⟩
        · cases h
      · cases h
    · cases h
  · cases h
end
end Go.Mach
namespace Go.Mach
open Go Go.RowKit Go.Flow
variable [Limb]

def cellsT : T → Option (List D)
  | .t (.one d) => some [d]
  | .t (.agg ds) => some ds
  | _ => none

/-- Values as cells. -/
def RL (k : Cls) (F : Nat → Prop) (φ : Nat → Option Nat) (w : World) (vs : List Value) (ds : List D) : Prop :=
  vs.length = ds.length ∧ ∀ (j : Nat) (d : D), ds[j]? = some d → ∃ x, vs[j]? = some x ∧ RD k F φ w d x

section
variable {P : Program} {k : Cls} {F : Nat → Prop} {φ : Nat → Option Nat} {w : World}

theorem RD.isCell {d : D} {u : Value} (h : RD k F φ w d u) : isCell u = true := by
  cases d with
  | c x => cases (show RC k F w x u from h) <;> first | assumption | rfl
  | fp cs => obtain ⟨b, o, rfl, _⟩ := h; rfl
  | ptr b o => obtain ⟨x, _, rfl⟩ := h; rfl
  | lsl b o n s => obtain ⟨x, c, _, rfl, _⟩ := h; rfl
  | fn f ps => obtain ⟨vs, rfl, _⟩ := h; rfl
  | z0 => obtain ⟨A, rfl⟩ := h; rfl
  | yld b => obtain ⟨x, _, rfl⟩ := h; rfl
  | mp b => obtain ⟨x, _, rfl⟩ := h; rfl

theorem cells_of_isCell {u : Value} (h : isCell u = true) : u.cells = #[u] := by cases u <;> first | rfl | simp [isCell] at h

theorem cellsT_ok {t : T} {ds : List D} {u : Value} (h : cellsT t = some ds) (r : RT k F φ w t u) : RL k F φ w u.cells.toList ds := by
  cases t with
  | nil => simp [cellsT] at h
  | tup l => simp [cellsT] at h
  | row n ds => simp [cellsT] at h
  | t x =>
    cases x with
    | one d =>
      simp [cellsT] at h; subst h
      rw [cells_of_isCell (RD.isCell r)]
      refine ⟨rfl, fun j e hj => ?_⟩
      cases j with
      | zero => simp at hj; subst hj; exact ⟨u, rfl, r⟩
      | succ j => simp at hj
    | agg es =>
      simp [cellsT] at h; subst h
      obtain ⟨vs, rfl, hs, hr⟩ := r
      exact ⟨by simpa [Value.cells] using hs, fun j d hj => by simpa [Value.cells] using hr j d hj⟩

theorem RL.isCell {vs : List Value} {ds : List D} (h : RL k F φ w vs ds) : ∀ v ∈ vs, Go.Mach.isCell v = true := by
  intro v hv
  obtain ⟨j, hj⟩ := List.mem_iff_getElem?.1 hv
  have hlt : j < ds.length := by rw [← h.1]; exact (List.getElem?_eq_some_iff.1 hj).1
  obtain ⟨x, hx, hr⟩ := h.2 j ds[j] (List.getElem?_eq_getElem hlt)
  rw [hj] at hx; cases hx
  exact RD.isCell hr

theorem ofL_RL {l : List Value} {ds : List D} (h : ofL l = some ds) : RL k F φ w l ds := ofL_rep h

theorem RL.set {vs us : List Value} {ds es : List D} (h : RL k F φ w vs ds) (q : RL k F φ w us es) (off : Nat) (hle : off + us.length ≤ vs.length) :
    RL k F φ w (vs.take off ++ us ++ vs.drop (off + us.length)) (ds.take off ++ es ++ ds.drop (off + es.length)) := by
  have e1 := h.1
  have e2 := q.1
  refine ⟨by simp; omega, fun j d hj => ?_⟩
  simp only [List.getElem?_append, List.getElem?_take, List.getElem?_drop, List.length_append, List.length_take] at hj ⊢
  rw [Nat.min_eq_left (by omega)] at hj
  rw [Nat.min_eq_left (by omega)]
  rw [← e2] at hj
  split at hj
  · rename_i h1
    rw [if_pos h1]
    split at hj
    · rename_i h2
      rw [if_pos h2]
      simpa [h2] using h.2 j d hj
    · rename_i h2
      rw [if_neg h2]
      exact q.2 _ d hj
  · rename_i h1
    rw [if_neg h1]
    exact h.2 _ d hj

theorem foldl_set (off : Nat) : ∀ (l : List Value) (i : Nat) (vs : Array Value), off + i + l.length ≤ vs.size →
    ((l.zipIdx i).foldl (fun cs (p : Value × Nat) => cs.setIfInBounds (off + p.2) p.1) vs).toList = vs.toList.take (off + i) ++ l ++ vs.toList.drop (off + i + l.length)
  | [], i, vs, _ => by simp
  | x :: l, i, vs, hle => by
    rw [List.zipIdx_cons, List.foldl_cons, foldl_set off l (i + 1) _ (by simp at hle ⊢; omega)]
    simp only [Array.toList_setIfInBounds, List.length_cons] at hle ⊢
    apply List.ext_getElem?
    intro k
    simp only [List.getElem?_append, List.getElem?_take, List.getElem?_drop, List.length_append, List.length_take, List.length_set, List.getElem?_set, Array.length_toList]
    rw [Nat.min_eq_left (by omega), Nat.min_eq_left (by omega)]
    simp only [List.length_cons]
    rcases Nat.lt_trichotomy k (off + i) with hk | hk | hk
    · rw [if_pos (by omega), if_pos (by omega), if_pos (by omega), if_neg (by omega), if_pos (by omega), if_pos (by omega), if_pos (by omega)]
    · subst hk
      rw [if_pos (by omega), if_pos (by omega), if_pos (by omega), if_pos rfl, if_pos (by omega), if_pos (by omega), if_neg (by omega)]
      simp
    · by_cases h2 : k < off + i + (l.length + 1)
      · rw [if_pos (by omega), if_neg (by omega), if_pos (by omega), if_neg (by omega)]
        have : k - (off + i) = (k - (off + (i + 1))) + 1 := by omega
        rw [this, List.getElem?_cons_succ]
      · rw [if_neg (by omega), if_neg (by omega), if_neg (by omega)]
        congr 1; omega

def fillD (place : Nat → Option (Nat × Nat)) : List D → List (Nat × T) → Option (List D)
  | cells, [] => some cells
  | cells, (i, t) :: r =>
    match place i, cellsT t with
    | some (off, size), some ds => if ds.length = size ∧ off + size ≤ cells.length then fillD place (cells.take off ++ ds ++ cells.drop (off + ds.length)) r else none
    | _, _ => none

theorem fillD_ok {place : Nat → Option (Nat × Nat)} : ∀ (ps : List (Nat × T)) (qs : List (Nat × Value)) (cells ds : List D) (vs : Array Value), RL k F φ w vs.toList cells → fillD place cells ps = some ds →
    ps.length = qs.length → (∀ (j : Nat) i t, ps[j]? = some (i, t) → ∃ u, qs[j]? = some (i, u) ∧ RT k F φ w t u) → ∃ vs', Instr.fill place vs qs = some vs' ∧ RL k F φ w vs'.toList ds
  | [], qs, cells, ds, vs, hv, h, hl, _ => by
    cases qs with
    | nil => simp [fillD] at h; subst h; exact ⟨vs, rfl, hv⟩
    | cons q qs => simp at hl
  | (i, t) :: ps, qs, cells, ds, vs, hv, h, hl, hr => by
    cases qs with
    | nil => simp at hl
    | cons q qs =>
      obtain ⟨u, hq, hu⟩ := hr 0 i t rfl
      simp at hq; subst hq
      simp only [fillD] at h
      split at h
      · rename_i off size es hp hc
        split at h
        · rename_i hle
          have hes := cellsT_ok hc hu
          have e1 := hes.1
          have e2 := hv.1
          simp only [Array.length_toList] at e1 e2
          have hset := foldl_set off u.cells.toList 0 vs (by simp; omega)
          obtain ⟨vs', h1, h2⟩ := fillD_ok ps qs _ ds (u.cells.zipIdx.foldl (fun cs (p : Value × Nat) => cs.setIfInBounds (off + p.2) p.1) vs) (by
            have := RL.set hv hes off (by simp; omega)
            rw [← Array.foldl_toList, Array.toList_zipIdx, hset]
            simpa using this) h (by simpa using hl) (fun j i' t' hj => by simpa using hr (j + 1) i' t' (by simpa using hj))
          refine ⟨vs', ?_, h2⟩
          simp only [Instr.fill, hp]
          rw [if_neg (by simp; omega)]
          exact h1
        · cases h
      · cases h

/-- The zero value of a struct or an array, and where its parts lie. -/
def BldOk (P : Program) (t : TypeId) (zs : List D) (pl : List (Nat × Nat)) : Prop :=
  ∃ (it : TypeInfo) (z : Value), P.info? t = some it ∧ it.zero = some z ∧ ofL z.cells.toList = some zs ∧
    ((∃ fields, P.underlying t = some (.struct fields) ∧ fields.toList.mapM (fun f => (P.info? f.type).map fun i => (f.offset, i.size)) = some pl) ∨
     (∃ n e ie, P.underlying t = some (.array n e) ∧ P.info? e = some ie ∧ ∀ (i : Nat) p, pl[i]? = some p → p = (i * ie.size, ie.size)))

def evBld (zs : List D) (pl : List (Nat × Nat)) (ps : List (Nat × T)) : Option T := (fillD (pl[·]?) zs ps).map fun es => .t (.agg es)

theorem fillD_mono {f g : Nat → Option (Nat × Nat)} (hfg : ∀ i p, f i = some p → g i = some p) : ∀ (ps : List (Nat × T)) (cells ds : List D), fillD f cells ps = some ds → fillD g cells ps = some ds
  | [], _, _, h => h
  | (i, t) :: ps, cells, ds, h => by
    simp only [fillD] at h ⊢
    split at h
    · rename_i off size es hp hc
      rw [hfg i _ hp, hc]
      simp only
      split at h
      · rename_i hle
        rw [if_pos hle]
        exact fillD_mono hfg ps _ _ h
      · cases h
    · cases h

theorem evBld_ok {t : TypeId} {zs : List D} {pl : List (Nat × Nat)} (hb : BldOk P t zs pl) {ps : List (Nat × T)} {qs : Array (Nat × Value)} {y : T} (h : evBld zs pl ps = some y) (hl : ps.length = qs.size) (hr : ∀ (j : Nat) i t, ps[j]? = some (i, t) → ∃ u, qs[j]? = some (i, u) ∧ RT k F φ w t u) :
    ∃ u', (Instr.build t qs).run P w = .ok u' w ∧ RT k F φ w y u' := by
  obtain ⟨it, z, hi, hz, hzs, hpl⟩ := hb
  unfold evBld at h
  simp only [Option.map_eq_some_iff] at h
  obtain ⟨es, he, rfl⟩ := h
  rcases hpl with ⟨fields, hu, hpl⟩ | ⟨n, e, ie, hu, hie, hpl⟩
  · obtain ⟨vs', h1, h2⟩ := fillD_ok (k := k) (F := F) (φ := φ) (w := w) ps qs.toList zs es z.cells (ofL_RL hzs) (fillD_mono (g := (pl.toArray[·]?)) (fun i p h => by simpa using h) _ _ _ he) (by simpa using hl) (fun j i t hj => by simpa using hr j i t hj)
    refine ⟨.agg vs', run_build w t qs vs' ?_, vs', rfl, by simpa using h2.1, fun j d hj => by simpa using h2.2 j d hj⟩
    unfold Program.built
    simp only [hi, hu, hz, hpl]
    exact h1
  · obtain ⟨vs', h1, h2⟩ := fillD_ok (k := k) (F := F) (φ := φ) (w := w) ps qs.toList zs es z.cells (ofL_RL hzs) (fillD_mono (g := fun i => some (i * ie.size, ie.size)) (fun i p h => by rw [hpl i p h]) _ _ _ he) (by simpa using hl) (fun j i t hj => by simpa using hr j i t hj)
    refine ⟨.agg vs', run_build w t qs vs' ?_, vs', rfl, by simpa using h2.1, fun j d hj => by simpa using h2.2 j d hj⟩
    unfold Program.built
    simp only [hi, hu, hz, hie]
    exact h1

/-- An element type: its zero value's cells, how many cells, how many bytes. -/
def ElOk (P : Program) (e : TypeId) (z : List Value) (s bytes : Nat) : Prop :=
  ∃ (i : TypeInfo) (zv : Value), P.info? e = some i ∧ i.zero = some zv ∧ zv.cells.toList = z ∧ i.size = s ∧ i.bytes = bytes

/-- n cells of zeros. -/
def rowZ (z : List Value) (n : Nat) : List Value := (List.range n).map fun i => z[i % z.length]!

/-- The cells of a slice that is built. -/
def bsCells (z : List Value) (s len : Nat) (ps : List (Nat × T)) : Option (List D) :=
  if len = 0 ∧ ps.isEmpty then some []
  else if len * s ≤ 2 ^ 24 ∧ 0 < len * s then (match ofL (rowZ z (len * s)) with | some ds => fillD (fun i => some (i * s, s)) ds ps | none => none)
  else none

theorem alloc_at (w : World) (o : Obj) : (w.alloc o).heap[w.heap.size]? = some o := by
  show (w.heap.push o)[w.heap.size]? = _
  simp

theorem bsCells_ok {t elem : TypeId} {z : List Value} {len s bytes : Nat} (hu : P.underlying t = some (.slice elem)) (hel : ElOk P elem z s bytes) {ps : List (Nat × T)} {qs : Array (Nat × Value)} {es : List D} (h : bsCells z s len ps = some es) (hl : ps.length = qs.size) (hr : ∀ (j : Nat) i t, ps[j]? = some (i, t) → ∃ u, qs[j]? = some (i, u) ∧ RT k F φ w t u) :
    ∃ cells : Array Value, (Instr.buildSlice t len qs).run P w = .ok (.slice (some ⟨w.heap.size, 0, none⟩) len len) (w.alloc (.cells cells elem)) ∧ RL k F φ w cells.toList es ∧ cells.size = len * s := by
  obtain ⟨i, zv, hi, hz, rfl, rfl, rfl⟩ := hel
  unfold bsCells at h
  split at h
  · rename_i hc
    obtain ⟨rfl, hps⟩ := hc
    cases h
    have : ps = [] := by simpa using hps
    subst this
    have hq : qs = #[] := by
      have : qs.size = 0 := by simpa using hl.symm
      exact Array.eq_empty_of_size_eq_zero this
    subst hq
    refine ⟨#[], ?_, ⟨rfl, fun j d hj => by simp at hj⟩, by simp⟩
    have hz0 : (Array.map (fun _ => (default : Value)) (Array.range 0)) = #[] := by apply Array.eq_empty_of_size_eq_zero; simp
    simp [Instr.buildSlice, run_underlying hu, sizeOf, typeInfo, hi, Instr.fill, newRow, hz0]
  split at h
  · rename_i hc
    split at h
    · rename_i ds hd
      obtain ⟨vs', h1, h2⟩ := fillD_ok (k := k) (F := F) (φ := φ) (w := w) ps qs.toList ds es (rowZ zv.cells.toList (len * i.size)).toArray (by simpa using ofL_RL hd) h (by simpa using hl) (fun j i t hj => by simpa using hr j i t hj)
      have hlen : ∀ (ps : List (Nat × Value)) (c c' : Array Value) (pl : Nat → Option (Nat × Nat)), Instr.fill pl c ps = some c' → c'.size = c.size := by
        intro ps
        induction ps with
        | nil => intro c c' pl h; simp [Instr.fill] at h; rw [h]
        | cons p ps ih =>
          intro c c' pl h
          obtain ⟨k, v⟩ := p
          simp only [Instr.fill] at h
          split at h
          · cases h
          · split at h
            · cases h
            · rw [ih _ _ _ h]
              rename_i off size _ _
              have : ∀ (l : List (Value × Nat)) (c : Array Value), (l.foldl (fun cs (p : Value × Nat) => cs.setIfInBounds (off + p.2) p.1) c).size = c.size := by
                intro l
                induction l with
                | nil => intro c; rfl
                | cons x l ih => intro c; rw [List.foldl_cons, ih]; simp
              rw [← Array.foldl_toList, this]
      refine ⟨vs', ?_, h2, by rw [hlen _ _ _ _ h1]; simp [rowZ]⟩
      have h1' : Instr.fill (fun k => some (k * i.size, i.size)) ((Array.range (len * i.size)).map (fun k => zv.cells[k % zv.cells.size]!)) qs.toList = some vs' := by
        rw [← h1]; congr 1
        apply Array.ext'
        simp [rowZ]
        intro a _
        rw [getElem!_def]
        cases zv.cells[a % zv.cells.size]? <;> rfl
      have hne : ¬ (len * i.size > 2 ^ 24) := by omega
      have hnz : ¬ (len * i.size = 0) := by omega
      simp [Instr.buildSlice, run_underlying hu, sizeOf, typeInfo, zeroValue, hi, hz, hne, hnz, h1', newRow]
    · cases h
  · cases h

def unC : List D → Option (List C)
  | [] => some []
  | .c x :: r => (unC r).map (x :: ·)
  | _ => none
theorem unC_ok : ∀ {ds : List D} {cs : List C}, unC ds = some cs → ds = cs.map .c
  | [], cs, h => by simp [unC] at h; subst h; rfl
  | .c x :: r, cs, h => by
    simp only [unC, Option.map_eq_some_iff] at h
    obtain ⟨cs', h1, rfl⟩ := h
    rw [unC_ok h1]; rfl
  | .fp _ :: _, cs, h => by simp [unC] at h
  | .ptr _ _ :: _, cs, h => by simp [unC] at h
  | .lsl _ _ _ _ :: _, cs, h => by simp [unC] at h
  | .fn _ _ :: _, cs, h => by simp [unC] at h
  | .z0 :: _, cs, h => by simp [unC] at h
  | .yld _ :: _, cs, h => by simp [unC] at h
  | .mp _ :: _, cs, h => by simp [unC] at h

/-- A new block that nobody will write. -/
theorem ext_alloc (o : Obj) : Ext w (w.alloc o) := Below.alloc (Below.refl _ _) (Nat.le_refl _) o

def evBslF (z : List Value) (s len : Nat) (ps : List (Nat × T)) : Option T :=
  match bsCells z s len ps with
  | some es => (match len with | 0 => some (.t (.one .z0)) | len + 1 => match unC es with | some cs => some (.t (.one (.c (.sl (len + 1) cs)))) | none => some (.row (len + 1) es))
  | none => none
theorem evBslF_ok (hF : ∀ x, F x → x < w.heap.size) {t elem : TypeId} {z : List Value} {len s bytes : Nat} (hu : P.underlying t = some (.slice elem)) (hel : ElOk P elem z s bytes) {ps : List (Nat × T)} {qs : Array (Nat × Value)} {y : T} (h : evBslF z s len ps = some y) (hl : ps.length = qs.size) (hr : ∀ (j : Nat) i t, ps[j]? = some (i, t) → ∃ u, qs[j]? = some (i, u) ∧ RT k F φ w t u) :
    ∃ u' w', (Instr.buildSlice t len qs).run P w = .ok u' w' ∧ Ext w w' ∧ RT k F φ w' y u' := by
  unfold evBslF at h
  split at h
  · rename_i es hb
    obtain ⟨cells, h1, h2, _⟩ := bsCells_ok hu hel hb hl hr
    have hx : Ext w (w.alloc (.cells cells elem)) := ext_alloc _
    split at h
    · cases h
      exact ⟨_, _, h1, hx, ⟨_, rfl⟩⟩
    rename_i len
    split at h
    rotate_left
    · cases h
      refine ⟨_, _, h1, hx, w.heap.size, 0, _, rfl, Nat.le_refl _, fun hf => Nat.lt_irrefl _ (hF _ hf), lt_of_heap (alloc_at w _), fun j d hj => ?_⟩
      obtain ⟨x, hx', hr'⟩ := h2.2 j d hj
      refine ⟨x, ?_, RD.kp (φ := φ) (φ' := φ) (Kp.of_ext hx (fun _ _ h => h) (fun _ _ h => h)) hr'⟩
      simp only [Array.getElem?_toList] at hx'
      unfold World.cell?
      rw [alloc_at]
      simpa using hx'
    rename_i cs hc
    cases h
    refine ⟨_, _, h1, hx, RC.of_cs (Nat.le_refl _) ⟨fun _ hf => Nat.lt_irrefl _ (hF _ hf), fun j c hj => ?_⟩⟩
    obtain ⟨x, hx', hr'⟩ := h2.2 j (.c c) (by rw [unC_ok hc, List.getElem?_map, hj]; rfl)
    refine ⟨x, ?_, RC.kp (φ := φ) (φ' := φ) (Kp.of_ext hx (fun _ _ h => h) (fun _ _ h => h)) hr'⟩
    simp only [Array.getElem?_toList] at hx'
    unfold World.cell?
    rw [alloc_at]
    simpa using hx'
  · cases h
end
end Go.Mach
namespace Go.Mach
open Go Go.RowKit Go.Flow
variable [Limb]

/-- How an operation computes. -/
inductive PK where
  | bin (op : BinOp)
  | not
  | neg
  | cvt (q : IntKind)
  | eqB
  | eqA (n : Nat)
  | neA (n : Nat)
  | max
  | min
  | gen
  | neB
  | inv
  deriving Inhabited

def two63 : Nat := 9223372036854775808
def two64 : Nat := 18446744073709551616
def two32 : Nat := 4294967296
/-- A bound below which numbers of a kind are as they are. -/
def lim : IntKind → Nat
  | .i64 => two63
  | .u64 => two64
  | .u32 => two32
  | .i32 => 2147483648
  | .u8 => 256
  | _ => 0
def wrapN (q : IntKind) (n : Nat) : Int := if Nat.blt n (lim q) then (n : Int) else q.wrap (n : Int)

theorem wrap_small (q : IntKind) (n : Nat) (h : n < lim q) : q.wrap (n : Int) = n := by
  unfold IntKind.wrap
  cases q <;> simp only [lim, two63, two64, two32, IntKind.bits, IntKind.signed] at h ⊢ <;> first | omega | (simp; omega)
theorem wrapN_eq (q : IntKind) (n : Nat) : wrapN q n = q.wrap (n : Int) := by
  unfold wrapN
  split
  · rename_i h
    rw [wrap_small q n (by simpa using h)]
  · rfl

def binI (op : BinOp) (q : IntKind) (a b : Int) : Option Value :=
  match op, a, b with
  | .add, .ofNat x, .ofNat y => some (.int q (wrapN q (x + y)))
  | .add, x, y => some (.int q (q.wrap (x + y)))
  | .sub, x, y => some (.int q (q.wrap (x - y)))
  | .mul, .ofNat x, .ofNat y => some (.int q (wrapN q (x * y)))
  | .mul, x, y => some (.int q (q.wrap (x * y)))
  | .quo, .ofNat x, .ofNat y => if Nat.beq y 0 then none else some (.int q (wrapN q (x / y)))
  | .rem, .ofNat x, .ofNat y => if Nat.beq y 0 then none else some (.int q (x % y : Nat))
  | .eql, x, y => some (.bool (x == y))
  | .neq, x, y => some (.bool (x != y))
  | .lss, x, y => some (.bool (decide (x < y)))
  | .leq, x, y => some (.bool (decide (x ≤ y)))
  | .gtr, x, y => some (.bool (decide (x > y)))
  | .geq, x, y => some (.bool (decide (x ≥ y)))
  | .and, x, y => some (.int q (q.wrap (BitVec.ofInt q.bits x &&& BitVec.ofInt q.bits y).toNat))
  | .or, x, y => some (.int q (q.wrap (BitVec.ofInt q.bits x ||| BitVec.ofInt q.bits y).toNat))
  | .xor, x, y => some (.int q (q.wrap (BitVec.ofInt q.bits x ^^^ BitVec.ofInt q.bits y).toNat))
  | _, _, _ => none
def shI (op : BinOp) (q : IntKind) (a b : Int) : Option Value :=
  match op, a, b with
  | .shl, .ofNat x, .ofNat y => if Nat.blt y q.bits then some (.int q (wrapN q (x * 2 ^ y))) else none
  | .shr, .ofNat x, .ofNat y => if Nat.blt y q.bits then some (.int q (x / 2 ^ y : Nat)) else none
  | _, _, _ => none
def intsOf : List Value → Option (List Int)
  | [] => some []
  | .int .i64 z :: r => (intsOf r).map (z :: ·)
  | _ => none
def pv (pk : PK) (l : List Value) : Option Value :=
  match pk, l with
  | .bin op, [.int q a, .int q' b] => (match op with | .shl => shI op q a b | .shr => shI op q a b | _ => if q = q' then binI op q a b else none)
  | .not, [.bool b] => some (.bool (!b))
  | .neg, [.int q a] => some (.int q (q.wrap (0 - a)))
  | .cvt q, [.int _ a] => (match a with | .ofNat n => some (.int q (wrapN q n)) | a => some (.int q (q.wrap a)))
  | .eqB, [.bool a, .bool b] => some (.bool (a == b))
  | .eqA n, [.agg a, .agg b] => (match intsOf a.toList, intsOf b.toList with | some x, some y => if x.length = n ∧ y.length = n then some (.bool (x == y)) else none | _, _ => none)
  | .neA n, [.agg a, .agg b] => (match intsOf a.toList, intsOf b.toList with | some x, some y => if x.length = n ∧ y.length = n then some (.bool (!(x == y))) else none | _, _ => none)
  | .max, [.int q a, .int _ b] => some (.int q (if b > a then b else a))
  | .min, [.int q a, .int _ b] => some (.int q (if b < a then b else a))
  | .neB, [.bool a, .bool b] => some (.bool (!(a == b)))
  | .inv, [.int q a] => some (.int q (q.wrap (BitVec.ofInt q.bits (if q.signed then -1 else q.max) ^^^ BitVec.ofInt q.bits a).toNat))
  | _, _ => none

/-- What the operation must be. -/
def PkOk (P : Program) : PK → Op → List Operand → Prop
  | .bin op, .binOp op' _ x y _, l => op = op' ∧ l = [x, y]
  | .not, .unOp .not _ x, l => l = [x]
  | .neg, .unOp .neg _ x, l => l = [x]
  | .cvt q, .convert s d x, l => l = [x] ∧ P.underlying d = some (.int q) ∧ (∃ ds, P.underlying s = some ds)
  | .eqB, .binOp .eql t x y _, l => l = [x, y] ∧ P.underlying t = some .bool
  | .eqA n, .binOp .eql t x y _, l => l = [x, y] ∧ n = 4 ∧ ∃ e, P.underlying t = some (.array n e) ∧ P.underlying e = some (.int .i64) ∧ szC P e = some 1 ∧ P.eqGuardType P.depth t = false
  | .neA n, .binOp .neq t x y _, l => l = [x, y] ∧ n = 4 ∧ ∃ e, P.underlying t = some (.array n e) ∧ P.underlying e = some (.int .i64) ∧ szC P e = some 1 ∧ P.eqGuardType P.depth t = false
  | .max, .call c, l => c.callee = .builtin .max ∧ ∃ x y, c.args = #[x, y] ∧ l = [x, y]
  | .min, .call c, l => c.callee = .builtin .min ∧ ∃ x y, c.args = #[x, y] ∧ l = [x, y]
  | .neB, .binOp .neq t x y _, l => l = [x, y] ∧ P.underlying t = some .bool
  | .inv, .unOp .xor _ x, l => l = [x]
  | _, _, _ => False

section
variable {P : Program} {w : World}

theorem binI_run {op : BinOp} {q : IntKind} {a b : Int} {X : Value} (h : binI op q a b = some X) (t : TypeId) : (binOp op t (.int q a) (.int q b)).run P w = .ok X w := by
  unfold binI at h
  split at h
  case h_6 x y =>
    split at h
    · cases h
    · rename_i hy
      have hy' : ¬ y = 0 := fun e => hy (by rw [e]; rfl)
      cases h
      simp [binOp, Op.intDiv, wrapN_eq, hy']
  case h_7 x y =>
    split at h
    · cases h
    · rename_i hy
      have hy' : ¬ y = 0 := fun e => hy (by rw [e]; rfl)
      cases h
      simp [binOp, Op.intDiv, hy']
      rfl
  all_goals first | (cases h; done) | (cases h; simp [binOp, Op.intArith, Op.intCmp, Op.intBits, wrapN_eq])

theorem shI_run {op : BinOp} {q q' : IntKind} {a b : Int} {X : Value} (h : shI op q a b = some X) (t : TypeId) : (binOp op t (.int q a) (.int q' b)).run P w = .ok X w := by
  unfold shI at h
  split at h
  · rename_i x y
    split at h
    · rename_i hy
      have hy' : y < q.bits := by simpa using hy
      cases h
      have hm : min y q.bits = y := Nat.min_eq_left (by omega)
      have hn : ¬ ((y : Int) < 0) := by omega
      simp [binOp, Op.shift, wrapN_eq, hm]
      omega
    · cases h
  · rename_i x y
    split at h
    · rename_i hy
      have hy' : y < q.bits := by simpa using hy
      cases h
      have hm : min y q.bits = y := Nat.min_eq_left (by omega)
      have hn : ¬ ((y : Int) < 0) := by omega
      have e : (2 : Int) ^ y = ((2 ^ y : Nat) : Int) := by simp
      have hf : (x : Int).fdiv (2 ^ y) = ((x / 2 ^ y : Nat) : Int) := by rw [e, Int.fdiv_eq_ediv_of_nonneg _ (Int.natCast_nonneg _)]; rfl
      simp [binOp, Op.shift, hm, hn, hf]
    · cases h
  · cases h

theorem intsOf_eq : ∀ {l : List Value} {z : List Int}, intsOf l = some z → l = z.map (Value.int .i64)
  | [], z, h => by simp [intsOf] at h; subst h; rfl
  | .int .i64 a :: r, z, h => by
    simp only [intsOf, Option.map_eq_some_iff] at h
    obtain ⟨z', h', rfl⟩ := h
    rw [intsOf_eq h']; rfl

theorem part_one {e : TypeId} (hs : szC P e = some 1) (he : P.underlying e = some (.int .i64)) {xs : Array Value} {j : Nat} {x : Value} (h : xs[j]? = some x) : (part e xs j).run P w = .ok x w := by
  have ha : (isAgg e).run P w = .ok false w := run_isAgg he
  simp [part, ha, h]

theorem run_eqA_aux (D : Nat) {t e : TypeId} (ht : P.underlying t = some (.array 4 e)) (he : P.underlying e = some (.int .i64)) (hs : szC P e = some 1) {a b : List Int} (ha : a.length = 4) (hb : b.length = 4)
    (hq : ∀ x y, (Op.equalIn D e (.int .i64 x) (.int .i64 y)).run P w = .ok (x == y) w) :
    (Op.equalIn (D + 1) t (.agg (a.map (Value.int .i64)).toArray) (.agg (b.map (Value.int .i64)).toArray)).run P w = .ok (a == b) w := by
  match a, b, ha, hb with
  | [a0, a1, a2, a3], [b0, b1, b2, b3], _, _ =>
    have hp : ∀ (x y z u : Int) (j : Nat) (v : Int), [x, y, z, u][j]? = some v → (part e #[.int .i64 x, .int .i64 y, .int .i64 z, .int .i64 u] j).run P w = .ok (.int .i64 v) w := by
      intro x y z u j v h
      refine part_one hs he ?_
      have : (List.map (Value.int .i64) [x, y, z, u]).toArray[j]? = some (.int .i64 v) := by rw [List.getElem?_toArray, List.getElem?_map, h]; rfl
      exact this
    have p0 := fun x y z u => hp x y z u 0 x rfl
    have p1 := fun x y z u => hp x y z u 1 y rfl
    have p2 := fun x y z u => hp x y z u 2 z rfl
    have p3 := fun x y z u => hp x y z u 3 u rfl
    have hr : List.range' 0 4 = [0, 1, 2, 3] := rfl
    simp only [List.map_cons, List.map_nil]
    simp only [Op.equalIn, Sem.run_bind, run_underlying ht, Result.andThen_ok, run_sizeOf hs]
    rw [Std.Legacy.Range.forIn_eq_forIn_range']
    simp only [Std.Legacy.Range.size, Nat.sub_zero, Nat.add_sub_cancel, Nat.div_one, hr, List.forIn_cons, List.forIn_nil, Nat.zero_mul, Nat.one_mul, Nat.mul_one, Sem.run_bind, p0, p1, p2, p3, Result.andThen_ok, hq]
    by_cases e0 : a0 = b0 <;> by_cases e1 : a1 = b1 <;> by_cases e2 : a2 = b2 <;> by_cases e3 : a3 = b3 <;> simp [e0, e1, e2, e3, hq, p0, p1, p2, p3]
theorem run_eqA {t e : TypeId} (ht : P.underlying t = some (.array 4 e)) (he : P.underlying e = some (.int .i64)) (hs : szC P e = some 1) {a b : List Int} (ha : a.length = 4) (hb : b.length = 4) :
    (Op.equal t (.agg (a.map (Value.int .i64)).toArray) (.agg (b.map (Value.int .i64)).toArray)).run P w = .ok (a == b) w :=
  run_eqA_aux 9999 ht he hs ha hb fun x y => run_equalIn_int (P := P) w 9998 e .i64 .i64 x y he

theorem pv_bin {op : BinOp} {l : List Value} {X : Value} (h : pv (.bin op) l = some X) : ∃ q a q' b, l = [.int q a, .int q' b] ∧ ((op = .shl ∨ op = .shr) ∧ shI op q a b = some X ∨ q = q' ∧ binI op q a b = some X) := by
  unfold pv at h
  split at h
  case h_1 op' q a q' b hpk =>
    cases hpk
    refine ⟨q, a, q', b, rfl, ?_⟩
    split at h
    · exact .inl ⟨.inl rfl, h⟩
    · exact .inl ⟨.inr rfl, h⟩
    · split at h
      · exact .inr ⟨by assumption, h⟩
      · cases h
  all_goals first | (rename_i hpk; cases hpk) | (rename_i hpk _; cases hpk) | cases h
theorem pv_eqA {n : Nat} {l : List Value} {X : Value} (h : pv (.eqA n) l = some X) : ∃ x y : List Int, l = [.agg (x.map (Value.int .i64)).toArray, .agg (y.map (Value.int .i64)).toArray] ∧ x.length = n ∧ y.length = n ∧ X = .bool (x == y) := by
  unfold pv at h
  split at h
  case h_6 n' a b hpk =>
    cases hpk
    split at h
    · rename_i x y hx hy
      split at h
      · rename_i hxy
        cases h
        refine ⟨x, y, ?_, hxy.1, hxy.2, rfl⟩
        rw [← intsOf_eq hx, ← intsOf_eq hy]
      · cases h
    · cases h
  all_goals first | (rename_i hpk; cases hpk) | (rename_i hpk _; cases hpk) | cases h
theorem pv_neA {n : Nat} {l : List Value} {X : Value} (h : pv (.neA n) l = some X) : ∃ x y : List Int, l = [.agg (x.map (Value.int .i64)).toArray, .agg (y.map (Value.int .i64)).toArray] ∧ x.length = n ∧ y.length = n ∧ X = .bool (!(x == y)) := by
  unfold pv at h
  split at h
  case h_7 n' a b hpk =>
    cases hpk
    split at h
    · rename_i x y hx hy
      split at h
      · rename_i hxy
        cases h
        refine ⟨x, y, ?_, hxy.1, hxy.2, rfl⟩
        rw [← intsOf_eq hx, ← intsOf_eq hy]
      · cases h
    · cases h
  all_goals first | (rename_i hpk; cases hpk) | (rename_i hpk _; cases hpk) | cases h
theorem pv_not {l : List Value} {X : Value} (h : pv .not l = some X) : ∃ b, l = [.bool b] ∧ X = .bool (!b) := by
  unfold pv at h
  split at h
  case h_2 b hpk => cases h; exact ⟨b, rfl, rfl⟩
  all_goals first | (rename_i hpk; cases hpk) | (rename_i hpk _; cases hpk) | cases h
theorem pv_neg {l : List Value} {X : Value} (h : pv .neg l = some X) : ∃ q a, l = [.int q a] ∧ X = .int q (q.wrap (0 - a)) := by
  unfold pv at h
  split at h
  case h_3 q a hpk => cases h; exact ⟨q, a, rfl, rfl⟩
  all_goals first | (rename_i hpk; cases hpk) | (rename_i hpk _; cases hpk) | cases h
theorem pv_cvt {q : IntKind} {l : List Value} {X : Value} (h : pv (.cvt q) l = some X) : ∃ q' a, l = [.int q' a] ∧ X = .int q (q.wrap a) := by
  unfold pv at h
  split at h
  case h_4 q0 q' a hpk =>
    cases hpk
    split at h
    · cases h; exact ⟨q', _, rfl, by rw [wrapN_eq]; rfl⟩
    · cases h; exact ⟨q', _, rfl, rfl⟩
  all_goals first | (rename_i hpk; cases hpk) | (rename_i hpk _; cases hpk) | cases h
theorem pv_eqB {l : List Value} {X : Value} (h : pv .eqB l = some X) : ∃ a b, l = [.bool a, .bool b] ∧ X = .bool (a == b) := by
  unfold pv at h
  split at h
  case h_5 a b hpk => cases h; exact ⟨a, b, rfl, rfl⟩
  all_goals first | (rename_i hpk; cases hpk) | (rename_i hpk _; cases hpk) | cases h
theorem pv_max {l : List Value} {X : Value} (h : pv .max l = some X) : ∃ q a q' b, l = [.int q a, .int q' b] ∧ X = .int q (if b > a then b else a) := by
  unfold pv at h
  split at h
  case h_8 q a q' b hpk => cases h; exact ⟨q, a, q', b, rfl, rfl⟩
  all_goals first | (rename_i hpk; cases hpk) | (rename_i hpk _; cases hpk) | cases h
theorem pv_min {l : List Value} {X : Value} (h : pv .min l = some X) : ∃ q a q' b, l = [.int q a, .int q' b] ∧ X = .int q (if b < a then b else a) := by
  unfold pv at h
  split at h
  case h_9 q a q' b hpk => cases h; exact ⟨q, a, q', b, rfl, rfl⟩
  all_goals first | (rename_i hpk; cases hpk) | (rename_i hpk _; cases hpk) | cases h

theorem pv_neB {l : List Value} {X : Value} (h : pv .neB l = some X) : ∃ a b, l = [.bool a, .bool b] ∧ X = .bool (!(a == b)) := by
  unfold pv at h
  split at h
  case h_10 a b hpk => cases h; exact ⟨a, b, rfl, rfl⟩
  all_goals first | (rename_i hpk; cases hpk) | (rename_i hpk _; cases hpk) | cases h

theorem pv_inv {l : List Value} {X : Value} (h : pv .inv l = some X) : ∃ q a, l = [.int q a] ∧ X = .int q (q.wrap (BitVec.ofInt q.bits (if q.signed then -1 else q.max) ^^^ BitVec.ofInt q.bits a).toNat) := by
  unfold pv at h
  split at h
  case h_11 q a hpk => cases h; exact ⟨q, a, rfl, rfl⟩
  all_goals first | (rename_i hpk; cases hpk) | (rename_i hpk _; cases hpk) | cases h

theorem two_eq {ρ : Operand → Value} {x y : Operand} {u v : Value} (h : [x, y].map ρ = [u, v]) : ρ x = u ∧ ρ y = v := by simpa using h

theorem pv_ok {pk : PK} {o : Oper} {l : List Operand} {ρ : Operand → Value} {X : Value} (hk : PkOk P pk o.op l) (h : pv pk (l.map ρ) = some X) : (execOp ρ o).run P w = .ok (.value X) w := by
  unfold PkOk at hk
  split at hk
  · rename_i op op' t x y t' hop
    obtain ⟨rfl, rfl⟩ := hk
    obtain ⟨q, a, q', b, hl, hX⟩ := pv_bin h
    obtain ⟨e1, e2⟩ := two_eq hl
    have hg : (eqGuard op t x y (ρ x) (ρ y)).run P w = .ok () w := by
      rw [e1, e2]; cases op <;> rfl
    have hb : (binOp op t (ρ x) (ρ y)).run P w = .ok X w := by
      rw [e1, e2]
      rcases hX with ⟨_, h⟩ | ⟨rfl, h⟩
      · exact shI_run h t
      · exact binI_run h t
    simp [execOp, hop, hg, hb]
  · rename_i t x hop
    subst hk
    obtain ⟨b, hl, rfl⟩ := pv_not h
    have e1 : ρ x = .bool b := by simpa using hl
    simp [execOp, hop, e1, Op.unary]
  · rename_i t x hop
    subst hk
    obtain ⟨q, a, hl, rfl⟩ := pv_neg h
    have e1 : ρ x = .int q a := by simpa using hl
    simp [execOp, hop, e1, Op.unary, Op.intArith]
  · rename_i q s d x hop
    obtain ⟨rfl, hd, ds, hs⟩ := hk
    obtain ⟨q', a, hl, rfl⟩ := pv_cvt h
    have e1 : ρ x = .int q' a := by simpa using hl
    simp [execOp, hop, e1, convert, run_underlying hd, run_underlying hs, Conv.intToInt]
  · rename_i t x y t' hop
    obtain ⟨rfl, ht⟩ := hk
    obtain ⟨a, b, hl, rfl⟩ := pv_eqB h
    obtain ⟨e1, e2⟩ := two_eq hl
    have hg : (eqGuard .eql t x y (ρ x) (ρ y)).run P w = .ok () w := by rw [e1, e2]; rfl
    have hb : (binOp .eql t (ρ x) (ρ y)).run P w = .ok (.bool (a == b)) w := by
      rw [e1, e2]
      simp [binOp, run_equal_bool w t a b ht]
    simp [execOp, hop, hg, hb]
  · rename_i n t x y t' hop
    obtain ⟨rfl, rfl, e, ht, he, hs, hgt⟩ := hk
    obtain ⟨a, b, hl, ha, hb', rfl⟩ := pv_eqA h
    obtain ⟨e1, e2⟩ := two_eq hl
    have hb : (binOp .eql t (ρ x) (ρ y)).run P w = .ok (.bool (a == b)) w := by
      have := run_eqA (P := P) (w := w) ht he hs ha hb'
      rw [e1, e2, run_eql_struct]
      unfold Op.equal Op.maxDepth at this
      rw [this]; rfl
    have hg : (eqGuard .eql t x y (ρ x) (ρ y)).run P w = .ok () w := by rw [e1, e2]; exact run_eqGuard_agg w _ _ _ _ _ _ hgt
    simp [execOp, hop, hg, hb]
  · rename_i n t x y t' hop
    obtain ⟨rfl, rfl, e, ht, he, hs, hgt⟩ := hk
    obtain ⟨a, b, hl, ha, hb', rfl⟩ := pv_neA h
    obtain ⟨e1, e2⟩ := two_eq hl
    have hb : (binOp .neq t (ρ x) (ρ y)).run P w = .ok (.bool (!(a == b))) w := by
      have := run_eqA (P := P) (w := w) ht he hs ha hb'
      rw [e1, e2, run_neq_struct]
      unfold Op.equal Op.maxDepth at this
      rw [this]; rfl
    have hg : (eqGuard .neq t x y (ρ x) (ρ y)).run P w = .ok () w := by rw [e1, e2]; exact run_eqGuard_agg w _ _ _ _ _ _ hgt
    simp [execOp, hop, hg, hb]
  · rename_i c hop
    obtain ⟨hcal, x, y, hargs, rfl⟩ := hk
    obtain ⟨q, a, q', b, hl, rfl⟩ := pv_max h
    obtain ⟨e1, e2⟩ := two_eq hl
    simp [execOp, hop, resolve, hcal, invoke, builtin, hargs, e1, e2, Builtin.max_, Builtin.max2]
  · rename_i c hop
    obtain ⟨hcal, x, y, hargs, rfl⟩ := hk
    obtain ⟨q, a, q', b, hl, rfl⟩ := pv_min h
    obtain ⟨e1, e2⟩ := two_eq hl
    simp [execOp, hop, resolve, hcal, invoke, builtin, hargs, e1, e2, Builtin.min_, Builtin.min2]
  · rename_i t x y t' hop
    obtain ⟨rfl, ht⟩ := hk
    obtain ⟨a, b, hl, rfl⟩ := pv_neB h
    obtain ⟨e1, e2⟩ := two_eq hl
    have hg : (eqGuard .neq t x y (ρ x) (ρ y)).run P w = .ok () w := by rw [e1, e2]; rfl
    have hb : (binOp .neq t (ρ x) (ρ y)).run P w = .ok (.bool (!(a == b))) w := by
      rw [e1, e2]
      simp [binOp, run_equal_bool w t a b ht]
    simp [execOp, hop, hg, hb]
  · rename_i t x hop
    subst hk
    obtain ⟨q, a, hl, rfl⟩ := pv_inv h
    have e1 : ρ x = .int q a := by simpa using hl
    simp [execOp, hop, e1, Op.unary, Op.intBits]
  · exact hk.elim
end

/-! ### Class by class. -/
/-- A list turned, from the back. -/
def revA {α : Type} : List α → List α → List α
  | [], acc => acc
  | x :: r, acc => revA r (x :: acc)
theorem revA_eq {α : Type} : ∀ (l acc : List α), revA l acc = l.reverse ++ acc
  | [], acc => rfl
  | x :: r, acc => by rw [revA, revA_eq r]; simp

def map1 (f : Value → Option Value) : List Value → List Value → Option (List Value)
  | [], acc => some (revA acc [])
  | x :: r, acc => match f x with | some y => map1 f r (y :: acc) | none => none
def map2 (f : Value → Value → Option Value) : List Value → List Value → List Value → Option (List Value)
  | x :: r, y :: s, acc => match f x y with | some z => map2 f r s (z :: acc) | none => none
  | _, _, acc => some (revA acc [])

theorem map1_spec {f : Value → Option Value} : ∀ {l acc out : List Value}, map1 f l acc = some out → ∃ r, out = acc.reverse ++ r ∧ r.length = l.length ∧ ∀ (j : Nat) x, l[j]? = some x → ∃ y, r[j]? = some y ∧ f x = some y
  | [], acc, out, h => by
    simp only [map1, Option.some.injEq] at h
    exact ⟨[], by rw [← h, revA_eq], rfl, fun j x hj => by simp at hj⟩
  | x :: l, acc, out, h => by
    simp only [map1] at h
    split at h
    · rename_i y hy
      obtain ⟨r, h1, h2, h3⟩ := map1_spec h
      refine ⟨y :: r, by rw [h1]; simp, by simp [h2], fun j z hj => ?_⟩
      cases j with
      | zero => simp at hj; subst hj; exact ⟨y, rfl, hy⟩
      | succ j => simpa using h3 j z (by simpa using hj)
    · cases h
theorem map2_spec {f : Value → Value → Option Value} : ∀ {l m acc out : List Value}, l.length = m.length → map2 f l m acc = some out → ∃ r, out = acc.reverse ++ r ∧ r.length = l.length ∧ ∀ (j : Nat) x y, l[j]? = some x → m[j]? = some y → ∃ z, r[j]? = some z ∧ f x y = some z
  | [], [], acc, out, _, h => by
    simp only [map2, Option.some.injEq] at h
    exact ⟨[], by rw [← h, revA_eq], rfl, fun j x y hj => by simp at hj⟩
  | x :: l, y :: m, acc, out, hl, h => by
    simp only [map2] at h
    split at h
    · rename_i z hz
      obtain ⟨r, h1, h2, h3⟩ := map2_spec (by simpa using hl) h
      refine ⟨z :: r, by rw [h1]; simp, by simp [h2], fun j a b ha hb => ?_⟩
      cases j with
      | zero => simp at ha hb; subst ha; subst hb; exact ⟨z, rfl, hz⟩
      | succ j => simpa using h3 j a b (by simpa using ha) (by simpa using hb)
    · cases h
  | [], _ :: _, _, _, hl, _ => by simp at hl
  | _ :: _, [], _, _, hl, _ => by simp at hl

/-- What stands in each class. -/
def vecT (x : T) : Option (List Value) :=
  match x with
  | .t (.one (.c (.vec l))) => some l
  | x => (plainT x).map fun v => [v]

/-- All true, or all false. -/
def allB (b : Bool) : List Value → Bool
  | [] => true
  | .bool c :: r => if c == b then allB b r else false
  | _ => false
/-- The classes' values as one operand; bools that are all the same become one. -/
def packT (l : List Value) : Option T :=
  match l with
  | .bool b :: r => if allB b r then some (.t (.one (.c (.v (.bool b))))) else if l.all isCell then some (.t (.one (.c (.vec l)))) else none
  | _ => if l.all isCell then some (.t (.one (.c (.vec l)))) else none

def ev1 (f : Value → Option Value) (x : T) : Option T :=
  match vecT x with
  | some [u] => (f u).bind fun X => (ofVal X).map .t
  | some l => (map1 f l []).bind packT
  | none => none
def ev2 (f : Value → Value → Option Value) (x y : T) : Option T :=
  match vecT x, vecT y with
  | some [u], some [v] => (f u v).bind fun X => (ofVal X).map .t
  | some [u], some m => (map1 (f u) m []).bind packT
  | some l, some [v] => (map1 (fun u => f u v) l []).bind packT
  | some l, some m => (map2 f l m []).bind packT
  | _, _ => none
/-! Numbers that depend on the class. -/
def symT : T → Option (IntKind × Sy)
  | .t (.one (.c (.sy q l))) => some (q, .p l)
  | .t (.one (.c (.v (.int q z)))) => some (q, .k z)
  | _ => none
def loQ : IntKind → Int
  | .i8 => -128
  | .i64 => -9223372036854775808
  | _ => 0
def hiQ : IntKind → Int
  | .i8 => 127
  | .u8 => 255
  | .i64 => 9223372036854775807
  | .u64 => 18446744073709551615
  | .u32 => 4294967295
  | _ => -1
def mkSyT (q : IntKind) (a : Sy) : Option T :=
  match syIn (loQ q) (hiQ q) a with
  | true => (match a with | .k z => some (.t (.one (.c (.v (.int q z))))) | .p l => some (.t (.one (.c (.sy q l)))))
  | false => none
def sgB (f : Int → Bool) (a : Sy) : Option T := match sySgn a with | some s => some (.t (.one (.c (.v (.bool (f s)))))) | none => none
def ltZ : Int → Bool
  | .negSucc _ => true
  | _ => false
def evSy1 (pk : PK) (x : T) : Option T :=
  match symT x with
  | some (q, a) => (match pk with | .cvt q' => mkSyT q' a | .neg => mkSyT q (syNeg a) | _ => none)
  | none => none
def evSyB (op : BinOp) (q : IntKind) (a b : Sy) : Option T :=
  match op with
  | .add => mkSyT q (syAdd a b)
  | .sub => mkSyT q (sySub a b)
  | .mul => mkSyT q (syMul a b)
  | .rem => (match b with | .k m => (match syRem a m with | some r => mkSyT q r | none => none) | .p _ => none)
  | .or => (match a, q with | .k (.ofNat 0), .u64 => mkSyT .u64 b | _, _ => none)
  | .eql => sgB isZ (sySub a b)
  | .neq => sgB (fun s => !isZ s) (sySub a b)
  | .lss => sgB ltZ (sySub a b)
  | .leq => sgB (fun s => !isPos s) (sySub a b)
  | .gtr => sgB isPos (sySub a b)
  | .geq => sgB (fun s => !ltZ s) (sySub a b)
  | _ => none
def evSy2 (pk : PK) (x y : T) : Option T :=
  match symT x, symT y with
  | some (q, a), some (q', b) => (match pk with | .bin op => if q = q' then evSyB op q a b else none | _ => none)
  | _, _ => none
def evPk (pk : PK) (l : List T) : Option T :=
  match l with
  | [x] => (match ev1 (fun u => pv pk [u]) x with | some y => some y | none => evSy1 pk x)
  | [x, y] => (match ev2 (fun u v => pv pk [u, v]) x y with | some z => some z | none => evSy2 pk x y)
  | _ => none

section
variable {P : Program} {k : Cls} {F : Nat → Prop} {φ : Nat → Option Nat} {w : World}

theorem vecT_ok {x : T} {l : List Value} {u : Value} (h : vecT x = some l) (r : RT k F φ w x u) : at1 l k = some u := by
  unfold vecT at h
  split at h
  · cases h
    have r' : RC k F w (.vec l) u := r
    cases r' with
    | vec _ _ h _ => exact h
  · simp only [Option.map_eq_some_iff] at h
    obtain ⟨v, hv, rfl⟩ := h
    rw [plainT_eq hv r]; rfl

theorem at1_len {α : Type} {l : List α} {u : α} (h : at1 l k = some u) : (∃ x, l = [x] ∧ x = u) ∨ (l.length = k.n ∧ l[k.k]? = some u ∧ l.length ≠ 1) := by
  match l, h with
  | [], h => simp [at1] at h
  | [x], h => simp [at1] at h; exact .inl ⟨x, rfl, h⟩
  | x :: y :: r, h =>
    simp only [at1] at h
    split at h
    · rename_i hl; exact .inr ⟨hl, h, by simp⟩
    · cases h

theorem at1_of {α : Type} {l : List α} {u : α} (hl : l.length = k.n) (h : l[k.k]? = some u) : at1 l k = some u := by
  match l, hl, h with
  | [], _, h => simp at h
  | [x], hl, h =>
    have : k.k = 0 := by have := (List.getElem?_eq_some_iff.1 h).1; simpa using this
    rw [this] at h
    simpa [at1] using h
  | x :: y :: r, hl, h => simp only [at1]; rw [if_pos hl]; exact h

theorem allB_spec : ∀ {l : List Value} {b : Bool} {j : Nat} {u : Value}, allB b l = true → l[j]? = some u → u = .bool b
  | [], b, j, u, h, hj => by simp at hj
  | .bool c :: r, b, j, u, h, hj => by
    simp only [allB] at h
    split at h
    · rename_i hc
      have hc' : c = b := by simpa using hc
      cases j with
      | zero => simp at hj; rw [← hj, hc']
      | succ j => exact allB_spec h (by simpa using hj)
    · cases h

theorem packT_ok {l : List Value} {y : T} {u : Value} (h : packT l = some y) (ha : at1 l k = some u) : RT k F φ w y u := by
  unfold packT at h
  split at h
  · rename_i b r
    split at h
    · rename_i hall
      cases h
      have : u = .bool b := by
        rcases at1_len ha with ⟨x, he, rfl⟩ | ⟨_, hj, _⟩
        · cases he; rfl
        · cases hk : k.k with
          | zero => rw [hk] at hj; simpa using hj.symm
          | succ j => rw [hk] at hj; exact allB_spec hall (by simpa using hj)
      subst this
      exact RC.v _ rfl
    · split at h
      · rename_i hall
        cases h
        exact RC.vec _ _ ha (List.all_eq_true.1 hall _ (at1_mem ha))
      · cases h
  · split at h
    · rename_i hall
      cases h
      exact RC.vec _ _ ha (List.all_eq_true.1 hall _ (at1_mem ha))
    · cases h

theorem ev1_ok {f : Value → Option Value} {x y : T} {u : Value} (h : ev1 f x = some y) (r : RT k F φ w x u) : ∃ X, f u = some X ∧ RT k F φ w y X := by
  unfold ev1 at h
  split at h
  · rename_i v hv
    have := vecT_ok hv r
    simp only [at1, Option.some.injEq] at this
    subst this
    simp only [Option.bind_eq_some_iff, Option.map_eq_some_iff] at h
    obtain ⟨X, hX, t, ht, rfl⟩ := h
    exact ⟨X, hX, ofVal_rep ht⟩
  · rename_i l hne hv
    simp only [Option.bind_eq_some_iff] at h
    obtain ⟨out, ho, hp⟩ := h
    obtain ⟨r', h1, h2, h3⟩ := map1_spec ho
    simp only [List.reverse_nil, List.nil_append] at h1
    subst h1
    have ha := vecT_ok hv r
    rcases at1_len ha with ⟨z, he, rfl⟩ | ⟨hl, hj, _⟩
    · exact absurd he (hne z)
    · obtain ⟨X, hX, hf⟩ := h3 _ _ hj
      exact ⟨X, hf, packT_ok hp (at1_of (by rw [h2, hl]) hX)⟩
  · cases h

theorem ev2_ok {f : Value → Value → Option Value} {x y z : T} {u v : Value} (h : ev2 f x y = some z) (r : RT k F φ w x u) (q : RT k F φ w y v) : ∃ X, f u v = some X ∧ RT k F φ w z X := by
  unfold ev2 at h
  split at h
  · rename_i a b hx hy
    have e1 := vecT_ok hx r
    have e2 := vecT_ok hy q
    simp only [at1, Option.some.injEq] at e1 e2
    subst e1; subst e2
    simp only [Option.bind_eq_some_iff, Option.map_eq_some_iff] at h
    obtain ⟨X, hX, t, ht, rfl⟩ := h
    exact ⟨X, hX, ofVal_rep ht⟩
  · rename_i a m hne hx hy
    have e1 := vecT_ok hx r
    simp only [at1, Option.some.injEq] at e1
    subst e1
    simp only [Option.bind_eq_some_iff] at h
    obtain ⟨out, ho, hp⟩ := h
    obtain ⟨r', h1, h2, h3⟩ := map1_spec ho
    simp only [List.reverse_nil, List.nil_append] at h1
    subst h1
    rcases at1_len (vecT_ok hy q) with ⟨z, he, rfl⟩ | ⟨hl, hj, _⟩
    · exact absurd he (hne z)
    · obtain ⟨X, hX, hf⟩ := h3 _ _ hj
      exact ⟨X, hf, packT_ok hp (at1_of (by rw [h2, hl]) hX)⟩
  · rename_i l b hne hx hy
    have e2 := vecT_ok hy q
    simp only [at1, Option.some.injEq] at e2
    subst e2
    simp only [Option.bind_eq_some_iff] at h
    obtain ⟨out, ho, hp⟩ := h
    obtain ⟨r', h1, h2, h3⟩ := map1_spec ho
    simp only [List.reverse_nil, List.nil_append] at h1
    subst h1
    rcases at1_len (vecT_ok hx r) with ⟨z, he, rfl⟩ | ⟨hl, hj, _⟩
    · exact absurd he (hne z)
    · obtain ⟨X, hX, hf⟩ := h3 _ _ hj
      exact ⟨X, hf, packT_ok hp (at1_of (by rw [h2, hl]) hX)⟩
  · rename_i l m hne1 hne2 hne3 hx hy
    simp only [Option.bind_eq_some_iff] at h
    obtain ⟨out, ho, hp⟩ := h
    rcases at1_len (vecT_ok hx r) with ⟨z, he, rfl⟩ | ⟨hl, hj, _⟩
    · exact absurd he (hne2 z)
    rcases at1_len (vecT_ok hy q) with ⟨z, he, rfl⟩ | ⟨hl', hj', _⟩
    · exact absurd he (hne3 z)
    obtain ⟨r', h1, h2, h3⟩ := map2_spec (by rw [hl, hl']) ho
    simp only [List.reverse_nil, List.nil_append] at h1
    subst h1
    obtain ⟨X, hX, hf⟩ := h3 _ _ _ hj hj'
    exact ⟨X, hf, packT_ok hp (at1_of (by rw [h2, hl]) hX)⟩
  · cases h

theorem wrap_in {q : IntKind} {z : Int} (h1 : loQ q ≤ z) (h2 : z ≤ hiQ q) : q.wrap z = z := by
  unfold IntKind.wrap
  cases q <;> simp only [loQ, hiQ, IntKind.bits, IntKind.signed] at h1 h2 ⊢ <;> first | omega | (simp; omega) | (simp; split <;> omega)
theorem binI_add' (q : IntKind) (a b : Int) : binI .add q a b = some (.int q (q.wrap (a + b))) := by
  match a, b with
  | .ofNat x, .ofNat y => show some (Value.int q (wrapN q (x + y))) = _; rw [wrapN_eq]; rfl
  | .ofNat x, .negSucc y => rfl
  | .negSucc x, .ofNat y => rfl
  | .negSucc x, .negSucc y => rfl
theorem binI_mul' (q : IntKind) (a b : Int) : binI .mul q a b = some (.int q (q.wrap (a * b))) := by
  match a, b with
  | .ofNat x, .ofNat y => show some (Value.int q (wrapN q (x * y))) = _; rw [wrapN_eq]; rfl
  | .ofNat x, .negSucc y => rfl
  | .negSucc x, .ofNat y => rfl
  | .negSucc x, .negSucc y => rfl
theorem binI_rem' (q : IntKind) {a b : Int} (ha : 0 ≤ a) (hb : 0 < b) : binI .rem q a b = some (.int q (Int.emod a b)) := by
  obtain ⟨n, rfl⟩ := Int.eq_ofNat_of_zero_le ha
  obtain ⟨m, rfl⟩ := Int.eq_ofNat_of_zero_le (Int.le_of_lt hb)
  have : ¬ (Nat.beq m 0 = true) := fun h => by have := Nat.eq_of_beq_eq_true h; omega
  show (if Nat.beq m 0 then none else some (Value.int q ((n % m : Nat) : Int))) = _
  rw [if_neg this]; rfl
theorem binI_or0 {b : Int} (hb : 0 ≤ b) (h : b ≤ 18446744073709551615) : binI .or .u64 (.ofNat 0) b = some (.int .u64 b) := by
  obtain ⟨n, rfl⟩ := Int.eq_ofNat_of_zero_le hb
  have e : (BitVec.ofInt 64 (Int.ofNat 0) ||| BitVec.ofInt 64 (n : Int)).toNat = n := by simp; omega
  show some (Value.int .u64 (IntKind.wrap .u64 (Int.ofNat (BitVec.ofInt 64 (Int.ofNat 0) ||| BitVec.ofInt 64 (n : Int)).toNat))) = _
  rw [e, show IntKind.wrap .u64 (Int.ofNat n) = Int.ofNat n from wrap_small .u64 n (by show n < two64; unfold two64; omega)]
  rfl

theorem symT_ok {x : T} {q : IntKind} {a : Sy} {u : Value} (h : symT x = some (q, a)) (r : RT k F φ w x u) : u = .int q (a.ev k.e) := by
  unfold symT at h
  split at h
  · cases h
    have r' : RC k F w (.sy q _) u := r
    cases r'
    rfl
  · cases h
    exact plainT_eq (x := .int q _) rfl r
  · cases h
theorem mkSyT_ok {q : IntKind} {a : Sy} {y : T} (h : mkSyT q a = some y) : RT k F φ w y (.int q (a.ev k.e)) ∧ q.wrap (a.ev k.e) = a.ev k.e ∧ loQ q ≤ a.ev k.e ∧ a.ev k.e ≤ hiQ q := by
  unfold mkSyT at h
  split at h
  · rename_i hin
    obtain ⟨h1, h2⟩ := syIn_ok k.he hin
    refine ⟨?_, wrap_in h1 h2, h1, h2⟩
    cases a with
    | k z => cases h; exact RC.v _ rfl
    | p l => cases h; exact RC.sy q l
  · cases h
theorem sgB_ok {f : Int → Bool} {a : Sy} {y : T} (h : sgB f a = some y) : RT k F φ w y (.bool (f (Int.sign (a.ev k.e)))) := by
  unfold sgB at h
  split at h
  · rename_i s hs
    cases h
    rw [sySgn_ok k.he hs]
    exact RC.v _ rfl
  · cases h
theorem sign_ltZ (z : Int) : ltZ (Int.sign z) = decide (z < 0) := by
  match z with
  | .ofNat 0 => rfl
  | .ofNat (n + 1) => rfl
  | .negSucc n => rw [Int.sign_eq_neg_one_of_neg (Int.negSucc_lt_zero n), decide_eq_true (Int.negSucc_lt_zero n)]; rfl
theorem sign_isZ (z : Int) : isZ (Int.sign z) = decide (z = 0) := by
  match z with
  | .ofNat 0 => rfl
  | .ofNat (n + 1) => rfl
  | .negSucc n => rfl
theorem sign_isPos (z : Int) : isPos (Int.sign z) = decide (0 < z) := by
  match z with
  | .ofNat 0 => rfl
  | .ofNat (n + 1) => have h : (0 : Int) < Int.ofNat (n + 1) := Int.ofNat_lt.2 (Nat.succ_pos n); rw [decide_eq_true h]; rfl
  | .negSucc n => rfl
theorem evSyB_ok {op : BinOp} {q : IntKind} {a b : Sy} {y : T} (h : evSyB op q a b = some y) : ∃ X, pv (.bin op) [.int q (a.ev k.e), .int q (b.ev k.e)] = some X ∧ RT k F φ w y X := by
  unfold evSyB at h
  split at h
  · obtain ⟨h1, h2, _⟩ := mkSyT_ok (k := k) (F := F) (φ := φ) (w := w) h
    rw [syAdd_ev] at h1 h2
    refine ⟨_, ?_, h1⟩
    simp only [pv, if_true, binI_add', h2]
  · obtain ⟨h1, h2, _⟩ := mkSyT_ok (k := k) (F := F) (φ := φ) (w := w) h
    rw [sySub_ev] at h1 h2
    refine ⟨_, ?_, h1⟩
    show (if q = q then binI .sub q (a.ev k.e) (b.ev k.e) else none) = _
    rw [if_pos rfl]
    show some (Value.int q (q.wrap (a.ev k.e - b.ev k.e))) = _
    rw [h2]
  · obtain ⟨h1, h2, _⟩ := mkSyT_ok (k := k) (F := F) (φ := φ) (w := w) h
    rw [syMul_ev] at h1 h2
    refine ⟨_, ?_, h1⟩
    simp only [pv, if_true, binI_mul', h2]
  · split at h
    · rename_i m
      split at h
      · rename_i r hr
        obtain ⟨h1, h2, _⟩ := mkSyT_ok (k := k) (F := F) (φ := φ) (w := w) h
        obtain ⟨g1, g2, g3⟩ := syRem_ok k.he hr
        rw [g3] at h1
        refine ⟨_, ?_, h1⟩
        simp only [pv, if_true]
        exact binI_rem' q g2 g1
      · cases h
    · cases h
  · split at h
    · obtain ⟨h1, h2, h3, h4⟩ := mkSyT_ok (k := k) (F := F) (φ := φ) (w := w) h
      exact ⟨_, by simp only [pv, if_true]; exact binI_or0 h3 h4, h1⟩
    · cases h
  all_goals (try cases h)
  all_goals (
    have h1 := sgB_ok (k := k) (F := F) (φ := φ) (w := w) h
    rw [sySub_ev] at h1
    refine ⟨_, ?_, h1⟩
    simp only [pv, if_true, binI, sign_isZ, sign_ltZ, sign_isPos]
    congr 2
    rw [Bool.eq_iff_iff]
    simp
    try omega)
theorem evSy2_ok {pk : PK} {x y z : T} {u v : Value} (h : evSy2 pk x y = some z) (r : RT k F φ w x u) (q : RT k F φ w y v) : ∃ X, pv pk [u, v] = some X ∧ RT k F φ w z X := by
  unfold evSy2 at h
  split at h
  · rename_i qa a qb b ha hb
    rw [symT_ok ha r, symT_ok hb q]
    split at h
    · rename_i op
      split at h
      · rename_i he
        subst he
        exact evSyB_ok h
      · cases h
    · cases h
  · cases h
theorem evSy1_ok {pk : PK} {x y : T} {u : Value} (h : evSy1 pk x = some y) (r : RT k F φ w x u) : ∃ X, pv pk [u] = some X ∧ RT k F φ w y X := by
  unfold evSy1 at h
  split at h
  · rename_i q a ha
    rw [symT_ok ha r]
    split at h
    · rename_i q'
      obtain ⟨h1, h2, _⟩ := mkSyT_ok (k := k) (F := F) (φ := φ) (w := w) h
      refine ⟨_, ?_, h1⟩
      show (match a.ev k.e with | .ofNat n => some (Value.int q' (wrapN q' n)) | a => some (Value.int q' (q'.wrap a))) = _
      have e : ∀ z : Int, q'.wrap z = z → (match z with | .ofNat n => some (Value.int q' (wrapN q' n)) | a => some (Value.int q' (q'.wrap a))) = some (Value.int q' z) := by
        intro z hz
        match z, hz with
        | .ofNat n, hz => show some (Value.int q' (wrapN q' n)) = _; rw [wrapN_eq]; exact congrArg _ (congrArg _ hz)
        | .negSucc n, hz => show some (Value.int q' (q'.wrap _)) = _; rw [hz]
      exact e _ h2
    · obtain ⟨h1, h2, _⟩ := mkSyT_ok (k := k) (F := F) (φ := φ) (w := w) h
      rw [syNeg_ev] at h1 h2
      refine ⟨_, ?_, h1⟩
      show some (Value.int q (q.wrap (0 - a.ev k.e))) = _
      rw [Int.zero_sub, h2]
    · cases h
  · cases h
theorem pk1_ok {pk : PK} {x y : T} {u : Value} (h : (match ev1 (fun u => pv pk [u]) x with | some y => some y | none => evSy1 pk x) = some y) (r : RT k F φ w x u) : ∃ X, pv pk [u] = some X ∧ RT k F φ w y X := by
  split at h
  · rename_i y' hy
    cases h
    exact ev1_ok hy r
  · exact evSy1_ok h r
theorem pk2_ok {pk : PK} {x y z : T} {u v : Value} (h : (match ev2 (fun u v => pv pk [u, v]) x y with | some z => some z | none => evSy2 pk x y) = some z) (r : RT k F φ w x u) (q : RT k F φ w y v) : ∃ X, pv pk [u, v] = some X ∧ RT k F φ w z X := by
  split at h
  · rename_i y' hy
    cases h
    exact ev2_ok hy r q
  · exact evSy2_ok h r q
theorem evPk_ok {pk : PK} {o : Oper} {l : List Operand} {σ : Operand → T} {ρ : Operand → Value} {y : T} (hk : PkOk P pk o.op l) (h : evPk pk (l.map σ) = some y) (hσ : ∀ x ∈ l, RT k F φ w (σ x) (ρ x)) :
    ∃ X, (execOp ρ o).run P w = .ok (.value X) w ∧ RT k F φ w y X := by
  match l, h, hk, hσ with
  | [], h, _, _ => simp [evPk] at h
  | [x], h, hk, hσ =>
    obtain ⟨X, hX, hr⟩ := pk1_ok h (hσ x (by simp))
    exact ⟨X, pv_ok hk hX, hr⟩
  | [x, z], h, hk, hσ =>
    obtain ⟨X, hX, hr⟩ := pk2_ok h (hσ x (by simp)) (hσ z (by simp))
    exact ⟨X, pv_ok hk hX, hr⟩
  | _ :: _ :: _ :: _, h, _, _ => simp [evPk] at h
end
end Go.Mach
namespace Go.Mach
open Go Go.RowKit Go.Flow
variable [Limb]

/-! ### What is handed over is no longer written. -/
def fzL (f : D → Option (C × List Nat)) : List D → Option (List C × List Nat)
  | [] => some ([], [])
  | d :: r => match f d, fzL f r with | some (c, b), some (cs, bs) => some (c :: cs, b ++ bs) | _, _ => none
def canon : C → C
  | .v (.slice none 0 0) => .sl 0 []
  | x => x
def fz (H : Hp) : Nat → D → Option (C × List Nat)
  | _, .c x => some (canon x, [])
  | _, .z0 => some (.sl 0 [], [])
  | n + 1, .lsl b o m s =>
    match H[b]? with
    | some (some (.cells ds)) => if o + m * s ≤ ds.length then (match fzL (fz H n) ((ds.drop o).take (m * s)) with | some (cs, bs) => some (.sl m cs, b :: bs) | none => none) else none
    | _ => none
  | _, _ => none

section
variable {P : Program} {k : Cls} {Bt : Bodies} {F0 : Nat → Prop} {N : Nat} {φ : Nat → Option Nat} {w : World} {H : Hp} {S : List Nat}

theorem canon_ok {F : Nat → Prop} {x : C} {u : Value} (h : RC k F w x u) : RC k F w (canon x) u := by
  unfold canon
  split
  · cases h; exact .nil _ _ (fun _ => rfl)
  · exact h

theorem HR.sealed (hH : HR k Bt F0 N φ w H S) {b x : Nat} {y : Blk} (hb : H[b]? = some (some y)) (hx : (φ b) = some x) (hs : b ∈ S) : ¬ Fo F0 φ H S x := by
  rintro (h | ⟨b', y', hb', hn, hx'⟩)
  · exact (hH.f0 x h).2.1 b y hb hx
  · exact hn (hH.inj b' b y' y x hb' hb hx' hx ▸ hs)

theorem fz_ok (hH : HR k Bt F0 N φ w H S) : ∀ (n : Nat) {d : D} {c : C} {bs : List Nat} {u : Value}, fz H n d = some (c, bs) → (∀ b ∈ bs, b ∈ S) → RD k (Fo F0 φ H S) φ w d u → RC k (Fo F0 φ H S) w c u := by
  intro n
  induction n with
  | zero =>
    intro d c bs u h hs r
    cases d with
    | c x => simp [fz] at h; obtain ⟨rfl, rfl⟩ := h; exact canon_ok r
    | z0 =>
      simp [fz] at h; obtain ⟨rfl, rfl⟩ := h
      obtain ⟨A, rfl⟩ := r
      exact .nil A 0 (fun _ => rfl)
    | _ => simp [fz] at h
  | succ n ih =>
    intro d c bs u h hs r
    cases d with
    | c x => simp [fz] at h; obtain ⟨rfl, rfl⟩ := h; exact canon_ok r
    | z0 =>
      simp [fz] at h; obtain ⟨rfl, rfl⟩ := h
      obtain ⟨A, rfl⟩ := r
      exact .nil A 0 (fun _ => rfl)
    | lsl b o m s =>
      simp only [fz] at h
      split at h
      · rename_i ds hb
        split at h
        · rename_i hle
          split at h
          · rename_i cs bs' hz
            cases h
            obtain ⟨x, cap, hx, rfl, hn, _⟩ := r
            obtain ⟨_, vs, tt, hw, hl, hc, _⟩ := hH.at_ b _ x hb hx
            have key : ∀ (l : List D) (cs : List C) (bs' : List Nat), fzL (fz H n) l = some (cs, bs') → (∀ b ∈ bs', b ∈ S) → ∀ (j : Nat) (c : C), cs[j]? = some c → ∃ d bs'', l[j]? = some d ∧ fz H n d = some (c, bs'') ∧ ∀ b ∈ bs'', b ∈ S := by
              intro l
              induction l with
              | nil => intro cs bs' h _ j c hj; simp [fzL] at h; obtain ⟨rfl, rfl⟩ := h; simp at hj
              | cons d l ihl =>
                intro cs bs' h hbs j c hj
                simp only [fzL] at h
                split at h
                · rename_i c' b' cs' bs'' h1 h2
                  cases h
                  cases j with
                  | zero => simp at hj; subst hj; exact ⟨d, b', rfl, h1, fun b hb => hbs b (List.mem_append_left _ hb)⟩
                  | succ j => simpa using ihl cs' bs'' h2 (fun b hb => hbs b (List.mem_append_right _ hb)) j c (by simpa using hj)
                · cases h
            refine RC.of_cs hn ⟨fun _ => hH.sealed hb hx (hs b List.mem_cons_self), fun j c hj => ?_⟩
            obtain ⟨d, bs'', hd, hfd, hbs⟩ := key _ _ _ hz (fun b hb => hs b (List.mem_cons_of_mem _ hb)) j c hj
            rw [List.getElem?_take] at hd
            split at hd
            · rw [List.getElem?_drop] at hd
              obtain ⟨u, hu, hr⟩ := hc (o + j) d hd
              exact ⟨u, by simp [World.cell?, hw, hu], ih hfd hbs hr⟩
            · cases hd
          · cases h
        · cases h
      · cases h
    | _ => simp [fz] at h

def fuelZ : Nat := 8
def toV1 (H : Hp) : T → Option (V1 × List Nat)
  | .t (.one d) => match fz H fuelZ d with | some (c, bs) => some (.one c, bs) | none => none
  | .t (.agg ds) => match fzL (fz H fuelZ) ds with | some (cs, bs) => some (.agg cs, bs) | none => none
  | .row n ds => match fzL (fz H fuelZ) ds with | some (cs, bs) => some (.one (.sl n cs), bs) | none => none
  | _ => none
def toV1s (H : Hp) : List T → Option (List V1 × List Nat)
  | [] => some ([], [])
  | t :: r => match toV1 H t, toV1s H r with | some (v, b), some (vs, bs) => some (v :: vs, b ++ bs) | _, _ => none

/-- No blocks of the call's own. -/
def φ0 : Nat → Option Nat := fun _ => none

/-- A value at a border. -/
def RV (k : Cls) (F : Nat → Prop) (w : World) (v : V1) (u : Value) : Prop := RT1 k F φ0 w v.t1 u

theorem fzL_ok (hH : HR k Bt F0 N φ w H S) (n : Nat) : ∀ {ds : List D} {cs : List C} {bs : List Nat} {vs : List Value}, fzL (fz H n) ds = some (cs, bs) → (∀ b ∈ bs, b ∈ S) → RL k (Fo F0 φ H S) φ w vs ds → RL k (Fo F0 φ H S) φ0 w vs (cs.map .c)
  | [], cs, bs, vs, h, hs, r => by
    simp [fzL] at h; obtain ⟨rfl, rfl⟩ := h
    exact ⟨by simpa using r.1, fun j d hj => by simp at hj⟩
  | d :: ds, cs, bs, vs, h, hs, r => by
    simp only [fzL] at h
    split at h
    · rename_i c' b' cs' bs'' h1 h2
      cases h
      cases vs with
      | nil => have := r.1; simp at this
      | cons v vs =>
        obtain ⟨x, hx, hr⟩ := r.2 0 d rfl
        simp at hx; subst hx
        have ih := fzL_ok hH n h2 (fun b hb => hs b (List.mem_append_right _ hb)) (vs := vs) ⟨by simpa using r.1, fun j d' hj => by simpa using r.2 (j + 1) d' (by simpa using hj)⟩
        refine ⟨by simpa using ih.1, fun j d' hj => ?_⟩
        cases j with
        | zero => simp at hj; subst hj; exact ⟨v, rfl, fz_ok hH n h1 (fun b hb => hs b (List.mem_append_left _ hb)) hr⟩
        | succ j => simpa using ih.2 j d' (by simpa using hj)
    · cases h

theorem toV1_ok (hH : HR k Bt F0 N φ w H S) {t : T} {v : V1} {bs : List Nat} {u : Value} (h : toV1 H t = some (v, bs)) (hs : ∀ b ∈ bs, b ∈ S) (r : RT k (Fo F0 φ H S) φ w t u) : RV k (Fo F0 φ H S) w v u := by
  unfold toV1 at h
  split at h
  · split at h
    · rename_i c bs' hf
      cases h
      exact fz_ok hH _ hf hs r
    · cases h
  · split at h
    · rename_i cs bs' hf
      cases h
      obtain ⟨vs, rfl, hsz, hr⟩ := r
      have := fzL_ok hH _ hf hs (vs := vs.toList) ⟨by simpa using hsz, fun j d hj => by simpa using hr j d hj⟩
      exact ⟨vs, rfl, by simpa using this.1, fun j d hj => by simpa using this.2 j d hj⟩
    · cases h
  · rename_i n ds
    split at h
    · rename_i cs bs' hf
      cases h
      obtain ⟨b, o, cap, rfl, hn, hF, _, hr⟩ := r
      have key : ∀ j : Nat, ∃ x, ∀ d, ds[j]? = some d → w.cell? ⟨b, o + j, none⟩ = some x ∧ RD k (Fo F0 φ H S) φ w d x := by
        intro j
        cases hj : ds[j]? with
        | none => exact ⟨undef, fun d hd => by cases hd⟩
        | some d =>
          obtain ⟨x, hx, hq⟩ := hr j d hj
          exact ⟨x, fun d' hd => by cases hd; exact ⟨hx, hq⟩⟩
      have hrl : RL k (Fo F0 φ H S) φ w ((List.range ds.length).map fun j => (key j).choose) ds := by
        refine ⟨by simp, fun j d hj => ?_⟩
        have hjl := (List.getElem?_eq_some_iff.1 hj).1
        exact ⟨(key j).choose, by simp [hjl], ((key j).choose_spec d hj).2⟩
      have := fzL_ok hH _ hf hs hrl
      refine RC.of_cs hn ⟨fun _ => hF, fun j c hj => ?_⟩
      obtain ⟨x, hx, hq⟩ := this.2 j (.c c) (by rw [List.getElem?_map, hj]; rfl)
      have hjl : j < ds.length := by
        have := (List.getElem?_eq_some_iff.1 hx).1
        simpa using this
      have e : ((List.range ds.length).map fun j => (key j).choose)[j]? = some (key j).choose := by simp [hjl]
      rw [e] at hx
      cases hx
      exact ⟨_, ((key j).choose_spec ds[j] (List.getElem?_eq_getElem hjl)).1, hq⟩
    · cases h
  · cases h

theorem toV1s_ok (hH : HR k Bt F0 N φ w H S) : ∀ {ts : List T} {vs : List V1} {bs : List Nat} {us : List Value}, toV1s H ts = some (vs, bs) → (∀ b ∈ bs, b ∈ S) → us.length = ts.length → (∀ (j : Nat) t, ts[j]? = some t → ∃ u, us[j]? = some u ∧ RT k (Fo F0 φ H S) φ w t u) →
    us.length = vs.length ∧ ∀ (j : Nat) v, vs[j]? = some v → ∃ u, us[j]? = some u ∧ RV k (Fo F0 φ H S) w v u
  | [], vs, bs, us, h, hs, hl, hr => by
    simp [toV1s] at h; obtain ⟨rfl, rfl⟩ := h
    exact ⟨by simpa using hl, fun j v hj => by simp at hj⟩
  | t :: ts, vs, bs, us, h, hs, hl, hr => by
    simp only [toV1s] at h
    split at h
    · rename_i v' b' vs' bs'' h1 h2
      cases h
      cases us with
      | nil => simp at hl
      | cons u us =>
        obtain ⟨x, hx, hr0⟩ := hr 0 t rfl
        simp at hx; subst hx
        have ih := toV1s_ok hH h2 (fun b hb => hs b (List.mem_append_right _ hb)) (us := us) (by simpa using hl) (fun j t' hj => by simpa using hr (j + 1) t' (by simpa using hj))
        refine ⟨by simpa using ih.1, fun j v hj => ?_⟩
        cases j with
        | zero => simp at hj; subst hj; exact ⟨u, rfl, toV1_ok hH h1 (fun b hb => hs b (List.mem_append_left _ hb)) hr0⟩
        | succ j => simpa using ih.2 j v (by simpa using hj)
    · cases h

/-! ### Contracts. -/
def toT : List V1 → T
  | [] => .nil
  | [r] => .t r.t1
  | l => .tup (l.map V1.t1)

def Callable (P : Program) (f : FuncId) : Prop := ∃ fn, P.funcs[f]? = some fn ∧ (fn.name == "runtime.NumGoroutine") = false ∧ fn.body.isNone = false
theorem run_callFunc {f : FuncId} (h : Callable P f) (args : Array Value) : (callFunc f args).run P w = .ok (.enter f args) w := by
  obtain ⟨fn, hfn, hname, hbody⟩ := h
  have n1 : fn.name ≠ "runtime.NumGoroutine" := by simpa using hname
  have n2 : fn.body ≠ none := by intro hb; simp [hb] at hbody
  simp [callFunc, hfn, n1, n2]

/-- What function f answers to values at a border. -/
def Con (P : Program) (k : Cls) (f : FuncId) (m : List V1 → Option (List V1)) : Prop :=
  Callable P f ∧
  ∀ as rs, m as = some rs → ∀ (F : Nat → Prop) (w : World) (vs : List Value), (∀ x, F x → x < w.heap.size ∧ ¬ limb w x) → vs.length = as.length → (∀ (j : Nat) a, as[j]? = some a → ∃ u, vs[j]? = some u ∧ RV k F w a u) →
    Calls P f vs.toArray w fun e w' => ∃ u, e = .returned u ∧ Ext w w' ∧ RT k F φ0 w' (toT rs) u

/-- Only own blocks have been written. -/
def Old (φ : Nat → Option Nat) (H : Hp) (S : List Nat) (w w' : World) : Prop :=
  ∀ x, x < w.heap.size → (∀ (b : Nat) y, H[b]? = some (some y) → b ∉ S → φ b ≠ some x) → w'.heap[x]? = w.heap[x]?
theorem Old.ext {φ : Nat → Option Nat} {H : Hp} {S : List Nat} {w w' : World} (h : Ext w w') : Old φ H S w w' := fun x hx _ => h.block x hx

/-- What comes behind an operation. -/
def Post (k : Cls) (Bt : Bodies) (F0 : Nat → Prop) (N : Nat) (φ : Nat → Option Nat) (w : World) (H : Hp) (S : List Nat) (H' : Hp) (S' : List Nat) (y : T) (u : Value) (w' : World) : Prop :=
  ∃ φ', Below N w w' ∧ HR k Bt F0 N φ' w' H' S' ∧ Kp (Fo F0 φ H S) φ w (Fo F0 φ' H' S') φ' w' ∧ RT k (Fo F0 φ' H' S') φ' w' y u ∧ (∀ c, c < H.length → φ' c = φ c) ∧ Old φ H S w w'

abbrev WFn := List T → Hp → List Nat → Option (T × Hp × List Nat)
/-- What function f does to memory that it shares with its caller. -/
def ConW (P : Program) (k : Cls) (Bt : Bodies) (f : FuncId) (m : WFn) : Prop :=
  Callable P f ∧
  ∀ as H S y H' S', m as H S = some (y, H', S') → ∀ (F0 : Nat → Prop) (N : Nat) (φ : Nat → Option Nat) (w : World) (vs : List Value), HR k Bt F0 N φ w H S → N ≤ w.heap.size → vs.length = as.length → (∀ (j : Nat) a, as[j]? = some a → ∃ u, vs[j]? = some u ∧ RT k (Fo F0 φ H S) φ w a u) →
    Calls P f vs.toArray w fun e w' => ∃ u, e = .returned u ∧ Post k Bt F0 N φ w H S H' S' y u w'

/-- Blocks that are no longer written may be put on the list at any time. -/
theorem Post.ext {bs : List Nat} {y : T} {u : Value} {w' : World} (hN : N ≤ w.heap.size) (hH : HR k Bt F0 N φ w H S) (hx : Ext w w') (hr : RT k (Fo F0 φ H (bs ++ S)) φ w' y u) : Post k Bt F0 N φ w H S H (bs ++ S) y u w' :=
  ⟨φ, Below.mono hx hN, (hH.shutB bs).ext hx, (Kp.shutB bs).trans (Kp.of_ext hx (fun _ _ h => h) (fun _ _ h => h)) (Nat.le_refl _), hr, fun _ _ => rfl, Old.ext hx⟩

theorem RT.of_nil {F : Nat → Prop} {rs : List V1} {u : Value} (h : RT k F φ0 w (toT rs) u) : RT k F φ w (toT rs) u := by
  have h1 : ∀ (r : V1) (u : Value), RT1 k F φ0 w r.t1 u → RT1 k F φ w r.t1 u := by
    intro r u h
    cases r with
    | one c => exact h
    | agg cs =>
      obtain ⟨vs, rfl, hs, hr⟩ := h
      refine ⟨vs, rfl, hs, fun j d hj => ?_⟩
      obtain ⟨x, hx, hd⟩ := hr j d hj
      refine ⟨x, hx, ?_⟩
      rw [List.getElem?_map, Option.map_eq_some_iff] at hj
      obtain ⟨c, _, rfl⟩ := hj
      exact hd
  unfold toT at h ⊢
  split at h
  · trivial
  · exact h1 _ _ h
  · obtain ⟨vs, rfl, hs, hr⟩ := h
    refine ⟨vs, rfl, hs, fun j d hj => ?_⟩
    obtain ⟨x, hx, hd⟩ := hr j d hj
    refine ⟨x, hx, ?_⟩
    rw [List.getElem?_map, Option.map_eq_some_iff] at hj
    obtain ⟨c, _, rfl⟩ := hj
    exact h1 _ _ hd

/-- A call over a border. -/
def callB (m : List V1 → Option (List V1)) (args : List T) (H : Hp) : Option (T × List Nat) :=
  match toV1s H args with
  | some (as, bs) => (m as).map fun rs => (toT rs, bs)
  | none => none
theorem callB_ok (hH : HR k Bt F0 N φ w H S) (hN : N ≤ w.heap.size) {g : FuncId} {m : List V1 → Option (List V1)} (hm : Con P k g m) {args : List T} {y : T} {bs : List Nat} {us : List Value} (h : callB m args H = some (y, bs))
    (hl : us.length = args.length) (hr : ∀ (j : Nat) t, args[j]? = some t → ∃ u, us[j]? = some u ∧ RT k (Fo F0 φ H S) φ w t u) :
    Calls P g us.toArray w fun e w' => ∃ u, e = .returned u ∧ Ext w w' ∧ RT k (Fo F0 φ H (bs ++ S)) φ w' y u := by
  unfold callB at h
  split at h
  · rename_i as bs' has
    simp only [Option.map_eq_some_iff, Prod.mk.injEq] at h
    obtain ⟨rs, hrs, rfl, rfl⟩ := h
    have hH' := hH.shutB bs'
    obtain ⟨h1, h2⟩ := toV1s_ok hH' has (fun b hb => List.mem_append_left _ hb) hl (fun j t hj => let ⟨u, hu, hq⟩ := hr j t hj; ⟨u, hu, RT.kp (Kp.shutB bs') hq⟩)
    refine (hm.2 as rs hrs (Fo F0 φ H (bs' ++ S)) w us (fun x hx => ⟨hH'.fo_lt hx, hH'.nolimb hx⟩) h1 h2).mono ?_
    rintro e w' ⟨u, rfl, hx, hr⟩
    exact ⟨u, rfl, hx, RT.of_nil hr⟩
  · cases h
end
end Go.Mach
namespace Go.Mach
open Go Go.RowKit Go.Flow
variable [Limb]

theorem one_of_cell {u : Value} (h : isCell u = true) : u.oneCell' = true := by cases u <;> first | rfl | simp [isCell] at h

section
variable {P : Program} {k : Cls} {Bt : Bodies} {F0 : Nat → Prop} {N : Nat} {φ : Nat → Option Nat} {w w' : World} {H : Hp} {S : List Nat}

theorem getElem?_push {α : Type} {l : List α} {a x : α} {b : Nat} : (l ++ [a])[b]? = some x ↔ l[b]? = some x ∨ (b = l.length ∧ a = x) := by
  rw [List.getElem?_append]
  split
  · rename_i h
    constructor
    · exact .inl
    · rintro (h1 | ⟨rfl, _⟩)
      · exact h1
      · omega
  · rename_i h
    rw [List.getElem?_singleton]
    constructor
    · intro h1
      split at h1
      · cases h1; exact .inr ⟨by omega, rfl⟩
      · cases h1
    · rintro (h1 | ⟨rfl, rfl⟩)
      · rw [List.getElem?_eq_none (by omega)] at h1; cases h1
      · simp

def bindφ (φ : Nat → Option Nat) (b x : Nat) : Nat → Option Nat := fun c => if c = b then some x else φ c
theorem bindφ_same {b x : Nat} : bindφ φ b x b = some x := by simp [bindφ]
theorem bindφ_other {b x c : Nat} (h : c ≠ b) : bindφ φ b x c = φ c := by simp [bindφ, h]
theorem bindφ_mono {b x : Nat} (hb : φ b = none) (c y : Nat) (h : φ c = some y) : bindφ φ b x c = some y := by
  unfold bindφ
  rw [if_neg (fun e => by rw [e, hb] at h; cases h)]
  exact h
theorem bindφ_some {b x c y : Nat} (h : bindφ φ b x c = some y) : (c = b ∧ y = x) ∨ (c ≠ b ∧ φ c = some y) := by
  unfold bindφ at h
  split at h
  · rename_i e; exact .inl ⟨e, (Option.some.inj h).symm⟩
  · rename_i e; exact .inr ⟨e, h⟩

theorem HR.grow (hH : HR k Bt F0 N φ w H S) (c : Option Blk) : HR k Bt F0 N φ w (H ++ [c]) S ∧ ∀ x, Fo F0 φ (H ++ [c]) S x ↔ Fo F0 φ H S x := by
  have get : ∀ (b : Nat) y x, (H ++ [c])[b]? = some (some y) → φ b = some x → H[b]? = some (some y) := by
    intro b y x h hx
    rw [getElem?_push] at h
    rcases h with h | ⟨rfl, _⟩
    · exact h
    · rw [hH.dom _ (Nat.le_refl _)] at hx; cases hx
  have hF : ∀ x, Fo F0 φ (H ++ [c]) S x ↔ Fo F0 φ H S x := by
    intro x
    constructor
    · rintro (h | ⟨b, y, hb, hs, hx⟩)
      · exact .inl h
      · exact .inr ⟨b, y, get b y x hb hx, hs, hx⟩
    · rintro (h | ⟨b, y, hb, hs, hx⟩)
      · exact .inl h
      · exact .inr ⟨b, y, getElem?_push.2 (.inl hb), hs, hx⟩
  have q : Kp (Fo F0 φ H S) φ w (Fo F0 φ (H ++ [c]) S) φ w := ⟨fun _ _ h => h, fun _ _ h => ⟨rfl, fun h' => h ((hF _).1 h')⟩, fun _ vs _ _ h => ⟨vs, h, rfl⟩⟩
  refine ⟨⟨fun b hb => hH.dom b (by simp at hb; omega), fun x h0 => ⟨(hH.f0 x h0).1, fun b y hb hφ => (hH.f0 x h0).2.1 b y (get b y x hb hφ) hφ, (hH.f0 x h0).2.2⟩, fun b b' y y' x h1 h2 h3 h4 => hH.inj b b' y y' x (get b y x h1 h3) (get b' y' x h2 h4) h3 h4, fun b y x hb hφ => ?_⟩, hF⟩
  obtain ⟨hN, hB⟩ := hH.at_ b y x (get b y x hb hφ) hφ
  exact ⟨hN, RB.kp q hB rfl⟩

/-- Blocks are given up. -/
theorem HR.kill (hH : HR k Bt F0 N φ w H S) {H1 : Hp} (hlen : H.length ≤ H1.length) (hsub : ∀ (b : Nat) y, H1[b]? = some (some y) → H[b]? = some (some y)) :
    HR k Bt F0 N φ w H1 S ∧ Kp (Fo F0 φ H S) φ w (Fo F0 φ H1 S) φ w := by
  have q : Kp (Fo F0 φ H S) φ w (Fo F0 φ H1 S) φ w := by
    refine ⟨fun _ _ h => h, fun x _ h => ⟨rfl, ?_⟩, fun _ vs _ _ h => ⟨vs, h, rfl⟩⟩
    rintro (h' | ⟨b, y, hb, hs, hx⟩)
    · exact h (.inl h')
    · exact h (.inr ⟨b, y, hsub b y hb, hs, hx⟩)
  refine ⟨⟨fun b hb => hH.dom b (by omega), fun x h0 => ⟨(hH.f0 x h0).1, fun b y hb => (hH.f0 x h0).2.1 b y (hsub b y hb), (hH.f0 x h0).2.2⟩, fun b b' y y' x h1 h2 => hH.inj b b' y y' x (hsub b y h1) (hsub b' y' h2), fun b y x hb hφ => ?_⟩, q⟩
  obtain ⟨hN, hB⟩ := hH.at_ b y x (hsub b y hb) hφ
  exact ⟨hN, RB.kp q hB rfl⟩

/-- A block gets its place. -/
theorem HR.bind (hH : HR k Bt F0 N φ w H S) {H1 : Hp} (hlen : H.length ≤ H1.length) {b x : Nat} (hb : φ b = none) {y0 : Blk} (hbd : H1[b]? = some (some y0))
    (hsub : ∀ (b' : Nat) y' z, φ b' = some z → H1[b']? = some (some y') → H[b']? = some (some y'))
    (hF0x : ∀ y, F0 y → y ≠ x) (hF0e : ∀ y, F0 y → w'.heap[y]? = w.heap[y]?) (hsz : w.heap.size ≤ w'.heap.size)
    (hx : ∀ (b' : Nat) y', H1[b']? = some (some y') → φ b' ≠ some x)
    (hold : ∀ (b' : Nat) y' z, H1[b']? = some (some y') → φ b' = some z → w'.heap[z]? = w.heap[z]?)
    (q : Kp (Fo F0 φ H S) φ w (Fo F0 (bindφ φ b x) H1 S) (bindφ φ b x) w')
    (hNx : N ≤ x) (hB : RB k Bt (Fo F0 (bindφ φ b x) H1 S) (bindφ φ b x) w' x y0) : HR k Bt F0 N (bindφ φ b x) w' H1 S := by
  have hbl : b < H1.length := (List.getElem?_eq_some_iff.1 hbd).1
  refine ⟨fun c hc => ?_, fun y hy => ?_, ?_, ?_⟩
  · unfold bindφ
    rw [if_neg (by omega)]
    exact hH.dom c (by omega)
  · obtain ⟨h1, h3, h4⟩ := hH.f0 y hy
    refine ⟨by omega, fun b' y' hb' hφ => ?_, limb_eq (hF0e y hy) h4⟩
    rcases bindφ_some hφ with ⟨_, e⟩ | ⟨_, hφ⟩
    · exact hF0x y hy e
    · exact h3 b' y' (hsub b' y' y hφ hb') hφ
  · intro b1 b2 e1 e2 y h1 h2 h3 h4
    rcases bindφ_some h3 with ⟨p1, q1⟩ | ⟨n1, h3⟩ <;> rcases bindφ_some h4 with ⟨p2, q2⟩ | ⟨n2, h4⟩
    · rw [p1, p2]
    · exact absurd (q1 ▸ h4) (hx b2 e2 h2)
    · exact absurd (q2 ▸ h3) (hx b1 e1 h1)
    · exact hH.inj b1 b2 e1 e2 y (hsub b1 e1 y h3 h1) (hsub b2 e2 y h4 h2) h3 h4
  · intro b1 e1 y h1 h2
    rcases bindφ_some h2 with ⟨p, e⟩ | ⟨n1, h2⟩
    · subst p; subst e
      rw [hbd] at h1; cases h1
      exact ⟨hNx, hB⟩
    · obtain ⟨hNy, hB'⟩ := hH.at_ b1 e1 y (hsub b1 e1 y h2 h1) h2
      exact ⟨hNy, RB.kp q hB' (hold b1 e1 y h1 h2)⟩

theorem Fo.of_bind {b x y : Nat} (h : Fo F0 (bindφ φ b x) H S y) : Fo F0 φ H S y ∨ y = x := by
  rcases h with h | ⟨c, z, hc, hs, hy⟩
  · exact .inl (.inl h)
  · rcases bindφ_some hy with ⟨_, e⟩ | ⟨_, hy⟩
    · exact .inr e
    · exact .inl (.inr ⟨c, z, hc, hs, hy⟩)

/-- A block that the world did not have. -/
theorem bind_new (hH : HR k Bt F0 N φ w H S) {b : Nat} (hb : φ b = none) {y0 : Blk} (hbd : H[b]? = some (some y0)) (hN : N ≤ w.heap.size) {x : Nat} (hxs : w.heap.size ≤ x) (hx : Ext w w')
    (hB : Kp (Fo F0 φ H S) φ w (Fo F0 (bindφ φ b x) H S) (bindφ φ b x) w' → RB k Bt (Fo F0 (bindφ φ b x) H S) (bindφ φ b x) w' x y0) :
    HR k Bt F0 N (bindφ φ b x) w' H S ∧ Kp (Fo F0 φ H S) φ w (Fo F0 (bindφ φ b x) H S) (bindφ φ b x) w' := by
  have q : Kp (Fo F0 φ H S) φ w (Fo F0 (bindφ φ b x) H S) (bindφ φ b x) w' :=
    Kp.of_ext hx (fun y hy hf hf' => by
      rcases Fo.of_bind hf' with h | h
      · exact hf h
      · omega) (bindφ_mono hb)
  refine ⟨hH.bind (Nat.le_refl _) hb hbd (fun _ _ _ _ h => h) (fun y hy e => by have := (hH.f0 y hy).1; omega) (fun y hy => hx.block y (hH.f0 y hy).1) hx.size ?_ ?_ q (by omega) (hB q), q⟩
  · intro b' es h1 h2
    have := (hH.lt h1 h2).1
    omega
  · intro b' es y h1 h2
    exact hx.block y (hH.lt h1 h2).1

theorem Kp.grow (hH : HR k Bt F0 N φ w H S) (c : Option Blk) : Kp (Fo F0 φ H S) φ w (Fo F0 φ (H ++ [c]) S) φ w :=
  ⟨fun _ _ h => h, fun _ _ h => ⟨rfl, fun h' => h (((hH.grow c).2 _).1 h')⟩, fun _ vs _ _ h => ⟨vs, h, rfl⟩⟩

/-- A further block that the world did not have; blocks of H that are left out of H1 are given up. -/
theorem push_blk (hH : HR k Bt F0 N φ w H S) {H1 : Hp} (hlen : H1.length = H.length) (hsub : ∀ (b : Nat) y, H1[b]? = some (some y) → H[b]? = some (some y)) (hN : N ≤ w.heap.size) {x : Nat} (hxs : w.heap.size ≤ x) (hx : Ext w w') {y0 : Blk}
    (hB : ∀ (F : Nat → Prop) (ψ : Nat → Option Nat), Kp (Fo F0 φ H S) φ w F ψ w' → RB k Bt F ψ w' x y0) :
    HR k Bt F0 N (bindφ φ H.length x) w' (H1 ++ [some y0]) S ∧ Kp (Fo F0 φ H S) φ w (Fo F0 (bindφ φ H.length x) (H1 ++ [some y0]) S) (bindφ φ H.length x) w' := by
  obtain ⟨g1, k1⟩ := hH.kill (Nat.le_of_eq hlen.symm) hsub
  have g2 := (g1.grow (some y0)).1
  have k2 := Kp.grow g1 (some y0)
  have k12 := k1.trans k2 (Nat.le_refl _)
  obtain ⟨g3, k3⟩ := bind_new g2 (hH.dom _ (Nat.le_refl _)) (getElem?_push.2 (.inr ⟨hlen.symm, rfl⟩)) hN hxs hx (fun q => hB _ _ (k12.trans q (Nat.le_refl _)))
  exact ⟨g3, k12.trans k3 (Nat.le_refl _)⟩

theorem push_new (hH : HR k Bt F0 N φ w H S) {H1 : Hp} (hlen : H1.length = H.length) (hsub : ∀ (b : Nat) y, H1[b]? = some (some y) → H[b]? = some (some y)) (hN : N ≤ w.heap.size) (hx : Ext w w')
    {vs : Array Value} {t : TypeId} {ds : List D} (ht : t ≠ Limb.u) (hb : w'.heap[w.heap.size]? = some (.cells vs t (0, 0))) (hl : ds.length ≤ vs.size)
    (hc : ∀ (j : Nat) d, ds[j]? = some d → ∃ u, vs[j]? = some u ∧ RD k (Fo F0 φ H S) φ w d u) :
    HR k Bt F0 N (bindφ φ H.length w.heap.size) w' (H1 ++ [some (.cells ds)]) S ∧ Kp (Fo F0 φ H S) φ w (Fo F0 (bindφ φ H.length w.heap.size) (H1 ++ [some (.cells ds)]) S) (bindφ φ H.length w.heap.size) w' :=
  push_blk hH hlen hsub hN (Nat.le_refl _) hx fun F ψ q => ⟨vs, t, hb, hl, fun j d hj => let ⟨u, hu, hr⟩ := hc j d hj; ⟨u, hu, RD.kp q hr⟩, ht⟩

/-- A block is written whose place in the world is turned alone. -/
theorem HR.turn (hH : HR k Bt F0 N φ w H S) {b x : Nat} {y y' : Blk} (hb : H[b]? = some (some y)) (hs : b ∉ S) (hx : (φ b) = some x)
    (hsz : w'.heap.size = w.heap.size) (oth : ∀ z, z ≠ x → w'.heap[z]? = w.heap[z]?)
    (hcl : ∀ vs t fr, w.heap[x]? = some (.cells vs t fr) → ∃ vs', w'.heap[x]? = some (.cells vs' t fr) ∧ vs'.size = vs.size)
    (hB : Kp (Fo F0 φ H S) φ w (Fo F0 φ (H.set b (some y')) S) φ w' → RB k Bt (Fo F0 φ (H.set b (some y')) S) φ w' x y') :
    HR k Bt F0 N φ w' (H.set b (some y')) S ∧ Kp (Fo F0 φ H S) φ w (Fo F0 φ (H.set b (some y')) S) φ w' := by
  have hbl : b < H.length := (List.getElem?_eq_some_iff.1 hb).1
  have get : ∀ (b' : Nat) e, (H.set b (some y'))[b']? = some (some e) → (b' = b ∧ e = y') ∨ (b' ≠ b ∧ H[b']? = some (some e)) := by
    intro b' e h
    rw [List.getElem?_set] at h
    split at h
    · rename_i he
      cases h
      exact .inl ⟨he.symm, rfl⟩
    · rename_i he
      exact .inr ⟨fun e => he e.symm, h⟩
  have hFx : Fo F0 φ H S x := .inr ⟨b, y, hb, hs, hx⟩
  have hF : ∀ z, Fo F0 φ (H.set b (some y')) S z → Fo F0 φ H S z := by
    rintro z (h | ⟨b', e, h1, h2, h3⟩)
    · exact .inl h
    · rcases get b' e h1 with ⟨rfl, rfl⟩ | ⟨_, h1⟩
      · exact .inr ⟨b', y, hb, h2, h3⟩
      · exact .inr ⟨b', e, h1, h2, h3⟩
  have hxN := (hH.lt hb hx).2
  have q : Kp (Fo F0 φ H S) φ w (Fo F0 φ (H.set b (some y')) S) φ w' := by
    refine ⟨fun _ _ h => h, fun z hz hf => ?_, fun z vs' t' fr h => ?_⟩
    · have : z ≠ x := fun e => hf (e ▸ hFx)
      exact ⟨oth z this, fun h => hf (hF z h)⟩
    · by_cases hzx : z = x
      · subst hzx; exact hcl vs' t' fr h
      · exact ⟨vs', by rw [oth z hzx]; exact h, rfl⟩
  refine ⟨⟨fun c hc => hH.dom c (by simpa using hc), fun z hz => ?_, ?_, ?_⟩, q⟩
  · obtain ⟨h1, h3, h4⟩ := hH.f0 z hz
    refine ⟨by omega, fun b' e hb' hφ => ?_, limb_eq (oth z fun e => h3 b y hb (e ▸ hx)) h4⟩
    rcases get b' e hb' with ⟨e1, _⟩ | ⟨_, h⟩
    · exact h3 b y hb (e1 ▸ hφ)
    · exact h3 b' e h hφ
  · intro b1 b2 e1 e2 z h1 h2 h3 h4
    have g : ∀ (b' : Nat) e, (H.set b (some y'))[b']? = some (some e) → ∃ e', H[b']? = some (some e') := by
      intro b' e h
      rcases get b' e h with ⟨rfl, _⟩ | ⟨_, h⟩
      · exact ⟨y, hb⟩
      · exact ⟨e, h⟩
    obtain ⟨q1, g1⟩ := g b1 e1 h1
    obtain ⟨q2, g2⟩ := g b2 e2 h2
    exact hH.inj b1 b2 q1 q2 z g1 g2 h3 h4
  · intro b' e z h hz
    rcases get b' e h with ⟨rfl, rfl⟩ | ⟨hne, h⟩
    · rw [hx] at hz; cases hz
      exact ⟨hxN, hB q⟩
    · obtain ⟨hNz, hB'⟩ := hH.at_ b' e z h hz
      exact ⟨hNz, RB.kp q hB' (oth z fun ez => hne (hH.inj b' b e y x h hb (ez ▸ hz) hx))⟩

/-- Cells are written. -/
theorem HR.store (hH : HR k Bt F0 N φ w H S) {b x : Nat} {es ds : List D} (hb : H[b]? = some (some (.cells es))) (hs : b ∉ S) (hx : (φ b) = some x) {cur vs : Array Value} {t : TypeId} (hcur : w.heap[x]? = some (.cells cur t (0, 0)))
    (hsz : vs.size = cur.size) (hl : ds.length ≤ vs.size) (hc : ∀ (j : Nat) d, ds[j]? = some d → ∃ u, vs[j]? = some u ∧ RD k (Fo F0 φ H S) φ w d u) :
    HR k Bt F0 N φ (w.setRow x vs) (H.set b (some (.cells ds))) S ∧ Kp (Fo F0 φ H S) φ w (Fo F0 φ (H.set b (some (.cells ds))) S) φ (w.setRow x vs) :=
  hH.turn hb hs hx (by simp) (fun z hz => setRow_other w x z vs hz)
    (fun vs' t' fr h => by rw [hcur] at h; cases h; exact ⟨vs, setRow_heap w x cur vs t _ hcur, hsz⟩)
    (fun q => ⟨vs, t, setRow_heap w x cur vs t _ hcur, hl, fun j d hj => let ⟨u, hu, hr⟩ := hc j d hj; ⟨u, hu, RD.kp q hr⟩, by
      obtain ⟨_, vs0, t0, hw0, _, _, ht0⟩ := hH.at_ b _ x hb hx
      rw [hcur] at hw0
      cases hw0
      exact ht0⟩)

/-- Cells that are written one behind the other. -/
theorem seg_ok (hH : HR k Bt F0 N φ w H S) (hN : N ≤ w.heap.size) {b o y : Nat} {es ds : List D} {us : List Value} (hb : H[b]? = some (some (.cells es))) (h3 : b ∉ S) (hy : φ b = some y) (hx : RL k (Fo F0 φ H S) φ w us ds) (h2 : o + ds.length ≤ es.length) :
    ∃ w', (storeCells ⟨y, o, none⟩ us).run P w = .ok () w' ∧ Below N w w' ∧ HR k Bt F0 N φ w' (H.set b (some (.cells (es.take o ++ ds ++ es.drop (o + ds.length))))) S ∧ Kp (Fo F0 φ H S) φ w (Fo F0 φ (H.set b (some (.cells (es.take o ++ ds ++ es.drop (o + ds.length))))) S) φ w' ∧ Old φ H S w w' := by
  obtain ⟨hNy, cur, tt, hw, hl, hcc, _⟩ := hH.at_ b _ y hb hy
  have e1 := hx.1
  have hst := run_storeCells_at P y o tt us 0 cur w hw (by omega) (fun v hv => one_of_cell (hx.isCell v hv))
  simp only [Nat.add_zero] at hst
  have hset : RL k (Fo F0 φ H S) φ w (cur.toList.take es.length) es := by
    refine ⟨by simp; omega, fun j d hj => ?_⟩
    obtain ⟨u, hu, hr⟩ := hcc j d hj
    have hjl := (List.getElem?_eq_some_iff.1 hj).1
    exact ⟨u, by rw [List.getElem?_take, if_pos hjl]; simpa using hu, hr⟩
  have hnew := hset.set hx o (by simp; omega)
  have key : ∀ j : Nat, j < es.length → (cur.toList.take o ++ us ++ cur.toList.drop (o + us.length))[j]? = (List.take o (cur.toList.take es.length) ++ us ++ List.drop (o + us.length) (cur.toList.take es.length))[j]? := by
    intro j hj
    simp only [List.getElem?_append, List.getElem?_take, List.getElem?_drop, List.length_append, List.length_take, Array.length_toList]
    rw [Nat.min_eq_left (show o ≤ cur.size by omega), Nat.min_eq_left (show es.length ≤ cur.size by omega), Nat.min_eq_left (show o ≤ es.length by omega)]
    split
    · split
      · first | rfl | rw [if_pos hj]
      · rfl
    · rename_i hge
      first | rw [if_pos (by omega)] | rfl
  have hvsz : (cur.toList.take o ++ us ++ cur.toList.drop (o + us.length)).toArray.size = cur.size := by
    simp; omega
  obtain ⟨g1, g2⟩ := hH.store (ds := es.take o ++ ds ++ es.drop (o + ds.length)) hb h3 hy hw hvsz (by rw [hvsz]; simp; omega) (fun j d hj => by
    obtain ⟨u, hu, hr⟩ := hnew.2 j d hj
    have hjl : j < es.length := by
      have := (List.getElem?_eq_some_iff.1 hj).1
      simp at this; omega
    refine ⟨u, ?_, hr⟩
    rw [List.getElem?_toArray, key j hjl]
    exact hu)
  exact ⟨_, hst, ⟨rfl, rfl, rfl, by simp, fun k hk => setRow_other w y k _ (by omega)⟩, g1, g2, fun z _ hz => setRow_other w y z _ fun e => hz b _ hb h3 (e ▸ hy)⟩

def setSeg (es : List D) (o : Nat) (ds : List D) : List D := es.take o ++ ds ++ es.drop (o + ds.length)

def evStore (n : Nat) (H : Hp) (S : List Nat) (a x : T) : Option Hp :=
  match a, cellsT x with
  | .t (.one (.ptr b o)), some ds =>
    match H[b]? with
    | some (some (.cells es)) => if ds.length = n ∧ o + n ≤ es.length ∧ b ∉ S then some (H.set b (some (.cells (setSeg es o ds)))) else none
    | _ => none
  | _, _ => none

theorem evStore_ok (hH : HR k Bt F0 N φ w H S) (hN : N ≤ w.heap.size) {t : TypeId} {n : Nat} (hn : szC P t = some n) {a x : T} {H' : Hp} {ua ux : Value} (h : evStore n H S a x = some H') (ra : RT k (Fo F0 φ H S) φ w a ua) (rx : RT k (Fo F0 φ H S) φ w x ux) :
    ∃ w', (Instr.storeAt t ua ux).run P w = .ok () w' ∧ Below N w w' ∧ HR k Bt F0 N φ w' H' S ∧ Kp (Fo F0 φ H S) φ w (Fo F0 φ H' S) φ w' ∧ Old φ H S w w' := by
  unfold evStore at h
  split at h
  · rename_i b o ds hds
    split at h
    · rename_i es hb
      split at h
      · rename_i hc
        obtain ⟨h1, h2, h3⟩ := hc
        cases h
        obtain ⟨y, hy, rfl⟩ := ra
        have hx := cellsT_ok hds rx
        obtain ⟨w', g1, g2, g3, g4, g5⟩ := seg_ok (P := P) hH hN (o := o) hb h3 hy hx (by omega)
        have hsz : ux.cells.size = n := by have := hx.1; simpa [← h1] using this
        refine ⟨w', ?_, g2, g3, g4, g5⟩
        simp [Instr.storeAt, Instr.sureAddr, storeVar, hsz, run_sizeOf hn, g1]
      · cases h
    · cases h
  · cases h

/-- A new variable. -/
def evNew (H : Hp) (ds : List D) : T × Hp := (.t (.one (.ptr H.length 0)), H ++ [some (.cells ds)])

theorem newVar_ok (hH : HR k Bt F0 N φ w H S) (hN : N ≤ w.heap.size) {t : TypeId} (ht : t ≠ Limb.u) {ds : List D} {v : Value} (hr : RL k (Fo F0 φ H S) φ w v.cells.toList ds) :
    ∃ u w', (newVar t v).run P w = .ok ⟨u, 0, none⟩ w' ∧ Post k Bt F0 N φ w H S (evNew H ds).2 S (evNew H ds).1 (.pointer (some ⟨u, 0, none⟩)) w' := by
  have hx : Ext w (w.alloc (.cells v.cells t)) := ext_alloc _
  obtain ⟨g1, g2⟩ := push_new hH rfl (fun _ _ h => h) hN hx ht (alloc_at w (.cells v.cells t)) (ds := ds) (by have := hr.1; simp at this; omega) (fun j d hj => by simpa using hr.2 j d hj)
  exact ⟨w.heap.size, _, by simp [newVar, newRow], _, Below.mono hx hN, g1, g2, ⟨w.heap.size, bindφ_same, rfl⟩, fun c hc => bindφ_other (by omega), Old.ext hx⟩
end
end Go.Mach
