/-
  The machine, second part: operations, regions, code, functions, calls.
-/
import Derived.Test.YtcejidongpkpoaaGreatA1
import Derived.Lib.AppendZerosOnto
import Derived.RangeFuncRecord
import Derived.Laws.IdiomRangeMap
import Derived.TacticsIn
import Derived.Scope
import Derived.RangeFuncNested
set_option linter.all false
set_option linter.unusedSectionVars false
set_option linter.constructorNameAsVariable false
namespace Go.Mach
open Go Go.RowKit Go.Flow
variable [Limb]

section
variable {P : Program} {k : Cls} {Bt : Bodies} {F0 : Nat → Prop} {N : Nat} {φ : Nat → Option Nat} {w w' : World} {H : Hp} {S : List Nat}

/-- Cells that lie somewhere, as a list. -/
theorem row_list {F : Nat → Prop} {b o : Nat} {es : List D} (h : ∀ (j : Nat) d, es[j]? = some d → ∃ x, w.cell? ⟨b, o + j, none⟩ = some x ∧ RD k F φ w d x) :
    ∃ l : List Value, RL k F φ w l es ∧ ∀ (j : Nat) v, l[j]? = some v → w.cell? ((⟨b, o, none⟩ : Addr).add j) = some v := by
  have key : ∀ j, ∃ z, ∀ d, es[j]? = some d → w.cell? ⟨b, o + j, none⟩ = some z ∧ RD k F φ w d z := by
    intro j
    cases hj : es[j]? with
    | none => exact ⟨undef, fun c hc => by cases hc⟩
    | some c =>
      obtain ⟨z, hz, hr⟩ := h j c hj
      exact ⟨z, fun c' hc' => by cases hc'; exact ⟨hz, hr⟩⟩
  refine ⟨(List.range es.length).map fun j => (key j).choose, ⟨by simp, fun j d hj => ?_⟩, fun j v hj => ?_⟩
  · have hl := (List.getElem?_eq_some_iff.1 hj).1
    exact ⟨(key j).choose, by simp [hl], ((key j).choose_spec d hj).2⟩
  · rw [addr_add]
    simp only [List.getElem?_map, Option.map_eq_some_iff] at hj
    obtain ⟨i, hi, rfl⟩ := hj
    have hlt : j < es.length := by simpa using (List.getElem?_eq_some_iff.1 hi).1
    have hkj : i = j := by rw [List.getElem?_range hlt] at hi; exact (Option.some.inj hi).symm
    subst hkj
    exact ((key i).choose_spec es[i] (List.getElem?_eq_getElem hlt)).1

def rowOf (H : Hp) (sz : Nat) : T → Option (Nat × List D)
  | .t (.one (.lsl b o n s)) =>
    match H[b]? with
    | some (some (.cells ds)) => if s = sz ∧ o + n * s ≤ ds.length then some (n, (ds.drop o).take (n * s)) else none
    | _ => none
  | .t (.one d) => (match slOf d with | some (n, cs) => if cs.length = n * sz then some (n, cs.map .c) else none | none => none)
  | .row n ds => if ds.length = n * sz then some (n, ds) else none
  | _ => none

theorem rowOf_ok (hH : HR k Bt F0 N φ w H S) {sz m : Nat} {x : T} {es : List D} {u : Value} (h : rowOf H sz x = some (m, es)) (r : RT k (Fo F0 φ H S) φ w x u) :
    ∃ A c, u = .slice A m c ∧ es.length = m * sz ∧ (0 < m → ∃ b o, A = some ⟨b, o, none⟩ ∧ ∀ (j : Nat) d, es[j]? = some d → ∃ x, w.cell? ⟨b, o + j, none⟩ = some x ∧ RD k (Fo F0 φ H S) φ w d x) := by
  unfold rowOf at h
  split at h
  · rename_i b o n s
    split at h
    · rename_i ds hb
      split at h
      · rename_i hc
        obtain ⟨rfl, hle⟩ := hc
        cases h
        obtain ⟨y, cap, hy, rfl, _⟩ := r
        obtain ⟨_, vs, tt, hw, hl, hcc, _⟩ := hH.at_ b _ y hb hy
        refine ⟨_, _, rfl, by simp; omega, fun _ => ⟨y, o, rfl, fun j d hj => ?_⟩⟩
        rw [List.getElem?_take] at hj
        split at hj
        · rw [List.getElem?_drop] at hj
          obtain ⟨u, hu, hr⟩ := hcc (o + j) d hj
          exact ⟨u, by simp [World.cell?, hw, hu], hr⟩
        · cases hj
      · cases h
    · cases h
  · rename_i d _
    split at h
    · rename_i n cs hd
      split at h
      · rename_i hle
        cases h
        obtain ⟨A, c, rfl, hr, _⟩ := slOf_ok hd r
        refine ⟨A, c, rfl, by simpa using hle, fun hm => ?_⟩
        cases hr with
        | nil => omega
        | sl _ _ b o _ f hn hF hcc hrr =>
          refine ⟨b, o, rfl, fun j d hj => ?_⟩
          rw [List.getElem?_map, Option.map_eq_some_iff] at hj
          obtain ⟨c', hc', rfl⟩ := hj
          exact ⟨f j, hcc j c' hc', hrr j c' hc'⟩
      · cases h
    · cases h
  · rename_i n ds
    split at h
    · rename_i hle
      cases h
      obtain ⟨b, o, cap, rfl, hn, _, _, hr⟩ := r
      exact ⟨_, cap, rfl, hle, fun _ => ⟨b, o, rfl, hr⟩⟩
    · cases h
  · cases h

theorem run_room (t ty e t' : TypeId) (i : TypeInfo) (ht : P.underlying t = some (.slice e)) (hi : P.info? e = some i)
    (g sLen sCap : Nat) (cur : Array Value) (hg : w.heap[g]? = some (.cells cur t' (0, 0)))
    (a : Addr) (m c : Nat) (news : List Value) (hl : news.length = m * i.size) (hnews : ∀ (j : Nat) u, news[j]? = some u → w.cell? (a.add j) = some u) (h1 : ∀ u ∈ news, u.oneCell' = true)
    (hroom : sLen + m ≤ sCap) (hfit : sLen * i.size + news.length ≤ cur.size) :
    (Builtin.append_ #[t, t] ty #[.slice (some ⟨g, 0, none⟩) sLen sCap, .slice (some a) m c]).run P w =
      .ok (.slice (some ⟨g, 0, none⟩) (sLen + m) sCap) (w.setRow g (cur.toList.take (sLen * i.size) ++ news ++ cur.toList.drop (sLen * i.size + news.length)).toArray) := by
  have hf := run_firstCells_some (P := P) w i.size m a m c news hl hnews
  have hst := run_storeCells_at P g (sLen * i.size) t' news 0 cur w hg (by simpa using hfit) h1
  simp only [Nat.add_zero] at hst
  simp [Builtin.append_, run_underlying ht, sizeOf, typeInfo, hi, Builtin.lenOf, hroom, hf, Addr.add_lit, hst]

/-- An element type as what grows wants it. -/
def EgOk (P : Program) (e : TypeId) (s bytes : Nat) : Prop := ∃ (i : TypeInfo) (z : Value), P.info? e = some i ∧ i.zero = some z ∧ i.size = s ∧ i.bytes = bytes ∧ 0 < s ∧ z.cells.size = s ∧ e ≠ Limb.u

def evAppend (s bytes : Nat) (H : Hp) (S : List Nat) (d x : T) : Option (T × Hp) :=
  match rowOf H s x with
  | some (m, es) =>
    if m = 0 then (match d with | .t (.one (.lsl b o n s')) => some (.t (.one (.lsl b o n s')), H) | .t (.one d) => (if (slOf d).isSome then some (.t (.one d), H) else none) | _ => none) else
    if m ≤ 2 ^ 30 ∧ m * bytes ≤ 2 ^ 46 then
      match d with
      | .t (.one (.c (.v (.slice none 0 0)))) => some (.t (.one (.lsl H.length 0 m s)), H ++ [some (.cells es)])
      | .t (.one .z0) => some (.t (.one (.lsl H.length 0 m s)), H ++ [some (.cells es)])
      | .t (.one (.lsl b 0 n s')) =>
        (match H[b]? with
         | some (some (.cells ds)) => if s' = s ∧ n * s' ≤ ds.length ∧ b ∉ S ∧ n + m ≤ 2 ^ 30 ∧ (n + m) * bytes ≤ 2 ^ 46 then some (.t (.one (.lsl H.length 0 (n + m) s)), H.set b none ++ [some (.cells (ds.take (n * s') ++ es))]) else none
         | _ => none)
      | _ => none
    else none
  | none => none

/-- A row that has grown. -/
theorem grown_ok (hH : HR k Bt F0 N φ w H S) {H1 : Hp} (hlen : H1.length = H.length) (hsub : ∀ (b : Nat) y, H1[b]? = some (some y) → H[b]? = some (some y)) (hN : N ≤ w.heap.size) {e : TypeId} (hte : e ≠ Limb.u) {z : Array Value} {m s cap : Nat} {l : List Value} {ds : List D}
    (hl : RL k (Fo F0 φ H S) φ w l ds) (hk : l.length = m * s) (hz : z.size = s) (hcap : m ≤ cap) :
    Post k Bt F0 N φ w H S (H1 ++ [some (.cells ds)]) S (.t (.one (.lsl H.length 0 m s))) (.slice (some ⟨w.heap.size, 0, none⟩) m cap) (w.drew.alloc (.cells (l.toArray ++ Builtin.zeroCells z (cap - m)) e)) := by
  have hx : Ext w (w.drew.alloc (.cells (l.toArray ++ Builtin.zeroCells z (cap - m)) e)) := Below.alloc (Below.drew (Below.refl _ _)) (Nat.le_refl _) _
  have hb : (w.drew.alloc (.cells (l.toArray ++ Builtin.zeroCells z (cap - m)) e)).heap[w.heap.size]? = some (.cells (l.toArray ++ Builtin.zeroCells z (cap - m)) e (0, 0)) := alloc_at w.drew _
  have e1 := hl.1
  obtain ⟨g1, g2⟩ := push_new hH hlen hsub hN hx hte hb (ds := ds) (by simp; omega) (fun j d hj => by
    obtain ⟨u, hu, hr⟩ := hl.2 j d hj
    have hjl := (List.getElem?_eq_some_iff.1 hu).1
    refine ⟨u, ?_, hr⟩
    rw [Array.getElem?_append_left (by simpa using hjl)]
    simpa using hu)
  refine ⟨_, Below.mono hx hN, g1, g2, ⟨w.heap.size, cap, bindφ_same, rfl, hcap, _, _, _, hb, ?_⟩, fun c hc => bindφ_other (by omega), Old.ext hx⟩
  simp only [Array.size_append, List.size_toArray, size_zeroCells, hk, hz, Nat.zero_add, ← Nat.add_mul]
  apply Nat.mul_le_mul_right
  omega

theorem Post.same (hH : HR k Bt F0 N φ w H S) {y : T} {u : Value} (hr : RT k (Fo F0 φ H S) φ w y u) : Post k Bt F0 N φ w H S H S y u w :=
  ⟨φ, Below.refl _ _, hH, Kp.refl, hr, fun _ _ => rfl, Old.ext (Ext.refl _)⟩

theorem evAppend_ok (hH : HR k Bt F0 N φ w H S) (hN : N ≤ w.heap.size) {t ty e : TypeId} {sz bytes : Nat} (hu : P.underlying t = some (.slice e)) (he : EgOk P e sz bytes) {s x y : T} {H' : Hp} {us ux : Value} (h : evAppend sz bytes H S s x = some (y, H')) (rs : RT k (Fo F0 φ H S) φ w s us) (rx : RT k (Fo F0 φ H S) φ w x ux) :
    ∃ u w', (Builtin.append_ #[t, t] ty #[us, ux]).run P w = .ok u w' ∧ Post k Bt F0 N φ w H S H' S y u w' := by
  obtain ⟨i, z, hi, hz, rfl, rfl, hsz, hzs, hte⟩ := he
  unfold evAppend at h
  split at h
  · rename_i m es hrow
    split at h
    · rename_i hm0
      subst hm0
      obtain ⟨A, c, rfl, hel, _⟩ := rowOf_ok hH hrow rx
      have hkey : ∀ (B : Option Addr) (n cap : Nat), us = .slice B n cap → n ≤ cap → (Builtin.append_ #[t, t] ty #[us, .slice A 0 c]).run P w = .ok us w := by
        rintro B n cap rfl hle
        cases A <;> cases B <;> simp [Builtin.append_, run_underlying hu, sizeOf, typeInfo, hi, Builtin.lenOf, hle, Builtin.firstCells, loadCells, loadCellsFrom, storeCells]
      split at h
      · cases h
        have rs' := rs
        obtain ⟨q, cap, hq, hus, hle, _⟩ := rs
        exact ⟨us, w, hkey _ _ _ hus hle, Post.same hH rs'⟩
      · rename_i d _
        split at h
        · rename_i hsl
          cases h
          obtain ⟨⟨n, cs⟩, hd⟩ := Option.isSome_iff_exists.1 hsl
          obtain ⟨B, cap, hus, _, hle⟩ := slOf_ok hd rs
          exact ⟨us, w, hkey _ _ _ hus hle, Post.same hH rs⟩
        · cases h
      · cases h
    rename_i hm0
    have hm : 0 < m := by omega
    split at h
    · rename_i hb
      obtain ⟨A, c, rfl, hel, hA⟩ := rowOf_ok hH hrow rx
      obtain ⟨xb, xo, rfl, hcells⟩ := hA hm
      obtain ⟨news, hnews, hnc⟩ := row_list hcells
      have hnl : news.length = m * i.size := by rw [hnews.1, hel]
      have hnil : ∀ {ty}, ∃ u w', (Builtin.append_ #[t, t] ty #[.slice none 0 0, .slice (some ⟨xb, xo, none⟩) m c]).run P w = .ok u w' ∧ Post k Bt F0 N φ w H S (H ++ [some (.cells es)]) S (.t (.one (.lsl H.length 0 m i.size))) u w' := by
        intro ty
        have hr := run_append_nil (P := P) w t ty e i z hu hi hz ⟨xb, xo, none⟩ m c news hnl hnc hm (by omega) (by omega)
        exact ⟨_, _, hr, grown_ok hH (H1 := H) rfl (fun _ _ h => h) hN hte (z := z.cells) hnews hnl hzs (grownCap_ge w m 0 e)⟩
      split at h
      · cases h
        have rs' : RC k (Fo F0 φ H S) w (.v (.slice none 0 0)) us := rs
        cases rs' with
        | v _ _ => exact hnil
      · cases h
        obtain ⟨B, rfl⟩ := rs
        cases B with
        | none => exact hnil
        | some a =>
          have hr := run_append_grow (P := P) w t ty e i z hu hi hz a 0 0 [] (by simp) (fun j v hj => by simp at hj) ⟨xb, xo, none⟩ m c news hnl hnc (by omega) (by omega) (growslice_fits (by omega) (by rw [Nat.zero_add]; omega))
          have hg := grown_ok hH (H1 := H) rfl (fun _ _ h => h) hN (e := e) hte (z := z.cells) (cap := grownCap w (0 + m) 0 e) hnews hnl hzs (by have := grownCap_ge w (0 + m) 0 e; omega)
          simp only [Nat.zero_add, List.nil_append] at hr hg
          refine ⟨_, _, hr, ?_⟩
          have e0 : (([] : List Value).toArray ++ news.toArray) = news.toArray := by simp
          rw [e0]
          exact hg
      · rename_i b n s'
        split at h
        · rename_i ds hb'
          split at h
          · rename_i hc
            obtain ⟨rfl, hle, hbS, h30, h46⟩ := hc
            cases h
            obtain ⟨y, cap, hy, rfl, hncap, vs0, t0, fr0, hw0, hfit⟩ := rs
            obtain ⟨hNy, cur, tt, hw, hl, hcc, htt⟩ := hH.at_ b _ y hb' hy
            rw [hw] at hw0
            simp only [Option.some.injEq, Obj.cells.injEq] at hw0
            obtain ⟨ecur, _, _⟩ := hw0
            rw [← ecur] at hfit
            clear ecur
            have hbl : b < H.length := (List.getElem?_eq_some_iff.1 hb').1
            have hlen : (H.set b none).length = H.length := by simp
            have hsub : ∀ (b' : Nat) y', (H.set b none)[b']? = some (some y') → H[b']? = some (some y') := by
              intro b' ds' h
              rw [List.getElem?_set] at h
              split at h
              · cases h
              · exact h
            have hne : ∀ (b' : Nat) y', (H.set b none)[b']? = some (some y') → b' ≠ b := by
              intro b' ds' h e
              subst e
              rw [List.getElem?_set, if_pos rfl] at h
              simp at h
            have holdL : RL k (Fo F0 φ H S) φ w (cur.toList.take (n * i.size)) (ds.take (n * i.size)) := by
              refine ⟨by simp; omega, fun j d hj => ?_⟩
              rw [List.getElem?_take] at hj ⊢
              split at hj
              · rename_i hjn
                obtain ⟨u, hu', hr⟩ := hcc j d hj
                exact ⟨u, by rw [if_pos hjn]; simpa using hu', hr⟩
              · cases hj
            have hallL : RL k (Fo F0 φ H S) φ w (cur.toList.take (n * i.size) ++ news) (ds.take (n * i.size) ++ es) := by
              refine ⟨by rw [List.length_append, List.length_append, holdL.1, hnews.1], fun j d hj => ?_⟩
              rw [List.getElem?_append] at hj ⊢
              rw [← holdL.1] at hj
              split at hj
              · rename_i h1; rw [if_pos h1]; exact holdL.2 j d hj
              · rename_i h1; rw [if_neg h1]; exact hnews.2 _ d hj
            have hollen : (cur.toList.take (n * i.size)).length = n * i.size := by rw [holdL.1]; simp; omega
            have hallen : (cur.toList.take (n * i.size) ++ news).length = (n + m) * i.size := by rw [List.length_append, hollen, hnl, Nat.add_mul]
            by_cases hroom : n + m ≤ cap
            · have hmul : (n + m) * i.size ≤ cap * i.size := Nat.mul_le_mul_right _ hroom
              have hfit' : n * i.size + news.length ≤ cur.size := by rw [hnl, ← Nat.add_mul]; omega
              have hr := run_room (P := P) (w := w) t ty e tt i hu hi y n cap cur hw ⟨xb, xo, none⟩ m c news hnl hnc (fun u hu => one_of_cell (hnews.isCell u hu)) hroom hfit'
              have hvsz : (cur.toList.take (n * i.size) ++ news ++ cur.toList.drop (n * i.size + news.length)).toArray.size = cur.size := by
                simp; omega
              have hFy : Fo F0 φ H S y := .inr ⟨b, _, hb', hbS, hy⟩
              have oth : ∀ q, q ≠ y → (w.setRow y (cur.toList.take (n * i.size) ++ news ++ cur.toList.drop (n * i.size + news.length)).toArray).heap[q]? = w.heap[q]? := fun q hq => setRow_other w y q _ hq
              obtain ⟨g1, k1⟩ := hH.kill (Nat.le_of_eq hlen.symm) hsub
              have g2 := (g1.grow (some (.cells (ds.take (n * i.size) ++ es)))).1
              have k2 := Kp.grow g1 (some (.cells (ds.take (n * i.size) ++ es)))
              have k12 := k1.trans k2 (Nat.le_refl _)
              have hφn : φ H.length = none := hH.dom _ (Nat.le_refl _)
              have k3 : Kp (Fo F0 φ H S) φ w (Fo F0 (bindφ φ H.length y) (H.set b none ++ [some (.cells (ds.take (n * i.size) ++ es))]) S) (bindφ φ H.length y) (w.setRow y (cur.toList.take (n * i.size) ++ news ++ cur.toList.drop (n * i.size + news.length)).toArray) := by
                refine ⟨bindφ_mono hφn, fun q hq hf => ?_, fun q vs' t' fr h => ?_⟩
                · have : q ≠ y := fun e => hf (e ▸ hFy)
                  refine ⟨oth q this, fun h => ?_⟩
                  rcases Fo.of_bind h with h | h
                  · exact (k12.keep q hq hf).2 h
                  · exact this h
                · by_cases hqy : q = y
                  · subst hqy
                    rw [hw] at h; cases h
                    exact ⟨_, setRow_heap w q cur _ tt _ hw, hvsz⟩
                  · exact ⟨vs', by rw [oth q hqy]; exact h, rfl⟩
              have hblk := setRow_heap w y cur (cur.toList.take (n * i.size) ++ news ++ cur.toList.drop (n * i.size + news.length)).toArray tt (0, 0) hw
              have hsub' : ∀ (b' : Nat) y' q, φ b' = some q → (H.set b none ++ [some (.cells (ds.take (n * i.size) ++ es))])[b']? = some (some y') → H[b']? = some (some y') ∧ b' ≠ b := by
                intro b' ds' q h1 h2
                rw [getElem?_push] at h2
                rcases h2 with h2 | ⟨h2, _⟩
                · exact ⟨hsub b' ds' h2, hne b' ds' h2⟩
                · rw [h2, hlen, hφn] at h1; cases h1
              refine ⟨_, _, hr, bindφ φ H.length y, ⟨rfl, rfl, rfl, by simp, fun q hq => oth q (by omega)⟩, hH.bind (by simp) hφn (getElem?_push.2 (.inr ⟨hlen.symm, rfl⟩)) (fun b' ds' q h1 h2 => (hsub' b' ds' q h1 h2).1) (fun q hq e => (hH.f0 q hq).2.1 b _ hb' (e ▸ hy)) (fun q hq => oth q fun e => (hH.f0 q hq).2.1 b _ hb' (e ▸ hy)) (by simp) ?_ ?_ k3 hNy ⟨_, tt, hblk, ?_, ?_, htt⟩, k3, ?_, fun c hc => bindφ_other (by omega), fun z _ hz => oth z fun e => hz b _ hb' hbS (e ▸ hy)⟩
              · intro b' ds' h1 h2
                exact (hsub' b' ds' y h2 h1).2 (hH.inj b' b ds' _ y (hsub' b' ds' y h2 h1).1 hb' h2 hy)
              · intro b' ds' q h1 h2
                refine oth q fun e => ?_
                rw [e] at h2
                exact (hsub' b' ds' y h2 h1).2 (hH.inj b' b ds' _ y (hsub' b' ds' y h2 h1).1 hb' h2 hy)
              · rw [hvsz, ← hallL.1, hallen]; omega
              · intro j d hj
                obtain ⟨u, hu', hr'⟩ := hallL.2 j d hj
                refine ⟨u, ?_, RD.kp k3 hr'⟩
                have hjl := (List.getElem?_eq_some_iff.1 hu').1
                rw [List.getElem?_toArray, List.getElem?_append_left hjl]
                exact hu'
              · exact ⟨y, cap, bindφ_same, rfl, hroom, _, _, _, hblk, by rw [hvsz]; exact hfit⟩
            · have holds : ∀ (j : Nat) v, (cur.toList.take (n * i.size))[j]? = some v → w.cell? ((⟨y, 0, none⟩ : Addr).add j) = some v := by
                intro j v hj
                rw [List.getElem?_take] at hj
                split at hj
                · rw [addr_add]; simpa [World.cell?, hw] using hj
                · cases hj
              have hr := run_append_grow (P := P) w t ty e i z hu hi hz ⟨y, 0, none⟩ n cap (cur.toList.take (n * i.size)) hollen holds ⟨xb, xo, none⟩ m c news hnl hnc (by omega) (by omega) (growslice_fits (by omega) (by omega))
              have hg := grown_ok hH hlen hsub hN (e := e) hte (z := z.cells) hallL hallen hzs (grownCap_ge w (n + m) cap e)
              have e3 : (cur.toList.take (n * i.size) ++ news).toArray = (cur.toList.take (n * i.size)).toArray ++ news.toArray := by simp
              rw [e3] at hg
              exact ⟨_, _, hr, hg⟩
          · cases h
        · cases h
      · cases h
    · cases h
  · cases h

/-- copy. -/
def evCopy (sz : Nat) (H : Hp) (S : List Nat) (d x : T) : Option (T × Hp) :=
  match d with
  | .t (.one (.lsl b o n s)) =>
    match H[b]?, rowOf H sz x with
    | some (some (.cells es)), some (m, cs) =>
      if s = sz ∧ o + n * s ≤ es.length ∧ b ∉ S then some (intV (min m n), H.set b (some (.cells (setSeg es o (cs.take (min m n * sz)))))) else none
    | _, _ => none
  | .t (.one d) => (match slOf d, rowOf H sz x with | some (0, _), some (_, _) => some (intV 0, H) | _, _ => none)
  | _ => none

theorem evCopy_ok (hH : HR k Bt F0 N φ w H S) (hN : N ≤ w.heap.size) {t t' ty e : TypeId} {sz : Nat} (hu : P.underlying t = some (.slice e)) (hsz : szC P e = some sz) {d x y : T} {H' : Hp} {ud ux : Value} (h : evCopy sz H S d x = some (y, H')) (rd : RT k (Fo F0 φ H S) φ w d ud) (rx : RT k (Fo F0 φ H S) φ w x ux) :
    ∃ u w', (Builtin.copy_ #[t, t'] ty #[ud, ux]).run P w = .ok u w' ∧ Post k Bt F0 N φ w H S H' S y u w' := by
  unfold evCopy at h
  split at h
  · rename_i b o n s
    split at h
    · rename_i es m cs hb hrow
      split at h
      · rename_i hc
        obtain ⟨rfl, hle, hbS⟩ := hc
        cases h
        obtain ⟨q, cap, hq, rfl, hncap, _⟩ := rd
        obtain ⟨A, c, rfl, hel, hA⟩ := rowOf_ok hH hrow rx
        have hcells : ∃ us : List Value, RL k (Fo F0 φ H S) φ w us (cs.take (min m n * s)) ∧ (Builtin.firstCells s (min m n) (.slice A m c)).run P w = .ok us.toArray w := by
          by_cases hm : 0 < m
          · obtain ⟨xb, xo, rfl, hcc⟩ := hA hm
            obtain ⟨l, hl, hlc⟩ := row_list hcc
            refine ⟨l.take (min m n * s), ⟨by rw [List.length_take, List.length_take, hl.1], fun j d hj => ?_⟩, ?_⟩
            · rw [List.getElem?_take] at hj ⊢
              split at hj
              · rename_i hlt; rw [if_pos hlt]; exact hl.2 j d hj
              · cases hj
            · refine run_firstCells_some (P := P) w s (min m n) ⟨xb, xo, none⟩ m c _ ?_ (fun j v hj => ?_)
              · rw [List.length_take, hl.1, hel]
                exact Nat.min_eq_left (Nat.mul_le_mul_right _ (Nat.min_le_left _ _))
              · rw [List.getElem?_take] at hj
                split at hj
                · exact hlc j v hj
                · cases hj
          · obtain rfl : m = 0 := by omega
            refine ⟨[], ⟨by simp, fun j d hj => by simp at hj⟩, ?_⟩
            cases A <;> simp [Builtin.firstCells, loadCells, loadCellsFrom]
        obtain ⟨us, hus, hrun⟩ := hcells
        have hlen : (cs.take (min m n * s)).length ≤ n * s := by
          rw [List.length_take]
          exact Nat.le_trans (Nat.min_le_left _ _) (Nat.mul_le_mul_right _ (Nat.min_le_right _ _))
        obtain ⟨w', h1, h2, h3, h4, h5⟩ := seg_ok (P := P) hH hN (o := o) hb hbS hq hus (by omega)
        have hrun' : (Builtin.firstCells s (m.min n) (.slice A m c)).run P w = .ok us.toArray w := hrun
        refine ⟨_, w', ?_, φ, h2, h3, h4, .v _ rfl, fun _ _ => rfl, h5⟩
        simp [Builtin.copy_, run_underlying hu, Builtin.lenOf, run_sizeOf hsz, hrun', h1, goInt]
      · cases h
    · cases h
  · rename_i d _
    split at h
    · rename_i cs0 m cs hd hrow
      cases h
      obtain ⟨B, cap, rfl, _, _⟩ := slOf_ok hd rd
      obtain ⟨A, c, rfl, hel, hA⟩ := rowOf_ok hH hrow rx
      refine ⟨.int .i64 (0 : Nat), w, ?_, Post.same hH (.v _ rfl)⟩
      cases A <;> cases B <;> simp [Builtin.copy_, run_underlying hu, Builtin.lenOf, run_sizeOf hsz, Builtin.firstCells, loadCells, loadCellsFrom, storeCells, goInt]
    · cases h
  · cases h

theorem rowZ_eq (z : Array Value) (n : Nat) : (madeCells z n).toList = rowZ z.toList n := by
  unfold madeCells rowZ
  simp
  intro a _
  rw [getElem!_def]
  cases z[a % z.size]? <;> rfl

theorem zeros_list (z : Array Value) (n : Nat) : (Builtin.zeroCells z n).toList = rowZ z.toList (n * z.size) := by
  unfold Builtin.zeroCells rowZ
  simp
  intro a _
  rw [getElem!_def]
  cases z[a % z.size]? <;> rfl

/-- Zeros behind a row that holds nothing. -/
def evAppZ (z : List Value) (s bytes : Nat) (H : Hp) (d nT : T) : Option (T × Hp) :=
  match natT nT with
  | some n =>
    if 0 < n ∧ n ≤ 2 ^ 30 ∧ n * bytes ≤ 2 ^ 46 then
      (match ofL (rowZ z (n * s)) with
       | some ds =>
         (match d with
          | .t (.one (.c (.v (.slice none 0 0)))) => some (.t (.one (.lsl H.length 0 n s)), H ++ [some (.cells ds)])
          | .t (.one .z0) => some (.t (.one (.lsl H.length 0 n s)), H ++ [some (.cells ds)])
          | _ => none)
       | none => none)
    else none
  | none => none
theorem evAppZ_ok (hH : HR k Bt F0 N φ w H S) (hN : N ≤ w.heap.size) {t tn ty e : TypeId} (hte : e ≠ Limb.u) {z : List Value} {s bytes : Nat} {kn : IntKind} (hu : P.underlying t = some (.slice e)) (htn : P.underlying tn = some (.int kn)) (he : ElOk P e z s bytes) (hzs : z.length = s) (hs0 : 0 < s) {d nT y : T} {H' : Hp} {ud un : Value} (h : evAppZ z s bytes H d nT = some (y, H'))
    (rd : RT k (Fo F0 φ H S) φ w d ud) (rn : RT k (Fo F0 φ H S) φ w nT un) : ∃ u w', (Builtin.append_ #[t, tn] ty #[ud, un]).run P w = .ok u w' ∧ Post k Bt F0 N φ w H S H' S y u w' := by
  obtain ⟨i, zv, hi, hz, rfl, rfl, rfl⟩ := he
  unfold evAppZ at h
  split at h
  · rename_i n hn
    split at h
    · rename_i hc
      obtain ⟨h1, h2, h3⟩ := hc
      split at h
      · rename_i ds hd
        obtain ⟨kq, rfl⟩ := natT_ok hn rn
        have hsz : zv.cells.size = i.size := by simpa using hzs
        have key : ∀ A, ∃ u w', (Builtin.append_ #[t, tn] ty #[.slice A 0 0, .int kq (n : Int)]).run P w = .ok u w' ∧ Post k Bt F0 N φ w H S (H ++ [some (.cells ds)]) S (.t (.one (.lsl H.length 0 n i.size))) u w' := by
          intro A
          have hr := Lib.run_append_grow_zeros (P := P) w t tn ty e i zv kq kn hu htn hi hz A 0 0 [] (by cases A <;> simp [Builtin.firstCells, loadCells, loadCellsFrom]) n h1 hs0 (by omega) (by omega) (by omega) (growslice_fits (by omega) (by rw [Nat.zero_add]; omega))
          have hrl : RL k (Fo F0 φ H S) φ w (Builtin.zeroCells zv.cells n).toList ds := by rw [zeros_list, hsz]; exact ofL_RL hd
          have hg := grown_ok hH (H1 := H) rfl (fun _ _ h => h) hN (e := e) hte (z := zv.cells) (cap := grownCap w (0 + n) 0 e) (m := n) (s := i.size) hrl (by rw [zeros_list, hsz]; simp [rowZ]) hsz (by have := grownCap_ge w (0 + n) 0 e; omega)
          simp only [Nat.zero_add] at hr hg
          refine ⟨_, _, hr, ?_⟩
          have e0 : (([] : List Value).toArray ++ Builtin.zeroCells zv.cells n) = (Builtin.zeroCells zv.cells n).toList.toArray := by simp
          rw [e0]
          exact hg
        split at h
        · cases h
          have rd' : RC k (Fo F0 φ H S) w (.v (.slice none 0 0)) ud := rd
          cases rd'
          exact key none
        · cases h
          obtain ⟨A, rfl⟩ := rd
          exact key A
        · cases h
      · cases h
    · cases h
  · cases h

def evMake (z : List Value) (s bytes : Nat) (H : Hp) (l c : T) : Option (T × Hp) :=
  match natT l, natT c with
  | some nl, some nc =>
    if nl ≤ nc ∧ nc ≤ 2 ^ 30 ∧ bytes * nc ≤ 2 ^ 46 then
      (match ofL (rowZ z (nc * s)) with
       | some ds => some (.t (.one (.lsl H.length 0 nl s)), H ++ [some (.cells ds)])
       | none => none)
    else none
  | _, _ => none
theorem evMake_ok (hH : HR k Bt F0 N φ w H S) (hN : N ≤ w.heap.size) {t e : TypeId} (hte : e ≠ Limb.u) {z : List Value} {s bytes : Nat} (hu : P.underlying t = some (.slice e)) (he : ElOk P e z s bytes) {l c y : T} {H' : Hp} {ul uc : Value} (h : evMake z s bytes H l c = some (y, H')) (rl : RT k (Fo F0 φ H S) φ w l ul) (rc : RT k (Fo F0 φ H S) φ w c uc) :
    ∃ u w', (Instr.makeSlice t ul uc).run P w = .ok u w' ∧ Post k Bt F0 N φ w H S H' S y u w' := by
  obtain ⟨i, zv, hi, hz, rfl, rfl, rfl⟩ := he
  unfold evMake at h
  split at h
  · rename_i nl nc hl hc
    split at h
    · rename_i hcond
      obtain ⟨h1, h2, h3⟩ := hcond
      split at h
      · rename_i ds hd
        cases h
        obtain ⟨k1, rfl⟩ := natT_ok hl rl
        obtain ⟨k2, rfl⟩ := natT_ok hc rc
        have hb : (i.bytes : Int) * (nc : Int) ≤ 281474976710656 := by
          have : ((i.bytes * nc : Nat) : Int) ≤ 281474976710656 := by omega
          rwa [Int.natCast_mul] at this
        have hr := run_make (P := P) w t e i zv hu hi hz k1 k2 nl nc (by omega) (by omega) hb (by omega)
        simp only [Int.toNat_natCast] at hr
        have hx : Ext w (w.alloc (.cells (madeCells zv.cells (nc * i.size)) e)) := ext_alloc _
        have hrl : RL k (Fo F0 φ H S) φ w (madeCells zv.cells (nc * i.size)).toList ds := by rw [rowZ_eq]; exact ofL_RL hd
        have e1 := hrl.1
        obtain ⟨g1, g2⟩ := push_new hH rfl (fun _ _ h => h) hN hx hte (alloc_at w (.cells (madeCells zv.cells (nc * i.size)) e)) (ds := ds) (by simp at e1; omega) (fun j d hj => by simpa using hrl.2 j d hj)
        exact ⟨_, _, hr, _, Below.mono hx hN, g1, g2, ⟨w.heap.size, nc, bindφ_same, rfl, h1, _, _, _, alloc_at w _, by simp [size_madeCells]⟩, fun c hc => bindφ_other (by omega), Old.ext hx⟩
      · cases h
    · cases h
  · cases h
end
end Go.Mach
namespace Go.Mach
open Go Go.RowKit Go.Flow
variable [Limb]

section
variable {P : Program} {k : Cls} {Bt : Bodies} {F0 : Nat → Prop} {N : Nat} {φ : Nat → Option Nat} {w w' : World} {H : Hp} {S : List Nat}

theorem run_getM {r : Nat} {es : Array MapEntry} {clk : Nat} (h : w.heap[r]? = some (.map es clk)) : (getObj r).run P w = .ok (.map es clk) w := by
  simp [getObj, Sem.run, h]
theorem run_setM {r : Nat} {es : Array MapEntry} {clk : Nat} (h : w.heap[r]? = some (.map es clk)) (o : Obj) : (setObj r o).run P w = .ok () (w.putObj r o) := by
  simp [setObj, Sem.run, h, World.putObj]

/-- The type of such a map. zs: the element's zero value. -/
def MapOk (P : Program) (t : TypeId) (zs : List D) : Prop :=
  ∃ kt et e, P.underlying t = some (.map kt et) ∧ P.underlying kt = some (.array 4 e) ∧ P.underlying e = some (.int .i64) ∧ szC P e = some 1 ∧
    ∃ (i : TypeInfo) (z : Value), P.info? et = some i ∧ i.zero = some z ∧ (∃ a, z = .agg a) ∧ ofL z.cells.toList = some zs

def keyV (l : List Int) : Value := .agg (l.map (Value.int .i64)).toArray

theorem run_checkKey_aux (D : Nat) (b : Bool) {t e : TypeId} (ht : P.underlying t = some (.array 4 e)) (he : P.underlying e = some (.int .i64)) (hs : szC P e = some 1) {a : List Int} (ha : a.length = 4)
    (hq : ∀ x, (Instr.checkKey b D e (.int .i64 x)).run P w = .ok () w) : (Instr.checkKey b (D + 1) t (keyV a)).run P w = .ok () w := by
  match a, ha with
  | [a0, a1, a2, a3], _ =>
    have hp : ∀ (x y z u : Int) (j : Nat) (v : Int), [x, y, z, u][j]? = some v → (part e #[.int .i64 x, .int .i64 y, .int .i64 z, .int .i64 u] j).run P w = .ok (.int .i64 v) w := by
      intro x y z u j v h
      refine part_one hs he ?_
      have : (List.map (Value.int .i64) [x, y, z, u]).toArray[j]? = some (.int .i64 v) := by rw [List.getElem?_toArray, List.getElem?_map, h]; rfl
      exact this
    have p0 := fun x y z u => hp x y z u 0 x rfl
    have p1 := fun x y z u => hp x y z u 1 y rfl
    have p2 := fun x y z u => hp x y z u 2 z rfl
    have p3 := fun x y z u => hp x y z u 3 u rfl
    have hr : List.range' 0 4 = [0, 1, 2, 3] := rfl
    unfold keyV
    simp only [List.map_cons, List.map_nil]
    simp only [Instr.checkKey, Sem.run_bind, run_underlying ht, Result.andThen_ok]
    rw [Std.Legacy.Range.forIn_eq_forIn_range']
    simp [Std.Legacy.Range.size, hr, run_sizeOf hs, p0, p1, p2, p3, hq]
theorem run_checkKey (b : Bool) {t e : TypeId} (ht : P.underlying t = some (.array 4 e)) (he : P.underlying e = some (.int .i64)) (hs : szC P e = some 1) {a : List Int} (ha : a.length = 4) :
    (Instr.checkKey b 10000 t (keyV a)).run P w = .ok () w :=
  run_checkKey_aux 9999 b ht he hs ha fun x => by
    show (Instr.checkKey b (9998 + 1) e (.int .i64 x)).run P w = .ok () w
    generalize 9998 = d
    simp [Instr.checkKey, run_underlying he]

/-- Where a key stands. -/
def findK (key : List Int) : List (List Int) → Nat → Option Nat
  | [], _ => none
  | x :: r, i => if x == key then some i else findK key r (i + 1)

theorem run_findAsking {t e : TypeId} (ht : P.underlying t = some (.array 4 e)) (he : P.underlying e = some (.int .i64)) (hs : szC P e = some 1) {key : List Int} (hk : key.length = 4) :
    ∀ (es : List MapEntry) (ks : List (List Int)) (i : Nat), es.length = ks.length → (∀ (j : Nat) x, ks[j]? = some x → x.length = 4 ∧ ∃ en, es[j]? = some en ∧ en.key = keyV x) →
      (Instr.findAsking t (keyV key) es i).run P w = .ok (match findK key ks i with | some j => (es[j - i]?).map fun en => (j, en.val) | none => none) w ∧ ∀ j, findK key ks i = some j → i ≤ j ∧ ks[j - i]? = some key := by
  intro es
  induction es with
  | nil =>
    intro ks i hl _
    cases ks with
    | nil => exact ⟨rfl, fun j h => by simp [findK] at h⟩
    | cons => simp at hl
  | cons en es ih =>
    intro ks i hl h
    cases ks with
    | nil => simp at hl
    | cons x ks =>
      obtain ⟨hx, en', hen, hkey⟩ := h 0 x rfl
      simp at hen; subst hen
      have heq := run_eqA (P := P) (w := w) ht he hs hk hx
      obtain ⟨i1, i2⟩ := ih ks (i + 1) (by simpa using hl) (fun j y hj => by simpa using h (j + 1) y (by simpa using hj))
      have hxk : (key == x) = (x == key) := by rw [Bool.eq_iff_iff, beq_iff_eq, beq_iff_eq]; exact eq_comm
      by_cases hc : (x == key) = true
      · have hf : findK key (x :: ks) i = some i := by simp [findK, hc]
        constructor
        · rw [hf]
          simp only [Nat.sub_self, List.getElem?_cons_zero, Option.map_some]
          unfold Instr.findAsking
          rw [hkey]
          have : (Op.equal t (keyV key) (keyV x)).run P w = .ok true w := by
            have h2 := heq; rw [hxk, hc] at h2; exact h2
          simp [this]
        · intro j hj
          rw [hf] at hj; cases hj
          exact ⟨Nat.le_refl _, by rw [Nat.sub_self]; simp; simpa using hc⟩
      · have hf : findK key (x :: ks) i = findK key ks (i + 1) := by simp [findK, hc]
        have h3 : (Instr.findAsking t (keyV key) (en :: es) i).run P w = (Instr.findAsking t (keyV key) es (i + 1)).run P w := by
          conv => lhs; unfold Instr.findAsking
          rw [hkey]
          have : (Op.equal t (keyV key) (keyV x)).run P w = .ok false w := by
            have h2 := heq; rw [hxk] at h2
            have hc' : (x == key) = false := by simpa using hc
            rw [hc'] at h2; exact h2
          simp [this]
        constructor
        · rw [h3, i1, hf]
          cases hq : findK key ks (i + 1) with
          | none => rfl
          | some j =>
            have := (i2 j hq).1
            simp only
            have e1 : j - i = (j - (i + 1)) + 1 := by omega
            rw [e1, List.getElem?_cons_succ]
        · intro j hj
          rw [hf] at hj
          obtain ⟨a1, a2⟩ := i2 j hj
          have e1 : j - i = (j - (i + 1)) + 1 := by omega
          exact ⟨by omega, by rw [e1, List.getElem?_cons_succ]; exact a2⟩

theorem run_findKey {t e : TypeId} (ht : P.underlying t = some (.array 4 e)) (he : P.underlying e = some (.int .i64)) (hs : szC P e = some 1) {key : List Int} (hk : key.length = 4) {es : List MapEntry} {ks : List (List Int)} (hl : es.length = ks.length)
    (h : ∀ (j : Nat) x, ks[j]? = some x → x.length = 4 ∧ ∃ en, es[j]? = some en ∧ en.key = keyV x) :
    (Instr.findKey t (keyV key) es).run P w = .ok (match findK key ks 0 with | some j => (es[j]?).map fun en => (j, en.val) | none => none) w := by
  have h1 := (run_findAsking (P := P) (w := w) ht he hs hk es ks 0 hl h).1
  unfold Instr.findKey
  simp only [Sem.run_bind, run_underlying ht, Result.andThen_ok]
  cases es with
  | nil =>
    cases ks with
    | nil => rfl
    | cons => simp at hl
  | cons en es =>
    have : Instr.findNow (.array 4 e) (keyV key) (en :: es) 0 = none := by
      simp [Instr.findNow, Instr.sameNow]
    rw [this]
    simpa using h1

def keyT (x : T) : Option (List Int) := match plainT x with | some (.agg a) => intsOf a.toList | _ => none
theorem keyT_ok {F : Nat → Prop} {x : T} {l : List Int} {u : Value} (h : keyT x = some l) (r : RT k F φ w x u) : u = keyV l := by
  unfold keyT at h
  split at h
  · rename_i a ha
    rw [plainT_eq ha r]
    show Value.agg a = Value.agg _
    rw [← intsOf_eq h]
  · cases h

def evLookup (zs : List D) (H : Hp) (m key : T) : Option T :=
  match m, keyT key with
  | .t (.one (.mp b)), some l =>
    if l.length = 4 then
      match H[b]? with
      | some (some (.mp es)) =>
        (match findK l (es.map (·.1)) 0 with
         | some j => (es[j]?).map fun p => .tup [.agg p.2, .one (.c (.v (.bool true)))]
         | none => some (.tup [.agg zs, .one (.c (.v (.bool false)))]))
      | _ => none
    else none
  | _, _ => none

theorem keys_of {es : List (List Int × List D)} {ens : Array MapEntry} {F : Nat → Prop} (hs : ens.size = es.length) (h3 : ∀ (j : Nat) key ds, es[j]? = some (key, ds) → ∃ e, ens[j]? = some e ∧ e.key = .agg (key.map (Value.int .i64)).toArray ∧ key.length = 4 ∧ RT1 k F φ w (.agg ds) e.val) :
    ens.toList.length = (es.map (·.1)).length ∧ ∀ (j : Nat) x, (es.map (·.1))[j]? = some x → x.length = 4 ∧ ∃ en, ens.toList[j]? = some en ∧ en.key = keyV x := by
  refine ⟨by simpa using hs, fun j x hj => ?_⟩
  rw [List.getElem?_map, Option.map_eq_some_iff] at hj
  obtain ⟨⟨key, ds⟩, hp, rfl⟩ := hj
  obtain ⟨e, he, hk, h4, _⟩ := h3 j key ds hp
  exact ⟨h4, e, by simpa using he, hk⟩

theorem evLookup_ok (hH : HR k Bt F0 N φ w H S) {t : TypeId} {zs : List D} (ht : MapOk P t zs) {m key y : T} {um uk : Value} (h : evLookup zs H m key = some y) (rm : RT k (Fo F0 φ H S) φ w m um) (rk : RT k (Fo F0 φ H S) φ w key uk) :
    ∃ u, (Instr.lookup t um uk true).run P w = .ok u w ∧ RT k (Fo F0 φ H S) φ w y u := by
  obtain ⟨kt, et, e, hu, hkt, he, hes, i, z, hi, hz, ⟨za, rfl⟩, hzs⟩ := ht
  unfold evLookup at h
  split at h
  · rename_i b l hl
    obtain rfl := keyT_ok hl rk
    split at h
    · rename_i h4
      split at h
      · rename_i es hb
        obtain ⟨x, hx, rfl⟩ := rm
        obtain ⟨_, ens, clk, hw, hsz, _, _, h3⟩ := hH.at_ b _ x hb hx
        obtain ⟨q1, q2⟩ := keys_of hsz h3
        have hck := fun b => run_checkKey (P := P) (w := w) b hkt he hes h4
        have hfk := run_findKey (P := P) (w := w) hkt he hes h4 q1 q2
        have hzv : (zeroValue et).run P w = .ok (.agg za) w := by simp [zeroValue, typeInfo, hi, hz]
        split at h
        · rename_i j hj
          simp only [Option.map_eq_some_iff] at h
          obtain ⟨⟨key', ds⟩, hp, rfl⟩ := h
          obtain ⟨en, hen, _, _, hv⟩ := h3 j key' ds hp
          have hen' : ens.toList[j]? = some en := by simpa using hen
          rw [hj] at hfk
          simp only [hen', Option.map_some] at hfk
          refine ⟨.tuple #[en.val, .bool true], ?_, #[en.val, .bool true], rfl, rfl, fun j d hd => ?_⟩
          · simp [Instr.lookup, run_underlying hu, run_getM hw, hck, hfk]
          · match j, hd with
            | 0, hd => simp at hd; subst hd; exact ⟨_, rfl, hv⟩
            | 1, hd => simp at hd; subst hd; exact ⟨_, rfl, RC.v _ rfl⟩
        · rename_i hj
          cases h
          rw [hj] at hfk
          refine ⟨.tuple #[.agg za, .bool false], ?_, #[.agg za, .bool false], rfl, rfl, fun j d hd => ?_⟩
          · simp [Instr.lookup, run_underlying hu, run_getM hw, hck, hfk, hzv]
          · have hzr := ofL_RL (k := k) (F := Fo F0 φ H S) (φ := φ) (w := w) hzs
            match j, hd with
            | 0, hd => simp at hd; subst hd; exact ⟨_, rfl, za, rfl, by simpa [Value.cells] using hzr.1, fun j d hj => by simpa [Value.cells] using hzr.2 j d hj⟩
            | 1, hd => simp at hd; subst hd; exact ⟨_, rfl, RC.v _ rfl⟩
      · cases h
    · cases h
  · cases h

def evMapSet (H : Hp) (S : List Nat) (m key x : T) : Option Hp :=
  match m, keyT key, x with
  | .t (.one (.mp b)), some l, .t (.agg ds) =>
    if l.length = 4 then
      match H[b]? with
      | some (some (.mp es)) =>
        if b ∈ S then none else
        (match findK l (es.map (·.1)) 0 with
         | some j => some (H.set b (some (.mp (es.set j (l, ds)))))
         | none => some (H.set b (some (.mp (es ++ [(l, ds)])))))
      | _ => none
    else none
  | _, _, _ => none

theorem sameBits_keyV (l : List Int) (n : Nat) : Instr.sameBits (n + 1) (keyV l) (keyV l) = true := by
  have h : ∀ (q : List Int), ((q.map (Value.int .i64)).zip (q.map (Value.int .i64))).all (fun (x, y) => Instr.sameBits n x y) = true := by
    intro q
    induction q with
    | nil => rfl
    | cons a q ih =>
      simp only [List.map_cons, List.zip_cons_cons, List.all_cons, ih, Bool.and_true]
      cases n <;> simp [Instr.sameBits]
  simp [keyV, Instr.sameBits]
  intro a b hab
  have := List.all_eq_true.1 (h l) (a, b) hab
  simpa using this

theorem evMapSet_ok (hH : HR k Bt F0 N φ w H S) (hN : N ≤ w.heap.size) {t : TypeId} {zs : List D} (ht : MapOk P t zs) {m key x : T} {H' : Hp} {um uk ux : Value} (h : evMapSet H S m key x = some H') (rm : RT k (Fo F0 φ H S) φ w m um) (rk : RT k (Fo F0 φ H S) φ w key uk) (rx : RT k (Fo F0 φ H S) φ w x ux) :
    ∃ w', (Instr.mapUpdate t um uk ux).run P w = .ok () w' ∧ Below N w w' ∧ HR k Bt F0 N φ w' H' S ∧ Kp (Fo F0 φ H S) φ w (Fo F0 φ H' S) φ w' ∧ Old φ H S w w' := by
  obtain ⟨kt, et, e, hu, hkt, he, hes, i, z, hi, hz, ⟨za, rfl⟩, hzs⟩ := ht
  unfold evMapSet at h
  split at h
  · rename_i b l ds hl
    obtain rfl := keyT_ok hl rk
    split at h
    · rename_i h4
      split at h
      · rename_i es hb
        split at h
        · cases h
        rename_i hbS
        obtain ⟨x, hx, rfl⟩ := rm
        obtain ⟨hNx, ens, clk, hw, hsz, hborn, hinj, h3⟩ := hH.at_ b _ x hb hx
        obtain ⟨q1, q2⟩ := keys_of hsz h3
        have hck := fun b => run_checkKey (P := P) (w := w) b hkt he hes h4
        have hfk := run_findKey (P := P) (w := w) hkt he hes h4 q1 q2
        have hkts : (Instr.keyThatStays (keyV l) (keyV l)).run P w = .ok (keyV l) w := by
          simp [Instr.keyThatStays, sameBits_keyV l 9999]
        have hpo : ∀ o : Obj, (setObj x o).run P w = .ok () (w.putObj x o) := fun o => run_setM hw o
        have hlt := lt_of_heap hw
        have hbel : ∀ o : Obj, Below N w (w.putObj x o) := fun o => ⟨rfl, rfl, rfl, by simp, fun q hq => World.putObj_heap_other (by omega)⟩
        have hturn : ∀ (ens' : Array MapEntry) (clk' : Nat) (es' : List (List Int × List D)), (∀ F ψ, Kp (Fo F0 φ H S) φ w F ψ (w.putObj x (.map ens' clk')) → ens'.size = es'.length ∧ clk' = ens'.size ∧ (∀ (j : Nat) e, ens'[j]? = some e → e.born = j) ∧
            ∀ (j : Nat) key ds, es'[j]? = some (key, ds) → ∃ e, ens'[j]? = some e ∧ e.key = .agg (key.map (Value.int .i64)).toArray ∧ key.length = 4 ∧ RT1 k F ψ (w.putObj x (.map ens' clk')) (.agg ds) e.val) →
            HR k Bt F0 N φ (w.putObj x (.map ens' clk')) (H.set b (some (.mp es'))) S ∧ Kp (Fo F0 φ H S) φ w (Fo F0 φ (H.set b (some (.mp es'))) S) φ (w.putObj x (.map ens' clk')) := by
          intro ens' clk' es' hq
          refine hH.turn hb hbS hx (by simp) (fun z hz => World.putObj_heap_other hz) (fun vs t fr hc => by rw [hw] at hc; cases hc) (fun q => ?_)
          exact ⟨ens', clk', World.putObj_heap_same hlt, hq _ _ q⟩
        split at h
        · rename_i j hj
          cases h
          rw [hj] at hfk
          have hfj := (run_findAsking (P := P) (w := w) hkt he hes h4 ens.toList (es.map (·.1)) 0 q1 q2).2 j hj
          simp only [Nat.sub_zero] at hfj
          obtain ⟨_, en, hen, hkey⟩ := q2 j l hfj.2
          have hen' : ens[j]? = some en := by simpa using hen
          simp only [hen, Option.map_some] at hfk
          obtain ⟨g1, g2⟩ := hturn (ens.modify j fun e => { e with key := keyV l, val := ux }) clk (es.set j (l, ds)) (fun F ψ q => by
            refine ⟨by simpa using hsz, by simpa using hborn, fun i1 e1 h1 => ?_, fun j' key' ds' hj' => ?_⟩
            · rw [Array.getElem?_modify] at h1
              split at h1
              · simp only [Option.map_eq_some_iff] at h1
                obtain ⟨e0, h0, rfl⟩ := h1
                exact hinj i1 e0 h0
              · exact hinj i1 e1 h1
            · rw [List.getElem?_set] at hj'
              split at hj'
              · rename_i hjj
                subst hjj
                split at hj'
                · cases hj'
                  refine ⟨{ en with key := keyV l, val := ux }, ?_, rfl, h4, RT1.kp q rx⟩
                  rw [Array.getElem?_modify, if_pos rfl, hen']; rfl
                · cases hj'
              · rename_i hjj
                obtain ⟨e0, h0, hk0, hl0, hv0⟩ := h3 j' key' ds' hj'
                exact ⟨e0, by rw [Array.getElem?_modify, if_neg hjj]; exact h0, hk0, hl0, RT1.kp q hv0⟩)
          refine ⟨_, ?_, hbel _, g1, g2, fun z _ hz => World.putObj_heap_other fun e => hz b _ hb hbS (e ▸ hx)⟩
          have hkey2 : ((ens[j]?).map (·.key)).getD (keyV l) = keyV l := by rw [hen']; exact hkey
          simp [Instr.mapUpdate, run_underlying hu, run_getM hw, hck, hfk, hkey2, hkts, hpo]
        · rename_i hj
          cases h
          rw [hj] at hfk
          obtain ⟨g1, g2⟩ := hturn (ens.push { key := keyV l, val := ux, born := clk }) (clk + 1) (es ++ [(l, ds)]) (fun F ψ q => by
            refine ⟨by simpa using hsz, by simp [hborn], fun i1 e1 h1 => ?_, fun j' key' ds' hj' => ?_⟩
            · rw [Array.getElem?_push] at h1
              split at h1
              · rename_i he
                cases h1
                show clk = i1
                rw [he]; exact hborn
              · exact hinj i1 e1 h1
            · rw [getElem?_push] at hj'
              rcases hj' with hj' | ⟨rfl, hp⟩
              · obtain ⟨e0, h0, hk0, hl0, hv0⟩ := h3 j' key' ds' hj'
                refine ⟨e0, ?_, hk0, hl0, RT1.kp q hv0⟩
                have := (Array.getElem?_eq_some_iff.1 h0).1
                rw [Array.getElem?_push, if_neg (by omega)]; exact h0
              · cases hp
                exact ⟨{ key := keyV l, val := ux, born := clk }, by rw [← hsz]; simp, rfl, h4, RT1.kp q rx⟩)
          refine ⟨_, ?_, hbel _, g1, g2, fun z _ hz => World.putObj_heap_other fun e => hz b _ hb hbS (e ▸ hx)⟩
          simp [Instr.mapUpdate, run_underlying hu, run_getM hw, hck, hfk, hpo]
      · cases h
    · cases h
  · cases h

/-- A new map. -/
theorem newMap_ok (hH : HR k Bt F0 N φ w H S) (hN : N ≤ w.heap.size) (t : TypeId) :
    ∃ u w', (Instr.makeMap t none).run P w = .ok u w' ∧ Post k Bt F0 N φ w H S (H ++ [some (.mp [])]) S (.t (.one (.mp H.length))) u w' := by
  have hx : Ext w (w.alloc (.map #[] 0)) := ext_alloc _
  obtain ⟨g1, g2⟩ := push_blk hH (H1 := H) rfl (fun _ _ h => h) hN (Nat.le_refl _) hx (y0 := .mp []) (fun F ψ q => ⟨#[], 0, alloc_at w _, rfl, rfl, fun j e h => by simp at h, fun j key ds hj => by simp at hj⟩)
  exact ⟨_, _, by simp [Instr.makeMap], _, Below.mono hx hN, g1, g2, ⟨w.heap.size, bindφ_same, rfl⟩, fun c hc => bindφ_other (by omega), Old.ext hx⟩
end
end Go.Mach
namespace Go.Mach
open Go Go.RowKit Go.Flow
variable [Limb]

/-- Where an operand's value stands: so many operations before in the same region; a slot of the frame; a constant. -/
inductive Od where
  | x (d : Nat)
  | f (p : Nat)
  | k (t : T)
  | z
  deriving Inhabited

def nth : List T → Nat → T
  | [], _ => .nil
  | t :: _, 0 => t
  | _ :: r, n + 1 => nth r n
theorem nth_eq : ∀ (l : List T) (n : Nat), nth l n = l.getD n .nil
  | [], n => by simp [nth]
  | t :: r, 0 => by simp [nth]
  | t :: r, n + 1 => by simp [nth, nth_eq r n]

def evOd (ys τ : List T) : Od → T
  | .x d => nth ys d
  | .f p => nth τ p
  | .k t => t
  | .z => .nil

inductive COp where
  | mv (x : Od)
  | pick (c a b : Od)
  | ld (agg : Bool) (n : Nat) (x : Od)
  | off (n : Nat) (x : Od)
  | part (agg : Bool) (n o : Nat) (x : Od)
  | ixS (s : Nat) (x i : Od)
  | ixR (len s : Nat) (x i : Od)
  | at_ (agg : Bool) (n len : Nat) (x i : Od)
  | ext (i : Nat) (x : Od)
  | nilc (x : Od)
  | bld (zs : List D) (pl : List (Nat × Nat)) (is : List Nat) (xs : List Od)
  | bsl (z : List Value) (s len : Nat) (is : List Nat) (xs : List Od)
  | slc (s : Nat) (x : Od) (lo hi : Option Od)
  | slcR (n s : Nat) (x : Od)
  | slc3 (s : Nat) (x : Od) (lo : Option Od) (hi mx : Od)
  | len (x : Od)
  | pk (p : PK) (xs : List Od)
  | mkf (f : FuncId) (xs : List Od)
  | lku (zs : List D) (m key : Od)
  | new (ds : List D)
  | box (x : Od)
  | mk (z : List Value) (s bytes : Nat) (l c : Od)
  | mkm
  | app (s bytes : Nat) (d x : Od)
  | cpy (s : Nat) (d x : Od)
  | sto (n : Nat) (a x : Od)
  | mset (m key x : Od)
  | call (g : Od) (xs : List Od)
  | bad
  | cap (x : Od)
  | appz (z : List Value) (s bytes : Nat) (d n : Od)
  | nilS (neg : Bool) (x z : Od)
  | rng (x : Od)
  | ent (x : Od)
  | lenM (x : Od)
  | ixc (x i : Od)
  deriving Inhabited

inductive Kd where
  | r | a | o
  deriving DecidableEq, Inhabited
def kd : COp → Kd
  | .new _ | .box _ | .mk .. | .mkm => .a
  | .app .. | .cpy .. | .sto .. | .mset .. | .call .. | .appz .. | .rng _ | .ent _ | .lenM _ => .o
  | _ => .r

def Rl (R : Od → Operand → Prop) (cs : List Od) (xs : List Operand) : Prop := xs.length = cs.length ∧ ∀ (j : Nat) c, cs[j]? = some c → ∃ x, xs[j]? = some x ∧ R c x
def Ro (R : Od → Operand → Prop) : Option Od → Option Operand → Prop
  | some c, some x => R c x
  | none, none => True
  | _, _ => False

/-- What the operation of the program must be. -/
def OpOk (P : Program) (R : Od → Operand → Prop) (o : Oper) : COp → Prop
  | .mv a => ∃ x, (o.op = .move x ∨ o.op = .assign x) ∧ R a x
  | .pick c a b => ∃ c' a' b', o.op = .pick c' a' b' ∧ R c c' ∧ R a a' ∧ R b b'
  | .ld ag n a => ∃ t x, o.op = .load t x ∧ R a x ∧ TyOk P t ag n
  | .off n a => ∃ s x f fs fd m, o.op = .fieldAddr s x f ∧ R a x ∧ P.underlying s = some (.struct fs) ∧ fs[f]? = some fd ∧ fd.offset = n ∧ szC P fd.type = some (m + 1)
  | .part ag n p a => ∃ s x f fs fd, o.op = .field s x f ∧ R a x ∧ P.underlying s = some (.struct fs) ∧ fs[f]? = some fd ∧ fd.offset = p ∧ TyOk P fd.type ag n
  | .ixS s a i => ∃ t e x ix, o.op = .indexAddr t x ix ∧ R a x ∧ R i ix ∧ P.underlying t = some (.slice e) ∧ szC P e = some s
  | .ixR len s a i => ∃ t e x ix, o.op = .indexAddr t x ix ∧ R a x ∧ R i ix ∧ P.underlying t = some (.array len e) ∧ szC P e = some s
  | .at_ ag n len a i => ∃ t e x ix, o.op = .index t x ix ∧ R a x ∧ R i ix ∧ P.underlying t = some (.array len e) ∧ TyOk P e ag n
  | .ext i a => ∃ x, o.op = .extract x i ∧ R a x
  | .nilc a => ∃ x, o.op = .nilCheck x ∧ R a x
  | .bld zs pl is cs => ∃ t ps, o.op = .build t ps ∧ BldOk P t zs pl ∧ ps.toList.map (·.1) = is ∧ Rl R cs (ps.toList.map (·.2))
  | .bsl z s len is cs => ∃ t e bytes ps, o.op = .buildSlice t len ps ∧ P.underlying t = some (.slice e) ∧ ElOk P e z s bytes ∧ ps.toList.map (·.1) = is ∧ Rl R cs (ps.toList.map (·.2))
  | .slc s a lo hi => ∃ t e x l h, o.op = .slice t x l h none ∧ R a x ∧ Ro R lo l ∧ Ro R hi h ∧ P.underlying t = some (.slice e) ∧ szC P e = some s
  | .slcR n s a => ∃ t e x, o.op = .slice t x none none none ∧ R a x ∧ P.underlying t = some (.array n e) ∧ szC P e = some s
  | .slc3 s a lo hi mx => ∃ t e x l h m, o.op = .slice t x l (some h) (some m) ∧ R a x ∧ Ro R lo l ∧ R hi h ∧ R mx m ∧ P.underlying t = some (.slice e) ∧ szC P e = some s
  | .len a => ∃ c x t e, o.op = .call c ∧ c.callee = .builtin .len ∧ c.args = #[x] ∧ c.argTypes = #[t] ∧ R a x ∧ P.underlying t = some (.slice e)
  | .pk p cs => ∃ l, PkOk P p o.op l ∧ Rl R cs l
  | .mkf f cs => ∃ cap, o.op = .makeFunc (.func f) #[] cap ∧ Rl R cs cap.toList
  | .lku zs m key => ∃ t xm xk, o.op = .lookup t xm xk true ∧ R m xm ∧ R key xk ∧ MapOk P t zs
  | .new ds => ∃ e i z, o.op = .alloc e ∧ P.info? e = some i ∧ i.zero = some z ∧ ofL z.cells.toList = some ds ∧ e ≠ Limb.u
  | .box a => ∃ e x, o.op = .box e x ∧ R a x ∧ e ≠ Limb.u
  | .mk z s bytes l c => ∃ t e xl xc, o.op = .makeSlice t xl xc ∧ R l xl ∧ R c xc ∧ P.underlying t = some (.slice e) ∧ ElOk P e z s bytes ∧ e ≠ Limb.u
  | .mkm => ∃ t, o.op = .makeMap t none
  | .app s bytes d a => ∃ c xd xs t e, o.op = .call c ∧ c.callee = .builtin .append ∧ c.args = #[xd, xs] ∧ c.argTypes = #[t, t] ∧ R d xd ∧ R a xs ∧ P.underlying t = some (.slice e) ∧ EgOk P e s bytes
  | .appz z s bytes d n => ∃ c xd xn t tn e kn, o.op = .call c ∧ c.callee = .builtin .append ∧ c.args = #[xd, xn] ∧ c.argTypes = #[t, tn] ∧ R d xd ∧ R n xn ∧ P.underlying t = some (.slice e) ∧ P.underlying tn = some (.int kn) ∧ ElOk P e z s bytes ∧ z.length = s ∧ 0 < s ∧ e ≠ Limb.u
  | .cpy s d a => ∃ c xd xs t t' e, o.op = .call c ∧ c.callee = .builtin .copy ∧ c.args = #[xd, xs] ∧ c.argTypes = #[t, t'] ∧ R d xd ∧ R a xs ∧ P.underlying t = some (.slice e) ∧ szC P e = some s
  | .sto n a y => ∃ t xa xx, o.op = .store t xa xx ∧ R a xa ∧ R y xx ∧ szC P t = some n
  | .mset m key y => ∃ t zs xm xk xx, (o.op = .mapUpdate t xm xk xx ∨ o.op = .insert t xm xk xx) ∧ R m xm ∧ R key xk ∧ R y xx ∧ MapOk P t zs
  | .call g cs => ∃ c f, o.op = .call c ∧ c.callee = .value f ∧ R g f ∧ Rl R cs c.args.toList
  | .bad => True
  | .cap a => ∃ c x t e, o.op = .call c ∧ c.callee = .builtin .cap ∧ c.args = #[x] ∧ c.argTypes = #[t] ∧ R a x ∧ P.underlying t = some (.slice e)
  | .nilS neg a b => ∃ t e x z t', o.op = .binOp (if neg then .neq else .eql) t x z t' ∧ R a x ∧ R b z ∧ P.underlying t = some (.slice e)
  | .rng a => ∃ t x kt et, o.op = .range t x ∧ R a x ∧ P.underlying t = some (.map kt et)
  | .ent a => ∃ x, o.op = .entry x ∧ R a x
  | .lenM a => ∃ c x t kt et, o.op = .call c ∧ c.callee = .builtin .len ∧ c.args = #[x] ∧ c.argTypes = #[t] ∧ R a x ∧ P.underlying t = some (.map kt et)
  | .ixc a i => ∃ t x ix, o.op = .index t x ix ∧ R a x ∧ R i ix ∧ P.underlying t = some .string

def evPick (c a b : T) : Option T :=
  match c with
  | .t (.one (.c (.v (.bool true)))) => some a
  | .t (.one (.c (.v (.bool false)))) => some b
  | _ => none
def evNil (x : T) : Option T :=
  match x with
  | .t (.one (.ptr _ _)) => some x
  | .t (.one (.fp _)) => some x
  | .t (.one (.fn _ _)) => some x
  | .t (.one (.yld _)) => some x
  | .t (.one (.c (.v (.func (.func _) _ _)))) => some x
  | _ => none
def ptrsOf : List T → Option (List (Nat × Nat))
  | [] => some []
  | .t (.one (.ptr b o)) :: r => (ptrsOf r).map ((b, o) :: ·)
  | _ => none
def evMkf (f : FuncId) (xs : List T) : Option T := (ptrsOf xs).map fun ps => .t (.one (.fn f ps))
/-- The block that is read. -/
def blkOf : T → Option Nat
  | .t (.one (.ptr b _)) => some b
  | .t (.one (.mp b)) => some b
  | _ => none
def mapO (σ : Od → T) : Option Od → Option T
  | some c => some (σ c)
  | none => none
def zipI : List Nat → List T → List (Nat × T)
  | i :: r, t :: s => (i, t) :: zipI r s
  | _, _ => []
def wi (n : Option Nat) : Option T → Option (T × Option Nat)
  | some y => some (y, n)
  | none => none

/-- A constant text's byte. -/
def evIxc (x i : T) : Option T :=
  match x, natT i with
  | .t (.one (.c (.v (.string s)))), some n => (match s.data.toList[n]? with | some b => some (.t (.one (.c (.v (.int .u8 (Int.ofNat b.toNat)))))) | none => none)
  | _, _ => none
/-- Operations that leave memory as it is. -/
def evR (H : Hp) (σ : Od → T) : COp → Option (T × Option Nat)
  | .mv a => some (σ a, none)
  | .pick c a b => wi none (evPick (σ c) (σ a) (σ b))
  | .ld ag n a => wi (blkOf (σ a)) (evLd ag n H (σ a))
  | .off n a => wi none (evOff n (σ a))
  | .part ag n p a => wi none (evPart ag n p (σ a))
  | .ixS s a i => wi none (evIxS s (σ a) (σ i))
  | .ixR len s a i => wi none (evIxR len s (σ a) (σ i))
  | .at_ ag n len a i => wi none (evAt ag n len (σ a) (σ i))
  | .ext i a => wi none (evExtract (σ a) i)
  | .nilc a => wi none (evNil (σ a))
  | .bld zs pl is cs => wi none (evBld zs pl (zipI is (cs.map σ)))
  | .bsl z s len is cs => wi none (evBslF z s len (zipI is (cs.map σ)))
  | .slc s a lo hi => wi none (evSlc s (σ a) (mapO σ lo) (mapO σ hi))
  | .slcR n s a => wi (blkOf (σ a)) (evSlcR n s H (σ a))
  | .slc3 s a lo hi mx => wi none (evSlc3 s (σ a) (mapO σ lo) (σ hi) (σ mx))
  | .len a => wi none (evLen (σ a))
  | .cap a => wi none (evCap (σ a))
  | .nilS neg a b => if isNilT (σ b) then wi none (evNilS neg (σ a)) else none
  | .pk p cs => wi none (evPk p (cs.map σ))
  | .mkf f cs => wi none (evMkf f (cs.map σ))
  | .ixc a i => wi none (evIxc (σ a) (σ i))
  | .lku zs m key => wi (blkOf (σ m)) (evLookup zs H (σ m) (σ key))
  | _ => none

/-- Operations that make a block, which gets the number b. -/
def evA (b : Nat) (σ : Od → T) : COp → Option (Blk × T)
  | .new ds => some (.cells ds, .t (.one (.ptr b 0)))
  | .box a => match cellsT (σ a) with | some ds => some (.cells ds, .t (.one (.ptr b 0))) | none => none
  | .mk z s bytes l c =>
    (match natT (σ l), natT (σ c) with
     | some nl, some nc => if nl ≤ nc ∧ nc ≤ 2 ^ 30 ∧ bytes * nc ≤ 2 ^ 46 then (match ofL (rowZ z (nc * s)) with | some ds => some (.cells ds, .t (.one (.lsl b 0 nl s))) | none => none) else none
     | _, _ => none)
  | .mkm => some (.mp [], .t (.one (.mp b)))
  | _ => none

abbrev CFn := T → List T → Hp → List Nat → Option (T × Hp × List Nat × List Nat)
def blkW : T → List Nat
  | .t (.one (.ptr b _)) => [b]
  | .t (.one (.mp b)) => [b]
  | .t (.one (.lsl b _ _ _)) => [b]
  | _ => []
/-- An iterator over a map. -/
def evRng (H : Hp) (x : T) : Option (T × Hp) :=
  match x with
  | .t (.one (.mp b)) => (match H[b]? with | some (some (.mp es)) => some (.t (.one (.ptr H.length 0)), H ++ [some (.it b es.length [])]) | _ => none)
  | _ => none
def lastN : List Nat → Option Nat
  | [] => none
  | [x] => some x
  | _ :: r => lastN r
/-- What the iterator has handed out last. -/
def evEnt (H : Hp) (x : T) : Option T :=
  match x with
  | .t (.one (.ptr b 0)) =>
    (match H[b]? with
     | some (some (.it m n ks)) =>
       (match lastN ks, H[m]? with
        | some j, some (some (.mp es)) => if Nat.beq n es.length then (match es[j]? with | some (key, ds) => some (.tup [.agg (key.map fun z => .c (.v (.int .i64 z))), .agg ds]) | none => none) else none
        | _, _ => none)
     | _ => none)
  | _ => none
/-- How many entries a map has. -/
def evLenM (H : Hp) (x : T) : Option T :=
  match x with
  | .t (.one (.mp b)) => (match H[b]? with | some (some (.mp es)) => some (intV es.length) | _ => none)
  | _ => none
def evO (cf : CFn) (H : Hp) (S : List Nat) (σ : Od → T) : COp → Option (T × Hp × List Nat × List Nat)
  | .app s bytes d a => match evAppend s bytes H S (σ d) (σ a) with | some (y, H') => some (y, H', S, blkW (σ d)) | none => none
  | .appz z s bytes d n => match evAppZ z s bytes H (σ d) (σ n) with | some (y, H') => some (y, H', S, []) | none => none
  | .cpy s d a => match evCopy s H S (σ d) (σ a) with | some (y, H') => some (y, H', S, blkW (σ d)) | none => none
  | .sto n a y => match evStore n H S (σ a) (σ y) with | some H' => some (.nil, H', S, blkW (σ a)) | none => none
  | .mset m key y => match evMapSet H S (σ m) (σ key) (σ y) with | some H' => some (.nil, H', S, blkW (σ m)) | none => none
  | .call g cs => cf (σ g) (cs.map σ) H S
  | .rng a => match evRng H (σ a) with | some (y, H') => some (y, H', S, []) | none => none
  | .ent a => match evEnt H (σ a) with | some y => some (y, H, S, []) | none => none
  | .lenM a => match evLenM H (σ a) with | some y => some (y, H, S, []) | none => none
  | _ => none

/-- Blocks outside W are as they were. -/
def Fm (H : Hp) (W : List Nat) (H' : Hp) : Prop := H.length ≤ H'.length ∧ ∀ c, c < H.length → c ∉ W → H'[c]? = H[c]?
theorem Fm.refl (H : Hp) (W : List Nat) : Fm H W H := ⟨Nat.le_refl _, fun _ _ _ => rfl⟩
theorem Fm.push (H : Hp) (c : Option Blk) : Fm H [] (H ++ [c]) := ⟨by simp, fun j hj _ => by rw [List.getElem?_append_left hj]⟩
theorem Fm.imp_w {H H' : Hp} {W : List Nat} (h : Fm H [] H') : Fm H W H' := ⟨h.1, fun c hc _ => h.2 c hc (by simp)⟩
theorem Fm.trans {H H' H'' : Hp} {W W' : List Nat} (h : Fm H W H') (k : Fm H' W' H'') : Fm H (W ++ W') H'' :=
  ⟨Nat.le_trans h.1 k.1, fun c hc hW => by
    rw [List.mem_append, not_or] at hW
    rw [k.2 c (Nat.lt_of_lt_of_le hc h.1) hW.2, h.2 c hc hW.1]⟩
theorem Fm.set (H : Hp) (b : Nat) (x : Option Blk) : Fm H [b] (H.set b x) := ⟨by simp, fun c _ hW => by
  have : b ≠ c := fun e => hW (by simp [e])
  rw [List.getElem?_set_ne this]⟩

/-- The function that is called, what it has captured. -/
def fnOf : T → Option (FuncId × List (Nat × Nat))
  | .t (.one (.fn f ps)) => some (f, ps)
  | .t (.one (.c (.v (.func (.func f) ⟨[]⟩ ⟨[]⟩)))) => some (f, [])
  | _ => none

def CfOk (P : Program) (k : Cls) (Bt : Bodies) (cf : CFn) : Prop :=
  ∀ g as H S y H' S' W, cf g as H S = some (y, H', S', W) → (∀ f ps, fnOf g = some (f, ps) → Callable P f) ∧ Fm H W H' ∧
    ∀ (F0 : Nat → Prop) (N : Nat) (φ : Nat → Option Nat) (w : World) (u : Value) (us : List Value), HR k Bt F0 N φ w H S → N ≤ w.heap.size → RT k (Fo F0 φ H S) φ w g u → us.length = as.length → (∀ (j : Nat) a, as[j]? = some a → ∃ v, us[j]? = some v ∧ RT k (Fo F0 φ H S) φ w a v) →
      yieldsC P (fun v w' => Post k Bt F0 N φ w H S H' S' y v w') ((do let d ← Deferred.ofValue u us.toArray; invoke d.target d.args : Sem Next).run P w)

section
variable {P : Program} {k : Cls} {Bt : Bodies} {F0 : Nat → Prop} {N : Nat} {φ : Nat → Option Nat} {w : World} {H : Hp} {S : List Nat} {R : Od → Operand → Prop} {σ : Od → T} {ρ : Operand → Value} {o : Oper}

theorem wi_some {n m : Option Nat} {x : Option T} {y : T} (h : wi n x = some (y, m)) : x = some y ∧ n = m := by
  cases x with
  | none => simp [wi] at h
  | some z => simp [wi] at h; exact ⟨by rw [h.1], h.2⟩

theorem Rl.rt {F : Nat → Prop} {cs : List Od} {xs : List Operand} (h : Rl R cs xs) (hσ : ∀ od x, R od x → RT k F φ w (σ od) (ρ x)) : (xs.map ρ).length = (cs.map σ).length ∧ ∀ (j : Nat) t, (cs.map σ)[j]? = some t → ∃ u, (xs.map ρ)[j]? = some u ∧ RT k F φ w t u := by
  refine ⟨by simp [h.1], fun j t hj => ?_⟩
  rw [List.getElem?_map, Option.map_eq_some_iff] at hj
  obtain ⟨c, hc, rfl⟩ := hj
  obtain ⟨x, hx, hr⟩ := h.2 j c hc
  exact ⟨ρ x, by rw [List.getElem?_map, hx]; rfl, hσ c x hr⟩

theorem Ro.rt {F : Nat → Prop} {c : Option Od} {x : Option Operand} (h : Ro R c x) (hσ : ∀ od x, R od x → RT k F φ w (σ od) (ρ x)) : RO k F φ w (mapO σ c) (x.map ρ) := by
  cases c <;> cases x <;> first | exact h.elim | trivial | exact hσ _ _ h

theorem zipI_rt {F : Nat → Prop} : ∀ {is : List Nat} {ts : List T} {ps : List (Nat × Operand)}, ps.map (·.1) = is → (ps.map fun p => ρ p.2).length = ts.length → (∀ (j : Nat) t, ts[j]? = some t → ∃ u, (ps.map fun p => ρ p.2)[j]? = some u ∧ RT k F φ w t u) →
    (zipI is ts).length = (ps.map fun (i, x) => (i, ρ x)).length ∧ ∀ (j : Nat) i t, (zipI is ts)[j]? = some (i, t) → ∃ u, (ps.map fun (i, x) => (i, ρ x))[j]? = some (i, u) ∧ RT k F φ w t u
  | is, ts, [], he, hl, hr => by
    simp at he; subst he
    simp [zipI]
  | is, [], p :: ps, he, hl, hr => by simp at hl
  | is, t :: ts, p :: ps, he, hl, hr => by
    simp at he; subst he
    obtain ⟨h1, h2⟩ := zipI_rt (ps := ps) (ts := ts) rfl (by simpa using hl) (fun j t hj => by simpa using hr (j + 1) t (by simpa using hj))
    refine ⟨by simp [zipI]; simpa using h1, fun j i t' hj => ?_⟩
    cases j with
    | zero =>
      simp [zipI] at hj
      obtain ⟨rfl, rfl⟩ := hj
      obtain ⟨u, hu, hq⟩ := hr 0 t rfl
      simp at hu; subst hu
      exact ⟨_, rfl, hq⟩
    | succ j => simpa using h2 j i t' (by simpa [zipI] using hj)

theorem evPk_rt {F : Nat → Prop} {pk : PK} {l : List Operand} {ts : List T} {y : T} (hk : PkOk P pk o.op l) (h : evPk pk ts = some y) (hl : (l.map ρ).length = ts.length) (hr : ∀ (j : Nat) t, ts[j]? = some t → ∃ u, (l.map ρ)[j]? = some u ∧ RT k F φ w t u) :
    ∃ X, (execOp ρ o).run P w = .ok (.value X) w ∧ RT k F φ w y X := by
  match ts, h with
  | [], h => simp [evPk] at h
  | [t], h =>
    match l, hl, hk, hr with
    | [x], _, hk, hr =>
      obtain ⟨u, hu, hq⟩ := hr 0 t rfl
      simp at hu; subst hu
      obtain ⟨X, hX, hr⟩ := pk1_ok h hq
      exact ⟨X, pv_ok hk hX, hr⟩
  | [t, s], h =>
    match l, hl, hk, hr with
    | [x, z], _, hk, hr =>
      obtain ⟨u, hu, hq⟩ := hr 0 t rfl
      obtain ⟨v, hv, hq'⟩ := hr 1 s rfl
      simp at hu hv; subst hu; subst hv
      obtain ⟨X, hX, hr⟩ := pk2_ok h hq hq'
      exact ⟨X, pv_ok hk hX, hr⟩
  | _ :: _ :: _ :: _, h => simp [evPk] at h

theorem evPick_ok {F : Nat → Prop} {c a b y : T} {uc ua ub : Value} (h : evPick c a b = some y) (rc : RT k F φ w c uc) (ra : RT k F φ w a ua) (rb : RT k F φ w b ub) : ∃ q, uc = .bool q ∧ RT k F φ w y (if q then ua else ub) := by
  unfold evPick at h
  split at h
  · cases h
    have : uc = .bool true := plainT_eq (x := .bool true) rfl rc
    exact ⟨true, this, by simpa using ra⟩
  · cases h
    have : uc = .bool false := plainT_eq (x := .bool false) rfl rc
    exact ⟨false, this, by simpa using rb⟩
  · cases h

theorem evNil_ok {F : Nat → Prop} {x y : T} {u : Value} (h : evNil x = some y) (r : RT k F φ w x u) : y = x ∧ ((∃ a, u = .pointer (some a)) ∨ (∃ f c d, u = .func (.func f) c d) ∨ ∃ l c d, u = .func (.yield l) c d) := by
  unfold evNil at h
  split at h
  · cases h; obtain ⟨x, _, rfl⟩ := r; exact ⟨rfl, .inl ⟨_, rfl⟩⟩
  · cases h; obtain ⟨b, o, rfl, _⟩ := r; exact ⟨rfl, .inl ⟨_, rfl⟩⟩
  · cases h; obtain ⟨vs, rfl, _⟩ := r; exact ⟨rfl, .inr (.inl ⟨_, _, _, rfl⟩)⟩
  · cases h; obtain ⟨x, _, rfl⟩ := r; exact ⟨rfl, .inr (.inr ⟨_, _, _, rfl⟩)⟩
  · rename_i f c d
    cases h
    have : u = .func (.func f) c d := plainT_eq rfl r
    exact ⟨rfl, .inr (.inl ⟨_, _, _, this⟩)⟩
  · cases h

theorem ptrsOf_ok {F : Nat → Prop} : ∀ {xs : List T} {ps : List (Nat × Nat)} {us : List Value}, ptrsOf xs = some ps → us.length = xs.length → (∀ (j : Nat) t, xs[j]? = some t → ∃ u, us[j]? = some u ∧ RT k F φ w t u) →
    us.length = ps.length ∧ ∀ (j b o : Nat), ps[j]? = some (b, o) → ∃ x, φ b = some x ∧ us[j]? = some (.pointer (some ⟨x, o, none⟩))
  | [], ps, us, h, hl, hr => by
    simp [ptrsOf] at h; subst h
    exact ⟨by simpa using hl, fun j b o hj => by simp at hj⟩
  | t :: xs, ps, us, h, hl, hr => by
    unfold ptrsOf at h
    split at h
    · rename_i heq; cases heq
    · rename_i b o r heq
      cases heq
      simp only [Option.map_eq_some_iff] at h
      obtain ⟨ps', h1, rfl⟩ := h
      cases us with
      | nil => simp at hl
      | cons u us =>
        obtain ⟨u', hu, x, hx, rfl⟩ := hr 0 _ rfl
        simp at hu; subst hu
        obtain ⟨q1, q2⟩ := ptrsOf_ok h1 (us := us) (by simpa using hl) (fun j t hj => by simpa using hr (j + 1) t (by simpa using hj))
        refine ⟨by simp [q1], fun j b' o' hj => ?_⟩
        cases j with
        | zero => simp at hj; obtain ⟨rfl, rfl⟩ := hj; exact ⟨x, hx, rfl⟩
        | succ j => simpa using q2 j b' o' (by simpa using hj)
    · cases h

theorem evMkf_ok {F : Nat → Prop} {f : FuncId} {xs : List T} {y : T} {us : List Value} (h : evMkf f xs = some y) (hl : us.length = xs.length) (hr : ∀ (j : Nat) t, xs[j]? = some t → ∃ u, us[j]? = some u ∧ RT k F φ w t u) :
    RT k F φ w y (.func (.func f) #[] us.toArray) := by
  unfold evMkf at h
  simp only [Option.map_eq_some_iff] at h
  obtain ⟨ps, hp, rfl⟩ := h
  obtain ⟨q1, q2⟩ := ptrsOf_ok hp hl hr
  exact ⟨us.toArray, rfl, by simpa using q1, fun j b o hj => let ⟨x, hx, hu⟩ := q2 j b o hj; ⟨x, hx, by simpa using hu⟩⟩

theorem evR_ok (hH : HR k Bt F0 N φ w H S) {cop : COp} (hok : OpOk P R o cop) (hσ : ∀ od x, R od x → RT k (Fo F0 φ H S) φ w (σ od) (ρ x)) {y : T} {rd : Option Nat} (h : evR H σ cop = some (y, rd)) :
    ∃ u w', (execOp ρ o).run P w = .ok (.value u) w' ∧ Ext w w' ∧ RT k (Fo F0 φ H S) φ w' y u := by
  have pure : ∀ {s : Sem Value}, (execOp ρ o = do Pure.pure (Next.value (← s))) → (∃ u, s.run P w = .ok u w ∧ RT k (Fo F0 φ H S) φ w y u) → ∃ u w', (execOp ρ o).run P w = .ok (.value u) w' ∧ Ext w w' ∧ RT k (Fo F0 φ H S) φ w' y u := by
    rintro s he ⟨u, hu, hr⟩
    exact ⟨u, w, by rw [he]; simp [hu], Ext.refl w, hr⟩
  cases cop with
  | mv a =>
    obtain ⟨x, hop, ha⟩ := hok
    cases h
    refine ⟨ρ x, w, ?_, Ext.refl w, hσ _ _ ha⟩
    rcases hop with hop | hop <;> simp [execOp, hop]
  | pick c a b =>
    obtain ⟨c', a', b', hop, hc, ha, hb⟩ := hok
    obtain ⟨q, hq, hr⟩ := evPick_ok (wi_some h).1 (hσ _ _ hc) (hσ _ _ ha) (hσ _ _ hb)
    refine ⟨_, w, ?_, Ext.refl w, hr⟩
    simp [execOp, hop, hq, asBool]
  | ld ag n a =>
    obtain ⟨t, x, hop, ha, ht⟩ := hok
    exact pure (by simp only [execOp, hop]) (evLd_ok hH ht (wi_some h).1 (hσ _ _ ha))
  | off n a =>
    obtain ⟨s, x, f, fs, fd, m, hop, ha, hu, hf, ho, hm⟩ := hok
    exact pure (by simp only [execOp, hop]) (evOff_fld hu hf ho hm (wi_some h).1 (hσ _ _ ha))
  | part ag n p a =>
    obtain ⟨s, x, f, fs, fd, hop, ha, hu, hf, ho, ht⟩ := hok
    exact pure (by simp only [execOp, hop]) (evPart_ok hu hf ho ht (wi_some h).1 (hσ _ _ ha))
  | ixS s a i =>
    obtain ⟨t, e, x, ix, hop, ha, hi, hu, hs⟩ := hok
    exact pure (by simp only [execOp, hop]) (evIxS_ok hu hs (wi_some h).1 (hσ _ _ ha) (hσ _ _ hi))
  | ixR len s a i =>
    obtain ⟨t, e, x, ix, hop, ha, hi, hu, hs⟩ := hok
    exact pure (by simp only [execOp, hop]) (evIxR_ok hu hs (wi_some h).1 (hσ _ _ ha) (hσ _ _ hi))
  | at_ ag n len a i =>
    obtain ⟨t, e, x, ix, hop, ha, hi, hu, ht⟩ := hok
    exact pure (by simp only [execOp, hop]) (evAt_ok hu ht (wi_some h).1 (hσ _ _ ha) (hσ _ _ hi))
  | ext i a =>
    obtain ⟨x, hop, ha⟩ := hok
    exact pure (by simp only [execOp, hop]) (evExtract_ok (wi_some h).1 (hσ _ _ ha))
  | nilc a =>
    obtain ⟨x, hop, ha⟩ := hok
    obtain ⟨rfl, hu⟩ := evNil_ok (wi_some h).1 (hσ _ _ ha)
    refine ⟨ρ x, w, ?_, Ext.refl w, hσ _ _ ha⟩
    rcases hu with ⟨a, hu⟩ | ⟨f, c, d, hu⟩ | ⟨f, c, d, hu⟩ <;> simp [execOp, hop, hu]
  | bld zs pl is cs =>
    obtain ⟨t, ps, hop, hb, his, hcs⟩ := hok
    have e : ∀ l : List (Nat × Operand), (l.map (·.2)).map ρ = l.map fun p => ρ p.2 := fun l => by simp
    obtain ⟨q1, q2⟩ := hcs.rt hσ
    rw [e] at q1 q2
    obtain ⟨p1, p2⟩ := zipI_rt his q1 q2
    exact pure (s := Instr.build t (ps.map fun (i, x) => (i, ρ x))) (by simp only [execOp, hop]) (evBld_ok hb (wi_some h).1 (by simpa using p1) (fun j i t hj => by
      obtain ⟨u, hu, hr⟩ := p2 j i t hj
      exact ⟨u, by simpa using hu, hr⟩))
  | bsl z s len is cs =>
    obtain ⟨t, e', bytes, ps, hop, hu, hel, his, hcs⟩ := hok
    have e : ∀ l : List (Nat × Operand), (l.map (·.2)).map ρ = l.map fun p => ρ p.2 := fun l => by simp
    obtain ⟨q1, q2⟩ := hcs.rt hσ
    rw [e] at q1 q2
    obtain ⟨p1, p2⟩ := zipI_rt his q1 q2
    obtain ⟨u, w', h1, h2, h3⟩ := evBslF_ok (P := P) (fun x hx => hH.fo_lt hx) hu hel (wi_some h).1 (qs := ps.map fun (i, x) => (i, ρ x)) (by simpa using p1) (fun j i t hj => by
      obtain ⟨u, hu, hr⟩ := p2 j i t hj
      exact ⟨u, by simpa using hu, hr⟩)
    exact ⟨u, w', by simp [execOp, hop, h1], h2, h3⟩
  | slc s a lo hi =>
    obtain ⟨t, e, x, l, hh, hop, ha, hlo, hhi, hu, hs⟩ := hok
    exact pure (by simp only [execOp, hop, Option.map_none]) (evSlc_ok hu hs (wi_some h).1 (hσ _ _ ha) (hlo.rt hσ) (hhi.rt hσ))
  | slcR n s a =>
    obtain ⟨t, e, x, hop, ha, hu, hs⟩ := hok
    exact pure (by simp only [execOp, hop, Option.map_none]) (evSlcR_ok hH hu hs (wi_some h).1 (hσ _ _ ha))
  | slc3 s a lo hi mx =>
    obtain ⟨t, e, x, l, hh, m, hop, ha, hlo, hhi, hmx, hu, hs⟩ := hok
    exact pure (by simp only [execOp, hop, Option.map_some]) (evSlc3_ok hu hs (wi_some h).1 (hσ _ _ ha) (hlo.rt hσ) (hσ _ _ hhi) (hσ _ _ hmx))
  | len a =>
    obtain ⟨c, x, t, e, hop, hcal, hargs, hty, ha, hu⟩ := hok
    obtain ⟨u, h1, h2⟩ := evLen_ok (ty := o.type) hu (wi_some h).1 (hσ _ _ ha)
    exact ⟨u, w, by simp [execOp, hop, resolve, hcal, invoke, builtin, hargs, hty, h1], Ext.refl w, h2⟩
  | cap a =>
    obtain ⟨c, x, t, e, hop, hcal, hargs, hty, ha, hu⟩ := hok
    obtain ⟨u, h1, h2⟩ := evCap_ok (ty := o.type) hu (wi_some h).1 (hσ _ _ ha)
    exact ⟨u, w, by simp [execOp, hop, resolve, hcal, invoke, builtin, hargs, hty, h1], Ext.refl w, h2⟩
  | nilS neg a b =>
    obtain ⟨t, e, x, z, t', hop, ha, hb, hu⟩ := hok
    simp only [evR] at h
    split at h
    · rename_i hz
      obtain ⟨u', h1, h2, A, n, c, hx⟩ := evNilS_ok hu (wi_some h).1 (hσ _ _ ha)
      have hc := isNilT_ok hz (hσ _ _ hb)
      rw [hx] at h1
      refine ⟨u', w, ?_, Ext.refl w, h2⟩
      have hg : ∀ op, (eqGuard op t x z (.slice A n c) (.slice none 0 0)).run P w = .ok () w := by
        intro op
        cases op <;> rfl
      cases neg
      · have h1' : (binOp .eql t (.slice A n c) (.slice none 0 0)).run P w = .ok u' w := h1
        simp [execOp, hop, hg, hx, hc, h1']
      · have h1' : (binOp .neq t (.slice A n c) (.slice none 0 0)).run P w = .ok u' w := h1
        simp [execOp, hop, hg, hx, hc, h1']
    · cases h
  | ixc a i =>
    obtain ⟨t, x, ix, hop, ha, hi, hu⟩ := hok
    have hev := (wi_some h).1
    unfold evIxc at hev
    split at hev
    · rename_i str n hx hn
      split at hev
      · rename_i b hb
        cases hev
        obtain ⟨q, e⟩ := natT_ok hn (hσ _ _ hi)
        have hr := hσ _ _ ha
        rw [hx] at hr
        have hstr : ρ x = .string str := plainT_eq (x := .string str) rfl hr
        have hget : str[n]? = some b := by
          have hlt : n < str.data.size := by
            have := (List.getElem?_eq_some_iff.1 hb).1
            simpa using this
          have e1 : str[n]? = some str[n] := getElem?_pos str n hlt
          rw [e1]
          have := (List.getElem?_eq_some_iff.1 hb).2
          rw [← this]
          rfl
        refine ⟨.int .u8 (b.toNat : Int), w, ?_, Ext.refl w, .v _ rfl⟩
        simp [execOp, hop, hstr, e, Instr.index, asIntOf, run_underlying hu, hget]
      · cases hev
    · cases hev
  | pk p cs =>
    obtain ⟨l, hk, hl⟩ := hok
    obtain ⟨q1, q2⟩ := hl.rt hσ
    obtain ⟨X, h1, h2⟩ := evPk_rt hk (wi_some h).1 q1 q2
    exact ⟨X, w, h1, Ext.refl w, h2⟩
  | mkf f cs =>
    obtain ⟨cap, hop, hl⟩ := hok
    obtain ⟨q1, q2⟩ := hl.rt hσ
    refine ⟨_, w, ?_, Ext.refl w, evMkf_ok (wi_some h).1 q1 q2⟩
    have e : cap.map ρ = (cap.toList.map ρ).toArray := by cases cap; simp
    simp [execOp, hop, Instr.makeFunc, e]
  | lku zs m key =>
    obtain ⟨t, xm, xk, hop, hm, hk, ht⟩ := hok
    exact pure (by simp only [execOp, hop]) (evLookup_ok hH ht (wi_some h).1 (hσ _ _ hm) (hσ _ _ hk))
  | _ => simp [evR] at h

/-- What is read stands in one block. -/
theorem evR_congr {H' : Hp} {cop : COp} {y : T} {rd : Option Nat} (h : evR H σ cop = some (y, rd)) (hb : ∀ b, rd = some b → H'[b]? = H[b]?) : evR H' σ cop = some (y, rd) := by
  have cells : ∀ (d : D) (n : Nat), (∀ b, blkOf (.t (.one d)) = some b → H'[b]? = H[b]?) → cellsAt H' d n = cellsAt H d n := by
    intro d n hd
    cases d with
    | ptr b o => simp only [cellsAt, hd b rfl]
    | _ => rfl
  cases cop with
  | ld ag n a =>
    obtain ⟨h1, h2⟩ := wi_some h
    subst h2
    have : evLd ag n H' (σ a) = evLd ag n H (σ a) := by
      unfold evLd
      split
      · rename_i d hd
        rw [hd] at hb
        rw [cells d n hb, cells d 1 hb]
      · rfl
    simp only [evR, this, h1, wi]
  | slcR n s a =>
    obtain ⟨h1, h2⟩ := wi_some h
    subst h2
    have : evSlcR n s H' (σ a) = evSlcR n s H (σ a) := by
      unfold evSlcR
      split
      · rename_i d hd
        rw [hd] at hb
        rw [cells d _ hb]
      · rfl
    simp only [evR, this, h1, wi]
  | lku zs m key =>
    obtain ⟨h1, h2⟩ := wi_some h
    subst h2
    have : evLookup zs H' (σ m) (σ key) = evLookup zs H (σ m) (σ key) := by
      unfold evLookup
      split
      · rename_i b l hm hk
        rw [hm] at hb
        rw [hb b rfl]
      · rfl
    simp only [evR, this, h1, wi]
  | _ => exact h

/-- What a new block comes to. -/
def AlPost (k : Cls) (Bt : Bodies) (F : Nat → Prop) (φ : Nat → Option Nat) (w : World) (b : Nat) (x : Blk) (y : T) (u : Value) (w' : World) : Prop :=
  ∃ a, w.heap.size ≤ a ∧ Ext w w' ∧ (∀ F' φ', Kp F φ w F' φ' w' → RB k Bt F' φ' w' a x) ∧ ∀ F' φ' w'', φ' b = some a → RB k Bt F' φ' w'' a x → RT k F' φ' w'' y u

theorem evA_ok {F : Nat → Prop} {b : Nat} {x : Blk} {cop : COp} (hok : OpOk P R o cop) (hσ : ∀ od x, R od x → RT k F φ w (σ od) (ρ x)) {y : T} (h : evA b σ cop = some (x, y)) :
    ∃ u w', (execOp ρ o).run P w = .ok (.value u) w' ∧ AlPost k Bt F φ w b x y u w' := by
  have var : ∀ {e : TypeId} {v : Value} {ds : List D}, e ≠ Limb.u → RL k F φ w v.cells.toList ds → ∃ u w', (do pure (Value.pointer (some (← newVar e v))) : Sem Value).run P w = .ok u w' ∧ AlPost k Bt F φ w b (.cells ds) (.t (.one (.ptr b 0))) u w' := by
    intro e v ds hte hr
    have hx : Ext w (w.alloc (.cells v.cells e)) := ext_alloc _
    refine ⟨.pointer (some ⟨w.heap.size, 0, none⟩), w.alloc (.cells v.cells e), by simp [newVar, newRow], w.heap.size, Nat.le_refl _, hx, fun F' φ' q => ⟨v.cells, e, alloc_at w _, ?_, fun j d hj => ?_, hte⟩, fun F' φ' w'' hb _ => ⟨w.heap.size, hb, rfl⟩⟩
    · have := hr.1; simp at this; omega
    · obtain ⟨u, hu, hd⟩ := hr.2 j d hj
      exact ⟨u, by simpa using hu, hd.kp q⟩
  cases cop with
  | new ds =>
    obtain ⟨e, i, z, hop, hi, hz, hds, hte⟩ := hok
    cases h
    obtain ⟨u, w', h1, h2⟩ := var (e := e) (v := z) hte (ofL_RL hds)
    refine ⟨u, w', ?_, h2⟩
    have hzv : (zeroValue e).run P w = .ok z w := by simp [zeroValue, typeInfo, hi, hz]
    simp only [execOp, hop, Instr.alloc, Sem.run_bind, hzv, Result.andThen_ok]
    rw [← Sem.run_bind, h1]
    rfl
  | box a =>
    obtain ⟨e, xo, hop, ha, hte⟩ := hok
    simp only [evA] at h
    split at h
    · rename_i ds hds
      cases h
      obtain ⟨u, w', h1, h2⟩ := var (e := e) (v := ρ xo) hte (cellsT_ok hds (hσ _ _ ha))
      refine ⟨u, w', ?_, h2⟩
      simp only [execOp, hop, Instr.box, Sem.run_bind]
      rw [← Sem.run_bind, h1]
      rfl
    · cases h
  | mk z s bytes l c =>
    obtain ⟨t, e, xl, xc, hop, hl, hc, hu, ⟨i, zv, hi, hz, rfl, rfl, rfl⟩, hte⟩ := hok
    simp only [evA] at h
    split at h
    · rename_i nl nc hnl hnc
      split at h
      · rename_i hcond
        obtain ⟨h1, h2, h3⟩ := hcond
        split at h
        · rename_i ds hd
          cases h
          obtain ⟨k1, e1⟩ := natT_ok hnl (hσ _ _ hl)
          obtain ⟨k2, e2⟩ := natT_ok hnc (hσ _ _ hc)
          have hb : (i.bytes : Int) * (nc : Int) ≤ 281474976710656 := by
            have : ((i.bytes * nc : Nat) : Int) ≤ 281474976710656 := by omega
            rwa [Int.natCast_mul] at this
          have hr := run_make (P := P) w t e i zv hu hi hz k1 k2 nl nc (by omega) (by omega) hb (by omega)
          simp only [Int.toNat_natCast] at hr
          have hx : Ext w (w.alloc (.cells (madeCells zv.cells (nc * i.size)) e)) := ext_alloc _
          have hrl : RL k F φ w (madeCells zv.cells (nc * i.size)).toList ds := by rw [rowZ_eq]; exact ofL_RL hd
          have e1' := hrl.1
          refine ⟨_, _, by simp only [execOp, hop, e1, e2, Sem.run_bind, hr, Result.andThen_ok]; rfl, w.heap.size, Nat.le_refl _, hx, fun F' φ' q => ⟨_, e, alloc_at w _, by simp at e1'; omega, fun j d hj => ?_, hte⟩, fun F' φ' w'' hb' hB => ?_⟩
          · obtain ⟨u, hu, hd⟩ := hrl.2 j d hj
            exact ⟨u, by simpa using hu, hd.kp q⟩
          · obtain ⟨vs, tt, hw, hlen, _⟩ := hB
            have hdl : ds.length = nc * i.size := by rw [← e1']; simp [size_madeCells]
            exact ⟨w.heap.size, nc, hb', rfl, h1, vs, tt, _, hw, by omega⟩
        · cases h
      · cases h
    · cases h
  | mkm =>
    obtain ⟨t, hop⟩ := hok
    cases h
    have hx : Ext w (w.alloc (.map #[] 0)) := ext_alloc _
    exact ⟨_, _, by simp only [execOp, hop, Instr.makeMap]; simp, w.heap.size, Nat.le_refl _, hx, fun F' φ' q => ⟨#[], 0, alloc_at w _, rfl, rfl, fun j e h => by simp at h, fun j key ds hj => by simp at hj⟩, fun F' φ' w'' hb _ => ⟨w.heap.size, hb, rfl⟩⟩
  | _ => simp [evA] at h

theorem evO_fm {cf : CFn} (hcf : CfOk P k Bt cf) {cop : COp} {y : T} {H' : Hp} {S' W : List Nat} (h : evO cf H S σ cop = some (y, H', S', W)) : Fm H W H' := by
  cases cop with
  | app s bytes d a =>
    simp only [evO] at h
    split at h
    · rename_i y' H1 he
      cases h
      unfold evAppend at he
      split at he
      · split at he
        · split at he
          · cases he; exact Fm.refl _ _
          · split at he
            · cases he; exact Fm.refl _ _
            · cases he
          · cases he
        · split at he
          · split at he
            · rename_i hd
              cases he
              exact (Fm.push _ _).imp_w
            · cases he
              exact (Fm.push _ _).imp_w
            · rename_i b n s' hd
              split at he
              · split at he
                · cases he
                  rw [hd]
                  exact (Fm.set H b none).trans (Fm.push (H.set b none) _)
                · cases he
              · cases he
            · cases he
          · cases he
      · cases he
    · cases h
  | appz z s bytes d n =>
    simp only [evO] at h
    split at h
    · rename_i y' H1 he
      cases h
      unfold evAppZ at he
      split at he
      · split at he
        · split at he
          · split at he
            · cases he; exact Fm.push _ _
            · cases he; exact Fm.push _ _
            · cases he
          · cases he
        · cases he
      · cases he
    · cases h
  | cpy s d a =>
    simp only [evO] at h
    split at h
    · rename_i y' H1 he
      cases h
      unfold evCopy at he
      split at he
      · rename_i b o n s' hd
        split at he
        · split at he
          · cases he; rw [hd]; exact Fm.set _ _ _
          · cases he
        · cases he
      · split at he
        · cases he; exact Fm.refl _ _
        · cases he
      · cases he
    · cases h
  | sto n a x =>
    simp only [evO] at h
    split at h
    · rename_i H1 he
      cases h
      unfold evStore at he
      split at he
      · rename_i b o ds ha hds
        split at he
        · split at he
          · cases he; rw [ha]; exact Fm.set _ _ _
          · cases he
        · cases he
      · cases he
    · cases h
  | mset m key x =>
    simp only [evO] at h
    split at h
    · rename_i H1 he
      cases h
      unfold evMapSet at he
      split at he
      · rename_i b l ds hm hl hx
        rw [hm]
        split at he
        · split at he
          · split at he
            · cases he
            · split at he
              · cases he; exact Fm.set _ _ _
              · cases he; exact Fm.set _ _ _
          · cases he
        · cases he
      · cases he
    · cases h
  | call g xs => exact (hcf _ _ _ _ _ _ _ _ h).2.1
  | rng a =>
    simp only [evO] at h
    split at h
    · rename_i y' H1 he
      cases h
      unfold evRng at he
      split at he
      · split at he
        · cases he; exact Fm.push _ _
        · cases he
      · cases he
    · cases h
  | ent a =>
    simp only [evO] at h
    split at h
    · cases h; exact Fm.refl _ _
    · cases h
  | lenM a =>
    simp only [evO] at h
    split at h
    · cases h; exact Fm.refl _ _
    · cases h
  | _ => simp [evO] at h

theorem evO_ok {cf : CFn} (hcf : CfOk P k Bt cf) (hH : HR k Bt F0 N φ w H S) (hN : N ≤ w.heap.size) {cop : COp} (hok : OpOk P R o cop) (hσ : ∀ od x, R od x → RT k (Fo F0 φ H S) φ w (σ od) (ρ x)) {y : T} {H' : Hp} {S' W : List Nat} (h : evO cf H S σ cop = some (y, H', S', W)) :
    yieldsC P (fun u w' => Post k Bt F0 N φ w H S H' S' y u w') ((execOp ρ o).run P w) := by
  cases cop with
  | app s bytes d a =>
    obtain ⟨c, xd, xs, t, e, hop, hcal, hargs, hty, hd, ha, hu, he⟩ := hok
    simp only [evO] at h
    split at h
    · rename_i y' H1 hev
      cases h
      obtain ⟨u, w', h1, h2⟩ := evAppend_ok (P := P) (ty := o.type) hH hN hu he hev (hσ _ _ hd) (hσ _ _ ha)
      have : (execOp ρ o).run P w = .ok (.value u) w' := by simp [execOp, hop, resolve, hcal, invoke, builtin, hargs, hty, h1]
      rw [this]; exact h2
    · cases h
  | appz z s bytes d n =>
    obtain ⟨c, xd, xn, t, tn, e, kn, hop, hcal, hargs, hty, hd, hn, hu, htn, he, hzs, hs0, hte⟩ := hok
    simp only [evO] at h
    split at h
    · rename_i y' H1 hev
      cases h
      obtain ⟨u, w', h1, h2⟩ := evAppZ_ok (P := P) (ty := o.type) hH hN hte hu htn he hzs hs0 hev (hσ _ _ hd) (hσ _ _ hn)
      have : (execOp ρ o).run P w = .ok (.value u) w' := by simp [execOp, hop, resolve, hcal, invoke, builtin, hargs, hty, h1]
      rw [this]; exact h2
    · cases h
  | cpy s d a =>
    obtain ⟨c, xd, xs, t, t', e, hop, hcal, hargs, hty, hd, ha, hu, he⟩ := hok
    simp only [evO] at h
    split at h
    · rename_i y' H1 hev
      cases h
      obtain ⟨u, w', h1, h2⟩ := evCopy_ok (P := P) (t' := t') (ty := o.type) hH hN hu he hev (hσ _ _ hd) (hσ _ _ ha)
      have : (execOp ρ o).run P w = .ok (.value u) w' := by simp [execOp, hop, resolve, hcal, invoke, builtin, hargs, hty, h1]
      rw [this]; exact h2
    · cases h
  | sto n a x =>
    obtain ⟨t, xa, xx, hop, ha, hx, hn⟩ := hok
    simp only [evO] at h
    split at h
    · rename_i H1 hev
      cases h
      obtain ⟨w', h1, h2, h3, h4, h5⟩ := evStore_ok (P := P) hH hN hn hev (hσ _ _ ha) (hσ _ _ hx)
      have : (execOp ρ o).run P w = .ok .skip w' := by simp [execOp, hop, h1]
      rw [this]
      exact ⟨φ, h2, h3, h4, trivial, fun _ _ => rfl, h5⟩
    · cases h
  | mset m key x =>
    obtain ⟨t, zs, xm, xk, xx, hop, hm, hk, hx, ht⟩ := hok
    simp only [evO] at h
    split at h
    · rename_i H1 hev
      cases h
      obtain ⟨w', h1, h2, h3, h4, h5⟩ := evMapSet_ok (P := P) hH hN ht hev (hσ _ _ hm) (hσ _ _ hk) (hσ _ _ hx)
      have : (execOp ρ o).run P w = .ok .skip w' := by rcases hop with hop | hop <;> simp [execOp, hop, h1]
      rw [this]
      exact ⟨φ, h2, h3, h4, trivial, fun _ _ => rfl, h5⟩
    · cases h
  | call g cs =>
    obtain ⟨c, f, hop, hcal, hg, hcs⟩ := hok
    obtain ⟨q1, q2⟩ := hcs.rt hσ
    have := (hcf _ _ _ _ _ _ _ _ h).2.2 F0 N φ w (ρ f) (c.args.toList.map ρ) hH hN (hσ _ _ hg) q1 q2
    have e : c.args.map ρ = (c.args.toList.map ρ).toArray := by cases c.args; simp
    simpa [execOp, hop, resolve, hcal, e] using this
  | rng a =>
    obtain ⟨t, x, kt, et, hop, ha, hu⟩ := hok
    simp only [evO] at h
    split at h
    · rename_i y' H1 hev
      cases h
      have hr := hσ _ _ ha
      unfold evRng at hev
      split at hev
      · rename_i b hb
        split at hev
        · rename_i es hHb
          cases hev
          rw [hb] at hr
          obtain ⟨bm, hbm, hx⟩ := hr
          obtain ⟨_, ens, clk, hw, hsz, hclk, _, _⟩ := hH.at_ b _ bm hHb hbm
          have hx1 : Ext w (w.alloc (.mapIter (some bm) clk #[] clk)) := ext_alloc _
          have hn : clk = es.length := by rw [hclk, hsz]
          obtain ⟨g1, g2⟩ := push_blk hH (H1 := H) rfl (fun _ _ h => h) hN (Nat.le_refl _) hx1 (y0 := .it b es.length []) (fun F ψ q => ⟨bm, q.phi b bm hbm, by rw [← hn]; exact alloc_at w _⟩)
          have hrun : (execOp ρ o).run P w = .ok (.value (.pointer (some ⟨w.heap.size, 0, none⟩))) (w.alloc (.mapIter (some bm) clk #[] clk)) := by
            simp only [execOp, hop, hx, Sem.run_bind, run_range_map w t kt et bm ens clk hu hw, Result.andThen_ok]
            rfl
          rw [hrun]
          exact ⟨_, Below.mono hx1 hN, g1, g2, ⟨w.heap.size, bindφ_same, rfl⟩, fun c hc => bindφ_other (by omega), Old.ext hx1⟩
        · cases hev
      · cases hev
    · cases h
  | ent a =>
    obtain ⟨x, hop, ha⟩ := hok
    simp only [evO] at h
    split at h
    · rename_i y' hev
      cases h
      have hr := hσ _ _ ha
      unfold evEnt at hev
      split at hev
      · rename_i b hb
        split at hev
        · rename_i m n ks hHb
          split at hev
          · rename_i j es hj hHm
            split at hev
            · rename_i hn
              split at hev
              · rename_i key ds hes
                cases hev
                rw [hb] at hr
                obtain ⟨r, hr1, hx⟩ := hr
                obtain ⟨_, bm, hbm, hit⟩ := hH.at_ b _ r hHb hr1
                obtain ⟨_, ens, clk, hw, hsz, hclk, hborn, h3⟩ := hH.at_ m _ bm hHm hbm
                obtain ⟨e, he, hk, h4, hv⟩ := h3 j key ds hes
                have hn' : n = clk := by rw [hclk, hsz]; exact Nat.eq_of_beq_eq_true hn
                have hback : ks.toArray.back? = some j := by
                  rw [List.back?_toArray]
                  have : ∀ {l : List Nat} {j : Nat}, lastN l = some j → l.getLast? = some j := by
                    intro l
                    induction l with
                    | nil => intro j h; cases h
                    | cons a l ih =>
                      intro j h
                      cases l with
                      | nil => simp [lastN] at h; simp [h]
                      | cons b l => rw [List.getLast?_cons_cons]; exact ih h
                  exact this hj
                have hfind : ens.find? (·.born == j) = some e := by
                  have hbe := hborn j e he
                  have hn2 : (ens.toList.map (·.born)).Nodup := by
                    have : ens.toList.map (·.born) = List.range ens.size := by
                      apply List.ext_getElem?
                      intro i
                      rw [List.getElem?_map]
                      by_cases hi : i < ens.size
                      · rw [List.getElem?_range hi]
                        simp [hi, hborn i ens[i] (Array.getElem?_eq_getElem hi)]
                      · rw [List.getElem?_eq_none (by simpa using hi), List.getElem?_eq_none (by simpa using hi)]; rfl
                    rw [this]; exact List.nodup_range
                  rw [← Array.find?_toList, ← hbe]
                  exact find_born e ens.toList hn2 (by simpa using Array.mem_of_getElem? he)
                have hrun : (execOp ρ o).run P w = .ok (.value (.tuple #[e.key, e.val])) w := by
                  have hgr : (getObj r).run P w = .ok (.mapIter (some bm) n ks.toArray n) w := by simp [getObj, Sem.run, hit]
                  have hgm : (getObj bm).run P w = .ok (.map ens clk) w := by simp [getObj, Sem.run, hw]
                  simp [execOp, hop, hx, Instr.entry, hgr, hgm, hback, hn', hfind]
                rw [hrun]
                refine ⟨φ, Below.refl _ _, hH, Kp.refl, ⟨#[e.key, e.val], rfl, rfl, fun i d hi => ?_⟩, fun _ _ => rfl, Old.ext (Ext.refl _)⟩
                match i, hi with
                | 0, hi =>
                  simp at hi; subst hi
                  refine ⟨e.key, rfl, _, hk, by simp, fun i d hi => ?_⟩
                  rw [List.getElem?_map, Option.map_eq_some_iff] at hi
                  obtain ⟨z, hz, rfl⟩ := hi
                  exact ⟨.int .i64 z, by simp [hz], .v _ rfl⟩
                | 1, hi => simp at hi; subst hi; exact ⟨e.val, rfl, hv⟩
                | i + 2, hi => simp at hi
              · cases hev
            · cases hev
          · cases hev
        · cases hev
      · cases hev
    · cases h
  | lenM a =>
    obtain ⟨c, x, t, kt, et, hop, hcal, hargs, hty, ha, hu⟩ := hok
    simp only [evO] at h
    split at h
    · rename_i y' hev
      cases h
      have hr := hσ _ _ ha
      unfold evLenM at hev
      split at hev
      · rename_i b hb
        split at hev
        · rename_i es hHb
          cases hev
          rw [hb] at hr
          obtain ⟨bm, hbm, hx⟩ := hr
          obtain ⟨_, ens, clk, hw, hsz, _, _, _⟩ := hH.at_ b _ bm hHb hbm
          have hgm : (getObj bm).run P w = .ok (.map ens clk) w := by simp [getObj, Sem.run, hw]
          have hrun : (execOp ρ o).run P w = .ok (.value (goInt ens.size)) w := by
            simp [execOp, hop, resolve, hcal, invoke, builtin, hargs, hty, Builtin.len_, run_underlying hu, hx, hgm]
          rw [hrun]
          exact ⟨φ, Below.refl _ _, hH, Kp.refl, by rw [hsz]; exact .v _ rfl, fun _ _ => rfl, Old.ext (Ext.refl _)⟩
        · cases hev
      · cases hev
    · cases h
  | _ => simp [evO] at h
end
end Go.Mach
namespace Go.Mach
open Go Go.RowKit Go.Flow
variable [Limb]

structure Ro1 where
  gd : Option (Nat × Bool)
  kp : Option Nat
  lo : List Nat
  op : COp
  deriving Inhabited

def wantO (ys : List T) : Option (Nat × Bool) → Option Bool
  | none => some true
  | some (d, b) => match nth ys d with | .t (.one (.c (.v (.bool c)))) => some (c == b) | .tup [] => some false | _ => none

/-- One operation: its value, memory, what was sealed, written, read. -/
def stepO (cf : CFn) (ys τ : List T) (H : Hp) (S : List Nat) (o : Ro1) : Option (T × Hp × List Nat × List Nat × Option Nat) :=
  match wantO ys o.gd with
  | none => none
  | some false => some (.tup [], H, S, [], none)
  | some true =>
    match kd o.op with
    | .r => match evR H (evOd ys τ) o.op with | some (y, rd) => some (y, H, S, [], rd) | none => none
    | .a => match evA H.length (evOd ys τ) o.op with | some (x, y) => some (y, H ++ [some x], S, [], none) | none => none
    | .o => match evO cf H S (evOd ys τ) o.op with | some (y, H', S', W) => some (y, H', S', W, none) | none => none

def setN : List T → Nat → T → List T
  | [], _, _ => []
  | _ :: r, 0, y => y :: r
  | x :: r, n + 1, y => x :: setN r n y
def setO (τ : List T) (y : T) : Option Nat → List T
  | some p => setN τ p y
  | none => τ

def notIn (rd : Option Nat) (W : List Nat) : Bool := match rd with | some b => !(W.any fun c => Nat.beq c b) | none => true
def nthI : List (Option Nat × List Nat) → Nat → Option Nat × List Nat
  | [], _ => (none, [])
  | x :: _, 0 => x
  | _ :: r, n + 1 => nthI r n
def okLo (inf : List (Option Nat × List Nat)) (rd : Option Nat) (W : List Nat) : List Nat → Bool
  | [] => true
  | d :: r => if notIn rd (nthI inf d).2 && notIn (nthI inf d).1 W then okLo inf rd W r else false

def runR (cf : CFn) (τ : List T) : List Ro1 → List T → Hp → List Nat → List T → List Nat → List (Option Nat × List Nat) → Option (List T × Hp × List Nat × List Nat)
  | [], _, H, S, τ', W, _ => some (τ', H, S, W)
  | o :: r, ys, H, S, τ', W, inf =>
    match stepO cf ys τ H S o with
    | some (y, H', S', W', rd) => if okLo inf rd W' o.lo then runR cf τ r (y :: ys) H' S' (setO τ' y o.kp) (W' ++ W) ((rd, W') :: inf) else none
    | none => none

/-- From one state of memory to another. -/
structure Tr (k : Cls) (Bt : Bodies) (F0 : Nat → Prop) (N : Nat) (φ : Nat → Option Nat) (w : World) (H : Hp) (S : List Nat) (φ' : Nat → Option Nat) (w' : World) (H' : Hp) (S' : List Nat) : Prop where
  below : Below N w w'
  hr : HR k Bt F0 N φ' w' H' S'
  kp : Kp (Fo F0 φ H S) φ w (Fo F0 φ' H' S') φ' w'
  same : ∀ c, c < H.length → φ' c = φ c
  old : Old φ H S w w'
  len : H.length ≤ H'.length

def FrR (k : Cls) (F : Nat → Prop) (φ : Nat → Option Nat) (w : World) (kp : List Tmp) (τ : List T) (a : Act) : Prop :=
  ∀ (p t : Nat), kp[p]? = some t → RT k F φ w (nth τ p) (a.tmps.getD t undef)

section
variable {P : Program} {k : Cls} {Bt : Bodies} {F0 : Nat → Prop} {N : Nat} {φ φ' φ'' : Nat → Option Nat} {w w' w'' : World} {H H' H'' : Hp} {S S' S'' : List Nat} {R : Od → Operand → Prop} {ρ : Operand → Value} {o : Oper}

theorem Tr.refl (hH : HR k Bt F0 N φ w H S) : Tr k Bt F0 N φ w H S φ w H S := ⟨Below.refl _ _, hH, Kp.refl, fun _ _ => rfl, Old.ext (Ext.refl _), Nat.le_refl _⟩
theorem Tr.trans (h : Tr k Bt F0 N φ w H S φ' w' H' S') (q : Tr k Bt F0 N φ' w' H' S' φ'' w'' H'' S'') : Tr k Bt F0 N φ w H S φ'' w'' H'' S'' :=
  ⟨h.below.trans q.below, q.hr, h.kp.trans q.kp h.below.size, fun c hc => (q.same c (Nat.lt_of_lt_of_le hc h.len)).trans (h.same c hc),
   fun x hx hn => by
     rw [q.old x (Nat.lt_of_lt_of_le hx h.below.size) fun b y hb hs he => ?_, h.old x hx hn]
     by_cases h0 : F0 x
     · exact (h.hr.f0 x h0).2.1 b y hb he
     · refine (h.kp.keep x hx ?_).2 (.inr ⟨b, y, hb, hs, he⟩)
       rintro (h1 | ⟨b', y', h1, h2, h3⟩)
       · exact h0 h1
       · exact hn b' y' h1 h2 h3,
   Nat.le_trans h.len q.len⟩
theorem Tr.of_post {y : T} {u : Value} (h : Post k Bt F0 N φ w H S H' S' y u w') (hl : H.length ≤ H'.length) : ∃ φ', Tr k Bt F0 N φ w H S φ' w' H' S' ∧ RT k (Fo F0 φ' H' S') φ' w' y u :=
  let ⟨φ', h1, h2, h3, h4, h5, h6⟩ := h
  ⟨φ', ⟨h1, h2, h3, h5, h6, hl⟩, h4⟩
theorem Tr.of_ext (hH : HR k Bt F0 N φ w H S) (hN : N ≤ w.heap.size) (hx : Ext w w') : Tr k Bt F0 N φ w H S φ w' H S :=
  ⟨Below.mono hx hN, hH.ext hx, Kp.of_ext hx (fun _ _ h => h) (fun _ _ h => h), fun _ _ => rfl, Old.ext hx, Nat.le_refl _⟩
theorem Tr.post {y : T} {u : Value} (h : Tr k Bt F0 N φ w H S φ' w' H' S') (hr : RT k (Fo F0 φ' H' S') φ' w' y u) : Post k Bt F0 N φ w H S H' S' y u w' :=
  ⟨φ', h.below, h.hr, h.kp, hr, h.same, h.old⟩

/-- A new block that an operation has made gets its number. -/
theorem Tr.of_al (hH : HR k Bt F0 N φ w H S) (hN : N ≤ w.heap.size) {x : Blk} {y : T} {u : Value} (h : AlPost k Bt (Fo F0 φ H S) φ w H.length x y u w') :
    ∃ φ', Tr k Bt F0 N φ w H S φ' w' (H ++ [some x]) S ∧ RT k (Fo F0 φ' (H ++ [some x]) S) φ' w' y u := by
  obtain ⟨a, ha, hx, hB, hy⟩ := h
  obtain ⟨g1, g2⟩ := push_blk hH (H1 := H) rfl (fun _ _ h => h) hN ha hx hB
  exact ⟨_, ⟨Below.mono hx hN, g1, g2, fun c hc => bindφ_other (by omega), Old.ext hx, by simp⟩, hy _ _ _ bindφ_same (hB _ _ g2)⟩

theorem step_ok {cf : CFn} (hcf : CfOk P k Bt cf) (hH : HR k Bt F0 N φ w H S) (hN : N ≤ w.heap.size) {ys τ : List T} {r : Ro1} (hok : OpOk P R o r.op) (hσ : ∀ od x, R od x → RT k (Fo F0 φ H S) φ w (evOd ys τ od) (ρ x))
    (hw : wantO ys r.gd = some true) {y : T} {W : List Nat} {rd : Option Nat} (h : stepO cf ys τ H S r = some (y, H', S', W, rd)) :
    yieldsC P (fun u w' => ∃ φ', Tr k Bt F0 N φ w H S φ' w' H' S' ∧ RT k (Fo F0 φ' H' S') φ' w' y u) ((execOp ρ o).run P w) := by
  unfold stepO at h
  rw [hw] at h
  simp only at h
  split at h
  · split at h
    · rename_i he
      cases h
      obtain ⟨u, w', h1, h2, h3⟩ := evR_ok hH hok hσ he
      rw [h1]
      exact ⟨φ, Tr.of_ext hH hN h2, h3⟩
    · cases h
  · split at h
    · rename_i he
      cases h
      obtain ⟨u, w', h1, h2⟩ := evA_ok (Bt := Bt) hok hσ he
      rw [h1]
      exact Tr.of_al hH hN h2
    · cases h
  · split at h
    · rename_i he
      cases h
      exact yieldsC_mono (evO_ok hcf hH hN hok hσ he) fun u w' hp => Tr.of_post hp (evO_fm hcf he).1
    · cases h

theorem stepO_fm {cf : CFn} (hcf : CfOk P k Bt cf) {ys τ : List T} {r : Ro1} {y : T} {W : List Nat} {rd : Option Nat} (h : stepO cf ys τ H S r = some (y, H', S', W, rd)) : Fm H W H' := by
  unfold stepO at h
  split at h
  · cases h
  · cases h; exact Fm.refl _ _
  · split at h
    · split at h
      · cases h; exact Fm.refl _ _
      · cases h
    · split at h
      · cases h; exact Fm.push _ _
      · cases h
    · split at h
      · rename_i he
        cases h
        exact evO_fm hcf he
      · cases h

theorem nth_set : ∀ (l : List T) (n m : Nat) (y : T), nth (setN l n y) m = if m = n ∧ n < l.length then y else nth l m
  | [], n, m, y => by simp [setN]
  | x :: l, 0, 0, y => by simp [setN, nth]
  | x :: l, 0, m + 1, y => by simp [setN, nth]
  | x :: l, n + 1, 0, y => by simp [setN, nth]
  | x :: l, n + 1, m + 1, y => by simp [setN, nth, nth_set l n m y]
theorem length_setN : ∀ (l : List T) (n : Nat) (y : T), (setN l n y).length = l.length
  | [], _, _ => rfl
  | _ :: _, 0, _ => rfl
  | x :: l, n + 1, y => by simp [setN, length_setN l n y]
theorem nth_out {l : List T} {n : Nat} (h : l.length ≤ n) : nth l n = .nil := by rw [nth_eq, List.getD_eq_getElem?_getD, List.getElem?_eq_none h]; rfl

/-! ### The order of the text. -/
/-- The operation before i that wrote t last. -/
def lastW (ops : Array Oper) (t : Tmp) : Nat → Option Nat
  | 0 => none
  | i + 1 => match ops[i]? with | some o => (if o.dst = some t then some i else lastW ops t i) | none => lastW ops t i

def RsK (od : Od) : Operand → Prop
  | .tmp _ => False
  | .const v => ∃ t1, ofVal v = some t1 ∧ od = .k (.t t1)
  | .global _ => False
  | .func f => od = .k (.t (.one (.c (.v (.func (.func f) #[] #[])))))
theorem RsK.rt {F : Nat → Prop} {od : Od} {x : Operand} (h : RsK od x) {ys τ : List T} {a : Act} : RT k F φ w (evOd ys τ od) (a.eval x) := by
  cases x with
  | tmp t => exact h.elim
  | const v => obtain ⟨t1, h1, rfl⟩ := h; exact ofVal_rep h1
  | global g => exact h.elim
  | func f => cases h; exact RC.v _ rfl

/-- How an operand's place is found. -/
def RsS (ops : Array Oper) (kp : List Tmp) (i : Nat) (od : Od) (x : Operand) : Prop :=
  od = .z ∨ RsK od x ∨ ∃ t, x = .tmp t ∧ ((∃ d j, lastW ops t i = some j ∧ j + d + 1 = i ∧ od = .x d) ∨ (lastW ops t i = none ∧ ∃ p, kp[p]? = some t ∧ od = .f p))

def GdS (ops : Array Oper) (i : Nat) : Option (Nat × Bool) → Option (Nat × Bool) → Prop
  | none, none => True
  | some (g, b), some (d, b') => b = b' ∧ g + d + 1 = i ∧ ∃ o t, ops[g]? = some o ∧ o.dst = some t ∧ lastW ops t i = some g
  | _, _ => False
def KpS (kp : List Tmp) (dst : Option Tmp) (r : Option Nat) : Prop := (∀ p, r = some p → ∃ t, dst = some t ∧ kp[p]? = some t) ∧ ∀ t p, dst = some t → kp[p]? = some t → r = some p

structure ROkS (P : Program) (nt : Nat) (kp : List Tmp) (ops : Array Oper) (os : List Ro1) : Prop where
  len : os.length = ops.size
  op : ∀ (i : Nat) o r, ops[i]? = some o → os[i]? = some r → noDefer o.op = true ∧ OpOk P (RsS ops kp i) o r.op ∧ (∀ t, o.dst = some t → t < nt) ∧ GdS ops i o.guard r.gd ∧ KpS kp o.dst r.kp

/-- What the region's code has done to the frame. -/
structure SInv (k : Cls) (F : Nat → Prop) (φ : Nat → Option Nat) (w : World) (nt : Nat) (kp : List Tmp) (ops : Array Oper) (τ : List T) (a0 : Act) (i : Nat) (ys τ' : List T) (a : Act) : Prop where
  size : a.tmps.size = nt
  df : a.defers = a0.defers
  new : ∀ (t j d : Nat), lastW ops t i = some j → j + d + 1 = i → RT k F φ w (nth ys d) (a.tmps.getD t undef)
  far : ∀ t, lastW ops t i = none → a.tmps.getD t undef = a0.tmps.getD t undef
  upd : ∀ (p t j d : Nat), kp[p]? = some t → lastW ops t i = some j → j + d + 1 = i → nth τ' p = nth ys d
  keep : ∀ (p t : Nat), kp[p]? = some t → lastW ops t i = none → nth τ' p = nth τ p
  len : τ'.length = kp.length

theorem lastW_lt {ops : Array Oper} {t : Tmp} : ∀ {i j : Nat}, lastW ops t i = some j → j < i
  | 0, j, h => by simp [lastW] at h
  | i + 1, j, h => by
    simp only [lastW] at h
    split at h
    · split at h
      · cases h; omega
      · have := lastW_lt h; omega
    · have := lastW_lt h; omega

theorem SInv.kp {F F' : Nat → Prop} (q : Kp F φ w F' φ' w') {nt : Nat} {kp : List Tmp} {ops : Array Oper} {τ : List T} {a0 : Act} {i : Nat} {ys τ' : List T} {a : Act} (h : SInv k F φ w nt kp ops τ a0 i ys τ' a) : SInv k F' φ' w' nt kp ops τ a0 i ys τ' a :=
  { h with new := fun t j d h1 h2 => RT.kp q (h.new t j d h1 h2) }

theorem getD_put {a : Act} {t t' : Nat} {u : Value} : (a.put (some t) u).tmps.getD t' undef = if t' = t ∧ t < a.tmps.size then u else a.tmps.getD t' undef := by
  show (Array.setIfInBounds _ _ _).getD _ _ = _
  simp only [Array.getD_eq_getD_getElem?, Array.getElem?_setIfInBounds]
  by_cases h : t = t'
  · subst h
    by_cases hl : t < a.tmps.size
    · simp [hl]
    · simp [hl]
  · rw [if_neg h, if_neg (fun h' => h h'.1.symm)]

theorem SInv.put {F : Nat → Prop} {nt : Nat} {kp : List Tmp} {ops : Array Oper} {τ : List T} {a0 : Act} {i : Nat} {ys τ' : List T} {a : Act} {o : Oper} {y : T} {u : Value} {r : Option Nat} (h : SInv k F φ w nt kp ops τ a0 i ys τ' a)
    (ho : ops[i]? = some o) (hd : ∀ t, o.dst = some t → t < nt) (hk : KpS kp o.dst r) (hr : RT k F φ w y u) : SInv k F φ w nt kp ops τ a0 (i + 1) (y :: ys) (setO τ' y r) (a.put o.dst u) := by
  have hlen : (setO τ' y r).length = kp.length := by
    cases r with
    | none => exact h.len
    | some p => show (setN _ _ _).length = _; rw [length_setN]; exact h.len
  have hw : ∀ t, lastW ops t (i + 1) = if o.dst = some t then some i else lastW ops t i := fun t => by simp [lastW, ho]
  cases hdst : o.dst with
  | none =>
    rw [hdst] at hk hw
    have hr0 : r = none := by
      cases r with
      | none => rfl
      | some p => obtain ⟨t, ht, _⟩ := hk.1 p rfl; cases ht
    subst hr0
    have hw' : ∀ t, lastW ops t (i + 1) = lastW ops t i := fun t => by rw [hw]; simp
    refine ⟨h.size, h.df, fun t j d h1 h2 => ?_, fun t h1 => h.far t (by rw [← hw']; exact h1), fun p t j d h0 h1 h2 => ?_, fun p t h0 h1 => h.keep p t h0 (by rw [← hw']; exact h1), hlen⟩
    · rw [hw'] at h1
      have := lastW_lt h1
      obtain ⟨d, rfl⟩ : ∃ d', d = d' + 1 := ⟨d - 1, by omega⟩
      exact h.new t j d h1 (by omega)
    · rw [hw'] at h1
      have := lastW_lt h1
      obtain ⟨d, rfl⟩ : ∃ d', d = d' + 1 := ⟨d - 1, by omega⟩
      exact h.upd p t j d h0 h1 (by omega)
  | some t0 =>
    rw [hdst] at hk hw
    have ht0 : t0 < a.tmps.size := by rw [h.size]; exact hd t0 hdst
    refine ⟨?_, ?_, fun t j d h1 h2 => ?_, fun t h1 => ?_, fun p t j d h0 h1 h2 => ?_, fun p t h0 h1 => ?_, hlen⟩
    · show (Array.setIfInBounds _ _ _).size = _; rw [Array.size_setIfInBounds]; exact h.size
    · exact h.df
    · rw [hw] at h1
      rw [getD_put]
      split at h1
      · rename_i e
        cases e; cases h1
        obtain rfl : d = 0 := by omega
        rw [if_pos ⟨rfl, ht0⟩]
        exact hr
      · rename_i e
        have := lastW_lt h1
        obtain ⟨d, rfl⟩ : ∃ d', d = d' + 1 := ⟨d - 1, by omega⟩
        rw [if_neg (fun h => e (by rw [h.1]))]
        exact h.new t j d h1 (by omega)
    · rw [hw] at h1
      split at h1
      · cases h1
      · rename_i e
        rw [getD_put, if_neg (fun h => e (by rw [h.1]))]
        exact h.far t h1
    · rw [hw] at h1
      split at h1
      · rename_i e
        cases e; cases h1
        obtain rfl : d = 0 := by omega
        rw [hk.2 t0 p rfl h0]
        show nth (setN _ _ _) _ = _
        have hpl := (List.getElem?_eq_some_iff.1 h0).1
        rw [nth_set, if_pos ⟨rfl, by rw [h.len]; exact hpl⟩]; rfl
      · rename_i e
        have := lastW_lt h1
        obtain ⟨d, rfl⟩ : ∃ d', d = d' + 1 := ⟨d - 1, by omega⟩
        rw [show nth (y :: ys) (d + 1) = nth ys d from rfl, ← h.upd p t j d h0 h1 (by omega)]
        cases r with
        | none => rfl
        | some q =>
          show nth (setN _ _ _) _ = _
          rw [nth_set, if_neg]
          rintro ⟨rfl, _⟩
          obtain ⟨t', e1, e2⟩ := hk.1 p rfl
          rw [h0] at e2
          cases e1; cases e2
          exact e rfl
    · rw [hw] at h1
      split at h1
      · cases h1
      · rename_i e
        rw [← h.keep p t h0 h1]
        cases r with
        | none => rfl
        | some q =>
          show nth (setN _ _ _) _ = _
          rw [nth_set, if_neg]
          rintro ⟨rfl, _⟩
          obtain ⟨t', e1, e2⟩ := hk.1 p rfl
          rw [h0] at e2
          cases e1; cases e2
          exact e rfl

theorem seq_ok {ro : Option Nat} {cf : CFn} (hcf : CfOk P k Bt cf) {nt : Nat} {kp : List Tmp} {ops : Array Oper} {os : List Ro1} (hR : ROkS P nt kp ops os) {τ : List T} {a0 : Act} {Q : Exit → Act → World → Prop} {τ1 : List T} {H1 : Hp} {S1 W1 : List Nat} :
    ∀ (rest : List Ro1) (i : Nat) (ys : List T) (φ : Nat → Option Nat) (w : World) (H : Hp) (S : List Nat) (τ' : List T) (W : List Nat) (inf : List (Option Nat × List Nat)) (a : Act), os.drop i = rest → N ≤ w.heap.size →
      HR k Bt F0 N φ w H S → FrR k (Fo F0 φ H S) φ w kp τ a0 → SInv k (Fo F0 φ H S) φ w nt kp ops τ a0 i ys τ' a → runR cf τ rest ys H S τ' W inf = some (τ1, H1, S1, W1) →
      (∀ a' w' φ', Tr k Bt F0 N φ w H S φ' w' H1 S1 → FrR k (Fo F0 φ' H1 S1) φ' w' kp τ1 a' → a'.tmps.size = nt → a'.defers = a0.defers → τ1.length = kp.length → Q .normal a' w') → wpListIn (Fr ro) 0 P ops Q (ops.toList.drop i) a w := by
  intro rest
  induction rest with
  | nil =>
    intro i ys φ w H S τ' W inf a hrest hN hH hF hI h fin
    simp only [runR, Option.some.injEq, Prod.mk.injEq] at h
    obtain ⟨rfl, rfl, rfl, rfl⟩ := h
    have hle : ops.size ≤ i := by rw [← hR.len]; simpa using hrest
    rw [List.drop_eq_nil_of_le (by simpa using hle)]
    refine fin a w φ (Tr.refl hH) (fun p t hp => ?_) hI.size hI.df hI.len
    cases hl : lastW ops t i with
    | none => rw [hI.keep p t hp hl, hI.far t hl]; exact hF p t hp
    | some j =>
      have := lastW_lt hl
      rw [hI.upd p t j (i - 1 - j) hp hl (by omega)]
      exact hI.new t j (i - 1 - j) hl (by omega)
  | cons r rest ih =>
    intro i ys φ w H S τ' W inf a hrest hN hH hF hI h fin
    have hri : os[i]? = some r := by rw [← List.head?_drop, hrest]; rfl
    have hil : i < os.length := (List.getElem?_eq_some_iff.1 hri).1
    have hoi : ∃ o, ops[i]? = some o := ⟨ops[i]'(by rw [← hR.len]; exact hil), Array.getElem?_eq_getElem _⟩
    obtain ⟨o, hoi⟩ := hoi
    obtain ⟨hnd, hop, hdst, hgd, hkp⟩ := hR.op i o r hoi hri
    have hrest' : os.drop (i + 1) = rest := by rw [← List.tail_drop, hrest]; rfl
    have hdrop : ops.toList.drop i = o :: ops.toList.drop (i + 1) := by
      have hil' : i < ops.toList.length := by rw [hR.len] at hil; simpa using hil
      rw [List.drop_eq_getElem_cons hil']
      congr 1
      have := Array.getElem?_eq_some_iff.1 hoi
      obtain ⟨_, he⟩ := this
      simpa using he
    simp only [runR] at h
    split at h
    · rename_i y H' S' W' rd hst
      split at h
      · rw [hdrop]
        unfold wpListIn
        have hσ : ∀ od x, RsS ops kp i od x → RT k (Fo F0 φ H S) φ w (evOd ys τ od) (a.eval x) := by
          rintro od x (rfl | h | ⟨t, rfl, (⟨d, j, h1, h2, rfl⟩ | ⟨h1, p, h2, rfl⟩)⟩)
          · trivial
          · exact h.rt
          · exact hI.new t j d h1 h2
          · show RT _ _ _ _ (nth τ p) (a.tmps.getD t undef)
            rw [hI.far t h1]
            exact hF p t h2
        have next : ∀ (u : Value) (w' : World) (φ' : Nat → Option Nat), Tr k Bt F0 N φ w H S φ' w' H' S' → RT k (Fo F0 φ' H' S') φ' w' y u → wpListIn (Fr ro) 0 P ops Q (ops.toList.drop (i + 1)) (a.put o.dst u) w' := by
          intro u w' φ' tr hr
          refine ih (i + 1) (y :: ys) φ' w' H' S' _ _ _ _ hrest' (Nat.le_trans hN tr.below.size) tr.hr (fun p t hp => RT.kp tr.kp (hF p t hp)) ((hI.kp tr.kp).put hoi hdst hkp hr) h fun a' w'' φ'' tr' => ?_
          exact fin a' w'' φ'' (tr.trans tr')
        have hwant : ∀ b, wantO ys r.gd = some b → Region.wanted o (yielded ops a.tmps) = b := by
          intro b hb
          unfold Region.wanted
          cases hg : o.guard with
          | none =>
            rw [hg] at hgd
            cases hrg : r.gd with
            | none => rw [hrg] at hb; simp [wantO] at hb; exact hb.symm
            | some x => rw [hrg] at hgd; exact hgd.elim
          | some gb =>
            obtain ⟨g, bb⟩ := gb
            rw [hg] at hgd
            cases hrg : r.gd with
            | none => rw [hrg] at hgd; exact hgd.elim
            | some x =>
              obtain ⟨d, b'⟩ := x
              rw [hrg] at hgd hb
              obtain ⟨rfl, hgi, og, t, hog, hdt, hl⟩ := hgd
              have hv := hI.new t g d hl hgi
              simp only [wantO] at hb
              split at hb
              · rename_i c hc
                rw [hc] at hv
                have hv' : a.tmps.getD t undef = .bool c := plainT_eq (x := .bool c) rfl hv
                cases hb
                have : yielded ops a.tmps g = some c := by
                  unfold yielded
                  rw [hog, Option.bind_some, hdt, Option.bind_some]
                  rw [Array.getD_eq_getD_getElem?] at hv'
                  cases hq : a.tmps[t]? with
                  | none => rw [hq] at hv'; simp [undef] at hv'
                  | some z => rw [hq] at hv'; simp at hv'; rw [hv']
                simp only [this]
                cases c <;> cases bb <;> rfl
              · rename_i hc
                rw [hc] at hv
                obtain ⟨vs, hv', hs, _⟩ := hv
                have e0 : vs = #[] := Array.eq_empty_of_size_eq_zero (by simpa using hs)
                cases hb
                have : yielded ops a.tmps g = none := by
                  unfold yielded
                  rw [hog, Option.bind_some, hdt, Option.bind_some]
                  rw [Array.getD_eq_getD_getElem?] at hv'
                  cases hq : a.tmps[t]? with
                  | none => rfl
                  | some z => rw [hq] at hv'; simp at hv'; rw [hv']
                simp only [this]
                cases bb <;> rfl
              · cases hb
        cases hb : wantO ys r.gd with
        | none => simp [stepO, hb] at hst
        | some b =>
          have hwb := hwant b hb
          cases b with
          | true =>
            rw [if_pos hwb]
            refine wpIn_of hnd (step_ok hcf hH hN hop hσ hb hst) fun u w' ⟨φ', tr, hr⟩ => next u w' φ' tr hr
          | false =>
            rw [if_neg (by rw [hwb]; simp)]
            simp only [stepO, hb, Option.some.injEq, Prod.mk.injEq] at hst
            obtain ⟨rfl, rfl, rfl, _, _⟩ := hst
            exact ⟨fun _ _ => trivial, next undef w φ (Tr.refl hH) ⟨#[], rfl, rfl, fun j d hj => by simp at hj⟩⟩
      · cases h
    · cases h
end
end Go.Mach
namespace Go.Mach
open Go Go.RowKit Go.Flow
variable [Limb]

def isRd : COp → Bool
  | .ld .. | .slcR .. | .lku .. => true
  | _ => false

def RsD (anc : List (Nat × Tmp)) (kp : List Tmp) (i : Nat) (od : Od) (x : Operand) : Prop :=
  od = .z ∨ RsK od x ∨ ∃ t, x = .tmp t ∧ ((∃ d j, (j, t) ∈ anc ∧ j + d + 1 = i ∧ od = .x d) ∨ ((∀ j, (j, t) ∉ anc) ∧ ∃ p, kp[p]? = some t ∧ od = .f p))
def GdD (i : Nat) : Option (Nat × Bool) → Option (Nat × Bool) → Prop
  | none, none => True
  | some (g, b), some (d, b') => b = b' ∧ g + d + 1 = i
  | _, _ => False
def mskB (ops : Array Oper) (i j : Nat) : Prop := ((masks [] ops.toList).getD i 0).testBit j = true

structure ROkD (P : Program) (nt : Nat) (kp : List Tmp) (ops : Array Oper) (os : List Ro1) (anc : List (List (Nat × Tmp))) : Prop where
  len : os.length = ops.size
  chk : Chk ops ops.size anc
  op : ∀ (i : Nat) o r, ops[i]? = some o → os[i]? = some r → noDefer o.op = true ∧ OpOk P (RsD (anc.getD i []) kp i) o r.op ∧ (∀ t, o.dst = some t → t < nt) ∧ GdD i o.guard r.gd ∧ KpS kp o.dst r.kp
  ord : ∀ (i j : Nat) r rj, os[i]? = some r → os[j]? = some rj → j < i → kd rj.op ≠ .r → kd r.op = .o → mskB ops i j
  al : ∀ (i j l : Nat) r rj rl, os[i]? = some r → os[j]? = some rj → os[l]? = some rl → l < j → kd r.op ≠ .o → kd rj.op = .a → kd rl.op ≠ .r → mskB ops i j → mskB ops i l
  lo : ∀ (i j : Nat) r rj, os[i]? = some r → os[j]? = some rj → j < i → ¬ mskB ops i j → (isRd r.op = true ∧ kd rj.op = .o) ∨ (isRd rj.op = true ∧ kd r.op = .o) → ∃ d, d ∈ r.lo ∧ j + d + 1 = i

section
variable {P : Program} {k : Cls} {Bt : Bodies} {F0 : Nat → Prop} {N : Nat} {φ φ' φ'' : Nat → Option Nat} {w w' w'' : World} {H H' H'' : Hp} {S S' S'' : List Nat} {R : Od → Operand → Prop} {ρ : Operand → Value} {o : Oper} {σ : Od → T}

def ysL (Y : Nat → T) : Nat → List T
  | 0 => []
  | i + 1 => Y i :: ysL Y i
theorem nth_ysL (Y : Nat → T) : ∀ (i d j : Nat), j + d + 1 = i → nth (ysL Y i) d = Y j
  | 0, d, j, h => by omega
  | i + 1, 0, j, h => by obtain rfl : j = i := by omega
                         rfl
  | i + 1, d + 1, j, h => nth_ysL Y i d j (by omega)
theorem ysL_congr {Y Y' : Nat → T} : ∀ (i : Nat), (∀ j, j < i → Y j = Y' j) → ysL Y i = ysL Y' i
  | 0, _ => rfl
  | i + 1, h => by simp only [ysL]; rw [h i (by omega), ysL_congr i fun j hj => h j (by omega)]

def infL (rf : Nat → Option Nat) (wf : Nat → List Nat) : Nat → List (Option Nat × List Nat)
  | 0 => []
  | i + 1 => (rf i, wf i) :: infL rf wf i
theorem nth_infL (rf : Nat → Option Nat) (wf : Nat → List Nat) : ∀ (i d j : Nat), j + d + 1 = i → nthI (infL rf wf i) d = (rf j, wf j)
  | 0, d, j, h => by omega
  | i + 1, 0, j, h => by obtain rfl : j = i := by omega
                         rfl
  | i + 1, d + 1, j, h => nth_infL rf wf i d j (by omega)
theorem infL_congr {rf rf' : Nat → Option Nat} {wf wf' : Nat → List Nat} : ∀ (i : Nat), (∀ j, j < i → rf j = rf' j ∧ wf j = wf' j) → infL rf wf i = infL rf' wf' i
  | 0, _ => rfl
  | i + 1, h => by simp only [infL]; rw [(h i (by omega)).1, (h i (by omega)).2, infL_congr i fun j hj => h j (by omega)]

theorem okLo_spec {inf : List (Option Nat × List Nat)} {rd : Option Nat} {W : List Nat} : ∀ {l : List Nat}, okLo inf rd W l = true → ∀ d ∈ l, notIn rd (nthI inf d).2 = true ∧ notIn (nthI inf d).1 W = true
  | [], _, d, hd => by simp at hd
  | x :: l, h, d, hd => by
    simp only [okLo] at h
    split at h
    · rename_i hc
      rcases List.mem_cons.1 hd with rfl | hd
      · simpa using hc
      · exact okLo_spec h d hd
    · cases h

theorem notIn_spec {b : Nat} {W : List Nat} (h : notIn (some b) W = true) : b ∉ W := by
  intro hb
  simp only [notIn, Bool.not_eq_true', List.any_eq_false] at h
  exact h b hb (by simp)

/-- How memory and values went in the order of the text. -/
structure Tx (cf : CFn) (τ : List T) (os : List Ro1) (Y : Nat → T) (Hf : Nat → Hp) (Sf : Nat → List Nat) (wf : Nat → List Nat) (rf : Nat → Option Nat) : Prop where
  st : ∀ (i : Nat) r, os[i]? = some r → stepO cf (ysL Y i) τ (Hf i) (Sf i) r = some (Y i, Hf (i + 1), Sf (i + 1), wf i, rf i)
  lo : ∀ (i d j : Nat) r, os[i]? = some r → d ∈ r.lo → j + d + 1 = i → notIn (rf i) (wf j) = true ∧ notIn (rf j) (wf i) = true

theorem runR_spec {cf : CFn} {τ : List T} {τ1 : List T} {H1 : Hp} {S1 W1 : List Nat} : ∀ (rest : List Ro1) (i0 : Nat) (Y0 : Nat → T) (wf0 : Nat → List Nat) (rf0 : Nat → Option Nat) (H : Hp) (S : List Nat) (τ' : List T) (W : List Nat),
    runR cf τ rest (ysL Y0 i0) H S τ' W (infL rf0 wf0 i0) = some (τ1, H1, S1, W1) →
    ∃ (Y : Nat → T) (Hf : Nat → Hp) (Sf wf : Nat → List Nat) (rf : Nat → Option Nat), (∀ j, j < i0 → Y j = Y0 j ∧ wf j = wf0 j ∧ rf j = rf0 j) ∧ Hf i0 = H ∧ Sf i0 = S ∧ Hf (i0 + rest.length) = H1 ∧ Sf (i0 + rest.length) = S1 ∧
      (∀ (j : Nat) r, rest[j]? = some r → stepO cf (ysL Y (i0 + j)) τ (Hf (i0 + j)) (Sf (i0 + j)) r = some (Y (i0 + j), Hf (i0 + j + 1), Sf (i0 + j + 1), wf (i0 + j), rf (i0 + j))) ∧
      (∀ (j d l : Nat) r, rest[j]? = some r → d ∈ r.lo → l + d + 1 = i0 + j → notIn (rf (i0 + j)) (wf l) = true ∧ notIn (rf l) (wf (i0 + j)) = true) ∧
      (∀ p, (∀ (j : Nat) r, rest[j]? = some r → r.kp ≠ some p) → nth τ1 p = nth τ' p) ∧
      (∀ (p j : Nat) r, rest[j]? = some r → r.kp = some p → (∀ (j' : Nat) r', rest[j']? = some r' → r'.kp = some p → j' = j) → p < τ'.length → nth τ1 p = Y (i0 + j)) ∧ τ1.length = τ'.length := by
  intro rest
  induction rest with
  | nil =>
    intro i0 Y0 wf0 rf0 H S τ' W h
    simp only [runR, Option.some.injEq, Prod.mk.injEq] at h
    obtain ⟨rfl, rfl, rfl, rfl⟩ := h
    exact ⟨Y0, fun _ => H, fun _ => S, wf0, rf0, fun _ _ => ⟨rfl, rfl, rfl⟩, rfl, rfl, rfl, rfl, fun j r hj => by simp at hj, fun j d l r hj => by simp at hj, fun _ _ => rfl, fun p j r hj => by simp at hj, rfl⟩
  | cons r rest ih =>
    intro i0 Y0 wf0 rf0 H S τ' W h
    simp only [runR] at h
    split at h
    · rename_i y H' S' W' rd hst
      split at h
      · rename_i hlo
        have e1 : y :: ysL Y0 i0 = ysL (fun j => if j = i0 then y else Y0 j) (i0 + 1) := by
          simp only [ysL, if_pos]
          congr 1
          exact ysL_congr i0 fun j hj => by simp [show j ≠ i0 by omega]
        have e2 : (rd, W') :: infL rf0 wf0 i0 = infL (fun j => if j = i0 then rd else rf0 j) (fun j => if j = i0 then W' else wf0 j) (i0 + 1) := by
          simp only [infL, if_pos]
          congr 1
          exact infL_congr i0 fun j hj => by simp [show j ≠ i0 by omega]
        rw [e1, e2] at h
        obtain ⟨Y, Hf, Sf, wf, rf, g0, g1, g2, g3, g4, g5, g6, g7, g8, g9⟩ := ih (i0 + 1) _ _ _ H' S' _ _ h
        have gi := g0 i0 (by omega)
        simp only [if_pos] at gi
        have gj : ∀ j, j < i0 → Y j = Y0 j ∧ wf j = wf0 j ∧ rf j = rf0 j := fun j hj => by
          have := g0 j (by omega)
          simpa [show j ≠ i0 by omega] using this
        have hlen : i0 + 1 + rest.length = i0 + (r :: rest).length := by simp; omega
        rw [hlen] at g3 g4
        refine ⟨Y, fun j => if j = i0 then H else Hf j, fun j => if j = i0 then S else Sf j, wf, rf, gj, by simp, by simp, ?_, ?_, fun j r' hj => ?_, fun j d l r' hj hd hl => ?_, fun p hp => ?_, fun p j r' hj hk hu hpl => ?_, ?_⟩
        · have e : ¬ i0 + (r :: rest).length = i0 := by simp
          simp only [if_neg e]; exact g3
        · have e : ¬ i0 + (r :: rest).length = i0 := by simp
          simp only [if_neg e]; exact g4
        · cases j with
          | zero =>
            simp at hj; subst hj
            simp only [Nat.add_zero, if_pos, if_neg (show ¬ i0 + 1 = i0 by omega)]
            rw [ysL_congr i0 fun j hj => (gj j hj).1, hst, gi.1, gi.2.1, gi.2.2, g1, g2]
          | succ j =>
            have := g5 j r' (by simpa using hj)
            have e : i0 + 1 + j = i0 + (j + 1) := by omega
            rw [e] at this
            simp only [if_neg (show ¬ i0 + (j + 1) = i0 by omega), if_neg (show ¬ i0 + (j + 1) + 1 = i0 by omega)]
            exact this
        · cases j with
          | zero =>
            simp at hj; subst hj
            have := okLo_spec hlo d hd
            rw [nth_infL rf0 wf0 i0 d l (by omega)] at this
            have gl := gj l (by omega)
            rw [Nat.add_zero, gi.2.1, gi.2.2, gl.2.1, gl.2.2]
            exact this
          | succ j =>
            have := g6 j d l r' (by simpa using hj) hd (by omega)
            have e : i0 + 1 + j = i0 + (j + 1) := by omega
            rw [e] at this
            exact this
        · rw [g7 p fun j r' hj => hp (j + 1) r' (by simpa using hj)]
          have h0 := hp 0 r rfl
          cases hk : r.kp with
          | none => rfl
          | some q =>
            show nth (setN _ _ _) _ = _
            rw [nth_set, if_neg]
            rintro ⟨rfl, _⟩
            exact h0 hk
        · cases j with
          | zero =>
            simp at hj; subst hj
            rw [g7 p fun j r' hj' hk' => by
              have := hu (j + 1) r' (by simpa using hj') hk'
              omega]
            rw [hk]
            show nth (setN _ _ _) _ = _
            rw [nth_set, if_pos ⟨rfl, hpl⟩, Nat.add_zero, gi.1]
          | succ j =>
            have := g8 p j r' (by simpa using hj) hk (fun j' r'' hj' hk' => by
              have := hu (j' + 1) r'' (by simpa using hj') hk'
              omega) (by cases r.kp <;> simpa [setO, length_setN] using hpl)
            have e : i0 + 1 + j = i0 + (j + 1) := by omega
            rw [e] at this
            exact this
        · rw [g9]
          cases r.kp <;> simp [setO, length_setN]
      · cases h
    · cases h

theorem runR_fm {cf : CFn} (hcf : CfOk P k Bt cf) {τ τ1 : List T} {H1 : Hp} {S1 W1 : List Nat} : ∀ (rest : List Ro1) (ys : List T) (H : Hp) (S : List Nat) (τ' : List T) (W : List Nat) (inf : List (Option Nat × List Nat)),
    runR cf τ rest ys H S τ' W inf = some (τ1, H1, S1, W1) → (∀ x ∈ W, x ∈ W1) ∧ Fm H W1 H1 := by
  intro rest
  induction rest with
  | nil =>
    intro ys H S τ' W inf h
    simp only [runR, Option.some.injEq, Prod.mk.injEq] at h
    obtain ⟨rfl, rfl, rfl, rfl⟩ := h
    exact ⟨fun _ h => h, Fm.refl _ _⟩
  | cons r rest ih =>
    intro ys H S τ' W inf h
    simp only [runR] at h
    split at h
    · rename_i y H' S' W' rd hst
      split at h
      · obtain ⟨h1, h2⟩ := ih _ _ _ _ _ _ h
        have h3 := stepO_fm hcf hst
        refine ⟨fun x hx => h1 x (List.mem_append_right _ hx), Nat.le_trans h3.1 h2.1, fun c hc hW => ?_⟩
        rw [h2.2 c (Nat.lt_of_lt_of_le hc h3.1) hW, h3.2 c hc fun hx => hW (h1 c (List.mem_append_left _ hx))]
      · cases h
    · cases h

theorem cellsAt_lt {d : D} {n b : Nat} {ds : List D} (h : cellsAt H d n = some ds) (hb : blkOf (.t (.one d)) = some b) : b < H.length := by
  cases d with
  | ptr c o =>
    cases hb
    simp only [cellsAt] at h
    split at h
    · rename_i hc
      exact (List.getElem?_eq_some_iff.1 hc).1
    · cases h
  | _ => simp [cellsAt] at h <;> simp [blkOf] at hb

theorem evR_rd {cop : COp} (hok : OpOk P R o cop) {y : T} {b : Nat} (h : evR H σ cop = some (y, some b)) : isRd cop = true ∧ b < H.length ∧ ∃ od x, R od x ∧ blkOf (σ od) = some b := by
  cases cop with
  | ld ag n a =>
    obtain ⟨t, x, _, ha, _⟩ := hok
    obtain ⟨h1, h2⟩ := wi_some h
    refine ⟨rfl, ?_, a, x, ha, h2⟩
    unfold evLd at h1
    split at h1
    · rename_i d hd
      rw [hd] at h2
      split at h1
      · simp only [Option.map_eq_some_iff] at h1
        obtain ⟨ds, hds, _⟩ := h1
        exact cellsAt_lt hds h2
      · split at h1
        · rename_i hds
          exact cellsAt_lt hds h2
        · cases h1
    · cases h1
  | slcR n s a =>
    obtain ⟨t, e, x, _, ha, _⟩ := hok
    obtain ⟨h1, h2⟩ := wi_some h
    refine ⟨rfl, ?_, a, x, ha, h2⟩
    unfold evSlcR at h1
    split at h1
    · rename_i d hd
      rw [hd] at h2
      split at h1
      · rename_i hds
        exact cellsAt_lt hds h2
      · cases h1
    · cases h1
  | lku zs m key =>
    obtain ⟨t, xm, xk, _, hm, _⟩ := hok
    obtain ⟨h1, h2⟩ := wi_some h
    refine ⟨rfl, ?_, m, xm, hm, h2⟩
    unfold evLookup at h1
    split at h1
    · rename_i c l hc hl
      rw [hc] at h2
      cases h2
      split at h1
      · split at h1
        · rename_i hb
          exact (List.getElem?_eq_some_iff.1 hb).1
        · cases h1
      · cases h1
    · cases h1
  | mv a => cases h
  | pick c a b' => exact absurd (wi_some h).2 (by simp)
  | off n a => exact absurd (wi_some h).2 (by simp)
  | part ag n p a => exact absurd (wi_some h).2 (by simp)
  | ixS s a i => exact absurd (wi_some h).2 (by simp)
  | ixR len s a i => exact absurd (wi_some h).2 (by simp)
  | at_ ag n len a i => exact absurd (wi_some h).2 (by simp)
  | ext i a => exact absurd (wi_some h).2 (by simp)
  | nilc a => exact absurd (wi_some h).2 (by simp)
  | bld zs pl is cs => exact absurd (wi_some h).2 (by simp)
  | bsl z s len is cs => exact absurd (wi_some h).2 (by simp)
  | slc s a lo hi => exact absurd (wi_some h).2 (by simp)
  | slc3 s a lo hi mx => exact absurd (wi_some h).2 (by simp)
  | len a => exact absurd (wi_some h).2 (by simp)
  | cap a => exact absurd (wi_some h).2 (by simp)
  | ixc tb a => exact absurd (wi_some h).2 (by simp)
  | nilS neg a b' =>
    simp only [evR] at h
    split at h
    · exact absurd (wi_some h).2 (by simp)
    · cases h
  | pk p cs => exact absurd (wi_some h).2 (by simp)
  | mkf f cs => exact absurd (wi_some h).2 (by simp)
  | _ => simp [evR] at h

theorem blkOf_bound {F : Nat → Prop} {t : T} {b : Nat} {u : Value} (h : blkOf t = some b) (r : RT k F φ w t u) : ∃ x, φ b = some x := by
  unfold blkOf at h
  split at h
  · cases h; obtain ⟨x, hx, _⟩ := r; exact ⟨x, hx⟩
  · cases h; obtain ⟨x, hx, _⟩ := r; exact ⟨x, hx⟩
  · cases h
end
end Go.Mach
namespace Go.Mach
open Go Go.RowKit Go.Flow
variable [Limb]

def ek (Y : Nat → T) (os : List Ro1) (i : Nat) : Kd :=
  match os[i]? with
  | some r => (match wantO (ysL Y i) r.gd with | some true => kd r.op | _ => .r)
  | none => .r

section
variable {P : Program} {k : Cls} {Bt : Bodies} {F0 : Nat → Prop} {N : Nat} {φ0 : Nat → Option Nat} {w0 : World} {H : Hp} {S : List Nat} {cf : CFn} {τ : List T} {os : List Ro1} {Y : Nat → T} {Hf : Nat → Hp} {Sf wf : Nat → List Nat} {rf : Nat → Option Nat}

structure JInv (P : Program) (k : Cls) (Bt : Bodies) (F0 : Nat → Prop) (N : Nat) (φ0 : Nat → Option Nat) (w0 : World) (H : Hp) (S : List Nat) (os : List Ro1) (Y : Nat → T) (Hf : Nat → Hp) (Sf : Nat → List Nat)
    (L : Nat → Prop) (v : Nat → Value) (w : World) (m : Nat) (φ : Nat → Option Nat) (A : Nat → Nat) (G : Nat → Prop) : Prop where
  le : m ≤ os.length
  pre : ∀ j, j < m → ek Y os j ≠ .r → L j
  post : ∀ j, m ≤ j → L j → ek Y os j ≠ .o
  below : Below N w0 w
  hr : HR k Bt G N φ w (Hf m) (Sf m)
  kp : Kp (Fo F0 φ0 H S) φ0 w0 (Fo G φ (Hf m) (Sf m)) φ w
  same : ∀ c, c < H.length → φ c = φ0 c
  old : Old φ0 H S w0 w
  g : ∀ x, G x ↔ F0 x ∨ ∃ j, (m ≤ j ∧ L j ∧ ek Y os j = .a) ∧ A j = x
  val : ∀ j, L j → (j < m ∨ ek Y os j = .r) → RT k (Fo G φ (Hf m) (Sf m)) φ w (Y j) (v j)
  pend : ∀ j, m ≤ j → L j → ek Y os j = .a → N ≤ A j ∧ ¬ F0 (A j) ∧ (∀ j', m ≤ j' → L j' → ek Y os j' = .a → A j' = A j → j' = j) ∧
    ∃ blk, Hf (j + 1) = Hf j ++ [some blk] ∧ Sf (j + 1) = Sf j ∧ RB k Bt (Fo G φ (Hf m) (Sf m)) φ w (A j) blk ∧ ∀ F' φ' w'', φ' (Hf j).length = some (A j) → RB k Bt F' φ' w'' (A j) blk → RT k F' φ' w'' (Y j) (v j)

def Canon (os : List Ro1) (Y : Nat → T) (L : Nat → Prop) (m : Nat) : Prop := m = os.length ∨ (m < os.length ∧ ek Y os m ≠ .r ∧ ¬ L m)

theorem Tx.r (tx : Tx cf τ os Y Hf Sf wf rf) {i : Nat} (hi : i < os.length) (h : ek Y os i = .r) : Hf (i + 1) = Hf i ∧ Sf (i + 1) = Sf i ∧ wf i = [] := by
  have hr : os[i]? = some os[i] := List.getElem?_eq_getElem hi
  have hst := tx.st i _ hr
  unfold ek at h
  rw [hr] at h
  simp only at h
  unfold stepO at hst
  split at hst
  · cases hst
  · simp only [Option.some.injEq, Prod.mk.injEq] at hst
    obtain ⟨_, h1, h2, h3, _⟩ := hst
    exact ⟨h1.symm, h2.symm, h3.symm⟩
  · rename_i hw
    rw [hw] at h
    simp only at h
    rw [h] at hst
    simp only at hst
    split at hst
    · simp only [Option.some.injEq, Prod.mk.injEq] at hst
      obtain ⟨_, h1, h2, h3, _⟩ := hst
      exact ⟨h1.symm, h2.symm, h3.symm⟩
    · cases hst

theorem Tx.fm (hcf : CfOk P k Bt cf) (tx : Tx cf τ os Y Hf Sf wf rf) {i : Nat} (hi : i < os.length) : Fm (Hf i) (wf i) (Hf (i + 1)) :=
  stepO_fm hcf (tx.st i _ (List.getElem?_eq_getElem hi))

theorem Tx.len (hcf : CfOk P k Bt cf) (tx : Tx cf τ os Y Hf Sf wf rf) : ∀ (d i : Nat), i + d ≤ os.length → (Hf i).length ≤ (Hf (i + d)).length
  | 0, i, _ => Nat.le_refl _
  | d + 1, i, h => Nat.le_trans (Tx.len hcf tx d i (by omega)) (tx.fm hcf (i := i + d) (by omega)).1

theorem Tx.chain (hcf : CfOk P k Bt cf) (tx : Tx cf τ os Y Hf Sf wf rf) {b : Nat} : ∀ (d i : Nat), i + d ≤ os.length → b < (Hf i).length → (∀ j, i ≤ j → j < i + d → b ∉ wf j) → (Hf (i + d))[b]? = (Hf i)[b]?
  | 0, i, _, _, _ => rfl
  | d + 1, i, h, hb, hw => by
    have h1 := Tx.chain hcf tx d i (by omega) hb fun j h1 h2 => hw j h1 (by omega)
    have h2 := (tx.fm hcf (i := i + d) (by omega)).2 b (Nat.lt_of_lt_of_le hb (tx.len hcf d i (by omega))) (hw (i + d) (by omega) (by omega))
    show (Hf (i + d + 1))[b]? = _
    rw [h2, h1]

theorem Tx.a (tx : Tx cf τ os Y Hf Sf wf rf) {i : Nat} (hi : i < os.length) (h : ek Y os i = .a) : wf i = [] := by
  have hr : os[i]? = some os[i] := List.getElem?_eq_getElem hi
  have hst := tx.st i _ hr
  unfold ek at h
  rw [hr] at h
  simp only at h
  unfold stepO at hst
  split at hst
  · cases hst
  · simp only [Option.some.injEq, Prod.mk.injEq] at hst
    exact hst.2.2.2.1.symm
  · rename_i hw
    rw [hw] at h
    simp only at h
    rw [h] at hst
    simp only at hst
    split at hst
    · simp only [Option.some.injEq, Prod.mk.injEq] at hst
      exact hst.2.2.2.1.symm
    · cases hst

theorem ek_kd {i : Nat} {r : Ro1} (hr : os[i]? = some r) {q : Kd} (hq : q ≠ .r) (h : ek Y os i = q) : kd r.op = q ∧ wantO (ysL Y i) r.gd = some true := by
  unfold ek at h
  rw [hr] at h
  simp only at h
  split at h
  · rename_i hw; exact ⟨h, hw⟩
  · exact absurd h.symm hq

theorem advance {L : Nat → Prop} {v : Nat → Value} {w : World} (hcf : CfOk P k Bt cf) (tx : Tx cf τ os Y Hf Sf wf rf) (h0 : Hf 0 = H) :
    ∀ (d m : Nat) (φ : Nat → Option Nat) (A : Nat → Nat) (G : Nat → Prop), m + d = os.length → JInv P k Bt F0 N φ0 w0 H S os Y Hf Sf L v w m φ A G → ∃ m' φ' G', JInv P k Bt F0 N φ0 w0 H S os Y Hf Sf L v w m' φ' A G' ∧ Canon os Y L m' := by
  intro d
  induction d with
  | zero => exact fun m φ A G hm h => ⟨m, φ, G, h, .inl hm⟩
  | succ d ih =>
    intro m φ A G hm h
    have hml : m < os.length := by omega
    by_cases hr : ek Y os m = .r
    · obtain ⟨e1, e2, _⟩ := tx.r hml hr
      refine ih (m + 1) φ A G (by omega) ?_
      have hset : ∀ j, (m + 1 ≤ j ∧ L j ∧ ek Y os j = .a) ↔ (m ≤ j ∧ L j ∧ ek Y os j = .a) := by
        intro j
        constructor
        · rintro ⟨h1, h2⟩; exact ⟨by omega, h2⟩
        · rintro ⟨h1, h2, h3⟩
          refine ⟨?_, h2, h3⟩
          rcases Nat.lt_or_ge m j with h4 | h4
          · exact h4
          · obtain rfl : j = m := by omega
            rw [hr] at h3; cases h3
      refine ⟨hml, fun j hj he => ?_, fun j hj => h.post j (by omega), h.below, by rw [e1, e2]; exact h.hr, by rw [e1, e2]; exact h.kp, h.same, h.old, fun x => ?_, fun j hj he => ?_, fun j hj h2 h3 => ?_⟩
      · rcases Nat.lt_or_ge j m with h4 | h4
        · exact h.pre j h4 he
        · obtain rfl : j = m := by omega
          exact absurd hr he
      · rw [h.g x]
        constructor
        · rintro (h1 | ⟨j, h1, h2⟩)
          · exact .inl h1
          · exact .inr ⟨j, (hset j).2 h1, h2⟩
        · rintro (h1 | ⟨j, h1, h2⟩)
          · exact .inl h1
          · exact .inr ⟨j, (hset j).1 h1, h2⟩
      · rw [e1, e2]
        refine h.val j hj ?_
        rcases he with he | he
        · rcases Nat.lt_or_ge j m with h4 | h4
          · exact .inl h4
          · obtain rfl : j = m := by omega
            exact .inr hr
        · exact .inr he
      · rw [e1, e2]
        obtain ⟨p1, p2, p3, p4⟩ := h.pend j (by omega) h2 h3
        exact ⟨p1, p2, fun j' h4 => p3 j' (by omega), p4⟩
    · by_cases hL : L m
      · have ha : ek Y os m = .a := by
          have := h.post m (Nat.le_refl _) hL
          cases he : ek Y os m with
          | r => exact absurd he hr
          | o => exact absurd he this
          | a => rfl
        obtain ⟨p1, p2, p3, blk, p4, p5, p6, p7⟩ := h.pend m (Nat.le_refl _) hL ha
        have hGm : G (A m) := (h.g _).2 (.inr ⟨m, ⟨Nat.le_refl _, hL, ha⟩, rfl⟩)
        let G' : Nat → Prop := fun x => F0 x ∨ ∃ j, (m + 1 ≤ j ∧ L j ∧ ek Y os j = .a) ∧ A j = x
        have hG' : ∀ x, G' x → G x ∧ x ≠ A m := by
          rintro x (hx | ⟨j, ⟨h1, h2, h3⟩, rfl⟩)
          · exact ⟨(h.g x).2 (.inl hx), fun e => p2 (e ▸ hx)⟩
          · refine ⟨(h.g _).2 (.inr ⟨j, ⟨by omega, h2, h3⟩, rfl⟩), fun e => ?_⟩
            have := p3 j (by omega) h2 h3 e
            omega
        have hφn : φ (Hf m).length = none := h.hr.dom _ (Nat.le_refl _)
        have q : Kp (Fo G φ (Hf m) (Sf m)) φ w (Fo G' (bindφ φ (Hf m).length (A m)) (Hf (m + 1)) (Sf (m + 1))) (bindφ φ (Hf m).length (A m)) w := by
          refine ⟨bindφ_mono hφn, fun x _ hf => ⟨rfl, fun hf' => hf ?_⟩, fun _ vs _ _ h => ⟨vs, h, rfl⟩⟩
          rcases hf' with hx | ⟨b, y, hb, hs, hx⟩
          · exact .inl (hG' x hx).1
          · rw [p4, getElem?_push] at hb
            rcases bindφ_some hx with ⟨_, e⟩ | ⟨hne, hx⟩
            · exact .inl (e ▸ hGm)
            · rcases hb with hb | ⟨hb, _⟩
              · exact .inr ⟨b, y, hb, by rw [← p5]; exact hs, hx⟩
              · exact absurd hb hne
        have hH : HR k Bt G' N (bindφ φ (Hf m).length (A m)) w (Hf (m + 1)) (Sf (m + 1)) := by
          have oldB : ∀ (b : Nat) y x, (Hf (m + 1))[b]? = some (some y) → bindφ φ (Hf m).length (A m) b = some x → (b = (Hf m).length ∧ x = A m ∧ y = blk) ∨ ((Hf m)[b]? = some (some y) ∧ φ b = some x) := by
            intro b y x hb hx
            rw [p4, getElem?_push] at hb
            rcases bindφ_some hx with ⟨e1, e2⟩ | ⟨hne, hx⟩
            · rcases hb with hb | ⟨_, hb⟩
              · have := (List.getElem?_eq_some_iff.1 hb).1; omega
              · cases hb; exact .inl ⟨e1, e2, rfl⟩
            · rcases hb with hb | ⟨hb, _⟩
              · exact .inr ⟨hb, hx⟩
              · exact absurd hb hne
          refine ⟨fun b hb => ?_, fun x hx => ⟨(h.hr.f0 x (hG' x hx).1).1, fun b y hb he => ?_, (h.hr.f0 x (hG' x hx).1).2.2⟩, fun b b' y y' x h1 h2 h3 h4 => ?_, fun b y x hb hx => ?_⟩
          · rw [p4, List.length_append, List.length_singleton] at hb
            rw [bindφ_other (by omega)]
            exact h.hr.dom b (by omega)
          · rcases oldB b y x hb he with ⟨_, e, _⟩ | ⟨h1, h2⟩
            · exact (hG' x hx).2 e
            · exact (h.hr.f0 x (hG' x hx).1).2.1 b y h1 h2
          · rcases oldB b y x h1 h3 with ⟨e1, e2, _⟩ | ⟨g1, g2⟩ <;> rcases oldB b' y' x h2 h4 with ⟨e1', e2', _⟩ | ⟨g1', g2'⟩
            · rw [e1, e1']
            · exact absurd (e2 ▸ g2') ((h.hr.f0 _ hGm).2.1 b' y' g1')
            · exact absurd (e2' ▸ g2) ((h.hr.f0 _ hGm).2.1 b y g1)
            · exact h.hr.inj b b' y y' x g1 g1' g2 g2'
          · rcases oldB b y x hb hx with ⟨_, rfl, rfl⟩ | ⟨h1, h2⟩
            · exact ⟨p1, RB.kp q p6 rfl⟩
            · obtain ⟨g1, g2⟩ := h.hr.at_ b y x h1 h2
              exact ⟨g1, RB.kp q g2 rfl⟩
        refine ih (m + 1) (bindφ φ (Hf m).length (A m)) A G' (by omega) ⟨hml, fun j hj he => ?_, fun j hj => h.post j (by omega), h.below, hH, h.kp.trans q h.below.size, fun c hc => ?_, h.old, fun x => Iff.rfl, fun j hj he => ?_, fun j hj h2 h3 => ?_⟩
        · rcases Nat.lt_or_ge j m with h4 | h4
          · exact h.pre j h4 he
          · obtain rfl : j = m := by omega
            exact hL
        · have hle : H.length ≤ (Hf m).length := by
            have := tx.len hcf m 0 (by omega)
            rw [Nat.zero_add, h0] at this
            exact this
          rw [bindφ_other (by omega)]
          exact h.same c hc
        · by_cases hjm : j = m
          · subst hjm
            exact p7 _ _ _ bindφ_same (RB.kp q p6 rfl)
          · exact RT.kp q (h.val j hj (he.imp (fun h => by omega) id))
        · obtain ⟨q1, q2, q3, blk', q4, q5, q6, q7⟩ := h.pend j (by omega) h2 h3
          exact ⟨q1, q2, fun j' h4 => q3 j' (by omega), blk', q4, q5, RB.kp q q6 rfl, q7⟩
      · exact ⟨m, φ, G, h, .inr ⟨hml, hr, hL⟩⟩

/-- The state between operations. -/
def JJ (P : Program) (k : Cls) (Bt : Bodies) (F0 : Nat → Prop) (N : Nat) (φ0 : Nat → Option Nat) (w0 : World) (H : Hp) (S : List Nat) (os : List Ro1) (Y : Nat → T) (Hf : Nat → Hp) (Sf : Nat → List Nat) (L : Nat → Prop) (v : Nat → Value) (w : World) : Prop :=
  ∃ m φ A G, JInv P k Bt F0 N φ0 w0 H S os Y Hf Sf L v w m φ A G ∧ Canon os Y L m

theorem JInv.jj {L : Nat → Prop} {v : Nat → Value} {w : World} {m : Nat} {φ : Nat → Option Nat} {A : Nat → Nat} {G : Nat → Prop} (hcf : CfOk P k Bt cf) (tx : Tx cf τ os Y Hf Sf wf rf) (h0 : Hf 0 = H) (h : JInv P k Bt F0 N φ0 w0 H S os Y Hf Sf L v w m φ A G) :
    JJ P k Bt F0 N φ0 w0 H S os Y Hf Sf L v w := by
  have hle := h.le
  obtain ⟨m', φ', G', h1, h2⟩ := advance hcf tx h0 (os.length - m) m φ A G (by omega) h
  exact ⟨m', φ', A, G', h1, h2⟩
end
end Go.Mach
namespace Go.Mach
open Go Go.RowKit Go.Flow
variable [Limb]

section
variable {P : Program} {k : Cls} {Bt : Bodies} {F0 : Nat → Prop} {N : Nat} {φ0 : Nat → Option Nat} {w0 : World} {H : Hp} {S : List Nat} {cf : CFn} {τ : List T} {os : List Ro1} {Y : Nat → T} {Hf : Nat → Hp} {Sf wf : Nat → List Nat} {rf : Nat → Option Nat}
  {L : Nat → Prop} {v : Nat → Value} {w w' : World} {m : Nat} {φ φ' : Nat → Option Nat} {A : Nat → Nat} {G : Nat → Prop}

theorem upd_same {v : Nat → Value} {i : Nat} {u : Value} : upd v i u i = u := by simp [upd]
theorem upd_other {v : Nat → Value} {i j : Nat} {u : Value} (h : j ≠ i) : upd v i u j = v j := by simp [upd, h]

theorem JInv.add_r (h : JInv P k Bt F0 N φ0 w0 H S os Y Hf Sf L v w m φ A G) (hN : N ≤ w.heap.size) {i : Nat} (he : ek Y os i = .r) (hx : Ext w w') {u : Value} (hu : RT k (Fo G φ (Hf m) (Sf m)) φ w' (Y i) u) :
    JInv P k Bt F0 N φ0 w0 H S os Y Hf Sf (fun j => L j ∨ j = i) (upd v i u) w' m φ A G := by
  have q : Kp (Fo G φ (Hf m) (Sf m)) φ w (Fo G φ (Hf m) (Sf m)) φ w' := Kp.of_ext hx (fun _ _ h => h) (fun _ _ h => h)
  have hset : ∀ j, (m ≤ j ∧ (L j ∨ j = i) ∧ ek Y os j = .a) ↔ (m ≤ j ∧ L j ∧ ek Y os j = .a) := by
    intro j
    constructor
    · rintro ⟨h1, h2 | rfl, h3⟩
      · exact ⟨h1, h2, h3⟩
      · rw [he] at h3; cases h3
    · rintro ⟨h1, h2, h3⟩; exact ⟨h1, .inl h2, h3⟩
  refine ⟨h.le, fun j hj hej => .inl (h.pre j hj hej), fun j hj hL => ?_, h.below.trans (Below.mono hx hN), h.hr.ext hx, h.kp.trans q h.below.size, h.same, fun x hx0 hn => ?_, fun x => ?_, fun j hL hej => ?_, fun j hj hL hej => ?_⟩
  · rcases hL with hL | rfl
    · exact h.post j hj hL
    · rw [he]; simp
  · rw [hx.block x (Nat.lt_of_lt_of_le hx0 h.below.size)]; exact h.old x hx0 hn
  · rw [h.g x]
    constructor
    · rintro (h1 | ⟨j, h1, h2⟩)
      · exact .inl h1
      · exact .inr ⟨j, (hset j).2 h1, h2⟩
    · rintro (h1 | ⟨j, h1, h2⟩)
      · exact .inl h1
      · exact .inr ⟨j, (hset j).1 h1, h2⟩
  · by_cases hji : j = i
    · subst hji; rw [upd_same]; exact hu
    · rw [upd_other hji]
      exact RT.kp q (h.val j (hL.resolve_right hji) hej)
  · obtain ⟨_, hL', _⟩ := (hset j).1 ⟨hj, hL, hej⟩
    have hji : j ≠ i := by rintro rfl; rw [he] at hej; cases hej
    obtain ⟨p1, p2, p3, blk, p4, p5, p6, p7⟩ := h.pend j hj hL' hej
    rw [upd_other hji]
    exact ⟨p1, p2, fun j' h4 h5 h6 => p3 j' h4 ((hset j').1 ⟨h4, h5, h6⟩).2.1 h6, blk, p4, p5, RB.kp q p6 (hx.block _ p6.lt), p7⟩

theorem JInv.add_a (h : JInv P k Bt F0 N φ0 w0 H S os Y Hf Sf L v w m φ A G) (hN : N ≤ w.heap.size) {i : Nat} (hmi : m ≤ i) (hLi : ¬ L i) (he : ek Y os i = .a) {blk : Blk} {u : Value}
    (hal : AlPost k Bt (Fo G φ (Hf m) (Sf m)) φ w (Hf i).length blk (Y i) u w') (e1 : Hf (i + 1) = Hf i ++ [some blk]) (e2 : Sf (i + 1) = Sf i) :
    ∃ A' G', JInv P k Bt F0 N φ0 w0 H S os Y Hf Sf (fun j => L j ∨ j = i) (upd v i u) w' m φ A' G' := by
  obtain ⟨a, ha, hx, hB, hy⟩ := hal
  have q : Kp (Fo G φ (Hf m) (Sf m)) φ w (Fo (fun x => G x ∨ x = a) φ (Hf m) (Sf m)) φ w' := Kp.of_ext hx (fun x hx0 hf hf' => by
    rcases hf' with (h1 | rfl) | h1
    · exact hf (.inl h1)
    · omega
    · exact hf (.inr h1)) (fun _ _ h => h)
  have hBa := hB _ _ q
  have hal : a < w'.heap.size := hBa.lt
  have hpl : ∀ j, m ≤ j → L j → ek Y os j = .a → A j < w.heap.size ∧ G (A j) := fun j h1 h2 h3 => by
    obtain ⟨_, _, _, blk', _, _, p6, _⟩ := h.pend j h1 h2 h3
    exact ⟨p6.lt, (h.g _).2 (.inr ⟨j, ⟨h1, h2, h3⟩, rfl⟩)⟩
  have hne : ∀ j, L j → j ≠ i := fun j hL e => hLi (e ▸ hL)
  refine ⟨fun j => if j = i then a else A j, fun x => G x ∨ x = a, ⟨h.le, fun j hj hej => .inl (h.pre j hj hej), fun j hj hL => ?_, h.below.trans (Below.mono hx hN), ?_, h.kp.trans q h.below.size, h.same, fun x hx0 hn => ?_, fun x => ?_, fun j hL hej => ?_, fun j hj hL hej => ?_⟩⟩
  · rcases hL with hL | rfl
    · exact h.post j hj hL
    · rw [he]; simp
  · have hH := h.hr.ext hx
    refine ⟨hH.dom, fun x hx0 => ?_, hH.inj, fun b y x hb hφ => ?_⟩
    · rcases hx0 with hx0 | rfl
      · exact hH.f0 x hx0
      · refine ⟨hal, fun b y hb hφ => ?_, hBa.nolimb⟩
        have := (h.hr.lt hb hφ).1
        omega
    · obtain ⟨g1, g2⟩ := h.hr.at_ b y x hb hφ
      exact ⟨g1, RB.kp q g2 (hx.block x g2.lt)⟩
  · rw [hx.block x (Nat.lt_of_lt_of_le hx0 h.below.size)]; exact h.old x hx0 hn
  · constructor
    · rintro (h1 | rfl)
      · rcases (h.g x).1 h1 with h2 | ⟨j, ⟨h2, h3, h4⟩, rfl⟩
        · exact .inl h2
        · exact .inr ⟨j, ⟨h2, .inl h3, h4⟩, by rw [if_neg (hne j h3)]⟩
      · exact .inr ⟨i, ⟨hmi, .inr rfl, he⟩, by simp⟩
    · rintro (h1 | ⟨j, ⟨h2, h3, h4⟩, h5⟩)
      · exact .inl ((h.g x).2 (.inl h1))
      · by_cases hji : j = i
        · rw [if_pos hji] at h5; exact .inr h5.symm
        · rw [if_neg hji] at h5
          exact .inl ((h.g x).2 (.inr ⟨j, ⟨h2, h3.resolve_right hji, h4⟩, h5⟩))
  · have hji : j ≠ i := by
      rintro rfl
      rcases hej with h1 | h1
      · omega
      · rw [he] at h1; cases h1
    rw [upd_other hji]
    exact RT.kp q (h.val j (hL.resolve_right hji) hej)
  · by_cases hji : j = i
    · subst hji
      rw [if_pos rfl, upd_same]
      refine ⟨by omega, fun hf => ?_, fun j' h4 h5 h6 h7 => ?_, blk, e1, e2, hBa, fun F' φ' w'' => hy F' φ' w''⟩
      · have := (h.hr.f0 a ((h.g a).2 (.inl hf))).1
        omega
      · by_cases hj' : j' = j
        · exact hj'
        · rw [if_neg hj'] at h7
          have := (hpl j' h4 (h5.resolve_right hj') h6).1
          omega
    · have hL' := hL.resolve_right hji
      obtain ⟨p1, p2, p3, blk', p4, p5, p6, p7⟩ := h.pend j hj hL' hej
      rw [if_neg hji, upd_other hji]
      refine ⟨p1, p2, fun j' h4 h5 h6 h7 => ?_, blk', p4, p5, RB.kp q p6 (hx.block _ p6.lt), p7⟩
      by_cases hj' : j' = i
      · rw [if_pos hj'] at h7
        have := (hpl j hj hL' hej).1
        omega
      · rw [if_neg hj'] at h7
        exact p3 j' h4 (h5.resolve_right hj') h6 h7

theorem JInv.add_o (h : JInv P k Bt F0 N φ0 w0 H S os Y Hf Sf L v w m φ A G) (hml : m < os.length) (hLi : ¬ L m) (he : ek Y os m = .o) (hle : H.length ≤ (Hf m).length) {u : Value}
    (tr : Tr k Bt G N φ w (Hf m) (Sf m) φ' w' (Hf (m + 1)) (Sf (m + 1))) (hu : RT k (Fo G φ' (Hf (m + 1)) (Sf (m + 1))) φ' w' (Y m) u) :
    JInv P k Bt F0 N φ0 w0 H S os Y Hf Sf (fun j => L j ∨ j = m) (upd v m u) w' (m + 1) φ' A G := by
  have hne : ∀ j, L j → j ≠ m := fun j hL e => hLi (e ▸ hL)
  have hset : ∀ j, (m + 1 ≤ j ∧ (L j ∨ j = m) ∧ ek Y os j = .a) ↔ (m ≤ j ∧ L j ∧ ek Y os j = .a) := by
    intro j
    constructor
    · rintro ⟨h1, h2, h3⟩
      exact ⟨by omega, h2.resolve_right (by omega), h3⟩
    · rintro ⟨h1, h2, h3⟩
      have := hne j h2
      exact ⟨by omega, .inl h2, h3⟩
  refine ⟨hml, fun j hj hej => ?_, fun j hj hL => h.post j (by omega) (hL.resolve_right (by omega)), h.below.trans tr.below, tr.hr, h.kp.trans tr.kp h.below.size, fun c hc => (tr.same c (by omega)).trans (h.same c hc), fun x hx0 hn => ?_, fun x => ?_, fun j hL hej => ?_, fun j hj hL hej => ?_⟩
  · by_cases hjm : j = m
    · exact .inr hjm
    · exact .inl (h.pre j (by omega) hej)
  · rw [tr.old x (Nat.lt_of_lt_of_le hx0 h.below.size) fun b y hb hs heq => ?_]
    · exact h.old x hx0 hn
    · by_cases h0 : F0 x
      · exact (h.hr.f0 x ((h.g x).2 (.inl h0))).2.1 b y hb heq
      · refine (h.kp.keep x hx0 ?_).2 (.inr ⟨b, y, hb, hs, heq⟩)
        rintro (h1 | ⟨b', y', h1, h2, h3⟩)
        · exact h0 h1
        · exact hn b' y' h1 h2 h3
  · rw [h.g x]
    constructor
    · rintro (h1 | ⟨j, h1, h2⟩)
      · exact .inl h1
      · exact .inr ⟨j, (hset j).2 h1, h2⟩
    · rintro (h1 | ⟨j, h1, h2⟩)
      · exact .inl h1
      · exact .inr ⟨j, (hset j).1 h1, h2⟩
  · by_cases hjm : j = m
    · subst hjm; rw [upd_same]; exact hu
    · rw [upd_other hjm]
      exact RT.kp tr.kp (h.val j (hL.resolve_right hjm) (hej.imp (fun h => by omega) id))
  · obtain ⟨hj', hL', _⟩ := (hset j).1 ⟨hj, hL, hej⟩
    obtain ⟨p1, p2, p3, blk, p4, p5, p6, p7⟩ := h.pend j hj' hL' hej
    rw [upd_other (hne j hL')]
    refine ⟨p1, p2, fun j' h4 h5 h6 => p3 j' (by omega) ((hset j').1 ⟨h4, h5, h6⟩).2.1 h6, blk, p4, p5, RB.kp tr.kp p6 ?_, p7⟩
    exact tr.old _ p6.lt fun b y hb _ => (h.hr.f0 _ ((h.g _).2 (.inr ⟨j, ⟨hj', hL', hej⟩, rfl⟩))).2.1 b y hb

theorem JInv.congr {L' : Nat → Prop} (h : JInv P k Bt F0 N φ0 w0 H S os Y Hf Sf L v w m φ A G) (e : ∀ j, L j ↔ L' j) : JInv P k Bt F0 N φ0 w0 H S os Y Hf Sf L' v w m φ A G := by
  have : L = L' := funext fun j => propext (e j)
  subst this
  exact h

theorem drawn_ok {ro : Option Nat} (hcf : CfOk P k Bt cf) (hm : P.follows .mixedOrders = true) {id nt : Nat} {kp : List Tmp} {ops : Array Oper} {anc : List (List (Nat × Tmp))} (hR : ROkD P nt kp ops os anc) {a0 : Act} {Q : Exit → Act → World → Prop} {τ1 : List T} {H1 : Hp} {S1 W1 : List Nat}
    (hN : N ≤ w0.heap.size) (hH : HR k Bt F0 N φ0 w0 H S) (hF : FrR k (Fo F0 φ0 H S) φ0 w0 kp τ a0) (hsz : a0.tmps.size = nt) (hτ : τ.length = kp.length) (h : runR cf τ os [] H S τ [] [] = some (τ1, H1, S1, W1))
    (fin : ∀ a' w' φ', Tr k Bt F0 N φ0 w0 H S φ' w' H1 S1 → FrR k (Fo F0 φ' H1 S1) φ' w' kp τ1 a' → a'.tmps.size = nt → a'.defers = a0.defers → τ1.length = kp.length → Q .normal a' w') :
    (Code.region id ops true).wpIn (Fr ro) 0 P Q a0 w0 := by
  obtain ⟨Y, Hf, Sf, wf, rf, _, g1, g2, g3, g4, g5, g6, g7, g8, g9⟩ := runR_spec os 0 (fun _ => .nil) (fun _ => []) (fun _ => none) H S τ [] (by simpa [ysL, infL] using h)
  simp only [Nat.zero_add] at g3 g4 g5 g6 g8
  have tx : Tx cf τ os Y Hf Sf wf rf := ⟨g5, fun i d j r hr hd hj => g6 i d j r hr hd hj⟩
  have hlt : ∀ {i o}, ops[i]? = some o → i < ops.size := fun h => (Array.getElem?_eq_some_iff.1 h).1
  refine region_inv hm hR.chk (fun i o ho => ?_) (fun j oj t hoj hd => ?_) (fun listed v w => listed.size = ops.size ∧ JJ P k Bt F0 N φ0 w0 H S os Y Hf Sf (fun j => listed.getD j false = true) v w) ?_ ?_ ?_
  · have hil : i < os.length := by rw [hR.len]; exact hlt ho
    exact (hR.op i o os[i] ho (List.getElem?_eq_getElem hil)).1
  · have hil : j < os.length := by rw [hR.len]; exact hlt hoj
    rw [hsz]
    exact (hR.op j oj os[j] hoj (List.getElem?_eq_getElem hil)).2.2.1 t hd
  · intro listed v w i o hJ hls hcl ho hun hmask
    obtain ⟨_, m, φ, A, G, hI, hC⟩ := hJ
    have hls' : (listed.setIfInBounds i true).size = ops.size := by simpa using hls
    have hio : i < ops.size := hlt ho
    have hil : i < os.length := by rw [hR.len]; exact hio
    have hri : os[i]? = some os[i] := List.getElem?_eq_getElem hil
    obtain ⟨hnd, hop, hdst, hgd, hkp⟩ := hR.op i o os[i] ho hri
    have hNw : N ≤ w.heap.size := Nat.le_trans hN hI.below.size
    have hLi : ¬ (listed.getD i false = true) := by rw [hun]; simp
    have hL' : ∀ j, (listed.getD j false = true ∨ j = i) ↔ (listed.setIfInBounds i true).getD j false = true := by
      intro j
      rw [Array.getD_eq_getD_getElem?, Array.getD_eq_getD_getElem?, Array.getElem?_setIfInBounds]
      by_cases hji : i = j
      · subst hji; simp [hls, hio]
      · rw [if_neg hji]
        exact ⟨fun h => h.resolve_right fun e => hji e.symm, .inl⟩
    -- what an operation that has been carried out is known by
    have opv : ∀ j, mskB ops i j → j < i → listed.getD j false = true ∧ (j < m ∨ ek Y os j = .r) := by
      intro j hj hji
      have hLj := hmask j hj
      refine ⟨hLj, ?_⟩
      by_cases hr : ek Y os j = .r
      · exact .inr hr
      refine .inl (Nat.lt_of_not_le fun hmj => ?_)
      have hjl : j < os.length := by omega
      have hrj : os[j]? = some os[j] := List.getElem?_eq_getElem hjl
      rcases hC with hC | ⟨hmlt, hmr, hmL⟩
      · omega
      rcases Nat.lt_or_ge m j with hlt' | hge
      · have hrm : os[m]? = some os[m] := List.getElem?_eq_getElem hmlt
        have hkm : kd os[m].op ≠ .r := fun e => hmr (by
          unfold ek; rw [hrm]; simp only; split
          · exact e
          · rfl)
        have hja : ek Y os j = .a := by
          cases he : ek Y os j with
          | r => exact absurd he hr
          | o => exact absurd he (hI.post j hmj hLj)
          | a => rfl
        have hkj := (ek_kd hrj (by simp) hja).1
        by_cases hko : kd os[i].op = .o
        · exact hmL (hmask m (hR.ord i m os[i] os[m] hri hrm (by omega) hkm hko))
        · exact hmL (hmask m (hR.al i j m os[i] os[j] os[m] hri hrj hrm hlt' hko hkj hkm hj))
      · obtain rfl : m = j := by omega
        exact hmL hLj
    have hanc : ∀ p ∈ anc.getD i [], p.1 < i ∧ mskB ops i p.1 ∧ (ops[p.1]?).bind (·.dst) = some p.2 := fun p hp => hR.chk.ancs i o hio ho p hp
    have hσ : ∀ od x, RsD (anc.getD i []) kp i od x → RT k (Fo G φ (Hf m) (Sf m)) φ w (evOd (ysL Y i) τ od) ((putL a0 v (anc.getD i [])).eval x) := by
      rintro od x (rfl | hk | ⟨t, rfl, (⟨d, j, h1, h2, rfl⟩ | ⟨h1, p, h2, rfl⟩)⟩)
      · trivial
      · exact hk.rt
      · obtain ⟨q1, q2, q3⟩ := hanc (j, t) h1
        have ⟨hLj, hjv⟩ := opv j q2 q1
        have := hI.val j hLj hjv
        show RT _ _ _ _ (nth (ysL Y i) d) ((putL a0 v (anc.getD i [])).tmps.getD t undef)
        rw [nth_ysL Y i d j h2]
        cases hoj : ops[j]? with
        | none => rw [hoj] at q3; cases q3
        | some oj =>
          rw [hoj, Option.bind_some] at q3
          have htn : t < a0.tmps.size := by
            have hjl : j < os.length := by rw [hR.len]; exact hlt hoj
            rw [hsz]
            exact (hR.op j oj os[j] hoj (List.getElem?_eq_getElem hjl)).2.2.1 t q3
          have hat := putL_at a0 v j t htn (anc.getD i []) h1 fun c hc => by
            obtain ⟨r1, r2, r3⟩ := hanc (c, t) hc
            cases hoc : ops[c]? with
            | none => rw [hoc] at r3; cases r3
            | some oc =>
              rw [hoc, Option.bind_some] at r3
              exact hR.chk.uniq j oj c oc t (hlt hoj) hoj (hlt hoc) hoc r3 q3
          rw [Array.getD_eq_getD_getElem?, hat]
          exact this
      · show RT _ _ _ _ (nth τ p) ((putL a0 v (anc.getD i [])).tmps.getD t undef)
        rw [Array.getD_eq_getD_getElem?, putL_far a0 v t _ h1, ← Array.getD_eq_getD_getElem?]
        exact RT.kp hI.kp (hF p t h2)
    have hst := tx.st i os[i] hri
    -- whether it is wanted
    have hwant : ∀ b, wantO (ysL Y i) os[i].gd = some b → wantedV o v = b := by
      intro b hb
      unfold wantedV
      cases hg : o.guard with
      | none =>
        rw [hg] at hgd
        cases hrg : os[i].gd with
        | none => rw [hrg] at hb; simp [wantO] at hb; exact hb.symm
        | some x => rw [hrg] at hgd; exact hgd.elim
      | some gb =>
        obtain ⟨g, bb⟩ := gb
        rw [hg] at hgd
        cases hrg : os[i].gd with
        | none => rw [hrg] at hgd; exact hgd.elim
        | some x =>
          obtain ⟨d, b'⟩ := x
          rw [hrg] at hgd hb
          obtain ⟨rfl, hgi⟩ := hgd
          obtain ⟨_, t, hgt⟩ := hR.chk.guard i o g bb hio ho hg
          obtain ⟨q1, q2, _⟩ := hanc (g, t) hgt
          obtain ⟨hLg, hgv⟩ := opv g q2 q1
          have hv := hI.val g hLg hgv
          simp only [wantO] at hb
          split at hb
          · rename_i c hc
            rw [nth_ysL Y i d g hgi] at hc
            rw [hc] at hv
            have hv' : v g = .bool c := plainT_eq (x := .bool c) rfl hv
            cases hb
            simp only [hv']
          · rename_i hc
            rw [nth_ysL Y i d g hgi] at hc
            rw [hc] at hv
            obtain ⟨vs, hv', hs, _⟩ := hv
            cases hb
            simp only [hv']
          · cases hb
    cases hb : wantO (ysL Y i) os[i].gd with
    | none => simp [stepO, hb] at hst
    | some b =>
      have hwb := hwant b hb
      cases b with
      | false =>
        rw [if_neg (by rw [hwb]; simp)]
        have her : ek Y os i = .r := by unfold ek; rw [hri]; simp only [hb]
        have hY : Y i = .tup [] := by
          simp only [stepO, hb, Option.some.injEq, Prod.mk.injEq] at hst
          exact hst.1.symm
        exact ⟨hls', ((hI.add_r hNw (u := undef) her (Ext.refl w) (by rw [hY]; exact ⟨#[], rfl, rfl, fun j d hj => by simp at hj⟩)).congr hL').jj hcf tx g1⟩
      | true =>
        rw [if_pos hwb]
        have hek : ek Y os i = kd os[i].op := by unfold ek; rw [hri]; simp only [hb]
        have hst0 := hst
        unfold stepO at hst
        rw [hb] at hst
        simp only at hst
        cases hkd : kd os[i].op with
        | r =>
          rw [hkd] at hst hek
          simp only at hst
          split at hst
          · rename_i y rd hev
            simp only [Option.some.injEq, Prod.mk.injEq] at hst
            obtain ⟨rfl, _, _, _, hrd⟩ := hst
            subst hrd
            have hcong : ∀ b, rf i = some b → (Hf m)[b]? = (Hf i)[b]? := by
              intro b hbr
              rw [hbr] at hev
              obtain ⟨hisr, hbl, od, x, hRx, hbo⟩ := evR_rd hop hev
              obtain ⟨xb, hφb⟩ := blkOf_bound hbo (hσ od x hRx)
              have hbm : b < (Hf m).length := hI.hr.dom_lt hφb
              have hml := hI.le
              rcases Nat.le_total m i with hmi | hmi
              · have := tx.chain hcf (b := b) (i - m) m (by omega) hbm fun j h1 h2 hbw => ?_
                · have e : m + (i - m) = i := by omega
                  rw [e] at this
                  exact this.symm
                · have hji : j < i := by omega
                  have hrj : os[j]? = some os[j] := List.getElem?_eq_getElem (by omega)
                  cases hej : ek Y os j with
                  | r => rw [(tx.r (by omega) hej).2.2] at hbw; cases hbw
                  | a => rw [tx.a (by omega) hej] at hbw; cases hbw
                  | o =>
                    have hnL : ¬ (listed.getD j false = true) := fun hL => hI.post j h1 hL hej
                    obtain ⟨d, hd, hdj⟩ := hR.lo i j os[i] os[j] hri hrj hji (fun hb => hnL (hmask j hb)) (.inl ⟨hisr, (ek_kd hrj (by simp) hej).1⟩)
                    have := (tx.lo i d j os[i] hri hd hdj).1
                    rw [hbr] at this
                    exact notIn_spec this hbw
              · have := tx.chain hcf (b := b) (m - i) i (by omega) hbl fun j h1 h2 hbw => ?_
                · have e : i + (m - i) = m := by omega
                  rw [e] at this
                  exact this
                · have hjl : j < os.length := by omega
                  have hrj : os[j]? = some os[j] := List.getElem?_eq_getElem hjl
                  cases hej : ek Y os j with
                  | r => rw [(tx.r hjl hej).2.2] at hbw; cases hbw
                  | a => rw [tx.a hjl hej] at hbw; cases hbw
                  | o =>
                    have hji : i < j := by
                      rcases Nat.lt_or_ge i j with h | h
                      · exact h
                      · obtain rfl : i = j := by omega
                        rw [hek] at hej; cases hej
                    have hLj : listed.getD j false = true := hI.pre j (by omega) (by rw [hej]; simp)
                    obtain ⟨d, hd, hdj⟩ := hR.lo j i os[j] os[i] hrj hri hji (fun hb => hLi (hcl j hLj i hb)) (.inr ⟨hisr, (ek_kd hrj (by simp) hej).1⟩)
                    have := (tx.lo j d i os[j] hrj hd hdj).2
                    rw [hbr] at this
                    exact notIn_spec this hbw
            obtain ⟨u, w', h1, h2, h3⟩ := evR_ok hI.hr hop hσ (evR_congr hev hcong)
            rw [h1]
            exact ⟨hls', ((hI.add_r hNw hek h2 h3).congr hL').jj hcf tx g1⟩
          · cases hst
        | a =>
          rw [hkd] at hst hek
          simp only at hst
          split at hst
          · rename_i x y hev
            simp only [Option.some.injEq, Prod.mk.injEq] at hst
            obtain ⟨rfl, e1, e2, _, _⟩ := hst
            obtain ⟨u, w', h1, h2⟩ := evA_ok (Bt := Bt) hop hσ hev
            rw [h1]
            have hmi : m ≤ i := Nat.le_of_not_lt fun hlt' => hLi (hI.pre i hlt' (by rw [hek]; simp))
            obtain ⟨A', G', hI'⟩ := hI.add_a hNw hmi hLi hek h2 e1.symm e2.symm
            exact ⟨hls', (hI'.congr hL').jj hcf tx g1⟩
          · cases hst
        | o =>
          rw [hkd] at hek
          have hmi : m = i := by
            have h1 : m ≤ i := Nat.le_of_not_lt fun hlt' => hLi (hI.pre i hlt' (by rw [hek]; simp))
            rcases hC with hC | ⟨hmlt, hmr, hmL⟩
            · omega
            · rcases Nat.lt_or_ge m i with hlt' | hge
              · have hrm : os[m]? = some os[m] := List.getElem?_eq_getElem hmlt
                have hkm : kd os[m].op ≠ .r := fun e => hmr (by
                  unfold ek; rw [hrm]; simp only; split
                  · exact e
                  · rfl)
                exact absurd (hmask m (hR.ord i m os[i] os[m] hri hrm hlt' hkm hkd)) hmL
              · omega
          subst hmi
          refine yieldsC_mono (step_ok hcf hI.hr hNw hop hσ hb hst0) fun u w' ⟨φ', tr, hr⟩ => ?_
          have hle : H.length ≤ (Hf m).length := by
            have := tx.len hcf m 0 (by omega)
            rw [Nat.zero_add, g1] at this
            exact this
          exact ⟨hls', ((hI.add_o hil hLi hek hle tr hr).congr hL').jj hcf tx g1⟩
  · intro listed v w hJ hall
    obtain ⟨_, m, φ, A, G, hI, hC⟩ := hJ
    have hmn : m = os.length := by
      rcases hC with hC | ⟨h1, _, h3⟩
      · exact hC
      · exact absurd (hall m (by rw [← hR.len]; exact h1)) h3
    subst hmn
    have hGF : G = F0 := funext fun x => propext ⟨fun hx => by
      rcases (hI.g x).1 hx with h1 | ⟨j, ⟨h1, h2, h3⟩, _⟩
      · exact h1
      · have : os[j]? = none := List.getElem?_eq_none h1
        simp [ek, this] at h3, fun hx => (hI.g x).2 (.inl hx)⟩
    subst hGF
    have e3 : Hf os.length = H1 := g3
    have e4 : Sf os.length = S1 := g4
    have hHl : H.length ≤ H1.length := by
      have := tx.len hcf os.length 0 (by omega)
      rw [Nat.zero_add, g1, e3] at this
      exact this
    have hHR := hI.hr
    have hKp := hI.kp
    have hval := hI.val
    rw [e3, e4] at hHR hKp hval
    refine fin _ w φ ⟨hI.below, hHR, hKp, hI.same, hI.old, hHl⟩ (fun p t hp => ?_) (by rw [putL_size]; exact hsz) (putL_defers _ _ _) (by rw [g9, hτ])
    have memd : ∀ j t, (j, t) ∈ dsts ops ops.size ↔ j < ops.size ∧ (ops[j]?).bind (·.dst) = some t := by
      intro j t
      simp only [dsts, List.mem_filterMap, List.mem_range, Option.map_eq_some_iff]
      constructor
      · rintro ⟨x, hx, t', ht', he⟩
        cases he
        exact ⟨hx, ht'⟩
      · rintro ⟨hj, ht⟩
        exact ⟨j, hj, t, ht, rfl⟩
    by_cases hex : ∃ (j : Nat) (oj : Oper), ops[j]? = some oj ∧ oj.dst = some t
    · obtain ⟨j, oj, hoj, hd⟩ := hex
      have hjl : j < os.length := by rw [hR.len]; exact hlt hoj
      have hrj : os[j]? = some os[j] := List.getElem?_eq_getElem hjl
      obtain ⟨_, _, hdj, _, hkj⟩ := hR.op j oj os[j] hoj hrj
      have hkp : os[j].kp = some p := hkj.2 t p hd hp
      have hpl : p < τ.length := by rw [hτ]; exact (List.getElem?_eq_some_iff.1 hp).1
      rw [g8 p j os[j] hrj hkp (fun j' r' hj' hk' => by
        have hj'l : j' < ops.size := by rw [← hR.len]; exact (List.getElem?_eq_some_iff.1 hj').1
        obtain ⟨_, _, _, _, hk2⟩ := hR.op j' ops[j'] r' (Array.getElem?_eq_getElem hj'l) hj'
        obtain ⟨t', e1, e2⟩ := hk2.1 p hk'
        rw [hp] at e2
        cases e2
        exact hR.chk.uniq j oj j' ops[j'] t (hlt hoj) hoj hj'l (Array.getElem?_eq_getElem hj'l) e1 hd) hpl]
      have hat := putL_at a0 v j t (by rw [hsz]; exact hdj t hd) (dsts ops ops.size) ((memd j t).2 ⟨hlt hoj, by rw [hoj, Option.bind_some, hd]⟩) fun c hc => by
        obtain ⟨hc1, hc2⟩ := (memd c t).1 hc
        cases hoc : ops[c]? with
        | none => rw [hoc] at hc2; cases hc2
        | some oc => rw [hoc, Option.bind_some] at hc2; exact hR.chk.uniq j oj c oc t (hlt hoj) hoj hc1 hoc hc2 hd
      rw [Array.getD_eq_getD_getElem?, hat]
      exact hval j (hall j (hlt hoj)) (.inl hjl)
    · rw [g7 p fun j r hj hk => hex ?_]
      · rw [Array.getD_eq_getD_getElem?, putL_far a0 v t _ fun j hj => hex ?_, ← Array.getD_eq_getD_getElem?]
        · exact RT.kp hKp (hF p t hp)
        · obtain ⟨h1, h2⟩ := (memd j t).1 hj
          cases hoj : ops[j]? with
          | none => rw [hoj] at h2; cases h2
          | some oj => rw [hoj, Option.bind_some] at h2; exact ⟨j, oj, hoj, h2⟩
      · have hjl : j < ops.size := by rw [← hR.len]; exact (List.getElem?_eq_some_iff.1 hj).1
        obtain ⟨_, _, _, _, hk2⟩ := hR.op j ops[j] r (Array.getElem?_eq_getElem hjl) hj
        obtain ⟨t', e1, e2⟩ := hk2.1 p hk
        rw [hp] at e2
        cases e2
        exact ⟨j, ops[j], Array.getElem?_eq_getElem hjl, e1⟩
  · refine ⟨by simp, ?_⟩
    have hx : Ext w0 { w0 with drawn := w0.drawn + 1 } := Below.drew (Below.refl _ _)
    have q : Kp (Fo F0 φ0 H S) φ0 w0 (Fo F0 φ0 H S) φ0 { w0 with drawn := w0.drawn + 1 } := Kp.of_ext hx (fun _ _ h => h) (fun _ _ h => h)
    have hno : ∀ j, ¬ ((Array.replicate ops.size false).getD j false = true) := by
      intro j hj
      rw [Array.getD_eq_getD_getElem?, Array.getElem?_replicate] at hj
      split at hj <;> simp at hj
    refine JInv.jj hcf tx g1 (m := 0) (φ := φ0) (A := fun _ => 0) (G := F0) ⟨Nat.zero_le _, fun j hj => absurd hj (by omega), fun j _ hj => absurd hj (hno j), Below.mono hx hN, by rw [g1, g2]; exact hH.ext hx, by rw [g1, g2]; exact q, fun _ _ => rfl, Old.ext hx, fun x => ⟨.inl, ?_⟩, fun j hj => absurd hj (hno j), fun j _ hj => absurd hj (hno j)⟩
    rintro (h1 | ⟨j, ⟨_, h2, _⟩, _⟩)
    · exact h1
    · exact absurd h2 (hno j)
end
end Go.Mach
namespace Go.Mach
open Go Go.RowKit Go.Flow
variable [Limb]

inductive CC where
  | skip
  | reg (os : List Ro1)
  | seq (a b : CC)
  | cond (c : Od) (t e : CC)
  | block (id : Nat) (b : CC)
  | loop (b : CC)
  | rf (g : Od) (i : Nat)
  | exit (id : Nat)
  | scope (b : CC)
  | ret
  deriving Inhabited

structure St where
  τ : List T
  H : Hp
  S : List Nat
  W : List Nat
  dfs : List Nat

def loopN (f : St → Option (X × St)) : Nat → St → Option (X × St)
  | 0, _ => none
  | n + 1, s =>
    match f s with
    | some (.normal, s1) => loopN f n s1
    | r => r

def isBusy : LoopState → Bool
  | .busy => true
  | _ => false
def evRf (cf : CFn) (g : Od) (i : Nat) (s : St) : Option (X × St) :=
  match fnOf (evOd [] s.τ g) with
  | none => none
  | some _ =>
    match cf (evOd [] s.τ g) [.t (.one (.yld (s.H.length + 1)))] ((s.H ++ [some .df]) ++ [some (.lp ⟨i, s.τ, .ready, none⟩)]) s.S with
    | some (_, H1, S1, W1) =>
      match H1[s.H.length + 1]? with
      | some (some (.lp r)) =>
        if isBusy r.st then none else if S1.elem (s.H.length + 1) then none else
        (match r.pend with
         | none => some (.normal, ⟨s.τ, H1.set (s.H.length + 1) none, S1, W1 ++ s.W, s.H.length :: s.dfs⟩)
         | some x => some (x, ⟨s.τ, H1.set (s.H.length + 1) none, S1, W1 ++ s.W, s.H.length :: s.dfs⟩))
      | _ => none
    | none => none

def evCode (cf : CFn) (fl : Nat) : CC → St → Option (X × St)
  | .skip, s => some (.normal, s)
  | .reg os, s => match runR cf s.τ os [] s.H s.S s.τ [] [] with | some (τ, H, S, W) => some (.normal, ⟨τ, H, S, W ++ s.W, s.dfs⟩) | none => none
  | .seq a b, s =>
    match evCode cf fl a s with
    | some (.normal, s1) => evCode cf fl b s1
    | r => r
  | .cond c t e, s =>
    match evOd [] s.τ c with
    | .t (.one (.c (.v (.bool true)))) => evCode cf fl t s
    | .t (.one (.c (.v (.bool false)))) => evCode cf fl e s
    | _ => none
  | .block id b, s =>
    match evCode cf fl b s with
    | some (.exit j, s1) => if Nat.beq j id then some (.normal, s1) else some (.exit j, s1)
    | r => r
  | .loop b, s => loopN (evCode cf fl b) fl s
  | .rf g i, s => evRf cf g i s
  | .exit id, s => some (.exit id, s)
  | .scope b, s => evCode cf fl b s
  | .ret, s => some (.ret, s)

/-- Where an operand of a condition stands. -/
def RsF (kp : List Tmp) (od : Od) (x : Operand) : Prop := od = .z ∨ RsK od x ∨ ∃ t p, x = .tmp t ∧ kp[p]? = some t ∧ od = .f p

/-- The code that the annotated code stands for. rd: in a round of a range over a function. -/
def COk (P : Program) (nt : Nat) (kp : List Tmp) (Bt : Bodies) (rd : Bool) : CC → Code → Prop
  | .skip, .skip => True
  | .skip, .label _ => True
  | .reg os, .region _ ops true => ∃ anc, ROkD P nt kp ops os anc
  | .reg os, .region _ ops false => ROkS P nt kp ops os
  | .seq a b, .seq a' b' => COk P nt kp Bt rd a a' ∧ COk P nt kp Bt rd b b'
  | .cond c t e, .cond c' t' e' => RsF kp c c' ∧ COk P nt kp Bt rd t t' ∧ COk P nt kp Bt rd e e'
  | .block id b, .block id' b' => id = id' ∧ COk P nt kp Bt rd b b'
  | .loop b, .loop b' => COk P nt kp Bt rd b b'
  | .rf g i, .rangeFunc g' ps as body => rd = false ∧ RsF kp g g' ∧ Bt i = some ⟨nt, kp, ps, as, body⟩
  | .exit id, .exit id' => id = id'
  | .scope b, .scope b' => rd = false ∧ COk P nt kp Bt rd b b'
  | .ret, .ret => True
  | _, _ => False

section
variable {P : Program} {k : Cls} {Bt : Bodies} {F0 : Nat → Prop} {N : Nat} {φ φ' : Nat → Option Nat} {w w' : World} {H H' : Hp} {S S' : List Nat} {cf : CFn} {fl : Nat}

/-- A block is given up that has turned. -/
theorem HR.close (hH : HR k Bt F0 N φ w H S) {b x : Nat} {y : Blk} (hb : H[b]? = some (some y)) (hs : b ∉ S) (hx : φ b = some x)
    (hsz : w'.heap.size = w.heap.size) (oth : ∀ z, z ≠ x → w'.heap[z]? = w.heap[z]?) (hcl : ∀ vs t fr, w.heap[x]? ≠ some (.cells vs t fr)) :
    HR k Bt F0 N φ w' (H.set b none) S ∧ Kp (Fo F0 φ H S) φ w (Fo F0 φ (H.set b none) S) φ w' := by
  have get : ∀ (b' : Nat) e, (H.set b none)[b']? = some (some e) → b' ≠ b ∧ H[b']? = some (some e) := by
    intro b' e h
    rw [List.getElem?_set] at h
    split at h
    · split at h <;> cases h
    · rename_i he; exact ⟨fun e => he e.symm, h⟩
  have hFx : Fo F0 φ H S x := .inr ⟨b, y, hb, hs, hx⟩
  have q : Kp (Fo F0 φ H S) φ w (Fo F0 φ (H.set b none) S) φ w' := by
    refine ⟨fun _ _ h => h, fun z hz hf => ⟨oth z fun e => hf (e ▸ hFx), fun h => hf ?_⟩, fun z vs t fr h => ?_⟩
    · rcases h with h | ⟨b', e, h1, h2, h3⟩
      · exact .inl h
      · exact .inr ⟨b', e, (get b' e h1).2, h2, h3⟩
    · have : z ≠ x := fun e => hcl vs t fr (e ▸ h)
      exact ⟨vs, by rw [oth z this]; exact h, rfl⟩
  refine ⟨⟨fun c hc => hH.dom c (by simpa using hc), fun z hz => ?_, fun b1 b2 e1 e2 z h1 h2 => hH.inj b1 b2 e1 e2 z (get b1 e1 h1).2 (get b2 e2 h2).2, fun b' e z h hz => ?_⟩, q⟩
  · obtain ⟨h1, h3, h4⟩ := hH.f0 z hz
    exact ⟨by omega, fun b' e hb' => h3 b' e (get b' e hb').2, limb_eq (oth z fun e => h3 b y hb (e ▸ hx)) h4⟩
  · obtain ⟨hne, h⟩ := get b' e h
    obtain ⟨hNz, hB⟩ := hH.at_ b' e z h hz
    exact ⟨hNz, RB.kp q hB (oth z fun ez => hne (hH.inj b' b e y x h hb (ez ▸ hz) hx))⟩

theorem Tr.close (hH : HR k Bt F0 N φ w H S) (hN : N ≤ w.heap.size) {b x : Nat} {y : Blk} (hb : H[b]? = some (some y)) (hs : b ∉ S) (hx : φ b = some x) {o o' : Obj} (ho : w.heap[x]? = some o) (hcl : ∀ vs t fr, o ≠ .cells vs t fr) :
    Tr k Bt F0 N φ w H S φ (w.putObj x o') (H.set b none) S := by
  have hNx := (hH.lt hb hx).2
  obtain ⟨g1, g2⟩ := hH.close (w' := w.putObj x o') hb hs hx (by simp) (fun z hz => World.putObj_heap_other hz) (fun vs t fr h => by rw [ho] at h; cases h; exact hcl _ _ _ rfl)
  exact ⟨⟨rfl, rfl, rfl, by simp, fun z hz => World.putObj_heap_other (by omega)⟩, g1, g2, fun _ _ => rfl, fun z _ hz => World.putObj_heap_other fun e => hz b y hb hs (e ▸ hx), by simp⟩

/-- The marks among a frame's deferred calls. -/
def DfR (φ : Nat → Option Nat) (dfs : List Nat) (ds : List Deferred) : Prop :=
  ds.length = dfs.length ∧ ∀ (j b : Nat), dfs[j]? = some b → ∃ x, φ b = some x ∧ ds[j]? = some { target := .collected x, args := #[] }

structure SRel (k : Cls) (Bt : Bodies) (F0 : Nat → Prop) (N nt : Nat) (kp : List Tmp) (s : St) (a : Act) (w : World) (φ : Nat → Option Nat) : Prop where
  hr : HR k Bt F0 N φ w s.H s.S
  fr : FrR k (Fo F0 φ s.H s.S) φ w kp s.τ a
  sz : a.tmps.size = nt
  len : s.τ.length = kp.length
  df : DfR φ s.dfs a.defers
  n : N ≤ w.heap.size

theorem RsF.rt {F : Nat → Prop} {kp : List Tmp} {od : Od} {x : Operand} {τ : List T} {a : Act} (h : RsF kp od x) (hF : FrR k F φ w kp τ a) : RT k F φ w (evOd [] τ od) (a.eval x) := by
  rcases h with rfl | h | ⟨t, p, rfl, h1, rfl⟩
  · trivial
  · exact h.rt
  · exact hF p t h1

theorem fnOf_val {F : Nat → Prop} {g : T} {f : FuncId} {ps : List (Nat × Nat)} {u : Value} (h : fnOf g = some (f, ps)) (r : RT k F φ w g u) : ∃ vs : Array Value, u = .func (.func f) #[] vs ∧ vs.size = ps.length ∧ ∀ (j b o : Nat), ps[j]? = some (b, o) → ∃ x, φ b = some x ∧ vs[j]? = some (.pointer (some ⟨x, o, none⟩)) := by
  unfold fnOf at h
  split at h
  · cases h
    exact r
  · cases h
    have : u = .func (.func f) ⟨[]⟩ ⟨[]⟩ := plainT_eq rfl r
    exact ⟨#[], this, rfl, fun j b o hj => by simp at hj⟩
  · cases h

theorem evCode_fm (hcf : CfOk P k Bt cf) : ∀ (c : CC) (s s' : St) (x : X), evCode cf fl c s = some (x, s') → (∀ b ∈ s.W, b ∈ s'.W) ∧ Fm s.H s'.W s'.H := by
  intro c
  have refl : ∀ s : St, (∀ b ∈ s.W, b ∈ s.W) ∧ Fm s.H s.W s.H := fun s => ⟨fun _ h => h, Fm.refl _ _⟩
  have trans : ∀ {s s1 s2 : St}, ((∀ b ∈ s.W, b ∈ s1.W) ∧ Fm s.H s1.W s1.H) → ((∀ b ∈ s1.W, b ∈ s2.W) ∧ Fm s1.H s2.W s2.H) → (∀ b ∈ s.W, b ∈ s2.W) ∧ Fm s.H s2.W s2.H := by
    intro s s1 s2 h1 h2
    refine ⟨fun b hb => h2.1 b (h1.1 b hb), Nat.le_trans h1.2.1 h2.2.1, fun c hc hW => ?_⟩
    rw [h2.2.2 c (Nat.lt_of_lt_of_le hc h1.2.1) hW, h1.2.2 c hc fun h => hW (h2.1 c h)]
  induction c with
  | skip => intro s s' x h; simp only [evCode, Option.some.injEq, Prod.mk.injEq] at h; obtain ⟨_, rfl⟩ := h; exact refl s
  | exit id => intro s s' x h; simp only [evCode, Option.some.injEq, Prod.mk.injEq] at h; obtain ⟨_, rfl⟩ := h; exact refl s
  | ret => intro s s' x h; simp only [evCode, Option.some.injEq, Prod.mk.injEq] at h; obtain ⟨_, rfl⟩ := h; exact refl s
  | reg os =>
    intro s s' x h
    simp only [evCode] at h
    split at h
    · rename_i hrun
      cases h
      obtain ⟨_, h2⟩ := runR_fm hcf os _ _ _ _ _ _ hrun
      exact ⟨fun b hb => List.mem_append_right _ hb, h2.1, fun c hc hW => h2.2 c hc fun h => hW (List.mem_append_left _ h)⟩
    · cases h
  | seq a b iha ihb =>
    intro s s' x h
    simp only [evCode] at h
    split at h
    · rename_i s1 h1
      exact trans (iha _ _ _ h1) (ihb _ _ _ h)
    · exact iha _ _ _ h
  | cond c t e iht ihe =>
    intro s s' x h
    simp only [evCode] at h
    split at h
    · exact iht _ _ _ h
    · exact ihe _ _ _ h
    · cases h
  | block id b ih =>
    intro s s' x h
    simp only [evCode] at h
    split at h
    · rename_i h1
      have := ih _ _ _ h1
      split at h <;> · cases h; exact this
    · exact ih _ _ _ h
  | loop b ih =>
    intro s s' x h
    simp only [evCode] at h
    have key : ∀ (m : Nat) (s : St), loopN (evCode cf fl b) m s = some (x, s') → (∀ b ∈ s.W, b ∈ s'.W) ∧ Fm s.H s'.W s'.H := by
      intro m
      induction m with
      | zero => intro s h; simp [loopN] at h
      | succ m ihm =>
        intro s h
        simp only [loopN] at h
        split at h
        · rename_i s1 h1
          exact trans (ih _ _ _ h1) (ihm _ h)
        · exact ih _ _ _ h
    exact key fl s h
  | rf g i =>
    intro s s' x h
    simp only [evCode, evRf] at h
    split at h
    · cases h
    · split at h
      · rename_i y H1 S1 W1 hc
        have hfm := (hcf _ _ _ _ _ _ _ _ hc).2.1
        have fin : (∀ b ∈ s.W, b ∈ W1 ++ s.W) ∧ Fm s.H (W1 ++ s.W) (H1.set (s.H.length + 1) none) := by
          have hl := hfm.1
          simp only [List.length_append, List.length_singleton] at hl
          refine ⟨fun b hb => List.mem_append_right _ hb, by simp; omega, fun c hc hW => ?_⟩
          rw [List.getElem?_set_ne (by omega), hfm.2 c (by simp; omega) fun h => hW (List.mem_append_left _ h), List.getElem?_append_left (by simp; omega), List.getElem?_append_left hc]
        split at h
        · split at h
          · cases h
          · split at h
            · cases h
            · split at h <;> · cases h; exact fin
        · cases h
      · cases h
  | scope b ih => intro s s' x h; simp only [evCode] at h; exact ih _ _ _ h

theorem DfR.kp {F F' : Nat → Prop} (q : Kp F φ w F' φ' w') {dfs : List Nat} {ds : List Deferred} (h : DfR φ dfs ds) : DfR φ' dfs ds :=
  ⟨h.1, fun j b hj => let ⟨x, hx, he⟩ := h.2 j b hj; ⟨x, q.phi b x hx, he⟩⟩

theorem evCode_ok (hcf : CfOk P k Bt cf) (hm : P.follows .mixedOrders = true) {ro : Option Nat} {rd : Bool} (hro : rd = true ∨ ro = none) {nt : Nat} {kp : List Tmp} : ∀ (c : CC) (code : Code) {Q : Exit → Act → World → Prop} {s s' : St} {x : X} {a : Act} {w : World} {φ : Nat → Option Nat},
    COk P nt kp Bt rd c code → evCode cf fl c s = some (x, s') → SRel k Bt F0 N nt kp s a w φ →
    (∀ a' w' φ', Tr k Bt F0 N φ w s.H s.S φ' w' s'.H s'.S → SRel k Bt F0 N nt kp s' a' w' φ' → Q x.toExit a' w') → code.wpIn (Fr ro) 0 P Q a w := by
  intro c
  induction c with
  | skip =>
    intro code Q s s' x a w φ hc h hs q
    simp only [evCode, Option.some.injEq, Prod.mk.injEq] at h
    obtain ⟨rfl, rfl⟩ := h
    cases code <;> first | exact (show False from hc).elim | exact wpIn_skip (q _ _ _ (Tr.refl hs.hr) hs) | exact wpIn_label (q _ _ _ (Tr.refl hs.hr) hs)
  | exit id =>
    intro code Q s s' x a w φ hc h hs q
    simp only [evCode, Option.some.injEq, Prod.mk.injEq] at h
    obtain ⟨rfl, rfl⟩ := h
    cases code <;> first | exact (show False from hc).elim | skip
    obtain rfl : id = _ := hc
    exact wpIn_exit (q _ _ _ (Tr.refl hs.hr) hs)
  | ret =>
    intro code Q s s' x a w φ hc h hs q
    simp only [evCode, Option.some.injEq, Prod.mk.injEq] at h
    obtain ⟨rfl, rfl⟩ := h
    cases code <;> first | exact (show False from hc).elim | exact wpIn_ret (q _ _ _ (Tr.refl hs.hr) hs)
  | reg os =>
    intro code Q s s' x a w φ hc h hs q
    simp only [evCode] at h
    split at h
    · rename_i τ1 H1 S1 W1 hrun
      simp only [Option.some.injEq, Prod.mk.injEq] at h
      obtain ⟨rfl, rfl⟩ := h
      have fin : ∀ a' w' φ', Tr k Bt F0 N φ w s.H s.S φ' w' H1 S1 → FrR k (Fo F0 φ' H1 S1) φ' w' kp τ1 a' → a'.tmps.size = nt → a'.defers = a.defers → τ1.length = kp.length → Q .normal a' w' := by
        intro a' w' φ' tr hf hsz hdf hlen
        exact q a' w' φ' tr ⟨tr.hr, hf, hsz, hlen, by rw [hdf]; exact hs.df.kp tr.kp, Nat.le_trans hs.n tr.below.size⟩
      cases code with
      | region id ops dr =>
        cases dr with
        | true =>
          obtain ⟨anc, hR⟩ := hc
          exact drawn_ok hcf hm hR hs.n hs.hr hs.fr hs.sz hs.len hrun fin
        | false =>
          have hR : ROkS P nt kp ops os := hc
          refine wpIn_region_list ?_
          have := seq_ok (ro := ro) hcf hR (F0 := F0) (N := N) (τ := s.τ) (a0 := a) (Q := Q) os 0 [] φ w s.H s.S s.τ [] [] a rfl hs.n hs.hr hs.fr ⟨hs.sz, rfl, fun t j d h => by simp [lastW] at h, fun t _ => rfl, fun p t j d _ h => by simp [lastW] at h, fun _ _ _ _ => rfl, hs.len⟩ hrun fin
          simpa using this
      | _ => exact (show False from hc).elim
    · cases h
  | seq c1 c2 ih1 ih2 =>
    intro code Q s s' x a w φ hc h hs q
    cases code <;> first | exact (show False from hc).elim | skip
    obtain ⟨hc1, hc2⟩ := hc
    simp only [evCode] at h
    refine wpIn_seq ?_
    split at h
    · rename_i s1 h1
      exact ih1 _ hc1 h1 hs fun a' w' φ' tr hs' => ih2 _ hc2 h hs' fun a'' w'' φ'' tr' hs'' => q _ _ _ (tr.trans tr') hs''
    · rename_i hne
      refine ih1 _ hc1 h hs fun a' w' φ' tr hs' => ?_
      have := q a' w' φ' tr hs'
      cases x with
      | normal => exact absurd h (hne s')
      | exit id => exact this
      | ret => exact this
  | cond c c1 c2 ih1 ih2 =>
    intro code Q s s' x a w φ hc h hs q
    cases code <;> first | exact (show False from hc).elim | skip
    obtain ⟨hc0, hc1, hc2⟩ := hc
    simp only [evCode] at h
    have hv := hc0.rt hs.fr
    split at h
    · rename_i he
      rw [he] at hv
      exact wpIn_cond_true (plainT_eq (x := .bool true) rfl hv) (ih1 _ hc1 h hs q)
    · rename_i he
      rw [he] at hv
      exact wpIn_cond_false (plainT_eq (x := .bool false) rfl hv) (ih2 _ hc2 h hs q)
    · cases h
  | block id c ih =>
    intro code Q s s' x a w φ hc h hs q
    cases code <;> first | exact (show False from hc).elim | skip
    obtain ⟨rfl, hc1⟩ := hc
    simp only [evCode] at h
    refine wpIn_block ?_
    split at h
    · rename_i j s1 h1
      refine ih _ hc1 h1 hs fun a' w' φ' tr hs' => ?_
      show (if j = id then Q .normal a' w' else Q (.exit j) a' w')
      split at h
      · rename_i he
        cases h
        rw [if_pos (by simpa using he)]
        exact q _ _ _ tr hs'
      · rename_i he
        cases h
        rw [if_neg (by simpa using he)]
        exact q _ _ _ tr hs'
    · rename_i hne
      refine ih _ hc1 h hs fun a' w' φ' tr hs' => ?_
      have := q a' w' φ' tr hs'
      cases x with
      | exit id' => exact absurd h (hne id' s')
      | normal => exact this
      | ret => exact this
  | loop c ih =>
    intro code Q s s' x a w φ hc h hs q
    cases code <;> first | exact (show False from hc).elim | skip
    rename_i body
    have hc1 : COk P nt kp Bt rd c body := hc
    simp only [evCode] at h
    refine wpIn_loop_rounds fl ?_
    have key : ∀ (m : Nat) {s1 : St} {a : Act} {w1 : World} {φ1 : Nat → Option Nat}, loopN (evCode cf fl c) m s1 = some (x, s') → Tr k Bt F0 N φ w s.H s.S φ1 w1 s1.H s1.S → SRel k Bt F0 N nt kp s1 a w1 φ1 → Code.roundsIn (Fr ro) 0 P body Q m a w1 := by
      intro m
      induction m with
      | zero => intro s1 a w1 φ1 h _ _; simp [loopN] at h
      | succ m ihm =>
        intro s1 a w1 φ1 h tr hs
        simp only [loopN] at h
        rw [roundsIn_succ]
        split at h
        · rename_i s2 h1
          exact ih _ hc1 h1 hs fun a' w' φ' tr' hs' => ihm h (tr.trans tr') hs'
        · rename_i hne
          refine ih _ hc1 h hs fun a' w' φ' tr' hs' => ?_
          have := q a' w' φ' (tr.trans tr') hs'
          cases x with
          | normal => exact absurd h (hne s')
          | exit id => exact this
          | ret => exact this
    exact key fl h (Tr.refl hs.hr) hs
  | scope c ih =>
    intro code Q s s' x a w φ hc h hs q
    cases code <;> first | exact (show False from hc).elim | skip
    obtain ⟨hrd, hc1⟩ := hc
    simp only [evCode] at h
    have hn : ro = none := hro.resolve_left (by rw [hrd]; simp)
    subst hn
    refine (wpIn_wide (n := 0)).2 (wp_scope_straight ((wpIn_wide (n := 0)).1 (ih _ hc1 h hs fun a' w' φ' tr hs' => ?_)))
    have := q a' w' φ' tr hs'
    cases x <;> exact this
  | rf g i =>
    intro code Q s s' x a w φ hc h hs q
    cases code <;> first | exact (show False from hc).elim | skip
    rename_i g' ps as body
    obtain ⟨hrd, hg, hBt⟩ := hc
    have hn : ro = none := hro.resolve_left (by rw [hrd]; simp)
    subst hn
    simp only [evCode, evRf] at h
    split at h
    · cases h
    rename_i fp hfn
    obtain ⟨f, fps⟩ := fp
    split at h
    · rename_i y H1 S1 W1 hcall
      obtain ⟨hcb, hfm, hsound⟩ := hcf _ _ _ _ _ _ _ _ hcall
      have hCal := hcb f fps hfn
      have hgv := hg.rt hs.fr
      obtain ⟨vs, hu, _, _⟩ := fnOf_val hfn hgv
      refine wpIn_rangeFunc fun fn _ => ?_
      -- the two new blocks
      let w1 := w.alloc (.deferred (some []))
      let lp : Loop := { state := .ready, pending := none, fn := fn, tmps := a.tmps, params := ps, assign := as, body := body, defers := w.heap.size }
      let w2 := w1.alloc (.loop lp)
      have hx1 : Ext w w1 := ext_alloc _
      obtain ⟨g1, k1⟩ := push_blk hs.hr (H1 := s.H) rfl (fun _ _ h => h) hs.n (Nat.le_refl _) hx1 (y0 := .df) (fun F ψ _ => alloc_at w _)
      have t1 : Tr k Bt F0 N φ w s.H s.S (bindφ φ s.H.length w.heap.size) w1 (s.H ++ [some .df]) s.S := ⟨Below.mono hx1 hs.n, g1, k1, fun c hc => bindφ_other (by omega), Old.ext hx1, by simp⟩
      have hx2 : Ext w1 w2 := ext_alloc _
      have hn1 : N ≤ w1.heap.size := Nat.le_trans hs.n hx1.size
      have hl1 : (s.H ++ [some Blk.df]).length = s.H.length + 1 := by simp
      obtain ⟨g2, k2⟩ := push_blk g1 (H1 := s.H ++ [some .df]) rfl (fun _ _ h => h) hn1 (Nat.le_refl _) hx2 (y0 := .lp ⟨i, s.τ, .ready, none⟩) (fun F ψ qk => ⟨lp, _, alloc_at w1 _, hBt, rfl, rfl, rfl, rfl, rfl, hs.sz, fun p t hp => by rw [← nth_eq]; exact RT.kp (k1.trans qk hx1.size) (hs.fr p t hp)⟩)
      rw [hl1] at g2 k2
      have t2 : Tr k Bt F0 N (bindφ φ s.H.length w.heap.size) w1 (s.H ++ [some .df]) s.S (bindφ (bindφ φ s.H.length w.heap.size) (s.H.length + 1) w1.heap.size) w2 ((s.H ++ [some .df]) ++ [some (.lp ⟨i, s.τ, .ready, none⟩)]) s.S :=
        ⟨Below.mono hx2 hn1, g2, k2, fun c hc => bindφ_other (by rw [hl1] at hc; omega), Old.ext hx2, by simp⟩
      have t12 := t1.trans t2
      have hn2 : N ≤ w2.heap.size := Nat.le_trans hn1 hx2.size
      have hyield := hsound F0 N _ w2 (.func (.func f) #[] vs) [.func (.yield w1.heap.size) #[] #[]] g2 hn2 (by rw [← hu]; exact RT.kp t12.kp hgv) rfl (fun j t hj => by
        have : j = 0 := by have := (List.getElem?_eq_some_iff.1 hj).1; simpa using this
        subst this
        simp at hj
        subst hj
        exact ⟨_, rfl, w1.heap.size, bindφ_same, rfl⟩)
      have hrun : ((do let d ← Deferred.ofValue (.func (.func f) #[] vs) #[.func (.yield w1.heap.size) #[] #[]]; invoke d.target d.args : Sem Next).run P w2) = .ok (.enter f (#[.func (.yield w1.heap.size) #[] #[]] ++ vs)) w2 := by
        simp [Deferred.ofValue, invoke, run_callFunc hCal]
      rw [hrun] at hyield
      have hsz1 : w1.heap.size = w.heap.size + 1 := by simp [w1]
      refine ⟨w.heap.size + 1, [{ target := .collected w.heap.size, args := #[] }], w2, { target := .fn (.func f) vs, args := #[.func (.yield (w.heap.size + 1)) #[] #[]] }, w2, f, #[.func (.yield (w.heap.size + 1)) #[] #[]] ++ vs, w2, run_enterLoop_outer _ _ _ _ _, ?_, ?_, ?_, fun hd => by simp [Fence.wide] at hd, ?_⟩
      · simp only [resolve, hu]
        simp [Deferred.ofValue]
        rfl
      · intro f' _; trivial
      · simp [invoke, run_callFunc hCal]
      · rw [← hsz1]
        refine CallsIn.mono (callsFr.2 hyield) ?_
        rintro e w3 ⟨u, rfl, hpost⟩
        obtain ⟨φ3, t3, _⟩ := Tr.of_post hpost hfm.1
        have t13 := t12.trans t3
        have hb3 : φ3 (s.H.length + 1) = some w1.heap.size := by rw [t3.same _ (by simp)]; exact bindφ_same
        have hd3 : φ3 s.H.length = some w.heap.size := by
          rw [t3.same _ (by simp), bindφ_other (by omega)]
          exact bindφ_same
        split at h
        · rename_i r hlp
          split at h
          · cases h
          rename_i hbusy
          split at h
          · cases h
          rename_i hS1
          obtain ⟨hN3, l3, bd, hl3, hB3, _, _, _, hst3, hpd3, _, _⟩ := t3.hr.at_ _ _ _ hlp hb3
          have hbs : s.H.length + 1 ∉ S1 := by simpa using hS1
          have hnb : l3.state ≠ .busy := by
            rw [hst3]
            intro e
            rw [e] at hbusy
            exact hbusy rfl
          have hn3 : N ≤ w3.heap.size := Nat.le_trans hn2 t3.below.size
          have t4 := Tr.close t3.hr hn3 hlp hbs hb3 (o' := .loop { l3 with state := .exhausted }) hl3 (fun _ _ _ h => by cases h)
          have t14 := t13.trans t4
          have hs4 : ∀ W', SRel k Bt F0 N nt kp ⟨s.τ, H1.set (s.H.length + 1) none, S1, W', s.H.length :: s.dfs⟩ { a with defers := { target := .collected w.heap.size, args := #[] } :: a.defers } (w3.putObj w1.heap.size (.loop { l3 with state := .exhausted })) φ3 := by
            intro W'
            refine ⟨t14.hr, fun p t hp => RT.kp t14.kp (hs.fr p t hp), hs.sz, hs.len, ⟨by simp [hs.df.1], fun j b hj => ?_⟩, Nat.le_trans hs.n t14.below.size⟩
            cases j with
            | zero => simp at hj; subst hj; exact ⟨_, hd3, rfl⟩
            | succ j => simpa using (hs.df.kp t14.kp).2 j b (by simpa using hj)
          split at h
          · rename_i hp
            simp only [Option.some.injEq, Prod.mk.injEq] at h
            obtain ⟨rfl, rfl⟩ := h
            have e : l3.pending = none := by rw [hpd3, hp]; rfl
            exact ⟨none, _, (run_endLoop hl3 hnb).trans (congrArg (fun z => Result.ok z _) e), q _ _ _ t14 (hs4 _)⟩
          · rename_i x' hp
            simp only [Option.some.injEq, Prod.mk.injEq] at h
            obtain ⟨rfl, rfl⟩ := h
            have e : l3.pending = some x'.toCode := by rw [hpd3, hp]; rfl
            refine ⟨some x'.toCode, _, (run_endLoop hl3 hnb).trans (congrArg (fun z => Result.ok z _) e), ?_⟩
            have := q _ _ _ t14 (hs4 _)
            cases x' with
            | normal => exact wpIn_skip this
            | exit id => exact wpIn_exit this
            | ret => exact wpIn_ret this
        · cases h
    · cases h
end
end Go.Mach
namespace Go.Mach
open Go Go.RowKit Go.Flow
variable [Limb]

inductive Rs1 where
  | z
  | p (p : Nat)
  | cell (agg : Bool) (n p : Nat)
  deriving Inhabited

structure FnC where
  wm : Bool
  nk : Nat
  pin : List (Option Nat)
  code : CC
  res : List Rs1
  deriving Inhabited

structure BdC where
  nk : Nat
  pin : List (Option Nat)
  as : CC
  body : CC
  deriving Inhabited

abbrev WFnX := List T → Hp → List Nat → Option (T × Hp × List Nat × List Nat)

inductive FnE where
  | none
  | code (c : FnC)
  | nat (m : List V1 → Option (List V1))
  | wnat (m : WFnX)

structure Tb where
  fn : Nat → FnE
  bd : Nat → Option BdC

def inArgs : List (Option Nat) → List T → List T → List T
  | some p :: r, t :: ts, τ => inArgs r ts (setN τ p t)
  | none :: r, _ :: ts, τ => inArgs r ts τ
  | _, _, τ => τ

def closeD : List Nat → Hp → List Nat → Option Hp
  | [], H, _ => some H
  | d :: r, H, S => match H[d]? with | some (some .df) => if S.elem d then none else closeD r (H.set d none) S | _ => none

def evRs (H : Hp) (τ : List T) : List Rs1 → Option (List T)
  | [] => some []
  | .z :: r => match evRs H τ r with | some l => some (.nil :: l) | none => none
  | .p p :: r => match evRs H τ r with | some l => some (nth τ p :: l) | none => none
  | .cell ag n p :: r => match evLd ag n H (nth τ p), evRs H τ r with | some y, some l => some (y :: l) | _, _ => none
def allT1 : List T → Option (List T1)
  | [] => some []
  | .t x :: r => match allT1 r with | some l => some (x :: l) | none => none
  | _ => none
def mkRes : List T → Option T
  | [t] => some t
  | l => match allT1 l with | some xs => some (.tup xs) | none => none

def nilsT : Nat → List T
  | 0 => []
  | n + 1 => .nil :: nilsT n

/-- A function that shares memory with its caller. -/
def evFn (cf : CFn) (fl : Nat) (c : FnC) (args : List T) (H : Hp) (S : List Nat) : Option (T × Hp × List Nat × List Nat) :=
  if Nat.beq args.length c.pin.length then
    match evCode cf fl c.code ⟨inArgs c.pin args (nilsT c.nk), H, S, [], []⟩ with
    | none => none
    | some (.exit _, _) => none
    | some (_, s) =>
      match closeD s.dfs s.H s.S with
      | none => none
      | some H1 =>
        match evRs H1 s.τ c.res with
        | none => none
        | some l => match mkRes l with | some y => some (y, H1, s.S, s.dfs ++ s.W) | none => none
  else none

/-- A result at a border. -/
def toVs (H : Hp) : T → Option (List V1 × List Nat)
  | .t x => match toV1 H (.t x) with | some (v, bs) => some ([v], bs) | none => none
  | .tup [] => some ([], [])
  | .tup [_] => none
  | .tup l => toV1s H (l.map .t)
  | .row _ _ => none
  | .nil => none

/-- A function behind a border. -/
def bM (cf : CFn) (fl : Nat) (c : FnC) (as : List V1) : Option (List V1) :=
  match evFn cf fl c (as.map fun v => .t v.t1) [] [] with
  | some (y, H1, _, _) => match toVs H1 y with | some (rs, _) => some rs | none => none
  | none => none

def addS (bs S : List Nat) : List Nat := bs.filter (fun b => !S.elem b) ++ S
def callB' (m : List V1 → Option (List V1)) (args : List T) (H : Hp) (S : List Nat) : Option (T × Hp × List Nat × List Nat) :=
  match callB m args H with
  | some (y, bs) => some (y, H, addS bs S, [])
  | none => none

def ptrT (p : Nat × Nat) : T := .t (.one (.ptr p.1 p.2))

def jumpOf : X → Option X
  | .normal => none
  | x => some x
def stOf : X → LoopState
  | .normal => .ready
  | _ => .done
def isNorm : X → Bool
  | .normal => true
  | _ => false
def isReady : LoopState → Bool
  | .ready => true
  | _ => false

/-- One round of a range over a function. -/
def evYld (bd : Nat → Option BdC) (cf : CFn) (fl : Nat) (b : Nat) (args : List T) (H : Hp) (S : List Nat) : Option (T × Hp × List Nat × List Nat) :=
  match H[b]? with
  | some (some (.lp r)) =>
    match bd r.i with
    | none => none
    | some c =>
      if Nat.beq args.length c.pin.length && Nat.beq r.τ.length c.nk then
        match evCode cf fl c.as ⟨inArgs c.pin args r.τ, H, S, [], []⟩ with
        | some (.normal, s1) =>
          match s1.H[b]? with
          | some (some (.lp r1)) =>
            if isReady r1.st && !s1.S.elem b then
              match evCode cf fl c.body { s1 with H := s1.H.set b (some (.lp { r1 with st := .busy })) } with
              | none => none
              | some (x, s2) =>
                match s2.H[b]? with
                | some (some (.lp r2)) => if s2.S.elem b then none else some (.t (.one (.c (.v (.bool (isNorm x))))), s2.H.set b (some (.lp { r2 with st := stOf x, pend := jumpOf x })), s2.S, b :: s2.W)
                | _ => none
            else none
          | _ => none
        | _ => none
      else none
  | _ => none

def callN (tb : Tb) (fl : Nat) : Nat → CFn
  | 0, _, _, _, _ => none
  | n + 1, g, args, H, S =>
    match fnOf g with
    | some (f, ps) =>
      match tb.fn f with
      | .code c => if c.wm then evFn (callN tb fl n) fl c (args ++ ps.map ptrT) H S else (match ps with | [] => callB' (bM (callN tb fl n) fl c) args H S | _ => none)
      | .nat m => (match ps with | [] => callB' m args H S | _ => none)
      | .wnat m => m (args ++ ps.map ptrT) H S
      | .none => none
    | none =>
      match g with
      | .t (.one (.yld b)) => evYld tb.bd (callN tb fl n) fl b args H S
      | _ => none

def RsOk (P : Program) (kp : List Tmp) : List ResultVar → List Rs1 → Prop
  | [], [] => True
  | .tmp _ :: l, .z :: r => RsOk P kp l r
  | .tmp t :: l, .p p :: r => kp[p]? = some t ∧ RsOk P kp l r
  | .cell a t :: l, .cell ag n p :: r => kp[p]? = some a ∧ TyOk P t ag n ∧ RsOk P kp l r
  | _, _ => False

structure FnOk (P : Program) (Bt : Bodies) (f : FuncId) (c : FnC) : Prop where
  ok : ∃ fn code kp, P.funcs[f]? = some fn ∧ (fn.name == "runtime.NumGoroutine") = false ∧ fn.body = some code ∧ kp.length = c.nk ∧ c.pin.length ≤ fn.ntmps ∧ (∀ (j p : Nat), c.pin[j]? = some (some p) → kp[p]? = some j) ∧
    COk P fn.ntmps kp Bt false c.code code ∧ RsOk P kp fn.results.toList c.res

structure BdOk (P : Program) (Bt : Bodies) (i : Nat) (c : BdC) : Prop where
  ok : ∃ bd, Bt i = some bd ∧ bd.kp.length = c.nk ∧ bd.params.size = c.pin.length ∧ (∀ (j t : Nat), bd.params[j]? = some t → t < bd.n) ∧ (∀ (j t : Nat) r, bd.params[j]? = some t → c.pin[j]? = some r → KpS bd.kp (some t) r) ∧
    (∀ (j j' t : Nat), bd.params[j]? = some t → bd.params[j']? = some t → j = j') ∧ COk P bd.n bd.kp Bt true c.as bd.assign ∧ COk P bd.n bd.kp Bt true c.body bd.body

def ConX (P : Program) (k : Cls) (Bt : Bodies) (f : FuncId) (m : WFnX) : Prop :=
  Callable P f ∧
  ∀ as H S y H' S' W, m as H S = some (y, H', S', W) → Fm H W H' ∧ ∀ (F0 : Nat → Prop) (N : Nat) (φ : Nat → Option Nat) (w : World) (vs : List Value), HR k Bt F0 N φ w H S → N ≤ w.heap.size → vs.length = as.length → (∀ (j : Nat) a, as[j]? = some a → ∃ u, vs[j]? = some u ∧ RT k (Fo F0 φ H S) φ w a u) →
    Calls P f vs.toArray w fun e w' => ∃ u, e = .returned u ∧ Post k Bt F0 N φ w H S H' S' y u w'

structure TbOk (P : Program) (k : Cls) (Bt : Bodies) (tb : Tb) : Prop where
  code : ∀ f c, tb.fn f = .code c → FnOk P Bt f c
  nat : ∀ f m, tb.fn f = .nat m → Con P k f m
  wnat : ∀ f m, tb.fn f = .wnat m → ConX P k Bt f m
  bd : ∀ i c, tb.bd i = some c → BdOk P Bt i c

section
variable {P : Program} {k : Cls} {Bt : Bodies} {F0 : Nat → Prop} {N : Nat} {φ φ' : Nat → Option Nat} {w w' : World} {H H' : Hp} {S S' : List Nat} {cf : CFn} {fl : Nat}

theorem nth_nils (n m : Nat) : nth (nilsT n) m = .nil := by
  induction n generalizing m with
  | zero => rfl
  | succ n ih => cases m with
    | zero => rfl
    | succ m => exact ih m
theorem length_nils (n : Nat) : (nilsT n).length = n := by induction n with | zero => rfl | succ n ih => simp [nilsT, ih]
theorem length_inArgs : ∀ (pin : List (Option Nat)) (args τ : List T), (inArgs pin args τ).length = τ.length
  | [], _, _ => by simp [inArgs]
  | some p :: r, t :: ts, τ => by rw [inArgs, length_inArgs r ts, length_setN]
  | none :: r, _ :: ts, τ => by rw [inArgs, length_inArgs r ts]
  | some p :: r, [], τ => by simp [inArgs]
  | none :: r, [], τ => by simp [inArgs]

/-- What stands in a slot after the arguments were taken in. -/
theorem inArgs_spec : ∀ (pin : List (Option Nat)) (args τ : List T) (p : Nat), args.length = pin.length → nth (inArgs pin args τ) p = nth τ p ∧ (∀ j : Nat, pin[j]? ≠ some (some p)) ∨ (∃ (j : Nat) (a : T), pin[j]? = some (some p) ∧ args[j]? = some a ∧ (nth (inArgs pin args τ) p = a ∨ τ.length ≤ p))
  | [], args, τ, p, _ => .inl ⟨by simp [inArgs], fun j => by simp⟩
  | none :: r, t :: ts, τ, p, hl => by
    rcases inArgs_spec r ts τ p (by simpa using hl) with ⟨h1, h2⟩ | ⟨j, a, h1, h2, h3⟩
    · refine .inl ⟨h1, fun j => ?_⟩
      cases j with
      | zero => simp
      | succ j => simpa using h2 j
    · exact .inr ⟨j + 1, a, by simpa using h1, by simpa using h2, h3⟩
  | some q :: r, t :: ts, τ, p, hl => by
    rcases inArgs_spec r ts (setN τ q t) p (by simpa using hl) with ⟨h1, h2⟩ | ⟨j, a, h1, h2, h3⟩
    · by_cases hpq : p = q
      · subst hpq
        refine .inr ⟨0, t, rfl, rfl, ?_⟩
        rw [inArgs, h1, nth_set]
        by_cases hlt : p < τ.length
        · exact .inl (by rw [if_pos ⟨rfl, hlt⟩])
        · exact .inr (by omega)
      · refine .inl ⟨?_, fun j => ?_⟩
        · rw [inArgs, h1, nth_set, if_neg (fun h => hpq h.1)]
        · cases j with
          | zero => simp; exact fun e => hpq e.symm
          | succ j => simpa using h2 j
    · exact .inr ⟨j + 1, a, by simpa using h1, by simpa using h2, by rw [inArgs]; simpa [length_setN] using h3⟩
  | some q :: r, [], τ, p, hl => by simp at hl
  | none :: r, [], τ, p, hl => by simp at hl

theorem run_asAddr {t : TypeId} {u u' : Value} (h : (Instr.loadAt t u).run P w = .ok u' w) : (do loadVar t (← asAddr u)).run P w = .ok u' w := by
  unfold Instr.loadAt at h
  have key : ∀ a, u = .pointer (some a) → (do loadVar t (← asAddr u)).run P w = .ok u' w := by
    rintro a rfl
    simpa [Instr.sureAddr, asAddr] using h
  cases u with
  | pointer a =>
    cases a with
    | some a => exact key a rfl
    | none => simp [Instr.sureAddr] at h
  | _ => simp [Instr.sureAddr] at h

def resF (tmps : Array Value) : ResultVar → Sem Value
  | .tmp t => pure (tmps.getD t undef)
  | .cell ad t => do loadVar t (← asAddr (tmps.getD ad undef))
theorem results_eq (fn : Func) (tmps : Array Value) : results fn tmps = (do let vs ← fn.results.mapM (resF tmps); pure (if h : vs.size = 1 then vs[0] else .tuple vs)) := by
  have : (fun r : ResultVar => match r with | .tmp t => (pure (tmps.getD t undef) : Sem Value) | .cell a t => do loadVar t (← asAddr (tmps.getD a undef))) = resF tmps := by
    funext r; cases r <;> rfl
  unfold results
  rw [← this]
  rfl

theorem resL_ok (hH : HR k Bt F0 N φ w H S) {kp : List Tmp} {τ : List T} {a : Act} (hF : FrR k (Fo F0 φ H S) φ w kp τ a) : ∀ {rs : List ResultVar} {l : List Rs1} {ts : List T}, RsOk P kp rs l → evRs H τ l = some ts →
    ∃ us : List Value, (rs.mapM (resF a.tmps)).run P w = .ok us w ∧ us.length = ts.length ∧ ∀ (j : Nat) t, ts[j]? = some t → ∃ u, us[j]? = some u ∧ RT k (Fo F0 φ H S) φ w t u
  | [], [], ts, _, h => by simp [evRs] at h; subst h; exact ⟨[], by simp, rfl, fun j t hj => by simp at hj⟩
  | [], _ :: _, ts, hr, _ => hr.elim
  | .tmp _ :: _, [], ts, hr, _ => hr.elim
  | .cell _ _ :: _, [], ts, hr, _ => hr.elim
  | .cell _ _ :: _, .z :: _, ts, hr, _ => hr.elim
  | .cell _ _ :: _, .p _ :: _, ts, hr, _ => hr.elim
  | .tmp _ :: _, .cell _ _ _ :: _, ts, hr, _ => hr.elim
  | .tmp t :: rs, .z :: l, ts, hr, h => by
    simp only [evRs] at h
    split at h
    · rename_i l' hl
      cases h
      obtain ⟨us, h1, h2, h3⟩ := resL_ok hH hF (show RsOk P kp rs l from hr) hl
      refine ⟨a.tmps.getD t undef :: us, by simp [List.mapM_cons, resF, h1], by simp [h2], fun j x hj => ?_⟩
      cases j with
      | zero => simp at hj; subst hj; exact ⟨_, rfl, trivial⟩
      | succ j => simpa using h3 j x (by simpa using hj)
    · cases h
  | .tmp t :: rs, .p p :: l, ts, hr, h => by
    obtain ⟨hp, hr⟩ := hr
    simp only [evRs] at h
    split at h
    · rename_i l' hl
      cases h
      obtain ⟨us, h1, h2, h3⟩ := resL_ok hH hF hr hl
      refine ⟨a.tmps.getD t undef :: us, by simp [List.mapM_cons, resF, h1], by simp [h2], fun j x hj => ?_⟩
      cases j with
      | zero => simp at hj; subst hj; exact ⟨_, rfl, hF p t hp⟩
      | succ j => simpa using h3 j x (by simpa using hj)
    · cases h
  | .cell ad t :: rs, .cell ag n p :: l, ts, hr, h => by
    obtain ⟨hp, ht, hr⟩ := hr
    simp only [evRs] at h
    split at h
    · rename_i y l' hy hl
      cases h
      obtain ⟨us, h1, h2, h3⟩ := resL_ok hH hF hr hl
      obtain ⟨u', h4, h5⟩ := evLd_ok (P := P) hH ht hy (hF p ad hp)
      have h6 := run_asAddr h4
      refine ⟨u' :: us, ?_, by simp [h2], fun j x hj => ?_⟩
      · have h7 : (resF a.tmps (.cell ad t)).run P w = .ok u' w := h6
        simp [List.mapM_cons, h7, h1]
      · cases j with
        | zero => simp at hj; subst hj; exact ⟨u', rfl, h5⟩
        | succ j => simpa using h3 j x (by simpa using hj)
    · cases h

theorem allT1_ok : ∀ {l : List T} {xs : List T1}, allT1 l = some xs → l = xs.map .t
  | [], xs, h => by simp [allT1] at h; subst h; rfl
  | .t x :: r, xs, h => by
    simp only [allT1] at h
    split at h
    · rename_i l hl
      cases h
      rw [allT1_ok hl]; rfl
    · cases h
  | .nil :: _, xs, h => by simp [allT1] at h
  | .row _ _ :: _, xs, h => by simp [allT1] at h
  | .tup _ :: _, xs, h => by simp [allT1] at h

theorem mkRes_ok {F : Nat → Prop} {ts : List T} {y : T} {us : List Value} (h : mkRes ts = some y) (hl : us.length = ts.length) (hr : ∀ (j : Nat) t, ts[j]? = some t → ∃ u, us[j]? = some u ∧ RT k F φ w t u) :
    RT k F φ w y (if h : us.toArray.size = 1 then us.toArray[0] else .tuple us.toArray) := by
  unfold mkRes at h
  split at h
  · rename_i t
    cases h
    obtain ⟨u, hu, hq⟩ := hr 0 y rfl
    match us, hl with
    | [v], _ => simp at hu; subst hu; simpa using hq
  · rename_i hne
    split at h
    · rename_i xs hxs
      cases h
      have e := allT1_ok hxs
      have hl1 : ¬ us.toArray.size = 1 := by
        intro h1
        simp at h1
        rw [h1] at hl
        match ts, hl with
        | [t], _ => exact hne t rfl
      rw [dif_neg hl1]
      refine ⟨us.toArray, rfl, by rw [e] at hl; simpa using hl, fun j d hj => ?_⟩
      obtain ⟨u, hu, hq⟩ := hr j (.t d) (by rw [e, List.getElem?_map, hj]; rfl)
      exact ⟨u, by simpa using hu, hq⟩
    · cases h

theorem res_ok (hH : HR k Bt F0 N φ w H S) {kp : List Tmp} {τ : List T} {a : Act} (hF : FrR k (Fo F0 φ H S) φ w kp τ a) {fn : Func} {l : List Rs1} {ts : List T} {y : T} (hr : RsOk P kp fn.results.toList l) (h : evRs H τ l = some ts) (hy : mkRes ts = some y) :
    ∃ v, (results fn a.tmps).run P w = .ok v w ∧ RT k (Fo F0 φ H S) φ w y v := by
  obtain ⟨us, h1, h2, h3⟩ := resL_ok hH hF hr h
  refine ⟨_, ?_, mkRes_ok hy h2 h3⟩
  rw [results_eq]
  have e : fn.results.mapM (resF a.tmps) = (do let us ← fn.results.toList.mapM (resF a.tmps); pure us.toArray) := by
    rw [Array.mapM_eq_mapM_toList]
    rfl
  rw [e]
  simp [h1]

theorem leaves_ok {fn : Func} {tmps : Array Value} {R : Ending → World → Prop} {H1 : Hp} : ∀ (dfs : List Nat) (ds : List Deferred) (H : Hp) (w : World), HR k Bt F0 N φ w H S → N ≤ w.heap.size → DfR φ dfs ds → closeD dfs H S = some H1 →
    (∀ w', Tr k Bt F0 N φ w H S φ w' H1 S → ∃ v, (results fn tmps).run P w' = .ok v w' ∧ R (.returned v) w') → LeavesInM Fence.wide 0 P fn tmps R ds .returning w
  | [], ds, H, w, hH, hN, hd, h, fin => by
    have : ds = [] := by have := hd.1; simpa using this
    subst this
    simp only [closeD, Option.some.injEq] at h
    subst h
    exact fin w (Tr.refl hH)
  | d :: dfs, ds, H, w, hH, hN, hd, h, fin => by
    cases ds with
    | nil => have := hd.1; simp at this
    | cons e ds =>
      obtain ⟨x, hx, he⟩ := hd.2 0 d rfl
      simp at he; subst he
      simp only [closeD] at h
      split at h
      · rename_i hb
        split at h
        · cases h
        · rename_i hS
          have hbs : d ∉ S := by simpa using hS
          obtain ⟨_, hdf⟩ := hH.at_ d _ x hb hx
          have hdf' : w.heap[x]? = some (.deferred (some [])) := hdf
          have t := Tr.close hH hN hb hbs hx (o' := .deferred none) hdf' (fun _ _ _ h => by cases h)
          refine ⟨by simp, .inl ⟨x, _, rfl, run_takeDeferred hdf', ?_⟩⟩
          exact leaves_ok dfs ds _ _ t.hr (Nat.le_trans hN t.below.size) ⟨by have := hd.1; simpa using this, fun j b hj => by simpa using hd.2 (j + 1) b (by simpa using hj)⟩ h fun w' t' => fin w' (t.trans t')
      · cases h

theorem closeD_fm : ∀ (dfs : List Nat) (H H1 : Hp), closeD dfs H S = some H1 → Fm H dfs H1
  | [], H, H1, h => by simp only [closeD, Option.some.injEq] at h; subst h; exact Fm.refl _ _
  | d :: dfs, H, H1, h => by
    simp only [closeD] at h
    split at h
    · split at h
      · cases h
      · exact (Fm.set H d none).trans (closeD_fm dfs _ _ h)
    · cases h

theorem evFn_ok (hcf : CfOk P k Bt cf) (hm : P.follows .mixedOrders = true) {f : FuncId} {c : FnC} (hf : FnOk P Bt f c) : ConX P k Bt f (evFn cf fl c) := by
  obtain ⟨fn, code, kp, hfn, hname, hbody, hkp, hpn, hpin, hcode, hres⟩ := hf.ok
  refine ⟨⟨fn, hfn, hname, by simp [hbody]⟩, fun as H S y H' S' W h => ?_⟩
  unfold evFn at h
  split at h
  rotate_left
  · cases h
  rename_i hal
  have hal' : as.length = c.pin.length := by simpa using hal
  have key : ∀ (x : X) (s : St) (H1 : Hp) (l : List T), evCode cf fl c.code ⟨inArgs c.pin as (nilsT c.nk), H, S, [], []⟩ = some (x, s) → (∀ id, x ≠ .exit id) → closeD s.dfs s.H s.S = some H1 → evRs H1 s.τ c.res = some l → mkRes l = some y → H' = H1 → S' = s.S → W = s.dfs ++ s.W →
      Fm H W H' ∧ ∀ (F0 : Nat → Prop) (N : Nat) (φ : Nat → Option Nat) (w : World) (vs : List Value), HR k Bt F0 N φ w H S → N ≤ w.heap.size → vs.length = as.length → (∀ (j : Nat) a, as[j]? = some a → ∃ u, vs[j]? = some u ∧ RT k (Fo F0 φ H S) φ w a u) →
        Calls P f vs.toArray w fun e w' => ∃ u, e = .returned u ∧ Post k Bt F0 N φ w H S H' S' y u w' := by
    rintro x s H1 l he hx hcl hrs hmk rfl rfl rfl
    obtain ⟨_, hfm⟩ := evCode_fm hcf _ _ _ _ he
    have hfm2 := closeD_fm (S := s.S) _ _ _ hcl
    refine ⟨?_, fun F0 N φ w vs hH hN hl hr => ?_⟩
    · have := hfm.trans hfm2
      exact ⟨this.1, fun c hc hW => this.2 c hc (by simpa [or_comm] using hW)⟩
    · refine callsFr (ro := none) |>.1 ?_
      refine callsIn_of_wp_marks (F := Fence.wide) hfn hbody trivial ?_
      have hsz : (vs.toArray ++ Array.replicate (fn.ntmps - vs.toArray.size) undef).size = fn.ntmps := by simp; omega
      have hs : SRel k Bt F0 N fn.ntmps kp ⟨inArgs c.pin as (nilsT c.nk), H, S, [], []⟩ { tmps := vs.toArray ++ Array.replicate (fn.ntmps - vs.toArray.size) undef, defers := [] } w φ := by
        refine ⟨hH, fun p t hp => ?_, hsz, by rw [length_inArgs, length_nils, hkp], ⟨rfl, fun j b hj => by simp at hj⟩, hN⟩
        rcases inArgs_spec c.pin as (nilsT c.nk) p hal' with ⟨h1, _⟩ | ⟨j, a, h1, h2, h3⟩
        · show RT _ _ _ _ (nth (inArgs c.pin as (nilsT c.nk)) p) _
          rw [h1, nth_nils]; trivial
        · have hpl : ¬ (nilsT c.nk).length ≤ p := by
            rw [length_nils, ← hkp]
            have := (List.getElem?_eq_some_iff.1 hp).1
            omega
          show RT _ _ _ _ (nth (inArgs c.pin as (nilsT c.nk)) p) _
          rw [h3.resolve_right hpl]
          have hkj := hpin j p h1
          rw [hp] at hkj
          cases hkj
          obtain ⟨u, hu, hq⟩ := hr t a h2
          have htl : t < vs.length := (List.getElem?_eq_some_iff.1 hu).1
          rw [Array.getD_eq_getD_getElem?, Array.getElem?_append_left (by simpa using htl), List.getElem?_toArray, hu]
          exact hq
      refine evCode_ok (ro := none) (rd := false) hcf hm (.inr rfl) c.code code hcode he hs fun a' w' φ' tr hs' => ?_
      have post : LeavesInM Fence.wide 0 P fn a'.tmps (fun e w' => ∃ u, e = .returned u ∧ Post k Bt F0 N φ w H S H' s.S y u w') a'.defers .returning w' := by
        refine leaves_ok s.dfs a'.defers s.H w' hs'.hr hs'.n hs'.df hcl fun w'' tr' => ?_
        obtain ⟨v, h1, h2⟩ := res_ok (P := P) tr'.hr (fun p t hp => RT.kp tr'.kp (hs'.fr p t hp)) hres hrs hmk
        exact ⟨v, h1, v, rfl, (tr.trans tr').post h2⟩
      cases x with
      | normal => exact post
      | ret => exact post
      | exit id => exact absurd rfl (hx id)
  split at h
  · cases h
  · cases h
  · rename_i x s hne he
    split at h
    · cases h
    · rename_i H1 hcl
      split at h
      · cases h
      · rename_i l hrs
        split at h
        · rename_i y' hmk
          simp only [Option.some.injEq, Prod.mk.injEq] at h
          obtain ⟨rfl, rfl, rfl, rfl⟩ := h
          exact key x s H1 l he hne hcl hrs hmk rfl rfl rfl
        · cases h
end
end Go.Mach
namespace Go.Mach
open Go Go.RowKit Go.Flow
variable [Limb]

section
variable {P : Program} {k : Cls} {Bt : Bodies} {F0 : Nat → Prop} {N : Nat} {φ φ' : Nat → Option Nat} {w w' : World} {H H' : Hp} {S S' : List Nat} {cf : CFn} {fl : Nat}

theorem toVs_ok (hH : HR k Bt F0 N φ w H S) {y : T} {rs : List V1} {bs : List Nat} {u : Value} (h : toVs H y = some (rs, bs)) (hs : ∀ b ∈ bs, b ∈ S) (r : RT k (Fo F0 φ H S) φ w y u) : RT k (Fo F0 φ H S) φ0 w (toT rs) u := by
  unfold toVs at h
  split at h
  · split at h
    · rename_i v bs' hv
      cases h
      exact toV1_ok hH hv hs r
    · cases h
  · cases h
    trivial
  · cases h
  · rename_i l hne0 hne1
    obtain ⟨vs, rfl, hsz, hr⟩ := r
    obtain ⟨q1, q2⟩ := toV1s_ok hH h hs (us := vs.toList) (by simpa using hsz) (fun j t hj => by
      rw [List.getElem?_map, Option.map_eq_some_iff] at hj
      obtain ⟨x, hx, rfl⟩ := hj
      obtain ⟨u, hu, hq⟩ := hr j x hx
      exact ⟨u, by simpa using hu, hq⟩)
    have hl : rs.length = l.length := by rw [← q1]; simpa using hsz
    match l, rs, hl with
    | [], _, _ => exact absurd rfl hne0
    | [x], _, _ => exact absurd rfl (hne1 x)
    | _ :: _ :: _, r1 :: r2 :: rs, _ =>
      refine ⟨vs, rfl, by simpa using q1, fun j d hj => ?_⟩
      rw [List.getElem?_map, Option.map_eq_some_iff] at hj
      obtain ⟨v, hv, rfl⟩ := hj
      obtain ⟨u, hu, hq⟩ := q2 j v hv
      exact ⟨u, by simpa using hu, hq⟩
  · cases h
  · cases h

theorem bM_ok {f : FuncId} {c : FnC} (h : ConX P k Bt f (evFn cf fl c)) : Con P k f (bM cf fl c) := by
  refine ⟨h.1, fun as rs hm F w vs hF hl hr => ?_⟩
  unfold bM at hm
  split at hm
  · rename_i y H1 S1 W1 he
    split at hm
    · rename_i rs' bs hv
      cases hm
      have hFo : ∀ x, Fo F φ0 [] [] x ↔ F x := fun x => ⟨fun h => h.elim id fun ⟨b, ds, hb, _⟩ => by simp at hb, .inl⟩
      have hH : HR k Bt F w.heap.size φ0 w [] [] := ⟨fun _ _ => rfl, fun x hx => ⟨(hF x hx).1, fun b y hb => by simp at hb, (hF x hx).2⟩, fun b b' y y' x hb => by simp at hb, fun b y x hb => by simp at hb⟩
      refine ((h.2 _ _ _ _ _ _ _ he).2 F w.heap.size φ0 w vs hH (Nat.le_refl _) (by simpa using hl) (fun j a hj => ?_)).mono ?_
      · rw [List.getElem?_map, Option.map_eq_some_iff] at hj
        obtain ⟨v, hv', rfl⟩ := hj
        obtain ⟨u, hu, hq⟩ := hr j v hv'
        exact ⟨u, hu, RT1.kp (φ := φ0) (φ' := φ0) (F := F) ⟨fun _ _ h => h, fun x _ hf => ⟨rfl, fun h => hf ((hFo x).1 h)⟩, fun _ vs _ _ h => ⟨vs, h, rfl⟩⟩ hq⟩
      · rintro e w' ⟨u, rfl, φ1, hb, hH1, _, hr1, _, _⟩
        refine ⟨u, rfl, hb, ?_⟩
        have hH2 := hH1.shutB bs
        have := toVs_ok hH2 hv (fun b hb => List.mem_append_left _ hb) (RT.kp (Kp.shutB bs) hr1)
        exact RT.kp (φ := φ0) (φ' := φ0) ⟨fun _ _ h => h, fun x _ hf => ⟨rfl, fun h => hf (.inl h)⟩, fun _ vs _ _ h => ⟨vs, h, rfl⟩⟩ this
    · cases hm
  · cases hm

theorem mem_addS {bs S : List Nat} {b : Nat} : b ∈ addS bs S ↔ b ∈ bs ++ S := by
  unfold addS
  simp only [List.mem_append, List.mem_filter]
  constructor
  · rintro (⟨h, _⟩ | h)
    · exact .inl h
    · exact .inr h
  · rintro (h | h)
    · by_cases hb : b ∈ S
      · exact .inr hb
      · exact .inl ⟨h, by simpa using hb⟩
    · exact .inr h

theorem callB'_ok {g : FuncId} {m : List V1 → Option (List V1)} (hm : Con P k g m) : ConX P k Bt g (callB' m) := by
  refine ⟨hm.1, fun as H S y H' S' W h => ?_⟩
  unfold callB' at h
  split at h
  · rename_i y' bs hc
    simp only [Option.some.injEq, Prod.mk.injEq] at h
    obtain ⟨rfl, rfl, rfl, rfl⟩ := h
    refine ⟨Fm.refl _ _, fun F0 N φ w vs hH hN hl hr => ?_⟩
    refine (callB_ok hH hN hm hc hl hr).mono ?_
    rintro e w' ⟨u, rfl, hx, hq⟩
    refine ⟨u, rfl, Post.ext hN hH hx (RT.kp (φ := φ) (φ' := φ) ⟨fun _ _ h => h, fun x _ hf => ⟨rfl, fun h => hf ?_⟩, fun _ vs _ _ h => ⟨vs, h, rfl⟩⟩ hq)⟩
    rcases h with h | ⟨b, y, hb, hs, hx⟩
    · exact .inl h
    · exact .inr ⟨b, y, hb, fun h => hs (mem_addS.2 h), hx⟩
  · cases h

/-- A call of a function that shares memory. -/
theorem enter_ok {f : FuncId} {m : WFnX} (hm : ConX P k Bt f m) {g : T} {ps : List (Nat × Nat)} (hg : fnOf g = some (f, ps)) {as : List T} {y : T} {W : List Nat} (h : m (as ++ ps.map ptrT) H S = some (y, H', S', W)) :
    (∀ f' ps', fnOf g = some (f', ps') → Callable P f') ∧ Fm H W H' ∧
    ∀ (F0 : Nat → Prop) (N : Nat) (φ : Nat → Option Nat) (w : World) (u : Value) (us : List Value), HR k Bt F0 N φ w H S → N ≤ w.heap.size → RT k (Fo F0 φ H S) φ w g u → us.length = as.length → (∀ (j : Nat) a, as[j]? = some a → ∃ v, us[j]? = some v ∧ RT k (Fo F0 φ H S) φ w a v) →
      yieldsC P (fun v w' => Post k Bt F0 N φ w H S H' S' y v w') ((do let d ← Deferred.ofValue u us.toArray; invoke d.target d.args : Sem Next).run P w) := by
  refine ⟨fun f' ps' h' => by rw [hg] at h'; cases h'; exact hm.1, (hm.2 _ _ _ _ _ _ _ h).1, fun F0 N φ w u us hH hN hgu hl hr => ?_⟩
  obtain ⟨vs, rfl, hvs, hp⟩ := fnOf_val hg hgu
  have hrun : ((do let d ← Deferred.ofValue (.func (.func f) #[] vs) us.toArray; invoke d.target d.args : Sem Next).run P w) = .ok (.enter f (us ++ vs.toList).toArray) w := by
    have e : us.toArray ++ vs = (us ++ vs.toList).toArray := by simp
    simp [Deferred.ofValue, invoke, run_callFunc hm.1, e]
  rw [hrun]
  refine (hm.2 _ _ _ _ _ _ _ h).2 F0 N φ w (us ++ vs.toList) hH hN (by simp [hl, hvs]) (fun j a hj => ?_)
  rw [List.getElem?_append] at hj ⊢
  rw [← hl] at hj
  split at hj
  · rename_i h1
    rw [if_pos h1]
    exact hr j a hj
  · rename_i h1
    rw [if_neg h1]
    rw [List.getElem?_map, Option.map_eq_some_iff] at hj
    obtain ⟨⟨b, o⟩, hb, rfl⟩ := hj
    obtain ⟨x, hx, hv⟩ := hp _ b o hb
    exact ⟨_, by simpa using hv, x, hx, rfl⟩

theorem foldl_params {params : Array Tmp} {args : List Value} {tmps : Array Value} (hl : args.length = params.size) (hd : ∀ (j j' t : Nat), params[j]? = some t → params[j']? = some t → j = j') (hlt : ∀ (j t : Nat), params[j]? = some t → t < tmps.size) :
    ((params.zip args.toArray).foldl (fun tmps (p : Tmp × Value) => tmps.setIfInBounds p.1 p.2) tmps).size = tmps.size ∧
    (∀ (j t : Nat) v, params[j]? = some t → args[j]? = some v → ((params.zip args.toArray).foldl (fun tmps (p : Tmp × Value) => tmps.setIfInBounds p.1 p.2) tmps).getD t undef = v) ∧
    ∀ t, (∀ j : Nat, params[j]? ≠ some t) → ((params.zip args.toArray).foldl (fun tmps (p : Tmp × Value) => tmps.setIfInBounds p.1 p.2) tmps).getD t undef = tmps.getD t undef := by
  have key : ∀ (ps : List Tmp) (as : List Value) (tmps : Array Value), as.length = ps.length → (∀ (j j' t : Nat), ps[j]? = some t → ps[j']? = some t → j = j') → (∀ (j t : Nat), ps[j]? = some t → t < tmps.size) →
      ((ps.zip as).foldl (fun tmps (p : Tmp × Value) => tmps.setIfInBounds p.1 p.2) tmps).size = tmps.size ∧
      (∀ (j t : Nat) v, ps[j]? = some t → as[j]? = some v → ((ps.zip as).foldl (fun tmps (p : Tmp × Value) => tmps.setIfInBounds p.1 p.2) tmps).getD t undef = v) ∧
      ∀ t, (∀ j : Nat, ps[j]? ≠ some t) → ((ps.zip as).foldl (fun tmps (p : Tmp × Value) => tmps.setIfInBounds p.1 p.2) tmps).getD t undef = tmps.getD t undef := by
    intro ps
    induction ps with
    | nil => intro as tmps _ _ _; exact ⟨rfl, fun j t v h => by simp at h, fun _ _ => rfl⟩
    | cons p ps ih =>
      intro as tmps hl hd hlt
      cases as with
      | nil => simp at hl
      | cons a as =>
        simp only [List.zip_cons_cons, List.foldl_cons]
        obtain ⟨h1, h2, h3⟩ := ih as (tmps.setIfInBounds p a) (by simpa using hl) (fun j j' t h h' => by have := hd (j + 1) (j' + 1) t (by simpa using h) (by simpa using h'); omega) (fun j t h => by simpa using hlt (j + 1) t (by simpa using h))
        refine ⟨by rw [h1]; simp, fun j t v hj hv => ?_, fun t ht => ?_⟩
        · cases j with
          | zero =>
            simp at hj hv; subst hj; subst hv
            have hp := hlt 0 p rfl
            rw [h3 p fun j hj => by have := hd 0 (j + 1) p rfl (by simpa using hj); omega]
            rw [Array.getD_eq_getD_getElem?, Array.getElem?_setIfInBounds_self_of_lt hp]; rfl
          | succ j => exact h2 j t v (by simpa using hj) (by simpa using hv)
        · rw [h3 t fun j hj => ht (j + 1) (by simpa using hj)]
          have hne : p ≠ t := fun e => ht 0 (by simp [e])
          rw [Array.getD_eq_getD_getElem?, Array.getElem?_setIfInBounds_ne hne, ← Array.getD_eq_getD_getElem?]
  have := key params.toList args tmps (by simpa using hl) (fun j j' t h h' => hd j j' t (by simpa using h) (by simpa using h')) (fun j t h => hlt j t (by simpa using h))
  have e : ∀ tm : Array Value, (params.zip args.toArray).foldl (fun tmps (p : Tmp × Value) => tmps.setIfInBounds p.1 p.2) tm = (params.toList.zip args).foldl (fun tmps (p : Tmp × Value) => tmps.setIfInBounds p.1 p.2) tm := by
    intro tm
    rw [← Array.foldl_toList]
    simp
  rw [e]
  exact ⟨this.1, fun j t v h h' => this.2.1 j t v (by simpa using h) h', fun t h => this.2.2 t fun j hj => h j (by simpa using hj)⟩

theorem evYld_ok (hcf : CfOk P k Bt cf) (hm : P.follows .mixedOrders = true) {bd : Nat → Option BdC} (hbd : ∀ i c, bd i = some c → BdOk P Bt i c) {b : Nat} {as : List T} {y : T} {W : List Nat} (h : evYld bd cf fl b as H S = some (y, H', S', W)) :
    Fm H W H' ∧ ∀ (F0 : Nat → Prop) (N : Nat) (φ : Nat → Option Nat) (w : World) (u : Value) (us : List Value), HR k Bt F0 N φ w H S → N ≤ w.heap.size → RT k (Fo F0 φ H S) φ w (.t (.one (.yld b))) u → us.length = as.length → (∀ (j : Nat) a, as[j]? = some a → ∃ v, us[j]? = some v ∧ RT k (Fo F0 φ H S) φ w a v) →
      yieldsC P (fun v w' => Post k Bt F0 N φ w H S H' S' y v w') ((do let d ← Deferred.ofValue u us.toArray; invoke d.target d.args : Sem Next).run P w) := by
  unfold evYld at h
  split at h
  rotate_left
  · cases h
  rename_i r hb
  split at h
  · cases h
  rename_i c hc
  split at h
  rotate_left
  · cases h
  rename_i hlen
  obtain ⟨hl1, hl2⟩ : as.length = c.pin.length ∧ r.τ.length = c.nk := by simpa using hlen
  split at h
  rotate_left
  · cases h
  rename_i s1 he1
  split at h
  rotate_left
  · cases h
  rename_i r1 hb1
  split at h
  rotate_left
  · cases h
  rename_i hrd
  obtain ⟨hready, hS1⟩ : isReady r1.st = true ∧ b ∉ s1.S := by simpa using hrd
  split at h
  · cases h
  rename_i x s2 he2
  split at h
  rotate_left
  · cases h
  rename_i r2 hb2
  split at h
  · cases h
  rename_i hS2'
  have hS2 : b ∉ s2.S := by simpa using hS2'
  simp only [Option.some.injEq, Prod.mk.injEq] at h
  obtain ⟨rfl, rfl, rfl, rfl⟩ := h
  obtain ⟨bdd, hBt, hnk, hps, hplt, hpk, hpd, hcas, hcbody⟩ := (hbd _ _ hc).ok
  have hfm1 := (evCode_fm hcf _ _ _ _ he1).2
  obtain ⟨hW2, hfm2⟩ := evCode_fm hcf _ _ _ _ he2
  refine ⟨?_, fun F0 N φ w u us hH hN hu hl hr => ?_⟩
  · have h1 : Fm H (b :: s2.W) s1.H := ⟨hfm1.1, fun c hc hW => hfm1.2 c hc fun h => hW (List.mem_cons_of_mem _ (hW2 c h))⟩
    refine ⟨?_, fun c hc hW => ?_⟩
    · have := hfm2.1
      simp at this ⊢
      exact Nat.le_trans h1.1 this
    · have hne : b ≠ c := fun e => hW (by simp [e])
      have hc2 : c ∉ s2.W := fun h => hW (List.mem_cons_of_mem _ h)
      rw [List.getElem?_set_ne hne, hfm2.2 c (by simp; exact Nat.lt_of_lt_of_le hc h1.1) hc2]
      show (s1.H.set b _)[c]? = _
      rw [List.getElem?_set_ne hne, h1.2 c hc hW]
  · obtain ⟨l, hφ, rfl⟩ := hu
    obtain ⟨hNl, lp, bd', hlp, hBt', hpar, has, hbody, hst, hpend, hsz, htm⟩ := hH.at_ b _ l hb hφ
    rw [hBt] at hBt'
    cases hBt'
    have husz : us.length = lp.params.size := by rw [hl, hl1, hpar, hps]
    have hrun : ((do let d ← Deferred.ofValue (.func (.yield l) #[] #[]) us.toArray; invoke d.target d.args : Sem Next).run P w) = .ok (.round l lp.fn ((lp.params.zip us.toArray).foldl (fun tmps (t, a) => tmps.setIfInBounds t a) lp.tmps) lp.assign lp.body) w := by
      have := run_yield (P := P) (args := us.toArray) hlp (by simpa using husz)
      simpa [Deferred.ofValue, invoke] using this
    rw [hrun]
    obtain ⟨q1, q2, q3⟩ := foldl_params (params := lp.params) (args := us) (tmps := lp.tmps) husz (by rw [hpar]; exact hpd) (by rw [hpar, hsz]; exact hplt)
    refine roundIn_of_wpIn (F := Fence.wide) trivial ?_
    have hs : SRel k Bt F0 N bdd.n bdd.kp ⟨inArgs c.pin as r.τ, H, S, [], []⟩ { tmps := (lp.params.zip us.toArray).foldl (fun tmps (t, a) => tmps.setIfInBounds t a) lp.tmps, defers := [] } w φ := by
      refine ⟨hH, fun p t hp => ?_, by rw [← hsz]; exact q1, by rw [length_inArgs, hl2, hnk], ⟨rfl, fun j b hj => by simp at hj⟩, hN⟩
      have hpl : ¬ r.τ.length ≤ p := by
        rw [hl2, ← hnk]
        have := (List.getElem?_eq_some_iff.1 hp).1
        omega
      rcases inArgs_spec c.pin as r.τ p hl1 with ⟨h1, h2⟩ | ⟨j, a, h1, h2, h3⟩
      · show RT _ _ _ _ (nth (inArgs c.pin as r.τ) p) (((lp.params.zip us.toArray).foldl (fun tmps (p : Tmp × Value) => tmps.setIfInBounds p.1 p.2) lp.tmps).getD t undef)
        rw [h1, q3 t fun j hj => ?_, nth_eq]
        · exact htm p t hp
        · rw [hpar] at hj
          have hjl : j < c.pin.length := by rw [← hps]; exact (Array.getElem?_eq_some_iff.1 hj).1
          have := (hpk j t c.pin[j] hj (List.getElem?_eq_getElem hjl)).2 t p rfl hp
          exact h2 j (by rw [List.getElem?_eq_getElem hjl, this])
      · show RT _ _ _ _ (nth (inArgs c.pin as r.τ) p) (((lp.params.zip us.toArray).foldl (fun tmps (p : Tmp × Value) => tmps.setIfInBounds p.1 p.2) lp.tmps).getD t undef)
        rw [h3.resolve_right hpl]
        have hjl : j < bdd.params.size := by rw [hps]; exact (List.getElem?_eq_some_iff.1 h1).1
        obtain ⟨t', e1, e2⟩ := (hpk j bdd.params[j] (some p) (Array.getElem?_eq_getElem hjl) h1).1 p rfl
        cases e1
        rw [hp] at e2
        cases e2
        obtain ⟨v, hv, hq⟩ := hr j a h2
        rw [q2 j _ v (by rw [hpar]; exact Array.getElem?_eq_getElem hjl) hv]
        exact hq
    rw [has]
    refine evCode_ok (ro := some l) (rd := true) hcf hm (.inl rfl) c.as bdd.assign hcas he1 hs fun a1 w1 φ1 t1 hs1 => ?_
    have hφ1 : φ1 b = some l := t1.kp.phi b l hφ
    obtain ⟨_, lp1, bd1, hlp1, hBt1, hpar1, has1, hbody1, hst1, hpend1, hsz1, htm1⟩ := hs1.hr.at_ b _ l hb1 hφ1
    have hr1 : lp1.state = .ready := by
      rw [hst1]
      cases hq : r1.st <;> rw [hq] at hready <;> first | rfl | cases hready
    have turn : ∀ {φ : Nat → Option Nat} {w : World} {H : Hp} {S : List Nat} {r : LpR} {lp : Loop} (st : LoopState) (pd : Option X) (lp' : Loop), HR k Bt F0 N φ w H S → N ≤ w.heap.size → H[b]? = some (some (.lp r)) → b ∉ S → φ b = some l → w.heap[l]? = some (.loop lp) → lp' = { lp with state := st, pending := pd.map X.toCode } →
        Tr k Bt F0 N φ w H S φ (w.putObj l (.loop lp')) (H.set b (some (.lp { r with st := st, pend := pd }))) S := by
      rintro φ w H S r lp st pd lp' hH hN hb hs hφ hlp rfl
      obtain ⟨hNl, lpx, bdx, hlpx, h1, h2, h3, h4, h5, h6, h7, h8⟩ := hH.at_ b _ l hb hφ
      rw [hlp] at hlpx
      cases hlpx
      obtain ⟨g1, g2⟩ := hH.turn (w' := w.putObj l (.loop { lp with state := st, pending := pd.map X.toCode })) (y' := .lp { r with st := st, pend := pd }) hb hs hφ (by simp) (fun z hz => World.putObj_heap_other hz) (fun vs t fr h => by rw [hlp] at h; cases h)
        (fun q => ⟨_, bdx, World.putObj_heap_same (lt_of_heap hlp), h1, h2, h3, h4, rfl, rfl, h7, fun p t hp => RT.kp q (h8 p t hp)⟩)
      exact ⟨⟨rfl, rfl, rfl, by simp, fun z hz => World.putObj_heap_other (by omega)⟩, g1, g2, fun _ _ => rfl, fun z _ hz => World.putObj_heap_other fun e => hz b _ hb hs (e ▸ hφ), by simp⟩
    have hN1 : N ≤ w1.heap.size := hs1.n
    have t2 := turn (φ := φ1) (w := w1) (H := s1.H) (S := s1.S) (r := r1) (lp := lp1) .busy r1.pend { lp1 with state := .busy } hs1.hr hN1 hb1 hS1 hφ1 hlp1 (by rw [← hpend1])
    refine ⟨_, run_beginRound hlp1 hr1, ?_⟩
    have hs2 : SRel k Bt F0 N bdd.n bdd.kp { s1 with H := s1.H.set b (some (.lp { r1 with st := .busy })) } a1 (w1.putObj l (.loop { lp1 with state := .busy })) φ1 :=
      ⟨t2.hr, fun p t hp => RT.kp t2.kp (hs1.fr p t hp), hs1.sz, hs1.len, hs1.df, Nat.le_trans hN1 t2.below.size⟩
    rw [hbody]
    refine evCode_ok (ro := some l) (rd := true) hcf hm (.inl rfl) c.body bdd.body hcbody he2 hs2 fun a3 w3 φ3 t3 hs3 => ?_
    have hφ3 : φ3 b = some l := t3.kp.phi b l hφ1
    obtain ⟨_, lp3, bd3, hlp3, _⟩ := hs3.hr.at_ b _ l hb2 hφ3
    have fin : ∀ (jump : Option Code), jump = (jumpOf x).map X.toCode → (∃ v w', (Instr.endRound l jump).run P w3 = .ok v w' ∧ ∃ u, Ending.returned v = .returned u ∧ Post k Bt F0 N φ w H S (s2.H.set b (some (.lp { r2 with st := stOf x, pend := jumpOf x }))) s2.S (.t (.one (.c (.v (.bool (isNorm x)))))) u w') := by
      rintro jump rfl
      have hend := run_endRound (P := P) ((jumpOf x).map X.toCode) hlp3
      have e1 : ((jumpOf x).map X.toCode).isNone = isNorm x := by cases x <;> rfl
      have e2 : (if isNorm x = true then LoopState.ready else LoopState.done) = stOf x := by cases x <;> rfl
      have t4 := turn (φ := φ3) (w := w3) (H := s2.H) (S := s2.S) (r := r2) (lp := lp3) (stOf x) (jumpOf x) { lp3 with state := stOf x, pending := (jumpOf x).map X.toCode } hs3.hr hs3.n hb2 hS2 hφ3 hlp3 rfl
      rw [e1, e2] at hend
      exact ⟨_, _, hend, _, rfl, (((t1.trans t2).trans t3).trans t4).post (.v _ rfl)⟩
    cases x with
    | normal => exact fin none rfl
    | ret => exact fin (some .ret) rfl
    | exit id => exact fin (some (.exit id)) rfl

theorem callN_ok (hm : P.follows .mixedOrders = true) {tb : Tb} (hT : TbOk P k Bt tb) : ∀ n, CfOk P k Bt (callN tb fl n)
  | 0 => fun g as H S y H' S' W h => by simp [callN] at h
  | n + 1 => fun g as H S y H' S' W h => by
    have ih := callN_ok hm hT n
    simp only [callN] at h
    split at h
    · rename_i f ps hg
      split at h
      · rename_i c hc
        have hx := evFn_ok (fl := fl) ih hm (hT.code f c hc)
        split at h
        · exact enter_ok hx hg h
        · split at h
          · refine enter_ok (callB'_ok (bM_ok hx)) hg (as := as) ?_
            simpa using h
          · cases h
      · rename_i m hc
        split at h
        · refine enter_ok (callB'_ok (hT.nat f m hc)) hg (as := as) ?_
          simpa using h
        · cases h
      · rename_i m hc
        exact enter_ok (hT.wnat f m hc) hg h
      · cases h
    · rename_i hg
      split at h
      · exact ⟨fun f ps h' => (by rw [hg] at h'; cases h'), evYld_ok ih hm hT.bd h⟩
      · cases h
end
end Go.Mach
namespace Go.Mach
open Go Go.RowKit Go.Flow
variable [Limb]

structure Ty where
  de : TypeDesc
  size : Nat
  bytes : Nat
  zero : Option Value
  eqg : Bool
  deriving Inhabited
abbrev Tab := Nat → Option Ty

def sliceOf (tab : Tab) (t : TypeId) : Option TypeId := match tab t with | some y => (match y.de with | .slice e => some e | _ => none) | none => none
def arrOf (tab : Tab) (t : TypeId) : Option (Nat × TypeId) := match tab t with | some y => (match y.de with | .array n e => some (n, e) | _ => none) | none => none
def fieldOf (tab : Tab) (t : TypeId) (f : Nat) : Option Field := match tab t with | some y => (match y.de with | .struct fs => fs[f]? | _ => none) | none => none
def sizeT (tab : Tab) (t : TypeId) : Option Nat := match tab t with | some y => some y.size | none => none
def zeroD (tab : Tab) (t : TypeId) : Option (List D) := match tab t with | some y => (match y.zero with | some z => ofL z.cells.toList | none => none) | none => none
def elOf (tab : Tab) (e : TypeId) : Option (List Value × Nat × Nat) := match tab e with | some y => (match y.zero with | some z => some (z.cells.toList, y.size, y.bytes) | none => none) | none => none
/-- The element of a block that the machine writes: never a limb. -/
def elW (tab : Tab) (e : TypeId) : Option (List Value × Nat × Nat) := if Nat.beq e Limb.u then none else elOf tab e
def isI64 (tab : Tab) (e : TypeId) : Bool := match tab e with | some y => (match y.de with | .int .i64 => Nat.beq y.size 1 | _ => false) | none => false
def places (tab : Tab) (t : TypeId) : Option (List (Nat × Nat)) :=
  match tab t with
  | some y =>
    (match y.de with
     | .struct fs => fs.toList.mapM fun f => match tab f.type with | some z => some (f.offset, z.size) | none => none
     | .array n e => match tab e with | some z => some ((List.range n).map fun i => (i * z.size, z.size)) | none => none
     | _ => none)
  | none => none
def mapZ (tab : Tab) (t : TypeId) : Option (List D) :=
  match tab t with
  | some y =>
    (match y.de with
     | .map kt et =>
       (match arrOf tab kt with
        | some (4, e) => if isI64 tab e then (match tab et with | some z => (match z.zero with | some (.agg a) => ofL a.toList | _ => none) | none => none) else none
        | _ => none)
     | _ => none)
  | none => none

def compBin (tab : Tab) (op : BinOp) (t : TypeId) : Option PK :=
  match op with
  | .eql => (match tab t with
    | some y => (match y.de with | .bool => some .eqB | .int _ => some (.bin .eql) | .array 4 e => if isI64 tab e && y.eqg then some (.eqA 4) else none | _ => none)
    | none => none)
  | .neq => (match tab t with
    | some y => (match y.de with | .bool => some .neB | .int _ => some (.bin .neq) | .array 4 e => if isI64 tab e && y.eqg then some (.neA 4) else none | _ => none)
    | none => none)
  | op => some (.bin op)

def compCall (tab : Tab) (ro : Operand → Od) (c : Call) : Option COp :=
  match c.callee with
  | .value f => some (.call (ro f) (c.args.toList.map ro))
  | .builtin b =>
    (match b, c.args.toList, c.argTypes.toList with
     | .len, [x], [t] => (match sliceOf tab t with | some _ => some (.len (ro x)) | none => (match tab t with | some y => (match y.de with | .map _ _ => some (.lenM (ro x)) | _ => none) | none => none))
     | .cap, [x], [t] => (match sliceOf tab t with | some _ => some (.cap (ro x)) | none => none)
     | .append, [d, x], [t, t'] => if Nat.beq t t' then (match sliceOf tab t with | some e => (match elW tab e with | some (z, s, b) => if Nat.blt 0 s && Nat.beq z.length s then some (.app s b (ro d) (ro x)) else none | none => none) | none => none) else
        (match sliceOf tab t, tab t' with
         | some e, some y => (match y.de, elW tab e with | .int _, some (z, s, b) => if Nat.blt 0 s && Nat.beq z.length s then some (.appz z s b (ro d) (ro x)) else none | _, _ => none)
         | _, _ => none)
     | .copy, [d, x], [t, _] => (match sliceOf tab t with | some e => (match sizeT tab e with | some s => some (.cpy s (ro d) (ro x)) | none => none) | none => none)
     | .max, [x, y], _ => some (.pk .max [ro x, ro y])
     | .min, [x, y], _ => some (.pk .min [ro x, ro y])
     | _, _, _ => none)
  | _ => none

def compOp1 (tab : Tab) (ro : Operand → Od) (o : Oper) : Option COp :=
  match o.op with
  | .move x => some (.mv (ro x))
  | .assign x => some (.mv (ro x))
  | .pick c a b => some (.pick (ro c) (ro a) (ro b))
  | .load t a => (match tab t with | some y => some (.ld (isAggD y.de) y.size (ro a)) | none => none)
  | .fieldAddr s x f => (match fieldOf tab s f with | some fd => (match sizeT tab fd.type with | some (_ + 1) => some (.off fd.offset (ro x)) | _ => none) | none => none)
  | .field s x f => (match fieldOf tab s f with | some fd => (match tab fd.type with | some y => some (.part (isAggD y.de) y.size fd.offset (ro x)) | none => none) | none => none)
  | .indexAddr t x i =>
    (match sliceOf tab t with
     | some e => (match sizeT tab e with | some s => some (.ixS s (ro x) (ro i)) | none => none)
     | none => (match arrOf tab t with | some (n, e) => (match sizeT tab e with | some s => some (.ixR n s (ro x) (ro i)) | none => none) | none => none))
  | .index t x i => (match arrOf tab t with | some (n, e) => (match tab e with | some y => some (.at_ (isAggD y.de) y.size n (ro x) (ro i)) | none => none) | none => (match tab t with | some y => (match y.de with | .string => some (.ixc (ro x) (ro i)) | _ => none) | none => none))
  | .extract x i => some (.ext i (ro x))
  | .nilCheck x => some (.nilc (ro x))
  | .build t ps => (match zeroD tab t, places tab t with | some zs, some pl => some (.bld zs pl (ps.toList.map (·.1)) (ps.toList.map fun p => ro p.2)) | _, _ => none)
  | .buildSlice t len ps => (match sliceOf tab t with | some e => (match elOf tab e with | some (z, s, _) => some (.bsl z s len (ps.toList.map (·.1)) (ps.toList.map fun p => ro p.2)) | none => none) | none => none)
  | .slice t x lo hi none =>
    (match sliceOf tab t with
     | some e => (match sizeT tab e with | some s => some (.slc s (ro x) (lo.map ro) (hi.map ro)) | none => none)
     | none => (match arrOf tab t, lo, hi with | some (n, e), none, none => (match sizeT tab e with | some s => some (.slcR n s (ro x)) | none => none) | _, _, _ => none))
  | .slice t x lo (some hi) (some mx) => (match sliceOf tab t with | some e => (match sizeT tab e with | some s => some (.slc3 s (ro x) (lo.map ro) (ro hi) (ro mx)) | none => none) | none => none)
  | .call c => compCall tab ro c
  | .binOp op t x y _ => (match sliceOf tab t with
    | some _ => (match op with | .eql => some (.nilS false (ro x) (ro y)) | .neq => some (.nilS true (ro x) (ro y)) | _ => none)
    | none => (match compBin tab op t with | some pk => some (.pk pk [ro x, ro y]) | none => none))
  | .unOp .not _ x => some (.pk .not [ro x])
  | .unOp .neg _ x => some (.pk .neg [ro x])
  | .unOp .xor _ x => some (.pk .inv [ro x])
  | .convert s d x => (match tab s, tab d with | some _, some y => (match y.de with | .int q => some (.pk (.cvt q) [ro x]) | _ => none) | _, _ => none)
  | .makeFunc (.func f) first cap => (match first.toList with | [] => some (.mkf f (cap.toList.map ro)) | _ => none)
  | .lookup t m key true => (match mapZ tab t with | some zs => some (.lku zs (ro m) (ro key)) | none => none)
  | .alloc e => if Nat.beq e Limb.u then none else (match zeroD tab e with | some ds => some (.new ds) | none => none)
  | .box e x => if Nat.beq e Limb.u then none else some (.box (ro x))
  | .makeSlice t l c => (match sliceOf tab t with | some e => (match elW tab e with | some (z, s, b) => some (.mk z s b (ro l) (ro c)) | none => none) | none => none)
  | .makeMap _ none => some .mkm
  | .store t a x => (match sizeT tab t with | some n => some (.sto n (ro a) (ro x)) | none => none)
  | .mapUpdate t m key x => (match mapZ tab t with | some _ => some (.mset (ro m) (ro key) (ro x)) | none => none)
  | .insert t m key x => (match mapZ tab t with | some _ => some (.mset (ro m) (ro key) (ro x)) | none => none)
  | .range t x => (match tab t with | some y => (match y.de with | .map _ _ => some (.rng (ro x)) | _ => none) | none => none)
  | .entry x => some (.ent (ro x))
  | _ => none

/-- What the machine does not know is never carried out. -/
def compOp (tab : Tab) (ro : Operand → Od) (o : Oper) : COp := match compOp1 tab ro o with | some c => c | none => .bad

def resK : Operand → Od
  | .const v => (match ofVal v with | some t1 => .k (.t t1) | none => .z)
  | .func f => .k (.t (.one (.c (.v (.func (.func f) #[] #[])))))
  | _ => .z
/-- The position of a number. -/
def idxK (t : Nat) : List Nat → Nat → Option Nat
  | [], _ => none
  | x :: r, i => if Nat.beq x t then some i else idxK t r (i + 1)
def idxD (t : Nat) : List (Option Nat) → Nat → Option Nat
  | [], _ => none
  | some x :: r, i => if Nat.beq x t then some i else idxD t r (i + 1)
  | none :: r, i => idxD t r (i + 1)
def resF' (kp : List Tmp) : Operand → Od
  | .tmp t => (match idxK t kp 0 with | some p => .f p | none => .z)
  | x => resK x
/-- ds: the temporaries that the operations before have written, the last one first. -/
def resS (kp : List Tmp) (ds : List (Option Tmp)) : Operand → Od
  | .tmp t => (match idxD t ds 0 with | some d => .x d | none => resF' kp (.tmp t))
  | x => resK x
def kpOf' (kp : List Tmp) : Option Tmp → Option Nat
  | some t => idxK t kp 0
  | none => none
def dstLt (nt : Nat) : Option Tmp → Bool
  | some t => Nat.blt t nt
  | none => true

def nthD : List (Option Tmp) → Nat → Option Tmp
  | [], _ => none
  | x :: _, 0 => x
  | _ :: r, n + 1 => nthD r n
def compGdS (i : Nat) (ds : List (Option Tmp)) : Option (Nat × Bool) → Option (Option (Nat × Bool))
  | none => some none
  | some (g, b) =>
    if Nat.blt g i then
      (match nthD ds (i - 1 - g) with
       | some t => (match idxD t ds 0 with | some d => if Nat.beq d (i - 1 - g) then some (some (d, b)) else none | none => none)
       | none => none)
    else none

def compS (tab : Tab) (nt : Nat) (kp : List Tmp) : List Oper → Nat → List (Option Tmp) → Option (List Ro1)
  | [], _, _ => some []
  | o :: r, i, ds =>
    if noDefer o.op && dstLt nt o.dst then
      match compGdS i ds o.guard, compS tab nt kp r (i + 1) (o.dst :: ds) with
      | some gd, some l => some (⟨gd, kpOf' kp o.dst, [], compOp tab (resS kp ds) o⟩ :: l)
      | _, _ => none
    else none

/-! Regions that draw their order. -/
def memN (t : Nat) : List Nat → Bool
  | [] => false
  | x :: r => if Nat.beq x t then true else memN t r
def gdIs (o : Oper) (j : Nat) : Bool := match o.guard with | some (g, _) => Nat.beq g j | none => false
/-- The operations before that write what is read, or that the guard looks at; js: numbers and temporaries of the operations before, the last one first. -/
def ancL (msk : Nat) (tm : List Nat) (o : Oper) : List (Nat × Option Tmp) → List (Nat × Tmp)
  | [] => []
  | (j, some t) :: r => if msk.testBit j && (memN t tm || gdIs o j) then (j, t) :: ancL msk tm o r else ancL msk tm o r
  | (_, none) :: r => ancL msk tm o r
def ancAll : List Oper → List Nat → Nat → List (Nat × Option Tmp) → List (List (Nat × Tmp))
  | o :: r, m :: ms, i, js => ancL m (tmpsOf o) o js :: ancAll r ms (i + 1) ((i, o.dst) :: js)
  | _, _, _, _ => []
def findA (t : Nat) : List (Nat × Tmp) → Option Nat
  | [] => none
  | (j, x) :: r => if Nat.beq x t then some j else findA t r
def resD (kp : List Tmp) (i : Nat) (anc : List (Nat × Tmp)) : Operand → Od
  | .tmp t => (match findA t anc with | some j => .x (i - 1 - j) | none => resF' kp (.tmp t))
  | x => resK x
def compGdD (i : Nat) : Option (Nat × Bool) → Option (Option (Nat × Bool))
  | none => some none
  | some (g, b) => if Nat.blt g i then some (some (i - 1 - g, b)) else none

def kdR : Kd → Bool
  | .r => true
  | _ => false
def kdO : Kd → Bool
  | .o => true
  | _ => false
def kdA : Kd → Bool
  | .a => true
  | _ => false
/-- js: numbers and operations before. -/
def ordB (m : Nat) : List (Nat × COp) → Bool
  | [] => true
  | (j, c) :: r => if kdR (kd c) || m.testBit j then ordB m r else false
def alIn (m : Nat) : List (Nat × COp) → Bool := ordB m
def alB (m : Nat) : List (Nat × COp) → Bool
  | [] => true
  | (j, c) :: r => if kdA (kd c) && m.testBit j then (if alIn m r then alB m r else false) else alB m r
def looseB (c d : COp) : Bool := (isRd c && kdO (kd d)) || (isRd d && kdO (kd c))
def loB (m i : Nat) (c : COp) : List (Nat × COp) → List Nat
  | [] => []
  | (j, d) :: r => if !m.testBit j && looseB c d then (i - 1 - j) :: loB m i c r else loB m i c r

def compD (tab : Tab) (nt : Nat) (kp : List Tmp) : List Oper → List Nat → List (List (Nat × Tmp)) → Nat → List (Nat × COp) → Option (List Ro1)
  | [], _, _, _, _ => some []
  | o :: r, m :: ms, an :: ans, i, js =>
    if noDefer o.op && dstLt nt o.dst then
      match compGdD i o.guard with
      | some gd =>
        (let c := compOp tab (resD kp i an) o
         if (if kdO (kd c) then ordB m js else alB m js) then
          (match compD tab nt kp r ms ans (i + 1) ((i, c) :: js) with
           | some l => some (⟨gd, kpOf' kp o.dst, loB m i c js, c⟩ :: l)
           | none => none)
         else none)
      | none => none
    else none
  | _, _, _, _, _ => none

def compReg (tab : Tab) (nt : Nat) (kp : List Tmp) (ops : Array Oper) (dr : Bool) : Option (List Ro1) :=
  if dr then
    (let ms := masks [] ops.toList
     let an := ancAll ops.toList ms 0 []
     if flowChk ops ops.size an then compD tab nt kp ops.toList ms an 0 [] else none)
  else compS tab nt kp ops.toList 0 []

def compCode (tab : Tab) (nt : Nat) (kp : List Tmp) (bi : Nat) (rd : Bool) : Code → Option CC
  | .skip => some .skip
  | .label _ => some .skip
  | .region _ ops dr => (match compReg tab nt kp ops dr with | some os => some (.reg os) | none => none)
  | .seq a b => (match compCode tab nt kp bi rd a, compCode tab nt kp bi rd b with | some a, some b => some (.seq a b) | _, _ => none)
  | .cond c t e => (match compCode tab nt kp bi rd t, compCode tab nt kp bi rd e with | some t, some e => some (.cond (resF' kp c) t e) | _, _ => none)
  | .block id b => (match compCode tab nt kp bi rd b with | some b => some (.block id b) | none => none)
  | .loop b => (match compCode tab nt kp bi rd b with | some b => some (.loop b) | none => none)
  | .rangeFunc g _ _ _ => if rd then none else some (.rf (resF' kp g) bi)
  | .exit id => some (.exit id)
  | .scope b => if rd then none else (match compCode tab nt kp bi rd b with | some b => some (.scope b) | none => none)
  | .ret => some .ret
  | _ => none

def rfs : Code → List (Array Tmp × Code × Code)
  | .seq a b => rfs a ++ rfs b
  | .cond _ t e => rfs t ++ rfs e
  | .block _ b => rfs b
  | .loop b => rfs b
  | .scope b => rfs b
  | .rangeFunc _ ps as b => [(ps, as, b)]
  | _ => []

def compRes (tab : Tab) (kp : List Tmp) : List ResultVar → Option (List Rs1)
  | [] => some []
  | .tmp t :: r => (match compRes tab kp r with | some l => some ((match idxK t kp 0 with | some p => .p p | none => .z) :: l) | none => none)
  | .cell a t :: r => (match compRes tab kp r, idxK a kp 0, tab t with | some l, some p, some y => some (.cell (isAggD y.de) y.size p :: l) | _, _, _ => none)

def nodupN : List Nat → Bool
  | [] => true
  | x :: r => if memN x r then false else nodupN r

def compFn (tab : Tab) (wm : Bool) (kp : List Tmp) (f : FuncId) (na : Nat) (fn : Func) : Option FnC :=
  match fn.body with
  | none => none
  | some code =>
    if nodupN kp && Nat.ble na fn.ntmps then
      match compCode tab fn.ntmps kp f false code, compRes tab kp fn.results.toList with
      | some c, some rs => some ⟨wm, kp.length, (List.range na).map fun j => idxK j kp 0, c, rs⟩
      | _, _ => none
    else none
def compBd (tab : Tab) (kp : List Tmp) (f : FuncId) (fn : Func) : Option BdC :=
  match fn.body with
  | none => none
  | some code =>
    match rfs code with
    | [(ps, as, b)] =>
      if nodupN ps.toList && ps.toList.all (fun t => Nat.blt t fn.ntmps) then
        match compCode tab fn.ntmps kp f true as, compCode tab fn.ntmps kp f true b with
        | some a, some b => some ⟨kp.length, ps.toList.map fun t => idxK t kp 0, a, b⟩
        | _, _ => none
      else none
    | _ => none
end Go.Mach
namespace Go.Mach
open Go Go.RowKit Go.Flow
variable [Limb]

def TabOk (P : Program) (tab : Tab) : Prop :=
  ∀ t y, tab t = some y → P.underlying t = some y.de ∧ ∃ i, P.info? t = some i ∧ i.size = y.size ∧ i.bytes = y.bytes ∧ i.zero = y.zero ∧ (y.eqg = true → P.eqGuardType P.depth t = false)

section
variable {P : Program} {tab : Tab} {R : Od → Operand → Prop} {ro : Operand → Od}

theorem TabOk.sz (h : TabOk P tab) {t : TypeId} {y : Ty} (ht : tab t = some y) : szC P t = some y.size := by
  obtain ⟨_, i, hi, hs, _⟩ := h t y ht
  simp [szC, hi, hs]
theorem TabOk.ty (h : TabOk P tab) {t : TypeId} {y : Ty} (ht : tab t = some y) : TyOk P t (isAggD y.de) y.size :=
  ⟨h.sz ht, y.de, (h t y ht).1, rfl⟩
theorem sliceOf_ok (h : TabOk P tab) {t e : TypeId} (ht : sliceOf tab t = some e) : P.underlying t = some (.slice e) := by
  unfold sliceOf at ht
  split at ht
  · rename_i y hy
    split at ht
    · rename_i e' he; cases ht; rw [(h t y hy).1, he]
    · cases ht
  · cases ht
theorem arrOf_ok (h : TabOk P tab) {t e : TypeId} {n : Nat} (ht : arrOf tab t = some (n, e)) : P.underlying t = some (.array n e) := by
  unfold arrOf at ht
  split at ht
  · rename_i y hy
    split at ht
    · rename_i n' e' he; cases ht; rw [(h t y hy).1, he]
    · cases ht
  · cases ht
theorem fieldOf_ok (h : TabOk P tab) {t : TypeId} {f : Nat} {fd : Field} (ht : fieldOf tab t f = some fd) : ∃ fs, P.underlying t = some (.struct fs) ∧ fs[f]? = some fd := by
  unfold fieldOf at ht
  split at ht
  · rename_i y hy
    split at ht
    · rename_i fs he; exact ⟨fs, by rw [(h t y hy).1, he], ht⟩
    · cases ht
  · cases ht
theorem sizeT_ok (h : TabOk P tab) {t : TypeId} {n : Nat} (ht : sizeT tab t = some n) : szC P t = some n := by
  unfold sizeT at ht
  split at ht
  · rename_i y hy; cases ht; exact h.sz hy
  · cases ht
theorem zeroD_ok (h : TabOk P tab) {t : TypeId} {ds : List D} (ht : zeroD tab t = some ds) : ∃ i z, P.info? t = some i ∧ i.zero = some z ∧ ofL z.cells.toList = some ds := by
  unfold zeroD at ht
  split at ht
  · rename_i y hy
    split at ht
    · rename_i z hz
      obtain ⟨_, i, hi, _, _, hz', _⟩ := h t y hy
      exact ⟨i, z, hi, by rw [hz', hz], ht⟩
    · cases ht
  · cases ht
theorem elOf_ok (h : TabOk P tab) {e : TypeId} {z : List Value} {s b : Nat} (ht : elOf tab e = some (z, s, b)) : ElOk P e z s b := by
  unfold elOf at ht
  split at ht
  · rename_i y hy
    split at ht
    · rename_i zv hz
      obtain ⟨_, i, hi, hs, hb, hz', _⟩ := h e y hy
      cases ht
      exact ⟨i, zv, hi, by rw [hz', hz], rfl, hs, hb⟩
    · cases ht
  · cases ht
theorem elW_ok {e : TypeId} {z : List Value} {s b : Nat} (hT : TabOk P tab) (h : elW tab e = some (z, s, b)) : elOf tab e = some (z, s, b) ∧ e ≠ Limb.u := by
  unfold elW at h
  split at h
  · cases h
  · rename_i hu
    exact ⟨h, fun he => hu (by subst he; exact Nat.beq_refl _)⟩
theorem isI64_ok (h : TabOk P tab) {e : TypeId} (ht : isI64 tab e = true) : P.underlying e = some (.int .i64) ∧ szC P e = some 1 := by
  unfold isI64 at ht
  split at ht
  · rename_i y hy
    split at ht
    · rename_i he
      refine ⟨by rw [(h e y hy).1, he], ?_⟩
      rw [h.sz hy]
      simpa using ht
    · cases ht
  · cases ht
theorem mapM_places (h : TabOk P tab) : ∀ {fs : List Field} {pl : List (Nat × Nat)}, fs.mapM (fun f => match tab f.type with | some z => some (f.offset, z.size) | none => none) = some pl → fs.mapM (fun f => (P.info? f.type).map fun i => (f.offset, i.size)) = some pl
  | [], pl, hp => hp
  | f :: fs, pl, hp => by
    simp only [List.mapM_cons] at hp ⊢
    cases hf : tab f.type with
    | none => rw [hf] at hp; cases hp
    | some z =>
      rw [hf] at hp
      obtain ⟨_, i, hi, hs, _⟩ := h _ _ hf
      simp only [hi, Option.map_some]
      cases hm : fs.mapM (fun f => match tab f.type with | some z => some (f.offset, z.size) | none => none) with
      | none => rw [hm] at hp; cases hp
      | some l =>
        rw [hm] at hp
        rw [mapM_places h hm]
        rw [hs]
        exact hp
theorem bldOk (h : TabOk P tab) {t : TypeId} {zs : List D} {pl : List (Nat × Nat)} (hz : zeroD tab t = some zs) (hp : places tab t = some pl) : BldOk P t zs pl := by
  obtain ⟨i, z, hi, hz', hzs⟩ := zeroD_ok h hz
  refine ⟨i, z, hi, hz', hzs, ?_⟩
  unfold places at hp
  split at hp
  · rename_i y hy
    split at hp
    · rename_i fs he
      exact .inl ⟨fs, by rw [(h t y hy).1, he], mapM_places h hp⟩
    · rename_i n e he
      split at hp
      · rename_i z' hz2
        obtain ⟨_, ie, hie, hs, _⟩ := h e z' hz2
        cases hp
        refine .inr ⟨n, e, ie, by rw [(h t y hy).1, he], hie, fun j p hj => ?_⟩
        rw [List.getElem?_map, Option.map_eq_some_iff] at hj
        obtain ⟨a, ha, rfl⟩ := hj
        rw [List.getElem?_range] at ha
        · cases ha; rw [hs]
        · have := (List.getElem?_eq_some_iff.1 ha).1
          simpa using this
      · cases hp
    · cases hp
  · cases hp
theorem mapZ_ok (h : TabOk P tab) {t : TypeId} {zs : List D} (ht : mapZ tab t = some zs) : MapOk P t zs := by
  unfold mapZ at ht
  split at ht
  · rename_i y hy
    split at ht
    · rename_i kt et he
      split at ht
      · rename_i e ha
        split at ht
        · rename_i hi64
          split at ht
          · rename_i z hz
            split at ht
            · rename_i a hza
              obtain ⟨h1, h2⟩ := isI64_ok h hi64
              obtain ⟨_, i, hi, _, _, hz', _⟩ := h et z hz
              exact ⟨kt, et, e, by rw [(h t y hy).1, he], arrOf_ok h ha, h1, h2, i, .agg a, hi, by rw [hz', hza], ⟨a, rfl⟩, ht⟩
            · cases ht
          · cases ht
        · cases ht
      · cases ht
    · cases ht
  · cases ht

theorem Rl.map (hro : ∀ x, R (ro x) x) (xs : List Operand) : Rl R (xs.map ro) xs :=
  ⟨by simp, fun j c hj => by
    rw [List.getElem?_map, Option.map_eq_some_iff] at hj
    obtain ⟨x, hx, rfl⟩ := hj
    exact ⟨x, hx, hro x⟩⟩
theorem Ro.map (hro : ∀ x, R (ro x) x) (x : Option Operand) : Ro R (x.map ro) x := by
  cases x with
  | none => trivial
  | some x => exact hro x

theorem compBin_ok (h : TabOk P tab) {op : BinOp} {t : TypeId} {pk : PK} (hb : compBin tab op t = some pk) (x y : Operand) (t' : TypeId) : PkOk P pk (.binOp op t x y t') [x, y] := by
  unfold compBin at hb
  split at hb
  · split at hb
    · rename_i y hy
      have hu := (h t y hy).1
      split at hb
      · rename_i he; cases hb; exact ⟨rfl, by rw [hu, he]⟩
      · cases hb; exact ⟨rfl, rfl⟩
      · rename_i e he
        split at hb
        · rename_i hc
          cases hb
          rw [Bool.and_eq_true] at hc
          obtain ⟨h1, h2⟩ := isI64_ok h hc.1
          obtain ⟨_, i, _, _, _, _, heq⟩ := h t y hy
          exact ⟨rfl, rfl, e, by rw [hu, he], h1, h2, heq hc.2⟩
        · cases hb
      · cases hb
    · cases hb
  · split at hb
    · rename_i y hy
      have hu := (h t y hy).1
      split at hb
      · rename_i he; cases hb; exact ⟨rfl, by rw [hu, he]⟩
      · cases hb; exact ⟨rfl, rfl⟩
      · rename_i e he
        split at hb
        · rename_i hc
          cases hb
          rw [Bool.and_eq_true] at hc
          obtain ⟨h1, h2⟩ := isI64_ok h hc.1
          obtain ⟨_, i, _, _, _, _, heq⟩ := h t y hy
          exact ⟨rfl, rfl, e, by rw [hu, he], h1, h2, heq hc.2⟩
        · cases hb
      · cases hb
    · cases hb
  · cases hb; exact ⟨rfl, rfl⟩

theorem compCall_ok (h : TabOk P tab) (hro : ∀ x, R (ro x) x) {o : Oper} {c : Call} (ho : o.op = .call c) {cop : COp} (hc : compCall tab ro c = some cop) : OpOk P R o cop := by
  obtain ⟨cal, args, tys⟩ := c
  unfold compCall at hc
  simp only at hc
  split at hc
  · rename_i f
    cases hc
    exact ⟨_, f, ho, rfl, hro f, Rl.map hro _⟩
  · rename_i b
    split at hc
    · rename_i x t ha ht
      have ha' : args = #[x] := by rw [← Array.toList_inj, ha]
      have ht' : tys = #[t] := by rw [← Array.toList_inj, ht]
      split at hc
      · rename_i e he
        cases hc
        exact ⟨_, x, t, e, ho, rfl, ha', ht', hro x, sliceOf_ok h he⟩
      · split at hc
        · rename_i y hy
          split at hc
          · rename_i kt et hde
            cases hc
            exact ⟨_, x, t, kt, et, ho, rfl, ha', ht', hro x, by rw [(h t y hy).1, hde]⟩
          · cases hc
        · cases hc
    · rename_i x t ha ht
      have ha' : args = #[x] := by rw [← Array.toList_inj, ha]
      have ht' : tys = #[t] := by rw [← Array.toList_inj, ht]
      split at hc
      · rename_i e he
        cases hc
        exact ⟨_, x, t, e, ho, rfl, ha', ht', hro x, sliceOf_ok h he⟩
      · cases hc
    · rename_i d x t t' ha ht
      have ha' : args = #[d, x] := by rw [← Array.toList_inj, ha]
      have ht' : tys = #[t, t'] := by rw [← Array.toList_inj, ht]
      split at hc
      · rename_i htt
        have e : t = t' := by simpa using htt
        subst e
        split at hc
        · rename_i e he
          split at hc
          · rename_i z s b hel
            split at hc
            · rename_i hs
              cases hc
              obtain ⟨hel, hte⟩ := elW_ok h hel
              obtain ⟨i, zv, hi, hz, hzl, hsz, hb⟩ := elOf_ok h hel
              rw [Bool.and_eq_true] at hs
              refine ⟨_, d, x, t, e, ho, rfl, ha', ht', hro d, hro x, sliceOf_ok h he, i, zv, hi, hz, hsz, hb, by simpa using hs.1, ?_, hte⟩
              have := hs.2
              rw [← hzl] at this
              simpa using this
            · cases hc
          · cases hc
        · cases hc
      · split at hc
        · rename_i e y he hy
          split at hc
          · rename_i kn z s b hde hel
            split at hc
            · rename_i hs
              cases hc
              rw [Bool.and_eq_true] at hs
              exact ⟨_, d, x, t, t', e, kn, ho, rfl, ha', ht', hro d, hro x, sliceOf_ok h he, by rw [(h t' y hy).1, hde], elOf_ok h (elW_ok h hel).1, by simpa using hs.2, by simpa using hs.1, (elW_ok h hel).2⟩
            · cases hc
          · cases hc
        · cases hc
    · rename_i d x t t' ha ht
      have ha' : args = #[d, x] := by rw [← Array.toList_inj, ha]
      have ht' : tys = #[t, t'] := by rw [← Array.toList_inj, ht]
      split at hc
      · rename_i e he
        split at hc
        · rename_i s hs
          cases hc
          exact ⟨_, d, x, t, t', e, ho, rfl, ha', ht', hro d, hro x, sliceOf_ok h he, sizeT_ok h hs⟩
        · cases hc
      · cases hc
    · rename_i x y ha
      have ha' : args = #[x, y] := by rw [← Array.toList_inj, ha]
      cases hc
      exact ⟨[x, y], by rw [ho]; exact ⟨rfl, x, y, ha', rfl⟩, Rl.map hro [x, y]⟩
    · rename_i x y ha
      have ha' : args = #[x, y] := by rw [← Array.toList_inj, ha]
      cases hc
      exact ⟨[x, y], by rw [ho]; exact ⟨rfl, x, y, ha', rfl⟩, Rl.map hro [x, y]⟩
    · cases hc
  · cases hc

theorem compOp1_ok (h : TabOk P tab) (hro : ∀ x, R (ro x) x) {o : Oper} {cop : COp} (hc : compOp1 tab ro o = some cop) : OpOk P R o cop := by
  unfold compOp1 at hc
  split at hc
  case h_1 x ho => cases hc; exact ⟨x, .inl ho, hro x⟩
  case h_2 x ho => cases hc; exact ⟨x, .inr ho, hro x⟩
  case h_3 c a b ho => cases hc; exact ⟨c, a, b, ho, hro c, hro a, hro b⟩
  case h_4 t a ho =>
    split at hc
    · rename_i y hy; cases hc; exact ⟨t, a, ho, hro a, h.ty hy⟩
    · cases hc
  case h_5 s x f ho =>
    split at hc
    · rename_i fd hfd
      split at hc
      · rename_i n hn
        cases hc
        obtain ⟨fs, h1, h2⟩ := fieldOf_ok h hfd
        exact ⟨s, x, f, fs, fd, n, ho, hro x, h1, h2, rfl, sizeT_ok h hn⟩
      · cases hc
    · cases hc
  case h_6 s x f ho =>
    split at hc
    · rename_i fd hfd
      split at hc
      · rename_i y hy
        cases hc
        obtain ⟨fs, h1, h2⟩ := fieldOf_ok h hfd
        exact ⟨s, x, f, fs, fd, ho, hro x, h1, h2, rfl, h.ty hy⟩
      · cases hc
    · cases hc
  case h_7 t x i ho =>
    split at hc
    · rename_i e he
      split at hc
      · rename_i s hs
        cases hc
        exact ⟨t, e, x, i, ho, hro x, hro i, sliceOf_ok h he, sizeT_ok h hs⟩
      · cases hc
    · split at hc
      · rename_i n e he
        split at hc
        · rename_i s hs
          cases hc
          exact ⟨t, e, x, i, ho, hro x, hro i, arrOf_ok h he, sizeT_ok h hs⟩
        · cases hc
      · cases hc
  case h_8 t x i ho =>
    split at hc
    · rename_i n e he
      split at hc
      · rename_i y hy
        cases hc
        exact ⟨t, e, x, i, ho, hro x, hro i, arrOf_ok h he, h.ty hy⟩
      · cases hc
    · split at hc
      · rename_i y hy
        split at hc
        · rename_i hde
          cases hc
          exact ⟨t, x, i, ho, hro x, hro i, by rw [(h t y hy).1, hde]⟩
        · cases hc
      · cases hc
  case h_9 x i ho => cases hc; exact ⟨x, ho, hro x⟩
  case h_10 x ho => cases hc; exact ⟨x, ho, hro x⟩
  case h_11 t ps ho =>
    split at hc
    · rename_i zs pl hz hp
      cases hc
      refine ⟨t, ps, ho, bldOk h hz hp, rfl, ?_⟩
      have := Rl.map (R := R) hro (ps.toList.map (·.2))
      rw [List.map_map] at this
      exact this
    · cases hc
  case h_12 t len ps ho =>
    split at hc
    · rename_i e he
      split at hc
      · rename_i z s b hel
        cases hc
        refine ⟨t, e, b, ps, ho, sliceOf_ok h he, elOf_ok h hel, rfl, ?_⟩
        have := Rl.map (R := R) hro (ps.toList.map (·.2))
        rw [List.map_map] at this
        exact this
      · cases hc
    · cases hc
  case h_13 t x lo hi ho =>
    split at hc
    · rename_i e he
      split at hc
      · rename_i s hs
        cases hc
        exact ⟨t, e, x, lo, hi, ho, hro x, Ro.map hro lo, Ro.map hro hi, sliceOf_ok h he, sizeT_ok h hs⟩
      · cases hc
    · split at hc
      · rename_i n e he
        split at hc
        · rename_i s hs
          cases hc
          exact ⟨t, e, x, ho, hro x, arrOf_ok h he, sizeT_ok h hs⟩
        · cases hc
      · cases hc
  case h_14 t x lo hi mx ho =>
    split at hc
    · rename_i e he
      split at hc
      · rename_i s hs
        cases hc
        exact ⟨t, e, x, lo, hi, mx, ho, hro x, Ro.map hro lo, hro hi, hro mx, sliceOf_ok h he, sizeT_ok h hs⟩
      · cases hc
    · cases hc
  case h_15 c ho => exact compCall_ok h hro ho hc
  case h_16 op t x y t' ho =>
    split at hc
    · rename_i e he
      split at hc
      · cases hc; exact ⟨t, e, x, y, t', by rw [ho]; rfl, hro x, hro y, sliceOf_ok h he⟩
      · cases hc; exact ⟨t, e, x, y, t', by rw [ho]; rfl, hro x, hro y, sliceOf_ok h he⟩
      · cases hc
    · split at hc
      · rename_i pk hpk
        cases hc
        exact ⟨[x, y], by rw [ho]; exact compBin_ok h hpk x y t', Rl.map hro [x, y]⟩
      · cases hc
  case h_17 t x ho => cases hc; exact ⟨[x], by rw [ho]; exact rfl, Rl.map hro [x]⟩
  case h_18 t x ho => cases hc; exact ⟨[x], by rw [ho]; exact rfl, Rl.map hro [x]⟩
  case h_19 t x ho => cases hc; exact ⟨[x], by rw [ho]; exact rfl, Rl.map hro [x]⟩
  case h_20 s d x ho =>
    split at hc
    · rename_i y1 y hs hd
      split at hc
      · rename_i q hq
        cases hc
        exact ⟨[x], by rw [ho]; exact ⟨rfl, by rw [(h d y hd).1, hq], y1.de, (h s y1 hs).1⟩, Rl.map hro [x]⟩
      · cases hc
    · cases hc
  case h_21 f first cap ho =>
    split at hc
    · rename_i hf
      cases hc
      have e : first = #[] := by rw [← Array.toList_inj, hf]
      subst e
      exact ⟨cap, ho, Rl.map hro _⟩
    · cases hc
  case h_22 t m key ho =>
    split at hc
    · rename_i zs hz; cases hc; exact ⟨t, m, key, ho, hro m, hro key, mapZ_ok h hz⟩
    · cases hc
  case h_23 e ho =>
    split at hc
    · cases hc
    · rename_i hu
      split at hc
      · rename_i ds hz
        cases hc
        obtain ⟨i, z, h1, h2, h3⟩ := zeroD_ok h hz
        exact ⟨e, i, z, ho, h1, h2, h3, fun he => hu (by subst he; exact Nat.beq_refl _)⟩
      · cases hc
  case h_24 e x ho =>
    split at hc
    · cases hc
    · rename_i hu; cases hc; exact ⟨e, x, ho, hro x, fun he => hu (by subst he; exact Nat.beq_refl _)⟩
  case h_25 t l c ho =>
    split at hc
    · rename_i e he
      split at hc
      · rename_i z s b hel
        cases hc
        exact ⟨t, e, l, c, ho, hro l, hro c, sliceOf_ok h he, elOf_ok h (elW_ok h hel).1, (elW_ok h hel).2⟩
      · cases hc
    · cases hc
  case h_26 t ho => cases hc; exact ⟨t, ho⟩
  case h_27 t a x ho =>
    split at hc
    · rename_i n hn; cases hc; exact ⟨t, a, x, ho, hro a, hro x, sizeT_ok h hn⟩
    · cases hc
  case h_28 t m key x ho =>
    split at hc
    · rename_i zs hz; cases hc; exact ⟨t, zs, m, key, x, .inl ho, hro m, hro key, hro x, mapZ_ok h hz⟩
    · cases hc
  case h_29 t m key x ho =>
    split at hc
    · rename_i zs hz; cases hc; exact ⟨t, zs, m, key, x, .inr ho, hro m, hro key, hro x, mapZ_ok h hz⟩
    · cases hc
  case h_30 t x ho =>
    split at hc
    · rename_i y hy
      split at hc
      · rename_i kt et hde
        cases hc
        exact ⟨t, x, kt, et, ho, hro x, by rw [(h t y hy).1, hde]⟩
      · cases hc
    · cases hc
  case h_31 x ho => cases hc; exact ⟨x, ho, hro x⟩
  case h_32 => cases hc

theorem compOp_ok (h : TabOk P tab) (hro : ∀ x, R (ro x) x) (o : Oper) : OpOk P R o (compOp tab ro o) := by
  unfold compOp
  split
  · rename_i c hc; exact compOp1_ok h hro hc
  · trivial
end
end Go.Mach
namespace Go.Mach
open Go Go.RowKit Go.Flow
variable [Limb]

section
variable {P : Program} {tab : Tab}

theorem idxK_ok {t : Nat} : ∀ {l : List Nat} {i p : Nat}, idxK t l i = some p → i ≤ p ∧ l[p - i]? = some t
  | [], i, p, h => by simp [idxK] at h
  | x :: r, i, p, h => by
    simp only [idxK] at h
    split at h
    · rename_i hx
      cases h
      have : x = t := by simpa using hx
      subst this
      exact ⟨Nat.le_refl _, by simp⟩
    · obtain ⟨h1, h2⟩ := idxK_ok h
      refine ⟨by omega, ?_⟩
      have e : p - i = (p - (i + 1)) + 1 := by omega
      rw [e, List.getElem?_cons_succ]
      exact h2
theorem idxK_at {t p : Nat} {kp : List Nat} (h : idxK t kp 0 = some p) : kp[p]? = some t := by simpa using (idxK_ok h).2

theorem idxD_shift {t : Nat} : ∀ (l : List (Option Nat)) (i : Nat), idxD t l i = (idxD t l 0).map (· + i)
  | [], i => rfl
  | some x :: r, i => by
    simp only [idxD]
    split
    · simp
    · rw [idxD_shift r (i + 1), idxD_shift r (0 + 1)]
      cases idxD t r 0 <;> simp; omega
  | none :: r, i => by
    simp only [idxD]
    rw [idxD_shift r (i + 1), idxD_shift r (0 + 1)]
    cases idxD t r 0 <;> simp; omega

theorem resK_ok (x : Operand) : resK x = .z ∨ RsK (resK x) x := by
  cases x with
  | tmp t => exact .inl rfl
  | global g => exact .inl rfl
  | func f => exact .inr rfl
  | const v =>
    cases hv : ofVal v with
    | none => exact .inl (by simp only [resK, hv])
    | some t1 => exact .inr ⟨t1, hv, by simp only [resK, hv]⟩

/-- What the operations before have written. -/
def DsOk (ops : Array Oper) (i : Nat) (ds : List (Option Tmp)) : Prop :=
  ∀ t, (∀ d, idxD t ds 0 = some d → lastW ops t i = some (i - 1 - d) ∧ d < i) ∧ (idxD t ds 0 = none → lastW ops t i = none)
theorem DsOk.nil (ops : Array Oper) : DsOk ops 0 [] := fun t => ⟨fun d h => by simp [idxD] at h, fun _ => rfl⟩
theorem DsOk.cons {ops : Array Oper} {i : Nat} {ds : List (Option Tmp)} {o : Oper} (h : DsOk ops i ds) (ho : ops[i]? = some o) : DsOk ops (i + 1) (o.dst :: ds) := by
  intro t
  have hw : lastW ops t (i + 1) = if o.dst = some t then some i else lastW ops t i := by simp [lastW, ho]
  have hne : ∀ (hne : o.dst ≠ some t), idxD t (o.dst :: ds) 0 = (idxD t ds 0).map (· + 1) := by
    intro hne
    cases hd : o.dst with
    | none => simp only [idxD]; exact idxD_shift ds 1
    | some x =>
      have : Nat.beq x t = false := by
        cases hb : Nat.beq x t with
        | false => rfl
        | true => exact absurd (by rw [hd]; congr 1; simpa using hb) hne
      simp only [idxD, this]
      exact idxD_shift ds 1
  by_cases hd : o.dst = some t
  · rw [if_pos hd] at hw
    have e : idxD t (o.dst :: ds) 0 = some 0 := by rw [hd]; simp [idxD]
    refine ⟨fun d hd' => ?_, fun h0 => by rw [e] at h0; cases h0⟩
    rw [e] at hd'
    cases hd'
    exact ⟨by rw [hw]; simp, by omega⟩
  · rw [if_neg hd] at hw
    rw [hne hd, hw]
    refine ⟨fun d hd' => ?_, fun h0 => ?_⟩
    · rw [Option.map_eq_some_iff] at hd'
      obtain ⟨d0, h0, rfl⟩ := hd'
      obtain ⟨h1, h2⟩ := (h t).1 d0 h0
      exact ⟨by rw [h1]; congr 1; omega, by omega⟩
    · rw [Option.map_eq_none_iff] at h0
      exact (h t).2 h0

theorem resS_ok {ops : Array Oper} {kp : List Tmp} {i : Nat} {ds : List (Option Tmp)} (h : DsOk ops i ds) (x : Operand) : RsS ops kp i (resS kp ds x) x := by
  cases x with
  | tmp t =>
    cases hd : idxD t ds 0 with
    | some d =>
      obtain ⟨h1, h2⟩ := (h t).1 d hd
      exact .inr (.inr ⟨t, rfl, .inl ⟨d, i - 1 - d, h1, by omega, by simp only [resS, hd]⟩⟩)
    | none =>
      cases hk : idxK t kp 0 with
      | none => exact .inl (by simp only [resS, hd, resF', hk])
      | some p => exact .inr (.inr ⟨t, rfl, .inr ⟨(h t).2 hd, p, idxK_at hk, by simp only [resS, hd, resF', hk]⟩⟩)
  | global g => exact .inl rfl
  | func f => exact .inr (.inl rfl)
  | const v => exact (resK_ok (.const v)).imp id .inl

theorem idxK_none {t : Nat} : ∀ {l : List Nat} {i : Nat}, idxK t l i = none → ∀ p : Nat, l[p]? ≠ some t
  | [], i, h, p => by simp
  | x :: r, i, h, p => by
    simp only [idxK] at h
    split at h
    · cases h
    · rename_i hx
      cases p with
      | zero => simp; intro e; exact hx (by simp [e])
      | succ p => simpa using idxK_none h p

theorem memN_iff {t : Nat} : ∀ {l : List Nat}, memN t l = true ↔ t ∈ l
  | [] => by simp [memN]
  | x :: r => by
    simp only [memN]
    split
    · rename_i h
      have : x = t := by simpa using h
      simp [this]
    · rename_i h
      have : x ≠ t := fun e => h (by simp [e])
      rw [memN_iff (l := r), List.mem_cons]
      exact ⟨.inr, fun h => h.resolve_left fun e => this e.symm⟩

theorem nodupN_inj : ∀ {l : List Nat}, nodupN l = true → ∀ {p q t : Nat}, l[p]? = some t → l[q]? = some t → p = q
  | [], _, p, q, t, h, _ => by simp at h
  | x :: r, hn, p, q, t, h1, h2 => by
    simp only [nodupN] at hn
    split at hn
    · cases hn
    · rename_i hm
      have hx : x ∉ r := fun h => hm (memN_iff.2 h)
      cases p with
      | zero =>
        cases q with
        | zero => rfl
        | succ q =>
          simp at h1 h2
          subst h1
          exact absurd (List.mem_of_getElem? h2) hx
      | succ p =>
        cases q with
        | zero =>
          simp at h1 h2
          subst h2
          exact absurd (List.mem_of_getElem? h1) hx
        | succ q =>
          have := nodupN_inj hn (p := p) (q := q) (by simpa using h1) (by simpa using h2)
          omega

theorem kpS_of {kp : List Tmp} (hn : nodupN kp = true) (dst : Option Tmp) : KpS kp dst (kpOf' kp dst) := by
  cases dst with
  | none => exact ⟨fun p h => by simp [kpOf'] at h, fun t p h => by cases h⟩
  | some t =>
    refine ⟨fun p h => ⟨t, rfl, idxK_at h⟩, fun t' p h1 h2 => ?_⟩
    cases h1
    show idxK t kp 0 = some p
    cases hk : idxK t kp 0 with
    | none => exact absurd h2 (idxK_none hk p)
    | some q => rw [nodupN_inj hn (idxK_at hk) h2]

theorem dstLt_ok {nt : Nat} {dst : Option Tmp} (h : dstLt nt dst = true) : ∀ t, dst = some t → t < nt := by
  rintro t rfl
  simpa [dstLt] using h

theorem nthD_get : ∀ (ds : List (Option Tmp)) (n : Nat) (t : Tmp), nthD ds n = some t → ds[n]? = some (some t)
  | [], n, t, h => by simp [nthD] at h
  | x :: r, 0, t, h => by simp [nthD] at h; simp [h]
  | x :: r, n + 1, t, h => by simpa using nthD_get r n t h

/-- The operations before, turned. -/
def DsAt (ops : Array Oper) (i : Nat) (ds : List (Option Tmp)) : Prop := ∀ (d : Nat) x, ds[d]? = some x → d < i ∧ ∃ o, ops[i - 1 - d]? = some o ∧ o.dst = x

theorem compGdS_ok {ops : Array Oper} {i : Nat} {ds : List (Option Tmp)} (h : DsOk ops i ds) (ha : DsAt ops i ds) {g : Option (Nat × Bool)} {r : Option (Nat × Bool)} (hg : compGdS i ds g = some r) : GdS ops i g r := by
  unfold compGdS at hg
  split at hg
  · cases hg; trivial
  · rename_i g b
    split at hg
    · rename_i hlt
      have hlt' : g < i := by simpa using hlt
      split at hg
      · rename_i t ht
        split at hg
        · rename_i d hd
          split at hg
          · rename_i hde
            have e : d = i - 1 - g := by simpa using hde
            cases hg
            obtain ⟨h1, h2⟩ := (h t).1 d hd
            obtain ⟨_, o, ho, hod⟩ := ha _ _ (nthD_get _ _ _ ht)
            have e2 : i - 1 - (i - 1 - g) = g := by omega
            rw [e2] at ho
            refine ⟨rfl, by omega, o, t, ho, hod, ?_⟩
            rw [h1]; congr 1; omega
          · cases hg
        · cases hg
      · cases hg
    · cases hg

theorem compS_ok (h : TabOk P tab) {nt : Nat} {kp : List Tmp} (hn : nodupN kp = true) {ops : Array Oper} : ∀ (l : List Oper) (i : Nat) (ds : List (Option Tmp)) (os : List Ro1), compS tab nt kp l i ds = some os → (∀ j, l[j]? = ops[i + j]?) → DsOk ops i ds → DsAt ops i ds →
    os.length = l.length ∧ ∀ (j : Nat) o r, l[j]? = some o → os[j]? = some r → noDefer o.op = true ∧ OpOk P (RsS ops kp (i + j)) o r.op ∧ (∀ t, o.dst = some t → t < nt) ∧ GdS ops (i + j) o.guard r.gd ∧ KpS kp o.dst r.kp
  | [], i, ds, os, hc, _, _, _ => by
    simp only [compS, Option.some.injEq] at hc
    subst hc
    exact ⟨rfl, fun j o r hj => by simp at hj⟩
  | o :: l, i, ds, os, hc, hl, hds, hda => by
    simp only [compS] at hc
    split at hc
    · rename_i hnd
      rw [Bool.and_eq_true] at hnd
      split at hc
      · rename_i gd os' hgd hos
        cases hc
        have ho : ops[i]? = some o := by have := hl 0; simpa using this.symm
        obtain ⟨h1, h2⟩ := compS_ok h hn l (i + 1) (o.dst :: ds) os' hos (fun j => by have := hl (j + 1); rw [Nat.add_assoc, Nat.add_comm 1 j]; simpa using this) (hds.cons ho) (fun d x hx => by
          cases d with
          | zero =>
            simp at hx
            exact ⟨by omega, o, by simpa using ho, hx⟩
          | succ d =>
            obtain ⟨q1, o', q2, q3⟩ := hda d x (by simpa using hx)
            refine ⟨by omega, o', ?_, q3⟩
            rw [← q2]; congr 1; omega)
        refine ⟨by simp [h1], fun j o' r hj hr => ?_⟩
        cases j with
        | zero =>
          simp at hj hr
          subst hj; subst hr
          exact ⟨hnd.1, compOp_ok h (resS_ok hds) o, dstLt_ok hnd.2, compGdS_ok hds hda hgd, kpS_of hn o.dst⟩
        | succ j =>
          have := h2 j o' r (by simpa using hj) (by simpa using hr)
          rw [Nat.add_assoc, Nat.add_comm 1 j] at this
          exact this
      · cases hc
    · cases hc

theorem compS_reg (h : TabOk P tab) {nt : Nat} {kp : List Tmp} (hn : nodupN kp = true) {ops : Array Oper} {os : List Ro1} (hc : compS tab nt kp ops.toList 0 [] = some os) : ROkS P nt kp ops os := by
  obtain ⟨h1, h2⟩ := compS_ok h hn ops.toList 0 [] os hc (fun j => by simp) (DsOk.nil ops) (fun d x hx => by simp at hx)
  refine ⟨by simpa using h1, fun i o r ho hr => ?_⟩
  have := h2 i o r (by simpa using ho) hr
  rwa [Nat.zero_add] at this
end
end Go.Mach
namespace Go.Mach
open Go Go.RowKit Go.Flow
variable [Limb]

/-- The operations before the n-th, the last one first. -/
def histL : List Ro1 → Nat → List (Nat × COp) → Nat → List (Nat × COp)
  | _, _, js, 0 => js
  | [], _, js, _ + 1 => js
  | r :: os, i, js, n + 1 => histL os (i + 1) ((i, r.op) :: js) n
theorem histL_succ : ∀ (os : List Ro1) (i : Nat) (js : List (Nat × COp)) (n : Nat) (r : Ro1), os[n]? = some r → histL os i js (n + 1) = (i + n, r.op) :: histL os i js n
  | [], i, js, n, r, h => by simp at h
  | r' :: os, i, js, 0, r, h => by
    simp at h; subst h
    cases os <;> simp [histL]
  | r' :: os, i, js, n + 1, r, h => by
    have := histL_succ os (i + 1) ((i, r'.op) :: js) n r (by simpa using h)
    simp only [histL]
    rw [this]
    congr 2; omega

theorem hist_suffix {os : List Ro1} {j : Nat} {rj : Ro1} (hj : os[j]? = some rj) : ∀ (d : Nat), j + d + 1 ≤ os.length → (j, rj.op) :: histL os 0 [] j <:+ histL os 0 [] (j + d + 1)
  | 0, _ => by
    rw [Nat.add_zero, histL_succ os 0 [] j rj hj, Nat.zero_add]
    exact List.suffix_refl _
  | d + 1, h => by
    have hlt : j + (d + 1) < os.length := by omega
    rw [histL_succ os 0 [] (j + (d + 1)) os[j + (d + 1)] (List.getElem?_eq_getElem hlt)]
    exact (hist_suffix hj d (by omega)).trans (List.suffix_cons _ _)

theorem ordB_suffix {m : Nat} : ∀ {L L' : List (Nat × COp)}, ordB m L = true → L' <:+ L → ordB m L' = true
  | [], L', h, hs => by rw [List.suffix_nil.1 hs]; rfl
  | (j, c) :: L, L', h, hs => by
    rcases List.suffix_cons_iff.1 hs with rfl | hs
    · exact h
    · simp only [ordB] at h
      split at h
      · exact ordB_suffix h hs
      · cases h
theorem ordB_at {m j : Nat} {c : COp} {L L' : List (Nat × COp)} (h : ordB m L = true) (hs : (j, c) :: L' <:+ L) (hc : kd c ≠ .r) : m.testBit j = true := by
  have := ordB_suffix h hs
  simp only [ordB] at this
  split at this
  · rename_i hb
    rw [Bool.or_eq_true] at hb
    rcases hb with hb | hb
    · cases hk : kd c <;> rw [hk] at hb hc <;> first | exact absurd rfl hc | cases hb
    · exact hb
  · cases this
theorem alB_suffix {m : Nat} : ∀ {L L' : List (Nat × COp)}, alB m L = true → L' <:+ L → alB m L' = true
  | [], L', h, hs => by rw [List.suffix_nil.1 hs]; rfl
  | (j, c) :: L, L', h, hs => by
    rcases List.suffix_cons_iff.1 hs with rfl | hs
    · exact h
    · simp only [alB] at h
      split at h
      · split at h
        · exact alB_suffix h hs
        · cases h
      · exact alB_suffix h hs
theorem alB_at {m j : Nat} {c : COp} {L L' : List (Nat × COp)} (h : alB m L = true) (hs : (j, c) :: L' <:+ L) (hc : kd c = .a) (hb : m.testBit j = true) : ordB m L' = true := by
  have := alB_suffix h hs
  simp only [alB, hc, kdA, hb, Bool.and_self, if_true] at this
  split at this
  · assumption
  · cases this
theorem loB_mem {m i : Nat} {c : COp} {j : Nat} {d : COp} : ∀ {L L' : List (Nat × COp)}, (j, d) :: L' <:+ L → m.testBit j = false → looseB c d = true → i - 1 - j ∈ loB m i c L
  | [], L', hs, _, _ => by have := List.suffix_nil.1 hs; cases this
  | (j', d') :: L, L', hs, hb, hl => by
    rcases List.suffix_cons_iff.1 hs with he | hs
    · cases he
      simp only [loB, hb, hl, Bool.not_false, Bool.and_self, if_true]
      exact List.mem_cons_self
    · simp only [loB]
      split
      · exact List.mem_cons_of_mem _ (loB_mem hs hb hl)
      · exact loB_mem hs hb hl

section
variable {P : Program} {tab : Tab}

theorem findA_some {t j : Nat} : ∀ {l : List (Nat × Tmp)}, findA t l = some j → (j, t) ∈ l
  | [], h => by simp [findA] at h
  | (k, x) :: r, h => by
    simp only [findA] at h
    split at h
    · rename_i hx
      cases h
      have : x = t := by simpa using hx
      subst this
      exact List.mem_cons_self
    · exact List.mem_cons_of_mem _ (findA_some h)
theorem findA_none {t : Nat} : ∀ {l : List (Nat × Tmp)}, findA t l = none → ∀ j, (j, t) ∉ l
  | [], _, j, h => by cases h
  | (k, x) :: r, h, j, hm => by
    simp only [findA] at h
    split at h
    · cases h
    · rename_i hx
      rcases List.mem_cons.1 hm with he | hm
      · cases he; exact hx (by simp)
      · exact findA_none h j hm

theorem resD_ok {kp : List Tmp} {i : Nat} {anc : List (Nat × Tmp)} (ha : ∀ p ∈ anc, p.1 < i) (x : Operand) : RsD anc kp i (resD kp i anc x) x := by
  cases x with
  | tmp t =>
    cases hd : findA t anc with
    | some j =>
      have hm := findA_some hd
      have := ha _ hm
      exact .inr (.inr ⟨t, rfl, .inl ⟨i - 1 - j, j, hm, by simp at this; omega, by simp only [resD, hd]⟩⟩)
    | none =>
      cases hk : idxK t kp 0 with
      | none => exact .inl (by simp only [resD, hd, resF', hk])
      | some p => exact .inr (.inr ⟨t, rfl, .inr ⟨findA_none hd, p, idxK_at hk, by simp only [resD, hd, resF', hk]⟩⟩)
  | global g => exact .inl rfl
  | func f => exact .inr (.inl rfl)
  | const v => exact (resK_ok (.const v)).imp id .inl

theorem compGdD_ok {i : Nat} {g : Option (Nat × Bool)} {r : Option (Nat × Bool)} (hg : compGdD i g = some r) : GdD i g r := by
  unfold compGdD at hg
  split at hg
  · cases hg; trivial
  · rename_i g b
    split at hg
    · rename_i hlt
      have hlt' : g < i := by simpa using hlt
      cases hg
      exact ⟨rfl, by omega⟩
    · cases hg

theorem compD_ok (h : TabOk P tab) {nt : Nat} {kp : List Tmp} (hn : nodupN kp = true) : ∀ (l : List Oper) (ms : List Nat) (ans : List (List (Nat × Tmp))) (i : Nat) (js : List (Nat × COp)) (os : List Ro1), compD tab nt kp l ms ans i js = some os → (∀ (n : Nat) an, ans[n]? = some an → ∀ p ∈ an, p.1 < i + n) →
    os.length = l.length ∧ ∀ (n : Nat) o r, l[n]? = some o → os[n]? = some r → ∃ m an, ms[n]? = some m ∧ ans[n]? = some an ∧ noDefer o.op = true ∧ OpOk P (RsD an kp (i + n)) o r.op ∧ (∀ t, o.dst = some t → t < nt) ∧ GdD (i + n) o.guard r.gd ∧ KpS kp o.dst r.kp ∧
      (if kdO (kd r.op) then ordB m (histL os i js n) else alB m (histL os i js n)) = true ∧ r.lo = loB m (i + n) r.op (histL os i js n)
  | [], ms, ans, i, js, os, hc, _ => by
    simp only [compD, Option.some.injEq] at hc
    subst hc
    exact ⟨rfl, fun j o r hj => by simp at hj⟩
  | o :: l, [], ans, i, js, os, hc, _ => by simp [compD] at hc
  | o :: l, m :: ms, [], i, js, os, hc, _ => by simp [compD] at hc
  | o :: l, m :: ms, an :: ans, i, js, os, hc, ha => by
    simp only [compD] at hc
    split at hc
    · rename_i hnd
      rw [Bool.and_eq_true] at hnd
      split at hc
      · rename_i gd hgd
        by_cases hord : (if kdO (kd (compOp tab (resD kp i an) o)) then ordB m js else alB m js) = true
        · rw [if_pos hord] at hc
          split at hc
          · rename_i os' hos
            cases hc
            obtain ⟨h1, h2⟩ := compD_ok h hn l ms ans (i + 1) _ os' hos (fun n an hn p hp => by have := ha (n + 1) an (by simpa using hn) p hp; omega)
            refine ⟨by simp [h1], fun n o' r hj hr => ?_⟩
            cases n with
            | zero =>
              simp at hj hr
              subst hj; subst hr
              exact ⟨m, an, rfl, rfl, hnd.1, compOp_ok h (resD_ok fun p hp => by have := ha 0 an rfl p hp; omega) o, dstLt_ok hnd.2, compGdD_ok hgd, kpS_of hn o.dst, hord, rfl⟩
            | succ n =>
              obtain ⟨m', an', q1, q2, q3, q4, q5, q6, q7, q8, q9⟩ := h2 n o' r (by simpa using hj) (by simpa using hr)
              have e : i + 1 + n = i + (n + 1) := by omega
              rw [e] at q4 q6 q9
              exact ⟨m', an', by simpa using q1, by simpa using q2, q3, q4, q5, q6, q7, q8, q9⟩
          · cases hc
        · rw [if_neg hord] at hc
          cases hc
      · cases hc
    · cases hc

theorem kdO_iff {k : Kd} : kdO k = true ↔ k = .o := by cases k <;> simp [kdO]

theorem compD_reg (h : TabOk P tab) {nt : Nat} {kp : List Tmp} (hn : nodupN kp = true) {ops : Array Oper} {an : List (List (Nat × Tmp))} (hf : flowChk ops ops.size an = true) {os : List Ro1} (hc : compD tab nt kp ops.toList (masks [] ops.toList) an 0 [] = some os) : ROkD P nt kp ops os an := by
  have hchk := chk_of hf
  have hanc : ∀ (n : Nat) a, an[n]? = some a → ∀ p ∈ a, p.1 < 0 + n := by
    intro n a ha p hp
    have hnl : n < ops.size := by rw [← hchk.len]; exact (List.getElem?_eq_some_iff.1 ha).1
    have := (hchk.ancs n ops[n] hnl (Array.getElem?_eq_getElem hnl) p (by rw [List.getD_eq_getElem?_getD, ha]; exact hp)).1
    omega
  obtain ⟨h1, h2⟩ := compD_ok h hn ops.toList _ an 0 [] os hc hanc
  have hlen : os.length = ops.size := by simpa using h1
  have get : ∀ (i : Nat) r, os[i]? = some r → ∃ o m a, ops[i]? = some o ∧ (masks [] ops.toList).getD i 0 = m ∧ an.getD i [] = a ∧ noDefer o.op = true ∧ OpOk P (RsD a kp i) o r.op ∧ (∀ t, o.dst = some t → t < nt) ∧ GdD i o.guard r.gd ∧ KpS kp o.dst r.kp ∧
      (if kdO (kd r.op) then ordB m (histL os 0 [] i) else alB m (histL os 0 [] i)) = true ∧ r.lo = loB m i r.op (histL os 0 [] i) := by
    intro i r hr
    have hil : i < ops.size := by rw [← hlen]; exact (List.getElem?_eq_some_iff.1 hr).1
    obtain ⟨m, a, q1, q2, q3, q4, q5, q6, q7, q8, q9⟩ := h2 i ops[i] r (by simp [hil]) hr
    rw [Nat.zero_add] at q4 q6 q9
    exact ⟨ops[i], m, a, Array.getElem?_eq_getElem hil, by rw [List.getD_eq_getElem?_getD, q1]; rfl, by rw [List.getD_eq_getElem?_getD, q2]; rfl, q3, q4, q5, q6, q7, q8, q9⟩
  have suf : ∀ (i j : Nat) rj, os[j]? = some rj → j < i → i < os.length → (j, rj.op) :: histL os 0 [] j <:+ histL os 0 [] i := by
    intro i j rj hj hlt hil
    have := hist_suffix hj (i - 1 - j) (by omega)
    have e : j + (i - 1 - j) + 1 = i := by omega
    rwa [e] at this
  refine ⟨hlen, hchk, fun i o r ho hr => ?_, fun i j r rj hi hj hlt hkj hki => ?_, fun i j l r rj rl hi hj hl hlt hki hkj hkl hb => ?_, fun i j r rj hi hj hlt hnb hloose => ?_⟩
  · obtain ⟨o', m, a, q0, _, q2, q3, q4, q5, q6, q7, _⟩ := get i r hr
    rw [ho] at q0; cases q0
    rw [q2]
    exact ⟨q3, q4, q5, q6, q7⟩
  · obtain ⟨_, m, a, _, q1, _, _, _, _, _, _, q8, _⟩ := get i r hi
    rw [if_pos (kdO_iff.2 hki)] at q8
    show ((masks [] ops.toList).getD i 0).testBit j = true
    rw [q1]
    exact ordB_at q8 (suf i j rj hj hlt (List.getElem?_eq_some_iff.1 hi).1) hkj
  · obtain ⟨_, m, a, _, q1, _, _, _, _, _, _, q8, _⟩ := get i r hi
    rw [if_neg (fun h => hki (kdO_iff.1 h))] at q8
    have hb' : m.testBit j = true := by rw [← q1]; exact hb
    have hji : j < i := by
      rcases Nat.lt_or_ge j i with h | h
      · exact h
      · have hlt2 := masks_below ops.toList [] (fun j oj hoj e he hb => by simpa using hchk.back j oj (by simpa using hoj) e he hb) (fun j x hlt => by simp at hlt) _ _ hb
        omega
    have hil := (List.getElem?_eq_some_iff.1 hi).1
    have := alB_at q8 (suf i j rj hj hji hil) hkj hb'
    show ((masks [] ops.toList).getD i 0).testBit l = true
    rw [q1]
    exact ordB_at this (suf j l rl hl hlt (by omega)) hkl
  · obtain ⟨_, m, a, _, q1, _, _, _, _, _, _, _, q9⟩ := get i r hi
    have hb' : m.testBit j = false := by
      have : ¬ m.testBit j = true := by rw [← q1]; exact hnb
      simpa using this
    have hl : looseB r.op rj.op = true := by
      unfold looseB
      rw [Bool.or_eq_true, Bool.and_eq_true, Bool.and_eq_true, kdO_iff, kdO_iff]
      exact hloose
    refine ⟨i - 1 - j, ?_, by omega⟩
    rw [q9]
    exact loB_mem (suf i j rj hj hlt (List.getElem?_eq_some_iff.1 hi).1) hb' hl
end
end Go.Mach
namespace Go.Mach
open Go Go.RowKit Go.Flow
variable [Limb]

section
variable {P : Program} {tab : Tab} {Bt : Bodies}

theorem resF'_ok (kp : List Tmp) (x : Operand) : RsF kp (resF' kp x) x := by
  cases x with
  | tmp t =>
    cases hk : idxK t kp 0 with
    | none => exact .inl (by simp only [resF', hk])
    | some p => exact .inr (.inr ⟨t, p, rfl, idxK_at hk, by simp only [resF', hk]⟩)
  | global g => exact .inl rfl
  | func f => exact .inr (.inl rfl)
  | const v => exact (resK_ok (.const v)).imp id .inl

theorem compCode_ok (h : TabOk P tab) {nt : Nat} {kp : List Tmp} (hn : nodupN kp = true) {bi : Nat} {rd : Bool} : ∀ (code : Code) (c : CC), compCode tab nt kp bi rd code = some c → (∀ p ∈ rfs code, Bt bi = some ⟨nt, kp, p.1, p.2.1, p.2.2⟩) → COk P nt kp Bt rd c code := by
  intro code
  induction code with
  | skip => intro c hc _; cases hc; trivial
  | label l => intro c hc _; cases hc; trivial
  | region id ops dr =>
    intro c hc _
    simp only [compCode] at hc
    split at hc
    · rename_i os hos
      cases hc
      unfold compReg at hos
      cases dr with
      | true =>
        simp only [if_true] at hos
        split at hos
        · rename_i hf; exact ⟨_, compD_reg h hn hf hos⟩
        · cases hos
      | false => exact compS_reg h hn (by simpa using hos)
    · cases hc
  | seq a b iha ihb =>
    intro c hc hp
    simp only [compCode] at hc
    split at hc
    · rename_i a' b' ha hb
      cases hc
      exact ⟨iha a' ha fun p hm => hp p (List.mem_append_left _ hm), ihb b' hb fun p hm => hp p (List.mem_append_right _ hm)⟩
    · cases hc
  | cond x t e iht ihe =>
    intro c hc hp
    simp only [compCode] at hc
    split at hc
    · rename_i t' e' ht he
      cases hc
      exact ⟨resF'_ok kp x, iht t' ht fun p hm => hp p (List.mem_append_left _ hm), ihe e' he fun p hm => hp p (List.mem_append_right _ hm)⟩
    · cases hc
  | block id b ih =>
    intro c hc hp
    simp only [compCode] at hc
    split at hc
    · rename_i b' hb; cases hc; exact ⟨rfl, ih b' hb hp⟩
    · cases hc
  | loop b ih =>
    intro c hc hp
    simp only [compCode] at hc
    split at hc
    · rename_i b' hb; cases hc; exact ih b' hb hp
    · cases hc
  | rangeFunc g ps as b _ _ =>
    intro c hc hp
    simp only [compCode] at hc
    split at hc
    · cases hc
    · rename_i hrd
      cases hc
      exact ⟨by simpa using hrd, resF'_ok kp g, hp (ps, as, b) List.mem_cons_self⟩
  | exit id => intro c hc _; cases hc; exact rfl
  | scope b ih =>
    intro c hc hp
    simp only [compCode] at hc
    split at hc
    · cases hc
    · rename_i hrd
      split at hc
      · rename_i b' hb; cases hc; exact ⟨by simpa using hrd, ih b' hb hp⟩
      · cases hc
  | ret => intro c hc _; cases hc; trivial
  | goto l => intro c hc _; cases hc
  | refuse w => intro c hc _; cases hc

theorem compRes_ok (h : TabOk P tab) {kp : List Tmp} : ∀ (rs : List ResultVar) (l : List Rs1), compRes tab kp rs = some l → RsOk P kp rs l
  | [], l, hc => by simp only [compRes, Option.some.injEq] at hc; subst hc; trivial
  | .tmp t :: rs, l, hc => by
    simp only [compRes] at hc
    split at hc
    · rename_i l' hl
      cases hc
      cases hk : idxK t kp 0 with
      | none => exact compRes_ok h rs l' hl
      | some p => exact ⟨idxK_at hk, compRes_ok h rs l' hl⟩
    · cases hc
  | .cell a t :: rs, l, hc => by
    simp only [compRes] at hc
    split at hc
    · rename_i l' p y hl hp hy
      cases hc
      exact ⟨idxK_at hp, h.ty hy, compRes_ok h rs l' hl⟩
    · cases hc

/-- The bodies of ranges over functions: one for a function. -/
def bodyOf (kp : List Tmp) (fn : Func) : Option Bd :=
  match fn.body with
  | some c => (match rfs c with | [(ps, as, b)] => some ⟨fn.ntmps, kp, ps, as, b⟩ | _ => none)
  | none => none
def rfs1 (fn : Func) : Bool :=
  match fn.body with
  | some c => (match rfs c with | [] => true | [_] => true | _ => false)
  | none => false

theorem compFn_parts (h : TabOk P tab) {wm : Bool} {kp : List Tmp} {f : FuncId} {na : Nat} {fn : Func} {c : FnC} (h1 : rfs1 fn = true) (hB : ∀ bd, bodyOf kp fn = some bd → Bt f = some bd)
    (hc : compFn tab wm kp f na fn = some c) : ∃ code, fn.body = some code ∧ kp.length = c.nk ∧ c.pin.length ≤ fn.ntmps ∧ (∀ (j p : Nat), c.pin[j]? = some (some p) → kp[p]? = some j) ∧ COk P fn.ntmps kp Bt false c.code code ∧ RsOk P kp fn.results.toList c.res := by
  unfold compFn at hc
  split at hc
  · cases hc
  · rename_i code hcode
    split at hc
    · rename_i hchk
      rw [Bool.and_eq_true] at hchk
      split at hc
      · rename_i cc rs hcc hrs
        cases hc
        refine ⟨code, hcode, rfl, by simpa using hchk.2, fun j p hj => ?_, compCode_ok h hchk.1 code cc hcc fun p hp => ?_, compRes_ok h _ _ hrs⟩
        · rw [List.getElem?_map, Option.map_eq_some_iff] at hj
          obtain ⟨a, ha, hk⟩ := hj
          have hjl : j < na := by have := (List.getElem?_eq_some_iff.1 ha).1; simpa using this
          rw [List.getElem?_range hjl] at ha
          cases ha
          exact idxK_at hk
        · unfold rfs1 at h1
          rw [hcode] at h1
          simp only at h1
          split at h1
          · rename_i he; rw [he] at hp; cases hp
          · rename_i q he
            rw [he] at hp
            obtain rfl : p = q := by simpa using hp
            exact hB _ (by unfold bodyOf; rw [hcode]; simp only [he])
          · cases h1
      · cases hc
    · cases hc

theorem compFn_ok (h : TabOk P tab) {wm : Bool} {kp : List Tmp} {f : FuncId} {na : Nat} {fn : Func} {c : FnC} (hf : P.funcs[f]? = some fn) (hname : (fn.name == "runtime.NumGoroutine") = false) (h1 : rfs1 fn = true) (hB : ∀ bd, bodyOf kp fn = some bd → Bt f = some bd)
    (hc : compFn tab wm kp f na fn = some c) : FnOk P Bt f c := by
  obtain ⟨code, a1, a2, a3, a4, a5, a6⟩ := compFn_parts h h1 hB hc
  exact ⟨fn, code, kp, hf, hname, a1, a2, a3, a4, a5, a6⟩
theorem compBd_ok (h : TabOk P tab) {kp : List Tmp} {f : FuncId} {fn : Func} {c : BdC} (hn : nodupN kp = true) (hB : ∀ bd, bodyOf kp fn = some bd → Bt f = some bd) (hc : compBd tab kp f fn = some c) : BdOk P Bt f c := by
  unfold compBd at hc
  split at hc
  · cases hc
  · rename_i code hcode
    split at hc
    · rename_i ps as b hrf
      split at hc
      · rename_i hchk
        rw [Bool.and_eq_true] at hchk
        split at hc
        · rename_i a' b' ha hb
          cases hc
          have hBt := hB ⟨fn.ntmps, kp, ps, as, b⟩ (by unfold bodyOf; rw [hcode]; simp only [hrf])
          have no : ∀ {cd : Code} {c : CC}, compCode tab fn.ntmps kp f true cd = some c → ∀ p ∈ rfs cd, False := by
            intro cd
            induction cd with
            | seq a b iha ihb =>
              intro c hc p hp
              simp only [compCode] at hc
              split at hc
              · rename_i h1 h2
                rcases List.mem_append.1 hp with hp | hp
                · exact iha h1 p hp
                · exact ihb h2 p hp
              · cases hc
            | cond x a b iha ihb =>
              intro c hc p hp
              simp only [compCode] at hc
              split at hc
              · rename_i h1 h2
                rcases List.mem_append.1 hp with hp | hp
                · exact iha h1 p hp
                · exact ihb h2 p hp
              · cases hc
            | block id b ih =>
              intro c hc p hp
              simp only [compCode] at hc
              split at hc
              · rename_i h1; exact ih h1 p hp
              · cases hc
            | loop b ih =>
              intro c hc p hp
              simp only [compCode] at hc
              split at hc
              · rename_i h1; exact ih h1 p hp
              · cases hc
            | rangeFunc g ps as b _ _ => intro c hc p hp; simp [compCode] at hc
            | scope b ih => intro c hc p hp; simp [compCode] at hc
            | _ => intro c hc p hp; cases hp
          refine ⟨⟨fn.ntmps, kp, ps, as, b⟩, hBt, rfl, by simp, fun j t hj => ?_, fun j t r hj hr => ?_, fun j j' t h1 h2 => ?_, compCode_ok h hn as a' ha fun p hp => (no ha p hp).elim, compCode_ok h hn b b' hb fun p hp => (no hb p hp).elim⟩
          · have := List.all_eq_true.1 hchk.2 t (by simpa using Array.mem_of_getElem? hj)
            simpa using this
          · rw [List.getElem?_map, Option.map_eq_some_iff] at hr
            obtain ⟨t', ht', rfl⟩ := hr
            have e : ps[j]? = some t' := by simpa using ht'
            have hj' : ps[j]? = some t := hj
            rw [hj'] at e
            cases e
            exact kpS_of hn (some t)
          · exact nodupN_inj hchk.1 (p := j) (q := j') (t := t) (by simpa using h1) (by simpa using h2)
        · cases hc
      · cases hc
    · cases hc
end
end Go.Mach
