/-
  The law quadraturelaw24.GosperRefuses returns true for every input; no condition.
-/
import Derived.Test.YtcejidongpkpoaaGreatRows
import Derived.Test.YtcejidongpkpoaaGreatB1
import Derived.Test.YtcejidongpkpoaaGreatB2
import Derived.Test.YtcejidongpkpoaaGreatB3
import Derived.Test.YtcejidongpkpoaaGreatB4
import Derived.Test.YtcejidongpkpoaaGreatB5
import Derived.WalkKit
import Derived.ProofKit
import Derived.OpenShut
namespace Go.Proofs.YtcejidongpkpoaaGreat.gosperRefuses
open Go Go.ChangeShapes Go.WideShapes Go.ChangeAt Go.RowKit Go.Mach Go.Flow
set_option linter.unusedVariables false      -- a walk need not use every 'w<i>' (that an integer argument fits its kind)

theorem own : ownKnob Tryz.prog.godebug = none := by kernel_rfl

/-! ### The groups. -/
def env (x y : Nat) : Nat → Nat
  | 0 => x
  | 1 => y
  | _ => 0
theorem env_ok {x y : Nat} (hx : x ≤ 127) (hy : y ≤ 127) : Env (env x y) := fun i => by
  match i with
  | 0 => exact hx
  | 1 => exact hy
  | _ + 2 => exact Nat.zero_le _
theorem root_con {k : Cls} : Con Tryz.prog k 3 (bM (callN tM.tb 1000 100) 1000 c3) := run_con (by kernel_rfl) tM_ok c3_ok 1000 100
theorem rv_v {k : Cls} {F : Nat → Prop} {w : World} (z : Int) : RV k F w (.one (.v (.int .i8 z))) (.int .i8 z) := RC.v _ rfl
theorem rv_sy {k : Cls} {F : Nat → Prop} {w : World} {l : Pl} {z : Int} (h : lev k.e l = z) : RV k F w (.one (.sy .i8 l)) (.int .i8 z) := by
  subst h
  exact RC.sy .i8 l
theorem from_run {k : Cls} {A B : V1} {a0 a1 : Int} (hr : runYes tM 1000 100 c3 [A, B] = some (yes, [], [], [])) (hA : ∀ F w, RV k F w A (.int .i8 a0)) (hB : ∀ F w, RV k F w B (.int .i8 a1)) (w : World) :
    Calls Tryz.prog 3 #[.int .i8 a0, .int .i8 a1] w fun e w' => e = .returned (.bool true) ∧ Ext w w' := by
  refine ((root_con (k := k)).2 _ _ (bM_yes hr) (fun _ => False) w [.int .i8 a0, .int .i8 a1] (fun _ h => h.elim) rfl (fun j a hj => ?_)).mono ?_
  · match j, hj with
    | 0, hj => cases hj; exact ⟨_, rfl, hA _ _⟩
    | 1, hj => cases hj; exact ⟨_, rfl, hB _ _⟩
    | j + 2, hj => simp at hj
  · rintro e w' ⟨u, rfl, hx, hu⟩
    have hu' : RC k (fun _ => False) w' (.v (.bool true)) u := hu
    cases hu'
    exact ⟨rfl, hx⟩
theorem walk (a0 : Int) (a1 : Int) (w0 : (Lit.int .i8 a0).wf = true) (w1 : (Lit.int .i8 a1).wf = true) (w : World) :
    Calls Tryz.prog 3 #[.int .i8 a0, .int .i8 a1] w fun e w' => e = .returned (.bool true) ∧ Ext w w' := by
  simp only [Lit.wf, IntKind.min, IntKind.max, IntKind.signed, IntKind.bits, Bool.and_eq_true, decide_eq_true_eq, if_true] at w0 w1
  have hs : 1 ≤ a0 ∨ a0 = 0 ∨ a0 = -1 ∨ a0 ≤ -2 := by omega
  have hc : 2 ≤ a1 ∨ a1 = 1 ∨ a1 = 0 ∨ a1 = -1 ∨ a1 ≤ -2 := by omega
  have go : ∀ (x y : Nat), x ≤ 127 → y ≤ 127 → ∀ (A B : V1), runYes tM 1000 100 c3 [A, B] = some (yes, [], [], []) → (∀ (k : Cls), k.e = env x y → ∀ F w, RV k F w A (.int .i8 a0)) → (∀ (k : Cls), k.e = env x y → ∀ F w, RV k F w B (.int .i8 a1)) → Calls Tryz.prog 3 #[.int .i8 a0, .int .i8 a1] w fun e w' => e = .returned (.bool true) ∧ Ext w w' :=
    fun x y hx hy A B hr hA hB => from_run (k := ⟨1, 0, env x y, env_ok hx hy⟩) hr (hA _ rfl) (hB _ rfl) w
  have lx : ∀ (k : Cls) (x y : Nat) (b d : Int), k.e = env x y → lev k.e [([1], d), ([], b)] = d * x + b := fun k x y b d h => by rw [h]; simp [lev, mev, env, Int.pow_succ]
  have ly : ∀ (k : Cls) (x y : Nat) (b d : Int), k.e = env x y → lev k.e [([0, 1], d), ([], b)] = d * y + b := fun k x y b d h => by rw [h]; simp [lev, mev, env, Int.pow_succ]
  rcases hs with hs | hs | hs | hs <;> rcases hc with hc | hc | hc | hc | hc
  · exact go (a0 - 1).toNat (a1 - 2).toNat (by omega) (by omega) _ _ g0_0 (fun k hk F w => rv_sy (by rw [lx k _ _ _ _ hk]; show (1 : Int) * (((a0 - 1).toNat : Nat) : Int) + (1) = a0; omega)) (fun k hk F w => rv_sy (by rw [ly k _ _ _ _ hk]; show (1 : Int) * (((a1 - 2).toNat : Nat) : Int) + (2) = a1; omega))
  · exact go (a0 - 1).toNat 0 (by omega) (by omega) _ _ g0_1 (fun k hk F w => rv_sy (by rw [lx k _ _ _ _ hk]; show (1 : Int) * (((a0 - 1).toNat : Nat) : Int) + (1) = a0; omega)) (fun k _ F w => by subst hc; exact rv_v _)
  · exact go (a0 - 1).toNat 0 (by omega) (by omega) _ _ g0_2 (fun k hk F w => rv_sy (by rw [lx k _ _ _ _ hk]; show (1 : Int) * (((a0 - 1).toNat : Nat) : Int) + (1) = a0; omega)) (fun k _ F w => by subst hc; exact rv_v _)
  · exact go (a0 - 1).toNat 0 (by omega) (by omega) _ _ g0_3 (fun k hk F w => rv_sy (by rw [lx k _ _ _ _ hk]; show (1 : Int) * (((a0 - 1).toNat : Nat) : Int) + (1) = a0; omega)) (fun k _ F w => by subst hc; exact rv_v _)
  · exact go (a0 - 1).toNat (-2 - a1).toNat (by omega) (by omega) _ _ g0_4 (fun k hk F w => rv_sy (by rw [lx k _ _ _ _ hk]; show (1 : Int) * (((a0 - 1).toNat : Nat) : Int) + (1) = a0; omega)) (fun k hk F w => rv_sy (by rw [ly k _ _ _ _ hk]; show (-1 : Int) * (((-2 - a1).toNat : Nat) : Int) + (-2) = a1; omega))
  · exact go 0 (a1 - 2).toNat (by omega) (by omega) _ _ g1_0 (fun k _ F w => by subst hs; exact rv_v _) (fun k hk F w => rv_sy (by rw [ly k _ _ _ _ hk]; show (1 : Int) * (((a1 - 2).toNat : Nat) : Int) + (2) = a1; omega))
  · exact go 0 0 (by omega) (by omega) _ _ g1_1 (fun k _ F w => by subst hs; exact rv_v _) (fun k _ F w => by subst hc; exact rv_v _)
  · exact go 0 0 (by omega) (by omega) _ _ g1_2 (fun k _ F w => by subst hs; exact rv_v _) (fun k _ F w => by subst hc; exact rv_v _)
  · exact go 0 0 (by omega) (by omega) _ _ g1_3 (fun k _ F w => by subst hs; exact rv_v _) (fun k _ F w => by subst hc; exact rv_v _)
  · exact go 0 (-2 - a1).toNat (by omega) (by omega) _ _ g1_4 (fun k _ F w => by subst hs; exact rv_v _) (fun k hk F w => rv_sy (by rw [ly k _ _ _ _ hk]; show (-1 : Int) * (((-2 - a1).toNat : Nat) : Int) + (-2) = a1; omega))
  · exact go 0 (a1 - 2).toNat (by omega) (by omega) _ _ g2_0 (fun k _ F w => by subst hs; exact rv_v _) (fun k hk F w => rv_sy (by rw [ly k _ _ _ _ hk]; show (1 : Int) * (((a1 - 2).toNat : Nat) : Int) + (2) = a1; omega))
  · exact go 0 0 (by omega) (by omega) _ _ g2_1 (fun k _ F w => by subst hs; exact rv_v _) (fun k _ F w => by subst hc; exact rv_v _)
  · exact go 0 0 (by omega) (by omega) _ _ g2_2 (fun k _ F w => by subst hs; exact rv_v _) (fun k _ F w => by subst hc; exact rv_v _)
  · exact go 0 0 (by omega) (by omega) _ _ g2_3 (fun k _ F w => by subst hs; exact rv_v _) (fun k _ F w => by subst hc; exact rv_v _)
  · exact go 0 (-2 - a1).toNat (by omega) (by omega) _ _ g2_4 (fun k _ F w => by subst hs; exact rv_v _) (fun k hk F w => rv_sy (by rw [ly k _ _ _ _ hk]; show (-1 : Int) * (((-2 - a1).toNat : Nat) : Int) + (-2) = a1; omega))
  · exact go (-2 - a0).toNat (a1 - 2).toNat (by omega) (by omega) _ _ g3_0 (fun k hk F w => rv_sy (by rw [lx k _ _ _ _ hk]; show (-1 : Int) * (((-2 - a0).toNat : Nat) : Int) + (-2) = a0; omega)) (fun k hk F w => rv_sy (by rw [ly k _ _ _ _ hk]; show (1 : Int) * (((a1 - 2).toNat : Nat) : Int) + (2) = a1; omega))
  · exact go (-2 - a0).toNat 0 (by omega) (by omega) _ _ g3_1 (fun k hk F w => rv_sy (by rw [lx k _ _ _ _ hk]; show (-1 : Int) * (((-2 - a0).toNat : Nat) : Int) + (-2) = a0; omega)) (fun k _ F w => by subst hc; exact rv_v _)
  · exact go (-2 - a0).toNat 0 (by omega) (by omega) _ _ g3_2 (fun k hk F w => rv_sy (by rw [lx k _ _ _ _ hk]; show (-1 : Int) * (((-2 - a0).toNat : Nat) : Int) + (-2) = a0; omega)) (fun k _ F w => by subst hc; exact rv_v _)
  · exact go (-2 - a0).toNat 0 (by omega) (by omega) _ _ g3_3 (fun k hk F w => rv_sy (by rw [lx k _ _ _ _ hk]; show (-1 : Int) * (((-2 - a0).toNat : Nat) : Int) + (-2) = a0; omega)) (fun k _ F w => by subst hc; exact rv_v _)
  · exact go (-2 - a0).toNat (-2 - a1).toNat (by omega) (by omega) _ _ g3_4 (fun k hk F w => rv_sy (by rw [lx k _ _ _ _ hk]; show (-1 : Int) * (((-2 - a0).toNat : Nat) : Int) + (-2) = a0; omega)) (fun k hk F w => rv_sy (by rw [ly k _ _ _ _ hk]; show (-1 : Int) * (((-2 - a1).toNat : Nat) : Int) + (-2) = a1; omega))

/-- Nothing is read in memory: what an argument reads stays. -/
theorem post_nil {H : Type} {enc : TypeId × Value → H} {P : Program} {f : Func} {s : ChangeSpec} {apart fresh handsOn again : Bool} {W W' : World} {args : Array Value} {v : Value} {ds gs : List (DataW H)}
    (hW : DataW.Whole enc P f.params.toList s.vars apart W args.toList ds gs [])
    (hres : ∀ (b : Nat) (sp : Nat → Bool) (hd : Bool), DataW.TrodAll enc P W' b sp hd f.resultTypes.toList (v.resultList f.resultTypes.size) (s.fn H (ds ++ gs)).results [])
    (hargs : ∀ sp : Nat → Bool, DataW.TrodAll enc P W' 0 sp true f.params.toList args.toList (s.fn H (ds ++ gs)).args [])
    (hvars : ∀ sp : Nat → Bool, DataW.TrodVars enc P W' sp s.vars (s.fn H (ds ++ gs)).vars [])
    (hk : W.keptBut W' (fun _ => False))
    (hok : ∀ (j : Nat) (t : TypeId) (r : Value), f.resultTypes[j]? = some t → (v.resultList f.resultTypes.size)[j]? = some r → Value.okWide P W' .any 0 t r) :
    s.post enc P f apart fresh handsOn again W args v W' := by
  refine ⟨ds, gs, [], [], [], [], hW, hres _ _ _, hargs _, hvars _, World.keptBut_mono (fun _ h => h.elim) hk, fun _ => ?_⟩
  refine ⟨hok, _, _, ([] ++ []) ++ [], ⟨[] ++ [], [], trodAll_append (hargs _) (hres _ _ _), hvars _, rfl, ?_, ?_⟩, ?_⟩
  · intro b off hp
    simp at hp
  · intro ha
    simp
  · intro p hp _
    simp at hp

/-! ### THE ROW's STEP: WRITTEN OUT: LEAVE IT -/
set_option maxRecDepth 100000 in
theorem lifted (os : Os) (started : os.Started) (H : Type) (enc : TypeId × Value → H) :
    ReturnsInHanded {} Tryz.checked os 3 .any (Rows.gosperRefusesSpec.pre6 enc Tryz.prog Tryz.f3 Rows.gosperRefusesRow.domain false) (Rows.gosperRefusesSpec.post enc Tryz.prog Tryz.f3 false true false false) := by
  refine returnsInHanded_of_change (C := Tryz.checked) own started (by kernel_rfl) Tryz.func3
    (ChangeSpec.witness6 (enc := enc) (C := Tryz.checked) false ⟨#[], #[.int .i8 0, .int .i8 0], []⟩ 8 (by kernel_rfl) (by kernel_rfl) (by kernel_rfl) (by kernel_rfl)) ?_
  intro W base args ds gs before hval0 hW hcnd _
  have hval : ∀ (j : Nat) t v, Tryz.f3.params[j]? = some t → args[j]? = some v → Value.okWide Tryz.prog W .any base t v := hval0
  have hW' := hW
  obtain ⟨p, q, hA0, hV, rfl, hfz, hnd⟩ := hW
  have hA : DataW.TrodAll enc Tryz.prog W 0 (fun _ => true) true Tryz.f3.params.toList args.toList ds p := hA0
  rw [Tryz.params3] at hA hval
  obtain ⟨v0, vs0, d0, ds0, p0, q0, hargs, rfl, rfl, h0, r0⟩ := trodAll_cons hA
  obtain ⟨v1, vs1, d1, ds1, p1, q1, rfl, rfl, rfl, h1, r1⟩ := trodAll_cons r0
  obtain ⟨rfl, rfl, rfl⟩ := trodAll_nil r1
  obtain rfl : args = #[v0, v1] := by cases args; simp_all
  obtain ⟨rfl, rfl⟩ := trodVars_none hV
  obtain ⟨a0, rfl, rfl, rfl, w0⟩ := open_int Tryz.underlying22 (hval 0 22 v0 rfl rfl) h0
  obtain ⟨a1, rfl, rfl, rfl, w1⟩ := open_int Tryz.underlying22 (hval 1 22 v1 rfl rfl) h1
  clear hA0 hval0
  simp only [List.append_nil] at hW'
  refine (walk a0 a1 w0 w1 W).mono fun e W' ⟨he, hg⟩ => ?_
  subst he
  exact ⟨_, rfl, post_nil hW' (fun _ _ _ => (trodAll_cons_mk (shut_bool Tryz.underlying4 _) trodAll_mk0)) (fun sp => (trodAll_cons_mk (shut_int Tryz.underlying22 w0) (trodAll_cons_mk (shut_int Tryz.underlying22 w1) trodAll_mk0))) (fun _ => rfl)
    (hg.frame _) (ok_one (by kernel_rfl) rfl (okWide_bool_mk Tryz.underlying4 _))⟩

theorem over : Rows.gosperRefusesRow.holds Tryz.pinned (OpenSpec.ofChange Rows.gosperRefusesSpec) :=
  OpenClaim.holds_of_wide 3 Tryz.f3 rfl rfl rfl rfl rfl rfl rfl ⟨rfl, rfl, rfl, rfl, rfl⟩ rfl rfl rfl rfl rfl (by kernel_rfl) Tryz.func3 (by kernel_rfl)
    (of_decide_eq_true (by kernel_rfl)) (by unfold Func.isWrapper; first | (rw [if_pos (by decide +kernel)]; kernel_rfl) | (rw [if_neg (by decide +kernel)]; exact ⟨rfl, rfl⟩))
    (fun os started H enc _ => lifted os started H enc)

/-- ████ THE STATEMENT ████ -/
theorem proved : Rows.GosperRefusesSaid :=
  over
#print axioms proved
end Go.Proofs.YtcejidongpkpoaaGreat.gosperRefuses
