/-
  The law quadraturelaw26.ZeilWz returns true for every input; no condition.
-/
import Derived.Test.YtfiijelajgifiaaGreatSX
import Derived.Test.YtfiijelajgifiaaGreatS01
import Derived.Test.YtfiijelajgifiaaGreatS02
import Derived.Test.YtfiijelajgifiaaGreatS03
import Derived.Test.YtfiijelajgifiaaGreatS04
import Derived.Test.YtfiijelajgifiaaGreatS05
import Derived.Test.YtfiijelajgifiaaGreatS06
import Derived.Test.YtfiijelajgifiaaGreatS07
import Derived.Test.YtfiijelajgifiaaGreatS08
import Derived.Test.YtfiijelajgifiaaGreatS09
import Derived.Test.YtfiijelajgifiaaGreatS10
import Derived.Test.YtfiijelajgifiaaGreatS11
import Derived.Test.YtfiijelajgifiaaGreatS12
import Derived.Test.YtfiijelajgifiaaGreatS13
import Derived.Test.YtfiijelajgifiaaGreatS14
import Derived.Test.YtfiijelajgifiaaGreatS15
import Derived.Test.YtfiijelajgifiaaGreatS16
import Derived.Test.YtfiijelajgifiaaGreatS17
import Derived.Test.YtfiijelajgifiaaGreatS18
import Derived.Test.YtfiijelajgifiaaGreatS19
import Derived.Test.YtfiijelajgifiaaGreatS20
import Derived.WalkKit
import Derived.ProofKit
import Derived.OpenShut
import Derived.Lib.SmallJoins
namespace Go.Proofs.YtfiijelajgifiaaGreat.zeilWz
open Go Go.ChangeShapes Go.WideShapes Go.ChangeAt Go.RowKit Go.Mach Go.Flow Go.Joins Go.Deep
set_option linter.all false
set_option linter.unusedVariables false
theorem all : ∀ t, t < 10 → ∀ b, b < 4 → ∀ a, a < 4 → ∀ c, c < 3 → Syx t b a c := Pc (Pb gxx00 gxx01 gxx02 gxx03) (Pb gxx10 gxx11 gxx12 gxx13) (Pb gxx20 gxx21 gxx22 gxx23) (Pb gxx30 gxx31 gxx32 gxx33) (Pb gxx40 gxx41 gxx42 gxx43) (Pb gxx50 gxx51 gxx52 gxx53) (Pb gxx60 gxx61 gxx62 gxx63) (Pb gxx70 gxx71 gxx72 gxx73) (Pb gxx80 gxx81 gxx82 gxx83) (Pb gxx90 gxx91 gxx92 gxx93)
def env (x y z u : Nat) : Nat → Nat
  | 0 => x
  | 1 => y
  | 2 => z
  | 3 => u
  | _ => 0
theorem env_ok {x y z u : Nat} (hx : x ≤ 127) (hy : y ≤ 127) (hz : z ≤ 127) (hu : u ≤ 127) : Env (env x y z u) := fun i => by
  match i with
  | 0 => exact hx
  | 1 => exact hy
  | 2 => exact hz
  | 3 => exact hu
  | _ + 4 => exact Nat.zero_le _
theorem rc_sy {k : Cls} {F : Nat → Prop} {w : World} {l : Pl} {z : Int} (h : cO k.e l = z) : RC k F w (.sy .u8 l) (.int .u8 z) := by
  subst h
  exact RC.sy .u8 l
theorem walk (a0 a1 a2 a3 : Int) (w0 : (Lit.int .u8 a0).wf = true) (w1 : (Lit.int .u8 a1).wf = true) (w2 : (Lit.int .u8 a2).wf = true) (w3 : (Lit.int .u8 a3).wf = true) (w : World) :
    Calls Tryz.prog 6 #[.agg #[.int .u8 a0, .int .u8 a1, .int .u8 a2, .int .u8 a3]] w fun e w' => e = .returned (.bool true) ∧ Ext w w' := by
  simp only [Lit.wf, IntKind.min, IntKind.max, IntKind.signed, IntKind.bits, Bool.and_eq_true, decide_eq_true_eq] at w0 w1 w2 w3
  have h0 : 0 ≤ a0 ∧ a0 ≤ 255 := ⟨by simpa using w0.1, by simpa using w0.2⟩
  have h1 : 0 ≤ a1 ∧ a1 ≤ 255 := ⟨by simpa using w1.1, by simpa using w1.2⟩
  have h2 : 0 ≤ a2 ∧ a2 ≤ 255 := ⟨by simpa using w2.1, by simpa using w2.2⟩
  have h3 : 0 ≤ a3 ∧ a3 ≤ 255 := ⟨by simpa using w3.1, by simpa using w3.2⟩
  clear w0 w1 w2 w3
  obtain ⟨n0, rfl⟩ : ∃ n : Nat, a0 = n := ⟨a0.toNat, by omega⟩
  obtain ⟨n1, rfl⟩ : ∃ n : Nat, a1 = n := ⟨a1.toNat, by omega⟩
  obtain ⟨n2, rfl⟩ : ∃ n : Nat, a2 = n := ⟨a2.toNat, by omega⟩
  obtain ⟨n3, rfl⟩ : ∃ n : Nat, a3 = n := ⟨a3.toNat, by omega⟩
  have hr := all (n0 % 10) (by omega) (n1 % 4) (by omega) (n2 % 4) (by omega) (n3 % 3) (by omega)
  have he := env_ok (x := n0 / 10) (y := n1 / 4) (z := n2 / 4) (u := n3 / 3) (by omega) (by omega) (by omega) (by omega)
  refine (((aSH (k := ⟨1, 0, _, he⟩) (by kernel_rfl) aTs q6.2 1000 100).2 _ _ (aDW aSI hr) (fun _ => False) w [.agg #[.int .u8 n0, .int .u8 n1, .int .u8 n2, .int .u8 n3]] (fun _ h => h.elim) rfl (fun j a hj => ?_)).mono ?_)
  · match j, hj with
    | 0, hj =>
      cases hj
      refine ⟨_, rfl, ⟨_, rfl, rfl, fun j d hj => ?_⟩⟩
      match j, hj with
      | 0, hj => cases hj; exact ⟨_, rfl, rc_sy (by simp [cO, kh, env, Int.pow_succ]; omega)⟩
      | 1, hj => cases hj; exact ⟨_, rfl, rc_sy (by simp [cO, kh, env, Int.pow_succ]; omega)⟩
      | 2, hj => cases hj; exact ⟨_, rfl, rc_sy (by simp [cO, kh, env, Int.pow_succ]; omega)⟩
      | 3, hj => cases hj; exact ⟨_, rfl, rc_sy (by simp [cO, kh, env, Int.pow_succ]; omega)⟩
      | j + 4, hj => simp [agxx, V1.t1] at hj
    | j + 1, hj => simp at hj
  · rintro e w' ⟨u, rfl, hx, hu⟩
    have hu' : RC _ (fun _ => False) w' (.v (.bool true)) u := hu
    cases hu'
    exact ⟨rfl, hx⟩
theorem post_nil {H : Type} {enc : TypeId × Value → H} {P : Program} {f : Func} {s : ChangeSpec} {apart fresh handsOn again : Bool} {W W' : World} {args : Array Value} {v : Value} {ds gs : List (DataW H)}
    (hW : DataW.Whole enc P f.params.toList s.vars apart W args.toList ds gs [])
    (hres : ∀ (b : Nat) (sp : Nat → Bool) (hd : Bool), DataW.TrodAll enc P W' b sp hd f.resultTypes.toList (v.resultList f.resultTypes.size) (s.fn H (ds ++ gs)).results [])
    (hargs : ∀ sp : Nat → Bool, DataW.TrodAll enc P W' 0 sp true f.params.toList args.toList (s.fn H (ds ++ gs)).args [])
    (hvars : ∀ sp : Nat → Bool, DataW.TrodVars enc P W' sp s.vars (s.fn H (ds ++ gs)).vars [])
    (hk : W.keptBut W' (fun _ => False))
    (hok : ∀ (j : Nat) (t : TypeId) (r : Value), f.resultTypes[j]? = some t → (v.resultList f.resultTypes.size)[j]? = some r → Value.okWide P W' .any 0 t r) :
    s.post enc P f apart fresh handsOn again W args v W' := by
  refine ⟨ds, gs, [], [], [], [], hW, hres _ _ _, hargs _, hvars _, World.keptBut_mono (fun _ h => h.elim) hk, fun _ => ?_⟩
  refine ⟨hok, _, _, ([] ++ []) ++ [], ⟨[] ++ [], [], trodAll_append (hargs _) (hres _ _ _), hvars _, rfl, ?_, ?_⟩, ?_⟩
  · intro b off hp
    simp at hp
  · intro ha
    simp
  · intro p hp _
    simp at hp
set_option maxRecDepth 100000 in
theorem lifted (os : Os) (started : os.Started) (H : Type) (enc : TypeId × Value → H) :
    ReturnsInHanded {} Tryz.checked os 6 .any (Rows.zeilWzSpec.pre6 enc Tryz.prog Tryz.f6 Rows.zeilWzRow.domain false) (Rows.zeilWzSpec.post enc Tryz.prog Tryz.f6 false true false false) := by
  refine returnsInHanded_of_change (C := Tryz.checked) own started (by kernel_rfl) Tryz.func6
    (ChangeSpec.witness6 (enc := enc) (C := Tryz.checked) false ⟨#[], #[.agg #[.int .u8 0, .int .u8 0, .int .u8 0, .int .u8 0]], []⟩ 8 (by kernel_rfl) (by kernel_rfl) (by kernel_rfl) (by kernel_rfl)) ?_
  intro W base args ds gs before hval0 hW hcnd _
  have hval : ∀ (j : Nat) t v, Tryz.f6.params[j]? = some t → args[j]? = some v → Value.okWide Tryz.prog W .any base t v := hval0
  have hW' := hW
  obtain ⟨p, q, hA0, hV, rfl, hfz, hnd⟩ := hW
  have hA : DataW.TrodAll enc Tryz.prog W 0 (fun _ => true) true Tryz.f6.params.toList args.toList ds p := hA0
  rw [Tryz.params6] at hA hval
  obtain ⟨v0, vs0, d0, ds0, p0, q0, hargs, rfl, rfl, h0, r0⟩ := trodAll_cons hA
  obtain ⟨rfl, rfl, rfl⟩ := trodAll_nil r0
  obtain rfl : args = #[v0] := by cases args; simp_all
  obtain ⟨rfl, rfl⟩ := trodVars_none hV
  obtain ⟨c0, c1, c2, c3, y0, y1, y2, y3, n, rfl, rfl, rfl, k0, k1, k2, k3⟩ := open_agg4 Tryz.underlying23 (by kernel_rfl) (by kernel_rfl) (hval 0 23 v0 rfl rfl) h0
  obtain ⟨a0, e0, rfl, w0⟩ := DataW.trod_int Tryz.underlying5 k0
  obtain ⟨a1, e1, rfl, w1⟩ := DataW.trod_int Tryz.underlying5 k1
  obtain ⟨a2, e2, rfl, w2⟩ := DataW.trod_int Tryz.underlying5 k2
  obtain ⟨a3, e3, rfl, w3⟩ := DataW.trod_int Tryz.underlying5 k3
  cases e0
  cases e1
  cases e2
  cases e3
  clear hA0 hval0
  simp only [List.append_nil] at hW'
  refine (walk a0 a1 a2 a3 w0 w1 w2 w3 W).mono fun e W' ⟨he, hg⟩ => ?_
  subst he
  have sh : ∀ (sp : Nat → Bool), DataW.Trod enc Tryz.prog W' 0 sp true 23 (.agg #[.int .u8 a0, .int .u8 a1, .int .u8 a2, .int .u8 a3]) (.agg [.lit (.int .u8 a0), .lit (.int .u8 a1), .lit (.int .u8 a2), .lit (.int .u8 a3)]) [] := fun sp =>
    shut_agg4 (y0 := (.lit (.int .u8 a0), [])) (y1 := (.lit (.int .u8 a1), [])) (y2 := (.lit (.int .u8 a2), [])) (y3 := (.lit (.int .u8 a3), [])) Tryz.underlying23 (by kernel_rfl) (by kernel_rfl) (shut_int Tryz.underlying5 w0) (shut_int Tryz.underlying5 w1) (shut_int Tryz.underlying5 w2) (shut_int Tryz.underlying5 w3)
  exact ⟨_, rfl, post_nil hW' (fun _ _ _ => (trodAll_cons_mk (shut_bool Tryz.underlying4 _) trodAll_mk0)) (fun sp => (trodAll_cons_mk (sh sp) trodAll_mk0)) (fun _ => rfl)
    (hg.below.frame _) (ok_one (by kernel_rfl) rfl (okWide_bool_mk Tryz.underlying4 _))⟩
theorem over : Rows.zeilWzRow.holds Tryz.pinned (OpenSpec.ofChange Rows.zeilWzSpec) :=
  OpenClaim.holds_of_wide 6 Tryz.f6 rfl rfl rfl rfl rfl rfl rfl ⟨rfl, rfl, rfl, rfl, rfl⟩ rfl rfl rfl rfl rfl over1 Tryz.func6 over2 over3 over4
    (fun os started H enc _ => lifted os started H enc)
/-- The statement. -/
theorem proved : Rows.ZeilWzSaid := over
#print axioms proved
end Go.Proofs.YtfiijelajgifiaaGreat.zeilWz
