/- span.Or, And, Less, Not in the print's shape. -/
import Derived.Test.YtippkbgeeeimjaaPCan
namespace Go.Proofs.Ytippkbgeeeimjaa.L
open Go.RowKit Go.Proofs.YtippkbgeeeimjaaW.PrintWords Go.Proofs.YtippkbgeeeimjaaW.PrintLast Go.Proofs.YtippkbgeeeimjaaW.PrintMore Go.Proofs.Ytippkbgeeeimjaa.A Go.Proofs.Ytippkbgeeeimjaa.P
set_option linter.unusedVariables false
set_option linter.unusedSimpArgs false
theorem sweep_made (rb : Bool → Bool → Bool) (gf : Nat) (eg : ∀ args w, (callFunc gf args).run Try.prog w = .ok (.enter gf args) w) (hr : ∀ x y W, Calls Try.prog gf #[.bool x, .bool y] W fun e w' => e = .returned (.bool (rb x y)) ∧ w' = W)
    (A0 : Option Addr) (c0 : Nat) (l0 : List S34) (A1 : Option Addr) (c1 : Nat) (l1 : List S34) (w : World) (hr0 : Kd.C k34 w A0 l0.length l0) (hc0 : l0.length ≤ c0) (hr1 : Kd.C k34 w A1 l1.length l1) (hc1 : l1.length ≤ c1) :
    Calls Try.prog 42 #[.slice A0 l0.length c0, .slice A1 l1.length c1, .func (.func gf) #[] #[]] w fun e w' => ∃ v, e = .returned v ∧ Kd.R k34 34 w' w.heap.size (fun _ => True) v (canonF fun c => rb (hasB l0 c) (hasB l1 c)) ∧ Below w.heap.size w w' := by
  obtain ⟨K0, h0⟩ := steps_ev l0 0
  obtain ⟨K1, h1⟩ := steps_ev l1 1
  have z0 := steps_ok l0 (Or.inl rfl)
  have z1 := steps_ok l1 (Or.inr rfl)
  refine (sweep_calls rb gf eg hr A0 c0 l0 A1 c1 l1 w hr0 hc0 hr1 hc1 (max K0 K1) (stepsF l0 0) (stepsF l1 1) _ rfl (h0 _ (by omega)) (h1 _ (by omega)) (fun s hs => (List.mem_append.1 hs).elim (z0.1 s) (z1.1 s)) (by rw [List.length_append]; omega)).mono ?_
  rintro e w' ⟨v, ys, rfl, hp, hri, hR, hb⟩
  rw [sweep_spec rb l0 l1 hp hri] at hR
  exact ⟨v, rfl, hR, hb⟩
theorem eg43 : ∀ args w, (callFunc 43 args).run Try.prog w = .ok (.enter 43 args) w := enters_of Try.func43 (by kernel_rfl) rfl
theorem eg45 : ∀ args w, (callFunc 45 args).run Try.prog w = .ok (.enter 45 args) w := enters_of Try.func45 (by kernel_rfl) rfl
theorem eg46 : ∀ args w, (callFunc 46 args).run Try.prog w = .ok (.enter 46 args) w := enters_of Try.func46 (by kernel_rfl) rfl
theorem eg47 : ∀ args w, (callFunc 47 args).run Try.prog w = .ok (.enter 47 args) w := enters_of Try.func47 (by kernel_rfl) rfl
def orF (l0 l1 : List S34) : List S34 := canonF fun c => hasB l0 c || hasB l1 c
def andF (l0 l1 : List S34) : List S34 := canonF fun c => hasB l0 c && hasB l1 c
def lessF (l0 l1 : List S34) : List S34 := canonF fun c => hasB l0 c && !hasB l1 c
def notF (l0 : List S34) : List S34 := canonF fun c => !hasB l0 c
def span_Or.f (l0 l1 : List S34) : Option (List S34) := some (orF l0 l1)
def span_And.f (l0 l1 : List S34) : Option (List S34) := some (andF l0 l1)
def span_Less.f (l0 l1 : List S34) : Option (List S34) := some (lessF l0 l1)
def span_Not.f (l0 : List S34) : Option (List S34) := some (notF l0)
theorem span_Or.calls (A0 : Option Addr) (c0 : Nat) (l0 : List S34) (A1 : Option Addr) (c1 : Nat) (l1 : List S34) (r : List S34) (w : World) (hr0 : Kd.C k34 w A0 l0.length l0) (hc0 : l0.length ≤ c0) (hr1 : Kd.C k34 w A1 l1.length l1) (hc1 : l1.length ≤ c1) (h : span_Or.f l0 l1 = some r) :
    Calls Try.prog 14 #[.slice A0 l0.length c0, .slice A1 l1.length c1] w fun e w' => ∃ v0_ : Value, e = .returned v0_ ∧ Kd.R k34 34 w' w.heap.size (fun _ => True) v0_ r ∧ Below w.heap.size w w' := by
  obtain rfl : orF l0 l1 = r := Option.some.inj h
  clear h
  have hs := sweep_made (fun x y => x || y) 43 eg43 rule_or A0 c0 l0 A1 c1 l1 w hr0 hc0 hr1 hc1
  change Calls Try.prog 42 _ w (fun e w' => ∃ v, e = .returned v ∧ Kd.R k34 34 w' w.heap.size (fun _ => True) v (orF l0 l1) ∧ Below w.heap.size w w') at hs
  generalize orF l0 l1 = r at hs ⊢
  have HS := Aside0.mk hs
  clear hs hr0 hc0 hr1 hc1
  go_enter Try.func14, Try.ntmps14
  go_wp2_with fail
  refine HS.out.mono ?_
  rintro e w' ⟨v, rfl, hR, hb⟩
  obtain ⟨A, c, rfl⟩ := Kd.R_slice hR
  have HR := Aside0.mk hR
  have HB := Aside0.mk hb
  clear hR hb
  go_wp2_with fail
  go_ret
  exact ⟨_, rfl, HR.out, HB.out⟩
theorem span_And.calls (A0 : Option Addr) (c0 : Nat) (l0 : List S34) (A1 : Option Addr) (c1 : Nat) (l1 : List S34) (r : List S34) (w : World) (hr0 : Kd.C k34 w A0 l0.length l0) (hc0 : l0.length ≤ c0) (hr1 : Kd.C k34 w A1 l1.length l1) (hc1 : l1.length ≤ c1) (h : span_And.f l0 l1 = some r) :
    Calls Try.prog 16 #[.slice A0 l0.length c0, .slice A1 l1.length c1] w fun e w' => ∃ v0_ : Value, e = .returned v0_ ∧ Kd.R k34 34 w' w.heap.size (fun _ => True) v0_ r ∧ Below w.heap.size w w' := by
  obtain rfl : andF l0 l1 = r := Option.some.inj h
  clear h
  have hs := sweep_made (fun x y => x && y) 45 eg45 rule_and A0 c0 l0 A1 c1 l1 w hr0 hc0 hr1 hc1
  change Calls Try.prog 42 _ w (fun e w' => ∃ v, e = .returned v ∧ Kd.R k34 34 w' w.heap.size (fun _ => True) v (andF l0 l1) ∧ Below w.heap.size w w') at hs
  generalize andF l0 l1 = r at hs ⊢
  have HS := Aside0.mk hs
  clear hs hr0 hc0 hr1 hc1
  go_enter Try.func16, Try.ntmps16
  go_wp2_with fail
  refine HS.out.mono ?_
  rintro e w' ⟨v, rfl, hR, hb⟩
  obtain ⟨A, c, rfl⟩ := Kd.R_slice hR
  have HR := Aside0.mk hR
  have HB := Aside0.mk hb
  clear hR hb
  go_wp2_with fail
  go_ret
  exact ⟨_, rfl, HR.out, HB.out⟩
theorem span_Less.calls (A0 : Option Addr) (c0 : Nat) (l0 : List S34) (A1 : Option Addr) (c1 : Nat) (l1 : List S34) (r : List S34) (w : World) (hr0 : Kd.C k34 w A0 l0.length l0) (hc0 : l0.length ≤ c0) (hr1 : Kd.C k34 w A1 l1.length l1) (hc1 : l1.length ≤ c1) (h : span_Less.f l0 l1 = some r) :
    Calls Try.prog 18 #[.slice A0 l0.length c0, .slice A1 l1.length c1] w fun e w' => ∃ v0_ : Value, e = .returned v0_ ∧ Kd.R k34 34 w' w.heap.size (fun _ => True) v0_ r ∧ Below w.heap.size w w' := by
  obtain rfl : lessF l0 l1 = r := Option.some.inj h
  clear h
  have hs := sweep_made (fun x y => x && !y) 46 eg46 rule_less A0 c0 l0 A1 c1 l1 w hr0 hc0 hr1 hc1
  change Calls Try.prog 42 _ w (fun e w' => ∃ v, e = .returned v ∧ Kd.R k34 34 w' w.heap.size (fun _ => True) v (lessF l0 l1) ∧ Below w.heap.size w w') at hs
  generalize lessF l0 l1 = r at hs ⊢
  have HS := Aside0.mk hs
  clear hs hr0 hc0 hr1 hc1
  go_enter Try.func18, Try.ntmps18
  go_wp2_with fail
  refine HS.out.mono ?_
  rintro e w' ⟨v, rfl, hR, hb⟩
  obtain ⟨A, c, rfl⟩ := Kd.R_slice hR
  have HR := Aside0.mk hR
  have HB := Aside0.mk hb
  clear hR hb
  go_wp2_with fail
  go_ret
  exact ⟨_, rfl, HR.out, HB.out⟩
theorem span_Not.calls (A0 : Option Addr) (c0 : Nat) (l0 : List S34) (r : List S34) (w : World) (hr0 : Kd.C k34 w A0 l0.length l0) (hc0 : l0.length ≤ c0) (h : span_Not.f l0 = some r) :
    Calls Try.prog 20 #[.slice A0 l0.length c0] w fun e w' => ∃ v0_ : Value, e = .returned v0_ ∧ Kd.R k34 34 w' w.heap.size (fun _ => True) v0_ r ∧ Below w.heap.size w w' := by
  obtain rfl : notF l0 = r := Option.some.inj h
  clear h
  have hs := sweep_made (fun x _ => !x) 47 eg47 rule_not A0 c0 l0 none 0 [] w hr0 hc0 (Kd.C_nil _ _) (Nat.le_refl _)
  change Calls Try.prog 42 #[.slice A0 l0.length c0, .slice none 0 0, .func (.func 47) #[] #[]] w (fun e w' => ∃ v, e = .returned v ∧ Kd.R k34 34 w' w.heap.size (fun _ => True) v (notF l0) ∧ Below w.heap.size w w') at hs
  generalize notF l0 = r at hs ⊢
  have HS := Aside0.mk hs
  clear hs hr0 hc0
  go_enter Try.func20, Try.ntmps20
  go_wp2_with fail
  refine HS.out.mono ?_
  rintro e w' ⟨v, rfl, hR, hb⟩
  obtain ⟨A, c, rfl⟩ := Kd.R_slice hR
  have HR := Aside0.mk hR
  have HB := Aside0.mk hb
  clear hR hb
  go_wp2_with fail
  go_ret
  exact ⟨_, rfl, HR.out, HB.out⟩
end Go.Proofs.Ytippkbgeeeimjaa.L
