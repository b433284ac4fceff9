import Derived.Test.YtpedenbcfbflbaaPMarkMakesx0
import Derived.Shelf.Abstract
import Derived.Laws.EntriesVeiled
namespace Go.Proofs.Ytpedenbcfbflbaa.X
open Go.RowKit Go.Proofs.YtpedenbcfbflbaaW.PrintWords Go.Proofs.YtpedenbcfbflbaaW.PrintLast Go.Proofs.YtpedenbcfbflbaaW.PrintMore
set_option linter.unusedVariables false
set_option linter.unusedSimpArgs false

theorem at_row {α : Type} {d : Kd α} {t : Nat} {w : World} {A : Option Addr} {n : Nat} {xs : List (List α)} (h : Kd.C (Kd.slice t d) w A n xs) (i : Nat) (h1 : i < n) :
    ∃ ad A0 c0, A = some ad ∧ w.cell? (ad.add i) = some (.slice A0 (xs.getD i []).length c0) ∧ (xs.getD i []).length ≤ c0 ∧ d.C w A0 (xs.getD i []).length (xs.getD i []) := by
  obtain ⟨ad, c, e, _, hK, hc0⟩ := Kd.C_get h ([] : List α) (i : Int) (by omega) (by omega)
  have hc : ∀ (j : Nat) u, c[j]? = some u → w.cell? (ad.add (i * 1 + j)) = some u := hc0
  obtain ⟨A0, c0, rfl, l0, g0⟩ := hK
  exact ⟨ad, A0, c0, e, by have hq := hc 0 _ rfl; rwa [Nat.mul_one, Nat.add_zero] at hq, l0, g0⟩

/-- Right$1: an odd state. -/
theorem right1 (x n : Int) (g : Nat) (w : World) (hc : w.cell? ⟨g, 0, none⟩ = some (.int .i64 n)) :
    Calls Try.prog 60 #[.int .i64 x, .pointer (some ⟨g, 0, none⟩)] w fun e w' => e = .returned (.bool (decide (x < 0) || decide (n ≤ x))) ∧ Drawn0 w w' := by
  by_cases h : x < 0
  · have hb : decide (x < 0) = true := decide_eq_true h
    go_enter Try.func60, Try.ntmps60
    go_wp2
    repeat (go_quiet (fail); try go_wp2)
    go_ret
    exact ⟨by simp [h], by repeat (first | exact Drawn0.refl _ | apply Drawn0.step)⟩
  · have hb : decide (x < 0) = false := decide_eq_false h
    go_enter Try.func60, Try.ntmps60
    go_wp2
    repeat (go_quiet (fail); try go_wp2)
    go_ret
    exact ⟨by simp [h], by repeat (first | exact Drawn0.refl _ | apply Drawn0.step)⟩

/-- The first place that holds true; -1. -/
def firstT : List Bool → Int
  | [] => -1
  | true :: _ => 0
  | false :: r => if firstT r < 0 then -1 else firstT r + 1
theorem firstT_hit : ∀ (bs : List Bool) (i : Nat), bs[i]? = some true → (∀ j, j < i → bs[j]? = some false) → firstT bs = i
  | [], i, h, _ => by simp at h
  | b :: r, 0, h, _ => by simp at h; subst h; rfl
  | b :: r, i + 1, h, hj => by
    have h0 := hj 0 (by omega)
    simp at h0
    subst h0
    have := firstT_hit r i (by simpa using h) (fun j hji => by simpa using hj (j + 1) (by omega))
    simp only [firstT, this]
    rw [if_neg (by omega)]
    omega
theorem firstT_miss : ∀ (bs : List Bool), (∀ j, j < bs.length → bs[j]? = some false) → firstT bs = -1
  | [], _ => rfl
  | b :: r, hj => by
    have h0 := hj 0 (by simp)
    simp at h0
    subst h0
    have := firstT_miss r (fun j hji => by simpa using hj (j + 1) (by simpa using hji))
    simp [firstT, this]
theorem firstT_nonneg : ∀ (bs : List Bool), decide (0 ≤ firstT bs) = bs.any id
  | [] => rfl
  | true :: r => by simp [firstT]
  | false :: r => by
    have := firstT_nonneg r
    simp only [firstT, List.any_cons, id, Bool.false_or, ← this]
    split <;> simp <;> omega

/-- IndexFunc: what answers of each place (elements of one cell; the function draws alone). -/
theorem index68 (g : Nat) (lb : Array Value) (eg : ∀ args w, (callFunc g args).run Try.prog w = .ok (.enter g args) w)
    (A : Option Addr) (c : Nat) (vs : List Value) (bs : List Bool) (w : World) (hl : vs.length = bs.length) (hm : vs.length ≤ 9223372036854775807)
    (hr : ∀ (j : Nat) v, vs[j]? = some v → ∃ ad, A = some ad ∧ w.cell? (ad.add j) = some v)
    (hp : ∀ (j : Nat) v b, vs[j]? = some v → bs[j]? = some b → ∀ w', Drawn0 w w' → Calls Try.prog g (#[v] ++ lb) w' fun e w'' => e = .returned (.bool b) ∧ Drawn0 w' w'') :
    Calls Try.prog 68 #[.slice A vs.length c, .func (.func g) #[] lb] w fun e w' => e = .returned (.int .i64 (firstT bs)) ∧ Drawn0 w w' := by
  have HR := Aside0.mk hr
  have HP := Aside0.mk hp
  have HL := Aside0.mk hl
  clear hr hp hl
  go_enter Try.func68, Try.ntmps68
  go_wp2
  go_loopg [5, 8] vs.length (fun kq v5 v8 w' => ∃ i : Nat, i + kq = vs.length ∧ v8 = .int .i64 i ∧ Aside0 (∀ j, j < i → bs[j]? = some false) ∧ Drawn0 w w')
  case atStart => exact ⟨0, by omega, rfl, ⟨fun j hj => absurd hj (by omega)⟩, Drawn0.refl _⟩
  case round =>
    obtain ⟨i, hi, rfl, HA, HD⟩ := hrel
    have hD := HD
    obtain ⟨⟨m1, rfl⟩⟩ := HD
    by_cases hlt : i < vs.length
    · have hltz : (i : Int) < (vs.length : Int) := by omega
      obtain ⟨v, hv⟩ : ∃ v, vs[i]? = some v := ⟨_, List.getElem?_eq_getElem hlt⟩
      obtain ⟨b, hb⟩ : ∃ b, bs[i]? = some b := ⟨_, List.getElem?_eq_getElem (by have := HL.out; omega)⟩
      obtain ⟨ad, rfl, hcell⟩ := HR.out i v hv
      have hcall := HP.out i v b hv hb _ hD
      have HB := Aside0.mk hb
      clear hv hb
      cases b with
      | true =>
        go_wp2_with (go_at_fn g; refine hcall.mono ?_; rintro e w' ⟨rfl, ⟨q', rfl⟩⟩)
        go_ret
        exact ⟨congrArg (fun z => Ending.returned (Value.int .i64 z)) (firstT_hit bs i HB.out HA.out).symm, (Drawn0.refl w).step _⟩
      | false =>
        go_wp2_with (go_at_fn g; refine hcall.mono ?_; rintro e w' ⟨rfl, ⟨q', rfl⟩⟩)
        go_roundg (vs.length - (i + 1))
        case measure => omega
        case rel =>
          refine ⟨i + 1, by omega, by go_num, ⟨fun j hj => ?_⟩, (Drawn0.refl w).step _⟩
          by_cases e : j = i
          · subst e; exact HB.out
          · exact HA.out j (by omega)
    · have hltz : ¬ (i : Int) < (vs.length : Int) := by omega
      go_wp2
      go_ret
      exact ⟨congrArg (fun z => Ending.returned (Value.int .i64 z)) (firstT_miss bs (fun j hj => HA.out j (by have := HL.out; omega))).symm, hD⟩

theorem contains63 (g : Nat) (lb : Array Value) (eg : ∀ args w, (callFunc g args).run Try.prog w = .ok (.enter g args) w)
    (A : Option Addr) (c : Nat) (vs : List Value) (bs : List Bool) (w : World) (hl : vs.length = bs.length) (hm : vs.length ≤ 9223372036854775807)
    (hr : ∀ (j : Nat) v, vs[j]? = some v → ∃ ad, A = some ad ∧ w.cell? (ad.add j) = some v)
    (hp : ∀ (j : Nat) v b, vs[j]? = some v → bs[j]? = some b → ∀ w', Drawn0 w w' → Calls Try.prog g (#[v] ++ lb) w' fun e w'' => e = .returned (.bool b) ∧ Drawn0 w' w'') :
    Calls Try.prog 63 #[.slice A vs.length c, .func (.func g) #[] lb] w fun e w' => e = .returned (.bool (bs.any id)) ∧ Drawn0 w w' := by
  have hc := index68 g lb eg A c vs bs w hl hm hr hp
  rw [← firstT_nonneg bs]
  clear hr hp hl
  generalize firstT bs = r at *
  go_enter Try.func63, Try.ntmps63
  go_wp2_with (go_at_call 68; refine hc.mono ?_; rintro e w' ⟨rfl, ⟨q', rfl⟩⟩)
  go_ret
  exact ⟨rfl, (Drawn0.refl w).step _⟩
/-- IndexFunc: what answers of each place (elements of one cell; the function draws alone). -/
theorem index67 (g : Nat) (lb : Array Value) (eg : ∀ args w, (callFunc g args).run Try.prog w = .ok (.enter g args) w)
    (A : Option Addr) (c : Nat) (vs : List Value) (bs : List Bool) (w : World) (hl : vs.length = bs.length) (hm : vs.length ≤ 9223372036854775807)
    (hr : ∀ (j : Nat) v, vs[j]? = some v → ∃ ad, A = some ad ∧ w.cell? (ad.add j) = some v)
    (hp : ∀ (j : Nat) v b, vs[j]? = some v → bs[j]? = some b → ∀ w', Drawn0 w w' → Calls Try.prog g (#[v] ++ lb) w' fun e w'' => e = .returned (.bool b) ∧ Drawn0 w' w'') :
    Calls Try.prog 67 #[.slice A vs.length c, .func (.func g) #[] lb] w fun e w' => e = .returned (.int .i64 (firstT bs)) ∧ Drawn0 w w' := by
  have HR := Aside0.mk hr
  have HP := Aside0.mk hp
  have HL := Aside0.mk hl
  clear hr hp hl
  go_enter Try.func67, Try.ntmps67
  go_wp2
  go_loopg [5, 8] vs.length (fun kq v5 v8 w' => ∃ i : Nat, i + kq = vs.length ∧ v8 = .int .i64 i ∧ Aside0 (∀ j, j < i → bs[j]? = some false) ∧ Drawn0 w w')
  case atStart => exact ⟨0, by omega, rfl, ⟨fun j hj => absurd hj (by omega)⟩, Drawn0.refl _⟩
  case round =>
    obtain ⟨i, hi, rfl, HA, HD⟩ := hrel
    have hD := HD
    obtain ⟨⟨m1, rfl⟩⟩ := HD
    by_cases hlt : i < vs.length
    · have hltz : (i : Int) < (vs.length : Int) := by omega
      obtain ⟨v, hv⟩ : ∃ v, vs[i]? = some v := ⟨_, List.getElem?_eq_getElem hlt⟩
      obtain ⟨b, hb⟩ : ∃ b, bs[i]? = some b := ⟨_, List.getElem?_eq_getElem (by have := HL.out; omega)⟩
      obtain ⟨ad, rfl, hcell⟩ := HR.out i v hv
      have hcall := HP.out i v b hv hb _ hD
      have HB := Aside0.mk hb
      clear hv hb
      cases b with
      | true =>
        go_wp2_with (go_at_fn g; refine hcall.mono ?_; rintro e w' ⟨rfl, ⟨q', rfl⟩⟩)
        go_ret
        exact ⟨congrArg (fun z => Ending.returned (Value.int .i64 z)) (firstT_hit bs i HB.out HA.out).symm, (Drawn0.refl w).step _⟩
      | false =>
        go_wp2_with (go_at_fn g; refine hcall.mono ?_; rintro e w' ⟨rfl, ⟨q', rfl⟩⟩)
        go_roundg (vs.length - (i + 1))
        case measure => omega
        case rel =>
          refine ⟨i + 1, by omega, by go_num, ⟨fun j hj => ?_⟩, (Drawn0.refl w).step _⟩
          by_cases e : j = i
          · subst e; exact HB.out
          · exact HA.out j (by omega)
    · have hltz : ¬ (i : Int) < (vs.length : Int) := by omega
      go_wp2
      go_ret
      exact ⟨congrArg (fun z => Ending.returned (Value.int .i64 z)) (firstT_miss bs (fun j hj => HA.out j (by have := HL.out; omega))).symm, hD⟩

theorem contains61 (g : Nat) (lb : Array Value) (eg : ∀ args w, (callFunc g args).run Try.prog w = .ok (.enter g args) w)
    (A : Option Addr) (c : Nat) (vs : List Value) (bs : List Bool) (w : World) (hl : vs.length = bs.length) (hm : vs.length ≤ 9223372036854775807)
    (hr : ∀ (j : Nat) v, vs[j]? = some v → ∃ ad, A = some ad ∧ w.cell? (ad.add j) = some v)
    (hp : ∀ (j : Nat) v b, vs[j]? = some v → bs[j]? = some b → ∀ w', Drawn0 w w' → Calls Try.prog g (#[v] ++ lb) w' fun e w'' => e = .returned (.bool b) ∧ Drawn0 w' w'') :
    Calls Try.prog 61 #[.slice A vs.length c, .func (.func g) #[] lb] w fun e w' => e = .returned (.bool (bs.any id)) ∧ Drawn0 w w' := by
  have hc := index67 g lb eg A c vs bs w hl hm hr hp
  rw [← firstT_nonneg bs]
  clear hr hp hl
  generalize firstT bs = r at *
  go_enter Try.func61, Try.ntmps61
  go_wp2_with (go_at_call 67; refine hc.mono ?_; rintro e w' ⟨rfl, ⟨q', rfl⟩⟩)
  go_ret
  exact ⟨rfl, (Drawn0.refl w).step _⟩

/-- A row of whole numbers by its cells. -/
theorem cells_int {w : World} {A : Option Addr} {l : List Int} (hr : Kd.C (Kd.int .i64) w A l.length l) : ∀ (j : Nat) v, (nums .i64 l)[j]? = some v → ∃ ad, A = some ad ∧ w.cell? (ad.add j) = some v := by
  intro j v hv
  simp only [nums, List.getElem?_map, Option.map_eq_some_iff] at hv
  obtain ⟨x, hx, rfl⟩ := hv
  have hj := (List.getElem?_eq_some_iff.1 hx).1
  obtain ⟨ad, e, h⟩ := Kd.at_int hr (j : Int) (by omega) (by omega)
  refine ⟨ad, e, ?_⟩
  simpa [rd, List.getD_eq_getElem?_getD, hx] using h
theorem C_drewN {α : Type} {d : Kd α} {w : World} {A : Option Addr} {n : Nat} {xs : List α} (h : d.C w A n xs) (q : Nat) : d.C (w.drewN q) A n xs := Kd.C_below h (pw_below_drewN (Below.refl _ _) q)

theorem odd63 (A : Option Addr) (c : Nat) (l : List Int) (n : Int) (gn : Nat) (w : World) (hr : Kd.C (Kd.int .i64) w A l.length l) (hn : w.cell? ⟨gn, 0, none⟩ = some (.int .i64 n)) :
    Calls Try.prog 63 #[.slice A l.length c, .func (.func 60) #[] #[.pointer (some ⟨gn, 0, none⟩)]] w fun e w' => e = .returned (.bool (l.any fun x => decide (x < 0) || decide (n ≤ x))) ∧ Drawn0 w w' := by
  have hcon := contains63 60 #[.pointer (some ⟨gn, 0, none⟩)] (enters_of Try.func60 (by kernel_rfl) rfl) A c (nums .i64 l) (l.map fun x => decide (x < 0) || decide (n ≤ x)) w
    (by simp [nums]) (by rw [nums_length]; exact hr.2.1) (cells_int hr)
    (fun j v b hv hb w' hd => by
      simp only [nums, List.getElem?_map, Option.map_eq_some_iff] at hv hb
      obtain ⟨x, hx, rfl⟩ := hv
      obtain ⟨x', hx', rfl⟩ := hb
      obtain rfl : x = x' := by rw [hx] at hx'; exact Option.some.inj hx'
      obtain ⟨⟨q, rfl⟩⟩ := hd
      exact right1 x n gn _ hn)
  have e1 : (l.map fun x => decide (x < 0) || decide (n ≤ x)).any id = l.any fun x => decide (x < 0) || decide (n ≤ x) := by rw [List.any_map]; rfl
  rw [e1, nums_length] at hcon
  exact hcon

theorem quiet_of {P : Program} {f : FuncId} {args : Array Value} {w : World} {n : Nat} {v : Value} (h : Calls P f args (w.drewN n) fun e w' => e = .returned v ∧ Drawn0 (w.drewN n) w') :
    Calls P f args (w.drewN n) fun e w'' => e = .returned v ∧ ∃ m, w'' = w.drewN m :=
  Calls.quiet_of (h.mono fun _ _ ⟨he, hm⟩ => ⟨he, hm.out⟩)

/-- Right$2: a row that is none. -/
theorem right2 (A : Option Addr) (c : Nat) (l : List Int) (s n : Int) (gd gn go : Nat) (w : World) (hr : Kd.C (Kd.int .i64) w A l.length l)
    (hs : w.cell? ⟨gd, 0, none⟩ = some (.int .i64 s)) (hn : w.cell? ⟨gn, 0, none⟩ = some (.int .i64 n)) (ho : w.cell? ⟨go, 0, none⟩ = some (.func (.func 60) #[] #[.pointer (some ⟨gn, 0, none⟩)])) :
    Calls Try.prog 62 #[.slice A l.length c, .pointer (some ⟨gd, 0, none⟩), .pointer (some ⟨go, 0, none⟩)] w
      fun e w' => e = .returned (.bool (decide ((l.length : Int) ≠ s) || l.any fun x => decide (x < 0) || decide (n ≤ x))) ∧ Drawn0 w w' := by
  have hm : l.length ≤ 9223372036854775807 := hr.2.1
  have hcon := odd63 A c l n gn w hr hn
  generalize (l.any fun x => decide (x < 0) || decide (n ≤ x)) = r at *
  clear hr hn
  by_cases h : (l.length : Int) = s
  · have hb : ((l.length : Int) != s) = false := bne_eq_false_iff_eq.2 h
    have e0 : decide ((l.length : Int) ≠ s) = false := by simp [h]
    rw [e0, Bool.false_or]
    clear h e0
    go_enter Try.func62, Try.ntmps62
    go_wp2_with (go_at_call 63; refine hcon.mono ?_; rintro e w' ⟨rfl, ⟨q', rfl⟩⟩)
    go_ret
    exact ⟨rfl, by repeat (first | exact Drawn0.refl _ | apply Drawn0.step)⟩
  · have hb : ((l.length : Int) != s) = true := bne_iff_ne.2 h
    have e0 : decide ((l.length : Int) ≠ s) = true := by simp [h]
    rw [e0, Bool.true_or]
    clear h e0
    go_enter Try.func62, Try.ntmps62
    go_wp2
    repeat (go_quiet (fail); try go_wp2)
    go_ret
    exact ⟨rfl, by repeat (first | exact Drawn0.refl _ | apply Drawn0.step)⟩

/-- What det.Right answers. -/
def rightB (s : Int) (next : List (List Int)) (en : List Bool) : Bool :=
  !(decide (s < 1) || decide (400 < s) || decide (next.length = 0) || decide (3000 < next.length) || decide (en.length ≠ next.length)) &&
  !(next.any fun l => decide ((l.length : Int) ≠ s) || l.any fun x => decide (x < 0) || decide ((next.length : Int) ≤ x))


theorem odd61 (A : Option Addr) (c : Nat) (next : List (List Int)) (s n : Int) (gd gn go : Nat) (w : World) (hr : Kd.C (Kd.slice 3 (Kd.int .i64)) w A next.length next)
    (hs : w.cell? ⟨gd, 0, none⟩ = some (.int .i64 s)) (hn : w.cell? ⟨gn, 0, none⟩ = some (.int .i64 n)) (ho : w.cell? ⟨go, 0, none⟩ = some (.func (.func 60) #[] #[.pointer (some ⟨gn, 0, none⟩)])) :
    Calls Try.prog 61 #[.slice A next.length c, .func (.func 62) #[] #[.pointer (some ⟨gd, 0, none⟩), .pointer (some ⟨go, 0, none⟩)]] w
      fun e w' => e = .returned (.bool (next.any fun l => decide ((l.length : Int) ≠ s) || l.any fun x => decide (x < 0) || decide (n ≤ x))) ∧ Drawn0 w w' := by
  have hm := hr.2.1
  -- the rows' values
  have hx : ∃ vs : List Value, vs.length = next.length ∧ ∀ (j : Nat) v, vs[j]? = some v → ∃ ad A0 c0 l, A = some ad ∧ w.cell? (ad.add j) = some v ∧ next[j]? = some l ∧ v = .slice A0 l.length c0 ∧ Kd.C (Kd.int .i64) w A0 l.length l := by
    have hall : ∀ m, m ≤ next.length → ∃ vs : List Value, vs.length = m ∧ ∀ (j : Nat) v, vs[j]? = some v → ∃ ad A0 c0 l, A = some ad ∧ w.cell? (ad.add j) = some v ∧ next[j]? = some l ∧ v = .slice A0 l.length c0 ∧ Kd.C (Kd.int .i64) w A0 l.length l := by
      intro m
      induction m with
      | zero => exact fun _ => ⟨[], rfl, fun j v h => by simp at h⟩
      | succ m ih =>
        intro hle
        obtain ⟨vs, hl, hv⟩ := ih (by omega)
        obtain ⟨ad, A0, c0, e, hcell, _, hC⟩ := at_row hr m (by omega)
        refine ⟨vs ++ [.slice A0 (next.getD m []).length c0], by simp [hl], fun j v h => ?_⟩
        rcases Nat.lt_or_ge j m with hj | hj
        · rw [List.getElem?_append_left (by omega)] at h
          exact hv j v h
        · rw [List.getElem?_append_right (by omega)] at h
          have hj0 : j - vs.length = 0 := by
            have := (List.getElem?_eq_some_iff.1 h).1
            simp at this
            omega
          rw [hj0] at h
          obtain rfl : j = m := by omega
          simp at h
          subst h
          refine ⟨ad, A0, c0, next.getD j [], e, by simpa using hcell, ?_, rfl, hC⟩
          simp [List.getD_eq_getElem?_getD, List.getElem?_eq_getElem (show j < next.length by omega)]
    exact hall _ (Nat.le_refl _)
  obtain ⟨vs, hl, hv⟩ := hx
  have hcon := contains61 62 #[.pointer (some ⟨gd, 0, none⟩), .pointer (some ⟨go, 0, none⟩)] (enters_of Try.func62 (by kernel_rfl) rfl) A c vs (next.map fun l => decide ((l.length : Int) ≠ s) || l.any fun x => decide (x < 0) || decide (n ≤ x)) w
    (by simp [hl]) (by omega) (fun j v h => by obtain ⟨ad, _, _, _, e, hcell, _⟩ := hv j v h; exact ⟨ad, e, hcell⟩)
    (fun j v b h hb w' hd => by
      obtain ⟨ad, A0, c0, l, e, hcell, hln, rfl, hC⟩ := hv j v h
      simp only [List.getElem?_map, Option.map_eq_some_iff] at hb
      obtain ⟨l', hl', rfl⟩ := hb
      obtain rfl : l = l' := by rw [hln] at hl'; exact Option.some.inj hl'
      obtain ⟨⟨q, rfl⟩⟩ := hd
      exact right2 A0 c0 l s n gd gn go _ (C_drewN hC q) hs hn ho)
  have e1 : (next.map fun l => decide ((l.length : Int) ≠ s) || l.any fun x => decide (x < 0) || decide (n ≤ x)).any id = next.any fun l => decide ((l.length : Int) ≠ s) || l.any fun x => decide (x < 0) || decide (n ≤ x) := by rw [List.any_map]; rfl
  rw [e1, hl] at hcon
  exact hcon

set_option maxHeartbeats 1000000 in
theorem det_Right (s : Int) (A : Option Addr) (c : Nat) (next : List (List Int)) (B : Option Addr) (d : Nat) (en : List Bool) (w : World)
    (hr : Kd.C (Kd.slice 3 (Kd.int .i64)) w A next.length next) (hc : next.length ≤ c) (hr2 : Kd.C Kd.bool w B en.length en) (hc2 : en.length ≤ d) :
    Calls Try.prog 44 #[.agg #[.int .i64 s, .slice A next.length c, .slice B en.length d]] w fun e w' => e = .returned (.bool (rightB s next en)) ∧ Below w.heap.size w w' := by
  have hm : next.length ≤ 9223372036854775807 := hr.2.1
  have hm2 : en.length ≤ 9223372036854775807 := hr2.2.1
  have HR := Aside0.mk hr
  have HR2 := Aside0.mk hr2
  clear hr hr2
  by_cases h1 : s < 1
  · have b1 : decide (s < 1) = true := decide_eq_true h1
    have e : rightB s next en = false := by simp [rightB, h1]
    rw [e]
    clear e
    go_enter Try.func44, Try.ntmps44
    go_wp2_with fail
    go_ret
    exact ⟨rfl, by repeat (first | exact Below.refl _ _ | apply below_alloc | apply pw_below_drewN | apply below_drew1)⟩
  by_cases h2 : 400 < s
  · have b1 : decide (s < 1) = false := decide_eq_false h1
    have b2 : decide (400 < s) = true := decide_eq_true h2
    have e : rightB s next en = false := by simp [rightB, h2]
    rw [e]
    clear e
    go_enter Try.func44, Try.ntmps44
    go_wp2_with fail
    go_ret
    exact ⟨rfl, by repeat (first | exact Below.refl _ _ | apply below_alloc | apply pw_below_drewN | apply below_drew1)⟩
  have b1 : decide (s < 1) = false := decide_eq_false h1
  have b2 : decide (400 < s) = false := decide_eq_false h2
  by_cases h3 : next.length = 0
  · have b3 : ((next.length : Int) == 0) = true := by simp [h3]
    have e : rightB s next en = false := by simp [rightB, h3]
    rw [e]
    clear e h3
    go_enter Try.func44, Try.ntmps44
    go_wp2_with fail
    go_ret
    exact ⟨rfl, by repeat (first | exact Below.refl _ _ | apply below_alloc | apply pw_below_drewN | apply below_drew1)⟩
  have b3 : ((next.length : Int) == 0) = false := beq_eq_false_iff_ne.2 (by omega)
  by_cases h4 : 3000 < next.length
  · have b4 : decide (3000 < (next.length : Int)) = true := decide_eq_true (by omega)
    have e : rightB s next en = false := by simp [rightB, h4]
    rw [e]
    clear e
    go_enter Try.func44, Try.ntmps44
    go_wp2_with fail
    go_ret
    exact ⟨rfl, by repeat (first | exact Below.refl _ _ | apply below_alloc | apply pw_below_drewN | apply below_drew1)⟩
  have b4 : decide (3000 < (next.length : Int)) = false := decide_eq_false (by omega)
  by_cases h5 : en.length = next.length
  · have b5 : ((en.length : Int) != (next.length : Int)) = false := bne_eq_false_iff_eq.2 (by omega)
    have e : rightB s next en = !(next.any fun l => decide ((l.length : Int) ≠ s) || l.any fun x => decide (x < 0) || decide ((next.length : Int) ≤ x)) := by
      unfold rightB; simp [h1, h2, h3, h4, h5]
    rw [e]
    have hcon := fun W gd gn go hr hs hn ho => odd61 A c next s (next.length : Int) gd gn go W hr hs hn ho
    generalize (next.any fun l => decide ((l.length : Int) ≠ s) || l.any fun x => decide (x < 0) || decide ((next.length : Int) ≤ x)) = r at *
    have HCON := Aside0.mk hcon
    clear e h5 h1 h2 h3 h4 hcon
    go_enter Try.func44, Try.ntmps44
    go_wp2_with fail
    refine (HCON.out _ w.heap.size (w.heap.size + 1) (w.heap.size + 1 + 1) ?_ ?_ ?_ ?_).mono ?_
    · exact Kd.C_below HR.out (by repeat (first | exact Below.refl _ _ | apply below_alloc | apply pw_below_drewN | apply below_drew1))
    · go_simp
    · go_simp
    · go_simp
    · rintro e w' ⟨rfl, ⟨q', rfl⟩⟩
      go_wp2_with fail
      go_ret
      exact ⟨rfl, by repeat (first | exact Below.refl _ _ | apply below_alloc | apply pw_below_drewN | apply below_drew1)⟩
  · have b5 : ((en.length : Int) != (next.length : Int)) = true := bne_iff_ne.2 (by omega)
    have e : rightB s next en = false := by simp [rightB, h5]
    rw [e]
    clear e h5
    go_enter Try.func44, Try.ntmps44
    go_wp2_with fail
    go_ret
    exact ⟨rfl, by repeat (first | exact Below.refl _ _ | apply below_alloc | apply pw_below_drewN | apply below_drew1)⟩
end Go.Proofs.Ytpedenbcfbflbaa.X
