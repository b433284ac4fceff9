/- Plain lists, no program: the document's Bytes and First, and both Decodes, as one. -/
import Derived.Test.YtfdllcakpmaifaaDoorPEnc
import Derived.Test.YtfdllcakpmaifaaDoorRx2
import Derived.Test.YtfdllcakpmaifaaDoorFx1
namespace Go.Proofs.YtfdllcakpmaifaaDoor.P
open Go.RowKit Go.Proofs.YtfdllcakpmaifaaDoorW.PrintWords L R F
set_option linter.unusedVariables false
set_option linter.unusedSimpArgs false

theorem w64 {n : Int} (h : -9223372036854775808 ≤ n) (h' : n ≤ 9223372036854775807) : wrap64 n = n := by
  unfold wrap64
  omega
theorem ev_some {α : Type} {g : Nat → Option α} {r : α} (h : ∀ k, g k = some r) : Ev g r := ⟨0, fun k _ => h k⟩
theorem ev_at {α : Type} {g f : Nat → Option α} {r : α} (h : ∀ k, g (k + 1) = f k) (k : Ev f r) : Ev g r := Ev.step h k
theorem ev_if {α : Type} {c : Prop} [Decidable c] {g f : Nat → Option α} {r : α} (hc : c) (h : Ev g r) : Ev (fun k => if c then g k else f k) r := by
  obtain ⟨K, h⟩ := h
  exact ⟨K, fun k hk => by show (if c then g k else f k) = some r; rw [if_pos hc]; exact h k hk⟩
theorem ev_else {α : Type} {c : Prop} [Decidable c] {g f : Nat → Option α} {r : α} (hc : ¬ c) (h : Ev f r) : Ev (fun k => if c then g k else f k) r := by
  obtain ⟨K, h⟩ := h
  exact ⟨K, fun k hk => by show (if c then g k else f k) = some r; rw [if_neg hc]; exact h k hk⟩
theorem six_f {a : Int} (h : 0 ≤ a) : caesuraref03_six.f a = some (128 + a % 64) := by
  unfold caesuraref03_six.f
  rw [Int.tmod_eq_emod_of_nonneg h, w64 (by omega) (by omega)]
  congr 1
  omega
theorem ref_bytes (c : Int) : Ev (fun k => caesuraref03_Bytes.f k c) (enc c) := by
  unfold caesuraref03_Bytes.f
  unfold enc
  by_cases h1 : c < 0
  · refine ev_if h1 (Ev.step (f := fun _ => some ([] : List Int)) (fun k => by rw [caesuraref03_Bytes.j0, if_pos rfl]) ?_)
    rw [if_pos (Or.inl h1)]
    exact Ev.now _
  refine ev_else h1 ?_
  by_cases h2 : c > 1114111
  · refine ev_if h2 (Ev.step (f := fun _ => some ([] : List Int)) (fun k => by rw [caesuraref03_Bytes.j0, if_pos rfl]) ?_)
    rw [if_pos (by omega)]
    exact Ev.now _
  refine ev_else h2 ?_
  have hj : ∀ b : Bool, b = false → ¬ (55296 ≤ c ∧ c ≤ 57343) → Ev (fun k => caesuraref03_Bytes.j0 k c b) (enc c) := by
    intro b hb h3
    subst hb
    unfold enc
    rw [if_neg (by omega)]
    have t1 : Int.tdiv c 64 = c / 64 := Int.tdiv_eq_ediv_of_nonneg (by omega)
    have t2 : Int.tdiv c 4096 = c / 4096 := Int.tdiv_eq_ediv_of_nonneg (by omega)
    have t3 : Int.tdiv c 262144 = c / 262144 := Int.tdiv_eq_ediv_of_nonneg (by omega)
    refine Ev.step (f := fun _ => some _) (fun k => ?_) (Ev.now _)
    rw [caesuraref03_Bytes.j0, if_neg (by decide)]
    by_cases h4 : c < 128
    · rw [if_pos h4, if_pos h4]
      congr 2
      omega
    rw [if_neg h4, if_neg h4]
    by_cases h5 : c < 2048
    · rw [if_pos h5, if_pos h5, six_f (by omega), t1, w64 (n := c / 64) (by omega) (by omega), w64 (by omega) (by omega)]
      simp only [Option.bind_some]
      congr 2
      omega
    rw [if_neg h5, if_neg h5]
    by_cases h6 : c < 65536
    · rw [if_pos h6, if_pos h6, t1, t2, w64 (n := c / 64) (by omega) (by omega), w64 (n := c / 4096) (by omega) (by omega), six_f (by omega), six_f (by omega), w64 (by omega) (by omega)]
      simp only [Option.bind_some]
      congr 2
      omega
    · rw [if_neg h6, if_neg h6, t1, t2, t3, w64 (n := c / 64) (by omega) (by omega), w64 (n := c / 4096) (by omega) (by omega), w64 (n := c / 262144) (by omega) (by omega), six_f (by omega), six_f (by omega), six_f (by omega), w64 (by omega) (by omega)]
      simp only [Option.bind_some]
      congr 2
      omega
  by_cases h3 : c ≥ 55296
  · refine ev_if h3 ?_
    by_cases h4 : c ≤ 57343
    · refine Ev.step (f := fun _ => some ([] : List Int)) (fun k => by rw [caesuraref03_Bytes.j0, if_pos (decide_eq_true h4)]) ?_
      rw [if_pos (by omega)]
      exact Ev.now _
    · have := hj (decide (c ≤ 57343)) (decide_eq_false h4) (by omega)
      unfold enc at this
      exact this
  · refine ev_else h3 ?_
    have := hj false rfl (by omega)
    unfold enc at this
    exact this
theorem nums_inj : ∀ {l m : List Int}, (∀ x ∈ l, 0 ≤ x ∧ x < 256) → (∀ x ∈ m, 0 ≤ x ∧ x < 256) → ((strOfNums l).toList = (strOfNums m).toList ↔ l = m) := by
  intro l m hl hm
  rw [Lib.strOfNums_toList, Lib.strOfNums_toList]
  constructor
  · intro h
    induction l generalizing m with
    | nil => cases m with
      | nil => rfl
      | cons b t => simp [Lib.bytesOf] at h
    | cons a s ih => cases m with
      | nil => simp [Lib.bytesOf] at h
      | cons b t =>
        simp only [Lib.bytesOf, List.map_cons, List.cons.injEq] at h
        have ha := hl a List.mem_cons_self
        have hb := hm b List.mem_cons_self
        have e := congrArg UInt8.toNat h.1
        rw [UInt8.toNat_ofNat', UInt8.toNat_ofNat'] at e
        have : a = b := by omega
        rw [this, ih (fun x hx => hl x (List.mem_cons_of_mem _ hx)) (fun x hx => hm x (List.mem_cons_of_mem _ hx)) h.2]
  · rintro rfl
    rfl
theorem rd_mem {l : List Int} (hl : ∀ x ∈ l, 0 ≤ x ∧ x < 256) (i : Int) : 0 ≤ rd l i ∧ rd l i < 256 := by
  unfold rd
  rw [List.getD_eq_getElem?_getD]
  cases h : l[i.toNat]? with
  | none => simp
  | some x =>
    exact hl x (List.mem_of_getElem? h)
/-! the document's First -/
def heads : List Int := [0, 192, 224, 240]
theorem l1_step {l x4 : List Int} {n c i : Int} {r : Int × Int} (hl : ∀ x ∈ l, 0 ≤ x ∧ x < 256) (h0 : 0 ≤ i) (h1 : i < n) (h2 : i < (l.length : Int)) (h3 : i ≤ 4) (hc : -1000000000000 ≤ c ∧ c ≤ 1000000000000)
    (h : Ev (fun k => caesuraref03_First.l1 k l x4 n (c * 64 + rd l i - 128) (i + 1)) r) : Ev (fun k => caesuraref03_First.l1 k l x4 n c i) r := by
  refine Ev.step (fun k => ?_) h
  rw [caesuraref03_First.l1]
  have hb := rd_mem hl i
  rw [if_pos h1, if_pos h0, if_pos h2, w64 (n := c * 64) (by omega) (by omega), w64 (n := rd l i) (by omega) (by omega), w64 (n := c * 64 + rd l i) (by omega) (by omega), w64 (n := c * 64 + rd l i - 128) (by omega) (by omega), w64 (n := i + 1) (by omega) (by omega)]
theorem l1_end {l x4 : List Int} {n c : Int} {r : Int × Int} (hl : ∀ x ∈ l, 0 ≤ x ∧ x < 256) (h0 : 1 ≤ n) (h2 : n ≤ (l.length : Int)) (h3 : n ≤ 4)
    (h : if enc c = l.take n.toNat then r = (c, n) else Ev (fun k => caesuraref03_First.l0 k l x4 (n + 1)) r) : Ev (fun k => caesuraref03_First.l1 k l x4 n c n) r := by
  refine Ev.step (fun k => by rw [caesuraref03_First.l1, if_neg (Int.lt_irrefl n)]) ?_
  refine Ev.bind (f := fun k t => _) (ref_bytes c) ?_
  have ht : ∀ x ∈ l.take n.toNat, 0 ≤ x ∧ x < 256 := fun x hx => hl x (List.mem_of_mem_take hx)
  have hlen : (l.take n.toNat).length = n.toNat := List.length_take_of_le (by omega)
  rw [w64 (n := n + 1) (by omega) (by omega)]
  by_cases e : enc c = l.take n.toNat
  · rw [if_pos e] at h
    subst h
    have he : ∀ x ∈ enc c, 0 ≤ x ∧ x < 256 := by rw [e]; exact ht
    refine ev_if (by rw [e, hlen]; omega) (ev_if (by omega) (ev_if (by omega) (ev_if ((nums_inj he ht).2 e) (Ev.now _))))
  · rw [if_neg e] at h
    by_cases hn : ((enc c).length : Int) = n
    · have g : Good c := fun b => by
        have := enc_nil.2 (fun g => g b)
        rw [this] at hn
        simp at hn
        omega
      refine ev_if hn (ev_if (by omega) (ev_if (by omega) (ev_else ?_ h)))
      exact fun q => e ((nums_inj (enc_byte g) ht).1 q)
    · exact ev_else hn h
/-- What n bytes would tell. -/
def tells (l : List Int) (n : Int) : Int :=
  if n = 1 then rd l 0 else if n = 2 then (rd l 0 - 192) * 64 + rd l 1 - 128
  else if n = 3 then ((rd l 0 - 224) * 64 + rd l 1 - 128) * 64 + rd l 2 - 128
  else (((rd l 0 - 240) * 64 + rd l 1 - 128) * 64 + rd l 2 - 128) * 64 + rd l 3 - 128
theorem l0_step {l : List Int} {n : Int} {r : Int × Int} (hl : ∀ x ∈ l, 0 ≤ x ∧ x < 256) (h0 : 1 ≤ n) (h2 : n ≤ (l.length : Int)) (h3 : n ≤ 4)
    (h : if enc (tells l n) = l.take n.toNat then r = (tells l n, n) else Ev (fun k => caesuraref03_First.l0 k l heads (n + 1)) r) : Ev (fun k => caesuraref03_First.l0 k l heads n) r := by
  have h0' := rd_mem hl 0
  have h1' := rd_mem hl 1
  have h2' := rd_mem hl 2
  have h3' := rd_mem hl 3
  have h4' := rd_mem hl (1 + 1)
  have h5' := rd_mem hl (1 + 1 + 1)
  have start : Ev (fun k => caesuraref03_First.l1 k l heads n (wrap64 (wrap64 (rd l 0) - rd heads (wrap64 (n - 1)))) 1) r := by
    rcases (by omega : n = 1 ∨ n = 2 ∨ n = 3 ∨ n = 4) with rfl | rfl | rfl | rfl
    · rw [w64 (n := (1 : Int) - 1) (by omega) (by omega), show rd heads (1 - 1) = 0 from rfl, w64 (n := rd l 0) (by omega) (by omega), w64 (by omega) (by omega), Int.sub_zero]
      exact l1_end hl (by omega) h2 (by omega) h
    · rw [w64 (n := (2 : Int) - 1) (by omega) (by omega), show rd heads (2 - 1) = 192 from rfl, w64 (n := rd l 0) (by omega) (by omega), w64 (by omega) (by omega)]
      refine l1_step hl (by omega) (by omega) (by omega) (by omega) (by omega) ?_
      exact l1_end hl (by omega) h2 (by omega) h
    · rw [w64 (n := (3 : Int) - 1) (by omega) (by omega), show rd heads (3 - 1) = 224 from rfl, w64 (n := rd l 0) (by omega) (by omega), w64 (by omega) (by omega)]
      refine l1_step hl (by omega) (by omega) (by omega) (by omega) (by omega) ?_
      refine l1_step hl (by omega) (by omega) (by omega) (by omega) (by omega) ?_
      exact l1_end hl (by omega) h2 (by omega) h
    · rw [w64 (n := (4 : Int) - 1) (by omega) (by omega), show rd heads (4 - 1) = 240 from rfl, w64 (n := rd l 0) (by omega) (by omega), w64 (by omega) (by omega)]
      refine l1_step hl (by omega) (by omega) (by omega) (by omega) (by omega) ?_
      refine l1_step hl (by omega) (by omega) (by omega) (by omega) (by omega) ?_
      refine l1_step hl (by omega) (by omega) (by omega) (by omega) (by omega) ?_
      exact l1_end hl (by omega) h2 (by omega) h
  have hw : wrap64 (n - 1) = n - 1 := w64 (by omega) (by omega)
  refine Ev.step (fun k => by rw [caesuraref03_First.l0, if_pos h3]) ?_
  refine Ev.step (fun k => by rw [caesuraref03_First.j1]) ?_
  refine ev_if (decide_eq_true h2) (ev_if (by omega) (ev_if (by rw [hw]; omega) (ev_if (by rw [hw]; show n - 1 < 4; omega) start)))
theorem l0_none {l : List Int} {n : Int} (h : ¬ n ≤ 4 ∨ ¬ n ≤ (l.length : Int)) : Ev (fun k => caesuraref03_First.l0 k l heads n) (-1, 0) := by
  by_cases h3 : n ≤ 4
  · refine Ev.step (fun k => by rw [caesuraref03_First.l0, if_pos h3]) ?_
    refine Ev.step (fun k => by rw [caesuraref03_First.j1]) ?_
    exact ev_else (by simp; omega) (Ev.now _)
  · refine Ev.step (fun k => by rw [caesuraref03_First.l0, if_neg h3]) ?_
    refine Ev.step (fun k => by rw [caesuraref03_First.j1]) ?_
    exact ev_else (by decide) (Ev.now _)
theorem tells_enc {l : List Int} {c : Int} (g : Good c) (h : enc c <+: l) : tells l ((enc c).length : Int) = c := by
  obtain ⟨t, rfl⟩ := h
  rcases enc_cases g with ⟨a, b, e⟩ | ⟨a, b, e⟩ | ⟨a, b, d, e⟩ | ⟨a, b, e⟩ <;> rw [e]
  · rfl
  · show (192 + c / 64 - 192) * 64 + (128 + c % 64) - 128 = c
    omega
  · show ((224 + c / 4096 - 224) * 64 + (128 + c / 64 % 64) - 128) * 64 + (128 + c % 64) - 128 = c
    omega
  · show (((240 + c / 262144 - 240) * 64 + (128 + c / 4096 % 64) - 128) * 64 + (128 + c / 64 % 64) - 128) * 64 + (128 + c % 64) - 128 = c
    omega
theorem prefix_take {l s : List Int} (h : s <+: l) : l.take s.length = s := by
  obtain ⟨t, rfl⟩ := h
  simp
theorem first_from {l : List Int} (hl : ∀ x ∈ l, 0 ≤ x ∧ x < 256) (d : Nat) : ∀ n : Int, 1 ≤ n → 5 - n = d → (∀ x, Good x → enc x <+: l → n ≤ ((enc x).length : Int)) → ∃ c m, Ev (fun k => caesuraref03_First.l0 k l heads n) (c, m) ∧ FirstS l c m := by
  induction d with
  | zero =>
    intro n h1 hd hno
    refine ⟨-1, 0, l0_none (.inl (by omega)), .inl ⟨rfl, rfl, fun x hx hp => ?_⟩⟩
    have := hno x hx hp
    have := enc_len hx
    omega
  | succ d ih =>
    intro n h1 hd hno
    by_cases h2 : n ≤ (l.length : Int)
    · by_cases e : enc (tells l n) = l.take n.toNat
      · refine ⟨tells l n, n, l0_step hl h1 h2 (by omega) (by rw [if_pos e]), .inr ?_⟩
        have hlen : (l.take n.toNat).length = n.toNat := List.length_take_of_le (by omega)
        have g : Good (tells l n) := fun b => by
          have := enc_nil.2 (fun g => g b)
          rw [this] at e
          rw [← e] at hlen
          simp at hlen
          omega
        exact ⟨g, by rw [e, hlen]; omega, by rw [e]; exact List.take_prefix _ _⟩
      · obtain ⟨c, m, hev, hs⟩ := ih (n + 1) (by omega) (by omega) (fun x hx hp => by
          have a := hno x hx hp
          by_cases q : ((enc x).length : Int) = n
          · refine absurd ?_ e
            have := tells_enc hx hp
            rw [q] at this
            rw [this, show n.toNat = (enc x).length from by omega, prefix_take hp]
          · omega)
        exact ⟨c, m, l0_step hl h1 h2 (by omega) (by rw [if_neg e]; exact hev), hs⟩
    · refine ⟨-1, 0, l0_none (.inr h2), .inl ⟨rfl, rfl, fun x hx hp => ?_⟩⟩
      have := hno x hx hp
      have := hp.length_le
      omega
theorem ref_first {l : List Int} (hl : ∀ x ∈ l, 0 ≤ x ∧ x < 256) : ∃ c m, Ev (fun k => caesuraref03_First.f k l) (c, m) ∧ FirstS l c m := by
  obtain ⟨c, m, h, hs⟩ := first_from hl 4 1 (by omega) (by omega) (fun x hx _ => by have := enc_len hx; omega)
  exact ⟨c, m, h, hs⟩

/-! characters' bytes, one behind the other -/
def encs (cs : List Int) : List Int := cs.flatMap enc
/-- Where characters begin. -/
def offs : Int → List Int → List Int
  | _, [] => []
  | p, c :: cs => p :: offs (p + ((enc c).length : Int)) cs
theorem encs_nil : encs [] = [] := rfl
theorem encs_cons (c : Int) (cs : List Int) : encs (c :: cs) = enc c ++ encs cs := rfl
theorem encs_app (a b : List Int) : encs (a ++ b) = encs a ++ encs b := by simp [encs]
theorem offs_len : ∀ (p : Int) (cs : List Int), (offs p cs).length = cs.length
  | _, [] => rfl
  | p, c :: cs => by simp [offs, offs_len]
theorem offs_app : ∀ (p : Int) (a b : List Int), offs p (a ++ b) = offs p a ++ offs (p + ((encs a).length : Int)) b
  | p, [], b => by simp [offs, encs]
  | p, c :: a, b => by
    rw [List.cons_append, offs, offs, offs_app, encs_cons, List.length_append, List.cons_append]
    congr 3
    omega
/-- How bytes part: characters', and what begins with no character. -/
def Parts (l cs rest : List Int) : Prop := (∀ c ∈ cs, Good c) ∧ l = encs cs ++ rest ∧ NoHead rest
theorem Parts.one : ∀ {cs ds rest rest' l : List Int}, Parts l cs rest → Parts l ds rest' → cs = ds ∧ rest = rest'
  | [], [], rest, rest', l, ⟨_, h, _⟩, ⟨_, k, _⟩ => ⟨rfl, by rw [h] at k; simpa [encs] using k⟩
  | [], d :: ds, rest, rest', l, ⟨_, h, n⟩, ⟨g, k, _⟩ => by
    refine absurd ?_ (n d (g d List.mem_cons_self))
    rw [h, encs_nil, List.nil_append, encs_cons, List.append_assoc] at k
    rw [k]
    exact List.prefix_append _ _
  | c :: cs, [], rest, rest', l, ⟨g, h, _⟩, ⟨_, k, n⟩ => by
    refine absurd ?_ (n c (g c List.mem_cons_self))
    rw [k, encs_nil, List.nil_append, encs_cons, List.append_assoc] at h
    rw [h]
    exact List.prefix_append _ _
  | c :: cs, d :: ds, rest, rest', l, ⟨g, h, n⟩, ⟨g', k, n'⟩ => by
    rw [encs_cons, List.append_assoc] at h k
    obtain rfl := enc_one (g c List.mem_cons_self) (g' d List.mem_cons_self) ⟨_, h.symm⟩ ⟨_, k.symm⟩
    have e : encs cs ++ rest = encs ds ++ rest' := List.append_cancel_left (h.symm.trans k)
    obtain ⟨rfl, rfl⟩ := Parts.one (l := encs cs ++ rest) ⟨fun x hx => g x (List.mem_cons_of_mem _ hx), rfl, n⟩ ⟨fun x hx => g' x (List.mem_cons_of_mem _ hx), e, n'⟩
    exact ⟨rfl, rfl⟩
theorem noHead_nil : NoHead [] := fun x hx h => by
  have := enc_len hx
  rw [List.prefix_nil.1 h] at this
  simp at this
/-- What decoding answers. -/
def decR (l cs rest : List Int) : List Int × List Int × Int × Int := if rest = [] then (cs, offs 0 cs ++ [(l.length : Int)], -1, 0) else ([], [], ((encs cs).length : Int), 3)
theorem own_from {l : List Int} (hl : ∀ x ∈ l, 0 ≤ x ∧ x < 256) (hz : l.length ≤ 3000) (d : Nat) : ∀ (i : Int) (x y : List Int), 0 ≤ i → (l.length : Int) - i = d → x.length ≤ i.toNat → y.length ≤ i.toNat →
    ∃ cs rest, Parts (l.drop i.toNat) cs rest ∧ Ev (fun k => byte8_Decode.l0 k l x y i) (if rest = [] then (x ++ cs, y ++ offs i cs ++ [(l.length : Int)], -1, 0) else ([], [], i + ((encs cs).length : Int), 3)) := by
  induction d using Nat.strongRecOn with
  | ind d ih =>
    intro i x y h0 hd hx hy
    by_cases hi : i < (l.length : Int)
    · have hl' : ∀ a ∈ l.drop i.toNat, 0 ≤ a ∧ a < 256 := fun a ha => hl a (List.mem_of_mem_drop ha)
      obtain ⟨c, n, hf, hs⟩ := byte8_first hl'
      have go : ∀ r, Ev (fun k => if n = 0 then some (([] : List Int), ([] : List Int), i, 3) else if x.length < 17592186044416 then (if y.length < 17592186044416 then byte8_Decode.l0 k l (x ++ [c]) (y ++ [i]) (wrap64 (i + n)) else none) else none) r → Ev (fun k => byte8_Decode.l0 k l x y i) r := by
        intro r h
        refine Ev.step (fun k => by rw [byte8_Decode.l0, if_pos hi, if_pos h0, if_pos (by omega)]) ?_
        refine Ev.congr (fun k => ?_) h
        rw [hf]
        rfl
      rcases hs with ⟨rfl, rfl, hno⟩ | ⟨g, rfl, hp⟩
      · refine ⟨[], l.drop i.toNat, ⟨(fun _ h => nomatch h), rfl, hno⟩, ?_⟩
        have hne : l.drop i.toNat ≠ [] := fun e => by
          have := congrArg List.length e
          rw [List.length_drop, List.length_nil] at this
          omega
        rw [if_neg hne]
        refine go _ (ev_if rfl ?_)
        simp only [encs_nil, List.length_nil, Int.natCast_zero, Int.add_zero]
        exact Ev.now _
      · have hn := enc_len g
        have hle := hp.length_le
        rw [List.length_drop] at hle
        obtain ⟨cs, rest, ⟨hg, he, hnh⟩, hev⟩ := ih ((l.length : Int) - (i + ((enc c).length : Int))).toNat (by omega) (i + ((enc c).length : Int)) (x ++ [c]) (y ++ [i]) (by omega) (by omega) (by rw [List.length_append, List.length_singleton]; omega) (by rw [List.length_append, List.length_singleton]; omega)
        refine ⟨c :: cs, rest, ⟨fun a ha => ?_, ?_, hnh⟩, ?_⟩
        · rcases List.mem_cons.1 ha with rfl | ha
          · exact g
          · exact hg a ha
        · rw [encs_cons, List.append_assoc, ← he]
          obtain ⟨t, ht⟩ := hp
          have : l.drop (i + ((enc c).length : Int)).toNat = t := by
            rw [show (i + ((enc c).length : Int)).toNat = i.toNat + (enc c).length from by omega, ← List.drop_drop, ← ht, List.drop_left]
          rw [this, ht]
        · refine go _ (ev_else (by omega) (ev_if (by omega) (ev_if (by omega) ?_)))
          rw [w64 (by omega) (by omega)]
          have e1 : x ++ c :: cs = x ++ [c] ++ cs := by simp
          have e2 : y ++ offs i (c :: cs) = y ++ [i] ++ offs (i + ((enc c).length : Int)) cs := by simp [offs]
          have e3 : i + ((encs (c :: cs)).length : Int) = i + ((enc c).length : Int) + ((encs cs).length : Int) := by rw [encs_cons, List.length_append]; omega
          rw [e1, e2, e3]
          exact hev
    · refine ⟨[], [], ⟨(fun _ h => nomatch h), ?_, noHead_nil⟩, ?_⟩
      · rw [encs_nil, List.append_nil, List.drop_eq_nil_iff]
        omega
      · rw [if_pos rfl]
        refine Ev.step (fun k => by rw [byte8_Decode.l0, if_neg hi]) ?_
        refine ev_if (by omega) ?_
        simp only [List.append_nil, offs]
        exact Ev.now _
theorem own_dec {l : List Int} (hl : ∀ x ∈ l, 0 ≤ x ∧ x < 256) (hz : l.length ≤ 3000) : ∃ cs rest, Parts l cs rest ∧ Ev (fun k => byte8_Decode.f k l) (decR l cs rest) := by
  obtain ⟨cs, rest, hp, h⟩ := own_from hl hz l.length 0 [] [] (by omega) (by omega) (by simp) (by simp)
  refine ⟨cs, rest, hp, ?_⟩
  unfold byte8_Decode.f decR
  refine ev_else (by omega) ?_
  simp only [List.nil_append, Int.zero_add] at h
  exact h
theorem own_long {l : List Int} (hz : ¬ l.length ≤ 3000) : Ev (fun k => byte8_Decode.f k l) ([], [], 0, 2) := by
  unfold byte8_Decode.f
  exact ev_if (by omega) (Ev.now _)
theorem ref_from {l : List Int} (hl : ∀ x ∈ l, 0 ≤ x ∧ x < 256) (hz : l.length ≤ 3000) (d : Nat) : ∀ (i : Int) (x y : List Int), 0 ≤ i → (l.length : Int) - i = d → x.length ≤ i.toNat → y.length ≤ i.toNat →
    ∃ cs rest, Parts (l.drop i.toNat) cs rest ∧ Ev (fun k => caesuraref03_Decode.l0 k l x y i) (if rest = [] then (x ++ cs, y ++ offs i cs ++ [(l.length : Int)], -1, 0) else ([], [], i + ((encs cs).length : Int), 3)) := by
  induction d using Nat.strongRecOn with
  | ind d ih =>
    intro i x y h0 hd hx hy
    by_cases hi : i < (l.length : Int)
    · have hl' : ∀ a ∈ l.drop i.toNat, 0 ≤ a ∧ a < 256 := fun a ha => hl a (List.mem_of_mem_drop ha)
      obtain ⟨c, n, hf, hs⟩ := ref_first hl'
      have go : ∀ r, Ev (fun k => if n = 0 then some (([] : List Int), ([] : List Int), i, 3) else if x.length < 17592186044416 then (if y.length < 17592186044416 then caesuraref03_Decode.l0 k l (x ++ [c]) (y ++ [i]) (wrap64 (i + n)) else none) else none) r → Ev (fun k => caesuraref03_Decode.l0 k l x y i) r := by
        intro r h
        refine Ev.step (fun k => by rw [caesuraref03_Decode.l0, if_pos hi, if_pos h0, if_pos (by omega)]) ?_
        exact Ev.bind (f := fun k (t : Int × Int) => if t.2 = 0 then some (([] : List Int), ([] : List Int), i, 3) else if x.length < 17592186044416 then (if y.length < 17592186044416 then caesuraref03_Decode.l0 k l (x ++ [t.1]) (y ++ [i]) (wrap64 (i + t.2)) else none) else none) hf h
      rcases hs with ⟨rfl, rfl, hno⟩ | ⟨g, rfl, hp⟩
      · refine ⟨[], l.drop i.toNat, ⟨(fun _ h => nomatch h), rfl, hno⟩, ?_⟩
        have hne : l.drop i.toNat ≠ [] := fun e => by
          have := congrArg List.length e
          rw [List.length_drop, List.length_nil] at this
          omega
        rw [if_neg hne]
        refine go _ (ev_if rfl ?_)
        simp only [encs_nil, List.length_nil, Int.natCast_zero, Int.add_zero]
        exact Ev.now _
      · have hn := enc_len g
        have hle := hp.length_le
        rw [List.length_drop] at hle
        obtain ⟨cs, rest, ⟨hg, he, hnh⟩, hev⟩ := ih ((l.length : Int) - (i + ((enc c).length : Int))).toNat (by omega) (i + ((enc c).length : Int)) (x ++ [c]) (y ++ [i]) (by omega) (by omega) (by rw [List.length_append, List.length_singleton]; omega) (by rw [List.length_append, List.length_singleton]; omega)
        refine ⟨c :: cs, rest, ⟨fun a ha => ?_, ?_, hnh⟩, ?_⟩
        · rcases List.mem_cons.1 ha with rfl | ha
          · exact g
          · exact hg a ha
        · rw [encs_cons, List.append_assoc, ← he]
          obtain ⟨t, ht⟩ := hp
          have : l.drop (i + ((enc c).length : Int)).toNat = t := by
            rw [show (i + ((enc c).length : Int)).toNat = i.toNat + (enc c).length from by omega, ← List.drop_drop, ← ht, List.drop_left]
          rw [this, ht]
        · refine go _ (ev_else (by omega) (ev_if (by omega) (ev_if (by omega) ?_)))
          rw [w64 (by omega) (by omega)]
          have e1 : x ++ c :: cs = x ++ [c] ++ cs := by simp
          have e2 : y ++ offs i (c :: cs) = y ++ [i] ++ offs (i + ((enc c).length : Int)) cs := by simp [offs]
          have e3 : i + ((encs (c :: cs)).length : Int) = i + ((enc c).length : Int) + ((encs cs).length : Int) := by rw [encs_cons, List.length_append]; omega
          rw [e1, e2, e3]
          exact hev
    · refine ⟨[], [], ⟨(fun _ h => nomatch h), ?_, noHead_nil⟩, ?_⟩
      · rw [encs_nil, List.append_nil, List.drop_eq_nil_iff]
        omega
      · rw [if_pos rfl]
        refine Ev.step (fun k => by rw [caesuraref03_Decode.l0, if_neg hi]) ?_
        refine ev_if (by omega) ?_
        simp only [List.append_nil, offs]
        exact Ev.now _
theorem ref_dec {l : List Int} (hl : ∀ x ∈ l, 0 ≤ x ∧ x < 256) (hz : l.length ≤ 3000) : ∃ cs rest, Parts l cs rest ∧ Ev (fun k => caesuraref03_Decode.f k l) (decR l cs rest) := by
  obtain ⟨cs, rest, hp, h⟩ := ref_from hl hz l.length 0 [] [] (by omega) (by omega) (by simp) (by simp)
  refine ⟨cs, rest, hp, ?_⟩
  unfold caesuraref03_Decode.f decR
  refine ev_else (by omega) ?_
  simp only [List.nil_append, Int.zero_add] at h
  exact h
theorem ref_long {l : List Int} (hz : ¬ l.length ≤ 3000) : Ev (fun k => caesuraref03_Decode.f k l) ([], [], 0, 2) := by
  unfold caesuraref03_Decode.f
  exact ev_if (by omega) (Ev.now _)
end Go.Proofs.YtfdllcakpmaifaaDoor.P
