/- Plain lists, no program: both Encodes as one, both Lines as one. -/
import Derived.Test.YtfdllcakpmaifaaDoorPRef
import Derived.Test.YtfdllcakpmaifaaDoorEx1
namespace Go.Proofs.YtfdllcakpmaifaaDoor.P
open Go.RowKit Go.Proofs.YtfdllcakpmaifaaDoorW.PrintWords L R E F
set_option linter.unusedVariables false
set_option linter.unusedSimpArgs false

instance (c : Int) : Decidable (Good c) := by unfold Good; infer_instance
def goods (l : List Int) : Bool := l.all fun c => decide (Good c)
theorem goods_cons (c : Int) (l : List Int) : goods (c :: l) = (decide (Good c) && goods l) := rfl
theorem goods_iff {l : List Int} : goods l = true ↔ ∀ c ∈ l, Good c := by simp [goods]
theorem w32 {n : Int} (h : -2147483648 ≤ n) (h' : n ≤ 2147483647) : wrap32 n = n := by
  unfold wrap32
  omega
theorem or192 (n : Int) (h : 0 ≤ n) (h' : n < 32) : Go.bits .or .u8 192 n = 192 + n := by
  obtain ⟨m, rfl⟩ : ∃ m : Nat, n = m := ⟨n.toNat, by omega⟩
  have : ∀ m : Fin 32, Go.bits .or .u8 192 ((m.val : Nat) : Int) = 192 + ((m.val : Nat) : Int) := by decide +kernel
  exact this ⟨m, by omega⟩
theorem or224 (n : Int) (h : 0 ≤ n) (h' : n < 16) : Go.bits .or .u8 224 n = 224 + n := by
  obtain ⟨m, rfl⟩ : ∃ m : Nat, n = m := ⟨n.toNat, by omega⟩
  have : ∀ m : Fin 16, Go.bits .or .u8 224 ((m.val : Nat) : Int) = 224 + ((m.val : Nat) : Int) := by decide +kernel
  exact this ⟨m, by omega⟩
theorem or240 (n : Int) (h : 0 ≤ n) (h' : n < 8) : Go.bits .or .u8 240 n = 240 + n := by
  obtain ⟨m, rfl⟩ : ∃ m : Nat, n = m := ⟨n.toNat, by omega⟩
  have : ∀ m : Fin 8, Go.bits .or .u8 240 ((m.val : Nat) : Int) = 240 + ((m.val : Nat) : Int) := by decide +kernel
  exact this ⟨m, by omega⟩
theorem valid_ev {c : Int} (h0 : 0 ≤ c) (h1 : c ≤ 1114111) : Ev (fun k => utf8_ValidRune.f k (wrap32 c)) (decide (Good c)) := by
  rw [w32 (by omega) (by omega)]
  unfold utf8_ValidRune.f
  refine ev_if h0 ?_
  by_cases h2 : c < 55296
  · refine Ev.step (f := fun _ => some true) (fun k => by rw [utf8_ValidRune.j0, if_pos (decide_eq_true h2)]) ?_
    rw [decide_eq_true (show Good c by unfold Good; omega)]
    exact Ev.now _
  · by_cases h3 : 57343 < c
    · refine Ev.step (f := fun _ => some true) (fun k => by rw [utf8_ValidRune.j0, if_neg (by simpa using h2), if_pos h3, if_pos h1]) ?_
      rw [decide_eq_true (show Good c by unfold Good; omega)]
      exact Ev.now _
    · refine Ev.step (f := fun _ => some false) (fun k => by rw [utf8_ValidRune.j0, if_neg (by simpa using h2), if_neg h3]) ?_
      rw [decide_eq_false (show ¬ Good c by unfold Good; omega)]
      exact Ev.now _
theorem append_ev {c : Int} {x : List Int} (g : Good c) (hx : x.length ≤ 4000) : Ev (fun k => utf8_AppendRune.f k x (wrap32 c)) (x ++ enc c) := by
  have g' := g
  unfold Good at g'
  rw [w32 (by omega) (by omega)]
  unfold utf8_AppendRune.f
  have hm : c % 4294967296 = c := by omega
  rw [hm]
  by_cases h1 : c ≤ 127
  · refine ev_if h1 (ev_if (by omega) ?_)
    rcases enc_cases g with ⟨a, b, e⟩ | ⟨a, b, e⟩ | ⟨a, b, d, e⟩ | ⟨a, b, e⟩ <;> first | omega | skip
    rw [e, show c % 256 = c from by omega]
    exact Ev.now _
  refine ev_else h1 ?_
  refine Ev.bind (a := x ++ enc c) (f := fun _ t => some t) ?_ (Ev.now _)
  unfold utf8_appendRuneNonASCII.f
  rw [hm]
  by_cases h2 : c ≤ 2047
  · refine ev_if h2 ?_
    rcases enc_cases g with ⟨a, b, e⟩ | ⟨a, b, e⟩ | ⟨a, b, d, e⟩ | ⟨a, b, e⟩ <;> first | omega | skip
    rw [e, show c / 64 % 256 = c / 64 from by omega, or192 _ (by omega) (by omega)]
    refine ev_if (c := x.length + _ < _) ?_ (Ev.now _)
    simp
    omega
  refine ev_else h2 ?_
  have three : ∀ b : Bool, b = true → c < 65536 → Ev (fun k => utf8_appendRuneNonASCII.j0 k x c c b) (x ++ enc c) := by
    intro b hb h3
    subst hb
    rcases enc_cases g with ⟨a, b, e⟩ | ⟨a, b, e⟩ | ⟨a, b, d, e⟩ | ⟨a, b, e⟩ <;> first | omega | skip
    refine Ev.step (fun k => by rw [utf8_appendRuneNonASCII.j0, if_pos rfl]) ?_
    rw [e, show c / 4096 % 256 = c / 4096 from by omega, or224 _ (by omega) (by omega)]
    refine ev_if (c := x.length + _ < _) ?_ (Ev.now _)
    simp
    omega
  by_cases h3 : c < 55296
  · exact ev_if h3 (three _ (decide_eq_true h3) (by omega))
  refine ev_else h3 (ev_if (by omega) ?_)
  by_cases h4 : c ≤ 65535
  · exact three _ (decide_eq_true h4) (by omega)
  rcases enc_cases g with ⟨a, b, e⟩ | ⟨a, b, e⟩ | ⟨a, b, d, e⟩ | ⟨a, b, e⟩ <;> first | omega | skip
  refine Ev.step (fun k => by rw [utf8_appendRuneNonASCII.j0, if_neg (by simpa using h4), if_pos (by omega), if_pos b]) ?_
  rw [e, show c / 262144 % 256 = c / 262144 from by omega, or240 _ (by omega) (by omega)]
  refine ev_if (c := x.length + _ < _) ?_ (Ev.now _)
  simp
  omega
/-- What encoding answers. -/
def encR (l : List Int) : List Int × Int := if goods l = true then (if 3000 < (encs l).length then ([], 2) else (encs l, 0)) else ([], 3)
theorem drop_at {l : List Int} {i : Int} (h0 : 0 ≤ i) (h : i < (l.length : Int)) : l.drop i.toNat = rd l i :: l.drop (i + 1).toNat := by
  have hi : i.toNat < l.length := by omega
  rw [List.drop_eq_getElem_cons hi, show (i + 1).toNat = i.toNat + 1 from by omega]
  unfold rd
  rw [List.getD_eq_getElem?_getD, List.getElem?_eq_getElem hi]
  rfl
theorem own_enc_from {l : List Int} (hz : l.length ≤ 4000) (d : Nat) : ∀ (i : Int) (x : List Int) (long : Bool), 0 ≤ i → (l.length : Int) - i = d → (long = false → x.length ≤ 3000) →
    Ev (fun k => byte8_Encode.l0 k x long l (l.length : Int) i) (if goods (l.drop i.toNat) = true then (if long = true ∨ 3000 < (x ++ encs (l.drop i.toNat)).length then ([], 2) else (x ++ encs (l.drop i.toNat), 0)) else ([], 3)) := by
  induction d with
  | zero =>
    intro i x long h0 hd hx
    have he : l.drop i.toNat = [] := List.drop_eq_nil_iff.2 (by omega)
    rw [he, if_pos (show goods [] = true from rfl), encs_nil, List.append_nil]
    refine Ev.step (fun k => by rw [byte8_Encode.l0, if_neg (show ¬ i < (l.length : Int) by omega)]) ?_
    cases long with
    | true => exact Ev.now _
    | false =>
      have hx' := hx rfl
      have hn : ¬ (false = true ∨ 3000 < x.length) := by
        rintro (h | h)
        · cases h
        · omega
      simp only [hn, if_false]
      exact Ev.now _
  | succ d ih =>
    intro i x long h0 hd hx
    have hi : i < (l.length : Int) := by omega
    rw [drop_at h0 hi, goods_cons, encs_cons]
    have go : ∀ {r}, (¬ Good (rd l i) → r = (([] : List Int), (3 : Int))) → (Good (rd l i) → Ev (fun k => byte8_Encode.j1 k x long (rd l i) l (l.length : Int) i false) r) → Ev (fun k => byte8_Encode.l0 k x long l (l.length : Int) i) r := by
      intro r hb hg
      have bad : ¬ Good (rd l i) → Ev (fun k => byte8_Encode.j1 k x long (rd l i) l (l.length : Int) i true) r := fun b => by
        rw [hb b]
        exact Ev.step (f := fun _ => some ([], 3)) (fun k => by rw [byte8_Encode.j1, if_pos rfl]) (Ev.now _)
      refine Ev.step (fun k => by rw [byte8_Encode.l0, if_pos hi, if_pos h0, if_pos hi]) ?_
      by_cases h1 : rd l i < 0
      · exact ev_if h1 (bad (by unfold Good; omega))
      refine ev_else h1 ?_
      by_cases h2 : rd l i > 1114111
      · exact ev_if h2 (bad (by unfold Good; omega))
      refine ev_else h2 ?_
      refine Ev.bind (f := fun k t => byte8_Encode.j1 k x long (rd l i) l (l.length : Int) i (!t)) (valid_ev (by omega) (by omega)) ?_
      by_cases g : Good (rd l i)
      · rw [decide_eq_true g]
        exact hg g
      · rw [decide_eq_false g]
        exact bad g
    refine go (fun b => by rw [decide_eq_false b]; rfl) fun g => ?_
    rw [decide_eq_true g, Bool.true_and]
    refine Ev.step (fun k => by rw [byte8_Encode.j1, if_neg (by decide), w64 (n := i + 1) (by omega) (by omega)]) ?_
    cases long with
    | true =>
      refine ev_if rfl ?_
      have := ih (i + 1) x true (by omega) (by omega) (fun h => by cases h)
      simp only [true_or, if_true] at this ⊢
      exact this
    | false =>
      have hx' := hx rfl
      refine ev_else (by decide) ?_
      refine Ev.bind (f := fun k t => byte8_Encode.l0 k t (decide ((t.length : Int) > 3000)) l (l.length : Int) (i + 1)) (append_ev g (by omega)) ?_
      have := ih (i + 1) (x ++ enc (rd l i)) (decide (((x ++ enc (rd l i)).length : Int) > 3000)) (by omega) (by omega) (fun h => by
        have := of_decide_eq_false h
        omega)
      have hiff : (decide (((x ++ enc (rd l i)).length : Int) > 3000) = true ∨ 3000 < (x ++ enc (rd l i) ++ encs (l.drop (i + 1).toNat)).length) ↔ (false = true ∨ 3000 < (x ++ (enc (rd l i) ++ encs (l.drop (i + 1).toNat))).length) := by
        simp
        omega
      simp only [hiff] at this
      simp only [List.append_assoc] at this ⊢
      exact this
theorem own_enc {l : List Int} (hz : l.length ≤ 4000) : Ev (fun k => byte8_Encode.f k l) (encR l) := by
  have := own_enc_from hz l.length 0 [] false (by omega) (by omega) (by simp)
  simpa [encR, byte8_Encode.f] using this
theorem ref_l1 {l : List Int} (hz : l.length ≤ 4000) (hg : goods l = true) (d : Nat) : ∀ (i : Int) (x : List Int), 0 ≤ i → (l.length : Int) - i = d → x.length ≤ 3000 →
    Ev (fun k => caesuraref03_Encode.l1 k l x i) (if 3000 < (x ++ encs (l.drop i.toNat)).length then ([], 2) else (x ++ encs (l.drop i.toNat), 0)) := by
  induction d with
  | zero =>
    intro i x h0 hd hx
    have he : l.drop i.toNat = [] := List.drop_eq_nil_iff.2 (by omega)
    rw [he, encs_nil, List.append_nil, if_neg (by omega)]
    exact Ev.step (f := fun _ => some (x, 0)) (fun k => by rw [caesuraref03_Encode.l1, if_neg (show ¬ i < (l.length : Int) by omega)]) (Ev.now _)
  | succ d ih =>
    intro i x h0 hd hx
    have hi : i < (l.length : Int) := by omega
    have g : Good (rd l i) := goods_iff.1 hg _ (by
      have := drop_at h0 hi
      exact List.mem_of_mem_drop (by rw [this]; exact List.mem_cons_self))
    have hn := enc_len g
    rw [drop_at h0 hi, encs_cons]
    refine Ev.step (fun k => by rw [caesuraref03_Encode.l1, if_pos hi, if_pos h0, w64 (n := i + 1) (by omega) (by omega)]) ?_
    refine Ev.bind (f := fun k t => if x.length + t.length < 140737488355328 then ((some (x ++ t : List Int)).bind fun y => if (y.length : Int) > 3000 then some (([] : List Int), 2) else caesuraref03_Encode.l1 k l y (i + 1)) else none) (ref_bytes _) ?_
    refine ev_if (by omega) ?_
    show Ev (fun k => if (((x ++ enc (rd l i)).length : Int) > 3000) then some (([] : List Int), 2) else caesuraref03_Encode.l1 k l (x ++ enc (rd l i)) (i + 1)) _
    by_cases h3 : (((x ++ enc (rd l i)).length : Int) > 3000)
    · refine ev_if h3 ?_
      rw [if_pos (by rw [← List.append_assoc, List.length_append]; omega)]
      exact Ev.now _
    · refine ev_else h3 ?_
      have := ih (i + 1) (x ++ enc (rd l i)) (by omega) (by omega) (by omega)
      rw [List.append_assoc] at this
      exact this
theorem ref_l0 {l : List Int} (hz : l.length ≤ 4000) {r : List Int × Int} (h1 : goods l = true → Ev (fun k => caesuraref03_Encode.l1 k l [] 0) r) (h2 : goods l = false → r = ([], 3)) (d : Nat) : ∀ (i : Int), 0 ≤ i → (l.length : Int) - i = d → goods (l.take i.toNat) = true →
    Ev (fun k => caesuraref03_Encode.l0 k l i) r := by
  induction d with
  | zero =>
    intro i h0 hd hg
    rw [List.take_of_length_le (by omega)] at hg
    exact Ev.step (fun k => by rw [caesuraref03_Encode.l0, if_neg (show ¬ i < (l.length : Int) by omega)]) (h1 hg)
  | succ d ih =>
    intro i h0 hd hg
    have hi : i < (l.length : Int) := by omega
    refine Ev.step (fun k => by rw [caesuraref03_Encode.l0, if_pos hi, if_pos h0, w64 (n := i + 1) (by omega) (by omega)]) ?_
    refine Ev.bind (f := fun k t => if (t.length : Int) = 0 then some (([] : List Int), 3) else caesuraref03_Encode.l0 k l (i + 1)) (ref_bytes _) ?_
    by_cases g : Good (rd l i)
    · have hn := enc_len g
      refine ev_else (by omega) (ih (i + 1) (by omega) (by omega) ?_)
      rw [show (i + 1).toNat = i.toNat + 1 from by omega, List.take_succ_eq_append_getElem (by omega)]
      have e : l[i.toNat]'(by omega) = rd l i := by
        unfold rd
        rw [List.getD_eq_getElem?_getD, List.getElem?_eq_getElem (by omega)]
        rfl
      rw [e]
      unfold goods at hg ⊢
      rw [List.all_append, hg]
      simp [g]
    · refine ev_if (by rw [enc_nil.2 g]; rfl) ?_
      rw [h2 ?_]
      · exact Ev.now _
      · cases hb : goods l with
        | false => rfl
        | true =>
          refine absurd (goods_iff.1 hb _ ?_) g
          have := drop_at h0 hi
          exact List.mem_of_mem_drop (by rw [this]; exact List.mem_cons_self)
theorem ref_enc {l : List Int} (hz : l.length ≤ 4000) : Ev (fun k => caesuraref03_Encode.f k l) (encR l) := by
  refine ref_l0 hz (fun hg => ?_) (fun hg => ?_) l.length 0 (by omega) (by omega) (by simp [goods])
  · have := ref_l1 hz hg l.length 0 [] (by omega) (by omega) (by simp)
    unfold encR
    rw [if_pos hg]
    simpa using this
  · unfold encR
    rw [hg]
    rfl

/-! lines -/
/-- The last line feed ahead of a place. -/
def lastN (l : List Int) : Nat → Int
  | 0 => -1
  | i + 1 => if rd l i = 10 then (i : Int) else lastN l i
def cntN (l : List Int) : Nat → Int
  | 0 => 0
  | i + 1 => cntN l i + if rd l i = 10 then 1 else 0
theorem lastN_lt (l : List Int) : ∀ n : Nat, -1 ≤ lastN l n ∧ lastN l n < (n : Int)
  | 0 => by simp [lastN]
  | i + 1 => by
    have := lastN_lt l i
    unfold lastN
    split <;> omega
theorem cntN_le (l : List Int) : ∀ n : Nat, 0 ≤ cntN l n ∧ cntN l n ≤ n
  | 0 => by simp [cntN]
  | i + 1 => by
    have := cntN_le l i
    unfold cntN
    split <;> omega
theorem rd_take {l : List Int} {i n : Nat} (h : i < n) : rd (l.take n) (i : Int) = rd l (i : Int) := by
  unfold rd
  rw [Int.toNat_natCast, List.getD_eq_getElem?_getD, List.getD_eq_getElem?_getD, List.getElem?_take_of_lt h]
theorem count_ev {l : List Int} (hl : ∀ x ∈ l, 0 ≤ x ∧ x < 256) : ∀ n : Nat, n ≤ l.length → bytes_Count.f (l.take n) [10] = some (cntN l n) := by
  have e10 : (10 : Int).toNat.toUInt8 = 10 := rfl
  have main : ∀ n : Nat, n ≤ l.length → (Lib.countByte (Lib.bytesOf (l.take n)) 10 : Int) = cntN l n := by
    intro n
    induction n with
    | zero => intro _; simp [Lib.countByte, Lib.bytesOf, cntN]
    | succ n ih =>
      intro h
      have hi : n < l.length := by omega
      have e : rd l (n : Int) = l[n] := by
        unfold rd
        rw [Int.toNat_natCast, List.getD_eq_getElem?_getD, List.getElem?_eq_getElem hi]
        rfl
      have hb := hl _ (List.getElem_mem hi)
      rw [List.take_succ_eq_append_getElem hi]
      have := ih (by omega)
      unfold Lib.countByte Lib.bytesOf at this ⊢
      rw [List.map_append, List.count_append]
      unfold cntN
      rw [e, ← this]
      simp only [List.map_cons, List.map_nil, List.count_cons, List.count_nil]
      by_cases h10 : l[n] = 10
      · rw [if_pos h10, h10]
        simp
      · rw [if_neg h10, if_neg]
        · simp
        · intro hq
          have hq := congrArg UInt8.toNat (beq_iff_eq.1 hq)
          rw [UInt8.toNat_ofNat'] at hq
          have : (10 : UInt8).toNat = 10 := rfl
          omega
  intro n h
  show some ((Lib.countByte (Lib.bytesOf (l.take n)) (10 : Int).toNat.toUInt8 : Nat) : Int) = _
  rw [e10, main n h]
theorem last_ev {l : List Int} (hz : l.length ≤ 4000) {n : Nat} (hn : n ≤ l.length) : Ev (fun k => F.bytes_LastIndexByte.f k (l.take n) 10) (lastN l n) := by
  have hlen : (l.take n).length = n := List.length_take_of_le hn
  have main : ∀ i : Nat, i ≤ n → Ev (fun k => F.bytealg_LastIndexByte.l0 k (l.take n) 10 ((i : Int) - 1)) (lastN l i) := by
    intro i
    induction i with
    | zero =>
      intro _
      exact Ev.step (f := fun _ => some (-1)) (fun k => by rw [F.bytealg_LastIndexByte.l0, if_neg (by omega)]) (Ev.now _)
    | succ i ih =>
      intro h
      have e : (((i + 1 : Nat) : Int) - 1) = (i : Int) := by omega
      rw [e]
      refine Ev.step (fun k => by rw [F.bytealg_LastIndexByte.l0, if_pos (by omega), if_pos (by omega), if_pos (by omega), rd_take (by omega), w64 (n := (i : Int) - 1) (by omega) (by omega)]) ?_
      unfold lastN
      by_cases h10 : rd l (i : Int) = 10
      · rw [if_pos h10]
        exact ev_if h10 (Ev.now _)
      · rw [if_neg h10]
        exact ev_else h10 (ih (by omega))
  unfold F.bytes_LastIndexByte.f F.bytealg_LastIndexByte.f
  refine Ev.bind (a := lastN l n) (f := fun _ t => some t) ?_ (Ev.now _)
  rw [hlen, w64 (by omega) (by omega)]
  exact main n (by omega)
def lineR (l : List Int) (at_ : Int) : Int × Int := if at_ < 0 ∨ (l.length : Int) < at_ then (0, 0) else (cntN l at_.toNat + 1, at_ - lastN l at_.toNat)
theorem own_line {l : List Int} (hl : ∀ x ∈ l, 0 ≤ x ∧ x < 256) (hz : l.length ≤ 4000) (p : Int) : Ev (fun k => byte8_Line.f k l p) (lineR l p) := by
  unfold byte8_Line.f lineR
  by_cases h0 : p < 0
  · rw [if_pos (Or.inl h0)]
    exact ev_if h0 (Ev.step (f := fun _ => some (0, 0)) (fun k => by rw [byte8_Line.j0, if_pos rfl]) (Ev.now _))
  refine ev_else h0 ?_
  by_cases h1 : (l.length : Int) < p
  · rw [if_pos (Or.inr h1)]
    exact Ev.step (f := fun _ => some (0, 0)) (fun k => by rw [byte8_Line.j0, if_pos (decide_eq_true h1)]) (Ev.now _)
  rw [if_neg (by omega)]
  refine Ev.step (fun k => by rw [byte8_Line.j0, if_neg (by simp; omega), if_pos (by omega), if_pos (by omega), count_ev hl _ (by omega), Option.bind_some]) ?_
  refine Ev.bind (f := fun _ t => some (wrap64 (cntN l p.toNat + 1), wrap64 (p - t))) (last_ev hz (by omega)) ?_
  have a := cntN_le l p.toNat
  have b := lastN_lt l p.toNat
  rw [w64 (by omega) (by omega), w64 (by omega) (by omega)]
  exact Ev.now _
theorem ref_line {l : List Int} (hz : l.length ≤ 4000) (p : Int) : Ev (fun k => caesuraref03_Line.f k l p) (lineR l p) := by
  unfold caesuraref03_Line.f lineR
  by_cases h0 : p < 0
  · rw [if_pos (Or.inl h0)]
    exact ev_if h0 (Ev.step (f := fun _ => some (0, 0)) (fun k => by rw [caesuraref03_Line.j0, if_pos rfl]) (Ev.now _))
  refine ev_else h0 ?_
  by_cases h1 : (l.length : Int) < p
  · rw [if_pos (Or.inr h1)]
    exact Ev.step (f := fun _ => some (0, 0)) (fun k => by rw [caesuraref03_Line.j0, if_pos (decide_eq_true h1)]) (Ev.now _)
  rw [if_neg (by omega)]
  refine Ev.step (fun k => by rw [caesuraref03_Line.j0, if_neg (by simp; omega)]) ?_
  have main : ∀ d i : Nat, i + d = p.toNat → Ev (fun k => caesuraref03_Line.l0 k l p (cntN l i + 1) ((i : Int) - lastN l i) (i : Int)) (cntN l p.toNat + 1, p - lastN l p.toNat) := by
    intro d
    induction d with
    | zero =>
      intro i h
      obtain rfl : i = p.toNat := by omega
      refine Ev.step (f := fun _ => some _) (fun k => by rw [caesuraref03_Line.l0, if_neg (by omega)]) ?_
      rw [show ((p.toNat : Nat) : Int) = p from by omega]
      exact Ev.now _
    | succ d ih =>
      intro i h
      have a := cntN_le l i
      have b := lastN_lt l i
      refine Ev.step (fun k => by rw [caesuraref03_Line.l0, if_pos (by omega), if_pos (by omega), if_pos (by omega), w64 (n := (i : Int) + 1) (by omega) (by omega), w64 (n := cntN l i + 1 + 1) (by omega) (by omega), w64 (n := (i : Int) - lastN l i + 1) (by omega) (by omega)]) ?_
      have := ih (i + 1) (by omega)
      rw [show cntN l (i + 1) = cntN l i + (if rd l (i : Int) = 10 then 1 else 0) from rfl, show lastN l (i + 1) = (if rd l (i : Int) = 10 then (i : Int) else lastN l i) from rfl] at this
      by_cases h10 : rd l (i : Int) = 10
      · rw [if_pos h10, if_pos h10] at this
        refine ev_if h10 ?_
        rw [show ((i + 1 : Nat) : Int) - (i : Int) = 1 from by omega, show ((i + 1 : Nat) : Int) = (i : Int) + 1 from by omega] at this
        exact this
      · rw [if_neg h10, if_neg h10] at this
        refine ev_else h10 ?_
        rw [show ((i + 1 : Nat) : Int) - lastN l i = (i : Int) - lastN l i + 1 from by omega, show ((i + 1 : Nat) : Int) = (i : Int) + 1 from by omega, Int.add_zero] at this
        exact this
  exact main p.toNat 0 (by omega)
theorem ints_ev {l m : List Int} (hz : l.length ≤ 9223372036854775806) (h : l = m) : Ev (fun k => caesuraref01_Ints.f k l m) true := by
  subst h
  unfold caesuraref01_Ints.f
  refine ev_if rfl ?_
  have main : ∀ d i : Nat, i + d = l.length → Ev (fun k => caesuraref01_Ints.l0 k l l (i : Int)) true := by
    intro d
    induction d with
    | zero =>
      intro i h
      exact Ev.step (f := fun _ => some true) (fun k => by rw [caesuraref01_Ints.l0, if_neg (by omega)]) (Ev.now _)
    | succ d ih =>
      intro i h
      refine Ev.step (fun k => by rw [caesuraref01_Ints.l0, if_pos (by omega), if_pos (by omega), if_pos (by omega), if_pos rfl, w64 (n := (i : Int) + 1) (by omega) (by omega)]) ?_
      have := ih (i + 1) (by omega)
      rw [show ((i + 1 : Nat) : Int) = (i : Int) + 1 from by omega] at this
      exact this
  exact main l.length 0 (by omega)
end Go.Proofs.YtfdllcakpmaifaaDoor.P
