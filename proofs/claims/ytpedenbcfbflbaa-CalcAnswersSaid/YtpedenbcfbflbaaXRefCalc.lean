/- the reference's own answers. -/
import Derived.Test.YtpedenbcfbflbaaXSize
import Derived.Test.YtpedenbcfbflbaaAx3
namespace Go.Proofs.Ytpedenbcfbflbaa.X
open Go.RowKit Go.Proofs.YtpedenbcfbflbaaW.PrintWords Go.Proofs.YtpedenbcfbflbaaW.PrintLast Go.Proofs.YtpedenbcfbflbaaW.PrintMore Num Go.Proofs.Ytpedenbcfbflbaa.PMarkMakes Go.Proofs.Ytpedenbcfbflbaa.L Go.Proofs.Ytpedenbcfbflbaa.A
set_option linter.unusedVariables false
set_option linter.unusedSimpArgs false

theorem rdL1_at {n : List (List Int)} {i : Nat} (h : i < n.length) : A.rd_L1 n (i : Int) = n[i] := by
  unfold A.rd_L1
  rw [Int.toNat_natCast, List.getD_eq_getElem?_getD, List.getElem?_eq_getElem h]
  rfl
theorem copy_l0 (s : Int) (n : List (List Int)) (e : List Bool) (hs : SmallD n e) : ∀ (d i k : Nat), i + d = n.length → caesuraref15_Copy.l0 (d + 1 + k) i s n e s (n.take i) e = some (s, n, e) := by
  intro d
  induction d with
  | zero =>
    intro i k hi
    rw [show 0 + 1 + k = k + 1 by omega]
    unfold caesuraref15_Copy.l0
    rw [if_neg (by omega), List.take_of_length_le (by omega)]
  | succ d ih =>
    intro i k hi
    have hil : i < n.length := by omega
    have h1 := hs.2.1 _ (List.getElem_mem hil)
    have h0 := hs.1
    rw [show d + 1 + 1 + k = (d + 1 + k) + 1 by omega]
    unfold caesuraref15_Copy.l0
    rw [if_pos (by omega)]
    simp only [Option.bind_some, List.length_nil, Nat.zero_add, List.nil_append]
    rw [if_pos (by omega), rdL1_at hil, if_pos (by omega), if_pos (by rw [List.length_take]; omega), wrap64_of (n := (i : Int) + 1) (by omega) (by omega), show n.take i ++ [n[i]] = n.take (i + 1) by rw [List.take_succ_eq_append_getElem hil]]
    have := ih (i + 1) k (by omega)
    rw [show ((i + 1 : Nat) : Int) = (i : Int) + 1 by omega] at this
    exact this
theorem copy_ev (s : Int) (n : List (List Int)) (e : List Bool) (hs : SmallD n e) : Ev (fun k => caesuraref15_Copy.f k s n e) (s, n, e) := by
  refine Ev.of (k := n.length + 1) (fun k => caesuraref15_Copy.mono _ _ _ k) ?_
  unfold caesuraref15_Copy.f
  have h2 := hs.2.2
  simp only [Option.bind_some, List.length_nil, Nat.zero_add, List.nil_append]
  rw [if_pos (by omega)]
  have := copy_l0 s n e hs n.length 0 0 (by omega)
  simpa using this
theorem set_not (e : List Bool) (j : Nat) (hj : j < e.length) : ((e.take j).map (!·) ++ e.drop j).set j (!(rdOf false ((e.take j).map (!·) ++ e.drop j) (j : Int))) = (e.take (j + 1)).map (!·) ++ e.drop (j + 1) := by
  have hg := get_not e j hj
  have : rdOf false ((e.take j).map (!·) ++ e.drop j) (j : Int) = e[j] := by
    unfold rdOf
    rw [Int.toNat_natCast, List.getD_eq_getElem?_getD, hg]
    rfl
  rw [this]
  exact drop_set_not e j hj
theorem rnot_l0 (s : Int) (n : List (List Int)) (e : List Bool) (hl : e.length ≤ 140737488351232) : ∀ (d i k : Nat), i + d = e.length → caesuraref16_Not.l0 (d + 1 + k) i s n ((e.take i).map (!·) ++ e.drop i) = some (s, n, e.map (!·), 0) := by
  intro d
  induction d with
  | zero =>
    intro i k hi
    have hi' : i = e.length := by omega
    rw [show 0 + 1 + k = k + 1 by omega]
    unfold caesuraref16_Not.l0
    have hlen : ((e.take i).map (!·) ++ e.drop i).length = e.length := by simp; omega
    rw [if_neg (by omega), hi', List.take_length, List.drop_length, List.append_nil]
  | succ d ih =>
    intro i k hi
    have hlen : ((e.take i).map (!·) ++ e.drop i).length = e.length := by simp; omega
    rw [show d + 1 + 1 + k = (d + 1 + k) + 1 by omega]
    unfold caesuraref16_Not.l0
    rw [if_pos (by omega), if_pos (by omega), wrap64_of (n := (i : Int) + 1) (by omega) (by omega), Int.toNat_natCast, set_not e i (by omega)]
    have := ih (i + 1) k (by omega)
    rw [show ((i + 1 : Nat) : Int) = (i : Int) + 1 by omega] at this
    exact this
theorem rnot_ev (s : Int) (n : List (List Int)) (e : List Bool) (hs : SmallD n e) : Ev (fun k => caesuraref16_Not.f k s n e) (notF s n e) := by
  unfold caesuraref16_Not.f notF
  simp only [rightx.f, Option.bind_some]
  cases hr : rightB s n e with
  | false => simp only [Bool.false_eq_true, if_false]; exact Ev.now _
  | true =>
    simp only [if_true]
    refine Ev.bind (copy_ev s n e hs) ?_
    have := rnot_l0 s n e hs.2.2 e.length 0 0 (by omega)
    simp only [List.take_zero, List.map_nil, List.nil_append, List.drop_zero] at this
    exact Ev.of (fun k => caesuraref16_Not.mono_l k _ _ _ _) this
theorem same_ev (s1 : Int) (n1 : List (List Int)) (e1 : List Bool) (h1 : n1.length ≤ 9223372036854775807) (h2 : ∀ r ∈ n1, r.length ≤ 9223372036854775807) (h3 : e1.length ≤ 9223372036854775807) : Ev (fun k => caesuraref15_Same.f k s1 n1 e1 s1 n1 e1) true := by
  obtain ⟨k, hk⟩ := same_f s1 n1 e1 s1 n1 e1 h1 h2 h3
  simp at hk
  exact Ev.of (fun k => caesuraref15_Same.mono _ _ _ _ _ _ k) hk
theorem all_ev (a : Int) : ∃ r1 r2 r3 r4, calc_All.f a = some (r1, r2, r3, r4) ∧ caesuraref16_All.f a = some (r1, r2, r3, r4) ∧ r2.length ≤ 400 ∧ (∀ r ∈ r2, r.length ≤ 400) ∧ r3.length ≤ 400 := by
  unfold calc_All.f caesuraref16_All.f
  by_cases h1 : a < 1
  · rw [if_pos h1]; exact ⟨_, _, _, _, rfl, rfl, by simp, by simp, by simp⟩
  · rw [if_neg h1]
    by_cases h2 : a > 400
    · rw [if_pos h2]; exact ⟨_, _, _, _, rfl, rfl, by simp, by simp, by simp⟩
    · rw [if_neg h2, if_pos (by omega), if_pos (by omega)]
      exact ⟨_, _, _, _, rfl, rfl, by simp, by simp; omega, by simp⟩

/-- A search by numbers, as the reference does it. -/
structure RV (s : Int) (n : List (List Int)) (M : List Int) (met : List Bool) (i j : Nat) : Prop where
  zero : 0 ∈ M
  reach : ∀ q ∈ M, 0 ≤ q ∧ q < n.length ∧ ∃ l, inB s l = true ∧ runF n 0 l = q
  nd : M.Nodup
  len : met.length = n.length
  met : ∀ q : Int, 0 ≤ q → q < n.length → rdOf false met q = decide (q ∈ M)
  done : ∀ k, k < i → ∀ v : Nat, (v : Int) < s → behindN n (M.getD k 0) v ∈ M
  part : ∀ v : Nat, v < j → behindN n (M.getD i 0) v ∈ M
theorem RV.size {s : Int} {n : List (List Int)} {M : List Int} {met : List Bool} {i j : Nat} (h : RV s n M met i j) : M.length ≤ n.length := by
  have := nodup_le' M ((List.range n.length).map (fun (i : Nat) => (i : Int))) h.nd (fun q hq => by
    have := h.reach q hq
    exact List.mem_map.2 ⟨q.toNat, List.mem_range.2 (by omega), by omega⟩)
  simpa using this
theorem getD_append_lt {α : Type} {l m : List α} {i : Nat} {d : α} (h : i < l.length) : (l ++ m).getD i d = l.getD i d := by
  rw [List.getD_eq_getElem?_getD, List.getD_eq_getElem?_getD, List.getElem?_append_left h]
theorem RV.known {s : Int} {n : List (List Int)} {M : List Int} {met : List Bool} {i j : Nat} (h : RV s n M met i j) (hm : behindN n (M.getD i 0) j ∈ M) : RV s n M met i (j + 1) :=
  ⟨h.zero, h.reach, h.nd, h.len, h.met, h.done, fun v hv => by
    rcases Nat.lt_or_ge v j with h1 | h1
    · exact h.part v h1
    · obtain rfl : v = j := by omega
      exact hm⟩
theorem RV.new {s : Int} {n : List (List Int)} {e : List Bool} {M : List Int} {met : List Bool} {i j : Nat} (h : RV s n M met i j) (hr : rightB s n e = true) (hi : i < M.length) (hj : (j : Int) < s) (hm : behindN n (M.getD i 0) j ∉ M) :
    RV s n (M ++ [behindN n (M.getD i 0) j]) (met.set (behindN n (M.getD i 0) j).toNat true) i (j + 1) := by
  obtain ⟨a1, a2, a3, a4, a5, a6⟩ := rightB_spec hr
  have hq0 : M.getD i 0 ∈ M := by
    rw [List.getD_eq_getElem?_getD, List.getElem?_eq_getElem hi]
    exact List.getElem_mem _
  generalize hq : M.getD i 0 = q0 at *
  obtain ⟨b1, b2, l, b3, b4⟩ := h.reach q0 hq0
  obtain ⟨t1, t2⟩ := getD_row a6 q0 b1 b2
  have ht := t2 j (by omega)
  have hx : 0 ≤ behindN n q0 j ∧ behindN n q0 j < n.length := ht
  have hs : ∀ x ∈ M, x ∈ M ++ [behindN n q0 j] := fun x hx => List.mem_append_left _ hx
  have hgi : (M ++ [behindN n q0 j]).getD i 0 = q0 := by rw [getD_append_lt hi]; exact hq
  refine ⟨hs _ h.zero, fun q hq => ?_, ?_, by simp [h.len], fun q h0 h1 => ?_, fun k hk v hv => ?_, fun v hv => ?_⟩
  · rcases List.mem_append.1 hq with hq | hq
    · exact h.reach q hq
    · rw [List.mem_singleton] at hq
      subst hq
      exact ⟨hx.1, hx.2, l ++ [(j : Int)], inB_snoc b3 (by omega) hj, by rw [runF_snoc, b4, Int.toNat_natCast]⟩
  · rw [List.nodup_append]
    exact ⟨h.nd, by simp, by simp; intro a ha e; exact hm (e ▸ ha)⟩
  · have hm0 := h.met q h0 h1
    unfold rdOf at hm0 ⊢
    rw [List.getD_eq_getElem?_getD, List.getElem?_set]
    by_cases e1 : (behindN n q0 j).toNat = q.toNat
    · have e2 : q = behindN n q0 j := by omega
      rw [if_pos e1, if_pos (by rw [h.len]; omega)]
      simp [e2]
    · have e2 : q ≠ behindN n q0 j := by omega
      rw [if_neg e1, ← List.getD_eq_getElem?_getD, hm0]
      simp [e2]
  · rw [getD_append_lt (by omega)]
    exact hs _ (h.done k hk v hv)
  · rw [hgi]
    rcases Nat.lt_or_ge v j with h1 | h1
    · exact hs _ (hq ▸ h.part v h1)
    · obtain rfl : v = j := by omega
      simp
theorem RV.next {s : Int} {n : List (List Int)} {M : List Int} {met : List Bool} {i j : Nat} (h : RV s n M met i j) (hj : s ≤ (j : Int)) : RV s n M met (i + 1) 0 :=
  ⟨h.zero, h.reach, h.nd, h.len, h.met, fun k hk v hv => by
    rcases Nat.lt_or_ge k i with h1 | h1
    · exact h.done k h1 v hv
    · obtain rfl : k = i := by omega
      exact h.part v (by omega), fun v hv => by omega⟩
theorem reached_l1 {s : Int} {n : List (List Int)} {e : List Bool} (hr : rightB s n e = true) : ∀ (d : Nat) (i j : Nat) (M : List Int) (met : List Bool), (n.length - i) * (s.toNat + 1) - j = d → i < M.length → j ≤ s.toNat → RV s n M met i j →
    ∃ M' met' i', Ev (fun k => caesuraref16_Reached.l1 k met M i j s n e) met' ∧ RV s n M' met' i' 0 ∧ M'.length ≤ i' := by
  obtain ⟨a1, a2, a3, a4, a5, a6⟩ := rightB_spec hr
  intro d
  induction d using Nat.strongRecOn with
  | _ d ih =>
    intro i j M met hd hi hj hv
    have hsz := hv.size
    have hrd : rd M (i : Int) = M.getD i 0 := by simp [rd]
    have hq0 : M.getD i 0 ∈ M := by
      rw [List.getD_eq_getElem?_getD, List.getElem?_eq_getElem hi]
      exact List.getElem_mem _
    obtain ⟨b1, b2, _⟩ := hv.reach _ hq0
    have hmul : (n.length - i) * (s.toNat + 1) = (n.length - (i + 1)) * (s.toNat + 1) + (s.toNat + 1) := by
      rw [show n.length - i = (n.length - (i + 1)) + 1 by omega, Nat.add_mul, Nat.one_mul]
    obtain ⟨mA, hmA⟩ : ∃ x, x = (n.length - i) * (s.toNat + 1) := ⟨_, rfl⟩
    obtain ⟨mB, hmB⟩ : ∃ x, x = (n.length - (i + 1)) * (s.toNat + 1) := ⟨_, rfl⟩
    rw [← hmA] at hd hmul
    rw [← hmB] at hmul
    have m1 : (n.length - i) * (s.toNat + 1) - (j + 1) < d := by rw [← hmA]; clear hmA hmB; omega
    have m2 : j = s.toNat → (n.length - (i + 1)) * (s.toNat + 1) - 0 < d := fun e1 => by rw [← hmB]; clear hmA hmB; omega
    have M1 := Aside0.mk m1
    have M2 := Aside0.mk m2
    clear hmA hmB hmul hd mA mB m1 m2
    by_cases hjs : (j : Int) < s
    · have hj1 : j + 1 ≤ s.toNat := by omega
      have hlM : M.length < 17592186044416 := by omega
      have p1 : (0 : Int) ≤ (i : Int) := by omega
      have p2 : (i : Int) < (M.length : Int) := by omega
      have p3 : (0 : Int) ≤ (j : Int) := by omega
      have hw : wrap64 ((j : Int) + 1) = ((j + 1 : Nat) : Int) := by rw [wrap64_of (by omega) (by omega)]; omega
      obtain ⟨t1, t2⟩ := getD_row a6 _ b1 b2
      have hto : rd (A.rd_L1 n (M.getD i 0)) (j : Int) = behindN n (M.getD i 0) j := by simp [rd, A.rd_L1, behindN]
      have hml : ((A.rd_L1 n (M.getD i 0)).length : Int) = s := t1
      have hb : 0 ≤ behindN n (M.getD i 0) j ∧ behindN n (M.getD i 0) j < n.length := t2 j (by have h := hjs; rw [← t1] at h; exact Int.ofNat_lt.1 h)
      have p4 : (j : Int) < ((A.rd_L1 n (M.getD i 0)).length : Int) := by rw [hml]; exact hjs
      have p5 : behindN n (M.getD i 0) j < (met.length : Int) := by rw [hv.len]; exact hb.2
      have hmt := hv.met _ hb.1 hb.2
      by_cases hm : behindN n (M.getD i 0) j ∈ M
      · obtain ⟨M', met', i', h1, h2, h3⟩ := ih _ M1.out i (j + 1) M met rfl hi hj1 (hv.known hm)
        have key : ∀ k, caesuraref16_Reached.l1 (k + 1) met M i j s n e = caesuraref16_Reached.l1 k met M i ((j + 1 : Nat) : Int) s n e := fun k => by
          conv => lhs; unfold caesuraref16_Reached.l1
          rw [if_pos hjs, if_pos p1, if_pos p2, hrd, if_pos b1, if_pos b2, if_pos p3, if_pos p4, hto, if_pos hb.1, if_pos p5, hmt, if_pos (decide_eq_true hm), hw]
        exact ⟨M', met', i', Ev.step key h1, h2, h3⟩
      · obtain ⟨M', met', i', h1, h2, h3⟩ := ih _ M1.out i (j + 1) _ _ rfl (by rw [List.length_append]; exact Nat.lt_of_lt_of_le hi (Nat.le_add_right _ _)) hj1 (hv.new hr hi hjs hm)
        have key : ∀ k, caesuraref16_Reached.l1 (k + 1) met M i j s n e = caesuraref16_Reached.l1 k (met.set (behindN n (M.getD i 0) j).toNat true) (M ++ [behindN n (M.getD i 0) j]) i ((j + 1 : Nat) : Int) s n e := fun k => by
          conv => lhs; unfold caesuraref16_Reached.l1
          rw [if_pos hjs, if_pos p1, if_pos p2, hrd, if_pos b1, if_pos b2, if_pos p3, if_pos p4, hto, if_pos hb.1, if_pos p5, hmt, if_neg (by simpa using hm), if_pos hlM, hw]
        exact ⟨M', met', i', Ev.step key h1, h2, h3⟩
    · clear hrd hq0 b1 b2 hr a6 a5
      have hj' : j = s.toNat := by omega
      have hsj : s ≤ (j : Int) := by omega
      have hw : wrap64 ((i : Int) + 1) = ((i + 1 : Nat) : Int) := by rw [wrap64_of (by omega) (by omega)]; omega
      have hn := hv.next hsj
      have key : ∀ k, caesuraref16_Reached.l1 (k + 1) met M i j s n e = caesuraref16_Reached.l0 k met M ((i + 1 : Nat) : Int) s n e := fun k => by
        conv => lhs; unfold caesuraref16_Reached.l1
        rw [if_neg hjs, hw]
      by_cases hi2 : i + 1 < M.length
      · have hi3 : ((i + 1 : Nat) : Int) < (M.length : Int) := Int.ofNat_lt.2 hi2
        obtain ⟨M', met', i', h1, h2, h3⟩ := ih _ (M2.out hj') (i + 1) 0 M met rfl hi2 (Nat.zero_le _) hn
        have key2 : ∀ k, caesuraref16_Reached.l0 (k + 1) met M ((i + 1 : Nat) : Int) s n e = caesuraref16_Reached.l1 k met M ((i + 1 : Nat) : Int) ((0 : Nat) : Int) s n e := fun k => by
          conv => lhs; unfold caesuraref16_Reached.l0
          rw [if_pos hi3]
          rfl
        exact ⟨M', met', i', Ev.step key (Ev.step key2 h1), h2, h3⟩
      · have hi3 : ¬ ((i + 1 : Nat) : Int) < (M.length : Int) := fun h => hi2 (Int.ofNat_lt.1 h)
        have key2 : ∀ k, caesuraref16_Reached.l0 (k + 1) met M ((i + 1 : Nat) : Int) s n e = some met := fun k => by
          conv => lhs; unfold caesuraref16_Reached.l0
          rw [if_neg hi3]
        exact ⟨M, met, i + 1, Ev.step key (Ev.step key2 (Ev.now _)), hn, Nat.not_lt.1 hi2⟩
theorem reached_ev {s : Int} {n : List (List Int)} {e : List Bool} (hr : rightB s n e = true) : ∃ M met i, Ev (fun k => caesuraref16_Reached.f k s n e) met ∧ RV s n M met i 0 ∧ M.length ≤ i := by
  obtain ⟨a1, a2, a3, a4, a5, a6⟩ := rightB_spec hr
  have h0 : RV s n [0] ((List.replicate n.length false).set 0 true) 0 0 := by
    refine ⟨by simp, fun q hq => ?_, by simp, by simp, fun q h0 h1 => ?_, fun k hk => by omega, fun v hv => by omega⟩
    · rw [List.mem_singleton] at hq
      subst hq
      exact ⟨Int.le_refl _, by omega, [], rfl, rfl⟩
    · unfold rdOf
      rw [List.getD_eq_getElem?_getD, List.getElem?_set]
      by_cases e1 : 0 = q.toNat
      · have : q = 0 := by omega
        rw [if_pos e1, if_pos (by simp; omega)]
        simp [this]
      · have : q ≠ 0 := by omega
        rw [if_neg e1, List.getElem?_replicate]
        split <;> simp [this]
  obtain ⟨M, met, i, h1, h2, h3⟩ := reached_l1 hr _ 0 0 [0] _ rfl (by simp) (by omega) h0
  refine ⟨M, met, i, ?_, h2, h3⟩
  unfold caesuraref16_Reached.f
  simp only [Int.toNat_natCast, Option.bind_some, List.length_replicate, show (0 : Int) ≤ (n.length : Int) by omega, show n.length ≤ 281474976710656 by omega, show (0 : Int) < (n.length : Int) by omega, if_true]
  have key2 : ∀ k, caesuraref16_Reached.l0 (k + 1) ((List.replicate n.length false).set (Int.toNat 0) true) [0] 0 s n e = caesuraref16_Reached.l1 k ((List.replicate n.length false).set 0 true) [0] ((0 : Nat) : Int) ((0 : Nat) : Int) s n e := fun k => by
    conv => lhs; unfold caesuraref16_Reached.l0
    rw [if_pos (by simp)]
    rfl
  exact Ev.step key2 h1
theorem rempty_l0 (s : Int) (n : List (List Int)) (e met : List Bool) (hl : met.length ≤ 3000) (hle : met.length = e.length) : ∀ (d i : Nat), i + d = met.length → ∃ r, Ev (fun k => caesuraref16_Empty.l0 k met i s n e) r ∧ (r = true ↔ ∀ q, i ≤ q → q < met.length → met.getD q false = true → e.getD q false = false) := by
  intro d
  induction d with
  | zero =>
    intro i hi
    refine ⟨true, Ev.step (fun k => by simp only [caesuraref16_Empty.l0]; rfl) ?_, ⟨fun _ q h1 h2 => by omega, fun _ => rfl⟩⟩
    simp only [show ¬ (i : Int) < (met.length : Int) by omega, if_false]
    exact Ev.now _
  | succ d ih =>
    intro i hi
    obtain ⟨r, h1, h2⟩ := ih (i + 1) (by omega)
    have hw : wrap64 ((i : Int) + 1) = ((i + 1 : Nat) : Int) := by rw [wrap64_of (by omega) (by omega)]; omega
    have e1 : rdOf false met (i : Int) = met.getD i false := by simp [rdOf]
    have e2 : rdOf false e (i : Int) = e.getD i false := by simp [rdOf]
    by_cases hm : met.getD i false = true
    · by_cases he : e.getD i false = true
      · refine ⟨false, Ev.step (fun k => by simp only [caesuraref16_Empty.l0]; rfl) ?_, ⟨fun h => (by cases h), fun h => ?_⟩⟩
        · simp only [e1, e2, hm, he, show (i : Int) < (met.length : Int) by omega, show (0 : Int) ≤ (i : Int) by omega, show (i : Int) < (e.length : Int) by omega, if_true]
          exact Ev.now _
        · have := h i (Nat.le_refl _) (by omega) hm
          rw [he] at this
          cases this
      · refine ⟨r, Ev.step (fun k => by simp only [caesuraref16_Empty.l0]; rfl) ?_, h2.trans ⟨fun h q h1 h3 h4 => ?_, fun h q h1 => h q (by omega)⟩⟩
        · simp only [e1, e2, hm, he, hw, show (i : Int) < (met.length : Int) by omega, show (0 : Int) ≤ (i : Int) by omega, show (i : Int) < (e.length : Int) by omega, if_true, if_false]
          exact h1
        · rcases Nat.lt_or_ge i q with h5 | h5
          · exact h q h5 h3 h4
          · obtain rfl : q = i := by omega
            simpa using he
    · refine ⟨r, Ev.step (fun k => by simp only [caesuraref16_Empty.l0]; rfl) ?_, h2.trans ⟨fun h q h1 h3 h4 => ?_, fun h q h1 => h q (by omega)⟩⟩
      · simp only [e1, hm, hw, show (i : Int) < (met.length : Int) by omega, show (0 : Int) ≤ (i : Int) by omega, if_true, if_false]
        exact h1
      · rcases Nat.lt_or_ge i q with h5 | h5
        · exact h q h5 h3 h4
        · obtain rfl : q = i := by omega
          exact absurd h4 hm
theorem rempty_ev (s : Int) (n : List (List Int)) (e : List Bool) : Ev (fun k => caesuraref16_Empty.f k s n e) (emptyF s n e) := by
  unfold caesuraref16_Empty.f
  simp only [rightx.f, Option.bind_some]
  cases hr : rightB s n e with
  | false =>
    simp only [Bool.false_eq_true, if_false]
    unfold emptyF
    rw [hr]
    exact Ev.now _
  | true =>
    simp only [if_true]
    obtain ⟨a1, a2, a3, a4, a5, a6⟩ := rightB_spec hr
    obtain ⟨M, met, i, h1, h2, h3⟩ := reached_ev hr
    obtain ⟨r, h4, h5⟩ := rempty_l0 s n e met (by rw [h2.len]; exact a4) (by rw [h2.len, a5]) met.length 0 (by omega)
    have hmem : ∀ q : Nat, q < met.length → (met.getD q false = true ↔ (q : Int) ∈ M) := fun q hq => by
      have := h2.met (q : Int) (by omega) (by rw [h2.len] at hq; omega)
      simp only [rdOf, Int.toNat_natCast] at this
      rw [this]
      simp
    have hall : ∀ l : List Int, inB s l = true → ∀ q ∈ M, runF n q l ∈ M := by
      intro l
      induction l with
      | nil => exact fun _ q hq => hq
      | cons v r ih =>
        intro hl q hq
        rw [inB_cons, Bool.and_eq_true, Bool.and_eq_true, decide_eq_true_eq, decide_eq_true_eq] at hl
        obtain ⟨j, hj, rfl⟩ := List.getElem_of_mem hq
        have hd := h2.done j (by omega) v.toNat (by omega)
        rw [List.getD_eq_getElem?_getD, List.getElem?_eq_getElem hj] at hd
        exact ih hl.2 _ hd
    have hrr : r = emptyF s n e := by
      rw [Bool.eq_iff_iff, h5, emptyF_iff hr]
      constructor
      · intro h l hl
        have hin := hall l hl 0 h2.zero
        obtain ⟨b1, b2, _⟩ := h2.reach _ hin
        have hq := (hmem (runF n 0 l).toNat (by rw [h2.len]; omega)).2 (by rw [Int.toNat_of_nonneg b1]; exact hin)
        exact h _ (Nat.zero_le _) (by rw [h2.len]; omega) hq
      · intro h q _ hq hm
        obtain ⟨_, _, l, h6, h7⟩ := h2.reach _ ((hmem q hq).1 hm)
        have := h l h6
        rw [h7, Int.toNat_natCast] at this
        exact this
    rw [← hrr]
    exact Ev.bind h1 h4
end Go.Proofs.Ytpedenbcfbflbaa.X
