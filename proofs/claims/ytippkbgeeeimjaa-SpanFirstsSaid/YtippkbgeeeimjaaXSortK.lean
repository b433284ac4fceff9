/- Between a row of one's own, of structs, and what the shelf's sort says of it. -/
import Derived.Test.YtippkbgeeeimjaaShelfP
import Derived.Test.YtippkbgeeeimjaaXRules
import Derived.Lib.OwnBridge
namespace Go.Proofs.Ytippkbgeeeimjaa.L
open Go.RowKit Go.Shelf Go.Sort Go.Lib Go.Proofs.YtippkbgeeeimjaaW.PrintWords Go.Proofs.YtippkbgeeeimjaaW.PrintLast Go.Proofs.YtippkbgeeeimjaaW.PrintMore Go.Proofs.Ytippkbgeeeimjaa.A
set_option linter.unusedVariables false
set_option linter.unusedSimpArgs false
section
variable {α : Type} [Inhabited α] (enc : α → List Value) (k : Nat) (hk0 : 0 < k) (hk : ∀ x, (enc x).length = k)
include hk0 hk
theorem flat_at (d : Array α) (j : Nat) (hj : j < d.size) (i : Nat) (hi : i < k) : (flatK enc k d).toList[j * k + i]? = (enc d[j]!)[i]? := by
  have hlt : j * k + i < d.size * k := by
    have : (j + 1) * k ≤ d.size * k := Nat.mul_le_mul_right _ hj
    rw [Nat.add_mul, Nat.one_mul] at this
    omega
  have h1 := get_flatK enc k d (j * k + i) hlt
  have e1 : (j * k + i) / k = j := by
    rw [Nat.mul_comm, Nat.mul_add_div hk0, Nat.div_eq_of_lt hi, Nat.add_zero]
  have e2 : (j * k + i) % k = i := by
    rw [Nat.mul_comm, Nat.mul_add_mod, Nat.mod_eq_of_lt hi]
  rw [e1, e2] at h1
  have hs : j * k + i < (flatK enc k d).size := by simpa using hlt
  rw [getElem!_pos (flatK enc k d) (j * k + i) hs, getElem!_pos (enc d[j]!) i (by rw [hk]; exact hi)] at h1
  rw [Array.getElem?_toList, Array.getElem?_eq_getElem hs, h1, List.getElem?_eq_getElem (by rw [hk]; exact hi)]
theorem flat_reps (d : Array α) {R : α → List Value → Prop} (hR : ∀ x, R x (enc x)) : Reps R k d.toList (flatK enc k d).toList := by
  refine ⟨by simp, fun j p hj => ?_⟩
  have hjs : j < d.size := by
    have := (List.getElem?_eq_some_iff.1 hj).1
    simpa using this
  have hp : d[j]! = p := by
    rw [getElem!_pos d j hjs]
    have := (List.getElem?_eq_some_iff.1 hj).2
    simpa using this
  have : ((flatK enc k d).toList.drop (j * k)).take k = enc p := by
    apply List.ext_getElem?
    intro i
    rw [List.getElem?_take]
    by_cases hi : i < k
    · rw [if_pos hi, List.getElem?_drop, flat_at enc k hk0 hk d j hjs i hi, hp]
    · rw [if_neg hi, List.getElem?_eq_none (by rw [hk]; omega)]
  rw [this]
  exact hR p
variable {d : Kd α} (hsz : d.sz = k)
include hsz
theorem holds_R {w : World} {base e g n cap : Nat} {ok : Nat → Prop} {xs : List α} (hopen : ∀ {w x cs}, d.K w x cs → cs = enc x) (h : Kd.R d e w base ok (.slice (some ⟨g, 0, none⟩) n cap) xs) : HoldsK enc k w g 0 xs.toArray := by
  obtain ⟨hn, hnc, hC⟩ := Kd.R_reads' h
  obtain ⟨cells, hb⟩ : ∃ cells, w.heap[g]? = some (.cells cells e (0, 0)) := by
    obtain ⟨inner, ho⟩ := Kd.R_own h
    exact own_typed ho g (by simp [Value.ownBlock])
  intro j hj
  have hj' : j < xs.length * k := by simpa using hj
  have hxl : 0 < xs.length := by
    rcases Nat.eq_zero_or_pos xs.length with h0 | h0
    · rw [h0] at hj'; simp at hj'
    · exact h0
  refine ⟨?_, blk_frozen hb _⟩
  obtain ⟨ad, hA, hcell⟩ := hC.2.2 hxl
  injection hA with hA
  subst hA
  have hq : j / k < xs.length := (Nat.div_lt_iff_lt_mul hk0).2 hj'
  have hm : j % k < k := Nat.mod_lt _ hk0
  obtain ⟨c, hcl, hcK, hcc⟩ := hcell (j / k) _ (List.getElem?_eq_getElem hq)
  obtain rfl := hopen hcK
  have e1 : j / k * k + j % k = j := by rw [Nat.mul_comm]; exact Nat.div_add_mod j k
  have h2 := hcc (j % k) _ (List.getElem?_eq_getElem (by rw [hk]; exact hm))
  rw [hsz, e1, add_plain] at h2
  have h1 := get_flatK enc k xs.toArray j (by simpa using hj')
  show w.cell? ⟨g, 0 + j, none⟩ = some (flatK enc k xs.toArray)[j]!
  rw [h1, Nat.zero_add, h2]
  congr 1
  have e2 : xs.toArray[j / k]! = xs[j / k] := by rw [getElem!_pos xs.toArray (j / k) (by simpa using hq)]; simp
  rw [e2, getElem!_pos (enc xs[j / k]) (j % k) (by rw [hk]; exact hm)]
theorem sorted_R {w : World} {base e g n cap m : Nat} {ok : Nat → Prop} {xs : List α} {ys : Array α} {os : Array Obj} (hmk : ∀ w base ok x, d.M w base ok x (enc x)) (h : Kd.R d e w base ok (.slice (some ⟨g, 0, none⟩) n cap) xs) (hy : ys.size = xs.length) :
    Kd.R d e (sortWorldK enc k w g 0 m ys os) base ok (.slice (some ⟨g, 0, none⟩) n cap) ys.toList := by
  obtain ⟨hok, inner, ⟨ho1, ho2⟩, hr⟩ := h
  rcases ho2 with ⟨hv, _⟩ | ⟨g', cap', cur, hv, hb, hh, hn, hcm, hcs, ht⟩
  · cases hv
  injection hv with ha hl hc
  injection ha with ha
  injection ha with ha
  subst ha; subst hc
  have hl' : n = ys.toList.length := by rw [hl]; simp [hy]
  have hlt : g < w.heap.size := blk_lt hh
  refine ⟨hok, (flatK enc k ys).toList, ⟨by simp [hsz], .inr ⟨g, cap, putCells id 0 (flatK enc k ys) cur, by rw [hl'], hb, ?_, by simpa [hy] using hn, hcm, by simpa [putCells] using hcs, ?_⟩⟩, by rw [hsz]; exact flat_reps enc k hk0 hk ys (fun x => hmk _ _ _ x)⟩
  · have : ((Sort.ahead w m).heap.modify g (onCells (putCells id 0 (flatK enc k ys))))[g]? = some (.cells (putCells id 0 (flatK enc k ys) cur) e (0, 0)) := by
      simp [Sort.ahead, Array.getElem?_modify, hh, onCells]
    show ((Sort.ahead w m).heap.modify g (onCells (putCells id 0 (flatK enc k ys))) ++ os)[g]? = _
    rw [Array.getElem?_append_left (by simpa [Sort.ahead] using hlt)]
    exact this
  · apply List.ext_getElem?
    intro j
    have hys : ys.toList.length = ys.size := by simp
    rw [List.getElem?_take, hsz, hys]
    by_cases hj : j < ys.size * k
    · have hjc : j < cur.size := by
        rw [hcs, hsz]
        have : ys.size * k ≤ cap * k := Nat.mul_le_mul_right _ (by rw [hy]; exact hn)
        omega
      rw [if_pos hj, Array.getElem?_toList, Array.getElem?_toList]
      simp only [putCells, Array.getElem?_mapIdx, Array.getElem?_eq_getElem hjc, Option.map_some]
      rw [if_pos (by simp; exact hj), Array.getElem?_eq_getElem (by simpa using hj)]
      simp [getElem!_pos, hj]
    · rw [if_neg hj, List.getElem?_eq_none (by simp; omega)]
omit hk0 hk hsz in
theorem sorted_below {w0 w : World} {B g m : Nat} {ys : Array α} {os : Array Obj} (h : Below B w0 w) (hg : B ≤ g) (hgw : g < w.heap.size) : Below B w0 (sortWorldK enc k w g 0 m ys os) := by
  refine ⟨h.os, h.tape, h.output, ?_, fun q hq => ?_⟩
  · have := h.size
    show _ ≤ ((Sort.ahead w m).heap.modify g (onCells (putCells id 0 (flatK enc k ys))) ++ os).size
    simp [Sort.ahead]
    omega
  · rw [← h.block q hq]
    show ((Sort.ahead w m).heap.modify g (onCells (putCells id 0 (flatK enc k ys))) ++ os)[q]? = _
    rw [Array.getElem?_append_left (by simp [Sort.ahead]; omega)]
    simp [Sort.ahead, Array.getElem?_modify, show g ≠ q by omega]
end
end Go.Proofs.Ytippkbgeeeimjaa.L
