/- slices.SortFunc of steps. -/
import Derived.Test.YtippkbgeeeimjaaXSortK
namespace Go.Proofs.Ytippkbgeeeimjaa.L
open Go.RowKit Go.Shelf Go.Sort Go.Lib Go.Proofs.YtippkbgeeeimjaaW.PrintWords Go.Proofs.YtippkbgeeeimjaaW.PrintLast Go.Proofs.YtippkbgeeeimjaaW.PrintMore Go.Proofs.Ytippkbgeeeimjaa.A
set_option linter.unusedVariables false
set_option linter.unusedSimpArgs false
instance : Inhabited S68 := ⟨z68⟩
def enc68 (x : S68) : List Value := [.int .i64 x.f0, .int .i64 x.f1, .int .i64 x.f2]
theorem lt68 (x y : S68) : ltOf (fun x y : S68 => cmpI x.f0 y.f0) x y = decide (x.f0 < y.f0) := by
  unfold ltOf cmpI
  by_cases h1 : x.f0 < y.f0
  · simp [h1]
  · by_cases h2 : y.f0 < x.f0 <;> simp [h1, h2]
theorem swo68 : SWO (ltOf fun x y : S68 => cmpI x.f0 y.f0) where
  irrefl x := by rw [lt68]; simp
  trans x y z h1 h2 := by rw [lt68] at *; simp at *; omega
  ntrans x y z h1 h2 := by rw [lt68] at *; simp at *; omega
theorem cmpLays68 (blk off size : Nat) (w : World) : CmpLays Try.prog 64 #[] enc68 3 (fun x y => cmpI x.f0 y.f0) blk off size w :=
  fun _ _ _ _ x y => (cmp_step x y _).mono fun e w' ⟨he, hw⟩ => ⟨he, 0, #[.cells #[.int .i64 x.f0, .int .i64 x.f1, .int .i64 x.f2] 68] ++ #[.cells #[.int .i64 y.f0, .int .i64 y.f1, .int .i64 y.f2] 68], by subst hw; rw [alloc_eq_grow, alloc_eq_grow, grow_grow]; rfl⟩
/-- Risen by where it changes. -/
def Rises (l : List S68) : Prop := l.Pairwise fun x y => x.f0 ≤ y.f0
theorem sort_steps {w0 w : World} {base : Nat} {ok : Nat → Prop} {v : Value} {xs : List S68} (h : Kd.R k68 68 w base ok v xs) (hb : Below base w0 w) (hz : xs.length < 4611686018427387904) :
    Calls Try.prog 63 #[v, .func (.func 64) #[] #[]] w fun e w' => e = .returned (.tuple #[]) ∧ ∃ ys, ys.Perm xs ∧ Rises ys ∧ Kd.R k68 68 w' base ok v ys ∧ Below base w0 w' ∧ w.heap.size ≤ w'.heap.size ∧ ∀ q, q < w.heap.size → some q ≠ v.ownBlock → w'.heap[q]? = w.heap[q]? := by
  by_cases hn : 0 < xs.length
  · obtain ⟨g, c, rfl, hg⟩ := R_place h hn
    have hopen : ∀ {w x cs}, k68.K w x cs → cs = enc68 x := fun h => k68_open h
    have hH := holds_R enc68 3 (by decide) (fun _ => rfl) (d := k68) rfl hopen h
    have hlt : g < w.heap.size := Kd.R_lt h g (by simp [Value.ownBlock])
    have eg : ∀ args w, (callFunc 64 args).run Try.prog w = .ok (.enter 64 args) w := enters_of Try.func64 (by kernel_rfl) rfl
    have hc := AnyQ.slices_SortFunc Try.sortStep 3 Try.isAgg68 Try.sizeOf68 enc68 (fun _ => rfl) (fun x v hv => by simp [enc68] at hv; rcases hv with rfl | rfl | rfl <;> rfl) (fun x y : S68 => cmpI x.f0 y.f0) swo68 64 #[] g 0 c xs.toArray w eg (cmpLays68 g 0 _ w) hH hlt (by simpa using hz)
    have hc' : Calls Try.prog 63 #[.slice (some ⟨g, 0, none⟩) xs.length c, .func (.func 64) #[] #[]] w _ := hc
    refine hc'.mono ?_
    rintro e w' ⟨rfl, d', n, os, ⟨hs1, hs2, hs3⟩, hso, rfl⟩
    have hsz : d'.size = xs.length := by simpa using hs1
    refine ⟨rfl, d'.toList, ?_, ?_, sorted_R enc68 3 (by decide) (fun _ => rfl) rfl (fun w base ok x => k68_mkM w base ok x) h hsz, sorted_below enc68 3 hb hg hlt, ?_, ?_⟩
    · have e1 : d'.extract 0 xs.toArray.size = d' := by rw [← hs1]; exact Array.extract_size
      have e2 : xs.toArray.extract 0 xs.toArray.size = xs.toArray := Array.extract_size
      rw [e1, e2] at hs3
      simpa using hs3
    · rw [Rises, List.pairwise_iff_getElem]
      intro i j hi hj hij
      have hi' : i < d'.size := by simpa using hi
      have hj' : j < d'.size := by simpa using hj
      have := hso i j (Nat.zero_le _) hij (by rw [List.size_toArray]; omega)
      rw [lt68, getElem!_pos d' j hj', getElem!_pos d' i hi'] at this
      have := of_decide_eq_false this
      simp only [Array.getElem_toList]
      omega
    · show _ ≤ ((Sort.ahead w n).heap.modify g _ ++ os).size
      simp [Sort.ahead]
    · intro q hq hne
      have hqg : g ≠ q := fun he => hne (by rw [he]; simp [Value.ownBlock])
      show ((Sort.ahead w n).heap.modify g _ ++ os)[q]? = _
      rw [Array.getElem?_append_left (by simp [Sort.ahead]; omega)]
      simp [Sort.ahead, Array.getElem?_modify, hqg]
  · obtain rfl : xs = [] := List.eq_nil_of_length_eq_zero (by omega)
    obtain ⟨A, c, rfl⟩ := Kd.R_slice h
    have hc := AnyF.slices_SortFunc_none Try.sortStep A c (.func (.func 64) #[] #[]) w
    have hc' : Calls Try.prog 63 #[.slice A (List.length ([] : List S68)) c, .func (.func 64) #[] #[]] w _ := hc
    refine hc'.mono ?_
    rintro e w' ⟨rfl, rfl⟩
    exact ⟨rfl, [], List.Perm.refl _, List.Pairwise.nil, h, hb, Nat.le_refl _, fun _ _ _ => rfl⟩
end Go.Proofs.Ytippkbgeeeimjaa.L
