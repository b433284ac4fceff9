/- The law SignBooks returns true whatever its arguments, and they read behind the call as they did. No conditions. -/
import Derived.Test.YthfceiincmkccaaGreatRows
import Derived.Test.YthfceiincmkccaaGreatUA
import Derived.Test.YthfceiincmkccaaGreatUG
import Derived.WalkKit
import Derived.ProofKit
import Derived.OpenShut
import Derived.ShutString
import Derived.ChangeOld
import Derived.Below
import Derived.SizedLaws
set_option linter.unusedVariables false
set_option linter.unusedSimpArgs false
set_option maxHeartbeats 8000000
set_option maxRecDepth 100000
open Go.RowKit
namespace Go.Proofs.YthfceiincmkccaaGreat
namespace signBooks
open ChangeShapes WideShapes ChangeAt
theorem own:ownKnob Tryz.prog.godebug=none:=by kernel_rfl
theorem laidOut:laidOutB Tryz.prog=true:=by kernel_rfl
theorem lifted (os:Os)(started:os.Started)(H:Type)(enc:TypeId × Value->H):
    ReturnsInHanded {} Tryz.checked os 3 .any (Rows.signBooksSpec.pre6 enc Tryz.prog Tryz.f3 Rows.signBooksRow.domain false) (Rows.signBooksSpec.post enc Tryz.prog Tryz.f3 false true false false):=by
  refine returnsInHanded_of_change_sized (C:=Tryz.checked) own started (by kernel_rfl) Tryz.func3
    (ChangeSpec.witness6 (enc:=enc) (C:=Tryz.checked) false ⟨#[],#[.agg #[.slice none 0 0,.slice none 0 0,.slice none 0 0,.slice none 0 0],.agg #[.slice none 0 0,.slice none 0 0,.slice none 0 0,.slice none 0 0]],[]⟩ 8 (by kernel_rfl) (by kernel_rfl) (by kernel_rfl) (by kernel_rfl)) ?_
  intro W base args ds gs before hval0 hW hcnd hsz0 _;have hval: ∀ (j:Nat) t v,Tryz.f3.params[j]? =some t->args[j]? =some v->Value.okWide Tryz.prog W .any base t v:=hval0;have hsz:(DataW.weightsEach Tryz.prog (Tryz.f3.params.toList ++ Rows.signBooksSpec.plain.varTypes Tryz.prog) (ds ++ gs)).all (· <=reachBytes)=true:=hsz0;have hW':=hW;obtain ⟨p,q,hA0,hV,rfl,hfz,hnd⟩:=hW;have hA:DataW.TrodAll enc Tryz.prog W 0 (fun _=>true) true Tryz.f3.params.toList args.toList ds p:=hA0;rw [Tryz.params3] at hA hval hsz;obtain ⟨v0,vs0,d0,ds0,p0,q0,hargs,rfl,rfl,h0,r0⟩:=trodAll_cons hA;obtain ⟨v1,vs1,d1,ds1,p1,q1,rfl,rfl,rfl,h1,r1⟩:=trodAll_cons r0;obtain ⟨rfl,rfl,rfl⟩:=trodAll_nil r1;obtain rfl:args=#[v0,v1]:=by cases args;simp_all
  obtain ⟨rfl,rfl⟩:=trodVars_none hV;have lt0: ∀ x∈p0,x.block<W.heap.size:=by obtain ⟨m,hm⟩:=h0;exact DataW.trod_lt m _ _ _ hm
  obtain ⟨cs0,hc0,_⟩:=okWide_struct Tryz.underlying27 (hval 0 27 v0 rfl rfl);obtain ⟨x0,A00,c00,A01,c01,A02,c02,A03,c03,rfl,l00,g00,l01,g01,l02,g02,l03,g03,w0⟩:=X.open_book (j:=0) hsz rfl rfl ⟨_,hc0⟩ h0;have lt1: ∀ x∈p1,x.block<W.heap.size:=by obtain ⟨m,hm⟩:=h1;exact DataW.trod_lt m _ _ _ hm
  obtain ⟨cs1,hc1,_⟩:=okWide_struct Tryz.underlying27 (hval 1 27 v1 rfl rfl);obtain ⟨x1,A10,c10,A11,c11,A12,c12,A13,c13,rfl,l10,g10,l11,g11,l12,g12,l13,g13,w1⟩:=X.open_book (j:=1) hsz rfl rfl ⟨_,hc1⟩ h1;clear hA0 hval0 hsz0 hsz;refine (L.SignBooks_calls x0 A00 c00 A01 c01 A02 c02 A03 c03 x1 A10 c10 A11 c11 A12 c12 A13 c13 W w0 l00 g00 l01 g01 l02 g02 l03 g03 w1 l10 g10 l11 g11 l12 g12 l13 g13).mono fun e W' ⟨he,bel⟩=>?_;subst he;exact ⟨_,rfl,_,_,_,[],_,[],hW',trodAll_mk1 (shut_bool Tryz.underlying4 _),(trodAll_cons_mk (Below.trod laidOut (by kernel_rfl) (of_decide_eq_true (by kernel_rfl)) h0 bel lt0) (trodAll_cons_mk (Below.trod laidOut (by kernel_rfl) (of_decide_eq_true (by kernel_rfl)) h1 bel lt1) trodAll_mk0)),rfl,bel.frame _,fun h=>by cases h⟩
theorem over:Rows.signBooksRow.holds Tryz.pinned (OpenSpec.ofChange Rows.signBooksSpec):=
  OpenClaim.holds_of_wide 3 Tryz.f3 rfl rfl rfl rfl rfl rfl rfl ⟨rfl,rfl,rfl,rfl,rfl⟩ rfl rfl rfl rfl rfl (by kernel_rfl) Tryz.func3 (by kernel_rfl)
    (of_decide_eq_true (by kernel_rfl)) (by unfold Func.isWrapper;first | (rw [if_pos (by decide +kernel)];kernel_rfl) | (rw [if_neg (by decide +kernel)];exact ⟨rfl,rfl⟩))
    (fun os started H enc _=>lifted os started H enc)
theorem proved:Rows.SignBooksSaid:=over
end signBooks
end Go.Proofs.YthfceiincmkccaaGreat
namespace Go.Proofs.YthfceiincmkccaaGreat
/-- The row, under a short name, for the claim. -/
theorem signBooks_holds:Rows.SignBooksSaid:=signBooks.proved
#print axioms signBooks_holds
end Go.Proofs.YthfceiincmkccaaGreat
