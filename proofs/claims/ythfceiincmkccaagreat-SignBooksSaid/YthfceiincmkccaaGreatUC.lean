/- What law SignBooks reaches, part 3: words and walks over rows and regions. -/
import Derived.Test.YthfceiincmkccaaGreatUA
import Derived.Test.YthfceiincmkccaaGreatUB
import Derived.Outline
import Derived.Test.YthfceiincmkccaaGreatProg
import Derived.Below
import Derived.Deep.Draws
import Derived.Deep.AppendLies
import Derived.Maps.AppendAt
import Derived.OwnWalk
import Derived.Laws.BytesArg
import Derived.Laws.MakeOwn
import Derived.Laws.OwnMore
import Derived.Deep.OwnRows
import Derived.Tactics
import Derived.Lib.ConvBytes
import Derived.Laws.Slices
import Derived.WalkKit
import Derived.KernelRfl
import Derived.RowKit3
import Derived.Deep.LoopGhost
import Derived.Deep.QuietTactic
import Derived.BigQuiet
import Derived.WideLaws
import Derived.Deep.DeepCutAuto
import Derived.Deep.CutBlock
import Derived.Deep.RegionHeld3
import Derived.Laws.Rows
import Derived.Lib.AppendStr
import Derived.ArgAppend
import Derived.Laws.IdiomCopy
import Derived.OrdersHeld
import Derived.Laws.BitsLemmas
import Derived.RowKit
set_option linter.unusedVariables false
set_option linter.unusedSimpArgs false
set_option maxHeartbeats 8000000
set_option maxRecDepth 100000
open Go.RowKit Go.Proofs.YthfceiincmkccaaGreatW.PrintWords Go.Proofs.YthfceiincmkccaaGreatW.PrintLast Go.Proofs.YthfceiincmkccaaGreatW.PrintMore
namespace Go.Proofs.YthfceiincmkccaaGreat
namespace L
open A P
theorem gp_ (rb:Bool->Bool->Bool)(gf:Nat)(eg: ∀ args w,(callFunc gf args).run Tryz.prog w=.ok (.enter gf args) w)(hr: ∀ x y W,Calls Tryz.prog gf #[.bool x,.bool y] W fun e w'=>e=.returned (.bool (rb x y))∧w'=W)
  (A0:Option Addr) (c0:Nat) (l0:List S74) (A1:Option Addr) (c1:Nat) (l1:List S74) (w:World) (hr0:Kd.C k74 w A0 l0.length l0) (hc0:l0.length<=c0) (hr1:Kd.C k74 w A1 l1.length l1) (hc1:l1.length<=c1):
  Calls Tryz.prog 110 #[.slice A0 l0.length c0,.slice A1 l1.length c1,.func (.func gf) #[] #[]] w fun e w'=> ∃ v,e=.returned v∧Kd.R k74 74 w' w.heap.size (fun _=>True) v (canonF fun c=>rb (hasB l0 c) (hasB l1 c))∧Below w.heap.size w w':=by
 obtain ⟨K0,h0⟩:=steps_ev l0 0;obtain ⟨K1,h1⟩:=steps_ev l1 1;have z0:=ja_ l0 (Or.inl rfl);have z1:=ja_ l1 (Or.inr rfl);refine (sweep_calls rb gf eg hr A0 c0 l0 A1 c1 l1 w hr0 hc0 hr1 hc1 (max K0 K1) (stepsF l0 0) (stepsF l1 1) _ rfl (h0 _ (by omega)) (h1 _ (by omega)) (fun s hs=>(List.mem_append.1 hs).elim (z0.1 s) (z1.1 s)) (by rw [List.length_append];omega)).mono ?_;rintro e w' ⟨v,ys,rfl,hp,hri,hR,hb⟩;rw [sweep_spec rb l0 l1 hp hri] at hR;exact ⟨v,rfl,hR,hb⟩
theorem eg43: ∀ args w,(callFunc 185 args).run Tryz.prog w=.ok (.enter 185 args) w:=enters_of Tryz.func185 (by kernel_rfl) rfl
theorem eg45: ∀ args w,(callFunc 143 args).run Tryz.prog w=.ok (.enter 143 args) w:=enters_of Tryz.func143 (by kernel_rfl) rfl
theorem eg46: ∀ args w,(callFunc 144 args).run Tryz.prog w=.ok (.enter 144 args) w:=enters_of Tryz.func144 (by kernel_rfl) rfl
theorem eg47: ∀ args w,(callFunc 111 args).run Tryz.prog w=.ok (.enter 111 args) w:=enters_of Tryz.func111 (by kernel_rfl) rfl
def orF (l0 l1:List S74):List S74:=canonF fun c=>hasB l0 c || hasB l1 c
def andF (l0 l1:List S74):List S74:=canonF fun c=>hasB l0 c && hasB l1 c
def lessF (l0 l1:List S74):List S74:=canonF fun c=>hasB l0 c && !hasB l1 c
def notF (l0:List S74):List S74:=canonF fun c=> !hasB l0 c
def jj_.f (l0 l1:List S74):Option (List S74):=some (orF l0 l1)
def lm_.f (l0 l1:List S74):Option (List S74):=some (andF l0 l1)
def jk_.f (l0 l1:List S74):Option (List S74):=some (lessF l0 l1)
def ll_.f (l0:List S74):Option (List S74):=some (notF l0)
theorem jj_.calls (A0:Option Addr)(c0:Nat)(l0:List S74)(A1:Option Addr)(c1:Nat)(l1:List S74)(r:List S74)(w:World)(hr0:Kd.C k74 w A0 l0.length l0)(hc0:l0.length<=c0)(hr1:Kd.C k74 w A1 l1.length l1)(hc1:l1.length<=c1)(h:jj_.f l0 l1=some r):
  Calls Tryz.prog 167 #[.slice A0 l0.length c0,.slice A1 l1.length c1] w fun e w'=> ∃ v0_:Value,e=.returned v0_∧Kd.R k74 74 w' w.heap.size (fun _=>True) v0_ r∧Below w.heap.size w w':=by
 obtain rfl:orF l0 l1=r:=Option.some.inj h;clear h;have hs:=gp_ (fun x y=>x || y) 185 eg43 rule_or A0 c0 l0 A1 c1 l1 w hr0 hc0 hr1 hc1;change Calls Tryz.prog 110 _ w (fun e w'=> ∃ v,e=.returned v∧Kd.R k74 74 w' w.heap.size (fun _=>True) v (orF l0 l1)∧Below w.heap.size w w') at hs;generalize orF l0 l1=r at hs ⊢;have HS:=Sd.m hs;clear hs hr0 hc0 hr1 hc1;go_enter Tryz.func167,Tryz.ntmps167;go_wp2_with fail;refine HS.out.mono ?_;rintro e w' ⟨v,rfl,hR,hb⟩;obtain ⟨A,c,rfl⟩:=Kd.R_slice hR;have HR:=Sd.m hR;have HB:=Sd.m hb;clear hR hb;go_wp2_with fail;go_ret;exact ⟨_,rfl,HR.out,HB.out⟩
theorem lm_.calls (A0:Option Addr)(c0:Nat)(l0:List S74)(A1:Option Addr)(c1:Nat)(l1:List S74)(r:List S74)(w:World)(hr0:Kd.C k74 w A0 l0.length l0)(hc0:l0.length<=c0)(hr1:Kd.C k74 w A1 l1.length l1)(hc1:l1.length<=c1)(h:lm_.f l0 l1=some r):
  Calls Tryz.prog 113 #[.slice A0 l0.length c0,.slice A1 l1.length c1] w fun e w'=> ∃ v0_:Value,e=.returned v0_∧Kd.R k74 74 w' w.heap.size (fun _=>True) v0_ r∧Below w.heap.size w w':=by
 obtain rfl:andF l0 l1=r:=Option.some.inj h;clear h;have hs:=gp_ (fun x y=>x && y) 143 eg45 rule_and A0 c0 l0 A1 c1 l1 w hr0 hc0 hr1 hc1;change Calls Tryz.prog 110 _ w (fun e w'=> ∃ v,e=.returned v∧Kd.R k74 74 w' w.heap.size (fun _=>True) v (andF l0 l1)∧Below w.heap.size w w') at hs;generalize andF l0 l1=r at hs ⊢;have HS:=Sd.m hs;clear hs hr0 hc0 hr1 hc1;go_enter Tryz.func113,Tryz.ntmps113;go_wp2_with fail;refine HS.out.mono ?_;rintro e w' ⟨v,rfl,hR,hb⟩;obtain ⟨A,c,rfl⟩:=Kd.R_slice hR;have HR:=Sd.m hR;have HB:=Sd.m hb;clear hR hb;go_wp2_with fail;go_ret;exact ⟨_,rfl,HR.out,HB.out⟩
theorem jk_.calls (A0:Option Addr)(c0:Nat)(l0:List S74)(A1:Option Addr)(c1:Nat)(l1:List S74)(r:List S74)(w:World)(hr0:Kd.C k74 w A0 l0.length l0)(hc0:l0.length<=c0)(hr1:Kd.C k74 w A1 l1.length l1)(hc1:l1.length<=c1)(h:jk_.f l0 l1=some r):
  Calls Tryz.prog 114 #[.slice A0 l0.length c0,.slice A1 l1.length c1] w fun e w'=> ∃ v0_:Value,e=.returned v0_∧Kd.R k74 74 w' w.heap.size (fun _=>True) v0_ r∧Below w.heap.size w w':=by
 obtain rfl:lessF l0 l1=r:=Option.some.inj h;clear h;have hs:=gp_ (fun x y=>x && !y) 144 eg46 rule_less A0 c0 l0 A1 c1 l1 w hr0 hc0 hr1 hc1;change Calls Tryz.prog 110 _ w (fun e w'=> ∃ v,e=.returned v∧Kd.R k74 74 w' w.heap.size (fun _=>True) v (lessF l0 l1)∧Below w.heap.size w w') at hs;generalize lessF l0 l1=r at hs ⊢;have HS:=Sd.m hs;clear hs hr0 hc0 hr1 hc1;go_enter Tryz.func114,Tryz.ntmps114;go_wp2_with fail;refine HS.out.mono ?_;rintro e w' ⟨v,rfl,hR,hb⟩;obtain ⟨A,c,rfl⟩:=Kd.R_slice hR;have HR:=Sd.m hR;have HB:=Sd.m hb;clear hR hb;go_wp2_with fail;go_ret;exact ⟨_,rfl,HR.out,HB.out⟩
theorem ll_.calls (A0:Option Addr)(c0:Nat)(l0:List S74)(r:List S74)(w:World)(hr0:Kd.C k74 w A0 l0.length l0)(hc0:l0.length<=c0)(h:ll_.f l0=some r):
  Calls Tryz.prog 76 #[.slice A0 l0.length c0] w fun e w'=> ∃ v0_:Value,e=.returned v0_∧Kd.R k74 74 w' w.heap.size (fun _=>True) v0_ r∧Below w.heap.size w w':=by
 obtain rfl:notF l0=r:=Option.some.inj h;clear h;have hs:=gp_ (fun x _=> !x) 111 eg47 rule_not A0 c0 l0 none 0 [] w hr0 hc0 (Kd.C_nil _ _) (Nat.le_refl _);change Calls Tryz.prog 110 #[.slice A0 l0.length c0,.slice none 0 0,.func (.func 111) #[] #[]] w (fun e w'=> ∃ v,e=.returned v∧Kd.R k74 74 w' w.heap.size (fun _=>True) v (notF l0)∧Below w.heap.size w w') at hs;generalize notF l0=r at hs ⊢;have HS:=Sd.m hs;clear hs hr0 hc0;go_enter Tryz.func76,Tryz.ntmps76;go_wp2_with fail;refine HS.out.mono ?_;rintro e w' ⟨v,rfl,hR,hb⟩;obtain ⟨A,c,rfl⟩:=Kd.R_slice hR;have HR:=Sd.m hR;have HB:=Sd.m hb;clear hR hb;go_wp2_with fail;go_ret;exact ⟨_,rfl,HR.out,HB.out⟩
theorem has_one (r:S74)(c:Int)(gc:Nat)(w:World)(hc:w.cell? ⟨gc,0,none⟩=some (.int .i64 c)):
  Calls Tryz.prog 120 #[.agg #[.int .i64 r.f0,.int .i64 r.f1],.pointer (some ⟨gc,0,none⟩)] w fun e w'=>e=.returned (.bool (inR r c))∧Below w.heap.size w w':=by
 have hlt:gc<w.heap.size:=by
  rcases Nat.lt_or_ge gc w.heap.size with h | h
  ·exact h
  ·simp [World.cell?,Array.getElem?_eq_none h] at hc
 have hne:gc≠w.heap.size:=by omega
 unfold inR;by_cases h1:r.f0<=c
 ·by_cases h2:c<=r.f1
  ·have b1:decide (r.f0<=c)=true:=dt__ h1;have b2:decide (c<=r.f1)=true:=dt__ h2;rw [b1,b2];clear h1 h2;go_enter Tryz.func120,Tryz.ntmps120;go_wp2_with fail;go_ret;exact ⟨rfl,ab_ (Below.refl _ _) _⟩
  ·have b1:decide (r.f0<=c)=true:=dt__ h1;have b2:decide (c<=r.f1)=false:=df__ h2;rw [b1,b2];clear h1 h2;go_enter Tryz.func120,Tryz.ntmps120;go_wp2_with fail;go_ret;exact ⟨rfl,ab_ (Below.refl _ _) _⟩
 ·have b1:decide (r.f0<=c)=false:=df__ h1;rw [b1,Bool.false_and];clear h1;go_enter Tryz.func120,Tryz.ntmps120;go_wp2_with fail;go_ret;exact ⟨rfl,ab_ (Below.refl _ _) _⟩
def idxF (l:List S74)(c:Int):Int:=match l.findIdx? fun r=>inR r c with
 | some i=>i
 | none=> -1
theorem idxF_ge (l:List S74)(c:Int):decide (0<=idxF l c)=Mem l c:=by
 unfold idxF Mem;cases h:l.findIdx? fun r=>inR r c with
 | none=>
  have:=List.findIdx?_eq_none_iff.1 h;simp only;rw [df__ (by omega)];symm;rw [List.any_eq_false];intro x hx;rw [this x hx];decide
 | some i=>
  simp only;rw [dt__ (by omega)];symm;obtain ⟨hi,hp,_⟩:=List.findIdx?_eq_some_iff_getElem.1 h;exact List.any_eq_true.2 ⟨_,List.getElem_mem hi,hp⟩
def Lix (w:World)(l:List S74)(c:Int)(u:Value)(W:World):Prop:= ∃ j:Nat,j<=l.length∧u=.int .i64 j∧Below w.heap.size w W∧ ∀ r∈l.take j,inR r c=false
theorem index_func (A0:Option Addr)(c0:Nat)(l0:List S74)(c:Int)(gc:Nat)(w:World)(hr0:Kd.C k74 w A0 l0.length l0)(hc0:l0.length<=c0)(hg:w.heap[gc]? =some (.cells #[.int .i64 c] 3 (0,0))):
  Calls Tryz.prog 155 #[.slice A0 l0.length c0,.func (.func 120) #[] #[.pointer (some ⟨gc,0,none⟩)]] w fun e w'=>e=.returned (.int .i64 (idxF l0 c))∧Below w.heap.size w w':=by
 have HR:=Sd.m hr0;have HG:=Sd.m hg;have HM:l0.length<=9223372036854775807:=Kd.C_max hr0;have eg: ∀ args w,(callFunc 120 args).run Tryz.prog w=.ok (.enter 120 args) w:=enters_of Tryz.func120 (by kernel_rfl) rfl;clear hr0 hg;go_enter Tryz.func155,Tryz.ntmps155;go_wp2_with fail;go_loopw [8] (fun u W=>Lix w l0 c u W) (fun u _=>l0.length - (intOf u).toNat)
 case atStart=>exact ⟨0,Nat.zero_le _,rfl,Below.refl _ _,(fun r hr=>by simp at hr)⟩
 case round=>
  obtain ⟨j,hj,rfl,hb,hno⟩:=hrel;have HB:=Sd.m hb;have HN:=Sd.m hno;clear hb hno;by_cases hlt:j<l0.length
  ·have b1:decide ((j:Int)<(l0.length:Int))=true:=dt__ (by omega);have b2:decide (j<l0.length)=true:=dt__ hlt;obtain ⟨ad,rfl,k0,k1⟩:=ec_ (Kd.C_below HR.out HB.out) (j:Int) (by omega) (by omega);rw [Int.toNat_natCast] at k0 k1;have hq0:0<=(j:Int):=by omega
   have hq1:(j:Int)<(l0.length:Int):=by omega
   have w2:IntKind.i64.wrap ((j:Int)+1)=(j:Int)+1:=IntWalk.i64_in _ (by omega);have hel:l0[j]? =some (al_ l0 j):=by
    unfold al_;rw [Int.toNat_natCast,List.getD_eq_getElem?_getD,List.getElem?_eq_getElem hlt];rfl
   have HE:=Sd.m hel;clear hel;obtain ⟨s,hs⟩: ∃ s,s=al_ l0 j:=⟨_,rfl⟩;rw [←hs] at k0 k1 HE;clear hs;go_wp2_with fail;have hcell:=bc_ (ag_ HG.out HB.out) 0 rfl;refine (has_one s c gc wr hcell).mono ?_;rintro e W7 ⟨rfl,hb7⟩;have HB7:=Sd.m (HB.out.trans (hb7.mono HB.out.size));clear hb7 hcell k0 k1;cases hi:inR s c with
   | true=>
    have HI:=Sd.m hi;clear hi;go_wp2_with fail;go_ret;have hfi:(l0.findIdx? fun r=>inR r c)=some j:=List.findIdx?_eq_some_iff_getElem.2 ⟨hlt,(by rw [List.getElem?_eq_getElem hlt] at HE;rw [Option.some.inj HE.out];exact HI.out),(fun i hi=>by
     have:=HN.out (l0[i]'(by omega)) (List.mem_take_iff_getElem.2 ⟨i,by omega,rfl⟩);rw [this];decide)⟩
    have hix:idxF l0 c=j:=by
     unfold idxF;rw [hfi]
    exact ⟨by rw [hix];rfl,HB7.out⟩
   | false=>
    have HI:=Sd.m hi;clear hi;go_wp2_with fail;go_roundw
    case rel=>
     refine ⟨j+1,hlt,by go_num,HB7.out,fun r hr=>?_⟩;rw [List.take_add_one,HE.out] at hr;rcases List.mem_append.1 hr with hr | hr
     ·exact HN.out r hr
     ·simp at hr;rw [hr];exact HI.out
    case measure=>simp [intOf];omega
  ·have b1:decide ((j:Int)<(l0.length:Int))=false:=df__ (by omega);have b2:decide (j<l0.length)=false:=df__ hlt;go_wp2_with fail;go_ret;have:idxF l0 c= -1:=by
    unfold idxF;rw [List.findIdx?_eq_none_iff.2 fun x hx=>HN.out x (by rw [List.take_of_length_le (by omega)];exact hx)]
   exact ⟨by rw [this];rfl,HB.out⟩
theorem mf_ (A0:Option Addr)(c0:Nat)(l0:List S74)(c:Int)(gc:Nat)(w:World)(hr0:Kd.C k74 w A0 l0.length l0)(hc0:l0.length<=c0)(hg:w.heap[gc]? =some (.cells #[.int .i64 c] 3 (0,0))):
  Calls Tryz.prog 119 #[.slice A0 l0.length c0,.func (.func 120) #[] #[.pointer (some ⟨gc,0,none⟩)]] w fun e w'=>e=.returned (.bool (Mem l0 c))∧Below w.heap.size w w':=by
 have hi:=index_func A0 c0 l0 c gc w hr0 hc0 hg;have hge:=idxF_ge l0 c;generalize idxF l0 c=i at hi hge;rw [←hge];have HI:=Sd.m hi;clear hi hr0 hc0 hg hge;go_enter Tryz.func119,Tryz.ntmps119;go_wp2_with fail;refine HI.out.mono ?_;rintro e w' ⟨rfl,hb⟩;have HB:=Sd.m hb;clear hb;go_wp2_with fail;go_ret;exact ⟨rfl,HB.out⟩
def hasF (l:List S74)(c:Int):Bool:=decide (0<=c) && decide (c<=1114111) && hasB l c
def gq_.f (l0:List S74)(a1:Int):Option Bool:=some (hasF l0 a1)
theorem gq_.calls (A0:Option Addr)(c0:Nat)(l0:List S74)(a1:Int)(r:Bool)(w:World)(hr0:Kd.C k74 w A0 l0.length l0)(hc0:l0.length<=c0)(h:gq_.f l0 a1=some r):
  Calls Tryz.prog 83 #[.slice A0 l0.length c0,.int .i64 a1] w fun e w'=>e=.returned (.bool r)∧Below w.heap.size w w':=by
 obtain rfl:hasF l0 a1=r:=Option.some.inj h;clear h;unfold hasF hasB;have hs:=mf_ A0 c0 l0 a1 w.heap.size (w.alloc (.cells #[.int .i64 a1] 3)) (Kd.C_alloc hr0 _) hc0 (aj_ _ _);have HS:=Sd.m hs;clear hs hr0 hc0;by_cases h1:0<=a1
 ·have b1:decide (0<=a1)=true:=dt__ h1;by_cases h2:a1<=1114111
  ·have b2:decide (a1<=1114111)=true:=dt__ h2;by_cases h3:l0.length<=400
   ·have b3:decide (l0.length<=400)=true:=dt__ h3;have b4:decide ((l0.length:Int)<=400)=true:=dt__ (by omega);rw [b1,b2,b3,Bool.true_and,Bool.true_and,Bool.true_and];clear h1 h2 h3;go_enter Tryz.func83,Tryz.ntmps83;go_wp2_with fail;refine HS.out.mono ?_;rintro e w' ⟨rfl,hb⟩;have HB:=Sd.m ((ab_ (Below.refl w.heap.size w) (.cells #[.int .i64 a1] 3)).trans (hb.mono (by simp)));clear hb;go_wp2_with fail;go_ret;exact ⟨rfl,HB.out⟩
   ·have b3:decide (l0.length<=400)=false:=df__ h3;have b4:decide ((l0.length:Int)<=400)=false:=df__ (by omega);rw [b3,Bool.false_and,Bool.and_false];clear h1 h2 h3;go_enter Tryz.func83,Tryz.ntmps83;go_wp2_with fail;go_ret;exact ⟨rfl,ab_ (Below.refl _ _) _⟩
  ·have b2:decide (a1<=1114111)=false:=df__ h2;rw [b2,Bool.and_false,Bool.false_and];clear h1 h2;go_enter Tryz.func83,Tryz.ntmps83;go_wp2_with fail;go_ret;exact ⟨rfl,ab_ (Below.refl _ _) _⟩
 ·have b1:decide (0<=a1)=false:=df__ h1;rw [b1,Bool.false_and,Bool.false_and];clear h1;go_enter Tryz.func83,Tryz.ntmps83;go_wp2_with fail;go_ret;exact ⟨rfl,ab_ (Below.refl _ _) _⟩
end L
namespace P
open A L
theorem ref_has (l:List S74)(c:Int):Ev (fun k=>aq_.f k l c) (hasF l c):=by
 have no: ∀ r:Bool,r=false->Ev (fun k=>aq_.j0 k l c true) r:=fun r hr=>by
  rw [hr];exact Ev.step (f:=fun _=>some false) (fun k=>by rw [aq_.j0,if_pos rfl]) (Ev.now _)
 unfold aq_.f;by_cases h1:c<0
 ·exact fq_ h1 (no _ (by unfold hasF;rw [df__ (show ¬ 0<=c by omega)];rfl))
 refine eg_ h1 ?_;by_cases h2:c>1114111
 ·exact fq_ h2 (no _ (by unfold hasF;rw [df__ (show ¬ c<=1114111 by omega),Bool.and_false];rfl))
 refine eg_ h2 ?_;have e:hasF l c=(decide (l.length<=400) && Mem l c):=by
  unfold hasF hasB;rw [dt__ (show 0<=c by omega),dt__ (show c<=1114111 by omega)];rfl
 rw [e];by_cases h3:(l.length:Int)>400
 ·rw [dt__ h3,df__ (show ¬ l.length<=400 by omega)];exact no _ rfl
 rw [df__ h3,dt__ (show l.length<=400 by omega),Bool.true_and];refine Ev.step (fun k=>by rw [aq_.j0,if_neg (by decide)]) ?_;have main: ∀ d i:Nat,i+d=l.length->Ev (fun k=>aq_.l0 k l c (i:Int)) (Mem (l.drop i) c):=by
  intro d
  induction d with
  | zero=>
   intro i h;rw [List.drop_eq_nil_iff.2 (by omega)];exact Ev.step (f:=fun _=>some false) (fun k=>by rw [aq_.l0,if_neg (by omega)]) (Ev.now _)
  | succ d ih=>
   intro i h;have hs:=step_at (l:=l) (i:=(i:Int)) (by omega) (by omega);rw [Int.toNat_natCast,show ((i:Int)+1).toNat=i+1 from by omega] at hs;have:=ih (i+1) (by omega);rw [show ((i+1:Nat):Int)=(i:Int)+1 from by omega] at this;rw [hs];have hm:Mem (al_ l i :: l.drop (i+1)) c=(inR (al_ l i) c || Mem (l.drop (i+1)) c):=by simp [Mem]
   rw [hm];refine Ev.step (fun k=>by rw [aq_.l0,if_pos (show (i:Int)<(l.length:Int) by omega),if_pos (show 0<=(i:Int) by omega),w64 (n:=(i:Int)+1) (by omega) (by omega)]) ?_;by_cases q1:c ≥ (al_ l i).f0
   ·refine fq_ q1 ?_;by_cases q2:c<=(al_ l i).f1
    ·rw [hh_.2 ⟨q1,q2⟩,Bool.true_or];exact fq_ q2 (Ev.now _)
    ·have:inR (al_ l i) c=false:=by simp [inR];omega
     rw [this,Bool.false_or];exact eg_ q2 (by assumption)
   ·have:inR (al_ l i) c=false:=by simp [inR];omega
    rw [this,Bool.false_or];exact eg_ q1 (by assumption)
 exact main l.length 0 (by omega)
theorem bu_ (A0:Option Addr)(c0:Nat)(l0:List S74)(a1:Int)(w:World)(hr0:Kd.C k74 w A0 l0.length l0)(hc0:l0.length<=c0):
  Calls Tryz.prog 44 #[.slice A0 l0.length c0,.int .i64 a1] w fun e w'=>e=.returned (.bool (hasF l0 a1))∧Drawn0 w w':=by
 obtain ⟨k,hk⟩:=(ref_has l0 a1).rounds;exact aq_.calls k A0 c0 l0 a1 _ w hr0 hc0 hk
end P
namespace L
open A
def mkF (keep:Bool)(c tt:Int)(xs:List S74):List S74:=
 if keep=true then (if 0<xs.length∧(al_ xs ((xs.length:Int) - 1)).f1+1=c then xs.set (xs.length - 1) ⟨(al_ xs ((xs.length:Int) - 1)).f0,tt⟩ else xs ++ [⟨c,tt⟩]) else xs
def nextE:List Int->Int
 | []=>1114111
 | d :: _=>d - 1
def madeRun (rb:Bool->Bool->Bool)(a b:List S74):List Int->List S74->List S74
 | [],out=>out
 | c :: rest,out=>madeRun rb a b rest (mkF (rb (hasF a c) (hasF b c)) c (nextE rest) out)
theorem in_ (k:Bool)(c tt:Int)(xs:List S74):(mkF k c tt xs).length<=xs.length+1:=by
 unfold mkF;split
 ·split <;> simp
 ·omega
theorem lq_ (rb:Bool->Bool->Bool)(a b:List S74)(es:List Int)(j:Nat)(out:List S74)(h:j<es.length):madeRun rb a b (es.drop j) out=madeRun rb a b (es.drop (j+1)) (mkF (rb (hasF a (rd es j)) (hasF b (rd es j))) (rd es j) (if j+1<es.length then rd es ((j:Int)+1) - 1 else 1114111) out):=by
 have e:rd es (j:Int)=es[j]:=by
  unfold rd;rw [Int.toNat_natCast,List.getD_eq_getElem?_getD,List.getElem?_eq_getElem h];rfl
 rw [List.drop_eq_getElem_cons h,e,madeRun];congr 2;by_cases hn:j+1<es.length
 ·have e2:rd es ((j:Int)+1)=es[j+1]:=by
   unfold rd;rw [show ((j:Int)+1).toNat=j+1 from by omega,List.getD_eq_getElem?_getD,List.getElem?_eq_getElem hn];rfl
  rw [if_pos hn,List.drop_eq_getElem_cons hn,e2];rfl
 ·rw [if_neg hn,List.drop_eq_nil_iff.2 (by omega)];rfl
theorem R_last {w:World}{base g c:Nat}{xs:List S74}(h:Kd.R k74 74 w base (fun _=>True) (.slice (some ⟨g,0,none⟩) xs.length c) xs)(hn:0<xs.length)(u:Int):
  Kd.R k74 74 (w.setCell ⟨g,(xs.length - 1)*2+1,none⟩ (.int .i64 u)) base (fun _=>True) (.slice (some ⟨g,0,none⟩) xs.length c) (xs.set (xs.length - 1) ⟨(al_ xs ((xs.length:Int) - 1)).f0,u⟩):=by
 obtain ⟨cs,hcl,hcM,hcc,hcf⟩:=Kd.R_elem h z74 ((xs.length:Int) - 1) (by omega) (by omega);obtain rfl:=dz_ hcM;have hi:((xs.length:Int) - 1).toNat=xs.length - 1:=by omega
 have hs:k74.sz=2:=rfl;have hfin:=Kd.R_seg h ((xs.length:Int) - 1) (by omega) (by omega) hcl hcc (seg:=[.int .i64 u]) (j:=1) (by rw [hs];simp) (x':=⟨(al_ xs ((xs.length:Int) - 1)).f0,u⟩) (okp:=fun _=>False) (dy_ w base _ ⟨(al_ xs ((xs.length:Int) - 1)).f0,u⟩) (fun _ hk=>hk.elim);rw [hi,hs] at hfin;exact hfin.1
theorem C_sets {W:World}{g:Nat}{A0 A1:Option Addr}{c0 c1:Nat}{l0 l1:List S74}(hb:W.heap[g]? =some (.cells #[.slice A0 l0.length c0,.slice A1 l1.length c1] 37 (0,0)))(h0:Kd.C k74 W A0 l0.length l0)(hc0:l0.length<=c0)(h1:Kd.C k74 W A1 l1.length l1)(hc1:l1.length<=c1):Kd.C (Kd.slice 74 k74) W (some ⟨g,0,none⟩) 2 [l0,l1]:=by
 refine C_box (xs:=[l0,l1]) (inner:=[.slice A0 l0.length c0,.slice A1 l1.length c1]) hb ⟨rfl,fun j p hj=>?_⟩ (by simp)
 match j,hj with
 | 0,hj=>
  obtain rfl:l0=p:=by simpa using hj
  exact ⟨A0,c0,rfl,hc0,h0⟩
 | 1,hj=>
  obtain rfl:l1=p:=by simpa using hj
  exact ⟨A1,c1,rfl,hc1,h1⟩
 | j+2,hj=>simp at hj
def Bd (out:List S74):Prop:= ∀ r∈out,-1<=r.f1∧r.f1<=1114111
theorem Bd.mk {out:List S74}(h:Bd out){k:Bool}{c tt:Int}(ht: -1<=tt∧tt<=1114111):Bd (mkF k c tt out):=by
 unfold mkF;split
 ·split
  ·intro r hr;rcases List.mem_or_eq_of_mem_set hr with hr | rfl
   ·exact h r hr
   ·exact ht
  ·intro r hr;rcases List.mem_append.1 hr with hr | hr
   ·exact h r hr
   ·rw [List.mem_singleton] at hr;subst hr;exact ht
 ·exact h
theorem Bd.last {out:List S74}(h:Bd out)(hn:0<out.length): -1<=(al_ out ((out.length:Int) - 1)).f1∧(al_ out ((out.length:Int) - 1)).f1<=1114111:=by
 refine h _ ?_;unfold al_;rw [show ((out.length:Int) - 1).toNat=out.length - 1 from by omega,List.getD_eq_getElem?_getD,List.getElem?_eq_getElem (by omega)];exact List.getElem_mem _
def Lm (rb:Bool->Bool->Bool)(W1:World)(a b:List S74)(es:List Int)(fin:List S74)(t7 t9:Value)(W:World):Prop:= ∃ (j:Nat) (out:List S74),j<=es.length∧t9=.int .i64 j∧Kd.R k74 74 W W1.heap.size (fun _=>True) t7 out∧Below W1.heap.size W1 W∧madeRun rb a b (es.drop j) out=fin∧out.length<=j∧Bd out
set_option maxHeartbeats 32000000 in
theorem made_or (A0:Option Addr)(c0:Nat)(l0:List S74)(A1:Option Addr)(c1:Nat)(l1:List S74)(w:World)(hr0:Kd.C k74 w A0 l0.length l0)(hc0:l0.length<=c0)(hr1:Kd.C k74 w A1 l1.length l1)(hc1:l1.length<=c1)
  (hes: ∀ i,0<=i->i<((edgesF [l0,l1]).length:Int)->0<=rd (edgesF [l0,l1]) i∧rd (edgesF [l0,l1]) i<=1114111):
  Calls Tryz.prog 46 #[.slice A0 l0.length c0,.slice A1 l1.length c1,.int .i64 0] w fun e w'=> ∃ v,e=.returned v∧Kd.R k74 74 w' w.heap.size (fun _=>True) v (madeRun (fun x y=>x || y) l0 l1 (edgesF [l0,l1]) [])∧Below w.heap.size w w':=by
 obtain ⟨rbK,hrb'⟩: ∃ rbK:Bool->Bool->Bool,rbK=(fun x y=>x || y):=⟨_,rfl⟩;rw [←hrb'];have hrb:=Sd.m hrb';have HR0:=Sd.m hr0;have HR1:=Sd.m hr1;have HC0:=Sd.m hc0;have HC1:=Sd.m hc1;have hel:=gt_ [l0,l1];have hel2:(edgesF [l0,l1]).length<=1601:=hel;obtain ⟨es,hesq⟩: ∃ es,es=edgesF [l0,l1]:=⟨_,rfl⟩;rw [←hesq] at hes hel2 ⊢;have HES:=Sd.m hes;have HEQ:=Sd.m hesq;clear hr0 hr1 hc0 hc1 hrb' hel hes hesq;go_enter Tryz.func46,Tryz.ntmps46;go_wp2_with fail;obtain ⟨W0,hW0⟩: ∃ W0,W0=w.alloc (.cells #[.slice A0 l0.length c0,.slice A1 l1.length c1] 37):=⟨_,rfl⟩;have X0:W0.heap[w.heap.size]? =some (.cells #[.slice A0 l0.length c0,.slice A1 l1.length c1] 37 (0,0)):=by rw [hW0];exact aj_ _ _
 have B0:Below w.heap.size w W0:=by rw [hW0];exact ab_ (Below.refl _ _) _
 rw [←hW0];clear hW0;have hE:=hj_ (some ⟨w.heap.size,0,none⟩) 2 [l0,l1] W0 (C_sets X0 (Kd.C_below HR0.out B0) HC0.out (Kd.C_below HR1.out B0) HC1.out) (Nat.le_refl _) (by simp);rw [←HEQ.out] at hE;have hE':Calls Tryz.prog 82 #[.slice (some ⟨w.heap.size,0,none⟩) 2 2] W0 (fun e w'=> ∃ v,e=.returned v∧Kd.R (Kd.int .i64) 3 w' W0.heap.size (fun _=>True) v es∧Below W0.heap.size W0 w'):=hE;have HEE:=Sd.m hE';have HB0:=Sd.m B0;clear hE hE' B0 X0 HEQ;refine HEE.out.mono ?_;rintro e W1 ⟨ve,rfl,rE,bE⟩;obtain ⟨Ae,ce,rfl⟩:=Kd.R_slice rE;have HEC:=Sd.m (Kd.R_reads' rE).2.2;have HB01:=Sd.m (HB0.out.trans (bE.mono HB0.out.size));have CA0:=Sd.m (Kd.C_below HR0.out HB01.out);have CB0:=Sd.m (Kd.C_below HR1.out HB01.out);obtain ⟨fin,hfin⟩: ∃ fin,fin=madeRun rbK l0 l1 es []:=⟨_,rfl⟩;have HFIN:=Sd.m hfin;clear rE bE hfin HEE HB0;go_wp2_with fail;go_loopw [7,9] (fun t7 t9 W=>Lm rbK W1 l0 l1 es fin t7 t9 W) (fun _ t9 _=>es.length - (intOf t9).toNat)
 case atStart=>exact ⟨0,[],Nat.zero_le _,rfl,Kd.R_nil _ _ _ _ _,Below.refl _ _,HFIN.out.symm,Nat.le_refl _,(fun r hr=>by cases hr)⟩
 case round=>
  obtain ⟨j,out,hj,rfl,hR,hB,hrun,hol,hbd⟩:=hrel;have HRo:=Sd.m hR;have HB1:=Sd.m hB;have HBD:=Sd.m hbd;clear hR hB hbd;by_cases hlt:j<es.length
  ·rw [lq_ rbK l0 l1 es j out hlt] at hrun;have HRUN:=Sd.m hrun;clear hrun;have b1:decide ((j:Int)<(es.length:Int))=true:=dt__ (by omega);have b2:decide (j<es.length)=true:=dt__ hlt;have q0:0<=(j:Int):=by omega
   have q1:(j:Int)<(es.length:Int):=by omega
   have w2:IntKind.i64.wrap ((j:Int)+1)=(j:Int)+1:=IntWalk.i64_in _ (by omega);obtain ⟨ad,rfl,k1⟩:=Kd.ds_ (Kd.C_below HEC.out HB1.out) (j:Int) (by omega) (by omega);rw [Int.toNat_natCast] at k1;have hcb:=HES.out _ q0 q1;obtain ⟨cc,hcc0⟩: ∃ cc,cc=rd es (j:Int):=⟨_,rfl⟩;rw [←hcc0] at k1 HRUN hcb;clear hcc0;have CA:=Sd.m (Kd.C_below CA0.out HB1.out);have CB:=Sd.m (Kd.C_below CB0.out HB1.out);have HA:Sd (∀ W,Kd.C k74 W A0 l0.length l0->Calls Tryz.prog 44 #[.slice A0 l0.length c0,.int .i64 cc] W fun e w'=>e=.returned (.bool (hasF l0 cc))∧Drawn0 W w'):=⟨fun W h=>P.bu_ A0 c0 l0 cc W h HC0.out⟩;have HBh:Sd (∀ W,Kd.C k74 W A1 l1.length l1->Calls Tryz.prog 44 #[.slice A1 l1.length c1,.int .i64 cc] W fun e w'=>e=.returned (.bool (hasF l1 cc))∧Drawn0 W w'):=⟨fun W h=>P.bu_ A1 c1 l1 cc W h HC1.out⟩;cases hx:hasF l0 cc <;> cases hy:hasF l1 cc
   all_goals
    rw [hx] at HA;rw [hy] at HBh
   case false.false=>
    have KP:Sd (rbK (hasF l0 cc) (hasF l1 cc)=false):=⟨by rw [hx,hy,hrb.out];rfl⟩;clear hx hy;go_wp2_with fail;go_quiet ((go_at_call 44;first | ((with_reducible refine (HA.out _ (Kd.C_drewN CA.out _)).mono ?_);rintro e w' ⟨rfl,⟨nd,rfl⟩⟩;(first | exact ⟨rfl,_,rfl⟩ | exact ⟨rfl,_,World.drewN_drewN _ _ _⟩ | exact ⟨rfl,_,Eq.trans (World.drewN_drewN _ _ _) (congrArg (World.drewN _) (Nat.add_assoc _ _ _))⟩)) | ((with_reducible refine (HA.out _ CA.out).mono ?_);rintro e w' ⟨rfl,⟨nd,rfl⟩⟩;(first | exact ⟨rfl,_,rfl⟩ | exact ⟨rfl,_,World.drewN_drewN _ _ _⟩ | exact ⟨rfl,_,Eq.trans (World.drewN_drewN _ _ _) (congrArg (World.drewN _) (Nat.add_assoc _ _ _))⟩)) | ((with_reducible refine (HBh.out _ (Kd.C_drewN CB.out _)).mono ?_);rintro e w' ⟨rfl,⟨nd,rfl⟩⟩;(first | exact ⟨rfl,_,rfl⟩ | exact ⟨rfl,_,World.drewN_drewN _ _ _⟩ | exact ⟨rfl,_,Eq.trans (World.drewN_drewN _ _ _) (congrArg (World.drewN _) (Nat.add_assoc _ _ _))⟩)) | ((with_reducible refine (HBh.out _ CB.out).mono ?_);rintro e w' ⟨rfl,⟨nd,rfl⟩⟩;(first | exact ⟨rfl,_,rfl⟩ | exact ⟨rfl,_,World.drewN_drewN _ _ _⟩ | exact ⟨rfl,_,Eq.trans (World.drewN_drewN _ _ _) (congrArg (World.drewN _) (Nat.add_assoc _ _ _))⟩))));clear HA HBh;have HE0:Sd (madeRun rbK l0 l1 (es.drop (j+1)) out=fin):=⟨by
     have:=HRUN.out;rw [KP.out] at this;exact this⟩
    go_wp2_with fail;go_roundw
    case rel=>exact ⟨j+1,_,hlt,by go_num,Kd.R_drewN HRo.out _,ad_ HB1.out _,HE0.out,by omega,HBD.out⟩
    case measure=>simp [intOf];omega
   all_goals
    have KP:Sd (rbK (hasF l0 cc) (hasF l1 cc)=true):=⟨by rw [hx,hy,hrb.out];rfl⟩;clear hx hy;go_wp2_with fail;go_quiet ((go_at_call 44;first | ((with_reducible refine (HA.out _ (Kd.C_drewN CA.out _)).mono ?_);rintro e w' ⟨rfl,⟨nd,rfl⟩⟩;(first | exact ⟨rfl,_,rfl⟩ | exact ⟨rfl,_,World.drewN_drewN _ _ _⟩ | exact ⟨rfl,_,Eq.trans (World.drewN_drewN _ _ _) (congrArg (World.drewN _) (Nat.add_assoc _ _ _))⟩)) | ((with_reducible refine (HA.out _ CA.out).mono ?_);rintro e w' ⟨rfl,⟨nd,rfl⟩⟩;(first | exact ⟨rfl,_,rfl⟩ | exact ⟨rfl,_,World.drewN_drewN _ _ _⟩ | exact ⟨rfl,_,Eq.trans (World.drewN_drewN _ _ _) (congrArg (World.drewN _) (Nat.add_assoc _ _ _))⟩)) | ((with_reducible refine (HBh.out _ (Kd.C_drewN CB.out _)).mono ?_);rintro e w' ⟨rfl,⟨nd,rfl⟩⟩;(first | exact ⟨rfl,_,rfl⟩ | exact ⟨rfl,_,World.drewN_drewN _ _ _⟩ | exact ⟨rfl,_,Eq.trans (World.drewN_drewN _ _ _) (congrArg (World.drewN _) (Nat.add_assoc _ _ _))⟩)) | ((with_reducible refine (HBh.out _ CB.out).mono ?_);rintro e w' ⟨rfl,⟨nd,rfl⟩⟩;(first | exact ⟨rfl,_,rfl⟩ | exact ⟨rfl,_,World.drewN_drewN _ _ _⟩ | exact ⟨rfl,_,Eq.trans (World.drewN_drewN _ _ _) (congrArg (World.drewN _) (Nat.add_assoc _ _ _))⟩))));clear HA HBh;by_cases hn:j+1<es.length
    ·have n1:decide ((j:Int)+1<(es.length:Int))=true:=dt__ (by omega);have n2:decide (j+1<es.length)=true:=dt__ hn;have n3:0<=(j:Int)+1:=by omega
     have n4:(j:Int)+1<(es.length:Int):=by omega
     obtain ⟨ad2,ea2,k2⟩:=Kd.ds_ (Kd.C_below HEC.out HB1.out) ((j:Int)+1) (by omega) (by omega);injection ea2 with ea2;subst ea2;rw [show ((j:Int)+1).toNat=j+1 from by omega] at k2;have hdb:=HES.out _ n3 n4;obtain ⟨dd,hdd⟩: ∃ dd,dd=rd es ((j:Int)+1):=⟨_,rfl⟩;rw [←hdd] at k2 HRUN hdb;clear hdd;have n5:IntKind.i64.wrap (dd - 1)=dd - 1:=IntWalk.i64_in _ (by omega);have k3:wr.cell? ⟨ad.block,ad.off+(j+1),none⟩=some (.int .i64 dd):=by rw [←k2];congr 1
     have HE0:Sd (madeRun rbK l0 l1 (es.drop (j+1)) (mkF true cc (dd - 1) out)=fin):=⟨by
      have:=HRUN.out;rw [KP.out,if_pos hn] at this;exact this⟩
     have hml:=in_ true cc (dd - 1) out;have HML:Sd ((mkF true cc (dd - 1) out).length<=j+1):=⟨by omega⟩;have HBD2:Sd (Bd (mkF true cc (dd - 1) out)):=⟨HBD.out.mk (by omega)⟩;clear hml;by_cases ho:0<out.length
     ·obtain ⟨g,co,rfl,hgb⟩:=R_place HRo.out ho;have hlb:=HBD.out.last ho;obtain ⟨cs,hcl,hcM,hcc,hcf⟩:=Kd.R_elem HRo.out z74 ((out.length:Int) - 1) (by omega) (by omega);obtain rfl:=dz_ hcM;have hi1:((out.length:Int) - 1).toNat=out.length - 1:=by omega
      have y1:wr.cell? ⟨g,(out.length - 1)*2+1,none⟩=some (.int .i64 (al_ out ((out.length:Int) - 1)).f1):=by
       have:=hcc 1 _ rfl;rw [hi1] at this;unfold al_;rw [hi1];exact this
      have z1:wr.frozen? ⟨g,(out.length - 1)*2+1,none⟩=false:=by
       have:=hcf 1;rw [hi1] at this;exact this
      have o1:decide (0<(out.length:Int))=true:=dt__ (by omega);have o2:decide (0<out.length)=true:=dt__ ho;have o3:IntKind.i64.wrap ((out.length:Int) - 1)=(out.length:Int) - 1:=IntWalk.i64_in _ (by omega);have o4:0<=(out.length:Int) - 1:=by omega
      have o5:(out.length:Int) - 1<(out.length:Int):=by omega
      clear hcc hcf hcM hcl;obtain ⟨lh,hlh⟩: ∃ lh,lh=(al_ out ((out.length:Int) - 1)).f1:=⟨_,rfl⟩;rw [←hlh] at y1 hlb;have HLH:=Sd.m hlh;clear hlh;have o6:IntKind.i64.wrap (lh+1)=lh+1:=IntWalk.i64_in _ (by omega);by_cases hjn:lh+1=cc
      ·have o7:((lh+1) == cc)=true:=beq_iff_eq.2 hjn;have EQ:Sd (mkF true cc (dd - 1) out=out.set (out.length - 1) ⟨(al_ out ((out.length:Int) - 1)).f0,(dd - 1)⟩):=⟨by
        unfold mkF;rw [if_pos rfl,if_pos ⟨ho,by rw [←HLH.out];exact hjn⟩]⟩
       have RST:Sd (∀ W:World,Kd.R k74 74 W W1.heap.size (fun _=>True) (.slice (some ⟨g,0,none⟩) out.length co) out->Kd.R k74 74 (W.setCell ⟨g,(out.length - 1)*2+1,none⟩ (.int .i64 (dd - 1))) W1.heap.size (fun _=>True) (.slice (some ⟨g,0,none⟩) out.length co) (mkF true cc (dd - 1) out)):=⟨fun W h=>by rw [EQ.out];exact R_last h ho _⟩;clear hjn;go_wp2_with fail;go_quiet (fail);go_wp2_with fail;go_roundw
       case rel=>exact ⟨j+1,_,hlt,by go_num,RST.out _ (by repeat (first | exact HRo.out | refine Kd.R_drewN ?_ _)),Below.setCell (by repeat (first | exact HB1.out | refine ad_ ?_ _)) hgb _,HE0.out,HML.out,HBD2.out⟩
       case measure=>simp [intOf];omega
      ·have o7:((lh+1) == cc)=false:=beq_eq_false_iff_ne.2 hjn;have EQ:Sd (mkF true cc (dd - 1) out=out ++ [⟨cc,(dd - 1)⟩]):=⟨by
        unfold mkF;rw [if_pos rfl,if_neg (fun q=>hjn (by rw [HLH.out];exact q.2))]⟩
       clear hjn;go_wp2_with fail;go_quiet (fail);go_wp2_with ((with_reducible refine bi_ (b:=.append) (xs:=#[.tmp 104,.tmp 111]) rfl ?_);at_builtin;refine Kd.R_append k74 (w0:=W1) W1.heap.size rfl (.tmp 104) (.tmp 111) 37 74 (.agg #[.int .i64 0,.int .i64 0]) 16 rfl Tryz.underlying37 info74 rfl (by decide) (by omega) _ out ⟨cc,(dd - 1)⟩ [.int .i64 cc,.int .i64 (dd - 1)] (fun _=>True) (fun _=>False) rfl rfl ?aP (fun _ hk=>hk.elim) ?aF ?aO ?aB ?aS ?aL ?_;(case aP=>exact dy_ _ _ _ ⟨cc,(dd - 1)⟩);(case aF=>exact fun _ _=>trivial);(case aO=>(repeat (first | exact HRo.out | refine Kd.R_drewN ?_ _)));(case aB=>(repeat (first | exact HB1.out | refine ad_ ?_ _)));(case aS=>exact HB1.out.size);(case aL=>omega);intro v5 w5 hR5 hb5 hg5 hat5;rw [←EQ.out] at hR5;have HR5:=Sd.m hR5;have HB5:=Sd.m hb5;clear hR5 hb5 hg5 hat5);go_roundw
       case rel=>exact ⟨j+1,_,hlt,by go_num,HR5.out,HB5.out,HE0.out,HML.out,HBD2.out⟩
       case measure=>simp [intOf];omega
     ·obtain ⟨Ao,co,rfl⟩:=Kd.R_slice HRo.out;have o1:decide (0<(out.length:Int))=false:=df__ (by omega);have o2:decide (0<out.length)=false:=df__ ho;have EQ:Sd (mkF true cc (dd - 1) out=out ++ [⟨cc,(dd - 1)⟩]):=⟨by
       unfold mkF;rw [if_pos rfl,if_neg (fun q=>ho q.1)]⟩
      go_wp2_with fail;go_quiet (fail);go_wp2_with ((with_reducible refine bi_ (b:=.append) (xs:=#[.tmp 104,.tmp 111]) rfl ?_);at_builtin;refine Kd.R_append k74 (w0:=W1) W1.heap.size rfl (.tmp 104) (.tmp 111) 37 74 (.agg #[.int .i64 0,.int .i64 0]) 16 rfl Tryz.underlying37 info74 rfl (by decide) (by omega) _ out ⟨cc,(dd - 1)⟩ [.int .i64 cc,.int .i64 (dd - 1)] (fun _=>True) (fun _=>False) rfl rfl ?aP (fun _ hk=>hk.elim) ?aF ?aO ?aB ?aS ?aL ?_;(case aP=>exact dy_ _ _ _ ⟨cc,(dd - 1)⟩);(case aF=>exact fun _ _=>trivial);(case aO=>(repeat (first | exact HRo.out | refine Kd.R_drewN ?_ _)));(case aB=>(repeat (first | exact HB1.out | refine ad_ ?_ _)));(case aS=>exact HB1.out.size);(case aL=>omega);intro v5 w5 hR5 hb5 hg5 hat5;rw [←EQ.out] at hR5;have HR5:=Sd.m hR5;have HB5:=Sd.m hb5;clear hR5 hb5 hg5 hat5);go_roundw
      case rel=>exact ⟨j+1,_,hlt,by go_num,HR5.out,HB5.out,HE0.out,HML.out,HBD2.out⟩
      case measure=>simp [intOf];omega
    ·have n1:decide ((j:Int)+1<(es.length:Int))=false:=df__ (by omega);have n2:decide (j+1<es.length)=false:=df__ hn;have HE0:Sd (madeRun rbK l0 l1 (es.drop (j+1)) (mkF true cc 1114111 out)=fin):=⟨by
      have:=HRUN.out;rw [KP.out,if_neg hn] at this;exact this⟩
     have hml:=in_ true cc 1114111 out;have HML:Sd ((mkF true cc 1114111 out).length<=j+1):=⟨by omega⟩;have HBD2:Sd (Bd (mkF true cc 1114111 out)):=⟨HBD.out.mk (by omega)⟩;clear hml;by_cases ho:0<out.length
     ·obtain ⟨g,co,rfl,hgb⟩:=R_place HRo.out ho;have hlb:=HBD.out.last ho;obtain ⟨cs,hcl,hcM,hcc,hcf⟩:=Kd.R_elem HRo.out z74 ((out.length:Int) - 1) (by omega) (by omega);obtain rfl:=dz_ hcM;have hi1:((out.length:Int) - 1).toNat=out.length - 1:=by omega
      have y1:wr.cell? ⟨g,(out.length - 1)*2+1,none⟩=some (.int .i64 (al_ out ((out.length:Int) - 1)).f1):=by
       have:=hcc 1 _ rfl;rw [hi1] at this;unfold al_;rw [hi1];exact this
      have z1:wr.frozen? ⟨g,(out.length - 1)*2+1,none⟩=false:=by
       have:=hcf 1;rw [hi1] at this;exact this
      have o1:decide (0<(out.length:Int))=true:=dt__ (by omega);have o2:decide (0<out.length)=true:=dt__ ho;have o3:IntKind.i64.wrap ((out.length:Int) - 1)=(out.length:Int) - 1:=IntWalk.i64_in _ (by omega);have o4:0<=(out.length:Int) - 1:=by omega
      have o5:(out.length:Int) - 1<(out.length:Int):=by omega
      clear hcc hcf hcM hcl;obtain ⟨lh,hlh⟩: ∃ lh,lh=(al_ out ((out.length:Int) - 1)).f1:=⟨_,rfl⟩;rw [←hlh] at y1 hlb;have HLH:=Sd.m hlh;clear hlh;have o6:IntKind.i64.wrap (lh+1)=lh+1:=IntWalk.i64_in _ (by omega);by_cases hjn:lh+1=cc
      ·have o7:((lh+1) == cc)=true:=beq_iff_eq.2 hjn;have EQ:Sd (mkF true cc 1114111 out=out.set (out.length - 1) ⟨(al_ out ((out.length:Int) - 1)).f0,1114111⟩):=⟨by
        unfold mkF;rw [if_pos rfl,if_pos ⟨ho,by rw [←HLH.out];exact hjn⟩]⟩
       have RST:Sd (∀ W:World,Kd.R k74 74 W W1.heap.size (fun _=>True) (.slice (some ⟨g,0,none⟩) out.length co) out->Kd.R k74 74 (W.setCell ⟨g,(out.length - 1)*2+1,none⟩ (.int .i64 1114111)) W1.heap.size (fun _=>True) (.slice (some ⟨g,0,none⟩) out.length co) (mkF true cc 1114111 out)):=⟨fun W h=>by rw [EQ.out];exact R_last h ho _⟩;clear hjn;go_wp2_with fail;go_quiet (fail);go_wp2_with fail;go_roundw
       case rel=>exact ⟨j+1,_,hlt,by go_num,RST.out _ (by repeat (first | exact HRo.out | refine Kd.R_drewN ?_ _)),Below.setCell (by repeat (first | exact HB1.out | refine ad_ ?_ _)) hgb _,HE0.out,HML.out,HBD2.out⟩
       case measure=>simp [intOf];omega
      ·have o7:((lh+1) == cc)=false:=beq_eq_false_iff_ne.2 hjn;have EQ:Sd (mkF true cc 1114111 out=out ++ [⟨cc,1114111⟩]):=⟨by
        unfold mkF;rw [if_pos rfl,if_neg (fun q=>hjn (by rw [HLH.out];exact q.2))]⟩
       clear hjn;go_wp2_with fail;go_quiet (fail);go_wp2_with ((with_reducible refine bi_ (b:=.append) (xs:=#[.tmp 104,.tmp 111]) rfl ?_);at_builtin;refine Kd.R_append k74 (w0:=W1) W1.heap.size rfl (.tmp 104) (.tmp 111) 37 74 (.agg #[.int .i64 0,.int .i64 0]) 16 rfl Tryz.underlying37 info74 rfl (by decide) (by omega) _ out ⟨cc,1114111⟩ [.int .i64 cc,.int .i64 1114111] (fun _=>True) (fun _=>False) rfl rfl ?aP (fun _ hk=>hk.elim) ?aF ?aO ?aB ?aS ?aL ?_;(case aP=>exact dy_ _ _ _ ⟨cc,1114111⟩);(case aF=>exact fun _ _=>trivial);(case aO=>(repeat (first | exact HRo.out | refine Kd.R_drewN ?_ _)));(case aB=>(repeat (first | exact HB1.out | refine ad_ ?_ _)));(case aS=>exact HB1.out.size);(case aL=>omega);intro v5 w5 hR5 hb5 hg5 hat5;rw [←EQ.out] at hR5;have HR5:=Sd.m hR5;have HB5:=Sd.m hb5;clear hR5 hb5 hg5 hat5);go_roundw
       case rel=>exact ⟨j+1,_,hlt,by go_num,HR5.out,HB5.out,HE0.out,HML.out,HBD2.out⟩
       case measure=>simp [intOf];omega
     ·obtain ⟨Ao,co,rfl⟩:=Kd.R_slice HRo.out;have o1:decide (0<(out.length:Int))=false:=df__ (by omega);have o2:decide (0<out.length)=false:=df__ ho;have EQ:Sd (mkF true cc 1114111 out=out ++ [⟨cc,1114111⟩]):=⟨by
       unfold mkF;rw [if_pos rfl,if_neg (fun q=>ho q.1)]⟩
      go_wp2_with fail;go_quiet (fail);go_wp2_with ((with_reducible refine bi_ (b:=.append) (xs:=#[.tmp 104,.tmp 111]) rfl ?_);at_builtin;refine Kd.R_append k74 (w0:=W1) W1.heap.size rfl (.tmp 104) (.tmp 111) 37 74 (.agg #[.int .i64 0,.int .i64 0]) 16 rfl Tryz.underlying37 info74 rfl (by decide) (by omega) _ out ⟨cc,1114111⟩ [.int .i64 cc,.int .i64 1114111] (fun _=>True) (fun _=>False) rfl rfl ?aP (fun _ hk=>hk.elim) ?aF ?aO ?aB ?aS ?aL ?_;(case aP=>exact dy_ _ _ _ ⟨cc,1114111⟩);(case aF=>exact fun _ _=>trivial);(case aO=>(repeat (first | exact HRo.out | refine Kd.R_drewN ?_ _)));(case aB=>(repeat (first | exact HB1.out | refine ad_ ?_ _)));(case aS=>exact HB1.out.size);(case aL=>omega);intro v5 w5 hR5 hb5 hg5 hat5;rw [←EQ.out] at hR5;have HR5:=Sd.m hR5;have HB5:=Sd.m hb5;clear hR5 hb5 hg5 hat5);go_roundw
      case rel=>exact ⟨j+1,_,hlt,by go_num,HR5.out,HB5.out,HE0.out,HML.out,HBD2.out⟩
      case measure=>simp [intOf];omega
  ·have b1:decide ((j:Int)<(es.length:Int))=false:=df__ (by omega);have b2:decide (j<es.length)=false:=df__ hlt;have HF:Sd (out=fin):=⟨by rw [List.drop_eq_nil_iff.2 (by omega)] at hrun;exact hrun⟩;clear hrun;go_wp2_with fail;go_ret;exact ⟨_,rfl,by rw [←HFIN.out,←HF.out];exact Kd.R_lower HRo.out HB01.out.size,HB01.out.trans (HB1.out.mono HB01.out.size)⟩
set_option maxHeartbeats 32000000 in
theorem made_and (A0:Option Addr)(c0:Nat)(l0:List S74)(A1:Option Addr)(c1:Nat)(l1:List S74)(w:World)(hr0:Kd.C k74 w A0 l0.length l0)(hc0:l0.length<=c0)(hr1:Kd.C k74 w A1 l1.length l1)(hc1:l1.length<=c1)
  (hes: ∀ i,0<=i->i<((edgesF [l0,l1]).length:Int)->0<=rd (edgesF [l0,l1]) i∧rd (edgesF [l0,l1]) i<=1114111):
  Calls Tryz.prog 46 #[.slice A0 l0.length c0,.slice A1 l1.length c1,.int .i64 1] w fun e w'=> ∃ v,e=.returned v∧Kd.R k74 74 w' w.heap.size (fun _=>True) v (madeRun (fun x y=>x && y) l0 l1 (edgesF [l0,l1]) [])∧Below w.heap.size w w':=by
 obtain ⟨rbK,hrb'⟩: ∃ rbK:Bool->Bool->Bool,rbK=(fun x y=>x && y):=⟨_,rfl⟩;rw [←hrb'];have hrb:=Sd.m hrb';have HR0:=Sd.m hr0;have HR1:=Sd.m hr1;have HC0:=Sd.m hc0;have HC1:=Sd.m hc1;have hel:=gt_ [l0,l1];have hel2:(edgesF [l0,l1]).length<=1601:=hel;obtain ⟨es,hesq⟩: ∃ es,es=edgesF [l0,l1]:=⟨_,rfl⟩;rw [←hesq] at hes hel2 ⊢;have HES:=Sd.m hes;have HEQ:=Sd.m hesq;clear hr0 hr1 hc0 hc1 hrb' hel hes hesq;go_enter Tryz.func46,Tryz.ntmps46;go_wp2_with fail;obtain ⟨W0,hW0⟩: ∃ W0,W0=w.alloc (.cells #[.slice A0 l0.length c0,.slice A1 l1.length c1] 37):=⟨_,rfl⟩;have X0:W0.heap[w.heap.size]? =some (.cells #[.slice A0 l0.length c0,.slice A1 l1.length c1] 37 (0,0)):=by rw [hW0];exact aj_ _ _
 have B0:Below w.heap.size w W0:=by rw [hW0];exact ab_ (Below.refl _ _) _
 rw [←hW0];clear hW0;have hE:=hj_ (some ⟨w.heap.size,0,none⟩) 2 [l0,l1] W0 (C_sets X0 (Kd.C_below HR0.out B0) HC0.out (Kd.C_below HR1.out B0) HC1.out) (Nat.le_refl _) (by simp);rw [←HEQ.out] at hE;have hE':Calls Tryz.prog 82 #[.slice (some ⟨w.heap.size,0,none⟩) 2 2] W0 (fun e w'=> ∃ v,e=.returned v∧Kd.R (Kd.int .i64) 3 w' W0.heap.size (fun _=>True) v es∧Below W0.heap.size W0 w'):=hE;have HEE:=Sd.m hE';have HB0:=Sd.m B0;clear hE hE' B0 X0 HEQ;refine HEE.out.mono ?_;rintro e W1 ⟨ve,rfl,rE,bE⟩;obtain ⟨Ae,ce,rfl⟩:=Kd.R_slice rE;have HEC:=Sd.m (Kd.R_reads' rE).2.2;have HB01:=Sd.m (HB0.out.trans (bE.mono HB0.out.size));have CA0:=Sd.m (Kd.C_below HR0.out HB01.out);have CB0:=Sd.m (Kd.C_below HR1.out HB01.out);obtain ⟨fin,hfin⟩: ∃ fin,fin=madeRun rbK l0 l1 es []:=⟨_,rfl⟩;have HFIN:=Sd.m hfin;clear rE bE hfin HEE HB0;go_wp2_with fail;go_loopw [7,9] (fun t7 t9 W=>Lm rbK W1 l0 l1 es fin t7 t9 W) (fun _ t9 _=>es.length - (intOf t9).toNat)
 case atStart=>exact ⟨0,[],Nat.zero_le _,rfl,Kd.R_nil _ _ _ _ _,Below.refl _ _,HFIN.out.symm,Nat.le_refl _,(fun r hr=>by cases hr)⟩
 case round=>
  obtain ⟨j,out,hj,rfl,hR,hB,hrun,hol,hbd⟩:=hrel;have HRo:=Sd.m hR;have HB1:=Sd.m hB;have HBD:=Sd.m hbd;clear hR hB hbd;by_cases hlt:j<es.length
  ·rw [lq_ rbK l0 l1 es j out hlt] at hrun;have HRUN:=Sd.m hrun;clear hrun;have b1:decide ((j:Int)<(es.length:Int))=true:=dt__ (by omega);have b2:decide (j<es.length)=true:=dt__ hlt;have q0:0<=(j:Int):=by omega
   have q1:(j:Int)<(es.length:Int):=by omega
   have w2:IntKind.i64.wrap ((j:Int)+1)=(j:Int)+1:=IntWalk.i64_in _ (by omega);obtain ⟨ad,rfl,k1⟩:=Kd.ds_ (Kd.C_below HEC.out HB1.out) (j:Int) (by omega) (by omega);rw [Int.toNat_natCast] at k1;have hcb:=HES.out _ q0 q1;obtain ⟨cc,hcc0⟩: ∃ cc,cc=rd es (j:Int):=⟨_,rfl⟩;rw [←hcc0] at k1 HRUN hcb;clear hcc0;have CA:=Sd.m (Kd.C_below CA0.out HB1.out);have CB:=Sd.m (Kd.C_below CB0.out HB1.out);cases hx:hasF l0 cc with
   | true=>
    cases hy:hasF l1 cc with
    | true=>
     have KP:Sd (rbK (hasF l0 cc) (hasF l1 cc)=true):=⟨by rw [hx,hy,hrb.out];rfl⟩;have HA:Sd (∀ W,Kd.C k74 W A0 l0.length l0->Calls Tryz.prog 44 #[.slice A0 l0.length c0,.int .i64 cc] W fun e w'=>e=.returned (.bool true)∧Drawn0 W w'):=⟨fun W h=>by rw [←hx];exact P.bu_ A0 c0 l0 cc W h HC0.out⟩;have HBh:Sd (∀ W,Kd.C k74 W A1 l1.length l1->Calls Tryz.prog 44 #[.slice A1 l1.length c1,.int .i64 cc] W fun e w'=>e=.returned (.bool true)∧Drawn0 W w'):=⟨fun W h=>by rw [←hy];exact P.bu_ A1 c1 l1 cc W h HC1.out⟩;clear hx hy;go_wp2_with fail;go_quiet ((go_at_call 44;first | ((with_reducible refine (HA.out _ (Kd.C_drewN CA.out _)).mono ?_);rintro e w' ⟨rfl,⟨nd,rfl⟩⟩;(first | exact ⟨rfl,_,rfl⟩ | exact ⟨rfl,_,World.drewN_drewN _ _ _⟩ | exact ⟨rfl,_,Eq.trans (World.drewN_drewN _ _ _) (congrArg (World.drewN _) (Nat.add_assoc _ _ _))⟩)) | ((with_reducible refine (HA.out _ CA.out).mono ?_);rintro e w' ⟨rfl,⟨nd,rfl⟩⟩;(first | exact ⟨rfl,_,rfl⟩ | exact ⟨rfl,_,World.drewN_drewN _ _ _⟩ | exact ⟨rfl,_,Eq.trans (World.drewN_drewN _ _ _) (congrArg (World.drewN _) (Nat.add_assoc _ _ _))⟩)) | ((with_reducible refine (HBh.out _ (Kd.C_drewN CB.out _)).mono ?_);rintro e w' ⟨rfl,⟨nd,rfl⟩⟩;(first | exact ⟨rfl,_,rfl⟩ | exact ⟨rfl,_,World.drewN_drewN _ _ _⟩ | exact ⟨rfl,_,Eq.trans (World.drewN_drewN _ _ _) (congrArg (World.drewN _) (Nat.add_assoc _ _ _))⟩)) | ((with_reducible refine (HBh.out _ CB.out).mono ?_);rintro e w' ⟨rfl,⟨nd,rfl⟩⟩;(first | exact ⟨rfl,_,rfl⟩ | exact ⟨rfl,_,World.drewN_drewN _ _ _⟩ | exact ⟨rfl,_,Eq.trans (World.drewN_drewN _ _ _) (congrArg (World.drewN _) (Nat.add_assoc _ _ _))⟩))));clear HA HBh;by_cases hn:j+1<es.length
     ·have n1:decide ((j:Int)+1<(es.length:Int))=true:=dt__ (by omega);have n2:decide (j+1<es.length)=true:=dt__ hn;have n3:0<=(j:Int)+1:=by omega
      have n4:(j:Int)+1<(es.length:Int):=by omega
      obtain ⟨ad2,ea2,k2⟩:=Kd.ds_ (Kd.C_below HEC.out HB1.out) ((j:Int)+1) (by omega) (by omega);injection ea2 with ea2;subst ea2;rw [show ((j:Int)+1).toNat=j+1 from by omega] at k2;have hdb:=HES.out _ n3 n4;obtain ⟨dd,hdd⟩: ∃ dd,dd=rd es ((j:Int)+1):=⟨_,rfl⟩;rw [←hdd] at k2 HRUN hdb;clear hdd;have n5:IntKind.i64.wrap (dd - 1)=dd - 1:=IntWalk.i64_in _ (by omega);have k3:wr.cell? ⟨ad.block,ad.off+(j+1),none⟩=some (.int .i64 dd):=by rw [←k2];congr 1
      have HE0:Sd (madeRun rbK l0 l1 (es.drop (j+1)) (mkF true cc (dd - 1) out)=fin):=⟨by
       have:=HRUN.out;rw [KP.out,if_pos hn] at this;exact this⟩
      have hml:=in_ true cc (dd - 1) out;have HML:Sd ((mkF true cc (dd - 1) out).length<=j+1):=⟨by omega⟩;have HBD2:Sd (Bd (mkF true cc (dd - 1) out)):=⟨HBD.out.mk (by omega)⟩;clear hml;by_cases ho:0<out.length
      ·obtain ⟨g,co,rfl,hgb⟩:=R_place HRo.out ho;have hlb:=HBD.out.last ho;obtain ⟨cs,hcl,hcM,hcc,hcf⟩:=Kd.R_elem HRo.out z74 ((out.length:Int) - 1) (by omega) (by omega);obtain rfl:=dz_ hcM;have hi1:((out.length:Int) - 1).toNat=out.length - 1:=by omega
       have y1:wr.cell? ⟨g,(out.length - 1)*2+1,none⟩=some (.int .i64 (al_ out ((out.length:Int) - 1)).f1):=by
        have:=hcc 1 _ rfl;rw [hi1] at this;unfold al_;rw [hi1];exact this
       have z1:wr.frozen? ⟨g,(out.length - 1)*2+1,none⟩=false:=by
        have:=hcf 1;rw [hi1] at this;exact this
       have o1:decide (0<(out.length:Int))=true:=dt__ (by omega);have o2:decide (0<out.length)=true:=dt__ ho;have o3:IntKind.i64.wrap ((out.length:Int) - 1)=(out.length:Int) - 1:=IntWalk.i64_in _ (by omega);have o4:0<=(out.length:Int) - 1:=by omega
       have o5:(out.length:Int) - 1<(out.length:Int):=by omega
       clear hcc hcf hcM hcl;obtain ⟨lh,hlh⟩: ∃ lh,lh=(al_ out ((out.length:Int) - 1)).f1:=⟨_,rfl⟩;rw [←hlh] at y1 hlb;have HLH:=Sd.m hlh;clear hlh;have o6:IntKind.i64.wrap (lh+1)=lh+1:=IntWalk.i64_in _ (by omega);by_cases hjn:lh+1=cc
       ·have o7:((lh+1) == cc)=true:=beq_iff_eq.2 hjn;have EQ:Sd (mkF true cc (dd - 1) out=out.set (out.length - 1) ⟨(al_ out ((out.length:Int) - 1)).f0,(dd - 1)⟩):=⟨by
         unfold mkF;rw [if_pos rfl,if_pos ⟨ho,by rw [←HLH.out];exact hjn⟩]⟩
        have RST:Sd (∀ W:World,Kd.R k74 74 W W1.heap.size (fun _=>True) (.slice (some ⟨g,0,none⟩) out.length co) out->Kd.R k74 74 (W.setCell ⟨g,(out.length - 1)*2+1,none⟩ (.int .i64 (dd - 1))) W1.heap.size (fun _=>True) (.slice (some ⟨g,0,none⟩) out.length co) (mkF true cc (dd - 1) out)):=⟨fun W h=>by rw [EQ.out];exact R_last h ho _⟩;clear hjn;go_wp2_with fail;go_quiet (fail);go_wp2_with fail;go_roundw
        case rel=>exact ⟨j+1,_,hlt,by go_num,RST.out _ (by repeat (first | exact HRo.out | refine Kd.R_drewN ?_ _)),Below.setCell (by repeat (first | exact HB1.out | refine ad_ ?_ _)) hgb _,HE0.out,HML.out,HBD2.out⟩
        case measure=>simp [intOf];omega
       ·have o7:((lh+1) == cc)=false:=beq_eq_false_iff_ne.2 hjn;have EQ:Sd (mkF true cc (dd - 1) out=out ++ [⟨cc,(dd - 1)⟩]):=⟨by
         unfold mkF;rw [if_pos rfl,if_neg (fun q=>hjn (by rw [HLH.out];exact q.2))]⟩
        clear hjn;go_wp2_with fail;go_quiet (fail);go_wp2_with ((with_reducible refine bi_ (b:=.append) (xs:=#[.tmp 104,.tmp 111]) rfl ?_);at_builtin;refine Kd.R_append k74 (w0:=W1) W1.heap.size rfl (.tmp 104) (.tmp 111) 37 74 (.agg #[.int .i64 0,.int .i64 0]) 16 rfl Tryz.underlying37 info74 rfl (by decide) (by omega) _ out ⟨cc,(dd - 1)⟩ [.int .i64 cc,.int .i64 (dd - 1)] (fun _=>True) (fun _=>False) rfl rfl ?aP (fun _ hk=>hk.elim) ?aF ?aO ?aB ?aS ?aL ?_;(case aP=>exact dy_ _ _ _ ⟨cc,(dd - 1)⟩);(case aF=>exact fun _ _=>trivial);(case aO=>(repeat (first | exact HRo.out | refine Kd.R_drewN ?_ _)));(case aB=>(repeat (first | exact HB1.out | refine ad_ ?_ _)));(case aS=>exact HB1.out.size);(case aL=>omega);intro v5 w5 hR5 hb5 hg5 hat5;rw [←EQ.out] at hR5;have HR5:=Sd.m hR5;have HB5:=Sd.m hb5;clear hR5 hb5 hg5 hat5);go_roundw
        case rel=>exact ⟨j+1,_,hlt,by go_num,HR5.out,HB5.out,HE0.out,HML.out,HBD2.out⟩
        case measure=>simp [intOf];omega
      ·obtain ⟨Ao,co,rfl⟩:=Kd.R_slice HRo.out;have o1:decide (0<(out.length:Int))=false:=df__ (by omega);have o2:decide (0<out.length)=false:=df__ ho;have EQ:Sd (mkF true cc (dd - 1) out=out ++ [⟨cc,(dd - 1)⟩]):=⟨by
        unfold mkF;rw [if_pos rfl,if_neg (fun q=>ho q.1)]⟩
       go_wp2_with fail;go_quiet (fail);go_wp2_with ((with_reducible refine bi_ (b:=.append) (xs:=#[.tmp 104,.tmp 111]) rfl ?_);at_builtin;refine Kd.R_append k74 (w0:=W1) W1.heap.size rfl (.tmp 104) (.tmp 111) 37 74 (.agg #[.int .i64 0,.int .i64 0]) 16 rfl Tryz.underlying37 info74 rfl (by decide) (by omega) _ out ⟨cc,(dd - 1)⟩ [.int .i64 cc,.int .i64 (dd - 1)] (fun _=>True) (fun _=>False) rfl rfl ?aP (fun _ hk=>hk.elim) ?aF ?aO ?aB ?aS ?aL ?_;(case aP=>exact dy_ _ _ _ ⟨cc,(dd - 1)⟩);(case aF=>exact fun _ _=>trivial);(case aO=>(repeat (first | exact HRo.out | refine Kd.R_drewN ?_ _)));(case aB=>(repeat (first | exact HB1.out | refine ad_ ?_ _)));(case aS=>exact HB1.out.size);(case aL=>omega);intro v5 w5 hR5 hb5 hg5 hat5;rw [←EQ.out] at hR5;have HR5:=Sd.m hR5;have HB5:=Sd.m hb5;clear hR5 hb5 hg5 hat5);go_roundw
       case rel=>exact ⟨j+1,_,hlt,by go_num,HR5.out,HB5.out,HE0.out,HML.out,HBD2.out⟩
       case measure=>simp [intOf];omega
     ·have n1:decide ((j:Int)+1<(es.length:Int))=false:=df__ (by omega);have n2:decide (j+1<es.length)=false:=df__ hn;have HE0:Sd (madeRun rbK l0 l1 (es.drop (j+1)) (mkF true cc 1114111 out)=fin):=⟨by
       have:=HRUN.out;rw [KP.out,if_neg hn] at this;exact this⟩
      have hml:=in_ true cc 1114111 out;have HML:Sd ((mkF true cc 1114111 out).length<=j+1):=⟨by omega⟩;have HBD2:Sd (Bd (mkF true cc 1114111 out)):=⟨HBD.out.mk (by omega)⟩;clear hml;by_cases ho:0<out.length
      ·obtain ⟨g,co,rfl,hgb⟩:=R_place HRo.out ho;have hlb:=HBD.out.last ho;obtain ⟨cs,hcl,hcM,hcc,hcf⟩:=Kd.R_elem HRo.out z74 ((out.length:Int) - 1) (by omega) (by omega);obtain rfl:=dz_ hcM;have hi1:((out.length:Int) - 1).toNat=out.length - 1:=by omega
       have y1:wr.cell? ⟨g,(out.length - 1)*2+1,none⟩=some (.int .i64 (al_ out ((out.length:Int) - 1)).f1):=by
        have:=hcc 1 _ rfl;rw [hi1] at this;unfold al_;rw [hi1];exact this
       have z1:wr.frozen? ⟨g,(out.length - 1)*2+1,none⟩=false:=by
        have:=hcf 1;rw [hi1] at this;exact this
       have o1:decide (0<(out.length:Int))=true:=dt__ (by omega);have o2:decide (0<out.length)=true:=dt__ ho;have o3:IntKind.i64.wrap ((out.length:Int) - 1)=(out.length:Int) - 1:=IntWalk.i64_in _ (by omega);have o4:0<=(out.length:Int) - 1:=by omega
       have o5:(out.length:Int) - 1<(out.length:Int):=by omega
       clear hcc hcf hcM hcl;obtain ⟨lh,hlh⟩: ∃ lh,lh=(al_ out ((out.length:Int) - 1)).f1:=⟨_,rfl⟩;rw [←hlh] at y1 hlb;have HLH:=Sd.m hlh;clear hlh;have o6:IntKind.i64.wrap (lh+1)=lh+1:=IntWalk.i64_in _ (by omega);by_cases hjn:lh+1=cc
       ·have o7:((lh+1) == cc)=true:=beq_iff_eq.2 hjn;have EQ:Sd (mkF true cc 1114111 out=out.set (out.length - 1) ⟨(al_ out ((out.length:Int) - 1)).f0,1114111⟩):=⟨by
         unfold mkF;rw [if_pos rfl,if_pos ⟨ho,by rw [←HLH.out];exact hjn⟩]⟩
        have RST:Sd (∀ W:World,Kd.R k74 74 W W1.heap.size (fun _=>True) (.slice (some ⟨g,0,none⟩) out.length co) out->Kd.R k74 74 (W.setCell ⟨g,(out.length - 1)*2+1,none⟩ (.int .i64 1114111)) W1.heap.size (fun _=>True) (.slice (some ⟨g,0,none⟩) out.length co) (mkF true cc 1114111 out)):=⟨fun W h=>by rw [EQ.out];exact R_last h ho _⟩;clear hjn;go_wp2_with fail;go_quiet (fail);go_wp2_with fail;go_roundw
        case rel=>exact ⟨j+1,_,hlt,by go_num,RST.out _ (by repeat (first | exact HRo.out | refine Kd.R_drewN ?_ _)),Below.setCell (by repeat (first | exact HB1.out | refine ad_ ?_ _)) hgb _,HE0.out,HML.out,HBD2.out⟩
        case measure=>simp [intOf];omega
       ·have o7:((lh+1) == cc)=false:=beq_eq_false_iff_ne.2 hjn;have EQ:Sd (mkF true cc 1114111 out=out ++ [⟨cc,1114111⟩]):=⟨by
         unfold mkF;rw [if_pos rfl,if_neg (fun q=>hjn (by rw [HLH.out];exact q.2))]⟩
        clear hjn;go_wp2_with fail;go_quiet (fail);go_wp2_with ((with_reducible refine bi_ (b:=.append) (xs:=#[.tmp 104,.tmp 111]) rfl ?_);at_builtin;refine Kd.R_append k74 (w0:=W1) W1.heap.size rfl (.tmp 104) (.tmp 111) 37 74 (.agg #[.int .i64 0,.int .i64 0]) 16 rfl Tryz.underlying37 info74 rfl (by decide) (by omega) _ out ⟨cc,1114111⟩ [.int .i64 cc,.int .i64 1114111] (fun _=>True) (fun _=>False) rfl rfl ?aP (fun _ hk=>hk.elim) ?aF ?aO ?aB ?aS ?aL ?_;(case aP=>exact dy_ _ _ _ ⟨cc,1114111⟩);(case aF=>exact fun _ _=>trivial);(case aO=>(repeat (first | exact HRo.out | refine Kd.R_drewN ?_ _)));(case aB=>(repeat (first | exact HB1.out | refine ad_ ?_ _)));(case aS=>exact HB1.out.size);(case aL=>omega);intro v5 w5 hR5 hb5 hg5 hat5;rw [←EQ.out] at hR5;have HR5:=Sd.m hR5;have HB5:=Sd.m hb5;clear hR5 hb5 hg5 hat5);go_roundw
        case rel=>exact ⟨j+1,_,hlt,by go_num,HR5.out,HB5.out,HE0.out,HML.out,HBD2.out⟩
        case measure=>simp [intOf];omega
      ·obtain ⟨Ao,co,rfl⟩:=Kd.R_slice HRo.out;have o1:decide (0<(out.length:Int))=false:=df__ (by omega);have o2:decide (0<out.length)=false:=df__ ho;have EQ:Sd (mkF true cc 1114111 out=out ++ [⟨cc,1114111⟩]):=⟨by
        unfold mkF;rw [if_pos rfl,if_neg (fun q=>ho q.1)]⟩
       go_wp2_with fail;go_quiet (fail);go_wp2_with ((with_reducible refine bi_ (b:=.append) (xs:=#[.tmp 104,.tmp 111]) rfl ?_);at_builtin;refine Kd.R_append k74 (w0:=W1) W1.heap.size rfl (.tmp 104) (.tmp 111) 37 74 (.agg #[.int .i64 0,.int .i64 0]) 16 rfl Tryz.underlying37 info74 rfl (by decide) (by omega) _ out ⟨cc,1114111⟩ [.int .i64 cc,.int .i64 1114111] (fun _=>True) (fun _=>False) rfl rfl ?aP (fun _ hk=>hk.elim) ?aF ?aO ?aB ?aS ?aL ?_;(case aP=>exact dy_ _ _ _ ⟨cc,1114111⟩);(case aF=>exact fun _ _=>trivial);(case aO=>(repeat (first | exact HRo.out | refine Kd.R_drewN ?_ _)));(case aB=>(repeat (first | exact HB1.out | refine ad_ ?_ _)));(case aS=>exact HB1.out.size);(case aL=>omega);intro v5 w5 hR5 hb5 hg5 hat5;rw [←EQ.out] at hR5;have HR5:=Sd.m hR5;have HB5:=Sd.m hb5;clear hR5 hb5 hg5 hat5);go_roundw
       case rel=>exact ⟨j+1,_,hlt,by go_num,HR5.out,HB5.out,HE0.out,HML.out,HBD2.out⟩
       case measure=>simp [intOf];omega
    | false=>
     have KP:Sd (rbK (hasF l0 cc) (hasF l1 cc)=false):=⟨by rw [hx,hy,hrb.out];rfl⟩;have HA:Sd (∀ W,Kd.C k74 W A0 l0.length l0->Calls Tryz.prog 44 #[.slice A0 l0.length c0,.int .i64 cc] W fun e w'=>e=.returned (.bool true)∧Drawn0 W w'):=⟨fun W h=>by rw [←hx];exact P.bu_ A0 c0 l0 cc W h HC0.out⟩;have HBh:Sd (∀ W,Kd.C k74 W A1 l1.length l1->Calls Tryz.prog 44 #[.slice A1 l1.length c1,.int .i64 cc] W fun e w'=>e=.returned (.bool false)∧Drawn0 W w'):=⟨fun W h=>by rw [←hy];exact P.bu_ A1 c1 l1 cc W h HC1.out⟩;clear hx hy;go_wp2_with fail;go_quiet ((go_at_call 44;first | ((with_reducible refine (HA.out _ (Kd.C_drewN CA.out _)).mono ?_);rintro e w' ⟨rfl,⟨nd,rfl⟩⟩;(first | exact ⟨rfl,_,rfl⟩ | exact ⟨rfl,_,World.drewN_drewN _ _ _⟩ | exact ⟨rfl,_,Eq.trans (World.drewN_drewN _ _ _) (congrArg (World.drewN _) (Nat.add_assoc _ _ _))⟩)) | ((with_reducible refine (HA.out _ CA.out).mono ?_);rintro e w' ⟨rfl,⟨nd,rfl⟩⟩;(first | exact ⟨rfl,_,rfl⟩ | exact ⟨rfl,_,World.drewN_drewN _ _ _⟩ | exact ⟨rfl,_,Eq.trans (World.drewN_drewN _ _ _) (congrArg (World.drewN _) (Nat.add_assoc _ _ _))⟩)) | ((with_reducible refine (HBh.out _ (Kd.C_drewN CB.out _)).mono ?_);rintro e w' ⟨rfl,⟨nd,rfl⟩⟩;(first | exact ⟨rfl,_,rfl⟩ | exact ⟨rfl,_,World.drewN_drewN _ _ _⟩ | exact ⟨rfl,_,Eq.trans (World.drewN_drewN _ _ _) (congrArg (World.drewN _) (Nat.add_assoc _ _ _))⟩)) | ((with_reducible refine (HBh.out _ CB.out).mono ?_);rintro e w' ⟨rfl,⟨nd,rfl⟩⟩;(first | exact ⟨rfl,_,rfl⟩ | exact ⟨rfl,_,World.drewN_drewN _ _ _⟩ | exact ⟨rfl,_,Eq.trans (World.drewN_drewN _ _ _) (congrArg (World.drewN _) (Nat.add_assoc _ _ _))⟩))));clear HA HBh;have HE0:Sd (madeRun rbK l0 l1 (es.drop (j+1)) out=fin):=⟨by
      have:=HRUN.out;rw [KP.out] at this;exact this⟩
     go_wp2_with fail;go_roundw
     case rel=>exact ⟨j+1,_,hlt,by go_num,Kd.R_drewN HRo.out _,ad_ HB1.out _,HE0.out,by omega,HBD.out⟩
     case measure=>simp [intOf];omega
   | false=>
    cases hy:hasF l1 cc with
    | true=>
     have KP:Sd (rbK (hasF l0 cc) (hasF l1 cc)=false):=⟨by rw [hx,hy,hrb.out];rfl⟩;have HA:Sd (∀ W,Kd.C k74 W A0 l0.length l0->Calls Tryz.prog 44 #[.slice A0 l0.length c0,.int .i64 cc] W fun e w'=>e=.returned (.bool false)∧Drawn0 W w'):=⟨fun W h=>by rw [←hx];exact P.bu_ A0 c0 l0 cc W h HC0.out⟩;have HBh:Sd (∀ W,Kd.C k74 W A1 l1.length l1->Calls Tryz.prog 44 #[.slice A1 l1.length c1,.int .i64 cc] W fun e w'=>e=.returned (.bool true)∧Drawn0 W w'):=⟨fun W h=>by rw [←hy];exact P.bu_ A1 c1 l1 cc W h HC1.out⟩;clear hx hy;go_wp2_with fail;go_quiet ((go_at_call 44;first | ((with_reducible refine (HA.out _ (Kd.C_drewN CA.out _)).mono ?_);rintro e w' ⟨rfl,⟨nd,rfl⟩⟩;(first | exact ⟨rfl,_,rfl⟩ | exact ⟨rfl,_,World.drewN_drewN _ _ _⟩ | exact ⟨rfl,_,Eq.trans (World.drewN_drewN _ _ _) (congrArg (World.drewN _) (Nat.add_assoc _ _ _))⟩)) | ((with_reducible refine (HA.out _ CA.out).mono ?_);rintro e w' ⟨rfl,⟨nd,rfl⟩⟩;(first | exact ⟨rfl,_,rfl⟩ | exact ⟨rfl,_,World.drewN_drewN _ _ _⟩ | exact ⟨rfl,_,Eq.trans (World.drewN_drewN _ _ _) (congrArg (World.drewN _) (Nat.add_assoc _ _ _))⟩)) | ((with_reducible refine (HBh.out _ (Kd.C_drewN CB.out _)).mono ?_);rintro e w' ⟨rfl,⟨nd,rfl⟩⟩;(first | exact ⟨rfl,_,rfl⟩ | exact ⟨rfl,_,World.drewN_drewN _ _ _⟩ | exact ⟨rfl,_,Eq.trans (World.drewN_drewN _ _ _) (congrArg (World.drewN _) (Nat.add_assoc _ _ _))⟩)) | ((with_reducible refine (HBh.out _ CB.out).mono ?_);rintro e w' ⟨rfl,⟨nd,rfl⟩⟩;(first | exact ⟨rfl,_,rfl⟩ | exact ⟨rfl,_,World.drewN_drewN _ _ _⟩ | exact ⟨rfl,_,Eq.trans (World.drewN_drewN _ _ _) (congrArg (World.drewN _) (Nat.add_assoc _ _ _))⟩))));clear HA HBh;have HE0:Sd (madeRun rbK l0 l1 (es.drop (j+1)) out=fin):=⟨by
      have:=HRUN.out;rw [KP.out] at this;exact this⟩
     go_wp2_with fail;go_roundw
     case rel=>exact ⟨j+1,_,hlt,by go_num,Kd.R_drewN HRo.out _,ad_ HB1.out _,HE0.out,by omega,HBD.out⟩
     case measure=>simp [intOf];omega
    | false=>
     have KP:Sd (rbK (hasF l0 cc) (hasF l1 cc)=false):=⟨by rw [hx,hy,hrb.out];rfl⟩;have HA:Sd (∀ W,Kd.C k74 W A0 l0.length l0->Calls Tryz.prog 44 #[.slice A0 l0.length c0,.int .i64 cc] W fun e w'=>e=.returned (.bool false)∧Drawn0 W w'):=⟨fun W h=>by rw [←hx];exact P.bu_ A0 c0 l0 cc W h HC0.out⟩;have HBh:Sd (∀ W,Kd.C k74 W A1 l1.length l1->Calls Tryz.prog 44 #[.slice A1 l1.length c1,.int .i64 cc] W fun e w'=>e=.returned (.bool false)∧Drawn0 W w'):=⟨fun W h=>by rw [←hy];exact P.bu_ A1 c1 l1 cc W h HC1.out⟩;clear hx hy;go_wp2_with fail;go_quiet ((go_at_call 44;first | ((with_reducible refine (HA.out _ (Kd.C_drewN CA.out _)).mono ?_);rintro e w' ⟨rfl,⟨nd,rfl⟩⟩;(first | exact ⟨rfl,_,rfl⟩ | exact ⟨rfl,_,World.drewN_drewN _ _ _⟩ | exact ⟨rfl,_,Eq.trans (World.drewN_drewN _ _ _) (congrArg (World.drewN _) (Nat.add_assoc _ _ _))⟩)) | ((with_reducible refine (HA.out _ CA.out).mono ?_);rintro e w' ⟨rfl,⟨nd,rfl⟩⟩;(first | exact ⟨rfl,_,rfl⟩ | exact ⟨rfl,_,World.drewN_drewN _ _ _⟩ | exact ⟨rfl,_,Eq.trans (World.drewN_drewN _ _ _) (congrArg (World.drewN _) (Nat.add_assoc _ _ _))⟩)) | ((with_reducible refine (HBh.out _ (Kd.C_drewN CB.out _)).mono ?_);rintro e w' ⟨rfl,⟨nd,rfl⟩⟩;(first | exact ⟨rfl,_,rfl⟩ | exact ⟨rfl,_,World.drewN_drewN _ _ _⟩ | exact ⟨rfl,_,Eq.trans (World.drewN_drewN _ _ _) (congrArg (World.drewN _) (Nat.add_assoc _ _ _))⟩)) | ((with_reducible refine (HBh.out _ CB.out).mono ?_);rintro e w' ⟨rfl,⟨nd,rfl⟩⟩;(first | exact ⟨rfl,_,rfl⟩ | exact ⟨rfl,_,World.drewN_drewN _ _ _⟩ | exact ⟨rfl,_,Eq.trans (World.drewN_drewN _ _ _) (congrArg (World.drewN _) (Nat.add_assoc _ _ _))⟩))));clear HA HBh;have HE0:Sd (madeRun rbK l0 l1 (es.drop (j+1)) out=fin):=⟨by
      have:=HRUN.out;rw [KP.out] at this;exact this⟩
     go_wp2_with fail;go_roundw
     case rel=>exact ⟨j+1,_,hlt,by go_num,Kd.R_drewN HRo.out _,ad_ HB1.out _,HE0.out,by omega,HBD.out⟩
     case measure=>simp [intOf];omega
  ·have b1:decide ((j:Int)<(es.length:Int))=false:=df__ (by omega);have b2:decide (j<es.length)=false:=df__ hlt;have HF:Sd (out=fin):=⟨by rw [List.drop_eq_nil_iff.2 (by omega)] at hrun;exact hrun⟩;clear hrun;go_wp2_with fail;go_ret;exact ⟨_,rfl,by rw [←HFIN.out,←HF.out];exact Kd.R_lower HRo.out HB01.out.size,HB01.out.trans (HB1.out.mono HB01.out.size)⟩
set_option maxHeartbeats 32000000 in
theorem made_less (A0:Option Addr)(c0:Nat)(l0:List S74)(A1:Option Addr)(c1:Nat)(l1:List S74)(w:World)(hr0:Kd.C k74 w A0 l0.length l0)(hc0:l0.length<=c0)(hr1:Kd.C k74 w A1 l1.length l1)(hc1:l1.length<=c1)
  (hes: ∀ i,0<=i->i<((edgesF [l0,l1]).length:Int)->0<=rd (edgesF [l0,l1]) i∧rd (edgesF [l0,l1]) i<=1114111):
  Calls Tryz.prog 46 #[.slice A0 l0.length c0,.slice A1 l1.length c1,.int .i64 2] w fun e w'=> ∃ v,e=.returned v∧Kd.R k74 74 w' w.heap.size (fun _=>True) v (madeRun (fun x y=>x && !y) l0 l1 (edgesF [l0,l1]) [])∧Below w.heap.size w w':=by
 obtain ⟨rbK,hrb'⟩: ∃ rbK:Bool->Bool->Bool,rbK=(fun x y=>x && !y):=⟨_,rfl⟩;rw [←hrb'];have hrb:=Sd.m hrb';have HR0:=Sd.m hr0;have HR1:=Sd.m hr1;have HC0:=Sd.m hc0;have HC1:=Sd.m hc1;have hel:=gt_ [l0,l1];have hel2:(edgesF [l0,l1]).length<=1601:=hel;obtain ⟨es,hesq⟩: ∃ es,es=edgesF [l0,l1]:=⟨_,rfl⟩;rw [←hesq] at hes hel2 ⊢;have HES:=Sd.m hes;have HEQ:=Sd.m hesq;clear hr0 hr1 hc0 hc1 hrb' hel hes hesq;go_enter Tryz.func46,Tryz.ntmps46;go_wp2_with fail;obtain ⟨W0,hW0⟩: ∃ W0,W0=w.alloc (.cells #[.slice A0 l0.length c0,.slice A1 l1.length c1] 37):=⟨_,rfl⟩;have X0:W0.heap[w.heap.size]? =some (.cells #[.slice A0 l0.length c0,.slice A1 l1.length c1] 37 (0,0)):=by rw [hW0];exact aj_ _ _
 have B0:Below w.heap.size w W0:=by rw [hW0];exact ab_ (Below.refl _ _) _
 rw [←hW0];clear hW0;have hE:=hj_ (some ⟨w.heap.size,0,none⟩) 2 [l0,l1] W0 (C_sets X0 (Kd.C_below HR0.out B0) HC0.out (Kd.C_below HR1.out B0) HC1.out) (Nat.le_refl _) (by simp);rw [←HEQ.out] at hE;have hE':Calls Tryz.prog 82 #[.slice (some ⟨w.heap.size,0,none⟩) 2 2] W0 (fun e w'=> ∃ v,e=.returned v∧Kd.R (Kd.int .i64) 3 w' W0.heap.size (fun _=>True) v es∧Below W0.heap.size W0 w'):=hE;have HEE:=Sd.m hE';have HB0:=Sd.m B0;clear hE hE' B0 X0 HEQ;refine HEE.out.mono ?_;rintro e W1 ⟨ve,rfl,rE,bE⟩;obtain ⟨Ae,ce,rfl⟩:=Kd.R_slice rE;have HEC:=Sd.m (Kd.R_reads' rE).2.2;have HB01:=Sd.m (HB0.out.trans (bE.mono HB0.out.size));have CA0:=Sd.m (Kd.C_below HR0.out HB01.out);have CB0:=Sd.m (Kd.C_below HR1.out HB01.out);obtain ⟨fin,hfin⟩: ∃ fin,fin=madeRun rbK l0 l1 es []:=⟨_,rfl⟩;have HFIN:=Sd.m hfin;clear rE bE hfin HEE HB0;go_wp2_with fail;go_loopw [7,9] (fun t7 t9 W=>Lm rbK W1 l0 l1 es fin t7 t9 W) (fun _ t9 _=>es.length - (intOf t9).toNat)
 case atStart=>exact ⟨0,[],Nat.zero_le _,rfl,Kd.R_nil _ _ _ _ _,Below.refl _ _,HFIN.out.symm,Nat.le_refl _,(fun r hr=>by cases hr)⟩
 case round=>
  obtain ⟨j,out,hj,rfl,hR,hB,hrun,hol,hbd⟩:=hrel;have HRo:=Sd.m hR;have HB1:=Sd.m hB;have HBD:=Sd.m hbd;clear hR hB hbd;by_cases hlt:j<es.length
  ·rw [lq_ rbK l0 l1 es j out hlt] at hrun;have HRUN:=Sd.m hrun;clear hrun;have b1:decide ((j:Int)<(es.length:Int))=true:=dt__ (by omega);have b2:decide (j<es.length)=true:=dt__ hlt;have q0:0<=(j:Int):=by omega
   have q1:(j:Int)<(es.length:Int):=by omega
   have w2:IntKind.i64.wrap ((j:Int)+1)=(j:Int)+1:=IntWalk.i64_in _ (by omega);obtain ⟨ad,rfl,k1⟩:=Kd.ds_ (Kd.C_below HEC.out HB1.out) (j:Int) (by omega) (by omega);rw [Int.toNat_natCast] at k1;have hcb:=HES.out _ q0 q1;obtain ⟨cc,hcc0⟩: ∃ cc,cc=rd es (j:Int):=⟨_,rfl⟩;rw [←hcc0] at k1 HRUN hcb;clear hcc0;have CA:=Sd.m (Kd.C_below CA0.out HB1.out);have CB:=Sd.m (Kd.C_below CB0.out HB1.out);cases hx:hasF l0 cc with
   | true=>
    cases hy:hasF l1 cc with
    | true=>
     have KP:Sd (rbK (hasF l0 cc) (hasF l1 cc)=false):=⟨by rw [hx,hy,hrb.out];rfl⟩;have HA:Sd (∀ W,Kd.C k74 W A0 l0.length l0->Calls Tryz.prog 44 #[.slice A0 l0.length c0,.int .i64 cc] W fun e w'=>e=.returned (.bool true)∧Drawn0 W w'):=⟨fun W h=>by rw [←hx];exact P.bu_ A0 c0 l0 cc W h HC0.out⟩;have HBh:Sd (∀ W,Kd.C k74 W A1 l1.length l1->Calls Tryz.prog 44 #[.slice A1 l1.length c1,.int .i64 cc] W fun e w'=>e=.returned (.bool true)∧Drawn0 W w'):=⟨fun W h=>by rw [←hy];exact P.bu_ A1 c1 l1 cc W h HC1.out⟩;clear hx hy;go_wp2_with fail;go_quiet ((go_at_call 44;first | ((with_reducible refine (HA.out _ (Kd.C_drewN CA.out _)).mono ?_);rintro e w' ⟨rfl,⟨nd,rfl⟩⟩;(first | exact ⟨rfl,_,rfl⟩ | exact ⟨rfl,_,World.drewN_drewN _ _ _⟩ | exact ⟨rfl,_,Eq.trans (World.drewN_drewN _ _ _) (congrArg (World.drewN _) (Nat.add_assoc _ _ _))⟩)) | ((with_reducible refine (HA.out _ CA.out).mono ?_);rintro e w' ⟨rfl,⟨nd,rfl⟩⟩;(first | exact ⟨rfl,_,rfl⟩ | exact ⟨rfl,_,World.drewN_drewN _ _ _⟩ | exact ⟨rfl,_,Eq.trans (World.drewN_drewN _ _ _) (congrArg (World.drewN _) (Nat.add_assoc _ _ _))⟩)) | ((with_reducible refine (HBh.out _ (Kd.C_drewN CB.out _)).mono ?_);rintro e w' ⟨rfl,⟨nd,rfl⟩⟩;(first | exact ⟨rfl,_,rfl⟩ | exact ⟨rfl,_,World.drewN_drewN _ _ _⟩ | exact ⟨rfl,_,Eq.trans (World.drewN_drewN _ _ _) (congrArg (World.drewN _) (Nat.add_assoc _ _ _))⟩)) | ((with_reducible refine (HBh.out _ CB.out).mono ?_);rintro e w' ⟨rfl,⟨nd,rfl⟩⟩;(first | exact ⟨rfl,_,rfl⟩ | exact ⟨rfl,_,World.drewN_drewN _ _ _⟩ | exact ⟨rfl,_,Eq.trans (World.drewN_drewN _ _ _) (congrArg (World.drewN _) (Nat.add_assoc _ _ _))⟩))));clear HA HBh;have HE0:Sd (madeRun rbK l0 l1 (es.drop (j+1)) out=fin):=⟨by
      have:=HRUN.out;rw [KP.out] at this;exact this⟩
     go_wp2_with fail;go_roundw
     case rel=>exact ⟨j+1,_,hlt,by go_num,Kd.R_drewN HRo.out _,ad_ HB1.out _,HE0.out,by omega,HBD.out⟩
     case measure=>simp [intOf];omega
    | false=>
     have KP:Sd (rbK (hasF l0 cc) (hasF l1 cc)=true):=⟨by rw [hx,hy,hrb.out];rfl⟩;have HA:Sd (∀ W,Kd.C k74 W A0 l0.length l0->Calls Tryz.prog 44 #[.slice A0 l0.length c0,.int .i64 cc] W fun e w'=>e=.returned (.bool true)∧Drawn0 W w'):=⟨fun W h=>by rw [←hx];exact P.bu_ A0 c0 l0 cc W h HC0.out⟩;have HBh:Sd (∀ W,Kd.C k74 W A1 l1.length l1->Calls Tryz.prog 44 #[.slice A1 l1.length c1,.int .i64 cc] W fun e w'=>e=.returned (.bool false)∧Drawn0 W w'):=⟨fun W h=>by rw [←hy];exact P.bu_ A1 c1 l1 cc W h HC1.out⟩;clear hx hy;go_wp2_with fail;go_quiet ((go_at_call 44;first | ((with_reducible refine (HA.out _ (Kd.C_drewN CA.out _)).mono ?_);rintro e w' ⟨rfl,⟨nd,rfl⟩⟩;(first | exact ⟨rfl,_,rfl⟩ | exact ⟨rfl,_,World.drewN_drewN _ _ _⟩ | exact ⟨rfl,_,Eq.trans (World.drewN_drewN _ _ _) (congrArg (World.drewN _) (Nat.add_assoc _ _ _))⟩)) | ((with_reducible refine (HA.out _ CA.out).mono ?_);rintro e w' ⟨rfl,⟨nd,rfl⟩⟩;(first | exact ⟨rfl,_,rfl⟩ | exact ⟨rfl,_,World.drewN_drewN _ _ _⟩ | exact ⟨rfl,_,Eq.trans (World.drewN_drewN _ _ _) (congrArg (World.drewN _) (Nat.add_assoc _ _ _))⟩)) | ((with_reducible refine (HBh.out _ (Kd.C_drewN CB.out _)).mono ?_);rintro e w' ⟨rfl,⟨nd,rfl⟩⟩;(first | exact ⟨rfl,_,rfl⟩ | exact ⟨rfl,_,World.drewN_drewN _ _ _⟩ | exact ⟨rfl,_,Eq.trans (World.drewN_drewN _ _ _) (congrArg (World.drewN _) (Nat.add_assoc _ _ _))⟩)) | ((with_reducible refine (HBh.out _ CB.out).mono ?_);rintro e w' ⟨rfl,⟨nd,rfl⟩⟩;(first | exact ⟨rfl,_,rfl⟩ | exact ⟨rfl,_,World.drewN_drewN _ _ _⟩ | exact ⟨rfl,_,Eq.trans (World.drewN_drewN _ _ _) (congrArg (World.drewN _) (Nat.add_assoc _ _ _))⟩))));clear HA HBh;by_cases hn:j+1<es.length
     ·have n1:decide ((j:Int)+1<(es.length:Int))=true:=dt__ (by omega);have n2:decide (j+1<es.length)=true:=dt__ hn;have n3:0<=(j:Int)+1:=by omega
      have n4:(j:Int)+1<(es.length:Int):=by omega
      obtain ⟨ad2,ea2,k2⟩:=Kd.ds_ (Kd.C_below HEC.out HB1.out) ((j:Int)+1) (by omega) (by omega);injection ea2 with ea2;subst ea2;rw [show ((j:Int)+1).toNat=j+1 from by omega] at k2;have hdb:=HES.out _ n3 n4;obtain ⟨dd,hdd⟩: ∃ dd,dd=rd es ((j:Int)+1):=⟨_,rfl⟩;rw [←hdd] at k2 HRUN hdb;clear hdd;have n5:IntKind.i64.wrap (dd - 1)=dd - 1:=IntWalk.i64_in _ (by omega);have k3:wr.cell? ⟨ad.block,ad.off+(j+1),none⟩=some (.int .i64 dd):=by rw [←k2];congr 1
      have HE0:Sd (madeRun rbK l0 l1 (es.drop (j+1)) (mkF true cc (dd - 1) out)=fin):=⟨by
       have:=HRUN.out;rw [KP.out,if_pos hn] at this;exact this⟩
      have hml:=in_ true cc (dd - 1) out;have HML:Sd ((mkF true cc (dd - 1) out).length<=j+1):=⟨by omega⟩;have HBD2:Sd (Bd (mkF true cc (dd - 1) out)):=⟨HBD.out.mk (by omega)⟩;clear hml;by_cases ho:0<out.length
      ·obtain ⟨g,co,rfl,hgb⟩:=R_place HRo.out ho;have hlb:=HBD.out.last ho;obtain ⟨cs,hcl,hcM,hcc,hcf⟩:=Kd.R_elem HRo.out z74 ((out.length:Int) - 1) (by omega) (by omega);obtain rfl:=dz_ hcM;have hi1:((out.length:Int) - 1).toNat=out.length - 1:=by omega
       have y1:wr.cell? ⟨g,(out.length - 1)*2+1,none⟩=some (.int .i64 (al_ out ((out.length:Int) - 1)).f1):=by
        have:=hcc 1 _ rfl;rw [hi1] at this;unfold al_;rw [hi1];exact this
       have z1:wr.frozen? ⟨g,(out.length - 1)*2+1,none⟩=false:=by
        have:=hcf 1;rw [hi1] at this;exact this
       have o1:decide (0<(out.length:Int))=true:=dt__ (by omega);have o2:decide (0<out.length)=true:=dt__ ho;have o3:IntKind.i64.wrap ((out.length:Int) - 1)=(out.length:Int) - 1:=IntWalk.i64_in _ (by omega);have o4:0<=(out.length:Int) - 1:=by omega
       have o5:(out.length:Int) - 1<(out.length:Int):=by omega
       clear hcc hcf hcM hcl;obtain ⟨lh,hlh⟩: ∃ lh,lh=(al_ out ((out.length:Int) - 1)).f1:=⟨_,rfl⟩;rw [←hlh] at y1 hlb;have HLH:=Sd.m hlh;clear hlh;have o6:IntKind.i64.wrap (lh+1)=lh+1:=IntWalk.i64_in _ (by omega);by_cases hjn:lh+1=cc
       ·have o7:((lh+1) == cc)=true:=beq_iff_eq.2 hjn;have EQ:Sd (mkF true cc (dd - 1) out=out.set (out.length - 1) ⟨(al_ out ((out.length:Int) - 1)).f0,(dd - 1)⟩):=⟨by
         unfold mkF;rw [if_pos rfl,if_pos ⟨ho,by rw [←HLH.out];exact hjn⟩]⟩
        have RST:Sd (∀ W:World,Kd.R k74 74 W W1.heap.size (fun _=>True) (.slice (some ⟨g,0,none⟩) out.length co) out->Kd.R k74 74 (W.setCell ⟨g,(out.length - 1)*2+1,none⟩ (.int .i64 (dd - 1))) W1.heap.size (fun _=>True) (.slice (some ⟨g,0,none⟩) out.length co) (mkF true cc (dd - 1) out)):=⟨fun W h=>by rw [EQ.out];exact R_last h ho _⟩;clear hjn;go_wp2_with fail;go_quiet (fail);go_wp2_with fail;go_roundw
        case rel=>exact ⟨j+1,_,hlt,by go_num,RST.out _ (by repeat (first | exact HRo.out | refine Kd.R_drewN ?_ _)),Below.setCell (by repeat (first | exact HB1.out | refine ad_ ?_ _)) hgb _,HE0.out,HML.out,HBD2.out⟩
        case measure=>simp [intOf];omega
       ·have o7:((lh+1) == cc)=false:=beq_eq_false_iff_ne.2 hjn;have EQ:Sd (mkF true cc (dd - 1) out=out ++ [⟨cc,(dd - 1)⟩]):=⟨by
         unfold mkF;rw [if_pos rfl,if_neg (fun q=>hjn (by rw [HLH.out];exact q.2))]⟩
        clear hjn;go_wp2_with fail;go_quiet (fail);go_wp2_with ((with_reducible refine bi_ (b:=.append) (xs:=#[.tmp 104,.tmp 111]) rfl ?_);at_builtin;refine Kd.R_append k74 (w0:=W1) W1.heap.size rfl (.tmp 104) (.tmp 111) 37 74 (.agg #[.int .i64 0,.int .i64 0]) 16 rfl Tryz.underlying37 info74 rfl (by decide) (by omega) _ out ⟨cc,(dd - 1)⟩ [.int .i64 cc,.int .i64 (dd - 1)] (fun _=>True) (fun _=>False) rfl rfl ?aP (fun _ hk=>hk.elim) ?aF ?aO ?aB ?aS ?aL ?_;(case aP=>exact dy_ _ _ _ ⟨cc,(dd - 1)⟩);(case aF=>exact fun _ _=>trivial);(case aO=>(repeat (first | exact HRo.out | refine Kd.R_drewN ?_ _)));(case aB=>(repeat (first | exact HB1.out | refine ad_ ?_ _)));(case aS=>exact HB1.out.size);(case aL=>omega);intro v5 w5 hR5 hb5 hg5 hat5;rw [←EQ.out] at hR5;have HR5:=Sd.m hR5;have HB5:=Sd.m hb5;clear hR5 hb5 hg5 hat5);go_roundw
        case rel=>exact ⟨j+1,_,hlt,by go_num,HR5.out,HB5.out,HE0.out,HML.out,HBD2.out⟩
        case measure=>simp [intOf];omega
      ·obtain ⟨Ao,co,rfl⟩:=Kd.R_slice HRo.out;have o1:decide (0<(out.length:Int))=false:=df__ (by omega);have o2:decide (0<out.length)=false:=df__ ho;have EQ:Sd (mkF true cc (dd - 1) out=out ++ [⟨cc,(dd - 1)⟩]):=⟨by
        unfold mkF;rw [if_pos rfl,if_neg (fun q=>ho q.1)]⟩
       go_wp2_with fail;go_quiet (fail);go_wp2_with ((with_reducible refine bi_ (b:=.append) (xs:=#[.tmp 104,.tmp 111]) rfl ?_);at_builtin;refine Kd.R_append k74 (w0:=W1) W1.heap.size rfl (.tmp 104) (.tmp 111) 37 74 (.agg #[.int .i64 0,.int .i64 0]) 16 rfl Tryz.underlying37 info74 rfl (by decide) (by omega) _ out ⟨cc,(dd - 1)⟩ [.int .i64 cc,.int .i64 (dd - 1)] (fun _=>True) (fun _=>False) rfl rfl ?aP (fun _ hk=>hk.elim) ?aF ?aO ?aB ?aS ?aL ?_;(case aP=>exact dy_ _ _ _ ⟨cc,(dd - 1)⟩);(case aF=>exact fun _ _=>trivial);(case aO=>(repeat (first | exact HRo.out | refine Kd.R_drewN ?_ _)));(case aB=>(repeat (first | exact HB1.out | refine ad_ ?_ _)));(case aS=>exact HB1.out.size);(case aL=>omega);intro v5 w5 hR5 hb5 hg5 hat5;rw [←EQ.out] at hR5;have HR5:=Sd.m hR5;have HB5:=Sd.m hb5;clear hR5 hb5 hg5 hat5);go_roundw
       case rel=>exact ⟨j+1,_,hlt,by go_num,HR5.out,HB5.out,HE0.out,HML.out,HBD2.out⟩
       case measure=>simp [intOf];omega
     ·have n1:decide ((j:Int)+1<(es.length:Int))=false:=df__ (by omega);have n2:decide (j+1<es.length)=false:=df__ hn;have HE0:Sd (madeRun rbK l0 l1 (es.drop (j+1)) (mkF true cc 1114111 out)=fin):=⟨by
       have:=HRUN.out;rw [KP.out,if_neg hn] at this;exact this⟩
      have hml:=in_ true cc 1114111 out;have HML:Sd ((mkF true cc 1114111 out).length<=j+1):=⟨by omega⟩;have HBD2:Sd (Bd (mkF true cc 1114111 out)):=⟨HBD.out.mk (by omega)⟩;clear hml;by_cases ho:0<out.length
      ·obtain ⟨g,co,rfl,hgb⟩:=R_place HRo.out ho;have hlb:=HBD.out.last ho;obtain ⟨cs,hcl,hcM,hcc,hcf⟩:=Kd.R_elem HRo.out z74 ((out.length:Int) - 1) (by omega) (by omega);obtain rfl:=dz_ hcM;have hi1:((out.length:Int) - 1).toNat=out.length - 1:=by omega
       have y1:wr.cell? ⟨g,(out.length - 1)*2+1,none⟩=some (.int .i64 (al_ out ((out.length:Int) - 1)).f1):=by
        have:=hcc 1 _ rfl;rw [hi1] at this;unfold al_;rw [hi1];exact this
       have z1:wr.frozen? ⟨g,(out.length - 1)*2+1,none⟩=false:=by
        have:=hcf 1;rw [hi1] at this;exact this
       have o1:decide (0<(out.length:Int))=true:=dt__ (by omega);have o2:decide (0<out.length)=true:=dt__ ho;have o3:IntKind.i64.wrap ((out.length:Int) - 1)=(out.length:Int) - 1:=IntWalk.i64_in _ (by omega);have o4:0<=(out.length:Int) - 1:=by omega
       have o5:(out.length:Int) - 1<(out.length:Int):=by omega
       clear hcc hcf hcM hcl;obtain ⟨lh,hlh⟩: ∃ lh,lh=(al_ out ((out.length:Int) - 1)).f1:=⟨_,rfl⟩;rw [←hlh] at y1 hlb;have HLH:=Sd.m hlh;clear hlh;have o6:IntKind.i64.wrap (lh+1)=lh+1:=IntWalk.i64_in _ (by omega);by_cases hjn:lh+1=cc
       ·have o7:((lh+1) == cc)=true:=beq_iff_eq.2 hjn;have EQ:Sd (mkF true cc 1114111 out=out.set (out.length - 1) ⟨(al_ out ((out.length:Int) - 1)).f0,1114111⟩):=⟨by
         unfold mkF;rw [if_pos rfl,if_pos ⟨ho,by rw [←HLH.out];exact hjn⟩]⟩
        have RST:Sd (∀ W:World,Kd.R k74 74 W W1.heap.size (fun _=>True) (.slice (some ⟨g,0,none⟩) out.length co) out->Kd.R k74 74 (W.setCell ⟨g,(out.length - 1)*2+1,none⟩ (.int .i64 1114111)) W1.heap.size (fun _=>True) (.slice (some ⟨g,0,none⟩) out.length co) (mkF true cc 1114111 out)):=⟨fun W h=>by rw [EQ.out];exact R_last h ho _⟩;clear hjn;go_wp2_with fail;go_quiet (fail);go_wp2_with fail;go_roundw
        case rel=>exact ⟨j+1,_,hlt,by go_num,RST.out _ (by repeat (first | exact HRo.out | refine Kd.R_drewN ?_ _)),Below.setCell (by repeat (first | exact HB1.out | refine ad_ ?_ _)) hgb _,HE0.out,HML.out,HBD2.out⟩
        case measure=>simp [intOf];omega
       ·have o7:((lh+1) == cc)=false:=beq_eq_false_iff_ne.2 hjn;have EQ:Sd (mkF true cc 1114111 out=out ++ [⟨cc,1114111⟩]):=⟨by
         unfold mkF;rw [if_pos rfl,if_neg (fun q=>hjn (by rw [HLH.out];exact q.2))]⟩
        clear hjn;go_wp2_with fail;go_quiet (fail);go_wp2_with ((with_reducible refine bi_ (b:=.append) (xs:=#[.tmp 104,.tmp 111]) rfl ?_);at_builtin;refine Kd.R_append k74 (w0:=W1) W1.heap.size rfl (.tmp 104) (.tmp 111) 37 74 (.agg #[.int .i64 0,.int .i64 0]) 16 rfl Tryz.underlying37 info74 rfl (by decide) (by omega) _ out ⟨cc,1114111⟩ [.int .i64 cc,.int .i64 1114111] (fun _=>True) (fun _=>False) rfl rfl ?aP (fun _ hk=>hk.elim) ?aF ?aO ?aB ?aS ?aL ?_;(case aP=>exact dy_ _ _ _ ⟨cc,1114111⟩);(case aF=>exact fun _ _=>trivial);(case aO=>(repeat (first | exact HRo.out | refine Kd.R_drewN ?_ _)));(case aB=>(repeat (first | exact HB1.out | refine ad_ ?_ _)));(case aS=>exact HB1.out.size);(case aL=>omega);intro v5 w5 hR5 hb5 hg5 hat5;rw [←EQ.out] at hR5;have HR5:=Sd.m hR5;have HB5:=Sd.m hb5;clear hR5 hb5 hg5 hat5);go_roundw
        case rel=>exact ⟨j+1,_,hlt,by go_num,HR5.out,HB5.out,HE0.out,HML.out,HBD2.out⟩
        case measure=>simp [intOf];omega
      ·obtain ⟨Ao,co,rfl⟩:=Kd.R_slice HRo.out;have o1:decide (0<(out.length:Int))=false:=df__ (by omega);have o2:decide (0<out.length)=false:=df__ ho;have EQ:Sd (mkF true cc 1114111 out=out ++ [⟨cc,1114111⟩]):=⟨by
        unfold mkF;rw [if_pos rfl,if_neg (fun q=>ho q.1)]⟩
       go_wp2_with fail;go_quiet (fail);go_wp2_with ((with_reducible refine bi_ (b:=.append) (xs:=#[.tmp 104,.tmp 111]) rfl ?_);at_builtin;refine Kd.R_append k74 (w0:=W1) W1.heap.size rfl (.tmp 104) (.tmp 111) 37 74 (.agg #[.int .i64 0,.int .i64 0]) 16 rfl Tryz.underlying37 info74 rfl (by decide) (by omega) _ out ⟨cc,1114111⟩ [.int .i64 cc,.int .i64 1114111] (fun _=>True) (fun _=>False) rfl rfl ?aP (fun _ hk=>hk.elim) ?aF ?aO ?aB ?aS ?aL ?_;(case aP=>exact dy_ _ _ _ ⟨cc,1114111⟩);(case aF=>exact fun _ _=>trivial);(case aO=>(repeat (first | exact HRo.out | refine Kd.R_drewN ?_ _)));(case aB=>(repeat (first | exact HB1.out | refine ad_ ?_ _)));(case aS=>exact HB1.out.size);(case aL=>omega);intro v5 w5 hR5 hb5 hg5 hat5;rw [←EQ.out] at hR5;have HR5:=Sd.m hR5;have HB5:=Sd.m hb5;clear hR5 hb5 hg5 hat5);go_roundw
       case rel=>exact ⟨j+1,_,hlt,by go_num,HR5.out,HB5.out,HE0.out,HML.out,HBD2.out⟩
       case measure=>simp [intOf];omega
   | false=>
    cases hy:hasF l1 cc with
    | true=>
     have KP:Sd (rbK (hasF l0 cc) (hasF l1 cc)=false):=⟨by rw [hx,hy,hrb.out];rfl⟩;have HA:Sd (∀ W,Kd.C k74 W A0 l0.length l0->Calls Tryz.prog 44 #[.slice A0 l0.length c0,.int .i64 cc] W fun e w'=>e=.returned (.bool false)∧Drawn0 W w'):=⟨fun W h=>by rw [←hx];exact P.bu_ A0 c0 l0 cc W h HC0.out⟩;have HBh:Sd (∀ W,Kd.C k74 W A1 l1.length l1->Calls Tryz.prog 44 #[.slice A1 l1.length c1,.int .i64 cc] W fun e w'=>e=.returned (.bool true)∧Drawn0 W w'):=⟨fun W h=>by rw [←hy];exact P.bu_ A1 c1 l1 cc W h HC1.out⟩;clear hx hy;go_wp2_with fail;go_quiet ((go_at_call 44;first | ((with_reducible refine (HA.out _ (Kd.C_drewN CA.out _)).mono ?_);rintro e w' ⟨rfl,⟨nd,rfl⟩⟩;(first | exact ⟨rfl,_,rfl⟩ | exact ⟨rfl,_,World.drewN_drewN _ _ _⟩ | exact ⟨rfl,_,Eq.trans (World.drewN_drewN _ _ _) (congrArg (World.drewN _) (Nat.add_assoc _ _ _))⟩)) | ((with_reducible refine (HA.out _ CA.out).mono ?_);rintro e w' ⟨rfl,⟨nd,rfl⟩⟩;(first | exact ⟨rfl,_,rfl⟩ | exact ⟨rfl,_,World.drewN_drewN _ _ _⟩ | exact ⟨rfl,_,Eq.trans (World.drewN_drewN _ _ _) (congrArg (World.drewN _) (Nat.add_assoc _ _ _))⟩)) | ((with_reducible refine (HBh.out _ (Kd.C_drewN CB.out _)).mono ?_);rintro e w' ⟨rfl,⟨nd,rfl⟩⟩;(first | exact ⟨rfl,_,rfl⟩ | exact ⟨rfl,_,World.drewN_drewN _ _ _⟩ | exact ⟨rfl,_,Eq.trans (World.drewN_drewN _ _ _) (congrArg (World.drewN _) (Nat.add_assoc _ _ _))⟩)) | ((with_reducible refine (HBh.out _ CB.out).mono ?_);rintro e w' ⟨rfl,⟨nd,rfl⟩⟩;(first | exact ⟨rfl,_,rfl⟩ | exact ⟨rfl,_,World.drewN_drewN _ _ _⟩ | exact ⟨rfl,_,Eq.trans (World.drewN_drewN _ _ _) (congrArg (World.drewN _) (Nat.add_assoc _ _ _))⟩))));clear HA HBh;have HE0:Sd (madeRun rbK l0 l1 (es.drop (j+1)) out=fin):=⟨by
      have:=HRUN.out;rw [KP.out] at this;exact this⟩
     go_wp2_with fail;go_roundw
     case rel=>exact ⟨j+1,_,hlt,by go_num,Kd.R_drewN HRo.out _,ad_ HB1.out _,HE0.out,by omega,HBD.out⟩
     case measure=>simp [intOf];omega
    | false=>
     have KP:Sd (rbK (hasF l0 cc) (hasF l1 cc)=false):=⟨by rw [hx,hy,hrb.out];rfl⟩;have HA:Sd (∀ W,Kd.C k74 W A0 l0.length l0->Calls Tryz.prog 44 #[.slice A0 l0.length c0,.int .i64 cc] W fun e w'=>e=.returned (.bool false)∧Drawn0 W w'):=⟨fun W h=>by rw [←hx];exact P.bu_ A0 c0 l0 cc W h HC0.out⟩;have HBh:Sd (∀ W,Kd.C k74 W A1 l1.length l1->Calls Tryz.prog 44 #[.slice A1 l1.length c1,.int .i64 cc] W fun e w'=>e=.returned (.bool false)∧Drawn0 W w'):=⟨fun W h=>by rw [←hy];exact P.bu_ A1 c1 l1 cc W h HC1.out⟩;clear hx hy;go_wp2_with fail;go_quiet ((go_at_call 44;first | ((with_reducible refine (HA.out _ (Kd.C_drewN CA.out _)).mono ?_);rintro e w' ⟨rfl,⟨nd,rfl⟩⟩;(first | exact ⟨rfl,_,rfl⟩ | exact ⟨rfl,_,World.drewN_drewN _ _ _⟩ | exact ⟨rfl,_,Eq.trans (World.drewN_drewN _ _ _) (congrArg (World.drewN _) (Nat.add_assoc _ _ _))⟩)) | ((with_reducible refine (HA.out _ CA.out).mono ?_);rintro e w' ⟨rfl,⟨nd,rfl⟩⟩;(first | exact ⟨rfl,_,rfl⟩ | exact ⟨rfl,_,World.drewN_drewN _ _ _⟩ | exact ⟨rfl,_,Eq.trans (World.drewN_drewN _ _ _) (congrArg (World.drewN _) (Nat.add_assoc _ _ _))⟩)) | ((with_reducible refine (HBh.out _ (Kd.C_drewN CB.out _)).mono ?_);rintro e w' ⟨rfl,⟨nd,rfl⟩⟩;(first | exact ⟨rfl,_,rfl⟩ | exact ⟨rfl,_,World.drewN_drewN _ _ _⟩ | exact ⟨rfl,_,Eq.trans (World.drewN_drewN _ _ _) (congrArg (World.drewN _) (Nat.add_assoc _ _ _))⟩)) | ((with_reducible refine (HBh.out _ CB.out).mono ?_);rintro e w' ⟨rfl,⟨nd,rfl⟩⟩;(first | exact ⟨rfl,_,rfl⟩ | exact ⟨rfl,_,World.drewN_drewN _ _ _⟩ | exact ⟨rfl,_,Eq.trans (World.drewN_drewN _ _ _) (congrArg (World.drewN _) (Nat.add_assoc _ _ _))⟩))));clear HA HBh;have HE0:Sd (madeRun rbK l0 l1 (es.drop (j+1)) out=fin):=⟨by
      have:=HRUN.out;rw [KP.out] at this;exact this⟩
     go_wp2_with fail;go_roundw
     case rel=>exact ⟨j+1,_,hlt,by go_num,Kd.R_drewN HRo.out _,ad_ HB1.out _,HE0.out,by omega,HBD.out⟩
     case measure=>simp [intOf];omega
  ·have b1:decide ((j:Int)<(es.length:Int))=false:=df__ (by omega);have b2:decide (j<es.length)=false:=df__ hlt;have HF:Sd (out=fin):=⟨by rw [List.drop_eq_nil_iff.2 (by omega)] at hrun;exact hrun⟩;clear hrun;go_wp2_with fail;go_ret;exact ⟨_,rfl,by rw [←HFIN.out,←HF.out];exact Kd.R_lower HRo.out HB01.out.size,HB01.out.trans (HB1.out.mono HB01.out.size)⟩
end L
namespace P
open A L
theorem ez_: ∀ (l:List Int) (n x:Int),x∈putF l n↔x∈l∨x=n
 | [],n,x=>by simp [putF]
 | y :: t,n,x=>by
  unfold putF;split
  ·rw [List.mem_cons,ez_ t n x,List.mem_cons,or_assoc]
  ·split
   ·rename_i h;rw [List.mem_cons];constructor
    ·intro q;exact .inl q
    ·rintro (q | q)
     ·exact q
     ·exact .inl (q.trans h.symm)
   ·rw [List.mem_cons];constructor
    ·rintro (q | q)
     ·exact .inr q
     ·exact .inl q
    ·rintro (q | q)
     ·exact .inr q
     ·exact .inl q
def Up (l:List Int):Prop:=l.Pairwise (· < ·)
theorem putF_up: ∀ (l:List Int) (n:Int),Up l->Up (putF l n)
 | [],n,_=>List.pairwise_singleton _ _
 | y :: t,n,h=>by
  obtain ⟨h1,h2⟩:=List.pairwise_cons.1 h;unfold putF;split
  ·rename_i hy;refine List.pairwise_cons.2 ⟨fun x hx=>?_,putF_up t n h2⟩;rcases (ez_ t n x).1 hx with hx | rfl
   ·exact h1 x hx
   ·exact hy
  ·split
   ·exact h
   ·rename_i hy hne;refine List.pairwise_cons.2 ⟨fun x hx=>?_,h⟩;rcases List.mem_cons.1 hx with rfl | hx
    ·omega
    ·have:=h1 x hx;omega
structure Eg (o:List Int):Prop where
 up:Up o
 zero:(0:Int)∈o
 rng: ∀ x∈o,0<=x∧x<=1114111
theorem Eg.put {o:List Int}(h:Eg o){n:Int}(h0:0<=n)(h1:n<=1114111):Eg (putF o n):=
 ⟨putF_up o n h.up,(ez_ o n 0).2 (.inl h.zero),fun x hx=>((ez_ o n x).1 hx).elim (h.rng x) (fun e=>by omega)⟩
theorem Eg.one {o:List Int}(h:Eg o)(r:S74):Eg (edge2 (edge1 o r) r)∧(∀ x∈o,x∈edge2 (edge1 o r) r)∧(0<=r.f0->r.f0<=1114111->r.f0∈edge2 (edge1 o r) r)∧(-1<=r.f1->r.f1<1114111->r.f1+1∈edge2 (edge1 o r) r):=by
 have a:Eg (edge1 o r)∧(∀ x∈o,x∈edge1 o r)∧(0<=r.f0->r.f0<=1114111->r.f0∈edge1 o r):=by
  unfold edge1;split
  ·rename_i q;exact ⟨h.put q.1 q.2,fun x hx=>(ez_ _ _ _).2 (.inl hx),fun _ _=>(ez_ _ _ _).2 (.inr rfl)⟩
  ·rename_i q;exact ⟨h,fun x hx=>hx,fun q1 q2=>absurd ⟨q1,q2⟩ q⟩
 obtain ⟨a1,a2,a3⟩:=a;unfold edge2;split
 ·rename_i q;exact ⟨a1.put (by omega) (by omega),fun x hx=>(ez_ _ _ _).2 (.inl (a2 x hx)),fun q1 q2=>(ez_ _ _ _).2 (.inl (a3 q1 q2)),fun _ _=>(ez_ _ _ _).2 (.inr rfl)⟩
 ·rename_i q;exact ⟨a1,a2,a3,fun q1 q2=>absurd ⟨q1,q2⟩ q⟩
def Has (o:List Int)(l:List S74):Prop:= ∀ r∈l,(0<=r.f0->r.f0<=1114111->r.f0∈o)∧(-1<=r.f1->r.f1<1114111->r.f1+1∈o)
theorem Eg.row: ∀ (l:List S74) {o:List Int},Eg o->Eg (l.foldl (fun o r=>edge2 (edge1 o r) r) o)∧(∀ x∈o,x∈l.foldl (fun o r=>edge2 (edge1 o r) r) o)∧Has (l.foldl (fun o r=>edge2 (edge1 o r) r) o) l
 | [],o,h=>⟨h,fun x hx=>hx,fun r hr=>by cases hr⟩
 | r :: t,o,h=>by
  obtain ⟨a1,a2,a3,a4⟩:=h.one r;obtain ⟨b1,b2,b3⟩:=Eg.row t a1;refine ⟨b1,fun x hx=>b2 x (a2 x hx),fun s hs=>?_⟩;rcases List.mem_cons.1 hs with rfl | hs
  ·exact ⟨fun q1 q2=>b2 _ (a3 q1 q2),fun q1 q2=>b2 _ (a4 q1 q2)⟩
  ·exact b3 s hs
theorem Eg.set {o:List Int}(h:Eg o)(l:List S74):Eg (edgeS o l)∧(∀ x∈o,x∈edgeS o l)∧(l.length<=400->Has (edgeS o l) l):=by
 unfold edgeS;split
 ·have:=Eg.row l h;exact ⟨this.1,this.2.1,fun _=>this.2.2⟩
 ·rename_i q;exact ⟨h,fun x hx=>hx,fun q'=>absurd q' q⟩
theorem Eg.sets: ∀ (s:List (List S74)) {o:List Int},Eg o->Eg (s.foldl edgeS o)∧(∀ x∈o,x∈s.foldl edgeS o)∧(∀ l∈s,l.length<=400->Has (s.foldl edgeS o) l)
 | [],o,h=>⟨h,fun x hx=>hx,fun l hl=>by cases hl⟩
 | l :: t,o,h=>by
  obtain ⟨a1,a2,a3⟩:=h.set l;obtain ⟨b1,b2,b3⟩:=Eg.sets t a1;refine ⟨b1,fun x hx=>b2 x (a2 x hx),fun m hm hz=>?_⟩;rcases List.mem_cons.1 hm with rfl | hm
  ·exact fun r hr=>⟨fun q1 q2=>b2 _ ((a3 hz r hr).1 q1 q2),fun q1 q2=>b2 _ ((a3 hz r hr).2 q1 q2)⟩
  ·exact b3 m hm hz
theorem edges_eg (s:List (List S74)):Eg (edgesF s)∧(∀ l∈s,l.length<=400->Has (edgesF s) l):=by
 have h:Eg [0]:=⟨List.pairwise_singleton _ _,by simp,fun x hx=>by simp at hx;omega⟩;have:=Eg.sets s h;exact ⟨this.1,this.2.2⟩
theorem has_const {es:List Int}{l:List S74}(hh:l.length<=400->Has es l){x y:Int}(h0:0<=x)(hxy:x<=y)(h1:y<=1114111)(hno: ∀ e∈es,¬ (x<e∧e<=y)):hasB l x=hasB l y:=by
 unfold hasB;by_cases hz:l.length<=400
 ·rw [dt__ hz,Bool.true_and,Bool.true_and,Bool.eq_iff_iff,mem_iff,mem_iff];constructor
  ·rintro ⟨r,hr,q1,q2⟩;refine ⟨r,hr,by omega,?_⟩;by_cases q3:y<=r.f1
   ·exact q3
   ·exact absurd ⟨by omega,by omega⟩ (hno _ ((hh hz r hr).2 (by omega) (by omega)))
  ·rintro ⟨r,hr,q1,q2⟩;refine ⟨r,hr,?_,by omega⟩;by_cases q3:r.f0<=x
   ·exact q3
   ·exact absurd ⟨by omega,by omega⟩ (hno _ ((hh hz r hr).1 (by omega) (by omega)))
 ·rw [df__ hz];rfl
theorem mc_ {l:List S74}{c:Int}(h0:0<=c)(h1:c<=1114111):hasF l c=hasB l c:=by
 unfold hasF;rw [dt__ h0,dt__ h1];rfl
theorem mk_tell {k:Bool}{c tt:Int}{xs:List S74}(h:c<=tt):mkF k c tt xs=tellF k c (tt+1) xs:=by
 unfold mkF tellF;cases k with
 | false=>rw [if_neg (by decide),if_neg (by simp)]
 | true=>
  rw [if_pos rfl,if_pos (show c<tt+1∧true=true from ⟨by omega,rfl⟩),show tt+1 - 1=tt from by omega];by_cases hn:0<xs.length∧(al_ xs ((xs.length:Int) - 1)).f1+1=c
  ·rw [if_pos hn,if_pos ⟨hn.1,by omega⟩]
  ·rw [if_neg hn,if_neg (fun q=>hn ⟨q.1,by omega⟩)]
theorem run_made {P:Int->Bool}{rb:Bool->Bool->Bool}{a b:List S74}{ES:List Int}(hP: ∀ c,0<=c->c<=1114111->P c=rb (hasF a c) (hasF b c))(hc: ∀ x y,0<=x->x<=y->y<=1114111->(∀ e∈ES,¬ (x<e∧e<=y))->P x=P y):
  ∀ (rest:List Int) (c:Int) (out:List S74),Up (c :: rest)->(∀ e∈c :: rest,0<=e∧e<=1114111)->(∀ e∈ES,e<=c∨e∈rest)->Spec P out c->Spec P (madeRun rb a b (c :: rest) out) 1114112
 | [],c,out,hu,hr,hes,hs=>by
  have hcr:=hr c List.mem_cons_self;rw [madeRun,madeRun,←hP c hcr.1 hcr.2,mk_tell (show c<=nextE [] by show c<=1114111;omega)];refine ge_ hs hcr.1 (by show c<=1114111+1;omega) (fun x h1 h2=>?_);have h2':x<1114111+1:=h2;exact (hc c x hcr.1 h1 (by omega) (fun e he q=>by rcases hes e he with h | h;omega;cases h)).symm
 | d :: rest,c,out,hu,hr,hes,hs=>by
  have hcr:=hr c List.mem_cons_self;obtain ⟨u1,u2⟩:=List.pairwise_cons.1 hu;obtain ⟨v1,_⟩:=List.pairwise_cons.1 u2;have hcd:=u1 d List.mem_cons_self;rw [madeRun,←hP c hcr.1 hcr.2,mk_tell (show c<=nextE (d :: rest) by show c<=d - 1;omega)];refine run_made hP hc rest d _ u2 (fun e he=>hr e (List.mem_cons_of_mem _ he)) (fun e he=>?_) ?_
  ·rcases hes e he with h | h
   ·left;omega
   ·rcases List.mem_cons.1 h with rfl | h
    ·left;omega
    ·exact .inr h
  ·have hdr:=hr d (List.mem_cons_of_mem _ List.mem_cons_self);have:nextE (d :: rest)+1=d:=by show d - 1+1=d;omega
   rw [this];refine ge_ hs hcr.1 (by omega) (fun x h1 h2=>?_);refine (hc c x hcr.1 h1 (by omega) (fun e he q=>?_)).symm;rcases hes e he with h | h
   ·omega
   ·rcases List.mem_cons.1 h with rfl | h
    ·omega
    ·have:=v1 e h;omega
theorem io_ (rb:Bool->Bool->Bool)(a b:List S74):madeRun rb a b (edgesF [a,b]) []=canonF fun c=>rb (hasB a c) (hasB b c):=by
 obtain ⟨h1,h2⟩:=edges_eg [a,b];generalize edgesF [a,b]=es at h1 h2;refine ih_ ?_;cases es with
 | nil=>exact absurd h1.zero (by simp)
 | cons c rest=>
  have hc0:c=0:=by
   have:=h1.rng c List.mem_cons_self;rcases List.mem_cons.1 h1.zero with h | h
   ·exact h.symm
   ·have:=(List.pairwise_cons.1 h1.up).1 0 h;omega
  refine run_made (P:=fun c=>rb (hasB a c) (hasB b c)) (ES:=c :: rest) (fun c q0 q1=>by rw [mc_ q0 q1,mc_ q0 q1]) (fun x y q0 q1 q2 q3=>?_) rest c [] h1.up h1.rng (fun e he=>?_) ?_
  ·show rb (hasB a x) (hasB b x)=rb (hasB a y) (hasB b y);rw [has_const (h2 a (by simp)) q0 q1 q2 q3,has_const (h2 b (by simp)) q0 q1 q2 q3]
  ·rcases List.mem_cons.1 he with rfl | he
   ·exact .inl (Int.le_refl _)
   ·exact .inr he
  ·subst hc0;exact ⟨⟨(fun r hr=>by cases hr),List.Pairwise.nil⟩,fun c q1 q2=>by omega⟩
theorem kc_ (a b:List S74): ∀ i,0<=i->i<((edgesF [a,b]).length:Int)->0<=rd (edgesF [a,b]) i∧rd (edgesF [a,b]) i<=1114111:=by
 intro i h0 h1;refine (edges_eg [a,b]).1.rng _ ?_;unfold rd;rw [List.getD_eq_getElem?_getD,List.getElem?_eq_getElem (by omega)];exact List.getElem_mem _
end P
namespace L
open A P
def bs_.f (l0 l1:List S74):Option (List S74):=some (orF l0 l1)
theorem bs_.calls (A0:Option Addr)(c0:Nat)(l0:List S74)(A1:Option Addr)(c1:Nat)(l1:List S74)(r:List S74)(w:World)(hr0:Kd.C k74 w A0 l0.length l0)(hc0:l0.length<=c0)(hr1:Kd.C k74 w A1 l1.length l1)(hc1:l1.length<=c1)(h:bs_.f l0 l1=some r):
  Calls Tryz.prog 81 #[.slice A0 l0.length c0,.slice A1 l1.length c1] w fun e w'=> ∃ v0_:Value,e=.returned v0_∧Kd.R k74 74 w' w.heap.size (fun _=>True) v0_ r∧Below w.heap.size w w':=by
 obtain rfl:orF l0 l1=r:=Option.some.inj h;clear h;have hs:=made_or A0 c0 l0 A1 c1 l1 w hr0 hc0 hr1 hc1 (kc_ l0 l1);rw [io_] at hs;change Calls Tryz.prog 46 _ w (fun e w'=> ∃ v,e=.returned v∧Kd.R k74 74 w' w.heap.size (fun _=>True) v (orF l0 l1)∧Below w.heap.size w w') at hs;generalize orF l0 l1=r at hs ⊢;have HS:=Sd.m hs;clear hs hr0 hc0 hr1 hc1;go_enter Tryz.func81,Tryz.ntmps81;go_wp2_with fail;refine HS.out.mono ?_;rintro e w' ⟨v,rfl,hR,hb⟩;obtain ⟨A,c,rfl⟩:=Kd.R_slice hR;have HR:=Sd.m hR;have HB:=Sd.m hb;clear hR hb;go_wp2_with fail;go_ret;exact ⟨_,rfl,HR.out,HB.out⟩
def dj_.f (l0 l1:List S74):Option (List S74):=some (andF l0 l1)
theorem dj_.calls (A0:Option Addr)(c0:Nat)(l0:List S74)(A1:Option Addr)(c1:Nat)(l1:List S74)(r:List S74)(w:World)(hr0:Kd.C k74 w A0 l0.length l0)(hc0:l0.length<=c0)(hr1:Kd.C k74 w A1 l1.length l1)(hc1:l1.length<=c1)(h:dj_.f l0 l1=some r):
  Calls Tryz.prog 50 #[.slice A0 l0.length c0,.slice A1 l1.length c1] w fun e w'=> ∃ v0_:Value,e=.returned v0_∧Kd.R k74 74 w' w.heap.size (fun _=>True) v0_ r∧Below w.heap.size w w':=by
 obtain rfl:andF l0 l1=r:=Option.some.inj h;clear h;have hs:=made_and A0 c0 l0 A1 c1 l1 w hr0 hc0 hr1 hc1 (kc_ l0 l1);rw [io_] at hs;change Calls Tryz.prog 46 _ w (fun e w'=> ∃ v,e=.returned v∧Kd.R k74 74 w' w.heap.size (fun _=>True) v (andF l0 l1)∧Below w.heap.size w w') at hs;generalize andF l0 l1=r at hs ⊢;have HS:=Sd.m hs;clear hs hr0 hc0 hr1 hc1;go_enter Tryz.func50,Tryz.ntmps50;go_wp2_with fail;refine HS.out.mono ?_;rintro e w' ⟨v,rfl,hR,hb⟩;obtain ⟨A,c,rfl⟩:=Kd.R_slice hR;have HR:=Sd.m hR;have HB:=Sd.m hb;clear hR hb;go_wp2_with fail;go_ret;exact ⟨_,rfl,HR.out,HB.out⟩
def ep_.f (l0 l1:List S74):Option (List S74):=some (lessF l0 l1)
theorem ep_.calls (A0:Option Addr)(c0:Nat)(l0:List S74)(A1:Option Addr)(c1:Nat)(l1:List S74)(r:List S74)(w:World)(hr0:Kd.C k74 w A0 l0.length l0)(hc0:l0.length<=c0)(hr1:Kd.C k74 w A1 l1.length l1)(hc1:l1.length<=c1)(h:ep_.f l0 l1=some r):
  Calls Tryz.prog 14 #[.slice A0 l0.length c0,.slice A1 l1.length c1] w fun e w'=> ∃ v0_:Value,e=.returned v0_∧Kd.R k74 74 w' w.heap.size (fun _=>True) v0_ r∧Below w.heap.size w w':=by
 obtain rfl:lessF l0 l1=r:=Option.some.inj h;clear h;have hs:=made_less A0 c0 l0 A1 c1 l1 w hr0 hc0 hr1 hc1 (kc_ l0 l1);rw [io_] at hs;change Calls Tryz.prog 46 _ w (fun e w'=> ∃ v,e=.returned v∧Kd.R k74 74 w' w.heap.size (fun _=>True) v (lessF l0 l1)∧Below w.heap.size w w') at hs;generalize lessF l0 l1=r at hs ⊢;have HS:=Sd.m hs;clear hs hr0 hc0 hr1 hc1;go_enter Tryz.func14,Tryz.ntmps14;go_wp2_with fail;refine HS.out.mono ?_;rintro e w' ⟨v,rfl,hR,hb⟩;obtain ⟨A,c,rfl⟩:=Kd.R_slice hR;have HR:=Sd.m hR;have HB:=Sd.m hb;clear hR hb;go_wp2_with fail;go_ret;exact ⟨_,rfl,HR.out,HB.out⟩
end L
namespace B
open A L
attribute [local go_sem] ct_ cq_ dh_ dg_ ch_ cg_ cr_ cp_
def ax_.f (l0:List (S74)):Option ((List (S74))):=(bs_.f l0 ([]:List (S74))).bind fun t107=>(some t107)
theorem ax_.calls (A0:Option Addr)(c0:Nat)(l0:List (S74))(r:List (S74))(w:World)(hr0:Kd.C k74 w A0 l0.length l0)(hc0:l0.length<=c0)(h:ax_.f l0=some r):
  Calls Tryz.prog 45 #[.slice A0 l0.length c0] w fun e w'=> ∃ v0_:Value,e=.returned (v0_)∧Kd.R k74 74 w' w.heap.size (fun _=>True) v0_ r∧Below w.heap.size w w':=by
 have HR0:=Sd.m hr0;have HC0:=Sd.m hc0;clear hr0 hc0;have HB:=Sd.m (Below.refl w.heap.size w);have H:((bs_.f l0 ([]:List (S74))).bind fun t107=>(some t107))=some r:=h;clear h;replace H:=Option.bind_eq_some_iff.mp H;obtain ⟨t107,A20,H⟩:=H;replace H:(some t107)=some r:=H;have A2:=Sd.m A20;clear A20;obtain rfl:=Option.some.inj H;go_enter Tryz.func45,Tryz.ntmps45;go_wp2_with (first | ((with_reducible refine bv_ (f:=81) rfl ?_);refine goesL_ (some 4) rfl rfl Tryz.func81 (by kernel_rfl) rfl #[.slice A0 l0.length c0,.slice none 0 0] rfl gl_ ?_;(refine (bs_.calls _ _ l0 _ _ ([]:List (S74)) t107 _ ?side1 ?side2 ?side3 ?side4 A2.out).mono ?_);(case side1=>repeat (first | exact HR0.out | (with_reducible refine Kd.C_alloc ?_ _) | (with_reducible refine Kd.C_drewN ?_ _) | (with_reducible refine Kd.C_drew ?_)));(case side2=>exact HC0.out);(case side3=>exact Kd.C_nil _ _);(case side4=>exact Nat.le_refl _);rintro e w3 ⟨v108,rfl,ho0,hb⟩;refine ⟨_,rfl,?_⟩;have n0_:=Sd.m (Kd.R_lower ho0 (ap_ rb_));have n1_:=Sd.m (av_ rb_ hb);clear HB;have HO109:=n0_;have HB:=n1_;clear n0_ n1_;(try clear hb);(try clear hb2);(try clear hk);(try clear hi);(try clear ho0)));go_ret;exact ⟨_,re_,rr_ HO109.out,rb_⟩
def cu_.f (l0:List (S74)):Option (Int):=(ax_.f l0).bind fun t110=>(if (t110.length:Int)=0 then (some (-1)) else (if 0<(t110.length:Int) then (some ((al_ t110 0).f0)) else (none)))
theorem cu_.calls (A0:Option Addr)(c0:Nat)(l0:List (S74))(r:Int)(w:World)(hr0:Kd.C k74 w A0 l0.length l0)(hc0:l0.length<=c0)(h:cu_.f l0=some r):
  Calls Tryz.prog 13 #[.slice A0 l0.length c0] w fun e w'=>e=.returned (.int .i64 r)∧Below w.heap.size w w':=by
 have HR0:=Sd.m hr0;have HC0:=Sd.m hc0;clear hr0 hc0;have HB:=Sd.m (Below.refl w.heap.size w);have H:((ax_.f l0).bind fun t110=>(if (t110.length:Int)=0 then (some (-1)) else (if 0<(t110.length:Int) then (some ((al_ t110 0).f0)) else (none))))=some r:=h;clear h;replace H:=Option.bind_eq_some_iff.mp H;obtain ⟨t110,A20,H⟩:=H;replace H:(if (t110.length:Int)=0 then (some (-1)) else (if 0<(t110.length:Int) then (some ((al_ t110 0).f0)) else (none)))=some r:=H;have A2:=Sd.m A20;clear A20;by_cases c3:(t110.length:Int)=0
 ·rw [if_pos c3] at H;have c3b0:((t110.length:Int) == 0)=true:=beq_iff_eq.mpr c3;have c3b1:((t110.length:Int) != 0)=false:=bne_eq_false_iff_eq.mpr c3;clear c3;obtain rfl:=Option.some.inj H;go_enter Tryz.func13,Tryz.ntmps13;go_wp2_with (first | ((with_reducible refine bv_ (f:=45) rfl ?_);refine goesL_ (some 5) rfl rfl Tryz.func45 (by kernel_rfl) rfl #[.slice A0 l0.length c0] rfl gl_ ?_;(with_reducible refine (ax_.calls _ _ l0 t110 _ ?side1 ?side2 A2.out).mono ?_);(case side1=>repeat (first | exact HR0.out | (with_reducible refine Kd.C_alloc ?_ _) | (with_reducible refine Kd.C_drewN ?_ _) | (with_reducible refine Kd.C_drew ?_)));(case side2=>exact HC0.out);rintro e w4 ⟨v111,rfl,ho0,hb⟩;refine ⟨_,rfl,?_⟩;have n0_:=Sd.m (Kd.R_lower ho0 (ap_ rb_));have n1_:=Sd.m (av_ rb_ hb);clear HB;have HO112:=n0_;have HB:=n1_;clear n0_ n1_;(try clear hb);(try clear hb2);(try clear hk);(try clear hi);(try clear ho0);obtain ⟨Ao5,co5,eo5⟩:=Kd.R_slice HO112.out;subst eo5));go_ret;exact ⟨re_,rb_⟩
 ·rw [if_neg c3] at H;have c3b0:((t110.length:Int) == 0)=false:=beq_eq_false_iff_ne.mpr c3;have c3b1:((t110.length:Int) != 0)=true:=bne_iff_ne.mpr c3;have c3b2:¬ (t110=[]):=fun h_=>c3 (by rw [h_];rfl);by_cases c6:0<(t110.length:Int)
  ·rw [if_pos c6] at H;have c6b0:=dt__ c6;have c6b1:decide (0<t110.length)=true:=dt__ (by omega);clear c6;obtain rfl:=Option.some.inj H;go_enter Tryz.func13,Tryz.ntmps13;go_wp2_with (first | ((with_reducible refine bv_ (f:=45) rfl ?_);refine goesL_ (some 5) rfl rfl Tryz.func45 (by kernel_rfl) rfl #[.slice A0 l0.length c0] rfl gl_ ?_;(with_reducible refine (ax_.calls _ _ l0 t110 _ ?side1 ?side2 A2.out).mono ?_);(case side1=>repeat (first | exact HR0.out | (with_reducible refine Kd.C_alloc ?_ _) | (with_reducible refine Kd.C_drewN ?_ _) | (with_reducible refine Kd.C_drew ?_)));(case side2=>exact HC0.out);rintro e w7 ⟨v111,rfl,ho0,hb⟩;refine ⟨_,rfl,?_⟩;have n0_:=Sd.m (Kd.R_lower ho0 (ap_ rb_));have n1_:=Sd.m (av_ rb_ hb);clear HB;have HO112:=n0_;have HB:=n1_;clear n0_ n1_;(try clear hb);(try clear hb2);(try clear hk);(try clear hi);(try clear ho0);obtain ⟨Ao8,co8,eo8⟩:=Kd.R_slice HO112.out;subst eo8;have p113:0<=(0:Int):=(by omega);have q113:0<(t110.length:Int):=od_;obtain ⟨ad113,e113,hx113_0,hx113_1⟩:=ec_ (Kd.R_reads' HO112.out).2.2 0 p113 q113;cases e113;have qi113:(0<t110.length)=True:=eq_true (by omega);(try rw [show ((0:Int)).toNat=0 from rfl] at hx113_0);(try rw [show 0*2=0 from rfl] at hx113_0);(try rw [Addr.add_zero'] at hx113_0);(try rw [show ((0:Int)).toNat=0 from rfl] at hx113_1);(try rw [show 0*2=0 from rfl] at hx113_1);(try rw [Addr.add_zero'] at hx113_1);replace p113:=eq_true p113;replace q113:=eq_true q113));go_ret;exact ⟨re_,rb_⟩
  ·rw [if_neg c6] at H;exact absurd H (by simp)
def bh_.l0:Nat->Int->List (S74)->Int->Option (Int)
 | 0,_,_,_=>none
 | k+1,x3,x4,x5=>if x5<(x4.length:Int) then (if 0<=x5 then (bh_.l0 k (wrap64 ((wrap64 ((wrap64 (x3+((al_ x4 x5).f1))) - ((al_ x4 x5).f0)))+1)) x4 (wrap64 (x5+1))) else (none)) else (some x3)
def bh_.f (k:Nat)(l0:List (S74)):Option (Int):=(ax_.f l0).bind fun t114=>(bh_.l0 k 0 t114 0)
theorem bh_.calls (k:Nat)(A0:Option Addr)(c0:Nat)(l0:List (S74))(r:Int)(w:World)(hr0:Kd.C k74 w A0 l0.length l0)(hc0:l0.length<=c0)(h:bh_.f k l0=some r):
  Calls Tryz.prog 49 #[.slice A0 l0.length c0] w fun e w'=>e=.returned (.int .i64 r)∧Below w.heap.size w w':=by
 have HR0:=Sd.m hr0;have HC0:=Sd.m hc0;clear hr0 hc0;have HB:=Sd.m (Below.refl w.heap.size w);have H:((ax_.f l0).bind fun t114=>(bh_.l0 k 0 t114 0))=some r:=h;clear h;replace H:=Option.bind_eq_some_iff.mp H;obtain ⟨t114,A20,H⟩:=H;replace H:(bh_.l0 k 0 t114 0)=some r:=H;have A2:=Sd.m A20;clear A20;have H':=Sd.m H;clear H;go_enter Tryz.func49,Tryz.ntmps49;go_wp2_with (first | (go_at_call 45;(with_reducible refine (ax_.calls _ _ l0 t114 _ ?side1 ?side2 A2.out).mono ?_);(case side1=>repeat (first | exact HR0.out | (with_reducible refine Kd.C_alloc ?_ _) | (with_reducible refine Kd.C_drewN ?_ _) | (with_reducible refine Kd.C_drew ?_)));(case side2=>exact HC0.out);rintro e w3 ⟨v115,rfl,ho0,hb⟩;have n0_:=Sd.m (Kd.R_lower ho0 (ap_ rb_));have n1_:=Sd.m (av_ rb_ hb);clear HB;have HO116:=n0_;have HB:=n1_;clear n0_ n1_;(try clear hb);(try clear hb2);(try clear hk);(try clear hi);(try clear ho0)))
 repeat (go_quiet (first | (go_at_call 45;(with_reducible refine (ax_.calls _ _ l0 t114 _ ?side1 ?side2 A2.out).mono ?_);(case side1=>repeat (first | exact HR0.out | (with_reducible refine Kd.C_alloc ?_ _) | (with_reducible refine Kd.C_drewN ?_ _) | (with_reducible refine Kd.C_drew ?_)));(case side2=>exact HC0.out);rintro e w3 ⟨v115,rfl,ho0,hb⟩;have n0_:=Sd.m (Kd.R_lower ho0 (ap_ rb_));have n1_:=Sd.m (av_ rb_ hb);clear HB;have HO116:=n0_;have HB:=n1_;clear n0_ n1_;(try clear hb);(try clear hb2);(try clear hk);(try clear hi);(try clear ho0)));try go_wp2_with (first | (go_at_call 45;(with_reducible refine (ax_.calls _ _ l0 t114 _ ?side1 ?side2 A2.out).mono ?_);(case side1=>repeat (first | exact HR0.out | (with_reducible refine Kd.C_alloc ?_ _) | (with_reducible refine Kd.C_drewN ?_ _) | (with_reducible refine Kd.C_drew ?_)));(case side2=>exact HC0.out);rintro e w3 ⟨v115,rfl,ho0,hb⟩;have n0_:=Sd.m (Kd.R_lower ho0 (ap_ rb_));have n1_:=Sd.m (av_ rb_ hb);clear HB;have HO116:=n0_;have HB:=n1_;clear n0_ n1_;(try clear hb);(try clear hb2);(try clear hk);(try clear hi);(try clear ho0))))
 go_loopg [3,5] k (fun kq v3 v5 w'=> ∃ (x3_1:Int) (x5_1:Int),v3=.int .i64 x3_1∧v5=.int .i64 x5_1∧Sd (bh_.l0 kq x3_1 t114 x5_1=some r)∧Sd (kq<=k)∧Sd (Kd.R k74 74 w' w.heap.size (fun _=>True) v115 t114)∧Sd (Below w.heap.size w w'))
 case atStart=>exact ⟨(0),(0),ri_,ri_,H',⟨Nat.le_refl _⟩,⟨rr_ HO116.out⟩,⟨rb_⟩⟩
 case round=>
  clear H';obtain ⟨x3_1,x5_1,rfl,rfl,HA,HK1,HO_4,HB⟩:=hrel;cases gk with
  | zero=>exact absurd HA.out (by simp [bh_.l0])
  | succ k1=>
   have H:=HA.out;clear HA;simp only [bh_.l0] at H;by_cases c4:x5_1<(t114.length:Int)
   ·rw [if_pos c4] at H;have c4b0:=dt__ c4;clear c4;by_cases c5:0<=x5_1
    ·rw [if_pos c5] at H;have c5b0:=dt__ c5;clear c5;have H':=Sd.m H;clear H;obtain ⟨Ao6,co6,eo6⟩:=Kd.R_slice HO_4.out;subst eo6;have p117:0<=(x5_1:Int):=od_;have q117:x5_1<(t114.length:Int):=od_;obtain ⟨ad117,e117,hx117_0,hx117_1⟩:=ec_ (Kd.R_reads' HO_4.out).2.2 x5_1 p117 q117;cases e117;replace p117:=eq_true p117;replace q117:=eq_true q117;have p118:0<=(x5_1:Int):=od_;have q118:x5_1<(t114.length:Int):=od_;obtain ⟨ad118,e118,hx118_0,hx118_1⟩:=ec_ (Kd.R_reads' HO_4.out).2.2 x5_1 p118 q118;obtain rfl:ad117=ad118:=(by injection e118);replace p118:=eq_true p118;replace q118:=eq_true q118;go_wp2
     repeat (go_quiet (fail);try go_wp2)
     go_roundg k1
     case measure=>have:=HK1.out;omega
     case rel=>exact ⟨(wrap64 ((wrap64 ((wrap64 (x3_1+((al_ t114 x5_1).f1))) - ((al_ t114 x5_1).f0)))+1)),(wrap64 (x5_1+1)),ri_,ri_,H',⟨by have:=HK1.out;omega⟩,⟨rr_ HO_4.out⟩,⟨rb_⟩⟩
    ·rw [if_neg c5] at H;exact absurd H (by simp)
   ·rw [if_neg c4] at H;have c4b0:=df__ c4;clear c4;obtain rfl:=Option.some.inj H;obtain ⟨Ao7,co7,eo7⟩:=Kd.R_slice HO_4.out;subst eo7;go_wp2
    repeat (go_quiet (fail);try go_wp2)
    go_ret;exact ⟨re_,rb_⟩
def ck_.f (k:Nat)(l0:List (S74)):Option (Bool):=if (l0.length:Int)<=400 then ((ax_.f l0).bind fun t119=>((ao_.f k t119 l0).bind fun t122=>(some t122))) else (some false)
theorem ck_.calls (k:Nat)(A0:Option Addr)(c0:Nat)(l0:List (S74))(r:Bool)(w:World)(hr0:Kd.C k74 w A0 l0.length l0)(hc0:l0.length<=c0)(h:ck_.f k l0=some r):
  Calls Tryz.prog 48 #[.slice A0 l0.length c0] w fun e w'=>e=.returned (.bool r)∧Below w.heap.size w w':=by
 have HR0:=Sd.m hr0;have HC0:=Sd.m hc0;clear hr0 hc0;have HB:=Sd.m (Below.refl w.heap.size w);have H:(if (l0.length:Int)<=400 then ((ax_.f l0).bind fun t119=>((ao_.f k t119 l0).bind fun t122=>(some t122))) else (some false))=some r:=h;clear h;by_cases c2:(l0.length:Int)<=400
 ·rw [if_pos c2] at H;have c2b0:=dt__ c2;have c2b1:decide (l0.length<=400)=true:=dt__ (by omega);clear c2;replace H:=Option.bind_eq_some_iff.mp H;obtain ⟨t119,A30,H⟩:=H;replace H:((ao_.f k t119 l0).bind fun t122=>(some t122))=some r:=H;have A3:=Sd.m A30;clear A30;replace H:=Option.bind_eq_some_iff.mp H;obtain ⟨t122,A40,H⟩:=H;replace H:(some t122)=some r:=H;have A4:=Sd.m A40;clear A40;obtain rfl:=Option.some.inj H;go_enter Tryz.func48,Tryz.ntmps48;go_wp2_with (first | (go_at_call 45;(with_reducible refine (ax_.calls _ _ l0 t119 _ ?side1 ?side2 A3.out).mono ?_);(case side1=>repeat (first | exact HR0.out | (with_reducible refine Kd.C_alloc ?_ _) | (with_reducible refine Kd.C_drewN ?_ _) | (with_reducible refine Kd.C_drew ?_)));(case side2=>exact HC0.out);rintro e w5 ⟨v120,rfl,ho0,hb⟩;have n0_:=Sd.m (Kd.R_lower ho0 (ap_ rb_));have n1_:=Sd.m (av_ rb_ hb);clear HB;have HO121:=n0_;have HB:=n1_;clear n0_ n1_;(try clear hb);(try clear hb2);(try clear hk);(try clear hi);(try clear ho0);obtain ⟨Ao6,co6,eo6⟩:=Kd.R_slice HO121.out;subst eo6) | (go_at_call 47;(with_reducible refine (ao_.calls k _ _ t119 _ _ l0 t122 _ ?side1 ?side2 ?side3 ?side4 A4.out).mono ?_);(case side1=>repeat (first | exact (Kd.R_reads' HO121.out).2.2 | (with_reducible refine Kd.C_alloc ?_ _) | (with_reducible refine Kd.C_drewN ?_ _) | (with_reducible refine Kd.C_drew ?_)));(case side2=>exact (Kd.R_reads' HO121.out).2.1);(case side3=>exact cs_ (Kd.C_below HR0.out HB.out));(case side4=>exact HC0.out);rintro e w' ⟨rfl,⟨nd,rfl⟩⟩));go_ret;exact ⟨re_,rb_⟩
 ·rw [if_neg c2] at H;have c2b0:=df__ c2;have c2b1:decide (l0.length<=400)=false:=df__ (by omega);clear c2;obtain rfl:=Option.some.inj H;go_enter Tryz.func48,Tryz.ntmps48;go_wp2;go_ret;exact ⟨re_,rb_⟩
def fm_.f (l0:List (S74)):Option ((List (S74))):=(jj_.f l0 ([]:List (S74))).bind fun t123=>(some t123)
theorem fm_.calls (A0:Option Addr)(c0:Nat)(l0:List (S74))(r:List (S74))(w:World)(hr0:Kd.C k74 w A0 l0.length l0)(hc0:l0.length<=c0)(h:fm_.f l0=some r):
  Calls Tryz.prog 130 #[.slice A0 l0.length c0] w fun e w'=> ∃ v0_:Value,e=.returned (v0_)∧Kd.R k74 74 w' w.heap.size (fun _=>True) v0_ r∧Below w.heap.size w w':=by
 have HR0:=Sd.m hr0;have HC0:=Sd.m hc0;clear hr0 hc0;have HB:=Sd.m (Below.refl w.heap.size w);have H:((jj_.f l0 ([]:List (S74))).bind fun t123=>(some t123))=some r:=h;clear h;replace H:=Option.bind_eq_some_iff.mp H;obtain ⟨t123,A20,H⟩:=H;replace H:(some t123)=some r:=H;have A2:=Sd.m A20;clear A20;obtain rfl:=Option.some.inj H;go_enter Tryz.func130,Tryz.ntmps130;go_wp2_with (first | ((with_reducible refine bv_ (f:=167) rfl ?_);refine goesL_ (some 4) rfl rfl Tryz.func167 (by kernel_rfl) rfl #[.slice A0 l0.length c0,.slice none 0 0] rfl gl_ ?_;(refine (jj_.calls _ _ l0 _ _ ([]:List (S74)) t123 _ ?side1 ?side2 ?side3 ?side4 A2.out).mono ?_);(case side1=>repeat (first | exact HR0.out | (with_reducible refine Kd.C_alloc ?_ _) | (with_reducible refine Kd.C_drewN ?_ _) | (with_reducible refine Kd.C_drew ?_)));(case side2=>exact HC0.out);(case side3=>exact Kd.C_nil _ _);(case side4=>exact Nat.le_refl _);rintro e w3 ⟨v124,rfl,ho0,hb⟩;refine ⟨_,rfl,?_⟩;have n0_:=Sd.m (Kd.R_lower ho0 (ap_ rb_));have n1_:=Sd.m (av_ rb_ hb);clear HB;have HO125:=n0_;have HB:=n1_;clear n0_ n1_;(try clear hb);(try clear hb2);(try clear hk);(try clear hi);(try clear ho0)));go_ret;exact ⟨_,re_,rr_ HO125.out,rb_⟩
def cy_.l0:Nat->List (S74)->Int->Int->Option (Int)
 | 0,_,_,_=>none
 | k+1,x6,x7,x8=>if x8<x7 then (if 0<=x8 then (if x8<(x6.length:Int) then (some ((al_ x6 x8).f0)) else (none)) else (none)) else (some (-1))
def cy_.f (k:Nat)(l0:List (S74)):Option (Int):=(fm_.f l0).bind fun t126=>(cy_.l0 k t126 (t126.length:Int) 0)
theorem cy_.calls (k:Nat)(A0:Option Addr)(c0:Nat)(l0:List (S74))(r:Int)(w:World)(hr0:Kd.C k74 w A0 l0.length l0)(hc0:l0.length<=c0)(h:cy_.f k l0=some r):
  Calls Tryz.prog 104 #[.slice A0 l0.length c0] w fun e w'=>e=.returned (.int .i64 r)∧Below w.heap.size w w':=by
 have hu74:=Tryz.underlying74;have HR0:=Sd.m hr0;have HC0:=Sd.m hc0;clear hr0 hc0;have HB:=Sd.m (Below.refl w.heap.size w);have H:((fm_.f l0).bind fun t126=>(cy_.l0 k t126 (t126.length:Int) 0))=some r:=h;clear h;replace H:=Option.bind_eq_some_iff.mp H;obtain ⟨t126,A20,H⟩:=H;replace H:(cy_.l0 k t126 (t126.length:Int) 0)=some r:=H;have A2:=Sd.m A20;clear A20;have H':=Sd.m H;clear H;go_enter Tryz.func104,Tryz.ntmps104;go_wp2_with (first | ((with_reducible refine bv_ (f:=130) rfl ?_);refine goesL_ (some 6) rfl rfl Tryz.func130 (by kernel_rfl) rfl #[.slice A0 l0.length c0] rfl gl_ ?_;(with_reducible refine (fm_.calls _ _ l0 t126 _ ?side1 ?side2 A2.out).mono ?_);(case side1=>repeat (first | exact HR0.out | (with_reducible refine Kd.C_alloc ?_ _) | (with_reducible refine Kd.C_drewN ?_ _) | (with_reducible refine Kd.C_drew ?_)));(case side2=>exact HC0.out);rintro e w3 ⟨v127,rfl,ho0,hb⟩;refine ⟨_,rfl,?_⟩;have n0_:=Sd.m (Kd.R_lower ho0 (ap_ rb_));have n1_:=Sd.m (av_ rb_ hb);clear HB;have HO128:=n0_;have HB:=n1_;clear n0_ n1_;(try clear hb);(try clear hb2);(try clear hk);(try clear hi);(try clear ho0);obtain ⟨Ao4,co4,eo4⟩:=Kd.R_slice HO128.out;subst eo4))
 go_loopg [8] k (fun kq v8 w'=> ∃ (x8_1:Int),v8=.int .i64 x8_1∧Sd (cy_.l0 kq t126 (t126.length:Int) x8_1=some r)∧Sd (kq<=k)∧Sd (Kd.R k74 74 w' w.heap.size (fun _=>True) (.slice Ao4 t126.length co4) t126)∧Sd (Below w.heap.size w w'))
 case atStart=>exact ⟨(0),ri_,H',⟨Nat.le_refl _⟩,⟨rr_ HO128.out⟩,⟨rb_⟩⟩
 case round=>
  clear H';obtain ⟨x8_1,rfl,HA,HK1,HO_6,HB⟩:=hrel;cases gk with
  | zero=>exact absurd HA.out (by simp [cy_.l0])
  | succ k1=>
   have H:=HA.out;clear HA;simp only [cy_.l0] at H;by_cases c5:x8_1<(t126.length:Int)
   ·rw [if_pos c5] at H;have c5b0:=dt__ c5;clear c5;by_cases c6:0<=x8_1
    ·rw [if_pos c6] at H;have c6b0:=dt__ c6;clear c6;by_cases c7:x8_1<(t126.length:Int)
     ·rw [if_pos c7] at H;have c7b0:=dt__ c7;clear c7;obtain rfl:=Option.some.inj H;have p129:0<=(x8_1:Int):=od_;have q129:x8_1<(t126.length:Int):=od_;obtain ⟨ad129,e129,hx129_0,hx129_1⟩:=ec_ (Kd.R_reads' HO_6.out).2.2 x8_1 p129 q129;cases e129;replace p129:=eq_true p129;replace q129:=eq_true q129;go_wp2_with (first | ((with_reducible refine co_ (N:=4) rfl ?_);refine di_ ?hg (N:=4) ?hd (cs:=#[.int .i64 0,.int .i64 0]) (t:=74) ?hr ?_;(case hd=>rfl);(case hg=>rfl);(case hr=>first | (go_simp;done) | (go_simp;rfl));intro gb130 hg w8 hbox hb;have n0_:=Sd.m (Kd.R_below (Kd.R_elderB (rr_ HO_6.out) gb130 (Nat.le_of_eq hg.symm)) hb);have n1_:=Sd.m (av_ rb_ hb);have n2_:=Sd.m (hbox);have n3_:=Sd.m ((by rw [hg];exact (ap_ rb_):w.heap.size<=gb130));have n4_:=Sd.m ((by rw [hg];exact (ap_ rb_):w.heap.size<=gb130));clear HO_6;clear HB;have HO_6:=n0_;have HB:=n1_;have BK130:=n2_;have GW130:=n3_;have GE130:=n4_;clear n0_ n1_ n2_ n3_ n4_;clear hb hbox hg;have hcz9_0:w8.cell? ⟨gb130,0,none⟩=some (.int .i64 0):=(af_ BK130.out 0).trans rfl;have hcz9_1:w8.cell? ⟨gb130,1,none⟩=some (.int .i64 0):=(af_ BK130.out 1).trans rfl;have hfz9_0:=aa_ BK130.out 0;have hfz9_1:=aa_ BK130.out 1));go_ret;exact ⟨re_,by repeat (first | (with_reducible first | exact HB.out | apply ab_ | apply ad_ | apply au_ | refine bb_ ?_ GE130.out) | exact HB.out)⟩
     ·rw [if_neg c7] at H;exact absurd H (by simp)
    ·rw [if_neg c6] at H;exact absurd H (by simp)
   ·rw [if_neg c5] at H;have c5b0:=df__ c5;clear c5;obtain rfl:=Option.some.inj H;go_wp2;go_ret;exact ⟨re_,rb_⟩
end B
namespace LX
open Shelf YthfceiincmkccaaGreatW.PrintWords.Kd A K L B
def SetAns (W:World)(s:List S74)(e:Ending)(w':World):Prop:= ∃ A c,e=.returned (.tuple #[.slice A s.length c,.int .i64 0])∧s.length<=c∧Kd.F k74 w' (fun k=>W.heap.size<=k) A s.length s∧Below W.heap.size W w'
theorem C_lit74 {W:World}{m:Nat}{lo hi:Int}(h:W.heap[m]? =some (.cells #[.int .i64 lo,.int .i64 hi] 74 (0,0))):Kd.C k74 W (some ⟨m,0,none⟩) 1 [⟨lo,hi⟩]:=by
 refine hw_ (c:=[.int .i64 lo,.int .i64 hi]) rfl (k74_mk W ⟨lo,hi⟩) (fun i u hi'=>?_);have e:(Addr.add ⟨m,0,none⟩ i)=⟨m,i,none⟩:=by simp [Addr.add];exact fun h=>h.symm
 rw [e,af_ h i];simpa using hi'
theorem set8_range (lo hi:Int)(s:List S74)(hs:ax_.f [⟨lo,hi⟩]=some s)(hl:s.length<=400)(W:World)(A:Option Addr)(c:Nat)(nm:ByteArray)(vl:Value):
  Calls Tryz.prog 187 #[.agg #[.int .i64 5,.string nm,.int .i64 lo,.int .i64 hi,.slice A 0 c],vl] W (SetAns W s):=by
 unfold SetAns;have HS:=Sd.m hs;clear hs;obtain ⟨W1,hW1⟩: ∃ W_,W_=(W.alloc (.cells #[.int .i64 5,.string nm,.int .i64 lo,.int .i64 hi,.slice A 0 c] 85)).alloc (.cells #[.int .i64 lo,.int .i64 hi] 74):=⟨_,rfl⟩;have HB1:Sd (Below W.heap.size W W1):=⟨by rw [hW1];exact ab_ (ab_ (Below.refl W.heap.size W) _) _⟩;have HC:Sd (Kd.C k74 W1 (some ⟨W.heap.size+1,0,none⟩) 1 [⟨lo,hi⟩]):=⟨by
  rw [hW1];refine C_lit74 ?_;have e:=aj_ (W.alloc (.cells #[.int .i64 5,.string nm,.int .i64 lo,.int .i64 hi,.slice A 0 c] 85)) (.cells #[.int .i64 lo,.int .i64 hi] 74);have e2:(W.alloc (.cells #[.int .i64 5,.string nm,.int .i64 lo,.int .i64 hi,.slice A 0 c] 85)).heap.size=W.heap.size+1:=Array.size_push _;rw [e2] at e;exact e⟩
 have HL1:Sd (([⟨lo,hi⟩]:List S74).length<=1):=⟨Nat.le_refl 1⟩;go_enter Tryz.func187,Tryz.ntmps187;go_wp2_with fail
 go_loop [8] (fun t8=>t8=.int .i64 0) (fun _=>0)
 case atStart=>rfl
 case round=>
  subst hrel;go_wp2_with fail;rw [←hW1];refine (ax_.calls (some ⟨W.heap.size+1,0,none⟩) 1 [⟨lo,hi⟩] s W1 HC.out HL1.out HS.out).mono ?_;rintro e w' ⟨v0,rfl,hR,hb⟩;obtain ⟨As,cs,rfl⟩:=R_slice hR;have hF:=F_mono (R_F (R_mono (R_bound hR) (fun k hk=>hk.2.1))) (ok':=fun k=>W.heap.size<=k) (fun k hk=>Nat.le_trans HB1.out.size hk);obtain ⟨_,hcs,_⟩:=R_reads' hR;have d4:decide (400<(s.length:Int))=false:=df__ (by omega);have d5:decide (400<s.length)=false:=df__ (by omega);have HB:=Sd.m (HB1.out.trans (hb.mono HB1.out.size));have HF:=Sd.m hF;clear hR hF hb;go_wp2_with fail;go_ret2;exact ⟨As,cs,rfl,hcs,HF.out,HB.out⟩
def NdC (k:S85)(A:Option Addr)(c:Nat):Array Value:=#[.int .i64 k.f0,.string k.f1,.int .i64 k.f2,.int .i64 k.f3,.slice A k.f4.length c]
def S8a (W W0:World)(s:List S74)(t8 t6:Value)(W1:World):Prop:=Below W.heap.size W W1∧Below W0.heap.size W0 W1∧((t8=.int .i64 0∧t6=.slice none 0 0)∨(t8=.int .i64 1∧ ∃ A c,t6=.slice A 1 c∧1<=c∧Kd.F (Kd.slice 74 k74) W1 (fun _=>True) A 1 [s]))
def S8b (W W0:World)(s2:List S74)(t13 t11:Value)(W1:World):Prop:=Below W.heap.size W W1∧Below W0.heap.size W0 W1∧((t13=.int .i64 0∧t11=.slice none 0 0)∨(t13=.int .i64 1∧ ∃ A c,t11=.slice A s2.length c∧s2.length<=c∧Kd.F k74 W1 (fun k=>W.heap.size<=k) A s2.length s2))
theorem set8_one (k:S85)(s s2:List S74)(hor:bs_.f [] s=some s2)(hl2:s2.length<=400)(W:World)(A:Option Addr)(c:Nat)(hi:Int)(nm:ByteArray)(vl:Value)(hk:Kd.C k85 W A 1 [k])
  (hkid: ∀ (W':World) (A4:Option Addr) (c4:Nat),k.f4.length<=c4->Kd.C k85 W' A4 k.f4.length k.f4->Calls Tryz.prog 187 #[.agg (NdC k A4 c4),vl] W' (SetAns W' s)):
  Calls Tryz.prog 187 #[.agg #[.int .i64 4,.string nm,.int .i64 0,.int .i64 hi,.slice A 1 c],vl] W (SetAns W s2):=by
 unfold SetAns;have HOR:=Sd.m hor;have HK:=Sd.m hk;have HKID:=Sd.m hkid;clear hor hk hkid;have hb0:Below W.heap.size W (W.alloc (.cells #[.int .i64 4,.string nm,.int .i64 0,.int .i64 hi,.slice A 1 c] 85)):=ab_ (Below.refl W.heap.size W) _;have hbx0:=aj_ W (.cells #[.int .i64 4,.string nm,.int .i64 0,.int .i64 hi,.slice A 1 c] 85);obtain ⟨W0,hW0⟩: ∃ W_,W_=W.alloc (.cells #[.int .i64 4,.string nm,.int .i64 0,.int .i64 hi,.slice A 1 c] 85):=⟨_,rfl⟩;rw [←hW0] at hb0 hbx0;have hs0:W0.heap.size=W.heap.size+1:=by rw [hW0];exact Array.size_push _
 have HB0:=Sd.m hb0;have HX0:=Sd.m hbx0;have HW0:=Sd.m hW0;clear hb0 hbx0 hs0;go_enter Tryz.func187,Tryz.ntmps187;go_wp2_with fail;rw [←hW0];clear hW0;go_loopw [8,6,9,10] (fun t8 t6 _ _ W1=>S8a W W0 s t8 t6 W1) (fun t8 _ _ _ _=>(1 - intOf t8).toNat)
 case atStart=>exact ⟨HB0.out,Below.refl _ _,Or.inl ⟨rfl,rfl⟩⟩
 case round=>
  obtain ⟨hbW,hbW0,hst⟩:=hrel;have hx:=ag_ HX0.out hbW0;have x0:=bc_ hx 4 rfl;rcases hst with ⟨rfl,rfl⟩ | ⟨rfl,A6,c6,rfl,hc6,hF6⟩
  ·obtain ⟨ad,A4,c4,rfl,k0,k1,k2,k3,k4,l4,g4⟩:=at_T85 (Kd.C_below HK.out hbW) 0 (by decide) (by decide);change wr.cell? _=some (.int .i64 k.f0) at k0;change wr.cell? _=some (.string k.f1) at k1;change wr.cell? _=some (.int .i64 k.f2) at k2;change wr.cell? _=some (.int .i64 k.f3) at k3;change wr.cell? _=some (.slice A4 k.f4.length c4) at k4;have e0:ad.add ((0:Int).toNat*5)=ad:=by simp [Addr.add]
   rw [e0] at k0 k1 k2 k3 k4;clear e0;have hcall:=HKID.out wr A4 c4 l4 g4;unfold NdC at hcall;have HC:=Sd.m hcall;have HBW:=Sd.m hbW;have HBW0:=Sd.m hbW0;clear hcall hbW hbW0 hx l4 g4;go_wp2_with fail;refine HC.out.mono ?_;rintro e V1 ⟨As,cs,rfl,hcs,hFs,hb⟩;have HB1:=Sd.m hb;have HFK:=Sd.m (show Kd.FK (Kd.slice 74 k74) V1 (fun _=>True) s [.slice As s.length cs] from fun W' hW=>⟨As,cs,rfl,hcs,hFs W' (fun k _ hl=>hW k trivial hl)⟩);have HL:=Sd.m (show ∀ k_,V1.heap.size<=k_->True from fun _ _=>trivial);have HOK:=Sd.m (show ∀ k_:Nat,True->True∧some k_≠(Value.slice none 0 0).ownBlock from fun k_ _=>⟨trivial,by simp [Value.ownBlock]⟩);clear hFs hb k0 k1 k2 k3 k4 x0;go_wp2_with (at_builtin;refine N_append (Kd.slice 74 k74) (w0:=V1) (W:=V1) V1.heap.size rfl _ _ 30 37 (.slice none 0 0) 24 rfl Tryz.underlying30 (by kernel_rfl) rfl (by decide) (by decide) (.slice none 0 0) [] s [.slice As s.length cs] (fun _=>True) (fun _=>True) rfl rfl HFK.out HOK.out HL.out (N_nil _ _ _ _ _) (Below.refl _ _) (Nat.le_refl _) (by decide) ?_;intro v5 V5 hNx hB5 hg5 hat5;have HNX:=Sd.m hNx;have HB5:=Sd.m hB5;clear hNx hg5 hB5 hat5);obtain ⟨A6,c6,rfl⟩:=N_slice HNX.out;have hbb:=HB1.out.trans (HB5.out.mono HB1.out.size);go_roundw
   case rel=>exact ⟨HBW.out.trans (hbb.mono HBW.out.size),HBW0.out.trans (hbb.mono HBW0.out.size),Or.inr ⟨rfl,A6,c6,rfl,(N_reads' HNX.out).2.1,N_F HNX.out⟩⟩
   case measure=>simp [intOf]
  ·have k4:wr.cell? ⟨W.heap.size,0,none⟩=some (.int .i64 4):=(af_ hx 0).trans rfl;have HBW:=Sd.m hbW;have HBW0:=Sd.m hbW0;have HF6:=Sd.m hF6;clear hbW hbW0 hx hF6;go_wp2_with fail;go_loopw [13,11] (fun t13 t11 W1=>S8b W W0 s2 t13 t11 W1∧Below wr.heap.size wr W1) (fun t13 _ _=>(1 - intOf t13).toNat)
   case atStart=>exact ⟨⟨HBW.out,HBW0.out,Or.inl ⟨rfl,rfl⟩⟩,Below.refl _ _⟩
   case round=>
    obtain ⟨⟨hbV,hbV0,hst⟩,hbr⟩:=hrel;rcases hst with ⟨rfl,rfl⟩ | ⟨rfl,Ao,co,rfl,hco,hFo⟩
    ·obtain ⟨ad6,A0,c0,rfl,q0,l0,g0⟩:=at_L6 (F_now (F_below HF6.out hbr)) 0 (by decide) (by decide);have e0:ad6.add ((0:Int).toNat)=ad6:=by simp [Addr.add]
     rw [e0] at q0;clear e0;change wr.cell? _=some (.slice A0 s.length c0) at q0;have HG0:=Sd.m (show Kd.C k74 wr A0 s.length s from g0);have HL0:=Sd.m (show s.length<=c0 from l0);have d4:decide (400<(s2.length:Int))=false:=df__ (by omega);have d5:decide (400<s2.length)=false:=df__ (by omega);have HBV:=Sd.m hbV;have HBV0:=Sd.m hbV0;have HBR:=Sd.m hbr;clear g0 l0 hbV hbV0 hbr;go_wp2_with fail;refine (bs_.calls none 0 [] A0 c0 s s2 wr (C_nil _ _) (Nat.le_refl 0) HG0.out HL0.out HOR.out).mono ?_;rintro e V7 ⟨v7,rfl,hR7,hb7⟩;obtain ⟨As,cs,rfl⟩:=R_slice hR7;have HF7:=Sd.m (F_mono (R_F (R_mono (R_bound hR7) (fun k hk=>hk.2.1))) (ok':=fun k=>W.heap.size<=k) (fun k hk=>Nat.le_trans HBV.out.size hk));have HC7:=Sd.m (R_reads' hR7).2.1;have HB7:=Sd.m hb7;clear hR7 hb7;go_wp2_with fail;go_roundw
     case rel=>exact ⟨⟨HBV.out.trans (HB7.out.mono HBV.out.size),HBV0.out.trans (HB7.out.mono HBV0.out.size),Or.inr ⟨rfl,As,cs,rfl,HC7.out,HF7.out⟩⟩,HBR.out.trans (HB7.out.mono HBR.out.size)⟩
     case measure=>simp [intOf]
    ·have x2:wr.cell? ⟨W.heap.size,2,none⟩=some (.int .i64 0):=(af_ (ag_ HX0.out hbV0) 2).trans rfl;have d4:decide (400<(s2.length:Int))=false:=df__ (by omega);have d5:decide (400<s2.length)=false:=df__ (by omega);have HBV:=Sd.m hbV;have HFo:=Sd.m hFo;have HCo:=Sd.m hco;clear hbV hbV0 hbr hFo hco;go_wp2_with fail;go_ret2;exact ⟨Ao,co,rfl,HCo.out,HFo.out,HBV.out⟩
def TokO (W1:World)(t:List S159)(here:Int)(v:Value)(wx:World):Prop:=v=.pointer (some ⟨W1.heap.size,0,none⟩)∧wx=(W1.alloc (.cells #[.int .i64 (ac_ t here).f0,.string (ac_ t here).f1,.int .i64 (ac_ t here).f2,.int .i64 (ac_ t here).f3,.int .i64 (ac_ t here).f4] 159)).drew
def Ans (w0 W:World)(g:Nat)(t:List S159)(en:Int)(n:S85)(here:Int)(e:Ending)(W1:World):Prop:= ∃ v,e=.returned v∧Nd W1 W.heap.size v n∧RdAt w0 W1 g t en here∧KeepBut W W1 g none
theorem part_range {w0 W:World}{g:Nat}{t:List S159}{en here:Int}(h:RdAt w0 W g t en here)(h0:0<=here)(h1:here<t.length)(ht:t.length<=1000000)(hk:(ac_ t here).f0=15)(deep:Int):
  Calls Tryz.prog 206 #[.pointer (some ⟨g,0,none⟩),.int .i64 deep] W (Ans w0 W g t en ⟨5,⟨#[]⟩,(ac_ t here).f2,(ac_ t here).f3,[]⟩ (here+1)):=by
 unfold Ans;have hb1:Below W.heap.size W (W.alloc (.cells #[.int .i64 0,.string ⟨#[]⟩,.int .i64 0,.int .i64 0,.slice none 0 0] 85)):=ab_ (Below.refl W.heap.size W) _;have HGL:=Sd.m h.lt;have HW0:=Sd.m h.2.size;have hkc:=bz_ (h.below hb1) h0;have hkd:kdF t here=15:=by unfold kdF;rw [if_pos h1,hk]
 rw [hkd] at hkc;have HK:=Sd.m hkc;have HKK:=Sd.m hk;clear hkc hkd h hk;go_enter Tryz.func206,Tryz.ntmps206;go_wp2_with fail;refine HK.out.mono ?_;rintro e W1 ⟨rfl,hR,hKB⟩;have hbx:=hKB.blk (aj_ W _) (by have:=HGL.out;omega) (by simp);go_upto_region 3 with fail;obtain ⟨A,c,hgb,htk,hge⟩:=hR.cells;obtain ⟨ad,rfl,k0,k1,k2,k3,k4⟩:=ho_ htk hR.2 here h0 h1;have g0:=bc_ hgb 0 rfl;have g4:=bc_ hgb 4 rfl;have d0:decide ((0:Int)<=here)=true:=dt__ h0;have d1:decide (here<(t.length:Int))=true:=dt__ h1;have hbA:Below W1.heap.size W1 (W1.alloc (.cells #[.int .i64 0,.string ⟨#[]⟩,.int .i64 0,.int .i64 0,.int .i64 0] 159)):=ab_ (Below.refl W1.heap.size W1) _;have a0:=(hbA.cell (bl__ W1 _ k0)).trans k0;have a1:=(hbA.cell (bl__ W1 _ k1)).trans k1;have a2:=(hbA.cell (bl__ W1 _ k2)).trans k2;have a3:=(hbA.cell (bl__ W1 _ k3)).trans k3;have a4:=(hbA.cell (bl__ W1 _ k4)).trans k4;have ag0:=(hbA.cell (bl__ W1 _ g0)).trans g0;have ag4:=(hbA.cell (bl__ W1 _ g4)).trans g4;have HR:=Sd.m hR;have HKB:=Sd.m hKB;have HBX:=Sd.m hbx;clear hR hKB hbx htk hgb hbA;have hmx:Tryz.prog.follows .mixedOrders=true:=by kernel_rfl
 go_cut [5] (fun s5 wx=>TokO W1 t here s5 wx)
 case first=>
  go_region_law (fail)
  all_goals
   go_wp2_with fail;go_meet;exact ⟨rfl,rfl⟩
 case rest=>
  obtain ⟨rfl,rfl⟩:=hcut;obtain ⟨W2,hW2⟩: ∃ W_,W_=(W1.alloc (.cells #[.int .i64 (ac_ t here).f0,.string (ac_ t here).f1,.int .i64 (ac_ t here).f2,.int .i64 (ac_ t here).f3,.int .i64 (ac_ t here).f4] 159)).drew:=⟨_,rfl⟩;have hb2:Below W1.heap.size W1 W2:=by
   rw [hW2];have q:=ab_ (Below.refl W1.heap.size W1) (.cells #[.int .i64 (ac_ t here).f0,.string (ac_ t here).f1,.int .i64 (ac_ t here).f2,.int .i64 (ac_ t here).f3,.int .i64 (ac_ t here).f4] 159);exact ⟨q.os,q.tape,q.output,q.size,q.block⟩
  have htb:W2.heap[W1.heap.size]? =some (.cells #[.int .i64 (ac_ t here).f0,.string (ac_ t here).f1,.int .i64 (ac_ t here).f2,.int .i64 (ac_ t here).f3,.int .i64 (ac_ t here).f4] 159 (0,0)):=by rw [hW2];exact aj_ W1 _
  rw [←hW2];clear hW2 k0 k1 k2 k3 k4 g0 g4 a0 a1 a2 a3 a4 ag0 ag4;have hR2:=HR.out.below hb2;obtain ⟨A2,cA2,hgb,_,_⟩:=hR2.cells;have g4:=bc_ hgb 4 rfl;have f4:=aa_ hgb 4;have w1:IntKind.i64.wrap (here+1)=here+1:=IntWalk.i64_in _ (by omega);have hgt:W1.heap.size≠g:=by have:=HR.out.lt;omega
  have hxn:W.heap.size≠g:=by have:=HGL.out;omega
  have hR3:=hR2.set (here+1);have htb3:=bj_ htb (p:=⟨g,4,none⟩) hgt (.int .i64 (here+1));have hbx3:=bj_ (ag_ HBX.out hb2) (p:=⟨g,4,none⟩) hxn (.int .i64 (here+1));have hk3:KeepBut W (W2.setCell ⟨g,4,none⟩ (.int .i64 (here+1))) g none:=KeepBut.set_ ((KeepBut.of_below hb1 g none).trans (HKB.out.trans (KeepBut.of_below hb2 g none) (Or.inl rfl)) (Or.inl rfl)) 4 _;have t2:=bc_ htb3 2 rfl;have t3:=bc_ htb3 3 rfl;have n0:=bc_ hbx3 0 rfl;have m0:=aa_ hbx3 0;have n1:=bc_ hbx3 1 rfl;have m1:=aa_ hbx3 1;have n2:=bc_ hbx3 2 rfl;have m2:=aa_ hbx3 2;have n3:=bc_ hbx3 3 rfl;have m3:=aa_ hbx3 3;have n4:=bc_ hbx3 4 rfl;have m4:=aa_ hbx3 4;have HR3:=Sd.m hR3;have HBX3:=Sd.m hbx3;have HK3:=Sd.m hk3;clear hR2 hgb hR3 htb3 hbx3 hk3 htb hb2 HR HKB HBX;go_wp2_with fail;refine bodyPost_ret (results_cell_row rfl _ _ W.heap.size 85 #[.int .i64 5,.string ⟨#[]⟩,.int .i64 (ac_ t here).f2,.int .i64 (ac_ t here).f3,.slice none 0 0] (0,0) _ rfl (ej_ HBX3.out _ _ _ _ _) Tryz.underlying85 rfl (by kernel_rfl)) rfl ?_;exact ⟨_,rfl,⟨none,0,rfl,Nat.le_refl _,F_nil _ _ _⟩,fe_ HR3.out (fun e=>hxn e.symm) HW0.out _ _ _ _ _,dv_ HK3.out (Nat.le_refl _) _ _ _ _ _⟩
theorem part_name {w0 W:World}{g:Nat}{t:List S159}{en here:Int}(h:RdAt w0 W g t en here)(h0:0<=here)(h1:here<t.length)(ht:t.length<=1000000)(hk:(ac_ t here).f0=1)(deep:Int):
  Calls Tryz.prog 206 #[.pointer (some ⟨g,0,none⟩),.int .i64 deep] W (Ans w0 W g t en ⟨2,(ac_ t here).f1,0,0,[]⟩ (here+1)):=by
 unfold Ans;have hb1:Below W.heap.size W (W.alloc (.cells #[.int .i64 0,.string ⟨#[]⟩,.int .i64 0,.int .i64 0,.slice none 0 0] 85)):=ab_ (Below.refl W.heap.size W) _;have HGL:=Sd.m h.lt;have HW0:=Sd.m h.2.size;have hkc:=bz_ (h.below hb1) h0;have hkd:kdF t here=1:=by unfold kdF;rw [if_pos h1,hk]
 rw [hkd] at hkc;have HK:=Sd.m hkc;have HKK:=Sd.m hk;clear hkc hkd h hk;go_enter Tryz.func206,Tryz.ntmps206;go_wp2_with fail;refine HK.out.mono ?_;rintro e W1 ⟨rfl,hR,hKB⟩;have hbx:=hKB.blk (aj_ W _) (by have:=HGL.out;omega) (by simp);go_upto_region 7 with fail;obtain ⟨A,c,hgb,htk,hge⟩:=hR.cells;obtain ⟨ad,rfl,k0,k1,k2,k3,k4⟩:=ho_ htk hR.2 here h0 h1;have g0:=bc_ hgb 0 rfl;have g4:=bc_ hgb 4 rfl;have d0:decide ((0:Int)<=here)=true:=dt__ h0;have d1:decide (here<(t.length:Int))=true:=dt__ h1;have hbA:Below W1.heap.size W1 (W1.alloc (.cells #[.int .i64 0,.string ⟨#[]⟩,.int .i64 0,.int .i64 0,.int .i64 0] 159)):=ab_ (Below.refl W1.heap.size W1) _;have a0:=(hbA.cell (bl__ W1 _ k0)).trans k0;have a1:=(hbA.cell (bl__ W1 _ k1)).trans k1;have a2:=(hbA.cell (bl__ W1 _ k2)).trans k2;have a3:=(hbA.cell (bl__ W1 _ k3)).trans k3;have a4:=(hbA.cell (bl__ W1 _ k4)).trans k4;have ag0:=(hbA.cell (bl__ W1 _ g0)).trans g0;have ag4:=(hbA.cell (bl__ W1 _ g4)).trans g4;have HR:=Sd.m hR;have HKB:=Sd.m hKB;have HBX:=Sd.m hbx;clear hR hKB hbx htk hgb hbA;have hmx:Tryz.prog.follows .mixedOrders=true:=by kernel_rfl
 go_cut [6] (fun s5 wx=>TokO W1 t here s5 wx)
 case first=>
  go_region_law (fail)
  all_goals
   go_wp2_with fail;go_meet;exact ⟨rfl,rfl⟩
 case rest=>
  obtain ⟨rfl,rfl⟩:=hcut;obtain ⟨W2,hW2⟩: ∃ W_,W_=(W1.alloc (.cells #[.int .i64 (ac_ t here).f0,.string (ac_ t here).f1,.int .i64 (ac_ t here).f2,.int .i64 (ac_ t here).f3,.int .i64 (ac_ t here).f4] 159)).drew:=⟨_,rfl⟩;have hb2:Below W1.heap.size W1 W2:=by
   rw [hW2];have q:=ab_ (Below.refl W1.heap.size W1) (.cells #[.int .i64 (ac_ t here).f0,.string (ac_ t here).f1,.int .i64 (ac_ t here).f2,.int .i64 (ac_ t here).f3,.int .i64 (ac_ t here).f4] 159);exact ⟨q.os,q.tape,q.output,q.size,q.block⟩
  have htb:W2.heap[W1.heap.size]? =some (.cells #[.int .i64 (ac_ t here).f0,.string (ac_ t here).f1,.int .i64 (ac_ t here).f2,.int .i64 (ac_ t here).f3,.int .i64 (ac_ t here).f4] 159 (0,0)):=by rw [hW2];exact aj_ W1 _
  rw [←hW2];clear hW2 k0 k1 k2 k3 k4 g0 g4 a0 a1 a2 a3 a4 ag0 ag4;have hR2:=HR.out.below hb2;obtain ⟨A2,cA2,hgb,_,_⟩:=hR2.cells;have g4:=bc_ hgb 4 rfl;have f4:=aa_ hgb 4;have w1:IntKind.i64.wrap (here+1)=here+1:=IntWalk.i64_in _ (by omega);have hgt:W1.heap.size≠g:=by have:=HR.out.lt;omega
  have hxn:W.heap.size≠g:=by have:=HGL.out;omega
  have hR3:=hR2.set (here+1);have htb3:=bj_ htb (p:=⟨g,4,none⟩) hgt (.int .i64 (here+1));have hbx3:=bj_ (ag_ HBX.out hb2) (p:=⟨g,4,none⟩) hxn (.int .i64 (here+1));have hk3:KeepBut W (W2.setCell ⟨g,4,none⟩ (.int .i64 (here+1))) g none:=KeepBut.set_ ((KeepBut.of_below hb1 g none).trans (HKB.out.trans (KeepBut.of_below hb2 g none) (Or.inl rfl)) (Or.inl rfl)) 4 _;have t1:=bc_ htb3 1 rfl;have n0:=bc_ hbx3 0 rfl;have m0:=aa_ hbx3 0;have n1:=bc_ hbx3 1 rfl;have m1:=aa_ hbx3 1;have n2:=bc_ hbx3 2 rfl;have m2:=aa_ hbx3 2;have n3:=bc_ hbx3 3 rfl;have m3:=aa_ hbx3 3;have n4:=bc_ hbx3 4 rfl;have m4:=aa_ hbx3 4;have HR3:=Sd.m hR3;have HBX3:=Sd.m hbx3;have HK3:=Sd.m hk3;clear hR2 hgb hR3 htb3 hbx3 hk3 htb hb2 HR HKB HBX;go_wp2_with fail;refine bodyPost_ret (results_cell_row rfl _ _ W.heap.size 85 #[.int .i64 2,.string (ac_ t here).f1,.int .i64 0,.int .i64 0,.slice none 0 0] (0,0) _ rfl (ej_ HBX3.out _ _ _ _ _) Tryz.underlying85 rfl (by kernel_rfl)) rfl ?_;exact ⟨_,rfl,⟨none,0,rfl,Nat.le_refl _,F_nil _ _ _⟩,fe_ HR3.out (fun e=>hxn e.symm) HW0.out _ _ _ _ _,dv_ HK3.out (Nat.le_refl _) _ _ _ _ _⟩
theorem piece_name {w0 W:World}{g:Nat}{t:List S159}{en here:Int}(h:RdAt w0 W g t en here)(h0:0<=here)(h1:here<t.length)(ht:t.length<=1000000)(hk:(ac_ t here).f0=1)(deep:Int):
  Calls Tryz.prog 184 #[.pointer (some ⟨g,0,none⟩),.int .i64 deep] W (Ans w0 W g t en ⟨2,(ac_ t here).f1,0,0,[]⟩ (here+1)):=by
 unfold Ans;have hb1:Below W.heap.size W (W.alloc (.cells #[.int .i64 0,.string ⟨#[]⟩,.int .i64 0,.int .i64 0,.slice none 0 0] 85)):=ab_ (Below.refl W.heap.size W) _;have HGL:=Sd.m h.lt;have HW0:=Sd.m h.2.size;have hR0:=h.below hb1;have HKK:=Sd.m hk;have hbx0:=aj_ W (.cells #[.int .i64 0,.string ⟨#[]⟩,.int .i64 0,.int .i64 0,.slice none 0 0] 85);obtain ⟨W1,hW1⟩: ∃ W_,W_=W.alloc (.cells #[.int .i64 0,.string ⟨#[]⟩,.int .i64 0,.int .i64 0,.slice none 0 0] 85):=⟨_,rfl⟩;have hKB0:=KeepBut.refl (W.alloc (.cells #[.int .i64 0,.string ⟨#[]⟩,.int .i64 0,.int .i64 0,.slice none 0 0] 85)) g none;rw [←hW1] at hR0 hbx0;have hKB:KeepBut (W.alloc (.cells #[.int .i64 0,.string ⟨#[]⟩,.int .i64 0,.int .i64 0,.slice none 0 0] 85)) W1 g none:=by rw [hW1];exact KeepBut.refl _ _ _
 have HR0:=Sd.m hR0;have HBX0:=Sd.m hbx0;have HKB0:=Sd.m hKB;clear hR0 hbx0 hKB hKB0 h hk;go_enter Tryz.func184,Tryz.ntmps184;go_upto_region 1 with fail;rw [←hW1];have hR:=HR0.out;have hbx:=HBX0.out;have hKB:=HKB0.out;clear hW1 HR0 HBX0 HKB0;obtain ⟨A,c,hgb,htk,hge⟩:=hR.cells;obtain ⟨ad,rfl,k0,k1,k2,k3,k4⟩:=ho_ htk hR.2 here h0 h1;have g0:=bc_ hgb 0 rfl;have g4:=bc_ hgb 4 rfl;have d0:decide ((0:Int)<=here)=true:=dt__ h0;have d1:decide (here<(t.length:Int))=true:=dt__ h1;have hbA:Below W1.heap.size W1 (W1.alloc (.cells #[.int .i64 0,.string ⟨#[]⟩,.int .i64 0,.int .i64 0,.int .i64 0] 159)):=ab_ (Below.refl W1.heap.size W1) _;have a0:=(hbA.cell (bl__ W1 _ k0)).trans k0;have a1:=(hbA.cell (bl__ W1 _ k1)).trans k1;have a2:=(hbA.cell (bl__ W1 _ k2)).trans k2;have a3:=(hbA.cell (bl__ W1 _ k3)).trans k3;have a4:=(hbA.cell (bl__ W1 _ k4)).trans k4;have ag0:=(hbA.cell (bl__ W1 _ g0)).trans g0;have ag4:=(hbA.cell (bl__ W1 _ g4)).trans g4;have HR:=Sd.m hR;have HKB:=Sd.m hKB;have HBX:=Sd.m hbx;clear hR hKB hbx htk hgb hbA;have hmx:Tryz.prog.follows .mixedOrders=true:=by kernel_rfl
 go_cut [5] (fun s5 wx=>TokO W1 t here s5 wx)
 case first=>
  go_region_law (fail)
  all_goals
   go_wp2_with fail;go_meet;exact ⟨rfl,rfl⟩
 case rest=>
  obtain ⟨rfl,rfl⟩:=hcut;obtain ⟨W2,hW2⟩: ∃ W_,W_=(W1.alloc (.cells #[.int .i64 (ac_ t here).f0,.string (ac_ t here).f1,.int .i64 (ac_ t here).f2,.int .i64 (ac_ t here).f3,.int .i64 (ac_ t here).f4] 159)).drew:=⟨_,rfl⟩;have hb2:Below W1.heap.size W1 W2:=by
   rw [hW2];have q:=ab_ (Below.refl W1.heap.size W1) (.cells #[.int .i64 (ac_ t here).f0,.string (ac_ t here).f1,.int .i64 (ac_ t here).f2,.int .i64 (ac_ t here).f3,.int .i64 (ac_ t here).f4] 159);exact ⟨q.os,q.tape,q.output,q.size,q.block⟩
  have htb:W2.heap[W1.heap.size]? =some (.cells #[.int .i64 (ac_ t here).f0,.string (ac_ t here).f1,.int .i64 (ac_ t here).f2,.int .i64 (ac_ t here).f3,.int .i64 (ac_ t here).f4] 159 (0,0)):=by rw [hW2];exact aj_ W1 _
  rw [←hW2];clear hW2 k0 k1 k2 k3 k4 g0 g4 a0 a1 a2 a3 a4 ag0 ag4;have hR2:=HR.out.below hb2;obtain ⟨A2,cA2,hgb,_,_⟩:=hR2.cells;have g4:=bc_ hgb 4 rfl;have f4:=aa_ hgb 4;have w1:IntKind.i64.wrap (here+1)=here+1:=IntWalk.i64_in _ (by omega);have hgt:W1.heap.size≠g:=by have:=HR.out.lt;omega
  have hxn:W.heap.size≠g:=by have:=HGL.out;omega
  have t0:W2.cell? ⟨W1.heap.size,0,none⟩=some (.int .i64 1):=by rw [←HKK.out];exact (af_ htb 0).trans rfl
  have hR3:=hR2.set (here+1);have htb3:=bj_ htb (p:=⟨g,4,none⟩) hgt (.int .i64 (here+1));have hbx3:=bj_ (ag_ HBX.out hb2) (p:=⟨g,4,none⟩) hxn (.int .i64 (here+1));have hk3:KeepBut W (W2.setCell ⟨g,4,none⟩ (.int .i64 (here+1))) g none:=KeepBut.set_ ((KeepBut.of_below hb1 g none).trans (HKB.out.trans (KeepBut.of_below hb2 g none) (Or.inl rfl)) (Or.inl rfl)) 4 _;have t1:=bc_ htb3 1 rfl;have n0:=bc_ hbx3 0 rfl;have m0:=aa_ hbx3 0;have n1:=bc_ hbx3 1 rfl;have m1:=aa_ hbx3 1;have n2:=bc_ hbx3 2 rfl;have m2:=aa_ hbx3 2;have n3:=bc_ hbx3 3 rfl;have m3:=aa_ hbx3 3;have n4:=bc_ hbx3 4 rfl;have m4:=aa_ hbx3 4;have HR3:=Sd.m hR3;have HBX3:=Sd.m hbx3;have HK3:=Sd.m hk3;clear hR2 hgb hR3 htb3 hbx3 hk3 htb hb2 HR HKB HBX;go_wp2_with fail;refine bodyPost_ret (results_cell_row rfl _ _ W.heap.size 85 #[.int .i64 2,.string (ac_ t here).f1,.int .i64 0,.int .i64 0,.slice none 0 0] (0,0) _ rfl (ej_ HBX3.out _ _ _ _ _) Tryz.underlying85 rfl (by kernel_rfl)) rfl ?_;exact ⟨_,rfl,⟨none,0,rfl,Nat.le_refl _,F_nil _ _ _⟩,fe_ HR3.out (fun e=>hxn e.symm) HW0.out _ _ _ _ _,dv_ HK3.out (Nat.le_refl _) _ _ _ _ _⟩
theorem piece_any {w0 W:World}{g:Nat}{t:List S159}{en here:Int}(h:RdAt w0 W g t en here)(h0:0<=here)(h1:here<t.length)(ht:t.length<=1000000)(hk:(ac_ t here).f0=12)(deep:Int):
  Calls Tryz.prog 184 #[.pointer (some ⟨g,0,none⟩),.int .i64 deep] W (Ans w0 W g t en ⟨3,⟨#[]⟩,0,0,[]⟩ (here+1)):=by
 unfold Ans;have hb1:Below W.heap.size W (W.alloc (.cells #[.int .i64 0,.string ⟨#[]⟩,.int .i64 0,.int .i64 0,.slice none 0 0] 85)):=ab_ (Below.refl W.heap.size W) _;have HGL:=Sd.m h.lt;have HW0:=Sd.m h.2.size;have hR0:=h.below hb1;have HKK:=Sd.m hk;have hbx0:=aj_ W (.cells #[.int .i64 0,.string ⟨#[]⟩,.int .i64 0,.int .i64 0,.slice none 0 0] 85);obtain ⟨W1,hW1⟩: ∃ W_,W_=W.alloc (.cells #[.int .i64 0,.string ⟨#[]⟩,.int .i64 0,.int .i64 0,.slice none 0 0] 85):=⟨_,rfl⟩;have hKB0:=KeepBut.refl (W.alloc (.cells #[.int .i64 0,.string ⟨#[]⟩,.int .i64 0,.int .i64 0,.slice none 0 0] 85)) g none;rw [←hW1] at hR0 hbx0;have hKB:KeepBut (W.alloc (.cells #[.int .i64 0,.string ⟨#[]⟩,.int .i64 0,.int .i64 0,.slice none 0 0] 85)) W1 g none:=by rw [hW1];exact KeepBut.refl _ _ _
 have HR0:=Sd.m hR0;have HBX0:=Sd.m hbx0;have HKB0:=Sd.m hKB;clear hR0 hbx0 hKB hKB0 h hk;go_enter Tryz.func184,Tryz.ntmps184;go_upto_region 1 with fail;rw [←hW1];have hR:=HR0.out;have hbx:=HBX0.out;have hKB:=HKB0.out;clear hW1 HR0 HBX0 HKB0;obtain ⟨A,c,hgb,htk,hge⟩:=hR.cells;obtain ⟨ad,rfl,k0,k1,k2,k3,k4⟩:=ho_ htk hR.2 here h0 h1;have g0:=bc_ hgb 0 rfl;have g4:=bc_ hgb 4 rfl;have d0:decide ((0:Int)<=here)=true:=dt__ h0;have d1:decide (here<(t.length:Int))=true:=dt__ h1;have hbA:Below W1.heap.size W1 (W1.alloc (.cells #[.int .i64 0,.string ⟨#[]⟩,.int .i64 0,.int .i64 0,.int .i64 0] 159)):=ab_ (Below.refl W1.heap.size W1) _;have a0:=(hbA.cell (bl__ W1 _ k0)).trans k0;have a1:=(hbA.cell (bl__ W1 _ k1)).trans k1;have a2:=(hbA.cell (bl__ W1 _ k2)).trans k2;have a3:=(hbA.cell (bl__ W1 _ k3)).trans k3;have a4:=(hbA.cell (bl__ W1 _ k4)).trans k4;have ag0:=(hbA.cell (bl__ W1 _ g0)).trans g0;have ag4:=(hbA.cell (bl__ W1 _ g4)).trans g4;have HR:=Sd.m hR;have HKB:=Sd.m hKB;have HBX:=Sd.m hbx;clear hR hKB hbx htk hgb hbA;have hmx:Tryz.prog.follows .mixedOrders=true:=by kernel_rfl
 go_cut [5] (fun s5 wx=>TokO W1 t here s5 wx)
 case first=>
  go_region_law (fail)
  all_goals
   go_wp2_with fail;go_meet;exact ⟨rfl,rfl⟩
 case rest=>
  obtain ⟨rfl,rfl⟩:=hcut;obtain ⟨W2,hW2⟩: ∃ W_,W_=(W1.alloc (.cells #[.int .i64 (ac_ t here).f0,.string (ac_ t here).f1,.int .i64 (ac_ t here).f2,.int .i64 (ac_ t here).f3,.int .i64 (ac_ t here).f4] 159)).drew:=⟨_,rfl⟩;have hb2:Below W1.heap.size W1 W2:=by
   rw [hW2];have q:=ab_ (Below.refl W1.heap.size W1) (.cells #[.int .i64 (ac_ t here).f0,.string (ac_ t here).f1,.int .i64 (ac_ t here).f2,.int .i64 (ac_ t here).f3,.int .i64 (ac_ t here).f4] 159);exact ⟨q.os,q.tape,q.output,q.size,q.block⟩
  have htb:W2.heap[W1.heap.size]? =some (.cells #[.int .i64 (ac_ t here).f0,.string (ac_ t here).f1,.int .i64 (ac_ t here).f2,.int .i64 (ac_ t here).f3,.int .i64 (ac_ t here).f4] 159 (0,0)):=by rw [hW2];exact aj_ W1 _
  rw [←hW2];clear hW2 k0 k1 k2 k3 k4 g0 g4 a0 a1 a2 a3 a4 ag0 ag4;have hR2:=HR.out.below hb2;obtain ⟨A2,cA2,hgb,_,_⟩:=hR2.cells;have g4:=bc_ hgb 4 rfl;have f4:=aa_ hgb 4;have w1:IntKind.i64.wrap (here+1)=here+1:=IntWalk.i64_in _ (by omega);have hgt:W1.heap.size≠g:=by have:=HR.out.lt;omega
  have hxn:W.heap.size≠g:=by have:=HGL.out;omega
  have t0:W2.cell? ⟨W1.heap.size,0,none⟩=some (.int .i64 12):=by rw [←HKK.out];exact (af_ htb 0).trans rfl
  have hR3:=hR2.set (here+1);have htb3:=bj_ htb (p:=⟨g,4,none⟩) hgt (.int .i64 (here+1));have hbx3:=bj_ (ag_ HBX.out hb2) (p:=⟨g,4,none⟩) hxn (.int .i64 (here+1));have hk3:KeepBut W (W2.setCell ⟨g,4,none⟩ (.int .i64 (here+1))) g none:=KeepBut.set_ ((KeepBut.of_below hb1 g none).trans (HKB.out.trans (KeepBut.of_below hb2 g none) (Or.inl rfl)) (Or.inl rfl)) 4 _;have n0:=bc_ hbx3 0 rfl;have m0:=aa_ hbx3 0;have n1:=bc_ hbx3 1 rfl;have m1:=aa_ hbx3 1;have n2:=bc_ hbx3 2 rfl;have m2:=aa_ hbx3 2;have n3:=bc_ hbx3 3 rfl;have m3:=aa_ hbx3 3;have n4:=bc_ hbx3 4 rfl;have m4:=aa_ hbx3 4;have HR3:=Sd.m hR3;have HBX3:=Sd.m hbx3;have HK3:=Sd.m hk3;clear hR2 hgb hR3 htb3 hbx3 hk3 htb hb2 HR HKB HBX;go_wp2_with fail;refine bodyPost_ret (results_cell_row rfl _ _ W.heap.size 85 #[.int .i64 3,.string ⟨#[]⟩,.int .i64 0,.int .i64 0,.slice none 0 0] (0,0) _ rfl (ej_ HBX3.out _ _ _ _ _) Tryz.underlying85 rfl (by kernel_rfl)) rfl ?_;exact ⟨_,rfl,⟨none,0,rfl,Nat.le_refl _,F_nil _ _ _⟩,fe_ HR3.out (fun e=>hxn e.symm) HW0.out _ _ _ _ _,dv_ HK3.out (Nat.le_refl _) _ _ _ _ _⟩
theorem piece_set {w0 W:World}{g:Nat}{t:List S159}{en here:Int}(h:RdAt w0 W g t en here)(h0:0<=here)(h1:here<t.length)(ht:t.length<=1000000)(hk:(ac_ t here).f0=13)(deep:Int){nd:S85}{here':Int}(hset: ∀ W:World,RdAt w0 W g t en here->Calls Tryz.prog 200 #[.pointer (some ⟨g,0,none⟩),.int .i64 deep] W (Ans w0 W g t en nd here')):
  Calls Tryz.prog 184 #[.pointer (some ⟨g,0,none⟩),.int .i64 deep] W (Ans w0 W g t en nd here'):=by
 unfold Ans;have hb1:Below W.heap.size W (W.alloc (.cells #[.int .i64 0,.string ⟨#[]⟩,.int .i64 0,.int .i64 0,.slice none 0 0] 85)):=ab_ (Below.refl W.heap.size W) _;have HGL:=Sd.m h.lt;have HW0:=Sd.m h.2.size;have HSET:=Sd.m hset;clear hset;have hR0:=h.below hb1;have HKK:=Sd.m hk;have hbx0:=aj_ W (.cells #[.int .i64 0,.string ⟨#[]⟩,.int .i64 0,.int .i64 0,.slice none 0 0] 85);obtain ⟨W1,hW1⟩: ∃ W_,W_=W.alloc (.cells #[.int .i64 0,.string ⟨#[]⟩,.int .i64 0,.int .i64 0,.slice none 0 0] 85):=⟨_,rfl⟩;have hKB0:=KeepBut.refl (W.alloc (.cells #[.int .i64 0,.string ⟨#[]⟩,.int .i64 0,.int .i64 0,.slice none 0 0] 85)) g none;rw [←hW1] at hR0 hbx0;have hKB:KeepBut (W.alloc (.cells #[.int .i64 0,.string ⟨#[]⟩,.int .i64 0,.int .i64 0,.slice none 0 0] 85)) W1 g none:=by rw [hW1];exact KeepBut.refl _ _ _
 have HR0:=Sd.m hR0;have HBX0:=Sd.m hbx0;have HKB0:=Sd.m hKB;clear hR0 hbx0 hKB hKB0 h hk;go_enter Tryz.func184,Tryz.ntmps184;go_upto_region 1 with fail;rw [←hW1];have hR:=HR0.out;have hbx:=HBX0.out;have hKB:=HKB0.out;clear hW1 HR0 HBX0 HKB0;obtain ⟨A,c,hgb,htk,hge⟩:=hR.cells;obtain ⟨ad,rfl,k0,k1,k2,k3,k4⟩:=ho_ htk hR.2 here h0 h1;have g0:=bc_ hgb 0 rfl;have g4:=bc_ hgb 4 rfl;have d0:decide ((0:Int)<=here)=true:=dt__ h0;have d1:decide (here<(t.length:Int))=true:=dt__ h1;have hbA:Below W1.heap.size W1 (W1.alloc (.cells #[.int .i64 0,.string ⟨#[]⟩,.int .i64 0,.int .i64 0,.int .i64 0] 159)):=ab_ (Below.refl W1.heap.size W1) _;have a0:=(hbA.cell (bl__ W1 _ k0)).trans k0;have a1:=(hbA.cell (bl__ W1 _ k1)).trans k1;have a2:=(hbA.cell (bl__ W1 _ k2)).trans k2;have a3:=(hbA.cell (bl__ W1 _ k3)).trans k3;have a4:=(hbA.cell (bl__ W1 _ k4)).trans k4;have ag0:=(hbA.cell (bl__ W1 _ g0)).trans g0;have ag4:=(hbA.cell (bl__ W1 _ g4)).trans g4;have HR:=Sd.m hR;have HKB:=Sd.m hKB;have HBX:=Sd.m hbx;clear hR hKB hbx htk hgb hbA;have hmx:Tryz.prog.follows .mixedOrders=true:=by kernel_rfl
 go_cut [5] (fun s5 wx=>TokO W1 t here s5 wx)
 case first=>
  go_region_law (fail)
  all_goals
   go_wp2_with fail;go_meet;exact ⟨rfl,rfl⟩
 case rest=>
  obtain ⟨rfl,rfl⟩:=hcut;obtain ⟨W2,hW2⟩: ∃ W_,W_=(W1.alloc (.cells #[.int .i64 (ac_ t here).f0,.string (ac_ t here).f1,.int .i64 (ac_ t here).f2,.int .i64 (ac_ t here).f3,.int .i64 (ac_ t here).f4] 159)).drew:=⟨_,rfl⟩;have hb2:Below W1.heap.size W1 W2:=by
   rw [hW2];have q:=ab_ (Below.refl W1.heap.size W1) (.cells #[.int .i64 (ac_ t here).f0,.string (ac_ t here).f1,.int .i64 (ac_ t here).f2,.int .i64 (ac_ t here).f3,.int .i64 (ac_ t here).f4] 159);exact ⟨q.os,q.tape,q.output,q.size,q.block⟩
  have htb:W2.heap[W1.heap.size]? =some (.cells #[.int .i64 (ac_ t here).f0,.string (ac_ t here).f1,.int .i64 (ac_ t here).f2,.int .i64 (ac_ t here).f3,.int .i64 (ac_ t here).f4] 159 (0,0)):=by rw [hW2];exact aj_ W1 _
  rw [←hW2];clear hW2 k0 k1 k2 k3 k4 g0 g4 a0 a1 a2 a3 a4 ag0 ag4;have hR2:=HR.out.below hb2;obtain ⟨A2,cA2,hgb,_,_⟩:=hR2.cells;have g4:=bc_ hgb 4 rfl;have f4:=aa_ hgb 4;have w1:IntKind.i64.wrap (here+1)=here+1:=IntWalk.i64_in _ (by omega);have hgt:W1.heap.size≠g:=by have:=HR.out.lt;omega
  have hxn:W.heap.size≠g:=by have:=HGL.out;omega
  have t0:W2.cell? ⟨W1.heap.size,0,none⟩=some (.int .i64 13):=by rw [←HKK.out];exact (af_ htb 0).trans rfl
  have HR2:=Sd.m hR2;have HBX2:=Sd.m (ag_ HBX.out hb2);have HK2:=Sd.m (HKB.out.trans (KeepBut.of_below hb2 g none) (Or.inl rfl));clear hR2 hgb hb2 htb HR HKB HBX;go_wp2_with fail;have hset:=HSET.out W2 HR2.out;refine hset.mono ?_;rintro e W3 ⟨v,rfl,⟨A3,c3,rfl,l3,hF3⟩,hR3,hK3⟩;have hbx3:=hK3.blk HBX2.out (by have:=HGL.out;omega) (by simp);have hxn:W.heap.size≠g:=by have:=HGL.out;omega
  have hk3:KeepBut W W3 g none:=(KeepBut.of_below hb1 g none).trans (HK2.out.trans hK3 (Or.inl rfl)) (Or.inl rfl);have hlt:W.heap.size<W2.heap.size:=cc_ HBX2.out;have n0:=bc_ hbx3 0 rfl;have m0:=aa_ hbx3 0;have n1:=bc_ hbx3 1 rfl;have m1:=aa_ hbx3 1;have n2:=bc_ hbx3 2 rfl;have m2:=aa_ hbx3 2;have n3:=bc_ hbx3 3 rfl;have m3:=aa_ hbx3 3;have n4:=bc_ hbx3 4 rfl;have m4:=aa_ hbx3 4;have HR3:=Sd.m hR3;have HBX3:=Sd.m hbx3;have HK3:=Sd.m hk3;have HF3:=Sd.m hF3;clear hR3 hK3 hbx3 hk3 hF3;go_wp2_with fail;refine bodyPost_ret (results_cell_row rfl _ _ W.heap.size 85 #[.int .i64 nd.f0,.string nd.f1,.int .i64 nd.f2,.int .i64 nd.f3,.slice A3 nd.f4.length c3] (0,0) _ rfl (ej_ HBX3.out _ _ _ _ _) Tryz.underlying85 rfl (by kernel_rfl)) rfl ?_;exact ⟨_,rfl,⟨A3,c3,rfl,l3,F_mono (jq_ HF3.out (fun k hk=>by omega) _ _ _ _ _) (fun k hk=>by omega)⟩,fe_ HR3.out (fun e=>hxn e.symm) HW0.out _ _ _ _ _,dv_ HK3.out (Nat.le_refl _) _ _ _ _ _⟩
theorem RdAt.c0 {w0 W:World}{g:Nat}{t:List S159}{en here:Int}(h:RdAt w0 W g t en here): ∃ A c,W.cell? ⟨g,0,none⟩=some (.slice A t.length c)∧Kd.C k159 w0 A t.length t:=by
 obtain ⟨A,c,hb,hk,_⟩:=h.cells;exact ⟨A,c,(af_ hb 0).trans rfl,hk⟩
theorem RdAt.c3 {w0 W:World}{g:Nat}{t:List S159}{en here:Int}(h:RdAt w0 W g t en here):W.cell? ⟨g,3,none⟩=some (.int .i64 0):=by
 obtain ⟨A,c,hb,_,_⟩:=h.cells;exact (af_ hb 3).trans rfl
theorem RdAt.c4 {w0 W:World}{g:Nat}{t:List S159}{en here:Int}(h:RdAt w0 W g t en here):W.cell? ⟨g,4,none⟩=some (.int .i64 here):=by
 obtain ⟨A,c,hb,_,_⟩:=h.cells;exact (af_ hb 4).trans rfl
theorem RdAt.f4 {w0 W:World}{g:Nat}{t:List S159}{en here:Int}(h:RdAt w0 W g t en here):W.frozen? ⟨g,4,none⟩=false:=by
 obtain ⟨A,c,hb,_,_⟩:=h.cells;exact aa_ hb 4
def hereOf (W:World)(g:Nat):Int:=intOf ((W.cell? ⟨g,4,none⟩).getD undef)
theorem ee_ {w0 W:World}{g:Nat}{t:List S159}{en here:Int}(h:RdAt w0 W g t en here):hereOf W g=here:=by
 unfold hereOf;rw [h.c4];rfl
def SetT (W1:World)(low:Int)(v:Value)(wx:World):Prop:=v=.pointer (some ⟨W1.heap.size,0,none⟩)∧wx=(W1.alloc (.cells #[.int .i64 4,.string ⟨#[]⟩,.int .i64 low,.int .i64 0,.slice none 0 0] 85)).drew
def SetO (w0 W:World)(g:Nat)(t:List S159)(en here h1 low:Int)(nd:S85)(n1:Nat)(W1:World):Prop:=
 KeepBut W W1 g none∧W1.heap[W.heap.size]? =some (.cells #[.int .i64 0,.string ⟨#[]⟩,.int .i64 0,.int .i64 0,.slice none 0 0] 85 (0,0))∧
 ((RdAt w0 W1 g t en (here+1)∧W1.heap[n1]? =some (.cells #[.int .i64 4,.string ⟨#[]⟩,.int .i64 low,.int .i64 0,.slice none 0 0] 85 (0,0)))∨
  (RdAt w0 W1 g t en h1∧ ∃ A c,W1.heap[n1]? =some (.cells #[.int .i64 4,.string ⟨#[]⟩,.int .i64 low,.int .i64 0,.slice A 1 c] 85 (0,0))∧1<=c∧Kd.F k85 W1 (fun k=>W.heap.size+2<=k) A 1 [nd]))
theorem set_one {w0 W:World}{g:Nat}{t:List S159}{en here:Int}(h:RdAt w0 W g t en here)(h0:0<=here)(hlt:here+1<t.length)(ht:t.length<=1000000)(deep:Int)(hd0:0<=deep)(hd1:deep<12){nd:S85}{h1:Int}
  (hpart: ∀ W:World,RdAt w0 W g t en (here+1)->Calls Tryz.prog 206 #[.pointer (some ⟨g,0,none⟩),.int .i64 (deep+1)] W (Ans w0 W g t en nd h1))
  (hk1:kdF t (here+1)≠14) (hk2:kdF t h1=14) (hh1:here+1<h1) (hh2:h1<=t.length):
  Calls Tryz.prog 200 #[.pointer (some ⟨g,0,none⟩),.int .i64 deep] W (Ans w0 W g t en ⟨4,⟨#[]⟩,(ac_ t here).f2,0,[nd]⟩ (h1+1)):=by
 unfold Ans;have hb1:Below W.heap.size W (W.alloc (.cells #[.int .i64 0,.string ⟨#[]⟩,.int .i64 0,.int .i64 0,.slice none 0 0] 85)):=ab_ (Below.refl W.heap.size W) _;have HGL:=Sd.m h.lt;have HW0:=Sd.m h.2.size;have hR0:=h.below hb1;have hbx0:=aj_ W (.cells #[.int .i64 0,.string ⟨#[]⟩,.int .i64 0,.int .i64 0,.slice none 0 0] 85);obtain ⟨W1,hW1⟩: ∃ W_,W_=W.alloc (.cells #[.int .i64 0,.string ⟨#[]⟩,.int .i64 0,.int .i64 0,.slice none 0 0] 85):=⟨_,rfl⟩;have hKB:KeepBut W W1 g none:=by rw [hW1];exact KeepBut.of_below hb1 _ _
 have hs1:W1.heap.size=W.heap.size+1:=by rw [hW1];exact Array.size_push _
 rw [←hW1] at hR0 hbx0;have dd:decide (12<=deep)=false:=df__ (by omega);have HR0:=Sd.m hR0;have HBX0:=Sd.m hbx0;have HKB0:=Sd.m hKB;have HS1:=Sd.m hs1;have HPART:=Sd.m hpart;have HK1:=Sd.m hk1;have HK2:=Sd.m hk2;clear hR0 hbx0 hKB h hs1 hpart hk1 hk2;go_enter Tryz.func200,Tryz.ntmps200;go_upto_region 4 with fail;rw [←hW1];have hR:=HR0.out;clear hW1;obtain ⟨A,c,g0,htk⟩:=hR.c0;obtain ⟨ad,rfl,k0,k1,k2,k3,k4⟩:=ho_ htk hR.2 here h0 (by omega);have g4:=hR.c4;have d0:decide ((0:Int)<=here)=true:=dt__ h0;have d1:decide (here<(t.length:Int))=true:=dt__ (by omega);have q1:here<(t.length:Int):=by omega
 have hbA:Below W1.heap.size W1 (W1.alloc (.cells #[.int .i64 0,.string ⟨#[]⟩,.int .i64 0,.int .i64 0,.slice none 0 0] 85)):=ab_ (Below.refl W1.heap.size W1) _;have a2:=(hbA.cell (bl__ W1 _ k2)).trans k2;have ag0:=(hbA.cell (bl__ W1 _ g0)).trans g0;have ag4:=(hbA.cell (bl__ W1 _ g4)).trans g4;obtain ⟨low,hlow⟩: ∃ low,low=(ac_ t here).f2:=⟨_,rfl⟩;rw [←hlow] at k2 a2;have HLOW:=Sd.m hlow;clear hR htk hbA k0 k1 k3 k4 hlow;have hmx:Tryz.prog.follows .mixedOrders=true:=by kernel_rfl
 go_cut [5] (fun s5 wx=>SetT W1 low s5 wx)
 case first=>
  go_region_law (fail)
  all_goals
   go_wp2_with fail;go_meet;exact ⟨rfl,rfl⟩
 case rest=>
  obtain ⟨rfl,rfl⟩:=hcut;clear k2 a2 ag0 ag4 g0 g4 q1;obtain ⟨W2,hW2⟩: ∃ W_,W_=(W1.alloc (.cells #[.int .i64 4,.string ⟨#[]⟩,.int .i64 low,.int .i64 0,.slice none 0 0] 85)).drew:=⟨_,rfl⟩;have hb2:Below W1.heap.size W1 W2:=by
   rw [hW2];have q:=ab_ (Below.refl W1.heap.size W1) (.cells #[.int .i64 4,.string ⟨#[]⟩,.int .i64 low,.int .i64 0,.slice none 0 0] 85);exact ⟨q.os,q.tape,q.output,q.size,q.block⟩
  have hbn:W2.heap[W1.heap.size]? =some (.cells #[.int .i64 4,.string ⟨#[]⟩,.int .i64 low,.int .i64 0,.slice none 0 0] 85 (0,0)):=by rw [hW2];exact aj_ W1 _
  rw [←hW2];obtain ⟨n1,hn1⟩: ∃ n1,n1=W1.heap.size:=⟨_,rfl⟩;rw [←hn1] at hbn ⊢;have hR2:=HR0.out.below hb2;have hbx2:=ag_ HBX0.out hb2;have hk2:=HKB0.out.trans (KeepBut.of_below hb2 g none) (Or.inl rfl);have hgn1:n1≠g:=by have:=HR0.out.lt;omega
  have hgn0:W.heap.size≠g:=by have:=HGL.out;omega
  have hn10:n1=W.heap.size+1:=by have:=HS1.out;omega
  have g4:=hR2.c4;have f4:=hR2.f4;have w1:IntKind.i64.wrap (here+1)=here+1:=IntWalk.i64_in _ (by omega);have hO:SetO w0 W g t en here h1 low nd n1 (W2.setCell ⟨g,4,none⟩ (.int .i64 (here+1))):=⟨hk2.set_ 4 _,bj_ hbx2 (p:=⟨g,4,none⟩) hgn0 _,Or.inl ⟨hR2.set (here+1),bj_ hbn (p:=⟨g,4,none⟩) hgn1 _⟩⟩;have HO:=Sd.m hO;have HN10:=Sd.m hn10;clear hW2 hb2 hbn hR2 hbx2 hk2 hO hn1 hn10 HR0 HBX0 HKB0 HS1;go_wp2_with fail;go_loopw [] (fun Wx=>SetO w0 W g t en here h1 low nd n1 Wx) (fun Wx=>((t.length:Int)+1 - hereOf Wx g).toNat)
  case atStart=>exact HO.out
  case round=>
   obtain ⟨hK,hres,hst⟩:=hrel;rcases hst with ⟨hS,hn⟩ | ⟨hS,A,c,hn,hc1,hF⟩
   ·have c3:=hS.c3;have hho:=ee_ hS;have HHO:=Sd.m hho;have bk:(kdF t (here+1) != 14)=true:=by simpa using HK1.out
    have hkc:=bz_ hS (by omega);have HKC:=Sd.m hkc;have HKw:=Sd.m hK;have HRES:=Sd.m hres;have HN:=Sd.m hn;clear hS hkc hK hres hn hho;go_wp2_with fail;refine HKC.out.mono ?_;rintro e V1 ⟨rfl,hS1,hK1⟩;have HS1:=Sd.m hS1;have HKw1:=Sd.m hK1;clear hS1 hK1 c3;go_wp2_with fail;refine (HPART.out V1 HS1.out).mono ?_;rintro e V2 ⟨v,rfl,⟨A3,c3,rfl,l3,hF3⟩,hS2,hK2⟩;have HS2:=Sd.m hS2;have HKw2:=Sd.m hK2;have HF3:=Sd.m hF3;clear hS2 hK2 hF3;go_wp2_with fail;have hb3:Below V2.heap.size V2 (V2.alloc (.cells #[.int .i64 nd.f0,.string nd.f1,.int .i64 nd.f2,.int .i64 nd.f3,.slice A3 nd.f4.length c3] 85)):=ab_ (Below.refl V2.heap.size V2) _;have hS3:=HS2.out.below hb3;have hbx3:=aj_ V2 (.cells #[.int .i64 nd.f0,.string nd.f1,.int .i64 nd.f2,.int .i64 nd.f3,.slice A3 nd.f4.length c3] 85);have hK3:=HKw.out.trans (HKw1.out.trans (HKw2.out.trans (KeepBut.of_below hb3 g none) (Or.inl rfl)) (Or.inl rfl)) (Or.inl rfl);have hres3:=(HKw1.out.trans (HKw2.out.trans (KeepBut.of_below hb3 g none) (Or.inl rfl)) (Or.inl rfl)).blk HRES.out hgn0 (by simp);have hn3:=(HKw1.out.trans (HKw2.out.trans (KeepBut.of_below hb3 g none) (Or.inl rfl)) (Or.inl rfl)).blk HN.out hgn1 (by simp);have hF4:=F_below HF3.out hb3;have hlo:W.heap.size+2<=V1.heap.size:=by have:=cc_ (HKw1.out.blk HN.out hgn1 (by simp));have:=HN10.out;omega
    have hlo2:V1.heap.size<=V2.heap.size:=HKw2.out.1;obtain ⟨V3,hV3⟩: ∃ W_,W_=V2.alloc (.cells #[.int .i64 nd.f0,.string nd.f1,.int .i64 nd.f2,.int .i64 nd.f3,.slice A3 nd.f4.length c3] 85):=⟨_,rfl⟩;rw [←hV3] at hS3 hbx3 hK3 hres3 hn3 hF4 ⊢;have hv3:V3.heap.size=V2.heap.size+1:=by rw [hV3];exact Array.size_push _
    have HS3:=Sd.m hS3;have HBX3:=Sd.m hbx3;have HK3:=Sd.m hK3;have HRES3:=Sd.m hres3;have HN3:=Sd.m hn3;have HF4:=Sd.m hF4;have HV3:=Sd.m hv3;have HLO:=Sd.m hlo;have HLO2:=Sd.m hlo2;clear hb3 hS3 hbx3 hK3 hres3 hn3 hF4 hV3 hv3 HS1 HS2 HKw HKw1 HKw2 HRES HN HF3 hlo hlo2 HKC;go_loopw [] (fun Wx=>RdAt w0 Wx g t en h1∧KeepBut V3 Wx g none) (fun _=>0)
    case atStart=>exact ⟨HS3.out,KeepBut.refl _ _ _⟩
    case round=>
     obtain ⟨hSx,hKx⟩:=hrel;have c3:=hSx.c3;have hkc:=bz_ hSx (by omega);rw [HK2.out] at hkc;have HKC:=Sd.m hkc;have HKx:=Sd.m hKx;clear hSx hKx hkc;go_wp2_with fail;refine HKC.out.mono ?_;rintro e U1 ⟨rfl,hSx,hKx1⟩;have hkc:=bz_ hSx (by omega);rw [HK2.out] at hkc;have HKC2:=Sd.m hkc;have HKx1:=Sd.m hKx1;clear hSx hKx1 hkc c3;go_wp2_with fail;refine HKC2.out.mono ?_;rintro e V4 ⟨rfl,hS4,hKx2⟩;have hK34:=HKx.out.trans (HKx1.out.trans hKx2 (Or.inl rfl)) (Or.inl rfl);have hb4:=hK34.blk HBX3.out (by have:=HLO.out;have:=HLO2.out;have:=HGL.out;omega) (by simp);have hn4:=hK34.blk HN3.out hgn1 (by simp);have hres4:=hK34.blk HRES3.out hgn0 (by simp);have b0:=bc_ hb4 0 rfl;have b1:=bc_ hb4 1 rfl;have b2:=bc_ hb4 2 rfl;have b3:=bc_ hb4 3 rfl;have b4:=bc_ hb4 4 rfl;have q4:=bc_ hn4 4 rfl;have hlt4:=hK34.1;have hFK:Kd.FK k85 V4 (fun k=>W.heap.size+2<=k) nd [.int .i64 nd.f0,.string nd.f1,.int .i64 nd.f2,.int .i64 nd.f3,.slice A3 nd.f4.length c3]:=
      jx_ V4 _ nd l3 (F_mono (F_keep (F_mono HF4.out (ok':=fun k=>W.heap.size+2<=k) (fun k hk=>by have:=HLO.out;omega)) hK34 (fun k hk=>by have:=HGL.out;omega)) (fun k hk=>hk))
     have HS4:=Sd.m hS4;have HK34:=Sd.m hK34;have HN4:=Sd.m hn4;have HRES4:=Sd.m hres4;have HFK:=Sd.m hFK;have HL4:=Sd.m hlt4;have HFR:=Sd.m (show ∀ k,V4.heap.size<=k->W.heap.size+2<=k from fun k hk=>by have:=HV3.out;have:=HLO.out;have:=HLO2.out;have:=HL4.out;omega);clear hS4 hKx2 hK34 hb4 hn4 hres4 hFK hlt4 HKC HKC2;go_wp2_with (at_builtin;refine N_append k85 (w0:=w0) (W:=V4) w0.heap.size rfl _ _ 83 85 (.agg #[.int .i64 0,.string ⟨#[]⟩,.int .i64 0,.int .i64 0,.slice none 0 0]) 64 rfl Tryz.underlying83 (by kernel_rfl) rfl (by decide) (by decide) (.slice none 0 0) [] nd [.int .i64 nd.f0,.string nd.f1,.int .i64 nd.f2,.int .i64 nd.f3,.slice A3 nd.f4.length c3] (fun k=>W.heap.size+2<=k) (fun k=>W.heap.size+2<=k) rfl rfl HFK.out (fun k hk=>⟨hk,by simp [Value.ownBlock]⟩) HFR.out (N_nil _ _ _ _ _) HS4.out.2 HS4.out.2.size (by decide) ?_;intro v5 V5 hNx hB5 hg5 hat5;obtain ⟨A5,c5,rfl⟩:=N_slice hNx;have hn5:=cl_ HN4.out hg5 (by simp [Value.ownBlock]);have x5:V5.cell? ⟨n1,4,none⟩=some (.slice none 0 0):=(af_ hn5 4).trans rfl;have y5:V5.frozen? ⟨n1,4,none⟩=false:=aa_ hn5 4;have HNX:=Sd.m hNx;have HG5:=Sd.m hg5;have HN5:=Sd.m hn5;have HB5:=Sd.m hB5;clear hNx hg5 hn5 hB5 hat5);have hK5:=HK3.out.trans (HK34.out.trans (KeepBut.lx_ HG5.out g) (Or.inl rfl)) (Or.inl rfl);have hres5:=cl_ HRES4.out HG5.out (by simp [Value.ownBlock]);obtain ⟨_,_,hb117⟩:=HS4.out.1;have hS5:RdAt w0 V5 g t en h1:=⟨HS4.out.1.grown HG5.out (by simp [Value.ownBlock]),HB5.out⟩;have hn1w:W.heap.size<=n1:=by have:=HN10.out;omega
     have hw1:w0.heap.size<=n1:=by have:=HW0.out;omega
     have hS6:=hS5.far (p:=⟨n1,4,none⟩) (fun e=>hgn1 e.symm) hw1 (.slice A5 1 c5);go_roundw
     case rel=>
      refine ⟨ef_ (p:=⟨n1,4,none⟩) hK5 hn1w _,bj_ hres5 (p:=⟨n1,4,none⟩) (by have:=HN10.out;show W.heap.size≠n1;omega) _,Or.inr ⟨hS6,A5,c5,?_,?_,?_⟩⟩
      ·simpa using eb_ HN5.out 4 _
      ·exact (N_reads' HNX.out).2.1
      ·exact F_far (p:=⟨n1,4,none⟩) (N_F HNX.out) (fun k hk=>by have:=HN10.out;show k≠n1;omega) _
     case measure=>rw [ee_ hS6,HHO.out];omega
   ·have c3:=hS.c3;have hkc:=bz_ hS (by omega);rw [HK2.out] at hkc;have HKC:=Sd.m hkc;have HKw:=Sd.m hK;have HRES:=Sd.m hres;have HN:=Sd.m hn;have HF:=Sd.m hF;clear hS hkc hK hres hn hF;go_wp2_with fail;refine HKC.out.mono ?_;rintro e Wv ⟨rfl,hSv,hKv⟩;have g4:=hSv.c4;have f4:=hSv.f4;have w1:IntKind.i64.wrap (h1+1)=h1+1:=IntWalk.i64_in _ (by omega);have hres3:=bj_ (hKv.blk HRES.out hgn0 (by simp)) (p:=⟨g,4,none⟩) hgn0 (.int .i64 (h1+1));have hn3:=bj_ (hKv.blk HN.out hgn1 (by simp)) (p:=⟨g,4,none⟩) hgn1 (.int .i64 (h1+1));have hS3:=hSv.set (h1+1);have hK3:=(HKw.out.trans hKv (Or.inl rfl)).set_ 4 (.int .i64 (h1+1));have hlo:=HN10.out;have hF3:=F_far (p:=⟨g,4,none⟩) (F_keep HF.out hKv (fun k hk=>by have:=HGL.out;omega)) (fun k hk=>by have:=HGL.out;show k≠g;omega) (.int .i64 (h1+1));have b0:=bc_ hres3 0 rfl;have m0:=aa_ hres3 0;have b1:=bc_ hres3 1 rfl;have m1:=aa_ hres3 1;have b2:=bc_ hres3 2 rfl;have m2:=aa_ hres3 2;have b3:=bc_ hres3 3 rfl;have m3:=aa_ hres3 3;have b4:=bc_ hres3 4 rfl;have m4:=aa_ hres3 4;have p0:=bc_ hn3 0 rfl;have p1:=bc_ hn3 1 rfl;have p2:=bc_ hn3 2 rfl;have p3:=bc_ hn3 3 rfl;have p4:=bc_ hn3 4 rfl;have HS3:=Sd.m hS3;have HK3:=Sd.m hK3;have HRES3:=Sd.m hres3;have HF3:=Sd.m hF3;clear hS3 hK3 hres3 hn3 hF3 hSv hKv hlo c3;go_wp2_with fail;refine bodyPost_ret (results_cell_row rfl _ _ W.heap.size 85 #[.int .i64 4,.string ⟨#[]⟩,.int .i64 low,.int .i64 0,.slice A 1 c] (0,0) _ rfl (ej_ HRES3.out _ _ _ _ _) Tryz.underlying85 rfl (by kernel_rfl)) rfl ?_;refine ⟨_,rfl,⟨A,c,by rw [←HLOW.out];rfl,hc1,F_mono (jq_ HF3.out (fun k hk=>by omega) _ _ _ _ _) (fun k hk=>by omega)⟩,fe_ HS3.out (fun e=>hgn0 e.symm) HW0.out _ _ _ _ _,dv_ HK3.out (Nat.le_refl _) _ _ _ _ _⟩
theorem F_one {α:Type}{d:Kd α}{W:World}{ok:Nat->Prop}{m:Nat}{cs:List Value}{ty:TypeId}{x:α}(hb:W.heap[m]? =some (.cells cs.toArray ty (0,0)))(hm:ok m)(hF:FK d W ok x cs):Kd.F d W ok (some ⟨m,0,none⟩) 1 [x]:=by
 intro W' hW;have hb':W'.heap[m]? =some (.cells cs.toArray ty (0,0)):=(hW m hm (cc_ hb)).trans hb;have hK:=hF W' hW;refine hw_ (d.K_len hK) hK (fun i u hi=>?_);have e:(Addr.add ⟨m,0,none⟩ i)=⟨m,i,none⟩:=by simp [Addr.add];exact fun h=>h.symm
 rw [e,af_ hb' i];simpa using hi
def JoO (w0 W:World)(g:Nat)(t:List S159)(en here h2:Int)(nd:S85)(s5:Value)(Wx:World):Prop:=
 KeepBut W Wx g none∧Wx.heap[W.heap.size]? =some (.cells #[.int .i64 0,.string ⟨#[]⟩,.int .i64 0,.int .i64 0,.slice none 0 0] 85 (0,0))∧
 ((s5=.slice none 0 0∧RdAt w0 Wx g t en here)∨(RdAt w0 Wx g t en h2∧ ∃ A c,s5=.slice A 1 c∧1<=c∧Kd.F k85 Wx (fun k=>W.heap.size+1<=k) A 1 [nd]))
theorem join_none {w0 W:World}{g:Nat}{t:List S159}{en here:Int}(h:RdAt w0 W g t en here)(h0:0<=here)(hlt:here<=t.length)(ht:t.length<=1000000)(deep:Int)(hb:be_.f (kdF t here)=some false):
  Calls Tryz.prog 165 #[.pointer (some ⟨g,0,none⟩),.int .i64 deep] W (Ans w0 W g t en ⟨1,⟨#[]⟩,0,0,[]⟩ here):=by
 unfold Ans;have hb1:Below W.heap.size W (W.alloc (.cells #[.int .i64 0,.string ⟨#[]⟩,.int .i64 0,.int .i64 0,.slice none 0 0] 85)):=ab_ (Below.refl W.heap.size W) _;have HGL:=Sd.m h.lt;have HW0:=Sd.m h.2.size;have hgn0:W.heap.size≠g:=by have:=HGL.out;omega
 have HR0:=Sd.m (h.below hb1);have HBX0:=Sd.m (aj_ W (.cells #[.int .i64 0,.string ⟨#[]⟩,.int .i64 0,.int .i64 0,.slice none 0 0] 85));have HKB0:=Sd.m (KeepBut.of_below hb1 g none);have HBE:=Sd.m hb;clear h hb;go_enter Tryz.func165,Tryz.ntmps165;go_wp2_with fail;go_loopw [5] (fun s5 Wx=>s5=.slice none 0 0∧RdAt w0 Wx g t en here∧KeepBut W Wx g none∧Wx.heap[W.heap.size]? =some (.cells #[.int .i64 0,.string ⟨#[]⟩,.int .i64 0,.int .i64 0,.slice none 0 0] 85 (0,0))) (fun _ _=>0)
 case atStart=>exact ⟨rfl,HR0.out,HKB0.out,HBX0.out⟩
 case round=>
  obtain ⟨rfl,hS,hK,hres⟩:=hrel;have c3:=hS.c3;have HKC:=Sd.m (bz_ hS h0);have HK:=Sd.m hK;have HRES:=Sd.m hres;clear hS hK hres;go_wp2_with fail;refine HKC.out.mono ?_;rintro e V1 ⟨rfl,hS1,hK1⟩;have HS1:=Sd.m hS1;have HK1:=Sd.m hK1;clear hS1 hK1 c3;go_wp2_with fail;refine (be_.calls _ false _ HBE.out).mono ?_;rintro e Wd ⟨rfl,⟨nd,rfl⟩⟩;obtain ⟨Wv,hWv⟩: ∃ W_,W_=V1.drewN nd:=⟨_,rfl⟩;have hbv:Below V1.heap.size V1 Wv:=by rw [hWv];exact ad_ (Below.refl _ _) nd
  have HSv:=Sd.m (HS1.out.below hbv);have hKv:=HK.out.trans (HK1.out.trans (KeepBut.of_below hbv g none) (Or.inl rfl)) (Or.inl rfl);have HKv:=Sd.m hKv;have hrv:=(HK1.out.trans (KeepBut.of_below hbv g none) (Or.inl rfl)).blk HRES.out hgn0 (by simp);have HRv:=Sd.m hrv;have HSZ:=Sd.m (show W.heap.size+1<=Wv.heap.size from cc_ hrv);have HV:=Sd.m (show Kd.V k85 85 Wv Wv.heap.size (fun k=>W.heap.size+1<=k) (.slice none ([]:List S85).length 0) [] from V_nil _ _ _ _ _);rw [←hWv];clear hWv hbv hKv hrv;go_wp2_with fail;refine (cv_.calls 8 (fun k=>W.heap.size+1<=k) none 0 [] 1 ⟨#[]⟩ 0 0 [] Wv HV.out (by rfl)).mono ?_;rintro e Wy ⟨v4,rfl,hVy,hby⟩;obtain ⟨A4,c4,rfl,l4,hF4⟩:=hVy;have hSy:=HSv.out.below hby;have hKy:=HKv.out.trans (KeepBut.of_below hby g none) (Or.inl rfl);have hry:=ag_ HRv.out hby;have hF4:=F_mono hF4 (ok':=fun k=>W.heap.size+1<=k) (fun k hk=>by have:=HSZ.out;rcases hk with hk | hk <;> omega);have b0:=bc_ hry 0 rfl;have m0:=aa_ hry 0;have b1:=bc_ hry 1 rfl;have m1:=aa_ hry 1;have b2:=bc_ hry 2 rfl;have m2:=aa_ hry 2;have b3:=bc_ hry 3 rfl;have m3:=aa_ hry 3;have b4:=bc_ hry 4 rfl;have m4:=aa_ hry 4;have HSY:=Sd.m hSy;have HKY:=Sd.m hKy;have HRY:=Sd.m hry;have HFY:=Sd.m hF4;clear hSy hKy hry hF4 hby;go_wp2_with fail;refine bodyPost_ret (results_cell_row rfl _ _ W.heap.size 85 #[.int .i64 1,.string ⟨#[]⟩,.int .i64 0,.int .i64 0,.slice A4 ([]:List S85).length c4] (0,0) _ rfl (ej_ HRY.out _ _ _ _ _) Tryz.underlying85 rfl (by kernel_rfl)) rfl ?_;exact ⟨_,rfl,⟨A4,c4,rfl,l4,F_mono (jq_ HFY.out (fun k hk=>by omega) _ _ _ _ _) (fun k hk=>by omega)⟩,fe_ HSY.out (fun e=>hgn0 e.symm) HW0.out _ _ _ _ _,dv_ HKY.out (Nat.le_refl _) _ _ _ _ _⟩
theorem join_one {w0 W:World}{g:Nat}{t:List S159}{en here:Int}(h:RdAt w0 W g t en here)(h0:0<=here)(hlt:here<=t.length)(ht:t.length<=1000000)(deep:Int){nd:S85}{h1:Int}(hb:be_.f (kdF t here)=some true)(hpiece: ∀ W:World,RdAt w0 W g t en here->Calls Tryz.prog 184 #[.pointer (some ⟨g,0,none⟩),.int .i64 deep] W (Ans w0 W g t en nd h1))(hh1:here<h1)(hh2:h1+1<=t.length+1)(hk:¬ (9<=kdF t h1∧kdF t h1<=11))(hb2:be_.f (kdF t h1)=some false):
  Calls Tryz.prog 165 #[.pointer (some ⟨g,0,none⟩),.int .i64 deep] W (Ans w0 W g t en nd h1):=by
 unfold Ans;have hb1:Below W.heap.size W (W.alloc (.cells #[.int .i64 0,.string ⟨#[]⟩,.int .i64 0,.int .i64 0,.slice none 0 0] 85)):=ab_ (Below.refl W.heap.size W) _;have HGL:=Sd.m h.lt;have HW0:=Sd.m h.2.size;have hgn0:W.heap.size≠g:=by have:=HGL.out;omega
 have HR0:=Sd.m (h.below hb1);have HBX0:=Sd.m (aj_ W (.cells #[.int .i64 0,.string ⟨#[]⟩,.int .i64 0,.int .i64 0,.slice none 0 0] 85));have HKB0:=Sd.m (KeepBut.of_below hb1 g none);have HBE:=Sd.m hb;have HBE2:=Sd.m hb2;have HP:=Sd.m hpiece;have HKD:=Sd.m hk;obtain ⟨nx,hnx⟩: ∃ nx:S85,nx=nd:=⟨_,rfl⟩;rw [←hnx];have HNX:=Sd.m hnx;clear h hb hb2 hpiece hk hnx;go_enter Tryz.func165,Tryz.ntmps165;go_wp2_with fail;go_loopw [5] (fun s5 Wx=>JoO w0 W g t en here h1 nx s5 Wx) (fun _ Wx=>((t.length:Int)+1 - hereOf Wx g).toNat)
 case atStart=>exact ⟨HKB0.out,HBX0.out,Or.inl ⟨rfl,HR0.out⟩⟩
 case round=>
  obtain ⟨hK,hres,hst⟩:=hrel;rcases hst with ⟨rfl,hS⟩ | ⟨hS,A,c,rfl,hc1,hF⟩
  ·have c3:=hS.c3;have HHO:=Sd.m (ee_ hS);have HKC:=Sd.m (bz_ hS h0);have HK:=Sd.m hK;have HRES:=Sd.m hres;clear hS hK hres;go_wp2_with fail;refine HKC.out.mono ?_;rintro e V1 ⟨rfl,hS1,hK1⟩;have HS1:=Sd.m hS1;have HK1:=Sd.m hK1;clear hS1 hK1 c3;go_wp2_with fail;refine (be_.calls _ true _ HBE.out).mono ?_;rintro e Wd ⟨rfl,⟨nd_,rfl⟩⟩;obtain ⟨V2,hV2⟩: ∃ W_,W_=V1.drewN nd_:=⟨_,rfl⟩;have hb2:Below V1.heap.size V1 V2:=by rw [hV2];exact ad_ (Below.refl _ _) nd_
   rw [←hV2];have HS2:=Sd.m (HS1.out.below hb2);have HK2:=Sd.m (HK1.out.trans (KeepBut.of_below hb2 g none) (Or.inl rfl));clear hV2 hb2 HS1 HK1;go_wp2_with fail;refine (HP.out V2 HS2.out).mono ?_;rintro e V3 ⟨v,rfl,⟨A3,c3,rfl,l3,hF3⟩,hS3,hK3⟩;have HS3:=Sd.m hS3;have HK3:=Sd.m (HK2.out.trans hK3 (Or.inl rfl));have HK23:=Sd.m hK3;have HF3:=Sd.m hF3;clear hS3 hK3 hF3;have hb4:Below V3.heap.size V3 (V3.alloc (.cells #[.int .i64 nd.f0,.string nd.f1,.int .i64 nd.f2,.int .i64 nd.f3,.slice A3 nd.f4.length c3] 85)):=ab_ (Below.refl V3.heap.size V3) _;have HS4:=Sd.m (HS3.out.below hb4);have HB4:=Sd.m (aj_ V3 (.cells #[.int .i64 nd.f0,.string nd.f1,.int .i64 nd.f2,.int .i64 nd.f3,.slice A3 nd.f4.length c3] 85));have HK4:=Sd.m (HK3.out.trans (KeepBut.of_below hb4 g none) (Or.inl rfl));have HF4:=Sd.m (F_below (F_bound HF3.out) hb4);have HL2:=Sd.m (show W.heap.size+1<=V2.heap.size from cc_ (HK2.out.blk HRES.out hgn0 (by simp)));have HL3:=Sd.m (show V2.heap.size<=V3.heap.size from HK23.out.1);have hkc:=bz_ HS4.out (by omega);have HKC4:=Sd.m hkc;clear hkc hb4 HS3 HK3 HK23 HF3 HKC HS2 HK2;go_wp2_with fail;refine HKC4.out.mono ?_;rintro e V5 ⟨rfl,hS5,hK5⟩;have hk5:=HK4.out.trans hK5 (Or.inl rfl);have hbx5:=hK5.blk HB4.out (by have:=HL2.out;have:=HL3.out;have:=HGL.out;omega) (by simp);have hF5:=F_keep (F_mono HF4.out (ok':=fun k=>W.heap.size+1<=k) (fun k hk=>by have:=HL2.out;omega)) hK5 (fun k hk=>by have:=HGL.out;omega);have c3':=hS5.c3;have hl5:V3.heap.size+1<=V5.heap.size:=cc_ hbx5;have bq:(decide (9<=kdF t h1) && decide (kdF t h1<=11))=false:=by
    have:=HKD.out;by_cases q1:9<=kdF t h1 <;> by_cases q2:kdF t h1<=11 <;> simp [q1,q2];exact this ⟨q1,q2⟩
   have b0:=bc_ hbx5 0 rfl;have b1:=bc_ hbx5 1 rfl;have b2:=bc_ hbx5 2 rfl;have b3:=bc_ hbx5 3 rfl;have b4:=bc_ hbx5 4 rfl;have hFK:Kd.FK k85 V5 (fun k=>W.heap.size+1<=k) nd [.int .i64 nd.f0,.string nd.f1,.int .i64 nd.f2,.int .i64 nd.f3,.slice A3 nd.f4.length c3]:=jx_ V5 _ nd l3 hF5;have HS5:=Sd.m hS5;have HK5:=Sd.m hk5;have HFK:=Sd.m hFK;have HRES5:=Sd.m (hk5.blk HRES.out hgn0 (by simp));have HFR:=Sd.m (show ∀ k,V5.heap.size<=k->W.heap.size+1<=k from fun k hk=>by have:=HL2.out;have:=HL3.out;omega);have HQ:(decide (9<=kdF t h1)=false)∨(decide (9<=kdF t h1)=true∧decide (kdF t h1<=11)=false):=by
    have:=HKD.out;by_cases q1:9<=kdF t h1
    ·exact Or.inr ⟨dt__ q1,df__ (fun q2=>this ⟨q1,q2⟩)⟩
    ·exact Or.inl (df__ q1)
   have HQ:=Sd.m HQ;have HHE:=Sd.m hh1;clear hS5 hK5 hk5 hbx5 hF5 hFK hl5 HKC4 bq;rcases HQ.out with qa | ⟨qa,qb⟩
   all_goals
    go_wp2_with (at_builtin;refine N_append k85 (w0:=w0) (W:=V5) w0.heap.size rfl _ _ 83 85 (.agg #[.int .i64 0,.string ⟨#[]⟩,.int .i64 0,.int .i64 0,.slice none 0 0]) 64 rfl Tryz.underlying83 (by kernel_rfl) rfl (by decide) (by decide) (.slice none 0 0) [] nd [.int .i64 nd.f0,.string nd.f1,.int .i64 nd.f2,.int .i64 nd.f3,.slice A3 nd.f4.length c3] (fun k=>W.heap.size+1<=k) (fun k=>W.heap.size+1<=k) rfl rfl HFK.out (fun k hk=>⟨hk,by simp [Value.ownBlock]⟩) HFR.out (N_nil _ _ _ _ _) HS5.out.2 HS5.out.2.size (by decide) ?_;intro v5 V7 hNx hB7 hg7 hat7;obtain ⟨A5,c5,rfl⟩:=N_slice hNx;have HNX7:=Sd.m hNx;have HG7:=Sd.m hg7;have HB7:=Sd.m hB7;clear hNx hg7 hB7 hat7);go_roundw
    case rel=>
     refine ⟨HK.out.trans (HK5.out.trans (KeepBut.lx_ HG7.out g) (Or.inl rfl)) (Or.inl rfl),cl_ HRES5.out HG7.out (by simp [Value.ownBlock]),Or.inr ⟨⟨HS5.out.1.grown HG7.out (by simp [Value.ownBlock]),HB7.out⟩,A5,c5,rfl,(N_reads' HNX7.out).2.1,?_⟩⟩;rw [HNX.out];exact N_F HNX7.out
    case measure=>
     have hS7:RdAt w0 V7 g t en h1:=⟨HS5.out.1.grown HG7.out (by simp [Value.ownBlock]),HB7.out⟩;rw [ee_ hS7,HHO.out];omega
  ·have c3:=hS.c3;have HKC:=Sd.m (bz_ hS (by omega));have HK:=Sd.m hK;have HRES:=Sd.m hres;have HF:=Sd.m hF;clear hS hK hres hF;go_wp2_with fail;refine HKC.out.mono ?_;rintro e V1 ⟨rfl,hS1,hK1⟩;have HS1:=Sd.m hS1;have HK1:=Sd.m hK1;clear hS1 hK1 c3;go_wp2_with fail;refine (be_.calls _ false _ HBE2.out).mono ?_;rintro e Wd ⟨rfl,⟨nd_,rfl⟩⟩;obtain ⟨Wv,hWv⟩: ∃ W_,W_=V1.drewN nd_:=⟨_,rfl⟩;have hbv:Below V1.heap.size V1 Wv:=by rw [hWv];exact ad_ (Below.refl _ _) nd_
   have HSv:=Sd.m (HS1.out.below hbv);have hK1v:=HK1.out.trans (KeepBut.of_below hbv g none) (Or.inl rfl);have hKv:=HK.out.trans hK1v (Or.inl rfl);have HKv:=Sd.m hKv;have hrv:=hK1v.blk HRES.out hgn0 (by simp);have HRv:=Sd.m hrv;have HSZ:=Sd.m (show W.heap.size+1<=Wv.heap.size from cc_ hrv);have HV:=Sd.m (show Kd.V k85 85 Wv Wv.heap.size (fun k=>W.heap.size+1<=k) (.slice A [nx].length c) [nx] from ⟨A,c,rfl,hc1,F_keep HF.out hK1v (fun k hk=>by have:=HGL.out;omega)⟩);rw [←hWv];clear hWv hbv hKv hrv hK1v;go_wp2_with fail;refine (cv_.calls 8 (fun k=>W.heap.size+1<=k) A c [nx] nx.f0 nx.f1 nx.f2 nx.f3 nx.f4 Wv HV.out (by rfl)).mono ?_;rintro e Wy ⟨v4,rfl,hVy,hby⟩;obtain ⟨A4,c4,rfl,l4,hF4⟩:=hVy;have hSy:=HSv.out.below hby;have hKy:=HKv.out.trans (KeepBut.of_below hby g none) (Or.inl rfl);have hry:=ag_ HRv.out hby;have hF4:=F_mono hF4 (ok':=fun k=>W.heap.size+1<=k) (fun k hk=>by have:=HSZ.out;rcases hk with hk | hk <;> omega);have b0:=bc_ hry 0 rfl;have m0:=aa_ hry 0;have b1:=bc_ hry 1 rfl;have m1:=aa_ hry 1;have b2:=bc_ hry 2 rfl;have m2:=aa_ hry 2;have b3:=bc_ hry 3 rfl;have m3:=aa_ hry 3;have b4:=bc_ hry 4 rfl;have m4:=aa_ hry 4;have HSY:=Sd.m hSy;have HKY:=Sd.m hKy;have HRY:=Sd.m hry;have HFY:=Sd.m hF4;clear hSy hKy hry hF4 hby;go_wp2_with fail;refine bodyPost_ret (results_cell_row rfl _ _ W.heap.size 85 #[.int .i64 nx.f0,.string nx.f1,.int .i64 nx.f2,.int .i64 nx.f3,.slice A4 nx.f4.length c4] (0,0) _ rfl (ej_ HRY.out _ _ _ _ _) Tryz.underlying85 rfl (by kernel_rfl)) rfl ?_;exact ⟨_,rfl,⟨A4,c4,rfl,l4,F_mono (jq_ HFY.out (fun k hk=>by omega) _ _ _ _ _) (fun k hk=>by omega)⟩,fe_ HSY.out (fun e=>hgn0 e.symm) HW0.out _ _ _ _ _,dv_ HKY.out (Nat.le_refl _) _ _ _ _ _⟩
theorem join_star {w0 W:World}{g:Nat}{t:List S159}{en here:Int}(h:RdAt w0 W g t en here)(h0:0<=here)(hlt:here<=t.length)(ht:t.length<=1000000)(deep:Int){nd:S85}{h1:Int}(hb:be_.f (kdF t here)=some true)(hpiece: ∀ W:World,RdAt w0 W g t en here->Calls Tryz.prog 184 #[.pointer (some ⟨g,0,none⟩),.int .i64 deep] W (Ans w0 W g t en nd h1))(hh1:here<h1)(hh2:h1+1<=t.length+1)(hk:kdF t h1=9)(hb2:be_.f (kdF t (h1+1))=some false)(hh3:h1+1<=t.length):
  Calls Tryz.prog 165 #[.pointer (some ⟨g,0,none⟩),.int .i64 deep] W (Ans w0 W g t en ⟨10,⟨#[]⟩,0,0,[nd]⟩ (h1+1)):=by
 unfold Ans;have hb1:Below W.heap.size W (W.alloc (.cells #[.int .i64 0,.string ⟨#[]⟩,.int .i64 0,.int .i64 0,.slice none 0 0] 85)):=ab_ (Below.refl W.heap.size W) _;have HGL:=Sd.m h.lt;have HW0:=Sd.m h.2.size;have hgn0:W.heap.size≠g:=by have:=HGL.out;omega
 have HR0:=Sd.m (h.below hb1);have HBX0:=Sd.m (aj_ W (.cells #[.int .i64 0,.string ⟨#[]⟩,.int .i64 0,.int .i64 0,.slice none 0 0] 85));have HKB0:=Sd.m (KeepBut.of_below hb1 g none);have HBE:=Sd.m hb;have HBE2:=Sd.m hb2;have HP:=Sd.m hpiece;have HKD:=Sd.m hk;obtain ⟨nx,hnx⟩: ∃ nx:S85,nx=⟨10,⟨#[]⟩,0,0,[nd]⟩:=⟨_,rfl⟩;rw [←hnx];have HNX:=Sd.m hnx;clear h hb hb2 hpiece hk hnx;go_enter Tryz.func165,Tryz.ntmps165;go_wp2_with fail;go_loopw [5] (fun s5 Wx=>JoO w0 W g t en here (h1+1) nx s5 Wx) (fun _ Wx=>((t.length:Int)+1 - hereOf Wx g).toNat)
 case atStart=>exact ⟨HKB0.out,HBX0.out,Or.inl ⟨rfl,HR0.out⟩⟩
 case round=>
  obtain ⟨hK,hres,hst⟩:=hrel;rcases hst with ⟨rfl,hS⟩ | ⟨hS,A,c,rfl,hc1,hF⟩
  ·have c3:=hS.c3;have HHO:=Sd.m (ee_ hS);have HKC:=Sd.m (bz_ hS h0);have HK:=Sd.m hK;have HRES:=Sd.m hres;clear hS hK hres;go_wp2_with fail;refine HKC.out.mono ?_;rintro e V1 ⟨rfl,hS1,hK1⟩;have HS1:=Sd.m hS1;have HK1:=Sd.m hK1;clear hS1 hK1 c3;go_wp2_with fail;refine (be_.calls _ true _ HBE.out).mono ?_;rintro e Wd ⟨rfl,⟨nd_,rfl⟩⟩;obtain ⟨V2,hV2⟩: ∃ W_,W_=V1.drewN nd_:=⟨_,rfl⟩;have hb2:Below V1.heap.size V1 V2:=by rw [hV2];exact ad_ (Below.refl _ _) nd_
   rw [←hV2];have HS2:=Sd.m (HS1.out.below hb2);have HK2:=Sd.m (HK1.out.trans (KeepBut.of_below hb2 g none) (Or.inl rfl));clear hV2 hb2 HS1 HK1;go_wp2_with fail;refine (HP.out V2 HS2.out).mono ?_;rintro e V3 ⟨v,rfl,⟨A3,c3,rfl,l3,hF3⟩,hS3,hK3⟩;have HS3:=Sd.m hS3;have HK3:=Sd.m (HK2.out.trans hK3 (Or.inl rfl));have HK23:=Sd.m hK3;have HF3:=Sd.m hF3;clear hS3 hK3 hF3;have hb4:Below V3.heap.size V3 (V3.alloc (.cells #[.int .i64 nd.f0,.string nd.f1,.int .i64 nd.f2,.int .i64 nd.f3,.slice A3 nd.f4.length c3] 85)):=ab_ (Below.refl V3.heap.size V3) _;have HS4:=Sd.m (HS3.out.below hb4);have HB4:=Sd.m (aj_ V3 (.cells #[.int .i64 nd.f0,.string nd.f1,.int .i64 nd.f2,.int .i64 nd.f3,.slice A3 nd.f4.length c3] 85));have HK4:=Sd.m (HK3.out.trans (KeepBut.of_below hb4 g none) (Or.inl rfl));have HF4:=Sd.m (F_below (F_bound HF3.out) hb4);have HL2:=Sd.m (show W.heap.size+1<=V2.heap.size from cc_ (HK2.out.blk HRES.out hgn0 (by simp)));have HL3:=Sd.m (show V2.heap.size<=V3.heap.size from HK23.out.1);have hkc:=bz_ HS4.out (by omega);have HKC4:=Sd.m hkc;clear hkc hb4 HS3 HK3 HK23 HF3 HKC HS2 HK2;go_wp2_with fail;refine HKC4.out.mono ?_;rintro e V5 ⟨rfl,hS5,hK5⟩;have hk5:=HK4.out.trans hK5 (Or.inl rfl);have hbx5:=hK5.blk HB4.out (by have:=HL2.out;have:=HL3.out;have:=HGL.out;omega) (by simp);have hF5:=F_keep (F_mono HF4.out (ok':=fun k=>W.heap.size+1<=k) (fun k hk=>by have:=HL2.out;omega)) hK5 (fun k hk=>by have:=HGL.out;omega);have c3':=hS5.c3;have hl5:V3.heap.size+1<=V5.heap.size:=cc_ hbx5;have hk9:=HKD.out;rw [hk9];have b0:=bc_ hbx5 0 rfl;have b1:=bc_ hbx5 1 rfl;have b2:=bc_ hbx5 2 rfl;have b3:=bc_ hbx5 3 rfl;have b4:=bc_ hbx5 4 rfl;have hFK:Kd.FK k85 V5 (fun k=>V2.heap.size<=k∧k<V3.heap.size) nd [.int .i64 nd.f0,.string nd.f1,.int .i64 nd.f2,.int .i64 nd.f3,.slice A3 nd.f4.length c3]:=jx_ V5 _ nd l3 (F_keep HF4.out hK5 (fun k hk=>by have:=HL2.out;have:=HGL.out;omega));have hb6:Below V5.heap.size V5 (V5.alloc (.cells #[.int .i64 nd.f0,.string nd.f1,.int .i64 nd.f2,.int .i64 nd.f3,.slice A3 nd.f4.length c3] 85)):=ab_ (Below.refl V5.heap.size V5) _;have hm6:=aj_ V5 (.cells #[.int .i64 nd.f0,.string nd.f1,.int .i64 nd.f2,.int .i64 nd.f3,.slice A3 nd.f4.length c3] 85);have hbx6:=ag_ hbx5 hb6;have hS6:=hS5.below hb6;have hk6:=hk5.trans (KeepBut.of_below hb6 g none) (Or.inl rfl);have hn3g:V3.heap.size≠g:=by have:=HL2.out;have:=HL3.out;have:=HGL.out;omega
   have hW3:W.heap.size+1<=V3.heap.size:=by have:=HL2.out;have:=HL3.out;omega
   have hw3:w0.heap.size<=V3.heap.size:=by have:=HW0.out;omega
   have hF6:Kd.F k85 (V5.alloc (.cells #[.int .i64 nd.f0,.string nd.f1,.int .i64 nd.f2,.int .i64 nd.f3,.slice A3 nd.f4.length c3] 85)) (fun k=>(V2.heap.size<=k∧k<V3.heap.size)∨k=V5.heap.size) (some ⟨V5.heap.size,0,none⟩) 1 [nd]:=F_one (cs:=[.int .i64 nd.f0,.string nd.f1,.int .i64 nd.f2,.int .i64 nd.f3,.slice A3 nd.f4.length c3]) hm6 (Or.inr rfl) (FK_mono (FK_below hFK hb6) (fun k hk=>Or.inl hk));have hF7:=jq_ hF6 (n:=V3.heap.size) (fun k hk=>by omega) (.int .i64 10) (.string ⟨#[]⟩) (.int .i64 0) (.int .i64 0) (.slice (some ⟨V5.heap.size,0,none⟩) 1 1);have hS7:=fe_ hS6 hn3g.symm hw3 (.int .i64 10) (.string ⟨#[]⟩) (.int .i64 0) (.int .i64 0) (.slice (some ⟨V5.heap.size,0,none⟩) 1 1);have hk7:=dv_ (W:=W) (HK.out.trans hk6 (Or.inl rfl)) (n:=V3.heap.size) (by omega) (.int .i64 10) (.string ⟨#[]⟩) (.int .i64 0) (.int .i64 0) (.slice (some ⟨V5.heap.size,0,none⟩) 1 1);have hr7:=dv_ (HK.out.trans hk6 (Or.inl rfl)) (W:=W) (n:=V3.heap.size) (by omega) (.int .i64 10) (.string ⟨#[]⟩) (.int .i64 0) (.int .i64 0) (.slice (some ⟨V5.heap.size,0,none⟩) 1 1);have hbx7:=ej_ hbx6 (.int .i64 10) (.string ⟨#[]⟩) (.int .i64 0) (.int .i64 0) (.slice (some ⟨V5.heap.size,0,none⟩) 1 1);have d0:=bc_ hbx6 0 rfl;have e0:=aa_ hbx6 0;have d1:=bc_ hbx6 1 rfl;have e1:=aa_ hbx6 1;have d2:=bc_ hbx6 2 rfl;have e2:=aa_ hbx6 2;have d3:=bc_ hbx6 3 rfl;have e3:=aa_ hbx6 3;have d4:=bc_ hbx6 4 rfl;have e4:=aa_ hbx6 4;have c4:((((((V5.alloc (.cells #[.int .i64 nd.f0,.string nd.f1,.int .i64 nd.f2,.int .i64 nd.f3,.slice A3 nd.f4.length c3] 85)).setCell ⟨V3.heap.size,0,none⟩ (.int .i64 10)).setCell ⟨V3.heap.size,1,none⟩ (.string ⟨#[]⟩)).setCell ⟨V3.heap.size,2,none⟩ (.int .i64 0)).setCell ⟨V3.heap.size,3,none⟩ (.int .i64 0)).setCell ⟨V3.heap.size,4,none⟩ (.slice (some ⟨V5.heap.size,0,none⟩) 1 1)).cell? ⟨g,4,none⟩=some (.int .i64 h1):=hS7.c4;have f4:((((((V5.alloc (.cells #[.int .i64 nd.f0,.string nd.f1,.int .i64 nd.f2,.int .i64 nd.f3,.slice A3 nd.f4.length c3] 85)).setCell ⟨V3.heap.size,0,none⟩ (.int .i64 10)).setCell ⟨V3.heap.size,1,none⟩ (.string ⟨#[]⟩)).setCell ⟨V3.heap.size,2,none⟩ (.int .i64 0)).setCell ⟨V3.heap.size,3,none⟩ (.int .i64 0)).setCell ⟨V3.heap.size,4,none⟩ (.slice (some ⟨V5.heap.size,0,none⟩) 1 1)).frozen? ⟨g,4,none⟩=false:=hS7.f4;have w1:IntKind.i64.wrap (h1+1)=h1+1:=IntWalk.i64_in _ (by omega);have hres6:=(hk6.blk HRES.out hgn0 (by simp));have hres7:=bj_ (p:=⟨V3.heap.size,4,none⟩) (bj_ (p:=⟨V3.heap.size,3,none⟩) (bj_ (p:=⟨V3.heap.size,2,none⟩) (bj_ (p:=⟨V3.heap.size,1,none⟩) (bj_ (p:=⟨V3.heap.size,0,none⟩) hres6 (by show W.heap.size≠V3.heap.size;omega) (.int .i64 10)) (by show W.heap.size≠V3.heap.size;omega) (.string ⟨#[]⟩)) (by show W.heap.size≠V3.heap.size;omega) (.int .i64 0)) (by show W.heap.size≠V3.heap.size;omega) (.int .i64 0)) (by show W.heap.size≠V3.heap.size;omega) (.slice (some ⟨V5.heap.size,0,none⟩) 1 1);obtain ⟨V8,hV8⟩: ∃ W_,W_=((((((V5.alloc (.cells #[.int .i64 nd.f0,.string nd.f1,.int .i64 nd.f2,.int .i64 nd.f3,.slice A3 nd.f4.length c3] 85)).setCell ⟨V3.heap.size,0,none⟩ (.int .i64 10)).setCell ⟨V3.heap.size,1,none⟩ (.string ⟨#[]⟩)).setCell ⟨V3.heap.size,2,none⟩ (.int .i64 0)).setCell ⟨V3.heap.size,3,none⟩ (.int .i64 0)).setCell ⟨V3.heap.size,4,none⟩ (.slice (some ⟨V5.heap.size,0,none⟩) 1 1)).setCell ⟨g,4,none⟩ (.int .i64 (h1+1)):=⟨_,rfl⟩;have hS8:RdAt w0 V8 g t en (h1+1):=by rw [hV8];exact hS7.set (h1+1)
   have hk8:KeepBut W V8 g none:=by rw [hV8];exact hk7.set_ 4 _
   have hres8:V8.heap[W.heap.size]? =some (.cells #[.int .i64 0,.string ⟨#[]⟩,.int .i64 0,.int .i64 0,.slice none 0 0] 85 (0,0)):=by rw [hV8];exact bj_ hres7 (p:=⟨g,4,none⟩) hgn0 _
   have hF8:Kd.F k85 V8 (fun k=>(V2.heap.size<=k∧k<V3.heap.size)∨k=V5.heap.size) (some ⟨V5.heap.size,0,none⟩) 1 [nd]:=by rw [hV8];exact F_far hF7 (p:=⟨g,4,none⟩) (fun k hk=>by have:=HL2.out;have:=HGL.out;show k≠g;omega) _
   have hbx8:V8.heap[V3.heap.size]? =some (.cells #[.int .i64 10,.string ⟨#[]⟩,.int .i64 0,.int .i64 0,.slice (some ⟨V5.heap.size,0,none⟩) 1 1] 85 (0,0)):=by rw [hV8];exact bj_ hbx7 (p:=⟨g,4,none⟩) hn3g _
   have hsz8:V5.heap.size<=V8.heap.size:=by rw [hV8];simp [World.setCell]
   have hFK8:Kd.FK k85 V8 (fun k=>W.heap.size+1<=k) ⟨10,⟨#[]⟩,0,0,[nd]⟩ [.int .i64 10,.string ⟨#[]⟩,.int .i64 0,.int .i64 0,.slice (some ⟨V5.heap.size,0,none⟩) 1 1]:=jx_ V8 _ ⟨10,⟨#[]⟩,0,0,[nd]⟩ (Nat.le_refl 1) (F_mono hF8 (fun k hk=>by have:=HL2.out;omega));have x0:=bc_ hbx8 0 rfl;have x1:=bc_ hbx8 1 rfl;have x2:=bc_ hbx8 2 rfl;have x3:=bc_ hbx8 3 rfl;have x4:=bc_ hbx8 4 rfl;have HS5:=Sd.m hS8;have HK5:=Sd.m hk8;have HFK:=Sd.m hFK8;have HRES5:=Sd.m hres8;have HHE:=Sd.m hh1;have HFR:=Sd.m (show ∀ k,V8.heap.size<=k->W.heap.size+1<=k from fun k hk=>by omega);have HV8:=Sd.m hV8;clear hS5 hK5 hk5 hbx5 hF5 hl5 HKC4 hFK hb6 hm6 hbx6 hS6 hk6 hF6 hF7 hS7 hk7 hr7 hbx7 hres6 hres7 hV8 hS8 hk8 hres8 hF8 hbx8 hFK8 hk9;go_upto_region 8 with fail;rw [←HV8.out];clear c4 f4 b0 b1 b2 b3 b4 d0 d1 d2 d3 d4 e0 e1 e2 e3 e4;go_wp2_with (at_builtin;refine N_append k85 (w0:=w0) (W:=V8) w0.heap.size rfl _ _ 83 85 (.agg #[.int .i64 0,.string ⟨#[]⟩,.int .i64 0,.int .i64 0,.slice none 0 0]) 64 rfl Tryz.underlying83 (by kernel_rfl) rfl (by decide) (by decide) (.slice none 0 0) [] ⟨10,⟨#[]⟩,0,0,[nd]⟩ [.int .i64 10,.string ⟨#[]⟩,.int .i64 0,.int .i64 0,.slice (some ⟨V5.heap.size,0,none⟩) 1 1] (fun k=>W.heap.size+1<=k) (fun k=>W.heap.size+1<=k) rfl rfl HFK.out (fun k hk=>⟨hk,by simp [Value.ownBlock]⟩) HFR.out (N_nil _ _ _ _ _) HS5.out.2 HS5.out.2.size (by decide) ?_;intro v5 V7 hNx hB7 hg7 hat7;obtain ⟨A5,c5,rfl⟩:=N_slice hNx;have HNX7:=Sd.m hNx;have HG7:=Sd.m hg7;have HB7:=Sd.m hB7;clear hNx hg7 hB7 hat7);go_roundw
   case rel=>
    refine ⟨HK5.out.trans (KeepBut.lx_ HG7.out g) (Or.inl rfl),cl_ HRES5.out HG7.out (by simp [Value.ownBlock]),Or.inr ⟨⟨HS5.out.1.grown HG7.out (by simp [Value.ownBlock]),HB7.out⟩,A5,c5,rfl,(N_reads' HNX7.out).2.1,?_⟩⟩;rw [HNX.out];exact N_F HNX7.out
   case measure=>
    have hS7:RdAt w0 V7 g t en (h1+1):=⟨HS5.out.1.grown HG7.out (by simp [Value.ownBlock]),HB7.out⟩;rw [ee_ hS7,HHO.out];omega
  ·have c3:=hS.c3;have HKC:=Sd.m (bz_ hS (by omega));have HK:=Sd.m hK;have HRES:=Sd.m hres;have HF:=Sd.m hF;clear hS hK hres hF;go_wp2_with fail;refine HKC.out.mono ?_;rintro e V1 ⟨rfl,hS1,hK1⟩;have HS1:=Sd.m hS1;have HK1:=Sd.m hK1;clear hS1 hK1 c3;go_wp2_with fail;refine (be_.calls _ false _ HBE2.out).mono ?_;rintro e Wd ⟨rfl,⟨nd_,rfl⟩⟩;obtain ⟨Wv,hWv⟩: ∃ W_,W_=V1.drewN nd_:=⟨_,rfl⟩;have hbv:Below V1.heap.size V1 Wv:=by rw [hWv];exact ad_ (Below.refl _ _) nd_
   have HSv:=Sd.m (HS1.out.below hbv);have hK1v:=HK1.out.trans (KeepBut.of_below hbv g none) (Or.inl rfl);have hKv:=HK.out.trans hK1v (Or.inl rfl);have HKv:=Sd.m hKv;have hrv:=hK1v.blk HRES.out hgn0 (by simp);have HRv:=Sd.m hrv;have HSZ:=Sd.m (show W.heap.size+1<=Wv.heap.size from cc_ hrv);have HV:=Sd.m (show Kd.V k85 85 Wv Wv.heap.size (fun k=>W.heap.size+1<=k) (.slice A [nx].length c) [nx] from ⟨A,c,rfl,hc1,F_keep HF.out hK1v (fun k hk=>by have:=HGL.out;omega)⟩);rw [←hWv];clear hWv hbv hKv hrv hK1v;go_wp2_with fail;refine (cv_.calls 8 (fun k=>W.heap.size+1<=k) A c [nx] nx.f0 nx.f1 nx.f2 nx.f3 nx.f4 Wv HV.out (by rfl)).mono ?_;rintro e Wy ⟨v4,rfl,hVy,hby⟩;obtain ⟨A4,c4,rfl,l4,hF4⟩:=hVy;have hSy:=HSv.out.below hby;have hKy:=HKv.out.trans (KeepBut.of_below hby g none) (Or.inl rfl);have hry:=ag_ HRv.out hby;have hF4:=F_mono hF4 (ok':=fun k=>W.heap.size+1<=k) (fun k hk=>by have:=HSZ.out;rcases hk with hk | hk <;> omega);have b0:=bc_ hry 0 rfl;have m0:=aa_ hry 0;have b1:=bc_ hry 1 rfl;have m1:=aa_ hry 1;have b2:=bc_ hry 2 rfl;have m2:=aa_ hry 2;have b3:=bc_ hry 3 rfl;have m3:=aa_ hry 3;have b4:=bc_ hry 4 rfl;have m4:=aa_ hry 4;have HSY:=Sd.m hSy;have HKY:=Sd.m hKy;have HRY:=Sd.m hry;have HFY:=Sd.m hF4;clear hSy hKy hry hF4 hby;go_wp2_with fail;refine bodyPost_ret (results_cell_row rfl _ _ W.heap.size 85 #[.int .i64 nx.f0,.string nx.f1,.int .i64 nx.f2,.int .i64 nx.f3,.slice A4 nx.f4.length c4] (0,0) _ rfl (ej_ HRY.out _ _ _ _ _) Tryz.underlying85 rfl (by kernel_rfl)) rfl ?_;exact ⟨_,rfl,⟨A4,c4,rfl,l4,F_mono (jq_ HFY.out (fun k hk=>by omega) _ _ _ _ _) (fun k hk=>by omega)⟩,fe_ HSY.out (fun e=>hgn0 e.symm) HW0.out _ _ _ _ _,dv_ HKY.out (Nat.le_refl _) _ _ _ _ _⟩
def OrO (w0 W:World)(g:Nat)(t:List S159)(en h1:Int)(nd:S85)(m:Nat)(s5:Value)(Wx:World):Prop:=
 s5=.slice (some ⟨m,0,none⟩) 1 1∧RdAt w0 Wx g t en h1∧KeepBut W Wx g none∧Wx.heap[W.heap.size]? =some (.cells #[.int .i64 0,.string ⟨#[]⟩,.int .i64 0,.int .i64 0,.slice none 0 0] 85 (0,0))∧Kd.F k85 Wx (fun k=>W.heap.size+1<=k) (some ⟨m,0,none⟩) 1 [nd]
theorem or_one {w0 W:World}{g:Nat}{t:List S159}{en here:Int}(h:RdAt w0 W g t en here)(h0:0<=here)(hlt:here<=t.length)(ht:t.length<=1000000)(deep:Int){nx:S85}{h1:Int}(hjoin: ∀ W:World,RdAt w0 W g t en here->Calls Tryz.prog 165 #[.pointer (some ⟨g,0,none⟩),.int .i64 deep] W (Ans w0 W g t en nx h1))(hh1:0<=h1)(hk:kdF t h1≠8):
  Calls Tryz.prog 125 #[.pointer (some ⟨g,0,none⟩),.int .i64 deep] W (Ans w0 W g t en nx h1):=by
 unfold Ans;have hb1:Below W.heap.size W (W.alloc (.cells #[.int .i64 0,.string ⟨#[]⟩,.int .i64 0,.int .i64 0,.slice none 0 0] 85)):=ab_ (Below.refl W.heap.size W) _;have HGL:=Sd.m h.lt;have HW0:=Sd.m h.2.size;have hgn0:W.heap.size≠g:=by have:=HGL.out;omega
 have HR0:=Sd.m (h.below hb1);have HBX0:=Sd.m (aj_ W (.cells #[.int .i64 0,.string ⟨#[]⟩,.int .i64 0,.int .i64 0,.slice none 0 0] 85));have HKB0:=Sd.m (KeepBut.of_below hb1 g none);have HKD:=Sd.m hk;have HJ:=Sd.m hjoin;clear h hk hjoin;have hRx:=HR0.out;have hBx:=HBX0.out;have hKx:=HKB0.out;obtain ⟨W1,hW1⟩: ∃ W_,W_=W.alloc (.cells #[.int .i64 0,.string ⟨#[]⟩,.int .i64 0,.int .i64 0,.slice none 0 0] 85):=⟨_,rfl⟩;rw [←hW1] at hRx hBx hKx;have HRX:=Sd.m hRx;have HBX:=Sd.m hBx;have HKX:=Sd.m hKx;clear hRx hBx hKx HR0 HBX0 HKB0;go_enter Tryz.func125,Tryz.ntmps125;go_wp2_with fail;rw [←hW1];clear hW1;refine (HJ.out W1 HRX.out).mono ?_;rintro e V3 ⟨v,rfl,⟨A3,c3,rfl,l3,hF3⟩,hS3,hK3⟩;have hlo:W.heap.size+1<=W1.heap.size:=cc_ HBX.out;have hb4:Below V3.heap.size V3 (V3.alloc (.cells #[.int .i64 nx.f0,.string nx.f1,.int .i64 nx.f2,.int .i64 nx.f3,.slice A3 nx.f4.length c3] 85)):=ab_ (Below.refl V3.heap.size V3) _;have hFK:Kd.FK k85 V3 (fun k=>W.heap.size+1<=k) nx [.int .i64 nx.f0,.string nx.f1,.int .i64 nx.f2,.int .i64 nx.f3,.slice A3 nx.f4.length c3]:=jx_ V3 _ nx l3 (F_mono hF3 (fun k hk=>by omega));have hF4:Kd.F k85 (V3.alloc (.cells #[.int .i64 nx.f0,.string nx.f1,.int .i64 nx.f2,.int .i64 nx.f3,.slice A3 nx.f4.length c3] 85)) (fun k=>W.heap.size+1<=k) (some ⟨V3.heap.size,0,none⟩) 1 [nx]:=F_one (cs:=[.int .i64 nx.f0,.string nx.f1,.int .i64 nx.f2,.int .i64 nx.f3,.slice A3 nx.f4.length c3]) (aj_ V3 (.cells #[.int .i64 nx.f0,.string nx.f1,.int .i64 nx.f2,.int .i64 nx.f3,.slice A3 nx.f4.length c3] 85)) (by have:=hK3.1;omega) (FK_below hFK hb4);have hO:OrO w0 W g t en h1 nx V3.heap.size (.slice (some ⟨V3.heap.size,0,none⟩) 1 1) (V3.alloc (.cells #[.int .i64 nx.f0,.string nx.f1,.int .i64 nx.f2,.int .i64 nx.f3,.slice A3 nx.f4.length c3] 85)):=⟨rfl,hS3.below hb4,HKX.out.trans (hK3.trans (KeepBut.of_below hb4 g none) (Or.inl rfl)) (Or.inl rfl),(hK3.trans (KeepBut.of_below hb4 g none) (Or.inl rfl)).blk HBX.out hgn0 (by simp),hF4⟩;have HO:=Sd.m hO;clear hb4 hFK hF4 hO hF3 hS3 hK3;go_wp2_with fail;go_loopw [5] (fun s5 Wx=>OrO w0 W g t en h1 nx V3.heap.size s5 Wx) (fun _ _=>0)
 case atStart=>exact HO.out
 case round=>
  obtain ⟨rfl,hS,hK,hres,hF⟩:=hrel;have c3:=hS.c3;have bk:(kdF t h1 == 8)=false:=by simpa using HKD.out
  have HKC:=Sd.m (bz_ hS hh1);have HK:=Sd.m hK;have HRES:=Sd.m hres;have HF:=Sd.m hF;clear hS hK hres hF;go_wp2_with fail;refine HKC.out.mono ?_;rintro e Wv ⟨rfl,hSv,hK1⟩;have HSv:=Sd.m hSv;have HKv:=Sd.m (HK.out.trans hK1 (Or.inl rfl));have hrv:=hK1.blk HRES.out hgn0 (by simp);have HRv:=Sd.m hrv;have HSZ:=Sd.m (show W.heap.size+1<=Wv.heap.size from cc_ hrv);have HV:=Sd.m (show Kd.V k85 85 Wv Wv.heap.size (fun k=>W.heap.size+1<=k) (.slice (some ⟨V3.heap.size,0,none⟩) [nx].length 1) [nx] from ⟨_,1,rfl,Nat.le_refl 1,F_keep HF.out hK1 (fun k hk=>by have:=HGL.out;omega)⟩);clear hSv hK1 hrv c3;go_wp2_with fail;refine (cv_.calls 9 (fun k=>W.heap.size+1<=k) (some ⟨V3.heap.size,0,none⟩) 1 [nx] nx.f0 nx.f1 nx.f2 nx.f3 nx.f4 Wv HV.out (by rfl)).mono ?_;rintro e Wy ⟨v4,rfl,hVy,hby⟩;obtain ⟨A4,c4,rfl,l4,hF4⟩:=hVy;have hSy:=HSv.out.below hby;have hKy:=HKv.out.trans (KeepBut.of_below hby g none) (Or.inl rfl);have hry:=ag_ HRv.out hby;have hF4:=F_mono hF4 (ok':=fun k=>W.heap.size+1<=k) (fun k hk=>by have:=HSZ.out;rcases hk with hk | hk <;> omega);have b0:=bc_ hry 0 rfl;have m0:=aa_ hry 0;have b1:=bc_ hry 1 rfl;have m1:=aa_ hry 1;have b2:=bc_ hry 2 rfl;have m2:=aa_ hry 2;have b3:=bc_ hry 3 rfl;have m3:=aa_ hry 3;have b4:=bc_ hry 4 rfl;have m4:=aa_ hry 4;have HSY:=Sd.m hSy;have HKY:=Sd.m hKy;have HRY:=Sd.m hry;have HFY:=Sd.m hF4;clear hSy hKy hry hF4 hby;go_wp2_with fail;refine bodyPost_ret (results_cell_row rfl _ _ W.heap.size 85 #[.int .i64 nx.f0,.string nx.f1,.int .i64 nx.f2,.int .i64 nx.f3,.slice A4 nx.f4.length c4] (0,0) _ rfl (ej_ HRY.out _ _ _ _ _) Tryz.underlying85 rfl (by kernel_rfl)) rfl ?_;exact ⟨_,rfl,⟨A4,c4,rfl,l4,F_mono (jq_ HFY.out (fun k hk=>by omega) _ _ _ _ _) (fun k hk=>by omega)⟩,fe_ HSY.out (fun e=>hgn0 e.symm) HW0.out _ _ _ _ _,dv_ HKY.out (Nat.le_refl _) _ _ _ _ _⟩
end LX
end Go.Proofs.YthfceiincmkccaaGreat
