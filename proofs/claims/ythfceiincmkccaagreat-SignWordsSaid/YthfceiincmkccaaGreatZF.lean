/- What law SignWords reaches, part 6: words and walks over rows and regions. -/
import Derived.Test.YthfceiincmkccaaGreatZA
import Derived.Test.YthfceiincmkccaaGreatZE
import Derived.Deep.RegionLaw
import Derived.Great.Walk
import Derived.Test.YthfceiincmkccaaGreatZD
import Derived.Laws.Cover3
import Derived.Test.YthfceiincmkccaaGreatZB
import Derived.Test.YthfceiincmkccaaGreatProg
import Derived.Below
import Derived.Deep.Draws
import Derived.Deep.AppendLies
import Derived.Maps.AppendAt
import Derived.OwnWalk
import Derived.Laws.BytesArg
import Derived.Laws.MakeOwn
import Derived.Laws.OwnMore
import Derived.Deep.OwnRows
import Derived.Tactics
import Derived.Lib.ConvBytes
import Derived.Laws.Slices
import Derived.WalkKit
import Derived.KernelRfl
import Derived.RowKit3
import Derived.Deep.LoopGhost
import Derived.Deep.QuietTactic
import Derived.BigQuiet
import Derived.WideLaws
import Derived.Deep.DeepCutAuto
import Derived.Deep.CutBlock
import Derived.Deep.RegionHeld3
import Derived.Laws.Rows
import Derived.Lib.AppendStr
import Derived.ArgAppend
import Derived.Laws.IdiomCopy
import Derived.OrdersHeld
import Derived.Laws.BitsLemmas
import Derived.RowKit
import Derived.Lib.SlBytesConst
set_option linter.unusedVariables false
set_option linter.unusedSimpArgs false
set_option maxHeartbeats 8000000
set_option maxRecDepth 100000
open Go.RowKit Go.Proofs.YthfceiincmkccaaGreatW.PrintWords Go.Proofs.YthfceiincmkccaaGreatW.PrintLast Go.Proofs.YthfceiincmkccaaGreatW.PrintMore
namespace Go.Proofs.YthfceiincmkccaaGreat
namespace L
open A P B D
theorem word_one (gb:Nat)(A0:Option Addr)(c0:Nat)(l0:List (List S74))(n:Int)(w:World)(hr0:Kd.C (Kd.slice 74 k74) w A0 l0.length l0)(hc0:l0.length<=c0)(hg:w.heap[gb]? =some (.cells #[.slice A0 l0.length c0] 30 (0,0))):
  Calls Tryz.prog 66 #[.int .i64 n,.pointer (some ⟨gb,0,none⟩)] w fun e w'=>e=.returned (.int .i64 (classF l0 n))∧Below w.heap.size w w':=by
 have hs:=c38 A0 c0 l0 n w hr0 hc0 _ rfl
 have hcell:=bc_ hg 0 rfl
 generalize classF l0 n=b at hs ⊢
 have HS:=Sd.m hs
 clear hs hg hr0 hc0
 go_enter Tryz.func66,Tryz.ntmps66
 go_wp2_with fail
 refine HS.out.mono ?_
 rintro e w' ⟨rfl,hb⟩
 have HB:=Sd.m hb
 clear hb
 go_wp2_with fail
 go_ret
 exact ⟨rfl,HB.out⟩
theorem ix_ (A0:Option Addr)(c0:Nat)(l0:List (List S74))(A1:Option Addr)(c1:Nat)(l1:List Int)(w:World)(hr0:Kd.C (Kd.slice 74 k74) w A0 l0.length l0)(hc0:l0.length<=c0)(hr1:Kd.C (Kd.int .i64) w A1 l1.length l1)(hc1:l1.length<=c1)(hl:l1.length<=100000):
  Calls Tryz.prog 33 #[.slice A0 l0.length c0,.slice A1 l1.length c1] w fun e w'=> ∃ v,e=.returned (.tuple #[v,.int .i64 (eachF (classF l0) l1).2])∧Kd.R (Kd.int .i64) 3 w' w.heap.size (fun _=>True) v (eachF (classF l0) l1).1∧Below w.heap.size w w':=by
 have hb0:=ab_ (Below.refl w.heap.size w) (.cells #[.slice A0 l0.length c0] 30)
 have hbx:(w.alloc (.cells #[.slice A0 l0.length c0] 30)).heap[w.heap.size]? =some (.cells #[.slice A0 l0.length c0] 30 (0,0)):=aj_ _ _
 have hs:=jh_ 66 w.heap.size (classF l0) A1 c1 l1 (w.alloc (.cells #[.slice A0 l0.length c0] 30)) (Kd.C_alloc hr1 _) hc1 hl (enters_of Tryz.func66 (by kernel_rfl) rfl) fun n W hW=>word_one w.heap.size A0 c0 l0 n W (Kd.C_below (Kd.C_alloc hr0 _) hW) hc0 (ag_ hbx hW)
 generalize eachF (classF l0) l1=r at hs ⊢
 have HS:=Sd.m hs
 have HB0:=Sd.m hb0
 clear hs hbx hb0 hr0 hr1 hc0 hc1 hl
 go_enter Tryz.func33,Tryz.ntmps33
 go_wp2_with fail
 refine HS.out.mono ?_
 rintro e w' ⟨v,rfl,hR,hb⟩
 have HR:=Sd.m (Kd.R_lower hR HB0.out.size)
 have HB:=Sd.m (HB0.out.trans (hb.mono HB0.out.size))
 obtain ⟨Av,cv,rfl⟩:=Kd.R_slice hR
 clear hb hR
 go_wp2_with fail
 go_ret2
 exact ⟨_,rfl,HR.out,HB.out⟩
def charF (fs:List Int)(n:Int):Int:=if n<0 then -1 else if n ≥ (fs.length:Int) then -1 else rd fs n
theorem chars_one (gb:Nat)(A0:Option Addr)(c0:Nat)(fs:List Int)(n:Int)(w:World)(hr0:Kd.C (Kd.int .i64) w A0 fs.length fs)(hc0:fs.length<=c0)(hg:w.heap[gb]? =some (.cells #[.slice A0 fs.length c0] 42 (0,0))):
  Calls Tryz.prog 69 #[.int .i64 n,.pointer (some ⟨gb,0,none⟩)] w fun e w'=>e=.returned (.int .i64 (charF fs n))∧Below w.heap.size w w':=by
 have hcell:=bc_ hg 0 rfl
 by_cases h1:n<0
 ·have b1:decide (n<0)=true:=dt__ h1
  have e:charF fs n= -1:=if_pos h1
  rw [e]
  clear e hr0 hg
  go_enter Tryz.func69,Tryz.ntmps69
  go_wp2_with fail
  go_ret
  exact ⟨rfl,Below.refl _ _⟩
 ·have b1:decide (n<0)=false:=df__ h1
  by_cases h2:n ≥ (fs.length:Int)
  ·have b2:decide ((fs.length:Int)<=n)=true:=dt__ h2
   have e:charF fs n= -1:=by unfold charF;rw [if_neg h1,if_pos h2]
   rw [e]
   clear e hr0 hg
   go_enter Tryz.func69,Tryz.ntmps69
   go_wp2_with fail
   go_ret
   exact ⟨rfl,Below.refl _ _⟩
  ·have b2:decide ((fs.length:Int)<=n)=false:=df__ h2
   have e:charF fs n=rd fs n:=by unfold charF;rw [if_neg h1,if_neg h2]
   rw [e]
   have q0:0<=n:=by omega
   have q1:n<(fs.length:Int):=by omega
   obtain ⟨ad,rfl,k0⟩:=Kd.dc_ hr0 n q0 q1
   generalize rd fs n=x at k0 ⊢
   clear e hr0 hg
   go_enter Tryz.func69,Tryz.ntmps69
   go_wp2_with fail
   go_ret
   exact ⟨rfl,Below.refl _ _⟩
theorem gm_ (A0:Option Addr)(c0:Nat)(l0:List (List S74))(A1:Option Addr)(c1:Nat)(l1:List Int)(w:World)(hr0:Kd.C (Kd.slice 74 k74) w A0 l0.length l0)(hc0:l0.length<=c0)(hr1:Kd.C (Kd.int .i64) w A1 l1.length l1)(hc1:l1.length<=c1)(hl0:l0.length<=100000)(hl:l1.length<=100000):
  Calls Tryz.prog 35 #[.slice A0 l0.length c0,.slice A1 l1.length c1] w fun e w'=> ∃ v,e=.returned (.tuple #[v,.int .i64 (eachF (charF (l0.map firstF)) l1).2])∧Kd.R (Kd.int .i64) 3 w' w.heap.size (fun _=>True) v (eachF (charF (l0.map firstF)) l1).1∧Below w.heap.size w w':=by
 obtain ⟨k,hk⟩:=(firsts_f l0 hl0).rounds
 have HF:=Sd.m (bz_.calls k A0 c0 l0 _ w hr0 hc0 hk)
 have HR1:=Sd.m hr1
 have HC1:=Sd.m hc1
 have HL:=Sd.m hl
 generalize l0.map firstF=fs at HF ⊢
 obtain ⟨r,hr⟩: ∃ r,r=eachF (charF fs) l1:=⟨_,rfl⟩
 rw [←hr]
 have HRR:=Sd.m hr
 clear hr hr0 hr1 hc1 hl hk
 go_enter Tryz.func35,Tryz.ntmps35
 go_wp2_with fail
 refine HF.out.mono ?_
 rintro e W1 ⟨v,rfl,hR,hb⟩
 obtain ⟨Af,cf,rfl⟩:=Kd.R_slice hR
 have HRF:=Sd.m hR
 have HB1:=Sd.m hb
 clear hb hR HF
 go_wp2_with fail
 have hbx: ∀ W2:World,W2.heap[W1.heap.size]? =some (.cells #[.slice Af fs.length cf] 42 (0,0))->Below W1.heap.size W1 W2->Calls Tryz.prog 65 #[.slice A1 l1.length c1,.func (.func 69) #[] #[.pointer (some ⟨W1.heap.size,0,none⟩)]] W2 fun e w'=> ∃ v,e=.returned (.tuple #[v,.int .i64 r.2])∧Kd.R (Kd.int .i64) 3 w' W2.heap.size (fun _=>True) v r.1∧Below W2.heap.size W2 w':=by
  intro W2 h1 h2
  rw [HRR.out]
  exact jh_ 69 W1.heap.size (charF fs) A1 c1 l1 W2 (Kd.C_below (Kd.C_below HR1.out HB1.out) h2) HC1.out HL.out (enters_of Tryz.func69 (by kernel_rfl) rfl) fun n W hW=>chars_one W1.heap.size Af cf fs n W (Kd.C_below (Kd.C_below (Kd.R_reads' HRF.out).2.2 h2) hW) (Kd.R_reads' HRF.out).2.1 (ag_ h1 hW)
 have hb0:=ab_ (Below.refl W1.heap.size W1) (.cells #[.slice Af fs.length cf] 42)
 have hcall:=hbx _ (aj_ W1 _) hb0
 clear hbx
 refine hcall.mono ?_
 clear hcall
 rintro e w' ⟨v,rfl,hR2,hb2⟩
 have HR2:=Sd.m (Kd.R_lower hR2 (Nat.le_trans HB1.out.size hb0.size))
 have HB2:=Sd.m (HB1.out.trans ((hb0.trans (hb2.mono hb0.size)).mono HB1.out.size))
 obtain ⟨Av,cv,rfl⟩:=Kd.R_slice hR2
 clear hb2 hR2 hb0
 go_wp2_with fail
 go_ret2
 exact ⟨_,rfl,HR2.out,HB2.out⟩
theorem same_ev (x y:List S74)(hl:y.length<=3000000): ∃ k,cx_.f k x y=some (eqF x y):=by
 by_cases h:x.length=y.length
 ·exact (rng_ev (by omega) _ eqF_iff).2.rounds
 ·have hf:eqF x y=false:=by
   cases hb:eqF x y with
   | false=>rfl
   | true=>exact absurd (by rw [eqF_iff.1 hb]) h
  refine ⟨0,?_⟩
  rw [hf]
  unfold cx_.f
  exact if_neg (by omega)
theorem same_one (y:List S74)(gc:Nat)(By:Option Addr)(cy:Nat)(A0:Option Addr)(c0:Nat)(l0:List S74)(w:World)(hr0:Kd.C k74 w A0 l0.length l0)(hc0:l0.length<=c0)(hry:Kd.C k74 w By y.length y)(hcy:y.length<=cy)(hly:y.length<=3000000)(hg:w.heap[gc]? =some (.cells #[.slice By y.length cy] 37 (0,0))):
  Calls Tryz.prog 109 #[.slice A0 l0.length c0,.pointer (some ⟨gc,0,none⟩)] w fun e w'=>e=.returned (.bool (eqF l0 y))∧Below w.heap.size w w':=by
 obtain ⟨k,hk⟩:=same_ev l0 y hly
 have hs:=cx_.calls k A0 c0 l0 By cy y _ w hr0 hc0 hry hcy hk
 have hcell:=bc_ hg 0 rfl
 generalize eqF l0 y=b at hs ⊢
 have HS:=Sd.m hs
 clear hs hg hr0 hc0 hk hry hcy hly
 go_enter Tryz.func109,Tryz.ntmps109
 go_wp2_with fail
 refine HS.out.mono ?_
 rintro e w' ⟨rfl,hb⟩
 have HB:=Sd.m hb.below
 clear hb
 go_wp2_with fail
 go_ret
 exact ⟨rfl,HB.out⟩
theorem index_same (y:List S74)(gc:Nat)(By:Option Addr)(cy:Nat)(A0:Option Addr)(c0:Nat)(l0:List (List S74))(w:World)(hr0:Kd.C (Kd.slice 74 k74) w A0 l0.length l0)(hc0:l0.length<=c0)(hry:Kd.C k74 w By y.length y)(hcy:y.length<=cy)(hly:y.length<=3000000)(hg:w.heap[gc]? =some (.cells #[.slice By y.length cy] 37 (0,0))):
  Calls Tryz.prog 137 #[.slice A0 l0.length c0,.func (.func 109) #[] #[.pointer (some ⟨gc,0,none⟩)]] w fun e w'=>e=.returned (.int .i64 (ixF (fun x_:List S74=>eqF x_ y) l0))∧Below w.heap.size w w':=by
 have HR:=Sd.m hr0
 have HG:=Sd.m hg
 have HY:=Sd.m hry
 have HCY:=Sd.m hcy
 have HLY:=Sd.m hly
 clear hg hry hcy hly
 have HM:l0.length<=9223372036854775807:=Kd.C_max hr0
 have eg: ∀ args w,(callFunc 109 args).run Tryz.prog w=.ok (.enter 109 args) w:=enters_of Tryz.func109 (by kernel_rfl) rfl
 clear hr0
 obtain ⟨p,hp⟩: ∃ p:List S74->Bool,p=fun x_:List S74=>eqF x_ y:=⟨_,rfl⟩
 rw [←hp]
 have HP:=Sd.m hp
 clear hp
 go_enter Tryz.func137,Tryz.ntmps137
 go_wp2_with fail
 go_loopw [8] (fun u W=>Lxi w l0 p u W) (fun u _=>l0.length - (intOf u).toNat)
 case atStart=>exact ⟨0,Nat.zero_le _,rfl,Below.refl _ _,(fun r hr=>by simp at hr)⟩
 case round=>
  obtain ⟨j,hj,rfl,hb,hno⟩:=hrel
  have HB:=Sd.m hb
  have HN:=Sd.m hno
  clear hb hno
  by_cases hlt:j<l0.length
  ·have b1:decide ((j:Int)<(l0.length:Int))=true:=dt__ (by omega)
   have b2:decide (j<l0.length)=true:=dt__ hlt
   obtain ⟨ad,A1,c1,rfl,k0,k1,k2⟩:=at_L3 (Kd.C_below HR.out HB.out) (j:Int) (by omega) (by omega)
   rw [Int.toNat_natCast] at k0
   have hq0:0<=(j:Int):=by omega
   have hq1:(j:Int)<(l0.length:Int):=by omega
   have w2:IntKind.i64.wrap ((j:Int)+1)=(j:Int)+1:=IntWalk.i64_in _ (by omega)
   have hel:l0[j]? =some (fc_ l0 j):=by
    unfold fc_
    rw [Int.toNat_natCast,List.getD_eq_getElem?_getD,List.getElem?_eq_getElem hlt]
    rfl
   have HE:=Sd.m hel
   clear hel
   obtain ⟨s,hs⟩: ∃ s,s=fc_ l0 j:=⟨_,rfl⟩
   rw [←hs] at k0 k1 k2 HE
   clear hs
   have HK:=Sd.m k2
   have HK1:=Sd.m k1
   clear k2 k1
   go_wp2_with fail
   have hrl:=same_one y gc By cy A1 c1 s wr HK.out HK1.out (Kd.C_below HY.out HB.out) HCY.out HLY.out (ag_ HG.out HB.out)
   rw [show eqF s y=p s from by rw [HP.out]] at hrl
   refine hrl.mono ?_
   clear hrl
   rintro e W7 ⟨rfl,hb7⟩
   have HB7:=Sd.m (HB.out.trans (hb7.mono HB.out.size))
   clear hb7 k0
   cases hi:p s with
   | true=>
    have HI:=Sd.m hi
    clear hi
    go_wp2_with fail
    go_ret
    have hfi:(l0.findIdx? p)=some j:=List.findIdx?_eq_some_iff_getElem.2 ⟨hlt,(by rw [List.getElem?_eq_getElem hlt] at HE;rw [Option.some.inj HE.out];exact HI.out),(fun i hi=>by
     have:=HN.out (l0[i]'(by omega)) (List.mem_take_iff_getElem.2 ⟨i,by omega,rfl⟩)
     rw [this]
     decide)⟩
    have hix:ixF p l0=j:=by
     unfold ixF
     rw [hfi]
    exact ⟨by rw [hix];rfl,HB7.out⟩
   | false=>
    have HI:=Sd.m hi
    clear hi
    go_wp2_with fail
    go_roundw
    case rel=>
     refine ⟨j+1,hlt,by go_num,HB7.out,fun r hr=>?_⟩
     rw [List.take_add_one,HE.out] at hr
     rcases List.mem_append.1 hr with hr | hr
     ·exact HN.out r hr
     ·simp at hr
      rw [hr]
      exact HI.out
    case measure=>simp [intOf];omega
  ·have b1:decide ((j:Int)<(l0.length:Int))=false:=df__ (by omega)
   have b2:decide (j<l0.length)=false:=df__ hlt
   go_wp2_with fail
   go_ret
   have:ixF p l0= -1:=by
    unfold ixF
    rw [List.findIdx?_eq_none_iff.2 fun x hx=>HN.out x (by rw [List.take_of_length_le (by omega)];exact hx)]
   exact ⟨by rw [this];rfl,HB.out⟩
noncomputable def inF (y:List S74)(l:List (List S74)):Bool:=l.any fun x=>eqF x y
theorem ki_ (y:List S74)(gc:Nat)(By:Option Addr)(cy:Nat)(A0:Option Addr)(c0:Nat)(l0:List (List S74))(w:World)(hr0:Kd.C (Kd.slice 74 k74) w A0 l0.length l0)(hc0:l0.length<=c0)(hry:Kd.C k74 w By y.length y)(hcy:y.length<=cy)(hly:y.length<=3000000)(hg:w.heap[gc]? =some (.cells #[.slice By y.length cy] 37 (0,0)))(b:Bool)(h:inF y l0=b):
  Calls Tryz.prog 108 #[.slice A0 l0.length c0,.func (.func 109) #[] #[.pointer (some ⟨gc,0,none⟩)]] w fun e w'=>e=.returned (.bool b)∧Below w.heap.size w w':=by
 have hi:=index_same y gc By cy A0 c0 l0 w hr0 hc0 hry hcy hly hg
 have hge:decide (0<=ixF (fun x:List S74=>eqF x y) l0)=b:=(ixF_ge _ l0).trans h
 generalize ixF (fun x:List S74=>eqF x y) l0=i at hi hge
 rw [←hge]
 have HI:=Sd.m hi
 clear hi hr0 hc0 hge h hry hcy hly hg
 go_enter Tryz.func108,Tryz.ntmps108
 go_wp2_with fail
 refine HI.out.mono ?_
 rintro e w' ⟨rfl,hb⟩
 have HB:=Sd.m hb
 clear hb
 go_wp2_with fail
 go_ret
 exact ⟨rfl,HB.out⟩
open Shelf YthfceiincmkccaaGreatW.PrintWords.Kd
theorem cq_ {P:Program}{ops:Array Oper}{o:Oper}{a:Act}{w w1:World}{K:Act->World->Prop}{Q:Exit->Act->World->Prop}{E:Prop}{v:Value}
  (hg:o.guard=none) (s x:Operand) (t:TypeId) (hop:o.op=Op.call { callee:=Callee.builtin Builtin.append,args:=#[s,x],argTypes:=#[t,t] })
  (vs vx:Value) (hs:a.eval s=vs) (hx:a.eval x=vx) (hrun:(Builtin.append_ #[t,t] o.type #[vs,vx]).run P w=.ok v w1)
  (hK:K (a.put o.dst v) w1):
  if Region.wanted o (yielded ops a.tmps)=true then Oper.wp P o a w K Q else E:=by
 have hw:Region.wanted o (yielded ops a.tmps)=true:=by simp [Region.wanted,hg]
 rw [if_pos hw]
 unfold Oper.wp
 simp [execOp,hop,resolve,invoke,builtin,hs,hx,hrun,Result.andThen]
 exact hK
def Held (w0 W:World)(v:Value)(xs:List (List S74)):Prop:=OwnRow ((Kd.slice 74 k74).K w0) 37 1 W w0.heap.size v xs
theorem Held.reads {w0 W:World}{v:Value}{xs:List (List S74)}(h:Held w0 W v xs)(hb:Below w0.heap.size w0 W): ∃ A c,v=.slice A xs.length c∧xs.length<=c∧Kd.C (Kd.slice 74 k74) W A xs.length xs:=by
 obtain ⟨A,c,e,hl,hr⟩:=OwnRow.reads h
 exact ⟨A,c,e,hl,ReadsRow.imp_ hr (Below.refl _ _) fun _ _ hp=>(Kd.slice 74 k74).K_below hb hp⟩
theorem Held.kept {w0 W W1:World}{v:Value}{xs:List (List S74)}(h:Held w0 W v xs)(hm: ∀ k,v.ownBlock=some k->W1.heap[k]? =W.heap[k]?):Held w0 W1 v xs:=by
 obtain ⟨inner,ho,hr⟩:=h
 exact ⟨inner,own_move ho hm,hr⟩
theorem held_app {w0 W:World}{v:Value}{xs:List (List S74)}(h:Held w0 W v xs)(y:List S74)(By:Option Addr)(cy:Nat)(hy:Kd.C k74 w0 By y.length y)(hcy:y.length<=cy)(a:Addr)(ha:W.cell? a=some (.slice By y.length cy))(hb:w0.heap.size<=W.heap.size)(hl:xs.length<=1000000):
  ∃ A4 c4 w2,(Builtin.append_ #[68,68] 68 #[v,.slice (some a) 1 1]).run Tryz.prog W=.ok (.slice A4 (xs.length+1) c4) w2∧Held w0 w2 (.slice A4 (xs.length+1) c4) (xs ++ [y])∧W.grownBy w2 v.ownBlock:=by
 obtain ⟨inner,ho,hr⟩:=h
 obtain ⟨i0,hi,hzz⟩:=Option.map_eq_some_iff.1 (show (Tryz.prog.info? 37).map (fun i=>(i.zero,i.size,i.bytes))=some (some (.slice none 0 0),1,24) by kernel_rfl)
 simp only [Prod.mk.injEq] at hzz
 obtain ⟨hz0,hz1,hz2⟩:=hzz
 obtain ⟨v1,w1,hrun,h2,hg,_,hat⟩:=run_append_own_at (P:=Tryz.prog) (w:=W) w0.heap.size 68 68 37 i0 (.slice none 0 0) 1 24 Tryz.underlying68 hi hz0 hz1 hz2 rfl (by decide) v xs.length inner ho a 1 1 [.slice By y.length cy] rfl (fun j u hu=>by
  cases j with
  | zero=>injection hu with hu;rw [←hu];exact ha
  | succ j=>simp at hu) (fun u hu=>by rw [List.mem_singleton.1 hu];rfl) (by simp only [maxLen];omega) (by omega) hb
 have hR:Reps ((Kd.slice 74 k74).K w0) 1 (xs ++ [y]) (inner ++ [.slice By y.length cy]):=hr.snoc ⟨By,cy,rfl,hcy,hy⟩ rfl
 have hH:Held w0 w1 v1 (xs ++ [y]):=⟨_,by rw [List.length_append];exact h2,hR⟩
 obtain ⟨A4,c4,e,_⟩:=OwnRow.reads hH
 rw [List.length_append] at e
 subst e
 exact ⟨A4,c4,w1,hrun,hH,hg⟩
def SetAt (w0 W:World)(gs:Nat)(xs:List (List S74)):Prop:=(∃ v,Boxed W gs 68 v∧Held w0 W v xs)∧Below w0.heap.size w0 W∧w0.heap.size<=gs
theorem SetAt.boxed {w0 W:World}{gs:Nat}{xs:List (List S74)}(h:SetAt w0 W gs xs): ∃ A c,Boxed W gs 68 (.slice A xs.length c)∧Held w0 W (.slice A xs.length c) xs∧xs.length<=c∧Kd.C (Kd.slice 74 k74) W A xs.length xs:=by
 obtain ⟨⟨v,hv,hh⟩,hb,_⟩:=h
 obtain ⟨A,c,rfl,hl,hr⟩:=hh.reads hb
 exact ⟨A,c,hv,hh,hl,hr⟩
def Kept45 (W W1:World):Prop:=W.heap.size<=W1.heap.size∧ ∀ (k:Nat) (cells:Array Value) (t:Nat),t≠37->t≠68->W.heap[k]? =some (Obj.cells cells t (0,0))->W1.heap[k]? =W.heap[k]?
theorem ei_ {W W1:World}(h:Below W.heap.size W W1):Kept45 W W1:=⟨h.size,fun k cells t _ _ hk=>h.block k (Array.getElem?_eq_some_iff.1 hk).1⟩
noncomputable def addF (xs:List (List S74))(y:List S74):List (List S74):=if inF y xs=true then xs else xs ++ [y]
theorem add_end (w0 W W3 w4:World)(gs:Nat)(xs:List (List S74))(y:List S74)(v v4:Value)(hin:inF y xs=false)(hgs:w0.heap.size<=gs)(hW0:w0.heap.size<=W.heap.size)(hb0:Below w0.heap.size w0 W)(hb3:Below W.heap.size W W3)(hh3:Held w0 W3 v xs)(hg4:W3.grownBy w4 v.ownBlock)(hv3:Boxed W3 gs 68 v)(hv4:Boxed w4 gs 68 v)(hh4:Held w0 w4 v4 (xs ++ [y])):
  SetAt w0 (w4.setCell ⟨gs,0,none⟩ v4) gs (addF xs y)∧Kept45 W (w4.setCell ⟨gs,0,none⟩ v4):=by
 obtain ⟨inner3,ho3,_⟩:=hh3
 have h3:Below w0.heap.size w0 W3:=hb0.trans (hb3.mono hW0)
 have h4:Below w0.heap.size w0 w4:=h3.grown hg4 h3.size fun k hk=>ga_ ho3 k hk
 rw [show addF xs y=xs ++ [y] from if_neg (by rw [hin];decide)]
 refine ⟨⟨⟨_,hv4.set v4,hh4.kept fun k hk=>?_⟩,h4.setCell (p:=⟨gs,0,none⟩) hgs _,hgs⟩,?_,fun k cells t ht1 ht2 hk=>?_⟩
 ·obtain ⟨inner4,ho4,_⟩:=hh4
  refine Below.heap_setCell w4 ⟨gs,0,none⟩ v4 k fun e=>?_
  exact hv4.not_row (by decide) ho4 (by rw [hk];exact congrArg some e.symm)
 ·exact Nat.le_trans hb3.size (Nat.le_trans hg4.size (by simp))
 ·have hlt:k<W.heap.size:=(Array.getElem?_eq_some_iff.1 hk).1
  have e3:W3.heap[k]? =W.heap[k]? :=hb3.block k hlt
  have hk3:W3.heap[k]? =some (Obj.cells cells t (0,0)):=e3.trans hk
  have e4:w4.heap[k]? =W3.heap[k]? :=hg4.block k (Array.getElem?_eq_some_iff.1 hk3).1 fun e=>by
   obtain ⟨cs,hc⟩:=ff_ ho3 k e.symm
   rw [hk3] at hc
   injection hc with hc
   injection hc with _ hc
   exact ht1 hc
  have hne:k≠gs:=fun e=>by
   rw [e] at hk3
   have:=hv3.symm.trans hk3
   injection this with this
   injection this with _ this
   exact ht2 this.symm
  exact ((Below.heap_setCell w4 ⟨gs,0,none⟩ v4 k hne).trans e4).trans e3
theorem add_calls (w0 W:World)(gs:Nat)(xs:List (List S74))(h:SetAt w0 W gs xs)(hxl:xs.length<=1000000)(y:List S74)(By:Option Addr)(cy:Nat)(hy:Kd.C k74 w0 By y.length y)(hcy:y.length<=cy)(hly:y.length<=3000000):
  Calls Tryz.prog 73 #[.pointer (some ⟨gs,0,none⟩),.slice By y.length cy] W fun e W1=>e=.returned (.tuple #[])∧SetAt w0 W1 gs (addF xs y)∧Kept45 W W1:=by
 obtain ⟨A,c,hv,hh,hl,hr⟩:=h.boxed
 have hb0:Below w0.heap.size w0 W:=h.2.1
 have hgs:w0.heap.size<=gs:=h.2.2
 have hW0:w0.heap.size<=W.heap.size:=hb0.size
 obtain ⟨W1,hW1⟩: ∃ W_,W_=W.alloc (.cells #[.slice By y.length cy] 37):=⟨_,rfl⟩
 have hbW:Below W.heap.size W W1:=by rw [hW1];exact ab_ (Below.refl W.heap.size W) _
 have hbx:W1.heap[W.heap.size]? =some (.cells #[.slice By y.length cy] 37 (0,0)):=by rw [hW1];exact aj_ _ _
 have hv1:Boxed W1 gs 68 (.slice A xs.length c):=by rw [hW1];exact hv.alloc _
 have hcell:(W.alloc (.cells #[.slice By y.length cy] 37)).cell? ⟨gs,0,none⟩=some (.slice A xs.length c):=by rw [←hW1];exact hv1.cell
 obtain ⟨b,hb⟩: ∃ b,inF y xs=b:=⟨_,rfl⟩
 have hs:=ki_ y W.heap.size By cy A c xs W1 (Kd.C_below hr hbW) hl (Kd.C_below (Kd.C_below hy hb0) hbW) hcy hly hbx b hb
 have HS:=Sd.m hs
 have HBX:=Sd.m hbx
 have HV:=Sd.m hv1
 have HBW:=Sd.m hbW
 have HH:=Sd.m hh
 have HB0:=Sd.m hb0
 have HIN:=Sd.m hb
 have HY:=Sd.m hy
 have HH0:=Sd.m h
 clear hs hbx hr hv1 hbW hh hb0 hb h hy
 go_enter Tryz.func73,Tryz.ntmps73
 go_wp2_with fail
 rw [←hW1]
 clear hW1 hcell
 refine HS.out.mono ?_
 rintro e W2 ⟨rfl,hb2⟩
 have hb12:Below W.heap.size W W2:=HBW.out.trans (hb2.mono HBW.out.size)
 have hv2:Boxed W2 gs 68 (.slice A xs.length c):=(hb2.block gs HV.out.lt).trans HV.out
 have hc2:=hv2.cell
 have hf2:=hv2.frozen
 have hn2:Boxed W2 W.heap.size 37 (.slice By y.length cy):=(hb2.block _ (Boxed.lt HBX.out)).trans HBX.out
 have hcn:=hn2.cell
 have HB12:=Sd.m hb12
 have HV2:=Sd.m hv2
 have HN2:=Sd.m hn2
 have hh2:Held w0 W2 (.slice A xs.length c) xs:=HH.out.kept fun k hk=>by
  obtain ⟨inner,ho,_⟩:=HH.out
  exact hb12.block k (own_lt ho k hk)
 have HH2:=Sd.m hh2
 clear hh2 hb12 hv2 hn2 hb2
 cases b with
 | true=>
  go_wp2_with fail
  refine Great.bodyPost_end0 rfl rfl ?_
  exact ⟨rfl,by rw [show addF xs y=xs from if_pos HIN.out];exact ⟨⟨_,HV2.out,HH2.out⟩,HB0.out.trans (HB12.out.mono hW0),hgs⟩,ei_ HB12.out⟩
 | false=>
  have hmx:Tryz.prog.follows .mixedOrders=true:=by kernel_rfl
  go_wp2_with fail
  obtain ⟨W3,hW3⟩: ∃ W_,W_=(W2.alloc (.cells #[.slice By y.length cy] 37)).drew:=⟨_,rfl⟩
  have hb3:Below W.heap.size W W3:=by
   rw [hW3]
   have q:=ab_ HB12.out (.cells #[.slice By y.length cy] 37)
   exact ⟨q.os,q.tape,q.output,q.size,q.block⟩
  have hh3:Held w0 W3 (.slice A xs.length c) xs:=HH.out.kept fun k hk=>by
   obtain ⟨inner,ho,_⟩:=HH.out
   exact hb3.block k (own_lt ho k hk)
  have hv3:Boxed W3 gs 68 (.slice A xs.length c):=(hb3.block gs hv.lt).trans hv
  have hnew:W3.cell? ⟨W2.heap.size,0,none⟩=some (.slice By y.length cy):=by rw [hW3];exact (Boxed.new W2 37 _).cell
  obtain ⟨A4,c4,w4,hrun,hh4,hg4⟩:=held_app hh3 y By cy HY.out hcy _ hnew (Nat.le_trans hW0 hb3.size) hxl
  have hne:some gs≠(Value.slice A xs.length c).ownBlock:=by
   obtain ⟨inner,ho,_⟩:=hh3
   exact hv3.not_row (by decide) ho
  have hv4:=hv3.kept hg4 hne
  have hc4:=hv4.cell
  have hf4:=hv4.frozen
  have hc3:=hv3.cell
  rw [hW3] at hrun hc3
  have HG4:=Sd.m hg4
  have HB3:=Sd.m hb3
  have HV4:=Sd.m hv4
  have HH3:=Sd.m hh3
  have HV3:=Sd.m hv3
  have HH4:=Sd.m hh4
  clear hW3 hg4 hv4 hh4 hb3 hh3 hv3 hnew
  go_region_law (refine cq_ rfl (.tmp 13) (.tmp 15) 68 rfl _ _ rfl rfl hrun ?_)
  all_goals
   refine Great.bodyPost_end0 rfl rfl ?_
   exact ⟨rfl,add_end w0 W W3 w4 gs xs y _ _ HIN.out hgs hW0 HB0.out HB3.out HH3.out HG4.out HV3.out HV4.out HH4.out⟩
noncomputable def formF (p:S45)(xs:List (List S74)):List (List S74):=
 p.f3.attach.foldl (fun a q=>formF q.1 a) (if p.f0=2 then addF xs p.f1 else xs)
termination_by SizeOf.sizeOf p
decreasing_by
 obtain ⟨q,hq⟩:=q
 have:=List.sizeOf_lt_of_mem hq
 cases p
 simp at*
 omega
theorem fm_ (p:S45)(xs:List (List S74)):formF p xs=p.f3.foldl (fun a q=>formF q a) (if p.f0=2 then addF xs p.f1 else xs):=by
 rw [formF]
 exact List.foldl_attach (l:=p.f3) (f:=fun a q=>formF q a)
def nodes (p:S45):Nat:=1+(p.f3.attach.map fun q=>nodes q.1).sum
termination_by SizeOf.sizeOf p
decreasing_by
 obtain ⟨q,hq⟩:=q
 have:=List.sizeOf_lt_of_mem hq
 cases p
 simp at*
 omega
theorem ew_ (p:S45):nodes p=1+(p.f3.map nodes).sum:=by
 rw [nodes,List.attach_map_val (l:=p.f3) (f:=nodes)]
inductive Wide:S45->Prop
 | mk (p:S45) (h:p.f1.length<=3000000) (hs: ∀ q∈p.f3,Wide q):Wide p
theorem SetAt.step {w0 W W1:World}{gs:Nat}{xs:List (List S74)}(h:SetAt w0 W gs xs)(hb:Below W.heap.size W W1):SetAt w0 W1 gs xs:=by
 obtain ⟨⟨v,hv,hh⟩,hb0,hgs⟩:=h
 refine ⟨⟨v,(hb.block gs hv.lt).trans hv,hh.kept fun k hk=>?_⟩,hb0.trans (hb.mono hb0.size),hgs⟩
 obtain ⟨inner,ho,_⟩:=hh
 exact hb.block k (own_lt ho k hk)
theorem Kept45.trans {W W1 W2:World}(h:Kept45 W W1)(h2:Kept45 W1 W2):Kept45 W W2:=
 ⟨Nat.le_trans h.1 h2.1,fun k cells t h1 h3 hk=>(h2.2 k cells t h1 h3 ((h.2 k cells t h1 h3 hk).trans hk)).trans (h.2 k cells t h1 h3 hk)⟩
theorem addF_len (xs:List (List S74))(y:List S74):(addF xs y).length<=xs.length+1:=by
 unfold addF
 by_cases h:inF y xs=true
 ·rw [if_pos h];omega
 ·rw [if_neg h];simp
theorem fs_ (p:S45): ∀ xs:List (List S74),(formF p xs).length<=xs.length+nodes p:=by
 intro xs
 rw [fm_,ew_]
 have key: ∀ (l:List S45),(∀ q∈l,q∈p.f3)-> ∀ a:List (List S74),(l.foldl (fun a q=>formF q a) a).length<=a.length+(l.map nodes).sum:=by
  intro l
  induction l with
  | nil=>intro _ a;simp
  | cons q l ih=>
   intro hl a
   rw [List.foldl_cons,List.map_cons,List.sum_cons]
   have h1:=ih (fun r hr=>hl r (List.mem_cons_of_mem _ hr)) (formF q a)
   have h2:=fs_ q a
   omega
 have h1:=key p.f3 (fun _ h=>h) (if p.f0=2 then addF xs p.f1 else xs)
 by_cases h:p.f0=2
 ·rw [if_pos h] at h1 ⊢
  have:=addF_len xs p.f1
  omega
 ·rw [if_neg h] at h1 ⊢
  omega
termination_by SizeOf.sizeOf p
decreasing_by
 have:=List.sizeOf_lt_of_mem (hl q (List.mem_cons_self ..))
 cases p
 simp at*
 omega
theorem fold_room (l:List S45)(j:Nat)(q:S45)(h:l[j]? =some q)(xs:List (List S74)):((l.take j).foldl (fun a q=>formF q a) xs).length+nodes q<=xs.length+(l.map nodes).sum:=by
 induction l generalizing j xs with
 | nil=>simp at h
 | cons r l ih=>
  cases j with
  | zero=>
   simp at h
   subst h
   simp
  | succ j=>
   have h1:=ih j (by simpa using h) (formF r xs)
   have h2:=fs_ r xs
   rw [List.take_succ_cons,List.foldl_cons,List.map_cons,List.sum_cons]
   omega
def FoO (w0 W:World)(gs:Nat)(p:S45)(xs:List (List S74))(u:Value)(W1:World):Prop:= ∃ j:Nat,j<=p.f3.length∧u=.int .i64 j∧SetAt w0 W1 gs ((p.f3.take j).foldl (fun a q=>formF q a) xs)∧Kept45 W W1
theorem form_no (w0 W:World)(gs:Nat)(p:S45)(xs:List (List S74))(h:SetAt w0 W gs xs)(A1:Option Addr)(c1:Nat)(A2:Option Addr)(c2:Nat)(A3:Option Addr)(c3:Nat)
  (l3:p.f3.length<=c3) (g3:k45.C w0 A3 p.f3.length p.f3) (hw: ∀ q∈p.f3,Wide q) (hxl:xs.length+(p.f3.map nodes).sum<=1000000) (hp:p.f0≠2)
  (ih: ∀ q∈p.f3,∀ (W:World) (xs:List (List S74)),SetAt w0 W gs xs->xs.length+nodes q<=1000000->Wide q-> ∀ (B1:Option Addr) (d1:Nat) (B2:Option Addr) (d2:Nat) (B3:Option Addr) (d3:Nat),q.f1.length<=d1->k74.C w0 B1 q.f1.length q.f1->q.f3.length<=d3->k45.C w0 B3 q.f3.length q.f3->
   Calls Tryz.prog 42 #[.pointer (some ⟨gs,0,none⟩),.agg #[.int .i64 q.f0,.slice B1 q.f1.length d1,.slice B2 q.f2.length d2,.slice B3 q.f3.length d3]] W fun e W1=>e=.returned (.tuple #[])∧SetAt w0 W1 gs (formF q xs)∧Kept45 W W1):
  Calls Tryz.prog 42 #[.pointer (some ⟨gs,0,none⟩),.agg #[.int .i64 p.f0,.slice A1 p.f1.length c1,.slice A2 p.f2.length c2,.slice A3 p.f3.length c3]] W fun e W1=>e=.returned (.tuple #[])∧SetAt w0 W1 gs (formF p xs)∧Kept45 W W1:=by
 have HX:=Sd.m h
 have HG:=Sd.m g3
 have HWI:=Sd.m hw
 have HI:=Sd.m ih
 have HXL:=Sd.m hxl
 have b1:(p.f0 == 2)=false:=by simpa using hp
 have HP:=Sd.m hp
 have HM:p.f3.length<=9223372036854775807:=Kd.C_max g3
 clear h g3 hw ih hxl hp
 go_enter Tryz.func42,Tryz.ntmps42
 go_wp2_with fail
 go_loopw [16] (fun u W1=>FoO w0 W gs p xs u W1) (fun u _=>p.f3.length - (intOf u).toNat)
 case atStart=>exact ⟨0,Nat.zero_le _,rfl,SetAt.step HX.out (ab_ (Below.refl _ _) _),ei_ (ab_ (Below.refl _ _) _)⟩
 case round=>
  obtain ⟨j,hj,rfl,hS,hK⟩:=hrel
  have HS:=Sd.m hS
  have HK:=Sd.m hK
  clear hS hK
  by_cases hlt:j<p.f3.length
  ·have b1:decide ((j:Int)<(p.f3.length:Int))=true:=dt__ (by omega)
   have b2:decide (j<p.f3.length)=true:=dt__ hlt
   have hq0:0<=(j:Int):=by omega
   have hq1:(j:Int)<(p.f3.length:Int):=by omega
   have w2:IntKind.i64.wrap ((j:Int)+1)=(j:Int)+1:=IntWalk.i64_in _ (by omega)
   obtain ⟨ad,B1,d1,B2,d2,B3,d3,rfl,k0,k1,k2,k3,m1,e1,m2,e2,m3,e3⟩:=jq_ HG.out (j:Int) (by omega) (by omega)
   rw [Int.toNat_natCast] at k0 k1 k2 k3
   have hel:p.f3[j]? =some (cy_ p.f3 (j:Int)):=by
    unfold cy_
    rw [Int.toNat_natCast,List.getD_eq_getElem?_getD,List.getElem?_eq_getElem hlt]
    rfl
   generalize cy_ p.f3 (j:Int)=q at k0 k1 k2 k3 m1 e1 m2 e2 m3 e3 hel
   replace k0:=(HS.out.2.1.cell (bl__ w0 _ k0)).trans k0
   replace k1:=(HS.out.2.1.cell (bl__ w0 _ k1)).trans k1
   replace k2:=(HS.out.2.1.cell (bl__ w0 _ k2)).trans k2
   replace k3:=(HS.out.2.1.cell (bl__ w0 _ k3)).trans k3
   have hroom:=fold_room p.f3 j q hel xs
   have HR:=Sd.m hroom
   have HE:=Sd.m hel
   have M1:=Sd.m m1
   have M3:=Sd.m m3
   have E1:=Sd.m e1
   have E3:=Sd.m e3
   clear hroom hel m1 m2 m3 e1 e2 e3
   go_wp2_with fail
   have hcall:=HI.out q (List.mem_of_getElem? HE.out) _ _ (SetAt.step HS.out (ab_ (Below.refl _ _) (.cells #[.int .i64 q.f0,.slice B1 q.f1.length d1,.slice B2 q.f2.length d2,.slice B3 q.f3.length d3] 45))) (by have:=HR.out;have:=HXL.out;omega) (HWI.out q (List.mem_of_getElem? HE.out)) B1 d1 B2 d2 B3 d3 M1.out E1.out M3.out E3.out
   refine hcall.mono ?_
   clear hcall
   rintro e W1 ⟨rfl,hS1,hK1⟩
   have HS1:=Sd.m hS1
   have HK1:=Sd.m (HK.out.trans (Kept45.trans (ei_ (ab_ (Below.refl _ _) _)) hK1))
   clear hS1 hK1 k0 k1 k2 k3
   go_wp2_with fail
   go_roundw
   case rel=>
    refine ⟨j+1,hlt,by go_num,?_,HK1.out⟩
    rw [List.take_add_one,HE.out,List.foldl_append]
    exact HS1.out
   case measure=>simp [intOf];omega
  ·have b1:decide ((j:Int)<(p.f3.length:Int))=false:=df__ (by omega)
   have b2:decide (j<p.f3.length)=false:=df__ hlt
   go_wp2_with fail
   refine Great.bodyPost_end0 rfl rfl ?_
   have hS:=HS.out
   rw [List.take_of_length_le (by omega)] at hS
   exact ⟨rfl,by rw [fm_,if_neg HP.out];exact hS,HK.out⟩
theorem form_yes (w0 W:World)(gs:Nat)(p:S45)(xs:List (List S74))(h:SetAt w0 W gs xs)(A1:Option Addr)(c1:Nat)(A2:Option Addr)(c2:Nat)(A3:Option Addr)(c3:Nat)
  (l1:p.f1.length<=c1) (g1:k74.C w0 A1 p.f1.length p.f1) (h1:p.f1.length<=3000000) (l3:p.f3.length<=c3) (g3:k45.C w0 A3 p.f3.length p.f3) (hw: ∀ q∈p.f3,Wide q) (hxl:xs.length+1+(p.f3.map nodes).sum<=1000000) (hp:p.f0=2)
  (ih: ∀ q∈p.f3,∀ (W:World) (xs:List (List S74)),SetAt w0 W gs xs->xs.length+nodes q<=1000000->Wide q-> ∀ (B1:Option Addr) (d1:Nat) (B2:Option Addr) (d2:Nat) (B3:Option Addr) (d3:Nat),q.f1.length<=d1->k74.C w0 B1 q.f1.length q.f1->q.f3.length<=d3->k45.C w0 B3 q.f3.length q.f3->
   Calls Tryz.prog 42 #[.pointer (some ⟨gs,0,none⟩),.agg #[.int .i64 q.f0,.slice B1 q.f1.length d1,.slice B2 q.f2.length d2,.slice B3 q.f3.length d3]] W fun e W1=>e=.returned (.tuple #[])∧SetAt w0 W1 gs (formF q xs)∧Kept45 W W1):
  Calls Tryz.prog 42 #[.pointer (some ⟨gs,0,none⟩),.agg #[.int .i64 p.f0,.slice A1 p.f1.length c1,.slice A2 p.f2.length c2,.slice A3 p.f3.length c3]] W fun e W1=>e=.returned (.tuple #[])∧SetAt w0 W1 gs (formF p xs)∧Kept45 W W1:=by
 have HX:=Sd.m h
 have HG:=Sd.m g3
 have HWI:=Sd.m hw
 have HI:=Sd.m ih
 have HXL:=Sd.m hxl
 have b1:(p.f0 == 2)=true:=by simpa using hp
 have HP:=Sd.m hp
 have HM:p.f3.length<=9223372036854775807:=Kd.C_max g3
 clear h g3 hw ih hxl hp
 go_enter Tryz.func42,Tryz.ntmps42
 have HG1:=Sd.m g1
 have HL1:=Sd.m l1
 have HH1:=Sd.m h1
 clear g1 l1 h1
 go_wp2_with fail
 have hcall0:=add_calls w0 _ gs xs (SetAt.step HX.out (ab_ (Below.refl W.heap.size W) (.cells #[.int .i64 p.f0,.slice A1 p.f1.length c1,.slice A2 p.f2.length c2,.slice A3 p.f3.length c3] 45))) (by have:=HXL.out;omega) p.f1 A1 c1 HG1.out HL1.out HH1.out
 refine hcall0.mono ?_
 clear hcall0
 rintro e Wn ⟨rfl,hSn,hKn⟩
 have hbox:Wn.heap[W.heap.size]? =some (.cells #[.int .i64 p.f0,.slice A1 p.f1.length c1,.slice A2 p.f2.length c2,.slice A3 p.f3.length c3] 45 (0,0)):=(hKn.2 W.heap.size _ 45 (by decide) (by decide) (aj_ W _)).trans (aj_ W _)
 have hc3:=bc_ hbox 3 rfl
 have HSN:=Sd.m hSn
 have HKN:=Sd.m (Kept45.trans (ei_ (ab_ (Below.refl W.heap.size W) _)) hKn)
 have hxn:(addF xs p.f1).length+(p.f3.map nodes).sum<=1000000:=by have:=addF_len xs p.f1;have:=HXL.out;omega
 have HXN:=Sd.m hxn
 clear hSn hKn hbox hxn
 obtain ⟨ys,hys⟩: ∃ ys,ys=addF xs p.f1:=⟨_,rfl⟩
 rw [←hys] at HSN HXN
 have HYS:=Sd.m hys
 clear hys
 go_wp2_with fail
 go_loopw [16] (fun u W1=>FoO w0 W gs p ys u W1) (fun u _=>p.f3.length - (intOf u).toNat)
 case atStart=>exact ⟨0,Nat.zero_le _,rfl,HSN.out,HKN.out⟩
 case round=>
  obtain ⟨j,hj,rfl,hS,hK⟩:=hrel
  have HS:=Sd.m hS
  have HK:=Sd.m hK
  clear hS hK
  by_cases hlt:j<p.f3.length
  ·have b1:decide ((j:Int)<(p.f3.length:Int))=true:=dt__ (by omega)
   have b2:decide (j<p.f3.length)=true:=dt__ hlt
   have hq0:0<=(j:Int):=by omega
   have hq1:(j:Int)<(p.f3.length:Int):=by omega
   have w2:IntKind.i64.wrap ((j:Int)+1)=(j:Int)+1:=IntWalk.i64_in _ (by omega)
   obtain ⟨ad,B1,d1,B2,d2,B3,d3,rfl,k0,k1,k2,k3,m1,e1,m2,e2,m3,e3⟩:=jq_ HG.out (j:Int) (by omega) (by omega)
   rw [Int.toNat_natCast] at k0 k1 k2 k3
   have hel:p.f3[j]? =some (cy_ p.f3 (j:Int)):=by
    unfold cy_
    rw [Int.toNat_natCast,List.getD_eq_getElem?_getD,List.getElem?_eq_getElem hlt]
    rfl
   generalize cy_ p.f3 (j:Int)=q at k0 k1 k2 k3 m1 e1 m2 e2 m3 e3 hel
   replace k0:=(HS.out.2.1.cell (bl__ w0 _ k0)).trans k0
   replace k1:=(HS.out.2.1.cell (bl__ w0 _ k1)).trans k1
   replace k2:=(HS.out.2.1.cell (bl__ w0 _ k2)).trans k2
   replace k3:=(HS.out.2.1.cell (bl__ w0 _ k3)).trans k3
   have hroom:=fold_room p.f3 j q hel ys
   have HR:=Sd.m hroom
   have HE:=Sd.m hel
   have M1:=Sd.m m1
   have M3:=Sd.m m3
   have E1:=Sd.m e1
   have E3:=Sd.m e3
   clear hroom hel m1 m2 m3 e1 e2 e3
   go_wp2_with fail
   have hcall:=HI.out q (List.mem_of_getElem? HE.out) _ _ (SetAt.step HS.out (ab_ (Below.refl _ _) (.cells #[.int .i64 q.f0,.slice B1 q.f1.length d1,.slice B2 q.f2.length d2,.slice B3 q.f3.length d3] 45))) (by have:=HR.out;have:=HXN.out;omega) (HWI.out q (List.mem_of_getElem? HE.out)) B1 d1 B2 d2 B3 d3 M1.out E1.out M3.out E3.out
   refine hcall.mono ?_
   clear hcall
   rintro e W1 ⟨rfl,hS1,hK1⟩
   have HS1:=Sd.m hS1
   have HK1:=Sd.m (HK.out.trans (Kept45.trans (ei_ (ab_ (Below.refl _ _) _)) hK1))
   clear hS1 hK1 k0 k1 k2 k3
   go_wp2_with fail
   go_roundw
   case rel=>
    refine ⟨j+1,hlt,by go_num,?_,HK1.out⟩
    rw [List.take_add_one,HE.out,List.foldl_append]
    exact HS1.out
   case measure=>simp [intOf];omega
  ·have b1:decide ((j:Int)<(p.f3.length:Int))=false:=df__ (by omega)
   have b2:decide (j<p.f3.length)=false:=df__ hlt
   go_wp2_with fail
   refine Great.bodyPost_end0 rfl rfl ?_
   have hS:=HS.out
   rw [List.take_of_length_le (by omega)] at hS
   exact ⟨rfl,by rw [fm_,if_pos HP.out,←HYS.out];exact hS,HK.out⟩
theorem fg_ (w0:World)(gs:Nat)(p:S45): ∀ (W:World) (xs:List (List S74)),SetAt w0 W gs xs->xs.length+nodes p<=1000000->Wide p-> ∀ (A1:Option Addr) (c1:Nat) (A2:Option Addr) (c2:Nat) (A3:Option Addr) (c3:Nat),p.f1.length<=c1->k74.C w0 A1 p.f1.length p.f1->p.f3.length<=c3->k45.C w0 A3 p.f3.length p.f3->
  Calls Tryz.prog 42 #[.pointer (some ⟨gs,0,none⟩),.agg #[.int .i64 p.f0,.slice A1 p.f1.length c1,.slice A2 p.f2.length c2,.slice A3 p.f3.length c3]] W fun e W1=>e=.returned (.tuple #[])∧SetAt w0 W1 gs (formF p xs)∧Kept45 W W1:=by
 intro W xs h hx hwd A1 c1 A2 c2 A3 c3 l1 g1 l3 g3
 rw [ew_] at hx
 obtain ⟨_,h1,hs⟩:=hwd
 by_cases hp:p.f0=2
 ·exact form_yes w0 W gs p xs h A1 c1 A2 c2 A3 c3 l1 g1 h1 l3 g3 hs (by omega) hp fun q hq=>fg_ w0 gs q
 ·exact form_no w0 W gs p xs h A1 c1 A2 c2 A3 c3 l3 g3 hs (by omega) hp fun q hq=>fg_ w0 gs q
termination_by SizeOf.sizeOf p
decreasing_by
 all_goals
  have:=List.sizeOf_lt_of_mem hq
  cases p
  simp at*
  omega
end L
namespace LX
open Shelf YthfceiincmkccaaGreatW.PrintWords.Kd A K L B
open Go.Proofs.YthfceiincmkccaaGreat.P (withinF go_)
noncomputable def tellF (L:List (List S74))(p:S45):S45:=⟨p.f0,p.f1,if p.f0=2 then withinF L p.f1 else [],p.f3.attach.map fun q=>tellF L q.1⟩
termination_by SizeOf.sizeOf p
decreasing_by
 obtain ⟨q,hq⟩:=q
 have:=List.sizeOf_lt_of_mem hq
 cases p
 simp at*
 omega
theorem hn_ (L:List (List S74))(p:S45):tellF L p=⟨p.f0,p.f1,if p.f0=2 then withinF L p.f1 else [],p.f3.map (tellF L)⟩:=by
 rw [tellF]
 congr 1
 exact List.attach_map_val (l:=p.f3) (f:=tellF L)
def TellAns (W:World)(P:Nat->Prop)(p:S45)(e:Ending)(w':World):Prop:= ∃ v,e=.returned v∧PatV w' (fun k=>P k∨W.heap.size<=k) v p∧Below W.heap.size W w'
structure TlAt (W Wm:World) (P:Nat->Prop) (a0 a1 a2:Value) (w:World) (u v:Value) (xs:List S45):Prop where
 N:Kd.N k45 45 w Wm.heap.size (fun k=>(P k∧k<W.heap.size)∨Wm.heap.size<=k) v xs
 B:Below W.heap.size W w
 sz:Wm.heap.size<=w.heap.size
 keep: ∀ k,k<Wm.heap.size->k≠W.heap.size+2->w.heap[k]? =Wm.heap[k]?
 t:w.heap[W.heap.size+2]? =some (.cells #[a0,a1,a2,u] 45 (0,0))
 lo:W.heap.size+3<=Wm.heap.size
section
variable {W Wm w w1:World} {P:Nat->Prop} {a0 a1 a2 u v:Value} {xs:List S45}
theorem TlAt.below (h:TlAt W Wm P a0 a1 a2 w u v xs)(hb:Below w.heap.size w w1):TlAt W Wm P a0 a1 a2 w1 u v xs:=
 ⟨N_below h.N hb,h.B.trans (hb.mono h.B.size),Nat.le_trans h.sz hb.size,fun k hk hn=>(hb.block k (Nat.lt_of_lt_of_le hk h.sz)).trans (h.keep k hk hn),ag_ h.t hb,h.lo⟩
theorem TlAt.F {α:Type}{d:Kd α}{ok:Nat->Prop}{A:Option Addr}{n:Nat}{ys:List α}(h:TlAt W Wm P a0 a1 a2 w u v xs)(hF:Kd.F d Wm ok A n ys)(hok: ∀ k,ok k->k≠W.heap.size+2):Kd.F d w ok A n ys:=
 F_step hF fun k hk hlt=>h.keep k hlt (hok k hk)
theorem TlAt.app {A:Option Addr}{c:Nat}(h:TlAt W Wm P a0 a1 a2 w u (.slice A xs.length c) xs)(y:S45)(B1:Option Addr)(m1:Nat)(okp:Nat->Prop)(hy:Kd.F k45 w okp B1 1 [y])(hokp: ∀ k,okp k->((P k∧k<W.heap.size)∨Wm.heap.size<=k)∧some k≠(Value.slice A xs.length c).ownBlock)(hl:(xs.length+1)*80<=140737488355328):
  ∃ C1 k1 w1,(Builtin.append_ #[43,43] 43 #[.slice A xs.length c,.slice B1 1 m1]).run Tryz.prog w=.ok (.slice C1 (xs ++ [y]).length k1) w1∧TlAt W Wm P a0 a1 a2 w1 u (.slice C1 (xs ++ [y]).length k1) (xs ++ [y]):=by
 obtain ⟨v1,w1,hrun,hN,hg,hat⟩:=eh_ (P:=Tryz.prog) k45 (W:=w) Wm.heap.size 43 43 45 (.agg #[.int .i64 0,.slice none 0 0,.slice none 0 0,.slice none 0 0]) 80 Tryz.underlying43 (by kernel_rfl) rfl (by decide) (by decide) (.slice A xs.length c) xs [y] B1 1 m1 (fun k=>(P k∧k<W.heap.size)∨Wm.heap.size<=k) okp h.N hy hokp (fun k hk=>Or.inr (Nat.le_trans h.sz hk)) h.sz hl
 obtain ⟨C1,k1,rfl⟩:=N_slice hN
 have hbase:=fun k hk=>N_base h.N k hk
 have hlo:=h.lo
 refine ⟨C1,k1,w1,hrun,hN,h.B.grown hg h.B.size (fun k hk=>by have:=hbase k hk;omega),Nat.le_trans h.sz hg.size,fun k hk hn=>(hg.block k (Nat.lt_of_lt_of_le hk h.sz) (fun e=>by have:=hbase k e.symm;omega)).trans (h.keep k hk hn),?_,h.lo⟩
 exact (hg.block _ (cb_ h.t) (fun e=>by have:=hbase _ e.symm;omega)).trans h.t
theorem TlAt.store (h:TlAt W Wm P a0 a1 a2 w u v xs):TlAt W Wm P a0 a1 a2 (w.setCell ⟨W.heap.size+2,3,none⟩ v) v v xs:=by
 have hlo:=h.lo
 refine ⟨N_far (p:=⟨W.heap.size+2,3,none⟩) h.N (fun k hk=>by show k≠W.heap.size+2;omega) v,h.B.setCell (p:=⟨W.heap.size+2,3,none⟩) (by show W.heap.size<=W.heap.size+2;omega) _,by simpa [World.setCell] using h.sz,fun k hk hn=>(Below.heap_setCell w ⟨W.heap.size+2,3,none⟩ v k hn).trans (h.keep k hk hn),?_,h.lo⟩
 simpa using dn_ h.t 3 v
end
def TlO (W Wm:World)(P:Nat->Prop)(a0 a1 a2:Value)(L:List (List S74))(l:List S45)(s:Value)(Wx:World):Prop:=
 ∃ (j:Nat) (A:Option Addr) (c:Nat),j<=l.length∧s=.int .i64 j∧TlAt W Wm P a0 a1 a2 Wx (.slice A ((l.take j).map (tellF L)).length c) (.slice A ((l.take j).map (tellF L)).length c) ((l.take j).map (tellF L))
theorem nodes_kid {l:List S45}{q:S45}(h:q∈l):nodes q<=(l.map nodes).sum:=by
 induction l with
 | nil=>cases h
 | cons a l ih=>
  rw [List.map_cons,List.sum_cons]
  rcases List.mem_cons.1 h with rfl | h
  ·omega
  ·have:=ih h
   omega
theorem nodes_pos (q:S45):1<=nodes q:=by rw [ew_];omega
theorem nodes_len (l:List S45):l.length<=(l.map nodes).sum:=by
 induction l with
 | nil=>exact Nat.le_refl _
 | cons a l ih=>
  rw [List.map_cons,List.sum_cons,List.length_cons]
  have:=nodes_pos a
  omega
theorem N_store_step {P:Program}{ops:Array Oper}{o:Oper}{a:Act}{W:World}{K:Act->World->Prop}{Q:Exit->Act->World->Prop}{E:Prop}{α:Type}(d:Kd α)(base:Nat)(hN:o.dst=none)(hgd:o.guard=none)(t:TypeId)(p x:Operand)(ho:o.op=.store t p x)(e:TypeId){g n cap o':Nat}(i:Int)(j:Nat)(xs:List α)(x':α)(u:Value)(seg c:List Value)(ok okp:Nat->Prop)
  (haddr:a.eval p=.pointer (some ⟨g,o',none⟩)) (hoff:o'=i.toNat*d.sz+j) (hx:a.eval x=u) (hu:u.cells.toList=seg) (ht:(P.info? t).map (·.size)=some seg.length) (h1: ∀ q∈seg,q.oneCell'=true)
  (HO:Kd.N d e W base ok (.slice (some ⟨g,0,none⟩) n cap) xs) (h0:0<=i) (hi:i<n) (hcl:c.length=d.sz) (hcc: ∀ j u,c[j]? =some u->W.cell? ⟨g,i.toNat*d.sz+j,none⟩=some u)
  (hj:j+seg.length<=d.sz) (hM:Kd.FK d W okp x' (c.take j ++ seg ++ c.drop (j+seg.length))) (hokp: ∀ k,okp k->ok k∧k≠g)
  (h: ∀ w1,Kd.N d e w1 base ok (.slice (some ⟨g,0,none⟩) n cap) (xs.set i.toNat x')->W.grownBy w1 (some g)->K a w1):
  if Region.wanted o (yielded ops a.tmps)=true then Oper.wp P o a W K Q else E:=by
 have hw:Region.wanted o (yielded ops a.tmps)=true:=by simp [Region.wanted,hgd]
 rw [if_pos hw]
 subst hoff
 obtain ⟨hrow,hg⟩:=N_seg HO i h0 hi hcl hcc hj hM hokp
 have hnx:n=xs.length:=(N_reads' HO).1
 obtain ⟨hown,rows,hl,hR,hf⟩:=HO
 obtain ⟨_,inner,hown2,hr⟩:=hR
 have hil:i.toNat<n:=by omega
 have hrun:(Instr.storeAt t (.pointer (some ⟨g,i.toNat*d.sz+j,none⟩)) u).run P W=.ok () (W.setCells g (i.toNat*d.sz+j) seg):=by
  rcases hown2.2 with ⟨hv,_⟩ | ⟨g',cap',cur,hv,hb,hh,hnc,hcm,hcs,_⟩
  ·cases hv
  injection hv with ha _ hc
  injection ha with ha
  injection ha with hg'
  subst hg';subst hc
  refine jz_ t u seg hh hu ht ?_ h1
  have h2:i.toNat*d.sz+d.sz<=n*d.sz:=by rw [←Nat.succ_mul];exact Nat.mul_le_mul_right _ hil
  have h3:n*d.sz<=cap*d.sz:=Nat.mul_le_mul_right _ (by omega)
  have h4:cap*d.sz=cap*(raw d.sz).sz:=rfl
  omega
 unfold Oper.wp execOp
 simp only [ho,haddr,hx,Sem.run_bind,Sem.run_pure,Result.andThen_ok,hrun]
 show K (a.put o.dst undef) _
 rw [hN]
 exact h _ hrow hg
theorem run_eql23 (w:World)(a:Option Addr)(l c:Nat):(binOp .eql 23 (.slice a l c) (.slice none 0 0)).run Tryz.prog w=.ok (.bool a.isNone) w:=by
 simp only [binOp]
 simp [run_equal_slice_nil w 23 55 a l c Tryz.underlying23]
attribute [local go_sem] run_eql23
section
attribute [-go_sem] Builtin.append_
theorem clone_calls (W:World)(A:Option Addr)(l:List S55)(c:Nat)(hc:l.length<=c)(okp:Nat->Prop)(hF:Kd.F k55 W okp A l.length l)(hl:l.length<=1000000):
  Calls Tryz.prog 63 #[.slice A l.length c] W fun e w'=> ∃ v,e=.returned v∧Kd.N k55 55 w' W.heap.size (fun k=>(okp k∧k<W.heap.size)∨W.heap.size<=k) v l∧Below W.heap.size W w':=by
 cases A with
 | none=>
  have h0:l=[]:=by
   refine List.eq_nil_of_length_eq_zero ?_
   by_cases h:0<l.length
   ·obtain ⟨ad,e,_⟩:=(F_now hF).2.2 h
    cases e
   ·omega
  subst h0
  go_enter Tryz.func63,Tryz.ntmps63
  go_wp2_with fail
  go_ret
  exact ⟨_,rfl,N_nil _ _ _ _ _,Below.refl _ _⟩
 | some ad=>
  obtain ⟨W1,hW1⟩: ∃ W_,W_=W.alloc (.cells #[] 55):=⟨_,rfl⟩
  have hb1:Below W.heap.size W W1:=by rw [hW1];exact ab_ (Below.refl W.heap.size W) _
  have hn1:W1.heap[W.heap.size]? =some (.cells #[] 55 (0,0)):=by rw [hW1];exact aj_ W _
  have hN:=N_empty k55 hn1 W.heap.size (Nat.le_refl _) (fun k=>(okp k∧k<W.heap.size)∨W.heap.size<=k) (Or.inr (Nat.le_refl _))
  obtain ⟨v1,w1,hrun,hN1,hg,_⟩:=eh_ (P:=Tryz.prog) k55 (W:=W1) W.heap.size 23 23 55 (.agg #[.int .i64 0,.bool false,.int .i64 0,.slice none 0 0,.slice none 0 0,.slice none 0 0,.int .i64 0,.slice none 0 0,.slice none 0 0,.slice none 0 0,.int .i64 0]) 184 Tryz.underlying23 (by kernel_rfl) rfl (by decide) (by decide) (.slice (some ⟨W.heap.size,0,none⟩) 0 0) [] l (some ad) l.length c (fun k=>(okp k∧k<W.heap.size)∨W.heap.size<=k) (fun k=>okp k∧k<W.heap.size) hN (F_below (F_bound hF) hb1) (fun k hk=>⟨Or.inl hk,fun e=>by
    have:W.heap.size=k:=by simpa [Value.ownBlock] using e.symm
    have:=hk.2
    omega⟩) (fun k hk=>Or.inr (Nat.le_trans hb1.size hk)) hb1.size (by simp;omega)
  have HN:=Sd.m hN1
  have HB:=Sd.m (hb1.grown hg hb1.size (fun k hk=>by
    have:W.heap.size=k:=by simpa [Value.ownBlock] using hk
    omega))
  rw [hW1] at hrun
  have e1:(([]:List S55) ++ l)=l:=rfl
  rw [e1] at HN
  clear hb1 hn1 hN hg hW1 hN1 e1
  go_enter Tryz.func63,Tryz.ntmps63
  go_wp2_with fail
  go_ret
  exact ⟨_,rfl,HN.out,HB.out⟩
end
open Go.Proofs.YthfceiincmkccaaGreat.P (withinF go_)
theorem tell_no (L:List (List S74))(hL:L.length<=100000)(w0:World)(At:Option Addr)(ct:Nat)(hct:L.length<=ct)(hAt:Kd.C (Kd.slice 74 k74) w0 At L.length L)(p:S45)(hn:1+(p.f3.map nodes).sum<=1000000)(hp:p.f0≠2)
  (ih: ∀ q∈p.f3,∀ (W:World),Below w0.heap.size w0 W->nodes q<=1000000-> ∀ (P:Nat->Prop) (B1:Option Addr) (d1:Nat) (B2:Option Addr) (d2:Nat) (B3:Option Addr) (d3:Nat),q.f1.length<=d1->Kd.F k74 W P B1 q.f1.length q.f1->q.f3.length<=d3->Kd.F k45 W P B3 q.f3.length q.f3->Calls Tryz.prog 19 #[.agg #[.int .i64 q.f0,.slice B1 q.f1.length d1,.slice B2 q.f2.length d2,.slice B3 q.f3.length d3],.slice At L.length ct] W (TellAns W P (tellF L q)))
  (W:World) (hw0:Below w0.heap.size w0 W) (P:Nat->Prop) (A1:Option Addr) (c1:Nat) (A2:Option Addr) (c2:Nat) (A3:Option Addr) (c3:Nat) (l1:p.f1.length<=c1) (g1:Kd.F k74 W P A1 p.f1.length p.f1) (l3:p.f3.length<=c3) (g3:Kd.F k45 W P A3 p.f3.length p.f3):
  Calls Tryz.prog 19 #[.agg #[.int .i64 p.f0,.slice A1 p.f1.length c1,.slice A2 p.f2.length c2,.slice A3 p.f3.length c3],.slice At L.length ct] W (TellAns W P ⟨p.f0,p.f1,([]:List Int),p.f3.map (tellF L)⟩):=by
 unfold TellAns
 obtain ⟨W3,hW3⟩: ∃ W_,W_=((W.alloc (.cells #[.int .i64 p.f0,.slice A1 p.f1.length c1,.slice A2 p.f2.length c2,.slice A3 p.f3.length c3] 45)).alloc (.cells #[.int .i64 0,.slice none 0 0,.slice none 0 0,.slice none 0 0] 45)).alloc (.cells #[.int .i64 p.f0,.slice A1 p.f1.length c1,.slice none 0 0,.slice none 0 0] 45):=⟨_,rfl⟩
 have ea:(W.alloc (.cells #[.int .i64 p.f0,.slice A1 p.f1.length c1,.slice A2 p.f2.length c2,.slice A3 p.f3.length c3] 45)).heap.size=W.heap.size+1:=Array.size_push _
 have eb:((W.alloc (.cells #[.int .i64 p.f0,.slice A1 p.f1.length c1,.slice A2 p.f2.length c2,.slice A3 p.f3.length c3] 45)).alloc (.cells #[.int .i64 0,.slice none 0 0,.slice none 0 0,.slice none 0 0] 45)).heap.size=W.heap.size+2:=(Array.size_push _).trans (congrArg (· +1) ea)
 have hs3:W3.heap.size=W.heap.size+3:=by rw [hW3];exact (Array.size_push _).trans (congrArg (· +1) eb)
 have hb3:Below W.heap.size W W3:=by rw [hW3];exact ab_ (ab_ (ab_ (Below.refl W.heap.size W) _) _) _
 have hp3:W3.heap[W.heap.size]? =some (.cells #[.int .i64 p.f0,.slice A1 p.f1.length c1,.slice A2 p.f2.length c2,.slice A3 p.f3.length c3] 45 (0,0)):=by rw [hW3];exact an_ (an_ (aj_ W _) _) _
 have hz3:W3.heap[W.heap.size+1]? =some (.cells #[.int .i64 0,.slice none 0 0,.slice none 0 0,.slice none 0 0] 45 (0,0)):=by rw [hW3];exact an_ (ea ▸ aj_ (W.alloc (.cells #[.int .i64 p.f0,.slice A1 p.f1.length c1,.slice A2 p.f2.length c2,.slice A3 p.f3.length c3] 45)) _) _
 have ht3:W3.heap[W.heap.size+2]? =some (.cells #[.int .i64 p.f0,.slice A1 p.f1.length c1,.slice none 0 0,.slice none 0 0] 45 (0,0)):=by rw [hW3];exact eb ▸ aj_ ((W.alloc (.cells #[.int .i64 p.f0,.slice A1 p.f1.length c1,.slice A2 p.f2.length c2,.slice A3 p.f3.length c3] 45)).alloc (.cells #[.int .i64 0,.slice none 0 0,.slice none 0 0,.slice none 0 0] 45)) _
 have hs1:Kd.F k74 W3 (fun k=>P k∧k<W.heap.size) A1 p.f1.length p.f1:=F_below (F_bound g1) hb3
 have hk3:Kd.F k45 W3 (fun k=>P k∧k<W.heap.size) A3 p.f3.length p.f3:=F_below (F_bound g3) hb3
 have hp1:(p.f0 == 2)=false:=by simpa using hp
 have HM:p.f3.length<=9223372036854775807:=F_max g3
 have HL:=Sd.m hL
 have HN:=Sd.m hn
 have HIH:=Sd.m ih
 have HW0:=Sd.m hw0
 have HAT:=Sd.m hAt
 clear ea eb hL hn ih g1 g3 hAt hw0 hp
 obtain ⟨Wm,hWm⟩: ∃ W_,W_=W3:=⟨_,rfl⟩
 rw [←hWm] at hW3 hs3 hb3 hp3 hz3 ht3 hs1 hk3
 have HT0:Sd (TlAt W Wm P (.int .i64 p.f0) (.slice A1 p.f1.length c1) (.slice none 0 0) Wm (.slice none 0 0) (.slice none 0 0) []):=⟨⟨N_nil _ _ _ _ _,hb3,Nat.le_refl _,fun _ _ _=>rfl,ht3,by omega⟩⟩
 have HPB:=Sd.m hp3
 have HZB:=Sd.m hz3
 have HS1:=Sd.m hs1
 have HK3:=Sd.m hk3
 have HG2:Sd (Kd.F (Kd.int .i64) Wm (fun k=>W.heap.size+3<=k) none ([]:List Int).length ([]:List Int)):=⟨F_nil _ _ _⟩
 have HWM:=Sd.m hW3
 clear hp3 hz3 ht3 hs3 hb3 hs1 hk3 hW3 hWm
 go_enter Tryz.func19,Tryz.ntmps19
 go_wp2_with fail
 rw [←HWM.out]
 go_loopw [24] (fun u Wx=>TlO W Wm P (.int .i64 p.f0) (.slice A1 p.f1.length c1) (.slice none 0 0) L p.f3 u Wx) (fun u _=>p.f3.length - (intOf u).toNat)
 case atStart=>exact ⟨0,none,0,Nat.zero_le _,rfl,HT0.out⟩
 case round=>
  obtain ⟨j,A6,c6,hj,rfl,hT⟩:=hrel
  obtain ⟨xs,hxs⟩: ∃ xs,xs=(p.f3.take j).map (tellF L):=⟨_,rfl⟩
  rw [←hxs] at hT
  have HT:=Sd.m hT
  have HXS:=Sd.m hxs
  have hxl:xs.length=j:=by rw [hxs,List.length_map,List.length_take];omega
  have HX9:Sd (xs.length<=1000000):=⟨by have:=HN.out;have:=nodes_len p.f3;omega⟩
  have hX:=(HT.out.keep W.heap.size (by have:=HT.out.lo;omega) (by omega)).trans HPB.out
  clear hT hxs hxl
  by_cases hlt:j<p.f3.length
  ·have b1:decide ((j:Int)<(p.f3.length:Int))=true:=dt__ (by omega)
   have b2:decide (j<p.f3.length)=true:=dt__ hlt
   have hq0:0<=(j:Int):=by omega
   have hq1:(j:Int)<(p.f3.length:Int):=by omega
   have w2:IntKind.i64.wrap ((j:Int)+1)=(j:Int)+1:=IntWalk.i64_in _ (by omega)
   obtain ⟨ad,cs,rfl,_,hFK,hcc,_⟩:=F_get (HT.out.F HK3.out (fun k hk=>by have:=hk.2;omega)) z45 (j:Int) (by omega) (by omega)
   rw [Int.toNat_natCast] at hFK hcc
   have hel:p.f3[j]? =some (p.f3.getD j z45):=by rw [List.getD_eq_getElem?_getD,List.getElem?_eq_getElem hlt];rfl
   generalize p.f3.getD j z45=q at hFK hel
   obtain ⟨B1,d1,B2,d2,B3,d3,rfl,m1,e1,m2,e2,m3,e3⟩:=k45_openF hFK
   have k0:wr.cell? (ad.add (j*4))=some (.int .i64 q.f0):=hcc 0 _ rfl
   have k1:wr.cell? ⟨(ad.add (j*4)).block,(ad.add (j*4)).off+1,none⟩=some (.slice B1 q.f1.length d1):=by rw [←aw_ _ _ 1 (by omega)];exact hcc 1 _ rfl
   have k2:wr.cell? ⟨(ad.add (j*4)).block,(ad.add (j*4)).off+2,none⟩=some (.slice B2 q.f2.length d2):=by rw [←aw_ _ _ 2 (by omega)];exact hcc 2 _ rfl
   have k3:wr.cell? ⟨(ad.add (j*4)).block,(ad.add (j*4)).off+3,none⟩=some (.slice B3 q.f3.length d3):=by rw [←aw_ _ _ 3 (by omega)];exact hcc 3 _ rfl
   have hbx:=ab_ (Below.refl wr.heap.size wr) (.cells #[.int .i64 q.f0,.slice B1 q.f1.length d1,.slice B2 q.f2.length d2,.slice B3 q.f3.length d3] 45)
   have hq7:=aj_ wr (.cells #[.int .i64 q.f0,.slice B1 q.f1.length d1,.slice B2 q.f2.length d2,.slice B3 q.f3.length d3] 45)
   obtain ⟨Vd,hVd⟩: ∃ W_,W_=(wr.alloc (.cells #[.int .i64 q.f0,.slice B1 q.f1.length d1,.slice B2 q.f2.length d2,.slice B3 q.f3.length d3] 45)).drew:=⟨_,rfl⟩
   have hbd:Below wr.heap.size wr Vd:=by rw [hVd];exact cg_ hbx
   have hkid:=HIH.out q (List.mem_of_getElem? hel) Vd (HW0.out.trans ((HT.out.B.trans (hbd.mono HT.out.B.size)).mono HW0.out.size)) (by have:=nodes_kid (List.mem_of_getElem? hel);have:=HN.out;omega) (fun k=>P k∧k<W.heap.size) B1 d1 B2 d2 B3 d3 m1 (F_below e1 hbd) m3 (F_below e3 hbd)
   have HC:=Sd.m hkid
   have TD:=Sd.m (HT.out.below hbd)
   have HEL:=Sd.m hel
   obtain ⟨zs,hzs⟩: ∃ zs,zs=xs ++ [tellF L q]:=⟨_,rfl⟩
   have HZS:=Sd.m hzs
   have OKP:Sd (∀ k,((P k∧k<W.heap.size)∨Vd.heap.size<=k)->((P k∧k<W.heap.size)∨Wm.heap.size<=k)∧some k≠(Value.slice A6 xs.length c6).ownBlock):=by
    refine ⟨fun k hk=>⟨Or.elim hk Or.inl (fun h=>Or.inr (Nat.le_trans (Nat.le_trans HT.out.sz hbd.size) h)),fun e=>?_⟩⟩
    have h1:=N_base HT.out.N k e.symm
    have h2:=N_lt HT.out.N k e.symm
    have h3:=HT.out.lo
    have h4:=hbd.size
    omega
   have HS:Sd (∀ w',Below Vd.heap.size Vd w'->w'.cell? ⟨W.heap.size+2,3,none⟩=some (.slice A6 xs.length c6)∧w'.cell? ⟨wr.heap.size,0,none⟩=some (.int .i64 q.f0)∧w'.cell? ⟨wr.heap.size,1,none⟩=some (.slice B1 q.f1.length d1)∧w'.cell? ⟨wr.heap.size,2,none⟩=some (.slice B2 q.f2.length d2)∧w'.cell? ⟨wr.heap.size,3,none⟩=some (.slice B3 q.f3.length d3)):=by
    refine ⟨fun w' hw=>?_⟩
    have hq:=hbd.trans (hw.mono hbd.size)
    have cw:=fun (a:Addr) (v:Value) (h:wr.cell? a=some v)=>(hq.cell (bl__ wr _ h)).trans h
    have h7:=ag_ hq7 (show Below (wr.alloc (.cells #[.int .i64 q.f0,.slice B1 q.f1.length d1,.slice B2 q.f2.length d2,.slice B3 q.f3.length d3] 45)).heap.size (wr.alloc (.cells #[.int .i64 q.f0,.slice B1 q.f1.length d1,.slice B2 q.f2.length d2,.slice B3 q.f3.length d3] 45)) w' from (show Below _ _ Vd by rw [hVd];exact cg_ (Below.refl _ _)).trans (hw.mono (show (wr.alloc (.cells #[.int .i64 q.f0,.slice B1 q.f1.length d1,.slice B2 q.f2.length d2,.slice B3 q.f3.length d3] 45)).heap.size<=Vd.heap.size by rw [hVd];exact Nat.le_refl _)))
    exact ⟨cw _ _ ((ae_ HT.out.t 3).trans rfl),(ae_ h7 0).trans rfl,(ae_ h7 1).trans rfl,(ae_ h7 2).trans rfl,(ae_ h7 3).trans rfl⟩
   have c6_:wr.cell? ⟨W.heap.size+2,3,none⟩=some (.slice A6 xs.length c6):=(ae_ HT.out.t 3).trans rfl
   clear hkid hcc hFK e1 e2 e3 hbd hel hzs
   go_upto_region 7 with fail
   refine start_ (n:=9) (S:=fun w'=>w'.cell? ⟨W.heap.size+2,3,none⟩=some (.slice A6 xs.length c6)∧w'.cell? ⟨wr.heap.size,0,none⟩=some (.int .i64 q.f0)∧w'.cell? ⟨wr.heap.size,1,none⟩=some (.slice B1 q.f1.length d1)∧w'.cell? ⟨wr.heap.size,2,none⟩=some (.slice B2 q.f2.length d2)∧w'.cell? ⟨wr.heap.size,3,none⟩=some (.slice B3 q.f3.length d3)) (ds:=[6,8]) #[false,false,false,false,false,false,false,false,false] (by kernel_rfl) rfl rfl (by rw [←hVd];exact (HS.out _ (Below.refl _ _))) (fun hHeld=>?_)
   rw [←hVd] at hHeld ⊢
   clear hVd
   refine pu_ 0 28 ?_
   refine pu_ 3 31 ?_
   refine ta_ 1 29 hHeld ?_
   refine ta_ 2 30 hHeld ?_
   refine on_ 4 32 (fun K hK=>?_)
   refine goes_ Tryz.func19 (by kernel_rfl) rfl #[.agg #[.int .i64 q.f0,.slice B1 q.f1.length d1,.slice B2 q.f2.length d2,.slice B3 q.f3.length d3],.slice At L.length ct] (by rfl) rfl rfl (by simp only [List.map_toArray,List.map_cons,List.map_nil];rfl) ?_
   with_reducible refine (HC.out).mono ?_
   rintro e_ V1 ⟨_,rfl,⟨E1,e1,E2,e2,E3,e3,rfl,m1,g1,m2,g2,m3,g3⟩,hb_⟩
   refine ⟨_,rfl,?_⟩
   have HFK:=Sd.m (k45_mkF _ _ (tellF L q) m1 g1 m2 g2 m3 g3)
   have T1:=Sd.m (TD.out.below hb_)
   have B1_:=Sd.m hb_
   clear m1 g1 m2 g2 m3 g3 hb_
   refine hK.out _ _ (HS.out _ B1_.out) (fun hHeld=>?_)
   clear hK K
   refine no_ 32 ?_
   refine on_ 5 33 (fun K hK=>?_)
   refine value_ (w1:=?_) (v:=?_) (by rfl) rfl ?_ ?_
   rotate_left 2
   ·go_simp
    constructor
    ·rfl
    ·rfl
   have hg_:=aj_ V1 (.cells #[.int .i64 (tellF L q).f0,.slice E1 (tellF L q).f1.length e1,.slice E2 (tellF L q).f2.length e2,.slice E3 (tellF L q).f3.length e3] 45)
   have hb_:=ab_ (Below.refl V1.heap.size V1) (.cells #[.int .i64 (tellF L q).f0,.slice E1 (tellF L q).f1.length e1,.slice E2 (tellF L q).f2.length e2,.slice E3 (tellF L q).f3.length e3] 45)
   generalize hW_:V1.alloc (.cells #[.int .i64 (tellF L q).f0,.slice E1 (tellF L q).f1.length e1,.slice E2 (tellF L q).f2.length e2,.slice E3 (tellF L q).f3.length e3] 45)=V2 at hg_ hb_ ⊢
   have T2:=Sd.m (T1.out.below hb_)
   have B2_:=Sd.m (B1_.out.trans (hb_.mono B1_.out.size))
   have HY:Sd (Kd.F k45 V2 (fun k=>(P k∧k<W.heap.size)∨Vd.heap.size<=k) (some ⟨V1.heap.size,0,none⟩) 1 [tellF L q]):=⟨F_one hg_ (Or.inr B1_.out.size) (fun W' hW'=>HFK.out W' (fun k hk hlt=>(hW' k hk (Nat.lt_of_lt_of_le hlt hb_.size)).trans (hb_.block k hlt)))⟩
   clear hg_ hb_ hW_
   refine hK.out _ _ (HS.out _ B2_.out) (fun hHeld=>?_)
   clear hK K
   refine no_ 33 ?_
   refine last_ (i:=6) (N:=some 34) #[true,true,true,true,true,true,true,false,false] rfl rfl (by kernel_rfl) (by decide) (fun K hK=>?_)
   obtain ⟨C1,k1,V3,hrun_,hT_⟩:=T2.out.app (tellF L q) (some ⟨V1.heap.size,0,none⟩) 1 _ HY.out OKP.out (by have:=HX9.out;omega)
   rw [←HZS.out] at hrun_ hT_
   refine cq_ rfl (.tmp 29) (.tmp 33) 43 rfl _ _ rfl rfl hrun_ ?_
   have T3:=Sd.m hT_
   have n3:V3.cell? ⟨W.heap.size+2,3,none⟩=some (.slice A6 xs.length c6):=(ae_ hT_.t 3).trans rfl
   have m3:V3.frozen? ⟨W.heap.size+2,3,none⟩=false:=aa_ hT_.t 3
   clear hrun_ hT_
   refine hK.out _ _ ?_
   clear hK K
   refine no_ 34 ?_
   refine pu_ 7 35 ?_
   refine last_ (i:=8) (N:=none) #[true,true,true,true,true,true,true,true,true] rfl rfl (by kernel_rfl) (by decide) (fun K hK=>?_)
   refine skip_ (w1:=?_) (by rfl) rfl ?_ ?_
   rotate_left
   ·go_simp
    rfl
   refine hK.out _ _ ?_
   clear hK K
   refine done_ (by kernel_rfl) ?_
   go_wp2_with fail
   go_roundw
   case rel=>
    refine ⟨j+1,C1,k1,hlt,by go_num,?_⟩
    have hx:(p.f3.take (j+1)).map (tellF L)=zs:=by rw [HZS.out,HXS.out,List.take_add_one,HEL.out,List.map_append];rfl
    rw [hx]
    exact T3.out.store
   case measure=>simp [intOf];omega
  ·have b1:decide ((j:Int)<(p.f3.length:Int))=false:=df__ (by omega)
   have b2:decide (j<p.f3.length)=false:=df__ hlt
   have hx:xs=p.f3.map (tellF L):=by rw [HXS.out,List.take_of_length_le (by omega)]
   obtain ⟨V2,hV2⟩: ∃ W_,W_=putL wr (W.heap.size+1) 0 [.int .i64 p.f0,.slice A1 p.f1.length c1,.slice none 0 0,.slice A6 xs.length c6]:=⟨_,rfl⟩
   have hp:=HT.out.t
   have hr:=(HT.out.keep (W.heap.size+1) (by have:=HT.out.lo;omega) (by omega)).trans HZB.out
   have p0:=bc_ hp 0 rfl
   have p1:=bc_ hp 1 rfl
   have p2:=bc_ hp 2 rfl
   have p3:=bc_ hp 3 rfl
   have q0:=bc_ hr 0 rfl
   have r0:=aa_ hr 0
   have q1:=bc_ hr 1 rfl
   have r1:=aa_ hr 1
   have q2:=bc_ hr 2 rfl
   have r2:=aa_ hr 2
   have q3:=bc_ hr 3 rfl
   have r3:=aa_ hr 3
   have hr2:V2.heap[W.heap.size+1]? =some (.cells #[.int .i64 p.f0,.slice A1 p.f1.length c1,.slice none 0 0,.slice A6 xs.length c6] 45 (0,0)):=by rw [hV2];exact cr_ _ wr 0 _ hr
   have hb2:Below W.heap.size W V2:=by rw [hV2];exact cn_ (by omega) _ _ _ HT.out.B
   have f1:Kd.F k74 V2 (fun k=>P k∨W.heap.size<=k) A1 p.f1.length p.f1:=by rw [hV2];exact F_mono (cf_ (ok:=fun k=>P k∧k<W.heap.size) (fun k hk=>by omega) _ _ _ (HT.out.F HS1.out (fun k hk=>by have:=hk.2;omega))) (fun k hk=>Or.inl hk.1)
   have f2:Kd.F (Kd.int .i64) V2 (fun k=>P k∨W.heap.size<=k) none ([]:List Int).length ([]:List Int):=by rw [hV2];exact F_mono (cf_ (ok:=fun k=>W.heap.size+3<=k) (fun k hk=>by omega) _ _ _ (HT.out.F HG2.out (fun k hk=>by omega))) (fun k hk=>Or.inr (by omega))
   have f3:Kd.F k45 V2 (fun k=>P k∨W.heap.size<=k) A6 xs.length xs:=by rw [hV2];exact F_mono (cf_ (ok:=fun k=>(P k∧k<W.heap.size)∨Wm.heap.size<=k) (fun k hk=>by have:=HT.out.lo;omega) _ _ _ (N_F HT.out.N)) (fun k hk=>Or.elim hk (fun h=>Or.inl h.1) (fun h=>Or.inr (by have:=HT.out.lo;omega)))
   have hcc:=(N_reads' HT.out.N).2.1
   replace hV2:V2=((((wr.setCell ⟨W.heap.size+1,0,none⟩ (.int .i64 p.f0)).setCell ⟨W.heap.size+1,1,none⟩ (.slice A1 p.f1.length c1)).setCell ⟨W.heap.size+1,2,none⟩ (.slice none 0 0)).setCell ⟨W.heap.size+1,3,none⟩ (.slice A6 xs.length c6)):=hV2
   have HR2:=Sd.m hr2
   have HB2:=Sd.m hb2
   have F1:=Sd.m f1
   have F2:=Sd.m f2
   have F3:=Sd.m f3
   have HV2:=Sd.m hV2
   have HXX:=Sd.m hx
   clear hp hr hr2 hb2 f1 f2 f3 hV2 hx
      
   go_wp2_with fail
   rw [←HV2.out]
   refine bodyPost_ret (results_cell_row rfl _ _ (W.heap.size+1) 45 #[.int .i64 p.f0,.slice A1 p.f1.length c1,.slice none 0 0,.slice A6 xs.length c6] (0,0) _ rfl HR2.out Tryz.underlying45 rfl (by kernel_rfl)) rfl ?_
   rw [←HXX.out]
   exact ⟨_,rfl,⟨A1,c1,none,0,A6,c6,rfl,l1,F1.out,Nat.le_refl _,F2.out,hcc,F3.out⟩,HB2.out⟩
theorem tell_yes (L:List (List S74))(hL:L.length<=100000)(w0:World)(At:Option Addr)(ct:Nat)(hct:L.length<=ct)(hAt:Kd.C (Kd.slice 74 k74) w0 At L.length L)(p:S45)(hn:1+(p.f3.map nodes).sum<=1000000)(hp:p.f0=2)
  (ih: ∀ q∈p.f3,∀ (W:World),Below w0.heap.size w0 W->nodes q<=1000000-> ∀ (P:Nat->Prop) (B1:Option Addr) (d1:Nat) (B2:Option Addr) (d2:Nat) (B3:Option Addr) (d3:Nat),q.f1.length<=d1->Kd.F k74 W P B1 q.f1.length q.f1->q.f3.length<=d3->Kd.F k45 W P B3 q.f3.length q.f3->Calls Tryz.prog 19 #[.agg #[.int .i64 q.f0,.slice B1 q.f1.length d1,.slice B2 q.f2.length d2,.slice B3 q.f3.length d3],.slice At L.length ct] W (TellAns W P (tellF L q)))
  (W:World) (hw0:Below w0.heap.size w0 W) (P:Nat->Prop) (A1:Option Addr) (c1:Nat) (A2:Option Addr) (c2:Nat) (A3:Option Addr) (c3:Nat) (l1:p.f1.length<=c1) (g1:Kd.F k74 W P A1 p.f1.length p.f1) (l3:p.f3.length<=c3) (g3:Kd.F k45 W P A3 p.f3.length p.f3):
  Calls Tryz.prog 19 #[.agg #[.int .i64 p.f0,.slice A1 p.f1.length c1,.slice A2 p.f2.length c2,.slice A3 p.f3.length c3],.slice At L.length ct] W (TellAns W P ⟨p.f0,p.f1,(withinF L p.f1),p.f3.map (tellF L)⟩):=by
 unfold TellAns
 obtain ⟨W3,hW3⟩: ∃ W_,W_=((W.alloc (.cells #[.int .i64 p.f0,.slice A1 p.f1.length c1,.slice A2 p.f2.length c2,.slice A3 p.f3.length c3] 45)).alloc (.cells #[.int .i64 0,.slice none 0 0,.slice none 0 0,.slice none 0 0] 45)).alloc (.cells #[.int .i64 p.f0,.slice A1 p.f1.length c1,.slice none 0 0,.slice none 0 0] 45):=⟨_,rfl⟩
 have ea:(W.alloc (.cells #[.int .i64 p.f0,.slice A1 p.f1.length c1,.slice A2 p.f2.length c2,.slice A3 p.f3.length c3] 45)).heap.size=W.heap.size+1:=Array.size_push _
 have eb:((W.alloc (.cells #[.int .i64 p.f0,.slice A1 p.f1.length c1,.slice A2 p.f2.length c2,.slice A3 p.f3.length c3] 45)).alloc (.cells #[.int .i64 0,.slice none 0 0,.slice none 0 0,.slice none 0 0] 45)).heap.size=W.heap.size+2:=(Array.size_push _).trans (congrArg (· +1) ea)
 have hs3:W3.heap.size=W.heap.size+3:=by rw [hW3];exact (Array.size_push _).trans (congrArg (· +1) eb)
 have hb3:Below W.heap.size W W3:=by rw [hW3];exact ab_ (ab_ (ab_ (Below.refl W.heap.size W) _) _) _
 have hp3:W3.heap[W.heap.size]? =some (.cells #[.int .i64 p.f0,.slice A1 p.f1.length c1,.slice A2 p.f2.length c2,.slice A3 p.f3.length c3] 45 (0,0)):=by rw [hW3];exact an_ (an_ (aj_ W _) _) _
 have hz3:W3.heap[W.heap.size+1]? =some (.cells #[.int .i64 0,.slice none 0 0,.slice none 0 0,.slice none 0 0] 45 (0,0)):=by rw [hW3];exact an_ (ea ▸ aj_ (W.alloc (.cells #[.int .i64 p.f0,.slice A1 p.f1.length c1,.slice A2 p.f2.length c2,.slice A3 p.f3.length c3] 45)) _) _
 have ht3:W3.heap[W.heap.size+2]? =some (.cells #[.int .i64 p.f0,.slice A1 p.f1.length c1,.slice none 0 0,.slice none 0 0] 45 (0,0)):=by rw [hW3];exact eb ▸ aj_ ((W.alloc (.cells #[.int .i64 p.f0,.slice A1 p.f1.length c1,.slice A2 p.f2.length c2,.slice A3 p.f3.length c3] 45)).alloc (.cells #[.int .i64 0,.slice none 0 0,.slice none 0 0,.slice none 0 0] 45)) _
 have hs1:Kd.F k74 W3 (fun k=>P k∧k<W.heap.size) A1 p.f1.length p.f1:=F_below (F_bound g1) hb3
 have hk3:Kd.F k45 W3 (fun k=>P k∧k<W.heap.size) A3 p.f3.length p.f3:=F_below (F_bound g3) hb3
 have hp1:(p.f0 == 2)=true:=by simpa using hp
 have HM:p.f3.length<=9223372036854775807:=F_max g3
 have HL:=Sd.m hL
 have HN:=Sd.m hn
 have HIH:=Sd.m ih
 have HW0:=Sd.m hw0
 have HAT:=Sd.m hAt
 clear ea eb hL hn ih g1 g3 hAt hw0 hp
 obtain ⟨kw,hkw0⟩:=go_ L p.f1 HL.out
 have hkw:=hkw0 kw (Nat.le_refl _)
 have HWI:=Sd.m (D.bv_.calls kw At ct L A1 c1 p.f1 (withinF L p.f1) W3 (Kd.C_below HAT.out (HW0.out.trans (hb3.mono HW0.out.size))) hct (F_now hs1) l1 hkw)
 clear hkw hkw0
 have HP3:=Sd.m hp3
 have HZ3:=Sd.m hz3
 have HTT3:=Sd.m ht3
 have HS3:=Sd.m hs3
 have HB3:=Sd.m hb3
 have HS13:=Sd.m hs1
 have HK33:=Sd.m hk3
 have HW3:=Sd.m hW3
 clear hp3 hz3 ht3 hs3 hb3 hs1 hk3 hW3
 go_enter Tryz.func19,Tryz.ntmps19
 go_wp2_with fail
 rw [←HW3.out]
 refine HWI.out.mono ?_
 rintro e V ⟨v,rfl,hR,hb⟩
 obtain ⟨Aw,cw,rfl⟩:=R_slice hR
 have hlw:=(R_reads' hR).2.1
 have hs3:=HS3.out
 have ht:=ag_ HTT3.out hb
 have n2:=bc_ ht 2 rfl
 have m2:=aa_ ht 2
 have x3:=bc_ (ag_ HP3.out hb) 3 rfl
 obtain ⟨Wm,hWm⟩: ∃ W_,W_=V.setCell ⟨W.heap.size+2,2,none⟩ (.slice Aw (withinF L p.f1).length cw):=⟨_,rfl⟩
 have hszm:Wm.heap.size=V.heap.size:=by rw [hWm];simp [World.setCell]
 have hbm:Below W.heap.size W Wm:=by rw [hWm];exact (HB3.out.trans (hb.mono HB3.out.size)).setCell (p:=⟨W.heap.size+2,2,none⟩) (by show W.heap.size<=W.heap.size+2;omega) _
 have hkp: ∀ k,k≠W.heap.size+2->Wm.heap[k]? =V.heap[k]? :=fun k hk=>by rw [hWm];exact Below.heap_setCell V ⟨W.heap.size+2,2,none⟩ _ k hk
 have htm:Wm.heap[W.heap.size+2]? =some (.cells #[.int .i64 p.f0,.slice A1 p.f1.length c1,.slice Aw (withinF L p.f1).length cw,.slice none 0 0] 45 (0,0)):=by rw [hWm];simpa using dn_ ht 2 (.slice Aw (withinF L p.f1).length cw)
 have hsz:=hb.size
 have HT0:Sd (TlAt W Wm P (.int .i64 p.f0) (.slice A1 p.f1.length c1) (.slice Aw (withinF L p.f1).length cw) Wm (.slice none 0 0) (.slice none 0 0) []):=⟨⟨N_nil _ _ _ _ _,hbm,Nat.le_refl _,fun _ _ _=>rfl,htm,by omega⟩⟩
 have HPB:=Sd.m ((hkp W.heap.size (by omega)).trans (ag_ HP3.out hb))
 have HZB:=Sd.m ((hkp (W.heap.size+1) (by omega)).trans (ag_ HZ3.out hb))
 have HS1:Sd (Kd.F k74 Wm (fun k=>P k∧k<W.heap.size) A1 p.f1.length p.f1):=⟨F_step (F_below HS13.out hb) (fun k hk _=>hkp k (by have:=hk.2;omega))⟩
 have HK3:Sd (Kd.F k45 Wm (fun k=>P k∧k<W.heap.size) A3 p.f3.length p.f3):=⟨F_step (F_below HK33.out hb) (fun k hk _=>hkp k (by have:=hk.2;omega))⟩
 have HG2:Sd (Kd.F (Kd.int .i64) Wm (fun k=>W.heap.size+3<=k) Aw (withinF L p.f1).length (withinF L p.f1)):=⟨F_step (F_mono (N_F (R_N (R_bound hR))) (fun k hk=>by have:=hk.2.1;omega)) (fun k hk _=>hkp k (by omega))⟩
 have HWM:=Sd.m hWm
 clear hszm hbm hkp htm hsz hb hR ht hs3 hWm
 go_wp2_with fail
 rw [←HWM.out]
 go_loopw [24] (fun u Wx=>TlO W Wm P (.int .i64 p.f0) (.slice A1 p.f1.length c1) (.slice Aw (withinF L p.f1).length cw) L p.f3 u Wx) (fun u _=>p.f3.length - (intOf u).toNat)
 case atStart=>exact ⟨0,none,0,Nat.zero_le _,rfl,HT0.out⟩
 case round=>
  obtain ⟨j,A6,c6,hj,rfl,hT⟩:=hrel
  obtain ⟨xs,hxs⟩: ∃ xs,xs=(p.f3.take j).map (tellF L):=⟨_,rfl⟩
  rw [←hxs] at hT
  have HT:=Sd.m hT
  have HXS:=Sd.m hxs
  have hxl:xs.length=j:=by rw [hxs,List.length_map,List.length_take];omega
  have HX9:Sd (xs.length<=1000000):=⟨by have:=HN.out;have:=nodes_len p.f3;omega⟩
  have hX:=(HT.out.keep W.heap.size (by have:=HT.out.lo;omega) (by omega)).trans HPB.out
  clear hT hxs hxl
  by_cases hlt:j<p.f3.length
  ·have b1:decide ((j:Int)<(p.f3.length:Int))=true:=dt__ (by omega)
   have b2:decide (j<p.f3.length)=true:=dt__ hlt
   have hq0:0<=(j:Int):=by omega
   have hq1:(j:Int)<(p.f3.length:Int):=by omega
   have w2:IntKind.i64.wrap ((j:Int)+1)=(j:Int)+1:=IntWalk.i64_in _ (by omega)
   obtain ⟨ad,cs,rfl,_,hFK,hcc,_⟩:=F_get (HT.out.F HK3.out (fun k hk=>by have:=hk.2;omega)) z45 (j:Int) (by omega) (by omega)
   rw [Int.toNat_natCast] at hFK hcc
   have hel:p.f3[j]? =some (p.f3.getD j z45):=by rw [List.getD_eq_getElem?_getD,List.getElem?_eq_getElem hlt];rfl
   generalize p.f3.getD j z45=q at hFK hel
   obtain ⟨B1,d1,B2,d2,B3,d3,rfl,m1,e1,m2,e2,m3,e3⟩:=k45_openF hFK
   have k0:wr.cell? (ad.add (j*4))=some (.int .i64 q.f0):=hcc 0 _ rfl
   have k1:wr.cell? ⟨(ad.add (j*4)).block,(ad.add (j*4)).off+1,none⟩=some (.slice B1 q.f1.length d1):=by rw [←aw_ _ _ 1 (by omega)];exact hcc 1 _ rfl
   have k2:wr.cell? ⟨(ad.add (j*4)).block,(ad.add (j*4)).off+2,none⟩=some (.slice B2 q.f2.length d2):=by rw [←aw_ _ _ 2 (by omega)];exact hcc 2 _ rfl
   have k3:wr.cell? ⟨(ad.add (j*4)).block,(ad.add (j*4)).off+3,none⟩=some (.slice B3 q.f3.length d3):=by rw [←aw_ _ _ 3 (by omega)];exact hcc 3 _ rfl
   have hbx:=ab_ (Below.refl wr.heap.size wr) (.cells #[.int .i64 q.f0,.slice B1 q.f1.length d1,.slice B2 q.f2.length d2,.slice B3 q.f3.length d3] 45)
   have hq7:=aj_ wr (.cells #[.int .i64 q.f0,.slice B1 q.f1.length d1,.slice B2 q.f2.length d2,.slice B3 q.f3.length d3] 45)
   obtain ⟨Vd,hVd⟩: ∃ W_,W_=(wr.alloc (.cells #[.int .i64 q.f0,.slice B1 q.f1.length d1,.slice B2 q.f2.length d2,.slice B3 q.f3.length d3] 45)).drew:=⟨_,rfl⟩
   have hbd:Below wr.heap.size wr Vd:=by rw [hVd];exact cg_ hbx
   have hkid:=HIH.out q (List.mem_of_getElem? hel) Vd (HW0.out.trans ((HT.out.B.trans (hbd.mono HT.out.B.size)).mono HW0.out.size)) (by have:=nodes_kid (List.mem_of_getElem? hel);have:=HN.out;omega) (fun k=>P k∧k<W.heap.size) B1 d1 B2 d2 B3 d3 m1 (F_below e1 hbd) m3 (F_below e3 hbd)
   have HC:=Sd.m hkid
   have TD:=Sd.m (HT.out.below hbd)
   have HEL:=Sd.m hel
   obtain ⟨zs,hzs⟩: ∃ zs,zs=xs ++ [tellF L q]:=⟨_,rfl⟩
   have HZS:=Sd.m hzs
   have OKP:Sd (∀ k,((P k∧k<W.heap.size)∨Vd.heap.size<=k)->((P k∧k<W.heap.size)∨Wm.heap.size<=k)∧some k≠(Value.slice A6 xs.length c6).ownBlock):=by
    refine ⟨fun k hk=>⟨Or.elim hk Or.inl (fun h=>Or.inr (Nat.le_trans (Nat.le_trans HT.out.sz hbd.size) h)),fun e=>?_⟩⟩
    have h1:=N_base HT.out.N k e.symm
    have h2:=N_lt HT.out.N k e.symm
    have h3:=HT.out.lo
    have h4:=hbd.size
    omega
   have HS:Sd (∀ w',Below Vd.heap.size Vd w'->w'.cell? ⟨W.heap.size+2,3,none⟩=some (.slice A6 xs.length c6)∧w'.cell? ⟨wr.heap.size,0,none⟩=some (.int .i64 q.f0)∧w'.cell? ⟨wr.heap.size,1,none⟩=some (.slice B1 q.f1.length d1)∧w'.cell? ⟨wr.heap.size,2,none⟩=some (.slice B2 q.f2.length d2)∧w'.cell? ⟨wr.heap.size,3,none⟩=some (.slice B3 q.f3.length d3)):=by
    refine ⟨fun w' hw=>?_⟩
    have hq:=hbd.trans (hw.mono hbd.size)
    have cw:=fun (a:Addr) (v:Value) (h:wr.cell? a=some v)=>(hq.cell (bl__ wr _ h)).trans h
    have h7:=ag_ hq7 (show Below (wr.alloc (.cells #[.int .i64 q.f0,.slice B1 q.f1.length d1,.slice B2 q.f2.length d2,.slice B3 q.f3.length d3] 45)).heap.size (wr.alloc (.cells #[.int .i64 q.f0,.slice B1 q.f1.length d1,.slice B2 q.f2.length d2,.slice B3 q.f3.length d3] 45)) w' from (show Below _ _ Vd by rw [hVd];exact cg_ (Below.refl _ _)).trans (hw.mono (show (wr.alloc (.cells #[.int .i64 q.f0,.slice B1 q.f1.length d1,.slice B2 q.f2.length d2,.slice B3 q.f3.length d3] 45)).heap.size<=Vd.heap.size by rw [hVd];exact Nat.le_refl _)))
    exact ⟨cw _ _ ((ae_ HT.out.t 3).trans rfl),(ae_ h7 0).trans rfl,(ae_ h7 1).trans rfl,(ae_ h7 2).trans rfl,(ae_ h7 3).trans rfl⟩
   have c6_:wr.cell? ⟨W.heap.size+2,3,none⟩=some (.slice A6 xs.length c6):=(ae_ HT.out.t 3).trans rfl
   clear hkid hcc hFK e1 e2 e3 hbd hel hzs
   go_upto_region 7 with fail
   refine start_ (n:=9) (S:=fun w'=>w'.cell? ⟨W.heap.size+2,3,none⟩=some (.slice A6 xs.length c6)∧w'.cell? ⟨wr.heap.size,0,none⟩=some (.int .i64 q.f0)∧w'.cell? ⟨wr.heap.size,1,none⟩=some (.slice B1 q.f1.length d1)∧w'.cell? ⟨wr.heap.size,2,none⟩=some (.slice B2 q.f2.length d2)∧w'.cell? ⟨wr.heap.size,3,none⟩=some (.slice B3 q.f3.length d3)) (ds:=[6,8]) #[false,false,false,false,false,false,false,false,false] (by kernel_rfl) rfl rfl (by rw [←hVd];exact (HS.out _ (Below.refl _ _))) (fun hHeld=>?_)
   rw [←hVd] at hHeld ⊢
   clear hVd
   refine pu_ 0 28 ?_
   refine pu_ 3 31 ?_
   refine ta_ 1 29 hHeld ?_
   refine ta_ 2 30 hHeld ?_
   refine on_ 4 32 (fun K hK=>?_)
   refine goes_ Tryz.func19 (by kernel_rfl) rfl #[.agg #[.int .i64 q.f0,.slice B1 q.f1.length d1,.slice B2 q.f2.length d2,.slice B3 q.f3.length d3],.slice At L.length ct] (by rfl) rfl rfl (by simp only [List.map_toArray,List.map_cons,List.map_nil];rfl) ?_
   with_reducible refine (HC.out).mono ?_
   rintro e_ V1 ⟨_,rfl,⟨E1,e1,E2,e2,E3,e3,rfl,m1,g1,m2,g2,m3,g3⟩,hb_⟩
   refine ⟨_,rfl,?_⟩
   have HFK:=Sd.m (k45_mkF _ _ (tellF L q) m1 g1 m2 g2 m3 g3)
   have T1:=Sd.m (TD.out.below hb_)
   have B1_:=Sd.m hb_
   clear m1 g1 m2 g2 m3 g3 hb_
   refine hK.out _ _ (HS.out _ B1_.out) (fun hHeld=>?_)
   clear hK K
   refine no_ 32 ?_
   refine on_ 5 33 (fun K hK=>?_)
   refine value_ (w1:=?_) (v:=?_) (by rfl) rfl ?_ ?_
   rotate_left 2
   ·go_simp
    constructor
    ·rfl
    ·rfl
   have hg_:=aj_ V1 (.cells #[.int .i64 (tellF L q).f0,.slice E1 (tellF L q).f1.length e1,.slice E2 (tellF L q).f2.length e2,.slice E3 (tellF L q).f3.length e3] 45)
   have hb_:=ab_ (Below.refl V1.heap.size V1) (.cells #[.int .i64 (tellF L q).f0,.slice E1 (tellF L q).f1.length e1,.slice E2 (tellF L q).f2.length e2,.slice E3 (tellF L q).f3.length e3] 45)
   generalize hW_:V1.alloc (.cells #[.int .i64 (tellF L q).f0,.slice E1 (tellF L q).f1.length e1,.slice E2 (tellF L q).f2.length e2,.slice E3 (tellF L q).f3.length e3] 45)=V2 at hg_ hb_ ⊢
   have T2:=Sd.m (T1.out.below hb_)
   have B2_:=Sd.m (B1_.out.trans (hb_.mono B1_.out.size))
   have HY:Sd (Kd.F k45 V2 (fun k=>(P k∧k<W.heap.size)∨Vd.heap.size<=k) (some ⟨V1.heap.size,0,none⟩) 1 [tellF L q]):=⟨F_one hg_ (Or.inr B1_.out.size) (fun W' hW'=>HFK.out W' (fun k hk hlt=>(hW' k hk (Nat.lt_of_lt_of_le hlt hb_.size)).trans (hb_.block k hlt)))⟩
   clear hg_ hb_ hW_
   refine hK.out _ _ (HS.out _ B2_.out) (fun hHeld=>?_)
   clear hK K
   refine no_ 33 ?_
   refine last_ (i:=6) (N:=some 34) #[true,true,true,true,true,true,true,false,false] rfl rfl (by kernel_rfl) (by decide) (fun K hK=>?_)
   obtain ⟨C1,k1,V3,hrun_,hT_⟩:=T2.out.app (tellF L q) (some ⟨V1.heap.size,0,none⟩) 1 _ HY.out OKP.out (by have:=HX9.out;omega)
   rw [←HZS.out] at hrun_ hT_
   refine cq_ rfl (.tmp 29) (.tmp 33) 43 rfl _ _ rfl rfl hrun_ ?_
   have T3:=Sd.m hT_
   have n3:V3.cell? ⟨W.heap.size+2,3,none⟩=some (.slice A6 xs.length c6):=(ae_ hT_.t 3).trans rfl
   have m3:V3.frozen? ⟨W.heap.size+2,3,none⟩=false:=aa_ hT_.t 3
   clear hrun_ hT_
   refine hK.out _ _ ?_
   clear hK K
   refine no_ 34 ?_
   refine pu_ 7 35 ?_
   refine last_ (i:=8) (N:=none) #[true,true,true,true,true,true,true,true,true] rfl rfl (by kernel_rfl) (by decide) (fun K hK=>?_)
   refine skip_ (w1:=?_) (by rfl) rfl ?_ ?_
   rotate_left
   ·go_simp
    rfl
   refine hK.out _ _ ?_
   clear hK K
   refine done_ (by kernel_rfl) ?_
   go_wp2_with fail
   go_roundw
   case rel=>
    refine ⟨j+1,C1,k1,hlt,by go_num,?_⟩
    have hx:(p.f3.take (j+1)).map (tellF L)=zs:=by rw [HZS.out,HXS.out,List.take_add_one,HEL.out,List.map_append];rfl
    rw [hx]
    exact T3.out.store
   case measure=>simp [intOf];omega
  ·have b1:decide ((j:Int)<(p.f3.length:Int))=false:=df__ (by omega)
   have b2:decide (j<p.f3.length)=false:=df__ hlt
   have hx:xs=p.f3.map (tellF L):=by rw [HXS.out,List.take_of_length_le (by omega)]
   obtain ⟨V2,hV2⟩: ∃ W_,W_=putL wr (W.heap.size+1) 0 [.int .i64 p.f0,.slice A1 p.f1.length c1,.slice Aw (withinF L p.f1).length cw,.slice A6 xs.length c6]:=⟨_,rfl⟩
   have hp:=HT.out.t
   have hr:=(HT.out.keep (W.heap.size+1) (by have:=HT.out.lo;omega) (by omega)).trans HZB.out
   have p0:=bc_ hp 0 rfl
   have p1:=bc_ hp 1 rfl
   have p2:=bc_ hp 2 rfl
   have p3:=bc_ hp 3 rfl
   have q0:=bc_ hr 0 rfl
   have r0:=aa_ hr 0
   have q1:=bc_ hr 1 rfl
   have r1:=aa_ hr 1
   have q2:=bc_ hr 2 rfl
   have r2:=aa_ hr 2
   have q3:=bc_ hr 3 rfl
   have r3:=aa_ hr 3
   have hr2:V2.heap[W.heap.size+1]? =some (.cells #[.int .i64 p.f0,.slice A1 p.f1.length c1,.slice Aw (withinF L p.f1).length cw,.slice A6 xs.length c6] 45 (0,0)):=by rw [hV2];exact cr_ _ wr 0 _ hr
   have hb2:Below W.heap.size W V2:=by rw [hV2];exact cn_ (by omega) _ _ _ HT.out.B
   have f1:Kd.F k74 V2 (fun k=>P k∨W.heap.size<=k) A1 p.f1.length p.f1:=by rw [hV2];exact F_mono (cf_ (ok:=fun k=>P k∧k<W.heap.size) (fun k hk=>by omega) _ _ _ (HT.out.F HS1.out (fun k hk=>by have:=hk.2;omega))) (fun k hk=>Or.inl hk.1)
   have f2:Kd.F (Kd.int .i64) V2 (fun k=>P k∨W.heap.size<=k) Aw (withinF L p.f1).length (withinF L p.f1):=by rw [hV2];exact F_mono (cf_ (ok:=fun k=>W.heap.size+3<=k) (fun k hk=>by omega) _ _ _ (HT.out.F HG2.out (fun k hk=>by omega))) (fun k hk=>Or.inr (by omega))
   have f3:Kd.F k45 V2 (fun k=>P k∨W.heap.size<=k) A6 xs.length xs:=by rw [hV2];exact F_mono (cf_ (ok:=fun k=>(P k∧k<W.heap.size)∨Wm.heap.size<=k) (fun k hk=>by have:=HT.out.lo;omega) _ _ _ (N_F HT.out.N)) (fun k hk=>Or.elim hk (fun h=>Or.inl h.1) (fun h=>Or.inr (by have:=HT.out.lo;omega)))
   have hcc:=(N_reads' HT.out.N).2.1
   replace hV2:V2=((((wr.setCell ⟨W.heap.size+1,0,none⟩ (.int .i64 p.f0)).setCell ⟨W.heap.size+1,1,none⟩ (.slice A1 p.f1.length c1)).setCell ⟨W.heap.size+1,2,none⟩ (.slice Aw (withinF L p.f1).length cw)).setCell ⟨W.heap.size+1,3,none⟩ (.slice A6 xs.length c6)):=hV2
   have HR2:=Sd.m hr2
   have HB2:=Sd.m hb2
   have F1:=Sd.m f1
   have F2:=Sd.m f2
   have F3:=Sd.m f3
   have HV2:=Sd.m hV2
   have HXX:=Sd.m hx
   clear hp hr hr2 hb2 f1 f2 f3 hV2 hx
      
   go_wp2_with fail
   rw [←HV2.out]
   refine bodyPost_ret (results_cell_row rfl _ _ (W.heap.size+1) 45 #[.int .i64 p.f0,.slice A1 p.f1.length c1,.slice Aw (withinF L p.f1).length cw,.slice A6 xs.length c6] (0,0) _ rfl HR2.out Tryz.underlying45 rfl (by kernel_rfl)) rfl ?_
   rw [←HXX.out]
   exact ⟨_,rfl,⟨A1,c1,Aw,cw,A6,c6,rfl,l1,F1.out,hlw,F2.out,hcc,F3.out⟩,HB2.out⟩
theorem ec_ (L:List (List S74))(hL:L.length<=100000)(w0:World)(At:Option Addr)(ct:Nat)(hct:L.length<=ct)(hAt:Kd.C (Kd.slice 74 k74) w0 At L.length L)(p:S45):
  ∀ (W:World),Below w0.heap.size w0 W->nodes p<=1000000-> ∀ (P:Nat->Prop) (A1:Option Addr) (c1:Nat) (A2:Option Addr) (c2:Nat) (A3:Option Addr) (c3:Nat),p.f1.length<=c1->Kd.F k74 W P A1 p.f1.length p.f1->p.f3.length<=c3->Kd.F k45 W P A3 p.f3.length p.f3->Calls Tryz.prog 19 #[.agg #[.int .i64 p.f0,.slice A1 p.f1.length c1,.slice A2 p.f2.length c2,.slice A3 p.f3.length c3],.slice At L.length ct] W (TellAns W P (tellF L p)):=by
 intro W hw0 hn P A1 c1 A2 c2 A3 c3 l1 g1 l3 g3
 rw [ew_] at hn
 rw [hn_]
 by_cases hp:p.f0=2
 ·rw [if_pos hp]
  exact tell_yes L hL w0 At ct hct hAt p hn hp (fun q hq=>ec_ L hL w0 At ct hct hAt q) W hw0 P A1 c1 A2 c2 A3 c3 l1 g1 l3 g3
 ·rw [if_neg hp]
  exact tell_no L hL w0 At ct hct hAt p hn hp (fun q hq=>ec_ L hL w0 At ct hct hAt q) W hw0 P A1 c1 A2 c2 A3 c3 l1 g1 l3 g3
termination_by SizeOf.sizeOf p
decreasing_by
 all_goals
  have:=List.sizeOf_lt_of_mem hq
  cases p
  simp at*
  omega
open Go.Proofs.YthfceiincmkccaaGreat.P (withinF go_)
noncomputable def tellR (L:List (List S74))(r:S55):S55:=⟨r.f0,r.f1,tellF L r.f2,tellF L r.f3,r.f4⟩
noncomputable def toldN (L:List (List S74))(l:List S55)(j:Nat):List S55:=(l.take j).map (tellR L) ++ l.drop j
theorem toldN_all (L:List (List S74))(l:List S55){j:Nat}(h:l.length<=j):toldN L l j=l.map (tellR L):=by
 unfold toldN
 rw [List.take_of_length_le h,List.drop_eq_nil_iff.2 h,List.append_nil]
theorem toldN_len (L:List (List S74))(l:List S55)(j:Nat):(toldN L l j).length=l.length:=by
 unfold toldN
 rw [List.length_append,List.length_map,List.length_take,List.length_drop]
 omega
theorem toldN_at (L:List (List S74))(l:List S55)(j:Nat)(h:j<l.length):(toldN L l j).getD j z55=l.getD j z55:=by
 unfold toldN
 have hl:((l.take j).map (tellR L)).length=j:=by rw [List.length_map,List.length_take];omega
 rw [List.getD_eq_getElem?_getD,List.getD_eq_getElem?_getD,List.getElem?_append_right (by omega),hl,Nat.sub_self,List.getElem?_drop,Nat.add_zero]
theorem toldN_set (L:List (List S74))(l:List S55)(j:Nat)(r:S55)(h:l[j]? =some r):(toldN L l j).set j (tellR L r)=toldN L l (j+1):=by
 have hj:=(List.getElem?_eq_some_iff.1 h).1
 unfold toldN
 have hl:((l.take j).map (tellR L)).length=j:=by rw [List.length_map,List.length_take];omega
 rw [List.set_append_right _ _ (by omega),hl,Nat.sub_self,List.drop_eq_getElem_cons hj,List.set_cons_zero,List.take_add_one,h,List.map_append,List.append_assoc]
 rfl
structure BkAt (w:World) (xb:Array Value) (v:Value) (xs:List S55) (Wx:World):Prop where
 N:Kd.N k55 55 Wx (w.heap.size+2) (fun k=>k<w.heap.size∨w.heap.size+2<=k) v xs
 B:Below w.heap.size w Wx
 x:Wx.heap[w.heap.size]? =some (.cells xb 27 (0,0))
 z:Wx.heap[w.heap.size+1]? =some (.cells #[.slice none 0 0,.slice none 0 0,.slice none 0 0,.slice none 0 0] 27 (0,0))
theorem BkAt.below {w W1 W2:World}{xb:Array Value}{v:Value}{xs:List S55}(h:BkAt w xb v xs W1)(hb:Below W1.heap.size W1 W2):BkAt w xb v xs W2:=
 ⟨N_below h.N hb,h.B.trans (hb.mono h.B.size),ag_ h.x hb,ag_ h.z hb⟩
theorem BkAt.grown {w W1 W2:World}{xb:Array Value}{g n c:Nat}{xs ys:List S55}(h:BkAt w xb (.slice (some ⟨g,0,none⟩) n c) xs W1)(hN:Kd.N k55 55 W2 (w.heap.size+2) (fun k=>k<w.heap.size∨w.heap.size+2<=k) (.slice (some ⟨g,0,none⟩) n c) ys)(hg:W1.grownBy W2 (some g)):BkAt w xb (.slice (some ⟨g,0,none⟩) n c) ys W2:=by
 have hb:=N_base h.N g (by simp [Value.ownBlock])
 exact ⟨hN,h.B.grown hg h.B.size (fun k hk=>by injection hk with hk;omega),(hg.block _ (cb_ h.x) (fun e=>by injection e with e;omega)).trans h.x,(hg.block _ (cb_ h.z) (fun e=>by injection e with e;omega)).trans h.z⟩
def BkO (L:List (List S74))(w:World)(xb:Array Value)(v:Value)(l:List S55)(s:Value)(Wx:World):Prop:= ∃ j:Nat,j<=l.length∧s=.int .i64 j∧BkAt w xb v (toldN L l j) Wx
theorem book_calls (L:List (List S74))(hL:L.length<=100000)(w:World)(At:Option Addr)(ct:Nat)(hct:L.length<=ct)(hAt:Kd.C (Kd.slice 74 k74) w At L.length L)(b:S27)(A0:Option Addr)(c0:Nat)(A1:Option Addr)(c1:Nat)(A2:Option Addr)(c2:Nat)(A3:Option Addr)(c3:Nat)(l1:b.f1.length<=c1)(g1:Kd.C k55 w A1 b.f1.length b.f1)(hl:b.f1.length<=1000000)(hn: ∀ r∈b.f1,nodes r.f2<=1000000∧nodes r.f3<=1000000):
  Calls Tryz.prog 28 #[.agg #[.slice A0 b.f0.length c0,.slice A1 b.f1.length c1,.slice A2 b.f2.length c2,.slice A3 b.f3.length c3],.slice At L.length ct] w fun e w'=> ∃ R cR,e=.returned (.agg #[.slice A0 b.f0.length c0,.slice R b.f1.length cR,.slice A2 b.f2.length c2,.slice A3 b.f3.length c3])∧b.f1.length<=cR∧Kd.C k55 w' R b.f1.length (b.f1.map (tellR L))∧Below w.heap.size w w':=by
 obtain ⟨W2,hW2⟩: ∃ W_,W_=(w.alloc (.cells #[.slice A0 b.f0.length c0,.slice A1 b.f1.length c1,.slice A2 b.f2.length c2,.slice A3 b.f3.length c3] 27)).alloc (.cells #[.slice none 0 0,.slice none 0 0,.slice none 0 0,.slice none 0 0] 27):=⟨_,rfl⟩
 have ea:(w.alloc (.cells #[.slice A0 b.f0.length c0,.slice A1 b.f1.length c1,.slice A2 b.f2.length c2,.slice A3 b.f3.length c3] 27)).heap.size=w.heap.size+1:=Array.size_push _
 have hs2:W2.heap.size=w.heap.size+2:=by rw [hW2];exact (Array.size_push _).trans (congrArg (· +1) ea)
 have hb2:Below w.heap.size w W2:=by rw [hW2];exact ab_ (ab_ (Below.refl w.heap.size w) _) _
 have hx2:W2.heap[w.heap.size]? =some (.cells #[.slice A0 b.f0.length c0,.slice A1 b.f1.length c1,.slice A2 b.f2.length c2,.slice A3 b.f3.length c3] 27 (0,0)):=by rw [hW2];exact an_ (aj_ w _) _
 have hz2:W2.heap[w.heap.size+1]? =some (.cells #[.slice none 0 0,.slice none 0 0,.slice none 0 0,.slice none 0 0] 27 (0,0)):=by rw [hW2];exact ea ▸ aj_ (w.alloc (.cells #[.slice A0 b.f0.length c0,.slice A1 b.f1.length c1,.slice A2 b.f2.length c2,.slice A3 b.f3.length c3] 27)) _
 have HCL:=Sd.m (clone_calls W2 A1 b.f1 c1 l1 (fun k=>k<w.heap.size) (F_below (C_F k55_heap g1) hb2) hl)
 have HX2:=Sd.m hx2
 have HZ2:=Sd.m hz2
 have HB2:=Sd.m hb2
 have HS2:=Sd.m hs2
 have HW2:=Sd.m hW2
 have HL:=Sd.m hL
 have HN:=Sd.m hn
 have HAT:=Sd.m hAt
 have HLL:=Sd.m hl
 have HM:b.f1.length<=9223372036854775807:=Kd.C_max g1
 clear ea hs2 hb2 hx2 hz2 hW2 hL hn hAt hl g1
 go_enter Tryz.func28,Tryz.ntmps28
 go_wp2_with fail
 rw [←HW2.out]
 refine HCL.out.mono ?_
 rintro e V ⟨v,rfl,hN,hb⟩
 obtain ⟨R,cR,rfl⟩:=N_slice hN
 have hs2:=HS2.out
 have hsz:=hb.size
 have hx:=ag_ HX2.out hb
 have x0:=bc_ hx 0 rfl
 have x1:=bc_ hx 1 rfl
 have y1:=aa_ hx 1
 obtain ⟨Wm,hWm⟩: ∃ W_,W_=V.setCell ⟨w.heap.size,1,none⟩ (.slice R b.f1.length cR):=⟨_,rfl⟩
 have hxm:Wm.heap[w.heap.size]? =some (.cells #[.slice A0 b.f0.length c0,.slice R b.f1.length cR,.slice A2 b.f2.length c2,.slice A3 b.f3.length c3] 27 (0,0)):=by rw [hWm];simpa using dn_ hx 1 (.slice R b.f1.length cR)
 have hzm:Wm.heap[w.heap.size+1]? =some (.cells #[.slice none 0 0,.slice none 0 0,.slice none 0 0,.slice none 0 0] 27 (0,0)):=by rw [hWm];exact bg_ (ag_ HZ2.out hb) (p:=⟨w.heap.size,1,none⟩) (by show w.heap.size+1≠w.heap.size;omega) _
 have hbm:Below w.heap.size w Wm:=by rw [hWm];exact (HB2.out.trans (hb.mono HB2.out.size)).setCell (p:=⟨w.heap.size,1,none⟩) (Nat.le_refl _) _
 have hNm:Kd.N k55 55 Wm (w.heap.size+2) (fun k=>k<w.heap.size∨w.heap.size+2<=k) (.slice R b.f1.length cR) b.f1:=by
  rw [hWm]
  refine N_far (p:=⟨w.heap.size,1,none⟩) (N_mono (N_lower hN (by omega)) (fun k hk=>?_)) (fun k hk=>by show k≠w.heap.size;omega) _
  rcases hk with hk | hk
  ·exact Or.inl hk.1
  ·exact Or.inr (by omega)
 have HT0:Sd (BkAt w #[.slice A0 b.f0.length c0,.slice R b.f1.length cR,.slice A2 b.f2.length c2,.slice A3 b.f3.length c3] (.slice R b.f1.length cR) (toldN L b.f1 0) Wm):=⟨⟨hNm,hbm,hxm,hzm⟩⟩
 have HWM:=Sd.m hWm
 have hxc:=bc_ hxm 1 rfl
 have hcR:=(N_reads' hN).2.1
 clear hx hxm hzm hbm hNm hN hb hsz hs2
 go_wp2_with fail
 rw [←HWM.out]
 clear hWm x0 x1 y1 hxc
 go_loopw [14] (fun u Wx=>BkO L w #[.slice A0 b.f0.length c0,.slice R b.f1.length cR,.slice A2 b.f2.length c2,.slice A3 b.f3.length c3] (.slice R b.f1.length cR) b.f1 u Wx) (fun u _=>b.f1.length - (intOf u).toNat)
 case atStart=>exact ⟨0,Nat.zero_le _,rfl,HT0.out⟩
 case round=>
  obtain ⟨j,hj,rfl,hT⟩:=hrel
  have HT:=Sd.m hT
  clear hT
  by_cases hlt:j<b.f1.length
  ·have b1:decide ((j:Int)<(b.f1.length:Int))=true:=dt__ (by omega)
   have b2:decide (j<b.f1.length)=true:=dt__ hlt
   have hq0:0<=(j:Int):=by omega
   have hq1:(j:Int)<(b.f1.length:Int):=by omega
   have w2:IntKind.i64.wrap ((j:Int)+1)=(j:Int)+1:=IntWalk.i64_in _ (by omega)
   obtain ⟨g,cap,hv,hgb,_,_⟩:=N_form HT.out.N (by rw [toldN_len];omega)
   injection hv with hv1 hv2 hv3
   subst hv1 hv3
   clear hv2
   obtain ⟨cs,hcl,hFK,hcc,hfz⟩:=N_elem HT.out.N z55 (j:Int) (by omega) (by omega)
   rw [Int.toNat_natCast] at hFK hcc hfz
   rw [toldN_at L b.f1 j hlt] at hFK
   have hel:b.f1[j]? =some (b.f1.getD j z55):=by rw [List.getD_eq_getElem?_getD,List.getElem?_eq_getElem hlt];rfl
   obtain ⟨r,hr⟩: ∃ r,b.f1.getD j z55=r:=⟨_,rfl⟩
   rw [hr] at hFK hel
   obtain ⟨B3,b3,B4,b4,B5,b5,B7,b7,B8,b8,B9,b9,rfl,l3,h3,l4,h4,l5,h5,l7,h7,l8,h8,l9,h9⟩:=in_ hFK
   have k2:wr.cell? ⟨g,j*11+2,none⟩=some (.int .i64 r.f2.f0):=hcc 2 _ rfl
   have k3:wr.cell? ⟨g,j*11+3,none⟩=some (.slice B3 r.f2.f1.length b3):=hcc 3 _ rfl
   have k4:wr.cell? ⟨g,j*11+4,none⟩=some (.slice B4 r.f2.f2.length b4):=hcc 4 _ rfl
   have k5:wr.cell? ⟨g,j*11+5,none⟩=some (.slice B5 r.f2.f3.length b5):=hcc 5 _ rfl
   have k6:wr.cell? ⟨g,j*11+6,none⟩=some (.int .i64 r.f3.f0):=hcc 6 _ rfl
   have k7:wr.cell? ⟨g,j*11+7,none⟩=some (.slice B7 r.f3.f1.length b7):=hcc 7 _ rfl
   have k8:wr.cell? ⟨g,j*11+8,none⟩=some (.slice B8 r.f3.f2.length b8):=hcc 8 _ rfl
   have k9:wr.cell? ⟨g,j*11+9,none⟩=some (.slice B9 r.f3.f3.length b9):=hcc 9 _ rfl
   have x1:wr.cell? ⟨w.heap.size,1,none⟩=some (.slice (some ⟨g,0,none⟩) b.f1.length cR):=(ae_ HT.out.x 1).trans rfl
   obtain ⟨Vd,hVd⟩: ∃ W_,W_=wr.drew:=⟨_,rfl⟩
   have hbd:Below wr.heap.size wr Vd:=by rw [hVd];exact cg_ (Below.refl _ _)
   have hnr:=HN.out r (List.mem_of_getElem? hel)
   have htc:=ec_ L HL.out w At ct hct HAT.out
   have hBd:=HT.out.B.trans (hbd.mono HT.out.B.size)
   have HC1:=Sd.m (htc r.f2 Vd hBd hnr.1 (fun k=>(k<w.heap.size∨w.heap.size+2<=k)∧k≠g) B3 b3 B4 b4 B5 b5 l3 (F_below h3 hbd) l5 (F_below h5 hbd))
   have HC2:Sd (∀ W1,Below Vd.heap.size Vd W1->_):=⟨fun W1 hb1=>htc r.f3 W1 (hBd.trans (hb1.mono hBd.size)) hnr.2 (fun k=>(k<w.heap.size∨w.heap.size+2<=k)∧k≠g) B7 b7 B8 b8 B9 b9 l7 (F_below h7 (hbd.trans (hb1.mono hbd.size))) l9 (F_below h9 (hbd.trans (hb1.mono hbd.size)))⟩
   have TD:=Sd.m (HT.out.below hbd)
   have HEL:=Sd.m hr
   have HEM:=Sd.m hel
   have HGB:=Sd.m hgb
   have HS:Sd (∀ w',Below Vd.heap.size Vd w'->w'.cell? ⟨g,j*11+2,none⟩=some (.int .i64 r.f2.f0)∧w'.cell? ⟨g,j*11+3,none⟩=some (.slice B3 r.f2.f1.length b3)∧w'.cell? ⟨g,j*11+4,none⟩=some (.slice B4 r.f2.f2.length b4)∧w'.cell? ⟨g,j*11+5,none⟩=some (.slice B5 r.f2.f3.length b5)∧w'.cell? ⟨g,j*11+6,none⟩=some (.int .i64 r.f3.f0)∧w'.cell? ⟨g,j*11+7,none⟩=some (.slice B7 r.f3.f1.length b7)∧w'.cell? ⟨g,j*11+8,none⟩=some (.slice B8 r.f3.f2.length b8)∧w'.cell? ⟨g,j*11+9,none⟩=some (.slice B9 r.f3.f3.length b9)):=by
    refine ⟨fun w' hw=>?_⟩
    have hq:=hbd.trans (hw.mono hbd.size)
    have cw:=fun (a:Addr) (v:Value) (h:wr.cell? a=some v)=>(hq.cell (bl__ wr _ h)).trans h
    exact ⟨cw _ _ k2,cw _ _ k3,cw _ _ k4,cw _ _ k5,cw _ _ k6,cw _ _ k7,cw _ _ k8,cw _ _ k9⟩
   clear htc hBd hnr hbd hel hr hcc hFK h3 h4 h5 h7 h8 h9 hfz hgb hcl
   have OKQ:Sd (∀ k,(((k<w.heap.size∨w.heap.size+2<=k)∧k≠g)∨Vd.heap.size<=k)->(k<w.heap.size∨w.heap.size+2<=k)∧k≠g):=by
    refine ⟨fun k hk=>Or.elim hk id (fun h=>?_)⟩
    have h1:=N_lt TD.out.N g (by simp [Value.ownBlock])
    have h2:=HGB.out
    exact ⟨Or.inr (by omega),by omega⟩
   go_upto_region 6 with fail
   refine start_ (n:=20) (S:=fun w'=>w'.cell? ⟨g,j*11+2,none⟩=some (.int .i64 r.f2.f0)∧w'.cell? ⟨g,j*11+3,none⟩=some (.slice B3 r.f2.f1.length b3)∧w'.cell? ⟨g,j*11+4,none⟩=some (.slice B4 r.f2.f2.length b4)∧w'.cell? ⟨g,j*11+5,none⟩=some (.slice B5 r.f2.f3.length b5)∧w'.cell? ⟨g,j*11+6,none⟩=some (.int .i64 r.f3.f0)∧w'.cell? ⟨g,j*11+7,none⟩=some (.slice B7 r.f3.f1.length b7)∧w'.cell? ⟨g,j*11+8,none⟩=some (.slice B8 r.f3.f2.length b8)∧w'.cell? ⟨g,j*11+9,none⟩=some (.slice B9 r.f3.f3.length b9)) (ds:=[16,19]) #[false,false,false,false,false,false,false,false,false,false,false,false,false,false,false,false,false,false,false,false] (by kernel_rfl) rfl rfl (by rw [←hVd];exact (HS.out _ (Below.refl _ _))) (fun hHeld=>?_)
   rw [←hVd] at hHeld ⊢
   clear hVd
   refine pu_ 0 21 ?_
   refine pu_ 1 22 ?_
   refine pu_ 2 23 ?_
   refine pu_ 3 24 ?_
   refine pu_ 4 25 ?_
   refine pu_ 6 27 ?_
   refine pu_ 8 29 ?_
   refine pu_ 9 30 ?_
   refine pu_ 10 31 ?_
   refine pu_ 12 33 ?_
   refine ta_ 5 26 hHeld ?_
   refine ta_ 11 32 hHeld ?_
   refine on_ 7 28 (fun K hK=>?_)
   refine goes_ Tryz.func19 (by kernel_rfl) rfl #[.agg #[.int .i64 r.f2.f0,.slice B3 r.f2.f1.length b3,.slice B4 r.f2.f2.length b4,.slice B5 r.f2.f3.length b5],.slice At L.length ct] (by rfl) rfl rfl (by simp only [List.map_toArray,List.map_cons,List.map_nil];rfl) ?_
   with_reducible refine (HC1.out).mono ?_
   rintro e_ V1 ⟨_,rfl,⟨E1,el1,E2,ek2,E3,em3,rfl,m1,g1,m2,g2,m3,g3⟩,hb_⟩
   refine ⟨_,rfl,?_⟩
   have F2:=Sd.m (And.intro m1 (And.intro g1 (And.intro m2 (And.intro g2 (And.intro m3 g3)))))
   have T1:=Sd.m (TD.out.below hb_)
   have B1_:=Sd.m hb_
   clear m1 g1 m2 g2 m3 g3 hb_
   refine hK.out _ _ (HS.out _ B1_.out) (fun hHeld=>?_)
   clear hK K
   refine no_ 28 ?_
   refine on_ 13 34 (fun K hK=>?_)
   refine goes_ Tryz.func19 (by kernel_rfl) rfl #[.agg #[.int .i64 r.f3.f0,.slice B7 r.f3.f1.length b7,.slice B8 r.f3.f2.length b8,.slice B9 r.f3.f3.length b9],.slice At L.length ct] (by rfl) rfl rfl (by simp only [List.map_toArray,List.map_cons,List.map_nil];rfl) ?_
   with_reducible refine (HC2.out V1 B1_.out).mono ?_
   rintro e_ V2 ⟨_,rfl,⟨G1,gl1,G2,gk2,G3,gm3,rfl,m1,g1,m2,g2,m3,g3⟩,hb_⟩
   refine ⟨_,rfl,?_⟩
   have F3:=Sd.m (And.intro m1 (And.intro g1 (And.intro m2 (And.intro g2 (And.intro m3 g3)))))
   have T2:=Sd.m (T1.out.below hb_)
   have B2_:=Sd.m hb_
   clear m1 g1 m2 g2 m3 g3 hb_
   refine hK.out _ _ (HS.out _ (B1_.out.trans (B2_.out.mono B1_.out.size))) (fun hHeld=>?_)
   clear hK K
   refine no_ 34 ?_
   refine pu_ 14 35 ?_
   refine pu_ 15 36 ?_
   refine last_ (i:=16) (N:=none) #[true,true,true,true,true,true,true,true,true,true,true,true,true,true,true,true,true,false,false,false] rfl rfl (by kernel_rfl) (by decide) (fun K hK=>?_)
   obtain ⟨cs2,hl_,hF_,hc_,_⟩:=N_elem T2.out.N z55 (j:Int) (by omega) (by omega)
   rw [Int.toNat_natCast] at hF_ hc_
   rw [toldN_at L b.f1 j hlt,HEL.out] at hF_
   obtain ⟨D3,d3,D4,d4,D5,d5,D7,d7,D8,d8,D9,d9,rfl,n3,h3,n4,h4,n5,h5,n7,h7,n8,h8,n9,h9⟩:=in_ hF_
   refine N_store_step k55 (w.heap.size+2) rfl rfl 45 (.tmp 36) (.tmp 28) rfl 55 (j:Int) 2 _ ⟨r.f0,r.f1,tellF L r.f2,r.f3,r.f4⟩ (.agg #[.int .i64 (tellF L r.f2).f0,.slice E1 (tellF L r.f2).f1.length el1,.slice E2 (tellF L r.f2).f2.length ek2,.slice E3 (tellF L r.f2).f3.length em3]) [.int .i64 (tellF L r.f2).f0,.slice E1 (tellF L r.f2).f1.length el1,.slice E2 (tellF L r.f2).f2.length ek2,.slice E3 (tellF L r.f2).f3.length em3] _ _ (fun k=>((k<w.heap.size∨w.heap.size+2<=k)∧k≠g)∨Vd.heap.size<=k) rfl (by rw [Int.toNat_natCast];rfl) rfl rfl (by kernel_rfl) (by intro q hq;simp at hq;rcases hq with rfl | rfl | rfl | rfl <;> rfl) T2.out.N (by omega) (by omega) hl_ (by intro i u hu;rw [Int.toNat_natCast];exact hc_ i u hu) (Nat.le_of_ble_eq_true rfl) (k55_mkF V2 _ ⟨r.f0,r.f1,tellF L r.f2,r.f3,r.f4⟩ F2.out.1 (F_below F2.out.2.1 B2_.out) F2.out.2.2.1 (F_below F2.out.2.2.2.1 B2_.out) F2.out.2.2.2.2.1 (F_below F2.out.2.2.2.2.2 B2_.out) n7 (F_mono (h7) (fun k hk=>Or.inl hk)) n8 (F_mono (h8) (fun k hk=>Or.inl hk)) n9 (F_mono (h9) (fun k hk=>Or.inl hk))) OKQ.out ?_
   intro V3 hN_ hg_
   have T3:=Sd.m (T2.out.grown hN_ hg_)
   have G3_:=Sd.m hg_
   clear hN_ hg_ hF_ hc_ hl_ n3 h3 n4 h4 n5 h5 n7 h7 n8 h8 n9 h9
   refine hK.out _ _ ?_
   clear hK K
   refine pu_ 17 37 ?_
   refine pu_ 18 38 ?_
   refine last_ (i:=19) (N:=none) #[true,true,true,true,true,true,true,true,true,true,true,true,true,true,true,true,true,true,true,true] rfl rfl (by kernel_rfl) (by decide) (fun K hK=>?_)
   obtain ⟨cs3,hl_,hF_,hc_,_⟩:=N_elem T3.out.N z55 (j:Int) (by omega) (by omega)
   rw [Int.toNat_natCast] at hF_ hc_
   have hs_:((toldN L b.f1 j).set j (⟨r.f0,r.f1,tellF L r.f2,r.f3,r.f4⟩:S55)).getD j z55=⟨r.f0,r.f1,tellF L r.f2,r.f3,r.f4⟩:=by rw [List.getD_eq_getElem?_getD,List.getElem?_set_self (by rw [toldN_len];omega)];rfl
   rw [hs_] at hF_
   obtain ⟨D3,d3,D4,d4,D5,d5,D7,d7,D8,d8,D9,d9,rfl,n3,h3,n4,h4,n5,h5,n7,h7,n8,h8,n9,h9⟩:=in_ hF_
   refine N_store_step k55 (w.heap.size+2) rfl rfl 45 (.tmp 38) (.tmp 34) rfl 55 (j:Int) 6 _ (tellR L r) (.agg #[.int .i64 (tellF L r.f3).f0,.slice G1 (tellF L r.f3).f1.length gl1,.slice G2 (tellF L r.f3).f2.length gk2,.slice G3 (tellF L r.f3).f3.length gm3]) [.int .i64 (tellF L r.f3).f0,.slice G1 (tellF L r.f3).f1.length gl1,.slice G2 (tellF L r.f3).f2.length gk2,.slice G3 (tellF L r.f3).f3.length gm3] _ _ (fun k=>((k<w.heap.size∨w.heap.size+2<=k)∧k≠g)∨Vd.heap.size<=k) rfl (by rw [Int.toNat_natCast];rfl) rfl rfl (by kernel_rfl) (by intro q hq;simp at hq;rcases hq with rfl | rfl | rfl | rfl <;> rfl) T3.out.N (by omega) (by omega) hl_ (by intro i u hu;rw [Int.toNat_natCast];exact hc_ i u hu) (Nat.le_of_ble_eq_true rfl) (k55_mkF V3 _ (tellR L r) n3 (F_mono (h3) (fun k hk=>Or.inl hk)) n4 (F_mono (h4) (fun k hk=>Or.inl hk)) n5 (F_mono (h5) (fun k hk=>Or.inl hk)) F3.out.1 (F_grown (F_mono F3.out.2.1 (fun k hk=>Or.elim hk Or.inl (fun h=>Or.inr (Nat.le_trans B1_.out.size h)))) G3_.out (fun k hk e=>by injection e with e;exact (OKQ.out k hk).2 e)) F3.out.2.2.1 (F_grown (F_mono F3.out.2.2.2.1 (fun k hk=>Or.elim hk Or.inl (fun h=>Or.inr (Nat.le_trans B1_.out.size h)))) G3_.out (fun k hk e=>by injection e with e;exact (OKQ.out k hk).2 e)) F3.out.2.2.2.2.1 (F_grown (F_mono F3.out.2.2.2.2.2 (fun k hk=>Or.elim hk Or.inl (fun h=>Or.inr (Nat.le_trans B1_.out.size h)))) G3_.out (fun k hk e=>by injection e with e;exact (OKQ.out k hk).2 e))) OKQ.out ?_
   intro V4 hN_ hg_
   have T4:=Sd.m (T3.out.grown hN_ hg_)
   clear hN_ hg_ hF_ hc_ hl_ hs_ n3 h3 n4 h4 n5 h5 n7 h7 n8 h8 n9 h9
   refine hK.out _ _ ?_
   clear hK K
   refine done_ (by kernel_rfl) ?_
   go_wp2_with fail
   go_roundw
   case rel=>
    refine ⟨j+1,hlt,by go_num,?_⟩
    have h:=T4.out
    simp only [Int.toNat_natCast,List.set_set] at h
    rw [toldN_set L b.f1 j r HEM.out] at h
    exact h
   case measure=>simp [intOf];omega
  ·have b1:decide ((j:Int)<(b.f1.length:Int))=false:=df__ (by omega)
   have b2:decide (j<b.f1.length)=false:=df__ hlt
   have hx:=HT.out.x
   have hr:=HT.out.z
   have hNN:=HT.out.N
   rw [toldN_all L b.f1 (by omega)] at hNN
   have p0:=bc_ hx 0 rfl
   have p1:=bc_ hx 1 rfl
   have p2:=bc_ hx 2 rfl
   have p3:=bc_ hx 3 rfl
   have q0:=bc_ hr 0 rfl
   have r0:=aa_ hr 0
   have q1:=bc_ hr 1 rfl
   have r1:=aa_ hr 1
   have q2:=bc_ hr 2 rfl
   have r2:=aa_ hr 2
   have q3:=bc_ hr 3 rfl
   have r3:=aa_ hr 3
   obtain ⟨V2,hV2⟩: ∃ W_,W_=putL wr (w.heap.size+1) 0 [.slice A0 b.f0.length c0,.slice R b.f1.length cR,.slice A2 b.f2.length c2,.slice A3 b.f3.length c3]:=⟨_,rfl⟩
   have hr2:V2.heap[w.heap.size+1]? =some (.cells #[.slice A0 b.f0.length c0,.slice R b.f1.length cR,.slice A2 b.f2.length c2,.slice A3 b.f3.length c3] 27 (0,0)):=by rw [hV2];exact cr_ _ wr 0 _ hr
   have hb2:Below w.heap.size w V2:=by rw [hV2];exact cn_ (by omega) _ _ _ HT.out.B
   have f1:Kd.F k55 V2 (fun k=>k<w.heap.size∨w.heap.size+2<=k) R b.f1.length (b.f1.map (tellR L)):=by rw [hV2];exact cf_ (fun k hk=>by omega) _ _ _ (N_F hNN)
   replace hV2:V2=((((wr.setCell ⟨w.heap.size+1,0,none⟩ (.slice A0 b.f0.length c0)).setCell ⟨w.heap.size+1,1,none⟩ (.slice R b.f1.length cR)).setCell ⟨w.heap.size+1,2,none⟩ (.slice A2 b.f2.length c2)).setCell ⟨w.heap.size+1,3,none⟩ (.slice A3 b.f3.length c3)):=hV2
   have HR2:=Sd.m hr2
   have HB2:=Sd.m hb2
   have F1:=Sd.m f1
   have HV2:=Sd.m hV2
   clear hx hr hNN hr2 hb2 f1 hV2
   go_wp2_with fail
   rw [←HV2.out]
   refine bodyPost_ret (results_cell_row rfl _ _ (w.heap.size+1) 27 #[.slice A0 b.f0.length c0,.slice R b.f1.length cR,.slice A2 b.f2.length c2,.slice A3 b.f3.length c3] (0,0) _ rfl HR2.out Tryz.underlying27 rfl (by kernel_rfl)) rfl ?_
   exact ⟨R,cR,rfl,hcR,F_now F1.out,HB2.out⟩
end LX
namespace L
open Shelf YthfceiincmkccaaGreatW.PrintWords.Kd A P K
noncomputable def ruleF (xs:List (List S74))(r:S55):List (List S74):=formF r.f3 (formF r.f2 xs)
noncomputable def bookF (xs:List (List S74))(b:S27):List (List S74):=b.f1.foldl ruleF xs
noncomputable def booksF (l:List S27):List (List S74):=l.foldl bookF []
def ruleN (r:S55):Nat:=nodes r.f2+nodes r.f3
def bookN (b:S27):Nat:=(b.f1.map ruleN).sum
theorem ruleF_len (xs:List (List S74))(r:S55):(ruleF xs r).length<=xs.length+ruleN r:=by
 unfold ruleF ruleN
 have h1:=fs_ r.f3 (formF r.f2 xs)
 have h2:=fs_ r.f2 xs
 omega
theorem fold_lenG {α:Type}(f:List (List S74)->α->List (List S74))(n:α->Nat)(hf: ∀ a q,(f a q).length<=a.length+n q)(l:List α)(xs:List (List S74)):(l.foldl f xs).length<=xs.length+(l.map n).sum:=by
 induction l generalizing xs with
 | nil=>simp
 | cons r l ih=>
  have h1:=ih (f xs r)
  have h2:=hf xs r
  rw [List.foldl_cons,List.map_cons,List.sum_cons]
  omega
theorem bookF_len (xs:List (List S74))(b:S27):(bookF xs b).length<=xs.length+bookN b:=fold_lenG ruleF ruleN ruleF_len b.f1 xs
theorem je_ {α:Type}(f:List (List S74)->α->List (List S74))(n:α->Nat)(hf: ∀ a q,(f a q).length<=a.length+n q)(l:List α)(j:Nat)(q:α)(h:l[j]? =some q)(xs:List (List S74)):((l.take j).foldl f xs).length+n q<=xs.length+(l.map n).sum:=by
 induction l generalizing j xs with
 | nil=>simp at h
 | cons r l ih=>
  cases j with
  | zero=>
   simp at h
   subst h
   simp
  | succ j=>
   have h1:=ih j (by simpa using h) (f xs r)
   have h2:=hf xs r
   rw [List.take_succ_cons,List.foldl_cons,List.map_cons,List.sum_cons]
   omega
def SoO (w:World)(l:List S27)(u:Value)(W1:World):Prop:= ∃ j:Nat,j<=l.length∧u=.int .i64 j∧SetAt w W1 w.heap.size ((l.take j).foldl bookF [])
def SoI (w:World)(rs:List S55)(xs:List (List S74))(u:Value)(W1:World):Prop:= ∃ j:Nat,j<=rs.length∧u=.int .i64 j∧SetAt w W1 w.heap.size ((rs.take j).foldl ruleF xs)
theorem sof_calls (l:List S27)(w:World)(A0:Option Addr)(c0:Nat)(hc0:l.length<=c0)(hl:Kd.C k27 w A0 l.length l)(hn:(l.map bookN).sum<=1000000)(hw: ∀ b∈l,∀ r∈b.f1,Wide r.f2∧Wide r.f3)
  (r0:List (List S74)) (r1:Int) (hof:fo_.f (booksF l)=some (r0,r1)):
  Calls Tryz.prog 11 #[.slice A0 l.length c0] w fun e w'=> ∃ v0_:Value,e=.returned (.tuple #[v0_,.int .i64 r1])∧Kd.N (Kd.slice 74 k74) 37 w' w.heap.size (fun k_=>w.heap.size<=k_) v0_ r0∧Below w.heap.size w w':=by
 obtain ⟨W1,hW1⟩: ∃ W_,W_=w.alloc (.cells #[.slice none 0 0] 68):=⟨_,rfl⟩
 have hb1:Below w.heap.size w W1:=by rw [hW1];exact ab_ (Below.refl w.heap.size w) _
 have hS0:SetAt w W1 w.heap.size []:=by rw [hW1];exact ⟨⟨_,Boxed.new w 68 _,OwnRow.none_ _ _ _ _ _⟩,ab_ (Below.refl _ _) _,Nat.le_refl _⟩
 have HS0:=Sd.m hS0
 have HL:=Sd.m hl
 have HN:=Sd.m hn
 have HWD:=Sd.m hw
 have HOF:=Sd.m hof
 have HM:l.length<=9223372036854775807:=Kd.C_max hl
 clear hb1 hS0 hl hn hw hof
 go_enter Tryz.func11,Tryz.ntmps11
 go_wp2_with fail
 rw [←hW1]
 clear hW1
 go_loopw [11] (fun u Wx=>SoO w l u Wx) (fun u _=>l.length - (intOf u).toNat)
 case atStart=>exact ⟨0,Nat.zero_le _,rfl,HS0.out⟩
 case round=>
  obtain ⟨j,hj,rfl,hS⟩:=hrel
  have HS:=Sd.m hS
  clear hS
  by_cases hlt:j<l.length
  ·have b1:decide ((j:Int)<(l.length:Int))=true:=dt__ (by omega)
   have b2:decide (j<l.length)=true:=dt__ hlt
   have hq0:0<=(j:Int):=by omega
   have hq1:(j:Int)<(l.length:Int):=by omega
   have w2:IntKind.i64.wrap ((j:Int)+1)=(j:Int)+1:=IntWalk.i64_in _ (by omega)
   obtain ⟨ad,B0,d0,B1,d1,B2,d2,B3,d3,rfl,k0,k1,k2,k3,m0,e0,m1,e1,m2,e2,m3,e3⟩:=at_T27 HL.out (j:Int) (by omega) (by omega)
   rw [Int.toNat_natCast] at k0 k1 k2 k3
   have hel:l[j]? =some (dx_ l (j:Int)):=by
    unfold dx_
    rw [Int.toNat_natCast,List.getD_eq_getElem?_getD,List.getElem?_eq_getElem hlt]
    rfl
   generalize dx_ l (j:Int)=b at k0 k1 k2 k3 m0 e0 m1 e1 m2 e2 m3 e3 hel
   replace k0:=(HS.out.2.1.cell (bl__ w _ k0)).trans k0
   replace k1:=(HS.out.2.1.cell (bl__ w _ k1)).trans k1
   replace k2:=(HS.out.2.1.cell (bl__ w _ k2)).trans k2
   replace k3:=(HS.out.2.1.cell (bl__ w _ k3)).trans k3
   have hroom:=je_ bookF bookN bookF_len l j b hel []
   have HR:=Sd.m hroom
   have HE:=Sd.m hel
   have M1:=Sd.m m1
   have E1:=Sd.m e1
   have HM1:b.f1.length<=9223372036854775807:=Kd.C_max e1
   clear hroom hel m0 m1 m2 m3 e0 e1 e2 e3
   have HSB:=Sd.m (SetAt.step HS.out (ab_ (Below.refl _ _) (.cells #[.slice B0 b.f0.length d0,.slice B1 b.f1.length d1,.slice B2 b.f2.length d2,.slice B3 b.f3.length d3] 27)))
   go_wp2_with fail
   obtain ⟨xs,hxs⟩: ∃ xs,xs=(l.take j).foldl bookF []:=⟨_,rfl⟩
   rw [←hxs] at HSB HR
   have HXS:=Sd.m hxs
   clear hxs k0 k1 k2 k3
   generalize wr.alloc (.cells #[.slice B0 b.f0.length d0,.slice B1 b.f1.length d1,.slice B2 b.f2.length d2,.slice B3 b.f3.length d3] 27)=Wb at HSB ⊢
   go_loopw [18] (fun u Wx=>SoI w b.f1 xs u Wx) (fun u _=>b.f1.length - (intOf u).toNat)
   case atStart=>exact ⟨0,Nat.zero_le _,rfl,HSB.out⟩
   case round=>
    obtain ⟨i,hi,rfl,hS⟩:=hrel
    have HSI:=Sd.m hS
    clear hS
    by_cases hlti:i<b.f1.length
    ·have c1:decide ((i:Int)<(b.f1.length:Int))=true:=dt__ (by omega)
     have c2:decide (i<b.f1.length)=true:=dt__ hlti
     have hp0:0<=(i:Int):=by omega
     have hp1:(i:Int)<(b.f1.length:Int):=by omega
     have w3:IntKind.i64.wrap ((i:Int)+1)=(i:Int)+1:=IntWalk.i64_in _ (by omega)
     obtain ⟨ar,A3,a3,A4,a4,A5,a5,A7,a7,A8,a8,A9,a9,rfl,k0,k1,k2,k3,k4,k5,k6,k7,k8,k9,k10,l3,g3,l4,g4,l5,g5,l7,g7,l8,g8,l9,g9⟩:=jp_ E1.out (i:Int) (by omega) (by omega)
     rw [Int.toNat_natCast] at k0 k1 k2 k3 k4 k5 k6 k7 k8 k9 k10
     have hel:b.f1[i]? =some (cp_ b.f1 (i:Int)):=by
      unfold cp_
      rw [Int.toNat_natCast,List.getD_eq_getElem?_getD,List.getElem?_eq_getElem hlti]
      rfl
     generalize cp_ b.f1 (i:Int)=r at k0 k1 k2 k3 k4 k5 k6 k7 k8 k9 k10 l3 g3 l4 g4 l5 g5 l7 g7 l8 g8 l9 g9 hel
     have cw:=fun (p:Addr) (v:Value) (h:w.cell? p=some v)=>(HSI.out.2.1.cell (bl__ w _ h)).trans h
     replace k0:=cw _ _ k0
     replace k1:=cw _ _ k1
     replace k2:=cw _ _ k2
     replace k3:=cw _ _ k3
     replace k4:=cw _ _ k4
     replace k5:=cw _ _ k5
     replace k6:=cw _ _ k6
     replace k7:=cw _ _ k7
     replace k8:=cw _ _ k8
     replace k9:=cw _ _ k9
     replace k10:=cw _ _ k10
     have hroom:=je_ ruleF ruleN ruleF_len b.f1 i r hel xs
     have hrn:((b.f1.take i).foldl ruleF xs).length+(nodes r.f2+nodes r.f3)<=1000000:=by
      have h1:=HR.out
      have h2:=HN.out
      have h3:((b.f1.take i).foldl ruleF xs).length+(nodes r.f2+nodes r.f3)<=xs.length+bookN b:=hroom
      have h4:xs.length+bookN b<=0+(l.map bookN).sum:=h1
      omega
     have hwd:=HWD.out b (List.mem_of_getElem? HE.out) r (List.mem_of_getElem? hel)
     have HRN:=Sd.m hrn
     have HEL:=Sd.m hel
     have HWR:=Sd.m hwd
     have G2:=Sd.m (And.intro l3 (And.intro g3 (And.intro l5 g5)))
     have G3:=Sd.m (And.intro l7 (And.intro g7 (And.intro l9 g9)))
     have hsb:=SetAt.step HSI.out (ab_ (Below.refl wr.heap.size wr) (.cells #[.int .i64 r.f0,.bool r.f1,.int .i64 r.f2.f0,.slice A3 r.f2.f1.length a3,.slice A4 r.f2.f2.length a4,.slice A5 r.f2.f3.length a5,.int .i64 r.f3.f0,.slice A7 r.f3.f1.length a7,.slice A8 r.f3.f2.length a8,.slice A9 r.f3.f3.length a9,.int .i64 r.f4] 55))
     have hform:=fg_ w w.heap.size r.f2 _ _ hsb (by omega) HWR.out.1 A3 a3 A4 a4 A5 a5 l3 g3 l5 g5
     have HFM:=Sd.m hform
     clear hsb hform l3 g3 l4 g4 l5 g5 l7 g7 l8 g8 l9 g9 hroom hrn hwd hel cw
     go_wp2_with fail
     refine HFM.out.mono ?_
     rintro e V1 ⟨rfl,hS1,hK1⟩
     have hbox:V1.heap[wr.heap.size]? =some (.cells #[.int .i64 r.f0,.bool r.f1,.int .i64 r.f2.f0,.slice A3 r.f2.f1.length a3,.slice A4 r.f2.f2.length a4,.slice A5 r.f2.f3.length a5,.int .i64 r.f3.f0,.slice A7 r.f3.f1.length a7,.slice A8 r.f3.f2.length a8,.slice A9 r.f3.f3.length a9,.int .i64 r.f4] 55 (0,0)):=(hK1.2 wr.heap.size _ 55 (by decide) (by decide) (aj_ wr _)).trans (aj_ wr _)
     have n6:=bc_ hbox 6 rfl
     have n7:=bc_ hbox 7 rfl
     have n8:=bc_ hbox 8 rfl
     have n9:=bc_ hbox 9 rfl
     have hx2:(formF r.f2 ((b.f1.take i).foldl ruleF xs)).length+nodes r.f3<=1000000:=by
      have h1:=fs_ r.f2 ((b.f1.take i).foldl ruleF xs)
      have h2:=HRN.out
      omega
     have hform2:=fg_ w w.heap.size r.f3 _ _ hS1 hx2 HWR.out.2 A7 a7 A8 a8 A9 a9 G3.out.1 G3.out.2.1 G3.out.2.2.1 G3.out.2.2.2
     have HF2:=Sd.m hform2
     clear hform2 hx2 hS1 hK1 hbox k0 k1 k2 k3 k4 k5 k6 k7 k8 k9 k10
     go_wp2_with fail
     refine HF2.out.mono ?_
     rintro e V2 ⟨rfl,hS2,hK2⟩
     have HS2:=Sd.m hS2
     clear hS2 hK2 n6 n7 n8 n9
     go_wp2_with fail
     go_roundw
     case rel=>
      refine ⟨i+1,hlti,by go_num,?_⟩
      rw [List.take_add_one,HEL.out,List.foldl_append]
      exact HS2.out
     case measure=>simp [intOf];omega
    ·have c1:decide ((i:Int)<(b.f1.length:Int))=false:=df__ (by omega)
     have c2:decide (i<b.f1.length)=false:=df__ (by omega)
     go_wp2_with fail
     go_roundw
     case rel=>
      refine ⟨j+1,hlt,by go_num,?_⟩
      rw [List.take_add_one,HE.out,List.foldl_append,←HXS.out]
      have h:=HSI.out
      rw [List.take_of_length_le (by omega)] at h
      exact h
     case measure=>simp [intOf];omega
  ·have b1:decide ((j:Int)<(l.length:Int))=false:=df__ (by omega)
   have b2:decide (j<l.length)=false:=df__ hlt
   have hS:=HS.out
   rw [List.take_of_length_le (by omega)] at hS
   obtain ⟨A,c,hv,hh,hll,hr⟩:=hS.boxed
   have hcell:=hv.cell
   have HB:=Sd.m hS.2.1
   have HAT:=Sd.m (fo_.calls A c (booksF l) r0 r1 wr hr hll HOF.out)
   have hA:(List.foldl bookF [] l)=booksF l:=rfl
   rw [hA] at hcell
   clear hS hv hh hll hr hA
   go_wp2_with fail
   refine HAT.out.mono ?_
   rintro e V ⟨v,rfl,hN,hb⟩
   obtain ⟨An,cn,rfl⟩:=N_slice hN
   have HNN:=Sd.m hN
   have HBB:=Sd.m hb
   clear hN hb hcell
   go_wp2_with fail
   go_ret2
   exact ⟨_,rfl,N_mono (N_lower HNN.out HB.out.size) (fun k hk=>Nat.le_trans HB.out.size hk),HB.out.trans (HBB.out.mono HB.out.size)⟩
theorem sets_calls (p:S45)(w:World)(hx:nodes p<=1000000)(hwd:Wide p)(A1:Option Addr)(c1:Nat)(A2:Option Addr)(c2:Nat)(A3:Option Addr)(c3:Nat)(l1:p.f1.length<=c1)(g1:k74.C w A1 p.f1.length p.f1)(l3:p.f3.length<=c3)(g3:k45.C w A3 p.f3.length p.f3):
  Calls Tryz.prog 21 #[.agg #[.int .i64 p.f0,.slice A1 p.f1.length c1,.slice A2 p.f2.length c2,.slice A3 p.f3.length c3]] w fun e w'=> ∃ A c,e=.returned (.slice A (formF p []).length c)∧(formF p []).length<=c∧Kd.C (Kd.slice 74 k74) w' A (formF p []).length (formF p [])∧Below w.heap.size w w':=by
 obtain ⟨W1,hW1⟩: ∃ W_,W_=w.alloc (.cells #[.int .i64 p.f0,.slice A1 p.f1.length c1,.slice A2 p.f2.length c2,.slice A3 p.f3.length c3] 45):=⟨_,rfl⟩
 have hsz:W1.heap.size=w.heap.size+1:=by rw [hW1];exact Array.size_push _
 have hb1:Below w.heap.size w W1:=by rw [hW1];exact ab_ (Below.refl _ _) _
 have hb2:Below w.heap.size w (W1.alloc (.cells #[.slice none 0 0] 68)):=ab_ hb1 _
 have hS:SetAt w (W1.alloc (.cells #[.slice none 0 0] 68)) W1.heap.size []:=⟨⟨_,Boxed.new W1 68 _,OwnRow.none_ _ _ _ _ _⟩,hb2,hb1.size⟩
 have hform:=fg_ w W1.heap.size p _ [] hS (by simpa using hx) hwd A1 c1 A2 c2 A3 c3 l1 g1 l3 g3
 rw [hsz,hW1] at hform
 obtain ⟨zs,hzs⟩: ∃ zs,zs=formF p []:=⟨_,rfl⟩
 rw [←hzs] at hform ⊢
 have HF:=Sd.m hform
 clear hform hS hb2 hb1 hsz hW1 hzs hx hwd l1 g1 l3 g3
 go_enter Tryz.func21,Tryz.ntmps21
 go_wp2_with fail
 refine HF.out.mono ?_
 rintro e w' ⟨rfl,hS,hK⟩
 obtain ⟨A,c,hv,hh,hl,hr⟩:=hS.boxed
 have hcell:=hv.cell
 have HS:=Sd.m hS.2.1
 have HR:=Sd.m hr
 have HL:=Sd.m hl
 clear hS hK hv hh hl hr
 go_wp2_with fail
 go_ret
 exact ⟨_,_,rfl,HL.out,HR.out,HS.out⟩
end L
namespace P
open A L
theorem rd3 {L:List (List S74)}{i:Nat}{x:List S74}(h:L[i]? =some x):fc_ L (i:Int)=x:=by
 unfold fc_
 rw [Int.toNat_natCast,List.getD_eq_getElem?_getD,h]
 rfl
theorem great_ev (l0:List (List S74))(m:Int)(hm:0<=m∧m<=1000)(hs:X.SmallL l0): ∃ b,Ev (fun k=>av_.f k l0 m) b∧(b=false->(l0.length:Int)+((l0.map List.length).sum:Nat)<=m):=by
 have go: ∀ d i:Nat,i+d=l0.length-> ∀ n:Int,0<=n->n<=140737488356328-> ∃ b,Ev (fun k=>av_.l0 k l0 m n (i:Int)) b∧(b=false->n+(((l0.drop i).map List.length).sum:Nat)<=m):=by
  intro d
  induction d with
  | zero=>
   intro i hi n h0 h1
   refine ⟨decide (n>m),Ev.step (f:=fun _=>some (decide (n>m))) (fun k=>by rw [av_.l0,if_neg (by omega)]) (Ev.now _),fun hb=>?_⟩
   rw [List.drop_eq_nil_iff.2 (by omega)]
   have:=of_decide_eq_false hb
   simp only [List.map_nil,List.sum_nil]
   omega
  | succ d ih=>
   intro i hi n h0 h1
   by_cases hn:n<=m
   ·have hlt:i<l0.length:=by omega
    have hg:l0[i]? =some l0[i]:=List.getElem?_eq_getElem hlt
    have hx:=hs.2 _ (List.getElem_mem hlt)
    obtain ⟨b,hb,hb2⟩:=ih (i+1) (by omega) (n+(l0[i].length:Int)) (by omega) (by omega)
    refine ⟨b,Ev.step (f:=fun k=>av_.l0 k l0 m (n+(l0[i].length:Int)) ((i:Int)+1)) (fun k=>by rw [av_.l0,if_pos (by omega),if_pos hn,if_pos (by omega),rd3 hg,w64 (n:=n+(l0[i].length:Int)) (by omega) (by omega),w64 (n:=(i:Int)+1) (by omega) (by have:=hs.1;omega)]) ?_,fun q=>?_⟩
    ·rw [show (i:Int)+1=((i+1:Nat):Int) from by omega]
     exact hb
    ·have:=hb2 q
     rw [List.drop_eq_getElem_cons hlt,List.map_cons,List.sum_cons]
     omega
   ·refine ⟨true,Ev.step (f:=fun _=>some true) (fun k=>by rw [av_.l0,if_pos (by omega),if_neg hn,dt__ (by omega)]) (Ev.now _),fun q=>by cases q⟩
 obtain ⟨b,h1,h2⟩:=go l0.length 0 (by omega) (l0.length:Int) (by omega) (by have:=hs.1;omega)
 exact ⟨b,h1,h2⟩
abbrev lx:List (List S74):=[[⟨97,99⟩],[⟨98,98⟩]]
abbrev q0:List S74:=[⟨0,96⟩,⟨100,1114111⟩]
abbrev q1:List S74:=[⟨97,97⟩,⟨99,99⟩]
abbrev q2:List S74:=[⟨98,98⟩]
theorem at_q0:atF lx [false,false]=q0:=by
 refine ek_ ⟨by simp [Can],fun c h0 h1=>Bool.eq_iff_iff.mpr ?_⟩
 simp [Mem,inR,hasB,sigF];omega
theorem at_q1:atF lx [true,false]=q1:=by
 refine ek_ ⟨by simp [Can],fun c h0 h1=>Bool.eq_iff_iff.mpr ?_⟩
 simp [Mem,inR,hasB,sigF];omega
theorem at_q2:atF lx [true,true]=q2:=by
 refine ek_ ⟨by simp [Can],fun c h0 h1=>Bool.eq_iff_iff.mpr ?_⟩
 simp [Mem,inR,hasB,sigF];omega
theorem few_lx:Few lx (edgesOf lx):=few_edges (by decide)
theorem atoms_lx:AtomsOf lx [q0,q1,q2]:=by
 refine ⟨[[false,false],[true,false],[true,true]],by decide,by rw [List.map_cons,List.map_cons,List.map_cons,List.map_nil,at_q0,at_q1,at_q2],fun c h0 h1=>?_,?_⟩
 ·simp only [sigF,hasB,Mem,inR,List.map_cons,List.map_nil,List.length_cons,List.length_nil,List.any_cons,List.any_nil,List.mem_cons,List.cons.injEq,and_true,List.not_mem_nil,or_false]
  simp
  omega
 ·intro t ht
  simp only [List.mem_cons,List.not_mem_nil,or_false] at ht
  rcases ht with rfl | rfl | rfl
  ·rw [at_q0];decide
  ·rw [at_q1];decide
  ·rw [at_q2];decide
theorem sorted_lx:Sorted [q0,q1,q2]:=by
 unfold Sorted
 simp [lowR,aq_]
theorem cls_lx:clsL lx=[q0,q1,q2]:=(clsL_one few_lx atoms_lx sorted_lx).symm
theorem bad_lx:badB lx=false:=by
 unfold badB
 rw [cls_lx]
 decide
theorem of_lx:fo_.f lx=some ([q0,q1,q2],0):=by
 rw [of_f few_lx,bad_lx,cls_lx]
 rfl
theorem clsc_lx:Cls lx [q0,q1,q2]:=cls_of atoms_lx sorted_lx
theorem jy_:Short [q0,q1,q2]:=by
 intro x hx
 simp only [List.mem_cons,List.not_mem_nil,or_false] at hx
 rcases hx with rfl | rfl | rfl <;> decide
theorem hd_:[q0,q1,q2].map firstF=[0,97,98]:=by
 rw [List.map_cons,List.map_cons,List.map_cons,List.map_nil,(clsc_lx.first jy_ (x:=q0) (by simp)).1,(clsc_lx.first jy_ (x:=q1) (by simp)).1,(clsc_lx.first jy_ (x:=q2) (by simp)).1]
 rfl
theorem within_lx:withinF [q0,q1,q2] [⟨97,99⟩]=[1,2]:=by
 unfold withinF
 rw [hd_]
 decide
end P
namespace R
open A L B
attribute [local go_sem] cl_ cj_ cw_ cv_ cd_ cc_ ck_ ci_
theorem info3:(Tryz.prog.info? 3).map (fun i=>(i.zero,i.size,i.bytes))=some (some (.int .i64 0),1,8):=by kernel_rfl
def eq_ (xs:List (List S74))(i:Int):(List S74):=xs.getD i.toNat ([]:List S74)
theorem at_L2 {w:World}{A:Option Addr}{n:Nat}{xs:List (List S74)}(h:Kd.C (Kd.slice 74 k74) w A n xs)(i:Int)(h0:0<=i)(h1:i<n): ∃ ad A0 c0,A=some ad∧w.cell? (ad.add i.toNat)=some (.slice A0 (eq_ xs i).length c0)∧(eq_ xs i).length<=c0∧k74.C w A0 (eq_ xs i).length (eq_ xs i):=by
 obtain ⟨ad,c,e,_,hK,hc0⟩:=Kd.C_get h ([]:List S74) i h0 h1
 have hc: ∀ j u,c[j]? =some u->w.cell? (ad.add (i.toNat*1+j))=some u:=hc0
 obtain ⟨A0,c0,rfl,l0,g0⟩:=hK
 exact ⟨ad,A0,c0,e,by have hq:=hc 0 _ rfl;rwa [Nat.mul_one,Nat.add_zero] at hq,l0,g0⟩
def az_.l0:Nat->List (List (S74))->Int->Int->Option (Int)
 | 0,_,_,_=>none
 | k+1,x0,x1,x5=>if x5<(x0.length:Int) then (if 0<=x5 then ((ap_.f k (eq_ x0 x5) x1).bind fun t147=>(if t147=true then (some x5) else (az_.l0 k x0 x1 (wrap64 (x5+1))))) else (none)) else (some (-1))
def az_.f (k:Nat)(l0:List (List (S74)))(a1:Int):Option (Int):=az_.l0 k l0 a1 0
theorem az_.calls (k:Nat)(A0:Option Addr)(c0:Nat)(l0:List (List (S74)))(a1:Int)(r:Int)(w:World)(hr0:Kd.C (Kd.slice 74 k74) w A0 l0.length l0)(hc0:l0.length<=c0)(h:az_.f k l0 a1=some r):
  Calls Tryz.prog 12 #[.slice A0 l0.length c0,.int .i64 a1] w fun e w'=>e=.returned (.int .i64 r)∧Drawn0 w w':=by
 have HR0:=Sd.m hr0
 have HC0:=Sd.m hc0
 clear hr0 hc0
 have H:(az_.l0 k l0 a1 0)=some r:=h
 clear h
 have H':=Sd.m H
 clear H
 go_enter Tryz.func12,Tryz.ntmps12
 go_wp2
 go_loopg [5] k (fun kq v5 w'=> ∃ (x5_1:Int),v5=.int .i64 x5_1∧Sd (az_.l0 kq l0 a1 x5_1=some r)∧Sd (kq<=k)∧Drawn0 w w')
 case atStart=>exact ⟨(0),ri_,H',⟨Nat.le_refl _⟩,dr_⟩
 case round=>
  clear H'
  obtain ⟨x5_1,rfl,HA,HK1,⟨m1,rfl⟩⟩:=hrel
  cases gk with
  | zero=>exact absurd HA.out (by simp [az_.l0])
  | succ k1=>
   have H:=HA.out
   clear HA
   simp only [az_.l0] at H
   by_cases c3:x5_1<(l0.length:Int)
   ·rw [if_pos c3] at H
    have c3b0:=dt__ c3
    clear c3
    by_cases c4:0<=x5_1
    ·rw [if_pos c4] at H
     have c4b0:=dt__ c4
     clear c4
     replace H:=Option.bind_eq_some_iff.mp H
     obtain ⟨t147,A50,H⟩:=H
     replace H:(if t147=true then (some x5_1) else (az_.l0 k1 l0 a1 (wrap64 (x5_1+1))))=some r:=H
     have A5:=Sd.m A50
     clear A50
     by_cases c6:t147=true
     ·subst c6
      have H1:(some x5_1)=some r:=by rw [if_pos rfl] at H;exact H
      clear H
      have H:=H1
      clear H1
      obtain rfl:=Option.some.inj H
      have p146:0<=(x5_1:Int):=od_
      have q146:x5_1<(l0.length:Int):=od_
      obtain ⟨ad146,A146_0,c146_0,e146,hx146_0,hl146_0,hi146_0⟩:=at_L2 HR0.out x5_1 p146 q146
      cases e146
      have HR146_0:=Sd.m hi146_0
      have HC146_0:=Sd.m hl146_0
      clear hi146_0 hl146_0
      replace p146:=eq_true p146
      replace q146:=eq_true q146
      go_wp2_with (first | ((with_reducible refine bk_ (f:=44) rfl ?_);refine goesL_ (some 17) rfl rfl Tryz.func44 (by kernel_rfl) rfl #[.slice A146_0 (eq_ l0 x5_1).length c146_0,.int .i64 a1] rfl gl_ ?_;(with_reducible refine (ap_.calls k1 _ _ (eq_ l0 x5_1) a1 true _ ?side1 ?side2 A5.out).mono ?_);(case side1=>repeat (first | exact HR146_0.out | (with_reducible refine Kd.C_alloc ?_ _) | (with_reducible refine Kd.C_drewN ?_ _) | (with_reducible refine Kd.C_drew ?_)));(case side2=>exact HC146_0.out);rintro e w' ⟨rfl,⟨nd,rfl⟩⟩;refine ⟨_,rfl,?_⟩))
      go_ret
      exact ⟨ri_,dr_⟩
     ·replace c6:=Bool.eq_false_iff.mpr c6
      subst c6
      have H1:(az_.l0 k1 l0 a1 (wrap64 (x5_1+1)))=some r:=by rw [if_neg (show ¬ (false=true) by decide)] at H;exact H
      clear H
      have H:=H1
      clear H1
      have H':=Sd.m H
      clear H
      have p146:0<=(x5_1:Int):=od_
      have q146:x5_1<(l0.length:Int):=od_
      obtain ⟨ad146,A146_0,c146_0,e146,hx146_0,hl146_0,hi146_0⟩:=at_L2 HR0.out x5_1 p146 q146
      cases e146
      have HR146_0:=Sd.m hi146_0
      have HC146_0:=Sd.m hl146_0
      clear hi146_0 hl146_0
      replace p146:=eq_true p146
      replace q146:=eq_true q146
      go_wp2_with (first | ((with_reducible refine bk_ (f:=44) rfl ?_);refine goesL_ (some 17) rfl rfl Tryz.func44 (by kernel_rfl) rfl #[.slice A146_0 (eq_ l0 x5_1).length c146_0,.int .i64 a1] rfl gl_ ?_;(with_reducible refine (ap_.calls k1 _ _ (eq_ l0 x5_1) a1 false _ ?side1 ?side2 A5.out).mono ?_);(case side1=>repeat (first | exact HR146_0.out | (with_reducible refine Kd.C_alloc ?_ _) | (with_reducible refine Kd.C_drewN ?_ _) | (with_reducible refine Kd.C_drew ?_)));(case side2=>exact HC146_0.out);rintro e w' ⟨rfl,⟨nd,rfl⟩⟩;refine ⟨_,rfl,?_⟩))
      go_roundg k1
      case measure=>have:=HK1.out;omega
      case rel=>exact ⟨(wrap64 (x5_1+1)),ri_,H',⟨by have:=HK1.out;omega⟩,dr_⟩
    ·rw [if_neg c4] at H
     exact absurd H (by simp)
   ·rw [if_neg c3] at H
    have c3b0:=df__ c3
    clear c3
    obtain rfl:=Option.some.inj H
    go_wp2
    go_ret
    exact ⟨ri_,dr_⟩
def ay_.l0:Nat->List (List (S74))->List Int->Int->Option (List Int)
 | 0,_,_,_=>none
 | k+1,x0,x3,x4=>if x4<(x0.length:Int) then (if 0<=x4 then ((da_.f (eq_ x0 x4)).bind fun t149=>(if x3.length<17592186044416 then (ay_.l0 k x0 (x3 ++ [t149]) (wrap64 (x4+1))) else (none))) else (none)) else (some x3)
def ay_.f (k:Nat)(l0:List (List (S74))):Option (List Int):=ay_.l0 k l0 ([]:List Int) 0
theorem ay_.calls (k:Nat)(A0:Option Addr)(c0:Nat)(l0:List (List (S74)))(r:List Int)(w:World)(hr0:Kd.C (Kd.slice 74 k74) w A0 l0.length l0)(hc0:l0.length<=c0)(h:ay_.f k l0=some r):
  Calls Tryz.prog 70 #[.slice A0 l0.length c0] w fun e w'=> ∃ v0_:Value,e=.returned (v0_)∧Kd.R (Kd.int .i64) 3 w' w.heap.size (fun _=>True) v0_ r∧Below w.heap.size w w':=by
 have HR0:=Sd.m hr0
 have HC0:=Sd.m hc0
 clear hr0 hc0
 have HB:=Sd.m (Below.refl w.heap.size w)
 have H:(ay_.l0 k l0 ([]:List Int) 0)=some r:=h
 clear h
 have H':=Sd.m H
 clear H
 go_enter Tryz.func70,Tryz.ntmps70
 go_wp2
 go_loopg [3,4] k (fun kq v3 v4 w'=> ∃ (x3_1:List Int) (x4_1:Int),v4=.int .i64 x4_1∧Sd (ay_.l0 kq l0 x3_1 x4_1=some r)∧Sd (kq<=k)∧Sd (Kd.R (Kd.int .i64) 3 w' w.heap.size (fun _=>True) v3 x3_1)∧Sd (Below w.heap.size w w'))
 case atStart=>exact ⟨(([]:List Int)),(0),ri_,H',⟨Nat.le_refl _⟩,⟨by first | exact Kd.R_nil _ _ _ _ _ | exact Kd.N_nil _ _ _ _ _ | exact Kd.V_nil _ _ _ _ _ | exact Kd.Q_nil _ _ _ _ _ | exact Kd.S_nil _ _ _ _ _⟩,⟨rb_⟩⟩
 case round=>
  clear H'
  obtain ⟨x3_1,x4_1,rfl,HA,HK1,HO_3,HB⟩:=hrel
  cases gk with
  | zero=>exact absurd HA.out (by simp [ay_.l0])
  | succ k1=>
   have H:=HA.out
   clear HA
   simp only [ay_.l0] at H
   by_cases c2:x4_1<(l0.length:Int)
   ·rw [if_pos c2] at H
    have c2b0:=dt__ c2
    clear c2
    by_cases c3:0<=x4_1
    ·rw [if_pos c3] at H
     have c3b0:=dt__ c3
     clear c3
     replace H:=Option.bind_eq_some_iff.mp H
     obtain ⟨t149,A40,H⟩:=H
     replace H:(if x3_1.length<17592186044416 then (ay_.l0 k1 l0 (x3_1 ++ [t149]) (wrap64 (x4_1+1))) else (none))=some r:=H
     have A4:=Sd.m A40
     clear A40
     by_cases c5:x3_1.length<17592186044416
     ·rw [if_pos c5] at H
      have LMc5:=Sd.m c5
      clear c5
      obtain ⟨y150,hy150⟩: ∃ y_:List Int,y_=(x3_1 ++ [t149]):=⟨_,rfl⟩
      replace H:(ay_.l0 k1 l0 y150 (wrap64 (x4_1+1)))=some r:=by first | (rw [hy150];with_reducible exact H) | (have H2_:=(Option.bind_some _ _).symm.trans H;rw [hy150];with_reducible exact H2_) | (have H2_:=(Option.bind_some _ _).symm.trans H;with_reducible exact H2_) | with_reducible exact H | (rw [hy150];exact H) | exact H
      have Ny150:=Sd.m hy150
      clear hy150
      have H':=Sd.m H
      clear H
      have p148:0<=(x4_1:Int):=od_
      have q148:x4_1<(l0.length:Int):=od_
      obtain ⟨ad148,A148_0,c148_0,e148,hx148_0,hl148_0,hi148_0⟩:=at_L2 HR0.out x4_1 p148 q148
      cases e148
      replace hx148_0:=(HB.out.cell (bl__ w _ hx148_0)).trans hx148_0
      have HR148_0:=Sd.m hi148_0
      have HC148_0:=Sd.m hl148_0
      clear hi148_0 hl148_0
      replace p148:=eq_true p148
      replace q148:=eq_true q148
      go_wp2_with (first | ((with_reducible refine bk_ (f:=13) rfl ?_);refine goesL_ (some 16) rfl rfl Tryz.func13 (by kernel_rfl) rfl #[.slice A148_0 (eq_ l0 x4_1).length c148_0] rfl gl_ ?_;(with_reducible refine (da_.calls _ _ (eq_ l0 x4_1) t149 _ ?side1 ?side2 A4.out).mono ?_);(case side1=>exact cs_ (Kd.C_below HR148_0.out HB.out));(case side2=>exact HC148_0.out);rintro e w6 ⟨rfl,hb⟩;refine ⟨_,rfl,?_⟩;have n0_:=Sd.m (Kd.R_below (rr_ HO_3.out) hb);have n1_:=Sd.m (ax_ rb_ hb);clear HO_3;clear HB;have HO_3:=n0_;have HB:=n1_;clear n0_ n1_;(try clear hb);(try clear hb2);(try clear hk);(try clear hi)) | ((with_reducible refine bq_ (b:=.append) (xs:=#[.tmp 11,.tmp 17]) rfl ?_);at_builtin;refine Kd.R_append (Kd.int .i64) (w0:=w) w.heap.size rfl (.tmp 11) (.tmp 17) 42 3 (.int .i64 0) 8 rfl Tryz.underlying42 info3 rfl (by decide) (by omega) u3 x3_1 t149 [.int .i64 t149] (fun _=>True) (fun _=>False) rfl rfl ?aP (fun _ hk=>hk.elim) ?aF ?aO ?aB ?aS ?aL ?_;(case aP=>exact rfl);(case aB=>exact rb_);(case aF=>exact (fun _ _=>trivial));(case aO=>exact (rr_ HO_3.out));(case aS=>exact (ao_ rb_));(case aL=>have:=LMc5.out;omega);intro v151 w7 ho hb hg hat;rw [←Ny150.out] at ho;have n0_:=Sd.m (hb);have n1_:=Sd.m (ho);clear HB;clear HO_3;have HB:=n0_;have HO152:=n1_;clear n0_ n1_;clear ho hb hg hat))
      go_roundg k1
      case measure=>have:=HK1.out;omega
      case rel=>exact ⟨(y150),(wrap64 (x4_1+1)),ri_,H',⟨by have:=HK1.out;omega⟩,⟨rr_ HO152.out⟩,⟨rb_⟩⟩
     ·rw [if_neg c5] at H
      exact absurd H (by simp)
    ·rw [if_neg c3] at H
     exact absurd H (by simp)
   ·rw [if_neg c2] at H
    have c2b0:=df__ c2
    clear c2
    obtain rfl:=Option.some.inj H
    go_wp2
    go_ret
    exact ⟨_,re_,rr_ HO_3.out,rb_⟩
end R
namespace M
open A K L R B D
attribute [local go_sem] cl_ cj_ cw_ cv_ cd_ cc_ ck_ ci_
theorem info3:(Tryz.prog.info? 3).map (fun i=>(i.zero,i.size,i.bytes))=some (some (.int .i64 0),1,8):=by kernel_rfl
end M
namespace P
open A L M LX
theorem ints_ev {x y:List Int}(hm:(x.length:Int)<=1000000)(r:Bool)(hr:r=true↔x=y):Ev (fun k=>ah_.f k x y) r:=by
 unfold ah_.f
 by_cases hl:x.length=y.length
 ·refine eu_ (by omega) ?_
  have go: ∀ d i:Nat,i+d=x.length-> ∀ r:Bool,(r=true↔x.drop i=y.drop i)->Ev (fun k=>ah_.l0 k x y (i:Int)) r:=by
   intro d
   induction d with
   | zero=>
    intro i hi r hr
    have:r=true:=hr.2 (by rw [List.drop_eq_nil_iff.2 (by omega),List.drop_eq_nil_iff.2 (by omega)])
    subst this
    exact Ev.step (f:=fun _=>some true) (fun k=>by rw [ah_.l0,if_neg (by omega)]) (Ev.now _)
   | succ d ih=>
    intro i hi r hr
    have hx:i<x.length:=by omega
    have hy:i<y.length:=by omega
    have ex:rd x (i:Int)=x[i]:=by unfold rd;rw [Int.toNat_natCast,List.getD_eq_getElem?_getD,List.getElem?_eq_getElem hx];rfl
    have ey:rd y (i:Int)=y[i]:=by unfold rd;rw [Int.toNat_natCast,List.getD_eq_getElem?_getD,List.getElem?_eq_getElem hy];rfl
    rw [List.drop_eq_getElem_cons hx,List.drop_eq_getElem_cons hy,List.cons.injEq] at hr
    by_cases he:x[i]=y[i]
    ·have:=ih (i+1) (by omega) r (by rw [hr];exact ⟨fun h=>h.2,fun h=>⟨he,h⟩⟩)
     refine Ev.step (f:=fun k=>ah_.l0 k x y ((i:Int)+1)) (fun k=>by rw [ah_.l0,if_pos (by omega),if_pos (by omega),if_pos (by omega),if_pos (by rw [ex,ey];exact he),w64 (n:=(i:Int)+1) (by omega) (by omega)]) ?_
     exact this
    ·have:r=false:=by
      cases r with
      | false=>rfl
      | true=>exact absurd (hr.1 rfl).1 he
     subst this
     exact Ev.step (f:=fun _=>some false) (fun k=>by rw [ah_.l0,if_pos (by omega),if_pos (by omega),if_pos (by omega),if_neg (by rw [ex,ey];exact he)]) (Ev.now _)
  exact go x.length 0 (by omega) r (by rw [List.drop_zero,List.drop_zero];exact hr)
 ·have:r=false:=by
   cases r with
   | false=>rfl
   | true=>exact absurd (congrArg List.length (hr.1 rfl)) hl
  subst this
  exact ea_ (by omega) (Ev.now _)
open K
def xB:S27:=⟨[vA],[rB,rC],[],[vA.f0]⟩
theorem in_ab:inF [⟨98,98⟩] [[⟨97,99⟩]]=false:=by unfold inF;simp [eqF]
theorem in_aa:inF [⟨97,99⟩] [[⟨97,99⟩],[⟨98,98⟩]]=true:=by unfold inF;simp [eqF]
theorem in_n (y:List S74):inF y []=false:=rfl
theorem add_n (y:List S74):addF [] y=[y]:=by unfold addF;rw [if_neg (by rw [in_n];decide)];rfl
theorem form_A (xs:List (List S74)):formF pA xs=addF xs [⟨97,99⟩]:=by rw [fm_];rfl
theorem form_S (xs:List (List S74)):formF ⟨2,[⟨98,98⟩],[],[]⟩ xs=addF xs [⟨98,98⟩]:=by rw [fm_];rfl
theorem form_B (xs:List (List S74)):formF pB xs=addF xs [⟨98,98⟩]:=by rw [fm_];show formF ⟨2,[⟨98,98⟩],[],[]⟩ xs=_;exact form_S xs
theorem form_E (xs:List (List S74)):formF pE xs=xs:=by rw [fm_];rfl
theorem books_x:booksF [xB]=lx:=by
 show ruleF (ruleF [] rB) rC=lx
 show formF pE (formF pA (formF pB (formF pA [])))=lx
 rw [form_E,form_A,form_B,form_A,add_n]
 have h1:addF [[⟨97,99⟩]] [⟨98,98⟩]=[[⟨97,99⟩],[⟨98,98⟩]]:=by unfold addF;rw [if_neg (by rw [in_ab];decide)];rfl
 rw [h1]
 unfold addF
 rw [if_pos in_aa]
theorem sets_B:formF pB []=[[⟨98,98⟩]]:=by rw [form_B,add_n]
theorem within_b:withinF [q0,q1,q2] [⟨98,98⟩]=[2]:=by
 unfold withinF
 rw [hd_]
 decide
theorem tell_A:tellF [q0,q1,q2] pA=⟨2,[⟨97,99⟩],[1,2],[]⟩:=by rw [hn_,if_pos (show pA.f0=2 from rfl),show pA.f1=[⟨97,99⟩] from rfl,within_lx];rfl
theorem tell_S:tellF [q0,q1,q2] ⟨2,[⟨98,98⟩],[],[]⟩=⟨2,[⟨98,98⟩],[2],[]⟩:=by rw [hn_,if_pos (show (⟨2,[⟨98,98⟩],[],[]⟩:S45).f0=2 from rfl),show (⟨2,[⟨98,98⟩],[],[]⟩:S45).f1=[⟨98,98⟩] from rfl,within_b];rfl
theorem tell_B:tellF [q0,q1,q2] pB=⟨5,[],[],[⟨2,[⟨98,98⟩],[2],[]⟩]⟩:=by rw [hn_];show (⟨5,[],[],[tellF [q0,q1,q2] ⟨2,[⟨98,98⟩],[],[]⟩]⟩:S45)=_;rw [tell_S]
theorem told_x:xB.f1.map (tellR [q0,q1,q2])=[⟨3000,false,⟨2,[⟨97,99⟩],[1,2],[]⟩,⟨5,[],[],[⟨2,[⟨98,98⟩],[2],[]⟩]⟩,9⟩,tellR [q0,q1,q2] rC]:=by
 show [tellR [q0,q1,q2] rB,tellR [q0,q1,q2] rC]=_
 have:tellR [q0,q1,q2] rB=⟨3000,false,⟨2,[⟨97,99⟩],[1,2],[]⟩,⟨5,[],[],[⟨2,[⟨98,98⟩],[2],[]⟩]⟩,9⟩:=by
  show (⟨3000,false,tellF [q0,q1,q2] pA,tellF [q0,q1,q2] pB,9⟩:S55)=_
  rw [tell_A,tell_B]
 rw [this]
theorem word_x:eachF (classF [q0,q1,q2]) [120,97,98]=([0,1,2],0):=by decide
theorem chars_x:eachF (charF ([q0,q1,q2].map firstF)) [0,1,2]=([0,97,98],0):=by rw [hd_];decide
theorem chars_y:eachF (charF ([q0,q1,q2].map firstF)) [3]=([],1):=by rw [hd_];decide
theorem il_:nodes pA=1:=by rw [ew_];rfl
theorem ke_:nodes pB=2:=by rw [ew_];show 1+([nodes ⟨2,[⟨98,98⟩],[],[]⟩].sum)=2;rw [ew_];rfl
theorem nodes_E:nodes pE=1:=by rw [ew_];rfl
theorem wide_A:Wide pA:=⟨pA,by decide,fun q hq=>nomatch hq⟩
theorem wide_B:Wide pB:=⟨pB,by decide,fun q hq=>by
 rw [List.mem_singleton.1 hq]
 exact ⟨_,by decide,fun q hq=>nomatch hq⟩⟩
theorem wide_E:Wide pE:=⟨pE,by decide,fun q hq=>nomatch hq⟩
theorem booksN_x:(([xB]:List S27).map bookN).sum<=1000000:=by
 show (nodes pA+nodes pB+(nodes pA+nodes pE+0))+0<=1000000
 rw [il_,ke_,nodes_E]
 decide
theorem wide_x: ∀ b∈([xB]:List S27),∀ r∈b.f1,Wide r.f2∧Wide r.f3:=by
 intro b hb r hr
 rw [List.mem_singleton.1 hb] at hr
 rcases List.mem_cons.1 hr with rfl | hr
 ·exact ⟨wide_A,wide_B⟩
 ·rw [List.mem_singleton.1 hr]
  exact ⟨wide_A,wide_E⟩
def qL:List (List S74):=[q0,q1,q2]
theorem of_x:fo_.f (booksF [xB])=some (qL,0):=by rw [books_x];exact of_lx
def rT:S55:=⟨3000,false,⟨2,[⟨97,99⟩],[1,2],[]⟩,⟨5,[],[],[⟨2,[⟨98,98⟩],[2],[]⟩]⟩,9⟩
theorem told_l:[rB,rC].map (tellR qL)=[rT,tellR qL rC]:=told_x
theorem word_l:eachF (classF qL) [120,97,98]=([0,1,2],0):=word_x
theorem chars_l:eachF (charF (qL.map firstF)) [0,1,2]=([0,97,98],0):=chars_x
theorem chars_n:eachF (charF (qL.map firstF)) [3]=([],1):=chars_y
theorem tell_l:tellF qL pA=⟨2,[⟨97,99⟩],[1,2],[]⟩:=tell_A
theorem nodes_x: ∀ r∈([rB,rC]:List S55),nodes r.f2<=1000000∧nodes r.f3<=1000000:=by
 intro r hr
 rcases List.mem_cons.1 hr with rfl | hr
 ·exact ⟨by rw [show rB.f2=pA from rfl,il_];decide,by rw [show rB.f3=pB from rfl,ke_];decide⟩
 ·rw [List.mem_singleton.1 hr]
  exact ⟨by rw [show rC.f2=pA from rfl,il_];decide,by rw [show rC.f3=pE from rfl,nodes_E];decide⟩
end P
namespace LX
open Shelf
noncomputable def ops9raw:Array Oper:=match Tryz.f9.body with
 | some (.seq _ (.seq _ (.seq _ (.seq _ (.seq _ (.seq _ (.seq _ (.seq _ (.seq (.region _ o _) _)))))))))=>o
 | _=>#[]
noncomputable def ops9x:{ o:Array Oper // ops9raw=o }:=by
 refine ⟨?o,?h⟩
 case h=>
  unfold ops9raw Tryz.f9
  dsimp only
  rfl
noncomputable def ops9:Array Oper:=ops9x.1
def ord9:List Nat:=[0,1,2,3,4,5,6,7,8,9,10,11,12,13,14,15,16,17,18,19,20,21,22,23,24,25,26,27,28,29,30,31,32,33,34,35,36,37,38,39,40,41,42,43,44,45,46,47,48,49,50,51,52,53,54,55,56,57,58,59,60,61,62,63,64,65,66,67,68,69,70,75,77,71,72,73,74,78,79,80,81,76,82,83,84]
def fl9 (n:Nat):Array Bool:=(ord9.take n).foldl (fun a i=>a.setIfInBounds i true) (Array.replicate 85 false)
theorem c9_0:anyB .any ops9 (fl9 0) (fl9 1) 0=true:=by kernel_rfl
theorem c9_1:takeB .any ops9 [] (fl9 1) (fl9 2) 1=true:=by kernel_rfl
theorem c9_2:anyB .any ops9 (fl9 2) (fl9 3) 2=true:=by kernel_rfl
theorem c9_3:anyB .any ops9 (fl9 3) (fl9 4) 3=true:=by kernel_rfl
theorem c9_4:anyB .any ops9 (fl9 4) (fl9 5) 4=true:=by kernel_rfl
theorem c9_5:anyB .any ops9 (fl9 5) (fl9 6) 5=true:=by kernel_rfl
theorem c9_6:takeB .any ops9 [] (fl9 6) (fl9 7) 6=true:=by kernel_rfl
theorem c9_7:anyB .any ops9 (fl9 7) (fl9 8) 7=true:=by kernel_rfl
theorem c9_8:anyB .any ops9 (fl9 8) (fl9 9) 8=true:=by kernel_rfl
theorem c9_9:anyB .any ops9 (fl9 9) (fl9 10) 9=true:=by kernel_rfl
theorem c9_10:takeB .any ops9 [] (fl9 10) (fl9 11) 10=true:=by kernel_rfl
theorem c9_11:readyB .any ops9 (fl9 11) (fl9 12) 11=true:=by kernel_rfl
theorem c9_12:readyB .any ops9 (fl9 12) (fl9 13) 12=true:=by kernel_rfl
theorem c9_13:anyB .any ops9 (fl9 13) (fl9 14) 13=true:=by kernel_rfl
theorem c9_14:anyB .any ops9 (fl9 14) (fl9 15) 14=true:=by kernel_rfl
theorem c9_15:anyB .any ops9 (fl9 15) (fl9 16) 15=true:=by kernel_rfl
theorem c9_16:takeB .any ops9 [] (fl9 16) (fl9 17) 16=true:=by kernel_rfl
theorem c9_17:anyB .any ops9 (fl9 17) (fl9 18) 17=true:=by kernel_rfl
theorem c9_18:anyB .any ops9 (fl9 18) (fl9 19) 18=true:=by kernel_rfl
theorem c9_19:anyB .any ops9 (fl9 19) (fl9 20) 19=true:=by kernel_rfl
theorem c9_20:takeB .any ops9 [] (fl9 20) (fl9 21) 20=true:=by kernel_rfl
theorem c9_21:anyB .any ops9 (fl9 21) (fl9 22) 21=true:=by kernel_rfl
theorem c9_22:anyB .any ops9 (fl9 22) (fl9 23) 22=true:=by kernel_rfl
theorem c9_23:anyB .any ops9 (fl9 23) (fl9 24) 23=true:=by kernel_rfl
theorem c9_24:anyB .any ops9 (fl9 24) (fl9 25) 24=true:=by kernel_rfl
theorem c9_25:anyB .any ops9 (fl9 25) (fl9 26) 25=true:=by kernel_rfl
theorem c9_26:takeB .any ops9 [] (fl9 26) (fl9 27) 26=true:=by kernel_rfl
theorem c9_27:anyB .any ops9 (fl9 27) (fl9 28) 27=true:=by kernel_rfl
theorem c9_28:anyB .any ops9 (fl9 28) (fl9 29) 28=true:=by kernel_rfl
theorem c9_29:anyB .any ops9 (fl9 29) (fl9 30) 29=true:=by kernel_rfl
theorem c9_30:takeB .any ops9 [] (fl9 30) (fl9 31) 30=true:=by kernel_rfl
theorem c9_31:anyB .any ops9 (fl9 31) (fl9 32) 31=true:=by kernel_rfl
theorem c9_32:anyB .any ops9 (fl9 32) (fl9 33) 32=true:=by kernel_rfl
theorem c9_33:takeB .any ops9 [] (fl9 33) (fl9 34) 33=true:=by kernel_rfl
theorem c9_34:readyB .any ops9 (fl9 34) (fl9 35) 34=true:=by kernel_rfl
theorem c9_35:readyB .any ops9 (fl9 35) (fl9 36) 35=true:=by kernel_rfl
theorem c9_36:anyB .any ops9 (fl9 36) (fl9 37) 36=true:=by kernel_rfl
theorem c9_37:anyB .any ops9 (fl9 37) (fl9 38) 37=true:=by kernel_rfl
theorem c9_38:anyB .any ops9 (fl9 38) (fl9 39) 38=true:=by kernel_rfl
theorem c9_39:anyB .any ops9 (fl9 39) (fl9 40) 39=true:=by kernel_rfl
theorem c9_40:anyB .any ops9 (fl9 40) (fl9 41) 40=true:=by kernel_rfl
theorem c9_41:anyB .any ops9 (fl9 41) (fl9 42) 41=true:=by kernel_rfl
theorem c9_42:anyB .any ops9 (fl9 42) (fl9 43) 42=true:=by kernel_rfl
theorem c9_43:readyB .any ops9 (fl9 43) (fl9 44) 43=true:=by kernel_rfl
theorem c9_44:readyB .any ops9 (fl9 44) (fl9 45) 44=true:=by kernel_rfl
theorem c9_45:anyB .any ops9 (fl9 45) (fl9 46) 45=true:=by kernel_rfl
theorem c9_46:anyB .any ops9 (fl9 46) (fl9 47) 46=true:=by kernel_rfl
theorem c9_47:anyB .any ops9 (fl9 47) (fl9 48) 47=true:=by kernel_rfl
theorem c9_48:anyB .any ops9 (fl9 48) (fl9 49) 48=true:=by kernel_rfl
theorem c9_49:anyB .any ops9 (fl9 49) (fl9 50) 49=true:=by kernel_rfl
theorem c9_50:anyB .any ops9 (fl9 50) (fl9 51) 50=true:=by kernel_rfl
theorem c9_51:anyB .any ops9 (fl9 51) (fl9 52) 51=true:=by kernel_rfl
theorem c9_52:readyB .any ops9 (fl9 52) (fl9 53) 52=true:=by kernel_rfl
theorem c9_53:readyB .any ops9 (fl9 53) (fl9 54) 53=true:=by kernel_rfl
theorem c9_54:anyB .any ops9 (fl9 54) (fl9 55) 54=true:=by kernel_rfl
theorem c9_55:anyB .any ops9 (fl9 55) (fl9 56) 55=true:=by kernel_rfl
theorem c9_56:anyB .any ops9 (fl9 56) (fl9 57) 56=true:=by kernel_rfl
theorem c9_57:anyB .any ops9 (fl9 57) (fl9 58) 57=true:=by kernel_rfl
theorem c9_58:anyB .any ops9 (fl9 58) (fl9 59) 58=true:=by kernel_rfl
theorem c9_59:anyB .any ops9 (fl9 59) (fl9 60) 59=true:=by kernel_rfl
theorem c9_60:anyB .any ops9 (fl9 60) (fl9 61) 60=true:=by kernel_rfl
theorem c9_61:takeB .any ops9 [] (fl9 61) (fl9 62) 61=true:=by kernel_rfl
theorem c9_62:anyB .any ops9 (fl9 62) (fl9 63) 62=true:=by kernel_rfl
theorem c9_63:anyB .any ops9 (fl9 63) (fl9 64) 63=true:=by kernel_rfl
theorem c9_64:takeB .any ops9 [] (fl9 64) (fl9 65) 64=true:=by kernel_rfl
theorem c9_65:readyB .any ops9 (fl9 65) (fl9 66) 65=true:=by kernel_rfl
theorem c9_66:anyB .any ops9 (fl9 66) (fl9 67) 66=true:=by kernel_rfl
theorem c9_67:anyB .any ops9 (fl9 67) (fl9 68) 67=true:=by kernel_rfl
theorem c9_68:anyB .any ops9 (fl9 68) (fl9 69) 68=true:=by kernel_rfl
theorem c9_69:anyB .any ops9 (fl9 69) (fl9 70) 69=true:=by kernel_rfl
theorem c9_70:anyB .any ops9 (fl9 70) (fl9 71) 70=true:=by kernel_rfl
theorem c9_75:anyB .any ops9 (fl9 71) (fl9 72) 75=true:=by kernel_rfl
theorem c9_77:anyB .any ops9 (fl9 72) (fl9 73) 77=true:=by kernel_rfl
theorem c9_71:takeB .any ops9 [] (fl9 73) (fl9 74) 71=true:=by kernel_rfl
theorem c9_72:anyB .any ops9 (fl9 74) (fl9 75) 72=true:=by kernel_rfl
theorem c9_73:anyB .any ops9 (fl9 75) (fl9 76) 73=true:=by kernel_rfl
theorem c9_74:takeB .any ops9 [] (fl9 76) (fl9 77) 74=true:=by kernel_rfl
theorem c9_78:takeB .any ops9 [] (fl9 77) (fl9 78) 78=true:=by kernel_rfl
theorem c9_79:anyB .any ops9 (fl9 78) (fl9 79) 79=true:=by kernel_rfl
theorem c9_80:anyB .any ops9 (fl9 79) (fl9 80) 80=true:=by kernel_rfl
theorem c9_81:takeB .any ops9 [] (fl9 80) (fl9 81) 81=true:=by kernel_rfl
theorem c9_76:readyB .any ops9 (fl9 81) (fl9 82) 76=true:=by kernel_rfl
theorem c9_82:readyB .any ops9 (fl9 82) (fl9 83) 82=true:=by kernel_rfl
theorem c9_83:anyB .any ops9 (fl9 83) (fl9 84) 83=true:=by kernel_rfl
theorem c9_84:anyB .any ops9 (fl9 84) (fl9 85) 84=true:=by kernel_rfl
open YthfceiincmkccaaGreatW.PrintWords.Kd A K L B
open Go.Proofs.YthfceiincmkccaaGreat.P (withinF go_)
inductive FitS:S45->Prop
 | mk (p:S45) (h1:p.f1.length<=1000000) (h2:p.f2.length<=1000000) (h3:p.f3.length<=1000000) (hs: ∀ q∈p.f3,FitS q):FitS p
theorem ints_refl (l:List Int)(hl:l.length<=1000000): ∃ k,ah_.f k l l=some true:=by
 have go: ∀ d i:Nat,i+d=l.length->Ev (fun k=>ah_.l0 k l l (i:Int)) true:=by
  intro d
  induction d with
  | zero=>exact fun i hi=>Ev.step (f:=fun _=>some true) (fun k=>by rw [ah_.l0,if_neg (by omega)]) (Ev.now _)
  | succ d ih=>exact fun i hi=>Ev.step (f:=fun k=>ah_.l0 k l l ((i:Int)+1)) (fun k=>by rw [ah_.l0,if_pos (by omega),if_pos (by omega),if_pos (by omega),if_pos rfl,P.w64 (n:=(i:Int)+1) (by omega) (by omega)]) (ih (i+1) (by omega))
 obtain ⟨k,hk⟩:=(go l.length 0 (by omega)).rounds
 exact ⟨k,by unfold ah_.f;rw [if_pos rfl];exact hk⟩
theorem ints_same (l:List Int)(A:Option Addr)(c:Nat)(B:Option Addr)(d:Nat)(W:World)(hl:l.length<=1000000)(hA:Kd.C (Kd.int .i64) W A l.length l)(hc:l.length<=c)(hB:Kd.C (Kd.int .i64) W B l.length l)(hd:l.length<=d):
  Calls Tryz.prog 37 #[.slice A l.length c,.slice B l.length d] W fun e w'=>e=.returned (.bool true)∧Below W.heap.size W w':=by
 obtain ⟨k,hk⟩:=ints_refl l hl
 refine (ah_.calls k A c l B d l true W hA hc hB hd hk).mono ?_
 rintro e w' ⟨rfl,hdr⟩
 exact ⟨rfl,hdr.below⟩
theorem ranges_same (l:List S74)(A:Option Addr)(c:Nat)(B:Option Addr)(d:Nat)(W:World)(hl:l.length<=1000000)(hA:Kd.C k74 W A l.length l)(hc:l.length<=c)(hB:Kd.C k74 W B l.length l)(hd:l.length<=d):
  Calls Tryz.prog 47 #[.slice A l.length c,.slice B l.length d] W fun e w'=>e=.returned (.bool true)∧Below W.heap.size W w':=by
 obtain ⟨k,hk⟩:=(P.rng_ev (x:=l) (y:=l) (by omega) true ⟨fun _=>rfl,fun _=>rfl⟩).1.rounds
 refine (bj_.calls k A c l B d l true W hA hc hB hd hk).mono ?_
 rintro e w' ⟨rfl,hdr⟩
 exact ⟨rfl,hdr.below⟩
def SaO (W:World)(pa pb:Array Value)(n:Nat)(u:Value)(Wx:World):Prop:= ∃ j:Nat,j<=n∧u=.int .i64 j∧Below W.heap.size W Wx∧Wx.heap[W.heap.size]? =some (.cells pa 45 (0,0))∧Wx.heap[W.heap.size+1]? =some (.cells pb 45 (0,0))
theorem same_step (p:S45)(b1:p.f1.length<=1000000)(b2:p.f2.length<=1000000)(ih: ∀ q∈p.f3,∀ (W:World) (A1:Option Addr) (c1:Nat) (A2:Option Addr) (c2:Nat) (A3:Option Addr) (c3:Nat) (B1:Option Addr) (d1:Nat) (B2:Option Addr) (d2:Nat) (B3:Option Addr) (d3:Nat) (l1:q.f1.length<=c1) (h1:Kd.C k74 W A1 q.f1.length q.f1) (l2:q.f2.length<=c2) (h2:Kd.C (Kd.int .i64) W A2 q.f2.length q.f2) (l3:q.f3.length<=c3) (h3:Kd.C k45 W A3 q.f3.length q.f3) (m1:q.f1.length<=d1) (k1:Kd.C k74 W B1 q.f1.length q.f1) (m2:q.f2.length<=d2) (k2:Kd.C (Kd.int .i64) W B2 q.f2.length q.f2) (m3:q.f3.length<=d3) (k3:Kd.C k45 W B3 q.f3.length q.f3),Calls Tryz.prog 20 #[.agg #[.int .i64 q.f0,.slice A1 q.f1.length c1,.slice A2 q.f2.length c2,.slice A3 q.f3.length c3],.agg #[.int .i64 q.f0,.slice B1 q.f1.length d1,.slice B2 q.f2.length d2,.slice B3 q.f3.length d3]] W fun e w'=>e=.returned (.bool true)∧Below W.heap.size W w'): ∀ (W:World) (A1:Option Addr) (c1:Nat) (A2:Option Addr) (c2:Nat) (A3:Option Addr) (c3:Nat) (B1:Option Addr) (d1:Nat) (B2:Option Addr) (d2:Nat) (B3:Option Addr) (d3:Nat) (l1:p.f1.length<=c1) (h1:Kd.C k74 W A1 p.f1.length p.f1) (l2:p.f2.length<=c2) (h2:Kd.C (Kd.int .i64) W A2 p.f2.length p.f2) (l3:p.f3.length<=c3) (h3:Kd.C k45 W A3 p.f3.length p.f3) (m1:p.f1.length<=d1) (k1:Kd.C k74 W B1 p.f1.length p.f1) (m2:p.f2.length<=d2) (k2:Kd.C (Kd.int .i64) W B2 p.f2.length p.f2) (m3:p.f3.length<=d3) (k3:Kd.C k45 W B3 p.f3.length p.f3),Calls Tryz.prog 20 #[.agg #[.int .i64 p.f0,.slice A1 p.f1.length c1,.slice A2 p.f2.length c2,.slice A3 p.f3.length c3],.agg #[.int .i64 p.f0,.slice B1 p.f1.length d1,.slice B2 p.f2.length d2,.slice B3 p.f3.length d3]] W fun e w'=>e=.returned (.bool true)∧Below W.heap.size W w':=by
 intro W A1 c1 A2 c2 A3 c3 B1 d1 B2 d2 B3 d3 l1 h1 l2 h2 l3 h3 m1 k1 m2 k2 m3 k3
 obtain ⟨W2,hW2⟩: ∃ W_,W_=(W.alloc (.cells #[.int .i64 p.f0,.slice A1 p.f1.length c1,.slice A2 p.f2.length c2,.slice A3 p.f3.length c3] 45)).alloc (.cells #[.int .i64 p.f0,.slice B1 p.f1.length d1,.slice B2 p.f2.length d2,.slice B3 p.f3.length d3] 45):=⟨_,rfl⟩
 have ea:(W.alloc (.cells #[.int .i64 p.f0,.slice A1 p.f1.length c1,.slice A2 p.f2.length c2,.slice A3 p.f3.length c3] 45)).heap.size=W.heap.size+1:=Array.size_push _
 have hb2:Below W.heap.size W W2:=by rw [hW2];exact ab_ (ab_ (Below.refl _ _) _) _
 have hx2:W2.heap[W.heap.size]? =some (.cells #[.int .i64 p.f0,.slice A1 p.f1.length c1,.slice A2 p.f2.length c2,.slice A3 p.f3.length c3] 45 (0,0)):=by rw [hW2];exact an_ (aj_ W _) _
 have hy2:W2.heap[W.heap.size+1]? =some (.cells #[.int .i64 p.f0,.slice B1 p.f1.length d1,.slice B2 p.f2.length d2,.slice B3 p.f3.length d3] 45 (0,0)):=by rw [hW2];exact ea ▸ aj_ (W.alloc (.cells #[.int .i64 p.f0,.slice A1 p.f1.length c1,.slice A2 p.f2.length c2,.slice A3 p.f3.length c3] 45)) _
 have HR:=Sd.m (ranges_same p.f1 A1 c1 B1 d1 W2 b1 (Kd.C_below h1 hb2) l1 (Kd.C_below k1 hb2) m1)
 have HI:Sd (∀ V,Below W.heap.size W V->_):=⟨fun V hV=>ints_same p.f2 A2 c2 B2 d2 V b2 (Kd.C_below h2 hV) l2 (Kd.C_below k2 hV) m2⟩
 have HA:=Sd.m h3
 have HB:=Sd.m k3
 have HIH:=Sd.m ih
 have HX2:=Sd.m hx2
 have HY2:=Sd.m hy2
 have HB2:=Sd.m hb2
 have HW2:=Sd.m hW2
 have HM:p.f3.length<=9223372036854775807:=Kd.C_max h3
 clear ea hb2 hx2 hy2 hW2 h1 h2 h3 k1 k2 k3 ih
 go_enter Tryz.func20,Tryz.ntmps20
 go_wp2_with fail
 rw [←HW2.out]
 refine HR.out.mono ?_
 rintro e V ⟨rfl,hb⟩
 have hx:=ag_ HX2.out hb
 have hy:=ag_ HY2.out hb
 have hbV:=HB2.out.trans (hb.mono HB2.out.size)
 have x2:V.cell? ⟨W.heap.size,2,none⟩=some (.slice A2 p.f2.length c2):=(ae_ hx 2).trans rfl
 have y2:V.cell? ⟨W.heap.size+1,2,none⟩=some (.slice B2 p.f2.length d2):=(ae_ hy 2).trans rfl
 have HXV:=Sd.m hx
 have HYV:=Sd.m hy
 have HBV:=Sd.m hbV
 have HIV:=Sd.m (HI.out V hbV)
 clear hx hy hbV hb
 go_wp2_with fail
 refine HIV.out.mono ?_
 rintro e V1 ⟨rfl,hb⟩
 clear x2 y2
 have hx:=ag_ HXV.out hb
 have hy:=ag_ HYV.out hb
 have x3:V1.cell? ⟨W.heap.size,3,none⟩=some (.slice A3 p.f3.length c3):=(ae_ hx 3).trans rfl
 have y3:V1.cell? ⟨W.heap.size+1,3,none⟩=some (.slice B3 p.f3.length d3):=(ae_ hy 3).trans rfl
 have H0:Sd (SaO W #[.int .i64 p.f0,.slice A1 p.f1.length c1,.slice A2 p.f2.length c2,.slice A3 p.f3.length c3] #[.int .i64 p.f0,.slice B1 p.f1.length d1,.slice B2 p.f2.length d2,.slice B3 p.f3.length d3] p.f3.length (.int .i64 0) V1):=⟨⟨0,Nat.zero_le _,rfl,HBV.out.trans (hb.mono HBV.out.size),hx,hy⟩⟩
 clear hx hy hb
 go_wp2_with fail
 clear x3 y3
 go_loopw [5] (fun u Wx=>SaO W #[.int .i64 p.f0,.slice A1 p.f1.length c1,.slice A2 p.f2.length c2,.slice A3 p.f3.length c3] #[.int .i64 p.f0,.slice B1 p.f1.length d1,.slice B2 p.f2.length d2,.slice B3 p.f3.length d3] p.f3.length u Wx) (fun u _=>p.f3.length - (intOf u).toNat)
 case atStart=>exact H0.out
 case round=>
  obtain ⟨j,hj,rfl,hb,hx,hy⟩:=hrel
  have x3:wr.cell? ⟨W.heap.size,3,none⟩=some (.slice A3 p.f3.length c3):=(ae_ hx 3).trans rfl
  have y3:wr.cell? ⟨W.heap.size+1,3,none⟩=some (.slice B3 p.f3.length d3):=(ae_ hy 3).trans rfl
  by_cases hlt:j<p.f3.length
  ·have b1:decide ((j:Int)<(p.f3.length:Int))=true:=dt__ (by omega)
   have b2:decide (j<p.f3.length)=true:=dt__ hlt
   have hq0:0<=(j:Int):=by omega
   have hq1:(j:Int)<(p.f3.length:Int):=by omega
   have w2:IntKind.i64.wrap ((j:Int)+1)=(j:Int)+1:=IntWalk.i64_in _ (by omega)
   obtain ⟨Vd,hVd⟩: ∃ W_,W_=wr.drew:=⟨_,rfl⟩
   have hbd:Below wr.heap.size wr Vd:=by rw [hVd];exact cg_ (Below.refl _ _)
   have hbD:=hb.trans (hbd.mono hb.size)
   obtain ⟨aa,E1,e1,E2,e2,E3,e3,rfl,i0,i1,i2,i3,n1,o1,n2,o2,n3,o3⟩:=jq_ (Kd.C_below HA.out hbD) (j:Int) (by omega) (by omega)
   obtain ⟨ab,G1,g1,G2,g2,G3,g3,rfl,u0,u1,u2,u3,r1,s1,r2,s2,r3,s3⟩:=jq_ (Kd.C_below HB.out hbD) (j:Int) (by omega) (by omega)
   rw [Int.toNat_natCast] at i0 i1 i2 i3 u0 u1 u2 u3
   have hmem:cy_ p.f3 (j:Int)∈p.f3:=by
    unfold cy_
    rw [Int.toNat_natCast,List.getD_eq_getElem?_getD,List.getElem?_eq_getElem hlt]
    exact List.getElem_mem hlt
   generalize cy_ p.f3 (j:Int)=q at i0 i1 i2 i3 u0 u1 u2 u3 n1 o1 n2 o2 n3 o3 r1 s1 r2 s2 r3 s3 hmem
   have HC:=Sd.m (HIH.out q hmem Vd E1 e1 E2 e2 E3 e3 G1 g1 G2 g2 G3 g3 n1 o1 n2 o2 n3 o3 r1 s1 r2 s2 r3 s3)
   have HS:Sd (∀ w',Below Vd.heap.size Vd w'->w'.cell? ⟨W.heap.size,3,none⟩=some (.slice (some aa) p.f3.length c3)∧w'.cell? ⟨W.heap.size+1,3,none⟩=some (.slice (some ab) p.f3.length d3)∧w'.cell? (aa.add (j*4))=some (.int .i64 q.f0)∧w'.cell? ⟨(aa.add (j*4)).block,(aa.add (j*4)).off+1,none⟩=some (.slice E1 q.f1.length e1)∧w'.cell? ⟨(aa.add (j*4)).block,(aa.add (j*4)).off+2,none⟩=some (.slice E2 q.f2.length e2)∧w'.cell? ⟨(aa.add (j*4)).block,(aa.add (j*4)).off+3,none⟩=some (.slice E3 q.f3.length e3)∧w'.cell? (ab.add (j*4))=some (.int .i64 q.f0)∧w'.cell? ⟨(ab.add (j*4)).block,(ab.add (j*4)).off+1,none⟩=some (.slice G1 q.f1.length g1)∧w'.cell? ⟨(ab.add (j*4)).block,(ab.add (j*4)).off+2,none⟩=some (.slice G2 q.f2.length g2)∧w'.cell? ⟨(ab.add (j*4)).block,(ab.add (j*4)).off+3,none⟩=some (.slice G3 q.f3.length g3)):=by
    refine ⟨fun w' hw=>?_⟩
    have cw:=fun (a:Addr) (v:Value) (h:Vd.cell? a=some v)=>(hw.cell (bl__ Vd _ h)).trans h
    have hq:=hbd.trans (hw.mono hbd.size)
    exact ⟨(ae_ (ag_ hx hq) 3).trans rfl,(ae_ (ag_ hy hq) 3).trans rfl,cw _ _ i0,cw _ _ i1,cw _ _ i2,cw _ _ i3,cw _ _ u0,cw _ _ u1,cw _ _ u2,cw _ _ u3⟩
   have HXD:=Sd.m (ag_ hx hbd)
   have HYD:=Sd.m (ag_ hy hbd)
   have HBD:=Sd.m hbD
   clear hb hx hy hbd hbD i0 i1 i2 i3 u0 u1 u2 u3 n1 o1 n2 o2 n3 o3 r1 s1 r2 s2 r3 s3 hmem
   go_upto_region 6 with fail
   refine start_ (n:=12) (S:=fun w'=>w'.cell? ⟨W.heap.size,3,none⟩=some (.slice (some aa) p.f3.length c3)∧w'.cell? ⟨W.heap.size+1,3,none⟩=some (.slice (some ab) p.f3.length d3)∧w'.cell? (aa.add (j*4))=some (.int .i64 q.f0)∧w'.cell? ⟨(aa.add (j*4)).block,(aa.add (j*4)).off+1,none⟩=some (.slice E1 q.f1.length e1)∧w'.cell? ⟨(aa.add (j*4)).block,(aa.add (j*4)).off+2,none⟩=some (.slice E2 q.f2.length e2)∧w'.cell? ⟨(aa.add (j*4)).block,(aa.add (j*4)).off+3,none⟩=some (.slice E3 q.f3.length e3)∧w'.cell? (ab.add (j*4))=some (.int .i64 q.f0)∧w'.cell? ⟨(ab.add (j*4)).block,(ab.add (j*4)).off+1,none⟩=some (.slice G1 q.f1.length g1)∧w'.cell? ⟨(ab.add (j*4)).block,(ab.add (j*4)).off+2,none⟩=some (.slice G2 q.f2.length g2)∧w'.cell? ⟨(ab.add (j*4)).block,(ab.add (j*4)).off+3,none⟩=some (.slice G3 q.f3.length g3)) (ds:=[]) #[false,false,false,false,false,false,false,false,false,false,false,false] (by kernel_rfl) rfl rfl ⟨(by rw [←hVd];exact (HS.out _ (Below.refl _ _)).1),(by rw [←hVd];exact (HS.out _ (Below.refl _ _)).2.1),(by rw [←hVd];exact (HS.out _ (Below.refl _ _)).2.2.1),(by rw [←hVd];exact (HS.out _ (Below.refl _ _)).2.2.2.1),(by rw [←hVd];exact (HS.out _ (Below.refl _ _)).2.2.2.2.1),(by rw [←hVd];exact (HS.out _ (Below.refl _ _)).2.2.2.2.2.1),(by rw [←hVd];exact (HS.out _ (Below.refl _ _)).2.2.2.2.2.2.1),(by rw [←hVd];exact (HS.out _ (Below.refl _ _)).2.2.2.2.2.2.2.1),(by rw [←hVd];exact (HS.out _ (Below.refl _ _)).2.2.2.2.2.2.2.2.1),(by rw [←hVd];exact (HS.out _ (Below.refl _ _)).2.2.2.2.2.2.2.2.2)⟩ (fun hHeld=>?_)
   rw [←hVd] at hHeld ⊢
   clear hVd
   refine pure_ (i:=0) (N:=some 43) (v:=?_) (a':=?_) #[true,false,false,false,false,false,false,false,false,false,false,false] rfl rfl (by kernel_rfl) (fun _ _ _ h=>h) (Or.inl ⟨by rfl,?_⟩) ?_ ?_
   rotate_left
   ·intro w'
    go_simp
    with_reducible rfl
   rotate_left
   ·simp only [Act.put,List.setIfInBounds_toArray,List.set_cons_zero,List.set_cons_succ,ds_,dt_]
    rfl
   refine pure_ (i:=2) (N:=some 45) (v:=?_) (a':=?_) #[true,false,true,false,false,false,false,false,false,false,false,false] rfl rfl (by kernel_rfl) (fun _ _ _ h=>h) (Or.inl ⟨by rfl,?_⟩) ?_ ?_
   rotate_left
   ·intro w'
    go_simp
    with_reducible rfl
   rotate_left
   ·simp only [Act.put,List.setIfInBounds_toArray,List.set_cons_zero,List.set_cons_succ,ds_,dt_]
    rfl
   refine pure_ (i:=5) (N:=some 48) (v:=?_) (a':=?_) #[true,false,true,false,false,true,false,false,false,false,false,false] rfl rfl (by kernel_rfl) (fun _ _ _ h=>h) (Or.inl ⟨by rfl,?_⟩) ?_ ?_
   rotate_left
   ·intro w'
    go_simp
    with_reducible rfl
   rotate_left
   ·simp only [Act.put,List.setIfInBounds_toArray,List.set_cons_zero,List.set_cons_succ,ds_,dt_]
    rfl
   refine pure_ (i:=7) (N:=some 50) (v:=?_) (a':=?_) #[true,false,true,false,false,true,false,true,false,false,false,false] rfl rfl (by kernel_rfl) (fun _ _ _ h=>h) (Or.inl ⟨by rfl,?_⟩) ?_ ?_
   rotate_left
   ·intro w'
    go_simp
    with_reducible rfl
   rotate_left
   ·simp only [Act.put,List.setIfInBounds_toArray,List.set_cons_zero,List.set_cons_succ,ds_,dt_]
    rfl
   refine take_ (i:=1) (N:=some 44) (v:=?_) (a':=?_) #[true,true,true,false,false,true,false,true,false,false,false,false] rfl rfl (by kernel_rfl) (fun _ _ _ h=>h) (Or.inl ⟨by rfl,?_⟩) hHeld ?_ ?_
   rotate_left
   ·rintro w' ⟨s0,s1,s2,s3,s4,s5,s6,s7,s8,s9⟩
    go_simp
    with_reducible rfl
   rotate_left
   ·simp only [Act.put,List.setIfInBounds_toArray,List.set_cons_zero,List.set_cons_succ,ds_,dt_]
    rfl
   refine pure_ (i:=3) (N:=some 46) (v:=?_) (a':=?_) #[true,true,true,true,false,true,false,true,false,false,false,false] rfl rfl (by kernel_rfl) (fun _ _ _ h=>h) (Or.inl ⟨by rfl,?_⟩) ?_ ?_
   rotate_left
   ·intro w'
    go_simp
    with_reducible rfl
   rotate_left
   ·simp only [Act.put,List.setIfInBounds_toArray,List.set_cons_zero,List.set_cons_succ,ds_,dt_]
    rfl
   refine take_ (i:=4) (N:=some 47) (v:=?_) (a':=?_) #[true,true,true,true,true,true,false,true,false,false,false,false] rfl rfl (by kernel_rfl) (fun _ _ _ h=>h) (Or.inl ⟨by rfl,?_⟩) hHeld ?_ ?_
   rotate_left
   ·rintro w' ⟨s0,s1,s2,s3,s4,s5,s6,s7,s8,s9⟩
    go_simp
    with_reducible rfl
   rotate_left
   ·simp only [Act.put,List.setIfInBounds_toArray,List.set_cons_zero,List.set_cons_succ,ds_,dt_]
    rfl
   refine take_ (i:=6) (N:=some 49) (v:=?_) (a':=?_) #[true,true,true,true,true,true,true,true,false,false,false,false] rfl rfl (by kernel_rfl) (fun _ _ _ h=>h) (Or.inl ⟨by rfl,?_⟩) hHeld ?_ ?_
   rotate_left
   ·rintro w' ⟨s0,s1,s2,s3,s4,s5,s6,s7,s8,s9⟩
    go_simp
    with_reducible rfl
   rotate_left
   ·simp only [Act.put,List.setIfInBounds_toArray,List.set_cons_zero,List.set_cons_succ,ds_,dt_]
    rfl
   refine pure_ (i:=8) (N:=some 51) (v:=?_) (a':=?_) #[true,true,true,true,true,true,true,true,true,false,false,false] rfl rfl (by kernel_rfl) (fun _ _ _ h=>h) (Or.inl ⟨by rfl,?_⟩) ?_ ?_
   rotate_left
   ·intro w'
    go_simp
    with_reducible rfl
   rotate_left
   ·simp only [Act.put,List.setIfInBounds_toArray,List.set_cons_zero,List.set_cons_succ,ds_,dt_]
    rfl
   refine take_ (i:=9) (N:=some 52) (v:=?_) (a':=?_) #[true,true,true,true,true,true,true,true,true,true,false,false] rfl rfl (by kernel_rfl) (fun _ _ _ h=>h) (Or.inl ⟨by rfl,?_⟩) hHeld ?_ ?_
   rotate_left
   ·rintro w' ⟨s0,s1,s2,s3,s4,s5,s6,s7,s8,s9⟩
    go_simp
    with_reducible rfl
   rotate_left
   ·simp only [Act.put,List.setIfInBounds_toArray,List.set_cons_zero,List.set_cons_succ,ds_,dt_]
    rfl
   refine one_ (i:=10) (N:=some 53) #[true,true,true,true,true,true,true,true,true,true,true,false] rfl rfl (by kernel_rfl) (by decide) (fun K hK=>?_)
   refine goes_ Tryz.func20 (by kernel_rfl) rfl #[.agg #[.int .i64 q.f0,.slice E1 q.f1.length e1,.slice E2 q.f2.length e2,.slice E3 q.f3.length e3],.agg #[.int .i64 q.f0,.slice G1 q.f1.length g1,.slice G2 q.f2.length g2,.slice G3 q.f3.length g3]] (by rfl) rfl rfl (by simp only [List.map_toArray,List.map_cons,List.map_nil];rfl) ?_
   with_reducible refine (HC.out).mono ?_
   rintro e_ V1 ⟨rfl,hb_⟩
   refine ⟨_,rfl,?_⟩
   have B1_:=Sd.m hb_
   clear hb_
   refine hK.out _ _ ⟨(HS.out _ B1_.out).1,(HS.out _ B1_.out).2.1,(HS.out _ B1_.out).2.2.1,(HS.out _ B1_.out).2.2.2.1,(HS.out _ B1_.out).2.2.2.2.1,(HS.out _ B1_.out).2.2.2.2.2.1,(HS.out _ B1_.out).2.2.2.2.2.2.1,(HS.out _ B1_.out).2.2.2.2.2.2.2.1,(HS.out _ B1_.out).2.2.2.2.2.2.2.2.1,(HS.out _ B1_.out).2.2.2.2.2.2.2.2.2⟩ (fun hHeld=>?_)
   clear hK K
   refine norm_ (a':=?_) ?_ ?_
   rotate_left
   ·show Act.put _ (some 53) _=_
    simp only [Act.put,List.setIfInBounds_toArray,List.set_cons_zero,List.set_cons_succ,ds_,dt_]
    rfl
   refine pure_ (i:=11) (N:=some 54) (v:=?_) (a':=?_) #[true,true,true,true,true,true,true,true,true,true,true,true] rfl rfl (by kernel_rfl) (fun _ _ _ h=>h) (Or.inl ⟨by rfl,?_⟩) ?_ ?_
   rotate_left
   ·intro w'
    go_simp
    with_reducible rfl
   rotate_left
   ·simp only [Act.put,List.setIfInBounds_toArray,List.set_cons_zero,List.set_cons_succ,ds_,dt_]
    rfl
   refine done_ (by kernel_rfl) ?_
   go_wp2_with fail
   go_roundw
   case rel=>exact ⟨j+1,hlt,by go_num,HBD.out.trans (B1_.out.mono HBD.out.size),ag_ HXD.out B1_.out,ag_ HYD.out B1_.out⟩
   case measure=>simp [intOf];omega
  ·have b1:decide ((j:Int)<(p.f3.length:Int))=false:=df__ (by omega)
   have b2:decide (j<p.f3.length)=false:=df__ hlt
   have HB:=Sd.m hb
   clear hb hx hy
   go_wp2_with fail
   go_ret
   exact ⟨rfl,HB.out⟩
theorem FitS.parts {p:S45}(h:FitS p):p.f1.length<=1000000∧p.f2.length<=1000000∧p.f3.length<=1000000∧ ∀ q∈p.f3,FitS q:=by
 cases h
 exact ⟨by assumption,by assumption,by assumption,by assumption⟩
theorem same_refl (p:S45)(hp:FitS p): ∀ (W:World) (A1:Option Addr) (c1:Nat) (A2:Option Addr) (c2:Nat) (A3:Option Addr) (c3:Nat) (B1:Option Addr) (d1:Nat) (B2:Option Addr) (d2:Nat) (B3:Option Addr) (d3:Nat) (l1:p.f1.length<=c1) (h1:Kd.C k74 W A1 p.f1.length p.f1) (l2:p.f2.length<=c2) (h2:Kd.C (Kd.int .i64) W A2 p.f2.length p.f2) (l3:p.f3.length<=c3) (h3:Kd.C k45 W A3 p.f3.length p.f3) (m1:p.f1.length<=d1) (k1:Kd.C k74 W B1 p.f1.length p.f1) (m2:p.f2.length<=d2) (k2:Kd.C (Kd.int .i64) W B2 p.f2.length p.f2) (m3:p.f3.length<=d3) (k3:Kd.C k45 W B3 p.f3.length p.f3),Calls Tryz.prog 20 #[.agg #[.int .i64 p.f0,.slice A1 p.f1.length c1,.slice A2 p.f2.length c2,.slice A3 p.f3.length c3],.agg #[.int .i64 p.f0,.slice B1 p.f1.length d1,.slice B2 p.f2.length d2,.slice B3 p.f3.length d3]] W fun e w'=>e=.returned (.bool true)∧Below W.heap.size W w':=by
 have h1:=hp.parts.1
 have h2:=hp.parts.2.1
 have hs:=hp.parts.2.2.2
 exact same_step p h1 h2 fun q hq=>same_refl q (hs q hq)
termination_by SizeOf.sizeOf p
decreasing_by
 have h5:=List.sizeOf_lt_of_mem hq
 have h6:SizeOf.sizeOf p.f3<SizeOf.sizeOf p:=by
  cases p
  simp
  omega
 omega
open Go.Proofs.YthfceiincmkccaaGreat.P (xB qL rT of_x told_l word_l chars_l chars_n sets_B tell_l nodes_x booksN_x wide_x wide_A wide_B il_ ke_ nodes_E)
theorem C_boxf {α:Type}{d:Kd α}{W:World}{g t:Nat}{fr:Nat × Nat}{inner:List Value}{xs:List α}(hb:W.heap[g]? =some (.cells inner.toArray t fr))(hr:Reps (d.K W) d.sz xs inner)(hm:xs.length<=9223372036854775807):d.C W (some ⟨g,0,none⟩) xs.length xs:=by
 refine ⟨rfl,hm,fun _=>⟨_,rfl,fun j p hp=>⟨(inner.drop (j*d.sz)).take d.sz,d.K_len (hr.2 j p hp),hr.2 j p hp,fun i u hu=>?_⟩⟩⟩
 rw [add_plain,cell_of_row W g _ _ t fr hb]
 rw [List.getElem?_take] at hu
 split at hu
 ·rw [List.getElem?_drop] at hu
  simpa using hu
 ·cases hu
theorem C_u8f {W:World}{g t:Nat}{fr:Nat × Nat}{xs:List Int}(hb:W.heap[g]? =some (.cells (xs.map (Value.int .u8)).toArray t fr))(hm:xs.length<=9223372036854775807):Kd.C (Kd.int .u8) W (some ⟨g,0,none⟩) xs.length xs:=
 C_boxf hb (Kd.gh_ xs) hm
theorem gz_ (l:List Int)(A:Option Addr)(c:Nat)(B:Option Addr)(d:Nat)(W:World)(hl:l.length<=1000)(hA:Kd.C (Kd.int .i64) W A l.length l)(hc:l.length<=c)(hB:Kd.C (Kd.int .i64) W B l.length l)(hd:l.length<=d):
  Calls Tryz.prog 37 #[.slice A l.length c,.slice B l.length d] W fun e w'=>e=.returned (.bool true)∧Below W.heap.size W w':=by
 obtain ⟨k,hk⟩:=(P.ints_ev (x:=l) (y:=l) (by omega) true ⟨fun _=>rfl,fun _=>rfl⟩).rounds
 refine (ah_.calls k A c l B d l true W hA hc hB hd hk).mono ?_
 rintro e w' ⟨rfl,hdr⟩
 exact ⟨rfl,hdr.below⟩
theorem alive10 (w:World):Calls Tryz.prog 9 #[] w fun e w'=>e=.returned (.bool true)∧Below w.heap.size w w':=by
 have hcv:=Lib.run_convert_bytes_const (P:=Tryz.prog) w 65 5 #[.int .u8 36,.int .u8 97,.int .u8 61,.int .u8 91,.int .u8 97,.int .u8 45,.int .u8 99,.int .u8 93,.int .u8 10,.int .u8 51,.int .u8 32,.int .u8 36,.int .u8 97,.int .u8 32,.int .u8 195,.int .u8 151,.int .u8 32,.int .u8 91,.int .u8 98,.int .u8 93,.int .u8 42,.int .u8 10,.int .u8 52,.int .u8 32,.int .u8 36,.int .u8 97,.int .u8 32,.int .u8 195,.int .u8 183] 29 29 Tryz.underlying65 Tryz.underlying5
 obtain ⟨W1,hW1⟩: ∃ W_,W_=w.alloc (.cells #[.int .u8 36,.int .u8 97,.int .u8 61,.int .u8 91,.int .u8 97,.int .u8 45,.int .u8 99,.int .u8 93,.int .u8 10,.int .u8 51,.int .u8 32,.int .u8 36,.int .u8 97,.int .u8 32,.int .u8 195,.int .u8 151,.int .u8 32,.int .u8 91,.int .u8 98,.int .u8 93,.int .u8 42,.int .u8 10,.int .u8 52,.int .u8 32,.int .u8 36,.int .u8 97,.int .u8 32,.int .u8 195,.int .u8 183] 5 (29,30)):=⟨_,rfl⟩
 have hb1:Below w.heap.size w W1:=by rw [hW1];exact ab_ (Below.refl _ _) _
 have hx1:W1.heap[w.heap.size]? =some (.cells (lit.map (Value.int .u8)).toArray 5 (29,30)):=by rw [hW1];exact aj_ _ _
 have HRD:=Sd.m (lit_read W1 (some ⟨w.heap.size,0,none⟩) 29 (C_u8f (xs:=lit) hx1 (by decide)) (Nat.le_refl _))
 have HB1:=Sd.m hb1
 have HW1:=Sd.m hW1
 clear hb1 hx1 hW1
 go_enter Tryz.func9,Tryz.ntmps9
 go_wp2_with fail
 rw [←HW1.out]
 refine HRD.out.mono ?_
 rintro e V ⟨AV,cv,AR,cr,AU,cu,rfl,h1,h2,h3,hF1,hF2,hF3,hb⟩
 obtain ⟨V2,hV2⟩: ∃ W_,W_=(V.alloc (.cells #[.slice AV 1 cv,.slice AR 2 cr,.slice none 0 0,.slice AU 1 cu] 27)).alloc (.cells #[.slice AV 1 cv,.slice AR 2 cr,.slice none 0 0,.slice AU 1 cu] 27):=⟨_,rfl⟩
 have ea:(V.alloc (.cells #[.slice AV 1 cv,.slice AR 2 cr,.slice none 0 0,.slice AU 1 cu] 27)).heap.size=V.heap.size+1:=Array.size_push _
 have hb2:Below V.heap.size V V2:=by rw [hV2];exact ab_ (ab_ (Below.refl _ _) _) _
 have hx2:V2.heap[V.heap.size]? =some (.cells #[.slice AV 1 cv,.slice AR 2 cr,.slice none 0 0,.slice AU 1 cu] 27 (0,0)):=by rw [hV2];exact an_ (aj_ V _) _
 have hr2:V2.heap[V.heap.size+1]? =some (.cells #[.slice AV 1 cv,.slice AR 2 cr,.slice none 0 0,.slice AU 1 cu] 27 (0,0)):=by rw [hV2];exact ea ▸ aj_ (V.alloc (.cells #[.slice AV 1 cv,.slice AR 2 cr,.slice none 0 0,.slice AU 1 cu] 27)) _
 have hF:Kd.F k27 V2 (fun j=>W1.heap.size<=j) (some ⟨V.heap.size+1,0,none⟩) 1 [xB]:=F_one (cs:=[.slice AV 1 cv,.slice AR 2 cr,.slice none 0 0,.slice AU 1 cu]) hr2 (by have:=hb.size;omega) (k27_mkF V2 _ xB h1 (F_below hF1 hb2) h2 (F_below hF2 hb2) (Nat.le_refl _) (F_nil _ _ _) h3 (F_below hF3 hb2))
 have HOF:=Sd.m (sof_calls [xB] V2 (some ⟨V.heap.size+1,0,none⟩) 1 (Nat.le_refl _) (F_now hF) booksN_x wide_x qL 0 of_x)
 have HB2:=Sd.m (HB1.out.trans ((hb.trans (hb2.mono hb.size)).mono HB1.out.size))
 have HX2:=Sd.m hx2
 have HR2:=Sd.m (F_below hF2 hb2)
 have HV2:=Sd.m hV2
 clear ea hb hb2 hx2 hr2 hF hF1 hF2 hF3 hV2 hcv
 go_wp2_with fail
 rw [←HV2.out]
 refine HOF.out.mono ?_
 rintro e V3 ⟨v,rfl,hN,hb⟩
 obtain ⟨A4,c4,rfl⟩:=N_slice hN
 have HQ3:=Sd.m (N_reads' hN).2
 have x0:=bc_ (ag_ HX2.out hb) 0 rfl
 have x1:=bc_ (ag_ HX2.out hb) 1 rfl
 have x2:=bc_ (ag_ HX2.out hb) 2 rfl
 have x3:=bc_ (ag_ HX2.out hb) 3 rfl
 have HBK:Sd (Calls Tryz.prog 28 #[.agg #[.slice AV 1 cv,.slice AR 2 cr,.slice none 0 0,.slice AU 1 cu],.slice A4 3 c4] V3 fun e w'=> ∃ R cR,e=.returned (.agg #[.slice AV 1 cv,.slice R 2 cR,.slice none 0 0,.slice AU 1 cu])∧2<=cR∧Kd.C k55 w' R 2 [rT,tellR qL rC]∧Below V3.heap.size V3 w'):=⟨by
  have h:=book_calls qL (by decide) V3 A4 c4 HQ3.out.1 HQ3.out.2 xB AV cv AR cr none 0 AU cu h2 (F_now (F_below HR2.out hb)) (by decide) nodes_x
  have e:([rB,rC]:List S55).map (tellR qL)=[rT,tellR qL rC]:=told_l
  refine h.mono ?_
  rintro e_ w' ⟨R,cR,he,hc,hC,hb_⟩
  exact ⟨R,cR,he,hc,by rw [←e];exact hC,hb_⟩⟩
 have B3:=Sd.m hb
 have HX3:=Sd.m (ag_ HX2.out hb)
 have hq3:qL.length=3:=rfl
 rw [hq3]
 clear hN hb hq3
 go_wp2_with fail
 refine HBK.out.mono ?_
 rintro e V4 ⟨R,cR,rfl,hcR,hCY,hb⟩
 clear x0 x1 x2 x3
 obtain ⟨V6,hV6⟩: ∃ W_,W_=(V4.alloc (.cells #[.slice AV 1 cv,.slice R 2 cR,.slice none 0 0,.slice AU 1 cu] 27)).alloc (.cells #[.int .i64 120,.int .i64 97,.int .i64 98] 3):=⟨_,rfl⟩
 have ea:(V4.alloc (.cells #[.slice AV 1 cv,.slice R 2 cR,.slice none 0 0,.slice AU 1 cu] 27)).heap.size=V4.heap.size+1:=Array.size_push _
 have hb6:Below V4.heap.size V4 V6:=by rw [hV6];exact ab_ (ab_ (Below.refl _ _) _) _
 have hy6:V6.heap[V4.heap.size]? =some (.cells #[.slice AV 1 cv,.slice R 2 cR,.slice none 0 0,.slice AU 1 cu] 27 (0,0)):=by rw [hV6];exact an_ (aj_ V4 _) _
 have hi6:V6.heap[V4.heap.size+1]? =some (.cells (([120,97,98]:List Int).map (Value.int .i64)).toArray 3 (0,0)):=by rw [hV6];exact ea ▸ aj_ (V4.alloc (.cells #[.slice AV 1 cv,.slice R 2 cR,.slice none 0 0,.slice AU 1 cu] 27)) _
 have b36:=hb.trans (hb6.mono hb.size)
 have hq6:=Kd.C_below HQ3.out.2 b36
 have HWD:Sd (Calls Tryz.prog 33 #[.slice A4 3 c4,.slice (some ⟨V4.heap.size+1,0,none⟩) 3 3] V6 fun e w'=> ∃ A c,e=.returned (.tuple #[.slice A 3 c,.int .i64 0])∧3<=c∧Kd.C (Kd.int .i64) w' A 3 [0,1,2]∧Below V6.heap.size V6 w'):=⟨by
  have h:=ix_ A4 c4 qL (some ⟨V4.heap.size+1,0,none⟩) 3 [120,97,98] V6 hq6 HQ3.out.1 (C_ints (xs:=[120,97,98]) hi6 (by decide)) (Nat.le_refl _) (by decide)
  rw [word_l] at h
  refine h.mono ?_
  rintro e_ w' ⟨v,he,hR,hb_⟩
  obtain ⟨A,c,rfl⟩:=R_slice hR
  have hr:=R_reads' hR
  exact ⟨A,c,he,hr.2.1,hr.2.2,hb_⟩⟩
 have B6:=Sd.m (B3.out.trans (b36.mono B3.out.size))
 have HX6:=Sd.m (ag_ HX3.out b36)
 have HY6:=Sd.m hy6
 have HQ6:=Sd.m hq6
 have HCY6:=Sd.m (Kd.C_below hCY hb6)
 have HR6:=Sd.m (F_below HR2.out (B3.out.trans (b36.mono B3.out.size)))
 have HV6:=Sd.m hV6
 clear ea hb hb6 hy6 hi6 hV6 hCY hq6 b36
 go_wp2_with fail
 rw [←HV6.out]
 refine HWD.out.mono ?_
 rintro e V7 ⟨A7,c7,rfl,hc7,hC7,hb⟩
 have HCH:Sd (Calls Tryz.prog 35 #[.slice A4 3 c4,.slice A7 3 c7] V7 fun e w'=> ∃ A c,e=.returned (.tuple #[.slice A 3 c,.int .i64 0])∧3<=c∧Kd.C (Kd.int .i64) w' A 3 [0,97,98]∧Below V7.heap.size V7 w'):=⟨by
  have h:=gm_ A4 c4 qL A7 c7 [0,1,2] V7 (Kd.C_below HQ6.out hb) HQ3.out.1 hC7 hc7 (by decide) (by decide)
  rw [chars_l] at h
  refine h.mono ?_
  rintro e_ w' ⟨v,he,hR,hb_⟩
  obtain ⟨A,c,rfl⟩:=R_slice hR
  have hr:=R_reads' hR
  exact ⟨A,c,he,hr.2.1,hr.2.2,hb_⟩⟩
 have B7:=Sd.m hb
 have HC7:=Sd.m (And.intro hc7 hC7)
 clear hb hc7 hC7
 go_wp2_with fail
 refine HCH.out.mono ?_
 rintro e V8 ⟨A8,c8,rfl,hc8,hC8,hb⟩
 obtain ⟨V9,hV9⟩: ∃ W_,W_=V8.alloc (.cells #[.int .i64 3] 3):=⟨_,rfl⟩
 have hb9:Below V8.heap.size V8 V9:=by rw [hV9];exact ab_ (Below.refl _ _) _
 have hi9:V9.heap[V8.heap.size]? =some (.cells (([3]:List Int).map (Value.int .i64)).toArray 3 (0,0)):=by rw [hV9];exact aj_ _ _
 have b79:=hb.trans (hb9.mono hb.size)
 have b69:=B7.out.trans (b79.mono B7.out.size)
 have HCN:Sd (Calls Tryz.prog 35 #[.slice A4 3 c4,.slice (some ⟨V8.heap.size,0,none⟩) 1 1] V9 fun e w'=> ∃ A c,e=.returned (.tuple #[.slice A 0 c,.int .i64 1])∧Below V9.heap.size V9 w'):=⟨by
  have h:=gm_ A4 c4 qL (some ⟨V8.heap.size,0,none⟩) 1 [3] V9 (Kd.C_below HQ6.out b69) HQ3.out.1 (C_ints (xs:=[3]) hi9 (by decide)) (Nat.le_refl _) (by decide) (by decide)
  rw [chars_n] at h
  refine h.mono ?_
  rintro e_ w' ⟨v,he,hR,hb_⟩
  obtain ⟨A,c,rfl⟩:=R_slice hR
  exact ⟨A,c,he,hb_⟩⟩
 have B9:=Sd.m b69
 have HC7b:=Sd.m (Kd.C_below HC7.out.2 b79)
 have HC8:=Sd.m (And.intro hc8 (Kd.C_below hC8 hb9))
 have HV9:=Sd.m hV9
 clear hb hb9 hi9 hV9 b79 b69 hc8 hC8
 go_wp2_with fail
 rw [←HV9.out]
 refine HCN.out.mono ?_
 rintro e V10 ⟨A10,c10,rfl,hb⟩
 have b610:=B9.out.trans (hb.mono B9.out.size)
 obtain ⟨Vd,hVd⟩: ∃ W_,W_=V10.drew:=⟨_,rfl⟩
 have hbd:Below V10.heap.size V10 Vd:=by rw [hVd];exact cg_ (Below.refl _ _)
 have h9d:=hb.trans (hbd.mono hb.size)
 have h6d:=b610.trans (hbd.mono b610.size)
 obtain ⟨ay,P3,p3,P4,p4,P5,p5,P7,p7,P8,p8,P9,p9,rfl,y0,y1,y2,y3,y4,y5,y6,y7,y8,y9,y10,l3,g3,l4,g4,l5,g5,l7,g7,l8,g8,l9,g9⟩:=jp_ (Kd.C_below HCY6.out h6d) 0 (by decide) (by decide)
 obtain ⟨ak,K1,m1,K2,m2,K3,m3,rfl,z0,z1,z2,z3,n1,e1,n2,e2,n3,e3⟩:=jq_ (n:=1) (xs:=[⟨2,[⟨98,98⟩],[2],[]⟩]) g9 0 (by decide) (by decide)
 obtain ⟨ax,Q3,r3,Q4,r4,Q5,r5,Q7,r7,Q8,r8,Q9,r9,rfl,t0,t1,t2,t3,t4,t5,t6,t7,t8,t9,t10,o3,f3,o4,f4,o5,f5,o7,f7,o8,f8,o9,f9⟩:=jp_ (F_now (F_below HR6.out h6d)) 0 (by decide) (by decide)
 have ey: ∀ a:Addr,a.add ((0:Int).toNat*11)=a:=fun a=>by simp [Addr.add]
 have ez: ∀ a:Addr,a.add ((0:Int).toNat*4)=a:=fun a=>by simp [Addr.add]
 rw [ey] at y2 y3 y4 y5 y9 t2 t3 t4 t5 t6 t7 t8 t9
 rw [ez] at z2
 have HS:Sd (∀ w',Below Vd.heap.size Vd w'->w'.cell? ⟨V4.heap.size,1,none⟩=some (.slice (some ay) 2 cR)∧w'.cell? ⟨V.heap.size,1,none⟩=some (.slice (some ax) 2 cr)∧w'.cell? ⟨ay.block,ay.off+2,none⟩=some (.int .i64 2)∧w'.cell? ⟨ay.block,ay.off+3,none⟩=some (.slice P3 1 p3)∧w'.cell? ⟨ay.block,ay.off+4,none⟩=some (.slice P4 2 p4)∧w'.cell? ⟨ay.block,ay.off+5,none⟩=some (.slice P5 0 p5)∧w'.cell? ⟨ay.block,ay.off+9,none⟩=some (.slice (some ak) 1 p9)∧w'.cell? ⟨ak.block,ak.off+2,none⟩=some (.slice K2 1 m2)∧w'.cell? ⟨ax.block,ax.off+2,none⟩=some (.int .i64 2)∧w'.cell? ⟨ax.block,ax.off+3,none⟩=some (.slice Q3 1 r3)∧w'.cell? ⟨ax.block,ax.off+4,none⟩=some (.slice Q4 0 r4)∧w'.cell? ⟨ax.block,ax.off+5,none⟩=some (.slice Q5 0 r5)∧w'.cell? ⟨ax.block,ax.off+6,none⟩=some (.int .i64 5)∧w'.cell? ⟨ax.block,ax.off+7,none⟩=some (.slice Q7 0 r7)∧w'.cell? ⟨ax.block,ax.off+8,none⟩=some (.slice Q8 0 r8)∧w'.cell? ⟨ax.block,ax.off+9,none⟩=some (.slice Q9 1 r9)):=by
  refine ⟨fun w' hw=>?_⟩
  have cw:=fun (a:Addr) (v:Value) (h:Vd.cell? a=some v)=>(hw.cell (bl__ Vd _ h)).trans h
  have hx:=ag_ (ag_ HX6.out h6d) hw
  have hy:=ag_ (ag_ HY6.out h6d) hw
  exact ⟨(ae_ hy 1).trans rfl,(ae_ hx 1).trans rfl,cw _ _ y2,cw _ _ y3,cw _ _ y4,cw _ _ y5,cw _ _ y9,cw _ _ z2,cw _ _ t2,cw _ _ t3,cw _ _ t4,cw _ _ t5,cw _ _ t6,cw _ _ t7,cw _ _ t8,cw _ _ t9⟩
 have HP4:Sd (2<=p4∧Kd.C (Kd.int .i64) Vd P4 2 [1,2]):=⟨l4,g4⟩
 have HK2:Sd (1<=m2∧Kd.C (Kd.int .i64) Vd K2 1 [2]):=⟨n2,e2⟩
 have HC7d:Sd (3<=c7∧Kd.C (Kd.int .i64) Vd A7 3 [0,1,2]):=⟨HC7.out.1,Kd.C_below HC7b.out h9d⟩
 have HC8d:Sd (3<=c8∧Kd.C (Kd.int .i64) Vd A8 3 [0,97,98]):=⟨HC8.out.1,Kd.C_below HC8.out.2 h9d⟩
 have BD:=Sd.m (Below.refl Vd.heap.size Vd)
 have HSETS:Sd (∀ W,Below Vd.heap.size Vd W->Calls Tryz.prog 21 #[.agg #[.int .i64 5,.slice Q7 0 r7,.slice Q8 0 r8,.slice Q9 1 r9]] W fun e w'=> ∃ A c,e=.returned (.slice A 1 c)∧Below W.heap.size W w'):=by
  refine ⟨fun W hW=>?_⟩
  have h:=sets_calls pB W (by rw [ke_];decide) wide_B Q7 r7 Q8 r8 Q9 r9 o7 (Kd.C_below f7 hW) o9 (Kd.C_below f9 hW)
  rw [sets_B] at h
  refine h.mono ?_
  rintro e_ w' ⟨A,c,he,_,_,hb_⟩
  exact ⟨A,c,he,hb_⟩
 have HTELL:Sd (∀ W,Below Vd.heap.size Vd W->Calls Tryz.prog 19 #[.agg #[.int .i64 2,.slice Q3 1 r3,.slice Q4 0 r4,.slice Q5 0 r5],.slice A4 3 c4] W fun e w'=> ∃ E1 e1 E2 e2 E3 e3,e=.returned (.agg #[.int .i64 2,.slice E1 1 e1,.slice E2 2 e2,.slice E3 0 e3])∧((1<=e1∧Kd.C k74 w' E1 1 [⟨97,99⟩])∧(2<=e2∧Kd.C (Kd.int .i64) w' E2 2 [1,2])∧Kd.C k45 w' E3 0 [])∧Below W.heap.size W w'):=by
  refine ⟨fun W hW=>?_⟩
  have h:=ec_ qL (by decide) Vd A4 c4 HQ3.out.1 (Kd.C_below HQ6.out h6d) pA W hW (by rw [il_];decide) (fun k=>k<W.heap.size) Q3 r3 Q4 r4 Q5 r5 o3 (C_F k74_heap (Kd.C_below f3 hW)) o5 (C_F kf_ (Kd.C_below f5 hW))
  rw [tell_l] at h
  refine h.mono ?_
  rintro e_ w' ⟨v,he,⟨E1,e1,E2,e2,E3,e3,rfl,a1,b1,a2,b2,a3,b3⟩,hb_⟩
  exact ⟨E1,e1,E2,e2,E3,e3,he,⟨⟨a1,F_now b1⟩,⟨a2,F_now b2⟩,F_now b3⟩,hb_⟩
 have HSAME:Sd (∀ W,Below Vd.heap.size Vd W-> ∀ E1 e1 E2 e2 E3 e3,((1<=e1∧Kd.C k74 W E1 1 [⟨97,99⟩])∧(2<=e2∧Kd.C (Kd.int .i64) W E2 2 [1,2])∧Kd.C k45 W E3 0 [])->Calls Tryz.prog 20 #[.agg #[.int .i64 2,.slice E1 1 e1,.slice E2 2 e2,.slice E3 0 e3],.agg #[.int .i64 2,.slice P3 1 p3,.slice P4 2 p4,.slice P5 0 p5]] W fun e w'=>e=.returned (.bool true)∧Below W.heap.size W w'):=by
  refine ⟨fun W hW E1 e1 E2 e2 E3 e3 hE=>?_⟩
  exact same_refl ⟨2,[⟨97,99⟩],[1,2],[]⟩ ⟨_,by decide,by decide,by decide,fun q hq=>nomatch hq⟩ W E1 e1 E2 e2 E3 e3 P3 p3 P4 p4 P5 p5 hE.1.1 hE.1.2 hE.2.1.1 hE.2.1.2 (Nat.zero_le _) hE.2.2 l3 (Kd.C_below g3 hW) l4 (Kd.C_below g4 hW) l5 (Kd.C_below g5 hW)
 have HJ12:Sd (∀ W,Below Vd.heap.size Vd W-> ∀ B,Kd.C (Kd.int .i64) W B 2 [1,2]->Calls Tryz.prog 37 #[.slice P4 2 p4,.slice B 2 2] W fun e w'=>e=.returned (.bool true)∧Below W.heap.size W w'):=⟨fun W hW B hB=>gz_ [1,2] P4 p4 B 2 W (by decide) (Kd.C_below HP4.out.2 hW) HP4.out.1 hB (Nat.le_refl _)⟩
 have HJ35:Sd (∀ W,Below Vd.heap.size Vd W-> ∀ B,Kd.C (Kd.int .i64) W B 1 [2]->Calls Tryz.prog 37 #[.slice K2 1 m2,.slice B 1 1] W fun e w'=>e=.returned (.bool true)∧Below W.heap.size W w'):=⟨fun W hW B hB=>gz_ [2] K2 m2 B 1 W (by decide) (Kd.C_below HK2.out.2 hW) HK2.out.1 hB (Nat.le_refl _)⟩
 have HJ44:Sd (∀ W,Below Vd.heap.size Vd W-> ∀ B,Kd.C (Kd.int .i64) W B 3 [0,1,2]->Calls Tryz.prog 37 #[.slice A7 3 c7,.slice B 3 3] W fun e w'=>e=.returned (.bool true)∧Below W.heap.size W w'):=⟨fun W hW B hB=>gz_ [0,1,2] A7 c7 B 3 W (by decide) (Kd.C_below HC7d.out.2 hW) HC7d.out.1 hB (Nat.le_refl _)⟩
 have HJ53:Sd (∀ W,Below Vd.heap.size Vd W-> ∀ B,Kd.C (Kd.int .i64) W B 3 [0,97,98]->Calls Tryz.prog 37 #[.slice A8 3 c8,.slice B 3 3] W fun e w'=>e=.returned (.bool true)∧Below W.heap.size W w'):=⟨fun W hW B hB=>gz_ [0,97,98] A8 c8 B 3 W (by decide) (Kd.C_below HC8d.out.2 hW) HC8d.out.1 hB (Nat.le_refl _)⟩
 have HBD:=Sd.m (HB2.out.trans ((B6.out.trans (h6d.mono B6.out.size)).mono HB2.out.size))
 have y1:=bc_ (ag_ HY6.out b610) 1 rfl
 clear hbd h9d h6d b610 hb y0 y2 y3 y4 y5 y6 y7 y8 y9 y10 l3 g3 l4 g4 l5 g5 l7 g7 l8 g8 l9 g9 z0 z1 z2 z3 n1 e1 n2 e2 n3 e3 t0 t1 t2 t3 t4 t5 t6 t7 t8 t9 t10 o3 f3 o4 f4 o5 f5 o7 f7 o8 f8 o9 f9 ey ez
 clear y1
 go_upto_region 9 with fail
 refine start_ (n:=85) (S:=fun w'=>w'.cell? ⟨V4.heap.size,1,none⟩=some (.slice (some ay) 2 cR)∧w'.cell? ⟨V.heap.size,1,none⟩=some (.slice (some ax) 2 cr)∧w'.cell? ⟨ay.block,ay.off+2,none⟩=some (.int .i64 2)∧w'.cell? ⟨ay.block,ay.off+3,none⟩=some (.slice P3 1 p3)∧w'.cell? ⟨ay.block,ay.off+4,none⟩=some (.slice P4 2 p4)∧w'.cell? ⟨ay.block,ay.off+5,none⟩=some (.slice P5 0 p5)∧w'.cell? ⟨ay.block,ay.off+9,none⟩=some (.slice (some ak) 1 p9)∧w'.cell? ⟨ak.block,ak.off+2,none⟩=some (.slice K2 1 m2)∧w'.cell? ⟨ax.block,ax.off+2,none⟩=some (.int .i64 2)∧w'.cell? ⟨ax.block,ax.off+3,none⟩=some (.slice Q3 1 r3)∧w'.cell? ⟨ax.block,ax.off+4,none⟩=some (.slice Q4 0 r4)∧w'.cell? ⟨ax.block,ax.off+5,none⟩=some (.slice Q5 0 r5)∧w'.cell? ⟨ax.block,ax.off+6,none⟩=some (.int .i64 5)∧w'.cell? ⟨ax.block,ax.off+7,none⟩=some (.slice Q7 0 r7)∧w'.cell? ⟨ax.block,ax.off+8,none⟩=some (.slice Q8 0 r8)∧w'.cell? ⟨ax.block,ax.off+9,none⟩=some (.slice Q9 1 r9)) (ds:=[]) (fl9 0) (by kernel_rfl) rfl rfl (by rw [←hVd];exact (HS.out _ (Below.refl _ _))) (fun hHeld=>?_)
 rw [←hVd] at hHeld ⊢
 clear hVd
 refine puc_ 0 60 c9_0 ?_
 refine tac_ 1 61 c9_1 hHeld ?_
 refine puc_ 2 62 c9_2 ?_
 refine puc_ 3 63 c9_3 ?_
 refine puc_ 4 64 c9_4 ?_
 refine puc_ 5 65 c9_5 ?_
 refine tac_ 6 66 c9_6 hHeld ?_
 refine puc_ 7 67 c9_7 ?_
 refine puc_ 8 68 c9_8 ?_
 refine puc_ 9 69 c9_9 ?_
 refine tac_ 10 70 c9_10 hHeld ?_
 refine one_ (i:=11) (N:=some 71) (fl9 12) rfl rfl c9_11 (by decide) (fun K hK=>?_)
 refine value_ (w1:=?_) (v:=?_) (by rfl) rfl ?_ ?_
 rotate_left 2
 ·go_simp
  constructor
  ·rfl
  ·rfl
 have hg_:=aj_ Vd (.cells #[.int .i64 1,.int .i64 2] 3)
 have hb_:=ab_ (Below.refl Vd.heap.size Vd) (.cells #[.int .i64 1,.int .i64 2] 3)
 generalize hW_:Vd.alloc (.cells #[.int .i64 1,.int .i64 2] 3)=U1 at hg_ hb_ ⊢
 have HI:=Sd.m (C_ints (xs:=[1,2]) hg_ (by decide))
 have BU1:=Sd.m (BD.out.trans (hb_.mono BD.out.size))
 clear hg_ hb_ hW_
 refine hK.out _ _ (HS.out _ BU1.out) (fun hHeld=>?_)
 clear hK K
 refine no_ 71 ?_
 refine one_ (i:=12) (N:=some 72) (fl9 13) rfl rfl c9_12 (by decide) (fun K hK=>?_)
 refine goes_ Tryz.func37 (by kernel_rfl) rfl #[.slice P4 2 p4,.slice (some ⟨Vd.heap.size,0,none⟩) 2 2] (by rfl) rfl rfl (by simp only [List.map_toArray,List.map_cons,List.map_nil];rfl) ?_
 with_reducible refine (HJ12.out U1 BU1.out _ HI.out).mono ?_
 rintro e_ U2 ⟨rfl,hb_⟩
 refine ⟨_,rfl,?_⟩
 have BU2:=Sd.m (BU1.out.trans (hb_.mono BU1.out.size))
 clear HI
 clear hb_
 refine hK.out _ _ (HS.out _ BU2.out) (fun hHeld=>?_)
 clear hK K
 refine no_ 72 ?_
 refine puc_ 13 73 c9_13 ?_
 refine puc_ 14 74 c9_14 ?_
 refine puc_ 15 75 c9_15 ?_
 refine tac_ 16 76 c9_16 hHeld ?_
 refine puc_ 17 77 c9_17 ?_
 refine puc_ 18 78 c9_18 ?_
 refine puc_ 19 79 c9_19 ?_
 refine tac_ 20 80 c9_20 hHeld ?_
 refine puc_ 21 81 c9_21 ?_
 refine puc_ 22 82 c9_22 ?_
 refine puc_ 23 83 c9_23 ?_
 refine puc_ 24 84 c9_24 ?_
 refine puc_ 25 85 c9_25 ?_
 refine tac_ 26 86 c9_26 hHeld ?_
 refine puc_ 27 87 c9_27 ?_
 refine puc_ 28 88 c9_28 ?_
 refine puc_ 29 89 c9_29 ?_
 refine tac_ 30 90 c9_30 hHeld ?_
 refine puc_ 31 91 c9_31 ?_
 refine puc_ 32 92 c9_32 ?_
 refine tac_ 33 93 c9_33 hHeld ?_
 refine one_ (i:=34) (N:=some 94) (fl9 35) rfl rfl c9_34 (by decide) (fun K hK=>?_)
 refine value_ (w1:=?_) (v:=?_) (by rfl) rfl ?_ ?_
 rotate_left 2
 ·go_simp
  constructor
  ·rfl
  ·rfl
 have hg_:=aj_ U2 (.cells #[.int .i64 2] 3)
 have hb_:=ab_ (Below.refl U2.heap.size U2) (.cells #[.int .i64 2] 3)
 generalize hW_:U2.alloc (.cells #[.int .i64 2] 3)=U3 at hg_ hb_ ⊢
 have HI:=Sd.m (C_ints (xs:=[2]) hg_ (by decide))
 have BU3:=Sd.m (BU2.out.trans (hb_.mono BU2.out.size))
 clear hg_ hb_ hW_
 refine hK.out _ _ (HS.out _ BU3.out) (fun hHeld=>?_)
 clear hK K
 refine no_ 94 ?_
 refine one_ (i:=35) (N:=some 95) (fl9 36) rfl rfl c9_35 (by decide) (fun K hK=>?_)
 refine goes_ Tryz.func37 (by kernel_rfl) rfl #[.slice K2 1 m2,.slice (some ⟨U2.heap.size,0,none⟩) 1 1] (by rfl) rfl rfl (by simp only [List.map_toArray,List.map_cons,List.map_nil];rfl) ?_
 with_reducible refine (HJ35.out U3 BU3.out _ HI.out).mono ?_
 rintro e_ U4 ⟨rfl,hb_⟩
 refine ⟨_,rfl,?_⟩
 have BU4:=Sd.m (BU3.out.trans (hb_.mono BU3.out.size))
 clear HI
 clear hb_
 refine hK.out _ _ (HS.out _ BU4.out) (fun hHeld=>?_)
 clear hK K
 refine no_ 95 ?_
 refine puc_ 36 96 c9_36 ?_
 refine puc_ 37 97 c9_37 ?_
 refine puc_ 38 98 c9_38 ?_
 refine puc_ 39 99 c9_39 ?_
 refine puc_ 40 100 c9_40 ?_
 refine puc_ 41 101 c9_41 ?_
 refine puc_ 42 102 c9_42 ?_
 refine one_ (i:=43) (N:=some 103) (fl9 44) rfl rfl c9_43 (by decide) (fun K hK=>?_)
 refine value_ (w1:=?_) (v:=?_) (by rfl) rfl ?_ ?_
 rotate_left 2
 ·go_simp
  constructor
  ·rfl
  ·rfl
 have hg_:=aj_ U4 (.cells #[.int .i64 0,.int .i64 1,.int .i64 2] 3)
 have hb_:=ab_ (Below.refl U4.heap.size U4) (.cells #[.int .i64 0,.int .i64 1,.int .i64 2] 3)
 generalize hW_:U4.alloc (.cells #[.int .i64 0,.int .i64 1,.int .i64 2] 3)=U5 at hg_ hb_ ⊢
 have HI:=Sd.m (C_ints (xs:=[0,1,2]) hg_ (by decide))
 have BU5:=Sd.m (BU4.out.trans (hb_.mono BU4.out.size))
 clear hg_ hb_ hW_
 refine hK.out _ _ (HS.out _ BU5.out) (fun hHeld=>?_)
 clear hK K
 refine no_ 103 ?_
 refine one_ (i:=44) (N:=some 104) (fl9 45) rfl rfl c9_44 (by decide) (fun K hK=>?_)
 refine goes_ Tryz.func37 (by kernel_rfl) rfl #[.slice A7 3 c7,.slice (some ⟨U4.heap.size,0,none⟩) 3 3] (by rfl) rfl rfl (by simp only [List.map_toArray,List.map_cons,List.map_nil];rfl) ?_
 with_reducible refine (HJ44.out U5 BU5.out _ HI.out).mono ?_
 rintro e_ U6 ⟨rfl,hb_⟩
 refine ⟨_,rfl,?_⟩
 have BU6:=Sd.m (BU5.out.trans (hb_.mono BU5.out.size))
 clear HI
 clear hb_
 refine hK.out _ _ (HS.out _ BU6.out) (fun hHeld=>?_)
 clear hK K
 refine no_ 104 ?_
 refine puc_ 45 105 c9_45 ?_
 refine puc_ 46 106 c9_46 ?_
 refine puc_ 47 107 c9_47 ?_
 refine puc_ 48 108 c9_48 ?_
 refine puc_ 49 109 c9_49 ?_
 refine puc_ 50 110 c9_50 ?_
 refine puc_ 51 111 c9_51 ?_
 refine one_ (i:=52) (N:=some 112) (fl9 53) rfl rfl c9_52 (by decide) (fun K hK=>?_)
 refine value_ (w1:=?_) (v:=?_) (by rfl) rfl ?_ ?_
 rotate_left 2
 ·go_simp
  constructor
  ·rfl
  ·rfl
 have hg_:=aj_ U6 (.cells #[.int .i64 0,.int .i64 97,.int .i64 98] 3)
 have hb_:=ab_ (Below.refl U6.heap.size U6) (.cells #[.int .i64 0,.int .i64 97,.int .i64 98] 3)
 generalize hW_:U6.alloc (.cells #[.int .i64 0,.int .i64 97,.int .i64 98] 3)=U7 at hg_ hb_ ⊢
 have HI:=Sd.m (C_ints (xs:=[0,97,98]) hg_ (by decide))
 have BU7:=Sd.m (BU6.out.trans (hb_.mono BU6.out.size))
 clear hg_ hb_ hW_
 refine hK.out _ _ (HS.out _ BU7.out) (fun hHeld=>?_)
 clear hK K
 refine no_ 112 ?_
 refine one_ (i:=53) (N:=some 113) (fl9 54) rfl rfl c9_53 (by decide) (fun K hK=>?_)
 refine goes_ Tryz.func37 (by kernel_rfl) rfl #[.slice A8 3 c8,.slice (some ⟨U6.heap.size,0,none⟩) 3 3] (by rfl) rfl rfl (by simp only [List.map_toArray,List.map_cons,List.map_nil];rfl) ?_
 with_reducible refine (HJ53.out U7 BU7.out _ HI.out).mono ?_
 rintro e_ U8 ⟨rfl,hb_⟩
 refine ⟨_,rfl,?_⟩
 have BU8:=Sd.m (BU7.out.trans (hb_.mono BU7.out.size))
 clear HI
 clear hb_
 refine hK.out _ _ (HS.out _ BU8.out) (fun hHeld=>?_)
 clear hK K
 refine no_ 113 ?_
 refine puc_ 54 114 c9_54 ?_
 refine puc_ 55 115 c9_55 ?_
 refine puc_ 56 116 c9_56 ?_
 refine puc_ 57 117 c9_57 ?_
 refine puc_ 58 118 c9_58 ?_
 refine puc_ 59 119 c9_59 ?_
 refine puc_ 60 120 c9_60 ?_
 refine tac_ 61 121 c9_61 hHeld ?_
 refine puc_ 62 122 c9_62 ?_
 refine puc_ 63 123 c9_63 ?_
 refine tac_ 64 124 c9_64 hHeld ?_
 refine one_ (i:=65) (N:=some 125) (fl9 66) rfl rfl c9_65 (by decide) (fun K hK=>?_)
 refine goes_ Tryz.func21 (by kernel_rfl) rfl #[.agg #[.int .i64 5,.slice Q7 0 r7,.slice Q8 0 r8,.slice Q9 1 r9]] (by rfl) rfl rfl (by simp only [List.map_toArray,List.map_cons,List.map_nil];rfl) ?_
 with_reducible refine (HSETS.out U8 BU8.out).mono ?_
 rintro e_ U9 ⟨AS,cS,rfl,hb_⟩
 refine ⟨_,rfl,?_⟩
 have BU9:=Sd.m (BU8.out.trans (hb_.mono BU8.out.size))
 clear hb_
 refine hK.out _ _ (HS.out _ BU9.out) (fun hHeld=>?_)
 clear hK K
 refine no_ 125 ?_
 refine puc_ 66 126 c9_66 ?_
 refine puc_ 67 127 c9_67 ?_
 refine puc_ 68 128 c9_68 ?_
 refine puc_ 69 129 c9_69 ?_
 refine puc_ 70 130 c9_70 ?_
 refine puc_ 75 135 c9_75 ?_
 refine puc_ 77 137 c9_77 ?_
 refine tac_ 71 131 c9_71 hHeld ?_
 refine puc_ 72 132 c9_72 ?_
 refine puc_ 73 133 c9_73 ?_
 refine tac_ 74 134 c9_74 hHeld ?_
 refine tac_ 78 138 c9_78 hHeld ?_
 refine puc_ 79 139 c9_79 ?_
 refine puc_ 80 140 c9_80 ?_
 refine tac_ 81 141 c9_81 hHeld ?_
 refine one_ (i:=76) (N:=some 136) (fl9 82) rfl rfl c9_76 (by decide) (fun K hK=>?_)
 refine goes_ Tryz.func19 (by kernel_rfl) rfl #[.agg #[.int .i64 2,.slice Q3 1 r3,.slice Q4 0 r4,.slice Q5 0 r5],.slice A4 3 c4] (by rfl) rfl rfl (by simp only [List.map_toArray,List.map_cons,List.map_nil];rfl) ?_
 with_reducible refine (HTELL.out U9 BU9.out).mono ?_
 rintro e_ U10 ⟨E1,el1,E2,el2,E3,el3,rfl,hE,hb_⟩
 refine ⟨_,rfl,?_⟩
 have BU10:=Sd.m (BU9.out.trans (hb_.mono BU9.out.size))
 have HE:=Sd.m hE
 clear hE
 clear hb_
 refine hK.out _ _ (HS.out _ BU10.out) (fun hHeld=>?_)
 clear hK K
 refine no_ 136 ?_
 refine one_ (i:=82) (N:=some 142) (fl9 83) rfl rfl c9_82 (by decide) (fun K hK=>?_)
 refine goes_ Tryz.func20 (by kernel_rfl) rfl #[.agg #[.int .i64 2,.slice E1 1 el1,.slice E2 2 el2,.slice E3 0 el3],.agg #[.int .i64 2,.slice P3 1 p3,.slice P4 2 p4,.slice P5 0 p5]] (by rfl) rfl rfl (by simp only [List.map_toArray,List.map_cons,List.map_nil];rfl) ?_
 with_reducible refine (HSAME.out U10 BU10.out E1 el1 E2 el2 E3 el3 HE.out).mono ?_
 rintro e_ U11 ⟨rfl,hb_⟩
 refine ⟨_,rfl,?_⟩
 have BU11:=Sd.m (BU10.out.trans (hb_.mono BU10.out.size))
 clear hb_
 refine hK.out _ _ (HS.out _ BU11.out) (fun hHeld=>?_)
 clear hK K
 refine no_ 142 ?_
 refine puc_ 83 143 c9_83 ?_
 refine puc_ 84 0 c9_84 ?_
 refine done_ (by kernel_rfl) ?_
 go_wp2_with fail
 go_ret
 exact ⟨rfl,HBD.out.trans (BU11.out.mono HBD.out.size)⟩
end LX
namespace M
open A K L R B D
attribute [local go_sem] cl_ cj_ cw_ cv_ cd_ cc_ ck_ ci_
def bb_.l0:Nat->List (List (S74))->List Int->List Int->Int->Option (List Int × Int)
 | 0,_,_,_,_=>none
 | k+1,x0,x1,x6,x7=>if x7<(x1.length:Int) then (if 0<=x7 then ((az_.f k x0 (rd x1 x7)).bind fun t102=>(if t102<0 then (some (([]:List Int),1)) else (if x6.length<17592186044416 then (bb_.l0 k x0 x1 (x6 ++ [t102]) (wrap64 (x7+1))) else (none)))) else (none)) else (some (x6,0))
def bb_.f (k:Nat)(l0:List (List (S74)))(l1:List Int):Option (List Int × Int):=bb_.l0 k l0 l1 ([]:List Int) 0
theorem bb_.calls (k:Nat)(A0:Option Addr)(c0:Nat)(l0:List (List (S74)))(A1:Option Addr)(c1:Nat)(l1:List Int)(r1:List Int)(r2:Int)(w:World)(hr0:Kd.C (Kd.slice 74 k74) w A0 l0.length l0)(hc0:l0.length<=c0)(hr1:Kd.C (Kd.int .i64) w A1 l1.length l1)(hc1:l1.length<=c1)(h:bb_.f k l0 l1=some (r1,r2)):
  Calls Tryz.prog 34 #[.slice A0 l0.length c0,.slice A1 l1.length c1] w fun e w'=> ∃ v0_:Value,e=.returned (.tuple #[v0_,.int .i64 r2])∧Kd.R (Kd.int .i64) 3 w' w.heap.size (fun _=>True) v0_ r1∧Below w.heap.size w w':=by
 have HR0:=Sd.m hr0
 have HC0:=Sd.m hc0
 clear hr0 hc0
 have HR1:=Sd.m hr1
 have HC1:=Sd.m hc1
 clear hr1 hc1
 have HB:=Sd.m (Below.refl w.heap.size w)
 have H:(bb_.l0 k l0 l1 ([]:List Int) 0)=some (r1,r2):=h
 clear h
 have H':=Sd.m H
 clear H
 go_enter Tryz.func34,Tryz.ntmps34
 go_wp2
 go_loopg [6,7] k (fun kq v6 v7 w'=> ∃ (x6_1:List Int) (x7_1:Int),v7=.int .i64 x7_1∧Sd (bb_.l0 kq l0 l1 x6_1 x7_1=some (r1,r2))∧Sd (kq<=k)∧Sd (Kd.R (Kd.int .i64) 3 w' w.heap.size (fun _=>True) v6 x6_1)∧Sd (Below w.heap.size w w'))
 case atStart=>exact ⟨(([]:List Int)),(0),ri_,H',⟨Nat.le_refl _⟩,⟨by first | exact Kd.R_nil _ _ _ _ _ | exact Kd.N_nil _ _ _ _ _ | exact Kd.V_nil _ _ _ _ _ | exact Kd.Q_nil _ _ _ _ _ | exact Kd.S_nil _ _ _ _ _⟩,⟨rb_⟩⟩
 case round=>
  clear H'
  obtain ⟨x6_1,x7_1,rfl,HA,HK1,HO_6,HB⟩:=hrel
  cases gk with
  | zero=>exact absurd HA.out (by simp [bb_.l0])
  | succ k1=>
   have H:=HA.out
   clear HA
   simp only [bb_.l0] at H
   by_cases c3:x7_1<(l1.length:Int)
   ·rw [if_pos c3] at H
    have c3b0:=dt__ c3
    clear c3
    by_cases c4:0<=x7_1
    ·rw [if_pos c4] at H
     have c4b0:=dt__ c4
     clear c4
     replace H:=Option.bind_eq_some_iff.mp H
     obtain ⟨t102,A50,H⟩:=H
     replace H:(if t102<0 then (some (([]:List Int),1)) else (if x6_1.length<17592186044416 then (bb_.l0 k1 l0 l1 (x6_1 ++ [t102]) (wrap64 (x7_1+1))) else (none)))=some (r1,r2):=H
     have A5:=Sd.m A50
     clear A50
     by_cases c6:t102<0
     ·rw [if_pos c6] at H
      have c6b0:=dt__ c6
      clear c6
      simp only [Option.some.injEq,Prod.mk.injEq] at H
      obtain ⟨rfl,rfl⟩:=H
      obtain ⟨ad101,rfl,hx101_0,p101,q101⟩:=ai_ HR1.out HB.out x7_1
      go_wp2_with (first | ((with_reducible refine bk_ (f:=12) rfl ?_);refine goesL_ (some 20) rfl rfl Tryz.func12 (by kernel_rfl) rfl #[.slice A0 l0.length c0,.int .i64 (rd l1 x7_1)] rfl gl_ ?_;(with_reducible refine (az_.calls k1 _ _ l0 (rd l1 x7_1) t102 _ ?side1 ?side2 A5.out).mono ?_);(case side1=>exact cs_ (Kd.C_below HR0.out HB.out));(case side2=>exact HC0.out);rintro e w' ⟨rfl,⟨nd,rfl⟩⟩;refine ⟨_,rfl,?_⟩))
      go_ret2
      exact ⟨_,re_,by first | exact Kd.R_nil _ _ _ _ _ | exact Kd.N_nil _ _ _ _ _ | exact Kd.V_nil _ _ _ _ _ | exact Kd.Q_nil _ _ _ _ _ | exact Kd.S_nil _ _ _ _ _,rb_⟩
     ·rw [if_neg c6] at H
      have c6b0:=df__ c6
      clear c6
      by_cases c7:x6_1.length<17592186044416
      ·rw [if_pos c7] at H
       have LMc7:=Sd.m c7
       clear c7
       obtain ⟨y103,hy103⟩: ∃ y_:List Int,y_=(x6_1 ++ [t102]):=⟨_,rfl⟩
       replace H:(bb_.l0 k1 l0 l1 y103 (wrap64 (x7_1+1)))=some (r1,r2):=by first | (rw [hy103];with_reducible exact H) | (have H2_:=(Option.bind_some _ _).symm.trans H;rw [hy103];with_reducible exact H2_) | (have H2_:=(Option.bind_some _ _).symm.trans H;with_reducible exact H2_) | with_reducible exact H | (rw [hy103];exact H) | exact H
       have Ny103:=Sd.m hy103
       clear hy103
       have H':=Sd.m H
       clear H
       obtain ⟨ad101,rfl,hx101_0,p101,q101⟩:=ai_ HR1.out HB.out x7_1
       go_wp2_with (first | ((with_reducible refine bk_ (f:=12) rfl ?_);refine goesL_ (some 20) rfl rfl Tryz.func12 (by kernel_rfl) rfl #[.slice A0 l0.length c0,.int .i64 (rd l1 x7_1)] rfl gl_ ?_;(with_reducible refine (az_.calls k1 _ _ l0 (rd l1 x7_1) t102 _ ?side1 ?side2 A5.out).mono ?_);(case side1=>exact cs_ (Kd.C_below HR0.out HB.out));(case side2=>exact HC0.out);rintro e w' ⟨rfl,⟨nd,rfl⟩⟩;refine ⟨_,rfl,?_⟩) | ((with_reducible refine bq_ (b:=.append) (xs:=#[.tmp 23,.tmp 25]) rfl ?_);at_builtin;refine Kd.R_append (Kd.int .i64) (w0:=w) w.heap.size rfl (.tmp 23) (.tmp 25) 42 3 (.int .i64 0) 8 rfl Tryz.underlying42 info3 rfl (by decide) (by omega) u6 x6_1 t102 [.int .i64 t102] (fun _=>True) (fun _=>False) rfl rfl ?aP (fun _ hk=>hk.elim) ?aF ?aO ?aB ?aS ?aL ?_;(case aP=>exact rfl);(case aB=>exact rb_);(case aF=>exact (fun _ _=>trivial));(case aO=>exact (rr_ HO_6.out));(case aS=>exact (ao_ rb_));(case aL=>have:=LMc7.out;omega);intro v104 w8 ho hb hg hat;rw [←Ny103.out] at ho;have n0_:=Sd.m (hb);have n1_:=Sd.m (ho);clear HB;clear HO_6;have HB:=n0_;have HO105:=n1_;clear n0_ n1_;clear ho hb hg hat))
       go_roundg k1
       case measure=>have:=HK1.out;omega
       case rel=>exact ⟨(y103),(wrap64 (x7_1+1)),ri_,H',⟨by have:=HK1.out;omega⟩,⟨rr_ HO105.out⟩,⟨rb_⟩⟩
      ·rw [if_neg c7] at H
       exact absurd H (by simp)
    ·rw [if_neg c4] at H
     exact absurd H (by simp)
   ·rw [if_neg c3] at H
    have c3b0:=df__ c3
    clear c3
    simp only [Option.some.injEq,Prod.mk.injEq] at H
    obtain ⟨rfl,rfl⟩:=H
    go_wp2
    go_ret2
    exact ⟨_,re_,rr_ HO_6.out,rb_⟩
def as_.l0:Nat->List Int->List Int->List Int->Int->Option (List Int × Int)
 | 0,_,_,_,_=>none
 | k+1,x1,x6,x7,x8=>if x8<(x1.length:Int) then (if 0<=x8 then (if (rd x1 x8)<0 then (some (([]:List Int),1)) else (if (rd x1 x8) ≥ (x7.length:Int) then (some (([]:List Int),1)) else (if 0<=(rd x1 x8) then (if (rd x1 x8)<(x7.length:Int) then (if (rd x7 (rd x1 x8))<0 then (some (([]:List Int),1)) else (if x6.length<17592186044416 then (as_.l0 k x1 (x6 ++ [rd x7 (rd x1 x8)]) x7 (wrap64 (x8+1))) else (none))) else (none)) else (none)))) else (none)) else (some (x6,0))
def as_.f (k:Nat)(l0:List (List (S74)))(l1:List Int):Option (List Int × Int):=(ay_.f k l0).bind fun t106=>(as_.l0 k l1 ([]:List Int) t106 0)
theorem as_.calls (k:Nat)(A0:Option Addr)(c0:Nat)(l0:List (List (S74)))(A1:Option Addr)(c1:Nat)(l1:List Int)(r1:List Int)(r2:Int)(w:World)(hr0:Kd.C (Kd.slice 74 k74) w A0 l0.length l0)(hc0:l0.length<=c0)(hr1:Kd.C (Kd.int .i64) w A1 l1.length l1)(hc1:l1.length<=c1)(h:as_.f k l0 l1=some (r1,r2)):
  Calls Tryz.prog 36 #[.slice A0 l0.length c0,.slice A1 l1.length c1] w fun e w'=> ∃ v0_:Value,e=.returned (.tuple #[v0_,.int .i64 r2])∧Kd.R (Kd.int .i64) 3 w' w.heap.size (fun _=>True) v0_ r1∧Below w.heap.size w w':=by
 have HR0:=Sd.m hr0
 have HC0:=Sd.m hc0
 clear hr0 hc0
 have HR1:=Sd.m hr1
 have HC1:=Sd.m hc1
 clear hr1 hc1
 have HB:=Sd.m (Below.refl w.heap.size w)
 have H:((ay_.f k l0).bind fun t106=>(as_.l0 k l1 ([]:List Int) t106 0))=some (r1,r2):=h
 clear h
 replace H:=Option.bind_eq_some_iff.mp H
 obtain ⟨t106,A30,H⟩:=H
 replace H:(as_.l0 k l1 ([]:List Int) t106 0)=some (r1,r2):=H
 have A3:=Sd.m A30
 clear A30
 have H':=Sd.m H
 clear H
 go_enter Tryz.func36,Tryz.ntmps36
 go_wp2_with (first | ((with_reducible refine bk_ (f:=70) rfl ?_);refine goesL_ (some 10) rfl rfl Tryz.func70 (by kernel_rfl) rfl #[.slice A0 l0.length c0] rfl gl_ ?_;(with_reducible refine (ay_.calls k _ _ l0 t106 _ ?side1 ?side2 A3.out).mono ?_);(case side1=>repeat (first | exact HR0.out | (with_reducible refine Kd.C_alloc ?_ _) | (with_reducible refine Kd.C_drewN ?_ _) | (with_reducible refine Kd.C_drew ?_)));(case side2=>exact HC0.out);rintro e w4 ⟨v107,rfl,ho0,hb⟩;refine ⟨_,rfl,?_⟩;have n0_:=Sd.m (Kd.R_lower ho0 (ao_ rb_));have n1_:=Sd.m (ax_ rb_ hb);clear HB;have HO108:=n0_;have HB:=n1_;clear n0_ n1_;(try clear hb);(try clear hb2);(try clear hk);(try clear hi);(try clear ho0)))
 go_loopg [6,8] k (fun kq v6 v8 w'=> ∃ (x6_1:List Int) (x8_1:Int),v8=.int .i64 x8_1∧Sd (as_.l0 kq l1 x6_1 t106 x8_1=some (r1,r2))∧Sd (kq<=k)∧Sd (Kd.R (Kd.int .i64) 3 w' w.heap.size (fun k_=>some k_≠(v107:Value).ownBlock) v6 x6_1)∧Sd (Kd.R (Kd.int .i64) 3 w' w.heap.size (fun k_=>some k_≠(v6:Value).ownBlock) v107 t106)∧Sd (Below w.heap.size w w'))
 case atStart=>exact ⟨(([]:List Int)),(0),ri_,H',⟨Nat.le_refl _⟩,⟨by first | exact Kd.R_nil _ _ _ _ _ | exact Kd.N_nil _ _ _ _ _ | exact Kd.V_nil _ _ _ _ _ | exact Kd.Q_nil _ _ _ _ _ | exact Kd.S_nil _ _ _ _ _⟩,⟨by (with_reducible repeat (first | apply Kd.R_alloc | apply Kd.R_drewN | apply Kd.R_drew));exact Kd.R_mono HO108.out (fun _ hk=>(by simp [Value.ownBlock]))⟩,⟨rb_⟩⟩
 case round=>
  clear H'
  obtain ⟨x6_1,x8_1,rfl,HA,HK1,HO_6,HO_7,HB⟩:=hrel
  cases gk with
  | zero=>exact absurd HA.out (by simp [as_.l0])
  | succ k1=>
   have H:=HA.out
   clear HA
   simp only [as_.l0] at H
   by_cases c5:x8_1<(l1.length:Int)
   ·rw [if_pos c5] at H
    have c5b0:=dt__ c5
    clear c5
    by_cases c6:0<=x8_1
    ·rw [if_pos c6] at H
     have c6b0:=dt__ c6
     clear c6
     by_cases c7:(rd l1 x8_1)<0
     ·rw [if_pos c7] at H
      have c7b0:=dt__ c7
      clear c7
      simp only [Option.some.injEq,Prod.mk.injEq] at H
      obtain ⟨rfl,rfl⟩:=H
      obtain ⟨ad109,rfl,hx109_0,p109,q109⟩:=ai_ HR1.out HB.out x8_1
      go_wp2
      go_ret2
      exact ⟨_,re_,by first | exact Kd.R_nil _ _ _ _ _ | exact Kd.N_nil _ _ _ _ _ | exact Kd.V_nil _ _ _ _ _ | exact Kd.Q_nil _ _ _ _ _ | exact Kd.S_nil _ _ _ _ _,rb_⟩
     ·rw [if_neg c7] at H
      have c7b0:=df__ c7
      clear c7
      by_cases c8:(rd l1 x8_1) ≥ (t106.length:Int)
      ·rw [if_pos c8] at H
       have c8b0:=dt__ c8
       clear c8
       simp only [Option.some.injEq,Prod.mk.injEq] at H
       obtain ⟨rfl,rfl⟩:=H
       obtain ⟨ad109,rfl,hx109_0,p109,q109⟩:=ai_ HR1.out HB.out x8_1
       have p110:0<=(x8_1:Int):=od_
       have q110:x8_1<(l1.length:Int):=od_
       obtain ⟨ad110,e110,hx110_0⟩:=Kd.dc_ HR1.out x8_1 p110 q110
       obtain rfl:ad109=ad110:=(by injection e110)
       replace hx110_0:=(HB.out.cell (bl__ w _ hx110_0)).trans hx110_0
       replace p110:=eq_true p110
       replace q110:=eq_true q110
       obtain ⟨Ao9,co9,eo9⟩:=Kd.R_slice HO_7.out
       subst eo9
       go_wp2
       go_ret2
       exact ⟨_,re_,by first | exact Kd.R_nil _ _ _ _ _ | exact Kd.N_nil _ _ _ _ _ | exact Kd.V_nil _ _ _ _ _ | exact Kd.Q_nil _ _ _ _ _ | exact Kd.S_nil _ _ _ _ _,rb_⟩
      ·rw [if_neg c8] at H
       have c8b0:=df__ c8
       clear c8
       by_cases c10:0<=(rd l1 x8_1)
       ·rw [if_pos c10] at H
        have c10b0:=dt__ c10
        clear c10
        by_cases c11:(rd l1 x8_1)<(t106.length:Int)
        ·rw [if_pos c11] at H
         have c11b0:=dt__ c11
         clear c11
         by_cases c12:(rd t106 (rd l1 x8_1))<0
         ·rw [if_pos c12] at H
          have c12b0:=dt__ c12
          clear c12
          simp only [Option.some.injEq,Prod.mk.injEq] at H
          obtain ⟨rfl,rfl⟩:=H
          obtain ⟨ad109,rfl,hx109_0,p109,q109⟩:=ai_ HR1.out HB.out x8_1
          have p110:0<=(x8_1:Int):=od_
          have q110:x8_1<(l1.length:Int):=od_
          obtain ⟨ad110,e110,hx110_0⟩:=Kd.dc_ HR1.out x8_1 p110 q110
          obtain rfl:ad109=ad110:=(by injection e110)
          replace hx110_0:=(HB.out.cell (bl__ w _ hx110_0)).trans hx110_0
          replace p110:=eq_true p110
          replace q110:=eq_true q110
          obtain ⟨Ao13,co13,eo13⟩:=Kd.R_slice HO_7.out
          subst eo13
          have p111:0<=(x8_1:Int):=od_
          have q111:x8_1<(l1.length:Int):=od_
          obtain ⟨ad111,e111,hx111_0⟩:=Kd.dc_ HR1.out x8_1 p111 q111
          obtain rfl:ad109=ad111:=(by injection e111)
          replace hx111_0:=(HB.out.cell (bl__ w _ hx111_0)).trans hx111_0
          replace p111:=eq_true p111
          replace q111:=eq_true q111
          have p112:0<=((rd l1 x8_1):Int):=od_
          have q112:(rd l1 x8_1)<(t106.length:Int):=od_
          obtain ⟨ad112,e112,hx112_0⟩:=Kd.dc_ (Kd.R_reads' HO_7.out).2.2 (rd l1 x8_1) p112 q112
          cases e112
          replace p112:=eq_true p112
          replace q112:=eq_true q112
          go_wp2
          go_ret2
          exact ⟨_,re_,by first | exact Kd.R_nil _ _ _ _ _ | exact Kd.N_nil _ _ _ _ _ | exact Kd.V_nil _ _ _ _ _ | exact Kd.Q_nil _ _ _ _ _ | exact Kd.S_nil _ _ _ _ _,rb_⟩
         ·rw [if_neg c12] at H
          have c12b0:=df__ c12
          clear c12
          by_cases c14:x6_1.length<17592186044416
          ·rw [if_pos c14] at H
           have LMc14:=Sd.m c14
           clear c14
           obtain ⟨y115,hy115⟩: ∃ y_:List Int,y_=(x6_1 ++ [rd t106 (rd l1 x8_1)]):=⟨_,rfl⟩
           replace H:(as_.l0 k1 l1 y115 t106 (wrap64 (x8_1+1)))=some (r1,r2):=by first | (rw [hy115];with_reducible exact H) | (have H2_:=(Option.bind_some _ _).symm.trans H;rw [hy115];with_reducible exact H2_) | (have H2_:=(Option.bind_some _ _).symm.trans H;with_reducible exact H2_) | with_reducible exact H | (rw [hy115];exact H) | exact H
           have Ny115:=Sd.m hy115
           clear hy115
           have H':=Sd.m H
           clear H
           obtain ⟨ad109,rfl,hx109_0,p109,q109⟩:=ai_ HR1.out HB.out x8_1
           have p110:0<=(x8_1:Int):=od_
           have q110:x8_1<(l1.length:Int):=od_
           obtain ⟨ad110,e110,hx110_0⟩:=Kd.dc_ HR1.out x8_1 p110 q110
           obtain rfl:ad109=ad110:=(by injection e110)
           replace hx110_0:=(HB.out.cell (bl__ w _ hx110_0)).trans hx110_0
           replace p110:=eq_true p110
           replace q110:=eq_true q110
           obtain ⟨Ao15,co15,eo15⟩:=Kd.R_slice HO_7.out
           subst eo15
           have p111:0<=(x8_1:Int):=od_
           have q111:x8_1<(l1.length:Int):=od_
           obtain ⟨ad111,e111,hx111_0⟩:=Kd.dc_ HR1.out x8_1 p111 q111
           obtain rfl:ad109=ad111:=(by injection e111)
           replace hx111_0:=(HB.out.cell (bl__ w _ hx111_0)).trans hx111_0
           replace p111:=eq_true p111
           replace q111:=eq_true q111
           have p112:0<=((rd l1 x8_1):Int):=od_
           have q112:(rd l1 x8_1)<(t106.length:Int):=od_
           obtain ⟨ad112,e112,hx112_0⟩:=Kd.dc_ (Kd.R_reads' HO_7.out).2.2 (rd l1 x8_1) p112 q112
           cases e112
           replace p112:=eq_true p112
           replace q112:=eq_true q112
           have p113:0<=(x8_1:Int):=od_
           have q113:x8_1<(l1.length:Int):=od_
           obtain ⟨ad113,e113,hx113_0⟩:=Kd.dc_ HR1.out x8_1 p113 q113
           obtain rfl:ad109=ad113:=(by injection e113)
           replace hx113_0:=(HB.out.cell (bl__ w _ hx113_0)).trans hx113_0
           replace p113:=eq_true p113
           replace q113:=eq_true q113
           have p114:0<=((rd l1 x8_1):Int):=od_
           have q114:(rd l1 x8_1)<(t106.length:Int):=od_
           obtain ⟨ad114,e114,hx114_0⟩:=Kd.dc_ (Kd.R_reads' HO_7.out).2.2 (rd l1 x8_1) p114 q114
           obtain rfl:ad112=ad114:=(by injection e114)
           replace p114:=eq_true p114
           replace q114:=eq_true q114
           go_wp2_with (first | ((with_reducible refine bq_ (b:=.append) (xs:=#[.tmp 41,.tmp 49]) rfl ?_);(try (refine gc_ (by rfl) ?_;dsimp only));at_builtin;refine Kd.R_append (Kd.int .i64) (w0:=w) w.heap.size rfl (.tmp 41) (.tmp 49) 42 3 (.int .i64 0) 8 rfl Tryz.underlying42 info3 rfl (by decide) (by omega) u6 x6_1 (rd t106 (rd l1 x8_1)) [.int .i64 (rd t106 (rd l1 x8_1))] (fun k_=>some k_≠(.slice (some ad112) t106.length co15:Value).ownBlock) (fun _=>False) rfl rfl ?aP (fun _ hk=>hk.elim) ?aF ?aO ?aB ?aS ?aL ?_;(case aP=>exact rfl);(case aB=>exact rb_);(case aF=>exact (fun k_ hk=>Kd.fresh' (Kd.R_lt (rr_ HO_7.out)) k_ hk));(case aO=>exact (rr_ HO_6.out));(case aS=>exact (ao_ rb_));(case aL=>have:=LMc14.out;omega);intro v116 w16 ho hb hg hat;rw [←Ny115.out] at ho;have n0_:=Sd.m (Kd.R_after (ok:=(fun _=>True)) (by (with_reducible repeat (first | apply Kd.R_alloc | apply Kd.R_drewN | apply Kd.R_drew));exact Kd.R_mono HO_7.out (fun _ hk=>⟨trivial,hk⟩)) hg hat);have n1_:=Sd.m (hb);have n2_:=Sd.m (ho);clear HO_7;clear HB;clear HO_6;have HO_7:=n0_;have HB:=n1_;have HO117:=n2_;clear n0_ n1_ n2_;clear ho hb hg hat))
           go_roundg k1
           case measure=>have:=HK1.out;omega
           case rel=>exact ⟨(y115),(wrap64 (x8_1+1)),ri_,H',⟨by have:=HK1.out;omega⟩,⟨rr_ HO117.out⟩,⟨by (with_reducible repeat (first | apply Kd.R_alloc | apply Kd.R_drewN | apply Kd.R_drew));exact Kd.R_mono HO_7.out (fun _ hk=>hk.2)⟩,⟨rb_⟩⟩
          ·rw [if_neg c14] at H
           exact absurd H (by simp)
        ·rw [if_neg c11] at H
         exact absurd H (by simp)
       ·rw [if_neg c10] at H
        exact absurd H (by simp)
    ·rw [if_neg c6] at H
     exact absurd H (by simp)
   ·rw [if_neg c5] at H
    have c5b0:=df__ c5
    clear c5
    simp only [Option.some.injEq,Prod.mk.injEq] at H
    obtain ⟨rfl,rfl⟩:=H
    go_wp2
    go_ret2
    exact ⟨_,re_,by (with_reducible repeat (first | apply Kd.R_alloc | apply Kd.R_drewN | apply Kd.R_drew));exact Kd.R_mono HO_6.out (fun _ hk=>trivial),rb_⟩
end M
namespace S
open Shelf YthfceiincmkccaaGreatW.PrintWords.Kd A K L LX P
def de_.f:Option Bool:=some true
theorem de_.calls (r:Bool)(w:World)(h:de_.f=some r):Calls Tryz.prog 9 #[] w fun e w'=>e=.returned (.bool r)∧Below w.heap.size w w':=by
 obtain rfl:=Option.some.inj h
 exact alive10 w
def ep_.f (l0:List (List S74))(l1:List Int):Option (List Int × Int):=if l1.length<=100000 then some (eachF (classF l0) l1) else none
theorem ep_.calls (A0:Option Addr)(c0:Nat)(l0:List (List S74))(A1:Option Addr)(c1:Nat)(l1:List Int)(r1:List Int)(r2:Int)(w:World)(hr0:Kd.C (Kd.slice 74 k74) w A0 l0.length l0)(hc0:l0.length<=c0)(hr1:Kd.C (Kd.int .i64) w A1 l1.length l1)(hc1:l1.length<=c1)(h:ep_.f l0 l1=some (r1,r2)):
  Calls Tryz.prog 33 #[.slice A0 l0.length c0,.slice A1 l1.length c1] w fun e w'=> ∃ v0_:Value,e=.returned (.tuple #[v0_,.int .i64 r2])∧Kd.R (Kd.int .i64) 3 w' w.heap.size (fun _=>True) v0_ r1∧Below w.heap.size w w':=by
 unfold ep_.f at h
 split at h
 ·rename_i hl
  have h:=Option.some.inj h
  have hc:=ix_ A0 c0 l0 A1 c1 l1 w hr0 hc0 hr1 hc1 hl
  rw [h] at hc
  exact hc
 ·cases h
def dp_.f (l0:List (List S74))(l1:List Int):Option (List Int × Int):=if l0.length<=100000∧l1.length<=100000 then some (eachF (charF (l0.map firstF)) l1) else none
theorem dp_.calls (A0:Option Addr)(c0:Nat)(l0:List (List S74))(A1:Option Addr)(c1:Nat)(l1:List Int)(r1:List Int)(r2:Int)(w:World)(hr0:Kd.C (Kd.slice 74 k74) w A0 l0.length l0)(hc0:l0.length<=c0)(hr1:Kd.C (Kd.int .i64) w A1 l1.length l1)(hc1:l1.length<=c1)(h:dp_.f l0 l1=some (r1,r2)):
  Calls Tryz.prog 35 #[.slice A0 l0.length c0,.slice A1 l1.length c1] w fun e w'=> ∃ v0_:Value,e=.returned (.tuple #[v0_,.int .i64 r2])∧Kd.R (Kd.int .i64) 3 w' w.heap.size (fun _=>True) v0_ r1∧Below w.heap.size w w':=by
 unfold dp_.f at h
 split at h
 ·rename_i hl
  have h:=Option.some.inj h
  have hc:=gm_ A0 c0 l0 A1 c1 l1 w hr0 hc0 hr1 hc1 hl.1 hl.2
  rw [h] at hc
  exact hc
 ·cases h
end S
namespace SW
noncomputable section
open Go.RowKit Go.Proofs.YthfceiincmkccaaGreatW.PrintWords Go.Proofs.YthfceiincmkccaaGreatW.PrintLast Go.Proofs.YthfceiincmkccaaGreatW.PrintMore Go.Proofs.YthfceiincmkccaaGreat.A Go.Proofs.YthfceiincmkccaaGreat.K Go.Proofs.YthfceiincmkccaaGreat.L Go.Proofs.YthfceiincmkccaaGreat.R Go.Proofs.YthfceiincmkccaaGreat.B Go.Proofs.YthfceiincmkccaaGreat.D Go.Proofs.YthfceiincmkccaaGreat.M Go.Proofs.YthfceiincmkccaaGreat.S
attribute [local go_sem] cl_ cj_ cw_ cv_ cd_ cc_ ck_ ci_
def al_.j0:Nat->List (List (S74))->List Int->List Int->Bool->Option (Bool)
 | 0,_,_,_,_=>none
 | k+1,x0,x1,x2,x28=>if x28=true then (some true) else ((ep_.f x0 x1).bind fun bt103=>((bb_.f k x0 x1).bind fun bt107=>((dp_.f x0 x2).bind fun bt111=>((as_.f k x0 x2).bind fun bt115=>((ah_.f k bt103.1 bt107.1).bind fun t119=>(if t119=true then (if bt103.2=bt107.2 then ((ah_.f k bt111.1 bt115.1).bind fun t120=>(if t120=true then (some (bt111.2 == bt115.2)) else (some false))) else (some false)) else (some false)))))))
def al_.f (k:Nat)(l0:List (List (S74)))(l1:List Int)(l2:List Int):Option (Bool):=(de_.f).bind fun t101=>(if t101=true then ((av_.f k l0 300).bind fun t102=>(if t102=true then (al_.j0 k l0 l1 l2 true) else (if (l1.length:Int)>300 then (al_.j0 k l0 l1 l2 true) else (al_.j0 k l0 l1 l2 (decide ((l2.length:Int)>300)))))) else (some false))
theorem al_.calls (k:Nat)(A0:Option Addr)(c0:Nat)(l0:List (List (S74)))(A1:Option Addr)(c1:Nat)(l1:List Int)(A2:Option Addr)(c2:Nat)(l2:List Int)(r:Bool)(w:World)(hr0:Kd.C (Kd.slice 74 k74) w A0 l0.length l0)(hc0:l0.length<=c0)(hr1:Kd.C (Kd.int .i64) w A1 l1.length l1)(hc1:l1.length<=c1)(hr2:Kd.C (Kd.int .i64) w A2 l2.length l2)(hc2:l2.length<=c2)(h:al_.f k l0 l1 l2=some r)(hrt_:Sd (r=true)):
  Calls Tryz.prog 7 #[.slice A0 l0.length c0,.slice A1 l1.length c1,.slice A2 l2.length c2] w fun e w'=>e=.returned (.bool r)∧Below w.heap.size w w':=by
 have HR0:=Sd.m hr0
 have HC0:=Sd.m hc0
 clear hr0 hc0
 have HR1:=Sd.m hr1
 have HC1:=Sd.m hc1
 clear hr1 hc1
 have HR2:=Sd.m hr2
 have HC2:=Sd.m hc2
 clear hr2 hc2
 have HB:=Sd.m (Below.refl w.heap.size w)
 have H:((de_.f).bind fun t101=>(if t101=true then ((av_.f k l0 300).bind fun t102=>(if t102=true then (al_.j0 k l0 l1 l2 true) else (if (l1.length:Int)>300 then (al_.j0 k l0 l1 l2 true) else (al_.j0 k l0 l1 l2 (decide ((l2.length:Int)>300)))))) else (some false)))=some r:=h
 clear h
 replace H:=Option.bind_eq_some_iff.mp H
 obtain ⟨t101,A40,H⟩:=H
 replace H:(if t101=true then ((av_.f k l0 300).bind fun t102=>(if t102=true then (al_.j0 k l0 l1 l2 true) else (if (l1.length:Int)>300 then (al_.j0 k l0 l1 l2 true) else (al_.j0 k l0 l1 l2 (decide ((l2.length:Int)>300)))))) else (some false))=some r:=H
 have A4:=Sd.m A40
 clear A40
 by_cases c5:t101=true
 ·subst c5
  have H1:((av_.f k l0 300).bind fun t102=>(if t102=true then (al_.j0 k l0 l1 l2 true) else (if (l1.length:Int)>300 then (al_.j0 k l0 l1 l2 true) else (al_.j0 k l0 l1 l2 (decide ((l2.length:Int)>300))))))=some r:=by rw [if_pos rfl] at H;exact H
  clear H
  have H:=H1
  clear H1
  have HC6:=Sd.m H
  clear H
  go_enter Tryz.func7,Tryz.ntmps7
  go_upto_region 3 with (first | ((with_reducible refine bk_ (f:=9) rfl ?_);refine goesL_ (some 15) rfl rfl Tryz.func9 (by kernel_rfl) rfl #[] rfl gl_ ?_;(with_reducible refine (de_.calls  true _ A4.out).mono ?_);rintro e w7 ⟨rfl,hb⟩;refine ⟨_,rfl,?_⟩;have n0_:=Sd.m (ax_ rb_ hb);clear HB;have HB:=n0_;clear n0_;(try clear hb);(try clear hb2);(try clear hk);(try clear hi)))
  (try simp only [Act.put,List.setIfInBounds_toArray,List.set_cons_zero,List.set_cons_succ])
  go_cut [28] (fun v28 wc=> ∃ (kq:Nat) (x28_5:Bool),v28=.bool x28_5∧Sd (al_.j0 kq l0 l1 l2 x28_5=some r)∧Sd (kq<=k)∧Sd (Below w.heap.size w wc))
  case first=>
   have H:=HC6.out
   clear HC6
   replace H:=Option.bind_eq_some_iff.mp H
   obtain ⟨t102,A80,H⟩:=H
   replace H:(if t102=true then (al_.j0 k l0 l1 l2 true) else (if (l1.length:Int)>300 then (al_.j0 k l0 l1 l2 true) else (al_.j0 k l0 l1 l2 (decide ((l2.length:Int)>300)))))=some r:=H
   have A8:=Sd.m A80
   clear A80
   by_cases c9:t102=true
   ·subst c9
    have H1:(al_.j0 k l0 l1 l2 true)=some r:=by rw [if_pos rfl] at H;exact H
    clear H
    have H:=H1
    clear H1
    have H':=Sd.m H
    clear H
    go_wp2_with (first | ((with_reducible refine bk_ (f:=18) rfl ?_);refine goesL_ (some 18) rfl rfl Tryz.func18 (by kernel_rfl) rfl #[.slice A0 l0.length c0,.int .i64 300] rfl gl_ ?_;(with_reducible refine (av_.calls k _ _ l0 300 true _ ?side1 ?side2 A8.out).mono ?_);(case side1=>exact cs_ (Kd.C_below HR0.out HB.out));(case side2=>exact HC0.out);rintro e w' ⟨rfl,⟨nd,rfl⟩⟩;refine ⟨_,rfl,?_⟩))
    go_meet
    case rel=>exact ⟨_,(true),ri_,H',⟨by first | omega | exact Nat.le_refl _⟩,⟨rb_⟩⟩
   ·replace c9:=Bool.eq_false_iff.mpr c9
    subst c9
    have H1:(if (l1.length:Int)>300 then (al_.j0 k l0 l1 l2 true) else (al_.j0 k l0 l1 l2 (decide ((l2.length:Int)>300))))=some r:=by rw [if_neg (show ¬ (false=true) by decide)] at H;exact H
    clear H
    have H:=H1
    clear H1
    by_cases c10:(l1.length:Int)>300
    ·rw [if_pos c10] at H
     have c10b0:=dt__ c10
     have c10b1:decide (300<l1.length)=true:=dt__ (by omega)
     clear c10
     (first | rw [c10b0] | (simp only [ds_,dt_];rw [c10b0]) | skip)
     have H':=Sd.m H
     clear H
     go_wp2_with (first | ((with_reducible refine bk_ (f:=18) rfl ?_);refine goesL_ (some 18) rfl rfl Tryz.func18 (by kernel_rfl) rfl #[.slice A0 l0.length c0,.int .i64 300] rfl gl_ ?_;(with_reducible refine (av_.calls k _ _ l0 300 false _ ?side1 ?side2 A8.out).mono ?_);(case side1=>exact cs_ (Kd.C_below HR0.out HB.out));(case side2=>exact HC0.out);rintro e w' ⟨rfl,⟨nd,rfl⟩⟩;refine ⟨_,rfl,?_⟩))
     go_meet
     case rel=>exact ⟨_,(true),ri_,H',⟨by first | omega | exact Nat.le_refl _⟩,⟨rb_⟩⟩
    ·rw [if_neg c10] at H
     have c10b0:=df__ c10
     have c10b1:decide (300<l1.length)=false:=df__ (by omega)
     clear c10
     (first | rw [c10b0] | (simp only [ds_,dt_];rw [c10b0]) | skip)
     have H':=Sd.m H
     clear H
     go_wp2_with (first | ((with_reducible refine bk_ (f:=18) rfl ?_);refine goesL_ (some 18) rfl rfl Tryz.func18 (by kernel_rfl) rfl #[.slice A0 l0.length c0,.int .i64 300] rfl gl_ ?_;(with_reducible refine (av_.calls k _ _ l0 300 false _ ?side1 ?side2 A8.out).mono ?_);(case side1=>exact cs_ (Kd.C_below HR0.out HB.out));(case side2=>exact HC0.out);rintro e w' ⟨rfl,⟨nd,rfl⟩⟩;refine ⟨_,rfl,?_⟩))
     go_meet
     case rel=>exact ⟨_,(decide ((l2.length:Int)>300)),ri_,H',⟨by first | omega | exact Nat.le_refl _⟩,⟨rb_⟩⟩
  case rest=>
   clear HC6
   obtain ⟨kq,x28_5,rfl,HA,HJ5,HB⟩:=hcut
   cases kq with
   | zero=>exact absurd HA.out (by simp [al_.j0])
   | succ kj5=>
    have H:=HA.out
    clear HA
    simp only [al_.j0] at H
    by_cases c11:x28_5=true
    ·subst c11
     have H1:(some true)=some r:=by rw [if_pos rfl] at H;exact H
     clear H
     have H:=H1
     clear H1
     obtain rfl:=Option.some.inj H
     go_wp2
     go_ret
     exact ⟨re_,rb_⟩
    ·replace c11:=Bool.eq_false_iff.mpr c11
     subst c11
     have H1:((ep_.f l0 l1).bind fun bt103=>((bb_.f kj5 l0 l1).bind fun bt107=>((dp_.f l0 l2).bind fun bt111=>((as_.f kj5 l0 l2).bind fun bt115=>((ah_.f kj5 bt103.1 bt107.1).bind fun t119=>(if t119=true then (if bt103.2=bt107.2 then ((ah_.f kj5 bt111.1 bt115.1).bind fun t120=>(if t120=true then (some (bt111.2 == bt115.2)) else (some false))) else (some false)) else (some false)))))))=some r:=by rw [if_neg (show ¬ (false=true) by decide)] at H;exact H
     clear H
     have H:=H1
     clear H1
     replace H:=Option.bind_eq_some_iff.mp H
     obtain ⟨⟨t103,t104⟩,A120,H⟩:=H
     replace H:((bb_.f kj5 l0 l1).bind fun bt107=>((dp_.f l0 l2).bind fun bt111=>((as_.f kj5 l0 l2).bind fun bt115=>((ah_.f kj5 t103 bt107.1).bind fun t119=>(if t119=true then (if t104=bt107.2 then ((ah_.f kj5 bt111.1 bt115.1).bind fun t120=>(if t120=true then (some (bt111.2 == bt115.2)) else (some false))) else (some false)) else (some false))))))=some r:=H
     have A12:=Sd.m A120
     clear A120
     replace H:=Option.bind_eq_some_iff.mp H
     obtain ⟨⟨t107,t108⟩,A130,H⟩:=H
     replace H:((dp_.f l0 l2).bind fun bt111=>((as_.f kj5 l0 l2).bind fun bt115=>((ah_.f kj5 t103 t107).bind fun t119=>(if t119=true then (if t104=t108 then ((ah_.f kj5 bt111.1 bt115.1).bind fun t120=>(if t120=true then (some (bt111.2 == bt115.2)) else (some false))) else (some false)) else (some false)))))=some r:=H
     have A13:=Sd.m A130
     clear A130
     replace H:=Option.bind_eq_some_iff.mp H
     obtain ⟨⟨t111,t112⟩,A140,H⟩:=H
     replace H:((as_.f kj5 l0 l2).bind fun bt115=>((ah_.f kj5 t103 t107).bind fun t119=>(if t119=true then (if t104=t108 then ((ah_.f kj5 t111 bt115.1).bind fun t120=>(if t120=true then (some (t112 == bt115.2)) else (some false))) else (some false)) else (some false))))=some r:=H
     have A14:=Sd.m A140
     clear A140
     replace H:=Option.bind_eq_some_iff.mp H
     obtain ⟨⟨t115,t116⟩,A150,H⟩:=H
     replace H:((ah_.f kj5 t103 t107).bind fun t119=>(if t119=true then (if t104=t108 then ((ah_.f kj5 t111 t115).bind fun t120=>(if t120=true then (some (t112 == t116)) else (some false))) else (some false)) else (some false)))=some r:=H
     have A15:=Sd.m A150
     clear A150
     replace H:=Option.bind_eq_some_iff.mp H
     obtain ⟨t119,A160,H⟩:=H
     replace H:(if t119=true then (if t104=t108 then ((ah_.f kj5 t111 t115).bind fun t120=>(if t120=true then (some (t112 == t116)) else (some false))) else (some false)) else (some false))=some r:=H
     have A16:=Sd.m A160
     clear A160
     by_cases c17:t119=true
     ·subst c17
      have H1:(if t104=t108 then ((ah_.f kj5 t111 t115).bind fun t120=>(if t120=true then (some (t112 == t116)) else (some false))) else (some false))=some r:=by rw [if_pos rfl] at H;exact H
      clear H
      have H:=H1
      clear H1
      by_cases c18:t104=t108
      ·rw [if_pos c18] at H
       have c18b0:(t104 == t108)=true:=beq_iff_eq.mpr c18
       have c18b1:(t104 != t108)=false:=bne_eq_false_iff_eq.mpr c18
       clear c18
       replace H:=Option.bind_eq_some_iff.mp H
       obtain ⟨t120,A190,H⟩:=H
       replace H:(if t120=true then (some (t112 == t116)) else (some false))=some r:=H
       have A19:=Sd.m A190
       clear A190
       by_cases c20:t120=true
       ·subst c20
        have H1:(some (t112 == t116))=some r:=by rw [if_pos rfl] at H;exact H
        clear H
        have H:=H1
        clear H1
        obtain rfl:=Option.some.inj H
        go_wp2_with (first | ((with_reducible refine bk_ (f:=33) rfl ?_);refine goesL_ (some 32) rfl rfl Tryz.func33 (by kernel_rfl) rfl #[.slice A0 l0.length c0,.slice A1 l1.length c1] rfl gl_ ?_;(with_reducible refine (ep_.calls _ _ l0 _ _ l1 t103 t104 _ ?side1 ?side2 ?side3 ?side4 A12.out).mono ?_);(case side1=>exact cs_ (Kd.C_below HR0.out HB.out));(case side2=>exact HC0.out);(case side3=>exact cs_ (Kd.C_below HR1.out HB.out));(case side4=>exact HC1.out);rintro e w21 ⟨v105,rfl,ho0,hb⟩;refine ⟨_,rfl,?_⟩;have n0_:=Sd.m (Kd.R_lower ho0 (ao_ rb_));have n1_:=Sd.m (ax_ rb_ hb);clear HB;have HO106:=n0_;have HB:=n1_;clear n0_ n1_;(try clear hb);(try clear hb2);(try clear hk);(try clear hi);(try clear ho0)) | ((with_reducible refine bk_ (f:=34) rfl ?_);refine goesL_ (some 38) rfl rfl Tryz.func34 (by kernel_rfl) rfl #[.slice A0 l0.length c0,.slice A1 l1.length c1] rfl gl_ ?_;(with_reducible refine (bb_.calls kj5 _ _ l0 _ _ l1 t107 t108 _ ?side1 ?side2 ?side3 ?side4 A13.out).mono ?_);(case side1=>exact cs_ (Kd.C_below HR0.out HB.out));(case side2=>exact HC0.out);(case side3=>exact cs_ (Kd.C_below HR1.out HB.out));(case side4=>exact HC1.out);rintro e w22 ⟨v109,rfl,ho0,hb⟩;refine ⟨_,rfl,?_⟩;have n0_:=Sd.m (Kd.R_elder' (rr_ HO106.out) (Kd.R_base ho0) hb);have n1_:=Sd.m (Kd.R_lower (Kd.R_new' ho0 (Kd.R_lt (rr_ HO106.out))) (ao_ rb_));have n2_:=Sd.m (ax_ rb_ hb);clear HO106;clear HB;have HO106:=n0_;have HO110:=n1_;have HB:=n2_;clear n0_ n1_ n2_;(try clear hb);(try clear hb2);(try clear hk);(try clear hi);(try clear ho0)) | ((with_reducible refine bk_ (f:=35) rfl ?_);refine goesL_ (some 44) rfl rfl Tryz.func35 (by kernel_rfl) rfl #[.slice A0 l0.length c0,.slice A2 l2.length c2] rfl gl_ ?_;(with_reducible refine (dp_.calls _ _ l0 _ _ l2 t111 t112 _ ?side1 ?side2 ?side3 ?side4 A14.out).mono ?_);(case side1=>exact cs_ (Kd.C_below HR0.out HB.out));(case side2=>exact HC0.out);(case side3=>exact cs_ (Kd.C_below HR2.out HB.out));(case side4=>exact HC2.out);rintro e w23 ⟨v113,rfl,ho0,hb⟩;refine ⟨_,rfl,?_⟩;have n0_:=Sd.m (Kd.R_elder' (rr_ HO106.out) (Kd.R_base ho0) hb);have n1_:=Sd.m (Kd.R_elder' (rr_ HO110.out) (Kd.R_base ho0) hb);have n2_:=Sd.m (Kd.R_lower (Kd.R_new' (Kd.R_new' ho0 (Kd.R_lt (rr_ HO106.out))) (Kd.R_lt (rr_ HO110.out))) (ao_ rb_));have n3_:=Sd.m (ax_ rb_ hb);clear HO106;clear HO110;clear HB;have HO106:=n0_;have HO110:=n1_;have HO114:=n2_;have HB:=n3_;clear n0_ n1_ n2_ n3_;(try clear hb);(try clear hb2);(try clear hk);(try clear hi);(try clear ho0)) | ((with_reducible refine bk_ (f:=36) rfl ?_);refine goesL_ (some 50) rfl rfl Tryz.func36 (by kernel_rfl) rfl #[.slice A0 l0.length c0,.slice A2 l2.length c2] rfl gl_ ?_;(with_reducible refine (as_.calls kj5 _ _ l0 _ _ l2 t115 t116 _ ?side1 ?side2 ?side3 ?side4 A15.out).mono ?_);(case side1=>exact cs_ (Kd.C_below HR0.out HB.out));(case side2=>exact HC0.out);(case side3=>exact cs_ (Kd.C_below HR2.out HB.out));(case side4=>exact HC2.out);rintro e w24 ⟨v117,rfl,ho0,hb⟩;refine ⟨_,rfl,?_⟩;have n0_:=Sd.m (Kd.R_elder' (rr_ HO106.out) (Kd.R_base ho0) hb);have n1_:=Sd.m (Kd.R_elder' (rr_ HO110.out) (Kd.R_base ho0) hb);have n2_:=Sd.m (Kd.R_elder' (rr_ HO114.out) (Kd.R_base ho0) hb);have n3_:=Sd.m (Kd.R_lower (Kd.R_new' (Kd.R_new' (Kd.R_new' ho0 (Kd.R_lt (rr_ HO106.out))) (Kd.R_lt (rr_ HO110.out))) (Kd.R_lt (rr_ HO114.out))) (ao_ rb_));have n4_:=Sd.m (ax_ rb_ hb);clear HO106;clear HO110;clear HO114;clear HB;have HO106:=n0_;have HO110:=n1_;have HO114:=n2_;have HO118:=n3_;have HB:=n4_;clear n0_ n1_ n2_ n3_ n4_;(try clear hb);(try clear hb2);(try clear hk);(try clear hi);(try clear ho0);obtain ⟨Ao25,co25,eo25⟩:=Kd.R_slice HO106.out;subst eo25;obtain ⟨Ao26,co26,eo26⟩:=Kd.R_slice HO110.out;subst eo26) | ((with_reducible refine bk_ (f:=37) rfl ?_);refine goesL_ (some 55) rfl rfl Tryz.func37 (by kernel_rfl) rfl #[.slice Ao25 t103.length co25,.slice Ao26 t107.length co26] rfl gl_ ?_;(with_reducible refine (ah_.calls kj5 _ _ t103 _ _ t107 true _ ?side1 ?side2 ?side3 ?side4 A16.out).mono ?_);(case side1=>repeat (first | exact (Kd.R_reads' HO106.out).2.2 | (with_reducible refine Kd.C_alloc ?_ _) | (with_reducible refine Kd.C_drewN ?_ _) | (with_reducible refine Kd.C_drew ?_)));(case side2=>exact (Kd.R_reads' HO106.out).2.1);(case side3=>repeat (first | exact (Kd.R_reads' HO110.out).2.2 | (with_reducible refine Kd.C_alloc ?_ _) | (with_reducible refine Kd.C_drewN ?_ _) | (with_reducible refine Kd.C_drew ?_)));(case side4=>exact (Kd.R_reads' HO110.out).2.1);rintro e w' ⟨rfl,⟨nd,rfl⟩⟩;refine ⟨_,rfl,?_⟩;obtain ⟨Ao27,co27,eo27⟩:=Kd.R_slice HO114.out;subst eo27;obtain ⟨Ao28,co28,eo28⟩:=Kd.R_slice HO118.out;subst eo28) | (go_at_call 37;(with_reducible refine (ah_.calls kj5 _ _ t111 _ _ t115 true _ ?side1 ?side2 ?side3 ?side4 A19.out).mono ?_);(case side1=>repeat (first | exact (Kd.R_reads' HO114.out).2.2 | (with_reducible refine Kd.C_alloc ?_ _) | (with_reducible refine Kd.C_drewN ?_ _) | (with_reducible refine Kd.C_drew ?_)));(case side2=>exact (Kd.R_reads' HO114.out).2.1);(case side3=>repeat (first | exact (Kd.R_reads' HO118.out).2.2 | (with_reducible refine Kd.C_alloc ?_ _) | (with_reducible refine Kd.C_drewN ?_ _) | (with_reducible refine Kd.C_drew ?_)));(case side4=>exact (Kd.R_reads' HO118.out).2.1);rintro e w' ⟨rfl,⟨nd,rfl⟩⟩))
        go_ret
        exact ⟨re_,rb_⟩
       ·replace c20:=Bool.eq_false_iff.mpr c20
        subst c20
        have H1:(some false)=some r:=by rw [if_neg (show ¬ (false=true) by decide)] at H;exact H
        clear H
        have H:=H1
        clear H1
        exact absurd ((Option.some.inj H).trans hrt_.out) (by decide)
      ·rw [if_neg c18] at H
       have c18b0:(t104 == t108)=false:=beq_eq_false_iff_ne.mpr c18
       have c18b1:(t104 != t108)=true:=bne_iff_ne.mpr c18
       exact absurd ((Option.some.inj H).trans hrt_.out) (by decide)
     ·replace c17:=Bool.eq_false_iff.mpr c17
      subst c17
      have H1:(some false)=some r:=by rw [if_neg (show ¬ (false=true) by decide)] at H;exact H
      clear H
      have H:=H1
      clear H1
      exact absurd ((Option.some.inj H).trans hrt_.out) (by decide)
 ·replace c5:=Bool.eq_false_iff.mpr c5
  subst c5
  have H1:(some false)=some r:=by rw [if_neg (show ¬ (false=true) by decide)] at H;exact H
  clear H
  have H:=H1
  clear H1
  exact absurd ((Option.some.inj H).trans hrt_.out) (by decide)
end
end SW
namespace P
open A L B
theorem rd2 {L:List (List S74)}{i:Nat}{x:List S74}(h:L[i]? =some x):R.eq_ L (i:Int)=x:=rd3 h
theorem ref_class (L:List (List S74))(c:Int)(hL:L.length<=100000):Ev (fun k=>R.az_.f k L c) (classF L c):=by
 have go: ∀ d i:Nat,i+d=L.length->(∀ j,(hj:j<i)->(h:j<L.length)->hasF L[j] c=false)->Ev (fun k=>R.az_.l0 k L c (i:Int)) (classF L c):=by
  intro d
  induction d with
  | zero=>
   intro i h hno
   have e:classF L c= -1:=by
    unfold classF ixF
    cases q:L.findIdx? (fun x=>hasF x c) with
    | none=>rfl
    | some k=>
     obtain ⟨hk,hk2,_⟩:=List.findIdx?_eq_some_iff_getElem.1 q
     rw [hno k (by omega) hk] at hk2
     cases hk2
   rw [e]
   exact Ev.step (f:=fun _=>some (-1)) (fun k=>by rw [R.az_.l0,if_neg (by omega)]) (Ev.now _)
  | succ d ih=>
   intro i h hno
   have hlt:i<L.length:=by omega
   have hg:L[i]? =some L[i]:=List.getElem?_eq_getElem hlt
   refine Ev.step (f:=fun k=>(ap_.f k L[i] c).bind fun t147=>(if t147=true then (some (i:Int)) else (R.az_.l0 k L c ((i:Int)+1)))) (fun k=>by
    rw [R.az_.l0,if_pos (by omega),if_pos (show (0:Int)<=(i:Int) by omega),rd2 hg,w64 (n:=(i:Int)+1) (by omega) (by omega)]) ?_
   refine Ev.bind (ref_has _ _) ?_
   cases q:hasF L[i] c with
   | true=>
    have e:classF L c=i:=by
     unfold classF ixF
     have:L.findIdx? (fun x=>hasF x c)=some i:=List.findIdx?_eq_some_iff_getElem.2 ⟨hlt,q,fun j hj=>by rw [hno j hj (by omega)];decide⟩
     rw [this]
    rw [e]
    exact eu_ rfl (Ev.now _)
   | false=>
    refine ea_ (by decide) ?_
    have:=ih (i+1) (by omega) fun j hj hj2=>by
     rcases Nat.lt_or_eq_of_le (Nat.lt_succ_iff.1 hj) with p | p
     ·exact hno j p hj2
     ·subst p;exact q
    rw [show ((i+1:Nat):Int)=(i:Int)+1 from by omega] at this
    exact this
 exact go L.length 0 (by omega) fun j hj=>by omega
theorem ref_firsts (L:List (List S74))(hL:L.length<=100000):Ev (fun k=>R.ay_.f k L) (L.map firstF):=by
 have go: ∀ d i:Nat,i+d=L.length-> ∀ acc:List Int,acc.length<=i->Ev (fun k=>R.ay_.l0 k L acc (i:Int)) (acc ++ (L.drop i).map firstF):=by
  intro d
  induction d with
  | zero=>
   intro i h acc ha
   rw [List.drop_eq_nil_iff.2 (by omega),List.map_nil,List.append_nil]
   exact Ev.step (f:=fun _=>some acc) (fun k=>by rw [R.ay_.l0,if_neg (by omega)]) (Ev.now _)
  | succ d ih=>
   intro i h acc ha
   have hlt:i<L.length:=by omega
   have hg:L[i]? =some L[i]:=List.getElem?_eq_getElem hlt
   have:=ih (i+1) (by omega) (acc ++ [firstF L[i]]) (by rw [List.length_append,List.length_singleton];omega)
   rw [show ((i+1:Nat):Int)=(i:Int)+1 from by omega,List.append_assoc] at this
   rw [List.drop_eq_getElem_cons hlt,List.map_cons]
   refine Ev.step (f:=fun k=>(da_.f L[i]).bind fun t149=>(if acc.length<17592186044416 then (R.ay_.l0 k L (acc ++ [t149]) ((i:Int)+1)) else (none))) (fun k=>by
    rw [R.ay_.l0,if_pos (by omega),if_pos (show (0:Int)<=(i:Int) by omega),rd2 hg,w64 (n:=(i:Int)+1) (by omega) (by omega)]) ?_
   exact Ev.bind ⟨0,fun _ _=>ref_first _⟩ (eu_ (by omega) this)
 have:=go L.length 0 (by omega) [] (Nat.le_refl _)
 rw [List.drop_zero,List.nil_append] at this
 exact this
open M S
theorem rdw_at (l:List Int)(i:Nat)(h:i<l.length):rd l (i:Int)=l[i]:=by
 unfold rd
 rw [Int.toNat_natCast,List.getD_eq_getElem?_getD,List.getElem?_eq_getElem h]
 rfl
theorem word_go (L:List (List S74))(hL:L.length<=100000)(l:List Int)(hl:l.length<=100000): ∀ d i:Nat,i+d=l.length-> ∀ acc:List Int,acc.length<=i->
  Ev (fun k=>bb_.l0 k L l acc (i:Int)) (if (l.drop i).any (fun x=>decide (classF L x<0)) then ([],1) else (acc ++ (l.drop i).map (classF L),0)):=by
 intro d
 induction d with
 | zero=>
  intro i hi acc ha
  rw [List.drop_eq_nil_iff.2 (by omega)]
  show Ev _ (acc ++ [],0)
  rw [List.append_nil]
  exact Ev.step (f:=fun _=>some (acc,0)) (fun k=>by rw [bb_.l0,if_neg (by omega)]) (Ev.now _)
 | succ d ih=>
  intro i hi acc ha
  have hlt:i<l.length:=by omega
  rw [List.drop_eq_getElem_cons hlt,List.any_cons,List.map_cons]
  refine Ev.step (f:=fun k=>(R.az_.f k L l[i]).bind fun t=>if t<0 then some (([]:List Int),1) else if acc.length<17592186044416 then bb_.l0 k L l (acc ++ [t]) ((i:Int)+1) else none) (fun k=>by rw [bb_.l0,if_pos (by omega),if_pos (by omega),rdw_at l i hlt,w64 (n:=(i:Int)+1) (by omega) (by omega)]) ?_
  refine Ev.bind (ref_class L l[i] hL) ?_
  by_cases hc:classF L l[i]<0
  ·rw [dt__ hc,Bool.true_or,if_pos rfl]
   exact eu_ hc (Ev.now _)
  ·refine ea_ hc (eu_ (by omega) ?_)
   have:=ih (i+1) (by omega) (acc ++ [classF L l[i]]) (by rw [List.length_append,List.length_singleton];omega)
   rw [show ((i+1:Nat):Int)=(i:Int)+1 from by omega] at this
   have e2:acc ++ classF L l[i] :: (l.drop (i+1)).map (classF L)=(acc ++ [classF L l[i]]) ++ (l.drop (i+1)).map (classF L):=by rw [List.append_assoc];rfl
   rw [df__ hc,Bool.false_or,e2]
   exact this
theorem word_ev (L:List (List S74))(hL:L.length<=100000)(l:List Int)(hl:l.length<=100000):Ev (fun k=>bb_.f k L l) (eachF (classF L) l):=by
 have:=word_go L hL l hl l.length 0 (by omega) [] (Nat.le_refl _)
 rw [List.drop_zero,List.nil_append] at this
 exact this
theorem chars_go (fs:List Int)(hf:fs.length<=100000)(l:List Int)(hl:l.length<=100000): ∀ d i:Nat,i+d=l.length-> ∀ acc:List Int,acc.length<=i->
  Ev (fun k=>as_.l0 k l acc fs (i:Int)) (if (l.drop i).any (fun x=>decide (charF fs x<0)) then ([],1) else (acc ++ (l.drop i).map (charF fs),0)):=by
 intro d
 induction d with
 | zero=>
  intro i hi acc ha
  rw [List.drop_eq_nil_iff.2 (by omega)]
  show Ev _ (acc ++ [],0)
  rw [List.append_nil]
  exact Ev.step (f:=fun _=>some (acc,0)) (fun k=>by rw [as_.l0,if_neg (by omega)]) (Ev.now _)
 | succ d ih=>
  intro i hi acc ha
  have hlt:i<l.length:=by omega
  rw [List.drop_eq_getElem_cons hlt,List.any_cons,List.map_cons]
  by_cases h0:l[i]<0
  ·have hc:charF fs l[i]<0:=by unfold charF;rw [if_pos h0];decide
   rw [dt__ hc,Bool.true_or,if_pos rfl]
   exact Ev.step (f:=fun _=>some (([]:List Int),1)) (fun k=>by rw [as_.l0,if_pos (by omega),if_pos (by omega),rdw_at l i hlt,if_pos h0]) (Ev.now _)
  ·by_cases h1:l[i] ≥ (fs.length:Int)
   ·have hc:charF fs l[i]<0:=by unfold charF;rw [if_neg h0,if_pos h1];decide
    rw [dt__ hc,Bool.true_or,if_pos rfl]
    exact Ev.step (f:=fun _=>some (([]:List Int),1)) (fun k=>by rw [as_.l0,if_pos (by omega),if_pos (by omega),rdw_at l i hlt,if_neg h0,if_pos h1]) (Ev.now _)
   ·have hv:charF fs l[i]=rd fs l[i]:=by unfold charF;rw [if_neg h0,if_neg h1]
    by_cases hc:rd fs l[i]<0
    ·rw [hv,dt__ hc,Bool.true_or,if_pos rfl]
     exact Ev.step (f:=fun _=>some (([]:List Int),1)) (fun k=>by rw [as_.l0,if_pos (by omega),if_pos (by omega),rdw_at l i hlt,if_neg h0,if_neg h1,if_pos (by omega),if_pos (by omega),if_pos hc]) (Ev.now _)
    ·have:=ih (i+1) (by omega) (acc ++ [rd fs l[i]]) (by rw [List.length_append,List.length_singleton];omega)
     rw [show ((i+1:Nat):Int)=(i:Int)+1 from by omega] at this
     have e2:acc ++ rd fs l[i] :: (l.drop (i+1)).map (charF fs)=(acc ++ [rd fs l[i]]) ++ (l.drop (i+1)).map (charF fs):=by rw [List.append_assoc];rfl
     rw [hv,df__ hc,Bool.false_or,e2]
     refine Ev.step (f:=fun k=>as_.l0 k l (acc ++ [rd fs l[i]]) fs ((i:Int)+1)) (fun k=>by rw [as_.l0,if_pos (by omega),if_pos (by omega),rdw_at l i hlt,if_neg h0,if_neg h1,if_pos (by omega),if_pos (by omega),if_neg hc,if_pos (by omega),w64 (n:=(i:Int)+1) (by omega) (by omega)]) ?_
     exact this
theorem chars_ev (L:List (List S74))(hL:L.length<=100000)(l:List Int)(hl:l.length<=100000):Ev (fun k=>as_.f k L l) (eachF (charF (L.map firstF)) l):=by
 refine Ev.bind (ref_firsts L hL) ?_
 have:=chars_go (L.map firstF) (by rw [List.length_map];exact hL) l hl l.length 0 (by omega) [] (Nat.le_refl _)
 rw [List.drop_zero,List.nil_append] at this
 exact this
theorem each_len (dF:Int->Int)(l:List Int):(eachF dF l).1.length<=l.length:=by
 unfold eachF
 split
 ·simp
 ·simp
theorem signWords_ev (l0:List (List S74))(hs:X.SmallL l0)(l1 l2:List Int):Ev (fun k=>SW.al_.f k l0 l1 l2) true:=by
 have fin:Ev (fun k=>SW.al_.j0 k l0 l1 l2 true) true:=Ev.step (f:=fun _=>some true) (fun k=>by rw [SW.al_.j0,if_pos rfl]) (Ev.now _)
 refine Ev.bind (a:=true) ⟨0,fun _ _=>rfl⟩ (eu_ rfl ?_)
 obtain ⟨b,hb,hsm⟩:=great_ev l0 300 (by omega) hs
 refine Ev.bind hb ?_
 cases b with
 | true=>exact eu_ rfl fin
 | false=>
  refine ea_ (by decide) ?_
  have hl0:=hsm rfl
  by_cases h1:(l1.length:Int)>300
  ·exact eu_ h1 fin
  ·refine ea_ h1 ?_
   by_cases h2:(l2.length:Int)>300
   ·rw [dt__ h2];exact fin
   ·rw [df__ h2]
    refine Ev.step (f:=fun k=>_) (fun k=>by rw [SW.al_.j0,if_neg (by decide)]) ?_
    refine Ev.bind (a:=eachF (classF l0) l1) ⟨0,fun _ _=>by unfold ep_.f;rw [if_pos (by omega)]⟩ ?_
    refine Ev.bind (word_ev l0 (by omega) l1 (by omega)) ?_
    refine Ev.bind (a:=eachF (charF (l0.map firstF)) l2) ⟨0,fun _ _=>by unfold dp_.f;rw [if_pos (by omega)]⟩ ?_
    refine Ev.bind (chars_ev l0 (by omega) l2 (by omega)) ?_
    refine Ev.bind (ints_ev (x:=(eachF (classF l0) l1).1) (y:=(eachF (classF l0) l1).1) (by have:=each_len (classF l0) l1;omega) true ⟨fun _=>rfl,fun _=>rfl⟩) (eu_ rfl (eu_ rfl ?_))
    refine Ev.bind (ints_ev (x:=(eachF (charF (l0.map firstF)) l2).1) (y:=(eachF (charF (l0.map firstF)) l2).1) (by have:=each_len (charF (l0.map firstF)) l2;omega) true ⟨fun _=>rfl,fun _=>rfl⟩) (eu_ rfl ?_)
    rw [beq_self_eq_true]
    exact Ev.now _
end P
namespace L
open A P
theorem SignWords_calls (A0:Option Addr)(c0:Nat)(l0:List (List S74))(A1:Option Addr)(c1:Nat)(l1:List Int)(A2:Option Addr)(c2:Nat)(l2:List Int)(w:World)(hs:X.SmallL l0)(hr0:Kd.C (Kd.slice 74 k74) w A0 l0.length l0)(hc0:l0.length<=c0)(hr1:Kd.C (Kd.int .i64) w A1 l1.length l1)(hc1:l1.length<=c1)(hr2:Kd.C (Kd.int .i64) w A2 l2.length l2)(hc2:l2.length<=c2):
  Calls Tryz.prog 7 #[.slice A0 l0.length c0,.slice A1 l1.length c1,.slice A2 l2.length c2] w fun e w'=>e=.returned (.bool true)∧Below w.heap.size w w':=by
 obtain ⟨k,hk⟩:=(signWords_ev l0 hs l1 l2).rounds
 exact SW.al_.calls k A0 c0 l0 A1 c1 l1 A2 c2 l2 true w hr0 hc0 hr1 hc1 hr2 hc2 hk ⟨rfl⟩
end L
end Go.Proofs.YthfceiincmkccaaGreat
