/- What law SignWords reaches, part 5: words and walks over rows and regions. -/
import Derived.Test.YthfceiincmkccaaGreatZA
import Derived.Test.YthfceiincmkccaaGreatZD
import Derived.Test.YthfceiincmkccaaGreatZC
import Derived.RangeFuncNested
import Derived.RangeFuncBound
import Derived.RangeFuncCalls
import Derived.RangeFuncLeaves
import Derived.Shelf.Abstract
import Derived.Shelf.RegionOpen
import Derived.OwnWalkIn
import Derived.TacticsInMore
import Derived.LoopNIn
import Derived.LoopIn
import Derived.Sort.QuietIn
import Derived.Maps.OwnIn
import Derived.RangeFuncBox
import Derived.Test.YthfceiincmkccaaGreatZB
import Derived.Outline
import Derived.Maps.AppendAt
import Derived.Test.YthfceiincmkccaaGreatProg
import Derived.Below
import Derived.Deep.Draws
import Derived.Deep.AppendLies
import Derived.OwnWalk
import Derived.Laws.BytesArg
import Derived.Laws.MakeOwn
import Derived.Laws.OwnMore
import Derived.Deep.OwnRows
import Derived.Tactics
import Derived.Lib.ConvBytes
import Derived.Laws.Slices
import Derived.WalkKit
import Derived.KernelRfl
import Derived.RowKit3
import Derived.Deep.LoopGhost
import Derived.Deep.QuietTactic
import Derived.BigQuiet
import Derived.WideLaws
import Derived.Deep.DeepCutAuto
import Derived.Deep.CutBlock
import Derived.Deep.RegionHeld3
import Derived.Laws.Rows
import Derived.Lib.AppendStr
import Derived.ArgAppend
import Derived.Laws.IdiomCopy
import Derived.OrdersHeld
import Derived.Laws.BitsLemmas
import Derived.RowKit
set_option linter.unusedVariables false
set_option linter.unusedSimpArgs false
set_option maxHeartbeats 8000000
set_option maxRecDepth 100000
namespace Go.Proofs.YthfceiincmkccaaGreat
theorem errW_none (n:Nat):n+0=n:=rfl
theorem errW_some (n:Nat):n+0=n:=rfl
end Go.Proofs.YthfceiincmkccaaGreat
open Go.RowKit Go.Proofs.YthfceiincmkccaaGreatW.PrintWords Go.Proofs.YthfceiincmkccaaGreatW.PrintLast Go.Proofs.YthfceiincmkccaaGreatW.PrintMore
namespace Go.Proofs.YthfceiincmkccaaGreat
namespace K
open A
attribute [local go_sem] cl_ cj_ cw_ cv_ cd_ cc_ ck_ ci_
mutual
def af_.j1:Nat->List Int->Int->Int->Int->Option (Int × Int × Int)
 | 0,_,_,_,_=>none
 | k+1,x0,x1,x7,x8=>if 0<=x1 then (if x1<(x0.length:Int) then (if (rd x0 x1)=48 then (af_.j2 k x0 x1 x7 x8 (decide (x7>(wrap64 (x1+1))))) else (af_.j2 k x0 x1 x7 x8 false)) else (none)) else (none)
def af_.j2:Nat->List Int->Int->Int->Int->Bool->Option (Int × Int × Int)
 | 0,_,_,_,_,_=>none
 | k+1,x0,x1,x7,x8,x46=>if x46=true then (none) else (if (wrap64 (x7+1))<(x0.length:Int) then (if 0<=x7 then (if x7<(x0.length:Int) then (if (rd x0 x7)=46 then (none) else (af_.j3 k x0 x7 x8 (decide ((wrap64 (x7 - x1))>3)) 0 false)) else (none)) else (none)) else (af_.j3 k x0 x7 x8 (decide ((wrap64 (x7 - x1))>3)) 0 false))
def af_.j3:Nat->List Int->Int->Int->Bool->Int->Bool->Option (Int × Int × Int)
 | 0,_,_,_,_,_,_=>none
 | k+1,x0,x7,x8,x9,x10,x71=>if x71=true then (none) else (if x9=true then (none) else (some (wrap64 ((wrap64 (x8*1000))+x10),x7,0)))
def af_.j5:Nat->Int->Int->Bool->Int->Int->Option (Int × Int × Int)
 | 0,_,_,_,_,_=>none
 | k+1,x7,x8,x9,x10,x11=>if x9=true then (af_.j6 k x7 x8 true x10 x11) else (af_.j6 k x7 x8 (decide ((wrap64 ((wrap64 (x7 - x11)) - 1))>3)) x10 x11)
def af_.j6:Nat->Int->Int->Bool->Int->Int->Option (Int × Int × Int)
 | 0,_,_,_,_,_=>none
 | k+1,x7,x8,x9,x10,x11=>af_.l2 k x7 x8 x9 x10 (wrap64 ((wrap64 (x7 - x11)) - 1))
def af_.l2:Nat->Int->Int->Bool->Int->Int->Option (Int × Int × Int)
 | 0,_,_,_,_,_=>none
 | k+1,x7,x8,x9,x10,x12=>if x12<3 then (af_.l2 k x7 x8 x9 (wrap64 (x10*10)) (wrap64 (x12+1))) else (if x9=true then (some (0,x7,2)) else (some (wrap64 ((wrap64 (x8*1000))+x10),x7,0)))
def af_.l1:Nat->List Int->Int->Int->Bool->Int->Int->Option (Int × Int × Int)
 | 0,_,_,_,_,_,_=>none
 | k+1,x0,x7,x8,x9,x10,x11=>if x7<(x0.length:Int) then (if 0<=x7 then ((bx_.f (rd x0 x7)).bind fun t152=>(if t152=true then (af_.l1 k x0 (wrap64 (x7+1)) x8 x9 (mn 100000 (wrap64 ((wrap64 ((wrap64 (x10*10))+(rd x0 x7))) - 48))) x11) else (af_.j5 k x7 x8 x9 x10 x11))) else (none)) else (af_.j5 k x7 x8 x9 x10 x11)
def af_.l0:Nat->List Int->Int->Int->Int->Option (Int × Int × Int)
 | 0,_,_,_,_=>none
 | k+1,x0,x1,x7,x8=>if x7<(x0.length:Int) then (if 0<=x7 then ((bx_.f (rd x0 x7)).bind fun t145=>(if t145=true then (af_.l0 k x0 x1 (wrap64 (x7+1)) (mn 100000 (wrap64 ((wrap64 ((wrap64 (x8*10))+(rd x0 x7))) - 48)))) else (af_.j1 k x0 x1 x7 x8))) else (none)) else (af_.j1 k x0 x1 x7 x8)
end
def af_.f (k:Nat)(l0:List Int)(a1:Int):Option (Int × Int × Int):=af_.l0 k l0 a1 a1 0
theorem af_.calls (k:Nat)(A0:Option Addr)(c0:Nat)(l0:List Int)(a1:Int)(r1:Int)(r2:Int)(r3:Int)(w:World)(hr0:Kd.C (Kd.int .i64) w A0 l0.length l0)(hc0:l0.length<=c0)(h:af_.f k l0 a1=some (r1,r2,r3)):
  Calls Tryz.prog 164 #[.slice A0 l0.length c0,.int .i64 a1] w fun e w'=>e=.returned (.tuple #[.int .i64 r1,.int .i64 r2,.int .i64 r3])∧Below w.heap.size w w':=by
 have HR0:=Sd.m hr0
 have HC0:=Sd.m hc0
 clear hr0 hc0
 have HB:=Sd.m (Below.refl w.heap.size w)
 have H:(af_.l0 k l0 a1 a1 0)=some (r1,r2,r3):=h
 clear h
 have HC3:=Sd.m H
 clear H
 go_enter Tryz.func164,Tryz.ntmps164
 go_upto_block 0 with (fail)
 go_cut [7,8] (fun v7 v8 wc=> ∃ (kq:Nat) (x7_2:Int) (x8_2:Int),v7=.int .i64 x7_2∧v8=.int .i64 x8_2∧Sd (af_.j1 kq l0 a1 x7_2 x8_2=some (r1,r2,r3))∧Sd (kq<=k)∧Sd (Below w.heap.size w wc))
 case first=>
  have H:=HC3.out
  clear HC3
  have H':=Sd.m H
  clear H
  go_wp2
  go_loopg [7,8] k (fun kq v7 v8 w'=> ∃ (x7_1:Int) (x8_1:Int),v7=.int .i64 x7_1∧v8=.int .i64 x8_1∧Sd (af_.l0 kq l0 a1 x7_1 x8_1=some (r1,r2,r3))∧Sd (kq<=k)∧Sd (Below w.heap.size w w'))
  case atStart=>exact ⟨(a1),(0),ri_,ri_,H',⟨Nat.le_refl _⟩,⟨rb_⟩⟩
  case round=>
   clear H'
   obtain ⟨x7_1,x8_1,rfl,rfl,HA,HK1,HB⟩:=hrel
   cases gk with
   | zero=>exact absurd HA.out (by simp [af_.l0])
   | succ k1=>
    have H:=HA.out
    clear HA
    simp only [af_.l0] at H
    by_cases c4:x7_1<(l0.length:Int)
    ·rw [if_pos c4] at H
     have c4b0:=dt__ c4
     clear c4
     (first | rw [c4b0] | (simp only [ds_,dt_];rw [c4b0]) | skip)
     by_cases c5:0<=x7_1
     ·rw [if_pos c5] at H
      have c5b0:=dt__ c5
      clear c5
      replace H:=Option.bind_eq_some_iff.mp H
      obtain ⟨t145,A60,H⟩:=H
      replace H:(if t145=true then (af_.l0 k1 l0 a1 (wrap64 (x7_1+1)) (mn 100000 (wrap64 ((wrap64 ((wrap64 (x8_1*10))+(rd l0 x7_1))) - 48)))) else (af_.j1 k1 l0 a1 x7_1 x8_1))=some (r1,r2,r3):=H
      have A6:=Sd.m A60
      clear A60
      by_cases c7:t145=true
      ·subst c7
       have H1:(af_.l0 k1 l0 a1 (wrap64 (x7_1+1)) (mn 100000 (wrap64 ((wrap64 ((wrap64 (x8_1*10))+(rd l0 x7_1))) - 48))))=some (r1,r2,r3):=by rw [if_pos rfl] at H;exact H
       clear H
       have H:=H1
       clear H1
       obtain ⟨ji8,hji8⟩: ∃ j_:Int,(mn 100000 (wrap64 ((wrap64 ((wrap64 (x8_1*10))+(rd l0 x7_1))) - 48)))=j_:=⟨_,rfl⟩
       replace H:(af_.l0 k1 l0 a1 (wrap64 (x7_1+1)) ji8)=some (r1,r2,r3):=by first | (rw [hji8] at H;exact H) | (simp only [hji8] at H ⊢;exact H)
       (try rw [hji8] at A6)
       have hji8_:(if (wrap64 ((wrap64 ((wrap64 (x8_1*10))+(rd l0 x7_1))) - 48))<100000 then (wrap64 ((wrap64 ((wrap64 (x8_1*10))+(rd l0 x7_1))) - 48)) else 100000)=ji8:=hji8
       have H':=Sd.m H
       clear H
       obtain ⟨ad144,rfl,hx144_0,p144,q144⟩:=ai_ HR0.out HB.out x7_1
       go_wp2_with (first | (go_at_call 163;(with_reducible refine (bx_.calls (rd l0 x7_1) true _ A6.out).mono ?_);rintro e w' ⟨rfl,⟨nd,rfl⟩⟩;have p146:0<=(x7_1:Int):=od_;have q146:x7_1<(l0.length:Int):=od_;obtain ⟨ad146,e146,hx146_0⟩:=Kd.dc_ HR0.out x7_1 p146 q146;obtain rfl:ad144=ad146:=(by injection e146);replace hx146_0:=(HB.out.cell (bl__ w _ hx146_0)).trans hx146_0;replace p146:=eq_true p146;replace q146:=eq_true q146))
       go_roundg k1
       case measure=>have:=HK1.out;omega
       case rel=>exact ⟨(wrap64 (x7_1+1)),(ji8),ri_,(by first | rfl | (simp;done) | (simp only [←hji8] <;> (first | rfl | simp)) | (simp [*];done)),H',⟨by have:=HK1.out;omega⟩,⟨rb_⟩⟩
      ·replace c7:=Bool.eq_false_iff.mpr c7
       subst c7
       have H1:(af_.j1 k1 l0 a1 x7_1 x8_1)=some (r1,r2,r3):=by rw [if_neg (show ¬ (false=true) by decide)] at H;exact H
       clear H
       have H:=H1
       clear H1
       have H':=Sd.m H
       clear H
       obtain ⟨ad144,rfl,hx144_0,p144,q144⟩:=ai_ HR0.out HB.out x7_1
       go_wp2_with (first | (go_at_call 163;(with_reducible refine (bx_.calls (rd l0 x7_1) false _ A6.out).mono ?_);rintro e w' ⟨rfl,⟨nd,rfl⟩⟩))
       go_meet
       case rel=>exact ⟨_,(x7_1),(x8_1),ri_,ri_,H',⟨by have:=HK1.out;first | omega | exact Nat.le_refl _⟩,⟨rb_⟩⟩
     ·rw [if_neg c5] at H
      exact absurd H (by simp)
    ·rw [if_neg c4] at H
     have c4b0:=df__ c4
     clear c4
     (first | rw [c4b0] | (simp only [ds_,dt_];rw [c4b0]) | skip)
     have H':=Sd.m H
     clear H
     go_wp2
     go_meet
     case rel=>exact ⟨_,(x7_1),(x8_1),ri_,ri_,H',⟨by have:=HK1.out;first | omega | exact Nat.le_refl _⟩,⟨rb_⟩⟩
 case rest=>
  clear HC3
  obtain ⟨kq,x7_2,x8_2,rfl,rfl,HA,HJ2,HB⟩:=hcut
  cases kq with
  | zero=>exact absurd HA.out (by simp [af_.j1])
  | succ kj2=>
   have H:=HA.out
   clear HA
   simp only [af_.j1] at H
   have HC9:=Sd.m H
   clear H
   go_upto_region 6 with (fail)
   go_cut [46] (fun v46 wc=> ∃ (kq:Nat) (x46_8:Bool),v46=.bool x46_8∧Sd (af_.j2 kq l0 a1 x7_2 x8_2 x46_8=some (r1,r2,r3))∧Sd (kq<=kj2)∧Sd (Below w.heap.size w wc))
   case first=>
    have H:=HC9.out
    clear HC9
    by_cases c10:0<=a1
    ·rw [if_pos c10] at H
     have c10b0:=dt__ c10
     clear c10
     (first | rw [c10b0] | (simp only [ds_,dt_];rw [c10b0]) | skip)
     by_cases c11:a1<(l0.length:Int)
     ·rw [if_pos c11] at H
      have c11b0:=dt__ c11
      clear c11
      by_cases c12:(rd l0 a1)=48
      ·rw [if_pos c12] at H
       have c12b0:((rd l0 a1) == 48)=true:=beq_iff_eq.mpr c12
       have c12b1:((rd l0 a1) != 48)=false:=bne_eq_false_iff_eq.mpr c12
       clear c12
       have H':=Sd.m H
       clear H
       obtain ⟨ad147,rfl,hx147_0,p147,q147⟩:=ai_ HR0.out HB.out a1
       go_wp2
       go_meet
       case rel=>exact ⟨_,(decide (x7_2>(wrap64 (a1+1)))),ri_,H',⟨by have:=HJ2.out;first | omega | exact Nat.le_refl _⟩,⟨rb_⟩⟩
      ·rw [if_neg c12] at H
       have c12b0:((rd l0 a1) == 48)=false:=beq_eq_false_iff_ne.mpr c12
       have c12b1:((rd l0 a1) != 48)=true:=bne_iff_ne.mpr c12
       have H':=Sd.m H
       clear H
       obtain ⟨ad147,rfl,hx147_0,p147,q147⟩:=ai_ HR0.out HB.out a1
       go_wp2
       go_meet
       case rel=>exact ⟨_,(false),ri_,H',⟨by have:=HJ2.out;first | omega | exact Nat.le_refl _⟩,⟨rb_⟩⟩
     ·rw [if_neg c11] at H
      exact absurd H (by simp)
    ·rw [if_neg c10] at H
     exact absurd H (by simp)
   case rest=>
    clear HC9
    obtain ⟨kq,x46_8,rfl,HA,HJ8,HB⟩:=hcut
    cases kq with
    | zero=>exact absurd HA.out (by simp [af_.j2])
    | succ kj8=>
     have H:=HA.out
     clear HA
     simp only [af_.j2] at H
     by_cases c13:x46_8=true
     ·rw [if_pos c13] at H
      exact absurd H (by simp)
     ·replace c13:=Bool.eq_false_iff.mpr c13
      subst c13
      have H1:(if (wrap64 (x7_2+1))<(l0.length:Int) then (if 0<=x7_2 then (if x7_2<(l0.length:Int) then (if (rd l0 x7_2)=46 then (none) else (af_.j3 kj8 l0 x7_2 x8_2 (decide ((wrap64 (x7_2 - a1))>3)) 0 false)) else (none)) else (none)) else (af_.j3 kj8 l0 x7_2 x8_2 (decide ((wrap64 (x7_2 - a1))>3)) 0 false))=some (r1,r2,r3):=by rw [if_neg (show ¬ (false=true) by decide)] at H;exact H
      clear H
      have H:=H1
      clear H1
      have HC14:=Sd.m H
      clear H
      go_upto_region 10 with (fail)
      go_cut [71] (fun v71 wc=> ∃ (kq:Nat) (x71_13:Bool),v71=.bool x71_13∧Sd (af_.j3 kq l0 x7_2 x8_2 (decide ((wrap64 (x7_2 - a1))>3)) 0 x71_13=some (r1,r2,r3))∧Sd (kq<=kj8)∧Sd (Below w.heap.size w wc))
      case first=>
       have H:=HC14.out
       clear HC14
       by_cases c15:(wrap64 (x7_2+1))<(l0.length:Int)
       ·rw [if_pos c15] at H
        have c15b0:=dt__ c15
        clear c15
        (first | rw [c15b0] | (simp only [ds_,dt_];rw [c15b0]) | skip)
        by_cases c16:0<=x7_2
        ·rw [if_pos c16] at H
         have c16b0:=dt__ c16
         clear c16
         by_cases c17:x7_2<(l0.length:Int)
         ·rw [if_pos c17] at H
          have c17b0:=dt__ c17
          clear c17
          by_cases c18:(rd l0 x7_2)=46
          ·rw [if_pos c18] at H
           exact absurd H (by simp)
          ·rw [if_neg c18] at H
           have c18b0:((rd l0 x7_2) == 46)=false:=beq_eq_false_iff_ne.mpr c18
           have c18b1:((rd l0 x7_2) != 46)=true:=bne_iff_ne.mpr c18
           have H':=Sd.m H
           clear H
           obtain ⟨ad148,rfl,hx148_0,p148,q148⟩:=ai_ HR0.out HB.out x7_2
           go_wp2
           go_meet
           case rel=>exact ⟨_,(false),ri_,H',⟨by have:=HJ2.out;have:=HJ8.out;first | omega | exact Nat.le_refl _⟩,⟨rb_⟩⟩
         ·rw [if_neg c17] at H
          exact absurd H (by simp)
        ·rw [if_neg c16] at H
         exact absurd H (by simp)
       ·rw [if_neg c15] at H
        have c15b0:=df__ c15
        clear c15
        (first | rw [c15b0] | (simp only [ds_,dt_];rw [c15b0]) | skip)
        have H':=Sd.m H
        clear H
        go_wp2
        go_meet
        case rel=>exact ⟨_,(false),ri_,H',⟨by have:=HJ2.out;have:=HJ8.out;first | omega | exact Nat.le_refl _⟩,⟨rb_⟩⟩
      case rest=>
       clear HC14
       obtain ⟨kq,x71_13,rfl,HA,HJ13,HB⟩:=hcut
       cases kq with
       | zero=>exact absurd HA.out (by simp [af_.j3])
       | succ kj13=>
        have H:=HA.out
        clear HA
        simp only [af_.j3] at H
        by_cases c22:x71_13=true
        ·rw [if_pos c22] at H
         exact absurd H (by simp)
        ·replace c22:=Bool.eq_false_iff.mpr c22
         subst c22
         have H1:(if (decide ((wrap64 (x7_2 - a1))>3))=true then (none) else (some (wrap64 ((wrap64 (x8_2*1000))+0),x7_2,0)))=some (r1,r2,r3):=by rw [if_neg (show ¬ (false=true) by decide)] at H;exact H
         clear H
         have H:=H1
         clear H1
         by_cases c33:(decide ((wrap64 (x7_2 - a1))>3))=true
         ·rw [if_pos c33] at H
          exact absurd H (by simp)
         ·rw [if_neg c33] at H
          have c33b0:(decide ((wrap64 (x7_2 - a1))>3))=false:=by simpa using c33
          clear c33
          simp only [Option.some.injEq,Prod.mk.injEq] at H
          obtain ⟨rfl,rfl,rfl⟩:=H
          go_wp2
          all_goals (try (exfalso;have q_:=of_decide_eq_false c33b0;omega))
          go_ret3
          exact ⟨re_,rb_⟩
end K
namespace LX
open Shelf YthfceiincmkccaaGreatW.PrintWords.Kd A K
theorem step_is (w0 W:World)(g:Nat)(Al:Option Addr)(cl:Nat)(l:List Int)(Ap:Option Addr)(cp:Nat)(p:List Int)(i deep:Int)(out:List S159)(h:LexAt w0 W g Al cl l Ap cp p i deep out)
  (hl:Kd.C (Kd.int .i64) w0 Al l.length l) (hcl:l.length<=cl) (hp:Kd.C (Kd.int .i64) w0 Ap p.length p) (hpl:p.length<=1000000) (hol:out.length<=1000000) (hi0:0<=i) (hi1:i<l.length) (hi2:i<p.length) (hll:l.length<=1000000)
  (hc:rd l i=61):
  Calls Tryz.prog 123 #[.pointer (some ⟨g,0,none⟩)] W fun e W1=>e=.returned (.tuple #[])∧LexAt w0 W1 g Al cl l Ap cp p (i+1) deep (out ++ [⟨3,⟨#[]⟩,0,0,rd p i⟩]):=by
 have c2:=h.c2
 have c0:=h.c0
 obtain ⟨ad,rfl,hcell⟩:=at_l hl h.B i hi0 hi1
 have d0:decide ((0:Int)<=i)=true:=dt__ hi0
 have d1:decide (i<(l.length:Int))=true:=dt__ hi1
 have w2:IntKind.i64.wrap (i+1)=i+1:=IntWalk.i64_in _ (by omega)
 obtain ⟨x,hx⟩: ∃ x,x=rd l i:=⟨_,rfl⟩
 rw [←hx] at hcell
 have e61:((61:Int) == x)=true:=by rw [hx,hc];decide
 have HB:Sd (∀ n,LexAt w0 ((W.drewN n).alloc (.cells #[.int .i64 61,.int .i64 215,.int .i64 247,.int .i64 40,.int .i64 41,.int .i64 124,.int .i64 42,.int .i64 43,.int .i64 63,.int .i64 46] 3)) g (some ad) cl l Ap cp p i deep out):=⟨fun n=>(h.below (ad_ (Below.refl W.heap.size W) n)).below (ab_ (Below.refl _ _) _)⟩
 have HCL:Sd (∀ (n k:Nat) (v:Value),( #[.int .i64 61,.int .i64 215,.int .i64 247,.int .i64 40,.int .i64 41,.int .i64 124,.int .i64 42,.int .i64 43,.int .i64 63,.int .i64 46]:Array Value)[k]? =some v->((W.drewN n).alloc (.cells #[.int .i64 61,.int .i64 215,.int .i64 247,.int .i64 40,.int .i64 41,.int .i64 124,.int .i64 42,.int .i64 43,.int .i64 63,.int .i64 46] 3)).cell? ⟨W.heap.size,k,none⟩=some v):=⟨fun n k v hv=>(ae_ (aj_ (W.drewN n) _) k).trans hv⟩
 have HL:=Sd.m hl
 have HP:=Sd.m hp
 have HX:=Sd.m hx
 clear h hl hp hx hc
 go_enter Tryz.func123,Tryz.ntmps123
 go_wp2_with fail
 go_quiet (fail)
 go_wp2_with fail
 go_loop [5] (fun t=>t=.int .i64 0) (fun t=>(10 - intOf t).toNat)
 case atStart=>simp
 case round=>
  rcases hrel with rfl
  ·clear c2 c0 hcell
   have pk:=HCL.out nq 0 _ rfl
   have hLn:=HB.out
   clear hLn
   go_wp2_with fail
   refine (db_ w0 _ g _ cl l Ap cp p i deep out (HB.out _) HP.out hpl hol 3 ⟨#[]⟩ 0 0 0 i hi0 hi2).mono ?_
   rintro e W2 ⟨rfl,hL2⟩
   have c2:=hL2.c2
   have f2:=hL2.fr 2
   have HL2:=Sd.m (hL2.ge_ (i+1))
   clear hL2
   go_wp2_with fail
   refine bodyPost_ret (results_none rfl _ _ _) rfl ?_
   exact ⟨rfl,HL2.out⟩
theorem step_stay (w0 W:World)(g:Nat)(Al:Option Addr)(cl:Nat)(l:List Int)(Ap:Option Addr)(cp:Nat)(p:List Int)(i deep:Int)(out:List S159)(h:LexAt w0 W g Al cl l Ap cp p i deep out)
  (hl:Kd.C (Kd.int .i64) w0 Al l.length l) (hcl:l.length<=cl) (hp:Kd.C (Kd.int .i64) w0 Ap p.length p) (hpl:p.length<=1000000) (hol:out.length<=1000000) (hi0:0<=i) (hi1:i<l.length) (hi2:i<p.length) (hll:l.length<=1000000)
  (hc:rd l i=215):
  Calls Tryz.prog 123 #[.pointer (some ⟨g,0,none⟩)] W fun e W1=>e=.returned (.tuple #[])∧LexAt w0 W1 g Al cl l Ap cp p (i+1) deep (out ++ [⟨4,⟨#[]⟩,0,0,rd p i⟩]):=by
 have c2:=h.c2
 have c0:=h.c0
 obtain ⟨ad,rfl,hcell⟩:=at_l hl h.B i hi0 hi1
 have d0:decide ((0:Int)<=i)=true:=dt__ hi0
 have d1:decide (i<(l.length:Int))=true:=dt__ hi1
 have w2:IntKind.i64.wrap (i+1)=i+1:=IntWalk.i64_in _ (by omega)
 obtain ⟨x,hx⟩: ∃ x,x=rd l i:=⟨_,rfl⟩
 rw [←hx] at hcell
 have e61:((61:Int) == x)=false:=by rw [hx,hc];decide
 have e215:((215:Int) == x)=true:=by rw [hx,hc];decide
 have HB:Sd (∀ n,LexAt w0 ((W.drewN n).alloc (.cells #[.int .i64 61,.int .i64 215,.int .i64 247,.int .i64 40,.int .i64 41,.int .i64 124,.int .i64 42,.int .i64 43,.int .i64 63,.int .i64 46] 3)) g (some ad) cl l Ap cp p i deep out):=⟨fun n=>(h.below (ad_ (Below.refl W.heap.size W) n)).below (ab_ (Below.refl _ _) _)⟩
 have HCL:Sd (∀ (n k:Nat) (v:Value),( #[.int .i64 61,.int .i64 215,.int .i64 247,.int .i64 40,.int .i64 41,.int .i64 124,.int .i64 42,.int .i64 43,.int .i64 63,.int .i64 46]:Array Value)[k]? =some v->((W.drewN n).alloc (.cells #[.int .i64 61,.int .i64 215,.int .i64 247,.int .i64 40,.int .i64 41,.int .i64 124,.int .i64 42,.int .i64 43,.int .i64 63,.int .i64 46] 3)).cell? ⟨W.heap.size,k,none⟩=some v):=⟨fun n k v hv=>(ae_ (aj_ (W.drewN n) _) k).trans hv⟩
 have HL:=Sd.m hl
 have HP:=Sd.m hp
 have HX:=Sd.m hx
 clear h hl hp hx hc
 go_enter Tryz.func123,Tryz.ntmps123
 go_wp2_with fail
 go_quiet (fail)
 go_wp2_with fail
 go_loop [5] (fun t=>t=.int .i64 0∨t=.int .i64 1) (fun t=>(10 - intOf t).toNat)
 case atStart=>simp
 case round=>
  rcases hrel with rfl | rfl
  ·clear c2 c0 hcell
   have pk:=HCL.out nq 0 _ rfl
   go_wp2_with fail
   go_round
   case rel=>simp
   case measure=>simp [intOf]
  ·clear c2 c0 hcell
   have pk:=HCL.out nq 1 _ rfl
   have hLn:=HB.out
   clear hLn
   go_wp2_with fail
   refine (db_ w0 _ g _ cl l Ap cp p i deep out (HB.out _) HP.out hpl hol 4 ⟨#[]⟩ 0 0 0 i hi0 hi2).mono ?_
   rintro e W2 ⟨rfl,hL2⟩
   have c2:=hL2.c2
   have f2:=hL2.fr 2
   have HL2:=Sd.m (hL2.ge_ (i+1))
   clear hL2
   go_wp2_with fail
   refine bodyPost_ret (results_none rfl _ _ _) rfl ?_
   exact ⟨rfl,HL2.out⟩
theorem step_cut (w0 W:World)(g:Nat)(Al:Option Addr)(cl:Nat)(l:List Int)(Ap:Option Addr)(cp:Nat)(p:List Int)(i deep:Int)(out:List S159)(h:LexAt w0 W g Al cl l Ap cp p i deep out)
  (hl:Kd.C (Kd.int .i64) w0 Al l.length l) (hcl:l.length<=cl) (hp:Kd.C (Kd.int .i64) w0 Ap p.length p) (hpl:p.length<=1000000) (hol:out.length<=1000000) (hi0:0<=i) (hi1:i<l.length) (hi2:i<p.length) (hll:l.length<=1000000)
  (hc:rd l i=247):
  Calls Tryz.prog 123 #[.pointer (some ⟨g,0,none⟩)] W fun e W1=>e=.returned (.tuple #[])∧LexAt w0 W1 g Al cl l Ap cp p (i+1) deep (out ++ [⟨5,⟨#[]⟩,0,0,rd p i⟩]):=by
 have c2:=h.c2
 have c0:=h.c0
 obtain ⟨ad,rfl,hcell⟩:=at_l hl h.B i hi0 hi1
 have d0:decide ((0:Int)<=i)=true:=dt__ hi0
 have d1:decide (i<(l.length:Int))=true:=dt__ hi1
 have w2:IntKind.i64.wrap (i+1)=i+1:=IntWalk.i64_in _ (by omega)
 obtain ⟨x,hx⟩: ∃ x,x=rd l i:=⟨_,rfl⟩
 rw [←hx] at hcell
 have e61:((61:Int) == x)=false:=by rw [hx,hc];decide
 have e215:((215:Int) == x)=false:=by rw [hx,hc];decide
 have e247:((247:Int) == x)=true:=by rw [hx,hc];decide
 have HB:Sd (∀ n,LexAt w0 ((W.drewN n).alloc (.cells #[.int .i64 61,.int .i64 215,.int .i64 247,.int .i64 40,.int .i64 41,.int .i64 124,.int .i64 42,.int .i64 43,.int .i64 63,.int .i64 46] 3)) g (some ad) cl l Ap cp p i deep out):=⟨fun n=>(h.below (ad_ (Below.refl W.heap.size W) n)).below (ab_ (Below.refl _ _) _)⟩
 have HCL:Sd (∀ (n k:Nat) (v:Value),( #[.int .i64 61,.int .i64 215,.int .i64 247,.int .i64 40,.int .i64 41,.int .i64 124,.int .i64 42,.int .i64 43,.int .i64 63,.int .i64 46]:Array Value)[k]? =some v->((W.drewN n).alloc (.cells #[.int .i64 61,.int .i64 215,.int .i64 247,.int .i64 40,.int .i64 41,.int .i64 124,.int .i64 42,.int .i64 43,.int .i64 63,.int .i64 46] 3)).cell? ⟨W.heap.size,k,none⟩=some v):=⟨fun n k v hv=>(ae_ (aj_ (W.drewN n) _) k).trans hv⟩
 have HL:=Sd.m hl
 have HP:=Sd.m hp
 have HX:=Sd.m hx
 clear h hl hp hx hc
 go_enter Tryz.func123,Tryz.ntmps123
 go_wp2_with fail
 go_quiet (fail)
 go_wp2_with fail
 go_loop [5] (fun t=>t=.int .i64 0∨t=.int .i64 1∨t=.int .i64 2) (fun t=>(10 - intOf t).toNat)
 case atStart=>simp
 case round=>
  rcases hrel with rfl | rfl | rfl
  ·clear c2 c0 hcell
   have pk:=HCL.out nq 0 _ rfl
   go_wp2_with fail
   go_round
   case rel=>simp
   case measure=>simp [intOf]
  ·clear c2 c0 hcell
   have pk:=HCL.out nq 1 _ rfl
   go_wp2_with fail
   go_round
   case rel=>simp
   case measure=>simp [intOf]
  ·clear c2 c0 hcell
   have pk:=HCL.out nq 2 _ rfl
   have hLn:=HB.out
   clear hLn
   go_wp2_with fail
   refine (db_ w0 _ g _ cl l Ap cp p i deep out (HB.out _) HP.out hpl hol 5 ⟨#[]⟩ 0 0 0 i hi0 hi2).mono ?_
   rintro e W2 ⟨rfl,hL2⟩
   have c2:=hL2.c2
   have f2:=hL2.fr 2
   have HL2:=Sd.m (hL2.ge_ (i+1))
   clear hL2
   go_wp2_with fail
   refine bodyPost_ret (results_none rfl _ _ _) rfl ?_
   exact ⟨rfl,HL2.out⟩
theorem step_or (w0 W:World)(g:Nat)(Al:Option Addr)(cl:Nat)(l:List Int)(Ap:Option Addr)(cp:Nat)(p:List Int)(i deep:Int)(out:List S159)(h:LexAt w0 W g Al cl l Ap cp p i deep out)
  (hl:Kd.C (Kd.int .i64) w0 Al l.length l) (hcl:l.length<=cl) (hp:Kd.C (Kd.int .i64) w0 Ap p.length p) (hpl:p.length<=1000000) (hol:out.length<=1000000) (hi0:0<=i) (hi1:i<l.length) (hi2:i<p.length) (hll:l.length<=1000000)
  (hc:rd l i=124):
  Calls Tryz.prog 123 #[.pointer (some ⟨g,0,none⟩)] W fun e W1=>e=.returned (.tuple #[])∧LexAt w0 W1 g Al cl l Ap cp p (i+1) deep (out ++ [⟨8,⟨#[]⟩,0,0,rd p i⟩]):=by
 have c2:=h.c2
 have c0:=h.c0
 obtain ⟨ad,rfl,hcell⟩:=at_l hl h.B i hi0 hi1
 have d0:decide ((0:Int)<=i)=true:=dt__ hi0
 have d1:decide (i<(l.length:Int))=true:=dt__ hi1
 have w2:IntKind.i64.wrap (i+1)=i+1:=IntWalk.i64_in _ (by omega)
 obtain ⟨x,hx⟩: ∃ x,x=rd l i:=⟨_,rfl⟩
 rw [←hx] at hcell
 have e61:((61:Int) == x)=false:=by rw [hx,hc];decide
 have e215:((215:Int) == x)=false:=by rw [hx,hc];decide
 have e247:((247:Int) == x)=false:=by rw [hx,hc];decide
 have e40:((40:Int) == x)=false:=by rw [hx,hc];decide
 have e41:((41:Int) == x)=false:=by rw [hx,hc];decide
 have e124:((124:Int) == x)=true:=by rw [hx,hc];decide
 have HB:Sd (∀ n,LexAt w0 ((W.drewN n).alloc (.cells #[.int .i64 61,.int .i64 215,.int .i64 247,.int .i64 40,.int .i64 41,.int .i64 124,.int .i64 42,.int .i64 43,.int .i64 63,.int .i64 46] 3)) g (some ad) cl l Ap cp p i deep out):=⟨fun n=>(h.below (ad_ (Below.refl W.heap.size W) n)).below (ab_ (Below.refl _ _) _)⟩
 have HCL:Sd (∀ (n k:Nat) (v:Value),( #[.int .i64 61,.int .i64 215,.int .i64 247,.int .i64 40,.int .i64 41,.int .i64 124,.int .i64 42,.int .i64 43,.int .i64 63,.int .i64 46]:Array Value)[k]? =some v->((W.drewN n).alloc (.cells #[.int .i64 61,.int .i64 215,.int .i64 247,.int .i64 40,.int .i64 41,.int .i64 124,.int .i64 42,.int .i64 43,.int .i64 63,.int .i64 46] 3)).cell? ⟨W.heap.size,k,none⟩=some v):=⟨fun n k v hv=>(ae_ (aj_ (W.drewN n) _) k).trans hv⟩
 have HL:=Sd.m hl
 have HP:=Sd.m hp
 have HX:=Sd.m hx
 clear h hl hp hx hc
 go_enter Tryz.func123,Tryz.ntmps123
 go_wp2_with fail
 go_quiet (fail)
 go_wp2_with fail
 go_loop [5] (fun t=>t=.int .i64 0∨t=.int .i64 1∨t=.int .i64 2∨t=.int .i64 3∨t=.int .i64 4∨t=.int .i64 5) (fun t=>(10 - intOf t).toNat)
 case atStart=>simp
 case round=>
  rcases hrel with rfl | rfl | rfl | rfl | rfl | rfl
  ·clear c2 c0 hcell
   have pk:=HCL.out nq 0 _ rfl
   go_wp2_with fail
   go_round
   case rel=>simp
   case measure=>simp [intOf]
  ·clear c2 c0 hcell
   have pk:=HCL.out nq 1 _ rfl
   go_wp2_with fail
   go_round
   case rel=>simp
   case measure=>simp [intOf]
  ·clear c2 c0 hcell
   have pk:=HCL.out nq 2 _ rfl
   go_wp2_with fail
   go_round
   case rel=>simp
   case measure=>simp [intOf]
  ·clear c2 c0 hcell
   have pk:=HCL.out nq 3 _ rfl
   go_wp2_with fail
   go_round
   case rel=>simp
   case measure=>simp [intOf]
  ·clear c2 c0 hcell
   have pk:=HCL.out nq 4 _ rfl
   go_wp2_with fail
   go_round
   case rel=>simp
   case measure=>simp [intOf]
  ·clear c2 c0 hcell
   have pk:=HCL.out nq 5 _ rfl
   have hLn:=HB.out
   clear hLn
   go_wp2_with fail
   refine (db_ w0 _ g _ cl l Ap cp p i deep out (HB.out _) HP.out hpl hol 8 ⟨#[]⟩ 0 0 0 i hi0 hi2).mono ?_
   rintro e W2 ⟨rfl,hL2⟩
   have c2:=hL2.c2
   have f2:=hL2.fr 2
   have HL2:=Sd.m (hL2.ge_ (i+1))
   clear hL2
   go_wp2_with fail
   refine bodyPost_ret (results_none rfl _ _ _) rfl ?_
   exact ⟨rfl,HL2.out⟩
theorem step_star (w0 W:World)(g:Nat)(Al:Option Addr)(cl:Nat)(l:List Int)(Ap:Option Addr)(cp:Nat)(p:List Int)(i deep:Int)(out:List S159)(h:LexAt w0 W g Al cl l Ap cp p i deep out)
  (hl:Kd.C (Kd.int .i64) w0 Al l.length l) (hcl:l.length<=cl) (hp:Kd.C (Kd.int .i64) w0 Ap p.length p) (hpl:p.length<=1000000) (hol:out.length<=1000000) (hi0:0<=i) (hi1:i<l.length) (hi2:i<p.length) (hll:l.length<=1000000)
  (hc:rd l i=42):
  Calls Tryz.prog 123 #[.pointer (some ⟨g,0,none⟩)] W fun e W1=>e=.returned (.tuple #[])∧LexAt w0 W1 g Al cl l Ap cp p (i+1) deep (out ++ [⟨9,⟨#[]⟩,0,0,rd p i⟩]):=by
 have c2:=h.c2
 have c0:=h.c0
 obtain ⟨ad,rfl,hcell⟩:=at_l hl h.B i hi0 hi1
 have d0:decide ((0:Int)<=i)=true:=dt__ hi0
 have d1:decide (i<(l.length:Int))=true:=dt__ hi1
 have w2:IntKind.i64.wrap (i+1)=i+1:=IntWalk.i64_in _ (by omega)
 obtain ⟨x,hx⟩: ∃ x,x=rd l i:=⟨_,rfl⟩
 rw [←hx] at hcell
 have e61:((61:Int) == x)=false:=by rw [hx,hc];decide
 have e215:((215:Int) == x)=false:=by rw [hx,hc];decide
 have e247:((247:Int) == x)=false:=by rw [hx,hc];decide
 have e40:((40:Int) == x)=false:=by rw [hx,hc];decide
 have e41:((41:Int) == x)=false:=by rw [hx,hc];decide
 have e124:((124:Int) == x)=false:=by rw [hx,hc];decide
 have e42:((42:Int) == x)=true:=by rw [hx,hc];decide
 have HB:Sd (∀ n,LexAt w0 ((W.drewN n).alloc (.cells #[.int .i64 61,.int .i64 215,.int .i64 247,.int .i64 40,.int .i64 41,.int .i64 124,.int .i64 42,.int .i64 43,.int .i64 63,.int .i64 46] 3)) g (some ad) cl l Ap cp p i deep out):=⟨fun n=>(h.below (ad_ (Below.refl W.heap.size W) n)).below (ab_ (Below.refl _ _) _)⟩
 have HCL:Sd (∀ (n k:Nat) (v:Value),( #[.int .i64 61,.int .i64 215,.int .i64 247,.int .i64 40,.int .i64 41,.int .i64 124,.int .i64 42,.int .i64 43,.int .i64 63,.int .i64 46]:Array Value)[k]? =some v->((W.drewN n).alloc (.cells #[.int .i64 61,.int .i64 215,.int .i64 247,.int .i64 40,.int .i64 41,.int .i64 124,.int .i64 42,.int .i64 43,.int .i64 63,.int .i64 46] 3)).cell? ⟨W.heap.size,k,none⟩=some v):=⟨fun n k v hv=>(ae_ (aj_ (W.drewN n) _) k).trans hv⟩
 have HL:=Sd.m hl
 have HP:=Sd.m hp
 have HX:=Sd.m hx
 clear h hl hp hx hc
 go_enter Tryz.func123,Tryz.ntmps123
 go_wp2_with fail
 go_quiet (fail)
 go_wp2_with fail
 go_loop [5] (fun t=>t=.int .i64 0∨t=.int .i64 1∨t=.int .i64 2∨t=.int .i64 3∨t=.int .i64 4∨t=.int .i64 5∨t=.int .i64 6) (fun t=>(10 - intOf t).toNat)
 case atStart=>simp
 case round=>
  rcases hrel with rfl | rfl | rfl | rfl | rfl | rfl | rfl
  ·clear c2 c0 hcell
   have pk:=HCL.out nq 0 _ rfl
   go_wp2_with fail
   go_round
   case rel=>simp
   case measure=>simp [intOf]
  ·clear c2 c0 hcell
   have pk:=HCL.out nq 1 _ rfl
   go_wp2_with fail
   go_round
   case rel=>simp
   case measure=>simp [intOf]
  ·clear c2 c0 hcell
   have pk:=HCL.out nq 2 _ rfl
   go_wp2_with fail
   go_round
   case rel=>simp
   case measure=>simp [intOf]
  ·clear c2 c0 hcell
   have pk:=HCL.out nq 3 _ rfl
   go_wp2_with fail
   go_round
   case rel=>simp
   case measure=>simp [intOf]
  ·clear c2 c0 hcell
   have pk:=HCL.out nq 4 _ rfl
   go_wp2_with fail
   go_round
   case rel=>simp
   case measure=>simp [intOf]
  ·clear c2 c0 hcell
   have pk:=HCL.out nq 5 _ rfl
   go_wp2_with fail
   go_round
   case rel=>simp
   case measure=>simp [intOf]
  ·clear c2 c0 hcell
   have pk:=HCL.out nq 6 _ rfl
   have hLn:=HB.out
   clear hLn
   go_wp2_with fail
   refine (db_ w0 _ g _ cl l Ap cp p i deep out (HB.out _) HP.out hpl hol 9 ⟨#[]⟩ 0 0 0 i hi0 hi2).mono ?_
   rintro e W2 ⟨rfl,hL2⟩
   have c2:=hL2.c2
   have f2:=hL2.fr 2
   have HL2:=Sd.m (hL2.ge_ (i+1))
   clear hL2
   go_wp2_with fail
   refine bodyPost_ret (results_none rfl _ _ _) rfl ?_
   exact ⟨rfl,HL2.out⟩
theorem step_any (w0 W:World)(g:Nat)(Al:Option Addr)(cl:Nat)(l:List Int)(Ap:Option Addr)(cp:Nat)(p:List Int)(i deep:Int)(out:List S159)(h:LexAt w0 W g Al cl l Ap cp p i deep out)
  (hl:Kd.C (Kd.int .i64) w0 Al l.length l) (hcl:l.length<=cl) (hp:Kd.C (Kd.int .i64) w0 Ap p.length p) (hpl:p.length<=1000000) (hol:out.length<=1000000) (hi0:0<=i) (hi1:i<l.length) (hi2:i<p.length) (hll:l.length<=1000000)
  (hc:rd l i=46):
  Calls Tryz.prog 123 #[.pointer (some ⟨g,0,none⟩)] W fun e W1=>e=.returned (.tuple #[])∧LexAt w0 W1 g Al cl l Ap cp p (i+1) deep (out ++ [⟨12,⟨#[]⟩,0,0,rd p i⟩]):=by
 have c2:=h.c2
 have c0:=h.c0
 obtain ⟨ad,rfl,hcell⟩:=at_l hl h.B i hi0 hi1
 have d0:decide ((0:Int)<=i)=true:=dt__ hi0
 have d1:decide (i<(l.length:Int))=true:=dt__ hi1
 have w2:IntKind.i64.wrap (i+1)=i+1:=IntWalk.i64_in _ (by omega)
 obtain ⟨x,hx⟩: ∃ x,x=rd l i:=⟨_,rfl⟩
 rw [←hx] at hcell
 have e61:((61:Int) == x)=false:=by rw [hx,hc];decide
 have e215:((215:Int) == x)=false:=by rw [hx,hc];decide
 have e247:((247:Int) == x)=false:=by rw [hx,hc];decide
 have e40:((40:Int) == x)=false:=by rw [hx,hc];decide
 have e41:((41:Int) == x)=false:=by rw [hx,hc];decide
 have e124:((124:Int) == x)=false:=by rw [hx,hc];decide
 have e42:((42:Int) == x)=false:=by rw [hx,hc];decide
 have e43:((43:Int) == x)=false:=by rw [hx,hc];decide
 have e63:((63:Int) == x)=false:=by rw [hx,hc];decide
 have e46:((46:Int) == x)=true:=by rw [hx,hc];decide
 have HB:Sd (∀ n,LexAt w0 ((W.drewN n).alloc (.cells #[.int .i64 61,.int .i64 215,.int .i64 247,.int .i64 40,.int .i64 41,.int .i64 124,.int .i64 42,.int .i64 43,.int .i64 63,.int .i64 46] 3)) g (some ad) cl l Ap cp p i deep out):=⟨fun n=>(h.below (ad_ (Below.refl W.heap.size W) n)).below (ab_ (Below.refl _ _) _)⟩
 have HCL:Sd (∀ (n k:Nat) (v:Value),( #[.int .i64 61,.int .i64 215,.int .i64 247,.int .i64 40,.int .i64 41,.int .i64 124,.int .i64 42,.int .i64 43,.int .i64 63,.int .i64 46]:Array Value)[k]? =some v->((W.drewN n).alloc (.cells #[.int .i64 61,.int .i64 215,.int .i64 247,.int .i64 40,.int .i64 41,.int .i64 124,.int .i64 42,.int .i64 43,.int .i64 63,.int .i64 46] 3)).cell? ⟨W.heap.size,k,none⟩=some v):=⟨fun n k v hv=>(ae_ (aj_ (W.drewN n) _) k).trans hv⟩
 have HL:=Sd.m hl
 have HP:=Sd.m hp
 have HX:=Sd.m hx
 clear h hl hp hx hc
 go_enter Tryz.func123,Tryz.ntmps123
 go_wp2_with fail
 go_quiet (fail)
 go_wp2_with fail
 go_loop [5] (fun t=>t=.int .i64 0∨t=.int .i64 1∨t=.int .i64 2∨t=.int .i64 3∨t=.int .i64 4∨t=.int .i64 5∨t=.int .i64 6∨t=.int .i64 7∨t=.int .i64 8∨t=.int .i64 9) (fun t=>(10 - intOf t).toNat)
 case atStart=>simp
 case round=>
  rcases hrel with rfl | rfl | rfl | rfl | rfl | rfl | rfl | rfl | rfl | rfl
  ·clear c2 c0 hcell
   have pk:=HCL.out nq 0 _ rfl
   go_wp2_with fail
   go_round
   case rel=>simp
   case measure=>simp [intOf]
  ·clear c2 c0 hcell
   have pk:=HCL.out nq 1 _ rfl
   go_wp2_with fail
   go_round
   case rel=>simp
   case measure=>simp [intOf]
  ·clear c2 c0 hcell
   have pk:=HCL.out nq 2 _ rfl
   go_wp2_with fail
   go_round
   case rel=>simp
   case measure=>simp [intOf]
  ·clear c2 c0 hcell
   have pk:=HCL.out nq 3 _ rfl
   go_wp2_with fail
   go_round
   case rel=>simp
   case measure=>simp [intOf]
  ·clear c2 c0 hcell
   have pk:=HCL.out nq 4 _ rfl
   go_wp2_with fail
   go_round
   case rel=>simp
   case measure=>simp [intOf]
  ·clear c2 c0 hcell
   have pk:=HCL.out nq 5 _ rfl
   go_wp2_with fail
   go_round
   case rel=>simp
   case measure=>simp [intOf]
  ·clear c2 c0 hcell
   have pk:=HCL.out nq 6 _ rfl
   go_wp2_with fail
   go_round
   case rel=>simp
   case measure=>simp [intOf]
  ·clear c2 c0 hcell
   have pk:=HCL.out nq 7 _ rfl
   go_wp2_with fail
   go_round
   case rel=>simp
   case measure=>simp [intOf]
  ·clear c2 c0 hcell
   have pk:=HCL.out nq 8 _ rfl
   go_wp2_with fail
   go_round
   case rel=>simp
   case measure=>simp [intOf]
  ·clear c2 c0 hcell
   have pk:=HCL.out nq 9 _ rfl
   have hLn:=HB.out
   clear hLn
   go_wp2_with fail
   refine (db_ w0 _ g _ cl l Ap cp p i deep out (HB.out _) HP.out hpl hol 12 ⟨#[]⟩ 0 0 0 i hi0 hi2).mono ?_
   rintro e W2 ⟨rfl,hL2⟩
   have c2:=hL2.c2
   have f2:=hL2.fr 2
   have HL2:=Sd.m (hL2.ge_ (i+1))
   clear hL2
   go_wp2_with fail
   refine bodyPost_ret (results_none rfl _ _ _) rfl ?_
   exact ⟨rfl,HL2.out⟩
theorem step_line (w0 W:World)(g:Nat)(Al:Option Addr)(cl:Nat)(l:List Int)(Ap:Option Addr)(cp:Nat)(p:List Int)(i deep:Int)(out:List S159)(h:LexAt w0 W g Al cl l Ap cp p i deep out)
  (hl:Kd.C (Kd.int .i64) w0 Al l.length l) (hcl:l.length<=cl) (hp:Kd.C (Kd.int .i64) w0 Ap p.length p) (hpl:p.length<=1000000) (hol:out.length<=1000000) (hi0:0<=i) (hi1:i<l.length) (hi2:i<p.length) (hll:l.length<=1000000)
  (hc:rd l i=10):
  Calls Tryz.prog 123 #[.pointer (some ⟨g,0,none⟩)] W fun e W1=>e=.returned (.tuple #[])∧LexAt w0 W1 g Al cl l Ap cp p (i+1) deep (out ++ [⟨18,⟨#[]⟩,0,0,rd p i⟩]):=by
 have c2:=h.c2
 have c0:=h.c0
 obtain ⟨ad,rfl,hcell⟩:=at_l hl h.B i hi0 hi1
 have d0:decide ((0:Int)<=i)=true:=dt__ hi0
 have d1:decide (i<(l.length:Int))=true:=dt__ hi1
 have w2:IntKind.i64.wrap (i+1)=i+1:=IntWalk.i64_in _ (by omega)
 obtain ⟨x,hx⟩: ∃ x,x=rd l i:=⟨_,rfl⟩
 rw [←hx] at hcell
 have e61:((61:Int) == x)=false:=by rw [hx,hc];decide
 have e215:((215:Int) == x)=false:=by rw [hx,hc];decide
 have e247:((247:Int) == x)=false:=by rw [hx,hc];decide
 have e40:((40:Int) == x)=false:=by rw [hx,hc];decide
 have e41:((41:Int) == x)=false:=by rw [hx,hc];decide
 have e124:((124:Int) == x)=false:=by rw [hx,hc];decide
 have e42:((42:Int) == x)=false:=by rw [hx,hc];decide
 have e43:((43:Int) == x)=false:=by rw [hx,hc];decide
 have e63:((63:Int) == x)=false:=by rw [hx,hc];decide
 have e46:((46:Int) == x)=false:=by rw [hx,hc];decide
 have f10:(x == 10)=true:=by rw [hx,hc];decide
 have HB:Sd (∀ n,LexAt w0 ((W.drewN n).alloc (.cells #[.int .i64 61,.int .i64 215,.int .i64 247,.int .i64 40,.int .i64 41,.int .i64 124,.int .i64 42,.int .i64 43,.int .i64 63,.int .i64 46] 3)) g (some ad) cl l Ap cp p i deep out):=⟨fun n=>(h.below (ad_ (Below.refl W.heap.size W) n)).below (ab_ (Below.refl _ _) _)⟩
 have HCL:Sd (∀ (n k:Nat) (v:Value),( #[.int .i64 61,.int .i64 215,.int .i64 247,.int .i64 40,.int .i64 41,.int .i64 124,.int .i64 42,.int .i64 43,.int .i64 63,.int .i64 46]:Array Value)[k]? =some v->((W.drewN n).alloc (.cells #[.int .i64 61,.int .i64 215,.int .i64 247,.int .i64 40,.int .i64 41,.int .i64 124,.int .i64 42,.int .i64 43,.int .i64 63,.int .i64 46] 3)).cell? ⟨W.heap.size,k,none⟩=some v):=⟨fun n k v hv=>(ae_ (aj_ (W.drewN n) _) k).trans hv⟩
 have HL:=Sd.m hl
 have HP:=Sd.m hp
 have HX:=Sd.m hx
 clear h hl hp hx hc
 go_enter Tryz.func123,Tryz.ntmps123
 go_wp2_with fail
 go_quiet (fail)
 go_wp2_with fail
 go_loop [5] (fun t=>t=.int .i64 0∨t=.int .i64 1∨t=.int .i64 2∨t=.int .i64 3∨t=.int .i64 4∨t=.int .i64 5∨t=.int .i64 6∨t=.int .i64 7∨t=.int .i64 8∨t=.int .i64 9∨t=.int .i64 10) (fun t=>(10 - intOf t).toNat)
 case atStart=>simp
 case round=>
  rcases hrel with rfl | rfl | rfl | rfl | rfl | rfl | rfl | rfl | rfl | rfl | rfl
  ·clear c2 c0 hcell
   have pk:=HCL.out nq 0 _ rfl
   go_wp2_with fail
   go_round
   case rel=>simp
   case measure=>simp [intOf]
  ·clear c2 c0 hcell
   have pk:=HCL.out nq 1 _ rfl
   go_wp2_with fail
   go_round
   case rel=>simp
   case measure=>simp [intOf]
  ·clear c2 c0 hcell
   have pk:=HCL.out nq 2 _ rfl
   go_wp2_with fail
   go_round
   case rel=>simp
   case measure=>simp [intOf]
  ·clear c2 c0 hcell
   have pk:=HCL.out nq 3 _ rfl
   go_wp2_with fail
   go_round
   case rel=>simp
   case measure=>simp [intOf]
  ·clear c2 c0 hcell
   have pk:=HCL.out nq 4 _ rfl
   go_wp2_with fail
   go_round
   case rel=>simp
   case measure=>simp [intOf]
  ·clear c2 c0 hcell
   have pk:=HCL.out nq 5 _ rfl
   go_wp2_with fail
   go_round
   case rel=>simp
   case measure=>simp [intOf]
  ·clear c2 c0 hcell
   have pk:=HCL.out nq 6 _ rfl
   go_wp2_with fail
   go_round
   case rel=>simp
   case measure=>simp [intOf]
  ·clear c2 c0 hcell
   have pk:=HCL.out nq 7 _ rfl
   go_wp2_with fail
   go_round
   case rel=>simp
   case measure=>simp [intOf]
  ·clear c2 c0 hcell
   have pk:=HCL.out nq 8 _ rfl
   go_wp2_with fail
   go_round
   case rel=>simp
   case measure=>simp [intOf]
  ·clear c2 c0 hcell
   have pk:=HCL.out nq 9 _ rfl
   go_wp2_with fail
   go_round
   case rel=>simp
   case measure=>simp [intOf]
  ·clear c2 c0 hcell
   have hLn:=HB.out
   clear hLn
   go_wp2_with fail
   refine (db_ w0 _ g _ cl l Ap cp p i deep out (HB.out _) HP.out hpl hol 18 ⟨#[]⟩ 0 0 0 i hi0 hi2).mono ?_
   rintro e W2 ⟨rfl,hL2⟩
   have c2:=hL2.c2
   have f2:=hL2.fr 2
   have HL2:=Sd.m (hL2.ge_ (i+1))
   clear hL2
   go_wp2_with fail
   refine Great.bodyPost_end0 rfl rfl ?_
   exact ⟨rfl,HL2.out⟩
theorem step_name (w0 W:World)(g:Nat)(Al:Option Addr)(cl:Nat)(l:List Int)(Ap:Option Addr)(cp:Nat)(p:List Int)(i deep:Int)(out:List S159)(h:LexAt w0 W g Al cl l Ap cp p i deep out)
  (hl:Kd.C (Kd.int .i64) w0 Al l.length l) (hcl:l.length<=cl) (hp:Kd.C (Kd.int .i64) w0 Ap p.length p) (hpl:p.length<=1000000) (hol:out.length<=1000000) (hi0:0<=i) (hi1:i<l.length) (hi2:i<p.length) (hll:l.length<=1000000)
  (hc:rd l i=36) (hx1:i+1<l.length) (hL:ce_.f (rd l (i+1))=some true) (hA:After l (i+2)) (k:Nat) (s:ByteArray) (hs:bm_.f k [rd l (i+1)]=some s):
  Calls Tryz.prog 123 #[.pointer (some ⟨g,0,none⟩)] W fun e W1=>e=.returned (.tuple #[])∧LexAt w0 W1 g Al cl l Ap cp p (i+2) deep (out ++ [⟨1,s,0,0,rd p i⟩]):=by
 have c2:=h.c2
 have c0:=h.c0
 obtain ⟨ad,rfl,hcell⟩:=at_l hl h.B i hi0 hi1
 have d0:decide ((0:Int)<=i)=true:=dt__ hi0
 have d1:decide (i<(l.length:Int))=true:=dt__ hi1
 have w2:IntKind.i64.wrap (i+1)=i+1:=IntWalk.i64_in _ (by omega)
 obtain ⟨x,hx⟩: ∃ x,x=rd l i:=⟨_,rfl⟩
 rw [←hx] at hcell
 have e61:((61:Int) == x)=false:=by rw [hx,hc];decide
 have e215:((215:Int) == x)=false:=by rw [hx,hc];decide
 have e247:((247:Int) == x)=false:=by rw [hx,hc];decide
 have e40:((40:Int) == x)=false:=by rw [hx,hc];decide
 have e41:((41:Int) == x)=false:=by rw [hx,hc];decide
 have e124:((124:Int) == x)=false:=by rw [hx,hc];decide
 have e42:((42:Int) == x)=false:=by rw [hx,hc];decide
 have e43:((43:Int) == x)=false:=by rw [hx,hc];decide
 have e63:((63:Int) == x)=false:=by rw [hx,hc];decide
 have e46:((46:Int) == x)=false:=by rw [hx,hc];decide
 have f10:(x == 10)=false:=by rw [hx,hc];decide
 have f35:(x == 35)=false:=by rw [hx,hc];decide
 have f36:(x == 36)=true:=by rw [hx,hc];decide
 have HLE:=Sd.m hL
 have HAF:=Sd.m hA
 have HSS:=Sd.m hs
 have HB:Sd (∀ n,LexAt w0 ((W.drewN n).alloc (.cells #[.int .i64 61,.int .i64 215,.int .i64 247,.int .i64 40,.int .i64 41,.int .i64 124,.int .i64 42,.int .i64 43,.int .i64 63,.int .i64 46] 3)) g (some ad) cl l Ap cp p i deep out):=⟨fun n=>(h.below (ad_ (Below.refl W.heap.size W) n)).below (ab_ (Below.refl _ _) _)⟩
 have HCL:Sd (∀ (n k:Nat) (v:Value),( #[.int .i64 61,.int .i64 215,.int .i64 247,.int .i64 40,.int .i64 41,.int .i64 124,.int .i64 42,.int .i64 43,.int .i64 63,.int .i64 46]:Array Value)[k]? =some v->((W.drewN n).alloc (.cells #[.int .i64 61,.int .i64 215,.int .i64 247,.int .i64 40,.int .i64 41,.int .i64 124,.int .i64 42,.int .i64 43,.int .i64 63,.int .i64 46] 3)).cell? ⟨W.heap.size,k,none⟩=some v):=⟨fun n k v hv=>(ae_ (aj_ (W.drewN n) _) k).trans hv⟩
 have HL:=Sd.m hl
 have HP:=Sd.m hp
 have HX:=Sd.m hx
 clear h hl hp hx hc hL hA hs
 go_enter Tryz.func123,Tryz.ntmps123
 go_wp2_with fail
 go_quiet (fail)
 go_wp2_with fail
 go_loop [5] (fun t=>t=.int .i64 0∨t=.int .i64 1∨t=.int .i64 2∨t=.int .i64 3∨t=.int .i64 4∨t=.int .i64 5∨t=.int .i64 6∨t=.int .i64 7∨t=.int .i64 8∨t=.int .i64 9∨t=.int .i64 10) (fun t=>(10 - intOf t).toNat)
 case atStart=>simp
 case round=>
  rcases hrel with rfl | rfl | rfl | rfl | rfl | rfl | rfl | rfl | rfl | rfl | rfl
  ·clear c2 c0 hcell
   have pk:=HCL.out nq 0 _ rfl
   go_wp2_with fail
   go_round
   case rel=>simp
   case measure=>simp [intOf]
  ·clear c2 c0 hcell
   have pk:=HCL.out nq 1 _ rfl
   go_wp2_with fail
   go_round
   case rel=>simp
   case measure=>simp [intOf]
  ·clear c2 c0 hcell
   have pk:=HCL.out nq 2 _ rfl
   go_wp2_with fail
   go_round
   case rel=>simp
   case measure=>simp [intOf]
  ·clear c2 c0 hcell
   have pk:=HCL.out nq 3 _ rfl
   go_wp2_with fail
   go_round
   case rel=>simp
   case measure=>simp [intOf]
  ·clear c2 c0 hcell
   have pk:=HCL.out nq 4 _ rfl
   go_wp2_with fail
   go_round
   case rel=>simp
   case measure=>simp [intOf]
  ·clear c2 c0 hcell
   have pk:=HCL.out nq 5 _ rfl
   go_wp2_with fail
   go_round
   case rel=>simp
   case measure=>simp [intOf]
  ·clear c2 c0 hcell
   have pk:=HCL.out nq 6 _ rfl
   go_wp2_with fail
   go_round
   case rel=>simp
   case measure=>simp [intOf]
  ·clear c2 c0 hcell
   have pk:=HCL.out nq 7 _ rfl
   go_wp2_with fail
   go_round
   case rel=>simp
   case measure=>simp [intOf]
  ·clear c2 c0 hcell
   have pk:=HCL.out nq 8 _ rfl
   go_wp2_with fail
   go_round
   case rel=>simp
   case measure=>simp [intOf]
  ·clear c2 c0 hcell
   have pk:=HCL.out nq 9 _ rfl
   go_wp2_with fail
   go_round
   case rel=>simp
   case measure=>simp [intOf]
  ·clear c2 c0 hcell
   have hLn:=HB.out
   clear hLn
   go_wp2_with fail
   refine (jb_ w0 _ g _ cl l Ap cp p i deep out (HB.out _) HL.out hcl HP.out hpl hol hi0 hx1 hi2 hll HLE.out HAF.out k s HSS.out).mono ?_
   rintro e W2 ⟨rfl,hL2⟩
   have HL2:=Sd.m hL2
   clear hL2
   go_wp2_with fail
   refine Great.bodyPost_end0 rfl rfl ?_
   exact ⟨rfl,HL2.out⟩
theorem step_open (w0 W:World)(g:Nat)(Al:Option Addr)(cl:Nat)(l:List Int)(Ap:Option Addr)(cp:Nat)(p:List Int)(i deep:Int)(out:List S159)(h:LexAt w0 W g Al cl l Ap cp p i deep out)
  (hl:Kd.C (Kd.int .i64) w0 Al l.length l) (hcl:l.length<=cl) (hp:Kd.C (Kd.int .i64) w0 Ap p.length p) (hpl:p.length<=1000000) (hol:out.length<=1000000) (hi0:0<=i) (hi1:i<l.length) (hi2:i<p.length) (hll:l.length<=1000000)
  (hd0:0<=deep) (hd1:deep<=1000000) (hx1:i+1<l.length) (hne:rd l (i+1)≠94) (hc:rd l i=91):
  Calls Tryz.prog 123 #[.pointer (some ⟨g,0,none⟩)] W fun e W1=>e=.returned (.tuple #[])∧LexAt w0 W1 g Al cl l Ap cp p (i+1) (deep+1) (out ++ [⟨13,⟨#[]⟩,0,0,rd p i⟩]):=by
 have c2:=h.c2
 have c0:=h.c0
 obtain ⟨ad,rfl,hcell⟩:=at_l hl h.B i hi0 hi1
 have d0:decide ((0:Int)<=i)=true:=dt__ hi0
 have d1:decide (i<(l.length:Int))=true:=dt__ hi1
 have w2:IntKind.i64.wrap (i+1)=i+1:=IntWalk.i64_in _ (by omega)
 obtain ⟨x,hx⟩: ∃ x,x=rd l i:=⟨_,rfl⟩
 rw [←hx] at hcell
 have e61:((61:Int) == x)=false:=by rw [hx,hc];decide
 have e215:((215:Int) == x)=false:=by rw [hx,hc];decide
 have e247:((247:Int) == x)=false:=by rw [hx,hc];decide
 have e40:((40:Int) == x)=false:=by rw [hx,hc];decide
 have e41:((41:Int) == x)=false:=by rw [hx,hc];decide
 have e124:((124:Int) == x)=false:=by rw [hx,hc];decide
 have e42:((42:Int) == x)=false:=by rw [hx,hc];decide
 have e43:((43:Int) == x)=false:=by rw [hx,hc];decide
 have e63:((63:Int) == x)=false:=by rw [hx,hc];decide
 have e46:((46:Int) == x)=false:=by rw [hx,hc];decide
 have f10:(x == 10)=false:=by rw [hx,hc];decide
 have f35:(x == 35)=false:=by rw [hx,hc];decide
 have f36:(x == 36)=false:=by rw [hx,hc];decide
 have f91:(x == 91)=true:=by rw [hx,hc];decide
 have HNE:=Sd.m hne
 have HB:Sd (∀ n,LexAt w0 ((W.drewN n).alloc (.cells #[.int .i64 61,.int .i64 215,.int .i64 247,.int .i64 40,.int .i64 41,.int .i64 124,.int .i64 42,.int .i64 43,.int .i64 63,.int .i64 46] 3)) g (some ad) cl l Ap cp p i deep out):=⟨fun n=>(h.below (ad_ (Below.refl W.heap.size W) n)).below (ab_ (Below.refl _ _) _)⟩
 have HCL:Sd (∀ (n k:Nat) (v:Value),( #[.int .i64 61,.int .i64 215,.int .i64 247,.int .i64 40,.int .i64 41,.int .i64 124,.int .i64 42,.int .i64 43,.int .i64 63,.int .i64 46]:Array Value)[k]? =some v->((W.drewN n).alloc (.cells #[.int .i64 61,.int .i64 215,.int .i64 247,.int .i64 40,.int .i64 41,.int .i64 124,.int .i64 42,.int .i64 43,.int .i64 63,.int .i64 46] 3)).cell? ⟨W.heap.size,k,none⟩=some v):=⟨fun n k v hv=>(ae_ (aj_ (W.drewN n) _) k).trans hv⟩
 have HL:=Sd.m hl
 have HP:=Sd.m hp
 have HX:=Sd.m hx
 clear h hl hp hx hc hne
 go_enter Tryz.func123,Tryz.ntmps123
 go_wp2_with fail
 go_quiet (fail)
 go_wp2_with fail
 go_loop [5] (fun t=>t=.int .i64 0∨t=.int .i64 1∨t=.int .i64 2∨t=.int .i64 3∨t=.int .i64 4∨t=.int .i64 5∨t=.int .i64 6∨t=.int .i64 7∨t=.int .i64 8∨t=.int .i64 9∨t=.int .i64 10) (fun t=>(10 - intOf t).toNat)
 case atStart=>simp
 case round=>
  rcases hrel with rfl | rfl | rfl | rfl | rfl | rfl | rfl | rfl | rfl | rfl | rfl
  ·clear c2 c0 hcell
   have pk:=HCL.out nq 0 _ rfl
   go_wp2_with fail
   go_round
   case rel=>simp
   case measure=>simp [intOf]
  ·clear c2 c0 hcell
   have pk:=HCL.out nq 1 _ rfl
   go_wp2_with fail
   go_round
   case rel=>simp
   case measure=>simp [intOf]
  ·clear c2 c0 hcell
   have pk:=HCL.out nq 2 _ rfl
   go_wp2_with fail
   go_round
   case rel=>simp
   case measure=>simp [intOf]
  ·clear c2 c0 hcell
   have pk:=HCL.out nq 3 _ rfl
   go_wp2_with fail
   go_round
   case rel=>simp
   case measure=>simp [intOf]
  ·clear c2 c0 hcell
   have pk:=HCL.out nq 4 _ rfl
   go_wp2_with fail
   go_round
   case rel=>simp
   case measure=>simp [intOf]
  ·clear c2 c0 hcell
   have pk:=HCL.out nq 5 _ rfl
   go_wp2_with fail
   go_round
   case rel=>simp
   case measure=>simp [intOf]
  ·clear c2 c0 hcell
   have pk:=HCL.out nq 6 _ rfl
   go_wp2_with fail
   go_round
   case rel=>simp
   case measure=>simp [intOf]
  ·clear c2 c0 hcell
   have pk:=HCL.out nq 7 _ rfl
   go_wp2_with fail
   go_round
   case rel=>simp
   case measure=>simp [intOf]
  ·clear c2 c0 hcell
   have pk:=HCL.out nq 8 _ rfl
   go_wp2_with fail
   go_round
   case rel=>simp
   case measure=>simp [intOf]
  ·clear c2 c0 hcell
   have pk:=HCL.out nq 9 _ rfl
   go_wp2_with fail
   go_round
   case rel=>simp
   case measure=>simp [intOf]
  ·clear c2 c0 hcell
   have hLn:=HB.out
   clear hLn
   go_wp2_with fail
   refine (iz_ w0 _ g _ cl l Ap cp p i deep out (HB.out _) HL.out HP.out hpl hol hi0 hx1 hi2 hd0 hd1 hll HNE.out).mono ?_
   rintro e W2 ⟨rfl,hL2⟩
   have HL2:=Sd.m hL2
   clear hL2
   go_wp2_with fail
   refine Great.bodyPost_end0 rfl rfl ?_
   exact ⟨rfl,HL2.out⟩
theorem step_num (w0 W:World)(g:Nat)(Al:Option Addr)(cl:Nat)(l:List Int)(Ap:Option Addr)(cp:Nat)(p:List Int)(i deep:Int)(out:List S159)(h:LexAt w0 W g Al cl l Ap cp p i deep out)
  (hl:Kd.C (Kd.int .i64) w0 Al l.length l) (hcl:l.length<=cl) (hp:Kd.C (Kd.int .i64) w0 Ap p.length p) (hpl:p.length<=1000000) (hol:out.length<=1000000) (hi0:0<=i) (hi1:i<l.length) (hi2:i<p.length) (hll:l.length<=1000000)
  (hc0:48<=rd l i) (hc1:rd l i<=57) (k:Nat) (n nx:Int) (hn:af_.f k l i=some (n,nx,0)):
  Calls Tryz.prog 123 #[.pointer (some ⟨g,0,none⟩)] W fun e W1=>e=.returned (.tuple #[])∧LexAt w0 W1 g Al cl l Ap cp p nx deep (out ++ [⟨2,⟨#[]⟩,n,0,rd p i⟩]):=by
 have c2:=h.c2
 have c0:=h.c0
 obtain ⟨ad,rfl,hcell⟩:=at_l hl h.B i hi0 hi1
 have d0:decide ((0:Int)<=i)=true:=dt__ hi0
 have d1:decide (i<(l.length:Int))=true:=dt__ hi1
 have w2:IntKind.i64.wrap (i+1)=i+1:=IntWalk.i64_in _ (by omega)
 obtain ⟨x,hx⟩: ∃ x,x=rd l i:=⟨_,rfl⟩
 rw [←hx] at hcell
 have e61:((61:Int) == x)=false:=by simp;omega
 have e215:((215:Int) == x)=false:=by simp;omega
 have e247:((247:Int) == x)=false:=by simp;omega
 have e40:((40:Int) == x)=false:=by simp;omega
 have e41:((41:Int) == x)=false:=by simp;omega
 have e124:((124:Int) == x)=false:=by simp;omega
 have e42:((42:Int) == x)=false:=by simp;omega
 have e43:((43:Int) == x)=false:=by simp;omega
 have e63:((63:Int) == x)=false:=by simp;omega
 have e46:((46:Int) == x)=false:=by simp;omega
 have f10:(x == 10)=false:=by simp;omega
 have f35:(x == 35)=false:=by simp;omega
 have f36:(x == 36)=false:=by simp;omega
 have f91:(x == 91)=false:=by simp;omega
 have HD:Sd (bx_.f x=some true):=⟨by unfold bx_.f;rw [if_pos (by omega)];simp;omega⟩
 have HNN:=Sd.m hn
 have HB:Sd (∀ n,LexAt w0 ((W.drewN n).alloc (.cells #[.int .i64 61,.int .i64 215,.int .i64 247,.int .i64 40,.int .i64 41,.int .i64 124,.int .i64 42,.int .i64 43,.int .i64 63,.int .i64 46] 3)) g (some ad) cl l Ap cp p i deep out):=⟨fun n=>(h.below (ad_ (Below.refl W.heap.size W) n)).below (ab_ (Below.refl _ _) _)⟩
 have HCL:Sd (∀ (n k:Nat) (v:Value),( #[.int .i64 61,.int .i64 215,.int .i64 247,.int .i64 40,.int .i64 41,.int .i64 124,.int .i64 42,.int .i64 43,.int .i64 63,.int .i64 46]:Array Value)[k]? =some v->((W.drewN n).alloc (.cells #[.int .i64 61,.int .i64 215,.int .i64 247,.int .i64 40,.int .i64 41,.int .i64 124,.int .i64 42,.int .i64 43,.int .i64 63,.int .i64 46] 3)).cell? ⟨W.heap.size,k,none⟩=some v):=⟨fun n k v hv=>(ae_ (aj_ (W.drewN n) _) k).trans hv⟩
 have HL:=Sd.m hl
 have HP:=Sd.m hp
 have HX:=Sd.m hx
 clear h hl hp hx hn
 go_enter Tryz.func123,Tryz.ntmps123
 go_wp2_with fail
 go_quiet (fail)
 go_wp2_with fail
 go_loop [5] (fun t=>t=.int .i64 0∨t=.int .i64 1∨t=.int .i64 2∨t=.int .i64 3∨t=.int .i64 4∨t=.int .i64 5∨t=.int .i64 6∨t=.int .i64 7∨t=.int .i64 8∨t=.int .i64 9∨t=.int .i64 10) (fun t=>(10 - intOf t).toNat)
 case atStart=>simp
 case round=>
  rcases hrel with rfl | rfl | rfl | rfl | rfl | rfl | rfl | rfl | rfl | rfl | rfl
  ·clear c2 c0 hcell
   have pk:=HCL.out nq 0 _ rfl
   go_wp2_with fail
   go_round
   case rel=>simp
   case measure=>simp [intOf]
  ·clear c2 c0 hcell
   have pk:=HCL.out nq 1 _ rfl
   go_wp2_with fail
   go_round
   case rel=>simp
   case measure=>simp [intOf]
  ·clear c2 c0 hcell
   have pk:=HCL.out nq 2 _ rfl
   go_wp2_with fail
   go_round
   case rel=>simp
   case measure=>simp [intOf]
  ·clear c2 c0 hcell
   have pk:=HCL.out nq 3 _ rfl
   go_wp2_with fail
   go_round
   case rel=>simp
   case measure=>simp [intOf]
  ·clear c2 c0 hcell
   have pk:=HCL.out nq 4 _ rfl
   go_wp2_with fail
   go_round
   case rel=>simp
   case measure=>simp [intOf]
  ·clear c2 c0 hcell
   have pk:=HCL.out nq 5 _ rfl
   go_wp2_with fail
   go_round
   case rel=>simp
   case measure=>simp [intOf]
  ·clear c2 c0 hcell
   have pk:=HCL.out nq 6 _ rfl
   go_wp2_with fail
   go_round
   case rel=>simp
   case measure=>simp [intOf]
  ·clear c2 c0 hcell
   have pk:=HCL.out nq 7 _ rfl
   go_wp2_with fail
   go_round
   case rel=>simp
   case measure=>simp [intOf]
  ·clear c2 c0 hcell
   have pk:=HCL.out nq 8 _ rfl
   go_wp2_with fail
   go_round
   case rel=>simp
   case measure=>simp [intOf]
  ·clear c2 c0 hcell
   have pk:=HCL.out nq 9 _ rfl
   go_wp2_with fail
   go_round
   case rel=>simp
   case measure=>simp [intOf]
  ·clear c2 c0 hcell
   have hLn:=HB.out
   have c0:=(hLn nq).c0
   clear hLn
   go_wp2_with fail
   refine (bx_.calls _ true _ HD.out).mono ?_
   rintro e w' ⟨rfl,⟨nd,rfl⟩⟩
   obtain ⟨W2,hW2⟩: ∃ W_,W_=((W.drewN nq).alloc (.cells #[.int .i64 61,.int .i64 215,.int .i64 247,.int .i64 40,.int .i64 41,.int .i64 124,.int .i64 42,.int .i64 43,.int .i64 63,.int .i64 46] 3)).drewN nd:=⟨_,rfl⟩
   have hL2:LexAt w0 W2 g (some ad) cl l Ap cp p i deep out:=by rw [hW2];exact (HB.out nq).below (ad_ (Below.refl _ _) nd)
   rw [←hW2]
   clear hW2 c0
   have c0:=hL2.c0
   have HC:=Sd.m (Kd.C_below HL.out hL2.B)
   have HL2:=Sd.m hL2
   clear hL2
   go_wp2_with fail
   refine (af_.calls k _ _ l i n nx 0 W2 HC.out hcl HNN.out).mono ?_
   rintro e W3 ⟨rfl,hb3⟩
   have HL3:=Sd.m (HL2.out.below hb3)
   clear hb3 c0
   go_wp2_with fail
   refine (db_ w0 W3 g _ cl l Ap cp p i deep out HL3.out HP.out hpl hol 2 ⟨#[]⟩ n 0 0 i hi0 hi2).mono ?_
   rintro e W4 ⟨rfl,hL4⟩
   have f2:=hL4.fr 2
   have c2:=hL4.c2
   have HL4:=Sd.m (hL4.ge_ nx)
   clear hL4
   go_wp2_with fail
   refine Great.bodyPost_end0 rfl rfl ?_
   exact ⟨rfl,HL4.out⟩
instance (c:Int):Decidable (NoSign c):=by unfold NoSign;infer_instance
instance (l:List Int) (j:Int):Decidable (After l j):=by unfold After;infer_instance
abbrev LS:=Int × Int × List S159
def nameF (l p:List Int)(i deep:Int)(out:List S159):Option LS:=
 if i+1<(l.length:Int)∧ce_.f (rd l (i+1))=some true∧After l (i+2) then
  match bm_.f 9 [rd l (i+1)] with
  | some s=>some (i+2,deep,out ++ [⟨1,s,0,0,rd p i⟩])
  | none=>none
 else none
def openF (l p:List Int)(i deep:Int)(out:List S159):Option LS:=
 if 0<=deep∧deep<=1000000∧i+1<(l.length:Int)∧rd l (i+1)≠94 then some (i+1,deep+1,out ++ [⟨13,⟨#[]⟩,0,0,rd p i⟩]) else none
def charF (l:List Int)(i:Int):Option (Int × Int):=
 if NoSign (rd l i) then
  match ba_.f 9 l i with
  | some (x,nx,0)=>if 0<=nx∧nx<(l.length:Int) then some (x,nx) else none
  | _=>none
 else none
def setF (l p:List Int)(i deep:Int)(out:List S159):Option LS:=
 if ¬ (0<out.length∧out.length<=1000000) then none
 else if rd l i=91 then openF l p i deep out
 else if rd l i=93 then (if 0<=deep∧deep<=1000000 then some (i+1,deep - 1,out ++ [⟨14,⟨#[]⟩,0,0,rd p i⟩]) else none)
 else if rd l i=36 then nameF l p i deep out
 else if rd l i=45∧((ac_ out ((out.length:Int) - 1)).f0=14∨(ac_ out ((out.length:Int) - 1)).f0=1) then some (i+1,deep,out ++ [⟨17,⟨#[]⟩,0,0,rd p i⟩])
 else
  match charF l i with
  | none=>none
  | some (x,nx)=>
   if rd l nx=45 then
    if nx+1<(l.length:Int) then
     match charF l (nx+1) with
     | some (y,ny)=>if x<=y then some (ny,deep,out ++ [⟨15,⟨#[]⟩,x,y,rd p i⟩]) else none
     | none=>none
    else none
   else some (nx,deep,out ++ [⟨15,⟨#[]⟩,x,x,rd p i⟩])
def stepF (l p:List Int)(i deep:Int)(out:List S159):Option LS:=
 if ¬ out.length<=1000000 then none
 else if rd l i=61 then some (i+1,deep,out ++ [⟨3,⟨#[]⟩,0,0,rd p i⟩])
 else if rd l i=215 then some (i+1,deep,out ++ [⟨4,⟨#[]⟩,0,0,rd p i⟩])
 else if rd l i=247 then some (i+1,deep,out ++ [⟨5,⟨#[]⟩,0,0,rd p i⟩])
 else if rd l i=124 then some (i+1,deep,out ++ [⟨8,⟨#[]⟩,0,0,rd p i⟩])
 else if rd l i=42 then some (i+1,deep,out ++ [⟨9,⟨#[]⟩,0,0,rd p i⟩])
 else if rd l i=46 then some (i+1,deep,out ++ [⟨12,⟨#[]⟩,0,0,rd p i⟩])
 else if rd l i=10 then some (i+1,deep,out ++ [⟨18,⟨#[]⟩,0,0,rd p i⟩])
 else if rd l i=36 then nameF l p i deep out
 else if rd l i=91 then openF l p i deep out
 else if 48<=rd l i∧rd l i<=57 then
  match af_.f 99 l i with
  | some (n,nx,0)=>some (nx,deep,out ++ [⟨2,⟨#[]⟩,n,0,rd p i⟩])
  | _=>none
 else none
theorem ji_ {l:List Int}{i x nx:Int}(h:charF l i=some (x,nx)):NoSign (rd l i)∧ba_.f 9 l i=some (x,nx,0)∧0<=nx∧nx<(l.length:Int):=by
 unfold charF at h
 split at h
 ·split at h
  ·split at h
   ·injection h with h
    injection h with h1 h2
    subst h1 h2
    refine ⟨by assumption,by assumption,?_⟩
    rename_i q
    exact q
   ·cases h
  ·cases h
 ·cases h
section
variable {w0 W:World} {g:Nat} {Al:Option Addr} {cl:Nat} {l:List Int} {Ap:Option Addr} {cp:Nat} {p:List Int} {i deep i' deep':Int} {out out':List S159}
theorem set_calls (h:LexAt w0 W g Al cl l Ap cp p i deep out)
  (hl:Kd.C (Kd.int .i64) w0 Al l.length l) (hcl:l.length<=cl) (hp:Kd.C (Kd.int .i64) w0 Ap p.length p) (hpl:p.length<=1000000) (hi0:0<=i) (hi1:i<l.length) (hi2:i<p.length) (hll:l.length<=1000000) (hF:setF l p i deep out=some (i',deep',out')):
  Calls Tryz.prog 122 #[.pointer (some ⟨g,0,none⟩)] W fun e W1=>e=.returned (.tuple #[])∧LexAt w0 W1 g Al cl l Ap cp p i' deep' out':=by
 unfold setF at hF
 split at hF
 ·cases hF
 rename_i ho
 have ho:=Decidable.not_not.1 ho
 split at hF
 ·rename_i hc
  unfold openF at hF
  split at hF
  ·rename_i q
   injection hF with hF;injection hF with e1 hF;injection hF with e2 e3
   subst e1 e2 e3
   exact set_open w0 W g Al cl l Ap cp p i deep out h hl hcl hp hpl ho.2 ho.1 hi0 hi1 hi2 hll q.1 q.2.1 q.2.2.1 q.2.2.2 hc
  ·cases hF
 split at hF
 ·rename_i hc
  split at hF
  ·rename_i q
   injection hF with hF;injection hF with e1 hF;injection hF with e2 e3
   subst e1 e2 e3
   exact set_close w0 W g Al cl l Ap cp p i deep out h hl hcl hp hpl ho.2 ho.1 hi0 hi1 hi2 hll q.1 q.2 hc
  ·cases hF
 split at hF
 ·rename_i hc
  unfold nameF at hF
  split at hF
  ·rename_i q
   split at hF
   ·rename_i s hs
    injection hF with hF;injection hF with e1 hF;injection hF with e2 e3
    subst e1 e2 e3
    exact set_name w0 W g Al cl l Ap cp p i deep out h hl hcl hp hpl ho.2 ho.1 hi0 hi1 hi2 hll hc q.1 q.2.1 q.2.2 9 s hs
   ·cases hF
  ·cases hF
 split at hF
 ·rename_i hc
  injection hF with hF;injection hF with e1 hF;injection hF with e2 e3
  subst e1 e2 e3
  exact set_less w0 W g Al cl l Ap cp p i deep out h hl hcl hp hpl ho.2 ho.1 hi0 hi1 hi2 hll hc.1 hc.2
 split at hF
 ·cases hF
 rename_i x nx hch
 obtain ⟨c1,c2,c3,c4⟩:=ji_ hch
 split at hF
 ·rename_i h45
  split at hF
  ·rename_i h46
   split at hF
   ·rename_i y ny hch2
    obtain ⟨b1,b2,b3,b4⟩:=ji_ hch2
    split at hF
    ·rename_i hxy
     injection hF with hF;injection hF with e1 hF;injection hF with e2 e3
     subst e1 e2 e3
     exact set_range w0 W g Al cl l Ap cp p i deep out h hl hcl hp hpl ho.2 ho.1 hi0 hi1 hi2 hll c1 9 x nx c2 c3 c4 h45 h46 b1 y ny b2 hxy
    ·cases hF
   ·cases hF
  ·cases hF
 ·rename_i h45
  injection hF with hF;injection hF with e1 hF;injection hF with e2 e3
  subst e1 e2 e3
  exact set_char w0 W g Al cl l Ap cp p i deep out h hl hcl hp hpl ho.2 ho.1 hi0 hi1 hi2 hll c1 9 x nx c2 c3 c4 h45
theorem step_calls (h:LexAt w0 W g Al cl l Ap cp p i deep out)
  (hl:Kd.C (Kd.int .i64) w0 Al l.length l) (hcl:l.length<=cl) (hp:Kd.C (Kd.int .i64) w0 Ap p.length p) (hpl:p.length<=1000000) (hi0:0<=i) (hi1:i<l.length) (hi2:i<p.length) (hll:l.length<=1000000) (hF:stepF l p i deep out=some (i',deep',out')):
  Calls Tryz.prog 123 #[.pointer (some ⟨g,0,none⟩)] W fun e W1=>e=.returned (.tuple #[])∧LexAt w0 W1 g Al cl l Ap cp p i' deep' out':=by
 unfold stepF at hF
 by_cases ho0:¬ out.length<=1000000
 ·rw [if_pos ho0] at hF
  cases hF
 rw [if_neg ho0] at hF
 have ho:=Decidable.not_not.1 ho0
 by_cases hc61:rd l i=61
 ·rw [if_pos hc61] at hF
  injection hF with hF;injection hF with e1 hF;injection hF with e2 e3
  subst e1 e2 e3
  exact step_is w0 W g Al cl l Ap cp p i deep out h hl hcl hp hpl ho hi0 hi1 hi2 hll hc61
 rw [if_neg hc61] at hF
 by_cases hc215:rd l i=215
 ·rw [if_pos hc215] at hF
  injection hF with hF;injection hF with e1 hF;injection hF with e2 e3
  subst e1 e2 e3
  exact step_stay w0 W g Al cl l Ap cp p i deep out h hl hcl hp hpl ho hi0 hi1 hi2 hll hc215
 rw [if_neg hc215] at hF
 by_cases hc247:rd l i=247
 ·rw [if_pos hc247] at hF
  injection hF with hF;injection hF with e1 hF;injection hF with e2 e3
  subst e1 e2 e3
  exact step_cut w0 W g Al cl l Ap cp p i deep out h hl hcl hp hpl ho hi0 hi1 hi2 hll hc247
 rw [if_neg hc247] at hF
 by_cases hc124:rd l i=124
 ·rw [if_pos hc124] at hF
  injection hF with hF;injection hF with e1 hF;injection hF with e2 e3
  subst e1 e2 e3
  exact step_or w0 W g Al cl l Ap cp p i deep out h hl hcl hp hpl ho hi0 hi1 hi2 hll hc124
 rw [if_neg hc124] at hF
 by_cases hc42:rd l i=42
 ·rw [if_pos hc42] at hF
  injection hF with hF;injection hF with e1 hF;injection hF with e2 e3
  subst e1 e2 e3
  exact step_star w0 W g Al cl l Ap cp p i deep out h hl hcl hp hpl ho hi0 hi1 hi2 hll hc42
 rw [if_neg hc42] at hF
 by_cases hc46:rd l i=46
 ·rw [if_pos hc46] at hF
  injection hF with hF;injection hF with e1 hF;injection hF with e2 e3
  subst e1 e2 e3
  exact step_any w0 W g Al cl l Ap cp p i deep out h hl hcl hp hpl ho hi0 hi1 hi2 hll hc46
 rw [if_neg hc46] at hF
 by_cases hc10:rd l i=10
 ·rw [if_pos hc10] at hF
  injection hF with hF;injection hF with e1 hF;injection hF with e2 e3
  subst e1 e2 e3
  exact step_line w0 W g Al cl l Ap cp p i deep out h hl hcl hp hpl ho hi0 hi1 hi2 hll hc10
 rw [if_neg hc10] at hF
 by_cases hc36:rd l i=36
 ·rw [if_pos hc36] at hF
  unfold nameF at hF
  split at hF
  ·rename_i q
   split at hF
   ·rename_i s hs
    injection hF with hF;injection hF with e1 hF;injection hF with e2 e3
    subst e1 e2 e3
    exact step_name w0 W g Al cl l Ap cp p i deep out h hl hcl hp hpl ho hi0 hi1 hi2 hll hc36 q.1 q.2.1 q.2.2 9 s hs
   ·cases hF
  ·cases hF
 rw [if_neg hc36] at hF
 by_cases hc91:rd l i=91
 ·rw [if_pos hc91] at hF
  unfold openF at hF
  split at hF
  ·rename_i q
   injection hF with hF;injection hF with e1 hF;injection hF with e2 e3
   subst e1 e2 e3
   exact step_open w0 W g Al cl l Ap cp p i deep out h hl hcl hp hpl ho hi0 hi1 hi2 hll q.1 q.2.1 q.2.2.1 q.2.2.2 hc91
  ·cases hF
 rw [if_neg hc91] at hF
 by_cases hc:48<=rd l i∧rd l i<=57
 ·rw [if_pos hc] at hF
  obtain ⟨u,hu⟩: ∃ u,u=af_.f 99 l i:=⟨_,rfl⟩
  rw [←hu] at hF
  match u,hu,hF with
  | some (n,nx,0),hu,hF=>
   injection hF with hF;injection hF with e1 hF;injection hF with e2 e3
   subst e1 e2 e3
   exact step_num w0 W g Al cl l Ap cp p i deep out h hl hcl hp hpl ho hi0 hi1 hi2 hll hc.1 hc.2 99 n nx hu.symm
 ·rw [if_neg hc] at hF
  cases hF
end
def lexRun:Nat->List Int->List Int->Int->Int->List S159->Option (List S159)
 | 0,_,_,_,_,_=>none
 | n+1,l,p,i,deep,out=>
  if i<(l.length:Int) then
   match (if rd l i=32 then some (i+1,deep,out) else if rd l i=9 then none else if 0<deep then setF l p i deep out else stepF l p i deep out) with
   | some (i',deep',out')=>if i<i' then lexRun n l p i' deep' out' else none
   | none=>none
  else if deep<=0 then some out else none
def OfO (w0:World)(g:Nat)(Al:Option Addr)(cl:Nat)(l:List Int)(Ap:Option Addr)(cp:Nat)(p:List Int)(fin:List S159)(W1:World):Prop:= ∃ n i deep out,0<=i∧LexAt w0 W1 g Al cl l Ap cp p i deep out∧lexRun n l p i deep out=some fin
def iOf (W:World)(g:Nat):Int:=intOf ((W.cell? ⟨g,2,none⟩).getD undef)
theorem iOf_at {w0 W:World}{g:Nat}{Al Ap:Option Addr}{cl cp:Nat}{l p:List Int}{i deep:Int}{out:List S159}(h:LexAt w0 W g Al cl l Ap cp p i deep out):iOf W g=i:=by
 unfold iOf
 rw [h.c2]
 rfl
def dg_.f (l0:List Int):Option (List S159 × Int × Int):=
 match bi_.f 99 l0 with
 | some (l,p,_,0)=>if p.length=l.length+1∧l.length<=999999 then (lexRun 99 l p 0 0 []).map (fun fin=>(fin,-1,0)) else none
 | _=>none
theorem dg_.calls (A0:Option Addr)(c0:Nat)(l0:List Int)(r1:List S159)(r2 r3:Int)(w:World)(hr0:Kd.C (Kd.int .u8) w A0 l0.length l0)(hc0:l0.length<=c0)(h:dg_.f l0=some (r1,r2,r3)):
  Calls Tryz.prog 84 #[.slice A0 l0.length c0] w fun e w'=> ∃ v0_:Value,e=.returned (.tuple #[v0_,.int .i64 r2,.int .i64 r3])∧Kd.R k159 159 w' w.heap.size (fun _=>True) v0_ r1∧Below w.heap.size w w':=by
 unfold dg_.f at h
 obtain ⟨u,hu⟩: ∃ u,u=bi_.f 99 l0:=⟨_,rfl⟩
 rw [←hu] at h
 match u,hu,h with
 | some (l,p,wr,0),hu,h=>
  replace h:(if p.length=l.length+1∧l.length<=999999 then (lexRun 99 l p 0 0 []).map (fun fin=>((fin,-1,0):List S159 × Int × Int)) else none)=some (r1,r2,r3):=h
  by_cases hq:p.length=l.length+1∧l.length<=999999
  ·rw [if_pos hq] at h
   obtain ⟨fin,hv,h⟩:=Option.map_eq_some_iff.1 h
   injection h with e1 h;injection h with e2 e3
   subst e1 e2 e3
   obtain ⟨hpl,hll⟩:=hq
   have HPL:=Sd.m hpl
   clear hpl
   have HU:=Sd.m hu.symm
   have HV:=Sd.m hv
   have HR0:=Sd.m hr0
   clear hu hv hr0
   go_enter Tryz.func84,Tryz.ntmps84
   go_wp2_with fail
   refine (bi_.calls 99 A0 c0 l0 l p wr 0 w HR0.out hc0 HU.out).mono ?_
   rintro e w0 ⟨v0,v1,rfl,h0,h1,hb⟩
   obtain ⟨Al,cl,rfl⟩:=R_slice h0
   obtain ⟨Ap,cp,rfl⟩:=R_slice h1
   obtain ⟨_,hcl,hCl⟩:=R_reads' h0
   obtain ⟨_,_,hCp⟩:=R_reads' h1
   have HB:=Sd.m hb
   have HL:=Sd.m hCl
   have HP:=Sd.m hCp
   clear h0 h1 hCl hCp hb
   have hL0:LexAt w0 (w0.alloc (.cells #[.slice Al l.length cl,.slice Ap p.length cp,.int .i64 0,.int .i64 0,.slice none 0 0,.int .i64 0,.int .i64 0] 156)) w0.heap.size Al cl l Ap cp p 0 0 []:=⟨_,aj_ _ _,R_nil _ _ _ _ _,ab_ (Below.refl _ _) _,Nat.le_refl _⟩
   have HL0:=Sd.m hL0
   clear hL0
   go_wp2_with fail
   go_loopw [] (fun W1=>OfO w0 w0.heap.size Al cl l Ap cp p fin W1) (fun W1=>((l.length:Int) - iOf W1 w0.heap.size).toNat)
   case atStart=>exact ⟨99,0,0,[],by omega,HL0.out,HV.out⟩
   case round=>
    obtain ⟨n,i,deep,out,hi0,hS,hrun⟩:=hrel
    have hiO:=iOf_at hS
    have HIO:=Sd.m hiO
    clear hiO
    match n,hrun with
    | n+1,hrun=>
     rw [lexRun] at hrun
     have c2:=hS.c2
     have c6:=hS.c6
     have c3:=hS.c3
     have f2:=hS.fr 2
     by_cases hlt:i<(l.length:Int)
     ·rw [if_pos hlt] at hrun
      obtain ⟨ad,rfl,hcell⟩:=at_l HL.out hS.B i hi0 hlt
      have d0:decide ((0:Int)<=i)=true:=dt__ hi0
      have d1:decide (i<(l.length:Int))=true:=dt__ hlt
      have w2:IntKind.i64.wrap (i+1)=i+1:=IntWalk.i64_in _ (by omega)
      by_cases h32:rd l i=32
      ·rw [if_pos h32] at hrun
       replace hrun:(if i<i+1 then lexRun n l p (i+1) deep out else none)=some fin:=hrun
       rw [if_pos (by omega)] at hrun
       have b32:(rd l i == 32)=true:=by rw [h32];decide
       have HS:=Sd.m (hS.ge_ (i+1))
       have HRUN:=Sd.m hrun
       clear hS hrun h32
       go_wp2_with fail
       go_roundw
       case rel=>exact ⟨n,i+1,deep,out,by omega,HS.out,HRUN.out⟩
       case measure=>rw [iOf_at HS.out,HIO.out];omega
      ·rw [if_neg h32] at hrun
       by_cases h9:rd l i=9
       ·rw [if_pos h9] at hrun
        cases hrun
       rw [if_neg h9] at hrun
       have b32:(rd l i == 32)=false:=by simpa using h32
       have b9:(rd l i == 9)=false:=by simpa using h9
       by_cases hd:0<deep
       ·rw [if_pos hd] at hrun
        obtain ⟨u,hu⟩: ∃ u,u=setF l p i deep out:=⟨_,rfl⟩
        rw [←hu] at hrun
        match u,hu,hrun with
        | some (i',deep',out'),hu,hrun=>
         replace hrun:(if i<i' then lexRun n l p i' deep' out' else none)=some fin:=hrun
         by_cases hi':i<i'
         ·rw [if_pos hi'] at hrun
          have hcall:=set_calls hS HL.out hcl HP.out (by have:=HPL.out;omega) hi0 hlt (by have:=HPL.out;omega) (by omega) hu.symm
          have bd:decide (0<deep)=true:=dt__ hd
          have HC:=Sd.m hcall
          have HRUN:=Sd.m hrun
          clear hS hrun h32 h9 hu hcall
          go_wp2_with fail
          refine HC.out.mono ?_
          rintro e W2 ⟨rfl,hS2⟩
          have HS:=Sd.m hS2
          clear hS2
          go_wp2_with fail
          go_roundw
          case rel=>exact ⟨n,i',deep',out',by omega,HS.out,HRUN.out⟩
          case measure=>rw [iOf_at HS.out,HIO.out];omega
         ·rw [if_neg hi'] at hrun
          cases hrun
       ·rw [if_neg hd] at hrun
        obtain ⟨u,hu⟩: ∃ u,u=stepF l p i deep out:=⟨_,rfl⟩
        rw [←hu] at hrun
        match u,hu,hrun with
        | some (i',deep',out'),hu,hrun=>
         replace hrun:(if i<i' then lexRun n l p i' deep' out' else none)=some fin:=hrun
         by_cases hi':i<i'
         ·rw [if_pos hi'] at hrun
          have hcall:=step_calls hS HL.out hcl HP.out (by have:=HPL.out;omega) hi0 hlt (by have:=HPL.out;omega) (by omega) hu.symm
          have bd:decide (0<deep)=false:=df__ hd
          have HC:=Sd.m hcall
          have HRUN:=Sd.m hrun
          clear hS hrun h32 h9 hu hcall
          go_wp2_with fail
          refine HC.out.mono ?_
          rintro e W2 ⟨rfl,hS2⟩
          have HS:=Sd.m hS2
          clear hS2
          go_wp2_with fail
          go_roundw
          case rel=>exact ⟨n,i',deep',out',by omega,HS.out,HRUN.out⟩
          case measure=>rw [iOf_at HS.out,HIO.out];omega
         ·rw [if_neg hi'] at hrun
          cases hrun
     ·rw [if_neg hlt] at hrun
      by_cases hd:deep<=0
      ·rw [if_pos hd] at hrun
       injection hrun with hrun
       subst hrun
       have bd:decide (0<deep)=false:=df__ (by omega)
       have d1:decide (i<(l.length:Int))=false:=df__ hlt
       obtain ⟨A,c,hbx,hr,_,_,_⟩:=hS.cells
       have c4:=bc_ hbx 4 rfl
       have HRR:=Sd.m (R_lower hr HB.out.size)
       have HBB:=Sd.m (HB.out.trans (hS.B.mono HB.out.size))
       clear hS hbx hr
       go_wp2_with fail
       go_ret3
       exact ⟨_,rfl,HRR.out,HBB.out⟩
      ·rw [if_neg hd] at hrun
       cases hrun
  ·rw [if_neg hq] at h
   cases h
def OiO (w0:World)(g:Nat)(t:List S159)(en:Int)(fin:List S87)(s9:Value)(W1:World):Prop:= ∃ n here out,0<=here∧RdAt w0 W1 g t en here∧Kd.N k87 87 W1 w0.heap.size (fun k=>w0.heap.size<=k∧k≠g) s9 out∧itemsP n t here out=some fin
def df_.f (l0:List Int):Option (List S87 × Int × Int):=
 match dg_.f l0 with
 | some (t,_,0)=>if t.length<=1000000 then (itemsP 99 t 0 []).map (fun fin=>(fin,-1,0)) else none
 | _=>none
set_option maxHeartbeats 16000000 in
theorem df_.calls (A0:Option Addr)(c0:Nat)(l0:List Int)(r1:List S87)(r2 r3:Int)(w:World)(hr0:Kd.C (Kd.int .u8) w A0 l0.length l0)(hc0:l0.length<=c0)(h:df_.f l0=some (r1,r2,r3)):
  Calls Tryz.prog 52 #[.slice A0 l0.length c0] w fun e w'=> ∃ v0_:Value,e=.returned (.tuple #[v0_,.int .i64 r2,.int .i64 r3])∧Kd.N k87 87 w' w.heap.size (fun k_=>w.heap.size<=k_) v0_ r1∧Below w.heap.size w w':=by
 unfold df_.f at h
 obtain ⟨u,hu⟩: ∃ u,u=dg_.f l0:=⟨_,rfl⟩
 rw [←hu] at h
 match u,hu,h with
 | some (t,wr,0),hu,h=>
  replace h:(if t.length<=1000000 then (itemsP 99 t 0 []).map (fun fin=>((fin,-1,0):List S87 × Int × Int)) else none)=some (r1,r2,r3):=h
  by_cases ht:t.length<=1000000
  ·rw [if_pos ht] at h
   obtain ⟨fin,hv,h⟩:=Option.map_eq_some_iff.1 h
   injection h with e1 h;injection h with e2 e3
   subst e1 e2 e3
   have HU:=Sd.m hu.symm
   have HV:=Sd.m hv
   have HR0:=Sd.m hr0
   clear hu hv hr0
   go_enter Tryz.func52,Tryz.ntmps52
   go_wp2_with fail
   refine (dg_.calls A0 c0 l0 t wr 0 w HR0.out hc0 HU.out).mono ?_
   rintro e w0 ⟨v0,rfl,h0,hb⟩
   obtain ⟨At,ct,rfl⟩:=R_slice h0
   obtain ⟨_,hct,hCt⟩:=R_reads' h0
   have HB:=Sd.m hb
   have HT:=Sd.m hCt
   clear h0 hCt hb
   have hR0:RdAt w0 (w0.alloc (.cells #[.slice At t.length ct,.int .i64 l0.length,.int .i64 0,.int .i64 0,.int .i64 0] 117)) w0.heap.size t l0.length 0:=⟨IsS117.new w0 w0 At ct t l0.length 0 0 0 (Below.refl _ _) HT.out,ab_ (Below.refl _ _) _⟩
   have HRD:=Sd.m hR0
   clear hR0
   go_wp2_with fail
   go_loopw [9] (fun s9 W1=>OiO w0 w0.heap.size t l0.length fin s9 W1) (fun _ W1=>((t.length:Int) - hereOf W1 w0.heap.size).toNat)
   case atStart=>exact ⟨99,0,[],by omega,HRD.out,N_nil _ _ _ _ _,HV.out⟩
   case round=>
    obtain ⟨n,here,out,hi0,hS,hN,hrun⟩:=hrel
    obtain ⟨A9,c9,rfl⟩:=N_slice hN
    have HHO:=Sd.m (du_ hS)
    match n,hrun with
    | n+1,hrun=>
     rw [itemsP] at hrun
     have c3:=hS.c3
     have c4:=hS.c4
     by_cases hlt:here<(t.length:Int)
     ·rw [if_pos hlt] at hrun
      have d1:decide (here<(t.length:Int))=true:=dt__ hlt
      have HKC:=Sd.m (by_ hS hi0)
      by_cases h18:kdF t here=18
      ·rw [if_pos h18] at hrun
       have b18:(kdF t here == 18)=true:=by rw [h18];decide
       have HN:=Sd.m hN
       have HRUN:=Sd.m hrun
       clear hS hN hrun h18
       go_wp2_with fail
       refine HKC.out.mono ?_
       rintro e V1 ⟨rfl,hS1,hK1⟩
       have c4:=hS1.c4
       have f4:=hS1.f4
       have w1:IntKind.i64.wrap (here+1)=here+1:=IntWalk.i64_in _ (by omega)
       have HS2:=Sd.m (hS1.set (here+1))
       have HN2:=Sd.m (N_far (p:=⟨w0.heap.size,4,none⟩) (N_keep HN.out hK1 (fun k hk=>hk.2)) (fun k hk=>hk.2) (.int .i64 (here+1)))
       clear hS1 hK1 c3
       go_wp2_with fail
       go_roundw
       case rel=>exact ⟨n,here+1,out,by omega,HS2.out,HN2.out,HRUN.out⟩
       case measure=>rw [du_ HS2.out,HHO.out];omega
      ·rw [if_neg h18] at hrun
       have b18:(kdF t here == 18)=false:=by simpa using h18
       by_cases h99:out.length<=99
       ·rw [if_pos h99] at hrun
        obtain ⟨⟨x,h2⟩,hp,hrun⟩:=Option.bind_eq_some_iff.1 hrun
        dsimp only at hrun
        by_cases hq:here<h2∧(kdF t h2=18∨kdF t h2=0)
        ·rw [if_pos hq] at hrun
         have b99:((out.length:Int) == 100)=false:=by simp;omega
         have HP:=Sd.m hp
         have HN:=Sd.m hN
         have HRUN:=Sd.m hrun
         have HQ:=Sd.m hq
         clear hS hN hrun h18 hp hq
         go_wp2_with fail
         refine HKC.out.mono ?_
         rintro e V1 ⟨rfl,hS1,hK1⟩
         have HS1:=Sd.m hS1
         have HN1:=Sd.m (N_keep HN.out hK1 (fun k hk=>hk.2))
         clear hS1 hK1 c3
         go_wp2_with fail
         refine (item_calls ht HS1.out hi0 HP.out).mono ?_
         rintro e V2 ⟨v,rfl,⟨A3,c3,B3,d3,rfl,l3,hF3,m3,hG3⟩,hS2,hK2⟩
         have hN2:=N_keep HN1.out hK2 (fun k hk=>hk.2)
         have hFK:Kd.FK k87 V2 (fun k=>V1.heap.size<=k) x [.int .i64 x.f0,.string x.f1,.int .i64 x.f2,.bool x.f3,.int .i64 x.f4.f0,.string x.f4.f1,.int .i64 x.f4.f2,.int .i64 x.f4.f3,.slice A3 x.f4.f4.length c3,.int .i64 x.f5.f0,.string x.f5.f1,.int .i64 x.f5.f2,.int .i64 x.f5.f3,.slice B3 x.f5.f4.length d3,.int .i64 x.f6]:=k87_mkF V2 _ x l3 hF3 m3 hG3
         have hlt1:w0.heap.size<V1.heap.size:=HS1.out.lt
         have hsz:V1.heap.size<=V2.heap.size:=hK2.1
         have HS2:=Sd.m hS2
         have HN2:=Sd.m hN2
         have HFK:=Sd.m hFK
         have HOK:=Sd.m (show ∀ k,V1.heap.size<=k->(w0.heap.size<=k∧k≠w0.heap.size)∧some k≠(Value.slice A9 out.length c9).ownBlock from fun k hk=>⟨⟨by omega,by omega⟩,fun e=>by have:=N_lt HN1.out k e.symm;omega⟩)
         have HFR:=Sd.m (show ∀ k,V2.heap.size<=k->w0.heap.size<=k∧k≠w0.heap.size from fun k hk=>⟨by omega,by omega⟩)
         have HML:=Sd.m (show (out.length+1)*176<=140737488355328 by omega)
         have HSZ:=Sd.m hsz
         have HL1:=Sd.m hlt1
         clear hN2 hFK hF3 hG3 hS2 hK2 hsz hlt1
         go_upto_region 12 with (at_builtin;refine N_append k87 (w0:=w0) (W:=V2) w0.heap.size rfl _ _ 24 87 (.agg #[.int .i64 0,.string ⟨#[]⟩,.int .i64 0,.bool false,.int .i64 0,.string ⟨#[]⟩,.int .i64 0,.int .i64 0,.slice none 0 0,.int .i64 0,.string ⟨#[]⟩,.int .i64 0,.int .i64 0,.slice none 0 0,.int .i64 0]) 176 rfl Tryz.underlying24 (by kernel_rfl) rfl (by decide) (by decide) (.slice A9 out.length c9) out x [.int .i64 x.f0,.string x.f1,.int .i64 x.f2,.bool x.f3,.int .i64 x.f4.f0,.string x.f4.f1,.int .i64 x.f4.f2,.int .i64 x.f4.f3,.slice A3 x.f4.f4.length c3,.int .i64 x.f5.f0,.string x.f5.f1,.int .i64 x.f5.f2,.int .i64 x.f5.f3,.slice B3 x.f5.f4.length d3,.int .i64 x.f6] (fun k=>w0.heap.size<=k∧k≠w0.heap.size) (fun k=>V1.heap.size<=k) rfl rfl HFK.out HOK.out HFR.out HN2.out HS2.out.2 HS2.out.2.size HML.out ?_;intro v5 V5 hNx hB5 hg5 hat5;have HNX:=Sd.m hNx;have HG5:=Sd.m hg5;have HB5:=Sd.m hB5;clear hNx hg5 hB5 hat5)
         have hne5:some w0.heap.size≠(Value.slice A9 out.length c9).ownBlock:=fun e=>(N_away HN2.out (g:=w0.heap.size) (fun k hk=>hk.2)) e
         have hS5:RdAt w0 V5 w0.heap.size t l0.length h2:=⟨HS2.out.1.grown HG5.out hne5,HB5.out⟩
         have c3_:=hS5.c3
         have h20:0<=h2:=by have:=HQ.out.1;omega
         have hkc:=by_ hS5 h20
         have HKC5:=Sd.m hkc
         clear hkc hS5 hne5
         obtain ⟨hq1,hq2⟩:=HQ.out
         rcases hq2 with k18 | k00
         ·have b1:(kdF t h2 != 18)=false:=by rw [k18];decide
          clear k18
          go_wp2_with fail
          refine HKC5.out.mono ?_
          rintro e V6 ⟨rfl,hS6,hK6⟩
          have HS6:=Sd.m hS6
          have HN6:=Sd.m (N_keep HNX.out hK6 (fun k hk=>hk.2))
          clear hS6 hK6 c3_
          go_wp2_with fail
          go_roundw
          case rel=>exact ⟨n,h2,out ++ [x],h20,HS6.out,HN6.out,HRUN.out⟩
          case measure=>rw [du_ HS6.out,HHO.out];omega
         ·have b1:(kdF t h2 != 18)=true:=by rw [k00];decide
          have b2:(kdF t h2 != 0)=false:=by rw [k00];decide
          clear k00
          go_wp2_with fail
          refine HKC5.out.mono ?_
          rintro e V6 ⟨rfl,hS6,hK6⟩
          have HS6:=Sd.m hS6
          have HN6:=Sd.m (N_keep HNX.out hK6 (fun k hk=>hk.2))
          clear hS6 hK6 c3_
          go_wp2_with fail
          refine (by_ HS6.out h20).mono ?_
          rintro e V7 ⟨rfl,hS7,hK7⟩
          have HS7:=Sd.m hS7
          have HN7:=Sd.m (N_keep HN6.out hK7 (fun k hk=>hk.2))
          clear hS7 hK7
          go_wp2_with fail
          go_roundw
          case rel=>exact ⟨n,h2,out ++ [x],h20,HS7.out,HN7.out,HRUN.out⟩
          case measure=>rw [du_ HS7.out,HHO.out];omega
        ·rw [if_neg hq] at hrun
         cases hrun
       ·rw [if_neg h99] at hrun
        cases hrun
     ·rw [if_neg hlt] at hrun
      injection hrun with hrun
      subst hrun
      have d1:decide (here<(t.length:Int))=false:=df__ hlt
      have HRR:=Sd.m (N_lower (N_mono hN (ok':=fun k=>w.heap.size<=k) (fun k hk=>by have:=HB.out.size;omega)) HB.out.size)
      have HBB:=Sd.m (HB.out.trans (hS.2.mono HB.out.size))
      clear hS hN
      go_wp2_with fail
      go_ret3
      exact ⟨_,rfl,HRR.out,HBB.out⟩
  ·rw [if_neg ht] at h
   cases h
open L B
theorem bd_name (W0:World)(x:S87)(p:S45)(hx0:x.f0=1)(hx4:x.f4.f0=4)
  (hw: ∀ (W:World) (A:Option Addr) (c:Nat),x.f4.f4.length<=c->Kd.C k85 W A x.f4.f4.length x.f4.f4->Calls Tryz.prog 135 #[.agg (NdC x.f4 A c),.slice none 0 0] W (PatAns W (fun _=>False) p)):
  OneStep W0 x [] [⟨x.f1,p,true,x.f6⟩] [] []:=by
 intro W Q AV cv AR cr A c B d hb hcv hV hcr hR hA hC hB hD
 obtain ⟨rfl,rfl⟩:=hcv.2 rfl
 obtain ⟨rfl,rfl⟩:=hcr.2 rfl
 refine (one_name W x A c B d p hx0 hx4 (fun W' hb'=>hw W' A c hA (Kd.C_below hC hb'))).mono ?_
 rintro e w' ⟨A1,c1,rfl,h1,hF,hb1⟩
 exact ⟨A1,c1,none,0,rfl,⟨h1,fun h=>by cases h⟩,F_mono hF (fun k hk=>Or.inr hk),⟨Nat.le_refl _,fun _=>⟨rfl,rfl⟩⟩,F_nil _ _ _,hb1⟩
theorem bd_rule1 (W0:World)(x:S87)(v:S93)(p1 p2:S45)(hx0:x.f0=2)(kk:Nat)(hf:br_.f kk [v] [] [] [] x.f2=some (-1))
  (h1: ∀ (W:World) (P:Nat->Prop) (AV:Option Addr) (cv:Nat) (A:Option Addr) (c:Nat),1<=cv->Kd.F k93 W P AV 1 [v]->x.f4.f4.length<=c->Kd.C k85 W A x.f4.f4.length x.f4.f4->Calls Tryz.prog 135 #[.agg (NdC x.f4 A c),.slice AV 1 cv] W (PatAns W P p1))
  (h2: ∀ (W:World) (P:Nat->Prop) (AV:Option Addr) (cv:Nat) (A:Option Addr) (c:Nat),1<=cv->Kd.F k93 W P AV 1 [v]->x.f5.f4.length<=c->Kd.C k85 W A x.f5.f4.length x.f5.f4->Calls Tryz.prog 135 #[.agg (NdC x.f5 A c),.slice AV 1 cv] W (PatAns W P p2)):
  OneStep W0 x [v] [v] [] [⟨x.f2,x.f3,p1,p2,x.f6⟩]:=by
 intro W Q AV cv AR cr A c B d hb hcv hV hcr hR hA hC hB hD
 obtain ⟨rfl,rfl⟩:=hcr.2 rfl
 have hV': ∀ W',Below W.heap.size W W'->Kd.F k93 W' (fun j=>(Q j∧j<W.heap.size)∧j<W.heap.size) AV 1 [v]:=fun W' hb'=>F_mono (F_below (F_bound hV) hb') (fun j hj=>⟨hj,hj.2⟩)
 refine (one_rule W (fun k=>Q k∧k<W.heap.size) x A c B d p1 p2 [v] AV cv hcv.1 (F_now hV) [] none 0 (Nat.le_refl _) (C_nil _ _) (by decide) [⟨x.f2,x.f3,p1,p2,x.f6⟩] hx0 kk hf
  (fun W' hb'=>h1 W' _ AV cv A c hcv.1 (hV' W' hb') hA (Kd.C_below hC hb')) (fun W' hb'=>h2 W' _ AV cv B d hcv.1 (hV' W' hb') hB (Kd.C_below hD hb')) (fun W' a3 b3 a4 b4 a5 b5 a7 b7 a8 b8 a9 b9 hb' hsz hFK=>?_)).mono ?_
 ·refine (put_first W' ⟨x.f2,x.f3,p1,p2,x.f6⟩ a3 b3 a4 b4 a5 b5 a7 b7 a8 b8 a9 b9 _ hFK).mono ?_
  rintro e w' ⟨A1,c1,rfl,h3,hF,hb1⟩
  exact ⟨A1,c1,rfl,h3,F_mono hF (fun k hk=>Or.elim hk (fun h=>h.1) (fun h=>Or.inr (Nat.le_trans hsz h))),hb1⟩
 ·rintro e w' ⟨A1,c1,rfl,h3,hF,hb1⟩
  exact ⟨AV,cv,A1,c1,rfl,hcv,F_mono (F_below (F_bound hV) hb1) (fun k hk=>Or.inl hk),⟨h3,fun h=>by cases h⟩,hF,hb1⟩
theorem bd_rule2 (W0:World)(x:S87)(v:S93)(r:S55)(p1 p2:S45)(hx0:x.f0=2)(hlt:r.f0<x.f2)(kk:Nat)(hf:br_.f kk [v] [r] [] [] x.f2=some (-1))
  (h1: ∀ (W:World) (P:Nat->Prop) (AV:Option Addr) (cv:Nat) (A:Option Addr) (c:Nat),1<=cv->Kd.F k93 W P AV 1 [v]->x.f4.f4.length<=c->Kd.C k85 W A x.f4.f4.length x.f4.f4->Calls Tryz.prog 135 #[.agg (NdC x.f4 A c),.slice AV 1 cv] W (PatAns W P p1))
  (h2: ∀ (W:World) (P:Nat->Prop) (AV:Option Addr) (cv:Nat) (A:Option Addr) (c:Nat),1<=cv->Kd.F k93 W P AV 1 [v]->x.f5.f4.length<=c->Kd.C k85 W A x.f5.f4.length x.f5.f4->Calls Tryz.prog 135 #[.agg (NdC x.f5 A c),.slice AV 1 cv] W (PatAns W P p2)):
  OneStep W0 x [v] [v] [r] [r,⟨x.f2,x.f3,p1,p2,x.f6⟩]:=by
 intro W Q AV cv AR cr A c B d hb hcv hV hcr hR hA hC hB hD
 have hV': ∀ W',Below W.heap.size W W'->Kd.F k93 W' (fun j=>(Q j∧j<W.heap.size)∧j<W.heap.size) AV 1 [v]:=fun W' hb'=>F_mono (F_below (F_bound hV) hb') (fun j hj=>⟨hj,hj.2⟩)
 refine (one_rule W (fun k=>Q k∧k<W.heap.size) x A c B d p1 p2 [v] AV cv hcv.1 (F_now hV) [r] AR cr hcr.1 (F_now hR) (Nat.le_of_ble_eq_true rfl) [r,⟨x.f2,x.f3,p1,p2,x.f6⟩] hx0 kk hf
  (fun W' hb'=>h1 W' _ AV cv A c hcv.1 (hV' W' hb') hA (Kd.C_below hC hb')) (fun W' hb'=>h2 W' _ AV cv B d hcv.1 (hV' W' hb') hB (Kd.C_below hD hb')) (fun W' a3 b3 a4 b4 a5 b5 a7 b7 a8 b8 a9 b9 hb' hsz hFK=>?_)).mono ?_
 ·refine (put_second W' ⟨x.f2,x.f3,p1,p2,x.f6⟩ a3 b3 a4 b4 a5 b5 a7 b7 a8 b8 a9 b9 _ hFK r AR cr hcr.1 (F_mono (F_below (F_bound hR) hb') (fun j hj=>Or.inl ⟨hj,hj.2⟩)) hlt).mono ?_
  rintro e w' ⟨A1,c1,rfl,h3,hF,hb1⟩
  exact ⟨A1,c1,rfl,h3,F_mono hF (fun k hk=>Or.elim hk (fun h=>h.1) (fun h=>Or.inr (Nat.le_trans hsz h))),hb1⟩
 ·rintro e w' ⟨A1,c1,rfl,h3,hF,hb1⟩
  exact ⟨AV,cv,A1,c1,rfl,hcv,F_mono (F_below (F_bound hV) hb1) (fun k hk=>Or.inl hk),⟨h3,fun h=>by cases h⟩,hF,hb1⟩
theorem read_by (W:World)(A0:Option Addr)(c0:Nat)(b:List Int)(its:List S87)(hC0:Kd.C (Kd.int .u8) W A0 b.length b)(hc0:b.length<=c0)(hit:df_.f b=some (its,-1,0))
  (vv:S93) (LRn:List S55)
  (hbd: ∀ (W':World) (A:Option Addr) (c:Nat),its.length<=c->Kd.C k87 W' A its.length its->Calls Tryz.prog 71 #[.slice A its.length c] W' fun e w'=> ∃ AV cv AR cr AU cu,e=.returned (.tuple #[.agg #[.slice AV 1 cv,.slice AR LRn.length cr,.slice none 0 0,.slice AU 1 cu],.int .i64 (-1),.int .i64 0])∧1<=cv∧LRn.length<=cr∧1<=cu∧Kd.F k93 w' (fun j=>W'.heap.size<=j) AV 1 [vv]∧Kd.F k55 w' (fun j=>W'.heap.size<=j) AR LRn.length LRn∧Kd.F Kd.string w' (fun j=>W'.heap.size<=j) AU 1 [vv.f0]∧Below W'.heap.size W' w'):
  Calls Tryz.prog 39 #[.slice A0 b.length c0] W fun e w'=> ∃ AV cv AR cr AU cu,e=.returned (.tuple #[.agg #[.slice AV 1 cv,.slice AR LRn.length cr,.slice none 0 0,.slice AU 1 cu],.int .i64 (-1),.int .i64 0])∧1<=cv∧LRn.length<=cr∧1<=cu∧Kd.F k93 w' (fun j=>W.heap.size<=j) AV 1 [vv]∧Kd.F k55 w' (fun j=>W.heap.size<=j) AR LRn.length LRn∧Kd.F Kd.string w' (fun j=>W.heap.size<=j) AU 1 [vv.f0]∧Below W.heap.size W w':=by
 obtain ⟨W1,hW1⟩: ∃ W_,W_=W.alloc (.cells #[.slice none 0 0,.slice none 0 0,.slice none 0 0,.slice none 0 0] 27):=⟨_,rfl⟩
 have hb1:Below W.heap.size W W1:=by rw [hW1];exact ab_ (Below.refl W.heap.size W) _
 have hs1:W1.heap.size=W.heap.size+1:=by rw [hW1];exact Array.size_push _
 have hr1:W1.heap[W.heap.size]? =some (.cells #[.slice none 0 0,.slice none 0 0,.slice none 0 0,.slice none 0 0] 27 (0,0)):=by rw [hW1];exact aj_ W _
 have HOF:=Sd.m (df_.calls A0 c0 b its (-1) 0 W1 (Kd.C_below hC0 hb1) hc0 hit)
 have HB1:=Sd.m hb1
 have HS1:=Sd.m hs1
 have HR1:=Sd.m hr1
 have HBD:=Sd.m hbd
 clear hb1 hs1 hr1 hC0 hit hbd
 go_enter Tryz.func39,Tryz.ntmps39
 go_wp2_with fail
 rw [←hW1]
 clear hW1
 refine HOF.out.mono ?_
 rintro e V ⟨v,rfl,hN,hb⟩
 obtain ⟨A,c,rfl⟩:=N_slice hN
 obtain ⟨_,hc,hF⟩:=N_reads' hN
 have HV:=Sd.m hb
 have HC:=Sd.m (HBD.out V A c hc hF)
 clear hN hF hb
 go_wp2_with fail
 refine HC.out.mono ?_
 rintro e V1 ⟨AV,cv,AR,cr,AU,cu,rfl,h1,h2,h3,hF1,hF2,hF3,hb⟩
 have hr:=ag_ HR1.out (HV.out.trans (hb.mono HV.out.size))
 have hB:Below W.heap.size W V1:=HB1.out.trans ((HV.out.trans (hb.mono HV.out.size)).mono HB1.out.size)
 have hs:W.heap.size+1<=V.heap.size:=by have:=HS1.out;have:=HV.out.size;omega
 have n0:=bc_ hr 0 rfl
 have m0:=aa_ hr 0
 have n1:=bc_ hr 1 rfl
 have m1:=aa_ hr 1
 have n2:=bc_ hr 2 rfl
 have m2:=aa_ hr 2
 have n3:=bc_ hr 3 rfl
 have m3:=aa_ hr 3
 obtain ⟨V5,hV5⟩: ∃ W_,W_=putL V1 W.heap.size 0 [.slice AV 1 cv,.slice AR LRn.length cr,.slice none 0 0,.slice AU 1 cu]:=⟨_,rfl⟩
 have hr5:V5.heap[W.heap.size]? =some (.cells #[.slice AV 1 cv,.slice AR LRn.length cr,.slice none 0 0,.slice AU 1 cu] 27 (0,0)):=by rw [hV5];exact cr_ _ V1 0 _ hr
 have hb5:Below W.heap.size W V5:=by rw [hV5];exact cn_ (Nat.le_refl _) _ _ _ hB
 have ok1: ∀ j,V.heap.size<=j->j≠W.heap.size:=fun j hj=>by omega
 have ok2: ∀ j,V.heap.size<=j->W.heap.size<=j:=fun j hj=>by omega
 have h5:Kd.F k93 V5 (fun j=>W.heap.size<=j) AV 1 [vv]:=by rw [hV5];exact F_mono (cf_ ok1 _ _ _ hF1) ok2
 have h6:Kd.F k55 V5 (fun j=>W.heap.size<=j) AR LRn.length LRn:=by rw [hV5];exact F_mono (cf_ ok1 _ _ _ hF2) ok2
 have h7:Kd.F Kd.string V5 (fun j=>W.heap.size<=j) AU 1 [vv.f0]:=by rw [hV5];exact F_mono (cf_ ok1 _ _ _ hF3) ok2
 replace hV5:V5=(((V1.setCell ⟨W.heap.size,0,none⟩ (.slice AV 1 cv)).setCell ⟨W.heap.size,1,none⟩ (.slice AR LRn.length cr)).setCell ⟨W.heap.size,2,none⟩ (.slice none 0 0)).setCell ⟨W.heap.size,3,none⟩ (.slice AU 1 cu):=hV5
 have HR5:=Sd.m hr5
 have HB5:=Sd.m hb5
 have H5:=Sd.m h5
 have H6:=Sd.m h6
 have H7:=Sd.m h7
 have HV5:=Sd.m hV5
 clear hr hB hs hr5 hb5 ok1 ok2 h5 h6 h7 hV5 hF1 hF2 hF3 hb
 go_wp2_with fail
 rw [←HV5.out]
 refine bodyPost_ret (ic_ rfl _ _ W.heap.size 27 #[.slice AV 1 cv,.slice AR LRn.length cr,.slice none 0 0,.slice AU 1 cu] (0,0) _ rfl HR5.out Tryz.underlying27 rfl (by kernel_rfl)) rfl ?_
 exact ⟨AV,cv,AR,cr,AU,cu,rfl,h1,h2,h3,H5.out,H6.out,H7.out,HB5.out⟩
end LX
namespace P
open A L B
theorem ek_ {P:Int->Bool}{xs:List S74}(h:Spec P xs 1114112):canonF P=xs:=(hq_ h).symm
theorem plain_a:bp_.f [⟨97,99⟩]=some [⟨97,99⟩]:=by
 have h:orF [⟨97,99⟩] []=[⟨97,99⟩]:=by
  refine ek_ ⟨by simp [Can],fun c h0 h1=>Bool.eq_iff_iff.mpr ?_⟩
  simp [Mem,inR,hasB]
 unfold bp_.f bu_.f
 rw [h]
 rfl
theorem plain_b:bp_.f [⟨98,98⟩]=some [⟨98,98⟩]:=by
 have h:orF [⟨98,98⟩] []=[⟨98,98⟩]:=by
  refine ek_ ⟨by simp [Can],fun c h0 h1=>Bool.eq_iff_iff.mpr ?_⟩
  simp [Mem,inR,hasB]
 unfold bp_.f bu_.f
 rw [h]
 rfl
theorem or_a:bu_.f [] [⟨97,99⟩]=some [⟨97,99⟩]:=by
 have h:orF [] [⟨97,99⟩]=[⟨97,99⟩]:=by
  refine ek_ ⟨by simp [Can],fun c h0 h1=>Bool.eq_iff_iff.mpr ?_⟩
  simp [Mem,inR,hasB]
 unfold bu_.f
 rw [h]
theorem or_b:bu_.f [] [⟨98,98⟩]=some [⟨98,98⟩]:=by
 have h:orF [] [⟨98,98⟩]=[⟨98,98⟩]:=by
  refine ek_ ⟨by simp [Can],fun c h0 h1=>Bool.eq_iff_iff.mpr ?_⟩
  simp [Mem,inR,hasB]
 unfold bu_.f
 rw [h]
end P
namespace LX
open Shelf YthfceiincmkccaaGreatW.PrintWords.Kd A K L B P
def lit:List Int:=[36,97,61,91,97,45,99,93,10,51,32,36,97,32,195,151,32,91,98,93,42,10,52,32,36,97,32,195,183]
def ndR (lo hi:Int):S85:=⟨5,⟨#[]⟩,lo,hi,[]⟩
def ndS (k:S85):S85:=⟨4,⟨#[]⟩,0,0,[k]⟩
def ndA:S85:=⟨2,⟨#[97]⟩,0,0,[]⟩
def ndB:S85:=⟨10,⟨#[]⟩,0,0,[ndS (ndR 98 98)]⟩
def ndE:S85:=⟨1,⟨#[]⟩,0,0,[]⟩
def itA:S87:=⟨1,⟨#[97]⟩,0,false,ndS (ndR 97 99),⟨0,⟨#[]⟩,0,0,[]⟩,0⟩
def itB:S87:=⟨2,⟨#[]⟩,3000,false,ndA,ndB,9⟩
def itC:S87:=⟨2,⟨#[]⟩,4000,true,ndA,ndE,22⟩
theorem lit_items:df_.f lit=some ([itA,itB,itC],-1,0):=by kernel_rfl
def pA:S45:=⟨2,[⟨97,99⟩],[],[]⟩
def pB:S45:=⟨5,[],[],[⟨2,[⟨98,98⟩],[],[]⟩]⟩
def pE:S45:=⟨1,[],[],[]⟩
def vA:S93:=⟨⟨#[97]⟩,pA,true,0⟩
def rB:S55:=⟨3000,false,pA,pB,9⟩
def rC:S55:=⟨4000,true,pA,pE,22⟩
theorem whole_ndS (lo hi:Int)(hp:bp_.f [⟨lo,hi⟩]=some [⟨lo,hi⟩])(ho:bu_.f [] [⟨lo,hi⟩]=some [⟨lo,hi⟩])(W:World)(P:Nat->Prop)(A:Option Addr)(c:Nat)(vl:Value)(hk:Kd.C k85 W A 1 [ndR lo hi]):
  Calls Tryz.prog 170 #[.agg (NdC (ndS (ndR lo hi)) A c),vl] W (PatAns W P ⟨2,[⟨lo,hi⟩],[],[]⟩):=by
 refine whole_set W P ⟨#[]⟩ 0 (.slice A 1 c) vl [⟨lo,hi⟩] fun W' hb=>?_
 refine set8_one (ndR lo hi) [⟨lo,hi⟩] [⟨lo,hi⟩] ho (Nat.le_of_ble_eq_true rfl) W' A c 0 ⟨#[]⟩ vl (Kd.C_below hk hb) fun W2 A4 c4 _ _=>?_
 exact set8_range lo hi [⟨lo,hi⟩] hp (Nat.le_of_ble_eq_true rfl) W2 A4 c4 ⟨#[]⟩ vl
theorem exp_A (W:World)(P:Nat->Prop)(AV:Option Addr)(cv:Nat)(A:Option Addr)(c:Nat)(hcv:1<=cv)(hV:Kd.F k93 W P AV 1 [vA]):Calls Tryz.prog 135 #[.agg (NdC ndA A c),.slice AV 1 cv] W (PatAns W P pA):=by
 refine fa_ W P ndA A c (.slice AV 1 cv) pA (fun W' hb=>?_) 5 1 (by kernel_rfl) (by decide)
 exact whole_name W' (fun j=>P j∧j<W.heap.size) vA AV cv hcv (F_below (F_bound hV) hb) 5 ⟨#[97]⟩ (by kernel_rfl) 0 0 (.slice A 0 c)
theorem exp_S (lo hi:Int)(hp:bp_.f [⟨lo,hi⟩]=some [⟨lo,hi⟩])(ho:bu_.f [] [⟨lo,hi⟩]=some [⟨lo,hi⟩])(W:World)(P:Nat->Prop)(A:Option Addr)(c:Nat)(vl:Value)(hk:Kd.C k85 W A 1 [ndR lo hi]):Calls Tryz.prog 135 #[.agg (NdC (ndS (ndR lo hi)) A c),vl] W (PatAns W P ⟨2,[⟨lo,hi⟩],[],[]⟩):=by
 refine fa_ W P (ndS (ndR lo hi)) A c vl ⟨2,[⟨lo,hi⟩],[],[]⟩ (fun W' hb=>?_) 5 1 (by kernel_rfl) (by decide)
 exact whole_ndS lo hi hp ho W' _ A c vl (Kd.C_below hk hb)
theorem exp_B (W:World)(P:Nat->Prop)(A:Option Addr)(c:Nat)(vl:Value)(hk:Kd.C k85 W A 1 [ndS (ndR 98 98)]):Calls Tryz.prog 135 #[.agg (NdC ndB A c),vl] W (PatAns W P pB):=by
 refine fa_ W P ndB A c vl pB (fun W' hb=>?_) 9 2 (by kernel_rfl) (by decide)
 refine whole_star W' (fun j=>P j∧j<W.heap.size) (ndS (ndR 98 98)) ⟨2,[⟨98,98⟩],[],[]⟩ ⟨#[]⟩ 0 0 A c vl (Kd.C_below hk hb) fun W2 A4 c4 hb2 h4 hC4=>?_
 exact whole_ndS 98 98 plain_b or_b W2 _ A4 c4 vl hC4
theorem exp_E (W:World)(P:Nat->Prop)(A:Option Addr)(c:Nat)(vl:Value):Calls Tryz.prog 135 #[.agg (NdC ndE A c),vl] W (PatAns W P pE):=by
 refine fa_ W P ndE A c vl pE (fun W' hb=>?_) 5 1 (by kernel_rfl) (by decide)
 exact whole_empty W' _ ⟨#[]⟩ 0 0 (.slice A 0 c) vl
def bLV (k:Int):List S93:=if k<=0 then [] else [vA]
def bLR (k:Int):List S55:=if k<=1 then [] else if k<=2 then [rB] else [rB,rC]
def bNM (k:Int):List ByteArray:=if k<=1 then [] else if k<=2 then [⟨#[97]⟩] else [⟨#[97]⟩,⟨#[97]⟩]
def bNA (k:Int):List ByteArray:=if k<=0 then [] else [⟨#[97]⟩]
theorem three {p:Int->Prop}(h0:p 0)(h1:p 1)(h2:p 2): ∀ k:Int,0<=k->k<(([itA,itB,itC]:List S87).length:Int)->p k:=by
 intro k ha hb
 have hb':k<3:=hb
 obtain rfl | rfl | rfl:k=0∨k=1∨k=2:=by omega
 ·exact h0
 ·exact h1
 ·exact h2
theorem lit_build (W:World)(A0:Option Addr)(c0:Nat)(hc0:3<=c0)(hl:Kd.C k87 W A0 3 [itA,itB,itC]):
  Calls Tryz.prog 71 #[.slice A0 3 c0] W fun e w'=> ∃ AV cv AR cr AU cu,e=.returned (.tuple #[.agg #[.slice AV 1 cv,.slice AR 2 cr,.slice none 0 0,.slice AU 1 cu],.int .i64 (-1),.int .i64 0])∧1<=cv∧2<=cr∧1<=cu∧Kd.F k93 w' (fun j=>W.heap.size<=j) AV 1 [vA]∧Kd.F k55 w' (fun j=>W.heap.size<=j) AR 2 [rB,rC]∧Kd.F Kd.string w' (fun j=>W.heap.size<=j) AU 1 [vA.f0]∧Below W.heap.size W w':=by
 refine build_loop W [itA,itB,itC] A0 c0 hc0 hl (by decide) bLV bLR bNM rfl rfl rfl (three ?_ ?_ ?_) bNA (fun _=>[]) (three ⟨9,?_⟩ ⟨9,?_⟩ ⟨9,?_⟩) (three ⟨9,?_⟩ ⟨9,?_⟩ ⟨9,?_⟩) (three ?_ ?_ ?_) vA rfl 9 ?_ (three ?_ ?_ ?_)
 ·exact bd_name W itA pA rfl rfl fun W' A c hA hC=>exp_S 97 99 plain_a or_a W' _ A c _ hC
 ·exact bd_rule1 W itB vA pA pB rfl 9 (by kernel_rfl) (fun W' P AV cv A c hcv hV _ _=>exp_A W' P AV cv A c hcv hV) (fun W' P AV cv A c hcv hV _ hC=>exp_B W' P A c _ hC)
 ·exact bd_rule2 W itC vA rB pA pE rfl (by decide) 9 (by kernel_rfl) (fun W' P AV cv A c hcv hV _ _=>exp_A W' P AV cv A c hcv hV) (fun W' P AV cv A c hcv hV _ hC=>exp_E W' P A c _)
 all_goals first | kernel_rfl | exact ⟨rfl,by decide⟩ | decide
theorem lit_read (W:World)(A0:Option Addr)(c0:Nat)(hC0:Kd.C (Kd.int .u8) W A0 29 lit)(hc0:29<=c0):
  Calls Tryz.prog 39 #[.slice A0 29 c0] W fun e w'=> ∃ AV cv AR cr AU cu,e=.returned (.tuple #[.agg #[.slice AV 1 cv,.slice AR 2 cr,.slice none 0 0,.slice AU 1 cu],.int .i64 (-1),.int .i64 0])∧1<=cv∧2<=cr∧1<=cu∧Kd.F k93 w' (fun j=>W.heap.size<=j) AV 1 [vA]∧Kd.F k55 w' (fun j=>W.heap.size<=j) AR 2 [rB,rC]∧Kd.F Kd.string w' (fun j=>W.heap.size<=j) AU 1 [vA.f0]∧Below W.heap.size W w':=
 read_by W A0 c0 lit [itA,itB,itC] hC0 hc0 lit_items vA [rB,rC] fun W' A c hc hC=>lit_build W' A c hc hC
end LX
namespace P
open A L B
def plF (l:List S74):List S74:=orF l []
theorem plF_eq (l:List S74):plF l=canonF (hasB l):=by
 unfold plF orF
 exact ef_ fun c _ _=>by simp [hasB,Mem]
def szF (xs:List S74):Int:=(xs.map fun r=>r.f1 - r.f0+1).sum
theorem ju_:szF []=0:=rfl
theorem fx_ (r:S74)(xs:List S74):szF (r :: xs)=(r.f1 - r.f0+1)+szF xs:=by simp [szF]
theorem szF_app (xs ys:List S74):szF (xs ++ ys)=szF xs+szF ys:=by
 induction xs with
 | nil=>simp [ju_]
 | cons r xs ih=>rw [List.cons_append,fx_,fx_,ih];omega
def cnt (P:Int->Bool):Nat->Int
 | 0=>0
 | n+1=>cnt P n+if P (n:Int) then 1 else 0
theorem ups_sz (P:Int->Bool): ∀ n:Nat,szF (ups P n)=cnt P n
 | 0=>rfl
 | n+1=>by
  have ih:=ups_sz P n
  have hs:=jt_ P n
  rw [ups,cnt,←ih]
  generalize ups P n=xs at hs ⊢
  unfold tellF
  by_cases hP:P (n:Int)=true
  ·rw [if_pos ⟨by omega,hP⟩,if_pos hP]
   split
   ·rename_i h
    obtain ⟨pre,r,e,hr,hset⟩:=last_of h.1
    rw [hset,hr,e,szF_app,szF_app,fx_,fx_,ju_]
    have:=h.2
    rw [hr] at this
    dsimp only
    omega
   ·rw [szF_app,fx_,ju_]
    dsimp only
    omega
  ·rw [if_neg (fun q=>hP q.2),if_neg hP]
   omega
theorem canon_sz (P:Int->Bool):szF (canonF P)=cnt P 1114112:=ups_sz P 1114112
theorem cnt_rng (P:Int->Bool): ∀ n:Nat,0<=cnt P n∧cnt P n<=n
 | 0=>⟨Int.le_refl _,Int.le_refl _⟩
 | n+1=>by
  have:=cnt_rng P n
  rw [cnt]
  split <;> omega
theorem sz_ge: ∀ {xs:List S74},(∀ r∈xs,r.f0<=r.f1)->(xs.length:Int)<=szF xs
 | [],_=>by simp [ju_]
 | r :: xs,h=>by
  have:=sz_ge (xs:=xs) fun s hs=>h s (List.mem_cons_of_mem _ hs)
  have:=h r (List.mem_cons_self ..)
  rw [fx_,List.length_cons]
  omega
structure Good (xs:List S74):Prop where
 r: ∀ r∈xs,0<=r.f0∧r.f0<=r.f1∧r.f1<1114112
 s:szF xs<=1114112
 n:(xs.length:Int)<=1114112
theorem jo_ (P:Int->Bool):Good (canonF P):=by
 have h:=em_ P
 have s:=cnt_rng P 1114112
 rw [←canon_sz] at s
 exact ⟨h.1.1,by omega,by have:=sz_ge (xs:=canonF P) fun r hr=>(h.1.1 r hr).2.1;omega⟩
theorem at_drop {l:List S74}{i:Nat}(h:i<l.length):l.drop i=aq_ l (i:Int) :: l.drop (i+1):=by
 have hs:=step_at (l:=l) (i:=(i:Int)) (by omega) (by omega)
 rw [Int.toNat_natCast,show ((i:Int)+1).toNat=i+1 from by omega] at hs
 exact hs
def hdF:List S74->Int
 | []=> -1
 | r :: _=>r.f0
def firstF (l:List S74):Int:=hdF (plF l)
theorem span_first (l:List S74):Ev (fun k=>cu_.f k l) (firstF l):=by
 unfold firstF
 have: ∀ t:List S74,Ev (fun k=>cu_.l0 k t (t.length:Int) 0) (hdF t):=by
  intro t
  cases t with
  | nil=>exact Ev.step (f:=fun _=>some (-1)) (fun k=>rfl) (Ev.now _)
  | cons r t=>exact Ev.step (f:=fun _=>some r.f0) (fun k=>by rw [cu_.l0,if_pos (by rw [List.length_cons];omega),if_pos (by omega),if_pos (by rw [List.length_cons];omega)];rfl) (Ev.now _)
 exact this (plF l)
theorem ref_first (l:List S74):da_.f l=some (firstF l):=by
 unfold firstF
 show (if ((plF l).length:Int)=0 then some (-1) else if 0<((plF l).length:Int) then some ((aq_ (plF l) 0).f0) else none)=_
 cases plF l with
 | nil=>rfl
 | cons r t=>rw [if_neg (by rw [List.length_cons];omega),if_pos (by rw [List.length_cons];omega)];rfl
theorem eq34 {r s:S74}:(!(r.f0 == s.f0) || !(r.f1 == s.f1))=true↔r≠s:=by
 obtain ⟨a,b⟩:=r
 obtain ⟨c,d⟩:=s
 simp
 by_cases h:a=c <;> simp [h]
theorem rng_ev {x y:List S74}(hm:(x.length:Int)<=9223372036854775806)(r:Bool)(hr:r=true↔x=y):Ev (fun k=>bj_.f k x y) r∧Ev (fun k=>cx_.f k x y) r:=by
 by_cases hl:(x.length:Int)=(y.length:Int)
 ·have main: ∀ d i:Nat,i+d=x.length-> ∀ r:Bool,(r=true↔x.drop i=y.drop i)->Ev (fun k=>bj_.l0 k x y (i:Int)) r∧Ev (fun k=>cx_.l0 k x y (x.length:Int) (i:Int)) r:=by
   intro d
   induction d with
   | zero=>
    intro i h r hr
    rw [List.drop_eq_nil_iff.2 (by omega),List.drop_eq_nil_iff.2 (by omega)] at hr
    rw [hr.2 rfl]
    exact ⟨Ev.step (f:=fun _=>some true) (fun k=>by rw [bj_.l0,if_neg (by omega)]) (Ev.now _),Ev.step (f:=fun _=>some true) (fun k=>by rw [cx_.l0,if_neg (by omega)]) (Ev.now _)⟩
   | succ d ih=>
    intro i h r hr
    rw [at_drop (show i<x.length by omega),at_drop (show i<y.length by omega)] at hr
    by_cases he:aq_ x (i:Int)=aq_ y (i:Int)
    ·have hr':r=true↔x.drop (i+1)=y.drop (i+1):=by rw [hr,he];simp
     have:=ih (i+1) (by omega) r hr'
     rw [show ((i+1:Nat):Int)=(i:Int)+1 from by omega] at this
     refine ⟨Ev.step (fun k=>?_) this.1,Ev.step (fun k=>?_) this.2⟩
     ·rw [bj_.l0,if_pos (by omega),if_pos (by omega),if_pos (by omega),if_neg (fun q=>eq34.1 q he),w64 (n:=(i:Int)+1) (by omega) (by omega)]
     ·rw [cx_.l0,if_pos (by omega),if_pos (by omega),if_pos (by omega),if_pos (by omega),if_neg (fun q=>eq34.1 q he),w64 (n:=(i:Int)+1) (by omega) (by omega)]
    ·have:r=false:=by
      cases r with
      | false=>rfl
      | true=>exact absurd (List.cons.inj (hr.1 rfl)).1 he
     rw [this]
     refine ⟨Ev.step (f:=fun _=>some false) (fun k=>?_) (Ev.now _),Ev.step (f:=fun _=>some false) (fun k=>?_) (Ev.now _)⟩
     ·rw [bj_.l0,if_pos (by omega),if_pos (by omega),if_pos (by omega),if_pos (eq34.2 he)]
     ·rw [cx_.l0,if_pos (by omega),if_pos (by omega),if_pos (by omega),if_pos (by omega),if_pos (eq34.2 he)]
  have:=main x.length 0 (by omega) r (by rw [List.drop_zero,List.drop_zero];exact hr)
  exact ⟨eu_ hl this.1,eu_ hl this.2⟩
 ·have:r=false:=by
   cases r with
   | false=>rfl
   | true=>exact absurd (by rw [hr.1 rfl]) hl
  rw [this]
  exact ⟨ea_ hl (Ev.now _),ea_ hl (Ev.now _)⟩
noncomputable def eqF (x y:List S74):Bool:=@decide (x=y) (Classical.propDecidable _)
theorem eqF_iff {x y:List S74}:eqF x y=true↔x=y:=by unfold eqF;exact @decide_eq_true_iff _ (Classical.propDecidable _)
theorem nodup_len: ∀ (xs L:List Int),xs.Pairwise (· ≠ ·)->(∀ x∈xs,x∈L)->xs.length<=L.length
 | [],_,_,_=>Nat.zero_le _
 | x :: xs,L,hp,h=>by
  obtain ⟨h1,h2⟩:=List.pairwise_cons.1 hp
  have hx:=h x (List.mem_cons_self ..)
  have:=nodup_len xs (L.erase x) h2 fun y hy=>(List.mem_erase_of_ne (fun e=>h1 y hy e.symm)).2 (h y (List.mem_cons_of_mem _ hy))
  rw [List.length_erase_of_mem hx] at this
  have:=List.length_pos_of_mem hx
  rw [List.length_cons]
  omega
theorem kh_ {l:List S74}{c:Int}:hasB l c=true↔l.length<=400∧ ∃ r∈l,r.f0<=c∧c<=r.f1:=by
 unfold hasB
 rw [Bool.and_eq_true,decide_eq_true_iff,mem_iff]
theorem hasB_no {l:List S74}{c:Int}:hasB l c=false↔¬ (l.length<=400∧ ∃ r∈l,r.f0<=c∧c<=r.f1):=by
 rw [←kh_]
 cases hasB l c <;> simp
def lowsF (l:List S74):List Int:=l.map fun r=>if 0<=r.f0 then r.f0 else 0
def endsF (l:List S74):List Int:=l.map fun r=>r.f1+1
theorem lows_len (l:List S74):(lowsF l).length=l.length:=List.length_map ..
theorem ends_len (l:List S74):(endsF l).length=l.length:=List.length_map ..
theorem starts {l:List S74}{c:Int}(h0:0<=c)(h:hasB l c=true)(k:c=0∨hasB l (c - 1)=false):c∈lowsF l:=by
 obtain ⟨hl,r,hr,h1,h2⟩:=kh_.1 h
 refine List.mem_map.2 ⟨r,hr,?_⟩
 rcases k with rfl | k
 ·split <;> omega
 ·have:=hasB_no.1 k
  by_cases hc:r.f0<=c - 1
  ·exact absurd ⟨hl,r,hr,hc,by omega⟩ this
  ·rw [if_pos (by omega)]
   omega
theorem ends {l:List S74}{c:Int}(h:hasB l c=false)(k:hasB l (c - 1)=true):c∈endsF l:=by
 obtain ⟨hl,r,hr,h1,h2⟩:=kh_.1 k
 refine List.mem_map.2 ⟨r,hr,?_⟩
 have:=hasB_no.1 h
 by_cases hc:c<=r.f1
 ·exact absurd ⟨hl,r,hr,by omega,hc⟩ this
 ·omega
theorem has_canon {P:Int->Bool}(hl:(canonF P).length<=400){c:Int}(h0:0<=c)(h1:c<=1114111):hasB (canonF P) c=P c:=by
 unfold hasB
 rw [dt__ hl,Bool.true_and,canon_mem P h0 h1]
theorem pl_canon {P:Int->Bool}(hl:(canonF P).length<=400):plF (canonF P)=canonF P:=by
 rw [plF_eq]
 exact ef_ fun c h0 h1=>has_canon hl h0 h1
section
variable {a b d:List S74}
theorem canon_nil {P:Int->Bool}(h: ∀ c,0<=c->c<=1114111->P c=false):canonF P=[]:=
 ek_ ⟨⟨(fun r hr=>nomatch hr),List.Pairwise.nil⟩,fun c h0 h1=>by rw [h c h0 (by omega)];rfl⟩
end
end P
namespace L
open A P B
section
variable (A0:Option Addr) (c0:Nat) (l0:List S74) (w:World) (hr0:Kd.C k74 w A0 l0.length l0) (hc0:l0.length<=c0)
include hr0 hc0
theorem c24 (c:Int)(n:Bool)(h:hasF l0 c=n):Calls Tryz.prog 83 #[.slice A0 l0.length c0,.int .i64 c] w fun e w'=>e=.returned (.bool n)∧Below w.heap.size w w':=
 h ▸ fz_.calls A0 c0 l0 c _ w hr0 hc0 rfl
theorem c20 (r:List S74)(h:notF l0=r):Calls Tryz.prog 76 #[.slice A0 l0.length c0] w fun e w'=> ∃ v0_:Value,e=.returned v0_∧Kd.R k74 74 w' w.heap.size (fun _=>True) v0_ r∧Below w.heap.size w w':=
 jv_.calls A0 c0 l0 r w hr0 hc0 (congrArg some h)
variable (A1:Option Addr) (c1:Nat) (l1:List S74) (hr1:Kd.C k74 w A1 l1.length l1) (hc1:l1.length<=c1)
include hr1 hc1
theorem c16 (r:List S74)(h:andF l0 l1=r):Calls Tryz.prog 113 #[.slice A0 l0.length c0,.slice A1 l1.length c1] w fun e w'=> ∃ v0_:Value,e=.returned v0_∧Kd.R k74 74 w' w.heap.size (fun _=>True) v0_ r∧Below w.heap.size w w':=jw_.calls A0 c0 l0 A1 c1 l1 r w hr0 hc0 hr1 hc1 (congrArg some h)
theorem c18 (r:List S74)(h:lessF l0 l1=r):Calls Tryz.prog 114 #[.slice A0 l0.length c0,.slice A1 l1.length c1] w fun e w'=> ∃ v0_:Value,e=.returned v0_∧Kd.R k74 74 w' w.heap.size (fun _=>True) v0_ r∧Below w.heap.size w w':=ia_.calls A0 c0 l0 A1 c1 l1 r w hr0 hc0 hr1 hc1 (congrArg some h)
end
open Shelf
attribute [local go_sem] Oper.semAt_some
theorem ir_ (A0:Option Addr)(n c0:Nat)(w:World):Calls Tryz.prog 112 #[.slice A0 n c0,.int .i64 400] w fun e w'=>e=.returned (.func (.func 142) #[] #[.pointer (some ⟨w.heap.size,0,none⟩),.pointer (some ⟨w.heap.size+1,0,none⟩)])∧w'=(w.alloc (.cells #[.slice A0 n c0] 37)).alloc (.cells #[.int .i64 400] 3):=by
 go_enter Tryz.func112,Tryz.ntmps112
 go_wp2_with fail
 go_ret
 exact ⟨by simp,rfl⟩
def KC (ga gb:Nat)(A B:World):Prop:=(∀ v,A.cell? ⟨ga,0,none⟩=some v->B.cell? ⟨ga,0,none⟩=some v)∧ ∀ v,A.cell? ⟨gb,0,none⟩=some v->B.cell? ⟨gb,0,none⟩=some v
theorem KC.trans {ga gb:Nat}{A B C:World}(h:KC ga gb A B)(k:KC ga gb B C):KC ga gb A C:=⟨fun v q=>k.1 v (h.1 v q),fun v q=>k.2 v (h.2 v q)⟩
theorem KC.put {ga gb:Nat}(W:World)(l:Nat)(o o':Obj)(h:W.heap[l]? =some o)(ho:o.isCells=false):KC ga gb W (W.putObj l o'):=
 ⟨fun v q=>cell_kept q (grownBy_putObj' W l o') (fun r e=>by cases e;exact ⟨o,h,ho⟩),fun v q=>cell_kept q (grownBy_putObj' W l o') (fun r e=>by cases e;exact ⟨o,h,ho⟩)⟩
theorem chunk1_in (n:Nat)(hn:1<=n)(l ga gb:Nat)(ad:Addr)(len cap:Nat)(h1:0<len)(h4:len<=400)(hcap:len<=cap)(J Jx:List Unit->World->Prop)
  (hY: ∀ pre x W,J pre W->pre.length<1->YieldAt Fence.wide (n - 1) Tryz.prog l #[.slice (some ad) len len] W fun e W'=>
   (e=.returned (.bool true)∧J (pre ++ [x]) W'∧KC ga gb W W')∨(e=.returned (.bool false)∧Jx (pre ++ [x]) W'))
  (W:World) (hA:W.cell? ⟨ga,0,none⟩=some (.slice (some ad) len cap)) (hB:W.cell? ⟨gb,0,none⟩=some (.int .i64 400)) (hJ:AbidesFrom W.heap.size J) (h0:J [] W):
  CallsIn Fence.wide n Tryz.prog 142 #[.func (.yield l) #[] #[],.pointer (some ⟨ga,0,none⟩),.pointer (some ⟨gb,0,none⟩)] W fun e W'=>(∃ v,e=.returned v)∧
   ((∃ ys:List Unit,ys.length=1∧J ys W')∨(∃ pre:List Unit,True∧Jx pre W')):=by
 refine callsIn_of_wp Tryz.func142 rfl trivial ?_ rfl
 simp only [Tryz.ntmps142,List.size_toArray,List.length_cons,List.length_nil,Nat.reduceAdd,Nat.reduceSub,Array.replicate_succ,Array.replicate_zero,List.push_toArray,List.append_toArray,List.nil_append,List.cons_append]
 gi_wp2
 gi_loopw [4] (fun i wr=>(i=.int .i64 0∧J [] wr∧wr.cell? ⟨ga,0,none⟩=some (.slice (some ad) len cap)∧wr.cell? ⟨gb,0,none⟩=some (.int .i64 400))∨(i=.int .i64 400∧J [()] wr∧wr.cell? ⟨ga,0,none⟩=some (.slice (some ad) len cap)∧wr.cell? ⟨gb,0,none⟩=some (.int .i64 400))) (fun i _=>(400 - intOf i).toNat)
 case atStart=>exact Or.inl ⟨rfl,h0,hA,hB⟩
 case round=>
  rcases hrel with ⟨rfl,hJs,hAx,hBx⟩ | ⟨rfl,hJs,hAx,hBx⟩
  ·have b1:decide ((0:Int)<(len:Int))=true:=dt__ (by omega)
   have mi:min (400:Int) (len:Int)=(len:Int):=by omega
   gi_wp2
   gi_quiet (fail)
   have hJd:J [] (wr.drewN nq):=hJ [] wr _ none hJs ⟨rfl,rfl,rfl,Nat.le_refl _,fun _ _ _=>rfl⟩ (fun r e=>by cases e)
   have hAd:(wr.drewN nq).cell? ⟨ga,0,none⟩=some (.slice (some ad) len cap):=hAx
   have hBd:(wr.drewN nq).cell? ⟨gb,0,none⟩=some (.int .i64 400):=hBx
   generalize wr.drewN nq=wd at*
   clear hAx hBx hJs
   obtain ⟨fn,tmps,assign,body,hy,hR⟩:=hY [] () wd hJd (by simp)
   gi_wp2
   refine hR.mono ?_
   rintro e W3 (⟨rfl,hJ3,hk3⟩ | ⟨rfl,hJx3⟩)
   ·have hA3:W3.cell? ⟨ga,0,none⟩=some (.slice (some ad) len cap):=hk3.1 _ hAd
    have hB3:W3.cell? ⟨gb,0,none⟩=some (.int .i64 400):=hk3.2 _ hBd
    gi_wp2
    go_roundw
    case rel=>exact Or.inr ⟨rfl,hJ3,hA3,hB3⟩
    case measure=>simp [intOf]
   ·gi_wp2
    refine bodyPost_ret (results_none rfl _ _ _) rfl ?_
    exact ⟨⟨_,rfl⟩,.inr ⟨_,trivial,hJx3⟩⟩
  ·have b1:decide ((400:Int)<(len:Int))=false:=df__ (by omega)
   gi_wp2
   go_end0
   exact ⟨⟨_,rfl⟩,.inl ⟨_,rfl,hJs⟩⟩
theorem chunk0_in (n:Nat)(l ga gb:Nat)(A0:Option Addr)(cap:Nat)(J:List Unit->World->Prop)(W:World)(hA:W.cell? ⟨ga,0,none⟩=some (.slice A0 0 cap))(h0:J [] W):
  CallsIn Fence.wide n Tryz.prog 142 #[.func (.yield l) #[] #[],.pointer (some ⟨ga,0,none⟩),.pointer (some ⟨gb,0,none⟩)] W fun e W'=>(∃ v,e=.returned v)∧J [] W':=by
 refine callsIn_of_wp Tryz.func142 rfl trivial ?_ rfl
 simp only [Tryz.ntmps142,List.size_toArray,List.length_cons,List.length_nil,Nat.reduceAdd,Nat.reduceSub,Array.replicate_succ,Array.replicate_zero,List.push_toArray,List.append_toArray,List.nil_append,List.cons_append]
 gi_wp2
 gi_loopw [4] (fun i wr=>i=.int .i64 0∧J [] wr∧wr.cell? ⟨ga,0,none⟩=some (.slice A0 0 cap)) (fun _ _=>0)
 case atStart=>exact ⟨rfl,h0,hA⟩
 case round=>
  obtain ⟨rfl,hJs,hAx⟩:=hrel
  gi_wp2
  go_end0
  exact ⟨⟨_,rfl⟩,hJs⟩
theorem iq_ (n:Nat)(hn:1<=n)(ga gb:Nat)(A0:Option Addr)(l0:List S74)(cap:Nat)(h4:l0.length<=400)(hcap:l0.length<=cap)(w:World)(hC:Kd.C k74 w A0 l0.length l0)(hga:ga<w.heap.size)(hgb:gb<w.heap.size)
  (hA:w.cell? ⟨ga,0,none⟩=some (.slice A0 l0.length cap)) (hB:w.cell? ⟨gb,0,none⟩=some (.int .i64 400)):
  SeqStopsK Fence.wide n Tryz.prog 142 #[.pointer (some ⟨ga,0,none⟩),.pointer (some ⟨gb,0,none⟩)] (fun _:Unit=>#[Value.slice A0 l0.length l0.length]) (KC ga gb) (fun ys=>ys.length=if l0.length=0 then 0 else 1) (fun pre=>True) 1 w:=fun l J Jx W hW hJ _ hY h0=>by
 have hA':=(hW.cell (p:=⟨ga,0,none⟩) (by show ga<_;omega)).trans hA
 have hB':=(hW.cell (p:=⟨gb,0,none⟩) (by show gb<_;omega)).trans hB
 by_cases hz:l0.length=0
 ·rw [hz] at hA'
  refine (chunk0_in n l ga gb A0 cap J W hA' h0).mono fun e W' ⟨he,hj⟩=>⟨he,.inl ⟨[],by rw [if_pos hz];rfl,hj⟩⟩
 ·obtain ⟨ad,rfl⟩: ∃ ad,A0=some ad:=by
   obtain ⟨ad,_,e,_⟩:=Kd.C_get hC z74 0 (by omega) (by omega)
   exact ⟨ad,e⟩
  refine (chunk1_in n hn l ga gb ad l0.length cap (by omega) h4 hcap J Jx hY W hA' hB' hJ h0).mono fun e W' ⟨he,h⟩=>⟨he,h.imp (fun ⟨ys,h1,h2⟩=>⟨ys,by rw [if_neg hz];exact h1,h2⟩) id⟩
end L
namespace L
open Shelf YthfceiincmkccaaGreatW.PrintWords.Kd A P
section
variable {P:Program} {ops:Array Oper} {rest:List Oper} {o:Oper} {a:Act} {Q:Exit->Act->World->Prop} {α:Type}
theorem ev_ (d:Kd α){Rr:α->List Value->Prop}{W:World}(base:Nat)(t ty e:TypeId)(z:Value)(bytes:Nat)
  (ht:P.underlying t=some (.slice e)) (hinfo:(P.info? e).map (fun i=>(i.zero,i.size,i.bytes))=some (some z,d.sz,bytes)) (hz:z.cells.size=d.sz) (hs0:0<d.sz) (hb0:0<bytes)
  (v:Value) (xs ys:List α) (A:Option Addr) (m c:Nat) (ok okp:Nat->Prop)
  (HO:d.R e W base ok v xs) (HR:ReadsRow Rr d.sz W A m ys) (hKM: ∀ x cs,Rr x cs->d.M W base okp x cs) (hokp: ∀ k,okp k->ok k∧some k≠v.ownBlock) (hfresh: ∀ k,W.heap.size<=k->ok k)
  (hbase:base<=W.heap.size) (hl:(xs.length+m)*bytes<=140737488355328):
  ∃ v1 w1,(Builtin.append_ #[t,t] ty #[v,.slice A m c]).run P W=.ok v1 w1∧d.R e w1 base ok v1 (xs ++ ys)∧W.grownBy w1 v.ownBlock∧(v1.ownBlock=v.ownBlock∨ ∃ b,v1.ownBlock=some b∧W.heap.size<=b):=by
 obtain ⟨i0,hi,hzz⟩:=Option.map_eq_some_iff.1 hinfo
 simp only [Prod.mk.injEq] at hzz
 obtain ⟨hz0,hz1,hz2⟩:=hzz
 have hm:ys.length=m:=HR.1
 have hlen:xs.length+m<=140737488355328:=Nat.le_trans (Nat.le_mul_of_pos_right _ hb0) hl
 obtain ⟨hok,inner,hown,hr⟩:=HO
 rcases A with _ | ad
 ·have h0:m=0:=by
   rcases Nat.eq_zero_or_pos m with h0 | h0
   ·exact h0
   ·obtain ⟨ad,h,_⟩:=HR.2.2 h0
    cases h
  subst h0
  obtain rfl:ys=[]:=List.eq_nil_of_length_eq_zero hm
  refine ⟨v,W,?_,by rw [List.append_nil];exact ⟨hok,inner,hown,hr⟩,World.grownBy.refl W _,.inl rfl⟩
  rcases hown.2 with ⟨rfl,hn⟩ | ⟨g,cap,cur,rfl,_,_,hnc,_⟩
  ·simp [Builtin.append_,run_underlying ht,sizeOf,typeInfo,hi,Builtin.lenOf,Builtin.firstCells]
  ·simp [Builtin.append_,run_underlying ht,sizeOf,typeInfo,hi,Builtin.lenOf,Builtin.firstCells,hnc,storeCells]
 ·obtain ⟨news,hnr,hnc⟩:=ReadsRow.inner_ HR
  have hnM:Reps (d.M W base okp) d.sz ys news:=hnr.imp_ (fun p c hp=>hKM p c hp)
  have hone: ∀ u∈news,u.oneCell'=true:=by
   intro u hu
   obtain ⟨q,hq,rfl⟩:=List.mem_iff_getElem.1 hu
   have hql:q / d.sz<ys.length:=by
    rw [Nat.div_lt_iff_lt_mul hs0]
    rw [←hnM.1]
    exact hq
   have hc:=hnM.2 (q / d.sz) _ (List.getElem?_eq_getElem hql)
   refine d.K_one (d.K_of_M hc) _ ?_
   rw [List.mem_iff_getElem?]
   refine ⟨q % d.sz,?_⟩
   rw [List.getElem?_take,if_pos (Nat.mod_lt _ hs0),List.getElem?_drop,Nat.mul_comm,Nat.div_add_mod,List.getElem?_eq_getElem hq]
  obtain ⟨v1,w1,hrun,h2,hg,_,hat⟩:=run_append_own_at (P:=P) W base t ty e i0 z d.sz bytes ht hi hz0 hz1 hz2 hz hs0 v xs.length inner hown ad m c news (by rw [hnM.1,hm]) hnc hone (by simp only [maxLen];omega) hl hbase
  have hat':v1.ownBlock=v.ownBlock∨ ∃ b,v1.ownBlock=some b∧W.heap.size<=b:=by
   rcases hat with hat | hat
   ·exact .inl hat
   ·exact .inr ⟨_,hat,Nat.le_refl _⟩
  have hne: ∀ k,some k≠v.ownBlock->k<W.heap.size->some k≠v1.ownBlock:=by
   intro k hk hlt
   rcases hat' with hat | ⟨b,hb,hle⟩
   ·rw [hat];exact hk
   ·rw [hb]
    intro he
    injection he with he
    omega
  have step: ∀ {q:α} {c:List Value} {o:Nat->Prop},d.M W base o q c->(∀ k,o k->ok k∧some k≠v.ownBlock)->d.M w1 base (fun k=>ok k∧some k≠v1.ownBlock) q c:=by
   intro q c o hq ho
   have h1:=d.M_move (w1:=w1) (fun k hk=>hg.block k hk.2.2.1 (ho k hk.1).2) (d.M_bound hq)
   exact d.M_mono (fun k hk=>⟨(ho k hk.1).1,hne k (ho k hk.1).2 hk.2.2.1⟩) h1
  refine ⟨v1,w1,hrun,⟨fun k hk=>?_,inner ++ news,by rw [List.length_append,hm];exact h2,fi_ (hr.imp_ (fun _ _ hq=>step hq (fun _ hk=>hk))) (hnM.imp_ (fun _ _ hq=>step hq hokp))⟩,hg,hat'⟩
  rcases hat' with hat | ⟨b,hb,hle⟩
  ·exact hok k (hat ▸ hk)
  ·rw [hb] at hk
   injection hk with hk
   exact hfresh k (by omega)
end
def c34 (xs:List S74):List Value:=xs.flatMap fun x=>[Value.int .i64 x.f0,Value.int .i64 x.f1]
theorem reps_c34 {w:World}{base:Nat}{ok:Nat->Prop}: ∀ {xs:List S74} {inner:List Value},Reps (k74.M w base ok) 2 xs inner->inner=c34 xs
 | [],inner,h=>List.eq_nil_of_length_eq_zero (by have:=h.1;simpa using this)
 | x :: xs,inner,h=>by
  have hl:=h.1
  have h0:=h.2 0 x rfl
  match inner,hl with
  | [],hl=>exact absurd hl (by simp only [List.length_cons,List.length_nil];omega)
  | [u],hl=>exact absurd hl (by simp only [List.length_cons,List.length_nil];omega)
  | u :: v :: rest,hl=>
   have h0':k74.M w base ok x [u,v]:=by simpa using h0
   have e:=et_ h0'
   have ht:Reps (k74.M w base ok) 2 xs rest:=⟨by simp only [List.length_cons] at hl ⊢;omega,fun j p hp=>by
    have:=h.2 (j+1) p (by simpa using hp)
    rw [show (j+1)*2=j*2+1+1 by omega] at this
    simpa using this⟩
   rw [reps_c34 ht]
   injection e with e1 e2
   injection e2 with e2
   rw [e1,e2]
   rfl
theorem c34_reps {w:World}{base:Nat}{ok:Nat->Prop}: ∀ (xs:List S74),Reps (k74.M w base ok) 2 xs (c34 xs)
 | []=>Reps.none _ _
 | x :: xs=>Reps.c2 (show k74.M w base ok x [.int .i64 x.f0,.int .i64 x.f1] from fd_ _ _ _ x) (c34_reps xs)
theorem own_of_R34 {w:World}{base:Nat}{ok:Nat->Prop}{v:Value}{xs:List S74}(h:Kd.R k74 74 w base ok v xs):w.ownsRow base 74 2 v xs.length (c34 xs):=by
 obtain ⟨_,inner,hown,hr⟩:=h
 rw [←reps_c34 hr]
 exact hown
theorem R34_of_own {w:World}{base:Nat}{v:Value}{xs:List S74}(h:w.ownsRow base 74 2 v xs.length (c34 xs)):Kd.R k74 74 w base (fun _=>True) v xs:=
 ⟨fun _ _=>trivial,c34 xs,h,c34_reps xs⟩
attribute [local go_sem] Oper.semAt_some
attribute [-go_sem] Builtin.append_
def partF (a s:List S74)(has:Bool):List S74:=if has then andF a s else lessF a s
theorem iy_ (a s:List S74):partF a s true=andF a s:=by
 unfold partF
 exact if_pos rfl
theorem ii_ (a s:List S74):partF a s false=lessF a s:=by
 unfold partF
 exact if_neg (by decide)
theorem part_app (h:Nat)(W1:World)(hb:h<=W1.heap.size)(A3:Option Addr)(a3 base1:Nat)(xs:List S74)(hs:Kd.R k74 74 W1 base1 (fun _=>True) (.slice A3 xs.length a3) xs)(hlen:xs.length*16<=140737488355328):
  ∃ A4 a4 w2,(Builtin.append_ #[37,37] 37 #[.slice none 0 0,.slice A3 xs.length a3]).run Tryz.prog W1=.ok (.slice A4 xs.length a4) w2∧Kd.R k74 74 w2 h (fun _=>True) (.slice A4 xs.length a4) xs∧W1.grownBy w2 none:=by
 obtain ⟨v2,w2,hrun,hR2,hg2,hat2⟩:=ev_ k74 (P:=Tryz.prog) (W:=W1) h 37 37 74 (.agg #[.int .i64 0,.int .i64 0]) 16 Tryz.underlying37 (by kernel_rfl) rfl (by decide) (by decide) (.slice none 0 0) [] xs A3 xs.length a3 (fun _=>True) (fun _=>False) (Kd.R_nil _ _ _ _ _) (Kd.R_reads' hs).2.2 (fun x cs h=>by obtain rfl:=k74_open h;exact fd_ _ _ _ x) (fun _ h=>h.elim) (fun _ _=>trivial) hb (by simpa using hlen)
 rw [List.nil_append] at hR2
 obtain ⟨A4,a4,rfl⟩:=Kd.R_slice hR2
 exact ⟨A4,a4,w2,hrun,hR2,hg2⟩
theorem parts_end (B5 ga gb b:Nat)(w W W1 w2:World)(hB:Below w.heap.size w W)(hWW1:Below W.heap.size W W1)(hg2:W1.grownBy w2 none)(hle:w.heap.size<=b)(hga:ga≠b)(hgb:gb≠b)(v2:Value)(xs:List S74)
  (hv2:Boxed w2 b 37 (.slice none 0 0)) (hR2:Kd.R k74 74 w2 w.heap.size (fun _=>True) v2 xs):
  KeepsFrom B5 W (w2.setCell ⟨b,0,none⟩ v2)∧KC ga gb W (w2.setCell ⟨b,0,none⟩ v2)∧(w2.setCell ⟨b,0,none⟩ v2).ownsRow w.heap.size 74 2 v2 xs.length (c34 xs)∧Below w.heap.size w (w2.setCell ⟨b,0,none⟩ v2):=by
 have hown:=own_of_R34 hR2
 have cell: ∀ g v,g≠b->W.cell? ⟨g,0,none⟩=some v->(w2.setCell ⟨b,0,none⟩ v2).cell? ⟨g,0,none⟩=some v:=by
  intro g v hg q
  obtain ⟨o,ho,_⟩:=cells_of_cell q
  have hlt:g<W.heap.size:=(Array.getElem?_eq_some_iff.1 ho).1
  have q1:W1.cell? ⟨g,0,none⟩=some v:=(hWW1.cell (p:=⟨g,0,none⟩) hlt).trans q
  have q2:w2.cell? ⟨g,0,none⟩=some v:=cell_kept q1 hg2 (fun r e=>by cases e)
  exact (World.cell?_of_block (Below.heap_setCell w2 ⟨b,0,none⟩ v2 g hg)).trans q2
 refine ⟨?_,⟨fun v q=>cell ga v hga q,fun v q=>cell gb v hgb q⟩,hown.kept (grownBy_setCell' w2 b v2) (.inr (hv2.not_row (by decide) hown).symm),?_⟩
 ·have k1:KeepsOthers W W1:=⟨hWW1.size,fun k o hk _=>(hWW1.block k (Array.getElem?_eq_some_iff.1 hk).1).trans hk⟩
  exact ((k1.trans (KeepsOthers.of_grownBy hg2 (fun j o e=>by cases e))).trans (KeepsOthers.setCell _ _ _)).from _
 ·have h1:Below w.heap.size w W1:=hB.trans (hWW1.mono hB.size)
  have h2:Below w.heap.size w w2:=h1.grown hg2 h1.size (fun k e=>by cases e)
  exact h2.setCell (p:=⟨b,0,none⟩) hle _
theorem parts_true (A0:Option Addr)(c0:Nat)(l0:List S74)(A1:Option Addr)(c1:Nat)(l1:List S74)(w:World)(hr0:Kd.C k74 w A0 l0.length l0)(hc0:l0.length<=c0)(hr1:Kd.C k74 w A1 l1.length l1)(hc1:l1.length<=c1)(h4:l0.length<=400):
  Calls Tryz.prog 77 #[.slice A0 l0.length c0,.slice A1 l1.length c1,.bool true] w fun e w'=> ∃ v,e=.returned v∧Kd.R k74 74 w' w.heap.size (fun _=>True) v (andF l0 l1)∧Below w.heap.size w w':=by
 have HR0:=Sd.m hr0
 have HR1:=Sd.m hr1
 have HC0:=Sd.m hc0
 have HC1:=Sd.m hc1
 clear hr0 hr1 hc0 hc1
 refine (callsIn_wide (n:=3)).1 ?_
 refine callsIn_of_wp_marks Tryz.func77 rfl trivial ?_ rfl
 simp only [Tryz.ntmps77,List.size_toArray,List.length_cons,List.length_nil,Nat.reduceAdd,Nat.reduceSub,Array.replicate_succ,Array.replicate_zero,List.push_toArray,List.append_toArray,List.nil_append,List.cons_append]
 gi_wp2_with (refine ⟨trivial,?_⟩;gi_at_call 112;refine (callsIn_wide.2 (ir_ _ _ _ _)).mono ?_;rintro e w' ⟨rfl,rfl⟩)
 have hsz0: ∀ (W:World) (o:Obj),(W.alloc o).heap.size=W.heap.size+1:=fun W o=>Array.size_push _
 obtain ⟨W5,hW5⟩: ∃ W_,W_=(((((w.alloc (Obj.cells #[Value.slice A1 l1.length c1] 37)).alloc (Obj.cells #[Value.bool true] 4)).alloc (Obj.cells #[Value.slice none 0 0] 37)).alloc (Obj.cells #[Value.slice A0 l0.length c0] 37)).alloc (Obj.cells #[Value.int IntKind.i64 400] 3)):=⟨_,rfl⟩
 have bS:Boxed W5 w.heap.size 37 (.slice A1 l1.length c1):=by rw [hW5];exact ((((Boxed.new w 37 _).alloc _).alloc _).alloc _).alloc _
 have bH:Boxed W5 (w.heap.size+1) 4 (.bool true):=by
  rw [hW5]
  have:=Boxed.new (w.alloc (Obj.cells #[Value.slice A1 l1.length c1] 37)) 4 (.bool true)
  rw [hsz0] at this
  exact ((this.alloc _).alloc _).alloc _
 have bO:Boxed W5 (w.heap.size+1+1) 37 (.slice none 0 0):=by
  rw [hW5]
  have:=Boxed.new ((w.alloc (Obj.cells #[Value.slice A1 l1.length c1] 37)).alloc (Obj.cells #[Value.bool true] 4)) 37 (.slice none 0 0)
  rw [hsz0,hsz0] at this
  exact (this.alloc _).alloc _
 have bA:Boxed W5 (w.heap.size+1+1+1) 37 (.slice A0 l0.length c0):=by
  rw [hW5]
  have:=Boxed.new (((w.alloc (Obj.cells #[Value.slice A1 l1.length c1] 37)).alloc (Obj.cells #[Value.bool true] 4)).alloc (Obj.cells #[Value.slice none 0 0] 37)) 37 (.slice A0 l0.length c0)
  rw [hsz0,hsz0,hsz0] at this
  exact this.alloc _
 have bN:Boxed W5 (w.heap.size+1+1+1+1) 3 (.int .i64 400):=by
  rw [hW5]
  have:=Boxed.new ((((w.alloc (Obj.cells #[Value.slice A1 l1.length c1] 37)).alloc (Obj.cells #[Value.bool true] 4)).alloc (Obj.cells #[Value.slice none 0 0] 37)).alloc (Obj.cells #[Value.slice A0 l0.length c0] 37)) 3 (.int .i64 400)
  rw [hsz0,hsz0,hsz0,hsz0] at this
  exact this
 have hsz:W5.heap.size=w.heap.size+1+1+1+1+1:=by rw [hW5,hsz0,hsz0,hsz0,hsz0,hsz0]
 have hb5:Below w.heap.size w W5:=by
  rw [hW5]
  exact (((((Below.refl _ w).alloc (Nat.le_refl _) _).alloc (by simp) _).alloc (by simp;omega) _).alloc (by simp;omega) _).alloc (by simp;omega) _
 rw [←hW5]
 clear hW5 hsz0
 obtain ⟨F,hF⟩: ∃ F:List Unit->List S74,F=fun pre=>if pre.length=0 then [] else andF l0 l1:=⟨_,rfl⟩
 refine wpIn_rangeFunc_ownG rfl (by omega) (gf:=142) (lb:=#[.pointer (some ⟨w.heap.size+1+1+1,0,none⟩),.pointer (some ⟨w.heap.size+1+1+1+1,0,none⟩)]) rfl trivial (enters_of Tryz.func142 (by kernel_rfl) rfl)
  (iq_ (3 - 1) (by omega) (w.heap.size+1+1+1) (w.heap.size+1+1+1+1) A0 l0 c0 h4 HC0.out W5 (Kd.C_below HR0.out hb5) (by omega) (by omega) bA.cell bN.cell)
  (fun h k=>h.trans k) (fun W l o o' _ h ho _=>KC.put W l o o' h ho) (Below.refl _ _) (fun _=>rfl)
  (fun pre W=>(∃ v,Boxed W (w.heap.size+1+1) 37 v∧W.ownsRow w.heap.size 74 2 v (F pre).length (c34 (F pre))∧(pre.length=0->v=.slice none 0 0))∧(Boxed W w.heap.size 37 (.slice A1 l1.length c1)∧Boxed W (w.heap.size+1) 4 (.bool true))∧Below w.heap.size w W)
  (fun _ _ _=>False)
  (OwnFrom.and (Own.from (holdsRow_own w.heap.size (w.heap.size+1+1) 37 74 2 (fun pre=>(F pre).length) (fun pre=>c34 (F pre)) (fun pre v=>pre.length=0->v=.slice none 0 0)) _) (OwnFrom.and (OwnFrom.and (Own.from (boxed_own _ _ _) _) (Own.from (boxed_own _ _ _) _)) (ownFrom_below (Nat.le_refl _) (by omega))))
  (fun _ _ _ _ _ hs _ _=>hs)
  ⟨⟨_,bO,by rw [hF];exact World.ownsRow_nil _ _ _ _,fun _=>rfl⟩,⟨bS,bH⟩,hb5⟩
  (fun x=>{ tmps:=#[Value.slice A0 l0.length c0,Value.slice A1 l1.length c1,Value.bool true,undef,
     Value.pointer (some { block:=w.heap.size,off:=0 }),
     Value.pointer (some { block:=w.heap.size+1,off:=0 }),Value.slice none 0 0,
     Value.pointer (some { block:=w.heap.size+1+1,off:=0 }),Value.slice A0 l0.length l0.length,Value.slice A0 l0.length c0,
     Value.func (Fn.func 142) #[]
      #[Value.pointer (some { block:=w.heap.size+1+1+1,off:=0 }),
       Value.pointer (some { block:=w.heap.size+1+1+1+1,off:=0 })],
     Value.slice A0 l0.length l0.length,undef,undef,undef,undef,undef,undef,undef,undef,undef,undef,undef,undef],defers:=[] }) ?assign ?body ?done ?stop
 case assign=>
  intro l x W K hK
  gi_wp2
  exact hK
 case body=>
  rintro l pre x W ⟨⟨v,hv,hrow,hnil⟩,⟨hS,hH⟩,hB⟩ hlt
  have hp0:pre.length=0:=by omega
  obtain rfl:=hnil hp0
  have hcO:=hv.cell
  have hcS:=hS.cell
  have hcH:=hH.cell
  have hd:1<=3 - 1 - 1:=by omega
  have hmx:Tryz.prog.follows .mixedOrders=true:=by kernel_rfl
  gi_wp2
  have hbase:w.heap.size<=W.heap.size:=hB.size
  have hlen:(andF l0 l1).length*16<=140737488355328:=by have:=(jo_ fun c=>hasB l0 c && hasB l1 c).n;unfold andF;omega
  have hcall:Calls Tryz.prog 113 #[.slice A0 l0.length l0.length,.slice A1 l1.length c1] W.drew fun e W1=> ∃ A3 a3 A4 a4 w2,e=.returned (.slice A3 (andF l0 l1).length a3)∧Below W.heap.size W W1∧(Builtin.append_ #[37,37] 37 #[.slice none 0 0,.slice A3 (andF l0 l1).length a3]).run Tryz.prog W1=.ok (.slice A4 (andF l0 l1).length a4) w2∧Kd.R k74 74 w2 w.heap.size (fun _=>True) (.slice A4 (andF l0 l1).length a4) (andF l0 l1)∧W1.grownBy w2 none:=by
   refine (c16 A0 l0.length l0 W.drew (Kd.C_drew (Kd.C_below HR0.out hB)) (Nat.le_refl _) A1 c1 l1 (Kd.C_drew (Kd.C_below HR1.out hB)) HC1.out (andF l0 l1) rfl).mono ?_
   rintro e W1 ⟨v1,rfl,hs,hb⟩
   obtain ⟨A3,a3,rfl⟩:=Kd.R_slice hs
   have hWW1:Below W.heap.size W W1:=⟨hb.os,hb.tape,hb.output,hb.size,hb.block⟩
   obtain ⟨A4,a4,w2,h1,h2,h3⟩:=part_app w.heap.size W1 (Nat.le_trans hbase hWW1.size) A3 a3 _ (andF l0 l1) hs hlen
   exact ⟨A3,a3,A4,a4,w2,rfl,hWW1,h1,h2,h3⟩
  have HCALL:=Sd.m hcall
  clear hcall
  gi_region_with_o (refine ⟨trivial,?_⟩;gi_at_call 113;refine (CallsIn.inRound l (callsIn_wide.2 HCALL.out)).mono ?_;rintro e W1 ⟨A3,a3,A4,a4,w2,rfl,hWW1,hrun,hR2,hg2⟩;have hv1:Boxed W1 (w.heap.size+1+1) 37 (.slice none 0 0):=(hWW1.block _ hv.lt).trans hv;have hS1:Boxed W1 w.heap.size 37 (.slice A1 l1.length c1):=(hWW1.block _ hS.lt).trans hS;have hH1:Boxed W1 (w.heap.size+1) 4 (.bool true):=(hWW1.block _ hH.lt).trans hH;have hcO1:=hv1.cell;have hv2:Boxed w2 (w.heap.size+1+1) 37 (.slice none 0 0):=hv1.kept hg2 (fun e=>by cases e);have hS2:=hS1.kept hg2 (fun e=>by cases e);have hH2:=hH1.kept hg2 (fun e=>by cases e);have hc2:=hv2.cell;have hf2:=hv2.frozen)
  all_goals
   obtain ⟨e1,e2,e3,e4⟩:=parts_end W5.heap.size (w.heap.size+1+1+1) (w.heap.size+1+1+1+1) (w.heap.size+1+1) w W W1 w2 hB hWW1 hg2 (by omega) (by omega) (by omega) _ _ hv2 hR2
   have hFp:F (pre ++ [x])=andF l0 l1:=by
    rw [hF]
    exact if_neg (by simp)
   exact ⟨e1,e2,⟨_,hv2.set _,by rw [hFp];exact e3,fun h=>absurd h (by simp)⟩,⟨hS2.other (by omega) _,hH2.other (by omega) _⟩,e4⟩
 case done=>
  rintro D xs W hD hxs ⟨⟨v,hv,hrow,hnil⟩,⟨hS,hH⟩,hB⟩ hK
  have hcO:=hv.cell
  have hFx:F xs=andF l0 l1:=by
   rw [hF]
   dsimp only
   by_cases hz:l0.length=0
   ·rw [hxs,if_pos hz,if_pos rfl]
    symm
    unfold andF
    exact canon_nil fun c _ _=>by rw [List.eq_nil_of_length_eq_zero hz];simp [hasB,Mem]
   ·rw [hxs,if_neg hz,if_neg (by omega)]
  rw [hFx] at hrow
  gi_wp2
  refine ⟨by simp,.inl ⟨_,_,rfl,run_takeDeferred hK,?_⟩⟩
  exact ⟨_,results_tmp rfl _ _ _,v,rfl,R34_of_own (ownsRow_putObj hrow _ hK rfl),hB.trans (belowK_b (w:=w) (Nat.le_refl _) W D _ _ (by omega) hK rfl rfl)⟩
 case stop=>
  rintro D c pre W _ _ h _
  exact h.elim
theorem parts_false (A0:Option Addr)(c0:Nat)(l0:List S74)(A1:Option Addr)(c1:Nat)(l1:List S74)(w:World)(hr0:Kd.C k74 w A0 l0.length l0)(hc0:l0.length<=c0)(hr1:Kd.C k74 w A1 l1.length l1)(hc1:l1.length<=c1)(h4:l0.length<=400):
  Calls Tryz.prog 77 #[.slice A0 l0.length c0,.slice A1 l1.length c1,.bool false] w fun e w'=> ∃ v,e=.returned v∧Kd.R k74 74 w' w.heap.size (fun _=>True) v (lessF l0 l1)∧Below w.heap.size w w':=by
 have HR0:=Sd.m hr0
 have HR1:=Sd.m hr1
 have HC0:=Sd.m hc0
 have HC1:=Sd.m hc1
 clear hr0 hr1 hc0 hc1
 refine (callsIn_wide (n:=3)).1 ?_
 refine callsIn_of_wp_marks Tryz.func77 rfl trivial ?_ rfl
 simp only [Tryz.ntmps77,List.size_toArray,List.length_cons,List.length_nil,Nat.reduceAdd,Nat.reduceSub,Array.replicate_succ,Array.replicate_zero,List.push_toArray,List.append_toArray,List.nil_append,List.cons_append]
 gi_wp2_with (refine ⟨trivial,?_⟩;gi_at_call 112;refine (callsIn_wide.2 (ir_ _ _ _ _)).mono ?_;rintro e w' ⟨rfl,rfl⟩)
 have hsz0: ∀ (W:World) (o:Obj),(W.alloc o).heap.size=W.heap.size+1:=fun W o=>Array.size_push _
 obtain ⟨W5,hW5⟩: ∃ W_,W_=(((((w.alloc (Obj.cells #[Value.slice A1 l1.length c1] 37)).alloc (Obj.cells #[Value.bool false] 4)).alloc (Obj.cells #[Value.slice none 0 0] 37)).alloc (Obj.cells #[Value.slice A0 l0.length c0] 37)).alloc (Obj.cells #[Value.int IntKind.i64 400] 3)):=⟨_,rfl⟩
 have bS:Boxed W5 w.heap.size 37 (.slice A1 l1.length c1):=by rw [hW5];exact ((((Boxed.new w 37 _).alloc _).alloc _).alloc _).alloc _
 have bH:Boxed W5 (w.heap.size+1) 4 (.bool false):=by
  rw [hW5]
  have:=Boxed.new (w.alloc (Obj.cells #[Value.slice A1 l1.length c1] 37)) 4 (.bool false)
  rw [hsz0] at this
  exact ((this.alloc _).alloc _).alloc _
 have bO:Boxed W5 (w.heap.size+1+1) 37 (.slice none 0 0):=by
  rw [hW5]
  have:=Boxed.new ((w.alloc (Obj.cells #[Value.slice A1 l1.length c1] 37)).alloc (Obj.cells #[Value.bool false] 4)) 37 (.slice none 0 0)
  rw [hsz0,hsz0] at this
  exact (this.alloc _).alloc _
 have bA:Boxed W5 (w.heap.size+1+1+1) 37 (.slice A0 l0.length c0):=by
  rw [hW5]
  have:=Boxed.new (((w.alloc (Obj.cells #[Value.slice A1 l1.length c1] 37)).alloc (Obj.cells #[Value.bool false] 4)).alloc (Obj.cells #[Value.slice none 0 0] 37)) 37 (.slice A0 l0.length c0)
  rw [hsz0,hsz0,hsz0] at this
  exact this.alloc _
 have bN:Boxed W5 (w.heap.size+1+1+1+1) 3 (.int .i64 400):=by
  rw [hW5]
  have:=Boxed.new ((((w.alloc (Obj.cells #[Value.slice A1 l1.length c1] 37)).alloc (Obj.cells #[Value.bool false] 4)).alloc (Obj.cells #[Value.slice none 0 0] 37)).alloc (Obj.cells #[Value.slice A0 l0.length c0] 37)) 3 (.int .i64 400)
  rw [hsz0,hsz0,hsz0,hsz0] at this
  exact this
 have hsz:W5.heap.size=w.heap.size+1+1+1+1+1:=by rw [hW5,hsz0,hsz0,hsz0,hsz0,hsz0]
 have hb5:Below w.heap.size w W5:=by
  rw [hW5]
  exact (((((Below.refl _ w).alloc (Nat.le_refl _) _).alloc (by simp) _).alloc (by simp;omega) _).alloc (by simp;omega) _).alloc (by simp;omega) _
 rw [←hW5]
 clear hW5 hsz0
 obtain ⟨F,hF⟩: ∃ F:List Unit->List S74,F=fun pre=>if pre.length=0 then [] else lessF l0 l1:=⟨_,rfl⟩
 refine wpIn_rangeFunc_ownG rfl (by omega) (gf:=142) (lb:=#[.pointer (some ⟨w.heap.size+1+1+1,0,none⟩),.pointer (some ⟨w.heap.size+1+1+1+1,0,none⟩)]) rfl trivial (enters_of Tryz.func142 (by kernel_rfl) rfl)
  (iq_ (3 - 1) (by omega) (w.heap.size+1+1+1) (w.heap.size+1+1+1+1) A0 l0 c0 h4 HC0.out W5 (Kd.C_below HR0.out hb5) (by omega) (by omega) bA.cell bN.cell)
  (fun h k=>h.trans k) (fun W l o o' _ h ho _=>KC.put W l o o' h ho) (Below.refl _ _) (fun _=>rfl)
  (fun pre W=>(∃ v,Boxed W (w.heap.size+1+1) 37 v∧W.ownsRow w.heap.size 74 2 v (F pre).length (c34 (F pre))∧(pre.length=0->v=.slice none 0 0))∧(Boxed W w.heap.size 37 (.slice A1 l1.length c1)∧Boxed W (w.heap.size+1) 4 (.bool false))∧Below w.heap.size w W)
  (fun _ _ _=>False)
  (OwnFrom.and (Own.from (holdsRow_own w.heap.size (w.heap.size+1+1) 37 74 2 (fun pre=>(F pre).length) (fun pre=>c34 (F pre)) (fun pre v=>pre.length=0->v=.slice none 0 0)) _) (OwnFrom.and (OwnFrom.and (Own.from (boxed_own _ _ _) _) (Own.from (boxed_own _ _ _) _)) (ownFrom_below (Nat.le_refl _) (by omega))))
  (fun _ _ _ _ _ hs _ _=>hs)
  ⟨⟨_,bO,by rw [hF];exact World.ownsRow_nil _ _ _ _,fun _=>rfl⟩,⟨bS,bH⟩,hb5⟩
  (fun x=>{ tmps:=#[Value.slice A0 l0.length c0,Value.slice A1 l1.length c1,Value.bool false,undef,
     Value.pointer (some { block:=w.heap.size,off:=0 }),
     Value.pointer (some { block:=w.heap.size+1,off:=0 }),Value.slice none 0 0,
     Value.pointer (some { block:=w.heap.size+1+1,off:=0 }),Value.slice A0 l0.length l0.length,Value.slice A0 l0.length c0,
     Value.func (Fn.func 142) #[]
      #[Value.pointer (some { block:=w.heap.size+1+1+1,off:=0 }),
       Value.pointer (some { block:=w.heap.size+1+1+1+1,off:=0 })],
     Value.slice A0 l0.length l0.length,undef,undef,undef,undef,undef,undef,undef,undef,undef,undef,undef,undef],defers:=[] }) ?assign ?body ?done ?stop
 case assign=>
  intro l x W K hK
  gi_wp2
  exact hK
 case body=>
  rintro l pre x W ⟨⟨v,hv,hrow,hnil⟩,⟨hS,hH⟩,hB⟩ hlt
  have hp0:pre.length=0:=by omega
  obtain rfl:=hnil hp0
  have hcO:=hv.cell
  have hcS:=hS.cell
  have hcH:=hH.cell
  have hd:1<=3 - 1 - 1:=by omega
  have hmx:Tryz.prog.follows .mixedOrders=true:=by kernel_rfl
  gi_wp2
  have hbase:w.heap.size<=W.heap.size:=hB.size
  have hlen:(lessF l0 l1).length*16<=140737488355328:=by have:=(jo_ fun c=>hasB l0 c && !hasB l1 c).n;unfold lessF;omega
  have hcall:Calls Tryz.prog 114 #[.slice A0 l0.length l0.length,.slice A1 l1.length c1] W.drew fun e W1=> ∃ A3 a3 A4 a4 w2,e=.returned (.slice A3 (lessF l0 l1).length a3)∧Below W.heap.size W W1∧(Builtin.append_ #[37,37] 37 #[.slice none 0 0,.slice A3 (lessF l0 l1).length a3]).run Tryz.prog W1=.ok (.slice A4 (lessF l0 l1).length a4) w2∧Kd.R k74 74 w2 w.heap.size (fun _=>True) (.slice A4 (lessF l0 l1).length a4) (lessF l0 l1)∧W1.grownBy w2 none:=by
   refine (c18 A0 l0.length l0 W.drew (Kd.C_drew (Kd.C_below HR0.out hB)) (Nat.le_refl _) A1 c1 l1 (Kd.C_drew (Kd.C_below HR1.out hB)) HC1.out (lessF l0 l1) rfl).mono ?_
   rintro e W1 ⟨v1,rfl,hs,hb⟩
   obtain ⟨A3,a3,rfl⟩:=Kd.R_slice hs
   have hWW1:Below W.heap.size W W1:=⟨hb.os,hb.tape,hb.output,hb.size,hb.block⟩
   obtain ⟨A4,a4,w2,h1,h2,h3⟩:=part_app w.heap.size W1 (Nat.le_trans hbase hWW1.size) A3 a3 _ (lessF l0 l1) hs hlen
   exact ⟨A3,a3,A4,a4,w2,rfl,hWW1,h1,h2,h3⟩
  have HCALL:=Sd.m hcall
  clear hcall
  gi_region_with_o (refine ⟨trivial,?_⟩;gi_at_call 114;refine (CallsIn.inRound l (callsIn_wide.2 HCALL.out)).mono ?_;rintro e W1 ⟨A3,a3,A4,a4,w2,rfl,hWW1,hrun,hR2,hg2⟩;have hv1:Boxed W1 (w.heap.size+1+1) 37 (.slice none 0 0):=(hWW1.block _ hv.lt).trans hv;have hS1:Boxed W1 w.heap.size 37 (.slice A1 l1.length c1):=(hWW1.block _ hS.lt).trans hS;have hH1:Boxed W1 (w.heap.size+1) 4 (.bool false):=(hWW1.block _ hH.lt).trans hH;have hcO1:=hv1.cell;have hv2:Boxed w2 (w.heap.size+1+1) 37 (.slice none 0 0):=hv1.kept hg2 (fun e=>by cases e);have hS2:=hS1.kept hg2 (fun e=>by cases e);have hH2:=hH1.kept hg2 (fun e=>by cases e);have hc2:=hv2.cell;have hf2:=hv2.frozen)
  all_goals
   obtain ⟨e1,e2,e3,e4⟩:=parts_end W5.heap.size (w.heap.size+1+1+1) (w.heap.size+1+1+1+1) (w.heap.size+1+1) w W W1 w2 hB hWW1 hg2 (by omega) (by omega) (by omega) _ _ hv2 hR2
   have hFp:F (pre ++ [x])=lessF l0 l1:=by
    rw [hF]
    exact if_neg (by simp)
   exact ⟨e1,e2,⟨_,hv2.set _,by rw [hFp];exact e3,fun h=>absurd h (by simp)⟩,⟨hS2.other (by omega) _,hH2.other (by omega) _⟩,e4⟩
 case done=>
  rintro D xs W hD hxs ⟨⟨v,hv,hrow,hnil⟩,⟨hS,hH⟩,hB⟩ hK
  have hcO:=hv.cell
  have hFx:F xs=lessF l0 l1:=by
   rw [hF]
   dsimp only
   by_cases hz:l0.length=0
   ·rw [hxs,if_pos hz,if_pos rfl]
    symm
    unfold lessF
    exact canon_nil fun c _ _=>by rw [List.eq_nil_of_length_eq_zero hz];simp [hasB,Mem]
   ·rw [hxs,if_neg hz,if_neg (by omega)]
  rw [hFx] at hrow
  gi_wp2
  refine ⟨by simp,.inl ⟨_,_,rfl,run_takeDeferred hK,?_⟩⟩
  exact ⟨_,results_tmp rfl _ _ _,v,rfl,R34_of_own (ownsRow_putObj hrow _ hK rfl),hB.trans (belowK_b (w:=w) (Nat.le_refl _) W D _ _ (by omega) hK rfl rfl)⟩
 case stop=>
  rintro D c pre W _ _ h _
  exact h.elim
theorem ih_ (A0:Option Addr)(c0:Nat)(l0:List S74)(A1:Option Addr)(c1:Nat)(l1:List S74)(b:Bool)(w:World)(hr0:Kd.C k74 w A0 l0.length l0)(hc0:l0.length<=c0)(hr1:Kd.C k74 w A1 l1.length l1)(hc1:l1.length<=c1)(h4:l0.length<=400):
  Calls Tryz.prog 77 #[.slice A0 l0.length c0,.slice A1 l1.length c1,.bool b] w fun e w'=> ∃ v,e=.returned v∧Kd.R k74 74 w' w.heap.size (fun _=>True) v (partF l0 l1 b)∧Below w.heap.size w w':=by
 cases b with
 | true=>
  rw [iy_]
  exact parts_true A0 c0 l0 A1 c1 l1 w hr0 hc0 hr1 hc1 h4
 | false=>
  rw [ii_]
  exact parts_false A0 c0 l0 A1 c1 l1 w hr0 hc0 hr1 hc1 h4
end L
namespace L
open Shelf Go.Sort Lib A
instance:Inhabited S74:=⟨z74⟩
open P
def lowR (l:List S74):Int:=(aq_ l 0).f0
theorem cmp_rows (A0:Option Addr)(c0:Nat)(l0:List S74)(A1:Option Addr)(c1:Nat)(l1:List S74)(w:World)(hr0:Kd.C k74 w A0 l0.length l0)(hr1:Kd.C k74 w A1 l1.length l1)(h0:0<l0.length)(h1:0<l1.length):
  Calls Tryz.prog 79 #[.slice A0 l0.length c0,.slice A1 l1.length c1] w fun e w'=>e=.returned (.int .i64 (cmpI (lowR l0) (lowR l1)))∧ ∃ q,w'=w.drewN q:=by
 obtain ⟨ad0,rfl,k0,_⟩:=dv_ hr0 0 (by omega) (by omega)
 obtain ⟨ad1,rfl,k1,_⟩:=dv_ hr1 0 (by omega) (by omega)
 have z0:w.cell? ad0=some (.int .i64 (lowR l0)):=by simpa [Addr.add,lowR] using k0
 have z1:w.cell? ad1=some (.int .i64 (lowR l1)):=by simpa [Addr.add,lowR] using k1
 have hc: ∀ W':World,Calls Tryz.prog 80 #[.int .i64 (lowR l0),.int .i64 (lowR l1)] W' fun e w'=>e=.returned (.int .i64 (cmpI (lowR l0) (lowR l1)))∧ ∃ n,w'=W'.drewN n:=fun W'=>(cmp_int (lowR l0) (lowR l1) W').mono fun e w' ⟨h1,h2⟩=>⟨h1,0,h2⟩
 generalize cmpI (lowR l0) (lowR l1)=r at hc ⊢
 have HC:=Sd.m hc
 have b0:(0:Int)<(l0.length:Int):=by omega
 have b1:(0:Int)<(l1.length:Int):=by omega
 clear hc hr0 hr1 k0 k1
 go_enter Tryz.func79,Tryz.ntmps79
 go_wp2_with fail
 go_quiet ((go_at_call 80;refine Calls.quiet_of (HC.out _)))
 go_wp2_with fail
 go_ret
 exact ⟨rfl,_,rfl⟩
def RowsAt (W:World)(h:Nat)(hdrs:List Value)(xs:List (List S74)):Prop:=hdrs.length=xs.length∧ ∀ (j:Nat) u x,hdrs[j]? =some u->xs[j]? =some x->Kd.R k74 74 W h (fun _=>True) u x
theorem R34_kept {W W1:World}{base:Nat}{v:Value}{xs:List S74}(h:Kd.R k74 74 W base (fun _=>True) v xs)(hm: ∀ (k:Nat) (cells:Array Value),W.heap[k]? =some (Obj.cells cells 74 (0,0))->W1.heap[k]? =W.heap[k]?):Kd.R k74 74 W1 base (fun _=>True) v xs:=by
 refine Kd.R_mono (Kd.R_move (Kd.R_bound h) (fun k hk=>?_)) (fun _ _=>trivial)
 obtain ⟨_,_,_,q,hq,cells,hc⟩:=hk
 have hE:k74.E=[]:=rfl
 rw [hE,List.mem_singleton] at hq
 subst hq
 exact hm k cells hc
theorem RowsAt.kept {W W1:World}{h:Nat}{hdrs:List Value}{xs:List (List S74)}(r:RowsAt W h hdrs xs)(hm: ∀ (k:Nat) (cells:Array Value),W.heap[k]? =some (Obj.cells cells 74 (0,0))->W1.heap[k]? =W.heap[k]?):RowsAt W1 h hdrs xs:=
 ⟨r.1,fun j u x hu hx=>R34_kept (r.2 j u x hu hx) hm⟩
def OwnRows (W:World)(h:Nat)(v:Value)(xs:List (List S74)):Prop:= ∃ hdrs,W.ownsRow h 37 1 v xs.length hdrs∧RowsAt W h hdrs xs
theorem sw_other {α:Type}[Inhabited α](enc:α->Value){w:World}{g m q:Nat}{d:Array α}{os:Array Obj}(hq:q<w.heap.size)(hne:q≠g):(sortWorld enc w g 0 m d os).heap[q]? =w.heap[q]? :=by
 show ((Sort.ahead w m).heap.modify g (onCells (putCells enc 0 d)) ++ os)[q]? =_
 rw [Array.getElem?_append_left (by simp [Sort.ahead];omega)]
 simp [Sort.ahead,Array.getElem?_modify,Ne.symm hne]
theorem ltF {α:Type}(f:α->Int)(x y:α):ltOf (fun x y=>cmpI (f x) (f y)) x y=decide (f x<f y):=by
 unfold ltOf cmpI
 by_cases h1:f x<f y
 ·simp [h1]
 ·by_cases h2:f y<f x <;> simp [h1,h2]
theorem swoF {α:Type}(f:α->Int):SWO (ltOf fun x y=>cmpI (f x) (f y)) where
 irrefl x:=by rw [ltF];simp
 trans x y z h1 h2:=by rw [ltF] at *;simp at *;omega
 ntrans x y z h1 h2:=by rw [ltF] at *;simp at *;omega
theorem extract_all {α:Type}(a:Array α){n:Nat}(h:a.size=n):a.extract 0 n=a:=by
 subst h
 exact Array.extract_size
theorem ofFn_map {α:Type}(xs:List α):(Array.ofFn (fun i:Fin xs.length=>i)).toList.map (fun i=>xs[i.1])=xs:=by
 apply List.ext_getElem
 ·simp
 ·intro i h1 h2
  simp
theorem sort_rows {w0 W:World}{h:Nat}{v:Value}{xs:List (List S74)}(hO:OwnRows W h v xs)(hb:Below h w0 W)(hn:0<xs.length)(hne: ∀ x∈xs,0<x.length)(hz:xs.length<4611686018427387904):
  Calls Tryz.prog 78 #[v,.func (.func 79) #[] #[]] W fun e w'=>e=.returned (.tuple #[])∧ ∃ ys,ys.Perm xs∧(ys.Pairwise fun x y=>lowR x<=lowR y)∧OwnRows w' h v ys∧Below h w0 w':=by
 obtain ⟨hdrs,⟨ho1,ho2⟩,hl,hr⟩:=hO
 rcases ho2 with ⟨_,hn0⟩ | ⟨g,cap,cur,rfl,hbg,hh,hnc,hcm,hcs,ht⟩
 ·omega
 haveI:Inhabited (Fin xs.length):=⟨⟨0,hn⟩⟩
 obtain ⟨enc,henc⟩: ∃ enc:Fin xs.length->Value,enc=fun i=>hdrs[i.1]'(by rw [hl];exact i.2):=⟨_,rfl⟩
 obtain ⟨low,hlow⟩: ∃ low:Fin xs.length->Int,low=fun i=>lowR xs[i.1]:=⟨_,rfl⟩
 have row: ∀ i:Fin xs.length,∃ A c,enc i=.slice A (xs[i.1]).length c∧Kd.R k74 74 W h (fun _=>True) (.slice A (xs[i.1]).length c) xs[i.1]:=by
  intro i
  have hR:=hr i.1 (enc i) xs[i.1] (by rw [henc];exact List.getElem?_eq_getElem _) (List.getElem?_eq_getElem _)
  obtain ⟨A,c,e⟩:=Kd.R_slice hR
  exact ⟨A,c,e,e ▸ hR⟩
 have hglt:g<W.heap.size:=(Array.getElem?_eq_some_iff.1 hh).1
 have far: ∀ {m:Nat} {dk:Array (Fin xs.length)} {os:Array Obj} (k:Nat) (cells:Array Value),W.heap[k]? =some (Obj.cells cells 74 (0,0))->(sortWorld enc W g 0 m dk os).heap[k]? =W.heap[k]? :=by
  intro m dk os k cells hk
  exact sw_other enc (Array.getElem?_eq_some_iff.1 hk).1 (di_ hk hh (by decide))
 have hd:(Array.ofFn (fun i:Fin xs.length=>i)).size=xs.length:=Array.size_ofFn
 have eg: ∀ args w,(callFunc 79 args).run Tryz.prog w=.ok (.enter 79 args) w:=enters_of Tryz.func79 (by kernel_rfl) rfl
 have hH:Holds enc W g 0 (Array.ofFn (fun i:Fin xs.length=>i)):=by
  intro j hj
  rw [hd] at hj
  refine ⟨?_,aa_ hh _⟩
  rw [Nat.zero_add]
  refine (ae_ hh j).trans ?_
  have e1:(Array.ofFn (fun i:Fin xs.length=>i))[j]! =⟨j,hj⟩:=by
   rw [getElem!_pos _ j (by rw [hd];exact hj)]
   simp
  rw [e1,henc]
  have e2:hdrs[j]? =cur.toList[j]? :=by
   rw [←ht,List.getElem?_take,if_pos (by omega)]
  rw [←Array.getElem?_toList,←e2]
  exact List.getElem?_eq_getElem _
 have hcmp:CmpLays1 Tryz.prog 79 #[] enc (fun i j=>cmpI (low i) (low j)) g 0 (Array.ofFn (fun i:Fin xs.length=>i)).size W:=by
  intro m os dk hs i j
  obtain ⟨A,c,e1,hR1⟩:=row i
  obtain ⟨B,b,e2,hR2⟩:=row j
  rw [e1,e2,hlow]
  exact (cmp_rows A c xs[i.1] B b xs[j.1] _ (Kd.R_reads' (R34_kept hR1 far)).2.2 (Kd.R_reads' (R34_kept hR2 far)).2.2 (hne _ (List.getElem_mem _)) (hne _ (List.getElem_mem _))).mono fun e w' ⟨he,q,hq⟩=>⟨he,q,#[],by rw [hq,grow_empty]⟩
 have hone:OneCell enc:=fun i=>by obtain ⟨A,c,e,_⟩:=row i;rw [e];rfl
 have hc:=Any.slices_SortFunc Tryz.sortRows enc hone (fun i j=>cmpI (low i) (low j)) (swoF low) 79 #[] g 0 cap (Array.ofFn (fun i:Fin xs.length=>i)) W eg hcmp hH hglt (by rw [hd];exact hz)
 rw [hd] at hc
 have hc':Calls Tryz.prog 78 #[.slice (some ⟨g,0,none⟩) xs.length cap,.func (.func 79) #[] #[]] W _:=hc
 refine hc'.mono ?_
 rintro e w' ⟨rfl,d',n,os,⟨hs1,hs2,hs3⟩,hso,rfl⟩
 have hsz:d'.size=xs.length:=by rw [hs1,hd]
 have hp:d'.toList.Perm (Array.ofFn (fun i:Fin xs.length=>i)).toList:=by
  rw [extract_all _ hsz,extract_all _ hd] at hs3
  exact hs3
 have hlen:(d'.toList.map fun i=>xs[i.1]).length=xs.length:=by rw [List.length_map,Array.length_toList,hsz]
 refine ⟨rfl,d'.toList.map fun i=>xs[i.1],?_,?_,⟨d'.toList.map enc,⟨?_,.inr ⟨g,cap,putCells enc 0 d' cur,?_,hbg,?_,?_,hcm,?_,?_⟩⟩,?_,?_⟩,?_⟩
 ·have:=hp.map fun i:Fin xs.length=>xs[i.1]
  rwa [ofFn_map] at this
 ·rw [List.pairwise_map,List.pairwise_iff_getElem]
  intro i j hi hj hij
  have hi':i<d'.size:=by simpa using hi
  have hj':j<d'.size:=by simpa using hj
  have:=hso i j (Nat.zero_le _) hij (by omega)
  rw [ltF,getElem!_pos d' j hj',getElem!_pos d' i hi'] at this
  have:=of_decide_eq_false this
  rw [hlow] at this
  dsimp only at this
  simp only [Array.getElem_toList]
  omega
 ·rw [hlen,List.length_map,Array.length_toList,hsz,Nat.mul_one]
 ·rw [hlen]
 ·have:((Sort.ahead W n).heap.modify g (onCells (putCells enc 0 d')))[g]? =some (.cells (putCells enc 0 d' cur) 37 (0,0)):=by
   simp [Sort.ahead,Array.getElem?_modify,hh,onCells]
  show ((Sort.ahead W n).heap.modify g (onCells (putCells enc 0 d')) ++ os)[g]? =_
  rw [Array.getElem?_append_left (by simpa [Sort.ahead] using hglt)]
  exact this
 ·rw [hlen];exact hnc
 ·simpa [putCells] using hcs
 ·rw [hlen]
  apply List.ext_getElem?
  intro j
  rw [List.getElem?_take,Nat.mul_one]
  by_cases hj:j<xs.length
  ·have hjc:j<cur.size:=by rw [hcs];omega
   rw [if_pos hj,Array.getElem?_toList]
   simp only [putCells,Array.getElem?_mapIdx,Array.getElem?_eq_getElem hjc,Option.map_some]
   rw [if_pos ⟨Nat.zero_le _,by omega⟩,List.getElem?_map,Array.getElem?_toList,Array.getElem?_eq_getElem (by omega)]
   simp [getElem!_pos,show j<d'.size by omega]
  ·rw [if_neg hj,List.getElem?_eq_none (by rw [List.length_map,Array.length_toList];omega)]
 ·rw [List.length_map,List.length_map]
 ·intro j u x hu hx
  rw [List.getElem?_map] at hu hx
  obtain ⟨i,hi,rfl⟩:=Option.map_eq_some_iff.1 hu
  rw [hi] at hx
  obtain rfl:xs[i.1]=x:=Option.some.inj hx
  obtain ⟨A,c,e,hR⟩:=row i
  rw [e]
  exact R34_kept hR far
 ·refine ⟨hb.os,hb.tape,hb.output,?_,fun q hq=>?_⟩
  ·have:=hb.size
   show _<=((Sort.ahead W n).heap.modify g (onCells (putCells enc 0 d')) ++ os).size
   simp [Sort.ahead]
   omega
  ·rw [←hb.block q hq]
   exact sw_other enc (by omega) (by omega)
theorem OwnRows.nil (W:World)(h:Nat):OwnRows W h (.slice none 0 0) []:=⟨[],World.ownsRow_nil _ _ _ _,rfl,fun j u x hu _=>by simp at hu⟩
theorem OwnRows.lower {W:World}{h h':Nat}{v:Value}{xs:List (List S74)}(o:OwnRows W h v xs)(hb:h'<=h):OwnRows W h' v xs:=by
 obtain ⟨hdrs,ho,hl,hr⟩:=o
 refine ⟨hdrs,⟨ho.1,?_⟩,hl,fun j u x hu hx=>Kd.R_lower (hr j u x hu hx) hb⟩
 rcases ho.2 with hn | ⟨g,cap,cur,e,hg,rest⟩
 ·exact .inl hn
 ·exact .inr ⟨g,cap,cur,e,by omega,rest⟩
theorem OwnRows.below {W W1:World}{h:Nat}{v:Value}{xs:List (List S74)}(o:OwnRows W h v xs)(hb:Below W.heap.size W W1):OwnRows W1 h v xs:=by
 obtain ⟨hdrs,ho,hr⟩:=o
 refine ⟨hdrs,⟨ho.1,?_⟩,hr.kept fun k cells hk=>hb.block k (Array.getElem?_eq_some_iff.1 hk).1⟩
 rcases ho.2 with hn | ⟨g,cap,cur,e,hg,hh,rest⟩
 ·exact .inl hn
 ·exact .inr ⟨g,cap,cur,e,hg,(hb.block g (Array.getElem?_eq_some_iff.1 hh).1).trans hh,rest⟩
theorem OwnRows.slice {W:World}{h:Nat}{v:Value}{xs:List (List S74)}(o:OwnRows W h v xs): ∃ A c,v=.slice A xs.length c:=by
 obtain ⟨hdrs,ho,_⟩:=o
 rcases ho.2 with ⟨e,hn⟩ | ⟨g,cap,cur,e,_⟩
 ·exact ⟨none,0,by rw [e,hn]⟩
 ·exact ⟨_,cap,e⟩
theorem OwnRows.reads {W:World}{h n c:Nat}{A:Option Addr}{xs:List (List S74)}(o:OwnRows W h (.slice A n c) xs):n=xs.length∧xs.length<=c∧Kd.C (Kd.slice 74 k74) W A xs.length xs:=by
 obtain ⟨hdrs,ho,hl,hr⟩:=o
 rcases ho.2 with ⟨e,hn⟩ | ⟨g,cap,cur,e,hg,hh,hnc,hcm,hcs,ht⟩
 ·injection e with e1 e2 e3
  subst e1 e2 e3
  obtain rfl:=List.eq_nil_of_length_eq_zero hn
  exact ⟨rfl,Nat.le_refl _,Kd.C_nil _ _⟩
 ·injection e with e1 e2 e3
  subst e1 e2 e3
  refine ⟨rfl,hnc,rfl,by unfold maxLen at hcm;omega,fun _=>⟨_,rfl,fun j x hx=>?_⟩⟩
  have hj:j<xs.length:=(List.getElem?_eq_some_iff.1 hx).1
  obtain ⟨u,hu⟩: ∃ u,hdrs[j]? =some u:=⟨_,List.getElem?_eq_getElem (by omega)⟩
  have hR:=hr j u x hu hx
  obtain ⟨A',c',rfl⟩:=Kd.R_slice hR
  obtain ⟨k1,k2,k3⟩:=Kd.R_reads' hR
  refine ⟨[.slice A' x.length c'],rfl,(show Kd.K (Kd.slice 74 k74) W x [.slice A' x.length c'] from ⟨A',c',rfl,k2,k3⟩),fun i v hv=>?_⟩
  have hi:i=0:=by
   have:=(List.getElem?_eq_some_iff.1 hv).1
   simp at this
   exact this
  subst hi
  simp at hv
  subst hv
  show W.cell? (Addr.add ⟨g,0,none⟩ (j*1+0))=_
  rw [Nat.mul_one,Nat.add_zero,add_plain]
  refine (ae_ hh j).trans ?_
  rw [←hu,←ht,List.getElem?_take,if_pos (by omega),Array.getElem?_toList]
theorem OwnRows.add {W w1:World}{h:Nat}{v v' u:Value}{xs:List (List S74)}{x:List S74}{hdrs:List Value}{tmp:Obj}(ho:W.ownsRow h 37 1 v xs.length hdrs)(hr:RowsAt W h hdrs xs)(hu:Kd.R k74 74 W h (fun _=>True) u x)
  (hown':w1.ownsRow h 37 1 v' (xs.length+1) (hdrs ++ [u])) (hg:(W.alloc tmp).grownBy w1 v.ownBlock):OwnRows w1 h v' (xs ++ [x]):=by
 have hm: ∀ (k:Nat) (cells:Array Value),W.heap[k]? =some (Obj.cells cells 74 (0,0))->w1.heap[k]? =W.heap[k]? :=by
  intro k cells hk
  have hlt:=(Array.getElem?_eq_some_iff.1 hk).1
  have e1:(W.alloc tmp).heap[k]? =W.heap[k]? :=Below.heap_alloc W tmp k hlt
  have hlt2:k<(W.alloc tmp).heap.size:=by simp;omega
  refine (hg.block k hlt2 fun e=>?_).trans e1
  rcases ho.2 with ⟨e',_⟩ | ⟨g,cap,cur,e',_,hh,_⟩
  ·rw [e'] at e;cases e
  ·rw [e'] at e
   have:k=g:=by simpa [Value.ownBlock] using e
   subst this
   exact di_ hk hh (by decide) rfl
 refine ⟨hdrs ++ [u],by rw [List.length_append];exact hown',by rw [List.length_append,List.length_append,hr.1];rfl,fun j a b ha hb=>?_⟩
 by_cases hj:j<xs.length
 ·rw [List.getElem?_append_left (by rw [hr.1];exact hj)] at ha
  rw [List.getElem?_append_left hj] at hb
  exact R34_kept (hr.2 j a b ha hb) hm
 ·have hjl:=(List.getElem?_eq_some_iff.1 hb).1
  rw [List.length_append,List.length_singleton] at hjl
  have e:j=xs.length:=by omega
  subst e
  rw [List.getElem?_append_right (by rw [hr.1];exact Nat.le_refl _),hr.1,Nat.sub_self] at ha
  rw [List.getElem?_append_right (Nat.le_refl _),Nat.sub_self] at hb
  simp at ha hb
  subst ha hb
  exact R34_kept hu hm
theorem OwnRows.one {W:World}{h g:Nat}{u:Value}{x:List S74}(hh:W.heap[g]? =some (Obj.cells #[u] 37 (0,0)))(hg:h<=g)(hu:Kd.R k74 74 W h (fun _=>True) u x):OwnRows W h (.slice (some ⟨g,0,none⟩) 1 1) [x]:=by
 refine ⟨[u],⟨rfl,.inr ⟨g,1,#[u],rfl,hg,hh,Nat.le_refl _,by decide,rfl,rfl⟩⟩,rfl,fun j a b ha hb=>?_⟩
 cases j with
 | zero=>
  simp at ha hb
  subst ha hb
  exact hu
 | succ j=>simp at ha
theorem long_one (A0:Option Addr)(c0:Nat)(l0:List S74)(w:World):Calls Tryz.prog 74 #[.slice A0 l0.length c0] w fun e w'=>e=.returned (.bool (decide (400<l0.length)))∧Below w.heap.size w w':=by
 by_cases h:400<l0.length
 ·have b1:decide (400<l0.length)=true:=dt__ h
  have b2:decide (400<(l0.length:Int))=true:=dt__ (by omega)
  rw [b1]
  clear h
  go_enter Tryz.func74,Tryz.ntmps74
  go_wp2_with fail
  go_ret
  exact ⟨by first | rfl | (simp [b1,b2];done) | (rw [b2];done),Below.refl _ _⟩
 ·have b1:decide (400<l0.length)=false:=df__ h
  have b2:decide (400<(l0.length:Int))=false:=df__ (by omega)
  rw [b1]
  clear h
  go_enter Tryz.func74,Tryz.ntmps74
  go_wp2_with fail
  go_ret
  exact ⟨by first | rfl | (simp [b1,b2];done) | (rw [b2];done),Below.refl _ _⟩
theorem class_one (c:Int)(gc:Nat)(A0:Option Addr)(c0:Nat)(l0:List S74)(w:World)(hr0:Kd.C k74 w A0 l0.length l0)(hc0:l0.length<=c0)(hg:w.heap[gc]? =some (.cells #[.int .i64 c] 3 (0,0))):
  Calls Tryz.prog 103 #[.slice A0 l0.length c0,.pointer (some ⟨gc,0,none⟩)] w fun e w'=>e=.returned (.bool (hasF l0 c))∧Below w.heap.size w w':=by
 have hs:=c24 A0 c0 l0 w hr0 hc0 c _ rfl
 have hcell:=bc_ hg 0 rfl
 generalize hasF l0 c=b at hs ⊢
 have HS:=Sd.m hs
 clear hs hg hr0 hc0
 go_enter Tryz.func103,Tryz.ntmps103
 go_wp2_with fail
 refine HS.out.mono ?_
 rintro e w' ⟨rfl,hb⟩
 have HB:=Sd.m hb
 clear hb
 go_wp2_with fail
 go_ret
 exact ⟨rfl,HB.out⟩
def ixF (p:List S74->Bool)(l:List (List S74)):Int:=match l.findIdx? p with
 | some i=>i
 | none=> -1
theorem ixF_ge (p:List S74->Bool)(l:List (List S74)):decide (0<=ixF p l)=l.any p:=by
 unfold ixF
 cases h:l.findIdx? p with
 | none=>
  have:=List.findIdx?_eq_none_iff.1 h
  simp only
  rw [df__ (by omega)]
  symm
  rw [List.any_eq_false]
  intro x hx
  rw [this x hx]
  decide
 | some i=>
  simp only
  rw [dt__ (by omega)]
  symm
  obtain ⟨hi,hp,_⟩:=List.findIdx?_eq_some_iff_getElem.1 h
  exact List.any_eq_true.2 ⟨_,List.getElem_mem hi,hp⟩
def Lxi (w:World)(l:List (List S74))(p:List S74->Bool)(u:Value)(W:World):Prop:= ∃ j:Nat,j<=l.length∧u=.int .i64 j∧Below w.heap.size w W∧ ∀ r∈l.take j,p r=false
theorem index_long (A0:Option Addr)(c0:Nat)(l0:List (List S74))(w:World)(hr0:Kd.C (Kd.slice 74 k74) w A0 l0.length l0)(hc0:l0.length<=c0):
  Calls Tryz.prog 102 #[.slice A0 l0.length c0,.func (.func 74) #[] #[]] w fun e w'=>e=.returned (.int .i64 (ixF (fun x_:List S74=>decide (400<x_.length)) l0))∧Below w.heap.size w w':=by
 have HR:=Sd.m hr0
 have HM:l0.length<=9223372036854775807:=Kd.C_max hr0
 have eg: ∀ args w,(callFunc 74 args).run Tryz.prog w=.ok (.enter 74 args) w:=enters_of Tryz.func74 (by kernel_rfl) rfl
 clear hr0
 obtain ⟨p,hp⟩: ∃ p:List S74->Bool,p=fun x_:List S74=>decide (400<x_.length):=⟨_,rfl⟩
 rw [←hp]
 have HP:=Sd.m hp
 clear hp
 go_enter Tryz.func102,Tryz.ntmps102
 go_wp2_with fail
 go_loopw [8] (fun u W=>Lxi w l0 p u W) (fun u _=>l0.length - (intOf u).toNat)
 case atStart=>exact ⟨0,Nat.zero_le _,rfl,Below.refl _ _,(fun r hr=>by simp at hr)⟩
 case round=>
  obtain ⟨j,hj,rfl,hb,hno⟩:=hrel
  have HB:=Sd.m hb
  have HN:=Sd.m hno
  clear hb hno
  by_cases hlt:j<l0.length
  ·have b1:decide ((j:Int)<(l0.length:Int))=true:=dt__ (by omega)
   have b2:decide (j<l0.length)=true:=dt__ hlt
   obtain ⟨ad,A1,c1,rfl,k0,k1,k2⟩:=at_L3 (Kd.C_below HR.out HB.out) (j:Int) (by omega) (by omega)
   rw [Int.toNat_natCast] at k0
   have hq0:0<=(j:Int):=by omega
   have hq1:(j:Int)<(l0.length:Int):=by omega
   have w2:IntKind.i64.wrap ((j:Int)+1)=(j:Int)+1:=IntWalk.i64_in _ (by omega)
   have hel:l0[j]? =some (fc_ l0 j):=by
    unfold fc_
    rw [Int.toNat_natCast,List.getD_eq_getElem?_getD,List.getElem?_eq_getElem hlt]
    rfl
   have HE:=Sd.m hel
   clear hel
   obtain ⟨s,hs⟩: ∃ s,s=fc_ l0 j:=⟨_,rfl⟩
   rw [←hs] at k0 k1 k2 HE
   clear hs
   have HK:=Sd.m k2
   have HK1:=Sd.m k1
   clear k2 k1
   go_wp2_with fail
   have hrl:=long_one A1 c1 s wr
   rw [show decide (400<s.length)=p s from by rw [HP.out]] at hrl
   refine hrl.mono ?_
   clear hrl
   rintro e W7 ⟨rfl,hb7⟩
   have HB7:=Sd.m (HB.out.trans (hb7.mono HB.out.size))
   clear hb7 k0
   cases hi:p s with
   | true=>
    have HI:=Sd.m hi
    clear hi
    go_wp2_with fail
    go_ret
    have hfi:(l0.findIdx? p)=some j:=List.findIdx?_eq_some_iff_getElem.2 ⟨hlt,(by rw [List.getElem?_eq_getElem hlt] at HE;rw [Option.some.inj HE.out];exact HI.out),(fun i hi=>by
     have:=HN.out (l0[i]'(by omega)) (List.mem_take_iff_getElem.2 ⟨i,by omega,rfl⟩)
     rw [this]
     decide)⟩
    have hix:ixF p l0=j:=by
     unfold ixF
     rw [hfi]
    exact ⟨by rw [hix];rfl,HB7.out⟩
   | false=>
    have HI:=Sd.m hi
    clear hi
    go_wp2_with fail
    go_roundw
    case rel=>
     refine ⟨j+1,hlt,by go_num,HB7.out,fun r hr=>?_⟩
     rw [List.take_add_one,HE.out] at hr
     rcases List.mem_append.1 hr with hr | hr
     ·exact HN.out r hr
     ·simp at hr
      rw [hr]
      exact HI.out
    case measure=>simp [intOf];omega
  ·have b1:decide ((j:Int)<(l0.length:Int))=false:=df__ (by omega)
   have b2:decide (j<l0.length)=false:=df__ hlt
   go_wp2_with fail
   go_ret
   have:ixF p l0= -1:=by
    unfold ixF
    rw [List.findIdx?_eq_none_iff.2 fun x hx=>HN.out x (by rw [List.take_of_length_le (by omega)];exact hx)]
   exact ⟨by rw [this];rfl,HB.out⟩
theorem index_class (c:Int)(gc:Nat)(A0:Option Addr)(c0:Nat)(l0:List (List S74))(w:World)(hr0:Kd.C (Kd.slice 74 k74) w A0 l0.length l0)(hc0:l0.length<=c0)(hg:w.heap[gc]? =some (.cells #[.int .i64 c] 3 (0,0))):
  Calls Tryz.prog 102 #[.slice A0 l0.length c0,.func (.func 103) #[] #[.pointer (some ⟨gc,0,none⟩)]] w fun e w'=>e=.returned (.int .i64 (ixF (fun x_:List S74=>hasF x_ c) l0))∧Below w.heap.size w w':=by
 have HR:=Sd.m hr0
 have HG:=Sd.m hg
 clear hg
 have HM:l0.length<=9223372036854775807:=Kd.C_max hr0
 have eg: ∀ args w,(callFunc 103 args).run Tryz.prog w=.ok (.enter 103 args) w:=enters_of Tryz.func103 (by kernel_rfl) rfl
 clear hr0
 obtain ⟨p,hp⟩: ∃ p:List S74->Bool,p=fun x_:List S74=>hasF x_ c:=⟨_,rfl⟩
 rw [←hp]
 have HP:=Sd.m hp
 clear hp
 go_enter Tryz.func102,Tryz.ntmps102
 go_wp2_with fail
 go_loopw [8] (fun u W=>Lxi w l0 p u W) (fun u _=>l0.length - (intOf u).toNat)
 case atStart=>exact ⟨0,Nat.zero_le _,rfl,Below.refl _ _,(fun r hr=>by simp at hr)⟩
 case round=>
  obtain ⟨j,hj,rfl,hb,hno⟩:=hrel
  have HB:=Sd.m hb
  have HN:=Sd.m hno
  clear hb hno
  by_cases hlt:j<l0.length
  ·have b1:decide ((j:Int)<(l0.length:Int))=true:=dt__ (by omega)
   have b2:decide (j<l0.length)=true:=dt__ hlt
   obtain ⟨ad,A1,c1,rfl,k0,k1,k2⟩:=at_L3 (Kd.C_below HR.out HB.out) (j:Int) (by omega) (by omega)
   rw [Int.toNat_natCast] at k0
   have hq0:0<=(j:Int):=by omega
   have hq1:(j:Int)<(l0.length:Int):=by omega
   have w2:IntKind.i64.wrap ((j:Int)+1)=(j:Int)+1:=IntWalk.i64_in _ (by omega)
   have hel:l0[j]? =some (fc_ l0 j):=by
    unfold fc_
    rw [Int.toNat_natCast,List.getD_eq_getElem?_getD,List.getElem?_eq_getElem hlt]
    rfl
   have HE:=Sd.m hel
   clear hel
   obtain ⟨s,hs⟩: ∃ s,s=fc_ l0 j:=⟨_,rfl⟩
   rw [←hs] at k0 k1 k2 HE
   clear hs
   have HK:=Sd.m k2
   have HK1:=Sd.m k1
   clear k2 k1
   go_wp2_with fail
   have hrl:=class_one c gc A1 c1 s wr HK.out HK1.out (ag_ HG.out HB.out)
   rw [show hasF s c=p s from by rw [HP.out]] at hrl
   refine hrl.mono ?_
   clear hrl
   rintro e W7 ⟨rfl,hb7⟩
   have HB7:=Sd.m (HB.out.trans (hb7.mono HB.out.size))
   clear hb7 k0
   cases hi:p s with
   | true=>
    have HI:=Sd.m hi
    clear hi
    go_wp2_with fail
    go_ret
    have hfi:(l0.findIdx? p)=some j:=List.findIdx?_eq_some_iff_getElem.2 ⟨hlt,(by rw [List.getElem?_eq_getElem hlt] at HE;rw [Option.some.inj HE.out];exact HI.out),(fun i hi=>by
     have:=HN.out (l0[i]'(by omega)) (List.mem_take_iff_getElem.2 ⟨i,by omega,rfl⟩)
     rw [this]
     decide)⟩
    have hix:ixF p l0=j:=by
     unfold ixF
     rw [hfi]
    exact ⟨by rw [hix];rfl,HB7.out⟩
   | false=>
    have HI:=Sd.m hi
    clear hi
    go_wp2_with fail
    go_roundw
    case rel=>
     refine ⟨j+1,hlt,by go_num,HB7.out,fun r hr=>?_⟩
     rw [List.take_add_one,HE.out] at hr
     rcases List.mem_append.1 hr with hr | hr
     ·exact HN.out r hr
     ·simp at hr
      rw [hr]
      exact HI.out
    case measure=>simp [intOf];omega
  ·have b1:decide ((j:Int)<(l0.length:Int))=false:=df__ (by omega)
   have b2:decide (j<l0.length)=false:=df__ hlt
   go_wp2_with fail
   go_ret
   have:ixF p l0= -1:=by
    unfold ixF
    rw [List.findIdx?_eq_none_iff.2 fun x hx=>HN.out x (by rw [List.take_of_length_le (by omega)];exact hx)]
   exact ⟨by rw [this];rfl,HB.out⟩
def longF (l:List (List S74)):Bool:=l.any fun x=>decide (400<x.length)
theorem fn_ (A0:Option Addr)(c0:Nat)(l0:List (List S74))(w:World)(hr0:Kd.C (Kd.slice 74 k74) w A0 l0.length l0)(hc0:l0.length<=c0)(b:Bool)(h:longF l0=b):
  Calls Tryz.prog 75 #[.slice A0 l0.length c0,.func (.func 74) #[] #[]] w fun e w'=>e=.returned (.bool b)∧Below w.heap.size w w':=by
 have hi:=index_long A0 c0 l0 w hr0 hc0
 have hge:decide (0<=ixF (fun x:List S74=>decide (400<x.length)) l0)=b:=(ixF_ge _ l0).trans h
 generalize ixF (fun x:List S74=>decide (400<x.length)) l0=i at hi hge
 rw [←hge]
 have HI:=Sd.m hi
 clear hi hr0 hc0 hge h
 go_enter Tryz.func75,Tryz.ntmps75
 go_wp2_with fail
 refine HI.out.mono ?_
 rintro e w' ⟨rfl,hb⟩
 have HB:=Sd.m hb
 clear hb
 go_wp2_with fail
 go_ret
 exact ⟨rfl,HB.out⟩
def classF (l:List (List S74))(c:Int):Int:=ixF (fun x=>hasF x c) l
theorem c38 (A0:Option Addr)(c0:Nat)(l0:List (List S74))(a1:Int)(w:World)(hr0:Kd.C (Kd.slice 74 k74) w A0 l0.length l0)(hc0:l0.length<=c0)(n:Int)(h:classF l0 a1=n):
  Calls Tryz.prog 67 #[.slice A0 l0.length c0,.int .i64 a1] w fun e w'=>e=.returned (.int .i64 n)∧Below w.heap.size w w':=by
 have hs:=index_class a1 w.heap.size A0 c0 l0 (w.alloc (.cells #[.int .i64 a1] 3)) (Kd.C_alloc hr0 _) hc0 (aj_ _ _)
 rw [show ixF (fun x_:List S74=>hasF x_ a1) l0=n from h] at hs
 have HS:=Sd.m hs
 clear hs hr0 hc0 h
 go_enter Tryz.func67,Tryz.ntmps67
 go_wp2_with fail
 refine HS.out.mono ?_
 rintro e w' ⟨rfl,hb⟩
 have HB:=Sd.m ((ab_ (Below.refl w.heap.size w) (.cells #[.int .i64 a1] 3)).trans (hb.mono (by simp)))
 clear hb
 go_wp2_with fail
 go_ret
 exact ⟨rfl,HB.out⟩
end L
namespace P
open A L
def bordF (xs:List S74):List Int:=xs.flatMap fun r=>[r.f0,r.f1+1]
theorem bord_len: ∀ xs:List S74,(bordF xs).length=2*xs.length
 | []=>rfl
 | r :: xs=>by
  have:=bord_len xs
  simp only [bordF,List.flatMap_cons,List.length_append,List.length_cons,List.length_nil] at this ⊢
  omega
theorem bord_mem {xs:List S74}{x:Int}(h:x∈bordF xs): ∃ r∈xs,x=r.f0∨x=r.f1+1:=by
 obtain ⟨r,hr,h⟩:=List.mem_flatMap.1 h
 simp at h
 exact ⟨r,hr,h⟩
theorem bord_up: ∀ {xs:List S74},(∀ r∈xs,r.f0<=r.f1)->xs.Pairwise (fun r s=>r.f1+1<s.f0)->(bordF xs).Pairwise (· < ·)
 | [],_,_=>List.Pairwise.nil
 | r :: xs,h,hp=>by
  obtain ⟨h1,h2⟩:=List.pairwise_cons.1 hp
  have ih:=bord_up (xs:=xs) (fun s hs=>h s (List.mem_cons_of_mem _ hs)) h2
  have hr:=h r (List.mem_cons_self ..)
  have far: ∀ x∈bordF xs,r.f1+1<x:=by
   intro x hx
   obtain ⟨s,hs,e | e⟩:=bord_mem hx
   ·rw [e];exact h1 s hs
   ·have:=h1 s hs
    have:=h s (List.mem_cons_of_mem _ hs)
    omega
  show (r.f0 :: (r.f1+1) :: bordF xs).Pairwise (· < ·)
  refine List.pairwise_cons.2 ⟨fun x hx=>?_,List.pairwise_cons.2 ⟨far,ih⟩⟩
  rcases List.mem_cons.1 hx with rfl | hx
  ·omega
  ·have:=far x hx
   omega
theorem mem_two {xs:List S74}(hp:xs.Pairwise fun r s=>r.f1+1<s.f0){r s:S74}(hr:r∈xs)(hs:s∈xs):r=s∨r.f1+1<s.f0∨s.f1+1<r.f0:=by
 induction xs with
 | nil=>cases hr
 | cons t ts ih=>
  obtain ⟨p1,p2⟩:=List.pairwise_cons.1 hp
  rcases List.mem_cons.1 hr with e1 | e1
  ·rcases List.mem_cons.1 hs with e2 | e2
   ·exact Or.inl (e1.trans e2.symm)
   ·exact Or.inr (Or.inl (e1 ▸ p1 s e2))
  ·rcases List.mem_cons.1 hs with e2 | e2
   ·exact Or.inr (Or.inr (e2 ▸ p1 r e1))
   ·exact ih p2 e1 e2
theorem canon_runs (P:Int->Bool)(E:List Int)(h: ∀ c,0<c->c<=1114111->P c≠P (c - 1)->c∈E):2*(canonF P).length<=E.length+2:=by
 have hs:=em_ P
 have hr:=hs.1.1
 have hp:=hs.1.2
 have hm: ∀ c,0<=c->c<1114112->Mem (canonF P) c=P c:=hs.2
 have up:=bord_up (fun r q=>(hr r q).2.1) hp
 have nd:(bordF (canonF P)).Nodup:=up.imp fun q e=>by omega
 have nd1:=nd.erase 0
 have nd2:=nd1.erase 1114112
 have hl:2*(canonF P).length<=(((bordF (canonF P)).erase 0).erase 1114112).length+2:=by
  have e1:=bord_len (canonF P)
  have e2:=List.length_erase (a:=(0:Int)) (l:=bordF (canonF P))
  have e3:=List.length_erase (a:=(1114112:Int)) (l:=(bordF (canonF P)).erase 0)
  split at e2 <;> split at e3 <;> omega
 have:=nodup_len (((bordF (canonF P)).erase 0).erase 1114112) E nd2 ?_
 ·omega
 ·intro x hx
  rw [nd1.mem_erase_iff,nd.mem_erase_iff] at hx
  obtain ⟨hx2,hx1,hx0⟩:=hx
  obtain ⟨r,hq,e | e⟩:=bord_mem hx0
  ·have hb:=hr r hq
   refine h x (by omega) (by omega) ?_
   have t1:P x=true:=by
    rw [←hm x (by omega) (by omega)]
    exact mem_iff.2 ⟨r,hq,by omega,by omega⟩
   have t2:P (x - 1)=false:=by
    rw [←hm (x - 1) (by omega) (by omega)]
    cases hz:Mem (canonF P) (x - 1) with
    | false=>rfl
    | true=>
     obtain ⟨s,hs',k1,k2⟩:=mem_iff.1 hz
     have:=hr s hs'
     rcases mem_two hp hq hs' with e' | e' | e'
     ·rw [←e'] at k1;omega
     ·omega
     ·omega
   rw [t1,t2]
   decide
  ·have hb:=hr r hq
   refine h x (by omega) (by omega) ?_
   have t1:P (x - 1)=true:=by
    rw [←hm (x - 1) (by omega) (by omega)]
    exact mem_iff.2 ⟨r,hq,by omega,by omega⟩
   have t2:P x=false:=by
    rw [←hm x (by omega) (by omega)]
    cases hz:Mem (canonF P) x with
    | false=>rfl
    | true=>
     obtain ⟨s,hs',k1,k2⟩:=mem_iff.1 hz
     have:=hr s hs'
     rcases mem_two hp hq hs' with e' | e' | e'
     ·rw [←e'] at k2;omega
     ·omega
     ·omega
   rw [t1,t2]
   decide
def sigF (sets:List (List S74))(c:Int):List Bool:=sets.map fun s=>hasB s c
def atF (sets:List (List S74))(σ:List Bool):List S74:=canonF fun c=>decide (sigF sets c=σ)
def edgesOf (sets:List (List S74)):List Int:=sets.flatMap fun s=>lowsF s ++ endsF s
theorem hasB_edge {l:List S74}{c:Int}(h0:0<=c)(h:hasB l c≠hasB l (c - 1)):c∈lowsF l ++ endsF l:=by
 rw [List.mem_append]
 cases h1:hasB l c with
 | true=>
  cases h2:hasB l (c - 1) with
  | true=>rw [h1,h2] at h;exact absurd rfl h
  | false=>exact Or.inl (starts h0 h1 (Or.inr h2))
 | false=>
  cases h2:hasB l (c - 1) with
  | true=>exact Or.inr (ends h1 h2)
  | false=>rw [h1,h2] at h;exact absurd rfl h
theorem sig_edge {sets:List (List S74)}{c:Int}(h0:0<=c)(h:sigF sets c≠sigF sets (c - 1)):c∈edgesOf sets:=by
 induction sets with
 | nil=>exact absurd rfl h
 | cons s sets ih=>
  show c∈(lowsF s ++ endsF s) ++ edgesOf sets
  rw [List.mem_append]
  by_cases e:hasB s c=hasB s (c - 1)
  ·refine Or.inr (ih fun e2=>h ?_)
   show hasB s c :: sigF sets c=hasB s (c - 1) :: sigF sets (c - 1)
   rw [e,e2]
  ·exact Or.inl (hasB_edge h0 e)
theorem at_len {sets:List (List S74)}(E:List Int)(hE: ∀ c,0<c->c<=1114111->sigF sets c≠sigF sets (c - 1)->c∈E)(σ:List Bool):2*(atF sets σ).length<=E.length+2:=
 canon_runs _ E fun c h0 h1 h=>hE c h0 h1 fun e=>h (by rw [e])
theorem ft_: ∀ sets:List (List S74),(edgesOf sets).length=2*(sets.map List.length).sum
 | []=>rfl
 | s :: sets=>by
  have:=ft_ sets
  show ((lowsF s ++ endsF s) ++ edgesOf sets).length=_
  rw [List.length_append,List.length_append,lows_len,ends_len,this,List.map_cons,List.sum_cons]
  omega
def ofStep (s:List S74)(atoms:List (List S74)):List (List S74):=atoms.flatMap fun a=>[partF a s true,partF a s false].filter fun p=>decide (0<p.length)
def AtomsOf (sets:List (List S74))(L:List (List S74)):Prop:=
 ∃ T:List (List Bool),T.Nodup∧L=T.map (atF sets)∧(∀ c,0<=c->c<=1114111->sigF sets c∈T)∧ ∀ t∈T,0<(atF sets t).length
theorem jx_ {a b:List Bool}{x y:Bool}:a ++ [x]=b ++ [y]↔a=b∧x=y:=by
 constructor
 ·intro h
  obtain ⟨h1,h2⟩:=List.append_inj' h rfl
  exact ⟨h1,(List.cons.inj h2).1⟩
 ·rintro ⟨rfl,rfl⟩
  rfl
theorem hp_ (pre:List (List S74))(s:List S74)(c:Int):sigF (pre ++ [s]) c=sigF pre c ++ [hasB s c]:=by simp [sigF]
theorem part_at {pre:List (List S74)}{t:List Bool}(h:(atF pre t).length<=400)(s:List S74)(b:Bool):partF (atF pre t) s b=atF (pre ++ [s]) (t ++ [b]):=by
 have key: ∀ c,0<=c->c<=1114111->hasB (atF pre t) c=decide (sigF pre c=t):=fun c h0 h1=>has_canon h h0 h1
 have two: ∀ c,decide (sigF (pre ++ [s]) c=t ++ [b])=(decide (sigF pre c=t) && decide (hasB s c=b)):=by
  intro c
  rw [hp_,Bool.eq_iff_iff]
  simp [jx_]
 cases b with
 | true=>
  rw [iy_]
  unfold andF
  refine (ef_ fun c h0 h1=>?_).trans rfl
  rw [key c h0 h1,two c]
  cases hasB s c <;> simp
 | false=>
  rw [ii_]
  unfold lessF
  refine (ef_ fun c h0 h1=>?_).trans rfl
  rw [key c h0 h1,two c]
  cases hasB s c <;> simp
theorem at_pos {sets:List (List S74)}{c:Int}(h0:0<=c)(h1:c<=1114111):0<(atF sets (sigF sets c)).length:=by
 have h:=canon_mem (fun d=>decide (sigF sets d=sigF sets c)) h0 h1
 rw [dt__ rfl] at h
 obtain ⟨r,hr,_⟩:=mem_iff.1 h
 exact List.length_pos_of_mem hr
theorem not_nil:notF []=atF [] []:=ef_ fun c h0 h1=>by simp [hasB,Mem,sigF]
theorem is_:AtomsOf [] [notF []]:=
 ⟨[[]],List.nodup_cons.2 ⟨by simp,List.nodup_nil⟩,by rw [not_nil];rfl,fun c _ _=>List.mem_singleton.2 rfl,fun t ht=>by
  rw [List.mem_singleton.1 ht]
  exact at_pos (sets:=[]) (c:=0) (by decide) (by decide)⟩
def splitT (sets:List (List S74))(t:List Bool):List (List Bool):=[t ++ [true],t ++ [false]].filter fun u=>decide (0<(atF sets u).length)
theorem gr_ {sets:List (List S74)}{t u:List Bool}:u∈splitT sets t↔(u=t ++ [true]∨u=t ++ [false])∧0<(atF sets u).length:=by
 unfold splitT
 rw [List.mem_filter]
 simp
theorem hv_ (sets:List (List S74)): ∀ {T:List (List Bool)},T.Nodup->(T.flatMap (splitT sets)).Nodup
 | [],_=>List.nodup_nil
 | t :: T,h=>by
  obtain ⟨h1,h2⟩:=List.nodup_cons.1 h
  rw [List.flatMap_cons,List.nodup_append]
  refine ⟨?_,hv_ sets h2,fun u hu v hv e=>?_⟩
  ·refine List.Pairwise.filter _ (List.nodup_cons.2 ⟨?_,List.nodup_cons.2 ⟨by simp,List.nodup_nil⟩⟩)
   rw [List.mem_singleton,jx_]
   simp
  ·obtain ⟨t',ht',hv'⟩:=List.mem_flatMap.1 hv
   have a1:=(gr_.1 hu).1
   have a2:=(gr_.1 hv').1
   rw [e] at a1
   have:t=t':=by
    rcases a1 with a1 | a1 <;> rcases a2 with a2 | a2 <;> exact (jx_.1 (a1.symm.trans a2)).1
   exact h1 (this ▸ ht')
theorem atoms_step {pre L:List (List S74)}(h:AtomsOf pre L)(hl: ∀ a∈L,a.length<=400)(s:List S74):AtomsOf (pre ++ [s]) (ofStep s L):=by
 obtain ⟨T,hn,rfl,hc,hp⟩:=h
 refine ⟨T.flatMap (splitT (pre ++ [s])),hv_ _ hn,?_,?_,?_⟩
 ·unfold ofStep
  clear hn hc hp
  induction T with
  | nil=>rfl
  | cons t T ih=>
   rw [List.map_cons,List.flatMap_cons,List.flatMap_cons,List.map_append,ih fun a ha=>hl a (List.mem_cons_of_mem _ ha)]
   congr 1
   have h1:=hl (atF pre t) (List.mem_cons_self ..)
   rw [part_at h1 s true,part_at h1 s false]
   unfold splitT
   by_cases q1:0<(atF (pre ++ [s]) (t ++ [true])).length <;> by_cases q2:0<(atF (pre ++ [s]) (t ++ [false])).length <;> simp [List.filter_cons,q1,q2]
 ·intro c h0 h1
  refine List.mem_flatMap.2 ⟨_,hc c h0 h1,gr_.2 ⟨?_,at_pos h0 h1⟩⟩
  rw [hp_]
  cases hasB s c
  ·exact Or.inr rfl
  ·exact Or.inl rfl
 ·intro u hu
  obtain ⟨t,_,ht⟩:=List.mem_flatMap.1 hu
  exact (gr_.1 ht).2
def ofAt (sets:List (List S74))(i:Nat):List (List S74):=(sets.take i).foldl (fun L s=>ofStep s L) [notF []]
theorem ofAt_succ {sets:List (List S74)}{i:Nat}{s:List S74}(h:sets[i]? =some s):ofAt sets (i+1)=ofStep s (ofAt sets i):=by
 unfold ofAt
 rw [List.take_add_one,h,List.foldl_append]
 rfl
theorem sig_take {sets:List (List S74)}{i:Nat}{c d:Int}(h:sigF sets c=sigF sets d):sigF (sets.take i) c=sigF (sets.take i) d:=by
 unfold sigF at*
 rw [List.map_take,List.map_take,h]
theorem hr_ {sets:List (List S74)}(E:List Int)(hE: ∀ c,0<c->c<=1114111->sigF sets c≠sigF sets (c - 1)->c∈E)(hl:E.length<=798): ∀ i,i<=sets.length->AtomsOf (sets.take i) (ofAt sets i)∧ ∀ a∈ofAt sets i,a.length<=400:=by
 have len: ∀ i (L:List (List S74)),AtomsOf (sets.take i) L-> ∀ a∈L,a.length<=400:=by
  rintro i L ⟨T,_,rfl,_,_⟩ a ha
  obtain ⟨t,_,rfl⟩:=List.mem_map.1 ha
  have:=at_len (sets:=sets.take i) E (fun c h0 h1 h=>hE c h0 h1 fun e=>h (sig_take e)) t
  omega
 intro i
 induction i with
 | zero=>exact fun _=>⟨is_,len 0 _ is_⟩
 | succ i ih=>
  intro hi
  obtain ⟨h1,h2⟩:=ih (by omega)
  have hs:sets[i]? =some sets[i]:=List.getElem?_eq_getElem (by omega)
  have h3:=atoms_step h1 h2 sets[i]
  rw [←ofAt_succ hs] at h3
  have e:sets.take (i+1)=sets.take i ++ [sets[i]]:=by rw [List.take_add_one,hs];rfl
  rw [←e] at h3
  exact ⟨h3,len (i+1) _ h3⟩
end P
namespace L
open Shelf A P
theorem of_many (A0:Option Addr)(c0:Nat)(l0:List (List S74))(w:World)(h:60<l0.length):
  Calls Tryz.prog 43 #[.slice A0 l0.length c0] w fun e w'=>e=.returned (.tuple #[.slice none 0 0,.int .i64 9])∧Below w.heap.size w w':=by
 have b1:decide (60<(l0.length:Int))=true:=dt__ (by omega)
 have b2:decide (60<l0.length)=true:=dt__ h
 have h1:(60:Int)<(l0.length:Int):=by omega
 go_enter Tryz.func43,Tryz.ntmps43
 go_wp2_with fail
 go_ret2
 exact ⟨rfl,Below.refl _ _⟩
theorem of_long (A0:Option Addr)(c0:Nat)(l0:List (List S74))(w:World)(hr0:Kd.C (Kd.slice 74 k74) w A0 l0.length l0)(hc0:l0.length<=c0)(h:¬ 60<l0.length)(hl:longF l0=true):
  Calls Tryz.prog 43 #[.slice A0 l0.length c0] w fun e w'=>e=.returned (.tuple #[.slice none 0 0,.int .i64 9])∧Below w.heap.size w w':=by
 have hs:=Sd.m (fn_ A0 c0 l0 w hr0 hc0 true hl)
 have b1:decide (60<(l0.length:Int))=false:=df__ (by omega)
 have b2:decide (60<l0.length)=false:=df__ h
 have h1:¬ (60:Int)<(l0.length:Int):=by omega
 clear hr0 hc0 hl
 go_enter Tryz.func43,Tryz.ntmps43
 go_wp2_with fail
 refine hs.out.mono ?_
 rintro e W1 ⟨rfl,hb⟩
 have HB:=Sd.m hb
 clear hb hs
 go_wp2_with fail
 go_ret2
 exact ⟨rfl,HB.out⟩
def OfO (w:World)(l0:List (List S74))(va ui:Value)(W:World):Prop:= ∃ i:Nat,i<=l0.length∧ui=.int .i64 i∧OwnRows W w.heap.size va (ofAt l0 i)∧Below w.heap.size w W∧ ∀ j,0<j->j<=i->(ofAt l0 j).length<=200
def OfM (Wr:World)(s:List S74)(L:List (List S74))(vp uk:Value)(W:World):Prop:= ∃ k:Nat,k<=L.length∧uk=.int .i64 k∧OwnRows W Wr.heap.size vp (ofStep s (L.take k))∧Below Wr.heap.size Wr W
def OfI (Wr:World)(gb:Nat)(v1 v2:Value)(p1 p2:List S74)(acc:List (List S74))(vp ut:Value)(W:World):Prop:= ∃ t:Nat,t<=2∧ut=.int .i64 t∧OwnRows W Wr.heap.size vp (acc ++ ([p1,p2].take t).filter fun p=>decide (0<p.length))∧Below Wr.heap.size Wr W∧vp.ownBlock≠some gb∧W.heap[gb]? =some (Obj.cells #[v1,v2] 37 (0,0))∧Kd.R k74 74 W Wr.heap.size (fun _=>True) v1 p1∧Kd.R k74 74 W Wr.heap.size (fun _=>True) v2 p2
theorem kept34 {W w1:World}{h n:Nat}{v:Value}{hdrs:List Value}{tmp:Obj}(ho:W.ownsRow h 37 1 v n hdrs)(hg:(W.alloc tmp).grownBy w1 v.ownBlock): ∀ (k:Nat) (cells:Array Value),W.heap[k]? =some (Obj.cells cells 74 (0,0))->w1.heap[k]? =W.heap[k]? :=by
 intro k cells hk
 have hlt:=(Array.getElem?_eq_some_iff.1 hk).1
 have e1:(W.alloc tmp).heap[k]? =W.heap[k]? :=Below.heap_alloc W tmp k hlt
 have hlt2:k<(W.alloc tmp).heap.size:=by simp;omega
 refine (hg.block k hlt2 fun e=>?_).trans e1
 rcases ho.2 with ⟨e',_⟩ | ⟨g,cap,cur,e',_,hh,_⟩
 ·rw [e'] at e;cases e
 ·rw [e'] at e
  have:k=g:=by simpa [Value.ownBlock] using e
  subst this
  exact di_ hk hh (by decide) rfl
theorem OwnRows.lt {W:World}{h:Nat}{v:Value}{xs:List (List S74)}(o:OwnRows W h v xs): ∀ k,v.ownBlock=some k->h<=k∧k<W.heap.size:=by
 obtain ⟨hdrs,ho,_⟩:=o
 intro k hk
 rcases ho.2 with ⟨e',_⟩ | ⟨g,cap,cur,e',hg,hh,_⟩
 ·rw [e'] at hk;cases hk
 ·rw [e'] at hk
  have:k=g:=(by simpa [Value.ownBlock] using hk.symm)
  subst this
  exact ⟨hg,(Array.getElem?_eq_some_iff.1 hh).1⟩
theorem inner_app {Wr W w1:World}{gb:Nat}{v1 v2 vp v' u:Value}{p1 p2 x:List S74}{xs:List (List S74)}{hdrs:List Value}{tmp:Obj}(ho:W.ownsRow Wr.heap.size 37 1 vp xs.length hdrs)(hr:RowsAt W Wr.heap.size hdrs xs)(hb:Below Wr.heap.size Wr W)(hne:vp.ownBlock≠some gb)(hgb:W.heap[gb]? =some (Obj.cells #[v1,v2] 37 (0,0)))
  (h1:Kd.R k74 74 W Wr.heap.size (fun _=>True) v1 p1) (h2:Kd.R k74 74 W Wr.heap.size (fun _=>True) v2 p2) (hu:Kd.R k74 74 W Wr.heap.size (fun _=>True) u x)
  (hown':w1.ownsRow Wr.heap.size 37 1 v' (xs.length+1) (hdrs ++ [u])) (hg:(W.alloc tmp).grownBy w1 vp.ownBlock) (hat:v'.ownBlock=vp.ownBlock∨v'.ownBlock=some (W.alloc tmp).heap.size):
  OwnRows w1 Wr.heap.size v' (xs ++ [x])∧Below Wr.heap.size Wr w1∧v'.ownBlock≠some gb∧w1.heap[gb]? =some (Obj.cells #[v1,v2] 37 (0,0))∧Kd.R k74 74 w1 Wr.heap.size (fun _=>True) v1 p1∧Kd.R k74 74 w1 Wr.heap.size (fun _=>True) v2 p2:=by
 have k:=kept34 ho hg
 have hlt:=(Array.getElem?_eq_some_iff.1 hgb).1
 have hsz:(W.alloc tmp).heap.size=W.heap.size+1:=Array.size_push _
 refine ⟨OwnRows.add ho hr hu hown' hg,?_,?_,?_,R34_kept h1 k,R34_kept h2 k⟩
 ·refine (hb.alloc hb.size tmp).grown hg (by have:=hb.size;omega) fun q hq=>?_
  exact (OwnRows.lt ⟨hdrs,ho,hr⟩ q hq).1
 ·rcases hat with e | e
  ·rw [e];exact hne
  ·rw [e,hsz]
   intro e2
   injection e2 with e2
   omega
 ·refine (hg.block gb (by omega) fun e=>hne e.symm).trans ?_
  exact (Below.heap_alloc W tmp gb hlt).trans hgb
theorem ne_add {acc xs ps:List (List S74)}{t:Nat}{p:List S74}(h:ps[t]? =some p)(e0:xs=acc ++ (ps.take t).filter fun p=>decide (0<p.length)):(acc ++ (ps.take (t+1)).filter (fun p=>decide (0<p.length)))=xs ++ (if 0<p.length then [p] else []):=by
 rw [List.take_add_one,h,List.filter_append,←List.append_assoc,←e0]
 by_cases q:0<p.length <;> simp [q]
theorem info37':(Tryz.prog.info? 37).map (fun i=>(i.zero,i.size,i.bytes))=some (some (.slice none 0 0),1,24):=by kernel_rfl
theorem step_len (s:List S74): ∀ L:List (List S74),(ofStep s L).length<=2*L.length
 | []=>Nat.le_refl _
 | a :: L=>by
  have:=step_len s L
  have h1:=List.length_filter_le (fun p:List S74=>decide (0<p.length)) [partF a s true,partF a s false]
  show (([partF a s true,partF a s false].filter fun p=>decide (0<p.length)) ++ ofStep s L).length<=_
  rw [List.length_append,List.length_cons]
  simp only [List.length_cons,List.length_nil] at h1
  omega
theorem of_main (A0:Option Addr)(c0:Nat)(l0:List (List S74))(w:World)(hr0:Kd.C (Kd.slice 74 k74) w A0 l0.length l0)(hc0:l0.length<=c0)(h:¬ 60<l0.length)(hl:longF l0=false)(hA: ∀ i,i<=l0.length-> ∀ a∈ofAt l0 i,a.length<=400)(hP0: ∀ a∈ofAt l0 l0.length,0<a.length)(hN0:0<(ofAt l0 l0.length).length):
  Calls Tryz.prog 43 #[.slice A0 l0.length c0] w fun e w'=>(((∃ j,0<j∧j<=l0.length∧200<(ofAt l0 j).length)∧e=.returned (.tuple #[.slice none 0 0,.int .i64 9]))∨((∀ j,0<j->j<=l0.length->(ofAt l0 j).length<=200)∧ ∃ v ys,e=.returned (.tuple #[v,.int .i64 0])∧OwnRows w' w.heap.size v ys∧ys.Perm (ofAt l0 l0.length)∧ys.Pairwise (fun x y=>lowR x<=lowR y)))∧Below w.heap.size w w':=by
 have hs:=Sd.m (fn_ A0 c0 l0 w hr0 hc0 false hl)
 have b1:decide (60<(l0.length:Int))=false:=df__ (by omega)
 have b2:decide (60<l0.length)=false:=df__ h
 have h1:¬ (60:Int)<(l0.length:Int):=by omega
 have HR:=Sd.m hr0
 have HC:=Sd.m hc0
 have HA:=Sd.m hA
 have HP0:=Sd.m hP0
 have HN0:=Sd.m hN0
 clear hr0 hc0 hl hA hP0 hN0
 go_enter Tryz.func43,Tryz.ntmps43
 go_wp2_with fail
 refine hs.out.mono ?_
 rintro e W1 ⟨rfl,hb⟩
 have HB:=Sd.m hb
 clear hb hs
 go_wp2_with fail
 refine (c20 none 0 [] W1 (Kd.C_nil _ _) (Nat.le_refl _) (notF []) rfl).mono ?_
 rintro e W2 ⟨v1,rfl,hR,hb⟩
 obtain ⟨A1,a1,rfl⟩:=Kd.R_slice hR
 have HR1:=Sd.m (Kd.R_lower hR HB.out.size)
 have HB2:=Sd.m (HB.out.trans (hb.mono HB.out.size))
 clear hR hb HB
 go_wp2_with fail
 have hbox:OwnRows (W2.alloc (Obj.cells #[Value.slice A1 (notF []).length a1] 37)) w.heap.size (.slice (some ⟨W2.heap.size,0,none⟩) 1 1) [notF []]:=OwnRows.one (aj_ _ _) HB2.out.size (Kd.R_alloc HR1.out _)
 have HBX:=Sd.m hbox
 clear hbox
 go_loopw [5,25] (fun va ui W=>OfO w l0 va ui W) (fun va ui W=>l0.length - (intOf ui).toNat)
 case atStart=>exact ⟨0,Nat.zero_le _,rfl,HBX.out,HB2.out.trans ((ab_ (Below.refl _ _) _).mono HB2.out.size),fun j h1 h2=>by omega⟩
 case round=>
  obtain ⟨i,hi,rfl,hO,hb,hlen⟩:=hrel
  have HB:=Sd.m hb
  have HLN:=Sd.m hlen
  obtain ⟨Aa,ca,rfl⟩:=hO.slice
  have HO:=Sd.m hO
  clear hb hlen hO HB2 HBX HR1
  by_cases hlt:i<l0.length
  ·have b3:decide ((i:Int)<(l0.length:Int))=true:=dt__ (by omega)
   have b4:decide (i<l0.length)=true:=dt__ hlt
   obtain ⟨ad,As,cs,rfl,k0,k1,k2⟩:=at_L3 (Kd.C_below HR.out HB.out) (i:Int) (by omega) (by omega)
   rw [Int.toNat_natCast] at k0
   have hq0:0<=(i:Int):=by omega
   have hq1:(i:Int)<(l0.length:Int):=by omega
   obtain ⟨s,hs⟩: ∃ s,s=fc_ l0 i:=⟨_,rfl⟩
   rw [←hs] at k0 k1 k2
   have hel:l0[i]? =some s:=by
    rw [hs]
    unfold fc_
    rw [Int.toNat_natCast,List.getD_eq_getElem?_getD,List.getElem?_eq_getElem hlt]
    rfl
   have HE:=Sd.m hel
   have HK1:=Sd.m k1
   have HK2:=Sd.m k2
   clear hel hs k1 k2
   go_wp2_with fail
   generalize wr=Wo at*
   have HL4:=Sd.m (HA.out i hi)
   obtain ⟨L,hL⟩: ∃ L,L=ofAt l0 i:=⟨_,rfl⟩
   rw [←hL] at HO HL4 ⊢
   clear k0
   have hL2:L.length<=200:=by
    rw [hL]
    rcases Nat.eq_zero_or_pos i with e | e
    ·rw [e];exact Nat.le_of_lt (show 1<200 by decide)
    ·exact HLN.out i e (Nat.le_refl _)
   have HL2:=Sd.m hL2
   have HEL:=Sd.m hL
   clear hL hL2
   go_loopw [8,31] (fun vp uk W=>OfM Wo s L vp uk W) (fun vp uk W=>L.length - (intOf uk).toNat)
   case atStart=>exact ⟨0,Nat.zero_le _,rfl,OwnRows.nil _ _,Below.refl _ _⟩
   case round=>
    obtain ⟨k,hk,rfl,hP,hbk⟩:=hrel
    have HBK:=Sd.m hbk
    obtain ⟨Ap,cp,rfl⟩:=hP.slice
    have HP:=Sd.m hP
    clear hbk hP
    by_cases hlk:k<L.length
    ·have b5:decide ((k:Int)<(L.length:Int))=true:=dt__ (by omega)
     have b6:decide (k<L.length)=true:=dt__ hlk
     obtain ⟨ad2,Ax,cx,rfl,m0,m1,m2⟩:=at_L3 (Kd.C_below (OwnRows.reads HO.out).2.2 HBK.out) (k:Int) (by omega) (by omega)
     rw [Int.toNat_natCast] at m0
     have hq2:0<=(k:Int):=by omega
     have hq3:(k:Int)<(L.length:Int):=by omega
     obtain ⟨x,hx⟩: ∃ x,x=fc_ L k:=⟨_,rfl⟩
     rw [←hx] at m0 m1 m2
     have hel:L[k]? =some x:=by
      rw [hx]
      unfold fc_
      rw [Int.toNat_natCast,List.getD_eq_getElem?_getD,List.getElem?_eq_getElem hlk]
      rfl
     have HX:=Sd.m hel
     have HX4:Sd (x.length<=400):=⟨HL4.out x (List.mem_of_getElem? hel)⟩
     have HM1:=Sd.m m1
     have HM2:=Sd.m m2
     clear hel hx m1 m2
     go_wp2_with fail
     generalize wr=Wk at*
     refine (ih_ Ax cx x As cs s true Wk HM2.out HM1.out (Kd.C_below HK2.out HBK.out) HK1.out HX4.out).mono ?_
     rintro e W3 ⟨v3,rfl,hR,hb⟩
     obtain ⟨A3,a3,rfl⟩:=Kd.R_slice hR
     have HM2':=Sd.m (Kd.C_below HM2.out hb)
     have HB3:=Sd.m (HBK.out.trans (hb.mono HBK.out.size))
     have HR3:=Sd.m (Kd.R_lower hR HBK.out.size)
     have HP3:=Sd.m (HP.out.below hb)
     clear hR hb HM2 HP HBK m0
     go_wp2_with fail
     refine (ih_ Ax cx x As cs s false W3 HM2'.out HM1.out (Kd.C_below HK2.out HB3.out) HK1.out HX4.out).mono ?_
     rintro e W4 ⟨v4,rfl,hR,hb⟩
     obtain ⟨A4,a4,rfl⟩:=Kd.R_slice hR
     have HB4:=Sd.m (HB3.out.trans (hb.mono HB3.out.size))
     have HR4:=Sd.m (Kd.R_lower hR HB3.out.size)
     have HR3':=Sd.m (Kd.R_below HR3.out hb)
     have HP4:=Sd.m (HP3.out.below hb)
     clear hR hb HM2' HP3 HB3 HR3
     go_wp2_with fail
     have hbox:(W4.alloc (Obj.cells #[Value.slice A3 (partF x s true).length a3,Value.slice A4 (partF x s false).length a4] 37)).heap[W4.heap.size]? =some (Obj.cells #[Value.slice A3 (partF x s true).length a3,Value.slice A4 (partF x s false).length a4] 37 (0,0)):=aj_ _ _
     have hb5:Below W4.heap.size W4 (W4.alloc (Obj.cells #[Value.slice A3 (partF x s true).length a3,Value.slice A4 (partF x s false).length a4] 37)):=ab_ (Below.refl _ _) _
     generalize W4.alloc (Obj.cells #[Value.slice A3 (partF x s true).length a3,Value.slice A4 (partF x s false).length a4] 37)=W5 at hbox hb5 ⊢
     have hne5:(Value.slice Ap (ofStep s (L.take k)).length cp).ownBlock≠some W4.heap.size:=fun e=>by have:=(OwnRows.lt HP4.out _ e).2;omega
     obtain ⟨p1,hp1⟩: ∃ p,p=partF x s true:=⟨_,rfl⟩
     obtain ⟨p2,hp2⟩: ∃ p,p=partF x s false:=⟨_,rfl⟩
     obtain ⟨acc,hacc⟩: ∃ p,p=ofStep s (L.take k):=⟨_,rfl⟩
     obtain ⟨gb,hgb⟩: ∃ p,p=W4.heap.size:=⟨_,rfl⟩
     have B1:=Sd.m (OwnRows.below HP4.out hb5)
     have B2:=Sd.m (HB4.out.trans (hb5.mono HB4.out.size))
     have B3:=Sd.m (Kd.R_below HR3'.out hb5)
     have B4:=Sd.m (Kd.R_below HR4.out hb5)
     rw [←hp1] at hbox B3 ⊢
     rw [←hp2] at hbox B4 ⊢
     rw [←hacc] at B1 hne5 ⊢
     rw [←hgb] at hbox hne5 ⊢
     have B5:=Sd.m hbox
     have B6:=Sd.m hne5
     have P1:=Sd.m hp1
     have P2:=Sd.m hp2
     have ACC:=Sd.m hacc
     have hal:acc.length<=2*L.length:=by rw [hacc];exact Nat.le_trans (step_len _ _) (by rw [List.length_take];omega)
     have HAL:=Sd.m hal
     clear hbox hne5 hp1 hp2 hacc hgb hb5 HP4 HB4 HR4 HR3' hal
     go_loopw [8,43] (fun vp ut W=>OfI Wo gb (.slice A3 p1.length a3) (.slice A4 p2.length a4) p1 p2 acc vp ut W) (fun vp ut W=>2 - (intOf ut).toNat)
     case atStart=>exact ⟨0,by omega,rfl,(by rw [List.take_zero,List.filter_nil,List.append_nil];exact B1.out),B2.out,B6.out,B5.out,B3.out,B4.out⟩
     case round=>
      obtain ⟨t,ht,rfl,hP,hbi,hnei,hgbi,hv1,hv2⟩:=hrel
      obtain ⟨xs,hxs⟩: ∃ xs,xs=acc ++ ([p1,p2].take t).filter fun p=>decide (0<p.length):=⟨_,rfl⟩
      rw [←hxs] at hP
      have hbnd:xs.length<=402:=by
       rw [hxs,List.length_append]
       have:=List.length_filter_le (fun p:List S74=>decide (0<p.length)) ([p1,p2].take t)
       rw [List.length_take] at this
       have:=HAL.out
       have:=HL2.out
       simp only [List.length_cons,List.length_nil] at*
       omega
      have HBND:=Sd.m hbnd
      have HXS:=Sd.m hxs
      obtain ⟨Aq,cq,rfl⟩:=hP.slice
      obtain ⟨hdrs,how,hrw⟩:=hP
      have HOW:=Sd.m how
      have HRW:=Sd.m hrw
      have HBI:=Sd.m hbi
      have HNE:=Sd.m hnei
      have HGB:=Sd.m hgbi
      have HV1:=Sd.m hv1
      have HV2:=Sd.m hv2
      clear hbnd hxs how hrw hbi hnei hgbi hv1 hv2 B1 B2 B3 B4 B5 B6
      obtain ⟨i0,hi0,hz0,hz1,hz2⟩:=info_parts info37'
      rcases (show t=0∨t=1∨t=2 by omega) with rfl | rfl | rfl
      ·have c0:wr.cell? ⟨gb,0,none⟩=some (.slice A3 p1.length a3):=(ae_ HGB.out 0).trans rfl
       by_cases hpz:0<p1.length
       ·have d1:decide (0<(p1.length:Int))=true:=dt__ (by omega)
        have d2:decide (0<p1.length)=true:=dt__ hpz
        have d3:0<(p1.length:Int):=by omega
        go_wp2_with ((with_reducible refine bq_ (b:=.append) (xs:=#[.tmp 50,.tmp 52]) rfl ?_);at_builtin;refine wpList_append_own_at _ rfl (.tmp 50) (.tmp 52) 30 rfl Wo.heap.size 37 i0 (.slice none 0 0) 1 24 Tryz.underlying30 hi0 hz0 hz1 hz2 rfl (by decide) _ _ _ rfl (HOW.out.alloc _) ⟨wr.heap.size,0,none⟩ 1 1 [.slice A3 p1.length a3] rfl rfl (cell_one_new _ _ _) (by simp [Value.oneCell']) (by have:=HBND.out;unfold maxLen;omega) (by have:=HBND.out;omega) (by have:=HBI.out.size;simp;omega) ?_;intro v' w1 hown' hgrow _ hat;obtain ⟨e1,e2,e3,e4,e5,e6⟩:=inner_app HOW.out HRW.out HBI.out HNE.out HGB.out HV1.out HV2.out HV1.out hown' hgrow hat;obtain ⟨g',cap',rfl⟩:=ownsRow_succ hown';have E1:=Sd.m e1;have E2:=Sd.m e2;have E3:=Sd.m e3;have E4:=Sd.m e4;have E5:=Sd.m e5;have E6:=Sd.m e6;clear e1 e2 e3 e4 e5 e6 hown' hgrow hat)
        go_roundw
        case rel=>
         have e:(acc ++ ([p1,p2].take 1).filter (fun p=>decide (0<p.length)))=xs ++ [p1]:=by
          refine (ne_add (t:=0) (p:=p1) rfl HXS.out).trans ?_
          rw [if_pos hpz]
         exact ⟨1,by omega,by go_num,by rw [e];exact E1.out,E2.out,E3.out,E4.out,E5.out,E6.out⟩
        case measure=>simp [intOf]
       ·have d1:decide (0<(p1.length:Int))=false:=df__ (by omega)
        have d2:decide (0<p1.length)=false:=df__ hpz
        have d3:¬ 0<(p1.length:Int):=by omega
        go_wp2_with fail
        go_roundw
        case rel=>
         have e:(acc ++ ([p1,p2].take 1).filter (fun p=>decide (0<p.length)))=xs:=by
          refine (ne_add (t:=0) (p:=p1) rfl HXS.out).trans ?_
          rw [if_neg hpz,List.append_nil]
         exact ⟨1,by omega,by go_num,by rw [e];exact ⟨hdrs,HOW.out,HRW.out⟩,HBI.out,HNE.out,HGB.out,HV1.out,HV2.out⟩
        case measure=>simp [intOf]
      ·have c0:wr.cell? ⟨gb,1,none⟩=some (.slice A4 p2.length a4):=(ae_ HGB.out 1).trans rfl
       by_cases hpz:0<p2.length
       ·have d1:decide (0<(p2.length:Int))=true:=dt__ (by omega)
        have d2:decide (0<p2.length)=true:=dt__ hpz
        have d3:0<(p2.length:Int):=by omega
        go_wp2_with ((with_reducible refine bq_ (b:=.append) (xs:=#[.tmp 50,.tmp 52]) rfl ?_);at_builtin;refine wpList_append_own_at _ rfl (.tmp 50) (.tmp 52) 30 rfl Wo.heap.size 37 i0 (.slice none 0 0) 1 24 Tryz.underlying30 hi0 hz0 hz1 hz2 rfl (by decide) _ _ _ rfl (HOW.out.alloc _) ⟨wr.heap.size,0,none⟩ 1 1 [.slice A4 p2.length a4] rfl rfl (cell_one_new _ _ _) (by simp [Value.oneCell']) (by have:=HBND.out;unfold maxLen;omega) (by have:=HBND.out;omega) (by have:=HBI.out.size;simp;omega) ?_;intro v' w1 hown' hgrow _ hat;obtain ⟨e1,e2,e3,e4,e5,e6⟩:=inner_app HOW.out HRW.out HBI.out HNE.out HGB.out HV1.out HV2.out HV2.out hown' hgrow hat;obtain ⟨g',cap',rfl⟩:=ownsRow_succ hown';have E1:=Sd.m e1;have E2:=Sd.m e2;have E3:=Sd.m e3;have E4:=Sd.m e4;have E5:=Sd.m e5;have E6:=Sd.m e6;clear e1 e2 e3 e4 e5 e6 hown' hgrow hat)
        go_roundw
        case rel=>
         have e:(acc ++ ([p1,p2].take 2).filter (fun p=>decide (0<p.length)))=xs ++ [p2]:=by
          refine (ne_add (t:=1) (p:=p2) rfl HXS.out).trans ?_
          rw [if_pos hpz]
         exact ⟨2,by omega,by go_num,by rw [e];exact E1.out,E2.out,E3.out,E4.out,E5.out,E6.out⟩
        case measure=>simp [intOf]
       ·have d1:decide (0<(p2.length:Int))=false:=df__ (by omega)
        have d2:decide (0<p2.length)=false:=df__ hpz
        have d3:¬ 0<(p2.length:Int):=by omega
        go_wp2_with fail
        go_roundw
        case rel=>
         have e:(acc ++ ([p1,p2].take 2).filter (fun p=>decide (0<p.length)))=xs:=by
          refine (ne_add (t:=1) (p:=p2) rfl HXS.out).trans ?_
          rw [if_neg hpz,List.append_nil]
         exact ⟨2,by omega,by go_num,by rw [e];exact ⟨hdrs,HOW.out,HRW.out⟩,HBI.out,HNE.out,HGB.out,HV1.out,HV2.out⟩
        case measure=>simp [intOf]
      ·have HOWf:Sd (OwnRows wr Wo.heap.size (.slice Aq xs.length cq) xs):=⟨⟨hdrs,HOW.out,HRW.out⟩⟩
       have hk200:=HL2.out
       have w2:IntKind.i64.wrap ((k:Int)+1)=(k:Int)+1:=IntWalk.i64_in _ (by omega)
       have w3:wrap64 ((k:Int)+1)=(k:Int)+1:=w64 (by omega) (by omega)
       go_wp2_with fail
       go_roundw
       case rel=>
        have e:ofStep s (L.take (k+1))=xs:=by
         rw [List.take_add_one,HX.out,HXS.out,ACC.out,P1.out,P2.out]
         unfold ofStep
         rw [List.flatMap_append]
         simp
        exact ⟨k+1,hlk,by go_num,by rw [e];exact HOWf.out,HBI.out⟩
       case measure=>simp [intOf];omega
    ·have b5:decide ((k:Int)<(L.length:Int))=false:=df__ (by omega)
     have b6:decide (k<L.length)=false:=df__ hlk
     have hk200:=HL2.out
     have hi60:i<61:=by omega
     have w2:IntKind.i64.wrap ((i:Int)+1)=(i:Int)+1:=IntWalk.i64_in _ (by omega)
     have w3:wrap64 ((i:Int)+1)=(i:Int)+1:=w64 (by omega) (by omega)
     have hPe:ofStep s (L.take k)=ofAt l0 (i+1):=by
      rw [List.take_of_length_le (by omega),ofAt_succ HE.out,HEL.out]
     have HP2:=Sd.m (HP.out.lower HB.out.size)
     have HB9:=Sd.m (HB.out.trans (HBK.out.mono HB.out.size))
     rw [hPe] at HP2 ⊢
     have HPE:=Sd.m hPe
     clear HP hPe
     by_cases hbig:200<(ofAt l0 (i+1)).length
     ·have d1:decide (200<((ofAt l0 (i+1)).length:Int))=true:=dt__ (by omega)
      have d2:decide (200<(ofAt l0 (i+1)).length)=true:=dt__ hbig
      have d3:(200:Int)<((ofAt l0 (i+1)).length:Int):=by omega
      go_wp2_with fail
      go_ret2
      exact ⟨Or.inl ⟨⟨i+1,by omega,by omega,hbig⟩,rfl⟩,HB9.out⟩
     ·have d1:decide (200<((ofAt l0 (i+1)).length:Int))=false:=df__ (by omega)
      have d2:decide (200<(ofAt l0 (i+1)).length)=false:=df__ hbig
      have d3:¬ (200:Int)<((ofAt l0 (i+1)).length:Int):=by omega
      go_wp2_with fail
      go_roundw
      case rel=>
       refine ⟨i+1,hlt,by go_num,HP2.out,HB9.out,fun j h1 h2=>?_⟩
       rcases Nat.lt_or_ge i j with q | q
       ·obtain rfl:j=i+1:=by omega
        omega
       ·exact HLN.out j h1 q
      case measure=>simp [intOf];omega
  ·have b3:decide ((i:Int)<(l0.length:Int))=false:=df__ (by omega)
   have b4:decide (i<l0.length)=false:=df__ hlt
   obtain rfl:i=l0.length:=by omega
   obtain ⟨L,hL⟩: ∃ L,L=ofAt l0 l0.length:=⟨_,rfl⟩
   rw [←hL] at HO HP0 HN0 ⊢
   have hlong:longF L=false:=by
    unfold longF
    rw [List.any_eq_false]
    intro a ha
    have:=HA.out l0.length (Nat.le_refl _) a (hL ▸ ha)
    simp
    omega
   have HLG:=Sd.m hlong
   have hlz:L.length<4611686018427387904:=by
    have:=(OwnRows.reads HO.out).2.2.2.1
    have h0:=HLN.out l0.length
    rw [←hL] at h0
    rcases Nat.eq_zero_or_pos l0.length with q | q
    ·rw [hL,q];exact Nat.lt_of_le_of_lt (show (ofAt l0 0).length<=1 from Nat.le_refl _) (by decide)
    ·have:=h0 q (Nat.le_refl _);omega
   have HLZ:=Sd.m hlz
   have HEL:=Sd.m hL
   clear hlong hL hlz
   go_wp2_with fail
   generalize wr=Wo at*
   refine (fn_ Aa ca L Wo (OwnRows.reads HO.out).2.2 (OwnRows.reads HO.out).2.1 false HLG.out).mono ?_
   rintro e W3 ⟨rfl,hb⟩
   have HO3:=Sd.m (HO.out.below hb)
   have HB3:=Sd.m (HB.out.trans (hb.mono HB.out.size))
   clear hb
   go_wp2_with fail
   refine (sort_rows HO3.out HB3.out HN0.out HP0.out HLZ.out).mono ?_
   rintro e W4 ⟨rfl,ys,hp,hsrt,hoy,hb⟩
   have Y1:=Sd.m hp
   have Y2:=Sd.m hsrt
   have Y3:=Sd.m hoy
   have Y4:=Sd.m hb
   clear hp hsrt hoy hb
   go_wp2_with fail
   go_ret2
   exact ⟨Or.inr ⟨HLN.out,_,ys,rfl,Y3.out,HEL.out ▸ Y1.out,Y2.out⟩,Y4.out⟩
def OfBad (sets:List (List S74)):Prop:=60<sets.length∨longF sets=true∨ ∃ j,0<j∧j<=sets.length∧200<(ofAt sets j).length
theorem perm_map {α β:Type}{f:α->β}: ∀ {T:List α} {ys:List β},ys.Perm (T.map f)-> ∃ U:List α,U.Perm T∧ys=U.map f:=by
 have go: ∀ {zs ys:List β},ys.Perm zs-> ∀ T:List α,zs=T.map f-> ∃ U:List α,U.Perm T∧ys=U.map f:=by
  intro zs ys h
  induction h with
  | nil=>
   intro T e
   have hT:T=[]:=List.map_eq_nil_iff.1 e.symm
   subst hT
   exact ⟨[],List.Perm.refl _,rfl⟩
  | cons x h ih=>
   intro T e
   cases T with
   | nil=>cases e
   | cons t T=>
    injection e with e1 e2
    obtain ⟨U,hU,eU⟩:=ih T e2
    exact ⟨t :: U,hU.cons t,by rw [e1,eU];rfl⟩
  | swap x y l=>
   intro T e
   match T,e with
   | t :: u :: T,e=>
    injection e with e1 e2
    injection e2 with e2 e3
    exact ⟨u :: t :: T,List.Perm.swap _ _ _,by rw [e1,e2,e3];rfl⟩
  | trans h1 h2 ih1 ih2=>
   intro T e
   obtain ⟨U,hU,eU⟩:=ih2 T e
   obtain ⟨V,hV,eV⟩:=ih1 U eU
   exact ⟨V,hV.trans hU,eV⟩
 intro T ys h
 exact go h T rfl
def Sorted (ys:List (List S74)):Prop:=ys.Pairwise fun x y=>lowR x<=lowR y
theorem of_calls (A0:Option Addr)(c0:Nat)(l0:List (List S74))(w:World)(hr0:Kd.C (Kd.slice 74 k74) w A0 l0.length l0)(hc0:l0.length<=c0)(E:List Int)(hE: ∀ c,0<c->c<=1114111->sigF l0 c≠sigF l0 (c - 1)->c∈E)(hl:E.length<=798):
  Calls Tryz.prog 43 #[.slice A0 l0.length c0] w fun e w'=>((OfBad l0∧e=.returned (.tuple #[.slice none 0 0,.int .i64 9]))∨(¬ OfBad l0∧ ∃ v ys,e=.returned (.tuple #[v,.int .i64 0])∧OwnRows w' w.heap.size v ys∧AtomsOf l0 ys∧Sorted ys))∧Below w.heap.size w w':=by
 by_cases h60:60<l0.length
 ·exact (of_many A0 c0 l0 w h60).mono fun e w' ⟨he,hb⟩=>⟨Or.inl ⟨Or.inl h60,he⟩,hb⟩
 cases hlong:longF l0 with
 | true=>exact (of_long A0 c0 l0 w hr0 hc0 h60 hlong).mono fun e w' ⟨he,hb⟩=>⟨Or.inl ⟨Or.inr (Or.inl hlong),he⟩,hb⟩
 | false=>
  have at_:=hr_ E hE hl
  have hn:=(at_ l0.length (Nat.le_refl _)).1
  rw [List.take_length] at hn
  have hn':=hn
  obtain ⟨T,hT,e,hc,hp⟩:=hn'
  have hP0: ∀ a∈ofAt l0 l0.length,0<a.length:=by
   intro a ha
   rw [e] at ha
   obtain ⟨t,ht,rfl⟩:=List.mem_map.1 ha
   exact hp t ht
  have hN0:0<(ofAt l0 l0.length).length:=by
   rw [e,List.length_map]
   exact List.length_pos_of_mem (hc 0 (Int.le_refl _) (by decide))
  refine (of_main A0 c0 l0 w hr0 hc0 h60 hlong (fun i hi=>(at_ i hi).2) hP0 hN0).mono ?_
  rintro e' w' ⟨h,hb⟩
  refine ⟨?_,hb⟩
  rcases h with ⟨⟨j,h1,h2,h3⟩,he⟩ | ⟨hj,v,ys,he,ho,hpm,hs⟩
  ·exact Or.inl ⟨Or.inr (Or.inr ⟨j,h1,h2,h3⟩),he⟩
  ·refine Or.inr ⟨fun hb=>?_,v,ys,he,ho,?_,hs⟩
   ·rcases hb with h | h | ⟨j,h1,h2,h3⟩
    ·exact h60 h
    ·rw [hlong] at h;cases h
    ·have:=hj j h1 h2
     omega
   ·rw [e] at hpm
    obtain ⟨U,hU,eU⟩: ∃ U:List (List Bool),U.Perm T∧ys=U.map (atF l0):=perm_map hpm
    refine ⟨U,hU.nodup_iff.2 hT,eU,fun c h0 h1=>hU.mem_iff.2 (hc c h0 h1),fun t ht=>hp t (hU.mem_iff.1 ht)⟩
end L
namespace D
open A L B
attribute [local go_sem] cl_ cj_ cw_ cv_ cd_ cc_ ck_ ci_
theorem info3:(Tryz.prog.info? 3).map (fun i=>(i.zero,i.size,i.bytes))=some (some (.int .i64 0),1,8):=by kernel_rfl
def eq_ (xs:List (List S74))(i:Int):(List S74):=xs.getD i.toNat ([]:List S74)
theorem at_L2 {w:World}{A:Option Addr}{n:Nat}{xs:List (List S74)}(h:Kd.C (Kd.slice 74 k74) w A n xs)(i:Int)(h0:0<=i)(h1:i<n): ∃ ad A0 c0,A=some ad∧w.cell? (ad.add i.toNat)=some (.slice A0 (eq_ xs i).length c0)∧(eq_ xs i).length<=c0∧k74.C w A0 (eq_ xs i).length (eq_ xs i):=by
 obtain ⟨ad,c,e,_,hK,hc0⟩:=Kd.C_get h ([]:List S74) i h0 h1
 have hc: ∀ j u,c[j]? =some u->w.cell? (ad.add (i.toNat*1+j))=some u:=hc0
 obtain ⟨A0,c0,rfl,l0,g0⟩:=hK
 exact ⟨ad,A0,c0,e,by have hq:=hc 0 _ rfl;rwa [Nat.mul_one,Nat.add_zero] at hq,l0,g0⟩
def bz_.l0:Nat->List Int->List (List (S74))->Int->Int->Option (List Int)
 | 0,_,_,_,_=>none
 | k+1,x3,x6,x7,x8=>if x8<x7 then (if 0<=x8 then (if x8<(x6.length:Int) then ((cu_.f k (eq_ x6 x8)).bind fun t102=>(if x3.length<17592186044416 then (bz_.l0 k (x3 ++ [t102]) x6 x7 (wrap64 (x8+1))) else (none))) else (none)) else (none)) else (some x3)
def bz_.f (k:Nat)(l0:List (List (S74))):Option (List Int):=bz_.l0 k ([]:List Int) l0 (l0.length:Int) 0
theorem bz_.calls (k:Nat)(A0:Option Addr)(c0:Nat)(l0:List (List (S74)))(r:List Int)(w:World)(hr0:Kd.C (Kd.slice 74 k74) w A0 l0.length l0)(hc0:l0.length<=c0)(h:bz_.f k l0=some r):
  Calls Tryz.prog 68 #[.slice A0 l0.length c0] w fun e w'=> ∃ v0_:Value,e=.returned (v0_)∧Kd.R (Kd.int .i64) 3 w' w.heap.size (fun _=>True) v0_ r∧Below w.heap.size w w':=by
 have HR0:=Sd.m hr0
 have HC0:=Sd.m hc0
 clear hr0 hc0
 have HB:=Sd.m (Below.refl w.heap.size w)
 have H:(bz_.l0 k ([]:List Int) l0 (l0.length:Int) 0)=some r:=h
 clear h
 have H':=Sd.m H
 clear H
 go_enter Tryz.func68,Tryz.ntmps68
 go_wp2
 go_loopg [3,8] k (fun kq v3 v8 w'=> ∃ (x3_1:List Int) (x8_1:Int),v8=.int .i64 x8_1∧Sd (bz_.l0 kq x3_1 l0 (l0.length:Int) x8_1=some r)∧Sd (kq<=k)∧Sd (Kd.R (Kd.int .i64) 3 w' w.heap.size (fun _=>True) v3 x3_1)∧Sd (Below w.heap.size w w'))
 case atStart=>exact ⟨(([]:List Int)),(0),ri_,H',⟨Nat.le_refl _⟩,⟨by first | exact Kd.R_nil _ _ _ _ _ | exact Kd.N_nil _ _ _ _ _ | exact Kd.V_nil _ _ _ _ _ | exact Kd.Q_nil _ _ _ _ _ | exact Kd.S_nil _ _ _ _ _⟩,⟨rb_⟩⟩
 case round=>
  clear H'
  obtain ⟨x3_1,x8_1,rfl,HA,HK1,HO_3,HB⟩:=hrel
  cases gk with
  | zero=>exact absurd HA.out (by simp [bz_.l0])
  | succ k1=>
   have H:=HA.out
   clear HA
   simp only [bz_.l0] at H
   by_cases c2:x8_1<(l0.length:Int)
   ·rw [if_pos c2] at H
    have c2b0:=dt__ c2
    clear c2
    by_cases c3:0<=x8_1
    ·rw [if_pos c3] at H
     have c3b0:=dt__ c3
     clear c3
     by_cases c4:x8_1<(l0.length:Int)
     ·rw [if_pos c4] at H
      have c4b0:=dt__ c4
      clear c4
      replace H:=Option.bind_eq_some_iff.mp H
      obtain ⟨t102,A50,H⟩:=H
      replace H:(if x3_1.length<17592186044416 then (bz_.l0 k1 (x3_1 ++ [t102]) l0 (l0.length:Int) (wrap64 (x8_1+1))) else (none))=some r:=H
      have A5:=Sd.m A50
      clear A50
      by_cases c6:x3_1.length<17592186044416
      ·rw [if_pos c6] at H
       have LMc6:=Sd.m c6
       clear c6
       obtain ⟨y103,hy103⟩: ∃ y_:List Int,y_=(x3_1 ++ [t102]):=⟨_,rfl⟩
       replace H:(bz_.l0 k1 y103 l0 (l0.length:Int) (wrap64 (x8_1+1)))=some r:=by first | (rw [hy103];with_reducible exact H) | (have H2_:=(Option.bind_some _ _).symm.trans H;rw [hy103];with_reducible exact H2_) | (have H2_:=(Option.bind_some _ _).symm.trans H;with_reducible exact H2_) | with_reducible exact H | (rw [hy103];exact H) | exact H
       have Ny103:=Sd.m hy103
       clear hy103
       have H':=Sd.m H
       clear H
       have p101:0<=(x8_1:Int):=od_
       have q101:x8_1<(l0.length:Int):=od_
       obtain ⟨ad101,A101_0,c101_0,e101,hx101_0,hl101_0,hi101_0⟩:=at_L2 HR0.out x8_1 p101 q101
       cases e101
       replace hx101_0:=(HB.out.cell (bl__ w _ hx101_0)).trans hx101_0
       have HR101_0:=Sd.m hi101_0
       have HC101_0:=Sd.m hl101_0
       clear hi101_0 hl101_0
       replace p101:=eq_true p101
       replace q101:=eq_true q101
       go_wp2_with (first | ((with_reducible refine bk_ (f:=104) rfl ?_);refine goesL_ (some 14) rfl rfl Tryz.func104 (by kernel_rfl) rfl #[.slice A101_0 (eq_ l0 x8_1).length c101_0] rfl gl_ ?_;(with_reducible refine (cu_.calls k1 _ _ (eq_ l0 x8_1) t102 _ ?side1 ?side2 A5.out).mono ?_);(case side1=>exact cs_ (Kd.C_below HR101_0.out HB.out));(case side2=>exact HC101_0.out);rintro e w7 ⟨rfl,hb⟩;refine ⟨_,rfl,?_⟩;have n0_:=Sd.m (Kd.R_below (rr_ HO_3.out) hb);have n1_:=Sd.m (ax_ rb_ hb);clear HO_3;clear HB;have HO_3:=n0_;have HB:=n1_;clear n0_ n1_;(try clear hb);(try clear hb2);(try clear hk);(try clear hi)) | ((with_reducible refine bq_ (b:=.append) (xs:=#[.tmp 12,.tmp 15]) rfl ?_);at_builtin;refine Kd.R_append (Kd.int .i64) (w0:=w) w.heap.size rfl (.tmp 12) (.tmp 15) 42 3 (.int .i64 0) 8 rfl Tryz.underlying42 info3 rfl (by decide) (by omega) u3 x3_1 t102 [.int .i64 t102] (fun _=>True) (fun _=>False) rfl rfl ?aP (fun _ hk=>hk.elim) ?aF ?aO ?aB ?aS ?aL ?_;(case aP=>exact rfl);(case aB=>exact rb_);(case aF=>exact (fun _ _=>trivial));(case aO=>exact (rr_ HO_3.out));(case aS=>exact (ao_ rb_));(case aL=>have:=LMc6.out;omega);intro v104 w8 ho hb hg hat;rw [←Ny103.out] at ho;have n0_:=Sd.m (hb);have n1_:=Sd.m (ho);clear HB;clear HO_3;have HB:=n0_;have HO105:=n1_;clear n0_ n1_;clear ho hb hg hat))
       go_roundg k1
       case measure=>have:=HK1.out;omega
       case rel=>exact ⟨(y103),(wrap64 (x8_1+1)),ri_,H',⟨by have:=HK1.out;omega⟩,⟨rr_ HO105.out⟩,⟨rb_⟩⟩
      ·rw [if_neg c6] at H
       exact absurd H (by simp)
     ·rw [if_neg c4] at H
      exact absurd H (by simp)
    ·rw [if_neg c3] at H
     exact absurd H (by simp)
   ·rw [if_neg c2] at H
    have c2b0:=df__ c2
    clear c2
    obtain rfl:=Option.some.inj H
    go_wp2
    go_ret
    exact ⟨_,re_,rr_ HO_3.out,rb_⟩
def bv_.l0:Nat->List (S74)->List Int->List Int->Int->Int->Option (List Int)
 | 0,_,_,_,_,_=>none
 | k+1,x1,x5,x9,x10,x11=>if x11<x10 then (if 0<=x11 then (if x11<(x9.length:Int) then ((fz_.f x1 (rd x9 x11)).bind fun t110=>(if t110=true then (if x5.length<17592186044416 then (bv_.l0 k x1 (x5 ++ [x11]) x9 x10 (wrap64 (x11+1))) else (none)) else (bv_.l0 k x1 x5 x9 x10 (wrap64 (x11+1))))) else (none)) else (none)) else (some x5)
def bv_.f (k:Nat)(l0:List (List (S74)))(l1:List (S74)):Option (List Int):=(bz_.f k l0).bind fun t106=>(bv_.l0 k l1 ([]:List Int) t106 (t106.length:Int) 0)
theorem bv_.calls (k:Nat)(A0:Option Addr)(c0:Nat)(l0:List (List (S74)))(A1:Option Addr)(c1:Nat)(l1:List (S74))(r:List Int)(w:World)(hr0:Kd.C (Kd.slice 74 k74) w A0 l0.length l0)(hc0:l0.length<=c0)(hr1:Kd.C k74 w A1 l1.length l1)(hc1:l1.length<=c1)(h:bv_.f k l0 l1=some r):
  Calls Tryz.prog 51 #[.slice A0 l0.length c0,.slice A1 l1.length c1] w fun e w'=> ∃ v0_:Value,e=.returned (v0_)∧Kd.R (Kd.int .i64) 3 w' w.heap.size (fun _=>True) v0_ r∧Below w.heap.size w w':=by
 have HR0:=Sd.m hr0
 have HC0:=Sd.m hc0
 clear hr0 hc0
 have HR1:=Sd.m hr1
 have HC1:=Sd.m hc1
 clear hr1 hc1
 have HB:=Sd.m (Below.refl w.heap.size w)
 have H:((bz_.f k l0).bind fun t106=>(bv_.l0 k l1 ([]:List Int) t106 (t106.length:Int) 0))=some r:=h
 clear h
 replace H:=Option.bind_eq_some_iff.mp H
 obtain ⟨t106,A30,H⟩:=H
 replace H:(bv_.l0 k l1 ([]:List Int) t106 (t106.length:Int) 0)=some r:=H
 have A3:=Sd.m A30
 clear A30
 have H':=Sd.m H
 clear H
 go_enter Tryz.func51,Tryz.ntmps51
 go_wp2_with (first | ((with_reducible refine bk_ (f:=68) rfl ?_);refine goesL_ (some 9) rfl rfl Tryz.func68 (by kernel_rfl) rfl #[.slice A0 l0.length c0] rfl gl_ ?_;(with_reducible refine (bz_.calls k _ _ l0 t106 _ ?side1 ?side2 A3.out).mono ?_);(case side1=>repeat (first | exact HR0.out | (with_reducible refine Kd.C_alloc ?_ _) | (with_reducible refine Kd.C_drewN ?_ _) | (with_reducible refine Kd.C_drew ?_)));(case side2=>exact HC0.out);rintro e w4 ⟨v107,rfl,ho0,hb⟩;refine ⟨_,rfl,?_⟩;have n0_:=Sd.m (Kd.R_lower ho0 (ao_ rb_));have n1_:=Sd.m (ax_ rb_ hb);clear HB;have HO108:=n0_;have HB:=n1_;clear n0_ n1_;(try clear hb);(try clear hb2);(try clear hk);(try clear hi);(try clear ho0);obtain ⟨Ao5,co5,eo5⟩:=Kd.R_slice HO108.out;subst eo5))
 go_loopg [5,11] k (fun kq v5 v11 w'=> ∃ (x5_1:List Int) (x11_1:Int),v11=.int .i64 x11_1∧Sd (bv_.l0 kq l1 x5_1 t106 (t106.length:Int) x11_1=some r)∧Sd (kq<=k)∧Sd (Kd.R (Kd.int .i64) 3 w' w.heap.size (fun k_=>some k_≠((.slice Ao5 t106.length co5):Value).ownBlock) v5 x5_1)∧Sd (Kd.R (Kd.int .i64) 3 w' w.heap.size (fun k_=>some k_≠(v5:Value).ownBlock) (.slice Ao5 t106.length co5) t106)∧Sd (Below w.heap.size w w'))
 case atStart=>exact ⟨(([]:List Int)),(0),ri_,H',⟨Nat.le_refl _⟩,⟨by first | exact Kd.R_nil _ _ _ _ _ | exact Kd.N_nil _ _ _ _ _ | exact Kd.V_nil _ _ _ _ _ | exact Kd.Q_nil _ _ _ _ _ | exact Kd.S_nil _ _ _ _ _⟩,⟨by (with_reducible repeat (first | apply Kd.R_alloc | apply Kd.R_drewN | apply Kd.R_drew));exact Kd.R_mono HO108.out (fun _ hk=>(by simp [Value.ownBlock]))⟩,⟨rb_⟩⟩
 case round=>
  clear H'
  obtain ⟨x5_1,x11_1,rfl,HA,HK1,HO_5,HO_9,HB⟩:=hrel
  cases gk with
  | zero=>exact absurd HA.out (by simp [bv_.l0])
  | succ k1=>
   have H:=HA.out
   clear HA
   simp only [bv_.l0] at H
   by_cases c6:x11_1<(t106.length:Int)
   ·rw [if_pos c6] at H
    have c6b0:=dt__ c6
    clear c6
    by_cases c7:0<=x11_1
    ·rw [if_pos c7] at H
     have c7b0:=dt__ c7
     clear c7
     by_cases c8:x11_1<(t106.length:Int)
     ·rw [if_pos c8] at H
      have c8b0:=dt__ c8
      clear c8
      replace H:=Option.bind_eq_some_iff.mp H
      obtain ⟨t110,A90,H⟩:=H
      replace H:(if t110=true then (if x5_1.length<17592186044416 then (bv_.l0 k1 l1 (x5_1 ++ [x11_1]) t106 (t106.length:Int) (wrap64 (x11_1+1))) else (none)) else (bv_.l0 k1 l1 x5_1 t106 (t106.length:Int) (wrap64 (x11_1+1))))=some r:=H
      have A9:=Sd.m A90
      clear A90
      by_cases c10:t110=true
      ·subst c10
       have H1:(if x5_1.length<17592186044416 then (bv_.l0 k1 l1 (x5_1 ++ [x11_1]) t106 (t106.length:Int) (wrap64 (x11_1+1))) else (none))=some r:=by rw [if_pos rfl] at H;exact H
       clear H
       have H:=H1
       clear H1
       by_cases c11:x5_1.length<17592186044416
       ·rw [if_pos c11] at H
        have LMc11:=Sd.m c11
        clear c11
        obtain ⟨y111,hy111⟩: ∃ y_:List Int,y_=(x5_1 ++ [x11_1]):=⟨_,rfl⟩
        replace H:(bv_.l0 k1 l1 y111 t106 (t106.length:Int) (wrap64 (x11_1+1)))=some r:=by first | (rw [hy111];with_reducible exact H) | (have H2_:=(Option.bind_some _ _).symm.trans H;rw [hy111];with_reducible exact H2_) | (have H2_:=(Option.bind_some _ _).symm.trans H;with_reducible exact H2_) | with_reducible exact H | (rw [hy111];exact H) | exact H
        have Ny111:=Sd.m hy111
        clear hy111
        have H':=Sd.m H
        clear H
        have p109:0<=(x11_1:Int):=od_
        have q109:x11_1<(t106.length:Int):=od_
        obtain ⟨ad109,e109,hx109_0⟩:=Kd.dc_ (Kd.R_reads' HO_9.out).2.2 x11_1 p109 q109
        cases e109
        replace p109:=eq_true p109
        replace q109:=eq_true q109
        go_wp2_with (first | ((with_reducible refine bk_ (f:=83) rfl ?_);refine goesL_ (some 18) rfl rfl Tryz.func83 (by kernel_rfl) rfl #[.slice A1 l1.length c1,.int .i64 (rd t106 x11_1)] rfl gl_ ?_;(with_reducible refine (fz_.calls _ _ l1 (rd t106 x11_1) true _ ?side1 ?side2 A9.out).mono ?_);(case side1=>exact cs_ (Kd.C_below HR1.out HB.out));(case side2=>exact HC1.out);rintro e w12 ⟨rfl,hb⟩;refine ⟨_,rfl,?_⟩;have n0_:=Sd.m (Kd.R_below (rr_ HO_5.out) hb);have n1_:=Sd.m (Kd.R_below (rr_ HO_9.out) hb);have n2_:=Sd.m (ax_ rb_ hb);clear HO_5;clear HO_9;clear HB;have HO_5:=n0_;have HO_9:=n1_;have HB:=n2_;clear n0_ n1_ n2_;(try clear hb);(try clear hb2);(try clear hk);(try clear hi)) | ((with_reducible refine bq_ (b:=.append) (xs:=#[.tmp 19,.tmp 21]) rfl ?_);at_builtin;refine Kd.R_append (Kd.int .i64) (w0:=w) w.heap.size rfl (.tmp 19) (.tmp 21) 42 3 (.int .i64 0) 8 rfl Tryz.underlying42 info3 rfl (by decide) (by omega) u5 x5_1 x11_1 [.int .i64 x11_1] (fun k_=>some k_≠(.slice (some ad109) t106.length co5:Value).ownBlock) (fun _=>False) rfl rfl ?aP (fun _ hk=>hk.elim) ?aF ?aO ?aB ?aS ?aL ?_;(case aP=>exact rfl);(case aB=>exact rb_);(case aF=>exact (fun k_ hk=>Kd.fresh' (Kd.R_lt (rr_ HO_9.out)) k_ hk));(case aO=>exact (rr_ HO_5.out));(case aS=>exact (ao_ rb_));(case aL=>have:=LMc11.out;omega);intro v112 w13 ho hb hg hat;rw [←Ny111.out] at ho;have n0_:=Sd.m (Kd.R_after (ok:=(fun _=>True)) (by (with_reducible repeat (first | apply Kd.R_alloc | apply Kd.R_drewN | apply Kd.R_drew));exact Kd.R_mono HO_9.out (fun _ hk=>⟨trivial,hk⟩)) hg hat);have n1_:=Sd.m (hb);have n2_:=Sd.m (ho);clear HO_9;clear HB;clear HO_5;have HO_9:=n0_;have HB:=n1_;have HO113:=n2_;clear n0_ n1_ n2_;clear ho hb hg hat))
        go_roundg k1
        case measure=>have:=HK1.out;omega
        case rel=>exact ⟨(y111),(wrap64 (x11_1+1)),ri_,H',⟨by have:=HK1.out;omega⟩,⟨rr_ HO113.out⟩,⟨by (with_reducible repeat (first | apply Kd.R_alloc | apply Kd.R_drewN | apply Kd.R_drew));exact Kd.R_mono HO_9.out (fun _ hk=>hk.2)⟩,⟨rb_⟩⟩
       ·rw [if_neg c11] at H
        exact absurd H (by simp)
      ·replace c10:=Bool.eq_false_iff.mpr c10
       subst c10
       have H1:(bv_.l0 k1 l1 x5_1 t106 (t106.length:Int) (wrap64 (x11_1+1)))=some r:=by rw [if_neg (show ¬ (false=true) by decide)] at H;exact H
       clear H
       have H:=H1
       clear H1
       have H':=Sd.m H
       clear H
       have p109:0<=(x11_1:Int):=od_
       have q109:x11_1<(t106.length:Int):=od_
       obtain ⟨ad109,e109,hx109_0⟩:=Kd.dc_ (Kd.R_reads' HO_9.out).2.2 x11_1 p109 q109
       cases e109
       replace p109:=eq_true p109
       replace q109:=eq_true q109
       go_wp2_with (first | ((with_reducible refine bk_ (f:=83) rfl ?_);refine goesL_ (some 18) rfl rfl Tryz.func83 (by kernel_rfl) rfl #[.slice A1 l1.length c1,.int .i64 (rd t106 x11_1)] rfl gl_ ?_;(with_reducible refine (fz_.calls _ _ l1 (rd t106 x11_1) false _ ?side1 ?side2 A9.out).mono ?_);(case side1=>exact cs_ (Kd.C_below HR1.out HB.out));(case side2=>exact HC1.out);rintro e w14 ⟨rfl,hb⟩;refine ⟨_,rfl,?_⟩;have n0_:=Sd.m (Kd.R_below (rr_ HO_5.out) hb);have n1_:=Sd.m (Kd.R_below (rr_ HO_9.out) hb);have n2_:=Sd.m (ax_ rb_ hb);clear HO_5;clear HO_9;clear HB;have HO_5:=n0_;have HO_9:=n1_;have HB:=n2_;clear n0_ n1_ n2_;(try clear hb);(try clear hb2);(try clear hk);(try clear hi)))
       go_roundg k1
       case measure=>have:=HK1.out;omega
       case rel=>exact ⟨(x5_1),(wrap64 (x11_1+1)),ri_,H',⟨by have:=HK1.out;omega⟩,⟨rr_ HO_5.out⟩,⟨rr_ HO_9.out⟩,⟨rb_⟩⟩
     ·rw [if_neg c8] at H
      exact absurd H (by simp)
    ·rw [if_neg c7] at H
     exact absurd H (by simp)
   ·rw [if_neg c6] at H
    have c6b0:=df__ c6
    clear c6
    obtain rfl:=Option.some.inj H
    go_wp2
    go_ret
    exact ⟨_,re_,by (with_reducible repeat (first | apply Kd.R_alloc | apply Kd.R_drewN | apply Kd.R_drew));exact Kd.R_mono HO_5.out (fun _ hk=>trivial),rb_⟩
end D
namespace P
open A L B D
theorem firsts_go (L:List (List S74))(hL:L.length<=100000): ∀ d i:Nat,i+d=L.length-> ∀ acc:List Int,acc.length<=i->Ev (fun k=>bz_.l0 k acc L (L.length:Int) (i:Int)) (acc ++ (L.drop i).map firstF):=by
 intro d
 induction d with
 | zero=>
  intro i h acc ha
  rw [List.drop_eq_nil_iff.2 (by omega),List.map_nil,List.append_nil]
  exact Ev.step (f:=fun _=>some acc) (fun k=>by rw [bz_.l0,if_neg (by omega)]) (Ev.now _)
 | succ d ih=>
  intro i h acc ha
  have hi:i<L.length:=by omega
  have hd:L.drop i=L[i] :: L.drop (i+1):=List.drop_eq_getElem_cons hi
  have hr:eq_ L (i:Int)=L[i]:=by
   unfold eq_
   rw [Int.toNat_natCast,List.getD_eq_getElem?_getD,List.getElem?_eq_getElem hi]
   rfl
  have:=ih (i+1) (by omega) (acc ++ [firstF L[i]]) (by rw [List.length_append,List.length_singleton];omega)
  rw [show ((i+1:Nat):Int)=(i:Int)+1 from by omega,List.append_assoc] at this
  rw [hd,List.map_cons]
  refine Ev.step (f:=fun k=>(cu_.f k L[i]).bind fun t=>if acc.length<17592186044416 then bz_.l0 k (acc ++ [t]) L (L.length:Int) ((i:Int)+1) else none) (fun k=>by rw [bz_.l0,if_pos (by omega),if_pos (by omega),if_pos (by omega),hr,w64 (n:=(i:Int)+1) (by omega) (by omega)]) ?_
  refine Ev.bind (span_first _) ?_
  exact eu_ (by omega) this
theorem firsts_f (L:List (List S74))(hL:L.length<=100000):Ev (fun k=>bz_.f k L) (L.map firstF):=by
 have:=firsts_go L hL L.length 0 (by omega) [] (Nat.le_refl _)
 rw [List.drop_zero,List.nil_append] at this
 exact this
def wiF (s:List S74):List Int->Nat->List Int
 | [],_=>[]
 | f :: fs,i=>if hasF s f=true then (i:Int) :: wiF s fs (i+1) else wiF s fs (i+1)
def withinF (L:List (List S74))(s:List S74):List Int:=wiF s (L.map firstF) 0
theorem within_go (s:List S74)(fs:List Int)(hL:fs.length<=100000): ∀ d i:Nat,i+d=fs.length-> ∀ acc:List Int,acc.length<=i->Ev (fun k=>bv_.l0 k s acc fs (fs.length:Int) (i:Int)) (acc ++ wiF s (fs.drop i) i):=by
 intro d
 induction d with
 | zero=>
  intro i h acc ha
  rw [List.drop_eq_nil_iff.2 (by omega)]
  show Ev _ (acc ++ [])
  rw [List.append_nil]
  exact Ev.step (f:=fun _=>some acc) (fun k=>by rw [bv_.l0,if_neg (by omega)]) (Ev.now _)
 | succ d ih=>
  intro i h acc ha
  have hi:i<fs.length:=by omega
  have hd:fs.drop i=fs[i] :: fs.drop (i+1):=List.drop_eq_getElem_cons hi
  have hr:rd fs (i:Int)=fs[i]:=by
   unfold rd
   rw [Int.toNat_natCast,List.getD_eq_getElem?_getD,List.getElem?_eq_getElem hi]
   rfl
  rw [hd,wiF]
  refine Ev.step (f:=fun k=>if hasF s fs[i]=true then (if acc.length<17592186044416 then bv_.l0 k s (acc ++ [(i:Int)]) fs (fs.length:Int) ((i:Int)+1) else none) else bv_.l0 k s acc fs (fs.length:Int) ((i:Int)+1)) (fun k=>by rw [bv_.l0,if_pos (by omega),if_pos (by omega),if_pos (by omega),hr,w64 (n:=(i:Int)+1) (by omega) (by omega)];rfl) ?_
  have e1:(i:Int)+1=((i+1:Nat):Int):=by omega
  by_cases q:hasF s fs[i]=true
  ·rw [if_pos q]
   refine eu_ q (eu_ (by omega) ?_)
   have:=ih (i+1) (by omega) (acc ++ [(i:Int)]) (by rw [List.length_append,List.length_singleton];omega)
   rw [List.append_assoc,←e1] at this
   exact this
  ·rw [if_neg q]
   refine ea_ q ?_
   have:=ih (i+1) (by omega) acc (by omega)
   rw [←e1] at this
   exact this
theorem go_ (L:List (List S74))(s:List S74)(hL:L.length<=100000):Ev (fun k=>bv_.f k L s) (withinF L s):=by
 refine Ev.bind (firsts_f L hL) ?_
 have:=within_go s (L.map firstF) (by rw [List.length_map];exact hL) (L.map firstF).length 0 (by omega) [] (Nat.le_refl _)
 rw [List.drop_zero,List.nil_append] at this
 exact this
theorem low_spec {P:Int->Bool}(h:0<(canonF P).length):0<=lowR (canonF P)∧lowR (canonF P)<=1114111∧P (lowR (canonF P))=true∧ ∀ c,0<=c->c<=1114111->P c=true->lowR (canonF P)<=c:=by
 have hs:=em_ P
 revert hs h
 generalize canonF P=l
 intro h hs
 match l,h,hs with
 | r :: rs,_,hs=>
  have hr:=hs.1.1 r (List.mem_cons_self ..)
  have e:lowR (r :: rs)=r.f0:=rfl
  rw [e]
  refine ⟨hr.1,by omega,?_,fun c h0 h1 hP=>?_⟩
  ·rw [←hs.2 r.f0 hr.1 (by omega)]
   exact mem_iff.2 ⟨r,List.mem_cons_self ..,Int.le_refl _,hr.2.1⟩
  ·rw [←hs.2 c h0 (by omega)] at hP
   obtain ⟨s,hsm,k0,k1⟩:=mem_iff.1 hP
   rcases List.mem_cons.1 hsm with e | hsm
   ·rw [e] at k0;exact k0
   ·have:=(List.pairwise_cons.1 hs.1.2).1 s hsm
    omega
theorem first_canon {P:Int->Bool}(hl:(canonF P).length<=400)(h:0<(canonF P).length):firstF (canonF P)=lowR (canonF P):=by
 unfold firstF
 rw [pl_canon hl]
 revert h
 generalize canonF P=l
 intro h
 match l,h with
 | r :: rs,_=>rfl
def clsF (sets:List (List S74))(c:Int):List S74:=atF sets (sigF sets c)
structure Cls (sets:List (List S74)) (L:List (List S74)):Prop where
 all: ∀ c,0<=c->c<=1114111->clsF sets c∈L
 of: ∀ x∈L,∃ m,0<=m∧m<=1114111∧x=clsF sets m∧lowR x=m∧0<x.length∧ ∀ c,0<=c->c<=1114111->sigF sets c=sigF sets m->m<=c
 up:L.Pairwise fun x y=>lowR x<lowR y
theorem cls_of {sets L:List (List S74)}(h:AtomsOf sets L)(hs:Sorted L):Cls sets L:=by
 obtain ⟨T,hT,rfl,hc,hp⟩:=h
 have key: ∀ t∈T,0<=lowR (atF sets t)∧lowR (atF sets t)<=1114111∧sigF sets (lowR (atF sets t))=t∧ ∀ c,0<=c->c<=1114111->sigF sets c=t->lowR (atF sets t)<=c:=by
  intro t ht
  obtain ⟨h0,h1,h2,h3⟩:=low_spec (hp t ht)
  exact ⟨h0,h1,of_decide_eq_true h2,fun c k0 k1 k2=>h3 c k0 k1 (dt__ k2)⟩
 refine ⟨fun c h0 h1=>List.mem_map.2 ⟨_,hc c h0 h1,rfl⟩,fun x hx=>?_,?_⟩
 ·obtain ⟨t,ht,rfl⟩:=List.mem_map.1 hx
  obtain ⟨h0,h1,h2,h3⟩:=key t ht
  refine ⟨_,h0,h1,?_,rfl,hp t ht,fun c k0 k1 k2=>h3 c k0 k1 (k2.trans h2)⟩
  unfold clsF
  rw [h2]
 ·unfold Sorted at hs
  rw [List.pairwise_map] at hs ⊢
  have hboth:T.Pairwise fun a b=>a≠b∧lowR (atF sets a)<=lowR (atF sets b):=hT.and hs
  refine hboth.imp_of_mem fun {a b} ha hb hab=>?_
  have ha':=(key a ha).2.2.1
  have hb':=(key b hb).2.2.1
  rcases Int.lt_or_eq_of_le hab.2 with k | k
  ·exact k
  ·exact absurd (ha'.symm.trans (by rw [k];exact hb')) hab.1
theorem cls_congr {sets sets':List (List S74)}(hR: ∀ c d,0<=c->c<=1114111->0<=d->d<=1114111->(sigF sets c=sigF sets d↔sigF sets' c=sigF sets' d)){m:Int}(h0:0<=m)(h1:m<=1114111):clsF sets m=clsF sets' m:=by
 refine ef_ (P:=fun d=>decide (sigF sets d=sigF sets m)) (Q:=fun d=>decide (sigF sets' d=sigF sets' m)) fun c k0 k1=>?_
 show decide _=decide _
 rw [decide_eq_decide]
 exact hR c m k0 k1 h0 h1
theorem cls_one {sets sets' L L':List (List S74)}(hR: ∀ c d,0<=c->c<=1114111->0<=d->d<=1114111->(sigF sets c=sigF sets d↔sigF sets' c=sigF sets' d))(h:Cls sets L)(h':Cls sets' L'):L=L':=by
 have mem: ∀ x,x∈L↔x∈L':=by
  intro x
  constructor
  ·intro hx
   obtain ⟨m,h0,h1,e,_⟩:=h.of x hx
   rw [e,cls_congr hR h0 h1]
   exact h'.all m h0 h1
  ·intro hx
   obtain ⟨m,h0,h1,e,_⟩:=h'.of x hx
   rw [e,←cls_congr hR h0 h1]
   exact h.all m h0 h1
 have nd: ∀ {l:List (List S74)},l.Pairwise (fun x y=>lowR x<lowR y)->l.Nodup:=fun hp=>hp.imp fun {a b} hab e=>by rw [e] at hab;omega
 have hperm:L.Perm L':=(List.perm_ext_iff_of_nodup (nd h.up) (nd h'.up)).2 mem
 refine hperm.eq_of_pairwise (le:=fun x y=>lowR x<lowR y) (fun a b _ _ h1 h2=>by omega) h.up h'.up
theorem cls_same {sets L L':List (List S74)}(h:Cls sets L)(h':Cls sets L'):L=L':=cls_one (fun _ _ _ _ _ _=>Iff.rfl) h h'
theorem Cls.canon {sets L:List (List S74)}(h:Cls sets L){x:List S74}(hx:x∈L): ∃ P,x=canonF P:=by
 obtain ⟨m,_,_,e,_⟩:=h.of x hx
 rw [e]
 exact ⟨fun c=>decide (sigF sets c=sigF sets m),rfl⟩
def Short (L:List (List S74)):Prop:= ∀ x∈L,x.length<=400
theorem Cls.first {sets L:List (List S74)}(h:Cls sets L)(hs:Short L){x:List S74}(hx:x∈L):firstF x=lowR x∧0<=firstF x∧firstF x<=1114111∧x=clsF sets (firstF x):=by
 obtain ⟨m,m0,m1,e,el,hp,_⟩:=h.of x hx
 have h4:=hs x hx
 have e1:firstF x=lowR x:=by
  obtain ⟨P,eP⟩:=h.canon hx
  rw [eP] at h4 hp ⊢
  exact first_canon h4 hp
 rw [e1,el]
 exact ⟨rfl,m0,m1,e⟩
theorem ik_: ∀ (xs L:List (List Bool)),xs.Nodup->(∀ x∈xs,x∈L)->xs.length<=L.length
 | [],_,_,_=>Nat.zero_le _
 | x :: xs,L,hn,h=>by
  obtain ⟨h1,h2⟩:=List.nodup_cons.1 hn
  have hx:=h x (List.mem_cons_self ..)
  have:=ik_ xs (L.erase x) h2 fun y hy=>(List.mem_erase_of_ne (fun e:y=x=>h1 (by rw [←e];exact hy))).2 (h y (List.mem_cons_of_mem _ hy))
  rw [List.length_erase,if_pos hx] at this
  have:=List.length_pos_of_mem hx
  rw [List.length_cons]
  omega
structure Sigs (sets:List (List S74)) (T:List (List Bool)):Prop where
 nd:T.Nodup
 mem: ∀ t,t∈T↔ ∃ c,0<=c∧c<=1114111∧sigF sets c=t
theorem sigs_of {sets L:List (List S74)}(h:AtomsOf sets L): ∃ T,Sigs sets T∧L=T.map (atF sets)∧ ∀ t∈T,0<(atF sets t).length:=by
 obtain ⟨T,hT,e,hc,hp⟩:=h
 refine ⟨T,⟨hT,fun t=>⟨fun ht=>?_,?_⟩⟩,e,hp⟩
 ·obtain ⟨h0,h1,h2,_⟩:=low_spec (hp t ht)
  exact ⟨_,h0,h1,of_decide_eq_true h2⟩
 ·rintro ⟨c,h0,h1,rfl⟩
  exact hc c h0 h1
theorem Sigs.more {sets:List (List S74)}{s:List S74}{T U:List (List Bool)}(h:Sigs sets T)(k:Sigs (sets ++ [s]) U):T.length<=U.length∧U.length<=2*T.length:=by
 constructor
 ·have:=ik_ T (U.map List.dropLast) h.nd fun t ht=>by
   obtain ⟨c,h0,h1,rfl⟩:=(h.mem t).1 ht
   refine List.mem_map.2 ⟨sigF (sets ++ [s]) c,(k.mem _).2 ⟨c,h0,h1,rfl⟩,?_⟩
   rw [hp_,List.dropLast_concat]
  rwa [List.length_map] at this
 ·have:=ik_ U (T.flatMap fun t=>[t ++ [true],t ++ [false]]) k.nd fun u hu=>by
   obtain ⟨c,h0,h1,rfl⟩:=(k.mem u).1 hu
   refine List.mem_flatMap.2 ⟨sigF sets c,(h.mem _).2 ⟨c,h0,h1,rfl⟩,?_⟩
   rw [hp_]
   cases hasB s c <;> simp
  have e: ∀ T:List (List Bool),(T.flatMap fun t=>[t ++ [true],t ++ [false]]).length=2*T.length:=by
   intro T
   induction T with
   | nil=>rfl
   | cons t T ih=>
    rw [List.flatMap_cons,List.length_append,ih]
    simp only [List.length_cons,List.length_nil]
    omega
  rwa [e] at this
def clsL (sets:List (List S74)):List (List S74):=(ofAt sets sets.length).mergeSort fun x y=>decide (lowR x<=lowR y)
theorem atoms_perm {sets L L':List (List S74)}(h:AtomsOf sets L)(hp:L'.Perm L):AtomsOf sets L':=by
 obtain ⟨T,hT,rfl,hc,hpos⟩:=h
 obtain ⟨U,hU,e⟩:=perm_map hp
 exact ⟨U,hU.nodup_iff.2 hT,e,fun c h0 h1=>hU.mem_iff.2 (hc c h0 h1),fun t ht=>hpos t (hU.mem_iff.1 ht)⟩
theorem clsL_sorted (sets:List (List S74)):Sorted (clsL sets):=by
 have:=List.pairwise_mergeSort (le:=fun x y:List S74=>decide (lowR x<=lowR y)) (fun a b c h1 h2=>by simp only [decide_eq_true_eq] at *;omega) (fun a b=>by simp only [Bool.or_eq_true,decide_eq_true_eq];omega) (ofAt sets sets.length)
 exact this.imp fun {a b} h=>of_decide_eq_true h
theorem clsL_perm (sets:List (List S74)):(clsL sets).Perm (ofAt sets sets.length):=List.mergeSort_perm _ _
structure Few (sets:List (List S74)) (E:List Int):Prop where
 at_: ∀ c,0<c->c<=1114111->sigF sets c≠sigF sets (c - 1)->c∈E
 le:E.length<=798
theorem few_edges {sets:List (List S74)}(h:(sets.map List.length).sum<=399):Few sets (edgesOf sets):=
 ⟨fun c h0 _ h1=>sig_edge (by omega) h1,by rw [ft_];omega⟩
theorem clsL_atoms {sets:List (List S74)}{E:List Int}(f:Few sets E):AtomsOf sets (clsL sets):=by
 have h:=(hr_ E f.at_ f.le sets.length (Nat.le_refl _)).1
 rw [List.take_length] at h
 exact atoms_perm h (clsL_perm sets)
theorem clsL_cls {sets:List (List S74)}{E:List Int}(f:Few sets E):Cls sets (clsL sets):=cls_of (clsL_atoms f) (clsL_sorted sets)
theorem clsL_one {sets ys:List (List S74)}{E:List Int}(f:Few sets E)(h:AtomsOf sets ys)(hs:Sorted ys):ys=clsL sets:=cls_same (cls_of h hs) (clsL_cls f)
theorem clsL_len {sets:List (List S74)}:(clsL sets).length=(ofAt sets sets.length).length:=(clsL_perm sets).length_eq
theorem at_up {sets:List (List S74)}{E:List Int}(f:Few sets E): ∀ d j,j+d=sets.length->(ofAt sets j).length<=(ofAt sets sets.length).length:=by
 intro d
 induction d with
 | zero=>
  intro j h
  have:j=sets.length:=by omega
  rw [this]
  exact Nat.le_refl _
 | succ d ih=>
  intro j h
  refine Nat.le_trans ?_ (ih (j+1) (by omega))
  have h1:=(hr_ E f.at_ f.le j (by omega)).1
  have h2:=(hr_ E f.at_ f.le (j+1) (by omega)).1
  have hs:sets[j]? =some sets[j]:=List.getElem?_eq_getElem (by omega)
  have e:sets.take (j+1)=sets.take j ++ [sets[j]]:=by rw [List.take_add_one,hs];rfl
  rw [e] at h2
  obtain ⟨T,hT,e1,_⟩:=sigs_of h1
  obtain ⟨U,hU,e2,_⟩:=sigs_of h2
  rw [e1,e2,List.length_map,List.length_map]
  exact (hT.more hU).1
theorem bad_iff {sets:List (List S74)}{E:List Int}(f:Few sets E):OfBad sets↔60<sets.length∨longF sets=true∨200<(clsL sets).length:=by
 unfold OfBad
 rw [clsL_len]
 constructor
 ·rintro (h | h | ⟨j,h1,h2,h3⟩)
  ·exact Or.inl h
  ·exact Or.inr (Or.inl h)
  ·have:=at_up f (sets.length - j) j (by omega)
   exact Or.inr (Or.inr (by omega))
 ·rintro (h | h | h)
  ·exact Or.inl h
  ·exact Or.inr (Or.inl h)
  ·refine Or.inr (Or.inr ⟨sets.length,?_,Nat.le_refl _,h⟩)
   cases sets with
   | nil=>exact absurd h (by decide)
   | cons=>simp
def badB (sets:List (List S74)):Bool:=decide (60<sets.length) || longF sets || decide (200<(clsL sets).length)
theorem badB_iff {sets:List (List S74)}{E:List Int}(f:Few sets E):badB sets=true↔OfBad sets:=by
 rw [bad_iff f]
 unfold badB
 simp only [Bool.or_eq_true,decide_eq_true_eq,or_assoc]
theorem of_one (A0:Option Addr)(c0:Nat)(l0:List (List S74))(w:World)(hr0:Kd.C (Kd.slice 74 k74) w A0 l0.length l0)(hc0:l0.length<=c0){E:List Int}(f:Few l0 E):
  Calls Tryz.prog 43 #[.slice A0 l0.length c0] w fun e w'=> ∃ v,e=.returned (.tuple #[v,.int .i64 (if badB l0 then 9 else 0)])∧OwnRows w' w.heap.size v (if badB l0 then [] else clsL l0)∧Below w.heap.size w w':=by
 refine (of_calls A0 c0 l0 w hr0 hc0 E f.at_ f.le).mono ?_
 rintro e w' ⟨h | ⟨hb,v,ys,he,ho,ha,hs⟩,bel⟩
 ·have q:=(badB_iff f).2 h.1
  rw [if_pos q,if_pos q]
  exact ⟨_,h.2,OwnRows.nil _ _,bel⟩
 ·have q:¬ badB l0=true:=fun q=>hb ((badB_iff f).1 q)
  rw [if_neg q,if_neg q]
  exact ⟨v,he,clsL_one f ha hs ▸ ho,bel⟩
end P
namespace L
open Shelf A P
theorem R34_foot {W W':World}{base:Nat}{u:Value}{x:List S74}(h:Kd.R k74 74 W base (fun _=>True) u x){v:Value}(hv: ∀ k,v.ownBlock=some k-> ∃ cells,W.heap[k]? =some (.cells cells 37 (0,0)))(hm: ∀ k,base<=k∧some k≠v.ownBlock->k<W.heap.size->W'.heap[k]? =W.heap[k]?):Kd.R k74 74 W' base (fun _=>True) u x:=by
 refine Kd.R_mono (Kd.R_move (Kd.R_bound h) (fun k hk=>?_)) (fun _ _=>trivial)
 obtain ⟨_,hb,hlt,q,hq,cells,hc⟩:=hk
 have hE:k74.E=[]:=rfl
 rw [hE,List.mem_singleton] at hq
 subst hq
 refine hm k ⟨hb,fun e=>?_⟩ hlt
 obtain ⟨c2,hc2⟩:=hv k e.symm
 rw [hc] at hc2
 injection hc2 with hc2
 injection hc2 with _ h2
 exact absurd h2 (by decide)
theorem OwnRows.N {w:World}{base:Nat}{v:Value}{xs:List (List S74)}(o:OwnRows w base v xs):Kd.N (Kd.slice 74 k74) 37 w base (fun k=>base<=k) v xs:=by
 obtain ⟨hdrs,ho,hl,hr⟩:=o
 have hone: ∀ u∈hdrs,u.oneCell'=true:=by
  intro u hu
  obtain ⟨j,hj,e⟩:=List.getElem_of_mem hu
  have h1:hdrs[j]? =some u:=by rw [List.getElem?_eq_getElem hj,e]
  have h2:xs[j]? =some xs[j]:=List.getElem?_eq_getElem (by omega)
  obtain ⟨A,c,e2⟩:=Kd.R_slice (hr j u _ h1 h2)
  rw [e2]
  rfl
 have hty: ∀ k,v.ownBlock=some k-> ∃ cells,w.heap[k]? =some (.cells cells 37 (0,0)):=by
  intro k hk
  rcases ho.2 with ⟨e',_⟩ | ⟨g,cap,cur,e',_,hh,_⟩
  ·rw [e'] at hk;cases hk
  ·rw [e'] at hk
   have:k=g:=by simpa [Value.ownBlock] using hk.symm
   subst this
   exact ⟨_,hh⟩
 have hbase: ∀ k,v.ownBlock=some k->base<=k:=by
  intro k hk
  rcases ho.2 with ⟨e',_⟩ | ⟨g,cap,cur,e',hg,hh,_⟩
  ·rw [e'] at hk;cases hk
  ·rw [e'] at hk
   have:k=g:=by simpa [Value.ownBlock] using hk.symm
   subst this
   exact hg
 refine ⟨hbase,hdrs.map fun u=>[u],by rw [List.length_map,hl],⟨fun k hk=>hk.symm,hdrs,?_,?_⟩,?_⟩
 ·rw [List.length_map,hl]
  exact ho
 ·refine ⟨by rw [List.length_map,Nat.mul_comm];exact (Nat.one_mul _).symm,fun j p hp=>?_⟩
  rw [List.getElem?_map] at hp
  obtain ⟨u,hu,rfl⟩:=Option.map_eq_some_iff.1 hp
  have hj:=(List.getElem?_eq_some_iff.1 hu).1
  have e:(hdrs.drop (j*1)).take 1=[u]:=by
   rw [Nat.mul_one,List.drop_eq_getElem_cons hj]
   have:=(List.getElem?_eq_some_iff.1 hu).2
   simp [this]
  show (hdrs.drop (j*1)).take 1=[u]∧((hdrs.drop (j*1)).take 1).length=1∧ ∀ z∈(hdrs.drop (j*1)).take 1,z.oneCell'=true
  rw [e]
  exact ⟨rfl,rfl,fun z hz=>by rw [List.mem_singleton.1 hz];exact hone u (List.mem_of_getElem? hu)⟩
 ·intro j x c hx hc
  rw [List.getElem?_map] at hc
  obtain ⟨u,hu,rfl⟩:=Option.map_eq_some_iff.1 hc
  have hR:=hr j u x hu hx
  obtain ⟨A,c',rfl⟩:=Kd.R_slice hR
  intro W' hW
  have hR':=R34_foot hR hty hW
  obtain ⟨k1,k2,k3⟩:=Kd.R_reads' hR'
  exact ⟨A,c',rfl,k2,k3⟩
noncomputable def fo_.f (l0:List (List S74)):Option (List (List S74) × Int):=@ite _ (∃ E,Few l0 E) (Classical.propDecidable _) (some (if badB l0 then [] else clsL l0,if badB l0 then 9 else 0)) none
theorem of_f {l0:List (List S74)}{E:List Int}(f:Few l0 E):fo_.f l0=some (if badB l0 then [] else clsL l0,if badB l0 then 9 else 0):=by
 unfold fo_.f
 exact if_pos ⟨E,f⟩
theorem fo_.calls (A0:Option Addr)(c0:Nat)(l0:List (List S74))(r0:List (List S74))(r1:Int)(w:World)(hr0:Kd.C (Kd.slice 74 k74) w A0 l0.length l0)(hc0:l0.length<=c0)(h:fo_.f l0=some (r0,r1)):
  Calls Tryz.prog 43 #[.slice A0 l0.length c0] w fun e w'=> ∃ v0_:Value,e=.returned (.tuple #[v0_,.int .i64 r1])∧Kd.N (Kd.slice 74 k74) 37 w' w.heap.size (fun k_=>w.heap.size<=k_) v0_ r0∧Below w.heap.size w w':=by
 unfold fo_.f at h
 by_cases q: ∃ E,Few l0 E
 ·rw [if_pos q] at h
  obtain ⟨E,f⟩:=q
  have h:=Option.some.inj h
  injection h with h1 h2
  refine (of_one A0 c0 l0 w hr0 hc0 f).mono ?_
  rintro e w' ⟨v,he,ho,hb⟩
  rw [h1] at ho
  rw [h2] at he
  exact ⟨v,he,ho.N,hb⟩
 ·rw [if_neg q] at h
  cases h
def eachF (dF:Int->Int)(l:List Int):List Int × Int:=if l.any (fun x=>decide (dF x<0)) then ([],1) else (l.map dF,0)
def EaO (w:World)(dF:Int->Int)(l:List Int)(v6 ui:Value)(W:World):Prop:= ∃ j:Nat,j<=l.length∧ui=.int .i64 j∧(∀ x∈l.take j,0<=dF x)∧Kd.R (Kd.int .i64) 3 W w.heap.size (fun _=>True) v6 ((l.take j).map dF)∧Below w.heap.size w W
theorem jh_ (gf gb:Nat)(dF:Int->Int)(A0:Option Addr)(c0:Nat)(l0:List Int)(w:World)(hr0:Kd.C (Kd.int .i64) w A0 l0.length l0)(hc0:l0.length<=c0)(hl:l0.length<=100000)
  (eg: ∀ args w,(callFunc gf args).run Tryz.prog w=.ok (.enter gf args) w)
  (hd: ∀ n W,Below w.heap.size w W->Calls Tryz.prog gf #[.int .i64 n,.pointer (some ⟨gb,0,none⟩)] W fun e w'=>e=.returned (.int .i64 (dF n))∧Below W.heap.size W w'):
  Calls Tryz.prog 65 #[.slice A0 l0.length c0,.func (.func gf) #[] #[.pointer (some ⟨gb,0,none⟩)]] w fun e w'=> ∃ v,e=.returned (.tuple #[v,.int .i64 (eachF dF l0).2])∧Kd.R (Kd.int .i64) 3 w' w.heap.size (fun _=>True) v (eachF dF l0).1∧Below w.heap.size w w':=by
 have HR:=Sd.m hr0
 have HL:=Sd.m hl
 have HD:=Sd.m hd
 clear hr0 hl hd
 obtain ⟨ans,hans⟩: ∃ a,a=eachF dF l0:=⟨_,rfl⟩
 rw [←hans]
 have HANS:=Sd.m hans
 clear hans
 go_enter Tryz.func65,Tryz.ntmps65
 go_wp2_with fail
 go_loopw [6,12] (fun v6 ui W=>EaO w dF l0 v6 ui W) (fun v6 ui W=>l0.length - (intOf ui).toNat)
 case atStart=>exact ⟨0,Nat.zero_le _,rfl,(fun x hx=>by simp at hx),Kd.R_nil _ _ _ _ _,Below.refl _ _⟩
 case round=>
  obtain ⟨j,hj,rfl,hno,hR,hb⟩:=hrel
  have HB:=Sd.m hb
  have HN:=Sd.m hno
  have HLL:=HL.out
  obtain ⟨out,hout⟩: ∃ o,o=(l0.take j).map dF:=⟨_,rfl⟩
  rw [←hout] at hR
  have hol:out.length=j:=by rw [hout,List.length_map,List.length_take];omega
  have HOUT:=Sd.m hout
  have HOL:=Sd.m hol
  obtain ⟨Aa,ca,rfl⟩:=Kd.R_slice hR
  have HO:=Sd.m hR
  clear hb hno hout hR hol
  by_cases hlt:j<l0.length
  ·have b1:decide ((j:Int)<(l0.length:Int))=true:=dt__ (by omega)
   have b2:decide (j<l0.length)=true:=dt__ hlt
   have hq0:0<=(j:Int):=by omega
   have hq1:(j:Int)<(l0.length:Int):=by omega
   have w2:IntKind.i64.wrap ((j:Int)+1)=(j:Int)+1:=IntWalk.i64_in _ (by omega)
   obtain ⟨ad,rfl,k0⟩:=Kd.dc_ (Kd.C_below HR.out HB.out) (j:Int) (by omega) (by omega)
   rw [Int.toNat_natCast] at k0
   obtain ⟨x,hx⟩: ∃ x,x=rd l0 (j:Int):=⟨_,rfl⟩
   rw [←hx] at k0
   have hel:l0[j]? =some x:=by
    rw [hx]
    unfold rd
    rw [Int.toNat_natCast,List.getD_eq_getElem?_getD,List.getElem?_eq_getElem hlt]
    rfl
   have HE:=Sd.m hel
   clear hel hx
   obtain ⟨k,hk⟩: ∃ k,k=dF x:=⟨_,rfl⟩
   have HK:=Sd.m hk
   clear hk
   go_wp2_with fail
   generalize wr=Wo at*
   have hcall:=HD.out x Wo HB.out
   rw [←HK.out] at hcall
   refine hcall.mono ?_
   clear hcall
   rintro e W1 ⟨rfl,hb⟩
   have HB1:=Sd.m (HB.out.trans (hb.mono HB.out.size))
   have HO1:=Sd.m (Kd.R_below HO.out hb)
   clear hb HB HO k0
   by_cases hneg:k<0
   ·have d1:decide (k<0)=true:=dt__ hneg
    have hbad:eachF dF l0=([],1):=by
     unfold eachF
     rw [if_pos]
     rw [List.any_eq_true]
     exact ⟨x,List.mem_of_getElem? HE.out,dt__ (by rw [←HK.out];exact hneg)⟩
    have HBAD:=Sd.m hbad
    clear hneg hbad
    go_wp2_with fail
    go_ret2
    exact ⟨_,by rw [HANS.out,HBAD.out];rfl,by rw [HANS.out,HBAD.out];exact Kd.R_nil _ _ _ _ _,HB1.out⟩
   ·have d1:decide (k<0)=false:=df__ hneg
    have HNEG:=Sd.m hneg
    clear hneg
    go_wp2_with ((with_reducible refine bq_ (b:=.append) (xs:=#[.tmp 21,.tmp 23]) rfl ?_);at_builtin;refine Kd.R_append (Kd.int .i64) (w0:=w) w.heap.size rfl (.tmp 21) (.tmp 23) 42 3 (.int .i64 0) 8 rfl Tryz.underlying42 info3 rfl (by decide) (by omega) (.slice Aa out.length ca) out k [.int .i64 k] (fun _=>True) (fun _=>False) rfl rfl rfl (fun _ hk=>hk.elim) (fun _ _=>trivial) HO1.out HB1.out HB1.out.size (by have:=HOL.out;omega) ?_;intro v' w1 ho hb hg hat;have E1:=Sd.m ho;have E2:=Sd.m hb;clear ho hb hg hat)
    go_roundw
    case rel=>
     refine ⟨j+1,hlt,by go_num,fun y hy=>?_,?_,E2.out⟩
     ·rw [List.take_add_one,HE.out] at hy
      rcases List.mem_append.1 hy with hy | hy
      ·exact HN.out y hy
      ·simp at hy
       rw [hy,←HK.out]
       have:=HNEG.out
       omega
     ·rw [List.take_add_one,HE.out,List.map_append,←HOUT.out]
      simpa [HK.out] using E1.out
    case measure=>simp [intOf];omega
  ·have b1:decide ((j:Int)<(l0.length:Int))=false:=df__ (by omega)
   have b2:decide (j<l0.length)=false:=df__ hlt
   have hgood:eachF dF l0=(out,0):=by
    have hfull:l0.take j=l0:=List.take_of_length_le (by omega)
    unfold eachF
    rw [if_neg,HOUT.out,hfull]
    rw [List.any_eq_true]
    rintro ⟨x,hx,h⟩
    have:=HN.out x (by rw [hfull];exact hx)
    have:=of_decide_eq_true h
    omega
   have HG:=Sd.m hgood
   clear hgood
   go_wp2_with fail
   go_ret2
   exact ⟨_,by rw [HANS.out,HG.out];rfl,by rw [HANS.out,HG.out];exact HO.out,HB.out⟩
end L
end Go.Proofs.YthfceiincmkccaaGreat
