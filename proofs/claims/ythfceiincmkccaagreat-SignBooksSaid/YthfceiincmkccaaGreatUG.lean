/- What law SignBooks reaches, part 7: words and walks over rows and regions. -/
import Derived.Test.YthfceiincmkccaaGreatUA
import Derived.Test.YthfceiincmkccaaGreatUF
import Derived.Test.YthfceiincmkccaaGreatUD
import Derived.Test.YthfceiincmkccaaGreatUE
import Derived.Laws.Cover3
import Derived.Test.YthfceiincmkccaaGreatUB
import Derived.Test.YthfceiincmkccaaGreatProg
import Derived.Below
import Derived.Deep.Draws
import Derived.Deep.AppendLies
import Derived.Maps.AppendAt
import Derived.OwnWalk
import Derived.Laws.BytesArg
import Derived.Laws.MakeOwn
import Derived.Laws.OwnMore
import Derived.Deep.OwnRows
import Derived.Tactics
import Derived.Lib.ConvBytes
import Derived.Laws.Slices
import Derived.WalkKit
import Derived.KernelRfl
import Derived.RowKit3
import Derived.Deep.LoopGhost
import Derived.Deep.QuietTactic
import Derived.BigQuiet
import Derived.WideLaws
import Derived.Deep.DeepCutAuto
import Derived.Deep.CutBlock
import Derived.Deep.RegionHeld3
import Derived.Laws.Rows
import Derived.Lib.AppendStr
import Derived.ArgAppend
import Derived.Laws.IdiomCopy
import Derived.OrdersHeld
import Derived.Laws.BitsLemmas
import Derived.RowKit
import Derived.Lib.SlBytesConst
set_option linter.unusedVariables false
set_option linter.unusedSimpArgs false
set_option maxHeartbeats 8000000
set_option maxRecDepth 100000
open Go.RowKit Go.Proofs.YthfceiincmkccaaGreatW.PrintWords Go.Proofs.YthfceiincmkccaaGreatW.PrintLast Go.Proofs.YthfceiincmkccaaGreatW.PrintMore
namespace Go.Proofs.YthfceiincmkccaaGreat
namespace LX
open Shelf YthfceiincmkccaaGreatW.PrintWords.Kd A K
instance (c:Int):Decidable (NoSign c):=by unfold NoSign;infer_instance
instance (l:List Int) (j:Int):Decidable (After l j):=by unfold After;infer_instance
abbrev LS:=Int × Int × List S159
def nameF (l p:List Int)(i deep:Int)(out:List S159):Option LS:=
 if i+1<(l.length:Int)∧cd_.f (rd l (i+1))=some true∧After l (i+2) then
  match bn_.f 9 [rd l (i+1)] with
  | some s=>some (i+2,deep,out ++ [⟨1,s,0,0,rd p i⟩])
  | none=>none
 else none
def openF (l p:List Int)(i deep:Int)(out:List S159):Option LS:=
 if 0<=deep∧deep<=1000000∧i+1<(l.length:Int)∧rd l (i+1)≠94 then some (i+1,deep+1,out ++ [⟨13,⟨#[]⟩,0,0,rd p i⟩]) else none
def charF (l:List Int)(i:Int):Option (Int × Int):=
 if NoSign (rd l i) then
  match az_.f 9 l i with
  | some (x,nx,0)=>if 0<=nx∧nx<(l.length:Int) then some (x,nx) else none
  | _=>none
 else none
def setF (l p:List Int)(i deep:Int)(out:List S159):Option LS:=
 if ¬ (0<out.length∧out.length<=1000000) then none
 else if rd l i=91 then openF l p i deep out
 else if rd l i=93 then (if 0<=deep∧deep<=1000000 then some (i+1,deep - 1,out ++ [⟨14,⟨#[]⟩,0,0,rd p i⟩]) else none)
 else if rd l i=36 then nameF l p i deep out
 else if rd l i=45∧((ac_ out ((out.length:Int) - 1)).f0=14∨(ac_ out ((out.length:Int) - 1)).f0=1) then some (i+1,deep,out ++ [⟨17,⟨#[]⟩,0,0,rd p i⟩])
 else
  match charF l i with
  | none=>none
  | some (x,nx)=>
   if rd l nx=45 then
    if nx+1<(l.length:Int) then
     match charF l (nx+1) with
     | some (y,ny)=>if x<=y then some (ny,deep,out ++ [⟨15,⟨#[]⟩,x,y,rd p i⟩]) else none
     | none=>none
    else none
   else some (nx,deep,out ++ [⟨15,⟨#[]⟩,x,x,rd p i⟩])
def stepF (l p:List Int)(i deep:Int)(out:List S159):Option LS:=
 if ¬ out.length<=1000000 then none
 else if rd l i=61 then some (i+1,deep,out ++ [⟨3,⟨#[]⟩,0,0,rd p i⟩])
 else if rd l i=215 then some (i+1,deep,out ++ [⟨4,⟨#[]⟩,0,0,rd p i⟩])
 else if rd l i=247 then some (i+1,deep,out ++ [⟨5,⟨#[]⟩,0,0,rd p i⟩])
 else if rd l i=124 then some (i+1,deep,out ++ [⟨8,⟨#[]⟩,0,0,rd p i⟩])
 else if rd l i=42 then some (i+1,deep,out ++ [⟨9,⟨#[]⟩,0,0,rd p i⟩])
 else if rd l i=46 then some (i+1,deep,out ++ [⟨12,⟨#[]⟩,0,0,rd p i⟩])
 else if rd l i=10 then some (i+1,deep,out ++ [⟨18,⟨#[]⟩,0,0,rd p i⟩])
 else if rd l i=36 then nameF l p i deep out
 else if rd l i=91 then openF l p i deep out
 else if 48<=rd l i∧rd l i<=57 then
  match ah_.f 99 l i with
  | some (n,nx,0)=>some (nx,deep,out ++ [⟨2,⟨#[]⟩,n,0,rd p i⟩])
  | _=>none
 else none
theorem lb_ {l:List Int}{i x nx:Int}(h:charF l i=some (x,nx)):NoSign (rd l i)∧az_.f 9 l i=some (x,nx,0)∧0<=nx∧nx<(l.length:Int):=by
 unfold charF at h;split at h
 ·split at h
  ·split at h
   ·injection h with h;injection h with h1 h2;subst h1 h2;refine ⟨by assumption,by assumption,?_⟩;rename_i q;exact q
   ·cases h
  ·cases h
 ·cases h
section
variable {w0 W:World} {g:Nat} {Al:Option Addr} {cl:Nat} {l:List Int} {Ap:Option Addr} {cp:Nat} {p:List Int} {i deep i' deep':Int} {out out':List S159}
theorem set_calls (h:LexAt w0 W g Al cl l Ap cp p i deep out)
  (hl:Kd.C (Kd.int .i64) w0 Al l.length l) (hcl:l.length<=cl) (hp:Kd.C (Kd.int .i64) w0 Ap p.length p) (hpl:p.length<=1000000) (hi0:0<=i) (hi1:i<l.length) (hi2:i<p.length) (hll:l.length<=1000000) (hF:setF l p i deep out=some (i',deep',out')):
  Calls Tryz.prog 122 #[.pointer (some ⟨g,0,none⟩)] W fun e W1=>e=.returned (.tuple #[])∧LexAt w0 W1 g Al cl l Ap cp p i' deep' out':=by
 unfold setF at hF;split at hF
 ·cases hF
 rename_i ho;have ho:=Decidable.not_not.1 ho;split at hF
 ·rename_i hc;unfold openF at hF;split at hF
  ·rename_i q;injection hF with hF;injection hF with e1 hF;injection hF with e2 e3;subst e1 e2 e3;exact set_open w0 W g Al cl l Ap cp p i deep out h hl hcl hp hpl ho.2 ho.1 hi0 hi1 hi2 hll q.1 q.2.1 q.2.2.1 q.2.2.2 hc
  ·cases hF
 split at hF
 ·rename_i hc;split at hF
  ·rename_i q;injection hF with hF;injection hF with e1 hF;injection hF with e2 e3;subst e1 e2 e3;exact set_close w0 W g Al cl l Ap cp p i deep out h hl hcl hp hpl ho.2 ho.1 hi0 hi1 hi2 hll q.1 q.2 hc
  ·cases hF
 split at hF
 ·rename_i hc;unfold nameF at hF;split at hF
  ·rename_i q;split at hF
   ·rename_i s hs;injection hF with hF;injection hF with e1 hF;injection hF with e2 e3;subst e1 e2 e3;exact set_name w0 W g Al cl l Ap cp p i deep out h hl hcl hp hpl ho.2 ho.1 hi0 hi1 hi2 hll hc q.1 q.2.1 q.2.2 9 s hs
   ·cases hF
  ·cases hF
 split at hF
 ·rename_i hc;injection hF with hF;injection hF with e1 hF;injection hF with e2 e3;subst e1 e2 e3;exact set_less w0 W g Al cl l Ap cp p i deep out h hl hcl hp hpl ho.2 ho.1 hi0 hi1 hi2 hll hc.1 hc.2
 split at hF
 ·cases hF
 rename_i x nx hch;obtain ⟨c1,c2,c3,c4⟩:=lb_ hch;split at hF
 ·rename_i h45;split at hF
  ·rename_i h46;split at hF
   ·rename_i y ny hch2;obtain ⟨b1,b2,b3,b4⟩:=lb_ hch2;split at hF
    ·rename_i hxy;injection hF with hF;injection hF with e1 hF;injection hF with e2 e3;subst e1 e2 e3;exact set_range w0 W g Al cl l Ap cp p i deep out h hl hcl hp hpl ho.2 ho.1 hi0 hi1 hi2 hll c1 9 x nx c2 c3 c4 h45 h46 b1 y ny b2 hxy
    ·cases hF
   ·cases hF
  ·cases hF
 ·rename_i h45;injection hF with hF;injection hF with e1 hF;injection hF with e2 e3;subst e1 e2 e3;exact set_char w0 W g Al cl l Ap cp p i deep out h hl hcl hp hpl ho.2 ho.1 hi0 hi1 hi2 hll c1 9 x nx c2 c3 c4 h45
theorem step_calls (h:LexAt w0 W g Al cl l Ap cp p i deep out)
  (hl:Kd.C (Kd.int .i64) w0 Al l.length l) (hcl:l.length<=cl) (hp:Kd.C (Kd.int .i64) w0 Ap p.length p) (hpl:p.length<=1000000) (hi0:0<=i) (hi1:i<l.length) (hi2:i<p.length) (hll:l.length<=1000000) (hF:stepF l p i deep out=some (i',deep',out')):
  Calls Tryz.prog 123 #[.pointer (some ⟨g,0,none⟩)] W fun e W1=>e=.returned (.tuple #[])∧LexAt w0 W1 g Al cl l Ap cp p i' deep' out':=by
 unfold stepF at hF;by_cases ho0:¬ out.length<=1000000
 ·rw [if_pos ho0] at hF;cases hF
 rw [if_neg ho0] at hF;have ho:=Decidable.not_not.1 ho0;by_cases hc61:rd l i=61
 ·rw [if_pos hc61] at hF;injection hF with hF;injection hF with e1 hF;injection hF with e2 e3;subst e1 e2 e3;exact step_is w0 W g Al cl l Ap cp p i deep out h hl hcl hp hpl ho hi0 hi1 hi2 hll hc61
 rw [if_neg hc61] at hF;by_cases hc215:rd l i=215
 ·rw [if_pos hc215] at hF;injection hF with hF;injection hF with e1 hF;injection hF with e2 e3;subst e1 e2 e3;exact step_stay w0 W g Al cl l Ap cp p i deep out h hl hcl hp hpl ho hi0 hi1 hi2 hll hc215
 rw [if_neg hc215] at hF;by_cases hc247:rd l i=247
 ·rw [if_pos hc247] at hF;injection hF with hF;injection hF with e1 hF;injection hF with e2 e3;subst e1 e2 e3;exact step_cut w0 W g Al cl l Ap cp p i deep out h hl hcl hp hpl ho hi0 hi1 hi2 hll hc247
 rw [if_neg hc247] at hF;by_cases hc124:rd l i=124
 ·rw [if_pos hc124] at hF;injection hF with hF;injection hF with e1 hF;injection hF with e2 e3;subst e1 e2 e3;exact step_or w0 W g Al cl l Ap cp p i deep out h hl hcl hp hpl ho hi0 hi1 hi2 hll hc124
 rw [if_neg hc124] at hF;by_cases hc42:rd l i=42
 ·rw [if_pos hc42] at hF;injection hF with hF;injection hF with e1 hF;injection hF with e2 e3;subst e1 e2 e3;exact step_star w0 W g Al cl l Ap cp p i deep out h hl hcl hp hpl ho hi0 hi1 hi2 hll hc42
 rw [if_neg hc42] at hF;by_cases hc46:rd l i=46
 ·rw [if_pos hc46] at hF;injection hF with hF;injection hF with e1 hF;injection hF with e2 e3;subst e1 e2 e3;exact step_any w0 W g Al cl l Ap cp p i deep out h hl hcl hp hpl ho hi0 hi1 hi2 hll hc46
 rw [if_neg hc46] at hF;by_cases hc10:rd l i=10
 ·rw [if_pos hc10] at hF;injection hF with hF;injection hF with e1 hF;injection hF with e2 e3;subst e1 e2 e3;exact step_line w0 W g Al cl l Ap cp p i deep out h hl hcl hp hpl ho hi0 hi1 hi2 hll hc10
 rw [if_neg hc10] at hF;by_cases hc36:rd l i=36
 ·rw [if_pos hc36] at hF;unfold nameF at hF;split at hF
  ·rename_i q;split at hF
   ·rename_i s hs;injection hF with hF;injection hF with e1 hF;injection hF with e2 e3;subst e1 e2 e3;exact step_name w0 W g Al cl l Ap cp p i deep out h hl hcl hp hpl ho hi0 hi1 hi2 hll hc36 q.1 q.2.1 q.2.2 9 s hs
   ·cases hF
  ·cases hF
 rw [if_neg hc36] at hF;by_cases hc91:rd l i=91
 ·rw [if_pos hc91] at hF;unfold openF at hF;split at hF
  ·rename_i q;injection hF with hF;injection hF with e1 hF;injection hF with e2 e3;subst e1 e2 e3;exact step_open w0 W g Al cl l Ap cp p i deep out h hl hcl hp hpl ho hi0 hi1 hi2 hll q.1 q.2.1 q.2.2.1 q.2.2.2 hc91
  ·cases hF
 rw [if_neg hc91] at hF;by_cases hc:48<=rd l i∧rd l i<=57
 ·rw [if_pos hc] at hF;obtain ⟨u,hu⟩: ∃ u,u=ah_.f 99 l i:=⟨_,rfl⟩;rw [←hu] at hF
  match u,hu,hF with
  | some (n,nx,0),hu,hF=>
   injection hF with hF;injection hF with e1 hF;injection hF with e2 e3;subst e1 e2 e3;exact step_num w0 W g Al cl l Ap cp p i deep out h hl hcl hp hpl ho hi0 hi1 hi2 hll hc.1 hc.2 99 n nx hu.symm
 ·rw [if_neg hc] at hF;cases hF
end
def lexRun:Nat->List Int->List Int->Int->Int->List S159->Option (List S159)
 | 0,_,_,_,_,_=>none
 | n+1,l,p,i,deep,out=>
  if i<(l.length:Int) then
   match (if rd l i=32 then some (i+1,deep,out) else if rd l i=9 then none else if 0<deep then setF l p i deep out else stepF l p i deep out) with
   | some (i',deep',out')=>if i<i' then lexRun n l p i' deep' out' else none
   | none=>none
  else if deep<=0 then some out else none
def OfO (w0:World)(g:Nat)(Al:Option Addr)(cl:Nat)(l:List Int)(Ap:Option Addr)(cp:Nat)(p:List Int)(fin:List S159)(W1:World):Prop:= ∃ n i deep out,0<=i∧LexAt w0 W1 g Al cl l Ap cp p i deep out∧lexRun n l p i deep out=some fin
def iOf (W:World)(g:Nat):Int:=intOf ((W.cell? ⟨g,2,none⟩).getD undef)
theorem iOf_at {w0 W:World}{g:Nat}{Al Ap:Option Addr}{cl cp:Nat}{l p:List Int}{i deep:Int}{out:List S159}(h:LexAt w0 W g Al cl l Ap cp p i deep out):iOf W g=i:=by
 unfold iOf;rw [h.c2];rfl
def dm_.f (l0:List Int):Option (List S159 × Int × Int):=
 match bk_.f 99 l0 with
 | some (l,p,_,0)=>if p.length=l.length+1∧l.length<=999999 then (lexRun 99 l p 0 0 []).map (fun fin=>(fin,-1,0)) else none
 | _=>none
theorem dm_.calls (A0:Option Addr)(c0:Nat)(l0:List Int)(r1:List S159)(r2 r3:Int)(w:World)(hr0:Kd.C (Kd.int .u8) w A0 l0.length l0)(hc0:l0.length<=c0)(h:dm_.f l0=some (r1,r2,r3)):
  Calls Tryz.prog 84 #[.slice A0 l0.length c0] w fun e w'=> ∃ v0_:Value,e=.returned (.tuple #[v0_,.int .i64 r2,.int .i64 r3])∧Kd.R k159 159 w' w.heap.size (fun _=>True) v0_ r1∧Below w.heap.size w w':=by
 unfold dm_.f at h;obtain ⟨u,hu⟩: ∃ u,u=bk_.f 99 l0:=⟨_,rfl⟩;rw [←hu] at h
 match u,hu,h with
 | some (l,p,wr,0),hu,h=>
  replace h:(if p.length=l.length+1∧l.length<=999999 then (lexRun 99 l p 0 0 []).map (fun fin=>((fin,-1,0):List S159 × Int × Int)) else none)=some (r1,r2,r3):=h;by_cases hq:p.length=l.length+1∧l.length<=999999
  ·rw [if_pos hq] at h;obtain ⟨fin,hv,h⟩:=Option.map_eq_some_iff.1 h;injection h with e1 h;injection h with e2 e3;subst e1 e2 e3;obtain ⟨hpl,hll⟩:=hq;have HPL:=Sd.m hpl;clear hpl;have HU:=Sd.m hu.symm;have HV:=Sd.m hv;have HR0:=Sd.m hr0;clear hu hv hr0;go_enter Tryz.func84,Tryz.ntmps84;go_wp2_with fail;refine (bk_.calls 99 A0 c0 l0 l p wr 0 w HR0.out hc0 HU.out).mono ?_;rintro e w0 ⟨v0,v1,rfl,h0,h1,hb⟩;obtain ⟨Al,cl,rfl⟩:=R_slice h0;obtain ⟨Ap,cp,rfl⟩:=R_slice h1;obtain ⟨_,hcl,hCl⟩:=R_reads' h0;obtain ⟨_,_,hCp⟩:=R_reads' h1;have HB:=Sd.m hb;have HL:=Sd.m hCl;have HP:=Sd.m hCp;clear h0 h1 hCl hCp hb;have hL0:LexAt w0 (w0.alloc (.cells #[.slice Al l.length cl,.slice Ap p.length cp,.int .i64 0,.int .i64 0,.slice none 0 0,.int .i64 0,.int .i64 0] 156)) w0.heap.size Al cl l Ap cp p 0 0 []:=⟨_,aj_ _ _,R_nil _ _ _ _ _,ab_ (Below.refl _ _) _,Nat.le_refl _⟩;have HL0:=Sd.m hL0;clear hL0;go_wp2_with fail;go_loopw [] (fun W1=>OfO w0 w0.heap.size Al cl l Ap cp p fin W1) (fun W1=>((l.length:Int) - iOf W1 w0.heap.size).toNat)
   case atStart=>exact ⟨99,0,0,[],by omega,HL0.out,HV.out⟩
   case round=>
    obtain ⟨n,i,deep,out,hi0,hS,hrun⟩:=hrel;have hiO:=iOf_at hS;have HIO:=Sd.m hiO;clear hiO
    match n,hrun with
    | n+1,hrun=>
     rw [lexRun] at hrun;have c2:=hS.c2;have c6:=hS.c6;have c3:=hS.c3;have f2:=hS.fr 2;by_cases hlt:i<(l.length:Int)
     ·rw [if_pos hlt] at hrun;obtain ⟨ad,rfl,hcell⟩:=at_l HL.out hS.B i hi0 hlt;have d0:decide ((0:Int)<=i)=true:=dt__ hi0;have d1:decide (i<(l.length:Int))=true:=dt__ hlt;have w2:IntKind.i64.wrap (i+1)=i+1:=IntWalk.i64_in _ (by omega);by_cases h32:rd l i=32
      ·rw [if_pos h32] at hrun;replace hrun:(if i<i+1 then lexRun n l p (i+1) deep out else none)=some fin:=hrun;rw [if_pos (by omega)] at hrun;have b32:(rd l i == 32)=true:=by rw [h32];decide
       have HS:=Sd.m (hS.gw_ (i+1));have HRUN:=Sd.m hrun;clear hS hrun h32;go_wp2_with fail;go_roundw
       case rel=>exact ⟨n,i+1,deep,out,by omega,HS.out,HRUN.out⟩
       case measure=>rw [iOf_at HS.out,HIO.out];omega
      ·rw [if_neg h32] at hrun;by_cases h9:rd l i=9
       ·rw [if_pos h9] at hrun;cases hrun
       rw [if_neg h9] at hrun;have b32:(rd l i == 32)=false:=by simpa using h32
       have b9:(rd l i == 9)=false:=by simpa using h9
       by_cases hd:0<deep
       ·rw [if_pos hd] at hrun;obtain ⟨u,hu⟩: ∃ u,u=setF l p i deep out:=⟨_,rfl⟩;rw [←hu] at hrun
        match u,hu,hrun with
        | some (i',deep',out'),hu,hrun=>
         replace hrun:(if i<i' then lexRun n l p i' deep' out' else none)=some fin:=hrun;by_cases hi':i<i'
         ·rw [if_pos hi'] at hrun;have hcall:=set_calls hS HL.out hcl HP.out (by have:=HPL.out;omega) hi0 hlt (by have:=HPL.out;omega) (by omega) hu.symm;have bd:decide (0<deep)=true:=dt__ hd;have HC:=Sd.m hcall;have HRUN:=Sd.m hrun;clear hS hrun h32 h9 hu hcall;go_wp2_with fail;refine HC.out.mono ?_;rintro e W2 ⟨rfl,hS2⟩;have HS:=Sd.m hS2;clear hS2;go_wp2_with fail;go_roundw
          case rel=>exact ⟨n,i',deep',out',by omega,HS.out,HRUN.out⟩
          case measure=>rw [iOf_at HS.out,HIO.out];omega
         ·rw [if_neg hi'] at hrun;cases hrun
       ·rw [if_neg hd] at hrun;obtain ⟨u,hu⟩: ∃ u,u=stepF l p i deep out:=⟨_,rfl⟩;rw [←hu] at hrun
        match u,hu,hrun with
        | some (i',deep',out'),hu,hrun=>
         replace hrun:(if i<i' then lexRun n l p i' deep' out' else none)=some fin:=hrun;by_cases hi':i<i'
         ·rw [if_pos hi'] at hrun;have hcall:=step_calls hS HL.out hcl HP.out (by have:=HPL.out;omega) hi0 hlt (by have:=HPL.out;omega) (by omega) hu.symm;have bd:decide (0<deep)=false:=df__ hd;have HC:=Sd.m hcall;have HRUN:=Sd.m hrun;clear hS hrun h32 h9 hu hcall;go_wp2_with fail;refine HC.out.mono ?_;rintro e W2 ⟨rfl,hS2⟩;have HS:=Sd.m hS2;clear hS2;go_wp2_with fail;go_roundw
          case rel=>exact ⟨n,i',deep',out',by omega,HS.out,HRUN.out⟩
          case measure=>rw [iOf_at HS.out,HIO.out];omega
         ·rw [if_neg hi'] at hrun;cases hrun
     ·rw [if_neg hlt] at hrun;by_cases hd:deep<=0
      ·rw [if_pos hd] at hrun;injection hrun with hrun;subst hrun;have bd:decide (0<deep)=false:=df__ (by omega);have d1:decide (i<(l.length:Int))=false:=df__ hlt;obtain ⟨A,c,hbx,hr,_,_,_⟩:=hS.cells;have c4:=bc_ hbx 4 rfl;have HRR:=Sd.m (R_lower hr HB.out.size);have HBB:=Sd.m (HB.out.trans (hS.B.mono HB.out.size));clear hS hbx hr;go_wp2_with fail;go_ret3;exact ⟨_,rfl,HRR.out,HBB.out⟩
      ·rw [if_neg hd] at hrun;cases hrun
  ·rw [if_neg hq] at h;cases h
def OiO (w0:World)(g:Nat)(t:List S159)(en:Int)(fin:List S87)(s9:Value)(W1:World):Prop:= ∃ n here out,0<=here∧RdAt w0 W1 g t en here∧Kd.N k87 87 W1 w0.heap.size (fun k=>w0.heap.size<=k∧k≠g) s9 out∧itemsP n t here out=some fin
def dl_.f (l0:List Int):Option (List S87 × Int × Int):=
 match dm_.f l0 with
 | some (t,_,0)=>if t.length<=1000000 then (itemsP 99 t 0 []).map (fun fin=>(fin,-1,0)) else none
 | _=>none
set_option maxHeartbeats 16000000 in
theorem dl_.calls (A0:Option Addr)(c0:Nat)(l0:List Int)(r1:List S87)(r2 r3:Int)(w:World)(hr0:Kd.C (Kd.int .u8) w A0 l0.length l0)(hc0:l0.length<=c0)(h:dl_.f l0=some (r1,r2,r3)):
  Calls Tryz.prog 52 #[.slice A0 l0.length c0] w fun e w'=> ∃ v0_:Value,e=.returned (.tuple #[v0_,.int .i64 r2,.int .i64 r3])∧Kd.N k87 87 w' w.heap.size (fun k_=>w.heap.size<=k_) v0_ r1∧Below w.heap.size w w':=by
 unfold dl_.f at h;obtain ⟨u,hu⟩: ∃ u,u=dm_.f l0:=⟨_,rfl⟩;rw [←hu] at h
 match u,hu,h with
 | some (t,wr,0),hu,h=>
  replace h:(if t.length<=1000000 then (itemsP 99 t 0 []).map (fun fin=>((fin,-1,0):List S87 × Int × Int)) else none)=some (r1,r2,r3):=h;by_cases ht:t.length<=1000000
  ·rw [if_pos ht] at h;obtain ⟨fin,hv,h⟩:=Option.map_eq_some_iff.1 h;injection h with e1 h;injection h with e2 e3;subst e1 e2 e3;have HU:=Sd.m hu.symm;have HV:=Sd.m hv;have HR0:=Sd.m hr0;clear hu hv hr0;go_enter Tryz.func52,Tryz.ntmps52;go_wp2_with fail;refine (dm_.calls A0 c0 l0 t wr 0 w HR0.out hc0 HU.out).mono ?_;rintro e w0 ⟨v0,rfl,h0,hb⟩;obtain ⟨At,ct,rfl⟩:=R_slice h0;obtain ⟨_,hct,hCt⟩:=R_reads' h0;have HB:=Sd.m hb;have HT:=Sd.m hCt;clear h0 hCt hb;have hR0:RdAt w0 (w0.alloc (.cells #[.slice At t.length ct,.int .i64 l0.length,.int .i64 0,.int .i64 0,.int .i64 0] 117)) w0.heap.size t l0.length 0:=⟨IsS117.new w0 w0 At ct t l0.length 0 0 0 (Below.refl _ _) HT.out,ab_ (Below.refl _ _) _⟩;have HRD:=Sd.m hR0;clear hR0;go_wp2_with fail;go_loopw [9] (fun s9 W1=>OiO w0 w0.heap.size t l0.length fin s9 W1) (fun _ W1=>((t.length:Int) - hereOf W1 w0.heap.size).toNat)
   case atStart=>exact ⟨99,0,[],by omega,HRD.out,N_nil _ _ _ _ _,HV.out⟩
   case round=>
    obtain ⟨n,here,out,hi0,hS,hN,hrun⟩:=hrel;obtain ⟨A9,c9,rfl⟩:=N_slice hN;have HHO:=Sd.m (ee_ hS)
    match n,hrun with
    | n+1,hrun=>
     rw [itemsP] at hrun;have c3:=hS.c3;have c4:=hS.c4;by_cases hlt:here<(t.length:Int)
     ·rw [if_pos hlt] at hrun;have d1:decide (here<(t.length:Int))=true:=dt__ hlt;have HKC:=Sd.m (bz_ hS hi0);by_cases h18:kdF t here=18
      ·rw [if_pos h18] at hrun;have b18:(kdF t here == 18)=true:=by rw [h18];decide
       have HN:=Sd.m hN;have HRUN:=Sd.m hrun;clear hS hN hrun h18;go_wp2_with fail;refine HKC.out.mono ?_;rintro e V1 ⟨rfl,hS1,hK1⟩;have c4:=hS1.c4;have f4:=hS1.f4;have w1:IntKind.i64.wrap (here+1)=here+1:=IntWalk.i64_in _ (by omega);have HS2:=Sd.m (hS1.set (here+1));have HN2:=Sd.m (N_far (p:=⟨w0.heap.size,4,none⟩) (N_keep HN.out hK1 (fun k hk=>hk.2)) (fun k hk=>hk.2) (.int .i64 (here+1)));clear hS1 hK1 c3;go_wp2_with fail;go_roundw
       case rel=>exact ⟨n,here+1,out,by omega,HS2.out,HN2.out,HRUN.out⟩
       case measure=>rw [ee_ HS2.out,HHO.out];omega
      ·rw [if_neg h18] at hrun;have b18:(kdF t here == 18)=false:=by simpa using h18
       by_cases h99:out.length<=99
       ·rw [if_pos h99] at hrun;obtain ⟨⟨x,h2⟩,hp,hrun⟩:=Option.bind_eq_some_iff.1 hrun;dsimp only at hrun;by_cases hq:here<h2∧(kdF t h2=18∨kdF t h2=0)
        ·rw [if_pos hq] at hrun;have b99:((out.length:Int) == 100)=false:=by simp;omega
         have HP:=Sd.m hp;have HN:=Sd.m hN;have HRUN:=Sd.m hrun;have HQ:=Sd.m hq;clear hS hN hrun h18 hp hq;go_wp2_with fail;refine HKC.out.mono ?_;rintro e V1 ⟨rfl,hS1,hK1⟩;have HS1:=Sd.m hS1;have HN1:=Sd.m (N_keep HN.out hK1 (fun k hk=>hk.2));clear hS1 hK1 c3;go_wp2_with fail;refine (item_calls ht HS1.out hi0 HP.out).mono ?_;rintro e V2 ⟨v,rfl,⟨A3,c3,B3,d3,rfl,l3,hF3,m3,hG3⟩,hS2,hK2⟩;have hN2:=N_keep HN1.out hK2 (fun k hk=>hk.2);have hFK:Kd.FK k87 V2 (fun k=>V1.heap.size<=k) x [.int .i64 x.f0,.string x.f1,.int .i64 x.f2,.bool x.f3,.int .i64 x.f4.f0,.string x.f4.f1,.int .i64 x.f4.f2,.int .i64 x.f4.f3,.slice A3 x.f4.f4.length c3,.int .i64 x.f5.f0,.string x.f5.f1,.int .i64 x.f5.f2,.int .i64 x.f5.f3,.slice B3 x.f5.f4.length d3,.int .i64 x.f6]:=k87_mkF V2 _ x l3 hF3 m3 hG3;have hlt1:w0.heap.size<V1.heap.size:=HS1.out.lt;have hsz:V1.heap.size<=V2.heap.size:=hK2.1;have HS2:=Sd.m hS2;have HN2:=Sd.m hN2;have HFK:=Sd.m hFK;have HOK:=Sd.m (show ∀ k,V1.heap.size<=k->(w0.heap.size<=k∧k≠w0.heap.size)∧some k≠(Value.slice A9 out.length c9).ownBlock from fun k hk=>⟨⟨by omega,by omega⟩,fun e=>by have:=N_lt HN1.out k e.symm;omega⟩);have HFR:=Sd.m (show ∀ k,V2.heap.size<=k->w0.heap.size<=k∧k≠w0.heap.size from fun k hk=>⟨by omega,by omega⟩);have HML:=Sd.m (show (out.length+1)*176<=140737488355328 by omega);have HSZ:=Sd.m hsz;have HL1:=Sd.m hlt1;clear hN2 hFK hF3 hG3 hS2 hK2 hsz hlt1;go_upto_region 12 with (at_builtin;refine N_append k87 (w0:=w0) (W:=V2) w0.heap.size rfl _ _ 24 87 (.agg #[.int .i64 0,.string ⟨#[]⟩,.int .i64 0,.bool false,.int .i64 0,.string ⟨#[]⟩,.int .i64 0,.int .i64 0,.slice none 0 0,.int .i64 0,.string ⟨#[]⟩,.int .i64 0,.int .i64 0,.slice none 0 0,.int .i64 0]) 176 rfl Tryz.underlying24 (by kernel_rfl) rfl (by decide) (by decide) (.slice A9 out.length c9) out x [.int .i64 x.f0,.string x.f1,.int .i64 x.f2,.bool x.f3,.int .i64 x.f4.f0,.string x.f4.f1,.int .i64 x.f4.f2,.int .i64 x.f4.f3,.slice A3 x.f4.f4.length c3,.int .i64 x.f5.f0,.string x.f5.f1,.int .i64 x.f5.f2,.int .i64 x.f5.f3,.slice B3 x.f5.f4.length d3,.int .i64 x.f6] (fun k=>w0.heap.size<=k∧k≠w0.heap.size) (fun k=>V1.heap.size<=k) rfl rfl HFK.out HOK.out HFR.out HN2.out HS2.out.2 HS2.out.2.size HML.out ?_;intro v5 V5 hNx hB5 hg5 hat5;have HNX:=Sd.m hNx;have HG5:=Sd.m hg5;have HB5:=Sd.m hB5;clear hNx hg5 hB5 hat5);have hne5:some w0.heap.size≠(Value.slice A9 out.length c9).ownBlock:=fun e=>(N_away HN2.out (g:=w0.heap.size) (fun k hk=>hk.2)) e;have hS5:RdAt w0 V5 w0.heap.size t l0.length h2:=⟨HS2.out.1.grown HG5.out hne5,HB5.out⟩;have c3_:=hS5.c3;have h20:0<=h2:=by have:=HQ.out.1;omega
         have hkc:=bz_ hS5 h20;have HKC5:=Sd.m hkc;clear hkc hS5 hne5;obtain ⟨hq1,hq2⟩:=HQ.out;rcases hq2 with k18 | k00
         ·have b1:(kdF t h2 != 18)=false:=by rw [k18];decide
          clear k18;go_wp2_with fail;refine HKC5.out.mono ?_;rintro e V6 ⟨rfl,hS6,hK6⟩;have HS6:=Sd.m hS6;have HN6:=Sd.m (N_keep HNX.out hK6 (fun k hk=>hk.2));clear hS6 hK6 c3_;go_wp2_with fail;go_roundw
          case rel=>exact ⟨n,h2,out ++ [x],h20,HS6.out,HN6.out,HRUN.out⟩
          case measure=>rw [ee_ HS6.out,HHO.out];omega
         ·have b1:(kdF t h2 != 18)=true:=by rw [k00];decide
          have b2:(kdF t h2 != 0)=false:=by rw [k00];decide
          clear k00;go_wp2_with fail;refine HKC5.out.mono ?_;rintro e V6 ⟨rfl,hS6,hK6⟩;have HS6:=Sd.m hS6;have HN6:=Sd.m (N_keep HNX.out hK6 (fun k hk=>hk.2));clear hS6 hK6 c3_;go_wp2_with fail;refine (bz_ HS6.out h20).mono ?_;rintro e V7 ⟨rfl,hS7,hK7⟩;have HS7:=Sd.m hS7;have HN7:=Sd.m (N_keep HN6.out hK7 (fun k hk=>hk.2));clear hS7 hK7;go_wp2_with fail;go_roundw
          case rel=>exact ⟨n,h2,out ++ [x],h20,HS7.out,HN7.out,HRUN.out⟩
          case measure=>rw [ee_ HS7.out,HHO.out];omega
        ·rw [if_neg hq] at hrun;cases hrun
       ·rw [if_neg h99] at hrun;cases hrun
     ·rw [if_neg hlt] at hrun;injection hrun with hrun;subst hrun;have d1:decide (here<(t.length:Int))=false:=df__ hlt;have HRR:=Sd.m (N_lower (N_mono hN (ok':=fun k=>w.heap.size<=k) (fun k hk=>by have:=HB.out.size;omega)) HB.out.size);have HBB:=Sd.m (HB.out.trans (hS.2.mono HB.out.size));clear hS hN;go_wp2_with fail;go_ret3;exact ⟨_,rfl,HRR.out,HBB.out⟩
  ·rw [if_neg ht] at h;cases h
open L B
theorem bd_name (W0:World)(x:S87)(p:S45)(hx0:x.f0=1)(hx4:x.f4.f0=4)
  (hw: ∀ (W:World) (A:Option Addr) (c:Nat),x.f4.f4.length<=c->Kd.C k85 W A x.f4.f4.length x.f4.f4->Calls Tryz.prog 135 #[.agg (NdC x.f4 A c),.slice none 0 0] W (PatAns W (fun _=>False) p)):
  OneStep W0 x [] [⟨x.f1,p,true,x.f6⟩] [] []:=by
 intro W Q AV cv AR cr A c B d hb hcv hV hcr hR hA hC hB hD;obtain ⟨rfl,rfl⟩:=hcv.2 rfl;obtain ⟨rfl,rfl⟩:=hcr.2 rfl;refine (one_name W x A c B d p hx0 hx4 (fun W' hb'=>hw W' A c hA (Kd.C_below hC hb'))).mono ?_;rintro e w' ⟨A1,c1,rfl,h1,hF,hb1⟩;exact ⟨A1,c1,none,0,rfl,⟨h1,fun h=>by cases h⟩,F_mono hF (fun k hk=>Or.inr hk),⟨Nat.le_refl _,fun _=>⟨rfl,rfl⟩⟩,F_nil _ _ _,hb1⟩
theorem bd_rule1 (W0:World)(x:S87)(v:S93)(p1 p2:S45)(hx0:x.f0=2)(kk:Nat)(hf:bp_.f kk [v] [] [] [] x.f2=some (-1))
  (h1: ∀ (W:World) (P:Nat->Prop) (AV:Option Addr) (cv:Nat) (A:Option Addr) (c:Nat),1<=cv->Kd.F k93 W P AV 1 [v]->x.f4.f4.length<=c->Kd.C k85 W A x.f4.f4.length x.f4.f4->Calls Tryz.prog 135 #[.agg (NdC x.f4 A c),.slice AV 1 cv] W (PatAns W P p1))
  (h2: ∀ (W:World) (P:Nat->Prop) (AV:Option Addr) (cv:Nat) (A:Option Addr) (c:Nat),1<=cv->Kd.F k93 W P AV 1 [v]->x.f5.f4.length<=c->Kd.C k85 W A x.f5.f4.length x.f5.f4->Calls Tryz.prog 135 #[.agg (NdC x.f5 A c),.slice AV 1 cv] W (PatAns W P p2)):
  OneStep W0 x [v] [v] [] [⟨x.f2,x.f3,p1,p2,x.f6⟩]:=by
 intro W Q AV cv AR cr A c B d hb hcv hV hcr hR hA hC hB hD;obtain ⟨rfl,rfl⟩:=hcr.2 rfl;have hV': ∀ W',Below W.heap.size W W'->Kd.F k93 W' (fun j=>(Q j∧j<W.heap.size)∧j<W.heap.size) AV 1 [v]:=fun W' hb'=>F_mono (F_below (F_bound hV) hb') (fun j hj=>⟨hj,hj.2⟩);refine (one_rule W (fun k=>Q k∧k<W.heap.size) x A c B d p1 p2 [v] AV cv hcv.1 (F_now hV) [] none 0 (Nat.le_refl _) (C_nil _ _) (by decide) [⟨x.f2,x.f3,p1,p2,x.f6⟩] hx0 kk hf
  (fun W' hb'=>h1 W' _ AV cv A c hcv.1 (hV' W' hb') hA (Kd.C_below hC hb')) (fun W' hb'=>h2 W' _ AV cv B d hcv.1 (hV' W' hb') hB (Kd.C_below hD hb')) (fun W' a3 b3 a4 b4 a5 b5 a7 b7 a8 b8 a9 b9 hb' hsz hFK=>?_)).mono ?_
 ·refine (put_first W' ⟨x.f2,x.f3,p1,p2,x.f6⟩ a3 b3 a4 b4 a5 b5 a7 b7 a8 b8 a9 b9 _ hFK).mono ?_;rintro e w' ⟨A1,c1,rfl,h3,hF,hb1⟩;exact ⟨A1,c1,rfl,h3,F_mono hF (fun k hk=>Or.elim hk (fun h=>h.1) (fun h=>Or.inr (Nat.le_trans hsz h))),hb1⟩
 ·rintro e w' ⟨A1,c1,rfl,h3,hF,hb1⟩;exact ⟨AV,cv,A1,c1,rfl,hcv,F_mono (F_below (F_bound hV) hb1) (fun k hk=>Or.inl hk),⟨h3,fun h=>by cases h⟩,hF,hb1⟩
theorem bd_rule2 (W0:World)(x:S87)(v:S93)(r:S55)(p1 p2:S45)(hx0:x.f0=2)(hlt:r.f0<x.f2)(kk:Nat)(hf:bp_.f kk [v] [r] [] [] x.f2=some (-1))
  (h1: ∀ (W:World) (P:Nat->Prop) (AV:Option Addr) (cv:Nat) (A:Option Addr) (c:Nat),1<=cv->Kd.F k93 W P AV 1 [v]->x.f4.f4.length<=c->Kd.C k85 W A x.f4.f4.length x.f4.f4->Calls Tryz.prog 135 #[.agg (NdC x.f4 A c),.slice AV 1 cv] W (PatAns W P p1))
  (h2: ∀ (W:World) (P:Nat->Prop) (AV:Option Addr) (cv:Nat) (A:Option Addr) (c:Nat),1<=cv->Kd.F k93 W P AV 1 [v]->x.f5.f4.length<=c->Kd.C k85 W A x.f5.f4.length x.f5.f4->Calls Tryz.prog 135 #[.agg (NdC x.f5 A c),.slice AV 1 cv] W (PatAns W P p2)):
  OneStep W0 x [v] [v] [r] [r,⟨x.f2,x.f3,p1,p2,x.f6⟩]:=by
 intro W Q AV cv AR cr A c B d hb hcv hV hcr hR hA hC hB hD;have hV': ∀ W',Below W.heap.size W W'->Kd.F k93 W' (fun j=>(Q j∧j<W.heap.size)∧j<W.heap.size) AV 1 [v]:=fun W' hb'=>F_mono (F_below (F_bound hV) hb') (fun j hj=>⟨hj,hj.2⟩);refine (one_rule W (fun k=>Q k∧k<W.heap.size) x A c B d p1 p2 [v] AV cv hcv.1 (F_now hV) [r] AR cr hcr.1 (F_now hR) (Nat.le_of_ble_eq_true rfl) [r,⟨x.f2,x.f3,p1,p2,x.f6⟩] hx0 kk hf
  (fun W' hb'=>h1 W' _ AV cv A c hcv.1 (hV' W' hb') hA (Kd.C_below hC hb')) (fun W' hb'=>h2 W' _ AV cv B d hcv.1 (hV' W' hb') hB (Kd.C_below hD hb')) (fun W' a3 b3 a4 b4 a5 b5 a7 b7 a8 b8 a9 b9 hb' hsz hFK=>?_)).mono ?_
 ·refine (put_second W' ⟨x.f2,x.f3,p1,p2,x.f6⟩ a3 b3 a4 b4 a5 b5 a7 b7 a8 b8 a9 b9 _ hFK r AR cr hcr.1 (F_mono (F_below (F_bound hR) hb') (fun j hj=>Or.inl ⟨hj,hj.2⟩)) hlt).mono ?_;rintro e w' ⟨A1,c1,rfl,h3,hF,hb1⟩;exact ⟨A1,c1,rfl,h3,F_mono hF (fun k hk=>Or.elim hk (fun h=>h.1) (fun h=>Or.inr (Nat.le_trans hsz h))),hb1⟩
 ·rintro e w' ⟨A1,c1,rfl,h3,hF,hb1⟩;exact ⟨AV,cv,A1,c1,rfl,hcv,F_mono (F_below (F_bound hV) hb1) (fun k hk=>Or.inl hk),⟨h3,fun h=>by cases h⟩,hF,hb1⟩
theorem read_by (W:World)(A0:Option Addr)(c0:Nat)(b:List Int)(its:List S87)(hC0:Kd.C (Kd.int .u8) W A0 b.length b)(hc0:b.length<=c0)(hit:dl_.f b=some (its,-1,0))
  (vv:S93) (LRn:List S55)
  (hbd: ∀ (W':World) (A:Option Addr) (c:Nat),its.length<=c->Kd.C k87 W' A its.length its->Calls Tryz.prog 71 #[.slice A its.length c] W' fun e w'=> ∃ AV cv AR cr AU cu,e=.returned (.tuple #[.agg #[.slice AV 1 cv,.slice AR LRn.length cr,.slice none 0 0,.slice AU 1 cu],.int .i64 (-1),.int .i64 0])∧1<=cv∧LRn.length<=cr∧1<=cu∧Kd.F k93 w' (fun j=>W'.heap.size<=j) AV 1 [vv]∧Kd.F k55 w' (fun j=>W'.heap.size<=j) AR LRn.length LRn∧Kd.F Kd.string w' (fun j=>W'.heap.size<=j) AU 1 [vv.f0]∧Below W'.heap.size W' w'):
  Calls Tryz.prog 39 #[.slice A0 b.length c0] W fun e w'=> ∃ AV cv AR cr AU cu,e=.returned (.tuple #[.agg #[.slice AV 1 cv,.slice AR LRn.length cr,.slice none 0 0,.slice AU 1 cu],.int .i64 (-1),.int .i64 0])∧1<=cv∧LRn.length<=cr∧1<=cu∧Kd.F k93 w' (fun j=>W.heap.size<=j) AV 1 [vv]∧Kd.F k55 w' (fun j=>W.heap.size<=j) AR LRn.length LRn∧Kd.F Kd.string w' (fun j=>W.heap.size<=j) AU 1 [vv.f0]∧Below W.heap.size W w':=by
 obtain ⟨W1,hW1⟩: ∃ W_,W_=W.alloc (.cells #[.slice none 0 0,.slice none 0 0,.slice none 0 0,.slice none 0 0] 27):=⟨_,rfl⟩;have hb1:Below W.heap.size W W1:=by rw [hW1];exact ab_ (Below.refl W.heap.size W) _
 have hs1:W1.heap.size=W.heap.size+1:=by rw [hW1];exact Array.size_push _
 have hr1:W1.heap[W.heap.size]? =some (.cells #[.slice none 0 0,.slice none 0 0,.slice none 0 0,.slice none 0 0] 27 (0,0)):=by rw [hW1];exact aj_ W _
 have HOF:=Sd.m (dl_.calls A0 c0 b its (-1) 0 W1 (Kd.C_below hC0 hb1) hc0 hit);have HB1:=Sd.m hb1;have HS1:=Sd.m hs1;have HR1:=Sd.m hr1;have HBD:=Sd.m hbd;clear hb1 hs1 hr1 hC0 hit hbd;go_enter Tryz.func39,Tryz.ntmps39;go_wp2_with fail;rw [←hW1];clear hW1;refine HOF.out.mono ?_;rintro e V ⟨v,rfl,hN,hb⟩;obtain ⟨A,c,rfl⟩:=N_slice hN;obtain ⟨_,hc,hF⟩:=N_reads' hN;have HV:=Sd.m hb;have HC:=Sd.m (HBD.out V A c hc hF);clear hN hF hb;go_wp2_with fail;refine HC.out.mono ?_;rintro e V1 ⟨AV,cv,AR,cr,AU,cu,rfl,h1,h2,h3,hF1,hF2,hF3,hb⟩;have hr:=ag_ HR1.out (HV.out.trans (hb.mono HV.out.size));have hB:Below W.heap.size W V1:=HB1.out.trans ((HV.out.trans (hb.mono HV.out.size)).mono HB1.out.size);have hs:W.heap.size+1<=V.heap.size:=by have:=HS1.out;have:=HV.out.size;omega
 have n0:=bc_ hr 0 rfl;have m0:=aa_ hr 0;have n1:=bc_ hr 1 rfl;have m1:=aa_ hr 1;have n2:=bc_ hr 2 rfl;have m2:=aa_ hr 2;have n3:=bc_ hr 3 rfl;have m3:=aa_ hr 3;obtain ⟨V5,hV5⟩: ∃ W_,W_=putL V1 W.heap.size 0 [.slice AV 1 cv,.slice AR LRn.length cr,.slice none 0 0,.slice AU 1 cu]:=⟨_,rfl⟩;have hr5:V5.heap[W.heap.size]? =some (.cells #[.slice AV 1 cv,.slice AR LRn.length cr,.slice none 0 0,.slice AU 1 cu] 27 (0,0)):=by rw [hV5];exact cx_ _ V1 0 _ hr
 have hb5:Below W.heap.size W V5:=by rw [hV5];exact cn_ (Nat.le_refl _) _ _ _ hB
 have ok1: ∀ j,V.heap.size<=j->j≠W.heap.size:=fun j hj=>by omega
 have ok2: ∀ j,V.heap.size<=j->W.heap.size<=j:=fun j hj=>by omega
 have h5:Kd.F k93 V5 (fun j=>W.heap.size<=j) AV 1 [vv]:=by rw [hV5];exact F_mono (ci_ ok1 _ _ _ hF1) ok2
 have h6:Kd.F k55 V5 (fun j=>W.heap.size<=j) AR LRn.length LRn:=by rw [hV5];exact F_mono (ci_ ok1 _ _ _ hF2) ok2
 have h7:Kd.F Kd.string V5 (fun j=>W.heap.size<=j) AU 1 [vv.f0]:=by rw [hV5];exact F_mono (ci_ ok1 _ _ _ hF3) ok2
 replace hV5:V5=(((V1.setCell ⟨W.heap.size,0,none⟩ (.slice AV 1 cv)).setCell ⟨W.heap.size,1,none⟩ (.slice AR LRn.length cr)).setCell ⟨W.heap.size,2,none⟩ (.slice none 0 0)).setCell ⟨W.heap.size,3,none⟩ (.slice AU 1 cu):=hV5;have HR5:=Sd.m hr5;have HB5:=Sd.m hb5;have H5:=Sd.m h5;have H6:=Sd.m h6;have H7:=Sd.m h7;have HV5:=Sd.m hV5;clear hr hB hs hr5 hb5 ok1 ok2 h5 h6 h7 hV5 hF1 hF2 hF3 hb;go_wp2_with fail;rw [←HV5.out];refine bodyPost_ret (jn_ rfl _ _ W.heap.size 27 #[.slice AV 1 cv,.slice AR LRn.length cr,.slice none 0 0,.slice AU 1 cu] (0,0) _ rfl HR5.out Tryz.underlying27 rfl (by kernel_rfl)) rfl ?_;exact ⟨AV,cv,AR,cr,AU,cu,rfl,h1,h2,h3,H5.out,H6.out,H7.out,HB5.out⟩
end LX
namespace P
open A L B
theorem plain_a:ax_.f [⟨97,99⟩]=some [⟨97,99⟩]:=by
 have h:orF [⟨97,99⟩] []=[⟨97,99⟩]:=by
  refine ew_ ⟨by simp [Can],fun c h0 h1=>Bool.eq_iff_iff.mpr ?_⟩;simp [Mem,inR,hasB]
 unfold ax_.f bs_.f;rw [h];rfl
theorem plain_b:ax_.f [⟨98,98⟩]=some [⟨98,98⟩]:=by
 have h:orF [⟨98,98⟩] []=[⟨98,98⟩]:=by
  refine ew_ ⟨by simp [Can],fun c h0 h1=>Bool.eq_iff_iff.mpr ?_⟩;simp [Mem,inR,hasB]
 unfold ax_.f bs_.f;rw [h];rfl
theorem or_a:bs_.f [] [⟨97,99⟩]=some [⟨97,99⟩]:=by
 have h:orF [] [⟨97,99⟩]=[⟨97,99⟩]:=by
  refine ew_ ⟨by simp [Can],fun c h0 h1=>Bool.eq_iff_iff.mpr ?_⟩;simp [Mem,inR,hasB]
 unfold bs_.f;rw [h]
theorem or_b:bs_.f [] [⟨98,98⟩]=some [⟨98,98⟩]:=by
 have h:orF [] [⟨98,98⟩]=[⟨98,98⟩]:=by
  refine ew_ ⟨by simp [Can],fun c h0 h1=>Bool.eq_iff_iff.mpr ?_⟩;simp [Mem,inR,hasB]
 unfold bs_.f;rw [h]
end P
namespace LX
open Shelf YthfceiincmkccaaGreatW.PrintWords.Kd A K L B P
def lit:List Int:=[36,97,61,91,97,45,99,93,10,51,32,36,97,32,195,151,32,91,98,93,42,10,52,32,36,97,32,195,183]
def ndR (lo hi:Int):S85:=⟨5,⟨#[]⟩,lo,hi,[]⟩
def ndS (k:S85):S85:=⟨4,⟨#[]⟩,0,0,[k]⟩
def ndA:S85:=⟨2,⟨#[97]⟩,0,0,[]⟩
def ndB:S85:=⟨10,⟨#[]⟩,0,0,[ndS (ndR 98 98)]⟩
def ndE:S85:=⟨1,⟨#[]⟩,0,0,[]⟩
def itA:S87:=⟨1,⟨#[97]⟩,0,false,ndS (ndR 97 99),⟨0,⟨#[]⟩,0,0,[]⟩,0⟩
def itB:S87:=⟨2,⟨#[]⟩,3000,false,ndA,ndB,9⟩
def itC:S87:=⟨2,⟨#[]⟩,4000,true,ndA,ndE,22⟩
theorem lit_items:dl_.f lit=some ([itA,itB,itC],-1,0):=by kernel_rfl
def pA:S45:=⟨2,[⟨97,99⟩],[],[]⟩
def pB:S45:=⟨5,[],[],[⟨2,[⟨98,98⟩],[],[]⟩]⟩
def pE:S45:=⟨1,[],[],[]⟩
def vA:S93:=⟨⟨#[97]⟩,pA,true,0⟩
def rB:S55:=⟨3000,false,pA,pB,9⟩
def rC:S55:=⟨4000,true,pA,pE,22⟩
theorem whole_ndS (lo hi:Int)(hp:ax_.f [⟨lo,hi⟩]=some [⟨lo,hi⟩])(ho:bs_.f [] [⟨lo,hi⟩]=some [⟨lo,hi⟩])(W:World)(P:Nat->Prop)(A:Option Addr)(c:Nat)(vl:Value)(hk:Kd.C k85 W A 1 [ndR lo hi]):
  Calls Tryz.prog 170 #[.agg (NdC (ndS (ndR lo hi)) A c),vl] W (PatAns W P ⟨2,[⟨lo,hi⟩],[],[]⟩):=by
 refine whole_set W P ⟨#[]⟩ 0 (.slice A 1 c) vl [⟨lo,hi⟩] fun W' hb=>?_;refine set8_one (ndR lo hi) [⟨lo,hi⟩] [⟨lo,hi⟩] ho (Nat.le_of_ble_eq_true rfl) W' A c 0 ⟨#[]⟩ vl (Kd.C_below hk hb) fun W2 A4 c4 _ _=>?_;exact set8_range lo hi [⟨lo,hi⟩] hp (Nat.le_of_ble_eq_true rfl) W2 A4 c4 ⟨#[]⟩ vl
theorem exp_A (W:World)(P:Nat->Prop)(AV:Option Addr)(cv:Nat)(A:Option Addr)(c:Nat)(hcv:1<=cv)(hV:Kd.F k93 W P AV 1 [vA]):Calls Tryz.prog 135 #[.agg (NdC ndA A c),.slice AV 1 cv] W (PatAns W P pA):=by
 refine fl_ W P ndA A c (.slice AV 1 cv) pA (fun W' hb=>?_) 5 1 (by kernel_rfl) (by decide);exact whole_name W' (fun j=>P j∧j<W.heap.size) vA AV cv hcv (F_below (F_bound hV) hb) 5 ⟨#[97]⟩ (by kernel_rfl) 0 0 (.slice A 0 c)
theorem exp_S (lo hi:Int)(hp:ax_.f [⟨lo,hi⟩]=some [⟨lo,hi⟩])(ho:bs_.f [] [⟨lo,hi⟩]=some [⟨lo,hi⟩])(W:World)(P:Nat->Prop)(A:Option Addr)(c:Nat)(vl:Value)(hk:Kd.C k85 W A 1 [ndR lo hi]):Calls Tryz.prog 135 #[.agg (NdC (ndS (ndR lo hi)) A c),vl] W (PatAns W P ⟨2,[⟨lo,hi⟩],[],[]⟩):=by
 refine fl_ W P (ndS (ndR lo hi)) A c vl ⟨2,[⟨lo,hi⟩],[],[]⟩ (fun W' hb=>?_) 5 1 (by kernel_rfl) (by decide);exact whole_ndS lo hi hp ho W' _ A c vl (Kd.C_below hk hb)
theorem exp_B (W:World)(P:Nat->Prop)(A:Option Addr)(c:Nat)(vl:Value)(hk:Kd.C k85 W A 1 [ndS (ndR 98 98)]):Calls Tryz.prog 135 #[.agg (NdC ndB A c),vl] W (PatAns W P pB):=by
 refine fl_ W P ndB A c vl pB (fun W' hb=>?_) 9 2 (by kernel_rfl) (by decide);refine whole_star W' (fun j=>P j∧j<W.heap.size) (ndS (ndR 98 98)) ⟨2,[⟨98,98⟩],[],[]⟩ ⟨#[]⟩ 0 0 A c vl (Kd.C_below hk hb) fun W2 A4 c4 hb2 h4 hC4=>?_;exact whole_ndS 98 98 plain_b or_b W2 _ A4 c4 vl hC4
theorem exp_E (W:World)(P:Nat->Prop)(A:Option Addr)(c:Nat)(vl:Value):Calls Tryz.prog 135 #[.agg (NdC ndE A c),vl] W (PatAns W P pE):=by
 refine fl_ W P ndE A c vl pE (fun W' hb=>?_) 5 1 (by kernel_rfl) (by decide);exact whole_empty W' _ ⟨#[]⟩ 0 0 (.slice A 0 c) vl
def bLV (k:Int):List S93:=if k<=0 then [] else [vA]
def bLR (k:Int):List S55:=if k<=1 then [] else if k<=2 then [rB] else [rB,rC]
def bNM (k:Int):List ByteArray:=if k<=1 then [] else if k<=2 then [⟨#[97]⟩] else [⟨#[97]⟩,⟨#[97]⟩]
def bNA (k:Int):List ByteArray:=if k<=0 then [] else [⟨#[97]⟩]
theorem three {p:Int->Prop}(h0:p 0)(h1:p 1)(h2:p 2): ∀ k:Int,0<=k->k<(([itA,itB,itC]:List S87).length:Int)->p k:=by
 intro k ha hb;have hb':k<3:=hb;obtain rfl | rfl | rfl:k=0∨k=1∨k=2:=by omega
 ·exact h0
 ·exact h1
 ·exact h2
theorem lit_build (W:World)(A0:Option Addr)(c0:Nat)(hc0:3<=c0)(hl:Kd.C k87 W A0 3 [itA,itB,itC]):
  Calls Tryz.prog 71 #[.slice A0 3 c0] W fun e w'=> ∃ AV cv AR cr AU cu,e=.returned (.tuple #[.agg #[.slice AV 1 cv,.slice AR 2 cr,.slice none 0 0,.slice AU 1 cu],.int .i64 (-1),.int .i64 0])∧1<=cv∧2<=cr∧1<=cu∧Kd.F k93 w' (fun j=>W.heap.size<=j) AV 1 [vA]∧Kd.F k55 w' (fun j=>W.heap.size<=j) AR 2 [rB,rC]∧Kd.F Kd.string w' (fun j=>W.heap.size<=j) AU 1 [vA.f0]∧Below W.heap.size W w':=by
 refine build_loop W [itA,itB,itC] A0 c0 hc0 hl (by decide) bLV bLR bNM rfl rfl rfl (three ?_ ?_ ?_) bNA (fun _=>[]) (three ⟨9,?_⟩ ⟨9,?_⟩ ⟨9,?_⟩) (three ⟨9,?_⟩ ⟨9,?_⟩ ⟨9,?_⟩) (three ?_ ?_ ?_) vA rfl 9 ?_ (three ?_ ?_ ?_)
 ·exact bd_name W itA pA rfl rfl fun W' A c hA hC=>exp_S 97 99 plain_a or_a W' _ A c _ hC
 ·exact bd_rule1 W itB vA pA pB rfl 9 (by kernel_rfl) (fun W' P AV cv A c hcv hV _ _=>exp_A W' P AV cv A c hcv hV) (fun W' P AV cv A c hcv hV _ hC=>exp_B W' P A c _ hC)
 ·exact bd_rule2 W itC vA rB pA pE rfl (by decide) 9 (by kernel_rfl) (fun W' P AV cv A c hcv hV _ _=>exp_A W' P AV cv A c hcv hV) (fun W' P AV cv A c hcv hV _ hC=>exp_E W' P A c _)
 all_goals first | kernel_rfl | exact ⟨rfl,by decide⟩ | decide
theorem lit_read (W:World)(A0:Option Addr)(c0:Nat)(hC0:Kd.C (Kd.int .u8) W A0 29 lit)(hc0:29<=c0):
  Calls Tryz.prog 39 #[.slice A0 29 c0] W fun e w'=> ∃ AV cv AR cr AU cu,e=.returned (.tuple #[.agg #[.slice AV 1 cv,.slice AR 2 cr,.slice none 0 0,.slice AU 1 cu],.int .i64 (-1),.int .i64 0])∧1<=cv∧2<=cr∧1<=cu∧Kd.F k93 w' (fun j=>W.heap.size<=j) AV 1 [vA]∧Kd.F k55 w' (fun j=>W.heap.size<=j) AR 2 [rB,rC]∧Kd.F Kd.string w' (fun j=>W.heap.size<=j) AU 1 [vA.f0]∧Below W.heap.size W w':=
 read_by W A0 c0 lit [itA,itB,itC] hC0 hc0 lit_items vA [rB,rC] fun W' A c hc hC=>lit_build W' A c hc hC
theorem N_store_step {P:Program}{ops:Array Oper}{o:Oper}{a:Act}{W:World}{K:Act->World->Prop}{Q:Exit->Act->World->Prop}{E:Prop}{α:Type}(d:Kd α)(base:Nat)(hN:o.dst=none)(hgd:o.guard=none)(t:TypeId)(p x:Operand)(ho:o.op=.store t p x)(e:TypeId){g n cap o':Nat}(i:Int)(j:Nat)(xs:List α)(x':α)(u:Value)(seg c:List Value)(ok okp:Nat->Prop)
  (haddr:a.eval p=.pointer (some ⟨g,o',none⟩)) (hoff:o'=i.toNat*d.sz+j) (hx:a.eval x=u) (hu:u.cells.toList=seg) (ht:(P.info? t).map (·.size)=some seg.length) (h1: ∀ q∈seg,q.oneCell'=true)
  (HO:Kd.N d e W base ok (.slice (some ⟨g,0,none⟩) n cap) xs) (h0:0<=i) (hi:i<n) (hcl:c.length=d.sz) (hcc: ∀ j u,c[j]? =some u->W.cell? ⟨g,i.toNat*d.sz+j,none⟩=some u)
  (hj:j+seg.length<=d.sz) (hM:Kd.FK d W okp x' (c.take j ++ seg ++ c.drop (j+seg.length))) (hokp: ∀ k,okp k->ok k∧k≠g)
  (h: ∀ w1,Kd.N d e w1 base ok (.slice (some ⟨g,0,none⟩) n cap) (xs.set i.toNat x')->W.grownBy w1 (some g)->K a w1):
  if Region.wanted o (yielded ops a.tmps)=true then Oper.wp P o a W K Q else E:=by
 have hw:Region.wanted o (yielded ops a.tmps)=true:=by simp [Region.wanted,hgd]
 rw [if_pos hw];subst hoff;obtain ⟨hrow,hg⟩:=N_seg HO i h0 hi hcl hcc hj hM hokp;have hnx:n=xs.length:=(N_reads' HO).1;obtain ⟨hown,rows,hl,hR,hf⟩:=HO;obtain ⟨_,inner,hown2,hr⟩:=hR;have hil:i.toNat<n:=by omega
 have hrun:(Instr.storeAt t (.pointer (some ⟨g,i.toNat*d.sz+j,none⟩)) u).run P W=.ok () (W.setCells g (i.toNat*d.sz+j) seg):=by
  rcases hown2.2 with ⟨hv,_⟩ | ⟨g',cap',cur,hv,hb,hh,hnc,hcm,hcs,_⟩
  ·cases hv
  injection hv with ha _ hc;injection ha with ha;injection ha with hg';subst hg';subst hc;refine lp_ t u seg hh hu ht ?_ h1;have h2:i.toNat*d.sz+d.sz<=n*d.sz:=by rw [←Nat.succ_mul];exact Nat.mul_le_mul_right _ hil
  have h3:n*d.sz<=cap*d.sz:=Nat.mul_le_mul_right _ (by omega);have h4:cap*d.sz=cap*(raw d.sz).sz:=rfl;omega
 unfold Oper.wp execOp;simp only [ho,haddr,hx,Sem.run_bind,Sem.run_pure,Result.andThen_ok,hrun];show K (a.put o.dst undef) _;rw [hN];exact h _ hrow hg
theorem run_eql23 (w:World)(a:Option Addr)(l c:Nat):(binOp .eql 23 (.slice a l c) (.slice none 0 0)).run Tryz.prog w=.ok (.bool a.isNone) w:=by
 simp only [binOp];simp [run_equal_slice_nil w 23 55 a l c Tryz.underlying23]
attribute [local go_sem] run_eql23
section
attribute [-go_sem] Builtin.append_
theorem clone_calls (W:World)(A:Option Addr)(l:List S55)(c:Nat)(hc:l.length<=c)(okp:Nat->Prop)(hF:Kd.F k55 W okp A l.length l)(hl:l.length<=1000000):
  Calls Tryz.prog 63 #[.slice A l.length c] W fun e w'=> ∃ v,e=.returned v∧Kd.N k55 55 w' W.heap.size (fun k=>(okp k∧k<W.heap.size)∨W.heap.size<=k) v l∧Below W.heap.size W w':=by
 cases A with
 | none=>
  have h0:l=[]:=by
   refine List.eq_nil_of_length_eq_zero ?_;by_cases h:0<l.length
   ·obtain ⟨ad,e,_⟩:=(F_now hF).2.2 h;cases e
   ·omega
  subst h0;go_enter Tryz.func63,Tryz.ntmps63;go_wp2_with fail;go_ret;exact ⟨_,rfl,N_nil _ _ _ _ _,Below.refl _ _⟩
 | some ad=>
  obtain ⟨W1,hW1⟩: ∃ W_,W_=W.alloc (.cells #[] 55):=⟨_,rfl⟩;have hb1:Below W.heap.size W W1:=by rw [hW1];exact ab_ (Below.refl W.heap.size W) _
  have hn1:W1.heap[W.heap.size]? =some (.cells #[] 55 (0,0)):=by rw [hW1];exact aj_ W _
  have hN:=N_empty k55 hn1 W.heap.size (Nat.le_refl _) (fun k=>(okp k∧k<W.heap.size)∨W.heap.size<=k) (Or.inr (Nat.le_refl _));obtain ⟨v1,w1,hrun,hN1,hg,_⟩:=es_ (P:=Tryz.prog) k55 (W:=W1) W.heap.size 23 23 55 (.agg #[.int .i64 0,.bool false,.int .i64 0,.slice none 0 0,.slice none 0 0,.slice none 0 0,.int .i64 0,.slice none 0 0,.slice none 0 0,.slice none 0 0,.int .i64 0]) 184 Tryz.underlying23 (by kernel_rfl) rfl (by decide) (by decide) (.slice (some ⟨W.heap.size,0,none⟩) 0 0) [] l (some ad) l.length c (fun k=>(okp k∧k<W.heap.size)∨W.heap.size<=k) (fun k=>okp k∧k<W.heap.size) hN (F_below (F_bound hF) hb1) (fun k hk=>⟨Or.inl hk,fun e=>by
    have:W.heap.size=k:=by simpa [Value.ownBlock] using e.symm
    have:=hk.2;omega⟩) (fun k hk=>Or.inr (Nat.le_trans hb1.size hk)) hb1.size (by simp;omega)
  have HN:=Sd.m hN1;have HB:=Sd.m (hb1.grown hg hb1.size (fun k hk=>by
    have:W.heap.size=k:=by simpa [Value.ownBlock] using hk
    omega))
  rw [hW1] at hrun;have e1:(([]:List S55) ++ l)=l:=rfl;rw [e1] at HN;clear hb1 hn1 hN hg hW1 hN1 e1;go_enter Tryz.func63,Tryz.ntmps63;go_wp2_with fail;go_ret;exact ⟨_,rfl,HN.out,HB.out⟩
end
open Go.Proofs.YthfceiincmkccaaGreat.P (withinF hm_)
theorem tell_no (L:List (List S74))(hL:L.length<=100000)(w0:World)(At:Option Addr)(ct:Nat)(hct:L.length<=ct)(hAt:Kd.C (Kd.slice 74 k74) w0 At L.length L)(p:S45)(hn:1+(p.f3.map nodes).sum<=1000000)(hp:p.f0≠2)
  (ih: ∀ q∈p.f3,∀ (W:World),Below w0.heap.size w0 W->nodes q<=1000000-> ∀ (P:Nat->Prop) (B1:Option Addr) (d1:Nat) (B2:Option Addr) (d2:Nat) (B3:Option Addr) (d3:Nat),q.f1.length<=d1->Kd.F k74 W P B1 q.f1.length q.f1->q.f3.length<=d3->Kd.F k45 W P B3 q.f3.length q.f3->Calls Tryz.prog 19 #[.agg #[.int .i64 q.f0,.slice B1 q.f1.length d1,.slice B2 q.f2.length d2,.slice B3 q.f3.length d3],.slice At L.length ct] W (TellAns W P (tellF L q)))
  (W:World) (hw0:Below w0.heap.size w0 W) (P:Nat->Prop) (A1:Option Addr) (c1:Nat) (A2:Option Addr) (c2:Nat) (A3:Option Addr) (c3:Nat) (l1:p.f1.length<=c1) (g1:Kd.F k74 W P A1 p.f1.length p.f1) (l3:p.f3.length<=c3) (g3:Kd.F k45 W P A3 p.f3.length p.f3):
  Calls Tryz.prog 19 #[.agg #[.int .i64 p.f0,.slice A1 p.f1.length c1,.slice A2 p.f2.length c2,.slice A3 p.f3.length c3],.slice At L.length ct] W (TellAns W P ⟨p.f0,p.f1,([]:List Int),p.f3.map (tellF L)⟩):=by
 unfold TellAns;obtain ⟨W3,hW3⟩: ∃ W_,W_=((W.alloc (.cells #[.int .i64 p.f0,.slice A1 p.f1.length c1,.slice A2 p.f2.length c2,.slice A3 p.f3.length c3] 45)).alloc (.cells #[.int .i64 0,.slice none 0 0,.slice none 0 0,.slice none 0 0] 45)).alloc (.cells #[.int .i64 p.f0,.slice A1 p.f1.length c1,.slice none 0 0,.slice none 0 0] 45):=⟨_,rfl⟩;have ea:(W.alloc (.cells #[.int .i64 p.f0,.slice A1 p.f1.length c1,.slice A2 p.f2.length c2,.slice A3 p.f3.length c3] 45)).heap.size=W.heap.size+1:=Array.size_push _;have eb:((W.alloc (.cells #[.int .i64 p.f0,.slice A1 p.f1.length c1,.slice A2 p.f2.length c2,.slice A3 p.f3.length c3] 45)).alloc (.cells #[.int .i64 0,.slice none 0 0,.slice none 0 0,.slice none 0 0] 45)).heap.size=W.heap.size+2:=(Array.size_push _).trans (congrArg (· +1) ea);have hs3:W3.heap.size=W.heap.size+3:=by rw [hW3];exact (Array.size_push _).trans (congrArg (· +1) eb)
 have hb3:Below W.heap.size W W3:=by rw [hW3];exact ab_ (ab_ (ab_ (Below.refl W.heap.size W) _) _) _
 have hp3:W3.heap[W.heap.size]? =some (.cells #[.int .i64 p.f0,.slice A1 p.f1.length c1,.slice A2 p.f2.length c2,.slice A3 p.f3.length c3] 45 (0,0)):=by rw [hW3];exact am_ (am_ (aj_ W _) _) _
 have hz3:W3.heap[W.heap.size+1]? =some (.cells #[.int .i64 0,.slice none 0 0,.slice none 0 0,.slice none 0 0] 45 (0,0)):=by rw [hW3];exact am_ (ea ▸ aj_ (W.alloc (.cells #[.int .i64 p.f0,.slice A1 p.f1.length c1,.slice A2 p.f2.length c2,.slice A3 p.f3.length c3] 45)) _) _
 have ht3:W3.heap[W.heap.size+2]? =some (.cells #[.int .i64 p.f0,.slice A1 p.f1.length c1,.slice none 0 0,.slice none 0 0] 45 (0,0)):=by rw [hW3];exact eb ▸ aj_ ((W.alloc (.cells #[.int .i64 p.f0,.slice A1 p.f1.length c1,.slice A2 p.f2.length c2,.slice A3 p.f3.length c3] 45)).alloc (.cells #[.int .i64 0,.slice none 0 0,.slice none 0 0,.slice none 0 0] 45)) _
 have hs1:Kd.F k74 W3 (fun k=>P k∧k<W.heap.size) A1 p.f1.length p.f1:=F_below (F_bound g1) hb3;have hk3:Kd.F k45 W3 (fun k=>P k∧k<W.heap.size) A3 p.f3.length p.f3:=F_below (F_bound g3) hb3;have hp1:(p.f0 == 2)=false:=by simpa using hp
 have HM:p.f3.length<=9223372036854775807:=F_max g3;have HL:=Sd.m hL;have HN:=Sd.m hn;have HIH:=Sd.m ih;have HW0:=Sd.m hw0;have HAT:=Sd.m hAt;clear ea eb hL hn ih g1 g3 hAt hw0 hp;obtain ⟨Wm,hWm⟩: ∃ W_,W_=W3:=⟨_,rfl⟩;rw [←hWm] at hW3 hs3 hb3 hp3 hz3 ht3 hs1 hk3;have HT0:Sd (TlAt W Wm P (.int .i64 p.f0) (.slice A1 p.f1.length c1) (.slice none 0 0) Wm (.slice none 0 0) (.slice none 0 0) []):=⟨⟨N_nil _ _ _ _ _,hb3,Nat.le_refl _,fun _ _ _=>rfl,ht3,by omega⟩⟩;have HPB:=Sd.m hp3;have HZB:=Sd.m hz3;have HS1:=Sd.m hs1;have HK3:=Sd.m hk3;have HG2:Sd (Kd.F (Kd.int .i64) Wm (fun k=>W.heap.size+3<=k) none ([]:List Int).length ([]:List Int)):=⟨F_nil _ _ _⟩;have HWM:=Sd.m hW3;clear hp3 hz3 ht3 hs3 hb3 hs1 hk3 hW3 hWm;go_enter Tryz.func19,Tryz.ntmps19;go_wp2_with fail;rw [←HWM.out];go_loopw [24] (fun u Wx=>TlO W Wm P (.int .i64 p.f0) (.slice A1 p.f1.length c1) (.slice none 0 0) L p.f3 u Wx) (fun u _=>p.f3.length - (intOf u).toNat)
 case atStart=>exact ⟨0,none,0,Nat.zero_le _,rfl,HT0.out⟩
 case round=>
  obtain ⟨j,A6,c6,hj,rfl,hT⟩:=hrel;obtain ⟨xs,hxs⟩: ∃ xs,xs=(p.f3.take j).map (tellF L):=⟨_,rfl⟩;rw [←hxs] at hT;have HT:=Sd.m hT;have HXS:=Sd.m hxs;have hxl:xs.length=j:=by rw [hxs,List.length_map,List.length_take];omega
  have HX9:Sd (xs.length<=1000000):=⟨by have:=HN.out;have:=nodes_len p.f3;omega⟩;have hX:=(HT.out.keep W.heap.size (by have:=HT.out.lo;omega) (by omega)).trans HPB.out;clear hT hxs hxl;by_cases hlt:j<p.f3.length
  ·have b1:decide ((j:Int)<(p.f3.length:Int))=true:=dt__ (by omega);have b2:decide (j<p.f3.length)=true:=dt__ hlt;have hq0:0<=(j:Int):=by omega
   have hq1:(j:Int)<(p.f3.length:Int):=by omega
   have w2:IntKind.i64.wrap ((j:Int)+1)=(j:Int)+1:=IntWalk.i64_in _ (by omega);obtain ⟨ad,cs,rfl,_,hFK,hcc,_⟩:=F_get (HT.out.F HK3.out (fun k hk=>by have:=hk.2;omega)) z45 (j:Int) (by omega) (by omega);rw [Int.toNat_natCast] at hFK hcc;have hel:p.f3[j]? =some (p.f3.getD j z45):=by rw [List.getD_eq_getElem?_getD,List.getElem?_eq_getElem hlt];rfl
   generalize p.f3.getD j z45=q at hFK hel;obtain ⟨B1,d1,B2,d2,B3,d3,rfl,m1,e1,m2,e2,m3,e3⟩:=k45_openF hFK;have k0:wr.cell? (ad.add (j*4))=some (.int .i64 q.f0):=hcc 0 _ rfl;have k1:wr.cell? ⟨(ad.add (j*4)).block,(ad.add (j*4)).off+1,none⟩=some (.slice B1 q.f1.length d1):=by rw [←ay_ _ _ 1 (by omega)];exact hcc 1 _ rfl
   have k2:wr.cell? ⟨(ad.add (j*4)).block,(ad.add (j*4)).off+2,none⟩=some (.slice B2 q.f2.length d2):=by rw [←ay_ _ _ 2 (by omega)];exact hcc 2 _ rfl
   have k3:wr.cell? ⟨(ad.add (j*4)).block,(ad.add (j*4)).off+3,none⟩=some (.slice B3 q.f3.length d3):=by rw [←ay_ _ _ 3 (by omega)];exact hcc 3 _ rfl
   have hbx:=ab_ (Below.refl wr.heap.size wr) (.cells #[.int .i64 q.f0,.slice B1 q.f1.length d1,.slice B2 q.f2.length d2,.slice B3 q.f3.length d3] 45);have hq7:=aj_ wr (.cells #[.int .i64 q.f0,.slice B1 q.f1.length d1,.slice B2 q.f2.length d2,.slice B3 q.f3.length d3] 45);obtain ⟨Vd,hVd⟩: ∃ W_,W_=(wr.alloc (.cells #[.int .i64 q.f0,.slice B1 q.f1.length d1,.slice B2 q.f2.length d2,.slice B3 q.f3.length d3] 45)).drew:=⟨_,rfl⟩;have hbd:Below wr.heap.size wr Vd:=by rw [hVd];exact ca_ hbx
   have hkid:=HIH.out q (List.mem_of_getElem? hel) Vd (HW0.out.trans ((HT.out.B.trans (hbd.mono HT.out.B.size)).mono HW0.out.size)) (by have:=nodes_kid (List.mem_of_getElem? hel);have:=HN.out;omega) (fun k=>P k∧k<W.heap.size) B1 d1 B2 d2 B3 d3 m1 (F_below e1 hbd) m3 (F_below e3 hbd);have HC:=Sd.m hkid;have TD:=Sd.m (HT.out.below hbd);have HEL:=Sd.m hel;obtain ⟨zs,hzs⟩: ∃ zs,zs=xs ++ [tellF L q]:=⟨_,rfl⟩;have HZS:=Sd.m hzs;have OKP:Sd (∀ k,((P k∧k<W.heap.size)∨Vd.heap.size<=k)->((P k∧k<W.heap.size)∨Wm.heap.size<=k)∧some k≠(Value.slice A6 xs.length c6).ownBlock):=by
    refine ⟨fun k hk=>⟨Or.elim hk Or.inl (fun h=>Or.inr (Nat.le_trans (Nat.le_trans HT.out.sz hbd.size) h)),fun e=>?_⟩⟩;have h1:=N_base HT.out.N k e.symm;have h2:=N_lt HT.out.N k e.symm;have h3:=HT.out.lo;have h4:=hbd.size;omega
   have HS:Sd (∀ w',Below Vd.heap.size Vd w'->w'.cell? ⟨W.heap.size+2,3,none⟩=some (.slice A6 xs.length c6)∧w'.cell? ⟨wr.heap.size,0,none⟩=some (.int .i64 q.f0)∧w'.cell? ⟨wr.heap.size,1,none⟩=some (.slice B1 q.f1.length d1)∧w'.cell? ⟨wr.heap.size,2,none⟩=some (.slice B2 q.f2.length d2)∧w'.cell? ⟨wr.heap.size,3,none⟩=some (.slice B3 q.f3.length d3)):=by
    refine ⟨fun w' hw=>?_⟩;have hq:=hbd.trans (hw.mono hbd.size);have cw:=fun (a:Addr) (v:Value) (h:wr.cell? a=some v)=>(hq.cell (bl__ wr _ h)).trans h;have h7:=ag_ hq7 (show Below (wr.alloc (.cells #[.int .i64 q.f0,.slice B1 q.f1.length d1,.slice B2 q.f2.length d2,.slice B3 q.f3.length d3] 45)).heap.size (wr.alloc (.cells #[.int .i64 q.f0,.slice B1 q.f1.length d1,.slice B2 q.f2.length d2,.slice B3 q.f3.length d3] 45)) w' from (show Below _ _ Vd by rw [hVd];exact ca_ (Below.refl _ _)).trans (hw.mono (show (wr.alloc (.cells #[.int .i64 q.f0,.slice B1 q.f1.length d1,.slice B2 q.f2.length d2,.slice B3 q.f3.length d3] 45)).heap.size<=Vd.heap.size by rw [hVd];exact Nat.le_refl _)));exact ⟨cw _ _ ((af_ HT.out.t 3).trans rfl),(af_ h7 0).trans rfl,(af_ h7 1).trans rfl,(af_ h7 2).trans rfl,(af_ h7 3).trans rfl⟩
   have c6_:wr.cell? ⟨W.heap.size+2,3,none⟩=some (.slice A6 xs.length c6):=(af_ HT.out.t 3).trans rfl;clear hkid hcc hFK e1 e2 e3 hbd hel hzs;go_upto_region 7 with fail;refine start_ (n:=9) (S:=fun w'=>w'.cell? ⟨W.heap.size+2,3,none⟩=some (.slice A6 xs.length c6)∧w'.cell? ⟨wr.heap.size,0,none⟩=some (.int .i64 q.f0)∧w'.cell? ⟨wr.heap.size,1,none⟩=some (.slice B1 q.f1.length d1)∧w'.cell? ⟨wr.heap.size,2,none⟩=some (.slice B2 q.f2.length d2)∧w'.cell? ⟨wr.heap.size,3,none⟩=some (.slice B3 q.f3.length d3)) (ds:=[6,8]) #[false,false,false,false,false,false,false,false,false] (by kernel_rfl) rfl rfl (by rw [←hVd];exact (HS.out _ (Below.refl _ _))) (fun hHeld=>?_);rw [←hVd] at hHeld ⊢;clear hVd;refine pu_ 0 28 ?_;refine pu_ 3 31 ?_;refine ta_ 1 29 hHeld ?_;refine ta_ 2 30 hHeld ?_;refine on_ 4 32 (fun K hK=>?_);refine goes_ Tryz.func19 (by kernel_rfl) rfl #[.agg #[.int .i64 q.f0,.slice B1 q.f1.length d1,.slice B2 q.f2.length d2,.slice B3 q.f3.length d3],.slice At L.length ct] (by rfl) rfl rfl (by simp only [List.map_toArray,List.map_cons,List.map_nil];rfl) ?_;(with_reducible refine (HC.out).mono ?_);rintro e_ V1 ⟨_,rfl,⟨E1,e1,E2,e2,E3,e3,rfl,m1,g1,m2,g2,m3,g3⟩,hb_⟩;refine ⟨_,rfl,?_⟩;have HFK:=Sd.m (k45_mkF _ _ (tellF L q) m1 g1 m2 g2 m3 g3);have T1:=Sd.m (TD.out.below hb_);have B1_:=Sd.m hb_;clear m1 g1 m2 g2 m3 g3 hb_;refine hK.out _ _ (HS.out _ B1_.out) (fun hHeld=>?_);clear hK K;refine no_ 32 ?_;refine on_ 5 33 (fun K hK=>?_);refine value_ (w1:=?_) (v:=?_) (by rfl) rfl ?_ ?_;rotate_left 2
   ·go_simp;constructor
    ·rfl
    ·rfl
   have hg_:=aj_ V1 (.cells #[.int .i64 (tellF L q).f0,.slice E1 (tellF L q).f1.length e1,.slice E2 (tellF L q).f2.length e2,.slice E3 (tellF L q).f3.length e3] 45);have hb_:=ab_ (Below.refl V1.heap.size V1) (.cells #[.int .i64 (tellF L q).f0,.slice E1 (tellF L q).f1.length e1,.slice E2 (tellF L q).f2.length e2,.slice E3 (tellF L q).f3.length e3] 45);generalize hW_:V1.alloc (.cells #[.int .i64 (tellF L q).f0,.slice E1 (tellF L q).f1.length e1,.slice E2 (tellF L q).f2.length e2,.slice E3 (tellF L q).f3.length e3] 45)=V2 at hg_ hb_ ⊢;have T2:=Sd.m (T1.out.below hb_);have B2_:=Sd.m (B1_.out.trans (hb_.mono B1_.out.size));have HY:Sd (Kd.F k45 V2 (fun k=>(P k∧k<W.heap.size)∨Vd.heap.size<=k) (some ⟨V1.heap.size,0,none⟩) 1 [tellF L q]):=⟨F_one hg_ (Or.inr B1_.out.size) (fun W' hW'=>HFK.out W' (fun k hk hlt=>(hW' k hk (Nat.lt_of_lt_of_le hlt hb_.size)).trans (hb_.block k hlt)))⟩;clear hg_ hb_ hW_;refine hK.out _ _ (HS.out _ B2_.out) (fun hHeld=>?_);clear hK K;refine no_ 33 ?_;refine last_ (i:=6) (N:=some 34) #[true,true,true,true,true,true,true,false,false] rfl rfl (by kernel_rfl) (by decide) (fun K hK=>?_);obtain ⟨C1,k1,V3,hrun_,hT_⟩:=T2.out.app (tellF L q) (some ⟨V1.heap.size,0,none⟩) 1 _ HY.out OKP.out (by have:=HX9.out;omega);rw [←HZS.out] at hrun_ hT_;refine cw_ rfl (.tmp 29) (.tmp 33) 43 rfl _ _ rfl rfl hrun_ ?_;have T3:=Sd.m hT_;have n3:V3.cell? ⟨W.heap.size+2,3,none⟩=some (.slice A6 xs.length c6):=(af_ hT_.t 3).trans rfl;have m3:V3.frozen? ⟨W.heap.size+2,3,none⟩=false:=aa_ hT_.t 3;clear hrun_ hT_;refine hK.out _ _ ?_;clear hK K;refine no_ 34 ?_;refine pu_ 7 35 ?_;refine last_ (i:=8) (N:=none) #[true,true,true,true,true,true,true,true,true] rfl rfl (by kernel_rfl) (by decide) (fun K hK=>?_);refine skip_ (w1:=?_) (by rfl) rfl ?_ ?_;rotate_left
   ·go_simp;rfl
   refine hK.out _ _ ?_;clear hK K;refine done_ (by kernel_rfl) ?_;go_wp2_with fail;go_roundw
   case rel=>
    refine ⟨j+1,C1,k1,hlt,by go_num,?_⟩;have hx:(p.f3.take (j+1)).map (tellF L)=zs:=by rw [HZS.out,HXS.out,List.take_add_one,HEL.out,List.map_append];rfl
    rw [hx];exact T3.out.store
   case measure=>simp [intOf];omega
  ·have b1:decide ((j:Int)<(p.f3.length:Int))=false:=df__ (by omega);have b2:decide (j<p.f3.length)=false:=df__ hlt;have hx:xs=p.f3.map (tellF L):=by rw [HXS.out,List.take_of_length_le (by omega)]
   obtain ⟨V2,hV2⟩: ∃ W_,W_=putL wr (W.heap.size+1) 0 [.int .i64 p.f0,.slice A1 p.f1.length c1,.slice none 0 0,.slice A6 xs.length c6]:=⟨_,rfl⟩;have hp:=HT.out.t;have hr:=(HT.out.keep (W.heap.size+1) (by have:=HT.out.lo;omega) (by omega)).trans HZB.out;have p0:=bc_ hp 0 rfl;have p1:=bc_ hp 1 rfl;have p2:=bc_ hp 2 rfl;have p3:=bc_ hp 3 rfl;have q0:=bc_ hr 0 rfl;have r0:=aa_ hr 0;have q1:=bc_ hr 1 rfl;have r1:=aa_ hr 1;have q2:=bc_ hr 2 rfl;have r2:=aa_ hr 2;have q3:=bc_ hr 3 rfl;have r3:=aa_ hr 3;have hr2:V2.heap[W.heap.size+1]? =some (.cells #[.int .i64 p.f0,.slice A1 p.f1.length c1,.slice none 0 0,.slice A6 xs.length c6] 45 (0,0)):=by rw [hV2];exact cx_ _ wr 0 _ hr
   have hb2:Below W.heap.size W V2:=by rw [hV2];exact cn_ (by omega) _ _ _ HT.out.B
   have f1:Kd.F k74 V2 (fun k=>P k∨W.heap.size<=k) A1 p.f1.length p.f1:=by rw [hV2];exact F_mono (ci_ (ok:=fun k=>P k∧k<W.heap.size) (fun k hk=>by omega) _ _ _ (HT.out.F HS1.out (fun k hk=>by have:=hk.2;omega))) (fun k hk=>Or.inl hk.1)
   have f2:Kd.F (Kd.int .i64) V2 (fun k=>P k∨W.heap.size<=k) none ([]:List Int).length ([]:List Int):=by rw [hV2];exact F_mono (ci_ (ok:=fun k=>W.heap.size+3<=k) (fun k hk=>by omega) _ _ _ (HT.out.F HG2.out (fun k hk=>by omega))) (fun k hk=>Or.inr (by omega))
   have f3:Kd.F k45 V2 (fun k=>P k∨W.heap.size<=k) A6 xs.length xs:=by rw [hV2];exact F_mono (ci_ (ok:=fun k=>(P k∧k<W.heap.size)∨Wm.heap.size<=k) (fun k hk=>by have:=HT.out.lo;omega) _ _ _ (N_F HT.out.N)) (fun k hk=>Or.elim hk (fun h=>Or.inl h.1) (fun h=>Or.inr (by have:=HT.out.lo;omega)))
   have hcc:=(N_reads' HT.out.N).2.1;replace hV2:V2=((((wr.setCell ⟨W.heap.size+1,0,none⟩ (.int .i64 p.f0)).setCell ⟨W.heap.size+1,1,none⟩ (.slice A1 p.f1.length c1)).setCell ⟨W.heap.size+1,2,none⟩ (.slice none 0 0)).setCell ⟨W.heap.size+1,3,none⟩ (.slice A6 xs.length c6)):=hV2;have HR2:=Sd.m hr2;have HB2:=Sd.m hb2;have F1:=Sd.m f1;have F2:=Sd.m f2;have F3:=Sd.m f3;have HV2:=Sd.m hV2;have HXX:=Sd.m hx;clear hp hr hr2 hb2 f1 f2 f3 hV2 hx
      
   go_wp2_with fail;rw [←HV2.out];refine bodyPost_ret (results_cell_row rfl _ _ (W.heap.size+1) 45 #[.int .i64 p.f0,.slice A1 p.f1.length c1,.slice none 0 0,.slice A6 xs.length c6] (0,0) _ rfl HR2.out Tryz.underlying45 rfl (by kernel_rfl)) rfl ?_;rw [←HXX.out];exact ⟨_,rfl,⟨A1,c1,none,0,A6,c6,rfl,l1,F1.out,Nat.le_refl _,F2.out,hcc,F3.out⟩,HB2.out⟩
theorem tell_yes (L:List (List S74))(hL:L.length<=100000)(w0:World)(At:Option Addr)(ct:Nat)(hct:L.length<=ct)(hAt:Kd.C (Kd.slice 74 k74) w0 At L.length L)(p:S45)(hn:1+(p.f3.map nodes).sum<=1000000)(hp:p.f0=2)
  (ih: ∀ q∈p.f3,∀ (W:World),Below w0.heap.size w0 W->nodes q<=1000000-> ∀ (P:Nat->Prop) (B1:Option Addr) (d1:Nat) (B2:Option Addr) (d2:Nat) (B3:Option Addr) (d3:Nat),q.f1.length<=d1->Kd.F k74 W P B1 q.f1.length q.f1->q.f3.length<=d3->Kd.F k45 W P B3 q.f3.length q.f3->Calls Tryz.prog 19 #[.agg #[.int .i64 q.f0,.slice B1 q.f1.length d1,.slice B2 q.f2.length d2,.slice B3 q.f3.length d3],.slice At L.length ct] W (TellAns W P (tellF L q)))
  (W:World) (hw0:Below w0.heap.size w0 W) (P:Nat->Prop) (A1:Option Addr) (c1:Nat) (A2:Option Addr) (c2:Nat) (A3:Option Addr) (c3:Nat) (l1:p.f1.length<=c1) (g1:Kd.F k74 W P A1 p.f1.length p.f1) (l3:p.f3.length<=c3) (g3:Kd.F k45 W P A3 p.f3.length p.f3):
  Calls Tryz.prog 19 #[.agg #[.int .i64 p.f0,.slice A1 p.f1.length c1,.slice A2 p.f2.length c2,.slice A3 p.f3.length c3],.slice At L.length ct] W (TellAns W P ⟨p.f0,p.f1,(withinF L p.f1),p.f3.map (tellF L)⟩):=by
 unfold TellAns;obtain ⟨W3,hW3⟩: ∃ W_,W_=((W.alloc (.cells #[.int .i64 p.f0,.slice A1 p.f1.length c1,.slice A2 p.f2.length c2,.slice A3 p.f3.length c3] 45)).alloc (.cells #[.int .i64 0,.slice none 0 0,.slice none 0 0,.slice none 0 0] 45)).alloc (.cells #[.int .i64 p.f0,.slice A1 p.f1.length c1,.slice none 0 0,.slice none 0 0] 45):=⟨_,rfl⟩;have ea:(W.alloc (.cells #[.int .i64 p.f0,.slice A1 p.f1.length c1,.slice A2 p.f2.length c2,.slice A3 p.f3.length c3] 45)).heap.size=W.heap.size+1:=Array.size_push _;have eb:((W.alloc (.cells #[.int .i64 p.f0,.slice A1 p.f1.length c1,.slice A2 p.f2.length c2,.slice A3 p.f3.length c3] 45)).alloc (.cells #[.int .i64 0,.slice none 0 0,.slice none 0 0,.slice none 0 0] 45)).heap.size=W.heap.size+2:=(Array.size_push _).trans (congrArg (· +1) ea);have hs3:W3.heap.size=W.heap.size+3:=by rw [hW3];exact (Array.size_push _).trans (congrArg (· +1) eb)
 have hb3:Below W.heap.size W W3:=by rw [hW3];exact ab_ (ab_ (ab_ (Below.refl W.heap.size W) _) _) _
 have hp3:W3.heap[W.heap.size]? =some (.cells #[.int .i64 p.f0,.slice A1 p.f1.length c1,.slice A2 p.f2.length c2,.slice A3 p.f3.length c3] 45 (0,0)):=by rw [hW3];exact am_ (am_ (aj_ W _) _) _
 have hz3:W3.heap[W.heap.size+1]? =some (.cells #[.int .i64 0,.slice none 0 0,.slice none 0 0,.slice none 0 0] 45 (0,0)):=by rw [hW3];exact am_ (ea ▸ aj_ (W.alloc (.cells #[.int .i64 p.f0,.slice A1 p.f1.length c1,.slice A2 p.f2.length c2,.slice A3 p.f3.length c3] 45)) _) _
 have ht3:W3.heap[W.heap.size+2]? =some (.cells #[.int .i64 p.f0,.slice A1 p.f1.length c1,.slice none 0 0,.slice none 0 0] 45 (0,0)):=by rw [hW3];exact eb ▸ aj_ ((W.alloc (.cells #[.int .i64 p.f0,.slice A1 p.f1.length c1,.slice A2 p.f2.length c2,.slice A3 p.f3.length c3] 45)).alloc (.cells #[.int .i64 0,.slice none 0 0,.slice none 0 0,.slice none 0 0] 45)) _
 have hs1:Kd.F k74 W3 (fun k=>P k∧k<W.heap.size) A1 p.f1.length p.f1:=F_below (F_bound g1) hb3;have hk3:Kd.F k45 W3 (fun k=>P k∧k<W.heap.size) A3 p.f3.length p.f3:=F_below (F_bound g3) hb3;have hp1:(p.f0 == 2)=true:=by simpa using hp
 have HM:p.f3.length<=9223372036854775807:=F_max g3;have HL:=Sd.m hL;have HN:=Sd.m hn;have HIH:=Sd.m ih;have HW0:=Sd.m hw0;have HAT:=Sd.m hAt;clear ea eb hL hn ih g1 g3 hAt hw0 hp;obtain ⟨kw,hkw0⟩:=hm_ L p.f1 HL.out;have hkw:=hkw0 kw (Nat.le_refl _);have HWI:=Sd.m (D.bt_.calls kw At ct L A1 c1 p.f1 (withinF L p.f1) W3 (Kd.C_below HAT.out (HW0.out.trans (hb3.mono HW0.out.size))) hct (F_now hs1) l1 hkw);clear hkw hkw0;have HP3:=Sd.m hp3;have HZ3:=Sd.m hz3;have HTT3:=Sd.m ht3;have HS3:=Sd.m hs3;have HB3:=Sd.m hb3;have HS13:=Sd.m hs1;have HK33:=Sd.m hk3;have HW3:=Sd.m hW3;clear hp3 hz3 ht3 hs3 hb3 hs1 hk3 hW3;go_enter Tryz.func19,Tryz.ntmps19;go_wp2_with fail;rw [←HW3.out];refine HWI.out.mono ?_;rintro e V ⟨v,rfl,hR,hb⟩;obtain ⟨Aw,cw,rfl⟩:=R_slice hR;have hlw:=(R_reads' hR).2.1;have hs3:=HS3.out;have ht:=ag_ HTT3.out hb;have n2:=bc_ ht 2 rfl;have m2:=aa_ ht 2;have x3:=bc_ (ag_ HP3.out hb) 3 rfl;obtain ⟨Wm,hWm⟩: ∃ W_,W_=V.setCell ⟨W.heap.size+2,2,none⟩ (.slice Aw (withinF L p.f1).length cw):=⟨_,rfl⟩;have hszm:Wm.heap.size=V.heap.size:=by rw [hWm];simp [World.setCell]
 have hbm:Below W.heap.size W Wm:=by rw [hWm];exact (HB3.out.trans (hb.mono HB3.out.size)).setCell (p:=⟨W.heap.size+2,2,none⟩) (by show W.heap.size<=W.heap.size+2;omega) _
 have hkp: ∀ k,k≠W.heap.size+2->Wm.heap[k]? =V.heap[k]? :=fun k hk=>by rw [hWm];exact Below.heap_setCell V ⟨W.heap.size+2,2,none⟩ _ k hk
 have htm:Wm.heap[W.heap.size+2]? =some (.cells #[.int .i64 p.f0,.slice A1 p.f1.length c1,.slice Aw (withinF L p.f1).length cw,.slice none 0 0] 45 (0,0)):=by rw [hWm];simpa using eb_ ht 2 (.slice Aw (withinF L p.f1).length cw)
 have hsz:=hb.size;have HT0:Sd (TlAt W Wm P (.int .i64 p.f0) (.slice A1 p.f1.length c1) (.slice Aw (withinF L p.f1).length cw) Wm (.slice none 0 0) (.slice none 0 0) []):=⟨⟨N_nil _ _ _ _ _,hbm,Nat.le_refl _,fun _ _ _=>rfl,htm,by omega⟩⟩;have HPB:=Sd.m ((hkp W.heap.size (by omega)).trans (ag_ HP3.out hb));have HZB:=Sd.m ((hkp (W.heap.size+1) (by omega)).trans (ag_ HZ3.out hb));have HS1:Sd (Kd.F k74 Wm (fun k=>P k∧k<W.heap.size) A1 p.f1.length p.f1):=⟨F_step (F_below HS13.out hb) (fun k hk _=>hkp k (by have:=hk.2;omega))⟩;have HK3:Sd (Kd.F k45 Wm (fun k=>P k∧k<W.heap.size) A3 p.f3.length p.f3):=⟨F_step (F_below HK33.out hb) (fun k hk _=>hkp k (by have:=hk.2;omega))⟩;have HG2:Sd (Kd.F (Kd.int .i64) Wm (fun k=>W.heap.size+3<=k) Aw (withinF L p.f1).length (withinF L p.f1)):=⟨F_step (F_mono (N_F (R_N (R_bound hR))) (fun k hk=>by have:=hk.2.1;omega)) (fun k hk _=>hkp k (by omega))⟩;have HWM:=Sd.m hWm;clear hszm hbm hkp htm hsz hb hR ht hs3 hWm;go_wp2_with fail;rw [←HWM.out];go_loopw [24] (fun u Wx=>TlO W Wm P (.int .i64 p.f0) (.slice A1 p.f1.length c1) (.slice Aw (withinF L p.f1).length cw) L p.f3 u Wx) (fun u _=>p.f3.length - (intOf u).toNat)
 case atStart=>exact ⟨0,none,0,Nat.zero_le _,rfl,HT0.out⟩
 case round=>
  obtain ⟨j,A6,c6,hj,rfl,hT⟩:=hrel;obtain ⟨xs,hxs⟩: ∃ xs,xs=(p.f3.take j).map (tellF L):=⟨_,rfl⟩;rw [←hxs] at hT;have HT:=Sd.m hT;have HXS:=Sd.m hxs;have hxl:xs.length=j:=by rw [hxs,List.length_map,List.length_take];omega
  have HX9:Sd (xs.length<=1000000):=⟨by have:=HN.out;have:=nodes_len p.f3;omega⟩;have hX:=(HT.out.keep W.heap.size (by have:=HT.out.lo;omega) (by omega)).trans HPB.out;clear hT hxs hxl;by_cases hlt:j<p.f3.length
  ·have b1:decide ((j:Int)<(p.f3.length:Int))=true:=dt__ (by omega);have b2:decide (j<p.f3.length)=true:=dt__ hlt;have hq0:0<=(j:Int):=by omega
   have hq1:(j:Int)<(p.f3.length:Int):=by omega
   have w2:IntKind.i64.wrap ((j:Int)+1)=(j:Int)+1:=IntWalk.i64_in _ (by omega);obtain ⟨ad,cs,rfl,_,hFK,hcc,_⟩:=F_get (HT.out.F HK3.out (fun k hk=>by have:=hk.2;omega)) z45 (j:Int) (by omega) (by omega);rw [Int.toNat_natCast] at hFK hcc;have hel:p.f3[j]? =some (p.f3.getD j z45):=by rw [List.getD_eq_getElem?_getD,List.getElem?_eq_getElem hlt];rfl
   generalize p.f3.getD j z45=q at hFK hel;obtain ⟨B1,d1,B2,d2,B3,d3,rfl,m1,e1,m2,e2,m3,e3⟩:=k45_openF hFK;have k0:wr.cell? (ad.add (j*4))=some (.int .i64 q.f0):=hcc 0 _ rfl;have k1:wr.cell? ⟨(ad.add (j*4)).block,(ad.add (j*4)).off+1,none⟩=some (.slice B1 q.f1.length d1):=by rw [←ay_ _ _ 1 (by omega)];exact hcc 1 _ rfl
   have k2:wr.cell? ⟨(ad.add (j*4)).block,(ad.add (j*4)).off+2,none⟩=some (.slice B2 q.f2.length d2):=by rw [←ay_ _ _ 2 (by omega)];exact hcc 2 _ rfl
   have k3:wr.cell? ⟨(ad.add (j*4)).block,(ad.add (j*4)).off+3,none⟩=some (.slice B3 q.f3.length d3):=by rw [←ay_ _ _ 3 (by omega)];exact hcc 3 _ rfl
   have hbx:=ab_ (Below.refl wr.heap.size wr) (.cells #[.int .i64 q.f0,.slice B1 q.f1.length d1,.slice B2 q.f2.length d2,.slice B3 q.f3.length d3] 45);have hq7:=aj_ wr (.cells #[.int .i64 q.f0,.slice B1 q.f1.length d1,.slice B2 q.f2.length d2,.slice B3 q.f3.length d3] 45);obtain ⟨Vd,hVd⟩: ∃ W_,W_=(wr.alloc (.cells #[.int .i64 q.f0,.slice B1 q.f1.length d1,.slice B2 q.f2.length d2,.slice B3 q.f3.length d3] 45)).drew:=⟨_,rfl⟩;have hbd:Below wr.heap.size wr Vd:=by rw [hVd];exact ca_ hbx
   have hkid:=HIH.out q (List.mem_of_getElem? hel) Vd (HW0.out.trans ((HT.out.B.trans (hbd.mono HT.out.B.size)).mono HW0.out.size)) (by have:=nodes_kid (List.mem_of_getElem? hel);have:=HN.out;omega) (fun k=>P k∧k<W.heap.size) B1 d1 B2 d2 B3 d3 m1 (F_below e1 hbd) m3 (F_below e3 hbd);have HC:=Sd.m hkid;have TD:=Sd.m (HT.out.below hbd);have HEL:=Sd.m hel;obtain ⟨zs,hzs⟩: ∃ zs,zs=xs ++ [tellF L q]:=⟨_,rfl⟩;have HZS:=Sd.m hzs;have OKP:Sd (∀ k,((P k∧k<W.heap.size)∨Vd.heap.size<=k)->((P k∧k<W.heap.size)∨Wm.heap.size<=k)∧some k≠(Value.slice A6 xs.length c6).ownBlock):=by
    refine ⟨fun k hk=>⟨Or.elim hk Or.inl (fun h=>Or.inr (Nat.le_trans (Nat.le_trans HT.out.sz hbd.size) h)),fun e=>?_⟩⟩;have h1:=N_base HT.out.N k e.symm;have h2:=N_lt HT.out.N k e.symm;have h3:=HT.out.lo;have h4:=hbd.size;omega
   have HS:Sd (∀ w',Below Vd.heap.size Vd w'->w'.cell? ⟨W.heap.size+2,3,none⟩=some (.slice A6 xs.length c6)∧w'.cell? ⟨wr.heap.size,0,none⟩=some (.int .i64 q.f0)∧w'.cell? ⟨wr.heap.size,1,none⟩=some (.slice B1 q.f1.length d1)∧w'.cell? ⟨wr.heap.size,2,none⟩=some (.slice B2 q.f2.length d2)∧w'.cell? ⟨wr.heap.size,3,none⟩=some (.slice B3 q.f3.length d3)):=by
    refine ⟨fun w' hw=>?_⟩;have hq:=hbd.trans (hw.mono hbd.size);have cw:=fun (a:Addr) (v:Value) (h:wr.cell? a=some v)=>(hq.cell (bl__ wr _ h)).trans h;have h7:=ag_ hq7 (show Below (wr.alloc (.cells #[.int .i64 q.f0,.slice B1 q.f1.length d1,.slice B2 q.f2.length d2,.slice B3 q.f3.length d3] 45)).heap.size (wr.alloc (.cells #[.int .i64 q.f0,.slice B1 q.f1.length d1,.slice B2 q.f2.length d2,.slice B3 q.f3.length d3] 45)) w' from (show Below _ _ Vd by rw [hVd];exact ca_ (Below.refl _ _)).trans (hw.mono (show (wr.alloc (.cells #[.int .i64 q.f0,.slice B1 q.f1.length d1,.slice B2 q.f2.length d2,.slice B3 q.f3.length d3] 45)).heap.size<=Vd.heap.size by rw [hVd];exact Nat.le_refl _)));exact ⟨cw _ _ ((af_ HT.out.t 3).trans rfl),(af_ h7 0).trans rfl,(af_ h7 1).trans rfl,(af_ h7 2).trans rfl,(af_ h7 3).trans rfl⟩
   have c6_:wr.cell? ⟨W.heap.size+2,3,none⟩=some (.slice A6 xs.length c6):=(af_ HT.out.t 3).trans rfl;clear hkid hcc hFK e1 e2 e3 hbd hel hzs;go_upto_region 7 with fail;refine start_ (n:=9) (S:=fun w'=>w'.cell? ⟨W.heap.size+2,3,none⟩=some (.slice A6 xs.length c6)∧w'.cell? ⟨wr.heap.size,0,none⟩=some (.int .i64 q.f0)∧w'.cell? ⟨wr.heap.size,1,none⟩=some (.slice B1 q.f1.length d1)∧w'.cell? ⟨wr.heap.size,2,none⟩=some (.slice B2 q.f2.length d2)∧w'.cell? ⟨wr.heap.size,3,none⟩=some (.slice B3 q.f3.length d3)) (ds:=[6,8]) #[false,false,false,false,false,false,false,false,false] (by kernel_rfl) rfl rfl (by rw [←hVd];exact (HS.out _ (Below.refl _ _))) (fun hHeld=>?_);rw [←hVd] at hHeld ⊢;clear hVd;refine pu_ 0 28 ?_;refine pu_ 3 31 ?_;refine ta_ 1 29 hHeld ?_;refine ta_ 2 30 hHeld ?_;refine on_ 4 32 (fun K hK=>?_);refine goes_ Tryz.func19 (by kernel_rfl) rfl #[.agg #[.int .i64 q.f0,.slice B1 q.f1.length d1,.slice B2 q.f2.length d2,.slice B3 q.f3.length d3],.slice At L.length ct] (by rfl) rfl rfl (by simp only [List.map_toArray,List.map_cons,List.map_nil];rfl) ?_;(with_reducible refine (HC.out).mono ?_);rintro e_ V1 ⟨_,rfl,⟨E1,e1,E2,e2,E3,e3,rfl,m1,g1,m2,g2,m3,g3⟩,hb_⟩;refine ⟨_,rfl,?_⟩;have HFK:=Sd.m (k45_mkF _ _ (tellF L q) m1 g1 m2 g2 m3 g3);have T1:=Sd.m (TD.out.below hb_);have B1_:=Sd.m hb_;clear m1 g1 m2 g2 m3 g3 hb_;refine hK.out _ _ (HS.out _ B1_.out) (fun hHeld=>?_);clear hK K;refine no_ 32 ?_;refine on_ 5 33 (fun K hK=>?_);refine value_ (w1:=?_) (v:=?_) (by rfl) rfl ?_ ?_;rotate_left 2
   ·go_simp;constructor
    ·rfl
    ·rfl
   have hg_:=aj_ V1 (.cells #[.int .i64 (tellF L q).f0,.slice E1 (tellF L q).f1.length e1,.slice E2 (tellF L q).f2.length e2,.slice E3 (tellF L q).f3.length e3] 45);have hb_:=ab_ (Below.refl V1.heap.size V1) (.cells #[.int .i64 (tellF L q).f0,.slice E1 (tellF L q).f1.length e1,.slice E2 (tellF L q).f2.length e2,.slice E3 (tellF L q).f3.length e3] 45);generalize hW_:V1.alloc (.cells #[.int .i64 (tellF L q).f0,.slice E1 (tellF L q).f1.length e1,.slice E2 (tellF L q).f2.length e2,.slice E3 (tellF L q).f3.length e3] 45)=V2 at hg_ hb_ ⊢;have T2:=Sd.m (T1.out.below hb_);have B2_:=Sd.m (B1_.out.trans (hb_.mono B1_.out.size));have HY:Sd (Kd.F k45 V2 (fun k=>(P k∧k<W.heap.size)∨Vd.heap.size<=k) (some ⟨V1.heap.size,0,none⟩) 1 [tellF L q]):=⟨F_one hg_ (Or.inr B1_.out.size) (fun W' hW'=>HFK.out W' (fun k hk hlt=>(hW' k hk (Nat.lt_of_lt_of_le hlt hb_.size)).trans (hb_.block k hlt)))⟩;clear hg_ hb_ hW_;refine hK.out _ _ (HS.out _ B2_.out) (fun hHeld=>?_);clear hK K;refine no_ 33 ?_;refine last_ (i:=6) (N:=some 34) #[true,true,true,true,true,true,true,false,false] rfl rfl (by kernel_rfl) (by decide) (fun K hK=>?_);obtain ⟨C1,k1,V3,hrun_,hT_⟩:=T2.out.app (tellF L q) (some ⟨V1.heap.size,0,none⟩) 1 _ HY.out OKP.out (by have:=HX9.out;omega);rw [←HZS.out] at hrun_ hT_;refine cw_ rfl (.tmp 29) (.tmp 33) 43 rfl _ _ rfl rfl hrun_ ?_;have T3:=Sd.m hT_;have n3:V3.cell? ⟨W.heap.size+2,3,none⟩=some (.slice A6 xs.length c6):=(af_ hT_.t 3).trans rfl;have m3:V3.frozen? ⟨W.heap.size+2,3,none⟩=false:=aa_ hT_.t 3;clear hrun_ hT_;refine hK.out _ _ ?_;clear hK K;refine no_ 34 ?_;refine pu_ 7 35 ?_;refine last_ (i:=8) (N:=none) #[true,true,true,true,true,true,true,true,true] rfl rfl (by kernel_rfl) (by decide) (fun K hK=>?_);refine skip_ (w1:=?_) (by rfl) rfl ?_ ?_;rotate_left
   ·go_simp;rfl
   refine hK.out _ _ ?_;clear hK K;refine done_ (by kernel_rfl) ?_;go_wp2_with fail;go_roundw
   case rel=>
    refine ⟨j+1,C1,k1,hlt,by go_num,?_⟩;have hx:(p.f3.take (j+1)).map (tellF L)=zs:=by rw [HZS.out,HXS.out,List.take_add_one,HEL.out,List.map_append];rfl
    rw [hx];exact T3.out.store
   case measure=>simp [intOf];omega
  ·have b1:decide ((j:Int)<(p.f3.length:Int))=false:=df__ (by omega);have b2:decide (j<p.f3.length)=false:=df__ hlt;have hx:xs=p.f3.map (tellF L):=by rw [HXS.out,List.take_of_length_le (by omega)]
   obtain ⟨V2,hV2⟩: ∃ W_,W_=putL wr (W.heap.size+1) 0 [.int .i64 p.f0,.slice A1 p.f1.length c1,.slice Aw (withinF L p.f1).length cw,.slice A6 xs.length c6]:=⟨_,rfl⟩;have hp:=HT.out.t;have hr:=(HT.out.keep (W.heap.size+1) (by have:=HT.out.lo;omega) (by omega)).trans HZB.out;have p0:=bc_ hp 0 rfl;have p1:=bc_ hp 1 rfl;have p2:=bc_ hp 2 rfl;have p3:=bc_ hp 3 rfl;have q0:=bc_ hr 0 rfl;have r0:=aa_ hr 0;have q1:=bc_ hr 1 rfl;have r1:=aa_ hr 1;have q2:=bc_ hr 2 rfl;have r2:=aa_ hr 2;have q3:=bc_ hr 3 rfl;have r3:=aa_ hr 3;have hr2:V2.heap[W.heap.size+1]? =some (.cells #[.int .i64 p.f0,.slice A1 p.f1.length c1,.slice Aw (withinF L p.f1).length cw,.slice A6 xs.length c6] 45 (0,0)):=by rw [hV2];exact cx_ _ wr 0 _ hr
   have hb2:Below W.heap.size W V2:=by rw [hV2];exact cn_ (by omega) _ _ _ HT.out.B
   have f1:Kd.F k74 V2 (fun k=>P k∨W.heap.size<=k) A1 p.f1.length p.f1:=by rw [hV2];exact F_mono (ci_ (ok:=fun k=>P k∧k<W.heap.size) (fun k hk=>by omega) _ _ _ (HT.out.F HS1.out (fun k hk=>by have:=hk.2;omega))) (fun k hk=>Or.inl hk.1)
   have f2:Kd.F (Kd.int .i64) V2 (fun k=>P k∨W.heap.size<=k) Aw (withinF L p.f1).length (withinF L p.f1):=by rw [hV2];exact F_mono (ci_ (ok:=fun k=>W.heap.size+3<=k) (fun k hk=>by omega) _ _ _ (HT.out.F HG2.out (fun k hk=>by omega))) (fun k hk=>Or.inr (by omega))
   have f3:Kd.F k45 V2 (fun k=>P k∨W.heap.size<=k) A6 xs.length xs:=by rw [hV2];exact F_mono (ci_ (ok:=fun k=>(P k∧k<W.heap.size)∨Wm.heap.size<=k) (fun k hk=>by have:=HT.out.lo;omega) _ _ _ (N_F HT.out.N)) (fun k hk=>Or.elim hk (fun h=>Or.inl h.1) (fun h=>Or.inr (by have:=HT.out.lo;omega)))
   have hcc:=(N_reads' HT.out.N).2.1;replace hV2:V2=((((wr.setCell ⟨W.heap.size+1,0,none⟩ (.int .i64 p.f0)).setCell ⟨W.heap.size+1,1,none⟩ (.slice A1 p.f1.length c1)).setCell ⟨W.heap.size+1,2,none⟩ (.slice Aw (withinF L p.f1).length cw)).setCell ⟨W.heap.size+1,3,none⟩ (.slice A6 xs.length c6)):=hV2;have HR2:=Sd.m hr2;have HB2:=Sd.m hb2;have F1:=Sd.m f1;have F2:=Sd.m f2;have F3:=Sd.m f3;have HV2:=Sd.m hV2;have HXX:=Sd.m hx;clear hp hr hr2 hb2 f1 f2 f3 hV2 hx
      
   go_wp2_with fail;rw [←HV2.out];refine bodyPost_ret (results_cell_row rfl _ _ (W.heap.size+1) 45 #[.int .i64 p.f0,.slice A1 p.f1.length c1,.slice Aw (withinF L p.f1).length cw,.slice A6 xs.length c6] (0,0) _ rfl HR2.out Tryz.underlying45 rfl (by kernel_rfl)) rfl ?_;rw [←HXX.out];exact ⟨_,rfl,⟨A1,c1,Aw,cw,A6,c6,rfl,l1,F1.out,hlw,F2.out,hcc,F3.out⟩,HB2.out⟩
theorem em_ (L:List (List S74))(hL:L.length<=100000)(w0:World)(At:Option Addr)(ct:Nat)(hct:L.length<=ct)(hAt:Kd.C (Kd.slice 74 k74) w0 At L.length L)(p:S45):
  ∀ (W:World),Below w0.heap.size w0 W->nodes p<=1000000-> ∀ (P:Nat->Prop) (A1:Option Addr) (c1:Nat) (A2:Option Addr) (c2:Nat) (A3:Option Addr) (c3:Nat),p.f1.length<=c1->Kd.F k74 W P A1 p.f1.length p.f1->p.f3.length<=c3->Kd.F k45 W P A3 p.f3.length p.f3->Calls Tryz.prog 19 #[.agg #[.int .i64 p.f0,.slice A1 p.f1.length c1,.slice A2 p.f2.length c2,.slice A3 p.f3.length c3],.slice At L.length ct] W (TellAns W P (tellF L p)):=by
 intro W hw0 hn P A1 c1 A2 c2 A3 c3 l1 g1 l3 g3;rw [fa_] at hn;rw [iy_];by_cases hp:p.f0=2
 ·rw [if_pos hp];exact tell_yes L hL w0 At ct hct hAt p hn hp (fun q hq=>em_ L hL w0 At ct hct hAt q) W hw0 P A1 c1 A2 c2 A3 c3 l1 g1 l3 g3
 ·rw [if_neg hp];exact tell_no L hL w0 At ct hct hAt p hn hp (fun q hq=>em_ L hL w0 At ct hct hAt q) W hw0 P A1 c1 A2 c2 A3 c3 l1 g1 l3 g3
termination_by SizeOf.sizeOf p
decreasing_by
 all_goals
  have:=List.sizeOf_lt_of_mem hq;cases p;simp at*;omega
open Go.Proofs.YthfceiincmkccaaGreat.P (withinF hm_)
noncomputable def tellR (L:List (List S74))(r:S55):S55:=⟨r.f0,r.f1,tellF L r.f2,tellF L r.f3,r.f4⟩
noncomputable def toldN (L:List (List S74))(l:List S55)(j:Nat):List S55:=(l.take j).map (tellR L) ++ l.drop j
theorem toldN_all (L:List (List S74))(l:List S55){j:Nat}(h:l.length<=j):toldN L l j=l.map (tellR L):=by
 unfold toldN;rw [List.take_of_length_le h,List.drop_eq_nil_iff.2 h,List.append_nil]
theorem toldN_len (L:List (List S74))(l:List S55)(j:Nat):(toldN L l j).length=l.length:=by
 unfold toldN;rw [List.length_append,List.length_map,List.length_take,List.length_drop];omega
theorem toldN_at (L:List (List S74))(l:List S55)(j:Nat)(h:j<l.length):(toldN L l j).getD j z55=l.getD j z55:=by
 unfold toldN;have hl:((l.take j).map (tellR L)).length=j:=by rw [List.length_map,List.length_take];omega
 rw [List.getD_eq_getElem?_getD,List.getD_eq_getElem?_getD,List.getElem?_append_right (by omega),hl,Nat.sub_self,List.getElem?_drop,Nat.add_zero]
theorem toldN_set (L:List (List S74))(l:List S55)(j:Nat)(r:S55)(h:l[j]? =some r):(toldN L l j).set j (tellR L r)=toldN L l (j+1):=by
 have hj:=(List.getElem?_eq_some_iff.1 h).1;unfold toldN;have hl:((l.take j).map (tellR L)).length=j:=by rw [List.length_map,List.length_take];omega
 rw [List.set_append_right _ _ (by omega),hl,Nat.sub_self,List.drop_eq_getElem_cons hj,List.set_cons_zero,List.take_add_one,h,List.map_append,List.append_assoc];rfl
structure BkAt (w:World) (xb:Array Value) (v:Value) (xs:List S55) (Wx:World):Prop where
 N:Kd.N k55 55 Wx (w.heap.size+2) (fun k=>k<w.heap.size∨w.heap.size+2<=k) v xs
 B:Below w.heap.size w Wx
 x:Wx.heap[w.heap.size]? =some (.cells xb 27 (0,0))
 z:Wx.heap[w.heap.size+1]? =some (.cells #[.slice none 0 0,.slice none 0 0,.slice none 0 0,.slice none 0 0] 27 (0,0))
theorem BkAt.below {w W1 W2:World}{xb:Array Value}{v:Value}{xs:List S55}(h:BkAt w xb v xs W1)(hb:Below W1.heap.size W1 W2):BkAt w xb v xs W2:=
 ⟨N_below h.N hb,h.B.trans (hb.mono h.B.size),ag_ h.x hb,ag_ h.z hb⟩
theorem BkAt.grown {w W1 W2:World}{xb:Array Value}{g n c:Nat}{xs ys:List S55}(h:BkAt w xb (.slice (some ⟨g,0,none⟩) n c) xs W1)(hN:Kd.N k55 55 W2 (w.heap.size+2) (fun k=>k<w.heap.size∨w.heap.size+2<=k) (.slice (some ⟨g,0,none⟩) n c) ys)(hg:W1.grownBy W2 (some g)):BkAt w xb (.slice (some ⟨g,0,none⟩) n c) ys W2:=by
 have hb:=N_base h.N g (by simp [Value.ownBlock]);exact ⟨hN,h.B.grown hg h.B.size (fun k hk=>by injection hk with hk;omega),(hg.block _ (cc_ h.x) (fun e=>by injection e with e;omega)).trans h.x,(hg.block _ (cc_ h.z) (fun e=>by injection e with e;omega)).trans h.z⟩
def BkO (L:List (List S74))(w:World)(xb:Array Value)(v:Value)(l:List S55)(s:Value)(Wx:World):Prop:= ∃ j:Nat,j<=l.length∧s=.int .i64 j∧BkAt w xb v (toldN L l j) Wx
theorem book_calls (L:List (List S74))(hL:L.length<=100000)(w:World)(At:Option Addr)(ct:Nat)(hct:L.length<=ct)(hAt:Kd.C (Kd.slice 74 k74) w At L.length L)(b:S27)(A0:Option Addr)(c0:Nat)(A1:Option Addr)(c1:Nat)(A2:Option Addr)(c2:Nat)(A3:Option Addr)(c3:Nat)(l1:b.f1.length<=c1)(g1:Kd.C k55 w A1 b.f1.length b.f1)(hl:b.f1.length<=1000000)(hn: ∀ r∈b.f1,nodes r.f2<=1000000∧nodes r.f3<=1000000):
  Calls Tryz.prog 28 #[.agg #[.slice A0 b.f0.length c0,.slice A1 b.f1.length c1,.slice A2 b.f2.length c2,.slice A3 b.f3.length c3],.slice At L.length ct] w fun e w'=> ∃ R cR,e=.returned (.agg #[.slice A0 b.f0.length c0,.slice R b.f1.length cR,.slice A2 b.f2.length c2,.slice A3 b.f3.length c3])∧b.f1.length<=cR∧Kd.C k55 w' R b.f1.length (b.f1.map (tellR L))∧Below w.heap.size w w':=by
 obtain ⟨W2,hW2⟩: ∃ W_,W_=(w.alloc (.cells #[.slice A0 b.f0.length c0,.slice A1 b.f1.length c1,.slice A2 b.f2.length c2,.slice A3 b.f3.length c3] 27)).alloc (.cells #[.slice none 0 0,.slice none 0 0,.slice none 0 0,.slice none 0 0] 27):=⟨_,rfl⟩;have ea:(w.alloc (.cells #[.slice A0 b.f0.length c0,.slice A1 b.f1.length c1,.slice A2 b.f2.length c2,.slice A3 b.f3.length c3] 27)).heap.size=w.heap.size+1:=Array.size_push _;have hs2:W2.heap.size=w.heap.size+2:=by rw [hW2];exact (Array.size_push _).trans (congrArg (· +1) ea)
 have hb2:Below w.heap.size w W2:=by rw [hW2];exact ab_ (ab_ (Below.refl w.heap.size w) _) _
 have hx2:W2.heap[w.heap.size]? =some (.cells #[.slice A0 b.f0.length c0,.slice A1 b.f1.length c1,.slice A2 b.f2.length c2,.slice A3 b.f3.length c3] 27 (0,0)):=by rw [hW2];exact am_ (aj_ w _) _
 have hz2:W2.heap[w.heap.size+1]? =some (.cells #[.slice none 0 0,.slice none 0 0,.slice none 0 0,.slice none 0 0] 27 (0,0)):=by rw [hW2];exact ea ▸ aj_ (w.alloc (.cells #[.slice A0 b.f0.length c0,.slice A1 b.f1.length c1,.slice A2 b.f2.length c2,.slice A3 b.f3.length c3] 27)) _
 have HCL:=Sd.m (clone_calls W2 A1 b.f1 c1 l1 (fun k=>k<w.heap.size) (F_below (C_F k55_heap g1) hb2) hl);have HX2:=Sd.m hx2;have HZ2:=Sd.m hz2;have HB2:=Sd.m hb2;have HS2:=Sd.m hs2;have HW2:=Sd.m hW2;have HL:=Sd.m hL;have HN:=Sd.m hn;have HAT:=Sd.m hAt;have HLL:=Sd.m hl;have HM:b.f1.length<=9223372036854775807:=Kd.C_max g1;clear ea hs2 hb2 hx2 hz2 hW2 hL hn hAt hl g1;go_enter Tryz.func28,Tryz.ntmps28;go_wp2_with fail;rw [←HW2.out];refine HCL.out.mono ?_;rintro e V ⟨v,rfl,hN,hb⟩;obtain ⟨R,cR,rfl⟩:=N_slice hN;have hs2:=HS2.out;have hsz:=hb.size;have hx:=ag_ HX2.out hb;have x0:=bc_ hx 0 rfl;have x1:=bc_ hx 1 rfl;have y1:=aa_ hx 1;obtain ⟨Wm,hWm⟩: ∃ W_,W_=V.setCell ⟨w.heap.size,1,none⟩ (.slice R b.f1.length cR):=⟨_,rfl⟩;have hxm:Wm.heap[w.heap.size]? =some (.cells #[.slice A0 b.f0.length c0,.slice R b.f1.length cR,.slice A2 b.f2.length c2,.slice A3 b.f3.length c3] 27 (0,0)):=by rw [hWm];simpa using eb_ hx 1 (.slice R b.f1.length cR)
 have hzm:Wm.heap[w.heap.size+1]? =some (.cells #[.slice none 0 0,.slice none 0 0,.slice none 0 0,.slice none 0 0] 27 (0,0)):=by rw [hWm];exact bj_ (ag_ HZ2.out hb) (p:=⟨w.heap.size,1,none⟩) (by show w.heap.size+1≠w.heap.size;omega) _
 have hbm:Below w.heap.size w Wm:=by rw [hWm];exact (HB2.out.trans (hb.mono HB2.out.size)).setCell (p:=⟨w.heap.size,1,none⟩) (Nat.le_refl _) _
 have hNm:Kd.N k55 55 Wm (w.heap.size+2) (fun k=>k<w.heap.size∨w.heap.size+2<=k) (.slice R b.f1.length cR) b.f1:=by
  rw [hWm];refine N_far (p:=⟨w.heap.size,1,none⟩) (N_mono (N_lower hN (by omega)) (fun k hk=>?_)) (fun k hk=>by show k≠w.heap.size;omega) _;rcases hk with hk | hk
  ·exact Or.inl hk.1
  ·exact Or.inr (by omega)
 have HT0:Sd (BkAt w #[.slice A0 b.f0.length c0,.slice R b.f1.length cR,.slice A2 b.f2.length c2,.slice A3 b.f3.length c3] (.slice R b.f1.length cR) (toldN L b.f1 0) Wm):=⟨⟨hNm,hbm,hxm,hzm⟩⟩;have HWM:=Sd.m hWm;have hxc:=bc_ hxm 1 rfl;have hcR:=(N_reads' hN).2.1;clear hx hxm hzm hbm hNm hN hb hsz hs2;go_wp2_with fail;rw [←HWM.out];clear hWm x0 x1 y1 hxc;go_loopw [14] (fun u Wx=>BkO L w #[.slice A0 b.f0.length c0,.slice R b.f1.length cR,.slice A2 b.f2.length c2,.slice A3 b.f3.length c3] (.slice R b.f1.length cR) b.f1 u Wx) (fun u _=>b.f1.length - (intOf u).toNat)
 case atStart=>exact ⟨0,Nat.zero_le _,rfl,HT0.out⟩
 case round=>
  obtain ⟨j,hj,rfl,hT⟩:=hrel;have HT:=Sd.m hT;clear hT;by_cases hlt:j<b.f1.length
  ·have b1:decide ((j:Int)<(b.f1.length:Int))=true:=dt__ (by omega);have b2:decide (j<b.f1.length)=true:=dt__ hlt;have hq0:0<=(j:Int):=by omega
   have hq1:(j:Int)<(b.f1.length:Int):=by omega
   have w2:IntKind.i64.wrap ((j:Int)+1)=(j:Int)+1:=IntWalk.i64_in _ (by omega);obtain ⟨g,cap,hv,hgb,_,_⟩:=N_form HT.out.N (by rw [toldN_len];omega);injection hv with hv1 hv2 hv3;subst hv1 hv3;clear hv2;obtain ⟨cs,hcl,hFK,hcc,hfz⟩:=N_elem HT.out.N z55 (j:Int) (by omega) (by omega);rw [Int.toNat_natCast] at hFK hcc hfz;rw [toldN_at L b.f1 j hlt] at hFK;have hel:b.f1[j]? =some (b.f1.getD j z55):=by rw [List.getD_eq_getElem?_getD,List.getElem?_eq_getElem hlt];rfl
   obtain ⟨r,hr⟩: ∃ r,b.f1.getD j z55=r:=⟨_,rfl⟩;rw [hr] at hFK hel;obtain ⟨B3,b3,B4,b4,B5,b5,B7,b7,B8,b8,B9,b9,rfl,l3,h3,l4,h4,l5,h5,l7,h7,l8,h8,l9,h9⟩:=jy_ hFK;have k2:wr.cell? ⟨g,j*11+2,none⟩=some (.int .i64 r.f2.f0):=hcc 2 _ rfl;have k3:wr.cell? ⟨g,j*11+3,none⟩=some (.slice B3 r.f2.f1.length b3):=hcc 3 _ rfl;have k4:wr.cell? ⟨g,j*11+4,none⟩=some (.slice B4 r.f2.f2.length b4):=hcc 4 _ rfl;have k5:wr.cell? ⟨g,j*11+5,none⟩=some (.slice B5 r.f2.f3.length b5):=hcc 5 _ rfl;have k6:wr.cell? ⟨g,j*11+6,none⟩=some (.int .i64 r.f3.f0):=hcc 6 _ rfl;have k7:wr.cell? ⟨g,j*11+7,none⟩=some (.slice B7 r.f3.f1.length b7):=hcc 7 _ rfl;have k8:wr.cell? ⟨g,j*11+8,none⟩=some (.slice B8 r.f3.f2.length b8):=hcc 8 _ rfl;have k9:wr.cell? ⟨g,j*11+9,none⟩=some (.slice B9 r.f3.f3.length b9):=hcc 9 _ rfl;have x1:wr.cell? ⟨w.heap.size,1,none⟩=some (.slice (some ⟨g,0,none⟩) b.f1.length cR):=(af_ HT.out.x 1).trans rfl;obtain ⟨Vd,hVd⟩: ∃ W_,W_=wr.drew:=⟨_,rfl⟩;have hbd:Below wr.heap.size wr Vd:=by rw [hVd];exact ca_ (Below.refl _ _)
   have hnr:=HN.out r (List.mem_of_getElem? hel);have htc:=em_ L HL.out w At ct hct HAT.out;have hBd:=HT.out.B.trans (hbd.mono HT.out.B.size);have HC1:=Sd.m (htc r.f2 Vd hBd hnr.1 (fun k=>(k<w.heap.size∨w.heap.size+2<=k)∧k≠g) B3 b3 B4 b4 B5 b5 l3 (F_below h3 hbd) l5 (F_below h5 hbd));have HC2:Sd (∀ W1,Below Vd.heap.size Vd W1->_):=⟨fun W1 hb1=>htc r.f3 W1 (hBd.trans (hb1.mono hBd.size)) hnr.2 (fun k=>(k<w.heap.size∨w.heap.size+2<=k)∧k≠g) B7 b7 B8 b8 B9 b9 l7 (F_below h7 (hbd.trans (hb1.mono hbd.size))) l9 (F_below h9 (hbd.trans (hb1.mono hbd.size)))⟩;have TD:=Sd.m (HT.out.below hbd);have HEL:=Sd.m hr;have HEM:=Sd.m hel;have HGB:=Sd.m hgb;have HS:Sd (∀ w',Below Vd.heap.size Vd w'->w'.cell? ⟨g,j*11+2,none⟩=some (.int .i64 r.f2.f0)∧w'.cell? ⟨g,j*11+3,none⟩=some (.slice B3 r.f2.f1.length b3)∧w'.cell? ⟨g,j*11+4,none⟩=some (.slice B4 r.f2.f2.length b4)∧w'.cell? ⟨g,j*11+5,none⟩=some (.slice B5 r.f2.f3.length b5)∧w'.cell? ⟨g,j*11+6,none⟩=some (.int .i64 r.f3.f0)∧w'.cell? ⟨g,j*11+7,none⟩=some (.slice B7 r.f3.f1.length b7)∧w'.cell? ⟨g,j*11+8,none⟩=some (.slice B8 r.f3.f2.length b8)∧w'.cell? ⟨g,j*11+9,none⟩=some (.slice B9 r.f3.f3.length b9)):=by
    refine ⟨fun w' hw=>?_⟩;have hq:=hbd.trans (hw.mono hbd.size);have cw:=fun (a:Addr) (v:Value) (h:wr.cell? a=some v)=>(hq.cell (bl__ wr _ h)).trans h;exact ⟨cw _ _ k2,cw _ _ k3,cw _ _ k4,cw _ _ k5,cw _ _ k6,cw _ _ k7,cw _ _ k8,cw _ _ k9⟩
   clear htc hBd hnr hbd hel hr hcc hFK h3 h4 h5 h7 h8 h9 hfz hgb hcl;have OKQ:Sd (∀ k,(((k<w.heap.size∨w.heap.size+2<=k)∧k≠g)∨Vd.heap.size<=k)->(k<w.heap.size∨w.heap.size+2<=k)∧k≠g):=by
    refine ⟨fun k hk=>Or.elim hk id (fun h=>?_)⟩;have h1:=N_lt TD.out.N g (by simp [Value.ownBlock]);have h2:=HGB.out;exact ⟨Or.inr (by omega),by omega⟩
   go_upto_region 6 with fail;refine start_ (n:=20) (S:=fun w'=>w'.cell? ⟨g,j*11+2,none⟩=some (.int .i64 r.f2.f0)∧w'.cell? ⟨g,j*11+3,none⟩=some (.slice B3 r.f2.f1.length b3)∧w'.cell? ⟨g,j*11+4,none⟩=some (.slice B4 r.f2.f2.length b4)∧w'.cell? ⟨g,j*11+5,none⟩=some (.slice B5 r.f2.f3.length b5)∧w'.cell? ⟨g,j*11+6,none⟩=some (.int .i64 r.f3.f0)∧w'.cell? ⟨g,j*11+7,none⟩=some (.slice B7 r.f3.f1.length b7)∧w'.cell? ⟨g,j*11+8,none⟩=some (.slice B8 r.f3.f2.length b8)∧w'.cell? ⟨g,j*11+9,none⟩=some (.slice B9 r.f3.f3.length b9)) (ds:=[16,19]) #[false,false,false,false,false,false,false,false,false,false,false,false,false,false,false,false,false,false,false,false] (by kernel_rfl) rfl rfl (by rw [←hVd];exact (HS.out _ (Below.refl _ _))) (fun hHeld=>?_);rw [←hVd] at hHeld ⊢;clear hVd;refine pu_ 0 21 ?_;refine pu_ 1 22 ?_;refine pu_ 2 23 ?_;refine pu_ 3 24 ?_;refine pu_ 4 25 ?_;refine pu_ 6 27 ?_;refine pu_ 8 29 ?_;refine pu_ 9 30 ?_;refine pu_ 10 31 ?_;refine pu_ 12 33 ?_;refine ta_ 5 26 hHeld ?_;refine ta_ 11 32 hHeld ?_;refine on_ 7 28 (fun K hK=>?_);refine goes_ Tryz.func19 (by kernel_rfl) rfl #[.agg #[.int .i64 r.f2.f0,.slice B3 r.f2.f1.length b3,.slice B4 r.f2.f2.length b4,.slice B5 r.f2.f3.length b5],.slice At L.length ct] (by rfl) rfl rfl (by simp only [List.map_toArray,List.map_cons,List.map_nil];rfl) ?_;(with_reducible refine (HC1.out).mono ?_);rintro e_ V1 ⟨_,rfl,⟨E1,el1,E2,ek2,E3,em3,rfl,m1,g1,m2,g2,m3,g3⟩,hb_⟩;refine ⟨_,rfl,?_⟩;have F2:=Sd.m (And.intro m1 (And.intro g1 (And.intro m2 (And.intro g2 (And.intro m3 g3)))));have T1:=Sd.m (TD.out.below hb_);have B1_:=Sd.m hb_;clear m1 g1 m2 g2 m3 g3 hb_;refine hK.out _ _ (HS.out _ B1_.out) (fun hHeld=>?_);clear hK K;refine no_ 28 ?_;refine on_ 13 34 (fun K hK=>?_);refine goes_ Tryz.func19 (by kernel_rfl) rfl #[.agg #[.int .i64 r.f3.f0,.slice B7 r.f3.f1.length b7,.slice B8 r.f3.f2.length b8,.slice B9 r.f3.f3.length b9],.slice At L.length ct] (by rfl) rfl rfl (by simp only [List.map_toArray,List.map_cons,List.map_nil];rfl) ?_;(with_reducible refine (HC2.out V1 B1_.out).mono ?_);rintro e_ V2 ⟨_,rfl,⟨G1,gl1,G2,gk2,G3,gm3,rfl,m1,g1,m2,g2,m3,g3⟩,hb_⟩;refine ⟨_,rfl,?_⟩;have F3:=Sd.m (And.intro m1 (And.intro g1 (And.intro m2 (And.intro g2 (And.intro m3 g3)))));have T2:=Sd.m (T1.out.below hb_);have B2_:=Sd.m hb_;clear m1 g1 m2 g2 m3 g3 hb_;refine hK.out _ _ (HS.out _ (B1_.out.trans (B2_.out.mono B1_.out.size))) (fun hHeld=>?_);clear hK K;refine no_ 34 ?_;refine pu_ 14 35 ?_;refine pu_ 15 36 ?_;refine last_ (i:=16) (N:=none) #[true,true,true,true,true,true,true,true,true,true,true,true,true,true,true,true,true,false,false,false] rfl rfl (by kernel_rfl) (by decide) (fun K hK=>?_);obtain ⟨cs2,hl_,hF_,hc_,_⟩:=N_elem T2.out.N z55 (j:Int) (by omega) (by omega);rw [Int.toNat_natCast] at hF_ hc_;rw [toldN_at L b.f1 j hlt,HEL.out] at hF_;obtain ⟨D3,d3,D4,d4,D5,d5,D7,d7,D8,d8,D9,d9,rfl,n3,h3,n4,h4,n5,h5,n7,h7,n8,h8,n9,h9⟩:=jy_ hF_;refine N_store_step k55 (w.heap.size+2) rfl rfl 45 (.tmp 36) (.tmp 28) rfl 55 (j:Int) 2 _ ⟨r.f0,r.f1,tellF L r.f2,r.f3,r.f4⟩ (.agg #[.int .i64 (tellF L r.f2).f0,.slice E1 (tellF L r.f2).f1.length el1,.slice E2 (tellF L r.f2).f2.length ek2,.slice E3 (tellF L r.f2).f3.length em3]) [.int .i64 (tellF L r.f2).f0,.slice E1 (tellF L r.f2).f1.length el1,.slice E2 (tellF L r.f2).f2.length ek2,.slice E3 (tellF L r.f2).f3.length em3] _ _ (fun k=>((k<w.heap.size∨w.heap.size+2<=k)∧k≠g)∨Vd.heap.size<=k) rfl (by rw [Int.toNat_natCast];rfl) rfl rfl (by kernel_rfl) (by intro q hq;simp at hq;rcases hq with rfl | rfl | rfl | rfl <;> rfl) T2.out.N (by omega) (by omega) hl_ (by intro i u hu;rw [Int.toNat_natCast];exact hc_ i u hu) (Nat.le_of_ble_eq_true rfl) (k55_mkF V2 _ ⟨r.f0,r.f1,tellF L r.f2,r.f3,r.f4⟩ F2.out.1 (F_below F2.out.2.1 B2_.out) F2.out.2.2.1 (F_below F2.out.2.2.2.1 B2_.out) F2.out.2.2.2.2.1 (F_below F2.out.2.2.2.2.2 B2_.out) n7 (F_mono (h7) (fun k hk=>Or.inl hk)) n8 (F_mono (h8) (fun k hk=>Or.inl hk)) n9 (F_mono (h9) (fun k hk=>Or.inl hk))) OKQ.out ?_;intro V3 hN_ hg_;have T3:=Sd.m (T2.out.grown hN_ hg_);have G3_:=Sd.m hg_;clear hN_ hg_ hF_ hc_ hl_ n3 h3 n4 h4 n5 h5 n7 h7 n8 h8 n9 h9;refine hK.out _ _ ?_;clear hK K;refine pu_ 17 37 ?_;refine pu_ 18 38 ?_;refine last_ (i:=19) (N:=none) #[true,true,true,true,true,true,true,true,true,true,true,true,true,true,true,true,true,true,true,true] rfl rfl (by kernel_rfl) (by decide) (fun K hK=>?_);obtain ⟨cs3,hl_,hF_,hc_,_⟩:=N_elem T3.out.N z55 (j:Int) (by omega) (by omega);rw [Int.toNat_natCast] at hF_ hc_;have hs_:((toldN L b.f1 j).set j (⟨r.f0,r.f1,tellF L r.f2,r.f3,r.f4⟩:S55)).getD j z55=⟨r.f0,r.f1,tellF L r.f2,r.f3,r.f4⟩:=by rw [List.getD_eq_getElem?_getD,List.getElem?_set_self (by rw [toldN_len];omega)];rfl
   rw [hs_] at hF_;obtain ⟨D3,d3,D4,d4,D5,d5,D7,d7,D8,d8,D9,d9,rfl,n3,h3,n4,h4,n5,h5,n7,h7,n8,h8,n9,h9⟩:=jy_ hF_;refine N_store_step k55 (w.heap.size+2) rfl rfl 45 (.tmp 38) (.tmp 34) rfl 55 (j:Int) 6 _ (tellR L r) (.agg #[.int .i64 (tellF L r.f3).f0,.slice G1 (tellF L r.f3).f1.length gl1,.slice G2 (tellF L r.f3).f2.length gk2,.slice G3 (tellF L r.f3).f3.length gm3]) [.int .i64 (tellF L r.f3).f0,.slice G1 (tellF L r.f3).f1.length gl1,.slice G2 (tellF L r.f3).f2.length gk2,.slice G3 (tellF L r.f3).f3.length gm3] _ _ (fun k=>((k<w.heap.size∨w.heap.size+2<=k)∧k≠g)∨Vd.heap.size<=k) rfl (by rw [Int.toNat_natCast];rfl) rfl rfl (by kernel_rfl) (by intro q hq;simp at hq;rcases hq with rfl | rfl | rfl | rfl <;> rfl) T3.out.N (by omega) (by omega) hl_ (by intro i u hu;rw [Int.toNat_natCast];exact hc_ i u hu) (Nat.le_of_ble_eq_true rfl) (k55_mkF V3 _ (tellR L r) n3 (F_mono (h3) (fun k hk=>Or.inl hk)) n4 (F_mono (h4) (fun k hk=>Or.inl hk)) n5 (F_mono (h5) (fun k hk=>Or.inl hk)) F3.out.1 (F_grown (F_mono F3.out.2.1 (fun k hk=>Or.elim hk Or.inl (fun h=>Or.inr (Nat.le_trans B1_.out.size h)))) G3_.out (fun k hk e=>by injection e with e;exact (OKQ.out k hk).2 e)) F3.out.2.2.1 (F_grown (F_mono F3.out.2.2.2.1 (fun k hk=>Or.elim hk Or.inl (fun h=>Or.inr (Nat.le_trans B1_.out.size h)))) G3_.out (fun k hk e=>by injection e with e;exact (OKQ.out k hk).2 e)) F3.out.2.2.2.2.1 (F_grown (F_mono F3.out.2.2.2.2.2 (fun k hk=>Or.elim hk Or.inl (fun h=>Or.inr (Nat.le_trans B1_.out.size h)))) G3_.out (fun k hk e=>by injection e with e;exact (OKQ.out k hk).2 e))) OKQ.out ?_;intro V4 hN_ hg_;have T4:=Sd.m (T3.out.grown hN_ hg_);clear hN_ hg_ hF_ hc_ hl_ hs_ n3 h3 n4 h4 n5 h5 n7 h7 n8 h8 n9 h9;refine hK.out _ _ ?_;clear hK K;refine done_ (by kernel_rfl) ?_;go_wp2_with fail;go_roundw
   case rel=>
    refine ⟨j+1,hlt,by go_num,?_⟩;have h:=T4.out;simp only [Int.toNat_natCast,List.set_set] at h;rw [toldN_set L b.f1 j r HEM.out] at h;exact h
   case measure=>simp [intOf];omega
  ·have b1:decide ((j:Int)<(b.f1.length:Int))=false:=df__ (by omega);have b2:decide (j<b.f1.length)=false:=df__ hlt;have hx:=HT.out.x;have hr:=HT.out.z;have hNN:=HT.out.N;rw [toldN_all L b.f1 (by omega)] at hNN;have p0:=bc_ hx 0 rfl;have p1:=bc_ hx 1 rfl;have p2:=bc_ hx 2 rfl;have p3:=bc_ hx 3 rfl;have q0:=bc_ hr 0 rfl;have r0:=aa_ hr 0;have q1:=bc_ hr 1 rfl;have r1:=aa_ hr 1;have q2:=bc_ hr 2 rfl;have r2:=aa_ hr 2;have q3:=bc_ hr 3 rfl;have r3:=aa_ hr 3;obtain ⟨V2,hV2⟩: ∃ W_,W_=putL wr (w.heap.size+1) 0 [.slice A0 b.f0.length c0,.slice R b.f1.length cR,.slice A2 b.f2.length c2,.slice A3 b.f3.length c3]:=⟨_,rfl⟩;have hr2:V2.heap[w.heap.size+1]? =some (.cells #[.slice A0 b.f0.length c0,.slice R b.f1.length cR,.slice A2 b.f2.length c2,.slice A3 b.f3.length c3] 27 (0,0)):=by rw [hV2];exact cx_ _ wr 0 _ hr
   have hb2:Below w.heap.size w V2:=by rw [hV2];exact cn_ (by omega) _ _ _ HT.out.B
   have f1:Kd.F k55 V2 (fun k=>k<w.heap.size∨w.heap.size+2<=k) R b.f1.length (b.f1.map (tellR L)):=by rw [hV2];exact ci_ (fun k hk=>by omega) _ _ _ (N_F hNN)
   replace hV2:V2=((((wr.setCell ⟨w.heap.size+1,0,none⟩ (.slice A0 b.f0.length c0)).setCell ⟨w.heap.size+1,1,none⟩ (.slice R b.f1.length cR)).setCell ⟨w.heap.size+1,2,none⟩ (.slice A2 b.f2.length c2)).setCell ⟨w.heap.size+1,3,none⟩ (.slice A3 b.f3.length c3)):=hV2;have HR2:=Sd.m hr2;have HB2:=Sd.m hb2;have F1:=Sd.m f1;have HV2:=Sd.m hV2;clear hx hr hNN hr2 hb2 f1 hV2;go_wp2_with fail;rw [←HV2.out];refine bodyPost_ret (results_cell_row rfl _ _ (w.heap.size+1) 27 #[.slice A0 b.f0.length c0,.slice R b.f1.length cR,.slice A2 b.f2.length c2,.slice A3 b.f3.length c3] (0,0) _ rfl HR2.out Tryz.underlying27 rfl (by kernel_rfl)) rfl ?_;exact ⟨R,cR,rfl,hcR,F_now F1.out,HB2.out⟩
end LX
namespace L
open Shelf YthfceiincmkccaaGreatW.PrintWords.Kd A P
theorem sets_calls (p:S45)(w:World)(hx:nodes p<=1000000)(hwd:Wide p)(A1:Option Addr)(c1:Nat)(A2:Option Addr)(c2:Nat)(A3:Option Addr)(c3:Nat)(l1:p.f1.length<=c1)(g1:k74.C w A1 p.f1.length p.f1)(l3:p.f3.length<=c3)(g3:k45.C w A3 p.f3.length p.f3):
  Calls Tryz.prog 21 #[.agg #[.int .i64 p.f0,.slice A1 p.f1.length c1,.slice A2 p.f2.length c2,.slice A3 p.f3.length c3]] w fun e w'=> ∃ A c,e=.returned (.slice A (formF p []).length c)∧(formF p []).length<=c∧Kd.C (Kd.slice 74 k74) w' A (formF p []).length (formF p [])∧Below w.heap.size w w':=by
 obtain ⟨W1,hW1⟩: ∃ W_,W_=w.alloc (.cells #[.int .i64 p.f0,.slice A1 p.f1.length c1,.slice A2 p.f2.length c2,.slice A3 p.f3.length c3] 45):=⟨_,rfl⟩;have hsz:W1.heap.size=w.heap.size+1:=by rw [hW1];exact Array.size_push _
 have hb1:Below w.heap.size w W1:=by rw [hW1];exact ab_ (Below.refl _ _) _
 have hb2:Below w.heap.size w (W1.alloc (.cells #[.slice none 0 0] 68)):=ab_ hb1 _;have hS:SetAt w (W1.alloc (.cells #[.slice none 0 0] 68)) W1.heap.size []:=⟨⟨_,Boxed.new W1 68 _,OwnRow.none_ _ _ _ _ _⟩,hb2,hb1.size⟩;have hform:=fp_ w W1.heap.size p _ [] hS (by simpa using hx) hwd A1 c1 A2 c2 A3 c3 l1 g1 l3 g3;rw [hsz,hW1] at hform;obtain ⟨zs,hzs⟩: ∃ zs,zs=formF p []:=⟨_,rfl⟩;rw [←hzs] at hform ⊢;have HF:=Sd.m hform;clear hform hS hb2 hb1 hsz hW1 hzs hx hwd l1 g1 l3 g3;go_enter Tryz.func21,Tryz.ntmps21;go_wp2_with fail;refine HF.out.mono ?_;rintro e w' ⟨rfl,hS,hK⟩;obtain ⟨A,c,hv,hh,hl,hr⟩:=hS.boxed;have hcell:=hv.cell;have HS:=Sd.m hS.2.1;have HR:=Sd.m hr;have HL:=Sd.m hl;clear hS hK hv hh hl hr;go_wp2_with fail;go_ret;exact ⟨_,_,rfl,HL.out,HR.out,HS.out⟩
end L
namespace P
open A L
abbrev lx:List (List S74):=[[⟨97,99⟩],[⟨98,98⟩]]
abbrev q0:List S74:=[⟨0,96⟩,⟨100,1114111⟩]
abbrev q1:List S74:=[⟨97,97⟩,⟨99,99⟩]
abbrev q2:List S74:=[⟨98,98⟩]
theorem at_q0:atF lx [false,false]=q0:=by
 refine ew_ ⟨by simp [Can],fun c h0 h1=>Bool.eq_iff_iff.mpr ?_⟩;simp [Mem,inR,hasB,sigF];omega
theorem at_q1:atF lx [true,false]=q1:=by
 refine ew_ ⟨by simp [Can],fun c h0 h1=>Bool.eq_iff_iff.mpr ?_⟩;simp [Mem,inR,hasB,sigF];omega
theorem at_q2:atF lx [true,true]=q2:=by
 refine ew_ ⟨by simp [Can],fun c h0 h1=>Bool.eq_iff_iff.mpr ?_⟩;simp [Mem,inR,hasB,sigF];omega
theorem few_lx:Few lx (edgesOf lx):=gm_ (by decide)
theorem atoms_lx:AtomsOf lx [q0,q1,q2]:=by
 refine ⟨[[false,false],[true,false],[true,true]],by decide,by rw [List.map_cons,List.map_cons,List.map_cons,List.map_nil,at_q0,at_q1,at_q2],fun c h0 h1=>?_,?_⟩
 ·simp only [sigF,hasB,Mem,inR,List.map_cons,List.map_nil,List.length_cons,List.length_nil,List.any_cons,List.any_nil,List.mem_cons,List.cons.injEq,and_true,List.not_mem_nil,or_false];simp;omega
 ·intro t ht;simp only [List.mem_cons,List.not_mem_nil,or_false] at ht;rcases ht with rfl | rfl | rfl
  ·rw [at_q0];decide
  ·rw [at_q1];decide
  ·rw [at_q2];decide
theorem sorted_lx:Sorted [q0,q1,q2]:=by
 unfold Sorted;simp [lowR,al_]
theorem cls_lx:clsL lx=[q0,q1,q2]:=(clsL_one few_lx atoms_lx sorted_lx).symm
theorem bad_lx:badB lx=false:=by
 unfold badB;rw [cls_lx];decide
theorem of_lx:ex_.f lx=some ([q0,q1,q2],0):=by
 rw [of_f few_lx,bad_lx,cls_lx];rfl
theorem clsc_lx:Cls lx [q0,q1,q2]:=cls_of atoms_lx sorted_lx
theorem lo_:Short [q0,q1,q2]:=by
 intro x hx;simp only [List.mem_cons,List.not_mem_nil,or_false] at hx;rcases hx with rfl | rfl | rfl <;> decide
theorem ig_:[q0,q1,q2].map firstF=[0,97,98]:=by
 rw [List.map_cons,List.map_cons,List.map_cons,List.map_nil,(clsc_lx.first lo_ (x:=q0) (by simp)).1,(clsc_lx.first lo_ (x:=q1) (by simp)).1,(clsc_lx.first lo_ (x:=q2) (by simp)).1];rfl
theorem within_lx:withinF [q0,q1,q2] [⟨97,99⟩]=[1,2]:=by
 unfold withinF;rw [ig_];decide
open LX
theorem ints_ev {x y:List Int}(hm:(x.length:Int)<=1000000)(r:Bool)(hr:r=true↔x=y):Ev (fun k=>aw_.f k x y) r:=by
 unfold aw_.f;by_cases hl:x.length=y.length
 ·refine fq_ (by omega) ?_;have go: ∀ d i:Nat,i+d=x.length-> ∀ r:Bool,(r=true↔x.drop i=y.drop i)->Ev (fun k=>aw_.l0 k x y (i:Int)) r:=by
   intro d
   induction d with
   | zero=>
    intro i hi r hr;have:r=true:=hr.2 (by rw [List.drop_eq_nil_iff.2 (by omega),List.drop_eq_nil_iff.2 (by omega)]);subst this;exact Ev.step (f:=fun _=>some true) (fun k=>by rw [aw_.l0,if_neg (by omega)]) (Ev.now _)
   | succ d ih=>
    intro i hi r hr;have hx:i<x.length:=by omega
    have hy:i<y.length:=by omega
    have ex:rd x (i:Int)=x[i]:=by unfold rd;rw [Int.toNat_natCast,List.getD_eq_getElem?_getD,List.getElem?_eq_getElem hx];rfl
    have ey:rd y (i:Int)=y[i]:=by unfold rd;rw [Int.toNat_natCast,List.getD_eq_getElem?_getD,List.getElem?_eq_getElem hy];rfl
    rw [List.drop_eq_getElem_cons hx,List.drop_eq_getElem_cons hy,List.cons.injEq] at hr;by_cases he:x[i]=y[i]
    ·have:=ih (i+1) (by omega) r (by rw [hr];exact ⟨fun h=>h.2,fun h=>⟨he,h⟩⟩);refine Ev.step (f:=fun k=>aw_.l0 k x y ((i:Int)+1)) (fun k=>by rw [aw_.l0,if_pos (by omega),if_pos (by omega),if_pos (by omega),if_pos (by rw [ex,ey];exact he),w64 (n:=(i:Int)+1) (by omega) (by omega)]) ?_;exact this
    ·have:r=false:=by
      cases r with
      | false=>rfl
      | true=>exact absurd (hr.1 rfl).1 he
     subst this;exact Ev.step (f:=fun _=>some false) (fun k=>by rw [aw_.l0,if_pos (by omega),if_pos (by omega),if_pos (by omega),if_neg (by rw [ex,ey];exact he)]) (Ev.now _)
  exact go x.length 0 (by omega) r (by rw [List.drop_zero,List.drop_zero];exact hr)
 ·have:r=false:=by
   cases r with
   | false=>rfl
   | true=>exact absurd (congrArg List.length (hr.1 rfl)) hl
  subst this;exact eg_ (by omega) (Ev.now _)
open K
def xB:S27:=⟨[vA],[rB,rC],[],[vA.f0]⟩
theorem in_ab:inF [⟨98,98⟩] [[⟨97,99⟩]]=false:=by unfold inF;simp [eqF]
theorem in_aa:inF [⟨97,99⟩] [[⟨97,99⟩],[⟨98,98⟩]]=true:=by unfold inF;simp [eqF]
theorem in_n (y:List S74):inF y []=false:=rfl
theorem add_n (y:List S74):addF [] y=[y]:=by unfold addF;rw [if_neg (by rw [in_n];decide)];rfl
theorem form_A (xs:List (List S74)):formF pA xs=addF xs [⟨97,99⟩]:=by rw [ek_];rfl
theorem form_S (xs:List (List S74)):formF ⟨2,[⟨98,98⟩],[],[]⟩ xs=addF xs [⟨98,98⟩]:=by rw [ek_];rfl
theorem form_B (xs:List (List S74)):formF pB xs=addF xs [⟨98,98⟩]:=by rw [ek_];show formF ⟨2,[⟨98,98⟩],[],[]⟩ xs=_;exact form_S xs
theorem form_E (xs:List (List S74)):formF pE xs=xs:=by rw [ek_];rfl
theorem books_x:booksF [xB]=lx:=by
 show ruleF (ruleF [] rB) rC=lx;show formF pE (formF pA (formF pB (formF pA [])))=lx;rw [form_E,form_A,form_B,form_A,add_n];have h1:addF [[⟨97,99⟩]] [⟨98,98⟩]=[[⟨97,99⟩],[⟨98,98⟩]]:=by unfold addF;rw [if_neg (by rw [in_ab];decide)];rfl
 rw [h1];unfold addF;rw [if_pos in_aa]
theorem sets_B:formF pB []=[[⟨98,98⟩]]:=by rw [form_B,add_n]
theorem within_b:withinF [q0,q1,q2] [⟨98,98⟩]=[2]:=by
 unfold withinF;rw [ig_];decide
theorem tell_A:tellF [q0,q1,q2] pA=⟨2,[⟨97,99⟩],[1,2],[]⟩:=by rw [iy_,if_pos (show pA.f0=2 from rfl),show pA.f1=[⟨97,99⟩] from rfl,within_lx];rfl
theorem tell_S:tellF [q0,q1,q2] ⟨2,[⟨98,98⟩],[],[]⟩=⟨2,[⟨98,98⟩],[2],[]⟩:=by rw [iy_,if_pos (show (⟨2,[⟨98,98⟩],[],[]⟩:S45).f0=2 from rfl),show (⟨2,[⟨98,98⟩],[],[]⟩:S45).f1=[⟨98,98⟩] from rfl,within_b];rfl
theorem tell_B:tellF [q0,q1,q2] pB=⟨5,[],[],[⟨2,[⟨98,98⟩],[2],[]⟩]⟩:=by rw [iy_];show (⟨5,[],[],[tellF [q0,q1,q2] ⟨2,[⟨98,98⟩],[],[]⟩]⟩:S45)=_;rw [tell_S]
theorem told_x:xB.f1.map (tellR [q0,q1,q2])=[⟨3000,false,⟨2,[⟨97,99⟩],[1,2],[]⟩,⟨5,[],[],[⟨2,[⟨98,98⟩],[2],[]⟩]⟩,9⟩,tellR [q0,q1,q2] rC]:=by
 show [tellR [q0,q1,q2] rB,tellR [q0,q1,q2] rC]=_;have:tellR [q0,q1,q2] rB=⟨3000,false,⟨2,[⟨97,99⟩],[1,2],[]⟩,⟨5,[],[],[⟨2,[⟨98,98⟩],[2],[]⟩]⟩,9⟩:=by
  show (⟨3000,false,tellF [q0,q1,q2] pA,tellF [q0,q1,q2] pB,9⟩:S55)=_;rw [tell_A,tell_B]
 rw [this]
theorem word_x:eachF (classF [q0,q1,q2]) [120,97,98]=([0,1,2],0):=by decide
theorem chars_x:eachF (charF ([q0,q1,q2].map firstF)) [0,1,2]=([0,97,98],0):=by rw [ig_];decide
theorem chars_y:eachF (charF ([q0,q1,q2].map firstF)) [3]=([],1):=by rw [ig_];decide
theorem ju_:nodes pA=1:=by rw [fa_];rfl
theorem lz_:nodes pB=2:=by rw [fa_];show 1+([nodes ⟨2,[⟨98,98⟩],[],[]⟩].sum)=2;rw [fa_];rfl
theorem nodes_E:nodes pE=1:=by rw [fa_];rfl
theorem wide_A:Wide pA:=⟨pA,by decide,fun q hq=>nomatch hq⟩
theorem wide_B:Wide pB:=⟨pB,by decide,fun q hq=>by
 rw [List.mem_singleton.1 hq];exact ⟨_,by decide,fun q hq=>nomatch hq⟩⟩
theorem wide_E:Wide pE:=⟨pE,by decide,fun q hq=>nomatch hq⟩
theorem booksN_x:(([xB]:List S27).map bookN).sum<=1000000:=by
 show (nodes pA+nodes pB+(nodes pA+nodes pE+0))+0<=1000000;rw [ju_,lz_,nodes_E];decide
theorem wide_x: ∀ b∈([xB]:List S27),∀ r∈b.f1,Wide r.f2∧Wide r.f3:=by
 intro b hb r hr;rw [List.mem_singleton.1 hb] at hr;rcases List.mem_cons.1 hr with rfl | hr
 ·exact ⟨wide_A,wide_B⟩
 ·rw [List.mem_singleton.1 hr];exact ⟨wide_A,wide_E⟩
def qL:List (List S74):=[q0,q1,q2]
theorem of_x:ex_.f (booksF [xB])=some (qL,0):=by rw [books_x];exact of_lx
def rT:S55:=⟨3000,false,⟨2,[⟨97,99⟩],[1,2],[]⟩,⟨5,[],[],[⟨2,[⟨98,98⟩],[2],[]⟩]⟩,9⟩
theorem told_l:[rB,rC].map (tellR qL)=[rT,tellR qL rC]:=told_x
theorem word_l:eachF (classF qL) [120,97,98]=([0,1,2],0):=word_x
theorem chars_l:eachF (charF (qL.map firstF)) [0,1,2]=([0,97,98],0):=chars_x
theorem chars_n:eachF (charF (qL.map firstF)) [3]=([],1):=chars_y
theorem tell_l:tellF qL pA=⟨2,[⟨97,99⟩],[1,2],[]⟩:=tell_A
theorem nodes_x: ∀ r∈([rB,rC]:List S55),nodes r.f2<=1000000∧nodes r.f3<=1000000:=by
 intro r hr;rcases List.mem_cons.1 hr with rfl | hr
 ·exact ⟨by rw [show rB.f2=pA from rfl,ju_];decide,by rw [show rB.f3=pB from rfl,lz_];decide⟩
 ·rw [List.mem_singleton.1 hr];exact ⟨by rw [show rC.f2=pA from rfl,ju_];decide,by rw [show rC.f3=pE from rfl,nodes_E];decide⟩
end P
namespace LX
open Shelf
noncomputable def ops9raw:Array Oper:=match Tryz.f9.body with
 | some (.seq _ (.seq _ (.seq _ (.seq _ (.seq _ (.seq _ (.seq _ (.seq _ (.seq (.region _ o _) _)))))))))=>o
 | _=>#[]
noncomputable def ops9x:{ o:Array Oper // ops9raw=o }:=by
 refine ⟨?o,?h⟩
 case h=>
  unfold ops9raw Tryz.f9;dsimp only;rfl
noncomputable def ops9:Array Oper:=ops9x.1
def ord9:List Nat:=[0,1,2,3,4,5,6,7,8,9,10,11,12,13,14,15,16,17,18,19,20,21,22,23,24,25,26,27,28,29,30,31,32,33,34,35,36,37,38,39,40,41,42,43,44,45,46,47,48,49,50,51,52,53,54,55,56,57,58,59,60,61,62,63,64,65,66,67,68,69,70,75,77,71,72,73,74,78,79,80,81,76,82,83,84]
def fl9 (n:Nat):Array Bool:=(ord9.take n).foldl (fun a i=>a.setIfInBounds i true) (Array.replicate 85 false)
theorem c9_0:anyB .any ops9 (fl9 0) (fl9 1) 0=true:=by kernel_rfl
theorem c9_1:takeB .any ops9 [] (fl9 1) (fl9 2) 1=true:=by kernel_rfl
theorem c9_2:anyB .any ops9 (fl9 2) (fl9 3) 2=true:=by kernel_rfl
theorem c9_3:anyB .any ops9 (fl9 3) (fl9 4) 3=true:=by kernel_rfl
theorem c9_4:anyB .any ops9 (fl9 4) (fl9 5) 4=true:=by kernel_rfl
theorem c9_5:anyB .any ops9 (fl9 5) (fl9 6) 5=true:=by kernel_rfl
theorem c9_6:takeB .any ops9 [] (fl9 6) (fl9 7) 6=true:=by kernel_rfl
theorem c9_7:anyB .any ops9 (fl9 7) (fl9 8) 7=true:=by kernel_rfl
theorem c9_8:anyB .any ops9 (fl9 8) (fl9 9) 8=true:=by kernel_rfl
theorem c9_9:anyB .any ops9 (fl9 9) (fl9 10) 9=true:=by kernel_rfl
theorem c9_10:takeB .any ops9 [] (fl9 10) (fl9 11) 10=true:=by kernel_rfl
theorem c9_11:readyB .any ops9 (fl9 11) (fl9 12) 11=true:=by kernel_rfl
theorem c9_12:readyB .any ops9 (fl9 12) (fl9 13) 12=true:=by kernel_rfl
theorem c9_13:anyB .any ops9 (fl9 13) (fl9 14) 13=true:=by kernel_rfl
theorem c9_14:anyB .any ops9 (fl9 14) (fl9 15) 14=true:=by kernel_rfl
theorem c9_15:anyB .any ops9 (fl9 15) (fl9 16) 15=true:=by kernel_rfl
theorem c9_16:takeB .any ops9 [] (fl9 16) (fl9 17) 16=true:=by kernel_rfl
theorem c9_17:anyB .any ops9 (fl9 17) (fl9 18) 17=true:=by kernel_rfl
theorem c9_18:anyB .any ops9 (fl9 18) (fl9 19) 18=true:=by kernel_rfl
theorem c9_19:anyB .any ops9 (fl9 19) (fl9 20) 19=true:=by kernel_rfl
theorem c9_20:takeB .any ops9 [] (fl9 20) (fl9 21) 20=true:=by kernel_rfl
theorem c9_21:anyB .any ops9 (fl9 21) (fl9 22) 21=true:=by kernel_rfl
theorem c9_22:anyB .any ops9 (fl9 22) (fl9 23) 22=true:=by kernel_rfl
theorem c9_23:anyB .any ops9 (fl9 23) (fl9 24) 23=true:=by kernel_rfl
theorem c9_24:anyB .any ops9 (fl9 24) (fl9 25) 24=true:=by kernel_rfl
theorem c9_25:anyB .any ops9 (fl9 25) (fl9 26) 25=true:=by kernel_rfl
theorem c9_26:takeB .any ops9 [] (fl9 26) (fl9 27) 26=true:=by kernel_rfl
theorem c9_27:anyB .any ops9 (fl9 27) (fl9 28) 27=true:=by kernel_rfl
theorem c9_28:anyB .any ops9 (fl9 28) (fl9 29) 28=true:=by kernel_rfl
theorem c9_29:anyB .any ops9 (fl9 29) (fl9 30) 29=true:=by kernel_rfl
theorem c9_30:takeB .any ops9 [] (fl9 30) (fl9 31) 30=true:=by kernel_rfl
theorem c9_31:anyB .any ops9 (fl9 31) (fl9 32) 31=true:=by kernel_rfl
theorem c9_32:anyB .any ops9 (fl9 32) (fl9 33) 32=true:=by kernel_rfl
theorem c9_33:takeB .any ops9 [] (fl9 33) (fl9 34) 33=true:=by kernel_rfl
theorem c9_34:readyB .any ops9 (fl9 34) (fl9 35) 34=true:=by kernel_rfl
theorem c9_35:readyB .any ops9 (fl9 35) (fl9 36) 35=true:=by kernel_rfl
theorem c9_36:anyB .any ops9 (fl9 36) (fl9 37) 36=true:=by kernel_rfl
theorem c9_37:anyB .any ops9 (fl9 37) (fl9 38) 37=true:=by kernel_rfl
theorem c9_38:anyB .any ops9 (fl9 38) (fl9 39) 38=true:=by kernel_rfl
theorem c9_39:anyB .any ops9 (fl9 39) (fl9 40) 39=true:=by kernel_rfl
theorem c9_40:anyB .any ops9 (fl9 40) (fl9 41) 40=true:=by kernel_rfl
theorem c9_41:anyB .any ops9 (fl9 41) (fl9 42) 41=true:=by kernel_rfl
theorem c9_42:anyB .any ops9 (fl9 42) (fl9 43) 42=true:=by kernel_rfl
theorem c9_43:readyB .any ops9 (fl9 43) (fl9 44) 43=true:=by kernel_rfl
theorem c9_44:readyB .any ops9 (fl9 44) (fl9 45) 44=true:=by kernel_rfl
theorem c9_45:anyB .any ops9 (fl9 45) (fl9 46) 45=true:=by kernel_rfl
theorem c9_46:anyB .any ops9 (fl9 46) (fl9 47) 46=true:=by kernel_rfl
theorem c9_47:anyB .any ops9 (fl9 47) (fl9 48) 47=true:=by kernel_rfl
theorem c9_48:anyB .any ops9 (fl9 48) (fl9 49) 48=true:=by kernel_rfl
theorem c9_49:anyB .any ops9 (fl9 49) (fl9 50) 49=true:=by kernel_rfl
theorem c9_50:anyB .any ops9 (fl9 50) (fl9 51) 50=true:=by kernel_rfl
theorem c9_51:anyB .any ops9 (fl9 51) (fl9 52) 51=true:=by kernel_rfl
theorem c9_52:readyB .any ops9 (fl9 52) (fl9 53) 52=true:=by kernel_rfl
theorem c9_53:readyB .any ops9 (fl9 53) (fl9 54) 53=true:=by kernel_rfl
theorem c9_54:anyB .any ops9 (fl9 54) (fl9 55) 54=true:=by kernel_rfl
theorem c9_55:anyB .any ops9 (fl9 55) (fl9 56) 55=true:=by kernel_rfl
theorem c9_56:anyB .any ops9 (fl9 56) (fl9 57) 56=true:=by kernel_rfl
theorem c9_57:anyB .any ops9 (fl9 57) (fl9 58) 57=true:=by kernel_rfl
theorem c9_58:anyB .any ops9 (fl9 58) (fl9 59) 58=true:=by kernel_rfl
theorem c9_59:anyB .any ops9 (fl9 59) (fl9 60) 59=true:=by kernel_rfl
theorem c9_60:anyB .any ops9 (fl9 60) (fl9 61) 60=true:=by kernel_rfl
theorem c9_61:takeB .any ops9 [] (fl9 61) (fl9 62) 61=true:=by kernel_rfl
theorem c9_62:anyB .any ops9 (fl9 62) (fl9 63) 62=true:=by kernel_rfl
theorem c9_63:anyB .any ops9 (fl9 63) (fl9 64) 63=true:=by kernel_rfl
theorem c9_64:takeB .any ops9 [] (fl9 64) (fl9 65) 64=true:=by kernel_rfl
theorem c9_65:readyB .any ops9 (fl9 65) (fl9 66) 65=true:=by kernel_rfl
theorem c9_66:anyB .any ops9 (fl9 66) (fl9 67) 66=true:=by kernel_rfl
theorem c9_67:anyB .any ops9 (fl9 67) (fl9 68) 67=true:=by kernel_rfl
theorem c9_68:anyB .any ops9 (fl9 68) (fl9 69) 68=true:=by kernel_rfl
theorem c9_69:anyB .any ops9 (fl9 69) (fl9 70) 69=true:=by kernel_rfl
theorem c9_70:anyB .any ops9 (fl9 70) (fl9 71) 70=true:=by kernel_rfl
theorem c9_75:anyB .any ops9 (fl9 71) (fl9 72) 75=true:=by kernel_rfl
theorem c9_77:anyB .any ops9 (fl9 72) (fl9 73) 77=true:=by kernel_rfl
theorem c9_71:takeB .any ops9 [] (fl9 73) (fl9 74) 71=true:=by kernel_rfl
theorem c9_72:anyB .any ops9 (fl9 74) (fl9 75) 72=true:=by kernel_rfl
theorem c9_73:anyB .any ops9 (fl9 75) (fl9 76) 73=true:=by kernel_rfl
theorem c9_74:takeB .any ops9 [] (fl9 76) (fl9 77) 74=true:=by kernel_rfl
theorem c9_78:takeB .any ops9 [] (fl9 77) (fl9 78) 78=true:=by kernel_rfl
theorem c9_79:anyB .any ops9 (fl9 78) (fl9 79) 79=true:=by kernel_rfl
theorem c9_80:anyB .any ops9 (fl9 79) (fl9 80) 80=true:=by kernel_rfl
theorem c9_81:takeB .any ops9 [] (fl9 80) (fl9 81) 81=true:=by kernel_rfl
theorem c9_76:readyB .any ops9 (fl9 81) (fl9 82) 76=true:=by kernel_rfl
theorem c9_82:readyB .any ops9 (fl9 82) (fl9 83) 82=true:=by kernel_rfl
theorem c9_83:anyB .any ops9 (fl9 83) (fl9 84) 83=true:=by kernel_rfl
theorem c9_84:anyB .any ops9 (fl9 84) (fl9 85) 84=true:=by kernel_rfl
open YthfceiincmkccaaGreatW.PrintWords.Kd A K L B
open Go.Proofs.YthfceiincmkccaaGreat.P (xB qL rT of_x told_l word_l chars_l chars_n sets_B tell_l nodes_x booksN_x wide_x wide_A wide_B ju_ lz_ nodes_E)
theorem C_boxf {α:Type}{d:Kd α}{W:World}{g t:Nat}{fr:Nat × Nat}{inner:List Value}{xs:List α}(hb:W.heap[g]? =some (.cells inner.toArray t fr))(hr:Reps (d.K W) d.sz xs inner)(hm:xs.length<=9223372036854775807):d.C W (some ⟨g,0,none⟩) xs.length xs:=by
 refine ⟨rfl,hm,fun _=>⟨_,rfl,fun j p hp=>⟨(inner.drop (j*d.sz)).take d.sz,d.K_len (hr.2 j p hp),hr.2 j p hp,fun i u hu=>?_⟩⟩⟩;rw [add_plain,cell_of_row W g _ _ t fr hb];rw [List.getElem?_take] at hu;split at hu
 ·rw [List.getElem?_drop] at hu;simpa using hu
 ·cases hu
theorem C_u8f {W:World}{g t:Nat}{fr:Nat × Nat}{xs:List Int}(hb:W.heap[g]? =some (.cells (xs.map (Value.int .u8)).toArray t fr))(hm:xs.length<=9223372036854775807):Kd.C (Kd.int .u8) W (some ⟨g,0,none⟩) xs.length xs:=
 C_boxf hb (Kd.hd_ xs) hm
theorem ie_ (l:List Int)(A:Option Addr)(c:Nat)(B:Option Addr)(d:Nat)(W:World)(hl:l.length<=1000)(hA:Kd.C (Kd.int .i64) W A l.length l)(hc:l.length<=c)(hB:Kd.C (Kd.int .i64) W B l.length l)(hd:l.length<=d):
  Calls Tryz.prog 37 #[.slice A l.length c,.slice B l.length d] W fun e w'=>e=.returned (.bool true)∧Below W.heap.size W w':=by
 obtain ⟨k,hk⟩:=(P.ints_ev (x:=l) (y:=l) (by omega) true ⟨fun _=>rfl,fun _=>rfl⟩).rounds;refine (aw_.calls k A c l B d l true W hA hc hB hd hk).mono ?_;rintro e w' ⟨rfl,hdr⟩;exact ⟨rfl,hdr.below⟩
theorem alive10 (w:World):Calls Tryz.prog 9 #[] w fun e w'=>e=.returned (.bool true)∧Below w.heap.size w w':=by
 have hcv:=Lib.run_convert_bytes_const (P:=Tryz.prog) w 65 5 #[.int .u8 36,.int .u8 97,.int .u8 61,.int .u8 91,.int .u8 97,.int .u8 45,.int .u8 99,.int .u8 93,.int .u8 10,.int .u8 51,.int .u8 32,.int .u8 36,.int .u8 97,.int .u8 32,.int .u8 195,.int .u8 151,.int .u8 32,.int .u8 91,.int .u8 98,.int .u8 93,.int .u8 42,.int .u8 10,.int .u8 52,.int .u8 32,.int .u8 36,.int .u8 97,.int .u8 32,.int .u8 195,.int .u8 183] 29 29 Tryz.underlying65 Tryz.underlying5;obtain ⟨W1,hW1⟩: ∃ W_,W_=w.alloc (.cells #[.int .u8 36,.int .u8 97,.int .u8 61,.int .u8 91,.int .u8 97,.int .u8 45,.int .u8 99,.int .u8 93,.int .u8 10,.int .u8 51,.int .u8 32,.int .u8 36,.int .u8 97,.int .u8 32,.int .u8 195,.int .u8 151,.int .u8 32,.int .u8 91,.int .u8 98,.int .u8 93,.int .u8 42,.int .u8 10,.int .u8 52,.int .u8 32,.int .u8 36,.int .u8 97,.int .u8 32,.int .u8 195,.int .u8 183] 5 (29,30)):=⟨_,rfl⟩;have hb1:Below w.heap.size w W1:=by rw [hW1];exact ab_ (Below.refl _ _) _
 have hx1:W1.heap[w.heap.size]? =some (.cells (lit.map (Value.int .u8)).toArray 5 (29,30)):=by rw [hW1];exact aj_ _ _
 have HRD:=Sd.m (lit_read W1 (some ⟨w.heap.size,0,none⟩) 29 (C_u8f (xs:=lit) hx1 (by decide)) (Nat.le_refl _));have HB1:=Sd.m hb1;have HW1:=Sd.m hW1;clear hb1 hx1 hW1;go_enter Tryz.func9,Tryz.ntmps9;go_wp2_with fail;rw [←HW1.out];refine HRD.out.mono ?_;rintro e V ⟨AV,cv,AR,cr,AU,cu,rfl,h1,h2,h3,hF1,hF2,hF3,hb⟩;obtain ⟨V2,hV2⟩: ∃ W_,W_=(V.alloc (.cells #[.slice AV 1 cv,.slice AR 2 cr,.slice none 0 0,.slice AU 1 cu] 27)).alloc (.cells #[.slice AV 1 cv,.slice AR 2 cr,.slice none 0 0,.slice AU 1 cu] 27):=⟨_,rfl⟩;have ea:(V.alloc (.cells #[.slice AV 1 cv,.slice AR 2 cr,.slice none 0 0,.slice AU 1 cu] 27)).heap.size=V.heap.size+1:=Array.size_push _;have hb2:Below V.heap.size V V2:=by rw [hV2];exact ab_ (ab_ (Below.refl _ _) _) _
 have hx2:V2.heap[V.heap.size]? =some (.cells #[.slice AV 1 cv,.slice AR 2 cr,.slice none 0 0,.slice AU 1 cu] 27 (0,0)):=by rw [hV2];exact am_ (aj_ V _) _
 have hr2:V2.heap[V.heap.size+1]? =some (.cells #[.slice AV 1 cv,.slice AR 2 cr,.slice none 0 0,.slice AU 1 cu] 27 (0,0)):=by rw [hV2];exact ea ▸ aj_ (V.alloc (.cells #[.slice AV 1 cv,.slice AR 2 cr,.slice none 0 0,.slice AU 1 cu] 27)) _
 have hF:Kd.F k27 V2 (fun j=>W1.heap.size<=j) (some ⟨V.heap.size+1,0,none⟩) 1 [xB]:=F_one (cs:=[.slice AV 1 cv,.slice AR 2 cr,.slice none 0 0,.slice AU 1 cu]) hr2 (by have:=hb.size;omega) (k27_mkF V2 _ xB h1 (F_below hF1 hb2) h2 (F_below hF2 hb2) (Nat.le_refl _) (F_nil _ _ _) h3 (F_below hF3 hb2));have HOF:=Sd.m (hr_ [xB] V2 (some ⟨V.heap.size+1,0,none⟩) 1 (Nat.le_refl _) (F_now hF) booksN_x wide_x qL 0 of_x);have HB2:=Sd.m (HB1.out.trans ((hb.trans (hb2.mono hb.size)).mono HB1.out.size));have HX2:=Sd.m hx2;have HR2:=Sd.m (F_below hF2 hb2);have HV2:=Sd.m hV2;clear ea hb hb2 hx2 hr2 hF hF1 hF2 hF3 hV2 hcv;go_wp2_with fail;rw [←HV2.out];refine HOF.out.mono ?_;rintro e V3 ⟨v,rfl,hN,hb⟩;obtain ⟨A4,c4,rfl⟩:=N_slice hN;have HQ3:=Sd.m (N_reads' hN).2;have x0:=bc_ (ag_ HX2.out hb) 0 rfl;have x1:=bc_ (ag_ HX2.out hb) 1 rfl;have x2:=bc_ (ag_ HX2.out hb) 2 rfl;have x3:=bc_ (ag_ HX2.out hb) 3 rfl;have HBK:Sd (Calls Tryz.prog 28 #[.agg #[.slice AV 1 cv,.slice AR 2 cr,.slice none 0 0,.slice AU 1 cu],.slice A4 3 c4] V3 fun e w'=> ∃ R cR,e=.returned (.agg #[.slice AV 1 cv,.slice R 2 cR,.slice none 0 0,.slice AU 1 cu])∧2<=cR∧Kd.C k55 w' R 2 [rT,tellR qL rC]∧Below V3.heap.size V3 w'):=⟨by
  have h:=book_calls qL (by decide) V3 A4 c4 HQ3.out.1 HQ3.out.2 xB AV cv AR cr none 0 AU cu h2 (F_now (F_below HR2.out hb)) (by decide) nodes_x;have e:([rB,rC]:List S55).map (tellR qL)=[rT,tellR qL rC]:=told_l;refine h.mono ?_;rintro e_ w' ⟨R,cR,he,hc,hC,hb_⟩;exact ⟨R,cR,he,hc,by rw [←e];exact hC,hb_⟩⟩
 have B3:=Sd.m hb;have HX3:=Sd.m (ag_ HX2.out hb);have hq3:qL.length=3:=rfl;rw [hq3];clear hN hb hq3;go_wp2_with fail;refine HBK.out.mono ?_;rintro e V4 ⟨R,cR,rfl,hcR,hCY,hb⟩;clear x0 x1 x2 x3;obtain ⟨V6,hV6⟩: ∃ W_,W_=(V4.alloc (.cells #[.slice AV 1 cv,.slice R 2 cR,.slice none 0 0,.slice AU 1 cu] 27)).alloc (.cells #[.int .i64 120,.int .i64 97,.int .i64 98] 3):=⟨_,rfl⟩;have ea:(V4.alloc (.cells #[.slice AV 1 cv,.slice R 2 cR,.slice none 0 0,.slice AU 1 cu] 27)).heap.size=V4.heap.size+1:=Array.size_push _;have hb6:Below V4.heap.size V4 V6:=by rw [hV6];exact ab_ (ab_ (Below.refl _ _) _) _
 have hy6:V6.heap[V4.heap.size]? =some (.cells #[.slice AV 1 cv,.slice R 2 cR,.slice none 0 0,.slice AU 1 cu] 27 (0,0)):=by rw [hV6];exact am_ (aj_ V4 _) _
 have hi6:V6.heap[V4.heap.size+1]? =some (.cells (([120,97,98]:List Int).map (Value.int .i64)).toArray 3 (0,0)):=by rw [hV6];exact ea ▸ aj_ (V4.alloc (.cells #[.slice AV 1 cv,.slice R 2 cR,.slice none 0 0,.slice AU 1 cu] 27)) _
 have b36:=hb.trans (hb6.mono hb.size);have hq6:=Kd.C_below HQ3.out.2 b36;have HWD:Sd (Calls Tryz.prog 33 #[.slice A4 3 c4,.slice (some ⟨V4.heap.size+1,0,none⟩) 3 3] V6 fun e w'=> ∃ A c,e=.returned (.tuple #[.slice A 3 c,.int .i64 0])∧3<=c∧Kd.C (Kd.int .i64) w' A 3 [0,1,2]∧Below V6.heap.size V6 w'):=⟨by
  have h:=word_calls A4 c4 qL (some ⟨V4.heap.size+1,0,none⟩) 3 [120,97,98] V6 hq6 HQ3.out.1 (C_ints (xs:=[120,97,98]) hi6 (by decide)) (Nat.le_refl _) (by decide);rw [word_l] at h;refine h.mono ?_;rintro e_ w' ⟨v,he,hR,hb_⟩;obtain ⟨A,c,rfl⟩:=R_slice hR;have hr:=R_reads' hR;exact ⟨A,c,he,hr.2.1,hr.2.2,hb_⟩⟩
 have B6:=Sd.m (B3.out.trans (b36.mono B3.out.size));have HX6:=Sd.m (ag_ HX3.out b36);have HY6:=Sd.m hy6;have HQ6:=Sd.m hq6;have HCY6:=Sd.m (Kd.C_below hCY hb6);have HR6:=Sd.m (F_below HR2.out (B3.out.trans (b36.mono B3.out.size)));have HV6:=Sd.m hV6;clear ea hb hb6 hy6 hi6 hV6 hCY hq6 b36;go_wp2_with fail;rw [←HV6.out];refine HWD.out.mono ?_;rintro e V7 ⟨A7,c7,rfl,hc7,hC7,hb⟩;have HCH:Sd (Calls Tryz.prog 35 #[.slice A4 3 c4,.slice A7 3 c7] V7 fun e w'=> ∃ A c,e=.returned (.tuple #[.slice A 3 c,.int .i64 0])∧3<=c∧Kd.C (Kd.int .i64) w' A 3 [0,97,98]∧Below V7.heap.size V7 w'):=⟨by
  have h:=kf_ A4 c4 qL A7 c7 [0,1,2] V7 (Kd.C_below HQ6.out hb) HQ3.out.1 hC7 hc7 (by decide) (by decide);rw [chars_l] at h;refine h.mono ?_;rintro e_ w' ⟨v,he,hR,hb_⟩;obtain ⟨A,c,rfl⟩:=R_slice hR;have hr:=R_reads' hR;exact ⟨A,c,he,hr.2.1,hr.2.2,hb_⟩⟩
 have B7:=Sd.m hb;have HC7:=Sd.m (And.intro hc7 hC7);clear hb hc7 hC7;go_wp2_with fail;refine HCH.out.mono ?_;rintro e V8 ⟨A8,c8,rfl,hc8,hC8,hb⟩;obtain ⟨V9,hV9⟩: ∃ W_,W_=V8.alloc (.cells #[.int .i64 3] 3):=⟨_,rfl⟩;have hb9:Below V8.heap.size V8 V9:=by rw [hV9];exact ab_ (Below.refl _ _) _
 have hi9:V9.heap[V8.heap.size]? =some (.cells (([3]:List Int).map (Value.int .i64)).toArray 3 (0,0)):=by rw [hV9];exact aj_ _ _
 have b79:=hb.trans (hb9.mono hb.size);have b69:=B7.out.trans (b79.mono B7.out.size);have HCN:Sd (Calls Tryz.prog 35 #[.slice A4 3 c4,.slice (some ⟨V8.heap.size,0,none⟩) 1 1] V9 fun e w'=> ∃ A c,e=.returned (.tuple #[.slice A 0 c,.int .i64 1])∧Below V9.heap.size V9 w'):=⟨by
  have h:=kf_ A4 c4 qL (some ⟨V8.heap.size,0,none⟩) 1 [3] V9 (Kd.C_below HQ6.out b69) HQ3.out.1 (C_ints (xs:=[3]) hi9 (by decide)) (Nat.le_refl _) (by decide) (by decide);rw [chars_n] at h;refine h.mono ?_;rintro e_ w' ⟨v,he,hR,hb_⟩;obtain ⟨A,c,rfl⟩:=R_slice hR;exact ⟨A,c,he,hb_⟩⟩
 have B9:=Sd.m b69;have HC7b:=Sd.m (Kd.C_below HC7.out.2 b79);have HC8:=Sd.m (And.intro hc8 (Kd.C_below hC8 hb9));have HV9:=Sd.m hV9;clear hb hb9 hi9 hV9 b79 b69 hc8 hC8;go_wp2_with fail;rw [←HV9.out];refine HCN.out.mono ?_;rintro e V10 ⟨A10,c10,rfl,hb⟩;have b610:=B9.out.trans (hb.mono B9.out.size);obtain ⟨Vd,hVd⟩: ∃ W_,W_=V10.drew:=⟨_,rfl⟩;have hbd:Below V10.heap.size V10 Vd:=by rw [hVd];exact ca_ (Below.refl _ _)
 have h9d:=hb.trans (hbd.mono hb.size);have h6d:=b610.trans (hbd.mono b610.size);obtain ⟨ay,P3,p3,P4,p4,P5,p5,P7,p7,P8,p8,P9,p9,rfl,y0,y1,y2,y3,y4,y5,y6,y7,y8,y9,y10,l3,g3,l4,g4,l5,g5,l7,g7,l8,g8,l9,g9⟩:=kh_ (Kd.C_below HCY6.out h6d) 0 (by decide) (by decide);obtain ⟨ak,K1,m1,K2,m2,K3,m3,rfl,z0,z1,z2,z3,n1,e1,n2,e2,n3,e3⟩:=ki_ (n:=1) (xs:=[⟨2,[⟨98,98⟩],[2],[]⟩]) g9 0 (by decide) (by decide);obtain ⟨ax,Q3,r3,Q4,r4,Q5,r5,Q7,r7,Q8,r8,Q9,r9,rfl,t0,t1,t2,t3,t4,t5,t6,t7,t8,t9,t10,o3,f3,o4,f4,o5,f5,o7,f7,o8,f8,o9,f9⟩:=kh_ (F_now (F_below HR6.out h6d)) 0 (by decide) (by decide);have ey: ∀ a:Addr,a.add ((0:Int).toNat*11)=a:=fun a=>by simp [Addr.add]
 have ez: ∀ a:Addr,a.add ((0:Int).toNat*4)=a:=fun a=>by simp [Addr.add]
 rw [ey] at y2 y3 y4 y5 y9 t2 t3 t4 t5 t6 t7 t8 t9;rw [ez] at z2;have HS:Sd (∀ w',Below Vd.heap.size Vd w'->w'.cell? ⟨V4.heap.size,1,none⟩=some (.slice (some ay) 2 cR)∧w'.cell? ⟨V.heap.size,1,none⟩=some (.slice (some ax) 2 cr)∧w'.cell? ⟨ay.block,ay.off+2,none⟩=some (.int .i64 2)∧w'.cell? ⟨ay.block,ay.off+3,none⟩=some (.slice P3 1 p3)∧w'.cell? ⟨ay.block,ay.off+4,none⟩=some (.slice P4 2 p4)∧w'.cell? ⟨ay.block,ay.off+5,none⟩=some (.slice P5 0 p5)∧w'.cell? ⟨ay.block,ay.off+9,none⟩=some (.slice (some ak) 1 p9)∧w'.cell? ⟨ak.block,ak.off+2,none⟩=some (.slice K2 1 m2)∧w'.cell? ⟨ax.block,ax.off+2,none⟩=some (.int .i64 2)∧w'.cell? ⟨ax.block,ax.off+3,none⟩=some (.slice Q3 1 r3)∧w'.cell? ⟨ax.block,ax.off+4,none⟩=some (.slice Q4 0 r4)∧w'.cell? ⟨ax.block,ax.off+5,none⟩=some (.slice Q5 0 r5)∧w'.cell? ⟨ax.block,ax.off+6,none⟩=some (.int .i64 5)∧w'.cell? ⟨ax.block,ax.off+7,none⟩=some (.slice Q7 0 r7)∧w'.cell? ⟨ax.block,ax.off+8,none⟩=some (.slice Q8 0 r8)∧w'.cell? ⟨ax.block,ax.off+9,none⟩=some (.slice Q9 1 r9)):=by
  refine ⟨fun w' hw=>?_⟩;have cw:=fun (a:Addr) (v:Value) (h:Vd.cell? a=some v)=>(hw.cell (bl__ Vd _ h)).trans h;have hx:=ag_ (ag_ HX6.out h6d) hw;have hy:=ag_ (ag_ HY6.out h6d) hw;exact ⟨(af_ hy 1).trans rfl,(af_ hx 1).trans rfl,cw _ _ y2,cw _ _ y3,cw _ _ y4,cw _ _ y5,cw _ _ y9,cw _ _ z2,cw _ _ t2,cw _ _ t3,cw _ _ t4,cw _ _ t5,cw _ _ t6,cw _ _ t7,cw _ _ t8,cw _ _ t9⟩
 have HP4:Sd (2<=p4∧Kd.C (Kd.int .i64) Vd P4 2 [1,2]):=⟨l4,g4⟩;have HK2:Sd (1<=m2∧Kd.C (Kd.int .i64) Vd K2 1 [2]):=⟨n2,e2⟩;have HC7d:Sd (3<=c7∧Kd.C (Kd.int .i64) Vd A7 3 [0,1,2]):=⟨HC7.out.1,Kd.C_below HC7b.out h9d⟩;have HC8d:Sd (3<=c8∧Kd.C (Kd.int .i64) Vd A8 3 [0,97,98]):=⟨HC8.out.1,Kd.C_below HC8.out.2 h9d⟩;have BD:=Sd.m (Below.refl Vd.heap.size Vd);have HSETS:Sd (∀ W,Below Vd.heap.size Vd W->Calls Tryz.prog 21 #[.agg #[.int .i64 5,.slice Q7 0 r7,.slice Q8 0 r8,.slice Q9 1 r9]] W fun e w'=> ∃ A c,e=.returned (.slice A 1 c)∧Below W.heap.size W w'):=by
  refine ⟨fun W hW=>?_⟩;have h:=sets_calls pB W (by rw [lz_];decide) wide_B Q7 r7 Q8 r8 Q9 r9 o7 (Kd.C_below f7 hW) o9 (Kd.C_below f9 hW);rw [sets_B] at h;refine h.mono ?_;rintro e_ w' ⟨A,c,he,_,_,hb_⟩;exact ⟨A,c,he,hb_⟩
 have HTELL:Sd (∀ W,Below Vd.heap.size Vd W->Calls Tryz.prog 19 #[.agg #[.int .i64 2,.slice Q3 1 r3,.slice Q4 0 r4,.slice Q5 0 r5],.slice A4 3 c4] W fun e w'=> ∃ E1 e1 E2 e2 E3 e3,e=.returned (.agg #[.int .i64 2,.slice E1 1 e1,.slice E2 2 e2,.slice E3 0 e3])∧((1<=e1∧Kd.C k74 w' E1 1 [⟨97,99⟩])∧(2<=e2∧Kd.C (Kd.int .i64) w' E2 2 [1,2])∧Kd.C k45 w' E3 0 [])∧Below W.heap.size W w'):=by
  refine ⟨fun W hW=>?_⟩;have h:=em_ qL (by decide) Vd A4 c4 HQ3.out.1 (Kd.C_below HQ6.out h6d) pA W hW (by rw [ju_];decide) (fun k=>k<W.heap.size) Q3 r3 Q4 r4 Q5 r5 o3 (C_F k74_heap (Kd.C_below f3 hW)) o5 (C_F ma_ (Kd.C_below f5 hW));rw [tell_l] at h;refine h.mono ?_;rintro e_ w' ⟨v,he,⟨E1,e1,E2,e2,E3,e3,rfl,a1,b1,a2,b2,a3,b3⟩,hb_⟩;exact ⟨E1,e1,E2,e2,E3,e3,he,⟨⟨a1,F_now b1⟩,⟨a2,F_now b2⟩,F_now b3⟩,hb_⟩
 have HSAME:Sd (∀ W,Below Vd.heap.size Vd W-> ∀ E1 e1 E2 e2 E3 e3,((1<=e1∧Kd.C k74 W E1 1 [⟨97,99⟩])∧(2<=e2∧Kd.C (Kd.int .i64) W E2 2 [1,2])∧Kd.C k45 W E3 0 [])->Calls Tryz.prog 20 #[.agg #[.int .i64 2,.slice E1 1 e1,.slice E2 2 e2,.slice E3 0 e3],.agg #[.int .i64 2,.slice P3 1 p3,.slice P4 2 p4,.slice P5 0 p5]] W fun e w'=>e=.returned (.bool true)∧Below W.heap.size W w'):=by
  refine ⟨fun W hW E1 e1 E2 e2 E3 e3 hE=>?_⟩;exact same_refl ⟨2,[⟨97,99⟩],[1,2],[]⟩ ⟨_,by decide,by decide,by decide,fun q hq=>nomatch hq⟩ W E1 e1 E2 e2 E3 e3 P3 p3 P4 p4 P5 p5 hE.1.1 hE.1.2 hE.2.1.1 hE.2.1.2 (Nat.zero_le _) hE.2.2 l3 (Kd.C_below g3 hW) l4 (Kd.C_below g4 hW) l5 (Kd.C_below g5 hW)
 have HJ12:Sd (∀ W,Below Vd.heap.size Vd W-> ∀ B,Kd.C (Kd.int .i64) W B 2 [1,2]->Calls Tryz.prog 37 #[.slice P4 2 p4,.slice B 2 2] W fun e w'=>e=.returned (.bool true)∧Below W.heap.size W w'):=⟨fun W hW B hB=>ie_ [1,2] P4 p4 B 2 W (by decide) (Kd.C_below HP4.out.2 hW) HP4.out.1 hB (Nat.le_refl _)⟩;have HJ35:Sd (∀ W,Below Vd.heap.size Vd W-> ∀ B,Kd.C (Kd.int .i64) W B 1 [2]->Calls Tryz.prog 37 #[.slice K2 1 m2,.slice B 1 1] W fun e w'=>e=.returned (.bool true)∧Below W.heap.size W w'):=⟨fun W hW B hB=>ie_ [2] K2 m2 B 1 W (by decide) (Kd.C_below HK2.out.2 hW) HK2.out.1 hB (Nat.le_refl _)⟩;have HJ44:Sd (∀ W,Below Vd.heap.size Vd W-> ∀ B,Kd.C (Kd.int .i64) W B 3 [0,1,2]->Calls Tryz.prog 37 #[.slice A7 3 c7,.slice B 3 3] W fun e w'=>e=.returned (.bool true)∧Below W.heap.size W w'):=⟨fun W hW B hB=>ie_ [0,1,2] A7 c7 B 3 W (by decide) (Kd.C_below HC7d.out.2 hW) HC7d.out.1 hB (Nat.le_refl _)⟩;have HJ53:Sd (∀ W,Below Vd.heap.size Vd W-> ∀ B,Kd.C (Kd.int .i64) W B 3 [0,97,98]->Calls Tryz.prog 37 #[.slice A8 3 c8,.slice B 3 3] W fun e w'=>e=.returned (.bool true)∧Below W.heap.size W w'):=⟨fun W hW B hB=>ie_ [0,97,98] A8 c8 B 3 W (by decide) (Kd.C_below HC8d.out.2 hW) HC8d.out.1 hB (Nat.le_refl _)⟩;have HBD:=Sd.m (HB2.out.trans ((B6.out.trans (h6d.mono B6.out.size)).mono HB2.out.size));have y1:=bc_ (ag_ HY6.out b610) 1 rfl;clear hbd h9d h6d b610 hb y0 y2 y3 y4 y5 y6 y7 y8 y9 y10 l3 g3 l4 g4 l5 g5 l7 g7 l8 g8 l9 g9 z0 z1 z2 z3 n1 e1 n2 e2 n3 e3 t0 t1 t2 t3 t4 t5 t6 t7 t8 t9 t10 o3 f3 o4 f4 o5 f5 o7 f7 o8 f8 o9 f9 ey ez;clear y1;go_upto_region 9 with fail;refine start_ (n:=85) (S:=fun w'=>w'.cell? ⟨V4.heap.size,1,none⟩=some (.slice (some ay) 2 cR)∧w'.cell? ⟨V.heap.size,1,none⟩=some (.slice (some ax) 2 cr)∧w'.cell? ⟨ay.block,ay.off+2,none⟩=some (.int .i64 2)∧w'.cell? ⟨ay.block,ay.off+3,none⟩=some (.slice P3 1 p3)∧w'.cell? ⟨ay.block,ay.off+4,none⟩=some (.slice P4 2 p4)∧w'.cell? ⟨ay.block,ay.off+5,none⟩=some (.slice P5 0 p5)∧w'.cell? ⟨ay.block,ay.off+9,none⟩=some (.slice (some ak) 1 p9)∧w'.cell? ⟨ak.block,ak.off+2,none⟩=some (.slice K2 1 m2)∧w'.cell? ⟨ax.block,ax.off+2,none⟩=some (.int .i64 2)∧w'.cell? ⟨ax.block,ax.off+3,none⟩=some (.slice Q3 1 r3)∧w'.cell? ⟨ax.block,ax.off+4,none⟩=some (.slice Q4 0 r4)∧w'.cell? ⟨ax.block,ax.off+5,none⟩=some (.slice Q5 0 r5)∧w'.cell? ⟨ax.block,ax.off+6,none⟩=some (.int .i64 5)∧w'.cell? ⟨ax.block,ax.off+7,none⟩=some (.slice Q7 0 r7)∧w'.cell? ⟨ax.block,ax.off+8,none⟩=some (.slice Q8 0 r8)∧w'.cell? ⟨ax.block,ax.off+9,none⟩=some (.slice Q9 1 r9)) (ds:=[]) (fl9 0) (by kernel_rfl) rfl rfl (by rw [←hVd];exact (HS.out _ (Below.refl _ _))) (fun hHeld=>?_);rw [←hVd] at hHeld ⊢;clear hVd;refine puc_ 0 60 c9_0 ?_;refine tac_ 1 61 c9_1 hHeld ?_;refine puc_ 2 62 c9_2 ?_;refine puc_ 3 63 c9_3 ?_;refine puc_ 4 64 c9_4 ?_;refine puc_ 5 65 c9_5 ?_;refine tac_ 6 66 c9_6 hHeld ?_;refine puc_ 7 67 c9_7 ?_;refine puc_ 8 68 c9_8 ?_;refine puc_ 9 69 c9_9 ?_;refine tac_ 10 70 c9_10 hHeld ?_;refine one_ (i:=11) (N:=some 71) (fl9 12) rfl rfl c9_11 (by decide) (fun K hK=>?_);refine value_ (w1:=?_) (v:=?_) (by rfl) rfl ?_ ?_;rotate_left 2
 ·go_simp;constructor
  ·rfl
  ·rfl
 have hg_:=aj_ Vd (.cells #[.int .i64 1,.int .i64 2] 3);have hb_:=ab_ (Below.refl Vd.heap.size Vd) (.cells #[.int .i64 1,.int .i64 2] 3);generalize hW_:Vd.alloc (.cells #[.int .i64 1,.int .i64 2] 3)=U1 at hg_ hb_ ⊢;have HI:=Sd.m (C_ints (xs:=[1,2]) hg_ (by decide));have BU1:=Sd.m (BD.out.trans (hb_.mono BD.out.size));clear hg_ hb_ hW_;refine hK.out _ _ (HS.out _ BU1.out) (fun hHeld=>?_);clear hK K;refine no_ 71 ?_;refine one_ (i:=12) (N:=some 72) (fl9 13) rfl rfl c9_12 (by decide) (fun K hK=>?_);refine goes_ Tryz.func37 (by kernel_rfl) rfl #[.slice P4 2 p4,.slice (some ⟨Vd.heap.size,0,none⟩) 2 2] (by rfl) rfl rfl (by simp only [List.map_toArray,List.map_cons,List.map_nil];rfl) ?_;(with_reducible refine (HJ12.out U1 BU1.out _ HI.out).mono ?_);rintro e_ U2 ⟨rfl,hb_⟩;refine ⟨_,rfl,?_⟩;have BU2:=Sd.m (BU1.out.trans (hb_.mono BU1.out.size));clear HI;clear hb_;refine hK.out _ _ (HS.out _ BU2.out) (fun hHeld=>?_);clear hK K;refine no_ 72 ?_;refine puc_ 13 73 c9_13 ?_;refine puc_ 14 74 c9_14 ?_;refine puc_ 15 75 c9_15 ?_;refine tac_ 16 76 c9_16 hHeld ?_;refine puc_ 17 77 c9_17 ?_;refine puc_ 18 78 c9_18 ?_;refine puc_ 19 79 c9_19 ?_;refine tac_ 20 80 c9_20 hHeld ?_;refine puc_ 21 81 c9_21 ?_;refine puc_ 22 82 c9_22 ?_;refine puc_ 23 83 c9_23 ?_;refine puc_ 24 84 c9_24 ?_;refine puc_ 25 85 c9_25 ?_;refine tac_ 26 86 c9_26 hHeld ?_;refine puc_ 27 87 c9_27 ?_;refine puc_ 28 88 c9_28 ?_;refine puc_ 29 89 c9_29 ?_;refine tac_ 30 90 c9_30 hHeld ?_;refine puc_ 31 91 c9_31 ?_;refine puc_ 32 92 c9_32 ?_;refine tac_ 33 93 c9_33 hHeld ?_;refine one_ (i:=34) (N:=some 94) (fl9 35) rfl rfl c9_34 (by decide) (fun K hK=>?_);refine value_ (w1:=?_) (v:=?_) (by rfl) rfl ?_ ?_;rotate_left 2
 ·go_simp;constructor
  ·rfl
  ·rfl
 have hg_:=aj_ U2 (.cells #[.int .i64 2] 3);have hb_:=ab_ (Below.refl U2.heap.size U2) (.cells #[.int .i64 2] 3);generalize hW_:U2.alloc (.cells #[.int .i64 2] 3)=U3 at hg_ hb_ ⊢;have HI:=Sd.m (C_ints (xs:=[2]) hg_ (by decide));have BU3:=Sd.m (BU2.out.trans (hb_.mono BU2.out.size));clear hg_ hb_ hW_;refine hK.out _ _ (HS.out _ BU3.out) (fun hHeld=>?_);clear hK K;refine no_ 94 ?_;refine one_ (i:=35) (N:=some 95) (fl9 36) rfl rfl c9_35 (by decide) (fun K hK=>?_);refine goes_ Tryz.func37 (by kernel_rfl) rfl #[.slice K2 1 m2,.slice (some ⟨U2.heap.size,0,none⟩) 1 1] (by rfl) rfl rfl (by simp only [List.map_toArray,List.map_cons,List.map_nil];rfl) ?_;(with_reducible refine (HJ35.out U3 BU3.out _ HI.out).mono ?_);rintro e_ U4 ⟨rfl,hb_⟩;refine ⟨_,rfl,?_⟩;have BU4:=Sd.m (BU3.out.trans (hb_.mono BU3.out.size));clear HI;clear hb_;refine hK.out _ _ (HS.out _ BU4.out) (fun hHeld=>?_);clear hK K;refine no_ 95 ?_;refine puc_ 36 96 c9_36 ?_;refine puc_ 37 97 c9_37 ?_;refine puc_ 38 98 c9_38 ?_;refine puc_ 39 99 c9_39 ?_;refine puc_ 40 100 c9_40 ?_;refine puc_ 41 101 c9_41 ?_;refine puc_ 42 102 c9_42 ?_;refine one_ (i:=43) (N:=some 103) (fl9 44) rfl rfl c9_43 (by decide) (fun K hK=>?_);refine value_ (w1:=?_) (v:=?_) (by rfl) rfl ?_ ?_;rotate_left 2
 ·go_simp;constructor
  ·rfl
  ·rfl
 have hg_:=aj_ U4 (.cells #[.int .i64 0,.int .i64 1,.int .i64 2] 3);have hb_:=ab_ (Below.refl U4.heap.size U4) (.cells #[.int .i64 0,.int .i64 1,.int .i64 2] 3);generalize hW_:U4.alloc (.cells #[.int .i64 0,.int .i64 1,.int .i64 2] 3)=U5 at hg_ hb_ ⊢;have HI:=Sd.m (C_ints (xs:=[0,1,2]) hg_ (by decide));have BU5:=Sd.m (BU4.out.trans (hb_.mono BU4.out.size));clear hg_ hb_ hW_;refine hK.out _ _ (HS.out _ BU5.out) (fun hHeld=>?_);clear hK K;refine no_ 103 ?_;refine one_ (i:=44) (N:=some 104) (fl9 45) rfl rfl c9_44 (by decide) (fun K hK=>?_);refine goes_ Tryz.func37 (by kernel_rfl) rfl #[.slice A7 3 c7,.slice (some ⟨U4.heap.size,0,none⟩) 3 3] (by rfl) rfl rfl (by simp only [List.map_toArray,List.map_cons,List.map_nil];rfl) ?_;(with_reducible refine (HJ44.out U5 BU5.out _ HI.out).mono ?_);rintro e_ U6 ⟨rfl,hb_⟩;refine ⟨_,rfl,?_⟩;have BU6:=Sd.m (BU5.out.trans (hb_.mono BU5.out.size));clear HI;clear hb_;refine hK.out _ _ (HS.out _ BU6.out) (fun hHeld=>?_);clear hK K;refine no_ 104 ?_;refine puc_ 45 105 c9_45 ?_;refine puc_ 46 106 c9_46 ?_;refine puc_ 47 107 c9_47 ?_;refine puc_ 48 108 c9_48 ?_;refine puc_ 49 109 c9_49 ?_;refine puc_ 50 110 c9_50 ?_;refine puc_ 51 111 c9_51 ?_;refine one_ (i:=52) (N:=some 112) (fl9 53) rfl rfl c9_52 (by decide) (fun K hK=>?_);refine value_ (w1:=?_) (v:=?_) (by rfl) rfl ?_ ?_;rotate_left 2
 ·go_simp;constructor
  ·rfl
  ·rfl
 have hg_:=aj_ U6 (.cells #[.int .i64 0,.int .i64 97,.int .i64 98] 3);have hb_:=ab_ (Below.refl U6.heap.size U6) (.cells #[.int .i64 0,.int .i64 97,.int .i64 98] 3);generalize hW_:U6.alloc (.cells #[.int .i64 0,.int .i64 97,.int .i64 98] 3)=U7 at hg_ hb_ ⊢;have HI:=Sd.m (C_ints (xs:=[0,97,98]) hg_ (by decide));have BU7:=Sd.m (BU6.out.trans (hb_.mono BU6.out.size));clear hg_ hb_ hW_;refine hK.out _ _ (HS.out _ BU7.out) (fun hHeld=>?_);clear hK K;refine no_ 112 ?_;refine one_ (i:=53) (N:=some 113) (fl9 54) rfl rfl c9_53 (by decide) (fun K hK=>?_);refine goes_ Tryz.func37 (by kernel_rfl) rfl #[.slice A8 3 c8,.slice (some ⟨U6.heap.size,0,none⟩) 3 3] (by rfl) rfl rfl (by simp only [List.map_toArray,List.map_cons,List.map_nil];rfl) ?_;(with_reducible refine (HJ53.out U7 BU7.out _ HI.out).mono ?_);rintro e_ U8 ⟨rfl,hb_⟩;refine ⟨_,rfl,?_⟩;have BU8:=Sd.m (BU7.out.trans (hb_.mono BU7.out.size));clear HI;clear hb_;refine hK.out _ _ (HS.out _ BU8.out) (fun hHeld=>?_);clear hK K;refine no_ 113 ?_;refine puc_ 54 114 c9_54 ?_;refine puc_ 55 115 c9_55 ?_;refine puc_ 56 116 c9_56 ?_;refine puc_ 57 117 c9_57 ?_;refine puc_ 58 118 c9_58 ?_;refine puc_ 59 119 c9_59 ?_;refine puc_ 60 120 c9_60 ?_;refine tac_ 61 121 c9_61 hHeld ?_;refine puc_ 62 122 c9_62 ?_;refine puc_ 63 123 c9_63 ?_;refine tac_ 64 124 c9_64 hHeld ?_;refine one_ (i:=65) (N:=some 125) (fl9 66) rfl rfl c9_65 (by decide) (fun K hK=>?_);refine goes_ Tryz.func21 (by kernel_rfl) rfl #[.agg #[.int .i64 5,.slice Q7 0 r7,.slice Q8 0 r8,.slice Q9 1 r9]] (by rfl) rfl rfl (by simp only [List.map_toArray,List.map_cons,List.map_nil];rfl) ?_;(with_reducible refine (HSETS.out U8 BU8.out).mono ?_);rintro e_ U9 ⟨AS,cS,rfl,hb_⟩;refine ⟨_,rfl,?_⟩;have BU9:=Sd.m (BU8.out.trans (hb_.mono BU8.out.size));clear hb_;refine hK.out _ _ (HS.out _ BU9.out) (fun hHeld=>?_);clear hK K;refine no_ 125 ?_;refine puc_ 66 126 c9_66 ?_;refine puc_ 67 127 c9_67 ?_;refine puc_ 68 128 c9_68 ?_;refine puc_ 69 129 c9_69 ?_;refine puc_ 70 130 c9_70 ?_;refine puc_ 75 135 c9_75 ?_;refine puc_ 77 137 c9_77 ?_;refine tac_ 71 131 c9_71 hHeld ?_;refine puc_ 72 132 c9_72 ?_;refine puc_ 73 133 c9_73 ?_;refine tac_ 74 134 c9_74 hHeld ?_;refine tac_ 78 138 c9_78 hHeld ?_;refine puc_ 79 139 c9_79 ?_;refine puc_ 80 140 c9_80 ?_;refine tac_ 81 141 c9_81 hHeld ?_;refine one_ (i:=76) (N:=some 136) (fl9 82) rfl rfl c9_76 (by decide) (fun K hK=>?_);refine goes_ Tryz.func19 (by kernel_rfl) rfl #[.agg #[.int .i64 2,.slice Q3 1 r3,.slice Q4 0 r4,.slice Q5 0 r5],.slice A4 3 c4] (by rfl) rfl rfl (by simp only [List.map_toArray,List.map_cons,List.map_nil];rfl) ?_;(with_reducible refine (HTELL.out U9 BU9.out).mono ?_);rintro e_ U10 ⟨E1,el1,E2,el2,E3,el3,rfl,hE,hb_⟩;refine ⟨_,rfl,?_⟩;have BU10:=Sd.m (BU9.out.trans (hb_.mono BU9.out.size));have HE:=Sd.m hE;clear hE;clear hb_;refine hK.out _ _ (HS.out _ BU10.out) (fun hHeld=>?_);clear hK K;refine no_ 136 ?_;refine one_ (i:=82) (N:=some 142) (fl9 83) rfl rfl c9_82 (by decide) (fun K hK=>?_);refine goes_ Tryz.func20 (by kernel_rfl) rfl #[.agg #[.int .i64 2,.slice E1 1 el1,.slice E2 2 el2,.slice E3 0 el3],.agg #[.int .i64 2,.slice P3 1 p3,.slice P4 2 p4,.slice P5 0 p5]] (by rfl) rfl rfl (by simp only [List.map_toArray,List.map_cons,List.map_nil];rfl) ?_;(with_reducible refine (HSAME.out U10 BU10.out E1 el1 E2 el2 E3 el3 HE.out).mono ?_);rintro e_ U11 ⟨rfl,hb_⟩;refine ⟨_,rfl,?_⟩;have BU11:=Sd.m (BU10.out.trans (hb_.mono BU10.out.size));clear hb_;refine hK.out _ _ (HS.out _ BU11.out) (fun hHeld=>?_);clear hK K;refine no_ 142 ?_;refine puc_ 83 143 c9_83 ?_;refine puc_ 84 0 c9_84 ?_;refine done_ (by kernel_rfl) ?_;go_wp2_with fail;go_ret;exact ⟨rfl,HBD.out.trans (BU11.out.mono HBD.out.size)⟩
end LX
namespace L
open Shelf YthfceiincmkccaaGreatW.PrintWords.Kd A K B P R
open Go.Proofs.YthfceiincmkccaaGreat.LX (alive10 C_boxf)
theorem book_le {x:S27}{m:Int}(h:((x.f1.length+(x.f1.map ruleM).sum:Nat):Int)<=m)(hm:m<=300):bookM x<=299:=by
 by_cases hz:x.f1=[]
 ·rw [book_empty hz];omega
 ·have:=List.length_pos_iff.2 hz;unfold bookM;omega
theorem SignBooks_calls (x:S27)(A0:Option Addr)(c0:Nat)(A1:Option Addr)(c1:Nat)(A2:Option Addr)(c2:Nat)(A3:Option Addr)(c3:Nat)(y:S27)(B0:Option Addr)(d0:Nat)(B1:Option Addr)(d1:Nat)(B2:Option Addr)(d2:Nat)(B3:Option Addr)(d3:Nat)(w:World)(hsx:X.SmallB x)(l0:x.f0.length<=c0)(g0:Kd.C k93 w A0 x.f0.length x.f0)(l1:x.f1.length<=c1)(g1:Kd.C k55 w A1 x.f1.length x.f1)(l2:x.f2.length<=c2)(g2:Kd.C k87 w A2 x.f2.length x.f2)(l3:x.f3.length<=c3)(g3:Kd.C Kd.string w A3 x.f3.length x.f3)(hsy:X.SmallB y)(m0:y.f0.length<=d0)(k0:Kd.C k93 w B0 y.f0.length y.f0)(m1:y.f1.length<=d1)(k1:Kd.C k55 w B1 y.f1.length y.f1)(m2:y.f2.length<=d2)(k2:Kd.C k87 w B2 y.f2.length y.f2)(m3:y.f3.length<=d3)(k3:Kd.C Kd.string w B3 y.f3.length y.f3):
  Calls Tryz.prog 3 #[.agg #[.slice A0 x.f0.length c0,.slice A1 x.f1.length c1,.slice A2 x.f2.length c2,.slice A3 x.f3.length c3],.agg #[.slice B0 y.f0.length d0,.slice B1 y.f1.length d1,.slice B2 y.f2.length d2,.slice B3 y.f3.length d3]] w fun e w'=>e=.returned (.bool true)∧Below w.heap.size w w':=by
 obtain ⟨W2,hW2⟩: ∃ W_,W_=(w.alloc (.cells #[.slice A0 x.f0.length c0,.slice A1 x.f1.length c1,.slice A2 x.f2.length c2,.slice A3 x.f3.length c3] 27)).alloc (.cells #[.slice B0 y.f0.length d0,.slice B1 y.f1.length d1,.slice B2 y.f2.length d2,.slice B3 y.f3.length d3] 27):=⟨_,rfl⟩;have ea:(w.alloc (.cells #[.slice A0 x.f0.length c0,.slice A1 x.f1.length c1,.slice A2 x.f2.length c2,.slice A3 x.f3.length c3] 27)).heap.size=w.heap.size+1:=Array.size_push _;have hb2:Below w.heap.size w W2:=by rw [hW2];exact ab_ (ab_ (Below.refl _ _) _) _
 have hx2:W2.heap[w.heap.size]? =some (.cells #[.slice A0 x.f0.length c0,.slice A1 x.f1.length c1,.slice A2 x.f2.length c2,.slice A3 x.f3.length c3] 27 (0,0)):=by rw [hW2];exact am_ (aj_ w _) _
 have hy2:W2.heap[w.heap.size+1]? =some (.cells #[.slice B0 y.f0.length d0,.slice B1 y.f1.length d1,.slice B2 y.f2.length d2,.slice B3 y.f3.length d3] 27 (0,0)):=by rw [hW2];exact ea ▸ aj_ (w.alloc (.cells #[.slice A0 x.f0.length c0,.slice A1 x.f1.length c1,.slice A2 x.f2.length c2,.slice A3 x.f3.length c3] 27)) _
 have HGX:Sd (∀ W,Below w.heap.size w W->_):=⟨fun W hW=>bg_calls x hsx 300 (by decide) W A0 c0 A1 c1 A2 c2 A3 c3 l0 (Kd.C_below g0 hW) l1 (Kd.C_below g1 hW) l2 (Kd.C_below g2 hW) l3 (Kd.C_below g3 hW)⟩;have HGY:Sd (∀ W,Below w.heap.size w W->_):=⟨fun W hW=>bg_calls y hsy 300 (by decide) W B0 d0 B1 d1 B2 d2 B3 d3 m0 (Kd.C_below k0 hW) m1 (Kd.C_below k1 hW) m2 (Kd.C_below k2 hW) m3 (Kd.C_below k3 hW)⟩;have kx: ∀ W,Below w.heap.size w W->k27.K W x [.slice A0 x.f0.length c0,.slice A1 x.f1.length c1,.slice A2 x.f2.length c2,.slice A3 x.f3.length c3]:=fun W hW=>k27_mk W x l0 (Kd.C_below g0 hW) l1 (Kd.C_below g1 hW) l2 (Kd.C_below g2 hW) l3 (Kd.C_below g3 hW);have ky: ∀ W,Below w.heap.size w W->k27.K W y [.slice B0 y.f0.length d0,.slice B1 y.f1.length d1,.slice B2 y.f2.length d2,.slice B3 y.f3.length d3]:=fun W hW=>k27_mk W y m0 (Kd.C_below k0 hW) m1 (Kd.C_below k1 hW) m2 (Kd.C_below k2 hW) m3 (Kd.C_below k3 hW);have H1:Sd (∀ W,Below w.heap.size w W-> ∀ m,W.heap[m]? =some (.cells #[.slice A0 x.f0.length c0,.slice A1 x.f1.length c1,.slice A2 x.f2.length c2,.slice A3 x.f3.length c3] 27 (0,0))->Kd.C k27 W (some ⟨m,0,none⟩) 1 [x]):=⟨fun W hW m hm=>C_boxf (d:=k27) (inner:=[.slice A0 x.f0.length c0,.slice A1 x.f1.length c1,.slice A2 x.f2.length c2,.slice A3 x.f3.length c3]) (xs:=[x]) hm (Reps.c4 (kx W hW) (Reps.none _ _)) (by simp)⟩;have H2:Sd (∀ W,Below w.heap.size w W-> ∀ m,W.heap[m]? =some (.cells #[.slice A0 x.f0.length c0,.slice A1 x.f1.length c1,.slice A2 x.f2.length c2,.slice A3 x.f3.length c3,.slice B0 y.f0.length d0,.slice B1 y.f1.length d1,.slice B2 y.f2.length d2,.slice B3 y.f3.length d3] 27 (0,0))->Kd.C k27 W (some ⟨m,0,none⟩) 2 [x,y]):=⟨fun W hW m hm=>C_boxf (d:=k27) (inner:=[.slice A0 x.f0.length c0,.slice A1 x.f1.length c1,.slice A2 x.f2.length c2,.slice A3 x.f3.length c3,.slice B0 y.f0.length d0,.slice B1 y.f1.length d1,.slice B2 y.f2.length d2,.slice B3 y.f3.length d3]) (xs:=[x,y]) hm (Reps.c4 (kx W hW) (Reps.c4 (ky W hW) (Reps.none _ _))) (by simp)⟩;have H3:Sd (∀ W,Below w.heap.size w W-> ∀ m,W.heap[m]? =some (.cells #[.slice B0 y.f0.length d0,.slice B1 y.f1.length d1,.slice B2 y.f2.length d2,.slice B3 y.f3.length d3,.slice A0 x.f0.length c0,.slice A1 x.f1.length c1,.slice A2 x.f2.length c2,.slice A3 x.f3.length c3] 27 (0,0))->Kd.C k27 W (some ⟨m,0,none⟩) 2 [y,x]):=⟨fun W hW m hm=>C_boxf (d:=k27) (inner:=[.slice B0 y.f0.length d0,.slice B1 y.f1.length d1,.slice B2 y.f2.length d2,.slice B3 y.f3.length d3,.slice A0 x.f0.length c0,.slice A1 x.f1.length c1,.slice A2 x.f2.length c2,.slice A3 x.f3.length c3]) (xs:=[y,x]) hm (Reps.c4 (ky W hW) (Reps.c4 (kx W hW) (Reps.none _ _))) (by simp)⟩;have HAL:=Sd.m (alive10 W2);have HB2:=Sd.m hb2;have HX2:=Sd.m hx2;have HY2:=Sd.m hy2;have HW2:=Sd.m hW2;clear hb2 hx2 hy2 hW2 ea g0 g1 g2 g3 l0 l1 l2 l3 hsx k0 k1 k2 k3 m0 m1 m2 m3 hsy kx ky;go_enter Tryz.func3,Tryz.ntmps3;go_wp2_with fail;rw [←HW2.out];refine HAL.out.mono ?_;rintro e V ⟨rfl,hb⟩;have hx:=ag_ HX2.out hb;have x0:=bc_ hx 0 rfl;have x1:=bc_ hx 1 rfl;have x2:=bc_ hx 2 rfl;have x3:=bc_ hx 3 rfl;have BV:=Sd.m (HB2.out.trans (hb.mono HB2.out.size));have HXV:=Sd.m hx;have HYV:=Sd.m (ag_ HY2.out hb);clear hb hx;go_wp2_with fail;refine (HGX.out V BV.out).mono ?_;rintro e V2 ⟨⟨r,rfl,hr⟩,hb⟩;have BV2:=Sd.m (BV.out.trans (hb.mono BV.out.size));have HXV2:=Sd.m (ag_ HXV.out hb);have HYV2:=Sd.m (ag_ HYV.out hb);have HR1:=Sd.m hr;clear hb x0 x1 x2 x3 hr;cases r with
 | true=>
  go_wp2_with fail;go_ret;exact ⟨rfl,BV2.out⟩
 | false=>
 have HM1:=Sd.m (book_le (HR1.out rfl) (by decide));clear HR1;have y0:=bc_ HYV2.out 0 rfl;have y1:=bc_ HYV2.out 1 rfl;have y2:=bc_ HYV2.out 2 rfl;have y3:=bc_ HYV2.out 3 rfl;go_wp2_with fail;refine (HGY.out V2 BV2.out).mono ?_;rintro e V3 ⟨⟨r,rfl,hr⟩,hb⟩;have BV3:=Sd.m (BV2.out.trans (hb.mono BV2.out.size));have HXV3:=Sd.m (ag_ HXV2.out hb);have HYV3:=Sd.m (ag_ HYV2.out hb);have HR2:=Sd.m hr;clear hb y0 y1 y2 y3 hr;cases r with
 | true=>
  go_wp2_with fail;go_ret;exact ⟨rfl,BV3.out⟩
 | false=>
 have hmx:=HM1.out;have hmy:=book_le (HR2.out rfl) (by decide);have nx:=bookN_le x;have ny:=bookN_le y;have wx:=book_wide (b:=x) (by omega);have wy:=book_wide (b:=y) (by omega);obtain ⟨T1,e1,T2,e2,T3,e3,o1,o2,o3,hcase⟩:=three_of (three x y hmx hmy);have S1:Sd (∀ W A,Kd.C k27 W A 1 [x]->_):=⟨fun W A hC=>hr_ [x] W A 1 (Nat.le_refl _) hC (by simp;omega) (fun b hb=>by rw [List.mem_singleton.1 hb];exact wx) T1 e1 o1⟩;have S2:Sd (∀ W A,Kd.C k27 W A 2 [x,y]->_):=⟨fun W A hC=>hr_ [x,y] W A 2 (Nat.le_refl _) hC (by simp;omega) (fun b hb=>by
  rcases List.mem_cons.1 hb with rfl | hb
  ·exact wx
  ·rw [List.mem_singleton.1 hb];exact wy) T2 e2 o2⟩
 have S3:Sd (∀ W A,Kd.C k27 W A 2 [y,x]->_):=⟨fun W A hC=>hr_ [y,x] W A 2 (Nat.le_refl _) hC (by simp;omega) (fun b hb=>by
  rcases List.mem_cons.1 hb with rfl | hb
  ·exact wy
  ·rw [List.mem_singleton.1 hb];exact wx) T3 e3 o3⟩
 have HCASE:=Sd.m hcase;clear hmx hmy nx ny wx wy o1 o2 o3 hcase HM1 HR2 HGX HGY;have x0:=bc_ HXV3.out 0 rfl;have x1:=bc_ HXV3.out 1 rfl;have x2:=bc_ HXV3.out 2 rfl;have x3:=bc_ HXV3.out 3 rfl;obtain ⟨V4,hV4⟩: ∃ W_,W_=V3.alloc (.cells #[.slice A0 x.f0.length c0,.slice A1 x.f1.length c1,.slice A2 x.f2.length c2,.slice A3 x.f3.length c3] 27):=⟨_,rfl⟩;have hb4:Below V3.heap.size V3 V4:=by rw [hV4];exact ab_ (Below.refl _ _) _
 have ha4:V4.heap[V3.heap.size]? =some (.cells #[.slice A0 x.f0.length c0,.slice A1 x.f1.length c1,.slice A2 x.f2.length c2,.slice A3 x.f3.length c3] 27 (0,0)):=by rw [hV4];exact aj_ _ _
 have b4:=BV3.out.trans (hb4.mono BV3.out.size);have BV4:=Sd.m b4;have HXV4:=Sd.m (ag_ HXV3.out hb4);have HYV4:=Sd.m (ag_ HYV3.out hb4);have HOF1:=Sd.m (S1.out V4 _ (H1.out V4 b4 _ ha4));have HV4:=Sd.m hV4;clear hV4 hb4 ha4 b4;go_wp2_with fail;rw [←HV4.out];refine HOF1.out.mono ?_;rintro e V5 ⟨v,rfl,hN,hb⟩;obtain ⟨Aa,ca,rfl⟩:=N_slice hN;have HT1:=Sd.m (N_reads' hN).2;have BV5:=Sd.m (BV4.out.trans (hb.mono BV4.out.size));have HXV5:=Sd.m (ag_ HXV4.out hb);have HYV5:=Sd.m (ag_ HYV4.out hb);clear hN hb x0 x1 x2 x3;have x0:=bc_ HXV5.out 0 rfl;have x1:=bc_ HXV5.out 1 rfl;have x2:=bc_ HXV5.out 2 rfl;have x3:=bc_ HXV5.out 3 rfl;have y0:=bc_ HYV5.out 0 rfl;have y1:=bc_ HYV5.out 1 rfl;have y2:=bc_ HYV5.out 2 rfl;have y3:=bc_ HYV5.out 3 rfl;obtain ⟨V6,hV6⟩: ∃ W_,W_=V5.alloc (.cells #[.slice A0 x.f0.length c0,.slice A1 x.f1.length c1,.slice A2 x.f2.length c2,.slice A3 x.f3.length c3,.slice B0 y.f0.length d0,.slice B1 y.f1.length d1,.slice B2 y.f2.length d2,.slice B3 y.f3.length d3] 27):=⟨_,rfl⟩;have hb6:Below V5.heap.size V5 V6:=by rw [hV6];exact ab_ (Below.refl _ _) _
 have ha6:V6.heap[V5.heap.size]? =some (.cells #[.slice A0 x.f0.length c0,.slice A1 x.f1.length c1,.slice A2 x.f2.length c2,.slice A3 x.f3.length c3,.slice B0 y.f0.length d0,.slice B1 y.f1.length d1,.slice B2 y.f2.length d2,.slice B3 y.f3.length d3] 27 (0,0)):=by rw [hV6];exact aj_ _ _
 have b6:=BV5.out.trans (hb6.mono BV5.out.size);have BV6:=Sd.m b6;have HXV6:=Sd.m (ag_ HXV5.out hb6);have HYV6:=Sd.m (ag_ HYV5.out hb6);have HT16:=Sd.m (Kd.C_below HT1.out.2 hb6);have HOF2:=Sd.m (S2.out V6 _ (H2.out V6 b6 _ ha6));have HV6:=Sd.m hV6;clear hV6 hb6 ha6 b6;go_wp2_with fail;rw [←HV6.out];refine HOF2.out.mono ?_;rintro e V7 ⟨v,rfl,hN,hb⟩;obtain ⟨Ab,cb,rfl⟩:=N_slice hN;have HT2:=Sd.m (N_reads' hN).2;have BV7:=Sd.m (BV6.out.trans (hb.mono BV6.out.size));have HXV7:=Sd.m (ag_ HXV6.out hb);have HYV7:=Sd.m (ag_ HYV6.out hb);have HT17:=Sd.m (Kd.C_below HT16.out hb);clear hN hb x0 x1 x2 x3 y0 y1 y2 y3;have x0:=bc_ HXV7.out 0 rfl;have x1:=bc_ HXV7.out 1 rfl;have x2:=bc_ HXV7.out 2 rfl;have x3:=bc_ HXV7.out 3 rfl;have y0:=bc_ HYV7.out 0 rfl;have y1:=bc_ HYV7.out 1 rfl;have y2:=bc_ HYV7.out 2 rfl;have y3:=bc_ HYV7.out 3 rfl;obtain ⟨V8,hV8⟩: ∃ W_,W_=V7.alloc (.cells #[.slice B0 y.f0.length d0,.slice B1 y.f1.length d1,.slice B2 y.f2.length d2,.slice B3 y.f3.length d3,.slice A0 x.f0.length c0,.slice A1 x.f1.length c1,.slice A2 x.f2.length c2,.slice A3 x.f3.length c3] 27):=⟨_,rfl⟩;have hb8:Below V7.heap.size V7 V8:=by rw [hV8];exact ab_ (Below.refl _ _) _
 have ha8:V8.heap[V7.heap.size]? =some (.cells #[.slice B0 y.f0.length d0,.slice B1 y.f1.length d1,.slice B2 y.f2.length d2,.slice B3 y.f3.length d3,.slice A0 x.f0.length c0,.slice A1 x.f1.length c1,.slice A2 x.f2.length c2,.slice A3 x.f3.length c3] 27 (0,0)):=by rw [hV8];exact aj_ _ _
 have b8:=BV7.out.trans (hb8.mono BV7.out.size);have BV8:=Sd.m b8;have HT18:=Sd.m (Kd.C_below HT17.out hb8);have HT28:=Sd.m (Kd.C_below HT2.out.2 hb8);have HOF3:=Sd.m (S3.out V8 _ (H3.out V8 b8 _ ha8));have HV8:=Sd.m hV8;clear hV8 hb8 ha8 b8;go_wp2_with fail;rw [←HV8.out];refine HOF3.out.mono ?_;rintro e V9 ⟨v,rfl,hN,hb⟩;obtain ⟨Ac,cc,rfl⟩:=N_slice hN;have HT3:=Sd.m (N_reads' hN).2;have BV9:=Sd.m (BV8.out.trans (hb.mono BV8.out.size));have HT19:=Sd.m (Kd.C_below HT18.out hb);have HT29:=Sd.m (Kd.C_below HT28.out hb);clear hN hb x0 x1 x2 x3 y0 y1 y2 y3 S1 S2 S3 H1 H2 H3 HOF1 HOF2 HOF3;rcases HCASE.out with ⟨rfl,rfl,rfl | rfl⟩ | ⟨rfl,rfl,rfl,h3,hcl,hle,hri,h200,hsh⟩
 ·have e9:((9:Int) == 9)=true:=rfl;have e90:((9:Int) != 0)=true:=rfl;have e00:((0:Int) != 0)=false:=rfl;clear HCASE;go_wp2_with fail;go_ret;exact ⟨rfl,BV9.out⟩
 ·have e9:((9:Int) == 9)=true:=rfl;have e90:((9:Int) != 0)=true:=rfl;clear HCASE;go_wp2_with fail;go_ret;exact ⟨rfl,BV9.out⟩
 have h3':=h3.symm;subst h3';have HCL:=Sd.m hcl;have HLE:=Sd.m hle;have HRI:=Sd.m hri;have H200:=Sd.m h200;have HSH:=Sd.m hsh;clear hcl hle hri h200 hsh HCASE;have e00:((0:Int) != 0)=false:=rfl;go_wp2_with fail;clear e00;go_loopw [11] (fun u Wx=> ∃ i:Nat,i<=T2.length∧u=.int .i64 i∧Below V9.heap.size V9 Wx) (fun u _=>T2.length - (intOf u).toNat)
 case atStart=>exact ⟨0,Nat.zero_le _,rfl,Below.refl _ _⟩
 case round=>
  obtain ⟨i,hi,rfl,hb⟩:=hrel;by_cases hlt:i<T2.length
  ·have b1:decide ((i:Int)<(T2.length:Int))=true:=dt__ (by omega);have b2:decide (i<T2.length)=true:=dt__ hlt;have hq0:0<=(i:Int):=by omega
   have hq1:(i:Int)<(T2.length:Int):=by omega
   have w2:IntKind.i64.wrap ((i:Int)+1)=(i:Int)+1:=IntWalk.i64_in _ (by have:=H200.out;omega);obtain ⟨ab,X,cx,eab,u0,u1,u2⟩:=iw_ (Kd.C_below HT29.out hb) (i:Int) (by omega) (by omega);rw [Int.toNat_natCast] at u0;subst eab;have hmem:dn_ T2 (i:Int)∈T2:=by
    unfold dn_;rw [Int.toNat_natCast,List.getD_eq_getElem?_getD,List.getElem?_eq_getElem hlt];exact List.getElem_mem hlt
   obtain ⟨k,u,hk,hku,hls⟩:=HCL.out _ hmem;generalize dn_ T2 (i:Int)=z at u0 u1 u2 hmem hk hls;have HF:=Sd.m (cu_.calls X cx z (firstF z) wr u2 u1 (ref_first z));have HKU:=Sd.m hku;have HLS:=Sd.m hls;have HK:=Sd.m hk;have HU:=Sd.m (And.intro u1 u2);have HB:=Sd.m hb;have HU0:=Sd.m u0;clear hmem hku hls hk u1 u2 hb;go_wp2_with fail;refine HF.out.mono ?_;rintro e Wf ⟨rfl,hb⟩;obtain ⟨kc,hkc⟩:=(ref_class T1 (firstF z) (by have:=H200.out;have:=HLE.out;omega)).rounds;rw [HK.out] at hkc;have hbf:=HB.out.trans (hb.mono HB.out.size);have HCC:=Sd.m (bf_.calls kc Aa ca T1 (firstF z) k Wf (Kd.C_below HT19.out hbf) HT1.out.1 hkc);have HBF:=Sd.m hbf;have HUf:=Sd.m ((hb.cell (bl__ _ _ HU0.out)).trans HU0.out);have HU2:=Sd.m (Kd.C_below HU.out.2 hb);clear u0 hb hbf hkc;go_wp2_with fail;refine HCC.out.mono ?_;rintro e Wc ⟨rfl,hdr⟩;have hb:=hdr.below;have hbc:=HBF.out.trans (hb.mono HBF.out.size);have hklt:=(List.getElem?_eq_some_iff.1 HKU.out).1;have d1:decide ((k:Int)<0)=false:=df__ (by omega);have hk0:0<=(k:Int):=by omega
   have hk1:(k:Int)<(T1.length:Int):=by omega
   go_wp2_with fail;obtain ⟨Vd,hVd⟩: ∃ W_,W_=Wc.drew:=⟨_,rfl⟩;have hbd:Below Wc.heap.size Wc Vd:=by rw [hVd];exact ca_ (Below.refl _ _)
   have hbD:=hbc.trans (hbd.mono hbc.size);have hfd:=hb.trans (hbd.mono hb.size);obtain ⟨aa,Y,cu,eaa,t0,t1,t2⟩:=iw_ (Kd.C_below HT19.out hbD) (k:Int) (by omega) (by omega);rw [Int.toNat_natCast] at t0;subst eaa;have hrd:dn_ T1 (k:Int)=u:=by
    unfold dn_;rw [Int.toNat_natCast,List.getD_eq_getElem?_getD,HKU.out];rfl
   rw [hrd] at t0 t1 t2;clear hrd;have hz0:=(hfd.cell (bl__ _ _ HUf.out)).trans HUf.out;have HC:Sd (∀ W,Below Vd.heap.size Vd W->Calls Tryz.prog 14 #[.slice X z.length cx,.slice Y u.length cu] W fun e w'=> ∃ A c,e=.returned (.slice A 0 c)∧Below W.heap.size W w'):=by
    refine ⟨fun W hW=>?_⟩;refine (c19 X cx z W (Kd.C_below HU2.out (hfd.trans (hW.mono hfd.size))) HU.out.1 Y cu u (Kd.C_below t2 hW) t1 [] HLS.out).mono ?_;rintro e_ w' ⟨v,he,hR,hb_⟩;obtain ⟨A,c,rfl⟩:=R_slice hR;exact ⟨A,c,he,hb_⟩
   have HS:Sd (∀ w',Below Vd.heap.size Vd w'->w'.cell? (ab.add i)=some (.slice X z.length cx)∧w'.cell? (aa.add k)=some (.slice Y u.length cu)):=⟨fun w' hw=>⟨(hw.cell (bl__ Vd _ hz0)).trans hz0,(hw.cell (bl__ Vd _ t0)).trans t0⟩⟩;have BD:=Sd.m (Below.refl Vd.heap.size Vd);have HBD:=Sd.m hbD;clear hdr hb hbc hbd hbD hfd t0 t1 t2 hz0 hklt;go_upto_region 14 with fail;refine start_ (n:=15) (S:=fun w'=>w'.cell? (ab.add i)=some (.slice X z.length cx)∧w'.cell? (aa.add k)=some (.slice Y u.length cu)) (ds:=[]) #[false,false,false,false,false,false,false,false,false,false,false,false,false,false,false] (by kernel_rfl) rfl rfl (by rw [←hVd];exact (HS.out _ (Below.refl _ _))) (fun hHeld=>?_);rw [←hVd] at hHeld ⊢;clear hVd;refine pu_ 0 66 ?_;refine pu_ 1 67 ?_;refine pu_ 2 68 ?_;refine pu_ 3 69 ?_;refine pu_ 4 70 ?_;refine pu_ 5 71 ?_;refine pu_ 7 73 ?_;refine pu_ 8 74 ?_;refine pu_ 9 75 ?_;refine ta_ 6 72 hHeld ?_;refine ta_ 10 76 hHeld ?_;refine on_ 11 77 (fun K hK=>?_);refine goes_ Tryz.func14 (by kernel_rfl) rfl #[.slice X z.length cx,.slice Y u.length cu] (by rfl) rfl rfl (by simp only [List.map_toArray,List.map_cons,List.map_nil];rfl) ?_;(with_reducible refine (HC.out Vd BD.out).mono ?_);rintro e_ U1 ⟨A9,c9,rfl,hb_⟩;refine ⟨_,rfl,?_⟩;have BU1:=Sd.m (BD.out.trans ((hb_).mono BD.out.size));clear hb_;refine hK.out _ _ (HS.out _ BU1.out) (fun hHeld=>?_);clear hK K;refine no_ 77 ?_;refine pu_ 12 78 ?_;refine pu_ 13 79 ?_;refine pu_ 14 80 ?_;refine done_ (by kernel_rfl) ?_;go_wp2_with fail;go_roundw
   case rel=>exact ⟨i+1,hlt,by go_num,HBD.out.trans (BU1.out.mono HBD.out.size)⟩
   case measure=>simp [intOf];omega
  ·have b1:decide ((i:Int)<(T2.length:Int))=false:=df__ (by omega);have b2:decide (i<T2.length)=false:=df__ hlt;have HB:=Sd.m hb;obtain ⟨ks,hks⟩:=(same_rows T2 (by have:=H200.out;omega) (fun r hr=>by have:=HSH.out r hr;omega)).rounds;have HSM:=Sd.m (bg_.calls ks Ab cb T2 Ac cc T2 true wr (Kd.C_below HT29.out hb) HT2.out.1 (Kd.C_below HT3.out.2 hb) HT3.out.1 hks);have e0:((0:Int) == 0)=true:=rfl;have d1:decide ((T2.length:Int) ≥ (T1.length:Int))=true:=dt__ (by have:=HLE.out;omega);have d2:decide ((T1.length:Int)<=(T2.length:Int))=true:=dt__ (by have:=HLE.out;omega);have d3:decide (T1.length<=T2.length)=true:=dt__ HLE.out;clear hb hks hlt;go_wp2_with fail;refine HSM.out.mono ?_;rintro e Ws ⟨rfl,hdr⟩;have hb:=hdr.below;obtain ⟨kr,hkr⟩:=(ref_rightA T2).rounds;rw [HRI.out] at hkr;have hbs:=HB.out.trans (hb.mono HB.out.size);have HRC:=Sd.m (ae_.calls kr Ab cb T2 true Ws (Kd.C_below HT29.out hbs) HT2.out.1 hkr);have HBS:=Sd.m hbs;clear hdr hb hkr hbs;go_wp2_with fail;refine HRC.out.mono ?_;rintro e Wz ⟨rfl,hb⟩;have HBZ:=Sd.m (HBS.out.trans (hb.mono HBS.out.size));clear hb;go_wp2_with fail;go_ret;exact ⟨rfl,BV9.out.trans (HBZ.out.mono BV9.out.size)⟩
end L
end Go.Proofs.YthfceiincmkccaaGreat
