/- What law SignBooks reaches, part 5: words and walks over rows and regions. -/
import Derived.Test.YthfceiincmkccaaGreatUA
import Derived.Test.YthfceiincmkccaaGreatUD
import Derived.Test.YthfceiincmkccaaGreatUB
import Derived.Outline
import Derived.Maps.AppendAt
import Derived.Test.YthfceiincmkccaaGreatProg
import Derived.Below
import Derived.Deep.Draws
import Derived.Deep.AppendLies
import Derived.OwnWalk
import Derived.Laws.BytesArg
import Derived.Laws.MakeOwn
import Derived.Laws.OwnMore
import Derived.Deep.OwnRows
import Derived.Tactics
import Derived.Lib.ConvBytes
import Derived.Laws.Slices
import Derived.WalkKit
import Derived.KernelRfl
import Derived.RowKit3
import Derived.Deep.LoopGhost
import Derived.Deep.QuietTactic
import Derived.BigQuiet
import Derived.WideLaws
import Derived.Deep.DeepCutAuto
import Derived.Deep.CutBlock
import Derived.Deep.RegionHeld3
import Derived.Laws.Rows
import Derived.Lib.AppendStr
import Derived.ArgAppend
import Derived.Laws.IdiomCopy
import Derived.OrdersHeld
import Derived.Laws.BitsLemmas
import Derived.RowKit
import Derived.Deep.RegionLaw
import Derived.Great.Walk
import Derived.Test.YthfceiincmkccaaGreatUC
set_option linter.unusedVariables false
set_option linter.unusedSimpArgs false
set_option maxHeartbeats 8000000
set_option maxRecDepth 100000
open Go.RowKit Go.Proofs.YthfceiincmkccaaGreatW.PrintWords Go.Proofs.YthfceiincmkccaaGreatW.PrintLast Go.Proofs.YthfceiincmkccaaGreatW.PrintMore
namespace Go.Proofs.YthfceiincmkccaaGreat
namespace L
open Shelf A P
attribute [local go_sem] Oper.semAt_some
attribute [-go_sem] Builtin.append_
def pF (a s:List S74)(has:Bool):List S74:=if has then andF a s else lessF a s
def partF (a s:List S74)(has:Bool):List S74:=(List.range ((a.length+399) / 400)).flatMap fun x=>pF (chF a x) s has
theorem pF_true (a s:List S74):pF a s true=andF a s:=by
 unfold pF;exact if_pos rfl
theorem lu_ (a s:List S74):pF a s false=lessF a s:=by
 unfold pF;exact if_neg (by decide)
theorem pF_len (a s:List S74)(b:Bool):(pF a s b).length<=1200000:=by
 cases b with
 | true=>rw [pF_true];have:=(gv_ fun c=>hasB a c && hasB s c).n;unfold andF;omega
 | false=>rw [lu_];have:=(gv_ fun c=>hasB a c && !hasB s c).n;unfold lessF;omega
theorem pFs_len (l0 s:List S74)(b:Bool): ∀ pre:List Nat,(pre.flatMap fun x=>pF (chF l0 x) s b).length<=1200000*pre.length
 | []=>Nat.le_refl _
 | x :: pre=>by
  have h1:=pF_len (chF l0 x) s b;have h2:=pFs_len l0 s b pre;rw [List.flatMap_cons,List.length_append,List.length_cons];omega
theorem part_app (h:Nat)(W1:World)(hb:h<=W1.heap.size)(v:Value)(acc:List S74)(hv:Kd.R k74 74 W1 h (fun _=>True) v acc)(A3:Option Addr)(a3 base1:Nat)(xs:List S74)(hs:Kd.R k74 74 W1 base1 (fun _=>True) (.slice A3 xs.length a3) xs)(hlen:(acc.length+xs.length)*16<=140737488355328):
  ∃ A4 n4 a4 w2,(Builtin.append_ #[37,37] 37 #[v,.slice A3 xs.length a3]).run Tryz.prog W1=.ok (.slice A4 n4 a4) w2∧Kd.R k74 74 w2 h (fun _=>True) (.slice A4 n4 a4) (acc ++ xs)∧W1.grownBy w2 v.ownBlock:=by
 obtain ⟨v2,w2,hrun,hR2,hg2,hat2⟩:=fh_ k74 (P:=Tryz.prog) (W:=W1) h 37 37 74 (.agg #[.int .i64 0,.int .i64 0]) 16 Tryz.underlying37 (by kernel_rfl) rfl (by decide) (by decide) v acc xs A3 xs.length a3 (fun _=>True) (fun _=>False) hv (Kd.R_reads' hs).2.2 (fun x cs h=>by obtain rfl:=k74_open h;exact dy_ _ _ _ x) (fun _ h=>h.elim) (fun _ _=>trivial) hb hlen;obtain ⟨A4,a4,rfl⟩:=Kd.R_slice hR2;exact ⟨A4,_,a4,w2,hrun,hR2,hg2⟩
theorem parts_end (B5 ga gb b:Nat)(w W W1 w2:World)(v:Value)(acc:List S74)(hrow:W1.ownsRow w.heap.size 74 2 v acc.length (c34 acc))(u1 u2 u3:Value)(hB:Below w.heap.size w W)(hWW1:Below W.heap.size W W1)(hg2:W1.grownBy w2 v.ownBlock)(hle:w.heap.size<=b)(hga:ga≠b)(hgb:gb≠b)(h1:Boxed W1 b 37 u1)(hA:Boxed W1 ga 37 u2)(hN:Boxed W1 gb 3 u3)(v2:Value)(xs:List S74)
  (hR2:Kd.R k74 74 w2 w.heap.size (fun _=>True) v2 xs):
  KeepsFrom B5 W (w2.setCell ⟨b,0,none⟩ v2)∧KC ga gb W (w2.setCell ⟨b,0,none⟩ v2)∧(w2.setCell ⟨b,0,none⟩ v2).ownsRow w.heap.size 74 2 v2 xs.length (c34 xs)∧Below w.heap.size w (w2.setCell ⟨b,0,none⟩ v2):=by
 have hown:=kp_ hR2;have hv2:Boxed w2 b 37 u1:=h1.kept hg2 (h1.not_row (by decide) hrow);have cell: ∀ g v',g≠b->some g≠v.ownBlock->W.cell? ⟨g,0,none⟩=some v'->(w2.setCell ⟨b,0,none⟩ v2).cell? ⟨g,0,none⟩=some v':=by
  intro g v' hg hgo q;obtain ⟨o,ho,_⟩:=cells_of_cell q;have hlt:g<W.heap.size:=(Array.getElem?_eq_some_iff.1 ho).1;have q1:W1.cell? ⟨g,0,none⟩=some v':=(hWW1.cell (p:=⟨g,0,none⟩) hlt).trans q;have q2:w2.cell? ⟨g,0,none⟩=some v':=(World.cell?_of_block (hg2.block g (Nat.lt_of_lt_of_le hlt hWW1.size) hgo)).trans q1;exact (World.cell?_of_block (Below.heap_setCell w2 ⟨b,0,none⟩ v2 g hg)).trans q2
 have hblk: ∀ k,v.ownBlock=some k->w.heap.size<=k∧ ∀ o:Obj,W1.heap[k]? =some o->o.isCells=true:=by
  intro k hk;rcases hrow.2 with ⟨rfl,_⟩ | ⟨g,cap,cur,rfl,hg,hh,_⟩
  ·simp [Value.ownBlock] at hk
  ·have:g=k:=by simpa [Value.ownBlock] using hk
   subst this;refine ⟨hg,fun o ho=>?_⟩;rw [hh] at ho;obtain rfl:=Option.some.inj ho;rfl
 refine ⟨?_,⟨fun v' q=>cell ga v' hga (hA.not_row (by decide) hrow) q,fun v' q=>cell gb v' hgb (hN.not_row (by decide) hrow) q⟩,hown.kept (grownBy_setCell' w2 b v2) (.inr (hv2.not_row (by decide) hown).symm),?_⟩
 ·have k1:KeepsOthers W W1:=⟨hWW1.size,fun k o hk _=>(hWW1.block k (Array.getElem?_eq_some_iff.1 hk).1).trans hk⟩;exact ((k1.trans (KeepsOthers.of_grownBy hg2 (fun j o e ho=>(hblk j e).2 o ho))).trans (KeepsOthers.setCell _ _ _)).from _
 ·have h1:Below w.heap.size w W1:=hB.trans (hWW1.mono hB.size);have h2:Below w.heap.size w w2:=h1.grown hg2 h1.size (fun k e=>(hblk k e).1);exact h2.setCell (p:=⟨b,0,none⟩) hle _
theorem js_ (A0:Option Addr)(c0:Nat)(l0:List S74)(A1:Option Addr)(c1:Nat)(l1:List S74)(b:Bool)(w:World)(hr0:Kd.C k74 w A0 l0.length l0)(hc0:l0.length<=c0)(hr1:Kd.C k74 w A1 l1.length l1)(hc1:l1.length<=c1)(h4:l0.length<=1200000):
  Calls Tryz.prog 77 #[.slice A0 l0.length c0,.slice A1 l1.length c1,.bool b] w fun e w'=> ∃ v,e=.returned v∧Kd.R k74 74 w' w.heap.size (fun _=>True) v (partF l0 l1 b)∧Below w.heap.size w w':=by
 have HR0:=Sd.m hr0;have HR1:=Sd.m hr1;have HC0:=Sd.m hc0;have HC1:=Sd.m hc1;clear hr0 hr1 hc0 hc1;refine (callsIn_wide (n:=3)).1 ?_;refine callsIn_of_wp_marks Tryz.func77 rfl trivial ?_ rfl;simp only [Tryz.ntmps77,List.size_toArray,List.length_cons,List.length_nil,Nat.reduceAdd,Nat.reduceSub,Array.replicate_succ,Array.replicate_zero,List.push_toArray,List.append_toArray,List.nil_append,List.cons_append]
 gi_wp2_with (refine ⟨trivial,?_⟩;gi_at_call 112;refine (callsIn_wide.2 (chunk_calls _ _ _ _)).mono ?_;rintro e w' ⟨rfl,rfl⟩)
 have hsz0: ∀ (W:World) (o:Obj),(W.alloc o).heap.size=W.heap.size+1:=fun W o=>Array.size_push _;obtain ⟨W5,hW5⟩: ∃ W_,W_=(((((w.alloc (Obj.cells #[Value.slice A1 l1.length c1] 37)).alloc (Obj.cells #[Value.bool b] 4)).alloc (Obj.cells #[Value.slice none 0 0] 37)).alloc (Obj.cells #[Value.slice A0 l0.length c0] 37)).alloc (Obj.cells #[Value.int IntKind.i64 400] 3)):=⟨_,rfl⟩;have bS:Boxed W5 w.heap.size 37 (.slice A1 l1.length c1):=by rw [hW5];exact ((((Boxed.new w 37 _).alloc _).alloc _).alloc _).alloc _
 have bH:Boxed W5 (w.heap.size+1) 4 (.bool b):=by
  rw [hW5];have:=Boxed.new (w.alloc (Obj.cells #[Value.slice A1 l1.length c1] 37)) 4 (.bool b);rw [hsz0] at this;exact ((this.alloc _).alloc _).alloc _
 have bO:Boxed W5 (w.heap.size+1+1) 37 (.slice none 0 0):=by
  rw [hW5];have:=Boxed.new ((w.alloc (Obj.cells #[Value.slice A1 l1.length c1] 37)).alloc (Obj.cells #[Value.bool b] 4)) 37 (.slice none 0 0);rw [hsz0,hsz0] at this;exact (this.alloc _).alloc _
 have bA:Boxed W5 (w.heap.size+1+1+1) 37 (.slice A0 l0.length c0):=by
  rw [hW5];have:=Boxed.new (((w.alloc (Obj.cells #[Value.slice A1 l1.length c1] 37)).alloc (Obj.cells #[Value.bool b] 4)).alloc (Obj.cells #[Value.slice none 0 0] 37)) 37 (.slice A0 l0.length c0);rw [hsz0,hsz0,hsz0] at this;exact this.alloc _
 have bN:Boxed W5 (w.heap.size+1+1+1+1) 3 (.int .i64 400):=by
  rw [hW5];have:=Boxed.new ((((w.alloc (Obj.cells #[Value.slice A1 l1.length c1] 37)).alloc (Obj.cells #[Value.bool b] 4)).alloc (Obj.cells #[Value.slice none 0 0] 37)).alloc (Obj.cells #[Value.slice A0 l0.length c0] 37)) 3 (.int .i64 400);rw [hsz0,hsz0,hsz0,hsz0] at this;exact this
 have hsz:W5.heap.size=w.heap.size+1+1+1+1+1:=by rw [hW5,hsz0,hsz0,hsz0,hsz0,hsz0]
 have hb5:Below w.heap.size w W5:=by
  rw [hW5];exact (((((Below.refl _ w).alloc (Nat.le_refl _) _).alloc (by simp) _).alloc (by simp;omega) _).alloc (by simp;omega) _).alloc (by simp;omega) _
 rw [←hW5];clear hW5 hsz0;obtain ⟨F,hF⟩: ∃ F:List Nat->List S74,F=fun pre=>pre.flatMap fun x=>pF (chF l0 x) l1 b:=⟨_,rfl⟩;have HCH:Sd (∀ W,Below w.heap.size w W-> ∀ x,Kd.C k74 W (chA A0 x) (chF l0 x).length (chF l0 x)):=⟨fun W hW x=>chC (Kd.C_below HR0.out hW) HC0.out x⟩;refine wpIn_rangeFunc_ownG rfl (by omega) (gf:=142) (lb:=#[.pointer (some ⟨w.heap.size+1+1+1,0,none⟩),.pointer (some ⟨w.heap.size+1+1+1+1,0,none⟩)]) rfl trivial (enters_of Tryz.func142 (by kernel_rfl) rfl)
  (chunk_stops (3 - 1) (by omega) (w.heap.size+1+1+1) (w.heap.size+1+1+1+1) A0 l0 c0 h4 HC0.out W5 (Kd.C_below HR0.out hb5) (by omega) (by omega) bA.cell bN.cell)
  (fun h k=>h.trans k) (fun W l o o' _ h ho _=>KC.put W l o o' h ho) (Below.refl _ _) (fun _=>rfl)
  (fun pre W=>(∃ v,Boxed W (w.heap.size+1+1) 37 v∧W.ownsRow w.heap.size 74 2 v (F pre).length (c34 (F pre))∧True)∧(Boxed W w.heap.size 37 (.slice A1 l1.length c1)∧Boxed W (w.heap.size+1) 4 (.bool b)∧Boxed W (w.heap.size+1+1+1) 37 (.slice A0 l0.length c0)∧Boxed W (w.heap.size+1+1+1+1) 3 (.int .i64 400))∧Below w.heap.size w W)
  (fun _ _ _=>False)
  (OwnFrom.and (Own.from (holdsRow_own w.heap.size (w.heap.size+1+1) 37 74 2 (fun pre=>(F pre).length) (fun pre=>c34 (F pre)) (fun _ _=>True)) _) (OwnFrom.and (OwnFrom.and (Own.from (boxed_own _ _ _) _) (OwnFrom.and (Own.from (boxed_own _ _ _) _) (OwnFrom.and (Own.from (boxed_own _ _ _) _) (Own.from (boxed_own _ _ _) _)))) (ownFrom_below (Nat.le_refl _) (by omega))))
  (fun _ _ _ _ _ hs _ _=>hs)
  ⟨⟨_,bO,by rw [hF];exact World.ownsRow_nil _ _ _ _,trivial⟩,⟨bS,bH,bA,bN⟩,hb5⟩
  (fun x=>{ tmps:=#[Value.slice A0 l0.length c0,Value.slice A1 l1.length c1,Value.bool b,undef,
     Value.pointer (some { block:=w.heap.size,off:=0 }),
     Value.pointer (some { block:=w.heap.size+1,off:=0 }),Value.slice none 0 0,
     Value.pointer (some { block:=w.heap.size+1+1,off:=0 }),chV A0 l0 x,Value.slice A0 l0.length c0,
     Value.func (Fn.func 142) #[]
      #[Value.pointer (some { block:=w.heap.size+1+1+1,off:=0 }),
       Value.pointer (some { block:=w.heap.size+1+1+1+1,off:=0 })],
     chV A0 l0 x,undef,undef,undef,undef,undef,undef,undef,undef,undef,undef,undef,undef],defers:=[] }) ?assign ?body ?done ?stop
 case assign=>
  intro l x W K hK;gi_wp2;exact hK
 case body=>
  rintro l pre x W ⟨⟨v,hv,hrow,-⟩,⟨hS,hH,hA,hN⟩,hB⟩ hlt;have hcO:=hv.cell;have hcS:=hS.cell;have hcH:=hH.cell;have hd:1<=3 - 1 - 1:=by omega
  have hmx:Tryz.prog.follows .mixedOrders=true:=by kernel_rfl
  have hbase:w.heap.size<=W.heap.size:=hB.size;have hFl:(F pre).length<=1200000*pre.length:=by rw [hF];exact pFs_len l0 l1 b pre
  obtain ⟨ans,hans⟩: ∃ a,a=pF (chF l0 x) l1 b:=⟨_,rfl⟩;have hal:ans.length<=1200000:=by rw [hans];exact pF_len (chF l0 x) l1 b
  have hlen:((F pre).length+ans.length)*16<=140737488355328:=by omega
  have hR0:=R34_of_own hrow;have hcall: ∀ cn,(∀ W A0 c0 l0 (_:Kd.C k74 W A0 l0.length l0) (_:l0.length<=c0) A1 c1 (_:Kd.C k74 W A1 l1.length l1) (_:l1.length<=c1),Calls Tryz.prog cn #[.slice A0 l0.length c0,.slice A1 l1.length c1] W fun e w'=> ∃ v0_:Value,e=.returned v0_∧Kd.R k74 74 w' W.heap.size (fun _=>True) v0_ (pF l0 l1 b)∧Below W.heap.size W w')->Calls Tryz.prog cn #[chV A0 l0 x,.slice A1 l1.length c1] W.drew fun e W1=> ∃ A3 a3 A4 n4 a4 w2,e=.returned (.slice A3 ans.length a3)∧Below W.heap.size W W1∧(Builtin.append_ #[37,37] 37 #[v,.slice A3 ans.length a3]).run Tryz.prog W1=.ok (.slice A4 n4 a4) w2∧Kd.R k74 74 w2 w.heap.size (fun _=>True) (.slice A4 n4 a4) (F pre ++ ans)∧W1.grownBy w2 v.ownBlock∧W1.ownsRow w.heap.size 74 2 v (F pre).length (c34 (F pre)):=by
   intro cn hcn;refine (hcn W.drew (chA A0 x) (chF l0 x).length (chF l0 x) (Kd.C_drew (HCH.out W hB x)) (Nat.le_refl _) A1 c1 (Kd.C_drew (Kd.C_below HR1.out hB)) HC1.out).mono ?_;rw [←hans];rintro e W1 ⟨v1,rfl,hs,hb⟩;obtain ⟨A3,a3,rfl⟩:=Kd.R_slice hs;have hWW1:Below W.heap.size W W1:=⟨hb.os,hb.tape,hb.output,hb.size,hb.block⟩;have hR1:=Kd.R_below hR0 hWW1;obtain ⟨A4,n4,a4,w2,h1,h2,h3⟩:=part_app w.heap.size W1 (Nat.le_trans hbase hWW1.size) v (F pre) hR1 A3 a3 _ ans hs hlen;exact ⟨A3,a3,A4,n4,a4,w2,rfl,hWW1,h1,h2,h3,kp_ hR1⟩
  cases b
  ·have hcall:=hcall 114 fun W A0 c0 l0 h0 k0 A1 c1 h1 k1=>by rw [lu_];exact c18 A0 c0 l0 W h0 k0 A1 c1 l1 h1 k1 _ rfl
   have HCALL:=Sd.m hcall;have HANS:=Sd.m hans;clear hcall hans hR0 hFl hal hlen;gi_wp2
   gi_region_with_o (refine ⟨trivial,?_⟩;gi_at_call 114;refine (CallsIn.inRound l (callsIn_wide.2 HCALL.out)).mono ?_;rintro e W1 ⟨A3,a3,A4,n4,a4,w2,rfl,hWW1,hrun,hR2,hg2,hrow1⟩;have hv1:Boxed W1 (w.heap.size+1+1) 37 v:=(hWW1.block _ hv.lt).trans hv;have hS1:Boxed W1 w.heap.size 37 (.slice A1 l1.length c1):=(hWW1.block _ hS.lt).trans hS;have hH1:Boxed W1 (w.heap.size+1) 4 (.bool false):=(hWW1.block _ hH.lt).trans hH;have hA1:Boxed W1 (w.heap.size+1+1+1) 37 (.slice A0 l0.length c0):=(hWW1.block _ hA.lt).trans hA;have hN1:Boxed W1 (w.heap.size+1+1+1+1) 3 (.int .i64 400):=(hWW1.block _ hN.lt).trans hN;have hcO1:=hv1.cell;have hv2:Boxed w2 (w.heap.size+1+1) 37 v:=hv1.kept hg2 (hv1.not_row (by decide) hrow1);have hS2:=hS1.kept hg2 (hS1.not_row (by decide) hrow1);have hH2:=hH1.kept hg2 (hH1.not_row (by decide) hrow1);have hA2:=hA1.kept hg2 (hA1.not_row (by decide) hrow1);have hN2:=hN1.kept hg2 (hN1.not_row (by decide) hrow1);have hc2:=hv2.cell;have hf2:=hv2.frozen)
   all_goals
    obtain ⟨e1,e2,e3,e4⟩:=parts_end W5.heap.size (w.heap.size+1+1+1) (w.heap.size+1+1+1+1) (w.heap.size+1+1) w W W1 w2 v (F pre) hrow1 _ _ _ hB hWW1 hg2 (by omega) (by omega) (by omega) hv1 hA1 hN1 _ _ hR2;have hFp:F (pre ++ [x])=F pre ++ ans:=by
     rw [hF];show (pre ++ [x]).flatMap (fun x=>pF (chF l0 x) l1 false)=_;rw [List.flatMap_append,List.flatMap_cons,List.flatMap_nil,List.append_nil,HANS.out]
    exact ⟨e1,e2,⟨_,hv2.set _,by rw [hFp];exact e3,trivial⟩,⟨hS2.other (by omega) _,hH2.other (by omega) _,hA2.other (by omega) _,hN2.other (by omega) _⟩,e4⟩
  ·have hcall:=hcall 113 fun W A0 c0 l0 h0 k0 A1 c1 h1 k1=>by rw [pF_true];exact c16 A0 c0 l0 W h0 k0 A1 c1 l1 h1 k1 _ rfl
   have HCALL:=Sd.m hcall;have HANS:=Sd.m hans;clear hcall hans hR0 hFl hal hlen;gi_wp2
   gi_region_with_o (refine ⟨trivial,?_⟩;gi_at_call 113;refine (CallsIn.inRound l (callsIn_wide.2 HCALL.out)).mono ?_;rintro e W1 ⟨A3,a3,A4,n4,a4,w2,rfl,hWW1,hrun,hR2,hg2,hrow1⟩;have hv1:Boxed W1 (w.heap.size+1+1) 37 v:=(hWW1.block _ hv.lt).trans hv;have hS1:Boxed W1 w.heap.size 37 (.slice A1 l1.length c1):=(hWW1.block _ hS.lt).trans hS;have hH1:Boxed W1 (w.heap.size+1) 4 (.bool true):=(hWW1.block _ hH.lt).trans hH;have hA1:Boxed W1 (w.heap.size+1+1+1) 37 (.slice A0 l0.length c0):=(hWW1.block _ hA.lt).trans hA;have hN1:Boxed W1 (w.heap.size+1+1+1+1) 3 (.int .i64 400):=(hWW1.block _ hN.lt).trans hN;have hcO1:=hv1.cell;have hv2:Boxed w2 (w.heap.size+1+1) 37 v:=hv1.kept hg2 (hv1.not_row (by decide) hrow1);have hS2:=hS1.kept hg2 (hS1.not_row (by decide) hrow1);have hH2:=hH1.kept hg2 (hH1.not_row (by decide) hrow1);have hA2:=hA1.kept hg2 (hA1.not_row (by decide) hrow1);have hN2:=hN1.kept hg2 (hN1.not_row (by decide) hrow1);have hc2:=hv2.cell;have hf2:=hv2.frozen)
   all_goals
    obtain ⟨e1,e2,e3,e4⟩:=parts_end W5.heap.size (w.heap.size+1+1+1) (w.heap.size+1+1+1+1) (w.heap.size+1+1) w W W1 w2 v (F pre) hrow1 _ _ _ hB hWW1 hg2 (by omega) (by omega) (by omega) hv1 hA1 hN1 _ _ hR2;have hFp:F (pre ++ [x])=F pre ++ ans:=by
     rw [hF];show (pre ++ [x]).flatMap (fun x=>pF (chF l0 x) l1 true)=_;rw [List.flatMap_append,List.flatMap_cons,List.flatMap_nil,List.append_nil,HANS.out]
    exact ⟨e1,e2,⟨_,hv2.set _,by rw [hFp];exact e3,trivial⟩,⟨hS2.other (by omega) _,hH2.other (by omega) _,hA2.other (by omega) _,hN2.other (by omega) _⟩,e4⟩
 case done=>
  rintro D xs W hD hxs ⟨⟨v,hv,hrow,-⟩,⟨hS,hH,_,_⟩,hB⟩ hK;have hcO:=hv.cell;have hFx:F xs=partF l0 l1 b:=by
   rw [hF,hxs];rfl
  rw [hFx] at hrow;gi_wp2;refine ⟨by simp,.inl ⟨_,_,rfl,run_takeDeferred hK,?_⟩⟩;exact ⟨_,results_tmp rfl _ _ _,v,rfl,R34_of_own (ownsRow_putObj hrow _ hK rfl),hB.trans (belowK_b (w:=w) (Nat.le_refl _) W D _ _ (by omega) hK rfl rfl)⟩
 case stop=>
  rintro D c pre W _ _ h _;exact h.elim
end L
namespace L
open Shelf Go.Sort Lib A
instance:Inhabited S74:=⟨z74⟩
open P
def lowR (l:List S74):Int:=(al_ l 0).f0
theorem cmp_rows (A0:Option Addr)(c0:Nat)(l0:List S74)(A1:Option Addr)(c1:Nat)(l1:List S74)(w:World)(hr0:Kd.C k74 w A0 l0.length l0)(hr1:Kd.C k74 w A1 l1.length l1)(h0:0<l0.length)(h1:0<l1.length):
  Calls Tryz.prog 79 #[.slice A0 l0.length c0,.slice A1 l1.length c1] w fun e w'=>e=.returned (.int .i64 (cmpI (lowR l0) (lowR l1)))∧ ∃ q,w'=w.drewN q:=by
 obtain ⟨ad0,rfl,k0,_⟩:=ec_ hr0 0 (by omega) (by omega);obtain ⟨ad1,rfl,k1,_⟩:=ec_ hr1 0 (by omega) (by omega);have z0:w.cell? ad0=some (.int .i64 (lowR l0)):=by simpa [Addr.add,lowR] using k0
 have z1:w.cell? ad1=some (.int .i64 (lowR l1)):=by simpa [Addr.add,lowR] using k1
 have hc: ∀ W':World,Calls Tryz.prog 80 #[.int .i64 (lowR l0),.int .i64 (lowR l1)] W' fun e w'=>e=.returned (.int .i64 (cmpI (lowR l0) (lowR l1)))∧ ∃ n,w'=W'.drewN n:=fun W'=>(cmp_int (lowR l0) (lowR l1) W').mono fun e w' ⟨h1,h2⟩=>⟨h1,0,h2⟩;generalize cmpI (lowR l0) (lowR l1)=r at hc ⊢;have HC:=Sd.m hc;have b0:(0:Int)<(l0.length:Int):=by omega
 have b1:(0:Int)<(l1.length:Int):=by omega
 clear hc hr0 hr1 k0 k1;go_enter Tryz.func79,Tryz.ntmps79;go_wp2_with fail;go_quiet ((go_at_call 80;refine Calls.quiet_of (HC.out _)));go_wp2_with fail;go_ret;exact ⟨rfl,_,rfl⟩
def RowsAt (W:World)(h:Nat)(hdrs:List Value)(xs:List (List S74)):Prop:=hdrs.length=xs.length∧ ∀ (j:Nat) u x,hdrs[j]? =some u->xs[j]? =some x->Kd.R k74 74 W h (fun _=>True) u x
theorem R34_kept {W W1:World}{base:Nat}{v:Value}{xs:List S74}(h:Kd.R k74 74 W base (fun _=>True) v xs)(hm: ∀ (k:Nat) (cells:Array Value),W.heap[k]? =some (Obj.cells cells 74 (0,0))->W1.heap[k]? =W.heap[k]?):Kd.R k74 74 W1 base (fun _=>True) v xs:=by
 refine Kd.R_mono (Kd.R_move (Kd.R_bound h) (fun k hk=>?_)) (fun _ _=>trivial);obtain ⟨_,_,_,q,hq,cells,hc⟩:=hk;have hE:k74.E=[]:=rfl;rw [hE,List.mem_singleton] at hq;subst hq;exact hm k cells hc
theorem RowsAt.kept {W W1:World}{h:Nat}{hdrs:List Value}{xs:List (List S74)}(r:RowsAt W h hdrs xs)(hm: ∀ (k:Nat) (cells:Array Value),W.heap[k]? =some (Obj.cells cells 74 (0,0))->W1.heap[k]? =W.heap[k]?):RowsAt W1 h hdrs xs:=
 ⟨r.1,fun j u x hu hx=>R34_kept (r.2 j u x hu hx) hm⟩
def OwnRows (W:World)(h:Nat)(v:Value)(xs:List (List S74)):Prop:= ∃ hdrs,W.ownsRow h 37 1 v xs.length hdrs∧RowsAt W h hdrs xs
theorem sw_other {α:Type}[Inhabited α](enc:α->Value){w:World}{g m q:Nat}{d:Array α}{os:Array Obj}(hq:q<w.heap.size)(hne:q≠g):(sortWorld enc w g 0 m d os).heap[q]? =w.heap[q]? :=by
 show ((Sort.ahead w m).heap.modify g (onCells (putCells enc 0 d)) ++ os)[q]? =_;rw [Array.getElem?_append_left (by simp [Sort.ahead];omega)];simp [Sort.ahead,Array.getElem?_modify,Ne.symm hne]
theorem ltF {α:Type}(f:α->Int)(x y:α):ltOf (fun x y=>cmpI (f x) (f y)) x y=decide (f x<f y):=by
 unfold ltOf cmpI;by_cases h1:f x<f y
 ·simp [h1]
 ·by_cases h2:f y<f x <;> simp [h1,h2]
theorem swoF {α:Type}(f:α->Int):SWO (ltOf fun x y=>cmpI (f x) (f y)) where
 irrefl x:=by rw [ltF];simp
 trans x y z h1 h2:=by rw [ltF] at *;simp at *;omega
 ntrans x y z h1 h2:=by rw [ltF] at *;simp at *;omega
theorem extract_all {α:Type}(a:Array α){n:Nat}(h:a.size=n):a.extract 0 n=a:=by
 subst h;exact Array.extract_size
theorem ofFn_map {α:Type}(xs:List α):(Array.ofFn (fun i:Fin xs.length=>i)).toList.map (fun i=>xs[i.1])=xs:=by
 apply List.ext_getElem
 ·simp
 ·intro i h1 h2;simp
theorem sort_rows {w0 W:World}{h:Nat}{v:Value}{xs:List (List S74)}(hO:OwnRows W h v xs)(hb:Below h w0 W)(hn:0<xs.length)(hne: ∀ x∈xs,0<x.length)(hz:xs.length<4611686018427387904):
  Calls Tryz.prog 78 #[v,.func (.func 79) #[] #[]] W fun e w'=>e=.returned (.tuple #[])∧ ∃ ys,ys.Perm xs∧(ys.Pairwise fun x y=>lowR x<=lowR y)∧OwnRows w' h v ys∧Below h w0 w':=by
 obtain ⟨hdrs,⟨ho1,ho2⟩,hl,hr⟩:=hO;rcases ho2 with ⟨_,hn0⟩ | ⟨g,cap,cur,rfl,hbg,hh,hnc,hcm,hcs,ht⟩
 ·omega
 haveI:Inhabited (Fin xs.length):=⟨⟨0,hn⟩⟩
 obtain ⟨enc,henc⟩: ∃ enc:Fin xs.length->Value,enc=fun i=>hdrs[i.1]'(by rw [hl];exact i.2):=⟨_,rfl⟩;obtain ⟨low,hlow⟩: ∃ low:Fin xs.length->Int,low=fun i=>lowR xs[i.1]:=⟨_,rfl⟩;have row: ∀ i:Fin xs.length,∃ A c,enc i=.slice A (xs[i.1]).length c∧Kd.R k74 74 W h (fun _=>True) (.slice A (xs[i.1]).length c) xs[i.1]:=by
  intro i;have hR:=hr i.1 (enc i) xs[i.1] (by rw [henc];exact List.getElem?_eq_getElem _) (List.getElem?_eq_getElem _);obtain ⟨A,c,e⟩:=Kd.R_slice hR;exact ⟨A,c,e,e ▸ hR⟩
 have hglt:g<W.heap.size:=(Array.getElem?_eq_some_iff.1 hh).1;have far: ∀ {m:Nat} {dk:Array (Fin xs.length)} {os:Array Obj} (k:Nat) (cells:Array Value),W.heap[k]? =some (Obj.cells cells 74 (0,0))->(sortWorld enc W g 0 m dk os).heap[k]? =W.heap[k]? :=by
  intro m dk os k cells hk;exact sw_other enc (Array.getElem?_eq_some_iff.1 hk).1 (dq_ hk hh (by decide))
 have hd:(Array.ofFn (fun i:Fin xs.length=>i)).size=xs.length:=Array.size_ofFn;have eg: ∀ args w,(callFunc 79 args).run Tryz.prog w=.ok (.enter 79 args) w:=enters_of Tryz.func79 (by kernel_rfl) rfl;have hH:Holds enc W g 0 (Array.ofFn (fun i:Fin xs.length=>i)):=by
  intro j hj;rw [hd] at hj;refine ⟨?_,aa_ hh _⟩;rw [Nat.zero_add];refine (af_ hh j).trans ?_;have e1:(Array.ofFn (fun i:Fin xs.length=>i))[j]! =⟨j,hj⟩:=by
   rw [getElem!_pos _ j (by rw [hd];exact hj)];simp
  rw [e1,henc];have e2:hdrs[j]? =cur.toList[j]? :=by
   rw [←ht,List.getElem?_take,if_pos (by omega)]
  rw [←Array.getElem?_toList,←e2];exact List.getElem?_eq_getElem _
 have hcmp:CmpLays1 Tryz.prog 79 #[] enc (fun i j=>cmpI (low i) (low j)) g 0 (Array.ofFn (fun i:Fin xs.length=>i)).size W:=by
  intro m os dk hs i j;obtain ⟨A,c,e1,hR1⟩:=row i;obtain ⟨B,b,e2,hR2⟩:=row j;rw [e1,e2,hlow];exact (cmp_rows A c xs[i.1] B b xs[j.1] _ (Kd.R_reads' (R34_kept hR1 far)).2.2 (Kd.R_reads' (R34_kept hR2 far)).2.2 (hne _ (List.getElem_mem _)) (hne _ (List.getElem_mem _))).mono fun e w' ⟨he,q,hq⟩=>⟨he,q,#[],by rw [hq,grow_empty]⟩
 have hone:OneCell enc:=fun i=>by obtain ⟨A,c,e,_⟩:=row i;rw [e];rfl
 have hc:=Any.slices_SortFunc Tryz.sortRows enc hone (fun i j=>cmpI (low i) (low j)) (swoF low) 79 #[] g 0 cap (Array.ofFn (fun i:Fin xs.length=>i)) W eg hcmp hH hglt (by rw [hd];exact hz);rw [hd] at hc;have hc':Calls Tryz.prog 78 #[.slice (some ⟨g,0,none⟩) xs.length cap,.func (.func 79) #[] #[]] W _:=hc;refine hc'.mono ?_;rintro e w' ⟨rfl,d',n,os,⟨hs1,hs2,hs3⟩,hso,rfl⟩;have hsz:d'.size=xs.length:=by rw [hs1,hd]
 have hp:d'.toList.Perm (Array.ofFn (fun i:Fin xs.length=>i)).toList:=by
  rw [extract_all _ hsz,extract_all _ hd] at hs3;exact hs3
 have hlen:(d'.toList.map fun i=>xs[i.1]).length=xs.length:=by rw [List.length_map,Array.length_toList,hsz]
 refine ⟨rfl,d'.toList.map fun i=>xs[i.1],?_,?_,⟨d'.toList.map enc,⟨?_,.inr ⟨g,cap,putCells enc 0 d' cur,?_,hbg,?_,?_,hcm,?_,?_⟩⟩,?_,?_⟩,?_⟩
 ·have:=hp.map fun i:Fin xs.length=>xs[i.1];rwa [ofFn_map] at this
 ·rw [List.pairwise_map,List.pairwise_iff_getElem];intro i j hi hj hij;have hi':i<d'.size:=by simpa using hi
  have hj':j<d'.size:=by simpa using hj
  have:=hso i j (Nat.zero_le _) hij (by omega);rw [ltF,getElem!_pos d' j hj',getElem!_pos d' i hi'] at this;have:=of_decide_eq_false this;rw [hlow] at this;dsimp only at this;simp only [Array.getElem_toList];omega
 ·rw [hlen,List.length_map,Array.length_toList,hsz,Nat.mul_one]
 ·rw [hlen]
 ·have:((Sort.ahead W n).heap.modify g (onCells (putCells enc 0 d')))[g]? =some (.cells (putCells enc 0 d' cur) 37 (0,0)):=by
   simp [Sort.ahead,Array.getElem?_modify,hh,onCells]
  show ((Sort.ahead W n).heap.modify g (onCells (putCells enc 0 d')) ++ os)[g]? =_;rw [Array.getElem?_append_left (by simpa [Sort.ahead] using hglt)];exact this
 ·rw [hlen];exact hnc
 ·simpa [putCells] using hcs
 ·rw [hlen];apply List.ext_getElem?;intro j;rw [List.getElem?_take,Nat.mul_one];by_cases hj:j<xs.length
  ·have hjc:j<cur.size:=by rw [hcs];omega
   rw [if_pos hj,Array.getElem?_toList];simp only [putCells,Array.getElem?_mapIdx,Array.getElem?_eq_getElem hjc,Option.map_some];rw [if_pos ⟨Nat.zero_le _,by omega⟩,List.getElem?_map,Array.getElem?_toList,Array.getElem?_eq_getElem (by omega)];simp [getElem!_pos,show j<d'.size by omega]
  ·rw [if_neg hj,List.getElem?_eq_none (by rw [List.length_map,Array.length_toList];omega)]
 ·rw [List.length_map,List.length_map]
 ·intro j u x hu hx;rw [List.getElem?_map] at hu hx;obtain ⟨i,hi,rfl⟩:=Option.map_eq_some_iff.1 hu;rw [hi] at hx;obtain rfl:xs[i.1]=x:=Option.some.inj hx;obtain ⟨A,c,e,hR⟩:=row i;rw [e];exact R34_kept hR far
 ·refine ⟨hb.os,hb.tape,hb.output,?_,fun q hq=>?_⟩
  ·have:=hb.size;show _<=((Sort.ahead W n).heap.modify g (onCells (putCells enc 0 d')) ++ os).size;simp [Sort.ahead];omega
  ·rw [←hb.block q hq];exact sw_other enc (by omega) (by omega)
theorem OwnRows.nil (W:World)(h:Nat):OwnRows W h (.slice none 0 0) []:=⟨[],World.ownsRow_nil _ _ _ _,rfl,fun j u x hu _=>by simp at hu⟩
theorem OwnRows.lower {W:World}{h h':Nat}{v:Value}{xs:List (List S74)}(o:OwnRows W h v xs)(hb:h'<=h):OwnRows W h' v xs:=by
 obtain ⟨hdrs,ho,hl,hr⟩:=o;refine ⟨hdrs,⟨ho.1,?_⟩,hl,fun j u x hu hx=>Kd.R_lower (hr j u x hu hx) hb⟩;rcases ho.2 with hn | ⟨g,cap,cur,e,hg,rest⟩
 ·exact .inl hn
 ·exact .inr ⟨g,cap,cur,e,by omega,rest⟩
theorem OwnRows.below {W W1:World}{h:Nat}{v:Value}{xs:List (List S74)}(o:OwnRows W h v xs)(hb:Below W.heap.size W W1):OwnRows W1 h v xs:=by
 obtain ⟨hdrs,ho,hr⟩:=o;refine ⟨hdrs,⟨ho.1,?_⟩,hr.kept fun k cells hk=>hb.block k (Array.getElem?_eq_some_iff.1 hk).1⟩;rcases ho.2 with hn | ⟨g,cap,cur,e,hg,hh,rest⟩
 ·exact .inl hn
 ·exact .inr ⟨g,cap,cur,e,hg,(hb.block g (Array.getElem?_eq_some_iff.1 hh).1).trans hh,rest⟩
theorem OwnRows.slice {W:World}{h:Nat}{v:Value}{xs:List (List S74)}(o:OwnRows W h v xs): ∃ A c,v=.slice A xs.length c:=by
 obtain ⟨hdrs,ho,_⟩:=o;rcases ho.2 with ⟨e,hn⟩ | ⟨g,cap,cur,e,_⟩
 ·exact ⟨none,0,by rw [e,hn]⟩
 ·exact ⟨_,cap,e⟩
theorem OwnRows.reads {W:World}{h n c:Nat}{A:Option Addr}{xs:List (List S74)}(o:OwnRows W h (.slice A n c) xs):n=xs.length∧xs.length<=c∧Kd.C (Kd.slice 74 k74) W A xs.length xs:=by
 obtain ⟨hdrs,ho,hl,hr⟩:=o;rcases ho.2 with ⟨e,hn⟩ | ⟨g,cap,cur,e,hg,hh,hnc,hcm,hcs,ht⟩
 ·injection e with e1 e2 e3;subst e1 e2 e3;obtain rfl:=List.eq_nil_of_length_eq_zero hn;exact ⟨rfl,Nat.le_refl _,Kd.C_nil _ _⟩
 ·injection e with e1 e2 e3;subst e1 e2 e3;refine ⟨rfl,hnc,rfl,by unfold maxLen at hcm;omega,fun _=>⟨_,rfl,fun j x hx=>?_⟩⟩;have hj:j<xs.length:=(List.getElem?_eq_some_iff.1 hx).1;obtain ⟨u,hu⟩: ∃ u,hdrs[j]? =some u:=⟨_,List.getElem?_eq_getElem (by omega)⟩;have hR:=hr j u x hu hx;obtain ⟨A',c',rfl⟩:=Kd.R_slice hR;obtain ⟨k1,k2,k3⟩:=Kd.R_reads' hR;refine ⟨[.slice A' x.length c'],rfl,(show Kd.K (Kd.slice 74 k74) W x [.slice A' x.length c'] from ⟨A',c',rfl,k2,k3⟩),fun i v hv=>?_⟩;have hi:i=0:=by
   have:=(List.getElem?_eq_some_iff.1 hv).1;simp at this;exact this
  subst hi;simp at hv;subst hv;show W.cell? (Addr.add ⟨g,0,none⟩ (j*1+0))=_;rw [Nat.mul_one,Nat.add_zero,add_plain];refine (af_ hh j).trans ?_;rw [←hu,←ht,List.getElem?_take,if_pos (by omega),Array.getElem?_toList]
theorem OwnRows.add {W w1:World}{h:Nat}{v v' u:Value}{xs:List (List S74)}{x:List S74}{hdrs:List Value}{tmp:Obj}(ho:W.ownsRow h 37 1 v xs.length hdrs)(hr:RowsAt W h hdrs xs)(hu:Kd.R k74 74 W h (fun _=>True) u x)
  (hown':w1.ownsRow h 37 1 v' (xs.length+1) (hdrs ++ [u])) (hg:(W.alloc tmp).grownBy w1 v.ownBlock):OwnRows w1 h v' (xs ++ [x]):=by
 have hm: ∀ (k:Nat) (cells:Array Value),W.heap[k]? =some (Obj.cells cells 74 (0,0))->w1.heap[k]? =W.heap[k]? :=by
  intro k cells hk;have hlt:=(Array.getElem?_eq_some_iff.1 hk).1;have e1:(W.alloc tmp).heap[k]? =W.heap[k]? :=Below.heap_alloc W tmp k hlt;have hlt2:k<(W.alloc tmp).heap.size:=by simp;omega
  refine (hg.block k hlt2 fun e=>?_).trans e1;rcases ho.2 with ⟨e',_⟩ | ⟨g,cap,cur,e',_,hh,_⟩
  ·rw [e'] at e;cases e
  ·rw [e'] at e;have:k=g:=by simpa [Value.ownBlock] using e
   subst this;exact dq_ hk hh (by decide) rfl
 refine ⟨hdrs ++ [u],by rw [List.length_append];exact hown',by rw [List.length_append,List.length_append,hr.1];rfl,fun j a b ha hb=>?_⟩;by_cases hj:j<xs.length
 ·rw [List.getElem?_append_left (by rw [hr.1];exact hj)] at ha;rw [List.getElem?_append_left hj] at hb;exact R34_kept (hr.2 j a b ha hb) hm
 ·have hjl:=(List.getElem?_eq_some_iff.1 hb).1;rw [List.length_append,List.length_singleton] at hjl;have e:j=xs.length:=by omega
  subst e;rw [List.getElem?_append_right (by rw [hr.1];exact Nat.le_refl _),hr.1,Nat.sub_self] at ha;rw [List.getElem?_append_right (Nat.le_refl _),Nat.sub_self] at hb;simp at ha hb;subst ha hb;exact R34_kept hu hm
theorem OwnRows.one {W:World}{h g:Nat}{u:Value}{x:List S74}(hh:W.heap[g]? =some (Obj.cells #[u] 37 (0,0)))(hg:h<=g)(hu:Kd.R k74 74 W h (fun _=>True) u x):OwnRows W h (.slice (some ⟨g,0,none⟩) 1 1) [x]:=by
 refine ⟨[u],⟨rfl,.inr ⟨g,1,#[u],rfl,hg,hh,Nat.le_refl _,by decide,rfl,rfl⟩⟩,rfl,fun j a b ha hb=>?_⟩;cases j with
 | zero=>
  simp at ha hb;subst ha hb;exact hu
 | succ j=>simp at ha
theorem long_one (A0:Option Addr)(c0:Nat)(l0:List S74)(w:World):Calls Tryz.prog 74 #[.slice A0 l0.length c0] w fun e w'=>e=.returned (.bool (decide (400<l0.length)))∧Below w.heap.size w w':=by
 by_cases h:400<l0.length
 ·have b1:decide (400<l0.length)=true:=dt__ h;have b2:decide (400<(l0.length:Int))=true:=dt__ (by omega);rw [b1];clear h;go_enter Tryz.func74,Tryz.ntmps74;go_wp2_with fail;go_ret;exact ⟨by first | rfl | (simp [b1,b2];done) | (rw [b2];done),Below.refl _ _⟩
 ·have b1:decide (400<l0.length)=false:=df__ h;have b2:decide (400<(l0.length:Int))=false:=df__ (by omega);rw [b1];clear h;go_enter Tryz.func74,Tryz.ntmps74;go_wp2_with fail;go_ret;exact ⟨by first | rfl | (simp [b1,b2];done) | (rw [b2];done),Below.refl _ _⟩
theorem class_one (c:Int)(gc:Nat)(A0:Option Addr)(c0:Nat)(l0:List S74)(w:World)(hr0:Kd.C k74 w A0 l0.length l0)(hc0:l0.length<=c0)(hg:w.heap[gc]? =some (.cells #[.int .i64 c] 3 (0,0))):
  Calls Tryz.prog 103 #[.slice A0 l0.length c0,.pointer (some ⟨gc,0,none⟩)] w fun e w'=>e=.returned (.bool (hasF l0 c))∧Below w.heap.size w w':=by
 have hs:=c24 A0 c0 l0 w hr0 hc0 c _ rfl;have hcell:=bc_ hg 0 rfl;generalize hasF l0 c=b at hs ⊢;have HS:=Sd.m hs;clear hs hg hr0 hc0;go_enter Tryz.func103,Tryz.ntmps103;go_wp2_with fail;refine HS.out.mono ?_;rintro e w' ⟨rfl,hb⟩;have HB:=Sd.m hb;clear hb;go_wp2_with fail;go_ret;exact ⟨rfl,HB.out⟩
def ixF (p:List S74->Bool)(l:List (List S74)):Int:=match l.findIdx? p with
 | some i=>i
 | none=> -1
theorem ixF_ge (p:List S74->Bool)(l:List (List S74)):decide (0<=ixF p l)=l.any p:=by
 unfold ixF;cases h:l.findIdx? p with
 | none=>
  have:=List.findIdx?_eq_none_iff.1 h;simp only;rw [df__ (by omega)];symm;rw [List.any_eq_false];intro x hx;rw [this x hx];decide
 | some i=>
  simp only;rw [dt__ (by omega)];symm;obtain ⟨hi,hp,_⟩:=List.findIdx?_eq_some_iff_getElem.1 h;exact List.any_eq_true.2 ⟨_,List.getElem_mem hi,hp⟩
def Lxi (w:World)(l:List (List S74))(p:List S74->Bool)(u:Value)(W:World):Prop:= ∃ j:Nat,j<=l.length∧u=.int .i64 j∧Below w.heap.size w W∧ ∀ r∈l.take j,p r=false
theorem index_long (A0:Option Addr)(c0:Nat)(l0:List (List S74))(w:World)(hr0:Kd.C (Kd.slice 74 k74) w A0 l0.length l0)(hc0:l0.length<=c0):
  Calls Tryz.prog 102 #[.slice A0 l0.length c0,.func (.func 74) #[] #[]] w fun e w'=>e=.returned (.int .i64 (ixF (fun x_:List S74=>decide (400<x_.length)) l0))∧Below w.heap.size w w':=by
 have HR:=Sd.m hr0;have HM:l0.length<=9223372036854775807:=Kd.C_max hr0;have eg: ∀ args w,(callFunc 74 args).run Tryz.prog w=.ok (.enter 74 args) w:=enters_of Tryz.func74 (by kernel_rfl) rfl;clear hr0;obtain ⟨p,hp⟩: ∃ p:List S74->Bool,p=fun x_:List S74=>decide (400<x_.length):=⟨_,rfl⟩;rw [←hp];have HP:=Sd.m hp;clear hp;go_enter Tryz.func102,Tryz.ntmps102;go_wp2_with fail;go_loopw [8] (fun u W=>Lxi w l0 p u W) (fun u _=>l0.length - (intOf u).toNat)
 case atStart=>exact ⟨0,Nat.zero_le _,rfl,Below.refl _ _,(fun r hr=>by simp at hr)⟩
 case round=>
  obtain ⟨j,hj,rfl,hb,hno⟩:=hrel;have HB:=Sd.m hb;have HN:=Sd.m hno;clear hb hno;by_cases hlt:j<l0.length
  ·have b1:decide ((j:Int)<(l0.length:Int))=true:=dt__ (by omega);have b2:decide (j<l0.length)=true:=dt__ hlt;obtain ⟨ad,A1,c1,rfl,k0,k1,k2⟩:=iw_ (Kd.C_below HR.out HB.out) (j:Int) (by omega) (by omega);rw [Int.toNat_natCast] at k0;have hq0:0<=(j:Int):=by omega
   have hq1:(j:Int)<(l0.length:Int):=by omega
   have w2:IntKind.i64.wrap ((j:Int)+1)=(j:Int)+1:=IntWalk.i64_in _ (by omega);have hel:l0[j]? =some (dn_ l0 j):=by
    unfold dn_;rw [Int.toNat_natCast,List.getD_eq_getElem?_getD,List.getElem?_eq_getElem hlt];rfl
   have HE:=Sd.m hel;clear hel;obtain ⟨s,hs⟩: ∃ s,s=dn_ l0 j:=⟨_,rfl⟩;rw [←hs] at k0 k1 k2 HE;clear hs;have HK:=Sd.m k2;have HK1:=Sd.m k1;clear k2 k1;go_wp2_with fail;have hrl:=long_one A1 c1 s wr;rw [show decide (400<s.length)=p s from by rw [HP.out]] at hrl;refine hrl.mono ?_;clear hrl;rintro e W7 ⟨rfl,hb7⟩;have HB7:=Sd.m (HB.out.trans (hb7.mono HB.out.size));clear hb7 k0;cases hi:p s with
   | true=>
    have HI:=Sd.m hi;clear hi;go_wp2_with fail;go_ret;have hfi:(l0.findIdx? p)=some j:=List.findIdx?_eq_some_iff_getElem.2 ⟨hlt,(by rw [List.getElem?_eq_getElem hlt] at HE;rw [Option.some.inj HE.out];exact HI.out),(fun i hi=>by
     have:=HN.out (l0[i]'(by omega)) (List.mem_take_iff_getElem.2 ⟨i,by omega,rfl⟩);rw [this];decide)⟩
    have hix:ixF p l0=j:=by
     unfold ixF;rw [hfi]
    exact ⟨by rw [hix];rfl,HB7.out⟩
   | false=>
    have HI:=Sd.m hi;clear hi;go_wp2_with fail;go_roundw
    case rel=>
     refine ⟨j+1,hlt,by go_num,HB7.out,fun r hr=>?_⟩;rw [List.take_add_one,HE.out] at hr;rcases List.mem_append.1 hr with hr | hr
     ·exact HN.out r hr
     ·simp at hr;rw [hr];exact HI.out
    case measure=>simp [intOf];omega
  ·have b1:decide ((j:Int)<(l0.length:Int))=false:=df__ (by omega);have b2:decide (j<l0.length)=false:=df__ hlt;go_wp2_with fail;go_ret;have:ixF p l0= -1:=by
    unfold ixF;rw [List.findIdx?_eq_none_iff.2 fun x hx=>HN.out x (by rw [List.take_of_length_le (by omega)];exact hx)]
   exact ⟨by rw [this];rfl,HB.out⟩
theorem index_class (c:Int)(gc:Nat)(A0:Option Addr)(c0:Nat)(l0:List (List S74))(w:World)(hr0:Kd.C (Kd.slice 74 k74) w A0 l0.length l0)(hc0:l0.length<=c0)(hg:w.heap[gc]? =some (.cells #[.int .i64 c] 3 (0,0))):
  Calls Tryz.prog 102 #[.slice A0 l0.length c0,.func (.func 103) #[] #[.pointer (some ⟨gc,0,none⟩)]] w fun e w'=>e=.returned (.int .i64 (ixF (fun x_:List S74=>hasF x_ c) l0))∧Below w.heap.size w w':=by
 have HR:=Sd.m hr0;have HG:=Sd.m hg;clear hg;have HM:l0.length<=9223372036854775807:=Kd.C_max hr0;have eg: ∀ args w,(callFunc 103 args).run Tryz.prog w=.ok (.enter 103 args) w:=enters_of Tryz.func103 (by kernel_rfl) rfl;clear hr0;obtain ⟨p,hp⟩: ∃ p:List S74->Bool,p=fun x_:List S74=>hasF x_ c:=⟨_,rfl⟩;rw [←hp];have HP:=Sd.m hp;clear hp;go_enter Tryz.func102,Tryz.ntmps102;go_wp2_with fail;go_loopw [8] (fun u W=>Lxi w l0 p u W) (fun u _=>l0.length - (intOf u).toNat)
 case atStart=>exact ⟨0,Nat.zero_le _,rfl,Below.refl _ _,(fun r hr=>by simp at hr)⟩
 case round=>
  obtain ⟨j,hj,rfl,hb,hno⟩:=hrel;have HB:=Sd.m hb;have HN:=Sd.m hno;clear hb hno;by_cases hlt:j<l0.length
  ·have b1:decide ((j:Int)<(l0.length:Int))=true:=dt__ (by omega);have b2:decide (j<l0.length)=true:=dt__ hlt;obtain ⟨ad,A1,c1,rfl,k0,k1,k2⟩:=iw_ (Kd.C_below HR.out HB.out) (j:Int) (by omega) (by omega);rw [Int.toNat_natCast] at k0;have hq0:0<=(j:Int):=by omega
   have hq1:(j:Int)<(l0.length:Int):=by omega
   have w2:IntKind.i64.wrap ((j:Int)+1)=(j:Int)+1:=IntWalk.i64_in _ (by omega);have hel:l0[j]? =some (dn_ l0 j):=by
    unfold dn_;rw [Int.toNat_natCast,List.getD_eq_getElem?_getD,List.getElem?_eq_getElem hlt];rfl
   have HE:=Sd.m hel;clear hel;obtain ⟨s,hs⟩: ∃ s,s=dn_ l0 j:=⟨_,rfl⟩;rw [←hs] at k0 k1 k2 HE;clear hs;have HK:=Sd.m k2;have HK1:=Sd.m k1;clear k2 k1;go_wp2_with fail;have hrl:=class_one c gc A1 c1 s wr HK.out HK1.out (ag_ HG.out HB.out);rw [show hasF s c=p s from by rw [HP.out]] at hrl;refine hrl.mono ?_;clear hrl;rintro e W7 ⟨rfl,hb7⟩;have HB7:=Sd.m (HB.out.trans (hb7.mono HB.out.size));clear hb7 k0;cases hi:p s with
   | true=>
    have HI:=Sd.m hi;clear hi;go_wp2_with fail;go_ret;have hfi:(l0.findIdx? p)=some j:=List.findIdx?_eq_some_iff_getElem.2 ⟨hlt,(by rw [List.getElem?_eq_getElem hlt] at HE;rw [Option.some.inj HE.out];exact HI.out),(fun i hi=>by
     have:=HN.out (l0[i]'(by omega)) (List.mem_take_iff_getElem.2 ⟨i,by omega,rfl⟩);rw [this];decide)⟩
    have hix:ixF p l0=j:=by
     unfold ixF;rw [hfi]
    exact ⟨by rw [hix];rfl,HB7.out⟩
   | false=>
    have HI:=Sd.m hi;clear hi;go_wp2_with fail;go_roundw
    case rel=>
     refine ⟨j+1,hlt,by go_num,HB7.out,fun r hr=>?_⟩;rw [List.take_add_one,HE.out] at hr;rcases List.mem_append.1 hr with hr | hr
     ·exact HN.out r hr
     ·simp at hr;rw [hr];exact HI.out
    case measure=>simp [intOf];omega
  ·have b1:decide ((j:Int)<(l0.length:Int))=false:=df__ (by omega);have b2:decide (j<l0.length)=false:=df__ hlt;go_wp2_with fail;go_ret;have:ixF p l0= -1:=by
    unfold ixF;rw [List.findIdx?_eq_none_iff.2 fun x hx=>HN.out x (by rw [List.take_of_length_le (by omega)];exact hx)]
   exact ⟨by rw [this];rfl,HB.out⟩
def longF (l:List (List S74)):Bool:=l.any fun x=>decide (400<x.length)
theorem fb_ (A0:Option Addr)(c0:Nat)(l0:List (List S74))(w:World)(hr0:Kd.C (Kd.slice 74 k74) w A0 l0.length l0)(hc0:l0.length<=c0)(b:Bool)(h:longF l0=b):
  Calls Tryz.prog 75 #[.slice A0 l0.length c0,.func (.func 74) #[] #[]] w fun e w'=>e=.returned (.bool b)∧Below w.heap.size w w':=by
 have hi:=index_long A0 c0 l0 w hr0 hc0;have hge:decide (0<=ixF (fun x:List S74=>decide (400<x.length)) l0)=b:=(ixF_ge _ l0).trans h;generalize ixF (fun x:List S74=>decide (400<x.length)) l0=i at hi hge;rw [←hge];have HI:=Sd.m hi;clear hi hr0 hc0 hge h;go_enter Tryz.func75,Tryz.ntmps75;go_wp2_with fail;refine HI.out.mono ?_;rintro e w' ⟨rfl,hb⟩;have HB:=Sd.m hb;clear hb;go_wp2_with fail;go_ret;exact ⟨rfl,HB.out⟩
def classF (l:List (List S74))(c:Int):Int:=ixF (fun x=>hasF x c) l
theorem c38 (A0:Option Addr)(c0:Nat)(l0:List (List S74))(a1:Int)(w:World)(hr0:Kd.C (Kd.slice 74 k74) w A0 l0.length l0)(hc0:l0.length<=c0)(n:Int)(h:classF l0 a1=n):
  Calls Tryz.prog 67 #[.slice A0 l0.length c0,.int .i64 a1] w fun e w'=>e=.returned (.int .i64 n)∧Below w.heap.size w w':=by
 have hs:=index_class a1 w.heap.size A0 c0 l0 (w.alloc (.cells #[.int .i64 a1] 3)) (Kd.C_alloc hr0 _) hc0 (aj_ _ _);rw [show ixF (fun x_:List S74=>hasF x_ a1) l0=n from h] at hs;have HS:=Sd.m hs;clear hs hr0 hc0 h;go_enter Tryz.func67,Tryz.ntmps67;go_wp2_with fail;refine HS.out.mono ?_;rintro e w' ⟨rfl,hb⟩;have HB:=Sd.m ((ab_ (Below.refl w.heap.size w) (.cells #[.int .i64 a1] 3)).trans (hb.mono (by simp)));clear hb;go_wp2_with fail;go_ret;exact ⟨rfl,HB.out⟩
end L
namespace P
open A L
def bordF (xs:List S74):List Int:=xs.flatMap fun r=>[r.f0,r.f1+1]
theorem bord_len: ∀ xs:List S74,(bordF xs).length=2*xs.length
 | []=>rfl
 | r :: xs=>by
  have:=bord_len xs;simp only [bordF,List.flatMap_cons,List.length_append,List.length_cons,List.length_nil] at this ⊢;omega
theorem bord_mem {xs:List S74}{x:Int}(h:x∈bordF xs): ∃ r∈xs,x=r.f0∨x=r.f1+1:=by
 obtain ⟨r,hr,h⟩:=List.mem_flatMap.1 h;simp at h;exact ⟨r,hr,h⟩
theorem bord_up: ∀ {xs:List S74},(∀ r∈xs,r.f0<=r.f1)->xs.Pairwise (fun r s=>r.f1+1<s.f0)->(bordF xs).Pairwise (· < ·)
 | [],_,_=>List.Pairwise.nil
 | r :: xs,h,hp=>by
  obtain ⟨h1,h2⟩:=List.pairwise_cons.1 hp;have ih:=bord_up (xs:=xs) (fun s hs=>h s (List.mem_cons_of_mem _ hs)) h2;have hr:=h r (List.mem_cons_self ..);have far: ∀ x∈bordF xs,r.f1+1<x:=by
   intro x hx;obtain ⟨s,hs,e | e⟩:=bord_mem hx
   ·rw [e];exact h1 s hs
   ·have:=h1 s hs;have:=h s (List.mem_cons_of_mem _ hs);omega
  show (r.f0 :: (r.f1+1) :: bordF xs).Pairwise (· < ·);refine List.pairwise_cons.2 ⟨fun x hx=>?_,List.pairwise_cons.2 ⟨far,ih⟩⟩;rcases List.mem_cons.1 hx with rfl | hx
  ·omega
  ·have:=far x hx;omega
theorem mem_two {xs:List S74}(hp:xs.Pairwise fun r s=>r.f1+1<s.f0){r s:S74}(hr:r∈xs)(hs:s∈xs):r=s∨r.f1+1<s.f0∨s.f1+1<r.f0:=by
 induction xs with
 | nil=>cases hr
 | cons t ts ih=>
  obtain ⟨p1,p2⟩:=List.pairwise_cons.1 hp;rcases List.mem_cons.1 hr with e1 | e1
  ·rcases List.mem_cons.1 hs with e2 | e2
   ·exact Or.inl (e1.trans e2.symm)
   ·exact Or.inr (Or.inl (e1 ▸ p1 s e2))
  ·rcases List.mem_cons.1 hs with e2 | e2
   ·exact Or.inr (Or.inr (e2 ▸ p1 r e1))
   ·exact ih p2 e1 e2
theorem canon_runs (P:Int->Bool)(E:List Int)(h: ∀ c,0<c->c<=1114111->P c≠P (c - 1)->c∈E):2*(canonF P).length<=E.length+2:=by
 have hs:=dd_ P;have hr:=hs.1.1;have hp:=hs.1.2;have hm: ∀ c,0<=c->c<1114112->Mem (canonF P) c=P c:=hs.2;have up:=bord_up (fun r q=>(hr r q).2.1) hp;have nd:(bordF (canonF P)).Nodup:=up.imp fun q e=>by omega
 have nd1:=nd.erase 0;have nd2:=nd1.erase 1114112;have hl:2*(canonF P).length<=(((bordF (canonF P)).erase 0).erase 1114112).length+2:=by
  have e1:=bord_len (canonF P);have e2:=List.length_erase (a:=(0:Int)) (l:=bordF (canonF P));have e3:=List.length_erase (a:=(1114112:Int)) (l:=(bordF (canonF P)).erase 0);split at e2 <;> split at e3 <;> omega
 have:=nodup_len (((bordF (canonF P)).erase 0).erase 1114112) E nd2 ?_
 ·omega
 ·intro x hx;rw [nd1.mem_erase_iff,nd.mem_erase_iff] at hx;obtain ⟨hx2,hx1,hx0⟩:=hx;obtain ⟨r,hq,e | e⟩:=bord_mem hx0
  ·have hb:=hr r hq;refine h x (by omega) (by omega) ?_;have t1:P x=true:=by
    rw [←hm x (by omega) (by omega)];exact mem_iff.2 ⟨r,hq,by omega,by omega⟩
   have t2:P (x - 1)=false:=by
    rw [←hm (x - 1) (by omega) (by omega)];cases hz:Mem (canonF P) (x - 1) with
    | false=>rfl
    | true=>
     obtain ⟨s,hs',k1,k2⟩:=mem_iff.1 hz;have:=hr s hs';rcases mem_two hp hq hs' with e' | e' | e'
     ·rw [←e'] at k1;omega
     ·omega
     ·omega
   rw [t1,t2];decide
  ·have hb:=hr r hq;refine h x (by omega) (by omega) ?_;have t1:P (x - 1)=true:=by
    rw [←hm (x - 1) (by omega) (by omega)];exact mem_iff.2 ⟨r,hq,by omega,by omega⟩
   have t2:P x=false:=by
    rw [←hm x (by omega) (by omega)];cases hz:Mem (canonF P) x with
    | false=>rfl
    | true=>
     obtain ⟨s,hs',k1,k2⟩:=mem_iff.1 hz;have:=hr s hs';rcases mem_two hp hq hs' with e' | e' | e'
     ·rw [←e'] at k2;omega
     ·omega
     ·omega
   rw [t1,t2];decide
def sigF (sets:List (List S74))(c:Int):List Bool:=sets.map fun s=>hasB s c
def atF (sets:List (List S74))(σ:List Bool):List S74:=canonF fun c=>decide (sigF sets c=σ)
def edgesOf (sets:List (List S74)):List Int:=sets.flatMap fun s=>lowsF s ++ endsF s
theorem hasB_edge {l:List S74}{c:Int}(h0:0<=c)(h:hasB l c≠hasB l (c - 1)):c∈lowsF l ++ endsF l:=by
 rw [List.mem_append];cases h1:hasB l c with
 | true=>
  cases h2:hasB l (c - 1) with
  | true=>rw [h1,h2] at h;exact absurd rfl h
  | false=>exact Or.inl (starts h0 h1 (Or.inr h2))
 | false=>
  cases h2:hasB l (c - 1) with
  | true=>exact Or.inr (ends h1 h2)
  | false=>rw [h1,h2] at h;exact absurd rfl h
theorem sig_edge {sets:List (List S74)}{c:Int}(h0:0<=c)(h:sigF sets c≠sigF sets (c - 1)):c∈edgesOf sets:=by
 induction sets with
 | nil=>exact absurd rfl h
 | cons s sets ih=>
  show c∈(lowsF s ++ endsF s) ++ edgesOf sets;rw [List.mem_append];by_cases e:hasB s c=hasB s (c - 1)
  ·refine Or.inr (ih fun e2=>h ?_);show hasB s c :: sigF sets c=hasB s (c - 1) :: sigF sets (c - 1);rw [e,e2]
  ·exact Or.inl (hasB_edge h0 e)
theorem at_len {sets:List (List S74)}(E:List Int)(hE: ∀ c,0<c->c<=1114111->sigF sets c≠sigF sets (c - 1)->c∈E)(σ:List Bool):2*(atF sets σ).length<=E.length+2:=
 canon_runs _ E fun c h0 h1 h=>hE c h0 h1 fun e=>h (by rw [e])
theorem fr_: ∀ sets:List (List S74),(edgesOf sets).length=2*(sets.map List.length).sum
 | []=>rfl
 | s :: sets=>by
  have:=fr_ sets;show ((lowsF s ++ endsF s) ++ edgesOf sets).length=_;rw [List.length_append,List.length_append,lows_len,ends_len,this,List.map_cons,List.sum_cons];omega
def ofStep (s:List S74)(atoms:List (List S74)):List (List S74):=atoms.flatMap fun a=>[partF a s true,partF a s false].filter fun p=>decide (0<p.length)
def AtomsOf (sets:List (List S74))(L:List (List S74)):Prop:=
 ∃ T:List (List Bool),T.Nodup∧L=T.map (atF sets)∧(∀ c,0<=c->c<=1114111->sigF sets c∈T)∧ ∀ t∈T,0<(atF sets t).length
theorem ln_ {a b:List Bool}{x y:Bool}:a ++ [x]=b ++ [y]↔a=b∧x=y:=by
 constructor
 ·intro h;obtain ⟨h1,h2⟩:=List.append_inj' h rfl;exact ⟨h1,(List.cons.inj h2).1⟩
 ·rintro ⟨rfl,rfl⟩;rfl
theorem jb_ (pre:List (List S74))(s:List S74)(c:Int):sigF (pre ++ [s]) c=sigF pre c ++ [hasB s c]:=by simp [sigF]
theorem pF_eq (x s:List S74)(b:Bool)(h:x.length<=400):pF x s b=canonF fun c=>Mem x c && (hasB s c == b):=by
 have hx: ∀ c,hasB x c=Mem x c:=fun c=>by unfold hasB;rw [dt__ h,Bool.true_and]
 cases b with
 | true=>
  rw [pF_true];exact ea_ fun c _ _=>by rw [hx];cases hasB s c <;> rfl
 | false=>
  rw [lu_];exact ea_ fun c _ _=>by rw [hx];cases hasB s c <;> rfl
theorem pF_spec (x s:List S74)(b:Bool)(h:x.length<=400):Spec (fun c=>Mem x c && (hasB s c == b)) (pF x s b) 1114112:=by
 rw [pF_eq x s b h];exact dd_ _
theorem chF_short (a:List S74)(x:Nat):(chF a x).length<=400:=by rw [chF_len];omega
theorem ke_ {a:List S74}(ha:Can 1114112 a)(s:List S74)(b:Bool): ∀ n:Nat,Spec (fun c=>Mem (a.take (400*n)) c && (hasB s c == b)) ((List.range n).flatMap fun x=>pF (chF a x) s b) 1114112
 | 0=>⟨⟨fun r hr=>absurd hr List.not_mem_nil,List.Pairwise.nil⟩,fun c _ _=>by simp [Mem]⟩
 | n+1=>by
  have ih:=ke_ ha s b n;have hc:=pF_spec (chF a n) s b (chF_short a n);have et:a.take (400*(n+1))=a.take (400*n) ++ chF a n:=by unfold chF;rw [show 400*(n+1)=400*n+400 by omega,List.take_add]
  rw [List.range_succ,List.flatMap_append,List.flatMap_cons,List.flatMap_nil,List.append_nil];refine ⟨⟨fun r hr=>?_,List.pairwise_append.2 ⟨ih.1.2,hc.1.2,fun r hr q hq=>?_⟩⟩,fun c h0 h1=>?_⟩
  ·rcases List.mem_append.1 hr with hr | hr
   ·exact ih.1.1 r hr
   ·exact hc.1.1 r hr
  ·have br:=ih.1.1 r hr;have bq:=hc.1.1 q hq;have m1:Mem ((List.range n).flatMap fun x=>pF (chF a x) s b) r.f1=true:=mem_iff.2 ⟨r,hr,br.2.1,Int.le_refl _⟩;have m2:Mem (pF (chF a n) s b) q.f0=true:=mem_iff.2 ⟨q,hq,Int.le_refl _,bq.2.1⟩;rw [ih.2 _ (by omega) br.2.2,Bool.and_eq_true] at m1;rw [hc.2 _ bq.1 (by omega),Bool.and_eq_true] at m2;obtain ⟨t,ht,t0,t1⟩:=mem_iff.1 m1.1;obtain ⟨u,hu,u0,u1⟩:=mem_iff.1 m2.1;have hsep:(a.take (400*n) ++ chF a n).Pairwise fun r s=>r.f1+1<s.f0:=by
    rw [←et];exact ha.2.sublist (List.take_sublist _ _)
   have:=(List.pairwise_append.1 hsep).2.2 t ht u hu;omega
  ·rw [jv_,ih.2 c h0 h1,hc.2 c h0 h1];dsimp only;rw [et,jv_];cases Mem (a.take (400*n)) c <;> cases Mem (chF a n) c <;> simp
theorem part_canon (P:Int->Bool)(s:List S74)(b:Bool):partF (canonF P) s b=canonF fun c=>P c && (hasB s c == b):=by
 unfold partF;have h:=ke_ (dd_ P).1 s b (((canonF P).length+399) / 400);rw [List.take_of_length_le (by omega)] at h;refine (ih_ h).trans (ea_ fun c h0 h1=>?_);rw [gn_ P h0 h1]
theorem part_at {pre:List (List S74)}{t:List Bool}(s:List S74)(b:Bool):partF (atF pre t) s b=atF (pre ++ [s]) (t ++ [b]):=by
 unfold atF;rw [part_canon];refine ea_ fun c h0 h1=>?_;rw [jb_,Bool.eq_iff_iff];simp [ln_]
theorem at_pos {sets:List (List S74)}{c:Int}(h0:0<=c)(h1:c<=1114111):0<(atF sets (sigF sets c)).length:=by
 have h:=gn_ (fun d=>decide (sigF sets d=sigF sets c)) h0 h1;rw [dt__ rfl] at h;obtain ⟨r,hr,_⟩:=mem_iff.1 h;exact List.length_pos_of_mem hr
theorem not_nil:notF []=atF [] []:=ea_ fun c h0 h1=>by simp [hasB,Mem,sigF]
theorem kg_:AtomsOf [] [notF []]:=
 ⟨[[]],List.nodup_cons.2 ⟨by simp,List.nodup_nil⟩,by rw [not_nil];rfl,fun c _ _=>List.mem_singleton.2 rfl,fun t ht=>by
  rw [List.mem_singleton.1 ht];exact at_pos (sets:=[]) (c:=0) (by decide) (by decide)⟩
def splitT (sets:List (List S74))(t:List Bool):List (List Bool):=[t ++ [true],t ++ [false]].filter fun u=>decide (0<(atF sets u).length)
theorem hq_ {sets:List (List S74)}{t u:List Bool}:u∈splitT sets t↔(u=t ++ [true]∨u=t ++ [false])∧0<(atF sets u).length:=by
 unfold splitT;rw [List.mem_filter];simp
theorem ji_ (sets:List (List S74)): ∀ {T:List (List Bool)},T.Nodup->(T.flatMap (splitT sets)).Nodup
 | [],_=>List.nodup_nil
 | t :: T,h=>by
  obtain ⟨h1,h2⟩:=List.nodup_cons.1 h;rw [List.flatMap_cons,List.nodup_append];refine ⟨?_,ji_ sets h2,fun u hu v hv e=>?_⟩
  ·refine List.Pairwise.filter _ (List.nodup_cons.2 ⟨?_,List.nodup_cons.2 ⟨by simp,List.nodup_nil⟩⟩);rw [List.mem_singleton,ln_];simp
  ·obtain ⟨t',ht',hv'⟩:=List.mem_flatMap.1 hv;have a1:=(hq_.1 hu).1;have a2:=(hq_.1 hv').1;rw [e] at a1;have:t=t':=by
    rcases a1 with a1 | a1 <;> rcases a2 with a2 | a2 <;> exact (ln_.1 (a1.symm.trans a2)).1
   exact h1 (this ▸ ht')
theorem atoms_step {pre L:List (List S74)}(h:AtomsOf pre L)(s:List S74):AtomsOf (pre ++ [s]) (ofStep s L):=by
 obtain ⟨T,hn,rfl,hc,hp⟩:=h;refine ⟨T.flatMap (splitT (pre ++ [s])),ji_ _ hn,?_,?_,?_⟩
 ·unfold ofStep;clear hn hc hp
  induction T with
  | nil=>rfl
  | cons t T ih=>
   rw [List.map_cons,List.flatMap_cons,List.flatMap_cons,List.map_append,ih];congr 1;rw [part_at s true,part_at s false];unfold splitT;by_cases q1:0<(atF (pre ++ [s]) (t ++ [true])).length <;> by_cases q2:0<(atF (pre ++ [s]) (t ++ [false])).length <;> simp [List.filter_cons,q1,q2]
 ·intro c h0 h1;refine List.mem_flatMap.2 ⟨_,hc c h0 h1,hq_.2 ⟨?_,at_pos h0 h1⟩⟩;rw [jb_];cases hasB s c
  ·exact Or.inr rfl
  ·exact Or.inl rfl
 ·intro u hu;obtain ⟨t,_,ht⟩:=List.mem_flatMap.1 hu;exact (hq_.1 ht).2
def ofAt (sets:List (List S74))(i:Nat):List (List S74):=(sets.take i).foldl (fun L s=>ofStep s L) [notF []]
theorem ofAt_succ {sets:List (List S74)}{i:Nat}{s:List S74}(h:sets[i]? =some s):ofAt sets (i+1)=ofStep s (ofAt sets i):=by
 unfold ofAt;rw [List.take_add_one,h,List.foldl_append];rfl
theorem at_short (sets:List (List S74))(σ:List Bool):(atF sets σ).length<=1200000:=by
 have:=(gv_ fun c=>decide (sigF sets c=σ)).n;unfold atF;omega
theorem jd_ {sets:List (List S74)}: ∀ i,i<=sets.length->AtomsOf (sets.take i) (ofAt sets i)∧ ∀ a∈ofAt sets i,a.length<=1200000:=by
 have len: ∀ i (L:List (List S74)),AtomsOf (sets.take i) L-> ∀ a∈L,a.length<=1200000:=by
  rintro i L ⟨T,_,rfl,_,_⟩ a ha;obtain ⟨t,_,rfl⟩:=List.mem_map.1 ha;exact at_short _ t
 intro i
 induction i with
 | zero=>exact fun _=>⟨kg_,len 0 _ kg_⟩
 | succ i ih=>
  intro hi;obtain ⟨h1,h2⟩:=ih (by omega);have hs:sets[i]? =some sets[i]:=List.getElem?_eq_getElem (by omega);have h3:=atoms_step h1 sets[i];rw [←ofAt_succ hs] at h3;have e:sets.take (i+1)=sets.take i ++ [sets[i]]:=by rw [List.take_add_one,hs];rfl
  rw [←e] at h3;exact ⟨h3,len (i+1) _ h3⟩
end P
namespace L
open Shelf A P
theorem of_many (A0:Option Addr)(c0:Nat)(l0:List (List S74))(w:World)(h:60<l0.length):
  Calls Tryz.prog 43 #[.slice A0 l0.length c0] w fun e w'=>e=.returned (.tuple #[.slice none 0 0,.int .i64 9])∧Below w.heap.size w w':=by
 have b1:decide (60<(l0.length:Int))=true:=dt__ (by omega);have b2:decide (60<l0.length)=true:=dt__ h;have h1:(60:Int)<(l0.length:Int):=by omega
 go_enter Tryz.func43,Tryz.ntmps43;go_wp2_with fail;go_ret2;exact ⟨rfl,Below.refl _ _⟩
theorem of_long (A0:Option Addr)(c0:Nat)(l0:List (List S74))(w:World)(hr0:Kd.C (Kd.slice 74 k74) w A0 l0.length l0)(hc0:l0.length<=c0)(h:¬ 60<l0.length)(hl:longF l0=true):
  Calls Tryz.prog 43 #[.slice A0 l0.length c0] w fun e w'=>e=.returned (.tuple #[.slice none 0 0,.int .i64 9])∧Below w.heap.size w w':=by
 have hs:=Sd.m (fb_ A0 c0 l0 w hr0 hc0 true hl);have b1:decide (60<(l0.length:Int))=false:=df__ (by omega);have b2:decide (60<l0.length)=false:=df__ h;have h1:¬ (60:Int)<(l0.length:Int):=by omega
 clear hr0 hc0 hl;go_enter Tryz.func43,Tryz.ntmps43;go_wp2_with fail;refine hs.out.mono ?_;rintro e W1 ⟨rfl,hb⟩;have HB:=Sd.m hb;clear hb hs;go_wp2_with fail;go_ret2;exact ⟨rfl,HB.out⟩
def OfO (w:World)(l0:List (List S74))(va ui:Value)(W:World):Prop:= ∃ i:Nat,i<=l0.length∧ui=.int .i64 i∧OwnRows W w.heap.size va (ofAt l0 i)∧Below w.heap.size w W∧ ∀ j,0<j->j<=i->(ofAt l0 j).length<=200
def OfM (Wr:World)(s:List S74)(L:List (List S74))(vp uk:Value)(W:World):Prop:= ∃ k:Nat,k<=L.length∧uk=.int .i64 k∧OwnRows W Wr.heap.size vp (ofStep s (L.take k))∧Below Wr.heap.size Wr W
def OfI (Wr:World)(gb:Nat)(v1 v2:Value)(p1 p2:List S74)(acc:List (List S74))(vp ut:Value)(W:World):Prop:= ∃ t:Nat,t<=2∧ut=.int .i64 t∧OwnRows W Wr.heap.size vp (acc ++ ([p1,p2].take t).filter fun p=>decide (0<p.length))∧Below Wr.heap.size Wr W∧vp.ownBlock≠some gb∧W.heap[gb]? =some (Obj.cells #[v1,v2] 37 (0,0))∧Kd.R k74 74 W Wr.heap.size (fun _=>True) v1 p1∧Kd.R k74 74 W Wr.heap.size (fun _=>True) v2 p2
theorem kept34 {W w1:World}{h n:Nat}{v:Value}{hdrs:List Value}{tmp:Obj}(ho:W.ownsRow h 37 1 v n hdrs)(hg:(W.alloc tmp).grownBy w1 v.ownBlock): ∀ (k:Nat) (cells:Array Value),W.heap[k]? =some (Obj.cells cells 74 (0,0))->w1.heap[k]? =W.heap[k]? :=by
 intro k cells hk;have hlt:=(Array.getElem?_eq_some_iff.1 hk).1;have e1:(W.alloc tmp).heap[k]? =W.heap[k]? :=Below.heap_alloc W tmp k hlt;have hlt2:k<(W.alloc tmp).heap.size:=by simp;omega
 refine (hg.block k hlt2 fun e=>?_).trans e1;rcases ho.2 with ⟨e',_⟩ | ⟨g,cap,cur,e',_,hh,_⟩
 ·rw [e'] at e;cases e
 ·rw [e'] at e;have:k=g:=by simpa [Value.ownBlock] using e
  subst this;exact dq_ hk hh (by decide) rfl
theorem OwnRows.lt {W:World}{h:Nat}{v:Value}{xs:List (List S74)}(o:OwnRows W h v xs): ∀ k,v.ownBlock=some k->h<=k∧k<W.heap.size:=by
 obtain ⟨hdrs,ho,_⟩:=o;intro k hk;rcases ho.2 with ⟨e',_⟩ | ⟨g,cap,cur,e',hg,hh,_⟩
 ·rw [e'] at hk;cases hk
 ·rw [e'] at hk;have:k=g:=(by simpa [Value.ownBlock] using hk.symm);subst this;exact ⟨hg,(Array.getElem?_eq_some_iff.1 hh).1⟩
theorem inner_app {Wr W w1:World}{gb:Nat}{v1 v2 vp v' u:Value}{p1 p2 x:List S74}{xs:List (List S74)}{hdrs:List Value}{tmp:Obj}(ho:W.ownsRow Wr.heap.size 37 1 vp xs.length hdrs)(hr:RowsAt W Wr.heap.size hdrs xs)(hb:Below Wr.heap.size Wr W)(hne:vp.ownBlock≠some gb)(hgb:W.heap[gb]? =some (Obj.cells #[v1,v2] 37 (0,0)))
  (h1:Kd.R k74 74 W Wr.heap.size (fun _=>True) v1 p1) (h2:Kd.R k74 74 W Wr.heap.size (fun _=>True) v2 p2) (hu:Kd.R k74 74 W Wr.heap.size (fun _=>True) u x)
  (hown':w1.ownsRow Wr.heap.size 37 1 v' (xs.length+1) (hdrs ++ [u])) (hg:(W.alloc tmp).grownBy w1 vp.ownBlock) (hat:v'.ownBlock=vp.ownBlock∨v'.ownBlock=some (W.alloc tmp).heap.size):
  OwnRows w1 Wr.heap.size v' (xs ++ [x])∧Below Wr.heap.size Wr w1∧v'.ownBlock≠some gb∧w1.heap[gb]? =some (Obj.cells #[v1,v2] 37 (0,0))∧Kd.R k74 74 w1 Wr.heap.size (fun _=>True) v1 p1∧Kd.R k74 74 w1 Wr.heap.size (fun _=>True) v2 p2:=by
 have k:=kept34 ho hg;have hlt:=(Array.getElem?_eq_some_iff.1 hgb).1;have hsz:(W.alloc tmp).heap.size=W.heap.size+1:=Array.size_push _;refine ⟨OwnRows.add ho hr hu hown' hg,?_,?_,?_,R34_kept h1 k,R34_kept h2 k⟩
 ·refine (hb.alloc hb.size tmp).grown hg (by have:=hb.size;omega) fun q hq=>?_;exact (OwnRows.lt ⟨hdrs,ho,hr⟩ q hq).1
 ·rcases hat with e | e
  ·rw [e];exact hne
  ·rw [e,hsz];intro e2;injection e2 with e2;omega
 ·refine (hg.block gb (by omega) fun e=>hne e.symm).trans ?_;exact (Below.heap_alloc W tmp gb hlt).trans hgb
theorem ne_add {acc xs ps:List (List S74)}{t:Nat}{p:List S74}(h:ps[t]? =some p)(e0:xs=acc ++ (ps.take t).filter fun p=>decide (0<p.length)):(acc ++ (ps.take (t+1)).filter (fun p=>decide (0<p.length)))=xs ++ (if 0<p.length then [p] else []):=by
 rw [List.take_add_one,h,List.filter_append,←List.append_assoc,←e0];by_cases q:0<p.length <;> simp [q]
theorem info37':(Tryz.prog.info? 37).map (fun i=>(i.zero,i.size,i.bytes))=some (some (.slice none 0 0),1,24):=by kernel_rfl
theorem step_len (s:List S74): ∀ L:List (List S74),(ofStep s L).length<=2*L.length
 | []=>Nat.le_refl _
 | a :: L=>by
  have:=step_len s L;have h1:=List.length_filter_le (fun p:List S74=>decide (0<p.length)) [partF a s true,partF a s false];show (([partF a s true,partF a s false].filter fun p=>decide (0<p.length)) ++ ofStep s L).length<=_;rw [List.length_append,List.length_cons];simp only [List.length_cons,List.length_nil] at h1;omega
theorem of_main (A0:Option Addr)(c0:Nat)(l0:List (List S74))(w:World)(hr0:Kd.C (Kd.slice 74 k74) w A0 l0.length l0)(hc0:l0.length<=c0)(h:¬ 60<l0.length)(hl:longF l0=false)(hA: ∀ i,i<=l0.length-> ∀ a∈ofAt l0 i,a.length<=1200000)(hP0: ∀ a∈ofAt l0 l0.length,0<a.length)(hN0:0<(ofAt l0 l0.length).length):
  Calls Tryz.prog 43 #[.slice A0 l0.length c0] w fun e w'=>((((∃ j,0<j∧j<=l0.length∧200<(ofAt l0 j).length)∨longF (ofAt l0 l0.length)=true)∧e=.returned (.tuple #[.slice none 0 0,.int .i64 9]))∨(((∀ j,0<j->j<=l0.length->(ofAt l0 j).length<=200)∧longF (ofAt l0 l0.length)=false)∧ ∃ v ys,e=.returned (.tuple #[v,.int .i64 0])∧OwnRows w' w.heap.size v ys∧ys.Perm (ofAt l0 l0.length)∧ys.Pairwise (fun x y=>lowR x<=lowR y)))∧Below w.heap.size w w':=by
 have hs:=Sd.m (fb_ A0 c0 l0 w hr0 hc0 false hl);have b1:decide (60<(l0.length:Int))=false:=df__ (by omega);have b2:decide (60<l0.length)=false:=df__ h;have h1:¬ (60:Int)<(l0.length:Int):=by omega
 have HR:=Sd.m hr0;have HC:=Sd.m hc0;have HA:=Sd.m hA;have HP0:=Sd.m hP0;have HN0:=Sd.m hN0;clear hr0 hc0 hl hA hP0 hN0;go_enter Tryz.func43,Tryz.ntmps43;go_wp2_with fail;refine hs.out.mono ?_;rintro e W1 ⟨rfl,hb⟩;have HB:=Sd.m hb;clear hb hs;go_wp2_with fail;refine (c20 none 0 [] W1 (Kd.C_nil _ _) (Nat.le_refl _) (notF []) rfl).mono ?_;rintro e W2 ⟨v1,rfl,hR,hb⟩;obtain ⟨A1,a1,rfl⟩:=Kd.R_slice hR;have HR1:=Sd.m (Kd.R_lower hR HB.out.size);have HB2:=Sd.m (HB.out.trans (hb.mono HB.out.size));clear hR hb HB;go_wp2_with fail;have hbox:OwnRows (W2.alloc (Obj.cells #[Value.slice A1 (notF []).length a1] 37)) w.heap.size (.slice (some ⟨W2.heap.size,0,none⟩) 1 1) [notF []]:=OwnRows.one (aj_ _ _) HB2.out.size (Kd.R_alloc HR1.out _);have HBX:=Sd.m hbox;clear hbox;go_loopw [5,25] (fun va ui W=>OfO w l0 va ui W) (fun va ui W=>l0.length - (intOf ui).toNat)
 case atStart=>exact ⟨0,Nat.zero_le _,rfl,HBX.out,HB2.out.trans ((ab_ (Below.refl _ _) _).mono HB2.out.size),fun j h1 h2=>by omega⟩
 case round=>
  obtain ⟨i,hi,rfl,hO,hb,hlen⟩:=hrel;have HB:=Sd.m hb;have HLN:=Sd.m hlen;obtain ⟨Aa,ca,rfl⟩:=hO.slice;have HO:=Sd.m hO;clear hb hlen hO HB2 HBX HR1;by_cases hlt:i<l0.length
  ·have b3:decide ((i:Int)<(l0.length:Int))=true:=dt__ (by omega);have b4:decide (i<l0.length)=true:=dt__ hlt;obtain ⟨ad,As,cs,rfl,k0,k1,k2⟩:=iw_ (Kd.C_below HR.out HB.out) (i:Int) (by omega) (by omega);rw [Int.toNat_natCast] at k0;have hq0:0<=(i:Int):=by omega
   have hq1:(i:Int)<(l0.length:Int):=by omega
   obtain ⟨s,hs⟩: ∃ s,s=dn_ l0 i:=⟨_,rfl⟩;rw [←hs] at k0 k1 k2;have hel:l0[i]? =some s:=by
    rw [hs];unfold dn_;rw [Int.toNat_natCast,List.getD_eq_getElem?_getD,List.getElem?_eq_getElem hlt];rfl
   have HE:=Sd.m hel;have HK1:=Sd.m k1;have HK2:=Sd.m k2;clear hel hs k1 k2;go_wp2_with fail;generalize wr=Wo at*;have HL4:=Sd.m (HA.out i hi);obtain ⟨L,hL⟩: ∃ L,L=ofAt l0 i:=⟨_,rfl⟩;rw [←hL] at HO HL4 ⊢;clear k0;have hL2:L.length<=200:=by
    rw [hL];rcases Nat.eq_zero_or_pos i with e | e
    ·rw [e];exact Nat.le_of_lt (show 1<200 by decide)
    ·exact HLN.out i e (Nat.le_refl _)
   have HL2:=Sd.m hL2;have HEL:=Sd.m hL;clear hL hL2;go_loopw [8,31] (fun vp uk W=>OfM Wo s L vp uk W) (fun vp uk W=>L.length - (intOf uk).toNat)
   case atStart=>exact ⟨0,Nat.zero_le _,rfl,OwnRows.nil _ _,Below.refl _ _⟩
   case round=>
    obtain ⟨k,hk,rfl,hP,hbk⟩:=hrel;have HBK:=Sd.m hbk;obtain ⟨Ap,cp,rfl⟩:=hP.slice;have HP:=Sd.m hP;clear hbk hP;by_cases hlk:k<L.length
    ·have b5:decide ((k:Int)<(L.length:Int))=true:=dt__ (by omega);have b6:decide (k<L.length)=true:=dt__ hlk;obtain ⟨ad2,Ax,cx,rfl,m0,m1,m2⟩:=iw_ (Kd.C_below (OwnRows.reads HO.out).2.2 HBK.out) (k:Int) (by omega) (by omega);rw [Int.toNat_natCast] at m0;have hq2:0<=(k:Int):=by omega
     have hq3:(k:Int)<(L.length:Int):=by omega
     obtain ⟨x,hx⟩: ∃ x,x=dn_ L k:=⟨_,rfl⟩;rw [←hx] at m0 m1 m2;have hel:L[k]? =some x:=by
      rw [hx];unfold dn_;rw [Int.toNat_natCast,List.getD_eq_getElem?_getD,List.getElem?_eq_getElem hlk];rfl
     have HX:=Sd.m hel;have HX4:Sd (x.length<=1200000):=⟨HL4.out x (List.mem_of_getElem? hel)⟩;have HM1:=Sd.m m1;have HM2:=Sd.m m2;clear hel hx m1 m2;go_wp2_with fail;generalize wr=Wk at*;refine (js_ Ax cx x As cs s true Wk HM2.out HM1.out (Kd.C_below HK2.out HBK.out) HK1.out HX4.out).mono ?_;rintro e W3 ⟨v3,rfl,hR,hb⟩;obtain ⟨A3,a3,rfl⟩:=Kd.R_slice hR;have HM2':=Sd.m (Kd.C_below HM2.out hb);have HB3:=Sd.m (HBK.out.trans (hb.mono HBK.out.size));have HR3:=Sd.m (Kd.R_lower hR HBK.out.size);have HP3:=Sd.m (HP.out.below hb);clear hR hb HM2 HP HBK m0;go_wp2_with fail;refine (js_ Ax cx x As cs s false W3 HM2'.out HM1.out (Kd.C_below HK2.out HB3.out) HK1.out HX4.out).mono ?_;rintro e W4 ⟨v4,rfl,hR,hb⟩;obtain ⟨A4,a4,rfl⟩:=Kd.R_slice hR;have HB4:=Sd.m (HB3.out.trans (hb.mono HB3.out.size));have HR4:=Sd.m (Kd.R_lower hR HB3.out.size);have HR3':=Sd.m (Kd.R_below HR3.out hb);have HP4:=Sd.m (HP3.out.below hb);clear hR hb HM2' HP3 HB3 HR3;go_wp2_with fail;have hbox:(W4.alloc (Obj.cells #[Value.slice A3 (partF x s true).length a3,Value.slice A4 (partF x s false).length a4] 37)).heap[W4.heap.size]? =some (Obj.cells #[Value.slice A3 (partF x s true).length a3,Value.slice A4 (partF x s false).length a4] 37 (0,0)):=aj_ _ _;have hb5:Below W4.heap.size W4 (W4.alloc (Obj.cells #[Value.slice A3 (partF x s true).length a3,Value.slice A4 (partF x s false).length a4] 37)):=ab_ (Below.refl _ _) _;generalize W4.alloc (Obj.cells #[Value.slice A3 (partF x s true).length a3,Value.slice A4 (partF x s false).length a4] 37)=W5 at hbox hb5 ⊢;have hne5:(Value.slice Ap (ofStep s (L.take k)).length cp).ownBlock≠some W4.heap.size:=fun e=>by have:=(OwnRows.lt HP4.out _ e).2;omega
     obtain ⟨p1,hp1⟩: ∃ p,p=partF x s true:=⟨_,rfl⟩;obtain ⟨p2,hp2⟩: ∃ p,p=partF x s false:=⟨_,rfl⟩;obtain ⟨acc,hacc⟩: ∃ p,p=ofStep s (L.take k):=⟨_,rfl⟩;obtain ⟨gb,hgb⟩: ∃ p,p=W4.heap.size:=⟨_,rfl⟩;have B1:=Sd.m (OwnRows.below HP4.out hb5);have B2:=Sd.m (HB4.out.trans (hb5.mono HB4.out.size));have B3:=Sd.m (Kd.R_below HR3'.out hb5);have B4:=Sd.m (Kd.R_below HR4.out hb5);rw [←hp1] at hbox B3 ⊢;rw [←hp2] at hbox B4 ⊢;rw [←hacc] at B1 hne5 ⊢;rw [←hgb] at hbox hne5 ⊢;have B5:=Sd.m hbox;have B6:=Sd.m hne5;have P1:=Sd.m hp1;have P2:=Sd.m hp2;have ACC:=Sd.m hacc;have hal:acc.length<=2*L.length:=by rw [hacc];exact Nat.le_trans (step_len _ _) (by rw [List.length_take];omega)
     have HAL:=Sd.m hal;clear hbox hne5 hp1 hp2 hacc hgb hb5 HP4 HB4 HR4 HR3' hal;go_loopw [8,43] (fun vp ut W=>OfI Wo gb (.slice A3 p1.length a3) (.slice A4 p2.length a4) p1 p2 acc vp ut W) (fun vp ut W=>2 - (intOf ut).toNat)
     case atStart=>exact ⟨0,by omega,rfl,(by rw [List.take_zero,List.filter_nil,List.append_nil];exact B1.out),B2.out,B6.out,B5.out,B3.out,B4.out⟩
     case round=>
      obtain ⟨t,ht,rfl,hP,hbi,hnei,hgbi,hv1,hv2⟩:=hrel;obtain ⟨xs,hxs⟩: ∃ xs,xs=acc ++ ([p1,p2].take t).filter fun p=>decide (0<p.length):=⟨_,rfl⟩;rw [←hxs] at hP;have hbnd:xs.length<=402:=by
       rw [hxs,List.length_append];have:=List.length_filter_le (fun p:List S74=>decide (0<p.length)) ([p1,p2].take t);rw [List.length_take] at this;have:=HAL.out;have:=HL2.out;simp only [List.length_cons,List.length_nil] at*;omega
      have HBND:=Sd.m hbnd;have HXS:=Sd.m hxs;obtain ⟨Aq,cq,rfl⟩:=hP.slice;obtain ⟨hdrs,how,hrw⟩:=hP;have HOW:=Sd.m how;have HRW:=Sd.m hrw;have HBI:=Sd.m hbi;have HNE:=Sd.m hnei;have HGB:=Sd.m hgbi;have HV1:=Sd.m hv1;have HV2:=Sd.m hv2;clear hbnd hxs how hrw hbi hnei hgbi hv1 hv2 B1 B2 B3 B4 B5 B6;obtain ⟨i0,hi0,hz0,hz1,hz2⟩:=info_parts info37';rcases (show t=0∨t=1∨t=2 by omega) with rfl | rfl | rfl
      ·have c0:wr.cell? ⟨gb,0,none⟩=some (.slice A3 p1.length a3):=(af_ HGB.out 0).trans rfl;by_cases hpz:0<p1.length
       ·have d1:decide (0<(p1.length:Int))=true:=dt__ (by omega);have d2:decide (0<p1.length)=true:=dt__ hpz;have d3:0<(p1.length:Int):=by omega
        go_wp2_with ((with_reducible refine bi_ (b:=.append) (xs:=#[.tmp 50,.tmp 52]) rfl ?_);at_builtin;refine wpList_append_own_at _ rfl (.tmp 50) (.tmp 52) 30 rfl Wo.heap.size 37 i0 (.slice none 0 0) 1 24 Tryz.underlying30 hi0 hz0 hz1 hz2 rfl (by decide) _ _ _ rfl (HOW.out.alloc _) ⟨wr.heap.size,0,none⟩ 1 1 [.slice A3 p1.length a3] rfl rfl (cell_one_new _ _ _) (by simp [Value.oneCell']) (by have:=HBND.out;unfold maxLen;omega) (by have:=HBND.out;omega) (by have:=HBI.out.size;simp;omega) ?_;intro v' w1 hown' hgrow _ hat;obtain ⟨e1,e2,e3,e4,e5,e6⟩:=inner_app HOW.out HRW.out HBI.out HNE.out HGB.out HV1.out HV2.out HV1.out hown' hgrow hat;obtain ⟨g',cap',rfl⟩:=ownsRow_succ hown';have E1:=Sd.m e1;have E2:=Sd.m e2;have E3:=Sd.m e3;have E4:=Sd.m e4;have E5:=Sd.m e5;have E6:=Sd.m e6;clear e1 e2 e3 e4 e5 e6 hown' hgrow hat);go_roundw
        case rel=>
         have e:(acc ++ ([p1,p2].take 1).filter (fun p=>decide (0<p.length)))=xs ++ [p1]:=by
          refine (ne_add (t:=0) (p:=p1) rfl HXS.out).trans ?_;rw [if_pos hpz]
         exact ⟨1,by omega,by go_num,by rw [e];exact E1.out,E2.out,E3.out,E4.out,E5.out,E6.out⟩
        case measure=>simp [intOf]
       ·have d1:decide (0<(p1.length:Int))=false:=df__ (by omega);have d2:decide (0<p1.length)=false:=df__ hpz;have d3:¬ 0<(p1.length:Int):=by omega
        go_wp2_with fail;go_roundw
        case rel=>
         have e:(acc ++ ([p1,p2].take 1).filter (fun p=>decide (0<p.length)))=xs:=by
          refine (ne_add (t:=0) (p:=p1) rfl HXS.out).trans ?_;rw [if_neg hpz,List.append_nil]
         exact ⟨1,by omega,by go_num,by rw [e];exact ⟨hdrs,HOW.out,HRW.out⟩,HBI.out,HNE.out,HGB.out,HV1.out,HV2.out⟩
        case measure=>simp [intOf]
      ·have c0:wr.cell? ⟨gb,1,none⟩=some (.slice A4 p2.length a4):=(af_ HGB.out 1).trans rfl;by_cases hpz:0<p2.length
       ·have d1:decide (0<(p2.length:Int))=true:=dt__ (by omega);have d2:decide (0<p2.length)=true:=dt__ hpz;have d3:0<(p2.length:Int):=by omega
        go_wp2_with ((with_reducible refine bi_ (b:=.append) (xs:=#[.tmp 50,.tmp 52]) rfl ?_);at_builtin;refine wpList_append_own_at _ rfl (.tmp 50) (.tmp 52) 30 rfl Wo.heap.size 37 i0 (.slice none 0 0) 1 24 Tryz.underlying30 hi0 hz0 hz1 hz2 rfl (by decide) _ _ _ rfl (HOW.out.alloc _) ⟨wr.heap.size,0,none⟩ 1 1 [.slice A4 p2.length a4] rfl rfl (cell_one_new _ _ _) (by simp [Value.oneCell']) (by have:=HBND.out;unfold maxLen;omega) (by have:=HBND.out;omega) (by have:=HBI.out.size;simp;omega) ?_;intro v' w1 hown' hgrow _ hat;obtain ⟨e1,e2,e3,e4,e5,e6⟩:=inner_app HOW.out HRW.out HBI.out HNE.out HGB.out HV1.out HV2.out HV2.out hown' hgrow hat;obtain ⟨g',cap',rfl⟩:=ownsRow_succ hown';have E1:=Sd.m e1;have E2:=Sd.m e2;have E3:=Sd.m e3;have E4:=Sd.m e4;have E5:=Sd.m e5;have E6:=Sd.m e6;clear e1 e2 e3 e4 e5 e6 hown' hgrow hat);go_roundw
        case rel=>
         have e:(acc ++ ([p1,p2].take 2).filter (fun p=>decide (0<p.length)))=xs ++ [p2]:=by
          refine (ne_add (t:=1) (p:=p2) rfl HXS.out).trans ?_;rw [if_pos hpz]
         exact ⟨2,by omega,by go_num,by rw [e];exact E1.out,E2.out,E3.out,E4.out,E5.out,E6.out⟩
        case measure=>simp [intOf]
       ·have d1:decide (0<(p2.length:Int))=false:=df__ (by omega);have d2:decide (0<p2.length)=false:=df__ hpz;have d3:¬ 0<(p2.length:Int):=by omega
        go_wp2_with fail;go_roundw
        case rel=>
         have e:(acc ++ ([p1,p2].take 2).filter (fun p=>decide (0<p.length)))=xs:=by
          refine (ne_add (t:=1) (p:=p2) rfl HXS.out).trans ?_;rw [if_neg hpz,List.append_nil]
         exact ⟨2,by omega,by go_num,by rw [e];exact ⟨hdrs,HOW.out,HRW.out⟩,HBI.out,HNE.out,HGB.out,HV1.out,HV2.out⟩
        case measure=>simp [intOf]
      ·have HOWf:Sd (OwnRows wr Wo.heap.size (.slice Aq xs.length cq) xs):=⟨⟨hdrs,HOW.out,HRW.out⟩⟩;have hk200:=HL2.out;have w2:IntKind.i64.wrap ((k:Int)+1)=(k:Int)+1:=IntWalk.i64_in _ (by omega);have w3:wrap64 ((k:Int)+1)=(k:Int)+1:=w64 (by omega) (by omega);go_wp2_with fail;go_roundw
       case rel=>
        have e:ofStep s (L.take (k+1))=xs:=by
         rw [List.take_add_one,HX.out,HXS.out,ACC.out,P1.out,P2.out];unfold ofStep;rw [List.flatMap_append];simp
        exact ⟨k+1,hlk,by go_num,by rw [e];exact HOWf.out,HBI.out⟩
       case measure=>simp [intOf];omega
    ·have b5:decide ((k:Int)<(L.length:Int))=false:=df__ (by omega);have b6:decide (k<L.length)=false:=df__ hlk;have hk200:=HL2.out;have hi60:i<61:=by omega
     have w2:IntKind.i64.wrap ((i:Int)+1)=(i:Int)+1:=IntWalk.i64_in _ (by omega);have w3:wrap64 ((i:Int)+1)=(i:Int)+1:=w64 (by omega) (by omega);have hPe:ofStep s (L.take k)=ofAt l0 (i+1):=by
      rw [List.take_of_length_le (by omega),ofAt_succ HE.out,HEL.out]
     have HP2:=Sd.m (HP.out.lower HB.out.size);have HB9:=Sd.m (HB.out.trans (HBK.out.mono HB.out.size));rw [hPe] at HP2 ⊢;have HPE:=Sd.m hPe;clear HP hPe;by_cases hbig:200<(ofAt l0 (i+1)).length
     ·have d1:decide (200<((ofAt l0 (i+1)).length:Int))=true:=dt__ (by omega);have d2:decide (200<(ofAt l0 (i+1)).length)=true:=dt__ hbig;have d3:(200:Int)<((ofAt l0 (i+1)).length:Int):=by omega
      go_wp2_with fail;go_ret2;exact ⟨Or.inl ⟨Or.inl ⟨i+1,by omega,by omega,hbig⟩,rfl⟩,HB9.out⟩
     ·have d1:decide (200<((ofAt l0 (i+1)).length:Int))=false:=df__ (by omega);have d2:decide (200<(ofAt l0 (i+1)).length)=false:=df__ hbig;have d3:¬ (200:Int)<((ofAt l0 (i+1)).length:Int):=by omega
      go_wp2_with fail;go_roundw
      case rel=>
       refine ⟨i+1,hlt,by go_num,HP2.out,HB9.out,fun j h1 h2=>?_⟩;rcases Nat.lt_or_ge i j with q | q
       ·obtain rfl:j=i+1:=by omega
        omega
       ·exact HLN.out j h1 q
      case measure=>simp [intOf];omega
  ·have b3:decide ((i:Int)<(l0.length:Int))=false:=df__ (by omega);have b4:decide (i<l0.length)=false:=df__ hlt;obtain rfl:i=l0.length:=by omega
   obtain ⟨L,hL⟩: ∃ L,L=ofAt l0 l0.length:=⟨_,rfl⟩;rw [←hL] at HO HP0 HN0 ⊢;have hlz:L.length<4611686018427387904:=by
    have:=(OwnRows.reads HO.out).2.2.2.1;have h0:=HLN.out l0.length;rw [←hL] at h0;rcases Nat.eq_zero_or_pos l0.length with q | q
    ·rw [hL,q];exact Nat.lt_of_le_of_lt (show (ofAt l0 0).length<=1 from Nat.le_refl _) (by decide)
    ·have:=h0 q (Nat.le_refl _);omega
   have HLZ:=Sd.m hlz;have HEL:=Sd.m hL;clear hL hlz;go_wp2_with fail;generalize wr=Wo at*;cases hlong:longF L with
   | true=>
    have HLG:=Sd.m hlong;clear hlong;refine (fb_ Aa ca L Wo (OwnRows.reads HO.out).2.2 (OwnRows.reads HO.out).2.1 true HLG.out).mono ?_;rintro e W3 ⟨rfl,hb⟩;have HB3:=Sd.m (HB.out.trans (hb.mono HB.out.size));clear hb;go_wp2_with fail;go_ret2;exact ⟨Or.inl ⟨Or.inr (HEL.out ▸ HLG.out),rfl⟩,HB3.out⟩
   | false=>
   have HLG:=Sd.m hlong;clear hlong;refine (fb_ Aa ca L Wo (OwnRows.reads HO.out).2.2 (OwnRows.reads HO.out).2.1 false HLG.out).mono ?_;rintro e W3 ⟨rfl,hb⟩;have HO3:=Sd.m (HO.out.below hb);have HB3:=Sd.m (HB.out.trans (hb.mono HB.out.size));clear hb;go_wp2_with fail;refine (sort_rows HO3.out HB3.out HN0.out HP0.out HLZ.out).mono ?_;rintro e W4 ⟨rfl,ys,hp,hsrt,hoy,hb⟩;have Y1:=Sd.m hp;have Y2:=Sd.m hsrt;have Y3:=Sd.m hoy;have Y4:=Sd.m hb;clear hp hsrt hoy hb;go_wp2_with fail;go_ret2;exact ⟨Or.inr ⟨⟨HLN.out,HEL.out ▸ HLG.out⟩,_,ys,rfl,Y3.out,HEL.out ▸ Y1.out,Y2.out⟩,Y4.out⟩
def OfBad (sets:List (List S74)):Prop:=60<sets.length∨longF sets=true∨(∃ j,0<j∧j<=sets.length∧200<(ofAt sets j).length)∨longF (ofAt sets sets.length)=true
theorem perm_map {α β:Type}{f:α->β}: ∀ {T:List α} {ys:List β},ys.Perm (T.map f)-> ∃ U:List α,U.Perm T∧ys=U.map f:=by
 have go: ∀ {zs ys:List β},ys.Perm zs-> ∀ T:List α,zs=T.map f-> ∃ U:List α,U.Perm T∧ys=U.map f:=by
  intro zs ys h
  induction h with
  | nil=>
   intro T e;have hT:T=[]:=List.map_eq_nil_iff.1 e.symm;subst hT;exact ⟨[],List.Perm.refl _,rfl⟩
  | cons x h ih=>
   intro T e;cases T with
   | nil=>cases e
   | cons t T=>
    injection e with e1 e2;obtain ⟨U,hU,eU⟩:=ih T e2;exact ⟨t :: U,hU.cons t,by rw [e1,eU];rfl⟩
  | swap x y l=>
   intro T e
   match T,e with
   | t :: u :: T,e=>
    injection e with e1 e2;injection e2 with e2 e3;exact ⟨u :: t :: T,List.Perm.swap _ _ _,by rw [e1,e2,e3];rfl⟩
  | trans h1 h2 ih1 ih2=>
   intro T e;obtain ⟨U,hU,eU⟩:=ih2 T e;obtain ⟨V,hV,eV⟩:=ih1 U eU;exact ⟨V,hV.trans hU,eV⟩
 intro T ys h;exact go h T rfl
def Sorted (ys:List (List S74)):Prop:=ys.Pairwise fun x y=>lowR x<=lowR y
theorem of_calls (A0:Option Addr)(c0:Nat)(l0:List (List S74))(w:World)(hr0:Kd.C (Kd.slice 74 k74) w A0 l0.length l0)(hc0:l0.length<=c0):
  Calls Tryz.prog 43 #[.slice A0 l0.length c0] w fun e w'=>((OfBad l0∧e=.returned (.tuple #[.slice none 0 0,.int .i64 9]))∨(¬ OfBad l0∧ ∃ v ys,e=.returned (.tuple #[v,.int .i64 0])∧OwnRows w' w.heap.size v ys∧AtomsOf l0 ys∧Sorted ys))∧Below w.heap.size w w':=by
 by_cases h60:60<l0.length
 ·exact (of_many A0 c0 l0 w h60).mono fun e w' ⟨he,hb⟩=>⟨Or.inl ⟨Or.inl h60,he⟩,hb⟩
 cases hlong:longF l0 with
 | true=>exact (of_long A0 c0 l0 w hr0 hc0 h60 hlong).mono fun e w' ⟨he,hb⟩=>⟨Or.inl ⟨Or.inr (Or.inl hlong),he⟩,hb⟩
 | false=>
  have at_:=jd_ (sets:=l0);have hn:=(at_ l0.length (Nat.le_refl _)).1;rw [List.take_length] at hn;have hn':=hn;obtain ⟨T,hT,e,hc,hp⟩:=hn';have hP0: ∀ a∈ofAt l0 l0.length,0<a.length:=by
   intro a ha;rw [e] at ha;obtain ⟨t,ht,rfl⟩:=List.mem_map.1 ha;exact hp t ht
  have hN0:0<(ofAt l0 l0.length).length:=by
   rw [e,List.length_map];exact List.length_pos_of_mem (hc 0 (Int.le_refl _) (by decide))
  refine (of_main A0 c0 l0 w hr0 hc0 h60 hlong (fun i hi=>(at_ i hi).2) hP0 hN0).mono ?_;rintro e' w' ⟨h,hb⟩;refine ⟨?_,hb⟩;rcases h with ⟨h,he⟩ | ⟨⟨hj,hlg⟩,v,ys,he,ho,hpm,hs⟩
  ·exact Or.inl ⟨Or.inr (Or.inr h),he⟩
  ·refine Or.inr ⟨fun hb=>?_,v,ys,he,ho,?_,hs⟩
   ·rcases hb with h | h | ⟨j,h1,h2,h3⟩ | h
    ·exact h60 h
    ·rw [hlong] at h;cases h
    ·have:=hj j h1 h2;omega
    ·rw [hlg] at h;cases h
   ·rw [e] at hpm;obtain ⟨U,hU,eU⟩: ∃ U:List (List Bool),U.Perm T∧ys=U.map (atF l0):=perm_map hpm;refine ⟨U,hU.nodup_iff.2 hT,eU,fun c h0 h1=>hU.mem_iff.2 (hc c h0 h1),fun t ht=>hp t (hU.mem_iff.1 ht)⟩
end L
namespace D
open A L B
attribute [local go_sem] ct_ cq_ dh_ dg_ ch_ cg_ cr_ cp_
theorem info3:(Tryz.prog.info? 3).map (fun i=>(i.zero,i.size,i.bytes))=some (some (.int .i64 0),1,8):=by kernel_rfl
def de_ (xs:List (List S74))(i:Int):(List S74):=xs.getD i.toNat ([]:List S74)
theorem ix_ {w:World}{A:Option Addr}{n:Nat}{xs:List (List S74)}(h:Kd.C (Kd.slice 74 k74) w A n xs)(i:Int)(h0:0<=i)(h1:i<n): ∃ ad A0 c0,A=some ad∧w.cell? (ad.add i.toNat)=some (.slice A0 (de_ xs i).length c0)∧(de_ xs i).length<=c0∧k74.C w A0 (de_ xs i).length (de_ xs i):=by
 obtain ⟨ad,c,e,_,hK,hc0⟩:=Kd.C_get h ([]:List S74) i h0 h1;have hc: ∀ j u,c[j]? =some u->w.cell? (ad.add (i.toNat*1+j))=some u:=hc0;obtain ⟨A0,c0,rfl,l0,g0⟩:=hK;exact ⟨ad,A0,c0,e,by have hq:=hc 0 _ rfl;rwa [Nat.mul_one,Nat.add_zero] at hq,l0,g0⟩
def cb_.l0:Nat->List Int->List (List (S74))->Int->Int->Option (List Int)
 | 0,_,_,_,_=>none
 | k+1,x3,x6,x7,x8=>if x8<x7 then (if 0<=x8 then (if x8<(x6.length:Int) then ((cy_.f k (de_ x6 x8)).bind fun t102=>(if x3.length<17592186044416 then (cb_.l0 k (x3 ++ [t102]) x6 x7 (wrap64 (x8+1))) else (none))) else (none)) else (none)) else (some x3)
def cb_.f (k:Nat)(l0:List (List (S74))):Option (List Int):=cb_.l0 k ([]:List Int) l0 (l0.length:Int) 0
theorem cb_.calls (k:Nat)(A0:Option Addr)(c0:Nat)(l0:List (List (S74)))(r:List Int)(w:World)(hr0:Kd.C (Kd.slice 74 k74) w A0 l0.length l0)(hc0:l0.length<=c0)(h:cb_.f k l0=some r):
  Calls Tryz.prog 68 #[.slice A0 l0.length c0] w fun e w'=> ∃ v0_:Value,e=.returned (v0_)∧Kd.R (Kd.int .i64) 3 w' w.heap.size (fun _=>True) v0_ r∧Below w.heap.size w w':=by
 have HR0:=Sd.m hr0;have HC0:=Sd.m hc0;clear hr0 hc0;have HB:=Sd.m (Below.refl w.heap.size w);have H:(cb_.l0 k ([]:List Int) l0 (l0.length:Int) 0)=some r:=h;clear h;have H':=Sd.m H;clear H;go_enter Tryz.func68,Tryz.ntmps68;go_wp2
 go_loopg [3,8] k (fun kq v3 v8 w'=> ∃ (x3_1:List Int) (x8_1:Int),v8=.int .i64 x8_1∧Sd (cb_.l0 kq x3_1 l0 (l0.length:Int) x8_1=some r)∧Sd (kq<=k)∧Sd (Kd.R (Kd.int .i64) 3 w' w.heap.size (fun _=>True) v3 x3_1)∧Sd (Below w.heap.size w w'))
 case atStart=>exact ⟨(([]:List Int)),(0),ri_,H',⟨Nat.le_refl _⟩,⟨by first | exact Kd.R_nil _ _ _ _ _ | exact Kd.N_nil _ _ _ _ _ | exact Kd.V_nil _ _ _ _ _ | exact Kd.Q_nil _ _ _ _ _ | exact Kd.S_nil _ _ _ _ _⟩,⟨rb_⟩⟩
 case round=>
  clear H';obtain ⟨x3_1,x8_1,rfl,HA,HK1,HO_3,HB⟩:=hrel;cases gk with
  | zero=>exact absurd HA.out (by simp [cb_.l0])
  | succ k1=>
   have H:=HA.out;clear HA;simp only [cb_.l0] at H;by_cases c2:x8_1<(l0.length:Int)
   ·rw [if_pos c2] at H;have c2b0:=dt__ c2;clear c2;by_cases c3:0<=x8_1
    ·rw [if_pos c3] at H;have c3b0:=dt__ c3;clear c3;by_cases c4:x8_1<(l0.length:Int)
     ·rw [if_pos c4] at H;have c4b0:=dt__ c4;clear c4;replace H:=Option.bind_eq_some_iff.mp H;obtain ⟨t102,A50,H⟩:=H;replace H:(if x3_1.length<17592186044416 then (cb_.l0 k1 (x3_1 ++ [t102]) l0 (l0.length:Int) (wrap64 (x8_1+1))) else (none))=some r:=H;have A5:=Sd.m A50;clear A50;by_cases c6:x3_1.length<17592186044416
      ·rw [if_pos c6] at H;have LMc6:=Sd.m c6;clear c6;obtain ⟨y103,hy103⟩: ∃ y_:List Int,y_=(x3_1 ++ [t102]):=⟨_,rfl⟩;replace H:(cb_.l0 k1 y103 l0 (l0.length:Int) (wrap64 (x8_1+1)))=some r:=by first | (rw [hy103];with_reducible exact H) | (have H2_:=(Option.bind_some _ _).symm.trans H;rw [hy103];with_reducible exact H2_) | (have H2_:=(Option.bind_some _ _).symm.trans H;with_reducible exact H2_) | with_reducible exact H | (rw [hy103];exact H) | exact H
       have Ny103:=Sd.m hy103;clear hy103;have H':=Sd.m H;clear H;have p101:0<=(x8_1:Int):=od_;have q101:x8_1<(l0.length:Int):=od_;obtain ⟨ad101,A101_0,c101_0,e101,hx101_0,hl101_0,hi101_0⟩:=ix_ HR0.out x8_1 p101 q101;cases e101;replace hx101_0:=(HB.out.cell (bl__ w _ hx101_0)).trans hx101_0;have HR101_0:=Sd.m hi101_0;have HC101_0:=Sd.m hl101_0;clear hi101_0 hl101_0;replace p101:=eq_true p101;replace q101:=eq_true q101;go_wp2_with (first | ((with_reducible refine bv_ (f:=104) rfl ?_);refine goesL_ (some 14) rfl rfl Tryz.func104 (by kernel_rfl) rfl #[.slice A101_0 (de_ l0 x8_1).length c101_0] rfl gl_ ?_;(with_reducible refine (cy_.calls k1 _ _ (de_ l0 x8_1) t102 _ ?side1 ?side2 A5.out).mono ?_);(case side1=>exact cs_ (Kd.C_below HR101_0.out HB.out));(case side2=>exact HC101_0.out);rintro e w7 ⟨rfl,hb⟩;refine ⟨_,rfl,?_⟩;have n0_:=Sd.m (Kd.R_below (rr_ HO_3.out) hb);have n1_:=Sd.m (av_ rb_ hb);clear HO_3;clear HB;have HO_3:=n0_;have HB:=n1_;clear n0_ n1_;(try clear hb);(try clear hb2);(try clear hk);(try clear hi)) | ((with_reducible refine bi_ (b:=.append) (xs:=#[.tmp 12,.tmp 15]) rfl ?_);at_builtin;refine Kd.R_append (Kd.int .i64) (w0:=w) w.heap.size rfl (.tmp 12) (.tmp 15) 42 3 (.int .i64 0) 8 rfl Tryz.underlying42 info3 rfl (by decide) (by omega) u3 x3_1 t102 [.int .i64 t102] (fun _=>True) (fun _=>False) rfl rfl ?aP (fun _ hk=>hk.elim) ?aF ?aO ?aB ?aS ?aL ?_;(case aP=>exact rfl);(case aB=>exact rb_);(case aF=>exact (fun _ _=>trivial));(case aO=>exact (rr_ HO_3.out));(case aS=>exact (ap_ rb_));(case aL=>have:=LMc6.out;omega);intro v104 w8 ho hb hg hat;rw [←Ny103.out] at ho;have n0_:=Sd.m (hb);have n1_:=Sd.m (ho);clear HB;clear HO_3;have HB:=n0_;have HO105:=n1_;clear n0_ n1_;clear ho hb hg hat))
       go_roundg k1
       case measure=>have:=HK1.out;omega
       case rel=>exact ⟨(y103),(wrap64 (x8_1+1)),ri_,H',⟨by have:=HK1.out;omega⟩,⟨rr_ HO105.out⟩,⟨rb_⟩⟩
      ·rw [if_neg c6] at H;exact absurd H (by simp)
     ·rw [if_neg c4] at H;exact absurd H (by simp)
    ·rw [if_neg c3] at H;exact absurd H (by simp)
   ·rw [if_neg c2] at H;have c2b0:=df__ c2;clear c2;obtain rfl:=Option.some.inj H;go_wp2;go_ret;exact ⟨_,re_,rr_ HO_3.out,rb_⟩
def bt_.l0:Nat->List (S74)->List Int->List Int->Int->Int->Option (List Int)
 | 0,_,_,_,_,_=>none
 | k+1,x1,x5,x9,x10,x11=>if x11<x10 then (if 0<=x11 then (if x11<(x9.length:Int) then ((gq_.f x1 (rd x9 x11)).bind fun t110=>(if t110=true then (if x5.length<17592186044416 then (bt_.l0 k x1 (x5 ++ [x11]) x9 x10 (wrap64 (x11+1))) else (none)) else (bt_.l0 k x1 x5 x9 x10 (wrap64 (x11+1))))) else (none)) else (none)) else (some x5)
def bt_.f (k:Nat)(l0:List (List (S74)))(l1:List (S74)):Option (List Int):=(cb_.f k l0).bind fun t106=>(bt_.l0 k l1 ([]:List Int) t106 (t106.length:Int) 0)
theorem bt_.calls (k:Nat)(A0:Option Addr)(c0:Nat)(l0:List (List (S74)))(A1:Option Addr)(c1:Nat)(l1:List (S74))(r:List Int)(w:World)(hr0:Kd.C (Kd.slice 74 k74) w A0 l0.length l0)(hc0:l0.length<=c0)(hr1:Kd.C k74 w A1 l1.length l1)(hc1:l1.length<=c1)(h:bt_.f k l0 l1=some r):
  Calls Tryz.prog 51 #[.slice A0 l0.length c0,.slice A1 l1.length c1] w fun e w'=> ∃ v0_:Value,e=.returned (v0_)∧Kd.R (Kd.int .i64) 3 w' w.heap.size (fun _=>True) v0_ r∧Below w.heap.size w w':=by
 have HR0:=Sd.m hr0;have HC0:=Sd.m hc0;clear hr0 hc0;have HR1:=Sd.m hr1;have HC1:=Sd.m hc1;clear hr1 hc1;have HB:=Sd.m (Below.refl w.heap.size w);have H:((cb_.f k l0).bind fun t106=>(bt_.l0 k l1 ([]:List Int) t106 (t106.length:Int) 0))=some r:=h;clear h;replace H:=Option.bind_eq_some_iff.mp H;obtain ⟨t106,A30,H⟩:=H;replace H:(bt_.l0 k l1 ([]:List Int) t106 (t106.length:Int) 0)=some r:=H;have A3:=Sd.m A30;clear A30;have H':=Sd.m H;clear H;go_enter Tryz.func51,Tryz.ntmps51;go_wp2_with (first | ((with_reducible refine bv_ (f:=68) rfl ?_);refine goesL_ (some 9) rfl rfl Tryz.func68 (by kernel_rfl) rfl #[.slice A0 l0.length c0] rfl gl_ ?_;(with_reducible refine (cb_.calls k _ _ l0 t106 _ ?side1 ?side2 A3.out).mono ?_);(case side1=>repeat (first | exact HR0.out | (with_reducible refine Kd.C_alloc ?_ _) | (with_reducible refine Kd.C_drewN ?_ _) | (with_reducible refine Kd.C_drew ?_)));(case side2=>exact HC0.out);rintro e w4 ⟨v107,rfl,ho0,hb⟩;refine ⟨_,rfl,?_⟩;have n0_:=Sd.m (Kd.R_lower ho0 (ap_ rb_));have n1_:=Sd.m (av_ rb_ hb);clear HB;have HO108:=n0_;have HB:=n1_;clear n0_ n1_;(try clear hb);(try clear hb2);(try clear hk);(try clear hi);(try clear ho0);obtain ⟨Ao5,co5,eo5⟩:=Kd.R_slice HO108.out;subst eo5))
 go_loopg [5,11] k (fun kq v5 v11 w'=> ∃ (x5_1:List Int) (x11_1:Int),v11=.int .i64 x11_1∧Sd (bt_.l0 kq l1 x5_1 t106 (t106.length:Int) x11_1=some r)∧Sd (kq<=k)∧Sd (Kd.R (Kd.int .i64) 3 w' w.heap.size (fun k_=>some k_≠((.slice Ao5 t106.length co5):Value).ownBlock) v5 x5_1)∧Sd (Kd.R (Kd.int .i64) 3 w' w.heap.size (fun k_=>some k_≠(v5:Value).ownBlock) (.slice Ao5 t106.length co5) t106)∧Sd (Below w.heap.size w w'))
 case atStart=>exact ⟨(([]:List Int)),(0),ri_,H',⟨Nat.le_refl _⟩,⟨by first | exact Kd.R_nil _ _ _ _ _ | exact Kd.N_nil _ _ _ _ _ | exact Kd.V_nil _ _ _ _ _ | exact Kd.Q_nil _ _ _ _ _ | exact Kd.S_nil _ _ _ _ _⟩,⟨by (with_reducible repeat (first | apply Kd.R_alloc | apply Kd.R_drewN | apply Kd.R_drew));exact Kd.R_mono HO108.out (fun _ hk=>(by simp [Value.ownBlock]))⟩,⟨rb_⟩⟩
 case round=>
  clear H';obtain ⟨x5_1,x11_1,rfl,HA,HK1,HO_5,HO_9,HB⟩:=hrel;cases gk with
  | zero=>exact absurd HA.out (by simp [bt_.l0])
  | succ k1=>
   have H:=HA.out;clear HA;simp only [bt_.l0] at H;by_cases c6:x11_1<(t106.length:Int)
   ·rw [if_pos c6] at H;have c6b0:=dt__ c6;clear c6;by_cases c7:0<=x11_1
    ·rw [if_pos c7] at H;have c7b0:=dt__ c7;clear c7;by_cases c8:x11_1<(t106.length:Int)
     ·rw [if_pos c8] at H;have c8b0:=dt__ c8;clear c8;replace H:=Option.bind_eq_some_iff.mp H;obtain ⟨t110,A90,H⟩:=H;replace H:(if t110=true then (if x5_1.length<17592186044416 then (bt_.l0 k1 l1 (x5_1 ++ [x11_1]) t106 (t106.length:Int) (wrap64 (x11_1+1))) else (none)) else (bt_.l0 k1 l1 x5_1 t106 (t106.length:Int) (wrap64 (x11_1+1))))=some r:=H;have A9:=Sd.m A90;clear A90;by_cases c10:t110=true
      ·subst c10;have H1:(if x5_1.length<17592186044416 then (bt_.l0 k1 l1 (x5_1 ++ [x11_1]) t106 (t106.length:Int) (wrap64 (x11_1+1))) else (none))=some r:=by rw [if_pos rfl] at H;exact H
       clear H;have H:=H1;clear H1;by_cases c11:x5_1.length<17592186044416
       ·rw [if_pos c11] at H;have LMc11:=Sd.m c11;clear c11;obtain ⟨y111,hy111⟩: ∃ y_:List Int,y_=(x5_1 ++ [x11_1]):=⟨_,rfl⟩;replace H:(bt_.l0 k1 l1 y111 t106 (t106.length:Int) (wrap64 (x11_1+1)))=some r:=by first | (rw [hy111];with_reducible exact H) | (have H2_:=(Option.bind_some _ _).symm.trans H;rw [hy111];with_reducible exact H2_) | (have H2_:=(Option.bind_some _ _).symm.trans H;with_reducible exact H2_) | with_reducible exact H | (rw [hy111];exact H) | exact H
        have Ny111:=Sd.m hy111;clear hy111;have H':=Sd.m H;clear H;have p109:0<=(x11_1:Int):=od_;have q109:x11_1<(t106.length:Int):=od_;obtain ⟨ad109,e109,hx109_0⟩:=Kd.ds_ (Kd.R_reads' HO_9.out).2.2 x11_1 p109 q109;cases e109;replace p109:=eq_true p109;replace q109:=eq_true q109;go_wp2_with (first | ((with_reducible refine bv_ (f:=83) rfl ?_);refine goesL_ (some 18) rfl rfl Tryz.func83 (by kernel_rfl) rfl #[.slice A1 l1.length c1,.int .i64 (rd t106 x11_1)] rfl gl_ ?_;(with_reducible refine (gq_.calls _ _ l1 (rd t106 x11_1) true _ ?side1 ?side2 A9.out).mono ?_);(case side1=>exact cs_ (Kd.C_below HR1.out HB.out));(case side2=>exact HC1.out);rintro e w12 ⟨rfl,hb⟩;refine ⟨_,rfl,?_⟩;have n0_:=Sd.m (Kd.R_below (rr_ HO_5.out) hb);have n1_:=Sd.m (Kd.R_below (rr_ HO_9.out) hb);have n2_:=Sd.m (av_ rb_ hb);clear HO_5;clear HO_9;clear HB;have HO_5:=n0_;have HO_9:=n1_;have HB:=n2_;clear n0_ n1_ n2_;(try clear hb);(try clear hb2);(try clear hk);(try clear hi)) | ((with_reducible refine bi_ (b:=.append) (xs:=#[.tmp 19,.tmp 21]) rfl ?_);at_builtin;refine Kd.R_append (Kd.int .i64) (w0:=w) w.heap.size rfl (.tmp 19) (.tmp 21) 42 3 (.int .i64 0) 8 rfl Tryz.underlying42 info3 rfl (by decide) (by omega) u5 x5_1 x11_1 [.int .i64 x11_1] (fun k_=>some k_≠(.slice (some ad109) t106.length co5:Value).ownBlock) (fun _=>False) rfl rfl ?aP (fun _ hk=>hk.elim) ?aF ?aO ?aB ?aS ?aL ?_;(case aP=>exact rfl);(case aB=>exact rb_);(case aF=>exact (fun k_ hk=>Kd.fresh' (Kd.R_lt (rr_ HO_9.out)) k_ hk));(case aO=>exact (rr_ HO_5.out));(case aS=>exact (ap_ rb_));(case aL=>have:=LMc11.out;omega);intro v112 w13 ho hb hg hat;rw [←Ny111.out] at ho;have n0_:=Sd.m (Kd.R_after (ok:=(fun _=>True)) (by (with_reducible repeat (first | apply Kd.R_alloc | apply Kd.R_drewN | apply Kd.R_drew));exact Kd.R_mono HO_9.out (fun _ hk=>⟨trivial,hk⟩)) hg hat);have n1_:=Sd.m (hb);have n2_:=Sd.m (ho);clear HO_9;clear HB;clear HO_5;have HO_9:=n0_;have HB:=n1_;have HO113:=n2_;clear n0_ n1_ n2_;clear ho hb hg hat))
        go_roundg k1
        case measure=>have:=HK1.out;omega
        case rel=>exact ⟨(y111),(wrap64 (x11_1+1)),ri_,H',⟨by have:=HK1.out;omega⟩,⟨rr_ HO113.out⟩,⟨by (with_reducible repeat (first | apply Kd.R_alloc | apply Kd.R_drewN | apply Kd.R_drew));exact Kd.R_mono HO_9.out (fun _ hk=>hk.2)⟩,⟨rb_⟩⟩
       ·rw [if_neg c11] at H;exact absurd H (by simp)
      ·replace c10:=Bool.eq_false_iff.mpr c10;subst c10;have H1:(bt_.l0 k1 l1 x5_1 t106 (t106.length:Int) (wrap64 (x11_1+1)))=some r:=by rw [if_neg (show ¬ (false=true) by decide)] at H;exact H
       clear H;have H:=H1;clear H1;have H':=Sd.m H;clear H;have p109:0<=(x11_1:Int):=od_;have q109:x11_1<(t106.length:Int):=od_;obtain ⟨ad109,e109,hx109_0⟩:=Kd.ds_ (Kd.R_reads' HO_9.out).2.2 x11_1 p109 q109;cases e109;replace p109:=eq_true p109;replace q109:=eq_true q109;go_wp2_with (first | ((with_reducible refine bv_ (f:=83) rfl ?_);refine goesL_ (some 18) rfl rfl Tryz.func83 (by kernel_rfl) rfl #[.slice A1 l1.length c1,.int .i64 (rd t106 x11_1)] rfl gl_ ?_;(with_reducible refine (gq_.calls _ _ l1 (rd t106 x11_1) false _ ?side1 ?side2 A9.out).mono ?_);(case side1=>exact cs_ (Kd.C_below HR1.out HB.out));(case side2=>exact HC1.out);rintro e w14 ⟨rfl,hb⟩;refine ⟨_,rfl,?_⟩;have n0_:=Sd.m (Kd.R_below (rr_ HO_5.out) hb);have n1_:=Sd.m (Kd.R_below (rr_ HO_9.out) hb);have n2_:=Sd.m (av_ rb_ hb);clear HO_5;clear HO_9;clear HB;have HO_5:=n0_;have HO_9:=n1_;have HB:=n2_;clear n0_ n1_ n2_;(try clear hb);(try clear hb2);(try clear hk);(try clear hi)))
       go_roundg k1
       case measure=>have:=HK1.out;omega
       case rel=>exact ⟨(x5_1),(wrap64 (x11_1+1)),ri_,H',⟨by have:=HK1.out;omega⟩,⟨rr_ HO_5.out⟩,⟨rr_ HO_9.out⟩,⟨rb_⟩⟩
     ·rw [if_neg c8] at H;exact absurd H (by simp)
    ·rw [if_neg c7] at H;exact absurd H (by simp)
   ·rw [if_neg c6] at H;have c6b0:=df__ c6;clear c6;obtain rfl:=Option.some.inj H;go_wp2;go_ret;exact ⟨_,re_,by (with_reducible repeat (first | apply Kd.R_alloc | apply Kd.R_drewN | apply Kd.R_drew));exact Kd.R_mono HO_5.out (fun _ hk=>trivial),rb_⟩
end D
namespace P
open A L B D
theorem firsts_go (L:List (List S74))(hL:L.length<=100000): ∀ d i:Nat,i+d=L.length-> ∀ acc:List Int,acc.length<=i->Ev (fun k=>cb_.l0 k acc L (L.length:Int) (i:Int)) (acc ++ (L.drop i).map firstF):=by
 intro d
 induction d with
 | zero=>
  intro i h acc ha;rw [List.drop_eq_nil_iff.2 (by omega),List.map_nil,List.append_nil];exact Ev.step (f:=fun _=>some acc) (fun k=>by rw [cb_.l0,if_neg (by omega)]) (Ev.now _)
 | succ d ih=>
  intro i h acc ha;have hi:i<L.length:=by omega
  have hd:L.drop i=L[i] :: L.drop (i+1):=List.drop_eq_getElem_cons hi;have hr:de_ L (i:Int)=L[i]:=by
   unfold de_;rw [Int.toNat_natCast,List.getD_eq_getElem?_getD,List.getElem?_eq_getElem hi];rfl
  have:=ih (i+1) (by omega) (acc ++ [firstF L[i]]) (by rw [List.length_append,List.length_singleton];omega);rw [show ((i+1:Nat):Int)=(i:Int)+1 from by omega,List.append_assoc] at this;rw [hd,List.map_cons];refine Ev.step (f:=fun k=>(cy_.f k L[i]).bind fun t=>if acc.length<17592186044416 then cb_.l0 k (acc ++ [t]) L (L.length:Int) ((i:Int)+1) else none) (fun k=>by rw [cb_.l0,if_pos (by omega),if_pos (by omega),if_pos (by omega),hr,w64 (n:=(i:Int)+1) (by omega) (by omega)]) ?_;refine Ev.bind (span_first _) ?_;exact fq_ (by omega) this
theorem firsts_f (L:List (List S74))(hL:L.length<=100000):Ev (fun k=>cb_.f k L) (L.map firstF):=by
 have:=firsts_go L hL L.length 0 (by omega) [] (Nat.le_refl _);rw [List.drop_zero,List.nil_append] at this;exact this
def wiF (s:List S74):List Int->Nat->List Int
 | [],_=>[]
 | f :: fs,i=>if hasF s f=true then (i:Int) :: wiF s fs (i+1) else wiF s fs (i+1)
def withinF (L:List (List S74))(s:List S74):List Int:=wiF s (L.map firstF) 0
theorem within_go (s:List S74)(fs:List Int)(hL:fs.length<=100000): ∀ d i:Nat,i+d=fs.length-> ∀ acc:List Int,acc.length<=i->Ev (fun k=>bt_.l0 k s acc fs (fs.length:Int) (i:Int)) (acc ++ wiF s (fs.drop i) i):=by
 intro d
 induction d with
 | zero=>
  intro i h acc ha;rw [List.drop_eq_nil_iff.2 (by omega)];show Ev _ (acc ++ []);rw [List.append_nil];exact Ev.step (f:=fun _=>some acc) (fun k=>by rw [bt_.l0,if_neg (by omega)]) (Ev.now _)
 | succ d ih=>
  intro i h acc ha;have hi:i<fs.length:=by omega
  have hd:fs.drop i=fs[i] :: fs.drop (i+1):=List.drop_eq_getElem_cons hi;have hr:rd fs (i:Int)=fs[i]:=by
   unfold rd;rw [Int.toNat_natCast,List.getD_eq_getElem?_getD,List.getElem?_eq_getElem hi];rfl
  rw [hd,wiF];refine Ev.step (f:=fun k=>if hasF s fs[i]=true then (if acc.length<17592186044416 then bt_.l0 k s (acc ++ [(i:Int)]) fs (fs.length:Int) ((i:Int)+1) else none) else bt_.l0 k s acc fs (fs.length:Int) ((i:Int)+1)) (fun k=>by rw [bt_.l0,if_pos (by omega),if_pos (by omega),if_pos (by omega),hr,w64 (n:=(i:Int)+1) (by omega) (by omega)];rfl) ?_;have e1:(i:Int)+1=((i+1:Nat):Int):=by omega
  by_cases q:hasF s fs[i]=true
  ·rw [if_pos q];refine fq_ q (fq_ (by omega) ?_);have:=ih (i+1) (by omega) (acc ++ [(i:Int)]) (by rw [List.length_append,List.length_singleton];omega);rw [List.append_assoc,←e1] at this;exact this
  ·rw [if_neg q];refine eg_ q ?_;have:=ih (i+1) (by omega) acc (by omega);rw [←e1] at this;exact this
theorem hm_ (L:List (List S74))(s:List S74)(hL:L.length<=100000):Ev (fun k=>bt_.f k L s) (withinF L s):=by
 refine Ev.bind (firsts_f L hL) ?_;have:=within_go s (L.map firstF) (by rw [List.length_map];exact hL) (L.map firstF).length 0 (by omega) [] (Nat.le_refl _);rw [List.drop_zero,List.nil_append] at this;exact this
theorem low_spec {P:Int->Bool}(h:0<(canonF P).length):0<=lowR (canonF P)∧lowR (canonF P)<=1114111∧P (lowR (canonF P))=true∧ ∀ c,0<=c->c<=1114111->P c=true->lowR (canonF P)<=c:=by
 have hs:=dd_ P
 revert hs h
 generalize canonF P=l;intro h hs
 match l,h,hs with
 | r :: rs,_,hs=>
  have hr:=hs.1.1 r (List.mem_cons_self ..);have e:lowR (r :: rs)=r.f0:=rfl;rw [e];refine ⟨hr.1,by omega,?_,fun c h0 h1 hP=>?_⟩
  ·rw [←hs.2 r.f0 hr.1 (by omega)];exact mem_iff.2 ⟨r,List.mem_cons_self ..,Int.le_refl _,hr.2.1⟩
  ·rw [←hs.2 c h0 (by omega)] at hP;obtain ⟨s,hsm,k0,k1⟩:=mem_iff.1 hP;rcases List.mem_cons.1 hsm with e | hsm
   ·rw [e] at k0;exact k0
   ·have:=(List.pairwise_cons.1 hs.1.2).1 s hsm;omega
theorem first_canon {P:Int->Bool}(hl:(canonF P).length<=400)(h:0<(canonF P).length):firstF (canonF P)=lowR (canonF P):=by
 unfold firstF;rw [pl_canon hl]
 revert h
 generalize canonF P=l;intro h
 match l,h with
 | r :: rs,_=>rfl
def clsF (sets:List (List S74))(c:Int):List S74:=atF sets (sigF sets c)
theorem mh_ {sets:List (List S74)}{m c:Int}(h0:0<=c)(h1:c<=1114111):Mem (clsF sets m) c=decide (sigF sets c=sigF sets m):=gn_ (fun d=>decide (sigF sets d=sigF sets m)) h0 h1
structure Cls (sets:List (List S74)) (L:List (List S74)):Prop where
 all: ∀ c,0<=c->c<=1114111->clsF sets c∈L
 of: ∀ x∈L,∃ m,0<=m∧m<=1114111∧x=clsF sets m∧lowR x=m∧0<x.length∧ ∀ c,0<=c->c<=1114111->sigF sets c=sigF sets m->m<=c
 up:L.Pairwise fun x y=>lowR x<lowR y
theorem cls_of {sets L:List (List S74)}(h:AtomsOf sets L)(hs:Sorted L):Cls sets L:=by
 obtain ⟨T,hT,rfl,hc,hp⟩:=h;have key: ∀ t∈T,0<=lowR (atF sets t)∧lowR (atF sets t)<=1114111∧sigF sets (lowR (atF sets t))=t∧ ∀ c,0<=c->c<=1114111->sigF sets c=t->lowR (atF sets t)<=c:=by
  intro t ht;obtain ⟨h0,h1,h2,h3⟩:=low_spec (hp t ht);exact ⟨h0,h1,of_decide_eq_true h2,fun c k0 k1 k2=>h3 c k0 k1 (dt__ k2)⟩
 refine ⟨fun c h0 h1=>List.mem_map.2 ⟨_,hc c h0 h1,rfl⟩,fun x hx=>?_,?_⟩
 ·obtain ⟨t,ht,rfl⟩:=List.mem_map.1 hx;obtain ⟨h0,h1,h2,h3⟩:=key t ht;refine ⟨_,h0,h1,?_,rfl,hp t ht,fun c k0 k1 k2=>h3 c k0 k1 (k2.trans h2)⟩;unfold clsF;rw [h2]
 ·unfold Sorted at hs;rw [List.pairwise_map] at hs ⊢;have hboth:T.Pairwise fun a b=>a≠b∧lowR (atF sets a)<=lowR (atF sets b):=hT.and hs;refine hboth.imp_of_mem fun {a b} ha hb hab=>?_;have ha':=(key a ha).2.2.1;have hb':=(key b hb).2.2.1;rcases Int.lt_or_eq_of_le hab.2 with k | k
  ·exact k
  ·exact absurd (ha'.symm.trans (by rw [k];exact hb')) hab.1
theorem cls_congr {sets sets':List (List S74)}(hR: ∀ c d,0<=c->c<=1114111->0<=d->d<=1114111->(sigF sets c=sigF sets d↔sigF sets' c=sigF sets' d)){m:Int}(h0:0<=m)(h1:m<=1114111):clsF sets m=clsF sets' m:=by
 refine ea_ (P:=fun d=>decide (sigF sets d=sigF sets m)) (Q:=fun d=>decide (sigF sets' d=sigF sets' m)) fun c k0 k1=>?_;show decide _=decide _;rw [decide_eq_decide];exact hR c m k0 k1 h0 h1
theorem cls_one {sets sets' L L':List (List S74)}(hR: ∀ c d,0<=c->c<=1114111->0<=d->d<=1114111->(sigF sets c=sigF sets d↔sigF sets' c=sigF sets' d))(h:Cls sets L)(h':Cls sets' L'):L=L':=by
 have mem: ∀ x,x∈L↔x∈L':=by
  intro x;constructor
  ·intro hx;obtain ⟨m,h0,h1,e,_⟩:=h.of x hx;rw [e,cls_congr hR h0 h1];exact h'.all m h0 h1
  ·intro hx;obtain ⟨m,h0,h1,e,_⟩:=h'.of x hx;rw [e,←cls_congr hR h0 h1];exact h.all m h0 h1
 have nd: ∀ {l:List (List S74)},l.Pairwise (fun x y=>lowR x<lowR y)->l.Nodup:=fun hp=>hp.imp fun {a b} hab e=>by rw [e] at hab;omega
 have hperm:L.Perm L':=(List.perm_ext_iff_of_nodup (nd h.up) (nd h'.up)).2 mem;refine hperm.eq_of_pairwise (le:=fun x y=>lowR x<lowR y) (fun a b _ _ h1 h2=>by omega) h.up h'.up
theorem cls_same {sets L L':List (List S74)}(h:Cls sets L)(h':Cls sets L'):L=L':=cls_one (fun _ _ _ _ _ _=>Iff.rfl) h h'
theorem Cls.mem_iff {sets L:List (List S74)}(h:Cls sets L){x:List S74}(hx:x∈L){c:Int}(h0:0<=c)(h1:c<=1114111):Mem x c=true↔x=clsF sets c:=by
 obtain ⟨m,m0,m1,e,el,hp,hle⟩:=h.of x hx;have k:Mem (clsF sets m) c=decide (sigF sets c=sigF sets m):=mh_ h0 h1;constructor
 ·intro hm;rw [e,k] at hm;rw [e];unfold clsF;rw [of_decide_eq_true hm]
 ·intro e2;have k2:Mem (clsF sets c) c=decide (sigF sets c=sigF sets c):=mh_ h0 h1;rw [e2,k2];exact dt__ rfl
theorem Cls.nodup {sets L:List (List S74)}(h:Cls sets L):L.Nodup:=h.up.imp fun {a b} hab e=>by rw [e] at hab;omega
theorem Cls.pos {sets L:List (List S74)}(h:Cls sets L):0<L.length:=List.length_pos_of_mem (h.all 0 (Int.le_refl _) (by decide))
theorem Cls.canon {sets L:List (List S74)}(h:Cls sets L){x:List S74}(hx:x∈L): ∃ P,x=canonF P:=by
 obtain ⟨m,_,_,e,_⟩:=h.of x hx;rw [e];exact ⟨fun c=>decide (sigF sets c=sigF sets m),rfl⟩
def Short (L:List (List S74)):Prop:= ∀ x∈L,x.length<=400
theorem Cls.short {sets L:List (List S74)}(h:Cls sets L)(E:List Int)(hE: ∀ c,0<c->c<=1114111->sigF sets c≠sigF sets (c - 1)->c∈E)(hl:E.length<=798):Short L:=by
 intro x hx;obtain ⟨m,_,_,e,_⟩:=h.of x hx;have:=at_len (sets:=sets) E hE (sigF sets m);rw [e];unfold clsF;omega
theorem Cls.has {sets L:List (List S74)}(h:Cls sets L)(hs:Short L){x:List S74}(hx:x∈L)(c:Int):hasF x c=true↔0<=c∧c<=1114111∧x=clsF sets c:=by
 unfold hasF hasB;have:=hs x hx;simp only [Bool.and_eq_true,decide_eq_true_eq];constructor
 ·rintro ⟨⟨h0,h1⟩,_,hm⟩;exact ⟨h0,h1,(h.mem_iff hx h0 h1).1 hm⟩
 ·rintro ⟨h0,h1,e⟩;exact ⟨⟨h0,h1⟩,this,(h.mem_iff hx h0 h1).2 e⟩
theorem Cls.first {sets L:List (List S74)}(h:Cls sets L)(hs:Short L){x:List S74}(hx:x∈L):firstF x=lowR x∧0<=firstF x∧firstF x<=1114111∧x=clsF sets (firstF x):=by
 obtain ⟨m,m0,m1,e,el,hp,_⟩:=h.of x hx;have h4:=hs x hx;have e1:firstF x=lowR x:=by
  obtain ⟨P,eP⟩:=h.canon hx;rw [eP] at h4 hp ⊢;exact first_canon h4 hp
 rw [e1,el];exact ⟨rfl,m0,m1,e⟩
theorem class_at {sets L:List (List S74)}(h:Cls sets L)(hs:Short L){c:Int}(h0:0<=c)(h1:c<=1114111): ∃ k:Nat,classF L c=k∧L[k]? =some (clsF sets c):=by
 unfold classF ixF;cases q:L.findIdx? (fun x=>hasF x c) with
 | none=>
  have:=List.findIdx?_eq_none_iff.1 q _ (h.all c h0 h1);rw [(h.has hs (h.all c h0 h1) c).2 ⟨h0,h1,rfl⟩] at this;cases this
 | some k=>
  obtain ⟨hk,hk2,_⟩:=List.findIdx?_eq_some_iff_getElem.1 q;refine ⟨k,rfl,?_⟩;rw [List.getElem?_eq_getElem hk];rw [((h.has hs (List.getElem_mem hk) c).1 hk2).2.2]
theorem cnt_sig (sets:List (List S74))(T:List (List Bool))(hT:T.Nodup): ∀ n:Nat,n<=1114112->(∀ c,0<=c->c<(n:Int)->sigF sets c∈T)->(T.map fun t=>cnt (fun c=>decide (sigF sets c=t)) n).sum=n
 | 0,_,_=>by
  have z: ∀ T:List (List Bool),(T.map fun t=>cnt (fun c=>decide (sigF sets c=t)) 0).sum=0:=by
   intro T
   induction T with
   | nil=>rfl
   | cons t T ih=>rw [List.map_cons,List.sum_cons,ih];rfl
  exact z T
 | n+1,hn,hc=>by
  have ih:=cnt_sig sets T hT n (by omega) fun c h0 h1=>hc c h0 (by omega);have hm:=hc n (by omega) (by omega);have split: ∀ T:List (List Bool),(T.map fun t=>cnt (fun c=>decide (sigF sets c=t)) (n+1)).sum=(T.map fun t=>cnt (fun c=>decide (sigF sets c=t)) n).sum+((T.map fun t=>if sigF sets n=t then (1:Int) else 0).sum):=by
   intro T
   induction T with
   | nil=>rfl
   | cons t T ih=>
    simp only [List.map_cons,List.sum_cons,ih];rw [cnt];by_cases q:sigF sets n=t
    ·simp [q];omega
    ·simp [q];omega
  have one: ∀ T:List (List Bool),T.Nodup->(T.map fun t=>if sigF sets n=t then (1:Int) else 0).sum=if sigF sets n∈T then 1 else 0:=by
   intro T hT
   induction T with
   | nil=>rfl
   | cons t T ih=>
    obtain ⟨h1,h2⟩:=List.nodup_cons.1 hT;rw [List.map_cons,List.sum_cons,ih h2];by_cases q:sigF sets n=t
    ·have:¬ sigF sets n∈T:=by rw [q];exact h1
     simp [q,this,h1]
    ·by_cases q2:sigF sets n∈T <;> simp [q,q2]
  rw [split,one T hT,if_pos hm,ih];omega
theorem jt_: ∀ (xs L:List (List Bool)),xs.Nodup->(∀ x∈xs,x∈L)->xs.length<=L.length
 | [],_,_,_=>Nat.zero_le _
 | x :: xs,L,hn,h=>by
  obtain ⟨h1,h2⟩:=List.nodup_cons.1 hn;have hx:=h x (List.mem_cons_self ..);have:=jt_ xs (L.erase x) h2 fun y hy=>(List.mem_erase_of_ne (fun e:y=x=>h1 (by rw [←e];exact hy))).2 (h y (List.mem_cons_of_mem _ hy));rw [List.length_erase,if_pos hx] at this;have:=List.length_pos_of_mem hx;rw [List.length_cons];omega
structure Sigs (sets:List (List S74)) (T:List (List Bool)):Prop where
 nd:T.Nodup
 mem: ∀ t,t∈T↔ ∃ c,0<=c∧c<=1114111∧sigF sets c=t
theorem sigs_of {sets L:List (List S74)}(h:AtomsOf sets L): ∃ T,Sigs sets T∧L=T.map (atF sets)∧ ∀ t∈T,0<(atF sets t).length:=by
 obtain ⟨T,hT,e,hc,hp⟩:=h;refine ⟨T,⟨hT,fun t=>⟨fun ht=>?_,?_⟩⟩,e,hp⟩
 ·obtain ⟨h0,h1,h2,_⟩:=low_spec (hp t ht);exact ⟨_,h0,h1,of_decide_eq_true h2⟩
 ·rintro ⟨c,h0,h1,rfl⟩;exact hc c h0 h1
theorem Sigs.more {sets:List (List S74)}{s:List S74}{T U:List (List Bool)}(h:Sigs sets T)(k:Sigs (sets ++ [s]) U):T.length<=U.length∧U.length<=2*T.length:=by
 constructor
 ·have:=jt_ T (U.map List.dropLast) h.nd fun t ht=>by
   obtain ⟨c,h0,h1,rfl⟩:=(h.mem t).1 ht;refine List.mem_map.2 ⟨sigF (sets ++ [s]) c,(k.mem _).2 ⟨c,h0,h1,rfl⟩,?_⟩;rw [jb_,List.dropLast_concat]
  rwa [List.length_map] at this
 ·have:=jt_ U (T.flatMap fun t=>[t ++ [true],t ++ [false]]) k.nd fun u hu=>by
   obtain ⟨c,h0,h1,rfl⟩:=(k.mem u).1 hu;refine List.mem_flatMap.2 ⟨sigF sets c,(h.mem _).2 ⟨c,h0,h1,rfl⟩,?_⟩;rw [jb_];cases hasB s c <;> simp
  have e: ∀ T:List (List Bool),(T.flatMap fun t=>[t ++ [true],t ++ [false]]).length=2*T.length:=by
   intro T
   induction T with
   | nil=>rfl
   | cons t T ih=>
    rw [List.flatMap_cons,List.length_append,ih];simp only [List.length_cons,List.length_nil];omega
  rwa [e] at this
def clsL (sets:List (List S74)):List (List S74):=(ofAt sets sets.length).mergeSort fun x y=>decide (lowR x<=lowR y)
theorem atoms_perm {sets L L':List (List S74)}(h:AtomsOf sets L)(hp:L'.Perm L):AtomsOf sets L':=by
 obtain ⟨T,hT,rfl,hc,hpos⟩:=h;obtain ⟨U,hU,e⟩:=perm_map hp;exact ⟨U,hU.nodup_iff.2 hT,e,fun c h0 h1=>hU.mem_iff.2 (hc c h0 h1),fun t ht=>hpos t (hU.mem_iff.1 ht)⟩
theorem clsL_sorted (sets:List (List S74)):Sorted (clsL sets):=by
 have:=List.pairwise_mergeSort (le:=fun x y:List S74=>decide (lowR x<=lowR y)) (fun a b c h1 h2=>by simp only [decide_eq_true_eq] at *;omega) (fun a b=>by simp only [Bool.or_eq_true,decide_eq_true_eq];omega) (ofAt sets sets.length);exact this.imp fun {a b} h=>of_decide_eq_true h
theorem kd_ (sets:List (List S74)):(clsL sets).Perm (ofAt sets sets.length):=List.mergeSort_perm _ _
structure Few (sets:List (List S74)) (E:List Int):Prop where
 at_: ∀ c,0<c->c<=1114111->sigF sets c≠sigF sets (c - 1)->c∈E
 le:E.length<=100000
theorem gm_ {sets:List (List S74)}(h:(sets.map List.length).sum<=40000):Few sets (edgesOf sets):=
 ⟨fun c h0 _ h1=>sig_edge (by omega) h1,by rw [fr_];omega⟩
theorem la_ {sets:List (List S74)}{E:List Int}(f:Few sets E):AtomsOf sets (clsL sets):=by
 have h:=(jd_ sets.length (Nat.le_refl _)).1;rw [List.take_length] at h;exact atoms_perm h (kd_ sets)
theorem gc_ {sets:List (List S74)}{E:List Int}(f:Few sets E):Cls sets (clsL sets):=cls_of (la_ f) (clsL_sorted sets)
theorem clsL_one {sets ys:List (List S74)}{E:List Int}(f:Few sets E)(h:AtomsOf sets ys)(hs:Sorted ys):ys=clsL sets:=cls_same (cls_of h hs) (gc_ f)
theorem clsL_len {sets:List (List S74)}:(clsL sets).length=(ofAt sets sets.length).length:=(kd_ sets).length_eq
theorem at_up {sets:List (List S74)}{E:List Int}(f:Few sets E): ∀ d j,j+d=sets.length->(ofAt sets j).length<=(ofAt sets sets.length).length:=by
 intro d
 induction d with
 | zero=>
  intro j h;have:j=sets.length:=by omega
  rw [this];exact Nat.le_refl _
 | succ d ih=>
  intro j h;refine Nat.le_trans ?_ (ih (j+1) (by omega));have h1:=(jd_ (sets:=sets) j (by omega)).1;have h2:=(jd_ (sets:=sets) (j+1) (by omega)).1;have hs:sets[j]? =some sets[j]:=List.getElem?_eq_getElem (by omega);have e:sets.take (j+1)=sets.take j ++ [sets[j]]:=by rw [List.take_add_one,hs];rfl
  rw [e] at h2;obtain ⟨T,hT,e1,_⟩:=sigs_of h1;obtain ⟨U,hU,e2,_⟩:=sigs_of h2;rw [e1,e2,List.length_map,List.length_map];exact (hT.more hU).1
theorem long_perm {L M:List (List S74)}(h:L.Perm M):longF L=longF M:=by
 unfold longF;rw [Bool.eq_iff_iff,List.any_eq_true,List.any_eq_true];exact ⟨fun ⟨x,hx,e⟩=>⟨x,h.mem_iff.1 hx,e⟩,fun ⟨x,hx,e⟩=>⟨x,h.mem_iff.2 hx,e⟩⟩
theorem bad_iff {sets:List (List S74)}{E:List Int}(f:Few sets E):OfBad sets↔60<sets.length∨longF sets=true∨200<(clsL sets).length∨longF (clsL sets)=true:=by
 unfold OfBad;rw [clsL_len,long_perm (kd_ sets)];constructor
 ·rintro (h | h | ⟨j,h1,h2,h3⟩ | h)
  ·exact Or.inl h
  ·exact Or.inr (Or.inl h)
  ·have:=at_up f (sets.length - j) j (by omega);exact Or.inr (Or.inr (Or.inl (by omega)))
  ·exact Or.inr (Or.inr (Or.inr h))
 ·rintro (h | h | h | h)
  ·exact Or.inl h
  ·exact Or.inr (Or.inl h)
  ·refine Or.inr (Or.inr (Or.inl ⟨sets.length,?_,Nat.le_refl _,h⟩));cases sets with
   | nil=>exact absurd h (by decide)
   | cons=>simp
  ·exact Or.inr (Or.inr (Or.inr h))
def badB (sets:List (List S74)):Bool:=decide (60<sets.length) || longF sets || decide (200<(clsL sets).length) || longF (clsL sets)
theorem badB_iff {sets:List (List S74)}{E:List Int}(f:Few sets E):badB sets=true↔OfBad sets:=by
 rw [bad_iff f];unfold badB;simp only [Bool.or_eq_true,decide_eq_true_eq,or_assoc]
theorem clsL_short {sets:List (List S74)}(h:badB sets=false):Short (clsL sets):=by
 unfold badB at h;rw [Bool.or_eq_false_iff] at h;intro x hx;have:=h.2;unfold longF at this;rw [List.any_eq_false] at this;have:=this x hx;simp at this;omega
theorem good_len {sets:List (List S74)}(h:badB sets=false):(clsL sets).length<=200:=by
 unfold badB at h;simp only [Bool.or_eq_false_iff,decide_eq_false_iff_not] at h;omega
theorem of_one (A0:Option Addr)(c0:Nat)(l0:List (List S74))(w:World)(hr0:Kd.C (Kd.slice 74 k74) w A0 l0.length l0)(hc0:l0.length<=c0){E:List Int}(f:Few l0 E):
  Calls Tryz.prog 43 #[.slice A0 l0.length c0] w fun e w'=> ∃ v,e=.returned (.tuple #[v,.int .i64 (if badB l0 then 9 else 0)])∧OwnRows w' w.heap.size v (if badB l0 then [] else clsL l0)∧Below w.heap.size w w':=by
 refine (of_calls A0 c0 l0 w hr0 hc0).mono ?_;rintro e w' ⟨h | ⟨hb,v,ys,he,ho,ha,hs⟩,bel⟩
 ·have q:=(badB_iff f).2 h.1;rw [if_pos q,if_pos q];exact ⟨_,h.2,OwnRows.nil _ _,bel⟩
 ·have q:¬ badB l0=true:=fun q=>hb ((badB_iff f).1 q);rw [if_neg q,if_neg q];exact ⟨v,he,clsL_one f ha hs ▸ ho,bel⟩
end P
namespace L
open Shelf A P
theorem R34_foot {W W':World}{base:Nat}{u:Value}{x:List S74}(h:Kd.R k74 74 W base (fun _=>True) u x){v:Value}(hv: ∀ k,v.ownBlock=some k-> ∃ cells,W.heap[k]? =some (.cells cells 37 (0,0)))(hm: ∀ k,base<=k∧some k≠v.ownBlock->k<W.heap.size->W'.heap[k]? =W.heap[k]?):Kd.R k74 74 W' base (fun _=>True) u x:=by
 refine Kd.R_mono (Kd.R_move (Kd.R_bound h) (fun k hk=>?_)) (fun _ _=>trivial);obtain ⟨_,hb,hlt,q,hq,cells,hc⟩:=hk;have hE:k74.E=[]:=rfl;rw [hE,List.mem_singleton] at hq;subst hq;refine hm k ⟨hb,fun e=>?_⟩ hlt;obtain ⟨c2,hc2⟩:=hv k e.symm;rw [hc] at hc2;injection hc2 with hc2;injection hc2 with _ h2;exact absurd h2 (by decide)
theorem OwnRows.N {w:World}{base:Nat}{v:Value}{xs:List (List S74)}(o:OwnRows w base v xs):Kd.N (Kd.slice 74 k74) 37 w base (fun k=>base<=k) v xs:=by
 obtain ⟨hdrs,ho,hl,hr⟩:=o;have hone: ∀ u∈hdrs,u.oneCell'=true:=by
  intro u hu;obtain ⟨j,hj,e⟩:=List.getElem_of_mem hu;have h1:hdrs[j]? =some u:=by rw [List.getElem?_eq_getElem hj,e]
  have h2:xs[j]? =some xs[j]:=List.getElem?_eq_getElem (by omega);obtain ⟨A,c,e2⟩:=Kd.R_slice (hr j u _ h1 h2);rw [e2];rfl
 have hty: ∀ k,v.ownBlock=some k-> ∃ cells,w.heap[k]? =some (.cells cells 37 (0,0)):=by
  intro k hk;rcases ho.2 with ⟨e',_⟩ | ⟨g,cap,cur,e',_,hh,_⟩
  ·rw [e'] at hk;cases hk
  ·rw [e'] at hk;have:k=g:=by simpa [Value.ownBlock] using hk.symm
   subst this;exact ⟨_,hh⟩
 have hbase: ∀ k,v.ownBlock=some k->base<=k:=by
  intro k hk;rcases ho.2 with ⟨e',_⟩ | ⟨g,cap,cur,e',hg,hh,_⟩
  ·rw [e'] at hk;cases hk
  ·rw [e'] at hk;have:k=g:=by simpa [Value.ownBlock] using hk.symm
   subst this;exact hg
 refine ⟨hbase,hdrs.map fun u=>[u],by rw [List.length_map,hl],⟨fun k hk=>hk.symm,hdrs,?_,?_⟩,?_⟩
 ·rw [List.length_map,hl];exact ho
 ·refine ⟨by rw [List.length_map,Nat.mul_comm];exact (Nat.one_mul _).symm,fun j p hp=>?_⟩;rw [List.getElem?_map] at hp;obtain ⟨u,hu,rfl⟩:=Option.map_eq_some_iff.1 hp;have hj:=(List.getElem?_eq_some_iff.1 hu).1;have e:(hdrs.drop (j*1)).take 1=[u]:=by
   rw [Nat.mul_one,List.drop_eq_getElem_cons hj];have:=(List.getElem?_eq_some_iff.1 hu).2;simp [this]
  show (hdrs.drop (j*1)).take 1=[u]∧((hdrs.drop (j*1)).take 1).length=1∧ ∀ z∈(hdrs.drop (j*1)).take 1,z.oneCell'=true;rw [e];exact ⟨rfl,rfl,fun z hz=>by rw [List.mem_singleton.1 hz];exact hone u (List.mem_of_getElem? hu)⟩
 ·intro j x c hx hc;rw [List.getElem?_map] at hc;obtain ⟨u,hu,rfl⟩:=Option.map_eq_some_iff.1 hc;have hR:=hr j u x hu hx;obtain ⟨A,c',rfl⟩:=Kd.R_slice hR;intro W' hW;have hR':=R34_foot hR hty hW;obtain ⟨k1,k2,k3⟩:=Kd.R_reads' hR';exact ⟨A,c',rfl,k2,k3⟩
noncomputable def ex_.f (l0:List (List S74)):Option (List (List S74) × Int):=@ite _ (∃ E,Few l0 E) (Classical.propDecidable _) (some (if badB l0 then [] else clsL l0,if badB l0 then 9 else 0)) none
theorem of_f {l0:List (List S74)}{E:List Int}(f:Few l0 E):ex_.f l0=some (if badB l0 then [] else clsL l0,if badB l0 then 9 else 0):=by
 unfold ex_.f;exact if_pos ⟨E,f⟩
theorem ex_.calls (A0:Option Addr)(c0:Nat)(l0:List (List S74))(r0:List (List S74))(r1:Int)(w:World)(hr0:Kd.C (Kd.slice 74 k74) w A0 l0.length l0)(hc0:l0.length<=c0)(h:ex_.f l0=some (r0,r1)):
  Calls Tryz.prog 43 #[.slice A0 l0.length c0] w fun e w'=> ∃ v0_:Value,e=.returned (.tuple #[v0_,.int .i64 r1])∧Kd.N (Kd.slice 74 k74) 37 w' w.heap.size (fun k_=>w.heap.size<=k_) v0_ r0∧Below w.heap.size w w':=by
 unfold ex_.f at h;by_cases q: ∃ E,Few l0 E
 ·rw [if_pos q] at h;obtain ⟨E,f⟩:=q;have h:=Option.some.inj h;injection h with h1 h2;refine (of_one A0 c0 l0 w hr0 hc0 f).mono ?_;rintro e w' ⟨v,he,ho,hb⟩;rw [h1] at ho;rw [h2] at he;exact ⟨v,he,ho.N,hb⟩
 ·rw [if_neg q] at h;cases h
def eachF (dF:Int->Int)(l:List Int):List Int × Int:=if l.any (fun x=>decide (dF x<0)) then ([],1) else (l.map dF,0)
def EaO (w:World)(dF:Int->Int)(l:List Int)(v6 ui:Value)(W:World):Prop:= ∃ j:Nat,j<=l.length∧ui=.int .i64 j∧(∀ x∈l.take j,0<=dF x)∧Kd.R (Kd.int .i64) 3 W w.heap.size (fun _=>True) v6 ((l.take j).map dF)∧Below w.heap.size w W
theorem kz_ (gf gb:Nat)(dF:Int->Int)(A0:Option Addr)(c0:Nat)(l0:List Int)(w:World)(hr0:Kd.C (Kd.int .i64) w A0 l0.length l0)(hc0:l0.length<=c0)(hl:l0.length<=100000)
  (eg: ∀ args w,(callFunc gf args).run Tryz.prog w=.ok (.enter gf args) w)
  (hd: ∀ n W,Below w.heap.size w W->Calls Tryz.prog gf #[.int .i64 n,.pointer (some ⟨gb,0,none⟩)] W fun e w'=>e=.returned (.int .i64 (dF n))∧Below W.heap.size W w'):
  Calls Tryz.prog 65 #[.slice A0 l0.length c0,.func (.func gf) #[] #[.pointer (some ⟨gb,0,none⟩)]] w fun e w'=> ∃ v,e=.returned (.tuple #[v,.int .i64 (eachF dF l0).2])∧Kd.R (Kd.int .i64) 3 w' w.heap.size (fun _=>True) v (eachF dF l0).1∧Below w.heap.size w w':=by
 have HR:=Sd.m hr0;have HL:=Sd.m hl;have HD:=Sd.m hd;clear hr0 hl hd;obtain ⟨ans,hans⟩: ∃ a,a=eachF dF l0:=⟨_,rfl⟩;rw [←hans];have HANS:=Sd.m hans;clear hans;go_enter Tryz.func65,Tryz.ntmps65;go_wp2_with fail;go_loopw [6,12] (fun v6 ui W=>EaO w dF l0 v6 ui W) (fun v6 ui W=>l0.length - (intOf ui).toNat)
 case atStart=>exact ⟨0,Nat.zero_le _,rfl,(fun x hx=>by simp at hx),Kd.R_nil _ _ _ _ _,Below.refl _ _⟩
 case round=>
  obtain ⟨j,hj,rfl,hno,hR,hb⟩:=hrel;have HB:=Sd.m hb;have HN:=Sd.m hno;have HLL:=HL.out;obtain ⟨out,hout⟩: ∃ o,o=(l0.take j).map dF:=⟨_,rfl⟩;rw [←hout] at hR;have hol:out.length=j:=by rw [hout,List.length_map,List.length_take];omega
  have HOUT:=Sd.m hout;have HOL:=Sd.m hol;obtain ⟨Aa,ca,rfl⟩:=Kd.R_slice hR;have HO:=Sd.m hR;clear hb hno hout hR hol;by_cases hlt:j<l0.length
  ·have b1:decide ((j:Int)<(l0.length:Int))=true:=dt__ (by omega);have b2:decide (j<l0.length)=true:=dt__ hlt;have hq0:0<=(j:Int):=by omega
   have hq1:(j:Int)<(l0.length:Int):=by omega
   have w2:IntKind.i64.wrap ((j:Int)+1)=(j:Int)+1:=IntWalk.i64_in _ (by omega);obtain ⟨ad,rfl,k0⟩:=Kd.ds_ (Kd.C_below HR.out HB.out) (j:Int) (by omega) (by omega);rw [Int.toNat_natCast] at k0;obtain ⟨x,hx⟩: ∃ x,x=rd l0 (j:Int):=⟨_,rfl⟩;rw [←hx] at k0;have hel:l0[j]? =some x:=by
    rw [hx];unfold rd;rw [Int.toNat_natCast,List.getD_eq_getElem?_getD,List.getElem?_eq_getElem hlt];rfl
   have HE:=Sd.m hel;clear hel hx;obtain ⟨k,hk⟩: ∃ k,k=dF x:=⟨_,rfl⟩;have HK:=Sd.m hk;clear hk;go_wp2_with fail;generalize wr=Wo at*;have hcall:=HD.out x Wo HB.out;rw [←HK.out] at hcall;refine hcall.mono ?_;clear hcall;rintro e W1 ⟨rfl,hb⟩;have HB1:=Sd.m (HB.out.trans (hb.mono HB.out.size));have HO1:=Sd.m (Kd.R_below HO.out hb);clear hb HB HO k0;by_cases hneg:k<0
   ·have d1:decide (k<0)=true:=dt__ hneg;have hbad:eachF dF l0=([],1):=by
     unfold eachF;rw [if_pos];rw [List.any_eq_true];exact ⟨x,List.mem_of_getElem? HE.out,dt__ (by rw [←HK.out];exact hneg)⟩
    have HBAD:=Sd.m hbad;clear hneg hbad;go_wp2_with fail;go_ret2;exact ⟨_,by rw [HANS.out,HBAD.out];rfl,by rw [HANS.out,HBAD.out];exact Kd.R_nil _ _ _ _ _,HB1.out⟩
   ·have d1:decide (k<0)=false:=df__ hneg;have HNEG:=Sd.m hneg;clear hneg;go_wp2_with ((with_reducible refine bi_ (b:=.append) (xs:=#[.tmp 21,.tmp 23]) rfl ?_);at_builtin;refine Kd.R_append (Kd.int .i64) (w0:=w) w.heap.size rfl (.tmp 21) (.tmp 23) 42 3 (.int .i64 0) 8 rfl Tryz.underlying42 info3 rfl (by decide) (by omega) (.slice Aa out.length ca) out k [.int .i64 k] (fun _=>True) (fun _=>False) rfl rfl rfl (fun _ hk=>hk.elim) (fun _ _=>trivial) HO1.out HB1.out HB1.out.size (by have:=HOL.out;omega) ?_;intro v' w1 ho hb hg hat;have E1:=Sd.m ho;have E2:=Sd.m hb;clear ho hb hg hat);go_roundw
    case rel=>
     refine ⟨j+1,hlt,by go_num,fun y hy=>?_,?_,E2.out⟩
     ·rw [List.take_add_one,HE.out] at hy;rcases List.mem_append.1 hy with hy | hy
      ·exact HN.out y hy
      ·simp at hy;rw [hy,←HK.out];have:=HNEG.out;omega
     ·rw [List.take_add_one,HE.out,List.map_append,←HOUT.out];simpa [HK.out] using E1.out
    case measure=>simp [intOf];omega
  ·have b1:decide ((j:Int)<(l0.length:Int))=false:=df__ (by omega);have b2:decide (j<l0.length)=false:=df__ hlt;have hgood:eachF dF l0=(out,0):=by
    have hfull:l0.take j=l0:=List.take_of_length_le (by omega);unfold eachF;rw [if_neg,HOUT.out,hfull];rw [List.any_eq_true];rintro ⟨x,hx,h⟩;have:=HN.out x (by rw [hfull];exact hx);have:=of_decide_eq_true h;omega
   have HG:=Sd.m hgood;clear hgood;go_wp2_with fail;go_ret2;exact ⟨_,by rw [HANS.out,HG.out];rfl,by rw [HANS.out,HG.out];exact HO.out,HB.out⟩
open B D
theorem word_one (gb:Nat)(A0:Option Addr)(c0:Nat)(l0:List (List S74))(n:Int)(w:World)(hr0:Kd.C (Kd.slice 74 k74) w A0 l0.length l0)(hc0:l0.length<=c0)(hg:w.heap[gb]? =some (.cells #[.slice A0 l0.length c0] 30 (0,0))):
  Calls Tryz.prog 66 #[.int .i64 n,.pointer (some ⟨gb,0,none⟩)] w fun e w'=>e=.returned (.int .i64 (classF l0 n))∧Below w.heap.size w w':=by
 have hs:=c38 A0 c0 l0 n w hr0 hc0 _ rfl;have hcell:=bc_ hg 0 rfl;generalize classF l0 n=b at hs ⊢;have HS:=Sd.m hs;clear hs hg hr0 hc0;go_enter Tryz.func66,Tryz.ntmps66;go_wp2_with fail;refine HS.out.mono ?_;rintro e w' ⟨rfl,hb⟩;have HB:=Sd.m hb;clear hb;go_wp2_with fail;go_ret;exact ⟨rfl,HB.out⟩
theorem word_calls (A0:Option Addr)(c0:Nat)(l0:List (List S74))(A1:Option Addr)(c1:Nat)(l1:List Int)(w:World)(hr0:Kd.C (Kd.slice 74 k74) w A0 l0.length l0)(hc0:l0.length<=c0)(hr1:Kd.C (Kd.int .i64) w A1 l1.length l1)(hc1:l1.length<=c1)(hl:l1.length<=100000):
  Calls Tryz.prog 33 #[.slice A0 l0.length c0,.slice A1 l1.length c1] w fun e w'=> ∃ v,e=.returned (.tuple #[v,.int .i64 (eachF (classF l0) l1).2])∧Kd.R (Kd.int .i64) 3 w' w.heap.size (fun _=>True) v (eachF (classF l0) l1).1∧Below w.heap.size w w':=by
 have hb0:=ab_ (Below.refl w.heap.size w) (.cells #[.slice A0 l0.length c0] 30);have hbx:(w.alloc (.cells #[.slice A0 l0.length c0] 30)).heap[w.heap.size]? =some (.cells #[.slice A0 l0.length c0] 30 (0,0)):=aj_ _ _;have hs:=kz_ 66 w.heap.size (classF l0) A1 c1 l1 (w.alloc (.cells #[.slice A0 l0.length c0] 30)) (Kd.C_alloc hr1 _) hc1 hl (enters_of Tryz.func66 (by kernel_rfl) rfl) fun n W hW=>word_one w.heap.size A0 c0 l0 n W (Kd.C_below (Kd.C_alloc hr0 _) hW) hc0 (ag_ hbx hW);generalize eachF (classF l0) l1=r at hs ⊢;have HS:=Sd.m hs;have HB0:=Sd.m hb0;clear hs hbx hb0 hr0 hr1 hc0 hc1 hl;go_enter Tryz.func33,Tryz.ntmps33;go_wp2_with fail;refine HS.out.mono ?_;rintro e w' ⟨v,rfl,hR,hb⟩;have HR:=Sd.m (Kd.R_lower hR HB0.out.size);have HB:=Sd.m (HB0.out.trans (hb.mono HB0.out.size));obtain ⟨Av,cv,rfl⟩:=Kd.R_slice hR;clear hb hR;go_wp2_with fail;go_ret2;exact ⟨_,rfl,HR.out,HB.out⟩
def charF (fs:List Int)(n:Int):Int:=if n<0 then -1 else if n ≥ (fs.length:Int) then -1 else rd fs n
theorem chars_one (gb:Nat)(A0:Option Addr)(c0:Nat)(fs:List Int)(n:Int)(w:World)(hr0:Kd.C (Kd.int .i64) w A0 fs.length fs)(hc0:fs.length<=c0)(hg:w.heap[gb]? =some (.cells #[.slice A0 fs.length c0] 42 (0,0))):
  Calls Tryz.prog 69 #[.int .i64 n,.pointer (some ⟨gb,0,none⟩)] w fun e w'=>e=.returned (.int .i64 (charF fs n))∧Below w.heap.size w w':=by
 have hcell:=bc_ hg 0 rfl;by_cases h1:n<0
 ·have b1:decide (n<0)=true:=dt__ h1;have e:charF fs n= -1:=if_pos h1;rw [e];clear e hr0 hg;go_enter Tryz.func69,Tryz.ntmps69;go_wp2_with fail;go_ret;exact ⟨rfl,Below.refl _ _⟩
 ·have b1:decide (n<0)=false:=df__ h1;by_cases h2:n ≥ (fs.length:Int)
  ·have b2:decide ((fs.length:Int)<=n)=true:=dt__ h2;have e:charF fs n= -1:=by unfold charF;rw [if_neg h1,if_pos h2]
   rw [e];clear e hr0 hg;go_enter Tryz.func69,Tryz.ntmps69;go_wp2_with fail;go_ret;exact ⟨rfl,Below.refl _ _⟩
  ·have b2:decide ((fs.length:Int)<=n)=false:=df__ h2;have e:charF fs n=rd fs n:=by unfold charF;rw [if_neg h1,if_neg h2]
   rw [e];have q0:0<=n:=by omega
   have q1:n<(fs.length:Int):=by omega
   obtain ⟨ad,rfl,k0⟩:=Kd.ds_ hr0 n q0 q1;generalize rd fs n=x at k0 ⊢;clear e hr0 hg;go_enter Tryz.func69,Tryz.ntmps69;go_wp2_with fail;go_ret;exact ⟨rfl,Below.refl _ _⟩
theorem kf_ (A0:Option Addr)(c0:Nat)(l0:List (List S74))(A1:Option Addr)(c1:Nat)(l1:List Int)(w:World)(hr0:Kd.C (Kd.slice 74 k74) w A0 l0.length l0)(hc0:l0.length<=c0)(hr1:Kd.C (Kd.int .i64) w A1 l1.length l1)(hc1:l1.length<=c1)(hl0:l0.length<=100000)(hl:l1.length<=100000):
  Calls Tryz.prog 35 #[.slice A0 l0.length c0,.slice A1 l1.length c1] w fun e w'=> ∃ v,e=.returned (.tuple #[v,.int .i64 (eachF (charF (l0.map firstF)) l1).2])∧Kd.R (Kd.int .i64) 3 w' w.heap.size (fun _=>True) v (eachF (charF (l0.map firstF)) l1).1∧Below w.heap.size w w':=by
 obtain ⟨k,hk⟩:=(firsts_f l0 hl0).rounds;have HF:=Sd.m (cb_.calls k A0 c0 l0 _ w hr0 hc0 hk);have HR1:=Sd.m hr1;have HC1:=Sd.m hc1;have HL:=Sd.m hl;generalize l0.map firstF=fs at HF ⊢;obtain ⟨r,hr⟩: ∃ r,r=eachF (charF fs) l1:=⟨_,rfl⟩;rw [←hr];have HRR:=Sd.m hr;clear hr hr0 hr1 hc1 hl hk;go_enter Tryz.func35,Tryz.ntmps35;go_wp2_with fail;refine HF.out.mono ?_;rintro e W1 ⟨v,rfl,hR,hb⟩;obtain ⟨Af,cf,rfl⟩:=Kd.R_slice hR;have HRF:=Sd.m hR;have HB1:=Sd.m hb;clear hb hR HF;go_wp2_with fail;have hbx: ∀ W2:World,W2.heap[W1.heap.size]? =some (.cells #[.slice Af fs.length cf] 42 (0,0))->Below W1.heap.size W1 W2->Calls Tryz.prog 65 #[.slice A1 l1.length c1,.func (.func 69) #[] #[.pointer (some ⟨W1.heap.size,0,none⟩)]] W2 fun e w'=> ∃ v,e=.returned (.tuple #[v,.int .i64 r.2])∧Kd.R (Kd.int .i64) 3 w' W2.heap.size (fun _=>True) v r.1∧Below W2.heap.size W2 w':=by
  intro W2 h1 h2;rw [HRR.out];exact kz_ 69 W1.heap.size (charF fs) A1 c1 l1 W2 (Kd.C_below (Kd.C_below HR1.out HB1.out) h2) HC1.out HL.out (enters_of Tryz.func69 (by kernel_rfl) rfl) fun n W hW=>chars_one W1.heap.size Af cf fs n W (Kd.C_below (Kd.C_below (Kd.R_reads' HRF.out).2.2 h2) hW) (Kd.R_reads' HRF.out).2.1 (ag_ h1 hW)
 have hb0:=ab_ (Below.refl W1.heap.size W1) (.cells #[.slice Af fs.length cf] 42);have hcall:=hbx _ (aj_ W1 _) hb0;clear hbx;refine hcall.mono ?_;clear hcall;rintro e w' ⟨v,rfl,hR2,hb2⟩;have HR2:=Sd.m (Kd.R_lower hR2 (Nat.le_trans HB1.out.size hb0.size));have HB2:=Sd.m (HB1.out.trans ((hb0.trans (hb2.mono hb0.size)).mono HB1.out.size));obtain ⟨Av,cv,rfl⟩:=Kd.R_slice hR2;clear hb2 hR2 hb0;go_wp2_with fail;go_ret2;exact ⟨_,rfl,HR2.out,HB2.out⟩
theorem same_ev (x y:List S74)(hl:y.length<=3000000): ∃ k,da_.f k x y=some (eqF x y):=by
 by_cases h:x.length=y.length
 ·exact (rng_ev (by omega) _ hi_).2.rounds
 ·have hf:eqF x y=false:=by
   cases hb:eqF x y with
   | false=>rfl
   | true=>exact absurd (by rw [hi_.1 hb]) h
  refine ⟨0,?_⟩;rw [hf];unfold da_.f;exact if_neg (by omega)
theorem same_one (y:List S74)(gc:Nat)(By:Option Addr)(cy:Nat)(A0:Option Addr)(c0:Nat)(l0:List S74)(w:World)(hr0:Kd.C k74 w A0 l0.length l0)(hc0:l0.length<=c0)(hry:Kd.C k74 w By y.length y)(hcy:y.length<=cy)(hly:y.length<=3000000)(hg:w.heap[gc]? =some (.cells #[.slice By y.length cy] 37 (0,0))):
  Calls Tryz.prog 109 #[.slice A0 l0.length c0,.pointer (some ⟨gc,0,none⟩)] w fun e w'=>e=.returned (.bool (eqF l0 y))∧Below w.heap.size w w':=by
 obtain ⟨k,hk⟩:=same_ev l0 y hly;have hs:=da_.calls k A0 c0 l0 By cy y _ w hr0 hc0 hry hcy hk;have hcell:=bc_ hg 0 rfl;generalize eqF l0 y=b at hs ⊢;have HS:=Sd.m hs;clear hs hg hr0 hc0 hk hry hcy hly;go_enter Tryz.func109,Tryz.ntmps109;go_wp2_with fail;refine HS.out.mono ?_;rintro e w' ⟨rfl,hb⟩;have HB:=Sd.m hb.below;clear hb;go_wp2_with fail;go_ret;exact ⟨rfl,HB.out⟩
theorem index_same (y:List S74)(gc:Nat)(By:Option Addr)(cy:Nat)(A0:Option Addr)(c0:Nat)(l0:List (List S74))(w:World)(hr0:Kd.C (Kd.slice 74 k74) w A0 l0.length l0)(hc0:l0.length<=c0)(hry:Kd.C k74 w By y.length y)(hcy:y.length<=cy)(hly:y.length<=3000000)(hg:w.heap[gc]? =some (.cells #[.slice By y.length cy] 37 (0,0))):
  Calls Tryz.prog 137 #[.slice A0 l0.length c0,.func (.func 109) #[] #[.pointer (some ⟨gc,0,none⟩)]] w fun e w'=>e=.returned (.int .i64 (ixF (fun x_:List S74=>eqF x_ y) l0))∧Below w.heap.size w w':=by
 have HR:=Sd.m hr0;have HG:=Sd.m hg;have HY:=Sd.m hry;have HCY:=Sd.m hcy;have HLY:=Sd.m hly;clear hg hry hcy hly;have HM:l0.length<=9223372036854775807:=Kd.C_max hr0;have eg: ∀ args w,(callFunc 109 args).run Tryz.prog w=.ok (.enter 109 args) w:=enters_of Tryz.func109 (by kernel_rfl) rfl;clear hr0;obtain ⟨p,hp⟩: ∃ p:List S74->Bool,p=fun x_:List S74=>eqF x_ y:=⟨_,rfl⟩;rw [←hp];have HP:=Sd.m hp;clear hp;go_enter Tryz.func137,Tryz.ntmps137;go_wp2_with fail;go_loopw [8] (fun u W=>Lxi w l0 p u W) (fun u _=>l0.length - (intOf u).toNat)
 case atStart=>exact ⟨0,Nat.zero_le _,rfl,Below.refl _ _,(fun r hr=>by simp at hr)⟩
 case round=>
  obtain ⟨j,hj,rfl,hb,hno⟩:=hrel;have HB:=Sd.m hb;have HN:=Sd.m hno;clear hb hno;by_cases hlt:j<l0.length
  ·have b1:decide ((j:Int)<(l0.length:Int))=true:=dt__ (by omega);have b2:decide (j<l0.length)=true:=dt__ hlt;obtain ⟨ad,A1,c1,rfl,k0,k1,k2⟩:=iw_ (Kd.C_below HR.out HB.out) (j:Int) (by omega) (by omega);rw [Int.toNat_natCast] at k0;have hq0:0<=(j:Int):=by omega
   have hq1:(j:Int)<(l0.length:Int):=by omega
   have w2:IntKind.i64.wrap ((j:Int)+1)=(j:Int)+1:=IntWalk.i64_in _ (by omega);have hel:l0[j]? =some (dn_ l0 j):=by
    unfold dn_;rw [Int.toNat_natCast,List.getD_eq_getElem?_getD,List.getElem?_eq_getElem hlt];rfl
   have HE:=Sd.m hel;clear hel;obtain ⟨s,hs⟩: ∃ s,s=dn_ l0 j:=⟨_,rfl⟩;rw [←hs] at k0 k1 k2 HE;clear hs;have HK:=Sd.m k2;have HK1:=Sd.m k1;clear k2 k1;go_wp2_with fail;have hrl:=same_one y gc By cy A1 c1 s wr HK.out HK1.out (Kd.C_below HY.out HB.out) HCY.out HLY.out (ag_ HG.out HB.out);rw [show eqF s y=p s from by rw [HP.out]] at hrl;refine hrl.mono ?_;clear hrl;rintro e W7 ⟨rfl,hb7⟩;have HB7:=Sd.m (HB.out.trans (hb7.mono HB.out.size));clear hb7 k0;cases hi:p s with
   | true=>
    have HI:=Sd.m hi;clear hi;go_wp2_with fail;go_ret;have hfi:(l0.findIdx? p)=some j:=List.findIdx?_eq_some_iff_getElem.2 ⟨hlt,(by rw [List.getElem?_eq_getElem hlt] at HE;rw [Option.some.inj HE.out];exact HI.out),(fun i hi=>by
     have:=HN.out (l0[i]'(by omega)) (List.mem_take_iff_getElem.2 ⟨i,by omega,rfl⟩);rw [this];decide)⟩
    have hix:ixF p l0=j:=by
     unfold ixF;rw [hfi]
    exact ⟨by rw [hix];rfl,HB7.out⟩
   | false=>
    have HI:=Sd.m hi;clear hi;go_wp2_with fail;go_roundw
    case rel=>
     refine ⟨j+1,hlt,by go_num,HB7.out,fun r hr=>?_⟩;rw [List.take_add_one,HE.out] at hr;rcases List.mem_append.1 hr with hr | hr
     ·exact HN.out r hr
     ·simp at hr;rw [hr];exact HI.out
    case measure=>simp [intOf];omega
  ·have b1:decide ((j:Int)<(l0.length:Int))=false:=df__ (by omega);have b2:decide (j<l0.length)=false:=df__ hlt;go_wp2_with fail;go_ret;have:ixF p l0= -1:=by
    unfold ixF;rw [List.findIdx?_eq_none_iff.2 fun x hx=>HN.out x (by rw [List.take_of_length_le (by omega)];exact hx)]
   exact ⟨by rw [this];rfl,HB.out⟩
noncomputable def inF (y:List S74)(l:List (List S74)):Bool:=l.any fun x=>eqF x y
theorem me_ (y:List S74)(gc:Nat)(By:Option Addr)(cy:Nat)(A0:Option Addr)(c0:Nat)(l0:List (List S74))(w:World)(hr0:Kd.C (Kd.slice 74 k74) w A0 l0.length l0)(hc0:l0.length<=c0)(hry:Kd.C k74 w By y.length y)(hcy:y.length<=cy)(hly:y.length<=3000000)(hg:w.heap[gc]? =some (.cells #[.slice By y.length cy] 37 (0,0)))(b:Bool)(h:inF y l0=b):
  Calls Tryz.prog 108 #[.slice A0 l0.length c0,.func (.func 109) #[] #[.pointer (some ⟨gc,0,none⟩)]] w fun e w'=>e=.returned (.bool b)∧Below w.heap.size w w':=by
 have hi:=index_same y gc By cy A0 c0 l0 w hr0 hc0 hry hcy hly hg;have hge:decide (0<=ixF (fun x:List S74=>eqF x y) l0)=b:=(ixF_ge _ l0).trans h;generalize ixF (fun x:List S74=>eqF x y) l0=i at hi hge;rw [←hge];have HI:=Sd.m hi;clear hi hr0 hc0 hge h hry hcy hly hg;go_enter Tryz.func108,Tryz.ntmps108;go_wp2_with fail;refine HI.out.mono ?_;rintro e w' ⟨rfl,hb⟩;have HB:=Sd.m hb;clear hb;go_wp2_with fail;go_ret;exact ⟨rfl,HB.out⟩
open YthfceiincmkccaaGreatW.PrintWords.Kd
theorem cw_ {P:Program}{ops:Array Oper}{o:Oper}{a:Act}{w w1:World}{K:Act->World->Prop}{Q:Exit->Act->World->Prop}{E:Prop}{v:Value}
  (hg:o.guard=none) (s x:Operand) (t:TypeId) (hop:o.op=Op.call { callee:=Callee.builtin Builtin.append,args:=#[s,x],argTypes:=#[t,t] })
  (vs vx:Value) (hs:a.eval s=vs) (hx:a.eval x=vx) (hrun:(Builtin.append_ #[t,t] o.type #[vs,vx]).run P w=.ok v w1)
  (hK:K (a.put o.dst v) w1):
  if Region.wanted o (yielded ops a.tmps)=true then Oper.wp P o a w K Q else E:=by
 have hw:Region.wanted o (yielded ops a.tmps)=true:=by simp [Region.wanted,hg]
 rw [if_pos hw];unfold Oper.wp;simp [execOp,hop,resolve,invoke,builtin,hs,hx,hrun,Result.andThen];exact hK
def Held (w0 W:World)(v:Value)(xs:List (List S74)):Prop:=OwnRow ((Kd.slice 74 k74).K w0) 37 1 W w0.heap.size v xs
theorem Held.reads {w0 W:World}{v:Value}{xs:List (List S74)}(h:Held w0 W v xs)(hb:Below w0.heap.size w0 W): ∃ A c,v=.slice A xs.length c∧xs.length<=c∧Kd.C (Kd.slice 74 k74) W A xs.length xs:=by
 obtain ⟨A,c,e,hl,hr⟩:=OwnRow.reads h;exact ⟨A,c,e,hl,ReadsRow.imp_ hr (Below.refl _ _) fun _ _ hp=>(Kd.slice 74 k74).K_below hb hp⟩
theorem Held.kept {w0 W W1:World}{v:Value}{xs:List (List S74)}(h:Held w0 W v xs)(hm: ∀ k,v.ownBlock=some k->W1.heap[k]? =W.heap[k]?):Held w0 W1 v xs:=by
 obtain ⟨inner,ho,hr⟩:=h;exact ⟨inner,own_move ho hm,hr⟩
theorem held_app {w0 W:World}{v:Value}{xs:List (List S74)}(h:Held w0 W v xs)(y:List S74)(By:Option Addr)(cy:Nat)(hy:Kd.C k74 w0 By y.length y)(hcy:y.length<=cy)(a:Addr)(ha:W.cell? a=some (.slice By y.length cy))(hb:w0.heap.size<=W.heap.size)(hl:xs.length<=1000000):
  ∃ A4 c4 w2,(Builtin.append_ #[68,68] 68 #[v,.slice (some a) 1 1]).run Tryz.prog W=.ok (.slice A4 (xs.length+1) c4) w2∧Held w0 w2 (.slice A4 (xs.length+1) c4) (xs ++ [y])∧W.grownBy w2 v.ownBlock:=by
 obtain ⟨inner,ho,hr⟩:=h;obtain ⟨i0,hi,hzz⟩:=Option.map_eq_some_iff.1 (show (Tryz.prog.info? 37).map (fun i=>(i.zero,i.size,i.bytes))=some (some (.slice none 0 0),1,24) by kernel_rfl);simp only [Prod.mk.injEq] at hzz;obtain ⟨hz0,hz1,hz2⟩:=hzz;obtain ⟨v1,w1,hrun,h2,hg,_,hat⟩:=run_append_own_at (P:=Tryz.prog) (w:=W) w0.heap.size 68 68 37 i0 (.slice none 0 0) 1 24 Tryz.underlying68 hi hz0 hz1 hz2 rfl (by decide) v xs.length inner ho a 1 1 [.slice By y.length cy] rfl (fun j u hu=>by
  cases j with
  | zero=>injection hu with hu;rw [←hu];exact ha
  | succ j=>simp at hu) (fun u hu=>by rw [List.mem_singleton.1 hu];rfl) (by simp only [maxLen];omega) (by omega) hb
 have hR:Reps ((Kd.slice 74 k74).K w0) 1 (xs ++ [y]) (inner ++ [.slice By y.length cy]):=hr.snoc ⟨By,cy,rfl,hcy,hy⟩ rfl;have hH:Held w0 w1 v1 (xs ++ [y]):=⟨_,by rw [List.length_append];exact h2,hR⟩;obtain ⟨A4,c4,e,_⟩:=OwnRow.reads hH;rw [List.length_append] at e;subst e;exact ⟨A4,c4,w1,hrun,hH,hg⟩
def SetAt (w0 W:World)(gs:Nat)(xs:List (List S74)):Prop:=(∃ v,Boxed W gs 68 v∧Held w0 W v xs)∧Below w0.heap.size w0 W∧w0.heap.size<=gs
theorem SetAt.boxed {w0 W:World}{gs:Nat}{xs:List (List S74)}(h:SetAt w0 W gs xs): ∃ A c,Boxed W gs 68 (.slice A xs.length c)∧Held w0 W (.slice A xs.length c) xs∧xs.length<=c∧Kd.C (Kd.slice 74 k74) W A xs.length xs:=by
 obtain ⟨⟨v,hv,hh⟩,hb,_⟩:=h;obtain ⟨A,c,rfl,hl,hr⟩:=hh.reads hb;exact ⟨A,c,hv,hh,hl,hr⟩
def Kept45 (W W1:World):Prop:=W.heap.size<=W1.heap.size∧ ∀ (k:Nat) (cells:Array Value) (t:Nat),t≠37->t≠68->W.heap[k]? =some (Obj.cells cells t (0,0))->W1.heap[k]? =W.heap[k]?
theorem eu_ {W W1:World}(h:Below W.heap.size W W1):Kept45 W W1:=⟨h.size,fun k cells t _ _ hk=>h.block k (Array.getElem?_eq_some_iff.1 hk).1⟩
noncomputable def addF (xs:List (List S74))(y:List S74):List (List S74):=if inF y xs=true then xs else xs ++ [y]
theorem add_end (w0 W W3 w4:World)(gs:Nat)(xs:List (List S74))(y:List S74)(v v4:Value)(hin:inF y xs=false)(hgs:w0.heap.size<=gs)(hW0:w0.heap.size<=W.heap.size)(hb0:Below w0.heap.size w0 W)(hb3:Below W.heap.size W W3)(hh3:Held w0 W3 v xs)(hg4:W3.grownBy w4 v.ownBlock)(hv3:Boxed W3 gs 68 v)(hv4:Boxed w4 gs 68 v)(hh4:Held w0 w4 v4 (xs ++ [y])):
  SetAt w0 (w4.setCell ⟨gs,0,none⟩ v4) gs (addF xs y)∧Kept45 W (w4.setCell ⟨gs,0,none⟩ v4):=by
 obtain ⟨inner3,ho3,_⟩:=hh3;have h3:Below w0.heap.size w0 W3:=hb0.trans (hb3.mono hW0);have h4:Below w0.heap.size w0 w4:=h3.grown hg4 h3.size fun k hk=>gr_ ho3 k hk;rw [show addF xs y=xs ++ [y] from if_neg (by rw [hin];decide)];refine ⟨⟨⟨_,hv4.set v4,hh4.kept fun k hk=>?_⟩,h4.setCell (p:=⟨gs,0,none⟩) hgs _,hgs⟩,?_,fun k cells t ht1 ht2 hk=>?_⟩
 ·obtain ⟨inner4,ho4,_⟩:=hh4;refine Below.heap_setCell w4 ⟨gs,0,none⟩ v4 k fun e=>?_;exact hv4.not_row (by decide) ho4 (by rw [hk];exact congrArg some e.symm)
 ·exact Nat.le_trans hb3.size (Nat.le_trans hg4.size (by simp))
 ·have hlt:k<W.heap.size:=(Array.getElem?_eq_some_iff.1 hk).1;have e3:W3.heap[k]? =W.heap[k]? :=hb3.block k hlt;have hk3:W3.heap[k]? =some (Obj.cells cells t (0,0)):=e3.trans hk;have e4:w4.heap[k]? =W3.heap[k]? :=hg4.block k (Array.getElem?_eq_some_iff.1 hk3).1 fun e=>by
   obtain ⟨cs,hc⟩:=fn_ ho3 k e.symm;rw [hk3] at hc;injection hc with hc;injection hc with _ hc;exact ht1 hc
  have hne:k≠gs:=fun e=>by
   rw [e] at hk3;have:=hv3.symm.trans hk3;injection this with this;injection this with _ this;exact ht2 this.symm
  exact ((Below.heap_setCell w4 ⟨gs,0,none⟩ v4 k hne).trans e4).trans e3
theorem add_calls (w0 W:World)(gs:Nat)(xs:List (List S74))(h:SetAt w0 W gs xs)(hxl:xs.length<=1000000)(y:List S74)(By:Option Addr)(cy:Nat)(hy:Kd.C k74 w0 By y.length y)(hcy:y.length<=cy)(hly:y.length<=3000000):
  Calls Tryz.prog 73 #[.pointer (some ⟨gs,0,none⟩),.slice By y.length cy] W fun e W1=>e=.returned (.tuple #[])∧SetAt w0 W1 gs (addF xs y)∧Kept45 W W1:=by
 obtain ⟨A,c,hv,hh,hl,hr⟩:=h.boxed;have hb0:Below w0.heap.size w0 W:=h.2.1;have hgs:w0.heap.size<=gs:=h.2.2;have hW0:w0.heap.size<=W.heap.size:=hb0.size;obtain ⟨W1,hW1⟩: ∃ W_,W_=W.alloc (.cells #[.slice By y.length cy] 37):=⟨_,rfl⟩;have hbW:Below W.heap.size W W1:=by rw [hW1];exact ab_ (Below.refl W.heap.size W) _
 have hbx:W1.heap[W.heap.size]? =some (.cells #[.slice By y.length cy] 37 (0,0)):=by rw [hW1];exact aj_ _ _
 have hv1:Boxed W1 gs 68 (.slice A xs.length c):=by rw [hW1];exact hv.alloc _
 have hcell:(W.alloc (.cells #[.slice By y.length cy] 37)).cell? ⟨gs,0,none⟩=some (.slice A xs.length c):=by rw [←hW1];exact hv1.cell
 obtain ⟨b,hb⟩: ∃ b,inF y xs=b:=⟨_,rfl⟩;have hs:=me_ y W.heap.size By cy A c xs W1 (Kd.C_below hr hbW) hl (Kd.C_below (Kd.C_below hy hb0) hbW) hcy hly hbx b hb;have HS:=Sd.m hs;have HBX:=Sd.m hbx;have HV:=Sd.m hv1;have HBW:=Sd.m hbW;have HH:=Sd.m hh;have HB0:=Sd.m hb0;have HIN:=Sd.m hb;have HY:=Sd.m hy;have HH0:=Sd.m h;clear hs hbx hr hv1 hbW hh hb0 hb h hy;go_enter Tryz.func73,Tryz.ntmps73;go_wp2_with fail;rw [←hW1];clear hW1 hcell;refine HS.out.mono ?_;rintro e W2 ⟨rfl,hb2⟩;have hb12:Below W.heap.size W W2:=HBW.out.trans (hb2.mono HBW.out.size);have hv2:Boxed W2 gs 68 (.slice A xs.length c):=(hb2.block gs HV.out.lt).trans HV.out;have hc2:=hv2.cell;have hf2:=hv2.frozen;have hn2:Boxed W2 W.heap.size 37 (.slice By y.length cy):=(hb2.block _ (Boxed.lt HBX.out)).trans HBX.out;have hcn:=hn2.cell;have HB12:=Sd.m hb12;have HV2:=Sd.m hv2;have HN2:=Sd.m hn2;have hh2:Held w0 W2 (.slice A xs.length c) xs:=HH.out.kept fun k hk=>by
  obtain ⟨inner,ho,_⟩:=HH.out;exact hb12.block k (own_lt ho k hk)
 have HH2:=Sd.m hh2;clear hh2 hb12 hv2 hn2 hb2;cases b with
 | true=>
  go_wp2_with fail;refine Great.bodyPost_end0 rfl rfl ?_;exact ⟨rfl,by rw [show addF xs y=xs from if_pos HIN.out];exact ⟨⟨_,HV2.out,HH2.out⟩,HB0.out.trans (HB12.out.mono hW0),hgs⟩,eu_ HB12.out⟩
 | false=>
  have hmx:Tryz.prog.follows .mixedOrders=true:=by kernel_rfl
  go_wp2_with fail;obtain ⟨W3,hW3⟩: ∃ W_,W_=(W2.alloc (.cells #[.slice By y.length cy] 37)).drew:=⟨_,rfl⟩;have hb3:Below W.heap.size W W3:=by
   rw [hW3];have q:=ab_ HB12.out (.cells #[.slice By y.length cy] 37);exact ⟨q.os,q.tape,q.output,q.size,q.block⟩
  have hh3:Held w0 W3 (.slice A xs.length c) xs:=HH.out.kept fun k hk=>by
   obtain ⟨inner,ho,_⟩:=HH.out;exact hb3.block k (own_lt ho k hk)
  have hv3:Boxed W3 gs 68 (.slice A xs.length c):=(hb3.block gs hv.lt).trans hv;have hnew:W3.cell? ⟨W2.heap.size,0,none⟩=some (.slice By y.length cy):=by rw [hW3];exact (Boxed.new W2 37 _).cell
  obtain ⟨A4,c4,w4,hrun,hh4,hg4⟩:=held_app hh3 y By cy HY.out hcy _ hnew (Nat.le_trans hW0 hb3.size) hxl;have hne:some gs≠(Value.slice A xs.length c).ownBlock:=by
   obtain ⟨inner,ho,_⟩:=hh3;exact hv3.not_row (by decide) ho
  have hv4:=hv3.kept hg4 hne;have hc4:=hv4.cell;have hf4:=hv4.frozen;have hc3:=hv3.cell;rw [hW3] at hrun hc3;have HG4:=Sd.m hg4;have HB3:=Sd.m hb3;have HV4:=Sd.m hv4;have HH3:=Sd.m hh3;have HV3:=Sd.m hv3;have HH4:=Sd.m hh4;clear hW3 hg4 hv4 hh4 hb3 hh3 hv3 hnew
  go_region_law (refine cw_ rfl (.tmp 13) (.tmp 15) 68 rfl _ _ rfl rfl hrun ?_)
  all_goals
   refine Great.bodyPost_end0 rfl rfl ?_;exact ⟨rfl,add_end w0 W W3 w4 gs xs y _ _ HIN.out hgs hW0 HB0.out HB3.out HH3.out HG4.out HV3.out HV4.out HH4.out⟩
noncomputable def formF (p:S45)(xs:List (List S74)):List (List S74):=
 p.f3.attach.foldl (fun a q=>formF q.1 a) (if p.f0=2 then addF xs p.f1 else xs)
termination_by SizeOf.sizeOf p
decreasing_by
 obtain ⟨q,hq⟩:=q;have:=List.sizeOf_lt_of_mem hq;cases p;simp at*;omega
theorem ek_ (p:S45)(xs:List (List S74)):formF p xs=p.f3.foldl (fun a q=>formF q a) (if p.f0=2 then addF xs p.f1 else xs):=by
 rw [formF];exact List.foldl_attach (l:=p.f3) (f:=fun a q=>formF q a)
def nodes (p:S45):Nat:=1+(p.f3.attach.map fun q=>nodes q.1).sum
termination_by SizeOf.sizeOf p
decreasing_by
 obtain ⟨q,hq⟩:=q;have:=List.sizeOf_lt_of_mem hq;cases p;simp at*;omega
theorem fa_ (p:S45):nodes p=1+(p.f3.map nodes).sum:=by
 rw [nodes,List.attach_map_val (l:=p.f3) (f:=nodes)]
inductive Wide:S45->Prop
 | mk (p:S45) (h:p.f1.length<=3000000) (hs: ∀ q∈p.f3,Wide q):Wide p
theorem SetAt.step {w0 W W1:World}{gs:Nat}{xs:List (List S74)}(h:SetAt w0 W gs xs)(hb:Below W.heap.size W W1):SetAt w0 W1 gs xs:=by
 obtain ⟨⟨v,hv,hh⟩,hb0,hgs⟩:=h;refine ⟨⟨v,(hb.block gs hv.lt).trans hv,hh.kept fun k hk=>?_⟩,hb0.trans (hb.mono hb0.size),hgs⟩;obtain ⟨inner,ho,_⟩:=hh;exact hb.block k (own_lt ho k hk)
theorem Kept45.trans {W W1 W2:World}(h:Kept45 W W1)(h2:Kept45 W1 W2):Kept45 W W2:=
 ⟨Nat.le_trans h.1 h2.1,fun k cells t h1 h3 hk=>(h2.2 k cells t h1 h3 ((h.2 k cells t h1 h3 hk).trans hk)).trans (h.2 k cells t h1 h3 hk)⟩
theorem addF_len (xs:List (List S74))(y:List S74):(addF xs y).length<=xs.length+1:=by
 unfold addF;by_cases h:inF y xs=true
 ·rw [if_pos h];omega
 ·rw [if_neg h];simp
theorem gk_ (p:S45): ∀ xs:List (List S74),(formF p xs).length<=xs.length+nodes p:=by
 intro xs;rw [ek_,fa_];have key: ∀ (l:List S45),(∀ q∈l,q∈p.f3)-> ∀ a:List (List S74),(l.foldl (fun a q=>formF q a) a).length<=a.length+(l.map nodes).sum:=by
  intro l
  induction l with
  | nil=>intro _ a;simp
  | cons q l ih=>
   intro hl a;rw [List.foldl_cons,List.map_cons,List.sum_cons];have h1:=ih (fun r hr=>hl r (List.mem_cons_of_mem _ hr)) (formF q a);have h2:=gk_ q a;omega
 have h1:=key p.f3 (fun _ h=>h) (if p.f0=2 then addF xs p.f1 else xs);by_cases h:p.f0=2
 ·rw [if_pos h] at h1 ⊢;have:=addF_len xs p.f1;omega
 ·rw [if_neg h] at h1 ⊢;omega
termination_by SizeOf.sizeOf p
decreasing_by
 have:=List.sizeOf_lt_of_mem (hl q (List.mem_cons_self ..));cases p;simp at*;omega
theorem fold_room (l:List S45)(j:Nat)(q:S45)(h:l[j]? =some q)(xs:List (List S74)):((l.take j).foldl (fun a q=>formF q a) xs).length+nodes q<=xs.length+(l.map nodes).sum:=by
 induction l generalizing j xs with
 | nil=>simp at h
 | cons r l ih=>
  cases j with
  | zero=>
   simp at h;subst h;simp
  | succ j=>
   have h1:=ih j (by simpa using h) (formF r xs);have h2:=gk_ r xs;rw [List.take_succ_cons,List.foldl_cons,List.map_cons,List.sum_cons];omega
def FoO (w0 W:World)(gs:Nat)(p:S45)(xs:List (List S74))(u:Value)(W1:World):Prop:= ∃ j:Nat,j<=p.f3.length∧u=.int .i64 j∧SetAt w0 W1 gs ((p.f3.take j).foldl (fun a q=>formF q a) xs)∧Kept45 W W1
theorem form_no (w0 W:World)(gs:Nat)(p:S45)(xs:List (List S74))(h:SetAt w0 W gs xs)(A1:Option Addr)(c1:Nat)(A2:Option Addr)(c2:Nat)(A3:Option Addr)(c3:Nat)
  (l3:p.f3.length<=c3) (g3:k45.C w0 A3 p.f3.length p.f3) (hw: ∀ q∈p.f3,Wide q) (hxl:xs.length+(p.f3.map nodes).sum<=1000000) (hp:p.f0≠2)
  (ih: ∀ q∈p.f3,∀ (W:World) (xs:List (List S74)),SetAt w0 W gs xs->xs.length+nodes q<=1000000->Wide q-> ∀ (B1:Option Addr) (d1:Nat) (B2:Option Addr) (d2:Nat) (B3:Option Addr) (d3:Nat),q.f1.length<=d1->k74.C w0 B1 q.f1.length q.f1->q.f3.length<=d3->k45.C w0 B3 q.f3.length q.f3->
   Calls Tryz.prog 42 #[.pointer (some ⟨gs,0,none⟩),.agg #[.int .i64 q.f0,.slice B1 q.f1.length d1,.slice B2 q.f2.length d2,.slice B3 q.f3.length d3]] W fun e W1=>e=.returned (.tuple #[])∧SetAt w0 W1 gs (formF q xs)∧Kept45 W W1):
  Calls Tryz.prog 42 #[.pointer (some ⟨gs,0,none⟩),.agg #[.int .i64 p.f0,.slice A1 p.f1.length c1,.slice A2 p.f2.length c2,.slice A3 p.f3.length c3]] W fun e W1=>e=.returned (.tuple #[])∧SetAt w0 W1 gs (formF p xs)∧Kept45 W W1:=by
 have HX:=Sd.m h;have HG:=Sd.m g3;have HWI:=Sd.m hw;have HI:=Sd.m ih;have HXL:=Sd.m hxl;have b1:(p.f0 == 2)=false:=by simpa using hp
 have HP:=Sd.m hp;have HM:p.f3.length<=9223372036854775807:=Kd.C_max g3;clear h g3 hw ih hxl hp;go_enter Tryz.func42,Tryz.ntmps42;go_wp2_with fail;go_loopw [16] (fun u W1=>FoO w0 W gs p xs u W1) (fun u _=>p.f3.length - (intOf u).toNat)
 case atStart=>exact ⟨0,Nat.zero_le _,rfl,SetAt.step HX.out (ab_ (Below.refl _ _) _),eu_ (ab_ (Below.refl _ _) _)⟩
 case round=>
  obtain ⟨j,hj,rfl,hS,hK⟩:=hrel;have HS:=Sd.m hS;have HK:=Sd.m hK;clear hS hK;by_cases hlt:j<p.f3.length
  ·have b1:decide ((j:Int)<(p.f3.length:Int))=true:=dt__ (by omega);have b2:decide (j<p.f3.length)=true:=dt__ hlt;have hq0:0<=(j:Int):=by omega
   have hq1:(j:Int)<(p.f3.length:Int):=by omega
   have w2:IntKind.i64.wrap ((j:Int)+1)=(j:Int)+1:=IntWalk.i64_in _ (by omega);obtain ⟨ad,B1,d1,B2,d2,B3,d3,rfl,k0,k1,k2,k3,m1,e1,m2,e2,m3,e3⟩:=ki_ HG.out (j:Int) (by omega) (by omega);rw [Int.toNat_natCast] at k0 k1 k2 k3;have hel:p.f3[j]? =some (cf_ p.f3 (j:Int)):=by
    unfold cf_;rw [Int.toNat_natCast,List.getD_eq_getElem?_getD,List.getElem?_eq_getElem hlt];rfl
   generalize cf_ p.f3 (j:Int)=q at k0 k1 k2 k3 m1 e1 m2 e2 m3 e3 hel;replace k0:=(HS.out.2.1.cell (bl__ w0 _ k0)).trans k0;replace k1:=(HS.out.2.1.cell (bl__ w0 _ k1)).trans k1;replace k2:=(HS.out.2.1.cell (bl__ w0 _ k2)).trans k2;replace k3:=(HS.out.2.1.cell (bl__ w0 _ k3)).trans k3;have hroom:=fold_room p.f3 j q hel xs;have HR:=Sd.m hroom;have HE:=Sd.m hel;have M1:=Sd.m m1;have M3:=Sd.m m3;have E1:=Sd.m e1;have E3:=Sd.m e3;clear hroom hel m1 m2 m3 e1 e2 e3;go_wp2_with fail;have hcall:=HI.out q (List.mem_of_getElem? HE.out) _ _ (SetAt.step HS.out (ab_ (Below.refl _ _) (.cells #[.int .i64 q.f0,.slice B1 q.f1.length d1,.slice B2 q.f2.length d2,.slice B3 q.f3.length d3] 45))) (by have:=HR.out;have:=HXL.out;omega) (HWI.out q (List.mem_of_getElem? HE.out)) B1 d1 B2 d2 B3 d3 M1.out E1.out M3.out E3.out;refine hcall.mono ?_;clear hcall;rintro e W1 ⟨rfl,hS1,hK1⟩;have HS1:=Sd.m hS1;have HK1:=Sd.m (HK.out.trans (Kept45.trans (eu_ (ab_ (Below.refl _ _) _)) hK1));clear hS1 hK1 k0 k1 k2 k3;go_wp2_with fail;go_roundw
   case rel=>
    refine ⟨j+1,hlt,by go_num,?_,HK1.out⟩;rw [List.take_add_one,HE.out,List.foldl_append];exact HS1.out
   case measure=>simp [intOf];omega
  ·have b1:decide ((j:Int)<(p.f3.length:Int))=false:=df__ (by omega);have b2:decide (j<p.f3.length)=false:=df__ hlt;go_wp2_with fail;refine Great.bodyPost_end0 rfl rfl ?_;have hS:=HS.out;rw [List.take_of_length_le (by omega)] at hS;exact ⟨rfl,by rw [ek_,if_neg HP.out];exact hS,HK.out⟩
theorem form_yes (w0 W:World)(gs:Nat)(p:S45)(xs:List (List S74))(h:SetAt w0 W gs xs)(A1:Option Addr)(c1:Nat)(A2:Option Addr)(c2:Nat)(A3:Option Addr)(c3:Nat)
  (l1:p.f1.length<=c1) (g1:k74.C w0 A1 p.f1.length p.f1) (h1:p.f1.length<=3000000) (l3:p.f3.length<=c3) (g3:k45.C w0 A3 p.f3.length p.f3) (hw: ∀ q∈p.f3,Wide q) (hxl:xs.length+1+(p.f3.map nodes).sum<=1000000) (hp:p.f0=2)
  (ih: ∀ q∈p.f3,∀ (W:World) (xs:List (List S74)),SetAt w0 W gs xs->xs.length+nodes q<=1000000->Wide q-> ∀ (B1:Option Addr) (d1:Nat) (B2:Option Addr) (d2:Nat) (B3:Option Addr) (d3:Nat),q.f1.length<=d1->k74.C w0 B1 q.f1.length q.f1->q.f3.length<=d3->k45.C w0 B3 q.f3.length q.f3->
   Calls Tryz.prog 42 #[.pointer (some ⟨gs,0,none⟩),.agg #[.int .i64 q.f0,.slice B1 q.f1.length d1,.slice B2 q.f2.length d2,.slice B3 q.f3.length d3]] W fun e W1=>e=.returned (.tuple #[])∧SetAt w0 W1 gs (formF q xs)∧Kept45 W W1):
  Calls Tryz.prog 42 #[.pointer (some ⟨gs,0,none⟩),.agg #[.int .i64 p.f0,.slice A1 p.f1.length c1,.slice A2 p.f2.length c2,.slice A3 p.f3.length c3]] W fun e W1=>e=.returned (.tuple #[])∧SetAt w0 W1 gs (formF p xs)∧Kept45 W W1:=by
 have HX:=Sd.m h;have HG:=Sd.m g3;have HWI:=Sd.m hw;have HI:=Sd.m ih;have HXL:=Sd.m hxl;have b1:(p.f0 == 2)=true:=by simpa using hp
 have HP:=Sd.m hp;have HM:p.f3.length<=9223372036854775807:=Kd.C_max g3;clear h g3 hw ih hxl hp;go_enter Tryz.func42,Tryz.ntmps42;have HG1:=Sd.m g1;have HL1:=Sd.m l1;have HH1:=Sd.m h1;clear g1 l1 h1;go_wp2_with fail;have hcall0:=add_calls w0 _ gs xs (SetAt.step HX.out (ab_ (Below.refl W.heap.size W) (.cells #[.int .i64 p.f0,.slice A1 p.f1.length c1,.slice A2 p.f2.length c2,.slice A3 p.f3.length c3] 45))) (by have:=HXL.out;omega) p.f1 A1 c1 HG1.out HL1.out HH1.out;refine hcall0.mono ?_;clear hcall0;rintro e Wn ⟨rfl,hSn,hKn⟩;have hbox:Wn.heap[W.heap.size]? =some (.cells #[.int .i64 p.f0,.slice A1 p.f1.length c1,.slice A2 p.f2.length c2,.slice A3 p.f3.length c3] 45 (0,0)):=(hKn.2 W.heap.size _ 45 (by decide) (by decide) (aj_ W _)).trans (aj_ W _);have hc3:=bc_ hbox 3 rfl;have HSN:=Sd.m hSn;have HKN:=Sd.m (Kept45.trans (eu_ (ab_ (Below.refl W.heap.size W) _)) hKn);have hxn:(addF xs p.f1).length+(p.f3.map nodes).sum<=1000000:=by have:=addF_len xs p.f1;have:=HXL.out;omega
 have HXN:=Sd.m hxn;clear hSn hKn hbox hxn;obtain ⟨ys,hys⟩: ∃ ys,ys=addF xs p.f1:=⟨_,rfl⟩;rw [←hys] at HSN HXN;have HYS:=Sd.m hys;clear hys;go_wp2_with fail;go_loopw [16] (fun u W1=>FoO w0 W gs p ys u W1) (fun u _=>p.f3.length - (intOf u).toNat)
 case atStart=>exact ⟨0,Nat.zero_le _,rfl,HSN.out,HKN.out⟩
 case round=>
  obtain ⟨j,hj,rfl,hS,hK⟩:=hrel;have HS:=Sd.m hS;have HK:=Sd.m hK;clear hS hK;by_cases hlt:j<p.f3.length
  ·have b1:decide ((j:Int)<(p.f3.length:Int))=true:=dt__ (by omega);have b2:decide (j<p.f3.length)=true:=dt__ hlt;have hq0:0<=(j:Int):=by omega
   have hq1:(j:Int)<(p.f3.length:Int):=by omega
   have w2:IntKind.i64.wrap ((j:Int)+1)=(j:Int)+1:=IntWalk.i64_in _ (by omega);obtain ⟨ad,B1,d1,B2,d2,B3,d3,rfl,k0,k1,k2,k3,m1,e1,m2,e2,m3,e3⟩:=ki_ HG.out (j:Int) (by omega) (by omega);rw [Int.toNat_natCast] at k0 k1 k2 k3;have hel:p.f3[j]? =some (cf_ p.f3 (j:Int)):=by
    unfold cf_;rw [Int.toNat_natCast,List.getD_eq_getElem?_getD,List.getElem?_eq_getElem hlt];rfl
   generalize cf_ p.f3 (j:Int)=q at k0 k1 k2 k3 m1 e1 m2 e2 m3 e3 hel;replace k0:=(HS.out.2.1.cell (bl__ w0 _ k0)).trans k0;replace k1:=(HS.out.2.1.cell (bl__ w0 _ k1)).trans k1;replace k2:=(HS.out.2.1.cell (bl__ w0 _ k2)).trans k2;replace k3:=(HS.out.2.1.cell (bl__ w0 _ k3)).trans k3;have hroom:=fold_room p.f3 j q hel ys;have HR:=Sd.m hroom;have HE:=Sd.m hel;have M1:=Sd.m m1;have M3:=Sd.m m3;have E1:=Sd.m e1;have E3:=Sd.m e3;clear hroom hel m1 m2 m3 e1 e2 e3;go_wp2_with fail;have hcall:=HI.out q (List.mem_of_getElem? HE.out) _ _ (SetAt.step HS.out (ab_ (Below.refl _ _) (.cells #[.int .i64 q.f0,.slice B1 q.f1.length d1,.slice B2 q.f2.length d2,.slice B3 q.f3.length d3] 45))) (by have:=HR.out;have:=HXN.out;omega) (HWI.out q (List.mem_of_getElem? HE.out)) B1 d1 B2 d2 B3 d3 M1.out E1.out M3.out E3.out;refine hcall.mono ?_;clear hcall;rintro e W1 ⟨rfl,hS1,hK1⟩;have HS1:=Sd.m hS1;have HK1:=Sd.m (HK.out.trans (Kept45.trans (eu_ (ab_ (Below.refl _ _) _)) hK1));clear hS1 hK1 k0 k1 k2 k3;go_wp2_with fail;go_roundw
   case rel=>
    refine ⟨j+1,hlt,by go_num,?_,HK1.out⟩;rw [List.take_add_one,HE.out,List.foldl_append];exact HS1.out
   case measure=>simp [intOf];omega
  ·have b1:decide ((j:Int)<(p.f3.length:Int))=false:=df__ (by omega);have b2:decide (j<p.f3.length)=false:=df__ hlt;go_wp2_with fail;refine Great.bodyPost_end0 rfl rfl ?_;have hS:=HS.out;rw [List.take_of_length_le (by omega)] at hS;exact ⟨rfl,by rw [ek_,if_pos HP.out,←HYS.out];exact hS,HK.out⟩
theorem fp_ (w0:World)(gs:Nat)(p:S45): ∀ (W:World) (xs:List (List S74)),SetAt w0 W gs xs->xs.length+nodes p<=1000000->Wide p-> ∀ (A1:Option Addr) (c1:Nat) (A2:Option Addr) (c2:Nat) (A3:Option Addr) (c3:Nat),p.f1.length<=c1->k74.C w0 A1 p.f1.length p.f1->p.f3.length<=c3->k45.C w0 A3 p.f3.length p.f3->
  Calls Tryz.prog 42 #[.pointer (some ⟨gs,0,none⟩),.agg #[.int .i64 p.f0,.slice A1 p.f1.length c1,.slice A2 p.f2.length c2,.slice A3 p.f3.length c3]] W fun e W1=>e=.returned (.tuple #[])∧SetAt w0 W1 gs (formF p xs)∧Kept45 W W1:=by
 intro W xs h hx hwd A1 c1 A2 c2 A3 c3 l1 g1 l3 g3;rw [fa_] at hx;obtain ⟨_,h1,hs⟩:=hwd;by_cases hp:p.f0=2
 ·exact form_yes w0 W gs p xs h A1 c1 A2 c2 A3 c3 l1 g1 h1 l3 g3 hs (by omega) hp fun q hq=>fp_ w0 gs q
 ·exact form_no w0 W gs p xs h A1 c1 A2 c2 A3 c3 l3 g3 hs (by omega) hp fun q hq=>fp_ w0 gs q
termination_by SizeOf.sizeOf p
decreasing_by
 all_goals
  have:=List.sizeOf_lt_of_mem hq;cases p;simp at*;omega
end L
namespace LX
open Shelf YthfceiincmkccaaGreatW.PrintWords.Kd A K L B
open Go.Proofs.YthfceiincmkccaaGreat.P (withinF hm_)
noncomputable def tellF (L:List (List S74))(p:S45):S45:=⟨p.f0,p.f1,if p.f0=2 then withinF L p.f1 else [],p.f3.attach.map fun q=>tellF L q.1⟩
termination_by SizeOf.sizeOf p
decreasing_by
 obtain ⟨q,hq⟩:=q;have:=List.sizeOf_lt_of_mem hq;cases p;simp at*;omega
theorem iy_ (L:List (List S74))(p:S45):tellF L p=⟨p.f0,p.f1,if p.f0=2 then withinF L p.f1 else [],p.f3.map (tellF L)⟩:=by
 rw [tellF];congr 1;exact List.attach_map_val (l:=p.f3) (f:=tellF L)
def TellAns (W:World)(P:Nat->Prop)(p:S45)(e:Ending)(w':World):Prop:= ∃ v,e=.returned v∧PatV w' (fun k=>P k∨W.heap.size<=k) v p∧Below W.heap.size W w'
structure TlAt (W Wm:World) (P:Nat->Prop) (a0 a1 a2:Value) (w:World) (u v:Value) (xs:List S45):Prop where
 N:Kd.N k45 45 w Wm.heap.size (fun k=>(P k∧k<W.heap.size)∨Wm.heap.size<=k) v xs
 B:Below W.heap.size W w
 sz:Wm.heap.size<=w.heap.size
 keep: ∀ k,k<Wm.heap.size->k≠W.heap.size+2->w.heap[k]? =Wm.heap[k]?
 t:w.heap[W.heap.size+2]? =some (.cells #[a0,a1,a2,u] 45 (0,0))
 lo:W.heap.size+3<=Wm.heap.size
section
variable {W Wm w w1:World} {P:Nat->Prop} {a0 a1 a2 u v:Value} {xs:List S45}
theorem TlAt.below (h:TlAt W Wm P a0 a1 a2 w u v xs)(hb:Below w.heap.size w w1):TlAt W Wm P a0 a1 a2 w1 u v xs:=
 ⟨N_below h.N hb,h.B.trans (hb.mono h.B.size),Nat.le_trans h.sz hb.size,fun k hk hn=>(hb.block k (Nat.lt_of_lt_of_le hk h.sz)).trans (h.keep k hk hn),ag_ h.t hb,h.lo⟩
theorem TlAt.F {α:Type}{d:Kd α}{ok:Nat->Prop}{A:Option Addr}{n:Nat}{ys:List α}(h:TlAt W Wm P a0 a1 a2 w u v xs)(hF:Kd.F d Wm ok A n ys)(hok: ∀ k,ok k->k≠W.heap.size+2):Kd.F d w ok A n ys:=
 F_step hF fun k hk hlt=>h.keep k hlt (hok k hk)
theorem TlAt.app {A:Option Addr}{c:Nat}(h:TlAt W Wm P a0 a1 a2 w u (.slice A xs.length c) xs)(y:S45)(B1:Option Addr)(m1:Nat)(okp:Nat->Prop)(hy:Kd.F k45 w okp B1 1 [y])(hokp: ∀ k,okp k->((P k∧k<W.heap.size)∨Wm.heap.size<=k)∧some k≠(Value.slice A xs.length c).ownBlock)(hl:(xs.length+1)*80<=140737488355328):
  ∃ C1 k1 w1,(Builtin.append_ #[43,43] 43 #[.slice A xs.length c,.slice B1 1 m1]).run Tryz.prog w=.ok (.slice C1 (xs ++ [y]).length k1) w1∧TlAt W Wm P a0 a1 a2 w1 u (.slice C1 (xs ++ [y]).length k1) (xs ++ [y]):=by
 obtain ⟨v1,w1,hrun,hN,hg,hat⟩:=es_ (P:=Tryz.prog) k45 (W:=w) Wm.heap.size 43 43 45 (.agg #[.int .i64 0,.slice none 0 0,.slice none 0 0,.slice none 0 0]) 80 Tryz.underlying43 (by kernel_rfl) rfl (by decide) (by decide) (.slice A xs.length c) xs [y] B1 1 m1 (fun k=>(P k∧k<W.heap.size)∨Wm.heap.size<=k) okp h.N hy hokp (fun k hk=>Or.inr (Nat.le_trans h.sz hk)) h.sz hl;obtain ⟨C1,k1,rfl⟩:=N_slice hN;have hbase:=fun k hk=>N_base h.N k hk;have hlo:=h.lo;refine ⟨C1,k1,w1,hrun,hN,h.B.grown hg h.B.size (fun k hk=>by have:=hbase k hk;omega),Nat.le_trans h.sz hg.size,fun k hk hn=>(hg.block k (Nat.lt_of_lt_of_le hk h.sz) (fun e=>by have:=hbase k e.symm;omega)).trans (h.keep k hk hn),?_,h.lo⟩;exact (hg.block _ (cc_ h.t) (fun e=>by have:=hbase _ e.symm;omega)).trans h.t
theorem TlAt.store (h:TlAt W Wm P a0 a1 a2 w u v xs):TlAt W Wm P a0 a1 a2 (w.setCell ⟨W.heap.size+2,3,none⟩ v) v v xs:=by
 have hlo:=h.lo;refine ⟨N_far (p:=⟨W.heap.size+2,3,none⟩) h.N (fun k hk=>by show k≠W.heap.size+2;omega) v,h.B.setCell (p:=⟨W.heap.size+2,3,none⟩) (by show W.heap.size<=W.heap.size+2;omega) _,by simpa [World.setCell] using h.sz,fun k hk hn=>(Below.heap_setCell w ⟨W.heap.size+2,3,none⟩ v k hn).trans (h.keep k hk hn),?_,h.lo⟩;simpa using eb_ h.t 3 v
end
def TlO (W Wm:World)(P:Nat->Prop)(a0 a1 a2:Value)(L:List (List S74))(l:List S45)(s:Value)(Wx:World):Prop:=
 ∃ (j:Nat) (A:Option Addr) (c:Nat),j<=l.length∧s=.int .i64 j∧TlAt W Wm P a0 a1 a2 Wx (.slice A ((l.take j).map (tellF L)).length c) (.slice A ((l.take j).map (tellF L)).length c) ((l.take j).map (tellF L))
theorem nodes_kid {l:List S45}{q:S45}(h:q∈l):nodes q<=(l.map nodes).sum:=by
 induction l with
 | nil=>cases h
 | cons a l ih=>
  rw [List.map_cons,List.sum_cons];rcases List.mem_cons.1 h with rfl | h
  ·omega
  ·have:=ih h;omega
theorem nodes_pos (q:S45):1<=nodes q:=by rw [fa_];omega
theorem nodes_len (l:List S45):l.length<=(l.map nodes).sum:=by
 induction l with
 | nil=>exact Nat.le_refl _
 | cons a l ih=>
  rw [List.map_cons,List.sum_cons,List.length_cons];have:=nodes_pos a;omega
open Go.Proofs.YthfceiincmkccaaGreat.P (withinF hm_)
inductive FitS:S45->Prop
 | mk (p:S45) (h1:p.f1.length<=1000000) (h2:p.f2.length<=1000000) (h3:p.f3.length<=1000000) (hs: ∀ q∈p.f3,FitS q):FitS p
theorem ints_refl (l:List Int)(hl:l.length<=1000000): ∃ k,aw_.f k l l=some true:=by
 have go: ∀ d i:Nat,i+d=l.length->Ev (fun k=>aw_.l0 k l l (i:Int)) true:=by
  intro d
  induction d with
  | zero=>exact fun i hi=>Ev.step (f:=fun _=>some true) (fun k=>by rw [aw_.l0,if_neg (by omega)]) (Ev.now _)
  | succ d ih=>exact fun i hi=>Ev.step (f:=fun k=>aw_.l0 k l l ((i:Int)+1)) (fun k=>by rw [aw_.l0,if_pos (by omega),if_pos (by omega),if_pos (by omega),if_pos rfl,P.w64 (n:=(i:Int)+1) (by omega) (by omega)]) (ih (i+1) (by omega))
 obtain ⟨k,hk⟩:=(go l.length 0 (by omega)).rounds;exact ⟨k,by unfold aw_.f;rw [if_pos rfl];exact hk⟩
theorem ints_same (l:List Int)(A:Option Addr)(c:Nat)(B:Option Addr)(d:Nat)(W:World)(hl:l.length<=1000000)(hA:Kd.C (Kd.int .i64) W A l.length l)(hc:l.length<=c)(hB:Kd.C (Kd.int .i64) W B l.length l)(hd:l.length<=d):
  Calls Tryz.prog 37 #[.slice A l.length c,.slice B l.length d] W fun e w'=>e=.returned (.bool true)∧Below W.heap.size W w':=by
 obtain ⟨k,hk⟩:=ints_refl l hl;refine (aw_.calls k A c l B d l true W hA hc hB hd hk).mono ?_;rintro e w' ⟨rfl,hdr⟩;exact ⟨rfl,hdr.below⟩
theorem ranges_same (l:List S74)(A:Option Addr)(c:Nat)(B:Option Addr)(d:Nat)(W:World)(hl:l.length<=1000000)(hA:Kd.C k74 W A l.length l)(hc:l.length<=c)(hB:Kd.C k74 W B l.length l)(hd:l.length<=d):
  Calls Tryz.prog 47 #[.slice A l.length c,.slice B l.length d] W fun e w'=>e=.returned (.bool true)∧Below W.heap.size W w':=by
 obtain ⟨k,hk⟩:=(P.rng_ev (x:=l) (y:=l) (by omega) true ⟨fun _=>rfl,fun _=>rfl⟩).1.rounds;refine (ao_.calls k A c l B d l true W hA hc hB hd hk).mono ?_;rintro e w' ⟨rfl,hdr⟩;exact ⟨rfl,hdr.below⟩
def SaO (W:World)(pa pb:Array Value)(n:Nat)(u:Value)(Wx:World):Prop:= ∃ j:Nat,j<=n∧u=.int .i64 j∧Below W.heap.size W Wx∧Wx.heap[W.heap.size]? =some (.cells pa 45 (0,0))∧Wx.heap[W.heap.size+1]? =some (.cells pb 45 (0,0))
theorem same_step (p:S45)(b1:p.f1.length<=1000000)(b2:p.f2.length<=1000000)(ih: ∀ q∈p.f3,∀ (W:World) (A1:Option Addr) (c1:Nat) (A2:Option Addr) (c2:Nat) (A3:Option Addr) (c3:Nat) (B1:Option Addr) (d1:Nat) (B2:Option Addr) (d2:Nat) (B3:Option Addr) (d3:Nat) (l1:q.f1.length<=c1) (h1:Kd.C k74 W A1 q.f1.length q.f1) (l2:q.f2.length<=c2) (h2:Kd.C (Kd.int .i64) W A2 q.f2.length q.f2) (l3:q.f3.length<=c3) (h3:Kd.C k45 W A3 q.f3.length q.f3) (m1:q.f1.length<=d1) (k1:Kd.C k74 W B1 q.f1.length q.f1) (m2:q.f2.length<=d2) (k2:Kd.C (Kd.int .i64) W B2 q.f2.length q.f2) (m3:q.f3.length<=d3) (k3:Kd.C k45 W B3 q.f3.length q.f3),Calls Tryz.prog 20 #[.agg #[.int .i64 q.f0,.slice A1 q.f1.length c1,.slice A2 q.f2.length c2,.slice A3 q.f3.length c3],.agg #[.int .i64 q.f0,.slice B1 q.f1.length d1,.slice B2 q.f2.length d2,.slice B3 q.f3.length d3]] W fun e w'=>e=.returned (.bool true)∧Below W.heap.size W w'): ∀ (W:World) (A1:Option Addr) (c1:Nat) (A2:Option Addr) (c2:Nat) (A3:Option Addr) (c3:Nat) (B1:Option Addr) (d1:Nat) (B2:Option Addr) (d2:Nat) (B3:Option Addr) (d3:Nat) (l1:p.f1.length<=c1) (h1:Kd.C k74 W A1 p.f1.length p.f1) (l2:p.f2.length<=c2) (h2:Kd.C (Kd.int .i64) W A2 p.f2.length p.f2) (l3:p.f3.length<=c3) (h3:Kd.C k45 W A3 p.f3.length p.f3) (m1:p.f1.length<=d1) (k1:Kd.C k74 W B1 p.f1.length p.f1) (m2:p.f2.length<=d2) (k2:Kd.C (Kd.int .i64) W B2 p.f2.length p.f2) (m3:p.f3.length<=d3) (k3:Kd.C k45 W B3 p.f3.length p.f3),Calls Tryz.prog 20 #[.agg #[.int .i64 p.f0,.slice A1 p.f1.length c1,.slice A2 p.f2.length c2,.slice A3 p.f3.length c3],.agg #[.int .i64 p.f0,.slice B1 p.f1.length d1,.slice B2 p.f2.length d2,.slice B3 p.f3.length d3]] W fun e w'=>e=.returned (.bool true)∧Below W.heap.size W w':=by
 intro W A1 c1 A2 c2 A3 c3 B1 d1 B2 d2 B3 d3 l1 h1 l2 h2 l3 h3 m1 k1 m2 k2 m3 k3;obtain ⟨W2,hW2⟩: ∃ W_,W_=(W.alloc (.cells #[.int .i64 p.f0,.slice A1 p.f1.length c1,.slice A2 p.f2.length c2,.slice A3 p.f3.length c3] 45)).alloc (.cells #[.int .i64 p.f0,.slice B1 p.f1.length d1,.slice B2 p.f2.length d2,.slice B3 p.f3.length d3] 45):=⟨_,rfl⟩;have ea:(W.alloc (.cells #[.int .i64 p.f0,.slice A1 p.f1.length c1,.slice A2 p.f2.length c2,.slice A3 p.f3.length c3] 45)).heap.size=W.heap.size+1:=Array.size_push _;have hb2:Below W.heap.size W W2:=by rw [hW2];exact ab_ (ab_ (Below.refl _ _) _) _
 have hx2:W2.heap[W.heap.size]? =some (.cells #[.int .i64 p.f0,.slice A1 p.f1.length c1,.slice A2 p.f2.length c2,.slice A3 p.f3.length c3] 45 (0,0)):=by rw [hW2];exact am_ (aj_ W _) _
 have hy2:W2.heap[W.heap.size+1]? =some (.cells #[.int .i64 p.f0,.slice B1 p.f1.length d1,.slice B2 p.f2.length d2,.slice B3 p.f3.length d3] 45 (0,0)):=by rw [hW2];exact ea ▸ aj_ (W.alloc (.cells #[.int .i64 p.f0,.slice A1 p.f1.length c1,.slice A2 p.f2.length c2,.slice A3 p.f3.length c3] 45)) _
 have HR:=Sd.m (ranges_same p.f1 A1 c1 B1 d1 W2 b1 (Kd.C_below h1 hb2) l1 (Kd.C_below k1 hb2) m1);have HI:Sd (∀ V,Below W.heap.size W V->_):=⟨fun V hV=>ints_same p.f2 A2 c2 B2 d2 V b2 (Kd.C_below h2 hV) l2 (Kd.C_below k2 hV) m2⟩;have HA:=Sd.m h3;have HB:=Sd.m k3;have HIH:=Sd.m ih;have HX2:=Sd.m hx2;have HY2:=Sd.m hy2;have HB2:=Sd.m hb2;have HW2:=Sd.m hW2;have HM:p.f3.length<=9223372036854775807:=Kd.C_max h3;clear ea hb2 hx2 hy2 hW2 h1 h2 h3 k1 k2 k3 ih;go_enter Tryz.func20,Tryz.ntmps20;go_wp2_with fail;rw [←HW2.out];refine HR.out.mono ?_;rintro e V ⟨rfl,hb⟩;have hx:=ag_ HX2.out hb;have hy:=ag_ HY2.out hb;have hbV:=HB2.out.trans (hb.mono HB2.out.size);have x2:V.cell? ⟨W.heap.size,2,none⟩=some (.slice A2 p.f2.length c2):=(af_ hx 2).trans rfl;have y2:V.cell? ⟨W.heap.size+1,2,none⟩=some (.slice B2 p.f2.length d2):=(af_ hy 2).trans rfl;have HXV:=Sd.m hx;have HYV:=Sd.m hy;have HBV:=Sd.m hbV;have HIV:=Sd.m (HI.out V hbV);clear hx hy hbV hb;go_wp2_with fail;refine HIV.out.mono ?_;rintro e V1 ⟨rfl,hb⟩;clear x2 y2;have hx:=ag_ HXV.out hb;have hy:=ag_ HYV.out hb;have x3:V1.cell? ⟨W.heap.size,3,none⟩=some (.slice A3 p.f3.length c3):=(af_ hx 3).trans rfl;have y3:V1.cell? ⟨W.heap.size+1,3,none⟩=some (.slice B3 p.f3.length d3):=(af_ hy 3).trans rfl;have H0:Sd (SaO W #[.int .i64 p.f0,.slice A1 p.f1.length c1,.slice A2 p.f2.length c2,.slice A3 p.f3.length c3] #[.int .i64 p.f0,.slice B1 p.f1.length d1,.slice B2 p.f2.length d2,.slice B3 p.f3.length d3] p.f3.length (.int .i64 0) V1):=⟨⟨0,Nat.zero_le _,rfl,HBV.out.trans (hb.mono HBV.out.size),hx,hy⟩⟩;clear hx hy hb;go_wp2_with fail;clear x3 y3;go_loopw [5] (fun u Wx=>SaO W #[.int .i64 p.f0,.slice A1 p.f1.length c1,.slice A2 p.f2.length c2,.slice A3 p.f3.length c3] #[.int .i64 p.f0,.slice B1 p.f1.length d1,.slice B2 p.f2.length d2,.slice B3 p.f3.length d3] p.f3.length u Wx) (fun u _=>p.f3.length - (intOf u).toNat)
 case atStart=>exact H0.out
 case round=>
  obtain ⟨j,hj,rfl,hb,hx,hy⟩:=hrel;have x3:wr.cell? ⟨W.heap.size,3,none⟩=some (.slice A3 p.f3.length c3):=(af_ hx 3).trans rfl;have y3:wr.cell? ⟨W.heap.size+1,3,none⟩=some (.slice B3 p.f3.length d3):=(af_ hy 3).trans rfl;by_cases hlt:j<p.f3.length
  ·have b1:decide ((j:Int)<(p.f3.length:Int))=true:=dt__ (by omega);have b2:decide (j<p.f3.length)=true:=dt__ hlt;have hq0:0<=(j:Int):=by omega
   have hq1:(j:Int)<(p.f3.length:Int):=by omega
   have w2:IntKind.i64.wrap ((j:Int)+1)=(j:Int)+1:=IntWalk.i64_in _ (by omega);obtain ⟨Vd,hVd⟩: ∃ W_,W_=wr.drew:=⟨_,rfl⟩;have hbd:Below wr.heap.size wr Vd:=by rw [hVd];exact ca_ (Below.refl _ _)
   have hbD:=hb.trans (hbd.mono hb.size);obtain ⟨aa,E1,e1,E2,e2,E3,e3,rfl,i0,i1,i2,i3,n1,o1,n2,o2,n3,o3⟩:=ki_ (Kd.C_below HA.out hbD) (j:Int) (by omega) (by omega);obtain ⟨ab,G1,g1,G2,g2,G3,g3,rfl,u0,u1,u2,u3,r1,s1,r2,s2,r3,s3⟩:=ki_ (Kd.C_below HB.out hbD) (j:Int) (by omega) (by omega);rw [Int.toNat_natCast] at i0 i1 i2 i3 u0 u1 u2 u3;have hmem:cf_ p.f3 (j:Int)∈p.f3:=by
    unfold cf_;rw [Int.toNat_natCast,List.getD_eq_getElem?_getD,List.getElem?_eq_getElem hlt];exact List.getElem_mem hlt
   generalize cf_ p.f3 (j:Int)=q at i0 i1 i2 i3 u0 u1 u2 u3 n1 o1 n2 o2 n3 o3 r1 s1 r2 s2 r3 s3 hmem;have HC:=Sd.m (HIH.out q hmem Vd E1 e1 E2 e2 E3 e3 G1 g1 G2 g2 G3 g3 n1 o1 n2 o2 n3 o3 r1 s1 r2 s2 r3 s3);have HS:Sd (∀ w',Below Vd.heap.size Vd w'->w'.cell? ⟨W.heap.size,3,none⟩=some (.slice (some aa) p.f3.length c3)∧w'.cell? ⟨W.heap.size+1,3,none⟩=some (.slice (some ab) p.f3.length d3)∧w'.cell? (aa.add (j*4))=some (.int .i64 q.f0)∧w'.cell? ⟨(aa.add (j*4)).block,(aa.add (j*4)).off+1,none⟩=some (.slice E1 q.f1.length e1)∧w'.cell? ⟨(aa.add (j*4)).block,(aa.add (j*4)).off+2,none⟩=some (.slice E2 q.f2.length e2)∧w'.cell? ⟨(aa.add (j*4)).block,(aa.add (j*4)).off+3,none⟩=some (.slice E3 q.f3.length e3)∧w'.cell? (ab.add (j*4))=some (.int .i64 q.f0)∧w'.cell? ⟨(ab.add (j*4)).block,(ab.add (j*4)).off+1,none⟩=some (.slice G1 q.f1.length g1)∧w'.cell? ⟨(ab.add (j*4)).block,(ab.add (j*4)).off+2,none⟩=some (.slice G2 q.f2.length g2)∧w'.cell? ⟨(ab.add (j*4)).block,(ab.add (j*4)).off+3,none⟩=some (.slice G3 q.f3.length g3)):=by
    refine ⟨fun w' hw=>?_⟩;have cw:=fun (a:Addr) (v:Value) (h:Vd.cell? a=some v)=>(hw.cell (bl__ Vd _ h)).trans h;have hq:=hbd.trans (hw.mono hbd.size);exact ⟨(af_ (ag_ hx hq) 3).trans rfl,(af_ (ag_ hy hq) 3).trans rfl,cw _ _ i0,cw _ _ i1,cw _ _ i2,cw _ _ i3,cw _ _ u0,cw _ _ u1,cw _ _ u2,cw _ _ u3⟩
   have HXD:=Sd.m (ag_ hx hbd);have HYD:=Sd.m (ag_ hy hbd);have HBD:=Sd.m hbD;clear hb hx hy hbd hbD i0 i1 i2 i3 u0 u1 u2 u3 n1 o1 n2 o2 n3 o3 r1 s1 r2 s2 r3 s3 hmem;go_upto_region 6 with fail;refine start_ (n:=12) (S:=fun w'=>w'.cell? ⟨W.heap.size,3,none⟩=some (.slice (some aa) p.f3.length c3)∧w'.cell? ⟨W.heap.size+1,3,none⟩=some (.slice (some ab) p.f3.length d3)∧w'.cell? (aa.add (j*4))=some (.int .i64 q.f0)∧w'.cell? ⟨(aa.add (j*4)).block,(aa.add (j*4)).off+1,none⟩=some (.slice E1 q.f1.length e1)∧w'.cell? ⟨(aa.add (j*4)).block,(aa.add (j*4)).off+2,none⟩=some (.slice E2 q.f2.length e2)∧w'.cell? ⟨(aa.add (j*4)).block,(aa.add (j*4)).off+3,none⟩=some (.slice E3 q.f3.length e3)∧w'.cell? (ab.add (j*4))=some (.int .i64 q.f0)∧w'.cell? ⟨(ab.add (j*4)).block,(ab.add (j*4)).off+1,none⟩=some (.slice G1 q.f1.length g1)∧w'.cell? ⟨(ab.add (j*4)).block,(ab.add (j*4)).off+2,none⟩=some (.slice G2 q.f2.length g2)∧w'.cell? ⟨(ab.add (j*4)).block,(ab.add (j*4)).off+3,none⟩=some (.slice G3 q.f3.length g3)) (ds:=[]) #[false,false,false,false,false,false,false,false,false,false,false,false] (by kernel_rfl) rfl rfl ⟨(by rw [←hVd];exact (HS.out _ (Below.refl _ _)).1),(by rw [←hVd];exact (HS.out _ (Below.refl _ _)).2.1),(by rw [←hVd];exact (HS.out _ (Below.refl _ _)).2.2.1),(by rw [←hVd];exact (HS.out _ (Below.refl _ _)).2.2.2.1),(by rw [←hVd];exact (HS.out _ (Below.refl _ _)).2.2.2.2.1),(by rw [←hVd];exact (HS.out _ (Below.refl _ _)).2.2.2.2.2.1),(by rw [←hVd];exact (HS.out _ (Below.refl _ _)).2.2.2.2.2.2.1),(by rw [←hVd];exact (HS.out _ (Below.refl _ _)).2.2.2.2.2.2.2.1),(by rw [←hVd];exact (HS.out _ (Below.refl _ _)).2.2.2.2.2.2.2.2.1),(by rw [←hVd];exact (HS.out _ (Below.refl _ _)).2.2.2.2.2.2.2.2.2)⟩ (fun hHeld=>?_);rw [←hVd] at hHeld ⊢;clear hVd;refine pure_ (i:=0) (N:=some 43) (v:=?_) (a':=?_) #[true,false,false,false,false,false,false,false,false,false,false,false] rfl rfl (by kernel_rfl) (fun _ _ _ h=>h) (Or.inl ⟨by rfl,?_⟩) ?_ ?_;rotate_left
   ·intro w';go_simp;with_reducible rfl
   rotate_left
   ·simp only [Act.put,List.setIfInBounds_toArray,List.set_cons_zero,List.set_cons_succ,cz_,db_];rfl
   refine pure_ (i:=2) (N:=some 45) (v:=?_) (a':=?_) #[true,false,true,false,false,false,false,false,false,false,false,false] rfl rfl (by kernel_rfl) (fun _ _ _ h=>h) (Or.inl ⟨by rfl,?_⟩) ?_ ?_;rotate_left
   ·intro w';go_simp;with_reducible rfl
   rotate_left
   ·simp only [Act.put,List.setIfInBounds_toArray,List.set_cons_zero,List.set_cons_succ,cz_,db_];rfl
   refine pure_ (i:=5) (N:=some 48) (v:=?_) (a':=?_) #[true,false,true,false,false,true,false,false,false,false,false,false] rfl rfl (by kernel_rfl) (fun _ _ _ h=>h) (Or.inl ⟨by rfl,?_⟩) ?_ ?_;rotate_left
   ·intro w';go_simp;with_reducible rfl
   rotate_left
   ·simp only [Act.put,List.setIfInBounds_toArray,List.set_cons_zero,List.set_cons_succ,cz_,db_];rfl
   refine pure_ (i:=7) (N:=some 50) (v:=?_) (a':=?_) #[true,false,true,false,false,true,false,true,false,false,false,false] rfl rfl (by kernel_rfl) (fun _ _ _ h=>h) (Or.inl ⟨by rfl,?_⟩) ?_ ?_;rotate_left
   ·intro w';go_simp;with_reducible rfl
   rotate_left
   ·simp only [Act.put,List.setIfInBounds_toArray,List.set_cons_zero,List.set_cons_succ,cz_,db_];rfl
   refine take_ (i:=1) (N:=some 44) (v:=?_) (a':=?_) #[true,true,true,false,false,true,false,true,false,false,false,false] rfl rfl (by kernel_rfl) (fun _ _ _ h=>h) (Or.inl ⟨by rfl,?_⟩) hHeld ?_ ?_;rotate_left
   ·rintro w' ⟨s0,s1,s2,s3,s4,s5,s6,s7,s8,s9⟩;go_simp;with_reducible rfl
   rotate_left
   ·simp only [Act.put,List.setIfInBounds_toArray,List.set_cons_zero,List.set_cons_succ,cz_,db_];rfl
   refine pure_ (i:=3) (N:=some 46) (v:=?_) (a':=?_) #[true,true,true,true,false,true,false,true,false,false,false,false] rfl rfl (by kernel_rfl) (fun _ _ _ h=>h) (Or.inl ⟨by rfl,?_⟩) ?_ ?_;rotate_left
   ·intro w';go_simp;with_reducible rfl
   rotate_left
   ·simp only [Act.put,List.setIfInBounds_toArray,List.set_cons_zero,List.set_cons_succ,cz_,db_];rfl
   refine take_ (i:=4) (N:=some 47) (v:=?_) (a':=?_) #[true,true,true,true,true,true,false,true,false,false,false,false] rfl rfl (by kernel_rfl) (fun _ _ _ h=>h) (Or.inl ⟨by rfl,?_⟩) hHeld ?_ ?_;rotate_left
   ·rintro w' ⟨s0,s1,s2,s3,s4,s5,s6,s7,s8,s9⟩;go_simp;with_reducible rfl
   rotate_left
   ·simp only [Act.put,List.setIfInBounds_toArray,List.set_cons_zero,List.set_cons_succ,cz_,db_];rfl
   refine take_ (i:=6) (N:=some 49) (v:=?_) (a':=?_) #[true,true,true,true,true,true,true,true,false,false,false,false] rfl rfl (by kernel_rfl) (fun _ _ _ h=>h) (Or.inl ⟨by rfl,?_⟩) hHeld ?_ ?_;rotate_left
   ·rintro w' ⟨s0,s1,s2,s3,s4,s5,s6,s7,s8,s9⟩;go_simp;with_reducible rfl
   rotate_left
   ·simp only [Act.put,List.setIfInBounds_toArray,List.set_cons_zero,List.set_cons_succ,cz_,db_];rfl
   refine pure_ (i:=8) (N:=some 51) (v:=?_) (a':=?_) #[true,true,true,true,true,true,true,true,true,false,false,false] rfl rfl (by kernel_rfl) (fun _ _ _ h=>h) (Or.inl ⟨by rfl,?_⟩) ?_ ?_;rotate_left
   ·intro w';go_simp;with_reducible rfl
   rotate_left
   ·simp only [Act.put,List.setIfInBounds_toArray,List.set_cons_zero,List.set_cons_succ,cz_,db_];rfl
   refine take_ (i:=9) (N:=some 52) (v:=?_) (a':=?_) #[true,true,true,true,true,true,true,true,true,true,false,false] rfl rfl (by kernel_rfl) (fun _ _ _ h=>h) (Or.inl ⟨by rfl,?_⟩) hHeld ?_ ?_;rotate_left
   ·rintro w' ⟨s0,s1,s2,s3,s4,s5,s6,s7,s8,s9⟩;go_simp;with_reducible rfl
   rotate_left
   ·simp only [Act.put,List.setIfInBounds_toArray,List.set_cons_zero,List.set_cons_succ,cz_,db_];rfl
   refine one_ (i:=10) (N:=some 53) #[true,true,true,true,true,true,true,true,true,true,true,false] rfl rfl (by kernel_rfl) (by decide) (fun K hK=>?_);refine goes_ Tryz.func20 (by kernel_rfl) rfl #[.agg #[.int .i64 q.f0,.slice E1 q.f1.length e1,.slice E2 q.f2.length e2,.slice E3 q.f3.length e3],.agg #[.int .i64 q.f0,.slice G1 q.f1.length g1,.slice G2 q.f2.length g2,.slice G3 q.f3.length g3]] (by rfl) rfl rfl (by simp only [List.map_toArray,List.map_cons,List.map_nil];rfl) ?_;(with_reducible refine (HC.out).mono ?_);rintro e_ V1 ⟨rfl,hb_⟩;refine ⟨_,rfl,?_⟩;have B1_:=Sd.m hb_;clear hb_;refine hK.out _ _ ⟨(HS.out _ B1_.out).1,(HS.out _ B1_.out).2.1,(HS.out _ B1_.out).2.2.1,(HS.out _ B1_.out).2.2.2.1,(HS.out _ B1_.out).2.2.2.2.1,(HS.out _ B1_.out).2.2.2.2.2.1,(HS.out _ B1_.out).2.2.2.2.2.2.1,(HS.out _ B1_.out).2.2.2.2.2.2.2.1,(HS.out _ B1_.out).2.2.2.2.2.2.2.2.1,(HS.out _ B1_.out).2.2.2.2.2.2.2.2.2⟩ (fun hHeld=>?_);clear hK K;refine norm_ (a':=?_) ?_ ?_;rotate_left
   ·show Act.put _ (some 53) _=_;simp only [Act.put,List.setIfInBounds_toArray,List.set_cons_zero,List.set_cons_succ,cz_,db_];rfl
   refine pure_ (i:=11) (N:=some 54) (v:=?_) (a':=?_) #[true,true,true,true,true,true,true,true,true,true,true,true] rfl rfl (by kernel_rfl) (fun _ _ _ h=>h) (Or.inl ⟨by rfl,?_⟩) ?_ ?_;rotate_left
   ·intro w';go_simp;with_reducible rfl
   rotate_left
   ·simp only [Act.put,List.setIfInBounds_toArray,List.set_cons_zero,List.set_cons_succ,cz_,db_];rfl
   refine done_ (by kernel_rfl) ?_;go_wp2_with fail;go_roundw
   case rel=>exact ⟨j+1,hlt,by go_num,HBD.out.trans (B1_.out.mono HBD.out.size),ag_ HXD.out B1_.out,ag_ HYD.out B1_.out⟩
   case measure=>simp [intOf];omega
  ·have b1:decide ((j:Int)<(p.f3.length:Int))=false:=df__ (by omega);have b2:decide (j<p.f3.length)=false:=df__ hlt;have HB:=Sd.m hb;clear hb hx hy;go_wp2_with fail;go_ret;exact ⟨rfl,HB.out⟩
theorem FitS.parts {p:S45}(h:FitS p):p.f1.length<=1000000∧p.f2.length<=1000000∧p.f3.length<=1000000∧ ∀ q∈p.f3,FitS q:=by
 cases h;exact ⟨by assumption,by assumption,by assumption,by assumption⟩
theorem same_refl (p:S45)(hp:FitS p): ∀ (W:World) (A1:Option Addr) (c1:Nat) (A2:Option Addr) (c2:Nat) (A3:Option Addr) (c3:Nat) (B1:Option Addr) (d1:Nat) (B2:Option Addr) (d2:Nat) (B3:Option Addr) (d3:Nat) (l1:p.f1.length<=c1) (h1:Kd.C k74 W A1 p.f1.length p.f1) (l2:p.f2.length<=c2) (h2:Kd.C (Kd.int .i64) W A2 p.f2.length p.f2) (l3:p.f3.length<=c3) (h3:Kd.C k45 W A3 p.f3.length p.f3) (m1:p.f1.length<=d1) (k1:Kd.C k74 W B1 p.f1.length p.f1) (m2:p.f2.length<=d2) (k2:Kd.C (Kd.int .i64) W B2 p.f2.length p.f2) (m3:p.f3.length<=d3) (k3:Kd.C k45 W B3 p.f3.length p.f3),Calls Tryz.prog 20 #[.agg #[.int .i64 p.f0,.slice A1 p.f1.length c1,.slice A2 p.f2.length c2,.slice A3 p.f3.length c3],.agg #[.int .i64 p.f0,.slice B1 p.f1.length d1,.slice B2 p.f2.length d2,.slice B3 p.f3.length d3]] W fun e w'=>e=.returned (.bool true)∧Below W.heap.size W w':=by
 have h1:=hp.parts.1;have h2:=hp.parts.2.1;have hs:=hp.parts.2.2.2;exact same_step p h1 h2 fun q hq=>same_refl q (hs q hq)
termination_by SizeOf.sizeOf p
decreasing_by
 have h5:=List.sizeOf_lt_of_mem hq;have h6:SizeOf.sizeOf p.f3<SizeOf.sizeOf p:=by
  cases p;simp;omega
 omega
end LX
namespace P
open A L
def Apart2 (r s:S74):Prop:=r.f1<s.f0∨s.f1<r.f0
noncomputable def disjB (xs:List S74):Bool:=@decide (xs.Pairwise Apart2) (Classical.propDecidable _)
theorem fg_ {xs:List S74}:disjB xs=true↔xs.Pairwise Apart2:=by unfold disjB;exact @decide_eq_true_iff _ (Classical.propDecidable _)
noncomputable def okF:Int->List (List S74)->Bool
 | _,[]=>true
 | last,a :: L=>rightF a && decide (last<firstF a) && okF (firstF a) L
noncomputable def rightAF (L:List (List S74)):Bool:=decide (0<L.length) && decide (L.length<=200) && okF (-1) L && disjB L.flatten && decide ((L.map sizeF).sum=1114112)
theorem cls_disj {sets L:List (List S74)}(h:Cls sets L):L.flatten.Pairwise Apart2:=by
 rw [List.pairwise_flatten];have valid: ∀ x∈L,∀ r∈x,0<=r.f0∧r.f0<=r.f1∧r.f1<1114112:=by
  intro x hx r hr;obtain ⟨P,e⟩:=h.canon hx;rw [e] at hr;exact (dd_ P).1.1 r hr
 constructor
 ·intro x hx;obtain ⟨P,e⟩:=h.canon hx;rw [e];exact (dd_ P).1.2.imp fun {a b} hab=>Or.inl (by omega)
 ·refine h.nodup.imp_of_mem fun {x y} hx hy hne r hr s hs=>?_;by_cases q:Apart2 r s
  ·exact q
  ·exfalso;unfold Apart2 at q;have v1:=valid x hx r hr;have v2:=valid y hy s hs;rcases Int.le_total r.f0 s.f0 with le | le
   ·have m1:=(h.mem_iff hx (c:=s.f0) (by omega) (by omega)).1 (mem_iff.2 ⟨r,hr,le,by omega⟩);have m2:=(h.mem_iff hy (c:=s.f0) (by omega) (by omega)).1 (mem_iff.2 ⟨s,hs,Int.le_refl _,v2.2.1⟩);exact hne (m1.trans m2.symm)
   ·have m1:=(h.mem_iff hx (c:=r.f0) (by omega) (by omega)).1 (mem_iff.2 ⟨r,hr,Int.le_refl _,v1.2.1⟩);have m2:=(h.mem_iff hy (c:=r.f0) (by omega) (by omega)).1 (mem_iff.2 ⟨s,hs,le,by omega⟩);exact hne (m1.trans m2.symm)
theorem cls_sizes {sets L:List (List S74)}(h:AtomsOf sets L)(hs:Short L):(L.map sizeF).sum=1114112:=by
 obtain ⟨T,hT,rfl,hc,hp⟩:=h;have key: ∀ n:Nat,n=1114112->(T.map fun t=>cnt (hasB (atF sets t)) n).sum=(n:Int):=by
  intro n hn;rw [←cnt_sig sets T hT n (by omega) (fun c h0 h1=>hc c h0 (by omega))];congr 1;refine List.map_congr_left fun t ht=>?_;have h4:=hs _ (List.mem_map.2 ⟨t,ht,rfl⟩);exact cnt_congr n (by omega) fun c h0 h1=>has_canon h4 h0 h1
 have k:=key 1114112 rfl;have e:(sizeF ∘ atF sets)=fun t=>cnt (hasB (atF sets t)) 1114112:=rfl;rw [List.map_map,e,k];rfl
theorem cls_ok {sets:List (List S74)}: ∀ {L:List (List S74)} {last:Int},(∀ x∈L,rightF x=true∧firstF x=lowR x)->L.Pairwise (fun x y=>lowR x<lowR y)->(∀ x∈L,last<lowR x)->okF last L=true
 | [],_,_,_,_=>rfl
 | x :: L,last,h,hp,hl=>by
  obtain ⟨h1,h2⟩:=List.pairwise_cons.1 hp;have hx:=h x (List.mem_cons_self ..);have hlx:=hl x (List.mem_cons_self ..);rw [okF,hx.1,hx.2,dt__ hlx,cls_ok (sets:=sets) (fun y hy=>h y (List.mem_cons_of_mem _ hy)) h2 h1];rfl
theorem cls_right {sets L:List (List S74)}(ha:AtomsOf sets L)(h:Cls sets L)(hs:Short L)(hl:L.length<=200):rightAF L=true:=by
 unfold rightAF;rw [dt__ h.pos,dt__ hl,fg_.2 (cls_disj h),dt__ (cls_sizes ha hs)];have hok:okF (-1) L=true:=by
  refine cls_ok (sets:=sets) (fun x hx=>⟨?_,(h.first hs hx).1⟩) h.up fun x hx=>?_
  ·obtain ⟨P,e⟩:=h.canon hx;have h4:=hs x hx;rw [e] at h4 ⊢;exact right_canon h4
  ·have:=(h.first hs hx);omega
 rw [hok];rfl
theorem rd3 {L:List (List S74)}{i:Nat}{x:List S74}(h:L[i]? =some x):dn_ L (i:Int)=x:=by
 unfold dn_;rw [Int.toNat_natCast,List.getD_eq_getElem?_getD,h];rfl
theorem cls_sig {sets:List (List S74)}{c d:Int}(h0:0<=c)(h1:c<=1114111)(h:clsF sets c=clsF sets d):sigF sets c=sigF sets d:=by
 have k:Mem (clsF sets c) c=decide (sigF sets c=sigF sets c):=mh_ h0 h1;have k2:Mem (clsF sets d) c=decide (sigF sets c=sigF sets d):=mh_ h0 h1;rw [dt__ rfl,h,k2] at k;exact of_decide_eq_true k
theorem of_good {l0:List (List S74)}(f:Few l0 (edgesOf l0))(h:badB l0=false):AtomsOf l0 (clsL l0)∧Cls l0 (clsL l0)∧Short (clsL l0)∧(clsL l0).length<=200:=⟨la_ f,gc_ f,clsL_short h,good_len h⟩
open K LX
theorem im_ (p:S45):nodes p<=mass p:=by
 rw [fa_,jw_];have key: ∀ l:List S45,(∀ q∈l,q∈p.f3)->(l.map nodes).sum<=(l.map mass).sum:=by
  intro l
  induction l with
  | nil=>exact fun _=>Nat.le_refl _
  | cons a l ih=>
   intro h;have hx:=h a (List.mem_cons_self ..);have:=im_ a;have:=ih fun q hq=>h q (List.mem_cons_of_mem _ hq);rw [List.map_cons,List.sum_cons,List.map_cons,List.sum_cons];omega
 have:=key p.f3 fun q hq=>hq;omega
termination_by SizeOf.sizeOf p
decreasing_by exact ku_ hx
theorem jf_ (p:S45)(h:mass p<=3000000):Wide p:=by
 rw [jw_] at h;exact ⟨p,by omega,fun q hq=>jf_ q (by have:=sum_mem hq;omega)⟩
termination_by SizeOf.sizeOf p
decreasing_by exact ku_ hq
theorem same_rows (L:List (List S74))(hl:L.length<=100000)(h: ∀ x∈L,(x.length:Int)<=9223372036854775806):Ev (fun k=>bg_.f k L L) true:=by
 unfold bg_.f;refine fq_ rfl ?_;have go: ∀ d i:Nat,i+d=L.length->Ev (fun k=>bg_.l0 k L L (i:Int)) true:=by
  intro d
  induction d with
  | zero=>
   intro i hi;exact Ev.step (f:=fun _=>some true) (fun k=>by rw [bg_.l0,if_neg (by omega)]) (Ev.now _)
  | succ d ih=>
   intro i hi;have hlt:i<L.length:=by omega
   have hg:L[i]? =some L[i]:=List.getElem?_eq_getElem hlt;have hn:=ih (i+1) (by omega);rw [show ((i+1:Nat):Int)=(i:Int)+1 from by omega] at hn;refine Ev.step (f:=fun k=>(ao_.f k L[i] L[i]).bind fun t118=>(if t118=true then (bg_.l0 k L L ((i:Int)+1)) else (some false))) (fun k=>by
    rw [bg_.l0,if_pos (by omega),if_pos (show (0:Int)<=(i:Int) by omega),if_pos (by omega),rd3 hg,w64 (n:=(i:Int)+1) (by omega) (by omega)]) ?_
   exact Ev.bind (rng_ev (h _ (List.getElem_mem hlt)) true (by simp)).1 (fq_ rfl hn)
 exact go L.length 0 (by omega)
theorem add_mem {xs:List (List S74)}{y x:List S74}(h:x∈addF xs y):x∈xs∨x=y:=by
 unfold addF at h;split at h
 ·exact Or.inl h
 ·rcases List.mem_append.1 h with h | h
  ·exact Or.inl h
  ·exact Or.inr (by simpa using h)
theorem ka_ (p:S45): ∀ xs:List (List S74),∀ x∈formF p xs,x∈xs∨x.length<=mass p:=by
 intro xs x hx;rw [ek_] at hx;have key: ∀ l:List S45,(∀ q∈l,q∈p.f3)-> ∀ a,x∈l.foldl (fun a q=>formF q a) a->x∈a∨x.length<=(l.map mass).sum:=by
  intro l
  induction l with
  | nil=>exact fun _ a h=>Or.inl h
  | cons q l ih=>
   intro h a ha;have hq:=h q (List.mem_cons_self ..);rw [List.map_cons,List.sum_cons];rcases ih (fun r hr=>h r (List.mem_cons_of_mem _ hr)) _ ha with h1 | h1
   ·rcases ka_ q a x h1 with h2 | h2
    ·exact Or.inl h2
    ·exact Or.inr (by omega)
   ·exact Or.inr (by omega)
 have hm:=jw_ p;rcases key p.f3 (fun q hq=>hq) _ hx with h | h
 ·split at h
  ·rcases add_mem h with h | rfl
   ·exact Or.inl h
   ·exact Or.inr (by omega)
  ·exact Or.inl h
 ·exact Or.inr (by omega)
termination_by SizeOf.sizeOf p
decreasing_by exact ku_ hq
end P
namespace L
open Shelf YthfceiincmkccaaGreatW.PrintWords.Kd A P K
noncomputable def ruleF (xs:List (List S74))(r:S55):List (List S74):=formF r.f3 (formF r.f2 xs)
noncomputable def bookF (xs:List (List S74))(b:S27):List (List S74):=b.f1.foldl ruleF xs
noncomputable def booksF (l:List S27):List (List S74):=l.foldl bookF []
def ruleN (r:S55):Nat:=nodes r.f2+nodes r.f3
def bookN (b:S27):Nat:=(b.f1.map ruleN).sum
theorem ruleF_len (xs:List (List S74))(r:S55):(ruleF xs r).length<=xs.length+ruleN r:=by
 unfold ruleF ruleN;have h1:=gk_ r.f3 (formF r.f2 xs);have h2:=gk_ r.f2 xs;omega
theorem fold_lenG {α:Type}(f:List (List S74)->α->List (List S74))(n:α->Nat)(hf: ∀ a q,(f a q).length<=a.length+n q)(l:List α)(xs:List (List S74)):(l.foldl f xs).length<=xs.length+(l.map n).sum:=by
 induction l generalizing xs with
 | nil=>simp
 | cons r l ih=>
  have h1:=ih (f xs r);have h2:=hf xs r;rw [List.foldl_cons,List.map_cons,List.sum_cons];omega
theorem bookF_len (xs:List (List S74))(b:S27):(bookF xs b).length<=xs.length+bookN b:=fold_lenG ruleF ruleN ruleF_len b.f1 xs
theorem kx_ {α:Type}(f:List (List S74)->α->List (List S74))(n:α->Nat)(hf: ∀ a q,(f a q).length<=a.length+n q)(l:List α)(j:Nat)(q:α)(h:l[j]? =some q)(xs:List (List S74)):((l.take j).foldl f xs).length+n q<=xs.length+(l.map n).sum:=by
 induction l generalizing j xs with
 | nil=>simp at h
 | cons r l ih=>
  cases j with
  | zero=>
   simp at h;subst h;simp
  | succ j=>
   have h1:=ih j (by simpa using h) (f xs r);have h2:=hf xs r;rw [List.take_succ_cons,List.foldl_cons,List.map_cons,List.sum_cons];omega
def SoO (w:World)(l:List S27)(u:Value)(W1:World):Prop:= ∃ j:Nat,j<=l.length∧u=.int .i64 j∧SetAt w W1 w.heap.size ((l.take j).foldl bookF [])
def SoI (w:World)(rs:List S55)(xs:List (List S74))(u:Value)(W1:World):Prop:= ∃ j:Nat,j<=rs.length∧u=.int .i64 j∧SetAt w W1 w.heap.size ((rs.take j).foldl ruleF xs)
theorem hr_ (l:List S27)(w:World)(A0:Option Addr)(c0:Nat)(hc0:l.length<=c0)(hl:Kd.C k27 w A0 l.length l)(hn:(l.map bookN).sum<=1000000)(hw: ∀ b∈l,∀ r∈b.f1,Wide r.f2∧Wide r.f3)
  (r0:List (List S74)) (r1:Int) (hof:ex_.f (booksF l)=some (r0,r1)):
  Calls Tryz.prog 11 #[.slice A0 l.length c0] w fun e w'=> ∃ v0_:Value,e=.returned (.tuple #[v0_,.int .i64 r1])∧Kd.N (Kd.slice 74 k74) 37 w' w.heap.size (fun k_=>w.heap.size<=k_) v0_ r0∧Below w.heap.size w w':=by
 obtain ⟨W1,hW1⟩: ∃ W_,W_=w.alloc (.cells #[.slice none 0 0] 68):=⟨_,rfl⟩;have hb1:Below w.heap.size w W1:=by rw [hW1];exact ab_ (Below.refl w.heap.size w) _
 have hS0:SetAt w W1 w.heap.size []:=by rw [hW1];exact ⟨⟨_,Boxed.new w 68 _,OwnRow.none_ _ _ _ _ _⟩,ab_ (Below.refl _ _) _,Nat.le_refl _⟩
 have HS0:=Sd.m hS0;have HL:=Sd.m hl;have HN:=Sd.m hn;have HWD:=Sd.m hw;have HOF:=Sd.m hof;have HM:l.length<=9223372036854775807:=Kd.C_max hl;clear hb1 hS0 hl hn hw hof;go_enter Tryz.func11,Tryz.ntmps11;go_wp2_with fail;rw [←hW1];clear hW1;go_loopw [11] (fun u Wx=>SoO w l u Wx) (fun u _=>l.length - (intOf u).toNat)
 case atStart=>exact ⟨0,Nat.zero_le _,rfl,HS0.out⟩
 case round=>
  obtain ⟨j,hj,rfl,hS⟩:=hrel;have HS:=Sd.m hS;clear hS;by_cases hlt:j<l.length
  ·have b1:decide ((j:Int)<(l.length:Int))=true:=dt__ (by omega);have b2:decide (j<l.length)=true:=dt__ hlt;have hq0:0<=(j:Int):=by omega
   have hq1:(j:Int)<(l.length:Int):=by omega
   have w2:IntKind.i64.wrap ((j:Int)+1)=(j:Int)+1:=IntWalk.i64_in _ (by omega);obtain ⟨ad,B0,d0,B1,d1,B2,d2,B3,d3,rfl,k0,k1,k2,k3,m0,e0,m1,e1,m2,e2,m3,e3⟩:=at_T27 HL.out (j:Int) (by omega) (by omega);rw [Int.toNat_natCast] at k0 k1 k2 k3;have hel:l[j]? =some (eh_ l (j:Int)):=by
    unfold eh_;rw [Int.toNat_natCast,List.getD_eq_getElem?_getD,List.getElem?_eq_getElem hlt];rfl
   generalize eh_ l (j:Int)=b at k0 k1 k2 k3 m0 e0 m1 e1 m2 e2 m3 e3 hel;replace k0:=(HS.out.2.1.cell (bl__ w _ k0)).trans k0;replace k1:=(HS.out.2.1.cell (bl__ w _ k1)).trans k1;replace k2:=(HS.out.2.1.cell (bl__ w _ k2)).trans k2;replace k3:=(HS.out.2.1.cell (bl__ w _ k3)).trans k3;have hroom:=kx_ bookF bookN bookF_len l j b hel [];have HR:=Sd.m hroom;have HE:=Sd.m hel;have M1:=Sd.m m1;have E1:=Sd.m e1;have HM1:b.f1.length<=9223372036854775807:=Kd.C_max e1;clear hroom hel m0 m1 m2 m3 e0 e1 e2 e3;have HSB:=Sd.m (SetAt.step HS.out (ab_ (Below.refl _ _) (.cells #[.slice B0 b.f0.length d0,.slice B1 b.f1.length d1,.slice B2 b.f2.length d2,.slice B3 b.f3.length d3] 27)));go_wp2_with fail;obtain ⟨xs,hxs⟩: ∃ xs,xs=(l.take j).foldl bookF []:=⟨_,rfl⟩;rw [←hxs] at HSB HR;have HXS:=Sd.m hxs;clear hxs k0 k1 k2 k3;generalize wr.alloc (.cells #[.slice B0 b.f0.length d0,.slice B1 b.f1.length d1,.slice B2 b.f2.length d2,.slice B3 b.f3.length d3] 27)=Wb at HSB ⊢;go_loopw [18] (fun u Wx=>SoI w b.f1 xs u Wx) (fun u _=>b.f1.length - (intOf u).toNat)
   case atStart=>exact ⟨0,Nat.zero_le _,rfl,HSB.out⟩
   case round=>
    obtain ⟨i,hi,rfl,hS⟩:=hrel;have HSI:=Sd.m hS;clear hS;by_cases hlti:i<b.f1.length
    ·have c1:decide ((i:Int)<(b.f1.length:Int))=true:=dt__ (by omega);have c2:decide (i<b.f1.length)=true:=dt__ hlti;have hp0:0<=(i:Int):=by omega
     have hp1:(i:Int)<(b.f1.length:Int):=by omega
     have w3:IntKind.i64.wrap ((i:Int)+1)=(i:Int)+1:=IntWalk.i64_in _ (by omega);obtain ⟨ar,A3,a3,A4,a4,A5,a5,A7,a7,A8,a8,A9,a9,rfl,k0,k1,k2,k3,k4,k5,k6,k7,k8,k9,k10,l3,g3,l4,g4,l5,g5,l7,g7,l8,g8,l9,g9⟩:=kh_ E1.out (i:Int) (by omega) (by omega);rw [Int.toNat_natCast] at k0 k1 k2 k3 k4 k5 k6 k7 k8 k9 k10;have hel:b.f1[i]? =some (cm_ b.f1 (i:Int)):=by
      unfold cm_;rw [Int.toNat_natCast,List.getD_eq_getElem?_getD,List.getElem?_eq_getElem hlti];rfl
     generalize cm_ b.f1 (i:Int)=r at k0 k1 k2 k3 k4 k5 k6 k7 k8 k9 k10 l3 g3 l4 g4 l5 g5 l7 g7 l8 g8 l9 g9 hel;have cw:=fun (p:Addr) (v:Value) (h:w.cell? p=some v)=>(HSI.out.2.1.cell (bl__ w _ h)).trans h;replace k0:=cw _ _ k0;replace k1:=cw _ _ k1;replace k2:=cw _ _ k2;replace k3:=cw _ _ k3;replace k4:=cw _ _ k4;replace k5:=cw _ _ k5;replace k6:=cw _ _ k6;replace k7:=cw _ _ k7;replace k8:=cw _ _ k8;replace k9:=cw _ _ k9;replace k10:=cw _ _ k10;have hroom:=kx_ ruleF ruleN ruleF_len b.f1 i r hel xs;have hrn:((b.f1.take i).foldl ruleF xs).length+(nodes r.f2+nodes r.f3)<=1000000:=by
      have h1:=HR.out;have h2:=HN.out;have h3:((b.f1.take i).foldl ruleF xs).length+(nodes r.f2+nodes r.f3)<=xs.length+bookN b:=hroom;have h4:xs.length+bookN b<=0+(l.map bookN).sum:=h1;omega
     have hwd:=HWD.out b (List.mem_of_getElem? HE.out) r (List.mem_of_getElem? hel);have HRN:=Sd.m hrn;have HEL:=Sd.m hel;have HWR:=Sd.m hwd;have G2:=Sd.m (And.intro l3 (And.intro g3 (And.intro l5 g5)));have G3:=Sd.m (And.intro l7 (And.intro g7 (And.intro l9 g9)));have hsb:=SetAt.step HSI.out (ab_ (Below.refl wr.heap.size wr) (.cells #[.int .i64 r.f0,.bool r.f1,.int .i64 r.f2.f0,.slice A3 r.f2.f1.length a3,.slice A4 r.f2.f2.length a4,.slice A5 r.f2.f3.length a5,.int .i64 r.f3.f0,.slice A7 r.f3.f1.length a7,.slice A8 r.f3.f2.length a8,.slice A9 r.f3.f3.length a9,.int .i64 r.f4] 55));have hform:=fp_ w w.heap.size r.f2 _ _ hsb (by omega) HWR.out.1 A3 a3 A4 a4 A5 a5 l3 g3 l5 g5;have HFM:=Sd.m hform;clear hsb hform l3 g3 l4 g4 l5 g5 l7 g7 l8 g8 l9 g9 hroom hrn hwd hel cw;go_wp2_with fail;refine HFM.out.mono ?_;rintro e V1 ⟨rfl,hS1,hK1⟩;have hbox:V1.heap[wr.heap.size]? =some (.cells #[.int .i64 r.f0,.bool r.f1,.int .i64 r.f2.f0,.slice A3 r.f2.f1.length a3,.slice A4 r.f2.f2.length a4,.slice A5 r.f2.f3.length a5,.int .i64 r.f3.f0,.slice A7 r.f3.f1.length a7,.slice A8 r.f3.f2.length a8,.slice A9 r.f3.f3.length a9,.int .i64 r.f4] 55 (0,0)):=(hK1.2 wr.heap.size _ 55 (by decide) (by decide) (aj_ wr _)).trans (aj_ wr _);have n6:=bc_ hbox 6 rfl;have n7:=bc_ hbox 7 rfl;have n8:=bc_ hbox 8 rfl;have n9:=bc_ hbox 9 rfl;have hx2:(formF r.f2 ((b.f1.take i).foldl ruleF xs)).length+nodes r.f3<=1000000:=by
      have h1:=gk_ r.f2 ((b.f1.take i).foldl ruleF xs);have h2:=HRN.out;omega
     have hform2:=fp_ w w.heap.size r.f3 _ _ hS1 hx2 HWR.out.2 A7 a7 A8 a8 A9 a9 G3.out.1 G3.out.2.1 G3.out.2.2.1 G3.out.2.2.2;have HF2:=Sd.m hform2;clear hform2 hx2 hS1 hK1 hbox k0 k1 k2 k3 k4 k5 k6 k7 k8 k9 k10;go_wp2_with fail;refine HF2.out.mono ?_;rintro e V2 ⟨rfl,hS2,hK2⟩;have HS2:=Sd.m hS2;clear hS2 hK2 n6 n7 n8 n9;go_wp2_with fail;go_roundw
     case rel=>
      refine ⟨i+1,hlti,by go_num,?_⟩;rw [List.take_add_one,HEL.out,List.foldl_append];exact HS2.out
     case measure=>simp [intOf];omega
    ·have c1:decide ((i:Int)<(b.f1.length:Int))=false:=df__ (by omega);have c2:decide (i<b.f1.length)=false:=df__ (by omega);go_wp2_with fail;go_roundw
     case rel=>
      refine ⟨j+1,hlt,by go_num,?_⟩;rw [List.take_add_one,HE.out,List.foldl_append,←HXS.out];have h:=HSI.out;rw [List.take_of_length_le (by omega)] at h;exact h
     case measure=>simp [intOf];omega
  ·have b1:decide ((j:Int)<(l.length:Int))=false:=df__ (by omega);have b2:decide (j<l.length)=false:=df__ hlt;have hS:=HS.out;rw [List.take_of_length_le (by omega)] at hS;obtain ⟨A,c,hv,hh,hll,hr⟩:=hS.boxed;have hcell:=hv.cell;have HB:=Sd.m hS.2.1;have HAT:=Sd.m (ex_.calls A c (booksF l) r0 r1 wr hr hll HOF.out);have hA:(List.foldl bookF [] l)=booksF l:=rfl;rw [hA] at hcell;clear hS hv hh hll hr hA;go_wp2_with fail;refine HAT.out.mono ?_;rintro e V ⟨v,rfl,hN,hb⟩;obtain ⟨An,cn,rfl⟩:=N_slice hN;have HNN:=Sd.m hN;have HBB:=Sd.m hb;clear hN hb hcell;go_wp2_with fail;go_ret2;exact ⟨_,rfl,N_mono (N_lower HNN.out HB.out.size) (fun k hk=>Nat.le_trans HB.out.size hk),HB.out.trans (HBB.out.mono HB.out.size)⟩
theorem nw_step (p:S85)(ih: ∀ q∈p.f4,∀ (W:World) (A4:Option Addr) (c4:Nat) (l4:q.f4.length<=c4) (h4:Kd.C k85 W A4 q.f4.length q.f4) (d:Int),Calls Tryz.prog 72 #[.agg #[.int .i64 q.f0,.string q.f1,.int .i64 q.f2,.int .i64 q.f3,.slice A4 q.f4.length c4],.int .i64 d] W fun e w'=>(∃ z,e=.returned (.int .i64 z))∧Below W.heap.size W w'): ∀ (W:World) (A4:Option Addr) (c4:Nat) (l4:p.f4.length<=c4) (h4:Kd.C k85 W A4 p.f4.length p.f4) (d:Int),Calls Tryz.prog 72 #[.agg #[.int .i64 p.f0,.string p.f1,.int .i64 p.f2,.int .i64 p.f3,.slice A4 p.f4.length c4],.int .i64 d] W fun e w'=>(∃ z,e=.returned (.int .i64 z))∧Below W.heap.size W w':=by
 intro W A4 c4 l4 h4 d;obtain ⟨W2,hW2⟩: ∃ W_,W_=W.alloc (.cells #[.int .i64 p.f0,.string p.f1,.int .i64 p.f2,.int .i64 p.f3,.slice A4 p.f4.length c4] 85):=⟨_,rfl⟩;have hb2:Below W.heap.size W W2:=by rw [hW2];exact ab_ (Below.refl _ _) _
 have hx2:W2.heap[W.heap.size]? =some (.cells #[.int .i64 p.f0,.string p.f1,.int .i64 p.f2,.int .i64 p.f3,.slice A4 p.f4.length c4] 85 (0,0)):=by rw [hW2];exact aj_ W _
 have x1:=bc_ hx2 1 rfl;have HA:=Sd.m h4;have HIH:=Sd.m ih;have HX2:=Sd.m hx2;have HB2:=Sd.m hb2;have HW2:=Sd.m hW2;have HM:p.f4.length<=9223372036854775807:=Kd.C_max h4;clear hb2 hx2 hW2 h4 ih;go_enter Tryz.func72,Tryz.ntmps72;by_cases hd:d>100
 ·have d1:decide (d>100)=true:=dt__ hd;have d2:decide (100<d)=true:=dt__ hd;clear hd;go_wp2_with fail;rw [←HW2.out];go_ret;exact ⟨⟨_,rfl⟩,HB2.out⟩
 have d1:decide (d>100)=false:=df__ hd;have d2:decide (100<d)=false:=df__ hd;clear hd;go_wp2_with fail;rw [←HW2.out];clear x1;generalize hs0:IntKind.i64.wrap (1+(p.f1.size:Int))=s0;clear hs0;go_loopw [5,6] (fun s u Wx=>(∃ z,s=.int .i64 z)∧ ∃ j:Nat,j<=p.f4.length∧u=.int .i64 j∧Below W.heap.size W Wx∧Wx.heap[W.heap.size]? =some (.cells #[.int .i64 p.f0,.string p.f1,.int .i64 p.f2,.int .i64 p.f3,.slice A4 p.f4.length c4] 85 (0,0))) (fun _ u _=>p.f4.length - (intOf u).toNat)
 case atStart=>exact ⟨⟨_,rfl⟩,0,Nat.zero_le _,rfl,HB2.out,HX2.out⟩
 case round=>
  obtain ⟨⟨s,rfl⟩,j,hj,rfl,hb,hx⟩:=hrel;have x4:=bc_ hx 4 rfl;by_cases hlt:j<p.f4.length
  ·have b1:decide ((j:Int)<(p.f4.length:Int))=true:=dt__ (by omega);have b2:decide (j<p.f4.length)=true:=dt__ hlt;by_cases hs:s<=2000
   ·have s1:decide (s<=2000)=true:=dt__ hs;have hq0:0<=(j:Int):=by omega
    have hq1:(j:Int)<(p.f4.length:Int):=by omega
    have w2:IntKind.i64.wrap ((j:Int)+1)=(j:Int)+1:=IntWalk.i64_in _ (by omega);obtain ⟨aa,E4,e4,rfl,i0,i1,i2,i3,i4,n4,o4⟩:=at_T85 (Kd.C_below HA.out hb) (j:Int) (by omega) (by omega);rw [Int.toNat_natCast] at i0 i1 i2 i3 i4;have hmem:by_ p.f4 (j:Int)∈p.f4:=by
     unfold by_;rw [Int.toNat_natCast,List.getD_eq_getElem?_getD,List.getElem?_eq_getElem hlt];exact List.getElem_mem hlt
    generalize by_ p.f4 (j:Int)=q at i0 i1 i2 i3 i4 n4 o4 hmem;have HC:=Sd.m (HIH.out q hmem wr E4 e4 n4 o4);have HB:=Sd.m hb;have HX:=Sd.m hx;clear hb hx n4 o4 hmem hs;go_wp2_with fail;refine (HC.out _).mono ?_;rintro e V ⟨⟨z,rfl⟩,hb⟩;have HBV:=Sd.m (HB.out.trans (hb.mono HB.out.size));have HXV:=Sd.m (ag_ HX.out hb);clear hb i0 i1 i2 i3 i4 x4;go_wp2_with fail;go_roundw
    case rel=>exact ⟨⟨_,rfl⟩,j+1,hlt,by go_num,HBV.out,HXV.out⟩
    case measure=>simp [intOf];omega
   ·have s1:decide (s<=2000)=false:=df__ hs;have HB:=Sd.m hb;clear hb hx hs;go_wp2_with fail;go_ret;exact ⟨⟨_,rfl⟩,HB.out⟩
  ·have b1:decide ((j:Int)<(p.f4.length:Int))=false:=df__ (by omega);have b2:decide (j<p.f4.length)=false:=df__ hlt;have HB:=Sd.m hb;clear hb hx;go_wp2_with fail;go_ret;exact ⟨⟨_,rfl⟩,HB.out⟩
theorem ly_ (p:S85): ∀ (W:World) (A4:Option Addr) (c4:Nat) (l4:p.f4.length<=c4) (h4:Kd.C k85 W A4 p.f4.length p.f4) (d:Int),Calls Tryz.prog 72 #[.agg #[.int .i64 p.f0,.string p.f1,.int .i64 p.f2,.int .i64 p.f3,.slice A4 p.f4.length c4],.int .i64 d] W fun e w'=>(∃ z,e=.returned (.int .i64 z))∧Below W.heap.size W w':=nw_step p fun q hq=>ly_ q
termination_by SizeOf.sizeOf p
decreasing_by
 have:=List.sizeOf_lt_of_mem hq;cases p;simp at*;omega
theorem ig_calls (l:List S87)(m:Int)(W:World)(A:Option Addr)(c:Nat)(hc:l.length<=c)(hA:Kd.C k87 W A l.length l):Calls Tryz.prog 41 #[.slice A l.length c,.int .i64 m] W fun e w'=>(∃ b,e=.returned (.bool b))∧Below W.heap.size W w':=by
 have HM:l.length<=9223372036854775807:=Kd.C_max hA;have HA:=Sd.m hA;clear hA;go_enter Tryz.func41,Tryz.ntmps41;go_wp2_with fail;go_loopw [5,6] (fun s u Wx=>(∃ z,s=.int .i64 z)∧ ∃ j:Nat,j<=l.length∧u=.int .i64 j∧Below W.heap.size W Wx) (fun _ u _=>l.length - (intOf u).toNat)
 case atStart=>exact ⟨⟨_,rfl⟩,0,Nat.zero_le _,rfl,Below.refl _ _⟩
 case round=>
  obtain ⟨⟨s,rfl⟩,j,hj,rfl,hb⟩:=hrel;by_cases hlt:j<l.length
  ·have b1:decide ((j:Int)<(l.length:Int))=true:=dt__ (by omega);have b2:decide (j<l.length)=true:=dt__ hlt;by_cases hs:s<=m
   ·have s1:decide (s<=m)=true:=dt__ hs;have hq0:0<=(j:Int):=by omega
    have hq1:(j:Int)<(l.length:Int):=by omega
    have w2:IntKind.i64.wrap ((j:Int)+1)=(j:Int)+1:=IntWalk.i64_in _ (by omega);obtain ⟨Vd,hVd⟩: ∃ W_,W_=wr.drew:=⟨_,rfl⟩;have hbd:Below wr.heap.size wr Vd:=by rw [hVd];exact ca_ (Below.refl _ _)
    have hbD:=hb.trans (hbd.mono hb.size);obtain ⟨ad,E8,e8,E13,e13,rfl,i0,i1,i2,i3,i4,i5,i6,i7,i8,i9,i10,i11,i12,i13,i14,n8,o8,n13,o13⟩:=at_T87 (Kd.C_below HA.out hbD) (j:Int) (by omega) (by omega);rw [Int.toNat_natCast] at i1 i4 i5 i6 i7 i8 i9 i10 i11 i12 i13;generalize an_ l (j:Int)=x at*;have HN1:Sd (∀ V,Below Vd.heap.size Vd V->Calls Tryz.prog 72 #[.agg #[.int .i64 x.f4.f0,.string x.f4.f1,.int .i64 x.f4.f2,.int .i64 x.f4.f3,.slice E8 x.f4.f4.length e8],.int .i64 0] V fun e w'=>(∃ z,e=.returned (.int .i64 z))∧Below V.heap.size V w'):=⟨fun V hV=>ly_ x.f4 V E8 e8 n8 (Kd.C_below o8 hV) 0⟩;have HN2:Sd (∀ V,Below Vd.heap.size Vd V->Calls Tryz.prog 72 #[.agg #[.int .i64 x.f5.f0,.string x.f5.f1,.int .i64 x.f5.f2,.int .i64 x.f5.f3,.slice E13 x.f5.f4.length e13],.int .i64 0] V fun e w'=>(∃ z,e=.returned (.int .i64 z))∧Below V.heap.size V w'):=⟨fun V hV=>ly_ x.f5 V E13 e13 n13 (Kd.C_below o13 hV) 0⟩;have HS:Sd (∀ w',Below Vd.heap.size Vd w'->w'.cell? ⟨(ad.add (j*15)).block,(ad.add (j*15)).off+1,none⟩=some (.string x.f1)∧w'.cell? ⟨(ad.add (j*15)).block,(ad.add (j*15)).off+4,none⟩=some (.int .i64 x.f4.f0)∧w'.cell? ⟨(ad.add (j*15)).block,(ad.add (j*15)).off+5,none⟩=some (.string x.f4.f1)∧w'.cell? ⟨(ad.add (j*15)).block,(ad.add (j*15)).off+6,none⟩=some (.int .i64 x.f4.f2)∧w'.cell? ⟨(ad.add (j*15)).block,(ad.add (j*15)).off+7,none⟩=some (.int .i64 x.f4.f3)∧w'.cell? ⟨(ad.add (j*15)).block,(ad.add (j*15)).off+8,none⟩=some (.slice E8 x.f4.f4.length e8)∧w'.cell? ⟨(ad.add (j*15)).block,(ad.add (j*15)).off+9,none⟩=some (.int .i64 x.f5.f0)∧w'.cell? ⟨(ad.add (j*15)).block,(ad.add (j*15)).off+10,none⟩=some (.string x.f5.f1)∧w'.cell? ⟨(ad.add (j*15)).block,(ad.add (j*15)).off+11,none⟩=some (.int .i64 x.f5.f2)∧w'.cell? ⟨(ad.add (j*15)).block,(ad.add (j*15)).off+12,none⟩=some (.int .i64 x.f5.f3)∧w'.cell? ⟨(ad.add (j*15)).block,(ad.add (j*15)).off+13,none⟩=some (.slice E13 x.f5.f4.length e13)):=by
     refine ⟨fun w' hw=>?_⟩;have cw:=fun (a:Addr) (v:Value) (h:Vd.cell? a=some v)=>(hw.cell (bl__ Vd _ h)).trans h;exact ⟨cw _ _ i1,cw _ _ i4,cw _ _ i5,cw _ _ i6,cw _ _ i7,cw _ _ i8,cw _ _ i9,cw _ _ i10,cw _ _ i11,cw _ _ i12,cw _ _ i13⟩
    have BD:=Sd.m (Below.refl Vd.heap.size Vd);have HBD:=Sd.m hbD;clear hb hbd hbD i0 i1 i2 i3 i4 i5 i6 i7 i8 i9 i10 i11 i12 i13 i14 n8 o8 n13 o13 hs;go_upto_region 5 with fail;refine start_ (n:=23) (S:=fun w'=>w'.cell? ⟨(ad.add (j*15)).block,(ad.add (j*15)).off+1,none⟩=some (.string x.f1)∧w'.cell? ⟨(ad.add (j*15)).block,(ad.add (j*15)).off+4,none⟩=some (.int .i64 x.f4.f0)∧w'.cell? ⟨(ad.add (j*15)).block,(ad.add (j*15)).off+5,none⟩=some (.string x.f4.f1)∧w'.cell? ⟨(ad.add (j*15)).block,(ad.add (j*15)).off+6,none⟩=some (.int .i64 x.f4.f2)∧w'.cell? ⟨(ad.add (j*15)).block,(ad.add (j*15)).off+7,none⟩=some (.int .i64 x.f4.f3)∧w'.cell? ⟨(ad.add (j*15)).block,(ad.add (j*15)).off+8,none⟩=some (.slice E8 x.f4.f4.length e8)∧w'.cell? ⟨(ad.add (j*15)).block,(ad.add (j*15)).off+9,none⟩=some (.int .i64 x.f5.f0)∧w'.cell? ⟨(ad.add (j*15)).block,(ad.add (j*15)).off+10,none⟩=some (.string x.f5.f1)∧w'.cell? ⟨(ad.add (j*15)).block,(ad.add (j*15)).off+11,none⟩=some (.int .i64 x.f5.f2)∧w'.cell? ⟨(ad.add (j*15)).block,(ad.add (j*15)).off+12,none⟩=some (.int .i64 x.f5.f3)∧w'.cell? ⟨(ad.add (j*15)).block,(ad.add (j*15)).off+13,none⟩=some (.slice E13 x.f5.f4.length e13)) (ds:=[]) #[false,false,false,false,false,false,false,false,false,false,false,false,false,false,false,false,false,false,false,false,false,false,false] (by kernel_rfl) rfl rfl (by rw [←hVd];exact (HS.out _ (Below.refl _ _))) (fun hHeld=>?_);rw [←hVd] at hHeld ⊢;clear hVd;refine pu_ 0 20 ?_;refine pu_ 1 21 ?_;refine pu_ 2 22 ?_;refine pu_ 3 23 ?_;refine pu_ 4 24 ?_;refine pu_ 8 28 ?_;refine pu_ 9 29 ?_;refine pu_ 10 30 ?_;refine pu_ 11 31 ?_;refine pu_ 15 35 ?_;refine pu_ 16 36 ?_;refine pu_ 17 37 ?_;refine pu_ 18 38 ?_;refine ta_ 5 25 hHeld ?_;refine pu_ 6 26 ?_;refine pu_ 7 27 ?_;refine ta_ 12 32 hHeld ?_;refine ta_ 19 39 hHeld ?_;refine on_ 13 33 (fun K hK=>?_);refine goes_ Tryz.func72 (by kernel_rfl) rfl #[.agg #[.int .i64 x.f4.f0,.string x.f4.f1,.int .i64 x.f4.f2,.int .i64 x.f4.f3,.slice E8 x.f4.f4.length e8],.int .i64 0] (by rfl) rfl rfl (by simp only [List.map_toArray,List.map_cons,List.map_nil];rfl) ?_;(with_reducible refine (HN1.out Vd BD.out).mono ?_);rintro e_ U1 ⟨⟨z1,rfl⟩,hb_⟩;refine ⟨_,rfl,?_⟩;have BU1:=Sd.m (BD.out.trans ((hb_).mono BD.out.size));clear hb_;refine hK.out _ _ (HS.out _ BU1.out) (fun hHeld=>?_);clear hK K;refine no_ 33 ?_;refine pu_ 14 34 ?_;refine on_ 20 40 (fun K hK=>?_);refine goes_ Tryz.func72 (by kernel_rfl) rfl #[.agg #[.int .i64 x.f5.f0,.string x.f5.f1,.int .i64 x.f5.f2,.int .i64 x.f5.f3,.slice E13 x.f5.f4.length e13],.int .i64 0] (by rfl) rfl rfl (by simp only [List.map_toArray,List.map_cons,List.map_nil];rfl) ?_;(with_reducible refine (HN2.out U1 BU1.out).mono ?_);rintro e_ U2 ⟨⟨z2,rfl⟩,hb_⟩;refine ⟨_,rfl,?_⟩;have BU2:=Sd.m (BU1.out.trans ((hb_).mono BU1.out.size));clear hb_;refine hK.out _ _ (HS.out _ BU2.out) (fun hHeld=>?_);clear hK K;refine no_ 40 ?_;refine pu_ 21 41 ?_;refine pu_ 22 5 ?_;refine done_ (by kernel_rfl) ?_;go_wp2_with fail;go_roundw
    case rel=>exact ⟨⟨_,rfl⟩,j+1,hlt,by go_num,HBD.out.trans (BU2.out.mono HBD.out.size)⟩
    case measure=>simp [intOf];omega
   ·have s1:decide (s<=m)=false:=df__ hs;have HB:=Sd.m hb;clear hb hs;go_wp2_with fail;go_ret;exact ⟨⟨_,rfl⟩,HB.out⟩
  ·have b1:decide ((j:Int)<(l.length:Int))=false:=df__ (by omega);have b2:decide (j<l.length)=false:=df__ hlt;have HB:=Sd.m hb;clear hb;go_wp2_with fail;go_ret;exact ⟨⟨_,rfl⟩,HB.out⟩
theorem vg_calls (l:List S93)(hl: ∀ v∈l,X.SmallP v.f1)(m:Int)(W:World)(A:Option Addr)(c:Nat)(hc:l.length<=c)(hA:Kd.C k93 W A l.length l):Calls Tryz.prog 40 #[.slice A l.length c,.int .i64 m] W fun e w'=>(∃ b,e=.returned (.bool b))∧Below W.heap.size W w':=by
 have HM:l.length<=9223372036854775807:=Kd.C_max hA;have HA:=Sd.m hA;have HL:=Sd.m hl;clear hA hl;go_enter Tryz.func40,Tryz.ntmps40;go_wp2_with fail;go_loopw [5,6] (fun s u Wx=>(∃ z,s=.int .i64 z)∧ ∃ j:Nat,j<=l.length∧u=.int .i64 j∧Below W.heap.size W Wx) (fun _ u _=>l.length - (intOf u).toNat)
 case atStart=>exact ⟨⟨_,rfl⟩,0,Nat.zero_le _,rfl,Below.refl _ _⟩
 case round=>
  obtain ⟨⟨s,rfl⟩,j,hj,rfl,hb⟩:=hrel;by_cases hlt:j<l.length
  ·have b1:decide ((j:Int)<(l.length:Int))=true:=dt__ (by omega);have b2:decide (j<l.length)=true:=dt__ hlt;by_cases hs:s<=m
   ·have s1:decide (s<=m)=true:=dt__ hs;have hq0:0<=(j:Int):=by omega
    have hq1:(j:Int)<(l.length:Int):=by omega
    have w2:IntKind.i64.wrap ((j:Int)+1)=(j:Int)+1:=IntWalk.i64_in _ (by omega);obtain ⟨Vd,hVd⟩: ∃ W_,W_=wr.drew:=⟨_,rfl⟩;have hbd:Below wr.heap.size wr Vd:=by rw [hVd];exact ca_ (Below.refl _ _)
    have hbD:=hb.trans (hbd.mono hb.size);obtain ⟨ad,E2,e2,E3,e3,E4,e4,rfl,i0,i1,i2,i3,i4,i5,i6,n2,o2,n3,o3,n4,o4⟩:=at_T93 (Kd.C_below HA.out hbD) (j:Int) (by omega) (by omega);rw [Int.toNat_natCast] at i0 i1 i2 i3 i4;have hsm:X.SmallP (du_ l (j:Int)).f1:=by
     unfold du_;rw [Int.toNat_natCast,List.getD_eq_getElem?_getD,List.getElem?_eq_getElem hlt];exact HL.out _ (List.getElem_mem hlt)
    generalize du_ l (j:Int)=x at*;obtain ⟨wt,hwt,_⟩:=hn_ x.f1 hsm 0 (by decide) (by decide);obtain ⟨kw,hkw⟩:=hwt.rounds;have HN1:Sd (∀ V,Below Vd.heap.size Vd V->Calls Tryz.prog 17 #[.agg #[.int .i64 x.f1.f0,.slice E2 x.f1.f1.length e2,.slice E3 x.f1.f2.length e3,.slice E4 x.f1.f3.length e4],.int .i64 0] V fun e w'=>e=.returned (.int .i64 wt)∧Below V.heap.size V w'):=⟨fun V hV=>as_.calls kw x.f1.f0 E2 e2 x.f1.f1 E3 e3 x.f1.f2 E4 e4 x.f1.f3 0 wt V (Kd.C_below o2 hV) n2 (Kd.C_below o3 hV) n3 (Kd.C_below o4 hV) n4 hkw⟩;have HS:Sd (∀ w',Below Vd.heap.size Vd w'->w'.cell? (ad.add (j*7))=some (.string x.f0)∧w'.cell? ⟨(ad.add (j*7)).block,(ad.add (j*7)).off+1,none⟩=some (.int .i64 x.f1.f0)∧w'.cell? ⟨(ad.add (j*7)).block,(ad.add (j*7)).off+2,none⟩=some (.slice E2 x.f1.f1.length e2)∧w'.cell? ⟨(ad.add (j*7)).block,(ad.add (j*7)).off+3,none⟩=some (.slice E3 x.f1.f2.length e3)∧w'.cell? ⟨(ad.add (j*7)).block,(ad.add (j*7)).off+4,none⟩=some (.slice E4 x.f1.f3.length e4)):=by
     refine ⟨fun w' hw=>?_⟩;have cw:=fun (a:Addr) (v:Value) (h:Vd.cell? a=some v)=>(hw.cell (bl__ Vd _ h)).trans h;exact ⟨cw _ _ i0,cw _ _ i1,cw _ _ i2,cw _ _ i3,cw _ _ i4⟩
    have BD:=Sd.m (Below.refl Vd.heap.size Vd);have HBD:=Sd.m hbD;clear hb hbd hbD i0 i1 i2 i3 i4 i5 i6 n2 o2 n3 o3 n4 o4 hs hsm hwt hkw;go_upto_region 5 with fail;refine start_ (n:=16) (S:=fun w'=>w'.cell? (ad.add (j*7))=some (.string x.f0)∧w'.cell? ⟨(ad.add (j*7)).block,(ad.add (j*7)).off+1,none⟩=some (.int .i64 x.f1.f0)∧w'.cell? ⟨(ad.add (j*7)).block,(ad.add (j*7)).off+2,none⟩=some (.slice E2 x.f1.f1.length e2)∧w'.cell? ⟨(ad.add (j*7)).block,(ad.add (j*7)).off+3,none⟩=some (.slice E3 x.f1.f2.length e3)∧w'.cell? ⟨(ad.add (j*7)).block,(ad.add (j*7)).off+4,none⟩=some (.slice E4 x.f1.f3.length e4)) (ds:=[]) #[false,false,false,false,false,false,false,false,false,false,false,false,false,false,false,false] (by kernel_rfl) rfl rfl (by rw [←hVd];exact (HS.out _ (Below.refl _ _))) (fun hHeld=>?_);rw [←hVd] at hHeld ⊢;clear hVd;refine pu_ 0 20 ?_;refine pu_ 1 21 ?_;refine pu_ 2 22 ?_;refine pu_ 3 23 ?_;refine pu_ 4 24 ?_;refine pu_ 8 28 ?_;refine pu_ 9 29 ?_;refine pu_ 10 30 ?_;refine pu_ 11 31 ?_;refine ta_ 5 25 hHeld ?_;refine pu_ 6 26 ?_;refine pu_ 7 27 ?_;refine ta_ 12 32 hHeld ?_;refine on_ 13 33 (fun K hK=>?_);refine goes_ Tryz.func17 (by kernel_rfl) rfl #[.agg #[.int .i64 x.f1.f0,.slice E2 x.f1.f1.length e2,.slice E3 x.f1.f2.length e3,.slice E4 x.f1.f3.length e4],.int .i64 0] (by rfl) rfl rfl (by simp only [List.map_toArray,List.map_cons,List.map_nil];rfl) ?_;(with_reducible refine (HN1.out Vd BD.out).mono ?_);rintro e_ U1 ⟨rfl,hb_⟩;refine ⟨_,rfl,?_⟩;have BU1:=Sd.m (BD.out.trans ((hb_).mono BD.out.size));clear hb_;refine hK.out _ _ (HS.out _ BU1.out) (fun hHeld=>?_);clear hK K;refine no_ 33 ?_;refine pu_ 14 34 ?_;refine pu_ 15 5 ?_;refine done_ (by kernel_rfl) ?_;go_wp2_with fail;go_roundw
    case rel=>exact ⟨⟨_,rfl⟩,j+1,hlt,by go_num,HBD.out.trans (BU1.out.mono HBD.out.size)⟩
    case measure=>simp [intOf];omega
   ·have s1:decide (s<=m)=false:=df__ hs;have HB:=Sd.m hb;clear hb hs;go_wp2_with fail;go_ret;exact ⟨⟨_,rfl⟩,HB.out⟩
  ·have b1:decide ((j:Int)<(l.length:Int))=false:=df__ (by omega);have b2:decide (j<l.length)=false:=df__ hlt;have HB:=Sd.m hb;clear hb;go_wp2_with fail;go_ret;exact ⟨⟨_,rfl⟩,HB.out⟩
def ruleM (r:S55):Nat:=mass r.f2+mass r.f3
theorem bg_calls (b:S27)(hsm:X.SmallB b)(m:Int)(hm:0<=m∧m<=1000)(W:World)(A0:Option Addr)(c0:Nat)(A1:Option Addr)(c1:Nat)(A2:Option Addr)(c2:Nat)(A3:Option Addr)(c3:Nat)(l0:b.f0.length<=c0)(g0:Kd.C k93 W A0 b.f0.length b.f0)(l1:b.f1.length<=c1)(g1:Kd.C k55 W A1 b.f1.length b.f1)(l2:b.f2.length<=c2)(g2:Kd.C k87 W A2 b.f2.length b.f2)(l3:b.f3.length<=c3)(g3:Kd.C Kd.string W A3 b.f3.length b.f3):
  Calls Tryz.prog 10 #[.agg #[.slice A0 b.f0.length c0,.slice A1 b.f1.length c1,.slice A2 b.f2.length c2,.slice A3 b.f3.length c3],.int .i64 m] W fun e w'=>(∃ r,e=.returned (.bool r)∧(r=false->((b.f1.length+(b.f1.map ruleM).sum:Nat):Int)<=m))∧Below W.heap.size W w':=by
 obtain ⟨⟨_,hv⟩,⟨hr0,hr⟩,_,⟨hu0,hu⟩⟩:=hsm;have hr0':b.f1.length<=140737488355328:=hr0;have hu0':b.f3.length<=140737488355328:=hu0;obtain ⟨W2,hW2⟩: ∃ W_,W_=W.alloc (.cells #[.slice A0 b.f0.length c0,.slice A1 b.f1.length c1,.slice A2 b.f2.length c2,.slice A3 b.f3.length c3] 27):=⟨_,rfl⟩;have hb2:Below W.heap.size W W2:=by rw [hW2];exact ab_ (Below.refl _ _) _
 have hx2:W2.heap[W.heap.size]? =some (.cells #[.slice A0 b.f0.length c0,.slice A1 b.f1.length c1,.slice A2 b.f2.length c2,.slice A3 b.f3.length c3] 27 (0,0)):=by rw [hW2];exact aj_ W _
 have x1:=bc_ hx2 1 rfl;have x3:=bc_ hx2 3 rfl;have HG0:=Sd.m (And.intro l0 g0);have HG1:=Sd.m g1;have HG2:=Sd.m (And.intro l2 g2);have HG3:=Sd.m g3;have HV:=Sd.m (fun v hv'=>(hv v hv').2);have HRS:=Sd.m hr;have HUS:=Sd.m hu;have HX2:=Sd.m hx2;have HB2:=Sd.m hb2;have HW2:=Sd.m hW2;have HMM:=Sd.m hm;clear hb2 hx2 hW2 g0 g1 g2 g3 l0 l2 hv hr0 hr hu0 hu hm;have ws:IntKind.i64.wrap ((b.f1.length:Int)+(b.f3.length:Int))=(b.f1.length:Int)+(b.f3.length:Int):=IntWalk.i64_in _ (by omega);go_enter Tryz.func10,Tryz.ntmps10;go_wp2_with fail;rw [←HW2.out];clear x1 x3 ws;go_loopw [5,6] (fun s u Wx=>(∃ z:Int,s=.int .i64 z∧(b.f1.length:Int)<=z∧z<=600000000000000)∧ ∃ j:Nat,j<=b.f3.length∧u=.int .i64 j∧Below W.heap.size W Wx∧Wx.heap[W.heap.size]? =some (.cells #[.slice A0 b.f0.length c0,.slice A1 b.f1.length c1,.slice A2 b.f2.length c2,.slice A3 b.f3.length c3] 27 (0,0))) (fun _ u _=>b.f3.length - (intOf u).toNat)
 case atStart=>exact ⟨⟨_,rfl,by omega,by omega⟩,0,Nat.zero_le _,rfl,HB2.out,HX2.out⟩
 case round=>
  obtain ⟨⟨s,rfl,hs0,hs1⟩,j,hj,rfl,hb,hx⟩:=hrel;have x3:=bc_ hx 3 rfl;by_cases hlt:j<b.f3.length∧s<=m
  ·have b1:decide ((j:Int)<(b.f3.length:Int))=true:=dt__ (by omega);have b2:decide (j<b.f3.length)=true:=dt__ hlt.1;have s1:decide (s<=m)=true:=dt__ hlt.2;have hq0:0<=(j:Int):=by omega
   have hq1:(j:Int)<(b.f3.length:Int):=by omega
   have w2:IntKind.i64.wrap ((j:Int)+1)=(j:Int)+1:=IntWalk.i64_in _ (by omega);obtain ⟨aa,rfl,i0⟩:=Kd.fs_ (Kd.C_below HG3.out hb) (j:Int) (by omega) (by omega);rw [Int.toNat_natCast] at i0;have hsz:(rdOf ByteArray.empty b.f3 (j:Int)).size<=140737488355328:=by
    unfold rdOf;rw [Int.toNat_natCast,List.getD_eq_getElem?_getD,List.getElem?_eq_getElem hlt.1];exact HUS.out _ (List.getElem_mem hlt.1)
   generalize rdOf ByteArray.empty b.f3 (j:Int)=x at i0 hsz;have w3:IntKind.i64.wrap (s+(x.size:Int))=s+(x.size:Int):=IntWalk.i64_in _ (by have:=HMM.out;omega);have HB:=Sd.m hb;have HX:=Sd.m hx;clear hb hx;go_wp2_with fail;go_roundw
   case rel=>exact ⟨⟨_,rfl,by omega,by have:=HMM.out;omega⟩,j+1,hlt.1,by go_num,HB.out,HX.out⟩
   case measure=>simp [intOf];omega
  ·have HB:=Sd.m hb;have HX:=Sd.m hx;clear hb hx;go_upto_region 3 with fail;go_cut [24] (fun v Wx=>v=.bool false∧Wx=wr)
   case first=>
    by_cases hl:j<b.f3.length
    ·have b1:decide ((j:Int)<(b.f3.length:Int))=true:=dt__ (by omega);have b2:decide (j<b.f3.length)=true:=dt__ hl;have s1:decide (s<=m)=false:=df__ fun h=>hlt ⟨hl,h⟩;go_wp2_with fail;go_meet
     case rel=>exact ⟨rfl,rfl⟩
    ·have b1:decide ((j:Int)<(b.f3.length:Int))=false:=df__ (by omega);have b2:decide (j<b.f3.length)=false:=df__ hl;go_wp2_with fail;go_meet
     case rel=>exact ⟨rfl,rfl⟩
   case rest=>
    obtain ⟨rfl,rfl⟩:=hcut;clear x3 hlt;go_wp2_with fail;go_loopw [5,7] (fun s u Wx=> ∃ (z:Int) (j:Nat),s=.int .i64 z∧j<=b.f1.length∧u=.int .i64 j∧0<=z∧z<=1000000000000000∧(z<=1000->((b.f1.length+((b.f1.take j).map ruleM).sum:Nat):Int)<=z)∧Below W.heap.size W Wx∧Wx.heap[W.heap.size]? =some (.cells #[.slice A0 b.f0.length c0,.slice A1 b.f1.length c1,.slice A2 b.f2.length c2,.slice A3 b.f3.length c3] 27 (0,0))) (fun _ u _=>b.f1.length - (intOf u).toNat)
    case atStart=>exact ⟨s,0,rfl,Nat.zero_le _,rfl,by omega,by omega,fun _=>by simpa using hs0,HB.out,HX.out⟩
    case round=>
     clear HB HX hs0 hs1 hj;obtain ⟨z,k,rfl,hk,rfl,hz0,hz1,hz,hb,hx⟩:=hrel;have HZ:=Sd.m hz;clear hz;have x1:=bc_ hx 1 rfl;by_cases hlt:k<b.f1.length∧z<=m
     ·have b1:decide ((k:Int)<(b.f1.length:Int))=true:=dt__ (by omega);have b2:decide (k<b.f1.length)=true:=dt__ hlt.1;have s1:decide (z<=m)=true:=dt__ hlt.2;have hq0:0<=(k:Int):=by omega
      have hq1:(k:Int)<(b.f1.length:Int):=by omega
      have w2:IntKind.i64.wrap ((k:Int)+1)=(k:Int)+1:=IntWalk.i64_in _ (by omega);go_wp2_with fail;clear x1;obtain ⟨Vd,hVd⟩: ∃ W_,W_=wr.drew:=⟨_,rfl⟩;have hbd:Below wr.heap.size wr Vd:=by rw [hVd];exact ca_ (Below.refl _ _)
      have hbD:=hb.trans (hbd.mono hb.size);obtain ⟨ad,E3,e3,E4,e4,E5,e5,E7,e7,E8,e8,E9,e9,ead,i0,i1,i2,i3,i4,i5,i6,i7,i8,i9,i10,n3,o3,n4,o4,n5,o5,n7,o7,n8,o8,n9,o9⟩:=kh_ (Kd.C_below HG1.out hbD) (k:Int) (by omega) (by omega);subst ead;rw [Int.toNat_natCast] at i2 i3 i4 i5 i6 i7 i8 i9;have hel:b.f1[k]? =some (cm_ b.f1 (k:Int)):=by
       unfold cm_;rw [Int.toNat_natCast,List.getD_eq_getElem?_getD,List.getElem?_eq_getElem hlt.1];rfl
      have hsm:=HRS.out _ (List.mem_of_getElem? hel);generalize cm_ b.f1 (k:Int)=x at*;obtain ⟨t1,ht1,p1,q1,r1⟩:=hn_ x.f2 hsm.1 0 (by decide) (by decide);obtain ⟨k1,hk1⟩:=ht1.rounds;obtain ⟨t2,ht2,p2,q2,r2⟩:=hn_ x.f3 hsm.2 0 (by decide) (by decide);obtain ⟨k2,hk2⟩:=ht2.rounds;have w3:IntKind.i64.wrap (z+t1)=z+t1:=IntWalk.i64_in _ (by have:=HMM.out;omega);have w4:IntKind.i64.wrap (z+t1+t2)=z+t1+t2:=IntWalk.i64_in _ (by have:=HMM.out;omega);have HN1:Sd (∀ V,Below Vd.heap.size Vd V->Calls Tryz.prog 17 #[.agg #[.int .i64 x.f2.f0,.slice E3 x.f2.f1.length e3,.slice E4 x.f2.f2.length e4,.slice E5 x.f2.f3.length e5],.int .i64 0] V fun e w'=>e=.returned (.int .i64 t1)∧Below V.heap.size V w'):=⟨fun V hV=>as_.calls k1 x.f2.f0 E3 e3 x.f2.f1 E4 e4 x.f2.f2 E5 e5 x.f2.f3 0 t1 V (Kd.C_below o3 hV) n3 (Kd.C_below o4 hV) n4 (Kd.C_below o5 hV) n5 hk1⟩;have HN2:Sd (∀ V,Below Vd.heap.size Vd V->Calls Tryz.prog 17 #[.agg #[.int .i64 x.f3.f0,.slice E7 x.f3.f1.length e7,.slice E8 x.f3.f2.length e8,.slice E9 x.f3.f3.length e9],.int .i64 0] V fun e w'=>e=.returned (.int .i64 t2)∧Below V.heap.size V w'):=⟨fun V hV=>as_.calls k2 x.f3.f0 E7 e7 x.f3.f1 E8 e8 x.f3.f2 E9 e9 x.f3.f3 0 t2 V (Kd.C_below o7 hV) n7 (Kd.C_below o8 hV) n8 (Kd.C_below o9 hV) n9 hk2⟩;have HS:Sd (∀ w',Below Vd.heap.size Vd w'->w'.cell? ⟨W.heap.size,1,none⟩=some (.slice (some ad) b.f1.length c1)∧w'.cell? ⟨(ad.add (k*11)).block,(ad.add (k*11)).off+2,none⟩=some (.int .i64 x.f2.f0)∧w'.cell? ⟨(ad.add (k*11)).block,(ad.add (k*11)).off+3,none⟩=some (.slice E3 x.f2.f1.length e3)∧w'.cell? ⟨(ad.add (k*11)).block,(ad.add (k*11)).off+4,none⟩=some (.slice E4 x.f2.f2.length e4)∧w'.cell? ⟨(ad.add (k*11)).block,(ad.add (k*11)).off+5,none⟩=some (.slice E5 x.f2.f3.length e5)∧w'.cell? ⟨(ad.add (k*11)).block,(ad.add (k*11)).off+6,none⟩=some (.int .i64 x.f3.f0)∧w'.cell? ⟨(ad.add (k*11)).block,(ad.add (k*11)).off+7,none⟩=some (.slice E7 x.f3.f1.length e7)∧w'.cell? ⟨(ad.add (k*11)).block,(ad.add (k*11)).off+8,none⟩=some (.slice E8 x.f3.f2.length e8)∧w'.cell? ⟨(ad.add (k*11)).block,(ad.add (k*11)).off+9,none⟩=some (.slice E9 x.f3.f3.length e9)):=by
       refine ⟨fun w' hw=>?_⟩;have cw:=fun (a:Addr) (v:Value) (h:Vd.cell? a=some v)=>(hw.cell (bl__ Vd _ h)).trans h;exact ⟨bc_ (ag_ (ag_ hx hbd) hw) 1 rfl,cw _ _ i2,cw _ _ i3,cw _ _ i4,cw _ _ i5,cw _ _ i6,cw _ _ i7,cw _ _ i8,cw _ _ i9⟩
      have HSUM:Sd (z+t1+t2<=1000->((b.f1.length+((b.f1.take (k+1)).map ruleM).sum:Nat):Int)<=z+t1+t2):=by
       refine ⟨fun h=>?_⟩;have e1:=HZ.out (by omega);have e2:=r1 (by omega);have e3:=r2 (by omega);rw [List.take_add_one,hel,List.map_append,List.sum_append];have e4:((some x).toList.map ruleM).sum=mass x.f2+mass x.f3:=by simp [ruleM]
       rw [e4];omega
      have BD:=Sd.m (Below.refl Vd.heap.size Vd);have HBD:=Sd.m hbD;have HXD:=Sd.m (ag_ hx hbd);have hz2:0<=z+t1+t2∧z+t1+t2<=1000000000000000:=by have:=HMM.out;omega
      clear hb hx hbd hbD i0 i1 i2 i3 i4 i5 i6 i7 i8 i9 i10 n3 o3 n4 o4 n5 o5 n7 o7 n8 o8 n9 o9 hsm ht1 hk1 ht2 hk2 p1 q1 r1 p2 q2 r2 hel;go_upto_region 9 with fail;refine start_ (n:=18) (S:=fun w'=>w'.cell? ⟨W.heap.size,1,none⟩=some (.slice (some ad) b.f1.length c1)∧w'.cell? ⟨(ad.add (k*11)).block,(ad.add (k*11)).off+2,none⟩=some (.int .i64 x.f2.f0)∧w'.cell? ⟨(ad.add (k*11)).block,(ad.add (k*11)).off+3,none⟩=some (.slice E3 x.f2.f1.length e3)∧w'.cell? ⟨(ad.add (k*11)).block,(ad.add (k*11)).off+4,none⟩=some (.slice E4 x.f2.f2.length e4)∧w'.cell? ⟨(ad.add (k*11)).block,(ad.add (k*11)).off+5,none⟩=some (.slice E5 x.f2.f3.length e5)∧w'.cell? ⟨(ad.add (k*11)).block,(ad.add (k*11)).off+6,none⟩=some (.int .i64 x.f3.f0)∧w'.cell? ⟨(ad.add (k*11)).block,(ad.add (k*11)).off+7,none⟩=some (.slice E7 x.f3.f1.length e7)∧w'.cell? ⟨(ad.add (k*11)).block,(ad.add (k*11)).off+8,none⟩=some (.slice E8 x.f3.f2.length e8)∧w'.cell? ⟨(ad.add (k*11)).block,(ad.add (k*11)).off+9,none⟩=some (.slice E9 x.f3.f3.length e9)) (ds:=[]) #[false,false,false,false,false,false,false,false,false,false,false,false,false,false,false,false,false,false] (by kernel_rfl) rfl rfl (by rw [←hVd];exact (HS.out _ (Below.refl _ _))) (fun hHeld=>?_);rw [←hVd] at hHeld ⊢;clear hVd;refine pu_ 0 47 ?_;refine pu_ 1 48 ?_;refine pu_ 3 50 ?_;refine pu_ 9 56 ?_;refine pu_ 11 58 ?_;refine ta_ 2 49 hHeld ?_;refine pu_ 4 51 ?_;refine pu_ 5 52 ?_;refine ta_ 6 53 hHeld ?_;refine ta_ 10 57 hHeld ?_;refine pu_ 12 59 ?_;refine pu_ 13 60 ?_;refine ta_ 14 61 hHeld ?_;refine on_ 7 54 (fun K hK=>?_);refine goes_ Tryz.func17 (by kernel_rfl) rfl #[.agg #[.int .i64 x.f2.f0,.slice E3 x.f2.f1.length e3,.slice E4 x.f2.f2.length e4,.slice E5 x.f2.f3.length e5],.int .i64 0] (by rfl) rfl rfl (by simp only [List.map_toArray,List.map_cons,List.map_nil];rfl) ?_;(with_reducible refine (HN1.out Vd BD.out).mono ?_);rintro e_ U1 ⟨rfl,hb_⟩;refine ⟨_,rfl,?_⟩;have BU1:=Sd.m (BD.out.trans ((hb_).mono BD.out.size));clear hb_;refine hK.out _ _ (HS.out _ BU1.out) (fun hHeld=>?_);clear hK K;refine no_ 54 ?_;refine pu_ 8 55 ?_;refine on_ 15 62 (fun K hK=>?_);refine goes_ Tryz.func17 (by kernel_rfl) rfl #[.agg #[.int .i64 x.f3.f0,.slice E7 x.f3.f1.length e7,.slice E8 x.f3.f2.length e8,.slice E9 x.f3.f3.length e9],.int .i64 0] (by rfl) rfl rfl (by simp only [List.map_toArray,List.map_cons,List.map_nil];rfl) ?_;(with_reducible refine (HN2.out U1 BU1.out).mono ?_);rintro e_ U2 ⟨rfl,hb_⟩;refine ⟨_,rfl,?_⟩;have BU2:=Sd.m (BU1.out.trans ((hb_).mono BU1.out.size));clear hb_;refine hK.out _ _ (HS.out _ BU2.out) (fun hHeld=>?_);clear hK K;refine no_ 62 ?_;refine pu_ 16 63 ?_;refine pu_ 17 5 ?_;refine done_ (by kernel_rfl) ?_;go_wp2_with fail;go_roundw
      case rel=>exact ⟨_,k+1,rfl,hlt.1,by go_num,hz2.1,hz2.2,HSUM.out,HBD.out.trans (BU2.out.mono HBD.out.size),ag_ HXD.out BU2.out⟩
      case measure=>simp [intOf];omega
     ·have HB:=Sd.m hb;have HX:=Sd.m hx;clear hb hx;go_upto_region 7 with fail;go_cut [44] (fun v Wx=>v=.bool false∧Wx=wr)
      case first=>
       by_cases hl:k<b.f1.length
       ·have b1:decide ((k:Int)<(b.f1.length:Int))=true:=dt__ (by omega);have b2:decide (k<b.f1.length)=true:=dt__ hl;have s1:decide (z<=m)=false:=df__ fun h=>hlt ⟨hl,h⟩;go_wp2_with fail;go_meet
        case rel=>exact ⟨rfl,rfl⟩
       ·have b1:decide ((k:Int)<(b.f1.length:Int))=false:=df__ (by omega);have b2:decide (k<b.f1.length)=false:=df__ hl;go_wp2_with fail;go_meet
        case rel=>exact ⟨rfl,rfl⟩
      case rest=>
       obtain ⟨rfl,hwc⟩:=hcut;subst hwc;have x0:=bc_ HX.out 0 rfl;have x2:=bc_ HX.out 2 rfl;clear x1;by_cases hzm:z>m
       ·have s1:decide (z>m)=true:=dt__ hzm;have s2:decide (m<z)=true:=dt__ hzm;clear hlt hzm;go_wp2_with fail;go_ret;exact ⟨⟨_,rfl,fun h=>by cases h⟩,HB.out⟩
       ·have s1:decide (z>m)=false:=df__ hzm;have s2:decide (m<z)=false:=df__ hzm;have hfin:((b.f1.length+(b.f1.map ruleM).sum:Nat):Int)<=m:=by
         have h:=HZ.out (by have:=HMM.out;omega);rw [List.take_of_length_le (by omega)] at h;omega
        have HF:=Sd.m hfin;have HV1:=Sd.m (fun V (hV:Below W.heap.size W V)=>vg_calls b.f0 HV.out m V A0 c0 HG0.out.1 (Kd.C_below HG0.out.2 hV));have HI1:=Sd.m (fun V (hV:Below W.heap.size W V)=>ig_calls b.f2 m V A2 c2 HG2.out.1 (Kd.C_below HG2.out.2 hV));clear hlt hzm hfin;go_wp2_with fail;refine (HV1.out _ HB.out).mono ?_;rintro e V ⟨⟨r,rfl⟩,hb⟩;have HBV:=Sd.m (HB.out.trans (hb.mono HB.out.size));have HXV:=Sd.m (ag_ HX.out hb);clear hb x0 x2;cases r with
        | true=>
         go_wp2_with fail;go_ret;exact ⟨⟨_,rfl,fun h=>by cases h⟩,HBV.out⟩
        | false=>
         have x2:=bc_ HXV.out 2 rfl;go_wp2_with fail;refine (HI1.out _ HBV.out).mono ?_;rintro e V2 ⟨⟨r,rfl⟩,hb⟩;have HBW:=Sd.m (HBV.out.trans (hb.mono HBV.out.size));clear hb x2;go_wp2_with fail;go_ret;exact ⟨⟨_,rfl,fun _=>HF.out⟩,HBW.out⟩
end L
namespace P
open A K L

def sumL (xs:List (List S74)):Nat:=(xs.map List.length).sum
theorem add_sum (xs:List (List S74))(y:List S74):sumL (addF xs y)<=sumL xs+y.length:=by
 unfold addF;split
 ·omega
 ·unfold sumL;rw [List.map_append,List.sum_append];simp
theorem fold_sum {α:Type}(f:List (List S74)->α->List (List S74))(g:α->Nat)(h: ∀ xs a,sumL (f xs a)<=sumL xs+g a): ∀ (l:List α) xs,sumL (l.foldl f xs)<=sumL xs+(l.map g).sum
 | [],_=>Nat.le_refl _
 | a :: l,xs=>by
  have h1:=h xs a;have h2:=fold_sum f g h l (f xs a);rw [List.foldl_cons,List.map_cons,List.sum_cons];omega
theorem md_ (p:S45): ∀ xs:List (List S74),sumL (formF p xs)<=sumL xs+mass p:=by
 intro xs;rw [ek_,jw_];have key: ∀ l:List S45,(∀ q∈l,q∈p.f3)-> ∀ a,sumL (l.foldl (fun a q=>formF q a) a)<=sumL a+(l.map mass).sum:=by
  intro l
  induction l with
  | nil=>exact fun _ a=>Nat.le_refl _
  | cons q l ih=>
   intro h a;have hq:=h q (List.mem_cons_self ..);have h1:=md_ q a;have h2:=ih (fun r hr=>h r (List.mem_cons_of_mem _ hr)) (formF q a);rw [List.foldl_cons,List.map_cons,List.sum_cons];omega
 have h:=key p.f3 (fun q hq=>hq) (if p.f0=2 then addF xs p.f1 else xs);have h2:sumL (if p.f0=2 then addF xs p.f1 else xs)<=sumL xs+p.f1.length:=by
  split
  ·exact add_sum xs p.f1
  ·omega
 omega
termination_by SizeOf.sizeOf p
decreasing_by exact ku_ hq
theorem rule_sum (xs:List (List S74))(r:S55):sumL (ruleF xs r)<=sumL xs+ruleM r:=by
 unfold ruleF ruleM;have h1:=md_ r.f2 xs;have h2:=md_ r.f3 (formF r.f2 xs);omega
def bookM (b:S27):Nat:=(b.f1.map ruleM).sum
theorem jc_ (xs:List (List S74))(b:S27):sumL (bookF xs b)<=sumL xs+bookM b:=fold_sum ruleF ruleM rule_sum b.f1 xs
theorem rule_in {b:S27}{r:S55}(h:r∈b.f1):ruleM r<=bookM b:=by
 unfold bookM;generalize b.f1=l at*
 induction l with
 | nil=>cases h
 | cons a l ih=>
  rw [List.map_cons,List.sum_cons];rcases List.mem_cons.1 h with rfl | h
  ·omega
  ·have:=ih h;omega
theorem bookN_le (b:S27):bookN b<=bookM b:=by
 unfold bookN bookM;generalize b.f1=l
 induction l with
 | nil=>exact Nat.le_refl _
 | cons r l ih=>
  have h1:=im_ r.f2;have h2:=im_ r.f3;simp only [List.map_cons,List.sum_cons,ruleN,ruleM] at*;omega
theorem book_wide {b:S27}(h:bookM b<=1000000): ∀ r∈b.f1,Wide r.f2∧Wide r.f3:=by
 intro r hr;have h1:=rule_in hr;unfold ruleM at h1;exact ⟨jf_ _ (by omega),jf_ _ (by omega)⟩
theorem book_empty {b:S27}(h:b.f1=[]):bookM b=0:=by unfold bookM;rw [h];rfl
theorem add_self (xs:List (List S74))(y:List S74):y∈addF xs y:=by
 unfold addF;split
 ·rename_i h;obtain ⟨x,hx,e⟩:=List.any_eq_true.1 h;rw [←hi_.1 e];exact hx
 ·exact List.mem_append.2 (Or.inr (List.mem_singleton.2 rfl))
theorem add_keep {xs:List (List S74)}{y x:List S74}(h:x∈xs):x∈addF xs y:=by
 unfold addF;split
 ·exact h
 ·exact List.mem_append.2 (Or.inl h)
end P
end Go.Proofs.YthfceiincmkccaaGreat
