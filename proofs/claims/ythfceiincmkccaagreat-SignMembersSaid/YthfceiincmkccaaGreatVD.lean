/- What law SignMembers reaches, part 4: words and walks over rows and regions. -/
import Derived.Test.YthfceiincmkccaaGreatVA
import Derived.Test.YthfceiincmkccaaGreatVC
import Derived.RangeFuncNested
import Derived.RangeFuncBound
import Derived.RangeFuncCalls
import Derived.RangeFuncLeaves
import Derived.Shelf.Abstract
import Derived.Shelf.RegionOpen
import Derived.OwnWalkIn
import Derived.TacticsInMore
import Derived.LoopNIn
import Derived.LoopIn
import Derived.Sort.QuietIn
import Derived.Maps.OwnIn
import Derived.RangeFuncBox
import Derived.Test.YthfceiincmkccaaGreatVB
import Derived.Outline
import Derived.Maps.AppendAt
import Derived.Test.YthfceiincmkccaaGreatProg
import Derived.Below
import Derived.Deep.Draws
import Derived.Deep.AppendLies
import Derived.OwnWalk
import Derived.Laws.BytesArg
import Derived.Laws.MakeOwn
import Derived.Laws.OwnMore
import Derived.Deep.OwnRows
import Derived.Tactics
import Derived.Lib.ConvBytes
import Derived.Laws.Slices
import Derived.WalkKit
import Derived.KernelRfl
import Derived.RowKit3
import Derived.Deep.LoopGhost
import Derived.Deep.QuietTactic
import Derived.BigQuiet
import Derived.WideLaws
import Derived.Deep.DeepCutAuto
import Derived.Deep.CutBlock
import Derived.Deep.RegionHeld3
import Derived.Laws.Rows
import Derived.Lib.AppendStr
import Derived.ArgAppend
import Derived.Laws.IdiomCopy
import Derived.OrdersHeld
import Derived.Laws.BitsLemmas
import Derived.RowKit
set_option linter.unusedVariables false
set_option linter.unusedSimpArgs false
set_option maxHeartbeats 8000000
set_option maxRecDepth 100000
open Go.RowKit Go.Proofs.YthfceiincmkccaaGreatW.PrintWords Go.Proofs.YthfceiincmkccaaGreatW.PrintLast Go.Proofs.YthfceiincmkccaaGreatW.PrintMore
namespace Go.Proofs.YthfceiincmkccaaGreat
namespace LX
open Shelf YthfceiincmkccaaGreatW.PrintWords.Kd A K L B
theorem cf_ {W0:World}{b n:Nat}(hn:b<=n): ∀ (vs:List Value) (W:World) (j:Nat),Below b W0 W->Below b W0 (putL W n j vs)
 | [],_,_,h=>h
 | v :: vs,W,j,h=>cf_ hn vs _ _ (h.setCell (p:=⟨n,j,none⟩) hn v)
def PatV (W:World)(ok:Nat->Prop)(v:Value)(p:S45):Prop:= ∃ A1 c1 A2 c2 A3 c3,v=.agg #[.int .i64 p.f0,.slice A1 p.f1.length c1,.slice A2 p.f2.length c2,.slice A3 p.f3.length c3]∧p.f1.length<=c1∧Kd.F k74 W ok A1 p.f1.length p.f1∧p.f2.length<=c2∧Kd.F (Kd.int .i64) W ok A2 p.f2.length p.f2∧p.f3.length<=c3∧Kd.F k45 W ok A3 p.f3.length p.f3
def PatAns (W:World)(P:Nat->Prop)(p:S45)(e:Ending)(w':World):Prop:= ∃ v,e=.returned (.tuple #[v,.int .i64 0])∧PatV w' (fun k=>P k∨W.heap.size<=k) v p∧Below W.heap.size W w'
theorem whole_empty (W:World)(P:Nat->Prop)(nm:ByteArray)(lo hi:Int)(kv vl:Value):
  Calls Tryz.prog 170 #[.agg #[.int .i64 1,.string nm,.int .i64 lo,.int .i64 hi,kv],vl] W (PatAns W P ⟨1,[],[],[]⟩):=by
 unfold PatAns
 go_enter Tryz.func170,Tryz.ntmps170
 go_wp2_with fail
 have e:((W.alloc (.cells #[.int .i64 1,.string nm,.int .i64 lo,.int .i64 hi,kv] 85)).alloc (.cells #[.int .i64 1,.slice none 0 0,.slice none 0 0,.slice none 0 0] 45)).heap[W.heap.size+1]? =some (.cells #[.int .i64 1,.slice none 0 0,.slice none 0 0,.slice none 0 0] 45 (0,0)):=by
  have e:=ah_ (W.alloc (.cells #[.int .i64 1,.string nm,.int .i64 lo,.int .i64 hi,kv] 85)) (.cells #[.int .i64 1,.slice none 0 0,.slice none 0 0,.slice none 0 0] 45)
  have e2:(W.alloc (.cells #[.int .i64 1,.string nm,.int .i64 lo,.int .i64 hi,kv] 85)).heap.size=W.heap.size+1:=Array.size_push _
  rw [e2] at e
  exact e
 refine bodyPost_ret (ea_ rfl _ _ (W.heap.size+1) 45 #[.int .i64 1,.slice none 0 0,.slice none 0 0,.slice none 0 0] (0,0) _ rfl e Tryz.underlying45 rfl (by kernel_rfl)) rfl ?_
 exact ⟨_,rfl,⟨none,0,none,0,none,0,rfl,Nat.le_refl _,F_nil _ _ _,Nat.le_refl _,F_nil _ _ _,Nat.le_refl _,F_nil _ _ _⟩,ab_ (ab_ (Below.refl W.heap.size W) _) _⟩
theorem whole_set (W:World)(P:Nat->Prop)(nm:ByteArray)(hi:Int)(kv vl:Value)(s:List S74)(hset: ∀ W',Below W.heap.size W W'->Calls Tryz.prog 187 #[.agg #[.int .i64 4,.string nm,.int .i64 0,.int .i64 hi,kv],vl] W' (SetAns W' s)):
  Calls Tryz.prog 170 #[.agg #[.int .i64 4,.string nm,.int .i64 0,.int .i64 hi,kv],vl] W (PatAns W P ⟨2,s,[],[]⟩):=by
 unfold PatAns
 obtain ⟨W1,hW1⟩: ∃ W_,W_=(W.alloc (.cells #[.int .i64 4,.string nm,.int .i64 0,.int .i64 hi,kv] 85)).alloc (.cells #[.int .i64 0,.slice none 0 0,.slice none 0 0,.slice none 0 0] 45):=⟨_,rfl⟩
 have hb1:Below W.heap.size W W1:=by rw [hW1];exact ab_ (ab_ (Below.refl W.heap.size W) _) _
 have hs1:W1.heap.size=W.heap.size+2:=by rw [hW1];exact (Array.size_push _).trans (congrArg (· +1) (Array.size_push _))
 have hr1:W1.heap[W.heap.size+1]? =some (.cells #[.int .i64 0,.slice none 0 0,.slice none 0 0,.slice none 0 0] 45 (0,0)):=by
  have e:=ah_ (W.alloc (.cells #[.int .i64 4,.string nm,.int .i64 0,.int .i64 hi,kv] 85)) (.cells #[.int .i64 0,.slice none 0 0,.slice none 0 0,.slice none 0 0] 45)
  have e2:(W.alloc (.cells #[.int .i64 4,.string nm,.int .i64 0,.int .i64 hi,kv] 85)).heap.size=W.heap.size+1:=Array.size_push _
  rw [e2] at e
  rw [hW1]
  exact e
 have hn1:W1.heap[W.heap.size]? =some (.cells #[.int .i64 4,.string nm,.int .i64 0,.int .i64 hi,kv] 85 (0,0)):=by rw [hW1];exact ak_ (ah_ W _) _
 have HSET:=Sd.m (hset W1 hb1)
 have HB1:=Sd.m hb1
 have HR1:=Sd.m hr1
 have HS1:=Sd.m hs1
 clear hset hb1 hr1 hn1 hs1
 go_enter Tryz.func170,Tryz.ntmps170
 go_wp2_with fail
 rw [←hW1]
 clear hW1
 refine HSET.out.mono ?_
 rintro e V ⟨A,c,rfl,hc,hF,hb⟩
 have hr:=ae_ HR1.out hb
 have n0:=bc_ hr 0 rfl
 have m0:=aa_ hr 0
 have n1:=bc_ hr 1 rfl
 have m1:=aa_ hr 1
 have n2:=bc_ hr 2 rfl
 have m2:=aa_ hr 2
 have n3:=bc_ hr 3 rfl
 have m3:=aa_ hr 3
 obtain ⟨V2,hV2⟩: ∃ W_,W_=putL V (W.heap.size+1) 0 [.int .i64 2,.slice A s.length c,.slice none 0 0,.slice none 0 0]:=⟨_,rfl⟩
 have hr2:V2.heap[W.heap.size+1]? =some (.cells #[.int .i64 2,.slice A s.length c,.slice none 0 0,.slice none 0 0] 45 (0,0)):=by rw [hV2];exact cm_ _ V 0 _ hr
 have hb2:Below W.heap.size W V2:=by rw [hV2];exact cf_ (by omega) _ _ _ (HB1.out.trans (hb.mono HB1.out.size))
 have hF2:Kd.F k74 V2 (fun k=>P k∨W.heap.size<=k) A s.length s:=by
  rw [hV2]
  exact F_mono (cb_ (ok:=fun k=>W1.heap.size<=k) (fun k hk=>by have:=HS1.out;omega) _ _ _ hF) (fun k hk=>Or.inr (by have:=HS1.out;omega))
 replace hV2:V2=((((V).setCell ⟨W.heap.size+1,0,none⟩ (.int .i64 2)).setCell ⟨W.heap.size+1,1,none⟩ (.slice A s.length c)).setCell ⟨W.heap.size+1,2,none⟩ (.slice none 0 0)).setCell ⟨W.heap.size+1,3,none⟩ (.slice none 0 0):=hV2
 have HR2:=Sd.m hr2
 have HB2:=Sd.m hb2
 have HF2:=Sd.m hF2
 have HV2:=Sd.m hV2
 clear hr hr2 hb2 hF2 hV2 hF hb
 go_wp2_with fail
 rw [←HV2.out]
 refine bodyPost_ret (ea_ rfl _ _ (W.heap.size+1) 45 #[.int .i64 2,.slice A s.length c,.slice none 0 0,.slice none 0 0] (0,0) _ rfl HR2.out Tryz.underlying45 rfl (by kernel_rfl)) rfl ?_
 exact ⟨_,rfl,⟨A,c,none,0,none,0,rfl,hc,HF2.out,Nat.le_refl _,F_nil _ _ _,Nat.le_refl _,F_nil _ _ _⟩,HB2.out⟩
theorem whole_name (W:World)(P:Nat->Prop)(v:S93)(Al:Option Addr)(cl:Nat)(hcl:1<=cl)(hl:Kd.F k93 W P Al 1 [v])(k:Nat)(nm:ByteArray)(hfi:bk_.f k [v] nm=some 0)(lo hi:Int)(kv:Value):
  Calls Tryz.prog 170 #[.agg #[.int .i64 2,.string nm,.int .i64 lo,.int .i64 hi,kv],.slice Al 1 cl] W (PatAns W P v.f1):=by
 unfold PatAns
 obtain ⟨W1,hW1⟩: ∃ W_,W_=(W.alloc (.cells #[.int .i64 2,.string nm,.int .i64 lo,.int .i64 hi,kv] 85)).alloc (.cells #[.int .i64 0,.slice none 0 0,.slice none 0 0,.slice none 0 0] 45):=⟨_,rfl⟩
 have hb1:Below W.heap.size W W1:=by rw [hW1];exact ab_ (ab_ (Below.refl W.heap.size W) _) _
 have hs1:W1.heap.size=W.heap.size+2:=by rw [hW1];exact (Array.size_push _).trans (congrArg (· +1) (Array.size_push _))
 have hr1:W1.heap[W.heap.size+1]? =some (.cells #[.int .i64 0,.slice none 0 0,.slice none 0 0,.slice none 0 0] 45 (0,0)):=by
  have e:=ah_ (W.alloc (.cells #[.int .i64 2,.string nm,.int .i64 lo,.int .i64 hi,kv] 85)) (.cells #[.int .i64 0,.slice none 0 0,.slice none 0 0,.slice none 0 0] 45)
  have e2:(W.alloc (.cells #[.int .i64 2,.string nm,.int .i64 lo,.int .i64 hi,kv] 85)).heap.size=W.heap.size+1:=Array.size_push _
  rw [e2] at e
  rw [hW1]
  exact e
 have hn1:W1.heap[W.heap.size]? =some (.cells #[.int .i64 2,.string nm,.int .i64 lo,.int .i64 hi,kv] 85 (0,0)):=by rw [hW1];exact ak_ (ah_ W _) _
 have hlb:=F_below (F_bound hl) hb1
 have HLC:=Sd.m (show Kd.C k93 W1 Al [v].length [v] from F_now hlb)
 have HLB:=Sd.m hlb
 have HB1:=Sd.m hb1
 have HR1:=Sd.m hr1
 have HS1:=Sd.m hs1
 have HFI:=Sd.m hfi
 clear hl hlb hb1 hr1 hn1 hs1 hfi
 go_enter Tryz.func170,Tryz.ntmps170
 go_wp2_with fail
 rw [←hW1]
 clear hW1
 refine (bk_.calls k Al cl [v] nm 0 W1 HLC.out hcl HFI.out).mono ?_
 rintro e V_ ⟨rfl,⟨nq,rfl⟩⟩
 obtain ⟨V,hV⟩: ∃ W_,W_=W1.drewN nq:=⟨_,rfl⟩
 have hb:Below W1.heap.size W1 V:=by rw [hV];exact ad_ (Below.refl _ _) nq
 rw [←hV]
 clear hV
 have hr:=ae_ HR1.out hb
 have hlv:=F_below HLB.out hb
 obtain ⟨ad,cs,rfl,hcl7,hFK,hcc,_⟩:=F_get hlv z93 0 (by decide) (by decide)
 obtain ⟨A2,c2,A3,c3,A4,c4,rfl,l2,g2,l3,g3,l4,g4⟩:=k93_openF hFK
 have cc: ∀ (j:Nat) (u:Value),0<j->([.string v.f0,.int .i64 v.f1.f0,.slice A2 v.f1.f1.length c2,.slice A3 v.f1.f2.length c3,.slice A4 v.f1.f3.length c4,.bool v.f2,.int .i64 v.f3]:List Value)[j]? =some u->V.cell? ⟨ad.block,ad.off+j,none⟩=some u:=by
  intro j u hj hu
  have q:=hcc j u hu
  rw [show (0:Int).toNat*k93.sz+j=0+j by rfl,au_ _ _ j hj] at q
  exact q
 have p1:=cc 1 _ (by decide) rfl
 have p2:=cc 2 _ (by decide) rfl
 have p3:=cc 3 _ (by decide) rfl
 have p4:=cc 4 _ (by decide) rfl
 have n0:=bc_ hr 0 rfl
 have m0:=aa_ hr 0
 have n1:=bc_ hr 1 rfl
 have m1:=aa_ hr 1
 have n2:=bc_ hr 2 rfl
 have m2:=aa_ hr 2
 have n3:=bc_ hr 3 rfl
 have m3:=aa_ hr 3
 have hP: ∀ k_,(P k_∧k_<W.heap.size)->k_≠W.heap.size+1:=fun k_ hk=>by omega
 obtain ⟨V2,hV2⟩: ∃ W_,W_=putL V (W.heap.size+1) 0 [.int .i64 v.f1.f0,.slice A2 v.f1.f1.length c2,.slice A3 v.f1.f2.length c3,.slice A4 v.f1.f3.length c4]:=⟨_,rfl⟩
 have hr2:V2.heap[W.heap.size+1]? =some (.cells #[.int .i64 v.f1.f0,.slice A2 v.f1.f1.length c2,.slice A3 v.f1.f2.length c3,.slice A4 v.f1.f3.length c4] 45 (0,0)):=by rw [hV2];exact cm_ _ V 0 _ hr
 have hb2:Below W.heap.size W V2:=by rw [hV2];exact cf_ (by omega) _ _ _ (HB1.out.trans (hb.mono HB1.out.size))
 have h2:Kd.F k74 V2 (fun k=>P k∨W.heap.size<=k) A2 v.f1.f1.length v.f1.f1:=by rw [hV2];exact F_mono (cb_ hP _ _ _ g2) (fun k hk=>Or.inl hk.1)
 have h3:Kd.F (Kd.int .i64) V2 (fun k=>P k∨W.heap.size<=k) A3 v.f1.f2.length v.f1.f2:=by rw [hV2];exact F_mono (cb_ hP _ _ _ g3) (fun k hk=>Or.inl hk.1)
 have h4:Kd.F k45 V2 (fun k=>P k∨W.heap.size<=k) A4 v.f1.f3.length v.f1.f3:=by rw [hV2];exact F_mono (cb_ hP _ _ _ g4) (fun k hk=>Or.inl hk.1)
 replace hV2:V2=((((V).setCell ⟨W.heap.size+1,0,none⟩ (.int .i64 v.f1.f0)).setCell ⟨W.heap.size+1,1,none⟩ (.slice A2 v.f1.f1.length c2)).setCell ⟨W.heap.size+1,2,none⟩ (.slice A3 v.f1.f2.length c3)).setCell ⟨W.heap.size+1,3,none⟩ (.slice A4 v.f1.f3.length c4):=hV2
 have HR2:=Sd.m hr2
 have HB2:=Sd.m hb2
 have H2:=Sd.m h2
 have H3:=Sd.m h3
 have H4:=Sd.m h4
 have HV2:=Sd.m hV2
 clear hr hr2 hb2 h2 h3 h4 hV2 hlv hb hFK hcc cc g2 g3 g4 hP
 go_wp2_with fail
 rw [←HV2.out]
 refine bodyPost_ret (ea_ rfl _ _ (W.heap.size+1) 45 #[.int .i64 v.f1.f0,.slice A2 v.f1.f1.length c2,.slice A3 v.f1.f2.length c3,.slice A4 v.f1.f3.length c4] (0,0) _ rfl HR2.out Tryz.underlying45 rfl (by kernel_rfl)) rfl ?_
 exact ⟨_,rfl,⟨A2,c2,A3,c3,A4,c4,rfl,l2,H2.out,l3,H3.out,l4,H4.out⟩,HB2.out⟩
def StO (W:World)(P:Nat->Prop)(nm:ByteArray)(lo hi:Int)(A:Option Addr)(c:Nat)(pk:S45)(t10:Value)(Wx:World):Prop:=
 Below W.heap.size W Wx∧W.heap.size+3<=Wx.heap.size∧Wx.heap[W.heap.size]? =some (.cells #[.int .i64 10,.string nm,.int .i64 lo,.int .i64 hi,.slice A 1 c] 85 (0,0))∧Wx.heap[W.heap.size+1]? =some (.cells #[.int .i64 0,.slice none 0 0,.slice none 0 0,.slice none 0 0] 45 (0,0))∧
 ((t10=.int .i64 0∧Wx.heap[W.heap.size+2]? =some (.cells #[.int .i64 5,.slice none 0 0,.slice none 0 0,.slice none 0 0] 45 (0,0)))∨
  (t10=.int .i64 1∧ ∃ A6 c6,Wx.heap[W.heap.size+2]? =some (.cells #[.int .i64 5,.slice none 0 0,.slice none 0 0,.slice A6 1 c6] 45 (0,0))∧1<=c6∧Kd.F k45 Wx (fun j=>(P j∧j<W.heap.size)∨W.heap.size+3<=j) A6 1 [pk]))
theorem whole_star (W:World)(P:Nat->Prop)(k:S85)(pk:S45)(nm:ByteArray)(lo hi:Int)(A:Option Addr)(c:Nat)(vl:Value)(hk:Kd.C k85 W A 1 [k])
  (hkid: ∀ (W':World) (A4:Option Addr) (c4:Nat),Below W.heap.size W W'->k.f4.length<=c4->Kd.C k85 W' A4 k.f4.length k.f4->Calls Tryz.prog 170 #[.agg (NdC k A4 c4),vl] W' (PatAns W' (fun j=>P j∧j<W.heap.size) pk)):
  Calls Tryz.prog 170 #[.agg #[.int .i64 10,.string nm,.int .i64 lo,.int .i64 hi,.slice A 1 c],vl] W (PatAns W P ⟨5,[],[],[pk]⟩):=by
 unfold PatAns
 obtain ⟨W1,hW1⟩: ∃ W_,W_=(W.alloc (.cells #[.int .i64 10,.string nm,.int .i64 lo,.int .i64 hi,.slice A 1 c] 85)).alloc (.cells #[.int .i64 0,.slice none 0 0,.slice none 0 0,.slice none 0 0] 45):=⟨_,rfl⟩
 have hb1:Below W.heap.size W W1:=by rw [hW1];exact ab_ (ab_ (Below.refl W.heap.size W) _) _
 have hs1:W1.heap.size=W.heap.size+2:=by rw [hW1];exact (Array.size_push _).trans (congrArg (· +1) (Array.size_push _))
 have hr1:W1.heap[W.heap.size+1]? =some (.cells #[.int .i64 0,.slice none 0 0,.slice none 0 0,.slice none 0 0] 45 (0,0)):=by
  have e:=ah_ (W.alloc (.cells #[.int .i64 10,.string nm,.int .i64 lo,.int .i64 hi,.slice A 1 c] 85)) (.cells #[.int .i64 0,.slice none 0 0,.slice none 0 0,.slice none 0 0] 45)
  have e2:(W.alloc (.cells #[.int .i64 10,.string nm,.int .i64 lo,.int .i64 hi,.slice A 1 c] 85)).heap.size=W.heap.size+1:=Array.size_push _
  rw [e2] at e
  rw [hW1]
  exact e
 have hn1:W1.heap[W.heap.size]? =some (.cells #[.int .i64 10,.string nm,.int .i64 lo,.int .i64 hi,.slice A 1 c] 85 (0,0)):=by rw [hW1];exact ak_ (ah_ W _) _
 have hb2:Below W1.heap.size W1 (W1.alloc (.cells #[.int .i64 5,.slice none 0 0,.slice none 0 0,.slice none 0 0] 45)):=ab_ (Below.refl _ _) _
 have hO:StO W P nm lo hi A c pk (.int .i64 0) (W1.alloc (.cells #[.int .i64 5,.slice none 0 0,.slice none 0 0,.slice none 0 0] 45)):=by
  refine ⟨hb1.trans (hb2.mono hb1.size),?_,ae_ hn1 hb2,ae_ hr1 hb2,Or.inl ⟨rfl,?_⟩⟩
  ·have:(W1.alloc (.cells #[.int .i64 5,.slice none 0 0,.slice none 0 0,.slice none 0 0] 45)).heap.size=W1.heap.size+1:=Array.size_push _
   omega
  ·have e:=ah_ W1 (.cells #[.int .i64 5,.slice none 0 0,.slice none 0 0,.slice none 0 0] 45)
   rw [hs1] at e
   exact e
 obtain ⟨W2,hW2⟩: ∃ W_,W_=W1.alloc (.cells #[.int .i64 5,.slice none 0 0,.slice none 0 0,.slice none 0 0] 45):=⟨_,rfl⟩
 rw [←hW2] at hO
 rw [hW1] at hW2
 have HO:=Sd.m hO
 have HW2:=Sd.m hW2
 have HK:=Sd.m hk
 have HKID:=Sd.m hkid
 clear hb1 hr1 hn1 hs1 hW1 hb2 hO hW2 hk hkid
 go_enter Tryz.func170,Tryz.ntmps170
 go_wp2_with fail
 rw [←HW2.out]
 go_loopw [10] (fun t10 Wx=>StO W P nm lo hi A c pk t10 Wx) (fun t10 _=>(1 - intOf t10).toNat)
 case atStart=>exact HO.out
 case round=>
  obtain ⟨hbW,hsz,hn,hr,hst⟩:=hrel
  have x4:=bc_ hn 4 rfl
  rcases hst with ⟨rfl,hp⟩ | ⟨rfl,A6,c6,hp,hc6,hF6⟩
  ·obtain ⟨ad,A4,c4,rfl,k0,k1,k2,k3,k4,l4,g4⟩:=at_T85 (Kd.C_below HK.out hbW) 0 (by decide) (by decide)
   change wr.cell? _=some (.int .i64 k.f0) at k0
   change wr.cell? _=some (.string k.f1) at k1
   change wr.cell? _=some (.int .i64 k.f2) at k2
   change wr.cell? _=some (.int .i64 k.f3) at k3
   change wr.cell? _=some (.slice A4 k.f4.length c4) at k4
   have e0:ad.add ((0:Int).toNat*5)=ad:=by simp [Addr.add]
   rw [e0] at k0 k1 k2 k3 k4
   clear e0
   have hcall:=HKID.out wr A4 c4 hbW l4 g4
   unfold NdC at hcall
   have HC:=Sd.m hcall
   have HBW:=Sd.m hbW
   have HSZ:=Sd.m hsz
   have HN:=Sd.m hn
   have HR:=Sd.m hr
   have HP:=Sd.m hp
   clear hcall hbW hsz hn hr hp l4 g4
   go_wp2_with fail
   refine HC.out.mono ?_
   rintro e V ⟨v,rfl,⟨A1,c1,A2,c2,A3,c3,rfl,l1,g1,l2,g2,l3,g3⟩,hb⟩
   have hb3:Below V.heap.size V (V.alloc (.cells #[.int .i64 pk.f0,.slice A1 pk.f1.length c1,.slice A2 pk.f2.length c2,.slice A3 pk.f3.length c3] 45)):=ab_ (Below.refl _ _) _
   have hbV:=hb.trans (hb3.mono hb.size)
   have hx3:=ah_ V (.cells #[.int .i64 pk.f0,.slice A1 pk.f1.length c1,.slice A2 pk.f2.length c2,.slice A3 pk.f3.length c3] 45)
   have hFK:Kd.FK k45 (V.alloc (.cells #[.int .i64 pk.f0,.slice A1 pk.f1.length c1,.slice A2 pk.f2.length c2,.slice A3 pk.f3.length c3] 45)) (fun j=>(P j∧j<W.heap.size)∨W.heap.size+3<=j) pk [.int .i64 pk.f0,.slice A1 pk.f1.length c1,.slice A2 pk.f2.length c2,.slice A3 pk.f3.length c3]:=k45_mkF _ _ pk l1 (F_mono (F_below g1 hb3) (fun j hj=>Or.elim hj Or.inl (fun hj=>Or.inr (by have:=HSZ.out;omega)))) l2 (F_mono (F_below g2 hb3) (fun j hj=>Or.elim hj Or.inl (fun hj=>Or.inr (by have:=HSZ.out;omega)))) l3 (F_mono (F_below g3 hb3) (fun j hj=>Or.elim hj Or.inl (fun hj=>Or.inr (by have:=HSZ.out;omega))))
   obtain ⟨V3,hV3⟩: ∃ W_,W_=V.alloc (.cells #[.int .i64 pk.f0,.slice A1 pk.f1.length c1,.slice A2 pk.f2.length c2,.slice A3 pk.f3.length c3] 45):=⟨_,rfl⟩
   rw [←hV3] at hb3 hbV hx3 hFK
   have hp3:=ae_ HP.out hbV
   have p3:=bc_ hp3 3 rfl
   have b0:=bc_ hx3 0 rfl
   have b1:=bc_ hx3 1 rfl
   have b2:=bc_ hx3 2 rfl
   have b3:=bc_ hx3 3 rfl
   have HX3:=Sd.m hx3
   have HBV:=Sd.m hbV
   have HFK:=Sd.m hFK
   have HP3:=Sd.m hp3
   have HV3:=Sd.m hV3
   have HB:=Sd.m hb
   have HL:=Sd.m (show ∀ j,V3.heap.size<=j->(P j∧j<W.heap.size)∨W.heap.size+3<=j from fun j hj=>Or.inr (by have:=hbV.size;have:=HSZ.out;omega))
   clear hb3 hbV hx3 hFK hp3 hV3 hb g1 g2 g3 k0 k1 k2 k3 k4 x4
   go_upto_region 27 with fail
   rw [←HV3.out]
   go_wp2_with (at_builtin;refine N_append k45 (w0:=V3) (W:=V3) V3.heap.size rfl _ _ 43 45 (.agg #[.int .i64 0,.slice none 0 0,.slice none 0 0,.slice none 0 0]) 80 rfl Tryz.underlying43 (by kernel_rfl) rfl (by decide) (by decide) (.slice none 0 0) [] pk [.int .i64 pk.f0,.slice A1 pk.f1.length c1,.slice A2 pk.f2.length c2,.slice A3 pk.f3.length c3] (fun j=>(P j∧j<W.heap.size)∨W.heap.size+3<=j) (fun j=>(P j∧j<W.heap.size)∨W.heap.size+3<=j) rfl rfl HFK.out (fun k hk=>⟨hk,by simp [Value.ownBlock]⟩) HL.out (N_nil _ _ _ _ _) (Below.refl _ _) (Nat.le_refl _) (by decide) ?_;intro v5 V5 hNx hB5 hg5 hat5;obtain ⟨A6,c6,rfl⟩:=N_slice hNx;have hp5:=ae_ HP3.out hB5;have y5:V5.cell? ⟨W.heap.size+2,3,none⟩=some (.slice none 0 0):=(af_ hp5 3).trans rfl;have z5:V5.frozen? ⟨W.heap.size+2,3,none⟩=false:=aa_ hp5 3;have HNX:=Sd.m hNx;have HB5:=Sd.m hB5;have HP5:=Sd.m hp5;clear hNx hg5 hB5 hat5 hp5)
   have hbb:=HBV.out.trans (HB5.out.mono HBV.out.size)
   have hs5:W.heap.size+3<=V5.heap.size:=Nat.le_trans HSZ.out hbb.size
   go_roundw
   case rel=>
    refine ⟨(HBW.out.trans (hbb.mono HBW.out.size)).setCell (p:=⟨W.heap.size+2,3,none⟩) (by show W.heap.size<=W.heap.size+2;omega) _,by simpa [World.setCell] using hs5,ba_ (ae_ HN.out hbb) (p:=⟨W.heap.size+2,3,none⟩) (by show W.heap.size≠W.heap.size+2;omega) _,ba_ (ae_ HR.out hbb) (p:=⟨W.heap.size+2,3,none⟩) (by show W.heap.size+1≠W.heap.size+2;omega) _,Or.inr ⟨rfl,A6,c6,?_,(N_reads' HNX.out).2.1,F_far (p:=⟨W.heap.size+2,3,none⟩) (N_F HNX.out) (fun j hj=>by show j≠W.heap.size+2;omega) _⟩⟩
    simpa using dk_ HP5.out 3 _
   case measure=>simp [intOf]
  ·obtain ⟨V2,hV2⟩: ∃ W_,W_=putL wr (W.heap.size+1) 0 [.int .i64 5,.slice none 0 0,.slice none 0 0,.slice A6 1 c6]:=⟨_,rfl⟩
   have p0:=bc_ hp 0 rfl
   have p1:=bc_ hp 1 rfl
   have p2:=bc_ hp 2 rfl
   have p3:=bc_ hp 3 rfl
   have q0:=bc_ hr 0 rfl
   have r0:=aa_ hr 0
   have q1:=bc_ hr 1 rfl
   have r1:=aa_ hr 1
   have q2:=bc_ hr 2 rfl
   have r2:=aa_ hr 2
   have q3:=bc_ hr 3 rfl
   have r3:=aa_ hr 3
   have hr2:V2.heap[W.heap.size+1]? =some (.cells #[.int .i64 5,.slice none 0 0,.slice none 0 0,.slice A6 1 c6] 45 (0,0)):=by rw [hV2];exact cm_ _ wr 0 _ hr
   have hb2:Below W.heap.size W V2:=by rw [hV2];exact cf_ (by omega) _ _ _ hbW
   have h2:Kd.F k45 V2 (fun j=>P j∨W.heap.size<=j) A6 1 [pk]:=by rw [hV2];exact F_mono (cb_ (ok:=fun j=>(P j∧j<W.heap.size)∨W.heap.size+3<=j) (fun j hj=>by omega) _ _ _ hF6) (fun j hj=>by rcases hj with hj | hj;exact Or.inl hj.1;exact Or.inr (by omega))
   replace hV2:V2=((((wr).setCell ⟨W.heap.size+1,0,none⟩ (.int .i64 5)).setCell ⟨W.heap.size+1,1,none⟩ (.slice none 0 0)).setCell ⟨W.heap.size+1,2,none⟩ (.slice none 0 0)).setCell ⟨W.heap.size+1,3,none⟩ (.slice A6 1 c6):=hV2
   have HR2:=Sd.m hr2
   have HB2:=Sd.m hb2
   have H2:=Sd.m h2
   have HV2:=Sd.m hV2
   clear hbW hsz hn hr hp hF6 hr2 hb2 h2 hV2
   go_wp2_with fail
   rw [←HV2.out]
   refine bodyPost_ret (ea_ rfl _ _ (W.heap.size+1) 45 #[.int .i64 5,.slice none 0 0,.slice none 0 0,.slice A6 1 c6] (0,0) _ rfl HR2.out Tryz.underlying45 rfl (by kernel_rfl)) rfl ?_
   exact ⟨_,rfl,⟨none,0,none,0,A6,c6,rfl,Nat.le_refl _,F_nil _ _ _,Nat.le_refl _,F_nil _ _ _,hc6,H2.out⟩,HB2.out⟩
end LX
namespace K
open A
attribute [local go_sem] ct_ cq_ cz_ cy_ ch_ cg_ cr_ cp_
def bh_.l0:Nat->List Int->ByteArray->Int->Option (ByteArray)
 | 0,_,_,_=>none
 | k+1,x0,x3,x4=>if x4<(x0.length:Int) then (if 0<=x4 then ((some (([(rd x0 x4) % 256]:List Int):List Int)).bind fun y155=>(if x3.size+(strOfNums y155).size<=9223372036854775807 then (bh_.l0 k x0 (x3 ++ (strOfNums y155)) (wrap64 (x4+1))) else (none))) else (none)) else (some x3)
def bh_.f (k:Nat)(l0:List Int):Option (ByteArray):=bh_.l0 k l0 (⟨#[]⟩:ByteArray) 0
theorem bh_.calls (k:Nat)(A0:Option Addr)(c0:Nat)(l0:List Int)(r:ByteArray)(w:World)(hr0:Kd.C (Kd.int .i64) w A0 l0.length l0)(hc0:l0.length<=c0)(h:bh_.f k l0=some r):
  Calls Tryz.prog 179 #[.slice A0 l0.length c0] w fun e w'=>e=.returned (.string r)∧Below w.heap.size w w':=by
 have HR0:=Sd.m hr0
 have HC0:=Sd.m hc0
 clear hr0 hc0
 have HB:=Sd.m (Below.refl w.heap.size w)
 have H:(bh_.l0 k l0 (⟨#[]⟩:ByteArray) 0)=some r:=h
 clear h
 have H':=Sd.m H
 clear H
 go_enter Tryz.func179,Tryz.ntmps179
 go_wp2
 go_loopg [3,4] k (fun kq v3 v4 w'=> ∃ (x3_1:ByteArray) (x4_1:Int),v3=.string x3_1∧v4=.int .i64 x4_1∧Sd (bh_.l0 kq l0 x3_1 x4_1=some r)∧Sd (kq<=k)∧Sd (Below w.heap.size w w'))
 case atStart=>exact ⟨((⟨#[]⟩:ByteArray)),(0),ri_,ri_,H',⟨Nat.le_refl _⟩,⟨rb_⟩⟩
 case round=>
  clear H'
  obtain ⟨x3_1,x4_1,rfl,rfl,HA,HK1,HB⟩:=hrel
  cases gk with
  | zero=>exact absurd HA.out (by simp [bh_.l0])
  | succ k1=>
   have H:=HA.out
   clear HA
   simp only [bh_.l0] at H
   by_cases c2:x4_1<(l0.length:Int)
   ·rw [if_pos c2] at H
    have c2b0:=dt__ c2
    clear c2
    by_cases c3:0<=x4_1
    ·rw [if_pos c3] at H
     have c3b0:=dt__ c3
     clear c3
     obtain ⟨y155,hy155⟩: ∃ y_:List Int,y_=(([(rd l0 x4_1) % 256]:List Int)):=⟨_,rfl⟩
     replace H:(if x3_1.size+(strOfNums y155).size<=9223372036854775807 then (bh_.l0 k1 l0 (x3_1 ++ (strOfNums y155)) (wrap64 (x4_1+1))) else (none))=some r:=by first | (rw [hy155];with_reducible exact H) | (have H2_:=(Option.bind_some _ _).symm.trans H;rw [hy155];with_reducible exact H2_) | (have H2_:=(Option.bind_some _ _).symm.trans H;with_reducible exact H2_) | with_reducible exact H | (rw [hy155];exact H) | exact H
     have Ny155:=Sd.m hy155
     clear hy155
     by_cases c4:x3_1.size+(strOfNums y155).size<=9223372036854775807
     ·rw [if_pos c4] at H
      have c4b0:=eq_true c4
      have c4b1:=dt__ c4
      try have c4b2:(9223372036854775807<x3_1.size+(strOfNums y155).size)=False:=eq_false (Nat.not_lt.2 c4)
      have H':=Sd.m H
      clear H
      obtain ⟨ad154,rfl,hx154_0,p154,q154⟩:=ai_ HR0.out HB.out x4_1
      go_wp2_with (first | ((with_reducible refine ci_ (N:=17) rfl ?_);refine Kd.R_lit (Kd.int .u8) _ 5 ?hg (N:=17) ?hd (xs:=([(rd l0 x4_1) % 256]:List Int)) (inner:=[.int .u8 ((rd l0 x4_1) % 256)]) (ok:=fun _=>True) (okp:=fun _=>True) ?hr ?hp (fun _ hk=>hk) trivial (Below.refl _ _) (Nat.le_refl _) (by simp) ?_;(case hd=>rfl);(case hg=>rfl);(case hr=>first | (go_simp;done) | (go_simp;rfl));(case hp=>exact (Reps.one (show Kd.M (Kd.int .u8) _ _ _ ((rd l0 x4_1) % 256) [.int .u8 ((rd l0 x4_1) % 256)] from rfl) (Reps.none _ _)));intro v156 w5 ho6 hb hg_ hnew_;clear hg_ hnew_;(first | rw [←Ny155.out] at ho6 | (simp only [Int.reduceToNat] at ho6;rw [←Ny155.out] at ho6));have n0_:=Sd.m (Kd.R_lower ho6 (ap_ rb_));have n1_:=Sd.m (ay_ rb_ hb);clear HB;have HO157:=n0_;have HB:=n1_;clear n0_ n1_;clear hb ho6;have hcv7:=hq_ (P:=Tryz.prog) Tryz.underlying65 Tryz.underlying5 Tryz.underlying9 (Kd.ks_ HO157.out)))
      go_roundg k1
      case measure=>have:=HK1.out;omega
      case rel=>exact ⟨(x3_1 ++ (strOfNums y155)),(wrap64 (x4_1+1)),ri_,ri_,H',⟨by have:=HK1.out;omega⟩,⟨rb_⟩⟩
     ·rw [if_neg c4] at H
      exact absurd H (by simp)
    ·rw [if_neg c3] at H
     exact absurd H (by simp)
   ·rw [if_neg c2] at H
    have c2b0:=df__ c2
    clear c2
    obtain rfl:=Option.some.inj H
    go_wp2
    go_ret
    exact ⟨re_,rb_⟩
mutual
def av_.j0:Nat->List Int->Int->Bool->Option (Int × Int × Int)
 | 0,_,_,_=>none
 | k+1,x0,x1,x15=>if x15=true then (none) else (if x1=(x0.length:Int) then (none) else (if 0<=x1 then (if x1<(x0.length:Int) then (if (rd x0 x1)=92 then (none) else (av_.j1 k x0 x1 false)) else (none)) else (none)))
def av_.j1:Nat->List Int->Int->Bool->Option (Int × Int × Int)
 | 0,_,_,_=>none
 | k+1,x0,x1,x34=>if x34=true then (none) else (if 0<=x1 then (if x1<(x0.length:Int) then (if (rd x0 x1)=92 then (none) else (some (rd x0 x1,wrap64 (x1+1),0))) else (none)) else (none))
end
def av_.f (k:Nat)(l0:List Int)(a1:Int):Option (Int × Int × Int):=if a1<0 then (none) else (av_.j0 k l0 a1 (decide (a1>(l0.length:Int))))
theorem av_.calls (k:Nat)(A0:Option Addr)(c0:Nat)(l0:List Int)(a1:Int)(r1:Int)(r2:Int)(r3:Int)(w:World)(hr0:Kd.C (Kd.int .i64) w A0 l0.length l0)(hc0:l0.length<=c0)(h:av_.f k l0 a1=some (r1,r2,r3)):
  Calls Tryz.prog 180 #[.slice A0 l0.length c0,.int .i64 a1] w fun e w'=>e=.returned (.tuple #[.int .i64 r1,.int .i64 r2,.int .i64 r3])∧Drawn0 w w':=by
 have HR0:=Sd.m hr0
 have HC0:=Sd.m hc0
 clear hr0 hc0
 have H:(if a1<0 then (none) else (av_.j0 k l0 a1 (decide (a1>(l0.length:Int)))))=some (r1,r2,r3):=h
 clear h
 have HC3:=Sd.m H
 clear H
 go_enter Tryz.func180,Tryz.ntmps180
 go_upto_region 1 with (fail)
 go_cut [15] (fun v15 wc=> ∃ (kq:Nat) (x15_2:Bool),v15=.bool x15_2∧Sd (av_.j0 kq l0 a1 x15_2=some (r1,r2,r3))∧Sd (kq<=k)∧Drawn0 w wc)
 case first=>
  have H:=HC3.out
  clear HC3
  by_cases c4:a1<0
  ·rw [if_pos c4] at H
   exact absurd H (by simp)
  ·rw [if_neg c4] at H
   have c4b0:=df__ c4
   clear c4
   (first | rw [c4b0] | (simp only [ds_,du_];rw [c4b0]) | skip)
   have H':=Sd.m H
   clear H
   go_wp2
   go_meet
   case rel=>exact ⟨_,(decide (a1>(l0.length:Int))),ri_,H',⟨by first | omega | exact Nat.le_refl _⟩,dr_⟩
 case rest=>
  clear HC3
  obtain ⟨kq,x15_2,rfl,HA,HJ2,⟨mc2,rfl⟩⟩:=hcut
  cases kq with
  | zero=>exact absurd HA.out (by simp [av_.j0])
  | succ kj2=>
   have H:=HA.out
   clear HA
   simp only [av_.j0] at H
   by_cases c5:x15_2=true
   ·rw [if_pos c5] at H
    exact absurd H (by simp)
   ·replace c5:=Bool.eq_false_iff.mpr c5
    subst c5
    have H1:(if a1=(l0.length:Int) then (none) else (if 0<=a1 then (if a1<(l0.length:Int) then (if (rd l0 a1)=92 then (none) else (av_.j1 kj2 l0 a1 false)) else (none)) else (none)))=some (r1,r2,r3):=by rw [if_neg (show ¬ (false=true) by decide)] at H;exact H
    clear H
    have H:=H1
    clear H1
    have HC6:=Sd.m H
    clear H
    go_upto_region 3 with (fail)
    go_cut [34] (fun v34 wc=> ∃ (kq:Nat) (x34_5:Bool),v34=.bool x34_5∧Sd (av_.j1 kq l0 a1 x34_5=some (r1,r2,r3))∧Sd (kq<=kj2)∧Drawn0 w wc)
    case first=>
     have H:=HC6.out
     clear HC6
     by_cases c7:a1=(l0.length:Int)
     ·rw [if_pos c7] at H
      exact absurd H (by simp)
     ·rw [if_neg c7] at H
      have c7b0:(a1 == (l0.length:Int))=false:=beq_eq_false_iff_ne.mpr c7
      have c7b1:(a1 != (l0.length:Int))=true:=bne_iff_ne.mpr c7
      (first | rw [c7b0] | (simp only [ds_,du_];rw [c7b0]) | skip)
      by_cases c8:0<=a1
      ·rw [if_pos c8] at H
       have c8b0:=dt__ c8
       clear c8
       by_cases c9:a1<(l0.length:Int)
       ·rw [if_pos c9] at H
        have c9b0:=dt__ c9
        clear c9
        by_cases c10:(rd l0 a1)=92
        ·rw [if_pos c10] at H
         exact absurd H (by simp)
        ·rw [if_neg c10] at H
         have c10b0:((rd l0 a1) == 92)=false:=beq_eq_false_iff_ne.mpr c10
         have c10b1:((rd l0 a1) != 92)=true:=bne_iff_ne.mpr c10
         have H':=Sd.m H
         clear H
         have p162:0<=(a1:Int):=od_
         have q162:a1<(l0.length:Int):=od_
         obtain ⟨ad162,e162,hx162_0⟩:=Kd.de_ HR0.out a1 p162 q162
         cases e162
         replace p162:=eq_true p162
         replace q162:=eq_true q162
         go_wp2
         go_meet
         case rel=>exact ⟨_,(false),ri_,H',⟨by have:=HJ2.out;first | omega | exact Nat.le_refl _⟩,dr_⟩
       ·rw [if_neg c9] at H
        exact absurd H (by simp)
      ·rw [if_neg c8] at H
       exact absurd H (by simp)
    case rest=>
     clear HC6
     obtain ⟨kq,x34_5,rfl,HA,HJ5,⟨mc5,rfl⟩⟩:=hcut
     cases kq with
     | zero=>exact absurd HA.out (by simp [av_.j1])
     | succ kj5=>
      have H:=HA.out
      clear HA
      simp only [av_.j1] at H
      by_cases c11:x34_5=true
      ·rw [if_pos c11] at H
       exact absurd H (by simp)
      ·replace c11:=Bool.eq_false_iff.mpr c11
       subst c11
       have H1:(if 0<=a1 then (if a1<(l0.length:Int) then (if (rd l0 a1)=92 then (none) else (some (rd l0 a1,wrap64 (a1+1),0))) else (none)) else (none))=some (r1,r2,r3):=by rw [if_neg (show ¬ (false=true) by decide)] at H;exact H
       clear H
       have H:=H1
       clear H1
       by_cases c12:0<=a1
       ·rw [if_pos c12] at H
        have c12b0:=dt__ c12
        clear c12
        by_cases c13:a1<(l0.length:Int)
        ·rw [if_pos c13] at H
         have c13b0:=dt__ c13
         clear c13
         by_cases c14:(rd l0 a1)=92
         ·rw [if_pos c14] at H
          exact absurd H (by simp)
         ·rw [if_neg c14] at H
          have c14b0:((rd l0 a1) == 92)=false:=beq_eq_false_iff_ne.mpr c14
          have c14b1:((rd l0 a1) != 92)=true:=bne_iff_ne.mpr c14
          simp only [Option.some.injEq,Prod.mk.injEq] at H
          obtain ⟨rfl,rfl,rfl⟩:=H
          have p163:0<=(a1:Int):=od_
          have q163:a1<(l0.length:Int):=od_
          obtain ⟨ad163,e163,hx163_0⟩:=Kd.de_ HR0.out a1 p163 q163
          cases e163
          replace p163:=eq_true p163
          replace q163:=eq_true q163
          have p164:0<=(a1:Int):=od_
          have q164:a1<(l0.length:Int):=od_
          obtain ⟨ad164,e164,hx164_0⟩:=Kd.de_ HR0.out a1 p164 q164
          obtain rfl:ad163=ad164:=(by injection e164)
          replace p164:=eq_true p164
          replace q164:=eq_true q164
          go_wp2
          go_ret3
          exact ⟨ri_,dr_⟩
        ·rw [if_neg c13] at H
         exact absurd H (by simp)
       ·rw [if_neg c12] at H
        exact absurd H (by simp)
mutual
def bg_.l0:Nat->Int->Int->Int->List (S74)->List Int->List (S45)->Option (Int)
 | 0,_,_,_,_,_,_=>none
 | k+1,x3,x4,x172000,x172001,x172002,x172003=>if x4<(x172003.length:Int) then (if 0<=x4 then ((bg_.f k ((bw_ x172003 x4).f0) ((bw_ x172003 x4).f1) ((bw_ x172003 x4).f2) ((bw_ x172003 x4).f3)).bind fun t173=>(bg_.l0 k (mn 100000 (wrap64 (x3+t173))) (wrap64 (x4+1)) x172000 x172001 x172002 x172003)) else (none)) else (some x3)
def bg_.f:Nat->Int->List (S74)->List Int->List (S45)->Option (Int)
 | 0,_,_,_,_=>none
 | k+1,a0_0,l0_1,l0_2,l0_3=>bg_.l0 k 1 0 a0_0 l0_1 l0_2 l0_3
end
theorem bg_.calls (k:Nat): ∀ (a0_0:Int) (A0_1:Option Addr) (c0_1:Nat) (l0_1:List (S74)) (A0_2:Option Addr) (c0_2:Nat) (l0_2:List Int) (A0_3:Option Addr) (c0_3:Nat) (l0_3:List (S45)) (r:Int) (w:World) (hr0_1:Kd.C k74 w A0_1 l0_1.length l0_1) (hc0_1:l0_1.length<=c0_1) (hr0_2:Kd.C (Kd.int .i64) w A0_2 l0_2.length l0_2) (hc0_2:l0_2.length<=c0_2) (hr0_3:Kd.C k45 w A0_3 l0_3.length l0_3) (hc0_3:l0_3.length<=c0_3) (h:bg_.f k a0_0 l0_1 l0_2 l0_3=some r),
  Calls Tryz.prog 22 #[.agg #[.int .i64 a0_0,.slice A0_1 l0_1.length c0_1,.slice A0_2 l0_2.length c0_2,.slice A0_3 l0_3.length c0_3]] w fun e w'=>e=.returned (.int .i64 r)∧Below w.heap.size w w':=by
 induction k using Nat.strongRecOn with
 | _ k ih=>
 intro a0_0 A0_1 c0_1 l0_1 A0_2 c0_2 l0_2 A0_3 c0_3 l0_3 r w hr0_1 hc0_1 hr0_2 hc0_2 hr0_3 hc0_3 h
 cases k with
 | zero=>exact absurd h (by simp [bg_.f])
 | succ k=>
 simp only [bg_.f] at h
 have hu45:=Tryz.underlying45
 have HR0_1:=Sd.m hr0_1
 have HC0_1:=Sd.m hc0_1
 clear hr0_1 hc0_1
 have HR0_2:=Sd.m hr0_2
 have HC0_2:=Sd.m hc0_2
 clear hr0_2 hc0_2
 have HR0_3:=Sd.m hr0_3
 have HC0_3:=Sd.m hc0_3
 clear hr0_3 hc0_3
 have HB:=Sd.m (Below.refl w.heap.size w)
 have H:(bg_.l0 k 1 0 a0_0 l0_1 l0_2 l0_3)=some r:=h
 clear h
 have H':=Sd.m H
 clear H
 go_enter Tryz.func22,Tryz.ntmps22
 go_wp2_with (first | ((with_reducible refine ci_ (N:=1) rfl ?_);refine cw_ ?hg (N:=1) ?hd (cs:=#[.int .i64 a0_0,.slice A0_1 l0_1.length c0_1,.slice A0_2 l0_2.length c0_2,.slice A0_3 l0_3.length c0_3]) (t:=45) ?hr ?_;(case hd=>rfl);(case hg=>rfl);(case hr=>first | (go_simp;done) | (go_simp;rfl));intro gb171 hg w2 hbox hb;have n0_:=Sd.m (ay_ rb_ hb);have n1_:=Sd.m (hbox);have n2_:=Sd.m ((by rw [hg];exact (ap_ rb_):w.heap.size<=gb171));have n3_:=Sd.m ((by rw [hg];exact (ap_ rb_):w.heap.size<=gb171));clear HB;have HB:=n0_;have BK171:=n1_;have GW171:=n2_;have GE171:=n3_;clear n0_ n1_ n2_ n3_;clear hb hbox hg))
 go_loopg [3,4] k (fun kq v3 v4 w'=> ∃ (x3_1:Int) (x4_1:Int),v3=.int .i64 x3_1∧v4=.int .i64 x4_1∧Sd (bg_.l0 kq x3_1 x4_1 a0_0 l0_1 l0_2 l0_3=some r)∧Sd (kq<=k)∧Sd (w'.heap[gb171]? =some (.cells #[.int .i64 a0_0,(.slice A0_1 l0_1.length c0_1),(.slice A0_2 l0_2.length c0_2),(.slice A0_3 l0_3.length c0_3)] 45 (0,0)))∧Sd (Below w.heap.size w w'))
 case atStart=>exact ⟨(1),(0),ri_,ri_,H',⟨Nat.le_refl _⟩,⟨by (with_reducible repeat (first | refine aw_ ?_ _ | refine bf_ ?_ | refine ak_ ?_ _));exact BK171.out⟩,⟨by repeat (first | (with_reducible first | exact HB.out | apply ab_ | apply ad_ | apply aq_ | refine ax_ ?_ GE171.out) | exact HB.out)⟩⟩
 case round=>
  clear H'
  obtain ⟨x3_1,x4_1,rfl,rfl,HA,HK1,BK171,HB⟩:=hrel
  cases gk with
  | zero=>exact absurd HA.out (by simp [bg_.l0])
  | succ k1=>
   have H:=HA.out
   clear HA
   simp only [bg_.l0] at H
   by_cases c3:x4_1<(l0_3.length:Int)
   ·rw [if_pos c3] at H
    have c3b0:=dt__ c3
    clear c3
    by_cases c4:0<=x4_1
    ·rw [if_pos c4] at H
     have c4b0:=dt__ c4
     clear c4
     replace H:=Option.bind_eq_some_iff.mp H
     obtain ⟨t173,A50,H⟩:=H
     replace H:(bg_.l0 k1 (mn 100000 (wrap64 (x3_1+t173))) (wrap64 (x4_1+1)) a0_0 l0_1 l0_2 l0_3)=some r:=H
     have A5:=Sd.m A50
     clear A50
     obtain ⟨ji6,hji6⟩: ∃ j_:Int,(mn 100000 (wrap64 (x3_1+t173)))=j_:=⟨_,rfl⟩
     replace H:(bg_.l0 k1 ji6 (wrap64 (x4_1+1)) a0_0 l0_1 l0_2 l0_3)=some r:=by first | (rw [hji6] at H;exact H) | (simp only [hji6] at H ⊢;exact H)
     (try rw [hji6] at A5)
     have hji6_:(if (wrap64 (x3_1+t173))<100000 then (wrap64 (x3_1+t173)) else 100000)=ji6:=hji6
     have H':=Sd.m H
     clear H
     have hcz7_0:=bc_ BK171.out 0 rfl
     have hcz7_1:=bc_ BK171.out 1 rfl
     have hcz7_2:=bc_ BK171.out 2 rfl
     have hcz7_3:=bc_ BK171.out 3 rfl
     have hfz7_0:=aa_ BK171.out 0
     have hfz7_1:=aa_ BK171.out 1
     have hfz7_2:=aa_ BK171.out 2
     have hfz7_3:=aa_ BK171.out 3
     have p172:0<=(x4_1:Int):=od_
     have q172:x4_1<(l0_3.length:Int):=od_
     obtain ⟨ad172,A172_1,c172_1,A172_2,c172_2,A172_3,c172_3,e172,hx172_0,hx172_1,hx172_2,hx172_3,hl172_1,hi172_1,hl172_2,hi172_2,hl172_3,hi172_3⟩:=hn_ HR0_3.out x4_1 p172 q172
     cases e172
     replace hx172_0:=(HB.out.cell (bl__ w _ hx172_0)).trans hx172_0
     replace hx172_1:=(HB.out.cell (bl__ w _ hx172_1)).trans hx172_1
     replace hx172_2:=(HB.out.cell (bl__ w _ hx172_2)).trans hx172_2
     replace hx172_3:=(HB.out.cell (bl__ w _ hx172_3)).trans hx172_3
     have HR172_1:=Sd.m hi172_1
     have HC172_1:=Sd.m hl172_1
     clear hi172_1 hl172_1
     have HR172_2:=Sd.m hi172_2
     have HC172_2:=Sd.m hl172_2
     clear hi172_2 hl172_2
     have HR172_3:=Sd.m hi172_3
     have HC172_3:=Sd.m hl172_3
     clear hi172_3 hl172_3
     replace p172:=eq_true p172
     replace q172:=eq_true q172
     go_wp2_with (first | ((with_reducible refine cj_ (f:=22) rfl ?_);refine goesL_ (some 18) rfl rfl Tryz.func22 (by kernel_rfl) rfl #[.agg #[.int .i64 ((bw_ l0_3 x4_1).f0),.slice A172_1 ((bw_ l0_3 x4_1).f1).length c172_1,.slice A172_2 ((bw_ l0_3 x4_1).f2).length c172_2,.slice A172_3 ((bw_ l0_3 x4_1).f3).length c172_3]] rfl gl_ ?_;(with_reducible refine (ih k1 (by have:=HK1.out;omega) ((bw_ l0_3 x4_1).f0) _ _ ((bw_ l0_3 x4_1).f1) _ _ ((bw_ l0_3 x4_1).f2) _ _ ((bw_ l0_3 x4_1).f3) t173 _ ?side1 ?side2 ?side3 ?side4 ?side5 ?side6 A5.out).mono ?_);(case side1=>exact cs_ (Kd.C_below HR172_1.out HB.out));(case side2=>exact HC172_1.out);(case side3=>exact cs_ (Kd.C_below HR172_2.out HB.out));(case side4=>exact HC172_2.out);(case side5=>exact cs_ (Kd.C_below HR172_3.out HB.out));(case side6=>exact HC172_3.out);rintro e w8 ⟨rfl,hb⟩;refine ⟨_,rfl,?_⟩;have n0_:=Sd.m (ae_ (g:=gb171) (o:=.cells #[.int .i64 a0_0,.slice A0_1 l0_1.length c0_1,.slice A0_2 l0_2.length c0_2,.slice (some ad172) l0_3.length c0_3] 45 (0,0)) (by (with_reducible repeat (first | refine aw_ ?_ _ | refine bf_ ?_ | refine ak_ ?_ _));exact BK171.out) hb);have n1_:=Sd.m (ay_ (by repeat (first | (with_reducible first | exact HB.out | apply ab_ | apply ad_ | apply aq_ | refine ax_ ?_ GE171.out) | exact HB.out)) hb);clear BK171;clear HB;have BK171:=n0_;have HB:=n1_;clear n0_ n1_;(try clear hb);(try clear hb2);(try clear hk);(try clear hi)))
     go_roundg k1
     case measure=>have:=HK1.out;omega
     case rel=>exact ⟨(ji6),(wrap64 (x4_1+1)),(by first | rfl | (simp;done) | (simp only [←hji6] <;> (first | rfl | simp)) | (simp [*];done)),ri_,H',⟨by have:=HK1.out;omega⟩,⟨by (with_reducible repeat (first | refine aw_ ?_ _ | refine bf_ ?_ | refine ak_ ?_ _));exact BK171.out⟩,⟨by repeat (first | (with_reducible first | exact HB.out | apply ab_ | apply ad_ | apply aq_ | refine ax_ ?_ GE171.out) | exact HB.out)⟩⟩
    ·rw [if_neg c4] at H
     exact absurd H (by simp)
   ·rw [if_neg c3] at H
    have c3b0:=df__ c3
    clear c3
    obtain rfl:=Option.some.inj H
    have hcz9_0:=bc_ BK171.out 0 rfl
    have hcz9_1:=bc_ BK171.out 1 rfl
    have hcz9_2:=bc_ BK171.out 2 rfl
    have hcz9_3:=bc_ BK171.out 3 rfl
    have hfz9_0:=aa_ BK171.out 0
    have hfz9_1:=aa_ BK171.out 1
    have hfz9_2:=aa_ BK171.out 2
    have hfz9_3:=aa_ BK171.out 3
    go_wp2
    go_ret
    exact ⟨re_,by repeat (first | (with_reducible first | exact HB.out | apply ab_ | apply ad_ | apply aq_ | refine ax_ ?_ GE171.out) | exact HB.out)⟩
end K
namespace LX
open Shelf YthfceiincmkccaaGreatW.PrintWords.Kd A K L B
theorem ez_ (W:World)(P:Nat->Prop)(k:S85)(A:Option Addr)(c:Nat)(vl:Value)(p:S45)(hw: ∀ W',Below W.heap.size W W'->Calls Tryz.prog 170 #[.agg (NdC k A c),vl] W' (PatAns W' (fun j=>P j∧j<W.heap.size) p))(kk:Nat)(sz:Int)(hsz:bg_.f kk p.f0 p.f1 p.f2 p.f3=some sz)(hs3:sz<=300):
  Calls Tryz.prog 135 #[.agg (NdC k A c),vl] W (PatAns W P p):=by
 unfold PatAns
 unfold NdC at hw ⊢
 obtain ⟨W1,hW1⟩: ∃ W_,W_=(W.alloc (.cells #[.int .i64 k.f0,.string k.f1,.int .i64 k.f2,.int .i64 k.f3,.slice A k.f4.length c] 85)).alloc (.cells #[.int .i64 0,.slice none 0 0,.slice none 0 0,.slice none 0 0] 45):=⟨_,rfl⟩
 have hb1:Below W.heap.size W W1:=by rw [hW1];exact ab_ (ab_ (Below.refl W.heap.size W) _) _
 have hs1:W1.heap.size=W.heap.size+2:=by rw [hW1];exact (Array.size_push _).trans (congrArg (· +1) (Array.size_push _))
 have hr1:W1.heap[W.heap.size+1]? =some (.cells #[.int .i64 0,.slice none 0 0,.slice none 0 0,.slice none 0 0] 45 (0,0)):=by
  have e:=ah_ (W.alloc (.cells #[.int .i64 k.f0,.string k.f1,.int .i64 k.f2,.int .i64 k.f3,.slice A k.f4.length c] 85)) (.cells #[.int .i64 0,.slice none 0 0,.slice none 0 0,.slice none 0 0] 45)
  have e2:(W.alloc (.cells #[.int .i64 k.f0,.string k.f1,.int .i64 k.f2,.int .i64 k.f3,.slice A k.f4.length c] 85)).heap.size=W.heap.size+1:=Array.size_push _
  rw [e2] at e
  rw [hW1]
  exact e
 have HC:=Sd.m (hw W1 hb1)
 have HB1:=Sd.m hb1
 have HR1:=Sd.m hr1
 have HS1:=Sd.m hs1
 have HSZ:=Sd.m hsz
 clear hw hb1 hr1 hs1 hsz
 go_enter Tryz.func135,Tryz.ntmps135
 go_wp2_with fail
 rw [←hW1]
 clear hW1
 refine HC.out.mono ?_
 rintro e V ⟨v,rfl,⟨A1,c1,A2,c2,A3,c3,rfl,l1,g1,l2,g2,l3,g3⟩,hb⟩
 have hr:=ae_ HR1.out hb
 have hb3:Below V.heap.size V (V.alloc (.cells #[.int .i64 p.f0,.slice A1 p.f1.length c1,.slice A2 p.f2.length c2,.slice A3 p.f3.length c3] 45)):=ab_ (Below.refl _ _) _
 have hx3:=ah_ V (.cells #[.int .i64 p.f0,.slice A1 p.f1.length c1,.slice A2 p.f2.length c2,.slice A3 p.f3.length c3] 45)
 obtain ⟨V3,hV3⟩: ∃ W_,W_=V.alloc (.cells #[.int .i64 p.f0,.slice A1 p.f1.length c1,.slice A2 p.f2.length c2,.slice A3 p.f3.length c3] 45):=⟨_,rfl⟩
 rw [←hV3] at hb3 hx3
 have b0:=bc_ hx3 0 rfl
 have b1:=bc_ hx3 1 rfl
 have b2:=bc_ hx3 2 rfl
 have b3:=bc_ hx3 3 rfl
 have HV3:=Sd.m hV3
 have HX3:=Sd.m hx3
 have HB3:=Sd.m (hb.trans (hb3.mono hb.size))
 have HR3:=Sd.m (ae_ hr hb3)
 have G1:=Sd.m (F_below g1 hb3)
 have G2:=Sd.m (F_below g2 hb3)
 have G3:=Sd.m (F_below g3 hb3)
 clear hV3 hx3 hb3 hr g1 g2 g3 hb
 go_upto_region 4 with fail
 rw [←HV3.out]
 go_wp2_with fail
 refine (bg_.calls kk p.f0 A1 c1 p.f1 A2 c2 p.f2 A3 c3 p.f3 sz V3 (F_now G1.out) l1 (F_now G2.out) l2 (F_now G3.out) l3 HSZ.out).mono ?_
 rintro e V4 ⟨rfl,hb4⟩
 have hx4:=ae_ HX3.out hb4
 have hr4:=ae_ HR3.out hb4
 have d1:decide (300<sz)=false:=df__ (by omega)
 clear b0 b1 b2 b3
 have b0:=bc_ hx4 0 rfl
 have b1:=bc_ hx4 1 rfl
 have b2:=bc_ hx4 2 rfl
 have b3:=bc_ hx4 3 rfl
 have n0:=bc_ hr4 0 rfl
 have m0:=aa_ hr4 0
 have n1:=bc_ hr4 1 rfl
 have m1:=aa_ hr4 1
 have n2:=bc_ hr4 2 rfl
 have m2:=aa_ hr4 2
 have n3:=bc_ hr4 3 rfl
 have m3:=aa_ hr4 3
 obtain ⟨V5,hV5⟩: ∃ W_,W_=putL V4 (W.heap.size+1) 0 [.int .i64 p.f0,.slice A1 p.f1.length c1,.slice A2 p.f2.length c2,.slice A3 p.f3.length c3]:=⟨_,rfl⟩
 have hr5:V5.heap[W.heap.size+1]? =some (.cells #[.int .i64 p.f0,.slice A1 p.f1.length c1,.slice A2 p.f2.length c2,.slice A3 p.f3.length c3] 45 (0,0)):=by rw [hV5];exact cm_ _ V4 0 _ hr4
 have hb5:Below W.heap.size W V5:=by rw [hV5];exact cf_ (by omega) _ _ _ ((HB1.out.trans (HB3.out.mono HB1.out.size)).trans (hb4.mono ((HB1.out.trans (HB3.out.mono HB1.out.size))).size))
 have ok1: ∀ j,((P j∧j<W.heap.size)∨W1.heap.size<=j)->j≠W.heap.size+1:=fun j hj=>by have:=HS1.out;rcases hj with hj | hj <;> omega
 have ok2: ∀ j,((P j∧j<W.heap.size)∨W1.heap.size<=j)->(P j∨W.heap.size<=j):=fun j hj=>Or.elim hj (fun h=>Or.inl h.1) (fun h=>Or.inr (by have:=HS1.out;omega))
 have h1:Kd.F k74 V5 (fun j=>P j∨W.heap.size<=j) A1 p.f1.length p.f1:=by rw [hV5];exact F_mono (cb_ ok1 _ _ _ (F_below G1.out hb4)) ok2
 have h2:Kd.F (Kd.int .i64) V5 (fun j=>P j∨W.heap.size<=j) A2 p.f2.length p.f2:=by rw [hV5];exact F_mono (cb_ ok1 _ _ _ (F_below G2.out hb4)) ok2
 have h3:Kd.F k45 V5 (fun j=>P j∨W.heap.size<=j) A3 p.f3.length p.f3:=by rw [hV5];exact F_mono (cb_ ok1 _ _ _ (F_below G3.out hb4)) ok2
 replace hV5:V5=((((V4).setCell ⟨W.heap.size+1,0,none⟩ (.int .i64 p.f0)).setCell ⟨W.heap.size+1,1,none⟩ (.slice A1 p.f1.length c1)).setCell ⟨W.heap.size+1,2,none⟩ (.slice A2 p.f2.length c2)).setCell ⟨W.heap.size+1,3,none⟩ (.slice A3 p.f3.length c3):=hV5
 have HR5:=Sd.m hr5
 have HB5:=Sd.m hb5
 have H1:=Sd.m h1
 have H2:=Sd.m h2
 have H3:=Sd.m h3
 have HV5:=Sd.m hV5
 clear hx4 hr4 hr5 hb5 h1 h2 h3 hV5 ok1 ok2 hb4
 go_wp2_with fail
 rw [←HV5.out]
 refine bodyPost_ret (ea_ rfl _ _ (W.heap.size+1) 45 #[.int .i64 p.f0,.slice A1 p.f1.length c1,.slice A2 p.f2.length c2,.slice A3 p.f3.length c3] (0,0) _ rfl HR5.out Tryz.underlying45 rfl (by kernel_rfl)) rfl ?_
 exact ⟨_,rfl,⟨A1,c1,A2,c2,A3,c3,rfl,l1,H1.out,l2,H2.out,l3,H3.out⟩,HB5.out⟩
section
variable {P:Program} {α:Type}
theorem eg_ (d:Kd α){W:World}(base:Nat)(t ty e:TypeId)(z:Value)(bytes:Nat)
  (ht:P.underlying t=some (.slice e)) (hinfo:(P.info? e).map (fun i=>(i.zero,i.size,i.bytes))=some (some z,d.sz,bytes)) (hz:z.cells.size=d.sz) (hs0:0<d.sz) (hb0:0<bytes)
  (v:Value) (xs ys:List α) (A:Option Addr) (m c:Nat) (ok okp:Nat->Prop)
  (HO:Kd.N d e W base ok v xs) (HR:Kd.F d W okp A m ys) (hokp: ∀ k,okp k->ok k∧some k≠v.ownBlock) (hfresh: ∀ k,W.heap.size<=k->ok k)
  (hbase:base<=W.heap.size) (hl:(xs.length+m)*bytes<=140737488355328):
  ∃ v1 w1,(Builtin.append_ #[t,t] ty #[v,.slice A m c]).run P W=.ok v1 w1∧Kd.N d e w1 base ok v1 (xs ++ ys)∧W.grownBy w1 v.ownBlock∧(v1.ownBlock=v.ownBlock∨ ∃ b,v1.ownBlock=some b∧W.heap.size<=b):=by
 obtain ⟨h0,rows,hlr,hR,hf⟩:=HO
 obtain ⟨news,hnl,hnr,hnf⟩:=reads_raw (F_rows HR) (fun y c hk=>⟨d.K_len (FK_now hk),d.K_one (FK_now hk)⟩)
 obtain ⟨v1,w1,hrun,hr,hg,hat⟩:=eu_ (P:=P) (raw d.sz) (W:=W) base t ty e z bytes ht hinfo hz hs0 hb0 v rows news A m c (fun _=>True) (fun _=>False) (raw_any hR) hnr (fun _ _ hk=>hk) (fun _ hk=>hk.elim) (fun _ _=>trivial) hbase (by rw [hlr];exact hl)
 exact ⟨v1,w1,hrun,N_appended h0 hlr hf hnl hnf hokp hfresh hr hg hat,hg,hat⟩
theorem run_append_nil {W:World}(t ty e:TypeId)(z:Value)(sz bytes:Nat)(ht:P.underlying t=some (.slice e))(hinfo:(P.info? e).map (fun i=>(i.zero,i.size,i.bytes))=some (some z,sz,bytes))(a:Addr):
  (Builtin.append_ #[t,t] ty #[.slice (some a) 0 0,.slice none 0 0]).run P W=.ok (.slice (some a) 0 0) W:=by
 obtain ⟨i0,hi,hzz⟩:=Option.map_eq_some_iff.1 hinfo
 simp [Builtin.append_,run_underlying ht,sizeOf,typeInfo,hi,Builtin.lenOf,Builtin.firstCells,storeCells]
theorem N_empty (d:Kd α){W:World}{m:Nat}{e:TypeId}(h:W.heap[m]? =some (.cells #[] e (0,0)))(base:Nat)(hb:base<=m)(ok:Nat->Prop)(hok:ok m):Kd.N d e W base ok (.slice (some ⟨m,0,none⟩) 0 0) []:=by
 refine ⟨fun k hk=>?_,[],rfl,⟨fun k hk=>hk.symm,[],⟨by simp,Or.inr ⟨m,0,#[],rfl,hb,h,Nat.le_refl _,by decide,by simp,by simp⟩⟩,Reps.none _ _⟩,fun j x c hx=>by simp at hx⟩
 have:k=m:=by simpa [Value.ownBlock] using hk.symm
 rw [this]
 exact hok
end
def ItC (x:S87)(A:Option Addr)(c:Nat)(B:Option Addr)(d:Nat):Array Value:=#[.int .i64 x.f0,.string x.f1,.int .i64 x.f2,.bool x.f3,.int .i64 x.f4.f0,.string x.f4.f1,.int .i64 x.f4.f2,.int .i64 x.f4.f3,.slice A x.f4.f4.length c,.int .i64 x.f5.f0,.string x.f5.f1,.int .i64 x.f5.f2,.int .i64 x.f5.f3,.slice B x.f5.f4.length d,.int .i64 x.f6]
theorem give_first (W:World)(P:Nat->Prop)(x:S87)(A:Option Addr)(c:Nat)(B:Option Addr)(d:Nat)(p:S45)(hx0:x.f0=1)(hx4:x.f4.f0=4)
  (hw: ∀ W',Below W.heap.size W W'->Calls Tryz.prog 135 #[.agg (NdC x.f4 A c),.slice none 0 0] W' (PatAns W' (fun _=>False) p)):
  Calls Tryz.prog 133 #[.slice none 0 0,.agg (ItC x A c B d)] W fun e w'=> ∃ A1 c1,e=.returned (.tuple #[.slice A1 1 c1,.int .i64 0])∧1<=c1∧Kd.F k93 w' (fun k=>W.heap.size<=k) A1 1 [⟨x.f1,p,true,x.f6⟩]∧Below W.heap.size W w':=by
 unfold ItC
 unfold NdC at hw
 rw [hx0,hx4]
 rw [hx4] at hw
 obtain ⟨W1,hW1⟩: ∃ W_,W_=W.alloc (.cells #[.int .i64 1,.string x.f1,.int .i64 x.f2,.bool x.f3,.int .i64 4,.string x.f4.f1,.int .i64 x.f4.f2,.int .i64 x.f4.f3,.slice A x.f4.f4.length c,.int .i64 x.f5.f0,.string x.f5.f1,.int .i64 x.f5.f2,.int .i64 x.f5.f3,.slice B x.f5.f4.length d,.int .i64 x.f6] 87):=⟨_,rfl⟩
 have hb1:Below W.heap.size W W1:=by rw [hW1];exact ab_ (Below.refl W.heap.size W) _
 have hs1:W1.heap.size=W.heap.size+1:=by rw [hW1];exact Array.size_push _
 have hx1:W1.heap[W.heap.size]? =some (.cells #[.int .i64 1,.string x.f1,.int .i64 x.f2,.bool x.f3,.int .i64 4,.string x.f4.f1,.int .i64 x.f4.f2,.int .i64 x.f4.f3,.slice A x.f4.f4.length c,.int .i64 x.f5.f0,.string x.f5.f1,.int .i64 x.f5.f2,.int .i64 x.f5.f3,.slice B x.f5.f4.length d,.int .i64 x.f6] 87 (0,0)):=by rw [hW1];exact ah_ W _
 have HW:=Sd.m hw
 have HB1:=Sd.m hb1
 have HX1:=Sd.m hx1
 have HS1:=Sd.m hs1
 have HFI:=Sd.m (show bk_.f 1 [] x.f1=some (-1) from rfl)
 have HCN:=Sd.m (show Kd.C k93 W1 none ([]:List S93).length [] from C_nil _ _)
 clear hw hb1 hx1 hs1 hx0 hx4
 go_enter Tryz.func133,Tryz.ntmps133
 go_wp2_with fail
 rw [←hW1]
 clear hW1
 refine (bk_.calls 1 none 0 [] x.f1 (-1) W1 HCN.out (Nat.le_refl _) HFI.out).mono ?_
 rintro e V_ ⟨rfl,⟨nq,rfl⟩⟩
 obtain ⟨V,hV⟩: ∃ W_,W_=W1.drewN nq:=⟨_,rfl⟩
 have hb:Below W1.heap.size W1 V:=by rw [hV];exact ad_ (Below.refl _ _) nq
 have hxv:=ae_ HX1.out hb
 have HBV:=Sd.m (HB1.out.trans (hb.mono HB1.out.size))
 have HXV:=Sd.m hxv
 have HSV:=Sd.m hb.size
 rw [←hV]
 have x4:=bc_ hxv 4 rfl
 have x5:=bc_ hxv 5 rfl
 have x6:=bc_ hxv 6 rfl
 have x7:=bc_ hxv 7 rfl
 have x8:=bc_ hxv 8 rfl
 clear hV hb hxv
 go_wp2_with fail
 refine (HW.out V HBV.out).mono ?_
 rintro e V2 ⟨v,rfl,⟨A1,c1,A2,c2,A3,c3,rfl,l1,g1,l2,g2,l3,g3⟩,hb⟩
 clear x4 x5 x6 x7 x8
 have hb3:Below V2.heap.size V2 (V2.alloc (.cells #[.int .i64 p.f0,.slice A1 p.f1.length c1,.slice A2 p.f2.length c2,.slice A3 p.f3.length c3] 45)):=ab_ (Below.refl _ _) _
 have hp3:=ah_ V2 (.cells #[.int .i64 p.f0,.slice A1 p.f1.length c1,.slice A2 p.f2.length c2,.slice A3 p.f3.length c3] 45)
 obtain ⟨V3,hV3⟩: ∃ W_,W_=V2.alloc (.cells #[.int .i64 p.f0,.slice A1 p.f1.length c1,.slice A2 p.f2.length c2,.slice A3 p.f3.length c3] 45):=⟨_,rfl⟩
 rw [←hV3] at hb3 hp3
 have hbV3:=hb.trans (hb3.mono hb.size)
 have hx3:=ae_ HXV.out hbV3
 have y1:=bc_ hx3 1 rfl
 have y4:=bc_ hx3 4 rfl
 have y6:=bc_ hx3 14 rfl
 have p0:=bc_ hp3 0 rfl
 have p1:=bc_ hp3 1 rfl
 have p2:=bc_ hp3 2 rfl
 have p3:=bc_ hp3 3 rfl
 have HV3:=Sd.m hV3
 clear hV3
 go_upto_region 10 with fail
 rw [←HV3.out]
 go_wp2_with fail
 have hS1:=HS1.out
 have hV2V3:V2.heap.size<V3.heap.size:=bu_ hp3
 have hVs:=HSV.out
 have hbVs:=hbV3.size
 have hWV3:W.heap.size<V3.heap.size:=by omega
 have hWs3:W.heap.size<V3.heap.size:=hWV3
 obtain ⟨Vd,hVd⟩: ∃ W_,W_=V3.drew:=⟨_,rfl⟩
 have hbd:Below V3.heap.size V3 Vd:=by rw [hVd];exact bq_ (Below.refl _ _)
 have hsd:Vd.heap.size=V3.heap.size:=by rw [hVd];rfl
 have BW3:=Sd.m ((HBV.out.trans (hbV3.mono HBV.out.size)).trans (hbd.mono (HBV.out.trans (hbV3.mono HBV.out.size)).size))
 have S6: ∀ w',Below Vd.heap.size Vd w'->w'.cell? ⟨W.heap.size,1,none⟩=some (.string x.f1)∧w'.cell? ⟨W.heap.size,14,none⟩=some (.int .i64 x.f6)∧w'.cell? ⟨V2.heap.size,0,none⟩=some (.int .i64 p.f0)∧w'.cell? ⟨V2.heap.size,1,none⟩=some (.slice A1 p.f1.length c1)∧w'.cell? ⟨V2.heap.size,2,none⟩=some (.slice A2 p.f2.length c2)∧w'.cell? ⟨V2.heap.size,3,none⟩=some (.slice A3 p.f3.length c3):=by
  intro w' hw'
  have hq:=hbd.trans (hw'.mono hbd.size)
  have a1:=ae_ hx3 hq
  have a2:=ae_ hp3 hq
  exact ⟨(af_ a1 1).trans rfl,(af_ a1 14).trans rfl,(af_ a2 0).trans rfl,(af_ a2 1).trans rfl,(af_ a2 2).trans rfl,(af_ a2 3).trans rfl⟩
 have HS6:=Sd.m S6
 have BD:=Sd.m (Below.refl Vd.heap.size Vd)
 have HNIL:=Sd.m (fun (a:Addr) (w:World)=>run_append_nil (P:=Tryz.prog) (W:=w) 22 22 93 (.agg #[.string ⟨#[]⟩,.int .i64 0,.slice none 0 0,.slice none 0 0,.slice none 0 0,.bool false,.int .i64 0]) 7 112 Tryz.underlying22 (by kernel_rfl) a)
 have hok: ∀ b:Nat,Vd.heap.size<=b-> ∀ k,((False∨V.heap.size<=k)∧k<V2.heap.size)->(W.heap.size<=k∧k≠b):=fun b hb k hk=>by have:=hk.1.resolve_left (fun h=>h);omega
 have APP:Sd (∀ (bE bL:Nat) (Wj:World),Wj.heap[bE]? =some (.cells #[] 93 (0,0))->Wj.heap[bL]? =some (.cells #[.string x.f1,.int .i64 p.f0,.slice A1 p.f1.length c1,.slice A2 p.f2.length c2,.slice A3 p.f3.length c3,.bool true,.int .i64 x.f6] 93 (0,0))->bE≠bL->Vd.heap.size<=bE->Vd.heap.size<=bL->Below Vd.heap.size Vd Wj->
   ∃ AA cA wA,(Builtin.append_ #[22,22] 22 #[.slice (some ⟨bE,0,none⟩) 0 0,.slice (some ⟨bL,0,none⟩) 1 1]).run Tryz.prog Wj=.ok (.slice AA 1 cA) wA∧Kd.N k93 93 wA W.heap.size (fun k=>W.heap.size<=k) (.slice AA 1 cA) [⟨x.f1,p,true,x.f6⟩]∧Below Vd.heap.size Vd wA∧Below W.heap.size W wA):=by
  refine ⟨fun bE bL Wj hE hL hne hge hgl hbj=>?_⟩
  have hdj:=hbd.trans (hbj.mono hbd.size)
  have hFK:Kd.FK k93 Wj (fun k=>W.heap.size<=k∧k≠bE) ⟨x.f1,p,true,x.f6⟩ [.string x.f1,.int .i64 p.f0,.slice A1 p.f1.length c1,.slice A2 p.f2.length c2,.slice A3 p.f3.length c3,.bool true,.int .i64 x.f6]:=k93_mkF _ _ ⟨x.f1,p,true,x.f6⟩ l1 (F_mono (F_below (F_below (F_bound g1) hb3) hdj) (hok bE hge)) l2 (F_mono (F_below (F_below (F_bound g2) hb3) hdj) (hok bE hge)) l3 (F_mono (F_below (F_below (F_bound g3) hb3) hdj) (hok bE hge))
  obtain ⟨vA,wA,hrunA,hNA,hgA,hatA⟩:=eg_ (P:=Tryz.prog) k93 (W:=Wj) W.heap.size 22 22 93 (.agg #[.string ⟨#[]⟩,.int .i64 0,.slice none 0 0,.slice none 0 0,.slice none 0 0,.bool false,.int .i64 0]) 112 Tryz.underlying22 (by kernel_rfl) rfl (by decide) (by decide) (.slice (some ⟨bE,0,none⟩) 0 0) [] [⟨x.f1,p,true,x.f6⟩] (some ⟨bL,0,none⟩) 1 1 (fun k=>W.heap.size<=k) (fun k=>W.heap.size<=k∧k≠bE) (N_empty k93 hE _ (by omega) _ (by omega)) (F_one (cs:=[.string x.f1,.int .i64 p.f0,.slice A1 p.f1.length c1,.slice A2 p.f2.length c2,.slice A3 p.f3.length c3,.bool true,.int .i64 x.f6]) hL ⟨by omega,fun e=>hne e.symm⟩ hFK) (fun k hk=>⟨hk.1,by simp [Value.ownBlock];omega⟩) (fun k hk=>Nat.le_trans (Nat.le_trans (by omega:W.heap.size<=Vd.heap.size) hbj.size) hk) (Nat.le_trans (by omega:W.heap.size<=Vd.heap.size) hbj.size) (by decide)
  obtain ⟨AA,cA,rfl⟩:=N_slice hNA
  have hown: ∀ k,(Value.slice (some ⟨bE,0,none⟩) 0 0).ownBlock=some k->Vd.heap.size<=k:=fun k hk=>Nat.le_trans hge (Nat.le_of_eq (show bE=k from by simpa [Value.ownBlock] using hk))
  exact ⟨AA,cA,wA,hrunA,hNA,hbj.grown hgA hbj.size hown,(BW3.out.trans (hbj.mono BW3.out.size)).grown hgA (Nat.le_trans BW3.out.size hbj.size) (fun k hk=>Nat.le_trans BW3.out.size (hown k hk))⟩
 clear hok hsd hb3 hbV3 hx3 hb g1 g2 g3 hp3 S6 hS1 hVs hbVs
 go_upto_region 12 with fail
 -- REGION 12 BEGIN
 refine start_ (n:=14) (S:=fun w'=>w'.cell? ⟨W.heap.size,1,none⟩=some (.string x.f1)∧w'.cell? ⟨W.heap.size,14,none⟩=some (.int .i64 x.f6)∧w'.cell? ⟨V2.heap.size,0,none⟩=some (.int .i64 p.f0)∧w'.cell? ⟨V2.heap.size,1,none⟩=some (.slice A1 p.f1.length c1)∧w'.cell? ⟨V2.heap.size,2,none⟩=some (.slice A2 p.f2.length c2)∧w'.cell? ⟨V2.heap.size,3,none⟩=some (.slice A3 p.f3.length c3)) (ds:=[]) #[false,false,false,false,false,false,false,false,false,false,false,false,false,false] (by kernel_rfl) rfl rfl (by rw [←hVd];exact (HS6.out _ (Below.refl _ _))) (fun hHeld=>?_)
 rw [←hVd] at hHeld ⊢
 clear hVd
 refine pu_ 1 59 ?_
 refine pu_ 3 61 ?_
 refine pu_ 6 64 ?_
 refine pu_ 7 65 ?_
 refine ta_ 4 62 hHeld ?_
 refine ta_ 5 63 hHeld ?_
 refine ta_ 8 66 hHeld ?_
 refine pu_ 9 67 ?_
 refine join_ (σ:=Nat × Nat) 3 #[true,true,true,true,true,true,true,true,true,true,true,false,false,false] (fun s=>[(58,.slice (some ⟨s.1,0,none⟩) 0 0),(60,.slice (some ⟨s.1,0,none⟩) 0 0),(68,.slice (some ⟨s.2,0,none⟩) 1 1)]) (fun s w'=>(w'.cell? ⟨W.heap.size,1,none⟩=some (.string x.f1)∧w'.cell? ⟨W.heap.size,14,none⟩=some (.int .i64 x.f6)∧w'.cell? ⟨V2.heap.size,0,none⟩=some (.int .i64 p.f0)∧w'.cell? ⟨V2.heap.size,1,none⟩=some (.slice A1 p.f1.length c1)∧w'.cell? ⟨V2.heap.size,2,none⟩=some (.slice A2 p.f2.length c2)∧w'.cell? ⟨V2.heap.size,3,none⟩=some (.slice A3 p.f3.length c3))∧w'.heap[s.1]? =some (.cells #[] 93 (0,0))∧w'.heap[s.2]? =some (.cells #[.string x.f1,.int .i64 p.f0,.slice A1 p.f1.length c1,.slice A2 p.f2.length c2,.slice A3 p.f3.length c3,.bool true,.int .i64 x.f6] 93 (0,0))∧s.1≠s.2∧Vd.heap.size<=s.1∧Vd.heap.size<=s.2∧Below Vd.heap.size Vd w') ?_ ?_
 rotate_left
 ·intro hCont
  refine two_ (i:=0) (j:=10) (Ni:=some 58) (Nj:=some 68) #[true,true,false,true,true,true,true,true,true,true,false,false,false,false] #[false,true,false,true,true,true,true,true,true,true,true,false,false,false] rfl rfl rfl rfl (by kernel_rfl) (by decide) (by decide) (fun K hK=>?_) (fun K hK=>?_)
  ·skip
   refine value_ (w1:=?_) (v:=?_) (by rfl) rfl ?_ ?_
   rotate_left 2
   ·go_simp
    constructor
    ·rfl
    ·rfl
   have hE:=ah_ Vd (.cells #[] 93)
   have hb_:=ab_ (Below.refl Vd.heap.size Vd) (.cells #[] 93)
   have hB_:Below Vd.heap.size Vd _:=hb_
   have hs_:(Vd.alloc (.cells #[] 93)).heap.size=Vd.heap.size+1:=Array.size_push _
   generalize Vd.alloc (.cells #[] 93)=Wq1 at hE hb_ hB_ hs_ ⊢
   have HE:=Sd.m hE
   have BWq1:=Sd.m hB_
   clear hE hb_ hB_
   have SZ1:=Sd.m hs_
   clear hs_
   refine hK.out _ _ (HS6.out _ BWq1.out) (fun hHeld=>?_)
   clear hK K
   refine no_ 58 ?_
   refine two_ (i:=2) (j:=10) (Ni:=some 60) (Nj:=some 68) #[true,true,true,true,true,true,true,true,true,true,false,false,false,false] #[true,true,false,true,true,true,true,true,true,true,true,false,false,false] rfl rfl rfl rfl (by kernel_rfl) (by decide) (by decide) (fun K hK=>?_) (fun K hK=>?_)
   ·skip
    refine cl_ rfl (.tmp 58) (.tmp 59) 22 rfl _ _ rfl rfl (HNIL.out _ _) ?_
    refine hK.out _ _ (HS6.out _ BWq1.out) (fun hHeld=>?_)
    clear hK K
    refine no_ 60 ?_
    refine on_ 10 68 (fun K hK=>?_)
    refine value_ (w1:=?_) (v:=?_) (by rfl) rfl ?_ ?_
    rotate_left 2
    ·go_simp
     constructor
     ·rfl
     ·rfl
    have hL:=ah_ Wq1 (.cells #[.string x.f1,.int .i64 p.f0,.slice A1 p.f1.length c1,.slice A2 p.f2.length c2,.slice A3 p.f3.length c3,.bool true,.int .i64 x.f6] 93)
    have hb_:=ab_ (Below.refl Wq1.heap.size Wq1) (.cells #[.string x.f1,.int .i64 p.f0,.slice A1 p.f1.length c1,.slice A2 p.f2.length c2,.slice A3 p.f3.length c3,.bool true,.int .i64 x.f6] 93)
    have hE:=ae_ HE.out hb_
    have hB_:Below Vd.heap.size Vd _:=BWq1.out.trans (hb_.mono BWq1.out.size)
    generalize Wq1.alloc (.cells #[.string x.f1,.int .i64 p.f0,.slice A1 p.f1.length c1,.slice A2 p.f2.length c2,.slice A3 p.f3.length c3,.bool true,.int .i64 x.f6] 93)=Wq2 at hL hb_ hB_ hE ⊢
    clear HE
    have HE:=Sd.m hE
    clear hE
    have HL:=Sd.m hL
    have BWq2:=Sd.m hB_
    clear hL hb_ hB_
    refine hK.out _ _ (HS6.out _ BWq2.out) (fun hHeld=>?_)
    clear hK K
    refine no_ 68 ?_
    exact norm_ (by first | (simp only [putAll,Act.put,List.setIfInBounds_toArray,List.set_cons_zero,List.set_cons_succ];done) | (simp only [putAll,Act.put,List.setIfInBounds_toArray,List.set_cons_zero,List.set_cons_succ];rfl)) (hCont (Vd.heap.size,Wq1.heap.size) _ ⟨hHeld,HE.out,HL.out,by have h1_:=SZ1.out;omega,by have h1_:=SZ1.out;omega,by have h1_:=SZ1.out;omega,BWq2.out⟩)
   ·skip
    refine value_ (w1:=?_) (v:=?_) (by rfl) rfl ?_ ?_
    rotate_left 2
    ·go_simp
     constructor
     ·rfl
     ·rfl
    have hL:=ah_ Wq1 (.cells #[.string x.f1,.int .i64 p.f0,.slice A1 p.f1.length c1,.slice A2 p.f2.length c2,.slice A3 p.f3.length c3,.bool true,.int .i64 x.f6] 93)
    have hb_:=ab_ (Below.refl Wq1.heap.size Wq1) (.cells #[.string x.f1,.int .i64 p.f0,.slice A1 p.f1.length c1,.slice A2 p.f2.length c2,.slice A3 p.f3.length c3,.bool true,.int .i64 x.f6] 93)
    have hE:=ae_ HE.out hb_
    have hB_:Below Vd.heap.size Vd _:=BWq1.out.trans (hb_.mono BWq1.out.size)
    generalize Wq1.alloc (.cells #[.string x.f1,.int .i64 p.f0,.slice A1 p.f1.length c1,.slice A2 p.f2.length c2,.slice A3 p.f3.length c3,.bool true,.int .i64 x.f6] 93)=Wq2 at hL hb_ hB_ hE ⊢
    clear HE
    have HE:=Sd.m hE
    clear hE
    have HL:=Sd.m hL
    have BWq2:=Sd.m hB_
    clear hL hb_ hB_
    refine hK.out _ _ (HS6.out _ BWq2.out) (fun hHeld=>?_)
    clear hK K
    refine no_ 68 ?_
    refine on_ 2 60 (fun K hK=>?_)
    refine cl_ rfl (.tmp 58) (.tmp 59) 22 rfl _ _ rfl rfl (HNIL.out _ _) ?_
    refine hK.out _ _ (HS6.out _ BWq2.out) (fun hHeld=>?_)
    clear hK K
    refine no_ 60 ?_
    exact norm_ (by first | (simp only [putAll,Act.put,List.setIfInBounds_toArray,List.set_cons_zero,List.set_cons_succ];done) | (simp only [putAll,Act.put,List.setIfInBounds_toArray,List.set_cons_zero,List.set_cons_succ];rfl)) (hCont (Vd.heap.size,Wq1.heap.size) _ ⟨hHeld,HE.out,HL.out,by have h1_:=SZ1.out;omega,by have h1_:=SZ1.out;omega,by have h1_:=SZ1.out;omega,BWq2.out⟩)
  ·skip
   refine value_ (w1:=?_) (v:=?_) (by rfl) rfl ?_ ?_
   rotate_left 2
   ·go_simp
    constructor
    ·rfl
    ·rfl
   have hL:=ah_ Vd (.cells #[.string x.f1,.int .i64 p.f0,.slice A1 p.f1.length c1,.slice A2 p.f2.length c2,.slice A3 p.f3.length c3,.bool true,.int .i64 x.f6] 93)
   have hb_:=ab_ (Below.refl Vd.heap.size Vd) (.cells #[.string x.f1,.int .i64 p.f0,.slice A1 p.f1.length c1,.slice A2 p.f2.length c2,.slice A3 p.f3.length c3,.bool true,.int .i64 x.f6] 93)
   have hB_:Below Vd.heap.size Vd _:=hb_
   have hs_:(Vd.alloc (.cells #[.string x.f1,.int .i64 p.f0,.slice A1 p.f1.length c1,.slice A2 p.f2.length c2,.slice A3 p.f3.length c3,.bool true,.int .i64 x.f6] 93)).heap.size=Vd.heap.size+1:=Array.size_push _
   generalize Vd.alloc (.cells #[.string x.f1,.int .i64 p.f0,.slice A1 p.f1.length c1,.slice A2 p.f2.length c2,.slice A3 p.f3.length c3,.bool true,.int .i64 x.f6] 93)=Wq1 at hL hb_ hB_ hs_ ⊢
   have HL:=Sd.m hL
   have BWq1:=Sd.m hB_
   clear hL hb_ hB_
   have SZ1:=Sd.m hs_
   clear hs_
   refine hK.out _ _ (HS6.out _ BWq1.out) (fun hHeld=>?_)
   clear hK K
   refine no_ 68 ?_
   refine on_ 0 58 (fun K hK=>?_)
   refine value_ (w1:=?_) (v:=?_) (by rfl) rfl ?_ ?_
   rotate_left 2
   ·go_simp
    constructor
    ·rfl
    ·rfl
   have hE:=ah_ Wq1 (.cells #[] 93)
   have hb_:=ab_ (Below.refl Wq1.heap.size Wq1) (.cells #[] 93)
   have hL:=ae_ HL.out hb_
   have hB_:Below Vd.heap.size Vd _:=BWq1.out.trans (hb_.mono BWq1.out.size)
   generalize Wq1.alloc (.cells #[] 93)=Wq2 at hE hb_ hB_ hL ⊢
   clear HL
   have HL:=Sd.m hL
   clear hL
   have HE:=Sd.m hE
   have BWq2:=Sd.m hB_
   clear hE hb_ hB_
   refine hK.out _ _ (HS6.out _ BWq2.out) (fun hHeld=>?_)
   clear hK K
   refine no_ 58 ?_
   refine on_ 2 60 (fun K hK=>?_)
   refine cl_ rfl (.tmp 58) (.tmp 59) 22 rfl _ _ rfl rfl (HNIL.out _ _) ?_
   refine hK.out _ _ (HS6.out _ BWq2.out) (fun hHeld=>?_)
   clear hK K
   refine no_ 60 ?_
   exact norm_ (by first | (simp only [putAll,Act.put,List.setIfInBounds_toArray,List.set_cons_zero,List.set_cons_succ];done) | (simp only [putAll,Act.put,List.setIfInBounds_toArray,List.set_cons_zero,List.set_cons_succ];rfl)) (hCont (Wq1.heap.size,Vd.heap.size) _ ⟨hHeld,HE.out,HL.out,by have h1_:=SZ1.out;omega,by have h1_:=SZ1.out;omega,by have h1_:=SZ1.out;omega,BWq2.out⟩)
 rintro ⟨bE,bL⟩ Wj ⟨hHeld,hE,hL,hne,hge,hgl,hbj⟩
 dsimp only at hE hL hne hge hgl
 dsimp only [putAll]
 obtain ⟨AA,cA,wA,hrunA,hNA,hBA,hBW⟩:=APP.out bE bL Wj hE hL hne hge hgl hbj
 have HNA:=Sd.m hNA
 have HBA:=Sd.m hBA
 have HBW:=Sd.m hBW
 clear hE hL hne hge hgl hbj hNA hBA hBW
 refine norm_ (a':=?_) ?_ ?_
 rotate_left
 ·simp only [putAll,Act.put,List.setIfInBounds_toArray,List.set_cons_zero,List.set_cons_succ]
  rfl
 refine on_ 11 69 (fun K hK=>?_)
 refine cl_ rfl (.tmp 60) (.tmp 68) 22 rfl _ _ rfl rfl hrunA ?_
 refine hK.out _ _ (HS6.out _ HBA.out) (fun hHeld=>?_)
 clear hK K
 refine no_ 69 ?_
 refine pu_ 12 4 ?_
 refine pu_ 13 5 ?_
 refine done_ (by kernel_rfl) ?_
 -- REGION 12 END
 all_goals (go_wp2_with fail)
 all_goals (refine bodyPost_ret (ia_ (rs:=[.tmp 4,.tmp 5]) rfl (by simp) (.tmp (.tmp .nil))) rfl ?_;exact ⟨AA,cA,rfl,(N_reads' HNA.out).2.1,N_F HNA.out,HBW.out⟩)
theorem fq_ {P:Program}{α:Type}(d:Kd α){Vd Wj:World}(base:Nat)(t ty e:TypeId)(z:Value)(bytes:Nat)
  (ht:P.underlying t=some (.slice e)) (hinfo:(P.info? e).map (fun i=>(i.zero,i.size,i.bytes))=some (some z,d.sz,bytes)) (hz:z.cells.size=d.sz) (hs0:0<d.sz) (hb0:0<bytes)
  (A1:Option Addr) (k1:Nat) (xs ys:List α) (AL:Option Addr) (cL:Nat) (okN okp:Nat->Prop)
  (HN:Kd.N d e Wj base okN (.slice A1 xs.length k1) xs) (hF:Kd.F d Wj okp AL ys.length ys) (hokp: ∀ k,okp k->okN k∧some k≠(Value.slice A1 xs.length k1).ownBlock)
  (hfresh: ∀ k,Vd.heap.size<=k->okN k) (hbase:base<=Vd.heap.size) (hown: ∀ k,(Value.slice A1 xs.length k1).ownBlock=some k->Vd.heap.size<=k) (hb:Below Vd.heap.size Vd Wj) (hl:(xs.length+ys.length)*bytes<=140737488355328):
  ∃ A2 k2 w2,(Builtin.append_ #[t,t] ty #[.slice A1 xs.length k1,.slice AL ys.length cL]).run P Wj=.ok (.slice A2 (xs ++ ys).length k2) w2∧Kd.N d e w2 base okN (.slice A2 (xs ++ ys).length k2) (xs ++ ys)∧Below Vd.heap.size Vd w2∧
   (∀ k,(Value.slice A2 (xs ++ ys).length k2).ownBlock=some k->Vd.heap.size<=k∧((Value.slice A1 xs.length k1).ownBlock=some k∨Wj.heap.size<=k))∧(∀ b o,Wj.heap[b]? =some o->some b≠(Value.slice A1 xs.length k1).ownBlock->w2.heap[b]? =some o):=by
 obtain ⟨v,w,hrun,hN,hg,hat⟩:=eg_ (P:=P) d (W:=Wj) base t ty e z bytes ht hinfo hz hs0 hb0 (.slice A1 xs.length k1) xs ys AL ys.length cL okN okp HN hF hokp (fun k hk=>hfresh k (Nat.le_trans hb.size hk)) (Nat.le_trans hbase hb.size) hl
 obtain ⟨A2,k2,rfl⟩:=N_slice hN
 refine ⟨A2,k2,w,hrun,hN,hb.grown hg hb.size hown,fun k hk=>?_,fun b o hbo hne=>(hg.block b (bu_ hbo) hne).trans hbo⟩
 rcases hat with h | ⟨b,h,hbb⟩
 ·rw [h] at hk
  exact ⟨hown k hk,Or.inl hk⟩
 ·rw [h] at hk
  injection hk with hk
  subst hk
  exact ⟨Nat.le_trans hb.size hbb,Or.inr hbb⟩
theorem put_first (W:World)(r:S55)(A3:Option Addr)(c3:Nat)(A4:Option Addr)(c4:Nat)(A5:Option Addr)(c5:Nat)(A7:Option Addr)(c7:Nat)(A8:Option Addr)(c8:Nat)(A9:Option Addr)(c9:Nat)(ok:Nat->Prop)
  (hr:Kd.FK k55 W ok r [.int .i64 r.f0,.bool r.f1,.int .i64 r.f2.f0,.slice A3 r.f2.f1.length c3,.slice A4 r.f2.f2.length c4,.slice A5 r.f2.f3.length c5,.int .i64 r.f3.f0,.slice A7 r.f3.f1.length c7,.slice A8 r.f3.f2.length c8,.slice A9 r.f3.f3.length c9,.int .i64 r.f4]):
  Calls Tryz.prog 136 #[.slice none 0 0,.agg #[.int .i64 r.f0,.bool r.f1,.int .i64 r.f2.f0,.slice A3 r.f2.f1.length c3,.slice A4 r.f2.f2.length c4,.slice A5 r.f2.f3.length c5,.int .i64 r.f3.f0,.slice A7 r.f3.f1.length c7,.slice A8 r.f3.f2.length c8,.slice A9 r.f3.f3.length c9,.int .i64 r.f4]] W fun e w'=> ∃ A1 c1,e=.returned (.slice A1 1 c1)∧1<=c1∧Kd.F k55 w' (fun k=>(ok k∧k<W.heap.size)∨W.heap.size<=k) A1 1 [r]∧Below W.heap.size W w':=by
 obtain ⟨W1,hW1⟩: ∃ W_,W_=W.alloc (.cells #[.int .i64 r.f0,.bool r.f1,.int .i64 r.f2.f0,.slice A3 r.f2.f1.length c3,.slice A4 r.f2.f2.length c4,.slice A5 r.f2.f3.length c5,.int .i64 r.f3.f0,.slice A7 r.f3.f1.length c7,.slice A8 r.f3.f2.length c8,.slice A9 r.f3.f3.length c9,.int .i64 r.f4] 55):=⟨_,rfl⟩
 have hb1:Below W.heap.size W W1:=by rw [hW1];exact ab_ (Below.refl W.heap.size W) _
 have hs1:W1.heap.size=W.heap.size+1:=by rw [hW1];exact Array.size_push _
 have hx1:W1.heap[W.heap.size]? =some (.cells #[.int .i64 r.f0,.bool r.f1,.int .i64 r.f2.f0,.slice A3 r.f2.f1.length c3,.slice A4 r.f2.f2.length c4,.slice A5 r.f2.f3.length c5,.int .i64 r.f3.f0,.slice A7 r.f3.f1.length c7,.slice A8 r.f3.f2.length c8,.slice A9 r.f3.f3.length c9,.int .i64 r.f4] 55 (0,0)):=by rw [hW1];exact ah_ W _
 have HW1:=Sd.m hW1
 have HB1:=Sd.m hb1
 have HX1:=Sd.m hx1
 have HS1:=Sd.m hs1
 have HR:=Sd.m hr
 clear hb1 hx1 hs1 hW1 hr
 go_enter Tryz.func136,Tryz.ntmps136
 go_wp2_with fail
 rw [←HW1.out]
 go_loopw [5] (fun t5 Wx=>(t5=.int .i64 0)∧Below W1.heap.size W1 Wx) (fun t5 _=>(1 - intOf t5).toNat)
 case atStart=>exact ⟨rfl,Below.refl _ _⟩
 case round=>
  obtain ⟨hk,hb⟩:=hrel
  have hbx:=ae_ HX1.out hb
  have b0:=bc_ hbx 0 rfl
  have HB:=Sd.m hb
  have HBX:=Sd.m hbx
  clear hb hbx
  subst hk
  go_wp2_with fail
  go_quiet (fail)
  go_wp2_with fail
  obtain ⟨Vd,hVd⟩: ∃ W_,W_=(wr.drewN nq).drew:=⟨_,rfl⟩
  have hbd:Below wr.heap.size wr Vd:=by rw [hVd];exact bq_ (ad_ (Below.refl _ _) nq)
  have hbw:=HB1.out.trans (HB.out.mono HB1.out.size)
  have hbW:=hbw.trans (hbd.mono hbw.size)
  have hxd:=ae_ HBX.out hbd
  have hzd:=bu_ hxd
  have HBW:=Sd.m hbW
  have HS11:Sd (∀ w',Below Vd.heap.size Vd w'->w'.cell? ⟨W.heap.size,0,none⟩=some (.int .i64 r.f0)∧w'.cell? ⟨W.heap.size,1,none⟩=some (.bool r.f1)∧w'.cell? ⟨W.heap.size,2,none⟩=some (.int .i64 r.f2.f0)∧w'.cell? ⟨W.heap.size,3,none⟩=some (.slice A3 r.f2.f1.length c3)∧w'.cell? ⟨W.heap.size,4,none⟩=some (.slice A4 r.f2.f2.length c4)∧w'.cell? ⟨W.heap.size,5,none⟩=some (.slice A5 r.f2.f3.length c5)∧w'.cell? ⟨W.heap.size,6,none⟩=some (.int .i64 r.f3.f0)∧w'.cell? ⟨W.heap.size,7,none⟩=some (.slice A7 r.f3.f1.length c7)∧w'.cell? ⟨W.heap.size,8,none⟩=some (.slice A8 r.f3.f2.length c8)∧w'.cell? ⟨W.heap.size,9,none⟩=some (.slice A9 r.f3.f3.length c9)∧w'.cell? ⟨W.heap.size,10,none⟩=some (.int .i64 r.f4)):=by
   refine ⟨fun w' hw'=>?_⟩
   have a1:=ae_ hxd hw'
   exact ⟨(af_ a1 0).trans rfl,(af_ a1 1).trans rfl,(af_ a1 2).trans rfl,(af_ a1 3).trans rfl,(af_ a1 4).trans rfl,(af_ a1 5).trans rfl,(af_ a1 6).trans rfl,(af_ a1 7).trans rfl,(af_ a1 8).trans rfl,(af_ a1 9).trans rfl,(af_ a1 10).trans rfl⟩
  have BD:=Sd.m (Below.refl Vd.heap.size Vd)
  have HU:=Sd.m (show Tryz.prog.underlying 23=some (.slice 55) from Tryz.underlying23)
  have HI:Sd ((Tryz.prog.info? 55).map (fun i=>(i.zero,i.size,i.bytes))=some (some (.agg #[.int .i64 0,.bool false,.int .i64 0,.slice none 0 0,.slice none 0 0,.slice none 0 0,.int .i64 0,.slice none 0 0,.slice none 0 0,.slice none 0 0,.int .i64 0]),11,184)):=⟨by kernel_rfl⟩
  have HO1:Sd (∀ k,(ok k∧k<W.heap.size)->((ok k∧k<W.heap.size)∨W.heap.size<=k)∧k<Vd.heap.size):=⟨fun k hk=>⟨Or.inl hk,Nat.lt_trans hk.2 hzd⟩⟩
  have HO2:Sd (∀ k,Vd.heap.size<=k->((ok k∧k<W.heap.size)∨W.heap.size<=k)):=⟨fun k hk=>Or.inr (by omega)⟩
  have APP1:Sd (∀ (bE:Nat) (Wj:World),Wj.heap[bE]? =some (.cells #[] 55 (0,0))->Vd.heap.size<=bE->Below Vd.heap.size Vd Wj->
    ∃ A1 k1 w1,(Builtin.append_ #[23,23] 23 #[.slice (some ⟨bE,0,none⟩) 0 0,.slice none 0 0]).run Tryz.prog Wj=.ok (.slice A1 0 k1) w1∧Kd.N k55 55 w1 W.heap.size (fun k=>(ok k∧k<W.heap.size)∨W.heap.size<=k) (.slice A1 0 k1) []∧Below Vd.heap.size Vd w1∧
     (∀ k,(Value.slice A1 0 k1).ownBlock=some k->Vd.heap.size<=k∧(bE=k∨Wj.heap.size<=k))∧(∀ b o,Wj.heap[b]? =some o->b≠bE->w1.heap[b]? =some o)):=by
   refine ⟨fun bE Wj hE hge hbj=>?_⟩
   have hown: ∀ k,(Value.slice (some ⟨bE,0,none⟩) 0 0).ownBlock=some k->bE=k:=fun k hk=>by simpa [Value.ownBlock] using hk
   obtain ⟨A1,k1,w1,hrun,hN,hB,hO,hK⟩:=fq_ (P:=Tryz.prog) k55 (Vd:=Vd) (Wj:=Wj) W.heap.size 23 23 55 (.agg #[.int .i64 0,.bool false,.int .i64 0,.slice none 0 0,.slice none 0 0,.slice none 0 0,.int .i64 0,.slice none 0 0,.slice none 0 0,.slice none 0 0,.int .i64 0]) 184 HU.out HI.out rfl (by decide) (by decide) (some ⟨bE,0,none⟩) 0 [] [] none 0 (fun k=>(ok k∧k<W.heap.size)∨W.heap.size<=k) (fun k=>ok k∧k<W.heap.size)
    (N_empty k55 hE _ (by omega) _ (HO2.out _ hge)) (F_nil _ _ _) (fun k hk=>⟨(HO1.out k hk).1,fun he=>by have:=hown k he.symm;have:=(HO1.out k hk).2;omega⟩) HO2.out (by omega) (fun k hk=>(hown k hk) ▸ hge) hbj (by simp)
   exact ⟨A1,k1,w1,hrun,hN,hB,fun k hk=>⟨(hO k hk).1,(hO k hk).2.imp (hown k) id⟩,fun b o hbo hne=>hK b o hbo (fun he=>hne (hown b he.symm).symm)⟩
  have APP2:Sd (∀ (A1:Option Addr) (k1 bL:Nat) (Wj:World),Kd.N k55 55 Wj W.heap.size (fun k=>(ok k∧k<W.heap.size)∨W.heap.size<=k) (.slice A1 0 k1) []->(∀ k,(Value.slice A1 0 k1).ownBlock=some k->Vd.heap.size<=k)->(∀ k,(Value.slice A1 0 k1).ownBlock=some k->k≠bL)->Wj.heap[bL]? =some (.cells #[.int .i64 r.f0,.bool r.f1,.int .i64 r.f2.f0,.slice A3 r.f2.f1.length c3,.slice A4 r.f2.f2.length c4,.slice A5 r.f2.f3.length c5,.int .i64 r.f3.f0,.slice A7 r.f3.f1.length c7,.slice A8 r.f3.f2.length c8,.slice A9 r.f3.f3.length c9,.int .i64 r.f4] 55 (0,0))->Vd.heap.size<=bL->Below Vd.heap.size Vd Wj->
    ∃ A2 k2 w2,(Builtin.append_ #[23,23] 23 #[.slice A1 0 k1,.slice (some ⟨bL,0,none⟩) 1 1]).run Tryz.prog Wj=.ok (.slice A2 1 k2) w2∧Below Vd.heap.size Vd w2∧
    ∃ A3_ k3 w3,(Builtin.append_ #[23,23] 23 #[.slice A2 1 k2,.slice none 0 0]).run Tryz.prog w2=.ok (.slice A3_ 1 k3) w3∧Kd.N k55 55 w3 W.heap.size (fun k=>(ok k∧k<W.heap.size)∨W.heap.size<=k) (.slice A3_ 1 k3) [r]∧Below Vd.heap.size Vd w3):=by
   refine ⟨fun A1 k1 bL Wj hN1 hown hne hL hgl hbj=>?_⟩
   obtain ⟨A2,k2,w2,hrun,hN,hB,hO,hK⟩:=fq_ (P:=Tryz.prog) k55 (Vd:=Vd) (Wj:=Wj) W.heap.size 23 23 55 (.agg #[.int .i64 0,.bool false,.int .i64 0,.slice none 0 0,.slice none 0 0,.slice none 0 0,.int .i64 0,.slice none 0 0,.slice none 0 0,.slice none 0 0,.int .i64 0]) 184 HU.out HI.out rfl (by decide) (by decide) A1 k1 [] [r] (some ⟨bL,0,none⟩) 1 (fun k=>(ok k∧k<W.heap.size)∨W.heap.size<=k) (fun k=>(ok k∧k<W.heap.size)∨k=bL)
    hN1 (F_one (cs:=[.int .i64 r.f0,.bool r.f1,.int .i64 r.f2.f0,.slice A3 r.f2.f1.length c3,.slice A4 r.f2.f2.length c4,.slice A5 r.f2.f3.length c5,.int .i64 r.f3.f0,.slice A7 r.f3.f1.length c7,.slice A8 r.f3.f2.length c8,.slice A9 r.f3.f3.length c9,.int .i64 r.f4]) hL (Or.inr rfl) (FK_mono (FK_below (FK_bound HR.out) (HBW.out.trans (hbj.mono HBW.out.size))) (fun k hk=>Or.inl hk)))
    (fun k hk=>Or.elim hk (fun hk=>⟨(HO1.out k hk).1,fun he=>by have:=hown k he.symm;have:=(HO1.out k hk).2;omega⟩) (fun hk=>⟨hk ▸ HO2.out bL hgl,fun he=>hne k he.symm hk⟩)) HO2.out (by omega) hown hbj (by simp)
   obtain ⟨A3_,k3,w3,hrun3,hN3,hB3,_,_⟩:=fq_ (P:=Tryz.prog) k55 (Vd:=Vd) (Wj:=w2) W.heap.size 23 23 55 (.agg #[.int .i64 0,.bool false,.int .i64 0,.slice none 0 0,.slice none 0 0,.slice none 0 0,.int .i64 0,.slice none 0 0,.slice none 0 0,.slice none 0 0,.int .i64 0]) 184 HU.out HI.out rfl (by decide) (by decide) A2 k2 ([] ++ [r]) [] none 0 (fun k=>(ok k∧k<W.heap.size)∨W.heap.size<=k) (fun k=>False)
    hN (fun W' _=>⟨rfl,by simp,fun h=>absurd h (Nat.lt_irrefl 0)⟩) (fun k hk=>hk.elim) HO2.out (by omega) (fun k hk=>(hO k hk).1) hB (by simp)
   exact ⟨A2,k2,w2,hrun,hB,A3_,k3,w3,hrun3,hN3,hB3⟩
  clear hbd hbw hbW hxd hzd b0
  -- REGION 4
  refine start_ (n:=13) (S:=fun w'=>w'.cell? ⟨W.heap.size,0,none⟩=some (.int .i64 r.f0)∧w'.cell? ⟨W.heap.size,1,none⟩=some (.bool r.f1)∧w'.cell? ⟨W.heap.size,2,none⟩=some (.int .i64 r.f2.f0)∧w'.cell? ⟨W.heap.size,3,none⟩=some (.slice A3 r.f2.f1.length c3)∧w'.cell? ⟨W.heap.size,4,none⟩=some (.slice A4 r.f2.f2.length c4)∧w'.cell? ⟨W.heap.size,5,none⟩=some (.slice A5 r.f2.f3.length c5)∧w'.cell? ⟨W.heap.size,6,none⟩=some (.int .i64 r.f3.f0)∧w'.cell? ⟨W.heap.size,7,none⟩=some (.slice A7 r.f3.f1.length c7)∧w'.cell? ⟨W.heap.size,8,none⟩=some (.slice A8 r.f3.f2.length c8)∧w'.cell? ⟨W.heap.size,9,none⟩=some (.slice A9 r.f3.f3.length c9)∧w'.cell? ⟨W.heap.size,10,none⟩=some (.int .i64 r.f4)) (ds:=[]) #[false,false,false,false,false,false,false,false,false,false,false,false,false] (by kernel_rfl) rfl rfl (by rw [←hVd];exact (HS11.out _ (Below.refl _ _))) (fun hHeld=>?_)
  rw [←hVd] at hHeld ⊢
  clear hVd
  refine pu_ 1 23 ?_
  refine pu_ 2 24 ?_
  refine pu_ 3 25 ?_
  refine pu_ 8 30 ?_
  refine pu_ 9 31 ?_
  refine pu_ 10 32 ?_
  refine ta_ 5 27 hHeld ?_
  refine join_ (σ:=Nat × (Option Addr × Nat) × Nat) 3 #[true,true,true,true,true,true,true,false,true,true,true,false,false] (fun s=>[(22,.slice (some ⟨s.1,0,none⟩) 0 0),(26,.slice s.2.1.1 0 s.2.1.2),(28,.slice (some ⟨s.2.2,0,none⟩) 1 1)]) (fun s w'=>(w'.cell? ⟨W.heap.size,0,none⟩=some (.int .i64 r.f0)∧w'.cell? ⟨W.heap.size,1,none⟩=some (.bool r.f1)∧w'.cell? ⟨W.heap.size,2,none⟩=some (.int .i64 r.f2.f0)∧w'.cell? ⟨W.heap.size,3,none⟩=some (.slice A3 r.f2.f1.length c3)∧w'.cell? ⟨W.heap.size,4,none⟩=some (.slice A4 r.f2.f2.length c4)∧w'.cell? ⟨W.heap.size,5,none⟩=some (.slice A5 r.f2.f3.length c5)∧w'.cell? ⟨W.heap.size,6,none⟩=some (.int .i64 r.f3.f0)∧w'.cell? ⟨W.heap.size,7,none⟩=some (.slice A7 r.f3.f1.length c7)∧w'.cell? ⟨W.heap.size,8,none⟩=some (.slice A8 r.f3.f2.length c8)∧w'.cell? ⟨W.heap.size,9,none⟩=some (.slice A9 r.f3.f3.length c9)∧w'.cell? ⟨W.heap.size,10,none⟩=some (.int .i64 r.f4))∧Kd.N k55 55 w' W.heap.size (fun k=>(ok k∧k<W.heap.size)∨W.heap.size<=k) (.slice s.2.1.1 0 s.2.1.2) []∧(∀ k,(Value.slice s.2.1.1 0 s.2.1.2).ownBlock=some k->Vd.heap.size<=k)∧(∀ k,(Value.slice s.2.1.1 0 s.2.1.2).ownBlock=some k->k≠s.2.2)∧w'.heap[s.2.2]? =some (.cells #[.int .i64 r.f0,.bool r.f1,.int .i64 r.f2.f0,.slice A3 r.f2.f1.length c3,.slice A4 r.f2.f2.length c4,.slice A5 r.f2.f3.length c5,.int .i64 r.f3.f0,.slice A7 r.f3.f1.length c7,.slice A8 r.f3.f2.length c8,.slice A9 r.f3.f3.length c9,.int .i64 r.f4] 55 (0,0))∧Vd.heap.size<=s.2.2∧Below Vd.heap.size Vd w') ?_ ?_
  rotate_left
  ·intro hCont
   refine two_ (i:=0) (j:=6) (Ni:=some 22) (Nj:=some 28) #[true,true,true,true,false,true,false,false,true,true,true,false,false] #[false,true,true,true,false,true,true,false,true,true,true,false,false] rfl rfl rfl rfl (by kernel_rfl) (by decide) (by decide) (fun K hK=>?_) (fun K hK=>?_)
   ·skip
    refine value_ (w1:=?_) (v:=?_) (by rfl) rfl ?_ ?_
    rotate_left 2
    ·go_simp
     constructor
     ·rfl
     ·rfl
    have hE:=ah_ Vd (.cells #[] 55)
    have hb_:=ab_ (Below.refl Vd.heap.size Vd) (.cells #[] 55)
    have hs_:(Vd.alloc (.cells #[] 55)).heap.size=Vd.heap.size+1:=Array.size_push _
    have hB_:Below Vd.heap.size Vd _:=BD.out.trans (hb_.mono BD.out.size)
    generalize Vd.alloc (.cells #[] 55)=Wq1 at hE hb_ hs_ hB_ ⊢
    have HE:=Sd.m hE
    have BWq1:=Sd.m hB_
    have SZ1:=Sd.m hs_
    clear hE hb_ hB_ hs_
    refine hK.out _ _ (HS11.out _ BWq1.out) (fun hHeld=>?_)
    clear hK K
    refine no_ 22 ?_
    refine two_ (i:=4) (j:=6) (Ni:=some 26) (Nj:=some 28) #[true,true,true,true,true,true,false,false,true,true,true,false,false] #[true,true,true,true,false,true,true,false,true,true,true,false,false] rfl rfl rfl rfl (by kernel_rfl) (by decide) (by decide) (fun K hK=>?_) (fun K hK=>?_)
    ·skip
     obtain ⟨A1q,k1q,Wq2,hrun_,hN_,hB_,hO_,hK_⟩:=APP1.out Vd.heap.size Wq1 HE.out (by exact Nat.le_refl _) BWq1.out
     refine cl_ rfl (.tmp 22) (.tmp 25) 23 rfl _ _ rfl rfl hrun_ ?_
     have HN:=Sd.m hN_
     have HO:=Sd.m (fun k hk=>(hO_ k hk).1)
     have BWq2:=Sd.m hB_
     clear hrun_ hN_ hB_ hO_ hK_
     refine hK.out _ _ (HS11.out _ BWq2.out) (fun hHeld=>?_)
     clear hK K
     refine no_ 26 ?_
     refine on_ 6 28 (fun K hK=>?_)
     refine value_ (w1:=?_) (v:=?_) (by rfl) rfl ?_ ?_
     rotate_left 2
     ·go_simp
      constructor
      ·rfl
      ·rfl
     have hL:=ah_ Wq2 (.cells #[.int .i64 r.f0,.bool r.f1,.int .i64 r.f2.f0,.slice A3 r.f2.f1.length c3,.slice A4 r.f2.f2.length c4,.slice A5 r.f2.f3.length c5,.int .i64 r.f3.f0,.slice A7 r.f3.f1.length c7,.slice A8 r.f3.f2.length c8,.slice A9 r.f3.f3.length c9,.int .i64 r.f4] 55)
     have hb_:=ab_ (Below.refl Wq2.heap.size Wq2) (.cells #[.int .i64 r.f0,.bool r.f1,.int .i64 r.f2.f0,.slice A3 r.f2.f1.length c3,.slice A4 r.f2.f2.length c4,.slice A5 r.f2.f3.length c5,.int .i64 r.f3.f0,.slice A7 r.f3.f1.length c7,.slice A8 r.f3.f2.length c8,.slice A9 r.f3.f3.length c9,.int .i64 r.f4] 55)
     have hs_:(Wq2.alloc (.cells #[.int .i64 r.f0,.bool r.f1,.int .i64 r.f2.f0,.slice A3 r.f2.f1.length c3,.slice A4 r.f2.f2.length c4,.slice A5 r.f2.f3.length c5,.int .i64 r.f3.f0,.slice A7 r.f3.f1.length c7,.slice A8 r.f3.f2.length c8,.slice A9 r.f3.f3.length c9,.int .i64 r.f4] 55)).heap.size=Wq2.heap.size+1:=Array.size_push _
     have hNE_:=fun k hk=>Nat.ne_of_lt (N_lt HN.out k hk)
     have hN:=N_below HN.out hb_
     have hB_:Below Vd.heap.size Vd _:=BWq2.out.trans (hb_.mono BWq2.out.size)
     generalize Wq2.alloc (.cells #[.int .i64 r.f0,.bool r.f1,.int .i64 r.f2.f0,.slice A3 r.f2.f1.length c3,.slice A4 r.f2.f2.length c4,.slice A5 r.f2.f3.length c5,.int .i64 r.f3.f0,.slice A7 r.f3.f1.length c7,.slice A8 r.f3.f2.length c8,.slice A9 r.f3.f3.length c9,.int .i64 r.f4] 55)=Wq3 at hL hb_ hs_ hB_ hN ⊢
     clear HN
     have HN:=Sd.m hN
     clear hN
     have HL:=Sd.m hL
     have BWq3:=Sd.m hB_
     have SZ3:=Sd.m hs_
     clear hL hb_ hB_ hs_
     have HNE:=Sd.m hNE_
     clear hNE_
     refine hK.out _ _ (HS11.out _ BWq3.out) (fun hHeld=>?_)
     clear hK K
     refine no_ 28 ?_
     refine norm_ ?_ (hCont (Vd.heap.size,(A1q,k1q),Wq2.heap.size) _ ?_)
     ·first | (simp only [putAll,Act.put,List.setIfInBounds_toArray,List.set_cons_zero,List.set_cons_succ];done) | (simp only [putAll,Act.put,List.setIfInBounds_toArray,List.set_cons_zero,List.set_cons_succ];rfl)
     exact ⟨hHeld,HN.out,HO.out,HNE.out,HL.out,by exact BWq2.out.size,BWq3.out⟩
    ·skip
     refine value_ (w1:=?_) (v:=?_) (by rfl) rfl ?_ ?_
     rotate_left 2
     ·go_simp
      constructor
      ·rfl
      ·rfl
     have hL:=ah_ Wq1 (.cells #[.int .i64 r.f0,.bool r.f1,.int .i64 r.f2.f0,.slice A3 r.f2.f1.length c3,.slice A4 r.f2.f2.length c4,.slice A5 r.f2.f3.length c5,.int .i64 r.f3.f0,.slice A7 r.f3.f1.length c7,.slice A8 r.f3.f2.length c8,.slice A9 r.f3.f3.length c9,.int .i64 r.f4] 55)
     have hb_:=ab_ (Below.refl Wq1.heap.size Wq1) (.cells #[.int .i64 r.f0,.bool r.f1,.int .i64 r.f2.f0,.slice A3 r.f2.f1.length c3,.slice A4 r.f2.f2.length c4,.slice A5 r.f2.f3.length c5,.int .i64 r.f3.f0,.slice A7 r.f3.f1.length c7,.slice A8 r.f3.f2.length c8,.slice A9 r.f3.f3.length c9,.int .i64 r.f4] 55)
     have hs_:(Wq1.alloc (.cells #[.int .i64 r.f0,.bool r.f1,.int .i64 r.f2.f0,.slice A3 r.f2.f1.length c3,.slice A4 r.f2.f2.length c4,.slice A5 r.f2.f3.length c5,.int .i64 r.f3.f0,.slice A7 r.f3.f1.length c7,.slice A8 r.f3.f2.length c8,.slice A9 r.f3.f3.length c9,.int .i64 r.f4] 55)).heap.size=Wq1.heap.size+1:=Array.size_push _
     have hE:=ae_ HE.out hb_
     have hB_:Below Vd.heap.size Vd _:=BWq1.out.trans (hb_.mono BWq1.out.size)
     generalize Wq1.alloc (.cells #[.int .i64 r.f0,.bool r.f1,.int .i64 r.f2.f0,.slice A3 r.f2.f1.length c3,.slice A4 r.f2.f2.length c4,.slice A5 r.f2.f3.length c5,.int .i64 r.f3.f0,.slice A7 r.f3.f1.length c7,.slice A8 r.f3.f2.length c8,.slice A9 r.f3.f3.length c9,.int .i64 r.f4] 55)=Wq2 at hL hb_ hs_ hB_ hE ⊢
     clear HE
     have HE:=Sd.m hE
     clear hE
     have HL:=Sd.m hL
     have BWq2:=Sd.m hB_
     have SZ2:=Sd.m hs_
     clear hL hb_ hB_ hs_
     refine hK.out _ _ (HS11.out _ BWq2.out) (fun hHeld=>?_)
     clear hK K
     refine no_ 28 ?_
     refine on_ 4 26 (fun K hK=>?_)
     obtain ⟨A1q,k1q,Wq3,hrun_,hN_,hB_,hO_,hK_⟩:=APP1.out Vd.heap.size Wq2 HE.out (by exact Nat.le_refl _) BWq2.out
     refine cl_ rfl (.tmp 22) (.tmp 25) 23 rfl _ _ rfl rfl hrun_ ?_
     have hne_:Wq1.heap.size≠Vd.heap.size:=by have h1_:=SZ1.out;have h2_:=SZ2.out;omega
     have hL_:=hK_ _ _ HL.out hne_
     have hNE_: ∀ k,(Value.slice A1q 0 k1q).ownBlock=some k->k≠Wq1.heap.size:=fun k hk=>by have h1_:=SZ1.out;have h2_:=SZ2.out;rcases (hO_ k hk).2 with h3_ | h3_ <;> omega
     clear HL
     have HL:=Sd.m hL_
     have HNE:=Sd.m hNE_
     clear hne_ hL_ hNE_
     have HN:=Sd.m hN_
     have HO:=Sd.m (fun k hk=>(hO_ k hk).1)
     have BWq3:=Sd.m hB_
     clear hrun_ hN_ hB_ hO_ hK_
     refine hK.out _ _ (HS11.out _ BWq3.out) (fun hHeld=>?_)
     clear hK K
     refine no_ 26 ?_
     refine norm_ ?_ (hCont (Vd.heap.size,(A1q,k1q),Wq1.heap.size) _ ?_)
     ·first | (simp only [putAll,Act.put,List.setIfInBounds_toArray,List.set_cons_zero,List.set_cons_succ];done) | (simp only [putAll,Act.put,List.setIfInBounds_toArray,List.set_cons_zero,List.set_cons_succ];rfl)
     exact ⟨hHeld,HN.out,HO.out,HNE.out,HL.out,by exact BWq1.out.size,BWq3.out⟩
   ·skip
    refine value_ (w1:=?_) (v:=?_) (by rfl) rfl ?_ ?_
    rotate_left 2
    ·go_simp
     constructor
     ·rfl
     ·rfl
    have hL:=ah_ Vd (.cells #[.int .i64 r.f0,.bool r.f1,.int .i64 r.f2.f0,.slice A3 r.f2.f1.length c3,.slice A4 r.f2.f2.length c4,.slice A5 r.f2.f3.length c5,.int .i64 r.f3.f0,.slice A7 r.f3.f1.length c7,.slice A8 r.f3.f2.length c8,.slice A9 r.f3.f3.length c9,.int .i64 r.f4] 55)
    have hb_:=ab_ (Below.refl Vd.heap.size Vd) (.cells #[.int .i64 r.f0,.bool r.f1,.int .i64 r.f2.f0,.slice A3 r.f2.f1.length c3,.slice A4 r.f2.f2.length c4,.slice A5 r.f2.f3.length c5,.int .i64 r.f3.f0,.slice A7 r.f3.f1.length c7,.slice A8 r.f3.f2.length c8,.slice A9 r.f3.f3.length c9,.int .i64 r.f4] 55)
    have hs_:(Vd.alloc (.cells #[.int .i64 r.f0,.bool r.f1,.int .i64 r.f2.f0,.slice A3 r.f2.f1.length c3,.slice A4 r.f2.f2.length c4,.slice A5 r.f2.f3.length c5,.int .i64 r.f3.f0,.slice A7 r.f3.f1.length c7,.slice A8 r.f3.f2.length c8,.slice A9 r.f3.f3.length c9,.int .i64 r.f4] 55)).heap.size=Vd.heap.size+1:=Array.size_push _
    have hB_:Below Vd.heap.size Vd _:=BD.out.trans (hb_.mono BD.out.size)
    generalize Vd.alloc (.cells #[.int .i64 r.f0,.bool r.f1,.int .i64 r.f2.f0,.slice A3 r.f2.f1.length c3,.slice A4 r.f2.f2.length c4,.slice A5 r.f2.f3.length c5,.int .i64 r.f3.f0,.slice A7 r.f3.f1.length c7,.slice A8 r.f3.f2.length c8,.slice A9 r.f3.f3.length c9,.int .i64 r.f4] 55)=Wq1 at hL hb_ hs_ hB_ ⊢
    have HL:=Sd.m hL
    have BWq1:=Sd.m hB_
    have SZ1:=Sd.m hs_
    clear hL hb_ hB_ hs_
    refine hK.out _ _ (HS11.out _ BWq1.out) (fun hHeld=>?_)
    clear hK K
    refine no_ 28 ?_
    refine on_ 0 22 (fun K hK=>?_)
    refine value_ (w1:=?_) (v:=?_) (by rfl) rfl ?_ ?_
    rotate_left 2
    ·go_simp
     constructor
     ·rfl
     ·rfl
    have hE:=ah_ Wq1 (.cells #[] 55)
    have hb_:=ab_ (Below.refl Wq1.heap.size Wq1) (.cells #[] 55)
    have hs_:(Wq1.alloc (.cells #[] 55)).heap.size=Wq1.heap.size+1:=Array.size_push _
    have hL:=ae_ HL.out hb_
    have hB_:Below Vd.heap.size Vd _:=BWq1.out.trans (hb_.mono BWq1.out.size)
    generalize Wq1.alloc (.cells #[] 55)=Wq2 at hE hb_ hs_ hB_ hL ⊢
    clear HL
    have HL:=Sd.m hL
    clear hL
    have HE:=Sd.m hE
    have BWq2:=Sd.m hB_
    have SZ2:=Sd.m hs_
    clear hE hb_ hB_ hs_
    refine hK.out _ _ (HS11.out _ BWq2.out) (fun hHeld=>?_)
    clear hK K
    refine no_ 22 ?_
    refine on_ 4 26 (fun K hK=>?_)
    obtain ⟨A1q,k1q,Wq3,hrun_,hN_,hB_,hO_,hK_⟩:=APP1.out Wq1.heap.size Wq2 HE.out (by exact BWq1.out.size) BWq2.out
    refine cl_ rfl (.tmp 22) (.tmp 25) 23 rfl _ _ rfl rfl hrun_ ?_
    have hne_:Vd.heap.size≠Wq1.heap.size:=by have h1_:=SZ1.out;have h2_:=SZ2.out;omega
    have hL_:=hK_ _ _ HL.out hne_
    have hNE_: ∀ k,(Value.slice A1q 0 k1q).ownBlock=some k->k≠Vd.heap.size:=fun k hk=>by have h1_:=SZ1.out;have h2_:=SZ2.out;rcases (hO_ k hk).2 with h3_ | h3_ <;> omega
    clear HL
    have HL:=Sd.m hL_
    have HNE:=Sd.m hNE_
    clear hne_ hL_ hNE_
    have HN:=Sd.m hN_
    have HO:=Sd.m (fun k hk=>(hO_ k hk).1)
    have BWq3:=Sd.m hB_
    clear hrun_ hN_ hB_ hO_ hK_
    refine hK.out _ _ (HS11.out _ BWq3.out) (fun hHeld=>?_)
    clear hK K
    refine no_ 26 ?_
    refine norm_ ?_ (hCont (Wq1.heap.size,(A1q,k1q),Vd.heap.size) _ ?_)
    ·first | (simp only [putAll,Act.put,List.setIfInBounds_toArray,List.set_cons_zero,List.set_cons_succ];done) | (simp only [putAll,Act.put,List.setIfInBounds_toArray,List.set_cons_zero,List.set_cons_succ];rfl)
    exact ⟨hHeld,HN.out,HO.out,HNE.out,HL.out,by exact Nat.le_refl _,BWq3.out⟩
  rintro ⟨bE,⟨A1q,k1q⟩,bL⟩ Wj ⟨hHeld,hN,hO,hne,hL,hgl,hbj⟩
  dsimp only at hN hO hne hL hgl
  dsimp only [putAll]
  obtain ⟨A2,k2,w2,hrun2,hB2,A3_,k3,w3,hrun3,hN3,hB3⟩:=APP2.out A1q k1q bL Wj hN hO hne hL hgl hbj
  have HB2:=Sd.m hB2
  have HN3:=Sd.m hN3
  have HB3:=Sd.m hB3
  clear hN hO hne hL hgl hbj hB2 hN3 hB3
  refine norm_ (a':=?_) ?_ ?_
  rotate_left
  ·simp only [putAll,Act.put,List.setIfInBounds_toArray,List.set_cons_zero,List.set_cons_succ]
   rfl
  refine on_ 7 29 (fun K hK=>?_)
  refine cl_ rfl (.tmp 26) (.tmp 28) 23 rfl _ _ rfl rfl hrun2 ?_
  refine hK.out _ _ (HS11.out _ HB2.out) (fun hHeld=>?_)
  clear hK K
  refine no_ 29 ?_
  refine on_ 11 33 (fun K hK=>?_)
  refine cl_ rfl (.tmp 29) (.tmp 32) 23 rfl _ _ rfl rfl hrun3 ?_
  refine hK.out _ _ (HS11.out _ HB3.out) (fun hHeld=>?_)
  clear hK K
  refine no_ 33 ?_
  refine pu_ 12 4 ?_
  refine done_ (by kernel_rfl) ?_
  go_wp2_with fail
  all_goals
   refine bodyPost_ret (gk_ (r:=.tmp 4) rfl (.tmp .nil)) rfl ?_
   exact ⟨A3_,k3,rfl,(N_reads' HN3.out).2.1,N_F HN3.out,HBW.out.trans (HB3.out.mono HBW.out.size)⟩
theorem put_second (W:World)(r:S55)(A3:Option Addr)(c3:Nat)(A4:Option Addr)(c4:Nat)(A5:Option Addr)(c5:Nat)(A7:Option Addr)(c7:Nat)(A8:Option Addr)(c8:Nat)(A9:Option Addr)(c9:Nat)(ok:Nat->Prop)
  (hr:Kd.FK k55 W ok r [.int .i64 r.f0,.bool r.f1,.int .i64 r.f2.f0,.slice A3 r.f2.f1.length c3,.slice A4 r.f2.f2.length c4,.slice A5 r.f2.f3.length c5,.int .i64 r.f3.f0,.slice A7 r.f3.f1.length c7,.slice A8 r.f3.f2.length c8,.slice A9 r.f3.f3.length c9,.int .i64 r.f4]) (x:S55) (A:Option Addr) (c:Nat) (hc:1<=c) (hx:Kd.F k55 W ok A 1 [x]) (hlt:x.f0<r.f0):
  Calls Tryz.prog 136 #[.slice A 1 c,.agg #[.int .i64 r.f0,.bool r.f1,.int .i64 r.f2.f0,.slice A3 r.f2.f1.length c3,.slice A4 r.f2.f2.length c4,.slice A5 r.f2.f3.length c5,.int .i64 r.f3.f0,.slice A7 r.f3.f1.length c7,.slice A8 r.f3.f2.length c8,.slice A9 r.f3.f3.length c9,.int .i64 r.f4]] W fun e w'=> ∃ A1 c1,e=.returned (.slice A1 2 c1)∧2<=c1∧Kd.F k55 w' (fun k=>(ok k∧k<W.heap.size)∨W.heap.size<=k) A1 2 [x,r]∧Below W.heap.size W w':=by
 obtain ⟨W1,hW1⟩: ∃ W_,W_=W.alloc (.cells #[.int .i64 r.f0,.bool r.f1,.int .i64 r.f2.f0,.slice A3 r.f2.f1.length c3,.slice A4 r.f2.f2.length c4,.slice A5 r.f2.f3.length c5,.int .i64 r.f3.f0,.slice A7 r.f3.f1.length c7,.slice A8 r.f3.f2.length c8,.slice A9 r.f3.f3.length c9,.int .i64 r.f4] 55):=⟨_,rfl⟩
 have hb1:Below W.heap.size W W1:=by rw [hW1];exact ab_ (Below.refl W.heap.size W) _
 have hs1:W1.heap.size=W.heap.size+1:=by rw [hW1];exact Array.size_push _
 have hx1:W1.heap[W.heap.size]? =some (.cells #[.int .i64 r.f0,.bool r.f1,.int .i64 r.f2.f0,.slice A3 r.f2.f1.length c3,.slice A4 r.f2.f2.length c4,.slice A5 r.f2.f3.length c5,.int .i64 r.f3.f0,.slice A7 r.f3.f1.length c7,.slice A8 r.f3.f2.length c8,.slice A9 r.f3.f3.length c9,.int .i64 r.f4] 55 (0,0)):=by rw [hW1];exact ah_ W _
 have HW1:=Sd.m hW1
 have HB1:=Sd.m hb1
 have HX1:=Sd.m hx1
 have HS1:=Sd.m hs1
 have HR:=Sd.m hr
 clear hb1 hx1 hs1 hW1 hr
 have HL:=Sd.m hx
 have HLT:=Sd.m hlt
 clear hx hlt
 have hci:(1:Int)<=(c:Int):=by omega
 go_enter Tryz.func136,Tryz.ntmps136
 go_wp2_with fail
 rw [←HW1.out]
 go_loopw [5] (fun t5 Wx=>(t5=.int .i64 0∨t5=.int .i64 1)∧Below W1.heap.size W1 Wx) (fun t5 _=>(1 - intOf t5).toNat)
 case atStart=>exact ⟨Or.inl rfl,Below.refl _ _⟩
 case round=>
  obtain ⟨hk,hb⟩:=hrel
  have hbx:=ae_ HX1.out hb
  have b0:=bc_ hbx 0 rfl
  have HB:=Sd.m hb
  have HBX:=Sd.m hbx
  clear hb hbx
  rcases hk with rfl | rfl
  ·obtain ⟨ad,q3,d3,q4,d4,q5,d5,q7,d7,q8,d8,q9,d9,rfl,k0,-⟩:=hm_ (Kd.C_below (Kd.F_now HL.out) (HB1.out.trans (HB.out.mono HB1.out.size))) 0 (by decide) (by decide)
   change wr.cell? _=some (.int .i64 x.f0) at k0
   have e0:ad.add ((0:Int).toNat*11)=ad:=by simp [Addr.add]
   rw [e0] at k0
   clear e0
   have hd:=dt__ HLT.out
   go_wp2_with fail
   go_quiet (fail)
   go_wp2_with fail
   go_roundw
   case rel=>exact ⟨Or.inr rfl,HB.out.trans ((ad_ (Below.refl _ _) _).mono HB.out.size)⟩
   case measure=>simp [intOf]
  ·skip
   go_wp2_with fail
   go_quiet (fail)
   go_wp2_with fail
   obtain ⟨Vd,hVd⟩: ∃ W_,W_=(wr.drewN nq).drew:=⟨_,rfl⟩
   have hbd:Below wr.heap.size wr Vd:=by rw [hVd];exact bq_ (ad_ (Below.refl _ _) nq)
   have hbw:=HB1.out.trans (HB.out.mono HB1.out.size)
   have hbW:=hbw.trans (hbd.mono hbw.size)
   have hxd:=ae_ HBX.out hbd
   have hzd:=bu_ hxd
   have HBW:=Sd.m hbW
   have HS11:Sd (∀ w',Below Vd.heap.size Vd w'->w'.cell? ⟨W.heap.size,0,none⟩=some (.int .i64 r.f0)∧w'.cell? ⟨W.heap.size,1,none⟩=some (.bool r.f1)∧w'.cell? ⟨W.heap.size,2,none⟩=some (.int .i64 r.f2.f0)∧w'.cell? ⟨W.heap.size,3,none⟩=some (.slice A3 r.f2.f1.length c3)∧w'.cell? ⟨W.heap.size,4,none⟩=some (.slice A4 r.f2.f2.length c4)∧w'.cell? ⟨W.heap.size,5,none⟩=some (.slice A5 r.f2.f3.length c5)∧w'.cell? ⟨W.heap.size,6,none⟩=some (.int .i64 r.f3.f0)∧w'.cell? ⟨W.heap.size,7,none⟩=some (.slice A7 r.f3.f1.length c7)∧w'.cell? ⟨W.heap.size,8,none⟩=some (.slice A8 r.f3.f2.length c8)∧w'.cell? ⟨W.heap.size,9,none⟩=some (.slice A9 r.f3.f3.length c9)∧w'.cell? ⟨W.heap.size,10,none⟩=some (.int .i64 r.f4)):=by
    refine ⟨fun w' hw'=>?_⟩
    have a1:=ae_ hxd hw'
    exact ⟨(af_ a1 0).trans rfl,(af_ a1 1).trans rfl,(af_ a1 2).trans rfl,(af_ a1 3).trans rfl,(af_ a1 4).trans rfl,(af_ a1 5).trans rfl,(af_ a1 6).trans rfl,(af_ a1 7).trans rfl,(af_ a1 8).trans rfl,(af_ a1 9).trans rfl,(af_ a1 10).trans rfl⟩
   have BD:=Sd.m (Below.refl Vd.heap.size Vd)
   have HU:=Sd.m (show Tryz.prog.underlying 23=some (.slice 55) from Tryz.underlying23)
   have HI:Sd ((Tryz.prog.info? 55).map (fun i=>(i.zero,i.size,i.bytes))=some (some (.agg #[.int .i64 0,.bool false,.int .i64 0,.slice none 0 0,.slice none 0 0,.slice none 0 0,.int .i64 0,.slice none 0 0,.slice none 0 0,.slice none 0 0,.int .i64 0]),11,184)):=⟨by kernel_rfl⟩
   have HO1:Sd (∀ k,(ok k∧k<W.heap.size)->((ok k∧k<W.heap.size)∨W.heap.size<=k)∧k<Vd.heap.size):=⟨fun k hk=>⟨Or.inl hk,Nat.lt_trans hk.2 hzd⟩⟩
   have HO2:Sd (∀ k,Vd.heap.size<=k->((ok k∧k<W.heap.size)∨W.heap.size<=k)):=⟨fun k hk=>Or.inr (by omega)⟩
   have APP1:Sd (∀ (bE:Nat) (Wj:World),Wj.heap[bE]? =some (.cells #[] 55 (0,0))->Vd.heap.size<=bE->Below Vd.heap.size Vd Wj->
     ∃ A1 k1 w1,(Builtin.append_ #[23,23] 23 #[.slice (some ⟨bE,0,none⟩) 0 0,.slice A 1 c]).run Tryz.prog Wj=.ok (.slice A1 1 k1) w1∧Kd.N k55 55 w1 W.heap.size (fun k=>(ok k∧k<W.heap.size)∨W.heap.size<=k) (.slice A1 1 k1) [x]∧Below Vd.heap.size Vd w1∧
      (∀ k,(Value.slice A1 1 k1).ownBlock=some k->Vd.heap.size<=k∧(bE=k∨Wj.heap.size<=k))∧(∀ b o,Wj.heap[b]? =some o->b≠bE->w1.heap[b]? =some o)):=by
    refine ⟨fun bE Wj hE hge hbj=>?_⟩
    have hown: ∀ k,(Value.slice (some ⟨bE,0,none⟩) 0 0).ownBlock=some k->bE=k:=fun k hk=>by simpa [Value.ownBlock] using hk
    obtain ⟨A1,k1,w1,hrun,hN,hB,hO,hK⟩:=fq_ (P:=Tryz.prog) k55 (Vd:=Vd) (Wj:=Wj) W.heap.size 23 23 55 (.agg #[.int .i64 0,.bool false,.int .i64 0,.slice none 0 0,.slice none 0 0,.slice none 0 0,.int .i64 0,.slice none 0 0,.slice none 0 0,.slice none 0 0,.int .i64 0]) 184 HU.out HI.out rfl (by decide) (by decide) (some ⟨bE,0,none⟩) 0 [] [x] A c (fun k=>(ok k∧k<W.heap.size)∨W.heap.size<=k) (fun k=>ok k∧k<W.heap.size)
     (N_empty k55 hE _ (by omega) _ (HO2.out _ hge)) (F_below (F_bound HL.out) (HBW.out.trans (hbj.mono HBW.out.size))) (fun k hk=>⟨(HO1.out k hk).1,fun he=>by have:=hown k he.symm;have:=(HO1.out k hk).2;omega⟩) HO2.out (by omega) (fun k hk=>(hown k hk) ▸ hge) hbj (by simp)
    exact ⟨A1,k1,w1,hrun,hN,hB,fun k hk=>⟨(hO k hk).1,(hO k hk).2.imp (hown k) id⟩,fun b o hbo hne=>hK b o hbo (fun he=>hne (hown b he.symm).symm)⟩
   have APP2:Sd (∀ (A1:Option Addr) (k1 bL:Nat) (Wj:World),Kd.N k55 55 Wj W.heap.size (fun k=>(ok k∧k<W.heap.size)∨W.heap.size<=k) (.slice A1 1 k1) [x]->(∀ k,(Value.slice A1 1 k1).ownBlock=some k->Vd.heap.size<=k)->(∀ k,(Value.slice A1 1 k1).ownBlock=some k->k≠bL)->Wj.heap[bL]? =some (.cells #[.int .i64 r.f0,.bool r.f1,.int .i64 r.f2.f0,.slice A3 r.f2.f1.length c3,.slice A4 r.f2.f2.length c4,.slice A5 r.f2.f3.length c5,.int .i64 r.f3.f0,.slice A7 r.f3.f1.length c7,.slice A8 r.f3.f2.length c8,.slice A9 r.f3.f3.length c9,.int .i64 r.f4] 55 (0,0))->Vd.heap.size<=bL->Below Vd.heap.size Vd Wj->
     ∃ A2 k2 w2,(Builtin.append_ #[23,23] 23 #[.slice A1 1 k1,.slice (some ⟨bL,0,none⟩) 1 1]).run Tryz.prog Wj=.ok (.slice A2 2 k2) w2∧Below Vd.heap.size Vd w2∧
     ∃ A3_ k3 w3,(Builtin.append_ #[23,23] 23 #[.slice A2 2 k2,.slice (if c=1 then A else A.map (·.add 11)) 0 (c - 1)]).run Tryz.prog w2=.ok (.slice A3_ 2 k3) w3∧Kd.N k55 55 w3 W.heap.size (fun k=>(ok k∧k<W.heap.size)∨W.heap.size<=k) (.slice A3_ 2 k3) [x,r]∧Below Vd.heap.size Vd w3):=by
    refine ⟨fun A1 k1 bL Wj hN1 hown hne hL hgl hbj=>?_⟩
    obtain ⟨A2,k2,w2,hrun,hN,hB,hO,hK⟩:=fq_ (P:=Tryz.prog) k55 (Vd:=Vd) (Wj:=Wj) W.heap.size 23 23 55 (.agg #[.int .i64 0,.bool false,.int .i64 0,.slice none 0 0,.slice none 0 0,.slice none 0 0,.int .i64 0,.slice none 0 0,.slice none 0 0,.slice none 0 0,.int .i64 0]) 184 HU.out HI.out rfl (by decide) (by decide) A1 k1 [x] [r] (some ⟨bL,0,none⟩) 1 (fun k=>(ok k∧k<W.heap.size)∨W.heap.size<=k) (fun k=>(ok k∧k<W.heap.size)∨k=bL)
     hN1 (F_one (cs:=[.int .i64 r.f0,.bool r.f1,.int .i64 r.f2.f0,.slice A3 r.f2.f1.length c3,.slice A4 r.f2.f2.length c4,.slice A5 r.f2.f3.length c5,.int .i64 r.f3.f0,.slice A7 r.f3.f1.length c7,.slice A8 r.f3.f2.length c8,.slice A9 r.f3.f3.length c9,.int .i64 r.f4]) hL (Or.inr rfl) (FK_mono (FK_below (FK_bound HR.out) (HBW.out.trans (hbj.mono HBW.out.size))) (fun k hk=>Or.inl hk)))
     (fun k hk=>Or.elim hk (fun hk=>⟨(HO1.out k hk).1,fun he=>by have:=hown k he.symm;have:=(HO1.out k hk).2;omega⟩) (fun hk=>⟨hk ▸ HO2.out bL hgl,fun he=>hne k he.symm hk⟩)) HO2.out (by omega) hown hbj (by simp)
    obtain ⟨A3_,k3,w3,hrun3,hN3,hB3,_,_⟩:=fq_ (P:=Tryz.prog) k55 (Vd:=Vd) (Wj:=w2) W.heap.size 23 23 55 (.agg #[.int .i64 0,.bool false,.int .i64 0,.slice none 0 0,.slice none 0 0,.slice none 0 0,.int .i64 0,.slice none 0 0,.slice none 0 0,.slice none 0 0,.int .i64 0]) 184 HU.out HI.out rfl (by decide) (by decide) A2 k2 ([x] ++ [r]) [] (if c=1 then A else A.map (·.add 11)) (c - 1) (fun k=>(ok k∧k<W.heap.size)∨W.heap.size<=k) (fun k=>False)
     hN (fun W' _=>⟨rfl,by simp,fun h=>absurd h (Nat.lt_irrefl 0)⟩) (fun k hk=>hk.elim) HO2.out (by omega) (fun k hk=>(hO k hk).1) hB (by simp)
    exact ⟨A2,k2,w2,hrun,hB,A3_,k3,w3,hrun3,hN3,hB3⟩
   clear hbd hbw hbW hxd hzd b0
   -- REGION 4
   refine start_ (n:=13) (S:=fun w'=>w'.cell? ⟨W.heap.size,0,none⟩=some (.int .i64 r.f0)∧w'.cell? ⟨W.heap.size,1,none⟩=some (.bool r.f1)∧w'.cell? ⟨W.heap.size,2,none⟩=some (.int .i64 r.f2.f0)∧w'.cell? ⟨W.heap.size,3,none⟩=some (.slice A3 r.f2.f1.length c3)∧w'.cell? ⟨W.heap.size,4,none⟩=some (.slice A4 r.f2.f2.length c4)∧w'.cell? ⟨W.heap.size,5,none⟩=some (.slice A5 r.f2.f3.length c5)∧w'.cell? ⟨W.heap.size,6,none⟩=some (.int .i64 r.f3.f0)∧w'.cell? ⟨W.heap.size,7,none⟩=some (.slice A7 r.f3.f1.length c7)∧w'.cell? ⟨W.heap.size,8,none⟩=some (.slice A8 r.f3.f2.length c8)∧w'.cell? ⟨W.heap.size,9,none⟩=some (.slice A9 r.f3.f3.length c9)∧w'.cell? ⟨W.heap.size,10,none⟩=some (.int .i64 r.f4)) (ds:=[]) #[false,false,false,false,false,false,false,false,false,false,false,false,false] (by kernel_rfl) rfl rfl (by rw [←hVd];exact (HS11.out _ (Below.refl _ _))) (fun hHeld=>?_)
   rw [←hVd] at hHeld ⊢
   clear hVd
   refine pu_ 1 23 ?_
   refine pu_ 2 24 ?_
   refine pu_ 3 25 ?_
   refine pu_ 8 30 ?_
   refine pu_ 9 31 ?_
   refine pu_ 10 32 ?_
   refine ta_ 5 27 hHeld ?_
   refine join_ (σ:=Nat × (Option Addr × Nat) × Nat) 3 #[true,true,true,true,true,true,true,false,true,true,true,false,false] (fun s=>[(22,.slice (some ⟨s.1,0,none⟩) 0 0),(26,.slice s.2.1.1 1 s.2.1.2),(28,.slice (some ⟨s.2.2,0,none⟩) 1 1)]) (fun s w'=>(w'.cell? ⟨W.heap.size,0,none⟩=some (.int .i64 r.f0)∧w'.cell? ⟨W.heap.size,1,none⟩=some (.bool r.f1)∧w'.cell? ⟨W.heap.size,2,none⟩=some (.int .i64 r.f2.f0)∧w'.cell? ⟨W.heap.size,3,none⟩=some (.slice A3 r.f2.f1.length c3)∧w'.cell? ⟨W.heap.size,4,none⟩=some (.slice A4 r.f2.f2.length c4)∧w'.cell? ⟨W.heap.size,5,none⟩=some (.slice A5 r.f2.f3.length c5)∧w'.cell? ⟨W.heap.size,6,none⟩=some (.int .i64 r.f3.f0)∧w'.cell? ⟨W.heap.size,7,none⟩=some (.slice A7 r.f3.f1.length c7)∧w'.cell? ⟨W.heap.size,8,none⟩=some (.slice A8 r.f3.f2.length c8)∧w'.cell? ⟨W.heap.size,9,none⟩=some (.slice A9 r.f3.f3.length c9)∧w'.cell? ⟨W.heap.size,10,none⟩=some (.int .i64 r.f4))∧Kd.N k55 55 w' W.heap.size (fun k=>(ok k∧k<W.heap.size)∨W.heap.size<=k) (.slice s.2.1.1 1 s.2.1.2) [x]∧(∀ k,(Value.slice s.2.1.1 1 s.2.1.2).ownBlock=some k->Vd.heap.size<=k)∧(∀ k,(Value.slice s.2.1.1 1 s.2.1.2).ownBlock=some k->k≠s.2.2)∧w'.heap[s.2.2]? =some (.cells #[.int .i64 r.f0,.bool r.f1,.int .i64 r.f2.f0,.slice A3 r.f2.f1.length c3,.slice A4 r.f2.f2.length c4,.slice A5 r.f2.f3.length c5,.int .i64 r.f3.f0,.slice A7 r.f3.f1.length c7,.slice A8 r.f3.f2.length c8,.slice A9 r.f3.f3.length c9,.int .i64 r.f4] 55 (0,0))∧Vd.heap.size<=s.2.2∧Below Vd.heap.size Vd w') ?_ ?_
   rotate_left
   ·intro hCont
    refine two_ (i:=0) (j:=6) (Ni:=some 22) (Nj:=some 28) #[true,true,true,true,false,true,false,false,true,true,true,false,false] #[false,true,true,true,false,true,true,false,true,true,true,false,false] rfl rfl rfl rfl (by kernel_rfl) (by decide) (by decide) (fun K hK=>?_) (fun K hK=>?_)
    ·skip
     refine value_ (w1:=?_) (v:=?_) (by rfl) rfl ?_ ?_
     rotate_left 2
     ·go_simp
      constructor
      ·rfl
      ·rfl
     have hE:=ah_ Vd (.cells #[] 55)
     have hb_:=ab_ (Below.refl Vd.heap.size Vd) (.cells #[] 55)
     have hs_:(Vd.alloc (.cells #[] 55)).heap.size=Vd.heap.size+1:=Array.size_push _
     have hB_:Below Vd.heap.size Vd _:=BD.out.trans (hb_.mono BD.out.size)
     generalize Vd.alloc (.cells #[] 55)=Wq1 at hE hb_ hs_ hB_ ⊢
     have HE:=Sd.m hE
     have BWq1:=Sd.m hB_
     have SZ1:=Sd.m hs_
     clear hE hb_ hB_ hs_
     refine hK.out _ _ (HS11.out _ BWq1.out) (fun hHeld=>?_)
     clear hK K
     refine no_ 22 ?_
     refine two_ (i:=4) (j:=6) (Ni:=some 26) (Nj:=some 28) #[true,true,true,true,true,true,false,false,true,true,true,false,false] #[true,true,true,true,false,true,true,false,true,true,true,false,false] rfl rfl rfl rfl (by kernel_rfl) (by decide) (by decide) (fun K hK=>?_) (fun K hK=>?_)
     ·skip
      obtain ⟨A1q,k1q,Wq2,hrun_,hN_,hB_,hO_,hK_⟩:=APP1.out Vd.heap.size Wq1 HE.out (by exact Nat.le_refl _) BWq1.out
      refine cl_ rfl (.tmp 22) (.tmp 25) 23 rfl _ _ rfl rfl hrun_ ?_
      have HN:=Sd.m hN_
      have HO:=Sd.m (fun k hk=>(hO_ k hk).1)
      have BWq2:=Sd.m hB_
      clear hrun_ hN_ hB_ hO_ hK_
      refine hK.out _ _ (HS11.out _ BWq2.out) (fun hHeld=>?_)
      clear hK K
      refine no_ 26 ?_
      refine on_ 6 28 (fun K hK=>?_)
      refine value_ (w1:=?_) (v:=?_) (by rfl) rfl ?_ ?_
      rotate_left 2
      ·go_simp
       constructor
       ·rfl
       ·rfl
      have hL:=ah_ Wq2 (.cells #[.int .i64 r.f0,.bool r.f1,.int .i64 r.f2.f0,.slice A3 r.f2.f1.length c3,.slice A4 r.f2.f2.length c4,.slice A5 r.f2.f3.length c5,.int .i64 r.f3.f0,.slice A7 r.f3.f1.length c7,.slice A8 r.f3.f2.length c8,.slice A9 r.f3.f3.length c9,.int .i64 r.f4] 55)
      have hb_:=ab_ (Below.refl Wq2.heap.size Wq2) (.cells #[.int .i64 r.f0,.bool r.f1,.int .i64 r.f2.f0,.slice A3 r.f2.f1.length c3,.slice A4 r.f2.f2.length c4,.slice A5 r.f2.f3.length c5,.int .i64 r.f3.f0,.slice A7 r.f3.f1.length c7,.slice A8 r.f3.f2.length c8,.slice A9 r.f3.f3.length c9,.int .i64 r.f4] 55)
      have hs_:(Wq2.alloc (.cells #[.int .i64 r.f0,.bool r.f1,.int .i64 r.f2.f0,.slice A3 r.f2.f1.length c3,.slice A4 r.f2.f2.length c4,.slice A5 r.f2.f3.length c5,.int .i64 r.f3.f0,.slice A7 r.f3.f1.length c7,.slice A8 r.f3.f2.length c8,.slice A9 r.f3.f3.length c9,.int .i64 r.f4] 55)).heap.size=Wq2.heap.size+1:=Array.size_push _
      have hNE_:=fun k hk=>Nat.ne_of_lt (N_lt HN.out k hk)
      have hN:=N_below HN.out hb_
      have hB_:Below Vd.heap.size Vd _:=BWq2.out.trans (hb_.mono BWq2.out.size)
      generalize Wq2.alloc (.cells #[.int .i64 r.f0,.bool r.f1,.int .i64 r.f2.f0,.slice A3 r.f2.f1.length c3,.slice A4 r.f2.f2.length c4,.slice A5 r.f2.f3.length c5,.int .i64 r.f3.f0,.slice A7 r.f3.f1.length c7,.slice A8 r.f3.f2.length c8,.slice A9 r.f3.f3.length c9,.int .i64 r.f4] 55)=Wq3 at hL hb_ hs_ hB_ hN ⊢
      clear HN
      have HN:=Sd.m hN
      clear hN
      have HL:=Sd.m hL
      have BWq3:=Sd.m hB_
      have SZ3:=Sd.m hs_
      clear hL hb_ hB_ hs_
      have HNE:=Sd.m hNE_
      clear hNE_
      refine hK.out _ _ (HS11.out _ BWq3.out) (fun hHeld=>?_)
      clear hK K
      refine no_ 28 ?_
      refine norm_ ?_ (hCont (Vd.heap.size,(A1q,k1q),Wq2.heap.size) _ ?_)
      ·first | (simp only [putAll,Act.put,List.setIfInBounds_toArray,List.set_cons_zero,List.set_cons_succ];done) | (simp only [putAll,Act.put,List.setIfInBounds_toArray,List.set_cons_zero,List.set_cons_succ];rfl)
      exact ⟨hHeld,HN.out,HO.out,HNE.out,HL.out,by exact BWq2.out.size,BWq3.out⟩
     ·skip
      refine value_ (w1:=?_) (v:=?_) (by rfl) rfl ?_ ?_
      rotate_left 2
      ·go_simp
       constructor
       ·rfl
       ·rfl
      have hL:=ah_ Wq1 (.cells #[.int .i64 r.f0,.bool r.f1,.int .i64 r.f2.f0,.slice A3 r.f2.f1.length c3,.slice A4 r.f2.f2.length c4,.slice A5 r.f2.f3.length c5,.int .i64 r.f3.f0,.slice A7 r.f3.f1.length c7,.slice A8 r.f3.f2.length c8,.slice A9 r.f3.f3.length c9,.int .i64 r.f4] 55)
      have hb_:=ab_ (Below.refl Wq1.heap.size Wq1) (.cells #[.int .i64 r.f0,.bool r.f1,.int .i64 r.f2.f0,.slice A3 r.f2.f1.length c3,.slice A4 r.f2.f2.length c4,.slice A5 r.f2.f3.length c5,.int .i64 r.f3.f0,.slice A7 r.f3.f1.length c7,.slice A8 r.f3.f2.length c8,.slice A9 r.f3.f3.length c9,.int .i64 r.f4] 55)
      have hs_:(Wq1.alloc (.cells #[.int .i64 r.f0,.bool r.f1,.int .i64 r.f2.f0,.slice A3 r.f2.f1.length c3,.slice A4 r.f2.f2.length c4,.slice A5 r.f2.f3.length c5,.int .i64 r.f3.f0,.slice A7 r.f3.f1.length c7,.slice A8 r.f3.f2.length c8,.slice A9 r.f3.f3.length c9,.int .i64 r.f4] 55)).heap.size=Wq1.heap.size+1:=Array.size_push _
      have hE:=ae_ HE.out hb_
      have hB_:Below Vd.heap.size Vd _:=BWq1.out.trans (hb_.mono BWq1.out.size)
      generalize Wq1.alloc (.cells #[.int .i64 r.f0,.bool r.f1,.int .i64 r.f2.f0,.slice A3 r.f2.f1.length c3,.slice A4 r.f2.f2.length c4,.slice A5 r.f2.f3.length c5,.int .i64 r.f3.f0,.slice A7 r.f3.f1.length c7,.slice A8 r.f3.f2.length c8,.slice A9 r.f3.f3.length c9,.int .i64 r.f4] 55)=Wq2 at hL hb_ hs_ hB_ hE ⊢
      clear HE
      have HE:=Sd.m hE
      clear hE
      have HL:=Sd.m hL
      have BWq2:=Sd.m hB_
      have SZ2:=Sd.m hs_
      clear hL hb_ hB_ hs_
      refine hK.out _ _ (HS11.out _ BWq2.out) (fun hHeld=>?_)
      clear hK K
      refine no_ 28 ?_
      refine on_ 4 26 (fun K hK=>?_)
      obtain ⟨A1q,k1q,Wq3,hrun_,hN_,hB_,hO_,hK_⟩:=APP1.out Vd.heap.size Wq2 HE.out (by exact Nat.le_refl _) BWq2.out
      refine cl_ rfl (.tmp 22) (.tmp 25) 23 rfl _ _ rfl rfl hrun_ ?_
      have hne_:Wq1.heap.size≠Vd.heap.size:=by have h1_:=SZ1.out;have h2_:=SZ2.out;omega
      have hL_:=hK_ _ _ HL.out hne_
      have hNE_: ∀ k,(Value.slice A1q 1 k1q).ownBlock=some k->k≠Wq1.heap.size:=fun k hk=>by have h1_:=SZ1.out;have h2_:=SZ2.out;rcases (hO_ k hk).2 with h3_ | h3_ <;> omega
      clear HL
      have HL:=Sd.m hL_
      have HNE:=Sd.m hNE_
      clear hne_ hL_ hNE_
      have HN:=Sd.m hN_
      have HO:=Sd.m (fun k hk=>(hO_ k hk).1)
      have BWq3:=Sd.m hB_
      clear hrun_ hN_ hB_ hO_ hK_
      refine hK.out _ _ (HS11.out _ BWq3.out) (fun hHeld=>?_)
      clear hK K
      refine no_ 26 ?_
      refine norm_ ?_ (hCont (Vd.heap.size,(A1q,k1q),Wq1.heap.size) _ ?_)
      ·first | (simp only [putAll,Act.put,List.setIfInBounds_toArray,List.set_cons_zero,List.set_cons_succ];done) | (simp only [putAll,Act.put,List.setIfInBounds_toArray,List.set_cons_zero,List.set_cons_succ];rfl)
      exact ⟨hHeld,HN.out,HO.out,HNE.out,HL.out,by exact BWq1.out.size,BWq3.out⟩
    ·skip
     refine value_ (w1:=?_) (v:=?_) (by rfl) rfl ?_ ?_
     rotate_left 2
     ·go_simp
      constructor
      ·rfl
      ·rfl
     have hL:=ah_ Vd (.cells #[.int .i64 r.f0,.bool r.f1,.int .i64 r.f2.f0,.slice A3 r.f2.f1.length c3,.slice A4 r.f2.f2.length c4,.slice A5 r.f2.f3.length c5,.int .i64 r.f3.f0,.slice A7 r.f3.f1.length c7,.slice A8 r.f3.f2.length c8,.slice A9 r.f3.f3.length c9,.int .i64 r.f4] 55)
     have hb_:=ab_ (Below.refl Vd.heap.size Vd) (.cells #[.int .i64 r.f0,.bool r.f1,.int .i64 r.f2.f0,.slice A3 r.f2.f1.length c3,.slice A4 r.f2.f2.length c4,.slice A5 r.f2.f3.length c5,.int .i64 r.f3.f0,.slice A7 r.f3.f1.length c7,.slice A8 r.f3.f2.length c8,.slice A9 r.f3.f3.length c9,.int .i64 r.f4] 55)
     have hs_:(Vd.alloc (.cells #[.int .i64 r.f0,.bool r.f1,.int .i64 r.f2.f0,.slice A3 r.f2.f1.length c3,.slice A4 r.f2.f2.length c4,.slice A5 r.f2.f3.length c5,.int .i64 r.f3.f0,.slice A7 r.f3.f1.length c7,.slice A8 r.f3.f2.length c8,.slice A9 r.f3.f3.length c9,.int .i64 r.f4] 55)).heap.size=Vd.heap.size+1:=Array.size_push _
     have hB_:Below Vd.heap.size Vd _:=BD.out.trans (hb_.mono BD.out.size)
     generalize Vd.alloc (.cells #[.int .i64 r.f0,.bool r.f1,.int .i64 r.f2.f0,.slice A3 r.f2.f1.length c3,.slice A4 r.f2.f2.length c4,.slice A5 r.f2.f3.length c5,.int .i64 r.f3.f0,.slice A7 r.f3.f1.length c7,.slice A8 r.f3.f2.length c8,.slice A9 r.f3.f3.length c9,.int .i64 r.f4] 55)=Wq1 at hL hb_ hs_ hB_ ⊢
     have HL:=Sd.m hL
     have BWq1:=Sd.m hB_
     have SZ1:=Sd.m hs_
     clear hL hb_ hB_ hs_
     refine hK.out _ _ (HS11.out _ BWq1.out) (fun hHeld=>?_)
     clear hK K
     refine no_ 28 ?_
     refine on_ 0 22 (fun K hK=>?_)
     refine value_ (w1:=?_) (v:=?_) (by rfl) rfl ?_ ?_
     rotate_left 2
     ·go_simp
      constructor
      ·rfl
      ·rfl
     have hE:=ah_ Wq1 (.cells #[] 55)
     have hb_:=ab_ (Below.refl Wq1.heap.size Wq1) (.cells #[] 55)
     have hs_:(Wq1.alloc (.cells #[] 55)).heap.size=Wq1.heap.size+1:=Array.size_push _
     have hL:=ae_ HL.out hb_
     have hB_:Below Vd.heap.size Vd _:=BWq1.out.trans (hb_.mono BWq1.out.size)
     generalize Wq1.alloc (.cells #[] 55)=Wq2 at hE hb_ hs_ hB_ hL ⊢
     clear HL
     have HL:=Sd.m hL
     clear hL
     have HE:=Sd.m hE
     have BWq2:=Sd.m hB_
     have SZ2:=Sd.m hs_
     clear hE hb_ hB_ hs_
     refine hK.out _ _ (HS11.out _ BWq2.out) (fun hHeld=>?_)
     clear hK K
     refine no_ 22 ?_
     refine on_ 4 26 (fun K hK=>?_)
     obtain ⟨A1q,k1q,Wq3,hrun_,hN_,hB_,hO_,hK_⟩:=APP1.out Wq1.heap.size Wq2 HE.out (by exact BWq1.out.size) BWq2.out
     refine cl_ rfl (.tmp 22) (.tmp 25) 23 rfl _ _ rfl rfl hrun_ ?_
     have hne_:Vd.heap.size≠Wq1.heap.size:=by have h1_:=SZ1.out;have h2_:=SZ2.out;omega
     have hL_:=hK_ _ _ HL.out hne_
     have hNE_: ∀ k,(Value.slice A1q 1 k1q).ownBlock=some k->k≠Vd.heap.size:=fun k hk=>by have h1_:=SZ1.out;have h2_:=SZ2.out;rcases (hO_ k hk).2 with h3_ | h3_ <;> omega
     clear HL
     have HL:=Sd.m hL_
     have HNE:=Sd.m hNE_
     clear hne_ hL_ hNE_
     have HN:=Sd.m hN_
     have HO:=Sd.m (fun k hk=>(hO_ k hk).1)
     have BWq3:=Sd.m hB_
     clear hrun_ hN_ hB_ hO_ hK_
     refine hK.out _ _ (HS11.out _ BWq3.out) (fun hHeld=>?_)
     clear hK K
     refine no_ 26 ?_
     refine norm_ ?_ (hCont (Wq1.heap.size,(A1q,k1q),Vd.heap.size) _ ?_)
     ·first | (simp only [putAll,Act.put,List.setIfInBounds_toArray,List.set_cons_zero,List.set_cons_succ];done) | (simp only [putAll,Act.put,List.setIfInBounds_toArray,List.set_cons_zero,List.set_cons_succ];rfl)
     exact ⟨hHeld,HN.out,HO.out,HNE.out,HL.out,by exact Nat.le_refl _,BWq3.out⟩
   rintro ⟨bE,⟨A1q,k1q⟩,bL⟩ Wj ⟨hHeld,hN,hO,hne,hL,hgl,hbj⟩
   dsimp only at hN hO hne hL hgl
   dsimp only [putAll]
   obtain ⟨A2,k2,w2,hrun2,hB2,A3_,k3,w3,hrun3,hN3,hB3⟩:=APP2.out A1q k1q bL Wj hN hO hne hL hgl hbj
   have HB2:=Sd.m hB2
   have HN3:=Sd.m hN3
   have HB3:=Sd.m hB3
   clear hN hO hne hL hgl hbj hB2 hN3 hB3
   refine norm_ (a':=?_) ?_ ?_
   rotate_left
   ·simp only [putAll,Act.put,List.setIfInBounds_toArray,List.set_cons_zero,List.set_cons_succ]
    rfl
   refine on_ 7 29 (fun K hK=>?_)
   refine cl_ rfl (.tmp 26) (.tmp 28) 23 rfl _ _ rfl rfl hrun2 ?_
   refine hK.out _ _ (HS11.out _ HB2.out) (fun hHeld=>?_)
   clear hK K
   refine no_ 29 ?_
   refine on_ 11 33 (fun K hK=>?_)
   refine cl_ rfl (.tmp 29) (.tmp 32) 23 rfl _ _ rfl rfl hrun3 ?_
   refine hK.out _ _ (HS11.out _ HB3.out) (fun hHeld=>?_)
   clear hK K
   refine no_ 33 ?_
   refine pu_ 12 4 ?_
   refine done_ (by kernel_rfl) ?_
   go_wp2_with fail
   all_goals
    refine bodyPost_ret (gk_ (r:=.tmp 4) rfl (.tmp .nil)) rfl ?_
    exact ⟨A3_,k3,rfl,(N_reads' HN3.out).2.1,N_F HN3.out,HBW.out.trans (HB3.out.mono HBW.out.size)⟩
end LX
namespace P
open A L B
theorem ej_ {P:Int->Bool}{xs:List S74}(h:Spec P xs 1114112):canonF P=xs:=(ig_ h).symm
def plF (l:List S74):List S74:=orF l []
theorem plF_eq (l:List S74):plF l=canonF (hasB l):=by
 unfold plF orF
 exact ec_ fun c _ _=>by simp [hasB,Mem]
def szF (xs:List S74):Int:=(xs.map fun r=>r.f1 - r.f0+1).sum
theorem kj_:szF []=0:=rfl
theorem ga_ (r:S74)(xs:List S74):szF (r :: xs)=(r.f1 - r.f0+1)+szF xs:=by simp [szF]
theorem szF_app (xs ys:List S74):szF (xs ++ ys)=szF xs+szF ys:=by
 induction xs with
 | nil=>simp [kj_]
 | cons r xs ih=>rw [List.cons_append,ga_,ga_,ih];omega
def cnt (P:Int->Bool):Nat->Int
 | 0=>0
 | n+1=>cnt P n+if P (n:Int) then 1 else 0
theorem ups_sz (P:Int->Bool): ∀ n:Nat,szF (ups P n)=cnt P n
 | 0=>rfl
 | n+1=>by
  have ih:=ups_sz P n
  have hs:=ki_ P n
  rw [ups,cnt,←ih]
  generalize ups P n=xs at hs ⊢
  unfold tellF
  by_cases hP:P (n:Int)=true
  ·rw [if_pos ⟨by omega,hP⟩,if_pos hP]
   split
   ·rename_i h
    obtain ⟨pre,r,e,hr,hset⟩:=last_of h.1
    rw [hset,hr,e,szF_app,szF_app,ga_,ga_,kj_]
    have:=h.2
    rw [hr] at this
    dsimp only
    omega
   ·rw [szF_app,ga_,kj_]
    dsimp only
    omega
  ·rw [if_neg (fun q=>hP q.2),if_neg hP]
   omega
theorem canon_sz (P:Int->Bool):szF (canonF P)=cnt P 1114112:=ups_sz P 1114112
theorem cnt_rng (P:Int->Bool): ∀ n:Nat,0<=cnt P n∧cnt P n<=n
 | 0=>⟨Int.le_refl _,Int.le_refl _⟩
 | n+1=>by
  have:=cnt_rng P n
  rw [cnt]
  split <;> omega
theorem sz_ge: ∀ {xs:List S74},(∀ r∈xs,r.f0<=r.f1)->(xs.length:Int)<=szF xs
 | [],_=>by simp [kj_]
 | r :: xs,h=>by
  have:=sz_ge (xs:=xs) fun s hs=>h s (List.mem_cons_of_mem _ hs)
  have:=h r (List.mem_cons_self ..)
  rw [ga_,List.length_cons]
  omega
structure Good (xs:List S74):Prop where
 r: ∀ r∈xs,0<=r.f0∧r.f0<=r.f1∧r.f1<1114112
 s:szF xs<=1114112
 n:(xs.length:Int)<=1114112
theorem kf_ (P:Int->Bool):Good (canonF P):=by
 have h:=en_ P
 have s:=cnt_rng P 1114112
 rw [←canon_sz] at s
 exact ⟨h.1.1,by omega,by have:=sz_ge (xs:=canonF P) fun r hr=>(h.1.1 r hr).2.1;omega⟩
theorem at_drop {l:List S74}{i:Nat}(h:i<l.length):l.drop i=ao_ l (i:Int) :: l.drop (i+1):=by
 have hs:=step_at (l:=l) (i:=(i:Int)) (by omega) (by omega)
 rw [Int.toNat_natCast,show ((i:Int)+1).toNat=i+1 from by omega] at hs
 exact hs
def hdF:List S74->Int
 | []=> -1
 | r :: _=>r.f0
def firstF (l:List S74):Int:=hdF (plF l)
theorem span_first (l:List S74):Ev (fun k=>cn_.f k l) (firstF l):=by
 unfold firstF
 have: ∀ t:List S74,Ev (fun k=>cn_.l0 k t (t.length:Int) 0) (hdF t):=by
  intro t
  cases t with
  | nil=>exact Ev.step (f:=fun _=>some (-1)) (fun k=>rfl) (Ev.now _)
  | cons r t=>exact Ev.step (f:=fun _=>some r.f0) (fun k=>by rw [cn_.l0,if_pos (by rw [List.length_cons];omega),if_pos (by omega),if_pos (by rw [List.length_cons];omega)];rfl) (Ev.now _)
 exact this (plF l)
theorem eq34 {r s:S74}:(!(r.f0 == s.f0) || !(r.f1 == s.f1))=true↔r≠s:=by
 obtain ⟨a,b⟩:=r
 obtain ⟨c,d⟩:=s
 simp
 by_cases h:a=c <;> simp [h]
theorem rng_ev {x y:List S74}(hm:(x.length:Int)<=9223372036854775806)(r:Bool)(hr:r=true↔x=y):Ev (fun k=>be_.f k x y) r∧Ev (fun k=>co_.f k x y) r:=by
 by_cases hl:(x.length:Int)=(y.length:Int)
 ·have main: ∀ d i:Nat,i+d=x.length-> ∀ r:Bool,(r=true↔x.drop i=y.drop i)->Ev (fun k=>be_.l0 k x y (i:Int)) r∧Ev (fun k=>co_.l0 k x y (x.length:Int) (i:Int)) r:=by
   intro d
   induction d with
   | zero=>
    intro i h r hr
    rw [List.drop_eq_nil_iff.2 (by omega),List.drop_eq_nil_iff.2 (by omega)] at hr
    rw [hr.2 rfl]
    exact ⟨Ev.step (f:=fun _=>some true) (fun k=>by rw [be_.l0,if_neg (by omega)]) (Ev.now _),Ev.step (f:=fun _=>some true) (fun k=>by rw [co_.l0,if_neg (by omega)]) (Ev.now _)⟩
   | succ d ih=>
    intro i h r hr
    rw [at_drop (show i<x.length by omega),at_drop (show i<y.length by omega)] at hr
    by_cases he:ao_ x (i:Int)=ao_ y (i:Int)
    ·have hr':r=true↔x.drop (i+1)=y.drop (i+1):=by rw [hr,he];simp
     have:=ih (i+1) (by omega) r hr'
     rw [show ((i+1:Nat):Int)=(i:Int)+1 from by omega] at this
     refine ⟨Ev.step (fun k=>?_) this.1,Ev.step (fun k=>?_) this.2⟩
     ·rw [be_.l0,if_pos (by omega),if_pos (by omega),if_pos (by omega),if_neg (fun q=>eq34.1 q he),w64 (n:=(i:Int)+1) (by omega) (by omega)]
     ·rw [co_.l0,if_pos (by omega),if_pos (by omega),if_pos (by omega),if_pos (by omega),if_neg (fun q=>eq34.1 q he),w64 (n:=(i:Int)+1) (by omega) (by omega)]
    ·have:r=false:=by
      cases r with
      | false=>rfl
      | true=>exact absurd (List.cons.inj (hr.1 rfl)).1 he
     rw [this]
     refine ⟨Ev.step (f:=fun _=>some false) (fun k=>?_) (Ev.now _),Ev.step (f:=fun _=>some false) (fun k=>?_) (Ev.now _)⟩
     ·rw [be_.l0,if_pos (by omega),if_pos (by omega),if_pos (by omega),if_pos (eq34.2 he)]
     ·rw [co_.l0,if_pos (by omega),if_pos (by omega),if_pos (by omega),if_pos (by omega),if_pos (eq34.2 he)]
  have:=main x.length 0 (by omega) r (by rw [List.drop_zero,List.drop_zero];exact hr)
  exact ⟨ht_ hl this.1,ht_ hl this.2⟩
 ·have:r=false:=by
   cases r with
   | false=>rfl
   | true=>exact absurd (by rw [hr.1 rfl]) hl
  rw [this]
  exact ⟨fb_ hl (Ev.now _),fb_ hl (Ev.now _)⟩
noncomputable def eqF (x y:List S74):Bool:=@decide (x=y) (Classical.propDecidable _)
theorem eqF_iff {x y:List S74}:eqF x y=true↔x=y:=by unfold eqF;exact @decide_eq_true_iff _ (Classical.propDecidable _)
theorem nodup_len: ∀ (xs L:List Int),xs.Pairwise (· ≠ ·)->(∀ x∈xs,x∈L)->xs.length<=L.length
 | [],_,_,_=>Nat.zero_le _
 | x :: xs,L,hp,h=>by
  obtain ⟨h1,h2⟩:=List.pairwise_cons.1 hp
  have hx:=h x (List.mem_cons_self ..)
  have:=nodup_len xs (L.erase x) h2 fun y hy=>(List.mem_erase_of_ne (fun e=>h1 y hy e.symm)).2 (h y (List.mem_cons_of_mem _ hy))
  rw [List.length_erase_of_mem hx] at this
  have:=List.length_pos_of_mem hx
  rw [List.length_cons]
  omega
theorem ky_ {l:List S74}{c:Int}:hasB l c=true↔l.length<=400∧ ∃ r∈l,r.f0<=c∧c<=r.f1:=by
 unfold hasB
 rw [Bool.and_eq_true,decide_eq_true_iff,mem_iff]
theorem hasB_no {l:List S74}{c:Int}:hasB l c=false↔¬ (l.length<=400∧ ∃ r∈l,r.f0<=c∧c<=r.f1):=by
 rw [←ky_]
 cases hasB l c <;> simp
def lowsF (l:List S74):List Int:=l.map fun r=>if 0<=r.f0 then r.f0 else 0
def endsF (l:List S74):List Int:=l.map fun r=>r.f1+1
theorem lows_len (l:List S74):(lowsF l).length=l.length:=List.length_map ..
theorem ends_len (l:List S74):(endsF l).length=l.length:=List.length_map ..
theorem starts {l:List S74}{c:Int}(h0:0<=c)(h:hasB l c=true)(k:c=0∨hasB l (c - 1)=false):c∈lowsF l:=by
 obtain ⟨hl,r,hr,h1,h2⟩:=ky_.1 h
 refine List.mem_map.2 ⟨r,hr,?_⟩
 rcases k with rfl | k
 ·split <;> omega
 ·have:=hasB_no.1 k
  by_cases hc:r.f0<=c - 1
  ·exact absurd ⟨hl,r,hr,hc,by omega⟩ this
  ·rw [if_pos (by omega)]
   omega
theorem ends {l:List S74}{c:Int}(h:hasB l c=false)(k:hasB l (c - 1)=true):c∈endsF l:=by
 obtain ⟨hl,r,hr,h1,h2⟩:=ky_.1 k
 refine List.mem_map.2 ⟨r,hr,?_⟩
 have:=hasB_no.1 h
 by_cases hc:c<=r.f1
 ·exact absurd ⟨hl,r,hr,by omega,hc⟩ this
 ·omega
theorem has_canon {P:Int->Bool}(hl:(canonF P).length<=400){c:Int}(h0:0<=c)(h1:c<=1114111):hasB (canonF P) c=P c:=by
 unfold hasB
 rw [dt__ hl,Bool.true_and,jg_ P h0 h1]
theorem pl_canon {P:Int->Bool}(hl:(canonF P).length<=400):plF (canonF P)=canonF P:=by
 rw [plF_eq]
 exact ec_ fun c h0 h1=>has_canon hl h0 h1
section
variable {a b d:List S74}
theorem canon_nil {P:Int->Bool}(h: ∀ c,0<=c->c<=1114111->P c=false):canonF P=[]:=
 ej_ ⟨⟨(fun r hr=>nomatch hr),List.Pairwise.nil⟩,fun c h0 h1=>by rw [h c h0 (by omega)];rfl⟩
end
end P
namespace L
open A P B
section
variable (A0:Option Addr) (c0:Nat) (l0:List S74) (w:World) (hr0:Kd.C k74 w A0 l0.length l0) (hc0:l0.length<=c0)
include hr0 hc0
theorem c24 (c:Int)(n:Bool)(h:hasF l0 c=n):Calls Tryz.prog 83 #[.slice A0 l0.length c0,.int .i64 c] w fun e w'=>e=.returned (.bool n)∧Below w.heap.size w w':=
 h ▸ gc_.calls A0 c0 l0 c _ w hr0 hc0 rfl
theorem c20 (r:List S74)(h:notF l0=r):Calls Tryz.prog 76 #[.slice A0 l0.length c0] w fun e w'=> ∃ v0_:Value,e=.returned v0_∧Kd.R k74 74 w' w.heap.size (fun _=>True) v0_ r∧Below w.heap.size w w':=
 kk_.calls A0 c0 l0 r w hr0 hc0 (congrArg some h)
variable (A1:Option Addr) (c1:Nat) (l1:List S74) (hr1:Kd.C k74 w A1 l1.length l1) (hc1:l1.length<=c1)
include hr1 hc1
theorem c16 (r:List S74)(h:andF l0 l1=r):Calls Tryz.prog 113 #[.slice A0 l0.length c0,.slice A1 l1.length c1] w fun e w'=> ∃ v0_:Value,e=.returned v0_∧Kd.R k74 74 w' w.heap.size (fun _=>True) v0_ r∧Below w.heap.size w w':=kl_.calls A0 c0 l0 A1 c1 l1 r w hr0 hc0 hr1 hc1 (congrArg some h)
theorem c18 (r:List S74)(h:lessF l0 l1=r):Calls Tryz.prog 114 #[.slice A0 l0.length c0,.slice A1 l1.length c1] w fun e w'=> ∃ v0_:Value,e=.returned v0_∧Kd.R k74 74 w' w.heap.size (fun _=>True) v0_ r∧Below w.heap.size w w':=in_.calls A0 c0 l0 A1 c1 l1 r w hr0 hc0 hr1 hc1 (congrArg some h)
end
open Shelf
attribute [local go_sem] Oper.semAt_some
theorem jf_ (A0:Option Addr)(n c0:Nat)(w:World):Calls Tryz.prog 112 #[.slice A0 n c0,.int .i64 400] w fun e w'=>e=.returned (.func (.func 142) #[] #[.pointer (some ⟨w.heap.size,0,none⟩),.pointer (some ⟨w.heap.size+1,0,none⟩)])∧w'=(w.alloc (.cells #[.slice A0 n c0] 37)).alloc (.cells #[.int .i64 400] 3):=by
 go_enter Tryz.func112,Tryz.ntmps112
 go_wp2_with fail
 go_ret
 exact ⟨by simp,rfl⟩
def KC (ga gb:Nat)(A B:World):Prop:=(∀ v,A.cell? ⟨ga,0,none⟩=some v->B.cell? ⟨ga,0,none⟩=some v)∧ ∀ v,A.cell? ⟨gb,0,none⟩=some v->B.cell? ⟨gb,0,none⟩=some v
theorem KC.trans {ga gb:Nat}{A B C:World}(h:KC ga gb A B)(k:KC ga gb B C):KC ga gb A C:=⟨fun v q=>k.1 v (h.1 v q),fun v q=>k.2 v (h.2 v q)⟩
theorem KC.put {ga gb:Nat}(W:World)(l:Nat)(o o':Obj)(h:W.heap[l]? =some o)(ho:o.isCells=false):KC ga gb W (W.putObj l o'):=
 ⟨fun v q=>cell_kept q (grownBy_putObj' W l o') (fun r e=>by cases e;exact ⟨o,h,ho⟩),fun v q=>cell_kept q (grownBy_putObj' W l o') (fun r e=>by cases e;exact ⟨o,h,ho⟩)⟩
theorem chunk1_in (n:Nat)(hn:1<=n)(l ga gb:Nat)(ad:Addr)(len cap:Nat)(h1:0<len)(h4:len<=400)(hcap:len<=cap)(J Jx:List Unit->World->Prop)
  (hY: ∀ pre x W,J pre W->pre.length<1->YieldAt Fence.wide (n - 1) Tryz.prog l #[.slice (some ad) len len] W fun e W'=>
   (e=.returned (.bool true)∧J (pre ++ [x]) W'∧KC ga gb W W')∨(e=.returned (.bool false)∧Jx (pre ++ [x]) W'))
  (W:World) (hA:W.cell? ⟨ga,0,none⟩=some (.slice (some ad) len cap)) (hB:W.cell? ⟨gb,0,none⟩=some (.int .i64 400)) (hJ:AbidesFrom W.heap.size J) (h0:J [] W):
  CallsIn Fence.wide n Tryz.prog 142 #[.func (.yield l) #[] #[],.pointer (some ⟨ga,0,none⟩),.pointer (some ⟨gb,0,none⟩)] W fun e W'=>(∃ v,e=.returned v)∧
   ((∃ ys:List Unit,ys.length=1∧J ys W')∨(∃ pre:List Unit,True∧Jx pre W')):=by
 refine callsIn_of_wp Tryz.func142 rfl trivial ?_ rfl
 simp only [Tryz.ntmps142,List.size_toArray,List.length_cons,List.length_nil,Nat.reduceAdd,Nat.reduceSub,Array.replicate_succ,Array.replicate_zero,List.push_toArray,List.append_toArray,List.nil_append,List.cons_append]
 gi_wp2
 gi_loopw [4] (fun i wr=>(i=.int .i64 0∧J [] wr∧wr.cell? ⟨ga,0,none⟩=some (.slice (some ad) len cap)∧wr.cell? ⟨gb,0,none⟩=some (.int .i64 400))∨(i=.int .i64 400∧J [()] wr∧wr.cell? ⟨ga,0,none⟩=some (.slice (some ad) len cap)∧wr.cell? ⟨gb,0,none⟩=some (.int .i64 400))) (fun i _=>(400 - intOf i).toNat)
 case atStart=>exact Or.inl ⟨rfl,h0,hA,hB⟩
 case round=>
  rcases hrel with ⟨rfl,hJs,hAx,hBx⟩ | ⟨rfl,hJs,hAx,hBx⟩
  ·have b1:decide ((0:Int)<(len:Int))=true:=dt__ (by omega)
   have mi:min (400:Int) (len:Int)=(len:Int):=by omega
   gi_wp2
   gi_quiet (fail)
   have hJd:J [] (wr.drewN nq):=hJ [] wr _ none hJs ⟨rfl,rfl,rfl,Nat.le_refl _,fun _ _ _=>rfl⟩ (fun r e=>by cases e)
   have hAd:(wr.drewN nq).cell? ⟨ga,0,none⟩=some (.slice (some ad) len cap):=hAx
   have hBd:(wr.drewN nq).cell? ⟨gb,0,none⟩=some (.int .i64 400):=hBx
   generalize wr.drewN nq=wd at*
   clear hAx hBx hJs
   obtain ⟨fn,tmps,assign,body,hy,hR⟩:=hY [] () wd hJd (by simp)
   gi_wp2
   refine hR.mono ?_
   rintro e W3 (⟨rfl,hJ3,hk3⟩ | ⟨rfl,hJx3⟩)
   ·have hA3:W3.cell? ⟨ga,0,none⟩=some (.slice (some ad) len cap):=hk3.1 _ hAd
    have hB3:W3.cell? ⟨gb,0,none⟩=some (.int .i64 400):=hk3.2 _ hBd
    gi_wp2
    go_roundw
    case rel=>exact Or.inr ⟨rfl,hJ3,hA3,hB3⟩
    case measure=>simp [intOf]
   ·gi_wp2
    refine bodyPost_ret (results_none rfl _ _ _) rfl ?_
    exact ⟨⟨_,rfl⟩,.inr ⟨_,trivial,hJx3⟩⟩
  ·have b1:decide ((400:Int)<(len:Int))=false:=df__ (by omega)
   gi_wp2
   go_end0
   exact ⟨⟨_,rfl⟩,.inl ⟨_,rfl,hJs⟩⟩
theorem chunk0_in (n:Nat)(l ga gb:Nat)(A0:Option Addr)(cap:Nat)(J:List Unit->World->Prop)(W:World)(hA:W.cell? ⟨ga,0,none⟩=some (.slice A0 0 cap))(h0:J [] W):
  CallsIn Fence.wide n Tryz.prog 142 #[.func (.yield l) #[] #[],.pointer (some ⟨ga,0,none⟩),.pointer (some ⟨gb,0,none⟩)] W fun e W'=>(∃ v,e=.returned v)∧J [] W':=by
 refine callsIn_of_wp Tryz.func142 rfl trivial ?_ rfl
 simp only [Tryz.ntmps142,List.size_toArray,List.length_cons,List.length_nil,Nat.reduceAdd,Nat.reduceSub,Array.replicate_succ,Array.replicate_zero,List.push_toArray,List.append_toArray,List.nil_append,List.cons_append]
 gi_wp2
 gi_loopw [4] (fun i wr=>i=.int .i64 0∧J [] wr∧wr.cell? ⟨ga,0,none⟩=some (.slice A0 0 cap)) (fun _ _=>0)
 case atStart=>exact ⟨rfl,h0,hA⟩
 case round=>
  obtain ⟨rfl,hJs,hAx⟩:=hrel
  gi_wp2
  go_end0
  exact ⟨⟨_,rfl⟩,hJs⟩
theorem je_ (n:Nat)(hn:1<=n)(ga gb:Nat)(A0:Option Addr)(l0:List S74)(cap:Nat)(h4:l0.length<=400)(hcap:l0.length<=cap)(w:World)(hC:Kd.C k74 w A0 l0.length l0)(hga:ga<w.heap.size)(hgb:gb<w.heap.size)
  (hA:w.cell? ⟨ga,0,none⟩=some (.slice A0 l0.length cap)) (hB:w.cell? ⟨gb,0,none⟩=some (.int .i64 400)):
  SeqStopsK Fence.wide n Tryz.prog 142 #[.pointer (some ⟨ga,0,none⟩),.pointer (some ⟨gb,0,none⟩)] (fun _:Unit=>#[Value.slice A0 l0.length l0.length]) (KC ga gb) (fun ys=>ys.length=if l0.length=0 then 0 else 1) (fun pre=>True) 1 w:=fun l J Jx W hW hJ _ hY h0=>by
 have hA':=(hW.cell (p:=⟨ga,0,none⟩) (by show ga<_;omega)).trans hA
 have hB':=(hW.cell (p:=⟨gb,0,none⟩) (by show gb<_;omega)).trans hB
 by_cases hz:l0.length=0
 ·rw [hz] at hA'
  refine (chunk0_in n l ga gb A0 cap J W hA' h0).mono fun e W' ⟨he,hj⟩=>⟨he,.inl ⟨[],by rw [if_pos hz];rfl,hj⟩⟩
 ·obtain ⟨ad,rfl⟩: ∃ ad,A0=some ad:=by
   obtain ⟨ad,_,e,_⟩:=Kd.C_get hC z74 0 (by omega) (by omega)
   exact ⟨ad,e⟩
  refine (chunk1_in n hn l ga gb ad l0.length cap (by omega) h4 hcap J Jx hY W hA' hB' hJ h0).mono fun e W' ⟨he,h⟩=>⟨he,h.imp (fun ⟨ys,h1,h2⟩=>⟨ys,by rw [if_neg hz];exact h1,h2⟩) id⟩
end L
namespace L
open Shelf YthfceiincmkccaaGreatW.PrintWords.Kd A P
section
variable {P:Program} {ops:Array Oper} {rest:List Oper} {o:Oper} {a:Act} {Q:Exit->Act->World->Prop} {α:Type}
theorem eu_ (d:Kd α){Rr:α->List Value->Prop}{W:World}(base:Nat)(t ty e:TypeId)(z:Value)(bytes:Nat)
  (ht:P.underlying t=some (.slice e)) (hinfo:(P.info? e).map (fun i=>(i.zero,i.size,i.bytes))=some (some z,d.sz,bytes)) (hz:z.cells.size=d.sz) (hs0:0<d.sz) (hb0:0<bytes)
  (v:Value) (xs ys:List α) (A:Option Addr) (m c:Nat) (ok okp:Nat->Prop)
  (HO:d.R e W base ok v xs) (HR:ReadsRow Rr d.sz W A m ys) (hKM: ∀ x cs,Rr x cs->d.M W base okp x cs) (hokp: ∀ k,okp k->ok k∧some k≠v.ownBlock) (hfresh: ∀ k,W.heap.size<=k->ok k)
  (hbase:base<=W.heap.size) (hl:(xs.length+m)*bytes<=140737488355328):
  ∃ v1 w1,(Builtin.append_ #[t,t] ty #[v,.slice A m c]).run P W=.ok v1 w1∧d.R e w1 base ok v1 (xs ++ ys)∧W.grownBy w1 v.ownBlock∧(v1.ownBlock=v.ownBlock∨ ∃ b,v1.ownBlock=some b∧W.heap.size<=b):=by
 obtain ⟨i0,hi,hzz⟩:=Option.map_eq_some_iff.1 hinfo
 simp only [Prod.mk.injEq] at hzz
 obtain ⟨hz0,hz1,hz2⟩:=hzz
 have hm:ys.length=m:=HR.1
 have hlen:xs.length+m<=140737488355328:=Nat.le_trans (Nat.le_mul_of_pos_right _ hb0) hl
 obtain ⟨hok,inner,hown,hr⟩:=HO
 rcases A with _ | ad
 ·have h0:m=0:=by
   rcases Nat.eq_zero_or_pos m with h0 | h0
   ·exact h0
   ·obtain ⟨ad,h,_⟩:=HR.2.2 h0
    cases h
  subst h0
  obtain rfl:ys=[]:=List.eq_nil_of_length_eq_zero hm
  refine ⟨v,W,?_,by rw [List.append_nil];exact ⟨hok,inner,hown,hr⟩,World.grownBy.refl W _,.inl rfl⟩
  rcases hown.2 with ⟨rfl,hn⟩ | ⟨g,cap,cur,rfl,_,_,hnc,_⟩
  ·simp [Builtin.append_,run_underlying ht,sizeOf,typeInfo,hi,Builtin.lenOf,Builtin.firstCells]
  ·simp [Builtin.append_,run_underlying ht,sizeOf,typeInfo,hi,Builtin.lenOf,Builtin.firstCells,hnc,storeCells]
 ·obtain ⟨news,hnr,hnc⟩:=ReadsRow.inner_ HR
  have hnM:Reps (d.M W base okp) d.sz ys news:=hnr.imp_ (fun p c hp=>hKM p c hp)
  have hone: ∀ u∈news,u.oneCell'=true:=by
   intro u hu
   obtain ⟨q,hq,rfl⟩:=List.mem_iff_getElem.1 hu
   have hql:q / d.sz<ys.length:=by
    rw [Nat.div_lt_iff_lt_mul hs0]
    rw [←hnM.1]
    exact hq
   have hc:=hnM.2 (q / d.sz) _ (List.getElem?_eq_getElem hql)
   refine d.K_one (d.K_of_M hc) _ ?_
   rw [List.mem_iff_getElem?]
   refine ⟨q % d.sz,?_⟩
   rw [List.getElem?_take,if_pos (Nat.mod_lt _ hs0),List.getElem?_drop,Nat.mul_comm,Nat.div_add_mod,List.getElem?_eq_getElem hq]
  obtain ⟨v1,w1,hrun,h2,hg,_,hat⟩:=run_append_own_at (P:=P) W base t ty e i0 z d.sz bytes ht hi hz0 hz1 hz2 hz hs0 v xs.length inner hown ad m c news (by rw [hnM.1,hm]) hnc hone (by simp only [maxLen];omega) hl hbase
  have hat':v1.ownBlock=v.ownBlock∨ ∃ b,v1.ownBlock=some b∧W.heap.size<=b:=by
   rcases hat with hat | hat
   ·exact .inl hat
   ·exact .inr ⟨_,hat,Nat.le_refl _⟩
  have hne: ∀ k,some k≠v.ownBlock->k<W.heap.size->some k≠v1.ownBlock:=by
   intro k hk hlt
   rcases hat' with hat | ⟨b,hb,hle⟩
   ·rw [hat];exact hk
   ·rw [hb]
    intro he
    injection he with he
    omega
  have step: ∀ {q:α} {c:List Value} {o:Nat->Prop},d.M W base o q c->(∀ k,o k->ok k∧some k≠v.ownBlock)->d.M w1 base (fun k=>ok k∧some k≠v1.ownBlock) q c:=by
   intro q c o hq ho
   have h1:=d.M_move (w1:=w1) (fun k hk=>hg.block k hk.2.2.1 (ho k hk.1).2) (d.M_bound hq)
   exact d.M_mono (fun k hk=>⟨(ho k hk.1).1,hne k (ho k hk.1).2 hk.2.2.1⟩) h1
  refine ⟨v1,w1,hrun,⟨fun k hk=>?_,inner ++ news,by rw [List.length_append,hm];exact h2,fj_ (hr.imp_ (fun _ _ hq=>step hq (fun _ hk=>hk))) (hnM.imp_ (fun _ _ hq=>step hq hokp))⟩,hg,hat'⟩
  rcases hat' with hat | ⟨b,hb,hle⟩
  ·exact hok k (hat ▸ hk)
  ·rw [hb] at hk
   injection hk with hk
   exact hfresh k (by omega)
end
def c34 (xs:List S74):List Value:=xs.flatMap fun x=>[Value.int .i64 x.f0,Value.int .i64 x.f1]
theorem reps_c34 {w:World}{base:Nat}{ok:Nat->Prop}: ∀ {xs:List S74} {inner:List Value},Reps (k74.M w base ok) 2 xs inner->inner=c34 xs
 | [],inner,h=>List.eq_nil_of_length_eq_zero (by have:=h.1;simpa using this)
 | x :: xs,inner,h=>by
  have hl:=h.1
  have h0:=h.2 0 x rfl
  match inner,hl with
  | [],hl=>exact absurd hl (by simp only [List.length_cons,List.length_nil];omega)
  | [u],hl=>exact absurd hl (by simp only [List.length_cons,List.length_nil];omega)
  | u :: v :: rest,hl=>
   have h0':k74.M w base ok x [u,v]:=by simpa using h0
   have e:=es_ h0'
   have ht:Reps (k74.M w base ok) 2 xs rest:=⟨by simp only [List.length_cons] at hl ⊢;omega,fun j p hp=>by
    have:=h.2 (j+1) p (by simpa using hp)
    rw [show (j+1)*2=j*2+1+1 by omega] at this
    simpa using this⟩
   rw [reps_c34 ht]
   injection e with e1 e2
   injection e2 with e2
   rw [e1,e2]
   rfl
theorem c34_reps {w:World}{base:Nat}{ok:Nat->Prop}: ∀ (xs:List S74),Reps (k74.M w base ok) 2 xs (c34 xs)
 | []=>Reps.none _ _
 | x :: xs=>Reps.c2 (show k74.M w base ok x [.int .i64 x.f0,.int .i64 x.f1] from fa_ _ _ _ x) (c34_reps xs)
theorem own_of_R34 {w:World}{base:Nat}{ok:Nat->Prop}{v:Value}{xs:List S74}(h:Kd.R k74 74 w base ok v xs):w.ownsRow base 74 2 v xs.length (c34 xs):=by
 obtain ⟨_,inner,hown,hr⟩:=h
 rw [←reps_c34 hr]
 exact hown
theorem R34_of_own {w:World}{base:Nat}{v:Value}{xs:List S74}(h:w.ownsRow base 74 2 v xs.length (c34 xs)):Kd.R k74 74 w base (fun _=>True) v xs:=
 ⟨fun _ _=>trivial,c34 xs,h,c34_reps xs⟩
attribute [local go_sem] Oper.semAt_some
attribute [-go_sem] Builtin.append_
def partF (a s:List S74)(has:Bool):List S74:=if has then andF a s else lessF a s
theorem jn_ (a s:List S74):partF a s true=andF a s:=by
 unfold partF
 exact if_pos rfl
theorem iv_ (a s:List S74):partF a s false=lessF a s:=by
 unfold partF
 exact if_neg (by decide)
theorem part_app (h:Nat)(W1:World)(hb:h<=W1.heap.size)(A3:Option Addr)(a3 base1:Nat)(xs:List S74)(hs:Kd.R k74 74 W1 base1 (fun _=>True) (.slice A3 xs.length a3) xs)(hlen:xs.length*16<=140737488355328):
  ∃ A4 a4 w2,(Builtin.append_ #[37,37] 37 #[.slice none 0 0,.slice A3 xs.length a3]).run Tryz.prog W1=.ok (.slice A4 xs.length a4) w2∧Kd.R k74 74 w2 h (fun _=>True) (.slice A4 xs.length a4) xs∧W1.grownBy w2 none:=by
 obtain ⟨v2,w2,hrun,hR2,hg2,hat2⟩:=eu_ k74 (P:=Tryz.prog) (W:=W1) h 37 37 74 (.agg #[.int .i64 0,.int .i64 0]) 16 Tryz.underlying37 (by kernel_rfl) rfl (by decide) (by decide) (.slice none 0 0) [] xs A3 xs.length a3 (fun _=>True) (fun _=>False) (Kd.R_nil _ _ _ _ _) (Kd.R_reads' hs).2.2 (fun x cs h=>by obtain rfl:=k74_open h;exact fa_ _ _ _ x) (fun _ h=>h.elim) (fun _ _=>trivial) hb (by simpa using hlen)
 rw [List.nil_append] at hR2
 obtain ⟨A4,a4,rfl⟩:=Kd.R_slice hR2
 exact ⟨A4,a4,w2,hrun,hR2,hg2⟩
theorem parts_end (B5 ga gb b:Nat)(w W W1 w2:World)(hB:Below w.heap.size w W)(hWW1:Below W.heap.size W W1)(hg2:W1.grownBy w2 none)(hle:w.heap.size<=b)(hga:ga≠b)(hgb:gb≠b)(v2:Value)(xs:List S74)
  (hv2:Boxed w2 b 37 (.slice none 0 0)) (hR2:Kd.R k74 74 w2 w.heap.size (fun _=>True) v2 xs):
  KeepsFrom B5 W (w2.setCell ⟨b,0,none⟩ v2)∧KC ga gb W (w2.setCell ⟨b,0,none⟩ v2)∧(w2.setCell ⟨b,0,none⟩ v2).ownsRow w.heap.size 74 2 v2 xs.length (c34 xs)∧Below w.heap.size w (w2.setCell ⟨b,0,none⟩ v2):=by
 have hown:=own_of_R34 hR2
 have cell: ∀ g v,g≠b->W.cell? ⟨g,0,none⟩=some v->(w2.setCell ⟨b,0,none⟩ v2).cell? ⟨g,0,none⟩=some v:=by
  intro g v hg q
  obtain ⟨o,ho,_⟩:=cells_of_cell q
  have hlt:g<W.heap.size:=(Array.getElem?_eq_some_iff.1 ho).1
  have q1:W1.cell? ⟨g,0,none⟩=some v:=(hWW1.cell (p:=⟨g,0,none⟩) hlt).trans q
  have q2:w2.cell? ⟨g,0,none⟩=some v:=cell_kept q1 hg2 (fun r e=>by cases e)
  exact (World.cell?_of_block (Below.heap_setCell w2 ⟨b,0,none⟩ v2 g hg)).trans q2
 refine ⟨?_,⟨fun v q=>cell ga v hga q,fun v q=>cell gb v hgb q⟩,hown.kept (grownBy_setCell' w2 b v2) (.inr (hv2.not_row (by decide) hown).symm),?_⟩
 ·have k1:KeepsOthers W W1:=⟨hWW1.size,fun k o hk _=>(hWW1.block k (Array.getElem?_eq_some_iff.1 hk).1).trans hk⟩
  exact ((k1.trans (KeepsOthers.of_grownBy hg2 (fun j o e=>by cases e))).trans (KeepsOthers.setCell _ _ _)).from _
 ·have h1:Below w.heap.size w W1:=hB.trans (hWW1.mono hB.size)
  have h2:Below w.heap.size w w2:=h1.grown hg2 h1.size (fun k e=>by cases e)
  exact h2.setCell (p:=⟨b,0,none⟩) hle _
theorem parts_true (A0:Option Addr)(c0:Nat)(l0:List S74)(A1:Option Addr)(c1:Nat)(l1:List S74)(w:World)(hr0:Kd.C k74 w A0 l0.length l0)(hc0:l0.length<=c0)(hr1:Kd.C k74 w A1 l1.length l1)(hc1:l1.length<=c1)(h4:l0.length<=400):
  Calls Tryz.prog 77 #[.slice A0 l0.length c0,.slice A1 l1.length c1,.bool true] w fun e w'=> ∃ v,e=.returned v∧Kd.R k74 74 w' w.heap.size (fun _=>True) v (andF l0 l1)∧Below w.heap.size w w':=by
 have HR0:=Sd.m hr0
 have HR1:=Sd.m hr1
 have HC0:=Sd.m hc0
 have HC1:=Sd.m hc1
 clear hr0 hr1 hc0 hc1
 refine (callsIn_wide (n:=3)).1 ?_
 refine callsIn_of_wp_marks Tryz.func77 rfl trivial ?_ rfl
 simp only [Tryz.ntmps77,List.size_toArray,List.length_cons,List.length_nil,Nat.reduceAdd,Nat.reduceSub,Array.replicate_succ,Array.replicate_zero,List.push_toArray,List.append_toArray,List.nil_append,List.cons_append]
 gi_wp2_with (refine ⟨trivial,?_⟩;gi_at_call 112;refine (callsIn_wide.2 (jf_ _ _ _ _)).mono ?_;rintro e w' ⟨rfl,rfl⟩)
 have hsz0: ∀ (W:World) (o:Obj),(W.alloc o).heap.size=W.heap.size+1:=fun W o=>Array.size_push _
 obtain ⟨W5,hW5⟩: ∃ W_,W_=(((((w.alloc (Obj.cells #[Value.slice A1 l1.length c1] 37)).alloc (Obj.cells #[Value.bool true] 4)).alloc (Obj.cells #[Value.slice none 0 0] 37)).alloc (Obj.cells #[Value.slice A0 l0.length c0] 37)).alloc (Obj.cells #[Value.int IntKind.i64 400] 3)):=⟨_,rfl⟩
 have bS:Boxed W5 w.heap.size 37 (.slice A1 l1.length c1):=by rw [hW5];exact ((((Boxed.new w 37 _).alloc _).alloc _).alloc _).alloc _
 have bH:Boxed W5 (w.heap.size+1) 4 (.bool true):=by
  rw [hW5]
  have:=Boxed.new (w.alloc (Obj.cells #[Value.slice A1 l1.length c1] 37)) 4 (.bool true)
  rw [hsz0] at this
  exact ((this.alloc _).alloc _).alloc _
 have bO:Boxed W5 (w.heap.size+1+1) 37 (.slice none 0 0):=by
  rw [hW5]
  have:=Boxed.new ((w.alloc (Obj.cells #[Value.slice A1 l1.length c1] 37)).alloc (Obj.cells #[Value.bool true] 4)) 37 (.slice none 0 0)
  rw [hsz0,hsz0] at this
  exact (this.alloc _).alloc _
 have bA:Boxed W5 (w.heap.size+1+1+1) 37 (.slice A0 l0.length c0):=by
  rw [hW5]
  have:=Boxed.new (((w.alloc (Obj.cells #[Value.slice A1 l1.length c1] 37)).alloc (Obj.cells #[Value.bool true] 4)).alloc (Obj.cells #[Value.slice none 0 0] 37)) 37 (.slice A0 l0.length c0)
  rw [hsz0,hsz0,hsz0] at this
  exact this.alloc _
 have bN:Boxed W5 (w.heap.size+1+1+1+1) 3 (.int .i64 400):=by
  rw [hW5]
  have:=Boxed.new ((((w.alloc (Obj.cells #[Value.slice A1 l1.length c1] 37)).alloc (Obj.cells #[Value.bool true] 4)).alloc (Obj.cells #[Value.slice none 0 0] 37)).alloc (Obj.cells #[Value.slice A0 l0.length c0] 37)) 3 (.int .i64 400)
  rw [hsz0,hsz0,hsz0,hsz0] at this
  exact this
 have hsz:W5.heap.size=w.heap.size+1+1+1+1+1:=by rw [hW5,hsz0,hsz0,hsz0,hsz0,hsz0]
 have hb5:Below w.heap.size w W5:=by
  rw [hW5]
  exact (((((Below.refl _ w).alloc (Nat.le_refl _) _).alloc (by simp) _).alloc (by simp;omega) _).alloc (by simp;omega) _).alloc (by simp;omega) _
 rw [←hW5]
 clear hW5 hsz0
 obtain ⟨F,hF⟩: ∃ F:List Unit->List S74,F=fun pre=>if pre.length=0 then [] else andF l0 l1:=⟨_,rfl⟩
 refine wpIn_rangeFunc_ownG rfl (by omega) (gf:=142) (lb:=#[.pointer (some ⟨w.heap.size+1+1+1,0,none⟩),.pointer (some ⟨w.heap.size+1+1+1+1,0,none⟩)]) rfl trivial (enters_of Tryz.func142 (by kernel_rfl) rfl)
  (je_ (3 - 1) (by omega) (w.heap.size+1+1+1) (w.heap.size+1+1+1+1) A0 l0 c0 h4 HC0.out W5 (Kd.C_below HR0.out hb5) (by omega) (by omega) bA.cell bN.cell)
  (fun h k=>h.trans k) (fun W l o o' _ h ho _=>KC.put W l o o' h ho) (Below.refl _ _) (fun _=>rfl)
  (fun pre W=>(∃ v,Boxed W (w.heap.size+1+1) 37 v∧W.ownsRow w.heap.size 74 2 v (F pre).length (c34 (F pre))∧(pre.length=0->v=.slice none 0 0))∧(Boxed W w.heap.size 37 (.slice A1 l1.length c1)∧Boxed W (w.heap.size+1) 4 (.bool true))∧Below w.heap.size w W)
  (fun _ _ _=>False)
  (OwnFrom.and (Own.from (holdsRow_own w.heap.size (w.heap.size+1+1) 37 74 2 (fun pre=>(F pre).length) (fun pre=>c34 (F pre)) (fun pre v=>pre.length=0->v=.slice none 0 0)) _) (OwnFrom.and (OwnFrom.and (Own.from (boxed_own _ _ _) _) (Own.from (boxed_own _ _ _) _)) (ownFrom_below (Nat.le_refl _) (by omega))))
  (fun _ _ _ _ _ hs _ _=>hs)
  ⟨⟨_,bO,by rw [hF];exact World.ownsRow_nil _ _ _ _,fun _=>rfl⟩,⟨bS,bH⟩,hb5⟩
  (fun x=>{ tmps:=#[Value.slice A0 l0.length c0,Value.slice A1 l1.length c1,Value.bool true,undef,
     Value.pointer (some { block:=w.heap.size,off:=0 }),
     Value.pointer (some { block:=w.heap.size+1,off:=0 }),Value.slice none 0 0,
     Value.pointer (some { block:=w.heap.size+1+1,off:=0 }),Value.slice A0 l0.length l0.length,Value.slice A0 l0.length c0,
     Value.func (Fn.func 142) #[]
      #[Value.pointer (some { block:=w.heap.size+1+1+1,off:=0 }),
       Value.pointer (some { block:=w.heap.size+1+1+1+1,off:=0 })],
     Value.slice A0 l0.length l0.length,undef,undef,undef,undef,undef,undef,undef,undef,undef,undef,undef,undef],defers:=[] }) ?assign ?body ?done ?stop
 case assign=>
  intro l x W K hK
  gi_wp2
  exact hK
 case body=>
  rintro l pre x W ⟨⟨v,hv,hrow,hnil⟩,⟨hS,hH⟩,hB⟩ hlt
  have hp0:pre.length=0:=by omega
  obtain rfl:=hnil hp0
  have hcO:=hv.cell
  have hcS:=hS.cell
  have hcH:=hH.cell
  have hd:1<=3 - 1 - 1:=by omega
  have hmx:Tryz.prog.follows .mixedOrders=true:=by kernel_rfl
  gi_wp2
  have hbase:w.heap.size<=W.heap.size:=hB.size
  have hlen:(andF l0 l1).length*16<=140737488355328:=by have:=(kf_ fun c=>hasB l0 c && hasB l1 c).n;unfold andF;omega
  have hcall:Calls Tryz.prog 113 #[.slice A0 l0.length l0.length,.slice A1 l1.length c1] W.drew fun e W1=> ∃ A3 a3 A4 a4 w2,e=.returned (.slice A3 (andF l0 l1).length a3)∧Below W.heap.size W W1∧(Builtin.append_ #[37,37] 37 #[.slice none 0 0,.slice A3 (andF l0 l1).length a3]).run Tryz.prog W1=.ok (.slice A4 (andF l0 l1).length a4) w2∧Kd.R k74 74 w2 w.heap.size (fun _=>True) (.slice A4 (andF l0 l1).length a4) (andF l0 l1)∧W1.grownBy w2 none:=by
   refine (c16 A0 l0.length l0 W.drew (Kd.C_drew (Kd.C_below HR0.out hB)) (Nat.le_refl _) A1 c1 l1 (Kd.C_drew (Kd.C_below HR1.out hB)) HC1.out (andF l0 l1) rfl).mono ?_
   rintro e W1 ⟨v1,rfl,hs,hb⟩
   obtain ⟨A3,a3,rfl⟩:=Kd.R_slice hs
   have hWW1:Below W.heap.size W W1:=⟨hb.os,hb.tape,hb.output,hb.size,hb.block⟩
   obtain ⟨A4,a4,w2,h1,h2,h3⟩:=part_app w.heap.size W1 (Nat.le_trans hbase hWW1.size) A3 a3 _ (andF l0 l1) hs hlen
   exact ⟨A3,a3,A4,a4,w2,rfl,hWW1,h1,h2,h3⟩
  have HCALL:=Sd.m hcall
  clear hcall
  gi_region_with_o (refine ⟨trivial,?_⟩;gi_at_call 113;refine (CallsIn.inRound l (callsIn_wide.2 HCALL.out)).mono ?_;rintro e W1 ⟨A3,a3,A4,a4,w2,rfl,hWW1,hrun,hR2,hg2⟩;have hv1:Boxed W1 (w.heap.size+1+1) 37 (.slice none 0 0):=(hWW1.block _ hv.lt).trans hv;have hS1:Boxed W1 w.heap.size 37 (.slice A1 l1.length c1):=(hWW1.block _ hS.lt).trans hS;have hH1:Boxed W1 (w.heap.size+1) 4 (.bool true):=(hWW1.block _ hH.lt).trans hH;have hcO1:=hv1.cell;have hv2:Boxed w2 (w.heap.size+1+1) 37 (.slice none 0 0):=hv1.kept hg2 (fun e=>by cases e);have hS2:=hS1.kept hg2 (fun e=>by cases e);have hH2:=hH1.kept hg2 (fun e=>by cases e);have hc2:=hv2.cell;have hf2:=hv2.frozen)
  all_goals
   obtain ⟨e1,e2,e3,e4⟩:=parts_end W5.heap.size (w.heap.size+1+1+1) (w.heap.size+1+1+1+1) (w.heap.size+1+1) w W W1 w2 hB hWW1 hg2 (by omega) (by omega) (by omega) _ _ hv2 hR2
   have hFp:F (pre ++ [x])=andF l0 l1:=by
    rw [hF]
    exact if_neg (by simp)
   exact ⟨e1,e2,⟨_,hv2.set _,by rw [hFp];exact e3,fun h=>absurd h (by simp)⟩,⟨hS2.other (by omega) _,hH2.other (by omega) _⟩,e4⟩
 case done=>
  rintro D xs W hD hxs ⟨⟨v,hv,hrow,hnil⟩,⟨hS,hH⟩,hB⟩ hK
  have hcO:=hv.cell
  have hFx:F xs=andF l0 l1:=by
   rw [hF]
   dsimp only
   by_cases hz:l0.length=0
   ·rw [hxs,if_pos hz,if_pos rfl]
    symm
    unfold andF
    exact canon_nil fun c _ _=>by rw [List.eq_nil_of_length_eq_zero hz];simp [hasB,Mem]
   ·rw [hxs,if_neg hz,if_neg (by omega)]
  rw [hFx] at hrow
  gi_wp2
  refine ⟨by simp,.inl ⟨_,_,rfl,run_takeDeferred hK,?_⟩⟩
  exact ⟨_,results_tmp rfl _ _ _,v,rfl,R34_of_own (ownsRow_putObj hrow _ hK rfl),hB.trans (belowK_b (w:=w) (Nat.le_refl _) W D _ _ (by omega) hK rfl rfl)⟩
 case stop=>
  rintro D c pre W _ _ h _
  exact h.elim
theorem parts_false (A0:Option Addr)(c0:Nat)(l0:List S74)(A1:Option Addr)(c1:Nat)(l1:List S74)(w:World)(hr0:Kd.C k74 w A0 l0.length l0)(hc0:l0.length<=c0)(hr1:Kd.C k74 w A1 l1.length l1)(hc1:l1.length<=c1)(h4:l0.length<=400):
  Calls Tryz.prog 77 #[.slice A0 l0.length c0,.slice A1 l1.length c1,.bool false] w fun e w'=> ∃ v,e=.returned v∧Kd.R k74 74 w' w.heap.size (fun _=>True) v (lessF l0 l1)∧Below w.heap.size w w':=by
 have HR0:=Sd.m hr0
 have HR1:=Sd.m hr1
 have HC0:=Sd.m hc0
 have HC1:=Sd.m hc1
 clear hr0 hr1 hc0 hc1
 refine (callsIn_wide (n:=3)).1 ?_
 refine callsIn_of_wp_marks Tryz.func77 rfl trivial ?_ rfl
 simp only [Tryz.ntmps77,List.size_toArray,List.length_cons,List.length_nil,Nat.reduceAdd,Nat.reduceSub,Array.replicate_succ,Array.replicate_zero,List.push_toArray,List.append_toArray,List.nil_append,List.cons_append]
 gi_wp2_with (refine ⟨trivial,?_⟩;gi_at_call 112;refine (callsIn_wide.2 (jf_ _ _ _ _)).mono ?_;rintro e w' ⟨rfl,rfl⟩)
 have hsz0: ∀ (W:World) (o:Obj),(W.alloc o).heap.size=W.heap.size+1:=fun W o=>Array.size_push _
 obtain ⟨W5,hW5⟩: ∃ W_,W_=(((((w.alloc (Obj.cells #[Value.slice A1 l1.length c1] 37)).alloc (Obj.cells #[Value.bool false] 4)).alloc (Obj.cells #[Value.slice none 0 0] 37)).alloc (Obj.cells #[Value.slice A0 l0.length c0] 37)).alloc (Obj.cells #[Value.int IntKind.i64 400] 3)):=⟨_,rfl⟩
 have bS:Boxed W5 w.heap.size 37 (.slice A1 l1.length c1):=by rw [hW5];exact ((((Boxed.new w 37 _).alloc _).alloc _).alloc _).alloc _
 have bH:Boxed W5 (w.heap.size+1) 4 (.bool false):=by
  rw [hW5]
  have:=Boxed.new (w.alloc (Obj.cells #[Value.slice A1 l1.length c1] 37)) 4 (.bool false)
  rw [hsz0] at this
  exact ((this.alloc _).alloc _).alloc _
 have bO:Boxed W5 (w.heap.size+1+1) 37 (.slice none 0 0):=by
  rw [hW5]
  have:=Boxed.new ((w.alloc (Obj.cells #[Value.slice A1 l1.length c1] 37)).alloc (Obj.cells #[Value.bool false] 4)) 37 (.slice none 0 0)
  rw [hsz0,hsz0] at this
  exact (this.alloc _).alloc _
 have bA:Boxed W5 (w.heap.size+1+1+1) 37 (.slice A0 l0.length c0):=by
  rw [hW5]
  have:=Boxed.new (((w.alloc (Obj.cells #[Value.slice A1 l1.length c1] 37)).alloc (Obj.cells #[Value.bool false] 4)).alloc (Obj.cells #[Value.slice none 0 0] 37)) 37 (.slice A0 l0.length c0)
  rw [hsz0,hsz0,hsz0] at this
  exact this.alloc _
 have bN:Boxed W5 (w.heap.size+1+1+1+1) 3 (.int .i64 400):=by
  rw [hW5]
  have:=Boxed.new ((((w.alloc (Obj.cells #[Value.slice A1 l1.length c1] 37)).alloc (Obj.cells #[Value.bool false] 4)).alloc (Obj.cells #[Value.slice none 0 0] 37)).alloc (Obj.cells #[Value.slice A0 l0.length c0] 37)) 3 (.int .i64 400)
  rw [hsz0,hsz0,hsz0,hsz0] at this
  exact this
 have hsz:W5.heap.size=w.heap.size+1+1+1+1+1:=by rw [hW5,hsz0,hsz0,hsz0,hsz0,hsz0]
 have hb5:Below w.heap.size w W5:=by
  rw [hW5]
  exact (((((Below.refl _ w).alloc (Nat.le_refl _) _).alloc (by simp) _).alloc (by simp;omega) _).alloc (by simp;omega) _).alloc (by simp;omega) _
 rw [←hW5]
 clear hW5 hsz0
 obtain ⟨F,hF⟩: ∃ F:List Unit->List S74,F=fun pre=>if pre.length=0 then [] else lessF l0 l1:=⟨_,rfl⟩
 refine wpIn_rangeFunc_ownG rfl (by omega) (gf:=142) (lb:=#[.pointer (some ⟨w.heap.size+1+1+1,0,none⟩),.pointer (some ⟨w.heap.size+1+1+1+1,0,none⟩)]) rfl trivial (enters_of Tryz.func142 (by kernel_rfl) rfl)
  (je_ (3 - 1) (by omega) (w.heap.size+1+1+1) (w.heap.size+1+1+1+1) A0 l0 c0 h4 HC0.out W5 (Kd.C_below HR0.out hb5) (by omega) (by omega) bA.cell bN.cell)
  (fun h k=>h.trans k) (fun W l o o' _ h ho _=>KC.put W l o o' h ho) (Below.refl _ _) (fun _=>rfl)
  (fun pre W=>(∃ v,Boxed W (w.heap.size+1+1) 37 v∧W.ownsRow w.heap.size 74 2 v (F pre).length (c34 (F pre))∧(pre.length=0->v=.slice none 0 0))∧(Boxed W w.heap.size 37 (.slice A1 l1.length c1)∧Boxed W (w.heap.size+1) 4 (.bool false))∧Below w.heap.size w W)
  (fun _ _ _=>False)
  (OwnFrom.and (Own.from (holdsRow_own w.heap.size (w.heap.size+1+1) 37 74 2 (fun pre=>(F pre).length) (fun pre=>c34 (F pre)) (fun pre v=>pre.length=0->v=.slice none 0 0)) _) (OwnFrom.and (OwnFrom.and (Own.from (boxed_own _ _ _) _) (Own.from (boxed_own _ _ _) _)) (ownFrom_below (Nat.le_refl _) (by omega))))
  (fun _ _ _ _ _ hs _ _=>hs)
  ⟨⟨_,bO,by rw [hF];exact World.ownsRow_nil _ _ _ _,fun _=>rfl⟩,⟨bS,bH⟩,hb5⟩
  (fun x=>{ tmps:=#[Value.slice A0 l0.length c0,Value.slice A1 l1.length c1,Value.bool false,undef,
     Value.pointer (some { block:=w.heap.size,off:=0 }),
     Value.pointer (some { block:=w.heap.size+1,off:=0 }),Value.slice none 0 0,
     Value.pointer (some { block:=w.heap.size+1+1,off:=0 }),Value.slice A0 l0.length l0.length,Value.slice A0 l0.length c0,
     Value.func (Fn.func 142) #[]
      #[Value.pointer (some { block:=w.heap.size+1+1+1,off:=0 }),
       Value.pointer (some { block:=w.heap.size+1+1+1+1,off:=0 })],
     Value.slice A0 l0.length l0.length,undef,undef,undef,undef,undef,undef,undef,undef,undef,undef,undef,undef],defers:=[] }) ?assign ?body ?done ?stop
 case assign=>
  intro l x W K hK
  gi_wp2
  exact hK
 case body=>
  rintro l pre x W ⟨⟨v,hv,hrow,hnil⟩,⟨hS,hH⟩,hB⟩ hlt
  have hp0:pre.length=0:=by omega
  obtain rfl:=hnil hp0
  have hcO:=hv.cell
  have hcS:=hS.cell
  have hcH:=hH.cell
  have hd:1<=3 - 1 - 1:=by omega
  have hmx:Tryz.prog.follows .mixedOrders=true:=by kernel_rfl
  gi_wp2
  have hbase:w.heap.size<=W.heap.size:=hB.size
  have hlen:(lessF l0 l1).length*16<=140737488355328:=by have:=(kf_ fun c=>hasB l0 c && !hasB l1 c).n;unfold lessF;omega
  have hcall:Calls Tryz.prog 114 #[.slice A0 l0.length l0.length,.slice A1 l1.length c1] W.drew fun e W1=> ∃ A3 a3 A4 a4 w2,e=.returned (.slice A3 (lessF l0 l1).length a3)∧Below W.heap.size W W1∧(Builtin.append_ #[37,37] 37 #[.slice none 0 0,.slice A3 (lessF l0 l1).length a3]).run Tryz.prog W1=.ok (.slice A4 (lessF l0 l1).length a4) w2∧Kd.R k74 74 w2 w.heap.size (fun _=>True) (.slice A4 (lessF l0 l1).length a4) (lessF l0 l1)∧W1.grownBy w2 none:=by
   refine (c18 A0 l0.length l0 W.drew (Kd.C_drew (Kd.C_below HR0.out hB)) (Nat.le_refl _) A1 c1 l1 (Kd.C_drew (Kd.C_below HR1.out hB)) HC1.out (lessF l0 l1) rfl).mono ?_
   rintro e W1 ⟨v1,rfl,hs,hb⟩
   obtain ⟨A3,a3,rfl⟩:=Kd.R_slice hs
   have hWW1:Below W.heap.size W W1:=⟨hb.os,hb.tape,hb.output,hb.size,hb.block⟩
   obtain ⟨A4,a4,w2,h1,h2,h3⟩:=part_app w.heap.size W1 (Nat.le_trans hbase hWW1.size) A3 a3 _ (lessF l0 l1) hs hlen
   exact ⟨A3,a3,A4,a4,w2,rfl,hWW1,h1,h2,h3⟩
  have HCALL:=Sd.m hcall
  clear hcall
  gi_region_with_o (refine ⟨trivial,?_⟩;gi_at_call 114;refine (CallsIn.inRound l (callsIn_wide.2 HCALL.out)).mono ?_;rintro e W1 ⟨A3,a3,A4,a4,w2,rfl,hWW1,hrun,hR2,hg2⟩;have hv1:Boxed W1 (w.heap.size+1+1) 37 (.slice none 0 0):=(hWW1.block _ hv.lt).trans hv;have hS1:Boxed W1 w.heap.size 37 (.slice A1 l1.length c1):=(hWW1.block _ hS.lt).trans hS;have hH1:Boxed W1 (w.heap.size+1) 4 (.bool false):=(hWW1.block _ hH.lt).trans hH;have hcO1:=hv1.cell;have hv2:Boxed w2 (w.heap.size+1+1) 37 (.slice none 0 0):=hv1.kept hg2 (fun e=>by cases e);have hS2:=hS1.kept hg2 (fun e=>by cases e);have hH2:=hH1.kept hg2 (fun e=>by cases e);have hc2:=hv2.cell;have hf2:=hv2.frozen)
  all_goals
   obtain ⟨e1,e2,e3,e4⟩:=parts_end W5.heap.size (w.heap.size+1+1+1) (w.heap.size+1+1+1+1) (w.heap.size+1+1) w W W1 w2 hB hWW1 hg2 (by omega) (by omega) (by omega) _ _ hv2 hR2
   have hFp:F (pre ++ [x])=lessF l0 l1:=by
    rw [hF]
    exact if_neg (by simp)
   exact ⟨e1,e2,⟨_,hv2.set _,by rw [hFp];exact e3,fun h=>absurd h (by simp)⟩,⟨hS2.other (by omega) _,hH2.other (by omega) _⟩,e4⟩
 case done=>
  rintro D xs W hD hxs ⟨⟨v,hv,hrow,hnil⟩,⟨hS,hH⟩,hB⟩ hK
  have hcO:=hv.cell
  have hFx:F xs=lessF l0 l1:=by
   rw [hF]
   dsimp only
   by_cases hz:l0.length=0
   ·rw [hxs,if_pos hz,if_pos rfl]
    symm
    unfold lessF
    exact canon_nil fun c _ _=>by rw [List.eq_nil_of_length_eq_zero hz];simp [hasB,Mem]
   ·rw [hxs,if_neg hz,if_neg (by omega)]
  rw [hFx] at hrow
  gi_wp2
  refine ⟨by simp,.inl ⟨_,_,rfl,run_takeDeferred hK,?_⟩⟩
  exact ⟨_,results_tmp rfl _ _ _,v,rfl,R34_of_own (ownsRow_putObj hrow _ hK rfl),hB.trans (belowK_b (w:=w) (Nat.le_refl _) W D _ _ (by omega) hK rfl rfl)⟩
 case stop=>
  rintro D c pre W _ _ h _
  exact h.elim
theorem iu_ (A0:Option Addr)(c0:Nat)(l0:List S74)(A1:Option Addr)(c1:Nat)(l1:List S74)(b:Bool)(w:World)(hr0:Kd.C k74 w A0 l0.length l0)(hc0:l0.length<=c0)(hr1:Kd.C k74 w A1 l1.length l1)(hc1:l1.length<=c1)(h4:l0.length<=400):
  Calls Tryz.prog 77 #[.slice A0 l0.length c0,.slice A1 l1.length c1,.bool b] w fun e w'=> ∃ v,e=.returned v∧Kd.R k74 74 w' w.heap.size (fun _=>True) v (partF l0 l1 b)∧Below w.heap.size w w':=by
 cases b with
 | true=>
  rw [jn_]
  exact parts_true A0 c0 l0 A1 c1 l1 w hr0 hc0 hr1 hc1 h4
 | false=>
  rw [iv_]
  exact parts_false A0 c0 l0 A1 c1 l1 w hr0 hc0 hr1 hc1 h4
end L
namespace L
open Shelf Go.Sort Lib A
instance:Inhabited S74:=⟨z74⟩
open P
def lowR (l:List S74):Int:=(ao_ l 0).f0
theorem cmp_rows (A0:Option Addr)(c0:Nat)(l0:List S74)(A1:Option Addr)(c1:Nat)(l1:List S74)(w:World)(hr0:Kd.C k74 w A0 l0.length l0)(hr1:Kd.C k74 w A1 l1.length l1)(h0:0<l0.length)(h1:0<l1.length):
  Calls Tryz.prog 79 #[.slice A0 l0.length c0,.slice A1 l1.length c1] w fun e w'=>e=.returned (.int .i64 (cmpI (lowR l0) (lowR l1)))∧ ∃ q,w'=w.drewN q:=by
 obtain ⟨ad0,rfl,k0,_⟩:=dt_ hr0 0 (by omega) (by omega)
 obtain ⟨ad1,rfl,k1,_⟩:=dt_ hr1 0 (by omega) (by omega)
 have z0:w.cell? ad0=some (.int .i64 (lowR l0)):=by simpa [Addr.add,lowR] using k0
 have z1:w.cell? ad1=some (.int .i64 (lowR l1)):=by simpa [Addr.add,lowR] using k1
 have hc: ∀ W':World,Calls Tryz.prog 80 #[.int .i64 (lowR l0),.int .i64 (lowR l1)] W' fun e w'=>e=.returned (.int .i64 (cmpI (lowR l0) (lowR l1)))∧ ∃ n,w'=W'.drewN n:=fun W'=>(cmp_int (lowR l0) (lowR l1) W').mono fun e w' ⟨h1,h2⟩=>⟨h1,0,h2⟩
 generalize cmpI (lowR l0) (lowR l1)=r at hc ⊢
 have HC:=Sd.m hc
 have b0:(0:Int)<(l0.length:Int):=by omega
 have b1:(0:Int)<(l1.length:Int):=by omega
 clear hc hr0 hr1 k0 k1
 go_enter Tryz.func79,Tryz.ntmps79
 go_wp2_with fail
 go_quiet ((go_at_call 80;refine Calls.quiet_of (HC.out _)))
 go_wp2_with fail
 go_ret
 exact ⟨rfl,_,rfl⟩
def RowsAt (W:World)(h:Nat)(hdrs:List Value)(xs:List (List S74)):Prop:=hdrs.length=xs.length∧ ∀ (j:Nat) u x,hdrs[j]? =some u->xs[j]? =some x->Kd.R k74 74 W h (fun _=>True) u x
theorem R34_kept {W W1:World}{base:Nat}{v:Value}{xs:List S74}(h:Kd.R k74 74 W base (fun _=>True) v xs)(hm: ∀ (k:Nat) (cells:Array Value),W.heap[k]? =some (Obj.cells cells 74 (0,0))->W1.heap[k]? =W.heap[k]?):Kd.R k74 74 W1 base (fun _=>True) v xs:=by
 refine Kd.R_mono (Kd.R_move (Kd.R_bound h) (fun k hk=>?_)) (fun _ _=>trivial)
 obtain ⟨_,_,_,q,hq,cells,hc⟩:=hk
 have hE:k74.E=[]:=rfl
 rw [hE,List.mem_singleton] at hq
 subst hq
 exact hm k cells hc
theorem RowsAt.kept {W W1:World}{h:Nat}{hdrs:List Value}{xs:List (List S74)}(r:RowsAt W h hdrs xs)(hm: ∀ (k:Nat) (cells:Array Value),W.heap[k]? =some (Obj.cells cells 74 (0,0))->W1.heap[k]? =W.heap[k]?):RowsAt W1 h hdrs xs:=
 ⟨r.1,fun j u x hu hx=>R34_kept (r.2 j u x hu hx) hm⟩
def OwnRows (W:World)(h:Nat)(v:Value)(xs:List (List S74)):Prop:= ∃ hdrs,W.ownsRow h 37 1 v xs.length hdrs∧RowsAt W h hdrs xs
theorem sw_other {α:Type}[Inhabited α](enc:α->Value){w:World}{g m q:Nat}{d:Array α}{os:Array Obj}(hq:q<w.heap.size)(hne:q≠g):(sortWorld enc w g 0 m d os).heap[q]? =w.heap[q]? :=by
 show ((Sort.ahead w m).heap.modify g (onCells (putCells enc 0 d)) ++ os)[q]? =_
 rw [Array.getElem?_append_left (by simp [Sort.ahead];omega)]
 simp [Sort.ahead,Array.getElem?_modify,Ne.symm hne]
theorem ltF {α:Type}(f:α->Int)(x y:α):ltOf (fun x y=>cmpI (f x) (f y)) x y=decide (f x<f y):=by
 unfold ltOf cmpI
 by_cases h1:f x<f y
 ·simp [h1]
 ·by_cases h2:f y<f x <;> simp [h1,h2]
theorem swoF {α:Type}(f:α->Int):SWO (ltOf fun x y=>cmpI (f x) (f y)) where
 irrefl x:=by rw [ltF];simp
 trans x y z h1 h2:=by rw [ltF] at *;simp at *;omega
 ntrans x y z h1 h2:=by rw [ltF] at *;simp at *;omega
theorem extract_all {α:Type}(a:Array α){n:Nat}(h:a.size=n):a.extract 0 n=a:=by
 subst h
 exact Array.extract_size
theorem ofFn_map {α:Type}(xs:List α):(Array.ofFn (fun i:Fin xs.length=>i)).toList.map (fun i=>xs[i.1])=xs:=by
 apply List.ext_getElem
 ·simp
 ·intro i h1 h2
  simp
theorem sort_rows {w0 W:World}{h:Nat}{v:Value}{xs:List (List S74)}(hO:OwnRows W h v xs)(hb:Below h w0 W)(hn:0<xs.length)(hne: ∀ x∈xs,0<x.length)(hz:xs.length<4611686018427387904):
  Calls Tryz.prog 78 #[v,.func (.func 79) #[] #[]] W fun e w'=>e=.returned (.tuple #[])∧ ∃ ys,ys.Perm xs∧(ys.Pairwise fun x y=>lowR x<=lowR y)∧OwnRows w' h v ys∧Below h w0 w':=by
 obtain ⟨hdrs,⟨ho1,ho2⟩,hl,hr⟩:=hO
 rcases ho2 with ⟨_,hn0⟩ | ⟨g,cap,cur,rfl,hbg,hh,hnc,hcm,hcs,ht⟩
 ·omega
 haveI:Inhabited (Fin xs.length):=⟨⟨0,hn⟩⟩
 obtain ⟨enc,henc⟩: ∃ enc:Fin xs.length->Value,enc=fun i=>hdrs[i.1]'(by rw [hl];exact i.2):=⟨_,rfl⟩
 obtain ⟨low,hlow⟩: ∃ low:Fin xs.length->Int,low=fun i=>lowR xs[i.1]:=⟨_,rfl⟩
 have row: ∀ i:Fin xs.length,∃ A c,enc i=.slice A (xs[i.1]).length c∧Kd.R k74 74 W h (fun _=>True) (.slice A (xs[i.1]).length c) xs[i.1]:=by
  intro i
  have hR:=hr i.1 (enc i) xs[i.1] (by rw [henc];exact List.getElem?_eq_getElem _) (List.getElem?_eq_getElem _)
  obtain ⟨A,c,e⟩:=Kd.R_slice hR
  exact ⟨A,c,e,e ▸ hR⟩
 have hglt:g<W.heap.size:=(Array.getElem?_eq_some_iff.1 hh).1
 have far: ∀ {m:Nat} {dk:Array (Fin xs.length)} {os:Array Obj} (k:Nat) (cells:Array Value),W.heap[k]? =some (Obj.cells cells 74 (0,0))->(sortWorld enc W g 0 m dk os).heap[k]? =W.heap[k]? :=by
  intro m dk os k cells hk
  exact sw_other enc (Array.getElem?_eq_some_iff.1 hk).1 (dd_ hk hh (by decide))
 have hd:(Array.ofFn (fun i:Fin xs.length=>i)).size=xs.length:=Array.size_ofFn
 have eg: ∀ args w,(callFunc 79 args).run Tryz.prog w=.ok (.enter 79 args) w:=enters_of Tryz.func79 (by kernel_rfl) rfl
 have hH:Holds enc W g 0 (Array.ofFn (fun i:Fin xs.length=>i)):=by
  intro j hj
  rw [hd] at hj
  refine ⟨?_,aa_ hh _⟩
  rw [Nat.zero_add]
  refine (af_ hh j).trans ?_
  have e1:(Array.ofFn (fun i:Fin xs.length=>i))[j]! =⟨j,hj⟩:=by
   rw [getElem!_pos _ j (by rw [hd];exact hj)]
   simp
  rw [e1,henc]
  have e2:hdrs[j]? =cur.toList[j]? :=by
   rw [←ht,List.getElem?_take,if_pos (by omega)]
  rw [←Array.getElem?_toList,←e2]
  exact List.getElem?_eq_getElem _
 have hcmp:CmpLays1 Tryz.prog 79 #[] enc (fun i j=>cmpI (low i) (low j)) g 0 (Array.ofFn (fun i:Fin xs.length=>i)).size W:=by
  intro m os dk hs i j
  obtain ⟨A,c,e1,hR1⟩:=row i
  obtain ⟨B,b,e2,hR2⟩:=row j
  rw [e1,e2,hlow]
  exact (cmp_rows A c xs[i.1] B b xs[j.1] _ (Kd.R_reads' (R34_kept hR1 far)).2.2 (Kd.R_reads' (R34_kept hR2 far)).2.2 (hne _ (List.getElem_mem _)) (hne _ (List.getElem_mem _))).mono fun e w' ⟨he,q,hq⟩=>⟨he,q,#[],by rw [hq,grow_empty]⟩
 have hone:OneCell enc:=fun i=>by obtain ⟨A,c,e,_⟩:=row i;rw [e];rfl
 have hc:=Any.slices_SortFunc Tryz.sortRows enc hone (fun i j=>cmpI (low i) (low j)) (swoF low) 79 #[] g 0 cap (Array.ofFn (fun i:Fin xs.length=>i)) W eg hcmp hH hglt (by rw [hd];exact hz)
 rw [hd] at hc
 have hc':Calls Tryz.prog 78 #[.slice (some ⟨g,0,none⟩) xs.length cap,.func (.func 79) #[] #[]] W _:=hc
 refine hc'.mono ?_
 rintro e w' ⟨rfl,d',n,os,⟨hs1,hs2,hs3⟩,hso,rfl⟩
 have hsz:d'.size=xs.length:=by rw [hs1,hd]
 have hp:d'.toList.Perm (Array.ofFn (fun i:Fin xs.length=>i)).toList:=by
  rw [extract_all _ hsz,extract_all _ hd] at hs3
  exact hs3
 have hlen:(d'.toList.map fun i=>xs[i.1]).length=xs.length:=by rw [List.length_map,Array.length_toList,hsz]
 refine ⟨rfl,d'.toList.map fun i=>xs[i.1],?_,?_,⟨d'.toList.map enc,⟨?_,.inr ⟨g,cap,putCells enc 0 d' cur,?_,hbg,?_,?_,hcm,?_,?_⟩⟩,?_,?_⟩,?_⟩
 ·have:=hp.map fun i:Fin xs.length=>xs[i.1]
  rwa [ofFn_map] at this
 ·rw [List.pairwise_map,List.pairwise_iff_getElem]
  intro i j hi hj hij
  have hi':i<d'.size:=by simpa using hi
  have hj':j<d'.size:=by simpa using hj
  have:=hso i j (Nat.zero_le _) hij (by omega)
  rw [ltF,getElem!_pos d' j hj',getElem!_pos d' i hi'] at this
  have:=of_decide_eq_false this
  rw [hlow] at this
  dsimp only at this
  simp only [Array.getElem_toList]
  omega
 ·rw [hlen,List.length_map,Array.length_toList,hsz,Nat.mul_one]
 ·rw [hlen]
 ·have:((Sort.ahead W n).heap.modify g (onCells (putCells enc 0 d')))[g]? =some (.cells (putCells enc 0 d' cur) 37 (0,0)):=by
   simp [Sort.ahead,Array.getElem?_modify,hh,onCells]
  show ((Sort.ahead W n).heap.modify g (onCells (putCells enc 0 d')) ++ os)[g]? =_
  rw [Array.getElem?_append_left (by simpa [Sort.ahead] using hglt)]
  exact this
 ·rw [hlen];exact hnc
 ·simpa [putCells] using hcs
 ·rw [hlen]
  apply List.ext_getElem?
  intro j
  rw [List.getElem?_take,Nat.mul_one]
  by_cases hj:j<xs.length
  ·have hjc:j<cur.size:=by rw [hcs];omega
   rw [if_pos hj,Array.getElem?_toList]
   simp only [putCells,Array.getElem?_mapIdx,Array.getElem?_eq_getElem hjc,Option.map_some]
   rw [if_pos ⟨Nat.zero_le _,by omega⟩,List.getElem?_map,Array.getElem?_toList,Array.getElem?_eq_getElem (by omega)]
   simp [getElem!_pos,show j<d'.size by omega]
  ·rw [if_neg hj,List.getElem?_eq_none (by rw [List.length_map,Array.length_toList];omega)]
 ·rw [List.length_map,List.length_map]
 ·intro j u x hu hx
  rw [List.getElem?_map] at hu hx
  obtain ⟨i,hi,rfl⟩:=Option.map_eq_some_iff.1 hu
  rw [hi] at hx
  obtain rfl:xs[i.1]=x:=Option.some.inj hx
  obtain ⟨A,c,e,hR⟩:=row i
  rw [e]
  exact R34_kept hR far
 ·refine ⟨hb.os,hb.tape,hb.output,?_,fun q hq=>?_⟩
  ·have:=hb.size
   show _<=((Sort.ahead W n).heap.modify g (onCells (putCells enc 0 d')) ++ os).size
   simp [Sort.ahead]
   omega
  ·rw [←hb.block q hq]
   exact sw_other enc (by omega) (by omega)
theorem OwnRows.nil (W:World)(h:Nat):OwnRows W h (.slice none 0 0) []:=⟨[],World.ownsRow_nil _ _ _ _,rfl,fun j u x hu _=>by simp at hu⟩
theorem OwnRows.lower {W:World}{h h':Nat}{v:Value}{xs:List (List S74)}(o:OwnRows W h v xs)(hb:h'<=h):OwnRows W h' v xs:=by
 obtain ⟨hdrs,ho,hl,hr⟩:=o
 refine ⟨hdrs,⟨ho.1,?_⟩,hl,fun j u x hu hx=>Kd.R_lower (hr j u x hu hx) hb⟩
 rcases ho.2 with hn | ⟨g,cap,cur,e,hg,rest⟩
 ·exact .inl hn
 ·exact .inr ⟨g,cap,cur,e,by omega,rest⟩
theorem OwnRows.below {W W1:World}{h:Nat}{v:Value}{xs:List (List S74)}(o:OwnRows W h v xs)(hb:Below W.heap.size W W1):OwnRows W1 h v xs:=by
 obtain ⟨hdrs,ho,hr⟩:=o
 refine ⟨hdrs,⟨ho.1,?_⟩,hr.kept fun k cells hk=>hb.block k (Array.getElem?_eq_some_iff.1 hk).1⟩
 rcases ho.2 with hn | ⟨g,cap,cur,e,hg,hh,rest⟩
 ·exact .inl hn
 ·exact .inr ⟨g,cap,cur,e,hg,(hb.block g (Array.getElem?_eq_some_iff.1 hh).1).trans hh,rest⟩
theorem OwnRows.slice {W:World}{h:Nat}{v:Value}{xs:List (List S74)}(o:OwnRows W h v xs): ∃ A c,v=.slice A xs.length c:=by
 obtain ⟨hdrs,ho,_⟩:=o
 rcases ho.2 with ⟨e,hn⟩ | ⟨g,cap,cur,e,_⟩
 ·exact ⟨none,0,by rw [e,hn]⟩
 ·exact ⟨_,cap,e⟩
theorem OwnRows.reads {W:World}{h n c:Nat}{A:Option Addr}{xs:List (List S74)}(o:OwnRows W h (.slice A n c) xs):n=xs.length∧xs.length<=c∧Kd.C (Kd.slice 74 k74) W A xs.length xs:=by
 obtain ⟨hdrs,ho,hl,hr⟩:=o
 rcases ho.2 with ⟨e,hn⟩ | ⟨g,cap,cur,e,hg,hh,hnc,hcm,hcs,ht⟩
 ·injection e with e1 e2 e3
  subst e1 e2 e3
  obtain rfl:=List.eq_nil_of_length_eq_zero hn
  exact ⟨rfl,Nat.le_refl _,Kd.C_nil _ _⟩
 ·injection e with e1 e2 e3
  subst e1 e2 e3
  refine ⟨rfl,hnc,rfl,by unfold maxLen at hcm;omega,fun _=>⟨_,rfl,fun j x hx=>?_⟩⟩
  have hj:j<xs.length:=(List.getElem?_eq_some_iff.1 hx).1
  obtain ⟨u,hu⟩: ∃ u,hdrs[j]? =some u:=⟨_,List.getElem?_eq_getElem (by omega)⟩
  have hR:=hr j u x hu hx
  obtain ⟨A',c',rfl⟩:=Kd.R_slice hR
  obtain ⟨k1,k2,k3⟩:=Kd.R_reads' hR
  refine ⟨[.slice A' x.length c'],rfl,(show Kd.K (Kd.slice 74 k74) W x [.slice A' x.length c'] from ⟨A',c',rfl,k2,k3⟩),fun i v hv=>?_⟩
  have hi:i=0:=by
   have:=(List.getElem?_eq_some_iff.1 hv).1
   simp at this
   exact this
  subst hi
  simp at hv
  subst hv
  show W.cell? (Addr.add ⟨g,0,none⟩ (j*1+0))=_
  rw [Nat.mul_one,Nat.add_zero,add_plain]
  refine (af_ hh j).trans ?_
  rw [←hu,←ht,List.getElem?_take,if_pos (by omega),Array.getElem?_toList]
theorem OwnRows.add {W w1:World}{h:Nat}{v v' u:Value}{xs:List (List S74)}{x:List S74}{hdrs:List Value}{tmp:Obj}(ho:W.ownsRow h 37 1 v xs.length hdrs)(hr:RowsAt W h hdrs xs)(hu:Kd.R k74 74 W h (fun _=>True) u x)
  (hown':w1.ownsRow h 37 1 v' (xs.length+1) (hdrs ++ [u])) (hg:(W.alloc tmp).grownBy w1 v.ownBlock):OwnRows w1 h v' (xs ++ [x]):=by
 have hm: ∀ (k:Nat) (cells:Array Value),W.heap[k]? =some (Obj.cells cells 74 (0,0))->w1.heap[k]? =W.heap[k]? :=by
  intro k cells hk
  have hlt:=(Array.getElem?_eq_some_iff.1 hk).1
  have e1:(W.alloc tmp).heap[k]? =W.heap[k]? :=Below.heap_alloc W tmp k hlt
  have hlt2:k<(W.alloc tmp).heap.size:=by simp;omega
  refine (hg.block k hlt2 fun e=>?_).trans e1
  rcases ho.2 with ⟨e',_⟩ | ⟨g,cap,cur,e',_,hh,_⟩
  ·rw [e'] at e;cases e
  ·rw [e'] at e
   have:k=g:=by simpa [Value.ownBlock] using e
   subst this
   exact dd_ hk hh (by decide) rfl
 refine ⟨hdrs ++ [u],by rw [List.length_append];exact hown',by rw [List.length_append,List.length_append,hr.1];rfl,fun j a b ha hb=>?_⟩
 by_cases hj:j<xs.length
 ·rw [List.getElem?_append_left (by rw [hr.1];exact hj)] at ha
  rw [List.getElem?_append_left hj] at hb
  exact R34_kept (hr.2 j a b ha hb) hm
 ·have hjl:=(List.getElem?_eq_some_iff.1 hb).1
  rw [List.length_append,List.length_singleton] at hjl
  have e:j=xs.length:=by omega
  subst e
  rw [List.getElem?_append_right (by rw [hr.1];exact Nat.le_refl _),hr.1,Nat.sub_self] at ha
  rw [List.getElem?_append_right (Nat.le_refl _),Nat.sub_self] at hb
  simp at ha hb
  subst ha hb
  exact R34_kept hu hm
theorem OwnRows.one {W:World}{h g:Nat}{u:Value}{x:List S74}(hh:W.heap[g]? =some (Obj.cells #[u] 37 (0,0)))(hg:h<=g)(hu:Kd.R k74 74 W h (fun _=>True) u x):OwnRows W h (.slice (some ⟨g,0,none⟩) 1 1) [x]:=by
 refine ⟨[u],⟨rfl,.inr ⟨g,1,#[u],rfl,hg,hh,Nat.le_refl _,by decide,rfl,rfl⟩⟩,rfl,fun j a b ha hb=>?_⟩
 cases j with
 | zero=>
  simp at ha hb
  subst ha hb
  exact hu
 | succ j=>simp at ha
theorem long_one (A0:Option Addr)(c0:Nat)(l0:List S74)(w:World):Calls Tryz.prog 74 #[.slice A0 l0.length c0] w fun e w'=>e=.returned (.bool (decide (400<l0.length)))∧Below w.heap.size w w':=by
 by_cases h:400<l0.length
 ·have b1:decide (400<l0.length)=true:=dt__ h
  have b2:decide (400<(l0.length:Int))=true:=dt__ (by omega)
  rw [b1]
  clear h
  go_enter Tryz.func74,Tryz.ntmps74
  go_wp2_with fail
  go_ret
  exact ⟨by first | rfl | (simp [b1,b2];done) | (rw [b2];done),Below.refl _ _⟩
 ·have b1:decide (400<l0.length)=false:=df__ h
  have b2:decide (400<(l0.length:Int))=false:=df__ (by omega)
  rw [b1]
  clear h
  go_enter Tryz.func74,Tryz.ntmps74
  go_wp2_with fail
  go_ret
  exact ⟨by first | rfl | (simp [b1,b2];done) | (rw [b2];done),Below.refl _ _⟩
theorem class_one (c:Int)(gc:Nat)(A0:Option Addr)(c0:Nat)(l0:List S74)(w:World)(hr0:Kd.C k74 w A0 l0.length l0)(hc0:l0.length<=c0)(hg:w.heap[gc]? =some (.cells #[.int .i64 c] 3 (0,0))):
  Calls Tryz.prog 103 #[.slice A0 l0.length c0,.pointer (some ⟨gc,0,none⟩)] w fun e w'=>e=.returned (.bool (hasF l0 c))∧Below w.heap.size w w':=by
 have hs:=c24 A0 c0 l0 w hr0 hc0 c _ rfl
 have hcell:=bc_ hg 0 rfl
 generalize hasF l0 c=b at hs ⊢
 have HS:=Sd.m hs
 clear hs hg hr0 hc0
 go_enter Tryz.func103,Tryz.ntmps103
 go_wp2_with fail
 refine HS.out.mono ?_
 rintro e w' ⟨rfl,hb⟩
 have HB:=Sd.m hb
 clear hb
 go_wp2_with fail
 go_ret
 exact ⟨rfl,HB.out⟩
def ixF (p:List S74->Bool)(l:List (List S74)):Int:=match l.findIdx? p with
 | some i=>i
 | none=> -1
theorem ixF_ge (p:List S74->Bool)(l:List (List S74)):decide (0<=ixF p l)=l.any p:=by
 unfold ixF
 cases h:l.findIdx? p with
 | none=>
  have:=List.findIdx?_eq_none_iff.1 h
  simp only
  rw [df__ (by omega)]
  symm
  rw [List.any_eq_false]
  intro x hx
  rw [this x hx]
  decide
 | some i=>
  simp only
  rw [dt__ (by omega)]
  symm
  obtain ⟨hi,hp,_⟩:=List.findIdx?_eq_some_iff_getElem.1 h
  exact List.any_eq_true.2 ⟨_,List.getElem_mem hi,hp⟩
def Lxi (w:World)(l:List (List S74))(p:List S74->Bool)(u:Value)(W:World):Prop:= ∃ j:Nat,j<=l.length∧u=.int .i64 j∧Below w.heap.size w W∧ ∀ r∈l.take j,p r=false
theorem index_long (A0:Option Addr)(c0:Nat)(l0:List (List S74))(w:World)(hr0:Kd.C (Kd.slice 74 k74) w A0 l0.length l0)(hc0:l0.length<=c0):
  Calls Tryz.prog 102 #[.slice A0 l0.length c0,.func (.func 74) #[] #[]] w fun e w'=>e=.returned (.int .i64 (ixF (fun x_:List S74=>decide (400<x_.length)) l0))∧Below w.heap.size w w':=by
 have HR:=Sd.m hr0
 have HM:l0.length<=9223372036854775807:=Kd.C_max hr0
 have eg: ∀ args w,(callFunc 74 args).run Tryz.prog w=.ok (.enter 74 args) w:=enters_of Tryz.func74 (by kernel_rfl) rfl
 clear hr0
 obtain ⟨p,hp⟩: ∃ p:List S74->Bool,p=fun x_:List S74=>decide (400<x_.length):=⟨_,rfl⟩
 rw [←hp]
 have HP:=Sd.m hp
 clear hp
 go_enter Tryz.func102,Tryz.ntmps102
 go_wp2_with fail
 go_loopw [8] (fun u W=>Lxi w l0 p u W) (fun u _=>l0.length - (intOf u).toNat)
 case atStart=>exact ⟨0,Nat.zero_le _,rfl,Below.refl _ _,(fun r hr=>by simp at hr)⟩
 case round=>
  obtain ⟨j,hj,rfl,hb,hno⟩:=hrel
  have HB:=Sd.m hb
  have HN:=Sd.m hno
  clear hb hno
  by_cases hlt:j<l0.length
  ·have b1:decide ((j:Int)<(l0.length:Int))=true:=dt__ (by omega)
   have b2:decide (j<l0.length)=true:=dt__ hlt
   obtain ⟨ad,A1,c1,rfl,k0,k1,k2⟩:=at_L3 (Kd.C_below HR.out HB.out) (j:Int) (by omega) (by omega)
   rw [Int.toNat_natCast] at k0
   have hq0:0<=(j:Int):=by omega
   have hq1:(j:Int)<(l0.length:Int):=by omega
   have w2:IntKind.i64.wrap ((j:Int)+1)=(j:Int)+1:=IntWalk.i64_in _ (by omega)
   have hel:l0[j]? =some (fk_ l0 j):=by
    unfold fk_
    rw [Int.toNat_natCast,List.getD_eq_getElem?_getD,List.getElem?_eq_getElem hlt]
    rfl
   have HE:=Sd.m hel
   clear hel
   obtain ⟨s,hs⟩: ∃ s,s=fk_ l0 j:=⟨_,rfl⟩
   rw [←hs] at k0 k1 k2 HE
   clear hs
   have HK:=Sd.m k2
   have HK1:=Sd.m k1
   clear k2 k1
   go_wp2_with fail
   have hrl:=long_one A1 c1 s wr
   rw [show decide (400<s.length)=p s from by rw [HP.out]] at hrl
   refine hrl.mono ?_
   clear hrl
   rintro e W7 ⟨rfl,hb7⟩
   have HB7:=Sd.m (HB.out.trans (hb7.mono HB.out.size))
   clear hb7 k0
   cases hi:p s with
   | true=>
    have HI:=Sd.m hi
    clear hi
    go_wp2_with fail
    go_ret
    have hfi:(l0.findIdx? p)=some j:=List.findIdx?_eq_some_iff_getElem.2 ⟨hlt,(by rw [List.getElem?_eq_getElem hlt] at HE;rw [Option.some.inj HE.out];exact HI.out),(fun i hi=>by
     have:=HN.out (l0[i]'(by omega)) (List.mem_take_iff_getElem.2 ⟨i,by omega,rfl⟩)
     rw [this]
     decide)⟩
    have hix:ixF p l0=j:=by
     unfold ixF
     rw [hfi]
    exact ⟨by rw [hix];rfl,HB7.out⟩
   | false=>
    have HI:=Sd.m hi
    clear hi
    go_wp2_with fail
    go_roundw
    case rel=>
     refine ⟨j+1,hlt,by go_num,HB7.out,fun r hr=>?_⟩
     rw [List.take_add_one,HE.out] at hr
     rcases List.mem_append.1 hr with hr | hr
     ·exact HN.out r hr
     ·simp at hr
      rw [hr]
      exact HI.out
    case measure=>simp [intOf];omega
  ·have b1:decide ((j:Int)<(l0.length:Int))=false:=df__ (by omega)
   have b2:decide (j<l0.length)=false:=df__ hlt
   go_wp2_with fail
   go_ret
   have:ixF p l0= -1:=by
    unfold ixF
    rw [List.findIdx?_eq_none_iff.2 fun x hx=>HN.out x (by rw [List.take_of_length_le (by omega)];exact hx)]
   exact ⟨by rw [this];rfl,HB.out⟩
theorem index_class (c:Int)(gc:Nat)(A0:Option Addr)(c0:Nat)(l0:List (List S74))(w:World)(hr0:Kd.C (Kd.slice 74 k74) w A0 l0.length l0)(hc0:l0.length<=c0)(hg:w.heap[gc]? =some (.cells #[.int .i64 c] 3 (0,0))):
  Calls Tryz.prog 102 #[.slice A0 l0.length c0,.func (.func 103) #[] #[.pointer (some ⟨gc,0,none⟩)]] w fun e w'=>e=.returned (.int .i64 (ixF (fun x_:List S74=>hasF x_ c) l0))∧Below w.heap.size w w':=by
 have HR:=Sd.m hr0
 have HG:=Sd.m hg
 clear hg
 have HM:l0.length<=9223372036854775807:=Kd.C_max hr0
 have eg: ∀ args w,(callFunc 103 args).run Tryz.prog w=.ok (.enter 103 args) w:=enters_of Tryz.func103 (by kernel_rfl) rfl
 clear hr0
 obtain ⟨p,hp⟩: ∃ p:List S74->Bool,p=fun x_:List S74=>hasF x_ c:=⟨_,rfl⟩
 rw [←hp]
 have HP:=Sd.m hp
 clear hp
 go_enter Tryz.func102,Tryz.ntmps102
 go_wp2_with fail
 go_loopw [8] (fun u W=>Lxi w l0 p u W) (fun u _=>l0.length - (intOf u).toNat)
 case atStart=>exact ⟨0,Nat.zero_le _,rfl,Below.refl _ _,(fun r hr=>by simp at hr)⟩
 case round=>
  obtain ⟨j,hj,rfl,hb,hno⟩:=hrel
  have HB:=Sd.m hb
  have HN:=Sd.m hno
  clear hb hno
  by_cases hlt:j<l0.length
  ·have b1:decide ((j:Int)<(l0.length:Int))=true:=dt__ (by omega)
   have b2:decide (j<l0.length)=true:=dt__ hlt
   obtain ⟨ad,A1,c1,rfl,k0,k1,k2⟩:=at_L3 (Kd.C_below HR.out HB.out) (j:Int) (by omega) (by omega)
   rw [Int.toNat_natCast] at k0
   have hq0:0<=(j:Int):=by omega
   have hq1:(j:Int)<(l0.length:Int):=by omega
   have w2:IntKind.i64.wrap ((j:Int)+1)=(j:Int)+1:=IntWalk.i64_in _ (by omega)
   have hel:l0[j]? =some (fk_ l0 j):=by
    unfold fk_
    rw [Int.toNat_natCast,List.getD_eq_getElem?_getD,List.getElem?_eq_getElem hlt]
    rfl
   have HE:=Sd.m hel
   clear hel
   obtain ⟨s,hs⟩: ∃ s,s=fk_ l0 j:=⟨_,rfl⟩
   rw [←hs] at k0 k1 k2 HE
   clear hs
   have HK:=Sd.m k2
   have HK1:=Sd.m k1
   clear k2 k1
   go_wp2_with fail
   have hrl:=class_one c gc A1 c1 s wr HK.out HK1.out (ae_ HG.out HB.out)
   rw [show hasF s c=p s from by rw [HP.out]] at hrl
   refine hrl.mono ?_
   clear hrl
   rintro e W7 ⟨rfl,hb7⟩
   have HB7:=Sd.m (HB.out.trans (hb7.mono HB.out.size))
   clear hb7 k0
   cases hi:p s with
   | true=>
    have HI:=Sd.m hi
    clear hi
    go_wp2_with fail
    go_ret
    have hfi:(l0.findIdx? p)=some j:=List.findIdx?_eq_some_iff_getElem.2 ⟨hlt,(by rw [List.getElem?_eq_getElem hlt] at HE;rw [Option.some.inj HE.out];exact HI.out),(fun i hi=>by
     have:=HN.out (l0[i]'(by omega)) (List.mem_take_iff_getElem.2 ⟨i,by omega,rfl⟩)
     rw [this]
     decide)⟩
    have hix:ixF p l0=j:=by
     unfold ixF
     rw [hfi]
    exact ⟨by rw [hix];rfl,HB7.out⟩
   | false=>
    have HI:=Sd.m hi
    clear hi
    go_wp2_with fail
    go_roundw
    case rel=>
     refine ⟨j+1,hlt,by go_num,HB7.out,fun r hr=>?_⟩
     rw [List.take_add_one,HE.out] at hr
     rcases List.mem_append.1 hr with hr | hr
     ·exact HN.out r hr
     ·simp at hr
      rw [hr]
      exact HI.out
    case measure=>simp [intOf];omega
  ·have b1:decide ((j:Int)<(l0.length:Int))=false:=df__ (by omega)
   have b2:decide (j<l0.length)=false:=df__ hlt
   go_wp2_with fail
   go_ret
   have:ixF p l0= -1:=by
    unfold ixF
    rw [List.findIdx?_eq_none_iff.2 fun x hx=>HN.out x (by rw [List.take_of_length_le (by omega)];exact hx)]
   exact ⟨by rw [this];rfl,HB.out⟩
def longF (l:List (List S74)):Bool:=l.any fun x=>decide (400<x.length)
theorem fp_ (A0:Option Addr)(c0:Nat)(l0:List (List S74))(w:World)(hr0:Kd.C (Kd.slice 74 k74) w A0 l0.length l0)(hc0:l0.length<=c0)(b:Bool)(h:longF l0=b):
  Calls Tryz.prog 75 #[.slice A0 l0.length c0,.func (.func 74) #[] #[]] w fun e w'=>e=.returned (.bool b)∧Below w.heap.size w w':=by
 have hi:=index_long A0 c0 l0 w hr0 hc0
 have hge:decide (0<=ixF (fun x:List S74=>decide (400<x.length)) l0)=b:=(ixF_ge _ l0).trans h
 generalize ixF (fun x:List S74=>decide (400<x.length)) l0=i at hi hge
 rw [←hge]
 have HI:=Sd.m hi
 clear hi hr0 hc0 hge h
 go_enter Tryz.func75,Tryz.ntmps75
 go_wp2_with fail
 refine HI.out.mono ?_
 rintro e w' ⟨rfl,hb⟩
 have HB:=Sd.m hb
 clear hb
 go_wp2_with fail
 go_ret
 exact ⟨rfl,HB.out⟩
def classF (l:List (List S74))(c:Int):Int:=ixF (fun x=>hasF x c) l
theorem c38 (A0:Option Addr)(c0:Nat)(l0:List (List S74))(a1:Int)(w:World)(hr0:Kd.C (Kd.slice 74 k74) w A0 l0.length l0)(hc0:l0.length<=c0)(n:Int)(h:classF l0 a1=n):
  Calls Tryz.prog 67 #[.slice A0 l0.length c0,.int .i64 a1] w fun e w'=>e=.returned (.int .i64 n)∧Below w.heap.size w w':=by
 have hs:=index_class a1 w.heap.size A0 c0 l0 (w.alloc (.cells #[.int .i64 a1] 3)) (Kd.C_alloc hr0 _) hc0 (ah_ _ _)
 rw [show ixF (fun x_:List S74=>hasF x_ a1) l0=n from h] at hs
 have HS:=Sd.m hs
 clear hs hr0 hc0 h
 go_enter Tryz.func67,Tryz.ntmps67
 go_wp2_with fail
 refine HS.out.mono ?_
 rintro e w' ⟨rfl,hb⟩
 have HB:=Sd.m ((ab_ (Below.refl w.heap.size w) (.cells #[.int .i64 a1] 3)).trans (hb.mono (by simp)))
 clear hb
 go_wp2_with fail
 go_ret
 exact ⟨rfl,HB.out⟩
end L
namespace P
open A L
def bordF (xs:List S74):List Int:=xs.flatMap fun r=>[r.f0,r.f1+1]
theorem bord_len: ∀ xs:List S74,(bordF xs).length=2*xs.length
 | []=>rfl
 | r :: xs=>by
  have:=bord_len xs
  simp only [bordF,List.flatMap_cons,List.length_append,List.length_cons,List.length_nil] at this ⊢
  omega
theorem bord_mem {xs:List S74}{x:Int}(h:x∈bordF xs): ∃ r∈xs,x=r.f0∨x=r.f1+1:=by
 obtain ⟨r,hr,h⟩:=List.mem_flatMap.1 h
 simp at h
 exact ⟨r,hr,h⟩
theorem bord_up: ∀ {xs:List S74},(∀ r∈xs,r.f0<=r.f1)->xs.Pairwise (fun r s=>r.f1+1<s.f0)->(bordF xs).Pairwise (· < ·)
 | [],_,_=>List.Pairwise.nil
 | r :: xs,h,hp=>by
  obtain ⟨h1,h2⟩:=List.pairwise_cons.1 hp
  have ih:=bord_up (xs:=xs) (fun s hs=>h s (List.mem_cons_of_mem _ hs)) h2
  have hr:=h r (List.mem_cons_self ..)
  have far: ∀ x∈bordF xs,r.f1+1<x:=by
   intro x hx
   obtain ⟨s,hs,e | e⟩:=bord_mem hx
   ·rw [e];exact h1 s hs
   ·have:=h1 s hs
    have:=h s (List.mem_cons_of_mem _ hs)
    omega
  show (r.f0 :: (r.f1+1) :: bordF xs).Pairwise (· < ·)
  refine List.pairwise_cons.2 ⟨fun x hx=>?_,List.pairwise_cons.2 ⟨far,ih⟩⟩
  rcases List.mem_cons.1 hx with rfl | hx
  ·omega
  ·have:=far x hx
   omega
theorem mem_two {xs:List S74}(hp:xs.Pairwise fun r s=>r.f1+1<s.f0){r s:S74}(hr:r∈xs)(hs:s∈xs):r=s∨r.f1+1<s.f0∨s.f1+1<r.f0:=by
 induction xs with
 | nil=>cases hr
 | cons t ts ih=>
  obtain ⟨p1,p2⟩:=List.pairwise_cons.1 hp
  rcases List.mem_cons.1 hr with e1 | e1
  ·rcases List.mem_cons.1 hs with e2 | e2
   ·exact Or.inl (e1.trans e2.symm)
   ·exact Or.inr (Or.inl (e1 ▸ p1 s e2))
  ·rcases List.mem_cons.1 hs with e2 | e2
   ·exact Or.inr (Or.inr (e2 ▸ p1 r e1))
   ·exact ih p2 e1 e2
theorem canon_runs (P:Int->Bool)(E:List Int)(h: ∀ c,0<c->c<=1114111->P c≠P (c - 1)->c∈E):2*(canonF P).length<=E.length+2:=by
 have hs:=en_ P
 have hr:=hs.1.1
 have hp:=hs.1.2
 have hm: ∀ c,0<=c->c<1114112->Mem (canonF P) c=P c:=hs.2
 have up:=bord_up (fun r q=>(hr r q).2.1) hp
 have nd:(bordF (canonF P)).Nodup:=up.imp fun q e=>by omega
 have nd1:=nd.erase 0
 have nd2:=nd1.erase 1114112
 have hl:2*(canonF P).length<=(((bordF (canonF P)).erase 0).erase 1114112).length+2:=by
  have e1:=bord_len (canonF P)
  have e2:=List.length_erase (a:=(0:Int)) (l:=bordF (canonF P))
  have e3:=List.length_erase (a:=(1114112:Int)) (l:=(bordF (canonF P)).erase 0)
  split at e2 <;> split at e3 <;> omega
 have:=nodup_len (((bordF (canonF P)).erase 0).erase 1114112) E nd2 ?_
 ·omega
 ·intro x hx
  rw [nd1.mem_erase_iff,nd.mem_erase_iff] at hx
  obtain ⟨hx2,hx1,hx0⟩:=hx
  obtain ⟨r,hq,e | e⟩:=bord_mem hx0
  ·have hb:=hr r hq
   refine h x (by omega) (by omega) ?_
   have t1:P x=true:=by
    rw [←hm x (by omega) (by omega)]
    exact mem_iff.2 ⟨r,hq,by omega,by omega⟩
   have t2:P (x - 1)=false:=by
    rw [←hm (x - 1) (by omega) (by omega)]
    cases hz:Mem (canonF P) (x - 1) with
    | false=>rfl
    | true=>
     obtain ⟨s,hs',k1,k2⟩:=mem_iff.1 hz
     have:=hr s hs'
     rcases mem_two hp hq hs' with e' | e' | e'
     ·rw [←e'] at k1;omega
     ·omega
     ·omega
   rw [t1,t2]
   decide
  ·have hb:=hr r hq
   refine h x (by omega) (by omega) ?_
   have t1:P (x - 1)=true:=by
    rw [←hm (x - 1) (by omega) (by omega)]
    exact mem_iff.2 ⟨r,hq,by omega,by omega⟩
   have t2:P x=false:=by
    rw [←hm x (by omega) (by omega)]
    cases hz:Mem (canonF P) x with
    | false=>rfl
    | true=>
     obtain ⟨s,hs',k1,k2⟩:=mem_iff.1 hz
     have:=hr s hs'
     rcases mem_two hp hq hs' with e' | e' | e'
     ·rw [←e'] at k2;omega
     ·omega
     ·omega
   rw [t1,t2]
   decide
def sigF (sets:List (List S74))(c:Int):List Bool:=sets.map fun s=>hasB s c
def atF (sets:List (List S74))(σ:List Bool):List S74:=canonF fun c=>decide (sigF sets c=σ)
def edgesOf (sets:List (List S74)):List Int:=sets.flatMap fun s=>lowsF s ++ endsF s
theorem hasB_edge {l:List S74}{c:Int}(h0:0<=c)(h:hasB l c≠hasB l (c - 1)):c∈lowsF l ++ endsF l:=by
 rw [List.mem_append]
 cases h1:hasB l c with
 | true=>
  cases h2:hasB l (c - 1) with
  | true=>rw [h1,h2] at h;exact absurd rfl h
  | false=>exact Or.inl (starts h0 h1 (Or.inr h2))
 | false=>
  cases h2:hasB l (c - 1) with
  | true=>exact Or.inr (ends h1 h2)
  | false=>rw [h1,h2] at h;exact absurd rfl h
theorem sig_edge {sets:List (List S74)}{c:Int}(h0:0<=c)(h:sigF sets c≠sigF sets (c - 1)):c∈edgesOf sets:=by
 induction sets with
 | nil=>exact absurd rfl h
 | cons s sets ih=>
  show c∈(lowsF s ++ endsF s) ++ edgesOf sets
  rw [List.mem_append]
  by_cases e:hasB s c=hasB s (c - 1)
  ·refine Or.inr (ih fun e2=>h ?_)
   show hasB s c :: sigF sets c=hasB s (c - 1) :: sigF sets (c - 1)
   rw [e,e2]
  ·exact Or.inl (hasB_edge h0 e)
theorem at_len {sets:List (List S74)}(E:List Int)(hE: ∀ c,0<c->c<=1114111->sigF sets c≠sigF sets (c - 1)->c∈E)(σ:List Bool):2*(atF sets σ).length<=E.length+2:=
 canon_runs _ E fun c h0 h1 h=>hE c h0 h1 fun e=>h (by rw [e])
theorem fw_: ∀ sets:List (List S74),(edgesOf sets).length=2*(sets.map List.length).sum
 | []=>rfl
 | s :: sets=>by
  have:=fw_ sets
  show ((lowsF s ++ endsF s) ++ edgesOf sets).length=_
  rw [List.length_append,List.length_append,lows_len,ends_len,this,List.map_cons,List.sum_cons]
  omega
def ofStep (s:List S74)(atoms:List (List S74)):List (List S74):=atoms.flatMap fun a=>[partF a s true,partF a s false].filter fun p=>decide (0<p.length)
def AtomsOf (sets:List (List S74))(L:List (List S74)):Prop:=
 ∃ T:List (List Bool),T.Nodup∧L=T.map (atF sets)∧(∀ c,0<=c->c<=1114111->sigF sets c∈T)∧ ∀ t∈T,0<(atF sets t).length
theorem km_ {a b:List Bool}{x y:Bool}:a ++ [x]=b ++ [y]↔a=b∧x=y:=by
 constructor
 ·intro h
  obtain ⟨h1,h2⟩:=List.append_inj' h rfl
  exact ⟨h1,(List.cons.inj h2).1⟩
 ·rintro ⟨rfl,rfl⟩
  rfl
theorem id_ (pre:List (List S74))(s:List S74)(c:Int):sigF (pre ++ [s]) c=sigF pre c ++ [hasB s c]:=by simp [sigF]
theorem part_at {pre:List (List S74)}{t:List Bool}(h:(atF pre t).length<=400)(s:List S74)(b:Bool):partF (atF pre t) s b=atF (pre ++ [s]) (t ++ [b]):=by
 have key: ∀ c,0<=c->c<=1114111->hasB (atF pre t) c=decide (sigF pre c=t):=fun c h0 h1=>has_canon h h0 h1
 have two: ∀ c,decide (sigF (pre ++ [s]) c=t ++ [b])=(decide (sigF pre c=t) && decide (hasB s c=b)):=by
  intro c
  rw [id_,Bool.eq_iff_iff]
  simp [km_]
 cases b with
 | true=>
  rw [jn_]
  unfold andF
  refine (ec_ fun c h0 h1=>?_).trans rfl
  rw [key c h0 h1,two c]
  cases hasB s c <;> simp
 | false=>
  rw [iv_]
  unfold lessF
  refine (ec_ fun c h0 h1=>?_).trans rfl
  rw [key c h0 h1,two c]
  cases hasB s c <;> simp
theorem at_pos {sets:List (List S74)}{c:Int}(h0:0<=c)(h1:c<=1114111):0<(atF sets (sigF sets c)).length:=by
 have h:=jg_ (fun d=>decide (sigF sets d=sigF sets c)) h0 h1
 rw [dt__ rfl] at h
 obtain ⟨r,hr,_⟩:=mem_iff.1 h
 exact List.length_pos_of_mem hr
theorem not_nil:notF []=atF [] []:=ec_ fun c h0 h1=>by simp [hasB,Mem,sigF]
theorem jh_:AtomsOf [] [notF []]:=
 ⟨[[]],List.nodup_cons.2 ⟨by simp,List.nodup_nil⟩,by rw [not_nil];rfl,fun c _ _=>List.mem_singleton.2 rfl,fun t ht=>by
  rw [List.mem_singleton.1 ht]
  exact at_pos (sets:=[]) (c:=0) (by decide) (by decide)⟩
def splitT (sets:List (List S74))(t:List Bool):List (List Bool):=[t ++ [true],t ++ [false]].filter fun u=>decide (0<(atF sets u).length)
theorem gv_ {sets:List (List S74)}{t u:List Bool}:u∈splitT sets t↔(u=t ++ [true]∨u=t ++ [false])∧0<(atF sets u).length:=by
 unfold splitT
 rw [List.mem_filter]
 simp
theorem il_ (sets:List (List S74)): ∀ {T:List (List Bool)},T.Nodup->(T.flatMap (splitT sets)).Nodup
 | [],_=>List.nodup_nil
 | t :: T,h=>by
  obtain ⟨h1,h2⟩:=List.nodup_cons.1 h
  rw [List.flatMap_cons,List.nodup_append]
  refine ⟨?_,il_ sets h2,fun u hu v hv e=>?_⟩
  ·refine List.Pairwise.filter _ (List.nodup_cons.2 ⟨?_,List.nodup_cons.2 ⟨by simp,List.nodup_nil⟩⟩)
   rw [List.mem_singleton,km_]
   simp
  ·obtain ⟨t',ht',hv'⟩:=List.mem_flatMap.1 hv
   have a1:=(gv_.1 hu).1
   have a2:=(gv_.1 hv').1
   rw [e] at a1
   have:t=t':=by
    rcases a1 with a1 | a1 <;> rcases a2 with a2 | a2 <;> exact (km_.1 (a1.symm.trans a2)).1
   exact h1 (this ▸ ht')
theorem atoms_step {pre L:List (List S74)}(h:AtomsOf pre L)(hl: ∀ a∈L,a.length<=400)(s:List S74):AtomsOf (pre ++ [s]) (ofStep s L):=by
 obtain ⟨T,hn,rfl,hc,hp⟩:=h
 refine ⟨T.flatMap (splitT (pre ++ [s])),il_ _ hn,?_,?_,?_⟩
 ·unfold ofStep
  clear hn hc hp
  induction T with
  | nil=>rfl
  | cons t T ih=>
   rw [List.map_cons,List.flatMap_cons,List.flatMap_cons,List.map_append,ih fun a ha=>hl a (List.mem_cons_of_mem _ ha)]
   congr 1
   have h1:=hl (atF pre t) (List.mem_cons_self ..)
   rw [part_at h1 s true,part_at h1 s false]
   unfold splitT
   by_cases q1:0<(atF (pre ++ [s]) (t ++ [true])).length <;> by_cases q2:0<(atF (pre ++ [s]) (t ++ [false])).length <;> simp [List.filter_cons,q1,q2]
 ·intro c h0 h1
  refine List.mem_flatMap.2 ⟨_,hc c h0 h1,gv_.2 ⟨?_,at_pos h0 h1⟩⟩
  rw [id_]
  cases hasB s c
  ·exact Or.inr rfl
  ·exact Or.inl rfl
 ·intro u hu
  obtain ⟨t,_,ht⟩:=List.mem_flatMap.1 hu
  exact (gv_.1 ht).2
def ofAt (sets:List (List S74))(i:Nat):List (List S74):=(sets.take i).foldl (fun L s=>ofStep s L) [notF []]
theorem ofAt_succ {sets:List (List S74)}{i:Nat}{s:List S74}(h:sets[i]? =some s):ofAt sets (i+1)=ofStep s (ofAt sets i):=by
 unfold ofAt
 rw [List.take_add_one,h,List.foldl_append]
 rfl
theorem sig_take {sets:List (List S74)}{i:Nat}{c d:Int}(h:sigF sets c=sigF sets d):sigF (sets.take i) c=sigF (sets.take i) d:=by
 unfold sigF at*
 rw [List.map_take,List.map_take,h]
theorem ih_ {sets:List (List S74)}(E:List Int)(hE: ∀ c,0<c->c<=1114111->sigF sets c≠sigF sets (c - 1)->c∈E)(hl:E.length<=798): ∀ i,i<=sets.length->AtomsOf (sets.take i) (ofAt sets i)∧ ∀ a∈ofAt sets i,a.length<=400:=by
 have len: ∀ i (L:List (List S74)),AtomsOf (sets.take i) L-> ∀ a∈L,a.length<=400:=by
  rintro i L ⟨T,_,rfl,_,_⟩ a ha
  obtain ⟨t,_,rfl⟩:=List.mem_map.1 ha
  have:=at_len (sets:=sets.take i) E (fun c h0 h1 h=>hE c h0 h1 fun e=>h (sig_take e)) t
  omega
 intro i
 induction i with
 | zero=>exact fun _=>⟨jh_,len 0 _ jh_⟩
 | succ i ih=>
  intro hi
  obtain ⟨h1,h2⟩:=ih (by omega)
  have hs:sets[i]? =some sets[i]:=List.getElem?_eq_getElem (by omega)
  have h3:=atoms_step h1 h2 sets[i]
  rw [←ofAt_succ hs] at h3
  have e:sets.take (i+1)=sets.take i ++ [sets[i]]:=by rw [List.take_add_one,hs];rfl
  rw [←e] at h3
  exact ⟨h3,len (i+1) _ h3⟩
end P
namespace L
open Shelf A P
theorem of_many (A0:Option Addr)(c0:Nat)(l0:List (List S74))(w:World)(h:60<l0.length):
  Calls Tryz.prog 43 #[.slice A0 l0.length c0] w fun e w'=>e=.returned (.tuple #[.slice none 0 0,.int .i64 9])∧Below w.heap.size w w':=by
 have b1:decide (60<(l0.length:Int))=true:=dt__ (by omega)
 have b2:decide (60<l0.length)=true:=dt__ h
 have h1:(60:Int)<(l0.length:Int):=by omega
 go_enter Tryz.func43,Tryz.ntmps43
 go_wp2_with fail
 go_ret2
 exact ⟨rfl,Below.refl _ _⟩
theorem of_long (A0:Option Addr)(c0:Nat)(l0:List (List S74))(w:World)(hr0:Kd.C (Kd.slice 74 k74) w A0 l0.length l0)(hc0:l0.length<=c0)(h:¬ 60<l0.length)(hl:longF l0=true):
  Calls Tryz.prog 43 #[.slice A0 l0.length c0] w fun e w'=>e=.returned (.tuple #[.slice none 0 0,.int .i64 9])∧Below w.heap.size w w':=by
 have hs:=Sd.m (fp_ A0 c0 l0 w hr0 hc0 true hl)
 have b1:decide (60<(l0.length:Int))=false:=df__ (by omega)
 have b2:decide (60<l0.length)=false:=df__ h
 have h1:¬ (60:Int)<(l0.length:Int):=by omega
 clear hr0 hc0 hl
 go_enter Tryz.func43,Tryz.ntmps43
 go_wp2_with fail
 refine hs.out.mono ?_
 rintro e W1 ⟨rfl,hb⟩
 have HB:=Sd.m hb
 clear hb hs
 go_wp2_with fail
 go_ret2
 exact ⟨rfl,HB.out⟩
def OfO (w:World)(l0:List (List S74))(va ui:Value)(W:World):Prop:= ∃ i:Nat,i<=l0.length∧ui=.int .i64 i∧OwnRows W w.heap.size va (ofAt l0 i)∧Below w.heap.size w W∧ ∀ j,0<j->j<=i->(ofAt l0 j).length<=200
def OfM (Wr:World)(s:List S74)(L:List (List S74))(vp uk:Value)(W:World):Prop:= ∃ k:Nat,k<=L.length∧uk=.int .i64 k∧OwnRows W Wr.heap.size vp (ofStep s (L.take k))∧Below Wr.heap.size Wr W
def OfI (Wr:World)(gb:Nat)(v1 v2:Value)(p1 p2:List S74)(acc:List (List S74))(vp ut:Value)(W:World):Prop:= ∃ t:Nat,t<=2∧ut=.int .i64 t∧OwnRows W Wr.heap.size vp (acc ++ ([p1,p2].take t).filter fun p=>decide (0<p.length))∧Below Wr.heap.size Wr W∧vp.ownBlock≠some gb∧W.heap[gb]? =some (Obj.cells #[v1,v2] 37 (0,0))∧Kd.R k74 74 W Wr.heap.size (fun _=>True) v1 p1∧Kd.R k74 74 W Wr.heap.size (fun _=>True) v2 p2
theorem kept34 {W w1:World}{h n:Nat}{v:Value}{hdrs:List Value}{tmp:Obj}(ho:W.ownsRow h 37 1 v n hdrs)(hg:(W.alloc tmp).grownBy w1 v.ownBlock): ∀ (k:Nat) (cells:Array Value),W.heap[k]? =some (Obj.cells cells 74 (0,0))->w1.heap[k]? =W.heap[k]? :=by
 intro k cells hk
 have hlt:=(Array.getElem?_eq_some_iff.1 hk).1
 have e1:(W.alloc tmp).heap[k]? =W.heap[k]? :=Below.heap_alloc W tmp k hlt
 have hlt2:k<(W.alloc tmp).heap.size:=by simp;omega
 refine (hg.block k hlt2 fun e=>?_).trans e1
 rcases ho.2 with ⟨e',_⟩ | ⟨g,cap,cur,e',_,hh,_⟩
 ·rw [e'] at e;cases e
 ·rw [e'] at e
  have:k=g:=by simpa [Value.ownBlock] using e
  subst this
  exact dd_ hk hh (by decide) rfl
theorem OwnRows.lt {W:World}{h:Nat}{v:Value}{xs:List (List S74)}(o:OwnRows W h v xs): ∀ k,v.ownBlock=some k->h<=k∧k<W.heap.size:=by
 obtain ⟨hdrs,ho,_⟩:=o
 intro k hk
 rcases ho.2 with ⟨e',_⟩ | ⟨g,cap,cur,e',hg,hh,_⟩
 ·rw [e'] at hk;cases hk
 ·rw [e'] at hk
  have:k=g:=(by simpa [Value.ownBlock] using hk.symm)
  subst this
  exact ⟨hg,(Array.getElem?_eq_some_iff.1 hh).1⟩
theorem inner_app {Wr W w1:World}{gb:Nat}{v1 v2 vp v' u:Value}{p1 p2 x:List S74}{xs:List (List S74)}{hdrs:List Value}{tmp:Obj}(ho:W.ownsRow Wr.heap.size 37 1 vp xs.length hdrs)(hr:RowsAt W Wr.heap.size hdrs xs)(hb:Below Wr.heap.size Wr W)(hne:vp.ownBlock≠some gb)(hgb:W.heap[gb]? =some (Obj.cells #[v1,v2] 37 (0,0)))
  (h1:Kd.R k74 74 W Wr.heap.size (fun _=>True) v1 p1) (h2:Kd.R k74 74 W Wr.heap.size (fun _=>True) v2 p2) (hu:Kd.R k74 74 W Wr.heap.size (fun _=>True) u x)
  (hown':w1.ownsRow Wr.heap.size 37 1 v' (xs.length+1) (hdrs ++ [u])) (hg:(W.alloc tmp).grownBy w1 vp.ownBlock) (hat:v'.ownBlock=vp.ownBlock∨v'.ownBlock=some (W.alloc tmp).heap.size):
  OwnRows w1 Wr.heap.size v' (xs ++ [x])∧Below Wr.heap.size Wr w1∧v'.ownBlock≠some gb∧w1.heap[gb]? =some (Obj.cells #[v1,v2] 37 (0,0))∧Kd.R k74 74 w1 Wr.heap.size (fun _=>True) v1 p1∧Kd.R k74 74 w1 Wr.heap.size (fun _=>True) v2 p2:=by
 have k:=kept34 ho hg
 have hlt:=(Array.getElem?_eq_some_iff.1 hgb).1
 have hsz:(W.alloc tmp).heap.size=W.heap.size+1:=Array.size_push _
 refine ⟨OwnRows.add ho hr hu hown' hg,?_,?_,?_,R34_kept h1 k,R34_kept h2 k⟩
 ·refine (hb.alloc hb.size tmp).grown hg (by have:=hb.size;omega) fun q hq=>?_
  exact (OwnRows.lt ⟨hdrs,ho,hr⟩ q hq).1
 ·rcases hat with e | e
  ·rw [e];exact hne
  ·rw [e,hsz]
   intro e2
   injection e2 with e2
   omega
 ·refine (hg.block gb (by omega) fun e=>hne e.symm).trans ?_
  exact (Below.heap_alloc W tmp gb hlt).trans hgb
theorem ne_add {acc xs ps:List (List S74)}{t:Nat}{p:List S74}(h:ps[t]? =some p)(e0:xs=acc ++ (ps.take t).filter fun p=>decide (0<p.length)):(acc ++ (ps.take (t+1)).filter (fun p=>decide (0<p.length)))=xs ++ (if 0<p.length then [p] else []):=by
 rw [List.take_add_one,h,List.filter_append,←List.append_assoc,←e0]
 by_cases q:0<p.length <;> simp [q]
theorem info37':(Tryz.prog.info? 37).map (fun i=>(i.zero,i.size,i.bytes))=some (some (.slice none 0 0),1,24):=by kernel_rfl
theorem step_len (s:List S74): ∀ L:List (List S74),(ofStep s L).length<=2*L.length
 | []=>Nat.le_refl _
 | a :: L=>by
  have:=step_len s L
  have h1:=List.length_filter_le (fun p:List S74=>decide (0<p.length)) [partF a s true,partF a s false]
  show (([partF a s true,partF a s false].filter fun p=>decide (0<p.length)) ++ ofStep s L).length<=_
  rw [List.length_append,List.length_cons]
  simp only [List.length_cons,List.length_nil] at h1
  omega
theorem of_main (A0:Option Addr)(c0:Nat)(l0:List (List S74))(w:World)(hr0:Kd.C (Kd.slice 74 k74) w A0 l0.length l0)(hc0:l0.length<=c0)(h:¬ 60<l0.length)(hl:longF l0=false)(hA: ∀ i,i<=l0.length-> ∀ a∈ofAt l0 i,a.length<=400)(hP0: ∀ a∈ofAt l0 l0.length,0<a.length)(hN0:0<(ofAt l0 l0.length).length):
  Calls Tryz.prog 43 #[.slice A0 l0.length c0] w fun e w'=>(((∃ j,0<j∧j<=l0.length∧200<(ofAt l0 j).length)∧e=.returned (.tuple #[.slice none 0 0,.int .i64 9]))∨((∀ j,0<j->j<=l0.length->(ofAt l0 j).length<=200)∧ ∃ v ys,e=.returned (.tuple #[v,.int .i64 0])∧OwnRows w' w.heap.size v ys∧ys.Perm (ofAt l0 l0.length)∧ys.Pairwise (fun x y=>lowR x<=lowR y)))∧Below w.heap.size w w':=by
 have hs:=Sd.m (fp_ A0 c0 l0 w hr0 hc0 false hl)
 have b1:decide (60<(l0.length:Int))=false:=df__ (by omega)
 have b2:decide (60<l0.length)=false:=df__ h
 have h1:¬ (60:Int)<(l0.length:Int):=by omega
 have HR:=Sd.m hr0
 have HC:=Sd.m hc0
 have HA:=Sd.m hA
 have HP0:=Sd.m hP0
 have HN0:=Sd.m hN0
 clear hr0 hc0 hl hA hP0 hN0
 go_enter Tryz.func43,Tryz.ntmps43
 go_wp2_with fail
 refine hs.out.mono ?_
 rintro e W1 ⟨rfl,hb⟩
 have HB:=Sd.m hb
 clear hb hs
 go_wp2_with fail
 refine (c20 none 0 [] W1 (Kd.C_nil _ _) (Nat.le_refl _) (notF []) rfl).mono ?_
 rintro e W2 ⟨v1,rfl,hR,hb⟩
 obtain ⟨A1,a1,rfl⟩:=Kd.R_slice hR
 have HR1:=Sd.m (Kd.R_lower hR HB.out.size)
 have HB2:=Sd.m (HB.out.trans (hb.mono HB.out.size))
 clear hR hb HB
 go_wp2_with fail
 have hbox:OwnRows (W2.alloc (Obj.cells #[Value.slice A1 (notF []).length a1] 37)) w.heap.size (.slice (some ⟨W2.heap.size,0,none⟩) 1 1) [notF []]:=OwnRows.one (ah_ _ _) HB2.out.size (Kd.R_alloc HR1.out _)
 have HBX:=Sd.m hbox
 clear hbox
 go_loopw [5,25] (fun va ui W=>OfO w l0 va ui W) (fun va ui W=>l0.length - (intOf ui).toNat)
 case atStart=>exact ⟨0,Nat.zero_le _,rfl,HBX.out,HB2.out.trans ((ab_ (Below.refl _ _) _).mono HB2.out.size),fun j h1 h2=>by omega⟩
 case round=>
  obtain ⟨i,hi,rfl,hO,hb,hlen⟩:=hrel
  have HB:=Sd.m hb
  have HLN:=Sd.m hlen
  obtain ⟨Aa,ca,rfl⟩:=hO.slice
  have HO:=Sd.m hO
  clear hb hlen hO HB2 HBX HR1
  by_cases hlt:i<l0.length
  ·have b3:decide ((i:Int)<(l0.length:Int))=true:=dt__ (by omega)
   have b4:decide (i<l0.length)=true:=dt__ hlt
   obtain ⟨ad,As,cs,rfl,k0,k1,k2⟩:=at_L3 (Kd.C_below HR.out HB.out) (i:Int) (by omega) (by omega)
   rw [Int.toNat_natCast] at k0
   have hq0:0<=(i:Int):=by omega
   have hq1:(i:Int)<(l0.length:Int):=by omega
   obtain ⟨s,hs⟩: ∃ s,s=fk_ l0 i:=⟨_,rfl⟩
   rw [←hs] at k0 k1 k2
   have hel:l0[i]? =some s:=by
    rw [hs]
    unfold fk_
    rw [Int.toNat_natCast,List.getD_eq_getElem?_getD,List.getElem?_eq_getElem hlt]
    rfl
   have HE:=Sd.m hel
   have HK1:=Sd.m k1
   have HK2:=Sd.m k2
   clear hel hs k1 k2
   go_wp2_with fail
   generalize wr=Wo at*
   have HL4:=Sd.m (HA.out i hi)
   obtain ⟨L,hL⟩: ∃ L,L=ofAt l0 i:=⟨_,rfl⟩
   rw [←hL] at HO HL4 ⊢
   clear k0
   have hL2:L.length<=200:=by
    rw [hL]
    rcases Nat.eq_zero_or_pos i with e | e
    ·rw [e];exact Nat.le_of_lt (show 1<200 by decide)
    ·exact HLN.out i e (Nat.le_refl _)
   have HL2:=Sd.m hL2
   have HEL:=Sd.m hL
   clear hL hL2
   go_loopw [8,31] (fun vp uk W=>OfM Wo s L vp uk W) (fun vp uk W=>L.length - (intOf uk).toNat)
   case atStart=>exact ⟨0,Nat.zero_le _,rfl,OwnRows.nil _ _,Below.refl _ _⟩
   case round=>
    obtain ⟨k,hk,rfl,hP,hbk⟩:=hrel
    have HBK:=Sd.m hbk
    obtain ⟨Ap,cp,rfl⟩:=hP.slice
    have HP:=Sd.m hP
    clear hbk hP
    by_cases hlk:k<L.length
    ·have b5:decide ((k:Int)<(L.length:Int))=true:=dt__ (by omega)
     have b6:decide (k<L.length)=true:=dt__ hlk
     obtain ⟨ad2,Ax,cx,rfl,m0,m1,m2⟩:=at_L3 (Kd.C_below (OwnRows.reads HO.out).2.2 HBK.out) (k:Int) (by omega) (by omega)
     rw [Int.toNat_natCast] at m0
     have hq2:0<=(k:Int):=by omega
     have hq3:(k:Int)<(L.length:Int):=by omega
     obtain ⟨x,hx⟩: ∃ x,x=fk_ L k:=⟨_,rfl⟩
     rw [←hx] at m0 m1 m2
     have hel:L[k]? =some x:=by
      rw [hx]
      unfold fk_
      rw [Int.toNat_natCast,List.getD_eq_getElem?_getD,List.getElem?_eq_getElem hlk]
      rfl
     have HX:=Sd.m hel
     have HX4:Sd (x.length<=400):=⟨HL4.out x (List.mem_of_getElem? hel)⟩
     have HM1:=Sd.m m1
     have HM2:=Sd.m m2
     clear hel hx m1 m2
     go_wp2_with fail
     generalize wr=Wk at*
     refine (iu_ Ax cx x As cs s true Wk HM2.out HM1.out (Kd.C_below HK2.out HBK.out) HK1.out HX4.out).mono ?_
     rintro e W3 ⟨v3,rfl,hR,hb⟩
     obtain ⟨A3,a3,rfl⟩:=Kd.R_slice hR
     have HM2':=Sd.m (Kd.C_below HM2.out hb)
     have HB3:=Sd.m (HBK.out.trans (hb.mono HBK.out.size))
     have HR3:=Sd.m (Kd.R_lower hR HBK.out.size)
     have HP3:=Sd.m (HP.out.below hb)
     clear hR hb HM2 HP HBK m0
     go_wp2_with fail
     refine (iu_ Ax cx x As cs s false W3 HM2'.out HM1.out (Kd.C_below HK2.out HB3.out) HK1.out HX4.out).mono ?_
     rintro e W4 ⟨v4,rfl,hR,hb⟩
     obtain ⟨A4,a4,rfl⟩:=Kd.R_slice hR
     have HB4:=Sd.m (HB3.out.trans (hb.mono HB3.out.size))
     have HR4:=Sd.m (Kd.R_lower hR HB3.out.size)
     have HR3':=Sd.m (Kd.R_below HR3.out hb)
     have HP4:=Sd.m (HP3.out.below hb)
     clear hR hb HM2' HP3 HB3 HR3
     go_wp2_with fail
     have hbox:(W4.alloc (Obj.cells #[Value.slice A3 (partF x s true).length a3,Value.slice A4 (partF x s false).length a4] 37)).heap[W4.heap.size]? =some (Obj.cells #[Value.slice A3 (partF x s true).length a3,Value.slice A4 (partF x s false).length a4] 37 (0,0)):=ah_ _ _
     have hb5:Below W4.heap.size W4 (W4.alloc (Obj.cells #[Value.slice A3 (partF x s true).length a3,Value.slice A4 (partF x s false).length a4] 37)):=ab_ (Below.refl _ _) _
     generalize W4.alloc (Obj.cells #[Value.slice A3 (partF x s true).length a3,Value.slice A4 (partF x s false).length a4] 37)=W5 at hbox hb5 ⊢
     have hne5:(Value.slice Ap (ofStep s (L.take k)).length cp).ownBlock≠some W4.heap.size:=fun e=>by have:=(OwnRows.lt HP4.out _ e).2;omega
     obtain ⟨p1,hp1⟩: ∃ p,p=partF x s true:=⟨_,rfl⟩
     obtain ⟨p2,hp2⟩: ∃ p,p=partF x s false:=⟨_,rfl⟩
     obtain ⟨acc,hacc⟩: ∃ p,p=ofStep s (L.take k):=⟨_,rfl⟩
     obtain ⟨gb,hgb⟩: ∃ p,p=W4.heap.size:=⟨_,rfl⟩
     have B1:=Sd.m (OwnRows.below HP4.out hb5)
     have B2:=Sd.m (HB4.out.trans (hb5.mono HB4.out.size))
     have B3:=Sd.m (Kd.R_below HR3'.out hb5)
     have B4:=Sd.m (Kd.R_below HR4.out hb5)
     rw [←hp1] at hbox B3 ⊢
     rw [←hp2] at hbox B4 ⊢
     rw [←hacc] at B1 hne5 ⊢
     rw [←hgb] at hbox hne5 ⊢
     have B5:=Sd.m hbox
     have B6:=Sd.m hne5
     have P1:=Sd.m hp1
     have P2:=Sd.m hp2
     have ACC:=Sd.m hacc
     have hal:acc.length<=2*L.length:=by rw [hacc];exact Nat.le_trans (step_len _ _) (by rw [List.length_take];omega)
     have HAL:=Sd.m hal
     clear hbox hne5 hp1 hp2 hacc hgb hb5 HP4 HB4 HR4 HR3' hal
     go_loopw [8,43] (fun vp ut W=>OfI Wo gb (.slice A3 p1.length a3) (.slice A4 p2.length a4) p1 p2 acc vp ut W) (fun vp ut W=>2 - (intOf ut).toNat)
     case atStart=>exact ⟨0,by omega,rfl,(by rw [List.take_zero,List.filter_nil,List.append_nil];exact B1.out),B2.out,B6.out,B5.out,B3.out,B4.out⟩
     case round=>
      obtain ⟨t,ht,rfl,hP,hbi,hnei,hgbi,hv1,hv2⟩:=hrel
      obtain ⟨xs,hxs⟩: ∃ xs,xs=acc ++ ([p1,p2].take t).filter fun p=>decide (0<p.length):=⟨_,rfl⟩
      rw [←hxs] at hP
      have hbnd:xs.length<=402:=by
       rw [hxs,List.length_append]
       have:=List.length_filter_le (fun p:List S74=>decide (0<p.length)) ([p1,p2].take t)
       rw [List.length_take] at this
       have:=HAL.out
       have:=HL2.out
       simp only [List.length_cons,List.length_nil] at*
       omega
      have HBND:=Sd.m hbnd
      have HXS:=Sd.m hxs
      obtain ⟨Aq,cq,rfl⟩:=hP.slice
      obtain ⟨hdrs,how,hrw⟩:=hP
      have HOW:=Sd.m how
      have HRW:=Sd.m hrw
      have HBI:=Sd.m hbi
      have HNE:=Sd.m hnei
      have HGB:=Sd.m hgbi
      have HV1:=Sd.m hv1
      have HV2:=Sd.m hv2
      clear hbnd hxs how hrw hbi hnei hgbi hv1 hv2 B1 B2 B3 B4 B5 B6
      obtain ⟨i0,hi0,hz0,hz1,hz2⟩:=info_parts info37'
      rcases (show t=0∨t=1∨t=2 by omega) with rfl | rfl | rfl
      ·have c0:wr.cell? ⟨gb,0,none⟩=some (.slice A3 p1.length a3):=(af_ HGB.out 0).trans rfl
       by_cases hpz:0<p1.length
       ·have d1:decide (0<(p1.length:Int))=true:=dt__ (by omega)
        have d2:decide (0<p1.length)=true:=dt__ hpz
        have d3:0<(p1.length:Int):=by omega
        go_wp2_with ((with_reducible refine bo_ (b:=.append) (xs:=#[.tmp 50,.tmp 52]) rfl ?_);at_builtin;refine wpList_append_own_at _ rfl (.tmp 50) (.tmp 52) 30 rfl Wo.heap.size 37 i0 (.slice none 0 0) 1 24 Tryz.underlying30 hi0 hz0 hz1 hz2 rfl (by decide) _ _ _ rfl (HOW.out.alloc _) ⟨wr.heap.size,0,none⟩ 1 1 [.slice A3 p1.length a3] rfl rfl (cell_one_new _ _ _) (by simp [Value.oneCell']) (by have:=HBND.out;unfold maxLen;omega) (by have:=HBND.out;omega) (by have:=HBI.out.size;simp;omega) ?_;intro v' w1 hown' hgrow _ hat;obtain ⟨e1,e2,e3,e4,e5,e6⟩:=inner_app HOW.out HRW.out HBI.out HNE.out HGB.out HV1.out HV2.out HV1.out hown' hgrow hat;obtain ⟨g',cap',rfl⟩:=ownsRow_succ hown';have E1:=Sd.m e1;have E2:=Sd.m e2;have E3:=Sd.m e3;have E4:=Sd.m e4;have E5:=Sd.m e5;have E6:=Sd.m e6;clear e1 e2 e3 e4 e5 e6 hown' hgrow hat)
        go_roundw
        case rel=>
         have e:(acc ++ ([p1,p2].take 1).filter (fun p=>decide (0<p.length)))=xs ++ [p1]:=by
          refine (ne_add (t:=0) (p:=p1) rfl HXS.out).trans ?_
          rw [if_pos hpz]
         exact ⟨1,by omega,by go_num,by rw [e];exact E1.out,E2.out,E3.out,E4.out,E5.out,E6.out⟩
        case measure=>simp [intOf]
       ·have d1:decide (0<(p1.length:Int))=false:=df__ (by omega)
        have d2:decide (0<p1.length)=false:=df__ hpz
        have d3:¬ 0<(p1.length:Int):=by omega
        go_wp2_with fail
        go_roundw
        case rel=>
         have e:(acc ++ ([p1,p2].take 1).filter (fun p=>decide (0<p.length)))=xs:=by
          refine (ne_add (t:=0) (p:=p1) rfl HXS.out).trans ?_
          rw [if_neg hpz,List.append_nil]
         exact ⟨1,by omega,by go_num,by rw [e];exact ⟨hdrs,HOW.out,HRW.out⟩,HBI.out,HNE.out,HGB.out,HV1.out,HV2.out⟩
        case measure=>simp [intOf]
      ·have c0:wr.cell? ⟨gb,1,none⟩=some (.slice A4 p2.length a4):=(af_ HGB.out 1).trans rfl
       by_cases hpz:0<p2.length
       ·have d1:decide (0<(p2.length:Int))=true:=dt__ (by omega)
        have d2:decide (0<p2.length)=true:=dt__ hpz
        have d3:0<(p2.length:Int):=by omega
        go_wp2_with ((with_reducible refine bo_ (b:=.append) (xs:=#[.tmp 50,.tmp 52]) rfl ?_);at_builtin;refine wpList_append_own_at _ rfl (.tmp 50) (.tmp 52) 30 rfl Wo.heap.size 37 i0 (.slice none 0 0) 1 24 Tryz.underlying30 hi0 hz0 hz1 hz2 rfl (by decide) _ _ _ rfl (HOW.out.alloc _) ⟨wr.heap.size,0,none⟩ 1 1 [.slice A4 p2.length a4] rfl rfl (cell_one_new _ _ _) (by simp [Value.oneCell']) (by have:=HBND.out;unfold maxLen;omega) (by have:=HBND.out;omega) (by have:=HBI.out.size;simp;omega) ?_;intro v' w1 hown' hgrow _ hat;obtain ⟨e1,e2,e3,e4,e5,e6⟩:=inner_app HOW.out HRW.out HBI.out HNE.out HGB.out HV1.out HV2.out HV2.out hown' hgrow hat;obtain ⟨g',cap',rfl⟩:=ownsRow_succ hown';have E1:=Sd.m e1;have E2:=Sd.m e2;have E3:=Sd.m e3;have E4:=Sd.m e4;have E5:=Sd.m e5;have E6:=Sd.m e6;clear e1 e2 e3 e4 e5 e6 hown' hgrow hat)
        go_roundw
        case rel=>
         have e:(acc ++ ([p1,p2].take 2).filter (fun p=>decide (0<p.length)))=xs ++ [p2]:=by
          refine (ne_add (t:=1) (p:=p2) rfl HXS.out).trans ?_
          rw [if_pos hpz]
         exact ⟨2,by omega,by go_num,by rw [e];exact E1.out,E2.out,E3.out,E4.out,E5.out,E6.out⟩
        case measure=>simp [intOf]
       ·have d1:decide (0<(p2.length:Int))=false:=df__ (by omega)
        have d2:decide (0<p2.length)=false:=df__ hpz
        have d3:¬ 0<(p2.length:Int):=by omega
        go_wp2_with fail
        go_roundw
        case rel=>
         have e:(acc ++ ([p1,p2].take 2).filter (fun p=>decide (0<p.length)))=xs:=by
          refine (ne_add (t:=1) (p:=p2) rfl HXS.out).trans ?_
          rw [if_neg hpz,List.append_nil]
         exact ⟨2,by omega,by go_num,by rw [e];exact ⟨hdrs,HOW.out,HRW.out⟩,HBI.out,HNE.out,HGB.out,HV1.out,HV2.out⟩
        case measure=>simp [intOf]
      ·have HOWf:Sd (OwnRows wr Wo.heap.size (.slice Aq xs.length cq) xs):=⟨⟨hdrs,HOW.out,HRW.out⟩⟩
       have hk200:=HL2.out
       have w2:IntKind.i64.wrap ((k:Int)+1)=(k:Int)+1:=IntWalk.i64_in _ (by omega)
       have w3:wrap64 ((k:Int)+1)=(k:Int)+1:=w64 (by omega) (by omega)
       go_wp2_with fail
       go_roundw
       case rel=>
        have e:ofStep s (L.take (k+1))=xs:=by
         rw [List.take_add_one,HX.out,HXS.out,ACC.out,P1.out,P2.out]
         unfold ofStep
         rw [List.flatMap_append]
         simp
        exact ⟨k+1,hlk,by go_num,by rw [e];exact HOWf.out,HBI.out⟩
       case measure=>simp [intOf];omega
    ·have b5:decide ((k:Int)<(L.length:Int))=false:=df__ (by omega)
     have b6:decide (k<L.length)=false:=df__ hlk
     have hk200:=HL2.out
     have hi60:i<61:=by omega
     have w2:IntKind.i64.wrap ((i:Int)+1)=(i:Int)+1:=IntWalk.i64_in _ (by omega)
     have w3:wrap64 ((i:Int)+1)=(i:Int)+1:=w64 (by omega) (by omega)
     have hPe:ofStep s (L.take k)=ofAt l0 (i+1):=by
      rw [List.take_of_length_le (by omega),ofAt_succ HE.out,HEL.out]
     have HP2:=Sd.m (HP.out.lower HB.out.size)
     have HB9:=Sd.m (HB.out.trans (HBK.out.mono HB.out.size))
     rw [hPe] at HP2 ⊢
     have HPE:=Sd.m hPe
     clear HP hPe
     by_cases hbig:200<(ofAt l0 (i+1)).length
     ·have d1:decide (200<((ofAt l0 (i+1)).length:Int))=true:=dt__ (by omega)
      have d2:decide (200<(ofAt l0 (i+1)).length)=true:=dt__ hbig
      have d3:(200:Int)<((ofAt l0 (i+1)).length:Int):=by omega
      go_wp2_with fail
      go_ret2
      exact ⟨Or.inl ⟨⟨i+1,by omega,by omega,hbig⟩,rfl⟩,HB9.out⟩
     ·have d1:decide (200<((ofAt l0 (i+1)).length:Int))=false:=df__ (by omega)
      have d2:decide (200<(ofAt l0 (i+1)).length)=false:=df__ hbig
      have d3:¬ (200:Int)<((ofAt l0 (i+1)).length:Int):=by omega
      go_wp2_with fail
      go_roundw
      case rel=>
       refine ⟨i+1,hlt,by go_num,HP2.out,HB9.out,fun j h1 h2=>?_⟩
       rcases Nat.lt_or_ge i j with q | q
       ·obtain rfl:j=i+1:=by omega
        omega
       ·exact HLN.out j h1 q
      case measure=>simp [intOf];omega
  ·have b3:decide ((i:Int)<(l0.length:Int))=false:=df__ (by omega)
   have b4:decide (i<l0.length)=false:=df__ hlt
   obtain rfl:i=l0.length:=by omega
   obtain ⟨L,hL⟩: ∃ L,L=ofAt l0 l0.length:=⟨_,rfl⟩
   rw [←hL] at HO HP0 HN0 ⊢
   have hlong:longF L=false:=by
    unfold longF
    rw [List.any_eq_false]
    intro a ha
    have:=HA.out l0.length (Nat.le_refl _) a (hL ▸ ha)
    simp
    omega
   have HLG:=Sd.m hlong
   have hlz:L.length<4611686018427387904:=by
    have:=(OwnRows.reads HO.out).2.2.2.1
    have h0:=HLN.out l0.length
    rw [←hL] at h0
    rcases Nat.eq_zero_or_pos l0.length with q | q
    ·rw [hL,q];exact Nat.lt_of_le_of_lt (show (ofAt l0 0).length<=1 from Nat.le_refl _) (by decide)
    ·have:=h0 q (Nat.le_refl _);omega
   have HLZ:=Sd.m hlz
   have HEL:=Sd.m hL
   clear hlong hL hlz
   go_wp2_with fail
   generalize wr=Wo at*
   refine (fp_ Aa ca L Wo (OwnRows.reads HO.out).2.2 (OwnRows.reads HO.out).2.1 false HLG.out).mono ?_
   rintro e W3 ⟨rfl,hb⟩
   have HO3:=Sd.m (HO.out.below hb)
   have HB3:=Sd.m (HB.out.trans (hb.mono HB.out.size))
   clear hb
   go_wp2_with fail
   refine (sort_rows HO3.out HB3.out HN0.out HP0.out HLZ.out).mono ?_
   rintro e W4 ⟨rfl,ys,hp,hsrt,hoy,hb⟩
   have Y1:=Sd.m hp
   have Y2:=Sd.m hsrt
   have Y3:=Sd.m hoy
   have Y4:=Sd.m hb
   clear hp hsrt hoy hb
   go_wp2_with fail
   go_ret2
   exact ⟨Or.inr ⟨HLN.out,_,ys,rfl,Y3.out,HEL.out ▸ Y1.out,Y2.out⟩,Y4.out⟩
def OfBad (sets:List (List S74)):Prop:=60<sets.length∨longF sets=true∨ ∃ j,0<j∧j<=sets.length∧200<(ofAt sets j).length
theorem perm_map {α β:Type}{f:α->β}: ∀ {T:List α} {ys:List β},ys.Perm (T.map f)-> ∃ U:List α,U.Perm T∧ys=U.map f:=by
 have go: ∀ {zs ys:List β},ys.Perm zs-> ∀ T:List α,zs=T.map f-> ∃ U:List α,U.Perm T∧ys=U.map f:=by
  intro zs ys h
  induction h with
  | nil=>
   intro T e
   have hT:T=[]:=List.map_eq_nil_iff.1 e.symm
   subst hT
   exact ⟨[],List.Perm.refl _,rfl⟩
  | cons x h ih=>
   intro T e
   cases T with
   | nil=>cases e
   | cons t T=>
    injection e with e1 e2
    obtain ⟨U,hU,eU⟩:=ih T e2
    exact ⟨t :: U,hU.cons t,by rw [e1,eU];rfl⟩
  | swap x y l=>
   intro T e
   match T,e with
   | t :: u :: T,e=>
    injection e with e1 e2
    injection e2 with e2 e3
    exact ⟨u :: t :: T,List.Perm.swap _ _ _,by rw [e1,e2,e3];rfl⟩
  | trans h1 h2 ih1 ih2=>
   intro T e
   obtain ⟨U,hU,eU⟩:=ih2 T e
   obtain ⟨V,hV,eV⟩:=ih1 U eU
   exact ⟨V,hV.trans hU,eV⟩
 intro T ys h
 exact go h T rfl
def Sorted (ys:List (List S74)):Prop:=ys.Pairwise fun x y=>lowR x<=lowR y
theorem of_calls (A0:Option Addr)(c0:Nat)(l0:List (List S74))(w:World)(hr0:Kd.C (Kd.slice 74 k74) w A0 l0.length l0)(hc0:l0.length<=c0)(E:List Int)(hE: ∀ c,0<c->c<=1114111->sigF l0 c≠sigF l0 (c - 1)->c∈E)(hl:E.length<=798):
  Calls Tryz.prog 43 #[.slice A0 l0.length c0] w fun e w'=>((OfBad l0∧e=.returned (.tuple #[.slice none 0 0,.int .i64 9]))∨(¬ OfBad l0∧ ∃ v ys,e=.returned (.tuple #[v,.int .i64 0])∧OwnRows w' w.heap.size v ys∧AtomsOf l0 ys∧Sorted ys))∧Below w.heap.size w w':=by
 by_cases h60:60<l0.length
 ·exact (of_many A0 c0 l0 w h60).mono fun e w' ⟨he,hb⟩=>⟨Or.inl ⟨Or.inl h60,he⟩,hb⟩
 cases hlong:longF l0 with
 | true=>exact (of_long A0 c0 l0 w hr0 hc0 h60 hlong).mono fun e w' ⟨he,hb⟩=>⟨Or.inl ⟨Or.inr (Or.inl hlong),he⟩,hb⟩
 | false=>
  have at_:=ih_ E hE hl
  have hn:=(at_ l0.length (Nat.le_refl _)).1
  rw [List.take_length] at hn
  have hn':=hn
  obtain ⟨T,hT,e,hc,hp⟩:=hn'
  have hP0: ∀ a∈ofAt l0 l0.length,0<a.length:=by
   intro a ha
   rw [e] at ha
   obtain ⟨t,ht,rfl⟩:=List.mem_map.1 ha
   exact hp t ht
  have hN0:0<(ofAt l0 l0.length).length:=by
   rw [e,List.length_map]
   exact List.length_pos_of_mem (hc 0 (Int.le_refl _) (by decide))
  refine (of_main A0 c0 l0 w hr0 hc0 h60 hlong (fun i hi=>(at_ i hi).2) hP0 hN0).mono ?_
  rintro e' w' ⟨h,hb⟩
  refine ⟨?_,hb⟩
  rcases h with ⟨⟨j,h1,h2,h3⟩,he⟩ | ⟨hj,v,ys,he,ho,hpm,hs⟩
  ·exact Or.inl ⟨Or.inr (Or.inr ⟨j,h1,h2,h3⟩),he⟩
  ·refine Or.inr ⟨fun hb=>?_,v,ys,he,ho,?_,hs⟩
   ·rcases hb with h | h | ⟨j,h1,h2,h3⟩
    ·exact h60 h
    ·rw [hlong] at h;cases h
    ·have:=hj j h1 h2
     omega
   ·rw [e] at hpm
    obtain ⟨U,hU,eU⟩: ∃ U:List (List Bool),U.Perm T∧ys=U.map (atF l0):=perm_map hpm
    refine ⟨U,hU.nodup_iff.2 hT,eU,fun c h0 h1=>hU.mem_iff.2 (hc c h0 h1),fun t ht=>hp t (hU.mem_iff.1 ht)⟩
end L
namespace D
open A L B
attribute [local go_sem] ct_ cq_ cz_ cy_ ch_ cg_ cr_ cp_
theorem info3:(Tryz.prog.info? 3).map (fun i=>(i.zero,i.size,i.bytes))=some (some (.int .i64 0),1,8):=by kernel_rfl
def kp_ (xs:List (List S74))(i:Int):(List S74):=xs.getD i.toNat ([]:List S74)
theorem at_L2 {w:World}{A:Option Addr}{n:Nat}{xs:List (List S74)}(h:Kd.C (Kd.slice 74 k74) w A n xs)(i:Int)(h0:0<=i)(h1:i<n): ∃ ad A0 c0,A=some ad∧w.cell? (ad.add i.toNat)=some (.slice A0 (kp_ xs i).length c0)∧(kp_ xs i).length<=c0∧k74.C w A0 (kp_ xs i).length (kp_ xs i):=by
 obtain ⟨ad,c,e,_,hK,hc0⟩:=Kd.C_get h ([]:List S74) i h0 h1
 have hc: ∀ j u,c[j]? =some u->w.cell? (ad.add (i.toNat*1+j))=some u:=hc0
 obtain ⟨A0,c0,rfl,l0,g0⟩:=hK
 exact ⟨ad,A0,c0,e,by have hq:=hc 0 _ rfl;rwa [Nat.mul_one,Nat.add_zero] at hq,l0,g0⟩
def bv_.l0:Nat->List Int->List (List (S74))->Int->Int->Option (List Int)
 | 0,_,_,_,_=>none
 | k+1,x3,x6,x7,x8=>if x8<x7 then (if 0<=x8 then (if x8<(x6.length:Int) then ((cn_.f k (kp_ x6 x8)).bind fun t102=>(if x3.length<17592186044416 then (bv_.l0 k (x3 ++ [t102]) x6 x7 (wrap64 (x8+1))) else (none))) else (none)) else (none)) else (some x3)
def bv_.f (k:Nat)(l0:List (List (S74))):Option (List Int):=bv_.l0 k ([]:List Int) l0 (l0.length:Int) 0
theorem bv_.calls (k:Nat)(A0:Option Addr)(c0:Nat)(l0:List (List (S74)))(r:List Int)(w:World)(hr0:Kd.C (Kd.slice 74 k74) w A0 l0.length l0)(hc0:l0.length<=c0)(h:bv_.f k l0=some r):
  Calls Tryz.prog 68 #[.slice A0 l0.length c0] w fun e w'=> ∃ v0_:Value,e=.returned (v0_)∧Kd.R (Kd.int .i64) 3 w' w.heap.size (fun _=>True) v0_ r∧Below w.heap.size w w':=by
 have HR0:=Sd.m hr0
 have HC0:=Sd.m hc0
 clear hr0 hc0
 have HB:=Sd.m (Below.refl w.heap.size w)
 have H:(bv_.l0 k ([]:List Int) l0 (l0.length:Int) 0)=some r:=h
 clear h
 have H':=Sd.m H
 clear H
 go_enter Tryz.func68,Tryz.ntmps68
 go_wp2
 go_loopg [3,8] k (fun kq v3 v8 w'=> ∃ (x3_1:List Int) (x8_1:Int),v8=.int .i64 x8_1∧Sd (bv_.l0 kq x3_1 l0 (l0.length:Int) x8_1=some r)∧Sd (kq<=k)∧Sd (Kd.R (Kd.int .i64) 3 w' w.heap.size (fun _=>True) v3 x3_1)∧Sd (Below w.heap.size w w'))
 case atStart=>exact ⟨(([]:List Int)),(0),ri_,H',⟨Nat.le_refl _⟩,⟨by first | exact Kd.R_nil _ _ _ _ _ | exact Kd.N_nil _ _ _ _ _ | exact Kd.V_nil _ _ _ _ _ | exact Kd.Q_nil _ _ _ _ _ | exact Kd.S_nil _ _ _ _ _⟩,⟨rb_⟩⟩
 case round=>
  clear H'
  obtain ⟨x3_1,x8_1,rfl,HA,HK1,HO_3,HB⟩:=hrel
  cases gk with
  | zero=>exact absurd HA.out (by simp [bv_.l0])
  | succ k1=>
   have H:=HA.out
   clear HA
   simp only [bv_.l0] at H
   by_cases c2:x8_1<(l0.length:Int)
   ·rw [if_pos c2] at H
    have c2b0:=dt__ c2
    clear c2
    by_cases c3:0<=x8_1
    ·rw [if_pos c3] at H
     have c3b0:=dt__ c3
     clear c3
     by_cases c4:x8_1<(l0.length:Int)
     ·rw [if_pos c4] at H
      have c4b0:=dt__ c4
      clear c4
      replace H:=Option.bind_eq_some_iff.mp H
      obtain ⟨t102,A50,H⟩:=H
      replace H:(if x3_1.length<17592186044416 then (bv_.l0 k1 (x3_1 ++ [t102]) l0 (l0.length:Int) (wrap64 (x8_1+1))) else (none))=some r:=H
      have A5:=Sd.m A50
      clear A50
      by_cases c6:x3_1.length<17592186044416
      ·rw [if_pos c6] at H
       have LMc6:=Sd.m c6
       clear c6
       obtain ⟨y103,hy103⟩: ∃ y_:List Int,y_=(x3_1 ++ [t102]):=⟨_,rfl⟩
       replace H:(bv_.l0 k1 y103 l0 (l0.length:Int) (wrap64 (x8_1+1)))=some r:=by first | (rw [hy103];with_reducible exact H) | (have H2_:=(Option.bind_some _ _).symm.trans H;rw [hy103];with_reducible exact H2_) | (have H2_:=(Option.bind_some _ _).symm.trans H;with_reducible exact H2_) | with_reducible exact H | (rw [hy103];exact H) | exact H
       have Ny103:=Sd.m hy103
       clear hy103
       have H':=Sd.m H
       clear H
       have p101:0<=(x8_1:Int):=od_
       have q101:x8_1<(l0.length:Int):=od_
       obtain ⟨ad101,A101_0,c101_0,e101,hx101_0,hl101_0,hi101_0⟩:=at_L2 HR0.out x8_1 p101 q101
       cases e101
       replace hx101_0:=(HB.out.cell (bl__ w _ hx101_0)).trans hx101_0
       have HR101_0:=Sd.m hi101_0
       have HC101_0:=Sd.m hl101_0
       clear hi101_0 hl101_0
       replace p101:=eq_true p101
       replace q101:=eq_true q101
       go_wp2_with (first | ((with_reducible refine cj_ (f:=104) rfl ?_);refine goesL_ (some 14) rfl rfl Tryz.func104 (by kernel_rfl) rfl #[.slice A101_0 (kp_ l0 x8_1).length c101_0] rfl gl_ ?_;(with_reducible refine (cn_.calls k1 _ _ (kp_ l0 x8_1) t102 _ ?side1 ?side2 A5.out).mono ?_);(case side1=>exact cs_ (Kd.C_below HR101_0.out HB.out));(case side2=>exact HC101_0.out);rintro e w7 ⟨rfl,hb⟩;refine ⟨_,rfl,?_⟩;have n0_:=Sd.m (Kd.R_below (rr_ HO_3.out) hb);have n1_:=Sd.m (ay_ rb_ hb);clear HO_3;clear HB;have HO_3:=n0_;have HB:=n1_;clear n0_ n1_;(try clear hb);(try clear hb2);(try clear hk);(try clear hi)) | ((with_reducible refine bo_ (b:=.append) (xs:=#[.tmp 12,.tmp 15]) rfl ?_);at_builtin;refine Kd.R_append (Kd.int .i64) (w0:=w) w.heap.size rfl (.tmp 12) (.tmp 15) 42 3 (.int .i64 0) 8 rfl Tryz.underlying42 info3 rfl (by decide) (by omega) u3 x3_1 t102 [.int .i64 t102] (fun _=>True) (fun _=>False) rfl rfl ?aP (fun _ hk=>hk.elim) ?aF ?aO ?aB ?aS ?aL ?_;(case aP=>exact rfl);(case aB=>exact rb_);(case aF=>exact (fun _ _=>trivial));(case aO=>exact (rr_ HO_3.out));(case aS=>exact (ap_ rb_));(case aL=>have:=LMc6.out;omega);intro v104 w8 ho hb hg hat;rw [←Ny103.out] at ho;have n0_:=Sd.m (hb);have n1_:=Sd.m (ho);clear HB;clear HO_3;have HB:=n0_;have HO105:=n1_;clear n0_ n1_;clear ho hb hg hat))
       go_roundg k1
       case measure=>have:=HK1.out;omega
       case rel=>exact ⟨(y103),(wrap64 (x8_1+1)),ri_,H',⟨by have:=HK1.out;omega⟩,⟨rr_ HO105.out⟩,⟨rb_⟩⟩
      ·rw [if_neg c6] at H
       exact absurd H (by simp)
     ·rw [if_neg c4] at H
      exact absurd H (by simp)
    ·rw [if_neg c3] at H
     exact absurd H (by simp)
   ·rw [if_neg c2] at H
    have c2b0:=df__ c2
    clear c2
    obtain rfl:=Option.some.inj H
    go_wp2
    go_ret
    exact ⟨_,re_,rr_ HO_3.out,rb_⟩
def bn_.l0:Nat->List (S74)->List Int->List Int->Int->Int->Option (List Int)
 | 0,_,_,_,_,_=>none
 | k+1,x1,x5,x9,x10,x11=>if x11<x10 then (if 0<=x11 then (if x11<(x9.length:Int) then ((gc_.f x1 (rd x9 x11)).bind fun t110=>(if t110=true then (if x5.length<17592186044416 then (bn_.l0 k x1 (x5 ++ [x11]) x9 x10 (wrap64 (x11+1))) else (none)) else (bn_.l0 k x1 x5 x9 x10 (wrap64 (x11+1))))) else (none)) else (none)) else (some x5)
def bn_.f (k:Nat)(l0:List (List (S74)))(l1:List (S74)):Option (List Int):=(bv_.f k l0).bind fun t106=>(bn_.l0 k l1 ([]:List Int) t106 (t106.length:Int) 0)
theorem bn_.calls (k:Nat)(A0:Option Addr)(c0:Nat)(l0:List (List (S74)))(A1:Option Addr)(c1:Nat)(l1:List (S74))(r:List Int)(w:World)(hr0:Kd.C (Kd.slice 74 k74) w A0 l0.length l0)(hc0:l0.length<=c0)(hr1:Kd.C k74 w A1 l1.length l1)(hc1:l1.length<=c1)(h:bn_.f k l0 l1=some r):
  Calls Tryz.prog 51 #[.slice A0 l0.length c0,.slice A1 l1.length c1] w fun e w'=> ∃ v0_:Value,e=.returned (v0_)∧Kd.R (Kd.int .i64) 3 w' w.heap.size (fun _=>True) v0_ r∧Below w.heap.size w w':=by
 have HR0:=Sd.m hr0
 have HC0:=Sd.m hc0
 clear hr0 hc0
 have HR1:=Sd.m hr1
 have HC1:=Sd.m hc1
 clear hr1 hc1
 have HB:=Sd.m (Below.refl w.heap.size w)
 have H:((bv_.f k l0).bind fun t106=>(bn_.l0 k l1 ([]:List Int) t106 (t106.length:Int) 0))=some r:=h
 clear h
 replace H:=Option.bind_eq_some_iff.mp H
 obtain ⟨t106,A30,H⟩:=H
 replace H:(bn_.l0 k l1 ([]:List Int) t106 (t106.length:Int) 0)=some r:=H
 have A3:=Sd.m A30
 clear A30
 have H':=Sd.m H
 clear H
 go_enter Tryz.func51,Tryz.ntmps51
 go_wp2_with (first | ((with_reducible refine cj_ (f:=68) rfl ?_);refine goesL_ (some 9) rfl rfl Tryz.func68 (by kernel_rfl) rfl #[.slice A0 l0.length c0] rfl gl_ ?_;(with_reducible refine (bv_.calls k _ _ l0 t106 _ ?side1 ?side2 A3.out).mono ?_);(case side1=>repeat (first | exact HR0.out | (with_reducible refine Kd.C_alloc ?_ _) | (with_reducible refine Kd.C_drewN ?_ _) | (with_reducible refine Kd.C_drew ?_)));(case side2=>exact HC0.out);rintro e w4 ⟨v107,rfl,ho0,hb⟩;refine ⟨_,rfl,?_⟩;have n0_:=Sd.m (Kd.R_lower ho0 (ap_ rb_));have n1_:=Sd.m (ay_ rb_ hb);clear HB;have HO108:=n0_;have HB:=n1_;clear n0_ n1_;(try clear hb);(try clear hb2);(try clear hk);(try clear hi);(try clear ho0);obtain ⟨Ao5,co5,eo5⟩:=Kd.R_slice HO108.out;subst eo5))
 go_loopg [5,11] k (fun kq v5 v11 w'=> ∃ (x5_1:List Int) (x11_1:Int),v11=.int .i64 x11_1∧Sd (bn_.l0 kq l1 x5_1 t106 (t106.length:Int) x11_1=some r)∧Sd (kq<=k)∧Sd (Kd.R (Kd.int .i64) 3 w' w.heap.size (fun k_=>some k_≠((.slice Ao5 t106.length co5):Value).ownBlock) v5 x5_1)∧Sd (Kd.R (Kd.int .i64) 3 w' w.heap.size (fun k_=>some k_≠(v5:Value).ownBlock) (.slice Ao5 t106.length co5) t106)∧Sd (Below w.heap.size w w'))
 case atStart=>exact ⟨(([]:List Int)),(0),ri_,H',⟨Nat.le_refl _⟩,⟨by first | exact Kd.R_nil _ _ _ _ _ | exact Kd.N_nil _ _ _ _ _ | exact Kd.V_nil _ _ _ _ _ | exact Kd.Q_nil _ _ _ _ _ | exact Kd.S_nil _ _ _ _ _⟩,⟨by (with_reducible repeat (first | apply Kd.R_alloc | apply Kd.R_drewN | apply Kd.R_drew));exact Kd.R_mono HO108.out (fun _ hk=>(by simp [Value.ownBlock]))⟩,⟨rb_⟩⟩
 case round=>
  clear H'
  obtain ⟨x5_1,x11_1,rfl,HA,HK1,HO_5,HO_9,HB⟩:=hrel
  cases gk with
  | zero=>exact absurd HA.out (by simp [bn_.l0])
  | succ k1=>
   have H:=HA.out
   clear HA
   simp only [bn_.l0] at H
   by_cases c6:x11_1<(t106.length:Int)
   ·rw [if_pos c6] at H
    have c6b0:=dt__ c6
    clear c6
    by_cases c7:0<=x11_1
    ·rw [if_pos c7] at H
     have c7b0:=dt__ c7
     clear c7
     by_cases c8:x11_1<(t106.length:Int)
     ·rw [if_pos c8] at H
      have c8b0:=dt__ c8
      clear c8
      replace H:=Option.bind_eq_some_iff.mp H
      obtain ⟨t110,A90,H⟩:=H
      replace H:(if t110=true then (if x5_1.length<17592186044416 then (bn_.l0 k1 l1 (x5_1 ++ [x11_1]) t106 (t106.length:Int) (wrap64 (x11_1+1))) else (none)) else (bn_.l0 k1 l1 x5_1 t106 (t106.length:Int) (wrap64 (x11_1+1))))=some r:=H
      have A9:=Sd.m A90
      clear A90
      by_cases c10:t110=true
      ·subst c10
       have H1:(if x5_1.length<17592186044416 then (bn_.l0 k1 l1 (x5_1 ++ [x11_1]) t106 (t106.length:Int) (wrap64 (x11_1+1))) else (none))=some r:=by rw [if_pos rfl] at H;exact H
       clear H
       have H:=H1
       clear H1
       by_cases c11:x5_1.length<17592186044416
       ·rw [if_pos c11] at H
        have LMc11:=Sd.m c11
        clear c11
        obtain ⟨y111,hy111⟩: ∃ y_:List Int,y_=(x5_1 ++ [x11_1]):=⟨_,rfl⟩
        replace H:(bn_.l0 k1 l1 y111 t106 (t106.length:Int) (wrap64 (x11_1+1)))=some r:=by first | (rw [hy111];with_reducible exact H) | (have H2_:=(Option.bind_some _ _).symm.trans H;rw [hy111];with_reducible exact H2_) | (have H2_:=(Option.bind_some _ _).symm.trans H;with_reducible exact H2_) | with_reducible exact H | (rw [hy111];exact H) | exact H
        have Ny111:=Sd.m hy111
        clear hy111
        have H':=Sd.m H
        clear H
        have p109:0<=(x11_1:Int):=od_
        have q109:x11_1<(t106.length:Int):=od_
        obtain ⟨ad109,e109,hx109_0⟩:=Kd.de_ (Kd.R_reads' HO_9.out).2.2 x11_1 p109 q109
        cases e109
        replace p109:=eq_true p109
        replace q109:=eq_true q109
        go_wp2_with (first | ((with_reducible refine cj_ (f:=83) rfl ?_);refine goesL_ (some 18) rfl rfl Tryz.func83 (by kernel_rfl) rfl #[.slice A1 l1.length c1,.int .i64 (rd t106 x11_1)] rfl gl_ ?_;(with_reducible refine (gc_.calls _ _ l1 (rd t106 x11_1) true _ ?side1 ?side2 A9.out).mono ?_);(case side1=>exact cs_ (Kd.C_below HR1.out HB.out));(case side2=>exact HC1.out);rintro e w12 ⟨rfl,hb⟩;refine ⟨_,rfl,?_⟩;have n0_:=Sd.m (Kd.R_below (rr_ HO_5.out) hb);have n1_:=Sd.m (Kd.R_below (rr_ HO_9.out) hb);have n2_:=Sd.m (ay_ rb_ hb);clear HO_5;clear HO_9;clear HB;have HO_5:=n0_;have HO_9:=n1_;have HB:=n2_;clear n0_ n1_ n2_;(try clear hb);(try clear hb2);(try clear hk);(try clear hi)) | ((with_reducible refine bo_ (b:=.append) (xs:=#[.tmp 19,.tmp 21]) rfl ?_);at_builtin;refine Kd.R_append (Kd.int .i64) (w0:=w) w.heap.size rfl (.tmp 19) (.tmp 21) 42 3 (.int .i64 0) 8 rfl Tryz.underlying42 info3 rfl (by decide) (by omega) u5 x5_1 x11_1 [.int .i64 x11_1] (fun k_=>some k_≠(.slice (some ad109) t106.length co5:Value).ownBlock) (fun _=>False) rfl rfl ?aP (fun _ hk=>hk.elim) ?aF ?aO ?aB ?aS ?aL ?_;(case aP=>exact rfl);(case aB=>exact rb_);(case aF=>exact (fun k_ hk=>Kd.fresh' (Kd.R_lt (rr_ HO_9.out)) k_ hk));(case aO=>exact (rr_ HO_5.out));(case aS=>exact (ap_ rb_));(case aL=>have:=LMc11.out;omega);intro v112 w13 ho hb hg hat;rw [←Ny111.out] at ho;have n0_:=Sd.m (Kd.R_after (ok:=(fun _=>True)) (by (with_reducible repeat (first | apply Kd.R_alloc | apply Kd.R_drewN | apply Kd.R_drew));exact Kd.R_mono HO_9.out (fun _ hk=>⟨trivial,hk⟩)) hg hat);have n1_:=Sd.m (hb);have n2_:=Sd.m (ho);clear HO_9;clear HB;clear HO_5;have HO_9:=n0_;have HB:=n1_;have HO113:=n2_;clear n0_ n1_ n2_;clear ho hb hg hat))
        go_roundg k1
        case measure=>have:=HK1.out;omega
        case rel=>exact ⟨(y111),(wrap64 (x11_1+1)),ri_,H',⟨by have:=HK1.out;omega⟩,⟨rr_ HO113.out⟩,⟨by (with_reducible repeat (first | apply Kd.R_alloc | apply Kd.R_drewN | apply Kd.R_drew));exact Kd.R_mono HO_9.out (fun _ hk=>hk.2)⟩,⟨rb_⟩⟩
       ·rw [if_neg c11] at H
        exact absurd H (by simp)
      ·replace c10:=Bool.eq_false_iff.mpr c10
       subst c10
       have H1:(bn_.l0 k1 l1 x5_1 t106 (t106.length:Int) (wrap64 (x11_1+1)))=some r:=by rw [if_neg (show ¬ (false=true) by decide)] at H;exact H
       clear H
       have H:=H1
       clear H1
       have H':=Sd.m H
       clear H
       have p109:0<=(x11_1:Int):=od_
       have q109:x11_1<(t106.length:Int):=od_
       obtain ⟨ad109,e109,hx109_0⟩:=Kd.de_ (Kd.R_reads' HO_9.out).2.2 x11_1 p109 q109
       cases e109
       replace p109:=eq_true p109
       replace q109:=eq_true q109
       go_wp2_with (first | ((with_reducible refine cj_ (f:=83) rfl ?_);refine goesL_ (some 18) rfl rfl Tryz.func83 (by kernel_rfl) rfl #[.slice A1 l1.length c1,.int .i64 (rd t106 x11_1)] rfl gl_ ?_;(with_reducible refine (gc_.calls _ _ l1 (rd t106 x11_1) false _ ?side1 ?side2 A9.out).mono ?_);(case side1=>exact cs_ (Kd.C_below HR1.out HB.out));(case side2=>exact HC1.out);rintro e w14 ⟨rfl,hb⟩;refine ⟨_,rfl,?_⟩;have n0_:=Sd.m (Kd.R_below (rr_ HO_5.out) hb);have n1_:=Sd.m (Kd.R_below (rr_ HO_9.out) hb);have n2_:=Sd.m (ay_ rb_ hb);clear HO_5;clear HO_9;clear HB;have HO_5:=n0_;have HO_9:=n1_;have HB:=n2_;clear n0_ n1_ n2_;(try clear hb);(try clear hb2);(try clear hk);(try clear hi)))
       go_roundg k1
       case measure=>have:=HK1.out;omega
       case rel=>exact ⟨(x5_1),(wrap64 (x11_1+1)),ri_,H',⟨by have:=HK1.out;omega⟩,⟨rr_ HO_5.out⟩,⟨rr_ HO_9.out⟩,⟨rb_⟩⟩
     ·rw [if_neg c8] at H
      exact absurd H (by simp)
    ·rw [if_neg c7] at H
     exact absurd H (by simp)
   ·rw [if_neg c6] at H
    have c6b0:=df__ c6
    clear c6
    obtain rfl:=Option.some.inj H
    go_wp2
    go_ret
    exact ⟨_,re_,by (with_reducible repeat (first | apply Kd.R_alloc | apply Kd.R_drewN | apply Kd.R_drew));exact Kd.R_mono HO_5.out (fun _ hk=>trivial),rb_⟩
end D
namespace P
open A L B D
theorem firsts_go (L:List (List S74))(hL:L.length<=100000): ∀ d i:Nat,i+d=L.length-> ∀ acc:List Int,acc.length<=i->Ev (fun k=>bv_.l0 k acc L (L.length:Int) (i:Int)) (acc ++ (L.drop i).map firstF):=by
 intro d
 induction d with
 | zero=>
  intro i h acc ha
  rw [List.drop_eq_nil_iff.2 (by omega),List.map_nil,List.append_nil]
  exact Ev.step (f:=fun _=>some acc) (fun k=>by rw [bv_.l0,if_neg (by omega)]) (Ev.now _)
 | succ d ih=>
  intro i h acc ha
  have hi:i<L.length:=by omega
  have hd:L.drop i=L[i] :: L.drop (i+1):=List.drop_eq_getElem_cons hi
  have hr:kp_ L (i:Int)=L[i]:=by
   unfold kp_
   rw [Int.toNat_natCast,List.getD_eq_getElem?_getD,List.getElem?_eq_getElem hi]
   rfl
  have:=ih (i+1) (by omega) (acc ++ [firstF L[i]]) (by rw [List.length_append,List.length_singleton];omega)
  rw [show ((i+1:Nat):Int)=(i:Int)+1 from by omega,List.append_assoc] at this
  rw [hd,List.map_cons]
  refine Ev.step (f:=fun k=>(cn_.f k L[i]).bind fun t=>if acc.length<17592186044416 then bv_.l0 k (acc ++ [t]) L (L.length:Int) ((i:Int)+1) else none) (fun k=>by rw [bv_.l0,if_pos (by omega),if_pos (by omega),if_pos (by omega),hr,w64 (n:=(i:Int)+1) (by omega) (by omega)]) ?_
  refine Ev.bind (span_first _) ?_
  exact ht_ (by omega) this
theorem firsts_f (L:List (List S74))(hL:L.length<=100000):Ev (fun k=>bv_.f k L) (L.map firstF):=by
 have:=firsts_go L hL L.length 0 (by omega) [] (Nat.le_refl _)
 rw [List.drop_zero,List.nil_append] at this
 exact this
def wiF (s:List S74):List Int->Nat->List Int
 | [],_=>[]
 | f :: fs,i=>if hasF s f=true then (i:Int) :: wiF s fs (i+1) else wiF s fs (i+1)
def withinF (L:List (List S74))(s:List S74):List Int:=wiF s (L.map firstF) 0
theorem within_go (s:List S74)(fs:List Int)(hL:fs.length<=100000): ∀ d i:Nat,i+d=fs.length-> ∀ acc:List Int,acc.length<=i->Ev (fun k=>bn_.l0 k s acc fs (fs.length:Int) (i:Int)) (acc ++ wiF s (fs.drop i) i):=by
 intro d
 induction d with
 | zero=>
  intro i h acc ha
  rw [List.drop_eq_nil_iff.2 (by omega)]
  show Ev _ (acc ++ [])
  rw [List.append_nil]
  exact Ev.step (f:=fun _=>some acc) (fun k=>by rw [bn_.l0,if_neg (by omega)]) (Ev.now _)
 | succ d ih=>
  intro i h acc ha
  have hi:i<fs.length:=by omega
  have hd:fs.drop i=fs[i] :: fs.drop (i+1):=List.drop_eq_getElem_cons hi
  have hr:rd fs (i:Int)=fs[i]:=by
   unfold rd
   rw [Int.toNat_natCast,List.getD_eq_getElem?_getD,List.getElem?_eq_getElem hi]
   rfl
  rw [hd,wiF]
  refine Ev.step (f:=fun k=>if hasF s fs[i]=true then (if acc.length<17592186044416 then bn_.l0 k s (acc ++ [(i:Int)]) fs (fs.length:Int) ((i:Int)+1) else none) else bn_.l0 k s acc fs (fs.length:Int) ((i:Int)+1)) (fun k=>by rw [bn_.l0,if_pos (by omega),if_pos (by omega),if_pos (by omega),hr,w64 (n:=(i:Int)+1) (by omega) (by omega)];rfl) ?_
  have e1:(i:Int)+1=((i+1:Nat):Int):=by omega
  by_cases q:hasF s fs[i]=true
  ·rw [if_pos q]
   refine ht_ q (ht_ (by omega) ?_)
   have:=ih (i+1) (by omega) (acc ++ [(i:Int)]) (by rw [List.length_append,List.length_singleton];omega)
   rw [List.append_assoc,←e1] at this
   exact this
  ·rw [if_neg q]
   refine fb_ q ?_
   have:=ih (i+1) (by omega) acc (by omega)
   rw [←e1] at this
   exact this
theorem fy_ (L:List (List S74))(s:List S74)(hL:L.length<=100000):Ev (fun k=>bn_.f k L s) (withinF L s):=by
 refine Ev.bind (firsts_f L hL) ?_
 have:=within_go s (L.map firstF) (by rw [List.length_map];exact hL) (L.map firstF).length 0 (by omega) [] (Nat.le_refl _)
 rw [List.drop_zero,List.nil_append] at this
 exact this
theorem low_spec {P:Int->Bool}(h:0<(canonF P).length):0<=lowR (canonF P)∧lowR (canonF P)<=1114111∧P (lowR (canonF P))=true∧ ∀ c,0<=c->c<=1114111->P c=true->lowR (canonF P)<=c:=by
 have hs:=en_ P
 revert hs h
 generalize canonF P=l
 intro h hs
 match l,h,hs with
 | r :: rs,_,hs=>
  have hr:=hs.1.1 r (List.mem_cons_self ..)
  have e:lowR (r :: rs)=r.f0:=rfl
  rw [e]
  refine ⟨hr.1,by omega,?_,fun c h0 h1 hP=>?_⟩
  ·rw [←hs.2 r.f0 hr.1 (by omega)]
   exact mem_iff.2 ⟨r,List.mem_cons_self ..,Int.le_refl _,hr.2.1⟩
  ·rw [←hs.2 c h0 (by omega)] at hP
   obtain ⟨s,hsm,k0,k1⟩:=mem_iff.1 hP
   rcases List.mem_cons.1 hsm with e | hsm
   ·rw [e] at k0;exact k0
   ·have:=(List.pairwise_cons.1 hs.1.2).1 s hsm
    omega
theorem first_canon {P:Int->Bool}(hl:(canonF P).length<=400)(h:0<(canonF P).length):firstF (canonF P)=lowR (canonF P):=by
 unfold firstF
 rw [pl_canon hl]
 revert h
 generalize canonF P=l
 intro h
 match l,h with
 | r :: rs,_=>rfl
def clsF (sets:List (List S74))(c:Int):List S74:=atF sets (sigF sets c)
theorem ld_ {sets:List (List S74)}{m c:Int}(h0:0<=c)(h1:c<=1114111):Mem (clsF sets m) c=decide (sigF sets c=sigF sets m):=jg_ (fun d=>decide (sigF sets d=sigF sets m)) h0 h1
structure Cls (sets:List (List S74)) (L:List (List S74)):Prop where
 all: ∀ c,0<=c->c<=1114111->clsF sets c∈L
 of: ∀ x∈L,∃ m,0<=m∧m<=1114111∧x=clsF sets m∧lowR x=m∧0<x.length∧ ∀ c,0<=c->c<=1114111->sigF sets c=sigF sets m->m<=c
 up:L.Pairwise fun x y=>lowR x<lowR y
theorem cls_of {sets L:List (List S74)}(h:AtomsOf sets L)(hs:Sorted L):Cls sets L:=by
 obtain ⟨T,hT,rfl,hc,hp⟩:=h
 have key: ∀ t∈T,0<=lowR (atF sets t)∧lowR (atF sets t)<=1114111∧sigF sets (lowR (atF sets t))=t∧ ∀ c,0<=c->c<=1114111->sigF sets c=t->lowR (atF sets t)<=c:=by
  intro t ht
  obtain ⟨h0,h1,h2,h3⟩:=low_spec (hp t ht)
  exact ⟨h0,h1,of_decide_eq_true h2,fun c k0 k1 k2=>h3 c k0 k1 (dt__ k2)⟩
 refine ⟨fun c h0 h1=>List.mem_map.2 ⟨_,hc c h0 h1,rfl⟩,fun x hx=>?_,?_⟩
 ·obtain ⟨t,ht,rfl⟩:=List.mem_map.1 hx
  obtain ⟨h0,h1,h2,h3⟩:=key t ht
  refine ⟨_,h0,h1,?_,rfl,hp t ht,fun c k0 k1 k2=>h3 c k0 k1 (k2.trans h2)⟩
  unfold clsF
  rw [h2]
 ·unfold Sorted at hs
  rw [List.pairwise_map] at hs ⊢
  have hboth:T.Pairwise fun a b=>a≠b∧lowR (atF sets a)<=lowR (atF sets b):=hT.and hs
  refine hboth.imp_of_mem fun {a b} ha hb hab=>?_
  have ha':=(key a ha).2.2.1
  have hb':=(key b hb).2.2.1
  rcases Int.lt_or_eq_of_le hab.2 with k | k
  ·exact k
  ·exact absurd (ha'.symm.trans (by rw [k];exact hb')) hab.1
theorem cls_congr {sets sets':List (List S74)}(hR: ∀ c d,0<=c->c<=1114111->0<=d->d<=1114111->(sigF sets c=sigF sets d↔sigF sets' c=sigF sets' d)){m:Int}(h0:0<=m)(h1:m<=1114111):clsF sets m=clsF sets' m:=by
 refine ec_ (P:=fun d=>decide (sigF sets d=sigF sets m)) (Q:=fun d=>decide (sigF sets' d=sigF sets' m)) fun c k0 k1=>?_
 show decide _=decide _
 rw [decide_eq_decide]
 exact hR c m k0 k1 h0 h1
theorem cls_one {sets sets' L L':List (List S74)}(hR: ∀ c d,0<=c->c<=1114111->0<=d->d<=1114111->(sigF sets c=sigF sets d↔sigF sets' c=sigF sets' d))(h:Cls sets L)(h':Cls sets' L'):L=L':=by
 have mem: ∀ x,x∈L↔x∈L':=by
  intro x
  constructor
  ·intro hx
   obtain ⟨m,h0,h1,e,_⟩:=h.of x hx
   rw [e,cls_congr hR h0 h1]
   exact h'.all m h0 h1
  ·intro hx
   obtain ⟨m,h0,h1,e,_⟩:=h'.of x hx
   rw [e,←cls_congr hR h0 h1]
   exact h.all m h0 h1
 have nd: ∀ {l:List (List S74)},l.Pairwise (fun x y=>lowR x<lowR y)->l.Nodup:=fun hp=>hp.imp fun {a b} hab e=>by rw [e] at hab;omega
 have hperm:L.Perm L':=(List.perm_ext_iff_of_nodup (nd h.up) (nd h'.up)).2 mem
 refine hperm.eq_of_pairwise (le:=fun x y=>lowR x<lowR y) (fun a b _ _ h1 h2=>by omega) h.up h'.up
theorem cls_same {sets L L':List (List S74)}(h:Cls sets L)(h':Cls sets L'):L=L':=cls_one (fun _ _ _ _ _ _=>Iff.rfl) h h'
theorem Cls.mem_iff {sets L:List (List S74)}(h:Cls sets L){x:List S74}(hx:x∈L){c:Int}(h0:0<=c)(h1:c<=1114111):Mem x c=true↔x=clsF sets c:=by
 obtain ⟨m,m0,m1,e,el,hp,hle⟩:=h.of x hx
 have k:Mem (clsF sets m) c=decide (sigF sets c=sigF sets m):=ld_ h0 h1
 constructor
 ·intro hm
  rw [e,k] at hm
  rw [e]
  unfold clsF
  rw [of_decide_eq_true hm]
 ·intro e2
  have k2:Mem (clsF sets c) c=decide (sigF sets c=sigF sets c):=ld_ h0 h1
  rw [e2,k2]
  exact dt__ rfl
theorem Cls.nodup {sets L:List (List S74)}(h:Cls sets L):L.Nodup:=h.up.imp fun {a b} hab e=>by rw [e] at hab;omega
theorem Cls.canon {sets L:List (List S74)}(h:Cls sets L){x:List S74}(hx:x∈L): ∃ P,x=canonF P:=by
 obtain ⟨m,_,_,e,_⟩:=h.of x hx
 rw [e]
 exact ⟨fun c=>decide (sigF sets c=sigF sets m),rfl⟩
def Short (L:List (List S74)):Prop:= ∀ x∈L,x.length<=400
theorem Cls.short {sets L:List (List S74)}(h:Cls sets L)(E:List Int)(hE: ∀ c,0<c->c<=1114111->sigF sets c≠sigF sets (c - 1)->c∈E)(hl:E.length<=798):Short L:=by
 intro x hx
 obtain ⟨m,_,_,e,_⟩:=h.of x hx
 have:=at_len (sets:=sets) E hE (sigF sets m)
 rw [e]
 unfold clsF
 omega
theorem Cls.has {sets L:List (List S74)}(h:Cls sets L)(hs:Short L){x:List S74}(hx:x∈L)(c:Int):hasF x c=true↔0<=c∧c<=1114111∧x=clsF sets c:=by
 unfold hasF hasB
 have:=hs x hx
 simp only [Bool.and_eq_true,decide_eq_true_eq]
 constructor
 ·rintro ⟨⟨h0,h1⟩,_,hm⟩
  exact ⟨h0,h1,(h.mem_iff hx h0 h1).1 hm⟩
 ·rintro ⟨h0,h1,e⟩
  exact ⟨⟨h0,h1⟩,this,(h.mem_iff hx h0 h1).2 e⟩
theorem Cls.first {sets L:List (List S74)}(h:Cls sets L)(hs:Short L){x:List S74}(hx:x∈L):firstF x=lowR x∧0<=firstF x∧firstF x<=1114111∧x=clsF sets (firstF x):=by
 obtain ⟨m,m0,m1,e,el,hp,_⟩:=h.of x hx
 have h4:=hs x hx
 have e1:firstF x=lowR x:=by
  obtain ⟨P,eP⟩:=h.canon hx
  rw [eP] at h4 hp ⊢
  exact first_canon h4 hp
 rw [e1,el]
 exact ⟨rfl,m0,m1,e⟩
theorem hk_ {sets L:List (List S74)}(h:Cls sets L)(hs:Short L){c:Int}(h0:0<=c)(h1:c<=1114111): ∃ k:Nat,classF L c=k∧L[k]? =some (clsF sets c):=by
 unfold classF ixF
 cases q:L.findIdx? (fun x=>hasF x c) with
 | none=>
  have:=List.findIdx?_eq_none_iff.1 q _ (h.all c h0 h1)
  rw [(h.has hs (h.all c h0 h1) c).2 ⟨h0,h1,rfl⟩] at this
  cases this
 | some k=>
  obtain ⟨hk,hk2,_⟩:=List.findIdx?_eq_some_iff_getElem.1 q
  refine ⟨k,rfl,?_⟩
  rw [List.getElem?_eq_getElem hk]
  rw [((h.has hs (List.getElem_mem hk) c).1 hk2).2.2]
theorem class_none {sets L:List (List S74)}(h:Cls sets L)(hs:Short L){c:Int}(hc:¬ (0<=c∧c<=1114111)):classF L c= -1:=by
 unfold classF ixF
 cases q:L.findIdx? (fun x=>hasF x c) with
 | none=>rfl
 | some k=>
  obtain ⟨hk,hk2,_⟩:=List.findIdx?_eq_some_iff_getElem.1 q
  have:=(h.has hs (List.getElem_mem hk) c).1 hk2
  exact absurd ⟨this.1,this.2.1⟩ hc
theorem class_get {sets L:List (List S74)}(h:Cls sets L)(hs:Short L){k:Nat}{x:List S74}(hk:L[k]? =some x):classF L (firstF x)=k:=by
 have hx:=List.mem_of_getElem? hk
 obtain ⟨_,f0,f1,e⟩:=h.first hs hx
 obtain ⟨j,hj,hj2⟩:=hk_ h hs f0 f1
 rw [←e] at hj2
 rw [hj]
 obtain ⟨h1,g1⟩:=List.getElem?_eq_some_iff.1 hj2
 obtain ⟨h2,g2⟩:=List.getElem?_eq_some_iff.1 hk
 have hp:=List.pairwise_iff_getElem.1 h.nodup
 rcases Nat.lt_trichotomy j k with q | q | q
 ·exact absurd (g1.trans g2.symm) (hp j k h1 h2 q)
 ·rw [q]
 ·exact absurd (g2.trans g1.symm) (hp k j h2 h1 q)
end P
end Go.Proofs.YthfceiincmkccaaGreat
