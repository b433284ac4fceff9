/- What law SignWords reaches, part 4: words and walks over rows and regions. -/
import Derived.Test.YthfceiincmkccaaGreatZA
import Derived.Test.YthfceiincmkccaaGreatZC
import Derived.Test.YthfceiincmkccaaGreatZB
set_option linter.unusedVariables false
set_option linter.unusedSimpArgs false
set_option maxHeartbeats 8000000
set_option maxRecDepth 100000
open Go.RowKit Go.Proofs.YthfceiincmkccaaGreatW.PrintWords Go.Proofs.YthfceiincmkccaaGreatW.PrintLast Go.Proofs.YthfceiincmkccaaGreatW.PrintMore
namespace Go.Proofs.YthfceiincmkccaaGreat
namespace LX
open Shelf YthfceiincmkccaaGreatW.PrintWords.Kd A K L B
theorem cn_ {W0:World}{b n:Nat}(hn:b<=n): ∀ (vs:List Value) (W:World) (j:Nat),Below b W0 W->Below b W0 (putL W n j vs)
 | [],_,_,h=>h
 | v :: vs,W,j,h=>cn_ hn vs _ _ (h.setCell (p:=⟨n,j,none⟩) hn v)
def PatV (W:World)(ok:Nat->Prop)(v:Value)(p:S45):Prop:= ∃ A1 c1 A2 c2 A3 c3,v=.agg #[.int .i64 p.f0,.slice A1 p.f1.length c1,.slice A2 p.f2.length c2,.slice A3 p.f3.length c3]∧p.f1.length<=c1∧Kd.F k74 W ok A1 p.f1.length p.f1∧p.f2.length<=c2∧Kd.F (Kd.int .i64) W ok A2 p.f2.length p.f2∧p.f3.length<=c3∧Kd.F k45 W ok A3 p.f3.length p.f3
def PatAns (W:World)(P:Nat->Prop)(p:S45)(e:Ending)(w':World):Prop:= ∃ v,e=.returned (.tuple #[v,.int .i64 0])∧PatV w' (fun k=>P k∨W.heap.size<=k) v p∧Below W.heap.size W w'
theorem whole_empty (W:World)(P:Nat->Prop)(nm:ByteArray)(lo hi:Int)(kv vl:Value):
  Calls Tryz.prog 170 #[.agg #[.int .i64 1,.string nm,.int .i64 lo,.int .i64 hi,kv],vl] W (PatAns W P ⟨1,[],[],[]⟩):=by
 unfold PatAns
 go_enter Tryz.func170,Tryz.ntmps170
 go_wp2_with fail
 have e:((W.alloc (.cells #[.int .i64 1,.string nm,.int .i64 lo,.int .i64 hi,kv] 85)).alloc (.cells #[.int .i64 1,.slice none 0 0,.slice none 0 0,.slice none 0 0] 45)).heap[W.heap.size+1]? =some (.cells #[.int .i64 1,.slice none 0 0,.slice none 0 0,.slice none 0 0] 45 (0,0)):=by
  have e:=aj_ (W.alloc (.cells #[.int .i64 1,.string nm,.int .i64 lo,.int .i64 hi,kv] 85)) (.cells #[.int .i64 1,.slice none 0 0,.slice none 0 0,.slice none 0 0] 45)
  have e2:(W.alloc (.cells #[.int .i64 1,.string nm,.int .i64 lo,.int .i64 hi,kv] 85)).heap.size=W.heap.size+1:=Array.size_push _
  rw [e2] at e
  exact e
 refine bodyPost_ret (ed_ rfl _ _ (W.heap.size+1) 45 #[.int .i64 1,.slice none 0 0,.slice none 0 0,.slice none 0 0] (0,0) _ rfl e Tryz.underlying45 rfl (by kernel_rfl)) rfl ?_
 exact ⟨_,rfl,⟨none,0,none,0,none,0,rfl,Nat.le_refl _,F_nil _ _ _,Nat.le_refl _,F_nil _ _ _,Nat.le_refl _,F_nil _ _ _⟩,ab_ (ab_ (Below.refl W.heap.size W) _) _⟩
theorem whole_set (W:World)(P:Nat->Prop)(nm:ByteArray)(hi:Int)(kv vl:Value)(s:List S74)(hset: ∀ W',Below W.heap.size W W'->Calls Tryz.prog 187 #[.agg #[.int .i64 4,.string nm,.int .i64 0,.int .i64 hi,kv],vl] W' (SetAns W' s)):
  Calls Tryz.prog 170 #[.agg #[.int .i64 4,.string nm,.int .i64 0,.int .i64 hi,kv],vl] W (PatAns W P ⟨2,s,[],[]⟩):=by
 unfold PatAns
 obtain ⟨W1,hW1⟩: ∃ W_,W_=(W.alloc (.cells #[.int .i64 4,.string nm,.int .i64 0,.int .i64 hi,kv] 85)).alloc (.cells #[.int .i64 0,.slice none 0 0,.slice none 0 0,.slice none 0 0] 45):=⟨_,rfl⟩
 have hb1:Below W.heap.size W W1:=by rw [hW1];exact ab_ (ab_ (Below.refl W.heap.size W) _) _
 have hs1:W1.heap.size=W.heap.size+2:=by rw [hW1];exact (Array.size_push _).trans (congrArg (· +1) (Array.size_push _))
 have hr1:W1.heap[W.heap.size+1]? =some (.cells #[.int .i64 0,.slice none 0 0,.slice none 0 0,.slice none 0 0] 45 (0,0)):=by
  have e:=aj_ (W.alloc (.cells #[.int .i64 4,.string nm,.int .i64 0,.int .i64 hi,kv] 85)) (.cells #[.int .i64 0,.slice none 0 0,.slice none 0 0,.slice none 0 0] 45)
  have e2:(W.alloc (.cells #[.int .i64 4,.string nm,.int .i64 0,.int .i64 hi,kv] 85)).heap.size=W.heap.size+1:=Array.size_push _
  rw [e2] at e
  rw [hW1]
  exact e
 have hn1:W1.heap[W.heap.size]? =some (.cells #[.int .i64 4,.string nm,.int .i64 0,.int .i64 hi,kv] 85 (0,0)):=by rw [hW1];exact an_ (aj_ W _) _
 have HSET:=Sd.m (hset W1 hb1)
 have HB1:=Sd.m hb1
 have HR1:=Sd.m hr1
 have HS1:=Sd.m hs1
 clear hset hb1 hr1 hn1 hs1
 go_enter Tryz.func170,Tryz.ntmps170
 go_wp2_with fail
 rw [←hW1]
 clear hW1
 refine HSET.out.mono ?_
 rintro e V ⟨A,c,rfl,hc,hF,hb⟩
 have hr:=ag_ HR1.out hb
 have n0:=bc_ hr 0 rfl
 have m0:=aa_ hr 0
 have n1:=bc_ hr 1 rfl
 have m1:=aa_ hr 1
 have n2:=bc_ hr 2 rfl
 have m2:=aa_ hr 2
 have n3:=bc_ hr 3 rfl
 have m3:=aa_ hr 3
 obtain ⟨V2,hV2⟩: ∃ W_,W_=putL V (W.heap.size+1) 0 [.int .i64 2,.slice A s.length c,.slice none 0 0,.slice none 0 0]:=⟨_,rfl⟩
 have hr2:V2.heap[W.heap.size+1]? =some (.cells #[.int .i64 2,.slice A s.length c,.slice none 0 0,.slice none 0 0] 45 (0,0)):=by rw [hV2];exact cr_ _ V 0 _ hr
 have hb2:Below W.heap.size W V2:=by rw [hV2];exact cn_ (by omega) _ _ _ (HB1.out.trans (hb.mono HB1.out.size))
 have hF2:Kd.F k74 V2 (fun k=>P k∨W.heap.size<=k) A s.length s:=by
  rw [hV2]
  exact F_mono (cf_ (ok:=fun k=>W1.heap.size<=k) (fun k hk=>by have:=HS1.out;omega) _ _ _ hF) (fun k hk=>Or.inr (by have:=HS1.out;omega))
 replace hV2:V2=((((V).setCell ⟨W.heap.size+1,0,none⟩ (.int .i64 2)).setCell ⟨W.heap.size+1,1,none⟩ (.slice A s.length c)).setCell ⟨W.heap.size+1,2,none⟩ (.slice none 0 0)).setCell ⟨W.heap.size+1,3,none⟩ (.slice none 0 0):=hV2
 have HR2:=Sd.m hr2
 have HB2:=Sd.m hb2
 have HF2:=Sd.m hF2
 have HV2:=Sd.m hV2
 clear hr hr2 hb2 hF2 hV2 hF hb
 go_wp2_with fail
 rw [←HV2.out]
 refine bodyPost_ret (ed_ rfl _ _ (W.heap.size+1) 45 #[.int .i64 2,.slice A s.length c,.slice none 0 0,.slice none 0 0] (0,0) _ rfl HR2.out Tryz.underlying45 rfl (by kernel_rfl)) rfl ?_
 exact ⟨_,rfl,⟨A,c,none,0,none,0,rfl,hc,HF2.out,Nat.le_refl _,F_nil _ _ _,Nat.le_refl _,F_nil _ _ _⟩,HB2.out⟩
theorem whole_name (W:World)(P:Nat->Prop)(v:S93)(Al:Option Addr)(cl:Nat)(hcl:1<=cl)(hl:Kd.F k93 W P Al 1 [v])(k:Nat)(nm:ByteArray)(hfi:bs_.f k [v] nm=some 0)(lo hi:Int)(kv:Value):
  Calls Tryz.prog 170 #[.agg #[.int .i64 2,.string nm,.int .i64 lo,.int .i64 hi,kv],.slice Al 1 cl] W (PatAns W P v.f1):=by
 unfold PatAns
 obtain ⟨W1,hW1⟩: ∃ W_,W_=(W.alloc (.cells #[.int .i64 2,.string nm,.int .i64 lo,.int .i64 hi,kv] 85)).alloc (.cells #[.int .i64 0,.slice none 0 0,.slice none 0 0,.slice none 0 0] 45):=⟨_,rfl⟩
 have hb1:Below W.heap.size W W1:=by rw [hW1];exact ab_ (ab_ (Below.refl W.heap.size W) _) _
 have hs1:W1.heap.size=W.heap.size+2:=by rw [hW1];exact (Array.size_push _).trans (congrArg (· +1) (Array.size_push _))
 have hr1:W1.heap[W.heap.size+1]? =some (.cells #[.int .i64 0,.slice none 0 0,.slice none 0 0,.slice none 0 0] 45 (0,0)):=by
  have e:=aj_ (W.alloc (.cells #[.int .i64 2,.string nm,.int .i64 lo,.int .i64 hi,kv] 85)) (.cells #[.int .i64 0,.slice none 0 0,.slice none 0 0,.slice none 0 0] 45)
  have e2:(W.alloc (.cells #[.int .i64 2,.string nm,.int .i64 lo,.int .i64 hi,kv] 85)).heap.size=W.heap.size+1:=Array.size_push _
  rw [e2] at e
  rw [hW1]
  exact e
 have hn1:W1.heap[W.heap.size]? =some (.cells #[.int .i64 2,.string nm,.int .i64 lo,.int .i64 hi,kv] 85 (0,0)):=by rw [hW1];exact an_ (aj_ W _) _
 have hlb:=F_below (F_bound hl) hb1
 have HLC:=Sd.m (show Kd.C k93 W1 Al [v].length [v] from F_now hlb)
 have HLB:=Sd.m hlb
 have HB1:=Sd.m hb1
 have HR1:=Sd.m hr1
 have HS1:=Sd.m hs1
 have HFI:=Sd.m hfi
 clear hl hlb hb1 hr1 hn1 hs1 hfi
 go_enter Tryz.func170,Tryz.ntmps170
 go_wp2_with fail
 rw [←hW1]
 clear hW1
 refine (bs_.calls k Al cl [v] nm 0 W1 HLC.out hcl HFI.out).mono ?_
 rintro e V_ ⟨rfl,⟨nq,rfl⟩⟩
 obtain ⟨V,hV⟩: ∃ W_,W_=W1.drewN nq:=⟨_,rfl⟩
 have hb:Below W1.heap.size W1 V:=by rw [hV];exact ad_ (Below.refl _ _) nq
 rw [←hV]
 clear hV
 have hr:=ag_ HR1.out hb
 have hlv:=F_below HLB.out hb
 obtain ⟨ad,cs,rfl,hcl7,hFK,hcc,_⟩:=F_get hlv z93 0 (by decide) (by decide)
 obtain ⟨A2,c2,A3,c3,A4,c4,rfl,l2,g2,l3,g3,l4,g4⟩:=k93_openF hFK
 have cc: ∀ (j:Nat) (u:Value),0<j->([.string v.f0,.int .i64 v.f1.f0,.slice A2 v.f1.f1.length c2,.slice A3 v.f1.f2.length c3,.slice A4 v.f1.f3.length c4,.bool v.f2,.int .i64 v.f3]:List Value)[j]? =some u->V.cell? ⟨ad.block,ad.off+j,none⟩=some u:=by
  intro j u hj hu
  have q:=hcc j u hu
  rw [show (0:Int).toNat*k93.sz+j=0+j by rfl,aw_ _ _ j hj] at q
  exact q
 have p1:=cc 1 _ (by decide) rfl
 have p2:=cc 2 _ (by decide) rfl
 have p3:=cc 3 _ (by decide) rfl
 have p4:=cc 4 _ (by decide) rfl
 have n0:=bc_ hr 0 rfl
 have m0:=aa_ hr 0
 have n1:=bc_ hr 1 rfl
 have m1:=aa_ hr 1
 have n2:=bc_ hr 2 rfl
 have m2:=aa_ hr 2
 have n3:=bc_ hr 3 rfl
 have m3:=aa_ hr 3
 have hP: ∀ k_,(P k_∧k_<W.heap.size)->k_≠W.heap.size+1:=fun k_ hk=>by omega
 obtain ⟨V2,hV2⟩: ∃ W_,W_=putL V (W.heap.size+1) 0 [.int .i64 v.f1.f0,.slice A2 v.f1.f1.length c2,.slice A3 v.f1.f2.length c3,.slice A4 v.f1.f3.length c4]:=⟨_,rfl⟩
 have hr2:V2.heap[W.heap.size+1]? =some (.cells #[.int .i64 v.f1.f0,.slice A2 v.f1.f1.length c2,.slice A3 v.f1.f2.length c3,.slice A4 v.f1.f3.length c4] 45 (0,0)):=by rw [hV2];exact cr_ _ V 0 _ hr
 have hb2:Below W.heap.size W V2:=by rw [hV2];exact cn_ (by omega) _ _ _ (HB1.out.trans (hb.mono HB1.out.size))
 have h2:Kd.F k74 V2 (fun k=>P k∨W.heap.size<=k) A2 v.f1.f1.length v.f1.f1:=by rw [hV2];exact F_mono (cf_ hP _ _ _ g2) (fun k hk=>Or.inl hk.1)
 have h3:Kd.F (Kd.int .i64) V2 (fun k=>P k∨W.heap.size<=k) A3 v.f1.f2.length v.f1.f2:=by rw [hV2];exact F_mono (cf_ hP _ _ _ g3) (fun k hk=>Or.inl hk.1)
 have h4:Kd.F k45 V2 (fun k=>P k∨W.heap.size<=k) A4 v.f1.f3.length v.f1.f3:=by rw [hV2];exact F_mono (cf_ hP _ _ _ g4) (fun k hk=>Or.inl hk.1)
 replace hV2:V2=((((V).setCell ⟨W.heap.size+1,0,none⟩ (.int .i64 v.f1.f0)).setCell ⟨W.heap.size+1,1,none⟩ (.slice A2 v.f1.f1.length c2)).setCell ⟨W.heap.size+1,2,none⟩ (.slice A3 v.f1.f2.length c3)).setCell ⟨W.heap.size+1,3,none⟩ (.slice A4 v.f1.f3.length c4):=hV2
 have HR2:=Sd.m hr2
 have HB2:=Sd.m hb2
 have H2:=Sd.m h2
 have H3:=Sd.m h3
 have H4:=Sd.m h4
 have HV2:=Sd.m hV2
 clear hr hr2 hb2 h2 h3 h4 hV2 hlv hb hFK hcc cc g2 g3 g4 hP
 go_wp2_with fail
 rw [←HV2.out]
 refine bodyPost_ret (ed_ rfl _ _ (W.heap.size+1) 45 #[.int .i64 v.f1.f0,.slice A2 v.f1.f1.length c2,.slice A3 v.f1.f2.length c3,.slice A4 v.f1.f3.length c4] (0,0) _ rfl HR2.out Tryz.underlying45 rfl (by kernel_rfl)) rfl ?_
 exact ⟨_,rfl,⟨A2,c2,A3,c3,A4,c4,rfl,l2,H2.out,l3,H3.out,l4,H4.out⟩,HB2.out⟩
def StO (W:World)(P:Nat->Prop)(nm:ByteArray)(lo hi:Int)(A:Option Addr)(c:Nat)(pk:S45)(t10:Value)(Wx:World):Prop:=
 Below W.heap.size W Wx∧W.heap.size+3<=Wx.heap.size∧Wx.heap[W.heap.size]? =some (.cells #[.int .i64 10,.string nm,.int .i64 lo,.int .i64 hi,.slice A 1 c] 85 (0,0))∧Wx.heap[W.heap.size+1]? =some (.cells #[.int .i64 0,.slice none 0 0,.slice none 0 0,.slice none 0 0] 45 (0,0))∧
 ((t10=.int .i64 0∧Wx.heap[W.heap.size+2]? =some (.cells #[.int .i64 5,.slice none 0 0,.slice none 0 0,.slice none 0 0] 45 (0,0)))∨
  (t10=.int .i64 1∧ ∃ A6 c6,Wx.heap[W.heap.size+2]? =some (.cells #[.int .i64 5,.slice none 0 0,.slice none 0 0,.slice A6 1 c6] 45 (0,0))∧1<=c6∧Kd.F k45 Wx (fun j=>(P j∧j<W.heap.size)∨W.heap.size+3<=j) A6 1 [pk]))
theorem whole_star (W:World)(P:Nat->Prop)(k:S85)(pk:S45)(nm:ByteArray)(lo hi:Int)(A:Option Addr)(c:Nat)(vl:Value)(hk:Kd.C k85 W A 1 [k])
  (hkid: ∀ (W':World) (A4:Option Addr) (c4:Nat),Below W.heap.size W W'->k.f4.length<=c4->Kd.C k85 W' A4 k.f4.length k.f4->Calls Tryz.prog 170 #[.agg (NdC k A4 c4),vl] W' (PatAns W' (fun j=>P j∧j<W.heap.size) pk)):
  Calls Tryz.prog 170 #[.agg #[.int .i64 10,.string nm,.int .i64 lo,.int .i64 hi,.slice A 1 c],vl] W (PatAns W P ⟨5,[],[],[pk]⟩):=by
 unfold PatAns
 obtain ⟨W1,hW1⟩: ∃ W_,W_=(W.alloc (.cells #[.int .i64 10,.string nm,.int .i64 lo,.int .i64 hi,.slice A 1 c] 85)).alloc (.cells #[.int .i64 0,.slice none 0 0,.slice none 0 0,.slice none 0 0] 45):=⟨_,rfl⟩
 have hb1:Below W.heap.size W W1:=by rw [hW1];exact ab_ (ab_ (Below.refl W.heap.size W) _) _
 have hs1:W1.heap.size=W.heap.size+2:=by rw [hW1];exact (Array.size_push _).trans (congrArg (· +1) (Array.size_push _))
 have hr1:W1.heap[W.heap.size+1]? =some (.cells #[.int .i64 0,.slice none 0 0,.slice none 0 0,.slice none 0 0] 45 (0,0)):=by
  have e:=aj_ (W.alloc (.cells #[.int .i64 10,.string nm,.int .i64 lo,.int .i64 hi,.slice A 1 c] 85)) (.cells #[.int .i64 0,.slice none 0 0,.slice none 0 0,.slice none 0 0] 45)
  have e2:(W.alloc (.cells #[.int .i64 10,.string nm,.int .i64 lo,.int .i64 hi,.slice A 1 c] 85)).heap.size=W.heap.size+1:=Array.size_push _
  rw [e2] at e
  rw [hW1]
  exact e
 have hn1:W1.heap[W.heap.size]? =some (.cells #[.int .i64 10,.string nm,.int .i64 lo,.int .i64 hi,.slice A 1 c] 85 (0,0)):=by rw [hW1];exact an_ (aj_ W _) _
 have hb2:Below W1.heap.size W1 (W1.alloc (.cells #[.int .i64 5,.slice none 0 0,.slice none 0 0,.slice none 0 0] 45)):=ab_ (Below.refl _ _) _
 have hO:StO W P nm lo hi A c pk (.int .i64 0) (W1.alloc (.cells #[.int .i64 5,.slice none 0 0,.slice none 0 0,.slice none 0 0] 45)):=by
  refine ⟨hb1.trans (hb2.mono hb1.size),?_,ag_ hn1 hb2,ag_ hr1 hb2,Or.inl ⟨rfl,?_⟩⟩
  ·have:(W1.alloc (.cells #[.int .i64 5,.slice none 0 0,.slice none 0 0,.slice none 0 0] 45)).heap.size=W1.heap.size+1:=Array.size_push _
   omega
  ·have e:=aj_ W1 (.cells #[.int .i64 5,.slice none 0 0,.slice none 0 0,.slice none 0 0] 45)
   rw [hs1] at e
   exact e
 obtain ⟨W2,hW2⟩: ∃ W_,W_=W1.alloc (.cells #[.int .i64 5,.slice none 0 0,.slice none 0 0,.slice none 0 0] 45):=⟨_,rfl⟩
 rw [←hW2] at hO
 rw [hW1] at hW2
 have HO:=Sd.m hO
 have HW2:=Sd.m hW2
 have HK:=Sd.m hk
 have HKID:=Sd.m hkid
 clear hb1 hr1 hn1 hs1 hW1 hb2 hO hW2 hk hkid
 go_enter Tryz.func170,Tryz.ntmps170
 go_wp2_with fail
 rw [←HW2.out]
 go_loopw [10] (fun t10 Wx=>StO W P nm lo hi A c pk t10 Wx) (fun t10 _=>(1 - intOf t10).toNat)
 case atStart=>exact HO.out
 case round=>
  obtain ⟨hbW,hsz,hn,hr,hst⟩:=hrel
  have x4:=bc_ hn 4 rfl
  rcases hst with ⟨rfl,hp⟩ | ⟨rfl,A6,c6,hp,hc6,hF6⟩
  ·obtain ⟨ad,A4,c4,rfl,k0,k1,k2,k3,k4,l4,g4⟩:=at_T85 (Kd.C_below HK.out hbW) 0 (by decide) (by decide)
   change wr.cell? _=some (.int .i64 k.f0) at k0
   change wr.cell? _=some (.string k.f1) at k1
   change wr.cell? _=some (.int .i64 k.f2) at k2
   change wr.cell? _=some (.int .i64 k.f3) at k3
   change wr.cell? _=some (.slice A4 k.f4.length c4) at k4
   have e0:ad.add ((0:Int).toNat*5)=ad:=by simp [Addr.add]
   rw [e0] at k0 k1 k2 k3 k4
   clear e0
   have hcall:=HKID.out wr A4 c4 hbW l4 g4
   unfold NdC at hcall
   have HC:=Sd.m hcall
   have HBW:=Sd.m hbW
   have HSZ:=Sd.m hsz
   have HN:=Sd.m hn
   have HR:=Sd.m hr
   have HP:=Sd.m hp
   clear hcall hbW hsz hn hr hp l4 g4
   go_wp2_with fail
   refine HC.out.mono ?_
   rintro e V ⟨v,rfl,⟨A1,c1,A2,c2,A3,c3,rfl,l1,g1,l2,g2,l3,g3⟩,hb⟩
   have hb3:Below V.heap.size V (V.alloc (.cells #[.int .i64 pk.f0,.slice A1 pk.f1.length c1,.slice A2 pk.f2.length c2,.slice A3 pk.f3.length c3] 45)):=ab_ (Below.refl _ _) _
   have hbV:=hb.trans (hb3.mono hb.size)
   have hx3:=aj_ V (.cells #[.int .i64 pk.f0,.slice A1 pk.f1.length c1,.slice A2 pk.f2.length c2,.slice A3 pk.f3.length c3] 45)
   have hFK:Kd.FK k45 (V.alloc (.cells #[.int .i64 pk.f0,.slice A1 pk.f1.length c1,.slice A2 pk.f2.length c2,.slice A3 pk.f3.length c3] 45)) (fun j=>(P j∧j<W.heap.size)∨W.heap.size+3<=j) pk [.int .i64 pk.f0,.slice A1 pk.f1.length c1,.slice A2 pk.f2.length c2,.slice A3 pk.f3.length c3]:=k45_mkF _ _ pk l1 (F_mono (F_below g1 hb3) (fun j hj=>Or.elim hj Or.inl (fun hj=>Or.inr (by have:=HSZ.out;omega)))) l2 (F_mono (F_below g2 hb3) (fun j hj=>Or.elim hj Or.inl (fun hj=>Or.inr (by have:=HSZ.out;omega)))) l3 (F_mono (F_below g3 hb3) (fun j hj=>Or.elim hj Or.inl (fun hj=>Or.inr (by have:=HSZ.out;omega))))
   obtain ⟨V3,hV3⟩: ∃ W_,W_=V.alloc (.cells #[.int .i64 pk.f0,.slice A1 pk.f1.length c1,.slice A2 pk.f2.length c2,.slice A3 pk.f3.length c3] 45):=⟨_,rfl⟩
   rw [←hV3] at hb3 hbV hx3 hFK
   have hp3:=ag_ HP.out hbV
   have p3:=bc_ hp3 3 rfl
   have b0:=bc_ hx3 0 rfl
   have b1:=bc_ hx3 1 rfl
   have b2:=bc_ hx3 2 rfl
   have b3:=bc_ hx3 3 rfl
   have HX3:=Sd.m hx3
   have HBV:=Sd.m hbV
   have HFK:=Sd.m hFK
   have HP3:=Sd.m hp3
   have HV3:=Sd.m hV3
   have HB:=Sd.m hb
   have HL:=Sd.m (show ∀ j,V3.heap.size<=j->(P j∧j<W.heap.size)∨W.heap.size+3<=j from fun j hj=>Or.inr (by have:=hbV.size;have:=HSZ.out;omega))
   clear hb3 hbV hx3 hFK hp3 hV3 hb g1 g2 g3 k0 k1 k2 k3 k4 x4
   go_upto_region 27 with fail
   rw [←HV3.out]
   go_wp2_with (at_builtin;refine N_append k45 (w0:=V3) (W:=V3) V3.heap.size rfl _ _ 43 45 (.agg #[.int .i64 0,.slice none 0 0,.slice none 0 0,.slice none 0 0]) 80 rfl Tryz.underlying43 (by kernel_rfl) rfl (by decide) (by decide) (.slice none 0 0) [] pk [.int .i64 pk.f0,.slice A1 pk.f1.length c1,.slice A2 pk.f2.length c2,.slice A3 pk.f3.length c3] (fun j=>(P j∧j<W.heap.size)∨W.heap.size+3<=j) (fun j=>(P j∧j<W.heap.size)∨W.heap.size+3<=j) rfl rfl HFK.out (fun k hk=>⟨hk,by simp [Value.ownBlock]⟩) HL.out (N_nil _ _ _ _ _) (Below.refl _ _) (Nat.le_refl _) (by decide) ?_;intro v5 V5 hNx hB5 hg5 hat5;obtain ⟨A6,c6,rfl⟩:=N_slice hNx;have hp5:=ag_ HP3.out hB5;have y5:V5.cell? ⟨W.heap.size+2,3,none⟩=some (.slice none 0 0):=(ae_ hp5 3).trans rfl;have z5:V5.frozen? ⟨W.heap.size+2,3,none⟩=false:=aa_ hp5 3;have HNX:=Sd.m hNx;have HB5:=Sd.m hB5;have HP5:=Sd.m hp5;clear hNx hg5 hB5 hat5 hp5)
   have hbb:=HBV.out.trans (HB5.out.mono HBV.out.size)
   have hs5:W.heap.size+3<=V5.heap.size:=Nat.le_trans HSZ.out hbb.size
   go_roundw
   case rel=>
    refine ⟨(HBW.out.trans (hbb.mono HBW.out.size)).setCell (p:=⟨W.heap.size+2,3,none⟩) (by show W.heap.size<=W.heap.size+2;omega) _,by simpa [World.setCell] using hs5,bg_ (ag_ HN.out hbb) (p:=⟨W.heap.size+2,3,none⟩) (by show W.heap.size≠W.heap.size+2;omega) _,bg_ (ag_ HR.out hbb) (p:=⟨W.heap.size+2,3,none⟩) (by show W.heap.size+1≠W.heap.size+2;omega) _,Or.inr ⟨rfl,A6,c6,?_,(N_reads' HNX.out).2.1,F_far (p:=⟨W.heap.size+2,3,none⟩) (N_F HNX.out) (fun j hj=>by show j≠W.heap.size+2;omega) _⟩⟩
    simpa using dn_ HP5.out 3 _
   case measure=>simp [intOf]
  ·obtain ⟨V2,hV2⟩: ∃ W_,W_=putL wr (W.heap.size+1) 0 [.int .i64 5,.slice none 0 0,.slice none 0 0,.slice A6 1 c6]:=⟨_,rfl⟩
   have p0:=bc_ hp 0 rfl
   have p1:=bc_ hp 1 rfl
   have p2:=bc_ hp 2 rfl
   have p3:=bc_ hp 3 rfl
   have q0:=bc_ hr 0 rfl
   have r0:=aa_ hr 0
   have q1:=bc_ hr 1 rfl
   have r1:=aa_ hr 1
   have q2:=bc_ hr 2 rfl
   have r2:=aa_ hr 2
   have q3:=bc_ hr 3 rfl
   have r3:=aa_ hr 3
   have hr2:V2.heap[W.heap.size+1]? =some (.cells #[.int .i64 5,.slice none 0 0,.slice none 0 0,.slice A6 1 c6] 45 (0,0)):=by rw [hV2];exact cr_ _ wr 0 _ hr
   have hb2:Below W.heap.size W V2:=by rw [hV2];exact cn_ (by omega) _ _ _ hbW
   have h2:Kd.F k45 V2 (fun j=>P j∨W.heap.size<=j) A6 1 [pk]:=by rw [hV2];exact F_mono (cf_ (ok:=fun j=>(P j∧j<W.heap.size)∨W.heap.size+3<=j) (fun j hj=>by omega) _ _ _ hF6) (fun j hj=>by rcases hj with hj | hj;exact Or.inl hj.1;exact Or.inr (by omega))
   replace hV2:V2=((((wr).setCell ⟨W.heap.size+1,0,none⟩ (.int .i64 5)).setCell ⟨W.heap.size+1,1,none⟩ (.slice none 0 0)).setCell ⟨W.heap.size+1,2,none⟩ (.slice none 0 0)).setCell ⟨W.heap.size+1,3,none⟩ (.slice A6 1 c6):=hV2
   have HR2:=Sd.m hr2
   have HB2:=Sd.m hb2
   have H2:=Sd.m h2
   have HV2:=Sd.m hV2
   clear hbW hsz hn hr hp hF6 hr2 hb2 h2 hV2
   go_wp2_with fail
   rw [←HV2.out]
   refine bodyPost_ret (ed_ rfl _ _ (W.heap.size+1) 45 #[.int .i64 5,.slice none 0 0,.slice none 0 0,.slice A6 1 c6] (0,0) _ rfl HR2.out Tryz.underlying45 rfl (by kernel_rfl)) rfl ?_
   exact ⟨_,rfl,⟨none,0,none,0,A6,c6,rfl,Nat.le_refl _,F_nil _ _ _,Nat.le_refl _,F_nil _ _ _,hc6,H2.out⟩,HB2.out⟩
end LX
namespace K
open A
attribute [local go_sem] cl_ cj_ cw_ cv_ cd_ cc_ ck_ ci_
def bm_.l0:Nat->List Int->ByteArray->Int->Option (ByteArray)
 | 0,_,_,_=>none
 | k+1,x0,x3,x4=>if x4<(x0.length:Int) then (if 0<=x4 then ((some (([(rd x0 x4) % 256]:List Int):List Int)).bind fun y155=>(if x3.size+(strOfNums y155).size<=9223372036854775807 then (bm_.l0 k x0 (x3 ++ (strOfNums y155)) (wrap64 (x4+1))) else (none))) else (none)) else (some x3)
def bm_.f (k:Nat)(l0:List Int):Option (ByteArray):=bm_.l0 k l0 (⟨#[]⟩:ByteArray) 0
theorem bm_.calls (k:Nat)(A0:Option Addr)(c0:Nat)(l0:List Int)(r:ByteArray)(w:World)(hr0:Kd.C (Kd.int .i64) w A0 l0.length l0)(hc0:l0.length<=c0)(h:bm_.f k l0=some r):
  Calls Tryz.prog 179 #[.slice A0 l0.length c0] w fun e w'=>e=.returned (.string r)∧Below w.heap.size w w':=by
 have HR0:=Sd.m hr0
 have HC0:=Sd.m hc0
 clear hr0 hc0
 have HB:=Sd.m (Below.refl w.heap.size w)
 have H:(bm_.l0 k l0 (⟨#[]⟩:ByteArray) 0)=some r:=h
 clear h
 have H':=Sd.m H
 clear H
 go_enter Tryz.func179,Tryz.ntmps179
 go_wp2
 go_loopg [3,4] k (fun kq v3 v4 w'=> ∃ (x3_1:ByteArray) (x4_1:Int),v3=.string x3_1∧v4=.int .i64 x4_1∧Sd (bm_.l0 kq l0 x3_1 x4_1=some r)∧Sd (kq<=k)∧Sd (Below w.heap.size w w'))
 case atStart=>exact ⟨((⟨#[]⟩:ByteArray)),(0),ri_,ri_,H',⟨Nat.le_refl _⟩,⟨rb_⟩⟩
 case round=>
  clear H'
  obtain ⟨x3_1,x4_1,rfl,rfl,HA,HK1,HB⟩:=hrel
  cases gk with
  | zero=>exact absurd HA.out (by simp [bm_.l0])
  | succ k1=>
   have H:=HA.out
   clear HA
   simp only [bm_.l0] at H
   by_cases c2:x4_1<(l0.length:Int)
   ·rw [if_pos c2] at H
    have c2b0:=dt__ c2
    clear c2
    by_cases c3:0<=x4_1
    ·rw [if_pos c3] at H
     have c3b0:=dt__ c3
     clear c3
     obtain ⟨y155,hy155⟩: ∃ y_:List Int,y_=(([(rd l0 x4_1) % 256]:List Int)):=⟨_,rfl⟩
     replace H:(if x3_1.size+(strOfNums y155).size<=9223372036854775807 then (bm_.l0 k1 l0 (x3_1 ++ (strOfNums y155)) (wrap64 (x4_1+1))) else (none))=some r:=by first | (rw [hy155];with_reducible exact H) | (have H2_:=(Option.bind_some _ _).symm.trans H;rw [hy155];with_reducible exact H2_) | (have H2_:=(Option.bind_some _ _).symm.trans H;with_reducible exact H2_) | with_reducible exact H | (rw [hy155];exact H) | exact H
     have Ny155:=Sd.m hy155
     clear hy155
     by_cases c4:x3_1.size+(strOfNums y155).size<=9223372036854775807
     ·rw [if_pos c4] at H
      have c4b0:=eq_true c4
      have c4b1:=dt__ c4
      try have c4b2:(9223372036854775807<x3_1.size+(strOfNums y155).size)=False:=eq_false (Nat.not_lt.2 c4)
      have H':=Sd.m H
      clear H
      obtain ⟨ad154,rfl,hx154_0,p154,q154⟩:=ai_ HR0.out HB.out x4_1
      go_wp2_with (first | ((with_reducible refine ct_ (N:=17) rfl ?_);refine Kd.R_lit (Kd.int .u8) _ 5 ?hg (N:=17) ?hd (xs:=([(rd l0 x4_1) % 256]:List Int)) (inner:=[.int .u8 ((rd l0 x4_1) % 256)]) (ok:=fun _=>True) (okp:=fun _=>True) ?hr ?hp (fun _ hk=>hk) trivial (Below.refl _ _) (Nat.le_refl _) (by simp) ?_;(case hd=>rfl);(case hg=>rfl);(case hr=>first | (go_simp;done) | (go_simp;rfl));(case hp=>exact (Reps.one (show Kd.M (Kd.int .u8) _ _ _ ((rd l0 x4_1) % 256) [.int .u8 ((rd l0 x4_1) % 256)] from rfl) (Reps.none _ _)));intro v156 w5 ho6 hb hg_ hnew_;clear hg_ hnew_;(first | rw [←Ny155.out] at ho6 | (simp only [Int.reduceToNat] at ho6;rw [←Ny155.out] at ho6));have n0_:=Sd.m (Kd.R_lower ho6 (ao_ rb_));have n1_:=Sd.m (ax_ rb_ hb);clear HB;have HO157:=n0_;have HB:=n1_;clear n0_ n1_;clear hb ho6;have hcv7:=he_ (P:=Tryz.prog) Tryz.underlying65 Tryz.underlying5 Tryz.underlying9 (Kd.kc_ HO157.out)))
      go_roundg k1
      case measure=>have:=HK1.out;omega
      case rel=>exact ⟨(x3_1 ++ (strOfNums y155)),(wrap64 (x4_1+1)),ri_,ri_,H',⟨by have:=HK1.out;omega⟩,⟨rb_⟩⟩
     ·rw [if_neg c4] at H
      exact absurd H (by simp)
    ·rw [if_neg c3] at H
     exact absurd H (by simp)
   ·rw [if_neg c2] at H
    have c2b0:=df__ c2
    clear c2
    obtain rfl:=Option.some.inj H
    go_wp2
    go_ret
    exact ⟨re_,rb_⟩
mutual
def ba_.j0:Nat->List Int->Int->Bool->Option (Int × Int × Int)
 | 0,_,_,_=>none
 | k+1,x0,x1,x15=>if x15=true then (none) else (if x1=(x0.length:Int) then (none) else (if 0<=x1 then (if x1<(x0.length:Int) then (if (rd x0 x1)=92 then (none) else (ba_.j1 k x0 x1 false)) else (none)) else (none)))
def ba_.j1:Nat->List Int->Int->Bool->Option (Int × Int × Int)
 | 0,_,_,_=>none
 | k+1,x0,x1,x34=>if x34=true then (none) else (if 0<=x1 then (if x1<(x0.length:Int) then (if (rd x0 x1)=92 then (none) else (some (rd x0 x1,wrap64 (x1+1),0))) else (none)) else (none))
end
def ba_.f (k:Nat)(l0:List Int)(a1:Int):Option (Int × Int × Int):=if a1<0 then (none) else (ba_.j0 k l0 a1 (decide (a1>(l0.length:Int))))
theorem ba_.calls (k:Nat)(A0:Option Addr)(c0:Nat)(l0:List Int)(a1:Int)(r1:Int)(r2:Int)(r3:Int)(w:World)(hr0:Kd.C (Kd.int .i64) w A0 l0.length l0)(hc0:l0.length<=c0)(h:ba_.f k l0 a1=some (r1,r2,r3)):
  Calls Tryz.prog 180 #[.slice A0 l0.length c0,.int .i64 a1] w fun e w'=>e=.returned (.tuple #[.int .i64 r1,.int .i64 r2,.int .i64 r3])∧Drawn0 w w':=by
 have HR0:=Sd.m hr0
 have HC0:=Sd.m hc0
 clear hr0 hc0
 have H:(if a1<0 then (none) else (ba_.j0 k l0 a1 (decide (a1>(l0.length:Int)))))=some (r1,r2,r3):=h
 clear h
 have HC3:=Sd.m H
 clear H
 go_enter Tryz.func180,Tryz.ntmps180
 go_upto_region 1 with (fail)
 go_cut [15] (fun v15 wc=> ∃ (kq:Nat) (x15_2:Bool),v15=.bool x15_2∧Sd (ba_.j0 kq l0 a1 x15_2=some (r1,r2,r3))∧Sd (kq<=k)∧Drawn0 w wc)
 case first=>
  have H:=HC3.out
  clear HC3
  by_cases c4:a1<0
  ·rw [if_pos c4] at H
   exact absurd H (by simp)
  ·rw [if_neg c4] at H
   have c4b0:=df__ c4
   clear c4
   (first | rw [c4b0] | (simp only [ds_,dt_];rw [c4b0]) | skip)
   have H':=Sd.m H
   clear H
   go_wp2
   go_meet
   case rel=>exact ⟨_,(decide (a1>(l0.length:Int))),ri_,H',⟨by first | omega | exact Nat.le_refl _⟩,dr_⟩
 case rest=>
  clear HC3
  obtain ⟨kq,x15_2,rfl,HA,HJ2,⟨mc2,rfl⟩⟩:=hcut
  cases kq with
  | zero=>exact absurd HA.out (by simp [ba_.j0])
  | succ kj2=>
   have H:=HA.out
   clear HA
   simp only [ba_.j0] at H
   by_cases c5:x15_2=true
   ·rw [if_pos c5] at H
    exact absurd H (by simp)
   ·replace c5:=Bool.eq_false_iff.mpr c5
    subst c5
    have H1:(if a1=(l0.length:Int) then (none) else (if 0<=a1 then (if a1<(l0.length:Int) then (if (rd l0 a1)=92 then (none) else (ba_.j1 kj2 l0 a1 false)) else (none)) else (none)))=some (r1,r2,r3):=by rw [if_neg (show ¬ (false=true) by decide)] at H;exact H
    clear H
    have H:=H1
    clear H1
    have HC6:=Sd.m H
    clear H
    go_upto_region 3 with (fail)
    go_cut [34] (fun v34 wc=> ∃ (kq:Nat) (x34_5:Bool),v34=.bool x34_5∧Sd (ba_.j1 kq l0 a1 x34_5=some (r1,r2,r3))∧Sd (kq<=kj2)∧Drawn0 w wc)
    case first=>
     have H:=HC6.out
     clear HC6
     by_cases c7:a1=(l0.length:Int)
     ·rw [if_pos c7] at H
      exact absurd H (by simp)
     ·rw [if_neg c7] at H
      have c7b0:(a1 == (l0.length:Int))=false:=beq_eq_false_iff_ne.mpr c7
      have c7b1:(a1 != (l0.length:Int))=true:=bne_iff_ne.mpr c7
      (first | rw [c7b0] | (simp only [ds_,dt_];rw [c7b0]) | skip)
      by_cases c8:0<=a1
      ·rw [if_pos c8] at H
       have c8b0:=dt__ c8
       clear c8
       by_cases c9:a1<(l0.length:Int)
       ·rw [if_pos c9] at H
        have c9b0:=dt__ c9
        clear c9
        by_cases c10:(rd l0 a1)=92
        ·rw [if_pos c10] at H
         exact absurd H (by simp)
        ·rw [if_neg c10] at H
         have c10b0:((rd l0 a1) == 92)=false:=beq_eq_false_iff_ne.mpr c10
         have c10b1:((rd l0 a1) != 92)=true:=bne_iff_ne.mpr c10
         have H':=Sd.m H
         clear H
         have p162:0<=(a1:Int):=od_
         have q162:a1<(l0.length:Int):=od_
         obtain ⟨ad162,e162,hx162_0⟩:=Kd.dc_ HR0.out a1 p162 q162
         cases e162
         replace p162:=eq_true p162
         replace q162:=eq_true q162
         go_wp2
         go_meet
         case rel=>exact ⟨_,(false),ri_,H',⟨by have:=HJ2.out;first | omega | exact Nat.le_refl _⟩,dr_⟩
       ·rw [if_neg c9] at H
        exact absurd H (by simp)
      ·rw [if_neg c8] at H
       exact absurd H (by simp)
    case rest=>
     clear HC6
     obtain ⟨kq,x34_5,rfl,HA,HJ5,⟨mc5,rfl⟩⟩:=hcut
     cases kq with
     | zero=>exact absurd HA.out (by simp [ba_.j1])
     | succ kj5=>
      have H:=HA.out
      clear HA
      simp only [ba_.j1] at H
      by_cases c11:x34_5=true
      ·rw [if_pos c11] at H
       exact absurd H (by simp)
      ·replace c11:=Bool.eq_false_iff.mpr c11
       subst c11
       have H1:(if 0<=a1 then (if a1<(l0.length:Int) then (if (rd l0 a1)=92 then (none) else (some (rd l0 a1,wrap64 (a1+1),0))) else (none)) else (none))=some (r1,r2,r3):=by rw [if_neg (show ¬ (false=true) by decide)] at H;exact H
       clear H
       have H:=H1
       clear H1
       by_cases c12:0<=a1
       ·rw [if_pos c12] at H
        have c12b0:=dt__ c12
        clear c12
        by_cases c13:a1<(l0.length:Int)
        ·rw [if_pos c13] at H
         have c13b0:=dt__ c13
         clear c13
         by_cases c14:(rd l0 a1)=92
         ·rw [if_pos c14] at H
          exact absurd H (by simp)
         ·rw [if_neg c14] at H
          have c14b0:((rd l0 a1) == 92)=false:=beq_eq_false_iff_ne.mpr c14
          have c14b1:((rd l0 a1) != 92)=true:=bne_iff_ne.mpr c14
          simp only [Option.some.injEq,Prod.mk.injEq] at H
          obtain ⟨rfl,rfl,rfl⟩:=H
          have p163:0<=(a1:Int):=od_
          have q163:a1<(l0.length:Int):=od_
          obtain ⟨ad163,e163,hx163_0⟩:=Kd.dc_ HR0.out a1 p163 q163
          cases e163
          replace p163:=eq_true p163
          replace q163:=eq_true q163
          have p164:0<=(a1:Int):=od_
          have q164:a1<(l0.length:Int):=od_
          obtain ⟨ad164,e164,hx164_0⟩:=Kd.dc_ HR0.out a1 p164 q164
          obtain rfl:ad163=ad164:=(by injection e164)
          replace p164:=eq_true p164
          replace q164:=eq_true q164
          go_wp2
          go_ret3
          exact ⟨ri_,dr_⟩
        ·rw [if_neg c13] at H
         exact absurd H (by simp)
       ·rw [if_neg c12] at H
        exact absurd H (by simp)
mutual
def bl_.l0:Nat->Int->Int->Int->List (S74)->List Int->List (S45)->Option (Int)
 | 0,_,_,_,_,_,_=>none
 | k+1,x3,x4,x172000,x172001,x172002,x172003=>if x4<(x172003.length:Int) then (if 0<=x4 then ((bl_.f k ((cy_ x172003 x4).f0) ((cy_ x172003 x4).f1) ((cy_ x172003 x4).f2) ((cy_ x172003 x4).f3)).bind fun t173=>(bl_.l0 k (mn 100000 (wrap64 (x3+t173))) (wrap64 (x4+1)) x172000 x172001 x172002 x172003)) else (none)) else (some x3)
def bl_.f:Nat->Int->List (S74)->List Int->List (S45)->Option (Int)
 | 0,_,_,_,_=>none
 | k+1,a0_0,l0_1,l0_2,l0_3=>bl_.l0 k 1 0 a0_0 l0_1 l0_2 l0_3
end
theorem bl_.calls (k:Nat): ∀ (a0_0:Int) (A0_1:Option Addr) (c0_1:Nat) (l0_1:List (S74)) (A0_2:Option Addr) (c0_2:Nat) (l0_2:List Int) (A0_3:Option Addr) (c0_3:Nat) (l0_3:List (S45)) (r:Int) (w:World) (hr0_1:Kd.C k74 w A0_1 l0_1.length l0_1) (hc0_1:l0_1.length<=c0_1) (hr0_2:Kd.C (Kd.int .i64) w A0_2 l0_2.length l0_2) (hc0_2:l0_2.length<=c0_2) (hr0_3:Kd.C k45 w A0_3 l0_3.length l0_3) (hc0_3:l0_3.length<=c0_3) (h:bl_.f k a0_0 l0_1 l0_2 l0_3=some r),
  Calls Tryz.prog 22 #[.agg #[.int .i64 a0_0,.slice A0_1 l0_1.length c0_1,.slice A0_2 l0_2.length c0_2,.slice A0_3 l0_3.length c0_3]] w fun e w'=>e=.returned (.int .i64 r)∧Below w.heap.size w w':=by
 induction k using Nat.strongRecOn with
 | _ k ih=>
 intro a0_0 A0_1 c0_1 l0_1 A0_2 c0_2 l0_2 A0_3 c0_3 l0_3 r w hr0_1 hc0_1 hr0_2 hc0_2 hr0_3 hc0_3 h
 cases k with
 | zero=>exact absurd h (by simp [bl_.f])
 | succ k=>
 simp only [bl_.f] at h
 have hu45:=Tryz.underlying45
 have HR0_1:=Sd.m hr0_1
 have HC0_1:=Sd.m hc0_1
 clear hr0_1 hc0_1
 have HR0_2:=Sd.m hr0_2
 have HC0_2:=Sd.m hc0_2
 clear hr0_2 hc0_2
 have HR0_3:=Sd.m hr0_3
 have HC0_3:=Sd.m hc0_3
 clear hr0_3 hc0_3
 have HB:=Sd.m (Below.refl w.heap.size w)
 have H:(bl_.l0 k 1 0 a0_0 l0_1 l0_2 l0_3)=some r:=h
 clear h
 have H':=Sd.m H
 clear H
 go_enter Tryz.func22,Tryz.ntmps22
 go_wp2_with (first | ((with_reducible refine ct_ (N:=1) rfl ?_);refine dh_ ?hg (N:=1) ?hd (cs:=#[.int .i64 a0_0,.slice A0_1 l0_1.length c0_1,.slice A0_2 l0_2.length c0_2,.slice A0_3 l0_3.length c0_3]) (t:=45) ?hr ?_;(case hd=>rfl);(case hg=>rfl);(case hr=>first | (go_simp;done) | (go_simp;rfl));intro gb171 hg w2 hbox hb;have n0_:=Sd.m (ax_ rb_ hb);have n1_:=Sd.m (hbox);have n2_:=Sd.m ((by rw [hg];exact (ao_ rb_):w.heap.size<=gb171));have n3_:=Sd.m ((by rw [hg];exact (ao_ rb_):w.heap.size<=gb171));clear HB;have HB:=n0_;have BK171:=n1_;have GW171:=n2_;have GE171:=n3_;clear n0_ n1_ n2_ n3_;clear hb hbox hg))
 go_loopg [3,4] k (fun kq v3 v4 w'=> ∃ (x3_1:Int) (x4_1:Int),v3=.int .i64 x3_1∧v4=.int .i64 x4_1∧Sd (bl_.l0 kq x3_1 x4_1 a0_0 l0_1 l0_2 l0_3=some r)∧Sd (kq<=k)∧Sd (w'.heap[gb171]? =some (.cells #[.int .i64 a0_0,(.slice A0_1 l0_1.length c0_1),(.slice A0_2 l0_2.length c0_2),(.slice A0_3 l0_3.length c0_3)] 45 (0,0)))∧Sd (Below w.heap.size w w'))
 case atStart=>exact ⟨(1),(0),ri_,ri_,H',⟨Nat.le_refl _⟩,⟨by (with_reducible repeat (first | refine be_ ?_ _ | refine bn_ ?_ | refine an_ ?_ _));exact BK171.out⟩,⟨by repeat (first | (with_reducible first | exact HB.out | apply ab_ | apply ad_ | apply au_ | refine bh_ ?_ GE171.out) | exact HB.out)⟩⟩
 case round=>
  clear H'
  obtain ⟨x3_1,x4_1,rfl,rfl,HA,HK1,BK171,HB⟩:=hrel
  cases gk with
  | zero=>exact absurd HA.out (by simp [bl_.l0])
  | succ k1=>
   have H:=HA.out
   clear HA
   simp only [bl_.l0] at H
   by_cases c3:x4_1<(l0_3.length:Int)
   ·rw [if_pos c3] at H
    have c3b0:=dt__ c3
    clear c3
    by_cases c4:0<=x4_1
    ·rw [if_pos c4] at H
     have c4b0:=dt__ c4
     clear c4
     replace H:=Option.bind_eq_some_iff.mp H
     obtain ⟨t173,A50,H⟩:=H
     replace H:(bl_.l0 k1 (mn 100000 (wrap64 (x3_1+t173))) (wrap64 (x4_1+1)) a0_0 l0_1 l0_2 l0_3)=some r:=H
     have A5:=Sd.m A50
     clear A50
     obtain ⟨ji6,hji6⟩: ∃ j_:Int,(mn 100000 (wrap64 (x3_1+t173)))=j_:=⟨_,rfl⟩
     replace H:(bl_.l0 k1 ji6 (wrap64 (x4_1+1)) a0_0 l0_1 l0_2 l0_3)=some r:=by first | (rw [hji6] at H;exact H) | (simp only [hji6] at H ⊢;exact H)
     (try rw [hji6] at A5)
     have hji6_:(if (wrap64 (x3_1+t173))<100000 then (wrap64 (x3_1+t173)) else 100000)=ji6:=hji6
     have H':=Sd.m H
     clear H
     have hcz7_0:=bc_ BK171.out 0 rfl
     have hcz7_1:=bc_ BK171.out 1 rfl
     have hcz7_2:=bc_ BK171.out 2 rfl
     have hcz7_3:=bc_ BK171.out 3 rfl
     have hfz7_0:=aa_ BK171.out 0
     have hfz7_1:=aa_ BK171.out 1
     have hfz7_2:=aa_ BK171.out 2
     have hfz7_3:=aa_ BK171.out 3
     have p172:0<=(x4_1:Int):=od_
     have q172:x4_1<(l0_3.length:Int):=od_
     obtain ⟨ad172,A172_1,c172_1,A172_2,c172_2,A172_3,c172_3,e172,hx172_0,hx172_1,hx172_2,hx172_3,hl172_1,hi172_1,hl172_2,hi172_2,hl172_3,hi172_3⟩:=jq_ HR0_3.out x4_1 p172 q172
     cases e172
     replace hx172_0:=(HB.out.cell (bl__ w _ hx172_0)).trans hx172_0
     replace hx172_1:=(HB.out.cell (bl__ w _ hx172_1)).trans hx172_1
     replace hx172_2:=(HB.out.cell (bl__ w _ hx172_2)).trans hx172_2
     replace hx172_3:=(HB.out.cell (bl__ w _ hx172_3)).trans hx172_3
     have HR172_1:=Sd.m hi172_1
     have HC172_1:=Sd.m hl172_1
     clear hi172_1 hl172_1
     have HR172_2:=Sd.m hi172_2
     have HC172_2:=Sd.m hl172_2
     clear hi172_2 hl172_2
     have HR172_3:=Sd.m hi172_3
     have HC172_3:=Sd.m hl172_3
     clear hi172_3 hl172_3
     replace p172:=eq_true p172
     replace q172:=eq_true q172
     go_wp2_with (first | ((with_reducible refine bk_ (f:=22) rfl ?_);refine goesL_ (some 18) rfl rfl Tryz.func22 (by kernel_rfl) rfl #[.agg #[.int .i64 ((cy_ l0_3 x4_1).f0),.slice A172_1 ((cy_ l0_3 x4_1).f1).length c172_1,.slice A172_2 ((cy_ l0_3 x4_1).f2).length c172_2,.slice A172_3 ((cy_ l0_3 x4_1).f3).length c172_3]] rfl gl_ ?_;(with_reducible refine (ih k1 (by have:=HK1.out;omega) ((cy_ l0_3 x4_1).f0) _ _ ((cy_ l0_3 x4_1).f1) _ _ ((cy_ l0_3 x4_1).f2) _ _ ((cy_ l0_3 x4_1).f3) t173 _ ?side1 ?side2 ?side3 ?side4 ?side5 ?side6 A5.out).mono ?_);(case side1=>exact cs_ (Kd.C_below HR172_1.out HB.out));(case side2=>exact HC172_1.out);(case side3=>exact cs_ (Kd.C_below HR172_2.out HB.out));(case side4=>exact HC172_2.out);(case side5=>exact cs_ (Kd.C_below HR172_3.out HB.out));(case side6=>exact HC172_3.out);rintro e w8 ⟨rfl,hb⟩;refine ⟨_,rfl,?_⟩;have n0_:=Sd.m (ag_ (g:=gb171) (o:=.cells #[.int .i64 a0_0,.slice A0_1 l0_1.length c0_1,.slice A0_2 l0_2.length c0_2,.slice (some ad172) l0_3.length c0_3] 45 (0,0)) (by (with_reducible repeat (first | refine be_ ?_ _ | refine bn_ ?_ | refine an_ ?_ _));exact BK171.out) hb);have n1_:=Sd.m (ax_ (by repeat (first | (with_reducible first | exact HB.out | apply ab_ | apply ad_ | apply au_ | refine bh_ ?_ GE171.out) | exact HB.out)) hb);clear BK171;clear HB;have BK171:=n0_;have HB:=n1_;clear n0_ n1_;(try clear hb);(try clear hb2);(try clear hk);(try clear hi)))
     go_roundg k1
     case measure=>have:=HK1.out;omega
     case rel=>exact ⟨(ji6),(wrap64 (x4_1+1)),(by first | rfl | (simp;done) | (simp only [←hji6] <;> (first | rfl | simp)) | (simp [*];done)),ri_,H',⟨by have:=HK1.out;omega⟩,⟨by (with_reducible repeat (first | refine be_ ?_ _ | refine bn_ ?_ | refine an_ ?_ _));exact BK171.out⟩,⟨by repeat (first | (with_reducible first | exact HB.out | apply ab_ | apply ad_ | apply au_ | refine bh_ ?_ GE171.out) | exact HB.out)⟩⟩
    ·rw [if_neg c4] at H
     exact absurd H (by simp)
   ·rw [if_neg c3] at H
    have c3b0:=df__ c3
    clear c3
    obtain rfl:=Option.some.inj H
    have hcz9_0:=bc_ BK171.out 0 rfl
    have hcz9_1:=bc_ BK171.out 1 rfl
    have hcz9_2:=bc_ BK171.out 2 rfl
    have hcz9_3:=bc_ BK171.out 3 rfl
    have hfz9_0:=aa_ BK171.out 0
    have hfz9_1:=aa_ BK171.out 1
    have hfz9_2:=aa_ BK171.out 2
    have hfz9_3:=aa_ BK171.out 3
    go_wp2
    go_ret
    exact ⟨re_,by repeat (first | (with_reducible first | exact HB.out | apply ab_ | apply ad_ | apply au_ | refine bh_ ?_ GE171.out) | exact HB.out)⟩
end K
namespace LX
open Shelf YthfceiincmkccaaGreatW.PrintWords.Kd A K L B
theorem fa_ (W:World)(P:Nat->Prop)(k:S85)(A:Option Addr)(c:Nat)(vl:Value)(p:S45)(hw: ∀ W',Below W.heap.size W W'->Calls Tryz.prog 170 #[.agg (NdC k A c),vl] W' (PatAns W' (fun j=>P j∧j<W.heap.size) p))(kk:Nat)(sz:Int)(hsz:bl_.f kk p.f0 p.f1 p.f2 p.f3=some sz)(hs3:sz<=300):
  Calls Tryz.prog 135 #[.agg (NdC k A c),vl] W (PatAns W P p):=by
 unfold PatAns
 unfold NdC at hw ⊢
 obtain ⟨W1,hW1⟩: ∃ W_,W_=(W.alloc (.cells #[.int .i64 k.f0,.string k.f1,.int .i64 k.f2,.int .i64 k.f3,.slice A k.f4.length c] 85)).alloc (.cells #[.int .i64 0,.slice none 0 0,.slice none 0 0,.slice none 0 0] 45):=⟨_,rfl⟩
 have hb1:Below W.heap.size W W1:=by rw [hW1];exact ab_ (ab_ (Below.refl W.heap.size W) _) _
 have hs1:W1.heap.size=W.heap.size+2:=by rw [hW1];exact (Array.size_push _).trans (congrArg (· +1) (Array.size_push _))
 have hr1:W1.heap[W.heap.size+1]? =some (.cells #[.int .i64 0,.slice none 0 0,.slice none 0 0,.slice none 0 0] 45 (0,0)):=by
  have e:=aj_ (W.alloc (.cells #[.int .i64 k.f0,.string k.f1,.int .i64 k.f2,.int .i64 k.f3,.slice A k.f4.length c] 85)) (.cells #[.int .i64 0,.slice none 0 0,.slice none 0 0,.slice none 0 0] 45)
  have e2:(W.alloc (.cells #[.int .i64 k.f0,.string k.f1,.int .i64 k.f2,.int .i64 k.f3,.slice A k.f4.length c] 85)).heap.size=W.heap.size+1:=Array.size_push _
  rw [e2] at e
  rw [hW1]
  exact e
 have HC:=Sd.m (hw W1 hb1)
 have HB1:=Sd.m hb1
 have HR1:=Sd.m hr1
 have HS1:=Sd.m hs1
 have HSZ:=Sd.m hsz
 clear hw hb1 hr1 hs1 hsz
 go_enter Tryz.func135,Tryz.ntmps135
 go_wp2_with fail
 rw [←hW1]
 clear hW1
 refine HC.out.mono ?_
 rintro e V ⟨v,rfl,⟨A1,c1,A2,c2,A3,c3,rfl,l1,g1,l2,g2,l3,g3⟩,hb⟩
 have hr:=ag_ HR1.out hb
 have hb3:Below V.heap.size V (V.alloc (.cells #[.int .i64 p.f0,.slice A1 p.f1.length c1,.slice A2 p.f2.length c2,.slice A3 p.f3.length c3] 45)):=ab_ (Below.refl _ _) _
 have hx3:=aj_ V (.cells #[.int .i64 p.f0,.slice A1 p.f1.length c1,.slice A2 p.f2.length c2,.slice A3 p.f3.length c3] 45)
 obtain ⟨V3,hV3⟩: ∃ W_,W_=V.alloc (.cells #[.int .i64 p.f0,.slice A1 p.f1.length c1,.slice A2 p.f2.length c2,.slice A3 p.f3.length c3] 45):=⟨_,rfl⟩
 rw [←hV3] at hb3 hx3
 have b0:=bc_ hx3 0 rfl
 have b1:=bc_ hx3 1 rfl
 have b2:=bc_ hx3 2 rfl
 have b3:=bc_ hx3 3 rfl
 have HV3:=Sd.m hV3
 have HX3:=Sd.m hx3
 have HB3:=Sd.m (hb.trans (hb3.mono hb.size))
 have HR3:=Sd.m (ag_ hr hb3)
 have G1:=Sd.m (F_below g1 hb3)
 have G2:=Sd.m (F_below g2 hb3)
 have G3:=Sd.m (F_below g3 hb3)
 clear hV3 hx3 hb3 hr g1 g2 g3 hb
 go_upto_region 4 with fail
 rw [←HV3.out]
 go_wp2_with fail
 refine (bl_.calls kk p.f0 A1 c1 p.f1 A2 c2 p.f2 A3 c3 p.f3 sz V3 (F_now G1.out) l1 (F_now G2.out) l2 (F_now G3.out) l3 HSZ.out).mono ?_
 rintro e V4 ⟨rfl,hb4⟩
 have hx4:=ag_ HX3.out hb4
 have hr4:=ag_ HR3.out hb4
 have d1:decide (300<sz)=false:=df__ (by omega)
 clear b0 b1 b2 b3
 have b0:=bc_ hx4 0 rfl
 have b1:=bc_ hx4 1 rfl
 have b2:=bc_ hx4 2 rfl
 have b3:=bc_ hx4 3 rfl
 have n0:=bc_ hr4 0 rfl
 have m0:=aa_ hr4 0
 have n1:=bc_ hr4 1 rfl
 have m1:=aa_ hr4 1
 have n2:=bc_ hr4 2 rfl
 have m2:=aa_ hr4 2
 have n3:=bc_ hr4 3 rfl
 have m3:=aa_ hr4 3
 obtain ⟨V5,hV5⟩: ∃ W_,W_=putL V4 (W.heap.size+1) 0 [.int .i64 p.f0,.slice A1 p.f1.length c1,.slice A2 p.f2.length c2,.slice A3 p.f3.length c3]:=⟨_,rfl⟩
 have hr5:V5.heap[W.heap.size+1]? =some (.cells #[.int .i64 p.f0,.slice A1 p.f1.length c1,.slice A2 p.f2.length c2,.slice A3 p.f3.length c3] 45 (0,0)):=by rw [hV5];exact cr_ _ V4 0 _ hr4
 have hb5:Below W.heap.size W V5:=by rw [hV5];exact cn_ (by omega) _ _ _ ((HB1.out.trans (HB3.out.mono HB1.out.size)).trans (hb4.mono ((HB1.out.trans (HB3.out.mono HB1.out.size))).size))
 have ok1: ∀ j,((P j∧j<W.heap.size)∨W1.heap.size<=j)->j≠W.heap.size+1:=fun j hj=>by have:=HS1.out;rcases hj with hj | hj <;> omega
 have ok2: ∀ j,((P j∧j<W.heap.size)∨W1.heap.size<=j)->(P j∨W.heap.size<=j):=fun j hj=>Or.elim hj (fun h=>Or.inl h.1) (fun h=>Or.inr (by have:=HS1.out;omega))
 have h1:Kd.F k74 V5 (fun j=>P j∨W.heap.size<=j) A1 p.f1.length p.f1:=by rw [hV5];exact F_mono (cf_ ok1 _ _ _ (F_below G1.out hb4)) ok2
 have h2:Kd.F (Kd.int .i64) V5 (fun j=>P j∨W.heap.size<=j) A2 p.f2.length p.f2:=by rw [hV5];exact F_mono (cf_ ok1 _ _ _ (F_below G2.out hb4)) ok2
 have h3:Kd.F k45 V5 (fun j=>P j∨W.heap.size<=j) A3 p.f3.length p.f3:=by rw [hV5];exact F_mono (cf_ ok1 _ _ _ (F_below G3.out hb4)) ok2
 replace hV5:V5=((((V4).setCell ⟨W.heap.size+1,0,none⟩ (.int .i64 p.f0)).setCell ⟨W.heap.size+1,1,none⟩ (.slice A1 p.f1.length c1)).setCell ⟨W.heap.size+1,2,none⟩ (.slice A2 p.f2.length c2)).setCell ⟨W.heap.size+1,3,none⟩ (.slice A3 p.f3.length c3):=hV5
 have HR5:=Sd.m hr5
 have HB5:=Sd.m hb5
 have H1:=Sd.m h1
 have H2:=Sd.m h2
 have H3:=Sd.m h3
 have HV5:=Sd.m hV5
 clear hx4 hr4 hr5 hb5 h1 h2 h3 hV5 ok1 ok2 hb4
 go_wp2_with fail
 rw [←HV5.out]
 refine bodyPost_ret (ed_ rfl _ _ (W.heap.size+1) 45 #[.int .i64 p.f0,.slice A1 p.f1.length c1,.slice A2 p.f2.length c2,.slice A3 p.f3.length c3] (0,0) _ rfl HR5.out Tryz.underlying45 rfl (by kernel_rfl)) rfl ?_
 exact ⟨_,rfl,⟨A1,c1,A2,c2,A3,c3,rfl,l1,H1.out,l2,H2.out,l3,H3.out⟩,HB5.out⟩
section
variable {P:Program} {α:Type}
theorem eh_ (d:Kd α){W:World}(base:Nat)(t ty e:TypeId)(z:Value)(bytes:Nat)
  (ht:P.underlying t=some (.slice e)) (hinfo:(P.info? e).map (fun i=>(i.zero,i.size,i.bytes))=some (some z,d.sz,bytes)) (hz:z.cells.size=d.sz) (hs0:0<d.sz) (hb0:0<bytes)
  (v:Value) (xs ys:List α) (A:Option Addr) (m c:Nat) (ok okp:Nat->Prop)
  (HO:Kd.N d e W base ok v xs) (HR:Kd.F d W okp A m ys) (hokp: ∀ k,okp k->ok k∧some k≠v.ownBlock) (hfresh: ∀ k,W.heap.size<=k->ok k)
  (hbase:base<=W.heap.size) (hl:(xs.length+m)*bytes<=140737488355328):
  ∃ v1 w1,(Builtin.append_ #[t,t] ty #[v,.slice A m c]).run P W=.ok v1 w1∧Kd.N d e w1 base ok v1 (xs ++ ys)∧W.grownBy w1 v.ownBlock∧(v1.ownBlock=v.ownBlock∨ ∃ b,v1.ownBlock=some b∧W.heap.size<=b):=by
 obtain ⟨h0,rows,hlr,hR,hf⟩:=HO
 obtain ⟨news,hnl,hnr,hnf⟩:=reads_raw (F_rows HR) (fun y c hk=>⟨d.K_len (FK_now hk),d.K_one (FK_now hk)⟩)
 obtain ⟨v1,w1,hrun,hr,hg,hat⟩:=ev_ (P:=P) (raw d.sz) (W:=W) base t ty e z bytes ht hinfo hz hs0 hb0 v rows news A m c (fun _=>True) (fun _=>False) (raw_any hR) hnr (fun _ _ hk=>hk) (fun _ hk=>hk.elim) (fun _ _=>trivial) hbase (by rw [hlr];exact hl)
 exact ⟨v1,w1,hrun,N_appended h0 hlr hf hnl hnf hokp hfresh hr hg hat,hg,hat⟩
theorem run_append_nil {W:World}(t ty e:TypeId)(z:Value)(sz bytes:Nat)(ht:P.underlying t=some (.slice e))(hinfo:(P.info? e).map (fun i=>(i.zero,i.size,i.bytes))=some (some z,sz,bytes))(a:Addr):
  (Builtin.append_ #[t,t] ty #[.slice (some a) 0 0,.slice none 0 0]).run P W=.ok (.slice (some a) 0 0) W:=by
 obtain ⟨i0,hi,hzz⟩:=Option.map_eq_some_iff.1 hinfo
 simp [Builtin.append_,run_underlying ht,sizeOf,typeInfo,hi,Builtin.lenOf,Builtin.firstCells,storeCells]
theorem N_empty (d:Kd α){W:World}{m:Nat}{e:TypeId}(h:W.heap[m]? =some (.cells #[] e (0,0)))(base:Nat)(hb:base<=m)(ok:Nat->Prop)(hok:ok m):Kd.N d e W base ok (.slice (some ⟨m,0,none⟩) 0 0) []:=by
 refine ⟨fun k hk=>?_,[],rfl,⟨fun k hk=>hk.symm,[],⟨by simp,Or.inr ⟨m,0,#[],rfl,hb,h,Nat.le_refl _,by decide,by simp,by simp⟩⟩,Reps.none _ _⟩,fun j x c hx=>by simp at hx⟩
 have:k=m:=by simpa [Value.ownBlock] using hk.symm
 rw [this]
 exact hok
end
def ItC (x:S87)(A:Option Addr)(c:Nat)(B:Option Addr)(d:Nat):Array Value:=#[.int .i64 x.f0,.string x.f1,.int .i64 x.f2,.bool x.f3,.int .i64 x.f4.f0,.string x.f4.f1,.int .i64 x.f4.f2,.int .i64 x.f4.f3,.slice A x.f4.f4.length c,.int .i64 x.f5.f0,.string x.f5.f1,.int .i64 x.f5.f2,.int .i64 x.f5.f3,.slice B x.f5.f4.length d,.int .i64 x.f6]
theorem give_first (W:World)(P:Nat->Prop)(x:S87)(A:Option Addr)(c:Nat)(B:Option Addr)(d:Nat)(p:S45)(hx0:x.f0=1)(hx4:x.f4.f0=4)
  (hw: ∀ W',Below W.heap.size W W'->Calls Tryz.prog 135 #[.agg (NdC x.f4 A c),.slice none 0 0] W' (PatAns W' (fun _=>False) p)):
  Calls Tryz.prog 133 #[.slice none 0 0,.agg (ItC x A c B d)] W fun e w'=> ∃ A1 c1,e=.returned (.tuple #[.slice A1 1 c1,.int .i64 0])∧1<=c1∧Kd.F k93 w' (fun k=>W.heap.size<=k) A1 1 [⟨x.f1,p,true,x.f6⟩]∧Below W.heap.size W w':=by
 unfold ItC
 unfold NdC at hw
 rw [hx0,hx4]
 rw [hx4] at hw
 obtain ⟨W1,hW1⟩: ∃ W_,W_=W.alloc (.cells #[.int .i64 1,.string x.f1,.int .i64 x.f2,.bool x.f3,.int .i64 4,.string x.f4.f1,.int .i64 x.f4.f2,.int .i64 x.f4.f3,.slice A x.f4.f4.length c,.int .i64 x.f5.f0,.string x.f5.f1,.int .i64 x.f5.f2,.int .i64 x.f5.f3,.slice B x.f5.f4.length d,.int .i64 x.f6] 87):=⟨_,rfl⟩
 have hb1:Below W.heap.size W W1:=by rw [hW1];exact ab_ (Below.refl W.heap.size W) _
 have hs1:W1.heap.size=W.heap.size+1:=by rw [hW1];exact Array.size_push _
 have hx1:W1.heap[W.heap.size]? =some (.cells #[.int .i64 1,.string x.f1,.int .i64 x.f2,.bool x.f3,.int .i64 4,.string x.f4.f1,.int .i64 x.f4.f2,.int .i64 x.f4.f3,.slice A x.f4.f4.length c,.int .i64 x.f5.f0,.string x.f5.f1,.int .i64 x.f5.f2,.int .i64 x.f5.f3,.slice B x.f5.f4.length d,.int .i64 x.f6] 87 (0,0)):=by rw [hW1];exact aj_ W _
 have HW:=Sd.m hw
 have HB1:=Sd.m hb1
 have HX1:=Sd.m hx1
 have HS1:=Sd.m hs1
 have HFI:=Sd.m (show bs_.f 1 [] x.f1=some (-1) from rfl)
 have HCN:=Sd.m (show Kd.C k93 W1 none ([]:List S93).length [] from C_nil _ _)
 clear hw hb1 hx1 hs1 hx0 hx4
 go_enter Tryz.func133,Tryz.ntmps133
 go_wp2_with fail
 rw [←hW1]
 clear hW1
 refine (bs_.calls 1 none 0 [] x.f1 (-1) W1 HCN.out (Nat.le_refl _) HFI.out).mono ?_
 rintro e V_ ⟨rfl,⟨nq,rfl⟩⟩
 obtain ⟨V,hV⟩: ∃ W_,W_=W1.drewN nq:=⟨_,rfl⟩
 have hb:Below W1.heap.size W1 V:=by rw [hV];exact ad_ (Below.refl _ _) nq
 have hxv:=ag_ HX1.out hb
 have HBV:=Sd.m (HB1.out.trans (hb.mono HB1.out.size))
 have HXV:=Sd.m hxv
 have HSV:=Sd.m hb.size
 rw [←hV]
 have x4:=bc_ hxv 4 rfl
 have x5:=bc_ hxv 5 rfl
 have x6:=bc_ hxv 6 rfl
 have x7:=bc_ hxv 7 rfl
 have x8:=bc_ hxv 8 rfl
 clear hV hb hxv
 go_wp2_with fail
 refine (HW.out V HBV.out).mono ?_
 rintro e V2 ⟨v,rfl,⟨A1,c1,A2,c2,A3,c3,rfl,l1,g1,l2,g2,l3,g3⟩,hb⟩
 clear x4 x5 x6 x7 x8
 have hb3:Below V2.heap.size V2 (V2.alloc (.cells #[.int .i64 p.f0,.slice A1 p.f1.length c1,.slice A2 p.f2.length c2,.slice A3 p.f3.length c3] 45)):=ab_ (Below.refl _ _) _
 have hp3:=aj_ V2 (.cells #[.int .i64 p.f0,.slice A1 p.f1.length c1,.slice A2 p.f2.length c2,.slice A3 p.f3.length c3] 45)
 obtain ⟨V3,hV3⟩: ∃ W_,W_=V2.alloc (.cells #[.int .i64 p.f0,.slice A1 p.f1.length c1,.slice A2 p.f2.length c2,.slice A3 p.f3.length c3] 45):=⟨_,rfl⟩
 rw [←hV3] at hb3 hp3
 have hbV3:=hb.trans (hb3.mono hb.size)
 have hx3:=ag_ HXV.out hbV3
 have y1:=bc_ hx3 1 rfl
 have y4:=bc_ hx3 4 rfl
 have y6:=bc_ hx3 14 rfl
 have p0:=bc_ hp3 0 rfl
 have p1:=bc_ hp3 1 rfl
 have p2:=bc_ hp3 2 rfl
 have p3:=bc_ hp3 3 rfl
 have HV3:=Sd.m hV3
 clear hV3
 go_upto_region 10 with fail
 rw [←HV3.out]
 go_wp2_with fail
 have hS1:=HS1.out
 have hV2V3:V2.heap.size<V3.heap.size:=cb_ hp3
 have hVs:=HSV.out
 have hbVs:=hbV3.size
 have hWV3:W.heap.size<V3.heap.size:=by omega
 have hWs3:W.heap.size<V3.heap.size:=hWV3
 obtain ⟨Vd,hVd⟩: ∃ W_,W_=V3.drew:=⟨_,rfl⟩
 have hbd:Below V3.heap.size V3 Vd:=by rw [hVd];exact cg_ (Below.refl _ _)
 have hsd:Vd.heap.size=V3.heap.size:=by rw [hVd];rfl
 have BW3:=Sd.m ((HBV.out.trans (hbV3.mono HBV.out.size)).trans (hbd.mono (HBV.out.trans (hbV3.mono HBV.out.size)).size))
 have S6: ∀ w',Below Vd.heap.size Vd w'->w'.cell? ⟨W.heap.size,1,none⟩=some (.string x.f1)∧w'.cell? ⟨W.heap.size,14,none⟩=some (.int .i64 x.f6)∧w'.cell? ⟨V2.heap.size,0,none⟩=some (.int .i64 p.f0)∧w'.cell? ⟨V2.heap.size,1,none⟩=some (.slice A1 p.f1.length c1)∧w'.cell? ⟨V2.heap.size,2,none⟩=some (.slice A2 p.f2.length c2)∧w'.cell? ⟨V2.heap.size,3,none⟩=some (.slice A3 p.f3.length c3):=by
  intro w' hw'
  have hq:=hbd.trans (hw'.mono hbd.size)
  have a1:=ag_ hx3 hq
  have a2:=ag_ hp3 hq
  exact ⟨(ae_ a1 1).trans rfl,(ae_ a1 14).trans rfl,(ae_ a2 0).trans rfl,(ae_ a2 1).trans rfl,(ae_ a2 2).trans rfl,(ae_ a2 3).trans rfl⟩
 have HS6:=Sd.m S6
 have BD:=Sd.m (Below.refl Vd.heap.size Vd)
 have HNIL:=Sd.m (fun (a:Addr) (w:World)=>run_append_nil (P:=Tryz.prog) (W:=w) 22 22 93 (.agg #[.string ⟨#[]⟩,.int .i64 0,.slice none 0 0,.slice none 0 0,.slice none 0 0,.bool false,.int .i64 0]) 7 112 Tryz.underlying22 (by kernel_rfl) a)
 have hok: ∀ b:Nat,Vd.heap.size<=b-> ∀ k,((False∨V.heap.size<=k)∧k<V2.heap.size)->(W.heap.size<=k∧k≠b):=fun b hb k hk=>by have:=hk.1.resolve_left (fun h=>h);omega
 have APP:Sd (∀ (bE bL:Nat) (Wj:World),Wj.heap[bE]? =some (.cells #[] 93 (0,0))->Wj.heap[bL]? =some (.cells #[.string x.f1,.int .i64 p.f0,.slice A1 p.f1.length c1,.slice A2 p.f2.length c2,.slice A3 p.f3.length c3,.bool true,.int .i64 x.f6] 93 (0,0))->bE≠bL->Vd.heap.size<=bE->Vd.heap.size<=bL->Below Vd.heap.size Vd Wj->
   ∃ AA cA wA,(Builtin.append_ #[22,22] 22 #[.slice (some ⟨bE,0,none⟩) 0 0,.slice (some ⟨bL,0,none⟩) 1 1]).run Tryz.prog Wj=.ok (.slice AA 1 cA) wA∧Kd.N k93 93 wA W.heap.size (fun k=>W.heap.size<=k) (.slice AA 1 cA) [⟨x.f1,p,true,x.f6⟩]∧Below Vd.heap.size Vd wA∧Below W.heap.size W wA):=by
  refine ⟨fun bE bL Wj hE hL hne hge hgl hbj=>?_⟩
  have hdj:=hbd.trans (hbj.mono hbd.size)
  have hFK:Kd.FK k93 Wj (fun k=>W.heap.size<=k∧k≠bE) ⟨x.f1,p,true,x.f6⟩ [.string x.f1,.int .i64 p.f0,.slice A1 p.f1.length c1,.slice A2 p.f2.length c2,.slice A3 p.f3.length c3,.bool true,.int .i64 x.f6]:=k93_mkF _ _ ⟨x.f1,p,true,x.f6⟩ l1 (F_mono (F_below (F_below (F_bound g1) hb3) hdj) (hok bE hge)) l2 (F_mono (F_below (F_below (F_bound g2) hb3) hdj) (hok bE hge)) l3 (F_mono (F_below (F_below (F_bound g3) hb3) hdj) (hok bE hge))
  obtain ⟨vA,wA,hrunA,hNA,hgA,hatA⟩:=eh_ (P:=Tryz.prog) k93 (W:=Wj) W.heap.size 22 22 93 (.agg #[.string ⟨#[]⟩,.int .i64 0,.slice none 0 0,.slice none 0 0,.slice none 0 0,.bool false,.int .i64 0]) 112 Tryz.underlying22 (by kernel_rfl) rfl (by decide) (by decide) (.slice (some ⟨bE,0,none⟩) 0 0) [] [⟨x.f1,p,true,x.f6⟩] (some ⟨bL,0,none⟩) 1 1 (fun k=>W.heap.size<=k) (fun k=>W.heap.size<=k∧k≠bE) (N_empty k93 hE _ (by omega) _ (by omega)) (F_one (cs:=[.string x.f1,.int .i64 p.f0,.slice A1 p.f1.length c1,.slice A2 p.f2.length c2,.slice A3 p.f3.length c3,.bool true,.int .i64 x.f6]) hL ⟨by omega,fun e=>hne e.symm⟩ hFK) (fun k hk=>⟨hk.1,by simp [Value.ownBlock];omega⟩) (fun k hk=>Nat.le_trans (Nat.le_trans (by omega:W.heap.size<=Vd.heap.size) hbj.size) hk) (Nat.le_trans (by omega:W.heap.size<=Vd.heap.size) hbj.size) (by decide)
  obtain ⟨AA,cA,rfl⟩:=N_slice hNA
  have hown: ∀ k,(Value.slice (some ⟨bE,0,none⟩) 0 0).ownBlock=some k->Vd.heap.size<=k:=fun k hk=>Nat.le_trans hge (Nat.le_of_eq (show bE=k from by simpa [Value.ownBlock] using hk))
  exact ⟨AA,cA,wA,hrunA,hNA,hbj.grown hgA hbj.size hown,(BW3.out.trans (hbj.mono BW3.out.size)).grown hgA (Nat.le_trans BW3.out.size hbj.size) (fun k hk=>Nat.le_trans BW3.out.size (hown k hk))⟩
 clear hok hsd hb3 hbV3 hx3 hb g1 g2 g3 hp3 S6 hS1 hVs hbVs
 go_upto_region 12 with fail
 -- REGION 12 BEGIN
 refine start_ (n:=14) (S:=fun w'=>w'.cell? ⟨W.heap.size,1,none⟩=some (.string x.f1)∧w'.cell? ⟨W.heap.size,14,none⟩=some (.int .i64 x.f6)∧w'.cell? ⟨V2.heap.size,0,none⟩=some (.int .i64 p.f0)∧w'.cell? ⟨V2.heap.size,1,none⟩=some (.slice A1 p.f1.length c1)∧w'.cell? ⟨V2.heap.size,2,none⟩=some (.slice A2 p.f2.length c2)∧w'.cell? ⟨V2.heap.size,3,none⟩=some (.slice A3 p.f3.length c3)) (ds:=[]) #[false,false,false,false,false,false,false,false,false,false,false,false,false,false] (by kernel_rfl) rfl rfl (by rw [←hVd];exact (HS6.out _ (Below.refl _ _))) (fun hHeld=>?_)
 rw [←hVd] at hHeld ⊢
 clear hVd
 refine pu_ 1 59 ?_
 refine pu_ 3 61 ?_
 refine pu_ 6 64 ?_
 refine pu_ 7 65 ?_
 refine ta_ 4 62 hHeld ?_
 refine ta_ 5 63 hHeld ?_
 refine ta_ 8 66 hHeld ?_
 refine pu_ 9 67 ?_
 refine join_ (σ:=Nat × Nat) 3 #[true,true,true,true,true,true,true,true,true,true,true,false,false,false] (fun s=>[(58,.slice (some ⟨s.1,0,none⟩) 0 0),(60,.slice (some ⟨s.1,0,none⟩) 0 0),(68,.slice (some ⟨s.2,0,none⟩) 1 1)]) (fun s w'=>(w'.cell? ⟨W.heap.size,1,none⟩=some (.string x.f1)∧w'.cell? ⟨W.heap.size,14,none⟩=some (.int .i64 x.f6)∧w'.cell? ⟨V2.heap.size,0,none⟩=some (.int .i64 p.f0)∧w'.cell? ⟨V2.heap.size,1,none⟩=some (.slice A1 p.f1.length c1)∧w'.cell? ⟨V2.heap.size,2,none⟩=some (.slice A2 p.f2.length c2)∧w'.cell? ⟨V2.heap.size,3,none⟩=some (.slice A3 p.f3.length c3))∧w'.heap[s.1]? =some (.cells #[] 93 (0,0))∧w'.heap[s.2]? =some (.cells #[.string x.f1,.int .i64 p.f0,.slice A1 p.f1.length c1,.slice A2 p.f2.length c2,.slice A3 p.f3.length c3,.bool true,.int .i64 x.f6] 93 (0,0))∧s.1≠s.2∧Vd.heap.size<=s.1∧Vd.heap.size<=s.2∧Below Vd.heap.size Vd w') ?_ ?_
 rotate_left
 ·intro hCont
  refine two_ (i:=0) (j:=10) (Ni:=some 58) (Nj:=some 68) #[true,true,false,true,true,true,true,true,true,true,false,false,false,false] #[false,true,false,true,true,true,true,true,true,true,true,false,false,false] rfl rfl rfl rfl (by kernel_rfl) (by decide) (by decide) (fun K hK=>?_) (fun K hK=>?_)
  ·skip
   refine value_ (w1:=?_) (v:=?_) (by rfl) rfl ?_ ?_
   rotate_left 2
   ·go_simp
    constructor
    ·rfl
    ·rfl
   have hE:=aj_ Vd (.cells #[] 93)
   have hb_:=ab_ (Below.refl Vd.heap.size Vd) (.cells #[] 93)
   have hB_:Below Vd.heap.size Vd _:=hb_
   have hs_:(Vd.alloc (.cells #[] 93)).heap.size=Vd.heap.size+1:=Array.size_push _
   generalize Vd.alloc (.cells #[] 93)=Wq1 at hE hb_ hB_ hs_ ⊢
   have HE:=Sd.m hE
   have BWq1:=Sd.m hB_
   clear hE hb_ hB_
   have SZ1:=Sd.m hs_
   clear hs_
   refine hK.out _ _ (HS6.out _ BWq1.out) (fun hHeld=>?_)
   clear hK K
   refine no_ 58 ?_
   refine two_ (i:=2) (j:=10) (Ni:=some 60) (Nj:=some 68) #[true,true,true,true,true,true,true,true,true,true,false,false,false,false] #[true,true,false,true,true,true,true,true,true,true,true,false,false,false] rfl rfl rfl rfl (by kernel_rfl) (by decide) (by decide) (fun K hK=>?_) (fun K hK=>?_)
   ·skip
    refine cq_ rfl (.tmp 58) (.tmp 59) 22 rfl _ _ rfl rfl (HNIL.out _ _) ?_
    refine hK.out _ _ (HS6.out _ BWq1.out) (fun hHeld=>?_)
    clear hK K
    refine no_ 60 ?_
    refine on_ 10 68 (fun K hK=>?_)
    refine value_ (w1:=?_) (v:=?_) (by rfl) rfl ?_ ?_
    rotate_left 2
    ·go_simp
     constructor
     ·rfl
     ·rfl
    have hL:=aj_ Wq1 (.cells #[.string x.f1,.int .i64 p.f0,.slice A1 p.f1.length c1,.slice A2 p.f2.length c2,.slice A3 p.f3.length c3,.bool true,.int .i64 x.f6] 93)
    have hb_:=ab_ (Below.refl Wq1.heap.size Wq1) (.cells #[.string x.f1,.int .i64 p.f0,.slice A1 p.f1.length c1,.slice A2 p.f2.length c2,.slice A3 p.f3.length c3,.bool true,.int .i64 x.f6] 93)
    have hE:=ag_ HE.out hb_
    have hB_:Below Vd.heap.size Vd _:=BWq1.out.trans (hb_.mono BWq1.out.size)
    generalize Wq1.alloc (.cells #[.string x.f1,.int .i64 p.f0,.slice A1 p.f1.length c1,.slice A2 p.f2.length c2,.slice A3 p.f3.length c3,.bool true,.int .i64 x.f6] 93)=Wq2 at hL hb_ hB_ hE ⊢
    clear HE
    have HE:=Sd.m hE
    clear hE
    have HL:=Sd.m hL
    have BWq2:=Sd.m hB_
    clear hL hb_ hB_
    refine hK.out _ _ (HS6.out _ BWq2.out) (fun hHeld=>?_)
    clear hK K
    refine no_ 68 ?_
    exact norm_ (by first | (simp only [putAll,Act.put,List.setIfInBounds_toArray,List.set_cons_zero,List.set_cons_succ];done) | (simp only [putAll,Act.put,List.setIfInBounds_toArray,List.set_cons_zero,List.set_cons_succ];rfl)) (hCont (Vd.heap.size,Wq1.heap.size) _ ⟨hHeld,HE.out,HL.out,by have h1_:=SZ1.out;omega,by have h1_:=SZ1.out;omega,by have h1_:=SZ1.out;omega,BWq2.out⟩)
   ·skip
    refine value_ (w1:=?_) (v:=?_) (by rfl) rfl ?_ ?_
    rotate_left 2
    ·go_simp
     constructor
     ·rfl
     ·rfl
    have hL:=aj_ Wq1 (.cells #[.string x.f1,.int .i64 p.f0,.slice A1 p.f1.length c1,.slice A2 p.f2.length c2,.slice A3 p.f3.length c3,.bool true,.int .i64 x.f6] 93)
    have hb_:=ab_ (Below.refl Wq1.heap.size Wq1) (.cells #[.string x.f1,.int .i64 p.f0,.slice A1 p.f1.length c1,.slice A2 p.f2.length c2,.slice A3 p.f3.length c3,.bool true,.int .i64 x.f6] 93)
    have hE:=ag_ HE.out hb_
    have hB_:Below Vd.heap.size Vd _:=BWq1.out.trans (hb_.mono BWq1.out.size)
    generalize Wq1.alloc (.cells #[.string x.f1,.int .i64 p.f0,.slice A1 p.f1.length c1,.slice A2 p.f2.length c2,.slice A3 p.f3.length c3,.bool true,.int .i64 x.f6] 93)=Wq2 at hL hb_ hB_ hE ⊢
    clear HE
    have HE:=Sd.m hE
    clear hE
    have HL:=Sd.m hL
    have BWq2:=Sd.m hB_
    clear hL hb_ hB_
    refine hK.out _ _ (HS6.out _ BWq2.out) (fun hHeld=>?_)
    clear hK K
    refine no_ 68 ?_
    refine on_ 2 60 (fun K hK=>?_)
    refine cq_ rfl (.tmp 58) (.tmp 59) 22 rfl _ _ rfl rfl (HNIL.out _ _) ?_
    refine hK.out _ _ (HS6.out _ BWq2.out) (fun hHeld=>?_)
    clear hK K
    refine no_ 60 ?_
    exact norm_ (by first | (simp only [putAll,Act.put,List.setIfInBounds_toArray,List.set_cons_zero,List.set_cons_succ];done) | (simp only [putAll,Act.put,List.setIfInBounds_toArray,List.set_cons_zero,List.set_cons_succ];rfl)) (hCont (Vd.heap.size,Wq1.heap.size) _ ⟨hHeld,HE.out,HL.out,by have h1_:=SZ1.out;omega,by have h1_:=SZ1.out;omega,by have h1_:=SZ1.out;omega,BWq2.out⟩)
  ·skip
   refine value_ (w1:=?_) (v:=?_) (by rfl) rfl ?_ ?_
   rotate_left 2
   ·go_simp
    constructor
    ·rfl
    ·rfl
   have hL:=aj_ Vd (.cells #[.string x.f1,.int .i64 p.f0,.slice A1 p.f1.length c1,.slice A2 p.f2.length c2,.slice A3 p.f3.length c3,.bool true,.int .i64 x.f6] 93)
   have hb_:=ab_ (Below.refl Vd.heap.size Vd) (.cells #[.string x.f1,.int .i64 p.f0,.slice A1 p.f1.length c1,.slice A2 p.f2.length c2,.slice A3 p.f3.length c3,.bool true,.int .i64 x.f6] 93)
   have hB_:Below Vd.heap.size Vd _:=hb_
   have hs_:(Vd.alloc (.cells #[.string x.f1,.int .i64 p.f0,.slice A1 p.f1.length c1,.slice A2 p.f2.length c2,.slice A3 p.f3.length c3,.bool true,.int .i64 x.f6] 93)).heap.size=Vd.heap.size+1:=Array.size_push _
   generalize Vd.alloc (.cells #[.string x.f1,.int .i64 p.f0,.slice A1 p.f1.length c1,.slice A2 p.f2.length c2,.slice A3 p.f3.length c3,.bool true,.int .i64 x.f6] 93)=Wq1 at hL hb_ hB_ hs_ ⊢
   have HL:=Sd.m hL
   have BWq1:=Sd.m hB_
   clear hL hb_ hB_
   have SZ1:=Sd.m hs_
   clear hs_
   refine hK.out _ _ (HS6.out _ BWq1.out) (fun hHeld=>?_)
   clear hK K
   refine no_ 68 ?_
   refine on_ 0 58 (fun K hK=>?_)
   refine value_ (w1:=?_) (v:=?_) (by rfl) rfl ?_ ?_
   rotate_left 2
   ·go_simp
    constructor
    ·rfl
    ·rfl
   have hE:=aj_ Wq1 (.cells #[] 93)
   have hb_:=ab_ (Below.refl Wq1.heap.size Wq1) (.cells #[] 93)
   have hL:=ag_ HL.out hb_
   have hB_:Below Vd.heap.size Vd _:=BWq1.out.trans (hb_.mono BWq1.out.size)
   generalize Wq1.alloc (.cells #[] 93)=Wq2 at hE hb_ hB_ hL ⊢
   clear HL
   have HL:=Sd.m hL
   clear hL
   have HE:=Sd.m hE
   have BWq2:=Sd.m hB_
   clear hE hb_ hB_
   refine hK.out _ _ (HS6.out _ BWq2.out) (fun hHeld=>?_)
   clear hK K
   refine no_ 58 ?_
   refine on_ 2 60 (fun K hK=>?_)
   refine cq_ rfl (.tmp 58) (.tmp 59) 22 rfl _ _ rfl rfl (HNIL.out _ _) ?_
   refine hK.out _ _ (HS6.out _ BWq2.out) (fun hHeld=>?_)
   clear hK K
   refine no_ 60 ?_
   exact norm_ (by first | (simp only [putAll,Act.put,List.setIfInBounds_toArray,List.set_cons_zero,List.set_cons_succ];done) | (simp only [putAll,Act.put,List.setIfInBounds_toArray,List.set_cons_zero,List.set_cons_succ];rfl)) (hCont (Wq1.heap.size,Vd.heap.size) _ ⟨hHeld,HE.out,HL.out,by have h1_:=SZ1.out;omega,by have h1_:=SZ1.out;omega,by have h1_:=SZ1.out;omega,BWq2.out⟩)
 rintro ⟨bE,bL⟩ Wj ⟨hHeld,hE,hL,hne,hge,hgl,hbj⟩
 dsimp only at hE hL hne hge hgl
 dsimp only [putAll]
 obtain ⟨AA,cA,wA,hrunA,hNA,hBA,hBW⟩:=APP.out bE bL Wj hE hL hne hge hgl hbj
 have HNA:=Sd.m hNA
 have HBA:=Sd.m hBA
 have HBW:=Sd.m hBW
 clear hE hL hne hge hgl hbj hNA hBA hBW
 refine norm_ (a':=?_) ?_ ?_
 rotate_left
 ·simp only [putAll,Act.put,List.setIfInBounds_toArray,List.set_cons_zero,List.set_cons_succ]
  rfl
 refine on_ 11 69 (fun K hK=>?_)
 refine cq_ rfl (.tmp 60) (.tmp 68) 22 rfl _ _ rfl rfl hrunA ?_
 refine hK.out _ _ (HS6.out _ HBA.out) (fun hHeld=>?_)
 clear hK K
 refine no_ 69 ?_
 refine pu_ 12 4 ?_
 refine pu_ 13 5 ?_
 refine done_ (by kernel_rfl) ?_
 -- REGION 12 END
 all_goals (go_wp2_with fail)
 all_goals (refine bodyPost_ret (hk_ (rs:=[.tmp 4,.tmp 5]) rfl (by simp) (.tmp (.tmp .nil))) rfl ?_;exact ⟨AA,cA,rfl,(N_reads' HNA.out).2.1,N_F HNA.out,HBW.out⟩)
theorem fp_ {P:Program}{α:Type}(d:Kd α){Vd Wj:World}(base:Nat)(t ty e:TypeId)(z:Value)(bytes:Nat)
  (ht:P.underlying t=some (.slice e)) (hinfo:(P.info? e).map (fun i=>(i.zero,i.size,i.bytes))=some (some z,d.sz,bytes)) (hz:z.cells.size=d.sz) (hs0:0<d.sz) (hb0:0<bytes)
  (A1:Option Addr) (k1:Nat) (xs ys:List α) (AL:Option Addr) (cL:Nat) (okN okp:Nat->Prop)
  (HN:Kd.N d e Wj base okN (.slice A1 xs.length k1) xs) (hF:Kd.F d Wj okp AL ys.length ys) (hokp: ∀ k,okp k->okN k∧some k≠(Value.slice A1 xs.length k1).ownBlock)
  (hfresh: ∀ k,Vd.heap.size<=k->okN k) (hbase:base<=Vd.heap.size) (hown: ∀ k,(Value.slice A1 xs.length k1).ownBlock=some k->Vd.heap.size<=k) (hb:Below Vd.heap.size Vd Wj) (hl:(xs.length+ys.length)*bytes<=140737488355328):
  ∃ A2 k2 w2,(Builtin.append_ #[t,t] ty #[.slice A1 xs.length k1,.slice AL ys.length cL]).run P Wj=.ok (.slice A2 (xs ++ ys).length k2) w2∧Kd.N d e w2 base okN (.slice A2 (xs ++ ys).length k2) (xs ++ ys)∧Below Vd.heap.size Vd w2∧
   (∀ k,(Value.slice A2 (xs ++ ys).length k2).ownBlock=some k->Vd.heap.size<=k∧((Value.slice A1 xs.length k1).ownBlock=some k∨Wj.heap.size<=k))∧(∀ b o,Wj.heap[b]? =some o->some b≠(Value.slice A1 xs.length k1).ownBlock->w2.heap[b]? =some o):=by
 obtain ⟨v,w,hrun,hN,hg,hat⟩:=eh_ (P:=P) d (W:=Wj) base t ty e z bytes ht hinfo hz hs0 hb0 (.slice A1 xs.length k1) xs ys AL ys.length cL okN okp HN hF hokp (fun k hk=>hfresh k (Nat.le_trans hb.size hk)) (Nat.le_trans hbase hb.size) hl
 obtain ⟨A2,k2,rfl⟩:=N_slice hN
 refine ⟨A2,k2,w,hrun,hN,hb.grown hg hb.size hown,fun k hk=>?_,fun b o hbo hne=>(hg.block b (cb_ hbo) hne).trans hbo⟩
 rcases hat with h | ⟨b,h,hbb⟩
 ·rw [h] at hk
  exact ⟨hown k hk,Or.inl hk⟩
 ·rw [h] at hk
  injection hk with hk
  subst hk
  exact ⟨Nat.le_trans hb.size hbb,Or.inr hbb⟩
theorem put_first (W:World)(r:S55)(A3:Option Addr)(c3:Nat)(A4:Option Addr)(c4:Nat)(A5:Option Addr)(c5:Nat)(A7:Option Addr)(c7:Nat)(A8:Option Addr)(c8:Nat)(A9:Option Addr)(c9:Nat)(ok:Nat->Prop)
  (hr:Kd.FK k55 W ok r [.int .i64 r.f0,.bool r.f1,.int .i64 r.f2.f0,.slice A3 r.f2.f1.length c3,.slice A4 r.f2.f2.length c4,.slice A5 r.f2.f3.length c5,.int .i64 r.f3.f0,.slice A7 r.f3.f1.length c7,.slice A8 r.f3.f2.length c8,.slice A9 r.f3.f3.length c9,.int .i64 r.f4]):
  Calls Tryz.prog 136 #[.slice none 0 0,.agg #[.int .i64 r.f0,.bool r.f1,.int .i64 r.f2.f0,.slice A3 r.f2.f1.length c3,.slice A4 r.f2.f2.length c4,.slice A5 r.f2.f3.length c5,.int .i64 r.f3.f0,.slice A7 r.f3.f1.length c7,.slice A8 r.f3.f2.length c8,.slice A9 r.f3.f3.length c9,.int .i64 r.f4]] W fun e w'=> ∃ A1 c1,e=.returned (.slice A1 1 c1)∧1<=c1∧Kd.F k55 w' (fun k=>(ok k∧k<W.heap.size)∨W.heap.size<=k) A1 1 [r]∧Below W.heap.size W w':=by
 obtain ⟨W1,hW1⟩: ∃ W_,W_=W.alloc (.cells #[.int .i64 r.f0,.bool r.f1,.int .i64 r.f2.f0,.slice A3 r.f2.f1.length c3,.slice A4 r.f2.f2.length c4,.slice A5 r.f2.f3.length c5,.int .i64 r.f3.f0,.slice A7 r.f3.f1.length c7,.slice A8 r.f3.f2.length c8,.slice A9 r.f3.f3.length c9,.int .i64 r.f4] 55):=⟨_,rfl⟩
 have hb1:Below W.heap.size W W1:=by rw [hW1];exact ab_ (Below.refl W.heap.size W) _
 have hs1:W1.heap.size=W.heap.size+1:=by rw [hW1];exact Array.size_push _
 have hx1:W1.heap[W.heap.size]? =some (.cells #[.int .i64 r.f0,.bool r.f1,.int .i64 r.f2.f0,.slice A3 r.f2.f1.length c3,.slice A4 r.f2.f2.length c4,.slice A5 r.f2.f3.length c5,.int .i64 r.f3.f0,.slice A7 r.f3.f1.length c7,.slice A8 r.f3.f2.length c8,.slice A9 r.f3.f3.length c9,.int .i64 r.f4] 55 (0,0)):=by rw [hW1];exact aj_ W _
 have HW1:=Sd.m hW1
 have HB1:=Sd.m hb1
 have HX1:=Sd.m hx1
 have HS1:=Sd.m hs1
 have HR:=Sd.m hr
 clear hb1 hx1 hs1 hW1 hr
 go_enter Tryz.func136,Tryz.ntmps136
 go_wp2_with fail
 rw [←HW1.out]
 go_loopw [5] (fun t5 Wx=>(t5=.int .i64 0)∧Below W1.heap.size W1 Wx) (fun t5 _=>(1 - intOf t5).toNat)
 case atStart=>exact ⟨rfl,Below.refl _ _⟩
 case round=>
  obtain ⟨hk,hb⟩:=hrel
  have hbx:=ag_ HX1.out hb
  have b0:=bc_ hbx 0 rfl
  have HB:=Sd.m hb
  have HBX:=Sd.m hbx
  clear hb hbx
  subst hk
  go_wp2_with fail
  go_quiet (fail)
  go_wp2_with fail
  obtain ⟨Vd,hVd⟩: ∃ W_,W_=(wr.drewN nq).drew:=⟨_,rfl⟩
  have hbd:Below wr.heap.size wr Vd:=by rw [hVd];exact cg_ (ad_ (Below.refl _ _) nq)
  have hbw:=HB1.out.trans (HB.out.mono HB1.out.size)
  have hbW:=hbw.trans (hbd.mono hbw.size)
  have hxd:=ag_ HBX.out hbd
  have hzd:=cb_ hxd
  have HBW:=Sd.m hbW
  have HS11:Sd (∀ w',Below Vd.heap.size Vd w'->w'.cell? ⟨W.heap.size,0,none⟩=some (.int .i64 r.f0)∧w'.cell? ⟨W.heap.size,1,none⟩=some (.bool r.f1)∧w'.cell? ⟨W.heap.size,2,none⟩=some (.int .i64 r.f2.f0)∧w'.cell? ⟨W.heap.size,3,none⟩=some (.slice A3 r.f2.f1.length c3)∧w'.cell? ⟨W.heap.size,4,none⟩=some (.slice A4 r.f2.f2.length c4)∧w'.cell? ⟨W.heap.size,5,none⟩=some (.slice A5 r.f2.f3.length c5)∧w'.cell? ⟨W.heap.size,6,none⟩=some (.int .i64 r.f3.f0)∧w'.cell? ⟨W.heap.size,7,none⟩=some (.slice A7 r.f3.f1.length c7)∧w'.cell? ⟨W.heap.size,8,none⟩=some (.slice A8 r.f3.f2.length c8)∧w'.cell? ⟨W.heap.size,9,none⟩=some (.slice A9 r.f3.f3.length c9)∧w'.cell? ⟨W.heap.size,10,none⟩=some (.int .i64 r.f4)):=by
   refine ⟨fun w' hw'=>?_⟩
   have a1:=ag_ hxd hw'
   exact ⟨(ae_ a1 0).trans rfl,(ae_ a1 1).trans rfl,(ae_ a1 2).trans rfl,(ae_ a1 3).trans rfl,(ae_ a1 4).trans rfl,(ae_ a1 5).trans rfl,(ae_ a1 6).trans rfl,(ae_ a1 7).trans rfl,(ae_ a1 8).trans rfl,(ae_ a1 9).trans rfl,(ae_ a1 10).trans rfl⟩
  have BD:=Sd.m (Below.refl Vd.heap.size Vd)
  have HU:=Sd.m (show Tryz.prog.underlying 23=some (.slice 55) from Tryz.underlying23)
  have HI:Sd ((Tryz.prog.info? 55).map (fun i=>(i.zero,i.size,i.bytes))=some (some (.agg #[.int .i64 0,.bool false,.int .i64 0,.slice none 0 0,.slice none 0 0,.slice none 0 0,.int .i64 0,.slice none 0 0,.slice none 0 0,.slice none 0 0,.int .i64 0]),11,184)):=⟨by kernel_rfl⟩
  have HO1:Sd (∀ k,(ok k∧k<W.heap.size)->((ok k∧k<W.heap.size)∨W.heap.size<=k)∧k<Vd.heap.size):=⟨fun k hk=>⟨Or.inl hk,Nat.lt_trans hk.2 hzd⟩⟩
  have HO2:Sd (∀ k,Vd.heap.size<=k->((ok k∧k<W.heap.size)∨W.heap.size<=k)):=⟨fun k hk=>Or.inr (by omega)⟩
  have APP1:Sd (∀ (bE:Nat) (Wj:World),Wj.heap[bE]? =some (.cells #[] 55 (0,0))->Vd.heap.size<=bE->Below Vd.heap.size Vd Wj->
    ∃ A1 k1 w1,(Builtin.append_ #[23,23] 23 #[.slice (some ⟨bE,0,none⟩) 0 0,.slice none 0 0]).run Tryz.prog Wj=.ok (.slice A1 0 k1) w1∧Kd.N k55 55 w1 W.heap.size (fun k=>(ok k∧k<W.heap.size)∨W.heap.size<=k) (.slice A1 0 k1) []∧Below Vd.heap.size Vd w1∧
     (∀ k,(Value.slice A1 0 k1).ownBlock=some k->Vd.heap.size<=k∧(bE=k∨Wj.heap.size<=k))∧(∀ b o,Wj.heap[b]? =some o->b≠bE->w1.heap[b]? =some o)):=by
   refine ⟨fun bE Wj hE hge hbj=>?_⟩
   have hown: ∀ k,(Value.slice (some ⟨bE,0,none⟩) 0 0).ownBlock=some k->bE=k:=fun k hk=>by simpa [Value.ownBlock] using hk
   obtain ⟨A1,k1,w1,hrun,hN,hB,hO,hK⟩:=fp_ (P:=Tryz.prog) k55 (Vd:=Vd) (Wj:=Wj) W.heap.size 23 23 55 (.agg #[.int .i64 0,.bool false,.int .i64 0,.slice none 0 0,.slice none 0 0,.slice none 0 0,.int .i64 0,.slice none 0 0,.slice none 0 0,.slice none 0 0,.int .i64 0]) 184 HU.out HI.out rfl (by decide) (by decide) (some ⟨bE,0,none⟩) 0 [] [] none 0 (fun k=>(ok k∧k<W.heap.size)∨W.heap.size<=k) (fun k=>ok k∧k<W.heap.size)
    (N_empty k55 hE _ (by omega) _ (HO2.out _ hge)) (F_nil _ _ _) (fun k hk=>⟨(HO1.out k hk).1,fun he=>by have:=hown k he.symm;have:=(HO1.out k hk).2;omega⟩) HO2.out (by omega) (fun k hk=>(hown k hk) ▸ hge) hbj (by simp)
   exact ⟨A1,k1,w1,hrun,hN,hB,fun k hk=>⟨(hO k hk).1,(hO k hk).2.imp (hown k) id⟩,fun b o hbo hne=>hK b o hbo (fun he=>hne (hown b he.symm).symm)⟩
  have APP2:Sd (∀ (A1:Option Addr) (k1 bL:Nat) (Wj:World),Kd.N k55 55 Wj W.heap.size (fun k=>(ok k∧k<W.heap.size)∨W.heap.size<=k) (.slice A1 0 k1) []->(∀ k,(Value.slice A1 0 k1).ownBlock=some k->Vd.heap.size<=k)->(∀ k,(Value.slice A1 0 k1).ownBlock=some k->k≠bL)->Wj.heap[bL]? =some (.cells #[.int .i64 r.f0,.bool r.f1,.int .i64 r.f2.f0,.slice A3 r.f2.f1.length c3,.slice A4 r.f2.f2.length c4,.slice A5 r.f2.f3.length c5,.int .i64 r.f3.f0,.slice A7 r.f3.f1.length c7,.slice A8 r.f3.f2.length c8,.slice A9 r.f3.f3.length c9,.int .i64 r.f4] 55 (0,0))->Vd.heap.size<=bL->Below Vd.heap.size Vd Wj->
    ∃ A2 k2 w2,(Builtin.append_ #[23,23] 23 #[.slice A1 0 k1,.slice (some ⟨bL,0,none⟩) 1 1]).run Tryz.prog Wj=.ok (.slice A2 1 k2) w2∧Below Vd.heap.size Vd w2∧
    ∃ A3_ k3 w3,(Builtin.append_ #[23,23] 23 #[.slice A2 1 k2,.slice none 0 0]).run Tryz.prog w2=.ok (.slice A3_ 1 k3) w3∧Kd.N k55 55 w3 W.heap.size (fun k=>(ok k∧k<W.heap.size)∨W.heap.size<=k) (.slice A3_ 1 k3) [r]∧Below Vd.heap.size Vd w3):=by
   refine ⟨fun A1 k1 bL Wj hN1 hown hne hL hgl hbj=>?_⟩
   obtain ⟨A2,k2,w2,hrun,hN,hB,hO,hK⟩:=fp_ (P:=Tryz.prog) k55 (Vd:=Vd) (Wj:=Wj) W.heap.size 23 23 55 (.agg #[.int .i64 0,.bool false,.int .i64 0,.slice none 0 0,.slice none 0 0,.slice none 0 0,.int .i64 0,.slice none 0 0,.slice none 0 0,.slice none 0 0,.int .i64 0]) 184 HU.out HI.out rfl (by decide) (by decide) A1 k1 [] [r] (some ⟨bL,0,none⟩) 1 (fun k=>(ok k∧k<W.heap.size)∨W.heap.size<=k) (fun k=>(ok k∧k<W.heap.size)∨k=bL)
    hN1 (F_one (cs:=[.int .i64 r.f0,.bool r.f1,.int .i64 r.f2.f0,.slice A3 r.f2.f1.length c3,.slice A4 r.f2.f2.length c4,.slice A5 r.f2.f3.length c5,.int .i64 r.f3.f0,.slice A7 r.f3.f1.length c7,.slice A8 r.f3.f2.length c8,.slice A9 r.f3.f3.length c9,.int .i64 r.f4]) hL (Or.inr rfl) (FK_mono (FK_below (FK_bound HR.out) (HBW.out.trans (hbj.mono HBW.out.size))) (fun k hk=>Or.inl hk)))
    (fun k hk=>Or.elim hk (fun hk=>⟨(HO1.out k hk).1,fun he=>by have:=hown k he.symm;have:=(HO1.out k hk).2;omega⟩) (fun hk=>⟨hk ▸ HO2.out bL hgl,fun he=>hne k he.symm hk⟩)) HO2.out (by omega) hown hbj (by simp)
   obtain ⟨A3_,k3,w3,hrun3,hN3,hB3,_,_⟩:=fp_ (P:=Tryz.prog) k55 (Vd:=Vd) (Wj:=w2) W.heap.size 23 23 55 (.agg #[.int .i64 0,.bool false,.int .i64 0,.slice none 0 0,.slice none 0 0,.slice none 0 0,.int .i64 0,.slice none 0 0,.slice none 0 0,.slice none 0 0,.int .i64 0]) 184 HU.out HI.out rfl (by decide) (by decide) A2 k2 ([] ++ [r]) [] none 0 (fun k=>(ok k∧k<W.heap.size)∨W.heap.size<=k) (fun k=>False)
    hN (fun W' _=>⟨rfl,by simp,fun h=>absurd h (Nat.lt_irrefl 0)⟩) (fun k hk=>hk.elim) HO2.out (by omega) (fun k hk=>(hO k hk).1) hB (by simp)
   exact ⟨A2,k2,w2,hrun,hB,A3_,k3,w3,hrun3,hN3,hB3⟩
  clear hbd hbw hbW hxd hzd b0
  -- REGION 4
  refine start_ (n:=13) (S:=fun w'=>w'.cell? ⟨W.heap.size,0,none⟩=some (.int .i64 r.f0)∧w'.cell? ⟨W.heap.size,1,none⟩=some (.bool r.f1)∧w'.cell? ⟨W.heap.size,2,none⟩=some (.int .i64 r.f2.f0)∧w'.cell? ⟨W.heap.size,3,none⟩=some (.slice A3 r.f2.f1.length c3)∧w'.cell? ⟨W.heap.size,4,none⟩=some (.slice A4 r.f2.f2.length c4)∧w'.cell? ⟨W.heap.size,5,none⟩=some (.slice A5 r.f2.f3.length c5)∧w'.cell? ⟨W.heap.size,6,none⟩=some (.int .i64 r.f3.f0)∧w'.cell? ⟨W.heap.size,7,none⟩=some (.slice A7 r.f3.f1.length c7)∧w'.cell? ⟨W.heap.size,8,none⟩=some (.slice A8 r.f3.f2.length c8)∧w'.cell? ⟨W.heap.size,9,none⟩=some (.slice A9 r.f3.f3.length c9)∧w'.cell? ⟨W.heap.size,10,none⟩=some (.int .i64 r.f4)) (ds:=[]) #[false,false,false,false,false,false,false,false,false,false,false,false,false] (by kernel_rfl) rfl rfl (by rw [←hVd];exact (HS11.out _ (Below.refl _ _))) (fun hHeld=>?_)
  rw [←hVd] at hHeld ⊢
  clear hVd
  refine pu_ 1 23 ?_
  refine pu_ 2 24 ?_
  refine pu_ 3 25 ?_
  refine pu_ 8 30 ?_
  refine pu_ 9 31 ?_
  refine pu_ 10 32 ?_
  refine ta_ 5 27 hHeld ?_
  refine join_ (σ:=Nat × (Option Addr × Nat) × Nat) 3 #[true,true,true,true,true,true,true,false,true,true,true,false,false] (fun s=>[(22,.slice (some ⟨s.1,0,none⟩) 0 0),(26,.slice s.2.1.1 0 s.2.1.2),(28,.slice (some ⟨s.2.2,0,none⟩) 1 1)]) (fun s w'=>(w'.cell? ⟨W.heap.size,0,none⟩=some (.int .i64 r.f0)∧w'.cell? ⟨W.heap.size,1,none⟩=some (.bool r.f1)∧w'.cell? ⟨W.heap.size,2,none⟩=some (.int .i64 r.f2.f0)∧w'.cell? ⟨W.heap.size,3,none⟩=some (.slice A3 r.f2.f1.length c3)∧w'.cell? ⟨W.heap.size,4,none⟩=some (.slice A4 r.f2.f2.length c4)∧w'.cell? ⟨W.heap.size,5,none⟩=some (.slice A5 r.f2.f3.length c5)∧w'.cell? ⟨W.heap.size,6,none⟩=some (.int .i64 r.f3.f0)∧w'.cell? ⟨W.heap.size,7,none⟩=some (.slice A7 r.f3.f1.length c7)∧w'.cell? ⟨W.heap.size,8,none⟩=some (.slice A8 r.f3.f2.length c8)∧w'.cell? ⟨W.heap.size,9,none⟩=some (.slice A9 r.f3.f3.length c9)∧w'.cell? ⟨W.heap.size,10,none⟩=some (.int .i64 r.f4))∧Kd.N k55 55 w' W.heap.size (fun k=>(ok k∧k<W.heap.size)∨W.heap.size<=k) (.slice s.2.1.1 0 s.2.1.2) []∧(∀ k,(Value.slice s.2.1.1 0 s.2.1.2).ownBlock=some k->Vd.heap.size<=k)∧(∀ k,(Value.slice s.2.1.1 0 s.2.1.2).ownBlock=some k->k≠s.2.2)∧w'.heap[s.2.2]? =some (.cells #[.int .i64 r.f0,.bool r.f1,.int .i64 r.f2.f0,.slice A3 r.f2.f1.length c3,.slice A4 r.f2.f2.length c4,.slice A5 r.f2.f3.length c5,.int .i64 r.f3.f0,.slice A7 r.f3.f1.length c7,.slice A8 r.f3.f2.length c8,.slice A9 r.f3.f3.length c9,.int .i64 r.f4] 55 (0,0))∧Vd.heap.size<=s.2.2∧Below Vd.heap.size Vd w') ?_ ?_
  rotate_left
  ·intro hCont
   refine two_ (i:=0) (j:=6) (Ni:=some 22) (Nj:=some 28) #[true,true,true,true,false,true,false,false,true,true,true,false,false] #[false,true,true,true,false,true,true,false,true,true,true,false,false] rfl rfl rfl rfl (by kernel_rfl) (by decide) (by decide) (fun K hK=>?_) (fun K hK=>?_)
   ·skip
    refine value_ (w1:=?_) (v:=?_) (by rfl) rfl ?_ ?_
    rotate_left 2
    ·go_simp
     constructor
     ·rfl
     ·rfl
    have hE:=aj_ Vd (.cells #[] 55)
    have hb_:=ab_ (Below.refl Vd.heap.size Vd) (.cells #[] 55)
    have hs_:(Vd.alloc (.cells #[] 55)).heap.size=Vd.heap.size+1:=Array.size_push _
    have hB_:Below Vd.heap.size Vd _:=BD.out.trans (hb_.mono BD.out.size)
    generalize Vd.alloc (.cells #[] 55)=Wq1 at hE hb_ hs_ hB_ ⊢
    have HE:=Sd.m hE
    have BWq1:=Sd.m hB_
    have SZ1:=Sd.m hs_
    clear hE hb_ hB_ hs_
    refine hK.out _ _ (HS11.out _ BWq1.out) (fun hHeld=>?_)
    clear hK K
    refine no_ 22 ?_
    refine two_ (i:=4) (j:=6) (Ni:=some 26) (Nj:=some 28) #[true,true,true,true,true,true,false,false,true,true,true,false,false] #[true,true,true,true,false,true,true,false,true,true,true,false,false] rfl rfl rfl rfl (by kernel_rfl) (by decide) (by decide) (fun K hK=>?_) (fun K hK=>?_)
    ·skip
     obtain ⟨A1q,k1q,Wq2,hrun_,hN_,hB_,hO_,hK_⟩:=APP1.out Vd.heap.size Wq1 HE.out (by exact Nat.le_refl _) BWq1.out
     refine cq_ rfl (.tmp 22) (.tmp 25) 23 rfl _ _ rfl rfl hrun_ ?_
     have HN:=Sd.m hN_
     have HO:=Sd.m (fun k hk=>(hO_ k hk).1)
     have BWq2:=Sd.m hB_
     clear hrun_ hN_ hB_ hO_ hK_
     refine hK.out _ _ (HS11.out _ BWq2.out) (fun hHeld=>?_)
     clear hK K
     refine no_ 26 ?_
     refine on_ 6 28 (fun K hK=>?_)
     refine value_ (w1:=?_) (v:=?_) (by rfl) rfl ?_ ?_
     rotate_left 2
     ·go_simp
      constructor
      ·rfl
      ·rfl
     have hL:=aj_ Wq2 (.cells #[.int .i64 r.f0,.bool r.f1,.int .i64 r.f2.f0,.slice A3 r.f2.f1.length c3,.slice A4 r.f2.f2.length c4,.slice A5 r.f2.f3.length c5,.int .i64 r.f3.f0,.slice A7 r.f3.f1.length c7,.slice A8 r.f3.f2.length c8,.slice A9 r.f3.f3.length c9,.int .i64 r.f4] 55)
     have hb_:=ab_ (Below.refl Wq2.heap.size Wq2) (.cells #[.int .i64 r.f0,.bool r.f1,.int .i64 r.f2.f0,.slice A3 r.f2.f1.length c3,.slice A4 r.f2.f2.length c4,.slice A5 r.f2.f3.length c5,.int .i64 r.f3.f0,.slice A7 r.f3.f1.length c7,.slice A8 r.f3.f2.length c8,.slice A9 r.f3.f3.length c9,.int .i64 r.f4] 55)
     have hs_:(Wq2.alloc (.cells #[.int .i64 r.f0,.bool r.f1,.int .i64 r.f2.f0,.slice A3 r.f2.f1.length c3,.slice A4 r.f2.f2.length c4,.slice A5 r.f2.f3.length c5,.int .i64 r.f3.f0,.slice A7 r.f3.f1.length c7,.slice A8 r.f3.f2.length c8,.slice A9 r.f3.f3.length c9,.int .i64 r.f4] 55)).heap.size=Wq2.heap.size+1:=Array.size_push _
     have hNE_:=fun k hk=>Nat.ne_of_lt (N_lt HN.out k hk)
     have hN:=N_below HN.out hb_
     have hB_:Below Vd.heap.size Vd _:=BWq2.out.trans (hb_.mono BWq2.out.size)
     generalize Wq2.alloc (.cells #[.int .i64 r.f0,.bool r.f1,.int .i64 r.f2.f0,.slice A3 r.f2.f1.length c3,.slice A4 r.f2.f2.length c4,.slice A5 r.f2.f3.length c5,.int .i64 r.f3.f0,.slice A7 r.f3.f1.length c7,.slice A8 r.f3.f2.length c8,.slice A9 r.f3.f3.length c9,.int .i64 r.f4] 55)=Wq3 at hL hb_ hs_ hB_ hN ⊢
     clear HN
     have HN:=Sd.m hN
     clear hN
     have HL:=Sd.m hL
     have BWq3:=Sd.m hB_
     have SZ3:=Sd.m hs_
     clear hL hb_ hB_ hs_
     have HNE:=Sd.m hNE_
     clear hNE_
     refine hK.out _ _ (HS11.out _ BWq3.out) (fun hHeld=>?_)
     clear hK K
     refine no_ 28 ?_
     refine norm_ ?_ (hCont (Vd.heap.size,(A1q,k1q),Wq2.heap.size) _ ?_)
     ·first | (simp only [putAll,Act.put,List.setIfInBounds_toArray,List.set_cons_zero,List.set_cons_succ];done) | (simp only [putAll,Act.put,List.setIfInBounds_toArray,List.set_cons_zero,List.set_cons_succ];rfl)
     exact ⟨hHeld,HN.out,HO.out,HNE.out,HL.out,by exact BWq2.out.size,BWq3.out⟩
    ·skip
     refine value_ (w1:=?_) (v:=?_) (by rfl) rfl ?_ ?_
     rotate_left 2
     ·go_simp
      constructor
      ·rfl
      ·rfl
     have hL:=aj_ Wq1 (.cells #[.int .i64 r.f0,.bool r.f1,.int .i64 r.f2.f0,.slice A3 r.f2.f1.length c3,.slice A4 r.f2.f2.length c4,.slice A5 r.f2.f3.length c5,.int .i64 r.f3.f0,.slice A7 r.f3.f1.length c7,.slice A8 r.f3.f2.length c8,.slice A9 r.f3.f3.length c9,.int .i64 r.f4] 55)
     have hb_:=ab_ (Below.refl Wq1.heap.size Wq1) (.cells #[.int .i64 r.f0,.bool r.f1,.int .i64 r.f2.f0,.slice A3 r.f2.f1.length c3,.slice A4 r.f2.f2.length c4,.slice A5 r.f2.f3.length c5,.int .i64 r.f3.f0,.slice A7 r.f3.f1.length c7,.slice A8 r.f3.f2.length c8,.slice A9 r.f3.f3.length c9,.int .i64 r.f4] 55)
     have hs_:(Wq1.alloc (.cells #[.int .i64 r.f0,.bool r.f1,.int .i64 r.f2.f0,.slice A3 r.f2.f1.length c3,.slice A4 r.f2.f2.length c4,.slice A5 r.f2.f3.length c5,.int .i64 r.f3.f0,.slice A7 r.f3.f1.length c7,.slice A8 r.f3.f2.length c8,.slice A9 r.f3.f3.length c9,.int .i64 r.f4] 55)).heap.size=Wq1.heap.size+1:=Array.size_push _
     have hE:=ag_ HE.out hb_
     have hB_:Below Vd.heap.size Vd _:=BWq1.out.trans (hb_.mono BWq1.out.size)
     generalize Wq1.alloc (.cells #[.int .i64 r.f0,.bool r.f1,.int .i64 r.f2.f0,.slice A3 r.f2.f1.length c3,.slice A4 r.f2.f2.length c4,.slice A5 r.f2.f3.length c5,.int .i64 r.f3.f0,.slice A7 r.f3.f1.length c7,.slice A8 r.f3.f2.length c8,.slice A9 r.f3.f3.length c9,.int .i64 r.f4] 55)=Wq2 at hL hb_ hs_ hB_ hE ⊢
     clear HE
     have HE:=Sd.m hE
     clear hE
     have HL:=Sd.m hL
     have BWq2:=Sd.m hB_
     have SZ2:=Sd.m hs_
     clear hL hb_ hB_ hs_
     refine hK.out _ _ (HS11.out _ BWq2.out) (fun hHeld=>?_)
     clear hK K
     refine no_ 28 ?_
     refine on_ 4 26 (fun K hK=>?_)
     obtain ⟨A1q,k1q,Wq3,hrun_,hN_,hB_,hO_,hK_⟩:=APP1.out Vd.heap.size Wq2 HE.out (by exact Nat.le_refl _) BWq2.out
     refine cq_ rfl (.tmp 22) (.tmp 25) 23 rfl _ _ rfl rfl hrun_ ?_
     have hne_:Wq1.heap.size≠Vd.heap.size:=by have h1_:=SZ1.out;have h2_:=SZ2.out;omega
     have hL_:=hK_ _ _ HL.out hne_
     have hNE_: ∀ k,(Value.slice A1q 0 k1q).ownBlock=some k->k≠Wq1.heap.size:=fun k hk=>by have h1_:=SZ1.out;have h2_:=SZ2.out;rcases (hO_ k hk).2 with h3_ | h3_ <;> omega
     clear HL
     have HL:=Sd.m hL_
     have HNE:=Sd.m hNE_
     clear hne_ hL_ hNE_
     have HN:=Sd.m hN_
     have HO:=Sd.m (fun k hk=>(hO_ k hk).1)
     have BWq3:=Sd.m hB_
     clear hrun_ hN_ hB_ hO_ hK_
     refine hK.out _ _ (HS11.out _ BWq3.out) (fun hHeld=>?_)
     clear hK K
     refine no_ 26 ?_
     refine norm_ ?_ (hCont (Vd.heap.size,(A1q,k1q),Wq1.heap.size) _ ?_)
     ·first | (simp only [putAll,Act.put,List.setIfInBounds_toArray,List.set_cons_zero,List.set_cons_succ];done) | (simp only [putAll,Act.put,List.setIfInBounds_toArray,List.set_cons_zero,List.set_cons_succ];rfl)
     exact ⟨hHeld,HN.out,HO.out,HNE.out,HL.out,by exact BWq1.out.size,BWq3.out⟩
   ·skip
    refine value_ (w1:=?_) (v:=?_) (by rfl) rfl ?_ ?_
    rotate_left 2
    ·go_simp
     constructor
     ·rfl
     ·rfl
    have hL:=aj_ Vd (.cells #[.int .i64 r.f0,.bool r.f1,.int .i64 r.f2.f0,.slice A3 r.f2.f1.length c3,.slice A4 r.f2.f2.length c4,.slice A5 r.f2.f3.length c5,.int .i64 r.f3.f0,.slice A7 r.f3.f1.length c7,.slice A8 r.f3.f2.length c8,.slice A9 r.f3.f3.length c9,.int .i64 r.f4] 55)
    have hb_:=ab_ (Below.refl Vd.heap.size Vd) (.cells #[.int .i64 r.f0,.bool r.f1,.int .i64 r.f2.f0,.slice A3 r.f2.f1.length c3,.slice A4 r.f2.f2.length c4,.slice A5 r.f2.f3.length c5,.int .i64 r.f3.f0,.slice A7 r.f3.f1.length c7,.slice A8 r.f3.f2.length c8,.slice A9 r.f3.f3.length c9,.int .i64 r.f4] 55)
    have hs_:(Vd.alloc (.cells #[.int .i64 r.f0,.bool r.f1,.int .i64 r.f2.f0,.slice A3 r.f2.f1.length c3,.slice A4 r.f2.f2.length c4,.slice A5 r.f2.f3.length c5,.int .i64 r.f3.f0,.slice A7 r.f3.f1.length c7,.slice A8 r.f3.f2.length c8,.slice A9 r.f3.f3.length c9,.int .i64 r.f4] 55)).heap.size=Vd.heap.size+1:=Array.size_push _
    have hB_:Below Vd.heap.size Vd _:=BD.out.trans (hb_.mono BD.out.size)
    generalize Vd.alloc (.cells #[.int .i64 r.f0,.bool r.f1,.int .i64 r.f2.f0,.slice A3 r.f2.f1.length c3,.slice A4 r.f2.f2.length c4,.slice A5 r.f2.f3.length c5,.int .i64 r.f3.f0,.slice A7 r.f3.f1.length c7,.slice A8 r.f3.f2.length c8,.slice A9 r.f3.f3.length c9,.int .i64 r.f4] 55)=Wq1 at hL hb_ hs_ hB_ ⊢
    have HL:=Sd.m hL
    have BWq1:=Sd.m hB_
    have SZ1:=Sd.m hs_
    clear hL hb_ hB_ hs_
    refine hK.out _ _ (HS11.out _ BWq1.out) (fun hHeld=>?_)
    clear hK K
    refine no_ 28 ?_
    refine on_ 0 22 (fun K hK=>?_)
    refine value_ (w1:=?_) (v:=?_) (by rfl) rfl ?_ ?_
    rotate_left 2
    ·go_simp
     constructor
     ·rfl
     ·rfl
    have hE:=aj_ Wq1 (.cells #[] 55)
    have hb_:=ab_ (Below.refl Wq1.heap.size Wq1) (.cells #[] 55)
    have hs_:(Wq1.alloc (.cells #[] 55)).heap.size=Wq1.heap.size+1:=Array.size_push _
    have hL:=ag_ HL.out hb_
    have hB_:Below Vd.heap.size Vd _:=BWq1.out.trans (hb_.mono BWq1.out.size)
    generalize Wq1.alloc (.cells #[] 55)=Wq2 at hE hb_ hs_ hB_ hL ⊢
    clear HL
    have HL:=Sd.m hL
    clear hL
    have HE:=Sd.m hE
    have BWq2:=Sd.m hB_
    have SZ2:=Sd.m hs_
    clear hE hb_ hB_ hs_
    refine hK.out _ _ (HS11.out _ BWq2.out) (fun hHeld=>?_)
    clear hK K
    refine no_ 22 ?_
    refine on_ 4 26 (fun K hK=>?_)
    obtain ⟨A1q,k1q,Wq3,hrun_,hN_,hB_,hO_,hK_⟩:=APP1.out Wq1.heap.size Wq2 HE.out (by exact BWq1.out.size) BWq2.out
    refine cq_ rfl (.tmp 22) (.tmp 25) 23 rfl _ _ rfl rfl hrun_ ?_
    have hne_:Vd.heap.size≠Wq1.heap.size:=by have h1_:=SZ1.out;have h2_:=SZ2.out;omega
    have hL_:=hK_ _ _ HL.out hne_
    have hNE_: ∀ k,(Value.slice A1q 0 k1q).ownBlock=some k->k≠Vd.heap.size:=fun k hk=>by have h1_:=SZ1.out;have h2_:=SZ2.out;rcases (hO_ k hk).2 with h3_ | h3_ <;> omega
    clear HL
    have HL:=Sd.m hL_
    have HNE:=Sd.m hNE_
    clear hne_ hL_ hNE_
    have HN:=Sd.m hN_
    have HO:=Sd.m (fun k hk=>(hO_ k hk).1)
    have BWq3:=Sd.m hB_
    clear hrun_ hN_ hB_ hO_ hK_
    refine hK.out _ _ (HS11.out _ BWq3.out) (fun hHeld=>?_)
    clear hK K
    refine no_ 26 ?_
    refine norm_ ?_ (hCont (Wq1.heap.size,(A1q,k1q),Vd.heap.size) _ ?_)
    ·first | (simp only [putAll,Act.put,List.setIfInBounds_toArray,List.set_cons_zero,List.set_cons_succ];done) | (simp only [putAll,Act.put,List.setIfInBounds_toArray,List.set_cons_zero,List.set_cons_succ];rfl)
    exact ⟨hHeld,HN.out,HO.out,HNE.out,HL.out,by exact Nat.le_refl _,BWq3.out⟩
  rintro ⟨bE,⟨A1q,k1q⟩,bL⟩ Wj ⟨hHeld,hN,hO,hne,hL,hgl,hbj⟩
  dsimp only at hN hO hne hL hgl
  dsimp only [putAll]
  obtain ⟨A2,k2,w2,hrun2,hB2,A3_,k3,w3,hrun3,hN3,hB3⟩:=APP2.out A1q k1q bL Wj hN hO hne hL hgl hbj
  have HB2:=Sd.m hB2
  have HN3:=Sd.m hN3
  have HB3:=Sd.m hB3
  clear hN hO hne hL hgl hbj hB2 hN3 hB3
  refine norm_ (a':=?_) ?_ ?_
  rotate_left
  ·simp only [putAll,Act.put,List.setIfInBounds_toArray,List.set_cons_zero,List.set_cons_succ]
   rfl
  refine on_ 7 29 (fun K hK=>?_)
  refine cq_ rfl (.tmp 26) (.tmp 28) 23 rfl _ _ rfl rfl hrun2 ?_
  refine hK.out _ _ (HS11.out _ HB2.out) (fun hHeld=>?_)
  clear hK K
  refine no_ 29 ?_
  refine on_ 11 33 (fun K hK=>?_)
  refine cq_ rfl (.tmp 29) (.tmp 32) 23 rfl _ _ rfl rfl hrun3 ?_
  refine hK.out _ _ (HS11.out _ HB3.out) (fun hHeld=>?_)
  clear hK K
  refine no_ 33 ?_
  refine pu_ 12 4 ?_
  refine done_ (by kernel_rfl) ?_
  go_wp2_with fail
  all_goals
   refine bodyPost_ret (gf_ (r:=.tmp 4) rfl (.tmp .nil)) rfl ?_
   exact ⟨A3_,k3,rfl,(N_reads' HN3.out).2.1,N_F HN3.out,HBW.out.trans (HB3.out.mono HBW.out.size)⟩
theorem put_second (W:World)(r:S55)(A3:Option Addr)(c3:Nat)(A4:Option Addr)(c4:Nat)(A5:Option Addr)(c5:Nat)(A7:Option Addr)(c7:Nat)(A8:Option Addr)(c8:Nat)(A9:Option Addr)(c9:Nat)(ok:Nat->Prop)
  (hr:Kd.FK k55 W ok r [.int .i64 r.f0,.bool r.f1,.int .i64 r.f2.f0,.slice A3 r.f2.f1.length c3,.slice A4 r.f2.f2.length c4,.slice A5 r.f2.f3.length c5,.int .i64 r.f3.f0,.slice A7 r.f3.f1.length c7,.slice A8 r.f3.f2.length c8,.slice A9 r.f3.f3.length c9,.int .i64 r.f4]) (x:S55) (A:Option Addr) (c:Nat) (hc:1<=c) (hx:Kd.F k55 W ok A 1 [x]) (hlt:x.f0<r.f0):
  Calls Tryz.prog 136 #[.slice A 1 c,.agg #[.int .i64 r.f0,.bool r.f1,.int .i64 r.f2.f0,.slice A3 r.f2.f1.length c3,.slice A4 r.f2.f2.length c4,.slice A5 r.f2.f3.length c5,.int .i64 r.f3.f0,.slice A7 r.f3.f1.length c7,.slice A8 r.f3.f2.length c8,.slice A9 r.f3.f3.length c9,.int .i64 r.f4]] W fun e w'=> ∃ A1 c1,e=.returned (.slice A1 2 c1)∧2<=c1∧Kd.F k55 w' (fun k=>(ok k∧k<W.heap.size)∨W.heap.size<=k) A1 2 [x,r]∧Below W.heap.size W w':=by
 obtain ⟨W1,hW1⟩: ∃ W_,W_=W.alloc (.cells #[.int .i64 r.f0,.bool r.f1,.int .i64 r.f2.f0,.slice A3 r.f2.f1.length c3,.slice A4 r.f2.f2.length c4,.slice A5 r.f2.f3.length c5,.int .i64 r.f3.f0,.slice A7 r.f3.f1.length c7,.slice A8 r.f3.f2.length c8,.slice A9 r.f3.f3.length c9,.int .i64 r.f4] 55):=⟨_,rfl⟩
 have hb1:Below W.heap.size W W1:=by rw [hW1];exact ab_ (Below.refl W.heap.size W) _
 have hs1:W1.heap.size=W.heap.size+1:=by rw [hW1];exact Array.size_push _
 have hx1:W1.heap[W.heap.size]? =some (.cells #[.int .i64 r.f0,.bool r.f1,.int .i64 r.f2.f0,.slice A3 r.f2.f1.length c3,.slice A4 r.f2.f2.length c4,.slice A5 r.f2.f3.length c5,.int .i64 r.f3.f0,.slice A7 r.f3.f1.length c7,.slice A8 r.f3.f2.length c8,.slice A9 r.f3.f3.length c9,.int .i64 r.f4] 55 (0,0)):=by rw [hW1];exact aj_ W _
 have HW1:=Sd.m hW1
 have HB1:=Sd.m hb1
 have HX1:=Sd.m hx1
 have HS1:=Sd.m hs1
 have HR:=Sd.m hr
 clear hb1 hx1 hs1 hW1 hr
 have HL:=Sd.m hx
 have HLT:=Sd.m hlt
 clear hx hlt
 have hci:(1:Int)<=(c:Int):=by omega
 go_enter Tryz.func136,Tryz.ntmps136
 go_wp2_with fail
 rw [←HW1.out]
 go_loopw [5] (fun t5 Wx=>(t5=.int .i64 0∨t5=.int .i64 1)∧Below W1.heap.size W1 Wx) (fun t5 _=>(1 - intOf t5).toNat)
 case atStart=>exact ⟨Or.inl rfl,Below.refl _ _⟩
 case round=>
  obtain ⟨hk,hb⟩:=hrel
  have hbx:=ag_ HX1.out hb
  have b0:=bc_ hbx 0 rfl
  have HB:=Sd.m hb
  have HBX:=Sd.m hbx
  clear hb hbx
  rcases hk with rfl | rfl
  ·obtain ⟨ad,q3,d3,q4,d4,q5,d5,q7,d7,q8,d8,q9,d9,rfl,k0,-⟩:=jp_ (Kd.C_below (Kd.F_now HL.out) (HB1.out.trans (HB.out.mono HB1.out.size))) 0 (by decide) (by decide)
   change wr.cell? _=some (.int .i64 x.f0) at k0
   have e0:ad.add ((0:Int).toNat*11)=ad:=by simp [Addr.add]
   rw [e0] at k0
   clear e0
   have hd:=dt__ HLT.out
   go_wp2_with fail
   go_quiet (fail)
   go_wp2_with fail
   go_roundw
   case rel=>exact ⟨Or.inr rfl,HB.out.trans ((ad_ (Below.refl _ _) _).mono HB.out.size)⟩
   case measure=>simp [intOf]
  ·skip
   go_wp2_with fail
   go_quiet (fail)
   go_wp2_with fail
   obtain ⟨Vd,hVd⟩: ∃ W_,W_=(wr.drewN nq).drew:=⟨_,rfl⟩
   have hbd:Below wr.heap.size wr Vd:=by rw [hVd];exact cg_ (ad_ (Below.refl _ _) nq)
   have hbw:=HB1.out.trans (HB.out.mono HB1.out.size)
   have hbW:=hbw.trans (hbd.mono hbw.size)
   have hxd:=ag_ HBX.out hbd
   have hzd:=cb_ hxd
   have HBW:=Sd.m hbW
   have HS11:Sd (∀ w',Below Vd.heap.size Vd w'->w'.cell? ⟨W.heap.size,0,none⟩=some (.int .i64 r.f0)∧w'.cell? ⟨W.heap.size,1,none⟩=some (.bool r.f1)∧w'.cell? ⟨W.heap.size,2,none⟩=some (.int .i64 r.f2.f0)∧w'.cell? ⟨W.heap.size,3,none⟩=some (.slice A3 r.f2.f1.length c3)∧w'.cell? ⟨W.heap.size,4,none⟩=some (.slice A4 r.f2.f2.length c4)∧w'.cell? ⟨W.heap.size,5,none⟩=some (.slice A5 r.f2.f3.length c5)∧w'.cell? ⟨W.heap.size,6,none⟩=some (.int .i64 r.f3.f0)∧w'.cell? ⟨W.heap.size,7,none⟩=some (.slice A7 r.f3.f1.length c7)∧w'.cell? ⟨W.heap.size,8,none⟩=some (.slice A8 r.f3.f2.length c8)∧w'.cell? ⟨W.heap.size,9,none⟩=some (.slice A9 r.f3.f3.length c9)∧w'.cell? ⟨W.heap.size,10,none⟩=some (.int .i64 r.f4)):=by
    refine ⟨fun w' hw'=>?_⟩
    have a1:=ag_ hxd hw'
    exact ⟨(ae_ a1 0).trans rfl,(ae_ a1 1).trans rfl,(ae_ a1 2).trans rfl,(ae_ a1 3).trans rfl,(ae_ a1 4).trans rfl,(ae_ a1 5).trans rfl,(ae_ a1 6).trans rfl,(ae_ a1 7).trans rfl,(ae_ a1 8).trans rfl,(ae_ a1 9).trans rfl,(ae_ a1 10).trans rfl⟩
   have BD:=Sd.m (Below.refl Vd.heap.size Vd)
   have HU:=Sd.m (show Tryz.prog.underlying 23=some (.slice 55) from Tryz.underlying23)
   have HI:Sd ((Tryz.prog.info? 55).map (fun i=>(i.zero,i.size,i.bytes))=some (some (.agg #[.int .i64 0,.bool false,.int .i64 0,.slice none 0 0,.slice none 0 0,.slice none 0 0,.int .i64 0,.slice none 0 0,.slice none 0 0,.slice none 0 0,.int .i64 0]),11,184)):=⟨by kernel_rfl⟩
   have HO1:Sd (∀ k,(ok k∧k<W.heap.size)->((ok k∧k<W.heap.size)∨W.heap.size<=k)∧k<Vd.heap.size):=⟨fun k hk=>⟨Or.inl hk,Nat.lt_trans hk.2 hzd⟩⟩
   have HO2:Sd (∀ k,Vd.heap.size<=k->((ok k∧k<W.heap.size)∨W.heap.size<=k)):=⟨fun k hk=>Or.inr (by omega)⟩
   have APP1:Sd (∀ (bE:Nat) (Wj:World),Wj.heap[bE]? =some (.cells #[] 55 (0,0))->Vd.heap.size<=bE->Below Vd.heap.size Vd Wj->
     ∃ A1 k1 w1,(Builtin.append_ #[23,23] 23 #[.slice (some ⟨bE,0,none⟩) 0 0,.slice A 1 c]).run Tryz.prog Wj=.ok (.slice A1 1 k1) w1∧Kd.N k55 55 w1 W.heap.size (fun k=>(ok k∧k<W.heap.size)∨W.heap.size<=k) (.slice A1 1 k1) [x]∧Below Vd.heap.size Vd w1∧
      (∀ k,(Value.slice A1 1 k1).ownBlock=some k->Vd.heap.size<=k∧(bE=k∨Wj.heap.size<=k))∧(∀ b o,Wj.heap[b]? =some o->b≠bE->w1.heap[b]? =some o)):=by
    refine ⟨fun bE Wj hE hge hbj=>?_⟩
    have hown: ∀ k,(Value.slice (some ⟨bE,0,none⟩) 0 0).ownBlock=some k->bE=k:=fun k hk=>by simpa [Value.ownBlock] using hk
    obtain ⟨A1,k1,w1,hrun,hN,hB,hO,hK⟩:=fp_ (P:=Tryz.prog) k55 (Vd:=Vd) (Wj:=Wj) W.heap.size 23 23 55 (.agg #[.int .i64 0,.bool false,.int .i64 0,.slice none 0 0,.slice none 0 0,.slice none 0 0,.int .i64 0,.slice none 0 0,.slice none 0 0,.slice none 0 0,.int .i64 0]) 184 HU.out HI.out rfl (by decide) (by decide) (some ⟨bE,0,none⟩) 0 [] [x] A c (fun k=>(ok k∧k<W.heap.size)∨W.heap.size<=k) (fun k=>ok k∧k<W.heap.size)
     (N_empty k55 hE _ (by omega) _ (HO2.out _ hge)) (F_below (F_bound HL.out) (HBW.out.trans (hbj.mono HBW.out.size))) (fun k hk=>⟨(HO1.out k hk).1,fun he=>by have:=hown k he.symm;have:=(HO1.out k hk).2;omega⟩) HO2.out (by omega) (fun k hk=>(hown k hk) ▸ hge) hbj (by simp)
    exact ⟨A1,k1,w1,hrun,hN,hB,fun k hk=>⟨(hO k hk).1,(hO k hk).2.imp (hown k) id⟩,fun b o hbo hne=>hK b o hbo (fun he=>hne (hown b he.symm).symm)⟩
   have APP2:Sd (∀ (A1:Option Addr) (k1 bL:Nat) (Wj:World),Kd.N k55 55 Wj W.heap.size (fun k=>(ok k∧k<W.heap.size)∨W.heap.size<=k) (.slice A1 1 k1) [x]->(∀ k,(Value.slice A1 1 k1).ownBlock=some k->Vd.heap.size<=k)->(∀ k,(Value.slice A1 1 k1).ownBlock=some k->k≠bL)->Wj.heap[bL]? =some (.cells #[.int .i64 r.f0,.bool r.f1,.int .i64 r.f2.f0,.slice A3 r.f2.f1.length c3,.slice A4 r.f2.f2.length c4,.slice A5 r.f2.f3.length c5,.int .i64 r.f3.f0,.slice A7 r.f3.f1.length c7,.slice A8 r.f3.f2.length c8,.slice A9 r.f3.f3.length c9,.int .i64 r.f4] 55 (0,0))->Vd.heap.size<=bL->Below Vd.heap.size Vd Wj->
     ∃ A2 k2 w2,(Builtin.append_ #[23,23] 23 #[.slice A1 1 k1,.slice (some ⟨bL,0,none⟩) 1 1]).run Tryz.prog Wj=.ok (.slice A2 2 k2) w2∧Below Vd.heap.size Vd w2∧
     ∃ A3_ k3 w3,(Builtin.append_ #[23,23] 23 #[.slice A2 2 k2,.slice (if c=1 then A else A.map (·.add 11)) 0 (c - 1)]).run Tryz.prog w2=.ok (.slice A3_ 2 k3) w3∧Kd.N k55 55 w3 W.heap.size (fun k=>(ok k∧k<W.heap.size)∨W.heap.size<=k) (.slice A3_ 2 k3) [x,r]∧Below Vd.heap.size Vd w3):=by
    refine ⟨fun A1 k1 bL Wj hN1 hown hne hL hgl hbj=>?_⟩
    obtain ⟨A2,k2,w2,hrun,hN,hB,hO,hK⟩:=fp_ (P:=Tryz.prog) k55 (Vd:=Vd) (Wj:=Wj) W.heap.size 23 23 55 (.agg #[.int .i64 0,.bool false,.int .i64 0,.slice none 0 0,.slice none 0 0,.slice none 0 0,.int .i64 0,.slice none 0 0,.slice none 0 0,.slice none 0 0,.int .i64 0]) 184 HU.out HI.out rfl (by decide) (by decide) A1 k1 [x] [r] (some ⟨bL,0,none⟩) 1 (fun k=>(ok k∧k<W.heap.size)∨W.heap.size<=k) (fun k=>(ok k∧k<W.heap.size)∨k=bL)
     hN1 (F_one (cs:=[.int .i64 r.f0,.bool r.f1,.int .i64 r.f2.f0,.slice A3 r.f2.f1.length c3,.slice A4 r.f2.f2.length c4,.slice A5 r.f2.f3.length c5,.int .i64 r.f3.f0,.slice A7 r.f3.f1.length c7,.slice A8 r.f3.f2.length c8,.slice A9 r.f3.f3.length c9,.int .i64 r.f4]) hL (Or.inr rfl) (FK_mono (FK_below (FK_bound HR.out) (HBW.out.trans (hbj.mono HBW.out.size))) (fun k hk=>Or.inl hk)))
     (fun k hk=>Or.elim hk (fun hk=>⟨(HO1.out k hk).1,fun he=>by have:=hown k he.symm;have:=(HO1.out k hk).2;omega⟩) (fun hk=>⟨hk ▸ HO2.out bL hgl,fun he=>hne k he.symm hk⟩)) HO2.out (by omega) hown hbj (by simp)
    obtain ⟨A3_,k3,w3,hrun3,hN3,hB3,_,_⟩:=fp_ (P:=Tryz.prog) k55 (Vd:=Vd) (Wj:=w2) W.heap.size 23 23 55 (.agg #[.int .i64 0,.bool false,.int .i64 0,.slice none 0 0,.slice none 0 0,.slice none 0 0,.int .i64 0,.slice none 0 0,.slice none 0 0,.slice none 0 0,.int .i64 0]) 184 HU.out HI.out rfl (by decide) (by decide) A2 k2 ([x] ++ [r]) [] (if c=1 then A else A.map (·.add 11)) (c - 1) (fun k=>(ok k∧k<W.heap.size)∨W.heap.size<=k) (fun k=>False)
     hN (fun W' _=>⟨rfl,by simp,fun h=>absurd h (Nat.lt_irrefl 0)⟩) (fun k hk=>hk.elim) HO2.out (by omega) (fun k hk=>(hO k hk).1) hB (by simp)
    exact ⟨A2,k2,w2,hrun,hB,A3_,k3,w3,hrun3,hN3,hB3⟩
   clear hbd hbw hbW hxd hzd b0
   -- REGION 4
   refine start_ (n:=13) (S:=fun w'=>w'.cell? ⟨W.heap.size,0,none⟩=some (.int .i64 r.f0)∧w'.cell? ⟨W.heap.size,1,none⟩=some (.bool r.f1)∧w'.cell? ⟨W.heap.size,2,none⟩=some (.int .i64 r.f2.f0)∧w'.cell? ⟨W.heap.size,3,none⟩=some (.slice A3 r.f2.f1.length c3)∧w'.cell? ⟨W.heap.size,4,none⟩=some (.slice A4 r.f2.f2.length c4)∧w'.cell? ⟨W.heap.size,5,none⟩=some (.slice A5 r.f2.f3.length c5)∧w'.cell? ⟨W.heap.size,6,none⟩=some (.int .i64 r.f3.f0)∧w'.cell? ⟨W.heap.size,7,none⟩=some (.slice A7 r.f3.f1.length c7)∧w'.cell? ⟨W.heap.size,8,none⟩=some (.slice A8 r.f3.f2.length c8)∧w'.cell? ⟨W.heap.size,9,none⟩=some (.slice A9 r.f3.f3.length c9)∧w'.cell? ⟨W.heap.size,10,none⟩=some (.int .i64 r.f4)) (ds:=[]) #[false,false,false,false,false,false,false,false,false,false,false,false,false] (by kernel_rfl) rfl rfl (by rw [←hVd];exact (HS11.out _ (Below.refl _ _))) (fun hHeld=>?_)
   rw [←hVd] at hHeld ⊢
   clear hVd
   refine pu_ 1 23 ?_
   refine pu_ 2 24 ?_
   refine pu_ 3 25 ?_
   refine pu_ 8 30 ?_
   refine pu_ 9 31 ?_
   refine pu_ 10 32 ?_
   refine ta_ 5 27 hHeld ?_
   refine join_ (σ:=Nat × (Option Addr × Nat) × Nat) 3 #[true,true,true,true,true,true,true,false,true,true,true,false,false] (fun s=>[(22,.slice (some ⟨s.1,0,none⟩) 0 0),(26,.slice s.2.1.1 1 s.2.1.2),(28,.slice (some ⟨s.2.2,0,none⟩) 1 1)]) (fun s w'=>(w'.cell? ⟨W.heap.size,0,none⟩=some (.int .i64 r.f0)∧w'.cell? ⟨W.heap.size,1,none⟩=some (.bool r.f1)∧w'.cell? ⟨W.heap.size,2,none⟩=some (.int .i64 r.f2.f0)∧w'.cell? ⟨W.heap.size,3,none⟩=some (.slice A3 r.f2.f1.length c3)∧w'.cell? ⟨W.heap.size,4,none⟩=some (.slice A4 r.f2.f2.length c4)∧w'.cell? ⟨W.heap.size,5,none⟩=some (.slice A5 r.f2.f3.length c5)∧w'.cell? ⟨W.heap.size,6,none⟩=some (.int .i64 r.f3.f0)∧w'.cell? ⟨W.heap.size,7,none⟩=some (.slice A7 r.f3.f1.length c7)∧w'.cell? ⟨W.heap.size,8,none⟩=some (.slice A8 r.f3.f2.length c8)∧w'.cell? ⟨W.heap.size,9,none⟩=some (.slice A9 r.f3.f3.length c9)∧w'.cell? ⟨W.heap.size,10,none⟩=some (.int .i64 r.f4))∧Kd.N k55 55 w' W.heap.size (fun k=>(ok k∧k<W.heap.size)∨W.heap.size<=k) (.slice s.2.1.1 1 s.2.1.2) [x]∧(∀ k,(Value.slice s.2.1.1 1 s.2.1.2).ownBlock=some k->Vd.heap.size<=k)∧(∀ k,(Value.slice s.2.1.1 1 s.2.1.2).ownBlock=some k->k≠s.2.2)∧w'.heap[s.2.2]? =some (.cells #[.int .i64 r.f0,.bool r.f1,.int .i64 r.f2.f0,.slice A3 r.f2.f1.length c3,.slice A4 r.f2.f2.length c4,.slice A5 r.f2.f3.length c5,.int .i64 r.f3.f0,.slice A7 r.f3.f1.length c7,.slice A8 r.f3.f2.length c8,.slice A9 r.f3.f3.length c9,.int .i64 r.f4] 55 (0,0))∧Vd.heap.size<=s.2.2∧Below Vd.heap.size Vd w') ?_ ?_
   rotate_left
   ·intro hCont
    refine two_ (i:=0) (j:=6) (Ni:=some 22) (Nj:=some 28) #[true,true,true,true,false,true,false,false,true,true,true,false,false] #[false,true,true,true,false,true,true,false,true,true,true,false,false] rfl rfl rfl rfl (by kernel_rfl) (by decide) (by decide) (fun K hK=>?_) (fun K hK=>?_)
    ·skip
     refine value_ (w1:=?_) (v:=?_) (by rfl) rfl ?_ ?_
     rotate_left 2
     ·go_simp
      constructor
      ·rfl
      ·rfl
     have hE:=aj_ Vd (.cells #[] 55)
     have hb_:=ab_ (Below.refl Vd.heap.size Vd) (.cells #[] 55)
     have hs_:(Vd.alloc (.cells #[] 55)).heap.size=Vd.heap.size+1:=Array.size_push _
     have hB_:Below Vd.heap.size Vd _:=BD.out.trans (hb_.mono BD.out.size)
     generalize Vd.alloc (.cells #[] 55)=Wq1 at hE hb_ hs_ hB_ ⊢
     have HE:=Sd.m hE
     have BWq1:=Sd.m hB_
     have SZ1:=Sd.m hs_
     clear hE hb_ hB_ hs_
     refine hK.out _ _ (HS11.out _ BWq1.out) (fun hHeld=>?_)
     clear hK K
     refine no_ 22 ?_
     refine two_ (i:=4) (j:=6) (Ni:=some 26) (Nj:=some 28) #[true,true,true,true,true,true,false,false,true,true,true,false,false] #[true,true,true,true,false,true,true,false,true,true,true,false,false] rfl rfl rfl rfl (by kernel_rfl) (by decide) (by decide) (fun K hK=>?_) (fun K hK=>?_)
     ·skip
      obtain ⟨A1q,k1q,Wq2,hrun_,hN_,hB_,hO_,hK_⟩:=APP1.out Vd.heap.size Wq1 HE.out (by exact Nat.le_refl _) BWq1.out
      refine cq_ rfl (.tmp 22) (.tmp 25) 23 rfl _ _ rfl rfl hrun_ ?_
      have HN:=Sd.m hN_
      have HO:=Sd.m (fun k hk=>(hO_ k hk).1)
      have BWq2:=Sd.m hB_
      clear hrun_ hN_ hB_ hO_ hK_
      refine hK.out _ _ (HS11.out _ BWq2.out) (fun hHeld=>?_)
      clear hK K
      refine no_ 26 ?_
      refine on_ 6 28 (fun K hK=>?_)
      refine value_ (w1:=?_) (v:=?_) (by rfl) rfl ?_ ?_
      rotate_left 2
      ·go_simp
       constructor
       ·rfl
       ·rfl
      have hL:=aj_ Wq2 (.cells #[.int .i64 r.f0,.bool r.f1,.int .i64 r.f2.f0,.slice A3 r.f2.f1.length c3,.slice A4 r.f2.f2.length c4,.slice A5 r.f2.f3.length c5,.int .i64 r.f3.f0,.slice A7 r.f3.f1.length c7,.slice A8 r.f3.f2.length c8,.slice A9 r.f3.f3.length c9,.int .i64 r.f4] 55)
      have hb_:=ab_ (Below.refl Wq2.heap.size Wq2) (.cells #[.int .i64 r.f0,.bool r.f1,.int .i64 r.f2.f0,.slice A3 r.f2.f1.length c3,.slice A4 r.f2.f2.length c4,.slice A5 r.f2.f3.length c5,.int .i64 r.f3.f0,.slice A7 r.f3.f1.length c7,.slice A8 r.f3.f2.length c8,.slice A9 r.f3.f3.length c9,.int .i64 r.f4] 55)
      have hs_:(Wq2.alloc (.cells #[.int .i64 r.f0,.bool r.f1,.int .i64 r.f2.f0,.slice A3 r.f2.f1.length c3,.slice A4 r.f2.f2.length c4,.slice A5 r.f2.f3.length c5,.int .i64 r.f3.f0,.slice A7 r.f3.f1.length c7,.slice A8 r.f3.f2.length c8,.slice A9 r.f3.f3.length c9,.int .i64 r.f4] 55)).heap.size=Wq2.heap.size+1:=Array.size_push _
      have hNE_:=fun k hk=>Nat.ne_of_lt (N_lt HN.out k hk)
      have hN:=N_below HN.out hb_
      have hB_:Below Vd.heap.size Vd _:=BWq2.out.trans (hb_.mono BWq2.out.size)
      generalize Wq2.alloc (.cells #[.int .i64 r.f0,.bool r.f1,.int .i64 r.f2.f0,.slice A3 r.f2.f1.length c3,.slice A4 r.f2.f2.length c4,.slice A5 r.f2.f3.length c5,.int .i64 r.f3.f0,.slice A7 r.f3.f1.length c7,.slice A8 r.f3.f2.length c8,.slice A9 r.f3.f3.length c9,.int .i64 r.f4] 55)=Wq3 at hL hb_ hs_ hB_ hN ⊢
      clear HN
      have HN:=Sd.m hN
      clear hN
      have HL:=Sd.m hL
      have BWq3:=Sd.m hB_
      have SZ3:=Sd.m hs_
      clear hL hb_ hB_ hs_
      have HNE:=Sd.m hNE_
      clear hNE_
      refine hK.out _ _ (HS11.out _ BWq3.out) (fun hHeld=>?_)
      clear hK K
      refine no_ 28 ?_
      refine norm_ ?_ (hCont (Vd.heap.size,(A1q,k1q),Wq2.heap.size) _ ?_)
      ·first | (simp only [putAll,Act.put,List.setIfInBounds_toArray,List.set_cons_zero,List.set_cons_succ];done) | (simp only [putAll,Act.put,List.setIfInBounds_toArray,List.set_cons_zero,List.set_cons_succ];rfl)
      exact ⟨hHeld,HN.out,HO.out,HNE.out,HL.out,by exact BWq2.out.size,BWq3.out⟩
     ·skip
      refine value_ (w1:=?_) (v:=?_) (by rfl) rfl ?_ ?_
      rotate_left 2
      ·go_simp
       constructor
       ·rfl
       ·rfl
      have hL:=aj_ Wq1 (.cells #[.int .i64 r.f0,.bool r.f1,.int .i64 r.f2.f0,.slice A3 r.f2.f1.length c3,.slice A4 r.f2.f2.length c4,.slice A5 r.f2.f3.length c5,.int .i64 r.f3.f0,.slice A7 r.f3.f1.length c7,.slice A8 r.f3.f2.length c8,.slice A9 r.f3.f3.length c9,.int .i64 r.f4] 55)
      have hb_:=ab_ (Below.refl Wq1.heap.size Wq1) (.cells #[.int .i64 r.f0,.bool r.f1,.int .i64 r.f2.f0,.slice A3 r.f2.f1.length c3,.slice A4 r.f2.f2.length c4,.slice A5 r.f2.f3.length c5,.int .i64 r.f3.f0,.slice A7 r.f3.f1.length c7,.slice A8 r.f3.f2.length c8,.slice A9 r.f3.f3.length c9,.int .i64 r.f4] 55)
      have hs_:(Wq1.alloc (.cells #[.int .i64 r.f0,.bool r.f1,.int .i64 r.f2.f0,.slice A3 r.f2.f1.length c3,.slice A4 r.f2.f2.length c4,.slice A5 r.f2.f3.length c5,.int .i64 r.f3.f0,.slice A7 r.f3.f1.length c7,.slice A8 r.f3.f2.length c8,.slice A9 r.f3.f3.length c9,.int .i64 r.f4] 55)).heap.size=Wq1.heap.size+1:=Array.size_push _
      have hE:=ag_ HE.out hb_
      have hB_:Below Vd.heap.size Vd _:=BWq1.out.trans (hb_.mono BWq1.out.size)
      generalize Wq1.alloc (.cells #[.int .i64 r.f0,.bool r.f1,.int .i64 r.f2.f0,.slice A3 r.f2.f1.length c3,.slice A4 r.f2.f2.length c4,.slice A5 r.f2.f3.length c5,.int .i64 r.f3.f0,.slice A7 r.f3.f1.length c7,.slice A8 r.f3.f2.length c8,.slice A9 r.f3.f3.length c9,.int .i64 r.f4] 55)=Wq2 at hL hb_ hs_ hB_ hE ⊢
      clear HE
      have HE:=Sd.m hE
      clear hE
      have HL:=Sd.m hL
      have BWq2:=Sd.m hB_
      have SZ2:=Sd.m hs_
      clear hL hb_ hB_ hs_
      refine hK.out _ _ (HS11.out _ BWq2.out) (fun hHeld=>?_)
      clear hK K
      refine no_ 28 ?_
      refine on_ 4 26 (fun K hK=>?_)
      obtain ⟨A1q,k1q,Wq3,hrun_,hN_,hB_,hO_,hK_⟩:=APP1.out Vd.heap.size Wq2 HE.out (by exact Nat.le_refl _) BWq2.out
      refine cq_ rfl (.tmp 22) (.tmp 25) 23 rfl _ _ rfl rfl hrun_ ?_
      have hne_:Wq1.heap.size≠Vd.heap.size:=by have h1_:=SZ1.out;have h2_:=SZ2.out;omega
      have hL_:=hK_ _ _ HL.out hne_
      have hNE_: ∀ k,(Value.slice A1q 1 k1q).ownBlock=some k->k≠Wq1.heap.size:=fun k hk=>by have h1_:=SZ1.out;have h2_:=SZ2.out;rcases (hO_ k hk).2 with h3_ | h3_ <;> omega
      clear HL
      have HL:=Sd.m hL_
      have HNE:=Sd.m hNE_
      clear hne_ hL_ hNE_
      have HN:=Sd.m hN_
      have HO:=Sd.m (fun k hk=>(hO_ k hk).1)
      have BWq3:=Sd.m hB_
      clear hrun_ hN_ hB_ hO_ hK_
      refine hK.out _ _ (HS11.out _ BWq3.out) (fun hHeld=>?_)
      clear hK K
      refine no_ 26 ?_
      refine norm_ ?_ (hCont (Vd.heap.size,(A1q,k1q),Wq1.heap.size) _ ?_)
      ·first | (simp only [putAll,Act.put,List.setIfInBounds_toArray,List.set_cons_zero,List.set_cons_succ];done) | (simp only [putAll,Act.put,List.setIfInBounds_toArray,List.set_cons_zero,List.set_cons_succ];rfl)
      exact ⟨hHeld,HN.out,HO.out,HNE.out,HL.out,by exact BWq1.out.size,BWq3.out⟩
    ·skip
     refine value_ (w1:=?_) (v:=?_) (by rfl) rfl ?_ ?_
     rotate_left 2
     ·go_simp
      constructor
      ·rfl
      ·rfl
     have hL:=aj_ Vd (.cells #[.int .i64 r.f0,.bool r.f1,.int .i64 r.f2.f0,.slice A3 r.f2.f1.length c3,.slice A4 r.f2.f2.length c4,.slice A5 r.f2.f3.length c5,.int .i64 r.f3.f0,.slice A7 r.f3.f1.length c7,.slice A8 r.f3.f2.length c8,.slice A9 r.f3.f3.length c9,.int .i64 r.f4] 55)
     have hb_:=ab_ (Below.refl Vd.heap.size Vd) (.cells #[.int .i64 r.f0,.bool r.f1,.int .i64 r.f2.f0,.slice A3 r.f2.f1.length c3,.slice A4 r.f2.f2.length c4,.slice A5 r.f2.f3.length c5,.int .i64 r.f3.f0,.slice A7 r.f3.f1.length c7,.slice A8 r.f3.f2.length c8,.slice A9 r.f3.f3.length c9,.int .i64 r.f4] 55)
     have hs_:(Vd.alloc (.cells #[.int .i64 r.f0,.bool r.f1,.int .i64 r.f2.f0,.slice A3 r.f2.f1.length c3,.slice A4 r.f2.f2.length c4,.slice A5 r.f2.f3.length c5,.int .i64 r.f3.f0,.slice A7 r.f3.f1.length c7,.slice A8 r.f3.f2.length c8,.slice A9 r.f3.f3.length c9,.int .i64 r.f4] 55)).heap.size=Vd.heap.size+1:=Array.size_push _
     have hB_:Below Vd.heap.size Vd _:=BD.out.trans (hb_.mono BD.out.size)
     generalize Vd.alloc (.cells #[.int .i64 r.f0,.bool r.f1,.int .i64 r.f2.f0,.slice A3 r.f2.f1.length c3,.slice A4 r.f2.f2.length c4,.slice A5 r.f2.f3.length c5,.int .i64 r.f3.f0,.slice A7 r.f3.f1.length c7,.slice A8 r.f3.f2.length c8,.slice A9 r.f3.f3.length c9,.int .i64 r.f4] 55)=Wq1 at hL hb_ hs_ hB_ ⊢
     have HL:=Sd.m hL
     have BWq1:=Sd.m hB_
     have SZ1:=Sd.m hs_
     clear hL hb_ hB_ hs_
     refine hK.out _ _ (HS11.out _ BWq1.out) (fun hHeld=>?_)
     clear hK K
     refine no_ 28 ?_
     refine on_ 0 22 (fun K hK=>?_)
     refine value_ (w1:=?_) (v:=?_) (by rfl) rfl ?_ ?_
     rotate_left 2
     ·go_simp
      constructor
      ·rfl
      ·rfl
     have hE:=aj_ Wq1 (.cells #[] 55)
     have hb_:=ab_ (Below.refl Wq1.heap.size Wq1) (.cells #[] 55)
     have hs_:(Wq1.alloc (.cells #[] 55)).heap.size=Wq1.heap.size+1:=Array.size_push _
     have hL:=ag_ HL.out hb_
     have hB_:Below Vd.heap.size Vd _:=BWq1.out.trans (hb_.mono BWq1.out.size)
     generalize Wq1.alloc (.cells #[] 55)=Wq2 at hE hb_ hs_ hB_ hL ⊢
     clear HL
     have HL:=Sd.m hL
     clear hL
     have HE:=Sd.m hE
     have BWq2:=Sd.m hB_
     have SZ2:=Sd.m hs_
     clear hE hb_ hB_ hs_
     refine hK.out _ _ (HS11.out _ BWq2.out) (fun hHeld=>?_)
     clear hK K
     refine no_ 22 ?_
     refine on_ 4 26 (fun K hK=>?_)
     obtain ⟨A1q,k1q,Wq3,hrun_,hN_,hB_,hO_,hK_⟩:=APP1.out Wq1.heap.size Wq2 HE.out (by exact BWq1.out.size) BWq2.out
     refine cq_ rfl (.tmp 22) (.tmp 25) 23 rfl _ _ rfl rfl hrun_ ?_
     have hne_:Vd.heap.size≠Wq1.heap.size:=by have h1_:=SZ1.out;have h2_:=SZ2.out;omega
     have hL_:=hK_ _ _ HL.out hne_
     have hNE_: ∀ k,(Value.slice A1q 1 k1q).ownBlock=some k->k≠Vd.heap.size:=fun k hk=>by have h1_:=SZ1.out;have h2_:=SZ2.out;rcases (hO_ k hk).2 with h3_ | h3_ <;> omega
     clear HL
     have HL:=Sd.m hL_
     have HNE:=Sd.m hNE_
     clear hne_ hL_ hNE_
     have HN:=Sd.m hN_
     have HO:=Sd.m (fun k hk=>(hO_ k hk).1)
     have BWq3:=Sd.m hB_
     clear hrun_ hN_ hB_ hO_ hK_
     refine hK.out _ _ (HS11.out _ BWq3.out) (fun hHeld=>?_)
     clear hK K
     refine no_ 26 ?_
     refine norm_ ?_ (hCont (Wq1.heap.size,(A1q,k1q),Vd.heap.size) _ ?_)
     ·first | (simp only [putAll,Act.put,List.setIfInBounds_toArray,List.set_cons_zero,List.set_cons_succ];done) | (simp only [putAll,Act.put,List.setIfInBounds_toArray,List.set_cons_zero,List.set_cons_succ];rfl)
     exact ⟨hHeld,HN.out,HO.out,HNE.out,HL.out,by exact Nat.le_refl _,BWq3.out⟩
   rintro ⟨bE,⟨A1q,k1q⟩,bL⟩ Wj ⟨hHeld,hN,hO,hne,hL,hgl,hbj⟩
   dsimp only at hN hO hne hL hgl
   dsimp only [putAll]
   obtain ⟨A2,k2,w2,hrun2,hB2,A3_,k3,w3,hrun3,hN3,hB3⟩:=APP2.out A1q k1q bL Wj hN hO hne hL hgl hbj
   have HB2:=Sd.m hB2
   have HN3:=Sd.m hN3
   have HB3:=Sd.m hB3
   clear hN hO hne hL hgl hbj hB2 hN3 hB3
   refine norm_ (a':=?_) ?_ ?_
   rotate_left
   ·simp only [putAll,Act.put,List.setIfInBounds_toArray,List.set_cons_zero,List.set_cons_succ]
    rfl
   refine on_ 7 29 (fun K hK=>?_)
   refine cq_ rfl (.tmp 26) (.tmp 28) 23 rfl _ _ rfl rfl hrun2 ?_
   refine hK.out _ _ (HS11.out _ HB2.out) (fun hHeld=>?_)
   clear hK K
   refine no_ 29 ?_
   refine on_ 11 33 (fun K hK=>?_)
   refine cq_ rfl (.tmp 29) (.tmp 32) 23 rfl _ _ rfl rfl hrun3 ?_
   refine hK.out _ _ (HS11.out _ HB3.out) (fun hHeld=>?_)
   clear hK K
   refine no_ 33 ?_
   refine pu_ 12 4 ?_
   refine done_ (by kernel_rfl) ?_
   go_wp2_with fail
   all_goals
    refine bodyPost_ret (gf_ (r:=.tmp 4) rfl (.tmp .nil)) rfl ?_
    exact ⟨A3_,k3,rfl,(N_reads' HN3.out).2.1,N_F HN3.out,HBW.out.trans (HB3.out.mono HBW.out.size)⟩
theorem one_name (W:World)(x:S87)(A:Option Addr)(c:Nat)(B:Option Addr)(d:Nat)(p:S45)(hx0:x.f0=1)(hx4:x.f4.f0=4)
  (hw: ∀ W',Below W.heap.size W W'->Calls Tryz.prog 135 #[.agg (NdC x.f4 A c),.slice none 0 0] W' (PatAns W' (fun _=>False) p)):
  Calls Tryz.prog 105 #[.agg #[.slice none 0 0,.slice none 0 0,.slice none 0 0,.slice none 0 0],.agg (ItC x A c B d)] W fun e w'=> ∃ A1 c1,e=.returned (.tuple #[.agg #[.slice A1 1 c1,.slice none 0 0,.slice none 0 0,.slice none 0 0],.int .i64 0])∧1<=c1∧Kd.F k93 w' (fun k=>W.heap.size<=k) A1 1 [⟨x.f1,p,true,x.f6⟩]∧Below W.heap.size W w':=by
 have hg:=fun (W':World) (hb:Below W.heap.size W W')=>give_first W' (fun _=>False) x A c B d p hx0 hx4 (fun W2 hb2=>hw W2 (hb.trans (hb2.mono hb.size)))
 unfold ItC at hg ⊢
 rw [hx0] at hg ⊢
 clear hw
 have ea:(W.alloc (.cells #[.slice none 0 0,.slice none 0 0,.slice none 0 0,.slice none 0 0] 27)).heap.size=W.heap.size+1:=Array.size_push _
 have eb:((W.alloc (.cells #[.slice none 0 0,.slice none 0 0,.slice none 0 0,.slice none 0 0] 27)).alloc (.cells #[.int .i64 1,.string x.f1,.int .i64 x.f2,.bool x.f3,.int .i64 x.f4.f0,.string x.f4.f1,.int .i64 x.f4.f2,.int .i64 x.f4.f3,.slice A x.f4.f4.length c,.int .i64 x.f5.f0,.string x.f5.f1,.int .i64 x.f5.f2,.int .i64 x.f5.f3,.slice B x.f5.f4.length d,.int .i64 x.f6] 87)).heap.size=W.heap.size+2:=(Array.size_push _).trans (congrArg (· +1) ea)
 obtain ⟨W1,hW1⟩: ∃ W_,W_=((W.alloc (.cells #[.slice none 0 0,.slice none 0 0,.slice none 0 0,.slice none 0 0] 27)).alloc (.cells #[.int .i64 1,.string x.f1,.int .i64 x.f2,.bool x.f3,.int .i64 x.f4.f0,.string x.f4.f1,.int .i64 x.f4.f2,.int .i64 x.f4.f3,.slice A x.f4.f4.length c,.int .i64 x.f5.f0,.string x.f5.f1,.int .i64 x.f5.f2,.int .i64 x.f5.f3,.slice B x.f5.f4.length d,.int .i64 x.f6] 87)).alloc (.cells #[.slice none 0 0,.slice none 0 0,.slice none 0 0,.slice none 0 0] 27):=⟨_,rfl⟩
 have hb1:Below W.heap.size W W1:=by rw [hW1];exact ab_ (ab_ (ab_ (Below.refl W.heap.size W) _) _) _
 have hk1:W1.heap[W.heap.size]? =some (.cells #[.slice none 0 0,.slice none 0 0,.slice none 0 0,.slice none 0 0] 27 (0,0)):=by rw [hW1];exact an_ (an_ (aj_ W _) _) _
 have hi1:W1.heap[W.heap.size+1]? =some (.cells #[.int .i64 1,.string x.f1,.int .i64 x.f2,.bool x.f3,.int .i64 x.f4.f0,.string x.f4.f1,.int .i64 x.f4.f2,.int .i64 x.f4.f3,.slice A x.f4.f4.length c,.int .i64 x.f5.f0,.string x.f5.f1,.int .i64 x.f5.f2,.int .i64 x.f5.f3,.slice B x.f5.f4.length d,.int .i64 x.f6] 87 (0,0)):=by rw [hW1];exact an_ (ea ▸ aj_ (W.alloc (.cells #[.slice none 0 0,.slice none 0 0,.slice none 0 0,.slice none 0 0] 27)) _) _
 have hr1:W1.heap[W.heap.size+2]? =some (.cells #[.slice none 0 0,.slice none 0 0,.slice none 0 0,.slice none 0 0] 27 (0,0)):=by rw [hW1];exact eb ▸ aj_ ((W.alloc (.cells #[.slice none 0 0,.slice none 0 0,.slice none 0 0,.slice none 0 0] 27)).alloc (.cells #[.int .i64 1,.string x.f1,.int .i64 x.f2,.bool x.f3,.int .i64 x.f4.f0,.string x.f4.f1,.int .i64 x.f4.f2,.int .i64 x.f4.f3,.slice A x.f4.f4.length c,.int .i64 x.f5.f0,.string x.f5.f1,.int .i64 x.f5.f2,.int .i64 x.f5.f3,.slice B x.f5.f4.length d,.int .i64 x.f6] 87)) _
 have i0:=bc_ hi1 0 rfl
 have i1:=bc_ hi1 1 rfl
 have i2:=bc_ hi1 2 rfl
 have i3:=bc_ hi1 3 rfl
 have i4:=bc_ hi1 4 rfl
 have i5:=bc_ hi1 5 rfl
 have i6:=bc_ hi1 6 rfl
 have i7:=bc_ hi1 7 rfl
 have i8:=bc_ hi1 8 rfl
 have i9:=bc_ hi1 9 rfl
 have i10:=bc_ hi1 10 rfl
 have i11:=bc_ hi1 11 rfl
 have i12:=bc_ hi1 12 rfl
 have i13:=bc_ hi1 13 rfl
 have i14:=bc_ hi1 14 rfl
 have k0:=bc_ hk1 0 rfl
 have HG:=Sd.m (hg W1 hb1)
 have HW1:=Sd.m hW1
 have HB1:=Sd.m hb1
 have HK1:=Sd.m hk1
 have HR1:=Sd.m hr1
 have HS1:=Sd.m (cb_ hr1)
 clear hg hb1 hk1 hi1 hr1 ea eb hx0 hx4 hW1
 go_enter Tryz.func105,Tryz.ntmps105
 go_wp2_with fail
 rw [←HW1.out]
 refine HG.out.mono ?_
 rintro e V ⟨A1,c1,rfl,hc1,hF,hb⟩
 have hk:=ag_ HK1.out hb
 have hr:=ag_ HR1.out hb
 clear k0 i0 i1 i2 i3 i4 i5 i6 i7 i8 i9 i10 i11 i12 i13 i14
 have n0:=bc_ hk 0 rfl
 have m0:=aa_ hk 0
 obtain ⟨V5,hV5⟩: ∃ W_,W_=V.setCell ⟨W.heap.size,0,none⟩ (.slice A1 1 c1):=⟨_,rfl⟩
 have hk5:V5.heap[W.heap.size]? =some (.cells #[.slice A1 1 c1,.slice none 0 0,.slice none 0 0,.slice none 0 0] 27 (0,0)):=by rw [hV5];exact ch_ hk 0 _ rfl
 have hr5:V5.heap[W.heap.size+2]? =some (.cells #[.slice none 0 0,.slice none 0 0,.slice none 0 0,.slice none 0 0] 27 (0,0)):=by rw [hV5];exact eg_ (vs:=[.slice A1 1 c1]) (n:=W.heap.size) (by omega) V 0 hr
 have hs1:=HS1.out
 have hF5:Kd.F k93 V5 (fun k=>W1.heap.size<=k) A1 1 [⟨x.f1,p,true,x.f6⟩]:=by rw [hV5];exact cf_ (n:=W.heap.size) (fun k hk=>by omega) [.slice A1 1 c1] V 0 hF
 have hb5:Below W.heap.size W V5:=by rw [hV5];exact cn_ (n:=W.heap.size) (Nat.le_refl _) [.slice A1 1 c1] V 0 (HB1.out.trans (hb.mono HB1.out.size))
 obtain ⟨V6,hV6⟩: ∃ W_,W_=putL V5 (W.heap.size+2) 0 [.slice A1 1 c1,.slice none 0 0,.slice none 0 0,.slice none 0 0]:=⟨_,rfl⟩
 have hr6:V6.heap[W.heap.size+2]? =some (.cells #[.slice A1 1 c1,.slice none 0 0,.slice none 0 0,.slice none 0 0] 27 (0,0)):=by rw [hV6];exact cr_ _ V5 0 _ hr5
 have hF6:Kd.F k93 V6 (fun k=>W.heap.size<=k) A1 1 [⟨x.f1,p,true,x.f6⟩]:=by rw [hV6];exact F_mono (cf_ (n:=W.heap.size+2) (fun k hk=>by omega) _ V5 0 hF5) (fun k hk=>by omega)
 have hb6:Below W.heap.size W V6:=by rw [hV6];exact cn_ (n:=W.heap.size+2) (by omega) _ V5 0 hb5
 replace hV6:V6=(((V5.setCell ⟨W.heap.size+2,0,none⟩ (.slice A1 1 c1)).setCell ⟨W.heap.size+2,1,none⟩ (.slice none 0 0)).setCell ⟨W.heap.size+2,2,none⟩ (.slice none 0 0)).setCell ⟨W.heap.size+2,3,none⟩ (.slice none 0 0):=hV6
 have q0:=bc_ hk5 0 rfl
 have s0:=bc_ hr5 0 rfl
 have z0:=aa_ hr5 0
 have q1:=bc_ hk5 1 rfl
 have s1:=bc_ hr5 1 rfl
 have z1:=aa_ hr5 1
 have q2:=bc_ hk5 2 rfl
 have s2:=bc_ hr5 2 rfl
 have z2:=aa_ hr5 2
 have q3:=bc_ hk5 3 rfl
 have s3:=bc_ hr5 3 rfl
 have z3:=aa_ hr5 3
 have HV5:=Sd.m hV5
 have HV6:=Sd.m hV6
 have HR6:=Sd.m hr6
 have HF6:=Sd.m hF6
 have HB6:=Sd.m hb6
 clear hk hr hV5 hk5 hr5 hs1 hF5 hb5 hV6 hr6 hF6 hb6 hF hb
 go_upto_region 6 with fail
 rw [←HV5.out]
 go_wp2_with fail
 rw [←HV6.out]
 refine bodyPost_ret (ed_ rfl _ _ (W.heap.size+2) 27 #[.slice A1 1 c1,.slice none 0 0,.slice none 0 0,.slice none 0 0] (0,0) _ rfl HR6.out Tryz.underlying27 rfl (by kernel_rfl)) rfl ?_
 exact ⟨A1,c1,rfl,hc1,HF6.out,HB6.out⟩
theorem one_rule (W:World)(P:Nat->Prop)(x:S87)(A:Option Addr)(c:Nat)(B:Option Addr)(d:Nat)(p1 p2:S45)(lv:List S93)(AV:Option Addr)(cv:Nat)(hcv:lv.length<=cv)(hV:Kd.C k93 W AV lv.length lv)
  (lr:List S55) (AR:Option Addr) (cr:Nat) (hcr:lr.length<=cr) (hR:Kd.C k55 W AR lr.length lr) (hlr:lr.length<30) (ls:List S55) (hx0:x.f0=2) (kk:Nat) (hf:br_.f kk lv lr [] [] x.f2=some (-1))
  (h1: ∀ W',Below W.heap.size W W'->Calls Tryz.prog 135 #[.agg (NdC x.f4 A c),.slice AV lv.length cv] W' (PatAns W' (fun k=>P k∧k<W.heap.size) p1))
  (h2: ∀ W',Below W.heap.size W W'->Calls Tryz.prog 135 #[.agg (NdC x.f5 B d),.slice AV lv.length cv] W' (PatAns W' (fun k=>P k∧k<W.heap.size) p2))
  (hp: ∀ (W':World) (a3:Option Addr) (b3:Nat) (a4:Option Addr) (b4:Nat) (a5:Option Addr) (b5:Nat) (a7:Option Addr) (b7:Nat) (a8:Option Addr) (b8:Nat) (a9:Option Addr) (b9:Nat),Below W.heap.size W W'->W.heap.size+3<=W'.heap.size->Kd.FK k55 W' (fun k=>(P k∧k<W.heap.size)∨W.heap.size+3<=k) ⟨x.f2,x.f3,p1,p2,x.f6⟩ [.int .i64 x.f2,.bool x.f3,.int .i64 p1.f0,.slice a3 p1.f1.length b3,.slice a4 p1.f2.length b4,.slice a5 p1.f3.length b5,.int .i64 p2.f0,.slice a7 p2.f1.length b7,.slice a8 p2.f2.length b8,.slice a9 p2.f3.length b9,.int .i64 x.f6]->
   Calls Tryz.prog 136 #[.slice AR lr.length cr,.agg #[.int .i64 x.f2,.bool x.f3,.int .i64 p1.f0,.slice a3 p1.f1.length b3,.slice a4 p1.f2.length b4,.slice a5 p1.f3.length b5,.int .i64 p2.f0,.slice a7 p2.f1.length b7,.slice a8 p2.f2.length b8,.slice a9 p2.f3.length b9,.int .i64 x.f6]] W' fun e w'=> ∃ A1 c1,e=.returned (.slice A1 ls.length c1)∧ls.length<=c1∧Kd.F k55 w' (fun k=>(P k∧k<W.heap.size)∨W.heap.size+3<=k) A1 ls.length ls∧Below W'.heap.size W' w'):
  Calls Tryz.prog 105 #[.agg #[.slice AV lv.length cv,.slice AR lr.length cr,.slice none 0 0,.slice none 0 0],.agg (ItC x A c B d)] W fun e w'=> ∃ A1 c1,e=.returned (.tuple #[.agg #[.slice AV lv.length cv,.slice A1 ls.length c1,.slice none 0 0,.slice none 0 0],.int .i64 0])∧ls.length<=c1∧Kd.F k55 w' (fun k=>P k∨W.heap.size<=k) A1 ls.length ls∧Below W.heap.size W w':=by
 unfold ItC
 unfold NdC at h1 h2
 rw [hx0]
 have ea:(W.alloc (.cells #[.slice AV lv.length cv,.slice AR lr.length cr,.slice none 0 0,.slice none 0 0] 27)).heap.size=W.heap.size+1:=Array.size_push _
 have eb:((W.alloc (.cells #[.slice AV lv.length cv,.slice AR lr.length cr,.slice none 0 0,.slice none 0 0] 27)).alloc (.cells #[.int .i64 2,.string x.f1,.int .i64 x.f2,.bool x.f3,.int .i64 x.f4.f0,.string x.f4.f1,.int .i64 x.f4.f2,.int .i64 x.f4.f3,.slice A x.f4.f4.length c,.int .i64 x.f5.f0,.string x.f5.f1,.int .i64 x.f5.f2,.int .i64 x.f5.f3,.slice B x.f5.f4.length d,.int .i64 x.f6] 87)).heap.size=W.heap.size+2:=(Array.size_push _).trans (congrArg (· +1) ea)
 obtain ⟨W1,hW1⟩: ∃ W_,W_=((W.alloc (.cells #[.slice AV lv.length cv,.slice AR lr.length cr,.slice none 0 0,.slice none 0 0] 27)).alloc (.cells #[.int .i64 2,.string x.f1,.int .i64 x.f2,.bool x.f3,.int .i64 x.f4.f0,.string x.f4.f1,.int .i64 x.f4.f2,.int .i64 x.f4.f3,.slice A x.f4.f4.length c,.int .i64 x.f5.f0,.string x.f5.f1,.int .i64 x.f5.f2,.int .i64 x.f5.f3,.slice B x.f5.f4.length d,.int .i64 x.f6] 87)).alloc (.cells #[.slice none 0 0,.slice none 0 0,.slice none 0 0,.slice none 0 0] 27):=⟨_,rfl⟩
 have hb1:Below W.heap.size W W1:=by rw [hW1];exact ab_ (ab_ (ab_ (Below.refl W.heap.size W) _) _) _
 have hk1:W1.heap[W.heap.size]? =some (.cells #[.slice AV lv.length cv,.slice AR lr.length cr,.slice none 0 0,.slice none 0 0] 27 (0,0)):=by rw [hW1];exact an_ (an_ (aj_ W _) _) _
 have hi1:W1.heap[W.heap.size+1]? =some (.cells #[.int .i64 2,.string x.f1,.int .i64 x.f2,.bool x.f3,.int .i64 x.f4.f0,.string x.f4.f1,.int .i64 x.f4.f2,.int .i64 x.f4.f3,.slice A x.f4.f4.length c,.int .i64 x.f5.f0,.string x.f5.f1,.int .i64 x.f5.f2,.int .i64 x.f5.f3,.slice B x.f5.f4.length d,.int .i64 x.f6] 87 (0,0)):=by rw [hW1];exact an_ (ea ▸ aj_ (W.alloc (.cells #[.slice AV lv.length cv,.slice AR lr.length cr,.slice none 0 0,.slice none 0 0] 27)) _) _
 have hr1:W1.heap[W.heap.size+2]? =some (.cells #[.slice none 0 0,.slice none 0 0,.slice none 0 0,.slice none 0 0] 27 (0,0)):=by rw [hW1];exact eb ▸ aj_ ((W.alloc (.cells #[.slice AV lv.length cv,.slice AR lr.length cr,.slice none 0 0,.slice none 0 0] 27)).alloc (.cells #[.int .i64 2,.string x.f1,.int .i64 x.f2,.bool x.f3,.int .i64 x.f4.f0,.string x.f4.f1,.int .i64 x.f4.f2,.int .i64 x.f4.f3,.slice A x.f4.f4.length c,.int .i64 x.f5.f0,.string x.f5.f1,.int .i64 x.f5.f2,.int .i64 x.f5.f3,.slice B x.f5.f4.length d,.int .i64 x.f6] 87)) _
 have k0:=bc_ hk1 0 rfl
 have k1:=bc_ hk1 1 rfl
 have k2:=bc_ hk1 2 rfl
 have k3:=bc_ hk1 3 rfl
 have i0:=bc_ hi1 0 rfl
 have i2:=bc_ hi1 2 rfl
 have HFD:=Sd.m (br_.calls kk AV cv lv AR cr lr none 0 [] none 0 [] x.f2 (-1) W1 (Kd.C_below hV hb1) hcv (Kd.C_below hR hb1) hcr (C_nil _ _) (Nat.le_refl _) (C_nil _ _) (Nat.le_refl _) hf)
 have d30:decide ((30:Int)<=(lr.length:Int))=false:=df__ (by omega)
 have H1:=Sd.m h1
 have H2:=Sd.m h2
 have HP:=Sd.m hp
 have HW1:=Sd.m hW1
 have HB1:=Sd.m hb1
 have HK1:=Sd.m hk1
 have HI1:=Sd.m hi1
 have HR1:=Sd.m hr1
 have HS1:=Sd.m (cb_ hr1)
 clear h1 h2 hp hb1 hk1 hi1 hr1 ea eb hx0 hW1 hV hR hf
 go_enter Tryz.func105,Tryz.ntmps105
 go_wp2_with fail
 rw [←HW1.out]
 refine HFD.out.mono ?_
 rintro e V1 ⟨rfl,hb⟩
 clear k0 k1 k2 k3 i0 i2
 have HBA:=Sd.m (HB1.out.trans (hb.mono HB1.out.size))
 have HKA:=Sd.m (ag_ HK1.out hb)
 have HIA:=Sd.m (ag_ HI1.out hb)
 have HRA:=Sd.m (ag_ HR1.out hb)
 have HSA:=Sd.m hb.size
 clear hb
 have k0:=bc_ HKA.out 0 rfl
 have k1:=bc_ HKA.out 1 rfl
 have i4:=bc_ HIA.out 4 rfl
 have i5:=bc_ HIA.out 5 rfl
 have i6:=bc_ HIA.out 6 rfl
 have i7:=bc_ HIA.out 7 rfl
 have i8:=bc_ HIA.out 8 rfl
 go_wp2_with fail
 refine (H1.out V1 HBA.out).mono ?_
 rintro e V2 ⟨v,rfl,⟨E1,e1,E2,e2,E3,e3,rfl,l1,g1,l2,g2,l3,g3⟩,hb⟩
 clear k0 k1 i4 i5 i6 i7 i8
 have hb3:Below V2.heap.size V2 (V2.alloc (.cells #[.int .i64 p1.f0,.slice E1 p1.f1.length e1,.slice E2 p1.f2.length e2,.slice E3 p1.f3.length e3] 45)):=ab_ (Below.refl _ _) _
 have hp3:=aj_ V2 (.cells #[.int .i64 p1.f0,.slice E1 p1.f1.length e1,.slice E2 p1.f2.length e2,.slice E3 p1.f3.length e3] 45)
 obtain ⟨V3,hV3⟩: ∃ W_,W_=V2.alloc (.cells #[.int .i64 p1.f0,.slice E1 p1.f1.length e1,.slice E2 p1.f2.length e2,.slice E3 p1.f3.length e3] 45):=⟨_,rfl⟩
 rw [←hV3] at hb3 hp3
 have hq:=hb.trans (hb3.mono hb.size)
 have HBB:=Sd.m (HBA.out.trans (hq.mono HBA.out.size))
 have HKB:=Sd.m (ag_ HKA.out hq)
 have HIB:=Sd.m (ag_ HIA.out hq)
 have HRB:=Sd.m (ag_ HRA.out hq)
 have HPB:=Sd.m hp3
 have G1:=Sd.m (F_below g1 hb3)
 have G2:=Sd.m (F_below g2 hb3)
 have G3:=Sd.m (F_below g3 hb3)
 have HV3:=Sd.m hV3
 have HSB:=Sd.m hq.size
 clear hb hb3 hp3 hq g1 g2 g3 hV3
 have k0:=bc_ HKB.out 0 rfl
 have i9:=bc_ HIB.out 9 rfl
 have i10:=bc_ HIB.out 10 rfl
 have i11:=bc_ HIB.out 11 rfl
 have i12:=bc_ HIB.out 12 rfl
 have i13:=bc_ HIB.out 13 rfl
 go_upto_region 13 with fail
 rw [←HV3.out]
 go_wp2_with fail
 refine (H2.out V3 HBB.out).mono ?_
 rintro e V4 ⟨v,rfl,⟨F1,f1,F2,f2,F3,f3,rfl,l4,g4,l5,g5,l6,g6⟩,hb⟩
 clear k0 i9 i10 i11 i12 i13
 have hb5:Below V4.heap.size V4 (V4.alloc (.cells #[.int .i64 p2.f0,.slice F1 p2.f1.length f1,.slice F2 p2.f2.length f2,.slice F3 p2.f3.length f3] 45)):=ab_ (Below.refl _ _) _
 have hp5:=aj_ V4 (.cells #[.int .i64 p2.f0,.slice F1 p2.f1.length f1,.slice F2 p2.f2.length f2,.slice F3 p2.f3.length f3] 45)
 obtain ⟨V5,hV5⟩: ∃ W_,W_=V4.alloc (.cells #[.int .i64 p2.f0,.slice F1 p2.f1.length f1,.slice F2 p2.f2.length f2,.slice F3 p2.f3.length f3] 45):=⟨_,rfl⟩
 rw [←hV5] at hb5 hp5
 have hq:=hb.trans (hb5.mono hb.size)
 have HBC:=Sd.m (HBB.out.trans (hq.mono HBB.out.size))
 have HKC:=Sd.m (ag_ HKB.out hq)
 have HIC:=Sd.m (ag_ HIB.out hq)
 have HRC:=Sd.m (ag_ HRB.out hq)
 have HPC:=Sd.m (ag_ HPB.out hq)
 have HQC:=Sd.m hp5
 have ok1: ∀ k,((P k∧k<W.heap.size)∨V1.heap.size<=k)->((P k∧k<W.heap.size)∨W.heap.size+3<=k):=fun k hk=>Or.elim hk Or.inl (fun hk=>Or.inr (by have:=HS1.out;have:=HSA.out;omega))
 have ok2: ∀ k,((P k∧k<W.heap.size)∨V3.heap.size<=k)->((P k∧k<W.heap.size)∨W.heap.size+3<=k):=fun k hk=>Or.elim hk Or.inl (fun hk=>Or.inr (by have:=HS1.out;have:=HSA.out;have:=HSB.out;omega))
 have hsz:W.heap.size+3<=V5.heap.size:=by have:=HS1.out;have:=HSA.out;have:=HSB.out;have:=hq.size;omega
 have HCP:=Sd.m (HP.out V5 E1 e1 E2 e2 E3 e3 F1 f1 F2 f2 F3 f3 HBC.out hsz (k55_mkF _ _ ⟨x.f2,x.f3,p1,p2,x.f6⟩ l1 (F_mono (F_below G1.out hq) ok1) l2 (F_mono (F_below G2.out hq) ok1) l3 (F_mono (F_below G3.out hq) ok1) l4 (F_mono (F_below g4 hb5) ok2) l5 (F_mono (F_below g5 hb5) ok2) l6 (F_mono (F_below g6 hb5) ok2)))
 have HV5:=Sd.m hV5
 have HSC:=Sd.m hsz
 clear hb hb5 hp5 hq g4 g5 g6 hV5 ok1 ok2 hsz
 have k1:=bc_ HKC.out 1 rfl
 have i2:=bc_ HIC.out 2 rfl
 have i3:=bc_ HIC.out 3 rfl
 have i14:=bc_ HIC.out 14 rfl
 have pp0:=bc_ HPC.out 0 rfl
 have pp1:=bc_ HPC.out 1 rfl
 have pp2:=bc_ HPC.out 2 rfl
 have pp3:=bc_ HPC.out 3 rfl
 have qq0:=bc_ HQC.out 0 rfl
 have qq1:=bc_ HQC.out 1 rfl
 have qq2:=bc_ HQC.out 2 rfl
 have qq3:=bc_ HQC.out 3 rfl
 go_upto_region 16 with fail
 rw [←HV5.out]
 go_wp2_with fail
 refine HCP.out.mono ?_
 rintro e V ⟨A1,c1,rfl,hc1,hF,hb⟩
 clear k1 i2 i3 i14 pp0 pp1 pp2 pp3 qq0 qq1 qq2 qq3
 have hk:=ag_ HKC.out hb
 have hr:=ag_ HRC.out hb
 have n1:=bc_ hk 1 rfl
 have m1:=aa_ hk 1
 obtain ⟨V6,hV6⟩: ∃ W_,W_=V.setCell ⟨W.heap.size,1,none⟩ (.slice A1 ls.length c1):=⟨_,rfl⟩
 have hk6:V6.heap[W.heap.size]? =some (.cells #[.slice AV lv.length cv,.slice A1 ls.length c1,.slice none 0 0,.slice none 0 0] 27 (0,0)):=by rw [hV6];exact ch_ hk 1 _ rfl
 have hr6:V6.heap[W.heap.size+2]? =some (.cells #[.slice none 0 0,.slice none 0 0,.slice none 0 0,.slice none 0 0] 27 (0,0)):=by rw [hV6];exact eg_ (vs:=[.slice A1 ls.length c1]) (n:=W.heap.size) (by omega) V 1 hr
 have okA: ∀ k,((P k∧k<W.heap.size)∨W.heap.size+3<=k)->k≠W.heap.size:=fun k hk=>by rcases hk with hk | hk <;> omega
 have okB: ∀ k,((P k∧k<W.heap.size)∨W.heap.size+3<=k)->k≠W.heap.size+2:=fun k hk=>by rcases hk with hk | hk <;> omega
 have okC: ∀ k,((P k∧k<W.heap.size)∨W.heap.size+3<=k)->(P k∨W.heap.size<=k):=fun k hk=>Or.elim hk (fun h=>Or.inl h.1) (fun h=>Or.inr (by omega))
 have hF6:Kd.F k55 V6 (fun k=>(P k∧k<W.heap.size)∨W.heap.size+3<=k) A1 ls.length ls:=by rw [hV6];exact cf_ (n:=W.heap.size) okA [.slice A1 ls.length c1] V 1 hF
 have hb6:Below W.heap.size W V6:=by rw [hV6];exact cn_ (n:=W.heap.size) (Nat.le_refl _) [.slice A1 ls.length c1] V 1 (HBC.out.trans (hb.mono HBC.out.size))
 obtain ⟨V7,hV7⟩: ∃ W_,W_=putL V6 (W.heap.size+2) 0 [.slice AV lv.length cv,.slice A1 ls.length c1,.slice none 0 0,.slice none 0 0]:=⟨_,rfl⟩
 have hr7:V7.heap[W.heap.size+2]? =some (.cells #[.slice AV lv.length cv,.slice A1 ls.length c1,.slice none 0 0,.slice none 0 0] 27 (0,0)):=by rw [hV7];exact cr_ _ V6 0 _ hr6
 have hF7:Kd.F k55 V7 (fun k=>P k∨W.heap.size<=k) A1 ls.length ls:=by rw [hV7];exact F_mono (cf_ (n:=W.heap.size+2) okB _ V6 0 hF6) okC
 have hb7:Below W.heap.size W V7:=by rw [hV7];exact cn_ (n:=W.heap.size+2) (by omega) _ V6 0 hb6
 replace hV7:V7=(((V6.setCell ⟨W.heap.size+2,0,none⟩ (.slice AV lv.length cv)).setCell ⟨W.heap.size+2,1,none⟩ (.slice A1 ls.length c1)).setCell ⟨W.heap.size+2,2,none⟩ (.slice none 0 0)).setCell ⟨W.heap.size+2,3,none⟩ (.slice none 0 0):=hV7
 have q0:=bc_ hk6 0 rfl
 have s0:=bc_ hr6 0 rfl
 have z0:=aa_ hr6 0
 have q1:=bc_ hk6 1 rfl
 have s1:=bc_ hr6 1 rfl
 have z1:=aa_ hr6 1
 have q2:=bc_ hk6 2 rfl
 have s2:=bc_ hr6 2 rfl
 have z2:=aa_ hr6 2
 have q3:=bc_ hk6 3 rfl
 have s3:=bc_ hr6 3 rfl
 have z3:=aa_ hr6 3
 have HV6:=Sd.m hV6
 have HV7:=Sd.m hV7
 have HR7:=Sd.m hr7
 have HF7:=Sd.m hF7
 have HB7:=Sd.m hb7
 clear hk hr hV6 hk6 hr6 okA okB okC hF6 hb6 hV7 hr7 hF7 hb7 hF hb
 go_upto_region 19 with fail
 rw [←HV6.out]
 go_wp2_with fail
 rw [←HV7.out]
 refine bodyPost_ret (ed_ rfl _ _ (W.heap.size+2) 27 #[.slice AV lv.length cv,.slice A1 ls.length c1,.slice none 0 0,.slice none 0 0] (0,0) _ rfl HR7.out Tryz.underlying27 rfl (by kernel_rfl)) rfl ?_
 exact ⟨A1,c1,rfl,hc1,HF7.out,HB7.out⟩
structure NmAt (W Wb:World) (o0:Option Nat) (A1:Option Addr) (V:List S93) (A2:Option Addr) (R:List S55) (bk:Array Value) (w:World) (v:Value) (xs:List ByteArray):Prop where
 N:Kd.N Kd.string 9 w (W.heap.size+2) (fun j=>W.heap.size+2<=j) v xs
 own: ∀ j,v.ownBlock=some j->o0=some j∨Wb.heap.size<=j
 sz:Wb.heap.size<=w.heap.size
 F1:Kd.F k93 w (fun j=>(W.heap.size+2<=j∧some j≠o0)∧j<Wb.heap.size) A1 V.length V
 F2:Kd.F k55 w (fun j=>(W.heap.size+2<=j∧some j≠o0)∧j<Wb.heap.size) A2 R.length R
 B:Below W.heap.size W w
 r:w.heap[W.heap.size]? =some (.cells #[.slice none 0 0,.slice none 0 0,.slice none 0 0,.slice none 0 0] 27 (0,0))
 b:w.heap[W.heap.size+1]? =some (.cells bk 27 (0,0))
section
variable {W Wb w w1:World} {o0:Option Nat} {A1 A2:Option Addr} {V:List S93} {R:List S55} {bk:Array Value} {v:Value} {xs ys:List ByteArray}
theorem NmAt.below (h:NmAt W Wb o0 A1 V A2 R bk w v xs)(hb:Below w.heap.size w w1):NmAt W Wb o0 A1 V A2 R bk w1 v xs:=
 ⟨N_below h.N hb,h.own,Nat.le_trans h.sz hb.size,F_below h.F1 hb,F_below h.F2 hb,h.B.trans (hb.mono h.B.size),ag_ h.r hb,ag_ h.b hb⟩
theorem NmAt.app {An:Option Addr}{cn:Nat}(h:NmAt W Wb o0 A1 V A2 R bk w (.slice An xs.length cn) xs)(B1:Option Addr)(m1:Nat)(okp:Nat->Prop)(hy:Kd.F Kd.string w okp B1 ys.length ys)(hokp: ∀ k,okp k->W.heap.size+2<=k∧some k≠(Value.slice An xs.length cn).ownBlock)(hl:(xs.length+ys.length)*16<=140737488355328):
  ∃ C1 k1 w1,(Builtin.append_ #[25,25] 25 #[.slice An xs.length cn,.slice B1 ys.length m1]).run Tryz.prog w=.ok (.slice C1 (xs ++ ys).length k1) w1∧NmAt W Wb o0 A1 V A2 R bk w1 (.slice C1 (xs ++ ys).length k1) (xs ++ ys):=by
 have hlt:W.heap.size+2<=w.heap.size:=cb_ h.b
 obtain ⟨v1,w1,hrun,hN,hg,hat⟩:=eh_ (P:=Tryz.prog) Kd.string (W:=w) (W.heap.size+2) 25 25 9 (.string ⟨#[]⟩) 16 Tryz.underlying25 (by kernel_rfl) rfl (by decide) (by decide) (.slice An xs.length cn) xs ys B1 ys.length m1 (fun j=>W.heap.size+2<=j) okp h.N hy hokp (fun k hk=>Nat.le_trans hlt hk) hlt hl
 obtain ⟨C1,k1,rfl⟩:=N_slice hN
 have hbase:=fun k hk=>N_base h.N k hk
 have hQ: ∀ j,((W.heap.size+2<=j∧some j≠o0)∧j<Wb.heap.size)->some j≠(Value.slice An xs.length cn).ownBlock:=fun j hj he=>(h.own j he.symm).elim (fun e=>hj.1.2 e.symm) (fun e=>by have:=hj.2;omega)
 refine ⟨C1,k1,w1,hrun,hN,?_,Nat.le_trans h.sz hg.size,F_grown h.F1 hg hQ,F_grown h.F2 hg hQ,h.B.grown hg h.B.size (fun k hk=>by have:=hbase k hk;omega),?_,?_⟩
 ·intro j hj
  rcases hat with e | ⟨q,e,hq⟩
  ·rw [e] at hj;exact h.own j hj
  ·rw [e] at hj
   injection hj with hj
   exact Or.inr (hj ▸ Nat.le_trans h.sz hq)
 ·exact (hg.block _ (cb_ h.r) (fun e=>by have:=hbase _ e.symm;omega)).trans h.r
 ·exact (hg.block _ (cb_ h.b) (fun e=>by have:=hbase _ e.symm;omega)).trans h.b
end
theorem ja_ (kk:Nat)(nd:S85)(A:Option Addr)(c:Nat)(out:List ByteArray)(w:World)(hC:Kd.C k85 w A nd.f4.length nd.f4)(hc:nd.f4.length<=c)(h:ak_.f kk nd.f0 nd.f1 nd.f2 nd.f3 nd.f4=some out):
  Calls Tryz.prog 106 #[.agg #[.int .i64 nd.f0,.string nd.f1,.int .i64 nd.f2,.int .i64 nd.f3,.slice A nd.f4.length c]] w fun e w'=> ∃ B1 m1,e=.returned (.slice B1 out.length m1)∧Kd.F Kd.string w' (fun j=>w.heap.size<=j∧j<w'.heap.size) B1 out.length out∧Below w.heap.size w w':=by
 refine (ak_.calls kk nd.f0 nd.f1 nd.f2 nd.f3 A c nd.f4 out w hC hc h).mono ?_
 rintro e w' ⟨v0,rfl,hR,hb⟩
 obtain ⟨B1,m1,rfl⟩:=R_slice hR
 exact ⟨B1,m1,rfl,F_mono (N_F (R_N (R_bound hR))) (fun j hj=>⟨hj.2.1,hj.2.2.1⟩),hb⟩
def Cap (A:Option Addr)(n c:Nat):Prop:=n<=c∧(n=0->A=none∧c=0)
def OneStep (W0:World)(it:S87)(V V1:List S93)(R R1:List S55):Prop:=
 ∀ (W:World) (Q:Nat->Prop) (AV:Option Addr) (cv:Nat) (AR:Option Addr) (cr:Nat) (A:Option Addr) (c:Nat) (B:Option Addr) (d:Nat),Below W0.heap.size W0 W->Cap AV V.length cv->Kd.F k93 W Q AV V.length V->Cap AR R.length cr->Kd.F k55 W Q AR R.length R->
  it.f4.f4.length<=c->Kd.C k85 W A it.f4.f4.length it.f4.f4->it.f5.f4.length<=d->Kd.C k85 W B it.f5.f4.length it.f5.f4->
  Calls Tryz.prog 105 #[.agg #[.slice AV V.length cv,.slice AR R.length cr,.slice none 0 0,.slice none 0 0],.agg (ItC it A c B d)] W fun e w'=> ∃ A1 c1 A2 c2,e=.returned (.tuple #[.agg #[.slice A1 V1.length c1,.slice A2 R1.length c2,.slice none 0 0,.slice none 0 0],.int .i64 0])∧Cap A1 V1.length c1∧Kd.F k93 w' (fun k=>(Q k∧k<W.heap.size)∨W.heap.size<=k) A1 V1.length V1∧Cap A2 R1.length c2∧Kd.F k55 w' (fun k=>(Q k∧k<W.heap.size)∨W.heap.size<=k) A2 R1.length R1∧Below W.heap.size W w'
def BuO (W:World)(l:List S87)(LV:Int->List S93)(LR:Int->List S55)(NM:Int->List ByteArray)(t6 t7:Value)(Wx:World):Prop:=
 ∃ (k:Int) (AV:Option Addr) (cv:Nat) (AR:Option Addr) (cr:Nat),0<=k∧k<=(l.length:Int)∧t7=.int .i64 k∧Below W.heap.size W Wx∧Wx.heap[W.heap.size]? =some (.cells #[.slice none 0 0,.slice none 0 0,.slice none 0 0,.slice none 0 0] 27 (0,0))∧
  Wx.heap[W.heap.size+1]? =some (.cells #[.slice AV (LV k).length cv,.slice AR (LR k).length cr,.slice none 0 0,.slice none 0 0] 27 (0,0))∧Cap AV (LV k).length cv∧Cap AR (LR k).length cr∧
  Kd.F k93 Wx (fun j=>W.heap.size+2<=j∧some j≠t6.ownBlock) AV (LV k).length (LV k)∧Kd.F k55 Wx (fun j=>W.heap.size+2<=j∧some j≠t6.ownBlock) AR (LR k).length (LR k)∧Kd.N Kd.string 9 Wx (W.heap.size+2) (fun j=>W.heap.size+2<=j) t6 (NM k)
def BuE (W:World)(v:S93)(R:List S55)(AV:Option Addr)(cv:Nat)(AR:Option Addr)(cr:Nat)(An:Option Addr)(nm:List ByteArray)(t10:Value)(Wx:World):Prop:=
 Kd.F Kd.string Wx (fun j=>W.heap.size+2<=j) An nm.length nm∧
 Below W.heap.size W Wx∧Wx.heap[W.heap.size]? =some (.cells #[.slice none 0 0,.slice none 0 0,.slice none 0 0,.slice none 0 0] 27 (0,0))∧Kd.F k93 Wx (fun j=>W.heap.size+2<=j) AV 1 [v]∧Kd.F k55 Wx (fun j=>W.heap.size+2<=j) AR R.length R∧
 ((t10=.int .i64 0∧Wx.heap[W.heap.size+1]? =some (.cells #[.slice AV 1 cv,.slice AR R.length cr,.slice none 0 0,.slice none 0 0] 27 (0,0)))∨
  (t10=.int .i64 1∧ ∃ AU cu,1<=cu∧Kd.F Kd.string Wx (fun j=>W.heap.size+2<=j) AU 1 [v.f0]∧Wx.heap[W.heap.size+1]? =some (.cells #[.slice AV 1 cv,.slice AR R.length cr,.slice none 0 0,.slice AU 1 cu] 27 (0,0))))
theorem build_loop (W:World)(l:List S87)(A0:Option Addr)(c0:Nat)(hc0:l.length<=c0)(hl:Kd.C k87 W A0 l.length l)(hl9:l.length<=1000)(LV:Int->List S93)(LR:Int->List S55)(NM:Int->List ByteArray)
  (hV0:LV 0=[]) (hR0:LR 0=[]) (hN0:NM 0=[])
  (h1: ∀ k:Int,0<=k->k<(l.length:Int)->OneStep W (am_ l k) (LV k) (LV (k+1)) (LR k) (LR (k+1)))
  (NA NB:Int->List ByteArray) (hNA: ∀ k:Int,0<=k->k<(l.length:Int)-> ∃ kk,ak_.f kk (am_ l k).f4.f0 (am_ l k).f4.f1 (am_ l k).f4.f2 (am_ l k).f4.f3 (am_ l k).f4.f4=some (NA k))
  (hNB: ∀ k:Int,0<=k->k<(l.length:Int)-> ∃ kk,ak_.f kk (am_ l k).f5.f0 (am_ l k).f5.f1 (am_ l k).f5.f2 (am_ l k).f5.f3 (am_ l k).f5.f4=some (NB k))
  (hNM: ∀ k:Int,0<=k->k<(l.length:Int)->NM (k+1)=(NM k ++ NA k) ++ NB k∧(NM (k+1)).length<=1000)
  (vv:S93) (hLV:LV (l.length:Int)=[vv]) (kh:Nat) (hhas:bt_.f kh (NM (l.length:Int)) vv.f0=some true)
  (hk3: ∀ k:Int,0<=k->k<(l.length:Int)->(am_ l k).f0≠3):
  Calls Tryz.prog 71 #[.slice A0 l.length c0] W fun e w'=> ∃ AV cv AR cr AU cu,e=.returned (.tuple #[.agg #[.slice AV 1 cv,.slice AR (LR (l.length:Int)).length cr,.slice none 0 0,.slice AU 1 cu],.int .i64 (-1),.int .i64 0])∧1<=cv∧(LR (l.length:Int)).length<=cr∧1<=cu∧Kd.F k93 w' (fun j=>W.heap.size<=j) AV 1 [vv]∧Kd.F k55 w' (fun j=>W.heap.size<=j) AR (LR (l.length:Int)).length (LR (l.length:Int))∧Kd.F Kd.string w' (fun j=>W.heap.size<=j) AU 1 [vv.f0]∧Below W.heap.size W w':=by
 have ea:(W.alloc (.cells #[.slice none 0 0,.slice none 0 0,.slice none 0 0,.slice none 0 0] 27)).heap.size=W.heap.size+1:=Array.size_push _
 obtain ⟨W1,hW1⟩: ∃ W_,W_=(W.alloc (.cells #[.slice none 0 0,.slice none 0 0,.slice none 0 0,.slice none 0 0] 27)).alloc (.cells #[.slice none 0 0,.slice none 0 0,.slice none 0 0,.slice none 0 0] 27):=⟨_,rfl⟩
 have hb1:Below W.heap.size W W1:=by rw [hW1];exact ab_ (ab_ (Below.refl W.heap.size W) _) _
 have hr1:W1.heap[W.heap.size]? =some (.cells #[.slice none 0 0,.slice none 0 0,.slice none 0 0,.slice none 0 0] 27 (0,0)):=by rw [hW1];exact an_ (aj_ W _) _
 have hk1:W1.heap[W.heap.size+1]? =some (.cells #[.slice none 0 0,.slice none 0 0,.slice none 0 0,.slice none 0 0] 27 (0,0)):=by rw [hW1];exact ea ▸ aj_ (W.alloc (.cells #[.slice none 0 0,.slice none 0 0,.slice none 0 0,.slice none 0 0] 27)) _
 have H0:BuO W l LV LR NM (.slice none 0 0) (.int .i64 0) W1:=by
  refine ⟨0,none,0,none,0,Int.le_refl _,Int.natCast_nonneg _,rfl,hb1,hr1,?_,?_,?_,?_,?_,?_⟩
  ·rw [hV0,hR0];exact hk1
  ·rw [hV0];exact ⟨Nat.le_refl _,fun _=>⟨rfl,rfl⟩⟩
  ·rw [hR0];exact ⟨Nat.le_refl _,fun _=>⟨rfl,rfl⟩⟩
  ·rw [hV0];exact F_nil _ _ _
  ·rw [hR0];exact F_nil _ _ _
  ·rw [hN0];exact N_nil _ _ _ _ _
 have H0:=Sd.m H0
 have H1:=Sd.m h1
 have HK3:=Sd.m hk3
 have HLV:=Sd.m hLV
 have HHAS:=Sd.m hhas
 clear hLV hhas
 have HNA:=Sd.m hNA
 have HNBF:=Sd.m hNB
 have HNMS:=Sd.m hNM
 clear hNA hNB hNM
 have HL:=Sd.m hl
 have HW1:=Sd.m hW1
 clear ea hb1 hr1 hk1 hW1 h1 hk3 hl hV0 hR0 hN0
 go_enter Tryz.func71,Tryz.ntmps71
 go_wp2_with fail
 rw [←HW1.out]
 go_loopw [6,7,8,9] (fun t6 t7 _ _ Wx=>BuO W l LV LR NM t6 t7 Wx) (fun _ t7 _ _ _=>(l.length - intOf t7).toNat)
 case atStart=>exact H0.out
 case round=>
  obtain ⟨k,AV,cv,AR,cr,hk0,hk,rfl,hb,hbr,hbk,hcv,hcr,hFV,hFR,hNM⟩:=hrel
  obtain ⟨An,cn,rfl⟩:=N_slice hNM
  have hNL:=fun j hj=>N_lt hNM j hj
  have hNB:=fun j hj=>N_base hNM j hj
  have HB:=Sd.m hb
  have HBR:=Sd.m hbr
  have HBK:=Sd.m hbk
  have HFV:=Sd.m hFV
  have HFR:=Sd.m hFR
  have HNM:=Sd.m hNM
  have HNL:=Sd.m hNL
  have HNB:=Sd.m hNB
  clear hb hbr hbk hFV hFR hNM hNL hNB
  by_cases hlt:k<(l.length:Int)
  ·obtain ⟨ad,A8,c8,A13,c13,rfl,k0,k1,k2,k3,k4,k5,k6,k7,k8,k9,k10,k11,k12,k13,k14,l8,g8,l13,g13⟩:=at_T87 (Kd.C_below HL.out HB.out) k hk0 hlt
   have hlt0:=dt__ hlt
   obtain ⟨Vd,hVd⟩: ∃ W_,W_=wr.drew:=⟨_,rfl⟩
   have hbd:Below wr.heap.size wr Vd:=by rw [hVd];exact cg_ (Below.refl _ _)
   have HBD:=Sd.m (HB.out.trans (hbd.mono HB.out.size))
   have S19: ∀ w',Below Vd.heap.size Vd w'->w'.cell? ⟨W.heap.size+1,0,none⟩=some (.slice AV (LV k).length cv)∧w'.cell? ⟨W.heap.size+1,1,none⟩=some (.slice AR (LR k).length cr)∧w'.cell? ⟨W.heap.size+1,2,none⟩=some (.slice none 0 0)∧w'.cell? ⟨W.heap.size+1,3,none⟩=some (.slice none 0 0)∧w'.cell? (ad.add (k.toNat*15))=some (.int .i64 (am_ l k).f0)∧w'.cell? ⟨(ad.add (k.toNat*15)).block,(ad.add (k.toNat*15)).off+1,none⟩=some (.string (am_ l k).f1)∧w'.cell? ⟨(ad.add (k.toNat*15)).block,(ad.add (k.toNat*15)).off+2,none⟩=some (.int .i64 (am_ l k).f2)∧w'.cell? ⟨(ad.add (k.toNat*15)).block,(ad.add (k.toNat*15)).off+3,none⟩=some (.bool (am_ l k).f3)∧w'.cell? ⟨(ad.add (k.toNat*15)).block,(ad.add (k.toNat*15)).off+4,none⟩=some (.int .i64 (am_ l k).f4.f0)∧w'.cell? ⟨(ad.add (k.toNat*15)).block,(ad.add (k.toNat*15)).off+5,none⟩=some (.string (am_ l k).f4.f1)∧w'.cell? ⟨(ad.add (k.toNat*15)).block,(ad.add (k.toNat*15)).off+6,none⟩=some (.int .i64 (am_ l k).f4.f2)∧w'.cell? ⟨(ad.add (k.toNat*15)).block,(ad.add (k.toNat*15)).off+7,none⟩=some (.int .i64 (am_ l k).f4.f3)∧w'.cell? ⟨(ad.add (k.toNat*15)).block,(ad.add (k.toNat*15)).off+8,none⟩=some (.slice A8 (am_ l k).f4.f4.length c8)∧w'.cell? ⟨(ad.add (k.toNat*15)).block,(ad.add (k.toNat*15)).off+9,none⟩=some (.int .i64 (am_ l k).f5.f0)∧w'.cell? ⟨(ad.add (k.toNat*15)).block,(ad.add (k.toNat*15)).off+10,none⟩=some (.string (am_ l k).f5.f1)∧w'.cell? ⟨(ad.add (k.toNat*15)).block,(ad.add (k.toNat*15)).off+11,none⟩=some (.int .i64 (am_ l k).f5.f2)∧w'.cell? ⟨(ad.add (k.toNat*15)).block,(ad.add (k.toNat*15)).off+12,none⟩=some (.int .i64 (am_ l k).f5.f3)∧w'.cell? ⟨(ad.add (k.toNat*15)).block,(ad.add (k.toNat*15)).off+13,none⟩=some (.slice A13 (am_ l k).f5.f4.length c13)∧w'.cell? ⟨(ad.add (k.toNat*15)).block,(ad.add (k.toNat*15)).off+14,none⟩=some (.int .i64 (am_ l k).f6):=by
    intro w' hw'
    have hq:=hbd.trans (hw'.mono hbd.size)
    have a1:=ag_ HBK.out hq
    have cw:=fun (p:Addr) (v:Value) (h:wr.cell? p=some v)=>(hq.cell (bl__ wr _ h)).trans h
    exact ⟨(ae_ a1 0).trans rfl,(ae_ a1 1).trans rfl,(ae_ a1 2).trans rfl,(ae_ a1 3).trans rfl,cw _ _ k0,cw _ _ k1,cw _ _ k2,cw _ _ k3,cw _ _ k4,cw _ _ k5,cw _ _ k6,cw _ _ k7,cw _ _ k8,cw _ _ k9,cw _ _ k10,cw _ _ k11,cw _ _ k12,cw _ _ k13,cw _ _ k14⟩
   have HS19:=Sd.m S19
   have BD:=Sd.m (Below.refl Vd.heap.size Vd)
   have ONE:Sd (∀ Wj,Below Vd.heap.size Vd Wj->Calls Tryz.prog 105 #[.agg #[.slice AV (LV k).length cv,.slice AR (LR k).length cr,.slice none 0 0,.slice none 0 0],.agg #[.int .i64 (am_ l k).f0,.string (am_ l k).f1,.int .i64 (am_ l k).f2,.bool (am_ l k).f3,.int .i64 (am_ l k).f4.f0,.string (am_ l k).f4.f1,.int .i64 (am_ l k).f4.f2,.int .i64 (am_ l k).f4.f3,.slice A8 (am_ l k).f4.f4.length c8,.int .i64 (am_ l k).f5.f0,.string (am_ l k).f5.f1,.int .i64 (am_ l k).f5.f2,.int .i64 (am_ l k).f5.f3,.slice A13 (am_ l k).f5.f4.length c13,.int .i64 (am_ l k).f6]] Wj fun e w'=> ∃ A1 c1 A2 c2,e=.returned (.tuple #[.agg #[.slice A1 (LV (k+1)).length c1,.slice A2 (LR (k+1)).length c2,.slice none 0 0,.slice none 0 0],.int .i64 0])∧Cap A1 (LV (k+1)).length c1∧Kd.F k93 w' (fun j=>((W.heap.size+2<=j∧some j≠(Value.slice An (NM k).length cn).ownBlock)∧j<Vd.heap.size)∨Wj.heap.size<=j) A1 (LV (k+1)).length (LV (k+1))∧Cap A2 (LR (k+1)).length c2∧Kd.F k55 w' (fun j=>((W.heap.size+2<=j∧some j≠(Value.slice An (NM k).length cn).ownBlock)∧j<Vd.heap.size)∨Wj.heap.size<=j) A2 (LR (k+1)).length (LR (k+1))∧Below Wj.heap.size Wj w'):=by
    refine ⟨fun Wj hj=>?_⟩
    have hq:=hbd.trans (hj.mono hbd.size)
    have hqW:=HB.out.trans (hq.mono HB.out.size)
    refine (H1.out k hk0 hlt Wj (fun j=>(W.heap.size+2<=j∧some j≠(Value.slice An (NM k).length cn).ownBlock)∧j<Vd.heap.size) AV cv AR cr A8 c8 A13 c13 hqW hcv (F_mono (F_below (F_bound HFV.out) hq) (fun j hj=>⟨hj.1,Nat.lt_of_lt_of_le hj.2 hbd.size⟩)) hcr (F_mono (F_below (F_bound HFR.out) hq) (fun j hj=>⟨hj.1,Nat.lt_of_lt_of_le hj.2 hbd.size⟩)) l8 (Kd.C_below g8 hq) l13 (Kd.C_below g13 hq)).mono ?_
    rintro e w' ⟨A1,c1,A2,c2,he,h1,hF1,h2,hF2,hb⟩
    exact ⟨A1,c1,A2,c2,he,h1,F_mono hF1 (fun j hj=>Or.elim hj (fun h=>Or.inl h.1) Or.inr),h2,F_mono hF2 (fun j hj=>Or.elim hj (fun h=>Or.inl h.1) Or.inr),hb⟩
   have HBDR:=Sd.m hbd
   have HNV:Sd (∀ j,(Value.slice An (NM k).length cn).ownBlock=some j->j<Vd.heap.size):=⟨fun j hj=>Nat.lt_of_lt_of_le (HNL.out j hj) hbd.size⟩
   have HG8:=Sd.m (And.intro l8 g8)
   have HG13:=Sd.m (And.intro l13 g13)
   have HZ2:=Sd.m (show W.heap.size+2<=Vd.heap.size from Nat.le_trans (cb_ HBK.out) hbd.size)
   clear S19 hbd k0 k1 k2 k3 k4 k5 k6 k7 k8 k9 k10 k11 k12 k13 k14 l8 g8 l13 g13
   go_upto_region 6 with fail
   -- REGION 6
   refine start_ (n:=12) (S:=fun w'=>w'.cell? ⟨W.heap.size+1,0,none⟩=some (.slice AV (LV k).length cv)∧w'.cell? ⟨W.heap.size+1,1,none⟩=some (.slice AR (LR k).length cr)∧w'.cell? ⟨W.heap.size+1,2,none⟩=some (.slice none 0 0)∧w'.cell? ⟨W.heap.size+1,3,none⟩=some (.slice none 0 0)∧w'.cell? (ad.add (k.toNat*15))=some (.int .i64 (am_ l k).f0)∧w'.cell? ⟨(ad.add (k.toNat*15)).block,(ad.add (k.toNat*15)).off+1,none⟩=some (.string (am_ l k).f1)∧w'.cell? ⟨(ad.add (k.toNat*15)).block,(ad.add (k.toNat*15)).off+2,none⟩=some (.int .i64 (am_ l k).f2)∧w'.cell? ⟨(ad.add (k.toNat*15)).block,(ad.add (k.toNat*15)).off+3,none⟩=some (.bool (am_ l k).f3)∧w'.cell? ⟨(ad.add (k.toNat*15)).block,(ad.add (k.toNat*15)).off+4,none⟩=some (.int .i64 (am_ l k).f4.f0)∧w'.cell? ⟨(ad.add (k.toNat*15)).block,(ad.add (k.toNat*15)).off+5,none⟩=some (.string (am_ l k).f4.f1)∧w'.cell? ⟨(ad.add (k.toNat*15)).block,(ad.add (k.toNat*15)).off+6,none⟩=some (.int .i64 (am_ l k).f4.f2)∧w'.cell? ⟨(ad.add (k.toNat*15)).block,(ad.add (k.toNat*15)).off+7,none⟩=some (.int .i64 (am_ l k).f4.f3)∧w'.cell? ⟨(ad.add (k.toNat*15)).block,(ad.add (k.toNat*15)).off+8,none⟩=some (.slice A8 (am_ l k).f4.f4.length c8)∧w'.cell? ⟨(ad.add (k.toNat*15)).block,(ad.add (k.toNat*15)).off+9,none⟩=some (.int .i64 (am_ l k).f5.f0)∧w'.cell? ⟨(ad.add (k.toNat*15)).block,(ad.add (k.toNat*15)).off+10,none⟩=some (.string (am_ l k).f5.f1)∧w'.cell? ⟨(ad.add (k.toNat*15)).block,(ad.add (k.toNat*15)).off+11,none⟩=some (.int .i64 (am_ l k).f5.f2)∧w'.cell? ⟨(ad.add (k.toNat*15)).block,(ad.add (k.toNat*15)).off+12,none⟩=some (.int .i64 (am_ l k).f5.f3)∧w'.cell? ⟨(ad.add (k.toNat*15)).block,(ad.add (k.toNat*15)).off+13,none⟩=some (.slice A13 (am_ l k).f5.f4.length c13)∧w'.cell? ⟨(ad.add (k.toNat*15)).block,(ad.add (k.toNat*15)).off+14,none⟩=some (.int .i64 (am_ l k).f6)) (ds:=[10]) #[false,false,false,false,false,false,false,false,false,false,false,false] (by kernel_rfl) rfl rfl (by rw [←hVd];exact (HS19.out _ (Below.refl _ _))) (fun hHeld=>?_)
   rw [←hVd] at hHeld ⊢
   clear hVd
   refine pu_ 1 19 ?_
   refine pu_ 2 20 ?_
   refine pu_ 3 21 ?_
   refine ta_ 0 18 hHeld ?_
   refine ta_ 4 22 hHeld ?_
   refine join_ (σ:=(Option Addr × Nat) × (Option Addr × Nat) × Nat) 2 #[true,true,true,true,true,true,true,true,true,true,false,false] (fun s=>[(23,.tuple #[.agg #[.slice s.1.1 (LV (k+1)).length s.1.2,.slice s.2.1.1 (LR (k+1)).length s.2.1.2,.slice none 0 0,.slice none 0 0],.int .i64 0]),(17,.tuple #[.agg #[.slice s.1.1 (LV (k+1)).length s.1.2,.slice s.2.1.1 (LR (k+1)).length s.2.1.2,.slice none 0 0,.slice none 0 0],.int .i64 0]),(24,.agg #[.slice s.1.1 (LV (k+1)).length s.1.2,.slice s.2.1.1 (LR (k+1)).length s.2.1.2,.slice none 0 0,.slice none 0 0]),(25,.int .i64 0),(8,.pointer (some ⟨s.2.2,0,none⟩))]) (fun s w'=>(w'.cell? ⟨W.heap.size+1,0,none⟩=some (.slice AV (LV k).length cv)∧w'.cell? ⟨W.heap.size+1,1,none⟩=some (.slice AR (LR k).length cr)∧w'.cell? ⟨W.heap.size+1,2,none⟩=some (.slice none 0 0)∧w'.cell? ⟨W.heap.size+1,3,none⟩=some (.slice none 0 0)∧w'.cell? (ad.add (k.toNat*15))=some (.int .i64 (am_ l k).f0)∧w'.cell? ⟨(ad.add (k.toNat*15)).block,(ad.add (k.toNat*15)).off+1,none⟩=some (.string (am_ l k).f1)∧w'.cell? ⟨(ad.add (k.toNat*15)).block,(ad.add (k.toNat*15)).off+2,none⟩=some (.int .i64 (am_ l k).f2)∧w'.cell? ⟨(ad.add (k.toNat*15)).block,(ad.add (k.toNat*15)).off+3,none⟩=some (.bool (am_ l k).f3)∧w'.cell? ⟨(ad.add (k.toNat*15)).block,(ad.add (k.toNat*15)).off+4,none⟩=some (.int .i64 (am_ l k).f4.f0)∧w'.cell? ⟨(ad.add (k.toNat*15)).block,(ad.add (k.toNat*15)).off+5,none⟩=some (.string (am_ l k).f4.f1)∧w'.cell? ⟨(ad.add (k.toNat*15)).block,(ad.add (k.toNat*15)).off+6,none⟩=some (.int .i64 (am_ l k).f4.f2)∧w'.cell? ⟨(ad.add (k.toNat*15)).block,(ad.add (k.toNat*15)).off+7,none⟩=some (.int .i64 (am_ l k).f4.f3)∧w'.cell? ⟨(ad.add (k.toNat*15)).block,(ad.add (k.toNat*15)).off+8,none⟩=some (.slice A8 (am_ l k).f4.f4.length c8)∧w'.cell? ⟨(ad.add (k.toNat*15)).block,(ad.add (k.toNat*15)).off+9,none⟩=some (.int .i64 (am_ l k).f5.f0)∧w'.cell? ⟨(ad.add (k.toNat*15)).block,(ad.add (k.toNat*15)).off+10,none⟩=some (.string (am_ l k).f5.f1)∧w'.cell? ⟨(ad.add (k.toNat*15)).block,(ad.add (k.toNat*15)).off+11,none⟩=some (.int .i64 (am_ l k).f5.f2)∧w'.cell? ⟨(ad.add (k.toNat*15)).block,(ad.add (k.toNat*15)).off+12,none⟩=some (.int .i64 (am_ l k).f5.f3)∧w'.cell? ⟨(ad.add (k.toNat*15)).block,(ad.add (k.toNat*15)).off+13,none⟩=some (.slice A13 (am_ l k).f5.f4.length c13)∧w'.cell? ⟨(ad.add (k.toNat*15)).block,(ad.add (k.toNat*15)).off+14,none⟩=some (.int .i64 (am_ l k).f6))∧Cap s.1.1 (LV (k+1)).length s.1.2∧Kd.F k93 w' (fun j=>(W.heap.size+2<=j∧some j≠(Value.slice An (NM k).length cn).ownBlock)∧j≠s.2.2) s.1.1 (LV (k+1)).length (LV (k+1))∧Cap s.2.1.1 (LR (k+1)).length s.2.1.2∧Kd.F k55 w' (fun j=>(W.heap.size+2<=j∧some j≠(Value.slice An (NM k).length cn).ownBlock)∧j≠s.2.2) s.2.1.1 (LR (k+1)).length (LR (k+1))∧w'.heap[s.2.2]? =some (.cells #[.slice none 0 0,.slice none 0 0,.slice none 0 0,.slice none 0 0] 27 (0,0))∧Vd.heap.size<=s.2.2∧Below Vd.heap.size Vd w') ?_ ?_
   rotate_left
   ·intro hCont
    refine two_ (i:=5) (j:=9) (Ni:=some 23) (Nj:=some 8) #[true,true,true,true,true,true,false,false,false,false,false,false] #[true,true,true,true,true,false,false,false,false,true,false,false] rfl rfl rfl rfl (by kernel_rfl) (by decide) (by decide) (fun K hK=>?_) (fun K hK=>?_)
    ·skip
     refine goes_ Tryz.func105 (by kernel_rfl) rfl #[.agg #[.slice AV (LV k).length cv,.slice AR (LR k).length cr,.slice none 0 0,.slice none 0 0],.agg #[.int .i64 (am_ l k).f0,.string (am_ l k).f1,.int .i64 (am_ l k).f2,.bool (am_ l k).f3,.int .i64 (am_ l k).f4.f0,.string (am_ l k).f4.f1,.int .i64 (am_ l k).f4.f2,.int .i64 (am_ l k).f4.f3,.slice A8 (am_ l k).f4.f4.length c8,.int .i64 (am_ l k).f5.f0,.string (am_ l k).f5.f1,.int .i64 (am_ l k).f5.f2,.int .i64 (am_ l k).f5.f3,.slice A13 (am_ l k).f5.f4.length c13,.int .i64 (am_ l k).f6]] (by rfl) rfl rfl (by simp only [List.map_toArray,List.map_cons,List.map_nil];rfl) ?_
     with_reducible refine (ONE.out Vd BD.out).mono ?_
     rintro e_ Wq1 ⟨A1,c1,A2,c2,rfl,hl1,hF1,hl2,hF2,hb_⟩
     refine ⟨_,rfl,?_⟩
     have hB_:Below Vd.heap.size Vd Wq1:=BD.out.trans (hb_.mono BD.out.size)
     have BWq1:=Sd.m hB_
     have HLL:=Sd.m (And.intro hl1 hl2)
     have HF1:=Sd.m hF1
     have HF2:=Sd.m hF2
     clear hl1 hl2 hF1 hF2 hb_ hB_
     refine hK.out _ _ (HS19.out _ BWq1.out) (fun hHeld=>?_)
     clear hK K
     refine no_ 23 ?_
     refine pu_ 6 17 ?_
     refine pu_ 7 24 ?_
     refine pu_ 8 25 ?_
     refine on_ 9 8 (fun K hK=>?_)
     refine value_ (w1:=?_) (v:=?_) (by rfl) rfl ?_ ?_
     rotate_left 2
     ·go_simp
      constructor
      ·rfl
      ·rfl
     have hT:=aj_ Wq1 (.cells #[.slice none 0 0,.slice none 0 0,.slice none 0 0,.slice none 0 0] 27)
     have hb_:=ab_ (Below.refl Wq1.heap.size Wq1) (.cells #[.slice none 0 0,.slice none 0 0,.slice none 0 0,.slice none 0 0] 27)
     have hs_:(Wq1.alloc (.cells #[.slice none 0 0,.slice none 0 0,.slice none 0 0,.slice none 0 0] 27)).heap.size=Wq1.heap.size+1:=Array.size_push _
     have ok_: ∀ j,((((W.heap.size+2<=j∧some j≠(Value.slice An (NM k).length cn).ownBlock)∧j<Vd.heap.size)∨Vd.heap.size<=j)∧j<Wq1.heap.size)->((W.heap.size+2<=j∧some j≠(Value.slice An (NM k).length cn).ownBlock)∧j≠Wq1.heap.size):=fun j hj=>by have h3_:=HZ2.out;exact Or.elim hj.1 (fun hk=>⟨hk.1,Nat.ne_of_lt hj.2⟩) (fun hk=>⟨⟨by omega,fun he=>by have:=HNV.out j he.symm;omega⟩,Nat.ne_of_lt hj.2⟩)
     have hF1:=F_mono (F_below (F_bound HF1.out) hb_) ok_
     have hF2:=F_mono (F_below (F_bound HF2.out) hb_) ok_
     clear ok_
     have hB_:Below Vd.heap.size Vd _:=BWq1.out.trans (hb_.mono BWq1.out.size)
     generalize Wq1.alloc (.cells #[.slice none 0 0,.slice none 0 0,.slice none 0 0,.slice none 0 0] 27)=Wq2 at hT hb_ hs_ hB_ hF1 hF2 ⊢
     have HT:=Sd.m hT
     have BWq2:=Sd.m hB_
     have SZ2:=Sd.m hs_
     clear HF1 HF2
     have HF1:=Sd.m hF1
     have HF2:=Sd.m hF2
     clear hF1 hF2
     clear hT hb_ hB_ hs_
     refine hK.out _ _ (HS19.out _ BWq2.out) (fun hHeld=>?_)
     clear hK K
     refine no_ 8 ?_
     refine norm_ ?_ (hCont ((A1,c1),(A2,c2),Wq1.heap.size) _ ?_)
     ·first | (simp only [putAll,Act.put,List.setIfInBounds_toArray,List.set_cons_zero,List.set_cons_succ];done) | (simp only [putAll,Act.put,List.setIfInBounds_toArray,List.set_cons_zero,List.set_cons_succ];rfl)
     exact ⟨hHeld,HLL.out.1,HF1.out,HLL.out.2,HF2.out,HT.out,by exact BWq1.out.size,BWq2.out⟩
    ·skip
     refine value_ (w1:=?_) (v:=?_) (by rfl) rfl ?_ ?_
     rotate_left 2
     ·go_simp
      constructor
      ·rfl
      ·rfl
     have hT:=aj_ Vd (.cells #[.slice none 0 0,.slice none 0 0,.slice none 0 0,.slice none 0 0] 27)
     have hb_:=ab_ (Below.refl Vd.heap.size Vd) (.cells #[.slice none 0 0,.slice none 0 0,.slice none 0 0,.slice none 0 0] 27)
     have hs_:(Vd.alloc (.cells #[.slice none 0 0,.slice none 0 0,.slice none 0 0,.slice none 0 0] 27)).heap.size=Vd.heap.size+1:=Array.size_push _
     have hB_:Below Vd.heap.size Vd _:=BD.out.trans (hb_.mono BD.out.size)
     generalize Vd.alloc (.cells #[.slice none 0 0,.slice none 0 0,.slice none 0 0,.slice none 0 0] 27)=Wq1 at hT hb_ hs_ hB_ ⊢
     have HT:=Sd.m hT
     have BWq1:=Sd.m hB_
     have SZ1:=Sd.m hs_
     clear hT hb_ hB_ hs_
     refine hK.out _ _ (HS19.out _ BWq1.out) (fun hHeld=>?_)
     clear hK K
     refine no_ 8 ?_
     refine on_ 5 23 (fun K hK=>?_)
     refine goes_ Tryz.func105 (by kernel_rfl) rfl #[.agg #[.slice AV (LV k).length cv,.slice AR (LR k).length cr,.slice none 0 0,.slice none 0 0],.agg #[.int .i64 (am_ l k).f0,.string (am_ l k).f1,.int .i64 (am_ l k).f2,.bool (am_ l k).f3,.int .i64 (am_ l k).f4.f0,.string (am_ l k).f4.f1,.int .i64 (am_ l k).f4.f2,.int .i64 (am_ l k).f4.f3,.slice A8 (am_ l k).f4.f4.length c8,.int .i64 (am_ l k).f5.f0,.string (am_ l k).f5.f1,.int .i64 (am_ l k).f5.f2,.int .i64 (am_ l k).f5.f3,.slice A13 (am_ l k).f5.f4.length c13,.int .i64 (am_ l k).f6]] (by rfl) rfl rfl (by simp only [List.map_toArray,List.map_cons,List.map_nil];rfl) ?_
     with_reducible refine (ONE.out Wq1 BWq1.out).mono ?_
     rintro e_ Wq2 ⟨A1,c1,A2,c2,rfl,hl1,hF1,hl2,hF2,hb_⟩
     refine ⟨_,rfl,?_⟩
     have hB_:Below Vd.heap.size Vd Wq2:=BWq1.out.trans (hb_.mono BWq1.out.size)
     have hT_:=ag_ HT.out hb_
     clear HT
     have HT:=Sd.m hT_
     clear hT_
     have BWq2:=Sd.m hB_
     have HLL:=Sd.m (And.intro hl1 hl2)
     have ok_: ∀ j,(((W.heap.size+2<=j∧some j≠(Value.slice An (NM k).length cn).ownBlock)∧j<Vd.heap.size)∨Wq1.heap.size<=j)->((W.heap.size+2<=j∧some j≠(Value.slice An (NM k).length cn).ownBlock)∧j≠Vd.heap.size):=fun j hj=>by have h1_:=SZ1.out;have h3_:=HZ2.out;exact Or.elim hj (fun hj=>⟨hj.1,Nat.ne_of_lt hj.2⟩) (fun hj=>⟨⟨by omega,fun he=>by have:=HNV.out j he.symm;omega⟩,by omega⟩)
     have HF1:=Sd.m (F_mono hF1 ok_)
     have HF2:=Sd.m (F_mono hF2 ok_)
     clear ok_
     clear hl1 hl2 hF1 hF2 hb_ hB_
     refine hK.out _ _ (HS19.out _ BWq2.out) (fun hHeld=>?_)
     clear hK K
     refine no_ 23 ?_
     refine pu_ 6 17 ?_
     refine pu_ 7 24 ?_
     refine pu_ 8 25 ?_
     refine norm_ ?_ (hCont ((A1,c1),(A2,c2),Vd.heap.size) _ ?_)
     ·first | (simp only [putAll,Act.put,List.setIfInBounds_toArray,List.set_cons_zero,List.set_cons_succ];done) | (simp only [putAll,Act.put,List.setIfInBounds_toArray,List.set_cons_zero,List.set_cons_succ];rfl)
     exact ⟨hHeld,HLL.out.1,HF1.out,HLL.out.2,HF2.out,HT.out,by exact Nat.le_refl _,BWq2.out⟩
   rintro ⟨⟨A1,c1⟩,⟨A2,c2⟩,g8⟩ Wj ⟨hHeld,hl1,hF1,hl2,hF2,hT,hg8,hbj⟩
   dsimp only at hl1 hF1 hl2 hF2 hT hg8
   dsimp only [putAll]
   have n0:=bc_ hT 0 rfl
   have n1:=bc_ hT 1 rfl
   have n2:=bc_ hT 2 rfl
   have n3:=bc_ hT 3 rfl
   have m0:=aa_ hT 0
   have m1:=aa_ hT 1
   have m2:=aa_ hT 2
   have m3:=aa_ hT 3
   have HF1:=Sd.m hF1
   have HF2:=Sd.m hF2
   have HT:=Sd.m hT
   have HBJ:=Sd.m hbj
   have HG8_:=Sd.m hg8
   clear hF1 hF2 hT hbj hg8
   refine norm_ (a':=?_) ?_ ?_
   rotate_left
   ·simp only [putAll,Act.put,List.setIfInBounds_toArray,List.set_cons_zero,List.set_cons_succ]
    rfl
   refine last_ (i:=10) (N:=none) #[true,true,true,true,true,true,true,true,true,true,true,false] rfl rfl (by kernel_rfl) (by decide) (fun K hK=>?_)
   refine skip_ (w1:=?_) (by rfl) rfl ?_ ?_
   rotate_left
   ·go_simp
    rfl
   refine hK.out _ _ ?_
   clear hK K
   refine pu_ 11 9 ?_
   refine done_ (by kernel_rfl) ?_
   obtain ⟨Wa,hWa⟩: ∃ W_,W_=putL Wj g8 0 [.slice A1 (LV (k+1)).length c1,.slice A2 (LR (k+1)).length c2,.slice none 0 0,.slice none 0 0]:=⟨_,rfl⟩
   have hg8:=HG8_.out
   have hz2:=HZ2.out
   have hbA:Below Vd.heap.size Vd Wa:=by rw [hWa];exact cn_ hg8 _ Wj 0 HBJ.out
   have hta:Wa.heap[g8]? =some (.cells #[.slice A1 (LV (k+1)).length c1,.slice A2 (LR (k+1)).length c2,.slice none 0 0,.slice none 0 0] 27 (0,0)):=by rw [hWa];exact cr_ _ Wj 0 _ HT.out
   have hF1a:Kd.F k93 Wa (fun j=>W.heap.size+2<=j∧some j≠(Value.slice An (NM k).length cn).ownBlock) A1 (LV (k+1)).length (LV (k+1)):=by rw [hWa];exact F_mono (cf_ (n:=g8) (fun j hj=>hj.2) _ Wj 0 HF1.out) (fun j hj=>hj.1)
   have hF2a:Kd.F k55 Wa (fun j=>W.heap.size+2<=j∧some j≠(Value.slice An (NM k).length cn).ownBlock) A2 (LR (k+1)).length (LR (k+1)):=by rw [hWa];exact F_mono (cf_ (n:=g8) (fun j hj=>hj.2) _ Wj 0 HF2.out) (fun j hj=>hj.1)
   have hqa:=HBDR.out.trans (hbA.mono HBDR.out.size)
   have hka:=ag_ HBK.out hqa
   have hra:=ag_ HBR.out hqa
   have hna:=N_below HNM.out hqa
   obtain ⟨Wb,hWb⟩: ∃ W_,W_=putL Wa (W.heap.size+1) 0 [.slice A1 (LV (k+1)).length c1,.slice A2 (LR (k+1)).length c2,.slice none 0 0,.slice none 0 0]:=⟨_,rfl⟩
   have hkb:Wb.heap[W.heap.size+1]? =some (.cells #[.slice A1 (LV (k+1)).length c1,.slice A2 (LR (k+1)).length c2,.slice none 0 0,.slice none 0 0] 27 (0,0)):=by rw [hWb];exact cr_ _ Wa 0 _ hka
   have hrb:Wb.heap[W.heap.size]? =some (.cells #[.slice none 0 0,.slice none 0 0,.slice none 0 0,.slice none 0 0] 27 (0,0)):=by rw [hWb];exact eg_ (n:=W.heap.size+1) (by omega) _ Wa 0 hra
   have hF1b:Kd.F k93 Wb (fun j=>W.heap.size+2<=j∧some j≠(Value.slice An (NM k).length cn).ownBlock) A1 (LV (k+1)).length (LV (k+1)):=by rw [hWb];exact cf_ (n:=W.heap.size+1) (fun j hj=>by have:=hj.1;omega) _ Wa 0 hF1a
   have hF2b:Kd.F k55 Wb (fun j=>W.heap.size+2<=j∧some j≠(Value.slice An (NM k).length cn).ownBlock) A2 (LR (k+1)).length (LR (k+1)):=by rw [hWb];exact cf_ (n:=W.heap.size+1) (fun j hj=>by have:=hj.1;omega) _ Wa 0 hF2a
   have hbB:Below W.heap.size W Wb:=by rw [hWb];exact cn_ (n:=W.heap.size+1) (by omega) _ Wa 0 (HB.out.trans (hqa.mono HB.out.size))
   replace hWa:Wa=(((Wj.setCell ⟨g8,0,none⟩ (.slice A1 (LV (k+1)).length c1)).setCell ⟨g8,1,none⟩ (.slice A2 (LR (k+1)).length c2)).setCell ⟨g8,2,none⟩ (.slice none 0 0)).setCell ⟨g8,3,none⟩ (.slice none 0 0):=hWa
   replace hWb:Wb=(((Wa.setCell ⟨W.heap.size+1,0,none⟩ (.slice A1 (LV (k+1)).length c1)).setCell ⟨W.heap.size+1,1,none⟩ (.slice A2 (LR (k+1)).length c2)).setCell ⟨W.heap.size+1,2,none⟩ (.slice none 0 0)).setCell ⟨W.heap.size+1,3,none⟩ (.slice none 0 0):=hWb
   have okn: ∀ j,W.heap.size+2<=j->j≠W.heap.size+1:=fun j hj=>by omega
   have hnb:Kd.N Kd.string 9 Wb (W.heap.size+2) (fun j=>W.heap.size+2<=j) (.slice An (NM k).length cn) (NM k):=by
    rw [hWb]
    exact N_far (p:=⟨W.heap.size+1,3,none⟩) (N_far (p:=⟨W.heap.size+1,2,none⟩) (N_far (p:=⟨W.heap.size+1,1,none⟩) (N_far (p:=⟨W.heap.size+1,0,none⟩) hna okn _) okn _) okn _) okn _
   have q0:=bc_ hta 0 rfl
   have s0:=bc_ hka 0 rfl
   have z0:=aa_ hka 0
   have q1:=bc_ hta 1 rfl
   have s1:=bc_ hka 1 rfl
   have z1:=aa_ hka 1
   have q2:=bc_ hta 2 rfl
   have s2:=bc_ hka 2 rfl
   have z2:=aa_ hka 2
   have q3:=bc_ hta 3 rfl
   have s3:=bc_ hka 3 rfl
   have z3:=aa_ hka 3
   have HWA:=Sd.m hWa
   have HWB:=Sd.m hWb
   have HKB:=Sd.m hkb
   have HRB:=Sd.m hrb
   have HF1B:=Sd.m hF1b
   have HF2B:=Sd.m hF2b
   have HBB:=Sd.m hbB
   have HNB2:=Sd.m hnb
   clear n0 n1 n2 n3 m0 m1 m2 m3 hWa hWb hkb hrb hF1b hF2b hbB hnb hg8 hz2 hbA hta hF1a hF2a hqa hka hra hna okn HF1 HF2 HT HBJ HG8_ HFV HFR
   go_upto_region 9 with fail
   rw [←HWA.out]
   go_upto_region 10 with fail
   rw [←HWB.out]
   obtain ⟨ad2,B8,e8,B13,e13,he,j0,j1,j2,j3,j4,j5,j6,j7,j8,j9,j10,j11,j12,j13,j14,l8,g8,l13,g13⟩:=at_T87 HL.out k hk0 hlt
   injection he with he
   subst he
   have cw:=fun (w:World) (hw:Below W.heap.size W w) (p:Addr) (v:Value) (h:W.cell? p=some v)=>(hw.cell (bl__ W _ h)).trans h
   have hk3:((am_ l k).f0 == 3)=false:=by simpa using HK3.out k hk0 hlt
   have i0:=cw Wb HBB.out _ _ j0
   obtain ⟨kA,hA⟩:=HNA.out k hk0 hlt
   obtain ⟨kB,hB⟩:=HNBF.out k hk0 hlt
   obtain ⟨hM,hM9⟩:=HNMS.out k hk0 hlt
   have HM:=Sd.m hM
   have hM1:(NM k).length+(NA k).length+(NB k).length<=1000:=by rw [hM] at hM9;simp only [List.length_append] at hM9;omega
   have HM9:=Sd.m hM1
   have NMA:Sd (∀ w,Below W.heap.size W w->Calls Tryz.prog 106 #[.agg #[.int .i64 (am_ l k).f4.f0,.string (am_ l k).f4.f1,.int .i64 (am_ l k).f4.f2,.int .i64 (am_ l k).f4.f3,.slice B8 (am_ l k).f4.f4.length e8]] w fun e w'=> ∃ B1 m1,e=.returned (.slice B1 (NA k).length m1)∧Kd.F Kd.string w' (fun j=>w.heap.size<=j∧j<w'.heap.size) B1 (NA k).length (NA k)∧Below w.heap.size w w'):=⟨fun w hw=>ja_ kA _ B8 e8 _ w (Kd.C_below g8 hw) l8 hA⟩
   have NMB:Sd (∀ w,Below W.heap.size W w->Calls Tryz.prog 106 #[.agg #[.int .i64 (am_ l k).f5.f0,.string (am_ l k).f5.f1,.int .i64 (am_ l k).f5.f2,.int .i64 (am_ l k).f5.f3,.slice B13 (am_ l k).f5.f4.length e13]] w fun e w'=> ∃ B1 m1,e=.returned (.slice B1 (NB k).length m1)∧Kd.F Kd.string w' (fun j=>w.heap.size<=j∧j<w'.heap.size) B1 (NB k).length (NB k)∧Below w.heap.size w w'):=⟨fun w hw=>ja_ kB _ B13 e13 _ w (Kd.C_below g13 hw) l13 hB⟩
   have HS10:Sd (∀ w',Below W.heap.size W w'->w'.cell? ⟨(ad.add (k.toNat*15)).block,(ad.add (k.toNat*15)).off+4,none⟩=some (.int .i64 (am_ l k).f4.f0)∧w'.cell? ⟨(ad.add (k.toNat*15)).block,(ad.add (k.toNat*15)).off+5,none⟩=some (.string (am_ l k).f4.f1)∧w'.cell? ⟨(ad.add (k.toNat*15)).block,(ad.add (k.toNat*15)).off+6,none⟩=some (.int .i64 (am_ l k).f4.f2)∧w'.cell? ⟨(ad.add (k.toNat*15)).block,(ad.add (k.toNat*15)).off+7,none⟩=some (.int .i64 (am_ l k).f4.f3)∧w'.cell? ⟨(ad.add (k.toNat*15)).block,(ad.add (k.toNat*15)).off+8,none⟩=some (.slice B8 (am_ l k).f4.f4.length e8)∧w'.cell? ⟨(ad.add (k.toNat*15)).block,(ad.add (k.toNat*15)).off+9,none⟩=some (.int .i64 (am_ l k).f5.f0)∧w'.cell? ⟨(ad.add (k.toNat*15)).block,(ad.add (k.toNat*15)).off+10,none⟩=some (.string (am_ l k).f5.f1)∧w'.cell? ⟨(ad.add (k.toNat*15)).block,(ad.add (k.toNat*15)).off+11,none⟩=some (.int .i64 (am_ l k).f5.f2)∧w'.cell? ⟨(ad.add (k.toNat*15)).block,(ad.add (k.toNat*15)).off+12,none⟩=some (.int .i64 (am_ l k).f5.f3)∧w'.cell? ⟨(ad.add (k.toNat*15)).block,(ad.add (k.toNat*15)).off+13,none⟩=some (.slice B13 (am_ l k).f5.f4.length e13)):=⟨fun w' hw=>⟨cw w' hw _ _ j4,cw w' hw _ _ j5,cw w' hw _ _ j6,cw w' hw _ _ j7,cw w' hw _ _ j8,cw w' hw _ _ j9,cw w' hw _ _ j10,cw w' hw _ _ j11,cw w' hw _ _ j12,cw w' hw _ _ j13⟩⟩
   have NS:NmAt W Wb (Value.slice An (NM k).length cn).ownBlock A1 (LV (k+1)) A2 (LR (k+1)) #[.slice A1 (LV (k+1)).length c1,.slice A2 (LR (k+1)).length c2,.slice none 0 0,.slice none 0 0] Wb (.slice An (NM k).length cn) (NM k):=⟨HNB2.out,fun j hj=>Or.inl hj,Nat.le_refl _,F_bound HF1B.out,F_bound HF2B.out,HBB.out,HRB.out,HKB.out⟩
   obtain ⟨Ve,hVe⟩: ∃ W_,W_=Wb.drew:=⟨_,rfl⟩
   have NSE:=Sd.m (NS.below (show Below Wb.heap.size Wb Ve by rw [hVe];exact cg_ (Below.refl _ _)))
   clear j0 j1 j2 j3 j4 j5 j6 j7 j8 j9 j10 j11 j12 j13 j14 l8 g8 l13 g13 cw hA hB hM hM9 hM1 NS q0 s0 z0 q1 s1 z1 q2 s2 z2 q3 s3 z3
   go_upto_region 11 with fail
   clear i0 hk3
   refine start_ (n:=16) (S:=fun w'=>w'.cell? ⟨(ad.add (k.toNat*15)).block,(ad.add (k.toNat*15)).off+4,none⟩=some (.int .i64 (am_ l k).f4.f0)∧w'.cell? ⟨(ad.add (k.toNat*15)).block,(ad.add (k.toNat*15)).off+5,none⟩=some (.string (am_ l k).f4.f1)∧w'.cell? ⟨(ad.add (k.toNat*15)).block,(ad.add (k.toNat*15)).off+6,none⟩=some (.int .i64 (am_ l k).f4.f2)∧w'.cell? ⟨(ad.add (k.toNat*15)).block,(ad.add (k.toNat*15)).off+7,none⟩=some (.int .i64 (am_ l k).f4.f3)∧w'.cell? ⟨(ad.add (k.toNat*15)).block,(ad.add (k.toNat*15)).off+8,none⟩=some (.slice B8 (am_ l k).f4.f4.length e8)∧w'.cell? ⟨(ad.add (k.toNat*15)).block,(ad.add (k.toNat*15)).off+9,none⟩=some (.int .i64 (am_ l k).f5.f0)∧w'.cell? ⟨(ad.add (k.toNat*15)).block,(ad.add (k.toNat*15)).off+10,none⟩=some (.string (am_ l k).f5.f1)∧w'.cell? ⟨(ad.add (k.toNat*15)).block,(ad.add (k.toNat*15)).off+11,none⟩=some (.int .i64 (am_ l k).f5.f2)∧w'.cell? ⟨(ad.add (k.toNat*15)).block,(ad.add (k.toNat*15)).off+12,none⟩=some (.int .i64 (am_ l k).f5.f3)∧w'.cell? ⟨(ad.add (k.toNat*15)).block,(ad.add (k.toNat*15)).off+13,none⟩=some (.slice B13 (am_ l k).f5.f4.length e13)) (ds:=[]) #[false,false,false,false,false,false,false,false,false,false,false,false,false,false,false,false] (by kernel_rfl) rfl rfl (by rw [←hVe];exact (HS10.out _ NSE.out.B)) (fun hHeld=>?_)
   rw [←hVe] at hHeld ⊢
   clear hVe
   refine pu_ 0 42 ?_
   refine pu_ 1 43 ?_
   refine pu_ 2 44 ?_
   refine pu_ 3 45 ?_
   refine pu_ 4 46 ?_
   refine pu_ 8 50 ?_
   refine pu_ 9 51 ?_
   refine pu_ 10 52 ?_
   refine pu_ 11 53 ?_
   refine ta_ 5 47 hHeld ?_
   refine ta_ 12 54 hHeld ?_
   refine on_ 6 48 (fun K hK=>?_)
   refine goes_ Tryz.func106 (by kernel_rfl) rfl #[.agg #[.int .i64 (am_ l k).f4.f0,.string (am_ l k).f4.f1,.int .i64 (am_ l k).f4.f2,.int .i64 (am_ l k).f4.f3,.slice B8 (am_ l k).f4.f4.length e8]] (by rfl) rfl rfl (by simp only [List.map_toArray,List.map_cons,List.map_nil];rfl) ?_
   with_reducible refine (NMA.out _ NSE.out.B).mono ?_
   rintro e_ we ⟨yab,yam,rfl,hy_,hb_⟩
   refine ⟨_,rfl,?_⟩
   have hlt_:=fun j hj=>N_lt NSE.out.N j hj
   have hge_:W.heap.size+2<=_:=cb_ NSE.out.b
   have yaN:=Sd.m (NSE.out.below hb_)
   have yaY:=Sd.m hy_
   have yaO:Sd (∀ j,(_<=j∧j<we.heap.size)->W.heap.size+2<=j∧some j≠Value.ownBlock _):=⟨fun j hj=>⟨Nat.le_trans hge_ hj.1,fun he=>Nat.lt_irrefl j (Nat.lt_of_lt_of_le (hlt_ j he.symm) hj.1)⟩⟩
   clear hy_ hb_ hlt_ hge_
   refine hK.out _ _ (HS10.out _ yaN.out.B) (fun hHeld=>?_)
   clear hK K
   refine no_ 48 ?_
   refine on_ 7 49 (fun K hK=>?_)
   obtain ⟨C1,k1,wf,hrun_,hf_⟩:=yaN.out.app yab yam _ yaY.out yaO.out (by have:=HM9.out;omega)
   refine cq_ rfl (.tmp 42) (.tmp 48) 25 rfl _ _ rfl rfl hrun_ ?_
   have NSF:=Sd.m hf_
   clear hf_ hrun_
   refine hK.out _ _ (HS10.out _ NSF.out.B) (fun hHeld=>?_)
   clear hK K
   refine no_ 49 ?_
   refine on_ 13 55 (fun K hK=>?_)
   refine goes_ Tryz.func106 (by kernel_rfl) rfl #[.agg #[.int .i64 (am_ l k).f5.f0,.string (am_ l k).f5.f1,.int .i64 (am_ l k).f5.f2,.int .i64 (am_ l k).f5.f3,.slice B13 (am_ l k).f5.f4.length e13]] (by rfl) rfl rfl (by simp only [List.map_toArray,List.map_cons,List.map_nil];rfl) ?_
   with_reducible refine (NMB.out _ NSF.out.B).mono ?_
   rintro e_ wg ⟨ybb,ybm,rfl,hy_,hb_⟩
   refine ⟨_,rfl,?_⟩
   have hlt_:=fun j hj=>N_lt NSF.out.N j hj
   have hge_:W.heap.size+2<=_:=cb_ NSF.out.b
   have ybN:=Sd.m (NSF.out.below hb_)
   have ybY:=Sd.m hy_
   have ybO:Sd (∀ j,(_<=j∧j<wg.heap.size)->W.heap.size+2<=j∧some j≠Value.ownBlock _):=⟨fun j hj=>⟨Nat.le_trans hge_ hj.1,fun he=>Nat.lt_irrefl j (Nat.lt_of_lt_of_le (hlt_ j he.symm) hj.1)⟩⟩
   clear hy_ hb_ hlt_ hge_
   refine hK.out _ _ (HS10.out _ ybN.out.B) (fun hHeld=>?_)
   clear hK K
   refine no_ 55 ?_
   refine on_ 14 56 (fun K hK=>?_)
   obtain ⟨D1,k2,wh,hrun_,hf_⟩:=ybN.out.app ybb ybm _ ybY.out ybO.out (by have:=HM9.out;simp only [List.length_append];omega)
   refine cq_ rfl (.tmp 49) (.tmp 55) 25 rfl _ _ rfl rfl hrun_ ?_
   have NSH:=Sd.m hf_
   clear hf_ hrun_
   refine hK.out _ _ (HS10.out _ NSH.out.B) (fun hHeld=>?_)
   clear hK K
   refine no_ 56 ?_
   refine pu_ 15 6 ?_
   refine done_ (by kernel_rfl) ?_
   have hwr:wrap64 (k+1)=k+1:=by unfold wrap64;omega
   go_wp2_with fail
   go_roundw
   case rel=>
    have NS2:=NSH.out
    rw [show ((NM k ++ NA k) ++ NB k).length=(NM k).length+((NA k).length+(NB k).length) by simp [Nat.add_assoc]] at NS2
    have hq: ∀ j,((W.heap.size+2<=j∧some j≠(Value.slice An (NM k).length cn).ownBlock)∧j<Wb.heap.size)->W.heap.size+2<=j∧some j≠(Value.slice D1 ((NM k).length+((NA k).length+(NB k).length)) k2).ownBlock:=fun j hj=>⟨hj.1.1,fun he=>(NS2.own j he.symm).elim (fun e=>hj.1.2 e.symm) (fun e=>by have:=hj.2;omega)⟩
    refine ⟨k+1,A1,c1,A2,c2,by omega,by omega,rfl,NS2.B,NS2.r,NS2.b,hl1,hl2,F_mono NS2.F1 hq,F_mono NS2.F2 hq,?_⟩
    rw [HM.out]
    exact NS2.N
   case measure=>simp only [intOf];omega
  ·have hke:k=(l.length:Int):=by omega
   subst hke
   have hnlt:decide ((l.length:Int)<(l.length:Int))=false:=by simp
   have hF1:=HFV.out
   have hbk:=HBK.out
   rw [HLV.out] at hF1 hbk hcv
   have HE0:Sd (BuE W vv (LR (l.length:Int)) AV cv AR cr An (NM (l.length:Int)) (.int .i64 0) wr):=⟨N_F HNM.out,HB.out,HBR.out,F_mono hF1 (fun j hj=>hj.1),F_mono HFR.out (fun j hj=>hj.1),Or.inl ⟨rfl,hbk⟩⟩
   have HNC:=Sd.m (N_reads' HNM.out)
   clear hF1 hbk
   go_wp2_with fail
   go_loopw [10] (fun t10 Wx=>BuE W vv (LR (l.length:Int)) AV cv AR cr An (NM (l.length:Int)) t10 Wx) (fun t10 _=>(1 - intOf t10).toNat)
   case atStart=>exact HE0.out
   case round=>
    obtain ⟨hFn,hbX,hrX,hFv,hFr,hst⟩:=hrel
    rcases hst with ⟨rfl,hbx⟩ | ⟨rfl,AU,cu,hcu,hFu,hbx⟩
    ·obtain ⟨ad,A2,c2,A3,c3,A4,c4,rfl,k0,-⟩:=at_T93 (F_now hFv) 0 (by decide) (by decide)
     change wr.cell? _=some (.string vv.f0) at k0
     have e0:ad.add ((0:Int).toNat*7)=ad:=by simp [Addr.add]
     rw [e0] at k0
     clear e0
     have q0:=bc_ hbx 0 rfl
     have HH:=Sd.m (bt_.calls kh An cn (NM (l.length:Int)) vv.f0 true wr (F_now hFn) HNC.out.2.1 HHAS.out)
     have HFn:=Sd.m hFn
     have HFv:=Sd.m hFv
     have HFr:=Sd.m hFr
     have HbX:=Sd.m hbX
     have HrX:=Sd.m hrX
     have Hbx:=Sd.m hbx
     clear hFn hFv hFr hbX hrX hbx
     go_wp2_with fail
     refine HH.out.mono ?_
     rintro e Vx ⟨rfl,hdr⟩
     have hbd:=hdr.below
     obtain ⟨Vf,hVf⟩: ∃ W_,W_=Vx.drew:=⟨_,rfl⟩
     have hbf:=hbd.trans ((show Below Vx.heap.size Vx Vf by rw [hVf];exact cg_ (Below.refl _ _)).mono hbd.size)
     have HFN2:=Sd.m (F_below HFn.out hbf)
     have HFV2:=Sd.m (F_below HFv.out hbf)
     have HFR2:=Sd.m (F_below HFr.out hbf)
     have HBX2:=Sd.m (HbX.out.trans (hbf.mono HbX.out.size))
     have HRX2:=Sd.m (ag_ HrX.out hbf)
     have Hbx2:=Sd.m (ag_ Hbx.out hbf)
     have HK0:=Sd.m ((hbf.cell (bl__ wr _ k0)).trans k0)
     have HZF:=Sd.m (cb_ Hbx2.out)
     clear hdr hbd hbf k0 q0 HFn HFv HFr HbX HrX Hbx HH
     have HS5:Sd (∀ w',Below Vf.heap.size Vf w'->w'.cell? ⟨W.heap.size+1,0,none⟩=some (.slice (some ad) 1 cv)∧w'.cell? ⟨W.heap.size+1,3,none⟩=some (.slice none 0 0)∧w'.cell? ad=some (.string vv.f0)):=by
      refine ⟨fun w' hw=>?_⟩
      have a1:=ag_ Hbx2.out hw
      exact ⟨(ae_ a1 0).trans rfl,(ae_ a1 3).trans rfl,(hw.cell (bl__ Vf _ HK0.out)).trans HK0.out⟩
     have BF:=Sd.m (Below.refl Vf.heap.size Vf)
     go_upto_region 16 with fail
     refine start_ (n:=12) (S:=fun w'=>w'.cell? ⟨W.heap.size+1,0,none⟩=some (.slice (some ad) 1 cv)∧w'.cell? ⟨W.heap.size+1,3,none⟩=some (.slice none 0 0)∧w'.cell? ad=some (.string vv.f0)) (ds:=[11]) #[false,false,false,false,false,false,false,false,false,false,false,false] (by kernel_rfl) rfl rfl (by rw [←hVf];exact (HS5.out _ BF.out)) (fun hHeld=>?_)
     rw [←hVf] at hHeld ⊢
     clear hVf
     refine pu_ 0 72 ?_
     refine pu_ 2 74 ?_
     refine pu_ 4 76 ?_
     refine ta_ 1 73 hHeld ?_
     refine ta_ 3 75 hHeld ?_
     refine pu_ 5 77 ?_
     refine pu_ 6 78 ?_
     refine ta_ 7 79 hHeld ?_
     refine on_ 8 80 (fun K hK=>?_)
     refine value_ (w1:=?_) (v:=?_) (by rfl) rfl ?_ ?_
     rotate_left 2
     ·go_simp
      constructor
      ·rfl
      ·rfl
     have hg_:=aj_ Vf (.cells #[.string vv.f0] 9)
     have hb_:=ab_ (Below.refl Vf.heap.size Vf) (.cells #[.string vv.f0] 9)
     generalize hW_:Vf.alloc (.cells #[.string vv.f0] 9)=wi at hg_ hb_ ⊢
     have HGI:=Sd.m hg_
     have BWI:=Sd.m hb_
     clear hg_ hb_ hW_
     refine hK.out _ _ (HS5.out _ BWI.out) (fun hHeld=>?_)
     clear hK K
     refine no_ 80 ?_
     refine on_ 9 81 (fun K hK=>?_)
     obtain ⟨U1,u1,wj,hrun_,hN_,hB_,_,_⟩:=fp_ (P:=Tryz.prog) Kd.string (Vd:=Vf) (Wj:=wi) (W.heap.size+2) 25 25 9 (.string ⟨#[]⟩) 16 Tryz.underlying25 (by kernel_rfl) rfl (by decide) (by decide) none 0 [] [vv.f0] (some ⟨Vf.heap.size,0,none⟩) 1 (fun j=>W.heap.size+2<=j) (fun j=>W.heap.size+2<=j) (N_nil _ _ _ _ _) (F_one (cs:=[.string vv.f0]) HGI.out HZF.out (fun _ _=>rfl)) (fun k hk=>⟨hk,by simp [Value.ownBlock]⟩) (fun k hk=>Nat.le_trans HZF.out hk) HZF.out (fun k hk=>by simp [Value.ownBlock] at hk) BWI.out (by simp)
     refine cq_ rfl (.tmp 73) (.tmp 80) 25 rfl _ _ rfl rfl hrun_ ?_
     have HNJ:=Sd.m hN_
     have BWJ:=Sd.m hB_
     have hbj_:=ag_ Hbx2.out hB_
     have n3:=bc_ hbj_ 3 rfl
     have m3:=aa_ hbj_ 3
     clear hrun_ hN_ hB_
     refine hK.out _ _ (HS5.out _ BWJ.out) (fun hHeld=>?_)
     clear hK K
     refine no_ 81 ?_
     refine pu_ 10 82 ?_
     refine last_ (i:=11) (N:=none) #[true,true,true,true,true,true,true,true,true,true,true,true] rfl rfl (by kernel_rfl) (by decide) (fun K hK=>?_)
     refine skip_ (w1:=?_) (by rfl) rfl ?_ ?_
     rotate_left
     ·go_simp
      rfl
     refine hK.out _ _ ?_
     clear hK K
     refine done_ (by kernel_rfl) ?_
     go_wp2_with fail
     go_roundw
     case rel=>
      have hz:=HZF.out
      have okx: ∀ j,W.heap.size+2<=j->j≠W.heap.size+1:=fun j hj=>by omega
      have hbj:=ag_ Hbx2.out BWJ.out
      refine ⟨cf_ (n:=W.heap.size+1) okx [.slice U1 1 u1] wj 3 (F_below HFN2.out BWJ.out),cn_ (n:=W.heap.size+1) (by omega) [.slice U1 1 u1] wj 3 (HBX2.out.trans (BWJ.out.mono HBX2.out.size)),eg_ (n:=W.heap.size+1) (by omega) [.slice U1 1 u1] wj 3 (ag_ HRX2.out BWJ.out),cf_ (n:=W.heap.size+1) okx [.slice U1 1 u1] wj 3 (F_below HFV2.out BWJ.out),cf_ (n:=W.heap.size+1) okx [.slice U1 1 u1] wj 3 (F_below HFR2.out BWJ.out),Or.inr ⟨rfl,U1,u1,(N_reads' HNJ.out).2.1,cf_ (n:=W.heap.size+1) okx [.slice U1 1 u1] wj 3 (N_F HNJ.out),ch_ hbj 3 _ rfl⟩⟩
     case measure=>simp [intOf]
    ·obtain ⟨V7,hV7⟩: ∃ W_,W_=putL wr W.heap.size 0 [.slice AV 1 cv,.slice AR (LR (l.length:Int)).length cr,.slice none 0 0,.slice AU 1 cu]:=⟨_,rfl⟩
     have hr7:V7.heap[W.heap.size]? =some (.cells #[.slice AV 1 cv,.slice AR (LR (l.length:Int)).length cr,.slice none 0 0,.slice AU 1 cu] 27 (0,0)):=by rw [hV7];exact cr_ _ wr 0 _ hrX
     have okq: ∀ j,W.heap.size+2<=j->j≠W.heap.size:=fun j hj=>by omega
     have okr: ∀ j,W.heap.size+2<=j->W.heap.size<=j:=fun j hj=>by omega
     have hF1:Kd.F k93 V7 (fun j=>W.heap.size<=j) AV 1 [vv]:=by rw [hV7];exact F_mono (cf_ (n:=W.heap.size) okq _ wr 0 hFv) okr
     have hF2:Kd.F k55 V7 (fun j=>W.heap.size<=j) AR (LR (l.length:Int)).length (LR (l.length:Int)):=by rw [hV7];exact F_mono (cf_ (n:=W.heap.size) okq _ wr 0 hFr) okr
     have hF3:Kd.F Kd.string V7 (fun j=>W.heap.size<=j) AU 1 [vv.f0]:=by rw [hV7];exact F_mono (cf_ (n:=W.heap.size) okq _ wr 0 hFu) okr
     have hb7:Below W.heap.size W V7:=by rw [hV7];exact cn_ (n:=W.heap.size) (Nat.le_refl _) _ wr 0 hbX
     replace hV7:V7=(((wr.setCell ⟨W.heap.size,0,none⟩ (.slice AV 1 cv)).setCell ⟨W.heap.size,1,none⟩ (.slice AR (LR (l.length:Int)).length cr)).setCell ⟨W.heap.size,2,none⟩ (.slice none 0 0)).setCell ⟨W.heap.size,3,none⟩ (.slice AU 1 cu):=hV7
     have q0:=bc_ hbx 0 rfl
     have s0:=bc_ hrX 0 rfl
     have z0:=aa_ hrX 0
     have q1:=bc_ hbx 1 rfl
     have s1:=bc_ hrX 1 rfl
     have z1:=aa_ hrX 1
     have q2:=bc_ hbx 2 rfl
     have s2:=bc_ hrX 2 rfl
     have z2:=aa_ hrX 2
     have q3:=bc_ hbx 3 rfl
     have s3:=bc_ hrX 3 rfl
     have z3:=aa_ hrX 3
     have HV7:=Sd.m hV7
     have HR7:=Sd.m hr7
     have HF1:=Sd.m hF1
     have HF2:=Sd.m hF2
     have HF3:=Sd.m hF3
     have HB7:=Sd.m hb7
     clear hV7 hr7 okq okr hF1 hF2 hF3 hb7 hrX hbx hFn hFv hFr hFu hbX
     go_wp2_with fail
     rw [←HV7.out]
     refine bodyPost_ret (ic_ rfl _ _ W.heap.size 27 #[.slice AV 1 cv,.slice AR (LR (l.length:Int)).length cr,.slice none 0 0,.slice AU 1 cu] (0,0) _ rfl HR7.out Tryz.underlying27 rfl (by kernel_rfl)) rfl ?_
     exact ⟨AV,cv,AR,cr,AU,cu,rfl,hcv.1,hcr.1,hcu,HF1.out,HF2.out,HF3.out,HB7.out⟩
def partP (t:List S159)(here:Int):Option (S85 × Int):=
 if here<(t.length:Int)∧(ac_ t here).f0=15 then some (⟨5,⟨#[]⟩,(ac_ t here).f2,(ac_ t here).f3,[]⟩,here+1)
 else if here<(t.length:Int)∧(ac_ t here).f0=1 then some (⟨2,(ac_ t here).f1,0,0,[]⟩,here+1)
 else none
def setP (t:List S159)(deep here:Int):Option (S85 × Int):=
 if 0<=deep∧deep<12∧here+1<(t.length:Int)∧kdF t (here+1)≠14 then
  (partP t (here+1)).bind fun q=>if kdF t q.2=14∧here+1<q.2∧q.2<=(t.length:Int) then some (⟨4,⟨#[]⟩,(ac_ t here).f2,0,[q.1]⟩,q.2+1) else none
 else none
def pieceP (t:List S159)(deep here:Int):Option (S85 × Int):=
 if ¬ here<(t.length:Int) then none
 else if (ac_ t here).f0=1 then some (⟨2,(ac_ t here).f1,0,0,[]⟩,here+1)
 else if (ac_ t here).f0=12 then some (⟨3,⟨#[]⟩,0,0,[]⟩,here+1)
 else if (ac_ t here).f0=13 then setP t deep here
 else none
def joinP (t:List S159)(deep here:Int):Option (S85 × Int):=
 if ¬ here<=(t.length:Int) then none
 else if bf_.f (kdF t here)=some false then some (⟨1,⟨#[]⟩,0,0,[]⟩,here)
 else if bf_.f (kdF t here)=some true then
  (pieceP t deep here).bind fun q=>
   if here<q.2∧q.2<=(t.length:Int) then
    if kdF t q.2=9 then (if q.2+1<=(t.length:Int)∧bf_.f (kdF t (q.2+1))=some false then some (⟨10,⟨#[]⟩,0,0,[q.1]⟩,q.2+1) else none)
    else if ¬ (9<=kdF t q.2∧kdF t q.2<=11)∧bf_.f (kdF t q.2)=some false then some q else none
   else none
 else none
def orP (t:List S159)(deep here:Int):Option (S85 × Int):=
 (joinP t deep here).bind fun q=>if 0<=q.2∧kdF t q.2≠8 then some q else none
def itemP (t:List S159)(here:Int):Option (S87 × Int):=
 if ¬ here+1<=(t.length:Int) then none
 else if (ac_ t here).f0=1 then
  if kdF t (here+1)=3 then (orP t 0 (here+2)).bind fun q=>some (⟨1,(ac_ t here).f1,(ac_ t here).f2,false,q.1,z85,(ac_ t here).f4⟩,q.2)
  else none
 else if (ac_ t here).f0=2 then
  (orP t 0 (here+1)).bind fun q=>
   if 0<=q.2∧q.2<=1000000∧(kdF t q.2=4∨kdF t q.2=5) then
    (orP t 0 (q.2+1)).bind fun r=>some (⟨2,(ac_ t here).f1,(ac_ t here).f2,decide (kdF t q.2=5),q.1,r.1,(ac_ t here).f4⟩,r.2)
   else none
 else none
section
variable {w0 W:World} {g:Nat} {t:List S159} {en here h1 deep:Int} {nd:S85}
theorem part_calls (ht:t.length<=1000000)(h:RdAt w0 W g t en here)(h0:0<=here)(hF:partP t here=some (nd,h1)):Calls Tryz.prog 206 #[.pointer (some ⟨g,0,none⟩),.int .i64 deep] W (Ans w0 W g t en nd h1):=by
 unfold partP at hF
 split at hF
 ·rename_i q
  injection hF with hF;injection hF with e1 e2
  subst e1 e2
  exact part_range h h0 q.1 ht q.2 deep
 split at hF
 ·rename_i q
  injection hF with hF;injection hF with e1 e2
  subst e1 e2
  exact part_name h h0 q.1 ht q.2 deep
 ·cases hF
theorem setP_calls (ht:t.length<=1000000)(h:RdAt w0 W g t en here)(h0:0<=here)(hF:setP t deep here=some (nd,h1)):Calls Tryz.prog 200 #[.pointer (some ⟨g,0,none⟩),.int .i64 deep] W (Ans w0 W g t en nd h1):=by
 unfold setP at hF
 split at hF
 ·rename_i q
  obtain ⟨⟨n2,h2⟩,hp,hF⟩:=Option.bind_eq_some_iff.1 hF
  dsimp only at hF
  split at hF
  ·rename_i r
   injection hF with hF;injection hF with e1 e2
   subst e1 e2
   exact set_one h h0 q.2.2.1 ht deep q.1 q.2.1 (fun W hW=>part_calls ht hW (by omega) hp) q.2.2.2 r.1 r.2.1 r.2.2
  ·cases hF
 ·cases hF
theorem ig_ (ht:t.length<=1000000)(h:RdAt w0 W g t en here)(h0:0<=here)(hF:pieceP t deep here=some (nd,h1)):Calls Tryz.prog 184 #[.pointer (some ⟨g,0,none⟩),.int .i64 deep] W (Ans w0 W g t en nd h1):=by
 unfold pieceP at hF
 split at hF
 ·cases hF
 rename_i hl
 have hl:=Decidable.not_not.1 hl
 split at hF
 ·rename_i q
  injection hF with hF;injection hF with e1 e2
  subst e1 e2
  exact piece_name h h0 hl ht q deep
 split at hF
 ·rename_i q
  injection hF with hF;injection hF with e1 e2
  subst e1 e2
  exact piece_any h h0 hl ht q deep
 split at hF
 ·rename_i q
  exact piece_set h h0 hl ht q deep (fun W hW=>setP_calls ht hW h0 hF)
 ·cases hF
theorem join_calls (ht:t.length<=1000000)(h:RdAt w0 W g t en here)(h0:0<=here)(hF:joinP t deep here=some (nd,h1)):Calls Tryz.prog 165 #[.pointer (some ⟨g,0,none⟩),.int .i64 deep] W (Ans w0 W g t en nd h1):=by
 unfold joinP at hF
 split at hF
 ·cases hF
 rename_i hl
 have hl:=Decidable.not_not.1 hl
 split at hF
 ·rename_i q
  injection hF with hF;injection hF with e1 e2
  subst e1 e2
  exact join_none h h0 hl ht deep q
 split at hF
 ·rename_i hb
  obtain ⟨⟨n2,h2⟩,hp,hF⟩:=Option.bind_eq_some_iff.1 hF
  dsimp only at hF
  split at hF
  ·rename_i r
   split at hF
   ·rename_i hk
    split at hF
    ·rename_i hs
     injection hF with hF;injection hF with e1 e2
     subst e1 e2
     exact join_star h h0 hl ht deep hb (fun W hW=>ig_ ht hW h0 hp) r.1 (by omega) hk hs.2 hs.1
    ·cases hF
   ·split at hF
    ·rename_i hs
     injection hF with hF;injection hF with e1 e2
     subst e1 e2
     exact join_one h h0 hl ht deep hb (fun W hW=>ig_ ht hW h0 hp) r.1 (by omega) hs.1 hs.2
    ·cases hF
  ·cases hF
 ·cases hF
theorem gw_ (ht:t.length<=1000000)(h:RdAt w0 W g t en here)(h0:0<=here)(hF:orP t deep here=some (nd,h1)):Calls Tryz.prog 125 #[.pointer (some ⟨g,0,none⟩),.int .i64 deep] W (Ans w0 W g t en nd h1):=by
 unfold orP at hF
 obtain ⟨⟨n2,h2⟩,hp,hF⟩:=Option.bind_eq_some_iff.1 hF
 dsimp only at hF
 split at hF
 ·rename_i r
  injection hF with hF;injection hF with e1 e2
  subst e1 e2
  have hl:here<=(t.length:Int):=by
   unfold joinP at hp
   split at hp
   ·cases hp
   ·rename_i hl
    exact Decidable.not_not.1 hl
  exact or_one h h0 hl ht deep (fun W hW=>join_calls ht hW h0 hp) r.1 r.2
 ·cases hF
theorem item_calls {x:S87}(ht:t.length<=1000000)(h:RdAt w0 W g t en here)(h0:0<=here)(hF:itemP t here=some (x,h1)):Calls Tryz.prog 87 #[.pointer (some ⟨g,0,none⟩)] W (AnsI w0 W g t en x h1):=by
 unfold itemP at hF
 split at hF
 ·cases hF
 rename_i hl
 have hl:=Decidable.not_not.1 hl
 split at hF
 ·rename_i hk
  split at hF
  ·rename_i his
   obtain ⟨⟨n2,h2⟩,hp,hF⟩:=Option.bind_eq_some_iff.1 hF
   injection hF with hF;injection hF with e1 e2
   subst e1 e2
   exact item_name h h0 hl ht hk his (fun W hW=>gw_ ht hW (by omega) hp)
  ·cases hF
 split at hF
 ·rename_i hk
  obtain ⟨⟨n2,h2⟩,hp,hF⟩:=Option.bind_eq_some_iff.1 hF
  dsimp only at hF
  split at hF
  ·rename_i r
   obtain ⟨⟨n3,h3⟩,hp2,hF⟩:=Option.bind_eq_some_iff.1 hF
   injection hF with hF;injection hF with e1 e2
   subst e1 e2
   rcases r.2.2 with k4 | k5
   ·have e:decide (kdF t h2=5)=false:=df__ (by omega)
    dsimp only
    rw [e]
    exact item_stay h h0 hl ht hk r.1 r.2.1 (fun W hW=>gw_ ht hW (by omega) hp) k4 (fun W hW=>gw_ ht hW (by omega) hp2)
   ·have e:decide (kdF t h2=5)=true:=dt__ k5
    dsimp only
    rw [e]
    exact item_cut h h0 hl ht hk r.1 r.2.1 (fun W hW=>gw_ ht hW (by omega) hp) k5 (fun W hW=>gw_ ht hW (by omega) hp2)
  ·cases hF
 ·cases hF
end
def itemsP:Nat->List S159->Int->List S87->Option (List S87)
 | 0,_,_,_=>none
 | n+1,t,here,out=>
  if here<(t.length:Int) then
   if kdF t here=18 then itemsP n t (here+1) out
   else if out.length<=99 then
    (itemP t here).bind fun q=>if here<q.2∧(kdF t q.2=18∨kdF t q.2=0) then itemsP n t q.2 (out ++ [q.1]) else none
   else none
  else some out
theorem LexAt.ge_ {w0 W:World}{g:Nat}{Al Ap:Option Addr}{cl cp:Nat}{l p:List Int}{i deep:Int}{out:List S159}(h:LexAt w0 W g Al cl l Ap cp p i deep out)(x:Int):LexAt w0 (W.setCell ⟨g,2,none⟩ (.int .i64 x)) g Al cl l Ap cp p x deep out:=by
 obtain ⟨v,h1,h2,h3,h4⟩:=h
 exact ⟨v,by simpa using dn_ h1 2 _,R_set h2 h1 (by decide) 2 _,h3.setCell (p:=⟨g,2,none⟩) h4 _,h4⟩
theorem LexAt.set_d {w0 W:World}{g:Nat}{Al Ap:Option Addr}{cl cp:Nat}{l p:List Int}{i deep:Int}{out:List S159}(h:LexAt w0 W g Al cl l Ap cp p i deep out)(x:Int):LexAt w0 (W.setCell ⟨g,3,none⟩ (.int .i64 x)) g Al cl l Ap cp p i x out:=by
 obtain ⟨v,h1,h2,h3,h4⟩:=h
 exact ⟨v,by simpa using dn_ h1 3 _,R_set h2 h1 (by decide) 3 _,h3.setCell (p:=⟨g,3,none⟩) h4 _,h4⟩
theorem LexAt.c0 {w0 W:World}{g:Nat}{Al Ap:Option Addr}{cl cp:Nat}{l p:List Int}{i deep:Int}{out:List S159}(h:LexAt w0 W g Al cl l Ap cp p i deep out):W.cell? ⟨g,0,none⟩=some (.slice Al l.length cl):=by
 obtain ⟨v,h1,_⟩:=h;exact (ae_ h1 0).trans rfl
theorem LexAt.c2 {w0 W:World}{g:Nat}{Al Ap:Option Addr}{cl cp:Nat}{l p:List Int}{i deep:Int}{out:List S159}(h:LexAt w0 W g Al cl l Ap cp p i deep out):W.cell? ⟨g,2,none⟩=some (.int .i64 i):=by
 obtain ⟨v,h1,_⟩:=h;exact (ae_ h1 2).trans rfl
theorem LexAt.c3 {w0 W:World}{g:Nat}{Al Ap:Option Addr}{cl cp:Nat}{l p:List Int}{i deep:Int}{out:List S159}(h:LexAt w0 W g Al cl l Ap cp p i deep out):W.cell? ⟨g,3,none⟩=some (.int .i64 deep):=by
 obtain ⟨v,h1,_⟩:=h;exact (ae_ h1 3).trans rfl
theorem LexAt.c6 {w0 W:World}{g:Nat}{Al Ap:Option Addr}{cl cp:Nat}{l p:List Int}{i deep:Int}{out:List S159}(h:LexAt w0 W g Al cl l Ap cp p i deep out):W.cell? ⟨g,6,none⟩=some (.int .i64 0):=by
 obtain ⟨v,h1,_⟩:=h;exact (ae_ h1 6).trans rfl
theorem LexAt.fr {w0 W:World}{g:Nat}{Al Ap:Option Addr}{cl cp:Nat}{l p:List Int}{i deep:Int}{out:List S159}(h:LexAt w0 W g Al cl l Ap cp p i deep out)(j:Nat):W.frozen? ⟨g,j,none⟩=false:=by
 obtain ⟨v,h1,_⟩:=h;exact aa_ h1 j
theorem LexAt.B {w0 W:World}{g:Nat}{Al Ap:Option Addr}{cl cp:Nat}{l p:List Int}{i deep:Int}{out:List S159}(h:LexAt w0 W g Al cl l Ap cp p i deep out):Below w0.heap.size w0 W:=by
 obtain ⟨v,_,_,h3,_⟩:=h;exact h3
theorem LexAt.lt {w0 W:World}{g:Nat}{Al Ap:Option Addr}{cl cp:Nat}{l p:List Int}{i deep:Int}{out:List S159}(h:LexAt w0 W g Al cl l Ap cp p i deep out):g<W.heap.size:=by
 obtain ⟨v,h1,_⟩:=h;exact cb_ h1
theorem at_l {w0 W:World}{A:Option Addr}{l:List Int}(h:Kd.C (Kd.int .i64) w0 A l.length l)(hB:Below w0.heap.size w0 W)(j:Int)(h0:0<=j)(h1:j<l.length): ∃ ad,A=some ad∧W.cell? (ad.add j.toNat)=some (.int .i64 (rd l j)):=by
 obtain ⟨ad,e,hc⟩:=Kd.dc_ h j h0 h1
 exact ⟨ad,e,(hB.cell (bl__ w0 _ hc)).trans hc⟩
theorem is_in (w0 W:World)(g:Nat)(Al:Option Addr)(cl:Nat)(l:List Int)(Ap:Option Addr)(cp:Nat)(p:List Int)(i deep:Int)(out:List S159)(h:LexAt w0 W g Al cl l Ap cp p i deep out)
  (hl:Kd.C (Kd.int .i64) w0 Al l.length l) (j c:Int) (hj0:0<=j) (hj1:j<l.length):
  Calls Tryz.prog 161 #[.pointer (some ⟨g,0,none⟩),.int .i64 j,.int .i64 c] W fun e W1=>e=.returned (.bool (rd l j == c))∧LexAt w0 W1 g Al cl l Ap cp p i deep out∧Below W.heap.size W W1:=by
 obtain ⟨ad,rfl,hcell⟩:=at_l hl h.B j hj0 hj1
 have c0:=h.c0
 have d0:decide ((0:Int)<=j)=true:=dt__ hj0
 have d1:decide (j<(l.length:Int))=true:=dt__ hj1
 have H:=Sd.m h
 clear h hl
 go_enter Tryz.func161,Tryz.ntmps161
 go_wp2_with fail
 go_ret
 exact ⟨rfl,H.out,Below.refl _ _⟩
theorem iz_ (w0 W:World)(g:Nat)(Al:Option Addr)(cl:Nat)(l:List Int)(Ap:Option Addr)(cp:Nat)(p:List Int)(i deep:Int)(out:List S159)(h:LexAt w0 W g Al cl l Ap cp p i deep out)
  (hl:Kd.C (Kd.int .i64) w0 Al l.length l) (hp:Kd.C (Kd.int .i64) w0 Ap p.length p) (hpl:p.length<=1000000) (hol:out.length<=1000000) (hi0:0<=i) (hi1:i+1<l.length) (hi2:i<p.length) (hd0:0<=deep) (hd1:deep<=1000000) (hll:l.length<=1000000) (hne:rd l (i+1)≠94):
  Calls Tryz.prog 157 #[.pointer (some ⟨g,0,none⟩)] W fun e W1=>e=.returned (.tuple #[])∧LexAt w0 W1 g Al cl l Ap cp p (i+1) (deep+1) (out ++ [⟨13,⟨#[]⟩,0,0,rd p i⟩]):=by
 have hb1:Below W.heap.size W (W.alloc (.cells #[.int .i64 13,.string ⟨#[]⟩,.int .i64 0,.int .i64 0,.int .i64 0] 159)):=ab_ (Below.refl W.heap.size W) _
 have h1:=h.below hb1
 have hbx:(W.alloc (.cells #[.int .i64 13,.string ⟨#[]⟩,.int .i64 0,.int .i64 0,.int .i64 0] 159)).heap[W.heap.size]? =some (.cells #[.int .i64 13,.string ⟨#[]⟩,.int .i64 0,.int .i64 0,.int .i64 0] 159 (0,0)):=aj_ _ _
 have hgn:W.heap.size≠g:=by have:=h.lt;omega
 have c2:=h1.c2
 have f2:=h1.fr 2
 have b1:(rd l (i+1) == 94)=false:=by simpa using hne
 have w1:IntKind.i64.wrap (i+1)=i+1:=IntWalk.i64_in _ (by omega)
 have w2:IntKind.i64.wrap (deep+1)=deep+1:=IntWalk.i64_in _ (by omega)
 have his:=is_in w0 _ g Al cl l Ap cp p (i+1) deep out (h1.ge_ (i+1)) hl (i+1) 94 (by omega) hi1
 have hbx2:=bg_ hbx (p:=⟨g,2,none⟩) hgn (.int .i64 (i+1))
 have H1:=Sd.m h1
 have HL:=Sd.m hl
 have HP:=Sd.m hp
 have HI:=Sd.m his
 have HBX:=Sd.m hbx2
 clear h h1 hl hp hne his hbx hb1 hbx2
 go_enter Tryz.func157,Tryz.ntmps157
 go_wp2_with fail
 refine HI.out.mono ?_
 rintro e W2 ⟨rfl,hL2,hb2⟩
 have hn2:=ag_ HBX.out hb2
 have n0:=bc_ hn2 0 rfl
 have n1:=bc_ hn2 1 rfl
 have n2:=bc_ hn2 2 rfl
 have n3:=bc_ hn2 3 rfl
 have n4:=bc_ hn2 4 rfl
 have HL2:=Sd.m hL2
 clear hL2 hb2 hn2
 go_wp2_with fail
 refine (db_ w0 W2 g Al cl l Ap cp p (i+1) deep out HL2.out HP.out hpl hol 13 ⟨#[]⟩ 0 0 0 i hi0 hi2).mono ?_
 rintro e W3 ⟨rfl,hL3⟩
 have c3:=hL3.c3
 have f3:=hL3.fr 3
 have HL3:=Sd.m hL3
 clear hL3 n0 n1 n2 n3 n4
 go_wp2_with fail
 refine Great.bodyPost_end0 rfl rfl ?_
 exact ⟨rfl,HL3.out.set_d (deep+1)⟩
end LX
namespace K
open A
attribute [local go_sem] cl_ cj_ cw_ cv_ cd_ cc_ ck_ ci_
def bi_.l0:Nat->List Int->List Int->List Int->Int->Option (List Int × List Int × Int × Int)
 | 0,_,_,_,_=>none
 | k+1,x0,x6,x7,x8=>if x8<(x0.length:Int) then (if 0<=x8 then (if x8<=(x0.length:Int) then ((ar_.f k (x0.drop (x8:Int).toNat)).bind fun bt133=>(if bt133.2=0 then (none) else (if x6.length<17592186044416 then (if x7.length<17592186044416 then (bi_.l0 k x0 (x6 ++ [bt133.1]) (x7 ++ [x8]) (wrap64 (x8+bt133.2))) else (none)) else (none)))) else (none)) else (none)) else (if x7.length<17592186044416 then (some (x6,(x7 ++ [(x0.length:Int)]),(-1),0)) else (none))
def bi_.f (k:Nat)(l0:List Int):Option (List Int × List Int × Int × Int):=if (l0.length:Int)>3000 then (none) else (bi_.l0 k l0 ([]:List Int) ([]:List Int) 0)
theorem bi_.calls (k:Nat)(A0:Option Addr)(c0:Nat)(l0:List Int)(r1:List Int)(r2:List Int)(r3:Int)(r4:Int)(w:World)(hr0:Kd.C (Kd.int .u8) w A0 l0.length l0)(hc0:l0.length<=c0)(h:bi_.f k l0=some (r1,r2,r3,r4)):
  Calls Tryz.prog 121 #[.slice A0 l0.length c0] w fun e w'=> ∃ v0_ v1_:Value,e=.returned (.tuple #[v0_,v1_,.int .i64 r3,.int .i64 r4])∧Kd.R (Kd.int .i64) 3 w' w.heap.size (fun k_=>some k_≠(v1_:Value).ownBlock) v0_ r1∧Kd.R (Kd.int .i64) 3 w' w.heap.size (fun k_=>some k_≠(v0_:Value).ownBlock) v1_ r2∧Below w.heap.size w w':=by
 have HR0:=Sd.m hr0
 have HC0:=Sd.m hc0
 clear hr0 hc0
 have HB:=Sd.m (Below.refl w.heap.size w)
 have H:(if (l0.length:Int)>3000 then (none) else (bi_.l0 k l0 ([]:List Int) ([]:List Int) 0))=some (r1,r2,r3,r4):=h
 clear h
 by_cases c2:(l0.length:Int)>3000
 ·rw [if_pos c2] at H
  exact absurd H (by simp)
 ·rw [if_neg c2] at H
  have c2b0:=df__ c2
  have c2b1:decide (3000<l0.length)=false:=df__ (by omega)
  clear c2
  have H':=Sd.m H
  clear H
  go_enter Tryz.func121,Tryz.ntmps121
  go_wp2
  go_loopg [6,7,8] k (fun kq v6 v7 v8 w'=> ∃ (x6_1:List Int) (x7_1:List Int) (x8_1:Int),v8=.int .i64 x8_1∧Sd (bi_.l0 kq l0 x6_1 x7_1 x8_1=some (r1,r2,r3,r4))∧Sd (kq<=k)∧Sd (Kd.R (Kd.int .i64) 3 w' w.heap.size (fun k_=>some k_≠(v7:Value).ownBlock) v6 x6_1)∧Sd (Kd.R (Kd.int .i64) 3 w' w.heap.size (fun k_=>some k_≠(v6:Value).ownBlock) v7 x7_1)∧Sd (Below w.heap.size w w'))
  case atStart=>exact ⟨(([]:List Int)),(([]:List Int)),(0),ri_,H',⟨Nat.le_refl _⟩,⟨by first | exact Kd.R_nil _ _ _ _ _ | exact Kd.N_nil _ _ _ _ _ | exact Kd.V_nil _ _ _ _ _ | exact Kd.Q_nil _ _ _ _ _ | exact Kd.S_nil _ _ _ _ _⟩,⟨by first | exact Kd.R_nil _ _ _ _ _ | exact Kd.N_nil _ _ _ _ _ | exact Kd.V_nil _ _ _ _ _ | exact Kd.Q_nil _ _ _ _ _ | exact Kd.S_nil _ _ _ _ _⟩,⟨rb_⟩⟩
  case round=>
   clear H'
   obtain ⟨x6_1,x7_1,x8_1,rfl,HA,HK1,HO_6,HO_7,HB⟩:=hrel
   cases gk with
   | zero=>exact absurd HA.out (by simp [bi_.l0])
   | succ k1=>
    have H:=HA.out
    clear HA
    simp only [bi_.l0] at H
    by_cases c3:x8_1<(l0.length:Int)
    ·rw [if_pos c3] at H
     have c3b0:=dt__ c3
     clear c3
     by_cases c4:0<=x8_1
     ·rw [if_pos c4] at H
      have c4b0:=eq_true c4
      have c4b1:=dt__ c4
      clear c4
      by_cases c5:x8_1<=(l0.length:Int)
      ·rw [if_pos c5] at H
       have c5b0:=eq_true c5
       have c5b1:=dt__ c5
       clear c5
       replace H:=Option.bind_eq_some_iff.mp H
       obtain ⟨⟨t133,t134⟩,A60,H⟩:=H
       replace H:(if t134=0 then (none) else (if x6_1.length<17592186044416 then (if x7_1.length<17592186044416 then (bi_.l0 k1 l0 (x6_1 ++ [t133]) (x7_1 ++ [x8_1]) (wrap64 (x8_1+t134))) else (none)) else (none)))=some (r1,r2,r3,r4):=H
       have A6:=Sd.m A60
       clear A60
       by_cases c7:t134=0
       ·rw [if_pos c7] at H
        exact absurd H (by simp)
       ·rw [if_neg c7] at H
        have c7b0:(t134 == 0)=false:=beq_eq_false_iff_ne.mpr c7
        have c7b1:(t134 != 0)=true:=bne_iff_ne.mpr c7
        by_cases c10:x6_1.length<17592186044416
        ·rw [if_pos c10] at H
         have LMc10:=Sd.m c10
         clear c10
         obtain ⟨y135,hy135⟩: ∃ y_:List Int,y_=(x6_1 ++ [t133]):=⟨_,rfl⟩
         replace H:(if x7_1.length<17592186044416 then (bi_.l0 k1 l0 y135 (x7_1 ++ [x8_1]) (wrap64 (x8_1+t134))) else (none))=some (r1,r2,r3,r4):=by first | (rw [hy135];with_reducible exact H) | (have H2_:=(Option.bind_some _ _).symm.trans H;rw [hy135];with_reducible exact H2_) | (have H2_:=(Option.bind_some _ _).symm.trans H;with_reducible exact H2_) | with_reducible exact H | (rw [hy135];exact H) | exact H
         have Ny135:=Sd.m hy135
         clear hy135
         by_cases c11:x7_1.length<17592186044416
         ·rw [if_pos c11] at H
          have LMc11:=Sd.m c11
          clear c11
          obtain ⟨y138,hy138⟩: ∃ y_:List Int,y_=(x7_1 ++ [x8_1]):=⟨_,rfl⟩
          replace H:(bi_.l0 k1 l0 y135 y138 (wrap64 (x8_1+t134)))=some (r1,r2,r3,r4):=by first | (rw [hy138];with_reducible exact H) | (have H2_:=(Option.bind_some _ _).symm.trans H;rw [hy138];with_reducible exact H2_) | (have H2_:=(Option.bind_some _ _).symm.trans H;with_reducible exact H2_) | with_reducible exact H | (rw [hy138];exact H) | exact H
          have Ny138:=Sd.m hy138
          clear hy138
          have H':=Sd.m H
          clear H
          obtain ⟨i012,hi012,_,hsz12,_⟩:=info_parts info5
          obtain ⟨A12,hcut12,hA12,hC12⟩:=fl_ (P:=Tryz.prog) (Value.int .u8) 0 65 5 .i64 Tryz.underlying65 hi012 hsz12 A0 c0 l0 x8_1 (od_) (od_) HC0.out
          have HR132:=Sd.m (Kd.C_of_reads (h1:=fun _=>rfl) (hA12 _ (Kd.dm_ HR0.out)))
          have HC132:=Sd.m hC12
          clear hA12 hC12 hi012 hsz12
          go_wp2_with (first | ((with_reducible refine bk_ (f:=156) rfl ?_);refine goesL_ (some 22) rfl rfl Tryz.func156 (by kernel_rfl) rfl #[.slice A12 (l0.drop (x8_1:Int).toNat).length (c0 - x8_1.toNat)] rfl (by (try simp only [List.map_toArray,List.map_cons,List.map_nil]);first | done | (rw [show (l0.drop (x8_1:Int).toNat).length=(l0.length - x8_1.toNat) from List.length_drop] <;> rfl) | rfl | (simp only [List.length_drop,List.length_take];rfl)) ?_;(with_reducible refine (ar_.calls k1 _ _ (l0.drop (x8_1:Int).toNat) t133 t134 _ ?side1 ?side2 A6.out).mono ?_);(case side1=>exact cs_ (Kd.C_below HR132.out HB.out));(case side2=>exact HC132.out);rintro e w13 ⟨rfl,hb⟩;refine ⟨_,rfl,?_⟩;have n0_:=Sd.m (Kd.R_below (rr_ HO_6.out) hb);have n1_:=Sd.m (Kd.R_below (rr_ HO_7.out) hb);have n2_:=Sd.m (ax_ rb_ hb);clear HO_6;clear HO_7;clear HB;have HO_6:=n0_;have HO_7:=n1_;have HB:=n2_;clear n0_ n1_ n2_;(try clear hb);(try clear hb2);(try clear hk);(try clear hi)) | ((with_reducible refine bq_ (b:=.append) (xs:=#[.tmp 28,.tmp 30]) rfl ?_);at_builtin;refine Kd.R_append (Kd.int .i64) (w0:=w) w.heap.size rfl (.tmp 28) (.tmp 30) 42 3 (.int .i64 0) 8 rfl Tryz.underlying42 info3 rfl (by decide) (by omega) u6 x6_1 t133 [.int .i64 t133] (fun k_=>some k_≠(u7:Value).ownBlock) (fun _=>False) rfl rfl ?aP (fun _ hk=>hk.elim) ?aF ?aO ?aB ?aS ?aL ?_;(case aP=>exact rfl);(case aB=>exact rb_);(case aF=>exact (fun k_ hk=>Kd.fresh' (Kd.R_lt (rr_ HO_7.out)) k_ hk));(case aO=>exact (rr_ HO_6.out));(case aS=>exact (ao_ rb_));(case aL=>have:=LMc10.out;omega);intro v136 w14 ho hb hg hat;rw [←Ny135.out] at ho;have n0_:=Sd.m (Kd.R_after (ok:=(fun _=>True)) (by (with_reducible repeat (first | apply Kd.R_alloc | apply Kd.R_drewN | apply Kd.R_drew));exact Kd.R_mono HO_7.out (fun _ hk=>⟨trivial,hk⟩)) hg hat);have n1_:=Sd.m (hb);have n2_:=Sd.m (ho);clear HO_7;clear HB;clear HO_6;have HO_7:=n0_;have HB:=n1_;have HO137:=n2_;clear n0_ n1_ n2_;clear ho hb hg hat) | ((with_reducible refine bq_ (b:=.append) (xs:=#[.tmp 32,.tmp 34]) rfl ?_);at_builtin;refine Kd.R_append (Kd.int .i64) (w0:=w) w.heap.size rfl (.tmp 32) (.tmp 34) 42 3 (.int .i64 0) 8 rfl Tryz.underlying42 info3 rfl (by decide) (by omega) u7 x7_1 x8_1 [.int .i64 x8_1] (fun k_=>some k_≠(v136:Value).ownBlock) (fun _=>False) rfl rfl ?aP (fun _ hk=>hk.elim) ?aF ?aO ?aB ?aS ?aL ?_;(case aP=>exact rfl);(case aB=>exact rb_);(case aF=>exact (fun k_ hk=>Kd.fresh' (Kd.R_lt (rr_ HO137.out)) k_ hk));(case aO=>exact (by (with_reducible repeat (first | apply Kd.R_alloc | apply Kd.R_drewN | apply Kd.R_drew));exact Kd.R_mono HO_7.out (fun _ hk=>hk.2)));(case aS=>exact (ao_ rb_));(case aL=>have:=LMc11.out;omega);intro v139 w15 ho hb hg hat;rw [←Ny138.out] at ho;have n0_:=Sd.m (Kd.R_after (ok:=(fun _=>True)) (by (with_reducible repeat (first | apply Kd.R_alloc | apply Kd.R_drewN | apply Kd.R_drew));exact Kd.R_mono HO137.out (fun _ hk=>⟨trivial,hk⟩)) hg hat);have n1_:=Sd.m (hb);have n2_:=Sd.m (ho);clear HO137;clear HB;clear HO_7;have HO137:=n0_;have HB:=n1_;have HO140:=n2_;clear n0_ n1_ n2_;clear ho hb hg hat))
          go_roundg k1
          case measure=>have:=HK1.out;omega
          case rel=>exact ⟨(y135),(y138),(wrap64 (x8_1+t134)),ri_,H',⟨by have:=HK1.out;omega⟩,⟨by (with_reducible repeat (first | apply Kd.R_alloc | apply Kd.R_drewN | apply Kd.R_drew));exact Kd.R_mono HO137.out (fun _ hk=>hk.2)⟩,⟨rr_ HO140.out⟩,⟨rb_⟩⟩
         ·rw [if_neg c11] at H
          exact absurd H (by simp)
        ·rw [if_neg c10] at H
         exact absurd H (by simp)
      ·rw [if_neg c5] at H
       exact absurd H (by simp)
     ·rw [if_neg c4] at H
      exact absurd H (by simp)
    ·rw [if_neg c3] at H
     have c3b0:=df__ c3
     clear c3
     by_cases c16:x7_1.length<17592186044416
     ·rw [if_pos c16] at H
      have LMc16:=Sd.m c16
      clear c16
      obtain ⟨y141,hy141⟩: ∃ y_:List Int,y_=(x7_1 ++ [(l0.length:Int)]):=⟨_,rfl⟩
      replace H:(some (x6_1,y141,(-1),0))=some (r1,r2,r3,r4):=by first | (rw [hy141];with_reducible exact H) | (have H2_:=(Option.bind_some _ _).symm.trans H;rw [hy141];with_reducible exact H2_) | (have H2_:=(Option.bind_some _ _).symm.trans H;with_reducible exact H2_) | with_reducible exact H | (rw [hy141];exact H) | exact H
      have Ny141:=Sd.m hy141
      clear hy141
      simp only [Option.some.injEq,Prod.mk.injEq] at H
      obtain ⟨rfl,rfl,rfl,rfl⟩:=H
      go_wp2_with (first | ((with_reducible refine bq_ (b:=.append) (xs:=#[.tmp 40,.tmp 43]) rfl ?_);at_builtin;refine Kd.R_append (Kd.int .i64) (w0:=w) w.heap.size rfl (.tmp 40) (.tmp 43) 42 3 (.int .i64 0) 8 rfl Tryz.underlying42 info3 rfl (by decide) (by omega) u7 x7_1 (l0.length:Int) [.int .i64 (l0.length:Int)] (fun k_=>some k_≠(u6:Value).ownBlock) (fun _=>False) rfl rfl ?aP (fun _ hk=>hk.elim) ?aF ?aO ?aB ?aS ?aL ?_;(case aP=>exact rfl);(case aB=>exact rb_);(case aF=>exact (fun k_ hk=>Kd.fresh' (Kd.R_lt (rr_ HO_6.out)) k_ hk));(case aO=>exact (rr_ HO_7.out));(case aS=>exact (ao_ rb_));(case aL=>have:=LMc16.out;omega);intro v142 w17 ho hb hg hat;rw [←Ny141.out] at ho;have n0_:=Sd.m (Kd.R_after (ok:=(fun _=>True)) (by (with_reducible repeat (first | apply Kd.R_alloc | apply Kd.R_drewN | apply Kd.R_drew));exact Kd.R_mono HO_6.out (fun _ hk=>⟨trivial,hk⟩)) hg hat);have n1_:=Sd.m (hb);have n2_:=Sd.m (ho);clear HO_6;clear HB;clear HO_7;have HO_6:=n0_;have HB:=n1_;have HO143:=n2_;clear n0_ n1_ n2_;clear ho hb hg hat))
      refine bodyPost_ret (hk_ (rs:=[.tmp 2,.tmp 3,.tmp 4,.tmp 5]) rfl (by simp) (.tmp (.tmp (.tmp (.tmp .nil))))) rfl ?_
      exact ⟨_,_,re_,by (with_reducible repeat (first | apply Kd.R_alloc | apply Kd.R_drewN | apply Kd.R_drew));exact Kd.R_mono HO_6.out (fun _ hk=>hk.2),rr_ HO143.out,rb_⟩
     ·rw [if_neg c16] at H
      exact absurd H (by simp)
def ce_.f (a0:Int):Option (Bool):=if a0 ≥ 97 then (if a0<=122 then (some true) else (if a0 ≥ 65 then (some (decide (a0<=90))) else (some false))) else (if a0 ≥ 65 then (some (decide (a0<=90))) else (some false))
theorem ce_.calls (a0:Int)(r:Bool)(w:World)(h:ce_.f a0=some r):
  Calls Tryz.prog 178 #[.int .i64 a0] w fun e w'=>e=.returned (.bool r)∧Drawn0 w w':=by
 have H:(if a0 ≥ 97 then (if a0<=122 then (some true) else (if a0 ≥ 65 then (some (decide (a0<=90))) else (some false))) else (if a0 ≥ 65 then (some (decide (a0<=90))) else (some false)))=some r:=h
 clear h
 by_cases c2:a0 ≥ 97
 ·rw [if_pos c2] at H
  have c2b0:=dt__ c2
  clear c2
  by_cases c3:a0<=122
  ·rw [if_pos c3] at H
   have c3b0:=dt__ c3
   clear c3
   obtain rfl:=Option.some.inj H
   go_enter Tryz.func178,Tryz.ntmps178
   go_wp2
   go_ret
   exact ⟨ri_,dr_⟩
  ·rw [if_neg c3] at H
   have c3b0:=df__ c3
   clear c3
   by_cases c4:a0 ≥ 65
   ·rw [if_pos c4] at H
    have c4b0:=dt__ c4
    clear c4
    obtain rfl:=Option.some.inj H
    go_enter Tryz.func178,Tryz.ntmps178
    go_wp2
    go_ret
    exact ⟨ri_,dr_⟩
   ·rw [if_neg c4] at H
    have c4b0:=df__ c4
    clear c4
    obtain rfl:=Option.some.inj H
    go_enter Tryz.func178,Tryz.ntmps178
    go_wp2
    go_ret
    exact ⟨ri_,dr_⟩
 ·rw [if_neg c2] at H
  have c2b0:=df__ c2
  clear c2
  by_cases c5:a0 ≥ 65
  ·rw [if_pos c5] at H
   have c5b0:=dt__ c5
   clear c5
   obtain rfl:=Option.some.inj H
   go_enter Tryz.func178,Tryz.ntmps178
   go_wp2
   go_ret
   exact ⟨ri_,dr_⟩
  ·rw [if_neg c5] at H
   have c5b0:=df__ c5
   clear c5
   obtain rfl:=Option.some.inj H
   go_enter Tryz.func178,Tryz.ntmps178
   go_wp2
   go_ret
   exact ⟨ri_,dr_⟩
def bx_.f (a0:Int):Option (Bool):=if a0 ≥ 48 then (some (decide (a0<=57))) else (some false)
theorem bx_.calls (a0:Int)(r:Bool)(w:World)(h:bx_.f a0=some r):
  Calls Tryz.prog 163 #[.int .i64 a0] w fun e w'=>e=.returned (.bool r)∧Drawn0 w w':=by
 have H:(if a0 ≥ 48 then (some (decide (a0<=57))) else (some false))=some r:=h
 clear h
 by_cases c2:a0 ≥ 48
 ·rw [if_pos c2] at H
  have c2b0:=dt__ c2
  clear c2
  obtain rfl:=Option.some.inj H
  go_enter Tryz.func163,Tryz.ntmps163
  go_wp2
  go_ret
  exact ⟨ri_,dr_⟩
 ·rw [if_neg c2] at H
  have c2b0:=df__ c2
  clear c2
  obtain rfl:=Option.some.inj H
  go_enter Tryz.func163,Tryz.ntmps163
  go_wp2
  go_ret
  exact ⟨ri_,dr_⟩
end K
namespace LX
open Shelf YthfceiincmkccaaGreatW.PrintWords.Kd A K
theorem C_one {W:World}{ad:Addr}{x:Int}(h:W.cell? ad=some (.int .i64 x)):Kd.C (Kd.int .i64) W (some ad) 1 [x]:=by
 refine gu_ (c:=[.int .i64 x]) rfl rfl (fun i u hi=>?_)
 cases i with
 | succ i=>simp at hi
 | zero=>
  simp at hi
  subst hi
  simpa [Addr.add] using h
def NameO (w0 W:World)(g:Nat)(Al:Option Addr)(cl:Nat)(l:List Int)(Ap:Option Addr)(cp:Nat)(p:List Int)(i deep:Int)(out:List S159)(t:Value)(W1:World):Prop:=(t=.int .i64 (i+1)∨t=.int .i64 (i+2))∧LexAt w0 W1 g Al cl l Ap cp p i deep out
def After (l:List Int)(j:Int):Prop:=j=l.length∨(j<l.length∧ce_.f (rd l j)=some false∧bx_.f (rd l j)=some false∧rd l j≠95)
theorem jb_ (w0 W:World)(g:Nat)(Al:Option Addr)(cl:Nat)(l:List Int)(Ap:Option Addr)(cp:Nat)(p:List Int)(i deep:Int)(out:List S159)(h:LexAt w0 W g Al cl l Ap cp p i deep out)
  (hl:Kd.C (Kd.int .i64) w0 Al l.length l) (hcl:l.length<=cl) (hp:Kd.C (Kd.int .i64) w0 Ap p.length p) (hpl:p.length<=1000000) (hol:out.length<=1000000) (hi0:0<=i) (hi1:i+1<l.length) (hi2:i<p.length) (hll:l.length<=1000000)
  (hL:ce_.f (rd l (i+1))=some true) (hA:After l (i+2)) (k:Nat) (s:ByteArray) (hs:bm_.f k [rd l (i+1)]=some s):
  Calls Tryz.prog 159 #[.pointer (some ⟨g,0,none⟩)] W fun e W1=>e=.returned (.tuple #[])∧LexAt w0 W1 g Al cl l Ap cp p (i+2) deep (out ++ [⟨1,s,0,0,rd p i⟩]):=by
 have c2:=h.c2
 have H:=Sd.m h
 have HL:=Sd.m hl
 have HP:=Sd.m hp
 have HLe:=Sd.m hL
 have HA:=Sd.m hA
 have HS:=Sd.m hs
 clear h hl hp hL hA hs
 go_enter Tryz.func159,Tryz.ntmps159
 go_wp2_with fail
 go_loopw [3] (fun t W1=>NameO w0 W g Al cl l Ap cp p i deep out t W1) (fun t _=>(i+2 - intOf t).toNat)
 case atStart=>exact ⟨Or.inl rfl,H.out⟩
 case round=>
  obtain ⟨hb,hS⟩:=hrel
  have c0:=hS.c0
  rcases hb with rfl | rfl
  ·obtain ⟨ad,rfl,hcell⟩:=at_l HL.out hS.B (i+1) (by omega) hi1
   have d0:decide ((0:Int)<=i+1)=true:=dt__ (by omega)
   have d1:decide (i+1<(l.length:Int))=true:=dt__ hi1
   have w2:IntKind.i64.wrap (i+1+1)=i+2:=by rw [show i+1+1=i+2 by omega];exact IntWalk.i64_in _ (by omega)
   have HS1:=Sd.m hS
   clear hS
   go_wp2_with fail
   refine (ce_.calls _ true _ HLe.out).mono ?_
   rintro e w' ⟨rfl,⟨nd,rfl⟩⟩
   go_wp2_with fail
   go_roundw
   case rel=>exact ⟨Or.inr rfl,HS1.out.below (ad_ (Below.refl _ _) nd)⟩
   case measure=>simp [intOf]
  ·have hA:=HA.out
   unfold After at hA
   have c2':=hS.c2
   have f2':=hS.fr 2
   have c6':=hS.c6
   have b1:(i+2 == i+1)=false:=by simp
   have b2:decide (16<i+2 - i - 1)=false:=df__ (by omega)
   have w3:IntKind.i64.wrap (i+1)=i+1:=IntWalk.i64_in _ (by omega)
   have s1:(i+2).toNat - (i+1).toNat=1:=by omega
   obtain ⟨ad,rfl,hcell⟩:=at_l HL.out hS.B (i+1) (by omega) hi1
   have hne:(ad.add (i+1).toNat).block≠g:=by
    obtain ⟨ad',e,h3⟩:=Kd.dc_ HL.out (i+1) (by omega) hi1
    injection e with e
    subst e
    have h4:=bl__ w0 _ h3
    obtain ⟨_,_,_,_,h5⟩:=hS
    omega
   have HCE:=Sd.m hcell
   have hS2:=hS.ge_ (i+2)
   rcases hA with hA | ⟨hA1,hA2,hA3,hA4⟩
   ·have d1:decide (i+2<(l.length:Int))=false:=df__ (by omega)
    have HS1:=Sd.m hS
    have HS2:=Sd.m hS2
    have HA0:=Sd.m hA
    clear hS hA hcell hS2
    go_wp2_with fail
    refine (bm_.calls k _ (cl - (i+1).toNat) [rd l (i+1)] s _ (C_one ((World.cell?_setCell_far _ _ _ _ (fun e=>hne e.symm)).trans HCE.out)) (by simp;omega) HS.out).mono ?_
    rintro e W2 ⟨rfl,hb2⟩
    have HL2:=Sd.m (HS2.out.below hb2)
    clear hb2
    go_wp2_with fail
    refine (db_ w0 W2 g _ cl l Ap cp p (i+2) deep out HL2.out HP.out hpl hol 1 s 0 0 0 i hi0 hi2).mono ?_
    rintro e W3 ⟨rfl,hL3⟩
    have HL3:=Sd.m hL3
    clear hL3
    go_wp2_with fail
    refine Great.bodyPost_end0 rfl rfl ?_
    exact ⟨rfl,HL3.out⟩
   ·have d1:decide (i+2<(l.length:Int))=true:=dt__ (by omega)
    have d0:decide ((0:Int)<=i+2)=true:=dt__ (by omega)
    have d3:decide (i+1<i+2)=true:=dt__ (by omega)
    obtain ⟨ad2,e2,hcell2⟩:=at_l HL.out hS.B (i+2) (by omega) hA1
    obtain rfl:ad=ad2:=by injection e2
    have b3:(rd l (i+2) == 95)=false:=by simpa using hA4
    have HSN: ∀ a:Nat,LexAt w0 ((wr.drewN a).setCell ⟨g,2,none⟩ (.int .i64 (i+2))) g (some ad) cl l Ap cp p (i+2) deep out:=fun a=>(hS.below (ad_ (Below.refl _ _) a)).ge_ (i+2)
    have HSN:=Sd.m HSN
    have HCN: ∀ a:Nat,((wr.drewN a).setCell ⟨g,2,none⟩ (.int .i64 (i+2))).cell? (ad.add (i+1).toNat)=some (.int .i64 (rd l (i+1))):=fun a=>(World.cell?_setCell_far _ ⟨g,2,none⟩ _ _ (fun e=>hne e.symm)).trans hcell
    have HCN:=Sd.m HCN
    have HA2:=Sd.m hA2
    have HA3:=Sd.m hA3
    clear hS hA2 hA3 hA4 hcell hS2 e2
    have q0:0<=i+2:=by omega
    go_wp2_with fail
    refine (ce_.calls _ false _ HA2.out).mono ?_
    rintro e w' ⟨rfl,⟨nd,rfl⟩⟩
    go_wp2_with fail
    refine (bx_.calls _ false _ HA3.out).mono ?_
    rintro e w' ⟨rfl,⟨nd2,rfl⟩⟩
    go_wp2_with fail
    refine (bm_.calls k _ (cl - (i+1).toNat) [rd l (i+1)] s _ (C_one (HCN.out (nd+nd2))) (by simp;omega) HS.out).mono ?_
    rintro e W2 ⟨rfl,hb2⟩
    have HL2:=Sd.m ((HSN.out (nd+nd2)).below hb2)
    clear hb2
    go_wp2_with fail
    refine (db_ w0 W2 g _ cl l Ap cp p (i+2) deep out HL2.out HP.out hpl hol 1 s 0 0 0 i hi0 hi2).mono ?_
    rintro e W3 ⟨rfl,hL3⟩
    have HL3:=Sd.m hL3
    clear hL3
    go_wp2_with fail
    refine Great.bodyPost_end0 rfl rfl ?_
    exact ⟨rfl,HL3.out⟩
def CharO (w0:World)(g:Nat)(Al:Option Addr)(cl:Nat)(l:List Int)(Ap:Option Addr)(cp:Nat)(p:List Int)(i deep:Int)(out:List S159)(t:Value)(W1:World):Prop:=(t=.int .i64 0∨t=.int .i64 1∨t=.int .i64 2∨t=.int .i64 3∨t=.int .i64 4∨t=.int .i64 5∨t=.int .i64 6∨t=.int .i64 7∨t=.int .i64 8)∧LexAt w0 W1 g Al cl l Ap cp p i deep out
def NoSign (c:Int):Prop:=c≠91∧c≠93∧c≠38∧c≠45∧c≠36∧c≠35∧c≠94∧c≠10
theorem hi_ (w0 W:World)(g:Nat)(Al:Option Addr)(cl:Nat)(l:List Int)(Ap:Option Addr)(cp:Nat)(p:List Int)(i deep:Int)(out:List S159)(h:LexAt w0 W g Al cl l Ap cp p i deep out)
  (hl:Kd.C (Kd.int .i64) w0 Al l.length l) (hcl:l.length<=cl) (hi0:0<=i) (hi1:i<l.length) (hll:l.length<=1000000)
  (hn:NoSign (rd l i)) (k:Nat) (c nx:Int) (hr:ba_.f k l i=some (c,nx,0)):
  Calls Tryz.prog 160 #[.pointer (some ⟨g,0,none⟩)] W fun e W1=>e=.returned (.int .i64 c)∧LexAt w0 W1 g Al cl l Ap cp p nx deep out:=by
 have c2:=h.c2
 have c0:=h.c0
 have b1:(i == (l.length:Int))=false:=by simp;omega
 have H:=Sd.m h
 have HL:=Sd.m hl
 have HN:=Sd.m hn
 have HR:=Sd.m hr
 clear h hl hn hr
 go_enter Tryz.func160,Tryz.ntmps160
 go_wp2_with fail
 go_loopw [5] (fun t W1=>CharO w0 g Al cl l Ap cp p i deep out t W1) (fun t _=>(8 - intOf t).toNat)
 case atStart=>exact ⟨Or.inl rfl,H.out⟩
 case round=>
  obtain ⟨hk,hS⟩:=hrel
  have c0:=hS.c0
  have c2:=hS.c2
  have f2:=hS.fr 2
  obtain ⟨ad,rfl,hcell⟩:=at_l HL.out hS.B i (by omega) hi1
  have d0:decide ((0:Int)<=i)=true:=dt__ hi0
  have d1:decide (i<(l.length:Int))=true:=dt__ hi1
  obtain ⟨n1,n2,n3,n4,n5,n6,n7,n8⟩:=HN.out
  have HS1:=Sd.m hS
  clear hS
  rcases hk with rfl | rfl | rfl | rfl | rfl | rfl | rfl | rfl | rfl
  ·have b2:(rd l i == 91)=false:=by simpa using n1
   have e2:wrap64 (((⟨#[91,93,38,45,36,35,94,10]⟩:ByteArray)[0]'(by decide)).toNat:Int)=91:=by kernel_rfl
   clear n1 n2 n3 n4 n5 n6 n7 n8
   go_wp2_with fail
   go_quiet (fail)
   go_wp2_with fail
   go_roundw
   case rel=>exact ⟨by simp,HS1.out.below (ad_ (Below.refl _ _) _)⟩
   case measure=>simp [intOf]
  ·have b2:(rd l i == 93)=false:=by simpa using n2
   have e2:wrap64 (((⟨#[91,93,38,45,36,35,94,10]⟩:ByteArray)[1]'(by decide)).toNat:Int)=93:=by kernel_rfl
   clear n1 n2 n3 n4 n5 n6 n7 n8
   go_wp2_with fail
   go_quiet (fail)
   go_wp2_with fail
   go_roundw
   case rel=>exact ⟨by simp,HS1.out.below (ad_ (Below.refl _ _) _)⟩
   case measure=>simp [intOf]
  ·have b2:(rd l i == 38)=false:=by simpa using n3
   have e2:wrap64 (((⟨#[91,93,38,45,36,35,94,10]⟩:ByteArray)[2]'(by decide)).toNat:Int)=38:=by kernel_rfl
   clear n1 n2 n3 n4 n5 n6 n7 n8
   go_wp2_with fail
   go_quiet (fail)
   go_wp2_with fail
   go_roundw
   case rel=>exact ⟨by simp,HS1.out.below (ad_ (Below.refl _ _) _)⟩
   case measure=>simp [intOf]
  ·have b2:(rd l i == 45)=false:=by simpa using n4
   have e2:wrap64 (((⟨#[91,93,38,45,36,35,94,10]⟩:ByteArray)[3]'(by decide)).toNat:Int)=45:=by kernel_rfl
   clear n1 n2 n3 n4 n5 n6 n7 n8
   go_wp2_with fail
   go_quiet (fail)
   go_wp2_with fail
   go_roundw
   case rel=>exact ⟨by simp,HS1.out.below (ad_ (Below.refl _ _) _)⟩
   case measure=>simp [intOf]
  ·have b2:(rd l i == 36)=false:=by simpa using n5
   have e2:wrap64 (((⟨#[91,93,38,45,36,35,94,10]⟩:ByteArray)[4]'(by decide)).toNat:Int)=36:=by kernel_rfl
   clear n1 n2 n3 n4 n5 n6 n7 n8
   go_wp2_with fail
   go_quiet (fail)
   go_wp2_with fail
   go_roundw
   case rel=>exact ⟨by simp,HS1.out.below (ad_ (Below.refl _ _) _)⟩
   case measure=>simp [intOf]
  ·have b2:(rd l i == 35)=false:=by simpa using n6
   have e2:wrap64 (((⟨#[91,93,38,45,36,35,94,10]⟩:ByteArray)[5]'(by decide)).toNat:Int)=35:=by kernel_rfl
   clear n1 n2 n3 n4 n5 n6 n7 n8
   go_wp2_with fail
   go_quiet (fail)
   go_wp2_with fail
   go_roundw
   case rel=>exact ⟨by simp,HS1.out.below (ad_ (Below.refl _ _) _)⟩
   case measure=>simp [intOf]
  ·have b2:(rd l i == 94)=false:=by simpa using n7
   have e2:wrap64 (((⟨#[91,93,38,45,36,35,94,10]⟩:ByteArray)[6]'(by decide)).toNat:Int)=94:=by kernel_rfl
   clear n1 n2 n3 n4 n5 n6 n7 n8
   go_wp2_with fail
   go_quiet (fail)
   go_wp2_with fail
   go_roundw
   case rel=>exact ⟨by simp,HS1.out.below (ad_ (Below.refl _ _) _)⟩
   case measure=>simp [intOf]
  ·have b2:(rd l i == 10)=false:=by simpa using n8
   have e2:wrap64 (((⟨#[91,93,38,45,36,35,94,10]⟩:ByteArray)[7]'(by decide)).toNat:Int)=10:=by kernel_rfl
   clear n1 n2 n3 n4 n5 n6 n7 n8
   go_wp2_with fail
   go_quiet (fail)
   go_wp2_with fail
   go_roundw
   case rel=>exact ⟨by simp,HS1.out.below (ad_ (Below.refl _ _) _)⟩
   case measure=>simp [intOf]
  ·clear n1 n2 n3 n4 n5 n6 n7 n8
   have HC:=Sd.m (Kd.C_below HL.out HS1.out.B)
   clear hcell
   go_wp2_with fail
   refine (ba_.calls k (some ad) cl l i c nx 0 wr HC.out hcl HR.out).mono ?_
   rintro e w' ⟨rfl,⟨nd,rfl⟩⟩
   go_wp2_with fail
   go_ret
   exact ⟨rfl,(HS1.out.below (ad_ (Below.refl _ _) nd)).ge_ nx⟩
theorem set_open (w0 W:World)(g:Nat)(Al:Option Addr)(cl:Nat)(l:List Int)(Ap:Option Addr)(cp:Nat)(p:List Int)(i deep:Int)(out:List S159)(h:LexAt w0 W g Al cl l Ap cp p i deep out)
  (hl:Kd.C (Kd.int .i64) w0 Al l.length l) (hcl:l.length<=cl) (hp:Kd.C (Kd.int .i64) w0 Ap p.length p) (hpl:p.length<=1000000) (hol:out.length<=1000000) (ho0:0<out.length) (hi0:0<=i) (hi1:i<l.length) (hi2:i<p.length) (hll:l.length<=1000000)
  (hd0:0<=deep) (hd1:deep<=1000000) (hx1:i+1<l.length) (hne:rd l (i+1)≠94) (hc0:rd l i=91):
  Calls Tryz.prog 122 #[.pointer (some ⟨g,0,none⟩)] W fun e W1=>e=.returned (.tuple #[])∧LexAt w0 W1 g Al cl l Ap cp p (i+1) (deep+1) (out ++ [⟨13,⟨#[]⟩,0,0,rd p i⟩]):=by
 have c2:=h.c2
 have f2:=h.fr 2
 have c3:=h.c3
 have c0:=h.c0
 have c6:=h.c6
 obtain ⟨ad,rfl,hcell⟩:=at_l hl h.B i hi0 hi1
 have d0:decide ((0:Int)<=i)=true:=dt__ hi0
 have d1:decide (i<(l.length:Int))=true:=dt__ hi1
 have hA: ∃ A c,W.cell? ⟨g,4,none⟩=some (.slice A out.length c)∧k159.C W A out.length out:=by
  obtain ⟨A,c,hb,_,_,hc,_⟩:=h.cells
  exact ⟨A,c,(ae_ hb 4).trans rfl,hc⟩
 obtain ⟨A,c,c4,hc⟩:=hA
 obtain ⟨m,em⟩: ∃ m,(out.length:Int) - 1=m:=⟨_,rfl⟩
 have m0:0<=m:=by omega
 have m1:m<(out.length:Int):=by omega
 obtain ⟨at0,rfl,t0,_⟩:=fw_ hc m m0 m1
 obtain ⟨kd,hkd⟩: ∃ kd,kd=(ac_ out m).f0:=⟨_,rfl⟩
 rw [←hkd] at t0
 have w1:IntKind.i64.wrap ((out.length:Int) - 1)=m:=by rw [em];exact IntWalk.i64_in _ (by omega)
 have w2:IntKind.i64.wrap (i+1)=i+1:=IntWalk.i64_in _ (by omega)
 have d2:decide ((0:Int)<(out.length:Int))=true:=dt__ (by omega)
 have d3:decide (0<out.length)=true:=dt__ ho0
 have e91:(rd l i == 91)=true:=by simpa using hc0
 have HNE:=Sd.m hne
 have HB:=Sd.m (fun n=>h.below (ad_ (Below.refl W.heap.size W) n))
 have H:=Sd.m h
 have HL:=Sd.m hl
 have HP:=Sd.m hp
 clear h hl hp hc hkd hc0 hne
 go_enter Tryz.func122,Tryz.ntmps122
 go_wp2_with fail
 go_quiet (fail)
 go_wp2_with fail
 refine (iz_ w0 _ g _ cl l Ap cp p i deep out (HB.out _) HL.out HP.out hpl hol hi0 hx1 hi2 hd0 hd1 hll HNE.out).mono ?_
 rintro e W2 ⟨rfl,hL2⟩
 have HL2:=Sd.m hL2
 clear hL2
 go_wp2_with fail
 refine Great.bodyPost_end0 rfl rfl ?_
 exact ⟨rfl,HL2.out⟩
theorem set_close (w0 W:World)(g:Nat)(Al:Option Addr)(cl:Nat)(l:List Int)(Ap:Option Addr)(cp:Nat)(p:List Int)(i deep:Int)(out:List S159)(h:LexAt w0 W g Al cl l Ap cp p i deep out)
  (hl:Kd.C (Kd.int .i64) w0 Al l.length l) (hcl:l.length<=cl) (hp:Kd.C (Kd.int .i64) w0 Ap p.length p) (hpl:p.length<=1000000) (hol:out.length<=1000000) (ho0:0<out.length) (hi0:0<=i) (hi1:i<l.length) (hi2:i<p.length) (hll:l.length<=1000000)
  (hd0:0<=deep) (hd1:deep<=1000000) (hc0:rd l i=93):
  Calls Tryz.prog 122 #[.pointer (some ⟨g,0,none⟩)] W fun e W1=>e=.returned (.tuple #[])∧LexAt w0 W1 g Al cl l Ap cp p (i+1) (deep - 1) (out ++ [⟨14,⟨#[]⟩,0,0,rd p i⟩]):=by
 have c2:=h.c2
 have f2:=h.fr 2
 have c3:=h.c3
 have c0:=h.c0
 have c6:=h.c6
 obtain ⟨ad,rfl,hcell⟩:=at_l hl h.B i hi0 hi1
 have d0:decide ((0:Int)<=i)=true:=dt__ hi0
 have d1:decide (i<(l.length:Int))=true:=dt__ hi1
 have hA: ∃ A c,W.cell? ⟨g,4,none⟩=some (.slice A out.length c)∧k159.C W A out.length out:=by
  obtain ⟨A,c,hb,_,_,hc,_⟩:=h.cells
  exact ⟨A,c,(ae_ hb 4).trans rfl,hc⟩
 obtain ⟨A,c,c4,hc⟩:=hA
 obtain ⟨m,em⟩: ∃ m,(out.length:Int) - 1=m:=⟨_,rfl⟩
 have m0:0<=m:=by omega
 have m1:m<(out.length:Int):=by omega
 obtain ⟨at0,rfl,t0,_⟩:=fw_ hc m m0 m1
 obtain ⟨kd,hkd⟩: ∃ kd,kd=(ac_ out m).f0:=⟨_,rfl⟩
 rw [←hkd] at t0
 have w1:IntKind.i64.wrap ((out.length:Int) - 1)=m:=by rw [em];exact IntWalk.i64_in _ (by omega)
 have w2:IntKind.i64.wrap (i+1)=i+1:=IntWalk.i64_in _ (by omega)
 have d2:decide ((0:Int)<(out.length:Int))=true:=dt__ (by omega)
 have d3:decide (0<out.length)=true:=dt__ ho0
 have e91:(rd l i == 91)=false:=by rw [hc0];decide
 have e93:(rd l i == 93)=true:=by simpa using hc0
 have w3:IntKind.i64.wrap (deep - 1)=deep - 1:=IntWalk.i64_in _ (by omega)
 have HB:=Sd.m (fun n=>h.below (ad_ (Below.refl W.heap.size W) n))
 have H:=Sd.m h
 have HL:=Sd.m hl
 have HP:=Sd.m hp
 clear h hl hp hc hkd hc0
 go_enter Tryz.func122,Tryz.ntmps122
 go_wp2_with fail
 go_quiet (fail)
 go_wp2_with fail
 refine (db_ w0 _ g _ cl l Ap cp p i deep out (HB.out _) HP.out hpl hol 14 ⟨#[]⟩ 0 0 0 i hi0 hi2).mono ?_
 rintro e W2 ⟨rfl,hL2⟩
 have c2:=hL2.c2
 have f2:=hL2.fr 2
 have c3:=hL2.c3
 have f3:=hL2.fr 3
 have hL3:=(hL2.set_d (deep - 1)).ge_ (i+1)
 have HL3:=Sd.m hL3
 clear hL2 hL3
 go_wp2_with fail
 refine Great.bodyPost_end0 rfl rfl ?_
 exact ⟨rfl,HL3.out⟩
theorem set_name (w0 W:World)(g:Nat)(Al:Option Addr)(cl:Nat)(l:List Int)(Ap:Option Addr)(cp:Nat)(p:List Int)(i deep:Int)(out:List S159)(h:LexAt w0 W g Al cl l Ap cp p i deep out)
  (hl:Kd.C (Kd.int .i64) w0 Al l.length l) (hcl:l.length<=cl) (hp:Kd.C (Kd.int .i64) w0 Ap p.length p) (hpl:p.length<=1000000) (hol:out.length<=1000000) (ho0:0<out.length) (hi0:0<=i) (hi1:i<l.length) (hi2:i<p.length) (hll:l.length<=1000000)
  (hc0:rd l i=36) (hx1:i+1<l.length) (hL:ce_.f (rd l (i+1))=some true) (hA:After l (i+2)) (k:Nat) (s:ByteArray) (hs:bm_.f k [rd l (i+1)]=some s):
  Calls Tryz.prog 122 #[.pointer (some ⟨g,0,none⟩)] W fun e W1=>e=.returned (.tuple #[])∧LexAt w0 W1 g Al cl l Ap cp p (i+2) deep (out ++ [⟨1,s,0,0,rd p i⟩]):=by
 have c2:=h.c2
 have f2:=h.fr 2
 have c3:=h.c3
 have c0:=h.c0
 have c6:=h.c6
 obtain ⟨ad,rfl,hcell⟩:=at_l hl h.B i hi0 hi1
 have d0:decide ((0:Int)<=i)=true:=dt__ hi0
 have d1:decide (i<(l.length:Int))=true:=dt__ hi1
 have hA: ∃ A c,W.cell? ⟨g,4,none⟩=some (.slice A out.length c)∧k159.C W A out.length out:=by
  obtain ⟨A,c,hb,_,_,hc,_⟩:=h.cells
  exact ⟨A,c,(ae_ hb 4).trans rfl,hc⟩
 obtain ⟨A,c,c4,hc⟩:=hA
 obtain ⟨m,em⟩: ∃ m,(out.length:Int) - 1=m:=⟨_,rfl⟩
 have m0:0<=m:=by omega
 have m1:m<(out.length:Int):=by omega
 obtain ⟨at0,rfl,t0,_⟩:=fw_ hc m m0 m1
 obtain ⟨kd,hkd⟩: ∃ kd,kd=(ac_ out m).f0:=⟨_,rfl⟩
 rw [←hkd] at t0
 have w1:IntKind.i64.wrap ((out.length:Int) - 1)=m:=by rw [em];exact IntWalk.i64_in _ (by omega)
 have w2:IntKind.i64.wrap (i+1)=i+1:=IntWalk.i64_in _ (by omega)
 have d2:decide ((0:Int)<(out.length:Int))=true:=dt__ (by omega)
 have d3:decide (0<out.length)=true:=dt__ ho0
 have e91:(rd l i == 91)=false:=by rw [hc0];decide
 have e93:(rd l i == 93)=false:=by rw [hc0];decide
 have e38:(rd l i == 38)=false:=by rw [hc0];decide
 have e36:(rd l i == 36)=true:=by simpa using hc0
 have HB:=Sd.m (fun n=>h.below (ad_ (Below.refl W.heap.size W) n))
 have HLE:=Sd.m hL
 have HAF:=Sd.m hA
 have HSS:=Sd.m hs
 have H:=Sd.m h
 have HL:=Sd.m hl
 have HP:=Sd.m hp
 clear h hl hp hc hkd hc0 hL hA hs
 go_enter Tryz.func122,Tryz.ntmps122
 go_wp2_with fail
 go_quiet (fail)
 go_wp2_with fail
 refine (jb_ w0 _ g _ cl l Ap cp p i deep out (HB.out _) HL.out hcl HP.out hpl hol hi0 hx1 hi2 hll HLE.out HAF.out k s HSS.out).mono ?_
 rintro e W2 ⟨rfl,hL2⟩
 have HL2:=Sd.m hL2
 clear hL2
 go_wp2_with fail
 refine Great.bodyPost_end0 rfl rfl ?_
 exact ⟨rfl,HL2.out⟩
theorem set_less (w0 W:World)(g:Nat)(Al:Option Addr)(cl:Nat)(l:List Int)(Ap:Option Addr)(cp:Nat)(p:List Int)(i deep:Int)(out:List S159)(h:LexAt w0 W g Al cl l Ap cp p i deep out)
  (hl:Kd.C (Kd.int .i64) w0 Al l.length l) (hcl:l.length<=cl) (hp:Kd.C (Kd.int .i64) w0 Ap p.length p) (hpl:p.length<=1000000) (hol:out.length<=1000000) (ho0:0<out.length) (hi0:0<=i) (hi1:i<l.length) (hi2:i<p.length) (hll:l.length<=1000000)
  (hc0:rd l i=45) (hk:(ac_ out ((out.length:Int) - 1)).f0=14∨(ac_ out ((out.length:Int) - 1)).f0=1):
  Calls Tryz.prog 122 #[.pointer (some ⟨g,0,none⟩)] W fun e W1=>e=.returned (.tuple #[])∧LexAt w0 W1 g Al cl l Ap cp p (i+1) deep (out ++ [⟨17,⟨#[]⟩,0,0,rd p i⟩]):=by
 have c2:=h.c2
 have f2:=h.fr 2
 have c3:=h.c3
 have c0:=h.c0
 have c6:=h.c6
 obtain ⟨ad,rfl,hcell⟩:=at_l hl h.B i hi0 hi1
 have d0:decide ((0:Int)<=i)=true:=dt__ hi0
 have d1:decide (i<(l.length:Int))=true:=dt__ hi1
 have hA: ∃ A c,W.cell? ⟨g,4,none⟩=some (.slice A out.length c)∧k159.C W A out.length out:=by
  obtain ⟨A,c,hb,_,_,hc,_⟩:=h.cells
  exact ⟨A,c,(ae_ hb 4).trans rfl,hc⟩
 obtain ⟨A,c,c4,hc⟩:=hA
 obtain ⟨m,em⟩: ∃ m,(out.length:Int) - 1=m:=⟨_,rfl⟩
 have m0:0<=m:=by omega
 have m1:m<(out.length:Int):=by omega
 obtain ⟨at0,rfl,t0,_⟩:=fw_ hc m m0 m1
 obtain ⟨kd,hkd⟩: ∃ kd,kd=(ac_ out m).f0:=⟨_,rfl⟩
 rw [←hkd] at t0
 have w1:IntKind.i64.wrap ((out.length:Int) - 1)=m:=by rw [em];exact IntWalk.i64_in _ (by omega)
 have w2:IntKind.i64.wrap (i+1)=i+1:=IntWalk.i64_in _ (by omega)
 have d2:decide ((0:Int)<(out.length:Int))=true:=dt__ (by omega)
 have d3:decide (0<out.length)=true:=dt__ ho0
 have e91:(rd l i == 91)=false:=by rw [hc0];decide
 have e93:(rd l i == 93)=false:=by rw [hc0];decide
 have e38:(rd l i == 38)=false:=by rw [hc0];decide
 have e36:(rd l i == 36)=false:=by rw [hc0];decide
 have e45:(rd l i == 45)=true:=by simpa using hc0
 have HK:(kd == 14)=true∨((kd == 14)=false∧(kd == 1)=true):=by rw [em] at hk;rw [hkd];rcases hk with e | e <;> rw [e] <;> decide
 have HK:=Sd.m HK
 have HB:=Sd.m (fun n=>h.below (ad_ (Below.refl W.heap.size W) n))
 have H:=Sd.m h
 have HL:=Sd.m hl
 have HP:=Sd.m hp
 clear h hl hp hc hkd hc0 hk
 rcases HK.out with k14 | ⟨k14,k1⟩ <;> (go_enter Tryz.func122,Tryz.ntmps122;go_wp2_with fail;go_quiet (fail);go_wp2_with fail)
 all_goals
  refine (db_ w0 _ g _ cl l Ap cp p i deep out (HB.out _) HP.out hpl hol 17 ⟨#[]⟩ 0 0 0 i hi0 hi2).mono ?_
  rintro e W2 ⟨rfl,hL2⟩
  have c2:=hL2.c2
  have f2:=hL2.fr 2
  have hL3:=hL2.ge_ (i+1)
  have HL3:=Sd.m hL3
  clear hL2 hL3
  go_wp2_with fail
  refine Great.bodyPost_end0 rfl rfl ?_
  exact ⟨rfl,HL3.out⟩
theorem set_range (w0 W:World)(g:Nat)(Al:Option Addr)(cl:Nat)(l:List Int)(Ap:Option Addr)(cp:Nat)(p:List Int)(i deep:Int)(out:List S159)(h:LexAt w0 W g Al cl l Ap cp p i deep out)
  (hl:Kd.C (Kd.int .i64) w0 Al l.length l) (hcl:l.length<=cl) (hp:Kd.C (Kd.int .i64) w0 Ap p.length p) (hpl:p.length<=1000000) (hol:out.length<=1000000) (ho0:0<out.length) (hi0:0<=i) (hi1:i<l.length) (hi2:i<p.length) (hll:l.length<=1000000)
  (hn:NoSign (rd l i)) (k:Nat) (x nx:Int) (hr:ba_.f k l i=some (x,nx,0)) (hnx0:0<=nx) (hnx1:nx<l.length) (hm:rd l nx=45) (hny1:nx+1<l.length) (hn2:NoSign (rd l (nx+1))) (y ny:Int) (hr2:ba_.f k l (nx+1)=some (y,ny,0)) (hxy:x<=y):
  Calls Tryz.prog 122 #[.pointer (some ⟨g,0,none⟩)] W fun e W1=>e=.returned (.tuple #[])∧LexAt w0 W1 g Al cl l Ap cp p ny deep (out ++ [⟨15,⟨#[]⟩,x,y,rd p i⟩]):=by
 have c2:=h.c2
 have f2:=h.fr 2
 have c3:=h.c3
 have c0:=h.c0
 have c6:=h.c6
 obtain ⟨ad,rfl,hcell⟩:=at_l hl h.B i hi0 hi1
 have d0:decide ((0:Int)<=i)=true:=dt__ hi0
 have d1:decide (i<(l.length:Int))=true:=dt__ hi1
 have hA: ∃ A c,W.cell? ⟨g,4,none⟩=some (.slice A out.length c)∧k159.C W A out.length out:=by
  obtain ⟨A,c,hb,_,_,hc,_⟩:=h.cells
  exact ⟨A,c,(ae_ hb 4).trans rfl,hc⟩
 obtain ⟨A,c,c4,hc⟩:=hA
 obtain ⟨m,em⟩: ∃ m,(out.length:Int) - 1=m:=⟨_,rfl⟩
 have m0:0<=m:=by omega
 have m1:m<(out.length:Int):=by omega
 obtain ⟨at0,rfl,t0,_⟩:=fw_ hc m m0 m1
 obtain ⟨kd,hkd⟩: ∃ kd,kd=(ac_ out m).f0:=⟨_,rfl⟩
 rw [←hkd] at t0
 have w1:IntKind.i64.wrap ((out.length:Int) - 1)=m:=by rw [em];exact IntWalk.i64_in _ (by omega)
 have w2:IntKind.i64.wrap (i+1)=i+1:=IntWalk.i64_in _ (by omega)
 have d2:decide ((0:Int)<(out.length:Int))=true:=dt__ (by omega)
 have d3:decide (0<out.length)=true:=dt__ ho0
 have e91:(rd l i == 91)=false:=by obtain ⟨q,_⟩:=hn;simpa using q
 have e93:(rd l i == 93)=false:=by obtain ⟨_,q,_⟩:=hn;simpa using q
 have e38:(rd l i == 38)=false:=by obtain ⟨_,_,q,_⟩:=hn;simpa using q
 have e45:(rd l i == 45)=false:=by obtain ⟨_,_,_,q,_⟩:=hn;simpa using q
 have e36:(rd l i == 36)=false:=by obtain ⟨_,_,_,_,q,_⟩:=hn;simpa using q
 have HB:=Sd.m (fun n=>h.below (ad_ (Below.refl W.heap.size W) n))
 have HN:=Sd.m hn
 have HR:=Sd.m hr
 have HM:=Sd.m hm
 have HN2:=Sd.m hn2
 have HR2:=Sd.m hr2
 have w3:IntKind.i64.wrap (nx+1)=nx+1:=IntWalk.i64_in _ (by omega)
 have dxy:decide (y<x)=false:=df__ (by omega)
 have H:=Sd.m h
 have HL:=Sd.m hl
 have HP:=Sd.m hp
 clear h hl hp hc hkd hn hr hm hn2 hr2
 go_enter Tryz.func122,Tryz.ntmps122
 go_wp2_with fail
 go_quiet (fail)
 go_wp2_with fail
 refine (hi_ w0 _ g _ cl l Ap cp p i deep out (HB.out _) HL.out hcl hi0 hi1 hll HN.out k x nx HR.out).mono ?_
 rintro e W2 ⟨rfl,hL2⟩
 have c6:=hL2.c6
 have c2:=hL2.c2
 have HL2:=Sd.m hL2
 clear hL2
 go_wp2_with fail
 refine (is_in w0 W2 g _ cl l Ap cp p nx deep out HL2.out HL.out nx 45 hnx0 hnx1).mono ?_
 rintro e W3 ⟨rfl,hL3,hb3⟩
 have e45':(rd l nx == 45)=true:=by rw [HM.out];decide
 have c2:=hL3.c2
 have f2:=hL3.fr 2
 have HL3:=Sd.m (hL3.ge_ (nx+1))
 clear hL3 hb3
 go_wp2_with fail
 refine (hi_ w0 _ g _ cl l Ap cp p (nx+1) deep out HL3.out HL.out hcl (by omega) hny1 hll HN2.out k y ny HR2.out).mono ?_
 rintro e W4 ⟨rfl,hL4⟩
 have c6:=hL4.c6
 have HL4:=Sd.m hL4
 clear hL4
 go_wp2_with fail
 refine (db_ w0 W4 g _ cl l Ap cp p ny deep out HL4.out HP.out hpl hol 15 ⟨#[]⟩ x y 0 i hi0 hi2).mono ?_
 rintro e W5 ⟨rfl,hL5⟩
 have HL5:=Sd.m hL5
 clear hL5
 go_wp2_with fail
 refine Great.bodyPost_end0 rfl rfl ?_
 exact ⟨rfl,HL5.out⟩
theorem set_char (w0 W:World)(g:Nat)(Al:Option Addr)(cl:Nat)(l:List Int)(Ap:Option Addr)(cp:Nat)(p:List Int)(i deep:Int)(out:List S159)(h:LexAt w0 W g Al cl l Ap cp p i deep out)
  (hl:Kd.C (Kd.int .i64) w0 Al l.length l) (hcl:l.length<=cl) (hp:Kd.C (Kd.int .i64) w0 Ap p.length p) (hpl:p.length<=1000000) (hol:out.length<=1000000) (ho0:0<out.length) (hi0:0<=i) (hi1:i<l.length) (hi2:i<p.length) (hll:l.length<=1000000)
  (hn:NoSign (rd l i)) (k:Nat) (x nx:Int) (hr:ba_.f k l i=some (x,nx,0)) (hnx0:0<=nx) (hnx1:nx<l.length) (hm:rd l nx≠45):
  Calls Tryz.prog 122 #[.pointer (some ⟨g,0,none⟩)] W fun e W1=>e=.returned (.tuple #[])∧LexAt w0 W1 g Al cl l Ap cp p nx deep (out ++ [⟨15,⟨#[]⟩,x,x,rd p i⟩]):=by
 have c2:=h.c2
 have f2:=h.fr 2
 have c3:=h.c3
 have c0:=h.c0
 have c6:=h.c6
 obtain ⟨ad,rfl,hcell⟩:=at_l hl h.B i hi0 hi1
 have d0:decide ((0:Int)<=i)=true:=dt__ hi0
 have d1:decide (i<(l.length:Int))=true:=dt__ hi1
 have hA: ∃ A c,W.cell? ⟨g,4,none⟩=some (.slice A out.length c)∧k159.C W A out.length out:=by
  obtain ⟨A,c,hb,_,_,hc,_⟩:=h.cells
  exact ⟨A,c,(ae_ hb 4).trans rfl,hc⟩
 obtain ⟨A,c,c4,hc⟩:=hA
 obtain ⟨m,em⟩: ∃ m,(out.length:Int) - 1=m:=⟨_,rfl⟩
 have m0:0<=m:=by omega
 have m1:m<(out.length:Int):=by omega
 obtain ⟨at0,rfl,t0,_⟩:=fw_ hc m m0 m1
 obtain ⟨kd,hkd⟩: ∃ kd,kd=(ac_ out m).f0:=⟨_,rfl⟩
 rw [←hkd] at t0
 have w1:IntKind.i64.wrap ((out.length:Int) - 1)=m:=by rw [em];exact IntWalk.i64_in _ (by omega)
 have w2:IntKind.i64.wrap (i+1)=i+1:=IntWalk.i64_in _ (by omega)
 have d2:decide ((0:Int)<(out.length:Int))=true:=dt__ (by omega)
 have d3:decide (0<out.length)=true:=dt__ ho0
 have e91:(rd l i == 91)=false:=by obtain ⟨q,_⟩:=hn;simpa using q
 have e93:(rd l i == 93)=false:=by obtain ⟨_,q,_⟩:=hn;simpa using q
 have e38:(rd l i == 38)=false:=by obtain ⟨_,_,q,_⟩:=hn;simpa using q
 have e45:(rd l i == 45)=false:=by obtain ⟨_,_,_,q,_⟩:=hn;simpa using q
 have e36:(rd l i == 36)=false:=by obtain ⟨_,_,_,_,q,_⟩:=hn;simpa using q
 have HB:=Sd.m (fun n=>h.below (ad_ (Below.refl W.heap.size W) n))
 have HN:=Sd.m hn
 have HR:=Sd.m hr
 have HM:=Sd.m hm
 have dxy:decide (x<x)=false:=df__ (by omega)
 have H:=Sd.m h
 have HL:=Sd.m hl
 have HP:=Sd.m hp
 clear h hl hp hc hkd hn hr hm
 go_enter Tryz.func122,Tryz.ntmps122
 go_wp2_with fail
 go_quiet (fail)
 go_wp2_with fail
 refine (hi_ w0 _ g _ cl l Ap cp p i deep out (HB.out _) HL.out hcl hi0 hi1 hll HN.out k x nx HR.out).mono ?_
 rintro e W2 ⟨rfl,hL2⟩
 have c6:=hL2.c6
 have c2:=hL2.c2
 have HL2:=Sd.m hL2
 clear hL2
 go_wp2_with fail
 refine (is_in w0 W2 g _ cl l Ap cp p nx deep out HL2.out HL.out nx 45 hnx0 hnx1).mono ?_
 rintro e W3 ⟨rfl,hL3,hb3⟩
 have e45':(rd l nx == 45)=false:=by have:=HM.out;simpa using this
 have c6:=hL3.c6
 have HL3:=Sd.m hL3
 clear hL3 hb3
 go_wp2_with fail
 refine (db_ w0 W3 g _ cl l Ap cp p nx deep out HL3.out HP.out hpl hol 15 ⟨#[]⟩ x x 0 i hi0 hi2).mono ?_
 rintro e W5 ⟨rfl,hL5⟩
 have HL5:=Sd.m hL5
 clear hL5
 go_wp2_with fail
 refine Great.bodyPost_end0 rfl rfl ?_
 exact ⟨rfl,HL5.out⟩
end LX
end Go.Proofs.YthfceiincmkccaaGreat
