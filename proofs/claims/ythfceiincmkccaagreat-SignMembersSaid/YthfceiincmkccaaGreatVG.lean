/- What law SignMembers reaches, part 7: words and walks over rows and regions. -/
import Derived.Test.YthfceiincmkccaaGreatVA
import Derived.Test.YthfceiincmkccaaGreatVE
import Derived.Test.YthfceiincmkccaaGreatVF
set_option linter.unusedVariables false
set_option linter.unusedSimpArgs false
set_option maxHeartbeats 8000000
set_option maxRecDepth 100000
open Go.RowKit Go.Proofs.YthfceiincmkccaaGreatW.PrintWords Go.Proofs.YthfceiincmkccaaGreatW.PrintLast Go.Proofs.YthfceiincmkccaaGreatW.PrintMore
namespace Go.Proofs.YthfceiincmkccaaGreat
namespace L
open Shelf YthfceiincmkccaaGreatW.PrintWords.Kd A K P
open Go.Proofs.YthfceiincmkccaaGreat.LX (alive10 fz_ hv_ OkT sgF tellR dl_ jb_ F_one)
theorem SignMembers_calls (x:S27)(A0:Option Addr)(c0:Nat)(A1:Option Addr)(c1:Nat)(A2:Option Addr)(c2:Nat)(A3:Option Addr)(c3:Nat)(Al:Option Addr)(cl:Nat)(l:List Int)(w:World)(hsm:X.SmallB x)(l0:x.f0.length<=c0)(g0:Kd.C k93 w A0 x.f0.length x.f0)(l1:x.f1.length<=c1)(g1:Kd.C k55 w A1 x.f1.length x.f1)(l2:x.f2.length<=c2)(g2:Kd.C k87 w A2 x.f2.length x.f2)(l3:x.f3.length<=c3)(g3:Kd.C Kd.string w A3 x.f3.length x.f3)(gl:Kd.C (Kd.int .i64) w Al l.length l)(ml:l.length<=cl):
  Calls Tryz.prog 8 #[.agg #[.slice A0 x.f0.length c0,.slice A1 x.f1.length c1,.slice A2 x.f2.length c2,.slice A3 x.f3.length c3],.slice Al l.length cl] w fun e w'=>e=.returned (.bool true)∧Below w.heap.size w w':=by
 obtain ⟨W1,hW1⟩: ∃ W_,W_=w.alloc (.cells #[.slice A0 x.f0.length c0,.slice A1 x.f1.length c1,.slice A2 x.f2.length c2,.slice A3 x.f3.length c3] 27):=⟨_,rfl⟩
 have hb1:Below w.heap.size w W1:=by rw [hW1];exact ab_ (Below.refl _ _) _
 have hx1:W1.heap[w.heap.size]? =some (.cells #[.slice A0 x.f0.length c0,.slice A1 x.f1.length c1,.slice A2 x.f2.length c2,.slice A3 x.f3.length c3] 27 (0,0)):=by rw [hW1];exact ah_ _ _
 have HGT:Sd (∀ W,Below w.heap.size w W->_):=⟨fun W hW=>bg_calls x hsm 400 (by decide) W A0 c0 A1 c1 A2 c2 A3 c3 l0 (Kd.C_below g0 hW) l1 (Kd.C_below g1 hW) l2 (Kd.C_below g2 hW) l3 (Kd.C_below g3 hW)⟩
 have HF:Sd (∀ W,Below w.heap.size w W-> ∀ m,W.heap[m]? =some (.cells #[.slice A0 x.f0.length c0,.slice A1 x.f1.length c1,.slice A2 x.f2.length c2,.slice A3 x.f3.length c3] 27 (0,0))->Kd.C k27 W (some ⟨m,0,none⟩) 1 [x]):=⟨fun W hW m hm=>F_now (F_one (ok:=fun k=>k<W.heap.size) (cs:=[.slice A0 x.f0.length c0,.slice A1 x.f1.length c1,.slice A2 x.f2.length c2,.slice A3 x.f3.length c3]) hm (bu_ hm) (k27_mkF W _ x l0 (C_F k93_heap (Kd.C_below g0 hW)) l1 (C_F k55_heap (Kd.C_below g1 hW)) l2 (C_F k87_heap (Kd.C_below g2 hW)) l3 (C_F Kd.fo_ (Kd.C_below g3 hW))))⟩
 have HG1:=Sd.m (And.intro l1 g1)
 have HGL:=Sd.m gl
 have HML:l.length<=9223372036854775807:=Kd.C_max gl
 have HMX:x.f1.length<=9223372036854775807:=Kd.C_max g1
 have HAL:=Sd.m (alive10 W1)
 have HB1:=Sd.m hb1
 have HX1:=Sd.m hx1
 have HW1:=Sd.m hW1
 clear hb1 hx1 hW1 g0 g1 g2 g3 gl l0 l1 l2 l3 hsm
 go_enter Tryz.func8,Tryz.ntmps8
 go_wp2_with fail
 rw [←HW1.out]
 refine HAL.out.mono ?_
 rintro e V ⟨rfl,hb⟩
 have hx:=ae_ HX1.out hb
 have x0:=bc_ hx 0 rfl
 have x1:=bc_ hx 1 rfl
 have x2:=bc_ hx 2 rfl
 have x3:=bc_ hx 3 rfl
 have BV:=Sd.m (HB1.out.trans (hb.mono HB1.out.size))
 have HXV:=Sd.m hx
 clear hb hx
 go_wp2_with fail
 refine (HGT.out V BV.out).mono ?_
 rintro e V2 ⟨⟨r,rfl,hr⟩,hb⟩
 have BV2:=Sd.m (BV.out.trans (hb.mono BV.out.size))
 have HXV2:=Sd.m (ae_ HXV.out hb)
 clear hb x0 x1 x2 x3
 cases r with
 | true=>
  go_wp2_with fail
  go_ret
  exact ⟨rfl,BV2.out⟩
 | false=>
 have hmass:x.f1.length+bookM x<=400:=by have h:=hr rfl;unfold bookM;omega
 clear hr
 by_cases hll:(l.length:Int)>100
 ·have d1:decide ((l.length:Int)>100)=true:=dt__ hll
  have d2:decide (100<l.length)=true:=dt__ (by omega)
  have d3:decide (100<(l.length:Int))=true:=dt__ hll
  clear hll hmass
  go_wp2_with fail
  go_ret
  exact ⟨rfl,BV2.out⟩
 have d1:decide ((l.length:Int)>100)=false:=df__ hll
 have d2:decide (100<l.length)=false:=df__ (by omega)
 have d3:decide (100<(l.length:Int))=false:=df__ hll
 obtain ⟨sets,hsets⟩: ∃ s,s=booksF [x]:=⟨_,rfl⟩
 have hsum:(sets.map List.length).sum<=399:=by
  have h:=book_sum [] x
  have e:sets=bookF [] x:=hsets
  rw [←e] at h
  unfold sumL at h
  by_cases hz:x.f1=[]
  ·have:=book_empty hz
   simp at h
   omega
  ·have:=List.length_pos_iff.2 hz
   simp at h
   omega
 have f:=few_edges hsum
 have hin: ∀ q∈x.f1,InF sets q.f2∧InF sets q.f3:=by rw [hsets];exact in_book x []
 have hbn:([x].map bookN).sum<=1000000:=by have:=bookN_le x;simp;omega
 have hwd: ∀ b∈[x],∀ q∈b.f1,Wide q.f2∧Wide q.f3:=by
  intro b hb
  rw [List.mem_singleton.1 hb]
  exact book_wide (by omega)
 have hnd: ∀ q∈x.f1,nodes q.f2<=1000000∧nodes q.f3<=1000000:=by
  intro q hq
  have h1:=rule_in hq
  have h2:=fe_ q.f2
  have h3:=fe_ q.f3
  unfold ruleM at h1
  omega
 have hxl:x.f1.length<=1000000:=by omega
 have hl100:l.length<=100:=by omega
 have hxx:=HXV2.out
 have x0:=bc_ hxx 0 rfl
 have x1:=bc_ hxx 1 rfl
 have x2:=bc_ hxx 2 rfl
 have x3:=bc_ hxx 3 rfl
 obtain ⟨V3,hV3⟩: ∃ W_,W_=V2.alloc (.cells #[.slice A0 x.f0.length c0,.slice A1 x.f1.length c1,.slice A2 x.f2.length c2,.slice A3 x.f3.length c3] 27):=⟨_,rfl⟩
 have hb3:Below V2.heap.size V2 V3:=by rw [hV3];exact ab_ (Below.refl _ _) _
 have ha3:V3.heap[V2.heap.size]? =some (.cells #[.slice A0 x.f0.length c0,.slice A1 x.f1.length c1,.slice A2 x.f2.length c2,.slice A3 x.f3.length c3] 27 (0,0)):=by rw [hV3];exact ah_ _ _
 have b3:=BV2.out.trans (hb3.mono BV2.out.size)
 have BV3:=Sd.m b3
 have HXV3:=Sd.m (ae_ hxx hb3)
 have hC:=HF.out V3 b3 _ ha3
 cases hbad:badB sets with
 | true=>
  have hof:=of_bad f hbad
  rw [hsets] at hof
  have HOF:=Sd.m (io_ [x] V3 (some ⟨V2.heap.size,0,none⟩) 1 (Nat.le_refl 1) hC hbn hwd [] 9 hof)
  have HV3:=Sd.m hV3
  clear hof hC hbad hV3 ha3 hb3 hxx f hsum hsets hin hbn hwd hnd hxl hl100 hmass hll b3
  go_wp2_with fail
  rw [←HV3.out]
  refine HOF.out.mono ?_
  rintro e V4 ⟨v,rfl,hN,hb⟩
  have BV4:=Sd.m (BV3.out.trans (hb.mono BV3.out.size))
  have e9:((9:Int) == 9)=true:=rfl
  clear hN hb x0 x1 x2 x3
  go_wp2_with fail
  go_ret
  exact ⟨rfl,BV4.out⟩
 | false=>
 have hof:=of_ok f hbad
 obtain ⟨_,hcls,hshort,hlen⟩:=of_good f hbad
 generalize clsL sets=T at hof hcls hshort hlen
 rw [hsets] at hof
 have HOF:=Sd.m (io_ [x] V3 (some ⟨V2.heap.size,0,none⟩) 1 (Nat.le_refl 1) hC hbn hwd T 0 hof)
 obtain ⟨ws,fe,hwf⟩: ∃ ws fe,eachF (classF T) l=(ws,fe):=⟨_,_,rfl⟩
 have HCLS:=Sd.m hcls
 have HSHORT:=Sd.m hshort
 have HLEN:=Sd.m hlen
 have HIN:=Sd.m hin
 have HND:=Sd.m hnd
 have HXL:=Sd.m hxl
 have HL100:=Sd.m hl100
 have HWF:=Sd.m hwf
 have HV3:=Sd.m hV3
 clear hof hC hbad hV3 ha3 hb3 hxx f hsum hsets hin hbn hwd hnd hxl hl100 hmass hll b3 hcls hshort hlen hwf
 go_wp2_with fail
 rw [←HV3.out]
 refine HOF.out.mono ?_
 rintro e V4 ⟨v,rfl,hN,hb⟩
 obtain ⟨A4,c4,rfl⟩:=N_slice hN
 have hq:=(N_reads' hN).2
 have b4:=BV3.out.trans (hb.mono BV3.out.size)
 have HT:=Sd.m hq
 have BV4:=Sd.m b4
 have HXV4:=Sd.m (ae_ HXV3.out hb)
 have hwd:=ho_ A4 c4 T Al cl l V4 hq.2 hq.1 (Kd.C_below HGL.out b4) ml (by have:=HL100.out;omega)
 rw [HWF.out] at hwd
 have HWD:=Sd.m hwd
 clear hN hb hq b4 hwd x0 x1 x2 x3
 go_wp2_with fail
 refine HWD.out.mono ?_
 rintro e V5 ⟨v,rfl,hR,hb⟩
 obtain ⟨A7,c7,rfl⟩:=R_slice hR
 have hq:=(R_reads' hR).2
 have HWS:=Sd.m hq
 have BV5:=Sd.m (BV4.out.trans (hb.mono BV4.out.size))
 have HXV5:=Sd.m (ae_ HXV4.out hb)
 have HT5:=Sd.m (Kd.C_below HT.out.2 hb)
 clear hR hb hq
 go_wp2_with fail
 go_loopw [9] (fun u Wx=> ∃ i:Nat,i<=l.length∧u=.int .i64 i∧(∀ y∈l.take i,0<=y∧y<=1114111)∧Below V5.heap.size V5 Wx) (fun u _=>l.length - (intOf u).toNat)
 case atStart=>exact ⟨0,Nat.zero_le _,rfl,fun y hy=>by simp at hy,Below.refl _ _⟩
 case round=>
  obtain ⟨i,hi,rfl,hgd,hb⟩:=hrel
  have HGD:=Sd.m hgd
  clear hgd
  by_cases hlt:i<l.length
  ·have b1:decide ((i:Int)<(l.length:Int))=true:=dt__ (by omega)
   have b2:decide (i<l.length)=true:=dt__ hlt
   have hq0:0<=(i:Int):=by omega
   have hq1:(i:Int)<(l.length:Int):=by omega
   have w2:IntKind.i64.wrap ((i:Int)+1)=(i:Int)+1:=IntWalk.i64_in _ (by omega)
   obtain ⟨ad,ead,k0⟩:=Kd.de_ (Kd.C_below HGL.out (BV5.out.trans (hb.mono BV5.out.size))) (i:Int) (by omega) (by omega)
   rw [Int.toNat_natCast] at k0
   subst ead
   have hel:l[i]? =some (rd l (i:Int)):=by
    unfold rd
    rw [Int.toNat_natCast,List.getD_eq_getElem?_getD,List.getElem?_eq_getElem hlt]
    rfl
   generalize rd l (i:Int)=y at k0 hel
   have HEL:=Sd.m hel
   have HB:=Sd.m hb
   clear hel hb
   by_cases hn:y<0
   ·have s1:decide (y<0)=true:=dt__ hn
    have hfe:fe=1:=by
     have h:=word_bad HCLS.out HSHORT.out (List.mem_of_getElem? HEL.out) (by omega)
     rw [HWF.out] at h
     exact h
    subst hfe
    have e1:((1:Int) == 1)=true:=rfl
    clear hn
    go_wp2_with fail
    go_ret
    exact ⟨rfl,BV5.out.trans (HB.out.mono BV5.out.size)⟩
   ·have s1:decide (y<0)=false:=df__ hn
    by_cases hm:y>1114111
    ·have s2:decide (y>1114111)=true:=dt__ hm
     have s3:decide (1114111<y)=true:=dt__ hm
     have hfe:fe=1:=by
      have h:=word_bad HCLS.out HSHORT.out (List.mem_of_getElem? HEL.out) (by omega)
      rw [HWF.out] at h
      exact h
     subst hfe
     have e1:((1:Int) == 1)=true:=rfl
     clear hn hm
     go_wp2_with fail
     go_ret
     exact ⟨rfl,BV5.out.trans (HB.out.mono BV5.out.size)⟩
    ·have s2:decide (y>1114111)=false:=df__ hm
     have s3:decide (1114111<y)=false:=df__ hm
     have hy:0<=y∧y<=1114111:=by omega
     clear hn hm
     go_wp2_with fail
     go_roundw
     case rel=>
      refine ⟨i+1,hlt,by go_num,fun z hz=>?_,HB.out⟩
      rw [List.take_add_one,HEL.out] at hz
      rcases List.mem_append.1 hz with hz | hz
      ·exact HGD.out z hz
      ·simp at hz
       rw [hz]
       exact hy
     case measure=>simp [intOf];omega
  ·have b1:decide ((i:Int)<(l.length:Int))=false:=df__ (by omega)
   have b2:decide (i<l.length)=false:=df__ hlt
   have hgood: ∀ y∈l,0<=y∧y<=1114111:=by
    have h:=HGD.out
    rwa [List.take_of_length_le (by omega)] at h
   have hwf:=HWF.out
   have hg:=word_good HCLS.out HSHORT.out hgood
   rw [hwf] at hg
   injection hg with hws hfe
   subst hfe
   obtain ⟨cs,hcs⟩: ∃ cs,cs=l.map (fun y=>firstF (clsF sets y)):=⟨_,rfl⟩
   have h1:=chars_good HCLS.out HSHORT.out hgood
   have h2:=word_back HCLS.out HSHORT.out hgood
   rw [←hws,←hcs] at h1
   rw [←hws,←hcs] at h2
   have hlw:ws.length=l.length:=by rw [hws,List.length_map]
   have hlc:cs.length=l.length:=by rw [hcs,List.length_map]
   have hok: ∀ q∈x.f1,OkT T l ws q.f2∧OkT T l ws q.f3:=by
    intro q hq
    rw [hws]
    exact ⟨ok_form HCLS.out HSHORT.out hgood _ (HIN.out q hq).1,ok_form HCLS.out HSHORT.out hgood _ (HIN.out q hq).2⟩
   have bV:=BV5.out.trans (hb.mono BV5.out.size)
   have HB6:=Sd.m bV
   have HBL:=Sd.m hb
   have HXr:=Sd.m (ae_ HXV5.out hb)
   have HTr:=Sd.m (Kd.C_below HT5.out hb)
   have HWr:=Sd.m (Kd.C_below HWS.out.2 hb)
   have hch:=gq_ A4 c4 T A7 c7 ws wr HTr.out HT.out.1 HWr.out HWS.out.1 (by have:=HLEN.out;omega) (by have:=HL100.out;omega)
   rw [h1] at hch
   have HCH:=Sd.m hch
   have HW2:=Sd.m h2
   have HLW:=Sd.m hlw
   have HLC:=Sd.m hlc
   have HOK:=Sd.m hok
   clear hgood hwf hws h1 h2 hcs hlw hlc hok hb bV hch
   go_wp2_with fail
   refine HCH.out.mono ?_
   rintro e V6 ⟨v,rfl,hR,hb⟩
   obtain ⟨A10,c10,rfl⟩:=R_slice hR
   have hq:=(R_reads' hR).2
   have HB7:=Sd.m (HB6.out.trans (hb.mono HB6.out.size))
   have HX6:=Sd.m (ae_ HXr.out hb)
   have HT6:=Sd.m (Kd.C_below HTr.out hb)
   have HW6:=Sd.m (Kd.C_below HWr.out hb)
   have hwd:=ho_ A4 c4 T A10 c10 cs V6 HT6.out HT.out.1 hq.2 hq.1 (by have:=HL100.out;have:=HLC.out;omega)
   rw [HW2.out] at hwd
   have HWD2:=Sd.m hwd
   clear hR hb hq hwd
   go_wp2_with fail
   refine HWD2.out.mono ?_
   rintro e V7 ⟨v,rfl,hR,hb⟩
   obtain ⟨A12,c12,rfl⟩:=R_slice hR
   have hq:=(R_reads' hR).2
   have HB8:=Sd.m (HB7.out.trans (hb.mono HB7.out.size))
   have HX7:=Sd.m (ae_ HX6.out hb)
   have HT7:=Sd.m (Kd.C_below HT6.out hb)
   have HW7:=Sd.m (Kd.C_below HW6.out hb)
   have HIS:=Sd.m (jb_ ws A12 c12 A7 c7 V7 (by have:=HL100.out;have:=HLW.out;omega) hq.2 hq.1 HW7.out HWS.out.1)
   have hne:((ws.length:Int) != (l.length:Int))=false:=by rw [HLW.out];simp
   have hne2:(ws.length != l.length)=false:=by rw [HLW.out];simp
   have e0:((0:Int) != 0)=false:=rfl
   clear hR hb hq
   go_wp2_with fail
   refine HIS.out.mono ?_
   rintro e V8 ⟨rfl,hb⟩
   have HB9:=Sd.m (HB8.out.trans (hb.mono HB8.out.size))
   have hx8:=ae_ HX7.out hb
   have HX8:=Sd.m hx8
   have HT8:=Sd.m (Kd.C_below HT7.out hb)
   have HW8:=Sd.m (Kd.C_below HW7.out hb)
   have x0:=bc_ hx8 0 rfl
   have x1:=bc_ hx8 1 rfl
   have x2:=bc_ hx8 2 rfl
   have x3:=bc_ hx8 3 rfl
   have HBK:=Sd.m (hv_ T (by have:=HLEN.out;omega) V8 A4 c4 HT.out.1 HT8.out x A0 c0 A1 c1 A2 c2 A3 c3 HG1.out.1 (Kd.C_below HG1.out.2 HB9.out) HXL.out HND.out)
   clear hb hx8
   go_wp2_with fail
   refine HBK.out.mono ?_
   rintro e Vb ⟨R,cR,rfl,hcR,hCY,hb⟩
   clear x0 x1 x2 x3
   obtain ⟨Vy,hVy⟩: ∃ W_,W_=Vb.alloc (.cells #[.slice A0 x.f0.length c0,.slice R x.f1.length cR,.slice A2 x.f2.length c2,.slice A3 x.f3.length c3] 27):=⟨_,rfl⟩
   have hby:Below Vb.heap.size Vb Vy:=by rw [hVy];exact ab_ (Below.refl _ _) _
   have hyy:Vy.heap[Vb.heap.size]? =some (.cells #[.slice A0 x.f0.length c0,.slice R x.f1.length cR,.slice A2 x.f2.length c2,.slice A3 x.f3.length c3] 27 (0,0)):=by rw [hVy];exact ah_ _ _
   have b8y:=hb.trans (hby.mono hb.size)
   have hbY:=HB9.out.trans (b8y.mono HB9.out.size)
   have HBY:=Sd.m hbY
   have HXY:=Sd.m (ae_ HX8.out b8y)
   have HYY:=Sd.m hyy
   have HCY:=Sd.m (Kd.C_below hCY hby)
   have HWY:=Sd.m (Kd.C_below HW8.out b8y)
   have HLY:=Sd.m (Kd.C_below HGL.out hbY)
   have HGY:=Sd.m (Kd.C_below HG1.out.2 hbY)
   have HVY:=Sd.m hVy
   clear hb hby hyy b8y hbY hCY hVy
   go_wp2_with fail
   rw [←HVY.out]
   go_loopw [15] (fun u Wx=> ∃ j:Nat,j<=x.f1.length∧u=.int .i64 j∧Below Vy.heap.size Vy Wx) (fun u _=>x.f1.length - (intOf u).toNat)
   case atStart=>exact ⟨0,Nat.zero_le _,rfl,Below.refl _ _⟩
   case round=>
    obtain ⟨j,hj,rfl,hb⟩:=hrel
    have x1:=bc_ (ae_ HXY.out hb) 1 rfl
    by_cases hlt:j<x.f1.length
    ·have b1:decide ((j:Int)<(x.f1.length:Int))=true:=dt__ (by omega)
     have b2:decide (j<x.f1.length)=true:=dt__ hlt
     have b3:decide ((j:Int) ≥ (x.f1.length:Int))=false:=df__ (by omega)
     have b4:decide ((x.f1.length:Int)<=(j:Int))=false:=df__ (by omega)
     have b5:decide (x.f1.length<=j)=false:=df__ (by omega)
     have hq0:0<=(j:Int):=by omega
     have hq1:(j:Int)<(x.f1.length:Int):=by omega
     have w2:IntKind.i64.wrap ((j:Int)+1)=(j:Int)+1:=IntWalk.i64_in _ (by omega)
     go_wp2_with fail
     clear x1
     obtain ⟨Vd,hVd⟩: ∃ W_,W_=wr.drew:=⟨_,rfl⟩
     have hbd:Below wr.heap.size wr Vd:=by rw [hVd];exact bq_ (Below.refl _ _)
     have hbD:=hb.trans (hbd.mono hb.size)
     obtain ⟨ax,E3,e3,E4,e4,E5,e5,E7,e7,E8,e8,E9,e9,eax,i0,i1,i2,i3,i4,i5,i6,i7,i8,i9,i10,n3,o3,n4,o4,n5,o5,n7,o7,n8,o8,n9,o9⟩:=hm_ (Kd.C_below HGY.out hbD) (j:Int) (by omega) (by omega)
     obtain ⟨ay,G3,g3,G4,g4,G5,g5,G7,g7,G8,g8,G9,g9,eay,u0,u1,u2,u3,u4,u5,u6,u7,u8,u9,u10,p3,q3,p4,q4,p5,q5,p7,q7,p8,q8,p9,q9⟩:=hm_ (Kd.C_below HCY.out hbD) (j:Int) (by omega) (by omega)
     subst eax
     subst eay
     rw [Int.toNat_natCast] at i2 i3 i4 i5 i6 i7 i8 i9 u2 u3 u4 u5 u6 u7 u8 u9
     have hmem:ca_ x.f1 (j:Int)∈x.f1:=by
      unfold ca_
      rw [Int.toNat_natCast,List.getD_eq_getElem?_getD,List.getElem?_eq_getElem hlt]
      exact List.getElem_mem hlt
     have hrd:ca_ (x.f1.map (tellR T)) (j:Int)=tellR T (ca_ x.f1 (j:Int)):=by
      unfold ca_
      rw [Int.toNat_natCast,List.getD_eq_getElem?_getD,List.getD_eq_getElem?_getD,List.getElem?_map,List.getElem?_eq_getElem hlt]
      rfl
     rw [hrd] at u2 u3 u4 u5 u6 u7 u8 u9 q4 q5 q8 q9
     have hoks:=HOK.out _ hmem
     clear hrd hmem
     generalize ca_ x.f1 (j:Int)=r at i2 i3 i4 i5 i6 i7 i8 i9 n3 o3 n4 o4 n5 o5 n7 o7 n8 o8 n9 o9 u2 u3 u4 u5 u6 u7 u8 u9 q4 q5 q8 q9 hoks
     have t0: ∀ q,(LX.tellF T q).f0=q.f0:=fun q=>by rw [dl_]
     have t1: ∀ q,(LX.tellF T q).f1=q.f1:=fun q=>by rw [dl_]
     have t2: ∀ q,(LX.tellF T q).f2=sgF T q:=fun q=>by rw [dl_];rfl
     have t3: ∀ q,(LX.tellF T q).f3=q.f3.map (LX.tellF T):=fun q=>by rw [dl_]
     have a2:(tellR T r).f2=LX.tellF T r.f2:=rfl
     have a3:(tellR T r).f3=LX.tellF T r.f3:=rfl
     rw [a2] at u2 u3 u4 u5 q4 q5
     rw [a3] at u6 u7 u8 u9 q8 q9
     rw [t0] at u2 u6
     rw [t1] at u3 u7
     rw [t2] at u4 u8 q4 q8
     rw [t3,List.length_map] at u5 u9 q5 q9
     clear a2 a3 t0 t1 t2 t3
     have HC1:Sd (∀ W,Below Vd.heap.size Vd W->_):=⟨fun W hW=>fz_ T Vy Al cl l A7 c7 ws HLW.out HLY.out HWY.out r.f2 hoks.1 W E3 e3 E4 e4 E5 e5 G3 g3 G4 g4 G5 g5 (hbD.trans (hW.mono hbD.size)) n3 (Kd.C_below o3 hW) n5 (Kd.C_below o5 hW) (Kd.C_below q4 hW) (Kd.C_below q5 hW)⟩
     have HC2:Sd (∀ W,Below Vd.heap.size Vd W->_):=⟨fun W hW=>fz_ T Vy Al cl l A7 c7 ws HLW.out HLY.out HWY.out r.f3 hoks.2 W E7 e7 E8 e8 E9 e9 G7 g7 G8 g8 G9 g9 (hbD.trans (hW.mono hbD.size)) n7 (Kd.C_below o7 hW) n9 (Kd.C_below o9 hW) (Kd.C_below q8 hW) (Kd.C_below q9 hW)⟩
     have HS:Sd (∀ w',Below Vd.heap.size Vd w'->w'.cell? ⟨w.heap.size,1,none⟩=some (.slice (some ax) x.f1.length c1)∧w'.cell? ⟨Vb.heap.size,1,none⟩=some (.slice (some ay) x.f1.length cR)∧w'.cell? ⟨(ax.add (j*11)).block,(ax.add (j*11)).off+2,none⟩=some (.int .i64 r.f2.f0)∧w'.cell? ⟨(ax.add (j*11)).block,(ax.add (j*11)).off+3,none⟩=some (.slice E3 r.f2.f1.length e3)∧w'.cell? ⟨(ax.add (j*11)).block,(ax.add (j*11)).off+4,none⟩=some (.slice E4 r.f2.f2.length e4)∧w'.cell? ⟨(ax.add (j*11)).block,(ax.add (j*11)).off+5,none⟩=some (.slice E5 r.f2.f3.length e5)∧w'.cell? ⟨(ax.add (j*11)).block,(ax.add (j*11)).off+6,none⟩=some (.int .i64 r.f3.f0)∧w'.cell? ⟨(ax.add (j*11)).block,(ax.add (j*11)).off+7,none⟩=some (.slice E7 r.f3.f1.length e7)∧w'.cell? ⟨(ax.add (j*11)).block,(ax.add (j*11)).off+8,none⟩=some (.slice E8 r.f3.f2.length e8)∧w'.cell? ⟨(ax.add (j*11)).block,(ax.add (j*11)).off+9,none⟩=some (.slice E9 r.f3.f3.length e9)∧w'.cell? ⟨(ay.add (j*11)).block,(ay.add (j*11)).off+2,none⟩=some (.int .i64 r.f2.f0)∧w'.cell? ⟨(ay.add (j*11)).block,(ay.add (j*11)).off+3,none⟩=some (.slice G3 r.f2.f1.length g3)∧w'.cell? ⟨(ay.add (j*11)).block,(ay.add (j*11)).off+4,none⟩=some (.slice G4 (sgF T r.f2).length g4)∧w'.cell? ⟨(ay.add (j*11)).block,(ay.add (j*11)).off+5,none⟩=some (.slice G5 r.f2.f3.length g5)∧w'.cell? ⟨(ay.add (j*11)).block,(ay.add (j*11)).off+6,none⟩=some (.int .i64 r.f3.f0)∧w'.cell? ⟨(ay.add (j*11)).block,(ay.add (j*11)).off+7,none⟩=some (.slice G7 r.f3.f1.length g7)∧w'.cell? ⟨(ay.add (j*11)).block,(ay.add (j*11)).off+8,none⟩=some (.slice G8 (sgF T r.f3).length g8)∧w'.cell? ⟨(ay.add (j*11)).block,(ay.add (j*11)).off+9,none⟩=some (.slice G9 r.f3.f3.length g9)):=by
      refine ⟨fun w' hw=>?_⟩
      have cw:=fun (a:Addr) (v:Value) (h:Vd.cell? a=some v)=>(hw.cell (bl__ Vd _ h)).trans h
      have hq:=hbD.trans (hw.mono hbD.size)
      exact ⟨bc_ (ae_ HXY.out hq) 1 rfl,bc_ (ae_ HYY.out hq) 1 rfl,cw _ _ i2,cw _ _ i3,cw _ _ i4,cw _ _ i5,cw _ _ i6,cw _ _ i7,cw _ _ i8,cw _ _ i9,cw _ _ u2,cw _ _ u3,cw _ _ u4,cw _ _ u5,cw _ _ u6,cw _ _ u7,cw _ _ u8,cw _ _ u9⟩
     have BD:=Sd.m (Below.refl Vd.heap.size Vd)
     have HBD:=Sd.m hbD
     clear hb hbd hbD i0 i1 i2 i3 i4 i5 i6 i7 i8 i9 i10 n3 o3 n4 o4 n5 o5 n7 o7 n8 o8 n9 o9 u0 u1 u2 u3 u4 u5 u6 u7 u8 u9 u10 p3 q3 p4 q4 p5 q5 p7 q7 p8 q8 p9 q9 hoks
     go_upto_region 22 with fail
     refine start_ (n:=41) (S:=fun w'=>w'.cell? ⟨w.heap.size,1,none⟩=some (.slice (some ax) x.f1.length c1)∧w'.cell? ⟨Vb.heap.size,1,none⟩=some (.slice (some ay) x.f1.length cR)∧w'.cell? ⟨(ax.add (j*11)).block,(ax.add (j*11)).off+2,none⟩=some (.int .i64 r.f2.f0)∧w'.cell? ⟨(ax.add (j*11)).block,(ax.add (j*11)).off+3,none⟩=some (.slice E3 r.f2.f1.length e3)∧w'.cell? ⟨(ax.add (j*11)).block,(ax.add (j*11)).off+4,none⟩=some (.slice E4 r.f2.f2.length e4)∧w'.cell? ⟨(ax.add (j*11)).block,(ax.add (j*11)).off+5,none⟩=some (.slice E5 r.f2.f3.length e5)∧w'.cell? ⟨(ax.add (j*11)).block,(ax.add (j*11)).off+6,none⟩=some (.int .i64 r.f3.f0)∧w'.cell? ⟨(ax.add (j*11)).block,(ax.add (j*11)).off+7,none⟩=some (.slice E7 r.f3.f1.length e7)∧w'.cell? ⟨(ax.add (j*11)).block,(ax.add (j*11)).off+8,none⟩=some (.slice E8 r.f3.f2.length e8)∧w'.cell? ⟨(ax.add (j*11)).block,(ax.add (j*11)).off+9,none⟩=some (.slice E9 r.f3.f3.length e9)∧w'.cell? ⟨(ay.add (j*11)).block,(ay.add (j*11)).off+2,none⟩=some (.int .i64 r.f2.f0)∧w'.cell? ⟨(ay.add (j*11)).block,(ay.add (j*11)).off+3,none⟩=some (.slice G3 r.f2.f1.length g3)∧w'.cell? ⟨(ay.add (j*11)).block,(ay.add (j*11)).off+4,none⟩=some (.slice G4 (sgF T r.f2).length g4)∧w'.cell? ⟨(ay.add (j*11)).block,(ay.add (j*11)).off+5,none⟩=some (.slice G5 r.f2.f3.length g5)∧w'.cell? ⟨(ay.add (j*11)).block,(ay.add (j*11)).off+6,none⟩=some (.int .i64 r.f3.f0)∧w'.cell? ⟨(ay.add (j*11)).block,(ay.add (j*11)).off+7,none⟩=some (.slice G7 r.f3.f1.length g7)∧w'.cell? ⟨(ay.add (j*11)).block,(ay.add (j*11)).off+8,none⟩=some (.slice G8 (sgF T r.f3).length g8)∧w'.cell? ⟨(ay.add (j*11)).block,(ay.add (j*11)).off+9,none⟩=some (.slice G9 r.f3.f3.length g9)) (ds:=[]) #[false,false,false,false,false,false,false,false,false,false,false,false,false,false,false,false,false,false,false,false,false,false,false,false,false,false,false,false,false,false,false,false,false,false,false,false,false,false,false,false,false] (by kernel_rfl) rfl rfl (by rw [←hVd];exact (HS.out _ (Below.refl _ _))) (fun hHeld=>?_)
     rw [←hVd] at hHeld ⊢
     clear hVd
     refine pu_ 0 106 ?_
     refine pu_ 1 107 ?_
     refine ta_ 2 108 hHeld ?_
     refine pu_ 3 109 ?_
     refine pu_ 4 110 ?_
     refine pu_ 5 111 ?_
     refine pu_ 6 112 ?_
     refine pu_ 8 114 ?_
     refine pu_ 12 118 ?_
     refine pu_ 14 120 ?_
     refine pu_ 18 124 ?_
     refine pu_ 19 125 ?_
     refine ta_ 7 113 hHeld ?_
     refine pu_ 9 115 ?_
     refine pu_ 10 116 ?_
     refine ta_ 11 117 hHeld ?_
     refine ta_ 13 119 hHeld ?_
     refine pu_ 15 121 ?_
     refine pu_ 16 122 ?_
     refine ta_ 17 123 hHeld ?_
     refine on_ 20 126 (fun K hK=>?_)
     refine goes_ Tryz.func38 (by kernel_rfl) rfl #[.agg #[.int .i64 r.f2.f0,.slice E3 r.f2.f1.length e3,.slice E4 r.f2.f2.length e4,.slice E5 r.f2.f3.length e5],.agg #[.int .i64 r.f2.f0,.slice G3 r.f2.f1.length g3,.slice G4 (sgF T r.f2).length g4,.slice G5 r.f2.f3.length g5],.slice Al l.length cl,.slice A7 ws.length c7] (by rfl) rfl rfl (by simp only [List.map_toArray,List.map_cons,List.map_nil];rfl) ?_
     with_reducible refine (HC1.out Vd BD.out).mono ?_
     rintro e_ U1 ⟨rfl,hb_⟩
     refine ⟨_,rfl,?_⟩
     have BU1:=Sd.m (BD.out.trans ((hb_).mono BD.out.size))
     clear hb_
     refine hK.out _ _ (HS.out _ BU1.out) (fun hHeld=>?_)
     clear hK K
     refine no_ 126 ?_
     refine pu_ 21 127 ?_
     refine pu_ 22 128 ?_
     refine pu_ 23 129 ?_
     refine pu_ 24 130 ?_
     refine pu_ 26 132 ?_
     refine pu_ 30 136 ?_
     refine pu_ 32 138 ?_
     refine pu_ 36 142 ?_
     refine pu_ 37 143 ?_
     refine ta_ 25 131 hHeld ?_
     refine pu_ 27 133 ?_
     refine pu_ 28 134 ?_
     refine ta_ 29 135 hHeld ?_
     refine ta_ 31 137 hHeld ?_
     refine pu_ 33 139 ?_
     refine pu_ 34 140 ?_
     refine ta_ 35 141 hHeld ?_
     refine on_ 38 144 (fun K hK=>?_)
     refine goes_ Tryz.func38 (by kernel_rfl) rfl #[.agg #[.int .i64 r.f3.f0,.slice E7 r.f3.f1.length e7,.slice E8 r.f3.f2.length e8,.slice E9 r.f3.f3.length e9],.agg #[.int .i64 r.f3.f0,.slice G7 r.f3.f1.length g7,.slice G8 (sgF T r.f3).length g8,.slice G9 r.f3.f3.length g9],.slice Al l.length cl,.slice A7 ws.length c7] (by rfl) rfl rfl (by simp only [List.map_toArray,List.map_cons,List.map_nil];rfl) ?_
     with_reducible refine (HC2.out U1 BU1.out).mono ?_
     rintro e_ U2 ⟨rfl,hb_⟩
     refine ⟨_,rfl,?_⟩
     have BU2:=Sd.m (BU1.out.trans ((hb_).mono BU1.out.size))
     clear hb_
     refine hK.out _ _ (HS.out _ BU2.out) (fun hHeld=>?_)
     clear hK K
     refine no_ 144 ?_
     refine pu_ 39 145 ?_
     refine pu_ 40 146 ?_
     refine done_ (by kernel_rfl) ?_
     go_wp2_with fail
     go_roundw
     case rel=>exact ⟨j+1,hlt,by go_num,HBD.out.trans (BU2.out.mono HBD.out.size)⟩
     case measure=>simp [intOf];omega
    ·have b1:decide ((j:Int)<(x.f1.length:Int))=false:=df__ (by omega)
     have b2:decide (j<x.f1.length)=false:=df__ hlt
     have HBE:=Sd.m hb
     clear hb
     go_wp2_with fail
     go_ret
     exact ⟨rfl,HBY.out.trans (HBE.out.mono HBY.out.size)⟩
end L
end Go.Proofs.YthfceiincmkccaaGreat
