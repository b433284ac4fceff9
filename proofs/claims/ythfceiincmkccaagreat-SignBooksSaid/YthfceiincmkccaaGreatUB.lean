/- What law SignBooks reaches, part 2: words and walks over rows and regions. -/
import Derived.Test.YthfceiincmkccaaGreatUA
import Derived.Deep.DeepMust
import Derived.IntWalk
import Derived.Deep.QuietTactic
import Derived.BigQuiet
import Derived.Lib.Hide
import Derived.Lib.OwnBridge
import Derived.Outline
import Derived.Deep.RegionLaw
import Derived.StillTailTactics
import Derived.Great.Walk
set_option linter.unusedVariables false
set_option linter.unusedSimpArgs false
set_option maxHeartbeats 8000000
set_option maxRecDepth 100000
open Go.RowKit Go.Proofs.YthfceiincmkccaaGreatW.PrintWords Go.Proofs.YthfceiincmkccaaGreatW.PrintLast Go.Proofs.YthfceiincmkccaaGreatW.PrintMore
namespace Go.Proofs.YthfceiincmkccaaGreat
namespace A
attribute [local go_sem] ct_ cq_ dh_ dg_ ch_ cg_ cr_ cp_
attribute [local go_sem high] eqA74
def bw_.l0:Nat->Int->List (S173)->List (S74)->Int->Int->Option ((List (S173)))
 | 0,_,_,_,_,_=>none
 | k+1,x1,x5,x13,x14,x15=>if x15<x14 then (if 0<=x15 then (if x15<(x13.length:Int) then (if (mx 0 ((al_ x13 x15).f0))<=(mn 1114111 ((al_ x13 x15).f1)) then ((some (([(⟨mx 0 ((al_ x13 x15).f0),x1,1⟩:S173),(⟨wrap64 ((mn 1114111 ((al_ x13 x15).f1))+1),x1,(-1)⟩:S173)]:List (S173)):List (S173))).bind fun y103=>(if x5.length+y103.length<5864062014805 then (bw_.l0 k x1 (x5 ++ y103) x13 x14 (wrap64 (x15+1))) else (none))) else (bw_.l0 k x1 x5 x13 x14 (wrap64 (x15+1)))) else (none)) else (none)) else (some x5)
def bw_.f (k:Nat)(l0:List (S74))(a1:Int):Option ((List (S173))):=if (l0.length:Int)>400 then (some ([]:List (S173))) else (bw_.l0 k a1 ([]:List (S173)) l0 (l0.length:Int) 0)
theorem bw_.calls (k:Nat)(A0:Option Addr)(c0:Nat)(l0:List (S74))(a1:Int)(r:List (S173))(w:World)(hr0:Kd.C k74 w A0 l0.length l0)(hc0:l0.length<=c0)(h:bw_.f k l0 a1=some r):
  Calls Tryz.prog 138 #[.slice A0 l0.length c0,.int .i64 a1] w fun e w'=> ∃ v0_:Value,e=.returned (v0_)∧Kd.R k173 173 w' w.heap.size (fun _=>True) v0_ r∧Below w.heap.size w w':=by
 have hu74:=Tryz.underlying74;have hu173:=Tryz.underlying173;have HR0:=Sd.m hr0;have HC0:=Sd.m hc0;clear hr0 hc0;have HB:=Sd.m (Below.refl w.heap.size w);have H:(if (l0.length:Int)>400 then (some ([]:List (S173))) else (bw_.l0 k a1 ([]:List (S173)) l0 (l0.length:Int) 0))=some r:=h;clear h;by_cases c3:(l0.length:Int)>400
 ·rw [if_pos c3] at H;have c3b0:=dt__ c3;have c3b1:decide (400<l0.length)=true:=dt__ (by omega);clear c3;obtain rfl:=Option.some.inj H;go_enter Tryz.func138,Tryz.ntmps138;go_wp2
  repeat (go_quiet (fail);try go_wp2)
  go_ret;exact ⟨_,re_,by first | exact Kd.R_nil _ _ _ _ _ | exact Kd.N_nil _ _ _ _ _ | exact Kd.V_nil _ _ _ _ _ | exact Kd.Q_nil _ _ _ _ _ | exact Kd.S_nil _ _ _ _ _,rb_⟩
 ·rw [if_neg c3] at H;have c3b0:=df__ c3;have c3b1:decide (400<l0.length)=false:=df__ (by omega);clear c3;have H':=Sd.m H;clear H;go_enter Tryz.func138,Tryz.ntmps138;go_wp2
  repeat (go_quiet (fail);try go_wp2)
  go_loopg [5,15] k (fun kq v5 v15 w'=> ∃ (x5_1:List (S173)) (x15_1:Int),v15=.int .i64 x15_1∧Sd (bw_.l0 kq a1 x5_1 l0 (l0.length:Int) x15_1=some r)∧Sd (kq<=k)∧Sd (Kd.R k173 173 w' w.heap.size (fun _=>True) v5 x5_1)∧Sd (Below w.heap.size w w'))
  case atStart=>exact ⟨(([]:List (S173))),(0),ri_,H',⟨Nat.le_refl _⟩,⟨by first | exact Kd.R_nil _ _ _ _ _ | exact Kd.N_nil _ _ _ _ _ | exact Kd.V_nil _ _ _ _ _ | exact Kd.Q_nil _ _ _ _ _ | exact Kd.S_nil _ _ _ _ _⟩,⟨rb_⟩⟩
  case round=>
   clear H';obtain ⟨x5_1,x15_1,rfl,HA,HK1,HO_5,HB⟩:=hrel;cases gk with
   | zero=>exact absurd HA.out (by simp [bw_.l0])
   | succ k1=>
    have H:=HA.out;clear HA;simp only [bw_.l0] at H;by_cases c4:x15_1<(l0.length:Int)
    ·rw [if_pos c4] at H;have c4b0:=dt__ c4;clear c4;by_cases c5:0<=x15_1
     ·rw [if_pos c5] at H;have c5b0:=dt__ c5;clear c5;by_cases c6:x15_1<(l0.length:Int)
      ·rw [if_pos c6] at H;have c6b0:=dt__ c6;clear c6;obtain ⟨ji7,hji7⟩: ∃ j_:Int,(mx 0 ((al_ l0 x15_1).f0))=j_:=⟨_,rfl⟩;replace H:(if (ji7)<=(mn 1114111 ((al_ l0 x15_1).f1)) then ((some (([(⟨ji7,a1,1⟩:S173),(⟨wrap64 ((mn 1114111 ((al_ l0 x15_1).f1))+1),a1,(-1)⟩:S173)]:List (S173)):List (S173))).bind fun y103=>(if x5_1.length+y103.length<5864062014805 then (bw_.l0 k1 a1 (x5_1 ++ y103) l0 (l0.length:Int) (wrap64 (x15_1+1))) else (none))) else (bw_.l0 k1 a1 x5_1 l0 (l0.length:Int) (wrap64 (x15_1+1))))=some r:=by first | (rw [hji7] at H;exact H) | (simp only [hji7] at H ⊢;exact H)
       have hji7_:(if 0<((al_ l0 x15_1).f0) then ((al_ l0 x15_1).f0) else 0)=ji7:=hji7;obtain ⟨ji8,hji8⟩: ∃ j_:Int,(mn 1114111 ((al_ l0 x15_1).f1))=j_:=⟨_,rfl⟩;replace H:(if (ji7)<=(ji8) then ((some (([(⟨ji7,a1,1⟩:S173),(⟨wrap64 ((ji8)+1),a1,(-1)⟩:S173)]:List (S173)):List (S173))).bind fun y103=>(if x5_1.length+y103.length<5864062014805 then (bw_.l0 k1 a1 (x5_1 ++ y103) l0 (l0.length:Int) (wrap64 (x15_1+1))) else (none))) else (bw_.l0 k1 a1 x5_1 l0 (l0.length:Int) (wrap64 (x15_1+1))))=some r:=by first | (rw [hji8] at H;exact H) | (simp only [hji8] at H ⊢;exact H)
       have hji8_:(if ((al_ l0 x15_1).f1)<1114111 then ((al_ l0 x15_1).f1) else 1114111)=ji8:=hji8;by_cases c9:(ji7)<=(ji8)
       ·rw [if_pos c9] at H;have c9b0:=dt__ c9;clear c9;obtain ⟨y103,hy103⟩: ∃ y_:List (S173),y_=(([(⟨ji7,a1,1⟩:S173),(⟨wrap64 ((ji8)+1),a1,(-1)⟩:S173)]:List (S173))):=⟨_,rfl⟩;replace H:(if x5_1.length+y103.length<5864062014805 then (bw_.l0 k1 a1 (x5_1 ++ y103) l0 (l0.length:Int) (wrap64 (x15_1+1))) else (none))=some r:=by first | (rw [hy103];with_reducible exact H) | (have H2_:=(Option.bind_some _ _).symm.trans H;rw [hy103];with_reducible exact H2_) | (have H2_:=(Option.bind_some _ _).symm.trans H;with_reducible exact H2_) | with_reducible exact H | (rw [hy103];exact H) | exact H
        have Ny103:=Sd.m hy103;clear hy103;by_cases c10:x5_1.length+y103.length<5864062014805
        ·rw [if_pos c10] at H;have LMc10:=Sd.m c10;clear c10;obtain ⟨y106,hy106⟩: ∃ y_:List (S173),y_=(x5_1 ++ y103):=⟨_,rfl⟩;replace H:(bw_.l0 k1 a1 y106 l0 (l0.length:Int) (wrap64 (x15_1+1)))=some r:=by first | (rw [hy106];with_reducible exact H) | (have H2_:=(Option.bind_some _ _).symm.trans H;rw [hy106];with_reducible exact H2_) | (have H2_:=(Option.bind_some _ _).symm.trans H;with_reducible exact H2_) | with_reducible exact H | (rw [hy106];exact H) | exact H
         have Ny106:=Sd.m hy106;clear hy106;have H':=Sd.m H;clear H;have p101:0<=(x15_1:Int):=od_;have q101:x15_1<(l0.length:Int):=od_;obtain ⟨ad101,e101,hx101_0,hx101_1⟩:=ec_ HR0.out x15_1 p101 q101;cases e101;replace hx101_0:=(HB.out.cell (bl__ w _ hx101_0)).trans hx101_0;replace hx101_1:=(HB.out.cell (bl__ w _ hx101_1)).trans hx101_1;replace p101:=eq_true p101;replace q101:=eq_true q101;go_wp2_with (first | ((with_reducible refine co_ (N:=7) rfl ?_);refine di_ ?hg (N:=7) ?hd (cs:=#[.int .i64 0,.int .i64 0]) (t:=74) ?hr ?_;(case hd=>rfl);(case hg=>rfl);(case hr=>first | (go_simp;done) | (go_simp;rfl));intro gb102 hg w11 hbox hb;have n0_:=Sd.m (Kd.R_below (rr_ HO_5.out) hb);have n1_:=Sd.m (av_ rb_ hb);have n2_:=Sd.m (hbox);have n3_:=Sd.m ((by rw [hg];exact (ap_ rb_):w.heap.size<=gb102));have n4_:=Sd.m ((by rw [hg];exact (ap_ rb_):w.heap.size<=gb102));clear HO_5;clear HB;have HO_5:=n0_;have HB:=n1_;have BK102:=n2_;have GW102:=n3_;have GE102:=n4_;clear n0_ n1_ n2_ n3_ n4_;clear hb hbox hg;have hcz12_0:w11.cell? ⟨gb102,0,none⟩=some (.int .i64 0):=(af_ BK102.out 0).trans rfl;have hcz12_1:w11.cell? ⟨gb102,1,none⟩=some (.int .i64 0):=(af_ BK102.out 1).trans rfl;have hfz12_0:=aa_ BK102.out 0;have hfz12_1:=aa_ BK102.out 1) | ((with_reducible refine co_ (N:=36) rfl ?_);refine Kd.R_lit k173 _ 173 ?hg (N:=36) ?hd (xs:=([(⟨ji7,a1,1⟩:S173),(⟨wrap64 ((ji8)+1),a1,(-1)⟩:S173)]:List (S173))) (inner:=[.int .i64 ji7,.int .i64 a1,.int .i64 1,.int .i64 (wrap64 ((ji8)+1)),.int .i64 a1,.int .i64 (-1)]) (ok:=fun _=>True) (okp:=fun _=>True) ?hr ?hp (fun _ hk=>hk) trivial (Below.refl _ _) (Nat.le_refl _) (by simp) ?_;(case hd=>rfl);(case hg=>rfl);(case hr=>first | (go_simp;done) | (go_simp;rfl));(case hp=>exact (Reps.c3 (show Kd.M k173 _ _ _ (⟨ji7,a1,1⟩:S173) [.int .i64 ji7,.int .i64 a1,.int .i64 1] from (fk_ _ _ _ (⟨ji7,a1,1⟩:S173) )) (Reps.c3 (show Kd.M k173 _ _ _ (⟨wrap64 ((ji8)+1),a1,(-1)⟩:S173) [.int .i64 (wrap64 ((ji8)+1)),.int .i64 a1,.int .i64 (-1)] from (fk_ _ _ _ (⟨wrap64 ((ji8)+1),a1,(-1)⟩:S173) )) (Reps.none _ _))));intro v104 w13 ho14 hb hg_ hnew_;clear hg_ hnew_;(first | rw [←Ny103.out] at ho14 | (simp only [Int.reduceToNat] at ho14;rw [←Ny103.out] at ho14));have n0_:=Sd.m (Kd.R_elder' (by (with_reducible repeat (first | apply Kd.R_alloc | apply Kd.R_drewN | apply Kd.R_drew));exact (Kd.R_mono (Kd.R_far (p:=⟨gb102,1,none⟩) (Kd.R_far (p:=⟨gb102,0,none⟩) (Kd.R_types HO_5.out BK102.out (by decide)) (fun _ hk=>hk.2) (.int .i64 ((al_ l0 x15_1).f0))) (fun _ hk=>hk.2) (.int .i64 ((al_ l0 x15_1).f1))) (fun _ h_=>h_.1))) (Kd.R_base ho14) hb);have n1_:=Sd.m (Kd.R_lower (Kd.R_new' ho14 (Kd.R_lt (by (with_reducible repeat (first | apply Kd.R_alloc | apply Kd.R_drewN | apply Kd.R_drew));exact (Kd.R_mono (Kd.R_far (p:=⟨gb102,1,none⟩) (Kd.R_far (p:=⟨gb102,0,none⟩) (Kd.R_types HO_5.out BK102.out (by decide)) (fun _ hk=>hk.2) (.int .i64 ((al_ l0 x15_1).f0))) (fun _ hk=>hk.2) (.int .i64 ((al_ l0 x15_1).f1))) (fun _ h_=>h_.1))))) (ap_ (by repeat (first | (with_reducible first | exact HB.out | apply ab_ | apply ad_ | apply au_ | refine bb_ ?_ GE102.out) | exact HB.out))));have n2_:=Sd.m (ag_ (g:=gb102) (o:=.cells #[.int .i64 ((al_ l0 x15_1).f0),.int .i64 ((al_ l0 x15_1).f1)] 74 (0,0)) (by (with_reducible repeat (first | refine ba_ ?_ _ | refine bl_ ?_ | refine am_ ?_ _));refine cj_ (cs:=#[.int .i64 ((al_ l0 x15_1).f0),.int .i64 0]) ?_ 1 _ rfl;(with_reducible repeat (first | refine ba_ ?_ _ | refine bl_ ?_ | refine am_ ?_ _));refine cj_ (cs:=#[.int .i64 0,.int .i64 0]) ?_ 0 _ rfl;(with_reducible repeat (first | refine ba_ ?_ _ | refine bl_ ?_ | refine am_ ?_ _));exact BK102.out) hb);have n3_:=Sd.m (av_ (by repeat (first | (with_reducible first | exact HB.out | apply ab_ | apply ad_ | apply au_ | refine bb_ ?_ GE102.out) | exact HB.out)) hb);clear HO_5;clear BK102;clear HB;have HO_5:=n0_;have HO105:=n1_;have BK102:=n2_;have HB:=n3_;clear n0_ n1_ n2_ n3_;clear hb ho14;obtain ⟨Ao16,co16,eo16⟩:=Kd.R_slice HO105.out;subst eo16) | ((with_reducible refine bi_ (b:=.append) (xs:=#[.tmp 28,.tmp 36]) rfl ?_);at_builtin;refine Kd.R_append_rows k173 (w0:=w) w.heap.size rfl (.tmp 28) (.tmp 36) 169 173 (.agg #[(.int .i64 0),(.int .i64 0),(.int .i64 0)]) 24 rfl Tryz.underlying169 info173 rfl (by decide) (by omega) u5 x5_1 y103 _ _ _ (fun k_=>some k_≠(.slice Ao16 y103.length co16:Value).ownBlock) (fun _=>False) rfl rfl ?aO ?aR (fun _ _ h=>h) (fun _ h=>h.elim) ?aF ?aB ?aS ?aL ?_;(case aR=>repeat (first | exact (Kd.R_reads' HO105.out).2.2 | (with_reducible refine Kd.C_alloc ?_ _) | (with_reducible refine Kd.C_drewN ?_ _) | (with_reducible refine Kd.C_drew ?_)));(case aB=>exact (by repeat (first | (with_reducible first | exact HB.out | apply ab_ | apply ad_ | apply au_ | refine bb_ ?_ GE102.out) | exact HB.out)));(case aF=>exact (fun k_ hk=>Kd.fresh' (Kd.R_lt (rr_ HO105.out)) k_ hk));(case aO=>exact (by (with_reducible repeat (first | apply Kd.R_alloc | apply Kd.R_drewN | apply Kd.R_drew));exact Kd.R_mono HO_5.out (fun _ hk=>hk.2)));(case aS=>exact (ap_ (by repeat (first | (with_reducible first | exact HB.out | apply ab_ | apply ad_ | apply au_ | refine bb_ ?_ GE102.out) | exact HB.out))));(case aL=>have:=LMc10.out;omega);intro v107 w15 ho hb hg hat;rw [←Ny106.out] at ho;have n0_:=Sd.m (cl_ (g:=gb102) (o:=.cells #[.int .i64 ((al_ l0 x15_1).f0),.int .i64 ((al_ l0 x15_1).f1)] 74 (0,0)) (by (with_reducible repeat (first | refine ba_ ?_ _ | refine bl_ ?_ | refine am_ ?_ _));exact BK102.out) hg (Kd.R_ne HO_5.out BK102.out (by decide)));have n1_:=Sd.m (Kd.R_after (ok:=(fun _=>True)) (rr_ HO105.out) hg hat);have n2_:=Sd.m (hb);have n3_:=Sd.m (ho);clear BK102;clear HO105;clear HB;clear HO_5;have BK102:=n0_;have HO105:=n1_;have HB:=n2_;have HO108:=n3_;clear n0_ n1_ n2_ n3_;clear ho hb hg hat))
         repeat (go_quiet (first | ((with_reducible refine co_ (N:=7) rfl ?_);refine di_ ?hg (N:=7) ?hd (cs:=#[.int .i64 0,.int .i64 0]) (t:=74) ?hr ?_;(case hd=>rfl);(case hg=>rfl);(case hr=>first | (go_simp;done) | (go_simp;rfl));intro gb102 hg w11 hbox hb;have n0_:=Sd.m (Kd.R_below (rr_ HO_5.out) hb);have n1_:=Sd.m (av_ rb_ hb);have n2_:=Sd.m (hbox);have n3_:=Sd.m ((by rw [hg];exact (ap_ rb_):w.heap.size<=gb102));have n4_:=Sd.m ((by rw [hg];exact (ap_ rb_):w.heap.size<=gb102));clear HO_5;clear HB;have HO_5:=n0_;have HB:=n1_;have BK102:=n2_;have GW102:=n3_;have GE102:=n4_;clear n0_ n1_ n2_ n3_ n4_;clear hb hbox hg;have hcz12_0:w11.cell? ⟨gb102,0,none⟩=some (.int .i64 0):=(af_ BK102.out 0).trans rfl;have hcz12_1:w11.cell? ⟨gb102,1,none⟩=some (.int .i64 0):=(af_ BK102.out 1).trans rfl;have hfz12_0:=aa_ BK102.out 0;have hfz12_1:=aa_ BK102.out 1) | ((with_reducible refine co_ (N:=36) rfl ?_);refine Kd.R_lit k173 _ 173 ?hg (N:=36) ?hd (xs:=([(⟨ji7,a1,1⟩:S173),(⟨wrap64 ((ji8)+1),a1,(-1)⟩:S173)]:List (S173))) (inner:=[.int .i64 ji7,.int .i64 a1,.int .i64 1,.int .i64 (wrap64 ((ji8)+1)),.int .i64 a1,.int .i64 (-1)]) (ok:=fun _=>True) (okp:=fun _=>True) ?hr ?hp (fun _ hk=>hk) trivial (Below.refl _ _) (Nat.le_refl _) (by simp) ?_;(case hd=>rfl);(case hg=>rfl);(case hr=>first | (go_simp;done) | (go_simp;rfl));(case hp=>exact (Reps.c3 (show Kd.M k173 _ _ _ (⟨ji7,a1,1⟩:S173) [.int .i64 ji7,.int .i64 a1,.int .i64 1] from (fk_ _ _ _ (⟨ji7,a1,1⟩:S173) )) (Reps.c3 (show Kd.M k173 _ _ _ (⟨wrap64 ((ji8)+1),a1,(-1)⟩:S173) [.int .i64 (wrap64 ((ji8)+1)),.int .i64 a1,.int .i64 (-1)] from (fk_ _ _ _ (⟨wrap64 ((ji8)+1),a1,(-1)⟩:S173) )) (Reps.none _ _))));intro v104 w13 ho14 hb hg_ hnew_;clear hg_ hnew_;(first | rw [←Ny103.out] at ho14 | (simp only [Int.reduceToNat] at ho14;rw [←Ny103.out] at ho14));have n0_:=Sd.m (Kd.R_elder' (by (with_reducible repeat (first | apply Kd.R_alloc | apply Kd.R_drewN | apply Kd.R_drew));exact (Kd.R_mono (Kd.R_far (p:=⟨gb102,1,none⟩) (Kd.R_far (p:=⟨gb102,0,none⟩) (Kd.R_types HO_5.out BK102.out (by decide)) (fun _ hk=>hk.2) (.int .i64 ((al_ l0 x15_1).f0))) (fun _ hk=>hk.2) (.int .i64 ((al_ l0 x15_1).f1))) (fun _ h_=>h_.1))) (Kd.R_base ho14) hb);have n1_:=Sd.m (Kd.R_lower (Kd.R_new' ho14 (Kd.R_lt (by (with_reducible repeat (first | apply Kd.R_alloc | apply Kd.R_drewN | apply Kd.R_drew));exact (Kd.R_mono (Kd.R_far (p:=⟨gb102,1,none⟩) (Kd.R_far (p:=⟨gb102,0,none⟩) (Kd.R_types HO_5.out BK102.out (by decide)) (fun _ hk=>hk.2) (.int .i64 ((al_ l0 x15_1).f0))) (fun _ hk=>hk.2) (.int .i64 ((al_ l0 x15_1).f1))) (fun _ h_=>h_.1))))) (ap_ (by repeat (first | (with_reducible first | exact HB.out | apply ab_ | apply ad_ | apply au_ | refine bb_ ?_ GE102.out) | exact HB.out))));have n2_:=Sd.m (ag_ (g:=gb102) (o:=.cells #[.int .i64 ((al_ l0 x15_1).f0),.int .i64 ((al_ l0 x15_1).f1)] 74 (0,0)) (by (with_reducible repeat (first | refine ba_ ?_ _ | refine bl_ ?_ | refine am_ ?_ _));refine cj_ (cs:=#[.int .i64 ((al_ l0 x15_1).f0),.int .i64 0]) ?_ 1 _ rfl;(with_reducible repeat (first | refine ba_ ?_ _ | refine bl_ ?_ | refine am_ ?_ _));refine cj_ (cs:=#[.int .i64 0,.int .i64 0]) ?_ 0 _ rfl;(with_reducible repeat (first | refine ba_ ?_ _ | refine bl_ ?_ | refine am_ ?_ _));exact BK102.out) hb);have n3_:=Sd.m (av_ (by repeat (first | (with_reducible first | exact HB.out | apply ab_ | apply ad_ | apply au_ | refine bb_ ?_ GE102.out) | exact HB.out)) hb);clear HO_5;clear BK102;clear HB;have HO_5:=n0_;have HO105:=n1_;have BK102:=n2_;have HB:=n3_;clear n0_ n1_ n2_ n3_;clear hb ho14;obtain ⟨Ao16,co16,eo16⟩:=Kd.R_slice HO105.out;subst eo16) | ((with_reducible refine bi_ (b:=.append) (xs:=#[.tmp 28,.tmp 36]) rfl ?_);at_builtin;refine Kd.R_append_rows k173 (w0:=w) w.heap.size rfl (.tmp 28) (.tmp 36) 169 173 (.agg #[(.int .i64 0),(.int .i64 0),(.int .i64 0)]) 24 rfl Tryz.underlying169 info173 rfl (by decide) (by omega) u5 x5_1 y103 _ _ _ (fun k_=>some k_≠(.slice Ao16 y103.length co16:Value).ownBlock) (fun _=>False) rfl rfl ?aO ?aR (fun _ _ h=>h) (fun _ h=>h.elim) ?aF ?aB ?aS ?aL ?_;(case aR=>repeat (first | exact (Kd.R_reads' HO105.out).2.2 | (with_reducible refine Kd.C_alloc ?_ _) | (with_reducible refine Kd.C_drewN ?_ _) | (with_reducible refine Kd.C_drew ?_)));(case aB=>exact (by repeat (first | (with_reducible first | exact HB.out | apply ab_ | apply ad_ | apply au_ | refine bb_ ?_ GE102.out) | exact HB.out)));(case aF=>exact (fun k_ hk=>Kd.fresh' (Kd.R_lt (rr_ HO105.out)) k_ hk));(case aO=>exact (by (with_reducible repeat (first | apply Kd.R_alloc | apply Kd.R_drewN | apply Kd.R_drew));exact Kd.R_mono HO_5.out (fun _ hk=>hk.2)));(case aS=>exact (ap_ (by repeat (first | (with_reducible first | exact HB.out | apply ab_ | apply ad_ | apply au_ | refine bb_ ?_ GE102.out) | exact HB.out))));(case aL=>have:=LMc10.out;omega);intro v107 w15 ho hb hg hat;rw [←Ny106.out] at ho;have n0_:=Sd.m (cl_ (g:=gb102) (o:=.cells #[.int .i64 ((al_ l0 x15_1).f0),.int .i64 ((al_ l0 x15_1).f1)] 74 (0,0)) (by (with_reducible repeat (first | refine ba_ ?_ _ | refine bl_ ?_ | refine am_ ?_ _));exact BK102.out) hg (Kd.R_ne HO_5.out BK102.out (by decide)));have n1_:=Sd.m (Kd.R_after (ok:=(fun _=>True)) (rr_ HO105.out) hg hat);have n2_:=Sd.m (hb);have n3_:=Sd.m (ho);clear BK102;clear HO105;clear HB;clear HO_5;have BK102:=n0_;have HO105:=n1_;have HB:=n2_;have HO108:=n3_;clear n0_ n1_ n2_ n3_;clear ho hb hg hat));try go_wp2_with (first | ((with_reducible refine co_ (N:=7) rfl ?_);refine di_ ?hg (N:=7) ?hd (cs:=#[.int .i64 0,.int .i64 0]) (t:=74) ?hr ?_;(case hd=>rfl);(case hg=>rfl);(case hr=>first | (go_simp;done) | (go_simp;rfl));intro gb102 hg w11 hbox hb;have n0_:=Sd.m (Kd.R_below (rr_ HO_5.out) hb);have n1_:=Sd.m (av_ rb_ hb);have n2_:=Sd.m (hbox);have n3_:=Sd.m ((by rw [hg];exact (ap_ rb_):w.heap.size<=gb102));have n4_:=Sd.m ((by rw [hg];exact (ap_ rb_):w.heap.size<=gb102));clear HO_5;clear HB;have HO_5:=n0_;have HB:=n1_;have BK102:=n2_;have GW102:=n3_;have GE102:=n4_;clear n0_ n1_ n2_ n3_ n4_;clear hb hbox hg;have hcz12_0:w11.cell? ⟨gb102,0,none⟩=some (.int .i64 0):=(af_ BK102.out 0).trans rfl;have hcz12_1:w11.cell? ⟨gb102,1,none⟩=some (.int .i64 0):=(af_ BK102.out 1).trans rfl;have hfz12_0:=aa_ BK102.out 0;have hfz12_1:=aa_ BK102.out 1) | ((with_reducible refine co_ (N:=36) rfl ?_);refine Kd.R_lit k173 _ 173 ?hg (N:=36) ?hd (xs:=([(⟨ji7,a1,1⟩:S173),(⟨wrap64 ((ji8)+1),a1,(-1)⟩:S173)]:List (S173))) (inner:=[.int .i64 ji7,.int .i64 a1,.int .i64 1,.int .i64 (wrap64 ((ji8)+1)),.int .i64 a1,.int .i64 (-1)]) (ok:=fun _=>True) (okp:=fun _=>True) ?hr ?hp (fun _ hk=>hk) trivial (Below.refl _ _) (Nat.le_refl _) (by simp) ?_;(case hd=>rfl);(case hg=>rfl);(case hr=>first | (go_simp;done) | (go_simp;rfl));(case hp=>exact (Reps.c3 (show Kd.M k173 _ _ _ (⟨ji7,a1,1⟩:S173) [.int .i64 ji7,.int .i64 a1,.int .i64 1] from (fk_ _ _ _ (⟨ji7,a1,1⟩:S173) )) (Reps.c3 (show Kd.M k173 _ _ _ (⟨wrap64 ((ji8)+1),a1,(-1)⟩:S173) [.int .i64 (wrap64 ((ji8)+1)),.int .i64 a1,.int .i64 (-1)] from (fk_ _ _ _ (⟨wrap64 ((ji8)+1),a1,(-1)⟩:S173) )) (Reps.none _ _))));intro v104 w13 ho14 hb hg_ hnew_;clear hg_ hnew_;(first | rw [←Ny103.out] at ho14 | (simp only [Int.reduceToNat] at ho14;rw [←Ny103.out] at ho14));have n0_:=Sd.m (Kd.R_elder' (by (with_reducible repeat (first | apply Kd.R_alloc | apply Kd.R_drewN | apply Kd.R_drew));exact (Kd.R_mono (Kd.R_far (p:=⟨gb102,1,none⟩) (Kd.R_far (p:=⟨gb102,0,none⟩) (Kd.R_types HO_5.out BK102.out (by decide)) (fun _ hk=>hk.2) (.int .i64 ((al_ l0 x15_1).f0))) (fun _ hk=>hk.2) (.int .i64 ((al_ l0 x15_1).f1))) (fun _ h_=>h_.1))) (Kd.R_base ho14) hb);have n1_:=Sd.m (Kd.R_lower (Kd.R_new' ho14 (Kd.R_lt (by (with_reducible repeat (first | apply Kd.R_alloc | apply Kd.R_drewN | apply Kd.R_drew));exact (Kd.R_mono (Kd.R_far (p:=⟨gb102,1,none⟩) (Kd.R_far (p:=⟨gb102,0,none⟩) (Kd.R_types HO_5.out BK102.out (by decide)) (fun _ hk=>hk.2) (.int .i64 ((al_ l0 x15_1).f0))) (fun _ hk=>hk.2) (.int .i64 ((al_ l0 x15_1).f1))) (fun _ h_=>h_.1))))) (ap_ (by repeat (first | (with_reducible first | exact HB.out | apply ab_ | apply ad_ | apply au_ | refine bb_ ?_ GE102.out) | exact HB.out))));have n2_:=Sd.m (ag_ (g:=gb102) (o:=.cells #[.int .i64 ((al_ l0 x15_1).f0),.int .i64 ((al_ l0 x15_1).f1)] 74 (0,0)) (by (with_reducible repeat (first | refine ba_ ?_ _ | refine bl_ ?_ | refine am_ ?_ _));refine cj_ (cs:=#[.int .i64 ((al_ l0 x15_1).f0),.int .i64 0]) ?_ 1 _ rfl;(with_reducible repeat (first | refine ba_ ?_ _ | refine bl_ ?_ | refine am_ ?_ _));refine cj_ (cs:=#[.int .i64 0,.int .i64 0]) ?_ 0 _ rfl;(with_reducible repeat (first | refine ba_ ?_ _ | refine bl_ ?_ | refine am_ ?_ _));exact BK102.out) hb);have n3_:=Sd.m (av_ (by repeat (first | (with_reducible first | exact HB.out | apply ab_ | apply ad_ | apply au_ | refine bb_ ?_ GE102.out) | exact HB.out)) hb);clear HO_5;clear BK102;clear HB;have HO_5:=n0_;have HO105:=n1_;have BK102:=n2_;have HB:=n3_;clear n0_ n1_ n2_ n3_;clear hb ho14;obtain ⟨Ao16,co16,eo16⟩:=Kd.R_slice HO105.out;subst eo16) | ((with_reducible refine bi_ (b:=.append) (xs:=#[.tmp 28,.tmp 36]) rfl ?_);at_builtin;refine Kd.R_append_rows k173 (w0:=w) w.heap.size rfl (.tmp 28) (.tmp 36) 169 173 (.agg #[(.int .i64 0),(.int .i64 0),(.int .i64 0)]) 24 rfl Tryz.underlying169 info173 rfl (by decide) (by omega) u5 x5_1 y103 _ _ _ (fun k_=>some k_≠(.slice Ao16 y103.length co16:Value).ownBlock) (fun _=>False) rfl rfl ?aO ?aR (fun _ _ h=>h) (fun _ h=>h.elim) ?aF ?aB ?aS ?aL ?_;(case aR=>repeat (first | exact (Kd.R_reads' HO105.out).2.2 | (with_reducible refine Kd.C_alloc ?_ _) | (with_reducible refine Kd.C_drewN ?_ _) | (with_reducible refine Kd.C_drew ?_)));(case aB=>exact (by repeat (first | (with_reducible first | exact HB.out | apply ab_ | apply ad_ | apply au_ | refine bb_ ?_ GE102.out) | exact HB.out)));(case aF=>exact (fun k_ hk=>Kd.fresh' (Kd.R_lt (rr_ HO105.out)) k_ hk));(case aO=>exact (by (with_reducible repeat (first | apply Kd.R_alloc | apply Kd.R_drewN | apply Kd.R_drew));exact Kd.R_mono HO_5.out (fun _ hk=>hk.2)));(case aS=>exact (ap_ (by repeat (first | (with_reducible first | exact HB.out | apply ab_ | apply ad_ | apply au_ | refine bb_ ?_ GE102.out) | exact HB.out))));(case aL=>have:=LMc10.out;omega);intro v107 w15 ho hb hg hat;rw [←Ny106.out] at ho;have n0_:=Sd.m (cl_ (g:=gb102) (o:=.cells #[.int .i64 ((al_ l0 x15_1).f0),.int .i64 ((al_ l0 x15_1).f1)] 74 (0,0)) (by (with_reducible repeat (first | refine ba_ ?_ _ | refine bl_ ?_ | refine am_ ?_ _));exact BK102.out) hg (Kd.R_ne HO_5.out BK102.out (by decide)));have n1_:=Sd.m (Kd.R_after (ok:=(fun _=>True)) (rr_ HO105.out) hg hat);have n2_:=Sd.m (hb);have n3_:=Sd.m (ho);clear BK102;clear HO105;clear HB;clear HO_5;have BK102:=n0_;have HO105:=n1_;have HB:=n2_;have HO108:=n3_;clear n0_ n1_ n2_ n3_;clear ho hb hg hat)))
         go_roundg k1
         case measure=>have:=HK1.out;omega
         case rel=>exact ⟨(y106),(wrap64 (x15_1+1)),ri_,H',⟨by have:=HK1.out;omega⟩,⟨by (with_reducible repeat (first | apply Kd.R_alloc | apply Kd.R_drewN | apply Kd.R_drew));exact Kd.R_mono HO108.out (fun _ hk=>trivial)⟩,⟨by repeat (first | (with_reducible first | exact HB.out | apply ab_ | apply ad_ | apply au_ | refine bb_ ?_ GE102.out) | exact HB.out)⟩⟩
        ·rw [if_neg c10] at H;exact absurd H (by simp)
       ·rw [if_neg c9] at H;have c9b0:=df__ c9;clear c9;have H':=Sd.m H;clear H;have p101:0<=(x15_1:Int):=od_;have q101:x15_1<(l0.length:Int):=od_;obtain ⟨ad101,e101,hx101_0,hx101_1⟩:=ec_ HR0.out x15_1 p101 q101;cases e101;replace hx101_0:=(HB.out.cell (bl__ w _ hx101_0)).trans hx101_0;replace hx101_1:=(HB.out.cell (bl__ w _ hx101_1)).trans hx101_1;replace p101:=eq_true p101;replace q101:=eq_true q101;go_wp2_with (first | ((with_reducible refine co_ (N:=7) rfl ?_);refine di_ ?hg (N:=7) ?hd (cs:=#[.int .i64 0,.int .i64 0]) (t:=74) ?hr ?_;(case hd=>rfl);(case hg=>rfl);(case hr=>first | (go_simp;done) | (go_simp;rfl));intro gb102 hg w17 hbox hb;have n0_:=Sd.m (Kd.R_below (rr_ HO_5.out) hb);have n1_:=Sd.m (av_ rb_ hb);have n2_:=Sd.m (hbox);have n3_:=Sd.m ((by rw [hg];exact (ap_ rb_):w.heap.size<=gb102));have n4_:=Sd.m ((by rw [hg];exact (ap_ rb_):w.heap.size<=gb102));clear HO_5;clear HB;have HO_5:=n0_;have HB:=n1_;have BK102:=n2_;have GW102:=n3_;have GE102:=n4_;clear n0_ n1_ n2_ n3_ n4_;clear hb hbox hg;have hcz18_0:w17.cell? ⟨gb102,0,none⟩=some (.int .i64 0):=(af_ BK102.out 0).trans rfl;have hcz18_1:w17.cell? ⟨gb102,1,none⟩=some (.int .i64 0):=(af_ BK102.out 1).trans rfl;have hfz18_0:=aa_ BK102.out 0;have hfz18_1:=aa_ BK102.out 1))
        repeat (go_quiet (first | ((with_reducible refine co_ (N:=7) rfl ?_);refine di_ ?hg (N:=7) ?hd (cs:=#[.int .i64 0,.int .i64 0]) (t:=74) ?hr ?_;(case hd=>rfl);(case hg=>rfl);(case hr=>first | (go_simp;done) | (go_simp;rfl));intro gb102 hg w17 hbox hb;have n0_:=Sd.m (Kd.R_below (rr_ HO_5.out) hb);have n1_:=Sd.m (av_ rb_ hb);have n2_:=Sd.m (hbox);have n3_:=Sd.m ((by rw [hg];exact (ap_ rb_):w.heap.size<=gb102));have n4_:=Sd.m ((by rw [hg];exact (ap_ rb_):w.heap.size<=gb102));clear HO_5;clear HB;have HO_5:=n0_;have HB:=n1_;have BK102:=n2_;have GW102:=n3_;have GE102:=n4_;clear n0_ n1_ n2_ n3_ n4_;clear hb hbox hg;have hcz18_0:w17.cell? ⟨gb102,0,none⟩=some (.int .i64 0):=(af_ BK102.out 0).trans rfl;have hcz18_1:w17.cell? ⟨gb102,1,none⟩=some (.int .i64 0):=(af_ BK102.out 1).trans rfl;have hfz18_0:=aa_ BK102.out 0;have hfz18_1:=aa_ BK102.out 1));try go_wp2_with (first | ((with_reducible refine co_ (N:=7) rfl ?_);refine di_ ?hg (N:=7) ?hd (cs:=#[.int .i64 0,.int .i64 0]) (t:=74) ?hr ?_;(case hd=>rfl);(case hg=>rfl);(case hr=>first | (go_simp;done) | (go_simp;rfl));intro gb102 hg w17 hbox hb;have n0_:=Sd.m (Kd.R_below (rr_ HO_5.out) hb);have n1_:=Sd.m (av_ rb_ hb);have n2_:=Sd.m (hbox);have n3_:=Sd.m ((by rw [hg];exact (ap_ rb_):w.heap.size<=gb102));have n4_:=Sd.m ((by rw [hg];exact (ap_ rb_):w.heap.size<=gb102));clear HO_5;clear HB;have HO_5:=n0_;have HB:=n1_;have BK102:=n2_;have GW102:=n3_;have GE102:=n4_;clear n0_ n1_ n2_ n3_ n4_;clear hb hbox hg;have hcz18_0:w17.cell? ⟨gb102,0,none⟩=some (.int .i64 0):=(af_ BK102.out 0).trans rfl;have hcz18_1:w17.cell? ⟨gb102,1,none⟩=some (.int .i64 0):=(af_ BK102.out 1).trans rfl;have hfz18_0:=aa_ BK102.out 0;have hfz18_1:=aa_ BK102.out 1)))
        go_roundg k1
        case measure=>have:=HK1.out;omega
        case rel=>exact ⟨(x5_1),(wrap64 (x15_1+1)),ri_,H',⟨by have:=HK1.out;omega⟩,⟨by (with_reducible repeat (first | apply Kd.R_alloc | apply Kd.R_drewN | apply Kd.R_drew));exact Kd.R_mono (Kd.R_far (p:=⟨gb102,1,none⟩) (Kd.R_far (p:=⟨gb102,0,none⟩) (Kd.R_types HO_5.out BK102.out (by decide)) (fun _ hk=>hk.2) (.int .i64 ((al_ l0 x15_1).f0))) (fun _ hk=>hk.2) (.int .i64 ((al_ l0 x15_1).f1))) (fun _ hk=>trivial)⟩,⟨by repeat (first | (with_reducible first | exact HB.out | apply ab_ | apply ad_ | apply au_ | refine bb_ ?_ GE102.out) | exact HB.out)⟩⟩
      ·rw [if_neg c6] at H;exact absurd H (by simp)
     ·rw [if_neg c5] at H;exact absurd H (by simp)
    ·rw [if_neg c4] at H;have c4b0:=df__ c4;clear c4;obtain rfl:=Option.some.inj H;go_wp2
     repeat (go_quiet (fail);try go_wp2)
     go_ret;exact ⟨_,re_,rr_ HO_5.out,rb_⟩
def ao_.l0:Nat->List (S74)->List (S74)->Int->Option (Bool)
 | 0,_,_,_=>none
 | k+1,x0,x1,x5=>if x5<(x0.length:Int) then (if 0<=x5 then (if x5<(x1.length:Int) then (if (!(((al_ x0 x5).f0) == ((al_ x1 x5).f0)) || (!(((al_ x0 x5).f1) == ((al_ x1 x5).f1))))=true then (some false) else (ao_.l0 k x0 x1 (wrap64 (x5+1)))) else (none)) else (none)) else (some true)
def ao_.f (k:Nat)(l0:List (S74))(l1:List (S74)):Option (Bool):=if (l0.length:Int)=(l1.length:Int) then (ao_.l0 k l0 l1 0) else (some false)
theorem ao_.calls (k:Nat)(A0:Option Addr)(c0:Nat)(l0:List (S74))(A1:Option Addr)(c1:Nat)(l1:List (S74))(r:Bool)(w:World)(hr0:Kd.C k74 w A0 l0.length l0)(hc0:l0.length<=c0)(hr1:Kd.C k74 w A1 l1.length l1)(hc1:l1.length<=c1)(h:ao_.f k l0 l1=some r):
  Calls Tryz.prog 47 #[.slice A0 l0.length c0,.slice A1 l1.length c1] w fun e w'=>e=.returned (.bool r)∧Drawn0 w w':=by
 have hu74:=Tryz.underlying74;have HR0:=Sd.m hr0;have HC0:=Sd.m hc0;clear hr0 hc0;have HR1:=Sd.m hr1;have HC1:=Sd.m hc1;clear hr1 hc1;have H:(if (l0.length:Int)=(l1.length:Int) then (ao_.l0 k l0 l1 0) else (some false))=some r:=h;clear h;by_cases c3:(l0.length:Int)=(l1.length:Int)
 ·rw [if_pos c3] at H;have c3b0:((l0.length:Int) == (l1.length:Int))=true:=beq_iff_eq.mpr c3;have c3b1:((l0.length:Int) != (l1.length:Int))=false:=bne_eq_false_iff_eq.mpr c3;have c3b2:(l0.length == l1.length)=true:=by first | simpa using c3 | (simp at c3 ⊢;omega)
  clear c3;have H':=Sd.m H;clear H;go_enter Tryz.func47,Tryz.ntmps47;go_wp2
  repeat (go_quiet (fail);try go_wp2)
  go_loopg [5] k (fun kq v5 w'=> ∃ (x5_1:Int),v5=.int .i64 x5_1∧Sd (ao_.l0 kq l0 l1 x5_1=some r)∧Sd (kq<=k)∧Drawn0 w w')
  case atStart=>exact ⟨(0),ri_,H',⟨Nat.le_refl _⟩,dr_⟩
  case round=>
   clear H';obtain ⟨x5_1,rfl,HA,HK1,⟨m1,rfl⟩⟩:=hrel;cases gk with
   | zero=>exact absurd HA.out (by simp [ao_.l0])
   | succ k1=>
    have H:=HA.out;clear HA;simp only [ao_.l0] at H;by_cases c4:x5_1<(l0.length:Int)
    ·rw [if_pos c4] at H;have c4b0:=dt__ c4;clear c4;by_cases c5:0<=x5_1
     ·rw [if_pos c5] at H;have c5b0:=dt__ c5;clear c5;by_cases c6:x5_1<(l1.length:Int)
      ·rw [if_pos c6] at H;have c6b0:=dt__ c6;clear c6;by_cases c7:(!(((al_ l0 x5_1).f0) == ((al_ l1 x5_1).f0)) || (!(((al_ l0 x5_1).f1) == ((al_ l1 x5_1).f1))))=true
       ·rw [if_pos c7] at H;have c7b0:(!(((al_ l0 x5_1).f0) == ((al_ l1 x5_1).f0)) || (!(((al_ l0 x5_1).f1) == ((al_ l1 x5_1).f1))))=true:=c7;clear c7;obtain rfl:=Option.some.inj H;have p109:0<=(x5_1:Int):=od_;have q109:x5_1<(l0.length:Int):=od_;obtain ⟨ad109,e109,hx109_0,hx109_1⟩:=ec_ HR0.out x5_1 p109 q109;cases e109;replace p109:=eq_true p109;replace q109:=eq_true q109;have p110:0<=(x5_1:Int):=od_;have q110:x5_1<(l1.length:Int):=od_;obtain ⟨ad110,e110,hx110_0,hx110_1⟩:=ec_ HR1.out x5_1 p110 q110;cases e110;replace p110:=eq_true p110;replace q110:=eq_true q110;go_wp2
        repeat (go_quiet (fail);try go_wp2)
        go_ret;exact ⟨ri_,dr_⟩
       ·rw [if_neg c7] at H;have c7b0:(!(((al_ l0 x5_1).f0) == ((al_ l1 x5_1).f0)) || (!(((al_ l0 x5_1).f1) == ((al_ l1 x5_1).f1))))=false:=by simpa using c7
        clear c7;have H':=Sd.m H;clear H;have p109:0<=(x5_1:Int):=od_;have q109:x5_1<(l0.length:Int):=od_;obtain ⟨ad109,e109,hx109_0,hx109_1⟩:=ec_ HR0.out x5_1 p109 q109;cases e109;replace p109:=eq_true p109;replace q109:=eq_true q109;have p110:0<=(x5_1:Int):=od_;have q110:x5_1<(l1.length:Int):=od_;obtain ⟨ad110,e110,hx110_0,hx110_1⟩:=ec_ HR1.out x5_1 p110 q110;cases e110;replace p110:=eq_true p110;replace q110:=eq_true q110;go_wp2
        repeat (go_quiet (fail);try go_wp2)
        go_roundg k1
        case measure=>have:=HK1.out;omega
        case rel=>exact ⟨(wrap64 (x5_1+1)),ri_,H',⟨by have:=HK1.out;omega⟩,dr_⟩
      ·rw [if_neg c6] at H;exact absurd H (by simp)
     ·rw [if_neg c5] at H;exact absurd H (by simp)
    ·rw [if_neg c4] at H;have c4b0:=df__ c4;clear c4;obtain rfl:=Option.some.inj H;go_wp2
     repeat (go_quiet (fail);try go_wp2)
     go_ret;exact ⟨ri_,dr_⟩
 ·rw [if_neg c3] at H;have c3b0:((l0.length:Int) == (l1.length:Int))=false:=beq_eq_false_iff_ne.mpr c3;have c3b1:((l0.length:Int) != (l1.length:Int))=true:=bne_iff_ne.mpr c3;have c3b2:(l0.length == l1.length)=false:=by first | simpa using c3 | (simp at c3 ⊢;omega)
  obtain rfl:=Option.some.inj H;go_enter Tryz.func47,Tryz.ntmps47;go_wp2
  repeat (go_quiet (fail);try go_wp2)
  go_ret;exact ⟨ri_,dr_⟩
def da_.l0:Nat->List (S74)->List (S74)->Int->Int->Option (Bool)
 | 0,_,_,_,_=>none
 | k+1,x0,x1,x12,x13=>if x13<x12 then (if 0<=x13 then (if x13<(x0.length:Int) then (if x13<(x1.length:Int) then (if (!(((al_ x0 x13).f0) == ((al_ x1 x13).f0)) || (!(((al_ x0 x13).f1) == ((al_ x1 x13).f1))))=true then (some false) else (da_.l0 k x0 x1 x12 (wrap64 (x13+1)))) else (none)) else (none)) else (none)) else (some true)
def da_.f (k:Nat)(l0:List (S74))(l1:List (S74)):Option (Bool):=if (l0.length:Int)=(l1.length:Int) then (da_.l0 k l0 l1 (l0.length:Int) 0) else (some false)
theorem da_.calls (k:Nat)(A0:Option Addr)(c0:Nat)(l0:List (S74))(A1:Option Addr)(c1:Nat)(l1:List (S74))(r:Bool)(w:World)(hr0:Kd.C k74 w A0 l0.length l0)(hc0:l0.length<=c0)(hr1:Kd.C k74 w A1 l1.length l1)(hc1:l1.length<=c1)(h:da_.f k l0 l1=some r):
  Calls Tryz.prog 57 #[.slice A0 l0.length c0,.slice A1 l1.length c1] w fun e w'=>e=.returned (.bool r)∧Drawn0 w w':=by
 have hu74:=Tryz.underlying74;have HR0:=Sd.m hr0;have HC0:=Sd.m hc0;clear hr0 hc0;have HR1:=Sd.m hr1;have HC1:=Sd.m hc1;clear hr1 hc1;have H:(if (l0.length:Int)=(l1.length:Int) then (da_.l0 k l0 l1 (l0.length:Int) 0) else (some false))=some r:=h;clear h;by_cases c3:(l0.length:Int)=(l1.length:Int)
 ·rw [if_pos c3] at H;have c3b0:((l0.length:Int) == (l1.length:Int))=true:=beq_iff_eq.mpr c3;have c3b1:((l0.length:Int) != (l1.length:Int))=false:=bne_eq_false_iff_eq.mpr c3;have c3b2:(l0.length == l1.length)=true:=by first | simpa using c3 | (simp at c3 ⊢;omega)
  clear c3;have H':=Sd.m H;clear H;go_enter Tryz.func57,Tryz.ntmps57;go_wp2
  repeat (go_quiet (fail);try go_wp2)
  go_loopg [13] k (fun kq v13 w'=> ∃ (x13_1:Int),v13=.int .i64 x13_1∧Sd (da_.l0 kq l0 l1 (l0.length:Int) x13_1=some r)∧Sd (kq<=k)∧Drawn0 w w')
  case atStart=>exact ⟨(0),ri_,H',⟨Nat.le_refl _⟩,dr_⟩
  case round=>
   clear H';obtain ⟨x13_1,rfl,HA,HK1,⟨m1,rfl⟩⟩:=hrel;cases gk with
   | zero=>exact absurd HA.out (by simp [da_.l0])
   | succ k1=>
    have H:=HA.out;clear HA;simp only [da_.l0] at H;by_cases c4:x13_1<(l0.length:Int)
    ·rw [if_pos c4] at H;have c4b0:=dt__ c4;clear c4;by_cases c5:0<=x13_1
     ·rw [if_pos c5] at H;have c5b0:=dt__ c5;clear c5;by_cases c6:x13_1<(l0.length:Int)
      ·rw [if_pos c6] at H;have c6b0:=dt__ c6;clear c6;by_cases c7:x13_1<(l1.length:Int)
       ·rw [if_pos c7] at H;have c7b0:=dt__ c7;clear c7;by_cases c8:(!(((al_ l0 x13_1).f0) == ((al_ l1 x13_1).f0)) || (!(((al_ l0 x13_1).f1) == ((al_ l1 x13_1).f1))))=true
        ·rw [if_pos c8] at H;have c8b0:(!(((al_ l0 x13_1).f0) == ((al_ l1 x13_1).f0)) || (!(((al_ l0 x13_1).f1) == ((al_ l1 x13_1).f1))))=true:=c8;clear c8;obtain rfl:=Option.some.inj H;have p111:0<=(x13_1:Int):=od_;have q111:x13_1<(l0.length:Int):=od_;obtain ⟨ad111,e111,hx111_0,hx111_1⟩:=ec_ HR0.out x13_1 p111 q111;cases e111;replace p111:=eq_true p111;replace q111:=eq_true q111;have p112:0<=(x13_1:Int):=od_;have q112:x13_1<(l1.length:Int):=od_;obtain ⟨ad112,e112,hx112_0,hx112_1⟩:=ec_ HR1.out x13_1 p112 q112;cases e112;replace p112:=eq_true p112;replace q112:=eq_true q112;go_wp2
         repeat (go_quiet (fail);try go_wp2)
         go_ret;exact ⟨ri_,dr_⟩
        ·rw [if_neg c8] at H;have c8b0:(!(((al_ l0 x13_1).f0) == ((al_ l1 x13_1).f0)) || (!(((al_ l0 x13_1).f1) == ((al_ l1 x13_1).f1))))=false:=by simpa using c8
         clear c8;have H':=Sd.m H;clear H;have p111:0<=(x13_1:Int):=od_;have q111:x13_1<(l0.length:Int):=od_;obtain ⟨ad111,e111,hx111_0,hx111_1⟩:=ec_ HR0.out x13_1 p111 q111;cases e111;replace p111:=eq_true p111;replace q111:=eq_true q111;have p112:0<=(x13_1:Int):=od_;have q112:x13_1<(l1.length:Int):=od_;obtain ⟨ad112,e112,hx112_0,hx112_1⟩:=ec_ HR1.out x13_1 p112 q112;cases e112;replace p112:=eq_true p112;replace q112:=eq_true q112;go_wp2
         repeat (go_quiet (fail);try go_wp2)
         go_roundg k1
         case measure=>have:=HK1.out;omega
         case rel=>exact ⟨(wrap64 (x13_1+1)),ri_,H',⟨by have:=HK1.out;omega⟩,dr_⟩
       ·rw [if_neg c7] at H;exact absurd H (by simp)
      ·rw [if_neg c6] at H;exact absurd H (by simp)
     ·rw [if_neg c5] at H;exact absurd H (by simp)
    ·rw [if_neg c4] at H;have c4b0:=df__ c4;clear c4;obtain rfl:=Option.some.inj H;go_wp2
     repeat (go_quiet (fail);try go_wp2)
     go_ret;exact ⟨ri_,dr_⟩
 ·rw [if_neg c3] at H;have c3b0:((l0.length:Int) == (l1.length:Int))=false:=beq_eq_false_iff_ne.mpr c3;have c3b1:((l0.length:Int) != (l1.length:Int))=true:=bne_iff_ne.mpr c3;have c3b2:(l0.length == l1.length)=false:=by first | simpa using c3 | (simp at c3 ⊢;omega)
  obtain rfl:=Option.some.inj H;go_enter Tryz.func57,Tryz.ntmps57;go_wp2
  repeat (go_quiet (fail);try go_wp2)
  go_ret;exact ⟨ri_,dr_⟩
mutual
def aq_.j0:Nat->List (S74)->Int->Bool->Option (Bool)
 | 0,_,_,_=>none
 | k+1,x0,x1,x16=>if x16=true then (some false) else (aq_.l0 k x0 x1 0)
def aq_.l0:Nat->List (S74)->Int->Int->Option (Bool)
 | 0,_,_,_=>none
 | k+1,x0,x1,x5=>if x5<(x0.length:Int) then (if 0<=x5 then (if x1 ≥ ((al_ x0 x5).f0) then (if x1<=((al_ x0 x5).f1) then (some true) else (aq_.l0 k x0 x1 (wrap64 (x5+1)))) else (aq_.l0 k x0 x1 (wrap64 (x5+1)))) else (none)) else (some false)
end
def aq_.f (k:Nat)(l0:List (S74))(a1:Int):Option (Bool):=if a1<0 then (aq_.j0 k l0 a1 true) else (if a1>1114111 then (aq_.j0 k l0 a1 true) else (aq_.j0 k l0 a1 (decide ((l0.length:Int)>400))))
theorem aq_.calls (k:Nat)(A0:Option Addr)(c0:Nat)(l0:List (S74))(a1:Int)(r:Bool)(w:World)(hr0:Kd.C k74 w A0 l0.length l0)(hc0:l0.length<=c0)(h:aq_.f k l0 a1=some r):
  Calls Tryz.prog 44 #[.slice A0 l0.length c0,.int .i64 a1] w fun e w'=>e=.returned (.bool r)∧Drawn0 w w':=by
 have HR0:=Sd.m hr0;have HC0:=Sd.m hc0;clear hr0 hc0;have H:(if a1<0 then (aq_.j0 k l0 a1 true) else (if a1>1114111 then (aq_.j0 k l0 a1 true) else (aq_.j0 k l0 a1 (decide ((l0.length:Int)>400)))))=some r:=h;clear h;have HC3:=Sd.m H;clear H;go_enter Tryz.func44,Tryz.ntmps44;go_upto_region 1 with (fail);go_cut [16] (fun v16 wc=> ∃ (kq:Nat) (x16_2:Bool),v16=.bool x16_2∧Sd (aq_.j0 kq l0 a1 x16_2=some r)∧Sd (kq<=k)∧Drawn0 w wc)
 case first=>
  have H:=HC3.out;clear HC3;by_cases c4:a1<0
  ·rw [if_pos c4] at H;have c4b0:=dt__ c4;clear c4
   (first | rw [c4b0] | (simp only [cz_,db_];rw [c4b0]) | skip)
   have H':=Sd.m H;clear H;go_wp2;go_meet
   case rel=>exact ⟨_,(true),ri_,H',⟨by first | omega | exact Nat.le_refl _⟩,dr_⟩
  ·rw [if_neg c4] at H;have c4b0:=df__ c4;clear c4
   (first | rw [c4b0] | (simp only [cz_,db_];rw [c4b0]) | skip)
   by_cases c5:a1>1114111
   ·rw [if_pos c5] at H;have c5b0:=dt__ c5;clear c5;have H':=Sd.m H;clear H;go_wp2;go_meet
    case rel=>exact ⟨_,(true),ri_,H',⟨by first | omega | exact Nat.le_refl _⟩,dr_⟩
   ·rw [if_neg c5] at H;have c5b0:=df__ c5;clear c5;have H':=Sd.m H;clear H;go_wp2;go_meet
    case rel=>exact ⟨_,(decide ((l0.length:Int)>400)),ri_,H',⟨by first | omega | exact Nat.le_refl _⟩,dr_⟩
 case rest=>
  clear HC3;obtain ⟨kq,x16_2,rfl,HA,HJ2,⟨mc2,rfl⟩⟩:=hcut;cases kq with
  | zero=>exact absurd HA.out (by simp [aq_.j0])
  | succ kj2=>
   have H:=HA.out;clear HA;simp only [aq_.j0] at H;by_cases c6:x16_2=true
   ·subst c6;have H1:(some false)=some r:=by rw [if_pos rfl] at H;exact H
    clear H;have H:=H1;clear H1;obtain rfl:=Option.some.inj H;go_wp2;go_ret;exact ⟨ri_,dr_⟩
   ·replace c6:=Bool.eq_false_iff.mpr c6;subst c6;have H1:(aq_.l0 kj2 l0 a1 0)=some r:=by rw [if_neg (show ¬ (false=true) by decide)] at H;exact H
    clear H;have H:=H1;clear H1;have H':=Sd.m H;clear H;go_wp2
    go_loopg [5] kj2 (fun kq v5 w'=> ∃ (x5_2:Int),v5=.int .i64 x5_2∧Sd (aq_.l0 kq l0 a1 x5_2=some r)∧Sd (kq<=kj2)∧Drawn0 w w')
    case atStart=>exact ⟨(0),ri_,H',⟨Nat.le_refl _⟩,dr_⟩
    case round=>
     clear H';obtain ⟨x5_2,rfl,HA,HK2,⟨m2,rfl⟩⟩:=hrel;cases gk with
     | zero=>exact absurd HA.out (by simp [aq_.l0])
     | succ k2=>
      have H:=HA.out;clear HA;simp only [aq_.l0] at H;by_cases c7:x5_2<(l0.length:Int)
      ·rw [if_pos c7] at H;have c7b0:=dt__ c7;clear c7;by_cases c8:0<=x5_2
       ·rw [if_pos c8] at H;have c8b0:=dt__ c8;clear c8;by_cases c9:a1 ≥ ((al_ l0 x5_2).f0)
        ·rw [if_pos c9] at H;have c9b0:=dt__ c9;clear c9;by_cases c10:a1<=((al_ l0 x5_2).f1)
         ·rw [if_pos c10] at H;have c10b0:=dt__ c10;clear c10;obtain rfl:=Option.some.inj H;have p113:0<=(x5_2:Int):=od_;have q113:x5_2<(l0.length:Int):=od_;obtain ⟨ad113,e113,hx113_0,hx113_1⟩:=ec_ HR0.out x5_2 p113 q113;cases e113;replace p113:=eq_true p113;replace q113:=eq_true q113;have p114:0<=(x5_2:Int):=od_;have q114:x5_2<(l0.length:Int):=od_;obtain ⟨ad114,e114,hx114_0,hx114_1⟩:=ec_ HR0.out x5_2 p114 q114;obtain rfl:ad113=ad114:=(by injection e114);replace p114:=eq_true p114;replace q114:=eq_true q114;go_wp2;go_ret;exact ⟨ri_,dr_⟩
         ·rw [if_neg c10] at H;have c10b0:=df__ c10;clear c10;have H':=Sd.m H;clear H;have p113:0<=(x5_2:Int):=od_;have q113:x5_2<(l0.length:Int):=od_;obtain ⟨ad113,e113,hx113_0,hx113_1⟩:=ec_ HR0.out x5_2 p113 q113;cases e113;replace p113:=eq_true p113;replace q113:=eq_true q113;have p114:0<=(x5_2:Int):=od_;have q114:x5_2<(l0.length:Int):=od_;obtain ⟨ad114,e114,hx114_0,hx114_1⟩:=ec_ HR0.out x5_2 p114 q114;obtain rfl:ad113=ad114:=(by injection e114);replace p114:=eq_true p114;replace q114:=eq_true q114;go_wp2
          go_roundg k2
          case measure=>have:=HJ2.out;have:=HK2.out;omega
          case rel=>exact ⟨(wrap64 (x5_2+1)),ri_,H',⟨by have:=HJ2.out;have:=HK2.out;omega⟩,dr_⟩
        ·rw [if_neg c9] at H;have c9b0:=df__ c9;clear c9;have H':=Sd.m H;clear H;have p113:0<=(x5_2:Int):=od_;have q113:x5_2<(l0.length:Int):=od_;obtain ⟨ad113,e113,hx113_0,hx113_1⟩:=ec_ HR0.out x5_2 p113 q113;cases e113;replace p113:=eq_true p113;replace q113:=eq_true q113;go_wp2
         go_roundg k2
         case measure=>have:=HJ2.out;have:=HK2.out;omega
         case rel=>exact ⟨(wrap64 (x5_2+1)),ri_,H',⟨by have:=HJ2.out;have:=HK2.out;omega⟩,dr_⟩
       ·rw [if_neg c8] at H;exact absurd H (by simp)
      ·rw [if_neg c7] at H;have c7b0:=df__ c7;clear c7;obtain rfl:=Option.some.inj H;go_wp2;go_ret;exact ⟨ri_,dr_⟩
def bg_.l0:Nat->List (List (S74))->List (List (S74))->Int->Option (Bool)
 | 0,_,_,_=>none
 | k+1,x0,x1,x5=>if x5<(x0.length:Int) then (if 0<=x5 then (if x5<(x1.length:Int) then ((ao_.f k (dn_ x0 x5) (dn_ x1 x5)).bind fun t117=>(if t117=true then (bg_.l0 k x0 x1 (wrap64 (x5+1))) else (some false))) else (none)) else (none)) else (some true)
def bg_.f (k:Nat)(l0:List (List (S74)))(l1:List (List (S74))):Option (Bool):=if (l0.length:Int)=(l1.length:Int) then (bg_.l0 k l0 l1 0) else (some false)
theorem bg_.calls (k:Nat)(A0:Option Addr)(c0:Nat)(l0:List (List (S74)))(A1:Option Addr)(c1:Nat)(l1:List (List (S74)))(r:Bool)(w:World)(hr0:Kd.C (Kd.slice 74 k74) w A0 l0.length l0)(hc0:l0.length<=c0)(hr1:Kd.C (Kd.slice 74 k74) w A1 l1.length l1)(hc1:l1.length<=c1)(h:bg_.f k l0 l1=some r):
  Calls Tryz.prog 15 #[.slice A0 l0.length c0,.slice A1 l1.length c1] w fun e w'=>e=.returned (.bool r)∧Drawn0 w w':=by
 have HR0:=Sd.m hr0;have HC0:=Sd.m hc0;clear hr0 hc0;have HR1:=Sd.m hr1;have HC1:=Sd.m hc1;clear hr1 hc1;have H:(if (l0.length:Int)=(l1.length:Int) then (bg_.l0 k l0 l1 0) else (some false))=some r:=h;clear h;by_cases c3:(l0.length:Int)=(l1.length:Int)
 ·rw [if_pos c3] at H;have c3b0:((l0.length:Int) == (l1.length:Int))=true:=beq_iff_eq.mpr c3;have c3b1:((l0.length:Int) != (l1.length:Int))=false:=bne_eq_false_iff_eq.mpr c3;have c3b2:(l0.length == l1.length)=true:=by first | simpa using c3 | (simp at c3 ⊢;omega)
  clear c3;have H':=Sd.m H;clear H;go_enter Tryz.func15,Tryz.ntmps15;go_wp2
  repeat (go_quiet (fail);try go_wp2)
  go_loopg [5] k (fun kq v5 w'=> ∃ (x5_1:Int),v5=.int .i64 x5_1∧Sd (bg_.l0 kq l0 l1 x5_1=some r)∧Sd (kq<=k)∧Drawn0 w w')
  case atStart=>exact ⟨(0),ri_,H',⟨Nat.le_refl _⟩,dr_⟩
  case round=>
   clear H';obtain ⟨x5_1,rfl,HA,HK1,⟨m1,rfl⟩⟩:=hrel;cases gk with
   | zero=>exact absurd HA.out (by simp [bg_.l0])
   | succ k1=>
    have H:=HA.out;clear HA;simp only [bg_.l0] at H;by_cases c4:x5_1<(l0.length:Int)
    ·rw [if_pos c4] at H;have c4b0:=dt__ c4;clear c4;by_cases c5:0<=x5_1
     ·rw [if_pos c5] at H;have c5b0:=dt__ c5;clear c5;by_cases c6:x5_1<(l1.length:Int)
      ·rw [if_pos c6] at H;have c6b0:=dt__ c6;clear c6;replace H:=Option.bind_eq_some_iff.mp H;obtain ⟨t117,A70,H⟩:=H;replace H:(if t117=true then (bg_.l0 k1 l0 l1 (wrap64 (x5_1+1))) else (some false))=some r:=H;have A7:=Sd.m A70;clear A70;by_cases c8:t117=true
       ·subst c8;have H1:(bg_.l0 k1 l0 l1 (wrap64 (x5_1+1)))=some r:=by rw [if_pos rfl] at H;exact H
        clear H;have H:=H1;clear H1;have H':=Sd.m H;clear H;have p115:0<=(x5_1:Int):=od_;have q115:x5_1<(l0.length:Int):=od_;obtain ⟨ad115,A115_0,c115_0,e115,hx115_0,hl115_0,hi115_0⟩:=iw_ HR0.out x5_1 p115 q115;cases e115;have HR115_0:=Sd.m hi115_0;have HC115_0:=Sd.m hl115_0;clear hi115_0 hl115_0;replace p115:=eq_true p115;replace q115:=eq_true q115;have p116:0<=(x5_1:Int):=od_;have q116:x5_1<(l1.length:Int):=od_;obtain ⟨ad116,A116_0,c116_0,e116,hx116_0,hl116_0,hi116_0⟩:=iw_ HR1.out x5_1 p116 q116;cases e116;have HR116_0:=Sd.m hi116_0;have HC116_0:=Sd.m hl116_0;clear hi116_0 hl116_0;replace p116:=eq_true p116;replace q116:=eq_true q116;go_wp2_with (first | (go_at_call 47;(with_reducible refine (ao_.calls k1 _ _ (dn_ l0 x5_1) _ _ (dn_ l1 x5_1) true _ ?side1 ?side2 ?side3 ?side4 A7.out).mono ?_);(case side1=>repeat (first | exact HR115_0.out | (with_reducible refine Kd.C_alloc ?_ _) | (with_reducible refine Kd.C_drewN ?_ _) | (with_reducible refine Kd.C_drew ?_)));(case side2=>exact HC115_0.out);(case side3=>repeat (first | exact HR116_0.out | (with_reducible refine Kd.C_alloc ?_ _) | (with_reducible refine Kd.C_drewN ?_ _) | (with_reducible refine Kd.C_drew ?_)));(case side4=>exact HC116_0.out);rintro e w' ⟨rfl,⟨nd,rfl⟩⟩;(try first | exact ⟨rfl,_,World.drewN_drewN _ _ _⟩ | exact ⟨rfl,_,Eq.trans (World.drewN_drewN _ _ _) (congrArg (World.drewN _) (Nat.add_assoc _ _ _))⟩)))
        repeat (go_quiet (first | (go_at_call 47;(with_reducible refine (ao_.calls k1 _ _ (dn_ l0 x5_1) _ _ (dn_ l1 x5_1) true _ ?side1 ?side2 ?side3 ?side4 A7.out).mono ?_);(case side1=>repeat (first | exact HR115_0.out | (with_reducible refine Kd.C_alloc ?_ _) | (with_reducible refine Kd.C_drewN ?_ _) | (with_reducible refine Kd.C_drew ?_)));(case side2=>exact HC115_0.out);(case side3=>repeat (first | exact HR116_0.out | (with_reducible refine Kd.C_alloc ?_ _) | (with_reducible refine Kd.C_drewN ?_ _) | (with_reducible refine Kd.C_drew ?_)));(case side4=>exact HC116_0.out);rintro e w' ⟨rfl,⟨nd,rfl⟩⟩;(try first | exact ⟨rfl,_,World.drewN_drewN _ _ _⟩ | exact ⟨rfl,_,Eq.trans (World.drewN_drewN _ _ _) (congrArg (World.drewN _) (Nat.add_assoc _ _ _))⟩)));try go_wp2_with (first | (go_at_call 47;(with_reducible refine (ao_.calls k1 _ _ (dn_ l0 x5_1) _ _ (dn_ l1 x5_1) true _ ?side1 ?side2 ?side3 ?side4 A7.out).mono ?_);(case side1=>repeat (first | exact HR115_0.out | (with_reducible refine Kd.C_alloc ?_ _) | (with_reducible refine Kd.C_drewN ?_ _) | (with_reducible refine Kd.C_drew ?_)));(case side2=>exact HC115_0.out);(case side3=>repeat (first | exact HR116_0.out | (with_reducible refine Kd.C_alloc ?_ _) | (with_reducible refine Kd.C_drewN ?_ _) | (with_reducible refine Kd.C_drew ?_)));(case side4=>exact HC116_0.out);rintro e w' ⟨rfl,⟨nd,rfl⟩⟩;(try first | exact ⟨rfl,_,World.drewN_drewN _ _ _⟩ | exact ⟨rfl,_,Eq.trans (World.drewN_drewN _ _ _) (congrArg (World.drewN _) (Nat.add_assoc _ _ _))⟩))))
        go_roundg k1
        case measure=>have:=HK1.out;omega
        case rel=>exact ⟨(wrap64 (x5_1+1)),ri_,H',⟨by have:=HK1.out;omega⟩,dr_⟩
       ·replace c8:=Bool.eq_false_iff.mpr c8;subst c8;have H1:(some false)=some r:=by rw [if_neg (show ¬ (false=true) by decide)] at H;exact H
        clear H;have H:=H1;clear H1;obtain rfl:=Option.some.inj H;have p115:0<=(x5_1:Int):=od_;have q115:x5_1<(l0.length:Int):=od_;obtain ⟨ad115,A115_0,c115_0,e115,hx115_0,hl115_0,hi115_0⟩:=iw_ HR0.out x5_1 p115 q115;cases e115;have HR115_0:=Sd.m hi115_0;have HC115_0:=Sd.m hl115_0;clear hi115_0 hl115_0;replace p115:=eq_true p115;replace q115:=eq_true q115;have p116:0<=(x5_1:Int):=od_;have q116:x5_1<(l1.length:Int):=od_;obtain ⟨ad116,A116_0,c116_0,e116,hx116_0,hl116_0,hi116_0⟩:=iw_ HR1.out x5_1 p116 q116;cases e116;have HR116_0:=Sd.m hi116_0;have HC116_0:=Sd.m hl116_0;clear hi116_0 hl116_0;replace p116:=eq_true p116;replace q116:=eq_true q116;go_wp2_with (first | (go_at_call 47;(with_reducible refine (ao_.calls k1 _ _ (dn_ l0 x5_1) _ _ (dn_ l1 x5_1) false _ ?side1 ?side2 ?side3 ?side4 A7.out).mono ?_);(case side1=>repeat (first | exact HR115_0.out | (with_reducible refine Kd.C_alloc ?_ _) | (with_reducible refine Kd.C_drewN ?_ _) | (with_reducible refine Kd.C_drew ?_)));(case side2=>exact HC115_0.out);(case side3=>repeat (first | exact HR116_0.out | (with_reducible refine Kd.C_alloc ?_ _) | (with_reducible refine Kd.C_drewN ?_ _) | (with_reducible refine Kd.C_drew ?_)));(case side4=>exact HC116_0.out);rintro e w' ⟨rfl,⟨nd,rfl⟩⟩;(try first | exact ⟨rfl,_,World.drewN_drewN _ _ _⟩ | exact ⟨rfl,_,Eq.trans (World.drewN_drewN _ _ _) (congrArg (World.drewN _) (Nat.add_assoc _ _ _))⟩)))
        repeat (go_quiet (first | (go_at_call 47;(with_reducible refine (ao_.calls k1 _ _ (dn_ l0 x5_1) _ _ (dn_ l1 x5_1) false _ ?side1 ?side2 ?side3 ?side4 A7.out).mono ?_);(case side1=>repeat (first | exact HR115_0.out | (with_reducible refine Kd.C_alloc ?_ _) | (with_reducible refine Kd.C_drewN ?_ _) | (with_reducible refine Kd.C_drew ?_)));(case side2=>exact HC115_0.out);(case side3=>repeat (first | exact HR116_0.out | (with_reducible refine Kd.C_alloc ?_ _) | (with_reducible refine Kd.C_drewN ?_ _) | (with_reducible refine Kd.C_drew ?_)));(case side4=>exact HC116_0.out);rintro e w' ⟨rfl,⟨nd,rfl⟩⟩;(try first | exact ⟨rfl,_,World.drewN_drewN _ _ _⟩ | exact ⟨rfl,_,Eq.trans (World.drewN_drewN _ _ _) (congrArg (World.drewN _) (Nat.add_assoc _ _ _))⟩)));try go_wp2_with (first | (go_at_call 47;(with_reducible refine (ao_.calls k1 _ _ (dn_ l0 x5_1) _ _ (dn_ l1 x5_1) false _ ?side1 ?side2 ?side3 ?side4 A7.out).mono ?_);(case side1=>repeat (first | exact HR115_0.out | (with_reducible refine Kd.C_alloc ?_ _) | (with_reducible refine Kd.C_drewN ?_ _) | (with_reducible refine Kd.C_drew ?_)));(case side2=>exact HC115_0.out);(case side3=>repeat (first | exact HR116_0.out | (with_reducible refine Kd.C_alloc ?_ _) | (with_reducible refine Kd.C_drewN ?_ _) | (with_reducible refine Kd.C_drew ?_)));(case side4=>exact HC116_0.out);rintro e w' ⟨rfl,⟨nd,rfl⟩⟩;(try first | exact ⟨rfl,_,World.drewN_drewN _ _ _⟩ | exact ⟨rfl,_,Eq.trans (World.drewN_drewN _ _ _) (congrArg (World.drewN _) (Nat.add_assoc _ _ _))⟩))))
        go_ret;exact ⟨ri_,dr_⟩
      ·rw [if_neg c6] at H;exact absurd H (by simp)
     ·rw [if_neg c5] at H;exact absurd H (by simp)
    ·rw [if_neg c4] at H;have c4b0:=df__ c4;clear c4;obtain rfl:=Option.some.inj H;go_wp2
     repeat (go_quiet (fail);try go_wp2)
     go_ret;exact ⟨ri_,dr_⟩
 ·rw [if_neg c3] at H;have c3b0:((l0.length:Int) == (l1.length:Int))=false:=beq_eq_false_iff_ne.mpr c3;have c3b1:((l0.length:Int) != (l1.length:Int))=true:=bne_iff_ne.mpr c3;have c3b2:(l0.length == l1.length)=false:=by first | simpa using c3 | (simp at c3 ⊢;omega)
  obtain rfl:=Option.some.inj H;go_enter Tryz.func15,Tryz.ntmps15;go_wp2
  repeat (go_quiet (fail);try go_wp2)
  go_ret;exact ⟨ri_,dr_⟩
end A
namespace A
attribute [local go_sem] ct_ cq_ dh_ dg_ ch_ cg_ cr_ cp_
def ce_.l0:Nat->List (List (S74))->Int->Int->Int->Option (Bool)
 | 0,_,_,_,_=>none
 | k+1,x0,x1,x5,x6=>if x6<(x0.length:Int) then (if x5<=x1 then (if 0<=x6 then (ce_.l0 k x0 x1 (wrap64 (x5+((dn_ x0 x6).length:Int))) (wrap64 (x6+1))) else (none)) else (some (decide (x5>x1)))) else (some (decide (x5>x1)))
def ce_.f (k:Nat)(l0:List (List (S74)))(a1:Int):Option (Bool):=ce_.l0 k l0 a1 (l0.length:Int) 0
theorem ce_.calls (k:Nat)(A0:Option Addr)(c0:Nat)(l0:List (List (S74)))(a1:Int)(r:Bool)(w:World)(hr0:Kd.C (Kd.slice 74 k74) w A0 l0.length l0)(hc0:l0.length<=c0)(h:ce_.f k l0 a1=some r):
  Calls Tryz.prog 18 #[.slice A0 l0.length c0,.int .i64 a1] w fun e w'=>e=.returned (.bool r)∧Drawn0 w w':=by
 have HR0:=Sd.m hr0;have HC0:=Sd.m hc0;clear hr0 hc0;have H:(ce_.l0 k l0 a1 (l0.length:Int) 0)=some r:=h;clear h;have H':=Sd.m H;clear H;go_enter Tryz.func18,Tryz.ntmps18;go_wp2
 go_loopg [5,6] k (fun kq v5 v6 w'=> ∃ (x5_1:Int) (x6_1:Int),v5=.int .i64 x5_1∧v6=.int .i64 x6_1∧Sd (ce_.l0 kq l0 a1 x5_1 x6_1=some r)∧Sd (kq<=k)∧Drawn0 w w')
 case atStart=>exact ⟨((l0.length:Int)),(0),ri_,ri_,H',⟨Nat.le_refl _⟩,dr_⟩
 case round=>
  clear H';obtain ⟨x5_1,x6_1,rfl,rfl,HA,HK1,⟨m1,rfl⟩⟩:=hrel;cases gk with
  | zero=>exact absurd HA.out (by simp [ce_.l0])
  | succ k1=>
   have H:=HA.out;clear HA;simp only [ce_.l0] at H;by_cases c3:x6_1<(l0.length:Int)
   ·rw [if_pos c3] at H;have c3b0:=dt__ c3;clear c3;by_cases c4:x5_1<=a1
    ·rw [if_pos c4] at H;have c4b0:=dt__ c4;clear c4;by_cases c5:0<=x6_1
     ·rw [if_pos c5] at H;have c5b0:=dt__ c5;clear c5;have H':=Sd.m H;clear H;have p118:0<=(x6_1:Int):=od_;have q118:x6_1<(l0.length:Int):=od_;obtain ⟨ad118,A118_0,c118_0,e118,hx118_0,hl118_0,hi118_0⟩:=iw_ HR0.out x6_1 p118 q118;cases e118;have HR118_0:=Sd.m hi118_0;have HC118_0:=Sd.m hl118_0;clear hi118_0 hl118_0;replace p118:=eq_true p118;replace q118:=eq_true q118;go_wp2
      go_roundg k1
      case measure=>have:=HK1.out;omega
      case rel=>exact ⟨(wrap64 (x5_1+((dn_ l0 x6_1).length:Int))),(wrap64 (x6_1+1)),ri_,ri_,H',⟨by have:=HK1.out;omega⟩,dr_⟩
     ·rw [if_neg c5] at H;exact absurd H (by simp)
    ·rw [if_neg c4] at H;have c4b0:=df__ c4;clear c4;obtain rfl:=Option.some.inj H;go_wp2;go_ret;exact ⟨ri_,dr_⟩
   ·rw [if_neg c3] at H;have c3b0:=df__ c3;clear c3;obtain rfl:=Option.some.inj H;go_wp2;go_ret;exact ⟨ri_,dr_⟩
def aw_.l0:Nat->List Int->List Int->Int->Option (Bool)
 | 0,_,_,_=>none
 | k+1,x0,x1,x5=>if x5<(x0.length:Int) then (if 0<=x5 then (if x5<(x1.length:Int) then (if (rd x0 x5)=(rd x1 x5) then (aw_.l0 k x0 x1 (wrap64 (x5+1))) else (some false)) else (none)) else (none)) else (some true)
def aw_.f (k:Nat)(l0:List Int)(l1:List Int):Option (Bool):=if (l0.length:Int)=(l1.length:Int) then (aw_.l0 k l0 l1 0) else (some false)
theorem aw_.calls (k:Nat)(A0:Option Addr)(c0:Nat)(l0:List Int)(A1:Option Addr)(c1:Nat)(l1:List Int)(r:Bool)(w:World)(hr0:Kd.C (Kd.int .i64) w A0 l0.length l0)(hc0:l0.length<=c0)(hr1:Kd.C (Kd.int .i64) w A1 l1.length l1)(hc1:l1.length<=c1)(h:aw_.f k l0 l1=some r):
  Calls Tryz.prog 37 #[.slice A0 l0.length c0,.slice A1 l1.length c1] w fun e w'=>e=.returned (.bool r)∧Drawn0 w w':=by
 have HR0:=Sd.m hr0;have HC0:=Sd.m hc0;clear hr0 hc0;have HR1:=Sd.m hr1;have HC1:=Sd.m hc1;clear hr1 hc1;have H:(if (l0.length:Int)=(l1.length:Int) then (aw_.l0 k l0 l1 0) else (some false))=some r:=h;clear h;by_cases c3:(l0.length:Int)=(l1.length:Int)
 ·rw [if_pos c3] at H;have c3b0:((l0.length:Int) == (l1.length:Int))=true:=beq_iff_eq.mpr c3;have c3b1:((l0.length:Int) != (l1.length:Int))=false:=bne_eq_false_iff_eq.mpr c3;have c3b2:(l0.length == l1.length)=true:=by first | simpa using c3 | (simp at c3 ⊢;omega)
  clear c3;have H':=Sd.m H;clear H;go_enter Tryz.func37,Tryz.ntmps37;go_wp2
  repeat (go_quiet (fail);try go_wp2)
  go_loopg [5] k (fun kq v5 w'=> ∃ (x5_1:Int),v5=.int .i64 x5_1∧Sd (aw_.l0 kq l0 l1 x5_1=some r)∧Sd (kq<=k)∧Drawn0 w w')
  case atStart=>exact ⟨(0),ri_,H',⟨Nat.le_refl _⟩,dr_⟩
  case round=>
   clear H';obtain ⟨x5_1,rfl,HA,HK1,⟨m1,rfl⟩⟩:=hrel;cases gk with
   | zero=>exact absurd HA.out (by simp [aw_.l0])
   | succ k1=>
    have H:=HA.out;clear HA;simp only [aw_.l0] at H;by_cases c4:x5_1<(l0.length:Int)
    ·rw [if_pos c4] at H;have c4b0:=dt__ c4;clear c4;by_cases c5:0<=x5_1
     ·rw [if_pos c5] at H;have c5b0:=dt__ c5;clear c5;by_cases c6:x5_1<(l1.length:Int)
      ·rw [if_pos c6] at H;have c6b0:=dt__ c6;clear c6;by_cases c7:(rd l0 x5_1)=(rd l1 x5_1)
       ·rw [if_pos c7] at H;have c7b0:((rd l0 x5_1) == (rd l1 x5_1))=true:=beq_iff_eq.mpr c7;have c7b1:((rd l0 x5_1) != (rd l1 x5_1))=false:=bne_eq_false_iff_eq.mpr c7;clear c7;have H':=Sd.m H;clear H;have p119:0<=(x5_1:Int):=od_;have q119:x5_1<(l0.length:Int):=od_;obtain ⟨ad119,e119,hx119_0⟩:=Kd.ds_ HR0.out x5_1 p119 q119;cases e119;replace p119:=eq_true p119;replace q119:=eq_true q119;have p120:0<=(x5_1:Int):=od_;have q120:x5_1<(l1.length:Int):=od_;obtain ⟨ad120,e120,hx120_0⟩:=Kd.ds_ HR1.out x5_1 p120 q120;cases e120;replace p120:=eq_true p120;replace q120:=eq_true q120;go_wp2
        repeat (go_quiet (fail);try go_wp2)
        go_roundg k1
        case measure=>have:=HK1.out;omega
        case rel=>exact ⟨(wrap64 (x5_1+1)),ri_,H',⟨by have:=HK1.out;omega⟩,dr_⟩
       ·rw [if_neg c7] at H;have c7b0:((rd l0 x5_1) == (rd l1 x5_1))=false:=beq_eq_false_iff_ne.mpr c7;have c7b1:((rd l0 x5_1) != (rd l1 x5_1))=true:=bne_iff_ne.mpr c7;obtain rfl:=Option.some.inj H;have p119:0<=(x5_1:Int):=od_;have q119:x5_1<(l0.length:Int):=od_;obtain ⟨ad119,e119,hx119_0⟩:=Kd.ds_ HR0.out x5_1 p119 q119;cases e119;replace p119:=eq_true p119;replace q119:=eq_true q119;have p120:0<=(x5_1:Int):=od_;have q120:x5_1<(l1.length:Int):=od_;obtain ⟨ad120,e120,hx120_0⟩:=Kd.ds_ HR1.out x5_1 p120 q120;cases e120;replace p120:=eq_true p120;replace q120:=eq_true q120;go_wp2
        repeat (go_quiet (fail);try go_wp2)
        go_ret;exact ⟨ri_,dr_⟩
      ·rw [if_neg c6] at H;exact absurd H (by simp)
     ·rw [if_neg c5] at H;exact absurd H (by simp)
    ·rw [if_neg c4] at H;have c4b0:=df__ c4;clear c4;obtain rfl:=Option.some.inj H;go_wp2
     repeat (go_quiet (fail);try go_wp2)
     go_ret;exact ⟨ri_,dr_⟩
 ·rw [if_neg c3] at H;have c3b0:((l0.length:Int) == (l1.length:Int))=false:=beq_eq_false_iff_ne.mpr c3;have c3b1:((l0.length:Int) != (l1.length:Int))=true:=bne_iff_ne.mpr c3;have c3b2:(l0.length == l1.length)=false:=by first | simpa using c3 | (simp at c3 ⊢;omega)
  obtain rfl:=Option.some.inj H;go_enter Tryz.func37,Tryz.ntmps37;go_wp2
  repeat (go_quiet (fail);try go_wp2)
  go_ret;exact ⟨ri_,dr_⟩
end A
namespace L
open A
def tellF (rb:Bool)(a tt:Int)(xs:List S74):List S74:=
 if a<tt∧rb=true then
  (if 0<xs.length∧(al_ xs ((xs.length:Int) - 1)).f1=a - 1 then xs.set (xs.length - 1) ⟨(al_ xs ((xs.length:Int) - 1)).f0,tt - 1⟩ else xs ++ [⟨a,tt - 1⟩])
 else xs
structure SwS (wk w0:World) (gf ga gr gi go:Nat) (a i0 i1:Int) (v:Value) (xs:List S74) (W:World):Prop where
 bel:Below w0.heap.size w0 W
 A:W.heap[ga]? =some (.cells #[.int .i64 a] 3 (0,0))
 I:W.heap[gi]? =some (.cells #[.int .i64 i0,.int .i64 i1] 175 (0,0))
 O:W.heap[go]? =some (.cells #[v] 37 (0,0))
 R:W.heap[gr]? =some (.cells #[.func (.func gf) #[] #[]] 141 (0,0))
 row:Kd.R k74 74 W w0.heap.size (fun _=>True) v xs
 la:w0.heap.size<=ga
 li:w0.heap.size<=gi
 lo:w0.heap.size<=go
 keep: ∀ (q:Nat) (cs:Array Value),wk.heap[q]? =some (.cells cs 173 (0,0))->W.heap[q]? =some (.cells cs 173 (0,0))
theorem R_type {α:Type}{d:Kd α}{e:Nat}{W:World}{base:Nat}{v:Value}{xs:List α}(h:Kd.R d e W base (fun _=>True) v xs): ∀ k,v.ownBlock=some k-> ∃ cells,W.heap[k]? =some (.cells cells e (0,0)):=by
 intro k hk;obtain ⟨inner,ho⟩:=Kd.R_own h;exact fn_ ho k hk
theorem setCell_far {W:World}{g k:Nat}(o:Nat)(u:Value)(h:k≠g):(W.setCell ⟨g,o,none⟩ u).heap[k]? =W.heap[k]? :=gf_ [u] o k h
theorem R_other {α:Type}{d:Kd α}(hE:d.E=[]){e t:Nat}{W:World}{base g o:Nat}{v:Value}{xs:List α}{cs:Array Value}(h:Kd.R d e W base (fun _=>True) v xs)(hg:W.heap[g]? =some (.cells cs t (0,0)))(hne:t≠e)(u:Value):Kd.R d e (W.setCell ⟨g,o,none⟩ u) base (fun _=>True) v xs:=by
 refine Kd.R_mono (Kd.R_move (Kd.R_bound h) (fun k hk=>setCell_far o u ?_)) (fun _ _=>trivial);rintro rfl;obtain ⟨_,_,_,q,hq,cells,hc⟩:=hk;rw [hE,List.mem_singleton] at hq;subst hq;rw [hg] at hc;injection hc with hc;injection hc with _ hc;exact hne hc
theorem SwS.putA {wk w0 W:World}{gf ga gr gi go:Nat}{a i0 i1:Int}{v:Value}{xs:List S74}(h:SwS wk w0 gf ga gr gi go a i0 i1 v xs W)(b:Int):SwS wk w0 gf ga gr gi go b i0 i1 v xs (W.setCell ⟨ga,0,none⟩ (.int .i64 b)) where
 bel:=h.bel.setCell h.la _
 A:=cj_ h.A 0 _ rfl
 I:=bj_ h.I (p:=⟨ga,0,none⟩) (dq_ h.I h.A (by decide)) _
 O:=bj_ h.O (p:=⟨ga,0,none⟩) (dq_ h.O h.A (by decide)) _
 R:=bj_ h.R (p:=⟨ga,0,none⟩) (dq_ h.R h.A (by decide)) _
 row:=R_other rfl h.row h.A (by decide) _
 la:=h.la
 li:=h.li
 lo:=h.lo
 keep:=fun q cs hq=>bj_ (h.keep q cs hq) (p:=⟨ga,0,none⟩) (dq_ (h.keep q cs hq) h.A (by decide)) _
theorem SwS.drew {wk w0 W:World}{gf ga gr gi go:Nat}{a i0 i1:Int}{v:Value}{xs:List S74}(h:SwS wk w0 gf ga gr gi go a i0 i1 v xs W):SwS wk w0 gf ga gr gi go a i0 i1 v xs W.drew where
 bel:=ca_ h.bel
 A:=h.A
 I:=h.I
 O:=h.O
 R:=h.R
 row:=Kd.R_drew h.row
 la:=h.la
 li:=h.li
 lo:=h.lo
 keep:=h.keep
theorem tell_skip {wk w0 w:World}{gf ga gr gi go:Nat}{a i0 i1 tt:Int}{v:Value}{xs:List S74}(h:SwS wk w0 gf ga gr gi go a i0 i1 v xs w)(hlt:¬ a<tt):
  Calls Tryz.prog 141 #[.int .i64 tt,.pointer (some ⟨ga,0,none⟩),.pointer (some ⟨gr,0,none⟩),.pointer (some ⟨gi,0,none⟩),.pointer (some ⟨go,0,none⟩)] w fun e w'=>e=.returned (.tuple #[])∧SwS wk w0 gf ga gr gi go tt i0 i1 v xs w':=by
 have hd:decide (a<tt)=false:=df__ hlt;have ca:w.cell? ⟨ga,0,none⟩=some (.int .i64 a):=(af_ h.A 0).trans rfl;have fa:=aa_ h.A 0;have H:=Sd.m h;clear h hlt;go_enter Tryz.func141,Tryz.ntmps141;go_wp2_with fail
 go_end0
 exact ⟨rfl,H.out.putA tt⟩
theorem tell_no {wk w0 w:World}{gf ga gr gi go:Nat}{a i0 i1 tt:Int}{v:Value}{xs:List S74}(h:SwS wk w0 gf ga gr gi go a i0 i1 v xs w)(hlt:a<tt)
  (eg: ∀ args w,(callFunc gf args).run Tryz.prog w=.ok (.enter gf args) w) (hr: ∀ W,Calls Tryz.prog gf #[.bool (decide (0<i0)),.bool (decide (0<i1))] W fun e w'=>e=.returned (.bool false)∧w'=W):
  Calls Tryz.prog 141 #[.int .i64 tt,.pointer (some ⟨ga,0,none⟩),.pointer (some ⟨gr,0,none⟩),.pointer (some ⟨gi,0,none⟩),.pointer (some ⟨go,0,none⟩)] w fun e w'=>e=.returned (.tuple #[])∧SwS wk w0 gf ga gr gi go tt i0 i1 v xs w':=by
 have hd:decide (a<tt)=true:=dt__ hlt;have ca:w.cell? ⟨ga,0,none⟩=some (.int .i64 a):=(af_ h.A 0).trans rfl;have ci0:w.cell? ⟨gi,0,none⟩=some (.int .i64 i0):=(af_ h.I 0).trans rfl;have ci1:w.cell? ⟨gi,1,none⟩=some (.int .i64 i1):=(af_ h.I 1).trans rfl;have cr:w.cell? ⟨gr,0,none⟩=some (.func (.func gf) #[] #[]):=(af_ h.R 0).trans rfl;have fa:=aa_ h.A 0;have H:=Sd.m h;have HR:=Sd.m hr;clear h hlt hr;go_enter Tryz.func141,Tryz.ntmps141;go_wp2_with fail;refine (HR.out _).mono ?_;rintro e w' ⟨rfl,rfl⟩;go_wp2_with fail
 go_end0
 exact ⟨rfl,H.out.putA tt⟩
theorem R_place {α:Type}{d:Kd α}{e:Nat}{W:World}{base:Nat}{ok:Nat->Prop}{v:Value}{xs:List α}(h:Kd.R d e W base ok v xs)(hn:0<xs.length): ∃ g c,v=.slice (some ⟨g,0,none⟩) xs.length c∧base<=g:=by
 obtain ⟨inner,ho⟩:=Kd.R_own h;obtain ⟨h1,h2⟩:=ho;rcases h2 with ⟨rfl,h3⟩ | ⟨g,cap,cur,rfl,hb,hh,r⟩
 ·obtain ⟨A,c,he⟩:=Kd.R_slice h;injection he with _ he _;omega
 ·obtain ⟨A,c,he⟩:=Kd.R_slice h;injection he with e1 e2 e3;exact ⟨g,cap,by rw [e2],hb⟩
theorem SwS.drewN {wk w0 W:World}{gf ga gr gi go:Nat}{a i0 i1:Int}{v:Value}{xs:List S74}(h:SwS wk w0 gf ga gr gi go a i0 i1 v xs W)(n:Nat):SwS wk w0 gf ga gr gi go a i0 i1 v xs (W.drewN n) where
 bel:=ad_ h.bel n
 A:=h.A
 I:=h.I
 O:=h.O
 R:=h.R
 row:=Kd.R_drewN h.row n
 la:=h.la
 li:=h.li
 lo:=h.lo
 keep:=h.keep
theorem SwS.seg {wk w0 W:World}{gf ga gr gi go g c:Nat}{a i0 i1:Int}{xs:List S74}(h:SwS wk w0 gf ga gr gi go a i0 i1 (.slice (some ⟨g,0,none⟩) xs.length c) xs W)(hn:0<xs.length)(u:Int):
  SwS wk w0 gf ga gr gi go a i0 i1 (.slice (some ⟨g,0,none⟩) xs.length c) (xs.set (xs.length - 1) ⟨(al_ xs ((xs.length:Int) - 1)).f0,u⟩) (W.setCell ⟨g,(xs.length - 1)*2+1,none⟩ (.int .i64 u)):=by
 obtain ⟨cs,hcl,hcM,hcc,hcf⟩:=Kd.R_elem h.row z74 ((xs.length:Int) - 1) (by omega) (by omega);obtain rfl:=dz_ hcM;have hi:((xs.length:Int) - 1).toNat=xs.length - 1:=by omega
 have hs:k74.sz=2:=rfl;have hfin:=Kd.R_seg h.row ((xs.length:Int) - 1) (by omega) (by omega) hcl hcc (seg:=[.int .i64 u]) (j:=1) (by rw [hs];simp) (x':=⟨(al_ xs ((xs.length:Int) - 1)).f0,u⟩) (okp:=fun _=>False) (dy_ W w0.heap.size _ ⟨(al_ xs ((xs.length:Int) - 1)).f0,u⟩) (fun _ hk=>hk.elim);rw [hi,hs] at hfin;obtain ⟨hrow,hgr⟩:=hfin;have hrow:Kd.R k74 74 (W.setCell ⟨g,(xs.length - 1)*2+1,none⟩ (.int .i64 u)) w0.heap.size (fun _=>True) (.slice (some ⟨g,0,none⟩) xs.length c) (xs.set (xs.length - 1) ⟨(al_ xs ((xs.length:Int) - 1)).f0,u⟩):=hrow;obtain ⟨cells,hc⟩:=R_type h.row g (by simp [Value.ownBlock]);have hb:w0.heap.size<=g:=Kd.R_base h.row g (by simp [Value.ownBlock]);exact ⟨h.bel.setCell hb _,bj_ h.A (p:=⟨g,_,none⟩) (dq_ h.A hc (by decide)) _,bj_ h.I (p:=⟨g,_,none⟩) (dq_ h.I hc (by decide)) _,bj_ h.O (p:=⟨g,_,none⟩) (dq_ h.O hc (by decide)) _,bj_ h.R (p:=⟨g,_,none⟩) (dq_ h.R hc (by decide)) _,hrow,h.la,h.li,h.lo,fun q cs hq=>bj_ (h.keep q cs hq) (p:=⟨g,_,none⟩) (dq_ (h.keep q cs hq) hc (by decide)) _⟩
theorem tell_join {wk w0 w:World}{gf ga gr gi go:Nat}{a i0 i1 tt:Int}{v:Value}{xs:List S74}(h:SwS wk w0 gf ga gr gi go a i0 i1 v xs w)(hlt:a<tt)(hbd:0<=a∧tt<=1114112)(hn:0<xs.length)(hz:xs.length<=100000)(hj:(al_ xs ((xs.length:Int) - 1)).f1=a - 1)
  (eg: ∀ args w,(callFunc gf args).run Tryz.prog w=.ok (.enter gf args) w) (hr: ∀ W,Calls Tryz.prog gf #[.bool (decide (0<i0)),.bool (decide (0<i1))] W fun e w'=>e=.returned (.bool true)∧w'=W):
  Calls Tryz.prog 141 #[.int .i64 tt,.pointer (some ⟨ga,0,none⟩),.pointer (some ⟨gr,0,none⟩),.pointer (some ⟨gi,0,none⟩),.pointer (some ⟨go,0,none⟩)] w fun e w'=>e=.returned (.tuple #[])∧SwS wk w0 gf ga gr gi go tt i0 i1 v (xs.set (xs.length - 1) ⟨(al_ xs ((xs.length:Int) - 1)).f0,tt - 1⟩) w':=by
 have hd:decide (a<tt)=true:=dt__ hlt;have ca:w.cell? ⟨ga,0,none⟩=some (.int .i64 a):=(af_ h.A 0).trans rfl;have ci0:w.cell? ⟨gi,0,none⟩=some (.int .i64 i0):=(af_ h.I 0).trans rfl;have ci1:w.cell? ⟨gi,1,none⟩=some (.int .i64 i1):=(af_ h.I 1).trans rfl;have cr:w.cell? ⟨gr,0,none⟩=some (.func (.func gf) #[] #[]):=(af_ h.R 0).trans rfl;obtain ⟨g,c,rfl,hg⟩:=R_place h.row hn;have co:w.cell? ⟨go,0,none⟩=some (.slice (some ⟨g,0,none⟩) xs.length c):=(af_ h.O 0).trans rfl;have fa:=aa_ h.A 0;obtain ⟨cs,hcl,hcM,hcc,hcf⟩:=Kd.R_elem h.row z74 ((xs.length:Int) - 1) (by omega) (by omega);obtain rfl:=dz_ hcM;have hi:((xs.length:Int) - 1).toNat=xs.length - 1:=by omega
 have c1:w.cell? ⟨g,(xs.length - 1)*2+1,none⟩=some (.int .i64 (a - 1)):=by
  have:=hcc 1 _ rfl;rw [hi] at this;rw [←hj];unfold al_;rw [hi];exact this
 have f1:w.frozen? ⟨g,(xs.length - 1)*2+1,none⟩=false:=by
  have:=hcf 1;rw [hi] at this;exact this
 have H:=Sd.m h;have HR:=Sd.m hr;have b1:decide (0<(xs.length:Int))=true:=by simp;omega
 have b1':decide (0<xs.length)=true:=by simp;omega
 have w1:IntKind.i64.wrap ((xs.length:Int) - 1)=(xs.length:Int) - 1:=IntWalk.i64_in _ (by omega);have w2:IntKind.i64.wrap (a - 1)=a - 1:=IntWalk.i64_in _ (by omega);have w3:IntKind.i64.wrap (tt - 1)=tt - 1:=IntWalk.i64_in _ (by omega);have q0:0<=(xs.length:Int) - 1:=by omega
 have q1:(xs.length:Int) - 1<(xs.length:Int):=by omega
 have e1:((a - 1) == (a - 1))=true:=by simp
 clear h hlt hr hcc hcf hcM hcl hj;go_enter Tryz.func141,Tryz.ntmps141;go_wp2_with fail;refine (HR.out _).mono ?_;rintro e w' ⟨rfl,rfl⟩;go_wp2_with fail;go_quiet (fail);go_wp2_with fail
 go_end0
 exact ⟨rfl,((H.out.drewN nq).seg hn (tt - 1)).putA tt⟩
theorem info74:(Tryz.prog.info? 74).map (fun i=>(i.zero,i.size,i.bytes))=some (some (.agg #[.int .i64 0,.int .i64 0]),2,16):=by kernel_rfl
theorem SwS.grown {wk w0 W W1:World}{gf ga gr gi go:Nat}{a i0 i1:Int}{v v1:Value}{xs ys:List S74}(h:SwS wk w0 gf ga gr gi go a i0 i1 v xs W)(hb:Below w0.heap.size w0 W1)(hg:W.grownBy W1 v.ownBlock)(hr:Kd.R k74 74 W1 w0.heap.size (fun _=>True) v1 ys):
  SwS wk w0 gf ga gr gi go a i0 i1 v1 ys (W1.setCell ⟨go,0,none⟩ v1)∧W1.heap[ga]? =some (.cells #[.int .i64 a] 3 (0,0))∧W1.heap[go]? =some (.cells #[v] 37 (0,0)):=by
 have ne: ∀ {g t:Nat} {cs:Array Value},W.heap[g]? =some (.cells cs t (0,0))->t≠74->some g≠v.ownBlock:=by
  intro g t cs hg ht he;obtain ⟨cells,hc⟩:=R_type h.row g he.symm;rw [hg] at hc;injection hc with hc;injection hc with _ hc;exact ht hc
 have A:=cl_ h.A hg (ne h.A (by decide));have I:=cl_ h.I hg (ne h.I (by decide));have O:=cl_ h.O hg (ne h.O (by decide));have R:=cl_ h.R hg (ne h.R (by decide));exact ⟨⟨hb.setCell h.lo _,bj_ A (p:=⟨go,0,none⟩) (dq_ A O (by decide)) _,bj_ I (p:=⟨go,0,none⟩) (dq_ I O (by decide)) _,cj_ O 0 _ rfl,bj_ R (p:=⟨go,0,none⟩) (dq_ R O (by decide)) _,R_other rfl hr O (by decide) _,h.la,h.li,h.lo,fun q cs hq=>by
  have K:=cl_ (h.keep q cs hq) hg (ne (h.keep q cs hq) (by decide));exact bj_ K (p:=⟨go,0,none⟩) (dq_ K O (by decide)) _⟩,A,O⟩
theorem tell_app0 {wk w0 w:World}{gf ga gr gi go:Nat}{a i0 i1 tt:Int}{v:Value}{xs:List S74}(h:SwS wk w0 gf ga gr gi go a i0 i1 v xs w)(hlt:a<tt)(hbd:0<=a∧tt<=1114112)(hz:xs.length<=100000)(hn:xs.length=0)
  (eg: ∀ args w,(callFunc gf args).run Tryz.prog w=.ok (.enter gf args) w) (hr: ∀ W,Calls Tryz.prog gf #[.bool (decide (0<i0)),.bool (decide (0<i1))] W fun e w'=>e=.returned (.bool true)∧w'=W):
  Calls Tryz.prog 141 #[.int .i64 tt,.pointer (some ⟨ga,0,none⟩),.pointer (some ⟨gr,0,none⟩),.pointer (some ⟨gi,0,none⟩),.pointer (some ⟨go,0,none⟩)] w fun e w'=>e=.returned (.tuple #[])∧ ∃ v1,SwS wk w0 gf ga gr gi go tt i0 i1 v1 (xs ++ [⟨a,tt - 1⟩]) w':=by
 have hd:decide (a<tt)=true:=dt__ hlt;have ca:w.cell? ⟨ga,0,none⟩=some (.int .i64 a):=(af_ h.A 0).trans rfl;have ci0:w.cell? ⟨gi,0,none⟩=some (.int .i64 i0):=(af_ h.I 0).trans rfl;have ci1:w.cell? ⟨gi,1,none⟩=some (.int .i64 i1):=(af_ h.I 1).trans rfl;have cr:w.cell? ⟨gr,0,none⟩=some (.func (.func gf) #[] #[]):=(af_ h.R 0).trans rfl;obtain ⟨A,c,rfl⟩:=Kd.R_slice h.row;have co:w.cell? ⟨go,0,none⟩=some (.slice A xs.length c):=(af_ h.O 0).trans rfl;have b1:decide ((0:Int)<(xs.length:Int))=false:=df__ (by omega);have b1':decide (0<xs.length)=false:=df__ (by omega);clear hn;have w3:IntKind.i64.wrap (tt - 1)=tt - 1:=IntWalk.i64_in _ (by omega);have hsz:w0.heap.size<=w.heap.size:=h.bel.size;have H:=Sd.m h;have HR:=Sd.m hr;clear h hlt hr;go_enter Tryz.func141,Tryz.ntmps141;go_wp2_with fail;refine (HR.out _).mono ?_;rintro e w' ⟨rfl,rfl⟩;go_wp2_with fail;go_quiet (fail);go_wp2_with ((with_reducible refine bi_ (b:=.append) (xs:=#[.tmp 42,.tmp 47]) rfl ?_);at_builtin;refine Kd.R_append k74 (w0:=w0) w0.heap.size rfl (.tmp 42) (.tmp 47) 37 74 (.agg #[.int .i64 0,.int .i64 0]) 16 rfl Tryz.underlying37 info74 rfl (by decide) (by omega) _ xs ⟨a,tt - 1⟩ [.int .i64 a,.int .i64 (tt - 1)] (fun _=>True) (fun _=>False) rfl rfl ?aP (fun _ hk=>hk.elim) ?aF ?aO ?aB ?aS ?aL ?_;(case aP=>exact dy_ _ _ _ ⟨a,tt - 1⟩);(case aF=>exact fun _ _=>trivial);(case aO=>exact (H.out.drewN _).row);(case aB=>exact (H.out.drewN _).bel);(case aS=>exact hsz);(case aL=>omega);intro v1 w1 hR hb hg hat;obtain ⟨A1_,c1_,rfl⟩:=Kd.R_slice hR;obtain ⟨S1,A1,O1⟩:=(H.out.drewN _).grown hb hg hR;have S2:=Sd.m S1;clear S1 hR hb hg hat;have fo:=aa_ O1 0;have co1:w1.cell? ⟨go,0,none⟩=some (.slice A xs.length c):=(af_ O1 0).trans rfl;have ga1:=aa_ A1 0;have ca1:w1.cell? ⟨ga,0,none⟩=some (.int .i64 a):=(af_ A1 0).trans rfl;have ne1:ga≠go:=dq_ A1 O1 (by decide))
 go_end0
 have S3:=S2.out;rw [show (xs ++ [(⟨a,tt - 1⟩:S74)]).length=xs.length+1 from by simp] at S3;exact ⟨rfl,_,S3.putA tt⟩
theorem tell_app1 {wk w0 w:World}{gf ga gr gi go:Nat}{a i0 i1 tt:Int}{v:Value}{xs:List S74}(h:SwS wk w0 gf ga gr gi go a i0 i1 v xs w)(hlt:a<tt)(hbd:0<=a∧tt<=1114112)(hz:xs.length<=100000)(hn:0<xs.length)(hj:¬ (al_ xs ((xs.length:Int) - 1)).f1=a - 1)
  (eg: ∀ args w,(callFunc gf args).run Tryz.prog w=.ok (.enter gf args) w) (hr: ∀ W,Calls Tryz.prog gf #[.bool (decide (0<i0)),.bool (decide (0<i1))] W fun e w'=>e=.returned (.bool true)∧w'=W):
  Calls Tryz.prog 141 #[.int .i64 tt,.pointer (some ⟨ga,0,none⟩),.pointer (some ⟨gr,0,none⟩),.pointer (some ⟨gi,0,none⟩),.pointer (some ⟨go,0,none⟩)] w fun e w'=>e=.returned (.tuple #[])∧ ∃ v1,SwS wk w0 gf ga gr gi go tt i0 i1 v1 (xs ++ [⟨a,tt - 1⟩]) w':=by
 have hd:decide (a<tt)=true:=dt__ hlt;have ca:w.cell? ⟨ga,0,none⟩=some (.int .i64 a):=(af_ h.A 0).trans rfl;have ci0:w.cell? ⟨gi,0,none⟩=some (.int .i64 i0):=(af_ h.I 0).trans rfl;have ci1:w.cell? ⟨gi,1,none⟩=some (.int .i64 i1):=(af_ h.I 1).trans rfl;have cr:w.cell? ⟨gr,0,none⟩=some (.func (.func gf) #[] #[]):=(af_ h.R 0).trans rfl;obtain ⟨g,c,rfl,hg⟩:=R_place h.row hn;have co:w.cell? ⟨go,0,none⟩=some (.slice (some ⟨g,0,none⟩) xs.length c):=(af_ h.O 0).trans rfl;obtain ⟨cs,hcl,hcM,hcc,hcf⟩:=Kd.R_elem h.row z74 ((xs.length:Int) - 1) (by omega) (by omega);obtain rfl:=dz_ hcM;have hi:((xs.length:Int) - 1).toNat=xs.length - 1:=by omega
 have c1:w.cell? ⟨g,(xs.length - 1)*2+1,none⟩=some (.int .i64 (al_ xs ((xs.length:Int) - 1)).f1):=by
  have:=hcc 1 _ rfl;rw [hi] at this;unfold al_;rw [hi];exact this
 generalize (al_ xs ((xs.length:Int) - 1)).f1=y at hj c1;have b1:decide (0<(xs.length:Int))=true:=dt__ (by omega);have b1':decide (0<xs.length)=true:=dt__ hn;have w1:IntKind.i64.wrap ((xs.length:Int) - 1)=(xs.length:Int) - 1:=IntWalk.i64_in _ (by omega);have w2:IntKind.i64.wrap (a - 1)=a - 1:=IntWalk.i64_in _ (by omega);have q0:0<=(xs.length:Int) - 1:=by omega
 have q1:(xs.length:Int) - 1<(xs.length:Int):=by omega
 have e1:(y == (a - 1))=false:=beq_eq_false_iff_ne.2 hj;have w3:IntKind.i64.wrap (tt - 1)=tt - 1:=IntWalk.i64_in _ (by omega);have hsz:w0.heap.size<=w.heap.size:=h.bel.size;have H:=Sd.m h;have HR:=Sd.m hr;clear h hlt hr hj hcc hcf hcM hcl;go_enter Tryz.func141,Tryz.ntmps141;go_wp2_with fail;refine (HR.out _).mono ?_;rintro e w' ⟨rfl,rfl⟩;go_wp2_with fail;go_quiet (fail);go_wp2_with ((with_reducible refine bi_ (b:=.append) (xs:=#[.tmp 42,.tmp 47]) rfl ?_);at_builtin;refine Kd.R_append k74 (w0:=w0) w0.heap.size rfl (.tmp 42) (.tmp 47) 37 74 (.agg #[.int .i64 0,.int .i64 0]) 16 rfl Tryz.underlying37 info74 rfl (by decide) (by omega) _ xs ⟨a,tt - 1⟩ [.int .i64 a,.int .i64 (tt - 1)] (fun _=>True) (fun _=>False) rfl rfl ?aP (fun _ hk=>hk.elim) ?aF ?aO ?aB ?aS ?aL ?_;(case aP=>exact dy_ _ _ _ ⟨a,tt - 1⟩);(case aF=>exact fun _ _=>trivial);(case aO=>exact (H.out.drewN _).row);(case aB=>exact (H.out.drewN _).bel);(case aS=>exact hsz);(case aL=>omega);intro v1 w2_ hR hb hgr hat;obtain ⟨A1_,c1_,rfl⟩:=Kd.R_slice hR;obtain ⟨S1,A1,O1⟩:=(H.out.drewN _).grown hb hgr hR;have S2:=Sd.m S1;clear S1 hR hb hgr hat;have fo:=aa_ O1 0;have co1:w2_.cell? ⟨go,0,none⟩=some (.slice (some ⟨g,0,none⟩) xs.length c):=(af_ O1 0).trans rfl;have ga1:=aa_ A1 0;have ca1:w2_.cell? ⟨ga,0,none⟩=some (.int .i64 a):=(af_ A1 0).trans rfl;have ne1:ga≠go:=dq_ A1 O1 (by decide))
 go_end0
 have S3:=S2.out;rw [show (xs ++ [(⟨a,tt - 1⟩:S74)]).length=xs.length+1 from by simp] at S3;exact ⟨rfl,_,S3.putA tt⟩
theorem em_ {wk w0 w:World}{gf ga gr gi go:Nat}{rb:Bool->Bool->Bool}{a i0 i1 tt:Int}{v:Value}{xs:List S74}(h:SwS wk w0 gf ga gr gi go a i0 i1 v xs w)(hbd:0<=a∧tt<=1114112)(hz:xs.length<=100000)
  (eg: ∀ args w,(callFunc gf args).run Tryz.prog w=.ok (.enter gf args) w) (hr: ∀ x y W,Calls Tryz.prog gf #[.bool x,.bool y] W fun e w'=>e=.returned (.bool (rb x y))∧w'=W):
  Calls Tryz.prog 141 #[.int .i64 tt,.pointer (some ⟨ga,0,none⟩),.pointer (some ⟨gr,0,none⟩),.pointer (some ⟨gi,0,none⟩),.pointer (some ⟨go,0,none⟩)] w fun e w'=>e=.returned (.tuple #[])∧ ∃ v1,SwS wk w0 gf ga gr gi go tt i0 i1 v1 (tellF (rb (decide (0<i0)) (decide (0<i1))) a tt xs) w':=by
 unfold tellF;by_cases hlt:a<tt
 ·have hr':=hr (decide (0<i0)) (decide (0<i1));cases hb:rb (decide (0<i0)) (decide (0<i1)) with
  | false=>
   rw [hb] at hr';rw [if_neg (by simp)];exact (tell_no h hlt eg hr').mono fun _ _ ⟨he,hs⟩=>⟨he,_,hs⟩
  | true=>
   rw [hb] at hr';rw [if_pos ⟨hlt,rfl⟩];by_cases hn:0<xs.length
   ·by_cases hj:(al_ xs ((xs.length:Int) - 1)).f1=a - 1
    ·rw [if_pos ⟨hn,hj⟩];exact (tell_join h hlt hbd hn hz hj eg hr').mono fun _ _ ⟨he,hs⟩=>⟨he,_,hs⟩
    ·rw [if_neg (fun q=>hj q.2)];exact tell_app1 h hlt hbd hz hn hj eg hr'
   ·rw [if_neg (fun q=>hn q.1)];exact tell_app0 h hlt hbd hz (by omega) eg hr'
 ·rw [if_neg (fun q=>hlt q.1)];exact (tell_skip h hlt).mono fun _ _ ⟨he,hs⟩=>⟨he,_,hs⟩
theorem rule_or (x y:Bool)(W:World):Calls Tryz.prog 185 #[.bool x,.bool y] W fun e w'=>e=.returned (.bool (x || y))∧w'=W:=by
 cases x <;> cases y <;> (go_enter Tryz.func185,Tryz.ntmps185;go_wp2_with fail;go_ret;exact ⟨rfl,rfl⟩)
theorem rule_and (x y:Bool)(W:World):Calls Tryz.prog 143 #[.bool x,.bool y] W fun e w'=>e=.returned (.bool (x && y))∧w'=W:=by
 cases x <;> cases y <;> (go_enter Tryz.func143,Tryz.ntmps143;go_wp2_with fail;go_ret;exact ⟨rfl,rfl⟩)
theorem rule_less (x y:Bool)(W:World):Calls Tryz.prog 144 #[.bool x,.bool y] W fun e w'=>e=.returned (.bool (x && !y))∧w'=W:=by
 cases x <;> cases y <;> (go_enter Tryz.func144,Tryz.ntmps144;go_wp2_with fail;go_ret;exact ⟨rfl,rfl⟩)
theorem rule_not (x y:Bool)(W:World):Calls Tryz.prog 111 #[.bool x,.bool y] W fun e w'=>e=.returned (.bool (!x))∧w'=W:=by
 cases x <;> cases y <;> (go_enter Tryz.func111,Tryz.ntmps111;go_wp2_with fail;go_ret;exact ⟨rfl,rfl⟩)
theorem nan (x:Int)(W:World):Calls Tryz.prog 117 #[.int .i64 x] W fun e w'=>e=.returned (.bool false)∧w'=W:=by
 have h:(x != x)=false:=by simp
 go_enter Tryz.func117,Tryz.ntmps117;go_wp2_with fail;go_ret;exact ⟨rfl,rfl⟩
def cmpI (x y:Int):Int:=if x<y then -1 else if y<x then 1 else 0
theorem cmp_int (x y:Int)(W:World):Calls Tryz.prog 80 #[.int .i64 x,.int .i64 y] W fun e w'=>e=.returned (.int .i64 (cmpI x y))∧w'=W:=by
 unfold cmpI;by_cases h1:x<y
 ·rw [if_pos h1];have b1:decide (x<y)=true:=dt__ h1;clear h1;go_enter Tryz.func80,Tryz.ntmps80;go_wp2_with fail;refine (nan _ _).mono ?_;rintro e w' ⟨rfl,rfl⟩;go_wp2_with fail;refine (nan _ _).mono ?_;rintro e w2 ⟨rfl,rfl⟩;go_wp2_with fail;go_ret;exact ⟨rfl,rfl⟩
 ·rw [if_neg h1];have b1:decide (x<y)=false:=df__ h1;clear h1;by_cases h2:y<x
  ·rw [if_pos h2];have b2:decide (y<x)=true:=dt__ h2;clear h2;go_enter Tryz.func80,Tryz.ntmps80;go_wp2_with fail;refine (nan _ _).mono ?_;rintro e w' ⟨rfl,rfl⟩;go_wp2_with fail;refine (nan _ _).mono ?_;rintro e w2 ⟨rfl,rfl⟩;go_wp2_with fail;go_ret;exact ⟨rfl,rfl⟩
  ·rw [if_neg h2];have b2:decide (y<x)=false:=df__ h2;clear h2;go_enter Tryz.func80,Tryz.ntmps80;go_wp2_with fail;refine (nan _ _).mono ?_;rintro e w' ⟨rfl,rfl⟩;go_wp2_with fail;refine (nan _ _).mono ?_;rintro e w2 ⟨rfl,rfl⟩;go_wp2_with fail;go_ret;exact ⟨rfl,rfl⟩
theorem cmp_step (x y:S173)(W:World):Calls Tryz.prog 140 #[.agg #[.int .i64 x.f0,.int .i64 x.f1,.int .i64 x.f2],.agg #[.int .i64 y.f0,.int .i64 y.f1,.int .i64 y.f2]] W fun e w'=>e=.returned (.int .i64 (cmpI x.f0 y.f0))∧w'=(W.alloc (.cells #[.int .i64 x.f0,.int .i64 x.f1,.int .i64 x.f2] 173)).alloc (.cells #[.int .i64 y.f0,.int .i64 y.f1,.int .i64 y.f2] 173):=by
 have hc:=fun W'=>cmp_int x.f0 y.f0 W';generalize cmpI x.f0 y.f0=r at hc ⊢;have HC:=Sd.m hc;clear hc;go_enter Tryz.func140,Tryz.ntmps140;go_wp2_with fail;refine (HC.out _).mono ?_;rintro e w' ⟨rfl,rfl⟩;go_wp2_with fail;go_ret;exact ⟨rfl,rfl⟩
open Shelf Go.Sort Lib
section
variable {α:Type} [Inhabited α] (enc:α->List Value) (k:Nat) (hk0:0<k) (hk: ∀ x,(enc x).length=k)
include hk0 hk
theorem flat_at (d:Array α)(j:Nat)(hj:j<d.size)(i:Nat)(hi:i<k):(flatK enc k d).toList[j*k+i]? =(enc d[j]!)[i]? :=by
 have hlt:j*k+i<d.size*k:=by
  have:(j+1)*k<=d.size*k:=Nat.mul_le_mul_right _ hj;rw [Nat.add_mul,Nat.one_mul] at this;omega
 have h1:=get_flatK enc k d (j*k+i) hlt;have e1:(j*k+i) / k=j:=by
  rw [Nat.mul_comm,Nat.mul_add_div hk0,Nat.div_eq_of_lt hi,Nat.add_zero]
 have e2:(j*k+i) % k=i:=by
  rw [Nat.mul_comm,Nat.mul_add_mod,Nat.mod_eq_of_lt hi]
 rw [e1,e2] at h1;have hs:j*k+i<(flatK enc k d).size:=by simpa using hlt
 rw [getElem!_pos (flatK enc k d) (j*k+i) hs,getElem!_pos (enc d[j]!) i (by rw [hk];exact hi)] at h1;rw [Array.getElem?_toList,Array.getElem?_eq_getElem hs,h1,List.getElem?_eq_getElem (by rw [hk];exact hi)]
theorem flat_reps (d:Array α){R:α->List Value->Prop}(hR: ∀ x,R x (enc x)):Reps R k d.toList (flatK enc k d).toList:=by
 refine ⟨by simp,fun j p hj=>?_⟩;have hjs:j<d.size:=by
  have:=(List.getElem?_eq_some_iff.1 hj).1;simpa using this
 have hp:d[j]! =p:=by
  rw [getElem!_pos d j hjs];have:=(List.getElem?_eq_some_iff.1 hj).2;simpa using this
 have:((flatK enc k d).toList.drop (j*k)).take k=enc p:=by
  apply List.ext_getElem?;intro i;rw [List.getElem?_take];by_cases hi:i<k
  ·rw [if_pos hi,List.getElem?_drop,flat_at enc k hk0 hk d j hjs i hi,hp]
  ·rw [if_neg hi,List.getElem?_eq_none (by rw [hk];omega)]
 rw [this];exact hR p
variable {d:Kd α} (hsz:d.sz=k)
include hsz
theorem holds_R {w:World}{base e g n cap:Nat}{ok:Nat->Prop}{xs:List α}(hopen: ∀ {w x cs},d.K w x cs->cs=enc x)(h:Kd.R d e w base ok (.slice (some ⟨g,0,none⟩) n cap) xs):HoldsK enc k w g 0 xs.toArray:=by
 obtain ⟨hn,hnc,hC⟩:=Kd.R_reads' h;obtain ⟨cells,hb⟩: ∃ cells,w.heap[g]? =some (.cells cells e (0,0)):=by
  obtain ⟨inner,ho⟩:=Kd.R_own h;exact fn_ ho g (by simp [Value.ownBlock])
 intro j hj;have hj':j<xs.length*k:=by simpa using hj
 have hxl:0<xs.length:=by
  rcases Nat.eq_zero_or_pos xs.length with h0 | h0
  ·rw [h0] at hj';simp at hj'
  ·exact h0
 refine ⟨?_,aa_ hb _⟩;obtain ⟨ad,hA,hcell⟩:=hC.2.2 hxl;injection hA with hA;subst hA;have hq:j / k<xs.length:=(Nat.div_lt_iff_lt_mul hk0).2 hj';have hm:j % k<k:=Nat.mod_lt _ hk0;obtain ⟨c,hcl,hcK,hcc⟩:=hcell (j / k) _ (List.getElem?_eq_getElem hq);obtain rfl:=hopen hcK;have e1:j / k*k+j % k=j:=by rw [Nat.mul_comm];exact Nat.div_add_mod j k
 have h2:=hcc (j % k) _ (List.getElem?_eq_getElem (by rw [hk];exact hm));rw [hsz,e1,add_plain] at h2;have h1:=get_flatK enc k xs.toArray j (by simpa using hj');show w.cell? ⟨g,0+j,none⟩=some (flatK enc k xs.toArray)[j]!;rw [h1,Nat.zero_add,h2];congr 1;have e2:xs.toArray[j / k]! =xs[j / k]:=by rw [getElem!_pos xs.toArray (j / k) (by simpa using hq)];simp
 rw [e2,getElem!_pos (enc xs[j / k]) (j % k) (by rw [hk];exact hm)]
theorem sorted_R {w:World}{base e g n cap m:Nat}{ok:Nat->Prop}{xs:List α}{ys:Array α}{os:Array Obj}(hmk: ∀ w base ok x,d.M w base ok x (enc x))(h:Kd.R d e w base ok (.slice (some ⟨g,0,none⟩) n cap) xs)(hy:ys.size=xs.length):
  Kd.R d e (sortWorldK enc k w g 0 m ys os) base ok (.slice (some ⟨g,0,none⟩) n cap) ys.toList:=by
 obtain ⟨hok,inner,⟨ho1,ho2⟩,hr⟩:=h;rcases ho2 with ⟨hv,_⟩ | ⟨g',cap',cur,hv,hb,hh,hn,hcm,hcs,ht⟩
 ·cases hv
 injection hv with ha hl hc;injection ha with ha;injection ha with ha;subst ha;subst hc;have hl':n=ys.toList.length:=by rw [hl];simp [hy]
 have hlt:g<w.heap.size:=cc_ hh;refine ⟨hok,(flatK enc k ys).toList,⟨by simp [hsz],.inr ⟨g,cap,putCells id 0 (flatK enc k ys) cur,by rw [hl'],hb,?_,by simpa [hy] using hn,hcm,by simpa [putCells] using hcs,?_⟩⟩,by rw [hsz];exact flat_reps enc k hk0 hk ys (fun x=>hmk _ _ _ x)⟩
 ·have:((Sort.ahead w m).heap.modify g (onCells (putCells id 0 (flatK enc k ys))))[g]? =some (.cells (putCells id 0 (flatK enc k ys) cur) e (0,0)):=by
   simp [Sort.ahead,Array.getElem?_modify,hh,onCells]
  show ((Sort.ahead w m).heap.modify g (onCells (putCells id 0 (flatK enc k ys))) ++ os)[g]? =_;rw [Array.getElem?_append_left (by simpa [Sort.ahead] using hlt)];exact this
 ·apply List.ext_getElem?;intro j;have hys:ys.toList.length=ys.size:=by simp
  rw [List.getElem?_take,hsz,hys];by_cases hj:j<ys.size*k
  ·have hjc:j<cur.size:=by
    rw [hcs,hsz];have:ys.size*k<=cap*k:=Nat.mul_le_mul_right _ (by rw [hy];exact hn);omega
   rw [if_pos hj,Array.getElem?_toList,Array.getElem?_toList];simp only [putCells,Array.getElem?_mapIdx,Array.getElem?_eq_getElem hjc,Option.map_some];rw [if_pos (by simp;exact hj),Array.getElem?_eq_getElem (by simpa using hj)];simp [getElem!_pos,hj]
  ·rw [if_neg hj,List.getElem?_eq_none (by simp;omega)]
omit hk0 hk hsz in
theorem sorted_below {w0 w:World}{B g m:Nat}{ys:Array α}{os:Array Obj}(h:Below B w0 w)(hg:B<=g)(hgw:g<w.heap.size):Below B w0 (sortWorldK enc k w g 0 m ys os):=by
 refine ⟨h.os,h.tape,h.output,?_,fun q hq=>?_⟩
 ·have:=h.size;show _<=((Sort.ahead w m).heap.modify g (onCells (putCells id 0 (flatK enc k ys))) ++ os).size;simp [Sort.ahead];omega
 ·rw [←h.block q hq];show ((Sort.ahead w m).heap.modify g (onCells (putCells id 0 (flatK enc k ys))) ++ os)[q]? =_;rw [Array.getElem?_append_left (by simp [Sort.ahead];omega)];simp [Sort.ahead,Array.getElem?_modify,show g≠q by omega]
end
instance:Inhabited S173:=⟨z173⟩
def enc173 (x:S173):List Value:=[.int .i64 x.f0,.int .i64 x.f1,.int .i64 x.f2]
theorem lt68 (x y:S173):ltOf (fun x y:S173=>cmpI x.f0 y.f0) x y=decide (x.f0<y.f0):=by
 unfold ltOf cmpI;by_cases h1:x.f0<y.f0
 ·simp [h1]
 ·by_cases h2:y.f0<x.f0 <;> simp [h1,h2]
theorem swo68:SWO (ltOf fun x y:S173=>cmpI x.f0 y.f0) where
 irrefl x:=by rw [lt68];simp
 trans x y z h1 h2:=by rw [lt68] at *;simp at *;omega
 ntrans x y z h1 h2:=by rw [lt68] at *;simp at *;omega
theorem cmpLays68 (blk off size:Nat)(w:World):CmpLays Tryz.prog 140 #[] enc173 3 (fun x y=>cmpI x.f0 y.f0) blk off size w:=
 fun _ _ _ _ x y=>(cmp_step x y _).mono fun e w' ⟨he,hw⟩=>⟨he,0,#[.cells #[.int .i64 x.f0,.int .i64 x.f1,.int .i64 x.f2] 173] ++ #[.cells #[.int .i64 y.f0,.int .i64 y.f1,.int .i64 y.f2] 173],by subst hw;rw [alloc_eq_grow,alloc_eq_grow,grow_grow];rfl⟩
def Rises (l:List S173):Prop:=l.Pairwise fun x y=>x.f0<=y.f0
theorem sort_steps {w0 w:World}{base:Nat}{ok:Nat->Prop}{v:Value}{xs:List S173}(h:Kd.R k173 173 w base ok v xs)(hb:Below base w0 w)(hz:xs.length<4611686018427387904):
  Calls Tryz.prog 139 #[v,.func (.func 140) #[] #[]] w fun e w'=>e=.returned (.tuple #[])∧ ∃ ys,ys.Perm xs∧Rises ys∧Kd.R k173 173 w' base ok v ys∧Below base w0 w'∧w.heap.size<=w'.heap.size∧ ∀ q,q<w.heap.size->some q≠v.ownBlock->w'.heap[q]? =w.heap[q]? :=by
 by_cases hn:0<xs.length
 ·obtain ⟨g,c,rfl,hg⟩:=R_place h hn;have hopen: ∀ {w x cs},k173.K w x cs->cs=enc173 x:=fun h=>jz_ h;have hH:=holds_R enc173 3 (by decide) (fun _=>rfl) (d:=k173) rfl hopen h;have hlt:g<w.heap.size:=Kd.R_lt h g (by simp [Value.ownBlock]);have eg: ∀ args w,(callFunc 140 args).run Tryz.prog w=.ok (.enter 140 args) w:=enters_of Tryz.func140 (by kernel_rfl) rfl;have hc:=AnyQ.slices_SortFunc Tryz.sortStep 3 Tryz.isAgg173 Tryz.sizeOf173 enc173 (fun _=>rfl) (fun x v hv=>by simp [enc173] at hv;rcases hv with rfl | rfl | rfl <;> rfl) (fun x y:S173=>cmpI x.f0 y.f0) swo68 140 #[] g 0 c xs.toArray w eg (cmpLays68 g 0 _ w) hH hlt (by simpa using hz);have hc':Calls Tryz.prog 139 #[.slice (some ⟨g,0,none⟩) xs.length c,.func (.func 140) #[] #[]] w _:=hc;refine hc'.mono ?_;rintro e w' ⟨rfl,d',n,os,⟨hs1,hs2,hs3⟩,hso,rfl⟩;have hsz:d'.size=xs.length:=by simpa using hs1
  refine ⟨rfl,d'.toList,?_,?_,sorted_R enc173 3 (by decide) (fun _=>rfl) rfl (fun w base ok x=>fk_ w base ok x) h hsz,sorted_below enc173 3 hb hg hlt,?_,?_⟩
  ·have e1:d'.extract 0 xs.toArray.size=d':=by rw [←hs1];exact Array.extract_size
   have e2:xs.toArray.extract 0 xs.toArray.size=xs.toArray:=Array.extract_size;rw [e1,e2] at hs3;simpa using hs3
  ·rw [Rises,List.pairwise_iff_getElem];intro i j hi hj hij;have hi':i<d'.size:=by simpa using hi
   have hj':j<d'.size:=by simpa using hj
   have:=hso i j (Nat.zero_le _) hij (by rw [List.size_toArray];omega);rw [lt68,getElem!_pos d' j hj',getElem!_pos d' i hi'] at this;have:=of_decide_eq_false this;simp only [Array.getElem_toList];omega
  ·show _<=((Sort.ahead w n).heap.modify g _ ++ os).size;simp [Sort.ahead]
  ·intro q hq hne;have hqg:g≠q:=fun he=>hne (by rw [he];simp [Value.ownBlock]);show ((Sort.ahead w n).heap.modify g _ ++ os)[q]? =_;rw [Array.getElem?_append_left (by simp [Sort.ahead];omega)];simp [Sort.ahead,Array.getElem?_modify,hqg]
 ·obtain rfl:xs=[]:=List.eq_nil_of_length_eq_zero (by omega);obtain ⟨A,c,rfl⟩:=Kd.R_slice h;have hc:=AnyF.slices_SortFunc_none Tryz.sortStep A c (.func (.func 140) #[] #[]) w;have hc':Calls Tryz.prog 139 #[.slice A (List.length ([]:List S173)) c,.func (.func 140) #[] #[]] w _:=hc;refine hc'.mono ?_;rintro e w' ⟨rfl,rfl⟩;exact ⟨rfl,[],List.Perm.refl _,List.Pairwise.nil,h,hb,Nat.le_refl _,fun _ _ _=>rfl⟩
def runF (rb:Bool->Bool->Bool):List S173->Int->Int->Int->List S74->List S74
 | [],a,i0,i1,xs=>tellF (rb (decide (0<i0)) (decide (0<i1))) a 1114112 xs
 | s :: r,a,i0,i1,xs=>runF rb r s.f0 (if s.f1=0 then i0+s.f2 else i0) (if s.f1=0 then i1 else i1+s.f2) (tellF (rb (decide (0<i0)) (decide (0<i1))) a s.f0 xs)
def StepOk (s:S173):Prop:=0<=s.f0∧s.f0<=1114112∧(s.f1=0∨s.f1=1)∧ -1<=s.f2∧s.f2<=1
theorem info173':(Tryz.prog.info? 173).map (fun i=>(i.zero,i.size,i.bytes))=some (some (.agg #[.int .i64 0,.int .i64 0,.int .i64 0]),3,24):=by kernel_rfl
theorem SwS.alloc {wk w0 W:World}{gf ga gr gi go:Nat}{a i0 i1:Int}{v:Value}{xs:List S74}(h:SwS wk w0 gf ga gr gi go a i0 i1 v xs W)(o:Obj):SwS wk w0 gf ga gr gi go a i0 i1 v xs (W.alloc o) where
 bel:=ab_ h.bel _
 A:=am_ h.A _
 I:=am_ h.I _
 O:=am_ h.O _
 R:=am_ h.R _
 row:=Kd.R_alloc h.row _
 la:=h.la
 li:=h.li
 lo:=h.lo
 keep:=fun q cs hq=>am_ (h.keep q cs hq) _
theorem SwS.base {wk w0 W:World}{gf ga gr gi go:Nat}{a i0 i1:Int}{v:Value}{xs:List S74}(h:SwS wk w0 gf ga gr gi go a i0 i1 v xs W):SwS W w0 gf ga gr gi go a i0 i1 v xs W:={ h with keep:=fun _ _ hq=>hq }
theorem SwS.over {wk wk' w0 W:World}{gf ga gr gi go:Nat}{a i0 i1:Int}{v:Value}{xs:List S74}(h:SwS wk w0 gf ga gr gi go a i0 i1 v xs W)(hk: ∀ (q:Nat) (cs:Array Value),wk'.heap[q]? =some (.cells cs 173 (0,0))->wk.heap[q]? =some (.cells cs 173 (0,0))):SwS wk' w0 gf ga gr gi go a i0 i1 v xs W:={ h with keep:=fun q cs hq=>h.keep q cs (hk q cs hq) }
theorem SwS.putI0 {wk w0 W:World}{gf ga gr gi go:Nat}{a i0 i1:Int}{v:Value}{xs:List S74}(h:SwS wk w0 gf ga gr gi go a i0 i1 v xs W)(b:Int):SwS wk w0 gf ga gr gi go a b i1 v xs (W.setCell ⟨gi,0,none⟩ (.int .i64 b)) where
 bel:=h.bel.setCell h.li _
 A:=bj_ h.A (p:=⟨gi,0,none⟩) (dq_ h.A h.I (by decide)) _
 I:=cj_ h.I 0 _ rfl
 O:=bj_ h.O (p:=⟨gi,0,none⟩) (dq_ h.O h.I (by decide)) _
 R:=bj_ h.R (p:=⟨gi,0,none⟩) (dq_ h.R h.I (by decide)) _
 row:=R_other rfl h.row h.I (by decide) _
 la:=h.la
 li:=h.li
 lo:=h.lo
 keep:=fun q cs hq=>bj_ (h.keep q cs hq) (p:=⟨gi,0,none⟩) (dq_ (h.keep q cs hq) h.I (by decide)) _
theorem SwS.putI1 {wk w0 W:World}{gf ga gr gi go:Nat}{a i0 i1:Int}{v:Value}{xs:List S74}(h:SwS wk w0 gf ga gr gi go a i0 i1 v xs W)(b:Int):SwS wk w0 gf ga gr gi go a i0 b v xs (W.setCell ⟨gi,1,none⟩ (.int .i64 b)) where
 bel:=h.bel.setCell h.li _
 A:=bj_ h.A (p:=⟨gi,1,none⟩) (dq_ h.A h.I (by decide)) _
 I:=cj_ h.I 1 _ rfl
 O:=bj_ h.O (p:=⟨gi,1,none⟩) (dq_ h.O h.I (by decide)) _
 R:=bj_ h.R (p:=⟨gi,1,none⟩) (dq_ h.R h.I (by decide)) _
 row:=R_other rfl h.row h.I (by decide) _
 la:=h.la
 li:=h.li
 lo:=h.lo
 keep:=fun q cs hq=>bj_ (h.keep q cs hq) (p:=⟨gi,1,none⟩) (dq_ (h.keep q cs hq) h.I (by decide)) _
theorem R_keep {w W:World}{base:Nat}{v:Value}{ys:List S173}(h:Kd.R k173 173 w base (fun _=>True) v ys)(hk: ∀ (q:Nat) (cs:Array Value),w.heap[q]? =some (.cells cs 173 (0,0))->W.heap[q]? =some (.cells cs 173 (0,0))):Kd.R k173 173 W base (fun _=>True) v ys:=by
 refine Kd.R_mono (Kd.R_move (Kd.R_bound h) (fun k hk'=>?_)) (fun _ _=>trivial);obtain ⟨_,_,_,q,hq,cells,hc⟩:=hk';rw [show k173.E=[] from rfl,List.mem_singleton] at hq;subst hq;rw [hk k cells hc,hc]
theorem tellF_len (rb:Bool)(a tt:Int)(xs:List S74):(tellF rb a tt xs).length<=xs.length+1:=by
 unfold tellF;split
 ·split
  ·simp
  ·simp
 ·omega
def Lp (rb:Bool->Bool->Bool)(gf:Nat)(w w4:World)(ga gr gi go:Nat)(ys:List S173)(fin:List S74)(u:Value)(W:World):Prop:=
 ∃ (j:Nat) (a i0 i1:Int) (v:Value) (xs:List S74),j<=ys.length∧u=.int .i64 j∧SwS w4 w gf ga gr gi go a i0 i1 v xs W∧runF rb (ys.drop j) a i0 i1 xs=fin∧(0<=a∧a<=1114112)∧(-(j:Int)<=i0∧i0<=j)∧(-(j:Int)<=i1∧i1<=j)∧xs.length<=j
theorem sweep_calls (rb:Bool->Bool->Bool)(gf:Nat)(eg: ∀ args w,(callFunc gf args).run Tryz.prog w=.ok (.enter gf args) w)(hr: ∀ x y W,Calls Tryz.prog gf #[.bool x,.bool y] W fun e w'=>e=.returned (.bool (rb x y))∧w'=W)
  (A0:Option Addr) (c0:Nat) (l0:List S74) (A1:Option Addr) (c1:Nat) (l1:List S74) (w:World) (hr0:Kd.C k74 w A0 l0.length l0) (hc0:l0.length<=c0) (hr1:Kd.C k74 w A1 l1.length l1) (hc1:l1.length<=c1)
  (k:Nat) (s0 s1 ss:List S173) (hss:ss=s0 ++ s1) (h0:bw_.f k l0 0=some s0) (h1:bw_.f k l1 1=some s1) (hok: ∀ s∈ss,StepOk s) (hz:ss.length<=2000):
  Calls Tryz.prog 110 #[.slice A0 l0.length c0,.slice A1 l1.length c1,.func (.func gf) #[] #[]] w fun e w'=> ∃ v ys,e=.returned v∧ys.Perm ss∧Rises ys∧Kd.R k74 74 w' w.heap.size (fun _=>True) v (runF rb ys 0 0 0 [])∧Below w.heap.size w w':=by
 have hz':s0.length+s1.length<=2000:=by rw [hss,List.length_append] at hz;exact hz
 have HSS:=Sd.m hss;clear hss;have HR0:=Sd.m hr0;have HR1:=Sd.m hr1;have HC0:=Sd.m hc0;have HC1:=Sd.m hc1;have H0:=Sd.m h0;have H1:=Sd.m h1;have HOK:=Sd.m hok;have HRB:=Sd.m hr;clear hr0 hr1 hc0 hc1 h0 h1 hok hr;go_enter Tryz.func110,Tryz.ntmps110;go_wp2_with fail;obtain ⟨W0,hW0⟩: ∃ W0,W0=w.alloc (.cells #[.func (.func gf) #[] #[]] 141):=⟨_,rfl⟩;have B0:Below w.heap.size w W0:=by rw [hW0];exact ab_ (Below.refl _ _) _
 have X0:W0.heap[w.heap.size]? =some (.cells #[.func (.func gf) #[] #[]] 141 (0,0)):=by rw [hW0];exact aj_ _ _
 rw [←hW0];clear hW0;have HB0:=Sd.m B0;have HX0:=Sd.m X0;clear B0 X0;refine (bw_.calls k A0 c0 l0 0 s0 W0 (Kd.C_below HR0.out HB0.out) HC0.out H0.out).mono ?_;rintro e W1 ⟨v1,rfl,r1,b1⟩;obtain ⟨P1,p1,rfl⟩:=Kd.R_slice r1;have HX1:=Sd.m (ag_ HX0.out b1);have HB1:=Sd.m (HB0.out.trans (b1.mono HB0.out.size));have HS0:=Sd.m (Kd.R_lower r1 HB0.out.size);clear r1 b1 HX0 HB0;go_wp2_with fail;refine (bw_.calls k A1 c1 l1 1 s1 W1 (Kd.C_below HR1.out HB1.out) HC1.out H1.out).mono ?_;rintro e W2 ⟨v2,rfl,r2,b2⟩;obtain ⟨P2,p2,rfl⟩:=Kd.R_slice r2;have HX2:=Sd.m (ag_ HX1.out b2);have HB2:=Sd.m (HB1.out.trans (b2.mono HB1.out.size));have HS1:=Sd.m (Kd.R_below HS0.out b2);have HT1:=Sd.m (Kd.R_reads' r2);clear r2 b2 HX1 HB1 HS0;go_wp2_with ((with_reducible refine bi_ (b:=.append) (xs:=#[.tmp 15,.tmp 17]) rfl ?_);at_builtin;refine Kd.R_append_rows k173 (Rr:=k173.K W2) (w0:=w) w.heap.size rfl (.tmp 15) (.tmp 17) 169 173 (.agg #[.int .i64 0,.int .i64 0,.int .i64 0]) 24 rfl Tryz.underlying169 info173' rfl (by decide) (by omega) _ s0 s1 P2 s1.length p2 (fun _=>True) (fun _=>False) rfl rfl HS1.out HT1.out.2.2 ?aK (fun _ hk=>hk.elim) ?aF HB2.out HB2.out.size ?aL ?_;(case aK=>intro x cs hx;obtain rfl:=jz_ hx;exact fk_ _ _ _ x);(case aF=>exact fun _ _=>trivial);(case aL=>omega);intro v3 W3 hR3 hb3 hg3 hat3;rw [←HSS.out] at hR3;obtain ⟨P3,p3,rfl⟩:=Kd.R_slice hR3;have ne3:(Value.slice P1 s0.length p1).ownBlock≠some w.heap.size:=(by intro he;obtain ⟨cells,hc⟩:=R_type HS1.out _ he;rw [HX2.out] at hc;injection hc with hc;injection hc with _ hc;cases hc);have HX3:=Sd.m (cl_ HX2.out hg3 (Ne.symm ne3));have HB3:=Sd.m hb3;have HS3:=Sd.m hR3;clear hR3 hb3 hg3 hat3 ne3);clear HS1 HB2 HX2;refine (sort_steps HS3.out HB3.out (by omega)).mono ?_;rintro e W4 ⟨rfl,ys,hp,hri,hR4,hb4,hsz4,hk4⟩;have ne4:some w.heap.size≠(Value.slice P3 ss.length p3).ownBlock:=by
  intro he;obtain ⟨cells,hc⟩:=R_type HS3.out _ he.symm;rw [HX3.out] at hc;injection hc with hc;injection hc with _ hc;cases hc
 have HX4:=Sd.m ((hk4 _ (cc_ HX3.out) ne4).trans HX3.out);have HB4:=Sd.m hb4;have HS4:=Sd.m hR4;have HP:=Sd.m hp;have HRI:=Sd.m hri;have hl4:ss.length=ys.length:=hp.length_eq.symm;rw [hl4] at HS4;rw [hl4] at hz;clear hp hri hR4 hb4 hsz4 hk4 ne4 HX3 HB3 HS3;go_wp2_with fail;obtain ⟨W5,hW5⟩: ∃ W5,W5=((W4.alloc (.cells #[.slice none 0 0] 37)).alloc (.cells #[.int .i64 0,.int .i64 0] 175)).alloc (.cells #[.int .i64 0] 3):=⟨_,rfl⟩;have S5:SwS W4 w gf (W4.heap.size+1+1) w.heap.size (W4.heap.size+1) W4.heap.size 0 0 0 (.slice none 0 0) [] W5:=by
  rw [hW5];have z1:(W4.alloc (.cells #[.slice none 0 0] 37)).heap.size=W4.heap.size+1:=by simp
  have z2:((W4.alloc (.cells #[.slice none 0 0] 37)).alloc (.cells #[.int .i64 0,.int .i64 0] 175)).heap.size=W4.heap.size+1+1:=by simp
  have hle:=HB4.out.size;refine ⟨ab_ (ab_ (ab_ HB4.out _) _) _,?_,?_,?_,am_ (am_ (am_ HX4.out _) _) _,Kd.R_nil _ _ _ _ _,by omega,by omega,hle,fun q cs hq=>am_ (am_ (am_ hq _) _) _⟩
  ·have:=aj_ ((W4.alloc (.cells #[.slice none 0 0] 37)).alloc (.cells #[.int .i64 0,.int .i64 0] 175)) (.cells #[.int .i64 0] 3);rw [z2] at this;exact this
  ·have:=aj_ (W4.alloc (.cells #[.slice none 0 0] 37)) (.cells #[.int .i64 0,.int .i64 0] 175);rw [z1] at this;exact am_ this _
  ·exact am_ (am_ (aj_ _ _) _) _
 rw [←hW5];clear hW5;obtain ⟨ga,hga⟩: ∃ ga,ga=W4.heap.size+1+1:=⟨_,rfl⟩;obtain ⟨gi,hgi⟩: ∃ gi,gi=W4.heap.size+1:=⟨_,rfl⟩;obtain ⟨go,hgo⟩: ∃ go,go=W4.heap.size:=⟨_,rfl⟩;obtain ⟨gr,hgr⟩: ∃ gr,gr=w.heap.size:=⟨_,rfl⟩;rw [←hga,←hgi,←hgo] at S5 ⊢;have S6:=Sd.m S5;clear S5 hga hgi hgo hgr HX4;obtain ⟨fin,hfin⟩: ∃ fin,fin=runF rb ys 0 0 0 []:=⟨_,rfl⟩;have HFIN:=Sd.m hfin;clear hfin;go_loopw [24] (fun u W=>Lp rb gf w W4 ga w.heap.size gi go ys fin u W) (fun u _=>ys.length - (intOf u).toNat)
 case atStart=>exact ⟨0,0,0,0,_,[],Nat.zero_le _,rfl,S6.out,HFIN.out.symm,by omega,by omega,by omega,Nat.le_refl _⟩
 case round=>
  obtain ⟨j,a,i0,i1,v,xs,hj,rfl,hS,hrun,ha,h0,h1,hx⟩:=hrel;by_cases hlt:j<ys.length
  ·have b1:decide ((j:Int)<(ys.length:Int))=true:=dt__ (by omega);have b2:decide (j<ys.length)=true:=dt__ hlt;have hrow:=R_keep HS4.out hS.keep;obtain ⟨ad,rfl,k0,k1,k2⟩:=at_T173 (Kd.R_reads' hrow).2.2 (j:Int) (by omega) (by omega);rw [Int.toNat_natCast] at k0 k1 k2;have hdrop:ys.drop j=he_ ys j :: ys.drop (j+1):=by
    rw [List.drop_eq_getElem_cons hlt];unfold he_;rw [Int.toNat_natCast,List.getD_eq_getElem?_getD,List.getElem?_eq_getElem hlt];rfl
   have hmem:he_ ys j∈ss:=by
    refine HP.out.mem_iff.1 (List.mem_of_mem_drop (i:=j) ?_);rw [hdrop];exact List.mem_cons_self
   obtain ⟨q0,q1,q2,q3,q4⟩:=HOK.out _ hmem;rw [hdrop] at hrun;obtain ⟨s,hs⟩: ∃ s,s=he_ ys j:=⟨_,rfl⟩;rw [←hs] at k0 k1 k2 q0 q1 q2 q3 q4 hrun;clear hs hdrop hmem;obtain ⟨f0,f1,f2⟩:=s;simp only at k0 k1 k2 q0 q1 q2 q3 q4;have HRUN:=Sd.m hrun;have HS:=Sd.m hS;have hj0:0<=(j:Int):=by omega
   have hj1:(j:Int)<(ys.length:Int):=by omega
   clear hrun hS hrow;go_wp2_with fail;obtain ⟨W6,hW6⟩: ∃ W6,W6=wr.alloc (.cells #[.int .i64 f0,.int .i64 f1,.int .i64 f2] 173):=⟨_,rfl⟩;have S7:SwS W6 w gf ga w.heap.size gi go a i0 i1 v xs W6:=by rw [hW6];exact (HS.out.alloc _).base
   have k7: ∀ (q:Nat) (cs:Array Value),W4.heap[q]? =some (.cells cs 173 (0,0))->W6.heap[q]? =some (.cells cs 173 (0,0)):=by rw [hW6];exact (HS.out.alloc _).keep
   have X7:W6.heap[wr.heap.size]? =some (.cells #[.int .i64 f0,.int .i64 f1,.int .i64 f2] 173 (0,0)):=by rw [hW6];exact aj_ _ _
   rw [←hW6];clear hW6 k0 k1 k2;have S7':=Sd.m S7;have K7:=Sd.m k7;have X7':=Sd.m X7;clear S7 k7 X7 HS;refine (em_ S7'.out ⟨ha.1,q1⟩ (by omega) eg HRB.out).mono ?_;rintro e W7 ⟨rfl,v',S8⟩;have X8:=S8.keep _ _ X7'.out;have x1:=bc_ X8 1 rfl;have x2:=bc_ X8 2 rfl;have y0:W7.cell? ⟨gi,0,none⟩=some (.int .i64 i0):=(af_ S8.I 0).trans rfl;have y1:W7.cell? ⟨gi,1,none⟩=some (.int .i64 i1):=(af_ S8.I 1).trans rfl;have g0:=aa_ S8.I 0;have g1:=aa_ S8.I 1;have S9:=Sd.m (S8.over K7.out);clear S8 X8 S7' K7 X7';have hlen:=tellF_len (rb (decide (0<i0)) (decide (0<i1))) a f0 xs;have HL:=Sd.m hlen;clear hlen;rcases q2 with rfl | rfl
   ·have w1:IntKind.i64.wrap (i0+f2)=i0+f2:=IntWalk.i64_in _ (by omega);have hrun:runF rb (ys.drop (j+1)) f0 (i0+f2) (i1) (tellF (rb (decide (0<i0)) (decide (0<i1))) a f0 xs)=fin:=HRUN.out;have HRUN2:=Sd.m hrun;clear hrun HRUN;have w2:IntKind.i64.wrap ((j:Int)+1)=(j:Int)+1:=IntWalk.i64_in _ (by omega);go_wp2_with fail
    go_still_tail 8,(by kernel_rfl)
    go_wp2_with fail;go_roundw
    case rel=>exact ⟨j+1,f0,i0+f2,i1,v',_,hlt,by go_num,(S9.out.drew).putI0 _,HRUN2.out,⟨q0,q1⟩,by omega,by omega,by have:=HL.out;omega⟩
    case measure=>simp [intOf];omega
   ·have w1:IntKind.i64.wrap (i1+f2)=i1+f2:=IntWalk.i64_in _ (by omega);have hrun:runF rb (ys.drop (j+1)) f0 (i0) (i1+f2) (tellF (rb (decide (0<i0)) (decide (0<i1))) a f0 xs)=fin:=HRUN.out;have HRUN2:=Sd.m hrun;clear hrun HRUN;have w2:IntKind.i64.wrap ((j:Int)+1)=(j:Int)+1:=IntWalk.i64_in _ (by omega);go_wp2_with fail
    go_still_tail 8,(by kernel_rfl)
    go_wp2_with fail;go_roundw
    case rel=>exact ⟨j+1,f0,i0,i1+f2,v',_,hlt,by go_num,(S9.out.drew).putI1 _,HRUN2.out,⟨q0,q1⟩,by omega,by omega,by have:=HL.out;omega⟩
    case measure=>simp [intOf];omega
  ·have b1:decide ((j:Int)<(ys.length:Int))=false:=df__ (by omega);have b2:decide (j<ys.length)=false:=df__ hlt;have hdrop:ys.drop j=[]:=List.drop_eq_nil_iff.2 (by omega);rw [hdrop] at hrun;have HRUN:=Sd.m hrun;have HS:=Sd.m hS;clear hrun hS hdrop;go_wp2_with fail;refine (em_ HS.out ⟨ha.1,Int.le_refl _⟩ (by omega) eg HRB.out).mono ?_;rintro e W7 ⟨rfl,v',S8⟩;obtain ⟨A8,c8,rfl⟩:=Kd.R_slice S8.row;have y0:W7.cell? ⟨go,0,none⟩=some (.slice A8 (tellF (rb (decide (0<i0)) (decide (0<i1))) a 1114112 xs).length c8):=(af_ S8.O 0).trans rfl;have S9:=Sd.m S8;have hfin:tellF (rb (decide (0<i0)) (decide (0<i1))) a 1114112 xs=runF rb ys 0 0 0 []:=(HRUN.out).trans HFIN.out;have HF:=Sd.m hfin;clear S8 hfin;generalize tellF (rb (decide (0<i0)) (decide (0<i1))) a 1114112 xs=zs at S9 HF y0;go_wp2_with fail;go_ret;exact ⟨_,ys,rfl,HP.out,HRI.out,by rw [←HF.out];exact S9.out.row,S9.out.bel⟩
end L
namespace P
open A L
theorem w64 {n:Int}(h: -9223372036854775808<=n)(h':n<=9223372036854775807):wrap64 n=n:=by
 unfold wrap64;omega
theorem fq_ {α:Type}{c:Prop}[Decidable c]{g f:Nat->Option α}{r:α}(hc:c)(h:Ev g r):Ev (fun k=>if c then g k else f k) r:=by
 obtain ⟨K,h⟩:=h;exact ⟨K,fun k hk=>by show (if c then g k else f k)=some r;rw [if_pos hc];exact h k hk⟩
theorem eg_ {α:Type}{c:Prop}[Decidable c]{g f:Nat->Option α}{r:α}(hc:¬ c)(h:Ev f r):Ev (fun k=>if c then g k else f k) r:=by
 obtain ⟨K,h⟩:=h;exact ⟨K,fun k hk=>by show (if c then g k else f k)=some r;rw [if_neg hc];exact h k hk⟩
def inR (r:S74)(c:Int):Bool:=decide (r.f0<=c) && decide (c<=r.f1)
theorem hh_ {r:S74}{c:Int}:inR r c=true↔r.f0<=c∧c<=r.f1:=by simp [inR]
def Mem (l:List S74)(c:Int):Bool:=l.any fun r=>inR r c
theorem mem_iff {l:List S74}{c:Int}:Mem l c=true↔ ∃ r∈l,r.f0<=c∧c<=r.f1:=by
 simp [Mem,hh_]
theorem jv_ (l m:List S74)(c:Int):Mem (l ++ m) c=(Mem l c || Mem m c):=by simp [Mem]
theorem mem_one (r:S74)(c:Int):Mem [r] c=inR r c:=by simp [Mem]
def Can (a:Int)(xs:List S74):Prop:=(∀ r∈xs,0<=r.f0∧r.f0<=r.f1∧r.f1<a)∧xs.Pairwise fun r s=>r.f1+1<s.f0
def Spec (P:Int->Bool)(xs:List S74)(a:Int):Prop:=Can a xs∧ ∀ c,0<=c->c<a->Mem xs c=P c
theorem Can.mem_range {a:Int}{xs:List S74}(h:Can a xs){c:Int}(hm:Mem xs c=true):0<=c∧c<a:=by
 obtain ⟨r,hr,h1,h2⟩:=mem_iff.1 hm;have:=h.1 r hr;omega
theorem Can.one: ∀ {xs ys:List S74} {a:Int},Can a xs->Can a ys->(∀ c,Mem xs c=Mem ys c)->xs=ys
 | [],[],_,_,_,_=>rfl
 | [],s :: u,a,_,hy,h=>by
  have:=h s.f0;have h2:=hy.1 s List.mem_cons_self;have:Mem (s :: u) s.f0=true:=mem_iff.2 ⟨s,List.mem_cons_self,by omega,by omega⟩;rw [←h] at this;simp [Mem] at this
 | r :: t,[],a,hx,_,h=>by
  have h2:=hx.1 r List.mem_cons_self;have:Mem (r :: t) r.f0=true:=mem_iff.2 ⟨r,List.mem_cons_self,by omega,by omega⟩;rw [h] at this;simp [Mem] at this
 | r :: t,s :: u,a,hx,hy,h=>by
  have hr:=hx.1 r List.mem_cons_self;have hs:=hy.1 s List.mem_cons_self;obtain ⟨hx1,hx2⟩:=List.pairwise_cons.1 hx.2;obtain ⟨hy1,hy2⟩:=List.pairwise_cons.1 hy.2;have A: ∀ (r s:S74) (t u:List S74),r.f0<=r.f1->(s.f0<=s.f1)->(∀ b∈u,s.f1+1<b.f0)->Mem (s :: u) r.f0=Mem (r :: t) r.f0->s.f0<=r.f0:=by
   intro r s t u h1 h2 h3 h4;have:Mem (r :: t) r.f0=true:=mem_iff.2 ⟨r,List.mem_cons_self,by omega,by omega⟩;rw [this] at h4;obtain ⟨b,hb,h5,h6⟩:=mem_iff.1 h4;rcases List.mem_cons.1 hb with rfl | hb
   ·exact h5
   ·have:=h3 b hb;omega
  have e0:r.f0=s.f0:=by
   have:=A r s t u hr.2.1 hs.2.1 hy1 (h _).symm;have:=A s r u t hs.2.1 hr.2.1 hx1 (h _);omega
  have B: ∀ (r s:S74) (t u:List S74),r.f0=s.f0->r.f0<=r.f1->(∀ b∈t,r.f1+1<b.f0)->Mem (s :: u) (r.f1+1)=Mem (r :: t) (r.f1+1)->s.f1<=r.f1:=by
   intro r s t u h1 h2 h3 h4;by_cases hq:s.f1<=r.f1
   ·exact hq
   ·have:Mem (s :: u) (r.f1+1)=true:=mem_iff.2 ⟨s,List.mem_cons_self,by omega,by omega⟩;rw [this] at h4;obtain ⟨b,hb,h5,h6⟩:=mem_iff.1 h4.symm;rcases List.mem_cons.1 hb with rfl | hb
    ·omega
    ·have:=h3 b hb;omega
  have e1:r.f1=s.f1:=by
   have:=B r s t u e0 hr.2.1 hx1 (h _).symm;have:=B s r u t e0.symm hs.2.1 hy1 (h _);omega
  have er:r=s:=by
   cases r;cases s;simp at e0 e1;simp [e0,e1]
  subst er;have:t=u:=Can.one (a:=a) ⟨fun b hb=>hx.1 b (List.mem_cons_of_mem _ hb),hx2⟩ ⟨fun b hb=>hy.1 b (List.mem_cons_of_mem _ hb),hy2⟩ (fun c=>by
   have hc:=h c;have D: ∀ v:List S74,(∀ b∈v,r.f1+1<b.f0)->c<=r.f1->Mem v c=false:=by
    intro v hv hcr;cases hm:Mem v c with
    | false=>rfl
    | true=>
     obtain ⟨b,hb,h5,h6⟩:=mem_iff.1 hm;have:=hv b hb;omega
   by_cases hcr:c<=r.f1
   ·rw [D t hx1 hcr,D u hy1 hcr]
   ·have:inR r c=false:=by simp [inR];omega
    simp only [Mem,List.any_cons,this,Bool.false_or] at hc;exact hc)
  rw [this]
theorem Spec.one {P:Int->Bool}{xs ys:List S74}{a:Int}(h:Spec P xs a)(k:Spec P ys a):xs=ys:=by
 refine Can.one h.1 k.1 fun c=>?_;by_cases hc:0<=c∧c<a
 ·rw [h.2 c hc.1 hc.2,k.2 c hc.1 hc.2]
 ·have F: ∀ {zs:List S74},Can a zs->Mem zs c=false:=fun hz=>by
   cases hm:Mem _ c with
   | false=>rfl
   | true=>exact absurd (hz.mem_range hm) hc
  rw [F h.1,F k.1]
theorem last_of {xs:List S74}(hn:0<xs.length): ∃ pre r,xs=pre ++ [r]∧al_ xs ((xs.length:Int) - 1)=r∧ ∀ r',xs.set (xs.length - 1) r'=pre ++ [r']:=by
 have hne:xs≠[]:=List.length_pos_iff.1 hn;refine ⟨xs.dropLast,xs.getLast hne,(List.dropLast_concat_getLast hne).symm,?_,fun r'=>?_⟩
 ·unfold al_;have:((xs.length:Int) - 1).toNat=xs.length - 1:=by omega
  rw [this,List.getD_eq_getElem?_getD,List.getElem?_eq_getElem (by omega),List.getLast_eq_getElem];rfl
 ·conv=>lhs;rw [←List.dropLast_concat_getLast hne]
  rw [List.set_append_right _ _ (by simp)];simp
theorem ge_ {P:Int->Bool}{b:Bool}{a tt:Int}{xs:List S74}(h:Spec P xs a)(h0:0<=a)(hle:a<=tt)(hP: ∀ c,a<=c->c<tt->P c=b):Spec P (tellF b a tt xs) tt:=by
 obtain ⟨⟨hc,hp⟩,hm⟩:=h;unfold tellF;by_cases hlt:a<tt
 ·cases b with
  | false=>
   rw [if_neg (by simp)];refine ⟨⟨fun r hr=>by have:=hc r hr;omega,hp⟩,fun c h1 h2=>?_⟩;by_cases hca:c<a
   ·exact hm c h1 hca
   ·rw [hP c (by omega) h2];cases hq:Mem xs c with
    | false=>rfl
    | true=>
     obtain ⟨r,hr,h3,h4⟩:=mem_iff.1 hq;have:=hc r hr;omega
  | true=>
   rw [if_pos ⟨hlt,rfl⟩];by_cases hj:0<xs.length∧(al_ xs ((xs.length:Int) - 1)).f1=a - 1
   ·rw [if_pos hj];obtain ⟨pre,r,hx,hrd,hset⟩:=last_of hj.1;rw [hset,hrd];have hr1:r.f1=a - 1:=by rw [←hrd];exact hj.2
    subst hx;rw [List.pairwise_append] at hp;have hrr:=hc r (by simp);refine ⟨⟨fun s hs=>?_,?_⟩,fun c h1 h2=>?_⟩
    ·rcases List.mem_append.1 hs with hs | hs
     ·have:=hc s (by simp [hs]);omega
     ·rw [List.mem_singleton] at hs;subst hs;simp only;omega
    ·rw [List.pairwise_append];refine ⟨hp.1,List.pairwise_singleton _ _,fun s hs q hq=>?_⟩;rw [List.mem_singleton] at hq;subst hq;exact hp.2.2 s hs r (by simp)
    ·rw [jv_,mem_one];by_cases hca:c<a
     ·have:=hm c h1 hca;rw [jv_,mem_one] at this;rw [←this];congr 1;unfold inR;simp only;rw [dt__ (show c<=tt - 1 by omega),dt__ (show c<=r.f1 by omega)]
     ·rw [hP c (by omega) h2];have:inR ⟨r.f0,tt - 1⟩ c=true:=hh_.2 ⟨by simp only;omega,by simp only;omega⟩;rw [this,Bool.or_true]
   ·rw [if_neg hj];have hgap: ∀ r∈xs,r.f1+1<a:=by
     intro r hr;have hn:0<xs.length:=List.length_pos_of_mem hr;obtain ⟨pre,s,hx,hrd,_⟩:=last_of hn;have hs1:s.f1≠a - 1:=fun e=>hj ⟨hn,by rw [hrd];exact e⟩;have hs:=hc s (by rw [hx];simp);rw [hx] at hr hp;rcases List.mem_append.1 hr with hr | hr
     ·have:=(List.pairwise_append.1 hp).2.2 r hr s (by simp);omega
     ·rw [List.mem_singleton] at hr;subst hr;omega
    refine ⟨⟨fun s hs=>?_,?_⟩,fun c h1 h2=>?_⟩
    ·rcases List.mem_append.1 hs with hs | hs
     ·have:=hc s hs;omega
     ·rw [List.mem_singleton] at hs;subst hs;simp only;omega
    ·rw [List.pairwise_append];refine ⟨hp,List.pairwise_singleton _ _,fun s hs q hq=>?_⟩;rw [List.mem_singleton] at hq;subst hq;exact hgap s hs
    ·rw [jv_,mem_one];by_cases hca:c<a
     ·have:inR ⟨a,tt - 1⟩ c=false:=by simp [inR];omega
      rw [this,Bool.or_false];exact hm c h1 hca
     ·rw [hP c (by omega) h2];have:inR ⟨a,tt - 1⟩ c=true:=hh_.2 ⟨by simp only;omega,by simp only;omega⟩;rw [this,Bool.or_true]
 ·rw [if_neg (fun q=>hlt q.1)];obtain rfl:a=tt:=by omega
  exact ⟨⟨hc,hp⟩,hm⟩
def ups (P:Int->Bool):Nat->List S74
 | 0=>[]
 | n+1=>tellF (P n) n ((n:Int)+1) (ups P n)
theorem lk_ (P:Int->Bool): ∀ n:Nat,Spec P (ups P n) n
 | 0=>⟨⟨(fun r hr=>nomatch hr),List.Pairwise.nil⟩,fun c h1 h2=>by simp at h2;omega⟩
 | n+1=>by
  have:=ge_ (b:=P n) (lk_ P n) (by omega) (show (n:Int)<=(n:Int)+1 by omega) (fun c h1 h2=>by rw [show c=(n:Int) from by omega]);exact this
def canonF (P:Int->Bool):List S74:=ups P 1114112
theorem dd_ (P:Int->Bool):Spec P (canonF P) 1114112:=lk_ P 1114112
theorem ih_ {P:Int->Bool}{xs:List S74}(h:Spec P xs 1114112):xs=canonF P:=h.one (dd_ P)
theorem ea_ {P Q:Int->Bool}(h: ∀ c,0<=c->c<=1114111->P c=Q c):canonF P=canonF Q:=by
 refine ih_ ?_;have:=dd_ P;exact ⟨this.1,fun c h1 h2=>by rw [this.2 c h1 h2,h c h1 (by omega)]⟩
theorem gn_ (P:Int->Bool){c:Int}(h0:0<=c)(h1:c<=1114111):Mem (canonF P) c=P c:=(dd_ P).2 c h0 (by omega)
def cntS (set:Int)(l:List S173)(c:Int):Int:=(l.map fun s=>if s.f1=set∧s.f0<=c then s.f2 else 0).sum
theorem el_ (set:Int)(s:S173)(l:List S173)(c:Int):cntS set (s :: l) c=(if s.f1=set∧s.f0<=c then s.f2 else 0)+cntS set l c:=by simp [cntS]
theorem mg_ (set:Int)(l m:List S173)(c:Int):cntS set (l ++ m) c=cntS set l c+cntS set m c:=by simp [cntS]
theorem cntS_perm {set:Int}{l m:List S173}(h:l.Perm m)(c:Int):cntS set l c=cntS set m c:=by
 induction h with
 | nil=>rfl
 | cons x _ ih=>rw [el_,el_,ih]
 | swap x y l=>rw [el_,el_,el_,el_];omega
 | trans _ _ h1 h2=>rw [h1,h2]
theorem cntS_none {set:Int}{l:List S173}{c:Int}(h: ∀ s∈l,c<s.f0):cntS set l c=0:=by
 induction l with
 | nil=>rfl
 | cons s l ih=>
  rw [el_,if_neg (by have:=h s List.mem_cons_self;omega),ih (fun t ht=>h t (List.mem_cons_of_mem _ ht))];rfl
theorem run_spec {P:Int->Bool}{rb:Bool->Bool->Bool}: ∀ (l:List S173) (a i0 i1:Int) (xs:List S74),Spec P xs a->0<=a->a<=1114112->Rises l->(∀ s∈l,a<=s.f0∧s.f0<=1114112∧(s.f1=0∨s.f1=1))->
  (∀ c,a<=c->c<=1114111->P c=rb (decide (0<i0+cntS 0 l c)) (decide (0<i1+cntS 1 l c)))->Spec P (runF rb l a i0 i1 xs) 1114112
 | [],a,i0,i1,xs,hs,h0,h1,_,_,hP=>ge_ hs h0 h1 (fun c h2 h3=>by
   have:=hP c h2 (by omega);simpa [cntS] using this)
 | s :: r,a,i0,i1,xs,hs,h0,h1,hr,hb,hP=>by
  have hs0:=hb s List.mem_cons_self;obtain ⟨hr1,hr2⟩:=List.pairwise_cons.1 hr;refine run_spec r s.f0 _ _ _ (ge_ hs h0 hs0.1 (fun c h2 h3=>?_)) (by omega) hs0.2.1 hr2 (fun t ht=>⟨hr1 t ht,(hb t (List.mem_cons_of_mem _ ht)).2⟩) (fun c h2 h3=>?_)
  ·have hn: ∀ t∈s :: r,c<t.f0:=fun t ht=>by
    rcases List.mem_cons.1 ht with rfl | ht
    ·exact h3
    ·have:=hr1 t ht;omega
   have:=hP c h2 (by omega);rw [cntS_none hn,cntS_none hn,Int.add_zero,Int.add_zero] at this;exact this
  ·have:=hP c (by omega) h3;rw [el_,el_] at this;rw [this];rcases hs0.2.2 with e | e
   ·rw [e,if_pos ⟨rfl,h2⟩,if_neg (by simp),if_pos rfl,if_pos rfl,Int.zero_add,Int.add_assoc]
   ·rw [e,if_neg (by simp),if_pos ⟨rfl,h2⟩,if_neg (by decide),if_neg (by decide),Int.zero_add,Int.add_assoc]
def stepF (set:Int)(r:S74):List S173:=if mx 0 r.f0<=mn 1114111 r.f1 then [⟨mx 0 r.f0,set,1⟩,⟨mn 1114111 r.f1+1,set,-1⟩] else []
def stepsF (l:List S74)(set:Int):List S173:=if (l.length:Int)>400 then [] else l.flatMap (stepF set)
theorem mm (r:S74):0<=mx 0 r.f0∧r.f0<=mx 0 r.f0∧(mx 0 r.f0=0∨mx 0 r.f0=r.f0)∧mn 1114111 r.f1<=1114111∧mn 1114111 r.f1<=r.f1∧(mn 1114111 r.f1=1114111∨mn 1114111 r.f1=r.f1):=by
 unfold mx mn;omega
theorem step_at {l:List S74}{i:Int}(h0:0<=i)(h:i<(l.length:Int)):l.drop i.toNat=al_ l i :: l.drop (i+1).toNat:=by
 have hi:i.toNat<l.length:=by omega
 rw [List.drop_eq_getElem_cons hi,show (i+1).toNat=i.toNat+1 from by omega];unfold al_;rw [List.getD_eq_getElem?_getD,List.getElem?_eq_getElem hi];rfl
theorem steps_ev (l:List S74)(set:Int):Ev (fun k=>bw_.f k l set) (stepsF l set):=by
 unfold bw_.f stepsF;by_cases hz:(l.length:Int)>400
 ·rw [if_pos hz];exact fq_ hz (Ev.now _)
 rw [if_neg hz];refine eg_ hz ?_;have main: ∀ (d:Nat) (i:Int) (x:List S173),0<=i->(l.length:Int) - i=d->(x.length:Int)<=2*i->Ev (fun k=>bw_.l0 k set x l (l.length:Int) i) (x ++ (l.drop i.toNat).flatMap (stepF set)):=by
  intro d
  induction d with
  | zero=>
   intro i x h0 hd hx;rw [List.drop_eq_nil_iff.2 (by omega),List.flatMap_nil,List.append_nil];exact Ev.step (f:=fun _=>some x) (fun k=>by rw [bw_.l0,if_neg (by omega)]) (Ev.now _)
  | succ d ih=>
   intro i x h0 hd hx;have hi:i<(l.length:Int):=by omega
   rw [step_at h0 hi,List.flatMap_cons];have hm:=mm (al_ l i);refine Ev.step (fun k=>by rw [bw_.l0,if_pos hi,if_pos h0,if_pos hi,w64 (n:=i+1) (by omega) (by omega)]) ?_;by_cases hr:mx 0 (al_ l i).f0<=mn 1114111 (al_ l i).f1
   ·refine fq_ hr ?_;rw [w64 (n:=mn 1114111 (al_ l i).f1+1) (by omega) (by omega)];refine Ev.congr (fun k=>by rw [Option.bind_some]) ?_;refine fq_ (by simp;omega) ?_;have:=ih (i+1) (x ++ stepF set (al_ l i)) (by omega) (by omega) (by unfold stepF;rw [if_pos hr];simp;omega);rw [List.append_assoc] at this;unfold stepF at this ⊢;rw [if_pos hr] at this ⊢;exact this
   ·refine eg_ hr ?_;have:=ih (i+1) x (by omega) (by omega) (by omega);unfold stepF at this ⊢;rw [if_neg hr,List.nil_append];exact this
 exact main l.length 0 [] (by omega) (by omega) (by simp)
theorem stepF_cnt (set t:Int)(r:S74){c:Int}(h0:0<=c)(h1:c<=1114111):cntS t (stepF set r) c=if t=set∧inR r c=true then 1 else 0:=by
 have hm:=mm r;unfold stepF;by_cases ht:t=set
 ·subst ht;by_cases hr:mx 0 r.f0<=mn 1114111 r.f1
  ·rw [if_pos hr];simp only [cntS,List.map_cons,List.map_nil,List.sum_cons,List.sum_nil,true_and,Int.add_zero];by_cases hi:inR r c=true
   ·rw [if_pos hi];have:=hh_.1 hi;rw [if_pos (by omega),if_neg (by omega)];rfl
   ·rw [if_neg hi];have:¬ (r.f0<=c∧c<=r.f1):=fun q=>hi (hh_.2 q);by_cases h2:mx 0 r.f0<=c
    ·rw [if_pos h2,if_pos (by omega)];rfl
    ·rw [if_neg h2,if_neg (by omega)];rfl
  ·rw [if_neg hr,if_neg]
   ·rfl
   ·rintro ⟨_,q⟩;have:=hh_.1 q;omega
 ·have e:(if t=set∧inR r c=true then (1:Int) else 0)=0:=if_neg (fun q=>ht q.1);rw [e];have hne:¬ set=t:=fun q=>ht q.symm;by_cases hr:mx 0 r.f0<=mn 1114111 r.f1
  ·rw [if_pos hr];simp [cntS,hne]
  ·rw [if_neg hr];rfl
theorem flat_cnt (set t:Int){c:Int}(h0:0<=c)(h1:c<=1114111): ∀ l:List S74,0<=cntS t (l.flatMap (stepF set)) c∧(0<cntS t (l.flatMap (stepF set)) c↔t=set∧Mem l c=true)∧(t≠set->cntS t (l.flatMap (stepF set)) c=0)
 | []=>by simp [cntS,Mem]
 | r :: l=>by
  obtain ⟨a,b,d⟩:=flat_cnt set t h0 h1 l;rw [List.flatMap_cons,mg_,stepF_cnt set t r h0 h1];have e:Mem (r :: l) c=(inR r c || Mem l c):=by simp [Mem]
  rw [e];refine ⟨by split <;> omega,?_,fun hne=>by rw [if_neg (fun q=>hne q.1),d hne];rfl⟩;by_cases hi:t=set∧inR r c=true
  ·rw [if_pos hi];rw [hi.2,Bool.true_or];constructor
   ·intro _;exact ⟨hi.1,rfl⟩
   ·intro _;omega
  ·rw [if_neg hi,Int.zero_add,b];constructor
   ·rintro ⟨q1,q2⟩;exact ⟨q1,by rw [q2,Bool.or_true]⟩
   ·rintro ⟨q1,q2⟩;refine ⟨q1,?_⟩;cases hr:inR r c with
    | true=>exact absurd ⟨q1,hr⟩ hi
    | false=>rw [hr,Bool.false_or] at q2;exact q2
def hasB (l:List S74)(c:Int):Bool:=decide (l.length<=400) && Mem l c
theorem hp_ (l:List S74)(set t:Int){c:Int}(h0:0<=c)(h1:c<=1114111):decide (0<cntS t (stepsF l set) c)=(decide (t=set) && hasB l c)∧(t≠set->cntS t (stepsF l set) c=0):=by
 obtain ⟨a,b,d⟩:=flat_cnt set t h0 h1 l;unfold stepsF hasB;by_cases hz:(l.length:Int)>400
 ·rw [if_pos hz,df__ (show ¬ l.length<=400 by omega)];simp [cntS]
 ·rw [if_neg hz,dt__ (show l.length<=400 by omega),Bool.true_and];refine ⟨?_,d⟩;rw [Bool.eq_iff_iff];simp [b]
theorem ja_ (l:List S74){set:Int}(hs:set=0∨set=1):(∀ s∈stepsF l set,StepOk s)∧(stepsF l set).length<=800:=by
 unfold stepsF;split
 ·simp
 ·rename_i hz;have one: ∀ r:S74,(∀ s∈stepF set r,StepOk s)∧(stepF set r).length<=2:=fun r=>by
   have hm:=mm r;unfold stepF;split
   ·refine ⟨fun s hq=>?_,by simp⟩;simp only [List.mem_cons,List.not_mem_nil,or_false] at hq;unfold StepOk;rcases hq with rfl | rfl <;> simp only <;> omega
   ·simp
  refine ⟨fun s hq=>?_,?_⟩
  ·obtain ⟨r,hr,hq⟩:=List.mem_flatMap.1 hq;exact (one r).1 s hq
  ·have: ∀ l:List S74,(l.flatMap (stepF set)).length<=2*l.length:=fun l=>by
    induction l with
    | nil=>simp
    | cons r l ih=>
     have:=(one r).2;rw [List.flatMap_cons,List.length_append,List.length_cons];omega
   have:=this l;omega
theorem sweep_spec (rb:Bool->Bool->Bool)(l0 l1:List S74){ys:List S173}(hp:ys.Perm (stepsF l0 0 ++ stepsF l1 1))(hr:Rises ys):runF rb ys 0 0 0 []=canonF fun c=>rb (hasB l0 c) (hasB l1 c):=by
 refine ih_ (run_spec ys 0 0 0 [] ⟨⟨(fun r hr=>nomatch hr),List.Pairwise.nil⟩,fun c h1 h2=>by omega⟩ (by omega) (by omega) hr (fun s hs=>?_) (fun c h0 h1=>?_))
 ·have hs':=hp.mem_iff.1 hs;rcases List.mem_append.1 hs' with h | h
  ·have:=(ja_ l0 (Or.inl rfl)).1 s h;unfold StepOk at this;omega
  ·have:=(ja_ l1 (Or.inr rfl)).1 s h;unfold StepOk at this;omega
 ·obtain ⟨a1,a2⟩:=hp_ l0 0 0 h0 h1;obtain ⟨b1,b2⟩:=hp_ l1 1 0 h0 h1;obtain ⟨c1,c2⟩:=hp_ l0 0 1 h0 h1;obtain ⟨d1,d2⟩:=hp_ l1 1 1 h0 h1;rw [cntS_perm hp,cntS_perm hp,mg_,mg_,b2 (by decide),c2 (by decide),Int.add_zero,Int.zero_add,Int.zero_add,Int.zero_add,a1,d1];rfl
open K
theorem rdp (l:List S45)(i:Nat)(h:i<l.length):cf_ l (i:Int)=l[i]:=by
 unfold cf_;rw [Int.toNat_natCast,List.getD_eq_getElem?_getD,List.getElem?_eq_getElem h];rfl
def mass (p:S45):Nat:=1+p.f1.length+p.f2.length+(p.f3.attach.map fun q=>mass q.1).sum
termination_by SizeOf.sizeOf p
decreasing_by
 obtain ⟨q,hq⟩:=q;have:=List.sizeOf_lt_of_mem hq;cases p;simp at*;omega
theorem jw_ (p:S45):mass p=1+p.f1.length+p.f2.length+(p.f3.map mass).sum:=by
 rw [mass,List.attach_map_val (l:=p.f3) (f:=mass)]
theorem sum_mem {l:List S45}{q:S45}(h:q∈l):mass q<=(l.map mass).sum:=by
 induction l with
 | nil=>cases h
 | cons a l ih=>
  rw [List.map_cons,List.sum_cons];rcases List.mem_cons.1 h with rfl | h
  ·omega
  ·have:=ih h;omega
theorem ku_ {p q:S45}(h:q∈p.f3):SizeOf.sizeOf q<SizeOf.sizeOf p:=by
 have:=List.sizeOf_lt_of_mem h;cases p;simp at*;omega
theorem small_parts {p:S45}(h:X.SmallP p):p.f1.length<=140737488355328∧p.f2.length<=140737488355328∧p.f3.length<=140737488355328∧ ∀ q∈p.f3,X.SmallP q:=by
 cases h;exact ⟨by assumption,by assumption,by assumption,by assumption⟩
theorem hn_ (p:S45):X.SmallP p-> ∀ d:Int,0<=d->d<=101-> ∃ wt:Int,Ev (fun k=>as_.f k p.f0 p.f1 p.f2 p.f3 d) wt∧0<=wt∧wt<=300000000000000+3000*(101 - d)∧(wt<=2000->wt=(mass p:Nat)):=by
 intro hp d hd0 hd;obtain ⟨h1',h2',h3',hs⟩:=small_parts hp;by_cases hdd:d>100
 ·exact ⟨3000,Ev.step (f:=fun _=>some 3000) (fun k=>by rw [as_.f,if_pos hdd]) (Ev.now _),by decide,by omega,fun h=>by omega⟩
 have go: ∀ m i:Nat,i+m=p.f3.length-> ∀ x:Int,0<=x->x<=300000000000000+3000*(101 - d)-> ∃ wt:Int,Ev (fun k=>as_.l0 k d x (i:Int) p.f0 p.f1 p.f2 p.f3) wt∧x<=wt∧wt<=300000000000000+3000*(101 - d)∧(wt<=2000->wt=x+(((p.f3.drop i).map mass).sum:Nat)):=by
  intro m
  induction m with
  | zero=>
   intro i hi x hx0 hx;refine ⟨x,Ev.step (f:=fun _=>some x) (fun k=>by rw [as_.l0,if_neg (by omega)]) (Ev.now _),Int.le_refl _,hx,fun _=>?_⟩;rw [List.drop_eq_nil_iff.2 (by omega)];simp
  | succ m ih=>
   intro i hi x hx0 hx;have hlt:i<p.f3.length:=by omega
   by_cases hx2:x<=2000
   ·obtain ⟨t,ht,ht0,htb,htm⟩:=hn_ p.f3[i] (hs _ (List.getElem_mem hlt)) (d+1) (by omega) (by omega);obtain ⟨wt,hw,hw0,hwb,hwm⟩:=ih (i+1) (by omega) (x+t) (by omega) (by omega);refine ⟨wt,Ev.step (f:=fun k=>(as_.f k (p.f3[i]).f0 (p.f3[i]).f1 (p.f3[i]).f2 (p.f3[i]).f3 (d+1)).bind fun t_=>as_.l0 k d (wrap64 (x+t_)) ((i:Int)+1) p.f0 p.f1 p.f2 p.f3) (fun k=>by
     rw [as_.l0,if_pos (by omega),if_pos hx2,if_pos (by omega),rdp _ _ hlt,w64 (n:=(i:Int)+1) (by omega) (by omega),w64 (n:=d+1) (by omega) (by omega)]) (Ev.bind ht ?_),by omega,hwb,fun h=>?_⟩
    ·rw [w64 (n:=x+t) (by omega) (by omega)];exact hw
    ·have e1:=hwm h;have e2:=htm (by omega);rw [List.drop_eq_getElem_cons hlt,List.map_cons,List.sum_cons];omega
   ·exact ⟨x,Ev.step (f:=fun _=>some x) (fun k=>by rw [as_.l0,if_pos (by omega),if_neg hx2]) (Ev.now _),Int.le_refl _,hx,fun h=>by omega⟩
 obtain ⟨wt,hw,hw0,hwb,hwm⟩:=go p.f3.length 0 (by omega) (1+(p.f1.length:Int)+(p.f2.length:Int)) (by omega) (by omega);refine ⟨wt,Ev.step (f:=fun k=>as_.l0 k d (1+(p.f1.length:Int)+(p.f2.length:Int)) 0 p.f0 p.f1 p.f2 p.f3) (fun k=>by
  rw [as_.f,if_neg hdd,w64 (n:=1+(p.f1.length:Int)) (by omega) (by omega),w64 (n:=1+(p.f1.length:Int)+(p.f2.length:Int)) (by omega) (by omega)]) hw,by omega,hwb,fun h=>?_⟩
 have:=hwm h;rw [List.drop_zero] at this;rw [jw_];omega
termination_by SizeOf.sizeOf p
decreasing_by exact ku_ (List.getElem_mem hlt)
end P
namespace LX
open Shelf YthfceiincmkccaaGreatW.PrintWords.Kd A K
section
variable {P:Program} {ops:Array Oper} {rest:List Oper} {o:Oper} {a:Act} {Q:Exit->Act->World->Prop} {α:Type}
theorem fh_ (d:Kd α){Rr:α->List Value->Prop}{W:World}(base:Nat)(t ty e:TypeId)(z:Value)(bytes:Nat)
  (ht:P.underlying t=some (.slice e)) (hinfo:(P.info? e).map (fun i=>(i.zero,i.size,i.bytes))=some (some z,d.sz,bytes)) (hz:z.cells.size=d.sz) (hs0:0<d.sz) (hb0:0<bytes)
  (v:Value) (xs ys:List α) (A:Option Addr) (m c:Nat) (ok okp:Nat->Prop)
  (HO:d.R e W base ok v xs) (HR:ReadsRow Rr d.sz W A m ys) (hKM: ∀ x cs,Rr x cs->d.M W base okp x cs) (hokp: ∀ k,okp k->ok k∧some k≠v.ownBlock) (hfresh: ∀ k,W.heap.size<=k->ok k)
  (hbase:base<=W.heap.size) (hl:(xs.length+m)*bytes<=140737488355328):
  ∃ v1 w1,(Builtin.append_ #[t,t] ty #[v,.slice A m c]).run P W=.ok v1 w1∧d.R e w1 base ok v1 (xs ++ ys)∧W.grownBy w1 v.ownBlock∧(v1.ownBlock=v.ownBlock∨ ∃ b,v1.ownBlock=some b∧W.heap.size<=b):=by
 obtain ⟨i0,hi,hzz⟩:=Option.map_eq_some_iff.1 hinfo;simp only [Prod.mk.injEq] at hzz;obtain ⟨hz0,hz1,hz2⟩:=hzz;have hm:ys.length=m:=HR.1;have hlen:xs.length+m<=140737488355328:=Nat.le_trans (Nat.le_mul_of_pos_right _ hb0) hl;obtain ⟨hok,inner,hown,hr⟩:=HO;rcases A with _ | ad
 ·have h0:m=0:=by
   rcases Nat.eq_zero_or_pos m with h0 | h0
   ·exact h0
   ·obtain ⟨ad,h,_⟩:=HR.2.2 h0;cases h
  subst h0;obtain rfl:ys=[]:=List.eq_nil_of_length_eq_zero hm;refine ⟨v,W,?_,by rw [List.append_nil];exact ⟨hok,inner,hown,hr⟩,World.grownBy.refl W _,.inl rfl⟩;rcases hown.2 with ⟨rfl,hn⟩ | ⟨g,cap,cur,rfl,_,_,hnc,_⟩
  ·simp [Builtin.append_,run_underlying ht,sizeOf,typeInfo,hi,Builtin.lenOf,Builtin.firstCells]
  ·simp [Builtin.append_,run_underlying ht,sizeOf,typeInfo,hi,Builtin.lenOf,Builtin.firstCells,hnc,storeCells]
 ·obtain ⟨news,hnr,hnc⟩:=ReadsRow.inner_ HR;have hnM:Reps (d.M W base okp) d.sz ys news:=hnr.imp_ (fun p c hp=>hKM p c hp);have hone: ∀ u∈news,u.oneCell'=true:=by
   intro u hu;obtain ⟨q,hq,rfl⟩:=List.mem_iff_getElem.1 hu;have hql:q / d.sz<ys.length:=by
    rw [Nat.div_lt_iff_lt_mul hs0];rw [←hnM.1];exact hq
   have hc:=hnM.2 (q / d.sz) _ (List.getElem?_eq_getElem hql);refine d.K_one (d.K_of_M hc) _ ?_;rw [List.mem_iff_getElem?];refine ⟨q % d.sz,?_⟩;rw [List.getElem?_take,if_pos (Nat.mod_lt _ hs0),List.getElem?_drop,Nat.mul_comm,Nat.div_add_mod,List.getElem?_eq_getElem hq]
  obtain ⟨v1,w1,hrun,h2,hg,_,hat⟩:=run_append_own_at (P:=P) W base t ty e i0 z d.sz bytes ht hi hz0 hz1 hz2 hz hs0 v xs.length inner hown ad m c news (by rw [hnM.1,hm]) hnc hone (by simp only [maxLen];omega) hl hbase;have hat':v1.ownBlock=v.ownBlock∨ ∃ b,v1.ownBlock=some b∧W.heap.size<=b:=by
   rcases hat with hat | hat
   ·exact .inl hat
   ·exact .inr ⟨_,hat,Nat.le_refl _⟩
  have hne: ∀ k,some k≠v.ownBlock->k<W.heap.size->some k≠v1.ownBlock:=by
   intro k hk hlt;rcases hat' with hat | ⟨b,hb,hle⟩
   ·rw [hat];exact hk
   ·rw [hb];intro he;injection he with he;omega
  have step: ∀ {q:α} {c:List Value} {o:Nat->Prop},d.M W base o q c->(∀ k,o k->ok k∧some k≠v.ownBlock)->d.M w1 base (fun k=>ok k∧some k≠v1.ownBlock) q c:=by
   intro q c o hq ho;have h1:=d.M_move (w1:=w1) (fun k hk=>hg.block k hk.2.2.1 (ho k hk.1).2) (d.M_bound hq);exact d.M_mono (fun k hk=>⟨(ho k hk.1).1,hne k (ho k hk.1).2 hk.2.2.1⟩) h1
  refine ⟨v1,w1,hrun,⟨fun k hk=>?_,inner ++ news,by rw [List.length_append,hm];exact h2,fx_ (hr.imp_ (fun _ _ hq=>step hq (fun _ hk=>hk))) (hnM.imp_ (fun _ _ hq=>step hq hokp))⟩,hg,hat'⟩;rcases hat' with hat | ⟨b,hb,hle⟩
  ·exact hok k (hat ▸ hk)
  ·rw [hb] at hk;injection hk with hk;exact hfresh k (by omega)
end
theorem cw_ {P:Program}{ops:Array Oper}{o:Oper}{a:Act}{w w1:World}{K:Act->World->Prop}{Q:Exit->Act->World->Prop}{E:Prop}{v:Value}
  (hg:o.guard=none) (s x:Operand) (t:TypeId) (hop:o.op=Op.call { callee:=Callee.builtin Builtin.append,args:=#[s,x],argTypes:=#[t,t] })
  (vs vx:Value) (hs:a.eval s=vs) (hx:a.eval x=vx) (hrun:(Builtin.append_ #[t,t] o.type #[vs,vx]).run P w=.ok v w1)
  (hK:K (a.put o.dst v) w1):
  if Region.wanted o (yielded ops a.tmps)=true then Oper.wp P o a w K Q else E:=by
 have hw:Region.wanted o (yielded ops a.tmps)=true:=by simp [Region.wanted,hg]
 rw [if_pos hw];unfold Oper.wp;simp [execOp,hop,resolve,invoke,builtin,hs,hx,hrun,Result.andThen];exact hK
def LexAt (w0 W:World)(g:Nat)(Al:Option Addr)(cl:Nat)(l:List Int)(Ap:Option Addr)(cp:Nat)(p:List Int)(i deep:Int)(out:List S159):Prop:=
 ∃ v,W.heap[g]? =some (.cells #[.slice Al l.length cl,.slice Ap p.length cp,.int .i64 i,.int .i64 deep,v,.int .i64 0,.int .i64 0] 156 (0,0))∧k159.R 159 W w0.heap.size (fun _=>True) v out∧Below w0.heap.size w0 W∧w0.heap.size<=g
theorem LexAt.below {w0 W W1:World}{g:Nat}{Al Ap:Option Addr}{cl cp:Nat}{l p:List Int}{i deep:Int}{out:List S159}(h:LexAt w0 W g Al cl l Ap cp p i deep out)(hb:Below W.heap.size W W1):LexAt w0 W1 g Al cl l Ap cp p i deep out:=by
 obtain ⟨v,h1,h2,h3,h4⟩:=h;exact ⟨v,ag_ h1 hb,R_below h2 hb,h3.trans (hb.mono h3.size),h4⟩
theorem LexAt.cells {w0 W:World}{g:Nat}{Al Ap:Option Addr}{cl cp:Nat}{l p:List Int}{i deep:Int}{out:List S159}(h:LexAt w0 W g Al cl l Ap cp p i deep out): ∃ A c,W.heap[g]? =some (.cells #[.slice Al l.length cl,.slice Ap p.length cp,.int .i64 i,.int .i64 deep,.slice A out.length c,.int .i64 0,.int .i64 0] 156 (0,0))∧k159.R 159 W w0.heap.size (fun _=>True) (.slice A out.length c) out∧out.length<=c∧k159.C W A out.length out∧(∀ b,A=some b->b.block≠g):=by
 obtain ⟨v,h1,h2,h3,h4⟩:=h;obtain ⟨A,c,rfl,hl,hc⟩:=R_reads h2;refine ⟨A,c,h1,h2,hl,hc,fun b hb=>?_⟩;have:=R_ne h2 h1 (by decide);rw [hb] at this;intro e;apply this;rw [←e];rfl
theorem hw_ {α:Type}{R:α->List Value->Prop}{size:Nat}{w:World}{a:Addr}{x:α}{c:List Value}(hc:c.length=size)(hR:R x c)(h: ∀ i u,c[i]? =some u->w.cell? (a.add i)=some u):ReadsRow R size w (some a) 1 [x]:=by
 refine ⟨rfl,by decide,fun _=>⟨a,rfl,fun j p hj=>?_⟩⟩;cases j with
 | succ j=>simp at hj
 | zero=>
  simp at hj;subst hj;exact ⟨c,hc,hR,fun i u hi=>by rw [Nat.zero_mul,Nat.zero_add];exact h i u hi⟩
theorem df_ (w0 W:World)(g:Nat)(Al:Option Addr)(cl:Nat)(l:List Int)(Ap:Option Addr)(cp:Nat)(p:List Int)(i deep:Int)(out:List S159)(h:LexAt w0 W g Al cl l Ap cp p i deep out)
  (hp:Kd.C (Kd.int .i64) w0 Ap p.length p) (hpl:p.length<=1000000) (hol:out.length<=1000000) (k0:Int) (s:ByteArray) (k2 k3 k4:Int) (j:Int) (hj0:0<=j) (hj1:j<p.length):
  Calls Tryz.prog 158 #[.pointer (some ⟨g,0,none⟩),.agg #[.int .i64 k0,.string s,.int .i64 k2,.int .i64 k3,.int .i64 k4],.int .i64 j] W fun e W1=>e=.returned (.tuple #[])∧LexAt w0 W1 g Al cl l Ap cp p i deep (out ++ [⟨k0,s,k2,k3,rd p j⟩]):=by
 obtain ⟨A,c,hb,hr,hl,hc,hne⟩:=h.cells;obtain ⟨v_,hx_,hy_,hB,hg⟩:=h;clear hx_ hy_ v_;obtain ⟨ad,rfl,hcell⟩:=Kd.ds_ hp j hj0 hj1;replace hcell:=(hB.cell (bl__ w0 _ hcell)).trans hcell;have hbW:Below W.heap.size W (W.alloc (.cells #[.int .i64 k0,.string s,.int .i64 k2,.int .i64 k3,.int .i64 k4] 159)):=ab_ (Below.refl W.heap.size W) _;have hcell1:=(hbW.cell (bl__ W _ hcell)).trans hcell;have d0:decide ((0:Int)<=j)=true:=dt__ hj0;have d1:decide (j<(p.length:Int))=true:=dt__ hj1;have c1:=(af_ (ag_ hb hbW) 1).trans rfl;have HB:=Sd.m hb;have HR:=Sd.m hr;have HC:=Sd.m hp;have HBW:=Sd.m hB;clear hb hr hbW hcell hB hc hne hp;go_enter Tryz.func158,Tryz.ntmps158;go_wp2_with fail;have hmx:Tryz.prog.follows .mixedOrders=true:=by kernel_rfl
 clear hcell1 c1 d0 d1;obtain ⟨W2,hW2⟩: ∃ W_,W_=W.alloc (.cells #[.int .i64 k0,.string s,.int .i64 k2,.int .i64 k3,.int .i64 (rd p j)] 159):=⟨_,rfl⟩;have hbW:Below W.heap.size W W2:=by rw [hW2];exact ab_ (Below.refl W.heap.size W) _
 have hbx:W2.heap[W.heap.size]? =some (.cells #[.int .i64 k0,.string s,.int .i64 k2,.int .i64 k3,.int .i64 (rd p j)] 159 (0,0)):=by rw [hW2];exact aj_ _ _
 have hgW:=cc_ HB.out;have hbg:=ag_ HB.out hbW;have hr2:=R_below HR.out hbW;have hB2:=HBW.out.trans (hbW.mono HBW.out.size);have n0:=bc_ hbx 0 rfl;have n1:=bc_ hbx 1 rfl;have n2:=bc_ hbx 2 rfl;have n3:=bc_ hbx 3 rfl;have n4:=bc_ hbx 4 rfl;have g4:=bc_ hbg 4 rfl;rw [←hW2];clear hW2;obtain ⟨W3,hW3⟩: ∃ W_,W_=(W2.alloc (.cells #[.int .i64 k0,.string s,.int .i64 k2,.int .i64 k3,.int .i64 (rd p j)] 159)).drew:=⟨_,rfl⟩;have hb3:Below W2.heap.size W2 W3:=by
  rw [hW3];have q:=ab_ (Below.refl W2.heap.size W2) (.cells #[.int .i64 k0,.string s,.int .i64 k2,.int .i64 k3,.int .i64 (rd p j)] 159);exact ⟨q.os,q.tape,q.output,q.size,q.block⟩
 have hr3:=R_below hr2 hb3;have hbg3:=ag_ hbg hb3;have hnew:W3.heap[W2.heap.size]? =some (.cells #[.int .i64 k0,.string s,.int .i64 k2,.int .i64 k3,.int .i64 (rd p j)] 159 (0,0)):=by rw [hW3];exact aj_ W2 _
 have hB3:=hB2.trans (hb3.mono hB2.size);obtain ⟨v4,w4,hrun,hr4,hg4,hat4⟩:=fh_ (P:=Tryz.prog) (Rr:=fun x cs=>k159.M W3 w0.heap.size (fun _=>False) x cs) k159 (W:=W3) w0.heap.size 112 112 159 (.agg #[.int .i64 0,.string ⟨#[]⟩,.int .i64 0,.int .i64 0,.int .i64 0]) 48 Tryz.underlying112 (by kernel_rfl) rfl (by decide) (by decide) (.slice A out.length c) out [⟨k0,s,k2,k3,rd p j⟩] (some ⟨W2.heap.size,0,none⟩) 1 1 (fun _=>True) (fun _=>False) hr3
  (hw_ rfl (k159_mkM _ _ _ ⟨k0,s,k2,k3,rd p j⟩) fun i u hi=>by
   have e:(Addr.add ⟨W2.heap.size,0,none⟩ i)=⟨W2.heap.size,i,none⟩:=by simp [Addr.add];exact fun h=>h.symm
   rw [e,af_ hnew i];simpa using hi)
  (fun _ _ hx=>hx) (fun k hk=>hk.elim) (fun _ _=>trivial) hB3.size (by omega)
 have hne3:some g≠(Value.slice A out.length c).ownBlock:=R_ne hr3 hbg3 (by decide);have hbg4:=cl_ hbg3 hg4 hne3;obtain ⟨A4,c4,rfl⟩:=R_slice hr4;have hB4:Below w0.heap.size w0 w4:=hB3.grown hg4 hB3.size (R_base hr3);have g44:=bc_ hbg4 4 rfl;have f44:=aa_ hbg4 4;have g43:=bc_ hbg3 4 rfl;rw [hW3] at hrun g43;have HB4:=Sd.m hB4;have HBG4:=Sd.m hbg4;have HR4:=Sd.m hr4;clear hW3 hb3 hr3 hbg3 hnew hB3 hne3 hr4 hg4 hat4 hB4 hbg4 hbW hbx hbg hr2 hB2 hgW HB HR HBW HC
 go_region_law (refine cw_ rfl (.tmp 18) (.tmp 20) 112 rfl _ _ rfl rfl hrun ?_)
 all_goals
  refine Great.bodyPost_end0 rfl rfl ?_;refine ⟨rfl,_,by simpa using eb_ HBG4.out 4 _,R_set HR4.out HBG4.out (by decide) 4 _,HB4.out.setCell (p:=⟨g,4,none⟩) hg _,hg⟩
end LX
namespace K
open A
attribute [local go_sem] ct_ cq_ dh_ dg_ ch_ cg_ cr_ cp_
def IsS117 (w0 W:World)(g:Nat)(f0:List (S159))(f1:Int)(f2:Int)(f3:Int)(f4:Int):Prop:= ∃ A0 c0,W.heap[g]? =some (.cells #[.slice A0 f0.length c0,.int .i64 f1,.int .i64 f2,.int .i64 f3,.int .i64 f4] 117 (0,0))∧w0.heap.size<=g∧Kd.C k159 w0 A0 f0.length f0
theorem IsS117.grown {w0 W:World}{g:Nat}{f0:List (S159)}{f1:Int}{f2:Int}{f3:Int}{f4:Int}{W1:World}{row:Option Nat}(h:IsS117 w0 W g f0 f1 f2 f3 f4)(hw:W.grownBy W1 row)(hne:some g≠row):IsS117 w0 W1 g f0 f1 f2 f3 f4:=by
 obtain ⟨A0,c0,hb,hg,hr0⟩:=h;exact ⟨A0,c0,cl_ hb hw hne,hg,hr0⟩
theorem IsS117.below {w0 W:World}{g:Nat}{f0:List (S159)}{f1:Int}{f2:Int}{f3:Int}{f4:Int}{W1:World}(h:IsS117 w0 W g f0 f1 f2 f3 f4)(hw:Below W.heap.size W W1):IsS117 w0 W1 g f0 f1 f2 f3 f4:=h.grown (km_ hw none) (by simp)
theorem IsS117.alloc {w0 W:World}{g:Nat}{f0:List (S159)}{f1:Int}{f2:Int}{f3:Int}{f4:Int}(h:IsS117 w0 W g f0 f1 f2 f3 f4)(o:Obj):IsS117 w0 (W.alloc o) g f0 f1 f2 f3 f4:=h.below (ab_ (Below.refl _ _) o)
theorem IsS117.drewN {w0 W:World}{g:Nat}{f0:List (S159)}{f1:Int}{f2:Int}{f3:Int}{f4:Int}(h:IsS117 w0 W g f0 f1 f2 f3 f4)(m:Nat):IsS117 w0 (W.drewN m) g f0 f1 f2 f3 f4:=h
theorem IsS117.lt {w0 W:World}{g:Nat}{f0:List (S159)}{f1:Int}{f2:Int}{f3:Int}{f4:Int}(h:IsS117 w0 W g f0 f1 f2 f3 f4):g<W.heap.size:=by
 obtain ⟨A0,c0,hb,hg,hr0⟩:=h;exact cc_ hb
theorem IsS117.ge {w0 W:World}{g:Nat}{f0:List (S159)}{f1:Int}{f2:Int}{f3:Int}{f4:Int}(h:IsS117 w0 W g f0 f1 f2 f3 f4):w0.heap.size<=g:=by
 obtain ⟨A0,c0,hb,hg,hr0⟩:=h;exact hg
theorem IsS117.far {w0 W:World}{g:Nat}{f0:List (S159)}{f1:Int}{f2:Int}{f3:Int}{f4:Int}{p:Addr}(h:IsS117 w0 W g f0 f1 f2 f3 f4)(hne:g≠p.block)(u:Value):IsS117 w0 (W.setCell p u) g f0 f1 f2 f3 f4:=by
 obtain ⟨A0,c0,hb,hg,hr0⟩:=h;exact ⟨A0,c0,bj_ hb hne u,hg,hr0⟩
theorem lh_ {W:World}{g:Nat}{A0:Option Addr}{c0:Nat}{f0:List (S159)}{f1:Int}{f2:Int}{f3:Int}{f4:Int}(h:W.heap[g]? =some (.cells #[.slice A0 f0.length c0,.int .i64 f1,.int .i64 f2,.int .i64 f3,.int .i64 f4] 117 (0,0))):W.cell? ⟨g,0,none⟩=some (.slice A0 f0.length c0):=(af_ h 0).trans rfl
theorem lg_ {W:World}{g:Nat}{A0:Option Addr}{c0:Nat}{f0:List (S159)}{f1:Int}{f2:Int}{f3:Int}{f4:Int}(h:W.heap[g]? =some (.cells #[.slice A0 f0.length c0,.int .i64 f1,.int .i64 f2,.int .i64 f3,.int .i64 f4] 117 (0,0))):W.cell? ⟨g,1,none⟩=some (.int .i64 f1):=(af_ h 1).trans rfl
theorem lf_ {W:World}{g:Nat}{A0:Option Addr}{c0:Nat}{f0:List (S159)}{f1:Int}{f2:Int}{f3:Int}{f4:Int}(h:W.heap[g]? =some (.cells #[.slice A0 f0.length c0,.int .i64 f1,.int .i64 f2,.int .i64 f3,.int .i64 f4] 117 (0,0))):W.cell? ⟨g,2,none⟩=some (.int .i64 f2):=(af_ h 2).trans rfl
theorem ld_ {W:World}{g:Nat}{A0:Option Addr}{c0:Nat}{f0:List (S159)}{f1:Int}{f2:Int}{f3:Int}{f4:Int}(h:W.heap[g]? =some (.cells #[.slice A0 f0.length c0,.int .i64 f1,.int .i64 f2,.int .i64 f3,.int .i64 f4] 117 (0,0))):W.cell? ⟨g,3,none⟩=some (.int .i64 f3):=(af_ h 3).trans rfl
theorem lc_ {W:World}{g:Nat}{A0:Option Addr}{c0:Nat}{f0:List (S159)}{f1:Int}{f2:Int}{f3:Int}{f4:Int}(h:W.heap[g]? =some (.cells #[.slice A0 f0.length c0,.int .i64 f1,.int .i64 f2,.int .i64 f3,.int .i64 f4] 117 (0,0))):W.cell? ⟨g,4,none⟩=some (.int .i64 f4):=(af_ h 4).trans rfl
theorem IsS117.set_4 {w0 W:World}{g:Nat}{f0:List (S159)}{f1:Int}{f2:Int}{f3:Int}{f4:Int}(h:IsS117 w0 W g f0 f1 f2 f3 f4)(x:Int):IsS117 w0 (W.setCell ⟨g,4,none⟩ (.int .i64 x)) g f0 f1 f2 f3 x:=by
 obtain ⟨A0,c0,hb,hg,hr0⟩:=h;exact ⟨A0,c0,by simpa using eb_ hb 4 (.int .i64 x),hg,hr0⟩
theorem IsS117.new (w0 W:World)(A0:Option Addr)(c0:Nat)(f0:List (S159))(f1:Int)(f2:Int)(f3:Int)(f4:Int)(hB:Below w0.heap.size w0 W)(hr0:Kd.C k159 w0 A0 f0.length f0):IsS117 w0 (W.alloc (.cells #[.slice A0 f0.length c0,.int .i64 f1,.int .i64 f2,.int .i64 f3,.int .i64 f4] 117)) W.heap.size f0 f1 f2 f3 f4:=⟨A0,c0,by simpa using heap_alloc_new W _,hB.size,hr0⟩
def dc_.f (s0_0:List (S159))(s0_1:Int)(s0_2:Int)(s0_3:Int)(s0_4:Int):Option (Int × Int × Int × Int × Int):=if s0_4 ≥ (s0_0.length:Int) then (some (0,s0_1,s0_2,s0_3,s0_4)) else (if 0<=s0_4 then (if s0_4<(s0_0.length:Int) then (some ((ac_ s0_0 s0_4).f0,s0_1,s0_2,s0_3,s0_4)) else (none)) else (none))
theorem dc_.calls (g:Nat)(s0_0:List (S159))(s0_1:Int)(s0_2:Int)(s0_3:Int)(s0_4:Int)(r1:Int)(r2:Int)(r3:Int)(r4:Int)(r5:Int)(w0 w:World)(hI:IsS117 w0 w g s0_0 s0_1 s0_2 s0_3 s0_4)(hB:Below w0.heap.size w0 w)(h:dc_.f s0_0 s0_1 s0_2 s0_3 s0_4=some (r1,r2,r3,r4,r5)):
  Calls Tryz.prog 85 #[.pointer (some ⟨g,0,none⟩)] w fun e w'=>e=.returned (.int .i64 r1)∧IsS117 w0 w' g s0_0 r2 r3 r4 r5∧Below w0.heap.size w0 w'∧KeepBut w w' g none:=by
 have HI0:=Sd.m hI;have HK:=Sd.m (KeepBut.refl w g none);have HL:=Sd.m hB.size;clear hI;have HW0:=Sd.m hB.size;have HB:=Sd.m hB;clear hB;have H:(if s0_4 ≥ (s0_0.length:Int) then (some (0,s0_1,s0_2,s0_3,s0_4)) else (if 0<=s0_4 then (if s0_4<(s0_0.length:Int) then (some ((ac_ s0_0 s0_4).f0,s0_1,s0_2,s0_3,s0_4)) else (none)) else (none)))=some (r1,r2,r3,r4,r5):=h;clear h;by_cases c2:s0_4 ≥ (s0_0.length:Int)
 ·rw [if_pos c2] at H;have c2b0:=dt__ c2;clear c2;simp only [Option.some.injEq,Prod.mk.injEq] at H;obtain ⟨rfl,rfl,rfl,rfl,rfl⟩:=H;obtain ⟨ASz3_0,cSz3_0,HGz3,hgz3,HSz3_0⟩:=HI0.out;have hcz3_0:=lh_ HGz3;have hcz3_1:=lg_ HGz3;have hcz3_2:=lf_ HGz3;have hcz3_3:=ld_ HGz3;have hcz3_4:=lc_ HGz3;have hfz3_1:=aa_ HGz3 1;have hfz3_2:=aa_ HGz3 2;have hfz3_3:=aa_ HGz3 3;have hfz3_4:=aa_ HGz3 4;clear HGz3 hgz3;go_enter Tryz.func85,Tryz.ntmps85;go_wp2
  repeat (go_quiet (fail);try go_wp2)
  go_ret;exact ⟨re_,by repeat (first | (with_reducible first | exact HI0.out | apply IsS117.alloc | apply IsS117.drewN | apply IsS117.drew | apply IsS117.set_1 | apply IsS117.set_2 | apply IsS117.set_3 | apply IsS117.set_4) | exact HI0.out),by repeat (first | (with_reducible first | exact HB.out | apply ab_ | apply ad_ | apply au_ | refine bb_ ?_ (IsS117.ge HI0.out)) | exact HB.out),by repeat (first | (with_reducible first | exact HK.out | apply KeepBut.set_ | apply kv_ | apply keep_drew | apply keep_alloc) | exact HK.out)⟩
 ·rw [if_neg c2] at H;have c2b0:=df__ c2;clear c2;by_cases c4:0<=s0_4
  ·rw [if_pos c4] at H;have c4b0:=dt__ c4;clear c4;by_cases c5:s0_4<(s0_0.length:Int)
   ·rw [if_pos c5] at H;have c5b0:=dt__ c5;clear c5;simp only [Option.some.injEq,Prod.mk.injEq] at H;obtain ⟨rfl,rfl,rfl,rfl,rfl⟩:=H;obtain ⟨ASz6_0,cSz6_0,HGz6,hgz6,HSz6_0⟩:=HI0.out;have hcz6_0:=lh_ HGz6;have hcz6_1:=lg_ HGz6;have hcz6_2:=lf_ HGz6;have hcz6_3:=ld_ HGz6;have hcz6_4:=lc_ HGz6;have hfz6_1:=aa_ HGz6 1;have hfz6_2:=aa_ HGz6 2;have hfz6_3:=aa_ HGz6 3;have hfz6_4:=aa_ HGz6 4;clear HGz6 hgz6;have p101:0<=(s0_4:Int):=od_;have q101:s0_4<(s0_0.length:Int):=od_;obtain ⟨ad101,e101,hx101_0,hx101_1,hx101_2,hx101_3,hx101_4⟩:=go_ HSz6_0 s0_4 p101 q101;cases e101;replace hx101_0:=dt_ HB.out hx101_0;replace hx101_1:=dt_ HB.out hx101_1;replace hx101_2:=dt_ HB.out hx101_2;replace hx101_3:=dt_ HB.out hx101_3;replace hx101_4:=dt_ HB.out hx101_4;replace p101:=eq_true p101;replace q101:=eq_true q101;go_enter Tryz.func85,Tryz.ntmps85;go_wp2
    repeat (go_quiet (fail);try go_wp2)
    go_ret;exact ⟨re_,by repeat (first | (with_reducible first | exact HI0.out | apply IsS117.alloc | apply IsS117.drewN | apply IsS117.drew | apply IsS117.set_1 | apply IsS117.set_2 | apply IsS117.set_3 | apply IsS117.set_4) | exact HI0.out),by repeat (first | (with_reducible first | exact HB.out | apply ab_ | apply ad_ | apply au_ | refine bb_ ?_ (IsS117.ge HI0.out)) | exact HB.out),by repeat (first | (with_reducible first | exact HK.out | apply KeepBut.set_ | apply kv_ | apply keep_drew | apply keep_alloc) | exact HK.out)⟩
   ·rw [if_neg c5] at H;exact absurd H (by simp)
  ·rw [if_neg c4] at H;exact absurd H (by simp)
def cv_.f (a0:Int)(l1:List (S85)):Option (Int × ByteArray × Int × Int × (List (S85))):=if (l1.length:Int)=0 then (some (1,(⟨#[]⟩:ByteArray),0,0,([]:List (S85)))) else (if (l1.length:Int)=1 then (if 0<(l1.length:Int) then (some ((by_ l1 0).f0,(by_ l1 0).f1,(by_ l1 0).f2,(by_ l1 0).f3,(by_ l1 0).f4)) else (none)) else (some (a0,(⟨#[]⟩:ByteArray),0,0,l1)))
theorem cv_.calls (a0:Int)(P1_:Nat->Prop)(A1:Option Addr)(c1:Nat)(l1:List (S85))(r1:Int)(r2:ByteArray)(r3:Int)(r4:Int)(r5:List (S85))(w:World)(hs1:Kd.V k85 85 w w.heap.size (fun k_=>P1_ k_) (.slice A1 l1.length c1) l1)(h:cv_.f a0 l1=some (r1,r2,r3,r4,r5)):
  Calls Tryz.prog 166 #[.int .i64 a0,.slice A1 l1.length c1] w fun e w'=> ∃ v4_:Value,e=.returned (.agg #[.int .i64 r1,.string r2,.int .i64 r3,.int .i64 r4,v4_])∧Kd.V k85 85 w' w.heap.size (fun k_=>(P1_ k_∨w.heap.size<=k_)) v4_ r5∧Below w.heap.size w w':=by
 have hu85:=Tryz.underlying85;have HO1:=Sd.m (show Kd.V k85 85 w w.heap.size (fun k_=>(P1_ k_∨w.heap.size<=k_)) (.slice A1 l1.length c1) l1 from Kd.V_mono hs1 (fun k_ hk=>.inl hk));have HB:=Sd.m (Below.refl w.heap.size w);have H:(if (l1.length:Int)=0 then (some (1,(⟨#[]⟩:ByteArray),0,0,([]:List (S85)))) else (if (l1.length:Int)=1 then (if 0<(l1.length:Int) then (some ((by_ l1 0).f0,(by_ l1 0).f1,(by_ l1 0).f2,(by_ l1 0).f3,(by_ l1 0).f4)) else (none)) else (some (a0,(⟨#[]⟩:ByteArray),0,0,l1))))=some (r1,r2,r3,r4,r5):=h;clear h;by_cases c3:(l1.length:Int)=0
 ·rw [if_pos c3] at H;have c3b0:((l1.length:Int) == 0)=true:=beq_iff_eq.mpr c3;have c3b1:((l1.length:Int) != 0)=false:=bne_eq_false_iff_eq.mpr c3;clear c3;simp only [Option.some.injEq,Prod.mk.injEq] at H;obtain ⟨rfl,rfl,rfl,rfl,rfl⟩:=H;go_enter Tryz.func166,Tryz.ntmps166;go_wp2_with (first | ((with_reducible refine co_ (N:=4) rfl ?_);refine di_ ?hg (N:=4) ?hd (cs:=#[.int .i64 0,.string (⟨#[]⟩:ByteArray),.int .i64 0,.int .i64 0,.slice none 0 0]) (t:=85) ?hr ?_;(case hd=>rfl);(case hg=>rfl);(case hr=>first | (go_simp;done) | (go_simp;rfl));intro gb102 hg w4 hbox hb;have n0_:=Sd.m (Kd.V_below (Kd.V_elderB (by (with_reducible repeat (first | apply Kd.V_alloc | apply Kd.V_drewN | apply Kd.V_drew));exact HO1.out) gb102 (Nat.le_of_eq hg.symm)) hb);have n1_:=Sd.m (av_ rb_ hb);have n2_:=Sd.m (hbox);have n3_:=Sd.m ((by rw [hg];exact (ap_ rb_):w.heap.size<=gb102));have n4_:=Sd.m ((by rw [hg];exact (ap_ rb_):w.heap.size<=gb102));clear HO1;clear HB;have HO1:=n0_;have HB:=n1_;have BK102:=n2_;have GW102:=n3_;have GE102:=n4_;clear n0_ n1_ n2_ n3_ n4_;clear hb hbox hg;have hcz5_0:w4.cell? ⟨gb102,0,none⟩=some (.int .i64 0):=(af_ BK102.out 0).trans rfl;have hcz5_1:w4.cell? ⟨gb102,1,none⟩=some (.string (⟨#[]⟩:ByteArray)):=(af_ BK102.out 1).trans rfl;have hcz5_2:w4.cell? ⟨gb102,2,none⟩=some (.int .i64 0):=(af_ BK102.out 2).trans rfl;have hcz5_3:w4.cell? ⟨gb102,3,none⟩=some (.int .i64 0):=(af_ BK102.out 3).trans rfl;have hcz5_4:w4.cell? ⟨gb102,4,none⟩=some (.slice none 0 0):=(af_ BK102.out 4).trans rfl;have hfz5_0:=aa_ BK102.out 0;have hfz5_1:=aa_ BK102.out 1;have hfz5_2:=aa_ BK102.out 2;have hfz5_3:=aa_ BK102.out 3;have hfz5_4:=aa_ BK102.out 4));refine bodyPost_ret (results_cell_row rfl _ _ gb102 85 #[.int .i64 1,.string (⟨#[]⟩:ByteArray),.int .i64 0,.int .i64 0,.slice none 0 0] (0,0) _ rfl (by (with_reducible repeat (first | refine ba_ ?_ _ | refine bl_ ?_ | refine am_ ?_ _));refine cj_ (cs:=#[.int .i64 1,.string (⟨#[]⟩:ByteArray),.int .i64 0,.int .i64 0,.slice none 0 0]) ?_ 4 _ rfl;(with_reducible repeat (first | refine ba_ ?_ _ | refine bl_ ?_ | refine am_ ?_ _));refine cj_ (cs:=#[.int .i64 1,.string (⟨#[]⟩:ByteArray),.int .i64 0,.int .i64 0,.slice none 0 0]) ?_ 3 _ rfl;(with_reducible repeat (first | refine ba_ ?_ _ | refine bl_ ?_ | refine am_ ?_ _));refine cj_ (cs:=#[.int .i64 1,.string (⟨#[]⟩:ByteArray),.int .i64 0,.int .i64 0,.slice none 0 0]) ?_ 2 _ rfl;(with_reducible repeat (first | refine ba_ ?_ _ | refine bl_ ?_ | refine am_ ?_ _));refine cj_ (cs:=#[.int .i64 1,.string (⟨#[]⟩:ByteArray),.int .i64 0,.int .i64 0,.slice none 0 0]) ?_ 1 _ rfl;(with_reducible repeat (first | refine ba_ ?_ _ | refine bl_ ?_ | refine am_ ?_ _));refine cj_ (cs:=#[.int .i64 0,.string (⟨#[]⟩:ByteArray),.int .i64 0,.int .i64 0,.slice none 0 0]) ?_ 0 _ rfl;(with_reducible repeat (first | refine ba_ ?_ _ | refine bl_ ?_ | refine am_ ?_ _));exact BK102.out) Tryz.underlying85 rfl (by kernel_rfl)) rfl ?_;exact ⟨_,re_,Kd.V_nil _ _ _ _ _,by repeat (first | (with_reducible first | exact HB.out | apply ab_ | apply ad_ | apply au_ | refine bb_ ?_ GE102.out) | exact HB.out)⟩
 ·rw [if_neg c3] at H;have c3b0:((l1.length:Int) == 0)=false:=beq_eq_false_iff_ne.mpr c3;have c3b1:((l1.length:Int) != 0)=true:=bne_iff_ne.mpr c3;have c3b2:¬ (l1=[]):=fun h_=>c3 (by rw [h_];rfl);by_cases c6:(l1.length:Int)=1
  ·rw [if_pos c6] at H;have c6b0:((l1.length:Int) == 1)=true:=beq_iff_eq.mpr c6;have c6b1:((l1.length:Int) != 1)=false:=bne_eq_false_iff_eq.mpr c6;clear c6;by_cases c7:0<(l1.length:Int)
   ·rw [if_pos c7] at H;have c7b0:=dt__ c7;have c7b1:decide (0<l1.length)=true:=dt__ (by omega);clear c7;simp only [Option.some.injEq,Prod.mk.injEq] at H;obtain ⟨rfl,rfl,rfl,rfl,rfl⟩:=H;go_enter Tryz.func166,Tryz.ntmps166;go_wp2_with (first | ((with_reducible refine co_ (N:=4) rfl ?_);refine di_ ?hg (N:=4) ?hd (cs:=#[.int .i64 0,.string (⟨#[]⟩:ByteArray),.int .i64 0,.int .i64 0,.slice none 0 0]) (t:=85) ?hr ?_;(case hd=>rfl);(case hg=>rfl);(case hr=>first | (go_simp;done) | (go_simp;rfl));intro gb102 hg w8 hbox hb;have n0_:=Sd.m (Kd.V_below (Kd.V_elderB (by (with_reducible repeat (first | apply Kd.V_alloc | apply Kd.V_drewN | apply Kd.V_drew));exact HO1.out) gb102 (Nat.le_of_eq hg.symm)) hb);have n1_:=Sd.m (av_ rb_ hb);have n2_:=Sd.m (hbox);have n3_:=Sd.m ((by rw [hg];exact (ap_ rb_):w.heap.size<=gb102));have n4_:=Sd.m ((by rw [hg];exact (ap_ rb_):w.heap.size<=gb102));clear HO1;clear HB;have HO1:=n0_;have HB:=n1_;have BK102:=n2_;have GW102:=n3_;have GE102:=n4_;clear n0_ n1_ n2_ n3_ n4_;clear hb hbox hg;have p103:0<=(0:Int):=(by omega);have q103:0<(l1.length:Int):=od_;obtain ⟨ad103,A103_4,c103_4,e103,hx103_0,hx103_1,hx103_2,hx103_3,hx103_4,hl103_4,hi103_4⟩:=at_T85 (Kd.V_reads' HO1.out).2.2 0 p103 q103;cases e103;obtain ⟨ce103,hce103,hMe103,hcc103⟩:=Kd.V_get HO1.out z85 0 p103 (by first | exact q103 | exact od_ | (have e_:=(Kd.V_reads' HO1.out).1;omega));obtain ⟨ua103_4,uc103_4,rfl,ul103_4,ge103_4⟩:=k85_openF hMe103;have hv103_4:=hcc103 4 _ rfl;rw [ay_ _ _ 4 (by omega)] at hv103_4;replace hv103_4:=Option.some.inj (hv103_4.symm.trans hx103_4);injection hv103_4 with hva_ hvn_ hvc_;rw [hva_] at ge103_4;rw [hvc_] at ul103_4;have HL103_4:=Sd.m (show Kd.V k85 85 _ w.heap.size _ _ ((by_ l1 0).f4) from Kd.V_mk ul103_4 ge103_4);clear hva_ hvn_ hvc_ ge103_4 ul103_4;clear hcc103 hce103;have qi103:(0<l1.length)=True:=eq_true (by omega);(try rw [show ((0:Int)).toNat=0 from rfl] at hx103_0);(try rw [show 0*5=0 from rfl] at hx103_0);(try rw [Addr.add_zero'] at hx103_0);(try rw [show ((0:Int)).toNat=0 from rfl] at hx103_1);(try rw [show 0*5=0 from rfl] at hx103_1);(try rw [Addr.add_zero'] at hx103_1);(try rw [show ((0:Int)).toNat=0 from rfl] at hx103_2);(try rw [show 0*5=0 from rfl] at hx103_2);(try rw [Addr.add_zero'] at hx103_2);(try rw [show ((0:Int)).toNat=0 from rfl] at hx103_3);(try rw [show 0*5=0 from rfl] at hx103_3);(try rw [Addr.add_zero'] at hx103_3);(try rw [show ((0:Int)).toNat=0 from rfl] at hx103_4);(try rw [show 0*5=0 from rfl] at hx103_4);(try rw [Addr.add_zero'] at hx103_4);have HR103_4:=Sd.m hi103_4;have HC103_4:=Sd.m hl103_4;clear hi103_4 hl103_4;replace p103:=eq_true p103;replace q103:=eq_true q103;have hcz9_0:w8.cell? ⟨gb102,0,none⟩=some (.int .i64 0):=(af_ BK102.out 0).trans rfl;have hcz9_1:w8.cell? ⟨gb102,1,none⟩=some (.string (⟨#[]⟩:ByteArray)):=(af_ BK102.out 1).trans rfl;have hcz9_2:w8.cell? ⟨gb102,2,none⟩=some (.int .i64 0):=(af_ BK102.out 2).trans rfl;have hcz9_3:w8.cell? ⟨gb102,3,none⟩=some (.int .i64 0):=(af_ BK102.out 3).trans rfl;have hcz9_4:w8.cell? ⟨gb102,4,none⟩=some (.slice none 0 0):=(af_ BK102.out 4).trans rfl;have hfz9_0:=aa_ BK102.out 0;have hfz9_1:=aa_ BK102.out 1;have hfz9_2:=aa_ BK102.out 2;have hfz9_3:=aa_ BK102.out 3;have hfz9_4:=aa_ BK102.out 4));refine bodyPost_ret (results_cell_row rfl _ _ gb102 85 #[.int .i64 ((by_ l1 0).f0),.string ((by_ l1 0).f1),.int .i64 ((by_ l1 0).f2),.int .i64 ((by_ l1 0).f3),.slice A103_4 ((by_ l1 0).f4).length c103_4] (0,0) _ rfl (by (with_reducible repeat (first | refine ba_ ?_ _ | refine bl_ ?_ | refine am_ ?_ _));refine cj_ (cs:=#[.int .i64 ((by_ l1 0).f0),.string ((by_ l1 0).f1),.int .i64 ((by_ l1 0).f2),.int .i64 ((by_ l1 0).f3),.slice none 0 0]) ?_ 4 _ rfl;(with_reducible repeat (first | refine ba_ ?_ _ | refine bl_ ?_ | refine am_ ?_ _));refine cj_ (cs:=#[.int .i64 ((by_ l1 0).f0),.string ((by_ l1 0).f1),.int .i64 ((by_ l1 0).f2),.int .i64 0,.slice none 0 0]) ?_ 3 _ rfl;(with_reducible repeat (first | refine ba_ ?_ _ | refine bl_ ?_ | refine am_ ?_ _));refine cj_ (cs:=#[.int .i64 ((by_ l1 0).f0),.string ((by_ l1 0).f1),.int .i64 0,.int .i64 0,.slice none 0 0]) ?_ 2 _ rfl;(with_reducible repeat (first | refine ba_ ?_ _ | refine bl_ ?_ | refine am_ ?_ _));refine cj_ (cs:=#[.int .i64 ((by_ l1 0).f0),.string (⟨#[]⟩:ByteArray),.int .i64 0,.int .i64 0,.slice none 0 0]) ?_ 1 _ rfl;(with_reducible repeat (first | refine ba_ ?_ _ | refine bl_ ?_ | refine am_ ?_ _));refine cj_ (cs:=#[.int .i64 0,.string (⟨#[]⟩:ByteArray),.int .i64 0,.int .i64 0,.slice none 0 0]) ?_ 0 _ rfl;(with_reducible repeat (first | refine ba_ ?_ _ | refine bl_ ?_ | refine am_ ?_ _));exact BK102.out) Tryz.underlying85 rfl (by kernel_rfl)) rfl ?_;exact ⟨_,re_,by (with_reducible repeat (first | apply Kd.V_alloc | apply Kd.V_drewN | apply Kd.V_drew));exact Kd.V_mono (Kd.V_far (p:=⟨gb102,4,none⟩) (Kd.V_far (p:=⟨gb102,3,none⟩) (Kd.V_far (p:=⟨gb102,2,none⟩) (Kd.V_far (p:=⟨gb102,1,none⟩) (Kd.V_far (p:=⟨gb102,0,none⟩) (Kd.V_mono HL103_4.out (fun k_ hk=>(⟨hk,hk.2⟩:_∧k_≠gb102))) (fun _ hk=>hk.2) (.int .i64 ((by_ l1 0).f0))) (fun _ hk=>hk.2) (.string ((by_ l1 0).f1))) (fun _ hk=>hk.2) (.int .i64 ((by_ l1 0).f2))) (fun _ hk=>hk.2) (.int .i64 ((by_ l1 0).f3))) (fun _ hk=>hk.2) (.slice A103_4 ((by_ l1 0).f4).length c103_4)) (fun _ hk=>hk.1.1),by repeat (first | (with_reducible first | exact HB.out | apply ab_ | apply ad_ | apply au_ | refine bb_ ?_ GE102.out) | exact HB.out)⟩
   ·rw [if_neg c7] at H;exact absurd H (by simp)
  ·rw [if_neg c6] at H;have c6b0:((l1.length:Int) == 1)=false:=beq_eq_false_iff_ne.mpr c6;have c6b1:((l1.length:Int) != 1)=true:=bne_iff_ne.mpr c6;simp only [Option.some.injEq,Prod.mk.injEq] at H;obtain ⟨rfl,rfl,rfl,rfl,rfl⟩:=H;go_enter Tryz.func166,Tryz.ntmps166;go_wp2_with (first | ((with_reducible refine co_ (N:=4) rfl ?_);refine di_ ?hg (N:=4) ?hd (cs:=#[.int .i64 0,.string (⟨#[]⟩:ByteArray),.int .i64 0,.int .i64 0,.slice none 0 0]) (t:=85) ?hr ?_;(case hd=>rfl);(case hg=>rfl);(case hr=>first | (go_simp;done) | (go_simp;rfl));intro gb102 hg w10 hbox hb;have n0_:=Sd.m (Kd.V_below (Kd.V_elderB (by (with_reducible repeat (first | apply Kd.V_alloc | apply Kd.V_drewN | apply Kd.V_drew));exact HO1.out) gb102 (Nat.le_of_eq hg.symm)) hb);have n1_:=Sd.m (av_ rb_ hb);have n2_:=Sd.m (hbox);have n3_:=Sd.m ((by rw [hg];exact (ap_ rb_):w.heap.size<=gb102));have n4_:=Sd.m ((by rw [hg];exact (ap_ rb_):w.heap.size<=gb102));clear HO1;clear HB;have HO1:=n0_;have HB:=n1_;have BK102:=n2_;have GW102:=n3_;have GE102:=n4_;clear n0_ n1_ n2_ n3_ n4_;clear hb hbox hg;have hcz11_0:w10.cell? ⟨gb102,0,none⟩=some (.int .i64 0):=(af_ BK102.out 0).trans rfl;have hcz11_1:w10.cell? ⟨gb102,1,none⟩=some (.string (⟨#[]⟩:ByteArray)):=(af_ BK102.out 1).trans rfl;have hcz11_2:w10.cell? ⟨gb102,2,none⟩=some (.int .i64 0):=(af_ BK102.out 2).trans rfl;have hcz11_3:w10.cell? ⟨gb102,3,none⟩=some (.int .i64 0):=(af_ BK102.out 3).trans rfl;have hcz11_4:w10.cell? ⟨gb102,4,none⟩=some (.slice none 0 0):=(af_ BK102.out 4).trans rfl;have hfz11_0:=aa_ BK102.out 0;have hfz11_1:=aa_ BK102.out 1;have hfz11_2:=aa_ BK102.out 2;have hfz11_3:=aa_ BK102.out 3;have hfz11_4:=aa_ BK102.out 4));refine bodyPost_ret (results_cell_row rfl _ _ gb102 85 #[.int .i64 a0,.string (⟨#[]⟩:ByteArray),.int .i64 0,.int .i64 0,.slice A1 l1.length c1] (0,0) _ rfl (by (with_reducible repeat (first | refine ba_ ?_ _ | refine bl_ ?_ | refine am_ ?_ _));refine cj_ (cs:=#[.int .i64 a0,.string (⟨#[]⟩:ByteArray),.int .i64 0,.int .i64 0,.slice none 0 0]) ?_ 4 _ rfl;(with_reducible repeat (first | refine ba_ ?_ _ | refine bl_ ?_ | refine am_ ?_ _));refine cj_ (cs:=#[.int .i64 a0,.string (⟨#[]⟩:ByteArray),.int .i64 0,.int .i64 0,.slice none 0 0]) ?_ 3 _ rfl;(with_reducible repeat (first | refine ba_ ?_ _ | refine bl_ ?_ | refine am_ ?_ _));refine cj_ (cs:=#[.int .i64 a0,.string (⟨#[]⟩:ByteArray),.int .i64 0,.int .i64 0,.slice none 0 0]) ?_ 2 _ rfl;(with_reducible repeat (first | refine ba_ ?_ _ | refine bl_ ?_ | refine am_ ?_ _));refine cj_ (cs:=#[.int .i64 a0,.string (⟨#[]⟩:ByteArray),.int .i64 0,.int .i64 0,.slice none 0 0]) ?_ 1 _ rfl;(with_reducible repeat (first | refine ba_ ?_ _ | refine bl_ ?_ | refine am_ ?_ _));refine cj_ (cs:=#[.int .i64 0,.string (⟨#[]⟩:ByteArray),.int .i64 0,.int .i64 0,.slice none 0 0]) ?_ 0 _ rfl;(with_reducible repeat (first | refine ba_ ?_ _ | refine bl_ ?_ | refine am_ ?_ _));exact BK102.out) Tryz.underlying85 rfl (by kernel_rfl)) rfl ?_;exact ⟨_,re_,by (with_reducible repeat (first | apply Kd.V_alloc | apply Kd.V_drewN | apply Kd.V_drew));exact Kd.V_mono (Kd.V_far (p:=⟨gb102,4,none⟩) (Kd.V_far (p:=⟨gb102,3,none⟩) (Kd.V_far (p:=⟨gb102,2,none⟩) (Kd.V_far (p:=⟨gb102,1,none⟩) (Kd.V_far (p:=⟨gb102,0,none⟩) (Kd.V_mono HO1.out (fun k_ hk=>(⟨hk,hk.2⟩:_∧k_≠gb102))) (fun _ hk=>hk.2) (.int .i64 a0)) (fun _ hk=>hk.2) (.string (⟨#[]⟩:ByteArray))) (fun _ hk=>hk.2) (.int .i64 0)) (fun _ hk=>hk.2) (.int .i64 0)) (fun _ hk=>hk.2) (.slice A1 l1.length c1)) (fun _ hk=>hk.1.1),by repeat (first | (with_reducible first | exact HB.out | apply ab_ | apply ad_ | apply au_ | refine bb_ ?_ GE102.out) | exact HB.out)⟩
def be_.f (a0:Int):Option (Bool):=if a0=1 then (some true) else (if a0=12 then (some true) else (if a0=6 then (some true) else (some (a0 == 13))))
theorem be_.calls (a0:Int)(r:Bool)(w:World)(h:be_.f a0=some r):
  Calls Tryz.prog 183 #[.int .i64 a0] w fun e w'=>e=.returned (.bool r)∧Drawn0 w w':=by
 have H:(if a0=1 then (some true) else (if a0=12 then (some true) else (if a0=6 then (some true) else (some (a0 == 13)))))=some r:=h;clear h;by_cases c2:a0=1
 ·rw [if_pos c2] at H;have c2b0:(a0 == 1)=true:=beq_iff_eq.mpr c2;have c2b1:(a0 != 1)=false:=bne_eq_false_iff_eq.mpr c2;clear c2;obtain rfl:=Option.some.inj H;go_enter Tryz.func183,Tryz.ntmps183;go_wp2;go_ret;exact ⟨ri_,dr_⟩
 ·rw [if_neg c2] at H;have c2b0:(a0 == 1)=false:=beq_eq_false_iff_ne.mpr c2;have c2b1:(a0 != 1)=true:=bne_iff_ne.mpr c2;by_cases c3:a0=12
  ·rw [if_pos c3] at H;have c3b0:(a0 == 12)=true:=beq_iff_eq.mpr c3;have c3b1:(a0 != 12)=false:=bne_eq_false_iff_eq.mpr c3;clear c3;obtain rfl:=Option.some.inj H;go_enter Tryz.func183,Tryz.ntmps183;go_wp2;go_ret;exact ⟨ri_,dr_⟩
  ·rw [if_neg c3] at H;have c3b0:(a0 == 12)=false:=beq_eq_false_iff_ne.mpr c3;have c3b1:(a0 != 12)=true:=bne_iff_ne.mpr c3;by_cases c4:a0=6
   ·rw [if_pos c4] at H;have c4b0:(a0 == 6)=true:=beq_iff_eq.mpr c4;have c4b1:(a0 != 6)=false:=bne_eq_false_iff_eq.mpr c4;clear c4;obtain rfl:=Option.some.inj H;go_enter Tryz.func183,Tryz.ntmps183;go_wp2;go_ret;exact ⟨ri_,dr_⟩
   ·rw [if_neg c4] at H;have c4b0:(a0 == 6)=false:=beq_eq_false_iff_ne.mpr c4;have c4b1:(a0 != 6)=true:=bne_iff_ne.mpr c4;obtain rfl:=Option.some.inj H;go_enter Tryz.func183,Tryz.ntmps183;go_wp2;go_ret;exact ⟨ri_,dr_⟩
def dw_.f (a0:Int):Option (Int):=some ((wrap64 (128+(Int.tmod a0 64))) % 256)
theorem dw_.calls (a0:Int)(r:Int)(w:World)(h:dw_.f a0=some r):
  Calls Tryz.prog 197 #[.int .i64 a0] w fun e w'=>e=.returned (.int .u8 r)∧Drawn0 w w':=by
 have H:(some ((wrap64 (128+(Int.tmod a0 64))) % 256))=some r:=h;clear h;obtain rfl:=Option.some.inj H;go_enter Tryz.func197,Tryz.ntmps197;go_wp2;go_ret;exact ⟨ri_,dr_⟩
def bo_.j0:Nat->Int->Bool->Option (List Int)
 | 0,_,_=>none
 | k+1,x0,x3=>if x3=true then (none) else (if x0<128 then (some (([(x0) % 256]:List Int))) else (if x0<2048 then ((dw_.f x0).bind fun t107=>(some (([(wrap64 (192+(wrap64 (Int.tdiv x0 64)))) % 256,t107]:List Int)))) else (none)))
def bo_.f (k:Nat)(a0:Int):Option (List Int):=if a0<0 then (none) else (if a0>1114111 then (none) else (if a0 ≥ 55296 then (none) else (bo_.j0 k a0 false)))
theorem bo_.calls (k:Nat)(a0:Int)(r:List Int)(w:World)(h:bo_.f k a0=some r):
  Calls Tryz.prog 177 #[.int .i64 a0] w fun e w'=> ∃ v0_:Value,e=.returned (v0_)∧Kd.R (Kd.int .u8) 5 w' w.heap.size (fun _=>True) v0_ r∧Below w.heap.size w w':=by
 have HB:=Sd.m (Below.refl w.heap.size w);have H:(if a0<0 then (none) else (if a0>1114111 then (none) else (if a0 ≥ 55296 then (none) else (bo_.j0 k a0 false))))=some r:=h;clear h;have HC2:=Sd.m H;clear H;go_enter Tryz.func177,Tryz.ntmps177;go_upto_region 1 with (fail);go_cut [3] (fun v3 wc=> ∃ (kq:Nat) (x3_1:Bool),v3=.bool x3_1∧Sd (bo_.j0 kq a0 x3_1=some r)∧Sd (kq<=k)∧Sd (Below w.heap.size w wc))
 case first=>
  have H:=HC2.out;clear HC2;by_cases c3:a0<0
  ·rw [if_pos c3] at H;exact absurd H (by simp)
  ·rw [if_neg c3] at H;have c3b0:=df__ c3;clear c3
   (first | rw [c3b0] | (simp only [cz_,db_];rw [c3b0]) | skip)
   by_cases c4:a0>1114111
   ·rw [if_pos c4] at H;exact absurd H (by simp)
   ·rw [if_neg c4] at H;have c4b0:=df__ c4;clear c4;by_cases c5:a0 ≥ 55296
    ·rw [if_pos c5] at H;exact absurd H (by simp)
    ·rw [if_neg c5] at H;have c5b0:=df__ c5;clear c5;have H':=Sd.m H;clear H;go_wp2;go_meet
     case rel=>exact ⟨_,(false),ri_,H',⟨by first | omega | exact Nat.le_refl _⟩,⟨rb_⟩⟩
 case rest=>
  clear HC2;obtain ⟨kq,x3_1,rfl,HA,HJ1,HB⟩:=hcut;cases kq with
  | zero=>exact absurd HA.out (by simp [bo_.j0])
  | succ kj1=>
   have H:=HA.out;clear HA;simp only [bo_.j0] at H;by_cases c6:x3_1=true
   ·rw [if_pos c6] at H;exact absurd H (by simp)
   ·replace c6:=Bool.eq_false_iff.mpr c6;subst c6;have H1:(if a0<128 then (some (([(a0) % 256]:List Int))) else (if a0<2048 then ((dw_.f a0).bind fun t107=>(some (([(wrap64 (192+(wrap64 (Int.tdiv a0 64)))) % 256,t107]:List Int)))) else (none)))=some r:=by rw [if_neg (show ¬ (false=true) by decide)] at H;exact H
    clear H;have H:=H1;clear H1;by_cases c7:a0<128
    ·rw [if_pos c7] at H;have c7b0:=dt__ c7;clear c7;obtain ⟨y104,hy104⟩: ∃ y_:List Int,y_=(([(a0) % 256]:List Int)):=⟨_,rfl⟩;replace H:(some y104)=some r:=by first | (rw [hy104];with_reducible exact H) | (have H2_:=(Option.bind_some _ _).symm.trans H;rw [hy104];with_reducible exact H2_) | (have H2_:=(Option.bind_some _ _).symm.trans H;with_reducible exact H2_) | with_reducible exact H | (rw [hy104];exact H) | exact H
     have Ny104:=Sd.m hy104;clear hy104;obtain rfl:=Option.some.inj H;go_wp2_with (first | ((with_reducible refine co_ (N:=23) rfl ?_);refine Kd.R_lit (Kd.int .u8) _ 5 ?hg (N:=23) ?hd (xs:=([(a0) % 256]:List Int)) (inner:=[.int .u8 ((a0) % 256)]) (ok:=fun _=>True) (okp:=fun _=>True) ?hr ?hp (fun _ hk=>hk) trivial (Below.refl _ _) (Nat.le_refl _) (by simp) ?_;(case hd=>rfl);(case hg=>rfl);(case hr=>first | (go_simp;done) | (go_simp;rfl));(case hp=>exact (Reps.one (show Kd.M (Kd.int .u8) _ _ _ ((a0) % 256) [.int .u8 ((a0) % 256)] from rfl) (Reps.none _ _)));intro v105 w8 ho9 hb hg_ hnew_;clear hg_ hnew_;(first | rw [←Ny104.out] at ho9 | (simp only [Int.reduceToNat] at ho9;rw [←Ny104.out] at ho9));have n0_:=Sd.m (Kd.R_lower ho9 (ap_ rb_));have n1_:=Sd.m (av_ rb_ hb);clear HB;have HO106:=n0_;have HB:=n1_;clear n0_ n1_;clear hb ho9));go_ret;exact ⟨_,re_,rr_ HO106.out,rb_⟩
    ·rw [if_neg c7] at H;have c7b0:=df__ c7;clear c7;by_cases c10:a0<2048
     ·rw [if_pos c10] at H;have c10b0:=dt__ c10;clear c10;replace H:=Option.bind_eq_some_iff.mp H;obtain ⟨t107,A110,H⟩:=H;replace H:(some (([(wrap64 (192+(wrap64 (Int.tdiv a0 64)))) % 256,t107]:List Int)))=some r:=H;have A11:=Sd.m A110;clear A110;obtain ⟨y108,hy108⟩: ∃ y_:List Int,y_=(([(wrap64 (192+(wrap64 (Int.tdiv a0 64)))) % 256,t107]:List Int)):=⟨_,rfl⟩;replace H:(some y108)=some r:=by first | (rw [hy108];with_reducible exact H) | (have H2_:=(Option.bind_some _ _).symm.trans H;rw [hy108];with_reducible exact H2_) | (have H2_:=(Option.bind_some _ _).symm.trans H;with_reducible exact H2_) | with_reducible exact H | (rw [hy108];exact H) | exact H
      have Ny108:=Sd.m hy108;clear hy108;obtain rfl:=Option.some.inj H;go_wp2_with (first | ((with_reducible refine bv_ (f:=197) rfl ?_);refine goesL_ (some 32) rfl rfl Tryz.func197 (by kernel_rfl) rfl #[.int .i64 a0] rfl gl_ ?_;(with_reducible refine (dw_.calls a0 t107 _ A11.out).mono ?_);rintro e w' ⟨rfl,⟨nd,rfl⟩⟩;refine ⟨_,rfl,?_⟩) | ((with_reducible refine co_ (N:=33) rfl ?_);refine Kd.R_lit (Kd.int .u8) _ 5 ?hg (N:=33) ?hd (xs:=([(wrap64 (192+(wrap64 (Int.tdiv a0 64)))) % 256,t107]:List Int)) (inner:=[.int .u8 ((wrap64 (192+(wrap64 (Int.tdiv a0 64)))) % 256),.int .u8 t107]) (ok:=fun _=>True) (okp:=fun _=>True) ?hr ?hp (fun _ hk=>hk) trivial (Below.refl _ _) (Nat.le_refl _) (by simp) ?_;(case hd=>rfl);(case hg=>rfl);(case hr=>first | (go_simp;done) | (go_simp;rfl));(case hp=>exact (Reps.one (show Kd.M (Kd.int .u8) _ _ _ ((wrap64 (192+(wrap64 (Int.tdiv a0 64)))) % 256) [.int .u8 ((wrap64 (192+(wrap64 (Int.tdiv a0 64)))) % 256)] from rfl) (Reps.one (show Kd.M (Kd.int .u8) _ _ _ t107 [.int .u8 t107] from rfl) (Reps.none _ _))));intro v109 w12 ho13 hb hg_ hnew_;clear hg_ hnew_;(first | rw [←Ny108.out] at ho13 | (simp only [Int.reduceToNat] at ho13;rw [←Ny108.out] at ho13));have n0_:=Sd.m (Kd.R_lower ho13 (ap_ rb_));have n1_:=Sd.m (av_ rb_ hb);clear HB;have HO110:=n0_;have HB:=n1_;clear n0_ n1_;clear hb ho13));go_ret;exact ⟨_,re_,rr_ HO110.out,rb_⟩
     ·rw [if_neg c10] at H;exact absurd H (by simp)
mutual
def ar_.l0:Nat->List Int->List Int->Int->Option (Int × Int)
 | 0,_,_,_=>none
 | k+1,x0,x4,x5=>if x5<=4 then (ar_.j1 k x0 x4 x5 (decide (x5<=(x0.length:Int)))) else (none)
def ar_.j1:Nat->List Int->List Int->Int->Bool->Option (Int × Int)
 | 0,_,_,_,_=>none
 | k+1,x0,x4,x5,x17=>if x17=true then (if 0<(x0.length:Int) then (if 0<=(wrap64 (x5 - 1)) then (if (wrap64 (x5 - 1))<(x4.length:Int) then (ar_.l1 k x0 x4 x5 (wrap64 ((wrap64 (rd x0 0)) - (rd x4 (wrap64 (x5 - 1))))) 1) else (none)) else (none)) else (none)) else (none)
def ar_.l1:Nat->List Int->List Int->Int->Int->Int->Option (Int × Int)
 | 0,_,_,_,_,_=>none
 | k+1,x0,x4,x5,x6,x7=>if x7<x5 then (if 0<=x7 then (if x7<(x0.length:Int) then (ar_.l1 k x0 x4 x5 (wrap64 ((wrap64 ((wrap64 (x6*64))+(wrap64 (rd x0 x7)))) - 128)) (wrap64 (x7+1))) else (none)) else (none)) else ((bo_.f k x6).bind fun t128=>(if (t128.length:Int)=x5 then (if 0<=x5 then (if x5<=(x0.length:Int) then (if (strOfNums t128).toList=(strOfNums (x0.take (x5:Int).toNat)).toList then (some (x6,x5)) else (ar_.l0 k x0 x4 (wrap64 (x5+1)))) else (none)) else (none)) else (ar_.l0 k x0 x4 (wrap64 (x5+1)))))
end
def ar_.f (k:Nat)(l0:List Int):Option (Int × Int):=ar_.l0 k l0 (([0,192,224,240]:List Int)) 1
theorem ar_.calls (k:Nat)(A0:Option Addr)(c0:Nat)(l0:List Int)(r1:Int)(r2:Int)(w:World)(hr0:Kd.C (Kd.int .u8) w A0 l0.length l0)(hc0:l0.length<=c0)(h:ar_.f k l0=some (r1,r2)):
  Calls Tryz.prog 156 #[.slice A0 l0.length c0] w fun e w'=>e=.returned (.tuple #[.int .i64 r1,.int .i64 r2])∧Below w.heap.size w w':=by
 have HR0:=Sd.m hr0;have HC0:=Sd.m hc0;clear hr0 hc0;have HB:=Sd.m (Below.refl w.heap.size w);have H:(ar_.l0 k l0 (([0,192,224,240]:List Int)) 1)=some (r1,r2):=h;clear h;obtain ⟨y119,hy119⟩: ∃ y_:List Int,y_=(([0,192,224,240]:List Int)):=⟨_,rfl⟩;replace H:(ar_.l0 k l0 y119 1)=some (r1,r2):=by first | (rw [hy119];with_reducible exact H) | (have H2_:=(Option.bind_some _ _).symm.trans H;rw [hy119];with_reducible exact H2_) | (have H2_:=(Option.bind_some _ _).symm.trans H;with_reducible exact H2_) | with_reducible exact H | (rw [hy119];exact H) | exact H
 have Ny119:=Sd.m hy119;clear hy119;have H':=Sd.m H;clear H;go_enter Tryz.func156,Tryz.ntmps156;go_wp2_with (first | ((with_reducible refine co_ (N:=9) rfl ?_);(try (refine iq_ (by rfl) ?_;dsimp only));refine Kd.R_lit (Kd.int .i64) _ 3 ?hg (N:=9) ?hd (xs:=([0,192,224,240]:List Int)) (inner:=[.int .i64 0,.int .i64 192,.int .i64 224,.int .i64 240]) (ok:=fun _=>True) (okp:=fun _=>True) ?hr ?hp (fun _ hk=>hk) trivial (Below.refl _ _) (Nat.le_refl _) (by simp) ?_;(case hd=>rfl);(case hg=>rfl);(case hr=>first | (go_simp;done) | (go_simp;rfl));(case hp=>exact (Reps.one (show Kd.M (Kd.int .i64) _ _ _ 0 [.int .i64 0] from rfl) (Reps.one (show Kd.M (Kd.int .i64) _ _ _ 192 [.int .i64 192] from rfl) (Reps.one (show Kd.M (Kd.int .i64) _ _ _ 224 [.int .i64 224] from rfl) (Reps.one (show Kd.M (Kd.int .i64) _ _ _ 240 [.int .i64 240] from rfl) (Reps.none _ _))))));intro v120 w2 ho3 hb hg_ hnew_;clear hg_ hnew_;(first | rw [←Ny119.out] at ho3 | (simp only [Int.reduceToNat] at ho3;rw [←Ny119.out] at ho3));have n0_:=Sd.m (Kd.R_lower ho3 (ap_ rb_));have n1_:=Sd.m (av_ rb_ hb);clear HB;have HO121:=n0_;have HB:=n1_;clear n0_ n1_;clear hb ho3))
 repeat (go_quiet (first | ((with_reducible refine co_ (N:=9) rfl ?_);(try (refine iq_ (by rfl) ?_;dsimp only));refine Kd.R_lit (Kd.int .i64) _ 3 ?hg (N:=9) ?hd (xs:=([0,192,224,240]:List Int)) (inner:=[.int .i64 0,.int .i64 192,.int .i64 224,.int .i64 240]) (ok:=fun _=>True) (okp:=fun _=>True) ?hr ?hp (fun _ hk=>hk) trivial (Below.refl _ _) (Nat.le_refl _) (by simp) ?_;(case hd=>rfl);(case hg=>rfl);(case hr=>first | (go_simp;done) | (go_simp;rfl));(case hp=>exact (Reps.one (show Kd.M (Kd.int .i64) _ _ _ 0 [.int .i64 0] from rfl) (Reps.one (show Kd.M (Kd.int .i64) _ _ _ 192 [.int .i64 192] from rfl) (Reps.one (show Kd.M (Kd.int .i64) _ _ _ 224 [.int .i64 224] from rfl) (Reps.one (show Kd.M (Kd.int .i64) _ _ _ 240 [.int .i64 240] from rfl) (Reps.none _ _))))));intro v120 w2 ho3 hb hg_ hnew_;clear hg_ hnew_;(first | rw [←Ny119.out] at ho3 | (simp only [Int.reduceToNat] at ho3;rw [←Ny119.out] at ho3));have n0_:=Sd.m (Kd.R_lower ho3 (ap_ rb_));have n1_:=Sd.m (av_ rb_ hb);clear HB;have HO121:=n0_;have HB:=n1_;clear n0_ n1_;clear hb ho3));try go_wp2_with (first | ((with_reducible refine co_ (N:=9) rfl ?_);(try (refine iq_ (by rfl) ?_;dsimp only));refine Kd.R_lit (Kd.int .i64) _ 3 ?hg (N:=9) ?hd (xs:=([0,192,224,240]:List Int)) (inner:=[.int .i64 0,.int .i64 192,.int .i64 224,.int .i64 240]) (ok:=fun _=>True) (okp:=fun _=>True) ?hr ?hp (fun _ hk=>hk) trivial (Below.refl _ _) (Nat.le_refl _) (by simp) ?_;(case hd=>rfl);(case hg=>rfl);(case hr=>first | (go_simp;done) | (go_simp;rfl));(case hp=>exact (Reps.one (show Kd.M (Kd.int .i64) _ _ _ 0 [.int .i64 0] from rfl) (Reps.one (show Kd.M (Kd.int .i64) _ _ _ 192 [.int .i64 192] from rfl) (Reps.one (show Kd.M (Kd.int .i64) _ _ _ 224 [.int .i64 224] from rfl) (Reps.one (show Kd.M (Kd.int .i64) _ _ _ 240 [.int .i64 240] from rfl) (Reps.none _ _))))));intro v120 w2 ho3 hb hg_ hnew_;clear hg_ hnew_;(first | rw [←Ny119.out] at ho3 | (simp only [Int.reduceToNat] at ho3;rw [←Ny119.out] at ho3));have n0_:=Sd.m (Kd.R_lower ho3 (ap_ rb_));have n1_:=Sd.m (av_ rb_ hb);clear HB;have HO121:=n0_;have HB:=n1_;clear n0_ n1_;clear hb ho3)))
 go_loopg [5] k (fun kq v5 w'=> ∃ (x5_1:Int),v5=.int .i64 x5_1∧Sd (ar_.l0 kq l0 y119 x5_1=some (r1,r2))∧Sd (kq<=k)∧Sd (Kd.R (Kd.int .i64) 3 w' w.heap.size (fun _=>True) v120 y119)∧Sd (Below w.heap.size w w'))
 case atStart=>exact ⟨(1),ri_,H',⟨Nat.le_refl _⟩,⟨rr_ HO121.out⟩,⟨rb_⟩⟩
 case round=>
  clear H';obtain ⟨x5_1,rfl,HA,HK1,HO_4,HB⟩:=hrel;cases gk with
  | zero=>exact absurd HA.out (by simp [ar_.l0])
  | succ k1=>
   have H:=HA.out;clear HA;simp only [ar_.l0] at H;have HC4:=Sd.m H;clear H;go_upto_region 3 with (fail)
   repeat (go_quiet (fail);go_upto_region 3 with (fail))
   go_cut [17] (fun v17 wc=> ∃ (kq:Nat) (x17_3:Bool),v17=.bool x17_3∧Sd (ar_.j1 kq l0 y119 x5_1 x17_3=some (r1,r2))∧Sd (kq<=k1)∧Sd (Kd.R (Kd.int .i64) 3 wc w.heap.size (fun _=>True) v120 y119)∧Sd (Below w.heap.size w wc))
   case first=>
    have H:=HC4.out;clear HC4;by_cases c5:x5_1<=4
    ·rw [if_pos c5] at H;have c5b0:=dt__ c5;clear c5
     (first | rw [c5b0] | (simp only [cz_,db_];rw [c5b0]) | skip)
     have H':=Sd.m H;clear H;go_wp2
     repeat (go_quiet (fail);try go_wp2)
     go_meet
     case rel=>exact ⟨_,(decide (x5_1<=(l0.length:Int))),ri_,H',⟨by have:=HK1.out;first | omega | exact Nat.le_refl _⟩,⟨rr_ HO_4.out⟩,⟨rb_⟩⟩
    ·rw [if_neg c5] at H;exact absurd H (by simp)
   case rest=>
    clear HC4;obtain ⟨kq,x17_3,rfl,HA,HJ3,HO_4,HB⟩:=hcut;cases kq with
    | zero=>exact absurd HA.out (by simp [ar_.j1])
    | succ kj3=>
     have H:=HA.out;clear HA;simp only [ar_.j1] at H;by_cases c6:x17_3=true
     ·subst c6;have H1:(if 0<(l0.length:Int) then (if 0<=(wrap64 (x5_1 - 1)) then (if (wrap64 (x5_1 - 1))<(y119.length:Int) then (ar_.l1 kj3 l0 y119 x5_1 (wrap64 ((wrap64 (rd l0 0)) - (rd y119 (wrap64 (x5_1 - 1))))) 1) else (none)) else (none)) else (none))=some (r1,r2):=by rw [if_pos rfl] at H;exact H
      clear H;have H:=H1;clear H1;by_cases c7:0<(l0.length:Int)
      ·rw [if_pos c7] at H;have c7b0:=dt__ c7;have c7b1:decide (0<l0.length)=true:=dt__ (by omega);clear c7;obtain ⟨ji8,hji8⟩: ∃ j_:Int,(wrap64 (x5_1 - 1))=j_:=⟨_,rfl⟩;replace H:(if 0<=(ji8) then (if (ji8)<(y119.length:Int) then (ar_.l1 kj3 l0 y119 x5_1 (wrap64 ((wrap64 (rd l0 0)) - (rd y119 (ji8)))) 1) else (none)) else (none))=some (r1,r2):=by first | (rw [hji8] at H;exact H) | (simp only [hji8] at H ⊢;exact H)
       have hji8w:(IntKind.i64.wrap (x5_1 - 1))=ji8:=(cz_ _).trans hji8;by_cases c9:0<=(ji8)
       ·rw [if_pos c9] at H;have c9b0:=dt__ c9;clear c9;by_cases c10:(ji8)<(y119.length:Int)
        ·rw [if_pos c10] at H;have c10b0:=dt__ c10;clear c10;have H':=Sd.m H;clear H;have p122:0<=(0:Int):=(by omega);have q122:0<(l0.length:Int):=od_;obtain ⟨ad122,e122,hx122_0⟩:=Kd.ds_ HR0.out 0 p122 q122;cases e122;have qi122:(0<l0.length)=True:=eq_true (by omega)
         (try rw [show ((0:Int)).toNat=0 from rfl] at hx122_0)
         (try rw [Addr.add_zero'] at hx122_0)
         replace hx122_0:=(HB.out.cell (bl__ w _ hx122_0)).trans hx122_0;replace p122:=eq_true p122;replace q122:=eq_true q122;obtain ⟨Ao11,co11,eo11⟩:=Kd.R_slice HO_4.out;subst eo11;have p123:0<=((ji8):Int):=od_;have q123:(ji8)<(y119.length:Int):=od_;obtain ⟨ad123,e123,hx123_0⟩:=Kd.ds_ (Kd.R_reads' HO_4.out).2.2 (ji8) p123 q123;cases e123;replace p123:=eq_true p123;replace q123:=eq_true q123;go_wp2
         repeat (go_quiet (fail);try go_wp2)
         go_loopg [6,7] kj3 (fun kq v6 v7 w'=> ∃ (x6_3:Int) (x7_3:Int),v6=.int .i64 x6_3∧v7=.int .i64 x7_3∧Sd (ar_.l1 kq l0 y119 x5_1 x6_3 x7_3=some (r1,r2))∧Sd (kq<=kj3)∧Sd (Kd.R (Kd.int .i64) 3 w' w.heap.size (fun _=>True) (.slice (some ad123) y119.length co11) y119)∧Sd (Below w.heap.size w w'))
         case atStart=>exact ⟨(wrap64 ((wrap64 (rd l0 0)) - (rd y119 (ji8)))),(1),(by first | rfl | (simp;done) | (simp only [←hji8] <;> (first | rfl | simp)) | (simp [*];done)),ri_,H',⟨Nat.le_refl _⟩,⟨rr_ HO_4.out⟩,⟨rb_⟩⟩
         case round=>
          clear H';obtain ⟨x6_3,x7_3,rfl,rfl,HA,HK3,HO_4,HB⟩:=hrel;cases gk with
          | zero=>exact absurd HA.out (by simp [ar_.l1])
          | succ k3=>
           have H:=HA.out;clear HA;simp only [ar_.l1] at H;by_cases c12:x7_3<x5_1
           ·rw [if_pos c12] at H;have c12b0:=dt__ c12;clear c12;by_cases c13:0<=x7_3
            ·rw [if_pos c13] at H;have c13b0:=dt__ c13;clear c13;by_cases c14:x7_3<(l0.length:Int)
             ·rw [if_pos c14] at H;have c14b0:=dt__ c14;clear c14;have H':=Sd.m H;clear H;have p124:0<=(x7_3:Int):=od_;have q124:x7_3<(l0.length:Int):=od_;obtain ⟨ad124,e124,hx124_0⟩:=Kd.ds_ HR0.out x7_3 p124 q124;obtain rfl:ad122=ad124:=(by injection e124);replace hx124_0:=(HB.out.cell (bl__ w _ hx124_0)).trans hx124_0;replace p124:=eq_true p124;replace q124:=eq_true q124;go_wp2
              repeat (go_quiet (fail);try go_wp2)
              go_roundg k3
              case measure=>have:=HK1.out;have:=HJ3.out;have:=HK3.out;omega
              case rel=>exact ⟨(wrap64 ((wrap64 ((wrap64 (x6_3*64))+(wrap64 (rd l0 x7_3)))) - 128)),(wrap64 (x7_3+1)),ri_,ri_,H',⟨by have:=HK1.out;have:=HJ3.out;have:=HK3.out;omega⟩,⟨rr_ HO_4.out⟩,⟨rb_⟩⟩
             ·rw [if_neg c14] at H;exact absurd H (by simp)
            ·rw [if_neg c13] at H;exact absurd H (by simp)
           ·rw [if_neg c12] at H;have c12b0:=df__ c12;clear c12;replace H:=Option.bind_eq_some_iff.mp H;obtain ⟨t125,A150,H⟩:=H;replace H:(if (t125.length:Int)=x5_1 then (if 0<=x5_1 then (if x5_1<=(l0.length:Int) then (if (strOfNums t125).toList=(strOfNums (l0.take (x5_1:Int).toNat)).toList then (some (x6_3,x5_1)) else (ar_.l0 k3 l0 y119 (wrap64 (x5_1+1)))) else (none)) else (none)) else (ar_.l0 k3 l0 y119 (wrap64 (x5_1+1))))=some (r1,r2):=H;have A15:=Sd.m A150;clear A150;by_cases c16:(t125.length:Int)=x5_1
            ·rw [if_pos c16] at H;have c16b0:((t125.length:Int) == x5_1)=true:=beq_iff_eq.mpr c16;have c16b1:((t125.length:Int) != x5_1)=false:=bne_eq_false_iff_eq.mpr c16;clear c16;by_cases c17:0<=x5_1
             ·rw [if_pos c17] at H;have c17b0:=eq_true c17;have c17b1:=dt__ c17;clear c17;by_cases c18:x5_1<=(l0.length:Int)
              ·rw [if_pos c18] at H;have c18b0:=eq_true c18;have c18b1:=dt__ c18;clear c18;by_cases c19:(strOfNums t125).toList=(strOfNums (l0.take (x5_1:Int).toNat)).toList
               ·rw [if_pos c19] at H;have c19b0:((strOfNums t125).toList == (strOfNums (l0.take (x5_1:Int).toNat)).toList)=true:=beq_iff_eq.mpr c19;have c19b1:((strOfNums t125).toList != (strOfNums (l0.take (x5_1:Int).toNat)).toList)=false:=bne_eq_false_iff_eq.mpr c19;clear c19;simp only [Option.some.injEq,Prod.mk.injEq] at H;obtain ⟨rfl,rfl⟩:=H;go_wp2_with (first | (go_at_call 177;(with_reducible refine (bo_.calls k3 x6_3 t125 _ A15.out).mono ?_);rintro e w20 ⟨v126,rfl,ho0,hb⟩;have n0_:=Sd.m (Kd.R_below (rr_ HO_4.out) hb);have n1_:=Sd.m (Kd.R_lower ho0 (ap_ rb_));have n2_:=Sd.m (av_ rb_ hb);clear HO_4;clear HB;have HO_4:=n0_;have HO127:=n1_;have HB:=n2_;clear n0_ n1_ n2_;(try clear hb);(try clear hb2);(try clear hk);(try clear hi);(try clear ho0);obtain ⟨Ao21,co21,eo21⟩:=Kd.R_slice HO127.out;subst eo21;have hcv22:=fun nq_:Nat=>il_ (P:=Tryz.prog) (w:=w20.drewN nq_) Tryz.underlying65 Tryz.underlying5 Tryz.underlying9 (Kd.lw_ (Kd.R_below HO127.out (ad_ (Below.refl _ w20) nq_)));obtain ⟨i023,hi023,_,hsz23,_⟩:=info_parts info5;obtain ⟨hcut23,hA23,hC23⟩:=fz_ (P:=Tryz.prog) (Value.int .u8) 0 65 5 .i64 Tryz.underlying65 hi023 hsz23 (some ad122) c0 l0 x5_1 (od_) (od_) HC0.out;have HR128:=Sd.m (Kd.C_of_reads (h1:=fun _=>rfl) (hA23 _ (Kd.dx_ HR0.out)));have HC128:=Sd.m hC23;clear hA23 hC23 hi023 hsz23;have hcv24:=fun nq_:Nat=>Kd.C_string (P:=Tryz.prog) (w:=w20.drewN nq_) (A:=(some ad122)) (c:=c0) Tryz.underlying65 Tryz.underlying5 Tryz.underlying9 (Kd.C_below (Kd.C_below HR128.out HB.out) (ad_ (Below.refl _ w20) nq_));have hl_:(l0.take (x5_1:Int).toNat).length=x5_1.toNat:=(by rw [List.length_take];have:=of_decide_eq_true c18b1;omega);simp only [hl_] at hcv24;clear hl_));go_quiet (fail);go_wp2_with fail;go_ret2;exact ⟨by first | rfl | (simp [errW_none,errW_some] <;> rfl) | (simp only [←hji8];first | rfl | (simp [errW_none,errW_some] <;> rfl)) | (simp [*,errW_none,errW_some] <;> rfl),rb_⟩
               ·rw [if_neg c19] at H;have c19b0:((strOfNums t125).toList == (strOfNums (l0.take (x5_1:Int).toNat)).toList)=false:=beq_eq_false_iff_ne.mpr c19;have c19b1:((strOfNums t125).toList != (strOfNums (l0.take (x5_1:Int).toNat)).toList)=true:=bne_iff_ne.mpr c19;have H':=Sd.m H;clear H;go_wp2_with (first | (go_at_call 177;(with_reducible refine (bo_.calls k3 x6_3 t125 _ A15.out).mono ?_);rintro e w25 ⟨v126,rfl,ho0,hb⟩;have n0_:=Sd.m (Kd.R_below (rr_ HO_4.out) hb);have n1_:=Sd.m (Kd.R_lower ho0 (ap_ rb_));have n2_:=Sd.m (av_ rb_ hb);clear HO_4;clear HB;have HO_4:=n0_;have HO127:=n1_;have HB:=n2_;clear n0_ n1_ n2_;(try clear hb);(try clear hb2);(try clear hk);(try clear hi);(try clear ho0);obtain ⟨Ao26,co26,eo26⟩:=Kd.R_slice HO127.out;subst eo26;have hcv27:=fun nq_:Nat=>il_ (P:=Tryz.prog) (w:=w25.drewN nq_) Tryz.underlying65 Tryz.underlying5 Tryz.underlying9 (Kd.lw_ (Kd.R_below HO127.out (ad_ (Below.refl _ w25) nq_)));obtain ⟨i028,hi028,_,hsz28,_⟩:=info_parts info5;obtain ⟨hcut28,hA28,hC28⟩:=fz_ (P:=Tryz.prog) (Value.int .u8) 0 65 5 .i64 Tryz.underlying65 hi028 hsz28 (some ad122) c0 l0 x5_1 (od_) (od_) HC0.out;have HR128:=Sd.m (Kd.C_of_reads (h1:=fun _=>rfl) (hA28 _ (Kd.dx_ HR0.out)));have HC128:=Sd.m hC28;clear hA28 hC28 hi028 hsz28;have hcv29:=fun nq_:Nat=>Kd.C_string (P:=Tryz.prog) (w:=w25.drewN nq_) (A:=(some ad122)) (c:=c0) Tryz.underlying65 Tryz.underlying5 Tryz.underlying9 (Kd.C_below (Kd.C_below HR128.out HB.out) (ad_ (Below.refl _ w25) nq_));have hl_:(l0.take (x5_1:Int).toNat).length=x5_1.toNat:=(by rw [List.length_take];have:=of_decide_eq_true c18b1;omega);simp only [hl_] at hcv29;clear hl_));go_quiet (fail);go_wp2_with fail
                go_roundg k3
                case measure=>have:=HK1.out;have:=HJ3.out;have:=HK3.out;omega
                case rel=>exact ⟨(wrap64 (x5_1+1)),ri_,H',⟨by have:=HK1.out;have:=HJ3.out;have:=HK3.out;omega⟩,⟨rr_ HO_4.out⟩,⟨rb_⟩⟩
              ·rw [if_neg c18] at H;exact absurd H (by simp)
             ·rw [if_neg c17] at H;exact absurd H (by simp)
            ·rw [if_neg c16] at H;have c16b0:((t125.length:Int) == x5_1)=false:=beq_eq_false_iff_ne.mpr c16;have c16b1:((t125.length:Int) != x5_1)=true:=bne_iff_ne.mpr c16;have H':=Sd.m H;clear H;go_wp2_with (first | (go_at_call 177;(with_reducible refine (bo_.calls k3 x6_3 t125 _ A15.out).mono ?_);rintro e w30 ⟨v126,rfl,ho0,hb⟩;have n0_:=Sd.m (Kd.R_below (rr_ HO_4.out) hb);have n1_:=Sd.m (Kd.R_lower ho0 (ap_ rb_));have n2_:=Sd.m (av_ rb_ hb);clear HO_4;clear HB;have HO_4:=n0_;have HO127:=n1_;have HB:=n2_;clear n0_ n1_ n2_;(try clear hb);(try clear hb2);(try clear hk);(try clear hi);(try clear ho0);obtain ⟨Ao31,co31,eo31⟩:=Kd.R_slice HO127.out;subst eo31))
             repeat (go_quiet (first | (go_at_call 177;(with_reducible refine (bo_.calls k3 x6_3 t125 _ A15.out).mono ?_);rintro e w30 ⟨v126,rfl,ho0,hb⟩;have n0_:=Sd.m (Kd.R_below (rr_ HO_4.out) hb);have n1_:=Sd.m (Kd.R_lower ho0 (ap_ rb_));have n2_:=Sd.m (av_ rb_ hb);clear HO_4;clear HB;have HO_4:=n0_;have HO127:=n1_;have HB:=n2_;clear n0_ n1_ n2_;(try clear hb);(try clear hb2);(try clear hk);(try clear hi);(try clear ho0);obtain ⟨Ao31,co31,eo31⟩:=Kd.R_slice HO127.out;subst eo31));try go_wp2_with (first | (go_at_call 177;(with_reducible refine (bo_.calls k3 x6_3 t125 _ A15.out).mono ?_);rintro e w30 ⟨v126,rfl,ho0,hb⟩;have n0_:=Sd.m (Kd.R_below (rr_ HO_4.out) hb);have n1_:=Sd.m (Kd.R_lower ho0 (ap_ rb_));have n2_:=Sd.m (av_ rb_ hb);clear HO_4;clear HB;have HO_4:=n0_;have HO127:=n1_;have HB:=n2_;clear n0_ n1_ n2_;(try clear hb);(try clear hb2);(try clear hk);(try clear hi);(try clear ho0);obtain ⟨Ao31,co31,eo31⟩:=Kd.R_slice HO127.out;subst eo31)))
             go_roundg k3
             case measure=>have:=HK1.out;have:=HJ3.out;have:=HK3.out;omega
             case rel=>exact ⟨(wrap64 (x5_1+1)),ri_,H',⟨by have:=HK1.out;have:=HJ3.out;have:=HK3.out;omega⟩,⟨rr_ HO_4.out⟩,⟨rb_⟩⟩
        ·rw [if_neg c10] at H;exact absurd H (by simp)
       ·rw [if_neg c9] at H;exact absurd H (by simp)
      ·rw [if_neg c7] at H;exact absurd H (by simp)
     ·rw [if_neg c6] at H;exact absurd H (by simp)
end K
namespace LX
open Shelf YthfceiincmkccaaGreatW.PrintWords.Kd A K
def RdAt (w0 W:World)(g:Nat)(t:List S159)(en here:Int):Prop:=IsS117 w0 W g t en 0 0 here∧Below w0.heap.size w0 W
def Nd (W:World)(lo:Nat)(v:Value)(n:S85):Prop:= ∃ A c,v=.agg #[.int .i64 n.f0,.string n.f1,.int .i64 n.f2,.int .i64 n.f3,.slice A n.f4.length c]∧n.f4.length<=c∧Kd.F k85 W (fun k=>lo<=k) A n.f4.length n.f4
def kdF (t:List S159)(here:Int):Int:=if here<(t.length:Int) then (ac_ t here).f0 else 0
theorem bz_ {w0 W:World}{g:Nat}{t:List S159}{en here:Int}(h:RdAt w0 W g t en here)(h0:0<=here):
  Calls Tryz.prog 85 #[.pointer (some ⟨g,0,none⟩)] W fun e W1=>e=.returned (.int .i64 (kdF t here))∧RdAt w0 W1 g t en here∧KeepBut W W1 g none:=by
 refine (dc_.calls g t en 0 0 here (kdF t here) en 0 0 here w0 W h.1 h.2 ?_).mono ?_
 ·unfold dc_.f kdF;by_cases hl:here<(t.length:Int)
  ·rw [if_neg (show ¬ here ≥ (t.length:Int) by omega),if_pos h0,if_pos hl,if_pos hl]
  ·rw [if_pos (show here ≥ (t.length:Int) by omega),if_neg hl]
 ·rintro e W1 ⟨rfl,h1,h2,h3⟩;exact ⟨rfl,⟨h1,h2⟩,h3⟩
theorem RdAt.below {w0 W W1:World}{g:Nat}{t:List S159}{en here:Int}(h:RdAt w0 W g t en here)(hb:Below W.heap.size W W1):RdAt w0 W1 g t en here:=⟨h.1.below hb,h.2.trans (hb.mono h.2.size)⟩
theorem RdAt.cells {w0 W:World}{g:Nat}{t:List S159}{en here:Int}(h:RdAt w0 W g t en here): ∃ A c,W.heap[g]? =some (.cells #[.slice A t.length c,.int .i64 en,.int .i64 0,.int .i64 0,.int .i64 here] 117 (0,0))∧Kd.C k159 w0 A t.length t∧w0.heap.size<=g:=by
 obtain ⟨⟨A,c,h1,h2,h3⟩,_⟩:=h;exact ⟨A,c,h1,h3,h2⟩
theorem RdAt.lt {w0 W:World}{g:Nat}{t:List S159}{en here:Int}(h:RdAt w0 W g t en here):g<W.heap.size:=h.1.lt
theorem RdAt.set {w0 W:World}{g:Nat}{t:List S159}{en here:Int}(h:RdAt w0 W g t en here)(x:Int):RdAt w0 (W.setCell ⟨g,4,none⟩ (.int .i64 x)) g t en x:=⟨h.1.set_4 x,h.2.setCell (p:=⟨g,4,none⟩) h.1.ge _⟩
theorem RdAt.far {w0 W:World}{g:Nat}{t:List S159}{en here:Int}(h:RdAt w0 W g t en here){p:Addr}(hne:g≠p.block)(hp:w0.heap.size<=p.block)(u:Value):RdAt w0 (W.setCell p u) g t en here:=⟨h.1.far hne u,h.2.setCell hp _⟩
theorem ho_ {w0 W:World}{A:Option Addr}{t:List S159}(h:Kd.C k159 w0 A t.length t)(hB:Below w0.heap.size w0 W)(j:Int)(h0:0<=j)(h1:j<t.length): ∃ ad,A=some ad∧W.cell? (ad.add (j.toNat*5))=some (.int .i64 (ac_ t j).f0)∧W.cell? ⟨(ad.add (j.toNat*5)).block,(ad.add (j.toNat*5)).off+1,none⟩=some (.string (ac_ t j).f1)∧W.cell? ⟨(ad.add (j.toNat*5)).block,(ad.add (j.toNat*5)).off+2,none⟩=some (.int .i64 (ac_ t j).f2)∧W.cell? ⟨(ad.add (j.toNat*5)).block,(ad.add (j.toNat*5)).off+3,none⟩=some (.int .i64 (ac_ t j).f3)∧W.cell? ⟨(ad.add (j.toNat*5)).block,(ad.add (j.toNat*5)).off+4,none⟩=some (.int .i64 (ac_ t j).f4):=by
 obtain ⟨ad,e,a0,a1,a2,a3,a4⟩:=go_ h j h0 h1;have up: ∀ {q:Addr} {v:Value},w0.cell? q=some v->W.cell? q=some v:=fun {q} {v} hq=>(hB.cell (bl__ w0 _ hq)).trans hq;exact ⟨ad,e,up a0,up a1,up a2,up a3,up a4⟩
def put5 (W3:World)(n:Nat)(x0 x1 x2 x3 x4:Value):World:=((((W3.setCell ⟨n,0,none⟩ x0).setCell ⟨n,1,none⟩ x1).setCell ⟨n,2,none⟩ x2).setCell ⟨n,3,none⟩ x3).setCell ⟨n,4,none⟩ x4
theorem ej_ {W3:World}{n:Nat}{a b c d e:Value}{t:TypeId}(h:W3.heap[n]? =some (.cells #[a,b,c,d,e] t (0,0)))(x0 x1 x2 x3 x4:Value):(put5 W3 n x0 x1 x2 x3 x4).heap[n]? =some (.cells #[x0,x1,x2,x3,x4] t (0,0)):=
 cj_ (cj_ (cj_ (cj_ (cj_ h 0 x0 rfl) 1 x1 rfl) 2 x2 rfl) 3 x3 rfl) 4 x4 rfl
theorem fe_ {w0 W3:World}{g n:Nat}{t:List S159}{en here:Int}(h:RdAt w0 W3 g t en here)(hgn:g≠n)(hn:w0.heap.size<=n)(x0 x1 x2 x3 x4:Value):RdAt w0 (put5 W3 n x0 x1 x2 x3 x4) g t en here:=
 ((((h.far (p:=⟨n,0,none⟩) hgn hn x0).far (p:=⟨n,1,none⟩) hgn hn x1).far (p:=⟨n,2,none⟩) hgn hn x2).far (p:=⟨n,3,none⟩) hgn hn x3).far (p:=⟨n,4,none⟩) hgn hn x4
theorem dv_ {W W3:World}{g n:Nat}(h:KeepBut W W3 g none)(hn:W.heap.size<=n)(x0 x1 x2 x3 x4:Value):KeepBut W (put5 W3 n x0 x1 x2 x3 x4) g none:=
 ef_ (p:=⟨n,4,none⟩) (ef_ (p:=⟨n,3,none⟩) (ef_ (p:=⟨n,2,none⟩) (ef_ (p:=⟨n,1,none⟩) (ef_ (p:=⟨n,0,none⟩) h hn x0) hn x1) hn x2) hn x3) hn x4
theorem jq_ {α:Type}{d:Kd α}{W3:World}{n:Nat}{ok:Nat->Prop}{A:Option Addr}{m:Nat}{xs:List α}(h:Kd.F d W3 ok A m xs)(hok: ∀ k,ok k->k≠n)(x0 x1 x2 x3 x4:Value):Kd.F d (put5 W3 n x0 x1 x2 x3 x4) ok A m xs:=
 F_far (p:=⟨n,4,none⟩) (F_far (p:=⟨n,3,none⟩) (F_far (p:=⟨n,2,none⟩) (F_far (p:=⟨n,1,none⟩) (F_far (p:=⟨n,0,none⟩) h hok x0) hok x1) hok x2) hok x3) hok x4
end LX
namespace L
open A
def putF:List Int->Int->List Int
 | [],n=>[n]
 | x :: t,n=>if x<n then x :: putF t n else if x=n then x :: t else n :: x :: t
theorem putF_at: ∀ (l:List Int) (n:Int) (k:Nat),k<=l.length->(∀ i,i<k->l.getD i 0<n)->(k<l.length->¬ l.getD k 0<n)->putF l n=if k<l.length∧l.getD k 0=n then l else l.take k ++ [n] ++ l.drop k
 | [],n,k,hk,_,_=>by
  obtain rfl:k=0:=by simpa using hk
  simp [putF]
 | x :: t,n,0,hk,_,h2=>by
  have hx:¬ x<n:=by simpa using h2 (by simp)
  unfold putF;rw [if_neg hx];by_cases e:x=n
  ·rw [if_pos e,if_pos ⟨by simp,by simpa using e⟩]
  ·rw [if_neg e,if_neg (fun q=>e (by simpa using q.2))];simp
 | x :: t,n,k+1,hk,h1,h2=>by
  have hx:x<n:=by simpa using h1 0 (by omega)
  have ih:=putF_at t n k (by simpa using hk) (fun i hi=>by simpa using h1 (i+1) (by omega)) (fun hl=>by simpa using h2 (by simpa using hl));unfold putF;rw [if_pos hx,ih];by_cases e:k<t.length∧t.getD k 0=n
  ·rw [if_pos e,if_pos ⟨by simpa using e.1,by simpa using e.2⟩]
  ·rw [if_neg e,if_neg (fun q=>e ⟨by simpa using q.1,by simpa using q.2⟩)];simp
theorem putF_len (l:List Int)(n:Int):(putF l n).length<=l.length+1:=by
 induction l with
 | nil=>simp [putF]
 | cons x t ih=>
  unfold putF;split
  ·simp;omega
  ·split <;> simp
theorem R_empty (W:World)(B:Nat)(h:B<=W.heap.size):Kd.R (Kd.int .i64) 3 (W.alloc (.cells #[] 3)) B (fun _=>True) (.slice (some ⟨W.heap.size,0,none⟩) 0 0) []:=
 ⟨fun _ _=>trivial,[],⟨by simp,.inr ⟨W.heap.size,0,#[],rfl,h,aj_ _ _,Nat.le_refl _,Nat.zero_le _,by simp,by simp⟩⟩,Reps.none _ _⟩
theorem C_box {α:Type}{d:Kd α}{W:World}{g t:Nat}{inner:List Value}{xs:List α}(hb:W.heap[g]? =some (.cells inner.toArray t (0,0)))(hr:Reps (d.K W) d.sz xs inner)(hm:xs.length<=9223372036854775807):d.C W (some ⟨g,0,none⟩) xs.length xs:=by
 refine ⟨rfl,hm,fun _=>⟨_,rfl,fun j p hp=>⟨(inner.drop (j*d.sz)).take d.sz,d.K_len (hr.2 j p hp),hr.2 j p hp,fun i u hu=>?_⟩⟩⟩;rw [add_plain,af_ hb];rw [List.getElem?_take] at hu;split at hu
 ·rw [List.getElem?_drop] at hu;simpa using hu
 ·cases hu
theorem C_ints {W:World}{g t:Nat}{xs:List Int}(hb:W.heap[g]? =some (.cells (xs.map (Value.int .i64)).toArray t (0,0)))(hm:xs.length<=9223372036854775807):Kd.C (Kd.int .i64) W (some ⟨g,0,none⟩) xs.length xs:=
 C_box hb (Kd.hd_ xs) hm
theorem R_apart {e base g:Nat}{W:World}{v:Value}{xs:List Int}(h:Kd.R (Kd.int .i64) e W base (fun _=>True) v xs)(hg: ∀ k,v.ownBlock=some k->k≠g):Kd.R (Kd.int .i64) e W base (fun k=>k≠g) v xs:=by
 obtain ⟨_,inner,ho,hr⟩:=h;exact ⟨hg,inner,ho,hr.imp_ (fun _ _ hp=>hp)⟩
theorem info3:(Tryz.prog.info? 3).map (fun i=>(i.zero,i.size,i.bytes))=some (some (.int .i64 0),1,8):=by kernel_rfl
theorem put_new (A:Option Addr)(c:Nat)(l:List Int)(n:Int)(w:World)(hr:Kd.C (Kd.int .i64) w A l.length l)(hc:l.length<=c)(hz:l.length<=100000):
  Calls Tryz.prog 118 #[.slice A l.length c,.int .i64 n] w fun e w'=> ∃ v,e=.returned v∧Below w.heap.size w w'∧((v=.slice A l.length c∧putF l n=l)∨Kd.R (Kd.int .i64) 3 w' w.heap.size (fun _=>True) v (putF l n)):=by
 have HR:=Sd.m hr;clear hr;go_enter Tryz.func118,Tryz.ntmps118;go_wp2_with fail
 go_loop [5] (fun u=> ∃ j:Nat,j<=l.length∧u=.int .i64 j∧Sd (∀ i,i<j->l.getD i 0<n)) (fun u=>l.length - (intOf u).toNat)
 case atStart=>exact ⟨0,Nat.zero_le _,rfl,⟨fun i hi=>by omega⟩⟩
 case round=>
  obtain ⟨j,hj,rfl,HN⟩:=hrel;have fin:(j<l.length->¬ l.getD j 0<n)->putF l n=if j<l.length∧l.getD j 0=n then l else l.take j ++ [n] ++ l.drop j:=putF_at l n j hj HN.out;have HF:=Sd.m fin;clear fin;by_cases hlt:j<l.length
  ·have b1:decide ((j:Int)<(l.length:Int))=true:=dt__ (by omega);have b2:decide (j<l.length)=true:=dt__ hlt;have q0:0<=(j:Int):=by omega
   have q1:(j:Int)<(l.length:Int):=by omega
   have w2:IntKind.i64.wrap ((j:Int)+1)=(j:Int)+1:=IntWalk.i64_in _ (by omega);obtain ⟨ad,rfl,k0⟩:=Kd.ds_ HR.out (j:Int) (by omega) (by omega);have hrd:rd l (j:Int)=l.getD j 0:=by unfold rd;rw [Int.toNat_natCast]
   rw [hrd,Int.toNat_natCast] at k0;clear hrd;obtain ⟨x,hx⟩: ∃ x,x=l.getD j 0:=⟨_,rfl⟩;have HX:=Sd.m hx;rw [←hx] at k0;clear hx;by_cases hxn:x<n
   ·have b3:decide (x<n)=true:=dt__ hxn;clear hxn;go_wp2_with fail
    go_round
    case rel=>exact ⟨j+1,hlt,by go_num,⟨fun i hi=>by
     rcases Nat.lt_or_ge i j with h | h
     ·exact HN.out i h
     ·obtain rfl:i=j:=by omega
      rw [←HX.out];exact of_decide_eq_true b3⟩⟩
    case measure=>simp [intOf];omega
   ·have b3:decide (x<n)=false:=df__ hxn;by_cases hxe:x=n
    ·have b4:(x == n)=true:=beq_iff_eq.2 hxe;have hput:putF l n=l:=by rw [HF.out (fun _=>by rw [←HX.out];exact hxn),if_pos ⟨hlt,by rw [←HX.out];exact hxe⟩]
     have HP:=Sd.m hput;clear hxn hxe hput;go_wp2_with fail;go_ret;exact ⟨_,rfl,Below.refl _ _,.inl ⟨rfl,HP.out⟩⟩
    ·have b4:(x == n)=false:=beq_eq_false_iff_ne.2 hxe;have hput:putF l n=l.take j ++ [n] ++ l.drop j:=by rw [HF.out (fun _=>by rw [←HX.out];exact hxn),if_neg (fun q=>hxe (by rw [HX.out];exact q.2))]
     have HP:=Sd.m hput;clear hxn hxe hput HF;go_wp2_with fail;obtain ⟨i3,hi3,_,hsz3,_⟩:=info_parts info3;obtain ⟨kk,hkk⟩: ∃ kk,kk=j:=⟨_,rfl⟩;have hkl:kk<=l.length:=by omega
     obtain ⟨hcutT,hAT,_⟩:=gz_ (P:=Tryz.prog) (k:=.i64) 42 3 Tryz.underlying42 hi3 hsz3 (some ad) c l (kk:Int) (by omega) (by omega) hc;obtain ⟨A2,hcutD,hAD,_⟩:=ga_ (P:=Tryz.prog) (Value.int .i64) 0 42 3 .i64 Tryz.underlying42 hi3 hsz3 (some ad) c l (kk:Int) (by omega) (by omega) hc;rw [Int.toNat_natCast] at hcutT hAT hcutD hAD;have lt_:(l.take kk).length=kk:=List.length_take_of_le hkl;have hdC:=Kd.C_of_reads (h1:=fun _=>rfl) (hAD w (Kd.dx_ HR.out));obtain ⟨dl,hdl⟩: ∃ dl,dl=(l.drop kk).length:=⟨_,rfl⟩;have hdl2:dl<=l.length:=by rw [hdl,List.length_drop];omega
     rw [lt_] at hcutT;rw [←hdl] at hcutD hdC;have htC:=Kd.C_of_reads (h1:=fun _=>rfl) (hAT w (Kd.dx_ HR.out));rw [lt_] at htC;have HT:=Sd.m htC;have HD:=Sd.m hdC;have QQ:Sd (Below w.heap.size w w.drew):=⟨ca_ (Below.refl _ _)⟩;rw [←hkk] at HP ⊢;clear hkk hAT hAD lt_ hdC htC hi3 hsz3 hdl;refine start_ (n:=13) (S:=fun w'=>True) (ds:=[]) #[false,false,false,false,false,false,false,false,false,false,false,false,false] (by kernel_rfl) rfl rfl trivial (fun hHeld=>?_);generalize w.drew=Wd at QQ hHeld ⊢;refine pu_ 1 34 ?_;refine pu_ 2 35 ?_;refine pu_ 3 36 ?_;refine pu_ 5 38 ?_;refine pu_ 8 41 ?_;refine pu_ 9 42 ?_;refine pu_ 10 43 ?_;refine join_ (σ:=Nat × Value × Nat) 3 #[true,true,true,true,true,true,true,false,true,true,true,false,false] (fun s_=>[(33,.slice (some ⟨s_.1,0,none⟩) 0 0),(37,s_.2.1),(39,.slice (some ⟨s_.2.2,0,none⟩) 1 1)]) (fun s_ w'=>Below w.heap.size w w'∧Kd.R (Kd.int .i64) 3 w' w.heap.size (fun k=>k≠s_.2.2) s_.2.1 (l.take kk)∧w'.heap[s_.2.2]? =some (.cells #[.int .i64 n] 3 (0,0))∧w.heap.size<=s_.2.2) ?_ ?_;rotate_left
     ·intro hCont;refine two_ (i:=0) (j:=6) (Ni:=some 33) (Nj:=some 39) #[true,true,true,true,false,true,false,false,true,true,true,false,false] #[false,true,true,true,false,true,true,false,true,true,true,false,false] rfl rfl rfl rfl (by kernel_rfl) (by decide) (by decide) (fun K hK=>?_) (fun K hK=>?_)
      ·skip;refine value_ (w1:=?_) (v:=?_) (by rfl) rfl ?_ ?_;rotate_left 2
       ·go_simp;constructor
        ·rfl
        ·rfl
       have r_:=R_empty Wd w.heap.size QQ.out.size;have m_:=ab_ QQ.out (.cells #[] 3);obtain ⟨g0,hz_⟩: ∃ z_,z_=Wd.heap.size:=⟨_,rfl⟩;rw [←hz_] at r_ ⊢;generalize Wd.alloc (.cells #[] 3)=We1 at m_ r_ ⊢;clear hz_ QQ;have QQ:=Sd.m m_;have R0:=Sd.m r_;clear m_ r_;refine hK.out _ _ trivial (fun hHeld=>?_);clear hK K;refine no_ 33 ?_;refine two_ (i:=4) (j:=6) (Ni:=some 37) (Nj:=some 39) #[true,true,true,true,true,true,false,false,true,true,true,false,false] #[true,true,true,true,false,true,true,false,true,true,true,false,false] rfl rfl rfl rfl (by kernel_rfl) (by decide) (by decide) (fun K hK=>?_) (fun K hK=>?_)
       ·skip;refine Kd.R_append_rows_step (Kd.int .i64) (Rr:=(Kd.int .i64).K We1) (w0:=w) w.heap.size (by rfl) (.tmp 33) (.tmp 36) 42 3 (.int .i64 0) 8 rfl Tryz.underlying42 info3 rfl (by decide) (by omega) (.slice (some ⟨g0,0,none⟩) 0 0) [] (l.take kk) (some ad) kk c (fun _=>True) (fun _=>False) rfl rfl R0.out (Kd.C_below HT.out QQ.out) (fun x cs hx=>hx) (fun k hk=>hk.elim) (fun _ _=>trivial) QQ.out QQ.out.size (by simp only [List.length_nil];omega) ?_;intro v37 We2 r_ m_ hg_ hat_;rw [List.nil_append] at r_;clear QQ R0 hg_ hat_;have QQ:=Sd.m m_;have R0:=Sd.m r_;clear m_ r_;refine hK.out _ _ trivial (fun hHeld=>?_);clear hK K;refine no_ 37 ?_;refine on_ 6 39 (fun K hK=>?_);refine value_ (w1:=?_) (v:=?_) (by rfl) rfl ?_ ?_;rotate_left 2
        ·go_simp;constructor
         ·rfl
         ·rfl
        have m_:=ab_ QQ.out (.cells #[.int .i64 n] 3);have b_:=aj_ We2 (.cells #[.int .i64 n] 3);have lt_:=Kd.R_lt R0.out;have r_:=Kd.R_alloc R0.out (.cells #[.int .i64 n] 3);clear R0;have le_:=QQ.out.size;obtain ⟨g6,hz_⟩: ∃ z_,z_=We2.heap.size:=⟨_,rfl⟩;rw [←hz_] at b_ le_ lt_ ⊢;generalize We2.alloc (.cells #[.int .i64 n] 3)=We3 at m_ b_ r_ ⊢;clear hz_ QQ;have QQ:=Sd.m m_;have B6:=Sd.m b_;have L6:=Sd.m le_;have R0:=Sd.m (R_apart r_ (g:=g6) (by intro k hk;have:=lt_ k hk;omega));clear m_ b_ le_ r_ lt_;refine hK.out _ _ trivial (fun hHeld=>?_);clear hK K;refine no_ 39 ?_;exact norm_ (by simp only [putAll,Act.put,List.setIfInBounds_toArray,List.set_cons_zero,List.set_cons_succ]) (hCont (g0,v37,g6) _ ⟨QQ.out,R0.out,B6.out,L6.out⟩)
       ·skip;refine value_ (w1:=?_) (v:=?_) (by rfl) rfl ?_ ?_;rotate_left 2
        ·go_simp;constructor
         ·rfl
         ·rfl
        have m_:=ab_ QQ.out (.cells #[.int .i64 n] 3);have b_:=aj_ We1 (.cells #[.int .i64 n] 3);have lt_:=Kd.R_lt R0.out;have r_:=Kd.R_alloc R0.out (.cells #[.int .i64 n] 3);clear R0;have le_:=QQ.out.size;obtain ⟨g6,hz_⟩: ∃ z_,z_=We1.heap.size:=⟨_,rfl⟩;rw [←hz_] at b_ le_ lt_ ⊢;generalize We1.alloc (.cells #[.int .i64 n] 3)=We2 at m_ b_ r_ ⊢;clear hz_ QQ;have QQ:=Sd.m m_;have B6:=Sd.m b_;have L6:=Sd.m le_;have R0:=Sd.m (R_apart r_ (g:=g6) (by intro k hk;have:=lt_ k hk;omega));clear m_ b_ le_ r_ lt_;refine hK.out _ _ trivial (fun hHeld=>?_);clear hK K;refine no_ 39 ?_;refine on_ 4 37 (fun K hK=>?_);refine Kd.R_append_rows_step (Kd.int .i64) (Rr:=(Kd.int .i64).K We2) (w0:=w) w.heap.size (by rfl) (.tmp 33) (.tmp 36) 42 3 (.int .i64 0) 8 rfl Tryz.underlying42 info3 rfl (by decide) (by omega) (.slice (some ⟨g0,0,none⟩) 0 0) [] (l.take kk) (some ad) kk c (fun k=>k≠g6) (fun _=>False) rfl rfl R0.out (Kd.C_below HT.out QQ.out) (fun x cs hx=>hx) (fun k hk=>hk.elim) (fun k hk=>by have:=cc_ B6.out;omega) QQ.out QQ.out.size (by simp only [List.length_nil];omega) ?_;intro v37 We3 r_ m_ hg_ hat_;have b_:=cl_ B6.out hg_ (by intro he;exact R0.out.1 _ he.symm rfl);clear B6;have B6:=Sd.m b_;clear b_;rw [List.nil_append] at r_;clear QQ R0 hg_ hat_;have QQ:=Sd.m m_;have R0:=Sd.m r_;clear m_ r_;refine hK.out _ _ trivial (fun hHeld=>?_);clear hK K;refine no_ 37 ?_;exact norm_ (by simp only [putAll,Act.put,List.setIfInBounds_toArray,List.set_cons_zero,List.set_cons_succ]) (hCont (g0,v37,g6) _ ⟨QQ.out,R0.out,B6.out,L6.out⟩)
      ·skip;refine value_ (w1:=?_) (v:=?_) (by rfl) rfl ?_ ?_;rotate_left 2
       ·go_simp;constructor
        ·rfl
        ·rfl
       have m_:=ab_ QQ.out (.cells #[.int .i64 n] 3);have b_:=aj_ Wd (.cells #[.int .i64 n] 3);have le_:=QQ.out.size;obtain ⟨g6,hz_⟩: ∃ z_,z_=Wd.heap.size:=⟨_,rfl⟩;rw [←hz_] at b_ le_ ⊢;generalize Wd.alloc (.cells #[.int .i64 n] 3)=We1 at m_ b_ ⊢;clear hz_ QQ;have QQ:=Sd.m m_;have B6:=Sd.m b_;have L6:=Sd.m le_;clear m_ b_ le_;refine hK.out _ _ trivial (fun hHeld=>?_);clear hK K;refine no_ 39 ?_;refine on_ 0 33 (fun K hK=>?_);refine value_ (w1:=?_) (v:=?_) (by rfl) rfl ?_ ?_;rotate_left 2
       ·go_simp;constructor
        ·rfl
        ·rfl
       have r_:=R_empty We1 w.heap.size QQ.out.size;have m_:=ab_ QQ.out (.cells #[] 3);have b_:=am_ B6.out (.cells #[] 3);have ne_:g6≠We1.heap.size:=by have:=cc_ B6.out;omega
       clear B6;obtain ⟨g0,hz_⟩: ∃ z_,z_=We1.heap.size:=⟨_,rfl⟩;rw [←hz_] at r_ ne_ ⊢;generalize We1.alloc (.cells #[] 3)=We2 at m_ r_ b_ ⊢;clear hz_ QQ;have QQ:=Sd.m m_;have B6:=Sd.m b_;have R0:=Sd.m (R_apart r_ (g:=g6) (by intro k hk;simp [Value.ownBlock] at hk;omega));clear m_ r_ b_ ne_;refine hK.out _ _ trivial (fun hHeld=>?_);clear hK K;refine no_ 33 ?_;refine on_ 4 37 (fun K hK=>?_);refine Kd.R_append_rows_step (Kd.int .i64) (Rr:=(Kd.int .i64).K We2) (w0:=w) w.heap.size (by rfl) (.tmp 33) (.tmp 36) 42 3 (.int .i64 0) 8 rfl Tryz.underlying42 info3 rfl (by decide) (by omega) (.slice (some ⟨g0,0,none⟩) 0 0) [] (l.take kk) (some ad) kk c (fun k=>k≠g6) (fun _=>False) rfl rfl R0.out (Kd.C_below HT.out QQ.out) (fun x cs hx=>hx) (fun k hk=>hk.elim) (fun k hk=>by have:=cc_ B6.out;omega) QQ.out QQ.out.size (by simp only [List.length_nil];omega) ?_;intro v37 We3 r_ m_ hg_ hat_;have b_:=cl_ B6.out hg_ (by intro he;exact R0.out.1 _ he.symm rfl);clear B6;have B6:=Sd.m b_;clear b_;rw [List.nil_append] at r_;clear QQ R0 hg_ hat_;have QQ:=Sd.m m_;have R0:=Sd.m r_;clear m_ r_;refine hK.out _ _ trivial (fun hHeld=>?_);clear hK K;refine no_ 37 ?_;exact norm_ (by simp only [putAll,Act.put,List.setIfInBounds_toArray,List.set_cons_zero,List.set_cons_succ]) (hCont (g0,v37,g6) _ ⟨QQ.out,R0.out,B6.out,L6.out⟩)
     rintro ⟨g0,v37,g6⟩ Wf ⟨qq_,r_,b_,le_⟩;clear QQ;have QQ:=Sd.m qq_;have R0:Sd (Kd.R (Kd.int .i64) 3 Wf w.heap.size (fun k=>k≠g6) v37 (l.take kk)):=⟨r_⟩;have B6:Sd (Wf.heap[g6]? =some (.cells #[.int .i64 n] 3 (0,0))):=⟨b_⟩;have L6:Sd (w.heap.size<=g6):=⟨le_⟩;clear qq_ r_ b_ le_;have hHeld:True:=trivial;refine norm_ (a':=?_) ?_ ?_;rotate_left
     ·simp only [putAll,Act.put,List.setIfInBounds_toArray,List.set_cons_zero,List.set_cons_succ];rfl
     refine on_ 7 40 (fun K hK=>?_);refine Kd.R_append_rows_step (Kd.int .i64) (Rr:=(Kd.int .i64).K Wf) (w0:=w) w.heap.size (by rfl) (.tmp 37) (.tmp 39) 42 3 (.int .i64 0) 8 rfl Tryz.underlying42 info3 rfl (by decide) (by omega) v37 (l.take kk) [n] (some ⟨g6,0,none⟩) 1 1 (fun k=>k≠g6) (fun _=>False) rfl rfl R0.out (C_ints (xs:=[n]) B6.out (by simp)) (fun x cs hx=>hx) (fun k hk=>hk.elim) (fun k hk=>by have:=cc_ B6.out;omega) QQ.out QQ.out.size (by simp only [List.length_take];omega) ?_;intro v40 We9 r_ m_ hg_ hat_;clear QQ R0 hg_ hat_ B6;have QQ:=Sd.m m_;have R0:=Sd.m (Kd.R_mono r_ (ok':=fun _=>True) (fun _ _=>trivial));clear m_ r_;refine hK.out _ _ trivial (fun hHeld=>?_);clear hK K;refine no_ 40 ?_;refine on_ 11 44 (fun K hK=>?_);refine Kd.R_append_rows_step (Kd.int .i64) (Rr:=(Kd.int .i64).K We9) (w0:=w) w.heap.size (by rfl) (.tmp 40) (.tmp 43) 42 3 (.int .i64 0) 8 rfl Tryz.underlying42 info3 rfl (by decide) (by omega) v40 (l.take kk ++ [n]) (l.drop kk) A2 dl (c - kk) (fun _=>True) (fun _=>False) rfl rfl R0.out (Kd.C_below HD.out QQ.out) (fun x cs hx=>hx) (fun k hk=>hk.elim) (fun _ _=>trivial) QQ.out QQ.out.size (by simp only [List.length_append,List.length_take,List.length_singleton];omega) ?_;intro v44 We10 r_ m_ hg_ hat_;clear QQ R0 hg_ hat_;have QQ:=Sd.m m_;have R0:=Sd.m r_;clear m_ r_;refine hK.out _ _ trivial (fun hHeld=>?_);clear hK K;refine no_ 44 ?_;refine pu_ 12 4 ?_;refine done_ (by kernel_rfl) ?_;go_wp2_with fail;go_ret;exact ⟨_,rfl,QQ.out,.inr (by rw [HP.out];exact R0.out)⟩
  ·have b1:decide ((j:Int)<(l.length:Int))=false:=df__ (by omega);have b2:decide (j<l.length)=false:=df__ hlt;have q0:0<=(j:Int):=by omega
   have hput:putF l n=l.take j ++ [n] ++ l.drop j:=by rw [HF.out (fun h=>absurd h hlt),if_neg (fun q=>hlt q.1)]
   have HP:=Sd.m hput;clear hput HF;go_wp2_with fail;obtain ⟨i3,hi3,_,hsz3,_⟩:=info_parts info3;obtain ⟨kk,hkk⟩: ∃ kk,kk=j:=⟨_,rfl⟩;have hkl:kk<=l.length:=by omega
   obtain ⟨hcutT,hAT,_⟩:=gz_ (P:=Tryz.prog) (k:=.i64) 42 3 Tryz.underlying42 hi3 hsz3 A c l (kk:Int) (by omega) (by omega) hc;obtain ⟨A2,hcutD,hAD,_⟩:=ga_ (P:=Tryz.prog) (Value.int .i64) 0 42 3 .i64 Tryz.underlying42 hi3 hsz3 A c l (kk:Int) (by omega) (by omega) hc;rw [Int.toNat_natCast] at hcutT hAT hcutD hAD;have lt_:(l.take kk).length=kk:=List.length_take_of_le hkl;have hdC:=Kd.C_of_reads (h1:=fun _=>rfl) (hAD w (Kd.dx_ HR.out));obtain ⟨dl,hdl⟩: ∃ dl,dl=(l.drop kk).length:=⟨_,rfl⟩;have hdl2:dl<=l.length:=by rw [hdl,List.length_drop];omega
   rw [lt_] at hcutT;rw [←hdl] at hcutD hdC;have htC:=Kd.C_of_reads (h1:=fun _=>rfl) (hAT w (Kd.dx_ HR.out));rw [lt_] at htC;have HT:=Sd.m htC;have HD:=Sd.m hdC;have QQ:Sd (Below w.heap.size w w.drew):=⟨ca_ (Below.refl _ _)⟩;rw [←hkk] at HP ⊢;clear hkk hAT hAD lt_ hdC htC hi3 hsz3 hdl;refine start_ (n:=13) (S:=fun w'=>True) (ds:=[]) #[false,false,false,false,false,false,false,false,false,false,false,false,false] (by kernel_rfl) rfl rfl trivial (fun hHeld=>?_);generalize w.drew=Wd at QQ hHeld ⊢;refine pu_ 1 34 ?_;refine pu_ 2 35 ?_;refine pu_ 3 36 ?_;refine pu_ 5 38 ?_;refine pu_ 8 41 ?_;refine pu_ 9 42 ?_;refine pu_ 10 43 ?_;refine join_ (σ:=Nat × Value × Nat) 3 #[true,true,true,true,true,true,true,false,true,true,true,false,false] (fun s_=>[(33,.slice (some ⟨s_.1,0,none⟩) 0 0),(37,s_.2.1),(39,.slice (some ⟨s_.2.2,0,none⟩) 1 1)]) (fun s_ w'=>Below w.heap.size w w'∧Kd.R (Kd.int .i64) 3 w' w.heap.size (fun k=>k≠s_.2.2) s_.2.1 (l.take kk)∧w'.heap[s_.2.2]? =some (.cells #[.int .i64 n] 3 (0,0))∧w.heap.size<=s_.2.2) ?_ ?_;rotate_left
   ·intro hCont;refine two_ (i:=0) (j:=6) (Ni:=some 33) (Nj:=some 39) #[true,true,true,true,false,true,false,false,true,true,true,false,false] #[false,true,true,true,false,true,true,false,true,true,true,false,false] rfl rfl rfl rfl (by kernel_rfl) (by decide) (by decide) (fun K hK=>?_) (fun K hK=>?_)
    ·skip;refine value_ (w1:=?_) (v:=?_) (by rfl) rfl ?_ ?_;rotate_left 2
     ·go_simp;constructor
      ·rfl
      ·rfl
     have r_:=R_empty Wd w.heap.size QQ.out.size;have m_:=ab_ QQ.out (.cells #[] 3);obtain ⟨g0,hz_⟩: ∃ z_,z_=Wd.heap.size:=⟨_,rfl⟩;rw [←hz_] at r_ ⊢;generalize Wd.alloc (.cells #[] 3)=We1 at m_ r_ ⊢;clear hz_ QQ;have QQ:=Sd.m m_;have R0:=Sd.m r_;clear m_ r_;refine hK.out _ _ trivial (fun hHeld=>?_);clear hK K;refine no_ 33 ?_;refine two_ (i:=4) (j:=6) (Ni:=some 37) (Nj:=some 39) #[true,true,true,true,true,true,false,false,true,true,true,false,false] #[true,true,true,true,false,true,true,false,true,true,true,false,false] rfl rfl rfl rfl (by kernel_rfl) (by decide) (by decide) (fun K hK=>?_) (fun K hK=>?_)
     ·skip;refine Kd.R_append_rows_step (Kd.int .i64) (Rr:=(Kd.int .i64).K We1) (w0:=w) w.heap.size (by rfl) (.tmp 33) (.tmp 36) 42 3 (.int .i64 0) 8 rfl Tryz.underlying42 info3 rfl (by decide) (by omega) (.slice (some ⟨g0,0,none⟩) 0 0) [] (l.take kk) A kk c (fun _=>True) (fun _=>False) rfl rfl R0.out (Kd.C_below HT.out QQ.out) (fun x cs hx=>hx) (fun k hk=>hk.elim) (fun _ _=>trivial) QQ.out QQ.out.size (by simp only [List.length_nil];omega) ?_;intro v37 We2 r_ m_ hg_ hat_;rw [List.nil_append] at r_;clear QQ R0 hg_ hat_;have QQ:=Sd.m m_;have R0:=Sd.m r_;clear m_ r_;refine hK.out _ _ trivial (fun hHeld=>?_);clear hK K;refine no_ 37 ?_;refine on_ 6 39 (fun K hK=>?_);refine value_ (w1:=?_) (v:=?_) (by rfl) rfl ?_ ?_;rotate_left 2
      ·go_simp;constructor
       ·rfl
       ·rfl
      have m_:=ab_ QQ.out (.cells #[.int .i64 n] 3);have b_:=aj_ We2 (.cells #[.int .i64 n] 3);have lt_:=Kd.R_lt R0.out;have r_:=Kd.R_alloc R0.out (.cells #[.int .i64 n] 3);clear R0;have le_:=QQ.out.size;obtain ⟨g6,hz_⟩: ∃ z_,z_=We2.heap.size:=⟨_,rfl⟩;rw [←hz_] at b_ le_ lt_ ⊢;generalize We2.alloc (.cells #[.int .i64 n] 3)=We3 at m_ b_ r_ ⊢;clear hz_ QQ;have QQ:=Sd.m m_;have B6:=Sd.m b_;have L6:=Sd.m le_;have R0:=Sd.m (R_apart r_ (g:=g6) (by intro k hk;have:=lt_ k hk;omega));clear m_ b_ le_ r_ lt_;refine hK.out _ _ trivial (fun hHeld=>?_);clear hK K;refine no_ 39 ?_;exact norm_ (by simp only [putAll,Act.put,List.setIfInBounds_toArray,List.set_cons_zero,List.set_cons_succ]) (hCont (g0,v37,g6) _ ⟨QQ.out,R0.out,B6.out,L6.out⟩)
     ·skip;refine value_ (w1:=?_) (v:=?_) (by rfl) rfl ?_ ?_;rotate_left 2
      ·go_simp;constructor
       ·rfl
       ·rfl
      have m_:=ab_ QQ.out (.cells #[.int .i64 n] 3);have b_:=aj_ We1 (.cells #[.int .i64 n] 3);have lt_:=Kd.R_lt R0.out;have r_:=Kd.R_alloc R0.out (.cells #[.int .i64 n] 3);clear R0;have le_:=QQ.out.size;obtain ⟨g6,hz_⟩: ∃ z_,z_=We1.heap.size:=⟨_,rfl⟩;rw [←hz_] at b_ le_ lt_ ⊢;generalize We1.alloc (.cells #[.int .i64 n] 3)=We2 at m_ b_ r_ ⊢;clear hz_ QQ;have QQ:=Sd.m m_;have B6:=Sd.m b_;have L6:=Sd.m le_;have R0:=Sd.m (R_apart r_ (g:=g6) (by intro k hk;have:=lt_ k hk;omega));clear m_ b_ le_ r_ lt_;refine hK.out _ _ trivial (fun hHeld=>?_);clear hK K;refine no_ 39 ?_;refine on_ 4 37 (fun K hK=>?_);refine Kd.R_append_rows_step (Kd.int .i64) (Rr:=(Kd.int .i64).K We2) (w0:=w) w.heap.size (by rfl) (.tmp 33) (.tmp 36) 42 3 (.int .i64 0) 8 rfl Tryz.underlying42 info3 rfl (by decide) (by omega) (.slice (some ⟨g0,0,none⟩) 0 0) [] (l.take kk) A kk c (fun k=>k≠g6) (fun _=>False) rfl rfl R0.out (Kd.C_below HT.out QQ.out) (fun x cs hx=>hx) (fun k hk=>hk.elim) (fun k hk=>by have:=cc_ B6.out;omega) QQ.out QQ.out.size (by simp only [List.length_nil];omega) ?_;intro v37 We3 r_ m_ hg_ hat_;have b_:=cl_ B6.out hg_ (by intro he;exact R0.out.1 _ he.symm rfl);clear B6;have B6:=Sd.m b_;clear b_;rw [List.nil_append] at r_;clear QQ R0 hg_ hat_;have QQ:=Sd.m m_;have R0:=Sd.m r_;clear m_ r_;refine hK.out _ _ trivial (fun hHeld=>?_);clear hK K;refine no_ 37 ?_;exact norm_ (by simp only [putAll,Act.put,List.setIfInBounds_toArray,List.set_cons_zero,List.set_cons_succ]) (hCont (g0,v37,g6) _ ⟨QQ.out,R0.out,B6.out,L6.out⟩)
    ·skip;refine value_ (w1:=?_) (v:=?_) (by rfl) rfl ?_ ?_;rotate_left 2
     ·go_simp;constructor
      ·rfl
      ·rfl
     have m_:=ab_ QQ.out (.cells #[.int .i64 n] 3);have b_:=aj_ Wd (.cells #[.int .i64 n] 3);have le_:=QQ.out.size;obtain ⟨g6,hz_⟩: ∃ z_,z_=Wd.heap.size:=⟨_,rfl⟩;rw [←hz_] at b_ le_ ⊢;generalize Wd.alloc (.cells #[.int .i64 n] 3)=We1 at m_ b_ ⊢;clear hz_ QQ;have QQ:=Sd.m m_;have B6:=Sd.m b_;have L6:=Sd.m le_;clear m_ b_ le_;refine hK.out _ _ trivial (fun hHeld=>?_);clear hK K;refine no_ 39 ?_;refine on_ 0 33 (fun K hK=>?_);refine value_ (w1:=?_) (v:=?_) (by rfl) rfl ?_ ?_;rotate_left 2
     ·go_simp;constructor
      ·rfl
      ·rfl
     have r_:=R_empty We1 w.heap.size QQ.out.size;have m_:=ab_ QQ.out (.cells #[] 3);have b_:=am_ B6.out (.cells #[] 3);have ne_:g6≠We1.heap.size:=by have:=cc_ B6.out;omega
     clear B6;obtain ⟨g0,hz_⟩: ∃ z_,z_=We1.heap.size:=⟨_,rfl⟩;rw [←hz_] at r_ ne_ ⊢;generalize We1.alloc (.cells #[] 3)=We2 at m_ r_ b_ ⊢;clear hz_ QQ;have QQ:=Sd.m m_;have B6:=Sd.m b_;have R0:=Sd.m (R_apart r_ (g:=g6) (by intro k hk;simp [Value.ownBlock] at hk;omega));clear m_ r_ b_ ne_;refine hK.out _ _ trivial (fun hHeld=>?_);clear hK K;refine no_ 33 ?_;refine on_ 4 37 (fun K hK=>?_);refine Kd.R_append_rows_step (Kd.int .i64) (Rr:=(Kd.int .i64).K We2) (w0:=w) w.heap.size (by rfl) (.tmp 33) (.tmp 36) 42 3 (.int .i64 0) 8 rfl Tryz.underlying42 info3 rfl (by decide) (by omega) (.slice (some ⟨g0,0,none⟩) 0 0) [] (l.take kk) A kk c (fun k=>k≠g6) (fun _=>False) rfl rfl R0.out (Kd.C_below HT.out QQ.out) (fun x cs hx=>hx) (fun k hk=>hk.elim) (fun k hk=>by have:=cc_ B6.out;omega) QQ.out QQ.out.size (by simp only [List.length_nil];omega) ?_;intro v37 We3 r_ m_ hg_ hat_;have b_:=cl_ B6.out hg_ (by intro he;exact R0.out.1 _ he.symm rfl);clear B6;have B6:=Sd.m b_;clear b_;rw [List.nil_append] at r_;clear QQ R0 hg_ hat_;have QQ:=Sd.m m_;have R0:=Sd.m r_;clear m_ r_;refine hK.out _ _ trivial (fun hHeld=>?_);clear hK K;refine no_ 37 ?_;exact norm_ (by simp only [putAll,Act.put,List.setIfInBounds_toArray,List.set_cons_zero,List.set_cons_succ]) (hCont (g0,v37,g6) _ ⟨QQ.out,R0.out,B6.out,L6.out⟩)
   rintro ⟨g0,v37,g6⟩ Wf ⟨qq_,r_,b_,le_⟩;clear QQ;have QQ:=Sd.m qq_;have R0:Sd (Kd.R (Kd.int .i64) 3 Wf w.heap.size (fun k=>k≠g6) v37 (l.take kk)):=⟨r_⟩;have B6:Sd (Wf.heap[g6]? =some (.cells #[.int .i64 n] 3 (0,0))):=⟨b_⟩;have L6:Sd (w.heap.size<=g6):=⟨le_⟩;clear qq_ r_ b_ le_;have hHeld:True:=trivial;refine norm_ (a':=?_) ?_ ?_;rotate_left
   ·simp only [putAll,Act.put,List.setIfInBounds_toArray,List.set_cons_zero,List.set_cons_succ];rfl
   refine on_ 7 40 (fun K hK=>?_);refine Kd.R_append_rows_step (Kd.int .i64) (Rr:=(Kd.int .i64).K Wf) (w0:=w) w.heap.size (by rfl) (.tmp 37) (.tmp 39) 42 3 (.int .i64 0) 8 rfl Tryz.underlying42 info3 rfl (by decide) (by omega) v37 (l.take kk) [n] (some ⟨g6,0,none⟩) 1 1 (fun k=>k≠g6) (fun _=>False) rfl rfl R0.out (C_ints (xs:=[n]) B6.out (by simp)) (fun x cs hx=>hx) (fun k hk=>hk.elim) (fun k hk=>by have:=cc_ B6.out;omega) QQ.out QQ.out.size (by simp only [List.length_take];omega) ?_;intro v40 We9 r_ m_ hg_ hat_;clear QQ R0 hg_ hat_ B6;have QQ:=Sd.m m_;have R0:=Sd.m (Kd.R_mono r_ (ok':=fun _=>True) (fun _ _=>trivial));clear m_ r_;refine hK.out _ _ trivial (fun hHeld=>?_);clear hK K;refine no_ 40 ?_;refine on_ 11 44 (fun K hK=>?_);refine Kd.R_append_rows_step (Kd.int .i64) (Rr:=(Kd.int .i64).K We9) (w0:=w) w.heap.size (by rfl) (.tmp 40) (.tmp 43) 42 3 (.int .i64 0) 8 rfl Tryz.underlying42 info3 rfl (by decide) (by omega) v40 (l.take kk ++ [n]) (l.drop kk) A2 dl (c - kk) (fun _=>True) (fun _=>False) rfl rfl R0.out (Kd.C_below HD.out QQ.out) (fun x cs hx=>hx) (fun k hk=>hk.elim) (fun _ _=>trivial) QQ.out QQ.out.size (by simp only [List.length_append,List.length_take,List.length_singleton];omega) ?_;intro v44 We10 r_ m_ hg_ hat_;clear QQ R0 hg_ hat_;have QQ:=Sd.m m_;have R0:=Sd.m r_;clear m_ r_;refine hK.out _ _ trivial (fun hHeld=>?_);clear hK K;refine no_ 44 ?_;refine pu_ 12 4 ?_;refine done_ (by kernel_rfl) ?_;go_wp2_with fail;go_ret;exact ⟨_,rfl,QQ.out,.inr (by rw [HP.out];exact R0.out)⟩
def edge1 (out:List Int)(r:S74):List Int:=if 0<=r.f0∧r.f0<=1114111 then putF out r.f0 else out
def edge2 (out:List Int)(r:S74):List Int:=if -1<=r.f1∧r.f1<1114111 then putF out (r.f1+1) else out
def edgeS (out:List Int)(l:List S74):List Int:=if l.length<=400 then l.foldl (fun o r=>edge2 (edge1 o r) r) out else out
def edgesF (sets:List (List S74)):List Int:=sets.foldl edgeS [0]
theorem edge1_len (o:List Int)(r:S74):(edge1 o r).length<=o.length+1:=by unfold edge1;split;exact putF_len _ _;omega
theorem edge_len (o:List Int)(r:S74):(edge2 (edge1 o r) r).length<=o.length+2:=by
 have h1:=edge1_len o r;have h2:(edge2 (edge1 o r) r).length<=(edge1 o r).length+1:=by unfold edge2;split;exact putF_len _ _;omega
 omega
theorem fr_ (l:List S74): ∀ o:List Int,(l.foldl (fun o r=>edge2 (edge1 o r) r) o).length<=o.length+2*l.length:=by
 induction l with
 | nil=>intro o;simp
 | cons r l ih=>
  intro o;have:=ih (edge2 (edge1 o r) r);have:=edge_len o r;simp only [List.foldl_cons,List.length_cons];omega
theorem edgeS_len (o:List Int)(l:List S74):(edgeS o l).length<=o.length+800:=by
 unfold edgeS;split
 ·have:=fr_ l o;omega
 ·omega
theorem gt_ (sets:List (List S74)):(edgesF sets).length<=1+800*sets.length:=by
 have: ∀ (sets:List (List S74)) (o:List Int),(sets.foldl edgeS o).length<=o.length+800*sets.length:=by
  intro sets
  induction sets with
  | nil=>intro o;simp
  | cons l s ih=>
   intro o;have:=ih (edgeS o l);have:=edgeS_len o l;simp only [List.foldl_cons,List.length_cons];omega
 have:=this sets [0];simpa [edgesF] using this
theorem ls_ {base:Nat}(v:Value)(l:List Int)(n:Int)(w:World)(hr:Kd.R (Kd.int .i64) 3 w base (fun _=>True) v l)(hb:base<=w.heap.size)(hz:l.length<=100000):
  Calls Tryz.prog 118 #[v,.int .i64 n] w fun e w'=> ∃ v',e=.returned v'∧Kd.R (Kd.int .i64) 3 w' base (fun _=>True) v' (putF l n)∧Below w.heap.size w w':=by
 obtain ⟨A,c,rfl⟩:=Kd.R_slice hr;obtain ⟨_,hc,hC⟩:=Kd.R_reads' hr;refine (put_new A c l n w hC hc hz).mono ?_;rintro e w' ⟨v',rfl,hb',h⟩;refine ⟨v',rfl,?_,hb'⟩;rcases h with ⟨rfl,h⟩ | h
 ·rw [h];exact Kd.R_below hr hb'
 ·exact Kd.R_lower h hb
def rdS (xs:List (List S74))(i:Nat):List S74:=xs.getD i []
theorem at_sets {w:World}{A:Option Addr}{n:Nat}{xs:List (List S74)}(h:Kd.C (Kd.slice 74 k74) w A n xs)(i:Nat)(h1:i<n): ∃ ad A0 c0,A=some ad∧w.cell? (ad.add i)=some (.slice A0 (rdS xs i).length c0)∧(rdS xs i).length<=c0∧k74.C w A0 (rdS xs i).length (rdS xs i):=by
 obtain ⟨ad,c,e,_,hK,hc0⟩:=Kd.C_get h ([]:List S74) (i:Int) (by omega) (by omega);rw [Int.toNat_natCast] at hK hc0;have hc: ∀ j u,c[j]? =some u->w.cell? (ad.add (i*1+j))=some u:=hc0;obtain ⟨A0,c0,rfl,l0,g0⟩:=hK;exact ⟨ad,A0,c0,e,by have hq:=hc 0 _ rfl;rwa [Nat.mul_one,Nat.add_zero] at hq,l0,g0⟩
theorem take_rd (l:List S74){j:Nat}(h:j<l.length):l.take (j+1)=l.take j ++ [al_ l j]:=by
 rw [List.take_succ_eq_append_getElem h];unfold al_;rw [Int.toNat_natCast,List.getD_eq_getElem?_getD,List.getElem?_eq_getElem h];rfl
theorem take_rdS (l:List (List S74)){j:Nat}(h:j<l.length):l.take (j+1)=l.take j ++ [rdS l j]:=by
 rw [List.take_succ_eq_append_getElem h];unfold rdS;rw [List.getD_eq_getElem?_getD,List.getElem?_eq_getElem h];rfl
def Lo (w:World)(sets:List (List S74))(t3 t4:Value)(W:World):Prop:= ∃ (i:Nat),i<=sets.length∧t4=.int .i64 i∧Kd.R (Kd.int .i64) 3 W w.heap.size (fun _=>True) t3 (edgesF (sets.take i))∧Below w.heap.size w W
def Li (w:World)(l:List S74)(o:List Int)(t3 t5:Value)(W:World):Prop:= ∃ (j:Nat),j<=l.length∧(j=0∨l.length<=400)∧t5=.int .i64 j∧Kd.R (Kd.int .i64) 3 W w.heap.size (fun _=>True) t3 ((l.take j).foldl (fun o r=>edge2 (edge1 o r) r) o)∧Below w.heap.size w W
set_option maxHeartbeats 16000000 in
theorem hj_ (A:Option Addr)(c:Nat)(sets:List (List S74))(w:World)(hr:Kd.C (Kd.slice 74 k74) w A sets.length sets)(hc:sets.length<=c)(hz:sets.length<=100):
  Calls Tryz.prog 82 #[.slice A sets.length c] w fun e w'=> ∃ v,e=.returned v∧Kd.R (Kd.int .i64) 3 w' w.heap.size (fun _=>True) v (edgesF sets)∧Below w.heap.size w w':=by
 have HR:=Sd.m hr;clear hr;go_enter Tryz.func82,Tryz.ntmps82;go_wp2_with fail;obtain ⟨W0,hW0⟩: ∃ W0,W0=w.alloc (.cells #[.int .i64 0] 3):=⟨_,rfl⟩;have R0:Kd.R (Kd.int .i64) 3 W0 w.heap.size (fun _=>True) (.slice (some ⟨w.heap.size,0,none⟩) 1 1) [0]:=by
  rw [hW0];exact ⟨fun _ _=>trivial,[.int .i64 0],⟨rfl,.inr ⟨w.heap.size,1,#[.int .i64 0],rfl,Nat.le_refl _,aj_ _ _,Nat.le_refl _,by unfold maxLen;omega,rfl,rfl⟩⟩,Kd.hd_ [0]⟩
 have B0:Below w.heap.size w W0:=by rw [hW0];exact ab_ (Below.refl _ _) _
 rw [←hW0];clear hW0;have RR0:=Sd.m R0;have BB0:=Sd.m B0;clear R0 B0;go_loopw [3,4] (fun t3 t4 W=>Lo w sets t3 t4 W) (fun _ t4 _=>sets.length - (intOf t4).toNat)
 case atStart=>exact ⟨0,Nat.zero_le _,rfl,RR0.out,BB0.out⟩
 case round=>
  obtain ⟨i,hi,rfl,hR,hB⟩:=hrel;obtain ⟨wo,hwo⟩: ∃ wo:World,wo=wr:=⟨_,rfl⟩;subst hwo;have ORR:=Sd.m hR;have OB:=Sd.m hB;clear hR hB RR0 BB0;by_cases hlt:i<sets.length
  ·have b1:decide ((i:Int)<(sets.length:Int))=true:=dt__ (by omega);have b2:decide (i<sets.length)=true:=dt__ hlt;have q0:0<=(i:Int):=by omega
   have q1:(i:Int)<(sets.length:Int):=by omega
   have w2:IntKind.i64.wrap ((i:Int)+1)=(i:Int)+1:=IntWalk.i64_in _ (by omega);obtain ⟨ad,A0,c0,rfl,k0,hl0,hC0⟩:=at_sets (Kd.C_below HR.out OB.out) i hlt;have hmax:(rdS sets i).length<=9223372036854775807:=Kd.C_max hC0;have htk:edgesF (sets.take (i+1))=edgeS (edgesF (sets.take i)) (rdS sets i):=by
    rw [take_rdS sets hlt];unfold edgesF;rw [List.foldl_append];rfl
   have hol:=gt_ (sets.take i);rw [List.length_take] at hol;have hol2:(edgesF (sets.take i)).length<=80001:=by omega
   obtain ⟨o,ho⟩: ∃ o,o=edgesF (sets.take i):=⟨_,rfl⟩;obtain ⟨l,hl⟩: ∃ l,l=rdS sets i:=⟨_,rfl⟩;rw [←ho,←hl] at htk;rw [←ho] at ORR hol2;rw [←hl] at k0 hl0 hC0 hmax;have HT:=Sd.m htk;have HC0:=Sd.m hC0;have HK0:=Sd.m k0;clear hol ho hl htk hC0;go_wp2_with fail;clear k0;go_loopw [3,5] (fun t3 t5 W=>Li w l o t3 t5 W∧Below wo.heap.size wo W) (fun _ t5 _=>l.length - (intOf t5).toNat)
   case atStart=>exact ⟨⟨0,Nat.zero_le _,.inl rfl,rfl,ORR.out,OB.out⟩,Below.refl _ _⟩
   case round=>
    obtain ⟨⟨j,hj,hj4,rfl,hR,hB⟩,hBo⟩:=hrel;have k1:wr.cell? (ad.add i)=some (.slice A0 l.length c0):=dt_ hBo HK0.out;have IR:=Sd.m hR;have IB:=Sd.m hB;have IBo:=Sd.m hBo;clear hR hB hBo;by_cases hlj:j<l.length
    ·have e1:decide ((j:Int)<(l.length:Int))=true:=dt__ (by omega);have e2:decide (j<l.length)=true:=dt__ hlj;by_cases h4:l.length<=400
     ·have e3:decide ((l.length:Int)<=400)=true:=dt__ (by omega);have e4:decide (l.length<=400)=true:=dt__ h4;have p0:0<=(j:Int):=by omega
      have p1:(j:Int)<(l.length:Int):=by omega
      have w3:IntKind.i64.wrap ((j:Int)+1)=(j:Int)+1:=IntWalk.i64_in _ (by omega);obtain ⟨al,rfl,c1,c2⟩:=ec_ (Kd.C_below HC0.out IBo.out) (j:Int) (by omega) (by omega);rw [Int.toNat_natCast] at c1 c2;have htk2:(l.take (j+1)).foldl (fun o r=>edge2 (edge1 o r) r) o=edge2 (edge1 ((l.take j).foldl (fun o r=>edge2 (edge1 o r) r) o) (al_ l j)) (al_ l j):=by
       rw [take_rd l hlj,List.foldl_append];rfl
      have hm:=fr_ (l.take j) o;rw [List.length_take] at hm;obtain ⟨m,hmm⟩: ∃ m,m=(l.take j).foldl (fun o r=>edge2 (edge1 o r) r) o:=⟨_,rfl⟩;rw [←hmm] at htk2 hm;rw [←hmm] at IR;obtain ⟨r,hr⟩: ∃ r,r=al_ l j:=⟨_,rfl⟩;rw [←hr] at htk2 c1 c2;have hm2:m.length<=90000:=by omega
      have HT2:=Sd.m htk2;clear hmm hr htk2 hm;obtain ⟨f0,f1⟩:=r;simp only at c1 c2;have hm3:=edge1_len m ⟨f0,f1⟩;have hm4:(edge1 m ⟨f0,f1⟩).length<=90001:=by omega
      clear hm3;go_upto_region 9 with (fail);obtain ⟨W1,hW1⟩: ∃ W1,W1=wr.alloc (.cells #[.int .i64 f0,.int .i64 f1] 74):=⟨_,rfl⟩;have X1:W1.heap[wr.heap.size]? =some (.cells #[.int .i64 f0,.int .i64 f1] 74 (0,0)):=by rw [hW1];exact aj_ _ _
      have B1:Below w.heap.size w W1:=by rw [hW1];exact ab_ IB.out _
      have B1o:Below wo.heap.size wo W1:=by rw [hW1];exact ab_ IBo.out _
      have R1:Kd.R (Kd.int .i64) 3 W1 w.heap.size (fun _=>True) u3 m:=by rw [hW1];exact Kd.R_alloc IR.out _
      rw [←hW1];clear hW1 c1 c2 k1;obtain ⟨gb,hgb⟩: ∃ gb,gb=wr.heap.size:=⟨_,rfl⟩;rw [←hgb] at X1 ⊢;clear hgb;have HX:=Sd.m X1;have HB1:=Sd.m B1;have HBo:=Sd.m B1o;have HR1:=Sd.m R1;clear X1 B1 B1o R1 IR IB IBo;have x0:=bc_ HX.out 0 rfl;have x1:=bc_ HX.out 1 rfl;by_cases g1:0<=f0
      ·have a1:decide (0<=f0)=true:=dt__ g1;by_cases g2:f0<=1114111
       ·have a2:decide (f0<=1114111)=true:=dt__ g2;go_wp2_with fail;refine (ls_ _ _ _ _ HR1.out HB1.out.size (by omega)).mono ?_;rintro e W2 ⟨v2,rfl,r2,b2'⟩;have HR1':Sd (Kd.R (Kd.int .i64) 3 W2 w.heap.size (fun _=>True) v2 (edge1 m ⟨f0,f1⟩)):=⟨by unfold edge1;rw [if_pos ⟨g1,g2⟩];exact r2⟩;have HX':=Sd.m (ag_ HX.out b2');have HB':=Sd.m (HB1.out.trans (b2'.mono HB1.out.size));have HBo':=Sd.m (HBo.out.trans (b2'.mono HBo.out.size));clear HR1 HX HB1 HBo r2 b2' x0 x1;have HR1:=HR1';have HX:=HX';have HB1:=HB';have HBo:=HBo';clear HR1' HX' HB' HBo';have x0:=bc_ HX.out 0 rfl;have x1:=bc_ HX.out 1 rfl;by_cases h1: -1<=f1
        ·have d1:decide (-1<=f1)=true:=dt__ h1;by_cases h2:f1<1114111
         ·have d2:decide (f1<1114111)=true:=dt__ h2;have w4:IntKind.i64.wrap (f1+1)=f1+1:=IntWalk.i64_in _ (by omega);go_wp2_with fail;refine (ls_ _ _ _ _ HR1.out HB1.out.size (by omega)).mono ?_;rintro e W3 ⟨v3,rfl,r3,b3⟩;have HRf:Sd (Kd.R (Kd.int .i64) 3 W3 w.heap.size (fun _=>True) v3 (edge2 (edge1 m ⟨f0,f1⟩) ⟨f0,f1⟩)):=⟨by unfold edge2;rw [if_pos ⟨h1,h2⟩];exact r3⟩;have HB3:=Sd.m (HB1.out.trans (b3.mono HB1.out.size));have HBo3:=Sd.m (HBo.out.trans (b3.mono HBo.out.size));clear r3 b3 x0 x1;go_wp2_with fail;go_roundw
          case rel=>exact ⟨⟨j+1,hlj,.inr h4,by go_num,by rw [HT2.out];exact HRf.out,HB3.out⟩,HBo3.out⟩
          case measure=>simp [intOf];omega
         ·have d2:decide (f1<1114111)=false:=df__ h2;have HRf:Sd (Kd.R (Kd.int .i64) 3 W2 w.heap.size (fun _=>True) _ (edge2 (edge1 m ⟨f0,f1⟩) ⟨f0,f1⟩)):=⟨by unfold edge2;rw [if_neg (fun q=>h2 q.2)];exact HR1.out⟩;go_wp2_with fail;go_roundw
          case rel=>exact ⟨⟨j+1,hlj,.inr h4,by go_num,by rw [HT2.out];exact HRf.out,HB1.out⟩,HBo.out⟩
          case measure=>simp [intOf];omega
        ·have d1:decide (-1<=f1)=false:=df__ h1;have HRf:Sd (Kd.R (Kd.int .i64) 3 W2 w.heap.size (fun _=>True) _ (edge2 (edge1 m ⟨f0,f1⟩) ⟨f0,f1⟩)):=⟨by unfold edge2;rw [if_neg (fun q=>h1 q.1)];exact HR1.out⟩;go_wp2_with fail;go_roundw
         case rel=>exact ⟨⟨j+1,hlj,.inr h4,by go_num,by rw [HT2.out];exact HRf.out,HB1.out⟩,HBo.out⟩
         case measure=>simp [intOf];omega
       ·have a2:decide (f0<=1114111)=false:=df__ g2;have HR1':Sd (Kd.R (Kd.int .i64) 3 W1 w.heap.size (fun _=>True) u3 (edge1 m ⟨f0,f1⟩)):=⟨by unfold edge1;rw [if_neg (fun q=>g2 q.2)];exact HR1.out⟩;clear HR1;have HR1:=HR1';clear HR1';by_cases h1: -1<=f1
        ·have d1:decide (-1<=f1)=true:=dt__ h1;by_cases h2:f1<1114111
         ·have d2:decide (f1<1114111)=true:=dt__ h2;have w4:IntKind.i64.wrap (f1+1)=f1+1:=IntWalk.i64_in _ (by omega);go_wp2_with fail;refine (ls_ _ _ _ _ HR1.out HB1.out.size (by omega)).mono ?_;rintro e W3 ⟨v3,rfl,r3,b3⟩;have HRf:Sd (Kd.R (Kd.int .i64) 3 W3 w.heap.size (fun _=>True) v3 (edge2 (edge1 m ⟨f0,f1⟩) ⟨f0,f1⟩)):=⟨by unfold edge2;rw [if_pos ⟨h1,h2⟩];exact r3⟩;have HB3:=Sd.m (HB1.out.trans (b3.mono HB1.out.size));have HBo3:=Sd.m (HBo.out.trans (b3.mono HBo.out.size));clear r3 b3 x0 x1;go_wp2_with fail;go_roundw
          case rel=>exact ⟨⟨j+1,hlj,.inr h4,by go_num,by rw [HT2.out];exact HRf.out,HB3.out⟩,HBo3.out⟩
          case measure=>simp [intOf];omega
         ·have d2:decide (f1<1114111)=false:=df__ h2;have HRf:Sd (Kd.R (Kd.int .i64) 3 W1 w.heap.size (fun _=>True) _ (edge2 (edge1 m ⟨f0,f1⟩) ⟨f0,f1⟩)):=⟨by unfold edge2;rw [if_neg (fun q=>h2 q.2)];exact HR1.out⟩;go_wp2_with fail;go_roundw
          case rel=>exact ⟨⟨j+1,hlj,.inr h4,by go_num,by rw [HT2.out];exact HRf.out,HB1.out⟩,HBo.out⟩
          case measure=>simp [intOf];omega
        ·have d1:decide (-1<=f1)=false:=df__ h1;have HRf:Sd (Kd.R (Kd.int .i64) 3 W1 w.heap.size (fun _=>True) _ (edge2 (edge1 m ⟨f0,f1⟩) ⟨f0,f1⟩)):=⟨by unfold edge2;rw [if_neg (fun q=>h1 q.1)];exact HR1.out⟩;go_wp2_with fail;go_roundw
         case rel=>exact ⟨⟨j+1,hlj,.inr h4,by go_num,by rw [HT2.out];exact HRf.out,HB1.out⟩,HBo.out⟩
         case measure=>simp [intOf];omega
      ·have a1:decide (0<=f0)=false:=df__ g1;have HR1':Sd (Kd.R (Kd.int .i64) 3 W1 w.heap.size (fun _=>True) u3 (edge1 m ⟨f0,f1⟩)):=⟨by unfold edge1;rw [if_neg (fun q=>g1 q.1)];exact HR1.out⟩;clear HR1;have HR1:=HR1';clear HR1';by_cases h1: -1<=f1
       ·have d1:decide (-1<=f1)=true:=dt__ h1;by_cases h2:f1<1114111
        ·have d2:decide (f1<1114111)=true:=dt__ h2;have w4:IntKind.i64.wrap (f1+1)=f1+1:=IntWalk.i64_in _ (by omega);go_wp2_with fail;refine (ls_ _ _ _ _ HR1.out HB1.out.size (by omega)).mono ?_;rintro e W3 ⟨v3,rfl,r3,b3⟩;have HRf:Sd (Kd.R (Kd.int .i64) 3 W3 w.heap.size (fun _=>True) v3 (edge2 (edge1 m ⟨f0,f1⟩) ⟨f0,f1⟩)):=⟨by unfold edge2;rw [if_pos ⟨h1,h2⟩];exact r3⟩;have HB3:=Sd.m (HB1.out.trans (b3.mono HB1.out.size));have HBo3:=Sd.m (HBo.out.trans (b3.mono HBo.out.size));clear r3 b3 x0 x1;go_wp2_with fail;go_roundw
         case rel=>exact ⟨⟨j+1,hlj,.inr h4,by go_num,by rw [HT2.out];exact HRf.out,HB3.out⟩,HBo3.out⟩
         case measure=>simp [intOf];omega
        ·have d2:decide (f1<1114111)=false:=df__ h2;have HRf:Sd (Kd.R (Kd.int .i64) 3 W1 w.heap.size (fun _=>True) _ (edge2 (edge1 m ⟨f0,f1⟩) ⟨f0,f1⟩)):=⟨by unfold edge2;rw [if_neg (fun q=>h2 q.2)];exact HR1.out⟩;go_wp2_with fail;go_roundw
         case rel=>exact ⟨⟨j+1,hlj,.inr h4,by go_num,by rw [HT2.out];exact HRf.out,HB1.out⟩,HBo.out⟩
         case measure=>simp [intOf];omega
       ·have d1:decide (-1<=f1)=false:=df__ h1;have HRf:Sd (Kd.R (Kd.int .i64) 3 W1 w.heap.size (fun _=>True) _ (edge2 (edge1 m ⟨f0,f1⟩) ⟨f0,f1⟩)):=⟨by unfold edge2;rw [if_neg (fun q=>h1 q.1)];exact HR1.out⟩;go_wp2_with fail;go_roundw
        case rel=>exact ⟨⟨j+1,hlj,.inr h4,by go_num,by rw [HT2.out];exact HRf.out,HB1.out⟩,HBo.out⟩
        case measure=>simp [intOf];omega
     ·have e3:decide ((l.length:Int)<=400)=false:=df__ (by omega);have e4:decide (l.length<=400)=false:=df__ h4;obtain rfl:j=0:=hj4.resolve_right h4;have HF:Sd ((l.take 0).foldl (fun o r=>edge2 (edge1 o r) r) o=edgesF (sets.take (i+1))):=⟨by rw [HT.out];unfold edgeS;rw [if_neg h4];rfl⟩;go_wp2_with fail;go_roundw
      case rel=>exact ⟨i+1,hlt,by go_num,by rw [←HF.out];exact IR.out,IB.out⟩
      case measure=>simp [intOf];omega
    ·have e1:decide ((j:Int)<(l.length:Int))=false:=df__ (by omega);have e2:decide (j<l.length)=false:=df__ hlj;have HF:Sd ((l.take j).foldl (fun o r=>edge2 (edge1 o r) r) o=edgesF (sets.take (i+1))):=⟨by
      rw [HT.out];unfold edgeS;by_cases h4:l.length<=400
      ·rw [if_pos h4,List.take_of_length_le (by omega)]
      ·rw [if_neg h4];obtain rfl:j=0:=hj4.resolve_right h4;rfl⟩
     go_wp2_with fail;go_roundw
     case rel=>exact ⟨i+1,hlt,by go_num,by rw [←HF.out];exact IR.out,IB.out⟩
     case measure=>simp [intOf];omega
  ·have b1:decide ((i:Int)<(sets.length:Int))=false:=df__ (by omega);have b2:decide (i<sets.length)=false:=df__ hlt;have HF:Sd (edgesF (sets.take i)=edgesF sets):=⟨by rw [List.take_of_length_le (by omega)]⟩;go_wp2_with fail;go_ret;exact ⟨_,rfl,by rw [←HF.out];exact ORR.out,OB.out⟩
end L
end Go.Proofs.YthfceiincmkccaaGreat
