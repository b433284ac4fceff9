/- What law SignBooks reaches, part 6: words and walks over rows and regions. -/
import Derived.Test.YthfceiincmkccaaGreatUA
import Derived.Test.YthfceiincmkccaaGreatUE
import Derived.Test.YthfceiincmkccaaGreatProg
import Derived.Below
import Derived.Deep.Draws
import Derived.Deep.AppendLies
import Derived.Maps.AppendAt
import Derived.OwnWalk
import Derived.Laws.BytesArg
import Derived.Laws.MakeOwn
import Derived.Laws.OwnMore
import Derived.Deep.OwnRows
import Derived.Tactics
import Derived.Lib.ConvBytes
import Derived.Laws.Slices
import Derived.WalkKit
import Derived.KernelRfl
import Derived.RowKit3
import Derived.Deep.LoopGhost
import Derived.Deep.QuietTactic
import Derived.BigQuiet
import Derived.WideLaws
import Derived.Deep.DeepCutAuto
import Derived.Deep.CutBlock
import Derived.Deep.RegionHeld3
import Derived.Laws.Rows
import Derived.Lib.AppendStr
import Derived.ArgAppend
import Derived.Laws.IdiomCopy
import Derived.OrdersHeld
import Derived.Laws.BitsLemmas
import Derived.RowKit
import Derived.Test.YthfceiincmkccaaGreatUD
import Derived.Test.YthfceiincmkccaaGreatUB
set_option linter.unusedVariables false
set_option linter.unusedSimpArgs false
set_option maxHeartbeats 8000000
set_option maxRecDepth 100000
open Go.RowKit Go.Proofs.YthfceiincmkccaaGreatW.PrintWords Go.Proofs.YthfceiincmkccaaGreatW.PrintLast Go.Proofs.YthfceiincmkccaaGreatW.PrintMore
namespace Go.Proofs.YthfceiincmkccaaGreat
namespace P
open A K L
theorem fo_ {α:Type}: ∀ (xs L:List α),xs.Nodup->(∀ x∈xs,x∈L)->xs.length<=L.length
 | [],_,_,_=>Nat.zero_le _
 | x :: xs,L,hn,h=>by
  classical
  obtain ⟨h1,h2⟩:=List.nodup_cons.1 hn;have hx:=h x (List.mem_cons_self ..);have:=fo_ xs (L.erase x) h2 fun y hy=>(List.mem_erase_of_ne (fun e:y=x=>h1 (by rw [←e];exact hy))).2 (h y (List.mem_cons_of_mem _ hy));rw [List.length_erase,if_pos hx] at this;have:=List.length_pos_of_mem hx;rw [List.length_cons];omega
theorem ij_ {α:Type}{f:List (List S74)->α->List (List S74)}{S:α->List S74->Prop}: ∀ l:List α,(∀ a∈l,(∀ xs y,y∈f xs a↔y∈xs∨S a y)∧ ∀ xs,xs.Nodup->(f xs a).Nodup)->(∀ xs y,y∈l.foldl f xs↔y∈xs∨ ∃ a∈l,S a y)∧ ∀ xs,xs.Nodup->(l.foldl f xs).Nodup
 | [],_=>⟨fun xs y=>by simp,fun xs h=>h⟩
 | a :: l,h=>by
  obtain ⟨h1,h2⟩:=h a (List.mem_cons_self ..);obtain ⟨k1,k2⟩:=ij_ l fun b hb=>h b (List.mem_cons_of_mem _ hb);refine ⟨fun xs y=>?_,fun xs hx=>k2 _ (h2 xs hx)⟩;rw [List.foldl_cons,k1,h1];simp only [List.mem_cons,exists_eq_or_imp,or_assoc]
theorem adds_add (xs:List (List S74))(y z:List S74):z∈addF xs y↔z∈xs∨z=y:=by
 constructor
 ·exact add_mem
 ·rintro (h | rfl)
  ·exact add_keep h
  ·exact add_self xs z
theorem nd_add {xs:List (List S74)}(y:List S74)(h:xs.Nodup):(addF xs y).Nodup:=by
 unfold addF;by_cases hi:inF y xs=true
 ·rw [if_pos hi];exact h
 ·rw [if_neg hi,List.nodup_append];refine ⟨h,by simp,fun a ha b hb e=>hi ?_⟩;rw [List.mem_singleton] at hb;exact List.any_eq_true.2 ⟨a,ha,hi_.2 (e.trans hb)⟩
def inForm (p:S45)(y:List S74):Prop:=y∈formF p []
theorem gj_ (p:S45):(∀ xs y,y∈formF p xs↔y∈xs∨inForm p y)∧ ∀ xs,xs.Nodup->(formF p xs).Nodup:=by
 have key:=ij_ (f:=fun a q=>formF q a) (S:=inForm) p.f3 fun q hq=>gj_ q;have hm: ∀ xs y,y∈formF p xs↔y∈xs∨(p.f0=2∧y=p.f1)∨ ∃ q∈p.f3,inForm q y:=by
  intro xs y;rw [ek_,key.1];by_cases h:p.f0=2
  ·rw [if_pos h,adds_add];simp [h,or_assoc]
  ·rw [if_neg h];simp [h]
 refine ⟨fun xs y=>?_,fun xs hx=>?_⟩
 ·unfold inForm;rw [hm xs y,hm [] y];simp
 ·rw [ek_];refine key.2 _ ?_;split
  ·exact nd_add _ hx
  ·exact hx
termination_by SizeOf.sizeOf p
decreasing_by exact ku_ hq
def inRule (r:S55)(y:List S74):Prop:=inForm r.f2 y∨inForm r.f3 y
def inBook (b:S27)(y:List S74):Prop:= ∃ r∈b.f1,inRule r y
theorem book_adds (b:S27):(∀ xs y,y∈bookF xs b↔y∈xs∨inBook b y)∧ ∀ xs,xs.Nodup->(bookF xs b).Nodup:=by
 refine ij_ (f:=ruleF) (S:=inRule) b.f1 fun r _=>⟨fun xs y=>?_,fun xs hx=>(gj_ r.f3).2 _ ((gj_ r.f2).2 _ hx)⟩;unfold ruleF inRule;rw [(gj_ r.f3).1,(gj_ r.f2).1,or_assoc]
theorem is_ (l:List S27):(∀ y,y∈booksF l↔ ∃ b∈l,inBook b y)∧(booksF l).Nodup:=by
 have h:=ij_ (f:=bookF) (S:=inBook) l fun b _=>book_adds b;refine ⟨fun y=>?_,h.2 [] List.nodup_nil⟩;unfold booksF;rw [h.1];simp
theorem ik_ {sets:List (List S74)}{c d:Int}:sigF sets c=sigF sets d↔ ∀ s∈sets,hasB s c=hasB s d:=by
 unfold sigF;exact List.map_inj_left
theorem cls_more {s1 s2 L1 L2:List (List S74)}(h1:Cls s1 L1)(h2:Cls s2 L2)(hs: ∀ y∈s1,y∈s2):L1.length<=L2.length:=by
 have hn:(L1.map fun x=>clsF s2 (lowR x)).Nodup:=by
  rw [List.Nodup,List.pairwise_map];refine h1.up.imp_of_mem fun {a b} ha hb hab e=>?_;obtain ⟨m,m0,m1,ea,el,_,hle⟩:=h1.of a ha;obtain ⟨k,k0,k1,eb,ek,_,hke⟩:=h1.of b hb;rw [el,ek] at e hab;have sg:=cls_sig m0 m1 e;have sg1:sigF s1 m=sigF s1 k:=ik_.2 fun s q=>ik_.1 sg s (hs s q);have:=hke m m0 m1 sg1;omega
 have:=fo_ _ L2 hn fun y hy=>by
  obtain ⟨x,hx,rfl⟩:=List.mem_map.1 hy;obtain ⟨m,m0,m1,_,el,_⟩:=h1.of x hx;rw [el];exact h2.all m m0 m1
 rwa [List.length_map] at this
theorem few_short {sets:List (List S74)}(h:(sets.map List.length).sum<=399):longF (clsL sets)=false:=by
 have f:Few sets (edgesOf sets):=gm_ (by omega);have hs:=(gc_ f).short (edgesOf sets) f.at_ (by rw [fr_];omega);unfold longF;rw [List.any_eq_false];intro x hx;have:=hs x hx;simp;omega
theorem sum_short {sets:List (List S74)}(h:sumL sets<=400):longF sets=false:=by
 unfold longF;rw [List.any_eq_false];intro x hx;have:x.length<=sumL sets:=by
  unfold sumL
  induction sets with
  | nil=>cases hx
  | cons a l ih=>
   rw [List.map_cons,List.sum_cons];unfold sumL at h;rw [List.map_cons,List.sum_cons] at h;rcases List.mem_cons.1 hx with rfl | hx
   ·omega
   ·have:=ih (by unfold sumL;omega) hx;omega
 simp;omega
theorem rule_long (xs:List (List S74))(r:S55): ∀ x∈ruleF xs r,x∈xs∨x.length<=ruleM r:=by
 intro x hx;unfold ruleF at hx;unfold ruleM;rcases ka_ r.f3 _ x hx with h | h
 ·rcases ka_ r.f2 _ x h with h | h
  ·exact Or.inl h
  ·exact Or.inr (by omega)
 ·exact Or.inr (by omega)
theorem ii_ (b:S27): ∀ xs,∀ x∈bookF xs b,x∈xs∨x.length<=bookM b:=by
 unfold bookF bookM;generalize b.f1=l
 induction l with
 | nil=>exact fun xs x hx=>Or.inl hx
 | cons r l ih=>
  intro xs x hx;rw [List.foldl_cons] at hx;rw [List.map_cons,List.sum_cons];rcases ih _ x hx with h | h
  ·rcases rule_long xs r x h with h | h
   ·exact Or.inl h
   ·exact Or.inr (by omega)
  ·exact Or.inr (by omega)
theorem no_long {sets:List (List S74)}(h: ∀ x∈sets,x.length<=400):longF sets=false:=by
 unfold longF;rw [List.any_eq_false];intro x hx;have:=h x hx;simp;omega
structure Three (s1 s2 s3:List (List S74)):Prop where
 f1:Few s1 (edgesOf s1)
 f2:Few s2 (edgesOf s2)
 f3:Few s3 (edgesOf s3)
 bad:badB s1=true->badB s2=true
 same:badB s2=badB s3
 cls:clsL s2=clsL s3
 sub: ∀ y∈s1,y∈s2
theorem three (x y:S27)(hx:bookM x<=299)(hy:bookM y<=299):Three (booksF [x]) (booksF [x,y]) (booksF [y,x]):=by
 have a1:=is_ [x];have a2:=is_ [x,y];have a3:=is_ [y,x];have sub: ∀ z∈booksF [x],z∈booksF [x,y]:=by
  intro z hz;rw [a1.1] at hz;rw [a2.1];obtain ⟨b,hb,q⟩:=hz;exact ⟨b,by rw [List.mem_singleton.1 hb];simp,q⟩
 have same: ∀ z,z∈booksF [x,y]↔z∈booksF [y,x]:=by
  intro z;rw [a2.1,a3.1];simp [or_comm]
 have s1:sumL (booksF [x])<=299:=by have:=jc_ [] x;unfold sumL at this;simp at this;unfold sumL;show ((bookF [] x).map List.length).sum<=_;omega
 have s2:sumL (booksF [x,y])<=598:=by
  have h:=jc_ (bookF [] x) y;have:sumL (bookF [] x)<=299:=s1;show sumL (bookF (bookF [] x) y)<=_;omega
 have s3:sumL (booksF [y,x])<=598:=by
  have h:=jc_ (bookF [] y) x;have h2:=jc_ [] y;have e:sumL []=0:=rfl;show sumL (bookF (bookF [] y) x)<=_;omega
 have f1:Few (booksF [x]) (edgesOf (booksF [x])):=gm_ (by unfold sumL at s1;omega);have f2:Few (booksF [x,y]) (edgesOf (booksF [x,y])):=gm_ (by unfold sumL at s2;omega);have f3:Few (booksF [y,x]) (edgesOf (booksF [y,x])):=gm_ (by unfold sumL at s3;omega);have g1:longF (booksF [x])=false:=sum_short (by omega);have g2:longF (booksF [x,y])=false:=no_long fun z hz=>by
  rcases ii_ y (bookF [] x) z hz with h | h
  ·rcases ii_ x [] z h with h | h
   ·cases h
   ·omega
  ·omega
 have g3:longF (booksF [y,x])=false:=no_long fun z hz=>by
  rcases ii_ x (bookF [] y) z hz with h | h
  ·rcases ii_ y [] z h with h | h
   ·cases h
   ·omega
  ·omega
 have l12:(booksF [x]).length<=(booksF [x,y]).length:=fo_ _ _ a1.2 sub;have l23:(booksF [x,y]).length=(booksF [y,x]).length:=Nat.le_antisymm (fo_ _ _ a2.2 fun z=>(same z).1) (fo_ _ _ a3.2 fun z=>(same z).2);have cls:clsL (booksF [x,y])=clsL (booksF [y,x]):=cls_one (fun c d _ _ _ _=>by
  rw [ik_,ik_];exact ⟨fun h s hs=>h s ((same s).2 hs),fun h s hs=>h s ((same s).1 hs)⟩) (gc_ f2) (gc_ f3)
 have c12:=cls_more (gc_ f1) (gc_ f2) sub;have h1:longF (clsL (booksF [x]))=false:=few_short (by unfold sumL at s1;omega);refine ⟨f1,f2,f3,fun h=>?_,?_,cls,sub⟩
 ·unfold badB at h ⊢;rw [g1,h1,Bool.or_false,Bool.or_false,Bool.or_eq_true,decide_eq_true_eq,decide_eq_true_eq] at h;simp only [Bool.or_eq_true,decide_eq_true_eq];rcases h with h | h
  ·exact Or.inl (Or.inl (Or.inl (by omega)))
  ·exact Or.inl (Or.inr (by omega))
 ·unfold badB;rw [g2,g3,l23,cls]
theorem less_cls {s1 s2 L1 L2:List (List S74)}(h1:Cls s1 L1)(p1:Short L1)(h2:Cls s2 L2)(p2:Short L2)(hs: ∀ y∈s1,y∈s2){x:List S74}(hx:x∈L2): ∃ (k:Nat) (z:List S74),classF L1 (firstF x)=k∧L1[k]? =some z∧lessF x z=[]:=by
 obtain ⟨_,f0,f1,e⟩:=h2.first p2 hx;obtain ⟨k,hk,hg⟩:=class_at h1 p1 f0 f1;refine ⟨k,_,hk,hg,canon_nil fun c c0 c1=>?_⟩;have hz:=List.mem_of_getElem? hg;cases hb:hasB x c with
 | false=>rfl
 | true=>
  have m:=(h2.has p2 hx c).1 (by rw [mc_ c0 c1];exact hb);have sg:sigF s2 c=sigF s2 (firstF x):=(cls_sig c0 c1 (m.2.2.symm.trans e));have sg1:sigF s1 c=sigF s1 (firstF x):=ik_.2 fun s q=>ik_.1 sg s (hs s q);have hh:=(h1.has p1 hz c).2 ⟨c0,c1,by unfold clsF;rw [sg1]⟩;rw [mc_ c0 c1] at hh;rw [hh];rfl
theorem three_of {s1 s2 s3:List (List S74)}(t:Three s1 s2 s3): ∃ (T1:List (List S74)) (e1:Int) (T2:List (List S74)) (e2:Int) (T3:List (List S74)) (e3:Int),ex_.f s1=some (T1,e1)∧ex_.f s2=some (T2,e2)∧ex_.f s3=some (T3,e3)∧
  ((e2=9∧e3=9∧(e1=0∨e1=9))∨(e1=0∧e2=0∧e3=0∧T3=T2∧(∀ x∈T2,∃ (k:Nat) (z:List S74),classF T1 (firstF x)=k∧T1[k]? =some z∧lessF x z=[])∧T1.length<=T2.length∧rightAF T2=true∧T2.length<=200∧Short T2)):=by
 refine ⟨_,_,_,_,_,_,of_f t.f1,of_f t.f2,of_f t.f3,?_⟩;cases h2:badB s2 with
 | true=>
  have h3:badB s3=true:=by rw [←t.same];exact h2
  rw [h3];refine Or.inl ⟨rfl,rfl,?_⟩;cases badB s1
  ·exact Or.inl rfl
  ·exact Or.inr rfl
 | false=>
  have h3:badB s3=false:=by rw [←t.same];exact h2
  have h1:badB s1=false:=by
   cases h:badB s1 with
   | false=>rfl
   | true=>rw [t.bad h] at h2;cases h2
  rw [h1,h3];obtain ⟨a1,c1,p1,_⟩:=of_good t.f1 h1;obtain ⟨a2,c2,p2,n2⟩:=of_good t.f2 h2;exact Or.inr ⟨rfl,rfl,rfl,t.cls.symm,fun x hx=>less_cls c1 p1 c2 p2 t.sub hx,cls_more c1 c2 t.sub,cls_right a2 c2 p2 n2,n2,p2⟩
end P
namespace R
open A L B
attribute [local go_sem] ct_ cq_ dh_ dg_ ch_ cg_ cr_ cp_
def de_ (xs:List (List S74))(i:Int):(List S74):=xs.getD i.toNat ([]:List S74)
theorem ix_ {w:World}{A:Option Addr}{n:Nat}{xs:List (List S74)}(h:Kd.C (Kd.slice 74 k74) w A n xs)(i:Int)(h0:0<=i)(h1:i<n): ∃ ad A0 c0,A=some ad∧w.cell? (ad.add i.toNat)=some (.slice A0 (de_ xs i).length c0)∧(de_ xs i).length<=c0∧k74.C w A0 (de_ xs i).length (de_ xs i):=by
 obtain ⟨ad,c,e,_,hK,hc0⟩:=Kd.C_get h ([]:List S74) i h0 h1;have hc: ∀ j u,c[j]? =some u->w.cell? (ad.add (i.toNat*1+j))=some u:=hc0;obtain ⟨A0,c0,rfl,l0,g0⟩:=hK;exact ⟨ad,A0,c0,e,by have hq:=hc 0 _ rfl;rwa [Nat.mul_one,Nat.add_zero] at hq,l0,g0⟩
end R
namespace P
open A L B
theorem rd2 {L:List (List S74)}{i:Nat}{x:List S74}(h:L[i]? =some x):R.de_ L (i:Int)=x:=rd3 h
end P
namespace R
open A L B
attribute [local go_sem] ct_ cq_ dh_ dg_ ch_ cg_ cr_ cp_
def bf_.l0:Nat->List (List (S74))->Int->Int->Option (Int)
 | 0,_,_,_=>none
 | k+1,x0,x1,x5=>if x5<(x0.length:Int) then (if 0<=x5 then ((aq_.f k (de_ x0 x5) x1).bind fun t147=>(if t147=true then (some x5) else (bf_.l0 k x0 x1 (wrap64 (x5+1))))) else (none)) else (some (-1))
def bf_.f (k:Nat)(l0:List (List (S74)))(a1:Int):Option (Int):=bf_.l0 k l0 a1 0
theorem bf_.calls (k:Nat)(A0:Option Addr)(c0:Nat)(l0:List (List (S74)))(a1:Int)(r:Int)(w:World)(hr0:Kd.C (Kd.slice 74 k74) w A0 l0.length l0)(hc0:l0.length<=c0)(h:bf_.f k l0 a1=some r):
  Calls Tryz.prog 12 #[.slice A0 l0.length c0,.int .i64 a1] w fun e w'=>e=.returned (.int .i64 r)∧Drawn0 w w':=by
 have HR0:=Sd.m hr0;have HC0:=Sd.m hc0;clear hr0 hc0;have H:(bf_.l0 k l0 a1 0)=some r:=h;clear h;have H':=Sd.m H;clear H;go_enter Tryz.func12,Tryz.ntmps12;go_wp2
 go_loopg [5] k (fun kq v5 w'=> ∃ (x5_1:Int),v5=.int .i64 x5_1∧Sd (bf_.l0 kq l0 a1 x5_1=some r)∧Sd (kq<=k)∧Drawn0 w w')
 case atStart=>exact ⟨(0),ri_,H',⟨Nat.le_refl _⟩,dr_⟩
 case round=>
  clear H';obtain ⟨x5_1,rfl,HA,HK1,⟨m1,rfl⟩⟩:=hrel;cases gk with
  | zero=>exact absurd HA.out (by simp [bf_.l0])
  | succ k1=>
   have H:=HA.out;clear HA;simp only [bf_.l0] at H;by_cases c3:x5_1<(l0.length:Int)
   ·rw [if_pos c3] at H;have c3b0:=dt__ c3;clear c3;by_cases c4:0<=x5_1
    ·rw [if_pos c4] at H;have c4b0:=dt__ c4;clear c4;replace H:=Option.bind_eq_some_iff.mp H;obtain ⟨t147,A50,H⟩:=H;replace H:(if t147=true then (some x5_1) else (bf_.l0 k1 l0 a1 (wrap64 (x5_1+1))))=some r:=H;have A5:=Sd.m A50;clear A50;by_cases c6:t147=true
     ·subst c6;have H1:(some x5_1)=some r:=by rw [if_pos rfl] at H;exact H
      clear H;have H:=H1;clear H1;obtain rfl:=Option.some.inj H;have p146:0<=(x5_1:Int):=od_;have q146:x5_1<(l0.length:Int):=od_;obtain ⟨ad146,A146_0,c146_0,e146,hx146_0,hl146_0,hi146_0⟩:=ix_ HR0.out x5_1 p146 q146;cases e146;have HR146_0:=Sd.m hi146_0;have HC146_0:=Sd.m hl146_0;clear hi146_0 hl146_0;replace p146:=eq_true p146;replace q146:=eq_true q146;go_wp2_with (first | ((with_reducible refine bv_ (f:=44) rfl ?_);refine goesL_ (some 17) rfl rfl Tryz.func44 (by kernel_rfl) rfl #[.slice A146_0 (de_ l0 x5_1).length c146_0,.int .i64 a1] rfl gl_ ?_;(with_reducible refine (aq_.calls k1 _ _ (de_ l0 x5_1) a1 true _ ?side1 ?side2 A5.out).mono ?_);(case side1=>repeat (first | exact HR146_0.out | (with_reducible refine Kd.C_alloc ?_ _) | (with_reducible refine Kd.C_drewN ?_ _) | (with_reducible refine Kd.C_drew ?_)));(case side2=>exact HC146_0.out);rintro e w' ⟨rfl,⟨nd,rfl⟩⟩;refine ⟨_,rfl,?_⟩));go_ret;exact ⟨ri_,dr_⟩
     ·replace c6:=Bool.eq_false_iff.mpr c6;subst c6;have H1:(bf_.l0 k1 l0 a1 (wrap64 (x5_1+1)))=some r:=by rw [if_neg (show ¬ (false=true) by decide)] at H;exact H
      clear H;have H:=H1;clear H1;have H':=Sd.m H;clear H;have p146:0<=(x5_1:Int):=od_;have q146:x5_1<(l0.length:Int):=od_;obtain ⟨ad146,A146_0,c146_0,e146,hx146_0,hl146_0,hi146_0⟩:=ix_ HR0.out x5_1 p146 q146;cases e146;have HR146_0:=Sd.m hi146_0;have HC146_0:=Sd.m hl146_0;clear hi146_0 hl146_0;replace p146:=eq_true p146;replace q146:=eq_true q146;go_wp2_with (first | ((with_reducible refine bv_ (f:=44) rfl ?_);refine goesL_ (some 17) rfl rfl Tryz.func44 (by kernel_rfl) rfl #[.slice A146_0 (de_ l0 x5_1).length c146_0,.int .i64 a1] rfl gl_ ?_;(with_reducible refine (aq_.calls k1 _ _ (de_ l0 x5_1) a1 false _ ?side1 ?side2 A5.out).mono ?_);(case side1=>repeat (first | exact HR146_0.out | (with_reducible refine Kd.C_alloc ?_ _) | (with_reducible refine Kd.C_drewN ?_ _) | (with_reducible refine Kd.C_drew ?_)));(case side2=>exact HC146_0.out);rintro e w' ⟨rfl,⟨nd,rfl⟩⟩;refine ⟨_,rfl,?_⟩))
      go_roundg k1
      case measure=>have:=HK1.out;omega
      case rel=>exact ⟨(wrap64 (x5_1+1)),ri_,H',⟨by have:=HK1.out;omega⟩,dr_⟩
    ·rw [if_neg c4] at H;exact absurd H (by simp)
   ·rw [if_neg c3] at H;have c3b0:=df__ c3;clear c3;obtain rfl:=Option.some.inj H;go_wp2;go_ret;exact ⟨ri_,dr_⟩
mutual
def ae_.j0:Nat->List (List (S74))->Bool->Option (Bool)
 | 0,_,_=>none
 | k+1,x0,x15=>if x15=true then (some false) else (ae_.l0 k x0 0 (-1) 0)
def ae_.l0:Nat->List (List (S74))->Int->Int->Int->Option (Bool)
 | 0,_,_,_,_=>none
 | k+1,x0,x3,x4,x5=>if x5<(x0.length:Int) then (if 0<=x5 then ((cu_.f (de_ x0 x5)).bind fun t162=>((ck_.f k (de_ x0 x5)).bind fun t164=>(if t164=true then (ae_.j2 k x0 x3 x5 t162 (decide (t162<=x4))) else (ae_.j2 k x0 x3 x5 t162 true)))) else (none)) else (some (x3 == 1114112))
def ae_.j2:Nat->List (List (S74))->Int->Int->Int->Bool->Option (Bool)
 | 0,_,_,_,_,_=>none
 | k+1,x0,x3,x5,x6,x37=>if x37=true then (some false) else (if 0<=x5 then (if x5<(x0.length:Int) then ((bh_.f k (de_ x0 x5)).bind fun t166=>(ae_.l1 k x0 (wrap64 (x3+t166)) x6 x5 0)) else (none)) else (none))
def ae_.l1:Nat->List (List (S74))->Int->Int->Int->Int->Option (Bool)
 | 0,_,_,_,_,_=>none
 | k+1,x0,x3,x4,x5,x7=>if x7<x5 then (if 0<=x5 then (if x5<(x0.length:Int) then (if 0<=x7 then (if x7<(x0.length:Int) then ((dj_.f (de_ x0 x5) (de_ x0 x7)).bind fun t169=>(if (t169.length:Int)>0 then (some false) else (ae_.l1 k x0 x3 x4 x5 (wrap64 (x7+1))))) else (none)) else (none)) else (none)) else (none)) else (ae_.l0 k x0 x3 x4 (wrap64 (x5+1)))
end
def ae_.f (k:Nat)(l0:List (List (S74))):Option (Bool):=if (l0.length:Int)<1 then (ae_.j0 k l0 true) else (ae_.j0 k l0 (decide ((l0.length:Int)>200)))
def ae_.T14:Bool × List (List Nat × List Nat):=(true,[([],[]),([],[]),([0,1],[0,1]),([2],[2]),([],[]),([],[]),([4,5],[4,5]),([6],[6]),([3,7],[3,7]),([8],[8]),([9],[9])])
def ae_.B14:List Nat:=[0,0,3,7,0,0,48,112,255,511,1023]
theorem ae_.tab14:rtab .any (opsOf Tryz.f16 14)=ae_.T14:=by kernel_rfl
theorem ae_.bits14:waitsOk ae_.T14.2 ae_.B14=true:=by kernel_rfl
theorem ae_.calls (k:Nat)(A0:Option Addr)(c0:Nat)(l0:List (List (S74)))(r:Bool)(w:World)(hr0:Kd.C (Kd.slice 74 k74) w A0 l0.length l0)(hc0:l0.length<=c0)(h:ae_.f k l0=some r):
  Calls Tryz.prog 16 #[.slice A0 l0.length c0] w fun e w'=>e=.returned (.bool r)∧Below w.heap.size w w':=by
 have HR0:=Sd.m hr0;have HC0:=Sd.m hc0;clear hr0 hc0;have HB:=Sd.m (Below.refl w.heap.size w);have H:(if (l0.length:Int)<1 then (ae_.j0 k l0 true) else (ae_.j0 k l0 (decide ((l0.length:Int)>200))))=some r:=h;clear h;have HC2:=Sd.m H;clear H;go_enter Tryz.func16,Tryz.ntmps16;go_upto_region 1 with (fail);go_cut [15] (fun v15 wc=> ∃ (kq:Nat) (x15_1:Bool),v15=.bool x15_1∧Sd (ae_.j0 kq l0 x15_1=some r)∧Sd (kq<=k)∧Sd (Below w.heap.size w wc))
 case first=>
  have H:=HC2.out;clear HC2;by_cases c3:(l0.length:Int)<1
  ·rw [if_pos c3] at H;have c3b0:=dt__ c3;have c3b1:decide (l0.length<1)=true:=dt__ (by omega);clear c3
   (first | rw [c3b0] | (simp only [cz_,db_];rw [c3b0]) | skip)
   have H':=Sd.m H;clear H;go_wp2;go_meet
   case rel=>exact ⟨_,(true),ri_,H',⟨by first | omega | exact Nat.le_refl _⟩,⟨rb_⟩⟩
  ·rw [if_neg c3] at H;have c3b0:=df__ c3;have c3b1:decide (l0.length<1)=false:=df__ (by omega);clear c3
   (first | rw [c3b0] | (simp only [cz_,db_];rw [c3b0]) | skip)
   have H':=Sd.m H;clear H;go_wp2;go_meet
   case rel=>exact ⟨_,(decide ((l0.length:Int)>200)),ri_,H',⟨by first | omega | exact Nat.le_refl _⟩,⟨rb_⟩⟩
 case rest=>
  clear HC2;obtain ⟨kq,x15_1,rfl,HA,HJ1,HB⟩:=hcut;cases kq with
  | zero=>exact absurd HA.out (by simp [ae_.j0])
  | succ kj1=>
   have H:=HA.out;clear HA;simp only [ae_.j0] at H;by_cases c4:x15_1=true
   ·subst c4;have H1:(some false)=some r:=by rw [if_pos rfl] at H;exact H
    clear H;have H:=H1;clear H1;obtain rfl:=Option.some.inj H;go_wp2;go_ret;exact ⟨re_,rb_⟩
   ·replace c4:=Bool.eq_false_iff.mpr c4;subst c4;have H1:(ae_.l0 kj1 l0 0 (-1) 0)=some r:=by rw [if_neg (show ¬ (false=true) by decide)] at H;exact H
    clear H;have H:=H1;clear H1;have H':=Sd.m H;clear H;go_wp2
    go_loopg [3,4,5] kj1 (fun kq v3 v4 v5 w'=> ∃ (x3_2:Int) (x4_2:Int) (x5_2:Int),v3=.int .i64 x3_2∧v4=.int .i64 x4_2∧v5=.int .i64 x5_2∧Sd (ae_.l0 kq l0 x3_2 x4_2 x5_2=some r)∧Sd (kq<=kj1)∧Sd (Below w.heap.size w w'))
    case atStart=>exact ⟨(0),((-1)),(0),ri_,ri_,ri_,H',⟨Nat.le_refl _⟩,⟨rb_⟩⟩
    case round=>
     clear H';obtain ⟨x3_2,x4_2,x5_2,rfl,rfl,rfl,HA,HK2,HB⟩:=hrel;cases gk with
     | zero=>exact absurd HA.out (by simp [ae_.l0])
     | succ k2=>
      have H:=HA.out;clear HA;simp only [ae_.l0] at H;by_cases c5:x5_2<(l0.length:Int)
      ·rw [if_pos c5] at H;have c5b0:=dt__ c5;clear c5;by_cases c6:0<=x5_2
       ·rw [if_pos c6] at H;have c6b0:=dt__ c6;clear c6;replace H:=Option.bind_eq_some_iff.mp H;obtain ⟨t162,A70,H⟩:=H;replace H:((ck_.f k2 (de_ l0 x5_2)).bind fun t164=>(if t164=true then (ae_.j2 k2 l0 x3_2 x5_2 t162 (decide (t162<=x4_2))) else (ae_.j2 k2 l0 x3_2 x5_2 t162 true)))=some r:=H;have A7:=Sd.m A70;clear A70;have HC8:=Sd.m H;clear H;have p161:0<=(x5_2:Int):=od_;have q161:x5_2<(l0.length:Int):=od_;obtain ⟨ad161,A161_0,c161_0,e161,hx161_0,hl161_0,hi161_0⟩:=ix_ HR0.out x5_2 p161 q161;cases e161;replace hx161_0:=(HB.out.cell (bl__ w _ hx161_0)).trans hx161_0;have HR161_0:=Sd.m hi161_0;have HC161_0:=Sd.m hl161_0;clear hi161_0 hl161_0;replace p161:=eq_true p161;replace q161:=eq_true q161;go_upto_region 8 with (first | ((with_reducible refine bv_ (f:=13) rfl ?_);refine goesL_ (some 26) rfl rfl Tryz.func13 (by kernel_rfl) rfl #[.slice A161_0 (de_ l0 x5_2).length c161_0] rfl gl_ ?_;(with_reducible refine (cu_.calls _ _ (de_ l0 x5_2) t162 _ ?side1 ?side2 A7.out).mono ?_);(case side1=>exact cs_ (Kd.C_below HR161_0.out HB.out));(case side2=>exact HC161_0.out);rintro e w9 ⟨rfl,hb⟩;refine ⟨_,rfl,?_⟩;have n0_:=Sd.m (av_ rb_ hb);clear HB;have HB:=n0_;clear n0_;(try clear hb);(try clear hb2);(try clear hk);(try clear hi)))
        (try simp only [Act.put,List.setIfInBounds_toArray,List.set_cons_zero,List.set_cons_succ])
        go_cut [37] (fun v37 wc=> ∃ (kq:Nat) (x37_7:Bool),v37=.bool x37_7∧Sd (ae_.j2 kq l0 x3_2 x5_2 t162 x37_7=some r)∧Sd (kq<=k2)∧Sd (Below w.heap.size w wc))
        case first=>
         have H:=HC8.out;clear HC8;replace H:=Option.bind_eq_some_iff.mp H;obtain ⟨t164,A100,H⟩:=H;replace H:(if t164=true then (ae_.j2 k2 l0 x3_2 x5_2 t162 (decide (t162<=x4_2))) else (ae_.j2 k2 l0 x3_2 x5_2 t162 true))=some r:=H;have A10:=Sd.m A100;clear A100;by_cases c11:t164=true
         ·subst c11;have H1:(ae_.j2 k2 l0 x3_2 x5_2 t162 (decide (t162<=x4_2)))=some r:=by rw [if_pos rfl] at H;exact H
          clear H;have H:=H1;clear H1;have H':=Sd.m H;clear H;have p163:0<=(x5_2:Int):=od_;have q163:x5_2<(l0.length:Int):=od_;obtain ⟨ad163,A163_0,c163_0,e163,hx163_0,hl163_0,hi163_0⟩:=ix_ HR0.out x5_2 p163 q163;obtain rfl:ad161=ad163:=(by injection e163);replace hx163_0:=(HB.out.cell (bl__ w _ hx163_0)).trans hx163_0;have HR163_0:=Sd.m hi163_0;have HC163_0:=Sd.m hl163_0;clear hi163_0 hl163_0;replace p163:=eq_true p163;replace q163:=eq_true q163;go_wp2_with (first | ((with_reducible refine bv_ (f:=48) rfl ?_);refine goesL_ (some 31) rfl rfl Tryz.func48 (by kernel_rfl) rfl #[.slice A163_0 (de_ l0 x5_2).length c163_0] rfl gl_ ?_;(with_reducible refine (ck_.calls k2 _ _ (de_ l0 x5_2) true _ ?side1 ?side2 A10.out).mono ?_);(case side1=>exact cs_ (Kd.C_below HR163_0.out HB.out));(case side2=>exact HC163_0.out);rintro e w12 ⟨rfl,hb⟩;refine ⟨_,rfl,?_⟩;have n0_:=Sd.m (av_ rb_ hb);clear HB;have HB:=n0_;clear n0_;(try clear hb);(try clear hb2);(try clear hk);(try clear hi)));go_meet
          case rel=>exact ⟨_,(decide (t162<=x4_2)),ri_,H',⟨by have:=HJ1.out;have:=HK2.out;first | omega | exact Nat.le_refl _⟩,⟨rb_⟩⟩
         ·replace c11:=Bool.eq_false_iff.mpr c11;subst c11;have H1:(ae_.j2 k2 l0 x3_2 x5_2 t162 true)=some r:=by rw [if_neg (show ¬ (false=true) by decide)] at H;exact H
          clear H;have H:=H1;clear H1;have H':=Sd.m H;clear H;have p163:0<=(x5_2:Int):=od_;have q163:x5_2<(l0.length:Int):=od_;obtain ⟨ad163,A163_0,c163_0,e163,hx163_0,hl163_0,hi163_0⟩:=ix_ HR0.out x5_2 p163 q163;obtain rfl:ad161=ad163:=(by injection e163);replace hx163_0:=(HB.out.cell (bl__ w _ hx163_0)).trans hx163_0;have HR163_0:=Sd.m hi163_0;have HC163_0:=Sd.m hl163_0;clear hi163_0 hl163_0;replace p163:=eq_true p163;replace q163:=eq_true q163;go_wp2_with (first | ((with_reducible refine bv_ (f:=48) rfl ?_);refine goesL_ (some 31) rfl rfl Tryz.func48 (by kernel_rfl) rfl #[.slice A163_0 (de_ l0 x5_2).length c163_0] rfl gl_ ?_;(with_reducible refine (ck_.calls k2 _ _ (de_ l0 x5_2) false _ ?side1 ?side2 A10.out).mono ?_);(case side1=>exact cs_ (Kd.C_below HR163_0.out HB.out));(case side2=>exact HC163_0.out);rintro e w13 ⟨rfl,hb⟩;refine ⟨_,rfl,?_⟩;have n0_:=Sd.m (av_ rb_ hb);clear HB;have HB:=n0_;clear n0_;(try clear hb);(try clear hb2);(try clear hk);(try clear hi)));go_meet
          case rel=>exact ⟨_,(true),ri_,H',⟨by have:=HJ1.out;have:=HK2.out;first | omega | exact Nat.le_refl _⟩,⟨rb_⟩⟩
        case rest=>
         clear HC8;obtain ⟨kq,x37_7,rfl,HA,HJ7,HB⟩:=hcut;cases kq with
         | zero=>exact absurd HA.out (by simp [ae_.j2])
         | succ kj7=>
          have H:=HA.out;clear HA;simp only [ae_.j2] at H;by_cases c14:x37_7=true
          ·subst c14;have H1:(some false)=some r:=by rw [if_pos rfl] at H;exact H
           clear H;have H:=H1;clear H1;obtain rfl:=Option.some.inj H;go_wp2;go_ret;exact ⟨re_,rb_⟩
          ·replace c14:=Bool.eq_false_iff.mpr c14;subst c14;have H1:(if 0<=x5_2 then (if x5_2<(l0.length:Int) then ((bh_.f kj7 (de_ l0 x5_2)).bind fun t166=>(ae_.l1 kj7 l0 (wrap64 (x3_2+t166)) t162 x5_2 0)) else (none)) else (none))=some r:=by rw [if_neg (show ¬ (false=true) by decide)] at H;exact H
           clear H;have H:=H1;clear H1;by_cases c15:0<=x5_2
           ·rw [if_pos c15] at H;have c15b0:=dt__ c15;clear c15;by_cases c16:x5_2<(l0.length:Int)
            ·rw [if_pos c16] at H;have c16b0:=dt__ c16;clear c16;replace H:=Option.bind_eq_some_iff.mp H;obtain ⟨t166,A170,H⟩:=H;replace H:(ae_.l1 kj7 l0 (wrap64 (x3_2+t166)) t162 x5_2 0)=some r:=H;have A17:=Sd.m A170;clear A170;have H':=Sd.m H;clear H;have p165:0<=(x5_2:Int):=od_;have q165:x5_2<(l0.length:Int):=od_;obtain ⟨ad165,A165_0,c165_0,e165,hx165_0,hl165_0,hi165_0⟩:=ix_ HR0.out x5_2 p165 q165;obtain rfl:ad161=ad165:=(by injection e165);replace hx165_0:=(HB.out.cell (bl__ w _ hx165_0)).trans hx165_0;have HR165_0:=Sd.m hi165_0;have HC165_0:=Sd.m hl165_0;clear hi165_0 hl165_0;replace p165:=eq_true p165;replace q165:=eq_true q165;go_wp2_with (first | ((with_reducible refine bv_ (f:=49) rfl ?_);refine goesL_ (some 43) rfl rfl Tryz.func49 (by kernel_rfl) rfl #[.slice A165_0 (de_ l0 x5_2).length c165_0] rfl gl_ ?_;(with_reducible refine (bh_.calls kj7 _ _ (de_ l0 x5_2) t166 _ ?side1 ?side2 A17.out).mono ?_);(case side1=>exact cs_ (Kd.C_below HR165_0.out HB.out));(case side2=>exact HC165_0.out);rintro e w18 ⟨rfl,hb⟩;refine ⟨_,rfl,?_⟩;have n0_:=Sd.m (av_ rb_ hb);clear HB;have HB:=n0_;clear n0_;(try clear hb);(try clear hb2);(try clear hk);(try clear hi)))
             go_loopg [7] kj7 (fun kq v7 w'=> ∃ (x7_4:Int),v7=.int .i64 x7_4∧Sd (ae_.l1 kq l0 (wrap64 (x3_2+t166)) t162 x5_2 x7_4=some r)∧Sd (kq<=kj7)∧Sd (Below w.heap.size w w'))
             case atStart=>exact ⟨(0),ri_,H',⟨Nat.le_refl _⟩,⟨rb_⟩⟩
             case round=>
              clear H';obtain ⟨x7_4,rfl,HA,HK4,HB⟩:=hrel;cases gk with
              | zero=>exact absurd HA.out (by simp [ae_.l1])
              | succ k4=>
               have H:=HA.out;clear HA;simp only [ae_.l1] at H;by_cases c19:x7_4<x5_2
               ·rw [if_pos c19] at H;have c19b0:=dt__ c19;clear c19;by_cases c20:0<=x5_2
                ·rw [if_pos c20] at H;have c20b0:=dt__ c20;clear c20;by_cases c21:x5_2<(l0.length:Int)
                 ·rw [if_pos c21] at H;have c21b0:=dt__ c21;clear c21;by_cases c22:0<=x7_4
                  ·rw [if_pos c22] at H;have c22b0:=dt__ c22;clear c22;by_cases c23:x7_4<(l0.length:Int)
                   ·rw [if_pos c23] at H;have c23b0:=dt__ c23;clear c23;replace H:=Option.bind_eq_some_iff.mp H;obtain ⟨t169,A240,H⟩:=H;replace H:(if (t169.length:Int)>0 then (some false) else (ae_.l1 k4 l0 (wrap64 (x3_2+t166)) t162 x5_2 (wrap64 (x7_4+1))))=some r:=H;have A24:=Sd.m A240;clear A240;by_cases c25:(t169.length:Int)>0
                    ·rw [if_pos c25] at H;have c25b0:=dt__ c25;have c25b1:decide (0<t169.length)=true:=dt__ (by omega);clear c25;obtain rfl:=Option.some.inj H
                     try go_wp2
                     have n0_:=Sd.m (au_ HB.out);clear HB;have HB:=n0_;clear n0_;have p167:0<=(x5_2:Int):=od_;have q167:x5_2<(l0.length:Int):=od_;obtain ⟨ad167,A167_0,c167_0,e167,hx167_0,hl167_0,hi167_0⟩:=ix_ HR0.out x5_2 p167 q167;have hw167_0:=hx167_0;obtain rfl:ad161=ad167:=(by injection e167);replace hx167_0:=(HB.out.cell (bl__ w _ hx167_0)).trans hx167_0;have HR167_0:=Sd.m hi167_0;have HC167_0:=Sd.m hl167_0;clear hi167_0 hl167_0;replace p167:=eq_true p167;replace q167:=eq_true q167;have p168:0<=(x7_4:Int):=od_;have q168:x7_4<(l0.length:Int):=od_;obtain ⟨ad168,A168_0,c168_0,e168,hx168_0,hl168_0,hi168_0⟩:=ix_ HR0.out x7_4 p168 q168;have hw168_0:=hx168_0;obtain rfl:ad161=ad168:=(by injection e168);replace hx168_0:=(HB.out.cell (bl__ w _ hx168_0)).trans hx168_0;have HR168_0:=Sd.m hi168_0;have HC168_0:=Sd.m hl168_0;clear hi168_0 hl168_0;replace p168:=eq_true p168;replace q168:=eq_true q168;refine start_ (n:=11) (S:=fun w'=>w'.cell? (ad161.add (x5_2).toNat)=some (.slice A167_0 (de_ l0 x5_2).length c167_0)∧w'.cell? (ad161.add (x7_4).toNat)=some (.slice A168_0 (de_ l0 x7_4).length c168_0)) (ds:=[]) #[false,false,false,false,false,false,false,false,false,false,false] (by kernel_rfl) rfl rfl ⟨((HB.out.cell (bl__ w _ hw167_0)).trans hw167_0),((HB.out.cell (bl__ w _ hw168_0)).trans hw168_0)⟩ (fun hHeld=>?_);refine with_tabW ae_.tab14 ae_.bits14 (fun HT_ HW_=>?_);generalize wr.drew=w26 at HB HR167_0 HR168_0 hx167_0 hx168_0 hHeld ⊢;refine pure_ (i:=0) (N:=some 51) (v:=?_) (a':=?_) #[true,false,false,false,false,false,false,false,false,false,false] rfl rfl (ey_ HT_.out (by kernel_rfl)) (fun _ _ _ h=>h) (Or.inl ⟨by rfl,?_⟩) ?_ ?_;rotate_left
                     ·intro w';go_simp;with_reducible rfl
                     rotate_left
                     ·simp only [Act.put,List.setIfInBounds_toArray,List.set_cons_zero,List.set_cons_succ,cz_,db_];rfl
                     refine pure_ (i:=1) (N:=some 52) (v:=?_) (a':=?_) #[true,true,false,false,false,false,false,false,false,false,false] rfl rfl (ey_ HT_.out (by kernel_rfl)) (fun _ _ _ h=>h) (Or.inl ⟨by rfl,?_⟩) ?_ ?_;rotate_left
                     ·intro w';go_simp;with_reducible rfl
                     rotate_left
                     ·simp only [Act.put,List.setIfInBounds_toArray,List.set_cons_zero,List.set_cons_succ,cz_,db_];rfl
                     refine pure_ (i:=2) (N:=some 53) (v:=?_) (a':=?_) #[true,true,true,false,false,false,false,false,false,false,false] rfl rfl (ey_ HT_.out (by kernel_rfl)) (fun _ _ _ h=>h) (Or.inl ⟨by rfl,?_⟩) ?_ ?_;rotate_left
                     ·intro w';go_simp;with_reducible rfl
                     rotate_left
                     ·simp only [Act.put,List.setIfInBounds_toArray,List.set_cons_zero,List.set_cons_succ,cz_,db_];rfl
                     refine pure_ (i:=4) (N:=some 55) (v:=?_) (a':=?_) #[true,true,true,false,true,false,false,false,false,false,false] rfl rfl (ey_ HT_.out (by kernel_rfl)) (fun _ _ _ h=>h) (Or.inl ⟨by rfl,?_⟩) ?_ ?_;rotate_left
                     ·intro w';go_simp;with_reducible rfl
                     rotate_left
                     ·simp only [Act.put,List.setIfInBounds_toArray,List.set_cons_zero,List.set_cons_succ,cz_,db_];rfl
                     refine pure_ (i:=5) (N:=some 56) (v:=?_) (a':=?_) #[true,true,true,false,true,true,false,false,false,false,false] rfl rfl (ey_ HT_.out (by kernel_rfl)) (fun _ _ _ h=>h) (Or.inl ⟨by rfl,?_⟩) ?_ ?_;rotate_left
                     ·intro w';go_simp;with_reducible rfl
                     rotate_left
                     ·simp only [Act.put,List.setIfInBounds_toArray,List.set_cons_zero,List.set_cons_succ,cz_,db_];rfl
                     refine pure_ (i:=6) (N:=some 57) (v:=?_) (a':=?_) #[true,true,true,false,true,true,true,false,false,false,false] rfl rfl (ey_ HT_.out (by kernel_rfl)) (fun _ _ _ h=>h) (Or.inl ⟨by rfl,?_⟩) ?_ ?_;rotate_left
                     ·intro w';go_simp;with_reducible rfl
                     rotate_left
                     ·simp only [Act.put,List.setIfInBounds_toArray,List.set_cons_zero,List.set_cons_succ,cz_,db_];rfl
                     refine take_ (i:=3) (N:=some 54) (v:=?_) (a':=?_) #[true,true,true,true,true,true,true,false,false,false,false] rfl rfl (iz_ HT_.out HW_.out (by kernel_rfl)) (fun _ _ _ h=>h) (Or.inl ⟨by rfl,?_⟩) hHeld ?_ ?_;rotate_left
                     ·rintro w' ⟨s0,s1⟩;go_simp;with_reducible rfl
                     rotate_left
                     ·simp only [Act.put,List.setIfInBounds_toArray,List.set_cons_zero,List.set_cons_succ,cz_,db_];rfl
                     refine take_ (i:=7) (N:=some 58) (v:=?_) (a':=?_) #[true,true,true,true,true,true,true,true,false,false,false] rfl rfl (iz_ HT_.out HW_.out (by kernel_rfl)) (fun _ _ _ h=>h) (Or.inl ⟨by rfl,?_⟩) hHeld ?_ ?_;rotate_left
                     ·rintro w' ⟨s0,s1⟩;go_simp;with_reducible rfl
                     rotate_left
                     ·simp only [Act.put,List.setIfInBounds_toArray,List.set_cons_zero,List.set_cons_succ,cz_,db_];rfl
                     refine one_ (i:=8) (N:=some 59) #[true,true,true,true,true,true,true,true,true,false,false] rfl rfl (one_of HT_.out (by kernel_rfl)) (by decide) (fun K hK=>?_);refine goes_ Tryz.func50 (by kernel_rfl) rfl #[.slice A167_0 (de_ l0 x5_2).length c167_0,.slice A168_0 (de_ l0 x7_4).length c168_0] (by rfl) rfl rfl gl_ ?_;with_reducible refine (dj_.calls _ _ (de_ l0 x5_2) _ _ (de_ l0 x7_4) t169 _ ?side1 ?side2 ?side3 ?side4 A24.out).mono ?_
                     (case side1=>exact cs_ (Kd.C_below HR167_0.out HB.out))
                     (case side2=>exact HC167_0.out)
                     (case side3=>exact cs_ (Kd.C_below HR168_0.out HB.out))
                     (case side4=>exact HC168_0.out)
                     rintro e w27 ⟨v170,rfl,ho0,hb⟩;refine ⟨_,rfl,?_⟩;have n0_:=Sd.m (Kd.R_lower ho0 (ap_ rb_));have n1_:=Sd.m (av_ rb_ hb);clear HB;have HO171:=n0_;have HB:=n1_;clear n0_ n1_
                     (try clear hb)
                     (try clear hb2)
                     (try clear hk)
                     (try clear hi)
                     (try clear ho0)
                     obtain ⟨Ao28,co28,eo28⟩:=Kd.R_slice HO171.out
                     (first | subst eo28 | (injection eo28 with f1_ f2_ f3_;have f4_:=f1_.symm;have f5_:=f3_.symm;clear f1_ f2_ f3_;subst f4_;subst f5_))
                     refine hK.out _ _ ⟨((HB.out.cell (bl__ w _ hw167_0)).trans hw167_0),((HB.out.cell (bl__ w _ hw168_0)).trans hw168_0)⟩ (fun hHeld=>?_);clear hK K;refine no_ 59 ?_;refine pure_ (i:=9) (N:=some 60) (v:=?_) (a':=?_) #[true,true,true,true,true,true,true,true,true,true,false] rfl rfl (ey_ HT_.out (by kernel_rfl)) (fun _ _ _ h=>h) (Or.inl ⟨by rfl,?_⟩) ?_ ?_;rotate_left
                     ·intro w';go_simp;with_reducible rfl
                     rotate_left
                     ·simp only [Act.put,List.setIfInBounds_toArray,List.set_cons_zero,List.set_cons_succ,cz_,db_];rfl
                     refine pure_ (i:=10) (N:=some 61) (v:=?_) (a':=?_) #[true,true,true,true,true,true,true,true,true,true,true] rfl rfl (ey_ HT_.out (by kernel_rfl)) (fun _ _ _ h=>h) (Or.inl ⟨by rfl,?_⟩) ?_ ?_;rotate_left
                     ·intro w';go_simp;with_reducible rfl
                     rotate_left
                     ·simp only [Act.put,List.setIfInBounds_toArray,List.set_cons_zero,List.set_cons_succ,cz_,db_];rfl
                     refine done_ (done_of HT_.out (by kernel_rfl)) ?_
                     try go_wp2
                     go_ret;exact ⟨re_,rb_⟩
                    ·rw [if_neg c25] at H;have c25b0:=df__ c25;have c25b1:decide (0<t169.length)=false:=df__ (by omega);clear c25;have H':=Sd.m H;clear H
                     try go_wp2
                     have n0_:=Sd.m (au_ HB.out);clear HB;have HB:=n0_;clear n0_;have p167:0<=(x5_2:Int):=od_;have q167:x5_2<(l0.length:Int):=od_;obtain ⟨ad167,A167_0,c167_0,e167,hx167_0,hl167_0,hi167_0⟩:=ix_ HR0.out x5_2 p167 q167;have hw167_0:=hx167_0;obtain rfl:ad161=ad167:=(by injection e167);replace hx167_0:=(HB.out.cell (bl__ w _ hx167_0)).trans hx167_0;have HR167_0:=Sd.m hi167_0;have HC167_0:=Sd.m hl167_0;clear hi167_0 hl167_0;replace p167:=eq_true p167;replace q167:=eq_true q167;have p168:0<=(x7_4:Int):=od_;have q168:x7_4<(l0.length:Int):=od_;obtain ⟨ad168,A168_0,c168_0,e168,hx168_0,hl168_0,hi168_0⟩:=ix_ HR0.out x7_4 p168 q168;have hw168_0:=hx168_0;obtain rfl:ad161=ad168:=(by injection e168);replace hx168_0:=(HB.out.cell (bl__ w _ hx168_0)).trans hx168_0;have HR168_0:=Sd.m hi168_0;have HC168_0:=Sd.m hl168_0;clear hi168_0 hl168_0;replace p168:=eq_true p168;replace q168:=eq_true q168;refine start_ (n:=11) (S:=fun w'=>w'.cell? (ad161.add (x5_2).toNat)=some (.slice A167_0 (de_ l0 x5_2).length c167_0)∧w'.cell? (ad161.add (x7_4).toNat)=some (.slice A168_0 (de_ l0 x7_4).length c168_0)) (ds:=[]) #[false,false,false,false,false,false,false,false,false,false,false] (by kernel_rfl) rfl rfl ⟨((HB.out.cell (bl__ w _ hw167_0)).trans hw167_0),((HB.out.cell (bl__ w _ hw168_0)).trans hw168_0)⟩ (fun hHeld=>?_);refine with_tabW ae_.tab14 ae_.bits14 (fun HT_ HW_=>?_);generalize wr.drew=w29 at HB HR167_0 HR168_0 hx167_0 hx168_0 hHeld ⊢;refine pure_ (i:=0) (N:=some 51) (v:=?_) (a':=?_) #[true,false,false,false,false,false,false,false,false,false,false] rfl rfl (ey_ HT_.out (by kernel_rfl)) (fun _ _ _ h=>h) (Or.inl ⟨by rfl,?_⟩) ?_ ?_;rotate_left
                     ·intro w';go_simp;with_reducible rfl
                     rotate_left
                     ·simp only [Act.put,List.setIfInBounds_toArray,List.set_cons_zero,List.set_cons_succ,cz_,db_];rfl
                     refine pure_ (i:=1) (N:=some 52) (v:=?_) (a':=?_) #[true,true,false,false,false,false,false,false,false,false,false] rfl rfl (ey_ HT_.out (by kernel_rfl)) (fun _ _ _ h=>h) (Or.inl ⟨by rfl,?_⟩) ?_ ?_;rotate_left
                     ·intro w';go_simp;with_reducible rfl
                     rotate_left
                     ·simp only [Act.put,List.setIfInBounds_toArray,List.set_cons_zero,List.set_cons_succ,cz_,db_];rfl
                     refine pure_ (i:=2) (N:=some 53) (v:=?_) (a':=?_) #[true,true,true,false,false,false,false,false,false,false,false] rfl rfl (ey_ HT_.out (by kernel_rfl)) (fun _ _ _ h=>h) (Or.inl ⟨by rfl,?_⟩) ?_ ?_;rotate_left
                     ·intro w';go_simp;with_reducible rfl
                     rotate_left
                     ·simp only [Act.put,List.setIfInBounds_toArray,List.set_cons_zero,List.set_cons_succ,cz_,db_];rfl
                     refine pure_ (i:=4) (N:=some 55) (v:=?_) (a':=?_) #[true,true,true,false,true,false,false,false,false,false,false] rfl rfl (ey_ HT_.out (by kernel_rfl)) (fun _ _ _ h=>h) (Or.inl ⟨by rfl,?_⟩) ?_ ?_;rotate_left
                     ·intro w';go_simp;with_reducible rfl
                     rotate_left
                     ·simp only [Act.put,List.setIfInBounds_toArray,List.set_cons_zero,List.set_cons_succ,cz_,db_];rfl
                     refine pure_ (i:=5) (N:=some 56) (v:=?_) (a':=?_) #[true,true,true,false,true,true,false,false,false,false,false] rfl rfl (ey_ HT_.out (by kernel_rfl)) (fun _ _ _ h=>h) (Or.inl ⟨by rfl,?_⟩) ?_ ?_;rotate_left
                     ·intro w';go_simp;with_reducible rfl
                     rotate_left
                     ·simp only [Act.put,List.setIfInBounds_toArray,List.set_cons_zero,List.set_cons_succ,cz_,db_];rfl
                     refine pure_ (i:=6) (N:=some 57) (v:=?_) (a':=?_) #[true,true,true,false,true,true,true,false,false,false,false] rfl rfl (ey_ HT_.out (by kernel_rfl)) (fun _ _ _ h=>h) (Or.inl ⟨by rfl,?_⟩) ?_ ?_;rotate_left
                     ·intro w';go_simp;with_reducible rfl
                     rotate_left
                     ·simp only [Act.put,List.setIfInBounds_toArray,List.set_cons_zero,List.set_cons_succ,cz_,db_];rfl
                     refine take_ (i:=3) (N:=some 54) (v:=?_) (a':=?_) #[true,true,true,true,true,true,true,false,false,false,false] rfl rfl (iz_ HT_.out HW_.out (by kernel_rfl)) (fun _ _ _ h=>h) (Or.inl ⟨by rfl,?_⟩) hHeld ?_ ?_;rotate_left
                     ·rintro w' ⟨s0,s1⟩;go_simp;with_reducible rfl
                     rotate_left
                     ·simp only [Act.put,List.setIfInBounds_toArray,List.set_cons_zero,List.set_cons_succ,cz_,db_];rfl
                     refine take_ (i:=7) (N:=some 58) (v:=?_) (a':=?_) #[true,true,true,true,true,true,true,true,false,false,false] rfl rfl (iz_ HT_.out HW_.out (by kernel_rfl)) (fun _ _ _ h=>h) (Or.inl ⟨by rfl,?_⟩) hHeld ?_ ?_;rotate_left
                     ·rintro w' ⟨s0,s1⟩;go_simp;with_reducible rfl
                     rotate_left
                     ·simp only [Act.put,List.setIfInBounds_toArray,List.set_cons_zero,List.set_cons_succ,cz_,db_];rfl
                     refine one_ (i:=8) (N:=some 59) #[true,true,true,true,true,true,true,true,true,false,false] rfl rfl (one_of HT_.out (by kernel_rfl)) (by decide) (fun K hK=>?_);refine goes_ Tryz.func50 (by kernel_rfl) rfl #[.slice A167_0 (de_ l0 x5_2).length c167_0,.slice A168_0 (de_ l0 x7_4).length c168_0] (by rfl) rfl rfl gl_ ?_;with_reducible refine (dj_.calls _ _ (de_ l0 x5_2) _ _ (de_ l0 x7_4) t169 _ ?side1 ?side2 ?side3 ?side4 A24.out).mono ?_
                     (case side1=>exact cs_ (Kd.C_below HR167_0.out HB.out))
                     (case side2=>exact HC167_0.out)
                     (case side3=>exact cs_ (Kd.C_below HR168_0.out HB.out))
                     (case side4=>exact HC168_0.out)
                     rintro e w30 ⟨v170,rfl,ho0,hb⟩;refine ⟨_,rfl,?_⟩;have n0_:=Sd.m (Kd.R_lower ho0 (ap_ rb_));have n1_:=Sd.m (av_ rb_ hb);clear HB;have HO171:=n0_;have HB:=n1_;clear n0_ n1_
                     (try clear hb)
                     (try clear hb2)
                     (try clear hk)
                     (try clear hi)
                     (try clear ho0)
                     obtain ⟨Ao31,co31,eo31⟩:=Kd.R_slice HO171.out
                     (first | subst eo31 | (injection eo31 with f1_ f2_ f3_;have f4_:=f1_.symm;have f5_:=f3_.symm;clear f1_ f2_ f3_;subst f4_;subst f5_))
                     refine hK.out _ _ ⟨((HB.out.cell (bl__ w _ hw167_0)).trans hw167_0),((HB.out.cell (bl__ w _ hw168_0)).trans hw168_0)⟩ (fun hHeld=>?_);clear hK K;refine no_ 59 ?_;refine pure_ (i:=9) (N:=some 60) (v:=?_) (a':=?_) #[true,true,true,true,true,true,true,true,true,true,false] rfl rfl (ey_ HT_.out (by kernel_rfl)) (fun _ _ _ h=>h) (Or.inl ⟨by rfl,?_⟩) ?_ ?_;rotate_left
                     ·intro w';go_simp;with_reducible rfl
                     rotate_left
                     ·simp only [Act.put,List.setIfInBounds_toArray,List.set_cons_zero,List.set_cons_succ,cz_,db_];rfl
                     refine pure_ (i:=10) (N:=some 61) (v:=?_) (a':=?_) #[true,true,true,true,true,true,true,true,true,true,true] rfl rfl (ey_ HT_.out (by kernel_rfl)) (fun _ _ _ h=>h) (Or.inl ⟨by rfl,?_⟩) ?_ ?_;rotate_left
                     ·intro w';go_simp;with_reducible rfl
                     rotate_left
                     ·simp only [Act.put,List.setIfInBounds_toArray,List.set_cons_zero,List.set_cons_succ,cz_,db_];rfl
                     refine done_ (done_of HT_.out (by kernel_rfl)) ?_
                     try go_wp2
                     go_roundg k4
                     case measure=>have:=HJ1.out;have:=HK2.out;have:=HJ7.out;have:=HK4.out;omega
                     case rel=>exact ⟨(wrap64 (x7_4+1)),ri_,H',⟨by have:=HJ1.out;have:=HK2.out;have:=HJ7.out;have:=HK4.out;omega⟩,⟨rb_⟩⟩
                   ·rw [if_neg c23] at H;exact absurd H (by simp)
                  ·rw [if_neg c22] at H;exact absurd H (by simp)
                 ·rw [if_neg c21] at H;exact absurd H (by simp)
                ·rw [if_neg c20] at H;exact absurd H (by simp)
               ·rw [if_neg c19] at H;have c19b0:=df__ c19;clear c19;have H':=Sd.m H;clear H;go_wp2
                go_roundg k4
                case measure=>have:=HJ1.out;have:=HK2.out;have:=HJ7.out;have:=HK4.out;omega
                case rel=>exact ⟨((wrap64 (x3_2+t166))),(t162),(wrap64 (x5_2+1)),ri_,ri_,ri_,H',⟨by have:=HJ1.out;have:=HK2.out;have:=HJ7.out;have:=HK4.out;omega⟩,⟨rb_⟩⟩
            ·rw [if_neg c16] at H;exact absurd H (by simp)
           ·rw [if_neg c15] at H;exact absurd H (by simp)
       ·rw [if_neg c6] at H;exact absurd H (by simp)
      ·rw [if_neg c5] at H;have c5b0:=df__ c5;clear c5;obtain rfl:=Option.some.inj H;go_wp2;go_ret;exact ⟨re_,rb_⟩
end R
namespace L
open Shelf A P
def lastF (L:List (List S74)):Int:=(L.map firstF).getLastD (-1)
theorem last_cons (z:Int)(M:List Int)(last:Int):(z :: M).getLastD last=M.getLastD z:=by
 cases M with
 | nil=>rfl
 | cons b L=>simp [List.getLastD]
theorem ok_app (L:List (List S74))(x:List S74): ∀ last:Int,okF last (L ++ [x])=(okF last L && (rightF x && decide ((L.map firstF).getLastD last<firstF x))):=by
 induction L with
 | nil=>intro last;simp [okF]
 | cons a L ih=>
  intro last;rw [List.cons_append,okF,okF,ih,List.map_cons,last_cons,Bool.and_assoc,Bool.and_assoc,Bool.and_assoc]
theorem ok_pre: ∀ (L M:List (List S74)) (last:Int),okF last L=false->okF last (L ++ M)=false
 | [],_,_,h=>by cases h
 | a :: L,M,last,h=>by
  rw [List.cons_append,okF];rw [okF] at h;cases h1:(rightF a && decide (last<firstF a)) with
  | false=>rfl
  | true=>
   rw [h1,Bool.true_and] at h;rw [ok_pre L M _ h,Bool.and_false]
theorem ok_right: ∀ {L:List (List S74)} {last:Int},okF last L=true-> ∀ x∈L,rightF x=true
 | [],_,_,x,hx=>by cases hx
 | a :: L,last,h,x,hx=>by
  rw [okF] at h;simp only [Bool.and_eq_true] at h;rcases List.mem_cons.1 hx with e | hx
  ·rw [e];exact h.1.1
  ·exact ok_right h.2 x hx
theorem gg_ {x:List S74}(h:rightF x=true):x.length<=400∧plF x=x:=by
 unfold rightF at h;simp only [Bool.and_eq_true,decide_eq_true_eq] at h;exact ⟨h.1,hi_.1 h.2⟩
theorem size_rng (x:List S74):0<=sizeF x∧sizeF x<=1114112:=by
 have:=cnt_rng (hasB x) 1114112;exact ⟨this.1,by have:=this.2;unfold sizeF;omega⟩
theorem sizes_rng: ∀ L:List (List S74),0<=(L.map sizeF).sum∧(L.map sizeF).sum<=1114112*L.length
 | []=>⟨Int.le_refl _,by simp⟩
 | x :: L=>by
  have:=sizes_rng L;have:=size_rng x;rw [List.map_cons,List.sum_cons,List.length_cons];omega
theorem lr_ {l0:List (List S74)}(h:0<l0.length∧l0.length<=200->okF (-1) l0=false):rightAF l0=false:=by
 unfold rightAF;by_cases h1:0<l0.length
 ·by_cases h2:l0.length<=200
  ·rw [h ⟨h1,h2⟩];simp
  ·simp [h2]
 ·simp [h1]
end L
namespace P
open A L B
theorem ref_class (L:List (List S74))(c:Int)(hL:L.length<=100000):Ev (fun k=>R.bf_.f k L c) (classF L c):=by
 have go: ∀ d i:Nat,i+d=L.length->(∀ j,(hj:j<i)->(h:j<L.length)->hasF L[j] c=false)->Ev (fun k=>R.bf_.l0 k L c (i:Int)) (classF L c):=by
  intro d
  induction d with
  | zero=>
   intro i h hno;have e:classF L c= -1:=by
    unfold classF ixF;cases q:L.findIdx? (fun x=>hasF x c) with
    | none=>rfl
    | some k=>
     obtain ⟨hk,hk2,_⟩:=List.findIdx?_eq_some_iff_getElem.1 q;rw [hno k (by omega) hk] at hk2;cases hk2
   rw [e];exact Ev.step (f:=fun _=>some (-1)) (fun k=>by rw [R.bf_.l0,if_neg (by omega)]) (Ev.now _)
  | succ d ih=>
   intro i h hno;have hlt:i<L.length:=by omega
   have hg:L[i]? =some L[i]:=List.getElem?_eq_getElem hlt;refine Ev.step (f:=fun k=>(aq_.f k L[i] c).bind fun t147=>(if t147=true then (some (i:Int)) else (R.bf_.l0 k L c ((i:Int)+1)))) (fun k=>by
    rw [R.bf_.l0,if_pos (by omega),if_pos (show (0:Int)<=(i:Int) by omega),rd2 hg,w64 (n:=(i:Int)+1) (by omega) (by omega)]) ?_
   refine Ev.bind (ref_has _ _) ?_;cases q:hasF L[i] c with
   | true=>
    have e:classF L c=i:=by
     unfold classF ixF;have:L.findIdx? (fun x=>hasF x c)=some i:=List.findIdx?_eq_some_iff_getElem.2 ⟨hlt,q,fun j hj=>by rw [hno j hj (by omega)];decide⟩;rw [this]
    rw [e];exact fq_ rfl (Ev.now _)
   | false=>
    refine eg_ (by decide) ?_;have:=ih (i+1) (by omega) fun j hj hj2=>by
     rcases Nat.lt_or_eq_of_le (Nat.lt_succ_iff.1 hj) with p | p
     ·exact hno j p hj2
     ·subst p;exact q
    rw [show ((i+1:Nat):Int)=(i:Int)+1 from by omega] at this;exact this
 exact go L.length 0 (by omega) fun j hj=>by omega
theorem and_nil {x y:List S74}(hx:rightF x=true)(hy:rightF y=true):andF x y=[]↔ ∀ r∈x,∀ s∈y,Apart2 r s:=by
 have lx:=(gg_ hx).1;have ly:=(gg_ hy).1;have vx: ∀ r∈x,0<=r.f0∧r.f0<=r.f1∧r.f1<1114112:=by
  intro r hr;rw [←(gg_ hx).2,ko_] at hr;exact (dd_ _).1.1 r hr
 have vy: ∀ r∈y,0<=r.f0∧r.f0<=r.f1∧r.f1<1114112:=by
  intro r hr;rw [←(gg_ hy).2,ko_] at hr;exact (dd_ _).1.1 r hr
 constructor
 ·intro h r hr s hs;by_cases q:Apart2 r s
  ·exact q
  ·exfalso;unfold Apart2 at q;have v1:=vx r hr;have v2:=vy s hs;have key: ∀ c,r.f0<=c->c<=r.f1->s.f0<=c->c<=s.f1->False:=by
    intro c c0 c1 c2 c3;have m:=gn_ (fun c=>hasB x c && hasB y c) (c:=c) (by omega) (by omega);unfold andF at h;rw [h,gb_.2 ⟨lx,r,hr,c0,c1⟩,gb_.2 ⟨ly,s,hs,c2,c3⟩] at m;cases m
   rcases Int.le_total r.f0 s.f0 with le | le
   ·exact key s.f0 le (by omega) (Int.le_refl _) v2.2.1
   ·exact key r.f0 (Int.le_refl _) v1.2.1 le (by omega)
 ·intro h;unfold andF;refine canon_nil fun c h0 h1=>?_;cases q1:hasB x c with
  | false=>rfl
  | true=>
   cases q2:hasB y c with
   | false=>rfl
   | true=>
    obtain ⟨_,r,hr,a0,a1⟩:=gb_.1 q1;obtain ⟨_,s,hs,b0,b1⟩:=gb_.1 q2;have:=h r hr s hs;unfold Apart2 at this;omega
theorem disj_snoc {L:List (List S74)}{x:List S74}(hL: ∀ y∈L,rightF y=true)(hx:rightF x=true):(L ++ [x]).flatten.Pairwise Apart2↔L.flatten.Pairwise Apart2∧ ∀ y∈L,andF x y=[]:=by
 have hin:x.Pairwise Apart2:=by
  rw [←(gg_ hx).2,ko_];exact (dd_ _).1.2.imp fun {a b} hab=>Or.inl (by omega)
 rw [List.flatten_append,List.pairwise_append];have e:[x].flatten=x:=by simp
 rw [e];constructor
 ·rintro ⟨h1,_,h3⟩;refine ⟨h1,fun y hy=>(and_nil hx (hL y hy)).2 fun r hr s hs=>(h3 s (List.mem_flatten.2 ⟨y,hy,hs⟩) r hr).symm⟩
 ·rintro ⟨h1,h2⟩;refine ⟨h1,hin,fun s hs r hr=>?_⟩;obtain ⟨y,hy,hs⟩:=List.mem_flatten.1 hs;exact ((and_nil hx (hL y hy)).1 (h2 y hy) r hr s hs).symm
theorem rightA_of {L:List (List S74)}(h0:0<L.length)(h1:L.length<=200):rightAF L=(okF (-1) L && disjB L.flatten && decide ((L.map sizeF).sum=1114112)):=by
 unfold rightAF;rw [dt__ h0,dt__ h1,Bool.true_and,Bool.true_and]
theorem disj_pre {L M:List (List S74)}(h:disjB L.flatten=false):disjB (L ++ M).flatten=false:=by
 cases q:disjB (L ++ M).flatten with
 | false=>rfl
 | true=>
  have:=fg_.1 q;rw [List.flatten_append,List.pairwise_append] at this;rw [fg_.2 this.1] at h;cases h
theorem ref_rightA (L:List (List S74)):Ev (fun k=>R.ae_.f k L) (rightAF L):=by
 unfold R.ae_.f;have hbad:Ev (fun k=>R.ae_.j0 k L true) false:=Ev.step (f:=fun _=>some false) (fun k=>by rw [R.ae_.j0,if_pos rfl]) (Ev.now _);by_cases h1:(L.length:Int)<1
 ·rw [lr_ fun h=>absurd h.1 (by omega)];exact fq_ h1 hbad
 refine eg_ h1 ?_;by_cases h2:(L.length:Int)>200
 ·rw [dt__ h2,lr_ fun h=>absurd h.2 (by omega)];exact hbad
 rw [df__ h2];refine Ev.step (f:=fun k=>R.ae_.l0 k L 0 (-1) 0) (fun k=>by rw [R.ae_.j0,if_neg (by decide)]) ?_;have hans:=rightA_of (L:=L) (by omega) (by omega);have no_ok: ∀ i,okF (-1) (L.take i)=false->rightAF L=false:=by
  intro i h;refine lr_ fun _=>?_;rw [←List.take_append_drop i L];exact ok_pre _ _ _ h
 have go: ∀ d i:Nat,i+d=L.length->okF (-1) (L.take i)=true->disjB (L.take i).flatten=true->Ev (fun k=>R.ae_.l0 k L ((L.take i).map sizeF).sum (lastF (L.take i)) (i:Int)) (rightAF L):=by
  intro d
  induction d with
  | zero=>
   intro i h hok hd;rw [List.take_of_length_le (by omega)] at hok hd ⊢;rw [hans,hok,hd,Bool.true_and,Bool.true_and];refine Ev.step (f:=fun _=>some (decide ((L.map sizeF).sum=1114112))) (fun k=>by
    rw [R.ae_.l0,if_neg (by omega)];by_cases q:(L.map sizeF).sum=1114112
    ·rw [dt__ q,beq_iff_eq.2 q]
    ·rw [df__ q,beq_eq_false_iff_ne.2 q]) (Ev.now _)
  | succ d ih=>
   intro i h hok hd;have hlt:i<L.length:=by omega
   have hg:L[i]? =some L[i]:=List.getElem?_eq_getElem hlt;have htk:L.take (i+1)=L.take i ++ [L[i]]:=by rw [List.take_add_one,hg];rfl
   have hj2f:Ev (fun k=>R.ae_.j2 k L ((L.take i).map sizeF).sum (i:Int) (firstF L[i]) true) false:=Ev.step (f:=fun _=>some false) (fun k=>by rw [R.ae_.j2,if_pos rfl]) (Ev.now _);have okn:okF (-1) (L.take (i+1))=(rightF L[i] && decide (lastF (L.take i)<firstF L[i])):=by rw [htk,ok_app,hok,Bool.true_and];rfl
   refine Ev.step (f:=fun k=>(cu_.f L[i]).bind fun t162=>((ck_.f k L[i]).bind fun t164=>(if t164=true then (R.ae_.j2 k L ((L.take i).map sizeF).sum (i:Int) t162 (decide (t162<=(lastF (L.take i))))) else (R.ae_.j2 k L ((L.take i).map sizeF).sum (i:Int) t162 true)))) (fun k=>by
    rw [R.ae_.l0,if_pos (by omega),if_pos (show (0:Int)<=(i:Int) by omega),rd2 hg]) ?_
   refine Ev.bind ⟨0,fun _ _=>ref_first _⟩ (Ev.bind (ref_right _) ?_);cases hr:rightF L[i] with
   | false=>
    rw [hr,Bool.false_and] at okn;rw [no_ok _ okn];exact eg_ (by decide) hj2f
   | true=>
    refine fq_ rfl ?_;by_cases q:firstF L[i]<=lastF (L.take i)
    ·rw [hr,df__ (by omega)] at okn;rw [no_ok _ okn,dt__ q];exact hj2f
    ·have hok':okF (-1) (L.take (i+1))=true:=by rw [okn,hr,dt__ (by omega)];rfl
     rw [df__ q];have hsz:=sizes_rng (L.take i);have hs1:=size_rng L[i];rw [List.length_take] at hsz;have hrow: ∀ y∈L.take i,rightF y=true:=ok_right hok;have inner: ∀ e k':Nat,k'+e=i->(∀ j,(hj:j<k')->(hj2:j<L.length)->andF L[i] L[j]=[])->Ev (fun k=>R.ae_.l1 k L (((L.take i).map sizeF).sum+sizeF L[i]) (firstF L[i]) (i:Int) (k':Int)) (rightAF L):=by
      intro e
      induction e with
      | zero=>
       intro k' hk hno;have hd':disjB (L.take (i+1)).flatten=true:=by
        rw [fg_,htk,disj_snoc hrow hr];refine ⟨fg_.1 hd,fun y hy=>?_⟩;obtain ⟨j,hj,rfl⟩:=List.getElem_of_mem hy;rw [List.length_take] at hj;rw [List.getElem_take];exact hno j (by omega) (by omega)
       have:=ih (i+1) (by omega) hok' hd';have es:((L.take (i+1)).map sizeF).sum=((L.take i).map sizeF).sum+sizeF L[i]:=by rw [htk,List.map_append,List.sum_append,List.map_cons,List.map_nil,List.sum_cons,List.sum_nil];omega
       have el:lastF (L.take (i+1))=firstF L[i]:=by unfold lastF;rw [htk,List.map_append,List.map_cons,List.map_nil,List.getLastD_concat]
       rw [es,el,show ((i+1:Nat):Int)=(i:Int)+1 from by omega] at this;exact Ev.step (f:=fun k=>R.ae_.l0 k L (((L.take i).map sizeF).sum+sizeF L[i]) (firstF L[i]) ((i:Int)+1)) (fun k=>by
        rw [R.ae_.l1,if_neg (by omega),w64 (n:=(i:Int)+1) (by omega) (by omega)]) this
      | succ e ih2=>
       intro k' hk hno;have hlk:k'<L.length:=by omega
       have hgk:L[k']? =some L[k']:=List.getElem?_eq_getElem hlk;refine Ev.step (f:=fun k=>(dj_.f L[i] L[k']).bind fun t169=>(if (t169.length:Int)>0 then (some false) else (R.ae_.l1 k L (((L.take i).map sizeF).sum+sizeF L[i]) (firstF L[i]) (i:Int) ((k':Int)+1)))) (fun k=>by
        rw [R.ae_.l1,if_pos (by omega),if_pos (show (0:Int)<=(i:Int) by omega),if_pos (by omega),if_pos (show (0:Int)<=(k':Int) by omega),if_pos (by omega),rd2 hg,rd2 hgk,w64 (n:=(k':Int)+1) (by omega) (by omega)]) ?_
       refine Ev.bind (a:=andF L[i] L[k']) ⟨0,fun _ _=>rfl⟩ ?_;by_cases z:((andF L[i] L[k']).length:Int)>0
       ·have hd':disjB (L.take (i+1)).flatten=false:=by
         cases p:disjB (L.take (i+1)).flatten with
         | false=>rfl
         | true=>
          rw [fg_,htk,disj_snoc hrow hr] at p;have hm:L[k']∈L.take i:=by
           rw [List.mem_iff_getElem?];exact ⟨k',by rw [List.getElem?_take_of_lt (by omega),hgk]⟩
          have:=p.2 _ hm;rw [this] at z;exact absurd z (by decide)
        have hno2:rightAF L=false:=by
         rw [hans];have:disjB L.flatten=false:=by
          have:=disj_pre (M:=L.drop (i+1)) hd';rwa [List.take_append_drop] at this
         rw [this,Bool.and_false,Bool.false_and]
        rw [hno2];exact fq_ z (Ev.now _)
       ·refine eg_ z ?_;have:=ih2 (k'+1) (by omega) fun j hj hj2=>by
         rcases Nat.lt_or_eq_of_le (Nat.lt_succ_iff.1 hj) with p | p
         ·exact hno j p hj2
         ·subst p;exact List.length_eq_zero_iff.1 (by omega)
        rw [show ((k'+1:Nat):Int)=(k':Int)+1 from by omega] at this;exact this
     refine Ev.step (f:=fun k=>(bh_.f k L[i]).bind fun t166=>(R.ae_.l1 k L (wrap64 (((L.take i).map sizeF).sum+t166)) (firstF L[i]) (i:Int) 0)) (fun k=>by
      rw [R.ae_.j2,if_neg (by decide),if_pos (show (0:Int)<=(i:Int) by omega),if_pos (by omega),rd2 hg]) ?_
     refine Ev.bind (ref_size _) ?_;rw [w64 (n:=((L.take i).map sizeF).sum+sizeF L[i]) (by omega) (by omega)];exact inner i 0 (by omega) fun j hj=>by omega
 exact go L.length 0 (by omega) rfl (fg_.2 List.Pairwise.nil)
end P
namespace LX
open Shelf YthfceiincmkccaaGreatW.PrintWords.Kd A K L B
theorem one_name (W:World)(x:S87)(A:Option Addr)(c:Nat)(B:Option Addr)(d:Nat)(p:S45)(hx0:x.f0=1)(hx4:x.f4.f0=4)
  (hw: ∀ W',Below W.heap.size W W'->Calls Tryz.prog 135 #[.agg (NdC x.f4 A c),.slice none 0 0] W' (PatAns W' (fun _=>False) p)):
  Calls Tryz.prog 105 #[.agg #[.slice none 0 0,.slice none 0 0,.slice none 0 0,.slice none 0 0],.agg (ItC x A c B d)] W fun e w'=> ∃ A1 c1,e=.returned (.tuple #[.agg #[.slice A1 1 c1,.slice none 0 0,.slice none 0 0,.slice none 0 0],.int .i64 0])∧1<=c1∧Kd.F k93 w' (fun k=>W.heap.size<=k) A1 1 [⟨x.f1,p,true,x.f6⟩]∧Below W.heap.size W w':=by
 have hg:=fun (W':World) (hb:Below W.heap.size W W')=>give_first W' (fun _=>False) x A c B d p hx0 hx4 (fun W2 hb2=>hw W2 (hb.trans (hb2.mono hb.size)));unfold ItC at hg ⊢;rw [hx0] at hg ⊢;clear hw;have ea:(W.alloc (.cells #[.slice none 0 0,.slice none 0 0,.slice none 0 0,.slice none 0 0] 27)).heap.size=W.heap.size+1:=Array.size_push _;have eb:((W.alloc (.cells #[.slice none 0 0,.slice none 0 0,.slice none 0 0,.slice none 0 0] 27)).alloc (.cells #[.int .i64 1,.string x.f1,.int .i64 x.f2,.bool x.f3,.int .i64 x.f4.f0,.string x.f4.f1,.int .i64 x.f4.f2,.int .i64 x.f4.f3,.slice A x.f4.f4.length c,.int .i64 x.f5.f0,.string x.f5.f1,.int .i64 x.f5.f2,.int .i64 x.f5.f3,.slice B x.f5.f4.length d,.int .i64 x.f6] 87)).heap.size=W.heap.size+2:=(Array.size_push _).trans (congrArg (· +1) ea);obtain ⟨W1,hW1⟩: ∃ W_,W_=((W.alloc (.cells #[.slice none 0 0,.slice none 0 0,.slice none 0 0,.slice none 0 0] 27)).alloc (.cells #[.int .i64 1,.string x.f1,.int .i64 x.f2,.bool x.f3,.int .i64 x.f4.f0,.string x.f4.f1,.int .i64 x.f4.f2,.int .i64 x.f4.f3,.slice A x.f4.f4.length c,.int .i64 x.f5.f0,.string x.f5.f1,.int .i64 x.f5.f2,.int .i64 x.f5.f3,.slice B x.f5.f4.length d,.int .i64 x.f6] 87)).alloc (.cells #[.slice none 0 0,.slice none 0 0,.slice none 0 0,.slice none 0 0] 27):=⟨_,rfl⟩;have hb1:Below W.heap.size W W1:=by rw [hW1];exact ab_ (ab_ (ab_ (Below.refl W.heap.size W) _) _) _
 have hk1:W1.heap[W.heap.size]? =some (.cells #[.slice none 0 0,.slice none 0 0,.slice none 0 0,.slice none 0 0] 27 (0,0)):=by rw [hW1];exact am_ (am_ (aj_ W _) _) _
 have hi1:W1.heap[W.heap.size+1]? =some (.cells #[.int .i64 1,.string x.f1,.int .i64 x.f2,.bool x.f3,.int .i64 x.f4.f0,.string x.f4.f1,.int .i64 x.f4.f2,.int .i64 x.f4.f3,.slice A x.f4.f4.length c,.int .i64 x.f5.f0,.string x.f5.f1,.int .i64 x.f5.f2,.int .i64 x.f5.f3,.slice B x.f5.f4.length d,.int .i64 x.f6] 87 (0,0)):=by rw [hW1];exact am_ (ea ▸ aj_ (W.alloc (.cells #[.slice none 0 0,.slice none 0 0,.slice none 0 0,.slice none 0 0] 27)) _) _
 have hr1:W1.heap[W.heap.size+2]? =some (.cells #[.slice none 0 0,.slice none 0 0,.slice none 0 0,.slice none 0 0] 27 (0,0)):=by rw [hW1];exact eb ▸ aj_ ((W.alloc (.cells #[.slice none 0 0,.slice none 0 0,.slice none 0 0,.slice none 0 0] 27)).alloc (.cells #[.int .i64 1,.string x.f1,.int .i64 x.f2,.bool x.f3,.int .i64 x.f4.f0,.string x.f4.f1,.int .i64 x.f4.f2,.int .i64 x.f4.f3,.slice A x.f4.f4.length c,.int .i64 x.f5.f0,.string x.f5.f1,.int .i64 x.f5.f2,.int .i64 x.f5.f3,.slice B x.f5.f4.length d,.int .i64 x.f6] 87)) _
 have i0:=bc_ hi1 0 rfl;have i1:=bc_ hi1 1 rfl;have i2:=bc_ hi1 2 rfl;have i3:=bc_ hi1 3 rfl;have i4:=bc_ hi1 4 rfl;have i5:=bc_ hi1 5 rfl;have i6:=bc_ hi1 6 rfl;have i7:=bc_ hi1 7 rfl;have i8:=bc_ hi1 8 rfl;have i9:=bc_ hi1 9 rfl;have i10:=bc_ hi1 10 rfl;have i11:=bc_ hi1 11 rfl;have i12:=bc_ hi1 12 rfl;have i13:=bc_ hi1 13 rfl;have i14:=bc_ hi1 14 rfl;have k0:=bc_ hk1 0 rfl;have HG:=Sd.m (hg W1 hb1);have HW1:=Sd.m hW1;have HB1:=Sd.m hb1;have HK1:=Sd.m hk1;have HR1:=Sd.m hr1;have HS1:=Sd.m (cc_ hr1);clear hg hb1 hk1 hi1 hr1 ea eb hx0 hx4 hW1;go_enter Tryz.func105,Tryz.ntmps105;go_wp2_with fail;rw [←HW1.out];refine HG.out.mono ?_;rintro e V ⟨A1,c1,rfl,hc1,hF,hb⟩;have hk:=ag_ HK1.out hb;have hr:=ag_ HR1.out hb;clear k0 i0 i1 i2 i3 i4 i5 i6 i7 i8 i9 i10 i11 i12 i13 i14;have n0:=bc_ hk 0 rfl;have m0:=aa_ hk 0;obtain ⟨V5,hV5⟩: ∃ W_,W_=V.setCell ⟨W.heap.size,0,none⟩ (.slice A1 1 c1):=⟨_,rfl⟩;have hk5:V5.heap[W.heap.size]? =some (.cells #[.slice A1 1 c1,.slice none 0 0,.slice none 0 0,.slice none 0 0] 27 (0,0)):=by rw [hV5];exact cj_ hk 0 _ rfl
 have hr5:V5.heap[W.heap.size+2]? =some (.cells #[.slice none 0 0,.slice none 0 0,.slice none 0 0,.slice none 0 0] 27 (0,0)):=by rw [hV5];exact eq_ (vs:=[.slice A1 1 c1]) (n:=W.heap.size) (by omega) V 0 hr
 have hs1:=HS1.out;have hF5:Kd.F k93 V5 (fun k=>W1.heap.size<=k) A1 1 [⟨x.f1,p,true,x.f6⟩]:=by rw [hV5];exact ci_ (n:=W.heap.size) (fun k hk=>by omega) [.slice A1 1 c1] V 0 hF
 have hb5:Below W.heap.size W V5:=by rw [hV5];exact cn_ (n:=W.heap.size) (Nat.le_refl _) [.slice A1 1 c1] V 0 (HB1.out.trans (hb.mono HB1.out.size))
 obtain ⟨V6,hV6⟩: ∃ W_,W_=putL V5 (W.heap.size+2) 0 [.slice A1 1 c1,.slice none 0 0,.slice none 0 0,.slice none 0 0]:=⟨_,rfl⟩;have hr6:V6.heap[W.heap.size+2]? =some (.cells #[.slice A1 1 c1,.slice none 0 0,.slice none 0 0,.slice none 0 0] 27 (0,0)):=by rw [hV6];exact cx_ _ V5 0 _ hr5
 have hF6:Kd.F k93 V6 (fun k=>W.heap.size<=k) A1 1 [⟨x.f1,p,true,x.f6⟩]:=by rw [hV6];exact F_mono (ci_ (n:=W.heap.size+2) (fun k hk=>by omega) _ V5 0 hF5) (fun k hk=>by omega)
 have hb6:Below W.heap.size W V6:=by rw [hV6];exact cn_ (n:=W.heap.size+2) (by omega) _ V5 0 hb5
 replace hV6:V6=(((V5.setCell ⟨W.heap.size+2,0,none⟩ (.slice A1 1 c1)).setCell ⟨W.heap.size+2,1,none⟩ (.slice none 0 0)).setCell ⟨W.heap.size+2,2,none⟩ (.slice none 0 0)).setCell ⟨W.heap.size+2,3,none⟩ (.slice none 0 0):=hV6;have q0:=bc_ hk5 0 rfl;have s0:=bc_ hr5 0 rfl;have z0:=aa_ hr5 0;have q1:=bc_ hk5 1 rfl;have s1:=bc_ hr5 1 rfl;have z1:=aa_ hr5 1;have q2:=bc_ hk5 2 rfl;have s2:=bc_ hr5 2 rfl;have z2:=aa_ hr5 2;have q3:=bc_ hk5 3 rfl;have s3:=bc_ hr5 3 rfl;have z3:=aa_ hr5 3;have HV5:=Sd.m hV5;have HV6:=Sd.m hV6;have HR6:=Sd.m hr6;have HF6:=Sd.m hF6;have HB6:=Sd.m hb6;clear hk hr hV5 hk5 hr5 hs1 hF5 hb5 hV6 hr6 hF6 hb6 hF hb;go_upto_region 6 with fail;rw [←HV5.out];go_wp2_with fail;rw [←HV6.out];refine bodyPost_ret (en_ rfl _ _ (W.heap.size+2) 27 #[.slice A1 1 c1,.slice none 0 0,.slice none 0 0,.slice none 0 0] (0,0) _ rfl HR6.out Tryz.underlying27 rfl (by kernel_rfl)) rfl ?_;exact ⟨A1,c1,rfl,hc1,HF6.out,HB6.out⟩
theorem one_rule (W:World)(P:Nat->Prop)(x:S87)(A:Option Addr)(c:Nat)(B:Option Addr)(d:Nat)(p1 p2:S45)(lv:List S93)(AV:Option Addr)(cv:Nat)(hcv:lv.length<=cv)(hV:Kd.C k93 W AV lv.length lv)
  (lr:List S55) (AR:Option Addr) (cr:Nat) (hcr:lr.length<=cr) (hR:Kd.C k55 W AR lr.length lr) (hlr:lr.length<30) (ls:List S55) (hx0:x.f0=2) (kk:Nat) (hf:bp_.f kk lv lr [] [] x.f2=some (-1))
  (h1: ∀ W',Below W.heap.size W W'->Calls Tryz.prog 135 #[.agg (NdC x.f4 A c),.slice AV lv.length cv] W' (PatAns W' (fun k=>P k∧k<W.heap.size) p1))
  (h2: ∀ W',Below W.heap.size W W'->Calls Tryz.prog 135 #[.agg (NdC x.f5 B d),.slice AV lv.length cv] W' (PatAns W' (fun k=>P k∧k<W.heap.size) p2))
  (hp: ∀ (W':World) (a3:Option Addr) (b3:Nat) (a4:Option Addr) (b4:Nat) (a5:Option Addr) (b5:Nat) (a7:Option Addr) (b7:Nat) (a8:Option Addr) (b8:Nat) (a9:Option Addr) (b9:Nat),Below W.heap.size W W'->W.heap.size+3<=W'.heap.size->Kd.FK k55 W' (fun k=>(P k∧k<W.heap.size)∨W.heap.size+3<=k) ⟨x.f2,x.f3,p1,p2,x.f6⟩ [.int .i64 x.f2,.bool x.f3,.int .i64 p1.f0,.slice a3 p1.f1.length b3,.slice a4 p1.f2.length b4,.slice a5 p1.f3.length b5,.int .i64 p2.f0,.slice a7 p2.f1.length b7,.slice a8 p2.f2.length b8,.slice a9 p2.f3.length b9,.int .i64 x.f6]->
   Calls Tryz.prog 136 #[.slice AR lr.length cr,.agg #[.int .i64 x.f2,.bool x.f3,.int .i64 p1.f0,.slice a3 p1.f1.length b3,.slice a4 p1.f2.length b4,.slice a5 p1.f3.length b5,.int .i64 p2.f0,.slice a7 p2.f1.length b7,.slice a8 p2.f2.length b8,.slice a9 p2.f3.length b9,.int .i64 x.f6]] W' fun e w'=> ∃ A1 c1,e=.returned (.slice A1 ls.length c1)∧ls.length<=c1∧Kd.F k55 w' (fun k=>(P k∧k<W.heap.size)∨W.heap.size+3<=k) A1 ls.length ls∧Below W'.heap.size W' w'):
  Calls Tryz.prog 105 #[.agg #[.slice AV lv.length cv,.slice AR lr.length cr,.slice none 0 0,.slice none 0 0],.agg (ItC x A c B d)] W fun e w'=> ∃ A1 c1,e=.returned (.tuple #[.agg #[.slice AV lv.length cv,.slice A1 ls.length c1,.slice none 0 0,.slice none 0 0],.int .i64 0])∧ls.length<=c1∧Kd.F k55 w' (fun k=>P k∨W.heap.size<=k) A1 ls.length ls∧Below W.heap.size W w':=by
 unfold ItC;unfold NdC at h1 h2;rw [hx0];have ea:(W.alloc (.cells #[.slice AV lv.length cv,.slice AR lr.length cr,.slice none 0 0,.slice none 0 0] 27)).heap.size=W.heap.size+1:=Array.size_push _;have eb:((W.alloc (.cells #[.slice AV lv.length cv,.slice AR lr.length cr,.slice none 0 0,.slice none 0 0] 27)).alloc (.cells #[.int .i64 2,.string x.f1,.int .i64 x.f2,.bool x.f3,.int .i64 x.f4.f0,.string x.f4.f1,.int .i64 x.f4.f2,.int .i64 x.f4.f3,.slice A x.f4.f4.length c,.int .i64 x.f5.f0,.string x.f5.f1,.int .i64 x.f5.f2,.int .i64 x.f5.f3,.slice B x.f5.f4.length d,.int .i64 x.f6] 87)).heap.size=W.heap.size+2:=(Array.size_push _).trans (congrArg (· +1) ea);obtain ⟨W1,hW1⟩: ∃ W_,W_=((W.alloc (.cells #[.slice AV lv.length cv,.slice AR lr.length cr,.slice none 0 0,.slice none 0 0] 27)).alloc (.cells #[.int .i64 2,.string x.f1,.int .i64 x.f2,.bool x.f3,.int .i64 x.f4.f0,.string x.f4.f1,.int .i64 x.f4.f2,.int .i64 x.f4.f3,.slice A x.f4.f4.length c,.int .i64 x.f5.f0,.string x.f5.f1,.int .i64 x.f5.f2,.int .i64 x.f5.f3,.slice B x.f5.f4.length d,.int .i64 x.f6] 87)).alloc (.cells #[.slice none 0 0,.slice none 0 0,.slice none 0 0,.slice none 0 0] 27):=⟨_,rfl⟩;have hb1:Below W.heap.size W W1:=by rw [hW1];exact ab_ (ab_ (ab_ (Below.refl W.heap.size W) _) _) _
 have hk1:W1.heap[W.heap.size]? =some (.cells #[.slice AV lv.length cv,.slice AR lr.length cr,.slice none 0 0,.slice none 0 0] 27 (0,0)):=by rw [hW1];exact am_ (am_ (aj_ W _) _) _
 have hi1:W1.heap[W.heap.size+1]? =some (.cells #[.int .i64 2,.string x.f1,.int .i64 x.f2,.bool x.f3,.int .i64 x.f4.f0,.string x.f4.f1,.int .i64 x.f4.f2,.int .i64 x.f4.f3,.slice A x.f4.f4.length c,.int .i64 x.f5.f0,.string x.f5.f1,.int .i64 x.f5.f2,.int .i64 x.f5.f3,.slice B x.f5.f4.length d,.int .i64 x.f6] 87 (0,0)):=by rw [hW1];exact am_ (ea ▸ aj_ (W.alloc (.cells #[.slice AV lv.length cv,.slice AR lr.length cr,.slice none 0 0,.slice none 0 0] 27)) _) _
 have hr1:W1.heap[W.heap.size+2]? =some (.cells #[.slice none 0 0,.slice none 0 0,.slice none 0 0,.slice none 0 0] 27 (0,0)):=by rw [hW1];exact eb ▸ aj_ ((W.alloc (.cells #[.slice AV lv.length cv,.slice AR lr.length cr,.slice none 0 0,.slice none 0 0] 27)).alloc (.cells #[.int .i64 2,.string x.f1,.int .i64 x.f2,.bool x.f3,.int .i64 x.f4.f0,.string x.f4.f1,.int .i64 x.f4.f2,.int .i64 x.f4.f3,.slice A x.f4.f4.length c,.int .i64 x.f5.f0,.string x.f5.f1,.int .i64 x.f5.f2,.int .i64 x.f5.f3,.slice B x.f5.f4.length d,.int .i64 x.f6] 87)) _
 have k0:=bc_ hk1 0 rfl;have k1:=bc_ hk1 1 rfl;have k2:=bc_ hk1 2 rfl;have k3:=bc_ hk1 3 rfl;have i0:=bc_ hi1 0 rfl;have i2:=bc_ hi1 2 rfl;have HFD:=Sd.m (bp_.calls kk AV cv lv AR cr lr none 0 [] none 0 [] x.f2 (-1) W1 (Kd.C_below hV hb1) hcv (Kd.C_below hR hb1) hcr (C_nil _ _) (Nat.le_refl _) (C_nil _ _) (Nat.le_refl _) hf);have d30:decide ((30:Int)<=(lr.length:Int))=false:=df__ (by omega);have H1:=Sd.m h1;have H2:=Sd.m h2;have HP:=Sd.m hp;have HW1:=Sd.m hW1;have HB1:=Sd.m hb1;have HK1:=Sd.m hk1;have HI1:=Sd.m hi1;have HR1:=Sd.m hr1;have HS1:=Sd.m (cc_ hr1);clear h1 h2 hp hb1 hk1 hi1 hr1 ea eb hx0 hW1 hV hR hf;go_enter Tryz.func105,Tryz.ntmps105;go_wp2_with fail;rw [←HW1.out];refine HFD.out.mono ?_;rintro e V1 ⟨rfl,hb⟩;clear k0 k1 k2 k3 i0 i2;have HBA:=Sd.m (HB1.out.trans (hb.mono HB1.out.size));have HKA:=Sd.m (ag_ HK1.out hb);have HIA:=Sd.m (ag_ HI1.out hb);have HRA:=Sd.m (ag_ HR1.out hb);have HSA:=Sd.m hb.size;clear hb;have k0:=bc_ HKA.out 0 rfl;have k1:=bc_ HKA.out 1 rfl;have i4:=bc_ HIA.out 4 rfl;have i5:=bc_ HIA.out 5 rfl;have i6:=bc_ HIA.out 6 rfl;have i7:=bc_ HIA.out 7 rfl;have i8:=bc_ HIA.out 8 rfl;go_wp2_with fail;refine (H1.out V1 HBA.out).mono ?_;rintro e V2 ⟨v,rfl,⟨E1,e1,E2,e2,E3,e3,rfl,l1,g1,l2,g2,l3,g3⟩,hb⟩;clear k0 k1 i4 i5 i6 i7 i8;have hb3:Below V2.heap.size V2 (V2.alloc (.cells #[.int .i64 p1.f0,.slice E1 p1.f1.length e1,.slice E2 p1.f2.length e2,.slice E3 p1.f3.length e3] 45)):=ab_ (Below.refl _ _) _;have hp3:=aj_ V2 (.cells #[.int .i64 p1.f0,.slice E1 p1.f1.length e1,.slice E2 p1.f2.length e2,.slice E3 p1.f3.length e3] 45);obtain ⟨V3,hV3⟩: ∃ W_,W_=V2.alloc (.cells #[.int .i64 p1.f0,.slice E1 p1.f1.length e1,.slice E2 p1.f2.length e2,.slice E3 p1.f3.length e3] 45):=⟨_,rfl⟩;rw [←hV3] at hb3 hp3;have hq:=hb.trans (hb3.mono hb.size);have HBB:=Sd.m (HBA.out.trans (hq.mono HBA.out.size));have HKB:=Sd.m (ag_ HKA.out hq);have HIB:=Sd.m (ag_ HIA.out hq);have HRB:=Sd.m (ag_ HRA.out hq);have HPB:=Sd.m hp3;have G1:=Sd.m (F_below g1 hb3);have G2:=Sd.m (F_below g2 hb3);have G3:=Sd.m (F_below g3 hb3);have HV3:=Sd.m hV3;have HSB:=Sd.m hq.size;clear hb hb3 hp3 hq g1 g2 g3 hV3;have k0:=bc_ HKB.out 0 rfl;have i9:=bc_ HIB.out 9 rfl;have i10:=bc_ HIB.out 10 rfl;have i11:=bc_ HIB.out 11 rfl;have i12:=bc_ HIB.out 12 rfl;have i13:=bc_ HIB.out 13 rfl;go_upto_region 13 with fail;rw [←HV3.out];go_wp2_with fail;refine (H2.out V3 HBB.out).mono ?_;rintro e V4 ⟨v,rfl,⟨F1,f1,F2,f2,F3,f3,rfl,l4,g4,l5,g5,l6,g6⟩,hb⟩;clear k0 i9 i10 i11 i12 i13;have hb5:Below V4.heap.size V4 (V4.alloc (.cells #[.int .i64 p2.f0,.slice F1 p2.f1.length f1,.slice F2 p2.f2.length f2,.slice F3 p2.f3.length f3] 45)):=ab_ (Below.refl _ _) _;have hp5:=aj_ V4 (.cells #[.int .i64 p2.f0,.slice F1 p2.f1.length f1,.slice F2 p2.f2.length f2,.slice F3 p2.f3.length f3] 45);obtain ⟨V5,hV5⟩: ∃ W_,W_=V4.alloc (.cells #[.int .i64 p2.f0,.slice F1 p2.f1.length f1,.slice F2 p2.f2.length f2,.slice F3 p2.f3.length f3] 45):=⟨_,rfl⟩;rw [←hV5] at hb5 hp5;have hq:=hb.trans (hb5.mono hb.size);have HBC:=Sd.m (HBB.out.trans (hq.mono HBB.out.size));have HKC:=Sd.m (ag_ HKB.out hq);have HIC:=Sd.m (ag_ HIB.out hq);have HRC:=Sd.m (ag_ HRB.out hq);have HPC:=Sd.m (ag_ HPB.out hq);have HQC:=Sd.m hp5;have ok1: ∀ k,((P k∧k<W.heap.size)∨V1.heap.size<=k)->((P k∧k<W.heap.size)∨W.heap.size+3<=k):=fun k hk=>Or.elim hk Or.inl (fun hk=>Or.inr (by have:=HS1.out;have:=HSA.out;omega));have ok2: ∀ k,((P k∧k<W.heap.size)∨V3.heap.size<=k)->((P k∧k<W.heap.size)∨W.heap.size+3<=k):=fun k hk=>Or.elim hk Or.inl (fun hk=>Or.inr (by have:=HS1.out;have:=HSA.out;have:=HSB.out;omega));have hsz:W.heap.size+3<=V5.heap.size:=by have:=HS1.out;have:=HSA.out;have:=HSB.out;have:=hq.size;omega
 have HCP:=Sd.m (HP.out V5 E1 e1 E2 e2 E3 e3 F1 f1 F2 f2 F3 f3 HBC.out hsz (k55_mkF _ _ ⟨x.f2,x.f3,p1,p2,x.f6⟩ l1 (F_mono (F_below G1.out hq) ok1) l2 (F_mono (F_below G2.out hq) ok1) l3 (F_mono (F_below G3.out hq) ok1) l4 (F_mono (F_below g4 hb5) ok2) l5 (F_mono (F_below g5 hb5) ok2) l6 (F_mono (F_below g6 hb5) ok2)));have HV5:=Sd.m hV5;have HSC:=Sd.m hsz;clear hb hb5 hp5 hq g4 g5 g6 hV5 ok1 ok2 hsz;have k1:=bc_ HKC.out 1 rfl;have i2:=bc_ HIC.out 2 rfl;have i3:=bc_ HIC.out 3 rfl;have i14:=bc_ HIC.out 14 rfl;have pp0:=bc_ HPC.out 0 rfl;have pp1:=bc_ HPC.out 1 rfl;have pp2:=bc_ HPC.out 2 rfl;have pp3:=bc_ HPC.out 3 rfl;have qq0:=bc_ HQC.out 0 rfl;have qq1:=bc_ HQC.out 1 rfl;have qq2:=bc_ HQC.out 2 rfl;have qq3:=bc_ HQC.out 3 rfl;go_upto_region 16 with fail;rw [←HV5.out];go_wp2_with fail;refine HCP.out.mono ?_;rintro e V ⟨A1,c1,rfl,hc1,hF,hb⟩;clear k1 i2 i3 i14 pp0 pp1 pp2 pp3 qq0 qq1 qq2 qq3;have hk:=ag_ HKC.out hb;have hr:=ag_ HRC.out hb;have n1:=bc_ hk 1 rfl;have m1:=aa_ hk 1;obtain ⟨V6,hV6⟩: ∃ W_,W_=V.setCell ⟨W.heap.size,1,none⟩ (.slice A1 ls.length c1):=⟨_,rfl⟩;have hk6:V6.heap[W.heap.size]? =some (.cells #[.slice AV lv.length cv,.slice A1 ls.length c1,.slice none 0 0,.slice none 0 0] 27 (0,0)):=by rw [hV6];exact cj_ hk 1 _ rfl
 have hr6:V6.heap[W.heap.size+2]? =some (.cells #[.slice none 0 0,.slice none 0 0,.slice none 0 0,.slice none 0 0] 27 (0,0)):=by rw [hV6];exact eq_ (vs:=[.slice A1 ls.length c1]) (n:=W.heap.size) (by omega) V 1 hr
 have okA: ∀ k,((P k∧k<W.heap.size)∨W.heap.size+3<=k)->k≠W.heap.size:=fun k hk=>by rcases hk with hk | hk <;> omega
 have okB: ∀ k,((P k∧k<W.heap.size)∨W.heap.size+3<=k)->k≠W.heap.size+2:=fun k hk=>by rcases hk with hk | hk <;> omega
 have okC: ∀ k,((P k∧k<W.heap.size)∨W.heap.size+3<=k)->(P k∨W.heap.size<=k):=fun k hk=>Or.elim hk (fun h=>Or.inl h.1) (fun h=>Or.inr (by omega));have hF6:Kd.F k55 V6 (fun k=>(P k∧k<W.heap.size)∨W.heap.size+3<=k) A1 ls.length ls:=by rw [hV6];exact ci_ (n:=W.heap.size) okA [.slice A1 ls.length c1] V 1 hF
 have hb6:Below W.heap.size W V6:=by rw [hV6];exact cn_ (n:=W.heap.size) (Nat.le_refl _) [.slice A1 ls.length c1] V 1 (HBC.out.trans (hb.mono HBC.out.size))
 obtain ⟨V7,hV7⟩: ∃ W_,W_=putL V6 (W.heap.size+2) 0 [.slice AV lv.length cv,.slice A1 ls.length c1,.slice none 0 0,.slice none 0 0]:=⟨_,rfl⟩;have hr7:V7.heap[W.heap.size+2]? =some (.cells #[.slice AV lv.length cv,.slice A1 ls.length c1,.slice none 0 0,.slice none 0 0] 27 (0,0)):=by rw [hV7];exact cx_ _ V6 0 _ hr6
 have hF7:Kd.F k55 V7 (fun k=>P k∨W.heap.size<=k) A1 ls.length ls:=by rw [hV7];exact F_mono (ci_ (n:=W.heap.size+2) okB _ V6 0 hF6) okC
 have hb7:Below W.heap.size W V7:=by rw [hV7];exact cn_ (n:=W.heap.size+2) (by omega) _ V6 0 hb6
 replace hV7:V7=(((V6.setCell ⟨W.heap.size+2,0,none⟩ (.slice AV lv.length cv)).setCell ⟨W.heap.size+2,1,none⟩ (.slice A1 ls.length c1)).setCell ⟨W.heap.size+2,2,none⟩ (.slice none 0 0)).setCell ⟨W.heap.size+2,3,none⟩ (.slice none 0 0):=hV7;have q0:=bc_ hk6 0 rfl;have s0:=bc_ hr6 0 rfl;have z0:=aa_ hr6 0;have q1:=bc_ hk6 1 rfl;have s1:=bc_ hr6 1 rfl;have z1:=aa_ hr6 1;have q2:=bc_ hk6 2 rfl;have s2:=bc_ hr6 2 rfl;have z2:=aa_ hr6 2;have q3:=bc_ hk6 3 rfl;have s3:=bc_ hr6 3 rfl;have z3:=aa_ hr6 3;have HV6:=Sd.m hV6;have HV7:=Sd.m hV7;have HR7:=Sd.m hr7;have HF7:=Sd.m hF7;have HB7:=Sd.m hb7;clear hk hr hV6 hk6 hr6 okA okB okC hF6 hb6 hV7 hr7 hF7 hb7 hF hb;go_upto_region 19 with fail;rw [←HV6.out];go_wp2_with fail;rw [←HV7.out];refine bodyPost_ret (en_ rfl _ _ (W.heap.size+2) 27 #[.slice AV lv.length cv,.slice A1 ls.length c1,.slice none 0 0,.slice none 0 0] (0,0) _ rfl HR7.out Tryz.underlying27 rfl (by kernel_rfl)) rfl ?_;exact ⟨A1,c1,rfl,hc1,HF7.out,HB7.out⟩
structure NmAt (W Wb:World) (o0:Option Nat) (A1:Option Addr) (V:List S93) (A2:Option Addr) (R:List S55) (bk:Array Value) (w:World) (v:Value) (xs:List ByteArray):Prop where
 N:Kd.N Kd.string 9 w (W.heap.size+2) (fun j=>W.heap.size+2<=j) v xs
 own: ∀ j,v.ownBlock=some j->o0=some j∨Wb.heap.size<=j
 sz:Wb.heap.size<=w.heap.size
 F1:Kd.F k93 w (fun j=>(W.heap.size+2<=j∧some j≠o0)∧j<Wb.heap.size) A1 V.length V
 F2:Kd.F k55 w (fun j=>(W.heap.size+2<=j∧some j≠o0)∧j<Wb.heap.size) A2 R.length R
 B:Below W.heap.size W w
 r:w.heap[W.heap.size]? =some (.cells #[.slice none 0 0,.slice none 0 0,.slice none 0 0,.slice none 0 0] 27 (0,0))
 b:w.heap[W.heap.size+1]? =some (.cells bk 27 (0,0))
section
variable {W Wb w w1:World} {o0:Option Nat} {A1 A2:Option Addr} {V:List S93} {R:List S55} {bk:Array Value} {v:Value} {xs ys:List ByteArray}
theorem NmAt.below (h:NmAt W Wb o0 A1 V A2 R bk w v xs)(hb:Below w.heap.size w w1):NmAt W Wb o0 A1 V A2 R bk w1 v xs:=
 ⟨N_below h.N hb,h.own,Nat.le_trans h.sz hb.size,F_below h.F1 hb,F_below h.F2 hb,h.B.trans (hb.mono h.B.size),ag_ h.r hb,ag_ h.b hb⟩
theorem NmAt.app {An:Option Addr}{cn:Nat}(h:NmAt W Wb o0 A1 V A2 R bk w (.slice An xs.length cn) xs)(B1:Option Addr)(m1:Nat)(okp:Nat->Prop)(hy:Kd.F Kd.string w okp B1 ys.length ys)(hokp: ∀ k,okp k->W.heap.size+2<=k∧some k≠(Value.slice An xs.length cn).ownBlock)(hl:(xs.length+ys.length)*16<=140737488355328):
  ∃ C1 k1 w1,(Builtin.append_ #[25,25] 25 #[.slice An xs.length cn,.slice B1 ys.length m1]).run Tryz.prog w=.ok (.slice C1 (xs ++ ys).length k1) w1∧NmAt W Wb o0 A1 V A2 R bk w1 (.slice C1 (xs ++ ys).length k1) (xs ++ ys):=by
 have hlt:W.heap.size+2<=w.heap.size:=cc_ h.b;obtain ⟨v1,w1,hrun,hN,hg,hat⟩:=es_ (P:=Tryz.prog) Kd.string (W:=w) (W.heap.size+2) 25 25 9 (.string ⟨#[]⟩) 16 Tryz.underlying25 (by kernel_rfl) rfl (by decide) (by decide) (.slice An xs.length cn) xs ys B1 ys.length m1 (fun j=>W.heap.size+2<=j) okp h.N hy hokp (fun k hk=>Nat.le_trans hlt hk) hlt hl;obtain ⟨C1,k1,rfl⟩:=N_slice hN;have hbase:=fun k hk=>N_base h.N k hk;have hQ: ∀ j,((W.heap.size+2<=j∧some j≠o0)∧j<Wb.heap.size)->some j≠(Value.slice An xs.length cn).ownBlock:=fun j hj he=>(h.own j he.symm).elim (fun e=>hj.1.2 e.symm) (fun e=>by have:=hj.2;omega);refine ⟨C1,k1,w1,hrun,hN,?_,Nat.le_trans h.sz hg.size,F_grown h.F1 hg hQ,F_grown h.F2 hg hQ,h.B.grown hg h.B.size (fun k hk=>by have:=hbase k hk;omega),?_,?_⟩
 ·intro j hj;rcases hat with e | ⟨q,e,hq⟩
  ·rw [e] at hj;exact h.own j hj
  ·rw [e] at hj;injection hj with hj;exact Or.inr (hj ▸ Nat.le_trans h.sz hq)
 ·exact (hg.block _ (cc_ h.r) (fun e=>by have:=hbase _ e.symm;omega)).trans h.r
 ·exact (hg.block _ (cc_ h.b) (fun e=>by have:=hbase _ e.symm;omega)).trans h.b
end
theorem kr_ (kk:Nat)(nd:S85)(A:Option Addr)(c:Nat)(out:List ByteArray)(w:World)(hC:Kd.C k85 w A nd.f4.length nd.f4)(hc:nd.f4.length<=c)(h:ak_.f kk nd.f0 nd.f1 nd.f2 nd.f3 nd.f4=some out):
  Calls Tryz.prog 106 #[.agg #[.int .i64 nd.f0,.string nd.f1,.int .i64 nd.f2,.int .i64 nd.f3,.slice A nd.f4.length c]] w fun e w'=> ∃ B1 m1,e=.returned (.slice B1 out.length m1)∧Kd.F Kd.string w' (fun j=>w.heap.size<=j∧j<w'.heap.size) B1 out.length out∧Below w.heap.size w w':=by
 refine (ak_.calls kk nd.f0 nd.f1 nd.f2 nd.f3 A c nd.f4 out w hC hc h).mono ?_;rintro e w' ⟨v0,rfl,hR,hb⟩;obtain ⟨B1,m1,rfl⟩:=R_slice hR;exact ⟨B1,m1,rfl,F_mono (N_F (R_N (R_bound hR))) (fun j hj=>⟨hj.2.1,hj.2.2.1⟩),hb⟩
def Cap (A:Option Addr)(n c:Nat):Prop:=n<=c∧(n=0->A=none∧c=0)
def OneStep (W0:World)(it:S87)(V V1:List S93)(R R1:List S55):Prop:=
 ∀ (W:World) (Q:Nat->Prop) (AV:Option Addr) (cv:Nat) (AR:Option Addr) (cr:Nat) (A:Option Addr) (c:Nat) (B:Option Addr) (d:Nat),Below W0.heap.size W0 W->Cap AV V.length cv->Kd.F k93 W Q AV V.length V->Cap AR R.length cr->Kd.F k55 W Q AR R.length R->
  it.f4.f4.length<=c->Kd.C k85 W A it.f4.f4.length it.f4.f4->it.f5.f4.length<=d->Kd.C k85 W B it.f5.f4.length it.f5.f4->
  Calls Tryz.prog 105 #[.agg #[.slice AV V.length cv,.slice AR R.length cr,.slice none 0 0,.slice none 0 0],.agg (ItC it A c B d)] W fun e w'=> ∃ A1 c1 A2 c2,e=.returned (.tuple #[.agg #[.slice A1 V1.length c1,.slice A2 R1.length c2,.slice none 0 0,.slice none 0 0],.int .i64 0])∧Cap A1 V1.length c1∧Kd.F k93 w' (fun k=>(Q k∧k<W.heap.size)∨W.heap.size<=k) A1 V1.length V1∧Cap A2 R1.length c2∧Kd.F k55 w' (fun k=>(Q k∧k<W.heap.size)∨W.heap.size<=k) A2 R1.length R1∧Below W.heap.size W w'
def BuO (W:World)(l:List S87)(LV:Int->List S93)(LR:Int->List S55)(NM:Int->List ByteArray)(t6 t7:Value)(Wx:World):Prop:=
 ∃ (k:Int) (AV:Option Addr) (cv:Nat) (AR:Option Addr) (cr:Nat),0<=k∧k<=(l.length:Int)∧t7=.int .i64 k∧Below W.heap.size W Wx∧Wx.heap[W.heap.size]? =some (.cells #[.slice none 0 0,.slice none 0 0,.slice none 0 0,.slice none 0 0] 27 (0,0))∧
  Wx.heap[W.heap.size+1]? =some (.cells #[.slice AV (LV k).length cv,.slice AR (LR k).length cr,.slice none 0 0,.slice none 0 0] 27 (0,0))∧Cap AV (LV k).length cv∧Cap AR (LR k).length cr∧
  Kd.F k93 Wx (fun j=>W.heap.size+2<=j∧some j≠t6.ownBlock) AV (LV k).length (LV k)∧Kd.F k55 Wx (fun j=>W.heap.size+2<=j∧some j≠t6.ownBlock) AR (LR k).length (LR k)∧Kd.N Kd.string 9 Wx (W.heap.size+2) (fun j=>W.heap.size+2<=j) t6 (NM k)
def BuE (W:World)(v:S93)(R:List S55)(AV:Option Addr)(cv:Nat)(AR:Option Addr)(cr:Nat)(An:Option Addr)(nm:List ByteArray)(t10:Value)(Wx:World):Prop:=
 Kd.F Kd.string Wx (fun j=>W.heap.size+2<=j) An nm.length nm∧
 Below W.heap.size W Wx∧Wx.heap[W.heap.size]? =some (.cells #[.slice none 0 0,.slice none 0 0,.slice none 0 0,.slice none 0 0] 27 (0,0))∧Kd.F k93 Wx (fun j=>W.heap.size+2<=j) AV 1 [v]∧Kd.F k55 Wx (fun j=>W.heap.size+2<=j) AR R.length R∧
 ((t10=.int .i64 0∧Wx.heap[W.heap.size+1]? =some (.cells #[.slice AV 1 cv,.slice AR R.length cr,.slice none 0 0,.slice none 0 0] 27 (0,0)))∨
  (t10=.int .i64 1∧ ∃ AU cu,1<=cu∧Kd.F Kd.string Wx (fun j=>W.heap.size+2<=j) AU 1 [v.f0]∧Wx.heap[W.heap.size+1]? =some (.cells #[.slice AV 1 cv,.slice AR R.length cr,.slice none 0 0,.slice AU 1 cu] 27 (0,0))))
theorem build_loop (W:World)(l:List S87)(A0:Option Addr)(c0:Nat)(hc0:l.length<=c0)(hl:Kd.C k87 W A0 l.length l)(hl9:l.length<=1000)(LV:Int->List S93)(LR:Int->List S55)(NM:Int->List ByteArray)
  (hV0:LV 0=[]) (hR0:LR 0=[]) (hN0:NM 0=[])
  (h1: ∀ k:Int,0<=k->k<(l.length:Int)->OneStep W (an_ l k) (LV k) (LV (k+1)) (LR k) (LR (k+1)))
  (NA NB:Int->List ByteArray) (hNA: ∀ k:Int,0<=k->k<(l.length:Int)-> ∃ kk,ak_.f kk (an_ l k).f4.f0 (an_ l k).f4.f1 (an_ l k).f4.f2 (an_ l k).f4.f3 (an_ l k).f4.f4=some (NA k))
  (hNB: ∀ k:Int,0<=k->k<(l.length:Int)-> ∃ kk,ak_.f kk (an_ l k).f5.f0 (an_ l k).f5.f1 (an_ l k).f5.f2 (an_ l k).f5.f3 (an_ l k).f5.f4=some (NB k))
  (hNM: ∀ k:Int,0<=k->k<(l.length:Int)->NM (k+1)=(NM k ++ NA k) ++ NB k∧(NM (k+1)).length<=1000)
  (vv:S93) (hLV:LV (l.length:Int)=[vv]) (kh:Nat) (hhas:br_.f kh (NM (l.length:Int)) vv.f0=some true)
  (hk3: ∀ k:Int,0<=k->k<(l.length:Int)->(an_ l k).f0≠3):
  Calls Tryz.prog 71 #[.slice A0 l.length c0] W fun e w'=> ∃ AV cv AR cr AU cu,e=.returned (.tuple #[.agg #[.slice AV 1 cv,.slice AR (LR (l.length:Int)).length cr,.slice none 0 0,.slice AU 1 cu],.int .i64 (-1),.int .i64 0])∧1<=cv∧(LR (l.length:Int)).length<=cr∧1<=cu∧Kd.F k93 w' (fun j=>W.heap.size<=j) AV 1 [vv]∧Kd.F k55 w' (fun j=>W.heap.size<=j) AR (LR (l.length:Int)).length (LR (l.length:Int))∧Kd.F Kd.string w' (fun j=>W.heap.size<=j) AU 1 [vv.f0]∧Below W.heap.size W w':=by
 have ea:(W.alloc (.cells #[.slice none 0 0,.slice none 0 0,.slice none 0 0,.slice none 0 0] 27)).heap.size=W.heap.size+1:=Array.size_push _;obtain ⟨W1,hW1⟩: ∃ W_,W_=(W.alloc (.cells #[.slice none 0 0,.slice none 0 0,.slice none 0 0,.slice none 0 0] 27)).alloc (.cells #[.slice none 0 0,.slice none 0 0,.slice none 0 0,.slice none 0 0] 27):=⟨_,rfl⟩;have hb1:Below W.heap.size W W1:=by rw [hW1];exact ab_ (ab_ (Below.refl W.heap.size W) _) _
 have hr1:W1.heap[W.heap.size]? =some (.cells #[.slice none 0 0,.slice none 0 0,.slice none 0 0,.slice none 0 0] 27 (0,0)):=by rw [hW1];exact am_ (aj_ W _) _
 have hk1:W1.heap[W.heap.size+1]? =some (.cells #[.slice none 0 0,.slice none 0 0,.slice none 0 0,.slice none 0 0] 27 (0,0)):=by rw [hW1];exact ea ▸ aj_ (W.alloc (.cells #[.slice none 0 0,.slice none 0 0,.slice none 0 0,.slice none 0 0] 27)) _
 have H0:BuO W l LV LR NM (.slice none 0 0) (.int .i64 0) W1:=by
  refine ⟨0,none,0,none,0,Int.le_refl _,Int.natCast_nonneg _,rfl,hb1,hr1,?_,?_,?_,?_,?_,?_⟩
  ·rw [hV0,hR0];exact hk1
  ·rw [hV0];exact ⟨Nat.le_refl _,fun _=>⟨rfl,rfl⟩⟩
  ·rw [hR0];exact ⟨Nat.le_refl _,fun _=>⟨rfl,rfl⟩⟩
  ·rw [hV0];exact F_nil _ _ _
  ·rw [hR0];exact F_nil _ _ _
  ·rw [hN0];exact N_nil _ _ _ _ _
 have H0:=Sd.m H0;have H1:=Sd.m h1;have HK3:=Sd.m hk3;have HLV:=Sd.m hLV;have HHAS:=Sd.m hhas;clear hLV hhas;have HNA:=Sd.m hNA;have HNBF:=Sd.m hNB;have HNMS:=Sd.m hNM;clear hNA hNB hNM;have HL:=Sd.m hl;have HW1:=Sd.m hW1;clear ea hb1 hr1 hk1 hW1 h1 hk3 hl hV0 hR0 hN0;go_enter Tryz.func71,Tryz.ntmps71;go_wp2_with fail;rw [←HW1.out];go_loopw [6,7,8,9] (fun t6 t7 _ _ Wx=>BuO W l LV LR NM t6 t7 Wx) (fun _ t7 _ _ _=>(l.length - intOf t7).toNat)
 case atStart=>exact H0.out
 case round=>
  obtain ⟨k,AV,cv,AR,cr,hk0,hk,rfl,hb,hbr,hbk,hcv,hcr,hFV,hFR,hNM⟩:=hrel;obtain ⟨An,cn,rfl⟩:=N_slice hNM;have hNL:=fun j hj=>N_lt hNM j hj;have hNB:=fun j hj=>N_base hNM j hj;have HB:=Sd.m hb;have HBR:=Sd.m hbr;have HBK:=Sd.m hbk;have HFV:=Sd.m hFV;have HFR:=Sd.m hFR;have HNM:=Sd.m hNM;have HNL:=Sd.m hNL;have HNB:=Sd.m hNB;clear hb hbr hbk hFV hFR hNM hNL hNB;by_cases hlt:k<(l.length:Int)
  ·obtain ⟨ad,A8,c8,A13,c13,rfl,k0,k1,k2,k3,k4,k5,k6,k7,k8,k9,k10,k11,k12,k13,k14,l8,g8,l13,g13⟩:=at_T87 (Kd.C_below HL.out HB.out) k hk0 hlt;have hlt0:=dt__ hlt;obtain ⟨Vd,hVd⟩: ∃ W_,W_=wr.drew:=⟨_,rfl⟩;have hbd:Below wr.heap.size wr Vd:=by rw [hVd];exact ca_ (Below.refl _ _)
   have HBD:=Sd.m (HB.out.trans (hbd.mono HB.out.size));have S19: ∀ w',Below Vd.heap.size Vd w'->w'.cell? ⟨W.heap.size+1,0,none⟩=some (.slice AV (LV k).length cv)∧w'.cell? ⟨W.heap.size+1,1,none⟩=some (.slice AR (LR k).length cr)∧w'.cell? ⟨W.heap.size+1,2,none⟩=some (.slice none 0 0)∧w'.cell? ⟨W.heap.size+1,3,none⟩=some (.slice none 0 0)∧w'.cell? (ad.add (k.toNat*15))=some (.int .i64 (an_ l k).f0)∧w'.cell? ⟨(ad.add (k.toNat*15)).block,(ad.add (k.toNat*15)).off+1,none⟩=some (.string (an_ l k).f1)∧w'.cell? ⟨(ad.add (k.toNat*15)).block,(ad.add (k.toNat*15)).off+2,none⟩=some (.int .i64 (an_ l k).f2)∧w'.cell? ⟨(ad.add (k.toNat*15)).block,(ad.add (k.toNat*15)).off+3,none⟩=some (.bool (an_ l k).f3)∧w'.cell? ⟨(ad.add (k.toNat*15)).block,(ad.add (k.toNat*15)).off+4,none⟩=some (.int .i64 (an_ l k).f4.f0)∧w'.cell? ⟨(ad.add (k.toNat*15)).block,(ad.add (k.toNat*15)).off+5,none⟩=some (.string (an_ l k).f4.f1)∧w'.cell? ⟨(ad.add (k.toNat*15)).block,(ad.add (k.toNat*15)).off+6,none⟩=some (.int .i64 (an_ l k).f4.f2)∧w'.cell? ⟨(ad.add (k.toNat*15)).block,(ad.add (k.toNat*15)).off+7,none⟩=some (.int .i64 (an_ l k).f4.f3)∧w'.cell? ⟨(ad.add (k.toNat*15)).block,(ad.add (k.toNat*15)).off+8,none⟩=some (.slice A8 (an_ l k).f4.f4.length c8)∧w'.cell? ⟨(ad.add (k.toNat*15)).block,(ad.add (k.toNat*15)).off+9,none⟩=some (.int .i64 (an_ l k).f5.f0)∧w'.cell? ⟨(ad.add (k.toNat*15)).block,(ad.add (k.toNat*15)).off+10,none⟩=some (.string (an_ l k).f5.f1)∧w'.cell? ⟨(ad.add (k.toNat*15)).block,(ad.add (k.toNat*15)).off+11,none⟩=some (.int .i64 (an_ l k).f5.f2)∧w'.cell? ⟨(ad.add (k.toNat*15)).block,(ad.add (k.toNat*15)).off+12,none⟩=some (.int .i64 (an_ l k).f5.f3)∧w'.cell? ⟨(ad.add (k.toNat*15)).block,(ad.add (k.toNat*15)).off+13,none⟩=some (.slice A13 (an_ l k).f5.f4.length c13)∧w'.cell? ⟨(ad.add (k.toNat*15)).block,(ad.add (k.toNat*15)).off+14,none⟩=some (.int .i64 (an_ l k).f6):=by
    intro w' hw';have hq:=hbd.trans (hw'.mono hbd.size);have a1:=ag_ HBK.out hq;have cw:=fun (p:Addr) (v:Value) (h:wr.cell? p=some v)=>(hq.cell (bl__ wr _ h)).trans h;exact ⟨(af_ a1 0).trans rfl,(af_ a1 1).trans rfl,(af_ a1 2).trans rfl,(af_ a1 3).trans rfl,cw _ _ k0,cw _ _ k1,cw _ _ k2,cw _ _ k3,cw _ _ k4,cw _ _ k5,cw _ _ k6,cw _ _ k7,cw _ _ k8,cw _ _ k9,cw _ _ k10,cw _ _ k11,cw _ _ k12,cw _ _ k13,cw _ _ k14⟩
   have HS19:=Sd.m S19;have BD:=Sd.m (Below.refl Vd.heap.size Vd);have ONE:Sd (∀ Wj,Below Vd.heap.size Vd Wj->Calls Tryz.prog 105 #[.agg #[.slice AV (LV k).length cv,.slice AR (LR k).length cr,.slice none 0 0,.slice none 0 0],.agg #[.int .i64 (an_ l k).f0,.string (an_ l k).f1,.int .i64 (an_ l k).f2,.bool (an_ l k).f3,.int .i64 (an_ l k).f4.f0,.string (an_ l k).f4.f1,.int .i64 (an_ l k).f4.f2,.int .i64 (an_ l k).f4.f3,.slice A8 (an_ l k).f4.f4.length c8,.int .i64 (an_ l k).f5.f0,.string (an_ l k).f5.f1,.int .i64 (an_ l k).f5.f2,.int .i64 (an_ l k).f5.f3,.slice A13 (an_ l k).f5.f4.length c13,.int .i64 (an_ l k).f6]] Wj fun e w'=> ∃ A1 c1 A2 c2,e=.returned (.tuple #[.agg #[.slice A1 (LV (k+1)).length c1,.slice A2 (LR (k+1)).length c2,.slice none 0 0,.slice none 0 0],.int .i64 0])∧Cap A1 (LV (k+1)).length c1∧Kd.F k93 w' (fun j=>((W.heap.size+2<=j∧some j≠(Value.slice An (NM k).length cn).ownBlock)∧j<Vd.heap.size)∨Wj.heap.size<=j) A1 (LV (k+1)).length (LV (k+1))∧Cap A2 (LR (k+1)).length c2∧Kd.F k55 w' (fun j=>((W.heap.size+2<=j∧some j≠(Value.slice An (NM k).length cn).ownBlock)∧j<Vd.heap.size)∨Wj.heap.size<=j) A2 (LR (k+1)).length (LR (k+1))∧Below Wj.heap.size Wj w'):=by
    refine ⟨fun Wj hj=>?_⟩;have hq:=hbd.trans (hj.mono hbd.size);have hqW:=HB.out.trans (hq.mono HB.out.size);refine (H1.out k hk0 hlt Wj (fun j=>(W.heap.size+2<=j∧some j≠(Value.slice An (NM k).length cn).ownBlock)∧j<Vd.heap.size) AV cv AR cr A8 c8 A13 c13 hqW hcv (F_mono (F_below (F_bound HFV.out) hq) (fun j hj=>⟨hj.1,Nat.lt_of_lt_of_le hj.2 hbd.size⟩)) hcr (F_mono (F_below (F_bound HFR.out) hq) (fun j hj=>⟨hj.1,Nat.lt_of_lt_of_le hj.2 hbd.size⟩)) l8 (Kd.C_below g8 hq) l13 (Kd.C_below g13 hq)).mono ?_;rintro e w' ⟨A1,c1,A2,c2,he,h1,hF1,h2,hF2,hb⟩;exact ⟨A1,c1,A2,c2,he,h1,F_mono hF1 (fun j hj=>Or.elim hj (fun h=>Or.inl h.1) Or.inr),h2,F_mono hF2 (fun j hj=>Or.elim hj (fun h=>Or.inl h.1) Or.inr),hb⟩
   have HBDR:=Sd.m hbd;have HNV:Sd (∀ j,(Value.slice An (NM k).length cn).ownBlock=some j->j<Vd.heap.size):=⟨fun j hj=>Nat.lt_of_lt_of_le (HNL.out j hj) hbd.size⟩;have HG8:=Sd.m (And.intro l8 g8);have HG13:=Sd.m (And.intro l13 g13);have HZ2:=Sd.m (show W.heap.size+2<=Vd.heap.size from Nat.le_trans (cc_ HBK.out) hbd.size);clear S19 hbd k0 k1 k2 k3 k4 k5 k6 k7 k8 k9 k10 k11 k12 k13 k14 l8 g8 l13 g13;go_upto_region 6 with fail
   -- REGION 6
   refine start_ (n:=12) (S:=fun w'=>w'.cell? ⟨W.heap.size+1,0,none⟩=some (.slice AV (LV k).length cv)∧w'.cell? ⟨W.heap.size+1,1,none⟩=some (.slice AR (LR k).length cr)∧w'.cell? ⟨W.heap.size+1,2,none⟩=some (.slice none 0 0)∧w'.cell? ⟨W.heap.size+1,3,none⟩=some (.slice none 0 0)∧w'.cell? (ad.add (k.toNat*15))=some (.int .i64 (an_ l k).f0)∧w'.cell? ⟨(ad.add (k.toNat*15)).block,(ad.add (k.toNat*15)).off+1,none⟩=some (.string (an_ l k).f1)∧w'.cell? ⟨(ad.add (k.toNat*15)).block,(ad.add (k.toNat*15)).off+2,none⟩=some (.int .i64 (an_ l k).f2)∧w'.cell? ⟨(ad.add (k.toNat*15)).block,(ad.add (k.toNat*15)).off+3,none⟩=some (.bool (an_ l k).f3)∧w'.cell? ⟨(ad.add (k.toNat*15)).block,(ad.add (k.toNat*15)).off+4,none⟩=some (.int .i64 (an_ l k).f4.f0)∧w'.cell? ⟨(ad.add (k.toNat*15)).block,(ad.add (k.toNat*15)).off+5,none⟩=some (.string (an_ l k).f4.f1)∧w'.cell? ⟨(ad.add (k.toNat*15)).block,(ad.add (k.toNat*15)).off+6,none⟩=some (.int .i64 (an_ l k).f4.f2)∧w'.cell? ⟨(ad.add (k.toNat*15)).block,(ad.add (k.toNat*15)).off+7,none⟩=some (.int .i64 (an_ l k).f4.f3)∧w'.cell? ⟨(ad.add (k.toNat*15)).block,(ad.add (k.toNat*15)).off+8,none⟩=some (.slice A8 (an_ l k).f4.f4.length c8)∧w'.cell? ⟨(ad.add (k.toNat*15)).block,(ad.add (k.toNat*15)).off+9,none⟩=some (.int .i64 (an_ l k).f5.f0)∧w'.cell? ⟨(ad.add (k.toNat*15)).block,(ad.add (k.toNat*15)).off+10,none⟩=some (.string (an_ l k).f5.f1)∧w'.cell? ⟨(ad.add (k.toNat*15)).block,(ad.add (k.toNat*15)).off+11,none⟩=some (.int .i64 (an_ l k).f5.f2)∧w'.cell? ⟨(ad.add (k.toNat*15)).block,(ad.add (k.toNat*15)).off+12,none⟩=some (.int .i64 (an_ l k).f5.f3)∧w'.cell? ⟨(ad.add (k.toNat*15)).block,(ad.add (k.toNat*15)).off+13,none⟩=some (.slice A13 (an_ l k).f5.f4.length c13)∧w'.cell? ⟨(ad.add (k.toNat*15)).block,(ad.add (k.toNat*15)).off+14,none⟩=some (.int .i64 (an_ l k).f6)) (ds:=[10]) #[false,false,false,false,false,false,false,false,false,false,false,false] (by kernel_rfl) rfl rfl (by rw [←hVd];exact (HS19.out _ (Below.refl _ _))) (fun hHeld=>?_);rw [←hVd] at hHeld ⊢;clear hVd;refine pu_ 1 19 ?_;refine pu_ 2 20 ?_;refine pu_ 3 21 ?_;refine ta_ 0 18 hHeld ?_;refine ta_ 4 22 hHeld ?_;refine join_ (σ:=(Option Addr × Nat) × (Option Addr × Nat) × Nat) 2 #[true,true,true,true,true,true,true,true,true,true,false,false] (fun s=>[(23,.tuple #[.agg #[.slice s.1.1 (LV (k+1)).length s.1.2,.slice s.2.1.1 (LR (k+1)).length s.2.1.2,.slice none 0 0,.slice none 0 0],.int .i64 0]),(17,.tuple #[.agg #[.slice s.1.1 (LV (k+1)).length s.1.2,.slice s.2.1.1 (LR (k+1)).length s.2.1.2,.slice none 0 0,.slice none 0 0],.int .i64 0]),(24,.agg #[.slice s.1.1 (LV (k+1)).length s.1.2,.slice s.2.1.1 (LR (k+1)).length s.2.1.2,.slice none 0 0,.slice none 0 0]),(25,.int .i64 0),(8,.pointer (some ⟨s.2.2,0,none⟩))]) (fun s w'=>(w'.cell? ⟨W.heap.size+1,0,none⟩=some (.slice AV (LV k).length cv)∧w'.cell? ⟨W.heap.size+1,1,none⟩=some (.slice AR (LR k).length cr)∧w'.cell? ⟨W.heap.size+1,2,none⟩=some (.slice none 0 0)∧w'.cell? ⟨W.heap.size+1,3,none⟩=some (.slice none 0 0)∧w'.cell? (ad.add (k.toNat*15))=some (.int .i64 (an_ l k).f0)∧w'.cell? ⟨(ad.add (k.toNat*15)).block,(ad.add (k.toNat*15)).off+1,none⟩=some (.string (an_ l k).f1)∧w'.cell? ⟨(ad.add (k.toNat*15)).block,(ad.add (k.toNat*15)).off+2,none⟩=some (.int .i64 (an_ l k).f2)∧w'.cell? ⟨(ad.add (k.toNat*15)).block,(ad.add (k.toNat*15)).off+3,none⟩=some (.bool (an_ l k).f3)∧w'.cell? ⟨(ad.add (k.toNat*15)).block,(ad.add (k.toNat*15)).off+4,none⟩=some (.int .i64 (an_ l k).f4.f0)∧w'.cell? ⟨(ad.add (k.toNat*15)).block,(ad.add (k.toNat*15)).off+5,none⟩=some (.string (an_ l k).f4.f1)∧w'.cell? ⟨(ad.add (k.toNat*15)).block,(ad.add (k.toNat*15)).off+6,none⟩=some (.int .i64 (an_ l k).f4.f2)∧w'.cell? ⟨(ad.add (k.toNat*15)).block,(ad.add (k.toNat*15)).off+7,none⟩=some (.int .i64 (an_ l k).f4.f3)∧w'.cell? ⟨(ad.add (k.toNat*15)).block,(ad.add (k.toNat*15)).off+8,none⟩=some (.slice A8 (an_ l k).f4.f4.length c8)∧w'.cell? ⟨(ad.add (k.toNat*15)).block,(ad.add (k.toNat*15)).off+9,none⟩=some (.int .i64 (an_ l k).f5.f0)∧w'.cell? ⟨(ad.add (k.toNat*15)).block,(ad.add (k.toNat*15)).off+10,none⟩=some (.string (an_ l k).f5.f1)∧w'.cell? ⟨(ad.add (k.toNat*15)).block,(ad.add (k.toNat*15)).off+11,none⟩=some (.int .i64 (an_ l k).f5.f2)∧w'.cell? ⟨(ad.add (k.toNat*15)).block,(ad.add (k.toNat*15)).off+12,none⟩=some (.int .i64 (an_ l k).f5.f3)∧w'.cell? ⟨(ad.add (k.toNat*15)).block,(ad.add (k.toNat*15)).off+13,none⟩=some (.slice A13 (an_ l k).f5.f4.length c13)∧w'.cell? ⟨(ad.add (k.toNat*15)).block,(ad.add (k.toNat*15)).off+14,none⟩=some (.int .i64 (an_ l k).f6))∧Cap s.1.1 (LV (k+1)).length s.1.2∧Kd.F k93 w' (fun j=>(W.heap.size+2<=j∧some j≠(Value.slice An (NM k).length cn).ownBlock)∧j≠s.2.2) s.1.1 (LV (k+1)).length (LV (k+1))∧Cap s.2.1.1 (LR (k+1)).length s.2.1.2∧Kd.F k55 w' (fun j=>(W.heap.size+2<=j∧some j≠(Value.slice An (NM k).length cn).ownBlock)∧j≠s.2.2) s.2.1.1 (LR (k+1)).length (LR (k+1))∧w'.heap[s.2.2]? =some (.cells #[.slice none 0 0,.slice none 0 0,.slice none 0 0,.slice none 0 0] 27 (0,0))∧Vd.heap.size<=s.2.2∧Below Vd.heap.size Vd w') ?_ ?_;rotate_left
   ·intro hCont;refine two_ (i:=5) (j:=9) (Ni:=some 23) (Nj:=some 8) #[true,true,true,true,true,true,false,false,false,false,false,false] #[true,true,true,true,true,false,false,false,false,true,false,false] rfl rfl rfl rfl (by kernel_rfl) (by decide) (by decide) (fun K hK=>?_) (fun K hK=>?_)
    ·skip;refine goes_ Tryz.func105 (by kernel_rfl) rfl #[.agg #[.slice AV (LV k).length cv,.slice AR (LR k).length cr,.slice none 0 0,.slice none 0 0],.agg #[.int .i64 (an_ l k).f0,.string (an_ l k).f1,.int .i64 (an_ l k).f2,.bool (an_ l k).f3,.int .i64 (an_ l k).f4.f0,.string (an_ l k).f4.f1,.int .i64 (an_ l k).f4.f2,.int .i64 (an_ l k).f4.f3,.slice A8 (an_ l k).f4.f4.length c8,.int .i64 (an_ l k).f5.f0,.string (an_ l k).f5.f1,.int .i64 (an_ l k).f5.f2,.int .i64 (an_ l k).f5.f3,.slice A13 (an_ l k).f5.f4.length c13,.int .i64 (an_ l k).f6]] (by rfl) rfl rfl (by simp only [List.map_toArray,List.map_cons,List.map_nil];rfl) ?_;(with_reducible refine (ONE.out Vd BD.out).mono ?_);rintro e_ Wq1 ⟨A1,c1,A2,c2,rfl,hl1,hF1,hl2,hF2,hb_⟩;refine ⟨_,rfl,?_⟩;have hB_:Below Vd.heap.size Vd Wq1:=BD.out.trans (hb_.mono BD.out.size);have BWq1:=Sd.m hB_;have HLL:=Sd.m (And.intro hl1 hl2);have HF1:=Sd.m hF1;have HF2:=Sd.m hF2;clear hl1 hl2 hF1 hF2 hb_ hB_;refine hK.out _ _ (HS19.out _ BWq1.out) (fun hHeld=>?_);clear hK K;refine no_ 23 ?_;refine pu_ 6 17 ?_;refine pu_ 7 24 ?_;refine pu_ 8 25 ?_;refine on_ 9 8 (fun K hK=>?_);refine value_ (w1:=?_) (v:=?_) (by rfl) rfl ?_ ?_;rotate_left 2
     ·go_simp;constructor
      ·rfl
      ·rfl
     have hT:=aj_ Wq1 (.cells #[.slice none 0 0,.slice none 0 0,.slice none 0 0,.slice none 0 0] 27);have hb_:=ab_ (Below.refl Wq1.heap.size Wq1) (.cells #[.slice none 0 0,.slice none 0 0,.slice none 0 0,.slice none 0 0] 27);have hs_:(Wq1.alloc (.cells #[.slice none 0 0,.slice none 0 0,.slice none 0 0,.slice none 0 0] 27)).heap.size=Wq1.heap.size+1:=Array.size_push _;have ok_: ∀ j,((((W.heap.size+2<=j∧some j≠(Value.slice An (NM k).length cn).ownBlock)∧j<Vd.heap.size)∨Vd.heap.size<=j)∧j<Wq1.heap.size)->((W.heap.size+2<=j∧some j≠(Value.slice An (NM k).length cn).ownBlock)∧j≠Wq1.heap.size):=fun j hj=>by have h3_:=HZ2.out;exact Or.elim hj.1 (fun hk=>⟨hk.1,Nat.ne_of_lt hj.2⟩) (fun hk=>⟨⟨by omega,fun he=>by have:=HNV.out j he.symm;omega⟩,Nat.ne_of_lt hj.2⟩)
     have hF1:=F_mono (F_below (F_bound HF1.out) hb_) ok_;have hF2:=F_mono (F_below (F_bound HF2.out) hb_) ok_;clear ok_;have hB_:Below Vd.heap.size Vd _:=BWq1.out.trans (hb_.mono BWq1.out.size);generalize Wq1.alloc (.cells #[.slice none 0 0,.slice none 0 0,.slice none 0 0,.slice none 0 0] 27)=Wq2 at hT hb_ hs_ hB_ hF1 hF2 ⊢;have HT:=Sd.m hT;have BWq2:=Sd.m hB_;have SZ2:=Sd.m hs_;clear HF1 HF2;have HF1:=Sd.m hF1;have HF2:=Sd.m hF2;clear hF1 hF2;clear hT hb_ hB_ hs_;refine hK.out _ _ (HS19.out _ BWq2.out) (fun hHeld=>?_);clear hK K;refine no_ 8 ?_;refine norm_ ?_ (hCont ((A1,c1),(A2,c2),Wq1.heap.size) _ ?_)
     ·first | (simp only [putAll,Act.put,List.setIfInBounds_toArray,List.set_cons_zero,List.set_cons_succ];done) | (simp only [putAll,Act.put,List.setIfInBounds_toArray,List.set_cons_zero,List.set_cons_succ];rfl)
     exact ⟨hHeld,HLL.out.1,HF1.out,HLL.out.2,HF2.out,HT.out,by exact BWq1.out.size,BWq2.out⟩
    ·skip;refine value_ (w1:=?_) (v:=?_) (by rfl) rfl ?_ ?_;rotate_left 2
     ·go_simp;constructor
      ·rfl
      ·rfl
     have hT:=aj_ Vd (.cells #[.slice none 0 0,.slice none 0 0,.slice none 0 0,.slice none 0 0] 27);have hb_:=ab_ (Below.refl Vd.heap.size Vd) (.cells #[.slice none 0 0,.slice none 0 0,.slice none 0 0,.slice none 0 0] 27);have hs_:(Vd.alloc (.cells #[.slice none 0 0,.slice none 0 0,.slice none 0 0,.slice none 0 0] 27)).heap.size=Vd.heap.size+1:=Array.size_push _;have hB_:Below Vd.heap.size Vd _:=BD.out.trans (hb_.mono BD.out.size);generalize Vd.alloc (.cells #[.slice none 0 0,.slice none 0 0,.slice none 0 0,.slice none 0 0] 27)=Wq1 at hT hb_ hs_ hB_ ⊢;have HT:=Sd.m hT;have BWq1:=Sd.m hB_;have SZ1:=Sd.m hs_;clear hT hb_ hB_ hs_;refine hK.out _ _ (HS19.out _ BWq1.out) (fun hHeld=>?_);clear hK K;refine no_ 8 ?_;refine on_ 5 23 (fun K hK=>?_);refine goes_ Tryz.func105 (by kernel_rfl) rfl #[.agg #[.slice AV (LV k).length cv,.slice AR (LR k).length cr,.slice none 0 0,.slice none 0 0],.agg #[.int .i64 (an_ l k).f0,.string (an_ l k).f1,.int .i64 (an_ l k).f2,.bool (an_ l k).f3,.int .i64 (an_ l k).f4.f0,.string (an_ l k).f4.f1,.int .i64 (an_ l k).f4.f2,.int .i64 (an_ l k).f4.f3,.slice A8 (an_ l k).f4.f4.length c8,.int .i64 (an_ l k).f5.f0,.string (an_ l k).f5.f1,.int .i64 (an_ l k).f5.f2,.int .i64 (an_ l k).f5.f3,.slice A13 (an_ l k).f5.f4.length c13,.int .i64 (an_ l k).f6]] (by rfl) rfl rfl (by simp only [List.map_toArray,List.map_cons,List.map_nil];rfl) ?_;(with_reducible refine (ONE.out Wq1 BWq1.out).mono ?_);rintro e_ Wq2 ⟨A1,c1,A2,c2,rfl,hl1,hF1,hl2,hF2,hb_⟩;refine ⟨_,rfl,?_⟩;have hB_:Below Vd.heap.size Vd Wq2:=BWq1.out.trans (hb_.mono BWq1.out.size);have hT_:=ag_ HT.out hb_;clear HT;have HT:=Sd.m hT_;clear hT_;have BWq2:=Sd.m hB_;have HLL:=Sd.m (And.intro hl1 hl2);have ok_: ∀ j,(((W.heap.size+2<=j∧some j≠(Value.slice An (NM k).length cn).ownBlock)∧j<Vd.heap.size)∨Wq1.heap.size<=j)->((W.heap.size+2<=j∧some j≠(Value.slice An (NM k).length cn).ownBlock)∧j≠Vd.heap.size):=fun j hj=>by have h1_:=SZ1.out;have h3_:=HZ2.out;exact Or.elim hj (fun hj=>⟨hj.1,Nat.ne_of_lt hj.2⟩) (fun hj=>⟨⟨by omega,fun he=>by have:=HNV.out j he.symm;omega⟩,by omega⟩)
     have HF1:=Sd.m (F_mono hF1 ok_);have HF2:=Sd.m (F_mono hF2 ok_);clear ok_;clear hl1 hl2 hF1 hF2 hb_ hB_;refine hK.out _ _ (HS19.out _ BWq2.out) (fun hHeld=>?_);clear hK K;refine no_ 23 ?_;refine pu_ 6 17 ?_;refine pu_ 7 24 ?_;refine pu_ 8 25 ?_;refine norm_ ?_ (hCont ((A1,c1),(A2,c2),Vd.heap.size) _ ?_)
     ·first | (simp only [putAll,Act.put,List.setIfInBounds_toArray,List.set_cons_zero,List.set_cons_succ];done) | (simp only [putAll,Act.put,List.setIfInBounds_toArray,List.set_cons_zero,List.set_cons_succ];rfl)
     exact ⟨hHeld,HLL.out.1,HF1.out,HLL.out.2,HF2.out,HT.out,by exact Nat.le_refl _,BWq2.out⟩
   rintro ⟨⟨A1,c1⟩,⟨A2,c2⟩,g8⟩ Wj ⟨hHeld,hl1,hF1,hl2,hF2,hT,hg8,hbj⟩;dsimp only at hl1 hF1 hl2 hF2 hT hg8;dsimp only [putAll];have n0:=bc_ hT 0 rfl;have n1:=bc_ hT 1 rfl;have n2:=bc_ hT 2 rfl;have n3:=bc_ hT 3 rfl;have m0:=aa_ hT 0;have m1:=aa_ hT 1;have m2:=aa_ hT 2;have m3:=aa_ hT 3;have HF1:=Sd.m hF1;have HF2:=Sd.m hF2;have HT:=Sd.m hT;have HBJ:=Sd.m hbj;have HG8_:=Sd.m hg8;clear hF1 hF2 hT hbj hg8;refine norm_ (a':=?_) ?_ ?_;rotate_left
   ·simp only [putAll,Act.put,List.setIfInBounds_toArray,List.set_cons_zero,List.set_cons_succ];rfl
   refine last_ (i:=10) (N:=none) #[true,true,true,true,true,true,true,true,true,true,true,false] rfl rfl (by kernel_rfl) (by decide) (fun K hK=>?_);refine skip_ (w1:=?_) (by rfl) rfl ?_ ?_;rotate_left
   ·go_simp;rfl
   refine hK.out _ _ ?_;clear hK K;refine pu_ 11 9 ?_;refine done_ (by kernel_rfl) ?_;obtain ⟨Wa,hWa⟩: ∃ W_,W_=putL Wj g8 0 [.slice A1 (LV (k+1)).length c1,.slice A2 (LR (k+1)).length c2,.slice none 0 0,.slice none 0 0]:=⟨_,rfl⟩;have hg8:=HG8_.out;have hz2:=HZ2.out;have hbA:Below Vd.heap.size Vd Wa:=by rw [hWa];exact cn_ hg8 _ Wj 0 HBJ.out
   have hta:Wa.heap[g8]? =some (.cells #[.slice A1 (LV (k+1)).length c1,.slice A2 (LR (k+1)).length c2,.slice none 0 0,.slice none 0 0] 27 (0,0)):=by rw [hWa];exact cx_ _ Wj 0 _ HT.out
   have hF1a:Kd.F k93 Wa (fun j=>W.heap.size+2<=j∧some j≠(Value.slice An (NM k).length cn).ownBlock) A1 (LV (k+1)).length (LV (k+1)):=by rw [hWa];exact F_mono (ci_ (n:=g8) (fun j hj=>hj.2) _ Wj 0 HF1.out) (fun j hj=>hj.1)
   have hF2a:Kd.F k55 Wa (fun j=>W.heap.size+2<=j∧some j≠(Value.slice An (NM k).length cn).ownBlock) A2 (LR (k+1)).length (LR (k+1)):=by rw [hWa];exact F_mono (ci_ (n:=g8) (fun j hj=>hj.2) _ Wj 0 HF2.out) (fun j hj=>hj.1)
   have hqa:=HBDR.out.trans (hbA.mono HBDR.out.size);have hka:=ag_ HBK.out hqa;have hra:=ag_ HBR.out hqa;have hna:=N_below HNM.out hqa;obtain ⟨Wb,hWb⟩: ∃ W_,W_=putL Wa (W.heap.size+1) 0 [.slice A1 (LV (k+1)).length c1,.slice A2 (LR (k+1)).length c2,.slice none 0 0,.slice none 0 0]:=⟨_,rfl⟩;have hkb:Wb.heap[W.heap.size+1]? =some (.cells #[.slice A1 (LV (k+1)).length c1,.slice A2 (LR (k+1)).length c2,.slice none 0 0,.slice none 0 0] 27 (0,0)):=by rw [hWb];exact cx_ _ Wa 0 _ hka
   have hrb:Wb.heap[W.heap.size]? =some (.cells #[.slice none 0 0,.slice none 0 0,.slice none 0 0,.slice none 0 0] 27 (0,0)):=by rw [hWb];exact eq_ (n:=W.heap.size+1) (by omega) _ Wa 0 hra
   have hF1b:Kd.F k93 Wb (fun j=>W.heap.size+2<=j∧some j≠(Value.slice An (NM k).length cn).ownBlock) A1 (LV (k+1)).length (LV (k+1)):=by rw [hWb];exact ci_ (n:=W.heap.size+1) (fun j hj=>by have:=hj.1;omega) _ Wa 0 hF1a
   have hF2b:Kd.F k55 Wb (fun j=>W.heap.size+2<=j∧some j≠(Value.slice An (NM k).length cn).ownBlock) A2 (LR (k+1)).length (LR (k+1)):=by rw [hWb];exact ci_ (n:=W.heap.size+1) (fun j hj=>by have:=hj.1;omega) _ Wa 0 hF2a
   have hbB:Below W.heap.size W Wb:=by rw [hWb];exact cn_ (n:=W.heap.size+1) (by omega) _ Wa 0 (HB.out.trans (hqa.mono HB.out.size))
   replace hWa:Wa=(((Wj.setCell ⟨g8,0,none⟩ (.slice A1 (LV (k+1)).length c1)).setCell ⟨g8,1,none⟩ (.slice A2 (LR (k+1)).length c2)).setCell ⟨g8,2,none⟩ (.slice none 0 0)).setCell ⟨g8,3,none⟩ (.slice none 0 0):=hWa;replace hWb:Wb=(((Wa.setCell ⟨W.heap.size+1,0,none⟩ (.slice A1 (LV (k+1)).length c1)).setCell ⟨W.heap.size+1,1,none⟩ (.slice A2 (LR (k+1)).length c2)).setCell ⟨W.heap.size+1,2,none⟩ (.slice none 0 0)).setCell ⟨W.heap.size+1,3,none⟩ (.slice none 0 0):=hWb;have okn: ∀ j,W.heap.size+2<=j->j≠W.heap.size+1:=fun j hj=>by omega
   have hnb:Kd.N Kd.string 9 Wb (W.heap.size+2) (fun j=>W.heap.size+2<=j) (.slice An (NM k).length cn) (NM k):=by
    rw [hWb];exact N_far (p:=⟨W.heap.size+1,3,none⟩) (N_far (p:=⟨W.heap.size+1,2,none⟩) (N_far (p:=⟨W.heap.size+1,1,none⟩) (N_far (p:=⟨W.heap.size+1,0,none⟩) hna okn _) okn _) okn _) okn _
   have q0:=bc_ hta 0 rfl;have s0:=bc_ hka 0 rfl;have z0:=aa_ hka 0;have q1:=bc_ hta 1 rfl;have s1:=bc_ hka 1 rfl;have z1:=aa_ hka 1;have q2:=bc_ hta 2 rfl;have s2:=bc_ hka 2 rfl;have z2:=aa_ hka 2;have q3:=bc_ hta 3 rfl;have s3:=bc_ hka 3 rfl;have z3:=aa_ hka 3;have HWA:=Sd.m hWa;have HWB:=Sd.m hWb;have HKB:=Sd.m hkb;have HRB:=Sd.m hrb;have HF1B:=Sd.m hF1b;have HF2B:=Sd.m hF2b;have HBB:=Sd.m hbB;have HNB2:=Sd.m hnb;clear n0 n1 n2 n3 m0 m1 m2 m3 hWa hWb hkb hrb hF1b hF2b hbB hnb hg8 hz2 hbA hta hF1a hF2a hqa hka hra hna okn HF1 HF2 HT HBJ HG8_ HFV HFR;go_upto_region 9 with fail;rw [←HWA.out];go_upto_region 10 with fail;rw [←HWB.out];obtain ⟨ad2,B8,e8,B13,e13,he,j0,j1,j2,j3,j4,j5,j6,j7,j8,j9,j10,j11,j12,j13,j14,l8,g8,l13,g13⟩:=at_T87 HL.out k hk0 hlt;injection he with he;subst he;have cw:=fun (w:World) (hw:Below W.heap.size W w) (p:Addr) (v:Value) (h:W.cell? p=some v)=>(hw.cell (bl__ W _ h)).trans h;have hk3:((an_ l k).f0 == 3)=false:=by simpa using HK3.out k hk0 hlt
   have i0:=cw Wb HBB.out _ _ j0;obtain ⟨kA,hA⟩:=HNA.out k hk0 hlt;obtain ⟨kB,hB⟩:=HNBF.out k hk0 hlt;obtain ⟨hM,hM9⟩:=HNMS.out k hk0 hlt;have HM:=Sd.m hM;have hM1:(NM k).length+(NA k).length+(NB k).length<=1000:=by rw [hM] at hM9;simp only [List.length_append] at hM9;omega
   have HM9:=Sd.m hM1;have NMA:Sd (∀ w,Below W.heap.size W w->Calls Tryz.prog 106 #[.agg #[.int .i64 (an_ l k).f4.f0,.string (an_ l k).f4.f1,.int .i64 (an_ l k).f4.f2,.int .i64 (an_ l k).f4.f3,.slice B8 (an_ l k).f4.f4.length e8]] w fun e w'=> ∃ B1 m1,e=.returned (.slice B1 (NA k).length m1)∧Kd.F Kd.string w' (fun j=>w.heap.size<=j∧j<w'.heap.size) B1 (NA k).length (NA k)∧Below w.heap.size w w'):=⟨fun w hw=>kr_ kA _ B8 e8 _ w (Kd.C_below g8 hw) l8 hA⟩;have NMB:Sd (∀ w,Below W.heap.size W w->Calls Tryz.prog 106 #[.agg #[.int .i64 (an_ l k).f5.f0,.string (an_ l k).f5.f1,.int .i64 (an_ l k).f5.f2,.int .i64 (an_ l k).f5.f3,.slice B13 (an_ l k).f5.f4.length e13]] w fun e w'=> ∃ B1 m1,e=.returned (.slice B1 (NB k).length m1)∧Kd.F Kd.string w' (fun j=>w.heap.size<=j∧j<w'.heap.size) B1 (NB k).length (NB k)∧Below w.heap.size w w'):=⟨fun w hw=>kr_ kB _ B13 e13 _ w (Kd.C_below g13 hw) l13 hB⟩;have HS10:Sd (∀ w',Below W.heap.size W w'->w'.cell? ⟨(ad.add (k.toNat*15)).block,(ad.add (k.toNat*15)).off+4,none⟩=some (.int .i64 (an_ l k).f4.f0)∧w'.cell? ⟨(ad.add (k.toNat*15)).block,(ad.add (k.toNat*15)).off+5,none⟩=some (.string (an_ l k).f4.f1)∧w'.cell? ⟨(ad.add (k.toNat*15)).block,(ad.add (k.toNat*15)).off+6,none⟩=some (.int .i64 (an_ l k).f4.f2)∧w'.cell? ⟨(ad.add (k.toNat*15)).block,(ad.add (k.toNat*15)).off+7,none⟩=some (.int .i64 (an_ l k).f4.f3)∧w'.cell? ⟨(ad.add (k.toNat*15)).block,(ad.add (k.toNat*15)).off+8,none⟩=some (.slice B8 (an_ l k).f4.f4.length e8)∧w'.cell? ⟨(ad.add (k.toNat*15)).block,(ad.add (k.toNat*15)).off+9,none⟩=some (.int .i64 (an_ l k).f5.f0)∧w'.cell? ⟨(ad.add (k.toNat*15)).block,(ad.add (k.toNat*15)).off+10,none⟩=some (.string (an_ l k).f5.f1)∧w'.cell? ⟨(ad.add (k.toNat*15)).block,(ad.add (k.toNat*15)).off+11,none⟩=some (.int .i64 (an_ l k).f5.f2)∧w'.cell? ⟨(ad.add (k.toNat*15)).block,(ad.add (k.toNat*15)).off+12,none⟩=some (.int .i64 (an_ l k).f5.f3)∧w'.cell? ⟨(ad.add (k.toNat*15)).block,(ad.add (k.toNat*15)).off+13,none⟩=some (.slice B13 (an_ l k).f5.f4.length e13)):=⟨fun w' hw=>⟨cw w' hw _ _ j4,cw w' hw _ _ j5,cw w' hw _ _ j6,cw w' hw _ _ j7,cw w' hw _ _ j8,cw w' hw _ _ j9,cw w' hw _ _ j10,cw w' hw _ _ j11,cw w' hw _ _ j12,cw w' hw _ _ j13⟩⟩;have NS:NmAt W Wb (Value.slice An (NM k).length cn).ownBlock A1 (LV (k+1)) A2 (LR (k+1)) #[.slice A1 (LV (k+1)).length c1,.slice A2 (LR (k+1)).length c2,.slice none 0 0,.slice none 0 0] Wb (.slice An (NM k).length cn) (NM k):=⟨HNB2.out,fun j hj=>Or.inl hj,Nat.le_refl _,F_bound HF1B.out,F_bound HF2B.out,HBB.out,HRB.out,HKB.out⟩;obtain ⟨Ve,hVe⟩: ∃ W_,W_=Wb.drew:=⟨_,rfl⟩;have NSE:=Sd.m (NS.below (show Below Wb.heap.size Wb Ve by rw [hVe];exact ca_ (Below.refl _ _)));clear j0 j1 j2 j3 j4 j5 j6 j7 j8 j9 j10 j11 j12 j13 j14 l8 g8 l13 g13 cw hA hB hM hM9 hM1 NS q0 s0 z0 q1 s1 z1 q2 s2 z2 q3 s3 z3;go_upto_region 11 with fail;clear i0 hk3;refine start_ (n:=16) (S:=fun w'=>w'.cell? ⟨(ad.add (k.toNat*15)).block,(ad.add (k.toNat*15)).off+4,none⟩=some (.int .i64 (an_ l k).f4.f0)∧w'.cell? ⟨(ad.add (k.toNat*15)).block,(ad.add (k.toNat*15)).off+5,none⟩=some (.string (an_ l k).f4.f1)∧w'.cell? ⟨(ad.add (k.toNat*15)).block,(ad.add (k.toNat*15)).off+6,none⟩=some (.int .i64 (an_ l k).f4.f2)∧w'.cell? ⟨(ad.add (k.toNat*15)).block,(ad.add (k.toNat*15)).off+7,none⟩=some (.int .i64 (an_ l k).f4.f3)∧w'.cell? ⟨(ad.add (k.toNat*15)).block,(ad.add (k.toNat*15)).off+8,none⟩=some (.slice B8 (an_ l k).f4.f4.length e8)∧w'.cell? ⟨(ad.add (k.toNat*15)).block,(ad.add (k.toNat*15)).off+9,none⟩=some (.int .i64 (an_ l k).f5.f0)∧w'.cell? ⟨(ad.add (k.toNat*15)).block,(ad.add (k.toNat*15)).off+10,none⟩=some (.string (an_ l k).f5.f1)∧w'.cell? ⟨(ad.add (k.toNat*15)).block,(ad.add (k.toNat*15)).off+11,none⟩=some (.int .i64 (an_ l k).f5.f2)∧w'.cell? ⟨(ad.add (k.toNat*15)).block,(ad.add (k.toNat*15)).off+12,none⟩=some (.int .i64 (an_ l k).f5.f3)∧w'.cell? ⟨(ad.add (k.toNat*15)).block,(ad.add (k.toNat*15)).off+13,none⟩=some (.slice B13 (an_ l k).f5.f4.length e13)) (ds:=[]) #[false,false,false,false,false,false,false,false,false,false,false,false,false,false,false,false] (by kernel_rfl) rfl rfl (by rw [←hVe];exact (HS10.out _ NSE.out.B)) (fun hHeld=>?_);rw [←hVe] at hHeld ⊢;clear hVe;refine pu_ 0 42 ?_;refine pu_ 1 43 ?_;refine pu_ 2 44 ?_;refine pu_ 3 45 ?_;refine pu_ 4 46 ?_;refine pu_ 8 50 ?_;refine pu_ 9 51 ?_;refine pu_ 10 52 ?_;refine pu_ 11 53 ?_;refine ta_ 5 47 hHeld ?_;refine ta_ 12 54 hHeld ?_;refine on_ 6 48 (fun K hK=>?_);refine goes_ Tryz.func106 (by kernel_rfl) rfl #[.agg #[.int .i64 (an_ l k).f4.f0,.string (an_ l k).f4.f1,.int .i64 (an_ l k).f4.f2,.int .i64 (an_ l k).f4.f3,.slice B8 (an_ l k).f4.f4.length e8]] (by rfl) rfl rfl (by simp only [List.map_toArray,List.map_cons,List.map_nil];rfl) ?_;(with_reducible refine (NMA.out _ NSE.out.B).mono ?_);rintro e_ we ⟨yab,yam,rfl,hy_,hb_⟩;refine ⟨_,rfl,?_⟩;have hlt_:=fun j hj=>N_lt NSE.out.N j hj;have hge_:W.heap.size+2<=_:=cc_ NSE.out.b;have yaN:=Sd.m (NSE.out.below hb_);have yaY:=Sd.m hy_;have yaO:Sd (∀ j,(_<=j∧j<we.heap.size)->W.heap.size+2<=j∧some j≠Value.ownBlock _):=⟨fun j hj=>⟨Nat.le_trans hge_ hj.1,fun he=>Nat.lt_irrefl j (Nat.lt_of_lt_of_le (hlt_ j he.symm) hj.1)⟩⟩;clear hy_ hb_ hlt_ hge_;refine hK.out _ _ (HS10.out _ yaN.out.B) (fun hHeld=>?_);clear hK K;refine no_ 48 ?_;refine on_ 7 49 (fun K hK=>?_);obtain ⟨C1,k1,wf,hrun_,hf_⟩:=yaN.out.app yab yam _ yaY.out yaO.out (by have:=HM9.out;omega);refine cw_ rfl (.tmp 42) (.tmp 48) 25 rfl _ _ rfl rfl hrun_ ?_;have NSF:=Sd.m hf_;clear hf_ hrun_;refine hK.out _ _ (HS10.out _ NSF.out.B) (fun hHeld=>?_);clear hK K;refine no_ 49 ?_;refine on_ 13 55 (fun K hK=>?_);refine goes_ Tryz.func106 (by kernel_rfl) rfl #[.agg #[.int .i64 (an_ l k).f5.f0,.string (an_ l k).f5.f1,.int .i64 (an_ l k).f5.f2,.int .i64 (an_ l k).f5.f3,.slice B13 (an_ l k).f5.f4.length e13]] (by rfl) rfl rfl (by simp only [List.map_toArray,List.map_cons,List.map_nil];rfl) ?_;(with_reducible refine (NMB.out _ NSF.out.B).mono ?_);rintro e_ wg ⟨ybb,ybm,rfl,hy_,hb_⟩;refine ⟨_,rfl,?_⟩;have hlt_:=fun j hj=>N_lt NSF.out.N j hj;have hge_:W.heap.size+2<=_:=cc_ NSF.out.b;have ybN:=Sd.m (NSF.out.below hb_);have ybY:=Sd.m hy_;have ybO:Sd (∀ j,(_<=j∧j<wg.heap.size)->W.heap.size+2<=j∧some j≠Value.ownBlock _):=⟨fun j hj=>⟨Nat.le_trans hge_ hj.1,fun he=>Nat.lt_irrefl j (Nat.lt_of_lt_of_le (hlt_ j he.symm) hj.1)⟩⟩;clear hy_ hb_ hlt_ hge_;refine hK.out _ _ (HS10.out _ ybN.out.B) (fun hHeld=>?_);clear hK K;refine no_ 55 ?_;refine on_ 14 56 (fun K hK=>?_);obtain ⟨D1,k2,wh,hrun_,hf_⟩:=ybN.out.app ybb ybm _ ybY.out ybO.out (by have:=HM9.out;simp only [List.length_append];omega);refine cw_ rfl (.tmp 49) (.tmp 55) 25 rfl _ _ rfl rfl hrun_ ?_;have NSH:=Sd.m hf_;clear hf_ hrun_;refine hK.out _ _ (HS10.out _ NSH.out.B) (fun hHeld=>?_);clear hK K;refine no_ 56 ?_;refine pu_ 15 6 ?_;refine done_ (by kernel_rfl) ?_;have hwr:wrap64 (k+1)=k+1:=by unfold wrap64;omega
   go_wp2_with fail;go_roundw
   case rel=>
    have NS2:=NSH.out;rw [show ((NM k ++ NA k) ++ NB k).length=(NM k).length+((NA k).length+(NB k).length) by simp [Nat.add_assoc]] at NS2;have hq: ∀ j,((W.heap.size+2<=j∧some j≠(Value.slice An (NM k).length cn).ownBlock)∧j<Wb.heap.size)->W.heap.size+2<=j∧some j≠(Value.slice D1 ((NM k).length+((NA k).length+(NB k).length)) k2).ownBlock:=fun j hj=>⟨hj.1.1,fun he=>(NS2.own j he.symm).elim (fun e=>hj.1.2 e.symm) (fun e=>by have:=hj.2;omega)⟩;refine ⟨k+1,A1,c1,A2,c2,by omega,by omega,rfl,NS2.B,NS2.r,NS2.b,hl1,hl2,F_mono NS2.F1 hq,F_mono NS2.F2 hq,?_⟩;rw [HM.out];exact NS2.N
   case measure=>simp only [intOf];omega
  ·have hke:k=(l.length:Int):=by omega
   subst hke;have hnlt:decide ((l.length:Int)<(l.length:Int))=false:=by simp
   have hF1:=HFV.out;have hbk:=HBK.out;rw [HLV.out] at hF1 hbk hcv;have HE0:Sd (BuE W vv (LR (l.length:Int)) AV cv AR cr An (NM (l.length:Int)) (.int .i64 0) wr):=⟨N_F HNM.out,HB.out,HBR.out,F_mono hF1 (fun j hj=>hj.1),F_mono HFR.out (fun j hj=>hj.1),Or.inl ⟨rfl,hbk⟩⟩;have HNC:=Sd.m (N_reads' HNM.out);clear hF1 hbk;go_wp2_with fail;go_loopw [10] (fun t10 Wx=>BuE W vv (LR (l.length:Int)) AV cv AR cr An (NM (l.length:Int)) t10 Wx) (fun t10 _=>(1 - intOf t10).toNat)
   case atStart=>exact HE0.out
   case round=>
    obtain ⟨hFn,hbX,hrX,hFv,hFr,hst⟩:=hrel;rcases hst with ⟨rfl,hbx⟩ | ⟨rfl,AU,cu,hcu,hFu,hbx⟩
    ·obtain ⟨ad,A2,c2,A3,c3,A4,c4,rfl,k0,-⟩:=at_T93 (F_now hFv) 0 (by decide) (by decide);change wr.cell? _=some (.string vv.f0) at k0;have e0:ad.add ((0:Int).toNat*7)=ad:=by simp [Addr.add]
     rw [e0] at k0;clear e0;have q0:=bc_ hbx 0 rfl;have HH:=Sd.m (br_.calls kh An cn (NM (l.length:Int)) vv.f0 true wr (F_now hFn) HNC.out.2.1 HHAS.out);have HFn:=Sd.m hFn;have HFv:=Sd.m hFv;have HFr:=Sd.m hFr;have HbX:=Sd.m hbX;have HrX:=Sd.m hrX;have Hbx:=Sd.m hbx;clear hFn hFv hFr hbX hrX hbx;go_wp2_with fail;refine HH.out.mono ?_;rintro e Vx ⟨rfl,hdr⟩;have hbd:=hdr.below;obtain ⟨Vf,hVf⟩: ∃ W_,W_=Vx.drew:=⟨_,rfl⟩;have hbf:=hbd.trans ((show Below Vx.heap.size Vx Vf by rw [hVf];exact ca_ (Below.refl _ _)).mono hbd.size);have HFN2:=Sd.m (F_below HFn.out hbf);have HFV2:=Sd.m (F_below HFv.out hbf);have HFR2:=Sd.m (F_below HFr.out hbf);have HBX2:=Sd.m (HbX.out.trans (hbf.mono HbX.out.size));have HRX2:=Sd.m (ag_ HrX.out hbf);have Hbx2:=Sd.m (ag_ Hbx.out hbf);have HK0:=Sd.m ((hbf.cell (bl__ wr _ k0)).trans k0);have HZF:=Sd.m (cc_ Hbx2.out);clear hdr hbd hbf k0 q0 HFn HFv HFr HbX HrX Hbx HH;have HS5:Sd (∀ w',Below Vf.heap.size Vf w'->w'.cell? ⟨W.heap.size+1,0,none⟩=some (.slice (some ad) 1 cv)∧w'.cell? ⟨W.heap.size+1,3,none⟩=some (.slice none 0 0)∧w'.cell? ad=some (.string vv.f0)):=by
      refine ⟨fun w' hw=>?_⟩;have a1:=ag_ Hbx2.out hw;exact ⟨(af_ a1 0).trans rfl,(af_ a1 3).trans rfl,(hw.cell (bl__ Vf _ HK0.out)).trans HK0.out⟩
     have BF:=Sd.m (Below.refl Vf.heap.size Vf);go_upto_region 16 with fail;refine start_ (n:=12) (S:=fun w'=>w'.cell? ⟨W.heap.size+1,0,none⟩=some (.slice (some ad) 1 cv)∧w'.cell? ⟨W.heap.size+1,3,none⟩=some (.slice none 0 0)∧w'.cell? ad=some (.string vv.f0)) (ds:=[11]) #[false,false,false,false,false,false,false,false,false,false,false,false] (by kernel_rfl) rfl rfl (by rw [←hVf];exact (HS5.out _ BF.out)) (fun hHeld=>?_);rw [←hVf] at hHeld ⊢;clear hVf;refine pu_ 0 72 ?_;refine pu_ 2 74 ?_;refine pu_ 4 76 ?_;refine ta_ 1 73 hHeld ?_;refine ta_ 3 75 hHeld ?_;refine pu_ 5 77 ?_;refine pu_ 6 78 ?_;refine ta_ 7 79 hHeld ?_;refine on_ 8 80 (fun K hK=>?_);refine value_ (w1:=?_) (v:=?_) (by rfl) rfl ?_ ?_;rotate_left 2
     ·go_simp;constructor
      ·rfl
      ·rfl
     have hg_:=aj_ Vf (.cells #[.string vv.f0] 9);have hb_:=ab_ (Below.refl Vf.heap.size Vf) (.cells #[.string vv.f0] 9);generalize hW_:Vf.alloc (.cells #[.string vv.f0] 9)=wi at hg_ hb_ ⊢;have HGI:=Sd.m hg_;have BWI:=Sd.m hb_;clear hg_ hb_ hW_;refine hK.out _ _ (HS5.out _ BWI.out) (fun hHeld=>?_);clear hK K;refine no_ 80 ?_;refine on_ 9 81 (fun K hK=>?_);obtain ⟨U1,u1,wj,hrun_,hN_,hB_,_,_⟩:=gd_ (P:=Tryz.prog) Kd.string (Vd:=Vf) (Wj:=wi) (W.heap.size+2) 25 25 9 (.string ⟨#[]⟩) 16 Tryz.underlying25 (by kernel_rfl) rfl (by decide) (by decide) none 0 [] [vv.f0] (some ⟨Vf.heap.size,0,none⟩) 1 (fun j=>W.heap.size+2<=j) (fun j=>W.heap.size+2<=j) (N_nil _ _ _ _ _) (F_one (cs:=[.string vv.f0]) HGI.out HZF.out (fun _ _=>rfl)) (fun k hk=>⟨hk,by simp [Value.ownBlock]⟩) (fun k hk=>Nat.le_trans HZF.out hk) HZF.out (fun k hk=>by simp [Value.ownBlock] at hk) BWI.out (by simp);refine cw_ rfl (.tmp 73) (.tmp 80) 25 rfl _ _ rfl rfl hrun_ ?_;have HNJ:=Sd.m hN_;have BWJ:=Sd.m hB_;have hbj_:=ag_ Hbx2.out hB_;have n3:=bc_ hbj_ 3 rfl;have m3:=aa_ hbj_ 3;clear hrun_ hN_ hB_;refine hK.out _ _ (HS5.out _ BWJ.out) (fun hHeld=>?_);clear hK K;refine no_ 81 ?_;refine pu_ 10 82 ?_;refine last_ (i:=11) (N:=none) #[true,true,true,true,true,true,true,true,true,true,true,true] rfl rfl (by kernel_rfl) (by decide) (fun K hK=>?_);refine skip_ (w1:=?_) (by rfl) rfl ?_ ?_;rotate_left
     ·go_simp;rfl
     refine hK.out _ _ ?_;clear hK K;refine done_ (by kernel_rfl) ?_;go_wp2_with fail;go_roundw
     case rel=>
      have hz:=HZF.out;have okx: ∀ j,W.heap.size+2<=j->j≠W.heap.size+1:=fun j hj=>by omega
      have hbj:=ag_ Hbx2.out BWJ.out;refine ⟨ci_ (n:=W.heap.size+1) okx [.slice U1 1 u1] wj 3 (F_below HFN2.out BWJ.out),cn_ (n:=W.heap.size+1) (by omega) [.slice U1 1 u1] wj 3 (HBX2.out.trans (BWJ.out.mono HBX2.out.size)),eq_ (n:=W.heap.size+1) (by omega) [.slice U1 1 u1] wj 3 (ag_ HRX2.out BWJ.out),ci_ (n:=W.heap.size+1) okx [.slice U1 1 u1] wj 3 (F_below HFV2.out BWJ.out),ci_ (n:=W.heap.size+1) okx [.slice U1 1 u1] wj 3 (F_below HFR2.out BWJ.out),Or.inr ⟨rfl,U1,u1,(N_reads' HNJ.out).2.1,ci_ (n:=W.heap.size+1) okx [.slice U1 1 u1] wj 3 (N_F HNJ.out),cj_ hbj 3 _ rfl⟩⟩
     case measure=>simp [intOf]
    ·obtain ⟨V7,hV7⟩: ∃ W_,W_=putL wr W.heap.size 0 [.slice AV 1 cv,.slice AR (LR (l.length:Int)).length cr,.slice none 0 0,.slice AU 1 cu]:=⟨_,rfl⟩;have hr7:V7.heap[W.heap.size]? =some (.cells #[.slice AV 1 cv,.slice AR (LR (l.length:Int)).length cr,.slice none 0 0,.slice AU 1 cu] 27 (0,0)):=by rw [hV7];exact cx_ _ wr 0 _ hrX
     have okq: ∀ j,W.heap.size+2<=j->j≠W.heap.size:=fun j hj=>by omega
     have okr: ∀ j,W.heap.size+2<=j->W.heap.size<=j:=fun j hj=>by omega
     have hF1:Kd.F k93 V7 (fun j=>W.heap.size<=j) AV 1 [vv]:=by rw [hV7];exact F_mono (ci_ (n:=W.heap.size) okq _ wr 0 hFv) okr
     have hF2:Kd.F k55 V7 (fun j=>W.heap.size<=j) AR (LR (l.length:Int)).length (LR (l.length:Int)):=by rw [hV7];exact F_mono (ci_ (n:=W.heap.size) okq _ wr 0 hFr) okr
     have hF3:Kd.F Kd.string V7 (fun j=>W.heap.size<=j) AU 1 [vv.f0]:=by rw [hV7];exact F_mono (ci_ (n:=W.heap.size) okq _ wr 0 hFu) okr
     have hb7:Below W.heap.size W V7:=by rw [hV7];exact cn_ (n:=W.heap.size) (Nat.le_refl _) _ wr 0 hbX
     replace hV7:V7=(((wr.setCell ⟨W.heap.size,0,none⟩ (.slice AV 1 cv)).setCell ⟨W.heap.size,1,none⟩ (.slice AR (LR (l.length:Int)).length cr)).setCell ⟨W.heap.size,2,none⟩ (.slice none 0 0)).setCell ⟨W.heap.size,3,none⟩ (.slice AU 1 cu):=hV7;have q0:=bc_ hbx 0 rfl;have s0:=bc_ hrX 0 rfl;have z0:=aa_ hrX 0;have q1:=bc_ hbx 1 rfl;have s1:=bc_ hrX 1 rfl;have z1:=aa_ hrX 1;have q2:=bc_ hbx 2 rfl;have s2:=bc_ hrX 2 rfl;have z2:=aa_ hrX 2;have q3:=bc_ hbx 3 rfl;have s3:=bc_ hrX 3 rfl;have z3:=aa_ hrX 3;have HV7:=Sd.m hV7;have HR7:=Sd.m hr7;have HF1:=Sd.m hF1;have HF2:=Sd.m hF2;have HF3:=Sd.m hF3;have HB7:=Sd.m hb7;clear hV7 hr7 okq okr hF1 hF2 hF3 hb7 hrX hbx hFn hFv hFr hFu hbX;go_wp2_with fail;rw [←HV7.out];refine bodyPost_ret (jn_ rfl _ _ W.heap.size 27 #[.slice AV 1 cv,.slice AR (LR (l.length:Int)).length cr,.slice none 0 0,.slice AU 1 cu] (0,0) _ rfl HR7.out Tryz.underlying27 rfl (by kernel_rfl)) rfl ?_;exact ⟨AV,cv,AR,cr,AU,cu,rfl,hcv.1,hcr.1,hcu,HF1.out,HF2.out,HF3.out,HB7.out⟩
def partP (t:List S159)(here:Int):Option (S85 × Int):=
 if here<(t.length:Int)∧(ac_ t here).f0=15 then some (⟨5,⟨#[]⟩,(ac_ t here).f2,(ac_ t here).f3,[]⟩,here+1)
 else if here<(t.length:Int)∧(ac_ t here).f0=1 then some (⟨2,(ac_ t here).f1,0,0,[]⟩,here+1)
 else none
def setP (t:List S159)(deep here:Int):Option (S85 × Int):=
 if 0<=deep∧deep<12∧here+1<(t.length:Int)∧kdF t (here+1)≠14 then
  (partP t (here+1)).bind fun q=>if kdF t q.2=14∧here+1<q.2∧q.2<=(t.length:Int) then some (⟨4,⟨#[]⟩,(ac_ t here).f2,0,[q.1]⟩,q.2+1) else none
 else none
def pieceP (t:List S159)(deep here:Int):Option (S85 × Int):=
 if ¬ here<(t.length:Int) then none
 else if (ac_ t here).f0=1 then some (⟨2,(ac_ t here).f1,0,0,[]⟩,here+1)
 else if (ac_ t here).f0=12 then some (⟨3,⟨#[]⟩,0,0,[]⟩,here+1)
 else if (ac_ t here).f0=13 then setP t deep here
 else none
def joinP (t:List S159)(deep here:Int):Option (S85 × Int):=
 if ¬ here<=(t.length:Int) then none
 else if be_.f (kdF t here)=some false then some (⟨1,⟨#[]⟩,0,0,[]⟩,here)
 else if be_.f (kdF t here)=some true then
  (pieceP t deep here).bind fun q=>
   if here<q.2∧q.2<=(t.length:Int) then
    if kdF t q.2=9 then (if q.2+1<=(t.length:Int)∧be_.f (kdF t (q.2+1))=some false then some (⟨10,⟨#[]⟩,0,0,[q.1]⟩,q.2+1) else none)
    else if ¬ (9<=kdF t q.2∧kdF t q.2<=11)∧be_.f (kdF t q.2)=some false then some q else none
   else none
 else none
def orP (t:List S159)(deep here:Int):Option (S85 × Int):=
 (joinP t deep here).bind fun q=>if 0<=q.2∧kdF t q.2≠8 then some q else none
def itemP (t:List S159)(here:Int):Option (S87 × Int):=
 if ¬ here+1<=(t.length:Int) then none
 else if (ac_ t here).f0=1 then
  if kdF t (here+1)=3 then (orP t 0 (here+2)).bind fun q=>some (⟨1,(ac_ t here).f1,(ac_ t here).f2,false,q.1,z85,(ac_ t here).f4⟩,q.2)
  else none
 else if (ac_ t here).f0=2 then
  (orP t 0 (here+1)).bind fun q=>
   if 0<=q.2∧q.2<=1000000∧(kdF t q.2=4∨kdF t q.2=5) then
    (orP t 0 (q.2+1)).bind fun r=>some (⟨2,(ac_ t here).f1,(ac_ t here).f2,decide (kdF t q.2=5),q.1,r.1,(ac_ t here).f4⟩,r.2)
   else none
 else none
section
variable {w0 W:World} {g:Nat} {t:List S159} {en here h1 deep:Int} {nd:S85}
theorem part_calls (ht:t.length<=1000000)(h:RdAt w0 W g t en here)(h0:0<=here)(hF:partP t here=some (nd,h1)):Calls Tryz.prog 206 #[.pointer (some ⟨g,0,none⟩),.int .i64 deep] W (Ans w0 W g t en nd h1):=by
 unfold partP at hF;split at hF
 ·rename_i q;injection hF with hF;injection hF with e1 e2;subst e1 e2;exact part_range h h0 q.1 ht q.2 deep
 split at hF
 ·rename_i q;injection hF with hF;injection hF with e1 e2;subst e1 e2;exact part_name h h0 q.1 ht q.2 deep
 ·cases hF
theorem setP_calls (ht:t.length<=1000000)(h:RdAt w0 W g t en here)(h0:0<=here)(hF:setP t deep here=some (nd,h1)):Calls Tryz.prog 200 #[.pointer (some ⟨g,0,none⟩),.int .i64 deep] W (Ans w0 W g t en nd h1):=by
 unfold setP at hF;split at hF
 ·rename_i q;obtain ⟨⟨n2,h2⟩,hp,hF⟩:=Option.bind_eq_some_iff.1 hF;dsimp only at hF;split at hF
  ·rename_i r;injection hF with hF;injection hF with e1 e2;subst e1 e2;exact set_one h h0 q.2.2.1 ht deep q.1 q.2.1 (fun W hW=>part_calls ht hW (by omega) hp) q.2.2.2 r.1 r.2.1 r.2.2
  ·cases hF
 ·cases hF
theorem jr_ (ht:t.length<=1000000)(h:RdAt w0 W g t en here)(h0:0<=here)(hF:pieceP t deep here=some (nd,h1)):Calls Tryz.prog 184 #[.pointer (some ⟨g,0,none⟩),.int .i64 deep] W (Ans w0 W g t en nd h1):=by
 unfold pieceP at hF;split at hF
 ·cases hF
 rename_i hl;have hl:=Decidable.not_not.1 hl;split at hF
 ·rename_i q;injection hF with hF;injection hF with e1 e2;subst e1 e2;exact piece_name h h0 hl ht q deep
 split at hF
 ·rename_i q;injection hF with hF;injection hF with e1 e2;subst e1 e2;exact piece_any h h0 hl ht q deep
 split at hF
 ·rename_i q;exact piece_set h h0 hl ht q deep (fun W hW=>setP_calls ht hW h0 hF)
 ·cases hF
theorem join_calls (ht:t.length<=1000000)(h:RdAt w0 W g t en here)(h0:0<=here)(hF:joinP t deep here=some (nd,h1)):Calls Tryz.prog 165 #[.pointer (some ⟨g,0,none⟩),.int .i64 deep] W (Ans w0 W g t en nd h1):=by
 unfold joinP at hF;split at hF
 ·cases hF
 rename_i hl;have hl:=Decidable.not_not.1 hl;split at hF
 ·rename_i q;injection hF with hF;injection hF with e1 e2;subst e1 e2;exact join_none h h0 hl ht deep q
 split at hF
 ·rename_i hb;obtain ⟨⟨n2,h2⟩,hp,hF⟩:=Option.bind_eq_some_iff.1 hF;dsimp only at hF;split at hF
  ·rename_i r;split at hF
   ·rename_i hk;split at hF
    ·rename_i hs;injection hF with hF;injection hF with e1 e2;subst e1 e2;exact join_star h h0 hl ht deep hb (fun W hW=>jr_ ht hW h0 hp) r.1 (by omega) hk hs.2 hs.1
    ·cases hF
   ·split at hF
    ·rename_i hs;injection hF with hF;injection hF with e1 e2;subst e1 e2;exact join_one h h0 hl ht deep hb (fun W hW=>jr_ ht hW h0 hp) r.1 (by omega) hs.1 hs.2
    ·cases hF
  ·cases hF
 ·cases hF
theorem ib_ (ht:t.length<=1000000)(h:RdAt w0 W g t en here)(h0:0<=here)(hF:orP t deep here=some (nd,h1)):Calls Tryz.prog 125 #[.pointer (some ⟨g,0,none⟩),.int .i64 deep] W (Ans w0 W g t en nd h1):=by
 unfold orP at hF;obtain ⟨⟨n2,h2⟩,hp,hF⟩:=Option.bind_eq_some_iff.1 hF;dsimp only at hF;split at hF
 ·rename_i r;injection hF with hF;injection hF with e1 e2;subst e1 e2;have hl:here<=(t.length:Int):=by
   unfold joinP at hp;split at hp
   ·cases hp
   ·rename_i hl;exact Decidable.not_not.1 hl
  exact or_one h h0 hl ht deep (fun W hW=>join_calls ht hW h0 hp) r.1 r.2
 ·cases hF
theorem item_calls {x:S87}(ht:t.length<=1000000)(h:RdAt w0 W g t en here)(h0:0<=here)(hF:itemP t here=some (x,h1)):Calls Tryz.prog 87 #[.pointer (some ⟨g,0,none⟩)] W (AnsI w0 W g t en x h1):=by
 unfold itemP at hF;split at hF
 ·cases hF
 rename_i hl;have hl:=Decidable.not_not.1 hl;split at hF
 ·rename_i hk;split at hF
  ·rename_i his;obtain ⟨⟨n2,h2⟩,hp,hF⟩:=Option.bind_eq_some_iff.1 hF;injection hF with hF;injection hF with e1 e2;subst e1 e2;exact item_name h h0 hl ht hk his (fun W hW=>ib_ ht hW (by omega) hp)
  ·cases hF
 split at hF
 ·rename_i hk;obtain ⟨⟨n2,h2⟩,hp,hF⟩:=Option.bind_eq_some_iff.1 hF;dsimp only at hF;split at hF
  ·rename_i r;obtain ⟨⟨n3,h3⟩,hp2,hF⟩:=Option.bind_eq_some_iff.1 hF;injection hF with hF;injection hF with e1 e2;subst e1 e2;rcases r.2.2 with k4 | k5
   ·have e:decide (kdF t h2=5)=false:=df__ (by omega);dsimp only;rw [e];exact item_stay h h0 hl ht hk r.1 r.2.1 (fun W hW=>ib_ ht hW (by omega) hp) k4 (fun W hW=>ib_ ht hW (by omega) hp2)
   ·have e:decide (kdF t h2=5)=true:=dt__ k5;dsimp only;rw [e];exact item_cut h h0 hl ht hk r.1 r.2.1 (fun W hW=>ib_ ht hW (by omega) hp) k5 (fun W hW=>ib_ ht hW (by omega) hp2)
  ·cases hF
 ·cases hF
end
def itemsP:Nat->List S159->Int->List S87->Option (List S87)
 | 0,_,_,_=>none
 | n+1,t,here,out=>
  if here<(t.length:Int) then
   if kdF t here=18 then itemsP n t (here+1) out
   else if out.length<=99 then
    (itemP t here).bind fun q=>if here<q.2∧(kdF t q.2=18∨kdF t q.2=0) then itemsP n t q.2 (out ++ [q.1]) else none
   else none
  else some out
theorem LexAt.gw_ {w0 W:World}{g:Nat}{Al Ap:Option Addr}{cl cp:Nat}{l p:List Int}{i deep:Int}{out:List S159}(h:LexAt w0 W g Al cl l Ap cp p i deep out)(x:Int):LexAt w0 (W.setCell ⟨g,2,none⟩ (.int .i64 x)) g Al cl l Ap cp p x deep out:=by
 obtain ⟨v,h1,h2,h3,h4⟩:=h;exact ⟨v,by simpa using eb_ h1 2 _,R_set h2 h1 (by decide) 2 _,h3.setCell (p:=⟨g,2,none⟩) h4 _,h4⟩
theorem LexAt.set_d {w0 W:World}{g:Nat}{Al Ap:Option Addr}{cl cp:Nat}{l p:List Int}{i deep:Int}{out:List S159}(h:LexAt w0 W g Al cl l Ap cp p i deep out)(x:Int):LexAt w0 (W.setCell ⟨g,3,none⟩ (.int .i64 x)) g Al cl l Ap cp p i x out:=by
 obtain ⟨v,h1,h2,h3,h4⟩:=h;exact ⟨v,by simpa using eb_ h1 3 _,R_set h2 h1 (by decide) 3 _,h3.setCell (p:=⟨g,3,none⟩) h4 _,h4⟩
theorem LexAt.c0 {w0 W:World}{g:Nat}{Al Ap:Option Addr}{cl cp:Nat}{l p:List Int}{i deep:Int}{out:List S159}(h:LexAt w0 W g Al cl l Ap cp p i deep out):W.cell? ⟨g,0,none⟩=some (.slice Al l.length cl):=by
 obtain ⟨v,h1,_⟩:=h;exact (af_ h1 0).trans rfl
theorem LexAt.c2 {w0 W:World}{g:Nat}{Al Ap:Option Addr}{cl cp:Nat}{l p:List Int}{i deep:Int}{out:List S159}(h:LexAt w0 W g Al cl l Ap cp p i deep out):W.cell? ⟨g,2,none⟩=some (.int .i64 i):=by
 obtain ⟨v,h1,_⟩:=h;exact (af_ h1 2).trans rfl
theorem LexAt.c3 {w0 W:World}{g:Nat}{Al Ap:Option Addr}{cl cp:Nat}{l p:List Int}{i deep:Int}{out:List S159}(h:LexAt w0 W g Al cl l Ap cp p i deep out):W.cell? ⟨g,3,none⟩=some (.int .i64 deep):=by
 obtain ⟨v,h1,_⟩:=h;exact (af_ h1 3).trans rfl
theorem LexAt.c6 {w0 W:World}{g:Nat}{Al Ap:Option Addr}{cl cp:Nat}{l p:List Int}{i deep:Int}{out:List S159}(h:LexAt w0 W g Al cl l Ap cp p i deep out):W.cell? ⟨g,6,none⟩=some (.int .i64 0):=by
 obtain ⟨v,h1,_⟩:=h;exact (af_ h1 6).trans rfl
theorem LexAt.fr {w0 W:World}{g:Nat}{Al Ap:Option Addr}{cl cp:Nat}{l p:List Int}{i deep:Int}{out:List S159}(h:LexAt w0 W g Al cl l Ap cp p i deep out)(j:Nat):W.frozen? ⟨g,j,none⟩=false:=by
 obtain ⟨v,h1,_⟩:=h;exact aa_ h1 j
theorem LexAt.B {w0 W:World}{g:Nat}{Al Ap:Option Addr}{cl cp:Nat}{l p:List Int}{i deep:Int}{out:List S159}(h:LexAt w0 W g Al cl l Ap cp p i deep out):Below w0.heap.size w0 W:=by
 obtain ⟨v,_,_,h3,_⟩:=h;exact h3
theorem LexAt.lt {w0 W:World}{g:Nat}{Al Ap:Option Addr}{cl cp:Nat}{l p:List Int}{i deep:Int}{out:List S159}(h:LexAt w0 W g Al cl l Ap cp p i deep out):g<W.heap.size:=by
 obtain ⟨v,h1,_⟩:=h;exact cc_ h1
theorem at_l {w0 W:World}{A:Option Addr}{l:List Int}(h:Kd.C (Kd.int .i64) w0 A l.length l)(hB:Below w0.heap.size w0 W)(j:Int)(h0:0<=j)(h1:j<l.length): ∃ ad,A=some ad∧W.cell? (ad.add j.toNat)=some (.int .i64 (rd l j)):=by
 obtain ⟨ad,e,hc⟩:=Kd.ds_ h j h0 h1;exact ⟨ad,e,(hB.cell (bl__ w0 _ hc)).trans hc⟩
theorem is_in (w0 W:World)(g:Nat)(Al:Option Addr)(cl:Nat)(l:List Int)(Ap:Option Addr)(cp:Nat)(p:List Int)(i deep:Int)(out:List S159)(h:LexAt w0 W g Al cl l Ap cp p i deep out)
  (hl:Kd.C (Kd.int .i64) w0 Al l.length l) (j c:Int) (hj0:0<=j) (hj1:j<l.length):
  Calls Tryz.prog 161 #[.pointer (some ⟨g,0,none⟩),.int .i64 j,.int .i64 c] W fun e W1=>e=.returned (.bool (rd l j == c))∧LexAt w0 W1 g Al cl l Ap cp p i deep out∧Below W.heap.size W W1:=by
 obtain ⟨ad,rfl,hcell⟩:=at_l hl h.B j hj0 hj1;have c0:=h.c0;have d0:decide ((0:Int)<=j)=true:=dt__ hj0;have d1:decide (j<(l.length:Int))=true:=dt__ hj1;have H:=Sd.m h;clear h hl;go_enter Tryz.func161,Tryz.ntmps161;go_wp2_with fail;go_ret;exact ⟨rfl,H.out,Below.refl _ _⟩
theorem kq_ (w0 W:World)(g:Nat)(Al:Option Addr)(cl:Nat)(l:List Int)(Ap:Option Addr)(cp:Nat)(p:List Int)(i deep:Int)(out:List S159)(h:LexAt w0 W g Al cl l Ap cp p i deep out)
  (hl:Kd.C (Kd.int .i64) w0 Al l.length l) (hp:Kd.C (Kd.int .i64) w0 Ap p.length p) (hpl:p.length<=1000000) (hol:out.length<=1000000) (hi0:0<=i) (hi1:i+1<l.length) (hi2:i<p.length) (hd0:0<=deep) (hd1:deep<=1000000) (hll:l.length<=1000000) (hne:rd l (i+1)≠94):
  Calls Tryz.prog 157 #[.pointer (some ⟨g,0,none⟩)] W fun e W1=>e=.returned (.tuple #[])∧LexAt w0 W1 g Al cl l Ap cp p (i+1) (deep+1) (out ++ [⟨13,⟨#[]⟩,0,0,rd p i⟩]):=by
 have hb1:Below W.heap.size W (W.alloc (.cells #[.int .i64 13,.string ⟨#[]⟩,.int .i64 0,.int .i64 0,.int .i64 0] 159)):=ab_ (Below.refl W.heap.size W) _;have h1:=h.below hb1;have hbx:(W.alloc (.cells #[.int .i64 13,.string ⟨#[]⟩,.int .i64 0,.int .i64 0,.int .i64 0] 159)).heap[W.heap.size]? =some (.cells #[.int .i64 13,.string ⟨#[]⟩,.int .i64 0,.int .i64 0,.int .i64 0] 159 (0,0)):=aj_ _ _;have hgn:W.heap.size≠g:=by have:=h.lt;omega
 have c2:=h1.c2;have f2:=h1.fr 2;have b1:(rd l (i+1) == 94)=false:=by simpa using hne
 have w1:IntKind.i64.wrap (i+1)=i+1:=IntWalk.i64_in _ (by omega);have w2:IntKind.i64.wrap (deep+1)=deep+1:=IntWalk.i64_in _ (by omega);have his:=is_in w0 _ g Al cl l Ap cp p (i+1) deep out (h1.gw_ (i+1)) hl (i+1) 94 (by omega) hi1;have hbx2:=bj_ hbx (p:=⟨g,2,none⟩) hgn (.int .i64 (i+1));have H1:=Sd.m h1;have HL:=Sd.m hl;have HP:=Sd.m hp;have HI:=Sd.m his;have HBX:=Sd.m hbx2;clear h h1 hl hp hne his hbx hb1 hbx2;go_enter Tryz.func157,Tryz.ntmps157;go_wp2_with fail;refine HI.out.mono ?_;rintro e W2 ⟨rfl,hL2,hb2⟩;have hn2:=ag_ HBX.out hb2;have n0:=bc_ hn2 0 rfl;have n1:=bc_ hn2 1 rfl;have n2:=bc_ hn2 2 rfl;have n3:=bc_ hn2 3 rfl;have n4:=bc_ hn2 4 rfl;have HL2:=Sd.m hL2;clear hL2 hb2 hn2;go_wp2_with fail;refine (df_ w0 W2 g Al cl l Ap cp p (i+1) deep out HL2.out HP.out hpl hol 13 ⟨#[]⟩ 0 0 0 i hi0 hi2).mono ?_;rintro e W3 ⟨rfl,hL3⟩;have c3:=hL3.c3;have f3:=hL3.fr 3;have HL3:=Sd.m hL3;clear hL3 n0 n1 n2 n3 n4;go_wp2_with fail;refine Great.bodyPost_end0 rfl rfl ?_;exact ⟨rfl,HL3.out.set_d (deep+1)⟩
end LX
namespace K
open A
attribute [local go_sem] ct_ cq_ dh_ dg_ ch_ cg_ cr_ cp_
def bk_.l0:Nat->List Int->List Int->List Int->Int->Option (List Int × List Int × Int × Int)
 | 0,_,_,_,_=>none
 | k+1,x0,x6,x7,x8=>if x8<(x0.length:Int) then (if 0<=x8 then (if x8<=(x0.length:Int) then ((ar_.f k (x0.drop (x8:Int).toNat)).bind fun bt133=>(if bt133.2=0 then (none) else (if x6.length<17592186044416 then (if x7.length<17592186044416 then (bk_.l0 k x0 (x6 ++ [bt133.1]) (x7 ++ [x8]) (wrap64 (x8+bt133.2))) else (none)) else (none)))) else (none)) else (none)) else (if x7.length<17592186044416 then (some (x6,(x7 ++ [(x0.length:Int)]),(-1),0)) else (none))
def bk_.f (k:Nat)(l0:List Int):Option (List Int × List Int × Int × Int):=if (l0.length:Int)>3000 then (none) else (bk_.l0 k l0 ([]:List Int) ([]:List Int) 0)
theorem bk_.calls (k:Nat)(A0:Option Addr)(c0:Nat)(l0:List Int)(r1:List Int)(r2:List Int)(r3:Int)(r4:Int)(w:World)(hr0:Kd.C (Kd.int .u8) w A0 l0.length l0)(hc0:l0.length<=c0)(h:bk_.f k l0=some (r1,r2,r3,r4)):
  Calls Tryz.prog 121 #[.slice A0 l0.length c0] w fun e w'=> ∃ v0_ v1_:Value,e=.returned (.tuple #[v0_,v1_,.int .i64 r3,.int .i64 r4])∧Kd.R (Kd.int .i64) 3 w' w.heap.size (fun k_=>some k_≠(v1_:Value).ownBlock) v0_ r1∧Kd.R (Kd.int .i64) 3 w' w.heap.size (fun k_=>some k_≠(v0_:Value).ownBlock) v1_ r2∧Below w.heap.size w w':=by
 have HR0:=Sd.m hr0;have HC0:=Sd.m hc0;clear hr0 hc0;have HB:=Sd.m (Below.refl w.heap.size w);have H:(if (l0.length:Int)>3000 then (none) else (bk_.l0 k l0 ([]:List Int) ([]:List Int) 0))=some (r1,r2,r3,r4):=h;clear h;by_cases c2:(l0.length:Int)>3000
 ·rw [if_pos c2] at H;exact absurd H (by simp)
 ·rw [if_neg c2] at H;have c2b0:=df__ c2;have c2b1:decide (3000<l0.length)=false:=df__ (by omega);clear c2;have H':=Sd.m H;clear H;go_enter Tryz.func121,Tryz.ntmps121;go_wp2
  go_loopg [6,7,8] k (fun kq v6 v7 v8 w'=> ∃ (x6_1:List Int) (x7_1:List Int) (x8_1:Int),v8=.int .i64 x8_1∧Sd (bk_.l0 kq l0 x6_1 x7_1 x8_1=some (r1,r2,r3,r4))∧Sd (kq<=k)∧Sd (Kd.R (Kd.int .i64) 3 w' w.heap.size (fun k_=>some k_≠(v7:Value).ownBlock) v6 x6_1)∧Sd (Kd.R (Kd.int .i64) 3 w' w.heap.size (fun k_=>some k_≠(v6:Value).ownBlock) v7 x7_1)∧Sd (Below w.heap.size w w'))
  case atStart=>exact ⟨(([]:List Int)),(([]:List Int)),(0),ri_,H',⟨Nat.le_refl _⟩,⟨by first | exact Kd.R_nil _ _ _ _ _ | exact Kd.N_nil _ _ _ _ _ | exact Kd.V_nil _ _ _ _ _ | exact Kd.Q_nil _ _ _ _ _ | exact Kd.S_nil _ _ _ _ _⟩,⟨by first | exact Kd.R_nil _ _ _ _ _ | exact Kd.N_nil _ _ _ _ _ | exact Kd.V_nil _ _ _ _ _ | exact Kd.Q_nil _ _ _ _ _ | exact Kd.S_nil _ _ _ _ _⟩,⟨rb_⟩⟩
  case round=>
   clear H';obtain ⟨x6_1,x7_1,x8_1,rfl,HA,HK1,HO_6,HO_7,HB⟩:=hrel;cases gk with
   | zero=>exact absurd HA.out (by simp [bk_.l0])
   | succ k1=>
    have H:=HA.out;clear HA;simp only [bk_.l0] at H;by_cases c3:x8_1<(l0.length:Int)
    ·rw [if_pos c3] at H;have c3b0:=dt__ c3;clear c3;by_cases c4:0<=x8_1
     ·rw [if_pos c4] at H;have c4b0:=eq_true c4;have c4b1:=dt__ c4;clear c4;by_cases c5:x8_1<=(l0.length:Int)
      ·rw [if_pos c5] at H;have c5b0:=eq_true c5;have c5b1:=dt__ c5;clear c5;replace H:=Option.bind_eq_some_iff.mp H;obtain ⟨⟨t133,t134⟩,A60,H⟩:=H;replace H:(if t134=0 then (none) else (if x6_1.length<17592186044416 then (if x7_1.length<17592186044416 then (bk_.l0 k1 l0 (x6_1 ++ [t133]) (x7_1 ++ [x8_1]) (wrap64 (x8_1+t134))) else (none)) else (none)))=some (r1,r2,r3,r4):=H;have A6:=Sd.m A60;clear A60;by_cases c7:t134=0
       ·rw [if_pos c7] at H;exact absurd H (by simp)
       ·rw [if_neg c7] at H;have c7b0:(t134 == 0)=false:=beq_eq_false_iff_ne.mpr c7;have c7b1:(t134 != 0)=true:=bne_iff_ne.mpr c7;by_cases c10:x6_1.length<17592186044416
        ·rw [if_pos c10] at H;have LMc10:=Sd.m c10;clear c10;obtain ⟨y135,hy135⟩: ∃ y_:List Int,y_=(x6_1 ++ [t133]):=⟨_,rfl⟩;replace H:(if x7_1.length<17592186044416 then (bk_.l0 k1 l0 y135 (x7_1 ++ [x8_1]) (wrap64 (x8_1+t134))) else (none))=some (r1,r2,r3,r4):=by first | (rw [hy135];with_reducible exact H) | (have H2_:=(Option.bind_some _ _).symm.trans H;rw [hy135];with_reducible exact H2_) | (have H2_:=(Option.bind_some _ _).symm.trans H;with_reducible exact H2_) | with_reducible exact H | (rw [hy135];exact H) | exact H
         have Ny135:=Sd.m hy135;clear hy135;by_cases c11:x7_1.length<17592186044416
         ·rw [if_pos c11] at H;have LMc11:=Sd.m c11;clear c11;obtain ⟨y138,hy138⟩: ∃ y_:List Int,y_=(x7_1 ++ [x8_1]):=⟨_,rfl⟩;replace H:(bk_.l0 k1 l0 y135 y138 (wrap64 (x8_1+t134)))=some (r1,r2,r3,r4):=by first | (rw [hy138];with_reducible exact H) | (have H2_:=(Option.bind_some _ _).symm.trans H;rw [hy138];with_reducible exact H2_) | (have H2_:=(Option.bind_some _ _).symm.trans H;with_reducible exact H2_) | with_reducible exact H | (rw [hy138];exact H) | exact H
          have Ny138:=Sd.m hy138;clear hy138;have H':=Sd.m H;clear H;obtain ⟨i012,hi012,_,hsz12,_⟩:=info_parts info5;obtain ⟨A12,hcut12,hA12,hC12⟩:=ga_ (P:=Tryz.prog) (Value.int .u8) 0 65 5 .i64 Tryz.underlying65 hi012 hsz12 A0 c0 l0 x8_1 (od_) (od_) HC0.out;have HR132:=Sd.m (Kd.C_of_reads (h1:=fun _=>rfl) (hA12 _ (Kd.dx_ HR0.out)));have HC132:=Sd.m hC12;clear hA12 hC12 hi012 hsz12;go_wp2_with (first | ((with_reducible refine bv_ (f:=156) rfl ?_);refine goesL_ (some 22) rfl rfl Tryz.func156 (by kernel_rfl) rfl #[.slice A12 (l0.drop (x8_1:Int).toNat).length (c0 - x8_1.toNat)] rfl (by (try simp only [List.map_toArray,List.map_cons,List.map_nil]);first | done | (rw [show (l0.drop (x8_1:Int).toNat).length=(l0.length - x8_1.toNat) from List.length_drop] <;> rfl) | rfl | (simp only [List.length_drop,List.length_take];rfl)) ?_;(with_reducible refine (ar_.calls k1 _ _ (l0.drop (x8_1:Int).toNat) t133 t134 _ ?side1 ?side2 A6.out).mono ?_);(case side1=>exact cs_ (Kd.C_below HR132.out HB.out));(case side2=>exact HC132.out);rintro e w13 ⟨rfl,hb⟩;refine ⟨_,rfl,?_⟩;have n0_:=Sd.m (Kd.R_below (rr_ HO_6.out) hb);have n1_:=Sd.m (Kd.R_below (rr_ HO_7.out) hb);have n2_:=Sd.m (av_ rb_ hb);clear HO_6;clear HO_7;clear HB;have HO_6:=n0_;have HO_7:=n1_;have HB:=n2_;clear n0_ n1_ n2_;(try clear hb);(try clear hb2);(try clear hk);(try clear hi)) | ((with_reducible refine bi_ (b:=.append) (xs:=#[.tmp 28,.tmp 30]) rfl ?_);at_builtin;refine Kd.R_append (Kd.int .i64) (w0:=w) w.heap.size rfl (.tmp 28) (.tmp 30) 42 3 (.int .i64 0) 8 rfl Tryz.underlying42 info3 rfl (by decide) (by omega) u6 x6_1 t133 [.int .i64 t133] (fun k_=>some k_≠(u7:Value).ownBlock) (fun _=>False) rfl rfl ?aP (fun _ hk=>hk.elim) ?aF ?aO ?aB ?aS ?aL ?_;(case aP=>exact rfl);(case aB=>exact rb_);(case aF=>exact (fun k_ hk=>Kd.fresh' (Kd.R_lt (rr_ HO_7.out)) k_ hk));(case aO=>exact (rr_ HO_6.out));(case aS=>exact (ap_ rb_));(case aL=>have:=LMc10.out;omega);intro v136 w14 ho hb hg hat;rw [←Ny135.out] at ho;have n0_:=Sd.m (Kd.R_after (ok:=(fun _=>True)) (by (with_reducible repeat (first | apply Kd.R_alloc | apply Kd.R_drewN | apply Kd.R_drew));exact Kd.R_mono HO_7.out (fun _ hk=>⟨trivial,hk⟩)) hg hat);have n1_:=Sd.m (hb);have n2_:=Sd.m (ho);clear HO_7;clear HB;clear HO_6;have HO_7:=n0_;have HB:=n1_;have HO137:=n2_;clear n0_ n1_ n2_;clear ho hb hg hat) | ((with_reducible refine bi_ (b:=.append) (xs:=#[.tmp 32,.tmp 34]) rfl ?_);at_builtin;refine Kd.R_append (Kd.int .i64) (w0:=w) w.heap.size rfl (.tmp 32) (.tmp 34) 42 3 (.int .i64 0) 8 rfl Tryz.underlying42 info3 rfl (by decide) (by omega) u7 x7_1 x8_1 [.int .i64 x8_1] (fun k_=>some k_≠(v136:Value).ownBlock) (fun _=>False) rfl rfl ?aP (fun _ hk=>hk.elim) ?aF ?aO ?aB ?aS ?aL ?_;(case aP=>exact rfl);(case aB=>exact rb_);(case aF=>exact (fun k_ hk=>Kd.fresh' (Kd.R_lt (rr_ HO137.out)) k_ hk));(case aO=>exact (by (with_reducible repeat (first | apply Kd.R_alloc | apply Kd.R_drewN | apply Kd.R_drew));exact Kd.R_mono HO_7.out (fun _ hk=>hk.2)));(case aS=>exact (ap_ rb_));(case aL=>have:=LMc11.out;omega);intro v139 w15 ho hb hg hat;rw [←Ny138.out] at ho;have n0_:=Sd.m (Kd.R_after (ok:=(fun _=>True)) (by (with_reducible repeat (first | apply Kd.R_alloc | apply Kd.R_drewN | apply Kd.R_drew));exact Kd.R_mono HO137.out (fun _ hk=>⟨trivial,hk⟩)) hg hat);have n1_:=Sd.m (hb);have n2_:=Sd.m (ho);clear HO137;clear HB;clear HO_7;have HO137:=n0_;have HB:=n1_;have HO140:=n2_;clear n0_ n1_ n2_;clear ho hb hg hat))
          go_roundg k1
          case measure=>have:=HK1.out;omega
          case rel=>exact ⟨(y135),(y138),(wrap64 (x8_1+t134)),ri_,H',⟨by have:=HK1.out;omega⟩,⟨by (with_reducible repeat (first | apply Kd.R_alloc | apply Kd.R_drewN | apply Kd.R_drew));exact Kd.R_mono HO137.out (fun _ hk=>hk.2)⟩,⟨rr_ HO140.out⟩,⟨rb_⟩⟩
         ·rw [if_neg c11] at H;exact absurd H (by simp)
        ·rw [if_neg c10] at H;exact absurd H (by simp)
      ·rw [if_neg c5] at H;exact absurd H (by simp)
     ·rw [if_neg c4] at H;exact absurd H (by simp)
    ·rw [if_neg c3] at H;have c3b0:=df__ c3;clear c3;by_cases c16:x7_1.length<17592186044416
     ·rw [if_pos c16] at H;have LMc16:=Sd.m c16;clear c16;obtain ⟨y141,hy141⟩: ∃ y_:List Int,y_=(x7_1 ++ [(l0.length:Int)]):=⟨_,rfl⟩;replace H:(some (x6_1,y141,(-1),0))=some (r1,r2,r3,r4):=by first | (rw [hy141];with_reducible exact H) | (have H2_:=(Option.bind_some _ _).symm.trans H;rw [hy141];with_reducible exact H2_) | (have H2_:=(Option.bind_some _ _).symm.trans H;with_reducible exact H2_) | with_reducible exact H | (rw [hy141];exact H) | exact H
      have Ny141:=Sd.m hy141;clear hy141;simp only [Option.some.injEq,Prod.mk.injEq] at H;obtain ⟨rfl,rfl,rfl,rfl⟩:=H;go_wp2_with (first | ((with_reducible refine bi_ (b:=.append) (xs:=#[.tmp 40,.tmp 43]) rfl ?_);at_builtin;refine Kd.R_append (Kd.int .i64) (w0:=w) w.heap.size rfl (.tmp 40) (.tmp 43) 42 3 (.int .i64 0) 8 rfl Tryz.underlying42 info3 rfl (by decide) (by omega) u7 x7_1 (l0.length:Int) [.int .i64 (l0.length:Int)] (fun k_=>some k_≠(u6:Value).ownBlock) (fun _=>False) rfl rfl ?aP (fun _ hk=>hk.elim) ?aF ?aO ?aB ?aS ?aL ?_;(case aP=>exact rfl);(case aB=>exact rb_);(case aF=>exact (fun k_ hk=>Kd.fresh' (Kd.R_lt (rr_ HO_6.out)) k_ hk));(case aO=>exact (rr_ HO_7.out));(case aS=>exact (ap_ rb_));(case aL=>have:=LMc16.out;omega);intro v142 w17 ho hb hg hat;rw [←Ny141.out] at ho;have n0_:=Sd.m (Kd.R_after (ok:=(fun _=>True)) (by (with_reducible repeat (first | apply Kd.R_alloc | apply Kd.R_drewN | apply Kd.R_drew));exact Kd.R_mono HO_6.out (fun _ hk=>⟨trivial,hk⟩)) hg hat);have n1_:=Sd.m (hb);have n2_:=Sd.m (ho);clear HO_6;clear HB;clear HO_7;have HO_6:=n0_;have HB:=n1_;have HO143:=n2_;clear n0_ n1_ n2_;clear ho hb hg hat));refine bodyPost_ret (iu_ (rs:=[.tmp 2,.tmp 3,.tmp 4,.tmp 5]) rfl (by simp) (.tmp (.tmp (.tmp (.tmp .nil))))) rfl ?_;exact ⟨_,_,re_,by (with_reducible repeat (first | apply Kd.R_alloc | apply Kd.R_drewN | apply Kd.R_drew));exact Kd.R_mono HO_6.out (fun _ hk=>hk.2),rr_ HO143.out,rb_⟩
     ·rw [if_neg c16] at H;exact absurd H (by simp)
def cd_.f (a0:Int):Option (Bool):=if a0 ≥ 97 then (if a0<=122 then (some true) else (if a0 ≥ 65 then (some (decide (a0<=90))) else (some false))) else (if a0 ≥ 65 then (some (decide (a0<=90))) else (some false))
theorem cd_.calls (a0:Int)(r:Bool)(w:World)(h:cd_.f a0=some r):
  Calls Tryz.prog 178 #[.int .i64 a0] w fun e w'=>e=.returned (.bool r)∧Drawn0 w w':=by
 have H:(if a0 ≥ 97 then (if a0<=122 then (some true) else (if a0 ≥ 65 then (some (decide (a0<=90))) else (some false))) else (if a0 ≥ 65 then (some (decide (a0<=90))) else (some false)))=some r:=h;clear h;by_cases c2:a0 ≥ 97
 ·rw [if_pos c2] at H;have c2b0:=dt__ c2;clear c2;by_cases c3:a0<=122
  ·rw [if_pos c3] at H;have c3b0:=dt__ c3;clear c3;obtain rfl:=Option.some.inj H;go_enter Tryz.func178,Tryz.ntmps178;go_wp2;go_ret;exact ⟨ri_,dr_⟩
  ·rw [if_neg c3] at H;have c3b0:=df__ c3;clear c3;by_cases c4:a0 ≥ 65
   ·rw [if_pos c4] at H;have c4b0:=dt__ c4;clear c4;obtain rfl:=Option.some.inj H;go_enter Tryz.func178,Tryz.ntmps178;go_wp2;go_ret;exact ⟨ri_,dr_⟩
   ·rw [if_neg c4] at H;have c4b0:=df__ c4;clear c4;obtain rfl:=Option.some.inj H;go_enter Tryz.func178,Tryz.ntmps178;go_wp2;go_ret;exact ⟨ri_,dr_⟩
 ·rw [if_neg c2] at H;have c2b0:=df__ c2;clear c2;by_cases c5:a0 ≥ 65
  ·rw [if_pos c5] at H;have c5b0:=dt__ c5;clear c5;obtain rfl:=Option.some.inj H;go_enter Tryz.func178,Tryz.ntmps178;go_wp2;go_ret;exact ⟨ri_,dr_⟩
  ·rw [if_neg c5] at H;have c5b0:=df__ c5;clear c5;obtain rfl:=Option.some.inj H;go_enter Tryz.func178,Tryz.ntmps178;go_wp2;go_ret;exact ⟨ri_,dr_⟩
def bx_.f (a0:Int):Option (Bool):=if a0 ≥ 48 then (some (decide (a0<=57))) else (some false)
theorem bx_.calls (a0:Int)(r:Bool)(w:World)(h:bx_.f a0=some r):
  Calls Tryz.prog 163 #[.int .i64 a0] w fun e w'=>e=.returned (.bool r)∧Drawn0 w w':=by
 have H:(if a0 ≥ 48 then (some (decide (a0<=57))) else (some false))=some r:=h;clear h;by_cases c2:a0 ≥ 48
 ·rw [if_pos c2] at H;have c2b0:=dt__ c2;clear c2;obtain rfl:=Option.some.inj H;go_enter Tryz.func163,Tryz.ntmps163;go_wp2;go_ret;exact ⟨ri_,dr_⟩
 ·rw [if_neg c2] at H;have c2b0:=df__ c2;clear c2;obtain rfl:=Option.some.inj H;go_enter Tryz.func163,Tryz.ntmps163;go_wp2;go_ret;exact ⟨ri_,dr_⟩
end K
namespace LX
open Shelf YthfceiincmkccaaGreatW.PrintWords.Kd A K
theorem C_one {W:World}{ad:Addr}{x:Int}(h:W.cell? ad=some (.int .i64 x)):Kd.C (Kd.int .i64) W (some ad) 1 [x]:=by
 refine hw_ (c:=[.int .i64 x]) rfl rfl (fun i u hi=>?_);cases i with
 | succ i=>simp at hi
 | zero=>
  simp at hi;subst hi;simpa [Addr.add] using h
def NameO (w0 W:World)(g:Nat)(Al:Option Addr)(cl:Nat)(l:List Int)(Ap:Option Addr)(cp:Nat)(p:List Int)(i deep:Int)(out:List S159)(t:Value)(W1:World):Prop:=(t=.int .i64 (i+1)∨t=.int .i64 (i+2))∧LexAt w0 W1 g Al cl l Ap cp p i deep out
def After (l:List Int)(j:Int):Prop:=j=l.length∨(j<l.length∧cd_.f (rd l j)=some false∧bx_.f (rd l j)=some false∧rd l j≠95)
theorem ks_ (w0 W:World)(g:Nat)(Al:Option Addr)(cl:Nat)(l:List Int)(Ap:Option Addr)(cp:Nat)(p:List Int)(i deep:Int)(out:List S159)(h:LexAt w0 W g Al cl l Ap cp p i deep out)
  (hl:Kd.C (Kd.int .i64) w0 Al l.length l) (hcl:l.length<=cl) (hp:Kd.C (Kd.int .i64) w0 Ap p.length p) (hpl:p.length<=1000000) (hol:out.length<=1000000) (hi0:0<=i) (hi1:i+1<l.length) (hi2:i<p.length) (hll:l.length<=1000000)
  (hL:cd_.f (rd l (i+1))=some true) (hA:After l (i+2)) (k:Nat) (s:ByteArray) (hs:bn_.f k [rd l (i+1)]=some s):
  Calls Tryz.prog 159 #[.pointer (some ⟨g,0,none⟩)] W fun e W1=>e=.returned (.tuple #[])∧LexAt w0 W1 g Al cl l Ap cp p (i+2) deep (out ++ [⟨1,s,0,0,rd p i⟩]):=by
 have c2:=h.c2;have H:=Sd.m h;have HL:=Sd.m hl;have HP:=Sd.m hp;have HLe:=Sd.m hL;have HA:=Sd.m hA;have HS:=Sd.m hs;clear h hl hp hL hA hs;go_enter Tryz.func159,Tryz.ntmps159;go_wp2_with fail;go_loopw [3] (fun t W1=>NameO w0 W g Al cl l Ap cp p i deep out t W1) (fun t _=>(i+2 - intOf t).toNat)
 case atStart=>exact ⟨Or.inl rfl,H.out⟩
 case round=>
  obtain ⟨hb,hS⟩:=hrel;have c0:=hS.c0;rcases hb with rfl | rfl
  ·obtain ⟨ad,rfl,hcell⟩:=at_l HL.out hS.B (i+1) (by omega) hi1;have d0:decide ((0:Int)<=i+1)=true:=dt__ (by omega);have d1:decide (i+1<(l.length:Int))=true:=dt__ hi1;have w2:IntKind.i64.wrap (i+1+1)=i+2:=by rw [show i+1+1=i+2 by omega];exact IntWalk.i64_in _ (by omega)
   have HS1:=Sd.m hS;clear hS;go_wp2_with fail;refine (cd_.calls _ true _ HLe.out).mono ?_;rintro e w' ⟨rfl,⟨nd,rfl⟩⟩;go_wp2_with fail;go_roundw
   case rel=>exact ⟨Or.inr rfl,HS1.out.below (ad_ (Below.refl _ _) nd)⟩
   case measure=>simp [intOf]
  ·have hA:=HA.out;unfold After at hA;have c2':=hS.c2;have f2':=hS.fr 2;have c6':=hS.c6;have b1:(i+2 == i+1)=false:=by simp
   have b2:decide (16<i+2 - i - 1)=false:=df__ (by omega);have w3:IntKind.i64.wrap (i+1)=i+1:=IntWalk.i64_in _ (by omega);have s1:(i+2).toNat - (i+1).toNat=1:=by omega
   obtain ⟨ad,rfl,hcell⟩:=at_l HL.out hS.B (i+1) (by omega) hi1;have hne:(ad.add (i+1).toNat).block≠g:=by
    obtain ⟨ad',e,h3⟩:=Kd.ds_ HL.out (i+1) (by omega) hi1;injection e with e;subst e;have h4:=bl__ w0 _ h3;obtain ⟨_,_,_,_,h5⟩:=hS;omega
   have HCE:=Sd.m hcell;have hS2:=hS.gw_ (i+2);rcases hA with hA | ⟨hA1,hA2,hA3,hA4⟩
   ·have d1:decide (i+2<(l.length:Int))=false:=df__ (by omega);have HS1:=Sd.m hS;have HS2:=Sd.m hS2;have HA0:=Sd.m hA;clear hS hA hcell hS2;go_wp2_with fail;refine (bn_.calls k _ (cl - (i+1).toNat) [rd l (i+1)] s _ (C_one ((World.cell?_setCell_far _ _ _ _ (fun e=>hne e.symm)).trans HCE.out)) (by simp;omega) HS.out).mono ?_;rintro e W2 ⟨rfl,hb2⟩;have HL2:=Sd.m (HS2.out.below hb2);clear hb2;go_wp2_with fail;refine (df_ w0 W2 g _ cl l Ap cp p (i+2) deep out HL2.out HP.out hpl hol 1 s 0 0 0 i hi0 hi2).mono ?_;rintro e W3 ⟨rfl,hL3⟩;have HL3:=Sd.m hL3;clear hL3;go_wp2_with fail;refine Great.bodyPost_end0 rfl rfl ?_;exact ⟨rfl,HL3.out⟩
   ·have d1:decide (i+2<(l.length:Int))=true:=dt__ (by omega);have d0:decide ((0:Int)<=i+2)=true:=dt__ (by omega);have d3:decide (i+1<i+2)=true:=dt__ (by omega);obtain ⟨ad2,e2,hcell2⟩:=at_l HL.out hS.B (i+2) (by omega) hA1;obtain rfl:ad=ad2:=by injection e2
    have b3:(rd l (i+2) == 95)=false:=by simpa using hA4
    have HSN: ∀ a:Nat,LexAt w0 ((wr.drewN a).setCell ⟨g,2,none⟩ (.int .i64 (i+2))) g (some ad) cl l Ap cp p (i+2) deep out:=fun a=>(hS.below (ad_ (Below.refl _ _) a)).gw_ (i+2);have HSN:=Sd.m HSN;have HCN: ∀ a:Nat,((wr.drewN a).setCell ⟨g,2,none⟩ (.int .i64 (i+2))).cell? (ad.add (i+1).toNat)=some (.int .i64 (rd l (i+1))):=fun a=>(World.cell?_setCell_far _ ⟨g,2,none⟩ _ _ (fun e=>hne e.symm)).trans hcell;have HCN:=Sd.m HCN;have HA2:=Sd.m hA2;have HA3:=Sd.m hA3;clear hS hA2 hA3 hA4 hcell hS2 e2;have q0:0<=i+2:=by omega
    go_wp2_with fail;refine (cd_.calls _ false _ HA2.out).mono ?_;rintro e w' ⟨rfl,⟨nd,rfl⟩⟩;go_wp2_with fail;refine (bx_.calls _ false _ HA3.out).mono ?_;rintro e w' ⟨rfl,⟨nd2,rfl⟩⟩;go_wp2_with fail;refine (bn_.calls k _ (cl - (i+1).toNat) [rd l (i+1)] s _ (C_one (HCN.out (nd+nd2))) (by simp;omega) HS.out).mono ?_;rintro e W2 ⟨rfl,hb2⟩;have HL2:=Sd.m ((HSN.out (nd+nd2)).below hb2);clear hb2;go_wp2_with fail;refine (df_ w0 W2 g _ cl l Ap cp p (i+2) deep out HL2.out HP.out hpl hol 1 s 0 0 0 i hi0 hi2).mono ?_;rintro e W3 ⟨rfl,hL3⟩;have HL3:=Sd.m hL3;clear hL3;go_wp2_with fail;refine Great.bodyPost_end0 rfl rfl ?_;exact ⟨rfl,HL3.out⟩
def CharO (w0:World)(g:Nat)(Al:Option Addr)(cl:Nat)(l:List Int)(Ap:Option Addr)(cp:Nat)(p:List Int)(i deep:Int)(out:List S159)(t:Value)(W1:World):Prop:=(t=.int .i64 0∨t=.int .i64 1∨t=.int .i64 2∨t=.int .i64 3∨t=.int .i64 4∨t=.int .i64 5∨t=.int .i64 6∨t=.int .i64 7∨t=.int .i64 8)∧LexAt w0 W1 g Al cl l Ap cp p i deep out
def NoSign (c:Int):Prop:=c≠91∧c≠93∧c≠38∧c≠45∧c≠36∧c≠35∧c≠94∧c≠10
theorem ir_ (w0 W:World)(g:Nat)(Al:Option Addr)(cl:Nat)(l:List Int)(Ap:Option Addr)(cp:Nat)(p:List Int)(i deep:Int)(out:List S159)(h:LexAt w0 W g Al cl l Ap cp p i deep out)
  (hl:Kd.C (Kd.int .i64) w0 Al l.length l) (hcl:l.length<=cl) (hi0:0<=i) (hi1:i<l.length) (hll:l.length<=1000000)
  (hn:NoSign (rd l i)) (k:Nat) (c nx:Int) (hr:az_.f k l i=some (c,nx,0)):
  Calls Tryz.prog 160 #[.pointer (some ⟨g,0,none⟩)] W fun e W1=>e=.returned (.int .i64 c)∧LexAt w0 W1 g Al cl l Ap cp p nx deep out:=by
 have c2:=h.c2;have c0:=h.c0;have b1:(i == (l.length:Int))=false:=by simp;omega
 have H:=Sd.m h;have HL:=Sd.m hl;have HN:=Sd.m hn;have HR:=Sd.m hr;clear h hl hn hr;go_enter Tryz.func160,Tryz.ntmps160;go_wp2_with fail;go_loopw [5] (fun t W1=>CharO w0 g Al cl l Ap cp p i deep out t W1) (fun t _=>(8 - intOf t).toNat)
 case atStart=>exact ⟨Or.inl rfl,H.out⟩
 case round=>
  obtain ⟨hk,hS⟩:=hrel;have c0:=hS.c0;have c2:=hS.c2;have f2:=hS.fr 2;obtain ⟨ad,rfl,hcell⟩:=at_l HL.out hS.B i (by omega) hi1;have d0:decide ((0:Int)<=i)=true:=dt__ hi0;have d1:decide (i<(l.length:Int))=true:=dt__ hi1;obtain ⟨n1,n2,n3,n4,n5,n6,n7,n8⟩:=HN.out;have HS1:=Sd.m hS;clear hS;rcases hk with rfl | rfl | rfl | rfl | rfl | rfl | rfl | rfl | rfl
  ·have b2:(rd l i == 91)=false:=by simpa using n1
   have e2:wrap64 (((⟨#[91,93,38,45,36,35,94,10]⟩:ByteArray)[0]'(by decide)).toNat:Int)=91:=by kernel_rfl
   clear n1 n2 n3 n4 n5 n6 n7 n8;go_wp2_with fail;go_quiet (fail);go_wp2_with fail;go_roundw
   case rel=>exact ⟨by simp,HS1.out.below (ad_ (Below.refl _ _) _)⟩
   case measure=>simp [intOf]
  ·have b2:(rd l i == 93)=false:=by simpa using n2
   have e2:wrap64 (((⟨#[91,93,38,45,36,35,94,10]⟩:ByteArray)[1]'(by decide)).toNat:Int)=93:=by kernel_rfl
   clear n1 n2 n3 n4 n5 n6 n7 n8;go_wp2_with fail;go_quiet (fail);go_wp2_with fail;go_roundw
   case rel=>exact ⟨by simp,HS1.out.below (ad_ (Below.refl _ _) _)⟩
   case measure=>simp [intOf]
  ·have b2:(rd l i == 38)=false:=by simpa using n3
   have e2:wrap64 (((⟨#[91,93,38,45,36,35,94,10]⟩:ByteArray)[2]'(by decide)).toNat:Int)=38:=by kernel_rfl
   clear n1 n2 n3 n4 n5 n6 n7 n8;go_wp2_with fail;go_quiet (fail);go_wp2_with fail;go_roundw
   case rel=>exact ⟨by simp,HS1.out.below (ad_ (Below.refl _ _) _)⟩
   case measure=>simp [intOf]
  ·have b2:(rd l i == 45)=false:=by simpa using n4
   have e2:wrap64 (((⟨#[91,93,38,45,36,35,94,10]⟩:ByteArray)[3]'(by decide)).toNat:Int)=45:=by kernel_rfl
   clear n1 n2 n3 n4 n5 n6 n7 n8;go_wp2_with fail;go_quiet (fail);go_wp2_with fail;go_roundw
   case rel=>exact ⟨by simp,HS1.out.below (ad_ (Below.refl _ _) _)⟩
   case measure=>simp [intOf]
  ·have b2:(rd l i == 36)=false:=by simpa using n5
   have e2:wrap64 (((⟨#[91,93,38,45,36,35,94,10]⟩:ByteArray)[4]'(by decide)).toNat:Int)=36:=by kernel_rfl
   clear n1 n2 n3 n4 n5 n6 n7 n8;go_wp2_with fail;go_quiet (fail);go_wp2_with fail;go_roundw
   case rel=>exact ⟨by simp,HS1.out.below (ad_ (Below.refl _ _) _)⟩
   case measure=>simp [intOf]
  ·have b2:(rd l i == 35)=false:=by simpa using n6
   have e2:wrap64 (((⟨#[91,93,38,45,36,35,94,10]⟩:ByteArray)[5]'(by decide)).toNat:Int)=35:=by kernel_rfl
   clear n1 n2 n3 n4 n5 n6 n7 n8;go_wp2_with fail;go_quiet (fail);go_wp2_with fail;go_roundw
   case rel=>exact ⟨by simp,HS1.out.below (ad_ (Below.refl _ _) _)⟩
   case measure=>simp [intOf]
  ·have b2:(rd l i == 94)=false:=by simpa using n7
   have e2:wrap64 (((⟨#[91,93,38,45,36,35,94,10]⟩:ByteArray)[6]'(by decide)).toNat:Int)=94:=by kernel_rfl
   clear n1 n2 n3 n4 n5 n6 n7 n8;go_wp2_with fail;go_quiet (fail);go_wp2_with fail;go_roundw
   case rel=>exact ⟨by simp,HS1.out.below (ad_ (Below.refl _ _) _)⟩
   case measure=>simp [intOf]
  ·have b2:(rd l i == 10)=false:=by simpa using n8
   have e2:wrap64 (((⟨#[91,93,38,45,36,35,94,10]⟩:ByteArray)[7]'(by decide)).toNat:Int)=10:=by kernel_rfl
   clear n1 n2 n3 n4 n5 n6 n7 n8;go_wp2_with fail;go_quiet (fail);go_wp2_with fail;go_roundw
   case rel=>exact ⟨by simp,HS1.out.below (ad_ (Below.refl _ _) _)⟩
   case measure=>simp [intOf]
  ·clear n1 n2 n3 n4 n5 n6 n7 n8;have HC:=Sd.m (Kd.C_below HL.out HS1.out.B);clear hcell;go_wp2_with fail;refine (az_.calls k (some ad) cl l i c nx 0 wr HC.out hcl HR.out).mono ?_;rintro e w' ⟨rfl,⟨nd,rfl⟩⟩;go_wp2_with fail;go_ret;exact ⟨rfl,(HS1.out.below (ad_ (Below.refl _ _) nd)).gw_ nx⟩
theorem set_open (w0 W:World)(g:Nat)(Al:Option Addr)(cl:Nat)(l:List Int)(Ap:Option Addr)(cp:Nat)(p:List Int)(i deep:Int)(out:List S159)(h:LexAt w0 W g Al cl l Ap cp p i deep out)
  (hl:Kd.C (Kd.int .i64) w0 Al l.length l) (hcl:l.length<=cl) (hp:Kd.C (Kd.int .i64) w0 Ap p.length p) (hpl:p.length<=1000000) (hol:out.length<=1000000) (ho0:0<out.length) (hi0:0<=i) (hi1:i<l.length) (hi2:i<p.length) (hll:l.length<=1000000)
  (hd0:0<=deep) (hd1:deep<=1000000) (hx1:i+1<l.length) (hne:rd l (i+1)≠94) (hc0:rd l i=91):
  Calls Tryz.prog 122 #[.pointer (some ⟨g,0,none⟩)] W fun e W1=>e=.returned (.tuple #[])∧LexAt w0 W1 g Al cl l Ap cp p (i+1) (deep+1) (out ++ [⟨13,⟨#[]⟩,0,0,rd p i⟩]):=by
 have c2:=h.c2;have f2:=h.fr 2;have c3:=h.c3;have c0:=h.c0;have c6:=h.c6;obtain ⟨ad,rfl,hcell⟩:=at_l hl h.B i hi0 hi1;have d0:decide ((0:Int)<=i)=true:=dt__ hi0;have d1:decide (i<(l.length:Int))=true:=dt__ hi1;have hA: ∃ A c,W.cell? ⟨g,4,none⟩=some (.slice A out.length c)∧k159.C W A out.length out:=by
  obtain ⟨A,c,hb,_,_,hc,_⟩:=h.cells;exact ⟨A,c,(af_ hb 4).trans rfl,hc⟩
 obtain ⟨A,c,c4,hc⟩:=hA;obtain ⟨m,em⟩: ∃ m,(out.length:Int) - 1=m:=⟨_,rfl⟩;have m0:0<=m:=by omega
 have m1:m<(out.length:Int):=by omega
 obtain ⟨at0,rfl,t0,_⟩:=go_ hc m m0 m1;obtain ⟨kd,hkd⟩: ∃ kd,kd=(ac_ out m).f0:=⟨_,rfl⟩;rw [←hkd] at t0;have w1:IntKind.i64.wrap ((out.length:Int) - 1)=m:=by rw [em];exact IntWalk.i64_in _ (by omega)
 have w2:IntKind.i64.wrap (i+1)=i+1:=IntWalk.i64_in _ (by omega);have d2:decide ((0:Int)<(out.length:Int))=true:=dt__ (by omega);have d3:decide (0<out.length)=true:=dt__ ho0;have e91:(rd l i == 91)=true:=by simpa using hc0
 have HNE:=Sd.m hne;have HB:=Sd.m (fun n=>h.below (ad_ (Below.refl W.heap.size W) n));have H:=Sd.m h;have HL:=Sd.m hl;have HP:=Sd.m hp;clear h hl hp hc hkd hc0 hne;go_enter Tryz.func122,Tryz.ntmps122;go_wp2_with fail;go_quiet (fail);go_wp2_with fail;refine (kq_ w0 _ g _ cl l Ap cp p i deep out (HB.out _) HL.out HP.out hpl hol hi0 hx1 hi2 hd0 hd1 hll HNE.out).mono ?_;rintro e W2 ⟨rfl,hL2⟩;have HL2:=Sd.m hL2;clear hL2;go_wp2_with fail;refine Great.bodyPost_end0 rfl rfl ?_;exact ⟨rfl,HL2.out⟩
theorem set_close (w0 W:World)(g:Nat)(Al:Option Addr)(cl:Nat)(l:List Int)(Ap:Option Addr)(cp:Nat)(p:List Int)(i deep:Int)(out:List S159)(h:LexAt w0 W g Al cl l Ap cp p i deep out)
  (hl:Kd.C (Kd.int .i64) w0 Al l.length l) (hcl:l.length<=cl) (hp:Kd.C (Kd.int .i64) w0 Ap p.length p) (hpl:p.length<=1000000) (hol:out.length<=1000000) (ho0:0<out.length) (hi0:0<=i) (hi1:i<l.length) (hi2:i<p.length) (hll:l.length<=1000000)
  (hd0:0<=deep) (hd1:deep<=1000000) (hc0:rd l i=93):
  Calls Tryz.prog 122 #[.pointer (some ⟨g,0,none⟩)] W fun e W1=>e=.returned (.tuple #[])∧LexAt w0 W1 g Al cl l Ap cp p (i+1) (deep - 1) (out ++ [⟨14,⟨#[]⟩,0,0,rd p i⟩]):=by
 have c2:=h.c2;have f2:=h.fr 2;have c3:=h.c3;have c0:=h.c0;have c6:=h.c6;obtain ⟨ad,rfl,hcell⟩:=at_l hl h.B i hi0 hi1;have d0:decide ((0:Int)<=i)=true:=dt__ hi0;have d1:decide (i<(l.length:Int))=true:=dt__ hi1;have hA: ∃ A c,W.cell? ⟨g,4,none⟩=some (.slice A out.length c)∧k159.C W A out.length out:=by
  obtain ⟨A,c,hb,_,_,hc,_⟩:=h.cells;exact ⟨A,c,(af_ hb 4).trans rfl,hc⟩
 obtain ⟨A,c,c4,hc⟩:=hA;obtain ⟨m,em⟩: ∃ m,(out.length:Int) - 1=m:=⟨_,rfl⟩;have m0:0<=m:=by omega
 have m1:m<(out.length:Int):=by omega
 obtain ⟨at0,rfl,t0,_⟩:=go_ hc m m0 m1;obtain ⟨kd,hkd⟩: ∃ kd,kd=(ac_ out m).f0:=⟨_,rfl⟩;rw [←hkd] at t0;have w1:IntKind.i64.wrap ((out.length:Int) - 1)=m:=by rw [em];exact IntWalk.i64_in _ (by omega)
 have w2:IntKind.i64.wrap (i+1)=i+1:=IntWalk.i64_in _ (by omega);have d2:decide ((0:Int)<(out.length:Int))=true:=dt__ (by omega);have d3:decide (0<out.length)=true:=dt__ ho0;have e91:(rd l i == 91)=false:=by rw [hc0];decide
 have e93:(rd l i == 93)=true:=by simpa using hc0
 have w3:IntKind.i64.wrap (deep - 1)=deep - 1:=IntWalk.i64_in _ (by omega);have HB:=Sd.m (fun n=>h.below (ad_ (Below.refl W.heap.size W) n));have H:=Sd.m h;have HL:=Sd.m hl;have HP:=Sd.m hp;clear h hl hp hc hkd hc0;go_enter Tryz.func122,Tryz.ntmps122;go_wp2_with fail;go_quiet (fail);go_wp2_with fail;refine (df_ w0 _ g _ cl l Ap cp p i deep out (HB.out _) HP.out hpl hol 14 ⟨#[]⟩ 0 0 0 i hi0 hi2).mono ?_;rintro e W2 ⟨rfl,hL2⟩;have c2:=hL2.c2;have f2:=hL2.fr 2;have c3:=hL2.c3;have f3:=hL2.fr 3;have hL3:=(hL2.set_d (deep - 1)).gw_ (i+1);have HL3:=Sd.m hL3;clear hL2 hL3;go_wp2_with fail;refine Great.bodyPost_end0 rfl rfl ?_;exact ⟨rfl,HL3.out⟩
theorem set_name (w0 W:World)(g:Nat)(Al:Option Addr)(cl:Nat)(l:List Int)(Ap:Option Addr)(cp:Nat)(p:List Int)(i deep:Int)(out:List S159)(h:LexAt w0 W g Al cl l Ap cp p i deep out)
  (hl:Kd.C (Kd.int .i64) w0 Al l.length l) (hcl:l.length<=cl) (hp:Kd.C (Kd.int .i64) w0 Ap p.length p) (hpl:p.length<=1000000) (hol:out.length<=1000000) (ho0:0<out.length) (hi0:0<=i) (hi1:i<l.length) (hi2:i<p.length) (hll:l.length<=1000000)
  (hc0:rd l i=36) (hx1:i+1<l.length) (hL:cd_.f (rd l (i+1))=some true) (hA:After l (i+2)) (k:Nat) (s:ByteArray) (hs:bn_.f k [rd l (i+1)]=some s):
  Calls Tryz.prog 122 #[.pointer (some ⟨g,0,none⟩)] W fun e W1=>e=.returned (.tuple #[])∧LexAt w0 W1 g Al cl l Ap cp p (i+2) deep (out ++ [⟨1,s,0,0,rd p i⟩]):=by
 have c2:=h.c2;have f2:=h.fr 2;have c3:=h.c3;have c0:=h.c0;have c6:=h.c6;obtain ⟨ad,rfl,hcell⟩:=at_l hl h.B i hi0 hi1;have d0:decide ((0:Int)<=i)=true:=dt__ hi0;have d1:decide (i<(l.length:Int))=true:=dt__ hi1;have hA: ∃ A c,W.cell? ⟨g,4,none⟩=some (.slice A out.length c)∧k159.C W A out.length out:=by
  obtain ⟨A,c,hb,_,_,hc,_⟩:=h.cells;exact ⟨A,c,(af_ hb 4).trans rfl,hc⟩
 obtain ⟨A,c,c4,hc⟩:=hA;obtain ⟨m,em⟩: ∃ m,(out.length:Int) - 1=m:=⟨_,rfl⟩;have m0:0<=m:=by omega
 have m1:m<(out.length:Int):=by omega
 obtain ⟨at0,rfl,t0,_⟩:=go_ hc m m0 m1;obtain ⟨kd,hkd⟩: ∃ kd,kd=(ac_ out m).f0:=⟨_,rfl⟩;rw [←hkd] at t0;have w1:IntKind.i64.wrap ((out.length:Int) - 1)=m:=by rw [em];exact IntWalk.i64_in _ (by omega)
 have w2:IntKind.i64.wrap (i+1)=i+1:=IntWalk.i64_in _ (by omega);have d2:decide ((0:Int)<(out.length:Int))=true:=dt__ (by omega);have d3:decide (0<out.length)=true:=dt__ ho0;have e91:(rd l i == 91)=false:=by rw [hc0];decide
 have e93:(rd l i == 93)=false:=by rw [hc0];decide
 have e38:(rd l i == 38)=false:=by rw [hc0];decide
 have e36:(rd l i == 36)=true:=by simpa using hc0
 have HB:=Sd.m (fun n=>h.below (ad_ (Below.refl W.heap.size W) n));have HLE:=Sd.m hL;have HAF:=Sd.m hA;have HSS:=Sd.m hs;have H:=Sd.m h;have HL:=Sd.m hl;have HP:=Sd.m hp;clear h hl hp hc hkd hc0 hL hA hs;go_enter Tryz.func122,Tryz.ntmps122;go_wp2_with fail;go_quiet (fail);go_wp2_with fail;refine (ks_ w0 _ g _ cl l Ap cp p i deep out (HB.out _) HL.out hcl HP.out hpl hol hi0 hx1 hi2 hll HLE.out HAF.out k s HSS.out).mono ?_;rintro e W2 ⟨rfl,hL2⟩;have HL2:=Sd.m hL2;clear hL2;go_wp2_with fail;refine Great.bodyPost_end0 rfl rfl ?_;exact ⟨rfl,HL2.out⟩
theorem set_less (w0 W:World)(g:Nat)(Al:Option Addr)(cl:Nat)(l:List Int)(Ap:Option Addr)(cp:Nat)(p:List Int)(i deep:Int)(out:List S159)(h:LexAt w0 W g Al cl l Ap cp p i deep out)
  (hl:Kd.C (Kd.int .i64) w0 Al l.length l) (hcl:l.length<=cl) (hp:Kd.C (Kd.int .i64) w0 Ap p.length p) (hpl:p.length<=1000000) (hol:out.length<=1000000) (ho0:0<out.length) (hi0:0<=i) (hi1:i<l.length) (hi2:i<p.length) (hll:l.length<=1000000)
  (hc0:rd l i=45) (hk:(ac_ out ((out.length:Int) - 1)).f0=14∨(ac_ out ((out.length:Int) - 1)).f0=1):
  Calls Tryz.prog 122 #[.pointer (some ⟨g,0,none⟩)] W fun e W1=>e=.returned (.tuple #[])∧LexAt w0 W1 g Al cl l Ap cp p (i+1) deep (out ++ [⟨17,⟨#[]⟩,0,0,rd p i⟩]):=by
 have c2:=h.c2;have f2:=h.fr 2;have c3:=h.c3;have c0:=h.c0;have c6:=h.c6;obtain ⟨ad,rfl,hcell⟩:=at_l hl h.B i hi0 hi1;have d0:decide ((0:Int)<=i)=true:=dt__ hi0;have d1:decide (i<(l.length:Int))=true:=dt__ hi1;have hA: ∃ A c,W.cell? ⟨g,4,none⟩=some (.slice A out.length c)∧k159.C W A out.length out:=by
  obtain ⟨A,c,hb,_,_,hc,_⟩:=h.cells;exact ⟨A,c,(af_ hb 4).trans rfl,hc⟩
 obtain ⟨A,c,c4,hc⟩:=hA;obtain ⟨m,em⟩: ∃ m,(out.length:Int) - 1=m:=⟨_,rfl⟩;have m0:0<=m:=by omega
 have m1:m<(out.length:Int):=by omega
 obtain ⟨at0,rfl,t0,_⟩:=go_ hc m m0 m1;obtain ⟨kd,hkd⟩: ∃ kd,kd=(ac_ out m).f0:=⟨_,rfl⟩;rw [←hkd] at t0;have w1:IntKind.i64.wrap ((out.length:Int) - 1)=m:=by rw [em];exact IntWalk.i64_in _ (by omega)
 have w2:IntKind.i64.wrap (i+1)=i+1:=IntWalk.i64_in _ (by omega);have d2:decide ((0:Int)<(out.length:Int))=true:=dt__ (by omega);have d3:decide (0<out.length)=true:=dt__ ho0;have e91:(rd l i == 91)=false:=by rw [hc0];decide
 have e93:(rd l i == 93)=false:=by rw [hc0];decide
 have e38:(rd l i == 38)=false:=by rw [hc0];decide
 have e36:(rd l i == 36)=false:=by rw [hc0];decide
 have e45:(rd l i == 45)=true:=by simpa using hc0
 have HK:(kd == 14)=true∨((kd == 14)=false∧(kd == 1)=true):=by rw [em] at hk;rw [hkd];rcases hk with e | e <;> rw [e] <;> decide
 have HK:=Sd.m HK;have HB:=Sd.m (fun n=>h.below (ad_ (Below.refl W.heap.size W) n));have H:=Sd.m h;have HL:=Sd.m hl;have HP:=Sd.m hp;clear h hl hp hc hkd hc0 hk;rcases HK.out with k14 | ⟨k14,k1⟩ <;> (go_enter Tryz.func122,Tryz.ntmps122;go_wp2_with fail;go_quiet (fail);go_wp2_with fail)
 all_goals
  refine (df_ w0 _ g _ cl l Ap cp p i deep out (HB.out _) HP.out hpl hol 17 ⟨#[]⟩ 0 0 0 i hi0 hi2).mono ?_;rintro e W2 ⟨rfl,hL2⟩;have c2:=hL2.c2;have f2:=hL2.fr 2;have hL3:=hL2.gw_ (i+1);have HL3:=Sd.m hL3;clear hL2 hL3;go_wp2_with fail;refine Great.bodyPost_end0 rfl rfl ?_;exact ⟨rfl,HL3.out⟩
theorem set_range (w0 W:World)(g:Nat)(Al:Option Addr)(cl:Nat)(l:List Int)(Ap:Option Addr)(cp:Nat)(p:List Int)(i deep:Int)(out:List S159)(h:LexAt w0 W g Al cl l Ap cp p i deep out)
  (hl:Kd.C (Kd.int .i64) w0 Al l.length l) (hcl:l.length<=cl) (hp:Kd.C (Kd.int .i64) w0 Ap p.length p) (hpl:p.length<=1000000) (hol:out.length<=1000000) (ho0:0<out.length) (hi0:0<=i) (hi1:i<l.length) (hi2:i<p.length) (hll:l.length<=1000000)
  (hn:NoSign (rd l i)) (k:Nat) (x nx:Int) (hr:az_.f k l i=some (x,nx,0)) (hnx0:0<=nx) (hnx1:nx<l.length) (hm:rd l nx=45) (hny1:nx+1<l.length) (hn2:NoSign (rd l (nx+1))) (y ny:Int) (hr2:az_.f k l (nx+1)=some (y,ny,0)) (hxy:x<=y):
  Calls Tryz.prog 122 #[.pointer (some ⟨g,0,none⟩)] W fun e W1=>e=.returned (.tuple #[])∧LexAt w0 W1 g Al cl l Ap cp p ny deep (out ++ [⟨15,⟨#[]⟩,x,y,rd p i⟩]):=by
 have c2:=h.c2;have f2:=h.fr 2;have c3:=h.c3;have c0:=h.c0;have c6:=h.c6;obtain ⟨ad,rfl,hcell⟩:=at_l hl h.B i hi0 hi1;have d0:decide ((0:Int)<=i)=true:=dt__ hi0;have d1:decide (i<(l.length:Int))=true:=dt__ hi1;have hA: ∃ A c,W.cell? ⟨g,4,none⟩=some (.slice A out.length c)∧k159.C W A out.length out:=by
  obtain ⟨A,c,hb,_,_,hc,_⟩:=h.cells;exact ⟨A,c,(af_ hb 4).trans rfl,hc⟩
 obtain ⟨A,c,c4,hc⟩:=hA;obtain ⟨m,em⟩: ∃ m,(out.length:Int) - 1=m:=⟨_,rfl⟩;have m0:0<=m:=by omega
 have m1:m<(out.length:Int):=by omega
 obtain ⟨at0,rfl,t0,_⟩:=go_ hc m m0 m1;obtain ⟨kd,hkd⟩: ∃ kd,kd=(ac_ out m).f0:=⟨_,rfl⟩;rw [←hkd] at t0;have w1:IntKind.i64.wrap ((out.length:Int) - 1)=m:=by rw [em];exact IntWalk.i64_in _ (by omega)
 have w2:IntKind.i64.wrap (i+1)=i+1:=IntWalk.i64_in _ (by omega);have d2:decide ((0:Int)<(out.length:Int))=true:=dt__ (by omega);have d3:decide (0<out.length)=true:=dt__ ho0;have e91:(rd l i == 91)=false:=by obtain ⟨q,_⟩:=hn;simpa using q
 have e93:(rd l i == 93)=false:=by obtain ⟨_,q,_⟩:=hn;simpa using q
 have e38:(rd l i == 38)=false:=by obtain ⟨_,_,q,_⟩:=hn;simpa using q
 have e45:(rd l i == 45)=false:=by obtain ⟨_,_,_,q,_⟩:=hn;simpa using q
 have e36:(rd l i == 36)=false:=by obtain ⟨_,_,_,_,q,_⟩:=hn;simpa using q
 have HB:=Sd.m (fun n=>h.below (ad_ (Below.refl W.heap.size W) n));have HN:=Sd.m hn;have HR:=Sd.m hr;have HM:=Sd.m hm;have HN2:=Sd.m hn2;have HR2:=Sd.m hr2;have w3:IntKind.i64.wrap (nx+1)=nx+1:=IntWalk.i64_in _ (by omega);have dxy:decide (y<x)=false:=df__ (by omega);have H:=Sd.m h;have HL:=Sd.m hl;have HP:=Sd.m hp;clear h hl hp hc hkd hn hr hm hn2 hr2;go_enter Tryz.func122,Tryz.ntmps122;go_wp2_with fail;go_quiet (fail);go_wp2_with fail;refine (ir_ w0 _ g _ cl l Ap cp p i deep out (HB.out _) HL.out hcl hi0 hi1 hll HN.out k x nx HR.out).mono ?_;rintro e W2 ⟨rfl,hL2⟩;have c6:=hL2.c6;have c2:=hL2.c2;have HL2:=Sd.m hL2;clear hL2;go_wp2_with fail;refine (is_in w0 W2 g _ cl l Ap cp p nx deep out HL2.out HL.out nx 45 hnx0 hnx1).mono ?_;rintro e W3 ⟨rfl,hL3,hb3⟩;have e45':(rd l nx == 45)=true:=by rw [HM.out];decide
 have c2:=hL3.c2;have f2:=hL3.fr 2;have HL3:=Sd.m (hL3.gw_ (nx+1));clear hL3 hb3;go_wp2_with fail;refine (ir_ w0 _ g _ cl l Ap cp p (nx+1) deep out HL3.out HL.out hcl (by omega) hny1 hll HN2.out k y ny HR2.out).mono ?_;rintro e W4 ⟨rfl,hL4⟩;have c6:=hL4.c6;have HL4:=Sd.m hL4;clear hL4;go_wp2_with fail;refine (df_ w0 W4 g _ cl l Ap cp p ny deep out HL4.out HP.out hpl hol 15 ⟨#[]⟩ x y 0 i hi0 hi2).mono ?_;rintro e W5 ⟨rfl,hL5⟩;have HL5:=Sd.m hL5;clear hL5;go_wp2_with fail;refine Great.bodyPost_end0 rfl rfl ?_;exact ⟨rfl,HL5.out⟩
theorem set_char (w0 W:World)(g:Nat)(Al:Option Addr)(cl:Nat)(l:List Int)(Ap:Option Addr)(cp:Nat)(p:List Int)(i deep:Int)(out:List S159)(h:LexAt w0 W g Al cl l Ap cp p i deep out)
  (hl:Kd.C (Kd.int .i64) w0 Al l.length l) (hcl:l.length<=cl) (hp:Kd.C (Kd.int .i64) w0 Ap p.length p) (hpl:p.length<=1000000) (hol:out.length<=1000000) (ho0:0<out.length) (hi0:0<=i) (hi1:i<l.length) (hi2:i<p.length) (hll:l.length<=1000000)
  (hn:NoSign (rd l i)) (k:Nat) (x nx:Int) (hr:az_.f k l i=some (x,nx,0)) (hnx0:0<=nx) (hnx1:nx<l.length) (hm:rd l nx≠45):
  Calls Tryz.prog 122 #[.pointer (some ⟨g,0,none⟩)] W fun e W1=>e=.returned (.tuple #[])∧LexAt w0 W1 g Al cl l Ap cp p nx deep (out ++ [⟨15,⟨#[]⟩,x,x,rd p i⟩]):=by
 have c2:=h.c2;have f2:=h.fr 2;have c3:=h.c3;have c0:=h.c0;have c6:=h.c6;obtain ⟨ad,rfl,hcell⟩:=at_l hl h.B i hi0 hi1;have d0:decide ((0:Int)<=i)=true:=dt__ hi0;have d1:decide (i<(l.length:Int))=true:=dt__ hi1;have hA: ∃ A c,W.cell? ⟨g,4,none⟩=some (.slice A out.length c)∧k159.C W A out.length out:=by
  obtain ⟨A,c,hb,_,_,hc,_⟩:=h.cells;exact ⟨A,c,(af_ hb 4).trans rfl,hc⟩
 obtain ⟨A,c,c4,hc⟩:=hA;obtain ⟨m,em⟩: ∃ m,(out.length:Int) - 1=m:=⟨_,rfl⟩;have m0:0<=m:=by omega
 have m1:m<(out.length:Int):=by omega
 obtain ⟨at0,rfl,t0,_⟩:=go_ hc m m0 m1;obtain ⟨kd,hkd⟩: ∃ kd,kd=(ac_ out m).f0:=⟨_,rfl⟩;rw [←hkd] at t0;have w1:IntKind.i64.wrap ((out.length:Int) - 1)=m:=by rw [em];exact IntWalk.i64_in _ (by omega)
 have w2:IntKind.i64.wrap (i+1)=i+1:=IntWalk.i64_in _ (by omega);have d2:decide ((0:Int)<(out.length:Int))=true:=dt__ (by omega);have d3:decide (0<out.length)=true:=dt__ ho0;have e91:(rd l i == 91)=false:=by obtain ⟨q,_⟩:=hn;simpa using q
 have e93:(rd l i == 93)=false:=by obtain ⟨_,q,_⟩:=hn;simpa using q
 have e38:(rd l i == 38)=false:=by obtain ⟨_,_,q,_⟩:=hn;simpa using q
 have e45:(rd l i == 45)=false:=by obtain ⟨_,_,_,q,_⟩:=hn;simpa using q
 have e36:(rd l i == 36)=false:=by obtain ⟨_,_,_,_,q,_⟩:=hn;simpa using q
 have HB:=Sd.m (fun n=>h.below (ad_ (Below.refl W.heap.size W) n));have HN:=Sd.m hn;have HR:=Sd.m hr;have HM:=Sd.m hm;have dxy:decide (x<x)=false:=df__ (by omega);have H:=Sd.m h;have HL:=Sd.m hl;have HP:=Sd.m hp;clear h hl hp hc hkd hn hr hm;go_enter Tryz.func122,Tryz.ntmps122;go_wp2_with fail;go_quiet (fail);go_wp2_with fail;refine (ir_ w0 _ g _ cl l Ap cp p i deep out (HB.out _) HL.out hcl hi0 hi1 hll HN.out k x nx HR.out).mono ?_;rintro e W2 ⟨rfl,hL2⟩;have c6:=hL2.c6;have c2:=hL2.c2;have HL2:=Sd.m hL2;clear hL2;go_wp2_with fail;refine (is_in w0 W2 g _ cl l Ap cp p nx deep out HL2.out HL.out nx 45 hnx0 hnx1).mono ?_;rintro e W3 ⟨rfl,hL3,hb3⟩;have e45':(rd l nx == 45)=false:=by have:=HM.out;simpa using this
 have c6:=hL3.c6;have HL3:=Sd.m hL3;clear hL3 hb3;go_wp2_with fail;refine (df_ w0 W3 g _ cl l Ap cp p nx deep out HL3.out HP.out hpl hol 15 ⟨#[]⟩ x x 0 i hi0 hi2).mono ?_;rintro e W5 ⟨rfl,hL5⟩;have HL5:=Sd.m hL5;clear hL5;go_wp2_with fail;refine Great.bodyPost_end0 rfl rfl ?_;exact ⟨rfl,HL5.out⟩
end LX
namespace K
open A
attribute [local go_sem] ct_ cq_ dh_ dg_ ch_ cg_ cr_ cp_
mutual
def ah_.j1:Nat->List Int->Int->Int->Int->Option (Int × Int × Int)
 | 0,_,_,_,_=>none
 | k+1,x0,x1,x7,x8=>if 0<=x1 then (if x1<(x0.length:Int) then (if (rd x0 x1)=48 then (ah_.j2 k x0 x1 x7 x8 (decide (x7>(wrap64 (x1+1))))) else (ah_.j2 k x0 x1 x7 x8 false)) else (none)) else (none)
def ah_.j2:Nat->List Int->Int->Int->Int->Bool->Option (Int × Int × Int)
 | 0,_,_,_,_,_=>none
 | k+1,x0,x1,x7,x8,x46=>if x46=true then (none) else (if (wrap64 (x7+1))<(x0.length:Int) then (if 0<=x7 then (if x7<(x0.length:Int) then (if (rd x0 x7)=46 then (none) else (ah_.j3 k x0 x7 x8 (decide ((wrap64 (x7 - x1))>3)) 0 false)) else (none)) else (none)) else (ah_.j3 k x0 x7 x8 (decide ((wrap64 (x7 - x1))>3)) 0 false))
def ah_.j3:Nat->List Int->Int->Int->Bool->Int->Bool->Option (Int × Int × Int)
 | 0,_,_,_,_,_,_=>none
 | k+1,x0,x7,x8,x9,x10,x71=>if x71=true then (none) else (if x9=true then (none) else (some (wrap64 ((wrap64 (x8*1000))+x10),x7,0)))
def ah_.j5:Nat->Int->Int->Bool->Int->Int->Option (Int × Int × Int)
 | 0,_,_,_,_,_=>none
 | k+1,x7,x8,x9,x10,x11=>if x9=true then (ah_.j6 k x7 x8 true x10 x11) else (ah_.j6 k x7 x8 (decide ((wrap64 ((wrap64 (x7 - x11)) - 1))>3)) x10 x11)
def ah_.j6:Nat->Int->Int->Bool->Int->Int->Option (Int × Int × Int)
 | 0,_,_,_,_,_=>none
 | k+1,x7,x8,x9,x10,x11=>ah_.l2 k x7 x8 x9 x10 (wrap64 ((wrap64 (x7 - x11)) - 1))
def ah_.l2:Nat->Int->Int->Bool->Int->Int->Option (Int × Int × Int)
 | 0,_,_,_,_,_=>none
 | k+1,x7,x8,x9,x10,x12=>if x12<3 then (ah_.l2 k x7 x8 x9 (wrap64 (x10*10)) (wrap64 (x12+1))) else (if x9=true then (some (0,x7,2)) else (some (wrap64 ((wrap64 (x8*1000))+x10),x7,0)))
def ah_.l1:Nat->List Int->Int->Int->Bool->Int->Int->Option (Int × Int × Int)
 | 0,_,_,_,_,_,_=>none
 | k+1,x0,x7,x8,x9,x10,x11=>if x7<(x0.length:Int) then (if 0<=x7 then ((bx_.f (rd x0 x7)).bind fun t152=>(if t152=true then (ah_.l1 k x0 (wrap64 (x7+1)) x8 x9 (mn 100000 (wrap64 ((wrap64 ((wrap64 (x10*10))+(rd x0 x7))) - 48))) x11) else (ah_.j5 k x7 x8 x9 x10 x11))) else (none)) else (ah_.j5 k x7 x8 x9 x10 x11)
def ah_.l0:Nat->List Int->Int->Int->Int->Option (Int × Int × Int)
 | 0,_,_,_,_=>none
 | k+1,x0,x1,x7,x8=>if x7<(x0.length:Int) then (if 0<=x7 then ((bx_.f (rd x0 x7)).bind fun t145=>(if t145=true then (ah_.l0 k x0 x1 (wrap64 (x7+1)) (mn 100000 (wrap64 ((wrap64 ((wrap64 (x8*10))+(rd x0 x7))) - 48)))) else (ah_.j1 k x0 x1 x7 x8))) else (none)) else (ah_.j1 k x0 x1 x7 x8)
end
def ah_.f (k:Nat)(l0:List Int)(a1:Int):Option (Int × Int × Int):=ah_.l0 k l0 a1 a1 0
theorem ah_.calls (k:Nat)(A0:Option Addr)(c0:Nat)(l0:List Int)(a1:Int)(r1:Int)(r2:Int)(r3:Int)(w:World)(hr0:Kd.C (Kd.int .i64) w A0 l0.length l0)(hc0:l0.length<=c0)(h:ah_.f k l0 a1=some (r1,r2,r3)):
  Calls Tryz.prog 164 #[.slice A0 l0.length c0,.int .i64 a1] w fun e w'=>e=.returned (.tuple #[.int .i64 r1,.int .i64 r2,.int .i64 r3])∧Below w.heap.size w w':=by
 have HR0:=Sd.m hr0;have HC0:=Sd.m hc0;clear hr0 hc0;have HB:=Sd.m (Below.refl w.heap.size w);have H:(ah_.l0 k l0 a1 a1 0)=some (r1,r2,r3):=h;clear h;have HC3:=Sd.m H;clear H;go_enter Tryz.func164,Tryz.ntmps164
 go_upto_block 0 with (fail)
 go_cut [7,8] (fun v7 v8 wc=> ∃ (kq:Nat) (x7_2:Int) (x8_2:Int),v7=.int .i64 x7_2∧v8=.int .i64 x8_2∧Sd (ah_.j1 kq l0 a1 x7_2 x8_2=some (r1,r2,r3))∧Sd (kq<=k)∧Sd (Below w.heap.size w wc))
 case first=>
  have H:=HC3.out;clear HC3;have H':=Sd.m H;clear H;go_wp2
  go_loopg [7,8] k (fun kq v7 v8 w'=> ∃ (x7_1:Int) (x8_1:Int),v7=.int .i64 x7_1∧v8=.int .i64 x8_1∧Sd (ah_.l0 kq l0 a1 x7_1 x8_1=some (r1,r2,r3))∧Sd (kq<=k)∧Sd (Below w.heap.size w w'))
  case atStart=>exact ⟨(a1),(0),ri_,ri_,H',⟨Nat.le_refl _⟩,⟨rb_⟩⟩
  case round=>
   clear H';obtain ⟨x7_1,x8_1,rfl,rfl,HA,HK1,HB⟩:=hrel;cases gk with
   | zero=>exact absurd HA.out (by simp [ah_.l0])
   | succ k1=>
    have H:=HA.out;clear HA;simp only [ah_.l0] at H;by_cases c4:x7_1<(l0.length:Int)
    ·rw [if_pos c4] at H;have c4b0:=dt__ c4;clear c4
     (first | rw [c4b0] | (simp only [cz_,db_];rw [c4b0]) | skip)
     by_cases c5:0<=x7_1
     ·rw [if_pos c5] at H;have c5b0:=dt__ c5;clear c5;replace H:=Option.bind_eq_some_iff.mp H;obtain ⟨t145,A60,H⟩:=H;replace H:(if t145=true then (ah_.l0 k1 l0 a1 (wrap64 (x7_1+1)) (mn 100000 (wrap64 ((wrap64 ((wrap64 (x8_1*10))+(rd l0 x7_1))) - 48)))) else (ah_.j1 k1 l0 a1 x7_1 x8_1))=some (r1,r2,r3):=H;have A6:=Sd.m A60;clear A60;by_cases c7:t145=true
      ·subst c7;have H1:(ah_.l0 k1 l0 a1 (wrap64 (x7_1+1)) (mn 100000 (wrap64 ((wrap64 ((wrap64 (x8_1*10))+(rd l0 x7_1))) - 48))))=some (r1,r2,r3):=by rw [if_pos rfl] at H;exact H
       clear H;have H:=H1;clear H1;obtain ⟨ji8,hji8⟩: ∃ j_:Int,(mn 100000 (wrap64 ((wrap64 ((wrap64 (x8_1*10))+(rd l0 x7_1))) - 48)))=j_:=⟨_,rfl⟩;replace H:(ah_.l0 k1 l0 a1 (wrap64 (x7_1+1)) ji8)=some (r1,r2,r3):=by first | (rw [hji8] at H;exact H) | (simp only [hji8] at H ⊢;exact H)
       (try rw [hji8] at A6)
       have hji8_:(if (wrap64 ((wrap64 ((wrap64 (x8_1*10))+(rd l0 x7_1))) - 48))<100000 then (wrap64 ((wrap64 ((wrap64 (x8_1*10))+(rd l0 x7_1))) - 48)) else 100000)=ji8:=hji8;have H':=Sd.m H;clear H;obtain ⟨ad144,rfl,hx144_0,p144,q144⟩:=ai_ HR0.out HB.out x7_1;go_wp2_with (first | (go_at_call 163;(with_reducible refine (bx_.calls (rd l0 x7_1) true _ A6.out).mono ?_);rintro e w' ⟨rfl,⟨nd,rfl⟩⟩;have p146:0<=(x7_1:Int):=od_;have q146:x7_1<(l0.length:Int):=od_;obtain ⟨ad146,e146,hx146_0⟩:=Kd.ds_ HR0.out x7_1 p146 q146;obtain rfl:ad144=ad146:=(by injection e146);replace hx146_0:=(HB.out.cell (bl__ w _ hx146_0)).trans hx146_0;replace p146:=eq_true p146;replace q146:=eq_true q146))
       go_roundg k1
       case measure=>have:=HK1.out;omega
       case rel=>exact ⟨(wrap64 (x7_1+1)),(ji8),ri_,(by first | rfl | (simp;done) | (simp only [←hji8] <;> (first | rfl | simp)) | (simp [*];done)),H',⟨by have:=HK1.out;omega⟩,⟨rb_⟩⟩
      ·replace c7:=Bool.eq_false_iff.mpr c7;subst c7;have H1:(ah_.j1 k1 l0 a1 x7_1 x8_1)=some (r1,r2,r3):=by rw [if_neg (show ¬ (false=true) by decide)] at H;exact H
       clear H;have H:=H1;clear H1;have H':=Sd.m H;clear H;obtain ⟨ad144,rfl,hx144_0,p144,q144⟩:=ai_ HR0.out HB.out x7_1;go_wp2_with (first | (go_at_call 163;(with_reducible refine (bx_.calls (rd l0 x7_1) false _ A6.out).mono ?_);rintro e w' ⟨rfl,⟨nd,rfl⟩⟩));go_meet
       case rel=>exact ⟨_,(x7_1),(x8_1),ri_,ri_,H',⟨by have:=HK1.out;first | omega | exact Nat.le_refl _⟩,⟨rb_⟩⟩
     ·rw [if_neg c5] at H;exact absurd H (by simp)
    ·rw [if_neg c4] at H;have c4b0:=df__ c4;clear c4
     (first | rw [c4b0] | (simp only [cz_,db_];rw [c4b0]) | skip)
     have H':=Sd.m H;clear H;go_wp2;go_meet
     case rel=>exact ⟨_,(x7_1),(x8_1),ri_,ri_,H',⟨by have:=HK1.out;first | omega | exact Nat.le_refl _⟩,⟨rb_⟩⟩
 case rest=>
  clear HC3;obtain ⟨kq,x7_2,x8_2,rfl,rfl,HA,HJ2,HB⟩:=hcut;cases kq with
  | zero=>exact absurd HA.out (by simp [ah_.j1])
  | succ kj2=>
   have H:=HA.out;clear HA;simp only [ah_.j1] at H;have HC9:=Sd.m H;clear H;go_upto_region 6 with (fail);go_cut [46] (fun v46 wc=> ∃ (kq:Nat) (x46_8:Bool),v46=.bool x46_8∧Sd (ah_.j2 kq l0 a1 x7_2 x8_2 x46_8=some (r1,r2,r3))∧Sd (kq<=kj2)∧Sd (Below w.heap.size w wc))
   case first=>
    have H:=HC9.out;clear HC9;by_cases c10:0<=a1
    ·rw [if_pos c10] at H;have c10b0:=dt__ c10;clear c10
     (first | rw [c10b0] | (simp only [cz_,db_];rw [c10b0]) | skip)
     by_cases c11:a1<(l0.length:Int)
     ·rw [if_pos c11] at H;have c11b0:=dt__ c11;clear c11;by_cases c12:(rd l0 a1)=48
      ·rw [if_pos c12] at H;have c12b0:((rd l0 a1) == 48)=true:=beq_iff_eq.mpr c12;have c12b1:((rd l0 a1) != 48)=false:=bne_eq_false_iff_eq.mpr c12;clear c12;have H':=Sd.m H;clear H;obtain ⟨ad147,rfl,hx147_0,p147,q147⟩:=ai_ HR0.out HB.out a1;go_wp2;go_meet
       case rel=>exact ⟨_,(decide (x7_2>(wrap64 (a1+1)))),ri_,H',⟨by have:=HJ2.out;first | omega | exact Nat.le_refl _⟩,⟨rb_⟩⟩
      ·rw [if_neg c12] at H;have c12b0:((rd l0 a1) == 48)=false:=beq_eq_false_iff_ne.mpr c12;have c12b1:((rd l0 a1) != 48)=true:=bne_iff_ne.mpr c12;have H':=Sd.m H;clear H;obtain ⟨ad147,rfl,hx147_0,p147,q147⟩:=ai_ HR0.out HB.out a1;go_wp2;go_meet
       case rel=>exact ⟨_,(false),ri_,H',⟨by have:=HJ2.out;first | omega | exact Nat.le_refl _⟩,⟨rb_⟩⟩
     ·rw [if_neg c11] at H;exact absurd H (by simp)
    ·rw [if_neg c10] at H;exact absurd H (by simp)
   case rest=>
    clear HC9;obtain ⟨kq,x46_8,rfl,HA,HJ8,HB⟩:=hcut;cases kq with
    | zero=>exact absurd HA.out (by simp [ah_.j2])
    | succ kj8=>
     have H:=HA.out;clear HA;simp only [ah_.j2] at H;by_cases c13:x46_8=true
     ·rw [if_pos c13] at H;exact absurd H (by simp)
     ·replace c13:=Bool.eq_false_iff.mpr c13;subst c13;have H1:(if (wrap64 (x7_2+1))<(l0.length:Int) then (if 0<=x7_2 then (if x7_2<(l0.length:Int) then (if (rd l0 x7_2)=46 then (none) else (ah_.j3 kj8 l0 x7_2 x8_2 (decide ((wrap64 (x7_2 - a1))>3)) 0 false)) else (none)) else (none)) else (ah_.j3 kj8 l0 x7_2 x8_2 (decide ((wrap64 (x7_2 - a1))>3)) 0 false))=some (r1,r2,r3):=by rw [if_neg (show ¬ (false=true) by decide)] at H;exact H
      clear H;have H:=H1;clear H1;have HC14:=Sd.m H;clear H;go_upto_region 10 with (fail);go_cut [71] (fun v71 wc=> ∃ (kq:Nat) (x71_13:Bool),v71=.bool x71_13∧Sd (ah_.j3 kq l0 x7_2 x8_2 (decide ((wrap64 (x7_2 - a1))>3)) 0 x71_13=some (r1,r2,r3))∧Sd (kq<=kj8)∧Sd (Below w.heap.size w wc))
      case first=>
       have H:=HC14.out;clear HC14;by_cases c15:(wrap64 (x7_2+1))<(l0.length:Int)
       ·rw [if_pos c15] at H;have c15b0:=dt__ c15;clear c15
        (first | rw [c15b0] | (simp only [cz_,db_];rw [c15b0]) | skip)
        by_cases c16:0<=x7_2
        ·rw [if_pos c16] at H;have c16b0:=dt__ c16;clear c16;by_cases c17:x7_2<(l0.length:Int)
         ·rw [if_pos c17] at H;have c17b0:=dt__ c17;clear c17;by_cases c18:(rd l0 x7_2)=46
          ·rw [if_pos c18] at H;exact absurd H (by simp)
          ·rw [if_neg c18] at H;have c18b0:((rd l0 x7_2) == 46)=false:=beq_eq_false_iff_ne.mpr c18;have c18b1:((rd l0 x7_2) != 46)=true:=bne_iff_ne.mpr c18;have H':=Sd.m H;clear H;obtain ⟨ad148,rfl,hx148_0,p148,q148⟩:=ai_ HR0.out HB.out x7_2;go_wp2;go_meet
           case rel=>exact ⟨_,(false),ri_,H',⟨by have:=HJ2.out;have:=HJ8.out;first | omega | exact Nat.le_refl _⟩,⟨rb_⟩⟩
         ·rw [if_neg c17] at H;exact absurd H (by simp)
        ·rw [if_neg c16] at H;exact absurd H (by simp)
       ·rw [if_neg c15] at H;have c15b0:=df__ c15;clear c15
        (first | rw [c15b0] | (simp only [cz_,db_];rw [c15b0]) | skip)
        have H':=Sd.m H;clear H;go_wp2;go_meet
        case rel=>exact ⟨_,(false),ri_,H',⟨by have:=HJ2.out;have:=HJ8.out;first | omega | exact Nat.le_refl _⟩,⟨rb_⟩⟩
      case rest=>
       clear HC14;obtain ⟨kq,x71_13,rfl,HA,HJ13,HB⟩:=hcut;cases kq with
       | zero=>exact absurd HA.out (by simp [ah_.j3])
       | succ kj13=>
        have H:=HA.out;clear HA;simp only [ah_.j3] at H;by_cases c22:x71_13=true
        ·rw [if_pos c22] at H;exact absurd H (by simp)
        ·replace c22:=Bool.eq_false_iff.mpr c22;subst c22;have H1:(if (decide ((wrap64 (x7_2 - a1))>3))=true then (none) else (some (wrap64 ((wrap64 (x8_2*1000))+0),x7_2,0)))=some (r1,r2,r3):=by rw [if_neg (show ¬ (false=true) by decide)] at H;exact H
         clear H;have H:=H1;clear H1;by_cases c33:(decide ((wrap64 (x7_2 - a1))>3))=true
         ·rw [if_pos c33] at H;exact absurd H (by simp)
         ·rw [if_neg c33] at H;have c33b0:(decide ((wrap64 (x7_2 - a1))>3))=false:=by simpa using c33
          clear c33;simp only [Option.some.injEq,Prod.mk.injEq] at H;obtain ⟨rfl,rfl,rfl⟩:=H;go_wp2
          all_goals (try (exfalso;have q_:=of_decide_eq_false c33b0;omega))
          go_ret3;exact ⟨re_,rb_⟩
end K
namespace LX
open Shelf YthfceiincmkccaaGreatW.PrintWords.Kd A K
theorem step_is (w0 W:World)(g:Nat)(Al:Option Addr)(cl:Nat)(l:List Int)(Ap:Option Addr)(cp:Nat)(p:List Int)(i deep:Int)(out:List S159)(h:LexAt w0 W g Al cl l Ap cp p i deep out)
  (hl:Kd.C (Kd.int .i64) w0 Al l.length l) (hcl:l.length<=cl) (hp:Kd.C (Kd.int .i64) w0 Ap p.length p) (hpl:p.length<=1000000) (hol:out.length<=1000000) (hi0:0<=i) (hi1:i<l.length) (hi2:i<p.length) (hll:l.length<=1000000)
  (hc:rd l i=61):
  Calls Tryz.prog 123 #[.pointer (some ⟨g,0,none⟩)] W fun e W1=>e=.returned (.tuple #[])∧LexAt w0 W1 g Al cl l Ap cp p (i+1) deep (out ++ [⟨3,⟨#[]⟩,0,0,rd p i⟩]):=by
 have c2:=h.c2;have c0:=h.c0;obtain ⟨ad,rfl,hcell⟩:=at_l hl h.B i hi0 hi1;have d0:decide ((0:Int)<=i)=true:=dt__ hi0;have d1:decide (i<(l.length:Int))=true:=dt__ hi1;have w2:IntKind.i64.wrap (i+1)=i+1:=IntWalk.i64_in _ (by omega);obtain ⟨x,hx⟩: ∃ x,x=rd l i:=⟨_,rfl⟩;rw [←hx] at hcell;have e61:((61:Int) == x)=true:=by rw [hx,hc];decide
 have HB:Sd (∀ n,LexAt w0 ((W.drewN n).alloc (.cells #[.int .i64 61,.int .i64 215,.int .i64 247,.int .i64 40,.int .i64 41,.int .i64 124,.int .i64 42,.int .i64 43,.int .i64 63,.int .i64 46] 3)) g (some ad) cl l Ap cp p i deep out):=⟨fun n=>(h.below (ad_ (Below.refl W.heap.size W) n)).below (ab_ (Below.refl _ _) _)⟩;have HCL:Sd (∀ (n k:Nat) (v:Value),( #[.int .i64 61,.int .i64 215,.int .i64 247,.int .i64 40,.int .i64 41,.int .i64 124,.int .i64 42,.int .i64 43,.int .i64 63,.int .i64 46]:Array Value)[k]? =some v->((W.drewN n).alloc (.cells #[.int .i64 61,.int .i64 215,.int .i64 247,.int .i64 40,.int .i64 41,.int .i64 124,.int .i64 42,.int .i64 43,.int .i64 63,.int .i64 46] 3)).cell? ⟨W.heap.size,k,none⟩=some v):=⟨fun n k v hv=>(af_ (aj_ (W.drewN n) _) k).trans hv⟩;have HL:=Sd.m hl;have HP:=Sd.m hp;have HX:=Sd.m hx;clear h hl hp hx hc;go_enter Tryz.func123,Tryz.ntmps123;go_wp2_with fail;go_quiet (fail);go_wp2_with fail
 go_loop [5] (fun t=>t=.int .i64 0) (fun t=>(10 - intOf t).toNat)
 case atStart=>simp
 case round=>
  rcases hrel with rfl
  ·clear c2 c0 hcell;have pk:=HCL.out nq 0 _ rfl;have hLn:=HB.out;clear hLn;go_wp2_with fail;refine (df_ w0 _ g _ cl l Ap cp p i deep out (HB.out _) HP.out hpl hol 3 ⟨#[]⟩ 0 0 0 i hi0 hi2).mono ?_;rintro e W2 ⟨rfl,hL2⟩;have c2:=hL2.c2;have f2:=hL2.fr 2;have HL2:=Sd.m (hL2.gw_ (i+1));clear hL2;go_wp2_with fail;refine bodyPost_ret (results_none rfl _ _ _) rfl ?_;exact ⟨rfl,HL2.out⟩
theorem step_stay (w0 W:World)(g:Nat)(Al:Option Addr)(cl:Nat)(l:List Int)(Ap:Option Addr)(cp:Nat)(p:List Int)(i deep:Int)(out:List S159)(h:LexAt w0 W g Al cl l Ap cp p i deep out)
  (hl:Kd.C (Kd.int .i64) w0 Al l.length l) (hcl:l.length<=cl) (hp:Kd.C (Kd.int .i64) w0 Ap p.length p) (hpl:p.length<=1000000) (hol:out.length<=1000000) (hi0:0<=i) (hi1:i<l.length) (hi2:i<p.length) (hll:l.length<=1000000)
  (hc:rd l i=215):
  Calls Tryz.prog 123 #[.pointer (some ⟨g,0,none⟩)] W fun e W1=>e=.returned (.tuple #[])∧LexAt w0 W1 g Al cl l Ap cp p (i+1) deep (out ++ [⟨4,⟨#[]⟩,0,0,rd p i⟩]):=by
 have c2:=h.c2;have c0:=h.c0;obtain ⟨ad,rfl,hcell⟩:=at_l hl h.B i hi0 hi1;have d0:decide ((0:Int)<=i)=true:=dt__ hi0;have d1:decide (i<(l.length:Int))=true:=dt__ hi1;have w2:IntKind.i64.wrap (i+1)=i+1:=IntWalk.i64_in _ (by omega);obtain ⟨x,hx⟩: ∃ x,x=rd l i:=⟨_,rfl⟩;rw [←hx] at hcell;have e61:((61:Int) == x)=false:=by rw [hx,hc];decide
 have e215:((215:Int) == x)=true:=by rw [hx,hc];decide
 have HB:Sd (∀ n,LexAt w0 ((W.drewN n).alloc (.cells #[.int .i64 61,.int .i64 215,.int .i64 247,.int .i64 40,.int .i64 41,.int .i64 124,.int .i64 42,.int .i64 43,.int .i64 63,.int .i64 46] 3)) g (some ad) cl l Ap cp p i deep out):=⟨fun n=>(h.below (ad_ (Below.refl W.heap.size W) n)).below (ab_ (Below.refl _ _) _)⟩;have HCL:Sd (∀ (n k:Nat) (v:Value),( #[.int .i64 61,.int .i64 215,.int .i64 247,.int .i64 40,.int .i64 41,.int .i64 124,.int .i64 42,.int .i64 43,.int .i64 63,.int .i64 46]:Array Value)[k]? =some v->((W.drewN n).alloc (.cells #[.int .i64 61,.int .i64 215,.int .i64 247,.int .i64 40,.int .i64 41,.int .i64 124,.int .i64 42,.int .i64 43,.int .i64 63,.int .i64 46] 3)).cell? ⟨W.heap.size,k,none⟩=some v):=⟨fun n k v hv=>(af_ (aj_ (W.drewN n) _) k).trans hv⟩;have HL:=Sd.m hl;have HP:=Sd.m hp;have HX:=Sd.m hx;clear h hl hp hx hc;go_enter Tryz.func123,Tryz.ntmps123;go_wp2_with fail;go_quiet (fail);go_wp2_with fail
 go_loop [5] (fun t=>t=.int .i64 0∨t=.int .i64 1) (fun t=>(10 - intOf t).toNat)
 case atStart=>simp
 case round=>
  rcases hrel with rfl | rfl
  ·clear c2 c0 hcell;have pk:=HCL.out nq 0 _ rfl;go_wp2_with fail
   go_round
   case rel=>simp
   case measure=>simp [intOf]
  ·clear c2 c0 hcell;have pk:=HCL.out nq 1 _ rfl;have hLn:=HB.out;clear hLn;go_wp2_with fail;refine (df_ w0 _ g _ cl l Ap cp p i deep out (HB.out _) HP.out hpl hol 4 ⟨#[]⟩ 0 0 0 i hi0 hi2).mono ?_;rintro e W2 ⟨rfl,hL2⟩;have c2:=hL2.c2;have f2:=hL2.fr 2;have HL2:=Sd.m (hL2.gw_ (i+1));clear hL2;go_wp2_with fail;refine bodyPost_ret (results_none rfl _ _ _) rfl ?_;exact ⟨rfl,HL2.out⟩
theorem step_cut (w0 W:World)(g:Nat)(Al:Option Addr)(cl:Nat)(l:List Int)(Ap:Option Addr)(cp:Nat)(p:List Int)(i deep:Int)(out:List S159)(h:LexAt w0 W g Al cl l Ap cp p i deep out)
  (hl:Kd.C (Kd.int .i64) w0 Al l.length l) (hcl:l.length<=cl) (hp:Kd.C (Kd.int .i64) w0 Ap p.length p) (hpl:p.length<=1000000) (hol:out.length<=1000000) (hi0:0<=i) (hi1:i<l.length) (hi2:i<p.length) (hll:l.length<=1000000)
  (hc:rd l i=247):
  Calls Tryz.prog 123 #[.pointer (some ⟨g,0,none⟩)] W fun e W1=>e=.returned (.tuple #[])∧LexAt w0 W1 g Al cl l Ap cp p (i+1) deep (out ++ [⟨5,⟨#[]⟩,0,0,rd p i⟩]):=by
 have c2:=h.c2;have c0:=h.c0;obtain ⟨ad,rfl,hcell⟩:=at_l hl h.B i hi0 hi1;have d0:decide ((0:Int)<=i)=true:=dt__ hi0;have d1:decide (i<(l.length:Int))=true:=dt__ hi1;have w2:IntKind.i64.wrap (i+1)=i+1:=IntWalk.i64_in _ (by omega);obtain ⟨x,hx⟩: ∃ x,x=rd l i:=⟨_,rfl⟩;rw [←hx] at hcell;have e61:((61:Int) == x)=false:=by rw [hx,hc];decide
 have e215:((215:Int) == x)=false:=by rw [hx,hc];decide
 have e247:((247:Int) == x)=true:=by rw [hx,hc];decide
 have HB:Sd (∀ n,LexAt w0 ((W.drewN n).alloc (.cells #[.int .i64 61,.int .i64 215,.int .i64 247,.int .i64 40,.int .i64 41,.int .i64 124,.int .i64 42,.int .i64 43,.int .i64 63,.int .i64 46] 3)) g (some ad) cl l Ap cp p i deep out):=⟨fun n=>(h.below (ad_ (Below.refl W.heap.size W) n)).below (ab_ (Below.refl _ _) _)⟩;have HCL:Sd (∀ (n k:Nat) (v:Value),( #[.int .i64 61,.int .i64 215,.int .i64 247,.int .i64 40,.int .i64 41,.int .i64 124,.int .i64 42,.int .i64 43,.int .i64 63,.int .i64 46]:Array Value)[k]? =some v->((W.drewN n).alloc (.cells #[.int .i64 61,.int .i64 215,.int .i64 247,.int .i64 40,.int .i64 41,.int .i64 124,.int .i64 42,.int .i64 43,.int .i64 63,.int .i64 46] 3)).cell? ⟨W.heap.size,k,none⟩=some v):=⟨fun n k v hv=>(af_ (aj_ (W.drewN n) _) k).trans hv⟩;have HL:=Sd.m hl;have HP:=Sd.m hp;have HX:=Sd.m hx;clear h hl hp hx hc;go_enter Tryz.func123,Tryz.ntmps123;go_wp2_with fail;go_quiet (fail);go_wp2_with fail
 go_loop [5] (fun t=>t=.int .i64 0∨t=.int .i64 1∨t=.int .i64 2) (fun t=>(10 - intOf t).toNat)
 case atStart=>simp
 case round=>
  rcases hrel with rfl | rfl | rfl
  ·clear c2 c0 hcell;have pk:=HCL.out nq 0 _ rfl;go_wp2_with fail
   go_round
   case rel=>simp
   case measure=>simp [intOf]
  ·clear c2 c0 hcell;have pk:=HCL.out nq 1 _ rfl;go_wp2_with fail
   go_round
   case rel=>simp
   case measure=>simp [intOf]
  ·clear c2 c0 hcell;have pk:=HCL.out nq 2 _ rfl;have hLn:=HB.out;clear hLn;go_wp2_with fail;refine (df_ w0 _ g _ cl l Ap cp p i deep out (HB.out _) HP.out hpl hol 5 ⟨#[]⟩ 0 0 0 i hi0 hi2).mono ?_;rintro e W2 ⟨rfl,hL2⟩;have c2:=hL2.c2;have f2:=hL2.fr 2;have HL2:=Sd.m (hL2.gw_ (i+1));clear hL2;go_wp2_with fail;refine bodyPost_ret (results_none rfl _ _ _) rfl ?_;exact ⟨rfl,HL2.out⟩
theorem step_or (w0 W:World)(g:Nat)(Al:Option Addr)(cl:Nat)(l:List Int)(Ap:Option Addr)(cp:Nat)(p:List Int)(i deep:Int)(out:List S159)(h:LexAt w0 W g Al cl l Ap cp p i deep out)
  (hl:Kd.C (Kd.int .i64) w0 Al l.length l) (hcl:l.length<=cl) (hp:Kd.C (Kd.int .i64) w0 Ap p.length p) (hpl:p.length<=1000000) (hol:out.length<=1000000) (hi0:0<=i) (hi1:i<l.length) (hi2:i<p.length) (hll:l.length<=1000000)
  (hc:rd l i=124):
  Calls Tryz.prog 123 #[.pointer (some ⟨g,0,none⟩)] W fun e W1=>e=.returned (.tuple #[])∧LexAt w0 W1 g Al cl l Ap cp p (i+1) deep (out ++ [⟨8,⟨#[]⟩,0,0,rd p i⟩]):=by
 have c2:=h.c2;have c0:=h.c0;obtain ⟨ad,rfl,hcell⟩:=at_l hl h.B i hi0 hi1;have d0:decide ((0:Int)<=i)=true:=dt__ hi0;have d1:decide (i<(l.length:Int))=true:=dt__ hi1;have w2:IntKind.i64.wrap (i+1)=i+1:=IntWalk.i64_in _ (by omega);obtain ⟨x,hx⟩: ∃ x,x=rd l i:=⟨_,rfl⟩;rw [←hx] at hcell;have e61:((61:Int) == x)=false:=by rw [hx,hc];decide
 have e215:((215:Int) == x)=false:=by rw [hx,hc];decide
 have e247:((247:Int) == x)=false:=by rw [hx,hc];decide
 have e40:((40:Int) == x)=false:=by rw [hx,hc];decide
 have e41:((41:Int) == x)=false:=by rw [hx,hc];decide
 have e124:((124:Int) == x)=true:=by rw [hx,hc];decide
 have HB:Sd (∀ n,LexAt w0 ((W.drewN n).alloc (.cells #[.int .i64 61,.int .i64 215,.int .i64 247,.int .i64 40,.int .i64 41,.int .i64 124,.int .i64 42,.int .i64 43,.int .i64 63,.int .i64 46] 3)) g (some ad) cl l Ap cp p i deep out):=⟨fun n=>(h.below (ad_ (Below.refl W.heap.size W) n)).below (ab_ (Below.refl _ _) _)⟩;have HCL:Sd (∀ (n k:Nat) (v:Value),( #[.int .i64 61,.int .i64 215,.int .i64 247,.int .i64 40,.int .i64 41,.int .i64 124,.int .i64 42,.int .i64 43,.int .i64 63,.int .i64 46]:Array Value)[k]? =some v->((W.drewN n).alloc (.cells #[.int .i64 61,.int .i64 215,.int .i64 247,.int .i64 40,.int .i64 41,.int .i64 124,.int .i64 42,.int .i64 43,.int .i64 63,.int .i64 46] 3)).cell? ⟨W.heap.size,k,none⟩=some v):=⟨fun n k v hv=>(af_ (aj_ (W.drewN n) _) k).trans hv⟩;have HL:=Sd.m hl;have HP:=Sd.m hp;have HX:=Sd.m hx;clear h hl hp hx hc;go_enter Tryz.func123,Tryz.ntmps123;go_wp2_with fail;go_quiet (fail);go_wp2_with fail
 go_loop [5] (fun t=>t=.int .i64 0∨t=.int .i64 1∨t=.int .i64 2∨t=.int .i64 3∨t=.int .i64 4∨t=.int .i64 5) (fun t=>(10 - intOf t).toNat)
 case atStart=>simp
 case round=>
  rcases hrel with rfl | rfl | rfl | rfl | rfl | rfl
  ·clear c2 c0 hcell;have pk:=HCL.out nq 0 _ rfl;go_wp2_with fail
   go_round
   case rel=>simp
   case measure=>simp [intOf]
  ·clear c2 c0 hcell;have pk:=HCL.out nq 1 _ rfl;go_wp2_with fail
   go_round
   case rel=>simp
   case measure=>simp [intOf]
  ·clear c2 c0 hcell;have pk:=HCL.out nq 2 _ rfl;go_wp2_with fail
   go_round
   case rel=>simp
   case measure=>simp [intOf]
  ·clear c2 c0 hcell;have pk:=HCL.out nq 3 _ rfl;go_wp2_with fail
   go_round
   case rel=>simp
   case measure=>simp [intOf]
  ·clear c2 c0 hcell;have pk:=HCL.out nq 4 _ rfl;go_wp2_with fail
   go_round
   case rel=>simp
   case measure=>simp [intOf]
  ·clear c2 c0 hcell;have pk:=HCL.out nq 5 _ rfl;have hLn:=HB.out;clear hLn;go_wp2_with fail;refine (df_ w0 _ g _ cl l Ap cp p i deep out (HB.out _) HP.out hpl hol 8 ⟨#[]⟩ 0 0 0 i hi0 hi2).mono ?_;rintro e W2 ⟨rfl,hL2⟩;have c2:=hL2.c2;have f2:=hL2.fr 2;have HL2:=Sd.m (hL2.gw_ (i+1));clear hL2;go_wp2_with fail;refine bodyPost_ret (results_none rfl _ _ _) rfl ?_;exact ⟨rfl,HL2.out⟩
theorem step_star (w0 W:World)(g:Nat)(Al:Option Addr)(cl:Nat)(l:List Int)(Ap:Option Addr)(cp:Nat)(p:List Int)(i deep:Int)(out:List S159)(h:LexAt w0 W g Al cl l Ap cp p i deep out)
  (hl:Kd.C (Kd.int .i64) w0 Al l.length l) (hcl:l.length<=cl) (hp:Kd.C (Kd.int .i64) w0 Ap p.length p) (hpl:p.length<=1000000) (hol:out.length<=1000000) (hi0:0<=i) (hi1:i<l.length) (hi2:i<p.length) (hll:l.length<=1000000)
  (hc:rd l i=42):
  Calls Tryz.prog 123 #[.pointer (some ⟨g,0,none⟩)] W fun e W1=>e=.returned (.tuple #[])∧LexAt w0 W1 g Al cl l Ap cp p (i+1) deep (out ++ [⟨9,⟨#[]⟩,0,0,rd p i⟩]):=by
 have c2:=h.c2;have c0:=h.c0;obtain ⟨ad,rfl,hcell⟩:=at_l hl h.B i hi0 hi1;have d0:decide ((0:Int)<=i)=true:=dt__ hi0;have d1:decide (i<(l.length:Int))=true:=dt__ hi1;have w2:IntKind.i64.wrap (i+1)=i+1:=IntWalk.i64_in _ (by omega);obtain ⟨x,hx⟩: ∃ x,x=rd l i:=⟨_,rfl⟩;rw [←hx] at hcell;have e61:((61:Int) == x)=false:=by rw [hx,hc];decide
 have e215:((215:Int) == x)=false:=by rw [hx,hc];decide
 have e247:((247:Int) == x)=false:=by rw [hx,hc];decide
 have e40:((40:Int) == x)=false:=by rw [hx,hc];decide
 have e41:((41:Int) == x)=false:=by rw [hx,hc];decide
 have e124:((124:Int) == x)=false:=by rw [hx,hc];decide
 have e42:((42:Int) == x)=true:=by rw [hx,hc];decide
 have HB:Sd (∀ n,LexAt w0 ((W.drewN n).alloc (.cells #[.int .i64 61,.int .i64 215,.int .i64 247,.int .i64 40,.int .i64 41,.int .i64 124,.int .i64 42,.int .i64 43,.int .i64 63,.int .i64 46] 3)) g (some ad) cl l Ap cp p i deep out):=⟨fun n=>(h.below (ad_ (Below.refl W.heap.size W) n)).below (ab_ (Below.refl _ _) _)⟩;have HCL:Sd (∀ (n k:Nat) (v:Value),( #[.int .i64 61,.int .i64 215,.int .i64 247,.int .i64 40,.int .i64 41,.int .i64 124,.int .i64 42,.int .i64 43,.int .i64 63,.int .i64 46]:Array Value)[k]? =some v->((W.drewN n).alloc (.cells #[.int .i64 61,.int .i64 215,.int .i64 247,.int .i64 40,.int .i64 41,.int .i64 124,.int .i64 42,.int .i64 43,.int .i64 63,.int .i64 46] 3)).cell? ⟨W.heap.size,k,none⟩=some v):=⟨fun n k v hv=>(af_ (aj_ (W.drewN n) _) k).trans hv⟩;have HL:=Sd.m hl;have HP:=Sd.m hp;have HX:=Sd.m hx;clear h hl hp hx hc;go_enter Tryz.func123,Tryz.ntmps123;go_wp2_with fail;go_quiet (fail);go_wp2_with fail
 go_loop [5] (fun t=>t=.int .i64 0∨t=.int .i64 1∨t=.int .i64 2∨t=.int .i64 3∨t=.int .i64 4∨t=.int .i64 5∨t=.int .i64 6) (fun t=>(10 - intOf t).toNat)
 case atStart=>simp
 case round=>
  rcases hrel with rfl | rfl | rfl | rfl | rfl | rfl | rfl
  ·clear c2 c0 hcell;have pk:=HCL.out nq 0 _ rfl;go_wp2_with fail
   go_round
   case rel=>simp
   case measure=>simp [intOf]
  ·clear c2 c0 hcell;have pk:=HCL.out nq 1 _ rfl;go_wp2_with fail
   go_round
   case rel=>simp
   case measure=>simp [intOf]
  ·clear c2 c0 hcell;have pk:=HCL.out nq 2 _ rfl;go_wp2_with fail
   go_round
   case rel=>simp
   case measure=>simp [intOf]
  ·clear c2 c0 hcell;have pk:=HCL.out nq 3 _ rfl;go_wp2_with fail
   go_round
   case rel=>simp
   case measure=>simp [intOf]
  ·clear c2 c0 hcell;have pk:=HCL.out nq 4 _ rfl;go_wp2_with fail
   go_round
   case rel=>simp
   case measure=>simp [intOf]
  ·clear c2 c0 hcell;have pk:=HCL.out nq 5 _ rfl;go_wp2_with fail
   go_round
   case rel=>simp
   case measure=>simp [intOf]
  ·clear c2 c0 hcell;have pk:=HCL.out nq 6 _ rfl;have hLn:=HB.out;clear hLn;go_wp2_with fail;refine (df_ w0 _ g _ cl l Ap cp p i deep out (HB.out _) HP.out hpl hol 9 ⟨#[]⟩ 0 0 0 i hi0 hi2).mono ?_;rintro e W2 ⟨rfl,hL2⟩;have c2:=hL2.c2;have f2:=hL2.fr 2;have HL2:=Sd.m (hL2.gw_ (i+1));clear hL2;go_wp2_with fail;refine bodyPost_ret (results_none rfl _ _ _) rfl ?_;exact ⟨rfl,HL2.out⟩
theorem step_any (w0 W:World)(g:Nat)(Al:Option Addr)(cl:Nat)(l:List Int)(Ap:Option Addr)(cp:Nat)(p:List Int)(i deep:Int)(out:List S159)(h:LexAt w0 W g Al cl l Ap cp p i deep out)
  (hl:Kd.C (Kd.int .i64) w0 Al l.length l) (hcl:l.length<=cl) (hp:Kd.C (Kd.int .i64) w0 Ap p.length p) (hpl:p.length<=1000000) (hol:out.length<=1000000) (hi0:0<=i) (hi1:i<l.length) (hi2:i<p.length) (hll:l.length<=1000000)
  (hc:rd l i=46):
  Calls Tryz.prog 123 #[.pointer (some ⟨g,0,none⟩)] W fun e W1=>e=.returned (.tuple #[])∧LexAt w0 W1 g Al cl l Ap cp p (i+1) deep (out ++ [⟨12,⟨#[]⟩,0,0,rd p i⟩]):=by
 have c2:=h.c2;have c0:=h.c0;obtain ⟨ad,rfl,hcell⟩:=at_l hl h.B i hi0 hi1;have d0:decide ((0:Int)<=i)=true:=dt__ hi0;have d1:decide (i<(l.length:Int))=true:=dt__ hi1;have w2:IntKind.i64.wrap (i+1)=i+1:=IntWalk.i64_in _ (by omega);obtain ⟨x,hx⟩: ∃ x,x=rd l i:=⟨_,rfl⟩;rw [←hx] at hcell;have e61:((61:Int) == x)=false:=by rw [hx,hc];decide
 have e215:((215:Int) == x)=false:=by rw [hx,hc];decide
 have e247:((247:Int) == x)=false:=by rw [hx,hc];decide
 have e40:((40:Int) == x)=false:=by rw [hx,hc];decide
 have e41:((41:Int) == x)=false:=by rw [hx,hc];decide
 have e124:((124:Int) == x)=false:=by rw [hx,hc];decide
 have e42:((42:Int) == x)=false:=by rw [hx,hc];decide
 have e43:((43:Int) == x)=false:=by rw [hx,hc];decide
 have e63:((63:Int) == x)=false:=by rw [hx,hc];decide
 have e46:((46:Int) == x)=true:=by rw [hx,hc];decide
 have HB:Sd (∀ n,LexAt w0 ((W.drewN n).alloc (.cells #[.int .i64 61,.int .i64 215,.int .i64 247,.int .i64 40,.int .i64 41,.int .i64 124,.int .i64 42,.int .i64 43,.int .i64 63,.int .i64 46] 3)) g (some ad) cl l Ap cp p i deep out):=⟨fun n=>(h.below (ad_ (Below.refl W.heap.size W) n)).below (ab_ (Below.refl _ _) _)⟩;have HCL:Sd (∀ (n k:Nat) (v:Value),( #[.int .i64 61,.int .i64 215,.int .i64 247,.int .i64 40,.int .i64 41,.int .i64 124,.int .i64 42,.int .i64 43,.int .i64 63,.int .i64 46]:Array Value)[k]? =some v->((W.drewN n).alloc (.cells #[.int .i64 61,.int .i64 215,.int .i64 247,.int .i64 40,.int .i64 41,.int .i64 124,.int .i64 42,.int .i64 43,.int .i64 63,.int .i64 46] 3)).cell? ⟨W.heap.size,k,none⟩=some v):=⟨fun n k v hv=>(af_ (aj_ (W.drewN n) _) k).trans hv⟩;have HL:=Sd.m hl;have HP:=Sd.m hp;have HX:=Sd.m hx;clear h hl hp hx hc;go_enter Tryz.func123,Tryz.ntmps123;go_wp2_with fail;go_quiet (fail);go_wp2_with fail
 go_loop [5] (fun t=>t=.int .i64 0∨t=.int .i64 1∨t=.int .i64 2∨t=.int .i64 3∨t=.int .i64 4∨t=.int .i64 5∨t=.int .i64 6∨t=.int .i64 7∨t=.int .i64 8∨t=.int .i64 9) (fun t=>(10 - intOf t).toNat)
 case atStart=>simp
 case round=>
  rcases hrel with rfl | rfl | rfl | rfl | rfl | rfl | rfl | rfl | rfl | rfl
  ·clear c2 c0 hcell;have pk:=HCL.out nq 0 _ rfl;go_wp2_with fail
   go_round
   case rel=>simp
   case measure=>simp [intOf]
  ·clear c2 c0 hcell;have pk:=HCL.out nq 1 _ rfl;go_wp2_with fail
   go_round
   case rel=>simp
   case measure=>simp [intOf]
  ·clear c2 c0 hcell;have pk:=HCL.out nq 2 _ rfl;go_wp2_with fail
   go_round
   case rel=>simp
   case measure=>simp [intOf]
  ·clear c2 c0 hcell;have pk:=HCL.out nq 3 _ rfl;go_wp2_with fail
   go_round
   case rel=>simp
   case measure=>simp [intOf]
  ·clear c2 c0 hcell;have pk:=HCL.out nq 4 _ rfl;go_wp2_with fail
   go_round
   case rel=>simp
   case measure=>simp [intOf]
  ·clear c2 c0 hcell;have pk:=HCL.out nq 5 _ rfl;go_wp2_with fail
   go_round
   case rel=>simp
   case measure=>simp [intOf]
  ·clear c2 c0 hcell;have pk:=HCL.out nq 6 _ rfl;go_wp2_with fail
   go_round
   case rel=>simp
   case measure=>simp [intOf]
  ·clear c2 c0 hcell;have pk:=HCL.out nq 7 _ rfl;go_wp2_with fail
   go_round
   case rel=>simp
   case measure=>simp [intOf]
  ·clear c2 c0 hcell;have pk:=HCL.out nq 8 _ rfl;go_wp2_with fail
   go_round
   case rel=>simp
   case measure=>simp [intOf]
  ·clear c2 c0 hcell;have pk:=HCL.out nq 9 _ rfl;have hLn:=HB.out;clear hLn;go_wp2_with fail;refine (df_ w0 _ g _ cl l Ap cp p i deep out (HB.out _) HP.out hpl hol 12 ⟨#[]⟩ 0 0 0 i hi0 hi2).mono ?_;rintro e W2 ⟨rfl,hL2⟩;have c2:=hL2.c2;have f2:=hL2.fr 2;have HL2:=Sd.m (hL2.gw_ (i+1));clear hL2;go_wp2_with fail;refine bodyPost_ret (results_none rfl _ _ _) rfl ?_;exact ⟨rfl,HL2.out⟩
theorem step_line (w0 W:World)(g:Nat)(Al:Option Addr)(cl:Nat)(l:List Int)(Ap:Option Addr)(cp:Nat)(p:List Int)(i deep:Int)(out:List S159)(h:LexAt w0 W g Al cl l Ap cp p i deep out)
  (hl:Kd.C (Kd.int .i64) w0 Al l.length l) (hcl:l.length<=cl) (hp:Kd.C (Kd.int .i64) w0 Ap p.length p) (hpl:p.length<=1000000) (hol:out.length<=1000000) (hi0:0<=i) (hi1:i<l.length) (hi2:i<p.length) (hll:l.length<=1000000)
  (hc:rd l i=10):
  Calls Tryz.prog 123 #[.pointer (some ⟨g,0,none⟩)] W fun e W1=>e=.returned (.tuple #[])∧LexAt w0 W1 g Al cl l Ap cp p (i+1) deep (out ++ [⟨18,⟨#[]⟩,0,0,rd p i⟩]):=by
 have c2:=h.c2;have c0:=h.c0;obtain ⟨ad,rfl,hcell⟩:=at_l hl h.B i hi0 hi1;have d0:decide ((0:Int)<=i)=true:=dt__ hi0;have d1:decide (i<(l.length:Int))=true:=dt__ hi1;have w2:IntKind.i64.wrap (i+1)=i+1:=IntWalk.i64_in _ (by omega);obtain ⟨x,hx⟩: ∃ x,x=rd l i:=⟨_,rfl⟩;rw [←hx] at hcell;have e61:((61:Int) == x)=false:=by rw [hx,hc];decide
 have e215:((215:Int) == x)=false:=by rw [hx,hc];decide
 have e247:((247:Int) == x)=false:=by rw [hx,hc];decide
 have e40:((40:Int) == x)=false:=by rw [hx,hc];decide
 have e41:((41:Int) == x)=false:=by rw [hx,hc];decide
 have e124:((124:Int) == x)=false:=by rw [hx,hc];decide
 have e42:((42:Int) == x)=false:=by rw [hx,hc];decide
 have e43:((43:Int) == x)=false:=by rw [hx,hc];decide
 have e63:((63:Int) == x)=false:=by rw [hx,hc];decide
 have e46:((46:Int) == x)=false:=by rw [hx,hc];decide
 have f10:(x == 10)=true:=by rw [hx,hc];decide
 have HB:Sd (∀ n,LexAt w0 ((W.drewN n).alloc (.cells #[.int .i64 61,.int .i64 215,.int .i64 247,.int .i64 40,.int .i64 41,.int .i64 124,.int .i64 42,.int .i64 43,.int .i64 63,.int .i64 46] 3)) g (some ad) cl l Ap cp p i deep out):=⟨fun n=>(h.below (ad_ (Below.refl W.heap.size W) n)).below (ab_ (Below.refl _ _) _)⟩;have HCL:Sd (∀ (n k:Nat) (v:Value),( #[.int .i64 61,.int .i64 215,.int .i64 247,.int .i64 40,.int .i64 41,.int .i64 124,.int .i64 42,.int .i64 43,.int .i64 63,.int .i64 46]:Array Value)[k]? =some v->((W.drewN n).alloc (.cells #[.int .i64 61,.int .i64 215,.int .i64 247,.int .i64 40,.int .i64 41,.int .i64 124,.int .i64 42,.int .i64 43,.int .i64 63,.int .i64 46] 3)).cell? ⟨W.heap.size,k,none⟩=some v):=⟨fun n k v hv=>(af_ (aj_ (W.drewN n) _) k).trans hv⟩;have HL:=Sd.m hl;have HP:=Sd.m hp;have HX:=Sd.m hx;clear h hl hp hx hc;go_enter Tryz.func123,Tryz.ntmps123;go_wp2_with fail;go_quiet (fail);go_wp2_with fail
 go_loop [5] (fun t=>t=.int .i64 0∨t=.int .i64 1∨t=.int .i64 2∨t=.int .i64 3∨t=.int .i64 4∨t=.int .i64 5∨t=.int .i64 6∨t=.int .i64 7∨t=.int .i64 8∨t=.int .i64 9∨t=.int .i64 10) (fun t=>(10 - intOf t).toNat)
 case atStart=>simp
 case round=>
  rcases hrel with rfl | rfl | rfl | rfl | rfl | rfl | rfl | rfl | rfl | rfl | rfl
  ·clear c2 c0 hcell;have pk:=HCL.out nq 0 _ rfl;go_wp2_with fail
   go_round
   case rel=>simp
   case measure=>simp [intOf]
  ·clear c2 c0 hcell;have pk:=HCL.out nq 1 _ rfl;go_wp2_with fail
   go_round
   case rel=>simp
   case measure=>simp [intOf]
  ·clear c2 c0 hcell;have pk:=HCL.out nq 2 _ rfl;go_wp2_with fail
   go_round
   case rel=>simp
   case measure=>simp [intOf]
  ·clear c2 c0 hcell;have pk:=HCL.out nq 3 _ rfl;go_wp2_with fail
   go_round
   case rel=>simp
   case measure=>simp [intOf]
  ·clear c2 c0 hcell;have pk:=HCL.out nq 4 _ rfl;go_wp2_with fail
   go_round
   case rel=>simp
   case measure=>simp [intOf]
  ·clear c2 c0 hcell;have pk:=HCL.out nq 5 _ rfl;go_wp2_with fail
   go_round
   case rel=>simp
   case measure=>simp [intOf]
  ·clear c2 c0 hcell;have pk:=HCL.out nq 6 _ rfl;go_wp2_with fail
   go_round
   case rel=>simp
   case measure=>simp [intOf]
  ·clear c2 c0 hcell;have pk:=HCL.out nq 7 _ rfl;go_wp2_with fail
   go_round
   case rel=>simp
   case measure=>simp [intOf]
  ·clear c2 c0 hcell;have pk:=HCL.out nq 8 _ rfl;go_wp2_with fail
   go_round
   case rel=>simp
   case measure=>simp [intOf]
  ·clear c2 c0 hcell;have pk:=HCL.out nq 9 _ rfl;go_wp2_with fail
   go_round
   case rel=>simp
   case measure=>simp [intOf]
  ·clear c2 c0 hcell;have hLn:=HB.out;clear hLn;go_wp2_with fail;refine (df_ w0 _ g _ cl l Ap cp p i deep out (HB.out _) HP.out hpl hol 18 ⟨#[]⟩ 0 0 0 i hi0 hi2).mono ?_;rintro e W2 ⟨rfl,hL2⟩;have c2:=hL2.c2;have f2:=hL2.fr 2;have HL2:=Sd.m (hL2.gw_ (i+1));clear hL2;go_wp2_with fail;refine Great.bodyPost_end0 rfl rfl ?_;exact ⟨rfl,HL2.out⟩
theorem step_name (w0 W:World)(g:Nat)(Al:Option Addr)(cl:Nat)(l:List Int)(Ap:Option Addr)(cp:Nat)(p:List Int)(i deep:Int)(out:List S159)(h:LexAt w0 W g Al cl l Ap cp p i deep out)
  (hl:Kd.C (Kd.int .i64) w0 Al l.length l) (hcl:l.length<=cl) (hp:Kd.C (Kd.int .i64) w0 Ap p.length p) (hpl:p.length<=1000000) (hol:out.length<=1000000) (hi0:0<=i) (hi1:i<l.length) (hi2:i<p.length) (hll:l.length<=1000000)
  (hc:rd l i=36) (hx1:i+1<l.length) (hL:cd_.f (rd l (i+1))=some true) (hA:After l (i+2)) (k:Nat) (s:ByteArray) (hs:bn_.f k [rd l (i+1)]=some s):
  Calls Tryz.prog 123 #[.pointer (some ⟨g,0,none⟩)] W fun e W1=>e=.returned (.tuple #[])∧LexAt w0 W1 g Al cl l Ap cp p (i+2) deep (out ++ [⟨1,s,0,0,rd p i⟩]):=by
 have c2:=h.c2;have c0:=h.c0;obtain ⟨ad,rfl,hcell⟩:=at_l hl h.B i hi0 hi1;have d0:decide ((0:Int)<=i)=true:=dt__ hi0;have d1:decide (i<(l.length:Int))=true:=dt__ hi1;have w2:IntKind.i64.wrap (i+1)=i+1:=IntWalk.i64_in _ (by omega);obtain ⟨x,hx⟩: ∃ x,x=rd l i:=⟨_,rfl⟩;rw [←hx] at hcell;have e61:((61:Int) == x)=false:=by rw [hx,hc];decide
 have e215:((215:Int) == x)=false:=by rw [hx,hc];decide
 have e247:((247:Int) == x)=false:=by rw [hx,hc];decide
 have e40:((40:Int) == x)=false:=by rw [hx,hc];decide
 have e41:((41:Int) == x)=false:=by rw [hx,hc];decide
 have e124:((124:Int) == x)=false:=by rw [hx,hc];decide
 have e42:((42:Int) == x)=false:=by rw [hx,hc];decide
 have e43:((43:Int) == x)=false:=by rw [hx,hc];decide
 have e63:((63:Int) == x)=false:=by rw [hx,hc];decide
 have e46:((46:Int) == x)=false:=by rw [hx,hc];decide
 have f10:(x == 10)=false:=by rw [hx,hc];decide
 have f35:(x == 35)=false:=by rw [hx,hc];decide
 have f36:(x == 36)=true:=by rw [hx,hc];decide
 have HLE:=Sd.m hL;have HAF:=Sd.m hA;have HSS:=Sd.m hs;have HB:Sd (∀ n,LexAt w0 ((W.drewN n).alloc (.cells #[.int .i64 61,.int .i64 215,.int .i64 247,.int .i64 40,.int .i64 41,.int .i64 124,.int .i64 42,.int .i64 43,.int .i64 63,.int .i64 46] 3)) g (some ad) cl l Ap cp p i deep out):=⟨fun n=>(h.below (ad_ (Below.refl W.heap.size W) n)).below (ab_ (Below.refl _ _) _)⟩;have HCL:Sd (∀ (n k:Nat) (v:Value),( #[.int .i64 61,.int .i64 215,.int .i64 247,.int .i64 40,.int .i64 41,.int .i64 124,.int .i64 42,.int .i64 43,.int .i64 63,.int .i64 46]:Array Value)[k]? =some v->((W.drewN n).alloc (.cells #[.int .i64 61,.int .i64 215,.int .i64 247,.int .i64 40,.int .i64 41,.int .i64 124,.int .i64 42,.int .i64 43,.int .i64 63,.int .i64 46] 3)).cell? ⟨W.heap.size,k,none⟩=some v):=⟨fun n k v hv=>(af_ (aj_ (W.drewN n) _) k).trans hv⟩;have HL:=Sd.m hl;have HP:=Sd.m hp;have HX:=Sd.m hx;clear h hl hp hx hc hL hA hs;go_enter Tryz.func123,Tryz.ntmps123;go_wp2_with fail;go_quiet (fail);go_wp2_with fail
 go_loop [5] (fun t=>t=.int .i64 0∨t=.int .i64 1∨t=.int .i64 2∨t=.int .i64 3∨t=.int .i64 4∨t=.int .i64 5∨t=.int .i64 6∨t=.int .i64 7∨t=.int .i64 8∨t=.int .i64 9∨t=.int .i64 10) (fun t=>(10 - intOf t).toNat)
 case atStart=>simp
 case round=>
  rcases hrel with rfl | rfl | rfl | rfl | rfl | rfl | rfl | rfl | rfl | rfl | rfl
  ·clear c2 c0 hcell;have pk:=HCL.out nq 0 _ rfl;go_wp2_with fail
   go_round
   case rel=>simp
   case measure=>simp [intOf]
  ·clear c2 c0 hcell;have pk:=HCL.out nq 1 _ rfl;go_wp2_with fail
   go_round
   case rel=>simp
   case measure=>simp [intOf]
  ·clear c2 c0 hcell;have pk:=HCL.out nq 2 _ rfl;go_wp2_with fail
   go_round
   case rel=>simp
   case measure=>simp [intOf]
  ·clear c2 c0 hcell;have pk:=HCL.out nq 3 _ rfl;go_wp2_with fail
   go_round
   case rel=>simp
   case measure=>simp [intOf]
  ·clear c2 c0 hcell;have pk:=HCL.out nq 4 _ rfl;go_wp2_with fail
   go_round
   case rel=>simp
   case measure=>simp [intOf]
  ·clear c2 c0 hcell;have pk:=HCL.out nq 5 _ rfl;go_wp2_with fail
   go_round
   case rel=>simp
   case measure=>simp [intOf]
  ·clear c2 c0 hcell;have pk:=HCL.out nq 6 _ rfl;go_wp2_with fail
   go_round
   case rel=>simp
   case measure=>simp [intOf]
  ·clear c2 c0 hcell;have pk:=HCL.out nq 7 _ rfl;go_wp2_with fail
   go_round
   case rel=>simp
   case measure=>simp [intOf]
  ·clear c2 c0 hcell;have pk:=HCL.out nq 8 _ rfl;go_wp2_with fail
   go_round
   case rel=>simp
   case measure=>simp [intOf]
  ·clear c2 c0 hcell;have pk:=HCL.out nq 9 _ rfl;go_wp2_with fail
   go_round
   case rel=>simp
   case measure=>simp [intOf]
  ·clear c2 c0 hcell;have hLn:=HB.out;clear hLn;go_wp2_with fail;refine (ks_ w0 _ g _ cl l Ap cp p i deep out (HB.out _) HL.out hcl HP.out hpl hol hi0 hx1 hi2 hll HLE.out HAF.out k s HSS.out).mono ?_;rintro e W2 ⟨rfl,hL2⟩;have HL2:=Sd.m hL2;clear hL2;go_wp2_with fail;refine Great.bodyPost_end0 rfl rfl ?_;exact ⟨rfl,HL2.out⟩
theorem step_open (w0 W:World)(g:Nat)(Al:Option Addr)(cl:Nat)(l:List Int)(Ap:Option Addr)(cp:Nat)(p:List Int)(i deep:Int)(out:List S159)(h:LexAt w0 W g Al cl l Ap cp p i deep out)
  (hl:Kd.C (Kd.int .i64) w0 Al l.length l) (hcl:l.length<=cl) (hp:Kd.C (Kd.int .i64) w0 Ap p.length p) (hpl:p.length<=1000000) (hol:out.length<=1000000) (hi0:0<=i) (hi1:i<l.length) (hi2:i<p.length) (hll:l.length<=1000000)
  (hd0:0<=deep) (hd1:deep<=1000000) (hx1:i+1<l.length) (hne:rd l (i+1)≠94) (hc:rd l i=91):
  Calls Tryz.prog 123 #[.pointer (some ⟨g,0,none⟩)] W fun e W1=>e=.returned (.tuple #[])∧LexAt w0 W1 g Al cl l Ap cp p (i+1) (deep+1) (out ++ [⟨13,⟨#[]⟩,0,0,rd p i⟩]):=by
 have c2:=h.c2;have c0:=h.c0;obtain ⟨ad,rfl,hcell⟩:=at_l hl h.B i hi0 hi1;have d0:decide ((0:Int)<=i)=true:=dt__ hi0;have d1:decide (i<(l.length:Int))=true:=dt__ hi1;have w2:IntKind.i64.wrap (i+1)=i+1:=IntWalk.i64_in _ (by omega);obtain ⟨x,hx⟩: ∃ x,x=rd l i:=⟨_,rfl⟩;rw [←hx] at hcell;have e61:((61:Int) == x)=false:=by rw [hx,hc];decide
 have e215:((215:Int) == x)=false:=by rw [hx,hc];decide
 have e247:((247:Int) == x)=false:=by rw [hx,hc];decide
 have e40:((40:Int) == x)=false:=by rw [hx,hc];decide
 have e41:((41:Int) == x)=false:=by rw [hx,hc];decide
 have e124:((124:Int) == x)=false:=by rw [hx,hc];decide
 have e42:((42:Int) == x)=false:=by rw [hx,hc];decide
 have e43:((43:Int) == x)=false:=by rw [hx,hc];decide
 have e63:((63:Int) == x)=false:=by rw [hx,hc];decide
 have e46:((46:Int) == x)=false:=by rw [hx,hc];decide
 have f10:(x == 10)=false:=by rw [hx,hc];decide
 have f35:(x == 35)=false:=by rw [hx,hc];decide
 have f36:(x == 36)=false:=by rw [hx,hc];decide
 have f91:(x == 91)=true:=by rw [hx,hc];decide
 have HNE:=Sd.m hne;have HB:Sd (∀ n,LexAt w0 ((W.drewN n).alloc (.cells #[.int .i64 61,.int .i64 215,.int .i64 247,.int .i64 40,.int .i64 41,.int .i64 124,.int .i64 42,.int .i64 43,.int .i64 63,.int .i64 46] 3)) g (some ad) cl l Ap cp p i deep out):=⟨fun n=>(h.below (ad_ (Below.refl W.heap.size W) n)).below (ab_ (Below.refl _ _) _)⟩;have HCL:Sd (∀ (n k:Nat) (v:Value),( #[.int .i64 61,.int .i64 215,.int .i64 247,.int .i64 40,.int .i64 41,.int .i64 124,.int .i64 42,.int .i64 43,.int .i64 63,.int .i64 46]:Array Value)[k]? =some v->((W.drewN n).alloc (.cells #[.int .i64 61,.int .i64 215,.int .i64 247,.int .i64 40,.int .i64 41,.int .i64 124,.int .i64 42,.int .i64 43,.int .i64 63,.int .i64 46] 3)).cell? ⟨W.heap.size,k,none⟩=some v):=⟨fun n k v hv=>(af_ (aj_ (W.drewN n) _) k).trans hv⟩;have HL:=Sd.m hl;have HP:=Sd.m hp;have HX:=Sd.m hx;clear h hl hp hx hc hne;go_enter Tryz.func123,Tryz.ntmps123;go_wp2_with fail;go_quiet (fail);go_wp2_with fail
 go_loop [5] (fun t=>t=.int .i64 0∨t=.int .i64 1∨t=.int .i64 2∨t=.int .i64 3∨t=.int .i64 4∨t=.int .i64 5∨t=.int .i64 6∨t=.int .i64 7∨t=.int .i64 8∨t=.int .i64 9∨t=.int .i64 10) (fun t=>(10 - intOf t).toNat)
 case atStart=>simp
 case round=>
  rcases hrel with rfl | rfl | rfl | rfl | rfl | rfl | rfl | rfl | rfl | rfl | rfl
  ·clear c2 c0 hcell;have pk:=HCL.out nq 0 _ rfl;go_wp2_with fail
   go_round
   case rel=>simp
   case measure=>simp [intOf]
  ·clear c2 c0 hcell;have pk:=HCL.out nq 1 _ rfl;go_wp2_with fail
   go_round
   case rel=>simp
   case measure=>simp [intOf]
  ·clear c2 c0 hcell;have pk:=HCL.out nq 2 _ rfl;go_wp2_with fail
   go_round
   case rel=>simp
   case measure=>simp [intOf]
  ·clear c2 c0 hcell;have pk:=HCL.out nq 3 _ rfl;go_wp2_with fail
   go_round
   case rel=>simp
   case measure=>simp [intOf]
  ·clear c2 c0 hcell;have pk:=HCL.out nq 4 _ rfl;go_wp2_with fail
   go_round
   case rel=>simp
   case measure=>simp [intOf]
  ·clear c2 c0 hcell;have pk:=HCL.out nq 5 _ rfl;go_wp2_with fail
   go_round
   case rel=>simp
   case measure=>simp [intOf]
  ·clear c2 c0 hcell;have pk:=HCL.out nq 6 _ rfl;go_wp2_with fail
   go_round
   case rel=>simp
   case measure=>simp [intOf]
  ·clear c2 c0 hcell;have pk:=HCL.out nq 7 _ rfl;go_wp2_with fail
   go_round
   case rel=>simp
   case measure=>simp [intOf]
  ·clear c2 c0 hcell;have pk:=HCL.out nq 8 _ rfl;go_wp2_with fail
   go_round
   case rel=>simp
   case measure=>simp [intOf]
  ·clear c2 c0 hcell;have pk:=HCL.out nq 9 _ rfl;go_wp2_with fail
   go_round
   case rel=>simp
   case measure=>simp [intOf]
  ·clear c2 c0 hcell;have hLn:=HB.out;clear hLn;go_wp2_with fail;refine (kq_ w0 _ g _ cl l Ap cp p i deep out (HB.out _) HL.out HP.out hpl hol hi0 hx1 hi2 hd0 hd1 hll HNE.out).mono ?_;rintro e W2 ⟨rfl,hL2⟩;have HL2:=Sd.m hL2;clear hL2;go_wp2_with fail;refine Great.bodyPost_end0 rfl rfl ?_;exact ⟨rfl,HL2.out⟩
theorem step_num (w0 W:World)(g:Nat)(Al:Option Addr)(cl:Nat)(l:List Int)(Ap:Option Addr)(cp:Nat)(p:List Int)(i deep:Int)(out:List S159)(h:LexAt w0 W g Al cl l Ap cp p i deep out)
  (hl:Kd.C (Kd.int .i64) w0 Al l.length l) (hcl:l.length<=cl) (hp:Kd.C (Kd.int .i64) w0 Ap p.length p) (hpl:p.length<=1000000) (hol:out.length<=1000000) (hi0:0<=i) (hi1:i<l.length) (hi2:i<p.length) (hll:l.length<=1000000)
  (hc0:48<=rd l i) (hc1:rd l i<=57) (k:Nat) (n nx:Int) (hn:ah_.f k l i=some (n,nx,0)):
  Calls Tryz.prog 123 #[.pointer (some ⟨g,0,none⟩)] W fun e W1=>e=.returned (.tuple #[])∧LexAt w0 W1 g Al cl l Ap cp p nx deep (out ++ [⟨2,⟨#[]⟩,n,0,rd p i⟩]):=by
 have c2:=h.c2;have c0:=h.c0;obtain ⟨ad,rfl,hcell⟩:=at_l hl h.B i hi0 hi1;have d0:decide ((0:Int)<=i)=true:=dt__ hi0;have d1:decide (i<(l.length:Int))=true:=dt__ hi1;have w2:IntKind.i64.wrap (i+1)=i+1:=IntWalk.i64_in _ (by omega);obtain ⟨x,hx⟩: ∃ x,x=rd l i:=⟨_,rfl⟩;rw [←hx] at hcell;have e61:((61:Int) == x)=false:=by simp;omega
 have e215:((215:Int) == x)=false:=by simp;omega
 have e247:((247:Int) == x)=false:=by simp;omega
 have e40:((40:Int) == x)=false:=by simp;omega
 have e41:((41:Int) == x)=false:=by simp;omega
 have e124:((124:Int) == x)=false:=by simp;omega
 have e42:((42:Int) == x)=false:=by simp;omega
 have e43:((43:Int) == x)=false:=by simp;omega
 have e63:((63:Int) == x)=false:=by simp;omega
 have e46:((46:Int) == x)=false:=by simp;omega
 have f10:(x == 10)=false:=by simp;omega
 have f35:(x == 35)=false:=by simp;omega
 have f36:(x == 36)=false:=by simp;omega
 have f91:(x == 91)=false:=by simp;omega
 have HD:Sd (bx_.f x=some true):=⟨by unfold bx_.f;rw [if_pos (by omega)];simp;omega⟩;have HNN:=Sd.m hn;have HB:Sd (∀ n,LexAt w0 ((W.drewN n).alloc (.cells #[.int .i64 61,.int .i64 215,.int .i64 247,.int .i64 40,.int .i64 41,.int .i64 124,.int .i64 42,.int .i64 43,.int .i64 63,.int .i64 46] 3)) g (some ad) cl l Ap cp p i deep out):=⟨fun n=>(h.below (ad_ (Below.refl W.heap.size W) n)).below (ab_ (Below.refl _ _) _)⟩;have HCL:Sd (∀ (n k:Nat) (v:Value),( #[.int .i64 61,.int .i64 215,.int .i64 247,.int .i64 40,.int .i64 41,.int .i64 124,.int .i64 42,.int .i64 43,.int .i64 63,.int .i64 46]:Array Value)[k]? =some v->((W.drewN n).alloc (.cells #[.int .i64 61,.int .i64 215,.int .i64 247,.int .i64 40,.int .i64 41,.int .i64 124,.int .i64 42,.int .i64 43,.int .i64 63,.int .i64 46] 3)).cell? ⟨W.heap.size,k,none⟩=some v):=⟨fun n k v hv=>(af_ (aj_ (W.drewN n) _) k).trans hv⟩;have HL:=Sd.m hl;have HP:=Sd.m hp;have HX:=Sd.m hx;clear h hl hp hx hn;go_enter Tryz.func123,Tryz.ntmps123;go_wp2_with fail;go_quiet (fail);go_wp2_with fail
 go_loop [5] (fun t=>t=.int .i64 0∨t=.int .i64 1∨t=.int .i64 2∨t=.int .i64 3∨t=.int .i64 4∨t=.int .i64 5∨t=.int .i64 6∨t=.int .i64 7∨t=.int .i64 8∨t=.int .i64 9∨t=.int .i64 10) (fun t=>(10 - intOf t).toNat)
 case atStart=>simp
 case round=>
  rcases hrel with rfl | rfl | rfl | rfl | rfl | rfl | rfl | rfl | rfl | rfl | rfl
  ·clear c2 c0 hcell;have pk:=HCL.out nq 0 _ rfl;go_wp2_with fail
   go_round
   case rel=>simp
   case measure=>simp [intOf]
  ·clear c2 c0 hcell;have pk:=HCL.out nq 1 _ rfl;go_wp2_with fail
   go_round
   case rel=>simp
   case measure=>simp [intOf]
  ·clear c2 c0 hcell;have pk:=HCL.out nq 2 _ rfl;go_wp2_with fail
   go_round
   case rel=>simp
   case measure=>simp [intOf]
  ·clear c2 c0 hcell;have pk:=HCL.out nq 3 _ rfl;go_wp2_with fail
   go_round
   case rel=>simp
   case measure=>simp [intOf]
  ·clear c2 c0 hcell;have pk:=HCL.out nq 4 _ rfl;go_wp2_with fail
   go_round
   case rel=>simp
   case measure=>simp [intOf]
  ·clear c2 c0 hcell;have pk:=HCL.out nq 5 _ rfl;go_wp2_with fail
   go_round
   case rel=>simp
   case measure=>simp [intOf]
  ·clear c2 c0 hcell;have pk:=HCL.out nq 6 _ rfl;go_wp2_with fail
   go_round
   case rel=>simp
   case measure=>simp [intOf]
  ·clear c2 c0 hcell;have pk:=HCL.out nq 7 _ rfl;go_wp2_with fail
   go_round
   case rel=>simp
   case measure=>simp [intOf]
  ·clear c2 c0 hcell;have pk:=HCL.out nq 8 _ rfl;go_wp2_with fail
   go_round
   case rel=>simp
   case measure=>simp [intOf]
  ·clear c2 c0 hcell;have pk:=HCL.out nq 9 _ rfl;go_wp2_with fail
   go_round
   case rel=>simp
   case measure=>simp [intOf]
  ·clear c2 c0 hcell;have hLn:=HB.out;have c0:=(hLn nq).c0;clear hLn;go_wp2_with fail;refine (bx_.calls _ true _ HD.out).mono ?_;rintro e w' ⟨rfl,⟨nd,rfl⟩⟩;obtain ⟨W2,hW2⟩: ∃ W_,W_=((W.drewN nq).alloc (.cells #[.int .i64 61,.int .i64 215,.int .i64 247,.int .i64 40,.int .i64 41,.int .i64 124,.int .i64 42,.int .i64 43,.int .i64 63,.int .i64 46] 3)).drewN nd:=⟨_,rfl⟩;have hL2:LexAt w0 W2 g (some ad) cl l Ap cp p i deep out:=by rw [hW2];exact (HB.out nq).below (ad_ (Below.refl _ _) nd)
   rw [←hW2];clear hW2 c0;have c0:=hL2.c0;have HC:=Sd.m (Kd.C_below HL.out hL2.B);have HL2:=Sd.m hL2;clear hL2;go_wp2_with fail;refine (ah_.calls k _ _ l i n nx 0 W2 HC.out hcl HNN.out).mono ?_;rintro e W3 ⟨rfl,hb3⟩;have HL3:=Sd.m (HL2.out.below hb3);clear hb3 c0;go_wp2_with fail;refine (df_ w0 W3 g _ cl l Ap cp p i deep out HL3.out HP.out hpl hol 2 ⟨#[]⟩ n 0 0 i hi0 hi2).mono ?_;rintro e W4 ⟨rfl,hL4⟩;have f2:=hL4.fr 2;have c2:=hL4.c2;have HL4:=Sd.m (hL4.gw_ nx);clear hL4;go_wp2_with fail;refine Great.bodyPost_end0 rfl rfl ?_;exact ⟨rfl,HL4.out⟩
end LX
end Go.Proofs.YthfceiincmkccaaGreat
