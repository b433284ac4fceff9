/- What law SignMembers reaches, part 5: words and walks over rows and regions. -/
import Derived.Test.YthfceiincmkccaaGreatVA
import Derived.Test.YthfceiincmkccaaGreatVD
import Derived.Deep.RegionLaw
import Derived.Great.Walk
import Derived.Test.YthfceiincmkccaaGreatVB
import Derived.Test.YthfceiincmkccaaGreatVC
set_option linter.unusedVariables false
set_option linter.unusedSimpArgs false
set_option maxHeartbeats 8000000
set_option maxRecDepth 100000
open Go.RowKit Go.Proofs.YthfceiincmkccaaGreatW.PrintWords Go.Proofs.YthfceiincmkccaaGreatW.PrintLast Go.Proofs.YthfceiincmkccaaGreatW.PrintMore
namespace Go.Proofs.YthfceiincmkccaaGreat
namespace P
open A L
theorem iw_: ∀ (xs L:List (List Bool)),xs.Nodup->(∀ x∈xs,x∈L)->xs.length<=L.length
 | [],_,_,_=>Nat.zero_le _
 | x :: xs,L,hn,h=>by
  obtain ⟨h1,h2⟩:=List.nodup_cons.1 hn
  have hx:=h x (List.mem_cons_self ..)
  have:=iw_ xs (L.erase x) h2 fun y hy=>(List.mem_erase_of_ne (fun e:y=x=>h1 (by rw [←e];exact hy))).2 (h y (List.mem_cons_of_mem _ hy))
  rw [List.length_erase,if_pos hx] at this
  have:=List.length_pos_of_mem hx
  rw [List.length_cons]
  omega
structure Sigs (sets:List (List S74)) (T:List (List Bool)):Prop where
 nd:T.Nodup
 mem: ∀ t,t∈T↔ ∃ c,0<=c∧c<=1114111∧sigF sets c=t
theorem sigs_of {sets L:List (List S74)}(h:AtomsOf sets L): ∃ T,Sigs sets T∧L=T.map (atF sets)∧ ∀ t∈T,0<(atF sets t).length:=by
 obtain ⟨T,hT,e,hc,hp⟩:=h
 refine ⟨T,⟨hT,fun t=>⟨fun ht=>?_,?_⟩⟩,e,hp⟩
 ·obtain ⟨h0,h1,h2,_⟩:=low_spec (hp t ht)
  exact ⟨_,h0,h1,of_decide_eq_true h2⟩
 ·rintro ⟨c,h0,h1,rfl⟩
  exact hc c h0 h1
theorem Sigs.more {sets:List (List S74)}{s:List S74}{T U:List (List Bool)}(h:Sigs sets T)(k:Sigs (sets ++ [s]) U):T.length<=U.length∧U.length<=2*T.length:=by
 constructor
 ·have:=iw_ T (U.map List.dropLast) h.nd fun t ht=>by
   obtain ⟨c,h0,h1,rfl⟩:=(h.mem t).1 ht
   refine List.mem_map.2 ⟨sigF (sets ++ [s]) c,(k.mem _).2 ⟨c,h0,h1,rfl⟩,?_⟩
   rw [id_,List.dropLast_concat]
  rwa [List.length_map] at this
 ·have:=iw_ U (T.flatMap fun t=>[t ++ [true],t ++ [false]]) k.nd fun u hu=>by
   obtain ⟨c,h0,h1,rfl⟩:=(k.mem u).1 hu
   refine List.mem_flatMap.2 ⟨sigF sets c,(h.mem _).2 ⟨c,h0,h1,rfl⟩,?_⟩
   rw [id_]
   cases hasB s c <;> simp
  have e: ∀ T:List (List Bool),(T.flatMap fun t=>[t ++ [true],t ++ [false]]).length=2*T.length:=by
   intro T
   induction T with
   | nil=>rfl
   | cons t T ih=>
    rw [List.flatMap_cons,List.length_append,ih]
    simp only [List.length_cons,List.length_nil]
    omega
  rwa [e] at this
def clsL (sets:List (List S74)):List (List S74):=(ofAt sets sets.length).mergeSort fun x y=>decide (lowR x<=lowR y)
theorem atoms_perm {sets L L':List (List S74)}(h:AtomsOf sets L)(hp:L'.Perm L):AtomsOf sets L':=by
 obtain ⟨T,hT,rfl,hc,hpos⟩:=h
 obtain ⟨U,hU,e⟩:=perm_map hp
 exact ⟨U,hU.nodup_iff.2 hT,e,fun c h0 h1=>hU.mem_iff.2 (hc c h0 h1),fun t ht=>hpos t (hU.mem_iff.1 ht)⟩
theorem clsL_sorted (sets:List (List S74)):Sorted (clsL sets):=by
 have:=List.pairwise_mergeSort (le:=fun x y:List S74=>decide (lowR x<=lowR y)) (fun a b c h1 h2=>by simp only [decide_eq_true_eq] at *;omega) (fun a b=>by simp only [Bool.or_eq_true,decide_eq_true_eq];omega) (ofAt sets sets.length)
 exact this.imp fun {a b} h=>of_decide_eq_true h
theorem clsL_perm (sets:List (List S74)):(clsL sets).Perm (ofAt sets sets.length):=List.mergeSort_perm _ _
structure Few (sets:List (List S74)) (E:List Int):Prop where
 at_: ∀ c,0<c->c<=1114111->sigF sets c≠sigF sets (c - 1)->c∈E
 le:E.length<=798
theorem few_edges {sets:List (List S74)}(h:(sets.map List.length).sum<=399):Few sets (edgesOf sets):=
 ⟨fun c h0 _ h1=>sig_edge (by omega) h1,by rw [fw_];omega⟩
theorem jy_ {sets:List (List S74)}{E:List Int}(f:Few sets E):AtomsOf sets (clsL sets):=by
 have h:=(ih_ E f.at_ f.le sets.length (Nat.le_refl _)).1
 rw [List.take_length] at h
 exact atoms_perm h (clsL_perm sets)
theorem lf_ {sets:List (List S74)}{E:List Int}(f:Few sets E):Cls sets (clsL sets):=cls_of (jy_ f) (clsL_sorted sets)
theorem clsL_short {sets:List (List S74)}{E:List Int}(f:Few sets E):Short (clsL sets):=(lf_ f).short E f.at_ f.le
theorem clsL_one {sets ys:List (List S74)}{E:List Int}(f:Few sets E)(h:AtomsOf sets ys)(hs:Sorted ys):ys=clsL sets:=cls_same (cls_of h hs) (lf_ f)
theorem clsL_len {sets:List (List S74)}:(clsL sets).length=(ofAt sets sets.length).length:=(clsL_perm sets).length_eq
theorem at_up {sets:List (List S74)}{E:List Int}(f:Few sets E): ∀ d j,j+d=sets.length->(ofAt sets j).length<=(ofAt sets sets.length).length:=by
 intro d
 induction d with
 | zero=>
  intro j h
  have:j=sets.length:=by omega
  rw [this]
  exact Nat.le_refl _
 | succ d ih=>
  intro j h
  refine Nat.le_trans ?_ (ih (j+1) (by omega))
  have h1:=(ih_ E f.at_ f.le j (by omega)).1
  have h2:=(ih_ E f.at_ f.le (j+1) (by omega)).1
  have hs:sets[j]? =some sets[j]:=List.getElem?_eq_getElem (by omega)
  have e:sets.take (j+1)=sets.take j ++ [sets[j]]:=by rw [List.take_add_one,hs];rfl
  rw [e] at h2
  obtain ⟨T,hT,e1,_⟩:=sigs_of h1
  obtain ⟨U,hU,e2,_⟩:=sigs_of h2
  rw [e1,e2,List.length_map,List.length_map]
  exact (hT.more hU).1
theorem bad_iff {sets:List (List S74)}{E:List Int}(f:Few sets E):OfBad sets↔60<sets.length∨longF sets=true∨200<(clsL sets).length:=by
 unfold OfBad
 rw [clsL_len]
 constructor
 ·rintro (h | h | ⟨j,h1,h2,h3⟩)
  ·exact Or.inl h
  ·exact Or.inr (Or.inl h)
  ·have:=at_up f (sets.length - j) j (by omega)
   exact Or.inr (Or.inr (by omega))
 ·rintro (h | h | h)
  ·exact Or.inl h
  ·exact Or.inr (Or.inl h)
  ·refine Or.inr (Or.inr ⟨sets.length,?_,Nat.le_refl _,h⟩)
   cases sets with
   | nil=>exact absurd h (by decide)
   | cons=>simp
def badB (sets:List (List S74)):Bool:=decide (60<sets.length) || longF sets || decide (200<(clsL sets).length)
theorem badB_iff {sets:List (List S74)}{E:List Int}(f:Few sets E):badB sets=true↔OfBad sets:=by
 rw [bad_iff f]
 unfold badB
 simp only [Bool.or_eq_true,decide_eq_true_eq,or_assoc]
theorem good_len {sets:List (List S74)}(h:badB sets=false):(clsL sets).length<=200:=by
 unfold badB at h
 simp only [Bool.or_eq_false_iff,decide_eq_false_iff_not] at h
 omega
theorem of_one (A0:Option Addr)(c0:Nat)(l0:List (List S74))(w:World)(hr0:Kd.C (Kd.slice 74 k74) w A0 l0.length l0)(hc0:l0.length<=c0){E:List Int}(f:Few l0 E):
  Calls Tryz.prog 43 #[.slice A0 l0.length c0] w fun e w'=> ∃ v,e=.returned (.tuple #[v,.int .i64 (if badB l0 then 9 else 0)])∧OwnRows w' w.heap.size v (if badB l0 then [] else clsL l0)∧Below w.heap.size w w':=by
 refine (of_calls A0 c0 l0 w hr0 hc0 E f.at_ f.le).mono ?_
 rintro e w' ⟨h | ⟨hb,v,ys,he,ho,ha,hs⟩,bel⟩
 ·have q:=(badB_iff f).2 h.1
  rw [if_pos q,if_pos q]
  exact ⟨_,h.2,OwnRows.nil _ _,bel⟩
 ·have q:¬ badB l0=true:=fun q=>hb ((badB_iff f).1 q)
  rw [if_neg q,if_neg q]
  exact ⟨v,he,clsL_one f ha hs ▸ ho,bel⟩
end P
namespace L
open Shelf A P
theorem R34_foot {W W':World}{base:Nat}{u:Value}{x:List S74}(h:Kd.R k74 74 W base (fun _=>True) u x){v:Value}(hv: ∀ k,v.ownBlock=some k-> ∃ cells,W.heap[k]? =some (.cells cells 37 (0,0)))(hm: ∀ k,base<=k∧some k≠v.ownBlock->k<W.heap.size->W'.heap[k]? =W.heap[k]?):Kd.R k74 74 W' base (fun _=>True) u x:=by
 refine Kd.R_mono (Kd.R_move (Kd.R_bound h) (fun k hk=>?_)) (fun _ _=>trivial)
 obtain ⟨_,hb,hlt,q,hq,cells,hc⟩:=hk
 have hE:k74.E=[]:=rfl
 rw [hE,List.mem_singleton] at hq
 subst hq
 refine hm k ⟨hb,fun e=>?_⟩ hlt
 obtain ⟨c2,hc2⟩:=hv k e.symm
 rw [hc] at hc2
 injection hc2 with hc2
 injection hc2 with _ h2
 exact absurd h2 (by decide)
theorem OwnRows.N {w:World}{base:Nat}{v:Value}{xs:List (List S74)}(o:OwnRows w base v xs):Kd.N (Kd.slice 74 k74) 37 w base (fun k=>base<=k) v xs:=by
 obtain ⟨hdrs,ho,hl,hr⟩:=o
 have hone: ∀ u∈hdrs,u.oneCell'=true:=by
  intro u hu
  obtain ⟨j,hj,e⟩:=List.getElem_of_mem hu
  have h1:hdrs[j]? =some u:=by rw [List.getElem?_eq_getElem hj,e]
  have h2:xs[j]? =some xs[j]:=List.getElem?_eq_getElem (by omega)
  obtain ⟨A,c,e2⟩:=Kd.R_slice (hr j u _ h1 h2)
  rw [e2]
  rfl
 have hty: ∀ k,v.ownBlock=some k-> ∃ cells,w.heap[k]? =some (.cells cells 37 (0,0)):=by
  intro k hk
  rcases ho.2 with ⟨e',_⟩ | ⟨g,cap,cur,e',_,hh,_⟩
  ·rw [e'] at hk;cases hk
  ·rw [e'] at hk
   have:k=g:=by simpa [Value.ownBlock] using hk.symm
   subst this
   exact ⟨_,hh⟩
 have hbase: ∀ k,v.ownBlock=some k->base<=k:=by
  intro k hk
  rcases ho.2 with ⟨e',_⟩ | ⟨g,cap,cur,e',hg,hh,_⟩
  ·rw [e'] at hk;cases hk
  ·rw [e'] at hk
   have:k=g:=by simpa [Value.ownBlock] using hk.symm
   subst this
   exact hg
 refine ⟨hbase,hdrs.map fun u=>[u],by rw [List.length_map,hl],⟨fun k hk=>hk.symm,hdrs,?_,?_⟩,?_⟩
 ·rw [List.length_map,hl]
  exact ho
 ·refine ⟨by rw [List.length_map,Nat.mul_comm];exact (Nat.one_mul _).symm,fun j p hp=>?_⟩
  rw [List.getElem?_map] at hp
  obtain ⟨u,hu,rfl⟩:=Option.map_eq_some_iff.1 hp
  have hj:=(List.getElem?_eq_some_iff.1 hu).1
  have e:(hdrs.drop (j*1)).take 1=[u]:=by
   rw [Nat.mul_one,List.drop_eq_getElem_cons hj]
   have:=(List.getElem?_eq_some_iff.1 hu).2
   simp [this]
  show (hdrs.drop (j*1)).take 1=[u]∧((hdrs.drop (j*1)).take 1).length=1∧ ∀ z∈(hdrs.drop (j*1)).take 1,z.oneCell'=true
  rw [e]
  exact ⟨rfl,rfl,fun z hz=>by rw [List.mem_singleton.1 hz];exact hone u (List.mem_of_getElem? hu)⟩
 ·intro j x c hx hc
  rw [List.getElem?_map] at hc
  obtain ⟨u,hu,rfl⟩:=Option.map_eq_some_iff.1 hc
  have hR:=hr j u x hu hx
  obtain ⟨A,c',rfl⟩:=Kd.R_slice hR
  intro W' hW
  have hR':=R34_foot hR hty hW
  obtain ⟨k1,k2,k3⟩:=Kd.R_reads' hR'
  exact ⟨A,c',rfl,k2,k3⟩
noncomputable def et_.f (l0:List (List S74)):Option (List (List S74) × Int):=@ite _ (∃ E,Few l0 E) (Classical.propDecidable _) (some (if badB l0 then [] else clsL l0,if badB l0 then 9 else 0)) none
theorem of_f {l0:List (List S74)}{E:List Int}(f:Few l0 E):et_.f l0=some (if badB l0 then [] else clsL l0,if badB l0 then 9 else 0):=by
 unfold et_.f
 exact if_pos ⟨E,f⟩
theorem et_.calls (A0:Option Addr)(c0:Nat)(l0:List (List S74))(r0:List (List S74))(r1:Int)(w:World)(hr0:Kd.C (Kd.slice 74 k74) w A0 l0.length l0)(hc0:l0.length<=c0)(h:et_.f l0=some (r0,r1)):
  Calls Tryz.prog 43 #[.slice A0 l0.length c0] w fun e w'=> ∃ v0_:Value,e=.returned (.tuple #[v0_,.int .i64 r1])∧Kd.N (Kd.slice 74 k74) 37 w' w.heap.size (fun k_=>w.heap.size<=k_) v0_ r0∧Below w.heap.size w w':=by
 unfold et_.f at h
 by_cases q: ∃ E,Few l0 E
 ·rw [if_pos q] at h
  obtain ⟨E,f⟩:=q
  have h:=Option.some.inj h
  injection h with h1 h2
  refine (of_one A0 c0 l0 w hr0 hc0 f).mono ?_
  rintro e w' ⟨v,he,ho,hb⟩
  rw [h1] at ho
  rw [h2] at he
  exact ⟨v,he,ho.N,hb⟩
 ·rw [if_neg q] at h
  cases h
def eachF (dF:Int->Int)(l:List Int):List Int × Int:=if l.any (fun x=>decide (dF x<0)) then ([],1) else (l.map dF,0)
def EaO (w:World)(dF:Int->Int)(l:List Int)(v6 ui:Value)(W:World):Prop:= ∃ j:Nat,j<=l.length∧ui=.int .i64 j∧(∀ x∈l.take j,0<=dF x)∧Kd.R (Kd.int .i64) 3 W w.heap.size (fun _=>True) v6 ((l.take j).map dF)∧Below w.heap.size w W
theorem jx_ (gf gb:Nat)(dF:Int->Int)(A0:Option Addr)(c0:Nat)(l0:List Int)(w:World)(hr0:Kd.C (Kd.int .i64) w A0 l0.length l0)(hc0:l0.length<=c0)(hl:l0.length<=100000)
  (eg: ∀ args w,(callFunc gf args).run Tryz.prog w=.ok (.enter gf args) w)
  (hd: ∀ n W,Below w.heap.size w W->Calls Tryz.prog gf #[.int .i64 n,.pointer (some ⟨gb,0,none⟩)] W fun e w'=>e=.returned (.int .i64 (dF n))∧Below W.heap.size W w'):
  Calls Tryz.prog 65 #[.slice A0 l0.length c0,.func (.func gf) #[] #[.pointer (some ⟨gb,0,none⟩)]] w fun e w'=> ∃ v,e=.returned (.tuple #[v,.int .i64 (eachF dF l0).2])∧Kd.R (Kd.int .i64) 3 w' w.heap.size (fun _=>True) v (eachF dF l0).1∧Below w.heap.size w w':=by
 have HR:=Sd.m hr0
 have HL:=Sd.m hl
 have HD:=Sd.m hd
 clear hr0 hl hd
 obtain ⟨ans,hans⟩: ∃ a,a=eachF dF l0:=⟨_,rfl⟩
 rw [←hans]
 have HANS:=Sd.m hans
 clear hans
 go_enter Tryz.func65,Tryz.ntmps65
 go_wp2_with fail
 go_loopw [6,12] (fun v6 ui W=>EaO w dF l0 v6 ui W) (fun v6 ui W=>l0.length - (intOf ui).toNat)
 case atStart=>exact ⟨0,Nat.zero_le _,rfl,(fun x hx=>by simp at hx),Kd.R_nil _ _ _ _ _,Below.refl _ _⟩
 case round=>
  obtain ⟨j,hj,rfl,hno,hR,hb⟩:=hrel
  have HB:=Sd.m hb
  have HN:=Sd.m hno
  have HLL:=HL.out
  obtain ⟨out,hout⟩: ∃ o,o=(l0.take j).map dF:=⟨_,rfl⟩
  rw [←hout] at hR
  have hol:out.length=j:=by rw [hout,List.length_map,List.length_take];omega
  have HOUT:=Sd.m hout
  have HOL:=Sd.m hol
  obtain ⟨Aa,ca,rfl⟩:=Kd.R_slice hR
  have HO:=Sd.m hR
  clear hb hno hout hR hol
  by_cases hlt:j<l0.length
  ·have b1:decide ((j:Int)<(l0.length:Int))=true:=dt__ (by omega)
   have b2:decide (j<l0.length)=true:=dt__ hlt
   have hq0:0<=(j:Int):=by omega
   have hq1:(j:Int)<(l0.length:Int):=by omega
   have w2:IntKind.i64.wrap ((j:Int)+1)=(j:Int)+1:=IntWalk.i64_in _ (by omega)
   obtain ⟨ad,rfl,k0⟩:=Kd.de_ (Kd.C_below HR.out HB.out) (j:Int) (by omega) (by omega)
   rw [Int.toNat_natCast] at k0
   obtain ⟨x,hx⟩: ∃ x,x=rd l0 (j:Int):=⟨_,rfl⟩
   rw [←hx] at k0
   have hel:l0[j]? =some x:=by
    rw [hx]
    unfold rd
    rw [Int.toNat_natCast,List.getD_eq_getElem?_getD,List.getElem?_eq_getElem hlt]
    rfl
   have HE:=Sd.m hel
   clear hel hx
   obtain ⟨k,hk⟩: ∃ k,k=dF x:=⟨_,rfl⟩
   have HK:=Sd.m hk
   clear hk
   go_wp2_with fail
   generalize wr=Wo at*
   have hcall:=HD.out x Wo HB.out
   rw [←HK.out] at hcall
   refine hcall.mono ?_
   clear hcall
   rintro e W1 ⟨rfl,hb⟩
   have HB1:=Sd.m (HB.out.trans (hb.mono HB.out.size))
   have HO1:=Sd.m (Kd.R_below HO.out hb)
   clear hb HB HO k0
   by_cases hneg:k<0
   ·have d1:decide (k<0)=true:=dt__ hneg
    have hbad:eachF dF l0=([],1):=by
     unfold eachF
     rw [if_pos]
     rw [List.any_eq_true]
     exact ⟨x,List.mem_of_getElem? HE.out,dt__ (by rw [←HK.out];exact hneg)⟩
    have HBAD:=Sd.m hbad
    clear hneg hbad
    go_wp2_with fail
    go_ret2
    exact ⟨_,by rw [HANS.out,HBAD.out];rfl,by rw [HANS.out,HBAD.out];exact Kd.R_nil _ _ _ _ _,HB1.out⟩
   ·have d1:decide (k<0)=false:=df__ hneg
    have HNEG:=Sd.m hneg
    clear hneg
    go_wp2_with ((with_reducible refine bo_ (b:=.append) (xs:=#[.tmp 21,.tmp 23]) rfl ?_);at_builtin;refine Kd.R_append (Kd.int .i64) (w0:=w) w.heap.size rfl (.tmp 21) (.tmp 23) 42 3 (.int .i64 0) 8 rfl Tryz.underlying42 info3 rfl (by decide) (by omega) (.slice Aa out.length ca) out k [.int .i64 k] (fun _=>True) (fun _=>False) rfl rfl rfl (fun _ hk=>hk.elim) (fun _ _=>trivial) HO1.out HB1.out HB1.out.size (by have:=HOL.out;omega) ?_;intro v' w1 ho hb hg hat;have E1:=Sd.m ho;have E2:=Sd.m hb;clear ho hb hg hat)
    go_roundw
    case rel=>
     refine ⟨j+1,hlt,by go_num,fun y hy=>?_,?_,E2.out⟩
     ·rw [List.take_add_one,HE.out] at hy
      rcases List.mem_append.1 hy with hy | hy
      ·exact HN.out y hy
      ·simp at hy
       rw [hy,←HK.out]
       have:=HNEG.out
       omega
     ·rw [List.take_add_one,HE.out,List.map_append,←HOUT.out]
      simpa [HK.out] using E1.out
    case measure=>simp [intOf];omega
  ·have b1:decide ((j:Int)<(l0.length:Int))=false:=df__ (by omega)
   have b2:decide (j<l0.length)=false:=df__ hlt
   have hgood:eachF dF l0=(out,0):=by
    have hfull:l0.take j=l0:=List.take_of_length_le (by omega)
    unfold eachF
    rw [if_neg,HOUT.out,hfull]
    rw [List.any_eq_true]
    rintro ⟨x,hx,h⟩
    have:=HN.out x (by rw [hfull];exact hx)
    have:=of_decide_eq_true h
    omega
   have HG:=Sd.m hgood
   clear hgood
   go_wp2_with fail
   go_ret2
   exact ⟨_,by rw [HANS.out,HG.out];rfl,by rw [HANS.out,HG.out];exact HO.out,HB.out⟩
open B D
theorem word_one (gb:Nat)(A0:Option Addr)(c0:Nat)(l0:List (List S74))(n:Int)(w:World)(hr0:Kd.C (Kd.slice 74 k74) w A0 l0.length l0)(hc0:l0.length<=c0)(hg:w.heap[gb]? =some (.cells #[.slice A0 l0.length c0] 30 (0,0))):
  Calls Tryz.prog 66 #[.int .i64 n,.pointer (some ⟨gb,0,none⟩)] w fun e w'=>e=.returned (.int .i64 (classF l0 n))∧Below w.heap.size w w':=by
 have hs:=c38 A0 c0 l0 n w hr0 hc0 _ rfl
 have hcell:=bc_ hg 0 rfl
 generalize classF l0 n=b at hs ⊢
 have HS:=Sd.m hs
 clear hs hg hr0 hc0
 go_enter Tryz.func66,Tryz.ntmps66
 go_wp2_with fail
 refine HS.out.mono ?_
 rintro e w' ⟨rfl,hb⟩
 have HB:=Sd.m hb
 clear hb
 go_wp2_with fail
 go_ret
 exact ⟨rfl,HB.out⟩
theorem ho_ (A0:Option Addr)(c0:Nat)(l0:List (List S74))(A1:Option Addr)(c1:Nat)(l1:List Int)(w:World)(hr0:Kd.C (Kd.slice 74 k74) w A0 l0.length l0)(hc0:l0.length<=c0)(hr1:Kd.C (Kd.int .i64) w A1 l1.length l1)(hc1:l1.length<=c1)(hl:l1.length<=100000):
  Calls Tryz.prog 33 #[.slice A0 l0.length c0,.slice A1 l1.length c1] w fun e w'=> ∃ v,e=.returned (.tuple #[v,.int .i64 (eachF (classF l0) l1).2])∧Kd.R (Kd.int .i64) 3 w' w.heap.size (fun _=>True) v (eachF (classF l0) l1).1∧Below w.heap.size w w':=by
 have hb0:=ab_ (Below.refl w.heap.size w) (.cells #[.slice A0 l0.length c0] 30)
 have hbx:(w.alloc (.cells #[.slice A0 l0.length c0] 30)).heap[w.heap.size]? =some (.cells #[.slice A0 l0.length c0] 30 (0,0)):=ah_ _ _
 have hs:=jx_ 66 w.heap.size (classF l0) A1 c1 l1 (w.alloc (.cells #[.slice A0 l0.length c0] 30)) (Kd.C_alloc hr1 _) hc1 hl (enters_of Tryz.func66 (by kernel_rfl) rfl) fun n W hW=>word_one w.heap.size A0 c0 l0 n W (Kd.C_below (Kd.C_alloc hr0 _) hW) hc0 (ae_ hbx hW)
 generalize eachF (classF l0) l1=r at hs ⊢
 have HS:=Sd.m hs
 have HB0:=Sd.m hb0
 clear hs hbx hb0 hr0 hr1 hc0 hc1 hl
 go_enter Tryz.func33,Tryz.ntmps33
 go_wp2_with fail
 refine HS.out.mono ?_
 rintro e w' ⟨v,rfl,hR,hb⟩
 have HR:=Sd.m (Kd.R_lower hR HB0.out.size)
 have HB:=Sd.m (HB0.out.trans (hb.mono HB0.out.size))
 obtain ⟨Av,cv,rfl⟩:=Kd.R_slice hR
 clear hb hR
 go_wp2_with fail
 go_ret2
 exact ⟨_,rfl,HR.out,HB.out⟩
def charF (fs:List Int)(n:Int):Int:=if n<0 then -1 else if n ≥ (fs.length:Int) then -1 else rd fs n
theorem chars_one (gb:Nat)(A0:Option Addr)(c0:Nat)(fs:List Int)(n:Int)(w:World)(hr0:Kd.C (Kd.int .i64) w A0 fs.length fs)(hc0:fs.length<=c0)(hg:w.heap[gb]? =some (.cells #[.slice A0 fs.length c0] 42 (0,0))):
  Calls Tryz.prog 69 #[.int .i64 n,.pointer (some ⟨gb,0,none⟩)] w fun e w'=>e=.returned (.int .i64 (charF fs n))∧Below w.heap.size w w':=by
 have hcell:=bc_ hg 0 rfl
 by_cases h1:n<0
 ·have b1:decide (n<0)=true:=dt__ h1
  have e:charF fs n= -1:=if_pos h1
  rw [e]
  clear e hr0 hg
  go_enter Tryz.func69,Tryz.ntmps69
  go_wp2_with fail
  go_ret
  exact ⟨rfl,Below.refl _ _⟩
 ·have b1:decide (n<0)=false:=df__ h1
  by_cases h2:n ≥ (fs.length:Int)
  ·have b2:decide ((fs.length:Int)<=n)=true:=dt__ h2
   have e:charF fs n= -1:=by unfold charF;rw [if_neg h1,if_pos h2]
   rw [e]
   clear e hr0 hg
   go_enter Tryz.func69,Tryz.ntmps69
   go_wp2_with fail
   go_ret
   exact ⟨rfl,Below.refl _ _⟩
  ·have b2:decide ((fs.length:Int)<=n)=false:=df__ h2
   have e:charF fs n=rd fs n:=by unfold charF;rw [if_neg h1,if_neg h2]
   rw [e]
   have q0:0<=n:=by omega
   have q1:n<(fs.length:Int):=by omega
   obtain ⟨ad,rfl,k0⟩:=Kd.de_ hr0 n q0 q1
   generalize rd fs n=x at k0 ⊢
   clear e hr0 hg
   go_enter Tryz.func69,Tryz.ntmps69
   go_wp2_with fail
   go_ret
   exact ⟨rfl,Below.refl _ _⟩
theorem gq_ (A0:Option Addr)(c0:Nat)(l0:List (List S74))(A1:Option Addr)(c1:Nat)(l1:List Int)(w:World)(hr0:Kd.C (Kd.slice 74 k74) w A0 l0.length l0)(hc0:l0.length<=c0)(hr1:Kd.C (Kd.int .i64) w A1 l1.length l1)(hc1:l1.length<=c1)(hl0:l0.length<=100000)(hl:l1.length<=100000):
  Calls Tryz.prog 35 #[.slice A0 l0.length c0,.slice A1 l1.length c1] w fun e w'=> ∃ v,e=.returned (.tuple #[v,.int .i64 (eachF (charF (l0.map firstF)) l1).2])∧Kd.R (Kd.int .i64) 3 w' w.heap.size (fun _=>True) v (eachF (charF (l0.map firstF)) l1).1∧Below w.heap.size w w':=by
 obtain ⟨k,hk⟩:=(firsts_f l0 hl0).rounds
 have HF:=Sd.m (bv_.calls k A0 c0 l0 _ w hr0 hc0 hk)
 have HR1:=Sd.m hr1
 have HC1:=Sd.m hc1
 have HL:=Sd.m hl
 generalize l0.map firstF=fs at HF ⊢
 obtain ⟨r,hr⟩: ∃ r,r=eachF (charF fs) l1:=⟨_,rfl⟩
 rw [←hr]
 have HRR:=Sd.m hr
 clear hr hr0 hr1 hc1 hl hk
 go_enter Tryz.func35,Tryz.ntmps35
 go_wp2_with fail
 refine HF.out.mono ?_
 rintro e W1 ⟨v,rfl,hR,hb⟩
 obtain ⟨Af,cf,rfl⟩:=Kd.R_slice hR
 have HRF:=Sd.m hR
 have HB1:=Sd.m hb
 clear hb hR HF
 go_wp2_with fail
 have hbx: ∀ W2:World,W2.heap[W1.heap.size]? =some (.cells #[.slice Af fs.length cf] 42 (0,0))->Below W1.heap.size W1 W2->Calls Tryz.prog 65 #[.slice A1 l1.length c1,.func (.func 69) #[] #[.pointer (some ⟨W1.heap.size,0,none⟩)]] W2 fun e w'=> ∃ v,e=.returned (.tuple #[v,.int .i64 r.2])∧Kd.R (Kd.int .i64) 3 w' W2.heap.size (fun _=>True) v r.1∧Below W2.heap.size W2 w':=by
  intro W2 h1 h2
  rw [HRR.out]
  exact jx_ 69 W1.heap.size (charF fs) A1 c1 l1 W2 (Kd.C_below (Kd.C_below HR1.out HB1.out) h2) HC1.out HL.out (enters_of Tryz.func69 (by kernel_rfl) rfl) fun n W hW=>chars_one W1.heap.size Af cf fs n W (Kd.C_below (Kd.C_below (Kd.R_reads' HRF.out).2.2 h2) hW) (Kd.R_reads' HRF.out).2.1 (ae_ h1 hW)
 have hb0:=ab_ (Below.refl W1.heap.size W1) (.cells #[.slice Af fs.length cf] 42)
 have hcall:=hbx _ (ah_ W1 _) hb0
 clear hbx
 refine hcall.mono ?_
 clear hcall
 rintro e w' ⟨v,rfl,hR2,hb2⟩
 have HR2:=Sd.m (Kd.R_lower hR2 (Nat.le_trans HB1.out.size hb0.size))
 have HB2:=Sd.m (HB1.out.trans ((hb0.trans (hb2.mono hb0.size)).mono HB1.out.size))
 obtain ⟨Av,cv,rfl⟩:=Kd.R_slice hR2
 clear hb2 hR2 hb0
 go_wp2_with fail
 go_ret2
 exact ⟨_,rfl,HR2.out,HB2.out⟩
theorem same_ev (x y:List S74)(hl:y.length<=3000000): ∃ k,co_.f k x y=some (eqF x y):=by
 by_cases h:x.length=y.length
 ·exact (rng_ev (by omega) _ eqF_iff).2.rounds
 ·have hf:eqF x y=false:=by
   cases hb:eqF x y with
   | false=>rfl
   | true=>exact absurd (by rw [eqF_iff.1 hb]) h
  refine ⟨0,?_⟩
  rw [hf]
  unfold co_.f
  exact if_neg (by omega)
theorem same_one (y:List S74)(gc:Nat)(By:Option Addr)(cy:Nat)(A0:Option Addr)(c0:Nat)(l0:List S74)(w:World)(hr0:Kd.C k74 w A0 l0.length l0)(hc0:l0.length<=c0)(hry:Kd.C k74 w By y.length y)(hcy:y.length<=cy)(hly:y.length<=3000000)(hg:w.heap[gc]? =some (.cells #[.slice By y.length cy] 37 (0,0))):
  Calls Tryz.prog 109 #[.slice A0 l0.length c0,.pointer (some ⟨gc,0,none⟩)] w fun e w'=>e=.returned (.bool (eqF l0 y))∧Below w.heap.size w w':=by
 obtain ⟨k,hk⟩:=same_ev l0 y hly
 have hs:=co_.calls k A0 c0 l0 By cy y _ w hr0 hc0 hry hcy hk
 have hcell:=bc_ hg 0 rfl
 generalize eqF l0 y=b at hs ⊢
 have HS:=Sd.m hs
 clear hs hg hr0 hc0 hk hry hcy hly
 go_enter Tryz.func109,Tryz.ntmps109
 go_wp2_with fail
 refine HS.out.mono ?_
 rintro e w' ⟨rfl,hb⟩
 have HB:=Sd.m hb.below
 clear hb
 go_wp2_with fail
 go_ret
 exact ⟨rfl,HB.out⟩
theorem index_same (y:List S74)(gc:Nat)(By:Option Addr)(cy:Nat)(A0:Option Addr)(c0:Nat)(l0:List (List S74))(w:World)(hr0:Kd.C (Kd.slice 74 k74) w A0 l0.length l0)(hc0:l0.length<=c0)(hry:Kd.C k74 w By y.length y)(hcy:y.length<=cy)(hly:y.length<=3000000)(hg:w.heap[gc]? =some (.cells #[.slice By y.length cy] 37 (0,0))):
  Calls Tryz.prog 137 #[.slice A0 l0.length c0,.func (.func 109) #[] #[.pointer (some ⟨gc,0,none⟩)]] w fun e w'=>e=.returned (.int .i64 (ixF (fun x_:List S74=>eqF x_ y) l0))∧Below w.heap.size w w':=by
 have HR:=Sd.m hr0
 have HG:=Sd.m hg
 have HY:=Sd.m hry
 have HCY:=Sd.m hcy
 have HLY:=Sd.m hly
 clear hg hry hcy hly
 have HM:l0.length<=9223372036854775807:=Kd.C_max hr0
 have eg: ∀ args w,(callFunc 109 args).run Tryz.prog w=.ok (.enter 109 args) w:=enters_of Tryz.func109 (by kernel_rfl) rfl
 clear hr0
 obtain ⟨p,hp⟩: ∃ p:List S74->Bool,p=fun x_:List S74=>eqF x_ y:=⟨_,rfl⟩
 rw [←hp]
 have HP:=Sd.m hp
 clear hp
 go_enter Tryz.func137,Tryz.ntmps137
 go_wp2_with fail
 go_loopw [8] (fun u W=>Lxi w l0 p u W) (fun u _=>l0.length - (intOf u).toNat)
 case atStart=>exact ⟨0,Nat.zero_le _,rfl,Below.refl _ _,(fun r hr=>by simp at hr)⟩
 case round=>
  obtain ⟨j,hj,rfl,hb,hno⟩:=hrel
  have HB:=Sd.m hb
  have HN:=Sd.m hno
  clear hb hno
  by_cases hlt:j<l0.length
  ·have b1:decide ((j:Int)<(l0.length:Int))=true:=dt__ (by omega)
   have b2:decide (j<l0.length)=true:=dt__ hlt
   obtain ⟨ad,A1,c1,rfl,k0,k1,k2⟩:=at_L3 (Kd.C_below HR.out HB.out) (j:Int) (by omega) (by omega)
   rw [Int.toNat_natCast] at k0
   have hq0:0<=(j:Int):=by omega
   have hq1:(j:Int)<(l0.length:Int):=by omega
   have w2:IntKind.i64.wrap ((j:Int)+1)=(j:Int)+1:=IntWalk.i64_in _ (by omega)
   have hel:l0[j]? =some (fk_ l0 j):=by
    unfold fk_
    rw [Int.toNat_natCast,List.getD_eq_getElem?_getD,List.getElem?_eq_getElem hlt]
    rfl
   have HE:=Sd.m hel
   clear hel
   obtain ⟨s,hs⟩: ∃ s,s=fk_ l0 j:=⟨_,rfl⟩
   rw [←hs] at k0 k1 k2 HE
   clear hs
   have HK:=Sd.m k2
   have HK1:=Sd.m k1
   clear k2 k1
   go_wp2_with fail
   have hrl:=same_one y gc By cy A1 c1 s wr HK.out HK1.out (Kd.C_below HY.out HB.out) HCY.out HLY.out (ae_ HG.out HB.out)
   rw [show eqF s y=p s from by rw [HP.out]] at hrl
   refine hrl.mono ?_
   clear hrl
   rintro e W7 ⟨rfl,hb7⟩
   have HB7:=Sd.m (HB.out.trans (hb7.mono HB.out.size))
   clear hb7 k0
   cases hi:p s with
   | true=>
    have HI:=Sd.m hi
    clear hi
    go_wp2_with fail
    go_ret
    have hfi:(l0.findIdx? p)=some j:=List.findIdx?_eq_some_iff_getElem.2 ⟨hlt,(by rw [List.getElem?_eq_getElem hlt] at HE;rw [Option.some.inj HE.out];exact HI.out),(fun i hi=>by
     have:=HN.out (l0[i]'(by omega)) (List.mem_take_iff_getElem.2 ⟨i,by omega,rfl⟩)
     rw [this]
     decide)⟩
    have hix:ixF p l0=j:=by
     unfold ixF
     rw [hfi]
    exact ⟨by rw [hix];rfl,HB7.out⟩
   | false=>
    have HI:=Sd.m hi
    clear hi
    go_wp2_with fail
    go_roundw
    case rel=>
     refine ⟨j+1,hlt,by go_num,HB7.out,fun r hr=>?_⟩
     rw [List.take_add_one,HE.out] at hr
     rcases List.mem_append.1 hr with hr | hr
     ·exact HN.out r hr
     ·simp at hr
      rw [hr]
      exact HI.out
    case measure=>simp [intOf];omega
  ·have b1:decide ((j:Int)<(l0.length:Int))=false:=df__ (by omega)
   have b2:decide (j<l0.length)=false:=df__ hlt
   go_wp2_with fail
   go_ret
   have:ixF p l0= -1:=by
    unfold ixF
    rw [List.findIdx?_eq_none_iff.2 fun x hx=>HN.out x (by rw [List.take_of_length_le (by omega)];exact hx)]
   exact ⟨by rw [this];rfl,HB.out⟩
noncomputable def inF (y:List S74)(l:List (List S74)):Bool:=l.any fun x=>eqF x y
theorem la_ (y:List S74)(gc:Nat)(By:Option Addr)(cy:Nat)(A0:Option Addr)(c0:Nat)(l0:List (List S74))(w:World)(hr0:Kd.C (Kd.slice 74 k74) w A0 l0.length l0)(hc0:l0.length<=c0)(hry:Kd.C k74 w By y.length y)(hcy:y.length<=cy)(hly:y.length<=3000000)(hg:w.heap[gc]? =some (.cells #[.slice By y.length cy] 37 (0,0)))(b:Bool)(h:inF y l0=b):
  Calls Tryz.prog 108 #[.slice A0 l0.length c0,.func (.func 109) #[] #[.pointer (some ⟨gc,0,none⟩)]] w fun e w'=>e=.returned (.bool b)∧Below w.heap.size w w':=by
 have hi:=index_same y gc By cy A0 c0 l0 w hr0 hc0 hry hcy hly hg
 have hge:decide (0<=ixF (fun x:List S74=>eqF x y) l0)=b:=(ixF_ge _ l0).trans h
 generalize ixF (fun x:List S74=>eqF x y) l0=i at hi hge
 rw [←hge]
 have HI:=Sd.m hi
 clear hi hr0 hc0 hge h hry hcy hly hg
 go_enter Tryz.func108,Tryz.ntmps108
 go_wp2_with fail
 refine HI.out.mono ?_
 rintro e w' ⟨rfl,hb⟩
 have HB:=Sd.m hb
 clear hb
 go_wp2_with fail
 go_ret
 exact ⟨rfl,HB.out⟩
open YthfceiincmkccaaGreatW.PrintWords.Kd
theorem cl_ {P:Program}{ops:Array Oper}{o:Oper}{a:Act}{w w1:World}{K:Act->World->Prop}{Q:Exit->Act->World->Prop}{E:Prop}{v:Value}
  (hg:o.guard=none) (s x:Operand) (t:TypeId) (hop:o.op=Op.call { callee:=Callee.builtin Builtin.append,args:=#[s,x],argTypes:=#[t,t] })
  (vs vx:Value) (hs:a.eval s=vs) (hx:a.eval x=vx) (hrun:(Builtin.append_ #[t,t] o.type #[vs,vx]).run P w=.ok v w1)
  (hK:K (a.put o.dst v) w1):
  if Region.wanted o (yielded ops a.tmps)=true then Oper.wp P o a w K Q else E:=by
 have hw:Region.wanted o (yielded ops a.tmps)=true:=by simp [Region.wanted,hg]
 rw [if_pos hw]
 unfold Oper.wp
 simp [execOp,hop,resolve,invoke,builtin,hs,hx,hrun,Result.andThen]
 exact hK
def Held (w0 W:World)(v:Value)(xs:List (List S74)):Prop:=OwnRow ((Kd.slice 74 k74).K w0) 37 1 W w0.heap.size v xs
theorem Held.reads {w0 W:World}{v:Value}{xs:List (List S74)}(h:Held w0 W v xs)(hb:Below w0.heap.size w0 W): ∃ A c,v=.slice A xs.length c∧xs.length<=c∧Kd.C (Kd.slice 74 k74) W A xs.length xs:=by
 obtain ⟨A,c,e,hl,hr⟩:=OwnRow.reads h
 exact ⟨A,c,e,hl,ReadsRow.imp_ hr (Below.refl _ _) fun _ _ hp=>(Kd.slice 74 k74).K_below hb hp⟩
theorem Held.kept {w0 W W1:World}{v:Value}{xs:List (List S74)}(h:Held w0 W v xs)(hm: ∀ k,v.ownBlock=some k->W1.heap[k]? =W.heap[k]?):Held w0 W1 v xs:=by
 obtain ⟨inner,ho,hr⟩:=h
 exact ⟨inner,own_move ho hm,hr⟩
theorem held_app {w0 W:World}{v:Value}{xs:List (List S74)}(h:Held w0 W v xs)(y:List S74)(By:Option Addr)(cy:Nat)(hy:Kd.C k74 w0 By y.length y)(hcy:y.length<=cy)(a:Addr)(ha:W.cell? a=some (.slice By y.length cy))(hb:w0.heap.size<=W.heap.size)(hl:xs.length<=1000000):
  ∃ A4 c4 w2,(Builtin.append_ #[68,68] 68 #[v,.slice (some a) 1 1]).run Tryz.prog W=.ok (.slice A4 (xs.length+1) c4) w2∧Held w0 w2 (.slice A4 (xs.length+1) c4) (xs ++ [y])∧W.grownBy w2 v.ownBlock:=by
 obtain ⟨inner,ho,hr⟩:=h
 obtain ⟨i0,hi,hzz⟩:=Option.map_eq_some_iff.1 (show (Tryz.prog.info? 37).map (fun i=>(i.zero,i.size,i.bytes))=some (some (.slice none 0 0),1,24) by kernel_rfl)
 simp only [Prod.mk.injEq] at hzz
 obtain ⟨hz0,hz1,hz2⟩:=hzz
 obtain ⟨v1,w1,hrun,h2,hg,_,hat⟩:=run_append_own_at (P:=Tryz.prog) (w:=W) w0.heap.size 68 68 37 i0 (.slice none 0 0) 1 24 Tryz.underlying68 hi hz0 hz1 hz2 rfl (by decide) v xs.length inner ho a 1 1 [.slice By y.length cy] rfl (fun j u hu=>by
  cases j with
  | zero=>injection hu with hu;rw [←hu];exact ha
  | succ j=>simp at hu) (fun u hu=>by rw [List.mem_singleton.1 hu];rfl) (by simp only [maxLen];omega) (by omega) hb
 have hR:Reps ((Kd.slice 74 k74).K w0) 1 (xs ++ [y]) (inner ++ [.slice By y.length cy]):=hr.snoc ⟨By,cy,rfl,hcy,hy⟩ rfl
 have hH:Held w0 w1 v1 (xs ++ [y]):=⟨_,by rw [List.length_append];exact h2,hR⟩
 obtain ⟨A4,c4,e,_⟩:=OwnRow.reads hH
 rw [List.length_append] at e
 subst e
 exact ⟨A4,c4,w1,hrun,hH,hg⟩
def SetAt (w0 W:World)(gs:Nat)(xs:List (List S74)):Prop:=(∃ v,Boxed W gs 68 v∧Held w0 W v xs)∧Below w0.heap.size w0 W∧w0.heap.size<=gs
theorem SetAt.boxed {w0 W:World}{gs:Nat}{xs:List (List S74)}(h:SetAt w0 W gs xs): ∃ A c,Boxed W gs 68 (.slice A xs.length c)∧Held w0 W (.slice A xs.length c) xs∧xs.length<=c∧Kd.C (Kd.slice 74 k74) W A xs.length xs:=by
 obtain ⟨⟨v,hv,hh⟩,hb,_⟩:=h
 obtain ⟨A,c,rfl,hl,hr⟩:=hh.reads hb
 exact ⟨A,c,hv,hh,hl,hr⟩
def Kept45 (W W1:World):Prop:=W.heap.size<=W1.heap.size∧ ∀ (k:Nat) (cells:Array Value) (t:Nat),t≠37->t≠68->W.heap[k]? =some (Obj.cells cells t (0,0))->W1.heap[k]? =W.heap[k]?
theorem ei_ {W W1:World}(h:Below W.heap.size W W1):Kept45 W W1:=⟨h.size,fun k cells t _ _ hk=>h.block k (Array.getElem?_eq_some_iff.1 hk).1⟩
noncomputable def addF (xs:List (List S74))(y:List S74):List (List S74):=if inF y xs=true then xs else xs ++ [y]
theorem add_end (w0 W W3 w4:World)(gs:Nat)(xs:List (List S74))(y:List S74)(v v4:Value)(hin:inF y xs=false)(hgs:w0.heap.size<=gs)(hW0:w0.heap.size<=W.heap.size)(hb0:Below w0.heap.size w0 W)(hb3:Below W.heap.size W W3)(hh3:Held w0 W3 v xs)(hg4:W3.grownBy w4 v.ownBlock)(hv3:Boxed W3 gs 68 v)(hv4:Boxed w4 gs 68 v)(hh4:Held w0 w4 v4 (xs ++ [y])):
  SetAt w0 (w4.setCell ⟨gs,0,none⟩ v4) gs (addF xs y)∧Kept45 W (w4.setCell ⟨gs,0,none⟩ v4):=by
 obtain ⟨inner3,ho3,_⟩:=hh3
 have h3:Below w0.heap.size w0 W3:=hb0.trans (hb3.mono hW0)
 have h4:Below w0.heap.size w0 w4:=h3.grown hg4 h3.size fun k hk=>gd_ ho3 k hk
 rw [show addF xs y=xs ++ [y] from if_neg (by rw [hin];decide)]
 refine ⟨⟨⟨_,hv4.set v4,hh4.kept fun k hk=>?_⟩,h4.setCell (p:=⟨gs,0,none⟩) hgs _,hgs⟩,?_,fun k cells t ht1 ht2 hk=>?_⟩
 ·obtain ⟨inner4,ho4,_⟩:=hh4
  refine Below.heap_setCell w4 ⟨gs,0,none⟩ v4 k fun e=>?_
  exact hv4.not_row (by decide) ho4 (by rw [hk];exact congrArg some e.symm)
 ·exact Nat.le_trans hb3.size (Nat.le_trans hg4.size (by simp))
 ·have hlt:k<W.heap.size:=(Array.getElem?_eq_some_iff.1 hk).1
  have e3:W3.heap[k]? =W.heap[k]? :=hb3.block k hlt
  have hk3:W3.heap[k]? =some (Obj.cells cells t (0,0)):=e3.trans hk
  have e4:w4.heap[k]? =W3.heap[k]? :=hg4.block k (Array.getElem?_eq_some_iff.1 hk3).1 fun e=>by
   obtain ⟨cs,hc⟩:=fd_ ho3 k e.symm
   rw [hk3] at hc
   injection hc with hc
   injection hc with _ hc
   exact ht1 hc
  have hne:k≠gs:=fun e=>by
   rw [e] at hk3
   have:=hv3.symm.trans hk3
   injection this with this
   injection this with _ this
   exact ht2 this.symm
  exact ((Below.heap_setCell w4 ⟨gs,0,none⟩ v4 k hne).trans e4).trans e3
theorem add_calls (w0 W:World)(gs:Nat)(xs:List (List S74))(h:SetAt w0 W gs xs)(hxl:xs.length<=1000000)(y:List S74)(By:Option Addr)(cy:Nat)(hy:Kd.C k74 w0 By y.length y)(hcy:y.length<=cy)(hly:y.length<=3000000):
  Calls Tryz.prog 73 #[.pointer (some ⟨gs,0,none⟩),.slice By y.length cy] W fun e W1=>e=.returned (.tuple #[])∧SetAt w0 W1 gs (addF xs y)∧Kept45 W W1:=by
 obtain ⟨A,c,hv,hh,hl,hr⟩:=h.boxed
 have hb0:Below w0.heap.size w0 W:=h.2.1
 have hgs:w0.heap.size<=gs:=h.2.2
 have hW0:w0.heap.size<=W.heap.size:=hb0.size
 obtain ⟨W1,hW1⟩: ∃ W_,W_=W.alloc (.cells #[.slice By y.length cy] 37):=⟨_,rfl⟩
 have hbW:Below W.heap.size W W1:=by rw [hW1];exact ab_ (Below.refl W.heap.size W) _
 have hbx:W1.heap[W.heap.size]? =some (.cells #[.slice By y.length cy] 37 (0,0)):=by rw [hW1];exact ah_ _ _
 have hv1:Boxed W1 gs 68 (.slice A xs.length c):=by rw [hW1];exact hv.alloc _
 have hcell:(W.alloc (.cells #[.slice By y.length cy] 37)).cell? ⟨gs,0,none⟩=some (.slice A xs.length c):=by rw [←hW1];exact hv1.cell
 obtain ⟨b,hb⟩: ∃ b,inF y xs=b:=⟨_,rfl⟩
 have hs:=la_ y W.heap.size By cy A c xs W1 (Kd.C_below hr hbW) hl (Kd.C_below (Kd.C_below hy hb0) hbW) hcy hly hbx b hb
 have HS:=Sd.m hs
 have HBX:=Sd.m hbx
 have HV:=Sd.m hv1
 have HBW:=Sd.m hbW
 have HH:=Sd.m hh
 have HB0:=Sd.m hb0
 have HIN:=Sd.m hb
 have HY:=Sd.m hy
 have HH0:=Sd.m h
 clear hs hbx hr hv1 hbW hh hb0 hb h hy
 go_enter Tryz.func73,Tryz.ntmps73
 go_wp2_with fail
 rw [←hW1]
 clear hW1 hcell
 refine HS.out.mono ?_
 rintro e W2 ⟨rfl,hb2⟩
 have hb12:Below W.heap.size W W2:=HBW.out.trans (hb2.mono HBW.out.size)
 have hv2:Boxed W2 gs 68 (.slice A xs.length c):=(hb2.block gs HV.out.lt).trans HV.out
 have hc2:=hv2.cell
 have hf2:=hv2.frozen
 have hn2:Boxed W2 W.heap.size 37 (.slice By y.length cy):=(hb2.block _ (Boxed.lt HBX.out)).trans HBX.out
 have hcn:=hn2.cell
 have HB12:=Sd.m hb12
 have HV2:=Sd.m hv2
 have HN2:=Sd.m hn2
 have hh2:Held w0 W2 (.slice A xs.length c) xs:=HH.out.kept fun k hk=>by
  obtain ⟨inner,ho,_⟩:=HH.out
  exact hb12.block k (own_lt ho k hk)
 have HH2:=Sd.m hh2
 clear hh2 hb12 hv2 hn2 hb2
 cases b with
 | true=>
  go_wp2_with fail
  refine Great.bodyPost_end0 rfl rfl ?_
  exact ⟨rfl,by rw [show addF xs y=xs from if_pos HIN.out];exact ⟨⟨_,HV2.out,HH2.out⟩,HB0.out.trans (HB12.out.mono hW0),hgs⟩,ei_ HB12.out⟩
 | false=>
  have hmx:Tryz.prog.follows .mixedOrders=true:=by kernel_rfl
  go_wp2_with fail
  obtain ⟨W3,hW3⟩: ∃ W_,W_=(W2.alloc (.cells #[.slice By y.length cy] 37)).drew:=⟨_,rfl⟩
  have hb3:Below W.heap.size W W3:=by
   rw [hW3]
   have q:=ab_ HB12.out (.cells #[.slice By y.length cy] 37)
   exact ⟨q.os,q.tape,q.output,q.size,q.block⟩
  have hh3:Held w0 W3 (.slice A xs.length c) xs:=HH.out.kept fun k hk=>by
   obtain ⟨inner,ho,_⟩:=HH.out
   exact hb3.block k (own_lt ho k hk)
  have hv3:Boxed W3 gs 68 (.slice A xs.length c):=(hb3.block gs hv.lt).trans hv
  have hnew:W3.cell? ⟨W2.heap.size,0,none⟩=some (.slice By y.length cy):=by rw [hW3];exact (Boxed.new W2 37 _).cell
  obtain ⟨A4,c4,w4,hrun,hh4,hg4⟩:=held_app hh3 y By cy HY.out hcy _ hnew (Nat.le_trans hW0 hb3.size) hxl
  have hne:some gs≠(Value.slice A xs.length c).ownBlock:=by
   obtain ⟨inner,ho,_⟩:=hh3
   exact hv3.not_row (by decide) ho
  have hv4:=hv3.kept hg4 hne
  have hc4:=hv4.cell
  have hf4:=hv4.frozen
  have hc3:=hv3.cell
  rw [hW3] at hrun hc3
  have HG4:=Sd.m hg4
  have HB3:=Sd.m hb3
  have HV4:=Sd.m hv4
  have HH3:=Sd.m hh3
  have HV3:=Sd.m hv3
  have HH4:=Sd.m hh4
  clear hW3 hg4 hv4 hh4 hb3 hh3 hv3 hnew
  go_region_law (refine cl_ rfl (.tmp 13) (.tmp 15) 68 rfl _ _ rfl rfl hrun ?_)
  all_goals
   refine Great.bodyPost_end0 rfl rfl ?_
   exact ⟨rfl,add_end w0 W W3 w4 gs xs y _ _ HIN.out hgs hW0 HB0.out HB3.out HH3.out HG4.out HV3.out HV4.out HH4.out⟩
noncomputable def formF (p:S45)(xs:List (List S74)):List (List S74):=
 p.f3.attach.foldl (fun a q=>formF q.1 a) (if p.f0=2 then addF xs p.f1 else xs)
termination_by SizeOf.sizeOf p
decreasing_by
 obtain ⟨q,hq⟩:=q
 have:=List.sizeOf_lt_of_mem hq
 cases p
 simp at*
 omega
theorem ef_ (p:S45)(xs:List (List S74)):formF p xs=p.f3.foldl (fun a q=>formF q a) (if p.f0=2 then addF xs p.f1 else xs):=by
 rw [formF]
 exact List.foldl_attach (l:=p.f3) (f:=fun a q=>formF q a)
def nodes (p:S45):Nat:=1+(p.f3.attach.map fun q=>nodes q.1).sum
termination_by SizeOf.sizeOf p
decreasing_by
 obtain ⟨q,hq⟩:=q
 have:=List.sizeOf_lt_of_mem hq
 cases p
 simp at*
 omega
theorem em_ (p:S45):nodes p=1+(p.f3.map nodes).sum:=by
 rw [nodes,List.attach_map_val (l:=p.f3) (f:=nodes)]
inductive Wide:S45->Prop
 | mk (p:S45) (h:p.f1.length<=3000000) (hs: ∀ q∈p.f3,Wide q):Wide p
theorem SetAt.step {w0 W W1:World}{gs:Nat}{xs:List (List S74)}(h:SetAt w0 W gs xs)(hb:Below W.heap.size W W1):SetAt w0 W1 gs xs:=by
 obtain ⟨⟨v,hv,hh⟩,hb0,hgs⟩:=h
 refine ⟨⟨v,(hb.block gs hv.lt).trans hv,hh.kept fun k hk=>?_⟩,hb0.trans (hb.mono hb0.size),hgs⟩
 obtain ⟨inner,ho,_⟩:=hh
 exact hb.block k (own_lt ho k hk)
theorem Kept45.trans {W W1 W2:World}(h:Kept45 W W1)(h2:Kept45 W1 W2):Kept45 W W2:=
 ⟨Nat.le_trans h.1 h2.1,fun k cells t h1 h3 hk=>(h2.2 k cells t h1 h3 ((h.2 k cells t h1 h3 hk).trans hk)).trans (h.2 k cells t h1 h3 hk)⟩
theorem addF_len (xs:List (List S74))(y:List S74):(addF xs y).length<=xs.length+1:=by
 unfold addF
 by_cases h:inF y xs=true
 ·rw [if_pos h];omega
 ·rw [if_neg h];simp
theorem fv_ (p:S45): ∀ xs:List (List S74),(formF p xs).length<=xs.length+nodes p:=by
 intro xs
 rw [ef_,em_]
 have key: ∀ (l:List S45),(∀ q∈l,q∈p.f3)-> ∀ a:List (List S74),(l.foldl (fun a q=>formF q a) a).length<=a.length+(l.map nodes).sum:=by
  intro l
  induction l with
  | nil=>intro _ a;simp
  | cons q l ih=>
   intro hl a
   rw [List.foldl_cons,List.map_cons,List.sum_cons]
   have h1:=ih (fun r hr=>hl r (List.mem_cons_of_mem _ hr)) (formF q a)
   have h2:=fv_ q a
   omega
 have h1:=key p.f3 (fun _ h=>h) (if p.f0=2 then addF xs p.f1 else xs)
 by_cases h:p.f0=2
 ·rw [if_pos h] at h1 ⊢
  have:=addF_len xs p.f1
  omega
 ·rw [if_neg h] at h1 ⊢
  omega
termination_by SizeOf.sizeOf p
decreasing_by
 have:=List.sizeOf_lt_of_mem (hl q (List.mem_cons_self ..))
 cases p
 simp at*
 omega
theorem fold_room (l:List S45)(j:Nat)(q:S45)(h:l[j]? =some q)(xs:List (List S74)):((l.take j).foldl (fun a q=>formF q a) xs).length+nodes q<=xs.length+(l.map nodes).sum:=by
 induction l generalizing j xs with
 | nil=>simp at h
 | cons r l ih=>
  cases j with
  | zero=>
   simp at h
   subst h
   simp
  | succ j=>
   have h1:=ih j (by simpa using h) (formF r xs)
   have h2:=fv_ r xs
   rw [List.take_succ_cons,List.foldl_cons,List.map_cons,List.sum_cons]
   omega
def FoO (w0 W:World)(gs:Nat)(p:S45)(xs:List (List S74))(u:Value)(W1:World):Prop:= ∃ j:Nat,j<=p.f3.length∧u=.int .i64 j∧SetAt w0 W1 gs ((p.f3.take j).foldl (fun a q=>formF q a) xs)∧Kept45 W W1
theorem form_no (w0 W:World)(gs:Nat)(p:S45)(xs:List (List S74))(h:SetAt w0 W gs xs)(A1:Option Addr)(c1:Nat)(A2:Option Addr)(c2:Nat)(A3:Option Addr)(c3:Nat)
  (l3:p.f3.length<=c3) (g3:k45.C w0 A3 p.f3.length p.f3) (hw: ∀ q∈p.f3,Wide q) (hxl:xs.length+(p.f3.map nodes).sum<=1000000) (hp:p.f0≠2)
  (ih: ∀ q∈p.f3,∀ (W:World) (xs:List (List S74)),SetAt w0 W gs xs->xs.length+nodes q<=1000000->Wide q-> ∀ (B1:Option Addr) (d1:Nat) (B2:Option Addr) (d2:Nat) (B3:Option Addr) (d3:Nat),q.f1.length<=d1->k74.C w0 B1 q.f1.length q.f1->q.f3.length<=d3->k45.C w0 B3 q.f3.length q.f3->
   Calls Tryz.prog 42 #[.pointer (some ⟨gs,0,none⟩),.agg #[.int .i64 q.f0,.slice B1 q.f1.length d1,.slice B2 q.f2.length d2,.slice B3 q.f3.length d3]] W fun e W1=>e=.returned (.tuple #[])∧SetAt w0 W1 gs (formF q xs)∧Kept45 W W1):
  Calls Tryz.prog 42 #[.pointer (some ⟨gs,0,none⟩),.agg #[.int .i64 p.f0,.slice A1 p.f1.length c1,.slice A2 p.f2.length c2,.slice A3 p.f3.length c3]] W fun e W1=>e=.returned (.tuple #[])∧SetAt w0 W1 gs (formF p xs)∧Kept45 W W1:=by
 have HX:=Sd.m h
 have HG:=Sd.m g3
 have HWI:=Sd.m hw
 have HI:=Sd.m ih
 have HXL:=Sd.m hxl
 have b1:(p.f0 == 2)=false:=by simpa using hp
 have HP:=Sd.m hp
 have HM:p.f3.length<=9223372036854775807:=Kd.C_max g3
 clear h g3 hw ih hxl hp
 go_enter Tryz.func42,Tryz.ntmps42
 go_wp2_with fail
 go_loopw [16] (fun u W1=>FoO w0 W gs p xs u W1) (fun u _=>p.f3.length - (intOf u).toNat)
 case atStart=>exact ⟨0,Nat.zero_le _,rfl,SetAt.step HX.out (ab_ (Below.refl _ _) _),ei_ (ab_ (Below.refl _ _) _)⟩
 case round=>
  obtain ⟨j,hj,rfl,hS,hK⟩:=hrel
  have HS:=Sd.m hS
  have HK:=Sd.m hK
  clear hS hK
  by_cases hlt:j<p.f3.length
  ·have b1:decide ((j:Int)<(p.f3.length:Int))=true:=dt__ (by omega)
   have b2:decide (j<p.f3.length)=true:=dt__ hlt
   have hq0:0<=(j:Int):=by omega
   have hq1:(j:Int)<(p.f3.length:Int):=by omega
   have w2:IntKind.i64.wrap ((j:Int)+1)=(j:Int)+1:=IntWalk.i64_in _ (by omega)
   obtain ⟨ad,B1,d1,B2,d2,B3,d3,rfl,k0,k1,k2,k3,m1,e1,m2,e2,m3,e3⟩:=hn_ HG.out (j:Int) (by omega) (by omega)
   rw [Int.toNat_natCast] at k0 k1 k2 k3
   have hel:p.f3[j]? =some (bw_ p.f3 (j:Int)):=by
    unfold bw_
    rw [Int.toNat_natCast,List.getD_eq_getElem?_getD,List.getElem?_eq_getElem hlt]
    rfl
   generalize bw_ p.f3 (j:Int)=q at k0 k1 k2 k3 m1 e1 m2 e2 m3 e3 hel
   replace k0:=(HS.out.2.1.cell (bl__ w0 _ k0)).trans k0
   replace k1:=(HS.out.2.1.cell (bl__ w0 _ k1)).trans k1
   replace k2:=(HS.out.2.1.cell (bl__ w0 _ k2)).trans k2
   replace k3:=(HS.out.2.1.cell (bl__ w0 _ k3)).trans k3
   have hroom:=fold_room p.f3 j q hel xs
   have HR:=Sd.m hroom
   have HE:=Sd.m hel
   have M1:=Sd.m m1
   have M3:=Sd.m m3
   have E1:=Sd.m e1
   have E3:=Sd.m e3
   clear hroom hel m1 m2 m3 e1 e2 e3
   go_wp2_with fail
   have hcall:=HI.out q (List.mem_of_getElem? HE.out) _ _ (SetAt.step HS.out (ab_ (Below.refl _ _) (.cells #[.int .i64 q.f0,.slice B1 q.f1.length d1,.slice B2 q.f2.length d2,.slice B3 q.f3.length d3] 45))) (by have:=HR.out;have:=HXL.out;omega) (HWI.out q (List.mem_of_getElem? HE.out)) B1 d1 B2 d2 B3 d3 M1.out E1.out M3.out E3.out
   refine hcall.mono ?_
   clear hcall
   rintro e W1 ⟨rfl,hS1,hK1⟩
   have HS1:=Sd.m hS1
   have HK1:=Sd.m (HK.out.trans (Kept45.trans (ei_ (ab_ (Below.refl _ _) _)) hK1))
   clear hS1 hK1 k0 k1 k2 k3
   go_wp2_with fail
   go_roundw
   case rel=>
    refine ⟨j+1,hlt,by go_num,?_,HK1.out⟩
    rw [List.take_add_one,HE.out,List.foldl_append]
    exact HS1.out
   case measure=>simp [intOf];omega
  ·have b1:decide ((j:Int)<(p.f3.length:Int))=false:=df__ (by omega)
   have b2:decide (j<p.f3.length)=false:=df__ hlt
   go_wp2_with fail
   refine Great.bodyPost_end0 rfl rfl ?_
   have hS:=HS.out
   rw [List.take_of_length_le (by omega)] at hS
   exact ⟨rfl,by rw [ef_,if_neg HP.out];exact hS,HK.out⟩
theorem form_yes (w0 W:World)(gs:Nat)(p:S45)(xs:List (List S74))(h:SetAt w0 W gs xs)(A1:Option Addr)(c1:Nat)(A2:Option Addr)(c2:Nat)(A3:Option Addr)(c3:Nat)
  (l1:p.f1.length<=c1) (g1:k74.C w0 A1 p.f1.length p.f1) (h1:p.f1.length<=3000000) (l3:p.f3.length<=c3) (g3:k45.C w0 A3 p.f3.length p.f3) (hw: ∀ q∈p.f3,Wide q) (hxl:xs.length+1+(p.f3.map nodes).sum<=1000000) (hp:p.f0=2)
  (ih: ∀ q∈p.f3,∀ (W:World) (xs:List (List S74)),SetAt w0 W gs xs->xs.length+nodes q<=1000000->Wide q-> ∀ (B1:Option Addr) (d1:Nat) (B2:Option Addr) (d2:Nat) (B3:Option Addr) (d3:Nat),q.f1.length<=d1->k74.C w0 B1 q.f1.length q.f1->q.f3.length<=d3->k45.C w0 B3 q.f3.length q.f3->
   Calls Tryz.prog 42 #[.pointer (some ⟨gs,0,none⟩),.agg #[.int .i64 q.f0,.slice B1 q.f1.length d1,.slice B2 q.f2.length d2,.slice B3 q.f3.length d3]] W fun e W1=>e=.returned (.tuple #[])∧SetAt w0 W1 gs (formF q xs)∧Kept45 W W1):
  Calls Tryz.prog 42 #[.pointer (some ⟨gs,0,none⟩),.agg #[.int .i64 p.f0,.slice A1 p.f1.length c1,.slice A2 p.f2.length c2,.slice A3 p.f3.length c3]] W fun e W1=>e=.returned (.tuple #[])∧SetAt w0 W1 gs (formF p xs)∧Kept45 W W1:=by
 have HX:=Sd.m h
 have HG:=Sd.m g3
 have HWI:=Sd.m hw
 have HI:=Sd.m ih
 have HXL:=Sd.m hxl
 have b1:(p.f0 == 2)=true:=by simpa using hp
 have HP:=Sd.m hp
 have HM:p.f3.length<=9223372036854775807:=Kd.C_max g3
 clear h g3 hw ih hxl hp
 go_enter Tryz.func42,Tryz.ntmps42
 have HG1:=Sd.m g1
 have HL1:=Sd.m l1
 have HH1:=Sd.m h1
 clear g1 l1 h1
 go_wp2_with fail
 have hcall0:=add_calls w0 _ gs xs (SetAt.step HX.out (ab_ (Below.refl W.heap.size W) (.cells #[.int .i64 p.f0,.slice A1 p.f1.length c1,.slice A2 p.f2.length c2,.slice A3 p.f3.length c3] 45))) (by have:=HXL.out;omega) p.f1 A1 c1 HG1.out HL1.out HH1.out
 refine hcall0.mono ?_
 clear hcall0
 rintro e Wn ⟨rfl,hSn,hKn⟩
 have hbox:Wn.heap[W.heap.size]? =some (.cells #[.int .i64 p.f0,.slice A1 p.f1.length c1,.slice A2 p.f2.length c2,.slice A3 p.f3.length c3] 45 (0,0)):=(hKn.2 W.heap.size _ 45 (by decide) (by decide) (ah_ W _)).trans (ah_ W _)
 have hc3:=bc_ hbox 3 rfl
 have HSN:=Sd.m hSn
 have HKN:=Sd.m (Kept45.trans (ei_ (ab_ (Below.refl W.heap.size W) _)) hKn)
 have hxn:(addF xs p.f1).length+(p.f3.map nodes).sum<=1000000:=by have:=addF_len xs p.f1;have:=HXL.out;omega
 have HXN:=Sd.m hxn
 clear hSn hKn hbox hxn
 obtain ⟨ys,hys⟩: ∃ ys,ys=addF xs p.f1:=⟨_,rfl⟩
 rw [←hys] at HSN HXN
 have HYS:=Sd.m hys
 clear hys
 go_wp2_with fail
 go_loopw [16] (fun u W1=>FoO w0 W gs p ys u W1) (fun u _=>p.f3.length - (intOf u).toNat)
 case atStart=>exact ⟨0,Nat.zero_le _,rfl,HSN.out,HKN.out⟩
 case round=>
  obtain ⟨j,hj,rfl,hS,hK⟩:=hrel
  have HS:=Sd.m hS
  have HK:=Sd.m hK
  clear hS hK
  by_cases hlt:j<p.f3.length
  ·have b1:decide ((j:Int)<(p.f3.length:Int))=true:=dt__ (by omega)
   have b2:decide (j<p.f3.length)=true:=dt__ hlt
   have hq0:0<=(j:Int):=by omega
   have hq1:(j:Int)<(p.f3.length:Int):=by omega
   have w2:IntKind.i64.wrap ((j:Int)+1)=(j:Int)+1:=IntWalk.i64_in _ (by omega)
   obtain ⟨ad,B1,d1,B2,d2,B3,d3,rfl,k0,k1,k2,k3,m1,e1,m2,e2,m3,e3⟩:=hn_ HG.out (j:Int) (by omega) (by omega)
   rw [Int.toNat_natCast] at k0 k1 k2 k3
   have hel:p.f3[j]? =some (bw_ p.f3 (j:Int)):=by
    unfold bw_
    rw [Int.toNat_natCast,List.getD_eq_getElem?_getD,List.getElem?_eq_getElem hlt]
    rfl
   generalize bw_ p.f3 (j:Int)=q at k0 k1 k2 k3 m1 e1 m2 e2 m3 e3 hel
   replace k0:=(HS.out.2.1.cell (bl__ w0 _ k0)).trans k0
   replace k1:=(HS.out.2.1.cell (bl__ w0 _ k1)).trans k1
   replace k2:=(HS.out.2.1.cell (bl__ w0 _ k2)).trans k2
   replace k3:=(HS.out.2.1.cell (bl__ w0 _ k3)).trans k3
   have hroom:=fold_room p.f3 j q hel ys
   have HR:=Sd.m hroom
   have HE:=Sd.m hel
   have M1:=Sd.m m1
   have M3:=Sd.m m3
   have E1:=Sd.m e1
   have E3:=Sd.m e3
   clear hroom hel m1 m2 m3 e1 e2 e3
   go_wp2_with fail
   have hcall:=HI.out q (List.mem_of_getElem? HE.out) _ _ (SetAt.step HS.out (ab_ (Below.refl _ _) (.cells #[.int .i64 q.f0,.slice B1 q.f1.length d1,.slice B2 q.f2.length d2,.slice B3 q.f3.length d3] 45))) (by have:=HR.out;have:=HXN.out;omega) (HWI.out q (List.mem_of_getElem? HE.out)) B1 d1 B2 d2 B3 d3 M1.out E1.out M3.out E3.out
   refine hcall.mono ?_
   clear hcall
   rintro e W1 ⟨rfl,hS1,hK1⟩
   have HS1:=Sd.m hS1
   have HK1:=Sd.m (HK.out.trans (Kept45.trans (ei_ (ab_ (Below.refl _ _) _)) hK1))
   clear hS1 hK1 k0 k1 k2 k3
   go_wp2_with fail
   go_roundw
   case rel=>
    refine ⟨j+1,hlt,by go_num,?_,HK1.out⟩
    rw [List.take_add_one,HE.out,List.foldl_append]
    exact HS1.out
   case measure=>simp [intOf];omega
  ·have b1:decide ((j:Int)<(p.f3.length:Int))=false:=df__ (by omega)
   have b2:decide (j<p.f3.length)=false:=df__ hlt
   go_wp2_with fail
   refine Great.bodyPost_end0 rfl rfl ?_
   have hS:=HS.out
   rw [List.take_of_length_le (by omega)] at hS
   exact ⟨rfl,by rw [ef_,if_pos HP.out,←HYS.out];exact hS,HK.out⟩
theorem fg_ (w0:World)(gs:Nat)(p:S45): ∀ (W:World) (xs:List (List S74)),SetAt w0 W gs xs->xs.length+nodes p<=1000000->Wide p-> ∀ (A1:Option Addr) (c1:Nat) (A2:Option Addr) (c2:Nat) (A3:Option Addr) (c3:Nat),p.f1.length<=c1->k74.C w0 A1 p.f1.length p.f1->p.f3.length<=c3->k45.C w0 A3 p.f3.length p.f3->
  Calls Tryz.prog 42 #[.pointer (some ⟨gs,0,none⟩),.agg #[.int .i64 p.f0,.slice A1 p.f1.length c1,.slice A2 p.f2.length c2,.slice A3 p.f3.length c3]] W fun e W1=>e=.returned (.tuple #[])∧SetAt w0 W1 gs (formF p xs)∧Kept45 W W1:=by
 intro W xs h hx hwd A1 c1 A2 c2 A3 c3 l1 g1 l3 g3
 rw [em_] at hx
 obtain ⟨_,h1,hs⟩:=hwd
 by_cases hp:p.f0=2
 ·exact form_yes w0 W gs p xs h A1 c1 A2 c2 A3 c3 l1 g1 h1 l3 g3 hs (by omega) hp fun q hq=>fg_ w0 gs q
 ·exact form_no w0 W gs p xs h A1 c1 A2 c2 A3 c3 l3 g3 hs (by omega) hp fun q hq=>fg_ w0 gs q
termination_by SizeOf.sizeOf p
decreasing_by
 all_goals
  have:=List.sizeOf_lt_of_mem hq
  cases p
  simp at*
  omega
end L
namespace LX
open Shelf YthfceiincmkccaaGreatW.PrintWords.Kd A K L B
open Go.Proofs.YthfceiincmkccaaGreat.P (withinF fy_)
noncomputable def tellF (L:List (List S74))(p:S45):S45:=⟨p.f0,p.f1,if p.f0=2 then withinF L p.f1 else [],p.f3.attach.map fun q=>tellF L q.1⟩
termination_by SizeOf.sizeOf p
decreasing_by
 obtain ⟨q,hq⟩:=q
 have:=List.sizeOf_lt_of_mem hq
 cases p
 simp at*
 omega
theorem dl_ (L:List (List S74))(p:S45):tellF L p=⟨p.f0,p.f1,if p.f0=2 then withinF L p.f1 else [],p.f3.map (tellF L)⟩:=by
 rw [tellF]
 congr 1
 exact List.attach_map_val (l:=p.f3) (f:=tellF L)
def TellAns (W:World)(P:Nat->Prop)(p:S45)(e:Ending)(w':World):Prop:= ∃ v,e=.returned v∧PatV w' (fun k=>P k∨W.heap.size<=k) v p∧Below W.heap.size W w'
structure TlAt (W Wm:World) (P:Nat->Prop) (a0 a1 a2:Value) (w:World) (u v:Value) (xs:List S45):Prop where
 N:Kd.N k45 45 w Wm.heap.size (fun k=>(P k∧k<W.heap.size)∨Wm.heap.size<=k) v xs
 B:Below W.heap.size W w
 sz:Wm.heap.size<=w.heap.size
 keep: ∀ k,k<Wm.heap.size->k≠W.heap.size+2->w.heap[k]? =Wm.heap[k]?
 t:w.heap[W.heap.size+2]? =some (.cells #[a0,a1,a2,u] 45 (0,0))
 lo:W.heap.size+3<=Wm.heap.size
section
variable {W Wm w w1:World} {P:Nat->Prop} {a0 a1 a2 u v:Value} {xs:List S45}
theorem TlAt.below (h:TlAt W Wm P a0 a1 a2 w u v xs)(hb:Below w.heap.size w w1):TlAt W Wm P a0 a1 a2 w1 u v xs:=
 ⟨N_below h.N hb,h.B.trans (hb.mono h.B.size),Nat.le_trans h.sz hb.size,fun k hk hn=>(hb.block k (Nat.lt_of_lt_of_le hk h.sz)).trans (h.keep k hk hn),ae_ h.t hb,h.lo⟩
theorem TlAt.F {α:Type}{d:Kd α}{ok:Nat->Prop}{A:Option Addr}{n:Nat}{ys:List α}(h:TlAt W Wm P a0 a1 a2 w u v xs)(hF:Kd.F d Wm ok A n ys)(hok: ∀ k,ok k->k≠W.heap.size+2):Kd.F d w ok A n ys:=
 F_step hF fun k hk hlt=>h.keep k hlt (hok k hk)
theorem TlAt.app {A:Option Addr}{c:Nat}(h:TlAt W Wm P a0 a1 a2 w u (.slice A xs.length c) xs)(y:S45)(B1:Option Addr)(m1:Nat)(okp:Nat->Prop)(hy:Kd.F k45 w okp B1 1 [y])(hokp: ∀ k,okp k->((P k∧k<W.heap.size)∨Wm.heap.size<=k)∧some k≠(Value.slice A xs.length c).ownBlock)(hl:(xs.length+1)*80<=140737488355328):
  ∃ C1 k1 w1,(Builtin.append_ #[43,43] 43 #[.slice A xs.length c,.slice B1 1 m1]).run Tryz.prog w=.ok (.slice C1 (xs ++ [y]).length k1) w1∧TlAt W Wm P a0 a1 a2 w1 u (.slice C1 (xs ++ [y]).length k1) (xs ++ [y]):=by
 obtain ⟨v1,w1,hrun,hN,hg,hat⟩:=eg_ (P:=Tryz.prog) k45 (W:=w) Wm.heap.size 43 43 45 (.agg #[.int .i64 0,.slice none 0 0,.slice none 0 0,.slice none 0 0]) 80 Tryz.underlying43 (by kernel_rfl) rfl (by decide) (by decide) (.slice A xs.length c) xs [y] B1 1 m1 (fun k=>(P k∧k<W.heap.size)∨Wm.heap.size<=k) okp h.N hy hokp (fun k hk=>Or.inr (Nat.le_trans h.sz hk)) h.sz hl
 obtain ⟨C1,k1,rfl⟩:=N_slice hN
 have hbase:=fun k hk=>N_base h.N k hk
 have hlo:=h.lo
 refine ⟨C1,k1,w1,hrun,hN,h.B.grown hg h.B.size (fun k hk=>by have:=hbase k hk;omega),Nat.le_trans h.sz hg.size,fun k hk hn=>(hg.block k (Nat.lt_of_lt_of_le hk h.sz) (fun e=>by have:=hbase k e.symm;omega)).trans (h.keep k hk hn),?_,h.lo⟩
 exact (hg.block _ (bu_ h.t) (fun e=>by have:=hbase _ e.symm;omega)).trans h.t
theorem TlAt.store (h:TlAt W Wm P a0 a1 a2 w u v xs):TlAt W Wm P a0 a1 a2 (w.setCell ⟨W.heap.size+2,3,none⟩ v) v v xs:=by
 have hlo:=h.lo
 refine ⟨N_far (p:=⟨W.heap.size+2,3,none⟩) h.N (fun k hk=>by show k≠W.heap.size+2;omega) v,h.B.setCell (p:=⟨W.heap.size+2,3,none⟩) (by show W.heap.size<=W.heap.size+2;omega) _,by simpa [World.setCell] using h.sz,fun k hk hn=>(Below.heap_setCell w ⟨W.heap.size+2,3,none⟩ v k hn).trans (h.keep k hk hn),?_,h.lo⟩
 simpa using dk_ h.t 3 v
end
def TlO (W Wm:World)(P:Nat->Prop)(a0 a1 a2:Value)(L:List (List S74))(l:List S45)(s:Value)(Wx:World):Prop:=
 ∃ (j:Nat) (A:Option Addr) (c:Nat),j<=l.length∧s=.int .i64 j∧TlAt W Wm P a0 a1 a2 Wx (.slice A ((l.take j).map (tellF L)).length c) (.slice A ((l.take j).map (tellF L)).length c) ((l.take j).map (tellF L))
theorem nodes_kid {l:List S45}{q:S45}(h:q∈l):nodes q<=(l.map nodes).sum:=by
 induction l with
 | nil=>cases h
 | cons a l ih=>
  rw [List.map_cons,List.sum_cons]
  rcases List.mem_cons.1 h with rfl | h
  ·omega
  ·have:=ih h
   omega
theorem nodes_pos (q:S45):1<=nodes q:=by rw [em_];omega
theorem nodes_len (l:List S45):l.length<=(l.map nodes).sum:=by
 induction l with
 | nil=>exact Nat.le_refl _
 | cons a l ih=>
  rw [List.map_cons,List.sum_cons,List.length_cons]
  have:=nodes_pos a
  omega
open Go.Proofs.YthfceiincmkccaaGreat.P (withinF fy_)
inductive FitS:S45->Prop
 | mk (p:S45) (h1:p.f1.length<=1000000) (h2:p.f2.length<=1000000) (h3:p.f3.length<=1000000) (hs: ∀ q∈p.f3,FitS q):FitS p
theorem ints_refl (l:List Int)(hl:l.length<=1000000): ∃ k,as_.f k l l=some true:=by
 have go: ∀ d i:Nat,i+d=l.length->Ev (fun k=>as_.l0 k l l (i:Int)) true:=by
  intro d
  induction d with
  | zero=>exact fun i hi=>Ev.step (f:=fun _=>some true) (fun k=>by rw [as_.l0,if_neg (by omega)]) (Ev.now _)
  | succ d ih=>exact fun i hi=>Ev.step (f:=fun k=>as_.l0 k l l ((i:Int)+1)) (fun k=>by rw [as_.l0,if_pos (by omega),if_pos (by omega),if_pos (by omega),if_pos rfl,P.w64 (n:=(i:Int)+1) (by omega) (by omega)]) (ih (i+1) (by omega))
 obtain ⟨k,hk⟩:=(go l.length 0 (by omega)).rounds
 exact ⟨k,by unfold as_.f;rw [if_pos rfl];exact hk⟩
theorem jb_ (l:List Int)(A:Option Addr)(c:Nat)(B:Option Addr)(d:Nat)(W:World)(hl:l.length<=1000000)(hA:Kd.C (Kd.int .i64) W A l.length l)(hc:l.length<=c)(hB:Kd.C (Kd.int .i64) W B l.length l)(hd:l.length<=d):
  Calls Tryz.prog 37 #[.slice A l.length c,.slice B l.length d] W fun e w'=>e=.returned (.bool true)∧Below W.heap.size W w':=by
 obtain ⟨k,hk⟩:=ints_refl l hl
 refine (as_.calls k A c l B d l true W hA hc hB hd hk).mono ?_
 rintro e w' ⟨rfl,hdr⟩
 exact ⟨rfl,hdr.below⟩
theorem ranges_same (l:List S74)(A:Option Addr)(c:Nat)(B:Option Addr)(d:Nat)(W:World)(hl:l.length<=1000000)(hA:Kd.C k74 W A l.length l)(hc:l.length<=c)(hB:Kd.C k74 W B l.length l)(hd:l.length<=d):
  Calls Tryz.prog 47 #[.slice A l.length c,.slice B l.length d] W fun e w'=>e=.returned (.bool true)∧Below W.heap.size W w':=by
 obtain ⟨k,hk⟩:=(P.rng_ev (x:=l) (y:=l) (by omega) true ⟨fun _=>rfl,fun _=>rfl⟩).1.rounds
 refine (be_.calls k A c l B d l true W hA hc hB hd hk).mono ?_
 rintro e w' ⟨rfl,hdr⟩
 exact ⟨rfl,hdr.below⟩
def SaO (W:World)(pa pb:Array Value)(n:Nat)(u:Value)(Wx:World):Prop:= ∃ j:Nat,j<=n∧u=.int .i64 j∧Below W.heap.size W Wx∧Wx.heap[W.heap.size]? =some (.cells pa 45 (0,0))∧Wx.heap[W.heap.size+1]? =some (.cells pb 45 (0,0))
theorem same_step (p:S45)(b1:p.f1.length<=1000000)(b2:p.f2.length<=1000000)(ih: ∀ q∈p.f3,∀ (W:World) (A1:Option Addr) (c1:Nat) (A2:Option Addr) (c2:Nat) (A3:Option Addr) (c3:Nat) (B1:Option Addr) (d1:Nat) (B2:Option Addr) (d2:Nat) (B3:Option Addr) (d3:Nat) (l1:q.f1.length<=c1) (h1:Kd.C k74 W A1 q.f1.length q.f1) (l2:q.f2.length<=c2) (h2:Kd.C (Kd.int .i64) W A2 q.f2.length q.f2) (l3:q.f3.length<=c3) (h3:Kd.C k45 W A3 q.f3.length q.f3) (m1:q.f1.length<=d1) (k1:Kd.C k74 W B1 q.f1.length q.f1) (m2:q.f2.length<=d2) (k2:Kd.C (Kd.int .i64) W B2 q.f2.length q.f2) (m3:q.f3.length<=d3) (k3:Kd.C k45 W B3 q.f3.length q.f3),Calls Tryz.prog 20 #[.agg #[.int .i64 q.f0,.slice A1 q.f1.length c1,.slice A2 q.f2.length c2,.slice A3 q.f3.length c3],.agg #[.int .i64 q.f0,.slice B1 q.f1.length d1,.slice B2 q.f2.length d2,.slice B3 q.f3.length d3]] W fun e w'=>e=.returned (.bool true)∧Below W.heap.size W w'): ∀ (W:World) (A1:Option Addr) (c1:Nat) (A2:Option Addr) (c2:Nat) (A3:Option Addr) (c3:Nat) (B1:Option Addr) (d1:Nat) (B2:Option Addr) (d2:Nat) (B3:Option Addr) (d3:Nat) (l1:p.f1.length<=c1) (h1:Kd.C k74 W A1 p.f1.length p.f1) (l2:p.f2.length<=c2) (h2:Kd.C (Kd.int .i64) W A2 p.f2.length p.f2) (l3:p.f3.length<=c3) (h3:Kd.C k45 W A3 p.f3.length p.f3) (m1:p.f1.length<=d1) (k1:Kd.C k74 W B1 p.f1.length p.f1) (m2:p.f2.length<=d2) (k2:Kd.C (Kd.int .i64) W B2 p.f2.length p.f2) (m3:p.f3.length<=d3) (k3:Kd.C k45 W B3 p.f3.length p.f3),Calls Tryz.prog 20 #[.agg #[.int .i64 p.f0,.slice A1 p.f1.length c1,.slice A2 p.f2.length c2,.slice A3 p.f3.length c3],.agg #[.int .i64 p.f0,.slice B1 p.f1.length d1,.slice B2 p.f2.length d2,.slice B3 p.f3.length d3]] W fun e w'=>e=.returned (.bool true)∧Below W.heap.size W w':=by
 intro W A1 c1 A2 c2 A3 c3 B1 d1 B2 d2 B3 d3 l1 h1 l2 h2 l3 h3 m1 k1 m2 k2 m3 k3
 obtain ⟨W2,hW2⟩: ∃ W_,W_=(W.alloc (.cells #[.int .i64 p.f0,.slice A1 p.f1.length c1,.slice A2 p.f2.length c2,.slice A3 p.f3.length c3] 45)).alloc (.cells #[.int .i64 p.f0,.slice B1 p.f1.length d1,.slice B2 p.f2.length d2,.slice B3 p.f3.length d3] 45):=⟨_,rfl⟩
 have ea:(W.alloc (.cells #[.int .i64 p.f0,.slice A1 p.f1.length c1,.slice A2 p.f2.length c2,.slice A3 p.f3.length c3] 45)).heap.size=W.heap.size+1:=Array.size_push _
 have hb2:Below W.heap.size W W2:=by rw [hW2];exact ab_ (ab_ (Below.refl _ _) _) _
 have hx2:W2.heap[W.heap.size]? =some (.cells #[.int .i64 p.f0,.slice A1 p.f1.length c1,.slice A2 p.f2.length c2,.slice A3 p.f3.length c3] 45 (0,0)):=by rw [hW2];exact ak_ (ah_ W _) _
 have hy2:W2.heap[W.heap.size+1]? =some (.cells #[.int .i64 p.f0,.slice B1 p.f1.length d1,.slice B2 p.f2.length d2,.slice B3 p.f3.length d3] 45 (0,0)):=by rw [hW2];exact ea ▸ ah_ (W.alloc (.cells #[.int .i64 p.f0,.slice A1 p.f1.length c1,.slice A2 p.f2.length c2,.slice A3 p.f3.length c3] 45)) _
 have HR:=Sd.m (ranges_same p.f1 A1 c1 B1 d1 W2 b1 (Kd.C_below h1 hb2) l1 (Kd.C_below k1 hb2) m1)
 have HI:Sd (∀ V,Below W.heap.size W V->_):=⟨fun V hV=>jb_ p.f2 A2 c2 B2 d2 V b2 (Kd.C_below h2 hV) l2 (Kd.C_below k2 hV) m2⟩
 have HA:=Sd.m h3
 have HB:=Sd.m k3
 have HIH:=Sd.m ih
 have HX2:=Sd.m hx2
 have HY2:=Sd.m hy2
 have HB2:=Sd.m hb2
 have HW2:=Sd.m hW2
 have HM:p.f3.length<=9223372036854775807:=Kd.C_max h3
 clear ea hb2 hx2 hy2 hW2 h1 h2 h3 k1 k2 k3 ih
 go_enter Tryz.func20,Tryz.ntmps20
 go_wp2_with fail
 rw [←HW2.out]
 refine HR.out.mono ?_
 rintro e V ⟨rfl,hb⟩
 have hx:=ae_ HX2.out hb
 have hy:=ae_ HY2.out hb
 have hbV:=HB2.out.trans (hb.mono HB2.out.size)
 have x2:V.cell? ⟨W.heap.size,2,none⟩=some (.slice A2 p.f2.length c2):=(af_ hx 2).trans rfl
 have y2:V.cell? ⟨W.heap.size+1,2,none⟩=some (.slice B2 p.f2.length d2):=(af_ hy 2).trans rfl
 have HXV:=Sd.m hx
 have HYV:=Sd.m hy
 have HBV:=Sd.m hbV
 have HIV:=Sd.m (HI.out V hbV)
 clear hx hy hbV hb
 go_wp2_with fail
 refine HIV.out.mono ?_
 rintro e V1 ⟨rfl,hb⟩
 clear x2 y2
 have hx:=ae_ HXV.out hb
 have hy:=ae_ HYV.out hb
 have x3:V1.cell? ⟨W.heap.size,3,none⟩=some (.slice A3 p.f3.length c3):=(af_ hx 3).trans rfl
 have y3:V1.cell? ⟨W.heap.size+1,3,none⟩=some (.slice B3 p.f3.length d3):=(af_ hy 3).trans rfl
 have H0:Sd (SaO W #[.int .i64 p.f0,.slice A1 p.f1.length c1,.slice A2 p.f2.length c2,.slice A3 p.f3.length c3] #[.int .i64 p.f0,.slice B1 p.f1.length d1,.slice B2 p.f2.length d2,.slice B3 p.f3.length d3] p.f3.length (.int .i64 0) V1):=⟨⟨0,Nat.zero_le _,rfl,HBV.out.trans (hb.mono HBV.out.size),hx,hy⟩⟩
 clear hx hy hb
 go_wp2_with fail
 clear x3 y3
 go_loopw [5] (fun u Wx=>SaO W #[.int .i64 p.f0,.slice A1 p.f1.length c1,.slice A2 p.f2.length c2,.slice A3 p.f3.length c3] #[.int .i64 p.f0,.slice B1 p.f1.length d1,.slice B2 p.f2.length d2,.slice B3 p.f3.length d3] p.f3.length u Wx) (fun u _=>p.f3.length - (intOf u).toNat)
 case atStart=>exact H0.out
 case round=>
  obtain ⟨j,hj,rfl,hb,hx,hy⟩:=hrel
  have x3:wr.cell? ⟨W.heap.size,3,none⟩=some (.slice A3 p.f3.length c3):=(af_ hx 3).trans rfl
  have y3:wr.cell? ⟨W.heap.size+1,3,none⟩=some (.slice B3 p.f3.length d3):=(af_ hy 3).trans rfl
  by_cases hlt:j<p.f3.length
  ·have b1:decide ((j:Int)<(p.f3.length:Int))=true:=dt__ (by omega)
   have b2:decide (j<p.f3.length)=true:=dt__ hlt
   have hq0:0<=(j:Int):=by omega
   have hq1:(j:Int)<(p.f3.length:Int):=by omega
   have w2:IntKind.i64.wrap ((j:Int)+1)=(j:Int)+1:=IntWalk.i64_in _ (by omega)
   obtain ⟨Vd,hVd⟩: ∃ W_,W_=wr.drew:=⟨_,rfl⟩
   have hbd:Below wr.heap.size wr Vd:=by rw [hVd];exact bq_ (Below.refl _ _)
   have hbD:=hb.trans (hbd.mono hb.size)
   obtain ⟨aa,E1,e1,E2,e2,E3,e3,rfl,i0,i1,i2,i3,n1,o1,n2,o2,n3,o3⟩:=hn_ (Kd.C_below HA.out hbD) (j:Int) (by omega) (by omega)
   obtain ⟨ab,G1,g1,G2,g2,G3,g3,rfl,u0,u1,u2,u3,r1,s1,r2,s2,r3,s3⟩:=hn_ (Kd.C_below HB.out hbD) (j:Int) (by omega) (by omega)
   rw [Int.toNat_natCast] at i0 i1 i2 i3 u0 u1 u2 u3
   have hmem:bw_ p.f3 (j:Int)∈p.f3:=by
    unfold bw_
    rw [Int.toNat_natCast,List.getD_eq_getElem?_getD,List.getElem?_eq_getElem hlt]
    exact List.getElem_mem hlt
   generalize bw_ p.f3 (j:Int)=q at i0 i1 i2 i3 u0 u1 u2 u3 n1 o1 n2 o2 n3 o3 r1 s1 r2 s2 r3 s3 hmem
   have HC:=Sd.m (HIH.out q hmem Vd E1 e1 E2 e2 E3 e3 G1 g1 G2 g2 G3 g3 n1 o1 n2 o2 n3 o3 r1 s1 r2 s2 r3 s3)
   have HS:Sd (∀ w',Below Vd.heap.size Vd w'->w'.cell? ⟨W.heap.size,3,none⟩=some (.slice (some aa) p.f3.length c3)∧w'.cell? ⟨W.heap.size+1,3,none⟩=some (.slice (some ab) p.f3.length d3)∧w'.cell? (aa.add (j*4))=some (.int .i64 q.f0)∧w'.cell? ⟨(aa.add (j*4)).block,(aa.add (j*4)).off+1,none⟩=some (.slice E1 q.f1.length e1)∧w'.cell? ⟨(aa.add (j*4)).block,(aa.add (j*4)).off+2,none⟩=some (.slice E2 q.f2.length e2)∧w'.cell? ⟨(aa.add (j*4)).block,(aa.add (j*4)).off+3,none⟩=some (.slice E3 q.f3.length e3)∧w'.cell? (ab.add (j*4))=some (.int .i64 q.f0)∧w'.cell? ⟨(ab.add (j*4)).block,(ab.add (j*4)).off+1,none⟩=some (.slice G1 q.f1.length g1)∧w'.cell? ⟨(ab.add (j*4)).block,(ab.add (j*4)).off+2,none⟩=some (.slice G2 q.f2.length g2)∧w'.cell? ⟨(ab.add (j*4)).block,(ab.add (j*4)).off+3,none⟩=some (.slice G3 q.f3.length g3)):=by
    refine ⟨fun w' hw=>?_⟩
    have cw:=fun (a:Addr) (v:Value) (h:Vd.cell? a=some v)=>(hw.cell (bl__ Vd _ h)).trans h
    have hq:=hbd.trans (hw.mono hbd.size)
    exact ⟨(af_ (ae_ hx hq) 3).trans rfl,(af_ (ae_ hy hq) 3).trans rfl,cw _ _ i0,cw _ _ i1,cw _ _ i2,cw _ _ i3,cw _ _ u0,cw _ _ u1,cw _ _ u2,cw _ _ u3⟩
   have HXD:=Sd.m (ae_ hx hbd)
   have HYD:=Sd.m (ae_ hy hbd)
   have HBD:=Sd.m hbD
   clear hb hx hy hbd hbD i0 i1 i2 i3 u0 u1 u2 u3 n1 o1 n2 o2 n3 o3 r1 s1 r2 s2 r3 s3 hmem
   go_upto_region 6 with fail
   refine start_ (n:=12) (S:=fun w'=>w'.cell? ⟨W.heap.size,3,none⟩=some (.slice (some aa) p.f3.length c3)∧w'.cell? ⟨W.heap.size+1,3,none⟩=some (.slice (some ab) p.f3.length d3)∧w'.cell? (aa.add (j*4))=some (.int .i64 q.f0)∧w'.cell? ⟨(aa.add (j*4)).block,(aa.add (j*4)).off+1,none⟩=some (.slice E1 q.f1.length e1)∧w'.cell? ⟨(aa.add (j*4)).block,(aa.add (j*4)).off+2,none⟩=some (.slice E2 q.f2.length e2)∧w'.cell? ⟨(aa.add (j*4)).block,(aa.add (j*4)).off+3,none⟩=some (.slice E3 q.f3.length e3)∧w'.cell? (ab.add (j*4))=some (.int .i64 q.f0)∧w'.cell? ⟨(ab.add (j*4)).block,(ab.add (j*4)).off+1,none⟩=some (.slice G1 q.f1.length g1)∧w'.cell? ⟨(ab.add (j*4)).block,(ab.add (j*4)).off+2,none⟩=some (.slice G2 q.f2.length g2)∧w'.cell? ⟨(ab.add (j*4)).block,(ab.add (j*4)).off+3,none⟩=some (.slice G3 q.f3.length g3)) (ds:=[]) #[false,false,false,false,false,false,false,false,false,false,false,false] (by kernel_rfl) rfl rfl ⟨(by rw [←hVd];exact (HS.out _ (Below.refl _ _)).1),(by rw [←hVd];exact (HS.out _ (Below.refl _ _)).2.1),(by rw [←hVd];exact (HS.out _ (Below.refl _ _)).2.2.1),(by rw [←hVd];exact (HS.out _ (Below.refl _ _)).2.2.2.1),(by rw [←hVd];exact (HS.out _ (Below.refl _ _)).2.2.2.2.1),(by rw [←hVd];exact (HS.out _ (Below.refl _ _)).2.2.2.2.2.1),(by rw [←hVd];exact (HS.out _ (Below.refl _ _)).2.2.2.2.2.2.1),(by rw [←hVd];exact (HS.out _ (Below.refl _ _)).2.2.2.2.2.2.2.1),(by rw [←hVd];exact (HS.out _ (Below.refl _ _)).2.2.2.2.2.2.2.2.1),(by rw [←hVd];exact (HS.out _ (Below.refl _ _)).2.2.2.2.2.2.2.2.2)⟩ (fun hHeld=>?_)
   rw [←hVd] at hHeld ⊢
   clear hVd
   refine pure_ (i:=0) (N:=some 43) (v:=?_) (a':=?_) #[true,false,false,false,false,false,false,false,false,false,false,false] rfl rfl (by kernel_rfl) (fun _ _ _ h=>h) (Or.inl ⟨by rfl,?_⟩) ?_ ?_
   rotate_left
   ·intro w'
    go_simp
    with_reducible rfl
   rotate_left
   ·simp only [Act.put,List.setIfInBounds_toArray,List.set_cons_zero,List.set_cons_succ,ds_,du_]
    rfl
   refine pure_ (i:=2) (N:=some 45) (v:=?_) (a':=?_) #[true,false,true,false,false,false,false,false,false,false,false,false] rfl rfl (by kernel_rfl) (fun _ _ _ h=>h) (Or.inl ⟨by rfl,?_⟩) ?_ ?_
   rotate_left
   ·intro w'
    go_simp
    with_reducible rfl
   rotate_left
   ·simp only [Act.put,List.setIfInBounds_toArray,List.set_cons_zero,List.set_cons_succ,ds_,du_]
    rfl
   refine pure_ (i:=5) (N:=some 48) (v:=?_) (a':=?_) #[true,false,true,false,false,true,false,false,false,false,false,false] rfl rfl (by kernel_rfl) (fun _ _ _ h=>h) (Or.inl ⟨by rfl,?_⟩) ?_ ?_
   rotate_left
   ·intro w'
    go_simp
    with_reducible rfl
   rotate_left
   ·simp only [Act.put,List.setIfInBounds_toArray,List.set_cons_zero,List.set_cons_succ,ds_,du_]
    rfl
   refine pure_ (i:=7) (N:=some 50) (v:=?_) (a':=?_) #[true,false,true,false,false,true,false,true,false,false,false,false] rfl rfl (by kernel_rfl) (fun _ _ _ h=>h) (Or.inl ⟨by rfl,?_⟩) ?_ ?_
   rotate_left
   ·intro w'
    go_simp
    with_reducible rfl
   rotate_left
   ·simp only [Act.put,List.setIfInBounds_toArray,List.set_cons_zero,List.set_cons_succ,ds_,du_]
    rfl
   refine take_ (i:=1) (N:=some 44) (v:=?_) (a':=?_) #[true,true,true,false,false,true,false,true,false,false,false,false] rfl rfl (by kernel_rfl) (fun _ _ _ h=>h) (Or.inl ⟨by rfl,?_⟩) hHeld ?_ ?_
   rotate_left
   ·rintro w' ⟨s0,s1,s2,s3,s4,s5,s6,s7,s8,s9⟩
    go_simp
    with_reducible rfl
   rotate_left
   ·simp only [Act.put,List.setIfInBounds_toArray,List.set_cons_zero,List.set_cons_succ,ds_,du_]
    rfl
   refine pure_ (i:=3) (N:=some 46) (v:=?_) (a':=?_) #[true,true,true,true,false,true,false,true,false,false,false,false] rfl rfl (by kernel_rfl) (fun _ _ _ h=>h) (Or.inl ⟨by rfl,?_⟩) ?_ ?_
   rotate_left
   ·intro w'
    go_simp
    with_reducible rfl
   rotate_left
   ·simp only [Act.put,List.setIfInBounds_toArray,List.set_cons_zero,List.set_cons_succ,ds_,du_]
    rfl
   refine take_ (i:=4) (N:=some 47) (v:=?_) (a':=?_) #[true,true,true,true,true,true,false,true,false,false,false,false] rfl rfl (by kernel_rfl) (fun _ _ _ h=>h) (Or.inl ⟨by rfl,?_⟩) hHeld ?_ ?_
   rotate_left
   ·rintro w' ⟨s0,s1,s2,s3,s4,s5,s6,s7,s8,s9⟩
    go_simp
    with_reducible rfl
   rotate_left
   ·simp only [Act.put,List.setIfInBounds_toArray,List.set_cons_zero,List.set_cons_succ,ds_,du_]
    rfl
   refine take_ (i:=6) (N:=some 49) (v:=?_) (a':=?_) #[true,true,true,true,true,true,true,true,false,false,false,false] rfl rfl (by kernel_rfl) (fun _ _ _ h=>h) (Or.inl ⟨by rfl,?_⟩) hHeld ?_ ?_
   rotate_left
   ·rintro w' ⟨s0,s1,s2,s3,s4,s5,s6,s7,s8,s9⟩
    go_simp
    with_reducible rfl
   rotate_left
   ·simp only [Act.put,List.setIfInBounds_toArray,List.set_cons_zero,List.set_cons_succ,ds_,du_]
    rfl
   refine pure_ (i:=8) (N:=some 51) (v:=?_) (a':=?_) #[true,true,true,true,true,true,true,true,true,false,false,false] rfl rfl (by kernel_rfl) (fun _ _ _ h=>h) (Or.inl ⟨by rfl,?_⟩) ?_ ?_
   rotate_left
   ·intro w'
    go_simp
    with_reducible rfl
   rotate_left
   ·simp only [Act.put,List.setIfInBounds_toArray,List.set_cons_zero,List.set_cons_succ,ds_,du_]
    rfl
   refine take_ (i:=9) (N:=some 52) (v:=?_) (a':=?_) #[true,true,true,true,true,true,true,true,true,true,false,false] rfl rfl (by kernel_rfl) (fun _ _ _ h=>h) (Or.inl ⟨by rfl,?_⟩) hHeld ?_ ?_
   rotate_left
   ·rintro w' ⟨s0,s1,s2,s3,s4,s5,s6,s7,s8,s9⟩
    go_simp
    with_reducible rfl
   rotate_left
   ·simp only [Act.put,List.setIfInBounds_toArray,List.set_cons_zero,List.set_cons_succ,ds_,du_]
    rfl
   refine one_ (i:=10) (N:=some 53) #[true,true,true,true,true,true,true,true,true,true,true,false] rfl rfl (by kernel_rfl) (by decide) (fun K hK=>?_)
   refine goes_ Tryz.func20 (by kernel_rfl) rfl #[.agg #[.int .i64 q.f0,.slice E1 q.f1.length e1,.slice E2 q.f2.length e2,.slice E3 q.f3.length e3],.agg #[.int .i64 q.f0,.slice G1 q.f1.length g1,.slice G2 q.f2.length g2,.slice G3 q.f3.length g3]] (by rfl) rfl rfl (by simp only [List.map_toArray,List.map_cons,List.map_nil];rfl) ?_
   with_reducible refine (HC.out).mono ?_
   rintro e_ V1 ⟨rfl,hb_⟩
   refine ⟨_,rfl,?_⟩
   have B1_:=Sd.m hb_
   clear hb_
   refine hK.out _ _ ⟨(HS.out _ B1_.out).1,(HS.out _ B1_.out).2.1,(HS.out _ B1_.out).2.2.1,(HS.out _ B1_.out).2.2.2.1,(HS.out _ B1_.out).2.2.2.2.1,(HS.out _ B1_.out).2.2.2.2.2.1,(HS.out _ B1_.out).2.2.2.2.2.2.1,(HS.out _ B1_.out).2.2.2.2.2.2.2.1,(HS.out _ B1_.out).2.2.2.2.2.2.2.2.1,(HS.out _ B1_.out).2.2.2.2.2.2.2.2.2⟩ (fun hHeld=>?_)
   clear hK K
   refine norm_ (a':=?_) ?_ ?_
   rotate_left
   ·show Act.put _ (some 53) _=_
    simp only [Act.put,List.setIfInBounds_toArray,List.set_cons_zero,List.set_cons_succ,ds_,du_]
    rfl
   refine pure_ (i:=11) (N:=some 54) (v:=?_) (a':=?_) #[true,true,true,true,true,true,true,true,true,true,true,true] rfl rfl (by kernel_rfl) (fun _ _ _ h=>h) (Or.inl ⟨by rfl,?_⟩) ?_ ?_
   rotate_left
   ·intro w'
    go_simp
    with_reducible rfl
   rotate_left
   ·simp only [Act.put,List.setIfInBounds_toArray,List.set_cons_zero,List.set_cons_succ,ds_,du_]
    rfl
   refine done_ (by kernel_rfl) ?_
   go_wp2_with fail
   go_roundw
   case rel=>exact ⟨j+1,hlt,by go_num,HBD.out.trans (B1_.out.mono HBD.out.size),ae_ HXD.out B1_.out,ae_ HYD.out B1_.out⟩
   case measure=>simp [intOf];omega
  ·have b1:decide ((j:Int)<(p.f3.length:Int))=false:=df__ (by omega)
   have b2:decide (j<p.f3.length)=false:=df__ hlt
   have HB:=Sd.m hb
   clear hb hx hy
   go_wp2_with fail
   go_ret
   exact ⟨rfl,HB.out⟩
theorem FitS.parts {p:S45}(h:FitS p):p.f1.length<=1000000∧p.f2.length<=1000000∧p.f3.length<=1000000∧ ∀ q∈p.f3,FitS q:=by
 cases h
 exact ⟨by assumption,by assumption,by assumption,by assumption⟩
theorem same_refl (p:S45)(hp:FitS p): ∀ (W:World) (A1:Option Addr) (c1:Nat) (A2:Option Addr) (c2:Nat) (A3:Option Addr) (c3:Nat) (B1:Option Addr) (d1:Nat) (B2:Option Addr) (d2:Nat) (B3:Option Addr) (d3:Nat) (l1:p.f1.length<=c1) (h1:Kd.C k74 W A1 p.f1.length p.f1) (l2:p.f2.length<=c2) (h2:Kd.C (Kd.int .i64) W A2 p.f2.length p.f2) (l3:p.f3.length<=c3) (h3:Kd.C k45 W A3 p.f3.length p.f3) (m1:p.f1.length<=d1) (k1:Kd.C k74 W B1 p.f1.length p.f1) (m2:p.f2.length<=d2) (k2:Kd.C (Kd.int .i64) W B2 p.f2.length p.f2) (m3:p.f3.length<=d3) (k3:Kd.C k45 W B3 p.f3.length p.f3),Calls Tryz.prog 20 #[.agg #[.int .i64 p.f0,.slice A1 p.f1.length c1,.slice A2 p.f2.length c2,.slice A3 p.f3.length c3],.agg #[.int .i64 p.f0,.slice B1 p.f1.length d1,.slice B2 p.f2.length d2,.slice B3 p.f3.length d3]] W fun e w'=>e=.returned (.bool true)∧Below W.heap.size W w':=by
 have h1:=hp.parts.1
 have h2:=hp.parts.2.1
 have hs:=hp.parts.2.2.2
 exact same_step p h1 h2 fun q hq=>same_refl q (hs q hq)
termination_by SizeOf.sizeOf p
decreasing_by
 have h5:=List.sizeOf_lt_of_mem hq
 have h6:SizeOf.sizeOf p.f3<SizeOf.sizeOf p:=by
  cases p
  simp
  omega
 omega
end LX
namespace P
open A L
theorem sig_has {sets:List (List S74)}{c d:Int}(h:sigF sets c=sigF sets d){s:List S74}(hs:s∈sets):hasB s c=hasB s d:=by
 unfold sigF at h
 exact List.map_inj_left.1 h s hs
theorem cls_sig {sets:List (List S74)}{c d:Int}(h0:0<=c)(h1:c<=1114111)(h:clsF sets c=clsF sets d):sigF sets c=sigF sets d:=by
 have k:Mem (clsF sets c) c=decide (sigF sets c=sigF sets c):=ld_ h0 h1
 have k2:Mem (clsF sets d) c=decide (sigF sets c=sigF sets d):=ld_ h0 h1
 rw [dt__ rfl,h,k2] at k
 exact of_decide_eq_true k
theorem of_bad {l0:List (List S74)}{E:List Int}(f:Few l0 E)(h:badB l0=true):et_.f l0=some ([],9):=by rw [of_f f,h];rfl
theorem of_ok {l0:List (List S74)}{E:List Int}(f:Few l0 E)(h:badB l0=false):et_.f l0=some (clsL l0,0):=by rw [of_f f,h];rfl
theorem of_good {l0:List (List S74)}(f:Few l0 (edgesOf l0))(h:badB l0=false):AtomsOf l0 (clsL l0)∧Cls l0 (clsL l0)∧Short (clsL l0)∧(clsL l0).length<=200:=⟨jy_ f,lf_ f,clsL_short f,good_len h⟩
open K LX
theorem fe_ (p:S45):nodes p<=mass p:=by
 rw [em_,kw_]
 have key: ∀ l:List S45,(∀ q∈l,q∈p.f3)->(l.map nodes).sum<=(l.map mass).sum:=by
  intro l
  induction l with
  | nil=>exact fun _=>Nat.le_refl _
  | cons a l ih=>
   intro h
   have hx:=h a (List.mem_cons_self ..)
   have:=fe_ a
   have:=ih fun q hq=>h q (List.mem_cons_of_mem _ hq)
   rw [List.map_cons,List.sum_cons,List.map_cons,List.sum_cons]
   omega
 have:=key p.f3 fun q hq=>hq
 omega
termination_by SizeOf.sizeOf p
decreasing_by exact ev_ hx
theorem ij_ (p:S45)(h:mass p<=3000000):Wide p:=by
 rw [kw_] at h
 exact ⟨p,by omega,fun q hq=>ij_ q (by have:=sum_mem hq;omega)⟩
termination_by SizeOf.sizeOf p
decreasing_by exact ev_ hq
end P
namespace L
open Shelf YthfceiincmkccaaGreatW.PrintWords.Kd A P K
noncomputable def ruleF (xs:List (List S74))(r:S55):List (List S74):=formF r.f3 (formF r.f2 xs)
noncomputable def bookF (xs:List (List S74))(b:S27):List (List S74):=b.f1.foldl ruleF xs
noncomputable def booksF (l:List S27):List (List S74):=l.foldl bookF []
def ruleN (r:S55):Nat:=nodes r.f2+nodes r.f3
def bookN (b:S27):Nat:=(b.f1.map ruleN).sum
theorem ruleF_len (xs:List (List S74))(r:S55):(ruleF xs r).length<=xs.length+ruleN r:=by
 unfold ruleF ruleN
 have h1:=fv_ r.f3 (formF r.f2 xs)
 have h2:=fv_ r.f2 xs
 omega
theorem fold_lenG {α:Type}(f:List (List S74)->α->List (List S74))(n:α->Nat)(hf: ∀ a q,(f a q).length<=a.length+n q)(l:List α)(xs:List (List S74)):(l.foldl f xs).length<=xs.length+(l.map n).sum:=by
 induction l generalizing xs with
 | nil=>simp
 | cons r l ih=>
  have h1:=ih (f xs r)
  have h2:=hf xs r
  rw [List.foldl_cons,List.map_cons,List.sum_cons]
  omega
theorem bookF_len (xs:List (List S74))(b:S27):(bookF xs b).length<=xs.length+bookN b:=fold_lenG ruleF ruleN ruleF_len b.f1 xs
theorem ju_ {α:Type}(f:List (List S74)->α->List (List S74))(n:α->Nat)(hf: ∀ a q,(f a q).length<=a.length+n q)(l:List α)(j:Nat)(q:α)(h:l[j]? =some q)(xs:List (List S74)):((l.take j).foldl f xs).length+n q<=xs.length+(l.map n).sum:=by
 induction l generalizing j xs with
 | nil=>simp at h
 | cons r l ih=>
  cases j with
  | zero=>
   simp at h
   subst h
   simp
  | succ j=>
   have h1:=ih j (by simpa using h) (f xs r)
   have h2:=hf xs r
   rw [List.take_succ_cons,List.foldl_cons,List.map_cons,List.sum_cons]
   omega
def SoO (w:World)(l:List S27)(u:Value)(W1:World):Prop:= ∃ j:Nat,j<=l.length∧u=.int .i64 j∧SetAt w W1 w.heap.size ((l.take j).foldl bookF [])
def SoI (w:World)(rs:List S55)(xs:List (List S74))(u:Value)(W1:World):Prop:= ∃ j:Nat,j<=rs.length∧u=.int .i64 j∧SetAt w W1 w.heap.size ((rs.take j).foldl ruleF xs)
theorem io_ (l:List S27)(w:World)(A0:Option Addr)(c0:Nat)(hc0:l.length<=c0)(hl:Kd.C k27 w A0 l.length l)(hn:(l.map bookN).sum<=1000000)(hw: ∀ b∈l,∀ r∈b.f1,Wide r.f2∧Wide r.f3)
  (r0:List (List S74)) (r1:Int) (hof:et_.f (booksF l)=some (r0,r1)):
  Calls Tryz.prog 11 #[.slice A0 l.length c0] w fun e w'=> ∃ v0_:Value,e=.returned (.tuple #[v0_,.int .i64 r1])∧Kd.N (Kd.slice 74 k74) 37 w' w.heap.size (fun k_=>w.heap.size<=k_) v0_ r0∧Below w.heap.size w w':=by
 obtain ⟨W1,hW1⟩: ∃ W_,W_=w.alloc (.cells #[.slice none 0 0] 68):=⟨_,rfl⟩
 have hb1:Below w.heap.size w W1:=by rw [hW1];exact ab_ (Below.refl w.heap.size w) _
 have hS0:SetAt w W1 w.heap.size []:=by rw [hW1];exact ⟨⟨_,Boxed.new w 68 _,OwnRow.none_ _ _ _ _ _⟩,ab_ (Below.refl _ _) _,Nat.le_refl _⟩
 have HS0:=Sd.m hS0
 have HL:=Sd.m hl
 have HN:=Sd.m hn
 have HWD:=Sd.m hw
 have HOF:=Sd.m hof
 have HM:l.length<=9223372036854775807:=Kd.C_max hl
 clear hb1 hS0 hl hn hw hof
 go_enter Tryz.func11,Tryz.ntmps11
 go_wp2_with fail
 rw [←hW1]
 clear hW1
 go_loopw [11] (fun u Wx=>SoO w l u Wx) (fun u _=>l.length - (intOf u).toNat)
 case atStart=>exact ⟨0,Nat.zero_le _,rfl,HS0.out⟩
 case round=>
  obtain ⟨j,hj,rfl,hS⟩:=hrel
  have HS:=Sd.m hS
  clear hS
  by_cases hlt:j<l.length
  ·have b1:decide ((j:Int)<(l.length:Int))=true:=dt__ (by omega)
   have b2:decide (j<l.length)=true:=dt__ hlt
   have hq0:0<=(j:Int):=by omega
   have hq1:(j:Int)<(l.length:Int):=by omega
   have w2:IntKind.i64.wrap ((j:Int)+1)=(j:Int)+1:=IntWalk.i64_in _ (by omega)
   obtain ⟨ad,B0,d0,B1,d1,B2,d2,B3,d3,rfl,k0,k1,k2,k3,m0,e0,m1,e1,m2,e2,m3,e3⟩:=at_T27 HL.out (j:Int) (by omega) (by omega)
   rw [Int.toNat_natCast] at k0 k1 k2 k3
   have hel:l[j]? =some (dv_ l (j:Int)):=by
    unfold dv_
    rw [Int.toNat_natCast,List.getD_eq_getElem?_getD,List.getElem?_eq_getElem hlt]
    rfl
   generalize dv_ l (j:Int)=b at k0 k1 k2 k3 m0 e0 m1 e1 m2 e2 m3 e3 hel
   replace k0:=(HS.out.2.1.cell (bl__ w _ k0)).trans k0
   replace k1:=(HS.out.2.1.cell (bl__ w _ k1)).trans k1
   replace k2:=(HS.out.2.1.cell (bl__ w _ k2)).trans k2
   replace k3:=(HS.out.2.1.cell (bl__ w _ k3)).trans k3
   have hroom:=ju_ bookF bookN bookF_len l j b hel []
   have HR:=Sd.m hroom
   have HE:=Sd.m hel
   have M1:=Sd.m m1
   have E1:=Sd.m e1
   have HM1:b.f1.length<=9223372036854775807:=Kd.C_max e1
   clear hroom hel m0 m1 m2 m3 e0 e1 e2 e3
   have HSB:=Sd.m (SetAt.step HS.out (ab_ (Below.refl _ _) (.cells #[.slice B0 b.f0.length d0,.slice B1 b.f1.length d1,.slice B2 b.f2.length d2,.slice B3 b.f3.length d3] 27)))
   go_wp2_with fail
   obtain ⟨xs,hxs⟩: ∃ xs,xs=(l.take j).foldl bookF []:=⟨_,rfl⟩
   rw [←hxs] at HSB HR
   have HXS:=Sd.m hxs
   clear hxs k0 k1 k2 k3
   generalize wr.alloc (.cells #[.slice B0 b.f0.length d0,.slice B1 b.f1.length d1,.slice B2 b.f2.length d2,.slice B3 b.f3.length d3] 27)=Wb at HSB ⊢
   go_loopw [18] (fun u Wx=>SoI w b.f1 xs u Wx) (fun u _=>b.f1.length - (intOf u).toNat)
   case atStart=>exact ⟨0,Nat.zero_le _,rfl,HSB.out⟩
   case round=>
    obtain ⟨i,hi,rfl,hS⟩:=hrel
    have HSI:=Sd.m hS
    clear hS
    by_cases hlti:i<b.f1.length
    ·have c1:decide ((i:Int)<(b.f1.length:Int))=true:=dt__ (by omega)
     have c2:decide (i<b.f1.length)=true:=dt__ hlti
     have hp0:0<=(i:Int):=by omega
     have hp1:(i:Int)<(b.f1.length:Int):=by omega
     have w3:IntKind.i64.wrap ((i:Int)+1)=(i:Int)+1:=IntWalk.i64_in _ (by omega)
     obtain ⟨ar,A3,a3,A4,a4,A5,a5,A7,a7,A8,a8,A9,a9,rfl,k0,k1,k2,k3,k4,k5,k6,k7,k8,k9,k10,l3,g3,l4,g4,l5,g5,l7,g7,l8,g8,l9,g9⟩:=hm_ E1.out (i:Int) (by omega) (by omega)
     rw [Int.toNat_natCast] at k0 k1 k2 k3 k4 k5 k6 k7 k8 k9 k10
     have hel:b.f1[i]? =some (ca_ b.f1 (i:Int)):=by
      unfold ca_
      rw [Int.toNat_natCast,List.getD_eq_getElem?_getD,List.getElem?_eq_getElem hlti]
      rfl
     generalize ca_ b.f1 (i:Int)=r at k0 k1 k2 k3 k4 k5 k6 k7 k8 k9 k10 l3 g3 l4 g4 l5 g5 l7 g7 l8 g8 l9 g9 hel
     have cw:=fun (p:Addr) (v:Value) (h:w.cell? p=some v)=>(HSI.out.2.1.cell (bl__ w _ h)).trans h
     replace k0:=cw _ _ k0
     replace k1:=cw _ _ k1
     replace k2:=cw _ _ k2
     replace k3:=cw _ _ k3
     replace k4:=cw _ _ k4
     replace k5:=cw _ _ k5
     replace k6:=cw _ _ k6
     replace k7:=cw _ _ k7
     replace k8:=cw _ _ k8
     replace k9:=cw _ _ k9
     replace k10:=cw _ _ k10
     have hroom:=ju_ ruleF ruleN ruleF_len b.f1 i r hel xs
     have hrn:((b.f1.take i).foldl ruleF xs).length+(nodes r.f2+nodes r.f3)<=1000000:=by
      have h1:=HR.out
      have h2:=HN.out
      have h3:((b.f1.take i).foldl ruleF xs).length+(nodes r.f2+nodes r.f3)<=xs.length+bookN b:=hroom
      have h4:xs.length+bookN b<=0+(l.map bookN).sum:=h1
      omega
     have hwd:=HWD.out b (List.mem_of_getElem? HE.out) r (List.mem_of_getElem? hel)
     have HRN:=Sd.m hrn
     have HEL:=Sd.m hel
     have HWR:=Sd.m hwd
     have G2:=Sd.m (And.intro l3 (And.intro g3 (And.intro l5 g5)))
     have G3:=Sd.m (And.intro l7 (And.intro g7 (And.intro l9 g9)))
     have hsb:=SetAt.step HSI.out (ab_ (Below.refl wr.heap.size wr) (.cells #[.int .i64 r.f0,.bool r.f1,.int .i64 r.f2.f0,.slice A3 r.f2.f1.length a3,.slice A4 r.f2.f2.length a4,.slice A5 r.f2.f3.length a5,.int .i64 r.f3.f0,.slice A7 r.f3.f1.length a7,.slice A8 r.f3.f2.length a8,.slice A9 r.f3.f3.length a9,.int .i64 r.f4] 55))
     have hform:=fg_ w w.heap.size r.f2 _ _ hsb (by omega) HWR.out.1 A3 a3 A4 a4 A5 a5 l3 g3 l5 g5
     have HFM:=Sd.m hform
     clear hsb hform l3 g3 l4 g4 l5 g5 l7 g7 l8 g8 l9 g9 hroom hrn hwd hel cw
     go_wp2_with fail
     refine HFM.out.mono ?_
     rintro e V1 ⟨rfl,hS1,hK1⟩
     have hbox:V1.heap[wr.heap.size]? =some (.cells #[.int .i64 r.f0,.bool r.f1,.int .i64 r.f2.f0,.slice A3 r.f2.f1.length a3,.slice A4 r.f2.f2.length a4,.slice A5 r.f2.f3.length a5,.int .i64 r.f3.f0,.slice A7 r.f3.f1.length a7,.slice A8 r.f3.f2.length a8,.slice A9 r.f3.f3.length a9,.int .i64 r.f4] 55 (0,0)):=(hK1.2 wr.heap.size _ 55 (by decide) (by decide) (ah_ wr _)).trans (ah_ wr _)
     have n6:=bc_ hbox 6 rfl
     have n7:=bc_ hbox 7 rfl
     have n8:=bc_ hbox 8 rfl
     have n9:=bc_ hbox 9 rfl
     have hx2:(formF r.f2 ((b.f1.take i).foldl ruleF xs)).length+nodes r.f3<=1000000:=by
      have h1:=fv_ r.f2 ((b.f1.take i).foldl ruleF xs)
      have h2:=HRN.out
      omega
     have hform2:=fg_ w w.heap.size r.f3 _ _ hS1 hx2 HWR.out.2 A7 a7 A8 a8 A9 a9 G3.out.1 G3.out.2.1 G3.out.2.2.1 G3.out.2.2.2
     have HF2:=Sd.m hform2
     clear hform2 hx2 hS1 hK1 hbox k0 k1 k2 k3 k4 k5 k6 k7 k8 k9 k10
     go_wp2_with fail
     refine HF2.out.mono ?_
     rintro e V2 ⟨rfl,hS2,hK2⟩
     have HS2:=Sd.m hS2
     clear hS2 hK2 n6 n7 n8 n9
     go_wp2_with fail
     go_roundw
     case rel=>
      refine ⟨i+1,hlti,by go_num,?_⟩
      rw [List.take_add_one,HEL.out,List.foldl_append]
      exact HS2.out
     case measure=>simp [intOf];omega
    ·have c1:decide ((i:Int)<(b.f1.length:Int))=false:=df__ (by omega)
     have c2:decide (i<b.f1.length)=false:=df__ (by omega)
     go_wp2_with fail
     go_roundw
     case rel=>
      refine ⟨j+1,hlt,by go_num,?_⟩
      rw [List.take_add_one,HE.out,List.foldl_append,←HXS.out]
      have h:=HSI.out
      rw [List.take_of_length_le (by omega)] at h
      exact h
     case measure=>simp [intOf];omega
  ·have b1:decide ((j:Int)<(l.length:Int))=false:=df__ (by omega)
   have b2:decide (j<l.length)=false:=df__ hlt
   have hS:=HS.out
   rw [List.take_of_length_le (by omega)] at hS
   obtain ⟨A,c,hv,hh,hll,hr⟩:=hS.boxed
   have hcell:=hv.cell
   have HB:=Sd.m hS.2.1
   have HAT:=Sd.m (et_.calls A c (booksF l) r0 r1 wr hr hll HOF.out)
   have hA:(List.foldl bookF [] l)=booksF l:=rfl
   rw [hA] at hcell
   clear hS hv hh hll hr hA
   go_wp2_with fail
   refine HAT.out.mono ?_
   rintro e V ⟨v,rfl,hN,hb⟩
   obtain ⟨An,cn,rfl⟩:=N_slice hN
   have HNN:=Sd.m hN
   have HBB:=Sd.m hb
   clear hN hb hcell
   go_wp2_with fail
   go_ret2
   exact ⟨_,rfl,N_mono (N_lower HNN.out HB.out.size) (fun k hk=>Nat.le_trans HB.out.size hk),HB.out.trans (HBB.out.mono HB.out.size)⟩
theorem nw_step (p:S85)(ih: ∀ q∈p.f4,∀ (W:World) (A4:Option Addr) (c4:Nat) (l4:q.f4.length<=c4) (h4:Kd.C k85 W A4 q.f4.length q.f4) (d:Int),Calls Tryz.prog 72 #[.agg #[.int .i64 q.f0,.string q.f1,.int .i64 q.f2,.int .i64 q.f3,.slice A4 q.f4.length c4],.int .i64 d] W fun e w'=>(∃ z,e=.returned (.int .i64 z))∧Below W.heap.size W w'): ∀ (W:World) (A4:Option Addr) (c4:Nat) (l4:p.f4.length<=c4) (h4:Kd.C k85 W A4 p.f4.length p.f4) (d:Int),Calls Tryz.prog 72 #[.agg #[.int .i64 p.f0,.string p.f1,.int .i64 p.f2,.int .i64 p.f3,.slice A4 p.f4.length c4],.int .i64 d] W fun e w'=>(∃ z,e=.returned (.int .i64 z))∧Below W.heap.size W w':=by
 intro W A4 c4 l4 h4 d
 obtain ⟨W2,hW2⟩: ∃ W_,W_=W.alloc (.cells #[.int .i64 p.f0,.string p.f1,.int .i64 p.f2,.int .i64 p.f3,.slice A4 p.f4.length c4] 85):=⟨_,rfl⟩
 have hb2:Below W.heap.size W W2:=by rw [hW2];exact ab_ (Below.refl _ _) _
 have hx2:W2.heap[W.heap.size]? =some (.cells #[.int .i64 p.f0,.string p.f1,.int .i64 p.f2,.int .i64 p.f3,.slice A4 p.f4.length c4] 85 (0,0)):=by rw [hW2];exact ah_ W _
 have x1:=bc_ hx2 1 rfl
 have HA:=Sd.m h4
 have HIH:=Sd.m ih
 have HX2:=Sd.m hx2
 have HB2:=Sd.m hb2
 have HW2:=Sd.m hW2
 have HM:p.f4.length<=9223372036854775807:=Kd.C_max h4
 clear hb2 hx2 hW2 h4 ih
 go_enter Tryz.func72,Tryz.ntmps72
 by_cases hd:d>100
 ·have d1:decide (d>100)=true:=dt__ hd
  have d2:decide (100<d)=true:=dt__ hd
  clear hd
  go_wp2_with fail
  rw [←HW2.out]
  go_ret
  exact ⟨⟨_,rfl⟩,HB2.out⟩
 have d1:decide (d>100)=false:=df__ hd
 have d2:decide (100<d)=false:=df__ hd
 clear hd
 go_wp2_with fail
 rw [←HW2.out]
 clear x1
 generalize hs0:IntKind.i64.wrap (1+(p.f1.size:Int))=s0
 clear hs0
 go_loopw [5,6] (fun s u Wx=>(∃ z,s=.int .i64 z)∧ ∃ j:Nat,j<=p.f4.length∧u=.int .i64 j∧Below W.heap.size W Wx∧Wx.heap[W.heap.size]? =some (.cells #[.int .i64 p.f0,.string p.f1,.int .i64 p.f2,.int .i64 p.f3,.slice A4 p.f4.length c4] 85 (0,0))) (fun _ u _=>p.f4.length - (intOf u).toNat)
 case atStart=>exact ⟨⟨_,rfl⟩,0,Nat.zero_le _,rfl,HB2.out,HX2.out⟩
 case round=>
  obtain ⟨⟨s,rfl⟩,j,hj,rfl,hb,hx⟩:=hrel
  have x4:=bc_ hx 4 rfl
  by_cases hlt:j<p.f4.length
  ·have b1:decide ((j:Int)<(p.f4.length:Int))=true:=dt__ (by omega)
   have b2:decide (j<p.f4.length)=true:=dt__ hlt
   by_cases hs:s<=2000
   ·have s1:decide (s<=2000)=true:=dt__ hs
    have hq0:0<=(j:Int):=by omega
    have hq1:(j:Int)<(p.f4.length:Int):=by omega
    have w2:IntKind.i64.wrap ((j:Int)+1)=(j:Int)+1:=IntWalk.i64_in _ (by omega)
    obtain ⟨aa,E4,e4,rfl,i0,i1,i2,i3,i4,n4,o4⟩:=at_T85 (Kd.C_below HA.out hb) (j:Int) (by omega) (by omega)
    rw [Int.toNat_natCast] at i0 i1 i2 i3 i4
    have hmem:bs_ p.f4 (j:Int)∈p.f4:=by
     unfold bs_
     rw [Int.toNat_natCast,List.getD_eq_getElem?_getD,List.getElem?_eq_getElem hlt]
     exact List.getElem_mem hlt
    generalize bs_ p.f4 (j:Int)=q at i0 i1 i2 i3 i4 n4 o4 hmem
    have HC:=Sd.m (HIH.out q hmem wr E4 e4 n4 o4)
    have HB:=Sd.m hb
    have HX:=Sd.m hx
    clear hb hx n4 o4 hmem hs
    go_wp2_with fail
    refine (HC.out _).mono ?_
    rintro e V ⟨⟨z,rfl⟩,hb⟩
    have HBV:=Sd.m (HB.out.trans (hb.mono HB.out.size))
    have HXV:=Sd.m (ae_ HX.out hb)
    clear hb i0 i1 i2 i3 i4 x4
    go_wp2_with fail
    go_roundw
    case rel=>exact ⟨⟨_,rfl⟩,j+1,hlt,by go_num,HBV.out,HXV.out⟩
    case measure=>simp [intOf];omega
   ·have s1:decide (s<=2000)=false:=df__ hs
    have HB:=Sd.m hb
    clear hb hx hs
    go_wp2_with fail
    go_ret
    exact ⟨⟨_,rfl⟩,HB.out⟩
  ·have b1:decide ((j:Int)<(p.f4.length:Int))=false:=df__ (by omega)
   have b2:decide (j<p.f4.length)=false:=df__ hlt
   have HB:=Sd.m hb
   clear hb hx
   go_wp2_with fail
   go_ret
   exact ⟨⟨_,rfl⟩,HB.out⟩
theorem ku_ (p:S85): ∀ (W:World) (A4:Option Addr) (c4:Nat) (l4:p.f4.length<=c4) (h4:Kd.C k85 W A4 p.f4.length p.f4) (d:Int),Calls Tryz.prog 72 #[.agg #[.int .i64 p.f0,.string p.f1,.int .i64 p.f2,.int .i64 p.f3,.slice A4 p.f4.length c4],.int .i64 d] W fun e w'=>(∃ z,e=.returned (.int .i64 z))∧Below W.heap.size W w':=nw_step p fun q hq=>ku_ q
termination_by SizeOf.sizeOf p
decreasing_by
 have:=List.sizeOf_lt_of_mem hq
 cases p
 simp at*
 omega
theorem ig_calls (l:List S87)(m:Int)(W:World)(A:Option Addr)(c:Nat)(hc:l.length<=c)(hA:Kd.C k87 W A l.length l):Calls Tryz.prog 41 #[.slice A l.length c,.int .i64 m] W fun e w'=>(∃ b,e=.returned (.bool b))∧Below W.heap.size W w':=by
 have HM:l.length<=9223372036854775807:=Kd.C_max hA
 have HA:=Sd.m hA
 clear hA
 go_enter Tryz.func41,Tryz.ntmps41
 go_wp2_with fail
 go_loopw [5,6] (fun s u Wx=>(∃ z,s=.int .i64 z)∧ ∃ j:Nat,j<=l.length∧u=.int .i64 j∧Below W.heap.size W Wx) (fun _ u _=>l.length - (intOf u).toNat)
 case atStart=>exact ⟨⟨_,rfl⟩,0,Nat.zero_le _,rfl,Below.refl _ _⟩
 case round=>
  obtain ⟨⟨s,rfl⟩,j,hj,rfl,hb⟩:=hrel
  by_cases hlt:j<l.length
  ·have b1:decide ((j:Int)<(l.length:Int))=true:=dt__ (by omega)
   have b2:decide (j<l.length)=true:=dt__ hlt
   by_cases hs:s<=m
   ·have s1:decide (s<=m)=true:=dt__ hs
    have hq0:0<=(j:Int):=by omega
    have hq1:(j:Int)<(l.length:Int):=by omega
    have w2:IntKind.i64.wrap ((j:Int)+1)=(j:Int)+1:=IntWalk.i64_in _ (by omega)
    obtain ⟨Vd,hVd⟩: ∃ W_,W_=wr.drew:=⟨_,rfl⟩
    have hbd:Below wr.heap.size wr Vd:=by rw [hVd];exact bq_ (Below.refl _ _)
    have hbD:=hb.trans (hbd.mono hb.size)
    obtain ⟨ad,E8,e8,E13,e13,rfl,i0,i1,i2,i3,i4,i5,i6,i7,i8,i9,i10,i11,i12,i13,i14,n8,o8,n13,o13⟩:=at_T87 (Kd.C_below HA.out hbD) (j:Int) (by omega) (by omega)
    rw [Int.toNat_natCast] at i1 i4 i5 i6 i7 i8 i9 i10 i11 i12 i13
    generalize al_ l (j:Int)=x at*
    have HN1:Sd (∀ V,Below Vd.heap.size Vd V->Calls Tryz.prog 72 #[.agg #[.int .i64 x.f4.f0,.string x.f4.f1,.int .i64 x.f4.f2,.int .i64 x.f4.f3,.slice E8 x.f4.f4.length e8],.int .i64 0] V fun e w'=>(∃ z,e=.returned (.int .i64 z))∧Below V.heap.size V w'):=⟨fun V hV=>ku_ x.f4 V E8 e8 n8 (Kd.C_below o8 hV) 0⟩
    have HN2:Sd (∀ V,Below Vd.heap.size Vd V->Calls Tryz.prog 72 #[.agg #[.int .i64 x.f5.f0,.string x.f5.f1,.int .i64 x.f5.f2,.int .i64 x.f5.f3,.slice E13 x.f5.f4.length e13],.int .i64 0] V fun e w'=>(∃ z,e=.returned (.int .i64 z))∧Below V.heap.size V w'):=⟨fun V hV=>ku_ x.f5 V E13 e13 n13 (Kd.C_below o13 hV) 0⟩
    have HS:Sd (∀ w',Below Vd.heap.size Vd w'->w'.cell? ⟨(ad.add (j*15)).block,(ad.add (j*15)).off+1,none⟩=some (.string x.f1)∧w'.cell? ⟨(ad.add (j*15)).block,(ad.add (j*15)).off+4,none⟩=some (.int .i64 x.f4.f0)∧w'.cell? ⟨(ad.add (j*15)).block,(ad.add (j*15)).off+5,none⟩=some (.string x.f4.f1)∧w'.cell? ⟨(ad.add (j*15)).block,(ad.add (j*15)).off+6,none⟩=some (.int .i64 x.f4.f2)∧w'.cell? ⟨(ad.add (j*15)).block,(ad.add (j*15)).off+7,none⟩=some (.int .i64 x.f4.f3)∧w'.cell? ⟨(ad.add (j*15)).block,(ad.add (j*15)).off+8,none⟩=some (.slice E8 x.f4.f4.length e8)∧w'.cell? ⟨(ad.add (j*15)).block,(ad.add (j*15)).off+9,none⟩=some (.int .i64 x.f5.f0)∧w'.cell? ⟨(ad.add (j*15)).block,(ad.add (j*15)).off+10,none⟩=some (.string x.f5.f1)∧w'.cell? ⟨(ad.add (j*15)).block,(ad.add (j*15)).off+11,none⟩=some (.int .i64 x.f5.f2)∧w'.cell? ⟨(ad.add (j*15)).block,(ad.add (j*15)).off+12,none⟩=some (.int .i64 x.f5.f3)∧w'.cell? ⟨(ad.add (j*15)).block,(ad.add (j*15)).off+13,none⟩=some (.slice E13 x.f5.f4.length e13)):=by
     refine ⟨fun w' hw=>?_⟩
     have cw:=fun (a:Addr) (v:Value) (h:Vd.cell? a=some v)=>(hw.cell (bl__ Vd _ h)).trans h
     exact ⟨cw _ _ i1,cw _ _ i4,cw _ _ i5,cw _ _ i6,cw _ _ i7,cw _ _ i8,cw _ _ i9,cw _ _ i10,cw _ _ i11,cw _ _ i12,cw _ _ i13⟩
    have BD:=Sd.m (Below.refl Vd.heap.size Vd)
    have HBD:=Sd.m hbD
    clear hb hbd hbD i0 i1 i2 i3 i4 i5 i6 i7 i8 i9 i10 i11 i12 i13 i14 n8 o8 n13 o13 hs
    go_upto_region 5 with fail
    refine start_ (n:=23) (S:=fun w'=>w'.cell? ⟨(ad.add (j*15)).block,(ad.add (j*15)).off+1,none⟩=some (.string x.f1)∧w'.cell? ⟨(ad.add (j*15)).block,(ad.add (j*15)).off+4,none⟩=some (.int .i64 x.f4.f0)∧w'.cell? ⟨(ad.add (j*15)).block,(ad.add (j*15)).off+5,none⟩=some (.string x.f4.f1)∧w'.cell? ⟨(ad.add (j*15)).block,(ad.add (j*15)).off+6,none⟩=some (.int .i64 x.f4.f2)∧w'.cell? ⟨(ad.add (j*15)).block,(ad.add (j*15)).off+7,none⟩=some (.int .i64 x.f4.f3)∧w'.cell? ⟨(ad.add (j*15)).block,(ad.add (j*15)).off+8,none⟩=some (.slice E8 x.f4.f4.length e8)∧w'.cell? ⟨(ad.add (j*15)).block,(ad.add (j*15)).off+9,none⟩=some (.int .i64 x.f5.f0)∧w'.cell? ⟨(ad.add (j*15)).block,(ad.add (j*15)).off+10,none⟩=some (.string x.f5.f1)∧w'.cell? ⟨(ad.add (j*15)).block,(ad.add (j*15)).off+11,none⟩=some (.int .i64 x.f5.f2)∧w'.cell? ⟨(ad.add (j*15)).block,(ad.add (j*15)).off+12,none⟩=some (.int .i64 x.f5.f3)∧w'.cell? ⟨(ad.add (j*15)).block,(ad.add (j*15)).off+13,none⟩=some (.slice E13 x.f5.f4.length e13)) (ds:=[]) #[false,false,false,false,false,false,false,false,false,false,false,false,false,false,false,false,false,false,false,false,false,false,false] (by kernel_rfl) rfl rfl (by rw [←hVd];exact (HS.out _ (Below.refl _ _))) (fun hHeld=>?_)
    rw [←hVd] at hHeld ⊢
    clear hVd
    refine pu_ 0 20 ?_
    refine pu_ 1 21 ?_
    refine pu_ 2 22 ?_
    refine pu_ 3 23 ?_
    refine pu_ 4 24 ?_
    refine pu_ 8 28 ?_
    refine pu_ 9 29 ?_
    refine pu_ 10 30 ?_
    refine pu_ 11 31 ?_
    refine pu_ 15 35 ?_
    refine pu_ 16 36 ?_
    refine pu_ 17 37 ?_
    refine pu_ 18 38 ?_
    refine ta_ 5 25 hHeld ?_
    refine pu_ 6 26 ?_
    refine pu_ 7 27 ?_
    refine ta_ 12 32 hHeld ?_
    refine ta_ 19 39 hHeld ?_
    refine on_ 13 33 (fun K hK=>?_)
    refine goes_ Tryz.func72 (by kernel_rfl) rfl #[.agg #[.int .i64 x.f4.f0,.string x.f4.f1,.int .i64 x.f4.f2,.int .i64 x.f4.f3,.slice E8 x.f4.f4.length e8],.int .i64 0] (by rfl) rfl rfl (by simp only [List.map_toArray,List.map_cons,List.map_nil];rfl) ?_
    with_reducible refine (HN1.out Vd BD.out).mono ?_
    rintro e_ U1 ⟨⟨z1,rfl⟩,hb_⟩
    refine ⟨_,rfl,?_⟩
    have BU1:=Sd.m (BD.out.trans ((hb_).mono BD.out.size))
    clear hb_
    refine hK.out _ _ (HS.out _ BU1.out) (fun hHeld=>?_)
    clear hK K
    refine no_ 33 ?_
    refine pu_ 14 34 ?_
    refine on_ 20 40 (fun K hK=>?_)
    refine goes_ Tryz.func72 (by kernel_rfl) rfl #[.agg #[.int .i64 x.f5.f0,.string x.f5.f1,.int .i64 x.f5.f2,.int .i64 x.f5.f3,.slice E13 x.f5.f4.length e13],.int .i64 0] (by rfl) rfl rfl (by simp only [List.map_toArray,List.map_cons,List.map_nil];rfl) ?_
    with_reducible refine (HN2.out U1 BU1.out).mono ?_
    rintro e_ U2 ⟨⟨z2,rfl⟩,hb_⟩
    refine ⟨_,rfl,?_⟩
    have BU2:=Sd.m (BU1.out.trans ((hb_).mono BU1.out.size))
    clear hb_
    refine hK.out _ _ (HS.out _ BU2.out) (fun hHeld=>?_)
    clear hK K
    refine no_ 40 ?_
    refine pu_ 21 41 ?_
    refine pu_ 22 5 ?_
    refine done_ (by kernel_rfl) ?_
    go_wp2_with fail
    go_roundw
    case rel=>exact ⟨⟨_,rfl⟩,j+1,hlt,by go_num,HBD.out.trans (BU2.out.mono HBD.out.size)⟩
    case measure=>simp [intOf];omega
   ·have s1:decide (s<=m)=false:=df__ hs
    have HB:=Sd.m hb
    clear hb hs
    go_wp2_with fail
    go_ret
    exact ⟨⟨_,rfl⟩,HB.out⟩
  ·have b1:decide ((j:Int)<(l.length:Int))=false:=df__ (by omega)
   have b2:decide (j<l.length)=false:=df__ hlt
   have HB:=Sd.m hb
   clear hb
   go_wp2_with fail
   go_ret
   exact ⟨⟨_,rfl⟩,HB.out⟩
theorem vg_calls (l:List S93)(hl: ∀ v∈l,X.SmallP v.f1)(m:Int)(W:World)(A:Option Addr)(c:Nat)(hc:l.length<=c)(hA:Kd.C k93 W A l.length l):Calls Tryz.prog 40 #[.slice A l.length c,.int .i64 m] W fun e w'=>(∃ b,e=.returned (.bool b))∧Below W.heap.size W w':=by
 have HM:l.length<=9223372036854775807:=Kd.C_max hA
 have HA:=Sd.m hA
 have HL:=Sd.m hl
 clear hA hl
 go_enter Tryz.func40,Tryz.ntmps40
 go_wp2_with fail
 go_loopw [5,6] (fun s u Wx=>(∃ z,s=.int .i64 z)∧ ∃ j:Nat,j<=l.length∧u=.int .i64 j∧Below W.heap.size W Wx) (fun _ u _=>l.length - (intOf u).toNat)
 case atStart=>exact ⟨⟨_,rfl⟩,0,Nat.zero_le _,rfl,Below.refl _ _⟩
 case round=>
  obtain ⟨⟨s,rfl⟩,j,hj,rfl,hb⟩:=hrel
  by_cases hlt:j<l.length
  ·have b1:decide ((j:Int)<(l.length:Int))=true:=dt__ (by omega)
   have b2:decide (j<l.length)=true:=dt__ hlt
   by_cases hs:s<=m
   ·have s1:decide (s<=m)=true:=dt__ hs
    have hq0:0<=(j:Int):=by omega
    have hq1:(j:Int)<(l.length:Int):=by omega
    have w2:IntKind.i64.wrap ((j:Int)+1)=(j:Int)+1:=IntWalk.i64_in _ (by omega)
    obtain ⟨Vd,hVd⟩: ∃ W_,W_=wr.drew:=⟨_,rfl⟩
    have hbd:Below wr.heap.size wr Vd:=by rw [hVd];exact bq_ (Below.refl _ _)
    have hbD:=hb.trans (hbd.mono hb.size)
    obtain ⟨ad,E2,e2,E3,e3,E4,e4,rfl,i0,i1,i2,i3,i4,i5,i6,n2,o2,n3,o3,n4,o4⟩:=at_T93 (Kd.C_below HA.out hbD) (j:Int) (by omega) (by omega)
    rw [Int.toNat_natCast] at i0 i1 i2 i3 i4
    have hsm:X.SmallP (dg_ l (j:Int)).f1:=by
     unfold dg_
     rw [Int.toNat_natCast,List.getD_eq_getElem?_getD,List.getElem?_eq_getElem hlt]
     exact HL.out _ (List.getElem_mem hlt)
    generalize dg_ l (j:Int)=x at*
    obtain ⟨wt,hwt,_⟩:=gs_ x.f1 hsm 0 (by decide) (by decide)
    obtain ⟨kw,hkw⟩:=hwt.rounds
    have HN1:Sd (∀ V,Below Vd.heap.size Vd V->Calls Tryz.prog 17 #[.agg #[.int .i64 x.f1.f0,.slice E2 x.f1.f1.length e2,.slice E3 x.f1.f2.length e3,.slice E4 x.f1.f3.length e4],.int .i64 0] V fun e w'=>e=.returned (.int .i64 wt)∧Below V.heap.size V w'):=⟨fun V hV=>an_.calls kw x.f1.f0 E2 e2 x.f1.f1 E3 e3 x.f1.f2 E4 e4 x.f1.f3 0 wt V (Kd.C_below o2 hV) n2 (Kd.C_below o3 hV) n3 (Kd.C_below o4 hV) n4 hkw⟩
    have HS:Sd (∀ w',Below Vd.heap.size Vd w'->w'.cell? (ad.add (j*7))=some (.string x.f0)∧w'.cell? ⟨(ad.add (j*7)).block,(ad.add (j*7)).off+1,none⟩=some (.int .i64 x.f1.f0)∧w'.cell? ⟨(ad.add (j*7)).block,(ad.add (j*7)).off+2,none⟩=some (.slice E2 x.f1.f1.length e2)∧w'.cell? ⟨(ad.add (j*7)).block,(ad.add (j*7)).off+3,none⟩=some (.slice E3 x.f1.f2.length e3)∧w'.cell? ⟨(ad.add (j*7)).block,(ad.add (j*7)).off+4,none⟩=some (.slice E4 x.f1.f3.length e4)):=by
     refine ⟨fun w' hw=>?_⟩
     have cw:=fun (a:Addr) (v:Value) (h:Vd.cell? a=some v)=>(hw.cell (bl__ Vd _ h)).trans h
     exact ⟨cw _ _ i0,cw _ _ i1,cw _ _ i2,cw _ _ i3,cw _ _ i4⟩
    have BD:=Sd.m (Below.refl Vd.heap.size Vd)
    have HBD:=Sd.m hbD
    clear hb hbd hbD i0 i1 i2 i3 i4 i5 i6 n2 o2 n3 o3 n4 o4 hs hsm hwt hkw
    go_upto_region 5 with fail
    refine start_ (n:=16) (S:=fun w'=>w'.cell? (ad.add (j*7))=some (.string x.f0)∧w'.cell? ⟨(ad.add (j*7)).block,(ad.add (j*7)).off+1,none⟩=some (.int .i64 x.f1.f0)∧w'.cell? ⟨(ad.add (j*7)).block,(ad.add (j*7)).off+2,none⟩=some (.slice E2 x.f1.f1.length e2)∧w'.cell? ⟨(ad.add (j*7)).block,(ad.add (j*7)).off+3,none⟩=some (.slice E3 x.f1.f2.length e3)∧w'.cell? ⟨(ad.add (j*7)).block,(ad.add (j*7)).off+4,none⟩=some (.slice E4 x.f1.f3.length e4)) (ds:=[]) #[false,false,false,false,false,false,false,false,false,false,false,false,false,false,false,false] (by kernel_rfl) rfl rfl (by rw [←hVd];exact (HS.out _ (Below.refl _ _))) (fun hHeld=>?_)
    rw [←hVd] at hHeld ⊢
    clear hVd
    refine pu_ 0 20 ?_
    refine pu_ 1 21 ?_
    refine pu_ 2 22 ?_
    refine pu_ 3 23 ?_
    refine pu_ 4 24 ?_
    refine pu_ 8 28 ?_
    refine pu_ 9 29 ?_
    refine pu_ 10 30 ?_
    refine pu_ 11 31 ?_
    refine ta_ 5 25 hHeld ?_
    refine pu_ 6 26 ?_
    refine pu_ 7 27 ?_
    refine ta_ 12 32 hHeld ?_
    refine on_ 13 33 (fun K hK=>?_)
    refine goes_ Tryz.func17 (by kernel_rfl) rfl #[.agg #[.int .i64 x.f1.f0,.slice E2 x.f1.f1.length e2,.slice E3 x.f1.f2.length e3,.slice E4 x.f1.f3.length e4],.int .i64 0] (by rfl) rfl rfl (by simp only [List.map_toArray,List.map_cons,List.map_nil];rfl) ?_
    with_reducible refine (HN1.out Vd BD.out).mono ?_
    rintro e_ U1 ⟨rfl,hb_⟩
    refine ⟨_,rfl,?_⟩
    have BU1:=Sd.m (BD.out.trans ((hb_).mono BD.out.size))
    clear hb_
    refine hK.out _ _ (HS.out _ BU1.out) (fun hHeld=>?_)
    clear hK K
    refine no_ 33 ?_
    refine pu_ 14 34 ?_
    refine pu_ 15 5 ?_
    refine done_ (by kernel_rfl) ?_
    go_wp2_with fail
    go_roundw
    case rel=>exact ⟨⟨_,rfl⟩,j+1,hlt,by go_num,HBD.out.trans (BU1.out.mono HBD.out.size)⟩
    case measure=>simp [intOf];omega
   ·have s1:decide (s<=m)=false:=df__ hs
    have HB:=Sd.m hb
    clear hb hs
    go_wp2_with fail
    go_ret
    exact ⟨⟨_,rfl⟩,HB.out⟩
  ·have b1:decide ((j:Int)<(l.length:Int))=false:=df__ (by omega)
   have b2:decide (j<l.length)=false:=df__ hlt
   have HB:=Sd.m hb
   clear hb
   go_wp2_with fail
   go_ret
   exact ⟨⟨_,rfl⟩,HB.out⟩
def ruleM (r:S55):Nat:=mass r.f2+mass r.f3
theorem bg_calls (b:S27)(hsm:X.SmallB b)(m:Int)(hm:0<=m∧m<=1000)(W:World)(A0:Option Addr)(c0:Nat)(A1:Option Addr)(c1:Nat)(A2:Option Addr)(c2:Nat)(A3:Option Addr)(c3:Nat)(l0:b.f0.length<=c0)(g0:Kd.C k93 W A0 b.f0.length b.f0)(l1:b.f1.length<=c1)(g1:Kd.C k55 W A1 b.f1.length b.f1)(l2:b.f2.length<=c2)(g2:Kd.C k87 W A2 b.f2.length b.f2)(l3:b.f3.length<=c3)(g3:Kd.C Kd.string W A3 b.f3.length b.f3):
  Calls Tryz.prog 10 #[.agg #[.slice A0 b.f0.length c0,.slice A1 b.f1.length c1,.slice A2 b.f2.length c2,.slice A3 b.f3.length c3],.int .i64 m] W fun e w'=>(∃ r,e=.returned (.bool r)∧(r=false->((b.f1.length+(b.f1.map ruleM).sum:Nat):Int)<=m))∧Below W.heap.size W w':=by
 obtain ⟨⟨_,hv⟩,⟨hr0,hr⟩,_,⟨hu0,hu⟩⟩:=hsm
 have hr0':b.f1.length<=140737488355328:=hr0
 have hu0':b.f3.length<=140737488355328:=hu0
 obtain ⟨W2,hW2⟩: ∃ W_,W_=W.alloc (.cells #[.slice A0 b.f0.length c0,.slice A1 b.f1.length c1,.slice A2 b.f2.length c2,.slice A3 b.f3.length c3] 27):=⟨_,rfl⟩
 have hb2:Below W.heap.size W W2:=by rw [hW2];exact ab_ (Below.refl _ _) _
 have hx2:W2.heap[W.heap.size]? =some (.cells #[.slice A0 b.f0.length c0,.slice A1 b.f1.length c1,.slice A2 b.f2.length c2,.slice A3 b.f3.length c3] 27 (0,0)):=by rw [hW2];exact ah_ W _
 have x1:=bc_ hx2 1 rfl
 have x3:=bc_ hx2 3 rfl
 have HG0:=Sd.m (And.intro l0 g0)
 have HG1:=Sd.m g1
 have HG2:=Sd.m (And.intro l2 g2)
 have HG3:=Sd.m g3
 have HV:=Sd.m (fun v hv'=>(hv v hv').2)
 have HRS:=Sd.m hr
 have HUS:=Sd.m hu
 have HX2:=Sd.m hx2
 have HB2:=Sd.m hb2
 have HW2:=Sd.m hW2
 have HMM:=Sd.m hm
 clear hb2 hx2 hW2 g0 g1 g2 g3 l0 l2 hv hr0 hr hu0 hu hm
 have ws:IntKind.i64.wrap ((b.f1.length:Int)+(b.f3.length:Int))=(b.f1.length:Int)+(b.f3.length:Int):=IntWalk.i64_in _ (by omega)
 go_enter Tryz.func10,Tryz.ntmps10
 go_wp2_with fail
 rw [←HW2.out]
 clear x1 x3 ws
 go_loopw [5,6] (fun s u Wx=>(∃ z:Int,s=.int .i64 z∧(b.f1.length:Int)<=z∧z<=600000000000000)∧ ∃ j:Nat,j<=b.f3.length∧u=.int .i64 j∧Below W.heap.size W Wx∧Wx.heap[W.heap.size]? =some (.cells #[.slice A0 b.f0.length c0,.slice A1 b.f1.length c1,.slice A2 b.f2.length c2,.slice A3 b.f3.length c3] 27 (0,0))) (fun _ u _=>b.f3.length - (intOf u).toNat)
 case atStart=>exact ⟨⟨_,rfl,by omega,by omega⟩,0,Nat.zero_le _,rfl,HB2.out,HX2.out⟩
 case round=>
  obtain ⟨⟨s,rfl,hs0,hs1⟩,j,hj,rfl,hb,hx⟩:=hrel
  have x3:=bc_ hx 3 rfl
  by_cases hlt:j<b.f3.length∧s<=m
  ·have b1:decide ((j:Int)<(b.f3.length:Int))=true:=dt__ (by omega)
   have b2:decide (j<b.f3.length)=true:=dt__ hlt.1
   have s1:decide (s<=m)=true:=dt__ hlt.2
   have hq0:0<=(j:Int):=by omega
   have hq1:(j:Int)<(b.f3.length:Int):=by omega
   have w2:IntKind.i64.wrap ((j:Int)+1)=(j:Int)+1:=IntWalk.i64_in _ (by omega)
   obtain ⟨aa,rfl,i0⟩:=Kd.fh_ (Kd.C_below HG3.out hb) (j:Int) (by omega) (by omega)
   rw [Int.toNat_natCast] at i0
   have hsz:(rdOf ByteArray.empty b.f3 (j:Int)).size<=140737488355328:=by
    unfold rdOf
    rw [Int.toNat_natCast,List.getD_eq_getElem?_getD,List.getElem?_eq_getElem hlt.1]
    exact HUS.out _ (List.getElem_mem hlt.1)
   generalize rdOf ByteArray.empty b.f3 (j:Int)=x at i0 hsz
   have w3:IntKind.i64.wrap (s+(x.size:Int))=s+(x.size:Int):=IntWalk.i64_in _ (by have:=HMM.out;omega)
   have HB:=Sd.m hb
   have HX:=Sd.m hx
   clear hb hx
   go_wp2_with fail
   go_roundw
   case rel=>exact ⟨⟨_,rfl,by omega,by have:=HMM.out;omega⟩,j+1,hlt.1,by go_num,HB.out,HX.out⟩
   case measure=>simp [intOf];omega
  ·have HB:=Sd.m hb
   have HX:=Sd.m hx
   clear hb hx
   go_upto_region 3 with fail
   go_cut [24] (fun v Wx=>v=.bool false∧Wx=wr)
   case first=>
    by_cases hl:j<b.f3.length
    ·have b1:decide ((j:Int)<(b.f3.length:Int))=true:=dt__ (by omega)
     have b2:decide (j<b.f3.length)=true:=dt__ hl
     have s1:decide (s<=m)=false:=df__ fun h=>hlt ⟨hl,h⟩
     go_wp2_with fail
     go_meet
     case rel=>exact ⟨rfl,rfl⟩
    ·have b1:decide ((j:Int)<(b.f3.length:Int))=false:=df__ (by omega)
     have b2:decide (j<b.f3.length)=false:=df__ hl
     go_wp2_with fail
     go_meet
     case rel=>exact ⟨rfl,rfl⟩
   case rest=>
    obtain ⟨rfl,rfl⟩:=hcut
    clear x3 hlt
    go_wp2_with fail
    go_loopw [5,7] (fun s u Wx=> ∃ (z:Int) (j:Nat),s=.int .i64 z∧j<=b.f1.length∧u=.int .i64 j∧0<=z∧z<=1000000000000000∧(z<=1000->((b.f1.length+((b.f1.take j).map ruleM).sum:Nat):Int)<=z)∧Below W.heap.size W Wx∧Wx.heap[W.heap.size]? =some (.cells #[.slice A0 b.f0.length c0,.slice A1 b.f1.length c1,.slice A2 b.f2.length c2,.slice A3 b.f3.length c3] 27 (0,0))) (fun _ u _=>b.f1.length - (intOf u).toNat)
    case atStart=>exact ⟨s,0,rfl,Nat.zero_le _,rfl,by omega,by omega,fun _=>by simpa using hs0,HB.out,HX.out⟩
    case round=>
     clear HB HX hs0 hs1 hj
     obtain ⟨z,k,rfl,hk,rfl,hz0,hz1,hz,hb,hx⟩:=hrel
     have HZ:=Sd.m hz
     clear hz
     have x1:=bc_ hx 1 rfl
     by_cases hlt:k<b.f1.length∧z<=m
     ·have b1:decide ((k:Int)<(b.f1.length:Int))=true:=dt__ (by omega)
      have b2:decide (k<b.f1.length)=true:=dt__ hlt.1
      have s1:decide (z<=m)=true:=dt__ hlt.2
      have hq0:0<=(k:Int):=by omega
      have hq1:(k:Int)<(b.f1.length:Int):=by omega
      have w2:IntKind.i64.wrap ((k:Int)+1)=(k:Int)+1:=IntWalk.i64_in _ (by omega)
      go_wp2_with fail
      clear x1
      obtain ⟨Vd,hVd⟩: ∃ W_,W_=wr.drew:=⟨_,rfl⟩
      have hbd:Below wr.heap.size wr Vd:=by rw [hVd];exact bq_ (Below.refl _ _)
      have hbD:=hb.trans (hbd.mono hb.size)
      obtain ⟨ad,E3,e3,E4,e4,E5,e5,E7,e7,E8,e8,E9,e9,ead,i0,i1,i2,i3,i4,i5,i6,i7,i8,i9,i10,n3,o3,n4,o4,n5,o5,n7,o7,n8,o8,n9,o9⟩:=hm_ (Kd.C_below HG1.out hbD) (k:Int) (by omega) (by omega)
      subst ead
      rw [Int.toNat_natCast] at i2 i3 i4 i5 i6 i7 i8 i9
      have hel:b.f1[k]? =some (ca_ b.f1 (k:Int)):=by
       unfold ca_
       rw [Int.toNat_natCast,List.getD_eq_getElem?_getD,List.getElem?_eq_getElem hlt.1]
       rfl
      have hsm:=HRS.out _ (List.mem_of_getElem? hel)
      generalize ca_ b.f1 (k:Int)=x at*
      obtain ⟨t1,ht1,p1,q1,r1⟩:=gs_ x.f2 hsm.1 0 (by decide) (by decide)
      obtain ⟨k1,hk1⟩:=ht1.rounds
      obtain ⟨t2,ht2,p2,q2,r2⟩:=gs_ x.f3 hsm.2 0 (by decide) (by decide)
      obtain ⟨k2,hk2⟩:=ht2.rounds
      have w3:IntKind.i64.wrap (z+t1)=z+t1:=IntWalk.i64_in _ (by have:=HMM.out;omega)
      have w4:IntKind.i64.wrap (z+t1+t2)=z+t1+t2:=IntWalk.i64_in _ (by have:=HMM.out;omega)
      have HN1:Sd (∀ V,Below Vd.heap.size Vd V->Calls Tryz.prog 17 #[.agg #[.int .i64 x.f2.f0,.slice E3 x.f2.f1.length e3,.slice E4 x.f2.f2.length e4,.slice E5 x.f2.f3.length e5],.int .i64 0] V fun e w'=>e=.returned (.int .i64 t1)∧Below V.heap.size V w'):=⟨fun V hV=>an_.calls k1 x.f2.f0 E3 e3 x.f2.f1 E4 e4 x.f2.f2 E5 e5 x.f2.f3 0 t1 V (Kd.C_below o3 hV) n3 (Kd.C_below o4 hV) n4 (Kd.C_below o5 hV) n5 hk1⟩
      have HN2:Sd (∀ V,Below Vd.heap.size Vd V->Calls Tryz.prog 17 #[.agg #[.int .i64 x.f3.f0,.slice E7 x.f3.f1.length e7,.slice E8 x.f3.f2.length e8,.slice E9 x.f3.f3.length e9],.int .i64 0] V fun e w'=>e=.returned (.int .i64 t2)∧Below V.heap.size V w'):=⟨fun V hV=>an_.calls k2 x.f3.f0 E7 e7 x.f3.f1 E8 e8 x.f3.f2 E9 e9 x.f3.f3 0 t2 V (Kd.C_below o7 hV) n7 (Kd.C_below o8 hV) n8 (Kd.C_below o9 hV) n9 hk2⟩
      have HS:Sd (∀ w',Below Vd.heap.size Vd w'->w'.cell? ⟨W.heap.size,1,none⟩=some (.slice (some ad) b.f1.length c1)∧w'.cell? ⟨(ad.add (k*11)).block,(ad.add (k*11)).off+2,none⟩=some (.int .i64 x.f2.f0)∧w'.cell? ⟨(ad.add (k*11)).block,(ad.add (k*11)).off+3,none⟩=some (.slice E3 x.f2.f1.length e3)∧w'.cell? ⟨(ad.add (k*11)).block,(ad.add (k*11)).off+4,none⟩=some (.slice E4 x.f2.f2.length e4)∧w'.cell? ⟨(ad.add (k*11)).block,(ad.add (k*11)).off+5,none⟩=some (.slice E5 x.f2.f3.length e5)∧w'.cell? ⟨(ad.add (k*11)).block,(ad.add (k*11)).off+6,none⟩=some (.int .i64 x.f3.f0)∧w'.cell? ⟨(ad.add (k*11)).block,(ad.add (k*11)).off+7,none⟩=some (.slice E7 x.f3.f1.length e7)∧w'.cell? ⟨(ad.add (k*11)).block,(ad.add (k*11)).off+8,none⟩=some (.slice E8 x.f3.f2.length e8)∧w'.cell? ⟨(ad.add (k*11)).block,(ad.add (k*11)).off+9,none⟩=some (.slice E9 x.f3.f3.length e9)):=by
       refine ⟨fun w' hw=>?_⟩
       have cw:=fun (a:Addr) (v:Value) (h:Vd.cell? a=some v)=>(hw.cell (bl__ Vd _ h)).trans h
       exact ⟨bc_ (ae_ (ae_ hx hbd) hw) 1 rfl,cw _ _ i2,cw _ _ i3,cw _ _ i4,cw _ _ i5,cw _ _ i6,cw _ _ i7,cw _ _ i8,cw _ _ i9⟩
      have HSUM:Sd (z+t1+t2<=1000->((b.f1.length+((b.f1.take (k+1)).map ruleM).sum:Nat):Int)<=z+t1+t2):=by
       refine ⟨fun h=>?_⟩
       have e1:=HZ.out (by omega)
       have e2:=r1 (by omega)
       have e3:=r2 (by omega)
       rw [List.take_add_one,hel,List.map_append,List.sum_append]
       have e4:((some x).toList.map ruleM).sum=mass x.f2+mass x.f3:=by simp [ruleM]
       rw [e4]
       omega
      have BD:=Sd.m (Below.refl Vd.heap.size Vd)
      have HBD:=Sd.m hbD
      have HXD:=Sd.m (ae_ hx hbd)
      have hz2:0<=z+t1+t2∧z+t1+t2<=1000000000000000:=by have:=HMM.out;omega
      clear hb hx hbd hbD i0 i1 i2 i3 i4 i5 i6 i7 i8 i9 i10 n3 o3 n4 o4 n5 o5 n7 o7 n8 o8 n9 o9 hsm ht1 hk1 ht2 hk2 p1 q1 r1 p2 q2 r2 hel
      go_upto_region 9 with fail
      refine start_ (n:=18) (S:=fun w'=>w'.cell? ⟨W.heap.size,1,none⟩=some (.slice (some ad) b.f1.length c1)∧w'.cell? ⟨(ad.add (k*11)).block,(ad.add (k*11)).off+2,none⟩=some (.int .i64 x.f2.f0)∧w'.cell? ⟨(ad.add (k*11)).block,(ad.add (k*11)).off+3,none⟩=some (.slice E3 x.f2.f1.length e3)∧w'.cell? ⟨(ad.add (k*11)).block,(ad.add (k*11)).off+4,none⟩=some (.slice E4 x.f2.f2.length e4)∧w'.cell? ⟨(ad.add (k*11)).block,(ad.add (k*11)).off+5,none⟩=some (.slice E5 x.f2.f3.length e5)∧w'.cell? ⟨(ad.add (k*11)).block,(ad.add (k*11)).off+6,none⟩=some (.int .i64 x.f3.f0)∧w'.cell? ⟨(ad.add (k*11)).block,(ad.add (k*11)).off+7,none⟩=some (.slice E7 x.f3.f1.length e7)∧w'.cell? ⟨(ad.add (k*11)).block,(ad.add (k*11)).off+8,none⟩=some (.slice E8 x.f3.f2.length e8)∧w'.cell? ⟨(ad.add (k*11)).block,(ad.add (k*11)).off+9,none⟩=some (.slice E9 x.f3.f3.length e9)) (ds:=[]) #[false,false,false,false,false,false,false,false,false,false,false,false,false,false,false,false,false,false] (by kernel_rfl) rfl rfl (by rw [←hVd];exact (HS.out _ (Below.refl _ _))) (fun hHeld=>?_)
      rw [←hVd] at hHeld ⊢
      clear hVd
      refine pu_ 0 47 ?_
      refine pu_ 1 48 ?_
      refine pu_ 3 50 ?_
      refine pu_ 9 56 ?_
      refine pu_ 11 58 ?_
      refine ta_ 2 49 hHeld ?_
      refine pu_ 4 51 ?_
      refine pu_ 5 52 ?_
      refine ta_ 6 53 hHeld ?_
      refine ta_ 10 57 hHeld ?_
      refine pu_ 12 59 ?_
      refine pu_ 13 60 ?_
      refine ta_ 14 61 hHeld ?_
      refine on_ 7 54 (fun K hK=>?_)
      refine goes_ Tryz.func17 (by kernel_rfl) rfl #[.agg #[.int .i64 x.f2.f0,.slice E3 x.f2.f1.length e3,.slice E4 x.f2.f2.length e4,.slice E5 x.f2.f3.length e5],.int .i64 0] (by rfl) rfl rfl (by simp only [List.map_toArray,List.map_cons,List.map_nil];rfl) ?_
      with_reducible refine (HN1.out Vd BD.out).mono ?_
      rintro e_ U1 ⟨rfl,hb_⟩
      refine ⟨_,rfl,?_⟩
      have BU1:=Sd.m (BD.out.trans ((hb_).mono BD.out.size))
      clear hb_
      refine hK.out _ _ (HS.out _ BU1.out) (fun hHeld=>?_)
      clear hK K
      refine no_ 54 ?_
      refine pu_ 8 55 ?_
      refine on_ 15 62 (fun K hK=>?_)
      refine goes_ Tryz.func17 (by kernel_rfl) rfl #[.agg #[.int .i64 x.f3.f0,.slice E7 x.f3.f1.length e7,.slice E8 x.f3.f2.length e8,.slice E9 x.f3.f3.length e9],.int .i64 0] (by rfl) rfl rfl (by simp only [List.map_toArray,List.map_cons,List.map_nil];rfl) ?_
      with_reducible refine (HN2.out U1 BU1.out).mono ?_
      rintro e_ U2 ⟨rfl,hb_⟩
      refine ⟨_,rfl,?_⟩
      have BU2:=Sd.m (BU1.out.trans ((hb_).mono BU1.out.size))
      clear hb_
      refine hK.out _ _ (HS.out _ BU2.out) (fun hHeld=>?_)
      clear hK K
      refine no_ 62 ?_
      refine pu_ 16 63 ?_
      refine pu_ 17 5 ?_
      refine done_ (by kernel_rfl) ?_
      go_wp2_with fail
      go_roundw
      case rel=>exact ⟨_,k+1,rfl,hlt.1,by go_num,hz2.1,hz2.2,HSUM.out,HBD.out.trans (BU2.out.mono HBD.out.size),ae_ HXD.out BU2.out⟩
      case measure=>simp [intOf];omega
     ·have HB:=Sd.m hb
      have HX:=Sd.m hx
      clear hb hx
      go_upto_region 7 with fail
      go_cut [44] (fun v Wx=>v=.bool false∧Wx=wr)
      case first=>
       by_cases hl:k<b.f1.length
       ·have b1:decide ((k:Int)<(b.f1.length:Int))=true:=dt__ (by omega)
        have b2:decide (k<b.f1.length)=true:=dt__ hl
        have s1:decide (z<=m)=false:=df__ fun h=>hlt ⟨hl,h⟩
        go_wp2_with fail
        go_meet
        case rel=>exact ⟨rfl,rfl⟩
       ·have b1:decide ((k:Int)<(b.f1.length:Int))=false:=df__ (by omega)
        have b2:decide (k<b.f1.length)=false:=df__ hl
        go_wp2_with fail
        go_meet
        case rel=>exact ⟨rfl,rfl⟩
      case rest=>
       obtain ⟨rfl,hwc⟩:=hcut
       subst hwc
       have x0:=bc_ HX.out 0 rfl
       have x2:=bc_ HX.out 2 rfl
       clear x1
       by_cases hzm:z>m
       ·have s1:decide (z>m)=true:=dt__ hzm
        have s2:decide (m<z)=true:=dt__ hzm
        clear hlt hzm
        go_wp2_with fail
        go_ret
        exact ⟨⟨_,rfl,fun h=>by cases h⟩,HB.out⟩
       ·have s1:decide (z>m)=false:=df__ hzm
        have s2:decide (m<z)=false:=df__ hzm
        have hfin:((b.f1.length+(b.f1.map ruleM).sum:Nat):Int)<=m:=by
         have h:=HZ.out (by have:=HMM.out;omega)
         rw [List.take_of_length_le (by omega)] at h
         omega
        have HF:=Sd.m hfin
        have HV1:=Sd.m (fun V (hV:Below W.heap.size W V)=>vg_calls b.f0 HV.out m V A0 c0 HG0.out.1 (Kd.C_below HG0.out.2 hV))
        have HI1:=Sd.m (fun V (hV:Below W.heap.size W V)=>ig_calls b.f2 m V A2 c2 HG2.out.1 (Kd.C_below HG2.out.2 hV))
        clear hlt hzm hfin
        go_wp2_with fail
        refine (HV1.out _ HB.out).mono ?_
        rintro e V ⟨⟨r,rfl⟩,hb⟩
        have HBV:=Sd.m (HB.out.trans (hb.mono HB.out.size))
        have HXV:=Sd.m (ae_ HX.out hb)
        clear hb x0 x2
        cases r with
        | true=>
         go_wp2_with fail
         go_ret
         exact ⟨⟨_,rfl,fun h=>by cases h⟩,HBV.out⟩
        | false=>
         have x2:=bc_ HXV.out 2 rfl
         go_wp2_with fail
         refine (HI1.out _ HBV.out).mono ?_
         rintro e V2 ⟨⟨r,rfl⟩,hb⟩
         have HBW:=Sd.m (HBV.out.trans (hb.mono HBV.out.size))
         clear hb x2
         go_wp2_with fail
         go_ret
         exact ⟨⟨_,rfl,fun _=>HF.out⟩,HBW.out⟩
end L
namespace LX
open Shelf YthfceiincmkccaaGreatW.PrintWords.Kd A K L B
open Go.Proofs.YthfceiincmkccaaGreat.P (withinF fy_ ek_)
noncomputable def sgF (T:List (List S74))(p:S45):List Int:=if p.f0=2 then withinF T p.f1 else []
inductive OkT (T:List (List S74)) (l w:List Int):S45->Prop
 | mk (p:S45) (h:p.f0=2-> ∀ i,i<l.length->(sgF T p).contains (rd w (i:Int))=hasF p.f1 (rd l (i:Int))) (hs: ∀ q∈p.f3,OkT T l w q):OkT T l w p
def ToO (W:World)(pa pb:Array Value)(n:Nat)(u:Value)(Wx:World):Prop:= ∃ j:Nat,j<=n∧u=.int .i64 j∧Below W.heap.size W Wx∧Wx.heap[W.heap.size]? =some (.cells pa 45 (0,0))∧Wx.heap[W.heap.size+1]? =some (.cells pb 45 (0,0))
def ToI (W Wr:World)(pb:Array Value)(g:List Int)(y:Int)(u v:Value)(Wx:World):Prop:= ∃ k:Nat,k<=g.length∧v=.int .i64 k∧u=.bool ((g.take k).contains y)∧Below Wr.heap.size Wr Wx
theorem take_has (g:List Int)(k:Nat)(y:Int)(h:k<g.length):(g.take (k+1)).contains y=((g.take k).contains y || (rd g (k:Int) == y)):=by
 have e:g[k]? =some (rd g (k:Int)):=by
  unfold rd
  rw [Int.toNat_natCast,List.getD_eq_getElem?_getD,List.getElem?_eq_getElem h]
  rfl
 rw [List.take_add_one,e,List.contains_append]
 congr 1
 show List.contains [rd g (k:Int)] y=_
 rw [List.contains_cons,List.contains_nil,Bool.or_false]
 exact Bool.beq_comm ..
theorem told_step (T:List (List S74))(w0:World)(Al:Option Addr)(cl:Nat)(l:List Int)(Aw:Option Addr)(cw:Nat)(w:List Int)(hlw:w.length=l.length)(hAl:Kd.C (Kd.int .i64) w0 Al l.length l)(hAw:Kd.C (Kd.int .i64) w0 Aw w.length w)
  (p:S45) (hok:p.f0=2-> ∀ i,i<l.length->(sgF T p).contains (rd w (i:Int))=hasF p.f1 (rd l (i:Int))) (ih: ∀ q∈p.f3,∀ (W:World) (A1:Option Addr) (c1:Nat) (A2:Option Addr) (c2:Nat) (A3:Option Addr) (c3:Nat) (B1:Option Addr) (d1:Nat) (B2:Option Addr) (d2:Nat) (B3:Option Addr) (d3:Nat) (h0:Below w0.heap.size w0 W) (l1:q.f1.length<=c1) (h1:Kd.C k74 W A1 q.f1.length q.f1) (l3:q.f3.length<=c3) (h3:Kd.C k45 W A3 q.f3.length q.f3) (k2:Kd.C (Kd.int .i64) W B2 (sgF T q).length (sgF T q)) (k3:Kd.C k45 W B3 q.f3.length (q.f3.map (tellF T))),Calls Tryz.prog 38 #[.agg #[.int .i64 q.f0,.slice A1 q.f1.length c1,.slice A2 q.f2.length c2,.slice A3 q.f3.length c3],.agg #[.int .i64 q.f0,.slice B1 q.f1.length d1,.slice B2 (sgF T q).length d2,.slice B3 q.f3.length d3],.slice Al l.length cl,.slice Aw w.length cw] W fun e w'=>e=.returned (.bool true)∧Below W.heap.size W w'): ∀ (W:World) (A1:Option Addr) (c1:Nat) (A2:Option Addr) (c2:Nat) (A3:Option Addr) (c3:Nat) (B1:Option Addr) (d1:Nat) (B2:Option Addr) (d2:Nat) (B3:Option Addr) (d3:Nat) (h0:Below w0.heap.size w0 W) (l1:p.f1.length<=c1) (h1:Kd.C k74 W A1 p.f1.length p.f1) (l3:p.f3.length<=c3) (h3:Kd.C k45 W A3 p.f3.length p.f3) (k2:Kd.C (Kd.int .i64) W B2 (sgF T p).length (sgF T p)) (k3:Kd.C k45 W B3 p.f3.length (p.f3.map (tellF T))),Calls Tryz.prog 38 #[.agg #[.int .i64 p.f0,.slice A1 p.f1.length c1,.slice A2 p.f2.length c2,.slice A3 p.f3.length c3],.agg #[.int .i64 p.f0,.slice B1 p.f1.length d1,.slice B2 (sgF T p).length d2,.slice B3 p.f3.length d3],.slice Al l.length cl,.slice Aw w.length cw] W fun e w'=>e=.returned (.bool true)∧Below W.heap.size W w':=by
 intro W A1 c1 A2 c2 A3 c3 B1 d1 B2 d2 B3 d3 h0 l1 h1 l3 h3 k2 k3
 obtain ⟨W2,hW2⟩: ∃ W_,W_=(W.alloc (.cells #[.int .i64 p.f0,.slice A1 p.f1.length c1,.slice A2 p.f2.length c2,.slice A3 p.f3.length c3] 45)).alloc (.cells #[.int .i64 p.f0,.slice B1 p.f1.length d1,.slice B2 (sgF T p).length d2,.slice B3 p.f3.length d3] 45):=⟨_,rfl⟩
 have ea:(W.alloc (.cells #[.int .i64 p.f0,.slice A1 p.f1.length c1,.slice A2 p.f2.length c2,.slice A3 p.f3.length c3] 45)).heap.size=W.heap.size+1:=Array.size_push _
 have hb2:Below W.heap.size W W2:=by rw [hW2];exact ab_ (ab_ (Below.refl _ _) _) _
 have hx2:W2.heap[W.heap.size]? =some (.cells #[.int .i64 p.f0,.slice A1 p.f1.length c1,.slice A2 p.f2.length c2,.slice A3 p.f3.length c3] 45 (0,0)):=by rw [hW2];exact ak_ (ah_ W _) _
 have hy2:W2.heap[W.heap.size+1]? =some (.cells #[.int .i64 p.f0,.slice B1 p.f1.length d1,.slice B2 (sgF T p).length d2,.slice B3 p.f3.length d3] 45 (0,0)):=by rw [hW2];exact ea ▸ ah_ (W.alloc (.cells #[.int .i64 p.f0,.slice A1 p.f1.length c1,.slice A2 p.f2.length c2,.slice A3 p.f3.length c3] 45)) _
 have x0:=bc_ hx2 0 rfl
 have x3:=bc_ hx2 3 rfl
 have y0:=bc_ hy2 0 rfl
 have y3:=bc_ hy2 3 rfl
 have HAL:=Sd.m (Kd.C_below hAl h0)
 have HAW:=Sd.m (Kd.C_below hAw h0)
 have HW:=Sd.m h0
 have HP1:=Sd.m (And.intro l1 h1)
 have HP3:=Sd.m h3
 have HQ2:=Sd.m k2
 have HQ3:=Sd.m k3
 have HIH:=Sd.m ih
 have HOK:=Sd.m hok
 have HX2:=Sd.m hx2
 have HY2:=Sd.m hy2
 have HB2:=Sd.m hb2
 have HW2:=Sd.m hW2
 have HLW:=Sd.m hlw
 have HM:p.f3.length<=9223372036854775807:=Kd.C_max h3
 have HML:l.length<=9223372036854775807:=Kd.C_max hAl
 have HMG:(sgF T p).length<=9223372036854775807:=Kd.C_max k2
 clear ea hb2 hx2 hy2 hW2 h0 l1 h1 h3 k2 k3 ih hok hAl hAw hlw
 go_enter Tryz.func38,Tryz.ntmps38
 go_wp2_with fail
 rw [←HW2.out]
 clear x0 x3 y0 y3
 go_loopw [9] (fun u Wx=>ToO W #[.int .i64 p.f0,.slice A1 p.f1.length c1,.slice A2 p.f2.length c2,.slice A3 p.f3.length c3] #[.int .i64 p.f0,.slice B1 p.f1.length d1,.slice B2 (sgF T p).length d2,.slice B3 p.f3.length d3] l.length u Wx) (fun u _=>l.length - (intOf u).toNat)
 case atStart=>exact ⟨0,Nat.zero_le _,rfl,HB2.out,HX2.out,HY2.out⟩
 case round=>
  obtain ⟨i,hi,rfl,hb,hx,hy⟩:=hrel
  have x0:=bc_ hx 0 rfl
  by_cases hc:i<l.length∧p.f0=2
  ·have hlt:=hc.1
   have hk:=hc.2
   have ek:(p.f0 == 2)=true:=by rw [hk];rfl
   ·have b1:decide ((i:Int)<(l.length:Int))=true:=dt__ (by omega)
    have b2:decide (i<l.length)=true:=dt__ hlt
    have hq0:0<=(i:Int):=by omega
    have hq1:(i:Int)<(l.length:Int):=by omega
    have hq2:(i:Int)<(w.length:Int):=by have:=HLW.out;omega
    have w2:IntKind.i64.wrap ((i:Int)+1)=(i:Int)+1:=IntWalk.i64_in _ (by omega)
    have hin:=HOK.out hk i hlt
    have HB:=Sd.m hb
    have HX:=Sd.m hx
    have HY:=Sd.m hy
    have HIN:=Sd.m hin
    obtain ⟨aw,ew,kw⟩:=Kd.de_ (Kd.C_below HAW.out hb) (i:Int) (by omega) (by omega)
    rw [Int.toNat_natCast] at kw
    obtain ⟨y,hy_⟩: ∃ y,y=rd w (i:Int):=⟨_,rfl⟩
    rw [←hy_] at kw
    have HYY:=Sd.m hy_
    have HKW:=Sd.m kw
    subst ew
    clear hb hx hy hin hy_ kw
    go_wp2_with fail
    clear x0
    obtain ⟨wo,hwo⟩: ∃ wo,wo=wr:=⟨_,rfl⟩
    subst hwo
    go_loopw [10,11] (fun u v Wx=>ToI W wo #[.int .i64 p.f0,.slice B1 p.f1.length d1,.slice B2 (sgF T p).length d2,.slice B3 p.f3.length d3] (sgF T p) y u v Wx) (fun _ v _=>(sgF T p).length - (intOf v).toNat)
    case atStart=>exact ⟨0,Nat.zero_le _,rfl,rfl,Below.refl _ _⟩
    case round=>
     obtain ⟨k,hk2,rfl,rfl,hbI⟩:=hrel
     have y2:=bc_ (ae_ HY.out hbI) 2 rfl
     by_cases hlk:k<(sgF T p).length
     ·have d1:decide ((k:Int)<((sgF T p).length:Int))=true:=dt__ (by omega)
      have d2:decide (k<(sgF T p).length)=true:=dt__ hlk
      have hr0:0<=(k:Int):=by omega
      have hr1:(k:Int)<((sgF T p).length:Int):=by omega
      have w3:IntKind.i64.wrap ((k:Int)+1)=(k:Int)+1:=IntWalk.i64_in _ (by omega)
      have hth:=take_has (sgF T p) k y hlk
      obtain ⟨ag,eg,kg⟩:=Kd.de_ (Kd.C_below HQ2.out (HB.out.trans (hbI.mono HB.out.size))) (k:Int) (by omega) (by omega)
      rw [Int.toNat_natCast] at kg
      have kw:=(hbI.cell (bl__ _ _ HKW.out)).trans HKW.out
      subst eg
      generalize rd (sgF T p) (k:Int)=z at kg hth
      have HTH:=Sd.m hth
      have HBI:=Sd.m hbI
      clear hth hbI
      cases hbn:((sgF T p).take k).contains y with
      | true=>
       rw [hbn] at HTH
       have HBN:=Sd.m hbn
       clear hbn
       go_wp2_with fail
       go_quiet (fail)
       go_wp2_with fail
       go_roundw
       case rel=>exact ⟨k+1,hlk,by go_num,by rw [HTH.out];rfl,HBI.out.trans ((ad_ (Below.refl _ _) _).mono HBI.out.size)⟩
       case measure=>simp [intOf];omega
      | false=>
       rw [hbn] at HTH
       have HBN:=Sd.m hbn
       clear hbn
       go_wp2_with fail
       go_quiet (fail)
       go_wp2_with fail
       go_roundw
       case rel=>exact ⟨k+1,hlk,by go_num,by rw [HTH.out];rfl,HBI.out.trans ((ad_ (Below.refl _ _) _).mono HBI.out.size)⟩
       case measure=>simp [intOf];omega
     ·have d1:decide ((k:Int)<((sgF T p).length:Int))=false:=df__ (by omega)
      have d2:decide (k<(sgF T p).length)=false:=df__ hlk
      have hall:((sgF T p).take k).contains y=hasF p.f1 (rd l (i:Int)):=by
       rw [List.take_of_length_le (by omega),HYY.out]
       exact HIN.out
      rw [hall]
      have HBI:=Sd.m hbI
      clear hall hbI
      go_wp2_with fail
      clear y2
      obtain ⟨Vd,hVd⟩: ∃ W_,W_=wr.drew:=⟨_,rfl⟩
      have hbd:Below wr.heap.size wr Vd:=by rw [hVd];exact bq_ (Below.refl _ _)
      have hbo:=HBI.out.trans (hbd.mono HBI.out.size)
      have hbW:=HB.out.trans (hbo.mono HB.out.size)
      obtain ⟨ad,ead,kd⟩:=Kd.de_ (Kd.C_below HAL.out hbW) (i:Int) (by omega) (by omega)
      rw [Int.toNat_natCast] at kd
      subst ead
      generalize rd l (i:Int)=x at kd ⊢
      have HC:=Sd.m (ek_ A1 c1 p.f1 x Vd (Kd.C_below HP1.out.2 hbW) HP1.out.1)
      have HS:Sd (∀ w',Below Vd.heap.size Vd w'->w'.cell? ⟨W.heap.size,1,none⟩=some (.slice A1 p.f1.length c1)∧w'.cell? (ad.add i)=some (.int .i64 x)):=⟨fun w' hw=>⟨bc_ (ae_ (ae_ HX.out hbo) hw) 1 rfl,(hw.cell (bl__ Vd _ kd)).trans kd⟩⟩
      have HXD:=Sd.m (ae_ HX.out hbo)
      have HYD:=Sd.m (ae_ HY.out hbo)
      have HBD:=Sd.m hbW
      have hne:(hasF p.f1 x != hasF p.f1 x)=false:=by simp
      clear hbd hbo hbW kd
      go_upto_region 11 with fail
      refine start_ (n:=9) (S:=fun w'=>w'.cell? ⟨W.heap.size,1,none⟩=some (.slice A1 p.f1.length c1)∧w'.cell? (ad.add i)=some (.int .i64 x)) (ds:=[]) #[false,false,false,false,false,false,false,false,false] (by kernel_rfl) rfl rfl (by rw [←hVd];exact (HS.out _ (Below.refl _ _))) (fun hHeld=>?_)
      rw [←hVd] at hHeld ⊢
      clear hVd
      refine pu_ 0 58 ?_
      refine pu_ 1 59 ?_
      refine pu_ 3 61 ?_
      refine pu_ 4 62 ?_
      refine pu_ 5 63 ?_
      refine ta_ 2 60 hHeld ?_
      refine ta_ 6 64 hHeld ?_
      refine on_ 7 65 (fun K hK=>?_)
      refine goes_ Tryz.func44 (by kernel_rfl) rfl #[.slice A1 p.f1.length c1,.int .i64 x] (by rfl) rfl rfl (by simp only [List.map_toArray,List.map_cons,List.map_nil];rfl) ?_
      with_reducible refine (HC.out).mono ?_
      rintro e_ V1 ⟨rfl,hb_⟩
      refine ⟨_,rfl,?_⟩
      have B1_:=Sd.m hb_.below
      clear hb_
      refine hK.out _ _ (HS.out _ B1_.out) (fun hHeld=>?_)
      clear hK K
      refine no_ 65 ?_
      refine pu_ 8 66 ?_
      refine done_ (by kernel_rfl) ?_
      go_wp2_with fail
      go_roundw
      case rel=>exact ⟨i+1,hlt,by go_num,HBD.out.trans (B1_.out.mono HBD.out.size),ae_ HXD.out B1_.out,ae_ HYD.out B1_.out⟩
      case measure=>simp [intOf];omega
  ·have HB:=Sd.m hb
   have HX:=Sd.m hx
   have HY:=Sd.m hy
   clear hb hx hy
   go_upto_region 4 with fail
   go_cut [35] (fun v Wx=>v=.bool false∧Wx=wr)
   case first=>
    by_cases hl:i<l.length
    ·have b1:decide ((i:Int)<(l.length:Int))=true:=dt__ (by omega)
     have b2:decide (i<l.length)=true:=dt__ hl
     have ek:(p.f0 == 2)=false:=by simpa using fun h=>hc ⟨hl,h⟩
     go_wp2_with fail
     go_meet
     case rel=>exact ⟨rfl,rfl⟩
    ·have b1:decide ((i:Int)<(l.length:Int))=false:=df__ (by omega)
     have b2:decide (i<l.length)=false:=df__ hl
     go_wp2_with fail
     go_meet
     case rel=>exact ⟨rfl,rfl⟩
   case rest=>
    obtain ⟨rfl,rfl⟩:=hcut
    clear x0 hc
    go_wp2_with fail
    obtain ⟨wo,hwo⟩: ∃ wo,wo=wc:=⟨_,rfl⟩
    subst hwo
    go_loopw [12] (fun u Wx=>ToO W #[.int .i64 p.f0,.slice A1 p.f1.length c1,.slice A2 p.f2.length c2,.slice A3 p.f3.length c3] #[.int .i64 p.f0,.slice B1 p.f1.length d1,.slice B2 (sgF T p).length d2,.slice B3 p.f3.length d3] p.f3.length u Wx) (fun u _=>p.f3.length - (intOf u).toNat)
    case atStart=>exact ⟨0,Nat.zero_le _,rfl,HB.out,HX.out,HY.out⟩
    case round=>
     obtain ⟨j,hj,rfl,hb,hx,hy⟩:=hrel
     have x3:=bc_ hx 3 rfl
     by_cases hlt:j<p.f3.length
     ·have b1:decide ((j:Int)<(p.f3.length:Int))=true:=dt__ (by omega)
      have b2:decide (j<p.f3.length)=true:=dt__ hlt
      have hq0:0<=(j:Int):=by omega
      have hq1:(j:Int)<(p.f3.length:Int):=by omega
      have w2:IntKind.i64.wrap ((j:Int)+1)=(j:Int)+1:=IntWalk.i64_in _ (by omega)
      go_wp2_with fail
      clear x3
      obtain ⟨Vd,hVd⟩: ∃ W_,W_=wr.drew:=⟨_,rfl⟩
      have hbd:Below wr.heap.size wr Vd:=by rw [hVd];exact bq_ (Below.refl _ _)
      have hbD:=hb.trans (hbd.mono hb.size)
      obtain ⟨aa,E1,e1,E2,e2,E3,e3,eaa,i0,i1,i2,i3,n1,o1,n2,o2,n3,o3⟩:=hn_ (Kd.C_below HP3.out hbD) (j:Int) (by omega) (by omega)
      obtain ⟨ab,G1,g1,G2,g2,G3,g3,eab,u0,u1,u2,u3,r1,s1,r2,s2,r3,s3⟩:=hn_ (Kd.C_below HQ3.out hbD) (j:Int) (by omega) (by omega)
      subst eaa
      subst eab
      rw [Int.toNat_natCast] at i0 i1 i2 i3 u0 u1 u2 u3
      have hmem:bw_ p.f3 (j:Int)∈p.f3:=by
       unfold bw_
       rw [Int.toNat_natCast,List.getD_eq_getElem?_getD,List.getElem?_eq_getElem hlt]
       exact List.getElem_mem hlt
      have hrd:bw_ (p.f3.map (tellF T)) (j:Int)=tellF T (bw_ p.f3 (j:Int)):=by
       unfold bw_
       rw [Int.toNat_natCast,List.getD_eq_getElem?_getD,List.getD_eq_getElem?_getD,List.getElem?_map,List.getElem?_eq_getElem hlt]
       rfl
      rw [hrd] at u0 u1 u2 u3 r1 s1 r2 s2 r3 s3
      clear hrd
      generalize bw_ p.f3 (j:Int)=q at i0 i1 i2 i3 u0 u1 u2 u3 n1 o1 n2 o2 n3 o3 r1 s1 r2 s2 r3 s3 hmem
      have t0:(tellF T q).f0=q.f0:=by rw [dl_]
      have t1:(tellF T q).f1=q.f1:=by rw [dl_]
      have t2:(tellF T q).f2=sgF T q:=by rw [dl_];rfl
      have t3:(tellF T q).f3=q.f3.map (tellF T):=by rw [dl_]
      rw [t0] at u0
      rw [t1] at u1
      rw [t2] at u2 r2 s2
      rw [t3,List.length_map] at u3 r3 s3
      clear t0 t1 t2 t3 r1 s1
      have HC:=Sd.m (HIH.out q hmem Vd E1 e1 E2 e2 E3 e3 G1 g1 G2 g2 G3 g3 (HW.out.trans (hbD.mono HW.out.size)) n1 o1 n3 o3 s2 s3)
      have HS:Sd (∀ w',Below Vd.heap.size Vd w'->w'.cell? ⟨W.heap.size,3,none⟩=some (.slice (some aa) p.f3.length c3)∧w'.cell? ⟨W.heap.size+1,3,none⟩=some (.slice (some ab) p.f3.length d3)∧w'.cell? (aa.add (j*4))=some (.int .i64 q.f0)∧w'.cell? ⟨(aa.add (j*4)).block,(aa.add (j*4)).off+1,none⟩=some (.slice E1 q.f1.length e1)∧w'.cell? ⟨(aa.add (j*4)).block,(aa.add (j*4)).off+2,none⟩=some (.slice E2 q.f2.length e2)∧w'.cell? ⟨(aa.add (j*4)).block,(aa.add (j*4)).off+3,none⟩=some (.slice E3 q.f3.length e3)∧w'.cell? (ab.add (j*4))=some (.int .i64 q.f0)∧w'.cell? ⟨(ab.add (j*4)).block,(ab.add (j*4)).off+1,none⟩=some (.slice G1 q.f1.length g1)∧w'.cell? ⟨(ab.add (j*4)).block,(ab.add (j*4)).off+2,none⟩=some (.slice G2 (sgF T q).length g2)∧w'.cell? ⟨(ab.add (j*4)).block,(ab.add (j*4)).off+3,none⟩=some (.slice G3 q.f3.length g3)):=by
       refine ⟨fun w' hw=>?_⟩
       have cw:=fun (a:Addr) (v:Value) (h:Vd.cell? a=some v)=>(hw.cell (bl__ Vd _ h)).trans h
       have hq:=hbd.trans (hw.mono hbd.size)
       exact ⟨bc_ (ae_ hx hq) 3 rfl,bc_ (ae_ hy hq) 3 rfl,cw _ _ i0,cw _ _ i1,cw _ _ i2,cw _ _ i3,cw _ _ u0,cw _ _ u1,cw _ _ u2,cw _ _ u3⟩
      have HXD:=Sd.m (ae_ hx hbd)
      have HYD:=Sd.m (ae_ hy hbd)
      have HBD:=Sd.m hbD
      clear hb hx hy hbd hbD i0 i1 i2 i3 u0 u1 u2 u3 n1 o1 n2 o2 n3 o3 r2 s2 r3 s3 hmem
      go_upto_region 16 with fail
      refine start_ (n:=14) (S:=fun w'=>w'.cell? ⟨W.heap.size,3,none⟩=some (.slice (some aa) p.f3.length c3)∧w'.cell? ⟨W.heap.size+1,3,none⟩=some (.slice (some ab) p.f3.length d3)∧w'.cell? (aa.add (j*4))=some (.int .i64 q.f0)∧w'.cell? ⟨(aa.add (j*4)).block,(aa.add (j*4)).off+1,none⟩=some (.slice E1 q.f1.length e1)∧w'.cell? ⟨(aa.add (j*4)).block,(aa.add (j*4)).off+2,none⟩=some (.slice E2 q.f2.length e2)∧w'.cell? ⟨(aa.add (j*4)).block,(aa.add (j*4)).off+3,none⟩=some (.slice E3 q.f3.length e3)∧w'.cell? (ab.add (j*4))=some (.int .i64 q.f0)∧w'.cell? ⟨(ab.add (j*4)).block,(ab.add (j*4)).off+1,none⟩=some (.slice G1 q.f1.length g1)∧w'.cell? ⟨(ab.add (j*4)).block,(ab.add (j*4)).off+2,none⟩=some (.slice G2 (sgF T q).length g2)∧w'.cell? ⟨(ab.add (j*4)).block,(ab.add (j*4)).off+3,none⟩=some (.slice G3 q.f3.length g3)) (ds:=[]) #[false,false,false,false,false,false,false,false,false,false,false,false,false,false] (by kernel_rfl) rfl rfl (by rw [←hVd];exact (HS.out _ (Below.refl _ _))) (fun hHeld=>?_)
      rw [←hVd] at hHeld ⊢
      clear hVd
      refine pu_ 0 74 ?_
      refine pu_ 2 76 ?_
      refine pu_ 5 79 ?_
      refine pu_ 7 81 ?_
      refine pu_ 10 84 ?_
      refine pu_ 11 85 ?_
      refine ta_ 1 75 hHeld ?_
      refine pu_ 3 77 ?_
      refine ta_ 4 78 hHeld ?_
      refine ta_ 6 80 hHeld ?_
      refine pu_ 8 82 ?_
      refine ta_ 9 83 hHeld ?_
      refine on_ 12 86 (fun K hK=>?_)
      refine goes_ Tryz.func38 (by kernel_rfl) rfl #[.agg #[.int .i64 q.f0,.slice E1 q.f1.length e1,.slice E2 q.f2.length e2,.slice E3 q.f3.length e3],.agg #[.int .i64 q.f0,.slice G1 q.f1.length g1,.slice G2 (sgF T q).length g2,.slice G3 q.f3.length g3],.slice Al l.length cl,.slice Aw w.length cw] (by rfl) rfl rfl (by simp only [List.map_toArray,List.map_cons,List.map_nil];rfl) ?_
      with_reducible refine (HC.out).mono ?_
      rintro e_ V1 ⟨rfl,hb_⟩
      refine ⟨_,rfl,?_⟩
      have B1_:=Sd.m hb_
      clear hb_
      refine hK.out _ _ (HS.out _ B1_.out) (fun hHeld=>?_)
      clear hK K
      refine no_ 86 ?_
      refine pu_ 13 87 ?_
      refine done_ (by kernel_rfl) ?_
      go_wp2_with fail
      go_roundw
      case rel=>exact ⟨j+1,hlt,by go_num,HBD.out.trans (B1_.out.mono HBD.out.size),ae_ HXD.out B1_.out,ae_ HYD.out B1_.out⟩
      case measure=>simp [intOf];omega
     ·have b1:decide ((j:Int)<(p.f3.length:Int))=false:=df__ (by omega)
      have b2:decide (j<p.f3.length)=false:=df__ hlt
      have HBE:=Sd.m hb
      clear hb hx hy
      go_wp2_with fail
      go_ret
      exact ⟨rfl,HBE.out⟩
theorem OkT.parts {T:List (List S74)}{l w:List Int}{p:S45}(h:OkT T l w p):(p.f0=2-> ∀ i,i<l.length->(sgF T p).contains (rd w (i:Int))=hasF p.f1 (rd l (i:Int)))∧ ∀ q∈p.f3,OkT T l w q:=by
 cases h
 exact ⟨by assumption,by assumption⟩
theorem fz_ (T:List (List S74))(w0:World)(Al:Option Addr)(cl:Nat)(l:List Int)(Aw:Option Addr)(cw:Nat)(w:List Int)(hlw:w.length=l.length)(hAl:Kd.C (Kd.int .i64) w0 Al l.length l)(hAw:Kd.C (Kd.int .i64) w0 Aw w.length w)(p:S45)(h:OkT T l w p): ∀ (W:World) (A1:Option Addr) (c1:Nat) (A2:Option Addr) (c2:Nat) (A3:Option Addr) (c3:Nat) (B1:Option Addr) (d1:Nat) (B2:Option Addr) (d2:Nat) (B3:Option Addr) (d3:Nat) (h0:Below w0.heap.size w0 W) (l1:p.f1.length<=c1) (h1:Kd.C k74 W A1 p.f1.length p.f1) (l3:p.f3.length<=c3) (h3:Kd.C k45 W A3 p.f3.length p.f3) (k2:Kd.C (Kd.int .i64) W B2 (sgF T p).length (sgF T p)) (k3:Kd.C k45 W B3 p.f3.length (p.f3.map (tellF T))),Calls Tryz.prog 38 #[.agg #[.int .i64 p.f0,.slice A1 p.f1.length c1,.slice A2 p.f2.length c2,.slice A3 p.f3.length c3],.agg #[.int .i64 p.f0,.slice B1 p.f1.length d1,.slice B2 (sgF T p).length d2,.slice B3 p.f3.length d3],.slice Al l.length cl,.slice Aw w.length cw] W fun e w'=>e=.returned (.bool true)∧Below W.heap.size W w':=by
 have h1:=h.parts.1
 have hs:=h.parts.2
 exact told_step T w0 Al cl l Aw cw w hlw hAl hAw p h1 fun q hq=>fz_ T w0 Al cl l Aw cw w hlw hAl hAw q (hs q hq)
termination_by SizeOf.sizeOf p
decreasing_by
 have h5:=List.sizeOf_lt_of_mem hq
 have h6:SizeOf.sizeOf p.f3<SizeOf.sizeOf p:=by
  cases p
  simp
  omega
 omega
end LX
namespace P
open A K L
open Go.Proofs.YthfceiincmkccaaGreat.LX (OkT sgF)
def sumL (xs:List (List S74)):Nat:=(xs.map List.length).sum
theorem add_sum (xs:List (List S74))(y:List S74):sumL (addF xs y)<=sumL xs+y.length:=by
 unfold addF
 split
 ·omega
 ·unfold sumL
  rw [List.map_append,List.sum_append]
  simp
theorem fold_sum {α:Type}(f:List (List S74)->α->List (List S74))(g:α->Nat)(h: ∀ xs a,sumL (f xs a)<=sumL xs+g a): ∀ (l:List α) xs,sumL (l.foldl f xs)<=sumL xs+(l.map g).sum
 | [],_=>Nat.le_refl _
 | a :: l,xs=>by
  have h1:=h xs a
  have h2:=fold_sum f g h l (f xs a)
  rw [List.foldl_cons,List.map_cons,List.sum_cons]
  omega
theorem kz_ (p:S45): ∀ xs:List (List S74),sumL (formF p xs)<=sumL xs+mass p:=by
 intro xs
 rw [ef_,kw_]
 have key: ∀ l:List S45,(∀ q∈l,q∈p.f3)-> ∀ a,sumL (l.foldl (fun a q=>formF q a) a)<=sumL a+(l.map mass).sum:=by
  intro l
  induction l with
  | nil=>exact fun _ a=>Nat.le_refl _
  | cons q l ih=>
   intro h a
   have hq:=h q (List.mem_cons_self ..)
   have h1:=kz_ q a
   have h2:=ih (fun r hr=>h r (List.mem_cons_of_mem _ hr)) (formF q a)
   rw [List.foldl_cons,List.map_cons,List.sum_cons]
   omega
 have h:=key p.f3 (fun q hq=>hq) (if p.f0=2 then addF xs p.f1 else xs)
 have h2:sumL (if p.f0=2 then addF xs p.f1 else xs)<=sumL xs+p.f1.length:=by
  split
  ·exact add_sum xs p.f1
  ·omega
 omega
termination_by SizeOf.sizeOf p
decreasing_by exact ev_ hq
theorem rule_sum (xs:List (List S74))(r:S55):sumL (ruleF xs r)<=sumL xs+ruleM r:=by
 unfold ruleF ruleM
 have h1:=kz_ r.f2 xs
 have h2:=kz_ r.f3 (formF r.f2 xs)
 omega
def bookM (b:S27):Nat:=(b.f1.map ruleM).sum
theorem book_sum (xs:List (List S74))(b:S27):sumL (bookF xs b)<=sumL xs+bookM b:=fold_sum ruleF ruleM rule_sum b.f1 xs
theorem rule_in {b:S27}{r:S55}(h:r∈b.f1):ruleM r<=bookM b:=by
 unfold bookM
 generalize b.f1=l at*
 induction l with
 | nil=>cases h
 | cons a l ih=>
  rw [List.map_cons,List.sum_cons]
  rcases List.mem_cons.1 h with rfl | h
  ·omega
  ·have:=ih h
   omega
theorem bookN_le (b:S27):bookN b<=bookM b:=by
 unfold bookN bookM
 generalize b.f1=l
 induction l with
 | nil=>exact Nat.le_refl _
 | cons r l ih=>
  have h1:=fe_ r.f2
  have h2:=fe_ r.f3
  simp only [List.map_cons,List.sum_cons,ruleN,ruleM] at*
  omega
theorem book_wide {b:S27}(h:bookM b<=1000000): ∀ r∈b.f1,Wide r.f2∧Wide r.f3:=by
 intro r hr
 have h1:=rule_in hr
 unfold ruleM at h1
 exact ⟨ij_ _ (by omega),ij_ _ (by omega)⟩
theorem book_empty {b:S27}(h:b.f1=[]):bookM b=0:=by unfold bookM;rw [h];rfl
inductive InF (sets:List (List S74)):S45->Prop
 | mk (p:S45) (h:p.f0=2->p.f1∈sets) (hs: ∀ q∈p.f3,InF sets q):InF sets p
theorem InF.parts {sets:List (List S74)}{p:S45}(h:InF sets p):(p.f0=2->p.f1∈sets)∧ ∀ q∈p.f3,InF sets q:=by
 cases h
 exact ⟨by assumption,by assumption⟩
theorem add_self (xs:List (List S74))(y:List S74):y∈addF xs y:=by
 unfold addF
 split
 ·rename_i h
  obtain ⟨x,hx,e⟩:=List.any_eq_true.1 h
  rw [←eqF_iff.1 e]
  exact hx
 ·exact List.mem_append.2 (Or.inr (List.mem_singleton.2 rfl))
theorem add_keep {xs:List (List S74)}{y x:List S74}(h:x∈xs):x∈addF xs y:=by
 unfold addF
 split
 ·exact h
 ·exact List.mem_append.2 (Or.inl h)
theorem hi_ {α:Type}(f:List (List S74)->α->List (List S74)){x:List S74}(h: ∀ xs a,x∈xs->x∈f xs a): ∀ (l:List α) xs,x∈xs->x∈l.foldl f xs
 | [],_,hx=>hx
 | a :: l,xs,hx=>by
  rw [List.foldl_cons]
  exact hi_ f h l _ (h xs a hx)
theorem ff_ (p:S45){x:List S74}: ∀ xs,x∈xs->x∈formF p xs:=by
 intro xs hx
 rw [ef_]
 have key: ∀ l:List S45,(∀ q∈l,q∈p.f3)-> ∀ a,x∈a->x∈l.foldl (fun a q=>formF q a) a:=by
  intro l
  induction l with
  | nil=>exact fun _ a h=>h
  | cons q l ih=>
   intro h a ha
   have hq:=h q (List.mem_cons_self ..)
   rw [List.foldl_cons]
   exact ih (fun r hr=>h r (List.mem_cons_of_mem _ hr)) _ (ff_ q a ha)
 refine key p.f3 (fun q hq=>hq) _ ?_
 split
 ·exact add_keep hx
 ·exact hx
termination_by SizeOf.sizeOf p
decreasing_by exact ev_ hq
theorem in_form {sets:List (List S74)}(p:S45): ∀ xs,(∀ y∈formF p xs,y∈sets)->InF sets p:=by
 intro xs h
 rw [ef_] at h
 refine ⟨p,fun hk=>h _ (hi_ _ (fun a q hx=>ff_ q a hx) _ _ (by rw [if_pos hk];exact add_self xs p.f1)),?_⟩
 have key: ∀ l:List S45,(∀ q∈l,q∈p.f3)-> ∀ a,(∀ y∈l.foldl (fun a q=>formF q a) a,y∈sets)-> ∀ q∈l,InF sets q:=by
  intro l
  induction l with
  | nil=>exact fun _ _ _ q hq=>nomatch hq
  | cons r l ih=>
   intro h a ha q hq
   rw [List.foldl_cons] at ha
   have hx:=h r (List.mem_cons_self ..)
   rcases List.mem_cons.1 hq with rfl | hq
   ·exact in_form q a fun y hy=>ha y (hi_ _ (fun a q hx=>ff_ q a hx) _ _ hy)
   ·exact ih (fun s hs=>h s (List.mem_cons_of_mem _ hs)) _ ha q hq
 exact key p.f3 (fun q hq=>hq) _ h
termination_by SizeOf.sizeOf p
decreasing_by exact ev_ hx
theorem rule_keep {x:List S74}(xs:List (List S74))(r:S55)(h:x∈xs):x∈ruleF xs r:=ff_ _ _ (ff_ _ _ h)
theorem in_book (b:S27)(xs:List (List S74)): ∀ r∈b.f1,InF (bookF xs b) r.f2∧InF (bookF xs b) r.f3:=by
 unfold bookF
 have key: ∀ (l:List S55) xs (sets:List (List S74)),(∀ y∈l.foldl ruleF xs,y∈sets)-> ∀ r∈l,InF sets r.f2∧InF sets r.f3:=by
  intro l
  induction l with
  | nil=>exact fun _ _ _ r hr=>nomatch hr
  | cons a l ih=>
   intro xs sets h r hr
   rw [List.foldl_cons] at h
   rcases List.mem_cons.1 hr with rfl | hr
   ·have h1: ∀ y∈ruleF xs r,y∈sets:=fun y hy=>h y (hi_ _ (fun xs r h=>rule_keep xs r h) _ _ hy)
    exact ⟨in_form _ xs fun y hy=>h1 y (ff_ _ _ hy),in_form _ _ h1⟩
   ·exact ih _ sets h r hr
 exact key b.f1 xs _ fun y hy=>hy
theorem wi_mem {s:List S74}: ∀ (fs:List Int) (i:Nat) (k:Int),k∈wiF s fs i↔ ∃ (j:Nat) (c:Int),fs[j]? =some c∧hasF s c=true∧k=((i+j:Nat):Int)
 | [],i,k=>⟨fun h=>absurd h List.not_mem_nil,fun ⟨j,c,h,_⟩=>by simp at h⟩
 | f :: fs,i,k=>by
  have ih:=wi_mem (s:=s) fs (i+1) k
  have tl:(∃ (j:Nat) (c:Int),(f :: fs)[j]? =some c∧hasF s c=true∧k=((i+j:Nat):Int))↔(hasF s f=true∧k=(i:Int))∨k∈wiF s fs (i+1):=by
   rw [ih]
   constructor
   ·rintro ⟨j,c,h1,h2,h3⟩
    cases j with
    | zero=>
     simp at h1
     subst h1
     exact Or.inl ⟨h2,h3⟩
    | succ j=>exact Or.inr ⟨j,c,by simpa using h1,h2,by rw [h3];omega⟩
   ·rintro (⟨h1,h2⟩ | ⟨j,c,h1,h2,h3⟩)
    ·exact ⟨0,f,rfl,h1,h2⟩
    ·exact ⟨j+1,c,by simpa using h1,h2,by rw [h3];omega⟩
  rw [tl,wiF]
  split
  ·rename_i h
   rw [List.mem_cons]
   constructor
   ·rintro (h1 | h1)
    ·exact Or.inl ⟨h,h1⟩
    ·exact Or.inr h1
   ·rintro (⟨_,h1⟩ | h1)
    ·exact Or.inl h1
    ·exact Or.inr h1
  ·rename_i h
   constructor
   ·exact fun h1=>Or.inr h1
   ·rintro (⟨h1,_⟩ | h1)
    ·exact absurd h1 h
    ·exact h1
theorem told_has {sets T:List (List S74)}(h:Cls sets T)(hs:Short T){s:List S74}(hm:s∈sets){c:Int}(h0:0<=c)(h1:c<=1114111):(withinF T s).contains (classF T c)=hasF s c:=by
 obtain ⟨k,hk,hg⟩:=hk_ h hs h0 h1
 have hx:=List.mem_of_getElem? hg
 obtain ⟨e1,f0,f1,e2⟩:=h.first hs hx
 have sig:=cls_sig h0 h1 e2
 have e3:hasF s c=hasF s (firstF (clsF sets c)):=by
  rw [kx_ h0 h1,kx_ f0 f1]
  exact sig_has sig hm
 rw [e3,Bool.eq_iff_iff,List.contains_iff_mem]
 unfold withinF
 rw [wi_mem,hk]
 constructor
 ·rintro ⟨j,d,g1,g2,g3⟩
  have:j=k:=by omega
  subst this
  rw [List.getElem?_map,hg] at g1
  simp at g1
  rw [g1]
  exact g2
 ·intro g
  exact ⟨k,firstF (clsF sets c),by rw [List.getElem?_map,hg];rfl,g,by omega⟩
theorem ok_form {sets T:List (List S74)}(h:Cls sets T)(hs:Short T){l:List Int}(hl: ∀ x∈l,0<=x∧x<=1114111)(p:S45)(hp:InF sets p):OkT T l (l.map (classF T)) p:=by
 obtain ⟨h2,hk⟩:=hp.parts
 ·refine ⟨p,fun e i hi=>?_,fun q hq=>ok_form h hs hl q (hk q hq)⟩
  have er:rd l (i:Int)=l[i]:=by
   unfold rd
   rw [Int.toNat_natCast,List.getD_eq_getElem?_getD,List.getElem?_eq_getElem hi]
   rfl
  have ew:rd (l.map (classF T)) (i:Int)=classF T l[i]:=by
   unfold rd
   rw [Int.toNat_natCast,List.getD_eq_getElem?_getD,List.getElem?_map,List.getElem?_eq_getElem hi]
   rfl
  have hb:=hl _ (List.getElem_mem hi)
  rw [er,ew]
  unfold sgF
  rw [if_pos e]
  exact told_has h hs (h2 e) hb.1 hb.2
termination_by SizeOf.sizeOf p
decreasing_by exact ev_ hq
theorem word_good {sets T:List (List S74)}(h:Cls sets T)(hs:Short T){l:List Int}(hl: ∀ x∈l,0<=x∧x<=1114111):eachF (classF T) l=(l.map (classF T),0):=by
 unfold eachF
 rw [if_neg]
 intro hb
 obtain ⟨x,hx,hd⟩:=List.any_eq_true.1 hb
 obtain ⟨k,hk,_⟩:=hk_ h hs (hl x hx).1 (hl x hx).2
 have:=of_decide_eq_true hd
 omega
theorem word_bad {sets T:List (List S74)}(h:Cls sets T)(hs:Short T){l:List Int}{x:Int}(hx:x∈l)(hn:¬ (0<=x∧x<=1114111)):(eachF (classF T) l).2=1:=by
 unfold eachF
 rw [if_pos]
 refine List.any_eq_true.2 ⟨x,hx,dt__ ?_⟩
 rw [class_none h hs hn]
 decide
theorem chars_good {sets T:List (List S74)}(h:Cls sets T)(hs:Short T){l:List Int}(hl: ∀ x∈l,0<=x∧x<=1114111):eachF (charF (T.map firstF)) (l.map (classF T))=(l.map (fun x=>firstF (clsF sets x)),0):=by
 have one: ∀ x∈l,charF (T.map firstF) (classF T x)=firstF (clsF sets x):=by
  intro x hx
  obtain ⟨k,hk,hg⟩:=hk_ h hs (hl x hx).1 (hl x hx).2
  have hlt:=(List.getElem?_eq_some_iff.1 hg).1
  unfold charF
  rw [hk,if_neg (by omega),if_neg (by rw [List.length_map];omega)]
  unfold rd
  rw [Int.toNat_natCast,List.getD_eq_getElem?_getD,List.getElem?_map,hg]
  rfl
 unfold eachF
 rw [if_neg]
 ·rw [List.map_map]
  congr 1
  exact List.map_congr_left one
 ·intro hb
  obtain ⟨y,hy,hd⟩:=List.any_eq_true.1 hb
  obtain ⟨x,hx,rfl⟩:=List.mem_map.1 hy
  rw [one x hx] at hd
  have:=(h.first hs (h.all x (hl x hx).1 (hl x hx).2)).2.1
  have:=of_decide_eq_true hd
  omega
theorem word_back {sets T:List (List S74)}(h:Cls sets T)(hs:Short T){l:List Int}(hl: ∀ x∈l,0<=x∧x<=1114111):eachF (classF T) (l.map (fun x=>firstF (clsF sets x)))=(l.map (classF T),0):=by
 rw [word_good h hs]
 ·rw [List.map_map]
  congr 1
  refine List.map_congr_left fun x hx=>?_
  obtain ⟨k,hk,hg⟩:=hk_ h hs (hl x hx).1 (hl x hx).2
  show classF T (firstF (clsF sets x))=_
  rw [class_get h hs hg,hk]
 ·intro y hy
  obtain ⟨x,hx,rfl⟩:=List.mem_map.1 hy
  have:=h.first hs (h.all x (hl x hx).1 (hl x hx).2)
  exact ⟨this.2.1,this.2.2.1⟩
end P
namespace LX
open Shelf YthfceiincmkccaaGreatW.PrintWords.Kd A K L B
theorem one_name (W:World)(x:S87)(A:Option Addr)(c:Nat)(B:Option Addr)(d:Nat)(p:S45)(hx0:x.f0=1)(hx4:x.f4.f0=4)
  (hw: ∀ W',Below W.heap.size W W'->Calls Tryz.prog 135 #[.agg (NdC x.f4 A c),.slice none 0 0] W' (PatAns W' (fun _=>False) p)):
  Calls Tryz.prog 105 #[.agg #[.slice none 0 0,.slice none 0 0,.slice none 0 0,.slice none 0 0],.agg (ItC x A c B d)] W fun e w'=> ∃ A1 c1,e=.returned (.tuple #[.agg #[.slice A1 1 c1,.slice none 0 0,.slice none 0 0,.slice none 0 0],.int .i64 0])∧1<=c1∧Kd.F k93 w' (fun k=>W.heap.size<=k) A1 1 [⟨x.f1,p,true,x.f6⟩]∧Below W.heap.size W w':=by
 have hg:=fun (W':World) (hb:Below W.heap.size W W')=>give_first W' (fun _=>False) x A c B d p hx0 hx4 (fun W2 hb2=>hw W2 (hb.trans (hb2.mono hb.size)))
 unfold ItC at hg ⊢
 rw [hx0] at hg ⊢
 clear hw
 have ea:(W.alloc (.cells #[.slice none 0 0,.slice none 0 0,.slice none 0 0,.slice none 0 0] 27)).heap.size=W.heap.size+1:=Array.size_push _
 have eb:((W.alloc (.cells #[.slice none 0 0,.slice none 0 0,.slice none 0 0,.slice none 0 0] 27)).alloc (.cells #[.int .i64 1,.string x.f1,.int .i64 x.f2,.bool x.f3,.int .i64 x.f4.f0,.string x.f4.f1,.int .i64 x.f4.f2,.int .i64 x.f4.f3,.slice A x.f4.f4.length c,.int .i64 x.f5.f0,.string x.f5.f1,.int .i64 x.f5.f2,.int .i64 x.f5.f3,.slice B x.f5.f4.length d,.int .i64 x.f6] 87)).heap.size=W.heap.size+2:=(Array.size_push _).trans (congrArg (· +1) ea)
 obtain ⟨W1,hW1⟩: ∃ W_,W_=((W.alloc (.cells #[.slice none 0 0,.slice none 0 0,.slice none 0 0,.slice none 0 0] 27)).alloc (.cells #[.int .i64 1,.string x.f1,.int .i64 x.f2,.bool x.f3,.int .i64 x.f4.f0,.string x.f4.f1,.int .i64 x.f4.f2,.int .i64 x.f4.f3,.slice A x.f4.f4.length c,.int .i64 x.f5.f0,.string x.f5.f1,.int .i64 x.f5.f2,.int .i64 x.f5.f3,.slice B x.f5.f4.length d,.int .i64 x.f6] 87)).alloc (.cells #[.slice none 0 0,.slice none 0 0,.slice none 0 0,.slice none 0 0] 27):=⟨_,rfl⟩
 have hb1:Below W.heap.size W W1:=by rw [hW1];exact ab_ (ab_ (ab_ (Below.refl W.heap.size W) _) _) _
 have hk1:W1.heap[W.heap.size]? =some (.cells #[.slice none 0 0,.slice none 0 0,.slice none 0 0,.slice none 0 0] 27 (0,0)):=by rw [hW1];exact ak_ (ak_ (ah_ W _) _) _
 have hi1:W1.heap[W.heap.size+1]? =some (.cells #[.int .i64 1,.string x.f1,.int .i64 x.f2,.bool x.f3,.int .i64 x.f4.f0,.string x.f4.f1,.int .i64 x.f4.f2,.int .i64 x.f4.f3,.slice A x.f4.f4.length c,.int .i64 x.f5.f0,.string x.f5.f1,.int .i64 x.f5.f2,.int .i64 x.f5.f3,.slice B x.f5.f4.length d,.int .i64 x.f6] 87 (0,0)):=by rw [hW1];exact ak_ (ea ▸ ah_ (W.alloc (.cells #[.slice none 0 0,.slice none 0 0,.slice none 0 0,.slice none 0 0] 27)) _) _
 have hr1:W1.heap[W.heap.size+2]? =some (.cells #[.slice none 0 0,.slice none 0 0,.slice none 0 0,.slice none 0 0] 27 (0,0)):=by rw [hW1];exact eb ▸ ah_ ((W.alloc (.cells #[.slice none 0 0,.slice none 0 0,.slice none 0 0,.slice none 0 0] 27)).alloc (.cells #[.int .i64 1,.string x.f1,.int .i64 x.f2,.bool x.f3,.int .i64 x.f4.f0,.string x.f4.f1,.int .i64 x.f4.f2,.int .i64 x.f4.f3,.slice A x.f4.f4.length c,.int .i64 x.f5.f0,.string x.f5.f1,.int .i64 x.f5.f2,.int .i64 x.f5.f3,.slice B x.f5.f4.length d,.int .i64 x.f6] 87)) _
 have i0:=bc_ hi1 0 rfl
 have i1:=bc_ hi1 1 rfl
 have i2:=bc_ hi1 2 rfl
 have i3:=bc_ hi1 3 rfl
 have i4:=bc_ hi1 4 rfl
 have i5:=bc_ hi1 5 rfl
 have i6:=bc_ hi1 6 rfl
 have i7:=bc_ hi1 7 rfl
 have i8:=bc_ hi1 8 rfl
 have i9:=bc_ hi1 9 rfl
 have i10:=bc_ hi1 10 rfl
 have i11:=bc_ hi1 11 rfl
 have i12:=bc_ hi1 12 rfl
 have i13:=bc_ hi1 13 rfl
 have i14:=bc_ hi1 14 rfl
 have k0:=bc_ hk1 0 rfl
 have HG:=Sd.m (hg W1 hb1)
 have HW1:=Sd.m hW1
 have HB1:=Sd.m hb1
 have HK1:=Sd.m hk1
 have HR1:=Sd.m hr1
 have HS1:=Sd.m (bu_ hr1)
 clear hg hb1 hk1 hi1 hr1 ea eb hx0 hx4 hW1
 go_enter Tryz.func105,Tryz.ntmps105
 go_wp2_with fail
 rw [←HW1.out]
 refine HG.out.mono ?_
 rintro e V ⟨A1,c1,rfl,hc1,hF,hb⟩
 have hk:=ae_ HK1.out hb
 have hr:=ae_ HR1.out hb
 clear k0 i0 i1 i2 i3 i4 i5 i6 i7 i8 i9 i10 i11 i12 i13 i14
 have n0:=bc_ hk 0 rfl
 have m0:=aa_ hk 0
 obtain ⟨V5,hV5⟩: ∃ W_,W_=V.setCell ⟨W.heap.size,0,none⟩ (.slice A1 1 c1):=⟨_,rfl⟩
 have hk5:V5.heap[W.heap.size]? =some (.cells #[.slice A1 1 c1,.slice none 0 0,.slice none 0 0,.slice none 0 0] 27 (0,0)):=by rw [hV5];exact cc_ hk 0 _ rfl
 have hr5:V5.heap[W.heap.size+2]? =some (.cells #[.slice none 0 0,.slice none 0 0,.slice none 0 0,.slice none 0 0] 27 (0,0)):=by rw [hV5];exact ed_ (vs:=[.slice A1 1 c1]) (n:=W.heap.size) (by omega) V 0 hr
 have hs1:=HS1.out
 have hF5:Kd.F k93 V5 (fun k=>W1.heap.size<=k) A1 1 [⟨x.f1,p,true,x.f6⟩]:=by rw [hV5];exact cb_ (n:=W.heap.size) (fun k hk=>by omega) [.slice A1 1 c1] V 0 hF
 have hb5:Below W.heap.size W V5:=by rw [hV5];exact cf_ (n:=W.heap.size) (Nat.le_refl _) [.slice A1 1 c1] V 0 (HB1.out.trans (hb.mono HB1.out.size))
 obtain ⟨V6,hV6⟩: ∃ W_,W_=putL V5 (W.heap.size+2) 0 [.slice A1 1 c1,.slice none 0 0,.slice none 0 0,.slice none 0 0]:=⟨_,rfl⟩
 have hr6:V6.heap[W.heap.size+2]? =some (.cells #[.slice A1 1 c1,.slice none 0 0,.slice none 0 0,.slice none 0 0] 27 (0,0)):=by rw [hV6];exact cm_ _ V5 0 _ hr5
 have hF6:Kd.F k93 V6 (fun k=>W.heap.size<=k) A1 1 [⟨x.f1,p,true,x.f6⟩]:=by rw [hV6];exact F_mono (cb_ (n:=W.heap.size+2) (fun k hk=>by omega) _ V5 0 hF5) (fun k hk=>by omega)
 have hb6:Below W.heap.size W V6:=by rw [hV6];exact cf_ (n:=W.heap.size+2) (by omega) _ V5 0 hb5
 replace hV6:V6=(((V5.setCell ⟨W.heap.size+2,0,none⟩ (.slice A1 1 c1)).setCell ⟨W.heap.size+2,1,none⟩ (.slice none 0 0)).setCell ⟨W.heap.size+2,2,none⟩ (.slice none 0 0)).setCell ⟨W.heap.size+2,3,none⟩ (.slice none 0 0):=hV6
 have q0:=bc_ hk5 0 rfl
 have s0:=bc_ hr5 0 rfl
 have z0:=aa_ hr5 0
 have q1:=bc_ hk5 1 rfl
 have s1:=bc_ hr5 1 rfl
 have z1:=aa_ hr5 1
 have q2:=bc_ hk5 2 rfl
 have s2:=bc_ hr5 2 rfl
 have z2:=aa_ hr5 2
 have q3:=bc_ hk5 3 rfl
 have s3:=bc_ hr5 3 rfl
 have z3:=aa_ hr5 3
 have HV5:=Sd.m hV5
 have HV6:=Sd.m hV6
 have HR6:=Sd.m hr6
 have HF6:=Sd.m hF6
 have HB6:=Sd.m hb6
 clear hk hr hV5 hk5 hr5 hs1 hF5 hb5 hV6 hr6 hF6 hb6 hF hb
 go_upto_region 6 with fail
 rw [←HV5.out]
 go_wp2_with fail
 rw [←HV6.out]
 refine bodyPost_ret (ea_ rfl _ _ (W.heap.size+2) 27 #[.slice A1 1 c1,.slice none 0 0,.slice none 0 0,.slice none 0 0] (0,0) _ rfl HR6.out Tryz.underlying27 rfl (by kernel_rfl)) rfl ?_
 exact ⟨A1,c1,rfl,hc1,HF6.out,HB6.out⟩
theorem one_rule (W:World)(P:Nat->Prop)(x:S87)(A:Option Addr)(c:Nat)(B:Option Addr)(d:Nat)(p1 p2:S45)(lv:List S93)(AV:Option Addr)(cv:Nat)(hcv:lv.length<=cv)(hV:Kd.C k93 W AV lv.length lv)
  (lr:List S55) (AR:Option Addr) (cr:Nat) (hcr:lr.length<=cr) (hR:Kd.C k55 W AR lr.length lr) (hlr:lr.length<30) (ls:List S55) (hx0:x.f0=2) (kk:Nat) (hf:bj_.f kk lv lr [] [] x.f2=some (-1))
  (h1: ∀ W',Below W.heap.size W W'->Calls Tryz.prog 135 #[.agg (NdC x.f4 A c),.slice AV lv.length cv] W' (PatAns W' (fun k=>P k∧k<W.heap.size) p1))
  (h2: ∀ W',Below W.heap.size W W'->Calls Tryz.prog 135 #[.agg (NdC x.f5 B d),.slice AV lv.length cv] W' (PatAns W' (fun k=>P k∧k<W.heap.size) p2))
  (hp: ∀ (W':World) (a3:Option Addr) (b3:Nat) (a4:Option Addr) (b4:Nat) (a5:Option Addr) (b5:Nat) (a7:Option Addr) (b7:Nat) (a8:Option Addr) (b8:Nat) (a9:Option Addr) (b9:Nat),Below W.heap.size W W'->W.heap.size+3<=W'.heap.size->Kd.FK k55 W' (fun k=>(P k∧k<W.heap.size)∨W.heap.size+3<=k) ⟨x.f2,x.f3,p1,p2,x.f6⟩ [.int .i64 x.f2,.bool x.f3,.int .i64 p1.f0,.slice a3 p1.f1.length b3,.slice a4 p1.f2.length b4,.slice a5 p1.f3.length b5,.int .i64 p2.f0,.slice a7 p2.f1.length b7,.slice a8 p2.f2.length b8,.slice a9 p2.f3.length b9,.int .i64 x.f6]->
   Calls Tryz.prog 136 #[.slice AR lr.length cr,.agg #[.int .i64 x.f2,.bool x.f3,.int .i64 p1.f0,.slice a3 p1.f1.length b3,.slice a4 p1.f2.length b4,.slice a5 p1.f3.length b5,.int .i64 p2.f0,.slice a7 p2.f1.length b7,.slice a8 p2.f2.length b8,.slice a9 p2.f3.length b9,.int .i64 x.f6]] W' fun e w'=> ∃ A1 c1,e=.returned (.slice A1 ls.length c1)∧ls.length<=c1∧Kd.F k55 w' (fun k=>(P k∧k<W.heap.size)∨W.heap.size+3<=k) A1 ls.length ls∧Below W'.heap.size W' w'):
  Calls Tryz.prog 105 #[.agg #[.slice AV lv.length cv,.slice AR lr.length cr,.slice none 0 0,.slice none 0 0],.agg (ItC x A c B d)] W fun e w'=> ∃ A1 c1,e=.returned (.tuple #[.agg #[.slice AV lv.length cv,.slice A1 ls.length c1,.slice none 0 0,.slice none 0 0],.int .i64 0])∧ls.length<=c1∧Kd.F k55 w' (fun k=>P k∨W.heap.size<=k) A1 ls.length ls∧Below W.heap.size W w':=by
 unfold ItC
 unfold NdC at h1 h2
 rw [hx0]
 have ea:(W.alloc (.cells #[.slice AV lv.length cv,.slice AR lr.length cr,.slice none 0 0,.slice none 0 0] 27)).heap.size=W.heap.size+1:=Array.size_push _
 have eb:((W.alloc (.cells #[.slice AV lv.length cv,.slice AR lr.length cr,.slice none 0 0,.slice none 0 0] 27)).alloc (.cells #[.int .i64 2,.string x.f1,.int .i64 x.f2,.bool x.f3,.int .i64 x.f4.f0,.string x.f4.f1,.int .i64 x.f4.f2,.int .i64 x.f4.f3,.slice A x.f4.f4.length c,.int .i64 x.f5.f0,.string x.f5.f1,.int .i64 x.f5.f2,.int .i64 x.f5.f3,.slice B x.f5.f4.length d,.int .i64 x.f6] 87)).heap.size=W.heap.size+2:=(Array.size_push _).trans (congrArg (· +1) ea)
 obtain ⟨W1,hW1⟩: ∃ W_,W_=((W.alloc (.cells #[.slice AV lv.length cv,.slice AR lr.length cr,.slice none 0 0,.slice none 0 0] 27)).alloc (.cells #[.int .i64 2,.string x.f1,.int .i64 x.f2,.bool x.f3,.int .i64 x.f4.f0,.string x.f4.f1,.int .i64 x.f4.f2,.int .i64 x.f4.f3,.slice A x.f4.f4.length c,.int .i64 x.f5.f0,.string x.f5.f1,.int .i64 x.f5.f2,.int .i64 x.f5.f3,.slice B x.f5.f4.length d,.int .i64 x.f6] 87)).alloc (.cells #[.slice none 0 0,.slice none 0 0,.slice none 0 0,.slice none 0 0] 27):=⟨_,rfl⟩
 have hb1:Below W.heap.size W W1:=by rw [hW1];exact ab_ (ab_ (ab_ (Below.refl W.heap.size W) _) _) _
 have hk1:W1.heap[W.heap.size]? =some (.cells #[.slice AV lv.length cv,.slice AR lr.length cr,.slice none 0 0,.slice none 0 0] 27 (0,0)):=by rw [hW1];exact ak_ (ak_ (ah_ W _) _) _
 have hi1:W1.heap[W.heap.size+1]? =some (.cells #[.int .i64 2,.string x.f1,.int .i64 x.f2,.bool x.f3,.int .i64 x.f4.f0,.string x.f4.f1,.int .i64 x.f4.f2,.int .i64 x.f4.f3,.slice A x.f4.f4.length c,.int .i64 x.f5.f0,.string x.f5.f1,.int .i64 x.f5.f2,.int .i64 x.f5.f3,.slice B x.f5.f4.length d,.int .i64 x.f6] 87 (0,0)):=by rw [hW1];exact ak_ (ea ▸ ah_ (W.alloc (.cells #[.slice AV lv.length cv,.slice AR lr.length cr,.slice none 0 0,.slice none 0 0] 27)) _) _
 have hr1:W1.heap[W.heap.size+2]? =some (.cells #[.slice none 0 0,.slice none 0 0,.slice none 0 0,.slice none 0 0] 27 (0,0)):=by rw [hW1];exact eb ▸ ah_ ((W.alloc (.cells #[.slice AV lv.length cv,.slice AR lr.length cr,.slice none 0 0,.slice none 0 0] 27)).alloc (.cells #[.int .i64 2,.string x.f1,.int .i64 x.f2,.bool x.f3,.int .i64 x.f4.f0,.string x.f4.f1,.int .i64 x.f4.f2,.int .i64 x.f4.f3,.slice A x.f4.f4.length c,.int .i64 x.f5.f0,.string x.f5.f1,.int .i64 x.f5.f2,.int .i64 x.f5.f3,.slice B x.f5.f4.length d,.int .i64 x.f6] 87)) _
 have k0:=bc_ hk1 0 rfl
 have k1:=bc_ hk1 1 rfl
 have k2:=bc_ hk1 2 rfl
 have k3:=bc_ hk1 3 rfl
 have i0:=bc_ hi1 0 rfl
 have i2:=bc_ hi1 2 rfl
 have HFD:=Sd.m (bj_.calls kk AV cv lv AR cr lr none 0 [] none 0 [] x.f2 (-1) W1 (Kd.C_below hV hb1) hcv (Kd.C_below hR hb1) hcr (C_nil _ _) (Nat.le_refl _) (C_nil _ _) (Nat.le_refl _) hf)
 have d30:decide ((30:Int)<=(lr.length:Int))=false:=df__ (by omega)
 have H1:=Sd.m h1
 have H2:=Sd.m h2
 have HP:=Sd.m hp
 have HW1:=Sd.m hW1
 have HB1:=Sd.m hb1
 have HK1:=Sd.m hk1
 have HI1:=Sd.m hi1
 have HR1:=Sd.m hr1
 have HS1:=Sd.m (bu_ hr1)
 clear h1 h2 hp hb1 hk1 hi1 hr1 ea eb hx0 hW1 hV hR hf
 go_enter Tryz.func105,Tryz.ntmps105
 go_wp2_with fail
 rw [←HW1.out]
 refine HFD.out.mono ?_
 rintro e V1 ⟨rfl,hb⟩
 clear k0 k1 k2 k3 i0 i2
 have HBA:=Sd.m (HB1.out.trans (hb.mono HB1.out.size))
 have HKA:=Sd.m (ae_ HK1.out hb)
 have HIA:=Sd.m (ae_ HI1.out hb)
 have HRA:=Sd.m (ae_ HR1.out hb)
 have HSA:=Sd.m hb.size
 clear hb
 have k0:=bc_ HKA.out 0 rfl
 have k1:=bc_ HKA.out 1 rfl
 have i4:=bc_ HIA.out 4 rfl
 have i5:=bc_ HIA.out 5 rfl
 have i6:=bc_ HIA.out 6 rfl
 have i7:=bc_ HIA.out 7 rfl
 have i8:=bc_ HIA.out 8 rfl
 go_wp2_with fail
 refine (H1.out V1 HBA.out).mono ?_
 rintro e V2 ⟨v,rfl,⟨E1,e1,E2,e2,E3,e3,rfl,l1,g1,l2,g2,l3,g3⟩,hb⟩
 clear k0 k1 i4 i5 i6 i7 i8
 have hb3:Below V2.heap.size V2 (V2.alloc (.cells #[.int .i64 p1.f0,.slice E1 p1.f1.length e1,.slice E2 p1.f2.length e2,.slice E3 p1.f3.length e3] 45)):=ab_ (Below.refl _ _) _
 have hp3:=ah_ V2 (.cells #[.int .i64 p1.f0,.slice E1 p1.f1.length e1,.slice E2 p1.f2.length e2,.slice E3 p1.f3.length e3] 45)
 obtain ⟨V3,hV3⟩: ∃ W_,W_=V2.alloc (.cells #[.int .i64 p1.f0,.slice E1 p1.f1.length e1,.slice E2 p1.f2.length e2,.slice E3 p1.f3.length e3] 45):=⟨_,rfl⟩
 rw [←hV3] at hb3 hp3
 have hq:=hb.trans (hb3.mono hb.size)
 have HBB:=Sd.m (HBA.out.trans (hq.mono HBA.out.size))
 have HKB:=Sd.m (ae_ HKA.out hq)
 have HIB:=Sd.m (ae_ HIA.out hq)
 have HRB:=Sd.m (ae_ HRA.out hq)
 have HPB:=Sd.m hp3
 have G1:=Sd.m (F_below g1 hb3)
 have G2:=Sd.m (F_below g2 hb3)
 have G3:=Sd.m (F_below g3 hb3)
 have HV3:=Sd.m hV3
 have HSB:=Sd.m hq.size
 clear hb hb3 hp3 hq g1 g2 g3 hV3
 have k0:=bc_ HKB.out 0 rfl
 have i9:=bc_ HIB.out 9 rfl
 have i10:=bc_ HIB.out 10 rfl
 have i11:=bc_ HIB.out 11 rfl
 have i12:=bc_ HIB.out 12 rfl
 have i13:=bc_ HIB.out 13 rfl
 go_upto_region 13 with fail
 rw [←HV3.out]
 go_wp2_with fail
 refine (H2.out V3 HBB.out).mono ?_
 rintro e V4 ⟨v,rfl,⟨F1,f1,F2,f2,F3,f3,rfl,l4,g4,l5,g5,l6,g6⟩,hb⟩
 clear k0 i9 i10 i11 i12 i13
 have hb5:Below V4.heap.size V4 (V4.alloc (.cells #[.int .i64 p2.f0,.slice F1 p2.f1.length f1,.slice F2 p2.f2.length f2,.slice F3 p2.f3.length f3] 45)):=ab_ (Below.refl _ _) _
 have hp5:=ah_ V4 (.cells #[.int .i64 p2.f0,.slice F1 p2.f1.length f1,.slice F2 p2.f2.length f2,.slice F3 p2.f3.length f3] 45)
 obtain ⟨V5,hV5⟩: ∃ W_,W_=V4.alloc (.cells #[.int .i64 p2.f0,.slice F1 p2.f1.length f1,.slice F2 p2.f2.length f2,.slice F3 p2.f3.length f3] 45):=⟨_,rfl⟩
 rw [←hV5] at hb5 hp5
 have hq:=hb.trans (hb5.mono hb.size)
 have HBC:=Sd.m (HBB.out.trans (hq.mono HBB.out.size))
 have HKC:=Sd.m (ae_ HKB.out hq)
 have HIC:=Sd.m (ae_ HIB.out hq)
 have HRC:=Sd.m (ae_ HRB.out hq)
 have HPC:=Sd.m (ae_ HPB.out hq)
 have HQC:=Sd.m hp5
 have ok1: ∀ k,((P k∧k<W.heap.size)∨V1.heap.size<=k)->((P k∧k<W.heap.size)∨W.heap.size+3<=k):=fun k hk=>Or.elim hk Or.inl (fun hk=>Or.inr (by have:=HS1.out;have:=HSA.out;omega))
 have ok2: ∀ k,((P k∧k<W.heap.size)∨V3.heap.size<=k)->((P k∧k<W.heap.size)∨W.heap.size+3<=k):=fun k hk=>Or.elim hk Or.inl (fun hk=>Or.inr (by have:=HS1.out;have:=HSA.out;have:=HSB.out;omega))
 have hsz:W.heap.size+3<=V5.heap.size:=by have:=HS1.out;have:=HSA.out;have:=HSB.out;have:=hq.size;omega
 have HCP:=Sd.m (HP.out V5 E1 e1 E2 e2 E3 e3 F1 f1 F2 f2 F3 f3 HBC.out hsz (k55_mkF _ _ ⟨x.f2,x.f3,p1,p2,x.f6⟩ l1 (F_mono (F_below G1.out hq) ok1) l2 (F_mono (F_below G2.out hq) ok1) l3 (F_mono (F_below G3.out hq) ok1) l4 (F_mono (F_below g4 hb5) ok2) l5 (F_mono (F_below g5 hb5) ok2) l6 (F_mono (F_below g6 hb5) ok2)))
 have HV5:=Sd.m hV5
 have HSC:=Sd.m hsz
 clear hb hb5 hp5 hq g4 g5 g6 hV5 ok1 ok2 hsz
 have k1:=bc_ HKC.out 1 rfl
 have i2:=bc_ HIC.out 2 rfl
 have i3:=bc_ HIC.out 3 rfl
 have i14:=bc_ HIC.out 14 rfl
 have pp0:=bc_ HPC.out 0 rfl
 have pp1:=bc_ HPC.out 1 rfl
 have pp2:=bc_ HPC.out 2 rfl
 have pp3:=bc_ HPC.out 3 rfl
 have qq0:=bc_ HQC.out 0 rfl
 have qq1:=bc_ HQC.out 1 rfl
 have qq2:=bc_ HQC.out 2 rfl
 have qq3:=bc_ HQC.out 3 rfl
 go_upto_region 16 with fail
 rw [←HV5.out]
 go_wp2_with fail
 refine HCP.out.mono ?_
 rintro e V ⟨A1,c1,rfl,hc1,hF,hb⟩
 clear k1 i2 i3 i14 pp0 pp1 pp2 pp3 qq0 qq1 qq2 qq3
 have hk:=ae_ HKC.out hb
 have hr:=ae_ HRC.out hb
 have n1:=bc_ hk 1 rfl
 have m1:=aa_ hk 1
 obtain ⟨V6,hV6⟩: ∃ W_,W_=V.setCell ⟨W.heap.size,1,none⟩ (.slice A1 ls.length c1):=⟨_,rfl⟩
 have hk6:V6.heap[W.heap.size]? =some (.cells #[.slice AV lv.length cv,.slice A1 ls.length c1,.slice none 0 0,.slice none 0 0] 27 (0,0)):=by rw [hV6];exact cc_ hk 1 _ rfl
 have hr6:V6.heap[W.heap.size+2]? =some (.cells #[.slice none 0 0,.slice none 0 0,.slice none 0 0,.slice none 0 0] 27 (0,0)):=by rw [hV6];exact ed_ (vs:=[.slice A1 ls.length c1]) (n:=W.heap.size) (by omega) V 1 hr
 have okA: ∀ k,((P k∧k<W.heap.size)∨W.heap.size+3<=k)->k≠W.heap.size:=fun k hk=>by rcases hk with hk | hk <;> omega
 have okB: ∀ k,((P k∧k<W.heap.size)∨W.heap.size+3<=k)->k≠W.heap.size+2:=fun k hk=>by rcases hk with hk | hk <;> omega
 have okC: ∀ k,((P k∧k<W.heap.size)∨W.heap.size+3<=k)->(P k∨W.heap.size<=k):=fun k hk=>Or.elim hk (fun h=>Or.inl h.1) (fun h=>Or.inr (by omega))
 have hF6:Kd.F k55 V6 (fun k=>(P k∧k<W.heap.size)∨W.heap.size+3<=k) A1 ls.length ls:=by rw [hV6];exact cb_ (n:=W.heap.size) okA [.slice A1 ls.length c1] V 1 hF
 have hb6:Below W.heap.size W V6:=by rw [hV6];exact cf_ (n:=W.heap.size) (Nat.le_refl _) [.slice A1 ls.length c1] V 1 (HBC.out.trans (hb.mono HBC.out.size))
 obtain ⟨V7,hV7⟩: ∃ W_,W_=putL V6 (W.heap.size+2) 0 [.slice AV lv.length cv,.slice A1 ls.length c1,.slice none 0 0,.slice none 0 0]:=⟨_,rfl⟩
 have hr7:V7.heap[W.heap.size+2]? =some (.cells #[.slice AV lv.length cv,.slice A1 ls.length c1,.slice none 0 0,.slice none 0 0] 27 (0,0)):=by rw [hV7];exact cm_ _ V6 0 _ hr6
 have hF7:Kd.F k55 V7 (fun k=>P k∨W.heap.size<=k) A1 ls.length ls:=by rw [hV7];exact F_mono (cb_ (n:=W.heap.size+2) okB _ V6 0 hF6) okC
 have hb7:Below W.heap.size W V7:=by rw [hV7];exact cf_ (n:=W.heap.size+2) (by omega) _ V6 0 hb6
 replace hV7:V7=(((V6.setCell ⟨W.heap.size+2,0,none⟩ (.slice AV lv.length cv)).setCell ⟨W.heap.size+2,1,none⟩ (.slice A1 ls.length c1)).setCell ⟨W.heap.size+2,2,none⟩ (.slice none 0 0)).setCell ⟨W.heap.size+2,3,none⟩ (.slice none 0 0):=hV7
 have q0:=bc_ hk6 0 rfl
 have s0:=bc_ hr6 0 rfl
 have z0:=aa_ hr6 0
 have q1:=bc_ hk6 1 rfl
 have s1:=bc_ hr6 1 rfl
 have z1:=aa_ hr6 1
 have q2:=bc_ hk6 2 rfl
 have s2:=bc_ hr6 2 rfl
 have z2:=aa_ hr6 2
 have q3:=bc_ hk6 3 rfl
 have s3:=bc_ hr6 3 rfl
 have z3:=aa_ hr6 3
 have HV6:=Sd.m hV6
 have HV7:=Sd.m hV7
 have HR7:=Sd.m hr7
 have HF7:=Sd.m hF7
 have HB7:=Sd.m hb7
 clear hk hr hV6 hk6 hr6 okA okB okC hF6 hb6 hV7 hr7 hF7 hb7 hF hb
 go_upto_region 19 with fail
 rw [←HV6.out]
 go_wp2_with fail
 rw [←HV7.out]
 refine bodyPost_ret (ea_ rfl _ _ (W.heap.size+2) 27 #[.slice AV lv.length cv,.slice A1 ls.length c1,.slice none 0 0,.slice none 0 0] (0,0) _ rfl HR7.out Tryz.underlying27 rfl (by kernel_rfl)) rfl ?_
 exact ⟨A1,c1,rfl,hc1,HF7.out,HB7.out⟩
structure NmAt (W Wb:World) (o0:Option Nat) (A1:Option Addr) (V:List S93) (A2:Option Addr) (R:List S55) (bk:Array Value) (w:World) (v:Value) (xs:List ByteArray):Prop where
 N:Kd.N Kd.string 9 w (W.heap.size+2) (fun j=>W.heap.size+2<=j) v xs
 own: ∀ j,v.ownBlock=some j->o0=some j∨Wb.heap.size<=j
 sz:Wb.heap.size<=w.heap.size
 F1:Kd.F k93 w (fun j=>(W.heap.size+2<=j∧some j≠o0)∧j<Wb.heap.size) A1 V.length V
 F2:Kd.F k55 w (fun j=>(W.heap.size+2<=j∧some j≠o0)∧j<Wb.heap.size) A2 R.length R
 B:Below W.heap.size W w
 r:w.heap[W.heap.size]? =some (.cells #[.slice none 0 0,.slice none 0 0,.slice none 0 0,.slice none 0 0] 27 (0,0))
 b:w.heap[W.heap.size+1]? =some (.cells bk 27 (0,0))
section
variable {W Wb w w1:World} {o0:Option Nat} {A1 A2:Option Addr} {V:List S93} {R:List S55} {bk:Array Value} {v:Value} {xs ys:List ByteArray}
theorem NmAt.below (h:NmAt W Wb o0 A1 V A2 R bk w v xs)(hb:Below w.heap.size w w1):NmAt W Wb o0 A1 V A2 R bk w1 v xs:=
 ⟨N_below h.N hb,h.own,Nat.le_trans h.sz hb.size,F_below h.F1 hb,F_below h.F2 hb,h.B.trans (hb.mono h.B.size),ae_ h.r hb,ae_ h.b hb⟩
theorem NmAt.app {An:Option Addr}{cn:Nat}(h:NmAt W Wb o0 A1 V A2 R bk w (.slice An xs.length cn) xs)(B1:Option Addr)(m1:Nat)(okp:Nat->Prop)(hy:Kd.F Kd.string w okp B1 ys.length ys)(hokp: ∀ k,okp k->W.heap.size+2<=k∧some k≠(Value.slice An xs.length cn).ownBlock)(hl:(xs.length+ys.length)*16<=140737488355328):
  ∃ C1 k1 w1,(Builtin.append_ #[25,25] 25 #[.slice An xs.length cn,.slice B1 ys.length m1]).run Tryz.prog w=.ok (.slice C1 (xs ++ ys).length k1) w1∧NmAt W Wb o0 A1 V A2 R bk w1 (.slice C1 (xs ++ ys).length k1) (xs ++ ys):=by
 have hlt:W.heap.size+2<=w.heap.size:=bu_ h.b
 obtain ⟨v1,w1,hrun,hN,hg,hat⟩:=eg_ (P:=Tryz.prog) Kd.string (W:=w) (W.heap.size+2) 25 25 9 (.string ⟨#[]⟩) 16 Tryz.underlying25 (by kernel_rfl) rfl (by decide) (by decide) (.slice An xs.length cn) xs ys B1 ys.length m1 (fun j=>W.heap.size+2<=j) okp h.N hy hokp (fun k hk=>Nat.le_trans hlt hk) hlt hl
 obtain ⟨C1,k1,rfl⟩:=N_slice hN
 have hbase:=fun k hk=>N_base h.N k hk
 have hQ: ∀ j,((W.heap.size+2<=j∧some j≠o0)∧j<Wb.heap.size)->some j≠(Value.slice An xs.length cn).ownBlock:=fun j hj he=>(h.own j he.symm).elim (fun e=>hj.1.2 e.symm) (fun e=>by have:=hj.2;omega)
 refine ⟨C1,k1,w1,hrun,hN,?_,Nat.le_trans h.sz hg.size,F_grown h.F1 hg hQ,F_grown h.F2 hg hQ,h.B.grown hg h.B.size (fun k hk=>by have:=hbase k hk;omega),?_,?_⟩
 ·intro j hj
  rcases hat with e | ⟨q,e,hq⟩
  ·rw [e] at hj;exact h.own j hj
  ·rw [e] at hj
   injection hj with hj
   exact Or.inr (hj ▸ Nat.le_trans h.sz hq)
 ·exact (hg.block _ (bu_ h.r) (fun e=>by have:=hbase _ e.symm;omega)).trans h.r
 ·exact (hg.block _ (bu_ h.b) (fun e=>by have:=hbase _ e.symm;omega)).trans h.b
end
theorem jp_ (kk:Nat)(nd:S85)(A:Option Addr)(c:Nat)(out:List ByteArray)(w:World)(hC:Kd.C k85 w A nd.f4.length nd.f4)(hc:nd.f4.length<=c)(h:aj_.f kk nd.f0 nd.f1 nd.f2 nd.f3 nd.f4=some out):
  Calls Tryz.prog 106 #[.agg #[.int .i64 nd.f0,.string nd.f1,.int .i64 nd.f2,.int .i64 nd.f3,.slice A nd.f4.length c]] w fun e w'=> ∃ B1 m1,e=.returned (.slice B1 out.length m1)∧Kd.F Kd.string w' (fun j=>w.heap.size<=j∧j<w'.heap.size) B1 out.length out∧Below w.heap.size w w':=by
 refine (aj_.calls kk nd.f0 nd.f1 nd.f2 nd.f3 A c nd.f4 out w hC hc h).mono ?_
 rintro e w' ⟨v0,rfl,hR,hb⟩
 obtain ⟨B1,m1,rfl⟩:=R_slice hR
 exact ⟨B1,m1,rfl,F_mono (N_F (R_N (R_bound hR))) (fun j hj=>⟨hj.2.1,hj.2.2.1⟩),hb⟩
def Cap (A:Option Addr)(n c:Nat):Prop:=n<=c∧(n=0->A=none∧c=0)
def OneStep (W0:World)(it:S87)(V V1:List S93)(R R1:List S55):Prop:=
 ∀ (W:World) (Q:Nat->Prop) (AV:Option Addr) (cv:Nat) (AR:Option Addr) (cr:Nat) (A:Option Addr) (c:Nat) (B:Option Addr) (d:Nat),Below W0.heap.size W0 W->Cap AV V.length cv->Kd.F k93 W Q AV V.length V->Cap AR R.length cr->Kd.F k55 W Q AR R.length R->
  it.f4.f4.length<=c->Kd.C k85 W A it.f4.f4.length it.f4.f4->it.f5.f4.length<=d->Kd.C k85 W B it.f5.f4.length it.f5.f4->
  Calls Tryz.prog 105 #[.agg #[.slice AV V.length cv,.slice AR R.length cr,.slice none 0 0,.slice none 0 0],.agg (ItC it A c B d)] W fun e w'=> ∃ A1 c1 A2 c2,e=.returned (.tuple #[.agg #[.slice A1 V1.length c1,.slice A2 R1.length c2,.slice none 0 0,.slice none 0 0],.int .i64 0])∧Cap A1 V1.length c1∧Kd.F k93 w' (fun k=>(Q k∧k<W.heap.size)∨W.heap.size<=k) A1 V1.length V1∧Cap A2 R1.length c2∧Kd.F k55 w' (fun k=>(Q k∧k<W.heap.size)∨W.heap.size<=k) A2 R1.length R1∧Below W.heap.size W w'
def BuO (W:World)(l:List S87)(LV:Int->List S93)(LR:Int->List S55)(NM:Int->List ByteArray)(t6 t7:Value)(Wx:World):Prop:=
 ∃ (k:Int) (AV:Option Addr) (cv:Nat) (AR:Option Addr) (cr:Nat),0<=k∧k<=(l.length:Int)∧t7=.int .i64 k∧Below W.heap.size W Wx∧Wx.heap[W.heap.size]? =some (.cells #[.slice none 0 0,.slice none 0 0,.slice none 0 0,.slice none 0 0] 27 (0,0))∧
  Wx.heap[W.heap.size+1]? =some (.cells #[.slice AV (LV k).length cv,.slice AR (LR k).length cr,.slice none 0 0,.slice none 0 0] 27 (0,0))∧Cap AV (LV k).length cv∧Cap AR (LR k).length cr∧
  Kd.F k93 Wx (fun j=>W.heap.size+2<=j∧some j≠t6.ownBlock) AV (LV k).length (LV k)∧Kd.F k55 Wx (fun j=>W.heap.size+2<=j∧some j≠t6.ownBlock) AR (LR k).length (LR k)∧Kd.N Kd.string 9 Wx (W.heap.size+2) (fun j=>W.heap.size+2<=j) t6 (NM k)
def BuE (W:World)(v:S93)(R:List S55)(AV:Option Addr)(cv:Nat)(AR:Option Addr)(cr:Nat)(An:Option Addr)(nm:List ByteArray)(t10:Value)(Wx:World):Prop:=
 Kd.F Kd.string Wx (fun j=>W.heap.size+2<=j) An nm.length nm∧
 Below W.heap.size W Wx∧Wx.heap[W.heap.size]? =some (.cells #[.slice none 0 0,.slice none 0 0,.slice none 0 0,.slice none 0 0] 27 (0,0))∧Kd.F k93 Wx (fun j=>W.heap.size+2<=j) AV 1 [v]∧Kd.F k55 Wx (fun j=>W.heap.size+2<=j) AR R.length R∧
 ((t10=.int .i64 0∧Wx.heap[W.heap.size+1]? =some (.cells #[.slice AV 1 cv,.slice AR R.length cr,.slice none 0 0,.slice none 0 0] 27 (0,0)))∨
  (t10=.int .i64 1∧ ∃ AU cu,1<=cu∧Kd.F Kd.string Wx (fun j=>W.heap.size+2<=j) AU 1 [v.f0]∧Wx.heap[W.heap.size+1]? =some (.cells #[.slice AV 1 cv,.slice AR R.length cr,.slice none 0 0,.slice AU 1 cu] 27 (0,0))))
theorem build_loop (W:World)(l:List S87)(A0:Option Addr)(c0:Nat)(hc0:l.length<=c0)(hl:Kd.C k87 W A0 l.length l)(hl9:l.length<=1000)(LV:Int->List S93)(LR:Int->List S55)(NM:Int->List ByteArray)
  (hV0:LV 0=[]) (hR0:LR 0=[]) (hN0:NM 0=[])
  (h1: ∀ k:Int,0<=k->k<(l.length:Int)->OneStep W (al_ l k) (LV k) (LV (k+1)) (LR k) (LR (k+1)))
  (NA NB:Int->List ByteArray) (hNA: ∀ k:Int,0<=k->k<(l.length:Int)-> ∃ kk,aj_.f kk (al_ l k).f4.f0 (al_ l k).f4.f1 (al_ l k).f4.f2 (al_ l k).f4.f3 (al_ l k).f4.f4=some (NA k))
  (hNB: ∀ k:Int,0<=k->k<(l.length:Int)-> ∃ kk,aj_.f kk (al_ l k).f5.f0 (al_ l k).f5.f1 (al_ l k).f5.f2 (al_ l k).f5.f3 (al_ l k).f5.f4=some (NB k))
  (hNM: ∀ k:Int,0<=k->k<(l.length:Int)->NM (k+1)=(NM k ++ NA k) ++ NB k∧(NM (k+1)).length<=1000)
  (vv:S93) (hLV:LV (l.length:Int)=[vv]) (kh:Nat) (hhas:bl_.f kh (NM (l.length:Int)) vv.f0=some true)
  (hk3: ∀ k:Int,0<=k->k<(l.length:Int)->(al_ l k).f0≠3):
  Calls Tryz.prog 71 #[.slice A0 l.length c0] W fun e w'=> ∃ AV cv AR cr AU cu,e=.returned (.tuple #[.agg #[.slice AV 1 cv,.slice AR (LR (l.length:Int)).length cr,.slice none 0 0,.slice AU 1 cu],.int .i64 (-1),.int .i64 0])∧1<=cv∧(LR (l.length:Int)).length<=cr∧1<=cu∧Kd.F k93 w' (fun j=>W.heap.size<=j) AV 1 [vv]∧Kd.F k55 w' (fun j=>W.heap.size<=j) AR (LR (l.length:Int)).length (LR (l.length:Int))∧Kd.F Kd.string w' (fun j=>W.heap.size<=j) AU 1 [vv.f0]∧Below W.heap.size W w':=by
 have ea:(W.alloc (.cells #[.slice none 0 0,.slice none 0 0,.slice none 0 0,.slice none 0 0] 27)).heap.size=W.heap.size+1:=Array.size_push _
 obtain ⟨W1,hW1⟩: ∃ W_,W_=(W.alloc (.cells #[.slice none 0 0,.slice none 0 0,.slice none 0 0,.slice none 0 0] 27)).alloc (.cells #[.slice none 0 0,.slice none 0 0,.slice none 0 0,.slice none 0 0] 27):=⟨_,rfl⟩
 have hb1:Below W.heap.size W W1:=by rw [hW1];exact ab_ (ab_ (Below.refl W.heap.size W) _) _
 have hr1:W1.heap[W.heap.size]? =some (.cells #[.slice none 0 0,.slice none 0 0,.slice none 0 0,.slice none 0 0] 27 (0,0)):=by rw [hW1];exact ak_ (ah_ W _) _
 have hk1:W1.heap[W.heap.size+1]? =some (.cells #[.slice none 0 0,.slice none 0 0,.slice none 0 0,.slice none 0 0] 27 (0,0)):=by rw [hW1];exact ea ▸ ah_ (W.alloc (.cells #[.slice none 0 0,.slice none 0 0,.slice none 0 0,.slice none 0 0] 27)) _
 have H0:BuO W l LV LR NM (.slice none 0 0) (.int .i64 0) W1:=by
  refine ⟨0,none,0,none,0,Int.le_refl _,Int.natCast_nonneg _,rfl,hb1,hr1,?_,?_,?_,?_,?_,?_⟩
  ·rw [hV0,hR0];exact hk1
  ·rw [hV0];exact ⟨Nat.le_refl _,fun _=>⟨rfl,rfl⟩⟩
  ·rw [hR0];exact ⟨Nat.le_refl _,fun _=>⟨rfl,rfl⟩⟩
  ·rw [hV0];exact F_nil _ _ _
  ·rw [hR0];exact F_nil _ _ _
  ·rw [hN0];exact N_nil _ _ _ _ _
 have H0:=Sd.m H0
 have H1:=Sd.m h1
 have HK3:=Sd.m hk3
 have HLV:=Sd.m hLV
 have HHAS:=Sd.m hhas
 clear hLV hhas
 have HNA:=Sd.m hNA
 have HNBF:=Sd.m hNB
 have HNMS:=Sd.m hNM
 clear hNA hNB hNM
 have HL:=Sd.m hl
 have HW1:=Sd.m hW1
 clear ea hb1 hr1 hk1 hW1 h1 hk3 hl hV0 hR0 hN0
 go_enter Tryz.func71,Tryz.ntmps71
 go_wp2_with fail
 rw [←HW1.out]
 go_loopw [6,7,8,9] (fun t6 t7 _ _ Wx=>BuO W l LV LR NM t6 t7 Wx) (fun _ t7 _ _ _=>(l.length - intOf t7).toNat)
 case atStart=>exact H0.out
 case round=>
  obtain ⟨k,AV,cv,AR,cr,hk0,hk,rfl,hb,hbr,hbk,hcv,hcr,hFV,hFR,hNM⟩:=hrel
  obtain ⟨An,cn,rfl⟩:=N_slice hNM
  have hNL:=fun j hj=>N_lt hNM j hj
  have hNB:=fun j hj=>N_base hNM j hj
  have HB:=Sd.m hb
  have HBR:=Sd.m hbr
  have HBK:=Sd.m hbk
  have HFV:=Sd.m hFV
  have HFR:=Sd.m hFR
  have HNM:=Sd.m hNM
  have HNL:=Sd.m hNL
  have HNB:=Sd.m hNB
  clear hb hbr hbk hFV hFR hNM hNL hNB
  by_cases hlt:k<(l.length:Int)
  ·obtain ⟨ad,A8,c8,A13,c13,rfl,k0,k1,k2,k3,k4,k5,k6,k7,k8,k9,k10,k11,k12,k13,k14,l8,g8,l13,g13⟩:=at_T87 (Kd.C_below HL.out HB.out) k hk0 hlt
   have hlt0:=dt__ hlt
   obtain ⟨Vd,hVd⟩: ∃ W_,W_=wr.drew:=⟨_,rfl⟩
   have hbd:Below wr.heap.size wr Vd:=by rw [hVd];exact bq_ (Below.refl _ _)
   have HBD:=Sd.m (HB.out.trans (hbd.mono HB.out.size))
   have S19: ∀ w',Below Vd.heap.size Vd w'->w'.cell? ⟨W.heap.size+1,0,none⟩=some (.slice AV (LV k).length cv)∧w'.cell? ⟨W.heap.size+1,1,none⟩=some (.slice AR (LR k).length cr)∧w'.cell? ⟨W.heap.size+1,2,none⟩=some (.slice none 0 0)∧w'.cell? ⟨W.heap.size+1,3,none⟩=some (.slice none 0 0)∧w'.cell? (ad.add (k.toNat*15))=some (.int .i64 (al_ l k).f0)∧w'.cell? ⟨(ad.add (k.toNat*15)).block,(ad.add (k.toNat*15)).off+1,none⟩=some (.string (al_ l k).f1)∧w'.cell? ⟨(ad.add (k.toNat*15)).block,(ad.add (k.toNat*15)).off+2,none⟩=some (.int .i64 (al_ l k).f2)∧w'.cell? ⟨(ad.add (k.toNat*15)).block,(ad.add (k.toNat*15)).off+3,none⟩=some (.bool (al_ l k).f3)∧w'.cell? ⟨(ad.add (k.toNat*15)).block,(ad.add (k.toNat*15)).off+4,none⟩=some (.int .i64 (al_ l k).f4.f0)∧w'.cell? ⟨(ad.add (k.toNat*15)).block,(ad.add (k.toNat*15)).off+5,none⟩=some (.string (al_ l k).f4.f1)∧w'.cell? ⟨(ad.add (k.toNat*15)).block,(ad.add (k.toNat*15)).off+6,none⟩=some (.int .i64 (al_ l k).f4.f2)∧w'.cell? ⟨(ad.add (k.toNat*15)).block,(ad.add (k.toNat*15)).off+7,none⟩=some (.int .i64 (al_ l k).f4.f3)∧w'.cell? ⟨(ad.add (k.toNat*15)).block,(ad.add (k.toNat*15)).off+8,none⟩=some (.slice A8 (al_ l k).f4.f4.length c8)∧w'.cell? ⟨(ad.add (k.toNat*15)).block,(ad.add (k.toNat*15)).off+9,none⟩=some (.int .i64 (al_ l k).f5.f0)∧w'.cell? ⟨(ad.add (k.toNat*15)).block,(ad.add (k.toNat*15)).off+10,none⟩=some (.string (al_ l k).f5.f1)∧w'.cell? ⟨(ad.add (k.toNat*15)).block,(ad.add (k.toNat*15)).off+11,none⟩=some (.int .i64 (al_ l k).f5.f2)∧w'.cell? ⟨(ad.add (k.toNat*15)).block,(ad.add (k.toNat*15)).off+12,none⟩=some (.int .i64 (al_ l k).f5.f3)∧w'.cell? ⟨(ad.add (k.toNat*15)).block,(ad.add (k.toNat*15)).off+13,none⟩=some (.slice A13 (al_ l k).f5.f4.length c13)∧w'.cell? ⟨(ad.add (k.toNat*15)).block,(ad.add (k.toNat*15)).off+14,none⟩=some (.int .i64 (al_ l k).f6):=by
    intro w' hw'
    have hq:=hbd.trans (hw'.mono hbd.size)
    have a1:=ae_ HBK.out hq
    have cw:=fun (p:Addr) (v:Value) (h:wr.cell? p=some v)=>(hq.cell (bl__ wr _ h)).trans h
    exact ⟨(af_ a1 0).trans rfl,(af_ a1 1).trans rfl,(af_ a1 2).trans rfl,(af_ a1 3).trans rfl,cw _ _ k0,cw _ _ k1,cw _ _ k2,cw _ _ k3,cw _ _ k4,cw _ _ k5,cw _ _ k6,cw _ _ k7,cw _ _ k8,cw _ _ k9,cw _ _ k10,cw _ _ k11,cw _ _ k12,cw _ _ k13,cw _ _ k14⟩
   have HS19:=Sd.m S19
   have BD:=Sd.m (Below.refl Vd.heap.size Vd)
   have ONE:Sd (∀ Wj,Below Vd.heap.size Vd Wj->Calls Tryz.prog 105 #[.agg #[.slice AV (LV k).length cv,.slice AR (LR k).length cr,.slice none 0 0,.slice none 0 0],.agg #[.int .i64 (al_ l k).f0,.string (al_ l k).f1,.int .i64 (al_ l k).f2,.bool (al_ l k).f3,.int .i64 (al_ l k).f4.f0,.string (al_ l k).f4.f1,.int .i64 (al_ l k).f4.f2,.int .i64 (al_ l k).f4.f3,.slice A8 (al_ l k).f4.f4.length c8,.int .i64 (al_ l k).f5.f0,.string (al_ l k).f5.f1,.int .i64 (al_ l k).f5.f2,.int .i64 (al_ l k).f5.f3,.slice A13 (al_ l k).f5.f4.length c13,.int .i64 (al_ l k).f6]] Wj fun e w'=> ∃ A1 c1 A2 c2,e=.returned (.tuple #[.agg #[.slice A1 (LV (k+1)).length c1,.slice A2 (LR (k+1)).length c2,.slice none 0 0,.slice none 0 0],.int .i64 0])∧Cap A1 (LV (k+1)).length c1∧Kd.F k93 w' (fun j=>((W.heap.size+2<=j∧some j≠(Value.slice An (NM k).length cn).ownBlock)∧j<Vd.heap.size)∨Wj.heap.size<=j) A1 (LV (k+1)).length (LV (k+1))∧Cap A2 (LR (k+1)).length c2∧Kd.F k55 w' (fun j=>((W.heap.size+2<=j∧some j≠(Value.slice An (NM k).length cn).ownBlock)∧j<Vd.heap.size)∨Wj.heap.size<=j) A2 (LR (k+1)).length (LR (k+1))∧Below Wj.heap.size Wj w'):=by
    refine ⟨fun Wj hj=>?_⟩
    have hq:=hbd.trans (hj.mono hbd.size)
    have hqW:=HB.out.trans (hq.mono HB.out.size)
    refine (H1.out k hk0 hlt Wj (fun j=>(W.heap.size+2<=j∧some j≠(Value.slice An (NM k).length cn).ownBlock)∧j<Vd.heap.size) AV cv AR cr A8 c8 A13 c13 hqW hcv (F_mono (F_below (F_bound HFV.out) hq) (fun j hj=>⟨hj.1,Nat.lt_of_lt_of_le hj.2 hbd.size⟩)) hcr (F_mono (F_below (F_bound HFR.out) hq) (fun j hj=>⟨hj.1,Nat.lt_of_lt_of_le hj.2 hbd.size⟩)) l8 (Kd.C_below g8 hq) l13 (Kd.C_below g13 hq)).mono ?_
    rintro e w' ⟨A1,c1,A2,c2,he,h1,hF1,h2,hF2,hb⟩
    exact ⟨A1,c1,A2,c2,he,h1,F_mono hF1 (fun j hj=>Or.elim hj (fun h=>Or.inl h.1) Or.inr),h2,F_mono hF2 (fun j hj=>Or.elim hj (fun h=>Or.inl h.1) Or.inr),hb⟩
   have HBDR:=Sd.m hbd
   have HNV:Sd (∀ j,(Value.slice An (NM k).length cn).ownBlock=some j->j<Vd.heap.size):=⟨fun j hj=>Nat.lt_of_lt_of_le (HNL.out j hj) hbd.size⟩
   have HG8:=Sd.m (And.intro l8 g8)
   have HG13:=Sd.m (And.intro l13 g13)
   have HZ2:=Sd.m (show W.heap.size+2<=Vd.heap.size from Nat.le_trans (bu_ HBK.out) hbd.size)
   clear S19 hbd k0 k1 k2 k3 k4 k5 k6 k7 k8 k9 k10 k11 k12 k13 k14 l8 g8 l13 g13
   go_upto_region 6 with fail
   -- REGION 6
   refine start_ (n:=12) (S:=fun w'=>w'.cell? ⟨W.heap.size+1,0,none⟩=some (.slice AV (LV k).length cv)∧w'.cell? ⟨W.heap.size+1,1,none⟩=some (.slice AR (LR k).length cr)∧w'.cell? ⟨W.heap.size+1,2,none⟩=some (.slice none 0 0)∧w'.cell? ⟨W.heap.size+1,3,none⟩=some (.slice none 0 0)∧w'.cell? (ad.add (k.toNat*15))=some (.int .i64 (al_ l k).f0)∧w'.cell? ⟨(ad.add (k.toNat*15)).block,(ad.add (k.toNat*15)).off+1,none⟩=some (.string (al_ l k).f1)∧w'.cell? ⟨(ad.add (k.toNat*15)).block,(ad.add (k.toNat*15)).off+2,none⟩=some (.int .i64 (al_ l k).f2)∧w'.cell? ⟨(ad.add (k.toNat*15)).block,(ad.add (k.toNat*15)).off+3,none⟩=some (.bool (al_ l k).f3)∧w'.cell? ⟨(ad.add (k.toNat*15)).block,(ad.add (k.toNat*15)).off+4,none⟩=some (.int .i64 (al_ l k).f4.f0)∧w'.cell? ⟨(ad.add (k.toNat*15)).block,(ad.add (k.toNat*15)).off+5,none⟩=some (.string (al_ l k).f4.f1)∧w'.cell? ⟨(ad.add (k.toNat*15)).block,(ad.add (k.toNat*15)).off+6,none⟩=some (.int .i64 (al_ l k).f4.f2)∧w'.cell? ⟨(ad.add (k.toNat*15)).block,(ad.add (k.toNat*15)).off+7,none⟩=some (.int .i64 (al_ l k).f4.f3)∧w'.cell? ⟨(ad.add (k.toNat*15)).block,(ad.add (k.toNat*15)).off+8,none⟩=some (.slice A8 (al_ l k).f4.f4.length c8)∧w'.cell? ⟨(ad.add (k.toNat*15)).block,(ad.add (k.toNat*15)).off+9,none⟩=some (.int .i64 (al_ l k).f5.f0)∧w'.cell? ⟨(ad.add (k.toNat*15)).block,(ad.add (k.toNat*15)).off+10,none⟩=some (.string (al_ l k).f5.f1)∧w'.cell? ⟨(ad.add (k.toNat*15)).block,(ad.add (k.toNat*15)).off+11,none⟩=some (.int .i64 (al_ l k).f5.f2)∧w'.cell? ⟨(ad.add (k.toNat*15)).block,(ad.add (k.toNat*15)).off+12,none⟩=some (.int .i64 (al_ l k).f5.f3)∧w'.cell? ⟨(ad.add (k.toNat*15)).block,(ad.add (k.toNat*15)).off+13,none⟩=some (.slice A13 (al_ l k).f5.f4.length c13)∧w'.cell? ⟨(ad.add (k.toNat*15)).block,(ad.add (k.toNat*15)).off+14,none⟩=some (.int .i64 (al_ l k).f6)) (ds:=[10]) #[false,false,false,false,false,false,false,false,false,false,false,false] (by kernel_rfl) rfl rfl (by rw [←hVd];exact (HS19.out _ (Below.refl _ _))) (fun hHeld=>?_)
   rw [←hVd] at hHeld ⊢
   clear hVd
   refine pu_ 1 19 ?_
   refine pu_ 2 20 ?_
   refine pu_ 3 21 ?_
   refine ta_ 0 18 hHeld ?_
   refine ta_ 4 22 hHeld ?_
   refine join_ (σ:=(Option Addr × Nat) × (Option Addr × Nat) × Nat) 2 #[true,true,true,true,true,true,true,true,true,true,false,false] (fun s=>[(23,.tuple #[.agg #[.slice s.1.1 (LV (k+1)).length s.1.2,.slice s.2.1.1 (LR (k+1)).length s.2.1.2,.slice none 0 0,.slice none 0 0],.int .i64 0]),(17,.tuple #[.agg #[.slice s.1.1 (LV (k+1)).length s.1.2,.slice s.2.1.1 (LR (k+1)).length s.2.1.2,.slice none 0 0,.slice none 0 0],.int .i64 0]),(24,.agg #[.slice s.1.1 (LV (k+1)).length s.1.2,.slice s.2.1.1 (LR (k+1)).length s.2.1.2,.slice none 0 0,.slice none 0 0]),(25,.int .i64 0),(8,.pointer (some ⟨s.2.2,0,none⟩))]) (fun s w'=>(w'.cell? ⟨W.heap.size+1,0,none⟩=some (.slice AV (LV k).length cv)∧w'.cell? ⟨W.heap.size+1,1,none⟩=some (.slice AR (LR k).length cr)∧w'.cell? ⟨W.heap.size+1,2,none⟩=some (.slice none 0 0)∧w'.cell? ⟨W.heap.size+1,3,none⟩=some (.slice none 0 0)∧w'.cell? (ad.add (k.toNat*15))=some (.int .i64 (al_ l k).f0)∧w'.cell? ⟨(ad.add (k.toNat*15)).block,(ad.add (k.toNat*15)).off+1,none⟩=some (.string (al_ l k).f1)∧w'.cell? ⟨(ad.add (k.toNat*15)).block,(ad.add (k.toNat*15)).off+2,none⟩=some (.int .i64 (al_ l k).f2)∧w'.cell? ⟨(ad.add (k.toNat*15)).block,(ad.add (k.toNat*15)).off+3,none⟩=some (.bool (al_ l k).f3)∧w'.cell? ⟨(ad.add (k.toNat*15)).block,(ad.add (k.toNat*15)).off+4,none⟩=some (.int .i64 (al_ l k).f4.f0)∧w'.cell? ⟨(ad.add (k.toNat*15)).block,(ad.add (k.toNat*15)).off+5,none⟩=some (.string (al_ l k).f4.f1)∧w'.cell? ⟨(ad.add (k.toNat*15)).block,(ad.add (k.toNat*15)).off+6,none⟩=some (.int .i64 (al_ l k).f4.f2)∧w'.cell? ⟨(ad.add (k.toNat*15)).block,(ad.add (k.toNat*15)).off+7,none⟩=some (.int .i64 (al_ l k).f4.f3)∧w'.cell? ⟨(ad.add (k.toNat*15)).block,(ad.add (k.toNat*15)).off+8,none⟩=some (.slice A8 (al_ l k).f4.f4.length c8)∧w'.cell? ⟨(ad.add (k.toNat*15)).block,(ad.add (k.toNat*15)).off+9,none⟩=some (.int .i64 (al_ l k).f5.f0)∧w'.cell? ⟨(ad.add (k.toNat*15)).block,(ad.add (k.toNat*15)).off+10,none⟩=some (.string (al_ l k).f5.f1)∧w'.cell? ⟨(ad.add (k.toNat*15)).block,(ad.add (k.toNat*15)).off+11,none⟩=some (.int .i64 (al_ l k).f5.f2)∧w'.cell? ⟨(ad.add (k.toNat*15)).block,(ad.add (k.toNat*15)).off+12,none⟩=some (.int .i64 (al_ l k).f5.f3)∧w'.cell? ⟨(ad.add (k.toNat*15)).block,(ad.add (k.toNat*15)).off+13,none⟩=some (.slice A13 (al_ l k).f5.f4.length c13)∧w'.cell? ⟨(ad.add (k.toNat*15)).block,(ad.add (k.toNat*15)).off+14,none⟩=some (.int .i64 (al_ l k).f6))∧Cap s.1.1 (LV (k+1)).length s.1.2∧Kd.F k93 w' (fun j=>(W.heap.size+2<=j∧some j≠(Value.slice An (NM k).length cn).ownBlock)∧j≠s.2.2) s.1.1 (LV (k+1)).length (LV (k+1))∧Cap s.2.1.1 (LR (k+1)).length s.2.1.2∧Kd.F k55 w' (fun j=>(W.heap.size+2<=j∧some j≠(Value.slice An (NM k).length cn).ownBlock)∧j≠s.2.2) s.2.1.1 (LR (k+1)).length (LR (k+1))∧w'.heap[s.2.2]? =some (.cells #[.slice none 0 0,.slice none 0 0,.slice none 0 0,.slice none 0 0] 27 (0,0))∧Vd.heap.size<=s.2.2∧Below Vd.heap.size Vd w') ?_ ?_
   rotate_left
   ·intro hCont
    refine two_ (i:=5) (j:=9) (Ni:=some 23) (Nj:=some 8) #[true,true,true,true,true,true,false,false,false,false,false,false] #[true,true,true,true,true,false,false,false,false,true,false,false] rfl rfl rfl rfl (by kernel_rfl) (by decide) (by decide) (fun K hK=>?_) (fun K hK=>?_)
    ·skip
     refine goes_ Tryz.func105 (by kernel_rfl) rfl #[.agg #[.slice AV (LV k).length cv,.slice AR (LR k).length cr,.slice none 0 0,.slice none 0 0],.agg #[.int .i64 (al_ l k).f0,.string (al_ l k).f1,.int .i64 (al_ l k).f2,.bool (al_ l k).f3,.int .i64 (al_ l k).f4.f0,.string (al_ l k).f4.f1,.int .i64 (al_ l k).f4.f2,.int .i64 (al_ l k).f4.f3,.slice A8 (al_ l k).f4.f4.length c8,.int .i64 (al_ l k).f5.f0,.string (al_ l k).f5.f1,.int .i64 (al_ l k).f5.f2,.int .i64 (al_ l k).f5.f3,.slice A13 (al_ l k).f5.f4.length c13,.int .i64 (al_ l k).f6]] (by rfl) rfl rfl (by simp only [List.map_toArray,List.map_cons,List.map_nil];rfl) ?_
     with_reducible refine (ONE.out Vd BD.out).mono ?_
     rintro e_ Wq1 ⟨A1,c1,A2,c2,rfl,hl1,hF1,hl2,hF2,hb_⟩
     refine ⟨_,rfl,?_⟩
     have hB_:Below Vd.heap.size Vd Wq1:=BD.out.trans (hb_.mono BD.out.size)
     have BWq1:=Sd.m hB_
     have HLL:=Sd.m (And.intro hl1 hl2)
     have HF1:=Sd.m hF1
     have HF2:=Sd.m hF2
     clear hl1 hl2 hF1 hF2 hb_ hB_
     refine hK.out _ _ (HS19.out _ BWq1.out) (fun hHeld=>?_)
     clear hK K
     refine no_ 23 ?_
     refine pu_ 6 17 ?_
     refine pu_ 7 24 ?_
     refine pu_ 8 25 ?_
     refine on_ 9 8 (fun K hK=>?_)
     refine value_ (w1:=?_) (v:=?_) (by rfl) rfl ?_ ?_
     rotate_left 2
     ·go_simp
      constructor
      ·rfl
      ·rfl
     have hT:=ah_ Wq1 (.cells #[.slice none 0 0,.slice none 0 0,.slice none 0 0,.slice none 0 0] 27)
     have hb_:=ab_ (Below.refl Wq1.heap.size Wq1) (.cells #[.slice none 0 0,.slice none 0 0,.slice none 0 0,.slice none 0 0] 27)
     have hs_:(Wq1.alloc (.cells #[.slice none 0 0,.slice none 0 0,.slice none 0 0,.slice none 0 0] 27)).heap.size=Wq1.heap.size+1:=Array.size_push _
     have ok_: ∀ j,((((W.heap.size+2<=j∧some j≠(Value.slice An (NM k).length cn).ownBlock)∧j<Vd.heap.size)∨Vd.heap.size<=j)∧j<Wq1.heap.size)->((W.heap.size+2<=j∧some j≠(Value.slice An (NM k).length cn).ownBlock)∧j≠Wq1.heap.size):=fun j hj=>by have h3_:=HZ2.out;exact Or.elim hj.1 (fun hk=>⟨hk.1,Nat.ne_of_lt hj.2⟩) (fun hk=>⟨⟨by omega,fun he=>by have:=HNV.out j he.symm;omega⟩,Nat.ne_of_lt hj.2⟩)
     have hF1:=F_mono (F_below (F_bound HF1.out) hb_) ok_
     have hF2:=F_mono (F_below (F_bound HF2.out) hb_) ok_
     clear ok_
     have hB_:Below Vd.heap.size Vd _:=BWq1.out.trans (hb_.mono BWq1.out.size)
     generalize Wq1.alloc (.cells #[.slice none 0 0,.slice none 0 0,.slice none 0 0,.slice none 0 0] 27)=Wq2 at hT hb_ hs_ hB_ hF1 hF2 ⊢
     have HT:=Sd.m hT
     have BWq2:=Sd.m hB_
     have SZ2:=Sd.m hs_
     clear HF1 HF2
     have HF1:=Sd.m hF1
     have HF2:=Sd.m hF2
     clear hF1 hF2
     clear hT hb_ hB_ hs_
     refine hK.out _ _ (HS19.out _ BWq2.out) (fun hHeld=>?_)
     clear hK K
     refine no_ 8 ?_
     refine norm_ ?_ (hCont ((A1,c1),(A2,c2),Wq1.heap.size) _ ?_)
     ·first | (simp only [putAll,Act.put,List.setIfInBounds_toArray,List.set_cons_zero,List.set_cons_succ];done) | (simp only [putAll,Act.put,List.setIfInBounds_toArray,List.set_cons_zero,List.set_cons_succ];rfl)
     exact ⟨hHeld,HLL.out.1,HF1.out,HLL.out.2,HF2.out,HT.out,by exact BWq1.out.size,BWq2.out⟩
    ·skip
     refine value_ (w1:=?_) (v:=?_) (by rfl) rfl ?_ ?_
     rotate_left 2
     ·go_simp
      constructor
      ·rfl
      ·rfl
     have hT:=ah_ Vd (.cells #[.slice none 0 0,.slice none 0 0,.slice none 0 0,.slice none 0 0] 27)
     have hb_:=ab_ (Below.refl Vd.heap.size Vd) (.cells #[.slice none 0 0,.slice none 0 0,.slice none 0 0,.slice none 0 0] 27)
     have hs_:(Vd.alloc (.cells #[.slice none 0 0,.slice none 0 0,.slice none 0 0,.slice none 0 0] 27)).heap.size=Vd.heap.size+1:=Array.size_push _
     have hB_:Below Vd.heap.size Vd _:=BD.out.trans (hb_.mono BD.out.size)
     generalize Vd.alloc (.cells #[.slice none 0 0,.slice none 0 0,.slice none 0 0,.slice none 0 0] 27)=Wq1 at hT hb_ hs_ hB_ ⊢
     have HT:=Sd.m hT
     have BWq1:=Sd.m hB_
     have SZ1:=Sd.m hs_
     clear hT hb_ hB_ hs_
     refine hK.out _ _ (HS19.out _ BWq1.out) (fun hHeld=>?_)
     clear hK K
     refine no_ 8 ?_
     refine on_ 5 23 (fun K hK=>?_)
     refine goes_ Tryz.func105 (by kernel_rfl) rfl #[.agg #[.slice AV (LV k).length cv,.slice AR (LR k).length cr,.slice none 0 0,.slice none 0 0],.agg #[.int .i64 (al_ l k).f0,.string (al_ l k).f1,.int .i64 (al_ l k).f2,.bool (al_ l k).f3,.int .i64 (al_ l k).f4.f0,.string (al_ l k).f4.f1,.int .i64 (al_ l k).f4.f2,.int .i64 (al_ l k).f4.f3,.slice A8 (al_ l k).f4.f4.length c8,.int .i64 (al_ l k).f5.f0,.string (al_ l k).f5.f1,.int .i64 (al_ l k).f5.f2,.int .i64 (al_ l k).f5.f3,.slice A13 (al_ l k).f5.f4.length c13,.int .i64 (al_ l k).f6]] (by rfl) rfl rfl (by simp only [List.map_toArray,List.map_cons,List.map_nil];rfl) ?_
     with_reducible refine (ONE.out Wq1 BWq1.out).mono ?_
     rintro e_ Wq2 ⟨A1,c1,A2,c2,rfl,hl1,hF1,hl2,hF2,hb_⟩
     refine ⟨_,rfl,?_⟩
     have hB_:Below Vd.heap.size Vd Wq2:=BWq1.out.trans (hb_.mono BWq1.out.size)
     have hT_:=ae_ HT.out hb_
     clear HT
     have HT:=Sd.m hT_
     clear hT_
     have BWq2:=Sd.m hB_
     have HLL:=Sd.m (And.intro hl1 hl2)
     have ok_: ∀ j,(((W.heap.size+2<=j∧some j≠(Value.slice An (NM k).length cn).ownBlock)∧j<Vd.heap.size)∨Wq1.heap.size<=j)->((W.heap.size+2<=j∧some j≠(Value.slice An (NM k).length cn).ownBlock)∧j≠Vd.heap.size):=fun j hj=>by have h1_:=SZ1.out;have h3_:=HZ2.out;exact Or.elim hj (fun hj=>⟨hj.1,Nat.ne_of_lt hj.2⟩) (fun hj=>⟨⟨by omega,fun he=>by have:=HNV.out j he.symm;omega⟩,by omega⟩)
     have HF1:=Sd.m (F_mono hF1 ok_)
     have HF2:=Sd.m (F_mono hF2 ok_)
     clear ok_
     clear hl1 hl2 hF1 hF2 hb_ hB_
     refine hK.out _ _ (HS19.out _ BWq2.out) (fun hHeld=>?_)
     clear hK K
     refine no_ 23 ?_
     refine pu_ 6 17 ?_
     refine pu_ 7 24 ?_
     refine pu_ 8 25 ?_
     refine norm_ ?_ (hCont ((A1,c1),(A2,c2),Vd.heap.size) _ ?_)
     ·first | (simp only [putAll,Act.put,List.setIfInBounds_toArray,List.set_cons_zero,List.set_cons_succ];done) | (simp only [putAll,Act.put,List.setIfInBounds_toArray,List.set_cons_zero,List.set_cons_succ];rfl)
     exact ⟨hHeld,HLL.out.1,HF1.out,HLL.out.2,HF2.out,HT.out,by exact Nat.le_refl _,BWq2.out⟩
   rintro ⟨⟨A1,c1⟩,⟨A2,c2⟩,g8⟩ Wj ⟨hHeld,hl1,hF1,hl2,hF2,hT,hg8,hbj⟩
   dsimp only at hl1 hF1 hl2 hF2 hT hg8
   dsimp only [putAll]
   have n0:=bc_ hT 0 rfl
   have n1:=bc_ hT 1 rfl
   have n2:=bc_ hT 2 rfl
   have n3:=bc_ hT 3 rfl
   have m0:=aa_ hT 0
   have m1:=aa_ hT 1
   have m2:=aa_ hT 2
   have m3:=aa_ hT 3
   have HF1:=Sd.m hF1
   have HF2:=Sd.m hF2
   have HT:=Sd.m hT
   have HBJ:=Sd.m hbj
   have HG8_:=Sd.m hg8
   clear hF1 hF2 hT hbj hg8
   refine norm_ (a':=?_) ?_ ?_
   rotate_left
   ·simp only [putAll,Act.put,List.setIfInBounds_toArray,List.set_cons_zero,List.set_cons_succ]
    rfl
   refine last_ (i:=10) (N:=none) #[true,true,true,true,true,true,true,true,true,true,true,false] rfl rfl (by kernel_rfl) (by decide) (fun K hK=>?_)
   refine skip_ (w1:=?_) (by rfl) rfl ?_ ?_
   rotate_left
   ·go_simp
    rfl
   refine hK.out _ _ ?_
   clear hK K
   refine pu_ 11 9 ?_
   refine done_ (by kernel_rfl) ?_
   obtain ⟨Wa,hWa⟩: ∃ W_,W_=putL Wj g8 0 [.slice A1 (LV (k+1)).length c1,.slice A2 (LR (k+1)).length c2,.slice none 0 0,.slice none 0 0]:=⟨_,rfl⟩
   have hg8:=HG8_.out
   have hz2:=HZ2.out
   have hbA:Below Vd.heap.size Vd Wa:=by rw [hWa];exact cf_ hg8 _ Wj 0 HBJ.out
   have hta:Wa.heap[g8]? =some (.cells #[.slice A1 (LV (k+1)).length c1,.slice A2 (LR (k+1)).length c2,.slice none 0 0,.slice none 0 0] 27 (0,0)):=by rw [hWa];exact cm_ _ Wj 0 _ HT.out
   have hF1a:Kd.F k93 Wa (fun j=>W.heap.size+2<=j∧some j≠(Value.slice An (NM k).length cn).ownBlock) A1 (LV (k+1)).length (LV (k+1)):=by rw [hWa];exact F_mono (cb_ (n:=g8) (fun j hj=>hj.2) _ Wj 0 HF1.out) (fun j hj=>hj.1)
   have hF2a:Kd.F k55 Wa (fun j=>W.heap.size+2<=j∧some j≠(Value.slice An (NM k).length cn).ownBlock) A2 (LR (k+1)).length (LR (k+1)):=by rw [hWa];exact F_mono (cb_ (n:=g8) (fun j hj=>hj.2) _ Wj 0 HF2.out) (fun j hj=>hj.1)
   have hqa:=HBDR.out.trans (hbA.mono HBDR.out.size)
   have hka:=ae_ HBK.out hqa
   have hra:=ae_ HBR.out hqa
   have hna:=N_below HNM.out hqa
   obtain ⟨Wb,hWb⟩: ∃ W_,W_=putL Wa (W.heap.size+1) 0 [.slice A1 (LV (k+1)).length c1,.slice A2 (LR (k+1)).length c2,.slice none 0 0,.slice none 0 0]:=⟨_,rfl⟩
   have hkb:Wb.heap[W.heap.size+1]? =some (.cells #[.slice A1 (LV (k+1)).length c1,.slice A2 (LR (k+1)).length c2,.slice none 0 0,.slice none 0 0] 27 (0,0)):=by rw [hWb];exact cm_ _ Wa 0 _ hka
   have hrb:Wb.heap[W.heap.size]? =some (.cells #[.slice none 0 0,.slice none 0 0,.slice none 0 0,.slice none 0 0] 27 (0,0)):=by rw [hWb];exact ed_ (n:=W.heap.size+1) (by omega) _ Wa 0 hra
   have hF1b:Kd.F k93 Wb (fun j=>W.heap.size+2<=j∧some j≠(Value.slice An (NM k).length cn).ownBlock) A1 (LV (k+1)).length (LV (k+1)):=by rw [hWb];exact cb_ (n:=W.heap.size+1) (fun j hj=>by have:=hj.1;omega) _ Wa 0 hF1a
   have hF2b:Kd.F k55 Wb (fun j=>W.heap.size+2<=j∧some j≠(Value.slice An (NM k).length cn).ownBlock) A2 (LR (k+1)).length (LR (k+1)):=by rw [hWb];exact cb_ (n:=W.heap.size+1) (fun j hj=>by have:=hj.1;omega) _ Wa 0 hF2a
   have hbB:Below W.heap.size W Wb:=by rw [hWb];exact cf_ (n:=W.heap.size+1) (by omega) _ Wa 0 (HB.out.trans (hqa.mono HB.out.size))
   replace hWa:Wa=(((Wj.setCell ⟨g8,0,none⟩ (.slice A1 (LV (k+1)).length c1)).setCell ⟨g8,1,none⟩ (.slice A2 (LR (k+1)).length c2)).setCell ⟨g8,2,none⟩ (.slice none 0 0)).setCell ⟨g8,3,none⟩ (.slice none 0 0):=hWa
   replace hWb:Wb=(((Wa.setCell ⟨W.heap.size+1,0,none⟩ (.slice A1 (LV (k+1)).length c1)).setCell ⟨W.heap.size+1,1,none⟩ (.slice A2 (LR (k+1)).length c2)).setCell ⟨W.heap.size+1,2,none⟩ (.slice none 0 0)).setCell ⟨W.heap.size+1,3,none⟩ (.slice none 0 0):=hWb
   have okn: ∀ j,W.heap.size+2<=j->j≠W.heap.size+1:=fun j hj=>by omega
   have hnb:Kd.N Kd.string 9 Wb (W.heap.size+2) (fun j=>W.heap.size+2<=j) (.slice An (NM k).length cn) (NM k):=by
    rw [hWb]
    exact N_far (p:=⟨W.heap.size+1,3,none⟩) (N_far (p:=⟨W.heap.size+1,2,none⟩) (N_far (p:=⟨W.heap.size+1,1,none⟩) (N_far (p:=⟨W.heap.size+1,0,none⟩) hna okn _) okn _) okn _) okn _
   have q0:=bc_ hta 0 rfl
   have s0:=bc_ hka 0 rfl
   have z0:=aa_ hka 0
   have q1:=bc_ hta 1 rfl
   have s1:=bc_ hka 1 rfl
   have z1:=aa_ hka 1
   have q2:=bc_ hta 2 rfl
   have s2:=bc_ hka 2 rfl
   have z2:=aa_ hka 2
   have q3:=bc_ hta 3 rfl
   have s3:=bc_ hka 3 rfl
   have z3:=aa_ hka 3
   have HWA:=Sd.m hWa
   have HWB:=Sd.m hWb
   have HKB:=Sd.m hkb
   have HRB:=Sd.m hrb
   have HF1B:=Sd.m hF1b
   have HF2B:=Sd.m hF2b
   have HBB:=Sd.m hbB
   have HNB2:=Sd.m hnb
   clear n0 n1 n2 n3 m0 m1 m2 m3 hWa hWb hkb hrb hF1b hF2b hbB hnb hg8 hz2 hbA hta hF1a hF2a hqa hka hra hna okn HF1 HF2 HT HBJ HG8_ HFV HFR
   go_upto_region 9 with fail
   rw [←HWA.out]
   go_upto_region 10 with fail
   rw [←HWB.out]
   obtain ⟨ad2,B8,e8,B13,e13,he,j0,j1,j2,j3,j4,j5,j6,j7,j8,j9,j10,j11,j12,j13,j14,l8,g8,l13,g13⟩:=at_T87 HL.out k hk0 hlt
   injection he with he
   subst he
   have cw:=fun (w:World) (hw:Below W.heap.size W w) (p:Addr) (v:Value) (h:W.cell? p=some v)=>(hw.cell (bl__ W _ h)).trans h
   have hk3:((al_ l k).f0 == 3)=false:=by simpa using HK3.out k hk0 hlt
   have i0:=cw Wb HBB.out _ _ j0
   obtain ⟨kA,hA⟩:=HNA.out k hk0 hlt
   obtain ⟨kB,hB⟩:=HNBF.out k hk0 hlt
   obtain ⟨hM,hM9⟩:=HNMS.out k hk0 hlt
   have HM:=Sd.m hM
   have hM1:(NM k).length+(NA k).length+(NB k).length<=1000:=by rw [hM] at hM9;simp only [List.length_append] at hM9;omega
   have HM9:=Sd.m hM1
   have NMA:Sd (∀ w,Below W.heap.size W w->Calls Tryz.prog 106 #[.agg #[.int .i64 (al_ l k).f4.f0,.string (al_ l k).f4.f1,.int .i64 (al_ l k).f4.f2,.int .i64 (al_ l k).f4.f3,.slice B8 (al_ l k).f4.f4.length e8]] w fun e w'=> ∃ B1 m1,e=.returned (.slice B1 (NA k).length m1)∧Kd.F Kd.string w' (fun j=>w.heap.size<=j∧j<w'.heap.size) B1 (NA k).length (NA k)∧Below w.heap.size w w'):=⟨fun w hw=>jp_ kA _ B8 e8 _ w (Kd.C_below g8 hw) l8 hA⟩
   have NMB:Sd (∀ w,Below W.heap.size W w->Calls Tryz.prog 106 #[.agg #[.int .i64 (al_ l k).f5.f0,.string (al_ l k).f5.f1,.int .i64 (al_ l k).f5.f2,.int .i64 (al_ l k).f5.f3,.slice B13 (al_ l k).f5.f4.length e13]] w fun e w'=> ∃ B1 m1,e=.returned (.slice B1 (NB k).length m1)∧Kd.F Kd.string w' (fun j=>w.heap.size<=j∧j<w'.heap.size) B1 (NB k).length (NB k)∧Below w.heap.size w w'):=⟨fun w hw=>jp_ kB _ B13 e13 _ w (Kd.C_below g13 hw) l13 hB⟩
   have HS10:Sd (∀ w',Below W.heap.size W w'->w'.cell? ⟨(ad.add (k.toNat*15)).block,(ad.add (k.toNat*15)).off+4,none⟩=some (.int .i64 (al_ l k).f4.f0)∧w'.cell? ⟨(ad.add (k.toNat*15)).block,(ad.add (k.toNat*15)).off+5,none⟩=some (.string (al_ l k).f4.f1)∧w'.cell? ⟨(ad.add (k.toNat*15)).block,(ad.add (k.toNat*15)).off+6,none⟩=some (.int .i64 (al_ l k).f4.f2)∧w'.cell? ⟨(ad.add (k.toNat*15)).block,(ad.add (k.toNat*15)).off+7,none⟩=some (.int .i64 (al_ l k).f4.f3)∧w'.cell? ⟨(ad.add (k.toNat*15)).block,(ad.add (k.toNat*15)).off+8,none⟩=some (.slice B8 (al_ l k).f4.f4.length e8)∧w'.cell? ⟨(ad.add (k.toNat*15)).block,(ad.add (k.toNat*15)).off+9,none⟩=some (.int .i64 (al_ l k).f5.f0)∧w'.cell? ⟨(ad.add (k.toNat*15)).block,(ad.add (k.toNat*15)).off+10,none⟩=some (.string (al_ l k).f5.f1)∧w'.cell? ⟨(ad.add (k.toNat*15)).block,(ad.add (k.toNat*15)).off+11,none⟩=some (.int .i64 (al_ l k).f5.f2)∧w'.cell? ⟨(ad.add (k.toNat*15)).block,(ad.add (k.toNat*15)).off+12,none⟩=some (.int .i64 (al_ l k).f5.f3)∧w'.cell? ⟨(ad.add (k.toNat*15)).block,(ad.add (k.toNat*15)).off+13,none⟩=some (.slice B13 (al_ l k).f5.f4.length e13)):=⟨fun w' hw=>⟨cw w' hw _ _ j4,cw w' hw _ _ j5,cw w' hw _ _ j6,cw w' hw _ _ j7,cw w' hw _ _ j8,cw w' hw _ _ j9,cw w' hw _ _ j10,cw w' hw _ _ j11,cw w' hw _ _ j12,cw w' hw _ _ j13⟩⟩
   have NS:NmAt W Wb (Value.slice An (NM k).length cn).ownBlock A1 (LV (k+1)) A2 (LR (k+1)) #[.slice A1 (LV (k+1)).length c1,.slice A2 (LR (k+1)).length c2,.slice none 0 0,.slice none 0 0] Wb (.slice An (NM k).length cn) (NM k):=⟨HNB2.out,fun j hj=>Or.inl hj,Nat.le_refl _,F_bound HF1B.out,F_bound HF2B.out,HBB.out,HRB.out,HKB.out⟩
   obtain ⟨Ve,hVe⟩: ∃ W_,W_=Wb.drew:=⟨_,rfl⟩
   have NSE:=Sd.m (NS.below (show Below Wb.heap.size Wb Ve by rw [hVe];exact bq_ (Below.refl _ _)))
   clear j0 j1 j2 j3 j4 j5 j6 j7 j8 j9 j10 j11 j12 j13 j14 l8 g8 l13 g13 cw hA hB hM hM9 hM1 NS q0 s0 z0 q1 s1 z1 q2 s2 z2 q3 s3 z3
   go_upto_region 11 with fail
   clear i0 hk3
   refine start_ (n:=16) (S:=fun w'=>w'.cell? ⟨(ad.add (k.toNat*15)).block,(ad.add (k.toNat*15)).off+4,none⟩=some (.int .i64 (al_ l k).f4.f0)∧w'.cell? ⟨(ad.add (k.toNat*15)).block,(ad.add (k.toNat*15)).off+5,none⟩=some (.string (al_ l k).f4.f1)∧w'.cell? ⟨(ad.add (k.toNat*15)).block,(ad.add (k.toNat*15)).off+6,none⟩=some (.int .i64 (al_ l k).f4.f2)∧w'.cell? ⟨(ad.add (k.toNat*15)).block,(ad.add (k.toNat*15)).off+7,none⟩=some (.int .i64 (al_ l k).f4.f3)∧w'.cell? ⟨(ad.add (k.toNat*15)).block,(ad.add (k.toNat*15)).off+8,none⟩=some (.slice B8 (al_ l k).f4.f4.length e8)∧w'.cell? ⟨(ad.add (k.toNat*15)).block,(ad.add (k.toNat*15)).off+9,none⟩=some (.int .i64 (al_ l k).f5.f0)∧w'.cell? ⟨(ad.add (k.toNat*15)).block,(ad.add (k.toNat*15)).off+10,none⟩=some (.string (al_ l k).f5.f1)∧w'.cell? ⟨(ad.add (k.toNat*15)).block,(ad.add (k.toNat*15)).off+11,none⟩=some (.int .i64 (al_ l k).f5.f2)∧w'.cell? ⟨(ad.add (k.toNat*15)).block,(ad.add (k.toNat*15)).off+12,none⟩=some (.int .i64 (al_ l k).f5.f3)∧w'.cell? ⟨(ad.add (k.toNat*15)).block,(ad.add (k.toNat*15)).off+13,none⟩=some (.slice B13 (al_ l k).f5.f4.length e13)) (ds:=[]) #[false,false,false,false,false,false,false,false,false,false,false,false,false,false,false,false] (by kernel_rfl) rfl rfl (by rw [←hVe];exact (HS10.out _ NSE.out.B)) (fun hHeld=>?_)
   rw [←hVe] at hHeld ⊢
   clear hVe
   refine pu_ 0 42 ?_
   refine pu_ 1 43 ?_
   refine pu_ 2 44 ?_
   refine pu_ 3 45 ?_
   refine pu_ 4 46 ?_
   refine pu_ 8 50 ?_
   refine pu_ 9 51 ?_
   refine pu_ 10 52 ?_
   refine pu_ 11 53 ?_
   refine ta_ 5 47 hHeld ?_
   refine ta_ 12 54 hHeld ?_
   refine on_ 6 48 (fun K hK=>?_)
   refine goes_ Tryz.func106 (by kernel_rfl) rfl #[.agg #[.int .i64 (al_ l k).f4.f0,.string (al_ l k).f4.f1,.int .i64 (al_ l k).f4.f2,.int .i64 (al_ l k).f4.f3,.slice B8 (al_ l k).f4.f4.length e8]] (by rfl) rfl rfl (by simp only [List.map_toArray,List.map_cons,List.map_nil];rfl) ?_
   with_reducible refine (NMA.out _ NSE.out.B).mono ?_
   rintro e_ we ⟨yab,yam,rfl,hy_,hb_⟩
   refine ⟨_,rfl,?_⟩
   have hlt_:=fun j hj=>N_lt NSE.out.N j hj
   have hge_:W.heap.size+2<=_:=bu_ NSE.out.b
   have yaN:=Sd.m (NSE.out.below hb_)
   have yaY:=Sd.m hy_
   have yaO:Sd (∀ j,(_<=j∧j<we.heap.size)->W.heap.size+2<=j∧some j≠Value.ownBlock _):=⟨fun j hj=>⟨Nat.le_trans hge_ hj.1,fun he=>Nat.lt_irrefl j (Nat.lt_of_lt_of_le (hlt_ j he.symm) hj.1)⟩⟩
   clear hy_ hb_ hlt_ hge_
   refine hK.out _ _ (HS10.out _ yaN.out.B) (fun hHeld=>?_)
   clear hK K
   refine no_ 48 ?_
   refine on_ 7 49 (fun K hK=>?_)
   obtain ⟨C1,k1,wf,hrun_,hf_⟩:=yaN.out.app yab yam _ yaY.out yaO.out (by have:=HM9.out;omega)
   refine cl_ rfl (.tmp 42) (.tmp 48) 25 rfl _ _ rfl rfl hrun_ ?_
   have NSF:=Sd.m hf_
   clear hf_ hrun_
   refine hK.out _ _ (HS10.out _ NSF.out.B) (fun hHeld=>?_)
   clear hK K
   refine no_ 49 ?_
   refine on_ 13 55 (fun K hK=>?_)
   refine goes_ Tryz.func106 (by kernel_rfl) rfl #[.agg #[.int .i64 (al_ l k).f5.f0,.string (al_ l k).f5.f1,.int .i64 (al_ l k).f5.f2,.int .i64 (al_ l k).f5.f3,.slice B13 (al_ l k).f5.f4.length e13]] (by rfl) rfl rfl (by simp only [List.map_toArray,List.map_cons,List.map_nil];rfl) ?_
   with_reducible refine (NMB.out _ NSF.out.B).mono ?_
   rintro e_ wg ⟨ybb,ybm,rfl,hy_,hb_⟩
   refine ⟨_,rfl,?_⟩
   have hlt_:=fun j hj=>N_lt NSF.out.N j hj
   have hge_:W.heap.size+2<=_:=bu_ NSF.out.b
   have ybN:=Sd.m (NSF.out.below hb_)
   have ybY:=Sd.m hy_
   have ybO:Sd (∀ j,(_<=j∧j<wg.heap.size)->W.heap.size+2<=j∧some j≠Value.ownBlock _):=⟨fun j hj=>⟨Nat.le_trans hge_ hj.1,fun he=>Nat.lt_irrefl j (Nat.lt_of_lt_of_le (hlt_ j he.symm) hj.1)⟩⟩
   clear hy_ hb_ hlt_ hge_
   refine hK.out _ _ (HS10.out _ ybN.out.B) (fun hHeld=>?_)
   clear hK K
   refine no_ 55 ?_
   refine on_ 14 56 (fun K hK=>?_)
   obtain ⟨D1,k2,wh,hrun_,hf_⟩:=ybN.out.app ybb ybm _ ybY.out ybO.out (by have:=HM9.out;simp only [List.length_append];omega)
   refine cl_ rfl (.tmp 49) (.tmp 55) 25 rfl _ _ rfl rfl hrun_ ?_
   have NSH:=Sd.m hf_
   clear hf_ hrun_
   refine hK.out _ _ (HS10.out _ NSH.out.B) (fun hHeld=>?_)
   clear hK K
   refine no_ 56 ?_
   refine pu_ 15 6 ?_
   refine done_ (by kernel_rfl) ?_
   have hwr:wrap64 (k+1)=k+1:=by unfold wrap64;omega
   go_wp2_with fail
   go_roundw
   case rel=>
    have NS2:=NSH.out
    rw [show ((NM k ++ NA k) ++ NB k).length=(NM k).length+((NA k).length+(NB k).length) by simp [Nat.add_assoc]] at NS2
    have hq: ∀ j,((W.heap.size+2<=j∧some j≠(Value.slice An (NM k).length cn).ownBlock)∧j<Wb.heap.size)->W.heap.size+2<=j∧some j≠(Value.slice D1 ((NM k).length+((NA k).length+(NB k).length)) k2).ownBlock:=fun j hj=>⟨hj.1.1,fun he=>(NS2.own j he.symm).elim (fun e=>hj.1.2 e.symm) (fun e=>by have:=hj.2;omega)⟩
    refine ⟨k+1,A1,c1,A2,c2,by omega,by omega,rfl,NS2.B,NS2.r,NS2.b,hl1,hl2,F_mono NS2.F1 hq,F_mono NS2.F2 hq,?_⟩
    rw [HM.out]
    exact NS2.N
   case measure=>simp only [intOf];omega
  ·have hke:k=(l.length:Int):=by omega
   subst hke
   have hnlt:decide ((l.length:Int)<(l.length:Int))=false:=by simp
   have hF1:=HFV.out
   have hbk:=HBK.out
   rw [HLV.out] at hF1 hbk hcv
   have HE0:Sd (BuE W vv (LR (l.length:Int)) AV cv AR cr An (NM (l.length:Int)) (.int .i64 0) wr):=⟨N_F HNM.out,HB.out,HBR.out,F_mono hF1 (fun j hj=>hj.1),F_mono HFR.out (fun j hj=>hj.1),Or.inl ⟨rfl,hbk⟩⟩
   have HNC:=Sd.m (N_reads' HNM.out)
   clear hF1 hbk
   go_wp2_with fail
   go_loopw [10] (fun t10 Wx=>BuE W vv (LR (l.length:Int)) AV cv AR cr An (NM (l.length:Int)) t10 Wx) (fun t10 _=>(1 - intOf t10).toNat)
   case atStart=>exact HE0.out
   case round=>
    obtain ⟨hFn,hbX,hrX,hFv,hFr,hst⟩:=hrel
    rcases hst with ⟨rfl,hbx⟩ | ⟨rfl,AU,cu,hcu,hFu,hbx⟩
    ·obtain ⟨ad,A2,c2,A3,c3,A4,c4,rfl,k0,-⟩:=at_T93 (F_now hFv) 0 (by decide) (by decide)
     change wr.cell? _=some (.string vv.f0) at k0
     have e0:ad.add ((0:Int).toNat*7)=ad:=by simp [Addr.add]
     rw [e0] at k0
     clear e0
     have q0:=bc_ hbx 0 rfl
     have HH:=Sd.m (bl_.calls kh An cn (NM (l.length:Int)) vv.f0 true wr (F_now hFn) HNC.out.2.1 HHAS.out)
     have HFn:=Sd.m hFn
     have HFv:=Sd.m hFv
     have HFr:=Sd.m hFr
     have HbX:=Sd.m hbX
     have HrX:=Sd.m hrX
     have Hbx:=Sd.m hbx
     clear hFn hFv hFr hbX hrX hbx
     go_wp2_with fail
     refine HH.out.mono ?_
     rintro e Vx ⟨rfl,hdr⟩
     have hbd:=hdr.below
     obtain ⟨Vf,hVf⟩: ∃ W_,W_=Vx.drew:=⟨_,rfl⟩
     have hbf:=hbd.trans ((show Below Vx.heap.size Vx Vf by rw [hVf];exact bq_ (Below.refl _ _)).mono hbd.size)
     have HFN2:=Sd.m (F_below HFn.out hbf)
     have HFV2:=Sd.m (F_below HFv.out hbf)
     have HFR2:=Sd.m (F_below HFr.out hbf)
     have HBX2:=Sd.m (HbX.out.trans (hbf.mono HbX.out.size))
     have HRX2:=Sd.m (ae_ HrX.out hbf)
     have Hbx2:=Sd.m (ae_ Hbx.out hbf)
     have HK0:=Sd.m ((hbf.cell (bl__ wr _ k0)).trans k0)
     have HZF:=Sd.m (bu_ Hbx2.out)
     clear hdr hbd hbf k0 q0 HFn HFv HFr HbX HrX Hbx HH
     have HS5:Sd (∀ w',Below Vf.heap.size Vf w'->w'.cell? ⟨W.heap.size+1,0,none⟩=some (.slice (some ad) 1 cv)∧w'.cell? ⟨W.heap.size+1,3,none⟩=some (.slice none 0 0)∧w'.cell? ad=some (.string vv.f0)):=by
      refine ⟨fun w' hw=>?_⟩
      have a1:=ae_ Hbx2.out hw
      exact ⟨(af_ a1 0).trans rfl,(af_ a1 3).trans rfl,(hw.cell (bl__ Vf _ HK0.out)).trans HK0.out⟩
     have BF:=Sd.m (Below.refl Vf.heap.size Vf)
     go_upto_region 16 with fail
     refine start_ (n:=12) (S:=fun w'=>w'.cell? ⟨W.heap.size+1,0,none⟩=some (.slice (some ad) 1 cv)∧w'.cell? ⟨W.heap.size+1,3,none⟩=some (.slice none 0 0)∧w'.cell? ad=some (.string vv.f0)) (ds:=[11]) #[false,false,false,false,false,false,false,false,false,false,false,false] (by kernel_rfl) rfl rfl (by rw [←hVf];exact (HS5.out _ BF.out)) (fun hHeld=>?_)
     rw [←hVf] at hHeld ⊢
     clear hVf
     refine pu_ 0 72 ?_
     refine pu_ 2 74 ?_
     refine pu_ 4 76 ?_
     refine ta_ 1 73 hHeld ?_
     refine ta_ 3 75 hHeld ?_
     refine pu_ 5 77 ?_
     refine pu_ 6 78 ?_
     refine ta_ 7 79 hHeld ?_
     refine on_ 8 80 (fun K hK=>?_)
     refine value_ (w1:=?_) (v:=?_) (by rfl) rfl ?_ ?_
     rotate_left 2
     ·go_simp
      constructor
      ·rfl
      ·rfl
     have hg_:=ah_ Vf (.cells #[.string vv.f0] 9)
     have hb_:=ab_ (Below.refl Vf.heap.size Vf) (.cells #[.string vv.f0] 9)
     generalize hW_:Vf.alloc (.cells #[.string vv.f0] 9)=wi at hg_ hb_ ⊢
     have HGI:=Sd.m hg_
     have BWI:=Sd.m hb_
     clear hg_ hb_ hW_
     refine hK.out _ _ (HS5.out _ BWI.out) (fun hHeld=>?_)
     clear hK K
     refine no_ 80 ?_
     refine on_ 9 81 (fun K hK=>?_)
     obtain ⟨U1,u1,wj,hrun_,hN_,hB_,_,_⟩:=fq_ (P:=Tryz.prog) Kd.string (Vd:=Vf) (Wj:=wi) (W.heap.size+2) 25 25 9 (.string ⟨#[]⟩) 16 Tryz.underlying25 (by kernel_rfl) rfl (by decide) (by decide) none 0 [] [vv.f0] (some ⟨Vf.heap.size,0,none⟩) 1 (fun j=>W.heap.size+2<=j) (fun j=>W.heap.size+2<=j) (N_nil _ _ _ _ _) (F_one (cs:=[.string vv.f0]) HGI.out HZF.out (fun _ _=>rfl)) (fun k hk=>⟨hk,by simp [Value.ownBlock]⟩) (fun k hk=>Nat.le_trans HZF.out hk) HZF.out (fun k hk=>by simp [Value.ownBlock] at hk) BWI.out (by simp)
     refine cl_ rfl (.tmp 73) (.tmp 80) 25 rfl _ _ rfl rfl hrun_ ?_
     have HNJ:=Sd.m hN_
     have BWJ:=Sd.m hB_
     have hbj_:=ae_ Hbx2.out hB_
     have n3:=bc_ hbj_ 3 rfl
     have m3:=aa_ hbj_ 3
     clear hrun_ hN_ hB_
     refine hK.out _ _ (HS5.out _ BWJ.out) (fun hHeld=>?_)
     clear hK K
     refine no_ 81 ?_
     refine pu_ 10 82 ?_
     refine last_ (i:=11) (N:=none) #[true,true,true,true,true,true,true,true,true,true,true,true] rfl rfl (by kernel_rfl) (by decide) (fun K hK=>?_)
     refine skip_ (w1:=?_) (by rfl) rfl ?_ ?_
     rotate_left
     ·go_simp
      rfl
     refine hK.out _ _ ?_
     clear hK K
     refine done_ (by kernel_rfl) ?_
     go_wp2_with fail
     go_roundw
     case rel=>
      have hz:=HZF.out
      have okx: ∀ j,W.heap.size+2<=j->j≠W.heap.size+1:=fun j hj=>by omega
      have hbj:=ae_ Hbx2.out BWJ.out
      refine ⟨cb_ (n:=W.heap.size+1) okx [.slice U1 1 u1] wj 3 (F_below HFN2.out BWJ.out),cf_ (n:=W.heap.size+1) (by omega) [.slice U1 1 u1] wj 3 (HBX2.out.trans (BWJ.out.mono HBX2.out.size)),ed_ (n:=W.heap.size+1) (by omega) [.slice U1 1 u1] wj 3 (ae_ HRX2.out BWJ.out),cb_ (n:=W.heap.size+1) okx [.slice U1 1 u1] wj 3 (F_below HFV2.out BWJ.out),cb_ (n:=W.heap.size+1) okx [.slice U1 1 u1] wj 3 (F_below HFR2.out BWJ.out),Or.inr ⟨rfl,U1,u1,(N_reads' HNJ.out).2.1,cb_ (n:=W.heap.size+1) okx [.slice U1 1 u1] wj 3 (N_F HNJ.out),cc_ hbj 3 _ rfl⟩⟩
     case measure=>simp [intOf]
    ·obtain ⟨V7,hV7⟩: ∃ W_,W_=putL wr W.heap.size 0 [.slice AV 1 cv,.slice AR (LR (l.length:Int)).length cr,.slice none 0 0,.slice AU 1 cu]:=⟨_,rfl⟩
     have hr7:V7.heap[W.heap.size]? =some (.cells #[.slice AV 1 cv,.slice AR (LR (l.length:Int)).length cr,.slice none 0 0,.slice AU 1 cu] 27 (0,0)):=by rw [hV7];exact cm_ _ wr 0 _ hrX
     have okq: ∀ j,W.heap.size+2<=j->j≠W.heap.size:=fun j hj=>by omega
     have okr: ∀ j,W.heap.size+2<=j->W.heap.size<=j:=fun j hj=>by omega
     have hF1:Kd.F k93 V7 (fun j=>W.heap.size<=j) AV 1 [vv]:=by rw [hV7];exact F_mono (cb_ (n:=W.heap.size) okq _ wr 0 hFv) okr
     have hF2:Kd.F k55 V7 (fun j=>W.heap.size<=j) AR (LR (l.length:Int)).length (LR (l.length:Int)):=by rw [hV7];exact F_mono (cb_ (n:=W.heap.size) okq _ wr 0 hFr) okr
     have hF3:Kd.F Kd.string V7 (fun j=>W.heap.size<=j) AU 1 [vv.f0]:=by rw [hV7];exact F_mono (cb_ (n:=W.heap.size) okq _ wr 0 hFu) okr
     have hb7:Below W.heap.size W V7:=by rw [hV7];exact cf_ (n:=W.heap.size) (Nat.le_refl _) _ wr 0 hbX
     replace hV7:V7=(((wr.setCell ⟨W.heap.size,0,none⟩ (.slice AV 1 cv)).setCell ⟨W.heap.size,1,none⟩ (.slice AR (LR (l.length:Int)).length cr)).setCell ⟨W.heap.size,2,none⟩ (.slice none 0 0)).setCell ⟨W.heap.size,3,none⟩ (.slice AU 1 cu):=hV7
     have q0:=bc_ hbx 0 rfl
     have s0:=bc_ hrX 0 rfl
     have z0:=aa_ hrX 0
     have q1:=bc_ hbx 1 rfl
     have s1:=bc_ hrX 1 rfl
     have z1:=aa_ hrX 1
     have q2:=bc_ hbx 2 rfl
     have s2:=bc_ hrX 2 rfl
     have z2:=aa_ hrX 2
     have q3:=bc_ hbx 3 rfl
     have s3:=bc_ hrX 3 rfl
     have z3:=aa_ hrX 3
     have HV7:=Sd.m hV7
     have HR7:=Sd.m hr7
     have HF1:=Sd.m hF1
     have HF2:=Sd.m hF2
     have HF3:=Sd.m hF3
     have HB7:=Sd.m hb7
     clear hV7 hr7 okq okr hF1 hF2 hF3 hb7 hrX hbx hFn hFv hFr hFu hbX
     go_wp2_with fail
     rw [←HV7.out]
     refine bodyPost_ret (iq_ rfl _ _ W.heap.size 27 #[.slice AV 1 cv,.slice AR (LR (l.length:Int)).length cr,.slice none 0 0,.slice AU 1 cu] (0,0) _ rfl HR7.out Tryz.underlying27 rfl (by kernel_rfl)) rfl ?_
     exact ⟨AV,cv,AR,cr,AU,cu,rfl,hcv.1,hcr.1,hcu,HF1.out,HF2.out,HF3.out,HB7.out⟩
def partP (t:List S159)(here:Int):Option (S85 × Int):=
 if here<(t.length:Int)∧(ac_ t here).f0=15 then some (⟨5,⟨#[]⟩,(ac_ t here).f2,(ac_ t here).f3,[]⟩,here+1)
 else if here<(t.length:Int)∧(ac_ t here).f0=1 then some (⟨2,(ac_ t here).f1,0,0,[]⟩,here+1)
 else none
def setP (t:List S159)(deep here:Int):Option (S85 × Int):=
 if 0<=deep∧deep<12∧here+1<(t.length:Int)∧kdF t (here+1)≠14 then
  (partP t (here+1)).bind fun q=>if kdF t q.2=14∧here+1<q.2∧q.2<=(t.length:Int) then some (⟨4,⟨#[]⟩,(ac_ t here).f2,0,[q.1]⟩,q.2+1) else none
 else none
def pieceP (t:List S159)(deep here:Int):Option (S85 × Int):=
 if ¬ here<(t.length:Int) then none
 else if (ac_ t here).f0=1 then some (⟨2,(ac_ t here).f1,0,0,[]⟩,here+1)
 else if (ac_ t here).f0=12 then some (⟨3,⟨#[]⟩,0,0,[]⟩,here+1)
 else if (ac_ t here).f0=13 then setP t deep here
 else none
def joinP (t:List S159)(deep here:Int):Option (S85 × Int):=
 if ¬ here<=(t.length:Int) then none
 else if az_.f (kdF t here)=some false then some (⟨1,⟨#[]⟩,0,0,[]⟩,here)
 else if az_.f (kdF t here)=some true then
  (pieceP t deep here).bind fun q=>
   if here<q.2∧q.2<=(t.length:Int) then
    if kdF t q.2=9 then (if q.2+1<=(t.length:Int)∧az_.f (kdF t (q.2+1))=some false then some (⟨10,⟨#[]⟩,0,0,[q.1]⟩,q.2+1) else none)
    else if ¬ (9<=kdF t q.2∧kdF t q.2<=11)∧az_.f (kdF t q.2)=some false then some q else none
   else none
 else none
def orP (t:List S159)(deep here:Int):Option (S85 × Int):=
 (joinP t deep here).bind fun q=>if 0<=q.2∧kdF t q.2≠8 then some q else none
def itemP (t:List S159)(here:Int):Option (S87 × Int):=
 if ¬ here+1<=(t.length:Int) then none
 else if (ac_ t here).f0=1 then
  if kdF t (here+1)=3 then (orP t 0 (here+2)).bind fun q=>some (⟨1,(ac_ t here).f1,(ac_ t here).f2,false,q.1,z85,(ac_ t here).f4⟩,q.2)
  else none
 else if (ac_ t here).f0=2 then
  (orP t 0 (here+1)).bind fun q=>
   if 0<=q.2∧q.2<=1000000∧(kdF t q.2=4∨kdF t q.2=5) then
    (orP t 0 (q.2+1)).bind fun r=>some (⟨2,(ac_ t here).f1,(ac_ t here).f2,decide (kdF t q.2=5),q.1,r.1,(ac_ t here).f4⟩,r.2)
   else none
 else none
section
variable {w0 W:World} {g:Nat} {t:List S159} {en here h1 deep:Int} {nd:S85}
theorem part_calls (ht:t.length<=1000000)(h:RdAt w0 W g t en here)(h0:0<=here)(hF:partP t here=some (nd,h1)):Calls Tryz.prog 206 #[.pointer (some ⟨g,0,none⟩),.int .i64 deep] W (Ans w0 W g t en nd h1):=by
 unfold partP at hF
 split at hF
 ·rename_i q
  injection hF with hF;injection hF with e1 e2
  subst e1 e2
  exact part_range h h0 q.1 ht q.2 deep
 split at hF
 ·rename_i q
  injection hF with hF;injection hF with e1 e2
  subst e1 e2
  exact part_name h h0 q.1 ht q.2 deep
 ·cases hF
theorem setP_calls (ht:t.length<=1000000)(h:RdAt w0 W g t en here)(h0:0<=here)(hF:setP t deep here=some (nd,h1)):Calls Tryz.prog 200 #[.pointer (some ⟨g,0,none⟩),.int .i64 deep] W (Ans w0 W g t en nd h1):=by
 unfold setP at hF
 split at hF
 ·rename_i q
  obtain ⟨⟨n2,h2⟩,hp,hF⟩:=Option.bind_eq_some_iff.1 hF
  dsimp only at hF
  split at hF
  ·rename_i r
   injection hF with hF;injection hF with e1 e2
   subst e1 e2
   exact set_one h h0 q.2.2.1 ht deep q.1 q.2.1 (fun W hW=>part_calls ht hW (by omega) hp) q.2.2.2 r.1 r.2.1 r.2.2
  ·cases hF
 ·cases hF
theorem it_ (ht:t.length<=1000000)(h:RdAt w0 W g t en here)(h0:0<=here)(hF:pieceP t deep here=some (nd,h1)):Calls Tryz.prog 184 #[.pointer (some ⟨g,0,none⟩),.int .i64 deep] W (Ans w0 W g t en nd h1):=by
 unfold pieceP at hF
 split at hF
 ·cases hF
 rename_i hl
 have hl:=Decidable.not_not.1 hl
 split at hF
 ·rename_i q
  injection hF with hF;injection hF with e1 e2
  subst e1 e2
  exact piece_name h h0 hl ht q deep
 split at hF
 ·rename_i q
  injection hF with hF;injection hF with e1 e2
  subst e1 e2
  exact piece_any h h0 hl ht q deep
 split at hF
 ·rename_i q
  exact piece_set h h0 hl ht q deep (fun W hW=>setP_calls ht hW h0 hF)
 ·cases hF
theorem join_calls (ht:t.length<=1000000)(h:RdAt w0 W g t en here)(h0:0<=here)(hF:joinP t deep here=some (nd,h1)):Calls Tryz.prog 165 #[.pointer (some ⟨g,0,none⟩),.int .i64 deep] W (Ans w0 W g t en nd h1):=by
 unfold joinP at hF
 split at hF
 ·cases hF
 rename_i hl
 have hl:=Decidable.not_not.1 hl
 split at hF
 ·rename_i q
  injection hF with hF;injection hF with e1 e2
  subst e1 e2
  exact join_none h h0 hl ht deep q
 split at hF
 ·rename_i hb
  obtain ⟨⟨n2,h2⟩,hp,hF⟩:=Option.bind_eq_some_iff.1 hF
  dsimp only at hF
  split at hF
  ·rename_i r
   split at hF
   ·rename_i hk
    split at hF
    ·rename_i hs
     injection hF with hF;injection hF with e1 e2
     subst e1 e2
     exact join_star h h0 hl ht deep hb (fun W hW=>it_ ht hW h0 hp) r.1 (by omega) hk hs.2 hs.1
    ·cases hF
   ·split at hF
    ·rename_i hs
     injection hF with hF;injection hF with e1 e2
     subst e1 e2
     exact join_one h h0 hl ht deep hb (fun W hW=>it_ ht hW h0 hp) r.1 (by omega) hs.1 hs.2
    ·cases hF
  ·cases hF
 ·cases hF
theorem gz_ (ht:t.length<=1000000)(h:RdAt w0 W g t en here)(h0:0<=here)(hF:orP t deep here=some (nd,h1)):Calls Tryz.prog 125 #[.pointer (some ⟨g,0,none⟩),.int .i64 deep] W (Ans w0 W g t en nd h1):=by
 unfold orP at hF
 obtain ⟨⟨n2,h2⟩,hp,hF⟩:=Option.bind_eq_some_iff.1 hF
 dsimp only at hF
 split at hF
 ·rename_i r
  injection hF with hF;injection hF with e1 e2
  subst e1 e2
  have hl:here<=(t.length:Int):=by
   unfold joinP at hp
   split at hp
   ·cases hp
   ·rename_i hl
    exact Decidable.not_not.1 hl
  exact or_one h h0 hl ht deep (fun W hW=>join_calls ht hW h0 hp) r.1 r.2
 ·cases hF
theorem item_calls {x:S87}(ht:t.length<=1000000)(h:RdAt w0 W g t en here)(h0:0<=here)(hF:itemP t here=some (x,h1)):Calls Tryz.prog 87 #[.pointer (some ⟨g,0,none⟩)] W (AnsI w0 W g t en x h1):=by
 unfold itemP at hF
 split at hF
 ·cases hF
 rename_i hl
 have hl:=Decidable.not_not.1 hl
 split at hF
 ·rename_i hk
  split at hF
  ·rename_i his
   obtain ⟨⟨n2,h2⟩,hp,hF⟩:=Option.bind_eq_some_iff.1 hF
   injection hF with hF;injection hF with e1 e2
   subst e1 e2
   exact item_name h h0 hl ht hk his (fun W hW=>gz_ ht hW (by omega) hp)
  ·cases hF
 split at hF
 ·rename_i hk
  obtain ⟨⟨n2,h2⟩,hp,hF⟩:=Option.bind_eq_some_iff.1 hF
  dsimp only at hF
  split at hF
  ·rename_i r
   obtain ⟨⟨n3,h3⟩,hp2,hF⟩:=Option.bind_eq_some_iff.1 hF
   injection hF with hF;injection hF with e1 e2
   subst e1 e2
   rcases r.2.2 with k4 | k5
   ·have e:decide (kdF t h2=5)=false:=df__ (by omega)
    dsimp only
    rw [e]
    exact item_stay h h0 hl ht hk r.1 r.2.1 (fun W hW=>gz_ ht hW (by omega) hp) k4 (fun W hW=>gz_ ht hW (by omega) hp2)
   ·have e:decide (kdF t h2=5)=true:=dt__ k5
    dsimp only
    rw [e]
    exact item_cut h h0 hl ht hk r.1 r.2.1 (fun W hW=>gz_ ht hW (by omega) hp) k5 (fun W hW=>gz_ ht hW (by omega) hp2)
  ·cases hF
 ·cases hF
end
def itemsP:Nat->List S159->Int->List S87->Option (List S87)
 | 0,_,_,_=>none
 | n+1,t,here,out=>
  if here<(t.length:Int) then
   if kdF t here=18 then itemsP n t (here+1) out
   else if out.length<=99 then
    (itemP t here).bind fun q=>if here<q.2∧(kdF t q.2=18∨kdF t q.2=0) then itemsP n t q.2 (out ++ [q.1]) else none
   else none
  else some out
theorem LexAt.gh_ {w0 W:World}{g:Nat}{Al Ap:Option Addr}{cl cp:Nat}{l p:List Int}{i deep:Int}{out:List S159}(h:LexAt w0 W g Al cl l Ap cp p i deep out)(x:Int):LexAt w0 (W.setCell ⟨g,2,none⟩ (.int .i64 x)) g Al cl l Ap cp p x deep out:=by
 obtain ⟨v,h1,h2,h3,h4⟩:=h
 exact ⟨v,by simpa using dk_ h1 2 _,R_set h2 h1 (by decide) 2 _,h3.setCell (p:=⟨g,2,none⟩) h4 _,h4⟩
theorem LexAt.set_d {w0 W:World}{g:Nat}{Al Ap:Option Addr}{cl cp:Nat}{l p:List Int}{i deep:Int}{out:List S159}(h:LexAt w0 W g Al cl l Ap cp p i deep out)(x:Int):LexAt w0 (W.setCell ⟨g,3,none⟩ (.int .i64 x)) g Al cl l Ap cp p i x out:=by
 obtain ⟨v,h1,h2,h3,h4⟩:=h
 exact ⟨v,by simpa using dk_ h1 3 _,R_set h2 h1 (by decide) 3 _,h3.setCell (p:=⟨g,3,none⟩) h4 _,h4⟩
theorem LexAt.c0 {w0 W:World}{g:Nat}{Al Ap:Option Addr}{cl cp:Nat}{l p:List Int}{i deep:Int}{out:List S159}(h:LexAt w0 W g Al cl l Ap cp p i deep out):W.cell? ⟨g,0,none⟩=some (.slice Al l.length cl):=by
 obtain ⟨v,h1,_⟩:=h;exact (af_ h1 0).trans rfl
theorem LexAt.c2 {w0 W:World}{g:Nat}{Al Ap:Option Addr}{cl cp:Nat}{l p:List Int}{i deep:Int}{out:List S159}(h:LexAt w0 W g Al cl l Ap cp p i deep out):W.cell? ⟨g,2,none⟩=some (.int .i64 i):=by
 obtain ⟨v,h1,_⟩:=h;exact (af_ h1 2).trans rfl
theorem LexAt.c3 {w0 W:World}{g:Nat}{Al Ap:Option Addr}{cl cp:Nat}{l p:List Int}{i deep:Int}{out:List S159}(h:LexAt w0 W g Al cl l Ap cp p i deep out):W.cell? ⟨g,3,none⟩=some (.int .i64 deep):=by
 obtain ⟨v,h1,_⟩:=h;exact (af_ h1 3).trans rfl
theorem LexAt.c6 {w0 W:World}{g:Nat}{Al Ap:Option Addr}{cl cp:Nat}{l p:List Int}{i deep:Int}{out:List S159}(h:LexAt w0 W g Al cl l Ap cp p i deep out):W.cell? ⟨g,6,none⟩=some (.int .i64 0):=by
 obtain ⟨v,h1,_⟩:=h;exact (af_ h1 6).trans rfl
theorem LexAt.fr {w0 W:World}{g:Nat}{Al Ap:Option Addr}{cl cp:Nat}{l p:List Int}{i deep:Int}{out:List S159}(h:LexAt w0 W g Al cl l Ap cp p i deep out)(j:Nat):W.frozen? ⟨g,j,none⟩=false:=by
 obtain ⟨v,h1,_⟩:=h;exact aa_ h1 j
theorem LexAt.B {w0 W:World}{g:Nat}{Al Ap:Option Addr}{cl cp:Nat}{l p:List Int}{i deep:Int}{out:List S159}(h:LexAt w0 W g Al cl l Ap cp p i deep out):Below w0.heap.size w0 W:=by
 obtain ⟨v,_,_,h3,_⟩:=h;exact h3
theorem LexAt.lt {w0 W:World}{g:Nat}{Al Ap:Option Addr}{cl cp:Nat}{l p:List Int}{i deep:Int}{out:List S159}(h:LexAt w0 W g Al cl l Ap cp p i deep out):g<W.heap.size:=by
 obtain ⟨v,h1,_⟩:=h;exact bu_ h1
theorem at_l {w0 W:World}{A:Option Addr}{l:List Int}(h:Kd.C (Kd.int .i64) w0 A l.length l)(hB:Below w0.heap.size w0 W)(j:Int)(h0:0<=j)(h1:j<l.length): ∃ ad,A=some ad∧W.cell? (ad.add j.toNat)=some (.int .i64 (rd l j)):=by
 obtain ⟨ad,e,hc⟩:=Kd.de_ h j h0 h1
 exact ⟨ad,e,(hB.cell (bl__ w0 _ hc)).trans hc⟩
theorem is_in (w0 W:World)(g:Nat)(Al:Option Addr)(cl:Nat)(l:List Int)(Ap:Option Addr)(cp:Nat)(p:List Int)(i deep:Int)(out:List S159)(h:LexAt w0 W g Al cl l Ap cp p i deep out)
  (hl:Kd.C (Kd.int .i64) w0 Al l.length l) (j c:Int) (hj0:0<=j) (hj1:j<l.length):
  Calls Tryz.prog 161 #[.pointer (some ⟨g,0,none⟩),.int .i64 j,.int .i64 c] W fun e W1=>e=.returned (.bool (rd l j == c))∧LexAt w0 W1 g Al cl l Ap cp p i deep out∧Below W.heap.size W W1:=by
 obtain ⟨ad,rfl,hcell⟩:=at_l hl h.B j hj0 hj1
 have c0:=h.c0
 have d0:decide ((0:Int)<=j)=true:=dt__ hj0
 have d1:decide (j<(l.length:Int))=true:=dt__ hj1
 have H:=Sd.m h
 clear h hl
 go_enter Tryz.func161,Tryz.ntmps161
 go_wp2_with fail
 go_ret
 exact ⟨rfl,H.out,Below.refl _ _⟩
theorem jo_ (w0 W:World)(g:Nat)(Al:Option Addr)(cl:Nat)(l:List Int)(Ap:Option Addr)(cp:Nat)(p:List Int)(i deep:Int)(out:List S159)(h:LexAt w0 W g Al cl l Ap cp p i deep out)
  (hl:Kd.C (Kd.int .i64) w0 Al l.length l) (hp:Kd.C (Kd.int .i64) w0 Ap p.length p) (hpl:p.length<=1000000) (hol:out.length<=1000000) (hi0:0<=i) (hi1:i+1<l.length) (hi2:i<p.length) (hd0:0<=deep) (hd1:deep<=1000000) (hll:l.length<=1000000) (hne:rd l (i+1)≠94):
  Calls Tryz.prog 157 #[.pointer (some ⟨g,0,none⟩)] W fun e W1=>e=.returned (.tuple #[])∧LexAt w0 W1 g Al cl l Ap cp p (i+1) (deep+1) (out ++ [⟨13,⟨#[]⟩,0,0,rd p i⟩]):=by
 have hb1:Below W.heap.size W (W.alloc (.cells #[.int .i64 13,.string ⟨#[]⟩,.int .i64 0,.int .i64 0,.int .i64 0] 159)):=ab_ (Below.refl W.heap.size W) _
 have h1:=h.below hb1
 have hbx:(W.alloc (.cells #[.int .i64 13,.string ⟨#[]⟩,.int .i64 0,.int .i64 0,.int .i64 0] 159)).heap[W.heap.size]? =some (.cells #[.int .i64 13,.string ⟨#[]⟩,.int .i64 0,.int .i64 0,.int .i64 0] 159 (0,0)):=ah_ _ _
 have hgn:W.heap.size≠g:=by have:=h.lt;omega
 have c2:=h1.c2
 have f2:=h1.fr 2
 have b1:(rd l (i+1) == 94)=false:=by simpa using hne
 have w1:IntKind.i64.wrap (i+1)=i+1:=IntWalk.i64_in _ (by omega)
 have w2:IntKind.i64.wrap (deep+1)=deep+1:=IntWalk.i64_in _ (by omega)
 have his:=is_in w0 _ g Al cl l Ap cp p (i+1) deep out (h1.gh_ (i+1)) hl (i+1) 94 (by omega) hi1
 have hbx2:=ba_ hbx (p:=⟨g,2,none⟩) hgn (.int .i64 (i+1))
 have H1:=Sd.m h1
 have HL:=Sd.m hl
 have HP:=Sd.m hp
 have HI:=Sd.m his
 have HBX:=Sd.m hbx2
 clear h h1 hl hp hne his hbx hb1 hbx2
 go_enter Tryz.func157,Tryz.ntmps157
 go_wp2_with fail
 refine HI.out.mono ?_
 rintro e W2 ⟨rfl,hL2,hb2⟩
 have hn2:=ae_ HBX.out hb2
 have n0:=bc_ hn2 0 rfl
 have n1:=bc_ hn2 1 rfl
 have n2:=bc_ hn2 2 rfl
 have n3:=bc_ hn2 3 rfl
 have n4:=bc_ hn2 4 rfl
 have HL2:=Sd.m hL2
 clear hL2 hb2 hn2
 go_wp2_with fail
 refine (cv_ w0 W2 g Al cl l Ap cp p (i+1) deep out HL2.out HP.out hpl hol 13 ⟨#[]⟩ 0 0 0 i hi0 hi2).mono ?_
 rintro e W3 ⟨rfl,hL3⟩
 have c3:=hL3.c3
 have f3:=hL3.fr 3
 have HL3:=Sd.m hL3
 clear hL3 n0 n1 n2 n3 n4
 go_wp2_with fail
 refine Great.bodyPost_end0 rfl rfl ?_
 exact ⟨rfl,HL3.out.set_d (deep+1)⟩
end LX
end Go.Proofs.YthfceiincmkccaaGreat
