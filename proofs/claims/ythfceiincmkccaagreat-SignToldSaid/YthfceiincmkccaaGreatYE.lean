/- What law SignTold reaches, part 5: words and walks over rows and regions. -/
import Derived.Test.YthfceiincmkccaaGreatYA
import Derived.Test.YthfceiincmkccaaGreatYD
import Derived.Deep.RegionLaw
import Derived.Great.Walk
import Derived.Test.YthfceiincmkccaaGreatYB
import Derived.Test.YthfceiincmkccaaGreatYC
set_option linter.unusedVariables false
set_option linter.unusedSimpArgs false
set_option maxHeartbeats 8000000
set_option maxRecDepth 100000
open Go.RowKit Go.Proofs.YthfceiincmkccaaGreatW.PrintWords Go.Proofs.YthfceiincmkccaaGreatW.PrintLast Go.Proofs.YthfceiincmkccaaGreatW.PrintMore
namespace Go.Proofs.YthfceiincmkccaaGreat
namespace P
open A L
theorem il_: ∀ (xs L:List (List Bool)),xs.Nodup->(∀ x∈xs,x∈L)->xs.length<=L.length
 | [],_,_,_=>Nat.zero_le _
 | x :: xs,L,hn,h=>by
  obtain ⟨h1,h2⟩:=List.nodup_cons.1 hn
  have hx:=h x (List.mem_cons_self ..)
  have:=il_ xs (L.erase x) h2 fun y hy=>(List.mem_erase_of_ne (fun e:y=x=>h1 (by rw [←e];exact hy))).2 (h y (List.mem_cons_of_mem _ hy))
  rw [List.length_erase,if_pos hx] at this
  have:=List.length_pos_of_mem hx
  rw [List.length_cons]
  omega
structure Sigs (sets:List (List S74)) (T:List (List Bool)):Prop where
 nd:T.Nodup
 mem: ∀ t,t∈T↔ ∃ c,0<=c∧c<=1114111∧sigF sets c=t
theorem sigs_of {sets L:List (List S74)}(h:AtomsOf sets L): ∃ T,Sigs sets T∧L=T.map (atF sets)∧ ∀ t∈T,0<(atF sets t).length:=by
 obtain ⟨T,hT,e,hc,hp⟩:=h
 refine ⟨T,⟨hT,fun t=>⟨fun ht=>?_,?_⟩⟩,e,hp⟩
 ·obtain ⟨h0,h1,h2,_⟩:=low_spec (hp t ht)
  exact ⟨_,h0,h1,of_decide_eq_true h2⟩
 ·rintro ⟨c,h0,h1,rfl⟩
  exact hc c h0 h1
theorem Sigs.more {sets:List (List S74)}{s:List S74}{T U:List (List Bool)}(h:Sigs sets T)(k:Sigs (sets ++ [s]) U):T.length<=U.length∧U.length<=2*T.length:=by
 constructor
 ·have:=il_ T (U.map List.dropLast) h.nd fun t ht=>by
   obtain ⟨c,h0,h1,rfl⟩:=(h.mem t).1 ht
   refine List.mem_map.2 ⟨sigF (sets ++ [s]) c,(k.mem _).2 ⟨c,h0,h1,rfl⟩,?_⟩
   rw [hm_,List.dropLast_concat]
  rwa [List.length_map] at this
 ·have:=il_ U (T.flatMap fun t=>[t ++ [true],t ++ [false]]) k.nd fun u hu=>by
   obtain ⟨c,h0,h1,rfl⟩:=(k.mem u).1 hu
   refine List.mem_flatMap.2 ⟨sigF sets c,(h.mem _).2 ⟨c,h0,h1,rfl⟩,?_⟩
   rw [hm_]
   cases hasB s c <;> simp
  have e: ∀ T:List (List Bool),(T.flatMap fun t=>[t ++ [true],t ++ [false]]).length=2*T.length:=by
   intro T
   induction T with
   | nil=>rfl
   | cons t T ih=>
    rw [List.flatMap_cons,List.length_append,ih]
    simp only [List.length_cons,List.length_nil]
    omega
  rwa [e] at this
def clsL (sets:List (List S74)):List (List S74):=(ofAt sets sets.length).mergeSort fun x y=>decide (lowR x<=lowR y)
theorem atoms_perm {sets L L':List (List S74)}(h:AtomsOf sets L)(hp:L'.Perm L):AtomsOf sets L':=by
 obtain ⟨T,hT,rfl,hc,hpos⟩:=h
 obtain ⟨U,hU,e⟩:=perm_map hp
 exact ⟨U,hU.nodup_iff.2 hT,e,fun c h0 h1=>hU.mem_iff.2 (hc c h0 h1),fun t ht=>hpos t (hU.mem_iff.1 ht)⟩
theorem clsL_sorted (sets:List (List S74)):Sorted (clsL sets):=by
 have:=List.pairwise_mergeSort (le:=fun x y:List S74=>decide (lowR x<=lowR y)) (fun a b c h1 h2=>by simp only [decide_eq_true_eq] at *;omega) (fun a b=>by simp only [Bool.or_eq_true,decide_eq_true_eq];omega) (ofAt sets sets.length)
 exact this.imp fun {a b} h=>of_decide_eq_true h
theorem clsL_perm (sets:List (List S74)):(clsL sets).Perm (ofAt sets sets.length):=List.mergeSort_perm _ _
structure Few (sets:List (List S74)) (E:List Int):Prop where
 at_: ∀ c,0<c->c<=1114111->sigF sets c≠sigF sets (c - 1)->c∈E
 le:E.length<=798
theorem few_edges {sets:List (List S74)}(h:(sets.map List.length).sum<=399):Few sets (edgesOf sets):=
 ⟨fun c h0 _ h1=>sig_edge (by omega) h1,by rw [fl_];omega⟩
theorem clsL_atoms {sets:List (List S74)}{E:List Int}(f:Few sets E):AtomsOf sets (clsL sets):=by
 have h:=(hq_ E f.at_ f.le sets.length (Nat.le_refl _)).1
 rw [List.take_length] at h
 exact atoms_perm h (clsL_perm sets)
theorem clsL_cls {sets:List (List S74)}{E:List Int}(f:Few sets E):Cls sets (clsL sets):=cls_of (clsL_atoms f) (clsL_sorted sets)
theorem clsL_one {sets ys:List (List S74)}{E:List Int}(f:Few sets E)(h:AtomsOf sets ys)(hs:Sorted ys):ys=clsL sets:=cls_same (cls_of h hs) (clsL_cls f)
theorem clsL_len {sets:List (List S74)}:(clsL sets).length=(ofAt sets sets.length).length:=(clsL_perm sets).length_eq
theorem at_up {sets:List (List S74)}{E:List Int}(f:Few sets E): ∀ d j,j+d=sets.length->(ofAt sets j).length<=(ofAt sets sets.length).length:=by
 intro d
 induction d with
 | zero=>
  intro j h
  have:j=sets.length:=by omega
  rw [this]
  exact Nat.le_refl _
 | succ d ih=>
  intro j h
  refine Nat.le_trans ?_ (ih (j+1) (by omega))
  have h1:=(hq_ E f.at_ f.le j (by omega)).1
  have h2:=(hq_ E f.at_ f.le (j+1) (by omega)).1
  have hs:sets[j]? =some sets[j]:=List.getElem?_eq_getElem (by omega)
  have e:sets.take (j+1)=sets.take j ++ [sets[j]]:=by rw [List.take_add_one,hs];rfl
  rw [e] at h2
  obtain ⟨T,hT,e1,_⟩:=sigs_of h1
  obtain ⟨U,hU,e2,_⟩:=sigs_of h2
  rw [e1,e2,List.length_map,List.length_map]
  exact (hT.more hU).1
theorem bad_iff {sets:List (List S74)}{E:List Int}(f:Few sets E):OfBad sets↔60<sets.length∨longF sets=true∨200<(clsL sets).length:=by
 unfold OfBad
 rw [clsL_len]
 constructor
 ·rintro (h | h | ⟨j,h1,h2,h3⟩)
  ·exact Or.inl h
  ·exact Or.inr (Or.inl h)
  ·have:=at_up f (sets.length - j) j (by omega)
   exact Or.inr (Or.inr (by omega))
 ·rintro (h | h | h)
  ·exact Or.inl h
  ·exact Or.inr (Or.inl h)
  ·refine Or.inr (Or.inr ⟨sets.length,?_,Nat.le_refl _,h⟩)
   cases sets with
   | nil=>exact absurd h (by decide)
   | cons=>simp
def badB (sets:List (List S74)):Bool:=decide (60<sets.length) || longF sets || decide (200<(clsL sets).length)
theorem badB_iff {sets:List (List S74)}{E:List Int}(f:Few sets E):badB sets=true↔OfBad sets:=by
 rw [bad_iff f]
 unfold badB
 simp only [Bool.or_eq_true,decide_eq_true_eq,or_assoc]
theorem of_one (A0:Option Addr)(c0:Nat)(l0:List (List S74))(w:World)(hr0:Kd.C (Kd.slice 74 k74) w A0 l0.length l0)(hc0:l0.length<=c0){E:List Int}(f:Few l0 E):
  Calls Tryz.prog 43 #[.slice A0 l0.length c0] w fun e w'=> ∃ v,e=.returned (.tuple #[v,.int .i64 (if badB l0 then 9 else 0)])∧OwnRows w' w.heap.size v (if badB l0 then [] else clsL l0)∧Below w.heap.size w w':=by
 refine (of_calls A0 c0 l0 w hr0 hc0 E f.at_ f.le).mono ?_
 rintro e w' ⟨h | ⟨hb,v,ys,he,ho,ha,hs⟩,bel⟩
 ·have q:=(badB_iff f).2 h.1
  rw [if_pos q,if_pos q]
  exact ⟨_,h.2,OwnRows.nil _ _,bel⟩
 ·have q:¬ badB l0=true:=fun q=>hb ((badB_iff f).1 q)
  rw [if_neg q,if_neg q]
  exact ⟨v,he,clsL_one f ha hs ▸ ho,bel⟩
end P
namespace L
open Shelf A P
theorem R34_foot {W W':World}{base:Nat}{u:Value}{x:List S74}(h:Kd.R k74 74 W base (fun _=>True) u x){v:Value}(hv: ∀ k,v.ownBlock=some k-> ∃ cells,W.heap[k]? =some (.cells cells 37 (0,0)))(hm: ∀ k,base<=k∧some k≠v.ownBlock->k<W.heap.size->W'.heap[k]? =W.heap[k]?):Kd.R k74 74 W' base (fun _=>True) u x:=by
 refine Kd.R_mono (Kd.R_move (Kd.R_bound h) (fun k hk=>?_)) (fun _ _=>trivial)
 obtain ⟨_,hb,hlt,q,hq,cells,hc⟩:=hk
 have hE:k74.E=[]:=rfl
 rw [hE,List.mem_singleton] at hq
 subst hq
 refine hm k ⟨hb,fun e=>?_⟩ hlt
 obtain ⟨c2,hc2⟩:=hv k e.symm
 rw [hc] at hc2
 injection hc2 with hc2
 injection hc2 with _ h2
 exact absurd h2 (by decide)
theorem OwnRows.N {w:World}{base:Nat}{v:Value}{xs:List (List S74)}(o:OwnRows w base v xs):Kd.N (Kd.slice 74 k74) 37 w base (fun k=>base<=k) v xs:=by
 obtain ⟨hdrs,ho,hl,hr⟩:=o
 have hone: ∀ u∈hdrs,u.oneCell'=true:=by
  intro u hu
  obtain ⟨j,hj,e⟩:=List.getElem_of_mem hu
  have h1:hdrs[j]? =some u:=by rw [List.getElem?_eq_getElem hj,e]
  have h2:xs[j]? =some xs[j]:=List.getElem?_eq_getElem (by omega)
  obtain ⟨A,c,e2⟩:=Kd.R_slice (hr j u _ h1 h2)
  rw [e2]
  rfl
 have hty: ∀ k,v.ownBlock=some k-> ∃ cells,w.heap[k]? =some (.cells cells 37 (0,0)):=by
  intro k hk
  rcases ho.2 with ⟨e',_⟩ | ⟨g,cap,cur,e',_,hh,_⟩
  ·rw [e'] at hk;cases hk
  ·rw [e'] at hk
   have:k=g:=by simpa [Value.ownBlock] using hk.symm
   subst this
   exact ⟨_,hh⟩
 have hbase: ∀ k,v.ownBlock=some k->base<=k:=by
  intro k hk
  rcases ho.2 with ⟨e',_⟩ | ⟨g,cap,cur,e',hg,hh,_⟩
  ·rw [e'] at hk;cases hk
  ·rw [e'] at hk
   have:k=g:=by simpa [Value.ownBlock] using hk.symm
   subst this
   exact hg
 refine ⟨hbase,hdrs.map fun u=>[u],by rw [List.length_map,hl],⟨fun k hk=>hk.symm,hdrs,?_,?_⟩,?_⟩
 ·rw [List.length_map,hl]
  exact ho
 ·refine ⟨by rw [List.length_map,Nat.mul_comm];exact (Nat.one_mul _).symm,fun j p hp=>?_⟩
  rw [List.getElem?_map] at hp
  obtain ⟨u,hu,rfl⟩:=Option.map_eq_some_iff.1 hp
  have hj:=(List.getElem?_eq_some_iff.1 hu).1
  have e:(hdrs.drop (j*1)).take 1=[u]:=by
   rw [Nat.mul_one,List.drop_eq_getElem_cons hj]
   have:=(List.getElem?_eq_some_iff.1 hu).2
   simp [this]
  show (hdrs.drop (j*1)).take 1=[u]∧((hdrs.drop (j*1)).take 1).length=1∧ ∀ z∈(hdrs.drop (j*1)).take 1,z.oneCell'=true
  rw [e]
  exact ⟨rfl,rfl,fun z hz=>by rw [List.mem_singleton.1 hz];exact hone u (List.mem_of_getElem? hu)⟩
 ·intro j x c hx hc
  rw [List.getElem?_map] at hc
  obtain ⟨u,hu,rfl⟩:=Option.map_eq_some_iff.1 hc
  have hR:=hr j u x hu hx
  obtain ⟨A,c',rfl⟩:=Kd.R_slice hR
  intro W' hW
  have hR':=R34_foot hR hty hW
  obtain ⟨k1,k2,k3⟩:=Kd.R_reads' hR'
  exact ⟨A,c',rfl,k2,k3⟩
noncomputable def fh_.f (l0:List (List S74)):Option (List (List S74) × Int):=@ite _ (∃ E,Few l0 E) (Classical.propDecidable _) (some (if badB l0 then [] else clsL l0,if badB l0 then 9 else 0)) none
theorem of_f {l0:List (List S74)}{E:List Int}(f:Few l0 E):fh_.f l0=some (if badB l0 then [] else clsL l0,if badB l0 then 9 else 0):=by
 unfold fh_.f
 exact if_pos ⟨E,f⟩
theorem fh_.calls (A0:Option Addr)(c0:Nat)(l0:List (List S74))(r0:List (List S74))(r1:Int)(w:World)(hr0:Kd.C (Kd.slice 74 k74) w A0 l0.length l0)(hc0:l0.length<=c0)(h:fh_.f l0=some (r0,r1)):
  Calls Tryz.prog 43 #[.slice A0 l0.length c0] w fun e w'=> ∃ v0_:Value,e=.returned (.tuple #[v0_,.int .i64 r1])∧Kd.N (Kd.slice 74 k74) 37 w' w.heap.size (fun k_=>w.heap.size<=k_) v0_ r0∧Below w.heap.size w w':=by
 unfold fh_.f at h
 by_cases q: ∃ E,Few l0 E
 ·rw [if_pos q] at h
  obtain ⟨E,f⟩:=q
  have h:=Option.some.inj h
  injection h with h1 h2
  refine (of_one A0 c0 l0 w hr0 hc0 f).mono ?_
  rintro e w' ⟨v,he,ho,hb⟩
  rw [h1] at ho
  rw [h2] at he
  exact ⟨v,he,ho.N,hb⟩
 ·rw [if_neg q] at h
  cases h
def eachF (dF:Int->Int)(l:List Int):List Int × Int:=if l.any (fun x=>decide (dF x<0)) then ([],1) else (l.map dF,0)
def EaO (w:World)(dF:Int->Int)(l:List Int)(v6 ui:Value)(W:World):Prop:= ∃ j:Nat,j<=l.length∧ui=.int .i64 j∧(∀ x∈l.take j,0<=dF x)∧Kd.R (Kd.int .i64) 3 W w.heap.size (fun _=>True) v6 ((l.take j).map dF)∧Below w.heap.size w W
theorem jo_ (gf gb:Nat)(dF:Int->Int)(A0:Option Addr)(c0:Nat)(l0:List Int)(w:World)(hr0:Kd.C (Kd.int .i64) w A0 l0.length l0)(hc0:l0.length<=c0)(hl:l0.length<=100000)
  (eg: ∀ args w,(callFunc gf args).run Tryz.prog w=.ok (.enter gf args) w)
  (hd: ∀ n W,Below w.heap.size w W->Calls Tryz.prog gf #[.int .i64 n,.pointer (some ⟨gb,0,none⟩)] W fun e w'=>e=.returned (.int .i64 (dF n))∧Below W.heap.size W w'):
  Calls Tryz.prog 65 #[.slice A0 l0.length c0,.func (.func gf) #[] #[.pointer (some ⟨gb,0,none⟩)]] w fun e w'=> ∃ v,e=.returned (.tuple #[v,.int .i64 (eachF dF l0).2])∧Kd.R (Kd.int .i64) 3 w' w.heap.size (fun _=>True) v (eachF dF l0).1∧Below w.heap.size w w':=by
 have HR:=Sd.m hr0
 have HL:=Sd.m hl
 have HD:=Sd.m hd
 clear hr0 hl hd
 obtain ⟨ans,hans⟩: ∃ a,a=eachF dF l0:=⟨_,rfl⟩
 rw [←hans]
 have HANS:=Sd.m hans
 clear hans
 go_enter Tryz.func65,Tryz.ntmps65
 go_wp2_with fail
 go_loopw [6,12] (fun v6 ui W=>EaO w dF l0 v6 ui W) (fun v6 ui W=>l0.length - (intOf ui).toNat)
 case atStart=>exact ⟨0,Nat.zero_le _,rfl,(fun x hx=>by simp at hx),Kd.R_nil _ _ _ _ _,Below.refl _ _⟩
 case round=>
  obtain ⟨j,hj,rfl,hno,hR,hb⟩:=hrel
  have HB:=Sd.m hb
  have HN:=Sd.m hno
  have HLL:=HL.out
  obtain ⟨out,hout⟩: ∃ o,o=(l0.take j).map dF:=⟨_,rfl⟩
  rw [←hout] at hR
  have hol:out.length=j:=by rw [hout,List.length_map,List.length_take];omega
  have HOUT:=Sd.m hout
  have HOL:=Sd.m hol
  obtain ⟨Aa,ca,rfl⟩:=Kd.R_slice hR
  have HO:=Sd.m hR
  clear hb hno hout hR hol
  by_cases hlt:j<l0.length
  ·have b1:decide ((j:Int)<(l0.length:Int))=true:=dt__ (by omega)
   have b2:decide (j<l0.length)=true:=dt__ hlt
   have hq0:0<=(j:Int):=by omega
   have hq1:(j:Int)<(l0.length:Int):=by omega
   have w2:IntKind.i64.wrap ((j:Int)+1)=(j:Int)+1:=IntWalk.i64_in _ (by omega)
   obtain ⟨ad,rfl,k0⟩:=Kd.dm_ (Kd.C_below HR.out HB.out) (j:Int) (by omega) (by omega)
   rw [Int.toNat_natCast] at k0
   obtain ⟨x,hx⟩: ∃ x,x=rd l0 (j:Int):=⟨_,rfl⟩
   rw [←hx] at k0
   have hel:l0[j]? =some x:=by
    rw [hx]
    unfold rd
    rw [Int.toNat_natCast,List.getD_eq_getElem?_getD,List.getElem?_eq_getElem hlt]
    rfl
   have HE:=Sd.m hel
   clear hel hx
   obtain ⟨k,hk⟩: ∃ k,k=dF x:=⟨_,rfl⟩
   have HK:=Sd.m hk
   clear hk
   go_wp2_with fail
   generalize wr=Wo at*
   have hcall:=HD.out x Wo HB.out
   rw [←HK.out] at hcall
   refine hcall.mono ?_
   clear hcall
   rintro e W1 ⟨rfl,hb⟩
   have HB1:=Sd.m (HB.out.trans (hb.mono HB.out.size))
   have HO1:=Sd.m (Kd.R_below HO.out hb)
   clear hb HB HO k0
   by_cases hneg:k<0
   ·have d1:decide (k<0)=true:=dt__ hneg
    have hbad:eachF dF l0=([],1):=by
     unfold eachF
     rw [if_pos]
     rw [List.any_eq_true]
     exact ⟨x,List.mem_of_getElem? HE.out,dt__ (by rw [←HK.out];exact hneg)⟩
    have HBAD:=Sd.m hbad
    clear hneg hbad
    go_wp2_with fail
    go_ret2
    exact ⟨_,by rw [HANS.out,HBAD.out];rfl,by rw [HANS.out,HBAD.out];exact Kd.R_nil _ _ _ _ _,HB1.out⟩
   ·have d1:decide (k<0)=false:=df__ hneg
    have HNEG:=Sd.m hneg
    clear hneg
    go_wp2_with ((with_reducible refine bq_ (b:=.append) (xs:=#[.tmp 21,.tmp 23]) rfl ?_);at_builtin;refine Kd.R_append (Kd.int .i64) (w0:=w) w.heap.size rfl (.tmp 21) (.tmp 23) 42 3 (.int .i64 0) 8 rfl Tryz.underlying42 info3 rfl (by decide) (by omega) (.slice Aa out.length ca) out k [.int .i64 k] (fun _=>True) (fun _=>False) rfl rfl rfl (fun _ hk=>hk.elim) (fun _ _=>trivial) HO1.out HB1.out HB1.out.size (by have:=HOL.out;omega) ?_;intro v' w1 ho hb hg hat;have E1:=Sd.m ho;have E2:=Sd.m hb;clear ho hb hg hat)
    go_roundw
    case rel=>
     refine ⟨j+1,hlt,by go_num,fun y hy=>?_,?_,E2.out⟩
     ·rw [List.take_add_one,HE.out] at hy
      rcases List.mem_append.1 hy with hy | hy
      ·exact HN.out y hy
      ·simp at hy
       rw [hy,←HK.out]
       have:=HNEG.out
       omega
     ·rw [List.take_add_one,HE.out,List.map_append,←HOUT.out]
      simpa [HK.out] using E1.out
    case measure=>simp [intOf];omega
  ·have b1:decide ((j:Int)<(l0.length:Int))=false:=df__ (by omega)
   have b2:decide (j<l0.length)=false:=df__ hlt
   have hgood:eachF dF l0=(out,0):=by
    have hfull:l0.take j=l0:=List.take_of_length_le (by omega)
    unfold eachF
    rw [if_neg,HOUT.out,hfull]
    rw [List.any_eq_true]
    rintro ⟨x,hx,h⟩
    have:=HN.out x (by rw [hfull];exact hx)
    have:=of_decide_eq_true h
    omega
   have HG:=Sd.m hgood
   clear hgood
   go_wp2_with fail
   go_ret2
   exact ⟨_,by rw [HANS.out,HG.out];rfl,by rw [HANS.out,HG.out];exact HO.out,HB.out⟩
open B D
theorem word_one (gb:Nat)(A0:Option Addr)(c0:Nat)(l0:List (List S74))(n:Int)(w:World)(hr0:Kd.C (Kd.slice 74 k74) w A0 l0.length l0)(hc0:l0.length<=c0)(hg:w.heap[gb]? =some (.cells #[.slice A0 l0.length c0] 30 (0,0))):
  Calls Tryz.prog 66 #[.int .i64 n,.pointer (some ⟨gb,0,none⟩)] w fun e w'=>e=.returned (.int .i64 (classF l0 n))∧Below w.heap.size w w':=by
 have hs:=c38 A0 c0 l0 n w hr0 hc0 _ rfl
 have hcell:=bc_ hg 0 rfl
 generalize classF l0 n=b at hs ⊢
 have HS:=Sd.m hs
 clear hs hg hr0 hc0
 go_enter Tryz.func66,Tryz.ntmps66
 go_wp2_with fail
 refine HS.out.mono ?_
 rintro e w' ⟨rfl,hb⟩
 have HB:=Sd.m hb
 clear hb
 go_wp2_with fail
 go_ret
 exact ⟨rfl,HB.out⟩
theorem word_calls (A0:Option Addr)(c0:Nat)(l0:List (List S74))(A1:Option Addr)(c1:Nat)(l1:List Int)(w:World)(hr0:Kd.C (Kd.slice 74 k74) w A0 l0.length l0)(hc0:l0.length<=c0)(hr1:Kd.C (Kd.int .i64) w A1 l1.length l1)(hc1:l1.length<=c1)(hl:l1.length<=100000):
  Calls Tryz.prog 33 #[.slice A0 l0.length c0,.slice A1 l1.length c1] w fun e w'=> ∃ v,e=.returned (.tuple #[v,.int .i64 (eachF (classF l0) l1).2])∧Kd.R (Kd.int .i64) 3 w' w.heap.size (fun _=>True) v (eachF (classF l0) l1).1∧Below w.heap.size w w':=by
 have hb0:=ab_ (Below.refl w.heap.size w) (.cells #[.slice A0 l0.length c0] 30)
 have hbx:(w.alloc (.cells #[.slice A0 l0.length c0] 30)).heap[w.heap.size]? =some (.cells #[.slice A0 l0.length c0] 30 (0,0)):=ah_ _ _
 have hs:=jo_ 66 w.heap.size (classF l0) A1 c1 l1 (w.alloc (.cells #[.slice A0 l0.length c0] 30)) (Kd.C_alloc hr1 _) hc1 hl (enters_of Tryz.func66 (by kernel_rfl) rfl) fun n W hW=>word_one w.heap.size A0 c0 l0 n W (Kd.C_below (Kd.C_alloc hr0 _) hW) hc0 (af_ hbx hW)
 generalize eachF (classF l0) l1=r at hs ⊢
 have HS:=Sd.m hs
 have HB0:=Sd.m hb0
 clear hs hbx hb0 hr0 hr1 hc0 hc1 hl
 go_enter Tryz.func33,Tryz.ntmps33
 go_wp2_with fail
 refine HS.out.mono ?_
 rintro e w' ⟨v,rfl,hR,hb⟩
 have HR:=Sd.m (Kd.R_lower hR HB0.out.size)
 have HB:=Sd.m (HB0.out.trans (hb.mono HB0.out.size))
 obtain ⟨Av,cv,rfl⟩:=Kd.R_slice hR
 clear hb hR
 go_wp2_with fail
 go_ret2
 exact ⟨_,rfl,HR.out,HB.out⟩
def charF (fs:List Int)(n:Int):Int:=if n<0 then -1 else if n ≥ (fs.length:Int) then -1 else rd fs n
theorem chars_one (gb:Nat)(A0:Option Addr)(c0:Nat)(fs:List Int)(n:Int)(w:World)(hr0:Kd.C (Kd.int .i64) w A0 fs.length fs)(hc0:fs.length<=c0)(hg:w.heap[gb]? =some (.cells #[.slice A0 fs.length c0] 42 (0,0))):
  Calls Tryz.prog 69 #[.int .i64 n,.pointer (some ⟨gb,0,none⟩)] w fun e w'=>e=.returned (.int .i64 (charF fs n))∧Below w.heap.size w w':=by
 have hcell:=bc_ hg 0 rfl
 by_cases h1:n<0
 ·have b1:decide (n<0)=true:=dt__ h1
  have e:charF fs n= -1:=if_pos h1
  rw [e]
  clear e hr0 hg
  go_enter Tryz.func69,Tryz.ntmps69
  go_wp2_with fail
  go_ret
  exact ⟨rfl,Below.refl _ _⟩
 ·have b1:decide (n<0)=false:=df__ h1
  by_cases h2:n ≥ (fs.length:Int)
  ·have b2:decide ((fs.length:Int)<=n)=true:=dt__ h2
   have e:charF fs n= -1:=by unfold charF;rw [if_neg h1,if_pos h2]
   rw [e]
   clear e hr0 hg
   go_enter Tryz.func69,Tryz.ntmps69
   go_wp2_with fail
   go_ret
   exact ⟨rfl,Below.refl _ _⟩
  ·have b2:decide ((fs.length:Int)<=n)=false:=df__ h2
   have e:charF fs n=rd fs n:=by unfold charF;rw [if_neg h1,if_neg h2]
   rw [e]
   have q0:0<=n:=by omega
   have q1:n<(fs.length:Int):=by omega
   obtain ⟨ad,rfl,k0⟩:=Kd.dm_ hr0 n q0 q1
   generalize rd fs n=x at k0 ⊢
   clear e hr0 hg
   go_enter Tryz.func69,Tryz.ntmps69
   go_wp2_with fail
   go_ret
   exact ⟨rfl,Below.refl _ _⟩
theorem it_ (A0:Option Addr)(c0:Nat)(l0:List (List S74))(A1:Option Addr)(c1:Nat)(l1:List Int)(w:World)(hr0:Kd.C (Kd.slice 74 k74) w A0 l0.length l0)(hc0:l0.length<=c0)(hr1:Kd.C (Kd.int .i64) w A1 l1.length l1)(hc1:l1.length<=c1)(hl0:l0.length<=100000)(hl:l1.length<=100000):
  Calls Tryz.prog 35 #[.slice A0 l0.length c0,.slice A1 l1.length c1] w fun e w'=> ∃ v,e=.returned (.tuple #[v,.int .i64 (eachF (charF (l0.map firstF)) l1).2])∧Kd.R (Kd.int .i64) 3 w' w.heap.size (fun _=>True) v (eachF (charF (l0.map firstF)) l1).1∧Below w.heap.size w w':=by
 obtain ⟨k,hk⟩:=(firsts_f l0 hl0).rounds
 have HF:=Sd.m (bu_.calls k A0 c0 l0 _ w hr0 hc0 hk)
 have HR1:=Sd.m hr1
 have HC1:=Sd.m hc1
 have HL:=Sd.m hl
 generalize l0.map firstF=fs at HF ⊢
 obtain ⟨r,hr⟩: ∃ r,r=eachF (charF fs) l1:=⟨_,rfl⟩
 rw [←hr]
 have HRR:=Sd.m hr
 clear hr hr0 hr1 hc1 hl hk
 go_enter Tryz.func35,Tryz.ntmps35
 go_wp2_with fail
 refine HF.out.mono ?_
 rintro e W1 ⟨v,rfl,hR,hb⟩
 obtain ⟨Af,cf,rfl⟩:=Kd.R_slice hR
 have HRF:=Sd.m hR
 have HB1:=Sd.m hb
 clear hb hR HF
 go_wp2_with fail
 have hbx: ∀ W2:World,W2.heap[W1.heap.size]? =some (.cells #[.slice Af fs.length cf] 42 (0,0))->Below W1.heap.size W1 W2->Calls Tryz.prog 65 #[.slice A1 l1.length c1,.func (.func 69) #[] #[.pointer (some ⟨W1.heap.size,0,none⟩)]] W2 fun e w'=> ∃ v,e=.returned (.tuple #[v,.int .i64 r.2])∧Kd.R (Kd.int .i64) 3 w' W2.heap.size (fun _=>True) v r.1∧Below W2.heap.size W2 w':=by
  intro W2 h1 h2
  rw [HRR.out]
  exact jo_ 69 W1.heap.size (charF fs) A1 c1 l1 W2 (Kd.C_below (Kd.C_below HR1.out HB1.out) h2) HC1.out HL.out (enters_of Tryz.func69 (by kernel_rfl) rfl) fun n W hW=>chars_one W1.heap.size Af cf fs n W (Kd.C_below (Kd.C_below (Kd.R_reads' HRF.out).2.2 h2) hW) (Kd.R_reads' HRF.out).2.1 (af_ h1 hW)
 have hb0:=ab_ (Below.refl W1.heap.size W1) (.cells #[.slice Af fs.length cf] 42)
 have hcall:=hbx _ (ah_ W1 _) hb0
 clear hbx
 refine hcall.mono ?_
 clear hcall
 rintro e w' ⟨v,rfl,hR2,hb2⟩
 have HR2:=Sd.m (Kd.R_lower hR2 (Nat.le_trans HB1.out.size hb0.size))
 have HB2:=Sd.m (HB1.out.trans ((hb0.trans (hb2.mono hb0.size)).mono HB1.out.size))
 obtain ⟨Av,cv,rfl⟩:=Kd.R_slice hR2
 clear hb2 hR2 hb0
 go_wp2_with fail
 go_ret2
 exact ⟨_,rfl,HR2.out,HB2.out⟩
theorem same_ev (x y:List S74)(hl:y.length<=3000000): ∃ k,co_.f k x y=some (eqF x y):=by
 by_cases h:x.length=y.length
 ·exact (rng_ev (by omega) _ eqF_iff).2.rounds
 ·have hf:eqF x y=false:=by
   cases hb:eqF x y with
   | false=>rfl
   | true=>exact absurd (by rw [eqF_iff.1 hb]) h
  refine ⟨0,?_⟩
  rw [hf]
  unfold co_.f
  exact if_neg (by omega)
theorem same_one (y:List S74)(gc:Nat)(By:Option Addr)(cy:Nat)(A0:Option Addr)(c0:Nat)(l0:List S74)(w:World)(hr0:Kd.C k74 w A0 l0.length l0)(hc0:l0.length<=c0)(hry:Kd.C k74 w By y.length y)(hcy:y.length<=cy)(hly:y.length<=3000000)(hg:w.heap[gc]? =some (.cells #[.slice By y.length cy] 37 (0,0))):
  Calls Tryz.prog 109 #[.slice A0 l0.length c0,.pointer (some ⟨gc,0,none⟩)] w fun e w'=>e=.returned (.bool (eqF l0 y))∧Below w.heap.size w w':=by
 obtain ⟨k,hk⟩:=same_ev l0 y hly
 have hs:=co_.calls k A0 c0 l0 By cy y _ w hr0 hc0 hry hcy hk
 have hcell:=bc_ hg 0 rfl
 generalize eqF l0 y=b at hs ⊢
 have HS:=Sd.m hs
 clear hs hg hr0 hc0 hk hry hcy hly
 go_enter Tryz.func109,Tryz.ntmps109
 go_wp2_with fail
 refine HS.out.mono ?_
 rintro e w' ⟨rfl,hb⟩
 have HB:=Sd.m hb.below
 clear hb
 go_wp2_with fail
 go_ret
 exact ⟨rfl,HB.out⟩
theorem index_same (y:List S74)(gc:Nat)(By:Option Addr)(cy:Nat)(A0:Option Addr)(c0:Nat)(l0:List (List S74))(w:World)(hr0:Kd.C (Kd.slice 74 k74) w A0 l0.length l0)(hc0:l0.length<=c0)(hry:Kd.C k74 w By y.length y)(hcy:y.length<=cy)(hly:y.length<=3000000)(hg:w.heap[gc]? =some (.cells #[.slice By y.length cy] 37 (0,0))):
  Calls Tryz.prog 137 #[.slice A0 l0.length c0,.func (.func 109) #[] #[.pointer (some ⟨gc,0,none⟩)]] w fun e w'=>e=.returned (.int .i64 (ixF (fun x_:List S74=>eqF x_ y) l0))∧Below w.heap.size w w':=by
 have HR:=Sd.m hr0
 have HG:=Sd.m hg
 have HY:=Sd.m hry
 have HCY:=Sd.m hcy
 have HLY:=Sd.m hly
 clear hg hry hcy hly
 have HM:l0.length<=9223372036854775807:=Kd.C_max hr0
 have eg: ∀ args w,(callFunc 109 args).run Tryz.prog w=.ok (.enter 109 args) w:=enters_of Tryz.func109 (by kernel_rfl) rfl
 clear hr0
 obtain ⟨p,hp⟩: ∃ p:List S74->Bool,p=fun x_:List S74=>eqF x_ y:=⟨_,rfl⟩
 rw [←hp]
 have HP:=Sd.m hp
 clear hp
 go_enter Tryz.func137,Tryz.ntmps137
 go_wp2_with fail
 go_loopw [8] (fun u W=>Lxi w l0 p u W) (fun u _=>l0.length - (intOf u).toNat)
 case atStart=>exact ⟨0,Nat.zero_le _,rfl,Below.refl _ _,(fun r hr=>by simp at hr)⟩
 case round=>
  obtain ⟨j,hj,rfl,hb,hno⟩:=hrel
  have HB:=Sd.m hb
  have HN:=Sd.m hno
  clear hb hno
  by_cases hlt:j<l0.length
  ·have b1:decide ((j:Int)<(l0.length:Int))=true:=dt__ (by omega)
   have b2:decide (j<l0.length)=true:=dt__ hlt
   obtain ⟨ad,A1,c1,rfl,k0,k1,k2⟩:=jc_ (Kd.C_below HR.out HB.out) (j:Int) (by omega) (by omega)
   rw [Int.toNat_natCast] at k0
   have hq0:0<=(j:Int):=by omega
   have hq1:(j:Int)<(l0.length:Int):=by omega
   have w2:IntKind.i64.wrap ((j:Int)+1)=(j:Int)+1:=IntWalk.i64_in _ (by omega)
   have hel:l0[j]? =some (dh_ l0 j):=by
    unfold dh_
    rw [Int.toNat_natCast,List.getD_eq_getElem?_getD,List.getElem?_eq_getElem hlt]
    rfl
   have HE:=Sd.m hel
   clear hel
   obtain ⟨s,hs⟩: ∃ s,s=dh_ l0 j:=⟨_,rfl⟩
   rw [←hs] at k0 k1 k2 HE
   clear hs
   have HK:=Sd.m k2
   have HK1:=Sd.m k1
   clear k2 k1
   go_wp2_with fail
   have hrl:=same_one y gc By cy A1 c1 s wr HK.out HK1.out (Kd.C_below HY.out HB.out) HCY.out HLY.out (af_ HG.out HB.out)
   rw [show eqF s y=p s from by rw [HP.out]] at hrl
   refine hrl.mono ?_
   clear hrl
   rintro e W7 ⟨rfl,hb7⟩
   have HB7:=Sd.m (HB.out.trans (hb7.mono HB.out.size))
   clear hb7 k0
   cases hi:p s with
   | true=>
    have HI:=Sd.m hi
    clear hi
    go_wp2_with fail
    go_ret
    have hfi:(l0.findIdx? p)=some j:=List.findIdx?_eq_some_iff_getElem.2 ⟨hlt,(by rw [List.getElem?_eq_getElem hlt] at HE;rw [Option.some.inj HE.out];exact HI.out),(fun i hi=>by
     have:=HN.out (l0[i]'(by omega)) (List.mem_take_iff_getElem.2 ⟨i,by omega,rfl⟩)
     rw [this]
     decide)⟩
    have hix:ixF p l0=j:=by
     unfold ixF
     rw [hfi]
    exact ⟨by rw [hix];rfl,HB7.out⟩
   | false=>
    have HI:=Sd.m hi
    clear hi
    go_wp2_with fail
    go_roundw
    case rel=>
     refine ⟨j+1,hlt,by go_num,HB7.out,fun r hr=>?_⟩
     rw [List.take_add_one,HE.out] at hr
     rcases List.mem_append.1 hr with hr | hr
     ·exact HN.out r hr
     ·simp at hr
      rw [hr]
      exact HI.out
    case measure=>simp [intOf];omega
  ·have b1:decide ((j:Int)<(l0.length:Int))=false:=df__ (by omega)
   have b2:decide (j<l0.length)=false:=df__ hlt
   go_wp2_with fail
   go_ret
   have:ixF p l0= -1:=by
    unfold ixF
    rw [List.findIdx?_eq_none_iff.2 fun x hx=>HN.out x (by rw [List.take_of_length_le (by omega)];exact hx)]
   exact ⟨by rw [this];rfl,HB.out⟩
noncomputable def inF (y:List S74)(l:List (List S74)):Bool:=l.any fun x=>eqF x y
theorem ko_ (y:List S74)(gc:Nat)(By:Option Addr)(cy:Nat)(A0:Option Addr)(c0:Nat)(l0:List (List S74))(w:World)(hr0:Kd.C (Kd.slice 74 k74) w A0 l0.length l0)(hc0:l0.length<=c0)(hry:Kd.C k74 w By y.length y)(hcy:y.length<=cy)(hly:y.length<=3000000)(hg:w.heap[gc]? =some (.cells #[.slice By y.length cy] 37 (0,0)))(b:Bool)(h:inF y l0=b):
  Calls Tryz.prog 108 #[.slice A0 l0.length c0,.func (.func 109) #[] #[.pointer (some ⟨gc,0,none⟩)]] w fun e w'=>e=.returned (.bool b)∧Below w.heap.size w w':=by
 have hi:=index_same y gc By cy A0 c0 l0 w hr0 hc0 hry hcy hly hg
 have hge:decide (0<=ixF (fun x:List S74=>eqF x y) l0)=b:=(ixF_ge _ l0).trans h
 generalize ixF (fun x:List S74=>eqF x y) l0=i at hi hge
 rw [←hge]
 have HI:=Sd.m hi
 clear hi hr0 hc0 hge h hry hcy hly hg
 go_enter Tryz.func108,Tryz.ntmps108
 go_wp2_with fail
 refine HI.out.mono ?_
 rintro e w' ⟨rfl,hb⟩
 have HB:=Sd.m hb
 clear hb
 go_wp2_with fail
 go_ret
 exact ⟨rfl,HB.out⟩
open YthfceiincmkccaaGreatW.PrintWords.Kd
theorem cl_ {P:Program}{ops:Array Oper}{o:Oper}{a:Act}{w w1:World}{K:Act->World->Prop}{Q:Exit->Act->World->Prop}{E:Prop}{v:Value}
  (hg:o.guard=none) (s x:Operand) (t:TypeId) (hop:o.op=Op.call { callee:=Callee.builtin Builtin.append,args:=#[s,x],argTypes:=#[t,t] })
  (vs vx:Value) (hs:a.eval s=vs) (hx:a.eval x=vx) (hrun:(Builtin.append_ #[t,t] o.type #[vs,vx]).run P w=.ok v w1)
  (hK:K (a.put o.dst v) w1):
  if Region.wanted o (yielded ops a.tmps)=true then Oper.wp P o a w K Q else E:=by
 have hw:Region.wanted o (yielded ops a.tmps)=true:=by simp [Region.wanted,hg]
 rw [if_pos hw]
 unfold Oper.wp
 simp [execOp,hop,resolve,invoke,builtin,hs,hx,hrun,Result.andThen]
 exact hK
def Held (w0 W:World)(v:Value)(xs:List (List S74)):Prop:=OwnRow ((Kd.slice 74 k74).K w0) 37 1 W w0.heap.size v xs
theorem Held.reads {w0 W:World}{v:Value}{xs:List (List S74)}(h:Held w0 W v xs)(hb:Below w0.heap.size w0 W): ∃ A c,v=.slice A xs.length c∧xs.length<=c∧Kd.C (Kd.slice 74 k74) W A xs.length xs:=by
 obtain ⟨A,c,e,hl,hr⟩:=OwnRow.reads h
 exact ⟨A,c,e,hl,ReadsRow.imp_ hr (Below.refl _ _) fun _ _ hp=>(Kd.slice 74 k74).K_below hb hp⟩
theorem Held.kept {w0 W W1:World}{v:Value}{xs:List (List S74)}(h:Held w0 W v xs)(hm: ∀ k,v.ownBlock=some k->W1.heap[k]? =W.heap[k]?):Held w0 W1 v xs:=by
 obtain ⟨inner,ho,hr⟩:=h
 exact ⟨inner,own_move ho hm,hr⟩
theorem held_app {w0 W:World}{v:Value}{xs:List (List S74)}(h:Held w0 W v xs)(y:List S74)(By:Option Addr)(cy:Nat)(hy:Kd.C k74 w0 By y.length y)(hcy:y.length<=cy)(a:Addr)(ha:W.cell? a=some (.slice By y.length cy))(hb:w0.heap.size<=W.heap.size)(hl:xs.length<=1000000):
  ∃ A4 c4 w2,(Builtin.append_ #[68,68] 68 #[v,.slice (some a) 1 1]).run Tryz.prog W=.ok (.slice A4 (xs.length+1) c4) w2∧Held w0 w2 (.slice A4 (xs.length+1) c4) (xs ++ [y])∧W.grownBy w2 v.ownBlock:=by
 obtain ⟨inner,ho,hr⟩:=h
 obtain ⟨i0,hi,hzz⟩:=Option.map_eq_some_iff.1 (show (Tryz.prog.info? 37).map (fun i=>(i.zero,i.size,i.bytes))=some (some (.slice none 0 0),1,24) by kernel_rfl)
 simp only [Prod.mk.injEq] at hzz
 obtain ⟨hz0,hz1,hz2⟩:=hzz
 obtain ⟨v1,w1,hrun,h2,hg,_,hat⟩:=run_append_own_at (P:=Tryz.prog) (w:=W) w0.heap.size 68 68 37 i0 (.slice none 0 0) 1 24 Tryz.underlying68 hi hz0 hz1 hz2 rfl (by decide) v xs.length inner ho a 1 1 [.slice By y.length cy] rfl (fun j u hu=>by
  cases j with
  | zero=>injection hu with hu;rw [←hu];exact ha
  | succ j=>simp at hu) (fun u hu=>by rw [List.mem_singleton.1 hu];rfl) (by simp only [maxLen];omega) (by omega) hb
 have hR:Reps ((Kd.slice 74 k74).K w0) 1 (xs ++ [y]) (inner ++ [.slice By y.length cy]):=hr.snoc ⟨By,cy,rfl,hcy,hy⟩ rfl
 have hH:Held w0 w1 v1 (xs ++ [y]):=⟨_,by rw [List.length_append];exact h2,hR⟩
 obtain ⟨A4,c4,e,_⟩:=OwnRow.reads hH
 rw [List.length_append] at e
 subst e
 exact ⟨A4,c4,w1,hrun,hH,hg⟩
def SetAt (w0 W:World)(gs:Nat)(xs:List (List S74)):Prop:=(∃ v,Boxed W gs 68 v∧Held w0 W v xs)∧Below w0.heap.size w0 W∧w0.heap.size<=gs
theorem SetAt.boxed {w0 W:World}{gs:Nat}{xs:List (List S74)}(h:SetAt w0 W gs xs): ∃ A c,Boxed W gs 68 (.slice A xs.length c)∧Held w0 W (.slice A xs.length c) xs∧xs.length<=c∧Kd.C (Kd.slice 74 k74) W A xs.length xs:=by
 obtain ⟨⟨v,hv,hh⟩,hb,_⟩:=h
 obtain ⟨A,c,rfl,hl,hr⟩:=hh.reads hb
 exact ⟨A,c,hv,hh,hl,hr⟩
def Kept45 (W W1:World):Prop:=W.heap.size<=W1.heap.size∧ ∀ (k:Nat) (cells:Array Value) (t:Nat),t≠37->t≠68->W.heap[k]? =some (Obj.cells cells t (0,0))->W1.heap[k]? =W.heap[k]?
theorem ef_ {W W1:World}(h:Below W.heap.size W W1):Kept45 W W1:=⟨h.size,fun k cells t _ _ hk=>h.block k (Array.getElem?_eq_some_iff.1 hk).1⟩
noncomputable def addF (xs:List (List S74))(y:List S74):List (List S74):=if inF y xs=true then xs else xs ++ [y]
theorem add_end (w0 W W3 w4:World)(gs:Nat)(xs:List (List S74))(y:List S74)(v v4:Value)(hin:inF y xs=false)(hgs:w0.heap.size<=gs)(hW0:w0.heap.size<=W.heap.size)(hb0:Below w0.heap.size w0 W)(hb3:Below W.heap.size W W3)(hh3:Held w0 W3 v xs)(hg4:W3.grownBy w4 v.ownBlock)(hv3:Boxed W3 gs 68 v)(hv4:Boxed w4 gs 68 v)(hh4:Held w0 w4 v4 (xs ++ [y])):
  SetAt w0 (w4.setCell ⟨gs,0,none⟩ v4) gs (addF xs y)∧Kept45 W (w4.setCell ⟨gs,0,none⟩ v4):=by
 obtain ⟨inner3,ho3,_⟩:=hh3
 have h3:Below w0.heap.size w0 W3:=hb0.trans (hb3.mono hW0)
 have h4:Below w0.heap.size w0 w4:=h3.grown hg4 h3.size fun k hk=>fr_ ho3 k hk
 rw [show addF xs y=xs ++ [y] from if_neg (by rw [hin];decide)]
 refine ⟨⟨⟨_,hv4.set v4,hh4.kept fun k hk=>?_⟩,h4.setCell (p:=⟨gs,0,none⟩) hgs _,hgs⟩,?_,fun k cells t ht1 ht2 hk=>?_⟩
 ·obtain ⟨inner4,ho4,_⟩:=hh4
  refine Below.heap_setCell w4 ⟨gs,0,none⟩ v4 k fun e=>?_
  exact hv4.not_row (by decide) ho4 (by rw [hk];exact congrArg some e.symm)
 ·exact Nat.le_trans hb3.size (Nat.le_trans hg4.size (by simp))
 ·have hlt:k<W.heap.size:=(Array.getElem?_eq_some_iff.1 hk).1
  have e3:W3.heap[k]? =W.heap[k]? :=hb3.block k hlt
  have hk3:W3.heap[k]? =some (Obj.cells cells t (0,0)):=e3.trans hk
  have e4:w4.heap[k]? =W3.heap[k]? :=hg4.block k (Array.getElem?_eq_some_iff.1 hk3).1 fun e=>by
   obtain ⟨cs,hc⟩:=ey_ ho3 k e.symm
   rw [hk3] at hc
   injection hc with hc
   injection hc with _ hc
   exact ht1 hc
  have hne:k≠gs:=fun e=>by
   rw [e] at hk3
   have:=hv3.symm.trans hk3
   injection this with this
   injection this with _ this
   exact ht2 this.symm
  exact ((Below.heap_setCell w4 ⟨gs,0,none⟩ v4 k hne).trans e4).trans e3
theorem add_calls (w0 W:World)(gs:Nat)(xs:List (List S74))(h:SetAt w0 W gs xs)(hxl:xs.length<=1000000)(y:List S74)(By:Option Addr)(cy:Nat)(hy:Kd.C k74 w0 By y.length y)(hcy:y.length<=cy)(hly:y.length<=3000000):
  Calls Tryz.prog 73 #[.pointer (some ⟨gs,0,none⟩),.slice By y.length cy] W fun e W1=>e=.returned (.tuple #[])∧SetAt w0 W1 gs (addF xs y)∧Kept45 W W1:=by
 obtain ⟨A,c,hv,hh,hl,hr⟩:=h.boxed
 have hb0:Below w0.heap.size w0 W:=h.2.1
 have hgs:w0.heap.size<=gs:=h.2.2
 have hW0:w0.heap.size<=W.heap.size:=hb0.size
 obtain ⟨W1,hW1⟩: ∃ W_,W_=W.alloc (.cells #[.slice By y.length cy] 37):=⟨_,rfl⟩
 have hbW:Below W.heap.size W W1:=by rw [hW1];exact ab_ (Below.refl W.heap.size W) _
 have hbx:W1.heap[W.heap.size]? =some (.cells #[.slice By y.length cy] 37 (0,0)):=by rw [hW1];exact ah_ _ _
 have hv1:Boxed W1 gs 68 (.slice A xs.length c):=by rw [hW1];exact hv.alloc _
 have hcell:(W.alloc (.cells #[.slice By y.length cy] 37)).cell? ⟨gs,0,none⟩=some (.slice A xs.length c):=by rw [←hW1];exact hv1.cell
 obtain ⟨b,hb⟩: ∃ b,inF y xs=b:=⟨_,rfl⟩
 have hs:=ko_ y W.heap.size By cy A c xs W1 (Kd.C_below hr hbW) hl (Kd.C_below (Kd.C_below hy hb0) hbW) hcy hly hbx b hb
 have HS:=Sd.m hs
 have HBX:=Sd.m hbx
 have HV:=Sd.m hv1
 have HBW:=Sd.m hbW
 have HH:=Sd.m hh
 have HB0:=Sd.m hb0
 have HIN:=Sd.m hb
 have HY:=Sd.m hy
 have HH0:=Sd.m h
 clear hs hbx hr hv1 hbW hh hb0 hb h hy
 go_enter Tryz.func73,Tryz.ntmps73
 go_wp2_with fail
 rw [←hW1]
 clear hW1 hcell
 refine HS.out.mono ?_
 rintro e W2 ⟨rfl,hb2⟩
 have hb12:Below W.heap.size W W2:=HBW.out.trans (hb2.mono HBW.out.size)
 have hv2:Boxed W2 gs 68 (.slice A xs.length c):=(hb2.block gs HV.out.lt).trans HV.out
 have hc2:=hv2.cell
 have hf2:=hv2.frozen
 have hn2:Boxed W2 W.heap.size 37 (.slice By y.length cy):=(hb2.block _ (Boxed.lt HBX.out)).trans HBX.out
 have hcn:=hn2.cell
 have HB12:=Sd.m hb12
 have HV2:=Sd.m hv2
 have HN2:=Sd.m hn2
 have hh2:Held w0 W2 (.slice A xs.length c) xs:=HH.out.kept fun k hk=>by
  obtain ⟨inner,ho,_⟩:=HH.out
  exact hb12.block k (own_lt ho k hk)
 have HH2:=Sd.m hh2
 clear hh2 hb12 hv2 hn2 hb2
 cases b with
 | true=>
  go_wp2_with fail
  refine Great.bodyPost_end0 rfl rfl ?_
  exact ⟨rfl,by rw [show addF xs y=xs from if_pos HIN.out];exact ⟨⟨_,HV2.out,HH2.out⟩,HB0.out.trans (HB12.out.mono hW0),hgs⟩,ef_ HB12.out⟩
 | false=>
  have hmx:Tryz.prog.follows .mixedOrders=true:=by kernel_rfl
  go_wp2_with fail
  obtain ⟨W3,hW3⟩: ∃ W_,W_=(W2.alloc (.cells #[.slice By y.length cy] 37)).drew:=⟨_,rfl⟩
  have hb3:Below W.heap.size W W3:=by
   rw [hW3]
   have q:=ab_ HB12.out (.cells #[.slice By y.length cy] 37)
   exact ⟨q.os,q.tape,q.output,q.size,q.block⟩
  have hh3:Held w0 W3 (.slice A xs.length c) xs:=HH.out.kept fun k hk=>by
   obtain ⟨inner,ho,_⟩:=HH.out
   exact hb3.block k (own_lt ho k hk)
  have hv3:Boxed W3 gs 68 (.slice A xs.length c):=(hb3.block gs hv.lt).trans hv
  have hnew:W3.cell? ⟨W2.heap.size,0,none⟩=some (.slice By y.length cy):=by rw [hW3];exact (Boxed.new W2 37 _).cell
  obtain ⟨A4,c4,w4,hrun,hh4,hg4⟩:=held_app hh3 y By cy HY.out hcy _ hnew (Nat.le_trans hW0 hb3.size) hxl
  have hne:some gs≠(Value.slice A xs.length c).ownBlock:=by
   obtain ⟨inner,ho,_⟩:=hh3
   exact hv3.not_row (by decide) ho
  have hv4:=hv3.kept hg4 hne
  have hc4:=hv4.cell
  have hf4:=hv4.frozen
  have hc3:=hv3.cell
  rw [hW3] at hrun hc3
  have HG4:=Sd.m hg4
  have HB3:=Sd.m hb3
  have HV4:=Sd.m hv4
  have HH3:=Sd.m hh3
  have HV3:=Sd.m hv3
  have HH4:=Sd.m hh4
  clear hW3 hg4 hv4 hh4 hb3 hh3 hv3 hnew
  go_region_law (refine cl_ rfl (.tmp 13) (.tmp 15) 68 rfl _ _ rfl rfl hrun ?_)
  all_goals
   refine Great.bodyPost_end0 rfl rfl ?_
   exact ⟨rfl,add_end w0 W W3 w4 gs xs y _ _ HIN.out hgs hW0 HB0.out HB3.out HH3.out HG4.out HV3.out HV4.out HH4.out⟩
noncomputable def formF (p:S45)(xs:List (List S74)):List (List S74):=
 p.f3.attach.foldl (fun a q=>formF q.1 a) (if p.f0=2 then addF xs p.f1 else xs)
termination_by SizeOf.sizeOf p
decreasing_by
 obtain ⟨q,hq⟩:=q
 have:=List.sizeOf_lt_of_mem hq
 cases p
 simp at*
 omega
theorem ed_ (p:S45)(xs:List (List S74)):formF p xs=p.f3.foldl (fun a q=>formF q a) (if p.f0=2 then addF xs p.f1 else xs):=by
 rw [formF]
 exact List.foldl_attach (l:=p.f3) (f:=fun a q=>formF q a)
def nodes (p:S45):Nat:=1+(p.f3.attach.map fun q=>nodes q.1).sum
termination_by SizeOf.sizeOf p
decreasing_by
 obtain ⟨q,hq⟩:=q
 have:=List.sizeOf_lt_of_mem hq
 cases p
 simp at*
 omega
theorem dx_ (p:S45):nodes p=1+(p.f3.map nodes).sum:=by
 rw [nodes,List.attach_map_val (l:=p.f3) (f:=nodes)]
inductive Wide:S45->Prop
 | mk (p:S45) (h:p.f1.length<=3000000) (hs: ∀ q∈p.f3,Wide q):Wide p
theorem SetAt.step {w0 W W1:World}{gs:Nat}{xs:List (List S74)}(h:SetAt w0 W gs xs)(hb:Below W.heap.size W W1):SetAt w0 W1 gs xs:=by
 obtain ⟨⟨v,hv,hh⟩,hb0,hgs⟩:=h
 refine ⟨⟨v,(hb.block gs hv.lt).trans hv,hh.kept fun k hk=>?_⟩,hb0.trans (hb.mono hb0.size),hgs⟩
 obtain ⟨inner,ho,_⟩:=hh
 exact hb.block k (own_lt ho k hk)
theorem Kept45.trans {W W1 W2:World}(h:Kept45 W W1)(h2:Kept45 W1 W2):Kept45 W W2:=
 ⟨Nat.le_trans h.1 h2.1,fun k cells t h1 h3 hk=>(h2.2 k cells t h1 h3 ((h.2 k cells t h1 h3 hk).trans hk)).trans (h.2 k cells t h1 h3 hk)⟩
theorem addF_len (xs:List (List S74))(y:List S74):(addF xs y).length<=xs.length+1:=by
 unfold addF
 by_cases h:inF y xs=true
 ·rw [if_pos h];omega
 ·rw [if_neg h];simp
theorem fa_ (p:S45): ∀ xs:List (List S74),(formF p xs).length<=xs.length+nodes p:=by
 intro xs
 rw [ed_,dx_]
 have key: ∀ (l:List S45),(∀ q∈l,q∈p.f3)-> ∀ a:List (List S74),(l.foldl (fun a q=>formF q a) a).length<=a.length+(l.map nodes).sum:=by
  intro l
  induction l with
  | nil=>intro _ a;simp
  | cons q l ih=>
   intro hl a
   rw [List.foldl_cons,List.map_cons,List.sum_cons]
   have h1:=ih (fun r hr=>hl r (List.mem_cons_of_mem _ hr)) (formF q a)
   have h2:=fa_ q a
   omega
 have h1:=key p.f3 (fun _ h=>h) (if p.f0=2 then addF xs p.f1 else xs)
 by_cases h:p.f0=2
 ·rw [if_pos h] at h1 ⊢
  have:=addF_len xs p.f1
  omega
 ·rw [if_neg h] at h1 ⊢
  omega
termination_by SizeOf.sizeOf p
decreasing_by
 have:=List.sizeOf_lt_of_mem (hl q (List.mem_cons_self ..))
 cases p
 simp at*
 omega
theorem fold_room (l:List S45)(j:Nat)(q:S45)(h:l[j]? =some q)(xs:List (List S74)):((l.take j).foldl (fun a q=>formF q a) xs).length+nodes q<=xs.length+(l.map nodes).sum:=by
 induction l generalizing j xs with
 | nil=>simp at h
 | cons r l ih=>
  cases j with
  | zero=>
   simp at h
   subst h
   simp
  | succ j=>
   have h1:=ih j (by simpa using h) (formF r xs)
   have h2:=fa_ r xs
   rw [List.take_succ_cons,List.foldl_cons,List.map_cons,List.sum_cons]
   omega
def FoO (w0 W:World)(gs:Nat)(p:S45)(xs:List (List S74))(u:Value)(W1:World):Prop:= ∃ j:Nat,j<=p.f3.length∧u=.int .i64 j∧SetAt w0 W1 gs ((p.f3.take j).foldl (fun a q=>formF q a) xs)∧Kept45 W W1
theorem form_no (w0 W:World)(gs:Nat)(p:S45)(xs:List (List S74))(h:SetAt w0 W gs xs)(A1:Option Addr)(c1:Nat)(A2:Option Addr)(c2:Nat)(A3:Option Addr)(c3:Nat)
  (l3:p.f3.length<=c3) (g3:k45.C w0 A3 p.f3.length p.f3) (hw: ∀ q∈p.f3,Wide q) (hxl:xs.length+(p.f3.map nodes).sum<=1000000) (hp:p.f0≠2)
  (ih: ∀ q∈p.f3,∀ (W:World) (xs:List (List S74)),SetAt w0 W gs xs->xs.length+nodes q<=1000000->Wide q-> ∀ (B1:Option Addr) (d1:Nat) (B2:Option Addr) (d2:Nat) (B3:Option Addr) (d3:Nat),q.f1.length<=d1->k74.C w0 B1 q.f1.length q.f1->q.f3.length<=d3->k45.C w0 B3 q.f3.length q.f3->
   Calls Tryz.prog 42 #[.pointer (some ⟨gs,0,none⟩),.agg #[.int .i64 q.f0,.slice B1 q.f1.length d1,.slice B2 q.f2.length d2,.slice B3 q.f3.length d3]] W fun e W1=>e=.returned (.tuple #[])∧SetAt w0 W1 gs (formF q xs)∧Kept45 W W1):
  Calls Tryz.prog 42 #[.pointer (some ⟨gs,0,none⟩),.agg #[.int .i64 p.f0,.slice A1 p.f1.length c1,.slice A2 p.f2.length c2,.slice A3 p.f3.length c3]] W fun e W1=>e=.returned (.tuple #[])∧SetAt w0 W1 gs (formF p xs)∧Kept45 W W1:=by
 have HX:=Sd.m h
 have HG:=Sd.m g3
 have HWI:=Sd.m hw
 have HI:=Sd.m ih
 have HXL:=Sd.m hxl
 have b1:(p.f0 == 2)=false:=by simpa using hp
 have HP:=Sd.m hp
 have HM:p.f3.length<=9223372036854775807:=Kd.C_max g3
 clear h g3 hw ih hxl hp
 go_enter Tryz.func42,Tryz.ntmps42
 go_wp2_with fail
 go_loopw [16] (fun u W1=>FoO w0 W gs p xs u W1) (fun u _=>p.f3.length - (intOf u).toNat)
 case atStart=>exact ⟨0,Nat.zero_le _,rfl,SetAt.step HX.out (ab_ (Below.refl _ _) _),ef_ (ab_ (Below.refl _ _) _)⟩
 case round=>
  obtain ⟨j,hj,rfl,hS,hK⟩:=hrel
  have HS:=Sd.m hS
  have HK:=Sd.m hK
  clear hS hK
  by_cases hlt:j<p.f3.length
  ·have b1:decide ((j:Int)<(p.f3.length:Int))=true:=dt__ (by omega)
   have b2:decide (j<p.f3.length)=true:=dt__ hlt
   have hq0:0<=(j:Int):=by omega
   have hq1:(j:Int)<(p.f3.length:Int):=by omega
   have w2:IntKind.i64.wrap ((j:Int)+1)=(j:Int)+1:=IntWalk.i64_in _ (by omega)
   obtain ⟨ad,B1,d1,B2,d2,B3,d3,rfl,k0,k1,k2,k3,m1,e1,m2,e2,m3,e3⟩:=iv_ HG.out (j:Int) (by omega) (by omega)
   rw [Int.toNat_natCast] at k0 k1 k2 k3
   have hel:p.f3[j]? =some (bz_ p.f3 (j:Int)):=by
    unfold bz_
    rw [Int.toNat_natCast,List.getD_eq_getElem?_getD,List.getElem?_eq_getElem hlt]
    rfl
   generalize bz_ p.f3 (j:Int)=q at k0 k1 k2 k3 m1 e1 m2 e2 m3 e3 hel
   replace k0:=(HS.out.2.1.cell (bl__ w0 _ k0)).trans k0
   replace k1:=(HS.out.2.1.cell (bl__ w0 _ k1)).trans k1
   replace k2:=(HS.out.2.1.cell (bl__ w0 _ k2)).trans k2
   replace k3:=(HS.out.2.1.cell (bl__ w0 _ k3)).trans k3
   have hroom:=fold_room p.f3 j q hel xs
   have HR:=Sd.m hroom
   have HE:=Sd.m hel
   have M1:=Sd.m m1
   have M3:=Sd.m m3
   have E1:=Sd.m e1
   have E3:=Sd.m e3
   clear hroom hel m1 m2 m3 e1 e2 e3
   go_wp2_with fail
   have hcall:=HI.out q (List.mem_of_getElem? HE.out) _ _ (SetAt.step HS.out (ab_ (Below.refl _ _) (.cells #[.int .i64 q.f0,.slice B1 q.f1.length d1,.slice B2 q.f2.length d2,.slice B3 q.f3.length d3] 45))) (by have:=HR.out;have:=HXL.out;omega) (HWI.out q (List.mem_of_getElem? HE.out)) B1 d1 B2 d2 B3 d3 M1.out E1.out M3.out E3.out
   refine hcall.mono ?_
   clear hcall
   rintro e W1 ⟨rfl,hS1,hK1⟩
   have HS1:=Sd.m hS1
   have HK1:=Sd.m (HK.out.trans (Kept45.trans (ef_ (ab_ (Below.refl _ _) _)) hK1))
   clear hS1 hK1 k0 k1 k2 k3
   go_wp2_with fail
   go_roundw
   case rel=>
    refine ⟨j+1,hlt,by go_num,?_,HK1.out⟩
    rw [List.take_add_one,HE.out,List.foldl_append]
    exact HS1.out
   case measure=>simp [intOf];omega
  ·have b1:decide ((j:Int)<(p.f3.length:Int))=false:=df__ (by omega)
   have b2:decide (j<p.f3.length)=false:=df__ hlt
   go_wp2_with fail
   refine Great.bodyPost_end0 rfl rfl ?_
   have hS:=HS.out
   rw [List.take_of_length_le (by omega)] at hS
   exact ⟨rfl,by rw [ed_,if_neg HP.out];exact hS,HK.out⟩
theorem form_yes (w0 W:World)(gs:Nat)(p:S45)(xs:List (List S74))(h:SetAt w0 W gs xs)(A1:Option Addr)(c1:Nat)(A2:Option Addr)(c2:Nat)(A3:Option Addr)(c3:Nat)
  (l1:p.f1.length<=c1) (g1:k74.C w0 A1 p.f1.length p.f1) (h1:p.f1.length<=3000000) (l3:p.f3.length<=c3) (g3:k45.C w0 A3 p.f3.length p.f3) (hw: ∀ q∈p.f3,Wide q) (hxl:xs.length+1+(p.f3.map nodes).sum<=1000000) (hp:p.f0=2)
  (ih: ∀ q∈p.f3,∀ (W:World) (xs:List (List S74)),SetAt w0 W gs xs->xs.length+nodes q<=1000000->Wide q-> ∀ (B1:Option Addr) (d1:Nat) (B2:Option Addr) (d2:Nat) (B3:Option Addr) (d3:Nat),q.f1.length<=d1->k74.C w0 B1 q.f1.length q.f1->q.f3.length<=d3->k45.C w0 B3 q.f3.length q.f3->
   Calls Tryz.prog 42 #[.pointer (some ⟨gs,0,none⟩),.agg #[.int .i64 q.f0,.slice B1 q.f1.length d1,.slice B2 q.f2.length d2,.slice B3 q.f3.length d3]] W fun e W1=>e=.returned (.tuple #[])∧SetAt w0 W1 gs (formF q xs)∧Kept45 W W1):
  Calls Tryz.prog 42 #[.pointer (some ⟨gs,0,none⟩),.agg #[.int .i64 p.f0,.slice A1 p.f1.length c1,.slice A2 p.f2.length c2,.slice A3 p.f3.length c3]] W fun e W1=>e=.returned (.tuple #[])∧SetAt w0 W1 gs (formF p xs)∧Kept45 W W1:=by
 have HX:=Sd.m h
 have HG:=Sd.m g3
 have HWI:=Sd.m hw
 have HI:=Sd.m ih
 have HXL:=Sd.m hxl
 have b1:(p.f0 == 2)=true:=by simpa using hp
 have HP:=Sd.m hp
 have HM:p.f3.length<=9223372036854775807:=Kd.C_max g3
 clear h g3 hw ih hxl hp
 go_enter Tryz.func42,Tryz.ntmps42
 have HG1:=Sd.m g1
 have HL1:=Sd.m l1
 have HH1:=Sd.m h1
 clear g1 l1 h1
 go_wp2_with fail
 have hcall0:=add_calls w0 _ gs xs (SetAt.step HX.out (ab_ (Below.refl W.heap.size W) (.cells #[.int .i64 p.f0,.slice A1 p.f1.length c1,.slice A2 p.f2.length c2,.slice A3 p.f3.length c3] 45))) (by have:=HXL.out;omega) p.f1 A1 c1 HG1.out HL1.out HH1.out
 refine hcall0.mono ?_
 clear hcall0
 rintro e Wn ⟨rfl,hSn,hKn⟩
 have hbox:Wn.heap[W.heap.size]? =some (.cells #[.int .i64 p.f0,.slice A1 p.f1.length c1,.slice A2 p.f2.length c2,.slice A3 p.f3.length c3] 45 (0,0)):=(hKn.2 W.heap.size _ 45 (by decide) (by decide) (ah_ W _)).trans (ah_ W _)
 have hc3:=bc_ hbox 3 rfl
 have HSN:=Sd.m hSn
 have HKN:=Sd.m (Kept45.trans (ef_ (ab_ (Below.refl W.heap.size W) _)) hKn)
 have hxn:(addF xs p.f1).length+(p.f3.map nodes).sum<=1000000:=by have:=addF_len xs p.f1;have:=HXL.out;omega
 have HXN:=Sd.m hxn
 clear hSn hKn hbox hxn
 obtain ⟨ys,hys⟩: ∃ ys,ys=addF xs p.f1:=⟨_,rfl⟩
 rw [←hys] at HSN HXN
 have HYS:=Sd.m hys
 clear hys
 go_wp2_with fail
 go_loopw [16] (fun u W1=>FoO w0 W gs p ys u W1) (fun u _=>p.f3.length - (intOf u).toNat)
 case atStart=>exact ⟨0,Nat.zero_le _,rfl,HSN.out,HKN.out⟩
 case round=>
  obtain ⟨j,hj,rfl,hS,hK⟩:=hrel
  have HS:=Sd.m hS
  have HK:=Sd.m hK
  clear hS hK
  by_cases hlt:j<p.f3.length
  ·have b1:decide ((j:Int)<(p.f3.length:Int))=true:=dt__ (by omega)
   have b2:decide (j<p.f3.length)=true:=dt__ hlt
   have hq0:0<=(j:Int):=by omega
   have hq1:(j:Int)<(p.f3.length:Int):=by omega
   have w2:IntKind.i64.wrap ((j:Int)+1)=(j:Int)+1:=IntWalk.i64_in _ (by omega)
   obtain ⟨ad,B1,d1,B2,d2,B3,d3,rfl,k0,k1,k2,k3,m1,e1,m2,e2,m3,e3⟩:=iv_ HG.out (j:Int) (by omega) (by omega)
   rw [Int.toNat_natCast] at k0 k1 k2 k3
   have hel:p.f3[j]? =some (bz_ p.f3 (j:Int)):=by
    unfold bz_
    rw [Int.toNat_natCast,List.getD_eq_getElem?_getD,List.getElem?_eq_getElem hlt]
    rfl
   generalize bz_ p.f3 (j:Int)=q at k0 k1 k2 k3 m1 e1 m2 e2 m3 e3 hel
   replace k0:=(HS.out.2.1.cell (bl__ w0 _ k0)).trans k0
   replace k1:=(HS.out.2.1.cell (bl__ w0 _ k1)).trans k1
   replace k2:=(HS.out.2.1.cell (bl__ w0 _ k2)).trans k2
   replace k3:=(HS.out.2.1.cell (bl__ w0 _ k3)).trans k3
   have hroom:=fold_room p.f3 j q hel ys
   have HR:=Sd.m hroom
   have HE:=Sd.m hel
   have M1:=Sd.m m1
   have M3:=Sd.m m3
   have E1:=Sd.m e1
   have E3:=Sd.m e3
   clear hroom hel m1 m2 m3 e1 e2 e3
   go_wp2_with fail
   have hcall:=HI.out q (List.mem_of_getElem? HE.out) _ _ (SetAt.step HS.out (ab_ (Below.refl _ _) (.cells #[.int .i64 q.f0,.slice B1 q.f1.length d1,.slice B2 q.f2.length d2,.slice B3 q.f3.length d3] 45))) (by have:=HR.out;have:=HXN.out;omega) (HWI.out q (List.mem_of_getElem? HE.out)) B1 d1 B2 d2 B3 d3 M1.out E1.out M3.out E3.out
   refine hcall.mono ?_
   clear hcall
   rintro e W1 ⟨rfl,hS1,hK1⟩
   have HS1:=Sd.m hS1
   have HK1:=Sd.m (HK.out.trans (Kept45.trans (ef_ (ab_ (Below.refl _ _) _)) hK1))
   clear hS1 hK1 k0 k1 k2 k3
   go_wp2_with fail
   go_roundw
   case rel=>
    refine ⟨j+1,hlt,by go_num,?_,HK1.out⟩
    rw [List.take_add_one,HE.out,List.foldl_append]
    exact HS1.out
   case measure=>simp [intOf];omega
  ·have b1:decide ((j:Int)<(p.f3.length:Int))=false:=df__ (by omega)
   have b2:decide (j<p.f3.length)=false:=df__ hlt
   go_wp2_with fail
   refine Great.bodyPost_end0 rfl rfl ?_
   have hS:=HS.out
   rw [List.take_of_length_le (by omega)] at hS
   exact ⟨rfl,by rw [ed_,if_pos HP.out,←HYS.out];exact hS,HK.out⟩
theorem ez_ (w0:World)(gs:Nat)(p:S45): ∀ (W:World) (xs:List (List S74)),SetAt w0 W gs xs->xs.length+nodes p<=1000000->Wide p-> ∀ (A1:Option Addr) (c1:Nat) (A2:Option Addr) (c2:Nat) (A3:Option Addr) (c3:Nat),p.f1.length<=c1->k74.C w0 A1 p.f1.length p.f1->p.f3.length<=c3->k45.C w0 A3 p.f3.length p.f3->
  Calls Tryz.prog 42 #[.pointer (some ⟨gs,0,none⟩),.agg #[.int .i64 p.f0,.slice A1 p.f1.length c1,.slice A2 p.f2.length c2,.slice A3 p.f3.length c3]] W fun e W1=>e=.returned (.tuple #[])∧SetAt w0 W1 gs (formF p xs)∧Kept45 W W1:=by
 intro W xs h hx hwd A1 c1 A2 c2 A3 c3 l1 g1 l3 g3
 rw [dx_] at hx
 obtain ⟨_,h1,hs⟩:=hwd
 by_cases hp:p.f0=2
 ·exact form_yes w0 W gs p xs h A1 c1 A2 c2 A3 c3 l1 g1 h1 l3 g3 hs (by omega) hp fun q hq=>ez_ w0 gs q
 ·exact form_no w0 W gs p xs h A1 c1 A2 c2 A3 c3 l3 g3 hs (by omega) hp fun q hq=>ez_ w0 gs q
termination_by SizeOf.sizeOf p
decreasing_by
 all_goals
  have:=List.sizeOf_lt_of_mem hq
  cases p
  simp at*
  omega
end L
namespace LX
open Shelf YthfceiincmkccaaGreatW.PrintWords.Kd A K L B
open Go.Proofs.YthfceiincmkccaaGreat.P (withinF ge_)
noncomputable def tellF (L:List (List S74))(p:S45):S45:=⟨p.f0,p.f1,if p.f0=2 then withinF L p.f1 else [],p.f3.attach.map fun q=>tellF L q.1⟩
termination_by SizeOf.sizeOf p
decreasing_by
 obtain ⟨q,hq⟩:=q
 have:=List.sizeOf_lt_of_mem hq
 cases p
 simp at*
 omega
theorem dk_ (L:List (List S74))(p:S45):tellF L p=⟨p.f0,p.f1,if p.f0=2 then withinF L p.f1 else [],p.f3.map (tellF L)⟩:=by
 rw [tellF]
 congr 1
 exact List.attach_map_val (l:=p.f3) (f:=tellF L)
def TellAns (W:World)(P:Nat->Prop)(p:S45)(e:Ending)(w':World):Prop:= ∃ v,e=.returned v∧PatV w' (fun k=>P k∨W.heap.size<=k) v p∧Below W.heap.size W w'
structure TlAt (W Wm:World) (P:Nat->Prop) (a0 a1 a2:Value) (w:World) (u v:Value) (xs:List S45):Prop where
 N:Kd.N k45 45 w Wm.heap.size (fun k=>(P k∧k<W.heap.size)∨Wm.heap.size<=k) v xs
 B:Below W.heap.size W w
 sz:Wm.heap.size<=w.heap.size
 keep: ∀ k,k<Wm.heap.size->k≠W.heap.size+2->w.heap[k]? =Wm.heap[k]?
 t:w.heap[W.heap.size+2]? =some (.cells #[a0,a1,a2,u] 45 (0,0))
 lo:W.heap.size+3<=Wm.heap.size
section
variable {W Wm w w1:World} {P:Nat->Prop} {a0 a1 a2 u v:Value} {xs:List S45}
theorem TlAt.below (h:TlAt W Wm P a0 a1 a2 w u v xs)(hb:Below w.heap.size w w1):TlAt W Wm P a0 a1 a2 w1 u v xs:=
 ⟨N_below h.N hb,h.B.trans (hb.mono h.B.size),Nat.le_trans h.sz hb.size,fun k hk hn=>(hb.block k (Nat.lt_of_lt_of_le hk h.sz)).trans (h.keep k hk hn),af_ h.t hb,h.lo⟩
theorem TlAt.F {α:Type}{d:Kd α}{ok:Nat->Prop}{A:Option Addr}{n:Nat}{ys:List α}(h:TlAt W Wm P a0 a1 a2 w u v xs)(hF:Kd.F d Wm ok A n ys)(hok: ∀ k,ok k->k≠W.heap.size+2):Kd.F d w ok A n ys:=
 F_step hF fun k hk hlt=>h.keep k hlt (hok k hk)
theorem TlAt.app {A:Option Addr}{c:Nat}(h:TlAt W Wm P a0 a1 a2 w u (.slice A xs.length c) xs)(y:S45)(B1:Option Addr)(m1:Nat)(okp:Nat->Prop)(hy:Kd.F k45 w okp B1 1 [y])(hokp: ∀ k,okp k->((P k∧k<W.heap.size)∨Wm.heap.size<=k)∧some k≠(Value.slice A xs.length c).ownBlock)(hl:(xs.length+1)*80<=140737488355328):
  ∃ C1 k1 w1,(Builtin.append_ #[43,43] 43 #[.slice A xs.length c,.slice B1 1 m1]).run Tryz.prog w=.ok (.slice C1 (xs ++ [y]).length k1) w1∧TlAt W Wm P a0 a1 a2 w1 u (.slice C1 (xs ++ [y]).length k1) (xs ++ [y]):=by
 obtain ⟨v1,w1,hrun,hN,hg,hat⟩:=ee_ (P:=Tryz.prog) k45 (W:=w) Wm.heap.size 43 43 45 (.agg #[.int .i64 0,.slice none 0 0,.slice none 0 0,.slice none 0 0]) 80 Tryz.underlying43 (by kernel_rfl) rfl (by decide) (by decide) (.slice A xs.length c) xs [y] B1 1 m1 (fun k=>(P k∧k<W.heap.size)∨Wm.heap.size<=k) okp h.N hy hokp (fun k hk=>Or.inr (Nat.le_trans h.sz hk)) h.sz hl
 obtain ⟨C1,k1,rfl⟩:=N_slice hN
 have hbase:=fun k hk=>N_base h.N k hk
 have hlo:=h.lo
 refine ⟨C1,k1,w1,hrun,hN,h.B.grown hg h.B.size (fun k hk=>by have:=hbase k hk;omega),Nat.le_trans h.sz hg.size,fun k hk hn=>(hg.block k (Nat.lt_of_lt_of_le hk h.sz) (fun e=>by have:=hbase k e.symm;omega)).trans (h.keep k hk hn),?_,h.lo⟩
 exact (hg.block _ (bx_ h.t) (fun e=>by have:=hbase _ e.symm;omega)).trans h.t
theorem TlAt.store (h:TlAt W Wm P a0 a1 a2 w u v xs):TlAt W Wm P a0 a1 a2 (w.setCell ⟨W.heap.size+2,3,none⟩ v) v v xs:=by
 have hlo:=h.lo
 refine ⟨N_far (p:=⟨W.heap.size+2,3,none⟩) h.N (fun k hk=>by show k≠W.heap.size+2;omega) v,h.B.setCell (p:=⟨W.heap.size+2,3,none⟩) (by show W.heap.size<=W.heap.size+2;omega) _,by simpa [World.setCell] using h.sz,fun k hk hn=>(Below.heap_setCell w ⟨W.heap.size+2,3,none⟩ v k hn).trans (h.keep k hk hn),?_,h.lo⟩
 simpa using di_ h.t 3 v
end
def TlO (W Wm:World)(P:Nat->Prop)(a0 a1 a2:Value)(L:List (List S74))(l:List S45)(s:Value)(Wx:World):Prop:=
 ∃ (j:Nat) (A:Option Addr) (c:Nat),j<=l.length∧s=.int .i64 j∧TlAt W Wm P a0 a1 a2 Wx (.slice A ((l.take j).map (tellF L)).length c) (.slice A ((l.take j).map (tellF L)).length c) ((l.take j).map (tellF L))
theorem nodes_kid {l:List S45}{q:S45}(h:q∈l):nodes q<=(l.map nodes).sum:=by
 induction l with
 | nil=>cases h
 | cons a l ih=>
  rw [List.map_cons,List.sum_cons]
  rcases List.mem_cons.1 h with rfl | h
  ·omega
  ·have:=ih h
   omega
theorem nodes_pos (q:S45):1<=nodes q:=by rw [dx_];omega
theorem nodes_len (l:List S45):l.length<=(l.map nodes).sum:=by
 induction l with
 | nil=>exact Nat.le_refl _
 | cons a l ih=>
  rw [List.map_cons,List.sum_cons,List.length_cons]
  have:=nodes_pos a
  omega
open Go.Proofs.YthfceiincmkccaaGreat.P (withinF ge_)
inductive FitS:S45->Prop
 | mk (p:S45) (h1:p.f1.length<=1000000) (h2:p.f2.length<=1000000) (h3:p.f3.length<=1000000) (hs: ∀ q∈p.f3,FitS q):FitS p
theorem ints_refl (l:List Int)(hl:l.length<=1000000): ∃ k,av_.f k l l=some true:=by
 have go: ∀ d i:Nat,i+d=l.length->Ev (fun k=>av_.l0 k l l (i:Int)) true:=by
  intro d
  induction d with
  | zero=>exact fun i hi=>Ev.step (f:=fun _=>some true) (fun k=>by rw [av_.l0,if_neg (by omega)]) (Ev.now _)
  | succ d ih=>exact fun i hi=>Ev.step (f:=fun k=>av_.l0 k l l ((i:Int)+1)) (fun k=>by rw [av_.l0,if_pos (by omega),if_pos (by omega),if_pos (by omega),if_pos rfl,P.w64 (n:=(i:Int)+1) (by omega) (by omega)]) (ih (i+1) (by omega))
 obtain ⟨k,hk⟩:=(go l.length 0 (by omega)).rounds
 exact ⟨k,by unfold av_.f;rw [if_pos rfl];exact hk⟩
theorem ints_same (l:List Int)(A:Option Addr)(c:Nat)(B:Option Addr)(d:Nat)(W:World)(hl:l.length<=1000000)(hA:Kd.C (Kd.int .i64) W A l.length l)(hc:l.length<=c)(hB:Kd.C (Kd.int .i64) W B l.length l)(hd:l.length<=d):
  Calls Tryz.prog 37 #[.slice A l.length c,.slice B l.length d] W fun e w'=>e=.returned (.bool true)∧Below W.heap.size W w':=by
 obtain ⟨k,hk⟩:=ints_refl l hl
 refine (av_.calls k A c l B d l true W hA hc hB hd hk).mono ?_
 rintro e w' ⟨rfl,hdr⟩
 exact ⟨rfl,hdr.below⟩
theorem ranges_same (l:List S74)(A:Option Addr)(c:Nat)(B:Option Addr)(d:Nat)(W:World)(hl:l.length<=1000000)(hA:Kd.C k74 W A l.length l)(hc:l.length<=c)(hB:Kd.C k74 W B l.length l)(hd:l.length<=d):
  Calls Tryz.prog 47 #[.slice A l.length c,.slice B l.length d] W fun e w'=>e=.returned (.bool true)∧Below W.heap.size W w':=by
 obtain ⟨k,hk⟩:=(P.rng_ev (x:=l) (y:=l) (by omega) true ⟨fun _=>rfl,fun _=>rfl⟩).1.rounds
 refine (au_.calls k A c l B d l true W hA hc hB hd hk).mono ?_
 rintro e w' ⟨rfl,hdr⟩
 exact ⟨rfl,hdr.below⟩
def SaO (W:World)(pa pb:Array Value)(n:Nat)(u:Value)(Wx:World):Prop:= ∃ j:Nat,j<=n∧u=.int .i64 j∧Below W.heap.size W Wx∧Wx.heap[W.heap.size]? =some (.cells pa 45 (0,0))∧Wx.heap[W.heap.size+1]? =some (.cells pb 45 (0,0))
theorem same_step (p:S45)(b1:p.f1.length<=1000000)(b2:p.f2.length<=1000000)(ih: ∀ q∈p.f3,∀ (W:World) (A1:Option Addr) (c1:Nat) (A2:Option Addr) (c2:Nat) (A3:Option Addr) (c3:Nat) (B1:Option Addr) (d1:Nat) (B2:Option Addr) (d2:Nat) (B3:Option Addr) (d3:Nat) (l1:q.f1.length<=c1) (h1:Kd.C k74 W A1 q.f1.length q.f1) (l2:q.f2.length<=c2) (h2:Kd.C (Kd.int .i64) W A2 q.f2.length q.f2) (l3:q.f3.length<=c3) (h3:Kd.C k45 W A3 q.f3.length q.f3) (m1:q.f1.length<=d1) (k1:Kd.C k74 W B1 q.f1.length q.f1) (m2:q.f2.length<=d2) (k2:Kd.C (Kd.int .i64) W B2 q.f2.length q.f2) (m3:q.f3.length<=d3) (k3:Kd.C k45 W B3 q.f3.length q.f3),Calls Tryz.prog 20 #[.agg #[.int .i64 q.f0,.slice A1 q.f1.length c1,.slice A2 q.f2.length c2,.slice A3 q.f3.length c3],.agg #[.int .i64 q.f0,.slice B1 q.f1.length d1,.slice B2 q.f2.length d2,.slice B3 q.f3.length d3]] W fun e w'=>e=.returned (.bool true)∧Below W.heap.size W w'): ∀ (W:World) (A1:Option Addr) (c1:Nat) (A2:Option Addr) (c2:Nat) (A3:Option Addr) (c3:Nat) (B1:Option Addr) (d1:Nat) (B2:Option Addr) (d2:Nat) (B3:Option Addr) (d3:Nat) (l1:p.f1.length<=c1) (h1:Kd.C k74 W A1 p.f1.length p.f1) (l2:p.f2.length<=c2) (h2:Kd.C (Kd.int .i64) W A2 p.f2.length p.f2) (l3:p.f3.length<=c3) (h3:Kd.C k45 W A3 p.f3.length p.f3) (m1:p.f1.length<=d1) (k1:Kd.C k74 W B1 p.f1.length p.f1) (m2:p.f2.length<=d2) (k2:Kd.C (Kd.int .i64) W B2 p.f2.length p.f2) (m3:p.f3.length<=d3) (k3:Kd.C k45 W B3 p.f3.length p.f3),Calls Tryz.prog 20 #[.agg #[.int .i64 p.f0,.slice A1 p.f1.length c1,.slice A2 p.f2.length c2,.slice A3 p.f3.length c3],.agg #[.int .i64 p.f0,.slice B1 p.f1.length d1,.slice B2 p.f2.length d2,.slice B3 p.f3.length d3]] W fun e w'=>e=.returned (.bool true)∧Below W.heap.size W w':=by
 intro W A1 c1 A2 c2 A3 c3 B1 d1 B2 d2 B3 d3 l1 h1 l2 h2 l3 h3 m1 k1 m2 k2 m3 k3
 obtain ⟨W2,hW2⟩: ∃ W_,W_=(W.alloc (.cells #[.int .i64 p.f0,.slice A1 p.f1.length c1,.slice A2 p.f2.length c2,.slice A3 p.f3.length c3] 45)).alloc (.cells #[.int .i64 p.f0,.slice B1 p.f1.length d1,.slice B2 p.f2.length d2,.slice B3 p.f3.length d3] 45):=⟨_,rfl⟩
 have ea:(W.alloc (.cells #[.int .i64 p.f0,.slice A1 p.f1.length c1,.slice A2 p.f2.length c2,.slice A3 p.f3.length c3] 45)).heap.size=W.heap.size+1:=Array.size_push _
 have hb2:Below W.heap.size W W2:=by rw [hW2];exact ab_ (ab_ (Below.refl _ _) _) _
 have hx2:W2.heap[W.heap.size]? =some (.cells #[.int .i64 p.f0,.slice A1 p.f1.length c1,.slice A2 p.f2.length c2,.slice A3 p.f3.length c3] 45 (0,0)):=by rw [hW2];exact ak_ (ah_ W _) _
 have hy2:W2.heap[W.heap.size+1]? =some (.cells #[.int .i64 p.f0,.slice B1 p.f1.length d1,.slice B2 p.f2.length d2,.slice B3 p.f3.length d3] 45 (0,0)):=by rw [hW2];exact ea ▸ ah_ (W.alloc (.cells #[.int .i64 p.f0,.slice A1 p.f1.length c1,.slice A2 p.f2.length c2,.slice A3 p.f3.length c3] 45)) _
 have HR:=Sd.m (ranges_same p.f1 A1 c1 B1 d1 W2 b1 (Kd.C_below h1 hb2) l1 (Kd.C_below k1 hb2) m1)
 have HI:Sd (∀ V,Below W.heap.size W V->_):=⟨fun V hV=>ints_same p.f2 A2 c2 B2 d2 V b2 (Kd.C_below h2 hV) l2 (Kd.C_below k2 hV) m2⟩
 have HA:=Sd.m h3
 have HB:=Sd.m k3
 have HIH:=Sd.m ih
 have HX2:=Sd.m hx2
 have HY2:=Sd.m hy2
 have HB2:=Sd.m hb2
 have HW2:=Sd.m hW2
 have HM:p.f3.length<=9223372036854775807:=Kd.C_max h3
 clear ea hb2 hx2 hy2 hW2 h1 h2 h3 k1 k2 k3 ih
 go_enter Tryz.func20,Tryz.ntmps20
 go_wp2_with fail
 rw [←HW2.out]
 refine HR.out.mono ?_
 rintro e V ⟨rfl,hb⟩
 have hx:=af_ HX2.out hb
 have hy:=af_ HY2.out hb
 have hbV:=HB2.out.trans (hb.mono HB2.out.size)
 have x2:V.cell? ⟨W.heap.size,2,none⟩=some (.slice A2 p.f2.length c2):=(ae_ hx 2).trans rfl
 have y2:V.cell? ⟨W.heap.size+1,2,none⟩=some (.slice B2 p.f2.length d2):=(ae_ hy 2).trans rfl
 have HXV:=Sd.m hx
 have HYV:=Sd.m hy
 have HBV:=Sd.m hbV
 have HIV:=Sd.m (HI.out V hbV)
 clear hx hy hbV hb
 go_wp2_with fail
 refine HIV.out.mono ?_
 rintro e V1 ⟨rfl,hb⟩
 clear x2 y2
 have hx:=af_ HXV.out hb
 have hy:=af_ HYV.out hb
 have x3:V1.cell? ⟨W.heap.size,3,none⟩=some (.slice A3 p.f3.length c3):=(ae_ hx 3).trans rfl
 have y3:V1.cell? ⟨W.heap.size+1,3,none⟩=some (.slice B3 p.f3.length d3):=(ae_ hy 3).trans rfl
 have H0:Sd (SaO W #[.int .i64 p.f0,.slice A1 p.f1.length c1,.slice A2 p.f2.length c2,.slice A3 p.f3.length c3] #[.int .i64 p.f0,.slice B1 p.f1.length d1,.slice B2 p.f2.length d2,.slice B3 p.f3.length d3] p.f3.length (.int .i64 0) V1):=⟨⟨0,Nat.zero_le _,rfl,HBV.out.trans (hb.mono HBV.out.size),hx,hy⟩⟩
 clear hx hy hb
 go_wp2_with fail
 clear x3 y3
 go_loopw [5] (fun u Wx=>SaO W #[.int .i64 p.f0,.slice A1 p.f1.length c1,.slice A2 p.f2.length c2,.slice A3 p.f3.length c3] #[.int .i64 p.f0,.slice B1 p.f1.length d1,.slice B2 p.f2.length d2,.slice B3 p.f3.length d3] p.f3.length u Wx) (fun u _=>p.f3.length - (intOf u).toNat)
 case atStart=>exact H0.out
 case round=>
  obtain ⟨j,hj,rfl,hb,hx,hy⟩:=hrel
  have x3:wr.cell? ⟨W.heap.size,3,none⟩=some (.slice A3 p.f3.length c3):=(ae_ hx 3).trans rfl
  have y3:wr.cell? ⟨W.heap.size+1,3,none⟩=some (.slice B3 p.f3.length d3):=(ae_ hy 3).trans rfl
  by_cases hlt:j<p.f3.length
  ·have b1:decide ((j:Int)<(p.f3.length:Int))=true:=dt__ (by omega)
   have b2:decide (j<p.f3.length)=true:=dt__ hlt
   have hq0:0<=(j:Int):=by omega
   have hq1:(j:Int)<(p.f3.length:Int):=by omega
   have w2:IntKind.i64.wrap ((j:Int)+1)=(j:Int)+1:=IntWalk.i64_in _ (by omega)
   obtain ⟨Vd,hVd⟩: ∃ W_,W_=wr.drew:=⟨_,rfl⟩
   have hbd:Below wr.heap.size wr Vd:=by rw [hVd];exact cb_ (Below.refl _ _)
   have hbD:=hb.trans (hbd.mono hb.size)
   obtain ⟨aa,E1,e1,E2,e2,E3,e3,rfl,i0,i1,i2,i3,n1,o1,n2,o2,n3,o3⟩:=iv_ (Kd.C_below HA.out hbD) (j:Int) (by omega) (by omega)
   obtain ⟨ab,G1,g1,G2,g2,G3,g3,rfl,u0,u1,u2,u3,r1,s1,r2,s2,r3,s3⟩:=iv_ (Kd.C_below HB.out hbD) (j:Int) (by omega) (by omega)
   rw [Int.toNat_natCast] at i0 i1 i2 i3 u0 u1 u2 u3
   have hmem:bz_ p.f3 (j:Int)∈p.f3:=by
    unfold bz_
    rw [Int.toNat_natCast,List.getD_eq_getElem?_getD,List.getElem?_eq_getElem hlt]
    exact List.getElem_mem hlt
   generalize bz_ p.f3 (j:Int)=q at i0 i1 i2 i3 u0 u1 u2 u3 n1 o1 n2 o2 n3 o3 r1 s1 r2 s2 r3 s3 hmem
   have HC:=Sd.m (HIH.out q hmem Vd E1 e1 E2 e2 E3 e3 G1 g1 G2 g2 G3 g3 n1 o1 n2 o2 n3 o3 r1 s1 r2 s2 r3 s3)
   have HS:Sd (∀ w',Below Vd.heap.size Vd w'->w'.cell? ⟨W.heap.size,3,none⟩=some (.slice (some aa) p.f3.length c3)∧w'.cell? ⟨W.heap.size+1,3,none⟩=some (.slice (some ab) p.f3.length d3)∧w'.cell? (aa.add (j*4))=some (.int .i64 q.f0)∧w'.cell? ⟨(aa.add (j*4)).block,(aa.add (j*4)).off+1,none⟩=some (.slice E1 q.f1.length e1)∧w'.cell? ⟨(aa.add (j*4)).block,(aa.add (j*4)).off+2,none⟩=some (.slice E2 q.f2.length e2)∧w'.cell? ⟨(aa.add (j*4)).block,(aa.add (j*4)).off+3,none⟩=some (.slice E3 q.f3.length e3)∧w'.cell? (ab.add (j*4))=some (.int .i64 q.f0)∧w'.cell? ⟨(ab.add (j*4)).block,(ab.add (j*4)).off+1,none⟩=some (.slice G1 q.f1.length g1)∧w'.cell? ⟨(ab.add (j*4)).block,(ab.add (j*4)).off+2,none⟩=some (.slice G2 q.f2.length g2)∧w'.cell? ⟨(ab.add (j*4)).block,(ab.add (j*4)).off+3,none⟩=some (.slice G3 q.f3.length g3)):=by
    refine ⟨fun w' hw=>?_⟩
    have cw:=fun (a:Addr) (v:Value) (h:Vd.cell? a=some v)=>(hw.cell (bl__ Vd _ h)).trans h
    have hq:=hbd.trans (hw.mono hbd.size)
    exact ⟨(ae_ (af_ hx hq) 3).trans rfl,(ae_ (af_ hy hq) 3).trans rfl,cw _ _ i0,cw _ _ i1,cw _ _ i2,cw _ _ i3,cw _ _ u0,cw _ _ u1,cw _ _ u2,cw _ _ u3⟩
   have HXD:=Sd.m (af_ hx hbd)
   have HYD:=Sd.m (af_ hy hbd)
   have HBD:=Sd.m hbD
   clear hb hx hy hbd hbD i0 i1 i2 i3 u0 u1 u2 u3 n1 o1 n2 o2 n3 o3 r1 s1 r2 s2 r3 s3 hmem
   go_upto_region 6 with fail
   refine start_ (n:=12) (S:=fun w'=>w'.cell? ⟨W.heap.size,3,none⟩=some (.slice (some aa) p.f3.length c3)∧w'.cell? ⟨W.heap.size+1,3,none⟩=some (.slice (some ab) p.f3.length d3)∧w'.cell? (aa.add (j*4))=some (.int .i64 q.f0)∧w'.cell? ⟨(aa.add (j*4)).block,(aa.add (j*4)).off+1,none⟩=some (.slice E1 q.f1.length e1)∧w'.cell? ⟨(aa.add (j*4)).block,(aa.add (j*4)).off+2,none⟩=some (.slice E2 q.f2.length e2)∧w'.cell? ⟨(aa.add (j*4)).block,(aa.add (j*4)).off+3,none⟩=some (.slice E3 q.f3.length e3)∧w'.cell? (ab.add (j*4))=some (.int .i64 q.f0)∧w'.cell? ⟨(ab.add (j*4)).block,(ab.add (j*4)).off+1,none⟩=some (.slice G1 q.f1.length g1)∧w'.cell? ⟨(ab.add (j*4)).block,(ab.add (j*4)).off+2,none⟩=some (.slice G2 q.f2.length g2)∧w'.cell? ⟨(ab.add (j*4)).block,(ab.add (j*4)).off+3,none⟩=some (.slice G3 q.f3.length g3)) (ds:=[]) #[false,false,false,false,false,false,false,false,false,false,false,false] (by kernel_rfl) rfl rfl ⟨(by rw [←hVd];exact (HS.out _ (Below.refl _ _)).1),(by rw [←hVd];exact (HS.out _ (Below.refl _ _)).2.1),(by rw [←hVd];exact (HS.out _ (Below.refl _ _)).2.2.1),(by rw [←hVd];exact (HS.out _ (Below.refl _ _)).2.2.2.1),(by rw [←hVd];exact (HS.out _ (Below.refl _ _)).2.2.2.2.1),(by rw [←hVd];exact (HS.out _ (Below.refl _ _)).2.2.2.2.2.1),(by rw [←hVd];exact (HS.out _ (Below.refl _ _)).2.2.2.2.2.2.1),(by rw [←hVd];exact (HS.out _ (Below.refl _ _)).2.2.2.2.2.2.2.1),(by rw [←hVd];exact (HS.out _ (Below.refl _ _)).2.2.2.2.2.2.2.2.1),(by rw [←hVd];exact (HS.out _ (Below.refl _ _)).2.2.2.2.2.2.2.2.2)⟩ (fun hHeld=>?_)
   rw [←hVd] at hHeld ⊢
   clear hVd
   refine pure_ (i:=0) (N:=some 43) (v:=?_) (a':=?_) #[true,false,false,false,false,false,false,false,false,false,false,false] rfl rfl (by kernel_rfl) (fun _ _ _ h=>h) (Or.inl ⟨by rfl,?_⟩) ?_ ?_
   rotate_left
   ·intro w'
    go_simp
    with_reducible rfl
   rotate_left
   ·simp only [Act.put,List.setIfInBounds_toArray,List.set_cons_zero,List.set_cons_succ,dq_,dt_]
    rfl
   refine pure_ (i:=2) (N:=some 45) (v:=?_) (a':=?_) #[true,false,true,false,false,false,false,false,false,false,false,false] rfl rfl (by kernel_rfl) (fun _ _ _ h=>h) (Or.inl ⟨by rfl,?_⟩) ?_ ?_
   rotate_left
   ·intro w'
    go_simp
    with_reducible rfl
   rotate_left
   ·simp only [Act.put,List.setIfInBounds_toArray,List.set_cons_zero,List.set_cons_succ,dq_,dt_]
    rfl
   refine pure_ (i:=5) (N:=some 48) (v:=?_) (a':=?_) #[true,false,true,false,false,true,false,false,false,false,false,false] rfl rfl (by kernel_rfl) (fun _ _ _ h=>h) (Or.inl ⟨by rfl,?_⟩) ?_ ?_
   rotate_left
   ·intro w'
    go_simp
    with_reducible rfl
   rotate_left
   ·simp only [Act.put,List.setIfInBounds_toArray,List.set_cons_zero,List.set_cons_succ,dq_,dt_]
    rfl
   refine pure_ (i:=7) (N:=some 50) (v:=?_) (a':=?_) #[true,false,true,false,false,true,false,true,false,false,false,false] rfl rfl (by kernel_rfl) (fun _ _ _ h=>h) (Or.inl ⟨by rfl,?_⟩) ?_ ?_
   rotate_left
   ·intro w'
    go_simp
    with_reducible rfl
   rotate_left
   ·simp only [Act.put,List.setIfInBounds_toArray,List.set_cons_zero,List.set_cons_succ,dq_,dt_]
    rfl
   refine take_ (i:=1) (N:=some 44) (v:=?_) (a':=?_) #[true,true,true,false,false,true,false,true,false,false,false,false] rfl rfl (by kernel_rfl) (fun _ _ _ h=>h) (Or.inl ⟨by rfl,?_⟩) hHeld ?_ ?_
   rotate_left
   ·rintro w' ⟨s0,s1,s2,s3,s4,s5,s6,s7,s8,s9⟩
    go_simp
    with_reducible rfl
   rotate_left
   ·simp only [Act.put,List.setIfInBounds_toArray,List.set_cons_zero,List.set_cons_succ,dq_,dt_]
    rfl
   refine pure_ (i:=3) (N:=some 46) (v:=?_) (a':=?_) #[true,true,true,true,false,true,false,true,false,false,false,false] rfl rfl (by kernel_rfl) (fun _ _ _ h=>h) (Or.inl ⟨by rfl,?_⟩) ?_ ?_
   rotate_left
   ·intro w'
    go_simp
    with_reducible rfl
   rotate_left
   ·simp only [Act.put,List.setIfInBounds_toArray,List.set_cons_zero,List.set_cons_succ,dq_,dt_]
    rfl
   refine take_ (i:=4) (N:=some 47) (v:=?_) (a':=?_) #[true,true,true,true,true,true,false,true,false,false,false,false] rfl rfl (by kernel_rfl) (fun _ _ _ h=>h) (Or.inl ⟨by rfl,?_⟩) hHeld ?_ ?_
   rotate_left
   ·rintro w' ⟨s0,s1,s2,s3,s4,s5,s6,s7,s8,s9⟩
    go_simp
    with_reducible rfl
   rotate_left
   ·simp only [Act.put,List.setIfInBounds_toArray,List.set_cons_zero,List.set_cons_succ,dq_,dt_]
    rfl
   refine take_ (i:=6) (N:=some 49) (v:=?_) (a':=?_) #[true,true,true,true,true,true,true,true,false,false,false,false] rfl rfl (by kernel_rfl) (fun _ _ _ h=>h) (Or.inl ⟨by rfl,?_⟩) hHeld ?_ ?_
   rotate_left
   ·rintro w' ⟨s0,s1,s2,s3,s4,s5,s6,s7,s8,s9⟩
    go_simp
    with_reducible rfl
   rotate_left
   ·simp only [Act.put,List.setIfInBounds_toArray,List.set_cons_zero,List.set_cons_succ,dq_,dt_]
    rfl
   refine pure_ (i:=8) (N:=some 51) (v:=?_) (a':=?_) #[true,true,true,true,true,true,true,true,true,false,false,false] rfl rfl (by kernel_rfl) (fun _ _ _ h=>h) (Or.inl ⟨by rfl,?_⟩) ?_ ?_
   rotate_left
   ·intro w'
    go_simp
    with_reducible rfl
   rotate_left
   ·simp only [Act.put,List.setIfInBounds_toArray,List.set_cons_zero,List.set_cons_succ,dq_,dt_]
    rfl
   refine take_ (i:=9) (N:=some 52) (v:=?_) (a':=?_) #[true,true,true,true,true,true,true,true,true,true,false,false] rfl rfl (by kernel_rfl) (fun _ _ _ h=>h) (Or.inl ⟨by rfl,?_⟩) hHeld ?_ ?_
   rotate_left
   ·rintro w' ⟨s0,s1,s2,s3,s4,s5,s6,s7,s8,s9⟩
    go_simp
    with_reducible rfl
   rotate_left
   ·simp only [Act.put,List.setIfInBounds_toArray,List.set_cons_zero,List.set_cons_succ,dq_,dt_]
    rfl
   refine one_ (i:=10) (N:=some 53) #[true,true,true,true,true,true,true,true,true,true,true,false] rfl rfl (by kernel_rfl) (by decide) (fun K hK=>?_)
   refine goes_ Tryz.func20 (by kernel_rfl) rfl #[.agg #[.int .i64 q.f0,.slice E1 q.f1.length e1,.slice E2 q.f2.length e2,.slice E3 q.f3.length e3],.agg #[.int .i64 q.f0,.slice G1 q.f1.length g1,.slice G2 q.f2.length g2,.slice G3 q.f3.length g3]] (by rfl) rfl rfl (by simp only [List.map_toArray,List.map_cons,List.map_nil];rfl) ?_
   with_reducible refine (HC.out).mono ?_
   rintro e_ V1 ⟨rfl,hb_⟩
   refine ⟨_,rfl,?_⟩
   have B1_:=Sd.m hb_
   clear hb_
   refine hK.out _ _ ⟨(HS.out _ B1_.out).1,(HS.out _ B1_.out).2.1,(HS.out _ B1_.out).2.2.1,(HS.out _ B1_.out).2.2.2.1,(HS.out _ B1_.out).2.2.2.2.1,(HS.out _ B1_.out).2.2.2.2.2.1,(HS.out _ B1_.out).2.2.2.2.2.2.1,(HS.out _ B1_.out).2.2.2.2.2.2.2.1,(HS.out _ B1_.out).2.2.2.2.2.2.2.2.1,(HS.out _ B1_.out).2.2.2.2.2.2.2.2.2⟩ (fun hHeld=>?_)
   clear hK K
   refine norm_ (a':=?_) ?_ ?_
   rotate_left
   ·show Act.put _ (some 53) _=_
    simp only [Act.put,List.setIfInBounds_toArray,List.set_cons_zero,List.set_cons_succ,dq_,dt_]
    rfl
   refine pure_ (i:=11) (N:=some 54) (v:=?_) (a':=?_) #[true,true,true,true,true,true,true,true,true,true,true,true] rfl rfl (by kernel_rfl) (fun _ _ _ h=>h) (Or.inl ⟨by rfl,?_⟩) ?_ ?_
   rotate_left
   ·intro w'
    go_simp
    with_reducible rfl
   rotate_left
   ·simp only [Act.put,List.setIfInBounds_toArray,List.set_cons_zero,List.set_cons_succ,dq_,dt_]
    rfl
   refine done_ (by kernel_rfl) ?_
   go_wp2_with fail
   go_roundw
   case rel=>exact ⟨j+1,hlt,by go_num,HBD.out.trans (B1_.out.mono HBD.out.size),af_ HXD.out B1_.out,af_ HYD.out B1_.out⟩
   case measure=>simp [intOf];omega
  ·have b1:decide ((j:Int)<(p.f3.length:Int))=false:=df__ (by omega)
   have b2:decide (j<p.f3.length)=false:=df__ hlt
   have HB:=Sd.m hb
   clear hb hx hy
   go_wp2_with fail
   go_ret
   exact ⟨rfl,HB.out⟩
theorem FitS.parts {p:S45}(h:FitS p):p.f1.length<=1000000∧p.f2.length<=1000000∧p.f3.length<=1000000∧ ∀ q∈p.f3,FitS q:=by
 cases h
 exact ⟨by assumption,by assumption,by assumption,by assumption⟩
theorem ic_ (p:S45)(hp:FitS p): ∀ (W:World) (A1:Option Addr) (c1:Nat) (A2:Option Addr) (c2:Nat) (A3:Option Addr) (c3:Nat) (B1:Option Addr) (d1:Nat) (B2:Option Addr) (d2:Nat) (B3:Option Addr) (d3:Nat) (l1:p.f1.length<=c1) (h1:Kd.C k74 W A1 p.f1.length p.f1) (l2:p.f2.length<=c2) (h2:Kd.C (Kd.int .i64) W A2 p.f2.length p.f2) (l3:p.f3.length<=c3) (h3:Kd.C k45 W A3 p.f3.length p.f3) (m1:p.f1.length<=d1) (k1:Kd.C k74 W B1 p.f1.length p.f1) (m2:p.f2.length<=d2) (k2:Kd.C (Kd.int .i64) W B2 p.f2.length p.f2) (m3:p.f3.length<=d3) (k3:Kd.C k45 W B3 p.f3.length p.f3),Calls Tryz.prog 20 #[.agg #[.int .i64 p.f0,.slice A1 p.f1.length c1,.slice A2 p.f2.length c2,.slice A3 p.f3.length c3],.agg #[.int .i64 p.f0,.slice B1 p.f1.length d1,.slice B2 p.f2.length d2,.slice B3 p.f3.length d3]] W fun e w'=>e=.returned (.bool true)∧Below W.heap.size W w':=by
 have h1:=hp.parts.1
 have h2:=hp.parts.2.1
 have hs:=hp.parts.2.2.2
 exact same_step p h1 h2 fun q hq=>ic_ q (hs q hq)
termination_by SizeOf.sizeOf p
decreasing_by
 have h5:=List.sizeOf_lt_of_mem hq
 have h6:SizeOf.sizeOf p.f3<SizeOf.sizeOf p:=by
  cases p
  simp
  omega
 omega
end LX
namespace P
open A L
theorem rd3 {L:List (List S74)}{i:Nat}{x:List S74}(h:L[i]? =some x):dh_ L (i:Int)=x:=by
 unfold dh_
 rw [Int.toNat_natCast,List.getD_eq_getElem?_getD,h]
 rfl
theorem great_ev (l0:List (List S74))(m:Int)(hm:0<=m∧m<=1000)(hs:X.SmallL l0): ∃ b,Ev (fun k=>bh_.f k l0 m) b∧(b=false->(l0.length:Int)+((l0.map List.length).sum:Nat)<=m):=by
 have go: ∀ d i:Nat,i+d=l0.length-> ∀ n:Int,0<=n->n<=140737488356328-> ∃ b,Ev (fun k=>bh_.l0 k l0 m n (i:Int)) b∧(b=false->n+(((l0.drop i).map List.length).sum:Nat)<=m):=by
  intro d
  induction d with
  | zero=>
   intro i hi n h0 h1
   refine ⟨decide (n>m),Ev.step (f:=fun _=>some (decide (n>m))) (fun k=>by rw [bh_.l0,if_neg (by omega)]) (Ev.now _),fun hb=>?_⟩
   rw [List.drop_eq_nil_iff.2 (by omega)]
   have:=of_decide_eq_false hb
   simp only [List.map_nil,List.sum_nil]
   omega
  | succ d ih=>
   intro i hi n h0 h1
   by_cases hn:n<=m
   ·have hlt:i<l0.length:=by omega
    have hg:l0[i]? =some l0[i]:=List.getElem?_eq_getElem hlt
    have hx:=hs.2 _ (List.getElem_mem hlt)
    obtain ⟨b,hb,hb2⟩:=ih (i+1) (by omega) (n+(l0[i].length:Int)) (by omega) (by omega)
    refine ⟨b,Ev.step (f:=fun k=>bh_.l0 k l0 m (n+(l0[i].length:Int)) ((i:Int)+1)) (fun k=>by rw [bh_.l0,if_pos (by omega),if_pos hn,if_pos (by omega),rd3 hg,w64 (n:=n+(l0[i].length:Int)) (by omega) (by omega),w64 (n:=(i:Int)+1) (by omega) (by have:=hs.1;omega)]) ?_,fun q=>?_⟩
    ·rw [show (i:Int)+1=((i+1:Nat):Int) from by omega]
     exact hb
    ·have:=hb2 q
     rw [List.drop_eq_getElem_cons hlt,List.map_cons,List.sum_cons]
     omega
   ·refine ⟨true,Ev.step (f:=fun _=>some true) (fun k=>by rw [bh_.l0,if_pos (by omega),if_neg hn,dt__ (by omega)]) (Ev.now _),fun q=>by cases q⟩
 obtain ⟨b,h1,h2⟩:=go l0.length 0 (by omega) (l0.length:Int) (by omega) (by have:=hs.1;omega)
 exact ⟨b,h1,h2⟩
theorem wi_len {s:List S74}: ∀ (fs:List Int) (i:Nat),(wiF s fs i).length<=fs.length
 | [],_=>Nat.le_refl _
 | f :: fs,i=>by
  have ih:=wi_len (s:=s) fs (i+1)
  rw [wiF,List.length_cons]
  split
  ·rw [List.length_cons];omega
  ·omega
open K LX
theorem gx_ (p:S45):nodes p<=mass p:=by
 rw [dx_,gy_]
 have key: ∀ l:List S45,(∀ q∈l,q∈p.f3)->(l.map nodes).sum<=(l.map mass).sum:=by
  intro l
  induction l with
  | nil=>exact fun _=>Nat.le_refl _
  | cons a l ih=>
   intro h
   have hx:=h a (List.mem_cons_self ..)
   have:=gx_ a
   have:=ih fun q hq=>h q (List.mem_cons_of_mem _ hq)
   rw [List.map_cons,List.sum_cons,List.map_cons,List.sum_cons]
   omega
 have:=key p.f3 fun q hq=>hq
 omega
termination_by SizeOf.sizeOf p
decreasing_by exact fy_ hx
theorem wide_mass (p:S45)(h:mass p<=3000000):Wide p:=by
 rw [gy_] at h
 exact ⟨p,by omega,fun q hq=>wide_mass q (by have:=sum_mem hq;omega)⟩
termination_by SizeOf.sizeOf p
decreasing_by exact fy_ hq
theorem within_len (L:List (List S74))(s:List S74):(withinF L s).length<=L.length:=by
 have:=wi_len (s:=s) (L.map firstF) 0
 rw [List.length_map] at this
 exact this
theorem fit_tell (L:List (List S74))(hL:L.length<=100000)(p:S45)(h:mass p<=1000000):FitS (tellF L p):=by
 rw [gy_] at h
 have h3:=sum_len p.f3
 rw [dk_]
 refine ⟨_,by show p.f1.length<=_;omega,?_,by show (p.f3.map (tellF L)).length<=_;rw [List.length_map];omega,fun q hq=>?_⟩
 ·show (if p.f0=2 then withinF L p.f1 else []).length<=_
  split
  ·have:=within_len L p.f1
   omega
  ·exact Nat.zero_le _
 ·obtain ⟨r,hr,rfl⟩:=List.mem_map.1 hq
  exact fit_tell L hL r (by have:=sum_mem hr;omega)
termination_by SizeOf.sizeOf p
decreasing_by exact fy_ hr
theorem jf_ (L:List (List S74))(p:S45):nodes (tellF L p)=nodes p:=by
 rw [dk_,dx_,dx_ p]
 show 1+((p.f3.map (tellF L)).map nodes).sum=_
 rw [List.map_map]
 congr 2
 refine List.map_congr_left fun q hq=>?_
 exact jf_ L q
termination_by SizeOf.sizeOf p
decreasing_by exact fy_ hq
theorem wide_parts {p:S45}(h:Wide p):p.f1.length<=3000000∧ ∀ q∈p.f3,Wide q:=by
 cases h
 exact ⟨by assumption,by assumption⟩
theorem wide_tell (L:List (List S74))(p:S45)(h:Wide p):Wide (tellF L p):=by
 obtain ⟨h1,hs⟩:=wide_parts h
 rw [dk_]
 refine ⟨_,h1,fun q hq=>?_⟩
 obtain ⟨r,hr,rfl⟩:=List.mem_map.1 hq
 exact wide_tell L r (hs r hr)
termination_by SizeOf.sizeOf p
decreasing_by exact fy_ hr
theorem tell_tell (L:List (List S74))(p:S45):tellF L (tellF L p)=tellF L p:=by
 rw [dk_ L (tellF L p),dk_ L p]
 show (⟨p.f0,p.f1,if p.f0=2 then withinF L p.f1 else [],(p.f3.map (tellF L)).map (tellF L)⟩:S45)=_
 rw [List.map_map]
 congr 1
 refine List.map_congr_left fun q hq=>?_
 exact tell_tell L q
termination_by SizeOf.sizeOf p
decreasing_by exact fy_ hq
theorem form_tell (L:List (List S74))(p:S45): ∀ xs,formF (tellF L p) xs=formF p xs:=by
 intro xs
 rw [dk_,ed_,ed_ p]
 show (p.f3.map (tellF L)).foldl (fun a q=>formF q a) _=_
 rw [List.foldl_map]
 have key: ∀ l:List S45,(∀ q∈l,q∈p.f3)-> ∀ a,l.foldl (fun a q=>formF (tellF L q) a) a=l.foldl (fun a q=>formF q a) a:=by
  intro l
  induction l with
  | nil=>exact fun _ _=>rfl
  | cons q l ih=>
   intro h a
   have hx:=h q (List.mem_cons_self ..)
   rw [List.foldl_cons,List.foldl_cons,form_tell L q]
   exact ih (fun r hr=>h r (List.mem_cons_of_mem _ hr)) _
 exact key p.f3 (fun q hq=>hq) _
termination_by SizeOf.sizeOf p
decreasing_by exact fy_ hx
theorem size_tell (L:List (List S74))(p:S45):X.SmallP p-> ∃ s:Int,1<=s∧s<=100000∧Ev (fun k=>am_.f k p.f0 p.f1 p.f2 p.f3) s∧Ev (fun k=>am_.f k (tellF L p).f0 (tellF L p).f1 (tellF L p).f2 (tellF L p).f3) s:=by
 intro hp
 obtain ⟨_,_,h3',hs⟩:=ia_ hp
 rw [dk_]
 have hl:(p.f3.map (tellF L)).length=p.f3.length:=List.length_map ..
 generalize hs2:(if p.f0=2 then withinF L p.f1 else [])=s2
 have go: ∀ m i:Nat,i+m=p.f3.length-> ∀ x:Int,1<=x->x<=100000-> ∃ s:Int,1<=s∧s<=100000∧Ev (fun k=>am_.l0 k x (i:Int) p.f0 p.f1 p.f2 p.f3) s∧Ev (fun k=>am_.l0 k x (i:Int) p.f0 p.f1 s2 (p.f3.map (tellF L))) s:=by
  intro m
  induction m with
  | zero=>
   intro i hi x h0 h1
   exact ⟨x,h0,h1,Ev.step (f:=fun _=>some x) (fun k=>by rw [am_.l0,if_neg (by omega)]) (Ev.now _),Ev.step (f:=fun _=>some x) (fun k=>by rw [am_.l0,if_neg (by omega)]) (Ev.now _)⟩
  | succ m ih=>
   intro i hi x h0 h1
   have hlt:i<p.f3.length:=by omega
   obtain ⟨t,t0,t1,ta,tb⟩:=size_tell L p.f3[i] (hs _ (List.getElem_mem hlt))
   obtain ⟨s,s0,s1,sa,sb⟩:=ih (i+1) (by omega) (mn 100000 (x+t)) (by unfold mn;split <;> omega) (by unfold mn;split <;> omega)
   refine ⟨s,s0,s1,Ev.step (f:=fun k=>(am_.f k (p.f3[i]).f0 (p.f3[i]).f1 (p.f3[i]).f2 (p.f3[i]).f3).bind fun t_=>am_.l0 k (mn 100000 (wrap64 (x+t_))) ((i:Int)+1) p.f0 p.f1 p.f2 p.f3) (fun k=>by
     rw [am_.l0,if_pos (by omega),if_pos (by omega),rdp _ _ hlt,w64 (n:=(i:Int)+1) (by omega) (by omega)]) (Ev.bind ta ?_),Ev.step (f:=fun k=>(am_.f k (tellF L p.f3[i]).f0 (tellF L p.f3[i]).f1 (tellF L p.f3[i]).f2 (tellF L p.f3[i]).f3).bind fun t_=>am_.l0 k (mn 100000 (wrap64 (x+t_))) ((i:Int)+1) p.f0 p.f1 s2 (p.f3.map (tellF L))) (fun k=>by
     rw [am_.l0,if_pos (by omega),if_pos (by omega),rdp _ _ (by omega),List.getElem_map,w64 (n:=(i:Int)+1) (by omega) (by omega)]) (Ev.bind tb ?_)⟩
   ·rw [w64 (n:=x+t) (by omega) (by omega)]
    exact sa
   ·rw [w64 (n:=x+t) (by omega) (by omega)]
    exact sb
 obtain ⟨s,s0,s1,sa,sb⟩:=go p.f3.length 0 (by omega) 1 (by decide) (by decide)
 exact ⟨s,s0,s1,Ev.step (f:=fun k=>am_.l0 k 1 0 p.f0 p.f1 p.f2 p.f3) (fun k=>by rw [am_.f]) sa,Ev.step (f:=fun k=>am_.l0 k 1 0 p.f0 p.f1 s2 (p.f3.map (tellF L))) (fun k=>by rw [am_.f]) sb⟩
termination_by SizeOf.sizeOf p
decreasing_by exact fy_ (List.getElem_mem hlt)
theorem same_rows (L:List (List S74))(hl:L.length<=100000)(h: ∀ x∈L,(x.length:Int)<=9223372036854775806):Ev (fun k=>bb_.f k L L) true:=by
 unfold bb_.f
 refine gc_ rfl ?_
 have go: ∀ d i:Nat,i+d=L.length->Ev (fun k=>bb_.l0 k L L (i:Int)) true:=by
  intro d
  induction d with
  | zero=>
   intro i hi
   exact Ev.step (f:=fun _=>some true) (fun k=>by rw [bb_.l0,if_neg (by omega)]) (Ev.now _)
  | succ d ih=>
   intro i hi
   have hlt:i<L.length:=by omega
   have hg:L[i]? =some L[i]:=List.getElem?_eq_getElem hlt
   have hn:=ih (i+1) (by omega)
   rw [show ((i+1:Nat):Int)=(i:Int)+1 from by omega] at hn
   refine Ev.step (f:=fun k=>(au_.f k L[i] L[i]).bind fun t118=>(if t118=true then (bb_.l0 k L L ((i:Int)+1)) else (some false))) (fun k=>by
    rw [bb_.l0,if_pos (by omega),if_pos (show (0:Int)<=(i:Int) by omega),if_pos (by omega),rd3 hg,w64 (n:=(i:Int)+1) (by omega) (by omega)]) ?_
   exact Ev.bind (rng_ev (h _ (List.getElem_mem hlt)) true (by simp)).1 (gc_ rfl hn)
 exact go L.length 0 (by omega)
theorem add_mem {xs:List (List S74)}{y x:List S74}(h:x∈addF xs y):x∈xs∨x=y:=by
 unfold addF at h
 split at h
 ·exact Or.inl h
 ·rcases List.mem_append.1 h with h | h
  ·exact Or.inl h
  ·exact Or.inr (by simpa using h)
theorem form_long (p:S45): ∀ xs:List (List S74),∀ x∈formF p xs,x∈xs∨x.length<=mass p:=by
 intro xs x hx
 rw [ed_] at hx
 have key: ∀ l:List S45,(∀ q∈l,q∈p.f3)-> ∀ a,x∈l.foldl (fun a q=>formF q a) a->x∈a∨x.length<=(l.map mass).sum:=by
  intro l
  induction l with
  | nil=>exact fun _ a h=>Or.inl h
  | cons q l ih=>
   intro h a ha
   have hq:=h q (List.mem_cons_self ..)
   rw [List.map_cons,List.sum_cons]
   rcases ih (fun r hr=>h r (List.mem_cons_of_mem _ hr)) _ ha with h1 | h1
   ·rcases form_long q a x h1 with h2 | h2
    ·exact Or.inl h2
    ·exact Or.inr (by omega)
   ·exact Or.inr (by omega)
 have hm:=gy_ p
 rcases key p.f3 (fun q hq=>hq) _ hx with h | h
 ·split at h
  ·rcases add_mem h with h | rfl
   ·exact Or.inl h
   ·exact Or.inr (by omega)
  ·exact Or.inl h
 ·exact Or.inr (by omega)
termination_by SizeOf.sizeOf p
decreasing_by exact fy_ hq
end P
namespace LX
open Shelf YthfceiincmkccaaGreatW.PrintWords.Kd A K L B
theorem one_name (W:World)(x:S87)(A:Option Addr)(c:Nat)(B:Option Addr)(d:Nat)(p:S45)(hx0:x.f0=1)(hx4:x.f4.f0=4)
  (hw: ∀ W',Below W.heap.size W W'->Calls Tryz.prog 135 #[.agg (NdC x.f4 A c),.slice none 0 0] W' (PatAns W' (fun _=>False) p)):
  Calls Tryz.prog 105 #[.agg #[.slice none 0 0,.slice none 0 0,.slice none 0 0,.slice none 0 0],.agg (ItC x A c B d)] W fun e w'=> ∃ A1 c1,e=.returned (.tuple #[.agg #[.slice A1 1 c1,.slice none 0 0,.slice none 0 0,.slice none 0 0],.int .i64 0])∧1<=c1∧Kd.F k93 w' (fun k=>W.heap.size<=k) A1 1 [⟨x.f1,p,true,x.f6⟩]∧Below W.heap.size W w':=by
 have hg:=fun (W':World) (hb:Below W.heap.size W W')=>give_first W' (fun _=>False) x A c B d p hx0 hx4 (fun W2 hb2=>hw W2 (hb.trans (hb2.mono hb.size)))
 unfold ItC at hg ⊢
 rw [hx0] at hg ⊢
 clear hw
 have ea:(W.alloc (.cells #[.slice none 0 0,.slice none 0 0,.slice none 0 0,.slice none 0 0] 27)).heap.size=W.heap.size+1:=Array.size_push _
 have eb:((W.alloc (.cells #[.slice none 0 0,.slice none 0 0,.slice none 0 0,.slice none 0 0] 27)).alloc (.cells #[.int .i64 1,.string x.f1,.int .i64 x.f2,.bool x.f3,.int .i64 x.f4.f0,.string x.f4.f1,.int .i64 x.f4.f2,.int .i64 x.f4.f3,.slice A x.f4.f4.length c,.int .i64 x.f5.f0,.string x.f5.f1,.int .i64 x.f5.f2,.int .i64 x.f5.f3,.slice B x.f5.f4.length d,.int .i64 x.f6] 87)).heap.size=W.heap.size+2:=(Array.size_push _).trans (congrArg (· +1) ea)
 obtain ⟨W1,hW1⟩: ∃ W_,W_=((W.alloc (.cells #[.slice none 0 0,.slice none 0 0,.slice none 0 0,.slice none 0 0] 27)).alloc (.cells #[.int .i64 1,.string x.f1,.int .i64 x.f2,.bool x.f3,.int .i64 x.f4.f0,.string x.f4.f1,.int .i64 x.f4.f2,.int .i64 x.f4.f3,.slice A x.f4.f4.length c,.int .i64 x.f5.f0,.string x.f5.f1,.int .i64 x.f5.f2,.int .i64 x.f5.f3,.slice B x.f5.f4.length d,.int .i64 x.f6] 87)).alloc (.cells #[.slice none 0 0,.slice none 0 0,.slice none 0 0,.slice none 0 0] 27):=⟨_,rfl⟩
 have hb1:Below W.heap.size W W1:=by rw [hW1];exact ab_ (ab_ (ab_ (Below.refl W.heap.size W) _) _) _
 have hk1:W1.heap[W.heap.size]? =some (.cells #[.slice none 0 0,.slice none 0 0,.slice none 0 0,.slice none 0 0] 27 (0,0)):=by rw [hW1];exact ak_ (ak_ (ah_ W _) _) _
 have hi1:W1.heap[W.heap.size+1]? =some (.cells #[.int .i64 1,.string x.f1,.int .i64 x.f2,.bool x.f3,.int .i64 x.f4.f0,.string x.f4.f1,.int .i64 x.f4.f2,.int .i64 x.f4.f3,.slice A x.f4.f4.length c,.int .i64 x.f5.f0,.string x.f5.f1,.int .i64 x.f5.f2,.int .i64 x.f5.f3,.slice B x.f5.f4.length d,.int .i64 x.f6] 87 (0,0)):=by rw [hW1];exact ak_ (ea ▸ ah_ (W.alloc (.cells #[.slice none 0 0,.slice none 0 0,.slice none 0 0,.slice none 0 0] 27)) _) _
 have hr1:W1.heap[W.heap.size+2]? =some (.cells #[.slice none 0 0,.slice none 0 0,.slice none 0 0,.slice none 0 0] 27 (0,0)):=by rw [hW1];exact eb ▸ ah_ ((W.alloc (.cells #[.slice none 0 0,.slice none 0 0,.slice none 0 0,.slice none 0 0] 27)).alloc (.cells #[.int .i64 1,.string x.f1,.int .i64 x.f2,.bool x.f3,.int .i64 x.f4.f0,.string x.f4.f1,.int .i64 x.f4.f2,.int .i64 x.f4.f3,.slice A x.f4.f4.length c,.int .i64 x.f5.f0,.string x.f5.f1,.int .i64 x.f5.f2,.int .i64 x.f5.f3,.slice B x.f5.f4.length d,.int .i64 x.f6] 87)) _
 have i0:=bc_ hi1 0 rfl
 have i1:=bc_ hi1 1 rfl
 have i2:=bc_ hi1 2 rfl
 have i3:=bc_ hi1 3 rfl
 have i4:=bc_ hi1 4 rfl
 have i5:=bc_ hi1 5 rfl
 have i6:=bc_ hi1 6 rfl
 have i7:=bc_ hi1 7 rfl
 have i8:=bc_ hi1 8 rfl
 have i9:=bc_ hi1 9 rfl
 have i10:=bc_ hi1 10 rfl
 have i11:=bc_ hi1 11 rfl
 have i12:=bc_ hi1 12 rfl
 have i13:=bc_ hi1 13 rfl
 have i14:=bc_ hi1 14 rfl
 have k0:=bc_ hk1 0 rfl
 have HG:=Sd.m (hg W1 hb1)
 have HW1:=Sd.m hW1
 have HB1:=Sd.m hb1
 have HK1:=Sd.m hk1
 have HR1:=Sd.m hr1
 have HS1:=Sd.m (bx_ hr1)
 clear hg hb1 hk1 hi1 hr1 ea eb hx0 hx4 hW1
 go_enter Tryz.func105,Tryz.ntmps105
 go_wp2_with fail
 rw [←HW1.out]
 refine HG.out.mono ?_
 rintro e V ⟨A1,c1,rfl,hc1,hF,hb⟩
 have hk:=af_ HK1.out hb
 have hr:=af_ HR1.out hb
 clear k0 i0 i1 i2 i3 i4 i5 i6 i7 i8 i9 i10 i11 i12 i13 i14
 have n0:=bc_ hk 0 rfl
 have m0:=aa_ hk 0
 obtain ⟨V5,hV5⟩: ∃ W_,W_=V.setCell ⟨W.heap.size,0,none⟩ (.slice A1 1 c1):=⟨_,rfl⟩
 have hk5:V5.heap[W.heap.size]? =some (.cells #[.slice A1 1 c1,.slice none 0 0,.slice none 0 0,.slice none 0 0] 27 (0,0)):=by rw [hV5];exact cc_ hk 0 _ rfl
 have hr5:V5.heap[W.heap.size+2]? =some (.cells #[.slice none 0 0,.slice none 0 0,.slice none 0 0,.slice none 0 0] 27 (0,0)):=by rw [hV5];exact ec_ (vs:=[.slice A1 1 c1]) (n:=W.heap.size) (by omega) V 0 hr
 have hs1:=HS1.out
 have hF5:Kd.F k93 V5 (fun k=>W1.heap.size<=k) A1 1 [⟨x.f1,p,true,x.f6⟩]:=by rw [hV5];exact ca_ (n:=W.heap.size) (fun k hk=>by omega) [.slice A1 1 c1] V 0 hF
 have hb5:Below W.heap.size W V5:=by rw [hV5];exact ce_ (n:=W.heap.size) (Nat.le_refl _) [.slice A1 1 c1] V 0 (HB1.out.trans (hb.mono HB1.out.size))
 obtain ⟨V6,hV6⟩: ∃ W_,W_=putL V5 (W.heap.size+2) 0 [.slice A1 1 c1,.slice none 0 0,.slice none 0 0,.slice none 0 0]:=⟨_,rfl⟩
 have hr6:V6.heap[W.heap.size+2]? =some (.cells #[.slice A1 1 c1,.slice none 0 0,.slice none 0 0,.slice none 0 0] 27 (0,0)):=by rw [hV6];exact cm_ _ V5 0 _ hr5
 have hF6:Kd.F k93 V6 (fun k=>W.heap.size<=k) A1 1 [⟨x.f1,p,true,x.f6⟩]:=by rw [hV6];exact F_mono (ca_ (n:=W.heap.size+2) (fun k hk=>by omega) _ V5 0 hF5) (fun k hk=>by omega)
 have hb6:Below W.heap.size W V6:=by rw [hV6];exact ce_ (n:=W.heap.size+2) (by omega) _ V5 0 hb5
 replace hV6:V6=(((V5.setCell ⟨W.heap.size+2,0,none⟩ (.slice A1 1 c1)).setCell ⟨W.heap.size+2,1,none⟩ (.slice none 0 0)).setCell ⟨W.heap.size+2,2,none⟩ (.slice none 0 0)).setCell ⟨W.heap.size+2,3,none⟩ (.slice none 0 0):=hV6
 have q0:=bc_ hk5 0 rfl
 have s0:=bc_ hr5 0 rfl
 have z0:=aa_ hr5 0
 have q1:=bc_ hk5 1 rfl
 have s1:=bc_ hr5 1 rfl
 have z1:=aa_ hr5 1
 have q2:=bc_ hk5 2 rfl
 have s2:=bc_ hr5 2 rfl
 have z2:=aa_ hr5 2
 have q3:=bc_ hk5 3 rfl
 have s3:=bc_ hr5 3 rfl
 have z3:=aa_ hr5 3
 have HV5:=Sd.m hV5
 have HV6:=Sd.m hV6
 have HR6:=Sd.m hr6
 have HF6:=Sd.m hF6
 have HB6:=Sd.m hb6
 clear hk hr hV5 hk5 hr5 hs1 hF5 hb5 hV6 hr6 hF6 hb6 hF hb
 go_upto_region 6 with fail
 rw [←HV5.out]
 go_wp2_with fail
 rw [←HV6.out]
 refine bodyPost_ret (dz_ rfl _ _ (W.heap.size+2) 27 #[.slice A1 1 c1,.slice none 0 0,.slice none 0 0,.slice none 0 0] (0,0) _ rfl HR6.out Tryz.underlying27 rfl (by kernel_rfl)) rfl ?_
 exact ⟨A1,c1,rfl,hc1,HF6.out,HB6.out⟩
theorem one_rule (W:World)(P:Nat->Prop)(x:S87)(A:Option Addr)(c:Nat)(B:Option Addr)(d:Nat)(p1 p2:S45)(lv:List S93)(AV:Option Addr)(cv:Nat)(hcv:lv.length<=cv)(hV:Kd.C k93 W AV lv.length lv)
  (lr:List S55) (AR:Option Addr) (cr:Nat) (hcr:lr.length<=cr) (hR:Kd.C k55 W AR lr.length lr) (hlr:lr.length<30) (ls:List S55) (hx0:x.f0=2) (kk:Nat) (hf:bl_.f kk lv lr [] [] x.f2=some (-1))
  (h1: ∀ W',Below W.heap.size W W'->Calls Tryz.prog 135 #[.agg (NdC x.f4 A c),.slice AV lv.length cv] W' (PatAns W' (fun k=>P k∧k<W.heap.size) p1))
  (h2: ∀ W',Below W.heap.size W W'->Calls Tryz.prog 135 #[.agg (NdC x.f5 B d),.slice AV lv.length cv] W' (PatAns W' (fun k=>P k∧k<W.heap.size) p2))
  (hp: ∀ (W':World) (a3:Option Addr) (b3:Nat) (a4:Option Addr) (b4:Nat) (a5:Option Addr) (b5:Nat) (a7:Option Addr) (b7:Nat) (a8:Option Addr) (b8:Nat) (a9:Option Addr) (b9:Nat),Below W.heap.size W W'->W.heap.size+3<=W'.heap.size->Kd.FK k55 W' (fun k=>(P k∧k<W.heap.size)∨W.heap.size+3<=k) ⟨x.f2,x.f3,p1,p2,x.f6⟩ [.int .i64 x.f2,.bool x.f3,.int .i64 p1.f0,.slice a3 p1.f1.length b3,.slice a4 p1.f2.length b4,.slice a5 p1.f3.length b5,.int .i64 p2.f0,.slice a7 p2.f1.length b7,.slice a8 p2.f2.length b8,.slice a9 p2.f3.length b9,.int .i64 x.f6]->
   Calls Tryz.prog 136 #[.slice AR lr.length cr,.agg #[.int .i64 x.f2,.bool x.f3,.int .i64 p1.f0,.slice a3 p1.f1.length b3,.slice a4 p1.f2.length b4,.slice a5 p1.f3.length b5,.int .i64 p2.f0,.slice a7 p2.f1.length b7,.slice a8 p2.f2.length b8,.slice a9 p2.f3.length b9,.int .i64 x.f6]] W' fun e w'=> ∃ A1 c1,e=.returned (.slice A1 ls.length c1)∧ls.length<=c1∧Kd.F k55 w' (fun k=>(P k∧k<W.heap.size)∨W.heap.size+3<=k) A1 ls.length ls∧Below W'.heap.size W' w'):
  Calls Tryz.prog 105 #[.agg #[.slice AV lv.length cv,.slice AR lr.length cr,.slice none 0 0,.slice none 0 0],.agg (ItC x A c B d)] W fun e w'=> ∃ A1 c1,e=.returned (.tuple #[.agg #[.slice AV lv.length cv,.slice A1 ls.length c1,.slice none 0 0,.slice none 0 0],.int .i64 0])∧ls.length<=c1∧Kd.F k55 w' (fun k=>P k∨W.heap.size<=k) A1 ls.length ls∧Below W.heap.size W w':=by
 unfold ItC
 unfold NdC at h1 h2
 rw [hx0]
 have ea:(W.alloc (.cells #[.slice AV lv.length cv,.slice AR lr.length cr,.slice none 0 0,.slice none 0 0] 27)).heap.size=W.heap.size+1:=Array.size_push _
 have eb:((W.alloc (.cells #[.slice AV lv.length cv,.slice AR lr.length cr,.slice none 0 0,.slice none 0 0] 27)).alloc (.cells #[.int .i64 2,.string x.f1,.int .i64 x.f2,.bool x.f3,.int .i64 x.f4.f0,.string x.f4.f1,.int .i64 x.f4.f2,.int .i64 x.f4.f3,.slice A x.f4.f4.length c,.int .i64 x.f5.f0,.string x.f5.f1,.int .i64 x.f5.f2,.int .i64 x.f5.f3,.slice B x.f5.f4.length d,.int .i64 x.f6] 87)).heap.size=W.heap.size+2:=(Array.size_push _).trans (congrArg (· +1) ea)
 obtain ⟨W1,hW1⟩: ∃ W_,W_=((W.alloc (.cells #[.slice AV lv.length cv,.slice AR lr.length cr,.slice none 0 0,.slice none 0 0] 27)).alloc (.cells #[.int .i64 2,.string x.f1,.int .i64 x.f2,.bool x.f3,.int .i64 x.f4.f0,.string x.f4.f1,.int .i64 x.f4.f2,.int .i64 x.f4.f3,.slice A x.f4.f4.length c,.int .i64 x.f5.f0,.string x.f5.f1,.int .i64 x.f5.f2,.int .i64 x.f5.f3,.slice B x.f5.f4.length d,.int .i64 x.f6] 87)).alloc (.cells #[.slice none 0 0,.slice none 0 0,.slice none 0 0,.slice none 0 0] 27):=⟨_,rfl⟩
 have hb1:Below W.heap.size W W1:=by rw [hW1];exact ab_ (ab_ (ab_ (Below.refl W.heap.size W) _) _) _
 have hk1:W1.heap[W.heap.size]? =some (.cells #[.slice AV lv.length cv,.slice AR lr.length cr,.slice none 0 0,.slice none 0 0] 27 (0,0)):=by rw [hW1];exact ak_ (ak_ (ah_ W _) _) _
 have hi1:W1.heap[W.heap.size+1]? =some (.cells #[.int .i64 2,.string x.f1,.int .i64 x.f2,.bool x.f3,.int .i64 x.f4.f0,.string x.f4.f1,.int .i64 x.f4.f2,.int .i64 x.f4.f3,.slice A x.f4.f4.length c,.int .i64 x.f5.f0,.string x.f5.f1,.int .i64 x.f5.f2,.int .i64 x.f5.f3,.slice B x.f5.f4.length d,.int .i64 x.f6] 87 (0,0)):=by rw [hW1];exact ak_ (ea ▸ ah_ (W.alloc (.cells #[.slice AV lv.length cv,.slice AR lr.length cr,.slice none 0 0,.slice none 0 0] 27)) _) _
 have hr1:W1.heap[W.heap.size+2]? =some (.cells #[.slice none 0 0,.slice none 0 0,.slice none 0 0,.slice none 0 0] 27 (0,0)):=by rw [hW1];exact eb ▸ ah_ ((W.alloc (.cells #[.slice AV lv.length cv,.slice AR lr.length cr,.slice none 0 0,.slice none 0 0] 27)).alloc (.cells #[.int .i64 2,.string x.f1,.int .i64 x.f2,.bool x.f3,.int .i64 x.f4.f0,.string x.f4.f1,.int .i64 x.f4.f2,.int .i64 x.f4.f3,.slice A x.f4.f4.length c,.int .i64 x.f5.f0,.string x.f5.f1,.int .i64 x.f5.f2,.int .i64 x.f5.f3,.slice B x.f5.f4.length d,.int .i64 x.f6] 87)) _
 have k0:=bc_ hk1 0 rfl
 have k1:=bc_ hk1 1 rfl
 have k2:=bc_ hk1 2 rfl
 have k3:=bc_ hk1 3 rfl
 have i0:=bc_ hi1 0 rfl
 have i2:=bc_ hi1 2 rfl
 have HFD:=Sd.m (bl_.calls kk AV cv lv AR cr lr none 0 [] none 0 [] x.f2 (-1) W1 (Kd.C_below hV hb1) hcv (Kd.C_below hR hb1) hcr (C_nil _ _) (Nat.le_refl _) (C_nil _ _) (Nat.le_refl _) hf)
 have d30:decide ((30:Int)<=(lr.length:Int))=false:=df__ (by omega)
 have H1:=Sd.m h1
 have H2:=Sd.m h2
 have HP:=Sd.m hp
 have HW1:=Sd.m hW1
 have HB1:=Sd.m hb1
 have HK1:=Sd.m hk1
 have HI1:=Sd.m hi1
 have HR1:=Sd.m hr1
 have HS1:=Sd.m (bx_ hr1)
 clear h1 h2 hp hb1 hk1 hi1 hr1 ea eb hx0 hW1 hV hR hf
 go_enter Tryz.func105,Tryz.ntmps105
 go_wp2_with fail
 rw [←HW1.out]
 refine HFD.out.mono ?_
 rintro e V1 ⟨rfl,hb⟩
 clear k0 k1 k2 k3 i0 i2
 have HBA:=Sd.m (HB1.out.trans (hb.mono HB1.out.size))
 have HKA:=Sd.m (af_ HK1.out hb)
 have HIA:=Sd.m (af_ HI1.out hb)
 have HRA:=Sd.m (af_ HR1.out hb)
 have HSA:=Sd.m hb.size
 clear hb
 have k0:=bc_ HKA.out 0 rfl
 have k1:=bc_ HKA.out 1 rfl
 have i4:=bc_ HIA.out 4 rfl
 have i5:=bc_ HIA.out 5 rfl
 have i6:=bc_ HIA.out 6 rfl
 have i7:=bc_ HIA.out 7 rfl
 have i8:=bc_ HIA.out 8 rfl
 go_wp2_with fail
 refine (H1.out V1 HBA.out).mono ?_
 rintro e V2 ⟨v,rfl,⟨E1,e1,E2,e2,E3,e3,rfl,l1,g1,l2,g2,l3,g3⟩,hb⟩
 clear k0 k1 i4 i5 i6 i7 i8
 have hb3:Below V2.heap.size V2 (V2.alloc (.cells #[.int .i64 p1.f0,.slice E1 p1.f1.length e1,.slice E2 p1.f2.length e2,.slice E3 p1.f3.length e3] 45)):=ab_ (Below.refl _ _) _
 have hp3:=ah_ V2 (.cells #[.int .i64 p1.f0,.slice E1 p1.f1.length e1,.slice E2 p1.f2.length e2,.slice E3 p1.f3.length e3] 45)
 obtain ⟨V3,hV3⟩: ∃ W_,W_=V2.alloc (.cells #[.int .i64 p1.f0,.slice E1 p1.f1.length e1,.slice E2 p1.f2.length e2,.slice E3 p1.f3.length e3] 45):=⟨_,rfl⟩
 rw [←hV3] at hb3 hp3
 have hq:=hb.trans (hb3.mono hb.size)
 have HBB:=Sd.m (HBA.out.trans (hq.mono HBA.out.size))
 have HKB:=Sd.m (af_ HKA.out hq)
 have HIB:=Sd.m (af_ HIA.out hq)
 have HRB:=Sd.m (af_ HRA.out hq)
 have HPB:=Sd.m hp3
 have G1:=Sd.m (F_below g1 hb3)
 have G2:=Sd.m (F_below g2 hb3)
 have G3:=Sd.m (F_below g3 hb3)
 have HV3:=Sd.m hV3
 have HSB:=Sd.m hq.size
 clear hb hb3 hp3 hq g1 g2 g3 hV3
 have k0:=bc_ HKB.out 0 rfl
 have i9:=bc_ HIB.out 9 rfl
 have i10:=bc_ HIB.out 10 rfl
 have i11:=bc_ HIB.out 11 rfl
 have i12:=bc_ HIB.out 12 rfl
 have i13:=bc_ HIB.out 13 rfl
 go_upto_region 13 with fail
 rw [←HV3.out]
 go_wp2_with fail
 refine (H2.out V3 HBB.out).mono ?_
 rintro e V4 ⟨v,rfl,⟨F1,f1,F2,f2,F3,f3,rfl,l4,g4,l5,g5,l6,g6⟩,hb⟩
 clear k0 i9 i10 i11 i12 i13
 have hb5:Below V4.heap.size V4 (V4.alloc (.cells #[.int .i64 p2.f0,.slice F1 p2.f1.length f1,.slice F2 p2.f2.length f2,.slice F3 p2.f3.length f3] 45)):=ab_ (Below.refl _ _) _
 have hp5:=ah_ V4 (.cells #[.int .i64 p2.f0,.slice F1 p2.f1.length f1,.slice F2 p2.f2.length f2,.slice F3 p2.f3.length f3] 45)
 obtain ⟨V5,hV5⟩: ∃ W_,W_=V4.alloc (.cells #[.int .i64 p2.f0,.slice F1 p2.f1.length f1,.slice F2 p2.f2.length f2,.slice F3 p2.f3.length f3] 45):=⟨_,rfl⟩
 rw [←hV5] at hb5 hp5
 have hq:=hb.trans (hb5.mono hb.size)
 have HBC:=Sd.m (HBB.out.trans (hq.mono HBB.out.size))
 have HKC:=Sd.m (af_ HKB.out hq)
 have HIC:=Sd.m (af_ HIB.out hq)
 have HRC:=Sd.m (af_ HRB.out hq)
 have HPC:=Sd.m (af_ HPB.out hq)
 have HQC:=Sd.m hp5
 have ok1: ∀ k,((P k∧k<W.heap.size)∨V1.heap.size<=k)->((P k∧k<W.heap.size)∨W.heap.size+3<=k):=fun k hk=>Or.elim hk Or.inl (fun hk=>Or.inr (by have:=HS1.out;have:=HSA.out;omega))
 have ok2: ∀ k,((P k∧k<W.heap.size)∨V3.heap.size<=k)->((P k∧k<W.heap.size)∨W.heap.size+3<=k):=fun k hk=>Or.elim hk Or.inl (fun hk=>Or.inr (by have:=HS1.out;have:=HSA.out;have:=HSB.out;omega))
 have hsz:W.heap.size+3<=V5.heap.size:=by have:=HS1.out;have:=HSA.out;have:=HSB.out;have:=hq.size;omega
 have HCP:=Sd.m (HP.out V5 E1 e1 E2 e2 E3 e3 F1 f1 F2 f2 F3 f3 HBC.out hsz (k55_mkF _ _ ⟨x.f2,x.f3,p1,p2,x.f6⟩ l1 (F_mono (F_below G1.out hq) ok1) l2 (F_mono (F_below G2.out hq) ok1) l3 (F_mono (F_below G3.out hq) ok1) l4 (F_mono (F_below g4 hb5) ok2) l5 (F_mono (F_below g5 hb5) ok2) l6 (F_mono (F_below g6 hb5) ok2)))
 have HV5:=Sd.m hV5
 have HSC:=Sd.m hsz
 clear hb hb5 hp5 hq g4 g5 g6 hV5 ok1 ok2 hsz
 have k1:=bc_ HKC.out 1 rfl
 have i2:=bc_ HIC.out 2 rfl
 have i3:=bc_ HIC.out 3 rfl
 have i14:=bc_ HIC.out 14 rfl
 have pp0:=bc_ HPC.out 0 rfl
 have pp1:=bc_ HPC.out 1 rfl
 have pp2:=bc_ HPC.out 2 rfl
 have pp3:=bc_ HPC.out 3 rfl
 have qq0:=bc_ HQC.out 0 rfl
 have qq1:=bc_ HQC.out 1 rfl
 have qq2:=bc_ HQC.out 2 rfl
 have qq3:=bc_ HQC.out 3 rfl
 go_upto_region 16 with fail
 rw [←HV5.out]
 go_wp2_with fail
 refine HCP.out.mono ?_
 rintro e V ⟨A1,c1,rfl,hc1,hF,hb⟩
 clear k1 i2 i3 i14 pp0 pp1 pp2 pp3 qq0 qq1 qq2 qq3
 have hk:=af_ HKC.out hb
 have hr:=af_ HRC.out hb
 have n1:=bc_ hk 1 rfl
 have m1:=aa_ hk 1
 obtain ⟨V6,hV6⟩: ∃ W_,W_=V.setCell ⟨W.heap.size,1,none⟩ (.slice A1 ls.length c1):=⟨_,rfl⟩
 have hk6:V6.heap[W.heap.size]? =some (.cells #[.slice AV lv.length cv,.slice A1 ls.length c1,.slice none 0 0,.slice none 0 0] 27 (0,0)):=by rw [hV6];exact cc_ hk 1 _ rfl
 have hr6:V6.heap[W.heap.size+2]? =some (.cells #[.slice none 0 0,.slice none 0 0,.slice none 0 0,.slice none 0 0] 27 (0,0)):=by rw [hV6];exact ec_ (vs:=[.slice A1 ls.length c1]) (n:=W.heap.size) (by omega) V 1 hr
 have okA: ∀ k,((P k∧k<W.heap.size)∨W.heap.size+3<=k)->k≠W.heap.size:=fun k hk=>by rcases hk with hk | hk <;> omega
 have okB: ∀ k,((P k∧k<W.heap.size)∨W.heap.size+3<=k)->k≠W.heap.size+2:=fun k hk=>by rcases hk with hk | hk <;> omega
 have okC: ∀ k,((P k∧k<W.heap.size)∨W.heap.size+3<=k)->(P k∨W.heap.size<=k):=fun k hk=>Or.elim hk (fun h=>Or.inl h.1) (fun h=>Or.inr (by omega))
 have hF6:Kd.F k55 V6 (fun k=>(P k∧k<W.heap.size)∨W.heap.size+3<=k) A1 ls.length ls:=by rw [hV6];exact ca_ (n:=W.heap.size) okA [.slice A1 ls.length c1] V 1 hF
 have hb6:Below W.heap.size W V6:=by rw [hV6];exact ce_ (n:=W.heap.size) (Nat.le_refl _) [.slice A1 ls.length c1] V 1 (HBC.out.trans (hb.mono HBC.out.size))
 obtain ⟨V7,hV7⟩: ∃ W_,W_=putL V6 (W.heap.size+2) 0 [.slice AV lv.length cv,.slice A1 ls.length c1,.slice none 0 0,.slice none 0 0]:=⟨_,rfl⟩
 have hr7:V7.heap[W.heap.size+2]? =some (.cells #[.slice AV lv.length cv,.slice A1 ls.length c1,.slice none 0 0,.slice none 0 0] 27 (0,0)):=by rw [hV7];exact cm_ _ V6 0 _ hr6
 have hF7:Kd.F k55 V7 (fun k=>P k∨W.heap.size<=k) A1 ls.length ls:=by rw [hV7];exact F_mono (ca_ (n:=W.heap.size+2) okB _ V6 0 hF6) okC
 have hb7:Below W.heap.size W V7:=by rw [hV7];exact ce_ (n:=W.heap.size+2) (by omega) _ V6 0 hb6
 replace hV7:V7=(((V6.setCell ⟨W.heap.size+2,0,none⟩ (.slice AV lv.length cv)).setCell ⟨W.heap.size+2,1,none⟩ (.slice A1 ls.length c1)).setCell ⟨W.heap.size+2,2,none⟩ (.slice none 0 0)).setCell ⟨W.heap.size+2,3,none⟩ (.slice none 0 0):=hV7
 have q0:=bc_ hk6 0 rfl
 have s0:=bc_ hr6 0 rfl
 have z0:=aa_ hr6 0
 have q1:=bc_ hk6 1 rfl
 have s1:=bc_ hr6 1 rfl
 have z1:=aa_ hr6 1
 have q2:=bc_ hk6 2 rfl
 have s2:=bc_ hr6 2 rfl
 have z2:=aa_ hr6 2
 have q3:=bc_ hk6 3 rfl
 have s3:=bc_ hr6 3 rfl
 have z3:=aa_ hr6 3
 have HV6:=Sd.m hV6
 have HV7:=Sd.m hV7
 have HR7:=Sd.m hr7
 have HF7:=Sd.m hF7
 have HB7:=Sd.m hb7
 clear hk hr hV6 hk6 hr6 okA okB okC hF6 hb6 hV7 hr7 hF7 hb7 hF hb
 go_upto_region 19 with fail
 rw [←HV6.out]
 go_wp2_with fail
 rw [←HV7.out]
 refine bodyPost_ret (dz_ rfl _ _ (W.heap.size+2) 27 #[.slice AV lv.length cv,.slice A1 ls.length c1,.slice none 0 0,.slice none 0 0] (0,0) _ rfl HR7.out Tryz.underlying27 rfl (by kernel_rfl)) rfl ?_
 exact ⟨A1,c1,rfl,hc1,HF7.out,HB7.out⟩
structure NmAt (W Wb:World) (o0:Option Nat) (A1:Option Addr) (V:List S93) (A2:Option Addr) (R:List S55) (bk:Array Value) (w:World) (v:Value) (xs:List ByteArray):Prop where
 N:Kd.N Kd.string 9 w (W.heap.size+2) (fun j=>W.heap.size+2<=j) v xs
 own: ∀ j,v.ownBlock=some j->o0=some j∨Wb.heap.size<=j
 sz:Wb.heap.size<=w.heap.size
 F1:Kd.F k93 w (fun j=>(W.heap.size+2<=j∧some j≠o0)∧j<Wb.heap.size) A1 V.length V
 F2:Kd.F k55 w (fun j=>(W.heap.size+2<=j∧some j≠o0)∧j<Wb.heap.size) A2 R.length R
 B:Below W.heap.size W w
 r:w.heap[W.heap.size]? =some (.cells #[.slice none 0 0,.slice none 0 0,.slice none 0 0,.slice none 0 0] 27 (0,0))
 b:w.heap[W.heap.size+1]? =some (.cells bk 27 (0,0))
section
variable {W Wb w w1:World} {o0:Option Nat} {A1 A2:Option Addr} {V:List S93} {R:List S55} {bk:Array Value} {v:Value} {xs ys:List ByteArray}
theorem NmAt.below (h:NmAt W Wb o0 A1 V A2 R bk w v xs)(hb:Below w.heap.size w w1):NmAt W Wb o0 A1 V A2 R bk w1 v xs:=
 ⟨N_below h.N hb,h.own,Nat.le_trans h.sz hb.size,F_below h.F1 hb,F_below h.F2 hb,h.B.trans (hb.mono h.B.size),af_ h.r hb,af_ h.b hb⟩
theorem NmAt.app {An:Option Addr}{cn:Nat}(h:NmAt W Wb o0 A1 V A2 R bk w (.slice An xs.length cn) xs)(B1:Option Addr)(m1:Nat)(okp:Nat->Prop)(hy:Kd.F Kd.string w okp B1 ys.length ys)(hokp: ∀ k,okp k->W.heap.size+2<=k∧some k≠(Value.slice An xs.length cn).ownBlock)(hl:(xs.length+ys.length)*16<=140737488355328):
  ∃ C1 k1 w1,(Builtin.append_ #[25,25] 25 #[.slice An xs.length cn,.slice B1 ys.length m1]).run Tryz.prog w=.ok (.slice C1 (xs ++ ys).length k1) w1∧NmAt W Wb o0 A1 V A2 R bk w1 (.slice C1 (xs ++ ys).length k1) (xs ++ ys):=by
 have hlt:W.heap.size+2<=w.heap.size:=bx_ h.b
 obtain ⟨v1,w1,hrun,hN,hg,hat⟩:=ee_ (P:=Tryz.prog) Kd.string (W:=w) (W.heap.size+2) 25 25 9 (.string ⟨#[]⟩) 16 Tryz.underlying25 (by kernel_rfl) rfl (by decide) (by decide) (.slice An xs.length cn) xs ys B1 ys.length m1 (fun j=>W.heap.size+2<=j) okp h.N hy hokp (fun k hk=>Nat.le_trans hlt hk) hlt hl
 obtain ⟨C1,k1,rfl⟩:=N_slice hN
 have hbase:=fun k hk=>N_base h.N k hk
 have hQ: ∀ j,((W.heap.size+2<=j∧some j≠o0)∧j<Wb.heap.size)->some j≠(Value.slice An xs.length cn).ownBlock:=fun j hj he=>(h.own j he.symm).elim (fun e=>hj.1.2 e.symm) (fun e=>by have:=hj.2;omega)
 refine ⟨C1,k1,w1,hrun,hN,?_,Nat.le_trans h.sz hg.size,F_grown h.F1 hg hQ,F_grown h.F2 hg hQ,h.B.grown hg h.B.size (fun k hk=>by have:=hbase k hk;omega),?_,?_⟩
 ·intro j hj
  rcases hat with e | ⟨q,e,hq⟩
  ·rw [e] at hj;exact h.own j hj
  ·rw [e] at hj
   injection hj with hj
   exact Or.inr (hj ▸ Nat.le_trans h.sz hq)
 ·exact (hg.block _ (bx_ h.r) (fun e=>by have:=hbase _ e.symm;omega)).trans h.r
 ·exact (hg.block _ (bx_ h.b) (fun e=>by have:=hbase _ e.symm;omega)).trans h.b
end
theorem jg_ (kk:Nat)(nd:S85)(A:Option Addr)(c:Nat)(out:List ByteArray)(w:World)(hC:Kd.C k85 w A nd.f4.length nd.f4)(hc:nd.f4.length<=c)(h:aj_.f kk nd.f0 nd.f1 nd.f2 nd.f3 nd.f4=some out):
  Calls Tryz.prog 106 #[.agg #[.int .i64 nd.f0,.string nd.f1,.int .i64 nd.f2,.int .i64 nd.f3,.slice A nd.f4.length c]] w fun e w'=> ∃ B1 m1,e=.returned (.slice B1 out.length m1)∧Kd.F Kd.string w' (fun j=>w.heap.size<=j∧j<w'.heap.size) B1 out.length out∧Below w.heap.size w w':=by
 refine (aj_.calls kk nd.f0 nd.f1 nd.f2 nd.f3 A c nd.f4 out w hC hc h).mono ?_
 rintro e w' ⟨v0,rfl,hR,hb⟩
 obtain ⟨B1,m1,rfl⟩:=R_slice hR
 exact ⟨B1,m1,rfl,F_mono (N_F (R_N (R_bound hR))) (fun j hj=>⟨hj.2.1,hj.2.2.1⟩),hb⟩
def Cap (A:Option Addr)(n c:Nat):Prop:=n<=c∧(n=0->A=none∧c=0)
def OneStep (W0:World)(it:S87)(V V1:List S93)(R R1:List S55):Prop:=
 ∀ (W:World) (Q:Nat->Prop) (AV:Option Addr) (cv:Nat) (AR:Option Addr) (cr:Nat) (A:Option Addr) (c:Nat) (B:Option Addr) (d:Nat),Below W0.heap.size W0 W->Cap AV V.length cv->Kd.F k93 W Q AV V.length V->Cap AR R.length cr->Kd.F k55 W Q AR R.length R->
  it.f4.f4.length<=c->Kd.C k85 W A it.f4.f4.length it.f4.f4->it.f5.f4.length<=d->Kd.C k85 W B it.f5.f4.length it.f5.f4->
  Calls Tryz.prog 105 #[.agg #[.slice AV V.length cv,.slice AR R.length cr,.slice none 0 0,.slice none 0 0],.agg (ItC it A c B d)] W fun e w'=> ∃ A1 c1 A2 c2,e=.returned (.tuple #[.agg #[.slice A1 V1.length c1,.slice A2 R1.length c2,.slice none 0 0,.slice none 0 0],.int .i64 0])∧Cap A1 V1.length c1∧Kd.F k93 w' (fun k=>(Q k∧k<W.heap.size)∨W.heap.size<=k) A1 V1.length V1∧Cap A2 R1.length c2∧Kd.F k55 w' (fun k=>(Q k∧k<W.heap.size)∨W.heap.size<=k) A2 R1.length R1∧Below W.heap.size W w'
def BuO (W:World)(l:List S87)(LV:Int->List S93)(LR:Int->List S55)(NM:Int->List ByteArray)(t6 t7:Value)(Wx:World):Prop:=
 ∃ (k:Int) (AV:Option Addr) (cv:Nat) (AR:Option Addr) (cr:Nat),0<=k∧k<=(l.length:Int)∧t7=.int .i64 k∧Below W.heap.size W Wx∧Wx.heap[W.heap.size]? =some (.cells #[.slice none 0 0,.slice none 0 0,.slice none 0 0,.slice none 0 0] 27 (0,0))∧
  Wx.heap[W.heap.size+1]? =some (.cells #[.slice AV (LV k).length cv,.slice AR (LR k).length cr,.slice none 0 0,.slice none 0 0] 27 (0,0))∧Cap AV (LV k).length cv∧Cap AR (LR k).length cr∧
  Kd.F k93 Wx (fun j=>W.heap.size+2<=j∧some j≠t6.ownBlock) AV (LV k).length (LV k)∧Kd.F k55 Wx (fun j=>W.heap.size+2<=j∧some j≠t6.ownBlock) AR (LR k).length (LR k)∧Kd.N Kd.string 9 Wx (W.heap.size+2) (fun j=>W.heap.size+2<=j) t6 (NM k)
def BuE (W:World)(v:S93)(R:List S55)(AV:Option Addr)(cv:Nat)(AR:Option Addr)(cr:Nat)(An:Option Addr)(nm:List ByteArray)(t10:Value)(Wx:World):Prop:=
 Kd.F Kd.string Wx (fun j=>W.heap.size+2<=j) An nm.length nm∧
 Below W.heap.size W Wx∧Wx.heap[W.heap.size]? =some (.cells #[.slice none 0 0,.slice none 0 0,.slice none 0 0,.slice none 0 0] 27 (0,0))∧Kd.F k93 Wx (fun j=>W.heap.size+2<=j) AV 1 [v]∧Kd.F k55 Wx (fun j=>W.heap.size+2<=j) AR R.length R∧
 ((t10=.int .i64 0∧Wx.heap[W.heap.size+1]? =some (.cells #[.slice AV 1 cv,.slice AR R.length cr,.slice none 0 0,.slice none 0 0] 27 (0,0)))∨
  (t10=.int .i64 1∧ ∃ AU cu,1<=cu∧Kd.F Kd.string Wx (fun j=>W.heap.size+2<=j) AU 1 [v.f0]∧Wx.heap[W.heap.size+1]? =some (.cells #[.slice AV 1 cv,.slice AR R.length cr,.slice none 0 0,.slice AU 1 cu] 27 (0,0))))
theorem build_loop (W:World)(l:List S87)(A0:Option Addr)(c0:Nat)(hc0:l.length<=c0)(hl:Kd.C k87 W A0 l.length l)(hl9:l.length<=1000)(LV:Int->List S93)(LR:Int->List S55)(NM:Int->List ByteArray)
  (hV0:LV 0=[]) (hR0:LR 0=[]) (hN0:NM 0=[])
  (h1: ∀ k:Int,0<=k->k<(l.length:Int)->OneStep W (al_ l k) (LV k) (LV (k+1)) (LR k) (LR (k+1)))
  (NA NB:Int->List ByteArray) (hNA: ∀ k:Int,0<=k->k<(l.length:Int)-> ∃ kk,aj_.f kk (al_ l k).f4.f0 (al_ l k).f4.f1 (al_ l k).f4.f2 (al_ l k).f4.f3 (al_ l k).f4.f4=some (NA k))
  (hNB: ∀ k:Int,0<=k->k<(l.length:Int)-> ∃ kk,aj_.f kk (al_ l k).f5.f0 (al_ l k).f5.f1 (al_ l k).f5.f2 (al_ l k).f5.f3 (al_ l k).f5.f4=some (NB k))
  (hNM: ∀ k:Int,0<=k->k<(l.length:Int)->NM (k+1)=(NM k ++ NA k) ++ NB k∧(NM (k+1)).length<=1000)
  (vv:S93) (hLV:LV (l.length:Int)=[vv]) (kh:Nat) (hhas:bn_.f kh (NM (l.length:Int)) vv.f0=some true)
  (hk3: ∀ k:Int,0<=k->k<(l.length:Int)->(al_ l k).f0≠3):
  Calls Tryz.prog 71 #[.slice A0 l.length c0] W fun e w'=> ∃ AV cv AR cr AU cu,e=.returned (.tuple #[.agg #[.slice AV 1 cv,.slice AR (LR (l.length:Int)).length cr,.slice none 0 0,.slice AU 1 cu],.int .i64 (-1),.int .i64 0])∧1<=cv∧(LR (l.length:Int)).length<=cr∧1<=cu∧Kd.F k93 w' (fun j=>W.heap.size<=j) AV 1 [vv]∧Kd.F k55 w' (fun j=>W.heap.size<=j) AR (LR (l.length:Int)).length (LR (l.length:Int))∧Kd.F Kd.string w' (fun j=>W.heap.size<=j) AU 1 [vv.f0]∧Below W.heap.size W w':=by
 have ea:(W.alloc (.cells #[.slice none 0 0,.slice none 0 0,.slice none 0 0,.slice none 0 0] 27)).heap.size=W.heap.size+1:=Array.size_push _
 obtain ⟨W1,hW1⟩: ∃ W_,W_=(W.alloc (.cells #[.slice none 0 0,.slice none 0 0,.slice none 0 0,.slice none 0 0] 27)).alloc (.cells #[.slice none 0 0,.slice none 0 0,.slice none 0 0,.slice none 0 0] 27):=⟨_,rfl⟩
 have hb1:Below W.heap.size W W1:=by rw [hW1];exact ab_ (ab_ (Below.refl W.heap.size W) _) _
 have hr1:W1.heap[W.heap.size]? =some (.cells #[.slice none 0 0,.slice none 0 0,.slice none 0 0,.slice none 0 0] 27 (0,0)):=by rw [hW1];exact ak_ (ah_ W _) _
 have hk1:W1.heap[W.heap.size+1]? =some (.cells #[.slice none 0 0,.slice none 0 0,.slice none 0 0,.slice none 0 0] 27 (0,0)):=by rw [hW1];exact ea ▸ ah_ (W.alloc (.cells #[.slice none 0 0,.slice none 0 0,.slice none 0 0,.slice none 0 0] 27)) _
 have H0:BuO W l LV LR NM (.slice none 0 0) (.int .i64 0) W1:=by
  refine ⟨0,none,0,none,0,Int.le_refl _,Int.natCast_nonneg _,rfl,hb1,hr1,?_,?_,?_,?_,?_,?_⟩
  ·rw [hV0,hR0];exact hk1
  ·rw [hV0];exact ⟨Nat.le_refl _,fun _=>⟨rfl,rfl⟩⟩
  ·rw [hR0];exact ⟨Nat.le_refl _,fun _=>⟨rfl,rfl⟩⟩
  ·rw [hV0];exact F_nil _ _ _
  ·rw [hR0];exact F_nil _ _ _
  ·rw [hN0];exact N_nil _ _ _ _ _
 have H0:=Sd.m H0
 have H1:=Sd.m h1
 have HK3:=Sd.m hk3
 have HLV:=Sd.m hLV
 have HHAS:=Sd.m hhas
 clear hLV hhas
 have HNA:=Sd.m hNA
 have HNBF:=Sd.m hNB
 have HNMS:=Sd.m hNM
 clear hNA hNB hNM
 have HL:=Sd.m hl
 have HW1:=Sd.m hW1
 clear ea hb1 hr1 hk1 hW1 h1 hk3 hl hV0 hR0 hN0
 go_enter Tryz.func71,Tryz.ntmps71
 go_wp2_with fail
 rw [←HW1.out]
 go_loopw [6,7,8,9] (fun t6 t7 _ _ Wx=>BuO W l LV LR NM t6 t7 Wx) (fun _ t7 _ _ _=>(l.length - intOf t7).toNat)
 case atStart=>exact H0.out
 case round=>
  obtain ⟨k,AV,cv,AR,cr,hk0,hk,rfl,hb,hbr,hbk,hcv,hcr,hFV,hFR,hNM⟩:=hrel
  obtain ⟨An,cn,rfl⟩:=N_slice hNM
  have hNL:=fun j hj=>N_lt hNM j hj
  have hNB:=fun j hj=>N_base hNM j hj
  have HB:=Sd.m hb
  have HBR:=Sd.m hbr
  have HBK:=Sd.m hbk
  have HFV:=Sd.m hFV
  have HFR:=Sd.m hFR
  have HNM:=Sd.m hNM
  have HNL:=Sd.m hNL
  have HNB:=Sd.m hNB
  clear hb hbr hbk hFV hFR hNM hNL hNB
  by_cases hlt:k<(l.length:Int)
  ·obtain ⟨ad,A8,c8,A13,c13,rfl,k0,k1,k2,k3,k4,k5,k6,k7,k8,k9,k10,k11,k12,k13,k14,l8,g8,l13,g13⟩:=at_T87 (Kd.C_below HL.out HB.out) k hk0 hlt
   have hlt0:=dt__ hlt
   obtain ⟨Vd,hVd⟩: ∃ W_,W_=wr.drew:=⟨_,rfl⟩
   have hbd:Below wr.heap.size wr Vd:=by rw [hVd];exact cb_ (Below.refl _ _)
   have HBD:=Sd.m (HB.out.trans (hbd.mono HB.out.size))
   have S19: ∀ w',Below Vd.heap.size Vd w'->w'.cell? ⟨W.heap.size+1,0,none⟩=some (.slice AV (LV k).length cv)∧w'.cell? ⟨W.heap.size+1,1,none⟩=some (.slice AR (LR k).length cr)∧w'.cell? ⟨W.heap.size+1,2,none⟩=some (.slice none 0 0)∧w'.cell? ⟨W.heap.size+1,3,none⟩=some (.slice none 0 0)∧w'.cell? (ad.add (k.toNat*15))=some (.int .i64 (al_ l k).f0)∧w'.cell? ⟨(ad.add (k.toNat*15)).block,(ad.add (k.toNat*15)).off+1,none⟩=some (.string (al_ l k).f1)∧w'.cell? ⟨(ad.add (k.toNat*15)).block,(ad.add (k.toNat*15)).off+2,none⟩=some (.int .i64 (al_ l k).f2)∧w'.cell? ⟨(ad.add (k.toNat*15)).block,(ad.add (k.toNat*15)).off+3,none⟩=some (.bool (al_ l k).f3)∧w'.cell? ⟨(ad.add (k.toNat*15)).block,(ad.add (k.toNat*15)).off+4,none⟩=some (.int .i64 (al_ l k).f4.f0)∧w'.cell? ⟨(ad.add (k.toNat*15)).block,(ad.add (k.toNat*15)).off+5,none⟩=some (.string (al_ l k).f4.f1)∧w'.cell? ⟨(ad.add (k.toNat*15)).block,(ad.add (k.toNat*15)).off+6,none⟩=some (.int .i64 (al_ l k).f4.f2)∧w'.cell? ⟨(ad.add (k.toNat*15)).block,(ad.add (k.toNat*15)).off+7,none⟩=some (.int .i64 (al_ l k).f4.f3)∧w'.cell? ⟨(ad.add (k.toNat*15)).block,(ad.add (k.toNat*15)).off+8,none⟩=some (.slice A8 (al_ l k).f4.f4.length c8)∧w'.cell? ⟨(ad.add (k.toNat*15)).block,(ad.add (k.toNat*15)).off+9,none⟩=some (.int .i64 (al_ l k).f5.f0)∧w'.cell? ⟨(ad.add (k.toNat*15)).block,(ad.add (k.toNat*15)).off+10,none⟩=some (.string (al_ l k).f5.f1)∧w'.cell? ⟨(ad.add (k.toNat*15)).block,(ad.add (k.toNat*15)).off+11,none⟩=some (.int .i64 (al_ l k).f5.f2)∧w'.cell? ⟨(ad.add (k.toNat*15)).block,(ad.add (k.toNat*15)).off+12,none⟩=some (.int .i64 (al_ l k).f5.f3)∧w'.cell? ⟨(ad.add (k.toNat*15)).block,(ad.add (k.toNat*15)).off+13,none⟩=some (.slice A13 (al_ l k).f5.f4.length c13)∧w'.cell? ⟨(ad.add (k.toNat*15)).block,(ad.add (k.toNat*15)).off+14,none⟩=some (.int .i64 (al_ l k).f6):=by
    intro w' hw'
    have hq:=hbd.trans (hw'.mono hbd.size)
    have a1:=af_ HBK.out hq
    have cw:=fun (p:Addr) (v:Value) (h:wr.cell? p=some v)=>(hq.cell (bl__ wr _ h)).trans h
    exact ⟨(ae_ a1 0).trans rfl,(ae_ a1 1).trans rfl,(ae_ a1 2).trans rfl,(ae_ a1 3).trans rfl,cw _ _ k0,cw _ _ k1,cw _ _ k2,cw _ _ k3,cw _ _ k4,cw _ _ k5,cw _ _ k6,cw _ _ k7,cw _ _ k8,cw _ _ k9,cw _ _ k10,cw _ _ k11,cw _ _ k12,cw _ _ k13,cw _ _ k14⟩
   have HS19:=Sd.m S19
   have BD:=Sd.m (Below.refl Vd.heap.size Vd)
   have ONE:Sd (∀ Wj,Below Vd.heap.size Vd Wj->Calls Tryz.prog 105 #[.agg #[.slice AV (LV k).length cv,.slice AR (LR k).length cr,.slice none 0 0,.slice none 0 0],.agg #[.int .i64 (al_ l k).f0,.string (al_ l k).f1,.int .i64 (al_ l k).f2,.bool (al_ l k).f3,.int .i64 (al_ l k).f4.f0,.string (al_ l k).f4.f1,.int .i64 (al_ l k).f4.f2,.int .i64 (al_ l k).f4.f3,.slice A8 (al_ l k).f4.f4.length c8,.int .i64 (al_ l k).f5.f0,.string (al_ l k).f5.f1,.int .i64 (al_ l k).f5.f2,.int .i64 (al_ l k).f5.f3,.slice A13 (al_ l k).f5.f4.length c13,.int .i64 (al_ l k).f6]] Wj fun e w'=> ∃ A1 c1 A2 c2,e=.returned (.tuple #[.agg #[.slice A1 (LV (k+1)).length c1,.slice A2 (LR (k+1)).length c2,.slice none 0 0,.slice none 0 0],.int .i64 0])∧Cap A1 (LV (k+1)).length c1∧Kd.F k93 w' (fun j=>((W.heap.size+2<=j∧some j≠(Value.slice An (NM k).length cn).ownBlock)∧j<Vd.heap.size)∨Wj.heap.size<=j) A1 (LV (k+1)).length (LV (k+1))∧Cap A2 (LR (k+1)).length c2∧Kd.F k55 w' (fun j=>((W.heap.size+2<=j∧some j≠(Value.slice An (NM k).length cn).ownBlock)∧j<Vd.heap.size)∨Wj.heap.size<=j) A2 (LR (k+1)).length (LR (k+1))∧Below Wj.heap.size Wj w'):=by
    refine ⟨fun Wj hj=>?_⟩
    have hq:=hbd.trans (hj.mono hbd.size)
    have hqW:=HB.out.trans (hq.mono HB.out.size)
    refine (H1.out k hk0 hlt Wj (fun j=>(W.heap.size+2<=j∧some j≠(Value.slice An (NM k).length cn).ownBlock)∧j<Vd.heap.size) AV cv AR cr A8 c8 A13 c13 hqW hcv (F_mono (F_below (F_bound HFV.out) hq) (fun j hj=>⟨hj.1,Nat.lt_of_lt_of_le hj.2 hbd.size⟩)) hcr (F_mono (F_below (F_bound HFR.out) hq) (fun j hj=>⟨hj.1,Nat.lt_of_lt_of_le hj.2 hbd.size⟩)) l8 (Kd.C_below g8 hq) l13 (Kd.C_below g13 hq)).mono ?_
    rintro e w' ⟨A1,c1,A2,c2,he,h1,hF1,h2,hF2,hb⟩
    exact ⟨A1,c1,A2,c2,he,h1,F_mono hF1 (fun j hj=>Or.elim hj (fun h=>Or.inl h.1) Or.inr),h2,F_mono hF2 (fun j hj=>Or.elim hj (fun h=>Or.inl h.1) Or.inr),hb⟩
   have HBDR:=Sd.m hbd
   have HNV:Sd (∀ j,(Value.slice An (NM k).length cn).ownBlock=some j->j<Vd.heap.size):=⟨fun j hj=>Nat.lt_of_lt_of_le (HNL.out j hj) hbd.size⟩
   have HG8:=Sd.m (And.intro l8 g8)
   have HG13:=Sd.m (And.intro l13 g13)
   have HZ2:=Sd.m (show W.heap.size+2<=Vd.heap.size from Nat.le_trans (bx_ HBK.out) hbd.size)
   clear S19 hbd k0 k1 k2 k3 k4 k5 k6 k7 k8 k9 k10 k11 k12 k13 k14 l8 g8 l13 g13
   go_upto_region 6 with fail
   -- REGION 6
   refine start_ (n:=12) (S:=fun w'=>w'.cell? ⟨W.heap.size+1,0,none⟩=some (.slice AV (LV k).length cv)∧w'.cell? ⟨W.heap.size+1,1,none⟩=some (.slice AR (LR k).length cr)∧w'.cell? ⟨W.heap.size+1,2,none⟩=some (.slice none 0 0)∧w'.cell? ⟨W.heap.size+1,3,none⟩=some (.slice none 0 0)∧w'.cell? (ad.add (k.toNat*15))=some (.int .i64 (al_ l k).f0)∧w'.cell? ⟨(ad.add (k.toNat*15)).block,(ad.add (k.toNat*15)).off+1,none⟩=some (.string (al_ l k).f1)∧w'.cell? ⟨(ad.add (k.toNat*15)).block,(ad.add (k.toNat*15)).off+2,none⟩=some (.int .i64 (al_ l k).f2)∧w'.cell? ⟨(ad.add (k.toNat*15)).block,(ad.add (k.toNat*15)).off+3,none⟩=some (.bool (al_ l k).f3)∧w'.cell? ⟨(ad.add (k.toNat*15)).block,(ad.add (k.toNat*15)).off+4,none⟩=some (.int .i64 (al_ l k).f4.f0)∧w'.cell? ⟨(ad.add (k.toNat*15)).block,(ad.add (k.toNat*15)).off+5,none⟩=some (.string (al_ l k).f4.f1)∧w'.cell? ⟨(ad.add (k.toNat*15)).block,(ad.add (k.toNat*15)).off+6,none⟩=some (.int .i64 (al_ l k).f4.f2)∧w'.cell? ⟨(ad.add (k.toNat*15)).block,(ad.add (k.toNat*15)).off+7,none⟩=some (.int .i64 (al_ l k).f4.f3)∧w'.cell? ⟨(ad.add (k.toNat*15)).block,(ad.add (k.toNat*15)).off+8,none⟩=some (.slice A8 (al_ l k).f4.f4.length c8)∧w'.cell? ⟨(ad.add (k.toNat*15)).block,(ad.add (k.toNat*15)).off+9,none⟩=some (.int .i64 (al_ l k).f5.f0)∧w'.cell? ⟨(ad.add (k.toNat*15)).block,(ad.add (k.toNat*15)).off+10,none⟩=some (.string (al_ l k).f5.f1)∧w'.cell? ⟨(ad.add (k.toNat*15)).block,(ad.add (k.toNat*15)).off+11,none⟩=some (.int .i64 (al_ l k).f5.f2)∧w'.cell? ⟨(ad.add (k.toNat*15)).block,(ad.add (k.toNat*15)).off+12,none⟩=some (.int .i64 (al_ l k).f5.f3)∧w'.cell? ⟨(ad.add (k.toNat*15)).block,(ad.add (k.toNat*15)).off+13,none⟩=some (.slice A13 (al_ l k).f5.f4.length c13)∧w'.cell? ⟨(ad.add (k.toNat*15)).block,(ad.add (k.toNat*15)).off+14,none⟩=some (.int .i64 (al_ l k).f6)) (ds:=[10]) #[false,false,false,false,false,false,false,false,false,false,false,false] (by kernel_rfl) rfl rfl (by rw [←hVd];exact (HS19.out _ (Below.refl _ _))) (fun hHeld=>?_)
   rw [←hVd] at hHeld ⊢
   clear hVd
   refine pu_ 1 19 ?_
   refine pu_ 2 20 ?_
   refine pu_ 3 21 ?_
   refine ta_ 0 18 hHeld ?_
   refine ta_ 4 22 hHeld ?_
   refine join_ (σ:=(Option Addr × Nat) × (Option Addr × Nat) × Nat) 2 #[true,true,true,true,true,true,true,true,true,true,false,false] (fun s=>[(23,.tuple #[.agg #[.slice s.1.1 (LV (k+1)).length s.1.2,.slice s.2.1.1 (LR (k+1)).length s.2.1.2,.slice none 0 0,.slice none 0 0],.int .i64 0]),(17,.tuple #[.agg #[.slice s.1.1 (LV (k+1)).length s.1.2,.slice s.2.1.1 (LR (k+1)).length s.2.1.2,.slice none 0 0,.slice none 0 0],.int .i64 0]),(24,.agg #[.slice s.1.1 (LV (k+1)).length s.1.2,.slice s.2.1.1 (LR (k+1)).length s.2.1.2,.slice none 0 0,.slice none 0 0]),(25,.int .i64 0),(8,.pointer (some ⟨s.2.2,0,none⟩))]) (fun s w'=>(w'.cell? ⟨W.heap.size+1,0,none⟩=some (.slice AV (LV k).length cv)∧w'.cell? ⟨W.heap.size+1,1,none⟩=some (.slice AR (LR k).length cr)∧w'.cell? ⟨W.heap.size+1,2,none⟩=some (.slice none 0 0)∧w'.cell? ⟨W.heap.size+1,3,none⟩=some (.slice none 0 0)∧w'.cell? (ad.add (k.toNat*15))=some (.int .i64 (al_ l k).f0)∧w'.cell? ⟨(ad.add (k.toNat*15)).block,(ad.add (k.toNat*15)).off+1,none⟩=some (.string (al_ l k).f1)∧w'.cell? ⟨(ad.add (k.toNat*15)).block,(ad.add (k.toNat*15)).off+2,none⟩=some (.int .i64 (al_ l k).f2)∧w'.cell? ⟨(ad.add (k.toNat*15)).block,(ad.add (k.toNat*15)).off+3,none⟩=some (.bool (al_ l k).f3)∧w'.cell? ⟨(ad.add (k.toNat*15)).block,(ad.add (k.toNat*15)).off+4,none⟩=some (.int .i64 (al_ l k).f4.f0)∧w'.cell? ⟨(ad.add (k.toNat*15)).block,(ad.add (k.toNat*15)).off+5,none⟩=some (.string (al_ l k).f4.f1)∧w'.cell? ⟨(ad.add (k.toNat*15)).block,(ad.add (k.toNat*15)).off+6,none⟩=some (.int .i64 (al_ l k).f4.f2)∧w'.cell? ⟨(ad.add (k.toNat*15)).block,(ad.add (k.toNat*15)).off+7,none⟩=some (.int .i64 (al_ l k).f4.f3)∧w'.cell? ⟨(ad.add (k.toNat*15)).block,(ad.add (k.toNat*15)).off+8,none⟩=some (.slice A8 (al_ l k).f4.f4.length c8)∧w'.cell? ⟨(ad.add (k.toNat*15)).block,(ad.add (k.toNat*15)).off+9,none⟩=some (.int .i64 (al_ l k).f5.f0)∧w'.cell? ⟨(ad.add (k.toNat*15)).block,(ad.add (k.toNat*15)).off+10,none⟩=some (.string (al_ l k).f5.f1)∧w'.cell? ⟨(ad.add (k.toNat*15)).block,(ad.add (k.toNat*15)).off+11,none⟩=some (.int .i64 (al_ l k).f5.f2)∧w'.cell? ⟨(ad.add (k.toNat*15)).block,(ad.add (k.toNat*15)).off+12,none⟩=some (.int .i64 (al_ l k).f5.f3)∧w'.cell? ⟨(ad.add (k.toNat*15)).block,(ad.add (k.toNat*15)).off+13,none⟩=some (.slice A13 (al_ l k).f5.f4.length c13)∧w'.cell? ⟨(ad.add (k.toNat*15)).block,(ad.add (k.toNat*15)).off+14,none⟩=some (.int .i64 (al_ l k).f6))∧Cap s.1.1 (LV (k+1)).length s.1.2∧Kd.F k93 w' (fun j=>(W.heap.size+2<=j∧some j≠(Value.slice An (NM k).length cn).ownBlock)∧j≠s.2.2) s.1.1 (LV (k+1)).length (LV (k+1))∧Cap s.2.1.1 (LR (k+1)).length s.2.1.2∧Kd.F k55 w' (fun j=>(W.heap.size+2<=j∧some j≠(Value.slice An (NM k).length cn).ownBlock)∧j≠s.2.2) s.2.1.1 (LR (k+1)).length (LR (k+1))∧w'.heap[s.2.2]? =some (.cells #[.slice none 0 0,.slice none 0 0,.slice none 0 0,.slice none 0 0] 27 (0,0))∧Vd.heap.size<=s.2.2∧Below Vd.heap.size Vd w') ?_ ?_
   rotate_left
   ·intro hCont
    refine two_ (i:=5) (j:=9) (Ni:=some 23) (Nj:=some 8) #[true,true,true,true,true,true,false,false,false,false,false,false] #[true,true,true,true,true,false,false,false,false,true,false,false] rfl rfl rfl rfl (by kernel_rfl) (by decide) (by decide) (fun K hK=>?_) (fun K hK=>?_)
    ·skip
     refine goes_ Tryz.func105 (by kernel_rfl) rfl #[.agg #[.slice AV (LV k).length cv,.slice AR (LR k).length cr,.slice none 0 0,.slice none 0 0],.agg #[.int .i64 (al_ l k).f0,.string (al_ l k).f1,.int .i64 (al_ l k).f2,.bool (al_ l k).f3,.int .i64 (al_ l k).f4.f0,.string (al_ l k).f4.f1,.int .i64 (al_ l k).f4.f2,.int .i64 (al_ l k).f4.f3,.slice A8 (al_ l k).f4.f4.length c8,.int .i64 (al_ l k).f5.f0,.string (al_ l k).f5.f1,.int .i64 (al_ l k).f5.f2,.int .i64 (al_ l k).f5.f3,.slice A13 (al_ l k).f5.f4.length c13,.int .i64 (al_ l k).f6]] (by rfl) rfl rfl (by simp only [List.map_toArray,List.map_cons,List.map_nil];rfl) ?_
     with_reducible refine (ONE.out Vd BD.out).mono ?_
     rintro e_ Wq1 ⟨A1,c1,A2,c2,rfl,hl1,hF1,hl2,hF2,hb_⟩
     refine ⟨_,rfl,?_⟩
     have hB_:Below Vd.heap.size Vd Wq1:=BD.out.trans (hb_.mono BD.out.size)
     have BWq1:=Sd.m hB_
     have HLL:=Sd.m (And.intro hl1 hl2)
     have HF1:=Sd.m hF1
     have HF2:=Sd.m hF2
     clear hl1 hl2 hF1 hF2 hb_ hB_
     refine hK.out _ _ (HS19.out _ BWq1.out) (fun hHeld=>?_)
     clear hK K
     refine no_ 23 ?_
     refine pu_ 6 17 ?_
     refine pu_ 7 24 ?_
     refine pu_ 8 25 ?_
     refine on_ 9 8 (fun K hK=>?_)
     refine value_ (w1:=?_) (v:=?_) (by rfl) rfl ?_ ?_
     rotate_left 2
     ·go_simp
      constructor
      ·rfl
      ·rfl
     have hT:=ah_ Wq1 (.cells #[.slice none 0 0,.slice none 0 0,.slice none 0 0,.slice none 0 0] 27)
     have hb_:=ab_ (Below.refl Wq1.heap.size Wq1) (.cells #[.slice none 0 0,.slice none 0 0,.slice none 0 0,.slice none 0 0] 27)
     have hs_:(Wq1.alloc (.cells #[.slice none 0 0,.slice none 0 0,.slice none 0 0,.slice none 0 0] 27)).heap.size=Wq1.heap.size+1:=Array.size_push _
     have ok_: ∀ j,((((W.heap.size+2<=j∧some j≠(Value.slice An (NM k).length cn).ownBlock)∧j<Vd.heap.size)∨Vd.heap.size<=j)∧j<Wq1.heap.size)->((W.heap.size+2<=j∧some j≠(Value.slice An (NM k).length cn).ownBlock)∧j≠Wq1.heap.size):=fun j hj=>by have h3_:=HZ2.out;exact Or.elim hj.1 (fun hk=>⟨hk.1,Nat.ne_of_lt hj.2⟩) (fun hk=>⟨⟨by omega,fun he=>by have:=HNV.out j he.symm;omega⟩,Nat.ne_of_lt hj.2⟩)
     have hF1:=F_mono (F_below (F_bound HF1.out) hb_) ok_
     have hF2:=F_mono (F_below (F_bound HF2.out) hb_) ok_
     clear ok_
     have hB_:Below Vd.heap.size Vd _:=BWq1.out.trans (hb_.mono BWq1.out.size)
     generalize Wq1.alloc (.cells #[.slice none 0 0,.slice none 0 0,.slice none 0 0,.slice none 0 0] 27)=Wq2 at hT hb_ hs_ hB_ hF1 hF2 ⊢
     have HT:=Sd.m hT
     have BWq2:=Sd.m hB_
     have SZ2:=Sd.m hs_
     clear HF1 HF2
     have HF1:=Sd.m hF1
     have HF2:=Sd.m hF2
     clear hF1 hF2
     clear hT hb_ hB_ hs_
     refine hK.out _ _ (HS19.out _ BWq2.out) (fun hHeld=>?_)
     clear hK K
     refine no_ 8 ?_
     refine norm_ ?_ (hCont ((A1,c1),(A2,c2),Wq1.heap.size) _ ?_)
     ·first | (simp only [putAll,Act.put,List.setIfInBounds_toArray,List.set_cons_zero,List.set_cons_succ];done) | (simp only [putAll,Act.put,List.setIfInBounds_toArray,List.set_cons_zero,List.set_cons_succ];rfl)
     exact ⟨hHeld,HLL.out.1,HF1.out,HLL.out.2,HF2.out,HT.out,by exact BWq1.out.size,BWq2.out⟩
    ·skip
     refine value_ (w1:=?_) (v:=?_) (by rfl) rfl ?_ ?_
     rotate_left 2
     ·go_simp
      constructor
      ·rfl
      ·rfl
     have hT:=ah_ Vd (.cells #[.slice none 0 0,.slice none 0 0,.slice none 0 0,.slice none 0 0] 27)
     have hb_:=ab_ (Below.refl Vd.heap.size Vd) (.cells #[.slice none 0 0,.slice none 0 0,.slice none 0 0,.slice none 0 0] 27)
     have hs_:(Vd.alloc (.cells #[.slice none 0 0,.slice none 0 0,.slice none 0 0,.slice none 0 0] 27)).heap.size=Vd.heap.size+1:=Array.size_push _
     have hB_:Below Vd.heap.size Vd _:=BD.out.trans (hb_.mono BD.out.size)
     generalize Vd.alloc (.cells #[.slice none 0 0,.slice none 0 0,.slice none 0 0,.slice none 0 0] 27)=Wq1 at hT hb_ hs_ hB_ ⊢
     have HT:=Sd.m hT
     have BWq1:=Sd.m hB_
     have SZ1:=Sd.m hs_
     clear hT hb_ hB_ hs_
     refine hK.out _ _ (HS19.out _ BWq1.out) (fun hHeld=>?_)
     clear hK K
     refine no_ 8 ?_
     refine on_ 5 23 (fun K hK=>?_)
     refine goes_ Tryz.func105 (by kernel_rfl) rfl #[.agg #[.slice AV (LV k).length cv,.slice AR (LR k).length cr,.slice none 0 0,.slice none 0 0],.agg #[.int .i64 (al_ l k).f0,.string (al_ l k).f1,.int .i64 (al_ l k).f2,.bool (al_ l k).f3,.int .i64 (al_ l k).f4.f0,.string (al_ l k).f4.f1,.int .i64 (al_ l k).f4.f2,.int .i64 (al_ l k).f4.f3,.slice A8 (al_ l k).f4.f4.length c8,.int .i64 (al_ l k).f5.f0,.string (al_ l k).f5.f1,.int .i64 (al_ l k).f5.f2,.int .i64 (al_ l k).f5.f3,.slice A13 (al_ l k).f5.f4.length c13,.int .i64 (al_ l k).f6]] (by rfl) rfl rfl (by simp only [List.map_toArray,List.map_cons,List.map_nil];rfl) ?_
     with_reducible refine (ONE.out Wq1 BWq1.out).mono ?_
     rintro e_ Wq2 ⟨A1,c1,A2,c2,rfl,hl1,hF1,hl2,hF2,hb_⟩
     refine ⟨_,rfl,?_⟩
     have hB_:Below Vd.heap.size Vd Wq2:=BWq1.out.trans (hb_.mono BWq1.out.size)
     have hT_:=af_ HT.out hb_
     clear HT
     have HT:=Sd.m hT_
     clear hT_
     have BWq2:=Sd.m hB_
     have HLL:=Sd.m (And.intro hl1 hl2)
     have ok_: ∀ j,(((W.heap.size+2<=j∧some j≠(Value.slice An (NM k).length cn).ownBlock)∧j<Vd.heap.size)∨Wq1.heap.size<=j)->((W.heap.size+2<=j∧some j≠(Value.slice An (NM k).length cn).ownBlock)∧j≠Vd.heap.size):=fun j hj=>by have h1_:=SZ1.out;have h3_:=HZ2.out;exact Or.elim hj (fun hj=>⟨hj.1,Nat.ne_of_lt hj.2⟩) (fun hj=>⟨⟨by omega,fun he=>by have:=HNV.out j he.symm;omega⟩,by omega⟩)
     have HF1:=Sd.m (F_mono hF1 ok_)
     have HF2:=Sd.m (F_mono hF2 ok_)
     clear ok_
     clear hl1 hl2 hF1 hF2 hb_ hB_
     refine hK.out _ _ (HS19.out _ BWq2.out) (fun hHeld=>?_)
     clear hK K
     refine no_ 23 ?_
     refine pu_ 6 17 ?_
     refine pu_ 7 24 ?_
     refine pu_ 8 25 ?_
     refine norm_ ?_ (hCont ((A1,c1),(A2,c2),Vd.heap.size) _ ?_)
     ·first | (simp only [putAll,Act.put,List.setIfInBounds_toArray,List.set_cons_zero,List.set_cons_succ];done) | (simp only [putAll,Act.put,List.setIfInBounds_toArray,List.set_cons_zero,List.set_cons_succ];rfl)
     exact ⟨hHeld,HLL.out.1,HF1.out,HLL.out.2,HF2.out,HT.out,by exact Nat.le_refl _,BWq2.out⟩
   rintro ⟨⟨A1,c1⟩,⟨A2,c2⟩,g8⟩ Wj ⟨hHeld,hl1,hF1,hl2,hF2,hT,hg8,hbj⟩
   dsimp only at hl1 hF1 hl2 hF2 hT hg8
   dsimp only [putAll]
   have n0:=bc_ hT 0 rfl
   have n1:=bc_ hT 1 rfl
   have n2:=bc_ hT 2 rfl
   have n3:=bc_ hT 3 rfl
   have m0:=aa_ hT 0
   have m1:=aa_ hT 1
   have m2:=aa_ hT 2
   have m3:=aa_ hT 3
   have HF1:=Sd.m hF1
   have HF2:=Sd.m hF2
   have HT:=Sd.m hT
   have HBJ:=Sd.m hbj
   have HG8_:=Sd.m hg8
   clear hF1 hF2 hT hbj hg8
   refine norm_ (a':=?_) ?_ ?_
   rotate_left
   ·simp only [putAll,Act.put,List.setIfInBounds_toArray,List.set_cons_zero,List.set_cons_succ]
    rfl
   refine last_ (i:=10) (N:=none) #[true,true,true,true,true,true,true,true,true,true,true,false] rfl rfl (by kernel_rfl) (by decide) (fun K hK=>?_)
   refine skip_ (w1:=?_) (by rfl) rfl ?_ ?_
   rotate_left
   ·go_simp
    rfl
   refine hK.out _ _ ?_
   clear hK K
   refine pu_ 11 9 ?_
   refine done_ (by kernel_rfl) ?_
   obtain ⟨Wa,hWa⟩: ∃ W_,W_=putL Wj g8 0 [.slice A1 (LV (k+1)).length c1,.slice A2 (LR (k+1)).length c2,.slice none 0 0,.slice none 0 0]:=⟨_,rfl⟩
   have hg8:=HG8_.out
   have hz2:=HZ2.out
   have hbA:Below Vd.heap.size Vd Wa:=by rw [hWa];exact ce_ hg8 _ Wj 0 HBJ.out
   have hta:Wa.heap[g8]? =some (.cells #[.slice A1 (LV (k+1)).length c1,.slice A2 (LR (k+1)).length c2,.slice none 0 0,.slice none 0 0] 27 (0,0)):=by rw [hWa];exact cm_ _ Wj 0 _ HT.out
   have hF1a:Kd.F k93 Wa (fun j=>W.heap.size+2<=j∧some j≠(Value.slice An (NM k).length cn).ownBlock) A1 (LV (k+1)).length (LV (k+1)):=by rw [hWa];exact F_mono (ca_ (n:=g8) (fun j hj=>hj.2) _ Wj 0 HF1.out) (fun j hj=>hj.1)
   have hF2a:Kd.F k55 Wa (fun j=>W.heap.size+2<=j∧some j≠(Value.slice An (NM k).length cn).ownBlock) A2 (LR (k+1)).length (LR (k+1)):=by rw [hWa];exact F_mono (ca_ (n:=g8) (fun j hj=>hj.2) _ Wj 0 HF2.out) (fun j hj=>hj.1)
   have hqa:=HBDR.out.trans (hbA.mono HBDR.out.size)
   have hka:=af_ HBK.out hqa
   have hra:=af_ HBR.out hqa
   have hna:=N_below HNM.out hqa
   obtain ⟨Wb,hWb⟩: ∃ W_,W_=putL Wa (W.heap.size+1) 0 [.slice A1 (LV (k+1)).length c1,.slice A2 (LR (k+1)).length c2,.slice none 0 0,.slice none 0 0]:=⟨_,rfl⟩
   have hkb:Wb.heap[W.heap.size+1]? =some (.cells #[.slice A1 (LV (k+1)).length c1,.slice A2 (LR (k+1)).length c2,.slice none 0 0,.slice none 0 0] 27 (0,0)):=by rw [hWb];exact cm_ _ Wa 0 _ hka
   have hrb:Wb.heap[W.heap.size]? =some (.cells #[.slice none 0 0,.slice none 0 0,.slice none 0 0,.slice none 0 0] 27 (0,0)):=by rw [hWb];exact ec_ (n:=W.heap.size+1) (by omega) _ Wa 0 hra
   have hF1b:Kd.F k93 Wb (fun j=>W.heap.size+2<=j∧some j≠(Value.slice An (NM k).length cn).ownBlock) A1 (LV (k+1)).length (LV (k+1)):=by rw [hWb];exact ca_ (n:=W.heap.size+1) (fun j hj=>by have:=hj.1;omega) _ Wa 0 hF1a
   have hF2b:Kd.F k55 Wb (fun j=>W.heap.size+2<=j∧some j≠(Value.slice An (NM k).length cn).ownBlock) A2 (LR (k+1)).length (LR (k+1)):=by rw [hWb];exact ca_ (n:=W.heap.size+1) (fun j hj=>by have:=hj.1;omega) _ Wa 0 hF2a
   have hbB:Below W.heap.size W Wb:=by rw [hWb];exact ce_ (n:=W.heap.size+1) (by omega) _ Wa 0 (HB.out.trans (hqa.mono HB.out.size))
   replace hWa:Wa=(((Wj.setCell ⟨g8,0,none⟩ (.slice A1 (LV (k+1)).length c1)).setCell ⟨g8,1,none⟩ (.slice A2 (LR (k+1)).length c2)).setCell ⟨g8,2,none⟩ (.slice none 0 0)).setCell ⟨g8,3,none⟩ (.slice none 0 0):=hWa
   replace hWb:Wb=(((Wa.setCell ⟨W.heap.size+1,0,none⟩ (.slice A1 (LV (k+1)).length c1)).setCell ⟨W.heap.size+1,1,none⟩ (.slice A2 (LR (k+1)).length c2)).setCell ⟨W.heap.size+1,2,none⟩ (.slice none 0 0)).setCell ⟨W.heap.size+1,3,none⟩ (.slice none 0 0):=hWb
   have okn: ∀ j,W.heap.size+2<=j->j≠W.heap.size+1:=fun j hj=>by omega
   have hnb:Kd.N Kd.string 9 Wb (W.heap.size+2) (fun j=>W.heap.size+2<=j) (.slice An (NM k).length cn) (NM k):=by
    rw [hWb]
    exact N_far (p:=⟨W.heap.size+1,3,none⟩) (N_far (p:=⟨W.heap.size+1,2,none⟩) (N_far (p:=⟨W.heap.size+1,1,none⟩) (N_far (p:=⟨W.heap.size+1,0,none⟩) hna okn _) okn _) okn _) okn _
   have q0:=bc_ hta 0 rfl
   have s0:=bc_ hka 0 rfl
   have z0:=aa_ hka 0
   have q1:=bc_ hta 1 rfl
   have s1:=bc_ hka 1 rfl
   have z1:=aa_ hka 1
   have q2:=bc_ hta 2 rfl
   have s2:=bc_ hka 2 rfl
   have z2:=aa_ hka 2
   have q3:=bc_ hta 3 rfl
   have s3:=bc_ hka 3 rfl
   have z3:=aa_ hka 3
   have HWA:=Sd.m hWa
   have HWB:=Sd.m hWb
   have HKB:=Sd.m hkb
   have HRB:=Sd.m hrb
   have HF1B:=Sd.m hF1b
   have HF2B:=Sd.m hF2b
   have HBB:=Sd.m hbB
   have HNB2:=Sd.m hnb
   clear n0 n1 n2 n3 m0 m1 m2 m3 hWa hWb hkb hrb hF1b hF2b hbB hnb hg8 hz2 hbA hta hF1a hF2a hqa hka hra hna okn HF1 HF2 HT HBJ HG8_ HFV HFR
   go_upto_region 9 with fail
   rw [←HWA.out]
   go_upto_region 10 with fail
   rw [←HWB.out]
   obtain ⟨ad2,B8,e8,B13,e13,he,j0,j1,j2,j3,j4,j5,j6,j7,j8,j9,j10,j11,j12,j13,j14,l8,g8,l13,g13⟩:=at_T87 HL.out k hk0 hlt
   injection he with he
   subst he
   have cw:=fun (w:World) (hw:Below W.heap.size W w) (p:Addr) (v:Value) (h:W.cell? p=some v)=>(hw.cell (bl__ W _ h)).trans h
   have hk3:((al_ l k).f0 == 3)=false:=by simpa using HK3.out k hk0 hlt
   have i0:=cw Wb HBB.out _ _ j0
   obtain ⟨kA,hA⟩:=HNA.out k hk0 hlt
   obtain ⟨kB,hB⟩:=HNBF.out k hk0 hlt
   obtain ⟨hM,hM9⟩:=HNMS.out k hk0 hlt
   have HM:=Sd.m hM
   have hM1:(NM k).length+(NA k).length+(NB k).length<=1000:=by rw [hM] at hM9;simp only [List.length_append] at hM9;omega
   have HM9:=Sd.m hM1
   have NMA:Sd (∀ w,Below W.heap.size W w->Calls Tryz.prog 106 #[.agg #[.int .i64 (al_ l k).f4.f0,.string (al_ l k).f4.f1,.int .i64 (al_ l k).f4.f2,.int .i64 (al_ l k).f4.f3,.slice B8 (al_ l k).f4.f4.length e8]] w fun e w'=> ∃ B1 m1,e=.returned (.slice B1 (NA k).length m1)∧Kd.F Kd.string w' (fun j=>w.heap.size<=j∧j<w'.heap.size) B1 (NA k).length (NA k)∧Below w.heap.size w w'):=⟨fun w hw=>jg_ kA _ B8 e8 _ w (Kd.C_below g8 hw) l8 hA⟩
   have NMB:Sd (∀ w,Below W.heap.size W w->Calls Tryz.prog 106 #[.agg #[.int .i64 (al_ l k).f5.f0,.string (al_ l k).f5.f1,.int .i64 (al_ l k).f5.f2,.int .i64 (al_ l k).f5.f3,.slice B13 (al_ l k).f5.f4.length e13]] w fun e w'=> ∃ B1 m1,e=.returned (.slice B1 (NB k).length m1)∧Kd.F Kd.string w' (fun j=>w.heap.size<=j∧j<w'.heap.size) B1 (NB k).length (NB k)∧Below w.heap.size w w'):=⟨fun w hw=>jg_ kB _ B13 e13 _ w (Kd.C_below g13 hw) l13 hB⟩
   have HS10:Sd (∀ w',Below W.heap.size W w'->w'.cell? ⟨(ad.add (k.toNat*15)).block,(ad.add (k.toNat*15)).off+4,none⟩=some (.int .i64 (al_ l k).f4.f0)∧w'.cell? ⟨(ad.add (k.toNat*15)).block,(ad.add (k.toNat*15)).off+5,none⟩=some (.string (al_ l k).f4.f1)∧w'.cell? ⟨(ad.add (k.toNat*15)).block,(ad.add (k.toNat*15)).off+6,none⟩=some (.int .i64 (al_ l k).f4.f2)∧w'.cell? ⟨(ad.add (k.toNat*15)).block,(ad.add (k.toNat*15)).off+7,none⟩=some (.int .i64 (al_ l k).f4.f3)∧w'.cell? ⟨(ad.add (k.toNat*15)).block,(ad.add (k.toNat*15)).off+8,none⟩=some (.slice B8 (al_ l k).f4.f4.length e8)∧w'.cell? ⟨(ad.add (k.toNat*15)).block,(ad.add (k.toNat*15)).off+9,none⟩=some (.int .i64 (al_ l k).f5.f0)∧w'.cell? ⟨(ad.add (k.toNat*15)).block,(ad.add (k.toNat*15)).off+10,none⟩=some (.string (al_ l k).f5.f1)∧w'.cell? ⟨(ad.add (k.toNat*15)).block,(ad.add (k.toNat*15)).off+11,none⟩=some (.int .i64 (al_ l k).f5.f2)∧w'.cell? ⟨(ad.add (k.toNat*15)).block,(ad.add (k.toNat*15)).off+12,none⟩=some (.int .i64 (al_ l k).f5.f3)∧w'.cell? ⟨(ad.add (k.toNat*15)).block,(ad.add (k.toNat*15)).off+13,none⟩=some (.slice B13 (al_ l k).f5.f4.length e13)):=⟨fun w' hw=>⟨cw w' hw _ _ j4,cw w' hw _ _ j5,cw w' hw _ _ j6,cw w' hw _ _ j7,cw w' hw _ _ j8,cw w' hw _ _ j9,cw w' hw _ _ j10,cw w' hw _ _ j11,cw w' hw _ _ j12,cw w' hw _ _ j13⟩⟩
   have NS:NmAt W Wb (Value.slice An (NM k).length cn).ownBlock A1 (LV (k+1)) A2 (LR (k+1)) #[.slice A1 (LV (k+1)).length c1,.slice A2 (LR (k+1)).length c2,.slice none 0 0,.slice none 0 0] Wb (.slice An (NM k).length cn) (NM k):=⟨HNB2.out,fun j hj=>Or.inl hj,Nat.le_refl _,F_bound HF1B.out,F_bound HF2B.out,HBB.out,HRB.out,HKB.out⟩
   obtain ⟨Ve,hVe⟩: ∃ W_,W_=Wb.drew:=⟨_,rfl⟩
   have NSE:=Sd.m (NS.below (show Below Wb.heap.size Wb Ve by rw [hVe];exact cb_ (Below.refl _ _)))
   clear j0 j1 j2 j3 j4 j5 j6 j7 j8 j9 j10 j11 j12 j13 j14 l8 g8 l13 g13 cw hA hB hM hM9 hM1 NS q0 s0 z0 q1 s1 z1 q2 s2 z2 q3 s3 z3
   go_upto_region 11 with fail
   clear i0 hk3
   refine start_ (n:=16) (S:=fun w'=>w'.cell? ⟨(ad.add (k.toNat*15)).block,(ad.add (k.toNat*15)).off+4,none⟩=some (.int .i64 (al_ l k).f4.f0)∧w'.cell? ⟨(ad.add (k.toNat*15)).block,(ad.add (k.toNat*15)).off+5,none⟩=some (.string (al_ l k).f4.f1)∧w'.cell? ⟨(ad.add (k.toNat*15)).block,(ad.add (k.toNat*15)).off+6,none⟩=some (.int .i64 (al_ l k).f4.f2)∧w'.cell? ⟨(ad.add (k.toNat*15)).block,(ad.add (k.toNat*15)).off+7,none⟩=some (.int .i64 (al_ l k).f4.f3)∧w'.cell? ⟨(ad.add (k.toNat*15)).block,(ad.add (k.toNat*15)).off+8,none⟩=some (.slice B8 (al_ l k).f4.f4.length e8)∧w'.cell? ⟨(ad.add (k.toNat*15)).block,(ad.add (k.toNat*15)).off+9,none⟩=some (.int .i64 (al_ l k).f5.f0)∧w'.cell? ⟨(ad.add (k.toNat*15)).block,(ad.add (k.toNat*15)).off+10,none⟩=some (.string (al_ l k).f5.f1)∧w'.cell? ⟨(ad.add (k.toNat*15)).block,(ad.add (k.toNat*15)).off+11,none⟩=some (.int .i64 (al_ l k).f5.f2)∧w'.cell? ⟨(ad.add (k.toNat*15)).block,(ad.add (k.toNat*15)).off+12,none⟩=some (.int .i64 (al_ l k).f5.f3)∧w'.cell? ⟨(ad.add (k.toNat*15)).block,(ad.add (k.toNat*15)).off+13,none⟩=some (.slice B13 (al_ l k).f5.f4.length e13)) (ds:=[]) #[false,false,false,false,false,false,false,false,false,false,false,false,false,false,false,false] (by kernel_rfl) rfl rfl (by rw [←hVe];exact (HS10.out _ NSE.out.B)) (fun hHeld=>?_)
   rw [←hVe] at hHeld ⊢
   clear hVe
   refine pu_ 0 42 ?_
   refine pu_ 1 43 ?_
   refine pu_ 2 44 ?_
   refine pu_ 3 45 ?_
   refine pu_ 4 46 ?_
   refine pu_ 8 50 ?_
   refine pu_ 9 51 ?_
   refine pu_ 10 52 ?_
   refine pu_ 11 53 ?_
   refine ta_ 5 47 hHeld ?_
   refine ta_ 12 54 hHeld ?_
   refine on_ 6 48 (fun K hK=>?_)
   refine goes_ Tryz.func106 (by kernel_rfl) rfl #[.agg #[.int .i64 (al_ l k).f4.f0,.string (al_ l k).f4.f1,.int .i64 (al_ l k).f4.f2,.int .i64 (al_ l k).f4.f3,.slice B8 (al_ l k).f4.f4.length e8]] (by rfl) rfl rfl (by simp only [List.map_toArray,List.map_cons,List.map_nil];rfl) ?_
   with_reducible refine (NMA.out _ NSE.out.B).mono ?_
   rintro e_ we ⟨yab,yam,rfl,hy_,hb_⟩
   refine ⟨_,rfl,?_⟩
   have hlt_:=fun j hj=>N_lt NSE.out.N j hj
   have hge_:W.heap.size+2<=_:=bx_ NSE.out.b
   have yaN:=Sd.m (NSE.out.below hb_)
   have yaY:=Sd.m hy_
   have yaO:Sd (∀ j,(_<=j∧j<we.heap.size)->W.heap.size+2<=j∧some j≠Value.ownBlock _):=⟨fun j hj=>⟨Nat.le_trans hge_ hj.1,fun he=>Nat.lt_irrefl j (Nat.lt_of_lt_of_le (hlt_ j he.symm) hj.1)⟩⟩
   clear hy_ hb_ hlt_ hge_
   refine hK.out _ _ (HS10.out _ yaN.out.B) (fun hHeld=>?_)
   clear hK K
   refine no_ 48 ?_
   refine on_ 7 49 (fun K hK=>?_)
   obtain ⟨C1,k1,wf,hrun_,hf_⟩:=yaN.out.app yab yam _ yaY.out yaO.out (by have:=HM9.out;omega)
   refine cl_ rfl (.tmp 42) (.tmp 48) 25 rfl _ _ rfl rfl hrun_ ?_
   have NSF:=Sd.m hf_
   clear hf_ hrun_
   refine hK.out _ _ (HS10.out _ NSF.out.B) (fun hHeld=>?_)
   clear hK K
   refine no_ 49 ?_
   refine on_ 13 55 (fun K hK=>?_)
   refine goes_ Tryz.func106 (by kernel_rfl) rfl #[.agg #[.int .i64 (al_ l k).f5.f0,.string (al_ l k).f5.f1,.int .i64 (al_ l k).f5.f2,.int .i64 (al_ l k).f5.f3,.slice B13 (al_ l k).f5.f4.length e13]] (by rfl) rfl rfl (by simp only [List.map_toArray,List.map_cons,List.map_nil];rfl) ?_
   with_reducible refine (NMB.out _ NSF.out.B).mono ?_
   rintro e_ wg ⟨ybb,ybm,rfl,hy_,hb_⟩
   refine ⟨_,rfl,?_⟩
   have hlt_:=fun j hj=>N_lt NSF.out.N j hj
   have hge_:W.heap.size+2<=_:=bx_ NSF.out.b
   have ybN:=Sd.m (NSF.out.below hb_)
   have ybY:=Sd.m hy_
   have ybO:Sd (∀ j,(_<=j∧j<wg.heap.size)->W.heap.size+2<=j∧some j≠Value.ownBlock _):=⟨fun j hj=>⟨Nat.le_trans hge_ hj.1,fun he=>Nat.lt_irrefl j (Nat.lt_of_lt_of_le (hlt_ j he.symm) hj.1)⟩⟩
   clear hy_ hb_ hlt_ hge_
   refine hK.out _ _ (HS10.out _ ybN.out.B) (fun hHeld=>?_)
   clear hK K
   refine no_ 55 ?_
   refine on_ 14 56 (fun K hK=>?_)
   obtain ⟨D1,k2,wh,hrun_,hf_⟩:=ybN.out.app ybb ybm _ ybY.out ybO.out (by have:=HM9.out;simp only [List.length_append];omega)
   refine cl_ rfl (.tmp 49) (.tmp 55) 25 rfl _ _ rfl rfl hrun_ ?_
   have NSH:=Sd.m hf_
   clear hf_ hrun_
   refine hK.out _ _ (HS10.out _ NSH.out.B) (fun hHeld=>?_)
   clear hK K
   refine no_ 56 ?_
   refine pu_ 15 6 ?_
   refine done_ (by kernel_rfl) ?_
   have hwr:wrap64 (k+1)=k+1:=by unfold wrap64;omega
   go_wp2_with fail
   go_roundw
   case rel=>
    have NS2:=NSH.out
    rw [show ((NM k ++ NA k) ++ NB k).length=(NM k).length+((NA k).length+(NB k).length) by simp [Nat.add_assoc]] at NS2
    have hq: ∀ j,((W.heap.size+2<=j∧some j≠(Value.slice An (NM k).length cn).ownBlock)∧j<Wb.heap.size)->W.heap.size+2<=j∧some j≠(Value.slice D1 ((NM k).length+((NA k).length+(NB k).length)) k2).ownBlock:=fun j hj=>⟨hj.1.1,fun he=>(NS2.own j he.symm).elim (fun e=>hj.1.2 e.symm) (fun e=>by have:=hj.2;omega)⟩
    refine ⟨k+1,A1,c1,A2,c2,by omega,by omega,rfl,NS2.B,NS2.r,NS2.b,hl1,hl2,F_mono NS2.F1 hq,F_mono NS2.F2 hq,?_⟩
    rw [HM.out]
    exact NS2.N
   case measure=>simp only [intOf];omega
  ·have hke:k=(l.length:Int):=by omega
   subst hke
   have hnlt:decide ((l.length:Int)<(l.length:Int))=false:=by simp
   have hF1:=HFV.out
   have hbk:=HBK.out
   rw [HLV.out] at hF1 hbk hcv
   have HE0:Sd (BuE W vv (LR (l.length:Int)) AV cv AR cr An (NM (l.length:Int)) (.int .i64 0) wr):=⟨N_F HNM.out,HB.out,HBR.out,F_mono hF1 (fun j hj=>hj.1),F_mono HFR.out (fun j hj=>hj.1),Or.inl ⟨rfl,hbk⟩⟩
   have HNC:=Sd.m (N_reads' HNM.out)
   clear hF1 hbk
   go_wp2_with fail
   go_loopw [10] (fun t10 Wx=>BuE W vv (LR (l.length:Int)) AV cv AR cr An (NM (l.length:Int)) t10 Wx) (fun t10 _=>(1 - intOf t10).toNat)
   case atStart=>exact HE0.out
   case round=>
    obtain ⟨hFn,hbX,hrX,hFv,hFr,hst⟩:=hrel
    rcases hst with ⟨rfl,hbx⟩ | ⟨rfl,AU,cu,hcu,hFu,hbx⟩
    ·obtain ⟨ad,A2,c2,A3,c3,A4,c4,rfl,k0,-⟩:=at_T93 (F_now hFv) 0 (by decide) (by decide)
     change wr.cell? _=some (.string vv.f0) at k0
     have e0:ad.add ((0:Int).toNat*7)=ad:=by simp [Addr.add]
     rw [e0] at k0
     clear e0
     have q0:=bc_ hbx 0 rfl
     have HH:=Sd.m (bn_.calls kh An cn (NM (l.length:Int)) vv.f0 true wr (F_now hFn) HNC.out.2.1 HHAS.out)
     have HFn:=Sd.m hFn
     have HFv:=Sd.m hFv
     have HFr:=Sd.m hFr
     have HbX:=Sd.m hbX
     have HrX:=Sd.m hrX
     have Hbx:=Sd.m hbx
     clear hFn hFv hFr hbX hrX hbx
     go_wp2_with fail
     refine HH.out.mono ?_
     rintro e Vx ⟨rfl,hdr⟩
     have hbd:=hdr.below
     obtain ⟨Vf,hVf⟩: ∃ W_,W_=Vx.drew:=⟨_,rfl⟩
     have hbf:=hbd.trans ((show Below Vx.heap.size Vx Vf by rw [hVf];exact cb_ (Below.refl _ _)).mono hbd.size)
     have HFN2:=Sd.m (F_below HFn.out hbf)
     have HFV2:=Sd.m (F_below HFv.out hbf)
     have HFR2:=Sd.m (F_below HFr.out hbf)
     have HBX2:=Sd.m (HbX.out.trans (hbf.mono HbX.out.size))
     have HRX2:=Sd.m (af_ HrX.out hbf)
     have Hbx2:=Sd.m (af_ Hbx.out hbf)
     have HK0:=Sd.m ((hbf.cell (bl__ wr _ k0)).trans k0)
     have HZF:=Sd.m (bx_ Hbx2.out)
     clear hdr hbd hbf k0 q0 HFn HFv HFr HbX HrX Hbx HH
     have HS5:Sd (∀ w',Below Vf.heap.size Vf w'->w'.cell? ⟨W.heap.size+1,0,none⟩=some (.slice (some ad) 1 cv)∧w'.cell? ⟨W.heap.size+1,3,none⟩=some (.slice none 0 0)∧w'.cell? ad=some (.string vv.f0)):=by
      refine ⟨fun w' hw=>?_⟩
      have a1:=af_ Hbx2.out hw
      exact ⟨(ae_ a1 0).trans rfl,(ae_ a1 3).trans rfl,(hw.cell (bl__ Vf _ HK0.out)).trans HK0.out⟩
     have BF:=Sd.m (Below.refl Vf.heap.size Vf)
     go_upto_region 16 with fail
     refine start_ (n:=12) (S:=fun w'=>w'.cell? ⟨W.heap.size+1,0,none⟩=some (.slice (some ad) 1 cv)∧w'.cell? ⟨W.heap.size+1,3,none⟩=some (.slice none 0 0)∧w'.cell? ad=some (.string vv.f0)) (ds:=[11]) #[false,false,false,false,false,false,false,false,false,false,false,false] (by kernel_rfl) rfl rfl (by rw [←hVf];exact (HS5.out _ BF.out)) (fun hHeld=>?_)
     rw [←hVf] at hHeld ⊢
     clear hVf
     refine pu_ 0 72 ?_
     refine pu_ 2 74 ?_
     refine pu_ 4 76 ?_
     refine ta_ 1 73 hHeld ?_
     refine ta_ 3 75 hHeld ?_
     refine pu_ 5 77 ?_
     refine pu_ 6 78 ?_
     refine ta_ 7 79 hHeld ?_
     refine on_ 8 80 (fun K hK=>?_)
     refine value_ (w1:=?_) (v:=?_) (by rfl) rfl ?_ ?_
     rotate_left 2
     ·go_simp
      constructor
      ·rfl
      ·rfl
     have hg_:=ah_ Vf (.cells #[.string vv.f0] 9)
     have hb_:=ab_ (Below.refl Vf.heap.size Vf) (.cells #[.string vv.f0] 9)
     generalize hW_:Vf.alloc (.cells #[.string vv.f0] 9)=wi at hg_ hb_ ⊢
     have HGI:=Sd.m hg_
     have BWI:=Sd.m hb_
     clear hg_ hb_ hW_
     refine hK.out _ _ (HS5.out _ BWI.out) (fun hHeld=>?_)
     clear hK K
     refine no_ 80 ?_
     refine on_ 9 81 (fun K hK=>?_)
     obtain ⟨U1,u1,wj,hrun_,hN_,hB_,_,_⟩:=fi_ (P:=Tryz.prog) Kd.string (Vd:=Vf) (Wj:=wi) (W.heap.size+2) 25 25 9 (.string ⟨#[]⟩) 16 Tryz.underlying25 (by kernel_rfl) rfl (by decide) (by decide) none 0 [] [vv.f0] (some ⟨Vf.heap.size,0,none⟩) 1 (fun j=>W.heap.size+2<=j) (fun j=>W.heap.size+2<=j) (N_nil _ _ _ _ _) (F_one (cs:=[.string vv.f0]) HGI.out HZF.out (fun _ _=>rfl)) (fun k hk=>⟨hk,by simp [Value.ownBlock]⟩) (fun k hk=>Nat.le_trans HZF.out hk) HZF.out (fun k hk=>by simp [Value.ownBlock] at hk) BWI.out (by simp)
     refine cl_ rfl (.tmp 73) (.tmp 80) 25 rfl _ _ rfl rfl hrun_ ?_
     have HNJ:=Sd.m hN_
     have BWJ:=Sd.m hB_
     have hbj_:=af_ Hbx2.out hB_
     have n3:=bc_ hbj_ 3 rfl
     have m3:=aa_ hbj_ 3
     clear hrun_ hN_ hB_
     refine hK.out _ _ (HS5.out _ BWJ.out) (fun hHeld=>?_)
     clear hK K
     refine no_ 81 ?_
     refine pu_ 10 82 ?_
     refine last_ (i:=11) (N:=none) #[true,true,true,true,true,true,true,true,true,true,true,true] rfl rfl (by kernel_rfl) (by decide) (fun K hK=>?_)
     refine skip_ (w1:=?_) (by rfl) rfl ?_ ?_
     rotate_left
     ·go_simp
      rfl
     refine hK.out _ _ ?_
     clear hK K
     refine done_ (by kernel_rfl) ?_
     go_wp2_with fail
     go_roundw
     case rel=>
      have hz:=HZF.out
      have okx: ∀ j,W.heap.size+2<=j->j≠W.heap.size+1:=fun j hj=>by omega
      have hbj:=af_ Hbx2.out BWJ.out
      refine ⟨ca_ (n:=W.heap.size+1) okx [.slice U1 1 u1] wj 3 (F_below HFN2.out BWJ.out),ce_ (n:=W.heap.size+1) (by omega) [.slice U1 1 u1] wj 3 (HBX2.out.trans (BWJ.out.mono HBX2.out.size)),ec_ (n:=W.heap.size+1) (by omega) [.slice U1 1 u1] wj 3 (af_ HRX2.out BWJ.out),ca_ (n:=W.heap.size+1) okx [.slice U1 1 u1] wj 3 (F_below HFV2.out BWJ.out),ca_ (n:=W.heap.size+1) okx [.slice U1 1 u1] wj 3 (F_below HFR2.out BWJ.out),Or.inr ⟨rfl,U1,u1,(N_reads' HNJ.out).2.1,ca_ (n:=W.heap.size+1) okx [.slice U1 1 u1] wj 3 (N_F HNJ.out),cc_ hbj 3 _ rfl⟩⟩
     case measure=>simp [intOf]
    ·obtain ⟨V7,hV7⟩: ∃ W_,W_=putL wr W.heap.size 0 [.slice AV 1 cv,.slice AR (LR (l.length:Int)).length cr,.slice none 0 0,.slice AU 1 cu]:=⟨_,rfl⟩
     have hr7:V7.heap[W.heap.size]? =some (.cells #[.slice AV 1 cv,.slice AR (LR (l.length:Int)).length cr,.slice none 0 0,.slice AU 1 cu] 27 (0,0)):=by rw [hV7];exact cm_ _ wr 0 _ hrX
     have okq: ∀ j,W.heap.size+2<=j->j≠W.heap.size:=fun j hj=>by omega
     have okr: ∀ j,W.heap.size+2<=j->W.heap.size<=j:=fun j hj=>by omega
     have hF1:Kd.F k93 V7 (fun j=>W.heap.size<=j) AV 1 [vv]:=by rw [hV7];exact F_mono (ca_ (n:=W.heap.size) okq _ wr 0 hFv) okr
     have hF2:Kd.F k55 V7 (fun j=>W.heap.size<=j) AR (LR (l.length:Int)).length (LR (l.length:Int)):=by rw [hV7];exact F_mono (ca_ (n:=W.heap.size) okq _ wr 0 hFr) okr
     have hF3:Kd.F Kd.string V7 (fun j=>W.heap.size<=j) AU 1 [vv.f0]:=by rw [hV7];exact F_mono (ca_ (n:=W.heap.size) okq _ wr 0 hFu) okr
     have hb7:Below W.heap.size W V7:=by rw [hV7];exact ce_ (n:=W.heap.size) (Nat.le_refl _) _ wr 0 hbX
     replace hV7:V7=(((wr.setCell ⟨W.heap.size,0,none⟩ (.slice AV 1 cv)).setCell ⟨W.heap.size,1,none⟩ (.slice AR (LR (l.length:Int)).length cr)).setCell ⟨W.heap.size,2,none⟩ (.slice none 0 0)).setCell ⟨W.heap.size,3,none⟩ (.slice AU 1 cu):=hV7
     have q0:=bc_ hbx 0 rfl
     have s0:=bc_ hrX 0 rfl
     have z0:=aa_ hrX 0
     have q1:=bc_ hbx 1 rfl
     have s1:=bc_ hrX 1 rfl
     have z1:=aa_ hrX 1
     have q2:=bc_ hbx 2 rfl
     have s2:=bc_ hrX 2 rfl
     have z2:=aa_ hrX 2
     have q3:=bc_ hbx 3 rfl
     have s3:=bc_ hrX 3 rfl
     have z3:=aa_ hrX 3
     have HV7:=Sd.m hV7
     have HR7:=Sd.m hr7
     have HF1:=Sd.m hF1
     have HF2:=Sd.m hF2
     have HF3:=Sd.m hF3
     have HB7:=Sd.m hb7
     clear hV7 hr7 okq okr hF1 hF2 hF3 hb7 hrX hbx hFn hFv hFr hFu hbX
     go_wp2_with fail
     rw [←HV7.out]
     refine bodyPost_ret (id_ rfl _ _ W.heap.size 27 #[.slice AV 1 cv,.slice AR (LR (l.length:Int)).length cr,.slice none 0 0,.slice AU 1 cu] (0,0) _ rfl HR7.out Tryz.underlying27 rfl (by kernel_rfl)) rfl ?_
     exact ⟨AV,cv,AR,cr,AU,cu,rfl,hcv.1,hcr.1,hcu,HF1.out,HF2.out,HF3.out,HB7.out⟩
def partP (t:List S159)(here:Int):Option (S85 × Int):=
 if here<(t.length:Int)∧(ac_ t here).f0=15 then some (⟨5,⟨#[]⟩,(ac_ t here).f2,(ac_ t here).f3,[]⟩,here+1)
 else if here<(t.length:Int)∧(ac_ t here).f0=1 then some (⟨2,(ac_ t here).f1,0,0,[]⟩,here+1)
 else none
def setP (t:List S159)(deep here:Int):Option (S85 × Int):=
 if 0<=deep∧deep<12∧here+1<(t.length:Int)∧kdF t (here+1)≠14 then
  (partP t (here+1)).bind fun q=>if kdF t q.2=14∧here+1<q.2∧q.2<=(t.length:Int) then some (⟨4,⟨#[]⟩,(ac_ t here).f2,0,[q.1]⟩,q.2+1) else none
 else none
def pieceP (t:List S159)(deep here:Int):Option (S85 × Int):=
 if ¬ here<(t.length:Int) then none
 else if (ac_ t here).f0=1 then some (⟨2,(ac_ t here).f1,0,0,[]⟩,here+1)
 else if (ac_ t here).f0=12 then some (⟨3,⟨#[]⟩,0,0,[]⟩,here+1)
 else if (ac_ t here).f0=13 then setP t deep here
 else none
def joinP (t:List S159)(deep here:Int):Option (S85 × Int):=
 if ¬ here<=(t.length:Int) then none
 else if be_.f (kdF t here)=some false then some (⟨1,⟨#[]⟩,0,0,[]⟩,here)
 else if be_.f (kdF t here)=some true then
  (pieceP t deep here).bind fun q=>
   if here<q.2∧q.2<=(t.length:Int) then
    if kdF t q.2=9 then (if q.2+1<=(t.length:Int)∧be_.f (kdF t (q.2+1))=some false then some (⟨10,⟨#[]⟩,0,0,[q.1]⟩,q.2+1) else none)
    else if ¬ (9<=kdF t q.2∧kdF t q.2<=11)∧be_.f (kdF t q.2)=some false then some q else none
   else none
 else none
def orP (t:List S159)(deep here:Int):Option (S85 × Int):=
 (joinP t deep here).bind fun q=>if 0<=q.2∧kdF t q.2≠8 then some q else none
def itemP (t:List S159)(here:Int):Option (S87 × Int):=
 if ¬ here+1<=(t.length:Int) then none
 else if (ac_ t here).f0=1 then
  if kdF t (here+1)=3 then (orP t 0 (here+2)).bind fun q=>some (⟨1,(ac_ t here).f1,(ac_ t here).f2,false,q.1,z85,(ac_ t here).f4⟩,q.2)
  else none
 else if (ac_ t here).f0=2 then
  (orP t 0 (here+1)).bind fun q=>
   if 0<=q.2∧q.2<=1000000∧(kdF t q.2=4∨kdF t q.2=5) then
    (orP t 0 (q.2+1)).bind fun r=>some (⟨2,(ac_ t here).f1,(ac_ t here).f2,decide (kdF t q.2=5),q.1,r.1,(ac_ t here).f4⟩,r.2)
   else none
 else none
section
variable {w0 W:World} {g:Nat} {t:List S159} {en here h1 deep:Int} {nd:S85}
theorem part_calls (ht:t.length<=1000000)(h:RdAt w0 W g t en here)(h0:0<=here)(hF:partP t here=some (nd,h1)):Calls Tryz.prog 206 #[.pointer (some ⟨g,0,none⟩),.int .i64 deep] W (Ans w0 W g t en nd h1):=by
 unfold partP at hF
 split at hF
 ·rename_i q
  injection hF with hF;injection hF with e1 e2
  subst e1 e2
  exact part_range h h0 q.1 ht q.2 deep
 split at hF
 ·rename_i q
  injection hF with hF;injection hF with e1 e2
  subst e1 e2
  exact part_name h h0 q.1 ht q.2 deep
 ·cases hF
theorem setP_calls (ht:t.length<=1000000)(h:RdAt w0 W g t en here)(h0:0<=here)(hF:setP t deep here=some (nd,h1)):Calls Tryz.prog 200 #[.pointer (some ⟨g,0,none⟩),.int .i64 deep] W (Ans w0 W g t en nd h1):=by
 unfold setP at hF
 split at hF
 ·rename_i q
  obtain ⟨⟨n2,h2⟩,hp,hF⟩:=Option.bind_eq_some_iff.1 hF
  dsimp only at hF
  split at hF
  ·rename_i r
   injection hF with hF;injection hF with e1 e2
   subst e1 e2
   exact set_one h h0 q.2.2.1 ht deep q.1 q.2.1 (fun W hW=>part_calls ht hW (by omega) hp) q.2.2.2 r.1 r.2.1 r.2.2
  ·cases hF
 ·cases hF
theorem ih_ (ht:t.length<=1000000)(h:RdAt w0 W g t en here)(h0:0<=here)(hF:pieceP t deep here=some (nd,h1)):Calls Tryz.prog 184 #[.pointer (some ⟨g,0,none⟩),.int .i64 deep] W (Ans w0 W g t en nd h1):=by
 unfold pieceP at hF
 split at hF
 ·cases hF
 rename_i hl
 have hl:=Decidable.not_not.1 hl
 split at hF
 ·rename_i q
  injection hF with hF;injection hF with e1 e2
  subst e1 e2
  exact piece_name h h0 hl ht q deep
 split at hF
 ·rename_i q
  injection hF with hF;injection hF with e1 e2
  subst e1 e2
  exact piece_any h h0 hl ht q deep
 split at hF
 ·rename_i q
  exact piece_set h h0 hl ht q deep (fun W hW=>setP_calls ht hW h0 hF)
 ·cases hF
theorem join_calls (ht:t.length<=1000000)(h:RdAt w0 W g t en here)(h0:0<=here)(hF:joinP t deep here=some (nd,h1)):Calls Tryz.prog 165 #[.pointer (some ⟨g,0,none⟩),.int .i64 deep] W (Ans w0 W g t en nd h1):=by
 unfold joinP at hF
 split at hF
 ·cases hF
 rename_i hl
 have hl:=Decidable.not_not.1 hl
 split at hF
 ·rename_i q
  injection hF with hF;injection hF with e1 e2
  subst e1 e2
  exact join_none h h0 hl ht deep q
 split at hF
 ·rename_i hb
  obtain ⟨⟨n2,h2⟩,hp,hF⟩:=Option.bind_eq_some_iff.1 hF
  dsimp only at hF
  split at hF
  ·rename_i r
   split at hF
   ·rename_i hk
    split at hF
    ·rename_i hs
     injection hF with hF;injection hF with e1 e2
     subst e1 e2
     exact join_star h h0 hl ht deep hb (fun W hW=>ih_ ht hW h0 hp) r.1 (by omega) hk hs.2 hs.1
    ·cases hF
   ·split at hF
    ·rename_i hs
     injection hF with hF;injection hF with e1 e2
     subst e1 e2
     exact join_one h h0 hl ht deep hb (fun W hW=>ih_ ht hW h0 hp) r.1 (by omega) hs.1 hs.2
    ·cases hF
  ·cases hF
 ·cases hF
theorem go_ (ht:t.length<=1000000)(h:RdAt w0 W g t en here)(h0:0<=here)(hF:orP t deep here=some (nd,h1)):Calls Tryz.prog 125 #[.pointer (some ⟨g,0,none⟩),.int .i64 deep] W (Ans w0 W g t en nd h1):=by
 unfold orP at hF
 obtain ⟨⟨n2,h2⟩,hp,hF⟩:=Option.bind_eq_some_iff.1 hF
 dsimp only at hF
 split at hF
 ·rename_i r
  injection hF with hF;injection hF with e1 e2
  subst e1 e2
  have hl:here<=(t.length:Int):=by
   unfold joinP at hp
   split at hp
   ·cases hp
   ·rename_i hl
    exact Decidable.not_not.1 hl
  exact or_one h h0 hl ht deep (fun W hW=>join_calls ht hW h0 hp) r.1 r.2
 ·cases hF
theorem item_calls {x:S87}(ht:t.length<=1000000)(h:RdAt w0 W g t en here)(h0:0<=here)(hF:itemP t here=some (x,h1)):Calls Tryz.prog 87 #[.pointer (some ⟨g,0,none⟩)] W (AnsI w0 W g t en x h1):=by
 unfold itemP at hF
 split at hF
 ·cases hF
 rename_i hl
 have hl:=Decidable.not_not.1 hl
 split at hF
 ·rename_i hk
  split at hF
  ·rename_i his
   obtain ⟨⟨n2,h2⟩,hp,hF⟩:=Option.bind_eq_some_iff.1 hF
   injection hF with hF;injection hF with e1 e2
   subst e1 e2
   exact item_name h h0 hl ht hk his (fun W hW=>go_ ht hW (by omega) hp)
  ·cases hF
 split at hF
 ·rename_i hk
  obtain ⟨⟨n2,h2⟩,hp,hF⟩:=Option.bind_eq_some_iff.1 hF
  dsimp only at hF
  split at hF
  ·rename_i r
   obtain ⟨⟨n3,h3⟩,hp2,hF⟩:=Option.bind_eq_some_iff.1 hF
   injection hF with hF;injection hF with e1 e2
   subst e1 e2
   rcases r.2.2 with k4 | k5
   ·have e:decide (kdF t h2=5)=false:=df__ (by omega)
    dsimp only
    rw [e]
    exact item_stay h h0 hl ht hk r.1 r.2.1 (fun W hW=>go_ ht hW (by omega) hp) k4 (fun W hW=>go_ ht hW (by omega) hp2)
   ·have e:decide (kdF t h2=5)=true:=dt__ k5
    dsimp only
    rw [e]
    exact item_cut h h0 hl ht hk r.1 r.2.1 (fun W hW=>go_ ht hW (by omega) hp) k5 (fun W hW=>go_ ht hW (by omega) hp2)
  ·cases hF
 ·cases hF
end
def itemsP:Nat->List S159->Int->List S87->Option (List S87)
 | 0,_,_,_=>none
 | n+1,t,here,out=>
  if here<(t.length:Int) then
   if kdF t here=18 then itemsP n t (here+1) out
   else if out.length<=99 then
    (itemP t here).bind fun q=>if here<q.2∧(kdF t q.2=18∨kdF t q.2=0) then itemsP n t q.2 (out ++ [q.1]) else none
   else none
  else some out
theorem LexAt.fv_ {w0 W:World}{g:Nat}{Al Ap:Option Addr}{cl cp:Nat}{l p:List Int}{i deep:Int}{out:List S159}(h:LexAt w0 W g Al cl l Ap cp p i deep out)(x:Int):LexAt w0 (W.setCell ⟨g,2,none⟩ (.int .i64 x)) g Al cl l Ap cp p x deep out:=by
 obtain ⟨v,h1,h2,h3,h4⟩:=h
 exact ⟨v,by simpa using di_ h1 2 _,R_set h2 h1 (by decide) 2 _,h3.setCell (p:=⟨g,2,none⟩) h4 _,h4⟩
theorem LexAt.set_d {w0 W:World}{g:Nat}{Al Ap:Option Addr}{cl cp:Nat}{l p:List Int}{i deep:Int}{out:List S159}(h:LexAt w0 W g Al cl l Ap cp p i deep out)(x:Int):LexAt w0 (W.setCell ⟨g,3,none⟩ (.int .i64 x)) g Al cl l Ap cp p i x out:=by
 obtain ⟨v,h1,h2,h3,h4⟩:=h
 exact ⟨v,by simpa using di_ h1 3 _,R_set h2 h1 (by decide) 3 _,h3.setCell (p:=⟨g,3,none⟩) h4 _,h4⟩
theorem LexAt.c0 {w0 W:World}{g:Nat}{Al Ap:Option Addr}{cl cp:Nat}{l p:List Int}{i deep:Int}{out:List S159}(h:LexAt w0 W g Al cl l Ap cp p i deep out):W.cell? ⟨g,0,none⟩=some (.slice Al l.length cl):=by
 obtain ⟨v,h1,_⟩:=h;exact (ae_ h1 0).trans rfl
theorem LexAt.c2 {w0 W:World}{g:Nat}{Al Ap:Option Addr}{cl cp:Nat}{l p:List Int}{i deep:Int}{out:List S159}(h:LexAt w0 W g Al cl l Ap cp p i deep out):W.cell? ⟨g,2,none⟩=some (.int .i64 i):=by
 obtain ⟨v,h1,_⟩:=h;exact (ae_ h1 2).trans rfl
theorem LexAt.c3 {w0 W:World}{g:Nat}{Al Ap:Option Addr}{cl cp:Nat}{l p:List Int}{i deep:Int}{out:List S159}(h:LexAt w0 W g Al cl l Ap cp p i deep out):W.cell? ⟨g,3,none⟩=some (.int .i64 deep):=by
 obtain ⟨v,h1,_⟩:=h;exact (ae_ h1 3).trans rfl
theorem LexAt.c6 {w0 W:World}{g:Nat}{Al Ap:Option Addr}{cl cp:Nat}{l p:List Int}{i deep:Int}{out:List S159}(h:LexAt w0 W g Al cl l Ap cp p i deep out):W.cell? ⟨g,6,none⟩=some (.int .i64 0):=by
 obtain ⟨v,h1,_⟩:=h;exact (ae_ h1 6).trans rfl
theorem LexAt.fr {w0 W:World}{g:Nat}{Al Ap:Option Addr}{cl cp:Nat}{l p:List Int}{i deep:Int}{out:List S159}(h:LexAt w0 W g Al cl l Ap cp p i deep out)(j:Nat):W.frozen? ⟨g,j,none⟩=false:=by
 obtain ⟨v,h1,_⟩:=h;exact aa_ h1 j
theorem LexAt.B {w0 W:World}{g:Nat}{Al Ap:Option Addr}{cl cp:Nat}{l p:List Int}{i deep:Int}{out:List S159}(h:LexAt w0 W g Al cl l Ap cp p i deep out):Below w0.heap.size w0 W:=by
 obtain ⟨v,_,_,h3,_⟩:=h;exact h3
theorem LexAt.lt {w0 W:World}{g:Nat}{Al Ap:Option Addr}{cl cp:Nat}{l p:List Int}{i deep:Int}{out:List S159}(h:LexAt w0 W g Al cl l Ap cp p i deep out):g<W.heap.size:=by
 obtain ⟨v,h1,_⟩:=h;exact bx_ h1
theorem at_l {w0 W:World}{A:Option Addr}{l:List Int}(h:Kd.C (Kd.int .i64) w0 A l.length l)(hB:Below w0.heap.size w0 W)(j:Int)(h0:0<=j)(h1:j<l.length): ∃ ad,A=some ad∧W.cell? (ad.add j.toNat)=some (.int .i64 (rd l j)):=by
 obtain ⟨ad,e,hc⟩:=Kd.dm_ h j h0 h1
 exact ⟨ad,e,(hB.cell (bl__ w0 _ hc)).trans hc⟩
theorem is_in (w0 W:World)(g:Nat)(Al:Option Addr)(cl:Nat)(l:List Int)(Ap:Option Addr)(cp:Nat)(p:List Int)(i deep:Int)(out:List S159)(h:LexAt w0 W g Al cl l Ap cp p i deep out)
  (hl:Kd.C (Kd.int .i64) w0 Al l.length l) (j c:Int) (hj0:0<=j) (hj1:j<l.length):
  Calls Tryz.prog 161 #[.pointer (some ⟨g,0,none⟩),.int .i64 j,.int .i64 c] W fun e W1=>e=.returned (.bool (rd l j == c))∧LexAt w0 W1 g Al cl l Ap cp p i deep out∧Below W.heap.size W W1:=by
 obtain ⟨ad,rfl,hcell⟩:=at_l hl h.B j hj0 hj1
 have c0:=h.c0
 have d0:decide ((0:Int)<=j)=true:=dt__ hj0
 have d1:decide (j<(l.length:Int))=true:=dt__ hj1
 have H:=Sd.m h
 clear h hl
 go_enter Tryz.func161,Tryz.ntmps161
 go_wp2_with fail
 go_ret
 exact ⟨rfl,H.out,Below.refl _ _⟩
theorem je_ (w0 W:World)(g:Nat)(Al:Option Addr)(cl:Nat)(l:List Int)(Ap:Option Addr)(cp:Nat)(p:List Int)(i deep:Int)(out:List S159)(h:LexAt w0 W g Al cl l Ap cp p i deep out)
  (hl:Kd.C (Kd.int .i64) w0 Al l.length l) (hp:Kd.C (Kd.int .i64) w0 Ap p.length p) (hpl:p.length<=1000000) (hol:out.length<=1000000) (hi0:0<=i) (hi1:i+1<l.length) (hi2:i<p.length) (hd0:0<=deep) (hd1:deep<=1000000) (hll:l.length<=1000000) (hne:rd l (i+1)≠94):
  Calls Tryz.prog 157 #[.pointer (some ⟨g,0,none⟩)] W fun e W1=>e=.returned (.tuple #[])∧LexAt w0 W1 g Al cl l Ap cp p (i+1) (deep+1) (out ++ [⟨13,⟨#[]⟩,0,0,rd p i⟩]):=by
 have hb1:Below W.heap.size W (W.alloc (.cells #[.int .i64 13,.string ⟨#[]⟩,.int .i64 0,.int .i64 0,.int .i64 0] 159)):=ab_ (Below.refl W.heap.size W) _
 have h1:=h.below hb1
 have hbx:(W.alloc (.cells #[.int .i64 13,.string ⟨#[]⟩,.int .i64 0,.int .i64 0,.int .i64 0] 159)).heap[W.heap.size]? =some (.cells #[.int .i64 13,.string ⟨#[]⟩,.int .i64 0,.int .i64 0,.int .i64 0] 159 (0,0)):=ah_ _ _
 have hgn:W.heap.size≠g:=by have:=h.lt;omega
 have c2:=h1.c2
 have f2:=h1.fr 2
 have b1:(rd l (i+1) == 94)=false:=by simpa using hne
 have w1:IntKind.i64.wrap (i+1)=i+1:=IntWalk.i64_in _ (by omega)
 have w2:IntKind.i64.wrap (deep+1)=deep+1:=IntWalk.i64_in _ (by omega)
 have his:=is_in w0 _ g Al cl l Ap cp p (i+1) deep out (h1.fv_ (i+1)) hl (i+1) 94 (by omega) hi1
 have hbx2:=bf_ hbx (p:=⟨g,2,none⟩) hgn (.int .i64 (i+1))
 have H1:=Sd.m h1
 have HL:=Sd.m hl
 have HP:=Sd.m hp
 have HI:=Sd.m his
 have HBX:=Sd.m hbx2
 clear h h1 hl hp hne his hbx hb1 hbx2
 go_enter Tryz.func157,Tryz.ntmps157
 go_wp2_with fail
 refine HI.out.mono ?_
 rintro e W2 ⟨rfl,hL2,hb2⟩
 have hn2:=af_ HBX.out hb2
 have n0:=bc_ hn2 0 rfl
 have n1:=bc_ hn2 1 rfl
 have n2:=bc_ hn2 2 rfl
 have n3:=bc_ hn2 3 rfl
 have n4:=bc_ hn2 4 rfl
 have HL2:=Sd.m hL2
 clear hL2 hb2 hn2
 go_wp2_with fail
 refine (cv_ w0 W2 g Al cl l Ap cp p (i+1) deep out HL2.out HP.out hpl hol 13 ⟨#[]⟩ 0 0 0 i hi0 hi2).mono ?_
 rintro e W3 ⟨rfl,hL3⟩
 have c3:=hL3.c3
 have f3:=hL3.fr 3
 have HL3:=Sd.m hL3
 clear hL3 n0 n1 n2 n3 n4
 go_wp2_with fail
 refine Great.bodyPost_end0 rfl rfl ?_
 exact ⟨rfl,HL3.out.set_d (deep+1)⟩
end LX
namespace K
open A
attribute [local go_sem] ct_ cq_ cz_ cy_ cg_ cf_ cr_ cp_
def bg_.l0:Nat->List Int->List Int->List Int->Int->Option (List Int × List Int × Int × Int)
 | 0,_,_,_,_=>none
 | k+1,x0,x6,x7,x8=>if x8<(x0.length:Int) then (if 0<=x8 then (if x8<=(x0.length:Int) then ((an_.f k (x0.drop (x8:Int).toNat)).bind fun bt133=>(if bt133.2=0 then (none) else (if x6.length<17592186044416 then (if x7.length<17592186044416 then (bg_.l0 k x0 (x6 ++ [bt133.1]) (x7 ++ [x8]) (wrap64 (x8+bt133.2))) else (none)) else (none)))) else (none)) else (none)) else (if x7.length<17592186044416 then (some (x6,(x7 ++ [(x0.length:Int)]),(-1),0)) else (none))
def bg_.f (k:Nat)(l0:List Int):Option (List Int × List Int × Int × Int):=if (l0.length:Int)>3000 then (none) else (bg_.l0 k l0 ([]:List Int) ([]:List Int) 0)
theorem bg_.calls (k:Nat)(A0:Option Addr)(c0:Nat)(l0:List Int)(r1:List Int)(r2:List Int)(r3:Int)(r4:Int)(w:World)(hr0:Kd.C (Kd.int .u8) w A0 l0.length l0)(hc0:l0.length<=c0)(h:bg_.f k l0=some (r1,r2,r3,r4)):
  Calls Tryz.prog 121 #[.slice A0 l0.length c0] w fun e w'=> ∃ v0_ v1_:Value,e=.returned (.tuple #[v0_,v1_,.int .i64 r3,.int .i64 r4])∧Kd.R (Kd.int .i64) 3 w' w.heap.size (fun k_=>some k_≠(v1_:Value).ownBlock) v0_ r1∧Kd.R (Kd.int .i64) 3 w' w.heap.size (fun k_=>some k_≠(v0_:Value).ownBlock) v1_ r2∧Below w.heap.size w w':=by
 have HR0:=Sd.m hr0
 have HC0:=Sd.m hc0
 clear hr0 hc0
 have HB:=Sd.m (Below.refl w.heap.size w)
 have H:(if (l0.length:Int)>3000 then (none) else (bg_.l0 k l0 ([]:List Int) ([]:List Int) 0))=some (r1,r2,r3,r4):=h
 clear h
 by_cases c2:(l0.length:Int)>3000
 ·rw [if_pos c2] at H
  exact absurd H (by simp)
 ·rw [if_neg c2] at H
  have c2b0:=df__ c2
  have c2b1:decide (3000<l0.length)=false:=df__ (by omega)
  clear c2
  have H':=Sd.m H
  clear H
  go_enter Tryz.func121,Tryz.ntmps121
  go_wp2
  go_loopg [6,7,8] k (fun kq v6 v7 v8 w'=> ∃ (x6_1:List Int) (x7_1:List Int) (x8_1:Int),v8=.int .i64 x8_1∧Sd (bg_.l0 kq l0 x6_1 x7_1 x8_1=some (r1,r2,r3,r4))∧Sd (kq<=k)∧Sd (Kd.R (Kd.int .i64) 3 w' w.heap.size (fun k_=>some k_≠(v7:Value).ownBlock) v6 x6_1)∧Sd (Kd.R (Kd.int .i64) 3 w' w.heap.size (fun k_=>some k_≠(v6:Value).ownBlock) v7 x7_1)∧Sd (Below w.heap.size w w'))
  case atStart=>exact ⟨(([]:List Int)),(([]:List Int)),(0),ri_,H',⟨Nat.le_refl _⟩,⟨by first | exact Kd.R_nil _ _ _ _ _ | exact Kd.N_nil _ _ _ _ _ | exact Kd.V_nil _ _ _ _ _ | exact Kd.Q_nil _ _ _ _ _ | exact Kd.S_nil _ _ _ _ _⟩,⟨by first | exact Kd.R_nil _ _ _ _ _ | exact Kd.N_nil _ _ _ _ _ | exact Kd.V_nil _ _ _ _ _ | exact Kd.Q_nil _ _ _ _ _ | exact Kd.S_nil _ _ _ _ _⟩,⟨rb_⟩⟩
  case round=>
   clear H'
   obtain ⟨x6_1,x7_1,x8_1,rfl,HA,HK1,HO_6,HO_7,HB⟩:=hrel
   cases gk with
   | zero=>exact absurd HA.out (by simp [bg_.l0])
   | succ k1=>
    have H:=HA.out
    clear HA
    simp only [bg_.l0] at H
    by_cases c3:x8_1<(l0.length:Int)
    ·rw [if_pos c3] at H
     have c3b0:=dt__ c3
     clear c3
     by_cases c4:0<=x8_1
     ·rw [if_pos c4] at H
      have c4b0:=eq_true c4
      have c4b1:=dt__ c4
      clear c4
      by_cases c5:x8_1<=(l0.length:Int)
      ·rw [if_pos c5] at H
       have c5b0:=eq_true c5
       have c5b1:=dt__ c5
       clear c5
       replace H:=Option.bind_eq_some_iff.mp H
       obtain ⟨⟨t133,t134⟩,A60,H⟩:=H
       replace H:(if t134=0 then (none) else (if x6_1.length<17592186044416 then (if x7_1.length<17592186044416 then (bg_.l0 k1 l0 (x6_1 ++ [t133]) (x7_1 ++ [x8_1]) (wrap64 (x8_1+t134))) else (none)) else (none)))=some (r1,r2,r3,r4):=H
       have A6:=Sd.m A60
       clear A60
       by_cases c7:t134=0
       ·rw [if_pos c7] at H
        exact absurd H (by simp)
       ·rw [if_neg c7] at H
        have c7b0:(t134 == 0)=false:=beq_eq_false_iff_ne.mpr c7
        have c7b1:(t134 != 0)=true:=bne_iff_ne.mpr c7
        by_cases c10:x6_1.length<17592186044416
        ·rw [if_pos c10] at H
         have LMc10:=Sd.m c10
         clear c10
         obtain ⟨y135,hy135⟩: ∃ y_:List Int,y_=(x6_1 ++ [t133]):=⟨_,rfl⟩
         replace H:(if x7_1.length<17592186044416 then (bg_.l0 k1 l0 y135 (x7_1 ++ [x8_1]) (wrap64 (x8_1+t134))) else (none))=some (r1,r2,r3,r4):=by first | (rw [hy135];with_reducible exact H) | (have H2_:=(Option.bind_some _ _).symm.trans H;rw [hy135];with_reducible exact H2_) | (have H2_:=(Option.bind_some _ _).symm.trans H;with_reducible exact H2_) | with_reducible exact H | (rw [hy135];exact H) | exact H
         have Ny135:=Sd.m hy135
         clear hy135
         by_cases c11:x7_1.length<17592186044416
         ·rw [if_pos c11] at H
          have LMc11:=Sd.m c11
          clear c11
          obtain ⟨y138,hy138⟩: ∃ y_:List Int,y_=(x7_1 ++ [x8_1]):=⟨_,rfl⟩
          replace H:(bg_.l0 k1 l0 y135 y138 (wrap64 (x8_1+t134)))=some (r1,r2,r3,r4):=by first | (rw [hy138];with_reducible exact H) | (have H2_:=(Option.bind_some _ _).symm.trans H;rw [hy138];with_reducible exact H2_) | (have H2_:=(Option.bind_some _ _).symm.trans H;with_reducible exact H2_) | with_reducible exact H | (rw [hy138];exact H) | exact H
          have Ny138:=Sd.m hy138
          clear hy138
          have H':=Sd.m H
          clear H
          obtain ⟨i012,hi012,_,hsz12,_⟩:=info_parts info5
          obtain ⟨A12,hcut12,hA12,hC12⟩:=ff_ (P:=Tryz.prog) (Value.int .u8) 0 65 5 .i64 Tryz.underlying65 hi012 hsz12 A0 c0 l0 x8_1 (od_) (od_) HC0.out
          have HR132:=Sd.m (Kd.C_of_reads (h1:=fun _=>rfl) (hA12 _ (Kd.dg_ HR0.out)))
          have HC132:=Sd.m hC12
          clear hA12 hC12 hi012 hsz12
          go_wp2_with (first | ((with_reducible refine ci_ (f:=156) rfl ?_);refine goesL_ (some 22) rfl rfl Tryz.func156 (by kernel_rfl) rfl #[.slice A12 (l0.drop (x8_1:Int).toNat).length (c0 - x8_1.toNat)] rfl (by (try simp only [List.map_toArray,List.map_cons,List.map_nil]);first | done | (rw [show (l0.drop (x8_1:Int).toNat).length=(l0.length - x8_1.toNat) from List.length_drop] <;> rfl) | rfl | (simp only [List.length_drop,List.length_take];rfl)) ?_;(with_reducible refine (an_.calls k1 _ _ (l0.drop (x8_1:Int).toNat) t133 t134 _ ?side1 ?side2 A6.out).mono ?_);(case side1=>exact cs_ (Kd.C_below HR132.out HB.out));(case side2=>exact HC132.out);rintro e w13 ⟨rfl,hb⟩;refine ⟨_,rfl,?_⟩;have n0_:=Sd.m (Kd.R_below (rr_ HO_6.out) hb);have n1_:=Sd.m (Kd.R_below (rr_ HO_7.out) hb);have n2_:=Sd.m (ba_ rb_ hb);clear HO_6;clear HO_7;clear HB;have HO_6:=n0_;have HO_7:=n1_;have HB:=n2_;clear n0_ n1_ n2_;(try clear hb);(try clear hb2);(try clear hk);(try clear hi)) | ((with_reducible refine bq_ (b:=.append) (xs:=#[.tmp 28,.tmp 30]) rfl ?_);at_builtin;refine Kd.R_append (Kd.int .i64) (w0:=w) w.heap.size rfl (.tmp 28) (.tmp 30) 42 3 (.int .i64 0) 8 rfl Tryz.underlying42 info3 rfl (by decide) (by omega) u6 x6_1 t133 [.int .i64 t133] (fun k_=>some k_≠(u7:Value).ownBlock) (fun _=>False) rfl rfl ?aP (fun _ hk=>hk.elim) ?aF ?aO ?aB ?aS ?aL ?_;(case aP=>exact rfl);(case aB=>exact rb_);(case aF=>exact (fun k_ hk=>Kd.fresh' (Kd.R_lt (rr_ HO_7.out)) k_ hk));(case aO=>exact (rr_ HO_6.out));(case aS=>exact (ap_ rb_));(case aL=>have:=LMc10.out;omega);intro v136 w14 ho hb hg hat;rw [←Ny135.out] at ho;have n0_:=Sd.m (Kd.R_after (ok:=(fun _=>True)) (by (with_reducible repeat (first | apply Kd.R_alloc | apply Kd.R_drewN | apply Kd.R_drew));exact Kd.R_mono HO_7.out (fun _ hk=>⟨trivial,hk⟩)) hg hat);have n1_:=Sd.m (hb);have n2_:=Sd.m (ho);clear HO_7;clear HB;clear HO_6;have HO_7:=n0_;have HB:=n1_;have HO137:=n2_;clear n0_ n1_ n2_;clear ho hb hg hat) | ((with_reducible refine bq_ (b:=.append) (xs:=#[.tmp 32,.tmp 34]) rfl ?_);at_builtin;refine Kd.R_append (Kd.int .i64) (w0:=w) w.heap.size rfl (.tmp 32) (.tmp 34) 42 3 (.int .i64 0) 8 rfl Tryz.underlying42 info3 rfl (by decide) (by omega) u7 x7_1 x8_1 [.int .i64 x8_1] (fun k_=>some k_≠(v136:Value).ownBlock) (fun _=>False) rfl rfl ?aP (fun _ hk=>hk.elim) ?aF ?aO ?aB ?aS ?aL ?_;(case aP=>exact rfl);(case aB=>exact rb_);(case aF=>exact (fun k_ hk=>Kd.fresh' (Kd.R_lt (rr_ HO137.out)) k_ hk));(case aO=>exact (by (with_reducible repeat (first | apply Kd.R_alloc | apply Kd.R_drewN | apply Kd.R_drew));exact Kd.R_mono HO_7.out (fun _ hk=>hk.2)));(case aS=>exact (ap_ rb_));(case aL=>have:=LMc11.out;omega);intro v139 w15 ho hb hg hat;rw [←Ny138.out] at ho;have n0_:=Sd.m (Kd.R_after (ok:=(fun _=>True)) (by (with_reducible repeat (first | apply Kd.R_alloc | apply Kd.R_drewN | apply Kd.R_drew));exact Kd.R_mono HO137.out (fun _ hk=>⟨trivial,hk⟩)) hg hat);have n1_:=Sd.m (hb);have n2_:=Sd.m (ho);clear HO137;clear HB;clear HO_7;have HO137:=n0_;have HB:=n1_;have HO140:=n2_;clear n0_ n1_ n2_;clear ho hb hg hat))
          go_roundg k1
          case measure=>have:=HK1.out;omega
          case rel=>exact ⟨(y135),(y138),(wrap64 (x8_1+t134)),ri_,H',⟨by have:=HK1.out;omega⟩,⟨by (with_reducible repeat (first | apply Kd.R_alloc | apply Kd.R_drewN | apply Kd.R_drew));exact Kd.R_mono HO137.out (fun _ hk=>hk.2)⟩,⟨rr_ HO140.out⟩,⟨rb_⟩⟩
         ·rw [if_neg c11] at H
          exact absurd H (by simp)
        ·rw [if_neg c10] at H
         exact absurd H (by simp)
      ·rw [if_neg c5] at H
       exact absurd H (by simp)
     ·rw [if_neg c4] at H
      exact absurd H (by simp)
    ·rw [if_neg c3] at H
     have c3b0:=df__ c3
     clear c3
     by_cases c16:x7_1.length<17592186044416
     ·rw [if_pos c16] at H
      have LMc16:=Sd.m c16
      clear c16
      obtain ⟨y141,hy141⟩: ∃ y_:List Int,y_=(x7_1 ++ [(l0.length:Int)]):=⟨_,rfl⟩
      replace H:(some (x6_1,y141,(-1),0))=some (r1,r2,r3,r4):=by first | (rw [hy141];with_reducible exact H) | (have H2_:=(Option.bind_some _ _).symm.trans H;rw [hy141];with_reducible exact H2_) | (have H2_:=(Option.bind_some _ _).symm.trans H;with_reducible exact H2_) | with_reducible exact H | (rw [hy141];exact H) | exact H
      have Ny141:=Sd.m hy141
      clear hy141
      simp only [Option.some.injEq,Prod.mk.injEq] at H
      obtain ⟨rfl,rfl,rfl,rfl⟩:=H
      go_wp2_with (first | ((with_reducible refine bq_ (b:=.append) (xs:=#[.tmp 40,.tmp 43]) rfl ?_);at_builtin;refine Kd.R_append (Kd.int .i64) (w0:=w) w.heap.size rfl (.tmp 40) (.tmp 43) 42 3 (.int .i64 0) 8 rfl Tryz.underlying42 info3 rfl (by decide) (by omega) u7 x7_1 (l0.length:Int) [.int .i64 (l0.length:Int)] (fun k_=>some k_≠(u6:Value).ownBlock) (fun _=>False) rfl rfl ?aP (fun _ hk=>hk.elim) ?aF ?aO ?aB ?aS ?aL ?_;(case aP=>exact rfl);(case aB=>exact rb_);(case aF=>exact (fun k_ hk=>Kd.fresh' (Kd.R_lt (rr_ HO_6.out)) k_ hk));(case aO=>exact (rr_ HO_7.out));(case aS=>exact (ap_ rb_));(case aL=>have:=LMc16.out;omega);intro v142 w17 ho hb hg hat;rw [←Ny141.out] at ho;have n0_:=Sd.m (Kd.R_after (ok:=(fun _=>True)) (by (with_reducible repeat (first | apply Kd.R_alloc | apply Kd.R_drewN | apply Kd.R_drew));exact Kd.R_mono HO_6.out (fun _ hk=>⟨trivial,hk⟩)) hg hat);have n1_:=Sd.m (hb);have n2_:=Sd.m (ho);clear HO_6;clear HB;clear HO_7;have HO_6:=n0_;have HB:=n1_;have HO143:=n2_;clear n0_ n1_ n2_;clear ho hb hg hat))
      refine bodyPost_ret (hi_ (rs:=[.tmp 2,.tmp 3,.tmp 4,.tmp 5]) rfl (by simp) (.tmp (.tmp (.tmp (.tmp .nil))))) rfl ?_
      exact ⟨_,_,re_,by (with_reducible repeat (first | apply Kd.R_alloc | apply Kd.R_drewN | apply Kd.R_drew));exact Kd.R_mono HO_6.out (fun _ hk=>hk.2),rr_ HO143.out,rb_⟩
     ·rw [if_neg c16] at H
      exact absurd H (by simp)
def by_.f (a0:Int):Option (Bool):=if a0 ≥ 97 then (if a0<=122 then (some true) else (if a0 ≥ 65 then (some (decide (a0<=90))) else (some false))) else (if a0 ≥ 65 then (some (decide (a0<=90))) else (some false))
theorem by_.calls (a0:Int)(r:Bool)(w:World)(h:by_.f a0=some r):
  Calls Tryz.prog 178 #[.int .i64 a0] w fun e w'=>e=.returned (.bool r)∧Drawn0 w w':=by
 have H:(if a0 ≥ 97 then (if a0<=122 then (some true) else (if a0 ≥ 65 then (some (decide (a0<=90))) else (some false))) else (if a0 ≥ 65 then (some (decide (a0<=90))) else (some false)))=some r:=h
 clear h
 by_cases c2:a0 ≥ 97
 ·rw [if_pos c2] at H
  have c2b0:=dt__ c2
  clear c2
  by_cases c3:a0<=122
  ·rw [if_pos c3] at H
   have c3b0:=dt__ c3
   clear c3
   obtain rfl:=Option.some.inj H
   go_enter Tryz.func178,Tryz.ntmps178
   go_wp2
   go_ret
   exact ⟨ri_,dr_⟩
  ·rw [if_neg c3] at H
   have c3b0:=df__ c3
   clear c3
   by_cases c4:a0 ≥ 65
   ·rw [if_pos c4] at H
    have c4b0:=dt__ c4
    clear c4
    obtain rfl:=Option.some.inj H
    go_enter Tryz.func178,Tryz.ntmps178
    go_wp2
    go_ret
    exact ⟨ri_,dr_⟩
   ·rw [if_neg c4] at H
    have c4b0:=df__ c4
    clear c4
    obtain rfl:=Option.some.inj H
    go_enter Tryz.func178,Tryz.ntmps178
    go_wp2
    go_ret
    exact ⟨ri_,dr_⟩
 ·rw [if_neg c2] at H
  have c2b0:=df__ c2
  clear c2
  by_cases c5:a0 ≥ 65
  ·rw [if_pos c5] at H
   have c5b0:=dt__ c5
   clear c5
   obtain rfl:=Option.some.inj H
   go_enter Tryz.func178,Tryz.ntmps178
   go_wp2
   go_ret
   exact ⟨ri_,dr_⟩
  ·rw [if_neg c5] at H
   have c5b0:=df__ c5
   clear c5
   obtain rfl:=Option.some.inj H
   go_enter Tryz.func178,Tryz.ntmps178
   go_wp2
   go_ret
   exact ⟨ri_,dr_⟩
def bs_.f (a0:Int):Option (Bool):=if a0 ≥ 48 then (some (decide (a0<=57))) else (some false)
theorem bs_.calls (a0:Int)(r:Bool)(w:World)(h:bs_.f a0=some r):
  Calls Tryz.prog 163 #[.int .i64 a0] w fun e w'=>e=.returned (.bool r)∧Drawn0 w w':=by
 have H:(if a0 ≥ 48 then (some (decide (a0<=57))) else (some false))=some r:=h
 clear h
 by_cases c2:a0 ≥ 48
 ·rw [if_pos c2] at H
  have c2b0:=dt__ c2
  clear c2
  obtain rfl:=Option.some.inj H
  go_enter Tryz.func163,Tryz.ntmps163
  go_wp2
  go_ret
  exact ⟨ri_,dr_⟩
 ·rw [if_neg c2] at H
  have c2b0:=df__ c2
  clear c2
  obtain rfl:=Option.some.inj H
  go_enter Tryz.func163,Tryz.ntmps163
  go_wp2
  go_ret
  exact ⟨ri_,dr_⟩
end K
namespace LX
open Shelf YthfceiincmkccaaGreatW.PrintWords.Kd A K
theorem C_one {W:World}{ad:Addr}{x:Int}(h:W.cell? ad=some (.int .i64 x)):Kd.C (Kd.int .i64) W (some ad) 1 [x]:=by
 refine gm_ (c:=[.int .i64 x]) rfl rfl (fun i u hi=>?_)
 cases i with
 | succ i=>simp at hi
 | zero=>
  simp at hi
  subst hi
  simpa [Addr.add] using h
def NameO (w0 W:World)(g:Nat)(Al:Option Addr)(cl:Nat)(l:List Int)(Ap:Option Addr)(cp:Nat)(p:List Int)(i deep:Int)(out:List S159)(t:Value)(W1:World):Prop:=(t=.int .i64 (i+1)∨t=.int .i64 (i+2))∧LexAt w0 W1 g Al cl l Ap cp p i deep out
def After (l:List Int)(j:Int):Prop:=j=l.length∨(j<l.length∧by_.f (rd l j)=some false∧bs_.f (rd l j)=some false∧rd l j≠95)
theorem jh_ (w0 W:World)(g:Nat)(Al:Option Addr)(cl:Nat)(l:List Int)(Ap:Option Addr)(cp:Nat)(p:List Int)(i deep:Int)(out:List S159)(h:LexAt w0 W g Al cl l Ap cp p i deep out)
  (hl:Kd.C (Kd.int .i64) w0 Al l.length l) (hcl:l.length<=cl) (hp:Kd.C (Kd.int .i64) w0 Ap p.length p) (hpl:p.length<=1000000) (hol:out.length<=1000000) (hi0:0<=i) (hi1:i+1<l.length) (hi2:i<p.length) (hll:l.length<=1000000)
  (hL:by_.f (rd l (i+1))=some true) (hA:After l (i+2)) (k:Nat) (s:ByteArray) (hs:bj_.f k [rd l (i+1)]=some s):
  Calls Tryz.prog 159 #[.pointer (some ⟨g,0,none⟩)] W fun e W1=>e=.returned (.tuple #[])∧LexAt w0 W1 g Al cl l Ap cp p (i+2) deep (out ++ [⟨1,s,0,0,rd p i⟩]):=by
 have c2:=h.c2
 have H:=Sd.m h
 have HL:=Sd.m hl
 have HP:=Sd.m hp
 have HLe:=Sd.m hL
 have HA:=Sd.m hA
 have HS:=Sd.m hs
 clear h hl hp hL hA hs
 go_enter Tryz.func159,Tryz.ntmps159
 go_wp2_with fail
 go_loopw [3] (fun t W1=>NameO w0 W g Al cl l Ap cp p i deep out t W1) (fun t _=>(i+2 - intOf t).toNat)
 case atStart=>exact ⟨Or.inl rfl,H.out⟩
 case round=>
  obtain ⟨hb,hS⟩:=hrel
  have c0:=hS.c0
  rcases hb with rfl | rfl
  ·obtain ⟨ad,rfl,hcell⟩:=at_l HL.out hS.B (i+1) (by omega) hi1
   have d0:decide ((0:Int)<=i+1)=true:=dt__ (by omega)
   have d1:decide (i+1<(l.length:Int))=true:=dt__ hi1
   have w2:IntKind.i64.wrap (i+1+1)=i+2:=by rw [show i+1+1=i+2 by omega];exact IntWalk.i64_in _ (by omega)
   have HS1:=Sd.m hS
   clear hS
   go_wp2_with fail
   refine (by_.calls _ true _ HLe.out).mono ?_
   rintro e w' ⟨rfl,⟨nd,rfl⟩⟩
   go_wp2_with fail
   go_roundw
   case rel=>exact ⟨Or.inr rfl,HS1.out.below (ad_ (Below.refl _ _) nd)⟩
   case measure=>simp [intOf]
  ·have hA:=HA.out
   unfold After at hA
   have c2':=hS.c2
   have f2':=hS.fr 2
   have c6':=hS.c6
   have b1:(i+2 == i+1)=false:=by simp
   have b2:decide (16<i+2 - i - 1)=false:=df__ (by omega)
   have w3:IntKind.i64.wrap (i+1)=i+1:=IntWalk.i64_in _ (by omega)
   have s1:(i+2).toNat - (i+1).toNat=1:=by omega
   obtain ⟨ad,rfl,hcell⟩:=at_l HL.out hS.B (i+1) (by omega) hi1
   have hne:(ad.add (i+1).toNat).block≠g:=by
    obtain ⟨ad',e,h3⟩:=Kd.dm_ HL.out (i+1) (by omega) hi1
    injection e with e
    subst e
    have h4:=bl__ w0 _ h3
    obtain ⟨_,_,_,_,h5⟩:=hS
    omega
   have HCE:=Sd.m hcell
   have hS2:=hS.fv_ (i+2)
   rcases hA with hA | ⟨hA1,hA2,hA3,hA4⟩
   ·have d1:decide (i+2<(l.length:Int))=false:=df__ (by omega)
    have HS1:=Sd.m hS
    have HS2:=Sd.m hS2
    have HA0:=Sd.m hA
    clear hS hA hcell hS2
    go_wp2_with fail
    refine (bj_.calls k _ (cl - (i+1).toNat) [rd l (i+1)] s _ (C_one ((World.cell?_setCell_far _ _ _ _ (fun e=>hne e.symm)).trans HCE.out)) (by simp;omega) HS.out).mono ?_
    rintro e W2 ⟨rfl,hb2⟩
    have HL2:=Sd.m (HS2.out.below hb2)
    clear hb2
    go_wp2_with fail
    refine (cv_ w0 W2 g _ cl l Ap cp p (i+2) deep out HL2.out HP.out hpl hol 1 s 0 0 0 i hi0 hi2).mono ?_
    rintro e W3 ⟨rfl,hL3⟩
    have HL3:=Sd.m hL3
    clear hL3
    go_wp2_with fail
    refine Great.bodyPost_end0 rfl rfl ?_
    exact ⟨rfl,HL3.out⟩
   ·have d1:decide (i+2<(l.length:Int))=true:=dt__ (by omega)
    have d0:decide ((0:Int)<=i+2)=true:=dt__ (by omega)
    have d3:decide (i+1<i+2)=true:=dt__ (by omega)
    obtain ⟨ad2,e2,hcell2⟩:=at_l HL.out hS.B (i+2) (by omega) hA1
    obtain rfl:ad=ad2:=by injection e2
    have b3:(rd l (i+2) == 95)=false:=by simpa using hA4
    have HSN: ∀ a:Nat,LexAt w0 ((wr.drewN a).setCell ⟨g,2,none⟩ (.int .i64 (i+2))) g (some ad) cl l Ap cp p (i+2) deep out:=fun a=>(hS.below (ad_ (Below.refl _ _) a)).fv_ (i+2)
    have HSN:=Sd.m HSN
    have HCN: ∀ a:Nat,((wr.drewN a).setCell ⟨g,2,none⟩ (.int .i64 (i+2))).cell? (ad.add (i+1).toNat)=some (.int .i64 (rd l (i+1))):=fun a=>(World.cell?_setCell_far _ ⟨g,2,none⟩ _ _ (fun e=>hne e.symm)).trans hcell
    have HCN:=Sd.m HCN
    have HA2:=Sd.m hA2
    have HA3:=Sd.m hA3
    clear hS hA2 hA3 hA4 hcell hS2 e2
    have q0:0<=i+2:=by omega
    go_wp2_with fail
    refine (by_.calls _ false _ HA2.out).mono ?_
    rintro e w' ⟨rfl,⟨nd,rfl⟩⟩
    go_wp2_with fail
    refine (bs_.calls _ false _ HA3.out).mono ?_
    rintro e w' ⟨rfl,⟨nd2,rfl⟩⟩
    go_wp2_with fail
    refine (bj_.calls k _ (cl - (i+1).toNat) [rd l (i+1)] s _ (C_one (HCN.out (nd+nd2))) (by simp;omega) HS.out).mono ?_
    rintro e W2 ⟨rfl,hb2⟩
    have HL2:=Sd.m ((HSN.out (nd+nd2)).below hb2)
    clear hb2
    go_wp2_with fail
    refine (cv_ w0 W2 g _ cl l Ap cp p (i+2) deep out HL2.out HP.out hpl hol 1 s 0 0 0 i hi0 hi2).mono ?_
    rintro e W3 ⟨rfl,hL3⟩
    have HL3:=Sd.m hL3
    clear hL3
    go_wp2_with fail
    refine Great.bodyPost_end0 rfl rfl ?_
    exact ⟨rfl,HL3.out⟩
def CharO (w0:World)(g:Nat)(Al:Option Addr)(cl:Nat)(l:List Int)(Ap:Option Addr)(cp:Nat)(p:List Int)(i deep:Int)(out:List S159)(t:Value)(W1:World):Prop:=(t=.int .i64 0∨t=.int .i64 1∨t=.int .i64 2∨t=.int .i64 3∨t=.int .i64 4∨t=.int .i64 5∨t=.int .i64 6∨t=.int .i64 7∨t=.int .i64 8)∧LexAt w0 W1 g Al cl l Ap cp p i deep out
def NoSign (c:Int):Prop:=c≠91∧c≠93∧c≠38∧c≠45∧c≠36∧c≠35∧c≠94∧c≠10
theorem he_ (w0 W:World)(g:Nat)(Al:Option Addr)(cl:Nat)(l:List Int)(Ap:Option Addr)(cp:Nat)(p:List Int)(i deep:Int)(out:List S159)(h:LexAt w0 W g Al cl l Ap cp p i deep out)
  (hl:Kd.C (Kd.int .i64) w0 Al l.length l) (hcl:l.length<=cl) (hi0:0<=i) (hi1:i<l.length) (hll:l.length<=1000000)
  (hn:NoSign (rd l i)) (k:Nat) (c nx:Int) (hr:ax_.f k l i=some (c,nx,0)):
  Calls Tryz.prog 160 #[.pointer (some ⟨g,0,none⟩)] W fun e W1=>e=.returned (.int .i64 c)∧LexAt w0 W1 g Al cl l Ap cp p nx deep out:=by
 have c2:=h.c2
 have c0:=h.c0
 have b1:(i == (l.length:Int))=false:=by simp;omega
 have H:=Sd.m h
 have HL:=Sd.m hl
 have HN:=Sd.m hn
 have HR:=Sd.m hr
 clear h hl hn hr
 go_enter Tryz.func160,Tryz.ntmps160
 go_wp2_with fail
 go_loopw [5] (fun t W1=>CharO w0 g Al cl l Ap cp p i deep out t W1) (fun t _=>(8 - intOf t).toNat)
 case atStart=>exact ⟨Or.inl rfl,H.out⟩
 case round=>
  obtain ⟨hk,hS⟩:=hrel
  have c0:=hS.c0
  have c2:=hS.c2
  have f2:=hS.fr 2
  obtain ⟨ad,rfl,hcell⟩:=at_l HL.out hS.B i (by omega) hi1
  have d0:decide ((0:Int)<=i)=true:=dt__ hi0
  have d1:decide (i<(l.length:Int))=true:=dt__ hi1
  obtain ⟨n1,n2,n3,n4,n5,n6,n7,n8⟩:=HN.out
  have HS1:=Sd.m hS
  clear hS
  rcases hk with rfl | rfl | rfl | rfl | rfl | rfl | rfl | rfl | rfl
  ·have b2:(rd l i == 91)=false:=by simpa using n1
   have e2:wrap64 (((⟨#[91,93,38,45,36,35,94,10]⟩:ByteArray)[0]'(by decide)).toNat:Int)=91:=by kernel_rfl
   clear n1 n2 n3 n4 n5 n6 n7 n8
   go_wp2_with fail
   go_quiet (fail)
   go_wp2_with fail
   go_roundw
   case rel=>exact ⟨by simp,HS1.out.below (ad_ (Below.refl _ _) _)⟩
   case measure=>simp [intOf]
  ·have b2:(rd l i == 93)=false:=by simpa using n2
   have e2:wrap64 (((⟨#[91,93,38,45,36,35,94,10]⟩:ByteArray)[1]'(by decide)).toNat:Int)=93:=by kernel_rfl
   clear n1 n2 n3 n4 n5 n6 n7 n8
   go_wp2_with fail
   go_quiet (fail)
   go_wp2_with fail
   go_roundw
   case rel=>exact ⟨by simp,HS1.out.below (ad_ (Below.refl _ _) _)⟩
   case measure=>simp [intOf]
  ·have b2:(rd l i == 38)=false:=by simpa using n3
   have e2:wrap64 (((⟨#[91,93,38,45,36,35,94,10]⟩:ByteArray)[2]'(by decide)).toNat:Int)=38:=by kernel_rfl
   clear n1 n2 n3 n4 n5 n6 n7 n8
   go_wp2_with fail
   go_quiet (fail)
   go_wp2_with fail
   go_roundw
   case rel=>exact ⟨by simp,HS1.out.below (ad_ (Below.refl _ _) _)⟩
   case measure=>simp [intOf]
  ·have b2:(rd l i == 45)=false:=by simpa using n4
   have e2:wrap64 (((⟨#[91,93,38,45,36,35,94,10]⟩:ByteArray)[3]'(by decide)).toNat:Int)=45:=by kernel_rfl
   clear n1 n2 n3 n4 n5 n6 n7 n8
   go_wp2_with fail
   go_quiet (fail)
   go_wp2_with fail
   go_roundw
   case rel=>exact ⟨by simp,HS1.out.below (ad_ (Below.refl _ _) _)⟩
   case measure=>simp [intOf]
  ·have b2:(rd l i == 36)=false:=by simpa using n5
   have e2:wrap64 (((⟨#[91,93,38,45,36,35,94,10]⟩:ByteArray)[4]'(by decide)).toNat:Int)=36:=by kernel_rfl
   clear n1 n2 n3 n4 n5 n6 n7 n8
   go_wp2_with fail
   go_quiet (fail)
   go_wp2_with fail
   go_roundw
   case rel=>exact ⟨by simp,HS1.out.below (ad_ (Below.refl _ _) _)⟩
   case measure=>simp [intOf]
  ·have b2:(rd l i == 35)=false:=by simpa using n6
   have e2:wrap64 (((⟨#[91,93,38,45,36,35,94,10]⟩:ByteArray)[5]'(by decide)).toNat:Int)=35:=by kernel_rfl
   clear n1 n2 n3 n4 n5 n6 n7 n8
   go_wp2_with fail
   go_quiet (fail)
   go_wp2_with fail
   go_roundw
   case rel=>exact ⟨by simp,HS1.out.below (ad_ (Below.refl _ _) _)⟩
   case measure=>simp [intOf]
  ·have b2:(rd l i == 94)=false:=by simpa using n7
   have e2:wrap64 (((⟨#[91,93,38,45,36,35,94,10]⟩:ByteArray)[6]'(by decide)).toNat:Int)=94:=by kernel_rfl
   clear n1 n2 n3 n4 n5 n6 n7 n8
   go_wp2_with fail
   go_quiet (fail)
   go_wp2_with fail
   go_roundw
   case rel=>exact ⟨by simp,HS1.out.below (ad_ (Below.refl _ _) _)⟩
   case measure=>simp [intOf]
  ·have b2:(rd l i == 10)=false:=by simpa using n8
   have e2:wrap64 (((⟨#[91,93,38,45,36,35,94,10]⟩:ByteArray)[7]'(by decide)).toNat:Int)=10:=by kernel_rfl
   clear n1 n2 n3 n4 n5 n6 n7 n8
   go_wp2_with fail
   go_quiet (fail)
   go_wp2_with fail
   go_roundw
   case rel=>exact ⟨by simp,HS1.out.below (ad_ (Below.refl _ _) _)⟩
   case measure=>simp [intOf]
  ·clear n1 n2 n3 n4 n5 n6 n7 n8
   have HC:=Sd.m (Kd.C_below HL.out HS1.out.B)
   clear hcell
   go_wp2_with fail
   refine (ax_.calls k (some ad) cl l i c nx 0 wr HC.out hcl HR.out).mono ?_
   rintro e w' ⟨rfl,⟨nd,rfl⟩⟩
   go_wp2_with fail
   go_ret
   exact ⟨rfl,(HS1.out.below (ad_ (Below.refl _ _) nd)).fv_ nx⟩
theorem set_open (w0 W:World)(g:Nat)(Al:Option Addr)(cl:Nat)(l:List Int)(Ap:Option Addr)(cp:Nat)(p:List Int)(i deep:Int)(out:List S159)(h:LexAt w0 W g Al cl l Ap cp p i deep out)
  (hl:Kd.C (Kd.int .i64) w0 Al l.length l) (hcl:l.length<=cl) (hp:Kd.C (Kd.int .i64) w0 Ap p.length p) (hpl:p.length<=1000000) (hol:out.length<=1000000) (ho0:0<out.length) (hi0:0<=i) (hi1:i<l.length) (hi2:i<p.length) (hll:l.length<=1000000)
  (hd0:0<=deep) (hd1:deep<=1000000) (hx1:i+1<l.length) (hne:rd l (i+1)≠94) (hc0:rd l i=91):
  Calls Tryz.prog 122 #[.pointer (some ⟨g,0,none⟩)] W fun e W1=>e=.returned (.tuple #[])∧LexAt w0 W1 g Al cl l Ap cp p (i+1) (deep+1) (out ++ [⟨13,⟨#[]⟩,0,0,rd p i⟩]):=by
 have c2:=h.c2
 have f2:=h.fr 2
 have c3:=h.c3
 have c0:=h.c0
 have c6:=h.c6
 obtain ⟨ad,rfl,hcell⟩:=at_l hl h.B i hi0 hi1
 have d0:decide ((0:Int)<=i)=true:=dt__ hi0
 have d1:decide (i<(l.length:Int))=true:=dt__ hi1
 have hA: ∃ A c,W.cell? ⟨g,4,none⟩=some (.slice A out.length c)∧k159.C W A out.length out:=by
  obtain ⟨A,c,hb,_,_,hc,_⟩:=h.cells
  exact ⟨A,c,(ae_ hb 4).trans rfl,hc⟩
 obtain ⟨A,c,c4,hc⟩:=hA
 obtain ⟨m,em⟩: ∃ m,(out.length:Int) - 1=m:=⟨_,rfl⟩
 have m0:0<=m:=by omega
 have m1:m<(out.length:Int):=by omega
 obtain ⟨at0,rfl,t0,_⟩:=fn_ hc m m0 m1
 obtain ⟨kd,hkd⟩: ∃ kd,kd=(ac_ out m).f0:=⟨_,rfl⟩
 rw [←hkd] at t0
 have w1:IntKind.i64.wrap ((out.length:Int) - 1)=m:=by rw [em];exact IntWalk.i64_in _ (by omega)
 have w2:IntKind.i64.wrap (i+1)=i+1:=IntWalk.i64_in _ (by omega)
 have d2:decide ((0:Int)<(out.length:Int))=true:=dt__ (by omega)
 have d3:decide (0<out.length)=true:=dt__ ho0
 have e91:(rd l i == 91)=true:=by simpa using hc0
 have HNE:=Sd.m hne
 have HB:=Sd.m (fun n=>h.below (ad_ (Below.refl W.heap.size W) n))
 have H:=Sd.m h
 have HL:=Sd.m hl
 have HP:=Sd.m hp
 clear h hl hp hc hkd hc0 hne
 go_enter Tryz.func122,Tryz.ntmps122
 go_wp2_with fail
 go_quiet (fail)
 go_wp2_with fail
 refine (je_ w0 _ g _ cl l Ap cp p i deep out (HB.out _) HL.out HP.out hpl hol hi0 hx1 hi2 hd0 hd1 hll HNE.out).mono ?_
 rintro e W2 ⟨rfl,hL2⟩
 have HL2:=Sd.m hL2
 clear hL2
 go_wp2_with fail
 refine Great.bodyPost_end0 rfl rfl ?_
 exact ⟨rfl,HL2.out⟩
theorem set_close (w0 W:World)(g:Nat)(Al:Option Addr)(cl:Nat)(l:List Int)(Ap:Option Addr)(cp:Nat)(p:List Int)(i deep:Int)(out:List S159)(h:LexAt w0 W g Al cl l Ap cp p i deep out)
  (hl:Kd.C (Kd.int .i64) w0 Al l.length l) (hcl:l.length<=cl) (hp:Kd.C (Kd.int .i64) w0 Ap p.length p) (hpl:p.length<=1000000) (hol:out.length<=1000000) (ho0:0<out.length) (hi0:0<=i) (hi1:i<l.length) (hi2:i<p.length) (hll:l.length<=1000000)
  (hd0:0<=deep) (hd1:deep<=1000000) (hc0:rd l i=93):
  Calls Tryz.prog 122 #[.pointer (some ⟨g,0,none⟩)] W fun e W1=>e=.returned (.tuple #[])∧LexAt w0 W1 g Al cl l Ap cp p (i+1) (deep - 1) (out ++ [⟨14,⟨#[]⟩,0,0,rd p i⟩]):=by
 have c2:=h.c2
 have f2:=h.fr 2
 have c3:=h.c3
 have c0:=h.c0
 have c6:=h.c6
 obtain ⟨ad,rfl,hcell⟩:=at_l hl h.B i hi0 hi1
 have d0:decide ((0:Int)<=i)=true:=dt__ hi0
 have d1:decide (i<(l.length:Int))=true:=dt__ hi1
 have hA: ∃ A c,W.cell? ⟨g,4,none⟩=some (.slice A out.length c)∧k159.C W A out.length out:=by
  obtain ⟨A,c,hb,_,_,hc,_⟩:=h.cells
  exact ⟨A,c,(ae_ hb 4).trans rfl,hc⟩
 obtain ⟨A,c,c4,hc⟩:=hA
 obtain ⟨m,em⟩: ∃ m,(out.length:Int) - 1=m:=⟨_,rfl⟩
 have m0:0<=m:=by omega
 have m1:m<(out.length:Int):=by omega
 obtain ⟨at0,rfl,t0,_⟩:=fn_ hc m m0 m1
 obtain ⟨kd,hkd⟩: ∃ kd,kd=(ac_ out m).f0:=⟨_,rfl⟩
 rw [←hkd] at t0
 have w1:IntKind.i64.wrap ((out.length:Int) - 1)=m:=by rw [em];exact IntWalk.i64_in _ (by omega)
 have w2:IntKind.i64.wrap (i+1)=i+1:=IntWalk.i64_in _ (by omega)
 have d2:decide ((0:Int)<(out.length:Int))=true:=dt__ (by omega)
 have d3:decide (0<out.length)=true:=dt__ ho0
 have e91:(rd l i == 91)=false:=by rw [hc0];decide
 have e93:(rd l i == 93)=true:=by simpa using hc0
 have w3:IntKind.i64.wrap (deep - 1)=deep - 1:=IntWalk.i64_in _ (by omega)
 have HB:=Sd.m (fun n=>h.below (ad_ (Below.refl W.heap.size W) n))
 have H:=Sd.m h
 have HL:=Sd.m hl
 have HP:=Sd.m hp
 clear h hl hp hc hkd hc0
 go_enter Tryz.func122,Tryz.ntmps122
 go_wp2_with fail
 go_quiet (fail)
 go_wp2_with fail
 refine (cv_ w0 _ g _ cl l Ap cp p i deep out (HB.out _) HP.out hpl hol 14 ⟨#[]⟩ 0 0 0 i hi0 hi2).mono ?_
 rintro e W2 ⟨rfl,hL2⟩
 have c2:=hL2.c2
 have f2:=hL2.fr 2
 have c3:=hL2.c3
 have f3:=hL2.fr 3
 have hL3:=(hL2.set_d (deep - 1)).fv_ (i+1)
 have HL3:=Sd.m hL3
 clear hL2 hL3
 go_wp2_with fail
 refine Great.bodyPost_end0 rfl rfl ?_
 exact ⟨rfl,HL3.out⟩
theorem set_name (w0 W:World)(g:Nat)(Al:Option Addr)(cl:Nat)(l:List Int)(Ap:Option Addr)(cp:Nat)(p:List Int)(i deep:Int)(out:List S159)(h:LexAt w0 W g Al cl l Ap cp p i deep out)
  (hl:Kd.C (Kd.int .i64) w0 Al l.length l) (hcl:l.length<=cl) (hp:Kd.C (Kd.int .i64) w0 Ap p.length p) (hpl:p.length<=1000000) (hol:out.length<=1000000) (ho0:0<out.length) (hi0:0<=i) (hi1:i<l.length) (hi2:i<p.length) (hll:l.length<=1000000)
  (hc0:rd l i=36) (hx1:i+1<l.length) (hL:by_.f (rd l (i+1))=some true) (hA:After l (i+2)) (k:Nat) (s:ByteArray) (hs:bj_.f k [rd l (i+1)]=some s):
  Calls Tryz.prog 122 #[.pointer (some ⟨g,0,none⟩)] W fun e W1=>e=.returned (.tuple #[])∧LexAt w0 W1 g Al cl l Ap cp p (i+2) deep (out ++ [⟨1,s,0,0,rd p i⟩]):=by
 have c2:=h.c2
 have f2:=h.fr 2
 have c3:=h.c3
 have c0:=h.c0
 have c6:=h.c6
 obtain ⟨ad,rfl,hcell⟩:=at_l hl h.B i hi0 hi1
 have d0:decide ((0:Int)<=i)=true:=dt__ hi0
 have d1:decide (i<(l.length:Int))=true:=dt__ hi1
 have hA: ∃ A c,W.cell? ⟨g,4,none⟩=some (.slice A out.length c)∧k159.C W A out.length out:=by
  obtain ⟨A,c,hb,_,_,hc,_⟩:=h.cells
  exact ⟨A,c,(ae_ hb 4).trans rfl,hc⟩
 obtain ⟨A,c,c4,hc⟩:=hA
 obtain ⟨m,em⟩: ∃ m,(out.length:Int) - 1=m:=⟨_,rfl⟩
 have m0:0<=m:=by omega
 have m1:m<(out.length:Int):=by omega
 obtain ⟨at0,rfl,t0,_⟩:=fn_ hc m m0 m1
 obtain ⟨kd,hkd⟩: ∃ kd,kd=(ac_ out m).f0:=⟨_,rfl⟩
 rw [←hkd] at t0
 have w1:IntKind.i64.wrap ((out.length:Int) - 1)=m:=by rw [em];exact IntWalk.i64_in _ (by omega)
 have w2:IntKind.i64.wrap (i+1)=i+1:=IntWalk.i64_in _ (by omega)
 have d2:decide ((0:Int)<(out.length:Int))=true:=dt__ (by omega)
 have d3:decide (0<out.length)=true:=dt__ ho0
 have e91:(rd l i == 91)=false:=by rw [hc0];decide
 have e93:(rd l i == 93)=false:=by rw [hc0];decide
 have e38:(rd l i == 38)=false:=by rw [hc0];decide
 have e36:(rd l i == 36)=true:=by simpa using hc0
 have HB:=Sd.m (fun n=>h.below (ad_ (Below.refl W.heap.size W) n))
 have HLE:=Sd.m hL
 have HAF:=Sd.m hA
 have HSS:=Sd.m hs
 have H:=Sd.m h
 have HL:=Sd.m hl
 have HP:=Sd.m hp
 clear h hl hp hc hkd hc0 hL hA hs
 go_enter Tryz.func122,Tryz.ntmps122
 go_wp2_with fail
 go_quiet (fail)
 go_wp2_with fail
 refine (jh_ w0 _ g _ cl l Ap cp p i deep out (HB.out _) HL.out hcl HP.out hpl hol hi0 hx1 hi2 hll HLE.out HAF.out k s HSS.out).mono ?_
 rintro e W2 ⟨rfl,hL2⟩
 have HL2:=Sd.m hL2
 clear hL2
 go_wp2_with fail
 refine Great.bodyPost_end0 rfl rfl ?_
 exact ⟨rfl,HL2.out⟩
theorem set_less (w0 W:World)(g:Nat)(Al:Option Addr)(cl:Nat)(l:List Int)(Ap:Option Addr)(cp:Nat)(p:List Int)(i deep:Int)(out:List S159)(h:LexAt w0 W g Al cl l Ap cp p i deep out)
  (hl:Kd.C (Kd.int .i64) w0 Al l.length l) (hcl:l.length<=cl) (hp:Kd.C (Kd.int .i64) w0 Ap p.length p) (hpl:p.length<=1000000) (hol:out.length<=1000000) (ho0:0<out.length) (hi0:0<=i) (hi1:i<l.length) (hi2:i<p.length) (hll:l.length<=1000000)
  (hc0:rd l i=45) (hk:(ac_ out ((out.length:Int) - 1)).f0=14∨(ac_ out ((out.length:Int) - 1)).f0=1):
  Calls Tryz.prog 122 #[.pointer (some ⟨g,0,none⟩)] W fun e W1=>e=.returned (.tuple #[])∧LexAt w0 W1 g Al cl l Ap cp p (i+1) deep (out ++ [⟨17,⟨#[]⟩,0,0,rd p i⟩]):=by
 have c2:=h.c2
 have f2:=h.fr 2
 have c3:=h.c3
 have c0:=h.c0
 have c6:=h.c6
 obtain ⟨ad,rfl,hcell⟩:=at_l hl h.B i hi0 hi1
 have d0:decide ((0:Int)<=i)=true:=dt__ hi0
 have d1:decide (i<(l.length:Int))=true:=dt__ hi1
 have hA: ∃ A c,W.cell? ⟨g,4,none⟩=some (.slice A out.length c)∧k159.C W A out.length out:=by
  obtain ⟨A,c,hb,_,_,hc,_⟩:=h.cells
  exact ⟨A,c,(ae_ hb 4).trans rfl,hc⟩
 obtain ⟨A,c,c4,hc⟩:=hA
 obtain ⟨m,em⟩: ∃ m,(out.length:Int) - 1=m:=⟨_,rfl⟩
 have m0:0<=m:=by omega
 have m1:m<(out.length:Int):=by omega
 obtain ⟨at0,rfl,t0,_⟩:=fn_ hc m m0 m1
 obtain ⟨kd,hkd⟩: ∃ kd,kd=(ac_ out m).f0:=⟨_,rfl⟩
 rw [←hkd] at t0
 have w1:IntKind.i64.wrap ((out.length:Int) - 1)=m:=by rw [em];exact IntWalk.i64_in _ (by omega)
 have w2:IntKind.i64.wrap (i+1)=i+1:=IntWalk.i64_in _ (by omega)
 have d2:decide ((0:Int)<(out.length:Int))=true:=dt__ (by omega)
 have d3:decide (0<out.length)=true:=dt__ ho0
 have e91:(rd l i == 91)=false:=by rw [hc0];decide
 have e93:(rd l i == 93)=false:=by rw [hc0];decide
 have e38:(rd l i == 38)=false:=by rw [hc0];decide
 have e36:(rd l i == 36)=false:=by rw [hc0];decide
 have e45:(rd l i == 45)=true:=by simpa using hc0
 have HK:(kd == 14)=true∨((kd == 14)=false∧(kd == 1)=true):=by rw [em] at hk;rw [hkd];rcases hk with e | e <;> rw [e] <;> decide
 have HK:=Sd.m HK
 have HB:=Sd.m (fun n=>h.below (ad_ (Below.refl W.heap.size W) n))
 have H:=Sd.m h
 have HL:=Sd.m hl
 have HP:=Sd.m hp
 clear h hl hp hc hkd hc0 hk
 rcases HK.out with k14 | ⟨k14,k1⟩ <;> (go_enter Tryz.func122,Tryz.ntmps122;go_wp2_with fail;go_quiet (fail);go_wp2_with fail)
 all_goals
  refine (cv_ w0 _ g _ cl l Ap cp p i deep out (HB.out _) HP.out hpl hol 17 ⟨#[]⟩ 0 0 0 i hi0 hi2).mono ?_
  rintro e W2 ⟨rfl,hL2⟩
  have c2:=hL2.c2
  have f2:=hL2.fr 2
  have hL3:=hL2.fv_ (i+1)
  have HL3:=Sd.m hL3
  clear hL2 hL3
  go_wp2_with fail
  refine Great.bodyPost_end0 rfl rfl ?_
  exact ⟨rfl,HL3.out⟩
theorem set_range (w0 W:World)(g:Nat)(Al:Option Addr)(cl:Nat)(l:List Int)(Ap:Option Addr)(cp:Nat)(p:List Int)(i deep:Int)(out:List S159)(h:LexAt w0 W g Al cl l Ap cp p i deep out)
  (hl:Kd.C (Kd.int .i64) w0 Al l.length l) (hcl:l.length<=cl) (hp:Kd.C (Kd.int .i64) w0 Ap p.length p) (hpl:p.length<=1000000) (hol:out.length<=1000000) (ho0:0<out.length) (hi0:0<=i) (hi1:i<l.length) (hi2:i<p.length) (hll:l.length<=1000000)
  (hn:NoSign (rd l i)) (k:Nat) (x nx:Int) (hr:ax_.f k l i=some (x,nx,0)) (hnx0:0<=nx) (hnx1:nx<l.length) (hm:rd l nx=45) (hny1:nx+1<l.length) (hn2:NoSign (rd l (nx+1))) (y ny:Int) (hr2:ax_.f k l (nx+1)=some (y,ny,0)) (hxy:x<=y):
  Calls Tryz.prog 122 #[.pointer (some ⟨g,0,none⟩)] W fun e W1=>e=.returned (.tuple #[])∧LexAt w0 W1 g Al cl l Ap cp p ny deep (out ++ [⟨15,⟨#[]⟩,x,y,rd p i⟩]):=by
 have c2:=h.c2
 have f2:=h.fr 2
 have c3:=h.c3
 have c0:=h.c0
 have c6:=h.c6
 obtain ⟨ad,rfl,hcell⟩:=at_l hl h.B i hi0 hi1
 have d0:decide ((0:Int)<=i)=true:=dt__ hi0
 have d1:decide (i<(l.length:Int))=true:=dt__ hi1
 have hA: ∃ A c,W.cell? ⟨g,4,none⟩=some (.slice A out.length c)∧k159.C W A out.length out:=by
  obtain ⟨A,c,hb,_,_,hc,_⟩:=h.cells
  exact ⟨A,c,(ae_ hb 4).trans rfl,hc⟩
 obtain ⟨A,c,c4,hc⟩:=hA
 obtain ⟨m,em⟩: ∃ m,(out.length:Int) - 1=m:=⟨_,rfl⟩
 have m0:0<=m:=by omega
 have m1:m<(out.length:Int):=by omega
 obtain ⟨at0,rfl,t0,_⟩:=fn_ hc m m0 m1
 obtain ⟨kd,hkd⟩: ∃ kd,kd=(ac_ out m).f0:=⟨_,rfl⟩
 rw [←hkd] at t0
 have w1:IntKind.i64.wrap ((out.length:Int) - 1)=m:=by rw [em];exact IntWalk.i64_in _ (by omega)
 have w2:IntKind.i64.wrap (i+1)=i+1:=IntWalk.i64_in _ (by omega)
 have d2:decide ((0:Int)<(out.length:Int))=true:=dt__ (by omega)
 have d3:decide (0<out.length)=true:=dt__ ho0
 have e91:(rd l i == 91)=false:=by obtain ⟨q,_⟩:=hn;simpa using q
 have e93:(rd l i == 93)=false:=by obtain ⟨_,q,_⟩:=hn;simpa using q
 have e38:(rd l i == 38)=false:=by obtain ⟨_,_,q,_⟩:=hn;simpa using q
 have e45:(rd l i == 45)=false:=by obtain ⟨_,_,_,q,_⟩:=hn;simpa using q
 have e36:(rd l i == 36)=false:=by obtain ⟨_,_,_,_,q,_⟩:=hn;simpa using q
 have HB:=Sd.m (fun n=>h.below (ad_ (Below.refl W.heap.size W) n))
 have HN:=Sd.m hn
 have HR:=Sd.m hr
 have HM:=Sd.m hm
 have HN2:=Sd.m hn2
 have HR2:=Sd.m hr2
 have w3:IntKind.i64.wrap (nx+1)=nx+1:=IntWalk.i64_in _ (by omega)
 have dxy:decide (y<x)=false:=df__ (by omega)
 have H:=Sd.m h
 have HL:=Sd.m hl
 have HP:=Sd.m hp
 clear h hl hp hc hkd hn hr hm hn2 hr2
 go_enter Tryz.func122,Tryz.ntmps122
 go_wp2_with fail
 go_quiet (fail)
 go_wp2_with fail
 refine (he_ w0 _ g _ cl l Ap cp p i deep out (HB.out _) HL.out hcl hi0 hi1 hll HN.out k x nx HR.out).mono ?_
 rintro e W2 ⟨rfl,hL2⟩
 have c6:=hL2.c6
 have c2:=hL2.c2
 have HL2:=Sd.m hL2
 clear hL2
 go_wp2_with fail
 refine (is_in w0 W2 g _ cl l Ap cp p nx deep out HL2.out HL.out nx 45 hnx0 hnx1).mono ?_
 rintro e W3 ⟨rfl,hL3,hb3⟩
 have e45':(rd l nx == 45)=true:=by rw [HM.out];decide
 have c2:=hL3.c2
 have f2:=hL3.fr 2
 have HL3:=Sd.m (hL3.fv_ (nx+1))
 clear hL3 hb3
 go_wp2_with fail
 refine (he_ w0 _ g _ cl l Ap cp p (nx+1) deep out HL3.out HL.out hcl (by omega) hny1 hll HN2.out k y ny HR2.out).mono ?_
 rintro e W4 ⟨rfl,hL4⟩
 have c6:=hL4.c6
 have HL4:=Sd.m hL4
 clear hL4
 go_wp2_with fail
 refine (cv_ w0 W4 g _ cl l Ap cp p ny deep out HL4.out HP.out hpl hol 15 ⟨#[]⟩ x y 0 i hi0 hi2).mono ?_
 rintro e W5 ⟨rfl,hL5⟩
 have HL5:=Sd.m hL5
 clear hL5
 go_wp2_with fail
 refine Great.bodyPost_end0 rfl rfl ?_
 exact ⟨rfl,HL5.out⟩
theorem set_char (w0 W:World)(g:Nat)(Al:Option Addr)(cl:Nat)(l:List Int)(Ap:Option Addr)(cp:Nat)(p:List Int)(i deep:Int)(out:List S159)(h:LexAt w0 W g Al cl l Ap cp p i deep out)
  (hl:Kd.C (Kd.int .i64) w0 Al l.length l) (hcl:l.length<=cl) (hp:Kd.C (Kd.int .i64) w0 Ap p.length p) (hpl:p.length<=1000000) (hol:out.length<=1000000) (ho0:0<out.length) (hi0:0<=i) (hi1:i<l.length) (hi2:i<p.length) (hll:l.length<=1000000)
  (hn:NoSign (rd l i)) (k:Nat) (x nx:Int) (hr:ax_.f k l i=some (x,nx,0)) (hnx0:0<=nx) (hnx1:nx<l.length) (hm:rd l nx≠45):
  Calls Tryz.prog 122 #[.pointer (some ⟨g,0,none⟩)] W fun e W1=>e=.returned (.tuple #[])∧LexAt w0 W1 g Al cl l Ap cp p nx deep (out ++ [⟨15,⟨#[]⟩,x,x,rd p i⟩]):=by
 have c2:=h.c2
 have f2:=h.fr 2
 have c3:=h.c3
 have c0:=h.c0
 have c6:=h.c6
 obtain ⟨ad,rfl,hcell⟩:=at_l hl h.B i hi0 hi1
 have d0:decide ((0:Int)<=i)=true:=dt__ hi0
 have d1:decide (i<(l.length:Int))=true:=dt__ hi1
 have hA: ∃ A c,W.cell? ⟨g,4,none⟩=some (.slice A out.length c)∧k159.C W A out.length out:=by
  obtain ⟨A,c,hb,_,_,hc,_⟩:=h.cells
  exact ⟨A,c,(ae_ hb 4).trans rfl,hc⟩
 obtain ⟨A,c,c4,hc⟩:=hA
 obtain ⟨m,em⟩: ∃ m,(out.length:Int) - 1=m:=⟨_,rfl⟩
 have m0:0<=m:=by omega
 have m1:m<(out.length:Int):=by omega
 obtain ⟨at0,rfl,t0,_⟩:=fn_ hc m m0 m1
 obtain ⟨kd,hkd⟩: ∃ kd,kd=(ac_ out m).f0:=⟨_,rfl⟩
 rw [←hkd] at t0
 have w1:IntKind.i64.wrap ((out.length:Int) - 1)=m:=by rw [em];exact IntWalk.i64_in _ (by omega)
 have w2:IntKind.i64.wrap (i+1)=i+1:=IntWalk.i64_in _ (by omega)
 have d2:decide ((0:Int)<(out.length:Int))=true:=dt__ (by omega)
 have d3:decide (0<out.length)=true:=dt__ ho0
 have e91:(rd l i == 91)=false:=by obtain ⟨q,_⟩:=hn;simpa using q
 have e93:(rd l i == 93)=false:=by obtain ⟨_,q,_⟩:=hn;simpa using q
 have e38:(rd l i == 38)=false:=by obtain ⟨_,_,q,_⟩:=hn;simpa using q
 have e45:(rd l i == 45)=false:=by obtain ⟨_,_,_,q,_⟩:=hn;simpa using q
 have e36:(rd l i == 36)=false:=by obtain ⟨_,_,_,_,q,_⟩:=hn;simpa using q
 have HB:=Sd.m (fun n=>h.below (ad_ (Below.refl W.heap.size W) n))
 have HN:=Sd.m hn
 have HR:=Sd.m hr
 have HM:=Sd.m hm
 have dxy:decide (x<x)=false:=df__ (by omega)
 have H:=Sd.m h
 have HL:=Sd.m hl
 have HP:=Sd.m hp
 clear h hl hp hc hkd hn hr hm
 go_enter Tryz.func122,Tryz.ntmps122
 go_wp2_with fail
 go_quiet (fail)
 go_wp2_with fail
 refine (he_ w0 _ g _ cl l Ap cp p i deep out (HB.out _) HL.out hcl hi0 hi1 hll HN.out k x nx HR.out).mono ?_
 rintro e W2 ⟨rfl,hL2⟩
 have c6:=hL2.c6
 have c2:=hL2.c2
 have HL2:=Sd.m hL2
 clear hL2
 go_wp2_with fail
 refine (is_in w0 W2 g _ cl l Ap cp p nx deep out HL2.out HL.out nx 45 hnx0 hnx1).mono ?_
 rintro e W3 ⟨rfl,hL3,hb3⟩
 have e45':(rd l nx == 45)=false:=by have:=HM.out;simpa using this
 have c6:=hL3.c6
 have HL3:=Sd.m hL3
 clear hL3 hb3
 go_wp2_with fail
 refine (cv_ w0 W3 g _ cl l Ap cp p nx deep out HL3.out HP.out hpl hol 15 ⟨#[]⟩ x x 0 i hi0 hi2).mono ?_
 rintro e W5 ⟨rfl,hL5⟩
 have HL5:=Sd.m hL5
 clear hL5
 go_wp2_with fail
 refine Great.bodyPost_end0 rfl rfl ?_
 exact ⟨rfl,HL5.out⟩
end LX
namespace K
open A
attribute [local go_sem] ct_ cq_ cz_ cy_ cg_ cf_ cr_ cp_
mutual
def ag_.j1:Nat->List Int->Int->Int->Int->Option (Int × Int × Int)
 | 0,_,_,_,_=>none
 | k+1,x0,x1,x7,x8=>if 0<=x1 then (if x1<(x0.length:Int) then (if (rd x0 x1)=48 then (ag_.j2 k x0 x1 x7 x8 (decide (x7>(wrap64 (x1+1))))) else (ag_.j2 k x0 x1 x7 x8 false)) else (none)) else (none)
def ag_.j2:Nat->List Int->Int->Int->Int->Bool->Option (Int × Int × Int)
 | 0,_,_,_,_,_=>none
 | k+1,x0,x1,x7,x8,x46=>if x46=true then (none) else (if (wrap64 (x7+1))<(x0.length:Int) then (if 0<=x7 then (if x7<(x0.length:Int) then (if (rd x0 x7)=46 then (none) else (ag_.j3 k x0 x7 x8 (decide ((wrap64 (x7 - x1))>3)) 0 false)) else (none)) else (none)) else (ag_.j3 k x0 x7 x8 (decide ((wrap64 (x7 - x1))>3)) 0 false))
def ag_.j3:Nat->List Int->Int->Int->Bool->Int->Bool->Option (Int × Int × Int)
 | 0,_,_,_,_,_,_=>none
 | k+1,x0,x7,x8,x9,x10,x71=>if x71=true then (none) else (if x9=true then (none) else (some (wrap64 ((wrap64 (x8*1000))+x10),x7,0)))
def ag_.j5:Nat->Int->Int->Bool->Int->Int->Option (Int × Int × Int)
 | 0,_,_,_,_,_=>none
 | k+1,x7,x8,x9,x10,x11=>if x9=true then (ag_.j6 k x7 x8 true x10 x11) else (ag_.j6 k x7 x8 (decide ((wrap64 ((wrap64 (x7 - x11)) - 1))>3)) x10 x11)
def ag_.j6:Nat->Int->Int->Bool->Int->Int->Option (Int × Int × Int)
 | 0,_,_,_,_,_=>none
 | k+1,x7,x8,x9,x10,x11=>ag_.l2 k x7 x8 x9 x10 (wrap64 ((wrap64 (x7 - x11)) - 1))
def ag_.l2:Nat->Int->Int->Bool->Int->Int->Option (Int × Int × Int)
 | 0,_,_,_,_,_=>none
 | k+1,x7,x8,x9,x10,x12=>if x12<3 then (ag_.l2 k x7 x8 x9 (wrap64 (x10*10)) (wrap64 (x12+1))) else (if x9=true then (some (0,x7,2)) else (some (wrap64 ((wrap64 (x8*1000))+x10),x7,0)))
def ag_.l1:Nat->List Int->Int->Int->Bool->Int->Int->Option (Int × Int × Int)
 | 0,_,_,_,_,_,_=>none
 | k+1,x0,x7,x8,x9,x10,x11=>if x7<(x0.length:Int) then (if 0<=x7 then ((bs_.f (rd x0 x7)).bind fun t152=>(if t152=true then (ag_.l1 k x0 (wrap64 (x7+1)) x8 x9 (mn 100000 (wrap64 ((wrap64 ((wrap64 (x10*10))+(rd x0 x7))) - 48))) x11) else (ag_.j5 k x7 x8 x9 x10 x11))) else (none)) else (ag_.j5 k x7 x8 x9 x10 x11)
def ag_.l0:Nat->List Int->Int->Int->Int->Option (Int × Int × Int)
 | 0,_,_,_,_=>none
 | k+1,x0,x1,x7,x8=>if x7<(x0.length:Int) then (if 0<=x7 then ((bs_.f (rd x0 x7)).bind fun t145=>(if t145=true then (ag_.l0 k x0 x1 (wrap64 (x7+1)) (mn 100000 (wrap64 ((wrap64 ((wrap64 (x8*10))+(rd x0 x7))) - 48)))) else (ag_.j1 k x0 x1 x7 x8))) else (none)) else (ag_.j1 k x0 x1 x7 x8)
end
def ag_.f (k:Nat)(l0:List Int)(a1:Int):Option (Int × Int × Int):=ag_.l0 k l0 a1 a1 0
theorem ag_.calls (k:Nat)(A0:Option Addr)(c0:Nat)(l0:List Int)(a1:Int)(r1:Int)(r2:Int)(r3:Int)(w:World)(hr0:Kd.C (Kd.int .i64) w A0 l0.length l0)(hc0:l0.length<=c0)(h:ag_.f k l0 a1=some (r1,r2,r3)):
  Calls Tryz.prog 164 #[.slice A0 l0.length c0,.int .i64 a1] w fun e w'=>e=.returned (.tuple #[.int .i64 r1,.int .i64 r2,.int .i64 r3])∧Below w.heap.size w w':=by
 have HR0:=Sd.m hr0
 have HC0:=Sd.m hc0
 clear hr0 hc0
 have HB:=Sd.m (Below.refl w.heap.size w)
 have H:(ag_.l0 k l0 a1 a1 0)=some (r1,r2,r3):=h
 clear h
 have HC3:=Sd.m H
 clear H
 go_enter Tryz.func164,Tryz.ntmps164
 go_upto_block 0 with (fail)
 go_cut [7,8] (fun v7 v8 wc=> ∃ (kq:Nat) (x7_2:Int) (x8_2:Int),v7=.int .i64 x7_2∧v8=.int .i64 x8_2∧Sd (ag_.j1 kq l0 a1 x7_2 x8_2=some (r1,r2,r3))∧Sd (kq<=k)∧Sd (Below w.heap.size w wc))
 case first=>
  have H:=HC3.out
  clear HC3
  have H':=Sd.m H
  clear H
  go_wp2
  go_loopg [7,8] k (fun kq v7 v8 w'=> ∃ (x7_1:Int) (x8_1:Int),v7=.int .i64 x7_1∧v8=.int .i64 x8_1∧Sd (ag_.l0 kq l0 a1 x7_1 x8_1=some (r1,r2,r3))∧Sd (kq<=k)∧Sd (Below w.heap.size w w'))
  case atStart=>exact ⟨(a1),(0),ri_,ri_,H',⟨Nat.le_refl _⟩,⟨rb_⟩⟩
  case round=>
   clear H'
   obtain ⟨x7_1,x8_1,rfl,rfl,HA,HK1,HB⟩:=hrel
   cases gk with
   | zero=>exact absurd HA.out (by simp [ag_.l0])
   | succ k1=>
    have H:=HA.out
    clear HA
    simp only [ag_.l0] at H
    by_cases c4:x7_1<(l0.length:Int)
    ·rw [if_pos c4] at H
     have c4b0:=dt__ c4
     clear c4
     (first | rw [c4b0] | (simp only [dq_,dt_];rw [c4b0]) | skip)
     by_cases c5:0<=x7_1
     ·rw [if_pos c5] at H
      have c5b0:=dt__ c5
      clear c5
      replace H:=Option.bind_eq_some_iff.mp H
      obtain ⟨t145,A60,H⟩:=H
      replace H:(if t145=true then (ag_.l0 k1 l0 a1 (wrap64 (x7_1+1)) (mn 100000 (wrap64 ((wrap64 ((wrap64 (x8_1*10))+(rd l0 x7_1))) - 48)))) else (ag_.j1 k1 l0 a1 x7_1 x8_1))=some (r1,r2,r3):=H
      have A6:=Sd.m A60
      clear A60
      by_cases c7:t145=true
      ·subst c7
       have H1:(ag_.l0 k1 l0 a1 (wrap64 (x7_1+1)) (mn 100000 (wrap64 ((wrap64 ((wrap64 (x8_1*10))+(rd l0 x7_1))) - 48))))=some (r1,r2,r3):=by rw [if_pos rfl] at H;exact H
       clear H
       have H:=H1
       clear H1
       obtain ⟨ji8,hji8⟩: ∃ j_:Int,(mn 100000 (wrap64 ((wrap64 ((wrap64 (x8_1*10))+(rd l0 x7_1))) - 48)))=j_:=⟨_,rfl⟩
       replace H:(ag_.l0 k1 l0 a1 (wrap64 (x7_1+1)) ji8)=some (r1,r2,r3):=by first | (rw [hji8] at H;exact H) | (simp only [hji8] at H ⊢;exact H)
       (try rw [hji8] at A6)
       have hji8_:(if (wrap64 ((wrap64 ((wrap64 (x8_1*10))+(rd l0 x7_1))) - 48))<100000 then (wrap64 ((wrap64 ((wrap64 (x8_1*10))+(rd l0 x7_1))) - 48)) else 100000)=ji8:=hji8
       have H':=Sd.m H
       clear H
       obtain ⟨ad144,rfl,hx144_0,p144,q144⟩:=ai_ HR0.out HB.out x7_1
       go_wp2_with (first | (go_at_call 163;(with_reducible refine (bs_.calls (rd l0 x7_1) true _ A6.out).mono ?_);rintro e w' ⟨rfl,⟨nd,rfl⟩⟩;have p146:0<=(x7_1:Int):=od_;have q146:x7_1<(l0.length:Int):=od_;obtain ⟨ad146,e146,hx146_0⟩:=Kd.dm_ HR0.out x7_1 p146 q146;obtain rfl:ad144=ad146:=(by injection e146);replace hx146_0:=(HB.out.cell (bl__ w _ hx146_0)).trans hx146_0;replace p146:=eq_true p146;replace q146:=eq_true q146))
       go_roundg k1
       case measure=>have:=HK1.out;omega
       case rel=>exact ⟨(wrap64 (x7_1+1)),(ji8),ri_,(by first | rfl | (simp;done) | (simp only [←hji8] <;> (first | rfl | simp)) | (simp [*];done)),H',⟨by have:=HK1.out;omega⟩,⟨rb_⟩⟩
      ·replace c7:=Bool.eq_false_iff.mpr c7
       subst c7
       have H1:(ag_.j1 k1 l0 a1 x7_1 x8_1)=some (r1,r2,r3):=by rw [if_neg (show ¬ (false=true) by decide)] at H;exact H
       clear H
       have H:=H1
       clear H1
       have H':=Sd.m H
       clear H
       obtain ⟨ad144,rfl,hx144_0,p144,q144⟩:=ai_ HR0.out HB.out x7_1
       go_wp2_with (first | (go_at_call 163;(with_reducible refine (bs_.calls (rd l0 x7_1) false _ A6.out).mono ?_);rintro e w' ⟨rfl,⟨nd,rfl⟩⟩))
       go_meet
       case rel=>exact ⟨_,(x7_1),(x8_1),ri_,ri_,H',⟨by have:=HK1.out;first | omega | exact Nat.le_refl _⟩,⟨rb_⟩⟩
     ·rw [if_neg c5] at H
      exact absurd H (by simp)
    ·rw [if_neg c4] at H
     have c4b0:=df__ c4
     clear c4
     (first | rw [c4b0] | (simp only [dq_,dt_];rw [c4b0]) | skip)
     have H':=Sd.m H
     clear H
     go_wp2
     go_meet
     case rel=>exact ⟨_,(x7_1),(x8_1),ri_,ri_,H',⟨by have:=HK1.out;first | omega | exact Nat.le_refl _⟩,⟨rb_⟩⟩
 case rest=>
  clear HC3
  obtain ⟨kq,x7_2,x8_2,rfl,rfl,HA,HJ2,HB⟩:=hcut
  cases kq with
  | zero=>exact absurd HA.out (by simp [ag_.j1])
  | succ kj2=>
   have H:=HA.out
   clear HA
   simp only [ag_.j1] at H
   have HC9:=Sd.m H
   clear H
   go_upto_region 6 with (fail)
   go_cut [46] (fun v46 wc=> ∃ (kq:Nat) (x46_8:Bool),v46=.bool x46_8∧Sd (ag_.j2 kq l0 a1 x7_2 x8_2 x46_8=some (r1,r2,r3))∧Sd (kq<=kj2)∧Sd (Below w.heap.size w wc))
   case first=>
    have H:=HC9.out
    clear HC9
    by_cases c10:0<=a1
    ·rw [if_pos c10] at H
     have c10b0:=dt__ c10
     clear c10
     (first | rw [c10b0] | (simp only [dq_,dt_];rw [c10b0]) | skip)
     by_cases c11:a1<(l0.length:Int)
     ·rw [if_pos c11] at H
      have c11b0:=dt__ c11
      clear c11
      by_cases c12:(rd l0 a1)=48
      ·rw [if_pos c12] at H
       have c12b0:((rd l0 a1) == 48)=true:=beq_iff_eq.mpr c12
       have c12b1:((rd l0 a1) != 48)=false:=bne_eq_false_iff_eq.mpr c12
       clear c12
       have H':=Sd.m H
       clear H
       obtain ⟨ad147,rfl,hx147_0,p147,q147⟩:=ai_ HR0.out HB.out a1
       go_wp2
       go_meet
       case rel=>exact ⟨_,(decide (x7_2>(wrap64 (a1+1)))),ri_,H',⟨by have:=HJ2.out;first | omega | exact Nat.le_refl _⟩,⟨rb_⟩⟩
      ·rw [if_neg c12] at H
       have c12b0:((rd l0 a1) == 48)=false:=beq_eq_false_iff_ne.mpr c12
       have c12b1:((rd l0 a1) != 48)=true:=bne_iff_ne.mpr c12
       have H':=Sd.m H
       clear H
       obtain ⟨ad147,rfl,hx147_0,p147,q147⟩:=ai_ HR0.out HB.out a1
       go_wp2
       go_meet
       case rel=>exact ⟨_,(false),ri_,H',⟨by have:=HJ2.out;first | omega | exact Nat.le_refl _⟩,⟨rb_⟩⟩
     ·rw [if_neg c11] at H
      exact absurd H (by simp)
    ·rw [if_neg c10] at H
     exact absurd H (by simp)
   case rest=>
    clear HC9
    obtain ⟨kq,x46_8,rfl,HA,HJ8,HB⟩:=hcut
    cases kq with
    | zero=>exact absurd HA.out (by simp [ag_.j2])
    | succ kj8=>
     have H:=HA.out
     clear HA
     simp only [ag_.j2] at H
     by_cases c13:x46_8=true
     ·rw [if_pos c13] at H
      exact absurd H (by simp)
     ·replace c13:=Bool.eq_false_iff.mpr c13
      subst c13
      have H1:(if (wrap64 (x7_2+1))<(l0.length:Int) then (if 0<=x7_2 then (if x7_2<(l0.length:Int) then (if (rd l0 x7_2)=46 then (none) else (ag_.j3 kj8 l0 x7_2 x8_2 (decide ((wrap64 (x7_2 - a1))>3)) 0 false)) else (none)) else (none)) else (ag_.j3 kj8 l0 x7_2 x8_2 (decide ((wrap64 (x7_2 - a1))>3)) 0 false))=some (r1,r2,r3):=by rw [if_neg (show ¬ (false=true) by decide)] at H;exact H
      clear H
      have H:=H1
      clear H1
      have HC14:=Sd.m H
      clear H
      go_upto_region 10 with (fail)
      go_cut [71] (fun v71 wc=> ∃ (kq:Nat) (x71_13:Bool),v71=.bool x71_13∧Sd (ag_.j3 kq l0 x7_2 x8_2 (decide ((wrap64 (x7_2 - a1))>3)) 0 x71_13=some (r1,r2,r3))∧Sd (kq<=kj8)∧Sd (Below w.heap.size w wc))
      case first=>
       have H:=HC14.out
       clear HC14
       by_cases c15:(wrap64 (x7_2+1))<(l0.length:Int)
       ·rw [if_pos c15] at H
        have c15b0:=dt__ c15
        clear c15
        (first | rw [c15b0] | (simp only [dq_,dt_];rw [c15b0]) | skip)
        by_cases c16:0<=x7_2
        ·rw [if_pos c16] at H
         have c16b0:=dt__ c16
         clear c16
         by_cases c17:x7_2<(l0.length:Int)
         ·rw [if_pos c17] at H
          have c17b0:=dt__ c17
          clear c17
          by_cases c18:(rd l0 x7_2)=46
          ·rw [if_pos c18] at H
           exact absurd H (by simp)
          ·rw [if_neg c18] at H
           have c18b0:((rd l0 x7_2) == 46)=false:=beq_eq_false_iff_ne.mpr c18
           have c18b1:((rd l0 x7_2) != 46)=true:=bne_iff_ne.mpr c18
           have H':=Sd.m H
           clear H
           obtain ⟨ad148,rfl,hx148_0,p148,q148⟩:=ai_ HR0.out HB.out x7_2
           go_wp2
           go_meet
           case rel=>exact ⟨_,(false),ri_,H',⟨by have:=HJ2.out;have:=HJ8.out;first | omega | exact Nat.le_refl _⟩,⟨rb_⟩⟩
         ·rw [if_neg c17] at H
          exact absurd H (by simp)
        ·rw [if_neg c16] at H
         exact absurd H (by simp)
       ·rw [if_neg c15] at H
        have c15b0:=df__ c15
        clear c15
        (first | rw [c15b0] | (simp only [dq_,dt_];rw [c15b0]) | skip)
        have H':=Sd.m H
        clear H
        go_wp2
        go_meet
        case rel=>exact ⟨_,(false),ri_,H',⟨by have:=HJ2.out;have:=HJ8.out;first | omega | exact Nat.le_refl _⟩,⟨rb_⟩⟩
      case rest=>
       clear HC14
       obtain ⟨kq,x71_13,rfl,HA,HJ13,HB⟩:=hcut
       cases kq with
       | zero=>exact absurd HA.out (by simp [ag_.j3])
       | succ kj13=>
        have H:=HA.out
        clear HA
        simp only [ag_.j3] at H
        by_cases c22:x71_13=true
        ·rw [if_pos c22] at H
         exact absurd H (by simp)
        ·replace c22:=Bool.eq_false_iff.mpr c22
         subst c22
         have H1:(if (decide ((wrap64 (x7_2 - a1))>3))=true then (none) else (some (wrap64 ((wrap64 (x8_2*1000))+0),x7_2,0)))=some (r1,r2,r3):=by rw [if_neg (show ¬ (false=true) by decide)] at H;exact H
         clear H
         have H:=H1
         clear H1
         by_cases c33:(decide ((wrap64 (x7_2 - a1))>3))=true
         ·rw [if_pos c33] at H
          exact absurd H (by simp)
         ·rw [if_neg c33] at H
          have c33b0:(decide ((wrap64 (x7_2 - a1))>3))=false:=by simpa using c33
          clear c33
          simp only [Option.some.injEq,Prod.mk.injEq] at H
          obtain ⟨rfl,rfl,rfl⟩:=H
          go_wp2
          all_goals (try (exfalso;have q_:=of_decide_eq_false c33b0;omega))
          go_ret3
          exact ⟨re_,rb_⟩
end K
end Go.Proofs.YthfceiincmkccaaGreat
