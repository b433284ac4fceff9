/- What law SignBooks reaches, part 1: words and walks over rows and regions. -/
import Derived.Below
import Derived.Deep.Draws
import Derived.Deep.AppendLies
import Derived.Maps.AppendAt
import Derived.OwnWalk
import Derived.Laws.BytesArg
import Derived.Laws.MakeOwn
import Derived.Laws.OwnMore
import Derived.Deep.OwnRows
import Derived.Tactics
import Derived.Lib.ConvBytes
import Derived.Laws.Slices
import Derived.WalkKit
import Derived.KernelRfl
import Derived.RowKit3
import Derived.Deep.LoopGhost
import Derived.Deep.QuietTactic
import Derived.BigQuiet
import Derived.WideLaws
import Derived.Deep.DeepCutAuto
import Derived.Deep.CutBlock
import Derived.Deep.RegionHeld3
import Derived.Laws.Rows
import Derived.Lib.AppendStr
import Derived.ArgAppend
import Derived.Laws.IdiomCopy
import Derived.RowKit
import Derived.OrdersHeld
import Derived.Laws.BitsLemmas
import Derived.Test.YthfceiincmkccaaGreatProg
import Derived.Laws.StructEq
import Derived.Test.YthfceiincmkccaaGreatRows
import Derived.Deep.Slices
import Derived.ChangeSame
import Derived.ProofKit
import Derived.OpenShut
import Derived.SizedLaws
import Derived.ChangeArms
import Derived.Shelf.SlGeneric
import Derived.Shelf.SlSortCmp.WholeK
import Derived.Shelf.SlSortCmp.NoneTotal
import Derived.Ground.SlsfProg
set_option linter.unusedVariables false
set_option linter.unusedSimpArgs false
set_option maxHeartbeats 8000000
set_option maxRecDepth 100000
namespace Go.Proofs.YthfceiincmkccaaGreatW.PrintWords
end Go.Proofs.YthfceiincmkccaaGreatW.PrintWords
namespace Go.Proofs.YthfceiincmkccaaGreatW.PrintLast
end Go.Proofs.YthfceiincmkccaaGreatW.PrintLast
namespace Go.Proofs.YthfceiincmkccaaGreatW.PrintMore
end Go.Proofs.YthfceiincmkccaaGreatW.PrintMore
open Go.RowKit Go.Proofs.YthfceiincmkccaaGreatW.PrintWords Go.Proofs.YthfceiincmkccaaGreatW.PrintLast Go.Proofs.YthfceiincmkccaaGreatW.PrintMore
namespace Go.Proofs.YthfceiincmkccaaGreat
theorem dt__ {p:Prop}[Decidable p](h:p):decide p=true:=decide_eq_true h
theorem df__ {p:Prop}[Decidable p](h:¬p):decide p=false:=decide_eq_false h
abbrev bl__:=@World.block_lt_of_cell?
theorem errW_none (n:Nat):n+0=n:=rfl
theorem errW_some (n:Nat):n+0=n:=rfl
end Go.Proofs.YthfceiincmkccaaGreat
namespace Go.Proofs.YthfceiincmkccaaGreatW.PrintWords
structure Sd (p:Prop):Prop where m :: (out:p)
structure Drawn0 (w w':World):Prop where mk :: (out: ∃ n,w'=w.drewN n)
theorem Drawn0.refl (w:World):Drawn0 w w:=⟨⟨0,rfl⟩⟩
theorem Drawn0.step {w w':World}(h:Drawn0 w w')(n:Nat):Drawn0 w (w'.drewN n):=by
 obtain ⟨m,rfl⟩:=h;exact ⟨⟨m+n,World.drewN_drewN ..⟩⟩
theorem Drawn0.below {w w':World}(h:Drawn0 w w'):Below w.heap.size w w':=by
 obtain ⟨n,rfl⟩:=h
 induction n with
 | zero=>exact Below.refl _ _
 | succ n ih=>rw [←World.drew_drewN];exact ih.drew
def rd (xs:List Int)(i:Int):Int:=xs.getD i.toNat 0
def nums (k:IntKind)(xs:List Int):List Value:=xs.map fun x=>.int k x
theorem ab_ {w W:World}(h:Below w.heap.size w W)(o:Obj):Below w.heap.size w (W.alloc o):=h.alloc h.size o
theorem ca_ {B:Nat}{w W:World}(h:Below B w W):Below B w W.drew:=⟨h.os,h.tape,h.output,h.size,h.block⟩
theorem ad_ {B:Nat}{w W:World}(h:Below B w W)(n:Nat):Below B w (W.drewN n):=⟨h.os,h.tape,h.output,h.size,h.block⟩
theorem below_then {B:Nat}{w w1 w2:World}(h:Below B w w1)(hB:B<=w1.heap.size)(k:Below w1.heap.size w1 w2):Below B w w2:=
 h.trans ⟨k.os,k.tape,k.output,k.size,fun i hi=>k.block i (Nat.lt_of_lt_of_le hi hB)⟩
theorem km_ {w w1:World}(h:Below w.heap.size w w1)(row:Option Nat):w.grownBy w1 row:=⟨h.os,h.tape,h.output,h.size,fun i hi _=>h.block i hi⟩
theorem dt_ {w w1:World}(h:Below w.heap.size w w1){a:Addr}{v:Value}(hc:w.cell? a=some v):w1.cell? a=some v:=(h.cell (World.block_lt_of_cell? w a hc)).trans hc
theorem add_plain (g j:Nat):(⟨g,0,none⟩:Addr).add j=⟨g,j,none⟩:=by unfold Addr.add;split <;> simp_all
def ReadsInt (w:World)(k:IntKind)(A:Option Addr)(n:Nat)(xs:List Int):Prop:=
 xs.length=n∧n<=9223372036854775807∧(0<n-> ∃ ad,A=some ad∧ ∀ j,j<n->w.cell? (ad.add j)=some (.int k (xs.getD j 0)))
theorem own_nil (W:World)(base:Nat)(e:TypeId)(size:Nat):W.ownsRow base e size (.slice none 0 0) 0 []:=⟨by simp,.inl ⟨rfl,rfl⟩⟩
theorem gr_ {w:World}{base:Nat}{e:TypeId}{size n:Nat}{v:Value}{xs:List Value}(h:w.ownsRow base e size v n xs)(k:Nat)(hk:v.ownBlock=some k):base<=k:=by
 rcases h.2 with ⟨rfl,_⟩ | ⟨g,cap,cur,rfl,hb,_⟩
 ·simp [Value.ownBlock] at hk
 ·have:g=k:=by simpa [Value.ownBlock] using hk
  omega
theorem own_lt {w:World}{base:Nat}{e:TypeId}{size n:Nat}{v:Value}{xs:List Value}(h:w.ownsRow base e size v n xs)(k:Nat)(hk:v.ownBlock=some k):k<w.heap.size:=by
 rcases h.2 with ⟨rfl,_⟩ | ⟨g,cap,cur,rfl,hb,hh,_⟩
 ·simp [Value.ownBlock] at hk
 ·have:g=k:=by simpa [Value.ownBlock] using hk
  subst this;exact (Array.getElem?_eq_some_iff.1 hh).1
theorem il_ {P:Program}{w:World}{base n:Nat}{e' src dst e:TypeId}{v:Value}{xs:List Int}(hs:P.underlying src=some (.slice e))(he:P.underlying e=some (.int .u8))(hd:P.underlying dst=some .string)
  (h:w.ownsRow base e' 1 v n (nums .u8 xs)):(convert src dst v).run P w=.ok (.string (strOfNums xs)) w:=by
 have hl:xs.length=n:=by have:=h.1;simp [nums] at this;exact this
 rcases h.2 with ⟨rfl,rfl⟩ | ⟨g,cap,cur,rfl,_⟩
 ·obtain rfl:xs=[]:=List.eq_nil_of_length_eq_zero hl;exact run_convert_bytes_nil w src e hs he 0 0 dst hd
 ·refine run_convert_bytes_arg w src e hs he g 0 n cap xs hl (fun i hi=>?_) dst hd;have hc:=h.cells (g:=g) rfl i (.int .u8 (xs.getD i 0)) (by simp [nums,List.getElem?_eq_getElem (show i<xs.length by omega),List.getD_eq_getElem?_getD]);have ha:(⟨g,0,none⟩:Addr).add i=⟨g,0+i,none⟩:=by unfold Addr.add;split <;> simp_all
  rwa [ha] at hc
def Reps {α:Type}(R:α->List Value->Prop)(size:Nat)(ps:List α)(cs:List Value):Prop:=
 cs.length=ps.length*size∧ ∀ j p,ps[j]? =some p->R p ((cs.drop (j*size)).take size)
theorem Reps.none {α:Type}(R:α->List Value->Prop)(size:Nat):Reps R size [] []:=⟨by simp,fun j p h=>by simp at h⟩
theorem Reps.snoc {α:Type}{R:α->List Value->Prop}{size:Nat}{ps:List α}{cs c:List Value}{p:α}(h:Reps R size ps cs)(hp:R p c)(hc:c.length=size):Reps R size (ps ++ [p]) (cs ++ c):=by
 refine ⟨by rw [List.length_append,h.1,hc,List.length_append,List.length_singleton,Nat.add_mul,Nat.one_mul],fun j q hq=>?_⟩;rcases Nat.lt_or_ge j ps.length with hj | hj
 ·rw [List.getElem?_append_left hj] at hq;have h1:j*size+size<=cs.length:=by rw [h.1,←Nat.succ_mul];exact Nat.mul_le_mul_right _ hj
  have h2:=h.2 j q hq;rw [List.drop_append_of_le_length (by omega),List.take_append_of_le_length (by rw [List.length_drop];omega)];exact h2
 ·have hj':j=ps.length:=by
   have:=(List.getElem?_eq_some_iff.1 hq).1;rw [List.length_append,List.length_singleton] at this;omega
  subst hj';have hq':p=q:=by simpa using hq
  subst hq';rw [←h.1,List.drop_left,←hc,List.take_length];exact hp
theorem Reps.imp_ {α:Type}{R R':α->List Value->Prop}{size:Nat}{ps:List α}{cs:List Value}(h:Reps R size ps cs)(hR: ∀ p c,R p c->R' p c):Reps R' size ps cs:=⟨h.1,fun j p hj=>hR _ _ (h.2 j p hj)⟩
def ReadsRow {α:Type}(R:α->List Value->Prop)(size:Nat)(w:World)(A:Option Addr)(n:Nat)(ps:List α):Prop:=
 ps.length=n∧n<=9223372036854775807∧(0<n-> ∃ ad,A=some ad∧ ∀ j p,ps[j]? =some p-> ∃ c,c.length=size∧R p c∧ ∀ i u,c[i]? =some u->w.cell? (ad.add (j*size+i))=some u)
theorem ReadsRow.get_ {α:Type}{R:α->List Value->Prop}{size:Nat}{w:World}{A:Option Addr}{n:Nat}{ps:List α}(h:ReadsRow R size w A n ps)(d:α)(i:Int)(h0:0<=i)(h1:i<n):
  ∃ ad c,A=some ad∧c.length=size∧R (ps.getD i.toNat d) c∧ ∀ j u,c[j]? =some u->w.cell? (ad.add (i.toNat*size+j))=some u:=by
 obtain ⟨ad,e,hc⟩:=h.2.2 (by omega);have hl:i.toNat<ps.length:=by have:=h.1;omega
 obtain ⟨c,hs,hr,hcell⟩:=hc i.toNat _ (List.getElem?_eq_getElem hl);refine ⟨ad,c,e,hs,?_,hcell⟩;rw [List.getD_eq_getElem?_getD,List.getElem?_eq_getElem hl];exact hr
theorem ReadsRow.imp_ {α:Type}{R R':α->List Value->Prop}{size:Nat}{w w1:World}{A:Option Addr}{n:Nat}{ps:List α}(h:ReadsRow R size w A n ps)(hb:Below w.heap.size w w1)(hR: ∀ p c,R p c->R' p c):ReadsRow R' size w1 A n ps:=
 ⟨h.1,h.2.1,fun hn=>by
  obtain ⟨ad,e,hc⟩:=h.2.2 hn;refine ⟨ad,e,fun j p hj=>?_⟩;obtain ⟨c,hs,hr,hcell⟩:=hc j p hj;exact ⟨c,hs,hR _ _ hr,fun i u hu=>dt_ hb (hcell i u hu)⟩⟩
theorem lv_ {α:Type}{R:α->List Value->Prop}{w:World}{base n size:Nat}{e:TypeId}{v:Value}{ps:List α}{cs:List Value}(h:w.ownsRow base e size v n cs)(hR:Reps R size ps cs)(hn:ps.length=n):
  ∃ A c,v=.slice A n c∧ReadsRow R size w A n ps:=by
 rcases Nat.eq_zero_or_pos n with h0 | h0
 ·rcases h.2 with ⟨rfl,rfl⟩ | ⟨g,cap,cur,rfl,_⟩
  ·exact ⟨none,0,rfl,hn,by omega,fun hp=>absurd hp (by omega)⟩
  ·exact ⟨_,cap,rfl,hn,by omega,fun hp=>absurd hp (by omega)⟩
 ·obtain ⟨g,cap,rfl,_,_⟩:=h.form h0;have hm:n<=9223372036854775807:=by
   rcases h.2 with ⟨_,h1⟩ | ⟨g',cap',cur,he,_,_,h1,h2,_⟩
   ·omega
   ·simp only [maxLen] at h2;omega
  refine ⟨_,cap,rfl,hn,hm,fun _=>⟨_,rfl,fun j p hj=>⟨(cs.drop (j*size)).take size,?_,hR.2 j p hj,fun i u hu=>?_⟩⟩⟩
  ·have hjl:=(List.getElem?_eq_some_iff.1 hj).1;have h1:j*size+size<=cs.length:=by rw [hR.1,←Nat.succ_mul];exact Nat.mul_le_mul_right _ hjl
   rw [List.length_take,List.length_drop];omega
  ·refine h.cells (g:=g) rfl _ u ?_;rw [List.getElem?_take] at hu;split at hu
   ·rw [List.getElem?_drop] at hu;exact hu
   ·cases hu
theorem ay_ (ad:Addr)(m j:Nat)(hj:0<j):ad.add (m+j)=⟨(ad.add m).block,(ad.add m).off+j,none⟩:=by
 unfold Addr.add;by_cases hm:m=0
 ·subst hm;simp [Nat.ne_of_gt hj]
 ·simp [hm,Nat.add_assoc]
section
variable {P:Program} {ops:Array Oper} {rest:List Oper} {o:Oper} {a:Act} {Q:Exit->Act->World->Prop}
theorem ia_ {w0 W:World}(base:Nat)(hgd:o.guard=none)(s x:Operand)(t e:TypeId)(z:Value)(size bytes:Nat)
  (ho:o.op=.call { callee:=.builtin .append,args:=#[s,x],argTypes:=#[t,t] })
  (ht:P.underlying t=some (.slice e)) (hinfo:(P.info? e).map (fun i=>(i.zero,i.size,i.bytes))=some (some z,size,bytes)) (hz:z.cells.size=size) (hs0:0<size) (hb0:0<bytes)
  (v:Value) (n:Nat) (xs ys:List Value) (hs:a.eval s=v) (hx:a.eval x=.slice (some ⟨W.heap.size,0,none⟩) 1 1) (hys:ys.length=size) (h1: ∀ u∈ys,u.oneCell'=true)
  (HO:W.ownsRow base e size v n xs) (HB:Below base w0 W) (hbase:base<=W.heap.size) (hl:(n+1)*bytes<=140737488355328)
  (h: ∀ v1 w1,w1.ownsRow base e size v1 (n+1) (xs ++ ys)->Below base w0 w1->W.grownBy w1 v.ownBlock->(v1.ownBlock=v.ownBlock∨ ∃ b,v1.ownBlock=some b∧W.heap.size<=b)->wpList P ops Q rest (a.put o.dst v1) w1):
  wpList P ops Q (o :: rest) a (W.alloc (.cells ys.toArray e)):=by
 obtain ⟨i0,hi,hzz⟩:=Option.map_eq_some_iff.1 hinfo;simp only [Prod.mk.injEq] at hzz;obtain ⟨hz0,hz1,hz2⟩:=hzz;have hlen:n+1<=140737488355328:=Nat.le_trans (Nat.le_mul_of_pos_right _ hb0) hl;refine wpList_append_own_at (W.alloc (.cells ys.toArray e)) hgd s x t ho base e i0 z size bytes ht hi hz0 hz1 hz2 hz hs0 v n xs hs (HO.alloc _) ⟨W.heap.size,0,none⟩ 1 1 ys hx (by rw [hys];simp)
  (by simpa using World.news_of_block (cs:=ys.toArray) (t:=e) (fr:=(0,0)) (heap_alloc_new W (.cells ys.toArray e))) h1 (by simp only [maxLen];omega) hl (by simp;omega) ?_
 intro v1 w1 hown hg _ hat;refine h v1 w1 hown ((HB.alloc hbase _).grown hg (by simp;omega) (gr_ HO)) (World.grownBy.trans (World.grownBy_alloc W _ _) hg) ?_;rcases hat with hat | hat
 ·exact .inl hat
 ·exact .inr ⟨_,hat,by simp⟩
end
theorem own_ne {w:World}{base:Nat}{e t:TypeId}{size n g:Nat}{v:Value}{xs:List Value}{cs:Array Value}(h:w.ownsRow base e size v n xs)(hg:w.heap[g]? =some (.cells cs t (0,0)))(hne:e≠t):some g≠v.ownBlock:=by
 rcases h.2 with ⟨rfl,_⟩ | ⟨g',cap,cur,rfl,_,hh,_⟩
 ·simp [Value.ownBlock]
 ·intro he;have:g=g':=by simpa [Value.ownBlock] using he
  subst this;rw [hg] at hh;injection hh with hh;injection hh with _ ht;exact hne ht.symm
theorem eb_ {w:World}{g:Nat}{t:TypeId}{cs:Array Value}(h:w.heap[g]? =some (.cells cs t (0,0)))(i:Nat)(u:Value):(w.setCell ⟨g,i,none⟩ u).heap[g]? =some (.cells (cs.setIfInBounds i u) t (0,0)):=by
 simp [World.setCell,Array.getElem?_modify,h]
theorem bj_ {w:World}{g:Nat}{t:TypeId}{cs:Array Value}(h:w.heap[g]? =some (.cells cs t (0,0))){p:Addr}(hp:g≠p.block)(u:Value):(w.setCell p u).heap[g]? =some (.cells cs t (0,0)):=(Below.heap_setCell w p u g hp).trans h
theorem cc_ {w:World}{g:Nat}{o:Obj}(h:w.heap[g]? =some o):g<w.heap.size:=(Array.getElem?_eq_some_iff.1 h).1
theorem af_ {w:World}{g:Nat}{t:TypeId}{cs:Array Value}(h:w.heap[g]? =some (.cells cs t (0,0)))(i:Nat):w.cell? ⟨g,i,none⟩=cs[i]? :=cell_of_row w g i cs t (0,0) h
theorem aa_ {w:World}{g:Nat}{t:TypeId}{cs:Array Value}(h:w.heap[g]? =some (.cells cs t (0,0)))(i:Nat):w.frozen? ⟨g,i,none⟩=false:=by simp [World.frozen?,h]
theorem cl_ {w w1:World}{g:Nat}{o:Obj}{row:Option Nat}(h:w.heap[g]? =some o)(hg:w.grownBy w1 row)(hne:some g≠row):w1.heap[g]? =some o:=(hg.block g (cc_ h) hne).trans h
theorem dq_ {w:World}{g g':Nat}{t t':TypeId}{cs cs':Array Value}(h:w.heap[g]? =some (.cells cs t (0,0)))(h':w.heap[g']? =some (.cells cs' t' (0,0)))(hne:t≠t'):g≠g':=by
 rintro rfl;rw [h] at h';injection h' with h';injection h' with _ ht;exact hne ht
def KeepBut (w w':World)(g:Nat)(row:Option Nat):Prop:=w.heap.size<=w'.heap.size∧ ∀ i,i<w.heap.size->i≠g->some i≠row->w'.heap[i]? =w.heap[i]?
theorem KeepBut.refl (w:World)(g:Nat)(row:Option Nat):KeepBut w w g row:=⟨Nat.le_refl _,fun _ _ _ _=>rfl⟩
theorem KeepBut.lx_ {w w1:World}{row:Option Nat}(h:w.grownBy w1 row)(g:Nat):KeepBut w w1 g row:=⟨h.size,fun i hi _ hr=>h.block i hi hr⟩
theorem KeepBut.of_below {w w1:World}(h:Below w.heap.size w w1)(g:Nat)(row:Option Nat):KeepBut w w1 g row:=⟨h.size,fun i hi _ _=>h.block i hi⟩
theorem KeepBut.set_ {w w1:World}{g:Nat}{row:Option Nat}(h:KeepBut w w1 g row)(j:Nat)(u:Value):KeepBut w (w1.setCell ⟨g,j,none⟩ u) g row:=
 ⟨by simpa [World.setCell] using h.1,fun i hi hg hr=>(Below.heap_setCell w1 ⟨g,j,none⟩ u i hg).trans (h.2 i hi hg hr)⟩
theorem KeepBut.trans {w w1 w2:World}{g:Nat}{row row1:Option Nat}(h:KeepBut w w1 g row)(k:KeepBut w1 w2 g row1)(hr:row1=row∨ ∃ b,row1=some b∧w.heap.size<=b):KeepBut w w2 g row:=
 ⟨Nat.le_trans h.1 k.1,fun i hi hg hn=>by
  refine (k.2 i (Nat.lt_of_lt_of_le hi h.1) hg ?_).trans (h.2 i hi hg hn);rcases hr with rfl | ⟨b,rfl,hb⟩
  ·exact hn
  ·intro e;injection e with e;omega⟩
theorem KeepBut.blk {w w1:World}{g g':Nat}{row:Option Nat}{o:Obj}(h:KeepBut w w1 g row)(hb:w.heap[g']? =some o)(hg:g'≠g)(hr:some g'≠row):w1.heap[g']? =some o:=(h.2 g' (cc_ hb) hg hr).trans hb
def Ev {α:Type}(g:Nat->Option α)(r:α):Prop:= ∃ K,∀ k,K<=k->g k=some r
theorem Ev.now {α:Type}(r:α):Ev (fun _=>some r) r:=⟨0,fun _ _=>rfl⟩
theorem Ev.rounds {α:Type}{g:Nat->Option α}{r:α}(h:Ev g r): ∃ k,g k=some r:=by
 obtain ⟨K,h⟩:=h;exact ⟨K,h K (Nat.le_refl _)⟩
theorem Ev.bind {α β:Type}{g:Nat->Option α}{f:Nat->α->Option β}{a:α}{r:β}(h:Ev g a)(k:Ev (fun n=>f n a) r):Ev (fun n=>(g n).bind (f n)) r:=by
 obtain ⟨K,h⟩:=h;obtain ⟨K',k⟩:=k;refine ⟨max K K',fun n hn=>?_⟩;have h1:=h n (by omega);have h2:=k n (by omega);simp only [h1,Option.bind_some];exact h2
theorem Ev.step {α:Type}{g f:Nat->Option α}{r:α}(h: ∀ k,g (k+1)=f k)(k:Ev f r):Ev g r:=by
 obtain ⟨K,k⟩:=k;refine ⟨K+1,fun n hn=>?_⟩;obtain ⟨m,rfl⟩: ∃ m,n=m+1:=⟨n - 1,by omega⟩;rw [h];exact k m (by omega)
theorem Ev.congr {α:Type}{g f:Nat->Option α}{r:α}(h: ∀ k,g k=f k)(k:Ev f r):Ev g r:=by
 obtain ⟨K,k⟩:=k;exact ⟨K,fun n hn=>(h n).trans (k n hn)⟩
theorem own_weaken {w:World}{base base':Nat}{e:TypeId}{size n:Nat}{v:Value}{xs:List Value}(h:w.ownsRow base e size v n xs)(hb:base'<=base):w.ownsRow base' e size v n xs:=by
 obtain ⟨h1,h2⟩:=h;refine ⟨h1,?_⟩;rcases h2 with h2 | ⟨g,cap,cur,rfl,hg,r⟩
 ·exact .inl h2
 ·exact .inr ⟨g,cap,cur,rfl,Nat.le_trans hb hg,r⟩
section
variable {α:Type} {enc:α->Value} {d:α}
def encs (enc:α->Value)(xs:List α):List Value:=xs.map enc
def rdOf (d:α)(xs:List α)(i:Int):α:=xs.getD i.toNat d
theorem kb_ (xs:List α):(encs enc xs).length=xs.length:=by simp [encs]
def ReadsOf (enc:α->Value)(d:α)(w:World)(A:Option Addr)(n:Nat)(xs:List α):Prop:=
 xs.length=n∧n<=9223372036854775807∧(0<n-> ∃ ad,A=some ad∧ ∀ j,j<n->w.cell? (ad.add j)=some (enc (xs.getD j d)))
theorem ReadsOf.at_ {w:World}{A:Option Addr}{n:Nat}{xs:List α}(h:ReadsOf enc d w A n xs)(i:Int)(h0:0<=i)(h1:i<n): ∃ ad,A=some ad∧w.cell? (ad.add i.toNat)=some (enc (rdOf d xs i)):=by
 obtain ⟨ad,e,hc⟩:=h.2.2 (by omega);exact ⟨ad,e,hc _ (by omega)⟩
theorem ReadsOf.take_ {w:World}{A:Option Addr}{n:Nat}{xs:List α}(h:ReadsOf enc d w A n xs)(i:Nat)(hi:i<=n):ReadsOf enc d w A i (xs.take i):=by
 refine ⟨by rw [List.length_take,h.1];omega,by have:=h.2.1;omega,fun hp=>?_⟩;obtain ⟨ad,e,hc⟩:=h.2.2 (by omega);refine ⟨ad,e,fun j hj=>?_⟩;rw [hc j (by omega)];simp [List.getD_eq_getElem?_getD,hj]
theorem ReadsOf.drop_ {w:World}{A:Option Addr}{n c:Nat}{xs:List α}(h:ReadsOf enc d w A n xs)(i:Nat)(hi:i<=n)(hc:n<=c):ReadsOf enc d w (if c=i then A else A.map (·.add i)) (n - i) (xs.drop i):=by
 refine ⟨by rw [List.length_drop,h.1],by have:=h.2.1;omega,fun hp=>?_⟩;obtain ⟨ad,rfl,hcell⟩:=h.2.2 (by omega);rw [if_neg (by omega)];refine ⟨ad.add i,rfl,fun j hj=>?_⟩;have ha:(ad.add i).add j=ad.add (i+j):=by
  unfold Addr.add;by_cases h1:i=0 <;> by_cases h2:j=0 <;> simp [h1,h2,Nat.add_assoc]
 rw [ha,hcell (i+j) (by omega)];simp [List.getD_eq_getElem?_getD,List.getElem?_drop]
theorem print_cut_of {P:Program}(enc:α->Value)(d:α)(t e:TypeId)(kl:IntKind){i:TypeInfo}(ht:P.underlying t=some (.slice e))(hi:P.info? e=some i)(hsz:i.size=1)(A:Option Addr)(n c m:Nat)(hm:m<=n):
  ∃ A':Option Addr,(∀ W:World,(Instr.slice t (.slice A n c) (some (.int kl (m:Int))) none none).run P W=.ok (.slice A' (n - m) (c - m)) W)∧
   ∀ (w:World) (xs:List α),n<=c->ReadsOf enc d w A n xs->ReadsOf enc d w A' (n - m) (xs.drop m):=by
 refine ⟨if c=m then A else A.map (·.add m),fun W=>?_,fun w xs hc h=>h.drop_ m hm hc⟩;have hel:P.elem t=e:=by simp [Program.elem,ht]
 have hu:P.underlying t=some (.slice (P.elem t)):=by rw [hel];exact ht
 rw [run_slice_l W t A n c hu kl (m:Int) (Int.natCast_nonneg _) (by omega),hel];simp [sizeOf,typeInfo,hi,hsz,sliced,Result.andThen]
end
theorem am_ {w:World}{g:Nat}{o:Obj}(h:w.heap[g]? =some o)(o':Obj):(w.alloc o').heap[g]? =some o:=(Below.heap_alloc w o' g (cc_ h)).trans h
theorem bl_ {w:World}{g:Nat}{o:Obj}(h:w.heap[g]? =some o):w.drew.heap[g]? =some o:=h
theorem ba_ {w:World}{g:Nat}{o:Obj}(h:w.heap[g]? =some o)(n:Nat):(w.drewN n).heap[g]? =some o:=h
theorem ag_ {w w1:World}{g:Nat}{o:Obj}(h:w.heap[g]? =some o)(hb:Below w.heap.size w w1):w1.heap[g]? =some o:=(hb.block g (cc_ h)).trans h
theorem aj_ (w:World)(o:Obj):(w.alloc o).heap[w.heap.size]? =some o:=heap_alloc_new w o
section
variable {P:Program}
theorem en_ {fn:Func}{p u:Tmp}{ty:TypeId}(h:fn.results=#[.cell p ty,.tmp u])(tmps:Array Value)(w:World)(g:Nat)(t:TypeId)(cs:Array Value)(fr:Nat × Nat)(d:TypeDesc)
  (hp:tmps.getD p undef=.pointer (some ⟨g,0,none⟩)) (hg:w.heap[g]? =some (.cells cs t fr))
  (hu:P.underlying ty=some d) (hd:(match d with | .struct _ | .array _ _=>true | _=>false)=true) (hi:(P.info? ty).map (·.size)=some cs.size):
  (results fn tmps).run P w=.ok (.tuple #[.agg cs,tmps.getD u undef]) w:=by
 have hp':tmps[p]?.getD undef=.pointer (some ⟨g,0,none⟩):=by simpa using hp
 simp [results,h,hp',asAddr,run_loadVar_row w g t ty cs fr d hg hu hd hi]
theorem jn_ {fn:Func}{p u v:Tmp}{ty:TypeId}(h:fn.results=#[.cell p ty,.tmp u,.tmp v])(tmps:Array Value)(w:World)(g:Nat)(t:TypeId)(cs:Array Value)(fr:Nat × Nat)(d:TypeDesc)
  (hp:tmps.getD p undef=.pointer (some ⟨g,0,none⟩)) (hg:w.heap[g]? =some (.cells cs t fr))
  (hu:P.underlying ty=some d) (hd:(match d with | .struct _ | .array _ _=>true | _=>false)=true) (hi:(P.info? ty).map (·.size)=some cs.size):
  (results fn tmps).run P w=.ok (.tuple #[.agg cs,tmps.getD u undef,tmps.getD v undef]) w:=by
 have hp':tmps[p]?.getD undef=.pointer (some ⟨g,0,none⟩):=by simpa using hp
 simp [results,h,hp',asAddr,run_loadVar_row w g t ty cs fr d hg hu hd hi]
end
theorem own_le {w:World}{base n m c size:Nat}{e:TypeId}{A:Option Addr}{xs:List Value}(h:w.ownsRow base e size (.slice A m c) n xs):m<=c:=by
 rcases h.2 with ⟨he,_⟩ | ⟨g,cap,cur,he,_,_,hnc,_⟩
 ·injection he with _ h2 h3;omega
 ·injection he with _ h2 h3;omega
def OwnRow {α:Type}(R:α->List Value->Prop)(e:TypeId)(size:Nat)(w:World)(base:Nat)(v:Value)(ps:List α):Prop:=
 ∃ inner,w.ownsRow base e size v ps.length inner∧Reps R size ps inner
section
variable {α:Type} {R R':α->List Value->Prop} {e:TypeId} {size:Nat} {w w1:World} {base:Nat} {v:Value} {ps:List α}
theorem OwnRow.none_ (R:α->List Value->Prop)(e:TypeId)(size:Nat)(w:World)(base:Nat):OwnRow R e size w base (.slice none 0 0) []:=⟨[],own_nil _ _ _ _,Reps.none _ _⟩
theorem OwnRow.imp_ (h:OwnRow R e size w base v ps)(hR: ∀ p c,R p c->R' p c):OwnRow R' e size w base v ps:=by
 obtain ⟨inner,ho,hr⟩:=h;exact ⟨inner,ho,hr.imp_ hR⟩
theorem OwnRow.reads (h:OwnRow R e size w base v ps): ∃ A c,v=.slice A ps.length c∧ps.length<=c∧ReadsRow R size w A ps.length ps:=by
 obtain ⟨inner,ho,hr⟩:=h;obtain ⟨A,c,rfl,hrow⟩:=lv_ ho hr rfl;exact ⟨A,c,rfl,own_le ho,hrow⟩
theorem OwnRow.ne_block (h:OwnRow R e size w base v ps){g:Nat}{t:TypeId}{cells:Array Value}(hb:w.heap[g]? =some (.cells cells t (0,0)))(ht:e≠t):some g≠v.ownBlock:=by
 obtain ⟨inner,ho,hr⟩:=h;exact own_ne ho hb ht
end
theorem ReadsRow.inner_ {α:Type}{R:α->List Value->Prop}{size:Nat}{w:World}{ad:Addr}{n:Nat}{ps:List α}(h:ReadsRow R size w (some ad) n ps):
  ∃ inner,Reps R size ps inner∧ ∀ j u,inner[j]? =some u->w.cell? (ad.add j)=some u:=by
 have key: ∀ m,m<=ps.length-> ∃ inner,Reps R size (ps.take m) inner∧ ∀ j u,inner[j]? =some u->w.cell? (ad.add j)=some u:=by
  intro m
  induction m with
  | zero=>exact fun _=>⟨[],Reps.none _ _,fun j u hu=>by simp at hu⟩
  | succ m ih=>
   intro hm;obtain ⟨inner,hr,hc⟩:=ih (by omega);obtain ⟨ad',he,hcell⟩:=h.2.2 (by have:=h.1;omega);injection he with he;subst he;obtain ⟨c,hcl,hp,hcc⟩:=hcell m _ (List.getElem?_eq_getElem (show m<ps.length by omega));refine ⟨inner ++ c,?_,fun j u hu=>?_⟩
   ·rw [List.take_succ_eq_append_getElem (show m<ps.length by omega)];exact hr.snoc hp hcl
   ·have hil:inner.length=m*size:=by rw [hr.1,List.length_take,Nat.min_eq_left (by omega)]
    rcases Nat.lt_or_ge j inner.length with hj | hj
    ·rw [List.getElem?_append_left hj] at hu;exact hc j u hu
    ·rw [List.getElem?_append_right hj] at hu;have:=hcc (j - inner.length) u hu;rwa [hil,Nat.add_sub_cancel' (by omega)] at this
 obtain ⟨inner,hr,hc⟩:=key ps.length (Nat.le_refl _);rw [List.take_length] at hr;exact ⟨inner,hr,hc⟩
section
variable {α:Type} {P:Program}
theorem fz_ (enc:α->Value)(d:α)(t e:TypeId)(kl:IntKind){i:TypeInfo}(ht:P.underlying t=some (.slice e))(hi:P.info? e=some i)(hsz:i.size=1)(A:Option Addr)(c:Nat)(xs:List α)(j:Int)(h0:0<=j)(hm:j<=xs.length)(hc:xs.length<=c):
  (∀ W:World,(Instr.slice t (.slice A xs.length c) none (some (.int kl j)) none).run P W=.ok (.slice A (xs.take j.toNat).length c) W)∧
   (∀ w:World,ReadsOf enc d w A xs.length xs->ReadsOf enc d w A (xs.take j.toNat).length (xs.take j.toNat))∧(xs.take j.toNat).length<=c:=by
 have hl:(xs.take j.toNat).length=j.toNat:=by rw [List.length_take];omega
 refine ⟨fun W=>?_,fun w h=>by rw [hl];exact h.take_ j.toNat (by omega),by rw [hl];omega⟩;have hel:P.elem t=e:=by simp [Program.elem,ht]
 have hu:P.underlying t=some (.slice (P.elem t)):=by rw [hel];exact ht
 have ha:(A.map fun x=>x.add 0)=A:=by cases A <;> simp [Addr.add]
 rw [run_slice_h W t A xs.length c hu kl j h0 (by omega),hel,hl];simp [sizeOf,typeInfo,hi,hsz,sliced,Result.andThen,ha]
theorem ga_ (enc:α->Value)(d:α)(t e:TypeId)(kl:IntKind){i:TypeInfo}(ht:P.underlying t=some (.slice e))(hi:P.info? e=some i)(hsz:i.size=1)(A:Option Addr)(c:Nat)(xs:List α)(j:Int)(h0:0<=j)(hm:j<=xs.length)(hc:xs.length<=c):
  ∃ A':Option Addr,(∀ W:World,(Instr.slice t (.slice A xs.length c) (some (.int kl j)) none none).run P W=.ok (.slice A' (xs.drop j.toNat).length (c - j.toNat)) W)∧
   (∀ w:World,ReadsOf enc d w A xs.length xs->ReadsOf enc d w A' (xs.drop j.toNat).length (xs.drop j.toNat))∧(xs.drop j.toNat).length<=c - j.toNat:=by
 obtain ⟨m,rfl⟩:=Int.eq_ofNat_of_zero_le h0;simp only [Int.toNat_natCast];have hmn:m<=xs.length:=by omega
 obtain ⟨A',h1,h2⟩:=print_cut_of (P:=P) enc d t e kl ht hi hsz A xs.length c m hmn;have hl:(xs.drop m).length=xs.length - m:=List.length_drop;exact ⟨A',fun W=>by rw [hl];exact h1 W,fun w h=>by rw [hl];exact h2 w xs hc h,by rw [hl];omega⟩
theorem gz_ {k:IntKind}(t e:TypeId){i:TypeInfo}(ht:P.underlying t=some (.slice e))(hi:P.info? e=some i)(hsz:i.size=1)(A:Option Addr)(c:Nat)(xs:List Int)(j:Int)(h0:0<=j)(hm:j<=xs.length)(hc:xs.length<=c):
  (∀ W:World,(Instr.slice t (.slice A xs.length c) none (some (.int .i64 j)) none).run P W=.ok (.slice A (xs.take j.toNat).length c) W)∧
   (∀ w:World,ReadsInt w k A xs.length xs->ReadsInt w k A (xs.take j.toNat).length (xs.take j.toNat))∧(xs.take j.toNat).length<=c:=fz_ (Value.int k) 0 t e .i64 ht hi hsz A c xs j h0 hm hc
end
structure Kd (α:Type) where
 sz:Nat
 E:List Nat
 K:World->α->List Value->Prop
 M:World->Nat->(Nat->Prop)->α->List Value->Prop
 K_len: ∀ {w x cs},K w x cs->cs.length=sz
 K_one: ∀ {w x cs},K w x cs-> ∀ u∈cs,u.oneCell'=true
 K_below: ∀ {w w1:World} {x cs},Below w.heap.size w w1->K w x cs->K w1 x cs
 K_of_M: ∀ {w base ok x cs},M w base ok x cs->K w x cs
 M_mono: ∀ {w base ok ok' x cs},(∀ k,ok k->ok' k)->M w base ok x cs->M w base ok' x cs
 M_bound: ∀ {w:World} {base ok x cs},M w base ok x cs->M w base (fun k=>ok k∧base<=k∧k<w.heap.size∧ ∃ q,q∈E∧ ∃ cells,w.heap[k]? =some (.cells cells q (0,0))) x cs
 M_move: ∀ {w w1:World} {base ok x cs},(∀ k,ok k->w1.heap[k]? =w.heap[k]?)->M w base ok x cs->M w1 base ok x cs
 M_lower: ∀ {w base base' ok x cs},base'<=base->M w base ok x cs->M w base' ok x cs
theorem own_move {w w1:World}{base:Nat}{e:TypeId}{size n:Nat}{v:Value}{xs:List Value}(h:w.ownsRow base e size v n xs)(hm: ∀ k,v.ownBlock=some k->w1.heap[k]? =w.heap[k]?):w1.ownsRow base e size v n xs:=by
 obtain ⟨h1,h2⟩:=h;refine ⟨h1,?_⟩;rcases h2 with h2 | ⟨g,cap,cur,rfl,hg,hh,r⟩
 ·exact .inl h2
 ·exact .inr ⟨g,cap,cur,rfl,hg,(hm g (by simp [Value.ownBlock])).trans hh,r⟩
theorem fn_ {w:World}{base:Nat}{e:TypeId}{size n:Nat}{v:Value}{xs:List Value}(h:w.ownsRow base e size v n xs)(k:Nat)(hk:v.ownBlock=some k): ∃ cells,w.heap[k]? =some (.cells cells e (0,0)):=by
 rcases h.2 with ⟨rfl,_⟩ | ⟨g,cap,cur,rfl,hg,hh,r⟩
 ·simp [Value.ownBlock] at hk
 ·have:g=k:=by simpa [Value.ownBlock] using hk
  subst this;exact ⟨cur,hh⟩
namespace Kd
def C {α:Type}(d:Kd α)(w:World)(A:Option Addr)(n:Nat)(xs:List α):Prop:=ReadsRow (d.K w) d.sz w A n xs
def R {α:Type}(d:Kd α)(e:Nat)(w:World)(base:Nat)(ok:Nat->Prop)(v:Value)(xs:List α):Prop:=
 (∀ k,v.ownBlock=some k->ok k)∧OwnRow (d.M w base (fun k=>ok k∧some k≠v.ownBlock)) e d.sz w base v xs
section
variable {α:Type} {d:Kd α} {e:Nat} {w w1:World} {base:Nat} {ok ok':Nat->Prop} {v:Value} {xs:List α}
theorem C_below {A:Option Addr}{n:Nat}(h:d.C w A n xs)(hb:Below w.heap.size w w1):d.C w1 A n xs:=ReadsRow.imp_ h hb (fun _ _ hp=>d.K_below hb hp)
theorem R_nil (d:Kd α)(e:Nat)(w:World)(base:Nat)(ok:Nat->Prop):d.R e w base ok (.slice none 0 0) []:=⟨fun k hk=>by simp [Value.ownBlock] at hk,OwnRow.none_ _ _ _ _ _⟩
theorem R_mono (h:d.R e w base ok v xs)(hok: ∀ k,ok k->ok' k):d.R e w base ok' v xs:=⟨fun k hk=>hok k (h.1 k hk),h.2.imp_ (fun _ _ hp=>d.M_mono (fun k hk=>⟨hok k hk.1,hk.2⟩) hp)⟩
theorem R_bound (h:d.R e w base ok v xs):d.R e w base (fun k=>ok k∧base<=k∧k<w.heap.size∧ ∃ q,q∈e :: d.E∧ ∃ cells,w.heap[k]? =some (.cells cells q (0,0))) v xs:=by
 obtain ⟨h0,inner,ho,hr⟩:=h;refine ⟨fun k hk=>?_,inner,ho,hr.imp_ (fun _ _ hp=>d.M_mono (fun k hk=>?_) (d.M_bound hp))⟩
 ·obtain ⟨cells,hc⟩:=fn_ ho k hk;exact ⟨h0 k hk,gr_ ho k hk,own_lt ho k hk,e,List.mem_cons_self,cells,hc⟩
 ·obtain ⟨⟨h1,h2⟩,h3,h4,q,hq,hc⟩:=hk;exact ⟨⟨h1,h3,h4,q,List.mem_cons_of_mem _ hq,hc⟩,h2⟩
theorem R_move (h:d.R e w base ok v xs)(hm: ∀ k,ok k->w1.heap[k]? =w.heap[k]?):d.R e w1 base ok v xs:=by
 obtain ⟨h0,inner,ho,hr⟩:=h;exact ⟨h0,inner,own_move ho (fun k hk=>hm k (h0 k hk)),hr.imp_ (fun _ _ hp=>d.M_move (fun k hk=>hm k hk.1) hp)⟩
theorem R_lower {base':Nat}(h:d.R e w base ok v xs)(hb:base'<=base):d.R e w base' ok v xs:=by
 obtain ⟨h0,inner,ho,hr⟩:=h;exact ⟨h0,inner,own_weaken ho hb,hr.imp_ (fun _ _ hp=>d.M_lower hb hp)⟩
theorem R_step (h:d.R e w base ok v xs)(hm: ∀ k,ok k->k<w.heap.size->w1.heap[k]? =w.heap[k]?):d.R e w1 base ok v xs:=
 R_mono (R_move (R_bound h) (fun k hk=>hm k hk.1 hk.2.2.1)) (fun _ hk=>hk.1)
theorem M_step {x:α}{cs:List Value}(h:d.M w base ok x cs)(hm: ∀ k,ok k->k<w.heap.size->w1.heap[k]? =w.heap[k]?):d.M w1 base ok x cs:=
 d.M_mono (fun _ hk=>hk.1) (d.M_move (fun k hk=>hm k hk.1 hk.2.2.1) (d.M_bound h))
theorem R_below (h:d.R e w base ok v xs)(hb:Below w.heap.size w w1):d.R e w1 base ok v xs:=R_step h (fun k _ hk=>hb.block k hk)
theorem M_below {x:α}{cs:List Value}(h:d.M w base ok x cs)(hb:Below w.heap.size w w1):d.M w1 base ok x cs:=M_step h (fun k _ hk=>hb.block k hk)
theorem R_far (h:d.R e w base ok v xs){p:Addr}(hok: ∀ k,ok k->k≠p.block)(u:Value):d.R e (w.setCell p u) base ok v xs:=R_step h (fun k ho _=>Below.heap_setCell w p u k (hok k ho))
theorem R_types (h:d.R e w base ok v xs){g t:Nat}{cells:Array Value}(hb:w.heap[g]? =some (.cells cells t (0,0)))(ht: ∀ q,q∈e :: d.E->q≠t):d.R e w base (fun k=>ok k∧k≠g) v xs:=
 R_mono (R_bound h) (fun k hk=>⟨hk.1,by
  obtain ⟨_,_,_,q,hq,cells',hc⟩:=hk;rintro rfl;rw [hc] at hb;injection hb with hb;injection hb with _ hb;exact ht q hq hb⟩)
theorem R_set (h:d.R e w base ok v xs){g t:Nat}{cells:Array Value}(hb:w.heap[g]? =some (.cells cells t (0,0)))(ht: ∀ q,q∈e :: d.E->q≠t)(j:Nat)(u:Value):d.R e (w.setCell ⟨g,j,none⟩ u) base ok v xs:=
 R_mono (R_far (p:=⟨g,j,none⟩) (R_types h hb ht) (fun _ hk=>hk.2) u) (fun _ hk=>hk.1)
theorem R_reads (h:d.R e w base ok v xs): ∃ A c,v=.slice A xs.length c∧xs.length<=c∧d.C w A xs.length xs:=by
 obtain ⟨A,c,he,hl,hr⟩:=OwnRow.reads h.2;exact ⟨A,c,he,hl,hr.imp_ (Below.refl _ _) (fun _ _ hp=>d.K_of_M hp)⟩
theorem R_slice (h:d.R e w base ok v xs): ∃ A c,v=.slice A xs.length c:=by
 obtain ⟨A,c,he,_⟩:=R_reads h;exact ⟨A,c,he⟩
theorem R_own (h:d.R e w base ok v xs): ∃ inner,w.ownsRow base e d.sz v xs.length inner:=by
 obtain ⟨_,inner,ho,_⟩:=h;exact ⟨inner,ho⟩
theorem R_ne (h:d.R e w base ok v xs){g t:Nat}{cells:Array Value}(hb:w.heap[g]? =some (.cells cells t (0,0)))(ht:e≠t):some g≠v.ownBlock:=OwnRow.ne_block h.2 hb ht
end
def scalar {α:Type}(enc:α->Value)(h1: ∀ x,(enc x).oneCell'=true):Kd α where
 sz:=1
 E:=[]
 K:=fun _ x cs=>cs=[enc x]
 M:=fun _ _ _ x cs=>cs=[enc x]
 K_len:=fun h=>by rw [h];rfl
 K_one:=fun h u hu=>by
  rw [h] at hu;rw [List.mem_singleton.1 hu];exact h1 _
 K_below:=fun _ h=>h
 K_of_M:=fun h=>h
 M_mono:=fun _ h=>h
 M_bound:=fun h=>h
 M_move:=fun _ h=>h
 M_lower:=fun _ h=>h
def int (k:IntKind):Kd Int:=scalar (Value.int k) (fun _=>rfl)
def bool:Kd Bool:=scalar Value.bool (fun _=>rfl)
def string:Kd ByteArray:=scalar Value.string (fun _=>rfl)
def slice {α:Type}(e:Nat)(d:Kd α):Kd (List α) where
 sz:=1
 E:=e :: d.E
 K:=fun w xs cs=> ∃ A c,cs=[.slice A xs.length c]∧xs.length<=c∧d.C w A xs.length xs
 M:=fun w base ok xs cs=> ∃ v,cs=[v]∧d.R e w base ok v xs
 K_len:=by
  rintro w x cs ⟨A,c,rfl,_⟩;rfl
 K_one:=by
  rintro w x cs ⟨A,c,rfl,_⟩ u hu;rw [List.mem_singleton.1 hu];rfl
 K_below:=by
  rintro w w1 x cs hb ⟨A,c,rfl,hl,hr⟩;exact ⟨A,c,rfl,hl,C_below hr hb⟩
 K_of_M:=by
  rintro w base ok x cs ⟨v,rfl,h⟩;obtain ⟨A,c,rfl,hl,hr⟩:=R_reads h;exact ⟨A,c,rfl,hl,hr⟩
 M_mono:=by
  rintro w base ok ok' x cs hok ⟨v,rfl,h⟩;exact ⟨v,rfl,R_mono h hok⟩
 M_bound:=by
  rintro w base ok x cs ⟨v,rfl,h⟩;exact ⟨v,rfl,R_bound h⟩
 M_move:=by
  rintro w w1 base ok x cs hm ⟨v,rfl,h⟩;exact ⟨v,rfl,R_move h hm⟩
 M_lower:=by
  rintro w base base' ok x cs hb ⟨v,rfl,h⟩;exact ⟨v,rfl,R_lower h hb⟩
def pair {α β:Type}(a:Kd α)(b:Kd β):Kd (α × β) where
 sz:=a.sz+b.sz
 E:=a.E ++ b.E
 K:=fun w x cs=> ∃ c0 c1,cs=c0 ++ c1∧a.K w x.1 c0∧b.K w x.2 c1
 M:=fun w base ok x cs=> ∃ c0 c1,cs=c0 ++ c1∧a.M w base ok x.1 c0∧b.M w base ok x.2 c1
 K_len:=by
  rintro w x cs ⟨c0,c1,rfl,h0,h1⟩;rw [List.length_append,a.K_len h0,b.K_len h1]
 K_one:=by
  rintro w x cs ⟨c0,c1,rfl,h0,h1⟩ u hu;rcases List.mem_append.1 hu with hu | hu
  ·exact a.K_one h0 u hu
  ·exact b.K_one h1 u hu
 K_below:=by
  rintro w w1 x cs hb ⟨c0,c1,rfl,h0,h1⟩;exact ⟨c0,c1,rfl,a.K_below hb h0,b.K_below hb h1⟩
 K_of_M:=by
  rintro w base ok x cs ⟨c0,c1,rfl,h0,h1⟩;exact ⟨c0,c1,rfl,a.K_of_M h0,b.K_of_M h1⟩
 M_mono:=by
  rintro w base ok ok' x cs hok ⟨c0,c1,rfl,h0,h1⟩;exact ⟨c0,c1,rfl,a.M_mono hok h0,b.M_mono hok h1⟩
 M_bound:=by
  rintro w base ok x cs ⟨c0,c1,rfl,h0,h1⟩;refine ⟨c0,c1,rfl,a.M_mono ?_ (a.M_bound h0),b.M_mono ?_ (b.M_bound h1)⟩
  ·rintro k ⟨h2,h3,h4,q,hq,hc⟩;exact ⟨h2,h3,h4,q,List.mem_append_left _ hq,hc⟩
  ·rintro k ⟨h2,h3,h4,q,hq,hc⟩;exact ⟨h2,h3,h4,q,List.mem_append_right _ hq,hc⟩
 M_move:=by
  rintro w w1 base ok x cs hm ⟨c0,c1,rfl,h0,h1⟩;exact ⟨c0,c1,rfl,a.M_move hm h0,b.M_move hm h1⟩
 M_lower:=by
  rintro w base base' ok x cs hb ⟨c0,c1,rfl,h0,h1⟩;exact ⟨c0,c1,rfl,a.M_lower hb h0,b.M_lower hb h1⟩
def iso {α β:Type}(d:Kd α)(f:β->α):Kd β where
 sz:=d.sz
 E:=d.E
 K:=fun w x cs=>d.K w (f x) cs
 M:=fun w base ok x cs=>d.M w base ok (f x) cs
 K_len:=d.K_len
 K_one:=d.K_one
 K_below:=d.K_below
 K_of_M:=d.K_of_M
 M_mono:=d.M_mono
 M_bound:=d.M_bound
 M_move:=d.M_move
 M_lower:=d.M_lower
def bot {α:Type}(sz:Nat)(E:List Nat):Kd α where
 sz:=sz
 E:=E
 K:=fun _ _ _=>False
 M:=fun _ _ _ _ _=>False
 K_len:=fun h=>h.elim
 K_one:=fun h=>h.elim
 K_below:=fun _ h=>h
 K_of_M:=fun h=>h
 M_mono:=fun _ h=>h
 M_bound:=fun h=>h
 M_move:=fun _ h=>h
 M_lower:=fun _ h=>h
def upto {α:Type}(F:Kd α->Kd α)(sz:Nat)(E:List Nat):Nat->Kd α
 | 0=>bot sz E
 | n+1=>F (upto F sz E n)
def fix {α:Type}(F:Kd α->Kd α)(sz:Nat)(E:List Nat)(hs: ∀ n,(upto F sz E n).sz=sz)(hE: ∀ n q,q∈(upto F sz E n).E->q∈E):Kd α where
 sz:=sz
 E:=E
 K:=fun w x cs=> ∃ n,(upto F sz E n).K w x cs
 M:=fun w base ok x cs=> ∃ n,(upto F sz E n).M w base ok x cs
 K_len:=by
  rintro w x cs ⟨n,h⟩;rw [(upto F sz E n).K_len h,hs n]
 K_one:=by
  rintro w x cs ⟨n,h⟩;exact (upto F sz E n).K_one h
 K_below:=by
  rintro w w1 x cs hb ⟨n,h⟩;exact ⟨n,(upto F sz E n).K_below hb h⟩
 K_of_M:=by
  rintro w base ok x cs ⟨n,h⟩;exact ⟨n,(upto F sz E n).K_of_M h⟩
 M_mono:=by
  rintro w base ok ok' x cs hok ⟨n,h⟩;exact ⟨n,(upto F sz E n).M_mono hok h⟩
 M_bound:=by
  rintro w base ok x cs ⟨n,h⟩;refine ⟨n,(upto F sz E n).M_mono ?_ ((upto F sz E n).M_bound h)⟩;rintro k ⟨h2,h3,h4,q,hq,hc⟩;exact ⟨h2,h3,h4,q,hE n q hq,hc⟩
 M_move:=by
  rintro w w1 base ok x cs hm ⟨n,h⟩;exact ⟨n,(upto F sz E n).M_move hm h⟩
 M_lower:=by
  rintro w base base' ok x cs hb ⟨n,h⟩;exact ⟨n,(upto F sz E n).M_lower hb h⟩
theorem C_get {α:Type}{d:Kd α}{w:World}{A:Option Addr}{n:Nat}{xs:List α}(h:d.C w A n xs)(z:α)(i:Int)(h0:0<=i)(h1:i<n):
  ∃ ad c,A=some ad∧c.length=d.sz∧d.K w (xs.getD i.toNat z) c∧ ∀ j u,c[j]? =some u->w.cell? (ad.add (i.toNat*d.sz+j))=some u:=ReadsRow.get_ h z i h0 h1
theorem R_appended {α:Type}{d:Kd α}{e base:Nat}{ok okp:Nat->Prop}{W w1:World}{v v1:Value}{xs:List α}{p:α}{inner cs:List Value}(h0: ∀ k,v.ownBlock=some k->ok k)(hr:Reps (d.M W base (fun k=>ok k∧some k≠v.ownBlock)) d.sz xs inner)(hp:d.M W base okp p cs)(hokp: ∀ k,okp k->ok k∧some k≠v.ownBlock)(hfresh: ∀ k,W.heap.size<=k->ok k)
  (hown:w1.ownsRow base e d.sz v1 (xs.length+1) (inner ++ cs)) (hg:W.grownBy w1 v.ownBlock) (hat:v1.ownBlock=v.ownBlock∨ ∃ b,v1.ownBlock=some b∧W.heap.size<=b):d.R e w1 base ok v1 (xs ++ [p]):=by
 have hne: ∀ k,some k≠v.ownBlock->k<W.heap.size->some k≠v1.ownBlock:=by
  intro k hk hlt;rcases hat with hat | ⟨b,hb,hle⟩
  ·rw [hat];exact hk
  ·rw [hb];intro he;injection he with he;omega
 have step: ∀ {q:α} {c:List Value} {o:Nat->Prop},d.M W base o q c->(∀ k,o k->ok k∧some k≠v.ownBlock)->d.M w1 base (fun k=>ok k∧some k≠v1.ownBlock) q c:=by
  intro q c o hq ho;have h1:=d.M_move (w1:=w1) (fun k hk=>hg.block k hk.2.2.1 (ho k hk.1).2) (d.M_bound hq);exact d.M_mono (fun k hk=>⟨(ho k hk.1).1,hne k (ho k hk.1).2 hk.2.2.1⟩) h1
 refine ⟨fun k hk=>?_,inner ++ cs,by rw [List.length_append,List.length_singleton];exact hown,?_⟩
 ·rcases hat with hat | ⟨b,hb,hle⟩
  ·exact h0 k (hat ▸ hk)
  ·rw [hb] at hk;injection hk with hk;exact hfresh k (by omega)
 ·exact (hr.imp_ (fun _ _ hq=>step hq (fun _ hk=>hk))).snoc (step hp hokp) (d.K_len (d.K_of_M hp))
section
variable {P:Program} {ops:Array Oper} {rest:List Oper} {o:Oper} {a:Act} {Q:Exit->Act->World->Prop} {α:Type}
theorem R_append (d:Kd α){w0 W:World}(base:Nat)(hgd:o.guard=none)(s x:Operand)(t e:TypeId)(z:Value)(bytes:Nat)
  (ho:o.op=.call { callee:=.builtin .append,args:=#[s,x],argTypes:=#[t,t] })
  (ht:P.underlying t=some (.slice e)) (hinfo:(P.info? e).map (fun i=>(i.zero,i.size,i.bytes))=some (some z,d.sz,bytes)) (hz:z.cells.size=d.sz) (hs0:0<d.sz) (hb0:0<bytes)
  (v:Value) (xs:List α) (p:α) (cs:List Value) (ok okp:Nat->Prop) (hs:a.eval s=v) (hx:a.eval x=.slice (some ⟨W.heap.size,0,none⟩) 1 1) (hp:d.M W base okp p cs) (hokp: ∀ k,okp k->ok k∧some k≠v.ownBlock) (hfresh: ∀ k,W.heap.size<=k->ok k)
  (HO:d.R e W base ok v xs) (HB:Below base w0 W) (hbase:base<=W.heap.size) (hl:(xs.length+1)*bytes<=140737488355328)
  (h: ∀ v1 w1,d.R e w1 base ok v1 (xs ++ [p])->Below base w0 w1->W.grownBy w1 v.ownBlock->(v1.ownBlock=v.ownBlock∨ ∃ b,v1.ownBlock=some b∧W.heap.size<=b)->wpList P ops Q rest (a.put o.dst v1) w1):
  wpList P ops Q (o :: rest) a (W.alloc (.cells cs.toArray e)):=by
 obtain ⟨h0,inner,hown,hr⟩:=HO;refine ia_ base hgd s x t e z d.sz bytes ho ht hinfo hz hs0 hb0 v xs.length inner cs hs hx (d.K_len (d.K_of_M hp)) (d.K_one (d.K_of_M hp)) hown HB hbase hl ?_;intro v1 w1 hown1 hb1 hg1 hat1;exact h v1 w1 (R_appended h0 hr hp hokp hfresh hown1 hg1 hat1) hb1 hg1 hat1
end
theorem hd_ {α:Type}{enc:α->Value}(xs:List α):Reps (fun (x:α) (cs:List Value)=>cs=[enc x]) 1 xs (encs enc xs):=by
 refine ⟨by simp [encs],fun j p hj=>?_⟩;obtain ⟨hl,hp⟩:=List.getElem?_eq_some_iff.1 hj;have hl':j<(encs enc xs).length:=by rw [kb_];exact hl
 rw [Nat.mul_one,List.drop_eq_getElem_cons hl'];simp [encs,hp]
theorem lw_ {α:Type}{enc:α->Value}{h1: ∀ x,(enc x).oneCell'=true}{e:Nat}{w:World}{base:Nat}{ok:Nat->Prop}{v:Value}{xs:List α}(h:(scalar enc h1).R e w base ok v xs):w.ownsRow base e 1 v xs.length (encs enc xs):=by
 obtain ⟨_,inner,ho,hr⟩:=h;have:inner=encs enc xs:=by
  apply List.ext_getElem?;intro j;rcases Nat.lt_or_ge j xs.length with hj | hj
  ·have h2:=hr.2 j _ (List.getElem?_eq_getElem hj);have hl:j<inner.length:=by have:=hr.1;simp [scalar] at this;omega
   have h3:(inner.drop (j*1)).take 1=[enc xs[j]]:=h2;rw [Nat.mul_one,List.drop_eq_getElem_cons hl] at h3;have h4:inner[j]=enc xs[j]:=by
    have h5:=congrArg List.head? h3;rw [List.take_succ_cons] at h5;exact Option.some.inj h5
   rw [List.getElem?_eq_getElem hl,h4];simp [encs,List.getElem?_eq_getElem hj]
  ·have h3:inner.length=xs.length:=by have:=hr.1;simp [scalar] at this;omega
   rw [List.getElem?_eq_none (by omega),List.getElem?_eq_none (by rw [kb_];omega)]
 rw [←this];exact ho
theorem C_of_reads {α:Type}{enc:α->Value}{d:α}{h1: ∀ x,(enc x).oneCell'=true}{w:World}{A:Option Addr}{n:Nat}{xs:List α}(h:ReadsOf enc d w A n xs):(scalar enc h1).C w A n xs:=by
 refine ⟨h.1,h.2.1,fun hn=>?_⟩;obtain ⟨ad,e,hc⟩:=h.2.2 hn;refine ⟨ad,e,fun j p hj=>⟨[enc p],rfl,rfl,fun i u hu=>?_⟩⟩;obtain ⟨hl,hp⟩:=List.getElem?_eq_some_iff.1 hj;have h2:=hc j (by have:=h.1;omega);rw [List.getD_eq_getElem?_getD,hj] at h2;cases i with
 | zero=>
  have:enc p=u:=by simpa using hu
  subst this;simpa [scalar] using h2
 | succ i=>simp at hu
theorem dx_ {α:Type}{enc:α->Value}{d:α}{h1: ∀ x,(enc x).oneCell'=true}{w:World}{A:Option Addr}{n:Nat}{xs:List α}(h:(scalar enc h1).C w A n xs):ReadsOf enc d w A n xs:=by
 refine ⟨h.1,h.2.1,fun hn=>?_⟩;obtain ⟨ad,e,hc⟩:=h.2.2 hn;refine ⟨ad,e,fun j hj=>?_⟩;have hl:j<xs.length:=by have:=h.1;omega
 obtain ⟨c,_,hK,hcell⟩:=hc j _ (List.getElem?_eq_getElem hl);have hK':c=[enc xs[j]]:=hK;subst hK';have:=hcell 0 _ rfl;simpa [scalar,List.getD_eq_getElem?_getD,List.getElem?_eq_getElem hl] using this
end Kd
namespace Kd
structure Mono {α β:Type} (F:Kd α->Kd β):Prop where
 sz: ∀ d d':Kd α,d.sz=d'.sz->(F d).sz=(F d').sz
 K: ∀ d d':Kd α,d.sz=d'.sz->(∀ w x cs,d.K w x cs->d'.K w x cs)-> ∀ w x cs,(F d).K w x cs->(F d').K w x cs
 M: ∀ d d':Kd α,d.sz=d'.sz->(∀ w base ok x cs,d.M w base ok x cs->d'.M w base ok x cs)-> ∀ w base ok x cs,(F d).M w base ok x cs->(F d').M w base ok x cs
theorem eo_ {α β:Type}(k:Kd β):Mono (fun _:Kd α=>k):=⟨fun _ _ _=>rfl,fun _ _ _ _ _ _ _ h=>h,fun _ _ _ _ _ _ _ _ _ h=>h⟩
theorem mono_id {α:Type}:Mono (fun d:Kd α=>d):=⟨fun _ _ h=>h,fun _ _ _ h=>h,fun _ _ _ h=>h⟩
theorem C_imp {α:Type}{d d':Kd α}(hs:d.sz=d'.sz)(h: ∀ w x cs,d.K w x cs->d'.K w x cs){w:World}{A:Option Addr}{n:Nat}{xs:List α}(hc:d.C w A n xs):d'.C w A n xs:=by
 unfold C at hc ⊢;rw [←hs];exact hc.imp_ (Below.refl _ _) (fun _ _ hp=>h _ _ _ hp)
theorem R_imp {α:Type}{d d':Kd α}(hs:d.sz=d'.sz)(h: ∀ w base ok x cs,d.M w base ok x cs->d'.M w base ok x cs){e:Nat}{w:World}{base:Nat}{ok:Nat->Prop}{v:Value}{xs:List α}(hr:d.R e w base ok v xs):d'.R e w base ok v xs:=by
 unfold R at hr ⊢;rw [←hs];exact ⟨hr.1,hr.2.imp_ (fun _ _ hp=>h _ _ _ _ _ hp)⟩
theorem kt_ {α β:Type}(e:Nat){G:Kd α->Kd β}(hG:Mono G):Mono (fun d=>slice e (G d)):=by
 refine ⟨fun _ _ _=>rfl,?_,?_⟩
 ·rintro d d' hs h w x cs ⟨A,c,rfl,hl,hr⟩;exact ⟨A,c,rfl,hl,C_imp (hG.sz d d' hs) (hG.K d d' hs h) hr⟩
 ·rintro d d' hs h w base ok x cs ⟨v,rfl,hr⟩;exact ⟨v,rfl,R_imp (hG.sz d d' hs) (hG.M d d' hs h) hr⟩
theorem ff_ {α β γ:Type}{G:Kd α->Kd β}{H:Kd α->Kd γ}(hG:Mono G)(hH:Mono H):Mono (fun d=>pair (G d) (H d)):=by
 refine ⟨fun d d' hs=>?_,?_,?_⟩
 ·show (G d).sz+(H d).sz=(G d').sz+(H d').sz;rw [hG.sz d d' hs,hH.sz d d' hs]
 ·rintro d d' hs h w x cs ⟨c0,c1,rfl,h0,h1⟩;exact ⟨c0,c1,rfl,hG.K d d' hs h _ _ _ h0,hH.K d d' hs h _ _ _ h1⟩
 ·rintro d d' hs h w base ok x cs ⟨c0,c1,rfl,h0,h1⟩;exact ⟨c0,c1,rfl,hG.M d d' hs h _ _ _ _ _ h0,hH.M d d' hs h _ _ _ _ _ h1⟩
theorem mono_iso {α β γ:Type}{G:Kd α->Kd β}(f:γ->β)(hG:Mono G):Mono (fun d=>iso (G d) f):=
 ⟨hG.sz,fun d d' hs h w x cs=>hG.K d d' hs h w (f x) cs,fun d d' hs h w base ok x cs=>hG.M d d' hs h w base ok (f x) cs⟩
def Sub {α β:Type}(F:Kd α->Kd β)(E:List Nat):Prop:= ∀ d:Kd α,(∀ q,q∈d.E->q∈E)-> ∀ q,q∈(F d).E->q∈E
theorem fd_ {α β:Type}{E:List Nat}(k:Kd β)(h: ∀ q,q∈k.E->q∈E):Sub (fun _:Kd α=>k) E:=fun _ _=>h
theorem sub_id {α:Type}{E:List Nat}:Sub (fun d:Kd α=>d) E:=fun _ h=>h
theorem sub_slice {α β:Type}{E:List Nat}(e:Nat){G:Kd α->Kd β}(he:e∈E)(hG:Sub G E):Sub (fun d=>slice e (G d)) E:=fun d h q hq=>by
 rcases List.mem_cons.1 hq with rfl | hq
 ·exact he
 ·exact hG d h q hq
theorem fv_ {α β γ:Type}{E:List Nat}{G:Kd α->Kd β}{H:Kd α->Kd γ}(hG:Sub G E)(hH:Sub H E):Sub (fun d=>pair (G d) (H d)) E:=fun d h q hq=>by
 rcases List.mem_append.1 hq with hq | hq
 ·exact hG d h q hq
 ·exact hH d h q hq
theorem sub_iso {α β γ:Type}{E:List Nat}{G:Kd α->Kd β}(f:γ->β)(hG:Sub G E):Sub (fun d=>iso (G d) f) E:=hG
theorem upto_E {α:Type}{F:Kd α->Kd α}{sz:Nat}{E:List Nat}(h:Sub F E): ∀ n q,q∈(upto F sz E n).E->q∈E
 | 0,_,hq=>hq
 | n+1,q,hq=>h _ (upto_E h n) q hq
theorem upto_sz {α:Type}{F:Kd α->Kd α}{sz:Nat}{E:List Nat}(h: ∀ d:Kd α,(F d).sz=sz): ∀ n,(upto F sz E n).sz=sz
 | 0=>rfl
 | _+1=>h _
section
variable {α:Type} {F:Kd α->Kd α} {sz:Nat} {E:List Nat} {hs: ∀ n,(upto F sz E n).sz=sz} {hE: ∀ n q,q∈(upto F sz E n).E->q∈E}
theorem upto_K (hm:Mono F)(hs: ∀ n,(upto F sz E n).sz=sz): ∀ n {w x cs},(upto F sz E n).K w x cs->(upto F sz E (n+1)).K w x cs
 | 0,_,_,_,h=>h.elim
 | n+1,_,_,_,h=>hm.K _ _ (by rw [hs n,hs (n+1)]) (fun _ _ _ hk=>upto_K hm hs n hk) _ _ _ h
theorem upto_K_le (hm:Mono F)(hs: ∀ n,(upto F sz E n).sz=sz){n m:Nat}(hnm:n<=m){w x cs}(h:(upto F sz E n).K w x cs):(upto F sz E m).K w x cs:=by
 obtain ⟨j,rfl⟩:=Nat.exists_eq_add_of_le hnm
 induction j with
 | zero=>exact h
 | succ j ih=>exact upto_K hm hs _ (ih (by omega))
theorem fix_C {n:Nat}{w:World}{A:Option Addr}{m:Nat}{xs:List α}(h:(upto F sz E n).C w A m xs):(fix F sz E hs hE).C w A m xs:=C_imp (d':=fix F sz E hs hE) (hs n) (fun w x cs hp=>(⟨n,hp⟩: ∃ n,(upto F sz E n).K w x cs)) h
theorem bounded {P:Nat->Nat->Prop}(hP: ∀ n m j,n<=m->P n j->P m j): ∀ m,(∀ j,j<m-> ∃ n,P n j)-> ∃ N,∀ j,j<m->P N j
 | 0,_=>⟨0,fun j hj=>absurd hj (Nat.not_lt_zero j)⟩
 | m+1,h=>by
  obtain ⟨N,hN⟩:=bounded hP m (fun j hj=>h j (by omega));obtain ⟨n,hn⟩:=h m (by omega);refine ⟨max N n,fun j hj=>?_⟩;rcases Nat.lt_or_ge j m with hj' | hj'
  ·exact hP N _ j (Nat.le_max_left _ _) (hN j hj')
  ·have:j=m:=by omega
   subst this;exact hP n _ j (Nat.le_max_right _ _) hn
theorem ky_ (hm:Mono F){w:World}{A:Option Addr}{m:Nat}{xs:List α}(h:(fix F sz E hs hE).C w A m xs): ∃ n,(upto F sz E n).C w A m xs:=by
 rcases Nat.eq_zero_or_pos m with hz | hpos
 ·subst hz;exact ⟨0,h.1,h.2.1,fun hp=>absurd hp (Nat.lt_irrefl 0)⟩
 ·obtain ⟨ad,e,hc⟩:=h.2.2 hpos;obtain ⟨N,hN⟩:=bounded (P:=fun n j=> ∀ p,xs[j]? =some p-> ∃ c,c.length=sz∧(upto F sz E n).K w p c∧ ∀ i u,c[i]? =some u->w.cell? (ad.add (j*sz+i))=some u)
   (fun n n' j hnm hp p hj=>by
    obtain ⟨c,h1,h2,h3⟩:=hp p hj;exact ⟨c,h1,upto_K_le hm hs hnm h2,h3⟩) xs.length
   (fun j hj=>by
    obtain ⟨c,h1,⟨n,h2⟩,h3⟩:=hc j _ (List.getElem?_eq_getElem hj);refine ⟨n,fun p hp=>?_⟩;rw [List.getElem?_eq_getElem hj] at hp;injection hp with hp;rw [←hp];exact ⟨c,h1,h2,h3⟩)
  refine ⟨N,h.1,h.2.1,fun _=>⟨ad,e,fun j p hj=>?_⟩⟩;rw [hs N];exact hN j (List.getElem?_eq_some_iff.1 hj).1 p hj
theorem upto_C_le (hm:Mono F)(hs: ∀ n,(upto F sz E n).sz=sz){n m:Nat}(hnm:n<=m){w:World}{A:Option Addr}{l:Nat}{xs:List α}(h:(upto F sz E n).C w A l xs):(upto F sz E m).C w A l xs:=C_imp (by rw [hs n,hs m]) (fun _ _ _ hp=>upto_K_le hm hs hnm hp) h
end
end Kd
namespace Kd
theorem R_after {α:Type}{d:Kd α}{e base:Nat}{ok:Nat->Prop}{W w1:World}{u v v1:Value}{xs:List α}(h:d.R e W base (fun k=>ok k∧some k≠v.ownBlock) u xs)(hg:W.grownBy w1 v.ownBlock)(hat:v1.ownBlock=v.ownBlock∨ ∃ b,v1.ownBlock=some b∧W.heap.size<=b):d.R e w1 base (fun k=>ok k∧some k≠v1.ownBlock) u xs:=by
 refine R_mono (R_move (R_bound h) (fun k hk=>hg.block k hk.2.2.1 hk.1.2)) (fun k hk=>⟨hk.1.1,?_⟩);rcases hat with hat | ⟨b,hb,hle⟩
 ·rw [hat];exact hk.1.2
 ·rw [hb];intro he;injection he with he;have:=hk.2.2.1;omega
end Kd
namespace Kd
section
variable {α β:Type} {d:Kd α} {d':Kd β} {e e':Nat} {w w1 W:World} {base b b':Nat} {ok ok' okv oku:Nat->Prop} {v u:Value} {xs:List α} {ys:List β}
theorem R_alloc (h:d.R e w base ok v xs)(o:Obj):d.R e (w.alloc o) base ok v xs:=R_below h (ab_ (Below.refl _ _) o)
theorem R_drew (h:d.R e w base ok v xs):d.R e w.drew base ok v xs:=R_below h (ca_ (Below.refl _ _))
theorem R_drewN (h:d.R e w base ok v xs)(m:Nat):d.R e (w.drewN m) base ok v xs:=R_below h (ad_ (Below.refl _ _) m)
theorem C_alloc {A:Option Addr}{n:Nat}(h:d.C w A n xs)(o:Obj):d.C (w.alloc o) A n xs:=C_below h (ab_ (Below.refl _ _) o)
theorem C_drew {A:Option Addr}{n:Nat}(h:d.C w A n xs):d.C w.drew A n xs:=C_below h (ca_ (Below.refl _ _))
theorem C_drewN {A:Option Addr}{n:Nat}(h:d.C w A n xs)(m:Nat):d.C (w.drewN m) A n xs:=C_below h (ad_ (Below.refl _ _) m)
theorem C_nil (d:Kd α)(w:World):d.C w none ([]:List α).length []:=⟨rfl,by simp,fun h=>absurd h (Nat.lt_irrefl 0)⟩
theorem C_max {A:Option Addr}{n:Nat}(h:d.C w A n xs):n<=9223372036854775807:=h.2.1
theorem R_reads' {A:Option Addr}{n c:Nat}(h:d.R e w base ok (.slice A n c) xs):n=xs.length∧n<=c∧d.C w A xs.length xs:=by
 obtain ⟨A',c',he,hl,hr⟩:=R_reads h;injection he with h1 h2 h3;subst h1;exact ⟨h2,by omega,hr⟩
theorem R_lt (h:d.R e w base ok v xs): ∀ k,v.ownBlock=some k->k<w.heap.size:=by
 obtain ⟨inner,ho⟩:=R_own h;exact own_lt ho
theorem R_base (h:d.R e w base ok v xs): ∀ k,v.ownBlock=some k->base<=k:=by
 obtain ⟨inner,ho⟩:=R_own h;exact gr_ ho
theorem R_form (h:d.R e w base ok v xs)(hp:0<xs.length): ∃ g cap,v=.slice (some ⟨g,0,none⟩) xs.length cap∧base<=g∧g<w.heap.size∧ ∃ cells,w.heap[g]? =some (.cells cells e (0,0)):=by
 obtain ⟨inner,ho⟩:=R_own h;obtain ⟨g,cap,he,hb,hl⟩:=ho.form hp;obtain ⟨cells,hc⟩:=fn_ ho g (by rw [he];simp [Value.ownBlock]);exact ⟨g,cap,he,hb,hl,cells,hc⟩
end
section
variable {w W:World} {A:Option Addr} {n:Nat}
theorem ds_ {k:IntKind}{xs:List Int}(h:(Kd.int k).C w A n xs)(i:Int)(h0:0<=i)(h1:i<n): ∃ ad,A=some ad∧w.cell? (ad.add i.toNat)=some (.int k (rd xs i)):=
 ReadsOf.at_ (dx_ (enc:=Value.int k) (d:=(0:Int)) (h1:=fun _=>rfl) h) i h0 h1
theorem fs_ {xs:List ByteArray}(h:Kd.string.C w A n xs)(i:Int)(h0:0<=i)(h1:i<n): ∃ ad,A=some ad∧w.cell? (ad.add i.toNat)=some (.string (rdOf ByteArray.empty xs i)):=
 ReadsOf.at_ (dx_ (enc:=Value.string) (d:=ByteArray.empty) (h1:=fun _=>rfl) h) i h0 h1
variable {α:Type} {enc:α->Value} {h1: ∀ x,(enc x).oneCell'=true} {e base g cap:Nat} {ok:Nat->Prop} {xs:List α}
end
section
variable {P:Program} {ops:Array Oper} {rest:List Oper} {o:Oper} {a:Act} {Q:Exit->Act->World->Prop}
theorem event_run {W w1:World}{v:Value}(hgd:o.guard=none)(hrun:(execOp a.eval o).run P W=.ok (.value v) w1)(h:wpList P ops Q rest (a.put o.dst v) w1):wpList P ops Q (o :: rest) a W:=by
 refine wpList_plain hgd fun K hK=>?_;unfold Oper.wp;rw [hrun];exact hK _ _ h
variable {α:Type}
theorem R_lit (d:Kd α){w0 W:World}(base e:Nat)(hgd:o.guard=none){N:Tmp}(_hd:o.dst=some N){xs:List α}{inner:List Value}{ok okp:Nat->Prop}
  (hrun:(execOp a.eval o).run P W=.ok (.value (.slice (some ⟨W.heap.size,0,none⟩) xs.length xs.length)) (W.alloc (.cells inner.toArray e)))
  (hrep:Reps (d.M W base okp) d.sz xs inner) (hok: ∀ k,okp k->ok k) (hfresh:ok W.heap.size) (HB:Below base w0 W) (hbase:base<=W.heap.size) (hm:xs.length<=9223372036854775807)
  (h: ∀ v1 w1,d.R e w1 base ok v1 xs->Below base w0 w1->W.grownBy w1 none->(∃ b,v1.ownBlock=some b∧W.heap.size<=b)->wpList P ops Q rest (a.put o.dst v1) w1):wpList P ops Q (o :: rest) a W:=by
 refine event_run hgd hrun (h _ _ ⟨fun k hk=>?_,inner,?_,?_⟩ (HB.alloc hbase _) (World.grownBy_alloc W _ none) ⟨W.heap.size,by simp [Value.ownBlock],Nat.le_refl _⟩)
 ·have:W.heap.size=k:=by simpa [Value.ownBlock] using hk
  subst this;exact hfresh
 ·have h2:=World.ownsRow_lit (base:=base) (e:=e) (size:=d.sz) W inner.toArray xs.length hbase (by simpa [maxLen] using hm) (by simpa using hrep.1);simpa using h2
 ·refine hrep.imp_ (fun p c hp=>d.M_mono (fun k hk=>⟨hok k hk.1,fun he=>?_⟩) (M_below (d.M_bound hp) (ab_ (Below.refl _ _) _)));have h3:k=W.heap.size:=by simpa [Value.ownBlock] using he
  have:=hk.2.2.1;omega
end
end Kd
section
variable {w w1:World} {base n size:Nat} {e:TypeId} {v:Value} {xs:List Value}
theorem gf_ {g:Nat}: ∀ (vs:List Value) (o:Nat) {w:World} (k:Nat),k≠g->(w.setCells g o vs).heap[k]? =w.heap[k]?
 | [],_,_,_,_=>rfl
 | v :: r,o,w,k,hk=>by
  rw [World.setCells,gf_ r (o+1) k hk];exact Below.heap_setCell w ⟨g,o,none⟩ v k hk
theorem ht_ (g:Nat): ∀ (vs:List Value) (o:Nat) (w:World),(w.setCells g o vs).os=w.os∧(w.setCells g o vs).tape=w.tape∧(w.setCells g o vs).output=w.output∧(w.setCells g o vs).heap.size=w.heap.size
 | [],_,_=>⟨rfl,rfl,rfl,rfl⟩
 | v :: r,o,w=>by
  obtain ⟨h1,h2,h3,h4⟩:=ht_ g r (o+1) (w.setCell ⟨g,o,none⟩ v);rw [World.setCells];exact ⟨h1,h2,h3,by rw [h4];simp [World.setCell]⟩
theorem it_ {g:Nat}{e:TypeId}: ∀ (vs:List Value) (o:Nat) (w:World) (cur:Array Value),w.heap[g]? =some (.cells cur e (0,0))->o+vs.length<=cur.size->
  ∃ cur',(w.setCells g o vs).heap[g]? =some (.cells cur' e (0,0))∧cur'.size=cur.size∧cur'.toList=cur.toList.take o ++ vs ++ cur.toList.drop (o+vs.length)
 | [],o,w,cur,h,_=>⟨cur,h,rfl,by simp⟩
 | v :: r,o,w,cur,h,hl=>by
  have h2:=eb_ h o v;simp only [List.length_cons] at hl;obtain ⟨cur',h3,h4,h5⟩:=it_ r (o+1) (w.setCell ⟨g,o,none⟩ v) _ h2 (by simp;omega);refine ⟨cur',h3,by rw [h4];simp,?_⟩;rw [h5,Array.toList_setIfInBounds];have ho:o<cur.toList.length:=by rw [Array.length_toList];omega
  rw [List.take_set,List.drop_set_of_lt (by omega)];simp only [List.length_cons];rw [show o+1+r.length=o+(r.length+1) by omega];congr 1;rw [List.take_succ_eq_append_getElem ho,List.set_append_right _ _ (by rw [List.length_take];omega)];have ho':o<cur.size:=by omega
  simp [Nat.min_eq_left (Nat.le_of_lt ho')]
end
namespace Kd
end Kd
namespace Kd
section
variable {α:Type} {d:Kd α} {e e':Nat} {w w1 W:World} {base:Nat} {ok:Nat->Prop} {u v:Value} {xs:List α}
theorem R_elder' (hu:d.R e W base ok u xs)(hbase: ∀ k,v.ownBlock=some k->W.heap.size<=k)(hb:Below W.heap.size W w1):d.R e w1 base (fun k=>ok k∧some k≠v.ownBlock) u xs:=
 R_mono (R_move (R_bound hu) (fun k hk=>hb.block k hk.2.2.1)) (fun k hk=>⟨hk.1,fun he=>by have:=hbase k he.symm;have:=hk.2.2.1;omega⟩)
theorem R_new' (h:d.R e w1 W.heap.size ok v xs)(hlt: ∀ k,u.ownBlock=some k->k<W.heap.size):d.R e w1 W.heap.size (fun k=>ok k∧some k≠u.ownBlock) v xs:=
 R_mono (R_bound h) (fun k hk=>⟨hk.1,fun he=>by have:=hlt k he.symm;have:=hk.2.1;omega⟩)
theorem fresh' (hlt: ∀ k,u.ownBlock=some k->k<W.heap.size): ∀ k,W.heap.size<=k->some k≠u.ownBlock:=fun k hk he=>by have:=hlt k he.symm;omega
end
end Kd
theorem jm_ {α:Type}(a seg:List α)(o:Nat)(h:o+seg.length<=a.length)(q:Nat):
  (a.take o ++ seg ++ a.drop (o+seg.length))[q]? =if q<o then a[q]? else if q<o+seg.length then seg[q - o]? else a[q]? :=by
 have hl:(a.take o).length=o:=by rw [List.length_take];omega
 rw [List.append_assoc];by_cases h1:q<o
 ·rw [if_pos h1,List.getElem?_append_left (by omega),List.getElem?_take,if_pos h1]
 ·rw [if_neg h1,List.getElem?_append_right (by omega),hl];by_cases h2:q<o+seg.length
  ·rw [if_pos h2,List.getElem?_append_left (by omega)]
  ·rw [if_neg h2,List.getElem?_append_right (by omega),List.getElem?_drop];congr 1;omega
namespace Kd
section
variable {α:Type} {d:Kd α} {e base g n cap:Nat} {ok okp:Nat->Prop} {W:World} {xs:List α}
theorem R_elem (h:d.R e W base ok (.slice (some ⟨g,0,none⟩) n cap) xs)(z:α)(i:Int)(h0:0<=i)(h1:i<n):
  ∃ c,c.length=d.sz∧d.M W base (fun k=>ok k∧k≠g) (xs.getD i.toNat z) c∧(∀ j u,c[j]? =some u->W.cell? ⟨g,i.toNat*d.sz+j,none⟩=some u)∧ ∀ j,W.frozen? ⟨g,i.toNat*d.sz+j,none⟩=false:=by
 obtain ⟨hn,hnc,hC⟩:=R_reads' h;obtain ⟨_,inner,ho,hr⟩:=h;have hil:i.toNat<xs.length:=by omega
 have hseg:i.toNat*d.sz+d.sz<=inner.length:=by rw [hr.1,←Nat.succ_mul];exact Nat.mul_le_mul_right _ hil
 have hM:=hr.2 i.toNat _ (List.getElem?_eq_getElem hil);refine ⟨(inner.drop (i.toNat*d.sz)).take d.sz,by rw [List.length_take,List.length_drop];omega,?_,fun j u hu=>?_,fun j=>?_⟩
 ·rw [List.getD_eq_getElem?_getD,List.getElem?_eq_getElem hil];exact d.M_mono (fun k hk=>⟨hk.1,fun he=>hk.2 (by rw [he];simp [Value.ownBlock])⟩) hM
 ·rw [List.getElem?_take] at hu;split at hu
  ·rw [List.getElem?_drop] at hu;have:=ho.cells (g:=g) (by simp [Value.ownBlock]) _ u hu;rwa [add_plain] at this
  ·cases hu
 ·obtain ⟨cells,hc⟩:=fn_ ho g (by simp [Value.ownBlock]);exact aa_ hc _
theorem R_seg (h:d.R e W base ok (.slice (some ⟨g,0,none⟩) n cap) xs)(i:Int)(h0:0<=i)(h1:i<n){c seg:List Value}{j:Nat}(hcl:c.length=d.sz)(hcc: ∀ j u,c[j]? =some u->W.cell? ⟨g,i.toNat*d.sz+j,none⟩=some u)
  (hj:j+seg.length<=d.sz) {x':α} (hM:d.M W base okp x' (c.take j ++ seg ++ c.drop (j+seg.length))) (hokp: ∀ k,okp k->ok k∧k≠g):
  d.R e (W.setCells g (i.toNat*d.sz+j) seg) base ok (.slice (some ⟨g,0,none⟩) n cap) (xs.set i.toNat x')∧W.grownBy (W.setCells g (i.toNat*d.sz+j) seg) (some g):=by
 obtain ⟨hn,hnc,_⟩:=R_reads' h;obtain ⟨hok,inner,ho,hr⟩:=h;have hil:i.toNat<xs.length:=by omega
 have hseg:i.toNat*d.sz+d.sz<=inner.length:=by rw [hr.1,←Nat.succ_mul];exact Nat.mul_le_mul_right _ hil
 have hin:inner.length=n*d.sz:=by rw [hr.1,hn]
 obtain ⟨ho1,ho2⟩:=ho;rcases ho2 with ⟨hv,_⟩ | ⟨g',cap',cur,hv,hb,hh,hnc',hcm,hcs,ht⟩
 ·cases hv
 injection hv with ha _ hc;injection ha with ha;injection ha with hg;subst hg;subst hc;have hfit:i.toNat*d.sz+j+seg.length<=cur.size:=by
  have:n*d.sz<=cap*d.sz:=Nat.mul_le_mul_right _ hnc;omega
 obtain ⟨cur',h3,h4,h5⟩:=it_ seg (i.toNat*d.sz+j) W cur hh hfit;obtain ⟨s1,s2,s3,s4⟩:=ht_ g seg (i.toNat*d.sz+j) W;have hfar: ∀ k,k≠g->(W.setCells g (i.toNat*d.sz+j) seg).heap[k]? =W.heap[k]? :=fun k hk=>gf_ seg _ k hk
 -- the element's cells before are what was read
 have hcin: ∀ q,q<d.sz->c[q]? =inner[i.toNat*d.sz+q]? :=by
  intro q hq;have hq':q<c.length:=by omega
  have h6:=hcc q _ (List.getElem?_eq_getElem hq');rw [cell_of_row W g _ cur e (0,0) hh] at h6;rw [List.getElem?_eq_getElem hq',←h6,←ht,List.getElem?_take,if_pos (by rw [←hn];omega),Array.getElem?_toList]
 refine ⟨⟨hok,inner.take (i.toNat*d.sz+j) ++ seg ++ inner.drop (i.toNat*d.sz+j+seg.length),⟨?_,.inr ⟨g,cap,cur',by rw [List.length_set,hn],hb,h3,by rw [List.length_set,←hn];exact hnc,hcm,by rw [h4,hcs],?_⟩⟩,?_⟩,
  ⟨s1,s2,s3,by rw [s4];exact Nat.le_refl _,fun k _ hk=>hfar k (fun he=>hk (by rw [he]))⟩⟩
 ·rw [List.length_set];simp only [List.length_append,List.length_take,List.length_drop];rw [hr.1] at hseg ⊢;omega
 ·rw [List.length_set,←hn];apply List.ext_getElem?;intro q;rw [List.getElem?_take,h5];rw [jm_ cur.toList seg (i.toNat*d.sz+j) (by rw [Array.length_toList];omega) q,jm_ inner seg (i.toNat*d.sz+j) (by omega) q];have hcur: ∀ q,q<n*d.sz->cur.toList[q]? =inner[q]? :=by
   intro q hq;rw [←ht,List.getElem?_take,if_pos (by rw [←hn];exact hq)]
  by_cases hq:q<n*d.sz
  ·rw [if_pos hq,hcur q hq]
  ·rw [if_neg hq,if_neg (by omega),if_neg (by omega),List.getElem?_eq_none (by omega)]
 ·refine ⟨?_,fun m p hm=>?_⟩
  ·rw [List.length_set];simp only [List.length_append,List.length_take,List.length_drop];rw [hr.1] at hseg ⊢;omega
  ·have hml:m<xs.length:=by
    have:=(List.getElem?_eq_some_iff.1 hm).1;rwa [List.length_set] at this
   have hmfit:m*d.sz+d.sz<=inner.length:=by rw [hr.1,←Nat.succ_mul];exact Nat.mul_le_mul_right _ hml
   have hgo:some g=(Value.slice (some ⟨g,0,none⟩) n cap).ownBlock:=by simp [Value.ownBlock]
   by_cases hmi:m=i.toNat
   ·subst hmi;rw [List.getElem?_set_self (by omega)] at hm;injection hm with hm;subst hm;have hcells:((inner.take (i.toNat*d.sz+j) ++ seg ++ inner.drop (i.toNat*d.sz+j+seg.length)).drop (i.toNat*d.sz)).take d.sz=c.take j ++ seg ++ c.drop (j+seg.length):=by
     apply List.ext_getElem?;intro q;rw [List.getElem?_take,List.getElem?_drop,jm_ inner seg _ (by omega),jm_ c seg j (by omega) q];by_cases hq:q<d.sz
     ·rw [if_pos hq,hcin q hq];by_cases hq1:q<j
      ·rw [if_pos (by omega),if_pos hq1]
      ·rw [if_neg (by omega),if_neg hq1];by_cases hq2:q<j+seg.length
       ·rw [if_pos (by omega),if_pos hq2];congr 1;omega
       ·rw [if_neg (by omega),if_neg hq2]
     ·rw [if_neg hq,if_neg (by omega),if_neg (by omega),List.getElem?_eq_none (by omega)]
    rw [hcells];refine d.M_mono (fun k hk=>?_) (d.M_move (w1:=W.setCells g (i.toNat*d.sz+j) seg) (fun k hk=>hfar k (hokp k hk).2) hM);exact ⟨(hokp k hk).1,fun he=>(hokp k hk).2 (by rw [←hgo] at he;injection he)⟩
   ·rw [List.getElem?_set_ne (by omega)] at hm;have hold:=hr.2 m p hm;have hcells:((inner.take (i.toNat*d.sz+j) ++ seg ++ inner.drop (i.toNat*d.sz+j+seg.length)).drop (m*d.sz)).take d.sz=(inner.drop (m*d.sz)).take d.sz:=by
     apply List.ext_getElem?;intro q;rw [List.getElem?_take,List.getElem?_take,List.getElem?_drop,List.getElem?_drop,jm_ inner seg _ (by omega)];by_cases hq:q<d.sz
     ·rw [if_pos hq,if_pos hq];rcases Nat.lt_or_gt_of_ne hmi with hlt | hgt
      ·have:m*d.sz+d.sz<=i.toNat*d.sz:=by rw [←Nat.succ_mul];exact Nat.mul_le_mul_right _ hlt
       rw [if_pos (by omega)]
      ·have:i.toNat*d.sz+d.sz<=m*d.sz:=by rw [←Nat.succ_mul];exact Nat.mul_le_mul_right _ hgt
       rw [if_neg (by omega),if_neg (by omega)]
     ·rw [if_neg hq,if_neg hq]
    rw [hcells];refine d.M_move (fun k hk=>hfar k (fun he=>hk.2 (by rw [he];exact hgo))) hold
end
end Kd
namespace Kd
end Kd
namespace Kd
theorem fx_ {α:Type}{R:α->List Value->Prop}{size:Nat}{ps qs:List α}{cs ds:List Value}(h:Reps R size ps cs)(h':Reps R size qs ds):Reps R size (ps ++ qs) (cs ++ ds):=by
 refine ⟨by rw [List.length_append,List.length_append,h.1,h'.1,Nat.add_mul],fun j p hj=>?_⟩;rcases Nat.lt_or_ge j ps.length with hlt | hge
 ·rw [List.getElem?_append_left hlt] at hj;have hle:j*size+size<=cs.length:=by rw [h.1,←Nat.succ_mul];exact Nat.mul_le_mul_right _ hlt
  rw [List.drop_append_of_le_length (by omega),List.take_append_of_le_length (by rw [List.length_drop];omega)];exact h.2 j p hj
 ·rw [List.getElem?_append_right hge] at hj;have h2:=h'.2 (j - ps.length) p hj;have hle:ps.length*size<=j*size:=Nat.mul_le_mul_right _ hge;rw [List.drop_append,List.drop_eq_nil_of_le (by rw [h.1];exact hle),List.nil_append,h.1,←Nat.sub_mul];exact h2
section
variable {P:Program} {ops:Array Oper} {rest:List Oper} {o:Oper} {a:Act} {Q:Exit->Act->World->Prop} {α:Type}
theorem R_append_rows (d:Kd α){Rr:α->List Value->Prop}{w0 W:World}(base:Nat)(hgd:o.guard=none)(s x:Operand)(t e:TypeId)(z:Value)(bytes:Nat)
  (ho:o.op=.call { callee:=.builtin .append,args:=#[s,x],argTypes:=#[t,t] })
  (ht:P.underlying t=some (.slice e)) (hinfo:(P.info? e).map (fun i=>(i.zero,i.size,i.bytes))=some (some z,d.sz,bytes)) (hz:z.cells.size=d.sz) (hs0:0<d.sz) (hb0:0<bytes)
  (v:Value) (xs ys:List α) (A:Option Addr) (m c:Nat) (ok okp:Nat->Prop) (hs:a.eval s=v) (hx:a.eval x=.slice A m c)
  (HO:d.R e W base ok v xs) (HR:ReadsRow Rr d.sz W A m ys) (hKM: ∀ x cs,Rr x cs->d.M W base okp x cs) (hokp: ∀ k,okp k->ok k∧some k≠v.ownBlock) (hfresh: ∀ k,W.heap.size<=k->ok k)
  (HB:Below base w0 W) (hbase:base<=W.heap.size) (hl:(xs.length+m)*bytes<=140737488355328)
  (h: ∀ v1 w1,d.R e w1 base ok v1 (xs ++ ys)->Below base w0 w1->W.grownBy w1 v.ownBlock->(v1.ownBlock=v.ownBlock∨ ∃ b,v1.ownBlock=some b∧W.heap.size<=b)->wpList P ops Q rest (a.put o.dst v1) w1):
  wpList P ops Q (o :: rest) a W:=by
 obtain ⟨i0,hi,hzz⟩:=Option.map_eq_some_iff.1 hinfo;simp only [Prod.mk.injEq] at hzz;obtain ⟨hz0,hz1,hz2⟩:=hzz;have hm:ys.length=m:=HR.1;have hlen:xs.length+m<=140737488355328:=Nat.le_trans (Nat.le_mul_of_pos_right _ hb0) hl;obtain ⟨hok,inner,hown,hr⟩:=HO;have hrun: ∃ v1 w1,(Builtin.append_ #[t,t] o.type #[v,.slice A m c]).run P W=.ok v1 w1∧d.R e w1 base ok v1 (xs ++ ys)∧W.grownBy w1 v.ownBlock∧(v1.ownBlock=v.ownBlock∨ ∃ b,v1.ownBlock=some b∧W.heap.size<=b):=by
  rcases A with _ | ad
  ·have h0:m=0:=by
    rcases Nat.eq_zero_or_pos m with h0 | h0
    ·exact h0
    ·obtain ⟨ad,h,_⟩:=HR.2.2 h0;cases h
   subst h0;obtain rfl:ys=[]:=List.eq_nil_of_length_eq_zero hm;refine ⟨v,W,?_,by rw [List.append_nil];exact ⟨hok,inner,hown,hr⟩,World.grownBy.refl W _,.inl rfl⟩;rcases hown.2 with ⟨rfl,hn⟩ | ⟨g,cap,cur,rfl,_,_,hnc,_⟩
   ·simp [Builtin.append_,run_underlying ht,sizeOf,typeInfo,hi,Builtin.lenOf,Builtin.firstCells]
   ·simp [Builtin.append_,run_underlying ht,sizeOf,typeInfo,hi,Builtin.lenOf,Builtin.firstCells,hnc,storeCells]
  ·obtain ⟨news,hnr,hnc⟩:=ReadsRow.inner_ HR;have hnM:Reps (d.M W base okp) d.sz ys news:=hnr.imp_ (fun p c hp=>hKM p c hp);have hone: ∀ u∈news,u.oneCell'=true:=by
    intro u hu;obtain ⟨q,hq,rfl⟩:=List.mem_iff_getElem.1 hu;have hql:q / d.sz<ys.length:=by
     rw [Nat.div_lt_iff_lt_mul hs0];rw [←hnM.1];exact hq
    have hc:=hnM.2 (q / d.sz) _ (List.getElem?_eq_getElem hql);refine d.K_one (d.K_of_M hc) _ ?_;rw [List.mem_iff_getElem?];refine ⟨q % d.sz,?_⟩;rw [List.getElem?_take,if_pos (Nat.mod_lt _ hs0),List.getElem?_drop,Nat.mul_comm,Nat.div_add_mod,List.getElem?_eq_getElem hq]
   obtain ⟨v1,w1,hrun,h2,hg,_,hat⟩:=run_append_own_at (P:=P) W base t o.type e i0 z d.sz bytes ht hi hz0 hz1 hz2 hz hs0 v xs.length inner hown ad m c news (by rw [hnM.1,hm]) hnc hone (by simp only [maxLen];omega) hl hbase;have hat':v1.ownBlock=v.ownBlock∨ ∃ b,v1.ownBlock=some b∧W.heap.size<=b:=by
    rcases hat with hat | hat
    ·exact .inl hat
    ·exact .inr ⟨_,hat,Nat.le_refl _⟩
   have hne: ∀ k,some k≠v.ownBlock->k<W.heap.size->some k≠v1.ownBlock:=by
    intro k hk hlt;rcases hat' with hat | ⟨b,hb,hle⟩
    ·rw [hat];exact hk
    ·rw [hb];intro he;injection he with he;omega
   have step: ∀ {q:α} {c:List Value} {o:Nat->Prop},d.M W base o q c->(∀ k,o k->ok k∧some k≠v.ownBlock)->d.M w1 base (fun k=>ok k∧some k≠v1.ownBlock) q c:=by
    intro q c o hq ho;have h1:=d.M_move (w1:=w1) (fun k hk=>hg.block k hk.2.2.1 (ho k hk.1).2) (d.M_bound hq);exact d.M_mono (fun k hk=>⟨(ho k hk.1).1,hne k (ho k hk.1).2 hk.2.2.1⟩) h1
   refine ⟨v1,w1,hrun,⟨fun k hk=>?_,inner ++ news,by rw [List.length_append,hm];exact h2,fx_ (hr.imp_ (fun _ _ hq=>step hq (fun _ hk=>hk))) (hnM.imp_ (fun _ _ hq=>step hq hokp))⟩,hg,hat'⟩;rcases hat' with hat | ⟨b,hb,hle⟩
   ·exact hok k (hat ▸ hk)
   ·rw [hb] at hk;injection hk with hk;exact hfresh k (by omega)
 obtain ⟨v1,w1,hr1,h1,hg,hat⟩:=hrun;refine wpList_plain hgd fun K hK=>?_;unfold Oper.wp execOp;simp only [ho,resolve,invoke,builtin,Sem.run_bind,Sem.run_pure,Result.andThen_ok,List.map_toArray,List.map_cons,List.map_nil,hs,hx,hr1];exact hK _ _ (h v1 w1 h1 (HB.grown hg hbase (gr_ hown)) hg hat)
end
end Kd
theorem lp_ {P:Program}{w:World}{g o:Nat}{e:TypeId}{cur:Array Value}(t:TypeId)(u:Value)(seg:List Value)(hh:w.heap[g]? =some (.cells cur e (0,0)))(hu:u.cells.toList=seg)(ht:(P.info? t).map (·.size)=some seg.length)
  (hfit:o+seg.length<=cur.size) (h1: ∀ q∈seg,q.oneCell'=true):(Instr.storeAt t (.pointer (some ⟨g,o,none⟩)) u).run P w=.ok () (w.setCells g o seg):=by
 obtain ⟨i,hi,hsz⟩:=Option.map_eq_some_iff.1 ht;have hc:u.cells.size=i.size:=by rw [hsz,←hu,Array.length_toList]
 have hst:=run_storeCells_cells (P:=P) g o seg 0 w (fun j hj=>by rw [cell_of_row w g _ cur e (0,0) hh];simp;omega) (fun j _=>aa_ hh _) h1;simp only [Nat.add_zero] at hst;simp [Instr.storeAt,Instr.sureAddr,storeVar,sizeOf,typeInfo,hi,hc,hu,hst]
namespace Kd
end Kd
theorem add_add (a:Addr)(i j:Nat):(a.add i).add j=a.add (i+j):=by
 unfold Addr.add;by_cases h1:i=0 <;> by_cases h2:j=0 <;> simp [h1,h2,Nat.add_assoc]
namespace Kd
section
variable {α:Type} {k:Kd α} {w:World} {A:Option Addr} {xs:List α} {m c:Nat}
theorem C_take (h:k.C w A xs.length xs)(hm:m<=xs.length):k.C w A (xs.take m).length (xs.take m):=by
 have hl:(xs.take m).length=m:=by rw [List.length_take];omega
 refine ⟨rfl,by rw [hl];have:=h.2.1;omega,fun hp=>?_⟩;obtain ⟨ad,e,hc⟩:=h.2.2 (by omega);refine ⟨ad,e,fun j p hj=>hc j p ?_⟩;rw [List.getElem?_take] at hj;split at hj
 ·exact hj
 ·cases hj
theorem C_drop (h:k.C w A xs.length xs)(hm:m<=xs.length)(hc:xs.length<=c):k.C w (if c=m then A else A.map (·.add (m*k.sz))) (xs.drop m).length (xs.drop m):=by
 have hl:(xs.drop m).length=xs.length - m:=List.length_drop;refine ⟨rfl,by rw [hl];have:=h.2.1;omega,fun hp=>?_⟩;rw [hl] at hp;obtain ⟨ad,rfl,hcell⟩:=h.2.2 (by omega);rw [if_neg (by omega)];refine ⟨ad.add (m*k.sz),rfl,fun j p hj=>?_⟩;rw [List.getElem?_drop] at hj;obtain ⟨cs,h1,h2,h3⟩:=hcell (m+j) p hj;refine ⟨cs,h1,h2,fun i u hu=>?_⟩;rw [add_add,show m*k.sz+(j*k.sz+i)=(m+j)*k.sz+i by rw [Nat.add_mul];omega];exact h3 i u hu
end
end Kd
theorem jh_ {P:Program}{w:World}{src dst e:TypeId}{A:Option Addr}{n c:Nat}{xs:List Int}(hs:P.underlying src=some (.slice e))(he:P.underlying e=some (.int .u8))(hd:P.underlying dst=some .string)
  (h:ReadsInt w .u8 A n xs):(convert src dst (.slice A n c)).run P w=.ok (.string (strOfNums xs)) w:=by
 have hn:xs.length=n:=h.1;rcases A with _ | ad
 ·have h0:n=0:=by
   rcases Nat.eq_zero_or_pos n with h0 | h0
   ·exact h0
   ·obtain ⟨ad,h',_⟩:=h.2.2 h0;cases h'
  subst h0;obtain rfl:xs=[]:=List.eq_nil_of_length_eq_zero hn;exact run_convert_bytes_nil w src e hs he 0 c dst hd
 ·have hl:(loadCells ad n).run P w=.ok (xs.map (Value.int .u8)).toArray w:=by
   have:=run_loadCells_list (P:=P) w ad (xs.map (Value.int .u8)) (fun j v hj=>by
    have hjl:j<xs.length:=by
     rcases Nat.lt_or_ge j xs.length with h' | h'
     ·exact h'
     ·rw [List.getElem?_eq_none (by rw [List.length_map];exact h')] at hj;cases hj
    obtain ⟨ad',he',hc⟩:=h.2.2 (by omega);injection he' with he';subst he';rw [hc j (by omega)];rw [List.getElem?_map,List.getElem?_eq_getElem hjl] at hj;simp at hj;subst hj;simp [List.getD_eq_getElem?_getD,List.getElem?_eq_getElem hjl])
   simpa [hn] using this
  rw [run_convert_bytes_string w src dst e _ n c hs he hd,run_bytesToString w ad n c xs hl,foldl_push_bytes];simp [strOfNums,ByteArray.empty,ByteArray.emptyWithCapacity];rfl
theorem Kd.C_string {P:Program}{w:World}{src dst e:TypeId}{A:Option Addr}{n c:Nat}{xs:List Int}(hs:P.underlying src=some (.slice e))(he:P.underlying e=some (.int .u8))(hd:P.underlying dst=some .string)
  (h:(Kd.int .u8).C w A n xs):(convert src dst (.slice A n c)).run P w=.ok (.string (strOfNums xs)) w:=
 jh_ hs he hd (Kd.dx_ (enc:=Value.int .u8) (d:=(0:Int)) (h1:=fun _=>rfl) h)
theorem ap_ {w W:World}(h:Below w.heap.size w W):w.heap.size<=W.heap.size:=h.size
theorem av_ {w W w2:World}(h:Below w.heap.size w W)(k:Below W.heap.size W w2):Below w.heap.size w w2:=below_then h h.size k
theorem bb_ {w W:World}{g j:Nat}{v:Value}(h:Below w.heap.size w W)(hg:w.heap.size<=g):Below w.heap.size w (W.setCell ⟨g,j,none⟩ v):=h.setCell hg _
theorem kv_ {w W:World}{g:Nat}{row:Option Nat}(h:KeepBut w W g row)(m:Nat):KeepBut w (W.drewN m) g row:=h
theorem add_block (a:Addr)(i:Nat):(a.add i).block=a.block:=by unfold Addr.add;split <;> rfl
theorem cj_ {w:World}{g:Nat}{t:TypeId}{cs cs':Array Value}(h:w.heap[g]? =some (.cells cs t (0,0)))(i:Nat)(u:Value)(e:cs.setIfInBounds i u=cs'):(w.setCell ⟨g,i,none⟩ u).heap[g]? =some (.cells cs' t (0,0)):=e ▸ eb_ h i u
theorem ef_ {w W:World}{g:Nat}{row:Option Nat}(h:KeepBut w W g row){p:Addr}(hp:w.heap.size<=p.block)(u:Value):KeepBut w (W.setCell p u) g row:=
 ⟨by simpa [World.setCell] using h.1,fun i hi hg hr=>(Below.heap_setCell W p u i (by omega)).trans (h.2 i hi hg hr)⟩
theorem au_ {base:Nat}{w W:World}(h:Below base w W):Below base w W.drew:=h.drew
namespace Kd
end Kd
namespace Kd
section
variable {α:Type} {d:Kd α} {e base g:Nat} {ok:Nat->Prop} {w w1:World} {v:Value} {xs:List α} {o:Obj}
theorem R_elderB (h:d.R e w base ok v xs)(a:Nat)(ha:w.heap.size<=a):d.R e w base (fun k=>ok k∧k≠a) v xs:=R_mono (R_bound h) (fun k hk=>⟨hk.1,by have:=hk.2.2.1;omega⟩)
end
end Kd
section
variable {P:Program} {ops:Array Oper} {rest:List Oper} {o:Oper} {a:Act} {Q:Exit->Act->World->Prop}
theorem di_ {W:World}(hgd:o.guard=none){N:Tmp}(_hd:o.dst=some N){cs:Array Value}{t:TypeId}
  (hrun:(execOp a.eval o).run P W=.ok (.value (.pointer (some ⟨W.heap.size,0,none⟩))) (W.alloc (.cells cs t (0,0))))
  (h: ∀ g,g=W.heap.size-> ∀ w1,w1.heap[g]? =some (.cells cs t (0,0))->Below W.heap.size W w1->wpList P ops Q rest (a.put o.dst (.pointer (some ⟨g,0,none⟩))) w1):wpList P ops Q (o :: rest) a W:=
 Kd.event_run hgd hrun (h _ rfl _ (aj_ W _) (ab_ (Below.refl _ _) _))
end
namespace Kd
end Kd
namespace Kd
end Kd
section
variable {P:Program} {ops:Array Oper} {rest:List Oper} {o:Oper} {a:Act} {Q:Exit->Act->World->Prop} {W:World}
theorem co_ {N:Tmp}(_hN:o.dst=some N)(h:wpList P ops Q (o :: rest) a W):wpList P ops Q (o :: rest) a W:=h
end
section
variable {P:Program} {ops:Array Oper} {o:Oper} {a:Act} {Q:Exit->Act->World->Prop} {Kc:Act->World->Prop}
namespace Kd
variable {α:Type}
theorem R_append_rows_step (d:Kd α){Rr:α->List Value->Prop}{w0 W:World}(base:Nat)(hw:Region.wanted o (yielded ops a.tmps)=true)(s x:Operand)(t e:TypeId)(z:Value)(bytes:Nat)
  (ho:o.op=.call { callee:=.builtin .append,args:=#[s,x],argTypes:=#[t,t] })
  (ht:P.underlying t=some (.slice e)) (hinfo:(P.info? e).map (fun i=>(i.zero,i.size,i.bytes))=some (some z,d.sz,bytes)) (hz:z.cells.size=d.sz) (hs0:0<d.sz) (hb0:0<bytes)
  (v:Value) (xs ys:List α) (A:Option Addr) (m c:Nat) (ok okp:Nat->Prop) (hs:a.eval s=v) (hx:a.eval x=.slice A m c)
  (HO:d.R e W base ok v xs) (HR:ReadsRow Rr d.sz W A m ys) (hKM: ∀ x cs,Rr x cs->d.M W base okp x cs) (hokp: ∀ k,okp k->ok k∧some k≠v.ownBlock) (hfresh: ∀ k,W.heap.size<=k->ok k)
  (HB:Below base w0 W) (hbase:base<=W.heap.size) (hl:(xs.length+m)*bytes<=140737488355328)
  (h: ∀ v1 w1,d.R e w1 base ok v1 (xs ++ ys)->Below base w0 w1->W.grownBy w1 v.ownBlock->(v1.ownBlock=v.ownBlock∨ ∃ b,v1.ownBlock=some b∧W.heap.size<=b)->Kc (a.put o.dst v1) w1):
  if Region.wanted o (yielded ops a.tmps)=true then Oper.wp P o a W Kc Q else Kc (a.put o.dst undef) W:=by
 obtain ⟨i0,hi,hzz⟩:=Option.map_eq_some_iff.1 hinfo;simp only [Prod.mk.injEq] at hzz;obtain ⟨hz0,hz1,hz2⟩:=hzz;have hm:ys.length=m:=HR.1;have hlen:xs.length+m<=140737488355328:=Nat.le_trans (Nat.le_mul_of_pos_right _ hb0) hl;obtain ⟨hok,inner,hown,hr⟩:=HO;have hrun: ∃ v1 w1,(Builtin.append_ #[t,t] o.type #[v,.slice A m c]).run P W=.ok v1 w1∧d.R e w1 base ok v1 (xs ++ ys)∧W.grownBy w1 v.ownBlock∧(v1.ownBlock=v.ownBlock∨ ∃ b,v1.ownBlock=some b∧W.heap.size<=b):=by
  rcases A with _ | ad
  ·have h0:m=0:=by
    rcases Nat.eq_zero_or_pos m with h0 | h0
    ·exact h0
    ·obtain ⟨ad,h,_⟩:=HR.2.2 h0;cases h
   subst h0;obtain rfl:ys=[]:=List.eq_nil_of_length_eq_zero hm;refine ⟨v,W,?_,by rw [List.append_nil];exact ⟨hok,inner,hown,hr⟩,World.grownBy.refl W _,.inl rfl⟩;rcases hown.2 with ⟨rfl,hn⟩ | ⟨g,cap,cur,rfl,_,_,hnc,_⟩
   ·simp [Builtin.append_,run_underlying ht,sizeOf,typeInfo,hi,Builtin.lenOf,Builtin.firstCells]
   ·simp [Builtin.append_,run_underlying ht,sizeOf,typeInfo,hi,Builtin.lenOf,Builtin.firstCells,hnc,storeCells]
  ·obtain ⟨news,hnr,hnc⟩:=ReadsRow.inner_ HR;have hnM:Reps (d.M W base okp) d.sz ys news:=hnr.imp_ (fun p c hp=>hKM p c hp);have hone: ∀ u∈news,u.oneCell'=true:=by
    intro u hu;obtain ⟨q,hq,rfl⟩:=List.mem_iff_getElem.1 hu;have hql:q / d.sz<ys.length:=by
     rw [Nat.div_lt_iff_lt_mul hs0];rw [←hnM.1];exact hq
    have hc:=hnM.2 (q / d.sz) _ (List.getElem?_eq_getElem hql);refine d.K_one (d.K_of_M hc) _ ?_;rw [List.mem_iff_getElem?];refine ⟨q % d.sz,?_⟩;rw [List.getElem?_take,if_pos (Nat.mod_lt _ hs0),List.getElem?_drop,Nat.mul_comm,Nat.div_add_mod,List.getElem?_eq_getElem hq]
   obtain ⟨v1,w1,hrun,h2,hg,_,hat⟩:=run_append_own_at (P:=P) W base t o.type e i0 z d.sz bytes ht hi hz0 hz1 hz2 hz hs0 v xs.length inner hown ad m c news (by rw [hnM.1,hm]) hnc hone (by simp only [maxLen];omega) hl hbase;have hat':v1.ownBlock=v.ownBlock∨ ∃ b,v1.ownBlock=some b∧W.heap.size<=b:=by
    rcases hat with hat | hat
    ·exact .inl hat
    ·exact .inr ⟨_,hat,Nat.le_refl _⟩
   have hne: ∀ k,some k≠v.ownBlock->k<W.heap.size->some k≠v1.ownBlock:=by
    intro k hk hlt;rcases hat' with hat | ⟨b,hb,hle⟩
    ·rw [hat];exact hk
    ·rw [hb];intro he;injection he with he;omega
   have step: ∀ {q:α} {c:List Value} {o:Nat->Prop},d.M W base o q c->(∀ k,o k->ok k∧some k≠v.ownBlock)->d.M w1 base (fun k=>ok k∧some k≠v1.ownBlock) q c:=by
    intro q c o hq ho;have h1:=d.M_move (w1:=w1) (fun k hk=>hg.block k hk.2.2.1 (ho k hk.1).2) (d.M_bound hq);exact d.M_mono (fun k hk=>⟨(ho k hk.1).1,hne k (ho k hk.1).2 hk.2.2.1⟩) h1
   refine ⟨v1,w1,hrun,⟨fun k hk=>?_,inner ++ news,by rw [List.length_append,hm];exact h2,fx_ (hr.imp_ (fun _ _ hq=>step hq (fun _ hk=>hk))) (hnM.imp_ (fun _ _ hq=>step hq hokp))⟩,hg,hat'⟩;rcases hat' with hat | ⟨b,hb,hle⟩
   ·exact hok k (hat ▸ hk)
   ·rw [hb] at hk;injection hk with hk;exact hfresh k (by omega)
 obtain ⟨v1,w1,hr1,h1,hg,hat⟩:=hrun;rw [if_pos hw];unfold Oper.wp execOp;simp only [ho,resolve,invoke,builtin,Sem.run_bind,Sem.run_pure,Result.andThen_ok,List.map_toArray,List.map_cons,List.map_nil,hs,hx,hr1];exact h v1 w1 h1 (HB.grown hg hbase (gr_ hown)) hg hat
end Kd
end
inductive Vals (P:Program) (tmps:Array Value) (w:World):List ResultVar->List Value->Prop where
 | nil:Vals P tmps w [] []
 | tmp {u:Tmp} {rs:List ResultVar} {vs:List Value} (h:Vals P tmps w rs vs):Vals P tmps w (.tmp u :: rs) (tmps.getD u undef :: vs)
 | cell {p:Tmp} {ty:TypeId} {rs:List ResultVar} {vs:List Value} (g:Nat) (t:TypeId) (cs:Array Value) (fr:Nat × Nat) (d:TypeDesc)
   (hp:tmps.getD p undef=.pointer (some ⟨g,0,none⟩)) (hg:w.heap[g]? =some (.cells cs t fr))
   (hu:P.underlying ty=some d) (hd:(match d with | .struct _ | .array _ _=>true | _=>false)=true) (hi:(P.info? ty).map (·.size)=some cs.size)
   (h:Vals P tmps w rs vs):Vals P tmps w (.cell p ty :: rs) (.agg cs :: vs)
section
variable {P:Program} {tmps:Array Value} {w:World}
theorem vals_run {rs:List ResultVar}{vs:List Value}(hv:Vals P tmps w rs vs)(f:ResultVar->Sem Value)(hf: ∀ u,f (.tmp u)=pure (tmps.getD u undef))(hc: ∀ a t,f (.cell a t)=(do loadVar t (←asAddr (tmps.getD a undef)))):
  (rs.mapM f).run P w=.ok vs w:=by
 induction hv with
 | nil=>simp
 | tmp h ih=>simp [List.mapM_cons,hf,ih]
 | cell g t cs fr d hp hg hu hd hi h ih=>
  rw [List.mapM_cons,hc,hp];simp [asAddr,run_loadVar_row w g t _ cs fr d hg hu hd hi,ih]
theorem iu_ {fn:Func}{rs:List ResultVar}{vs:List Value}(h:fn.results=rs.toArray)(hl:vs.length≠1)(hv:Vals P tmps w rs vs):(results fn tmps).run P w=.ok (.tuple vs.toArray) w:=by
 unfold results;rw [h,List.mapM_toArray];simp only [Sem.run_bind,Sem.run_map];rw [vals_run hv]
 ·simp [hl]
 ·intro u;rfl
 ·intro a t;rfl
theorem gy_ {fn:Func}{r:ResultVar}{v:Value}(h:fn.results=#[r])(hv:Vals P tmps w [r] [v]):(results fn tmps).run P w=.ok v w:=by
 unfold results;rw [show fn.results=[r].toArray from h,List.mapM_toArray];simp only [Sem.run_bind,Sem.run_map];rw [vals_run hv]
 ·simp
 ·intro u;rfl
 ·intro a t;rfl
end
namespace Kd
end Kd
end Go.Proofs.YthfceiincmkccaaGreatW.PrintWords
namespace Go.Proofs.YthfceiincmkccaaGreatW.PrintLast
section
variable {P:Program} {ops:Array Oper} {Q:Exit->Act->World->Prop} {md:Region.Mode} {S:World->Prop} {ds:List Nat}
def Region.reachB (md:Region.Mode)(ops:Array Oper)(i:Nat):Nat->Nat->Bool
 | 0,_=>false
 | fuel+1,d=>match ops[d]? with
  | some o=>o.after.any fun e=>Region.binds md e && (e.on == i || Region.reachB md ops i fuel e.on)
  | none=>false
def Region.closedB (md:Region.Mode)(ops:Array Oper)(listed:Array Bool):Bool:=
 (List.range ops.size).all fun j=> !listed.getD j false || match ops[j]? with
  | some o=>o.after.all fun e=> !Region.binds md e || listed.getD e.on false
  | none=>true
def Region.lastB (md:Region.Mode)(ops:Array Oper)(listed:Array Bool)(ds:List Nat)(i:Nat):Bool:=
 ds.all fun d=>listed.getD d true || Region.reachB md ops i ops.size d
def ListedClosed (md:Region.Mode)(ops:Array Oper)(listed:Array Bool):Prop:=
 ∀ j oj,ops[j]? =some oj->listed.getD j false=true-> ∀ e∈oj.after,Region.binds md e=true->listed.getD e.on false=true
theorem Region.closedB_spec {listed:Array Bool}(h:Region.closedB md ops listed=true):ListedClosed md ops listed:=by
 intro j oj hj hl e he hb;have hlt:j<ops.size:=(Array.getElem?_eq_some_iff.1 hj).1;have h1:=List.all_eq_true.1 h j (List.mem_range.2 hlt);simp only [hl,hj,Bool.not_true,Bool.false_or] at h1;have h2:=Array.all_eq_true_iff_forall_mem.1 h1 e he;simpa [hb] using h2
theorem ListedClosed.set {listed:Array Bool}{i:Nat}(h:ListedClosed md ops listed)(hi:i∈Region.ready md ops listed):ListedClosed md ops (listed.setIfInBounds i true):=by
 obtain ⟨_,oi,hoi,hall⟩:=mem_ready.1 hi;intro j oj hj hl e he hb;by_cases hij:i=j
 ·subst hij;have:oj=oi:=Option.some.inj (hj.symm.trans hoi);subst this;exact getD_set_true (hall e he hb)
 ·rw [getD_set_ne false hij] at hl;exact getD_set_true (h j oj hj hl e he hb)
theorem Region.iv_ {listed:Array Bool}{i:Nat}(hc:ListedClosed md ops listed): ∀ (fuel d:Nat),Region.reachB md ops i fuel d=true->listed.getD d false=true->listed.getD i false=true
 | 0,_,h,_=>by simp [Region.reachB] at h
 | fuel+1,d,h,hl=>by
  unfold Region.reachB at h;cases ho:ops[d]? with
  | none=>rw [ho] at h;simp at h
  | some o=>
   rw [ho] at h;obtain ⟨e,he,h1⟩:=Array.any_eq_true'.1 h;simp only [Bool.and_eq_true,Bool.or_eq_true,beq_iff_eq] at h1;have hle:=hc d o ho hl e he h1.1;rcases h1.2 with h2 | h2
   ·rw [←h2];exact hle
   ·exact Region.iv_ hc fuel e.on h2 hle
theorem Region.jp_ {listed:Array Bool}{i d fuel:Nat}(hc:ListedClosed md ops listed)(hr:Region.reachB md ops i fuel d=true)(hun:listed.getD i true=false):d ∉ Region.ready md ops listed:=by
 intro hd;obtain ⟨_,o,ho,hall⟩:=mem_ready.1 hd;have hi:listed.getD i false=true:=by
  cases fuel with
  | zero=>simp [Region.reachB] at hr
  | succ n=>
   unfold Region.reachB at hr;rw [ho] at hr;obtain ⟨e,he,h1⟩:=Array.any_eq_true'.1 hr;simp only [Bool.and_eq_true,Bool.or_eq_true,beq_iff_eq] at h1;have hle:=hall e he h1.1;rcases h1.2 with h2 | h2
   ·rw [←h2];exact hle
   ·exact Region.iv_ hc n e.on h2 hle
 rcases Nat.lt_or_ge i listed.size with h' | h'
 ·simp [h'] at hun hi;rw [hun] at hi;cases hi
 ·simp [Array.getElem?_eq_none h'] at hun
def wpAnyLast (P:Program)(md:Region.Mode)(ops:Array Oper)(Q:Exit->Act->World->Prop)(S:World->Prop)(ds:List Nat):Nat->Array Bool->Act->World->Prop
 | 0,listed,a,w=>Region.ready md ops listed=[]∧Q .normal a w
 | fuel+1,listed,a,w=>
  (Region.ready md ops listed=[]->Q .normal a w)∧
  ∀ i∈Region.ready md ops listed,wpOp P ops Q i (fun a' w'=>(i ∉ ds->S w->S w')∧wpAnyLast P md ops Q S ds fuel (listed.setIfInBounds i true) a' w') a w
theorem hk_: ∀ (fuel:Nat) (listed:Array Bool) (a:Act) (w:World),wpAnyLast P md ops Q S ds fuel listed a w->wpAny P md ops Q fuel listed a w
 | 0,_,_,_,h=>h
 | fuel+1,_,_,_,h=>⟨h.1,fun i hi=>wpOp_mono (fun a' w' h'=>hk_ fuel _ a' w' h'.2) (h.2 i hi)⟩
theorem je_ {i:Nat}{oi:Oper}{v:Value}(hi:ops[i]? =some oi)(hsel: ∀ (j:Nat) (o:Oper) cs b,ops[j]? =some o->o.op≠.select cs b)
  (hQ: ∀ c a w,Q (.panic c) (a.put oi.dst v) w->Q (.panic c) a w) (n:Nat):
  ∀ (fuel:Nat) (listed:Array Bool) (a:Act) (w:World),
   (∀ j oj,ops[j]? =some oj->j≠i->listed.getD j true=false->(∀ e∈oj.after,Region.binds md e=true->e.on≠i)->oi.apart ops oj=true)->
   ListedClosed md ops listed->(∀ d∈ds,listed.getD d true=false->Region.reachB md ops i n d=true)->
   i∈Region.ready md ops listed->YieldsIf P ops S oi v a->S w->
   wpAnyLast P md ops Q S ds fuel (listed.setIfInBounds i true) (a.put oi.dst v) w->wpAnyLast P md ops Q S ds (fuel+1) listed a w:=by
 intro fuel
 induction fuel with
 | zero=>
  intro listed a w _ _ _ hr hy hS H;refine ⟨fun h=>(by rw [h] at hr;cases hr),fun j hj=>?_⟩;by_cases hji:j=i
  ·subst hji;exact hy.wpOp hi hS ⟨fun _ h=>h,H⟩
  ·have:=ready_mono hj hji;rw [H.1] at this;cases this
 | succ fuel ih=>
  intro listed a w hfree hc hd hr hy hS H;refine ⟨fun h=>(by rw [h] at hr;cases hr),fun j hj=>?_⟩;by_cases hji:j=i
  ·subst hji;exact hy.wpOp hi hS ⟨fun _ h=>h,H⟩
  ·have h1:=H.2 j (ready_mono hj hji);obtain ⟨hjun,oj,hoj,hall⟩:=mem_ready.1 hj;have hiun:=(mem_ready.1 hr).1;have hnot: ∀ e∈oj.after,Region.binds md e=true->e.on≠i:=fun e he hb heq=>by
    have h1:=hall e he hb;rw [heq] at h1;rcases Nat.lt_or_ge i listed.size with h' | h'
    ·simp [h'] at hiun h1;rw [hiun] at h1;cases h1
    ·simp [Array.getElem?_eq_none h'] at h1
   have hjd:j ∉ ds:=fun hm=>Region.jp_ hc (hd j hm hjun) hiun hj;have h2:=wpOp_putIf hoj (hfree j oj hoj hji hjun hnot) (fun cs b=>hsel i oi cs b hi) (fun cs b=>hsel j oj cs b hoj) hQ hy h1;have hfree': ∀ k ok,ops[k]? =some ok->k≠i->(listed.setIfInBounds j true).getD k true=false->
     (∀ e∈ok.after,Region.binds md e=true->e.on≠i)->oi.apart ops ok=true:=fun k ok hk hki hun hno=>by
    refine hfree k ok hk hki ?_ hno;by_cases hjk:j=k
    ·subst hjk;exact hjun
    ·rw [getD_set_ne true hjk] at hun;exact hun
   have hd': ∀ d∈ds,(listed.setIfInBounds j true).getD d true=false->Region.reachB md ops i n d=true:=fun d hm hun=>by
    refine hd d hm ?_;by_cases hjk:j=d
    ·subst hjk;exact hjun
    ·rw [getD_set_ne true hjk] at hun;exact hun
   refine wpOp_mono (fun a' w' h3=>⟨h3.2.1,ih (listed.setIfInBounds j true) a' w' hfree' (hc.set hj) hd' (ready_mono hr (Ne.symm hji)) h3.1 (h3.2.1 hjd hS) ?_⟩) h2;rw [Array.setIfInBounds_comm _ _ hji];exact h3.2.2
theorem li_ {i:Nat}{oi:Oper}{v:Value}(hi:ops[i]? =some oi)(hsel: ∀ (j:Nat) (o:Oper) cs b,ops[j]? =some o->o.op≠.select cs b)
  (hQ: ∀ c a w,Q (.panic c) (a.put oi.dst v) w->Q (.panic c) a w):
  ∀ (fuel:Nat) (listed:Array Bool) (a:Act) (w:World),
   (∀ j oj,ops[j]? =some oj->j≠i->listed.getD j true=false->(∀ e∈oj.after,Region.binds md e=true->e.on≠i)->oi.apart ops oj=true)->
   i∈Region.ready md ops listed->Yields P ops oi v a->
   wpAnyLast P md ops Q S ds fuel (listed.setIfInBounds i true) (a.put oi.dst v) w->wpAnyLast P md ops Q S ds (fuel+1) listed a w:=by
 intro fuel
 induction fuel with
 | zero=>
  intro listed a w _ hr hy H;refine ⟨fun h=>(by rw [h] at hr;cases hr),fun j hj=>?_⟩;by_cases hji:j=i
  ·subst hji;exact (hy.yieldsIf (S:=fun _=>True)).wpOp hi trivial ⟨fun _ h=>h,H⟩
  ·have:=ready_mono hj hji;rw [H.1] at this;cases this
 | succ fuel ih=>
  intro listed a w hfree hr hy H;refine ⟨fun h=>(by rw [h] at hr;cases hr),fun j hj=>?_⟩;by_cases hji:j=i
  ·subst hji;exact (hy.yieldsIf (S:=fun _=>True)).wpOp hi trivial ⟨fun _ h=>h,H⟩
  ·have h1:=H.2 j (ready_mono hj hji);obtain ⟨hjun,oj,hoj,hall⟩:=mem_ready.1 hj;have hiun:=(mem_ready.1 hr).1;have hnot: ∀ e∈oj.after,Region.binds md e=true->e.on≠i:=fun e he hb heq=>by
    have h1:=hall e he hb;rw [heq] at h1;rcases Nat.lt_or_ge i listed.size with h' | h'
    ·simp [h'] at hiun h1;rw [hiun] at h1;cases h1
    ·simp [Array.getElem?_eq_none h'] at h1
   have h2:=wpOp_put hoj (hfree j oj hoj hji hjun hnot) (fun cs b=>hsel i oi cs b hi) (fun cs b=>hsel j oj cs b hoj) hQ hy h1;have hfree': ∀ k ok,ops[k]? =some ok->k≠i->(listed.setIfInBounds j true).getD k true=false->
     (∀ e∈ok.after,Region.binds md e=true->e.on≠i)->oi.apart ops ok=true:=fun k ok hk hki hun hno=>by
    refine hfree k ok hk hki ?_ hno;by_cases hjk:j=k
    ·subst hjk;exact hjun
    ·rw [getD_set_ne true hjk] at hun;exact hun
   refine wpOp_mono (fun a' w' h3=>⟨h3.2.1,ih (listed.setIfInBounds j true) a' w' hfree' (ready_mono hr (Ne.symm hji)) h3.1 ?_⟩) h2;rw [Array.setIfInBounds_comm _ _ hji];exact h3.2.2
theorem kk_ {i:Nat}{oi:Oper}{v:Value}{fuel:Nat}{listed:Array Bool}{a:Act}{w:World}(hi:ops[i]? =some oi)
  (hs:Region.noSelect ops=true) (hf:Region.free md ops listed i=true) (hr:(Region.ready md ops listed).contains i=true)
  (hc:Region.closedB md ops listed=true) (hl:Region.lastB md ops listed ds i=true)
  (hQ: ∀ c a w,Q (.panic c) (a.put oi.dst v) w->Q (.panic c) a w) (hy:YieldsIf P ops S oi v a) (hS:S w)
  (h:wpAnyLast P md ops Q S ds fuel (listed.setIfInBounds i true) (a.put oi.dst v) w):wpAnyLast P md ops Q S ds (fuel+1) listed a w:=
 je_ hi (Region.noSelect_spec hs) hQ ops.size fuel listed a w (Region.free_spec hi hf) (Region.closedB_spec hc)
  (fun d hm hun=>by have:=List.all_eq_true.1 hl d hm;rw [hun] at this;simpa using this) (by simpa using hr) hy hS h
theorem lj_ {rs:List Nat}{fuel:Nat}{listed:Array Bool}{a:Act}{w:World}(hr:Region.ready md ops listed=rs)(hne:rs≠[])
  (h: ∀ i∈rs,wpOp P ops Q i (fun a' w'=>(i ∉ ds->S w->S w')∧wpAnyLast P md ops Q S ds fuel (listed.setIfInBounds i true) a' w') a w):wpAnyLast P md ops Q S ds (fuel+1) listed a w:=
 ⟨fun h0=>absurd (hr ▸ h0) hne,hr ▸ h⟩
theorem kl_ {listed:Array Bool}{a:Act}{w:World}(hr:Region.ready md ops listed=[])(h:Q .normal a w):
  ∀ fuel,wpAnyLast P md ops Q S ds fuel listed a w
 | 0=>⟨hr,h⟩
 | _+1=>⟨fun _=>h,by rw [hr];simp⟩
theorem kj_ {id:Nat}{a:Act}{w:World}(hm:P.follows .mixedOrders=true)
  (h:wpAnyLast P .any ops Q S ds ops.size (Array.replicate ops.size false) a { w with drawn:=w.drawn+1 }):(Code.region id ops true).wp P Q a w:=
 wp_region_any hm (hk_ _ _ _ _ h)
end
section
variable {P:Program} {ops:Array Oper} {Q:Exit->Act->World->Prop} {md:Region.Mode} {S:World->Prop} {ds:List Nat}
def AllReadyL (P:Program)(md:Region.Mode)(ops:Array Oper)(Q:Exit->Act->World->Prop)(S:World->Prop)(ds:List Nat)(fuel:Nat)(listed:Array Bool)(a:Act)(w:World)(rs:List Nat):Prop:=
 ∀ i∈rs,wpOp P ops Q i (fun a' w'=>(i ∉ ds->S w->S w')∧wpAnyLast P md ops Q S ds fuel (listed.setIfInBounds i true) a' w') a w
theorem AllReadyL.nil {fuel:Nat}{listed:Array Bool}{a:Act}{w:World}:AllReadyL P md ops Q S ds fuel listed a w []:=fun _ h=>by cases h
theorem AllReadyL.cons {fuel:Nat}{listed:Array Bool}{a:Act}{w:World}{i:Nat}{o:Oper}{rs:List Nat}(ho:ops[i]? =some o)(hd:i ∉ ds)
  (h: ∀ K':Act->World->Prop,Shut (∀ a w,S w->(S w->wpAnyLast P md ops Q S ds fuel (listed.setIfInBounds i true) a w)->K' a w)->if Region.wanted o (yielded ops a.tmps)=true then Oper.wp P o a w K' Q else K' (a.put o.dst undef) w)
  (hs:AllReadyL P md ops Q S ds fuel listed a w rs):AllReadyL P md ops Q S ds fuel listed a w (i :: rs):=fun j hj=>by
 rcases List.mem_cons.1 hj with rfl | hj
 ·exact wpOp_step ho (fun K' hK=>h K' (fun a w hS hW=>hK a w ⟨fun _ _=>hS,hW hS⟩))
 ·exact hs j hj
theorem AllReadyL.cons_last {fuel:Nat}{listed:Array Bool}{a:Act}{w:World}{i:Nat}{o:Oper}{rs:List Nat}(ho:ops[i]? =some o)(hd:i∈ds)
  (h: ∀ K':Act->World->Prop,Shut (∀ a w,wpAnyLast P md ops Q S ds fuel (listed.setIfInBounds i true) a w->K' a w)->if Region.wanted o (yielded ops a.tmps)=true then Oper.wp P o a w K' Q else K' (a.put o.dst undef) w)
  (hs:AllReadyL P md ops Q S ds fuel listed a w rs):AllReadyL P md ops Q S ds fuel listed a w (i :: rs):=fun j hj=>by
 rcases List.mem_cons.1 hj with rfl | hj
 ·exact wpOp_step ho (fun K' hK=>h K' (fun a w hW=>hK a w ⟨fun hn=>absurd hd hn,hW⟩))
 ·exact hs j hj
theorem fc_ {rs:List Nat}{fuel:Nat}{listed:Array Bool}{a:Act}{w:World}(hr:Region.ready md ops listed=rs)(hne:rs≠[])
  (h:AllReadyL P md ops Q S ds fuel listed a w rs):wpAnyLast P md ops Q S ds (fuel+1) listed a w:=lj_ hr hne h
theorem start_ {id n:Nat}{a:Act}{w:World}(l:Array Bool)(hm:P.follows .mixedOrders=true)(hn:ops.size=n)(hl:Array.replicate n false=l)(hS:S w.drew)
  (h:S w.drew->wpAnyLast P .any ops Q S ds n l a w.drew):(Code.region id ops true).wp P Q a w:=by
 subst hn;subst hl;exact kj_ hm (h hS)
def takeB (md:Region.Mode)(ops:Array Oper)(ds:List Nat)(l l':Array Bool)(i:Nat):Bool:=
 Region.noSelect ops && Region.free md ops l i && (Region.ready md ops l).contains i && Region.closedB md ops l && Region.lastB md ops l ds i && (l.setIfInBounds i true == l')
theorem take_ {i:Nat}{N:Option Tmp}{oi:Oper}{v:Value}{fuel:Nat}{l:Array Bool}{a:Act}{w:World}(l':Array Bool)(hi:ops[i]? =some oi)(hN:oi.dst=N)(hc:takeB md ops ds l l' i=true)
  (hQ: ∀ c a w,Q (.panic c) (a.put oi.dst v) w->Q (.panic c) a w) (hy:YieldsIf P ops S oi v a) (hS:S w) {a':Act} (ha:a.put N v=a')
  (h:wpAnyLast P md ops Q S ds fuel l' a' w):wpAnyLast P md ops Q S ds (fuel+1) l a w:=by
 subst ha;subst hN;simp only [takeB,Bool.and_eq_true,beq_iff_eq] at hc;obtain ⟨⟨⟨⟨⟨h1,h2⟩,h3⟩,h4⟩,h5⟩,h6⟩:=hc;subst h6;exact kk_ hi h1 h2 h3 h4 h5 hQ hy hS h
def anyB (md:Region.Mode)(ops:Array Oper)(l l':Array Bool)(i:Nat):Bool:=
 Region.noSelect ops && Region.free md ops l i && (Region.ready md ops l).contains i && (l.setIfInBounds i true == l')
theorem pure_ {i:Nat}{N:Option Tmp}{oi:Oper}{v:Value}{fuel:Nat}{l:Array Bool}{a:Act}{w:World}(l':Array Bool)(hi:ops[i]? =some oi)(hN:oi.dst=N)(hc:anyB md ops l l' i=true)
  (hQ: ∀ c a w,Q (.panic c) (a.put oi.dst v) w->Q (.panic c) a w) (hy:Yields P ops oi v a) {a':Act} (ha:a.put N v=a')
  (h:wpAnyLast P md ops Q S ds fuel l' a' w):wpAnyLast P md ops Q S ds (fuel+1) l a w:=by
 subst ha;subst hN;simp only [anyB,Bool.and_eq_true,beq_iff_eq] at hc;obtain ⟨⟨⟨h1,h2⟩,h3⟩,h6⟩:=hc;subst h6;exact li_ hi (Region.noSelect_spec h1) hQ fuel l a w (Region.free_spec hi h2) (by simpa using h3) hy h
def readyB (md:Region.Mode)(ops:Array Oper)(l l':Array Bool)(i:Nat):Bool:=(Region.ready md ops l == [i]) && (l.setIfInBounds i true == l')
theorem one_ {i:Nat}{N:Option Tmp}{oi:Oper}{fuel:Nat}{l:Array Bool}{a:Act}{w:World}(l':Array Bool)(hi:ops[i]? =some oi)(hN:oi.dst=N)(hc:readyB md ops l l' i=true)(hd:i ∉ ds)
  (h: ∀ K:Act->World->Prop,Shut (∀ a' w',S w'->(S w'->wpAnyLast P md ops Q S ds fuel l' a' w')->K a' w')->if Region.wanted oi (yielded ops a.tmps)=true then Oper.wp P oi a w K Q else K (a.put N undef) w):
  wpAnyLast P md ops Q S ds (fuel+1) l a w:=by
 subst hN;simp only [readyB,Bool.and_eq_true,beq_iff_eq] at hc;obtain ⟨h1,h2⟩:=hc;subst h2;exact fc_ h1 (by simp) (AllReadyL.cons hi hd (fun K hK=>h K hK) AllReadyL.nil)
theorem last_ {i:Nat}{N:Option Tmp}{oi:Oper}{fuel:Nat}{l:Array Bool}{a:Act}{w:World}(l':Array Bool)(hi:ops[i]? =some oi)(hN:oi.dst=N)(hc:readyB md ops l l' i=true)(hd:i∈ds)
  (h: ∀ K:Act->World->Prop,Shut (∀ a' w',wpAnyLast P md ops Q S ds fuel l' a' w'->K a' w')->if Region.wanted oi (yielded ops a.tmps)=true then Oper.wp P oi a w K Q else K (a.put N undef) w):
  wpAnyLast P md ops Q S ds (fuel+1) l a w:=by
 subst hN;simp only [readyB,Bool.and_eq_true,beq_iff_eq] at hc;obtain ⟨h1,h2⟩:=hc;subst h2;exact fc_ h1 (by simp) (AllReadyL.cons_last hi hd (fun K hK=>h K hK) AllReadyL.nil)
theorem done_ {l:Array Bool}{a:Act}{w:World}{n:Nat}(hr:(Region.ready md ops l == [])=true)(h:Q .normal a w):wpAnyLast P md ops Q S ds n l a w:=kl_ (by simpa using hr) h n
theorem two_ {i j:Nat}{Ni Nj:Option Tmp}{oi oj:Oper}{fuel:Nat}{l:Array Bool}{a:Act}{w:World}(li lj:Array Bool)(hi:ops[i]? =some oi)(hj:ops[j]? =some oj)(hNi:oi.dst=Ni)(hNj:oj.dst=Nj)
  (hc:(Region.ready md ops l == [i,j] && l.setIfInBounds i true == li && l.setIfInBounds j true == lj)=true) (hdi:i ∉ ds) (hdj:j ∉ ds)
  (h1: ∀ K:Act->World->Prop,Shut (∀ a' w',S w'->(S w'->wpAnyLast P md ops Q S ds fuel li a' w')->K a' w')->if Region.wanted oi (yielded ops a.tmps)=true then Oper.wp P oi a w K Q else K (a.put Ni undef) w)
  (h2: ∀ K:Act->World->Prop,Shut (∀ a' w',S w'->(S w'->wpAnyLast P md ops Q S ds fuel lj a' w')->K a' w')->if Region.wanted oj (yielded ops a.tmps)=true then Oper.wp P oj a w K Q else K (a.put Nj undef) w):
  wpAnyLast P md ops Q S ds (fuel+1) l a w:=by
 subst hNi;subst hNj;simp only [Bool.and_eq_true,beq_iff_eq] at hc;obtain ⟨⟨h3,h4⟩,h5⟩:=hc;subst h4;subst h5;exact fc_ h3 (by simp) (AllReadyL.cons hi hdi (fun K hK=>h1 K hK) (AllReadyL.cons hj hdj (fun K hK=>h2 K hK) AllReadyL.nil))
def putAll:Act->List (Tmp × Value)->Act
 | a,[]=>a
 | a,(n,v) :: r=>putAll (a.put (some n) v) r
theorem join_ {σ:Type}{fuel:Nat}{l:Array Bool}{a:Act}{w:World}(fuel':Nat)(l':Array Bool)(ns:σ->List (Tmp × Value))(F:σ->World->Prop)
  (hcont: ∀ s w',F s w'->wpAnyLast P md ops Q S ds fuel' l' (putAll a (ns s)) w')
  (h:(∀ s w',F s w'->wpAnyLast P md ops Q S ds fuel' l' (putAll a (ns s)) w')->wpAnyLast P md ops Q S ds fuel l a w):wpAnyLast P md ops Q S ds fuel l a w:=h hcont
theorem norm_ {fuel:Nat}{l:Array Bool}{a a':Act}{w:World}(ha:a=a')(h:wpAnyLast P md ops Q S ds fuel l a' w):wpAnyLast P md ops Q S ds fuel l a w:=by
 subst ha;exact h
theorem call_ {oi:Oper}{N:Option Tmp}{a:Act}{w:World}{K:Act->World->Prop}(f:FuncId)(args:Array Value)(hw:Region.wanted oi (yielded ops a.tmps)=true)(hN:oi.dst=N)(hrun:(execOp a.eval oi).run P w=.ok (.enter f args) w)
  (h:Calls P f args w fun e w'=> ∃ v,e=.returned v∧K (a.put N v) w'):if Region.wanted oi (yielded ops a.tmps)=true then Oper.wp P oi a w K Q else K (a.put N undef) w:=by
 rw [if_pos hw];subst hN;unfold Oper.wp;rw [hrun,Oper.upon_enter];refine h.mono fun e w'' hh=>?_;obtain ⟨v,rfl,hk⟩:=hh;exact hk
theorem enters_ {f:FuncId}{fn:Func}(hf:P.funcs[f]? =some fn)(hname:(fn.name == "runtime.NumGoroutine")=false)(hb:fn.body.isSome=true)(args:Array Value)(w:World):(callFunc f args).run P w=.ok (.enter f args) w:=by
 have h1:fn.name≠ "runtime.NumGoroutine" :=by simpa using hname
 obtain ⟨c,hc⟩:=Option.isSome_iff_exists.1 hb;simp [callFunc,hf,h1,hc]
theorem goes_ {oi:Oper}{N:Option Tmp}{a:Act}{w:World}{K:Act->World->Prop}{f:FuncId}{fn:Func}{as_:Array Operand}{ts:Array TypeId}(hf:P.funcs[f]? =some fn)(hname:(fn.name == "runtime.NumGoroutine")=false)(hb:fn.body.isSome=true)(args:Array Value)
  (hw:Region.wanted oi (yielded ops a.tmps)=true) (hN:oi.dst=N) (hop:oi.op=.call { callee:=.value (.func f),args:=as_,argTypes:=ts }) (hargs:as_.map a.eval=args)
  (h:Calls P f args w fun e w'=> ∃ v,e=.returned v∧K (a.put N v) w'):if Region.wanted oi (yielded ops a.tmps)=true then Oper.wp P oi a w K Q else K (a.put N undef) w:=by
 refine call_ f args hw hN ?_ h;have he:=enters_ hf hname hb args w;unfold execOp;simp [hop,resolve,Deferred.ofValue,invoke,Act.eval,hargs,he]
theorem goesL_ {rest:List Oper}{oi:Oper}{a:Act}{w:World}(N:Option Tmp)(hd:oi.dst=N)(hg:oi.guard=none){f:FuncId}{fn:Func}{as_:Array Operand}{ts:Array TypeId}(hf:P.funcs[f]? =some fn)(hname:(fn.name == "runtime.NumGoroutine")=false)(hb:fn.body.isSome=true)(args:Array Value)
  (hop:oi.op=.call { callee:=.value (.func f),args:=as_,argTypes:=ts }) (hargs:as_.map a.eval=args)
  (h:Calls P f args w fun e w'=> ∃ v,e=.returned v∧wpList P ops Q rest (a.put N v) w'):wpList P ops Q (oi :: rest) a w:=by
 refine wpList_plain hg fun K hK=>?_;have he:=enters_ hf hname hb args w;have hrun:(execOp a.eval oi).run P w=.ok (.enter f args) w:=by
  unfold execOp;simp [hop,resolve,Deferred.ofValue,invoke,Act.eval,hargs,he]
 unfold Oper.wp;rw [hrun,Oper.upon_enter];refine h.mono fun e w'' hh=>?_;obtain ⟨v,rfl,hk⟩:=hh;subst hd;exact hK _ _ hk
theorem value_ {oi:Oper}{N:Option Tmp}{a:Act}{w w1:World}{v:Value}{K:Act->World->Prop}(hw:Region.wanted oi (yielded ops a.tmps)=true)(hN:oi.dst=N)(hrun:(execOp a.eval oi).run P w=.ok (.value v) w1)
  (h:K (a.put N v) w1):if Region.wanted oi (yielded ops a.tmps)=true then Oper.wp P oi a w K Q else K (a.put N undef) w:=by
 rw [if_pos hw];subst hN;unfold Oper.wp;rw [hrun];exact h
theorem skip_ {oi:Oper}{a:Act}{w w1:World}{K:Act->World->Prop}(hw:Region.wanted oi (yielded ops a.tmps)=true)(hN:oi.dst=none)(hrun:(execOp a.eval oi).run P w=.ok .skip w1)
  (h:K a w1):if Region.wanted oi (yielded ops a.tmps)=true then Oper.wp P oi a w K Q else K (a.put none undef) w:=by
 rw [if_pos hw];unfold Oper.wp;rw [hrun];show K (a.put oi.dst undef) w1;rw [hN];exact h
theorem cz_ (n:Int):IntKind.i64.wrap n=Go.RowKit.wrap64 n:=by unfold Go.RowKit.wrap64;exact IntKind.wrap_i64 n
theorem db_ (n:Int):IntKind.i32.wrap n=Go.RowKit.wrap32 n:=by unfold Go.RowKit.wrap32;exact IntKind.wrap_i32 n
end
end Go.Proofs.YthfceiincmkccaaGreatW.PrintLast
namespace Go.Proofs.YthfceiincmkccaaGreatW.PrintWords
namespace Kd
def raw (sz:Nat):Kd (List Value) where
 sz:=sz
 E:=[]
 K:=fun _ x cs=>cs=x∧cs.length=sz∧ ∀ u∈cs,u.oneCell'=true
 M:=fun _ _ _ x cs=>cs=x∧cs.length=sz∧ ∀ u∈cs,u.oneCell'=true
 K_len:=fun h=>h.2.1
 K_one:=fun h=>h.2.2
 K_below:=fun _ h=>h
 K_of_M:=fun h=>h
 M_mono:=fun _ h=>h
 M_bound:=fun h=>h
 M_move:=fun _ h=>h
 M_lower:=fun _ h=>h
section
variable {α β:Type} {d:Kd α} {d':Kd β} {e e':Nat} {w w1 W:World} {base b:Nat} {ok ok' okv oku:Nat->Prop} {u v:Value} {xs:List α} {ys:List β}
theorem R_tight (hE:d.E=[])(h:d.R e w base ok v xs):d.R e w base (fun k=>some k=v.ownBlock) v xs:=by
 obtain ⟨h0,inner,ho,hr⟩:=h;refine ⟨fun k hk=>hk.symm,inner,ho,hr.imp_ (fun p c hp=>d.M_mono (fun k hk=>?_) (d.M_bound hp))⟩;obtain ⟨_,_,_,q,hq,_⟩:=hk;rw [hE] at hq;cases hq
end
end Kd
namespace Kd
structure Heap {α:Type} (d:Kd α):Prop where
 K: ∀ {w w1:World} {x:α} {cs:List Value},(∀ k,k<w.heap.size->w1.heap[k]? =w.heap[k]?)->d.K w x cs->d.K w1 x cs
theorem cell_heap {w w1:World}(hb: ∀ k,k<w.heap.size->w1.heap[k]? =w.heap[k]?){a:Addr}{v:Value}(h:w.cell? a=some v):w1.cell? a=some v:=by
 have:=hb a.block (World.block_lt_of_cell? w a h);simpa [World.cell?,this] using h
theorem Heap.C {α:Type}{d:Kd α}(hd:Heap d){w w1:World}{A:Option Addr}{n:Nat}{xs:List α}(hb: ∀ k,k<w.heap.size->w1.heap[k]? =w.heap[k]?)(h:d.C w A n xs):d.C w1 A n xs:=
 ⟨h.1,h.2.1,fun hn=>by
  obtain ⟨ad,e,hc⟩:=h.2.2 hn;refine ⟨ad,e,fun j p hj=>?_⟩;obtain ⟨c,hs,hr,hcell⟩:=hc j p hj;exact ⟨c,hs,hd.K hb hr,fun i u hu=>cell_heap hb (hcell i u hu)⟩⟩
theorem gs_ (k:IntKind):Heap (Kd.int k):=⟨fun _ h=>h⟩
theorem heap_bool:Heap Kd.bool:=⟨fun _ h=>h⟩
theorem ip_ {α:Type}{d:Kd α}(e:Nat)(hd:Heap d):Heap (slice e d):=⟨by
 rintro w w1 x cs hb ⟨A,c,rfl,hl,hr⟩;exact ⟨A,c,rfl,hl,hd.C hb hr⟩⟩
theorem ev_ {α β:Type}{a:Kd α}{b:Kd β}(ha:Heap a)(hb':Heap b):Heap (pair a b):=⟨by
 rintro w w1 x cs hb ⟨c0,c1,rfl,h0,h1⟩;exact ⟨c0,c1,rfl,ha.K hb h0,hb'.K hb h1⟩⟩
theorem mb_ {α β:Type}{d:Kd α}(f:β->α)(hd:Heap d):Heap (iso d f):=⟨fun hb h=>hd.K hb h⟩
theorem heap_bot {α:Type}(sz:Nat)(E:List Nat):Heap (bot sz E:Kd α):=⟨fun _ h=>h⟩
theorem heap_upto {α:Type}{F:Kd α->Kd α}{sz:Nat}{E:List Nat}(hF: ∀ d,Heap d->Heap (F d)): ∀ n,Heap (upto F sz E n)
 | 0=>heap_bot sz E
 | n+1=>hF _ (heap_upto hF n)
theorem heap_fix {α:Type}{F:Kd α->Kd α}{sz:Nat}{E:List Nat}{hs: ∀ n,(upto F sz E n).sz=sz}{hE: ∀ n q,q∈(upto F sz E n).E->q∈E}(hF: ∀ d,Heap d->Heap (F d)):Heap (fix F sz E hs hE):=⟨by
 rintro w w1 x cs hb ⟨n,h⟩;exact ⟨n,(heap_upto hF n).K hb h⟩⟩
end Kd
def Foot (P:World->Prop)(W:World)(ok:Nat->Prop):Prop:= ∀ W':World,(∀ k,ok k->k<W.heap.size->W'.heap[k]? =W.heap[k]?)->P W'
theorem heap_lt {W W1:World}{k:Nat}(h:W1.heap[k]? =W.heap[k]?)(hlt:k<W.heap.size):k<W1.heap.size:=by
 rw [Array.getElem?_eq_getElem hlt] at h;exact (Array.getElem?_eq_some_iff.1 h).1
namespace Foot
variable {P Q:World->Prop} {W W1:World} {ok ok':Nat->Prop}
theorem now (h:Foot P W ok):P W:=h W (fun _ _ _=>rfl)
theorem mono (h:Foot P W ok)(hok: ∀ k,ok k->ok' k):Foot P W ok':=fun W' hW=>h W' (fun k hk hlt=>hW k (hok k hk) hlt)
theorem bound (h:Foot P W ok):Foot P W (fun k=>ok k∧k<W.heap.size):=fun W' hW=>h W' (fun k hk hlt=>hW k ⟨hk,hlt⟩ hlt)
theorem step (h:Foot P W ok)(hm: ∀ k,ok k->k<W.heap.size->W1.heap[k]? =W.heap[k]?):Foot P W1 ok:=fun W' hW=>h W' (fun k hk hlt=>(hW k hk (heap_lt (hm k hk hlt) hlt)).trans (hm k hk hlt))
end Foot
namespace Kd
def F {α:Type}(d:Kd α)(W:World)(ok:Nat->Prop)(A:Option Addr)(n:Nat)(xs:List α):Prop:=Foot (fun W=>d.C W A n xs) W ok
def FK {α:Type}(d:Kd α)(W:World)(ok:Nat->Prop)(x:α)(c:List Value):Prop:=Foot (fun W=>d.K W x c) W ok
section
variable {α β:Type} {d:Kd α} {e base n n' cc g N:Nat} {ok ok' okp S:Nat->Prop} {w w0 w1 W W1:World} {A A':Option Addr} {u v v1:Value} {xs:List α} {xs':List β} {d':Kd β} {x:α} {c:List Value}
theorem F_now (h:F d W ok A n xs):d.C W A n xs:=Foot.now h
theorem F_mono (h:F d W ok A n xs)(hok: ∀ k,ok k->ok' k):F d W ok' A n xs:=Foot.mono h hok
theorem F_bound (h:F d W ok A n xs):F d W (fun k=>ok k∧k<W.heap.size) A n xs:=Foot.bound h
theorem F_step (h:F d W ok A n xs)(hm: ∀ k,ok k->k<W.heap.size->W1.heap[k]? =W.heap[k]?):F d W1 ok A n xs:=Foot.step h hm
theorem F_below (h:F d W ok A n xs)(hb:Below W.heap.size W W1):F d W1 ok A n xs:=F_step h (fun k _ hlt=>hb.block k hlt)
theorem F_alloc (h:F d W ok A n xs)(o:Obj):F d (W.alloc o) ok A n xs:=F_below h (ab_ (Below.refl _ _) o)
theorem F_drew (h:F d W ok A n xs):F d W.drew ok A n xs:=F_below h (ca_ (Below.refl _ _))
theorem F_drewN (h:F d W ok A n xs)(m:Nat):F d (W.drewN m) ok A n xs:=F_below h (ad_ (Below.refl _ _) m)
theorem F_grown (h:F d W ok A n xs){row:Option Nat}(hg:W.grownBy W1 row)(hok: ∀ k,ok k->some k≠row):F d W1 ok A n xs:=F_step h (fun k hk hlt=>hg.block k hlt (hok k hk))
theorem F_far (h:F d W ok A n xs){p:Addr}(hok: ∀ k,ok k->k≠p.block)(u:Value):F d (W.setCell p u) ok A n xs:=F_step h (fun k hk _=>Below.heap_setCell W p u k (hok k hk))
theorem F_keep (h:F d W ok A n xs)(hk:KeepBut W W1 g none)(hok: ∀ k,ok k->k≠g):F d W1 ok A n xs:=F_step h (fun k ho hlt=>hk.2 k hlt (hok k ho) (by simp))
theorem F_nil (d:Kd α)(W:World)(ok:Nat->Prop):F d W ok none ([]:List α).length []:=fun W' _=>C_nil d W'
theorem F_max (h:F d W ok A n xs):n<=9223372036854775807:=(F_now h).2.1
theorem F_elderB (h:F d W ok A n xs)(a:Nat)(ha:W.heap.size<=a):F d W (fun k=>ok k∧k≠a) A n xs:=F_mono (F_bound h) (fun k hk=>⟨hk.1,by have:=hk.2;omega⟩)
theorem C_F (hd:Heap d)(h:d.C w A n xs):F d w (fun k=>k<w.heap.size) A n xs:=fun _ hW=>hd.C (fun k hlt=>hW k hlt hlt) h
theorem R_F (h:d.R e W base ok (.slice A n cc) xs):F d W ok A n xs:=fun W' hW=>by
 have h2:=R_reads' (R_step h hW);rw [h2.1];exact h2.2.2
theorem FK_now (h:FK d W ok x c):d.K W x c:=Foot.now h
theorem FK_mono (h:FK d W ok x c)(hok: ∀ k,ok k->ok' k):FK d W ok' x c:=Foot.mono h hok
theorem FK_bound (h:FK d W ok x c):FK d W (fun k=>ok k∧k<W.heap.size) x c:=Foot.bound h
theorem FK_step (h:FK d W ok x c)(hm: ∀ k,ok k->k<W.heap.size->W1.heap[k]? =W.heap[k]?):FK d W1 ok x c:=Foot.step h hm
theorem FK_below (h:FK d W ok x c)(hb:Below W.heap.size W W1):FK d W1 ok x c:=FK_step h (fun k _ hlt=>hb.block k hlt)
theorem FK_of_M (h:d.M W base ok x c):FK d W ok x c:=fun _ hW=>d.K_of_M (M_step h hW)
theorem emptied (W:World)(g:Nat): ∃ W':World,(∀ k,k≠g->W'.heap[k]? =W.heap[k]?)∧ ∀ a:Addr,a.block=g->W'.cell? a=none:=by
 refine ⟨{ W with heap:=W.heap.setIfInBounds g (.cells #[] 0) },fun k hk=>by simp [Ne.symm hk],fun a ha=>?_⟩;subst ha;by_cases hlt:a.block<W.heap.size
 ·simp [World.cell?,hlt]
 ·simp [World.cell?,hlt]
end
end Kd
namespace Kd
def chunks (sz:Nat)(n:Nat)(inner:List Value):List (List Value):=(List.range n).map fun j=>(inner.drop (j*sz)).take sz
theorem dk_ (sz n:Nat)(inner:List Value):(chunks sz n inner).length=n:=by simp [chunks]
theorem chunks_at {sz n:Nat}{inner:List Value}{j:Nat}(hj:j<n):(chunks sz n inner)[j]? =some ((inner.drop (j*sz)).take sz):=by simp [chunks,hj]
theorem gu_ {sz n:Nat}{inner:List Value}{j:Nat}{c:List Value}(h:(chunks sz n inner)[j]? =some c):c=(inner.drop (j*sz)).take sz:=by
 have hj:j<n:=by have:=(List.getElem?_eq_some_iff.1 h).1;rwa [dk_] at this
 rw [chunks_at hj] at h;injection h with h;exact h.symm
theorem reps_raw {α:Type}{Rr:α->List Value->Prop}{sz:Nat}{xs:List α}{inner:List Value}(h:Reps Rr sz xs inner)(hR: ∀ x c,Rr x c->c.length=sz∧ ∀ u∈c,u.oneCell'=true):Reps (fun x cs=>cs=x∧cs.length=sz∧ ∀ u∈cs,u.oneCell'=true) sz (chunks sz xs.length inner) inner:=by
 refine ⟨by rw [dk_];exact h.1,fun j p hj=>?_⟩;have hjl:j<xs.length:=by have:=(List.getElem?_eq_some_iff.1 hj).1;rwa [dk_] at this
 have hp:=gu_ hj;exact ⟨hp.symm,hR _ _ (h.2 j _ (List.getElem?_eq_getElem hjl))⟩
section
variable {α:Type} {d:Kd α} {e base n cc g:Nat} {ok ok' okp S:Nat->Prop} {w w1 W W1:World} {A:Option Addr} {u v v1:Value} {xs:List α} {x:α} {c:List Value}
theorem F_get (h:F d W ok A n xs)(z:α)(i:Int)(h0:0<=i)(h1:i<n):
  ∃ ad c,A=some ad∧c.length=d.sz∧FK d W ok (xs.getD i.toNat z) c∧(∀ j u,c[j]? =some u->W.cell? (ad.add (i.toNat*d.sz+j))=some u)∧(0<d.sz->ok ad.block):=by
 obtain ⟨ad,c,rfl,hcl,hK,hcc⟩:=C_get (F_now h) z i h0 h1;have hin:0<d.sz->ok ad.block:=by
  intro hs;by_cases hk:ok ad.block
  ·exact hk
  ·obtain ⟨W',h2,h3⟩:=emptied W ad.block;obtain ⟨ad',c',he,hcl',_,hcc'⟩:=C_get (h W' (fun k hk' _=>h2 k (fun e=>hk (e ▸ hk')))) z i h0 h1;injection he with he;subst he;have h4:=hcc' 0 _ (List.getElem?_eq_getElem (by omega));rw [h3 _ (add_block _ _)] at h4;cases h4
 refine ⟨ad,c,rfl,hcl,fun W' hW=>?_,hcc,hin⟩;obtain ⟨ad',c',he,hcl',hK',hcc'⟩:=C_get (h W' hW) z i h0 h1;injection he with he;subst he;have hc:c=c':=by
  apply List.ext_getElem?;intro j;by_cases hj:j<d.sz
  ·have hb:W'.heap[ad.block]? =W.heap[ad.block]? :=by
    have h5:=hcc j _ (List.getElem?_eq_getElem (by omega));have h6:=World.block_lt_of_cell? W _ h5;rw [add_block] at h6;exact hW _ (hin (by omega)) h6
   have h5:=hcc j _ (List.getElem?_eq_getElem (by omega));have h6:=hcc' j _ (List.getElem?_eq_getElem (by omega));have h7:W'.cell? (ad.add (i.toNat*d.sz+j))=W.cell? (ad.add (i.toNat*d.sz+j)):=by simp [World.cell?,add_block,hb]
   rw [h7,h5] at h6;rw [List.getElem?_eq_getElem (by omega),List.getElem?_eq_getElem (by omega)];exact h6
  ·rw [List.getElem?_eq_none (by omega),List.getElem?_eq_none (by omega)]
 rw [hc];exact hK'
theorem F_rows (h:F d W ok A n xs):ReadsRow (fun x c=>FK d W ok x c) d.sz W A n xs:=by
 obtain ⟨hl,hm,hn⟩:=F_now h;refine ⟨hl,hm,fun hp=>?_⟩;obtain ⟨ad,rfl,_⟩:=hn hp;refine ⟨ad,rfl,fun j p hj=>?_⟩;obtain ⟨hjl,hjp⟩:=List.getElem?_eq_some_iff.1 hj;obtain ⟨ad',c,he,hcl,hK,hcc,_⟩:=F_get h p (j:Int) (by omega) (by omega);injection he with he;subst he;simp only [Int.toNat_natCast] at hK hcc;rw [List.getD_eq_getElem?_getD,hj] at hK;exact ⟨c,hcl,hK,hcc⟩
def N {α:Type}(d:Kd α)(e:Nat)(w:World)(base:Nat)(ok:Nat->Prop)(v:Value)(xs:List α):Prop:=
 (∀ k,v.ownBlock=some k->ok k)∧ ∃ rows:List (List Value),rows.length=xs.length∧(raw d.sz).R e w base (fun k=>some k=v.ownBlock) v rows∧ ∀ (j:Nat) (x:α) (c:List Value),xs[j]? =some x->rows[j]? =some c->FK d w (fun k=>ok k∧some k≠v.ownBlock) x c
theorem raw_tight {sz:Nat}{rows:List (List Value)}(h:(raw sz).R e w base ok v rows):(raw sz).R e w base (fun k=>some k=v.ownBlock) v rows:=R_tight rfl h
theorem raw_any {sz:Nat}{rows:List (List Value)}(h:(raw sz).R e w base ok v rows):(raw sz).R e w base (fun _=>True) v rows:=R_mono h (fun _ _=>trivial)
theorem R_N (h:d.R e w base ok v xs):N d e w base ok v xs:=by
 obtain ⟨h0,inner,ho,hr⟩:=h;refine ⟨h0,chunks d.sz xs.length inner,dk_ _ _ _,⟨fun k hk=>hk.symm,inner,by rw [dk_];exact ho,reps_raw hr (fun x c hp=>⟨d.K_len (d.K_of_M hp),d.K_one (d.K_of_M hp)⟩)⟩,fun j x c hx hc=>?_⟩;rw [gu_ hc];exact FK_of_M (hr.2 j x hx)
theorem N_nil (d:Kd α)(e:Nat)(w:World)(base:Nat)(ok:Nat->Prop):N d e w base ok (.slice none 0 0) []:=R_N (R_nil _ _ _ _ _)
theorem N_mono (h:N d e w base ok v xs)(hok: ∀ k,ok k->ok' k):N d e w base ok' v xs:=by
 obtain ⟨h0,rows,hl,hR,hf⟩:=h;exact ⟨fun k hk=>hok k (h0 k hk),rows,hl,hR,fun j x c hx hc=>FK_mono (hf j x c hx hc) (fun k hk=>⟨hok k hk.1,hk.2⟩)⟩
theorem N_lt (h:N d e w base ok v xs): ∀ k,v.ownBlock=some k->k<w.heap.size:=by
 obtain ⟨_,rows,_,hR,_⟩:=h;exact R_lt hR
theorem N_base (h:N d e w base ok v xs): ∀ k,v.ownBlock=some k->base<=k:=by
 obtain ⟨_,rows,_,hR,_⟩:=h;exact R_base hR
theorem N_away (h:N d e w base ok v xs)(hok: ∀ k,ok k->k≠g):some g≠v.ownBlock:=fun he=>hok g (h.1 g he.symm) rfl
theorem N_lower {base':Nat}(h:N d e w base ok v xs)(hb:base'<=base):N d e w base' ok v xs:=by
 obtain ⟨h0,rows,hl,hR,hf⟩:=h;exact ⟨h0,rows,hl,R_lower hR hb,hf⟩
theorem N_step (h:N d e w base ok v xs)(hm: ∀ k,ok k->k<w.heap.size->w1.heap[k]? =w.heap[k]?):N d e w1 base ok v xs:=by
 obtain ⟨h0,rows,hl,hR,hf⟩:=h;exact ⟨h0,rows,hl,R_step hR (fun k hk hlt=>hm k (h0 k hk.symm) hlt),fun j x c hx hc=>FK_step (hf j x c hx hc) (fun k hk hlt=>hm k hk.1 hlt)⟩
theorem N_below (h:N d e w base ok v xs)(hb:Below w.heap.size w w1):N d e w1 base ok v xs:=N_step h (fun k _ hk=>hb.block k hk)
theorem N_far (h:N d e w base ok v xs){p:Addr}(hok: ∀ k,ok k->k≠p.block)(u:Value):N d e (w.setCell p u) base ok v xs:=N_step h (fun k ho _=>Below.heap_setCell w p u k (hok k ho))
theorem N_keep (h:N d e w base ok v xs)(hk:KeepBut w w1 g none)(hok: ∀ k,ok k->k≠g):N d e w1 base ok v xs:=N_step h (fun k ho hlt=>hk.2 k hlt (hok k ho) (by simp))
theorem N_slice (h:N d e w base ok v xs): ∃ A c,v=.slice A xs.length c:=by
 obtain ⟨_,rows,hl,hR,_⟩:=h;obtain ⟨A,c,he⟩:=R_slice hR;exact ⟨A,c,by rw [he,hl]⟩
theorem N_form (h:N d e w base ok v xs)(hp:0<xs.length): ∃ g cap,v=.slice (some ⟨g,0,none⟩) xs.length cap∧base<=g∧g<w.heap.size∧ ∃ cells,w.heap[g]? =some (.cells cells e (0,0)):=by
 obtain ⟨_,rows,hl,hR,_⟩:=h;rw [←hl] at hp ⊢;exact R_form hR hp
theorem N_reads' {n c:Nat}(h:N d e w base ok (.slice A n c) xs):n=xs.length∧n<=c∧d.C w A xs.length xs:=by
 obtain ⟨_,rows,hl,hR,hf⟩:=h;obtain ⟨hn,hc,hC⟩:=R_reads' hR;refine ⟨by omega,hc,?_⟩;rw [hl] at hC;refine ⟨rfl,hC.2.1,fun hp=>?_⟩;obtain ⟨ad,he,hcell⟩:=hC.2.2 hp;refine ⟨ad,he,fun j p hj=>?_⟩;have hjl:j<rows.length:=by have:=(List.getElem?_eq_some_iff.1 hj).1;omega
 obtain ⟨c',hcl,hK,hcc⟩:=hcell j _ (List.getElem?_eq_getElem hjl);have hk:=FK_now (hf j p _ hj (List.getElem?_eq_getElem hjl));refine ⟨c',hcl,?_,hcc⟩;rw [show c'=rows[j] from hK.1];exact hk
theorem N_F {n:Nat}(h:N d e w base ok (.slice A n cc) xs):F d w ok A n xs:=fun W' hW=>by
 have h2:=N_reads' (N_step h hW);rw [h2.1];exact h2.2.2
theorem N_elem {n cap:Nat}(h:N d e W base ok (.slice (some ⟨g,0,none⟩) n cap) xs)(z:α)(i:Int)(h0:0<=i)(h1:i<n):
  ∃ c,c.length=d.sz∧FK d W (fun k=>ok k∧k≠g) (xs.getD i.toNat z) c∧(∀ j u,c[j]? =some u->W.cell? ⟨g,i.toNat*d.sz+j,none⟩=some u)∧ ∀ j,W.frozen? ⟨g,i.toNat*d.sz+j,none⟩=false:=by
 obtain ⟨_,rows,hl,hR,hf⟩:=h;have hn:=(R_reads' hR).1;obtain ⟨c,hcl,hM,hcc,hfr⟩:=R_elem hR [] i h0 h1;have hil:i.toNat<rows.length:=by omega
 have hil':i.toNat<xs.length:=by omega
 have hc:c=rows[i.toNat]:=by
  have h2:=hM.1;rwa [List.getD_eq_getElem?_getD,List.getElem?_eq_getElem hil] at h2
 refine ⟨c,hcl,?_,hcc,hfr⟩;rw [List.getD_eq_getElem?_getD,List.getElem?_eq_getElem hil'];exact FK_mono (hf _ _ _ (List.getElem?_eq_getElem hil') (by rw [hc];exact List.getElem?_eq_getElem hil)) (fun k hk=>⟨hk.1,fun he=>hk.2 (by rw [he];simp [Value.ownBlock])⟩)
end
end Kd
namespace Kd
section
variable {α:Type} {d:Kd α} {e base n cap g:Nat} {ok ok' okp:Nat->Prop} {w w1 W:World} {v v1:Value} {xs ys:List α}
theorem N_appended {rows news:List (List Value)}(h0: ∀ k,v.ownBlock=some k->ok k)(hl:rows.length=xs.length)(hf: ∀ (j:Nat) (x:α) (c:List Value),xs[j]? =some x->rows[j]? =some c->FK d W (fun k=>ok k∧some k≠v.ownBlock) x c)
  (hl2:news.length=ys.length) (hf2: ∀ (j:Nat) (x:α) (c:List Value),ys[j]? =some x->news[j]? =some c->FK d W okp x c) (hokp: ∀ k,okp k->ok k∧some k≠v.ownBlock) (hfresh: ∀ k,W.heap.size<=k->ok k)
  (hR:(raw d.sz).R e w1 base (fun _=>True) v1 (rows ++ news)) (hg:W.grownBy w1 v.ownBlock) (hat:v1.ownBlock=v.ownBlock∨ ∃ b,v1.ownBlock=some b∧W.heap.size<=b):N d e w1 base ok v1 (xs ++ ys):=by
 have hne: ∀ k,some k≠v.ownBlock->k<W.heap.size->some k≠v1.ownBlock:=by
  intro k hk hlt;rcases hat with hat | ⟨b,hb,hle⟩
  ·rw [hat];exact hk
  ·rw [hb];intro he;injection he with he;omega
 have step: ∀ {x:α} {c:List Value} {o:Nat->Prop},FK d W o x c->(∀ k,o k->ok k∧some k≠v.ownBlock)->FK d w1 (fun k=>ok k∧some k≠v1.ownBlock) x c:=by
  intro x c o hq ho;exact FK_mono (FK_step (FK_bound hq) (fun k hk hlt=>hg.block k hlt (ho k hk.1).2)) (fun k hk=>⟨(ho k hk.1).1,hne k (ho k hk.1).2 hk.2⟩)
 refine ⟨fun k hk=>?_,rows ++ news,by rw [List.length_append,List.length_append,hl,hl2],raw_tight hR,fun j x c hx hc=>?_⟩
 ·rcases hat with hat | ⟨b,hb,hle⟩
  ·exact h0 k (hat ▸ hk)
  ·rw [hb] at hk;injection hk with hk;exact hfresh k (by omega)
 ·rcases Nat.lt_or_ge j xs.length with hlt | hge
  ·rw [List.getElem?_append_left hlt] at hx;rw [List.getElem?_append_left (by omega)] at hc;exact step (hf j x c hx hc) (fun _ hk=>hk)
  ·rw [List.getElem?_append_right hge] at hx;rw [List.getElem?_append_right (by omega),hl] at hc;exact step (hf2 _ x c hx hc) hokp
theorem FK_raw {x:α}{c:List Value}(h:FK d W ok x c):c=c∧c.length=d.sz∧ ∀ u∈c,u.oneCell'=true:=⟨rfl,d.K_len (FK_now h),d.K_one (FK_now h)⟩
theorem N_written {rows:List (List Value)}{i:Int}{x':α}{c':List Value}(h0: ∀ k,(Value.slice (some ⟨g,0,none⟩) n cap).ownBlock=some k->ok k)(hl:rows.length=xs.length)(hf: ∀ (j:Nat) (x:α) (c:List Value),xs[j]? =some x->rows[j]? =some c->FK d W (fun k=>ok k∧some k≠(Value.slice (some ⟨g,0,none⟩) n cap).ownBlock) x c)
  (hR:(raw d.sz).R e w1 base (fun _=>True) (.slice (some ⟨g,0,none⟩) n cap) (rows.set i.toNat c')) (hg:W.grownBy w1 (some g)) (hM:FK d W okp x' c') (hokp: ∀ k,okp k->ok k∧k≠g):N d e w1 base ok (.slice (some ⟨g,0,none⟩) n cap) (xs.set i.toNat x'):=by
 have hgo:some g=(Value.slice (some ⟨g,0,none⟩) n cap).ownBlock:=by simp [Value.ownBlock]
 refine ⟨h0,rows.set i.toNat c',by rw [List.length_set,List.length_set,hl],raw_tight hR,fun j x c hx hc=>?_⟩;have hjl:j<xs.length:=by have:=(List.getElem?_eq_some_iff.1 hx).1;rwa [List.length_set] at this
 by_cases hji:j=i.toNat
 ·subst hji;rw [List.getElem?_set_self hjl] at hx;rw [List.getElem?_set_self (by omega)] at hc;injection hx with hx;injection hc with hc;rw [←hx,←hc];exact FK_mono (FK_step hM (fun k hk hlt=>hg.block k hlt (fun he=>(hokp k hk).2 (by injection he)))) (fun k hk=>⟨(hokp k hk).1,fun he=>(hokp k hk).2 (by rw [←hgo] at he;injection he)⟩)
 ·rw [List.getElem?_set_ne (Ne.symm hji)] at hx hc;exact FK_step (hf j x c hx hc) (fun k hk hlt=>hg.block k hlt (by rw [hgo];exact hk.2))
theorem N_seg (h:N d e W base ok (.slice (some ⟨g,0,none⟩) n cap) xs)(i:Int)(h0:0<=i)(h1:i<n){c seg:List Value}{j:Nat}(hcl:c.length=d.sz)(hcc: ∀ j u,c[j]? =some u->W.cell? ⟨g,i.toNat*d.sz+j,none⟩=some u)
  (hj:j+seg.length<=d.sz) {x':α} (hM:FK d W okp x' (c.take j ++ seg ++ c.drop (j+seg.length))) (hokp: ∀ k,okp k->ok k∧k≠g):
  N d e (W.setCells g (i.toNat*d.sz+j) seg) base ok (.slice (some ⟨g,0,none⟩) n cap) (xs.set i.toNat x')∧W.grownBy (W.setCells g (i.toNat*d.sz+j) seg) (some g):=by
 obtain ⟨hown,rows,hl,hR,hf⟩:=h;obtain ⟨h2,h3⟩:=R_seg (raw_any hR) i h0 h1 (c:=c) (seg:=seg) (j:=j) (x':=c.take j ++ seg ++ c.drop (j+seg.length)) (okp:=fun _=>False) hcl hcc hj ⟨rfl,d.K_len (FK_now hM),d.K_one (FK_now hM)⟩ (fun _ hk=>hk.elim);exact ⟨N_written hown hl hf h2 h3 hM hokp,h3⟩
theorem reads_raw {Rr:α->List Value->Prop}{sz m:Nat}{A:Option Addr}(h:ReadsRow Rr sz W A m ys)(hR: ∀ x c,Rr x c->c.length=sz∧ ∀ u∈c,u.oneCell'=true):
  ∃ news:List (List Value),news.length=ys.length∧ReadsRow (fun x cs=>cs=x∧cs.length=sz∧ ∀ u∈cs,u.oneCell'=true) sz W A m news∧ ∀ (j:Nat) (x:α) (c:List Value),ys[j]? =some x->news[j]? =some c->Rr x c:=by
 rcases Nat.eq_zero_or_pos m with h0 | hp
 ·have hy:ys=[]:=List.eq_nil_of_length_eq_zero (h.1.trans h0);subst hy;exact ⟨[],rfl,⟨h0 ▸ rfl,h.2.1,fun hp=>by omega⟩,fun j x c hx=>by simp at hx⟩
 ·obtain ⟨ad,rfl,_⟩:=h.2.2 hp;obtain ⟨inner,hr,hc⟩:=ReadsRow.inner_ h;refine ⟨chunks sz ys.length inner,dk_ _ _ _,⟨by rw [dk_];exact h.1,h.2.1,fun _=>⟨ad,rfl,fun j p hj=>?_⟩⟩,fun j x c hx hcc=>?_⟩
  ·have hjl:j<ys.length:=by have:=(List.getElem?_eq_some_iff.1 hj).1;rwa [dk_] at this
   have hpe:=gu_ hj;have hq:=hR _ _ (hr.2 j _ (List.getElem?_eq_getElem hjl));rw [←hpe] at hq;refine ⟨p,hq.1,⟨rfl,hq⟩,fun i u hu=>?_⟩;have hu2:inner[j*sz+i]? =some u:=by
    rw [hpe,List.getElem?_take] at hu;split at hu
    ·rw [List.getElem?_drop] at hu;exact hu
    ·cases hu
   exact hc _ u hu2
  ·rw [gu_ hcc];exact hr.2 j x hx
end
section
variable {P:Program} {ops:Array Oper} {rest:List Oper} {o:Oper} {a:Act} {Q:Exit->Act->World->Prop} {Kc:Act->World->Prop} {α:Type}
theorem N_append (d:Kd α){w0 W:World}(base:Nat)(hgd:o.guard=none)(s x:Operand)(t e:TypeId)(z:Value)(bytes:Nat)
  (ho:o.op=.call { callee:=.builtin .append,args:=#[s,x],argTypes:=#[t,t] })
  (ht:P.underlying t=some (.slice e)) (hinfo:(P.info? e).map (fun i=>(i.zero,i.size,i.bytes))=some (some z,d.sz,bytes)) (hz:z.cells.size=d.sz) (hs0:0<d.sz) (hb0:0<bytes)
  (v:Value) (xs:List α) (p:α) (cs:List Value) (ok okp:Nat->Prop) (hs:a.eval s=v) (hx:a.eval x=.slice (some ⟨W.heap.size,0,none⟩) 1 1) (hp:FK d W okp p cs) (hokp: ∀ k,okp k->ok k∧some k≠v.ownBlock) (hfresh: ∀ k,W.heap.size<=k->ok k)
  (HO:N d e W base ok v xs) (HB:Below base w0 W) (hbase:base<=W.heap.size) (hl:(xs.length+1)*bytes<=140737488355328)
  (h: ∀ v1 w1,N d e w1 base ok v1 (xs ++ [p])->Below base w0 w1->W.grownBy w1 v.ownBlock->(v1.ownBlock=v.ownBlock∨ ∃ b,v1.ownBlock=some b∧W.heap.size<=b)->wpList P ops Q rest (a.put o.dst v1) w1):
  wpList P ops Q (o :: rest) a (W.alloc (.cells cs.toArray e)):=by
 obtain ⟨h0,rows,hlr,hR,hf⟩:=HO;refine R_append (raw d.sz) base hgd s x t e z bytes ho ht hinfo hz hs0 hb0 v rows cs cs (fun _=>True) (fun _=>False) hs hx (FK_raw hp) (fun _ hk=>hk.elim) (fun _ _=>trivial) (raw_any hR) HB hbase (by rw [hlr];exact hl) ?_;intro v1 w1 hr hb hg hat;exact h v1 w1 (N_appended h0 hlr hf (ys:=[p]) (news:=[cs]) rfl (fun j y c hy hc=>by
  rcases j with _ | j
  ·simp only [List.getElem?_cons_zero,Option.some.injEq] at hy hc;rw [←hy,←hc];exact hp
  ·simp at hy) hokp hfresh hr hg hat) hb hg hat
end
end Kd
end Go.Proofs.YthfceiincmkccaaGreatW.PrintWords
namespace Go.Proofs.YthfceiincmkccaaGreatW.PrintMore
namespace Kd
open Go.Proofs.YthfceiincmkccaaGreatW.PrintWords.Kd
end Kd
namespace Kd
open Go.Proofs.YthfceiincmkccaaGreatW.PrintWords.Kd
end Kd
theorem ct_ (k k':IntKind)(x y:Int):Builtin.max2 (.int k x) (.int k' y)=pure (.int k (if x<y then y else x)):=by simp only [Builtin.max2,gt_iff_lt]
theorem cq_ (k k':IntKind)(x y:Int):Builtin.min2 (.int k x) (.int k' y)=pure (.int k (if y<x then y else x)):=by simp only [Builtin.min2]
theorem dh_ (ats:Array TypeId)(ty:TypeId)(a b:Value):Builtin.max_ ats ty #[a,b]=(Builtin.max2 a b >>= fun s=>pure s):=by simp only [Builtin.max_,List.foldlM_cons,List.foldlM_nil]
theorem dg_ (ats:Array TypeId)(ty:TypeId)(a b:Value):Builtin.min_ ats ty #[a,b]=(Builtin.min2 a b >>= fun s=>pure s):=by simp only [Builtin.min_,List.foldlM_cons,List.foldlM_nil]
theorem ch_ (ats:Array TypeId)(ty:TypeId)(a b c:Value):Builtin.max_ ats ty #[a,b,c]=(Builtin.max2 a b >>= fun s=>Builtin.max2 s c >>= fun s=>pure s):=by simp only [Builtin.max_,List.foldlM_cons,List.foldlM_nil]
theorem cg_ (ats:Array TypeId)(ty:TypeId)(a b c:Value):Builtin.min_ ats ty #[a,b,c]=(Builtin.min2 a b >>= fun s=>Builtin.min2 s c >>= fun s=>pure s):=by simp only [Builtin.min_,List.foldlM_cons,List.foldlM_nil]
theorem cr_ (ats:Array TypeId)(ty:TypeId)(a b c d:Value):Builtin.max_ ats ty #[a,b,c,d]=(Builtin.max2 a b >>= fun s=>Builtin.max2 s c >>= fun s=>Builtin.max2 s d >>= fun s=>pure s):=by simp only [Builtin.max_,List.foldlM_cons,List.foldlM_nil]
theorem cp_ (ats:Array TypeId)(ty:TypeId)(a b c d:Value):Builtin.min_ ats ty #[a,b,c,d]=(Builtin.min2 a b >>= fun s=>Builtin.min2 s c >>= fun s=>Builtin.min2 s d >>= fun s=>pure s):=by simp only [Builtin.min_,List.foldlM_cons,List.foldlM_nil]
end Go.Proofs.YthfceiincmkccaaGreatW.PrintMore
namespace Go.Proofs.YthfceiincmkccaaGreatW.PrintWords
section
variable {P:Program} {ops:Array Oper} {rest:List Oper} {o:Oper} {a:Act} {Q:Exit->Act->World->Prop} {W:World}
theorem bv_ {f:FuncId}{as_:Array Operand}{ts:Array TypeId}(_ho:o.op=.call { callee:=.value (.func f),args:=as_,argTypes:=ts })(h:wpList P ops Q (o :: rest) a W):wpList P ops Q (o :: rest) a W:=h
theorem bi_ {b:Builtin}{xs:Array Operand}{ts:Array TypeId}(_ho:o.op=.call { callee:=.builtin b,args:=xs,argTypes:=ts })(h:wpList P ops Q (o :: rest) a W):wpList P ops Q (o :: rest) a W:=h
end
def mx (a b:Int):Int:=if a<b then b else a
def mn (a b:Int):Int:=if b<a then b else a
namespace Kd
end Kd
namespace Kd
def V {α:Type}(d:Kd α)(_e:Nat)(W:World)(_base:Nat)(ok:Nat->Prop)(v:Value)(xs:List α):Prop:= ∃ A c,v=.slice A xs.length c∧xs.length<=c∧F d W ok A xs.length xs
section
variable {α β:Type} {d:Kd α} {e base base' n m c g N' lo hi:Nat} {ok ok' S:Nat->Prop} {w W w1:World} {A:Option Addr} {ad:Addr} {u v v1:Value} {xs:List α}
theorem V_map (h:V d e W base ok v xs)(hF: ∀ A,F d W ok A xs.length xs->F d w1 ok' A xs.length xs):V d e w1 base' ok' v xs:=by
 obtain ⟨A,c,hv,hl,hf⟩:=h;exact ⟨A,c,hv,hl,hF A hf⟩
theorem V_mk (hl:xs.length<=c)(hf:F d W ok A xs.length xs):V d e W base ok (.slice A xs.length c) xs:=⟨A,c,rfl,hl,hf⟩
theorem V_at (h:V d e W base ok (.slice A n c) xs):n=xs.length∧n<=c∧F d W ok A xs.length xs:=by
 obtain ⟨A',c',hv,hl,hf⟩:=h;injection hv with ha hn hc;subst ha;subst hc;exact ⟨hn,by rw [hn];exact hl,hf⟩
theorem V_reads' (h:V d e W base ok (.slice A n c) xs):n=xs.length∧n<=c∧d.C W A xs.length xs:=⟨(V_at h).1,(V_at h).2.1,F_now (V_at h).2.2⟩
theorem V_F (h:V d e W base ok (.slice A n c) xs):F d W ok A n xs:=by
 obtain ⟨hn,_,hf⟩:=V_at h;rw [hn];exact hf
theorem V_nil (d:Kd α)(e:Nat)(W:World)(base:Nat)(ok:Nat->Prop):V d e W base ok (.slice none 0 0) []:=⟨none,0,rfl,Nat.le_refl _,F_nil d W ok⟩
theorem V_mono (h:V d e W base ok v xs)(hok: ∀ k,ok k->ok' k):V d e W base ok' v xs:=V_map h (fun _ hf=>F_mono hf hok)
theorem V_below (h:V d e W base ok v xs)(hb:Below W.heap.size W w1):V d e w1 base ok v xs:=V_map h (fun _ hf=>F_below hf hb)
theorem V_alloc (h:V d e W base ok v xs)(o:Obj):V d e (W.alloc o) base ok v xs:=V_map h (fun _ hf=>F_alloc hf o)
theorem V_drew (h:V d e W base ok v xs):V d e W.drew base ok v xs:=V_map h (fun _ hf=>F_drew hf)
theorem V_drewN (h:V d e W base ok v xs)(m:Nat):V d e (W.drewN m) base ok v xs:=V_map h (fun _ hf=>F_drewN hf m)
theorem V_far (h:V d e W base ok v xs){p:Addr}(hok: ∀ k,ok k->k≠p.block)(u:Value):V d e (W.setCell p u) base ok v xs:=V_map h (fun _ hf=>F_far hf hok u)
theorem V_elderB (h:V d e W base ok v xs)(a:Nat)(ha:W.heap.size<=a):V d e W base (fun k=>ok k∧k≠a) v xs:=V_map h (fun _ hf=>F_elderB hf a ha)
theorem V_get (h:V d e W base ok (.slice (some ad) n c) xs)(z:α)(i:Int)(h0:0<=i)(h1:i<n):
  ∃ cs,cs.length=d.sz∧FK d W ok (xs.getD i.toNat z) cs∧ ∀ j u,cs[j]? =some u->W.cell? (ad.add (i.toNat*d.sz+j))=some u:=by
 obtain ⟨ad',cs,he,hcl,hK,hcc,_⟩:=F_get (V_F h) z i h0 h1;injection he with he;subst he;exact ⟨cs,hcl,hK,hcc⟩
end
end Kd
end Go.Proofs.YthfceiincmkccaaGreatW.PrintWords
namespace Go.Proofs.YthfceiincmkccaaGreat
theorem od_ {p:Prop}[Decidable p](h:decide p=true:=by first | (with_reducible assumption) | assumption):p:=of_decide_eq_true h
theorem ri_ {p:Prop}(h:p:=by first | rfl | (simp;done) | (simp [*];done)):p:=h
theorem re_ {p:Prop}(h:p:=by first | rfl | (simp [errW_none,errW_some] <;> rfl) | (simp [*,errW_none,errW_some] <;> rfl)):p:=h
theorem rb_ {p:Prop}(h:p:=by repeat (first | (with_reducible first | exact HB.out | apply ab_ | apply ad_ | apply au_) | exact HB.out)):p:=h
theorem dr_ {p:Prop}(h:p:=by repeat (first | exact Drawn0.refl _ | apply Drawn0.step)):p:=h
theorem gl_ {p:Prop}(h:p:=by (try simp only [List.map_toArray,List.map_cons,List.map_nil]);first | done | rfl | (simp only [List.length_drop,List.length_take];rfl)):p:=h
theorem rr_ {q p:Prop}(h:q)(f:q->p:=by intro h_;(with_reducible repeat (first | apply Kd.R_alloc | apply Kd.R_drewN | apply Kd.R_drew));exact h_):p:=f h
theorem cs_ {q p:Prop}(h:q)(f:q->p:=by intro h_;repeat (first | exact h_ | (with_reducible refine Kd.C_alloc ?_ _) | (with_reducible refine Kd.C_drewN ?_ _) | (with_reducible refine Kd.C_drew ?_))):p:=f h
theorem ai_ {k:IntKind}{w W:World}{A:Option Addr}{n:Nat}{xs:List Int}(h:Kd.C (Kd.int k) w A n xs)(hb:Below w.heap.size w W)(X:Int)(p:0<=X:=by exact od_)(q:X<(n:Int):=by exact od_): ∃ ad,A=some ad∧W.cell? (ad.add X.toNat)=some (.int k (rd xs X))∧(0<=X)=True∧(X<(n:Int))=True:=by
 obtain ⟨ad,e,hx⟩:=Kd.ds_ h X p q;exact ⟨ad,e,(hb.cell (World.block_lt_of_cell? w _ hx)).trans hx,eq_true p,eq_true q⟩
section
variable {P:Program} {md:Region.Mode} {ops:Array Oper} {Q:Exit->Act->World->Prop} {S:World->Prop} {ds:List Nat} {oi:Oper} {v:Value} {fuel:Nat} {l l':Array Bool} {a a':Act} {w:World} {N:Option Tmp}
theorem pu_ (i n:Nat)(h:wpAnyLast P md ops Q S ds fuel l' a' w)(hi:ops[i]? =some oi:=by rfl)(hN:oi.dst=some n:=by rfl)(hl:l.setIfInBounds i true=l':=by simp only [List.setIfInBounds_toArray,List.set_cons_zero,List.set_cons_succ];rfl)(hc:anyB md ops l l' i=true:=by kernel_rfl)
  (hQ: ∀ c a w,Q (.panic c) (a.put oi.dst v) w->Q (.panic c) a w:=by exact fun _ _ _ h=>h) (hy:Yields P ops oi v a:=by refine Or.inl ⟨by rfl,?_⟩;intro w';go_simp;with_reducible rfl) (ha:a.put (some n) v=a':=by simp only [Act.put,List.setIfInBounds_toArray,List.set_cons_zero,List.set_cons_succ,cz_,db_];rfl):
  wpAnyLast P md ops Q S ds (fuel+1) l a w:=pure_ l' hi hN hc hQ hy ha h
theorem ta_ (i n:Nat)(hS:S w)(h:wpAnyLast P md ops Q S ds fuel l' a' w)(hi:ops[i]? =some oi:=by rfl)(hN:oi.dst=some n:=by rfl)(hl:l.setIfInBounds i true=l':=by simp only [List.setIfInBounds_toArray,List.set_cons_zero,List.set_cons_succ];rfl)(hc:takeB md ops ds l l' i=true:=by kernel_rfl)
  (hQ: ∀ c a w,Q (.panic c) (a.put oi.dst v) w->Q (.panic c) a w:=by exact fun _ _ _ h=>h) (hy:YieldsIf P ops S oi v a:=by refine Or.inl ⟨by rfl,?_⟩;intro w' hs;(repeat (obtain ⟨_,hs⟩:=hs));go_simp;with_reducible rfl) (ha:a.put (some n) v=a':=by simp only [Act.put,List.setIfInBounds_toArray,List.set_cons_zero,List.set_cons_succ,cz_,db_];rfl):
  wpAnyLast P md ops Q S ds (fuel+1) l a w:=take_ l' hi hN hc hQ hy hS ha h
theorem puc_ (i n:Nat)(hc:anyB md ops l l' i=true)(h:wpAnyLast P md ops Q S ds fuel l' a' w)(hi:ops[i]? =some oi:=by rfl)(hN:oi.dst=some n:=by rfl)
  (hQ: ∀ c a w,Q (.panic c) (a.put oi.dst v) w->Q (.panic c) a w:=by exact fun _ _ _ h=>h) (hy:Yields P ops oi v a:=by refine Or.inl ⟨by rfl,?_⟩;intro w';go_simp;with_reducible rfl) (ha:a.put (some n) v=a':=by simp only [Act.put,List.setIfInBounds_toArray,List.set_cons_zero,List.set_cons_succ,cz_,db_];rfl):
  wpAnyLast P md ops Q S ds (fuel+1) l a w:=pure_ l' hi hN hc hQ hy ha h
theorem tac_ (i n:Nat)(hc:takeB md ops ds l l' i=true)(hS:S w)(h:wpAnyLast P md ops Q S ds fuel l' a' w)(hi:ops[i]? =some oi:=by rfl)(hN:oi.dst=some n:=by rfl)
  (hQ: ∀ c a w,Q (.panic c) (a.put oi.dst v) w->Q (.panic c) a w:=by exact fun _ _ _ h=>h) (hy:YieldsIf P ops S oi v a:=by refine Or.inl ⟨by rfl,?_⟩;intro w' hs;(repeat (obtain ⟨_,hs⟩:=hs));go_simp;with_reducible rfl) (ha:a.put (some n) v=a':=by simp only [Act.put,List.setIfInBounds_toArray,List.set_cons_zero,List.set_cons_succ,cz_,db_];rfl):
  wpAnyLast P md ops Q S ds (fuel+1) l a w:=take_ l' hi hN hc hQ hy hS ha h
theorem no_ (n:Nat){b:Act}{u:Value}(h:wpAnyLast P md ops Q S ds fuel l a' w)(ha:b.put (some n) u=a':=by simp only [Act.put,List.setIfInBounds_toArray,List.set_cons_zero,List.set_cons_succ,cz_,db_];rfl):wpAnyLast P md ops Q S ds fuel l (b.put (some n) u) w:=norm_ ha h
theorem on_ (i n:Nat)(h: ∀ K:Act->World->Prop,Shut (∀ a' w',S w'->(S w'->wpAnyLast P md ops Q S ds fuel l' a' w')->K a' w')->if Region.wanted oi (yielded ops a.tmps)=true then Oper.wp P oi a w K Q else K (a.put (some n) undef) w)(hi:ops[i]? =some oi:=by rfl)(hN:oi.dst=some n:=by rfl)(hl:l.setIfInBounds i true=l':=by simp only [List.setIfInBounds_toArray,List.set_cons_zero,List.set_cons_succ];rfl)(hc:readyB md ops l l' i=true:=by kernel_rfl)(hd:i ∉ ds:=by decide):
  wpAnyLast P md ops Q S ds (fuel+1) l a w:=one_ l' hi hN hc hd h
end
theorem bc_ {w:World}{g:Nat}{t:TypeId}{cs:Array Value}(h:w.heap[g]? =some (.cells cs t (0,0)))(i:Nat){v:Value}(hv:cs[i]? =some v:=by rfl):w.cell? ⟨g,i,none⟩=some v:=(af_ h i).trans hv
end Go.Proofs.YthfceiincmkccaaGreat
namespace Go.Proofs.YthfceiincmkccaaGreatW.PrintLast
open Go.Proofs.YthfceiincmkccaaGreatW.PrintWords (Sd)
def needsOf (md:Region.Mode)(o:Oper):List Nat:=(o.after.toList.filter (fun e=>Region.binds md e)).map (fun e=>e.on)
def clashOf (md:Region.Mode)(ops:Array Oper)(i:Nat)(oi:Oper):List Nat:=(List.range ops.size).filter fun j=> !(j == i) && match ops[j]? with
 | some oj=> !(oj.after.any (fun e=>Region.binds md e && e.on == i) || oi.apart ops oj)
 | none=>false
def rtab (md:Region.Mode)(ops:Array Oper):Bool × List (List Nat × List Nat):=(Region.noSelect ops,(List.range ops.size).map fun i=>match ops[i]? with
 | some o=>(needsOf md o,clashOf md ops i o)
 | none=>([],[]))
def readyAt (T:List (List Nat × List Nat))(l:List Bool)(i:Nat):Bool:= !l.getD i true && match T[i]? with
 | some r=>r.1.all (fun j=>l.getD j false)
 | none=>false
def readyT (T:List (List Nat × List Nat))(l:List Bool):List Nat:=(List.range T.length).filter (readyAt T l)
def freeT (T:List (List Nat × List Nat))(l:List Bool)(i:Nat):Bool:=match T[i]? with
 | some r=>r.2.all (fun j=>l.getD j true)
 | none=>false
def closedT (T:List (List Nat × List Nat))(l:List Bool):Bool:=(List.range T.length).all fun j=> !l.getD j false || match T[j]? with
 | some r=>r.1.all (fun k=>l.getD k false)
 | none=>true
def reachT (T:List (List Nat × List Nat))(i:Nat):Nat->Nat->Bool
 | 0,_=>false
 | fuel+1,d=>match T[d]? with
  | some r=>r.1.any fun j=>j == i || reachT T i fuel j
  | none=>false
def lastT (T:List (List Nat × List Nat))(l:List Bool)(ds:List Nat)(i:Nat):Bool:=ds.all fun d=>l.getD d true || reachT T i T.length d
section
variable {md:Region.Mode} {ops:Array Oper} {T:Bool × List (List Nat × List Nat)} {l l' li lj lk:Array Bool} {ds:List Nat} {i j k:Nat}
theorem gd (l:Array Bool)(j:Nat)(b:Bool):l.getD j b=l.toList.getD j b:=by simp [Array.getD_eq_getD_getElem?,List.getD_eq_getElem?_getD]
theorem needs_all (o:Oper)(p:Nat->Bool):o.after.all (fun e=> !Region.binds md e || p e.on)=(needsOf md o).all p:=by
 unfold needsOf;rw [←Array.all_toList]
 induction o.after.toList with
 | nil=>rfl
 | cons e r ih=>
  rw [List.all_cons,ih,List.filter_cons];cases h:Region.binds md e <;> simp
theorem needs_any (o:Oper)(p:Nat->Bool):o.after.any (fun e=>Region.binds md e && p e.on)=(needsOf md o).any p:=by
 unfold needsOf;rw [←Array.any_toList]
 induction o.after.toList with
 | nil=>rfl
 | cons e r ih=>
  rw [List.any_cons,ih,List.filter_cons];cases h:Region.binds md e <;> simp
theorem fw_:(rtab md ops).2.length=ops.size:=by simp [rtab]
theorem hu_ {o:Oper}(h:ops[i]? =some o):(rtab md ops).2[i]? =some (needsOf md o,clashOf md ops i o):=by
 have hi:=(Array.getElem?_eq_some_iff.1 h).1;unfold rtab;rw [List.getElem?_map,List.getElem?_range hi,Option.map_some,h]
theorem hv_ (h:ops[i]? =none):(rtab md ops).2[i]? =none:=by
 have hi:ops.size<=i:=Array.getElem?_eq_none_iff.1 h;exact List.getElem?_eq_none (by rw [fw_];exact hi)
theorem readyAt_eq:readyAt (rtab md ops).2 l.toList i=(!l.getD i true && ((ops[i]?).map (·.after.all fun e=> !Region.binds md e || l.getD e.on false)).getD false):=by
 unfold readyAt;rw [gd];cases h:ops[i]? with
 | none=>rw [hv_ h];rfl
 | some o=>
  rw [hu_ h];simp only [Option.map_some,Option.getD_some];rw [←needs_all];simp only [gd]
theorem ready_eq:Region.ready md ops l=readyT (rtab md ops).2 l.toList:=by
 unfold Region.ready readyT;rw [fw_];refine List.filter_congr (fun i _=>?_);rw [readyAt_eq]
theorem free_eq:Region.free md ops l i=freeT (rtab md ops).2 l.toList i:=by
 unfold Region.free freeT;cases h:ops[i]? with
 | none=>rw [hv_ h]
 | some oi=>
  rw [hu_ h];simp only [clashOf];rw [List.all_filter];congr 1;funext j;rw [gd];cases hj:ops[j]? with
  | none=>cases (j == i) <;> cases (l.toList.getD j true) <;> simp
  | some oj=>
   cases (j == i) <;> cases (l.toList.getD j true) <;> cases (oj.after.any (fun e=>Region.binds md e && e.on == i) || oi.apart ops oj) <;> simp_all
theorem closed_eq:Region.closedB md ops l=closedT (rtab md ops).2 l.toList:=by
 unfold Region.closedB closedT;rw [fw_];congr 1;funext j;rw [gd];cases h:ops[j]? with
 | none=>rw [hv_ h]
 | some o=>
  rw [hu_ h];simp only;rw [←needs_all];simp only [gd]
theorem reach_eq: ∀ (fuel d:Nat),Region.reachB md ops i fuel d=reachT (rtab md ops).2 i fuel d
 | 0,_=>rfl
 | fuel+1,d=>by
  unfold Region.reachB reachT;cases h:ops[d]? with
  | none=>rw [hv_ h]
  | some o=>
   rw [hu_ h];simp only;rw [←needs_any];congr 1;funext e;rw [reach_eq fuel]
theorem last_eq:Region.lastB md ops l ds i=lastT (rtab md ops).2 l.toList ds i:=by
 unfold Region.lastB lastT;rw [fw_];congr 1;funext d;rw [gd,reach_eq]
theorem jo_ (h:readyAt T.2 l.toList i=true)(hT:rtab md ops=T):(Region.ready md ops l).contains i=true:=by
 subst hT;rw [ready_eq];unfold readyT;rw [List.contains_iff_mem,List.mem_filter,List.mem_range];refine ⟨?_,h⟩;unfold readyAt at h;rw [Bool.and_eq_true] at h;cases hq:(rtab md ops).2[i]? with
 | none=>rw [hq] at h;simp at h
 | some r=>exact (List.getElem?_eq_some_iff.1 hq).1
theorem set_of (h:(l.toList.set i true == l'.toList)=true):(l.setIfInBounds i true == l')=true:=by
 rw [beq_iff_eq] at h ⊢;apply Array.ext';rw [Array.toList_setIfInBounds];exact h
def anyT (T:Bool × List (List Nat × List Nat))(l l':List Bool)(i:Nat):Bool:=T.1 && freeT T.2 l i && readyAt T.2 l i && (l.set i true == l')
theorem ey_ (hT:rtab md ops=T)(h:anyT T l.toList l'.toList i=true):anyB md ops l l' i=true:=by
 simp only [anyT,Bool.and_eq_true] at h;obtain ⟨⟨⟨h1,h2⟩,h3⟩,h4⟩:=h;have h5:=jo_ h3 hT;have h6:=set_of h4;subst hT;simp only [anyB,Bool.and_eq_true];exact ⟨⟨⟨h1,by rw [free_eq];exact h2⟩,h5⟩,h6⟩
def takeT (T:Bool × List (List Nat × List Nat))(ds:List Nat)(l l':List Bool)(i:Nat):Bool:=T.1 && freeT T.2 l i && readyAt T.2 l i && closedT T.2 l && lastT T.2 l ds i && (l.set i true == l')
theorem take_of (hT:rtab md ops=T)(h:takeT T ds l.toList l'.toList i=true):takeB md ops ds l l' i=true:=by
 simp only [takeT,Bool.and_eq_true] at h;obtain ⟨⟨⟨⟨⟨h1,h2⟩,h3⟩,h4⟩,h5⟩,h6⟩:=h;have h7:=jo_ h3 hT;have h8:=set_of h6;subst hT;simp only [takeB,Bool.and_eq_true];exact ⟨⟨⟨⟨⟨h1,by rw [free_eq];exact h2⟩,h7⟩,by rw [closed_eq];exact h4⟩,by rw [last_eq];exact h5⟩,h8⟩
theorem one_of (hT:rtab md ops=T)(h:(readyT T.2 l.toList == [i] && l.toList.set i true == l'.toList)=true):readyB md ops l l' i=true:=by
 simp only [Bool.and_eq_true] at h;obtain ⟨h1,h2⟩:=h;subst hT;simp only [readyB,Bool.and_eq_true];exact ⟨by rw [ready_eq];exact h1,set_of h2⟩
theorem done_of (hT:rtab md ops=T)(h:(readyT T.2 l.toList == [])=true):(Region.ready md ops l == [])=true:=by
 subst hT;rw [ready_eq];exact h
def upM (B:List Nat)(d:Nat):List Nat->Nat
 | []=>0
 | n :: r=>(2 ^ n ||| (if n<d then B.getD n 0 else 0)) ||| upM B d r
def waitsOk (T:List (List Nat × List Nat))(B:List Nat):Bool:=(List.range T.length).all fun d=>match T[d]? with
 | some r=>(B.getD d 0 ||| upM B d r.1) == upM B d r.1
 | none=>false
theorem upM_bit {B:List Nat}{d i:Nat}: ∀ {ns:List Nat},(upM B d ns).testBit i=true-> ∃ n∈ns,n=i∨(n<d∧(B.getD n 0).testBit i=true)
 | [],h=>by simp [upM] at h
 | n :: r,h=>by
  unfold upM at h;rw [Nat.testBit_or,Nat.testBit_or,Bool.or_eq_true,Bool.or_eq_true] at h;rcases h with (h | h) | h
  ·rw [Nat.testBit_two_pow] at h;exact ⟨n,List.mem_cons_self,.inl (by simpa using h)⟩
  ·by_cases hn:n<d
   ·rw [if_pos hn] at h;exact ⟨n,List.mem_cons_self,.inr ⟨hn,h⟩⟩
   ·rw [if_neg hn] at h;simp at h
  ·obtain ⟨m,hm,h2⟩:=upM_bit h;exact ⟨m,List.mem_cons_of_mem _ hm,h2⟩
theorem reach_bit {T:List (List Nat × List Nat)}{B:List Nat}(hB:waitsOk T B=true): ∀ (fuel d:Nat),d<fuel->d<T.length->(B.getD d 0).testBit i=true->reachT T i fuel d=true
 | 0,d,h,_,_=>by omega
 | fuel+1,d,h,hd,hb=>by
  have h1:=List.all_eq_true.1 hB d (List.mem_range.2 hd);cases hr:T[d]? with
  | none=>rw [hr] at h1;simp at h1
  | some r=>
   rw [hr] at h1;simp only [beq_iff_eq] at h1;have h2:(upM B d r.1).testBit i=true:=by rw [←h1,Nat.testBit_or,hb,Bool.true_or]
   obtain ⟨n,hn,h3⟩:=upM_bit h2;unfold reachT;rw [hr];simp only;rw [List.any_eq_true];refine ⟨n,hn,?_⟩;rcases h3 with rfl | ⟨h4,h5⟩
   ·simp
   ·rw [reach_bit hB fuel n (by omega) (by omega) h5,Bool.or_true]
def lastW (T:List (List Nat × List Nat))(B:List Nat)(l:List Bool)(ds:List Nat)(i:Nat):Bool:=ds.all fun d=>l.getD d true || (decide (d<T.length) && (B.getD d 0).testBit i)
def takeW (T:Bool × List (List Nat × List Nat))(B:List Nat)(ds:List Nat)(l l':List Bool)(i:Nat):Bool:=T.1 && freeT T.2 l i && readyAt T.2 l i && closedT T.2 l && lastW T.2 B l ds i && (l.set i true == l')
theorem iz_ {B:List Nat}(hT:rtab md ops=T)(hB:waitsOk T.2 B=true)(h:takeW T B ds l.toList l'.toList i=true):takeB md ops ds l l' i=true:=by
 refine take_of hT ?_;simp only [takeW,takeT,Bool.and_eq_true] at h ⊢;obtain ⟨⟨⟨⟨⟨h1,h2⟩,h3⟩,h4⟩,h5⟩,h6⟩:=h;refine ⟨⟨⟨⟨⟨h1,h2⟩,h3⟩,h4⟩,?_⟩,h6⟩;unfold lastW at h5;unfold lastT;rw [List.all_eq_true] at h5 ⊢;intro d hd;have h7:=h5 d hd;rw [Bool.or_eq_true,Bool.and_eq_true,decide_eq_true_eq] at h7;rcases h7 with h7 | ⟨h8,h9⟩
 ·rw [h7,Bool.true_or]
 ·rw [reach_bit hB _ d h8 h8 h9,Bool.or_true]
theorem with_tabW {P:Program}{Q:Exit->Act->World->Prop}{S:World->Prop}{n:Nat}{a:Act}{w:World}{B:List Nat}(hT:rtab md ops=T)(hB:waitsOk T.2 B=true)(h:Sd (rtab md ops=T)->Sd (waitsOk T.2 B=true)->wpAnyLast P md ops Q S ds n l a w):wpAnyLast P md ops Q S ds n l a w:=h ⟨hT⟩ ⟨hB⟩
end
def opsIn:Code->Nat->Option (Array Oper)
 | .region id ops _,k=>if id == k then some ops else none
 | .seq a b,k=>match opsIn a k with
  | some o=>some o
  | none=>opsIn b k
 | .cond _ a b,k=>match opsIn a k with
  | some o=>some o
  | none=>opsIn b k
 | .block _ c,k=>opsIn c k
 | .loop c,k=>opsIn c k
 | .scope c,k=>opsIn c k
 | .rangeFunc _ _ a b,k=>match opsIn a k with
  | some o=>some o
  | none=>opsIn b k
 | _,_=>none
def opsOf (f:Func)(k:Nat):Array Oper:=((f.body.bind fun c=>opsIn c k)).getD #[]
end Go.Proofs.YthfceiincmkccaaGreatW.PrintLast
namespace Go.Proofs.YthfceiincmkccaaGreatW.PrintWords
section
variable {P:Program} {d:Nat} {xs ys:Array Value} {f:Field} {fs:List Field} {a b:Value} {r s:Bool} {w:World}
theorem eqf_last (hn:(f.name == "_")=false)(ha:(part f.type xs f.offset).run P w=.ok a w)(hb:(part f.type ys f.offset).run P w=.ok b w)(he:(Op.equalIn d f.type a b).run P w=.ok r w):(Op.eqFields d xs ys [f]).run P w=.ok r w:=by
 have hn':f.name≠ "_" :=by simpa using hn
 simp only [Op.eqFields,if_pos hn',Sem.run_bind,ha,hb,he,Result.andThen_ok];cases r <;> simp
theorem eqf_cons (hn:(f.name == "_")=false)(ha:(part f.type xs f.offset).run P w=.ok a w)(hb:(part f.type ys f.offset).run P w=.ok b w)(he:(Op.equalIn d f.type a b).run P w=.ok r w)(hr:(Op.eqFields d xs ys fs).run P w=.ok s w):(Op.eqFields d xs ys (f :: fs)).run P w=.ok (r && s) w:=by
 have hn':f.name≠ "_" :=by simpa using hn
 rw [Op.eqFields];simp only [if_pos hn',Sem.run_bind,ha,hb,he,Result.andThen_ok];cases r
 ·simp
 ·simpa using hr
theorem eqA_of {t:TypeId}{fs:Array Field}(hu:P.underlying t=some (.struct fs))(hp:P.stoodInHeld t=false)(h:(Op.eqFields d xs ys fs.toList).run P w=.ok r w):(Op.equalIn (d+1) t (.agg xs) (.agg ys)).run P w=.ok r w:=by
 have hf:P.fieldsOf t=fs:=by simp [Program.fieldsOf,hu]
 rw [run_equalIn_struct (P:=P) w d t xs ys (by rw [hf];exact hu) hp,hf];exact h
end
theorem Reps.one {α:Type}{R:α->List Value->Prop}{ps:List α}{cs:List Value}{p:α}{v:Value}(hp:R p [v])(h:Reps R 1 ps cs):Reps R 1 (p :: ps) (v :: cs):=by
 refine ⟨by simp [h.1],fun j q hq=>?_⟩;cases j with
 | zero=>
  simp only [List.getElem?_cons_zero,Option.some.injEq] at hq;subst hq;simpa using hp
 | succ j=>
  simp only [List.getElem?_cons_succ] at hq;have h1:=h.2 j q hq;simpa [Nat.mul_one] using h1
theorem Reps.front {α:Type}{R:α->List Value->Prop}{size:Nat}{ps:List α}{cs c all:List Value}{p:α}(hp:R p c)(hc:c.length=size)(h:Reps R size ps cs)(ha:c ++ cs=all):Reps R size (p :: ps) all:=by
 subst ha;refine ⟨by rw [List.length_append,hc,h.1,List.length_cons,Nat.succ_mul,Nat.add_comm],fun j q hq=>?_⟩;cases j with
 | zero=>
  simp only [List.getElem?_cons_zero,Option.some.injEq] at hq;subst hq;rw [Nat.zero_mul,List.drop_zero,List.take_append_of_le_length (by omega),List.take_of_length_le (by omega)];exact hp
 | succ j=>
  simp only [List.getElem?_cons_succ] at hq;have h1:=h.2 j q hq;rw [Nat.succ_mul,List.drop_append,List.drop_of_length_le (by rw [hc];exact Nat.le_add_left _ _),List.nil_append,hc,Nat.add_sub_cancel];exact h1
theorem Reps.c2 {α:Type}{R:α->List Value->Prop}{ps:List α}{cs:List Value}{p:α}{va vb:Value}(hp:R p [va,vb])(h:Reps R 2 ps cs):Reps R 2 (p :: ps) (va :: vb :: cs):=Reps.front hp rfl h rfl
theorem Reps.c3 {α:Type}{R:α->List Value->Prop}{ps:List α}{cs:List Value}{p:α}{va vb vc:Value}(hp:R p [va,vb,vc])(h:Reps R 3 ps cs):Reps R 3 (p :: ps) (va :: vb :: vc :: cs):=Reps.front hp rfl h rfl
theorem Reps.c4 {α:Type}{R:α->List Value->Prop}{ps:List α}{cs:List Value}{p:α}{va vb vc vd:Value}(hp:R p [va,vb,vc,vd])(h:Reps R 4 ps cs):Reps R 4 (p :: ps) (va :: vb :: vc :: vd :: cs):=Reps.front hp rfl h rfl
section
variable {P:Program} {ops:Array Oper} {rest:List Oper} {o:Oper} {a:Act} {Q:Exit->Act->World->Prop} {W:World}
theorem iq_ (hw:Region.wanted o (yielded ops a.tmps)=true)(h:wpList P ops Q ({ o with guard:=none } :: rest) a W):wpList P ops Q (o :: rest) a W:=by
 have h1:Region.wanted { o with guard:=none } (yielded ops a.tmps)=true:=rfl;unfold wpList at h ⊢;rw [if_pos h1] at h;rw [if_pos hw];exact h
end
end Go.Proofs.YthfceiincmkccaaGreatW.PrintWords
namespace Go.Proofs.YthfceiincmkccaaGreat
namespace A
attribute [local go_sem] ct_ cq_ dh_ dg_ ch_ cg_ cr_ cp_
theorem info173:(Tryz.prog.info? 173).map (fun i=>(i.zero,i.size,i.bytes))=some (some (.agg #[(.int .i64 0),(.int .i64 0),(.int .i64 0)]),3,24):=by kernel_rfl
structure S74 where
 f0:Int
 f1:Int
def z74:S74:=⟨(0:Int),(0:Int)⟩
def k74:Kd S74:=Kd.iso (Kd.pair (Kd.int .i64) (Kd.int .i64)) (fun x:S74=>(x.f0,x.f1))
theorem k74_open {w:World}{x:S74}{cs:List Value}(h:k74.K w x cs):cs=[.int .i64 x.f0,.int .i64 x.f1]:=by
 obtain ⟨_,_,rfl,rfl,rfl⟩:=h;exact rfl
theorem dz_ {w:World}{base:Nat}{ok:Nat->Prop}{x:S74}{cs:List Value}(h:k74.M w base ok x cs):cs=[.int .i64 x.f0,.int .i64 x.f1]:=by
 obtain ⟨_,_,rfl,rfl,rfl⟩:=h;exact rfl
theorem k74_mk (w:World)(x:S74)  :k74.K w x [.int .i64 x.f0,.int .i64 x.f1]:=⟨[.int .i64 x.f0],[.int .i64 x.f1],rfl,rfl,rfl⟩
theorem dy_ (w:World)(base:Nat)(ok:Nat->Prop)(x:S74)  :k74.M w base ok x [.int .i64 x.f0,.int .i64 x.f1]:=⟨[.int .i64 x.f0],[.int .i64 x.f1],rfl,rfl,rfl⟩
def al_ (xs:List S74)(i:Int):S74:=xs.getD i.toNat z74
theorem ec_ {w:World}{A:Option Addr}{n:Nat}{xs:List S74}(h:Kd.C k74 w A n xs)(i:Int)(h0:0<=i)(h1:i<n): ∃ ad ,A=some ad∧w.cell? (ad.add (i.toNat*2))=some (.int .i64 (al_ xs i).f0)∧w.cell? ⟨(ad.add (i.toNat*2)).block,(ad.add (i.toNat*2)).off+1,none⟩=some (.int .i64 (al_ xs i).f1):=by
 obtain ⟨ad,c,e,_,hK,hc0⟩:=Kd.C_get h z74 i h0 h1;have hc: ∀ j u,c[j]? =some u->w.cell? (ad.add (i.toNat*2+j))=some u:=hc0;obtain rfl:=k74_open hK;exact ⟨ad,e,hc 0 _ rfl,by rw [←ay_ _ _ 1 (by omega)];exact hc 1 _ rfl⟩
structure S173 where
 f0:Int
 f1:Int
 f2:Int
def z173:S173:=⟨(0:Int),(0:Int),(0:Int)⟩
def k173:Kd S173:=Kd.iso (Kd.pair (Kd.int .i64) (Kd.pair (Kd.int .i64) (Kd.int .i64))) (fun x:S173=>(x.f0,x.f1,x.f2))
theorem jz_ {w:World}{x:S173}{cs:List Value}(h:k173.K w x cs):cs=[.int .i64 x.f0,.int .i64 x.f1,.int .i64 x.f2]:=by
 obtain ⟨_,_,rfl,rfl,⟨_,_,rfl,rfl,rfl⟩⟩:=h;exact rfl
theorem fk_ (w:World)(base:Nat)(ok:Nat->Prop)(x:S173)  :k173.M w base ok x [.int .i64 x.f0,.int .i64 x.f1,.int .i64 x.f2]:=⟨[.int .i64 x.f0],[.int .i64 x.f1,.int .i64 x.f2],rfl,rfl,⟨[.int .i64 x.f1],[.int .i64 x.f2],rfl,rfl,rfl⟩⟩
def he_ (xs:List S173)(i:Int):S173:=xs.getD i.toNat z173
theorem at_T173 {w:World}{A:Option Addr}{n:Nat}{xs:List S173}(h:Kd.C k173 w A n xs)(i:Int)(h0:0<=i)(h1:i<n): ∃ ad ,A=some ad∧w.cell? (ad.add (i.toNat*3))=some (.int .i64 (he_ xs i).f0)∧w.cell? ⟨(ad.add (i.toNat*3)).block,(ad.add (i.toNat*3)).off+1,none⟩=some (.int .i64 (he_ xs i).f1)∧w.cell? ⟨(ad.add (i.toNat*3)).block,(ad.add (i.toNat*3)).off+2,none⟩=some (.int .i64 (he_ xs i).f2):=by
 obtain ⟨ad,c,e,_,hK,hc0⟩:=Kd.C_get h z173 i h0 h1;have hc: ∀ j u,c[j]? =some u->w.cell? (ad.add (i.toNat*3+j))=some u:=hc0;obtain rfl:=jz_ hK;exact ⟨ad,e,hc 0 _ rfl,by rw [←ay_ _ _ 1 (by omega)];exact hc 1 _ rfl,by rw [←ay_ _ _ 2 (by omega)];exact hc 2 _ rfl⟩
def dn_ (xs:List (List S74))(i:Int):(List S74):=xs.getD i.toNat ([]:List S74)
theorem iw_ {w:World}{A:Option Addr}{n:Nat}{xs:List (List S74)}(h:Kd.C (Kd.slice 74 k74) w A n xs)(i:Int)(h0:0<=i)(h1:i<n): ∃ ad A0 c0,A=some ad∧w.cell? (ad.add i.toNat)=some (.slice A0 (dn_ xs i).length c0)∧(dn_ xs i).length<=c0∧k74.C w A0 (dn_ xs i).length (dn_ xs i):=by
 obtain ⟨ad,c,e,_,hK,hc0⟩:=Kd.C_get h ([]:List S74) i h0 h1;have hc: ∀ j u,c[j]? =some u->w.cell? (ad.add (i.toNat*1+j))=some u:=hc0;obtain ⟨A0,c0,rfl,l0,g0⟩:=hK;exact ⟨ad,A0,c0,e,by have hq:=hc 0 _ rfl;rwa [Nat.mul_one,Nat.add_zero] at hq,l0,g0⟩
end A
namespace X
open ChangeShapes WideShapes Deep A
variable {H:Type} {enc:TypeId × Value->H} {W:World} {base:Nat} {spare:Nat->Bool} {held:Bool}
theorem add_add (a:Addr)(i j:Nat):(a.add i).add j=a.add (i+j):=by
 by_cases hi:i=0 <;> by_cases hj:j=0 <;> simp [Addr.add,hi,hj,Nat.add_assoc]
theorem C_of_cellsNQ {α:Type}{d:Kd α}(Q:α->Prop){W:World}{a:Addr}{len:Nat}(hm:len<=9223372036854775807)(h: ∀ i,i<len-> ∃ cs x,cs.length=d.sz∧d.K W x cs∧(∀ j u,cs[j]? =some u->W.cell? (a.add (i*d.sz+j))=some u)∧Q x): ∃ xs:List α,xs.length=len∧d.C W (some a) xs.length xs∧ ∀ x∈xs,Q x:=by
 have h1: ∀ m,m<=len-> ∃ xs:List α,xs.length=m∧(∀ i x,xs[i]? =some x-> ∃ cs,cs.length=d.sz∧d.K W x cs∧ ∀ j u,cs[j]? =some u->W.cell? (a.add (i*d.sz+j))=some u)∧ ∀ x∈xs,Q x:=by
  intro m
  induction m with
  | zero=>exact fun _=>⟨[],rfl,fun i x hx=>by simp at hx,fun x hx=>by cases hx⟩
  | succ m ih=>
   intro hm;obtain ⟨xs,hl,hx,hq⟩:=ih (by omega);obtain ⟨cs,x,h2,h3,h4,h5⟩:=h m (by omega);refine ⟨xs ++ [x],by simp [hl],fun i y hy=>?_,fun y hy=>?_⟩
   ·by_cases hi:i<xs.length
    ·rw [List.getElem?_append_left hi] at hy;exact hx i y hy
    ·have:i=m:=by
      have:=(List.getElem?_eq_some_iff.1 hy).1;simp at this;omega
     subst this;rw [List.getElem?_append_right (by omega),hl,Nat.sub_self] at hy;simp at hy;subst hy;exact ⟨cs,h2,h3,h4⟩
   ·rcases List.mem_append.1 hy with hy | hy
    ·exact hq y hy
    ·rw [List.mem_singleton.1 hy];exact h5
 obtain ⟨xs,hl,hx,hq⟩:=h1 len (Nat.le_refl _);refine ⟨xs,hl,⟨rfl,by omega,fun _=>⟨a,rfl,fun j p hp=>?_⟩⟩,hq⟩;obtain ⟨cs,h2,h3,h4⟩:=hx j p hp;exact ⟨cs,h2,h3,h4⟩
variable {H:Type} {enc:TypeId × Value->H} {W:World} {base:Nat} {spare:Nat->Bool} {held:Bool}
theorem gx_ {P:Program}{e:TypeId}: ∀ {l:List (DataW H)} {d:DataW H} {k:Nat},d∈l->k∈d.weights P e->k∈DataW.weightsAll P e l
 | [],_,_,h,_=>by cases h
 | x :: r,d,k,h,hk=>by
  simp only [DataW.weightsAll,List.mem_append];rcases List.mem_cons.1 h with rfl | h
  ·exact .inl hk
  ·exact .inr (gx_ h hk)
end X
namespace A
structure S45 where
 f0:Int
 f1:(List S74)
 f2:(List Int)
 f3:(List S45)
def z45:S45:=⟨(0:Int),([]:List S74),([]:List Int),([]:List S45)⟩
def F45 (d:Kd S45):Kd S45:=Kd.iso (Kd.pair (Kd.int .i64) (Kd.pair (Kd.slice 74 k74) (Kd.pair (Kd.slice 3 (Kd.int .i64)) (Kd.slice 45 d)))) (fun x:S45=>(x.f0,x.f1,x.f2,x.f3))
theorem mono45:Kd.Mono F45:=Kd.mono_iso _ (Kd.ff_ (Kd.eo_ _) (Kd.ff_ (Kd.eo_ _) (Kd.ff_ (Kd.eo_ _) (Kd.kt_ 45 Kd.mono_id))))
theorem sub45:Kd.Sub F45 [3,45,74]:=Kd.sub_iso _ (Kd.fv_ (Kd.fd_ _ (by decide)) (Kd.fv_ (Kd.fd_ _ (by decide)) (Kd.fv_ (Kd.fd_ _ (by decide)) (Kd.sub_slice 45 (by decide) Kd.sub_id))))
theorem sz45: ∀ n,(Kd.upto F45 4 [3,45,74] n).sz=4:=Kd.upto_sz (fun _=>rfl)
def k45:Kd S45:=Kd.fix F45 4 [3,45,74] sz45 (Kd.upto_E sub45)
theorem fj_ {w:World}{x:S45}{cs:List Value}(h:k45.K w x cs): ∃ A1 c1 A2 c2 A3 c3,cs=[.int .i64 x.f0,.slice A1 x.f1.length c1,.slice A2 x.f2.length c2,.slice A3 x.f3.length c3]∧x.f1.length<=c1∧k74.C w A1 x.f1.length x.f1∧x.f2.length<=c2∧(Kd.int .i64).C w A2 x.f2.length x.f2∧x.f3.length<=c3∧k45.C w A3 x.f3.length x.f3:=by
 obtain ⟨n,h⟩:=h;cases n with
 | zero=>exact h.elim
 | succ n=>
  obtain ⟨_,_,rfl,rfl,⟨_,_,rfl,⟨A1,c1,rfl,l1,g1⟩,⟨_,_,rfl,⟨A2,c2,rfl,l2,g2⟩,⟨A3,c3,rfl,l3,g3⟩⟩⟩⟩:=h;exact ⟨A1,c1,A2,c2,A3,c3,rfl,l1,g1,l2,g2,l3,Kd.fix_C g3⟩
theorem kw_ (w:World)(x:S45){A1:Option Addr}{c1:Nat}(l1:x.f1.length<=c1)(g1:k74.C w A1 x.f1.length x.f1){A2:Option Addr}{c2:Nat}(l2:x.f2.length<=c2)(g2:(Kd.int .i64).C w A2 x.f2.length x.f2){A3:Option Addr}{c3:Nat}(l3:x.f3.length<=c3)(g3:k45.C w A3 x.f3.length x.f3):k45.K w x [.int .i64 x.f0,.slice A1 x.f1.length c1,.slice A2 x.f2.length c2,.slice A3 x.f3.length c3]:=by
 obtain ⟨n3,q3⟩:=Kd.ky_ mono45 g3;have r3:=Kd.upto_C_le mono45 sz45 (show n3<=n3 by omega) q3;exact ⟨n3+1,⟨[.int .i64 x.f0],[.slice A1 x.f1.length c1,.slice A2 x.f2.length c2,.slice A3 x.f3.length c3],rfl,rfl,⟨[.slice A1 x.f1.length c1],[.slice A2 x.f2.length c2,.slice A3 x.f3.length c3],rfl,⟨A1,c1,rfl,l1,g1⟩,⟨[.slice A2 x.f2.length c2],[.slice A3 x.f3.length c3],rfl,⟨A2,c2,rfl,l2,g2⟩,⟨A3,c3,rfl,l3,r3⟩⟩⟩⟩⟩
theorem k45_openF {W:World}{ok:Nat->Prop}{x:S45}{cs:List Value}(h:Kd.FK k45 W ok x cs): ∃ A1 c1 A2 c2 A3 c3,cs=[.int .i64 x.f0,.slice A1 x.f1.length c1,.slice A2 x.f2.length c2,.slice A3 x.f3.length c3]∧x.f1.length<=c1∧Kd.F k74 W ok A1 x.f1.length x.f1∧x.f2.length<=c2∧Kd.F (Kd.int .i64) W ok A2 x.f2.length x.f2∧x.f3.length<=c3∧Kd.F k45 W ok A3 x.f3.length x.f3:=by
 obtain ⟨A1,c1,A2,c2,A3,c3,rfl,l1,_,l2,_,l3,_⟩:=fj_ (Kd.FK_now h);exact ⟨A1,c1,A2,c2,A3,c3,rfl,l1,(fun W' hW=>by obtain ⟨A1_,c1_,A2_,c2_,A3_,c3_,he,l1_,g1_,l2_,g2_,l3_,g3_⟩:=fj_ (h W' hW);injection (Option.some.inj (show some (Value.slice A1 x.f1.length c1)=some (Value.slice A1_ x.f1.length c1_) from congrArg (fun l=>l[1]?) he)) with ha_ _ _;rw [ha_];exact g1_),l2,(fun W' hW=>by obtain ⟨A1_,c1_,A2_,c2_,A3_,c3_,he,l1_,g1_,l2_,g2_,l3_,g3_⟩:=fj_ (h W' hW);injection (Option.some.inj (show some (Value.slice A2 x.f2.length c2)=some (Value.slice A2_ x.f2.length c2_) from congrArg (fun l=>l[2]?) he)) with ha_ _ _;rw [ha_];exact g2_),l3,(fun W' hW=>by obtain ⟨A1_,c1_,A2_,c2_,A3_,c3_,he,l1_,g1_,l2_,g2_,l3_,g3_⟩:=fj_ (h W' hW);injection (Option.some.inj (show some (Value.slice A3 x.f3.length c3)=some (Value.slice A3_ x.f3.length c3_) from congrArg (fun l=>l[3]?) he)) with ha_ _ _;rw [ha_];exact g3_)⟩
theorem k45_mkF (W:World)(ok:Nat->Prop)(x:S45){A1:Option Addr}{c1:Nat}(l1:x.f1.length<=c1)(g1:Kd.F k74 W ok A1 x.f1.length x.f1){A2:Option Addr}{c2:Nat}(l2:x.f2.length<=c2)(g2:Kd.F (Kd.int .i64) W ok A2 x.f2.length x.f2){A3:Option Addr}{c3:Nat}(l3:x.f3.length<=c3)(g3:Kd.F k45 W ok A3 x.f3.length x.f3):Kd.FK k45 W ok x [.int .i64 x.f0,.slice A1 x.f1.length c1,.slice A2 x.f2.length c2,.slice A3 x.f3.length c3]:=fun W2 hW=>kw_ W2 x l1 (g1 W2 hW) l2 (g2 W2 hW) l3 (g3 W2 hW)
def cf_ (xs:List S45)(i:Int):S45:=xs.getD i.toNat z45
theorem ki_ {w:World}{A:Option Addr}{n:Nat}{xs:List S45}(h:Kd.C k45 w A n xs)(i:Int)(h0:0<=i)(h1:i<n): ∃ ad A1 c1 A2 c2 A3 c3,A=some ad∧w.cell? (ad.add (i.toNat*4))=some (.int .i64 (cf_ xs i).f0)∧w.cell? ⟨(ad.add (i.toNat*4)).block,(ad.add (i.toNat*4)).off+1,none⟩=some (.slice A1 (cf_ xs i).f1.length c1)∧w.cell? ⟨(ad.add (i.toNat*4)).block,(ad.add (i.toNat*4)).off+2,none⟩=some (.slice A2 (cf_ xs i).f2.length c2)∧w.cell? ⟨(ad.add (i.toNat*4)).block,(ad.add (i.toNat*4)).off+3,none⟩=some (.slice A3 (cf_ xs i).f3.length c3)∧(cf_ xs i).f1.length<=c1∧k74.C w A1 (cf_ xs i).f1.length (cf_ xs i).f1∧(cf_ xs i).f2.length<=c2∧(Kd.int .i64).C w A2 (cf_ xs i).f2.length (cf_ xs i).f2∧(cf_ xs i).f3.length<=c3∧k45.C w A3 (cf_ xs i).f3.length (cf_ xs i).f3:=by
 obtain ⟨ad,c,e,_,hK,hc0⟩:=Kd.C_get h z45 i h0 h1;have hc: ∀ j u,c[j]? =some u->w.cell? (ad.add (i.toNat*4+j))=some u:=hc0;obtain ⟨A1,c1,A2,c2,A3,c3,rfl,l1,g1,l2,g2,l3,g3⟩:=fj_ hK;exact ⟨ad,A1,c1,A2,c2,A3,c3,e,hc 0 _ rfl,by rw [←ay_ _ _ 1 (by omega)];exact hc 1 _ rfl,by rw [←ay_ _ _ 2 (by omega)];exact hc 2 _ rfl,by rw [←ay_ _ _ 3 (by omega)];exact hc 3 _ rfl,l1,g1,l2,g2,l3,g3⟩
structure S55 where
 f0:Int
 f1:Bool
 f2:S45
 f3:S45
 f4:Int
def z55:S55:=⟨(0:Int),false,z45,z45,(0:Int)⟩
def k55:Kd S55:=Kd.iso (Kd.pair (Kd.int .i64) (Kd.pair Kd.bool (Kd.pair k45 (Kd.pair k45 (Kd.int .i64))))) (fun x:S55=>(x.f0,x.f1,x.f2,x.f3,x.f4))
theorem fi_ {w:World}{x:S55}{cs:List Value}(h:k55.K w x cs): ∃ A3 c3 A4 c4 A5 c5 A7 c7 A8 c8 A9 c9,cs=[.int .i64 x.f0,.bool x.f1,.int .i64 x.f2.f0,.slice A3 x.f2.f1.length c3,.slice A4 x.f2.f2.length c4,.slice A5 x.f2.f3.length c5,.int .i64 x.f3.f0,.slice A7 x.f3.f1.length c7,.slice A8 x.f3.f2.length c8,.slice A9 x.f3.f3.length c9,.int .i64 x.f4]∧x.f2.f1.length<=c3∧k74.C w A3 x.f2.f1.length x.f2.f1∧x.f2.f2.length<=c4∧(Kd.int .i64).C w A4 x.f2.f2.length x.f2.f2∧x.f2.f3.length<=c5∧k45.C w A5 x.f2.f3.length x.f2.f3∧x.f3.f1.length<=c7∧k74.C w A7 x.f3.f1.length x.f3.f1∧x.f3.f2.length<=c8∧(Kd.int .i64).C w A8 x.f3.f2.length x.f3.f2∧x.f3.f3.length<=c9∧k45.C w A9 x.f3.f3.length x.f3.f3:=by
 obtain ⟨_,_,rfl,rfl,⟨_,_,rfl,rfl,⟨_,_,rfl,s2,⟨_,_,rfl,s6,rfl⟩⟩⟩⟩:=h;obtain ⟨A3,c3,A4,c4,A5,c5,rfl,l3,g3,l4,g4,l5,g5⟩:=fj_ s2;obtain ⟨A7,c7,A8,c8,A9,c9,rfl,l7,g7,l8,g8,l9,g9⟩:=fj_ s6;exact ⟨A3,c3,A4,c4,A5,c5,A7,c7,A8,c8,A9,c9,rfl,l3,g3,l4,g4,l5,g5,l7,g7,l8,g8,l9,g9⟩
theorem k55_mk (w:World)(x:S55){A3:Option Addr}{c3:Nat}(l3:x.f2.f1.length<=c3)(g3:k74.C w A3 x.f2.f1.length x.f2.f1){A4:Option Addr}{c4:Nat}(l4:x.f2.f2.length<=c4)(g4:(Kd.int .i64).C w A4 x.f2.f2.length x.f2.f2){A5:Option Addr}{c5:Nat}(l5:x.f2.f3.length<=c5)(g5:k45.C w A5 x.f2.f3.length x.f2.f3){A7:Option Addr}{c7:Nat}(l7:x.f3.f1.length<=c7)(g7:k74.C w A7 x.f3.f1.length x.f3.f1){A8:Option Addr}{c8:Nat}(l8:x.f3.f2.length<=c8)(g8:(Kd.int .i64).C w A8 x.f3.f2.length x.f3.f2){A9:Option Addr}{c9:Nat}(l9:x.f3.f3.length<=c9)(g9:k45.C w A9 x.f3.f3.length x.f3.f3):k55.K w x [.int .i64 x.f0,.bool x.f1,.int .i64 x.f2.f0,.slice A3 x.f2.f1.length c3,.slice A4 x.f2.f2.length c4,.slice A5 x.f2.f3.length c5,.int .i64 x.f3.f0,.slice A7 x.f3.f1.length c7,.slice A8 x.f3.f2.length c8,.slice A9 x.f3.f3.length c9,.int .i64 x.f4]:=⟨[.int .i64 x.f0],[.bool x.f1,.int .i64 x.f2.f0,.slice A3 x.f2.f1.length c3,.slice A4 x.f2.f2.length c4,.slice A5 x.f2.f3.length c5,.int .i64 x.f3.f0,.slice A7 x.f3.f1.length c7,.slice A8 x.f3.f2.length c8,.slice A9 x.f3.f3.length c9,.int .i64 x.f4],rfl,rfl,⟨[.bool x.f1],[.int .i64 x.f2.f0,.slice A3 x.f2.f1.length c3,.slice A4 x.f2.f2.length c4,.slice A5 x.f2.f3.length c5,.int .i64 x.f3.f0,.slice A7 x.f3.f1.length c7,.slice A8 x.f3.f2.length c8,.slice A9 x.f3.f3.length c9,.int .i64 x.f4],rfl,rfl,⟨[.int .i64 x.f2.f0,.slice A3 x.f2.f1.length c3,.slice A4 x.f2.f2.length c4,.slice A5 x.f2.f3.length c5],[.int .i64 x.f3.f0,.slice A7 x.f3.f1.length c7,.slice A8 x.f3.f2.length c8,.slice A9 x.f3.f3.length c9,.int .i64 x.f4],rfl,(kw_ w x.f2 l3 g3 l4 g4 l5 g5),⟨[.int .i64 x.f3.f0,.slice A7 x.f3.f1.length c7,.slice A8 x.f3.f2.length c8,.slice A9 x.f3.f3.length c9],[.int .i64 x.f4],rfl,(kw_ w x.f3 l7 g7 l8 g8 l9 g9),rfl⟩⟩⟩⟩
theorem jy_ {W:World}{ok:Nat->Prop}{x:S55}{cs:List Value}(h:Kd.FK k55 W ok x cs): ∃ A3 c3 A4 c4 A5 c5 A7 c7 A8 c8 A9 c9,cs=[.int .i64 x.f0,.bool x.f1,.int .i64 x.f2.f0,.slice A3 x.f2.f1.length c3,.slice A4 x.f2.f2.length c4,.slice A5 x.f2.f3.length c5,.int .i64 x.f3.f0,.slice A7 x.f3.f1.length c7,.slice A8 x.f3.f2.length c8,.slice A9 x.f3.f3.length c9,.int .i64 x.f4]∧x.f2.f1.length<=c3∧Kd.F k74 W ok A3 x.f2.f1.length x.f2.f1∧x.f2.f2.length<=c4∧Kd.F (Kd.int .i64) W ok A4 x.f2.f2.length x.f2.f2∧x.f2.f3.length<=c5∧Kd.F k45 W ok A5 x.f2.f3.length x.f2.f3∧x.f3.f1.length<=c7∧Kd.F k74 W ok A7 x.f3.f1.length x.f3.f1∧x.f3.f2.length<=c8∧Kd.F (Kd.int .i64) W ok A8 x.f3.f2.length x.f3.f2∧x.f3.f3.length<=c9∧Kd.F k45 W ok A9 x.f3.f3.length x.f3.f3:=by
 obtain ⟨A3,c3,A4,c4,A5,c5,A7,c7,A8,c8,A9,c9,rfl,l3,_,l4,_,l5,_,l7,_,l8,_,l9,_⟩:=fi_ (Kd.FK_now h);exact ⟨A3,c3,A4,c4,A5,c5,A7,c7,A8,c8,A9,c9,rfl,l3,(fun W' hW=>by obtain ⟨A3_,c3_,A4_,c4_,A5_,c5_,A7_,c7_,A8_,c8_,A9_,c9_,he,l3_,g3_,l4_,g4_,l5_,g5_,l7_,g7_,l8_,g8_,l9_,g9_⟩:=fi_ (h W' hW);injection (Option.some.inj (show some (Value.slice A3 x.f2.f1.length c3)=some (Value.slice A3_ x.f2.f1.length c3_) from congrArg (fun l=>l[3]?) he)) with ha_ _ _;rw [ha_];exact g3_),l4,(fun W' hW=>by obtain ⟨A3_,c3_,A4_,c4_,A5_,c5_,A7_,c7_,A8_,c8_,A9_,c9_,he,l3_,g3_,l4_,g4_,l5_,g5_,l7_,g7_,l8_,g8_,l9_,g9_⟩:=fi_ (h W' hW);injection (Option.some.inj (show some (Value.slice A4 x.f2.f2.length c4)=some (Value.slice A4_ x.f2.f2.length c4_) from congrArg (fun l=>l[4]?) he)) with ha_ _ _;rw [ha_];exact g4_),l5,(fun W' hW=>by obtain ⟨A3_,c3_,A4_,c4_,A5_,c5_,A7_,c7_,A8_,c8_,A9_,c9_,he,l3_,g3_,l4_,g4_,l5_,g5_,l7_,g7_,l8_,g8_,l9_,g9_⟩:=fi_ (h W' hW);injection (Option.some.inj (show some (Value.slice A5 x.f2.f3.length c5)=some (Value.slice A5_ x.f2.f3.length c5_) from congrArg (fun l=>l[5]?) he)) with ha_ _ _;rw [ha_];exact g5_),l7,(fun W' hW=>by obtain ⟨A3_,c3_,A4_,c4_,A5_,c5_,A7_,c7_,A8_,c8_,A9_,c9_,he,l3_,g3_,l4_,g4_,l5_,g5_,l7_,g7_,l8_,g8_,l9_,g9_⟩:=fi_ (h W' hW);injection (Option.some.inj (show some (Value.slice A7 x.f3.f1.length c7)=some (Value.slice A7_ x.f3.f1.length c7_) from congrArg (fun l=>l[7]?) he)) with ha_ _ _;rw [ha_];exact g7_),l8,(fun W' hW=>by obtain ⟨A3_,c3_,A4_,c4_,A5_,c5_,A7_,c7_,A8_,c8_,A9_,c9_,he,l3_,g3_,l4_,g4_,l5_,g5_,l7_,g7_,l8_,g8_,l9_,g9_⟩:=fi_ (h W' hW);injection (Option.some.inj (show some (Value.slice A8 x.f3.f2.length c8)=some (Value.slice A8_ x.f3.f2.length c8_) from congrArg (fun l=>l[8]?) he)) with ha_ _ _;rw [ha_];exact g8_),l9,(fun W' hW=>by obtain ⟨A3_,c3_,A4_,c4_,A5_,c5_,A7_,c7_,A8_,c8_,A9_,c9_,he,l3_,g3_,l4_,g4_,l5_,g5_,l7_,g7_,l8_,g8_,l9_,g9_⟩:=fi_ (h W' hW);injection (Option.some.inj (show some (Value.slice A9 x.f3.f3.length c9)=some (Value.slice A9_ x.f3.f3.length c9_) from congrArg (fun l=>l[9]?) he)) with ha_ _ _;rw [ha_];exact g9_)⟩
theorem k55_mkF (W:World)(ok:Nat->Prop)(x:S55){A3:Option Addr}{c3:Nat}(l3:x.f2.f1.length<=c3)(g3:Kd.F k74 W ok A3 x.f2.f1.length x.f2.f1){A4:Option Addr}{c4:Nat}(l4:x.f2.f2.length<=c4)(g4:Kd.F (Kd.int .i64) W ok A4 x.f2.f2.length x.f2.f2){A5:Option Addr}{c5:Nat}(l5:x.f2.f3.length<=c5)(g5:Kd.F k45 W ok A5 x.f2.f3.length x.f2.f3){A7:Option Addr}{c7:Nat}(l7:x.f3.f1.length<=c7)(g7:Kd.F k74 W ok A7 x.f3.f1.length x.f3.f1){A8:Option Addr}{c8:Nat}(l8:x.f3.f2.length<=c8)(g8:Kd.F (Kd.int .i64) W ok A8 x.f3.f2.length x.f3.f2){A9:Option Addr}{c9:Nat}(l9:x.f3.f3.length<=c9)(g9:Kd.F k45 W ok A9 x.f3.f3.length x.f3.f3):Kd.FK k55 W ok x [.int .i64 x.f0,.bool x.f1,.int .i64 x.f2.f0,.slice A3 x.f2.f1.length c3,.slice A4 x.f2.f2.length c4,.slice A5 x.f2.f3.length c5,.int .i64 x.f3.f0,.slice A7 x.f3.f1.length c7,.slice A8 x.f3.f2.length c8,.slice A9 x.f3.f3.length c9,.int .i64 x.f4]:=fun W2 hW=>k55_mk W2 x l3 (g3 W2 hW) l4 (g4 W2 hW) l5 (g5 W2 hW) l7 (g7 W2 hW) l8 (g8 W2 hW) l9 (g9 W2 hW)
def cm_ (xs:List S55)(i:Int):S55:=xs.getD i.toNat z55
theorem kh_ {w:World}{A:Option Addr}{n:Nat}{xs:List S55}(h:Kd.C k55 w A n xs)(i:Int)(h0:0<=i)(h1:i<n): ∃ ad A3 c3 A4 c4 A5 c5 A7 c7 A8 c8 A9 c9,A=some ad∧w.cell? (ad.add (i.toNat*11))=some (.int .i64 (cm_ xs i).f0)∧w.cell? ⟨(ad.add (i.toNat*11)).block,(ad.add (i.toNat*11)).off+1,none⟩=some (.bool (cm_ xs i).f1)∧w.cell? ⟨(ad.add (i.toNat*11)).block,(ad.add (i.toNat*11)).off+2,none⟩=some (.int .i64 (cm_ xs i).f2.f0)∧w.cell? ⟨(ad.add (i.toNat*11)).block,(ad.add (i.toNat*11)).off+3,none⟩=some (.slice A3 (cm_ xs i).f2.f1.length c3)∧w.cell? ⟨(ad.add (i.toNat*11)).block,(ad.add (i.toNat*11)).off+4,none⟩=some (.slice A4 (cm_ xs i).f2.f2.length c4)∧w.cell? ⟨(ad.add (i.toNat*11)).block,(ad.add (i.toNat*11)).off+5,none⟩=some (.slice A5 (cm_ xs i).f2.f3.length c5)∧w.cell? ⟨(ad.add (i.toNat*11)).block,(ad.add (i.toNat*11)).off+6,none⟩=some (.int .i64 (cm_ xs i).f3.f0)∧w.cell? ⟨(ad.add (i.toNat*11)).block,(ad.add (i.toNat*11)).off+7,none⟩=some (.slice A7 (cm_ xs i).f3.f1.length c7)∧w.cell? ⟨(ad.add (i.toNat*11)).block,(ad.add (i.toNat*11)).off+8,none⟩=some (.slice A8 (cm_ xs i).f3.f2.length c8)∧w.cell? ⟨(ad.add (i.toNat*11)).block,(ad.add (i.toNat*11)).off+9,none⟩=some (.slice A9 (cm_ xs i).f3.f3.length c9)∧w.cell? ⟨(ad.add (i.toNat*11)).block,(ad.add (i.toNat*11)).off+10,none⟩=some (.int .i64 (cm_ xs i).f4)∧(cm_ xs i).f2.f1.length<=c3∧k74.C w A3 (cm_ xs i).f2.f1.length (cm_ xs i).f2.f1∧(cm_ xs i).f2.f2.length<=c4∧(Kd.int .i64).C w A4 (cm_ xs i).f2.f2.length (cm_ xs i).f2.f2∧(cm_ xs i).f2.f3.length<=c5∧k45.C w A5 (cm_ xs i).f2.f3.length (cm_ xs i).f2.f3∧(cm_ xs i).f3.f1.length<=c7∧k74.C w A7 (cm_ xs i).f3.f1.length (cm_ xs i).f3.f1∧(cm_ xs i).f3.f2.length<=c8∧(Kd.int .i64).C w A8 (cm_ xs i).f3.f2.length (cm_ xs i).f3.f2∧(cm_ xs i).f3.f3.length<=c9∧k45.C w A9 (cm_ xs i).f3.f3.length (cm_ xs i).f3.f3:=by
 obtain ⟨ad,c,e,_,hK,hc0⟩:=Kd.C_get h z55 i h0 h1;have hc: ∀ j u,c[j]? =some u->w.cell? (ad.add (i.toNat*11+j))=some u:=hc0;obtain ⟨A3,c3,A4,c4,A5,c5,A7,c7,A8,c8,A9,c9,rfl,l3,g3,l4,g4,l5,g5,l7,g7,l8,g8,l9,g9⟩:=fi_ hK;exact ⟨ad,A3,c3,A4,c4,A5,c5,A7,c7,A8,c8,A9,c9,e,hc 0 _ rfl,by rw [←ay_ _ _ 1 (by omega)];exact hc 1 _ rfl,by rw [←ay_ _ _ 2 (by omega)];exact hc 2 _ rfl,by rw [←ay_ _ _ 3 (by omega)];exact hc 3 _ rfl,by rw [←ay_ _ _ 4 (by omega)];exact hc 4 _ rfl,by rw [←ay_ _ _ 5 (by omega)];exact hc 5 _ rfl,by rw [←ay_ _ _ 6 (by omega)];exact hc 6 _ rfl,by rw [←ay_ _ _ 7 (by omega)];exact hc 7 _ rfl,by rw [←ay_ _ _ 8 (by omega)];exact hc 8 _ rfl,by rw [←ay_ _ _ 9 (by omega)];exact hc 9 _ rfl,by rw [←ay_ _ _ 10 (by omega)];exact hc 10 _ rfl,l3,g3,l4,g4,l5,g5,l7,g7,l8,g8,l9,g9⟩
end A
namespace K
open A
attribute [local go_sem] ct_ cq_ dh_ dg_ ch_ cg_ cr_ cp_
theorem info3:(Tryz.prog.info? 3).map (fun i=>(i.zero,i.size,i.bytes))=some (some (.int .i64 0),1,8):=by kernel_rfl
theorem info5:(Tryz.prog.info? 5).map (fun i=>(i.zero,i.size,i.bytes))=some (some (.int .u8 0),1,1):=by kernel_rfl
theorem info9:(Tryz.prog.info? 9).map (fun i=>(i.zero,i.size,i.bytes))=some (some (.string ⟨#[]⟩),1,16):=by kernel_rfl
structure S159 where
 f0:Int
 f1:ByteArray
 f2:Int
 f3:Int
 f4:Int
def z159:S159:=⟨(0:Int),(⟨#[]⟩:ByteArray),(0:Int),(0:Int),(0:Int)⟩
def k159:Kd S159:=Kd.iso (Kd.pair (Kd.int .i64) (Kd.pair Kd.string (Kd.pair (Kd.int .i64) (Kd.pair (Kd.int .i64) (Kd.int .i64))))) (fun x:S159=>(x.f0,x.f1,x.f2,x.f3,x.f4))
theorem k159_open {w:World}{x:S159}{cs:List Value}(h:k159.K w x cs):cs=[.int .i64 x.f0,.string x.f1,.int .i64 x.f2,.int .i64 x.f3,.int .i64 x.f4]:=by
 obtain ⟨_,_,rfl,rfl,⟨_,_,rfl,rfl,⟨_,_,rfl,rfl,⟨_,_,rfl,rfl,rfl⟩⟩⟩⟩:=h;exact rfl
theorem k159_mkM (w:World)(base:Nat)(ok:Nat->Prop)(x:S159)  :k159.M w base ok x [.int .i64 x.f0,.string x.f1,.int .i64 x.f2,.int .i64 x.f3,.int .i64 x.f4]:=⟨[.int .i64 x.f0],[.string x.f1,.int .i64 x.f2,.int .i64 x.f3,.int .i64 x.f4],rfl,rfl,⟨[.string x.f1],[.int .i64 x.f2,.int .i64 x.f3,.int .i64 x.f4],rfl,rfl,⟨[.int .i64 x.f2],[.int .i64 x.f3,.int .i64 x.f4],rfl,rfl,⟨[.int .i64 x.f3],[.int .i64 x.f4],rfl,rfl,rfl⟩⟩⟩⟩
def ac_ (xs:List S159)(i:Int):S159:=xs.getD i.toNat z159
theorem go_ {w:World}{A:Option Addr}{n:Nat}{xs:List S159}(h:Kd.C k159 w A n xs)(i:Int)(h0:0<=i)(h1:i<n): ∃ ad ,A=some ad∧w.cell? (ad.add (i.toNat*5))=some (.int .i64 (ac_ xs i).f0)∧w.cell? ⟨(ad.add (i.toNat*5)).block,(ad.add (i.toNat*5)).off+1,none⟩=some (.string (ac_ xs i).f1)∧w.cell? ⟨(ad.add (i.toNat*5)).block,(ad.add (i.toNat*5)).off+2,none⟩=some (.int .i64 (ac_ xs i).f2)∧w.cell? ⟨(ad.add (i.toNat*5)).block,(ad.add (i.toNat*5)).off+3,none⟩=some (.int .i64 (ac_ xs i).f3)∧w.cell? ⟨(ad.add (i.toNat*5)).block,(ad.add (i.toNat*5)).off+4,none⟩=some (.int .i64 (ac_ xs i).f4):=by
 obtain ⟨ad,c,e,_,hK,hc0⟩:=Kd.C_get h z159 i h0 h1;have hc: ∀ j u,c[j]? =some u->w.cell? (ad.add (i.toNat*5+j))=some u:=hc0;obtain rfl:=k159_open hK;exact ⟨ad,e,hc 0 _ rfl,by rw [←ay_ _ _ 1 (by omega)];exact hc 1 _ rfl,by rw [←ay_ _ _ 2 (by omega)];exact hc 2 _ rfl,by rw [←ay_ _ _ 3 (by omega)];exact hc 3 _ rfl,by rw [←ay_ _ _ 4 (by omega)];exact hc 4 _ rfl⟩
structure S85 where
 f0:Int
 f1:ByteArray
 f2:Int
 f3:Int
 f4:(List S85)
def z85:S85:=⟨(0:Int),(⟨#[]⟩:ByteArray),(0:Int),(0:Int),([]:List S85)⟩
def F85 (d:Kd S85):Kd S85:=Kd.iso (Kd.pair (Kd.int .i64) (Kd.pair Kd.string (Kd.pair (Kd.int .i64) (Kd.pair (Kd.int .i64) (Kd.slice 85 d))))) (fun x:S85=>(x.f0,x.f1,x.f2,x.f3,x.f4))
theorem mono85:Kd.Mono F85:=Kd.mono_iso _ (Kd.ff_ (Kd.eo_ _) (Kd.ff_ (Kd.eo_ _) (Kd.ff_ (Kd.eo_ _) (Kd.ff_ (Kd.eo_ _) (Kd.kt_ 85 Kd.mono_id)))))
theorem sub85:Kd.Sub F85 [85]:=Kd.sub_iso _ (Kd.fv_ (Kd.fd_ _ (by decide)) (Kd.fv_ (Kd.fd_ _ (by decide)) (Kd.fv_ (Kd.fd_ _ (by decide)) (Kd.fv_ (Kd.fd_ _ (by decide)) (Kd.sub_slice 85 (by decide) Kd.sub_id)))))
theorem sz85: ∀ n,(Kd.upto F85 5 [85] n).sz=5:=Kd.upto_sz (fun _=>rfl)
def k85:Kd S85:=Kd.fix F85 5 [85] sz85 (Kd.upto_E sub85)
theorem id_ {w:World}{x:S85}{cs:List Value}(h:k85.K w x cs): ∃ A4 c4,cs=[.int .i64 x.f0,.string x.f1,.int .i64 x.f2,.int .i64 x.f3,.slice A4 x.f4.length c4]∧x.f4.length<=c4∧k85.C w A4 x.f4.length x.f4:=by
 obtain ⟨n,h⟩:=h;cases n with
 | zero=>exact h.elim
 | succ n=>
  obtain ⟨_,_,rfl,rfl,⟨_,_,rfl,rfl,⟨_,_,rfl,rfl,⟨_,_,rfl,rfl,⟨A4,c4,rfl,l4,g4⟩⟩⟩⟩⟩:=h;exact ⟨A4,c4,rfl,l4,Kd.fix_C g4⟩
theorem k85_mk (w:World)(x:S85){A4:Option Addr}{c4:Nat}(l4:x.f4.length<=c4)(g4:k85.C w A4 x.f4.length x.f4):k85.K w x [.int .i64 x.f0,.string x.f1,.int .i64 x.f2,.int .i64 x.f3,.slice A4 x.f4.length c4]:=by
 obtain ⟨n4,q4⟩:=Kd.ky_ mono85 g4;have r4:=Kd.upto_C_le mono85 sz85 (show n4<=n4 by omega) q4;exact ⟨n4+1,⟨[.int .i64 x.f0],[.string x.f1,.int .i64 x.f2,.int .i64 x.f3,.slice A4 x.f4.length c4],rfl,rfl,⟨[.string x.f1],[.int .i64 x.f2,.int .i64 x.f3,.slice A4 x.f4.length c4],rfl,rfl,⟨[.int .i64 x.f2],[.int .i64 x.f3,.slice A4 x.f4.length c4],rfl,rfl,⟨[.int .i64 x.f3],[.slice A4 x.f4.length c4],rfl,rfl,⟨A4,c4,rfl,l4,r4⟩⟩⟩⟩⟩⟩
theorem k85_openF {W:World}{ok:Nat->Prop}{x:S85}{cs:List Value}(h:Kd.FK k85 W ok x cs): ∃ A4 c4,cs=[.int .i64 x.f0,.string x.f1,.int .i64 x.f2,.int .i64 x.f3,.slice A4 x.f4.length c4]∧x.f4.length<=c4∧Kd.F k85 W ok A4 x.f4.length x.f4:=by
 obtain ⟨A4,c4,rfl,l4,_⟩:=id_ (Kd.FK_now h);exact ⟨A4,c4,rfl,l4,(fun W' hW=>by obtain ⟨A4_,c4_,he,l4_,g4_⟩:=id_ (h W' hW);injection (Option.some.inj (show some (Value.slice A4 x.f4.length c4)=some (Value.slice A4_ x.f4.length c4_) from congrArg (fun l=>l[4]?) he)) with ha_ _ _;rw [ha_];exact g4_)⟩
theorem jx_ (W:World)(ok:Nat->Prop)(x:S85){A4:Option Addr}{c4:Nat}(l4:x.f4.length<=c4)(g4:Kd.F k85 W ok A4 x.f4.length x.f4):Kd.FK k85 W ok x [.int .i64 x.f0,.string x.f1,.int .i64 x.f2,.int .i64 x.f3,.slice A4 x.f4.length c4]:=fun W2 hW=>k85_mk W2 x l4 (g4 W2 hW)
def by_ (xs:List S85)(i:Int):S85:=xs.getD i.toNat z85
theorem at_T85 {w:World}{A:Option Addr}{n:Nat}{xs:List S85}(h:Kd.C k85 w A n xs)(i:Int)(h0:0<=i)(h1:i<n): ∃ ad A4 c4,A=some ad∧w.cell? (ad.add (i.toNat*5))=some (.int .i64 (by_ xs i).f0)∧w.cell? ⟨(ad.add (i.toNat*5)).block,(ad.add (i.toNat*5)).off+1,none⟩=some (.string (by_ xs i).f1)∧w.cell? ⟨(ad.add (i.toNat*5)).block,(ad.add (i.toNat*5)).off+2,none⟩=some (.int .i64 (by_ xs i).f2)∧w.cell? ⟨(ad.add (i.toNat*5)).block,(ad.add (i.toNat*5)).off+3,none⟩=some (.int .i64 (by_ xs i).f3)∧w.cell? ⟨(ad.add (i.toNat*5)).block,(ad.add (i.toNat*5)).off+4,none⟩=some (.slice A4 (by_ xs i).f4.length c4)∧(by_ xs i).f4.length<=c4∧k85.C w A4 (by_ xs i).f4.length (by_ xs i).f4:=by
 obtain ⟨ad,c,e,_,hK,hc0⟩:=Kd.C_get h z85 i h0 h1;have hc: ∀ j u,c[j]? =some u->w.cell? (ad.add (i.toNat*5+j))=some u:=hc0;obtain ⟨A4,c4,rfl,l4,g4⟩:=id_ hK;exact ⟨ad,A4,c4,e,hc 0 _ rfl,by rw [←ay_ _ _ 1 (by omega)];exact hc 1 _ rfl,by rw [←ay_ _ _ 2 (by omega)];exact hc 2 _ rfl,by rw [←ay_ _ _ 3 (by omega)];exact hc 3 _ rfl,by rw [←ay_ _ _ 4 (by omega)];exact hc 4 _ rfl,l4,g4⟩
def rd_L6 (xs:List (List S74))(i:Int):(List S74):=xs.getD i.toNat ([]:List S74)
theorem at_L6 {w:World}{A:Option Addr}{n:Nat}{xs:List (List S74)}(h:Kd.C (Kd.slice 74 k74) w A n xs)(i:Int)(h0:0<=i)(h1:i<n): ∃ ad A0 c0,A=some ad∧w.cell? (ad.add i.toNat)=some (.slice A0 (rd_L6 xs i).length c0)∧(rd_L6 xs i).length<=c0∧k74.C w A0 (rd_L6 xs i).length (rd_L6 xs i):=by
 obtain ⟨ad,c,e,_,hK,hc0⟩:=Kd.C_get h ([]:List S74) i h0 h1;have hc: ∀ j u,c[j]? =some u->w.cell? (ad.add (i.toNat*1+j))=some u:=hc0;obtain ⟨A0,c0,rfl,l0,g0⟩:=hK;exact ⟨ad,A0,c0,e,by have hq:=hc 0 _ rfl;rwa [Nat.mul_one,Nat.add_zero] at hq,l0,g0⟩
structure S93 where
 f0:ByteArray
 f1:S45
 f2:Bool
 f3:Int
def z93:S93:=⟨(⟨#[]⟩:ByteArray),z45,false,(0:Int)⟩
def k93:Kd S93:=Kd.iso (Kd.pair Kd.string (Kd.pair k45 (Kd.pair Kd.bool (Kd.int .i64)))) (fun x:S93=>(x.f0,x.f1,x.f2,x.f3))
theorem ic_ {w:World}{x:S93}{cs:List Value}(h:k93.K w x cs): ∃ A2 c2 A3 c3 A4 c4,cs=[.string x.f0,.int .i64 x.f1.f0,.slice A2 x.f1.f1.length c2,.slice A3 x.f1.f2.length c3,.slice A4 x.f1.f3.length c4,.bool x.f2,.int .i64 x.f3]∧x.f1.f1.length<=c2∧k74.C w A2 x.f1.f1.length x.f1.f1∧x.f1.f2.length<=c3∧(Kd.int .i64).C w A3 x.f1.f2.length x.f1.f2∧x.f1.f3.length<=c4∧k45.C w A4 x.f1.f3.length x.f1.f3:=by
 obtain ⟨_,_,rfl,rfl,⟨_,_,rfl,s1,⟨_,_,rfl,rfl,rfl⟩⟩⟩:=h;obtain ⟨A2,c2,A3,c3,A4,c4,rfl,l2,g2,l3,g3,l4,g4⟩:=fj_ s1;exact ⟨A2,c2,A3,c3,A4,c4,rfl,l2,g2,l3,g3,l4,g4⟩
theorem k93_mk (w:World)(x:S93){A2:Option Addr}{c2:Nat}(l2:x.f1.f1.length<=c2)(g2:k74.C w A2 x.f1.f1.length x.f1.f1){A3:Option Addr}{c3:Nat}(l3:x.f1.f2.length<=c3)(g3:(Kd.int .i64).C w A3 x.f1.f2.length x.f1.f2){A4:Option Addr}{c4:Nat}(l4:x.f1.f3.length<=c4)(g4:k45.C w A4 x.f1.f3.length x.f1.f3):k93.K w x [.string x.f0,.int .i64 x.f1.f0,.slice A2 x.f1.f1.length c2,.slice A3 x.f1.f2.length c3,.slice A4 x.f1.f3.length c4,.bool x.f2,.int .i64 x.f3]:=⟨[.string x.f0],[.int .i64 x.f1.f0,.slice A2 x.f1.f1.length c2,.slice A3 x.f1.f2.length c3,.slice A4 x.f1.f3.length c4,.bool x.f2,.int .i64 x.f3],rfl,rfl,⟨[.int .i64 x.f1.f0,.slice A2 x.f1.f1.length c2,.slice A3 x.f1.f2.length c3,.slice A4 x.f1.f3.length c4],[.bool x.f2,.int .i64 x.f3],rfl,(kw_ w x.f1 l2 g2 l3 g3 l4 g4),⟨[.bool x.f2],[.int .i64 x.f3],rfl,rfl,rfl⟩⟩⟩
theorem k93_openF {W:World}{ok:Nat->Prop}{x:S93}{cs:List Value}(h:Kd.FK k93 W ok x cs): ∃ A2 c2 A3 c3 A4 c4,cs=[.string x.f0,.int .i64 x.f1.f0,.slice A2 x.f1.f1.length c2,.slice A3 x.f1.f2.length c3,.slice A4 x.f1.f3.length c4,.bool x.f2,.int .i64 x.f3]∧x.f1.f1.length<=c2∧Kd.F k74 W ok A2 x.f1.f1.length x.f1.f1∧x.f1.f2.length<=c3∧Kd.F (Kd.int .i64) W ok A3 x.f1.f2.length x.f1.f2∧x.f1.f3.length<=c4∧Kd.F k45 W ok A4 x.f1.f3.length x.f1.f3:=by
 obtain ⟨A2,c2,A3,c3,A4,c4,rfl,l2,_,l3,_,l4,_⟩:=ic_ (Kd.FK_now h);exact ⟨A2,c2,A3,c3,A4,c4,rfl,l2,(fun W' hW=>by obtain ⟨A2_,c2_,A3_,c3_,A4_,c4_,he,l2_,g2_,l3_,g3_,l4_,g4_⟩:=ic_ (h W' hW);injection (Option.some.inj (show some (Value.slice A2 x.f1.f1.length c2)=some (Value.slice A2_ x.f1.f1.length c2_) from congrArg (fun l=>l[2]?) he)) with ha_ _ _;rw [ha_];exact g2_),l3,(fun W' hW=>by obtain ⟨A2_,c2_,A3_,c3_,A4_,c4_,he,l2_,g2_,l3_,g3_,l4_,g4_⟩:=ic_ (h W' hW);injection (Option.some.inj (show some (Value.slice A3 x.f1.f2.length c3)=some (Value.slice A3_ x.f1.f2.length c3_) from congrArg (fun l=>l[3]?) he)) with ha_ _ _;rw [ha_];exact g3_),l4,(fun W' hW=>by obtain ⟨A2_,c2_,A3_,c3_,A4_,c4_,he,l2_,g2_,l3_,g3_,l4_,g4_⟩:=ic_ (h W' hW);injection (Option.some.inj (show some (Value.slice A4 x.f1.f3.length c4)=some (Value.slice A4_ x.f1.f3.length c4_) from congrArg (fun l=>l[4]?) he)) with ha_ _ _;rw [ha_];exact g4_)⟩
theorem k93_mkF (W:World)(ok:Nat->Prop)(x:S93){A2:Option Addr}{c2:Nat}(l2:x.f1.f1.length<=c2)(g2:Kd.F k74 W ok A2 x.f1.f1.length x.f1.f1){A3:Option Addr}{c3:Nat}(l3:x.f1.f2.length<=c3)(g3:Kd.F (Kd.int .i64) W ok A3 x.f1.f2.length x.f1.f2){A4:Option Addr}{c4:Nat}(l4:x.f1.f3.length<=c4)(g4:Kd.F k45 W ok A4 x.f1.f3.length x.f1.f3):Kd.FK k93 W ok x [.string x.f0,.int .i64 x.f1.f0,.slice A2 x.f1.f1.length c2,.slice A3 x.f1.f2.length c3,.slice A4 x.f1.f3.length c4,.bool x.f2,.int .i64 x.f3]:=fun W2 hW=>k93_mk W2 x l2 (g2 W2 hW) l3 (g3 W2 hW) l4 (g4 W2 hW)
def du_ (xs:List S93)(i:Int):S93:=xs.getD i.toNat z93
theorem at_T93 {w:World}{A:Option Addr}{n:Nat}{xs:List S93}(h:Kd.C k93 w A n xs)(i:Int)(h0:0<=i)(h1:i<n): ∃ ad A2 c2 A3 c3 A4 c4,A=some ad∧w.cell? (ad.add (i.toNat*7))=some (.string (du_ xs i).f0)∧w.cell? ⟨(ad.add (i.toNat*7)).block,(ad.add (i.toNat*7)).off+1,none⟩=some (.int .i64 (du_ xs i).f1.f0)∧w.cell? ⟨(ad.add (i.toNat*7)).block,(ad.add (i.toNat*7)).off+2,none⟩=some (.slice A2 (du_ xs i).f1.f1.length c2)∧w.cell? ⟨(ad.add (i.toNat*7)).block,(ad.add (i.toNat*7)).off+3,none⟩=some (.slice A3 (du_ xs i).f1.f2.length c3)∧w.cell? ⟨(ad.add (i.toNat*7)).block,(ad.add (i.toNat*7)).off+4,none⟩=some (.slice A4 (du_ xs i).f1.f3.length c4)∧w.cell? ⟨(ad.add (i.toNat*7)).block,(ad.add (i.toNat*7)).off+5,none⟩=some (.bool (du_ xs i).f2)∧w.cell? ⟨(ad.add (i.toNat*7)).block,(ad.add (i.toNat*7)).off+6,none⟩=some (.int .i64 (du_ xs i).f3)∧(du_ xs i).f1.f1.length<=c2∧k74.C w A2 (du_ xs i).f1.f1.length (du_ xs i).f1.f1∧(du_ xs i).f1.f2.length<=c3∧(Kd.int .i64).C w A3 (du_ xs i).f1.f2.length (du_ xs i).f1.f2∧(du_ xs i).f1.f3.length<=c4∧k45.C w A4 (du_ xs i).f1.f3.length (du_ xs i).f1.f3:=by
 obtain ⟨ad,c,e,_,hK,hc0⟩:=Kd.C_get h z93 i h0 h1;have hc: ∀ j u,c[j]? =some u->w.cell? (ad.add (i.toNat*7+j))=some u:=hc0;obtain ⟨A2,c2,A3,c3,A4,c4,rfl,l2,g2,l3,g3,l4,g4⟩:=ic_ hK;exact ⟨ad,A2,c2,A3,c3,A4,c4,e,hc 0 _ rfl,by rw [←ay_ _ _ 1 (by omega)];exact hc 1 _ rfl,by rw [←ay_ _ _ 2 (by omega)];exact hc 2 _ rfl,by rw [←ay_ _ _ 3 (by omega)];exact hc 3 _ rfl,by rw [←ay_ _ _ 4 (by omega)];exact hc 4 _ rfl,by rw [←ay_ _ _ 5 (by omega)];exact hc 5 _ rfl,by rw [←ay_ _ _ 6 (by omega)];exact hc 6 _ rfl,l2,g2,l3,g3,l4,g4⟩
structure S87 where
 f0:Int
 f1:ByteArray
 f2:Int
 f3:Bool
 f4:S85
 f5:S85
 f6:Int
def z87:S87:=⟨(0:Int),(⟨#[]⟩:ByteArray),(0:Int),false,z85,z85,(0:Int)⟩
def k87:Kd S87:=Kd.iso (Kd.pair (Kd.int .i64) (Kd.pair Kd.string (Kd.pair (Kd.int .i64) (Kd.pair Kd.bool (Kd.pair k85 (Kd.pair k85 (Kd.int .i64))))))) (fun x:S87=>(x.f0,x.f1,x.f2,x.f3,x.f4,x.f5,x.f6))
theorem k87_open {w:World}{x:S87}{cs:List Value}(h:k87.K w x cs): ∃ A8 c8 A13 c13,cs=[.int .i64 x.f0,.string x.f1,.int .i64 x.f2,.bool x.f3,.int .i64 x.f4.f0,.string x.f4.f1,.int .i64 x.f4.f2,.int .i64 x.f4.f3,.slice A8 x.f4.f4.length c8,.int .i64 x.f5.f0,.string x.f5.f1,.int .i64 x.f5.f2,.int .i64 x.f5.f3,.slice A13 x.f5.f4.length c13,.int .i64 x.f6]∧x.f4.f4.length<=c8∧k85.C w A8 x.f4.f4.length x.f4.f4∧x.f5.f4.length<=c13∧k85.C w A13 x.f5.f4.length x.f5.f4:=by
 obtain ⟨_,_,rfl,rfl,⟨_,_,rfl,rfl,⟨_,_,rfl,rfl,⟨_,_,rfl,rfl,⟨_,_,rfl,s4,⟨_,_,rfl,s9,rfl⟩⟩⟩⟩⟩⟩:=h;obtain ⟨A8,c8,rfl,l8,g8⟩:=id_ s4;obtain ⟨A13,c13,rfl,l13,g13⟩:=id_ s9;exact ⟨A8,c8,A13,c13,rfl,l8,g8,l13,g13⟩
theorem k87_mk (w:World)(x:S87){A8:Option Addr}{c8:Nat}(l8:x.f4.f4.length<=c8)(g8:k85.C w A8 x.f4.f4.length x.f4.f4){A13:Option Addr}{c13:Nat}(l13:x.f5.f4.length<=c13)(g13:k85.C w A13 x.f5.f4.length x.f5.f4):k87.K w x [.int .i64 x.f0,.string x.f1,.int .i64 x.f2,.bool x.f3,.int .i64 x.f4.f0,.string x.f4.f1,.int .i64 x.f4.f2,.int .i64 x.f4.f3,.slice A8 x.f4.f4.length c8,.int .i64 x.f5.f0,.string x.f5.f1,.int .i64 x.f5.f2,.int .i64 x.f5.f3,.slice A13 x.f5.f4.length c13,.int .i64 x.f6]:=⟨[.int .i64 x.f0],[.string x.f1,.int .i64 x.f2,.bool x.f3,.int .i64 x.f4.f0,.string x.f4.f1,.int .i64 x.f4.f2,.int .i64 x.f4.f3,.slice A8 x.f4.f4.length c8,.int .i64 x.f5.f0,.string x.f5.f1,.int .i64 x.f5.f2,.int .i64 x.f5.f3,.slice A13 x.f5.f4.length c13,.int .i64 x.f6],rfl,rfl,⟨[.string x.f1],[.int .i64 x.f2,.bool x.f3,.int .i64 x.f4.f0,.string x.f4.f1,.int .i64 x.f4.f2,.int .i64 x.f4.f3,.slice A8 x.f4.f4.length c8,.int .i64 x.f5.f0,.string x.f5.f1,.int .i64 x.f5.f2,.int .i64 x.f5.f3,.slice A13 x.f5.f4.length c13,.int .i64 x.f6],rfl,rfl,⟨[.int .i64 x.f2],[.bool x.f3,.int .i64 x.f4.f0,.string x.f4.f1,.int .i64 x.f4.f2,.int .i64 x.f4.f3,.slice A8 x.f4.f4.length c8,.int .i64 x.f5.f0,.string x.f5.f1,.int .i64 x.f5.f2,.int .i64 x.f5.f3,.slice A13 x.f5.f4.length c13,.int .i64 x.f6],rfl,rfl,⟨[.bool x.f3],[.int .i64 x.f4.f0,.string x.f4.f1,.int .i64 x.f4.f2,.int .i64 x.f4.f3,.slice A8 x.f4.f4.length c8,.int .i64 x.f5.f0,.string x.f5.f1,.int .i64 x.f5.f2,.int .i64 x.f5.f3,.slice A13 x.f5.f4.length c13,.int .i64 x.f6],rfl,rfl,⟨[.int .i64 x.f4.f0,.string x.f4.f1,.int .i64 x.f4.f2,.int .i64 x.f4.f3,.slice A8 x.f4.f4.length c8],[.int .i64 x.f5.f0,.string x.f5.f1,.int .i64 x.f5.f2,.int .i64 x.f5.f3,.slice A13 x.f5.f4.length c13,.int .i64 x.f6],rfl,(k85_mk w x.f4 l8 g8),⟨[.int .i64 x.f5.f0,.string x.f5.f1,.int .i64 x.f5.f2,.int .i64 x.f5.f3,.slice A13 x.f5.f4.length c13],[.int .i64 x.f6],rfl,(k85_mk w x.f5 l13 g13),rfl⟩⟩⟩⟩⟩⟩
theorem k87_mkF (W:World)(ok:Nat->Prop)(x:S87){A8:Option Addr}{c8:Nat}(l8:x.f4.f4.length<=c8)(g8:Kd.F k85 W ok A8 x.f4.f4.length x.f4.f4){A13:Option Addr}{c13:Nat}(l13:x.f5.f4.length<=c13)(g13:Kd.F k85 W ok A13 x.f5.f4.length x.f5.f4):Kd.FK k87 W ok x [.int .i64 x.f0,.string x.f1,.int .i64 x.f2,.bool x.f3,.int .i64 x.f4.f0,.string x.f4.f1,.int .i64 x.f4.f2,.int .i64 x.f4.f3,.slice A8 x.f4.f4.length c8,.int .i64 x.f5.f0,.string x.f5.f1,.int .i64 x.f5.f2,.int .i64 x.f5.f3,.slice A13 x.f5.f4.length c13,.int .i64 x.f6]:=fun W2 hW=>k87_mk W2 x l8 (g8 W2 hW) l13 (g13 W2 hW)
def an_ (xs:List S87)(i:Int):S87:=xs.getD i.toNat z87
theorem at_T87 {w:World}{A:Option Addr}{n:Nat}{xs:List S87}(h:Kd.C k87 w A n xs)(i:Int)(h0:0<=i)(h1:i<n): ∃ ad A8 c8 A13 c13,A=some ad∧w.cell? (ad.add (i.toNat*15))=some (.int .i64 (an_ xs i).f0)∧w.cell? ⟨(ad.add (i.toNat*15)).block,(ad.add (i.toNat*15)).off+1,none⟩=some (.string (an_ xs i).f1)∧w.cell? ⟨(ad.add (i.toNat*15)).block,(ad.add (i.toNat*15)).off+2,none⟩=some (.int .i64 (an_ xs i).f2)∧w.cell? ⟨(ad.add (i.toNat*15)).block,(ad.add (i.toNat*15)).off+3,none⟩=some (.bool (an_ xs i).f3)∧w.cell? ⟨(ad.add (i.toNat*15)).block,(ad.add (i.toNat*15)).off+4,none⟩=some (.int .i64 (an_ xs i).f4.f0)∧w.cell? ⟨(ad.add (i.toNat*15)).block,(ad.add (i.toNat*15)).off+5,none⟩=some (.string (an_ xs i).f4.f1)∧w.cell? ⟨(ad.add (i.toNat*15)).block,(ad.add (i.toNat*15)).off+6,none⟩=some (.int .i64 (an_ xs i).f4.f2)∧w.cell? ⟨(ad.add (i.toNat*15)).block,(ad.add (i.toNat*15)).off+7,none⟩=some (.int .i64 (an_ xs i).f4.f3)∧w.cell? ⟨(ad.add (i.toNat*15)).block,(ad.add (i.toNat*15)).off+8,none⟩=some (.slice A8 (an_ xs i).f4.f4.length c8)∧w.cell? ⟨(ad.add (i.toNat*15)).block,(ad.add (i.toNat*15)).off+9,none⟩=some (.int .i64 (an_ xs i).f5.f0)∧w.cell? ⟨(ad.add (i.toNat*15)).block,(ad.add (i.toNat*15)).off+10,none⟩=some (.string (an_ xs i).f5.f1)∧w.cell? ⟨(ad.add (i.toNat*15)).block,(ad.add (i.toNat*15)).off+11,none⟩=some (.int .i64 (an_ xs i).f5.f2)∧w.cell? ⟨(ad.add (i.toNat*15)).block,(ad.add (i.toNat*15)).off+12,none⟩=some (.int .i64 (an_ xs i).f5.f3)∧w.cell? ⟨(ad.add (i.toNat*15)).block,(ad.add (i.toNat*15)).off+13,none⟩=some (.slice A13 (an_ xs i).f5.f4.length c13)∧w.cell? ⟨(ad.add (i.toNat*15)).block,(ad.add (i.toNat*15)).off+14,none⟩=some (.int .i64 (an_ xs i).f6)∧(an_ xs i).f4.f4.length<=c8∧k85.C w A8 (an_ xs i).f4.f4.length (an_ xs i).f4.f4∧(an_ xs i).f5.f4.length<=c13∧k85.C w A13 (an_ xs i).f5.f4.length (an_ xs i).f5.f4:=by
 obtain ⟨ad,c,e,_,hK,hc0⟩:=Kd.C_get h z87 i h0 h1;have hc: ∀ j u,c[j]? =some u->w.cell? (ad.add (i.toNat*15+j))=some u:=hc0;obtain ⟨A8,c8,A13,c13,rfl,l8,g8,l13,g13⟩:=k87_open hK;exact ⟨ad,A8,c8,A13,c13,e,hc 0 _ rfl,by rw [←ay_ _ _ 1 (by omega)];exact hc 1 _ rfl,by rw [←ay_ _ _ 2 (by omega)];exact hc 2 _ rfl,by rw [←ay_ _ _ 3 (by omega)];exact hc 3 _ rfl,by rw [←ay_ _ _ 4 (by omega)];exact hc 4 _ rfl,by rw [←ay_ _ _ 5 (by omega)];exact hc 5 _ rfl,by rw [←ay_ _ _ 6 (by omega)];exact hc 6 _ rfl,by rw [←ay_ _ _ 7 (by omega)];exact hc 7 _ rfl,by rw [←ay_ _ _ 8 (by omega)];exact hc 8 _ rfl,by rw [←ay_ _ _ 9 (by omega)];exact hc 9 _ rfl,by rw [←ay_ _ _ 10 (by omega)];exact hc 10 _ rfl,by rw [←ay_ _ _ 11 (by omega)];exact hc 11 _ rfl,by rw [←ay_ _ _ 12 (by omega)];exact hc 12 _ rfl,by rw [←ay_ _ _ 13 (by omega)];exact hc 13 _ rfl,by rw [←ay_ _ _ 14 (by omega)];exact hc 14 _ rfl,l8,g8,l13,g13⟩
end K
namespace K
open A
theorem k74_heap:Kd.Heap k74:=Kd.mb_ _ (Kd.ev_ (Kd.gs_ .i64) (Kd.gs_ .i64))
theorem ma_:Kd.Heap k45:=Kd.heap_fix (fun _ h_=>Kd.mb_ _ (Kd.ev_ (Kd.gs_ .i64) (Kd.ev_ (Kd.ip_ 74 k74_heap) (Kd.ev_ (Kd.ip_ 3 (Kd.gs_ .i64)) (Kd.ip_ 45 h_)))))
theorem k55_heap:Kd.Heap k55:=Kd.mb_ _ (Kd.ev_ (Kd.gs_ .i64) (Kd.ev_ Kd.heap_bool (Kd.ev_ ma_ (Kd.ev_ ma_ (Kd.gs_ .i64)))))
structure S27 where
 f0:(List S93)
 f1:(List S55)
 f2:(List S87)
 f3:(List ByteArray)
def z27:S27:=⟨([]:List S93),([]:List S55),([]:List S87),([]:List ByteArray)⟩
def k27:Kd S27:=Kd.iso (Kd.pair (Kd.slice 93 k93) (Kd.pair (Kd.slice 55 k55) (Kd.pair (Kd.slice 87 k87) (Kd.slice 9 Kd.string)))) (fun x:S27=>(x.f0,x.f1,x.f2,x.f3))
theorem k27_open {w:World}{x:S27}{cs:List Value}(h:k27.K w x cs): ∃ A0 c0 A1 c1 A2 c2 A3 c3,cs=[.slice A0 x.f0.length c0,.slice A1 x.f1.length c1,.slice A2 x.f2.length c2,.slice A3 x.f3.length c3]∧x.f0.length<=c0∧k93.C w A0 x.f0.length x.f0∧x.f1.length<=c1∧k55.C w A1 x.f1.length x.f1∧x.f2.length<=c2∧k87.C w A2 x.f2.length x.f2∧x.f3.length<=c3∧Kd.string.C w A3 x.f3.length x.f3:=by
 obtain ⟨_,_,rfl,⟨A0,c0,rfl,l0,g0⟩,⟨_,_,rfl,⟨A1,c1,rfl,l1,g1⟩,⟨_,_,rfl,⟨A2,c2,rfl,l2,g2⟩,⟨A3,c3,rfl,l3,g3⟩⟩⟩⟩:=h;exact ⟨A0,c0,A1,c1,A2,c2,A3,c3,rfl,l0,g0,l1,g1,l2,g2,l3,g3⟩
theorem k27_mk (w:World)(x:S27){A0:Option Addr}{c0:Nat}(l0:x.f0.length<=c0)(g0:k93.C w A0 x.f0.length x.f0){A1:Option Addr}{c1:Nat}(l1:x.f1.length<=c1)(g1:k55.C w A1 x.f1.length x.f1){A2:Option Addr}{c2:Nat}(l2:x.f2.length<=c2)(g2:k87.C w A2 x.f2.length x.f2){A3:Option Addr}{c3:Nat}(l3:x.f3.length<=c3)(g3:Kd.string.C w A3 x.f3.length x.f3):k27.K w x [.slice A0 x.f0.length c0,.slice A1 x.f1.length c1,.slice A2 x.f2.length c2,.slice A3 x.f3.length c3]:=⟨[.slice A0 x.f0.length c0],[.slice A1 x.f1.length c1,.slice A2 x.f2.length c2,.slice A3 x.f3.length c3],rfl,⟨A0,c0,rfl,l0,g0⟩,⟨[.slice A1 x.f1.length c1],[.slice A2 x.f2.length c2,.slice A3 x.f3.length c3],rfl,⟨A1,c1,rfl,l1,g1⟩,⟨[.slice A2 x.f2.length c2],[.slice A3 x.f3.length c3],rfl,⟨A2,c2,rfl,l2,g2⟩,⟨A3,c3,rfl,l3,g3⟩⟩⟩⟩
theorem k27_mkF (W:World)(ok:Nat->Prop)(x:S27){A0:Option Addr}{c0:Nat}(l0:x.f0.length<=c0)(g0:Kd.F k93 W ok A0 x.f0.length x.f0){A1:Option Addr}{c1:Nat}(l1:x.f1.length<=c1)(g1:Kd.F k55 W ok A1 x.f1.length x.f1){A2:Option Addr}{c2:Nat}(l2:x.f2.length<=c2)(g2:Kd.F k87 W ok A2 x.f2.length x.f2){A3:Option Addr}{c3:Nat}(l3:x.f3.length<=c3)(g3:Kd.F Kd.string W ok A3 x.f3.length x.f3):Kd.FK k27 W ok x [.slice A0 x.f0.length c0,.slice A1 x.f1.length c1,.slice A2 x.f2.length c2,.slice A3 x.f3.length c3]:=fun W2 hW=>k27_mk W2 x l0 (g0 W2 hW) l1 (g1 W2 hW) l2 (g2 W2 hW) l3 (g3 W2 hW)
def eh_ (xs:List S27)(i:Int):S27:=xs.getD i.toNat z27
theorem at_T27 {w:World}{A:Option Addr}{n:Nat}{xs:List S27}(h:Kd.C k27 w A n xs)(i:Int)(h0:0<=i)(h1:i<n): ∃ ad A0 c0 A1 c1 A2 c2 A3 c3,A=some ad∧w.cell? (ad.add (i.toNat*4))=some (.slice A0 (eh_ xs i).f0.length c0)∧w.cell? ⟨(ad.add (i.toNat*4)).block,(ad.add (i.toNat*4)).off+1,none⟩=some (.slice A1 (eh_ xs i).f1.length c1)∧w.cell? ⟨(ad.add (i.toNat*4)).block,(ad.add (i.toNat*4)).off+2,none⟩=some (.slice A2 (eh_ xs i).f2.length c2)∧w.cell? ⟨(ad.add (i.toNat*4)).block,(ad.add (i.toNat*4)).off+3,none⟩=some (.slice A3 (eh_ xs i).f3.length c3)∧(eh_ xs i).f0.length<=c0∧k93.C w A0 (eh_ xs i).f0.length (eh_ xs i).f0∧(eh_ xs i).f1.length<=c1∧k55.C w A1 (eh_ xs i).f1.length (eh_ xs i).f1∧(eh_ xs i).f2.length<=c2∧k87.C w A2 (eh_ xs i).f2.length (eh_ xs i).f2∧(eh_ xs i).f3.length<=c3∧Kd.string.C w A3 (eh_ xs i).f3.length (eh_ xs i).f3:=by
 obtain ⟨ad,c,e,_,hK,hc0⟩:=Kd.C_get h z27 i h0 h1;have hc: ∀ j u,c[j]? =some u->w.cell? (ad.add (i.toNat*4+j))=some u:=hc0;obtain ⟨A0,c0,A1,c1,A2,c2,A3,c3,rfl,l0,g0,l1,g1,l2,g2,l3,g3⟩:=k27_open hK;exact ⟨ad,A0,c0,A1,c1,A2,c2,A3,c3,e,hc 0 _ rfl,by rw [←ay_ _ _ 1 (by omega)];exact hc 1 _ rfl,by rw [←ay_ _ _ 2 (by omega)];exact hc 2 _ rfl,by rw [←ay_ _ _ 3 (by omega)];exact hc 3 _ rfl,l0,g0,l1,g1,l2,g2,l3,g3⟩
end K
namespace X
open ChangeShapes WideShapes Deep A K
section
variable {H:Type} (enc:TypeId × Value->H) (W:World) (base:Nat) (spare:Nat->Bool) (held:Bool)
def OpN {α:Type}(N:Nat)(d:Kd α)(t:Nat)(Q:α->Prop):Prop:= ∀ (fuel:Nat) (cs:List Value) (x:DataW H × List MemPlace),SizeOf.sizeOf x.1<=N->DataW.trod enc Tryz.prog W base spare held fuel t cs=some x->(∀ k∈x.1.weights Tryz.prog t,k<=reachBytes)-> ∃ y,d.K W y cs∧Q y
end
section
variable {H:Type} {enc:TypeId × Value->H} {W:World} {base:Nat} {spare:Nat->Bool} {held:Bool} {N:Nat}
theorem et_ (k:IntKind){t:Nat}(hu:Tryz.prog.underlying t=some (.int k)):OpN enc W base spare held N (Kd.int k) t (fun _=>True):=by
 intro fuel cs x hN hf hw;obtain ⟨n,rfl,_,_⟩:=DataW.trod_int hu hf;exact ⟨n,rfl,trivial⟩
theorem op_bool {t:Nat}(hu:Tryz.prog.underlying t=some .bool):OpN enc W base spare held N Kd.bool t (fun _=>True):=by
 intro fuel cs x hN hf hw;obtain ⟨n,rfl,_⟩:=DataW.trod_bool hu hf;exact ⟨n,rfl,trivial⟩
theorem gh_ {t:Nat}(hu:Tryz.prog.underlying t=some .string):OpN enc W base spare held N Kd.string t (fun s=>s.size<=140737488355328):=by
 intro fuel cs x hN hf hw;obtain ⟨s,rfl,rfl,hs⟩:=DataW.trod_string hu hf;refine ⟨s,rfl,?_⟩;have:=hw s.size (by simp [DataW.weights,hu]);have hr:reachBytes=140737488351232:=by decide
 omega
theorem er_ {α:Type}{d:Kd α}{Q:α->Prop}{t e B:Nat}(e':Nat)(hu:Tryz.prog.underlying t=some (.slice e))(hc:Tryz.prog.cellsOf e=d.sz)(hB:Tryz.prog.bytesOf e=B)(hB0:0<B)(hO:OpN enc W base spare held N d e Q):OpN enc W base spare held (N+1) (Kd.slice e' d) t (fun l=>l.length<=140737488355328∧ ∀ y∈l,Q y):=by
 intro fuel cs x hN hf hw;rcases open_slice hu hf with ⟨rfl,rfl⟩ | ⟨a,len,cap,m,n,D,Pl,rfl,hb,hl,hm,hmm,hx,hi⟩
 ·exact ⟨[],⟨none,0,rfl,Nat.le_refl _,Kd.C_nil _ _⟩,by simp,fun y hy=>by cases hy⟩
 ·have hlm:len<=m:=by rw [hmm];split <;> omega
  have hx1:x.1=.slice ((List.range len).map D) ((List.range (m - len)).map fun j=>D (len+j)):=by rw [hx]
  have hr:reachBytes=140737488351232:=by decide
  have hwt:(len+(m - len))*B<=140737488351232:=by
   have:=hw (((List.range len).map D).length+((List.range (m - len)).map fun j=>D (len+j)).length |> (· *Tryz.prog.bytesOf e)) (by rw [hx1];simp [DataW.weights,hu]);simp only [List.length_map,List.length_range,hB] at this;omega
  have hlen:len<=140737488355328:=by
   have h1:len*1<=(len+(m - len))*B:=Nat.mul_le_mul (by omega) hB0;omega
  obtain ⟨xs,hx2,hx3,hx4⟩:=C_of_cellsNQ (d:=d) Q (W:=W) (a:=a) (len:=len) (by omega) (fun i hil=>by
   obtain ⟨cs',h1,h2⟩:=hi i (by omega);rw [hc] at h1;obtain ⟨h3,h4,h5⟩:=World.cells?_some h1;have hmem:D i∈(List.range len).map D:=List.mem_map.2 ⟨i,List.mem_range.2 hil,rfl⟩;have hsz:SizeOf.sizeOf (D i)<=N:=by
    have h6:=List.sizeOf_lt_of_mem hmem;rw [hx1] at hN;simp only [DataW.slice.sizeOf_spec] at hN;omega
   obtain ⟨y,hy,hq⟩:=hO n cs' _ hsz h2 (fun k hk=>hw k (by
    rw [hx1];simp only [DataW.weights,hu,List.mem_cons,List.mem_append];exact .inr (.inl (gx_ hmem hk))))
   refine ⟨cs',y,d.K_len hy,hy,fun j u hu'=>?_,hq⟩;have hj:j<cs'.length:=(List.getElem?_eq_some_iff.1 hu').1;have:=h5 j (by rw [d.K_len hy] at hj;exact hj);rw [add_add] at this;exact this.trans hu')
  refine ⟨xs,⟨some a,cap,by rw [hx2],by omega,hx3⟩,by omega,hx4⟩
theorem op_field {α:Type}{d:Kd α}{Q:α->Prop}{t fuel:Nat}{fs:Array Field}{cs:List Value}{x:DataW H × List MemPlace}(hu:Tryz.prog.underlying t=some (.struct fs))(hf:DataW.trod enc Tryz.prog W base spare held fuel t cs=some x)(hw: ∀ k∈x.1.weights Tryz.prog t,k<=reachBytes)(hN:SizeOf.sizeOf x.1<=N+1)
  (i:Nat) (f:Field) (hi:fs[i]? =some f) (hO:OpN enc W base spare held N d f.type Q): ∃ y,d.K W y ((cs.drop f.offset).take (Tryz.prog.cellsOf f.type))∧Q y:=by
 obtain ⟨xs,n,_,rfl,hl,hlen,hfl⟩:=DataW.trod_struct hu hf;have h1:=hfl i f hi;have hi2:i<xs.length:=by rw [hlen];exact (Array.getElem?_eq_some_iff.1 hi).1
 rw [List.getElem?_eq_getElem hi2] at h1;have hmem:(xs[i]).1∈xs.map (·.1):=List.mem_map.2 ⟨xs[i],List.getElem_mem hi2,rfl⟩;refine hO n _ xs[i] ?_ h1 (fun k hk=>hw k ?_)
 ·have h6:=List.sizeOf_lt_of_mem hmem;simp only [DataW.agg.sizeOf_spec] at hN;omega
 ·simp only [DataW.weights,hu];refine DataW.weights_mem_each (j:=i) (t:=f.type) ?_ ?_ k hk
  ·rw [List.getElem?_map,Array.getElem?_toList,hi];rfl
  ·rw [List.getElem?_map,List.getElem?_eq_getElem hi2];rfl
theorem ed_ {t fuel:Nat}{fs:Array Field}{cs:List Value}{x:DataW H × List MemPlace}(hu:Tryz.prog.underlying t=some (.struct fs))(hf:DataW.trod enc Tryz.prog W base spare held fuel t cs=some x):cs.length=Tryz.prog.cellsOf t:=by
 obtain ⟨xs,n,_,rfl,hl,hlen,hfl⟩:=DataW.trod_struct hu hf;exact hl
theorem OpN.le {α:Type}{d:Kd α}{t M:Nat}{Q:α->Prop}(h:OpN enc W base spare held N d t Q)(hM:M<=N):OpN enc W base spare held M d t Q:=fun fuel cs x hx=>h fuel cs x (Nat.le_trans hx hM)
end
abbrev maxL:Nat:=140737488355328
inductive SmallP:S45->Prop
 | mk (p:S45) (h1:p.f1.length<=maxL) (h2:p.f2.length<=maxL) (h3:p.f3.length<=maxL) (hs: ∀ q∈p.f3,SmallP q):SmallP p
inductive SmallN:S85->Prop
 | mk (p:S85) (h1:p.f1.size<=maxL) (h4:p.f4.length<=maxL) (hs: ∀ q∈p.f4,SmallN q):SmallN p
def SmallR (r:S55):Prop:=SmallP r.f2∧SmallP r.f3
def SmallV (v:S93):Prop:=v.f0.size<=maxL∧SmallP v.f1
def SmallI (x:S87):Prop:=x.f1.size<=maxL∧SmallN x.f4∧SmallN x.f5
def SmallB (b:S27):Prop:=(b.f0.length<=maxL∧ ∀ v∈b.f0,SmallV v)∧(b.f1.length<=maxL∧ ∀ r∈b.f1,SmallR r)∧(b.f2.length<=maxL∧ ∀ x∈b.f2,SmallI x)∧(b.f3.length<=maxL∧ ∀ s∈b.f3,s.size<=maxL)
section
variable {H:Type} {enc:TypeId × Value->H} {W:World} {base:Nat} {spare:Nat->Bool} {held:Bool} {N:Nat}
theorem dp_ {α:Type}{d:Kd α}{Q:α->Prop}{t fuel:Nat}{fs:Array Field}{cs:List Value}{x:DataW H × List MemPlace}(hu:Tryz.prog.underlying t=some (.struct fs))(hf:DataW.trod enc Tryz.prog W base spare held fuel t cs=some x)(hw: ∀ k∈x.1.weights Tryz.prog t,k<=reachBytes)(hN:SizeOf.sizeOf x.1<=N+1)
  (i:Nat) (f:Field) (hi:fs[i]? =some f) (tf o s:Nat) (ht:f.type=tf) (ho:f.offset=o) (hs:Tryz.prog.cellsOf tf=s) (hO:OpN enc W base spare held N d tf Q): ∃ y,d.K W y ((cs.drop o).take s)∧Q y:=by
 subst ht ho hs;exact op_field hu hf hw hN i f hi hO
theorem op_74:OpN enc W base spare held (N+1) k74 74 (fun _=>True):=by
 intro fuel cs x hN hf hw;have hl:=ed_ Tryz.underlying74 hf;rw [show Tryz.prog.cellsOf 74=2 by kernel_rfl] at hl;obtain ⟨y0,h0,q0⟩:=dp_ (d:=(Kd.int .i64)) Tryz.underlying74 hf hw hN 0 _ rfl 3 0 1 rfl rfl (by kernel_rfl) (et_ .i64 Tryz.underlying3);obtain ⟨y1,h1,q1⟩:=dp_ (d:=(Kd.int .i64)) Tryz.underlying74 hf hw hN 1 _ rfl 3 1 1 rfl rfl (by kernel_rfl) (et_ .i64 Tryz.underlying3)
 match cs,hl,h0,h1 with
 | [c0,c1],_,h0,h1=>
  replace h0:(Kd.int .i64).K W y0 [c0]:=h0;replace h1:(Kd.int .i64).K W y1 [c1]:=h1;injection h0 with h0 _;injection h1 with h1 _;subst h0 h1;exact ⟨⟨y0,y1⟩,k74_mk W ⟨y0,y1⟩,trivial⟩
theorem op_37:OpN enc W base spare held (N+2) (Kd.slice 74 k74) 37 (fun l=>l.length<=maxL∧ ∀ y∈l,True):=er_ (B:=16) 74 Tryz.underlying37 (by kernel_rfl) (by kernel_rfl) (by decide) op_74
theorem op_42:OpN enc W base spare held (N+1) (Kd.slice 3 (Kd.int .i64)) 42 (fun l=>l.length<=maxL∧ ∀ y∈l,True):=er_ (B:=8) 3 Tryz.underlying42 (by kernel_rfl) (by kernel_rfl) (by decide) (et_ .i64 Tryz.underlying3)
theorem op_45: ∀ N,OpN enc W base spare held N k45 45 SmallP
 | 0=>by
  intro fuel cs x hN hf hw;obtain ⟨xs,n,_,rfl,_⟩:=DataW.trod_struct Tryz.underlying45 hf;simp at hN
 | 1=>by
  intro fuel cs x hN hf hw;have hk:OpN enc W base spare held 0 (Kd.slice 45 k45) 43 (fun l=>l.length<=maxL∧ ∀ y∈l,SmallP y):=OpN.le (er_ (B:=80) (N:=0) 45 Tryz.underlying43 (by kernel_rfl) (by kernel_rfl) (by decide) (op_45 0)) (by omega);have hl:=ed_ Tryz.underlying45 hf;rw [show Tryz.prog.cellsOf 45=4 by kernel_rfl] at hl;obtain ⟨y0,h0,q0⟩:=dp_ (d:=(Kd.int .i64)) Tryz.underlying45 hf hw hN 0 _ rfl 3 0 1 rfl rfl (by kernel_rfl) (et_ .i64 Tryz.underlying3);obtain ⟨y1,h1,q1⟩:=dp_ (d:=(Kd.slice 74 k74)) Tryz.underlying45 hf hw hN 1 _ rfl 37 1 1 rfl rfl (by kernel_rfl) (OpN.le (N:=2) op_37 (by omega));obtain ⟨y2,h2,q2⟩:=dp_ (d:=(Kd.slice 3 (Kd.int .i64))) Tryz.underlying45 hf hw hN 2 _ rfl 42 2 1 rfl rfl (by kernel_rfl) (OpN.le (N:=1) op_42 (by omega));obtain ⟨y3,h3,q3⟩:=dp_ (d:=(Kd.slice 45 k45)) Tryz.underlying45 hf hw hN 3 _ rfl 43 3 1 rfl rfl (by kernel_rfl) hk
  match cs,hl,h0,h1,h2,h3 with
  | [c0,c1,c2,c3],_,h0,h1,h2,h3=>
   replace h0:(Kd.int .i64).K W y0 [c0]:=h0;replace h1:(Kd.slice 74 k74).K W y1 [c1]:=h1;replace h2:(Kd.slice 3 (Kd.int .i64)).K W y2 [c2]:=h2;replace h3:(Kd.slice 45 k45).K W y3 [c3]:=h3;injection h0 with h0 _;subst h0;obtain ⟨A1,d1,e1,l1,g1⟩:=h1;obtain ⟨A2,d2,e2,l2,g2⟩:=h2;obtain ⟨A3,d3,e3,l3,g3⟩:=h3;injection e1 with e1 _;injection e2 with e2 _;injection e3 with e3 _;subst e1 e2 e3;exact ⟨⟨y0,y1,y2,y3⟩,kw_ W ⟨y0,y1,y2,y3⟩ l1 g1 l2 g2 l3 g3,⟨_,q1.1,q2.1,q3.1,q3.2⟩⟩
 | N+2=>by
  intro fuel cs x hN hf hw;have hk:OpN enc W base spare held (N+1) (Kd.slice 45 k45) 43 (fun l=>l.length<=maxL∧ ∀ y∈l,SmallP y):=er_ (B:=80) 45 Tryz.underlying43 (by kernel_rfl) (by kernel_rfl) (by decide) (op_45 N);have hl:=ed_ Tryz.underlying45 hf;rw [show Tryz.prog.cellsOf 45=4 by kernel_rfl] at hl;obtain ⟨y0,h0,q0⟩:=dp_ (d:=(Kd.int .i64)) Tryz.underlying45 hf hw hN 0 _ rfl 3 0 1 rfl rfl (by kernel_rfl) (et_ .i64 Tryz.underlying3);obtain ⟨y1,h1,q1⟩:=dp_ (d:=(Kd.slice 74 k74)) Tryz.underlying45 hf hw hN 1 _ rfl 37 1 1 rfl rfl (by kernel_rfl) (OpN.le (N:=N+2) op_37 (by omega));obtain ⟨y2,h2,q2⟩:=dp_ (d:=(Kd.slice 3 (Kd.int .i64))) Tryz.underlying45 hf hw hN 2 _ rfl 42 2 1 rfl rfl (by kernel_rfl) (OpN.le (N:=N+1) op_42 (by omega));obtain ⟨y3,h3,q3⟩:=dp_ (d:=(Kd.slice 45 k45)) Tryz.underlying45 hf hw hN 3 _ rfl 43 3 1 rfl rfl (by kernel_rfl) hk
  match cs,hl,h0,h1,h2,h3 with
  | [c0,c1,c2,c3],_,h0,h1,h2,h3=>
   replace h0:(Kd.int .i64).K W y0 [c0]:=h0;replace h1:(Kd.slice 74 k74).K W y1 [c1]:=h1;replace h2:(Kd.slice 3 (Kd.int .i64)).K W y2 [c2]:=h2;replace h3:(Kd.slice 45 k45).K W y3 [c3]:=h3;injection h0 with h0 _;subst h0;obtain ⟨A1,d1,e1,l1,g1⟩:=h1;obtain ⟨A2,d2,e2,l2,g2⟩:=h2;obtain ⟨A3,d3,e3,l3,g3⟩:=h3;injection e1 with e1 _;injection e2 with e2 _;injection e3 with e3 _;subst e1 e2 e3;exact ⟨⟨y0,y1,y2,y3⟩,kw_ W ⟨y0,y1,y2,y3⟩ l1 g1 l2 g2 l3 g3,⟨_,q1.1,q2.1,q3.1,q3.2⟩⟩
theorem op_85: ∀ N,OpN enc W base spare held N k85 85 SmallN
 | 0=>by
  intro fuel cs x hN hf hw;obtain ⟨xs,n,_,rfl,_⟩:=DataW.trod_struct Tryz.underlying85 hf;simp at hN
 | 1=>by
  intro fuel cs x hN hf hw;have hk:OpN enc W base spare held 0 (Kd.slice 85 k85) 83 (fun l=>l.length<=maxL∧ ∀ y∈l,SmallN y):=OpN.le (er_ (B:=64) (N:=0) 85 Tryz.underlying83 (by kernel_rfl) (by kernel_rfl) (by decide) (op_85 0)) (by omega);have hl:=ed_ Tryz.underlying85 hf;rw [show Tryz.prog.cellsOf 85=5 by kernel_rfl] at hl;obtain ⟨y0,h0,q0⟩:=dp_ (d:=(Kd.int .i64)) Tryz.underlying85 hf hw hN 0 _ rfl 3 0 1 rfl rfl (by kernel_rfl) (et_ .i64 Tryz.underlying3);obtain ⟨y1,h1,q1⟩:=dp_ (d:=Kd.string) Tryz.underlying85 hf hw hN 1 _ rfl 9 1 1 rfl rfl (by kernel_rfl) (gh_ Tryz.underlying9);obtain ⟨y2,h2,q2⟩:=dp_ (d:=(Kd.int .i64)) Tryz.underlying85 hf hw hN 2 _ rfl 3 2 1 rfl rfl (by kernel_rfl) (et_ .i64 Tryz.underlying3);obtain ⟨y3,h3,q3⟩:=dp_ (d:=(Kd.int .i64)) Tryz.underlying85 hf hw hN 3 _ rfl 3 3 1 rfl rfl (by kernel_rfl) (et_ .i64 Tryz.underlying3);obtain ⟨y4,h4,q4⟩:=dp_ (d:=(Kd.slice 85 k85)) Tryz.underlying85 hf hw hN 4 _ rfl 83 4 1 rfl rfl (by kernel_rfl) hk
  match cs,hl,h0,h1,h2,h3,h4 with
  | [c0,c1,c2,c3,c4],_,h0,h1,h2,h3,h4=>
   replace h0:(Kd.int .i64).K W y0 [c0]:=h0;replace h1:Kd.string.K W y1 [c1]:=h1;replace h2:(Kd.int .i64).K W y2 [c2]:=h2;replace h3:(Kd.int .i64).K W y3 [c3]:=h3;replace h4:(Kd.slice 85 k85).K W y4 [c4]:=h4;injection h0 with h0 _;injection h1 with h1 _;injection h2 with h2 _;injection h3 with h3 _;obtain ⟨A4,d4,e4,l4,g4⟩:=h4;injection e4 with e4 _;subst h0 h1 h2 h3 e4;exact ⟨⟨y0,y1,y2,y3,y4⟩,k85_mk W ⟨y0,y1,y2,y3,y4⟩ l4 g4,⟨_,q1,q4.1,q4.2⟩⟩
 | N+2=>by
  intro fuel cs x hN hf hw;have hk:OpN enc W base spare held (N+1) (Kd.slice 85 k85) 83 (fun l=>l.length<=maxL∧ ∀ y∈l,SmallN y):=er_ (B:=64) 85 Tryz.underlying83 (by kernel_rfl) (by kernel_rfl) (by decide) (op_85 N);have hl:=ed_ Tryz.underlying85 hf;rw [show Tryz.prog.cellsOf 85=5 by kernel_rfl] at hl;obtain ⟨y0,h0,q0⟩:=dp_ (d:=(Kd.int .i64)) Tryz.underlying85 hf hw hN 0 _ rfl 3 0 1 rfl rfl (by kernel_rfl) (et_ .i64 Tryz.underlying3);obtain ⟨y1,h1,q1⟩:=dp_ (d:=Kd.string) Tryz.underlying85 hf hw hN 1 _ rfl 9 1 1 rfl rfl (by kernel_rfl) (gh_ Tryz.underlying9);obtain ⟨y2,h2,q2⟩:=dp_ (d:=(Kd.int .i64)) Tryz.underlying85 hf hw hN 2 _ rfl 3 2 1 rfl rfl (by kernel_rfl) (et_ .i64 Tryz.underlying3);obtain ⟨y3,h3,q3⟩:=dp_ (d:=(Kd.int .i64)) Tryz.underlying85 hf hw hN 3 _ rfl 3 3 1 rfl rfl (by kernel_rfl) (et_ .i64 Tryz.underlying3);obtain ⟨y4,h4,q4⟩:=dp_ (d:=(Kd.slice 85 k85)) Tryz.underlying85 hf hw hN 4 _ rfl 83 4 1 rfl rfl (by kernel_rfl) hk
  match cs,hl,h0,h1,h2,h3,h4 with
  | [c0,c1,c2,c3,c4],_,h0,h1,h2,h3,h4=>
   replace h0:(Kd.int .i64).K W y0 [c0]:=h0;replace h1:Kd.string.K W y1 [c1]:=h1;replace h2:(Kd.int .i64).K W y2 [c2]:=h2;replace h3:(Kd.int .i64).K W y3 [c3]:=h3;replace h4:(Kd.slice 85 k85).K W y4 [c4]:=h4;injection h0 with h0 _;injection h1 with h1 _;injection h2 with h2 _;injection h3 with h3 _;obtain ⟨A4,d4,e4,l4,g4⟩:=h4;injection e4 with e4 _;subst h0 h1 h2 h3 e4;exact ⟨⟨y0,y1,y2,y3,y4⟩,k85_mk W ⟨y0,y1,y2,y3,y4⟩ l4 g4,⟨_,q1,q4.1,q4.2⟩⟩
theorem op_55:OpN enc W base spare held (N+1) k55 55 SmallR:=by
 intro fuel cs x hN hf hw;have hl:=ed_ Tryz.underlying55 hf;rw [show Tryz.prog.cellsOf 55=11 by kernel_rfl] at hl;obtain ⟨y0,h0,q0⟩:=dp_ (d:=(Kd.int .i64)) Tryz.underlying55 hf hw hN 0 _ rfl 3 0 1 rfl rfl (by kernel_rfl) (et_ .i64 Tryz.underlying3);obtain ⟨y1,h1,q1⟩:=dp_ (d:=Kd.bool) Tryz.underlying55 hf hw hN 1 _ rfl 4 1 1 rfl rfl (by kernel_rfl) (op_bool Tryz.underlying4);obtain ⟨y2,h2,q2⟩:=dp_ (d:=k45) Tryz.underlying55 hf hw hN 2 _ rfl 45 2 4 rfl rfl (by kernel_rfl) (op_45 _);obtain ⟨y3,h3,q3⟩:=dp_ (d:=k45) Tryz.underlying55 hf hw hN 3 _ rfl 45 6 4 rfl rfl (by kernel_rfl) (op_45 _);obtain ⟨y4,h4,q4⟩:=dp_ (d:=(Kd.int .i64)) Tryz.underlying55 hf hw hN 4 _ rfl 3 10 1 rfl rfl (by kernel_rfl) (et_ .i64 Tryz.underlying3)
 match cs,hl,h0,h1,h2,h3,h4 with
 | [c0,c1,c2,c3,c4,c5,c6,c7,c8,c9,c10],_,h0,h1,h2,h3,h4=>
  replace h0:(Kd.int .i64).K W y0 [c0]:=h0;replace h1:Kd.bool.K W y1 [c1]:=h1;replace h2:k45.K W y2 [c2,c3,c4,c5]:=h2;replace h3:k45.K W y3 [c6,c7,c8,c9]:=h3;replace h4:(Kd.int .i64).K W y4 [c10]:=h4;exact ⟨⟨y0,y1,y2,y3,y4⟩,⟨[c0],[c1,c2,c3,c4,c5,c6,c7,c8,c9,c10],rfl,h0,⟨[c1],[c2,c3,c4,c5,c6,c7,c8,c9,c10],rfl,h1,⟨[c2,c3,c4,c5],[c6,c7,c8,c9,c10],rfl,h2,⟨[c6,c7,c8,c9],[c10],rfl,h3,h4⟩⟩⟩⟩,q2,q3⟩
theorem op_93:OpN enc W base spare held (N+1) k93 93 SmallV:=by
 intro fuel cs x hN hf hw;have hl:=ed_ Tryz.underlying93 hf;rw [show Tryz.prog.cellsOf 93=7 by kernel_rfl] at hl;obtain ⟨y0,h0,q0⟩:=dp_ (d:=Kd.string) Tryz.underlying93 hf hw hN 0 _ rfl 9 0 1 rfl rfl (by kernel_rfl) (gh_ Tryz.underlying9);obtain ⟨y1,h1,q1⟩:=dp_ (d:=k45) Tryz.underlying93 hf hw hN 1 _ rfl 45 1 4 rfl rfl (by kernel_rfl) (op_45 _);obtain ⟨y2,h2,q2⟩:=dp_ (d:=Kd.bool) Tryz.underlying93 hf hw hN 2 _ rfl 4 5 1 rfl rfl (by kernel_rfl) (op_bool Tryz.underlying4);obtain ⟨y3,h3,q3⟩:=dp_ (d:=(Kd.int .i64)) Tryz.underlying93 hf hw hN 3 _ rfl 3 6 1 rfl rfl (by kernel_rfl) (et_ .i64 Tryz.underlying3)
 match cs,hl,h0,h1,h2,h3 with
 | [c0,c1,c2,c3,c4,c5,c6],_,h0,h1,h2,h3=>
  replace h0:Kd.string.K W y0 [c0]:=h0;replace h1:k45.K W y1 [c1,c2,c3,c4]:=h1;replace h2:Kd.bool.K W y2 [c5]:=h2;replace h3:(Kd.int .i64).K W y3 [c6]:=h3;exact ⟨⟨y0,y1,y2,y3⟩,⟨[c0],[c1,c2,c3,c4,c5,c6],rfl,h0,⟨[c1,c2,c3,c4],[c5,c6],rfl,h1,⟨[c5],[c6],rfl,h2,h3⟩⟩⟩,q0,q1⟩
theorem op_87:OpN enc W base spare held (N+1) k87 87 SmallI:=by
 intro fuel cs x hN hf hw;have hl:=ed_ Tryz.underlying87 hf;rw [show Tryz.prog.cellsOf 87=15 by kernel_rfl] at hl;obtain ⟨y0,h0,q0⟩:=dp_ (d:=(Kd.int .i64)) Tryz.underlying87 hf hw hN 0 _ rfl 3 0 1 rfl rfl (by kernel_rfl) (et_ .i64 Tryz.underlying3);obtain ⟨y1,h1,q1⟩:=dp_ (d:=Kd.string) Tryz.underlying87 hf hw hN 1 _ rfl 9 1 1 rfl rfl (by kernel_rfl) (gh_ Tryz.underlying9);obtain ⟨y2,h2,q2⟩:=dp_ (d:=(Kd.int .i64)) Tryz.underlying87 hf hw hN 2 _ rfl 3 2 1 rfl rfl (by kernel_rfl) (et_ .i64 Tryz.underlying3);obtain ⟨y3,h3,q3⟩:=dp_ (d:=Kd.bool) Tryz.underlying87 hf hw hN 3 _ rfl 4 3 1 rfl rfl (by kernel_rfl) (op_bool Tryz.underlying4);obtain ⟨y4,h4,q4⟩:=dp_ (d:=k85) Tryz.underlying87 hf hw hN 4 _ rfl 85 4 5 rfl rfl (by kernel_rfl) (op_85 _);obtain ⟨y5,h5,q5⟩:=dp_ (d:=k85) Tryz.underlying87 hf hw hN 5 _ rfl 85 9 5 rfl rfl (by kernel_rfl) (op_85 _);obtain ⟨y6,h6,q6⟩:=dp_ (d:=(Kd.int .i64)) Tryz.underlying87 hf hw hN 6 _ rfl 3 14 1 rfl rfl (by kernel_rfl) (et_ .i64 Tryz.underlying3)
 match cs,hl,h0,h1,h2,h3,h4,h5,h6 with
 | [c0,c1,c2,c3,c4,c5,c6,c7,c8,c9,c10,c11,c12,c13,c14],_,h0,h1,h2,h3,h4,h5,h6=>
  replace h0:(Kd.int .i64).K W y0 [c0]:=h0;replace h1:Kd.string.K W y1 [c1]:=h1;replace h2:(Kd.int .i64).K W y2 [c2]:=h2;replace h3:Kd.bool.K W y3 [c3]:=h3;replace h4:k85.K W y4 [c4,c5,c6,c7,c8]:=h4;replace h5:k85.K W y5 [c9,c10,c11,c12,c13]:=h5;replace h6:(Kd.int .i64).K W y6 [c14]:=h6;exact ⟨⟨y0,y1,y2,y3,y4,y5,y6⟩,⟨[c0],[c1,c2,c3,c4,c5,c6,c7,c8,c9,c10,c11,c12,c13,c14],rfl,h0,⟨[c1],[c2,c3,c4,c5,c6,c7,c8,c9,c10,c11,c12,c13,c14],rfl,h1,⟨[c2],[c3,c4,c5,c6,c7,c8,c9,c10,c11,c12,c13,c14],rfl,h2,⟨[c3],[c4,c5,c6,c7,c8,c9,c10,c11,c12,c13,c14],rfl,h3,⟨[c4,c5,c6,c7,c8],[c9,c10,c11,c12,c13,c14],rfl,h4,⟨[c9,c10,c11,c12,c13],[c14],rfl,h5,h6⟩⟩⟩⟩⟩⟩,q1,q4,q5⟩
theorem op_22:OpN enc W base spare held (N+2) (Kd.slice 93 k93) 22 (fun l=>l.length<=maxL∧ ∀ y∈l,SmallV y):=er_ (B:=112) 93 Tryz.underlying22 (by kernel_rfl) (by kernel_rfl) (by decide) op_93
theorem op_23:OpN enc W base spare held (N+2) (Kd.slice 55 k55) 23 (fun l=>l.length<=maxL∧ ∀ y∈l,SmallR y):=er_ (B:=184) 55 Tryz.underlying23 (by kernel_rfl) (by kernel_rfl) (by decide) op_55
theorem op_24:OpN enc W base spare held (N+2) (Kd.slice 87 k87) 24 (fun l=>l.length<=maxL∧ ∀ y∈l,SmallI y):=er_ (B:=176) 87 Tryz.underlying24 (by kernel_rfl) (by kernel_rfl) (by decide) op_87
theorem op_25:OpN enc W base spare held (N+1) (Kd.slice 9 Kd.string) 25 (fun l=>l.length<=maxL∧ ∀ s∈l,s.size<=maxL):=er_ (B:=16) 9 Tryz.underlying25 (by kernel_rfl) (by kernel_rfl) (by decide) (gh_ Tryz.underlying9)
theorem op_27:OpN enc W base spare held (N+1) k27 27 SmallB:=by
 intro fuel cs x hN hf hw;have hl:=ed_ Tryz.underlying27 hf;rw [show Tryz.prog.cellsOf 27=4 by kernel_rfl] at hl;obtain ⟨y0,h0,q0⟩:=dp_ (d:=(Kd.slice 93 k93)) Tryz.underlying27 hf hw hN 0 _ rfl 22 0 1 rfl rfl (by kernel_rfl) (OpN.le (N:=N+2) op_22 (by omega));obtain ⟨y1,h1,q1⟩:=dp_ (d:=(Kd.slice 55 k55)) Tryz.underlying27 hf hw hN 1 _ rfl 23 1 1 rfl rfl (by kernel_rfl) (OpN.le (N:=N+2) op_23 (by omega));obtain ⟨y2,h2,q2⟩:=dp_ (d:=(Kd.slice 87 k87)) Tryz.underlying27 hf hw hN 2 _ rfl 24 2 1 rfl rfl (by kernel_rfl) (OpN.le (N:=N+2) op_24 (by omega));obtain ⟨y3,h3,q3⟩:=dp_ (d:=(Kd.slice 9 Kd.string)) Tryz.underlying27 hf hw hN 3 _ rfl 25 3 1 rfl rfl (by kernel_rfl) (OpN.le (N:=N+1) op_25 (by omega))
 match cs,hl,h0,h1,h2,h3 with
 | [c0,c1,c2,c3],_,h0,h1,h2,h3=>
  replace h0:(Kd.slice 93 k93).K W y0 [c0]:=h0;replace h1:(Kd.slice 55 k55).K W y1 [c1]:=h1;replace h2:(Kd.slice 87 k87).K W y2 [c2]:=h2;replace h3:(Kd.slice 9 Kd.string).K W y3 [c3]:=h3;exact ⟨⟨y0,y1,y2,y3⟩,⟨[c0],[c1,c2,c3],rfl,h0,⟨[c1],[c2,c3],rfl,h1,⟨[c2],[c3],rfl,h2,h3⟩⟩⟩,q0,q1,q2,q3⟩
theorem kn_ {ts:List TypeId}{ds:List (DataW H)}{j t:Nat}{d:DataW H}(hsz:(DataW.weightsEach Tryz.prog ts ds).all (· <=reachBytes)=true)(ht:ts[j]? =some t)(hd:ds[j]? =some d): ∀ k∈d.weights Tryz.prog t,k<=reachBytes:=fun k hk=>by
 have:=List.all_eq_true.1 hsz _ (DataW.weights_mem_each ht hd k hk);simpa using this
theorem open_ints {r:Reach}{b0:Nat}{v:Value}{d:DataW H}{p:List MemPlace}{ts:List TypeId}{ds:List (DataW H)}{j:Nat}(hsz:(DataW.weightsEach Tryz.prog ts ds).all (· <=reachBytes)=true)(ht:ts[j]? =some 42)(hd:ds[j]? =some d)(hv:Value.okWide Tryz.prog W r b0 42 v)(h:DataW.Trod enc Tryz.prog W base spare held 42 v d p):
  ∃ (A:Option Addr) (c:Nat) (l:List Int),v=.slice A l.length c∧l.length<=c∧Kd.C (Kd.int .i64) W A l.length l∧l.length<=maxL:=by
 obtain ⟨a,len,cap,rfl⟩:=okWide_slice Tryz.underlying42 hv;obtain ⟨fuel,hf⟩:=h;obtain ⟨l,⟨A,c,e,hc,hC⟩,hq⟩:=op_42 (enc:=enc) (N:=SizeOf.sizeOf d) fuel [.slice a len cap] (d,p) (by show SizeOf.sizeOf d<=_;omega) (by simpa [Value.cells] using hf) (kn_ hsz ht hd);injection e with e _;exact ⟨A,c,l,e,hc,hC,hq.1⟩
theorem open_book {v:Value}{d:DataW H}{p:List MemPlace}{ts:List TypeId}{ds:List (DataW H)}{j:Nat}(hsz:(DataW.weightsEach Tryz.prog ts ds).all (· <=reachBytes)=true)(ht:ts[j]? =some 27)(hd:ds[j]? =some d)(hv: ∃ cs:Array Value,v=.agg cs)(h:DataW.Trod enc Tryz.prog W base spare held 27 v d p):
  ∃ (x:S27) (A0:Option Addr) (c0:Nat) (A1:Option Addr) (c1:Nat) (A2:Option Addr) (c2:Nat) (A3:Option Addr) (c3:Nat),v=.agg #[.slice A0 x.f0.length c0,.slice A1 x.f1.length c1,.slice A2 x.f2.length c2,.slice A3 x.f3.length c3]∧x.f0.length<=c0∧k93.C W A0 x.f0.length x.f0∧x.f1.length<=c1∧k55.C W A1 x.f1.length x.f1∧x.f2.length<=c2∧k87.C W A2 x.f2.length x.f2∧x.f3.length<=c3∧Kd.string.C W A3 x.f3.length x.f3∧SmallB x:=by
 obtain ⟨cs,rfl⟩:=hv;obtain ⟨fuel,hf⟩:=h;obtain ⟨x,hK,hq⟩:=op_27 (enc:=enc) (N:=SizeOf.sizeOf d) fuel cs.toList (d,p) (by show SizeOf.sizeOf d<=_;omega) (by simpa [Value.cells] using hf) (kn_ hsz ht hd);obtain ⟨A0,c0,A1,c1,A2,c2,A3,c3,e,l0,g0,l1,g1,l2,g2,l3,g3⟩:=k27_open hK;exact ⟨x,A0,c0,A1,c1,A2,c2,A3,c3,by rw [←e],l0,g0,l1,g1,l2,g2,l3,g3,hq⟩
end
end X
namespace K
open A
attribute [local go_sem] ct_ cq_ dh_ dg_ ch_ cg_ cr_ cp_
mutual
def as_.l0:Nat->Int->Int->Int->Int->List (S74)->List Int->List (S45)->Option (Int)
 | 0,_,_,_,_,_,_,_=>none
 | k+1,x1,x5,x6,x193000,x193001,x193002,x193003=>if x6<(x193003.length:Int) then (if x5<=2000 then (if 0<=x6 then ((as_.f k ((cf_ x193003 x6).f0) ((cf_ x193003 x6).f1) ((cf_ x193003 x6).f2) ((cf_ x193003 x6).f3) (wrap64 (x1+1))).bind fun t194=>(as_.l0 k x1 (wrap64 (x5+t194)) (wrap64 (x6+1)) x193000 x193001 x193002 x193003)) else (none)) else (some x5)) else (some x5)
def as_.f:Nat->Int->List (S74)->List Int->List (S45)->Int->Option (Int)
 | 0,_,_,_,_,_=>none
 | k+1,a0_0,l0_1,l0_2,l0_3,a1=>if a1>100 then (some 3000) else (as_.l0 k a1 (wrap64 ((wrap64 (1+(l0_1.length:Int)))+(l0_2.length:Int))) 0 a0_0 l0_1 l0_2 l0_3)
end
theorem as_.calls (k:Nat): ∀ (a0_0:Int) (A0_1:Option Addr) (c0_1:Nat) (l0_1:List (S74)) (A0_2:Option Addr) (c0_2:Nat) (l0_2:List Int) (A0_3:Option Addr) (c0_3:Nat) (l0_3:List (S45)) (a1:Int) (r:Int) (w:World) (hr0_1:Kd.C k74 w A0_1 l0_1.length l0_1) (hc0_1:l0_1.length<=c0_1) (hr0_2:Kd.C (Kd.int .i64) w A0_2 l0_2.length l0_2) (hc0_2:l0_2.length<=c0_2) (hr0_3:Kd.C k45 w A0_3 l0_3.length l0_3) (hc0_3:l0_3.length<=c0_3) (h:as_.f k a0_0 l0_1 l0_2 l0_3 a1=some r),
  Calls Tryz.prog 17 #[.agg #[.int .i64 a0_0,.slice A0_1 l0_1.length c0_1,.slice A0_2 l0_2.length c0_2,.slice A0_3 l0_3.length c0_3],.int .i64 a1] w fun e w'=>e=.returned (.int .i64 r)∧Below w.heap.size w w':=by
 induction k using Nat.strongRecOn with
 | _ k ih=>
 intro a0_0 A0_1 c0_1 l0_1 A0_2 c0_2 l0_2 A0_3 c0_3 l0_3 a1 r w hr0_1 hc0_1 hr0_2 hc0_2 hr0_3 hc0_3 h;cases k with
 | zero=>exact absurd h (by simp [as_.f])
 | succ k=>
 simp only [as_.f] at h;have hu45:=Tryz.underlying45;have HR0_1:=Sd.m hr0_1;have HC0_1:=Sd.m hc0_1;clear hr0_1 hc0_1;have HR0_2:=Sd.m hr0_2;have HC0_2:=Sd.m hc0_2;clear hr0_2 hc0_2;have HR0_3:=Sd.m hr0_3;have HC0_3:=Sd.m hc0_3;clear hr0_3 hc0_3;have HB:=Sd.m (Below.refl w.heap.size w);have H:(if a1>100 then (some 3000) else (as_.l0 k a1 (wrap64 ((wrap64 (1+(l0_1.length:Int)))+(l0_2.length:Int))) 0 a0_0 l0_1 l0_2 l0_3))=some r:=h;clear h;by_cases c3:a1>100
 ·rw [if_pos c3] at H;have c3b0:=dt__ c3;clear c3;obtain rfl:=Option.some.inj H;go_enter Tryz.func17,Tryz.ntmps17;go_wp2_with (first | ((with_reducible refine co_ (N:=2) rfl ?_);refine di_ ?hg (N:=2) ?hd (cs:=#[.int .i64 a0_0,.slice A0_1 l0_1.length c0_1,.slice A0_2 l0_2.length c0_2,.slice A0_3 l0_3.length c0_3]) (t:=45) ?hr ?_;(case hd=>rfl);(case hg=>rfl);(case hr=>first | (go_simp;done) | (go_simp;rfl));intro gb192 hg w4 hbox hb;have n0_:=Sd.m (av_ rb_ hb);have n1_:=Sd.m (hbox);have n2_:=Sd.m ((by rw [hg];exact (ap_ rb_):w.heap.size<=gb192));have n3_:=Sd.m ((by rw [hg];exact (ap_ rb_):w.heap.size<=gb192));clear HB;have HB:=n0_;have BK192:=n1_;have GW192:=n2_;have GE192:=n3_;clear n0_ n1_ n2_ n3_;clear hb hbox hg;have hcz5_0:w4.cell? ⟨gb192,0,none⟩=some (.int .i64 a0_0):=(af_ BK192.out 0).trans rfl;have hcz5_1:w4.cell? ⟨gb192,1,none⟩=some (.slice A0_1 l0_1.length c0_1):=(af_ BK192.out 1).trans rfl;have hcz5_2:w4.cell? ⟨gb192,2,none⟩=some (.slice A0_2 l0_2.length c0_2):=(af_ BK192.out 2).trans rfl;have hcz5_3:w4.cell? ⟨gb192,3,none⟩=some (.slice A0_3 l0_3.length c0_3):=(af_ BK192.out 3).trans rfl;have hfz5_0:=aa_ BK192.out 0;have hfz5_1:=aa_ BK192.out 1;have hfz5_2:=aa_ BK192.out 2;have hfz5_3:=aa_ BK192.out 3));go_ret;exact ⟨re_,by repeat (first | (with_reducible first | exact HB.out | apply ab_ | apply ad_ | apply au_ | refine bb_ ?_ GE192.out) | exact HB.out)⟩
 ·rw [if_neg c3] at H;have c3b0:=df__ c3;clear c3;have H':=Sd.m H;clear H;go_enter Tryz.func17,Tryz.ntmps17;go_wp2_with (first | ((with_reducible refine co_ (N:=2) rfl ?_);refine di_ ?hg (N:=2) ?hd (cs:=#[.int .i64 a0_0,.slice A0_1 l0_1.length c0_1,.slice A0_2 l0_2.length c0_2,.slice A0_3 l0_3.length c0_3]) (t:=45) ?hr ?_;(case hd=>rfl);(case hg=>rfl);(case hr=>first | (go_simp;done) | (go_simp;rfl));intro gb192 hg w6 hbox hb;have n0_:=Sd.m (av_ rb_ hb);have n1_:=Sd.m (hbox);have n2_:=Sd.m ((by rw [hg];exact (ap_ rb_):w.heap.size<=gb192));have n3_:=Sd.m ((by rw [hg];exact (ap_ rb_):w.heap.size<=gb192));clear HB;have HB:=n0_;have BK192:=n1_;have GW192:=n2_;have GE192:=n3_;clear n0_ n1_ n2_ n3_;clear hb hbox hg;have hcz7_0:w6.cell? ⟨gb192,0,none⟩=some (.int .i64 a0_0):=(af_ BK192.out 0).trans rfl;have hcz7_1:w6.cell? ⟨gb192,1,none⟩=some (.slice A0_1 l0_1.length c0_1):=(af_ BK192.out 1).trans rfl;have hcz7_2:w6.cell? ⟨gb192,2,none⟩=some (.slice A0_2 l0_2.length c0_2):=(af_ BK192.out 2).trans rfl;have hcz7_3:w6.cell? ⟨gb192,3,none⟩=some (.slice A0_3 l0_3.length c0_3):=(af_ BK192.out 3).trans rfl;have hfz7_0:=aa_ BK192.out 0;have hfz7_1:=aa_ BK192.out 1;have hfz7_2:=aa_ BK192.out 2;have hfz7_3:=aa_ BK192.out 3))
  go_loopg [5,6] k (fun kq v5 v6 w'=> ∃ (x5_1:Int) (x6_1:Int),v5=.int .i64 x5_1∧v6=.int .i64 x6_1∧Sd (as_.l0 kq a1 x5_1 x6_1 a0_0 l0_1 l0_2 l0_3=some r)∧Sd (kq<=k)∧Sd (w'.heap[gb192]? =some (.cells #[.int .i64 a0_0,(.slice A0_1 l0_1.length c0_1),(.slice A0_2 l0_2.length c0_2),(.slice A0_3 l0_3.length c0_3)] 45 (0,0)))∧Sd (Below w.heap.size w w'))
  case atStart=>exact ⟨(wrap64 ((wrap64 (1+(l0_1.length:Int)))+(l0_2.length:Int))),(0),ri_,ri_,H',⟨Nat.le_refl _⟩,⟨by (with_reducible repeat (first | refine ba_ ?_ _ | refine bl_ ?_ | refine am_ ?_ _));exact BK192.out⟩,⟨by repeat (first | (with_reducible first | exact HB.out | apply ab_ | apply ad_ | apply au_ | refine bb_ ?_ GE192.out) | exact HB.out)⟩⟩
  case round=>
   clear H';obtain ⟨x5_1,x6_1,rfl,rfl,HA,HK1,BK192,HB⟩:=hrel;cases gk with
   | zero=>exact absurd HA.out (by simp [as_.l0])
   | succ k1=>
    have H:=HA.out;clear HA;simp only [as_.l0] at H;by_cases c8:x6_1<(l0_3.length:Int)
    ·rw [if_pos c8] at H;have c8b0:=dt__ c8;clear c8;by_cases c9:x5_1<=2000
     ·rw [if_pos c9] at H;have c9b0:=dt__ c9;clear c9;by_cases c10:0<=x6_1
      ·rw [if_pos c10] at H;have c10b0:=dt__ c10;clear c10;replace H:=Option.bind_eq_some_iff.mp H;obtain ⟨t194,A110,H⟩:=H;replace H:(as_.l0 k1 a1 (wrap64 (x5_1+t194)) (wrap64 (x6_1+1)) a0_0 l0_1 l0_2 l0_3)=some r:=H;have A11:=Sd.m A110;clear A110;have H':=Sd.m H;clear H;have hcz12_0:=bc_ BK192.out 0 rfl;have hcz12_1:=bc_ BK192.out 1 rfl;have hcz12_2:=bc_ BK192.out 2 rfl;have hcz12_3:=bc_ BK192.out 3 rfl;have hfz12_0:=aa_ BK192.out 0;have hfz12_1:=aa_ BK192.out 1;have hfz12_2:=aa_ BK192.out 2;have hfz12_3:=aa_ BK192.out 3;have p193:0<=(x6_1:Int):=od_;have q193:x6_1<(l0_3.length:Int):=od_;obtain ⟨ad193,A193_1,c193_1,A193_2,c193_2,A193_3,c193_3,e193,hx193_0,hx193_1,hx193_2,hx193_3,hl193_1,hi193_1,hl193_2,hi193_2,hl193_3,hi193_3⟩:=ki_ HR0_3.out x6_1 p193 q193;cases e193;replace hx193_0:=(HB.out.cell (bl__ w _ hx193_0)).trans hx193_0;replace hx193_1:=(HB.out.cell (bl__ w _ hx193_1)).trans hx193_1;replace hx193_2:=(HB.out.cell (bl__ w _ hx193_2)).trans hx193_2;replace hx193_3:=(HB.out.cell (bl__ w _ hx193_3)).trans hx193_3;have HR193_1:=Sd.m hi193_1;have HC193_1:=Sd.m hl193_1;clear hi193_1 hl193_1;have HR193_2:=Sd.m hi193_2;have HC193_2:=Sd.m hl193_2;clear hi193_2 hl193_2;have HR193_3:=Sd.m hi193_3;have HC193_3:=Sd.m hl193_3;clear hi193_3 hl193_3;replace p193:=eq_true p193;replace q193:=eq_true q193;go_wp2_with (first | ((with_reducible refine bv_ (f:=17) rfl ?_);refine goesL_ (some 36) rfl rfl Tryz.func17 (by kernel_rfl) rfl #[.agg #[.int .i64 ((cf_ l0_3 x6_1).f0),.slice A193_1 ((cf_ l0_3 x6_1).f1).length c193_1,.slice A193_2 ((cf_ l0_3 x6_1).f2).length c193_2,.slice A193_3 ((cf_ l0_3 x6_1).f3).length c193_3],.int .i64 (wrap64 (a1+1))] rfl gl_ ?_;(with_reducible refine (ih k1 (by have:=HK1.out;omega) ((cf_ l0_3 x6_1).f0) _ _ ((cf_ l0_3 x6_1).f1) _ _ ((cf_ l0_3 x6_1).f2) _ _ ((cf_ l0_3 x6_1).f3) (wrap64 (a1+1)) t194 _ ?side1 ?side2 ?side3 ?side4 ?side5 ?side6 A11.out).mono ?_);(case side1=>exact cs_ (Kd.C_below HR193_1.out HB.out));(case side2=>exact HC193_1.out);(case side3=>exact cs_ (Kd.C_below HR193_2.out HB.out));(case side4=>exact HC193_2.out);(case side5=>exact cs_ (Kd.C_below HR193_3.out HB.out));(case side6=>exact HC193_3.out);rintro e w13 ⟨rfl,hb⟩;refine ⟨_,rfl,?_⟩;have n0_:=Sd.m (ag_ (g:=gb192) (o:=.cells #[.int .i64 a0_0,.slice A0_1 l0_1.length c0_1,.slice A0_2 l0_2.length c0_2,.slice (some ad193) l0_3.length c0_3] 45 (0,0)) (by (with_reducible repeat (first | refine ba_ ?_ _ | refine bl_ ?_ | refine am_ ?_ _));exact BK192.out) hb);have n1_:=Sd.m (av_ (by repeat (first | (with_reducible first | exact HB.out | apply ab_ | apply ad_ | apply au_ | refine bb_ ?_ GE192.out) | exact HB.out)) hb);clear BK192;clear HB;have BK192:=n0_;have HB:=n1_;clear n0_ n1_;(try clear hb);(try clear hb2);(try clear hk);(try clear hi)))
       go_roundg k1
       case measure=>have:=HK1.out;omega
       case rel=>exact ⟨(wrap64 (x5_1+t194)),(wrap64 (x6_1+1)),ri_,ri_,H',⟨by have:=HK1.out;omega⟩,⟨by (with_reducible repeat (first | refine ba_ ?_ _ | refine bl_ ?_ | refine am_ ?_ _));exact BK192.out⟩,⟨by repeat (first | (with_reducible first | exact HB.out | apply ab_ | apply ad_ | apply au_ | refine bb_ ?_ GE192.out) | exact HB.out)⟩⟩
      ·rw [if_neg c10] at H;exact absurd H (by simp)
     ·rw [if_neg c9] at H;have c9b0:=df__ c9;clear c9;obtain rfl:=Option.some.inj H;have hcz14_0:=bc_ BK192.out 0 rfl;have hcz14_1:=bc_ BK192.out 1 rfl;have hcz14_2:=bc_ BK192.out 2 rfl;have hcz14_3:=bc_ BK192.out 3 rfl;have hfz14_0:=aa_ BK192.out 0;have hfz14_1:=aa_ BK192.out 1;have hfz14_2:=aa_ BK192.out 2;have hfz14_3:=aa_ BK192.out 3;go_wp2;go_ret;exact ⟨re_,by repeat (first | (with_reducible first | exact HB.out | apply ab_ | apply ad_ | apply au_ | refine bb_ ?_ GE192.out) | exact HB.out)⟩
    ·rw [if_neg c8] at H;have c8b0:=df__ c8;clear c8;obtain rfl:=Option.some.inj H;have hcz15_0:=bc_ BK192.out 0 rfl;have hcz15_1:=bc_ BK192.out 1 rfl;have hcz15_2:=bc_ BK192.out 2 rfl;have hcz15_3:=bc_ BK192.out 3 rfl;have hfz15_0:=aa_ BK192.out 0;have hfz15_1:=aa_ BK192.out 1;have hfz15_2:=aa_ BK192.out 2;have hfz15_3:=aa_ BK192.out 3;go_wp2;go_ret;exact ⟨re_,by repeat (first | (with_reducible first | exact HB.out | apply ab_ | apply ad_ | apply au_ | refine bb_ ?_ GE192.out) | exact HB.out)⟩
end K
end Go.Proofs.YthfceiincmkccaaGreat
namespace Go.Proofs
open Go.Shelf
def Tryz.sortStep_ren:Go.Shelf.Ren:=⟨fun | 6=>139 | 15=>116 | 14=>171 | 28=>153 | 29=>154 | 20=>188 | 21=>189 | 22=>190 | 23=>191 | 24=>192 | 25=>193 | 26=>194 | 27=>195 | 46=>202 | 47=>173 | 48=>174 | 49=>203 | 50=>204 | 57=>207 | n=>n,fun | 22=>169 | 24=>173 | 25=>174 | 3=>3 | 39=>147 | 0=>0 | 53=>186 | 55=>188 | 4=>4 | 46=>179 | 45=>178 | 50=>183 | 5=>5 | 9=>9 | 66=>199 | 70=>203 | 76=>215 | 77=>190 | n=>n,fun | n=>n⟩
theorem Tryz.sortStep:Go.Proofs.SlLaysF0.n6 Tryz.prog Tryz.sortStep_ren:={
 mixed:=by kernel_rfl
 f6:=⟨Tryz.f139.name,by decide,Tryz.func139.trans (congrArg some (by kernel_rfl))⟩
 f14:=⟨Tryz.f171.name,by decide,Tryz.func171.trans (congrArg some (by kernel_rfl))⟩
 f15:=Tryz.func116.trans (congrArg some (by kernel_rfl))
 f20:=⟨Tryz.f188.name,by decide,Tryz.func188.trans (congrArg some (by kernel_rfl))⟩
 f21:=⟨Tryz.f189.name,by decide,Tryz.func189.trans (congrArg some (by kernel_rfl))⟩
 f22:=⟨Tryz.f190.name,by decide,Tryz.func190.trans (congrArg some (by kernel_rfl))⟩
 f23:=⟨Tryz.f191.name,by decide,Tryz.func191.trans (congrArg some (by kernel_rfl))⟩
 f24:=⟨Tryz.f192.name,by decide,Tryz.func192.trans (congrArg some (by kernel_rfl))⟩
 f25:=⟨Tryz.f193.name,by decide,Tryz.func193.trans (congrArg some (by kernel_rfl))⟩
 f26:=⟨Tryz.f194.name,by decide,Tryz.func194.trans (congrArg some (by kernel_rfl))⟩
 f27:=⟨Tryz.f195.name,by decide,Tryz.func195.trans (congrArg some (by kernel_rfl))⟩
 f28:=Tryz.func153.trans (congrArg some (by kernel_rfl))
 f29:=Tryz.func154.trans (congrArg some (by kernel_rfl))
 f46:=⟨Tryz.f202.name,by decide,Tryz.func202.trans (congrArg some (by kernel_rfl))⟩
 f47:=Tryz.func173.trans (congrArg some (by kernel_rfl))
 f48:=Tryz.func174.trans (congrArg some (by kernel_rfl))
 f49:=⟨Tryz.f203.name,by decide,Tryz.func203.trans (congrArg some (by kernel_rfl))⟩
 f50:=⟨Tryz.f204.name,by decide,Tryz.func204.trans (congrArg some (by kernel_rfl))⟩
 f57:=⟨Tryz.f207.name,by decide,Tryz.func207.trans (congrArg some (by kernel_rfl))⟩
 t0:=Tryz.underlying0
 a0:=Tryz.isAgg0
 z0:=Tryz.sizeOf0
 v0:=Tryz.zeroValue0
 t3:=Tryz.underlying3
 a3:=Tryz.isAgg3
 z3:=Tryz.sizeOf3
 v3:=Tryz.zeroValue3
 t4:=Tryz.underlying4
 a4:=Tryz.isAgg4
 z4:=Tryz.sizeOf4
 v4:=Tryz.zeroValue4
 t5:=Tryz.underlying5
 a5:=Tryz.isAgg5
 z5:=Tryz.sizeOf5
 v5:=Tryz.zeroValue5
 t9:=Tryz.underlying9
 a9:=Tryz.isAgg9
 z9:=Tryz.sizeOf9
 v9:=Tryz.zeroValue9
 t22:=Tryz.underlying169
 a22:=Tryz.isAgg169
 z22:=Tryz.sizeOf169
 v22:=Tryz.zeroValue169
 t25:=Tryz.underlying174
 a25:=Tryz.isAgg174
 z25:=Tryz.sizeOf174
 v25:=Tryz.zeroValue174
 t39:=Tryz.underlying147
 a39:=Tryz.isAgg147
 z39:=Tryz.sizeOf147
 v39:=Tryz.zeroValue147
 t45:=Tryz.underlying178
 a45:=Tryz.isAgg178
 z45:=Tryz.sizeOf178
 v45:=Tryz.zeroValue178
 t46:=Tryz.underlying179
 a46:=Tryz.isAgg179
 z46:=Tryz.sizeOf179
 v46:=Tryz.zeroValue179
 t50:=Tryz.underlying183
 a50:=Tryz.isAgg183
 z50:=Tryz.sizeOf183
 v50:=Tryz.zeroValue183
 t53:=Tryz.underlying186
 a53:=Tryz.isAgg186
 z53:=Tryz.sizeOf186
 v53:=Tryz.zeroValue186
 t55:=Tryz.underlying188
 a55:=Tryz.isAgg188
 z55:=Tryz.sizeOf188
 v55:=Tryz.zeroValue188
 t66:=Tryz.underlying199
 a66:=Tryz.isAgg199
 z66:=Tryz.sizeOf199
 v66:=Tryz.zeroValue199
 t70:=Tryz.underlying203
 a70:=Tryz.isAgg203
 z70:=Tryz.sizeOf203
 v70:=Tryz.zeroValue203
 t76:=Tryz.underlying215
 a76:=Tryz.isAgg215
 z76:=Tryz.sizeOf215
 v76:=Tryz.zeroValue215
 t77:=Tryz.underlying190
 a77:=Tryz.isAgg190
 z77:=Tryz.sizeOf190
 v77:=Tryz.zeroValue190 }
def Tryz.sortRows_ren:Go.Shelf.Ren:=⟨fun | 6=>78 | 15=>116 | 14=>115 | 28=>153 | 29=>154 | 20=>145 | 21=>146 | 22=>147 | 23=>148 | 24=>149 | 25=>150 | 26=>151 | 27=>152 | 46=>172 | 47=>173 | 48=>174 | 49=>175 | 50=>176 | 57=>196 | n=>n,fun | 22=>30 | 24=>37 | 25=>111 | 3=>3 | 39=>147 | 0=>0 | 53=>186 | 55=>188 | 4=>4 | 46=>179 | 45=>178 | 50=>183 | 5=>5 | 9=>9 | 66=>199 | 70=>203 | 76=>215 | 77=>190 | n=>n,fun | n=>n⟩
theorem Tryz.sortRows:Go.Proofs.SlLaysF.n6 Tryz.prog Tryz.sortRows_ren:={
 mixed:=by kernel_rfl
 f6:=⟨Tryz.f78.name,by decide,Tryz.func78.trans (congrArg some (by kernel_rfl))⟩
 f14:=⟨Tryz.f115.name,by decide,Tryz.func115.trans (congrArg some (by kernel_rfl))⟩
 f15:=Tryz.func116.trans (congrArg some (by kernel_rfl))
 f20:=⟨Tryz.f145.name,by decide,Tryz.func145.trans (congrArg some (by kernel_rfl))⟩
 f21:=⟨Tryz.f146.name,by decide,Tryz.func146.trans (congrArg some (by kernel_rfl))⟩
 f22:=⟨Tryz.f147.name,by decide,Tryz.func147.trans (congrArg some (by kernel_rfl))⟩
 f23:=⟨Tryz.f148.name,by decide,Tryz.func148.trans (congrArg some (by kernel_rfl))⟩
 f24:=⟨Tryz.f149.name,by decide,Tryz.func149.trans (congrArg some (by kernel_rfl))⟩
 f25:=⟨Tryz.f150.name,by decide,Tryz.func150.trans (congrArg some (by kernel_rfl))⟩
 f26:=⟨Tryz.f151.name,by decide,Tryz.func151.trans (congrArg some (by kernel_rfl))⟩
 f27:=⟨Tryz.f152.name,by decide,Tryz.func152.trans (congrArg some (by kernel_rfl))⟩
 f28:=Tryz.func153.trans (congrArg some (by kernel_rfl))
 f29:=Tryz.func154.trans (congrArg some (by kernel_rfl))
 f46:=⟨Tryz.f172.name,by decide,Tryz.func172.trans (congrArg some (by kernel_rfl))⟩
 f47:=Tryz.func173.trans (congrArg some (by kernel_rfl))
 f48:=Tryz.func174.trans (congrArg some (by kernel_rfl))
 f49:=⟨Tryz.f175.name,by decide,Tryz.func175.trans (congrArg some (by kernel_rfl))⟩
 f50:=⟨Tryz.f176.name,by decide,Tryz.func176.trans (congrArg some (by kernel_rfl))⟩
 f57:=⟨Tryz.f196.name,by decide,Tryz.func196.trans (congrArg some (by kernel_rfl))⟩
 t0:=Tryz.underlying0
 a0:=Tryz.isAgg0
 z0:=Tryz.sizeOf0
 v0:=Tryz.zeroValue0
 t3:=Tryz.underlying3
 a3:=Tryz.isAgg3
 z3:=Tryz.sizeOf3
 v3:=Tryz.zeroValue3
 t4:=Tryz.underlying4
 a4:=Tryz.isAgg4
 z4:=Tryz.sizeOf4
 v4:=Tryz.zeroValue4
 t5:=Tryz.underlying5
 a5:=Tryz.isAgg5
 z5:=Tryz.sizeOf5
 v5:=Tryz.zeroValue5
 t9:=Tryz.underlying9
 a9:=Tryz.isAgg9
 z9:=Tryz.sizeOf9
 v9:=Tryz.zeroValue9
 t22:=Tryz.underlying30
 a22:=Tryz.isAgg30
 z22:=Tryz.sizeOf30
 v22:=Tryz.zeroValue30
 a24:=Tryz.isAgg37
 z24:=Tryz.sizeOf37
 t25:=Tryz.underlying111
 a25:=Tryz.isAgg111
 z25:=Tryz.sizeOf111
 v25:=Tryz.zeroValue111
 t39:=Tryz.underlying147
 a39:=Tryz.isAgg147
 z39:=Tryz.sizeOf147
 v39:=Tryz.zeroValue147
 t45:=Tryz.underlying178
 a45:=Tryz.isAgg178
 z45:=Tryz.sizeOf178
 v45:=Tryz.zeroValue178
 t46:=Tryz.underlying179
 a46:=Tryz.isAgg179
 z46:=Tryz.sizeOf179
 v46:=Tryz.zeroValue179
 t50:=Tryz.underlying183
 a50:=Tryz.isAgg183
 z50:=Tryz.sizeOf183
 v50:=Tryz.zeroValue183
 t53:=Tryz.underlying186
 a53:=Tryz.isAgg186
 z53:=Tryz.sizeOf186
 v53:=Tryz.zeroValue186
 t55:=Tryz.underlying188
 a55:=Tryz.isAgg188
 z55:=Tryz.sizeOf188
 v55:=Tryz.zeroValue188
 t66:=Tryz.underlying199
 a66:=Tryz.isAgg199
 z66:=Tryz.sizeOf199
 v66:=Tryz.zeroValue199
 t70:=Tryz.underlying203
 a70:=Tryz.isAgg203
 z70:=Tryz.sizeOf203
 v70:=Tryz.zeroValue203
 t76:=Tryz.underlying215
 a76:=Tryz.isAgg215
 z76:=Tryz.sizeOf215
 v76:=Tryz.zeroValue215
 t77:=Tryz.underlying190
 a77:=Tryz.isAgg190
 z77:=Tryz.sizeOf190
 v77:=Tryz.zeroValue190 }
end Go.Proofs
namespace Go.Proofs.YthfceiincmkccaaGreat
namespace A
attribute [local go_sem] ct_ cq_ dh_ dg_ ch_ cg_ cr_ cp_
theorem eqA74 (d:Nat)(w:World)(x0 y0:Int)(x1 y1:Int):
  (Op.equalIn (d+2) 74 (.agg #[.int .i64 x0,.int .i64 x1]) (.agg #[.int .i64 y0,.int .i64 y1])).run Tryz.prog w=.ok (x0 == y0 && (x1 == y1)) w:=by
 refine eqA_of Tryz.underlying74 (by kernel_rfl) ?_;refine eqf_cons (by rfl) (by go_simp;rfl) (by go_simp;rfl) (by go_simp) ?_;exact eqf_last (by rfl) (by go_simp;rfl) (by go_simp;rfl) (by go_simp)
end A
end Go.Proofs.YthfceiincmkccaaGreat
