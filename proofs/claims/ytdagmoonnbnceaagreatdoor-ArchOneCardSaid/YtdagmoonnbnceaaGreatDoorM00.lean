/- Parts of the proof of ArchOne: Lib. -/
import Derived.WalkKit
import Derived.WalkSpells
import Derived.WalkLawsBesides
import Derived.Lib.AppendStr
import Derived.Deep.RegionWith
import Derived.Deep.RegionLaw
import Derived.Deep.QuietTactic
import Derived.BigQuiet
import Derived.Deep.DeepCutAuto
import Derived.Deep.CutBlock
import Derived.Deep.CutRange
import Derived.Deep.RegionHeld3
import Derived.StillTailTactics
set_option linter.unusedVariables false
set_option linter.unusedSectionVars false
set_option linter.unusedSimpArgs false
set_option maxHeartbeats 8000000
namespace Go.Fk
open Go.RowKit
abbrev S(l:List UInt8):Value:=.string ⟨l.toArray⟩
abbrev u8(c:UInt8):Value:=.int .u8 c.toNat
abbrev N(n:Nat):Value:=.int .i64 n
theorem extract_from(l:List UInt8)(n m:Nat)(h:l.length<=m):(⟨l.toArray⟩:ByteArray).extract n m=⟨(l.drop n).toArray⟩:=by
 rw [ByteArray.extract_mk,List.take_of_length_le (by simp;omega)]
theorem heap_new(w:World)(o:Obj)(n:Nat)(h:n=w.heap.size):(w.alloc o).heap[n]? = some o:=by subst h;exact heap_alloc_new w o
theorem heap_old(w:World)(o:Obj)(n:Nat)(h:n<w.heap.size):(w.alloc o).heap[n]? = w.heap[n]?:=Below.heap_alloc w o n h
theorem size_alloc(w:World)(o:Obj):(w.alloc o).heap.size=w.heap.size+1:=by simp
def strLen:Value->Nat | .string b=>b.size | _=>0
theorem hid{p:Prop}(h:p):Hid p:=h
def Fr(w w':World):Prop:=Below w.heap.size w w'
theorem Fr.refl(w:World):Fr w w:=Below.refl _ _
theorem Fr.trans{a b c:World}(h:Fr a b)(k:Fr b c):Fr a c:=Below.trans h (Below.mono k h.size)
theorem Fr.drew{a w:World}(h:Fr a w):Fr a w.drew:=Below.drew h
theorem Fr.alloc{a w:World}(h:Fr a w)(o:Obj):Fr a (w.alloc o):=Below.alloc h h.size o
theorem Fr.size{a w:World}(h:Fr a w):a.heap.size<=w.heap.size:=Below.size h
theorem Fr.cell{w w':World}(h:Fr w w'){p:Addr}{v:Value}(hp:w.cell? p=some v):w'.cell? p=some v:=
 (Below.cell h (World.block_lt_of_cell? w p hp)).trans hp
theorem Fr.heap{w w':World}(h:Fr w w'){b:Nat}{o:Obj}(hp:w.heap[b]? = some o):w'.heap[b]? = some o:=
 (Below.block h b (Array.getElem?_eq_some_iff.1 hp).1).trans hp
theorem Fr.below{B:Nat}{a w w':World}(h:Below B a w)(hB:B<=w.heap.size)(k:Fr w w'):Below B a w':=Below.trans h (Below.mono k hB)
theorem Fr.grown{B:Nat}{a w w':World}{row:Option Nat}(h:Below B a w)(hg:w.grownBy w' row)(hB:B<=w.heap.size)(hr:∀ k,row=some k->B<=k):Below B a w':=Below.grown h hg hB hr
theorem Fr.own{a w w':World}{row:Option Nat}(h:Fr a w)(hg:w.grownBy w' row)(hr:∀ k,row=some k->a.heap.size<=k):Fr a w':=Below.grown h hg h.size hr
def Qt(w w':World):Prop:=∃ n,w'=w.drewN n
theorem Qt.refl(w:World):Qt w w:=⟨0,rfl⟩
theorem Qt.trans{a b c:World}(h:Qt a b)(k:Qt b c):Qt a c:=by
 obtain⟨n,rfl⟩:=h
 obtain⟨m,rfl⟩:=k
 exact⟨n+m,World.drewN_drewN a n m⟩
theorem Qt.drewN(w:World)(n:Nat):Qt w (w.drewN n):=⟨n,rfl⟩
theorem Qt.fr{w w':World}(h:Qt w w'):Fr w w':=by
 obtain⟨n,rfl⟩:=h
 exact below_drewN (Below.refl _ _) n
theorem Fr.drewN{a w:World}(h:Fr a w)(n:Nat):Fr a (w.drewN n):=below_drewN h n
structure Chg (G:Nat->Prop) (w w':World):Prop where
 os:w'.os=w.os
 tape:w'.tape=w.tape
 output:w'.output=w.output
 size:w.heap.size<=w'.heap.size
 block:∀ k,k<w.heap.size->¬G k->w'.heap[k]? = w.heap[k]?
theorem Chg.refl(G:Nat->Prop)(w:World):Chg G w w:=⟨rfl,rfl,rfl,Nat.le_refl _,fun _ _ _=>rfl⟩
theorem Fr.chg{w w':World}(h:Fr w w')(G:Nat->Prop):Chg G w w':=⟨Below.os h,Below.tape h,Below.output h,Below.size h,fun k hk _=>Below.block h k hk⟩
theorem grown_chg{w w':World}{row:Option Nat}(h:w.grownBy w' row):Chg (fun k=>row=some k) w w':=⟨h.os,h.tape,h.output,h.size,fun k hk hr=>h.block k hk (fun e=>hr e.symm)⟩
theorem Chg.mono{G G':Nat->Prop}{w w':World}(h:Chg G w w')(hg:∀ k,k<w.heap.size->G k->G' k):Chg G' w w':=⟨h.os,h.tape,h.output,h.size,fun k hk hn=>h.block k hk (fun g=>hn (hg k hk g))⟩
theorem Chg.trans{G G':Nat->Prop}{a b c:World}(h:Chg G a b)(k:Chg G' b c)(hg:∀ i,i<a.heap.size->G' i->G i):Chg G a c:=
 ⟨k.os.trans h.os,k.tape.trans h.tape,k.output.trans h.output,Nat.le_trans h.size k.size,fun i hi hn=>(k.block i (Nat.lt_of_lt_of_le hi h.size) (fun g=>hn (hg i hi g))).trans (h.block i hi hn)⟩
theorem Chg.fr{G:Nat->Prop}{w w':World}(h:Chg G w w')(hg:∀ k,k<w.heap.size->¬G k):Fr w w':=⟨h.os,h.tape,h.output,h.size,fun k hk=>h.block k hk (hg k hk)⟩
theorem Chg.below{G:Nat->Prop}{B:Nat}{a w w':World}(h:Below B a w)(k:Chg G w w')(hB:B<=w.heap.size)(hg:∀ i,G i->B<=i):Below B a w':=
 Below.trans h ⟨k.os,k.tape,k.output,k.size,fun i hi=>k.block i (Nat.lt_of_lt_of_le hi hB) (fun g=>by have:=hg i g;omega)⟩
theorem Chg.heap{G:Nat->Prop}{w w':World}(h:Chg G w w'){b:Nat}{o:Obj}(hb:w.heap[b]? = some o)(hn:¬G b):w'.heap[b]? = some o:=
 (h.block b (Array.getElem?_eq_some_iff.1 hb).1 hn).trans hb
theorem cell_of_heap{w:World}{b:Nat}{cs:Array Value}{T:TypeId}{f:Nat × Nat}(h:w.heap[b]? = some (.cells cs T f))(i:Nat):w.cell? ⟨b,i,none⟩=cs[i]?:=by simp [World.cell?,h]
theorem frozen_of_heap{w:World}{b:Nat}{cs:Array Value}{T:TypeId}(h:w.heap[b]? = some (.cells cs T (0,0)))(i:Nat):w.frozen? ⟨b,i,none⟩=false:=by simp [World.frozen?,h]
theorem heap_setCell_own{w:World}{b:Nat}{cs:Array Value}{T:TypeId}{f:Nat × Nat}(h:w.heap[b]? = some (.cells cs T f))(i:Nat)(u:Value):(w.setCell ⟨b,i,none⟩ u).heap[b]? = some (.cells (cs.setIfInBounds i u) T f):=by
 simp [World.setCell,Array.getElem?_modify,h]
theorem setCell_chg(w:World)(a:Addr)(u:Value):Chg (fun k=>k=a.block) w (w.setCell a u):=
 ⟨rfl,rfl,rfl,by simp [World.setCell],fun k _ hn=>Below.heap_setCell _ _ _ _ hn⟩
theorem drew_chg(G:Nat->Prop)(w:World)(n:Nat):Chg G w (w.drewN n):=(Fr.drewN (Fr.refl w) n).chg G
def Sees(w:World)(k:Nat)(v:Value)(n:Nat)(xs:List Value):Prop:=
 xs.length = n * k ∧ ∃ a cap, v = .slice a n cap ∧ n ≤ cap ∧ cap ≤ maxLen ∧ (a = none → n = 0 ∧ cap = 0) ∧
  (n=0\/∃ b off,a=some ⟨b,off,none⟩/\∀ j u,xs[j]? = some u->w.cell? ⟨b,off+j,none⟩=some u)
theorem Sees.nil(w:World)(k:Nat):Sees w k (.slice none 0 0) 0 []:=
 ⟨by simp,none,0,rfl,Nat.le_refl _,Nat.zero_le _,fun _=>⟨rfl,rfl⟩,.inl rfl⟩
theorem Sees.fr{w w':World}{k:Nat}{v:Value}{n:Nat}{xs:List Value}(h:Sees w k v n xs)(hf:Fr w w'):Sees w' k v n xs:=by
 obtain⟨h1,a,cap,hv,h2,h3,h5,h4⟩:=h
 refine⟨h1,a,cap,hv,h2,h3,h5,?_⟩
 rcases h4 with h4 | ⟨b,off,ha,h4⟩
 · exact .inl h4
 · exact .inr ⟨b,off,ha,fun j u hj=>hf.cell (h4 j u hj)⟩
theorem Sees.drew{w:World}{k:Nat}{v:Value}{n:Nat}{xs:List Value}(h:Sees w k v n xs):Sees w.drew k v n xs:=h
theorem Sees.len{w:World}{k:Nat}{v:Value}{n:Nat}{xs:List Value}(h:Sees w k v n xs):n<=maxLen:=by
 obtain⟨_,a,cap,_,h2,h3,_⟩:=h;omega
theorem _root_.Go.World.ownsRow.sees{w:World}{base:Nat}{e:TypeId}{k:Nat}{v:Value}{n:Nat}{xs:List Value}(h:w.ownsRow base e k v n xs):Sees w k v n xs:=by
 obtain⟨h1,h2⟩:=h
 refine⟨h1,?_⟩
 rcases h2 with⟨hv,rfl⟩ | ⟨g,cap,cur,hv,hb,hg,hn,hc,hs,ht⟩
 · exact⟨none,0,hv,Nat.le_refl _,Nat.zero_le _,fun _=>⟨rfl,rfl⟩,.inl rfl⟩
 · refine⟨_,cap,hv,hn,hc,by simp,.inr ⟨g,0,rfl,fun j u hj=>?_⟩⟩
   have hd:w.cell? ⟨g,0+j,none⟩=cur[j]?:=by
    rw [Nat.zero_add];exact cell_of_row w g j cur e (0,0) hg
   rw [hd]
   rw [<- ht,List.getElem?_take]at hj
   split at hj
   · simpa using hj
   · cases hj
theorem ownsRow_fr{w w':World}{base:Nat}{e:TypeId}{k:Nat}{v:Value}{n:Nat}{xs:List Value}(h:w.ownsRow base e k v n xs)(hf:Fr w w'):w'.ownsRow base e k v n xs:=by
 obtain⟨h1,h2⟩:=h
 refine⟨h1,?_⟩
 rcases h2 with h2 | ⟨g,cap,cur,hv,hb,hg,r⟩
 · exact .inl h2
 · exact .inr ⟨g,cap,cur,hv,hb,hf.heap hg,r⟩
theorem ownsRow_base{w:World}{base base':Nat}{e:TypeId}{k:Nat}{v:Value}{n:Nat}{xs:List Value}(h:w.ownsRow base e k v n xs)(hb:base'<=base):w.ownsRow base' e k v n xs:=by
 obtain⟨h1,h2⟩:=h
 refine⟨h1,?_⟩
 rcases h2 with h2 | ⟨g,cap,cur,hv,hb,hg,r⟩
 · exact .inl h2
 · exact .inr ⟨g,cap,cur,hv,by omega,hg,r⟩
section
variable {P:Program}
def Appended(base:Nat)(e:TypeId)(k:Nat)(n:Nat)(xs:List Value)(w:World)(v v':Value)(w':World):Prop:=
 w'.ownsRow base e k v' n xs/\w.grownBy w' v.ownBlock/\(∀ b,v'.ownBlock=some b->v.ownBlock=some b\/w.heap.size<=b)
theorem run_append_fresh(w:World)(base:Nat)(t ty e:TypeId)(i:TypeInfo)(z:Value)(size bytes:Nat)(ht:P.underlying t=some (.slice e))(hi:P.info? e=some i)(hz:i.zero=some z)
  (hsize:i.size=size) (hby:i.bytes=bytes) (hzs:z.cells.size=size) (hsz:0<size)
  (v:Value) (n:Nat) (xs:List Value) (hown:w.ownsRow base e size v n xs)
  (a:Addr) (m c:Nat) (news:List Value) (hl:news.length=m*size) (hnews:∀ j u,news[j]? = some u->w.cell? (a.add j)=some u) (h1:∀ u∈news,u.oneCell'=true)
  (h63:n+m<=maxLen) (hbytes:(n+m)*bytes<=140737488355328) (hbase:base<=w.heap.size) :
  ∃ v' w',(Builtin.append_ #[t,t] ty #[v,.slice (some a) m c]).run P w=.ok v' w'/\Appended base e size (n+m) (xs++news) w v v' w':=by
 rcases hown.2 with⟨rfl,rfl⟩ | ⟨g,cap,cur,rfl,hbg,hg,hnc,hcm,hcs,htake⟩
 · have hx:xs=[]:=List.eq_nil_of_length_eq_zero (by simpa using hown.1)
   subst hx
   obtain⟨v',w',hr,h2,h3,h4⟩:=run_append_own (P:=P) w w.heap.size t ty e i z size bytes ht hi hz hsize hby hzs hsz (.slice none 0 0) 0 [] (World.ownsRow_nil w _ e size) a m c news hl hnews h1 h63 hbytes (Nat.le_refl _)
   exact⟨v',w',hr,ownsRow_base h2 hbase,h3,fun b hb=>.inr (h2.lt b hb).1⟩
 · by_cases hroom:n+m<=cap
   · obtain⟨w',hr,h2,h3⟩:=run_append_fits (P:=P) w base t ty e i size ht hi hsize g n cap xs hown a m c news hl hnews h1 hroom
     exact⟨_,w',hr,h2,h3,fun b hb=>.inl hb⟩
   · have holds:∀ j u,xs[j]? = some u->w.cell? ((⟨g,0,none⟩:Addr).add j)=some u:=hown.cells (g:=g) rfl
     obtain⟨v',w',hr,h2,h3⟩:=run_append_arg_grows (P:=P) w t ty e i z size bytes ht hi hz hsize hby hzs hsz ⟨g,0,none⟩ n cap xs hown.1 holds a m c news hl hnews (by omega) h63 hbytes
     exact⟨v',w',hr,ownsRow_base h2 hbase,⟨h3.os,h3.tape,h3.output,h3.size,fun k hk _=>h3.block k hk (by simp)⟩,fun b hb=>.inr (h2.lt b hb).1⟩
theorem run_append_seen(w:World)(base:Nat)(t ty e:TypeId)(i:TypeInfo)(z:Value)(size bytes:Nat)(ht:P.underlying t=some (.slice e))(hi:P.info? e=some i)(hz:i.zero=some z)
  (hsize:i.size=size) (hby:i.bytes=bytes) (hzs:z.cells.size=size) (hsz:0<size)
  (v:Value) (n:Nat) (xs:List Value) (hown:w.ownsRow base e size v n xs)
  (x:Value) (m:Nat) (news:List Value) (hsee:Sees w size x m news) (h1:∀ u∈news,u.oneCell'=true)
  (h63:n+m<=maxLen) (hbytes:(n+m)*bytes<=140737488355328) (hbase:base<=w.heap.size) :
  ∃ v' w',(Builtin.append_ #[t,t] ty #[v,x]).run P w=.ok v' w'/\Appended base e size (n+m) (xs++news) w v v' w':=by
 obtain⟨hl,a,cap,rfl,hn,hc,hnone,hcell⟩:=hsee
 cases a with
 | none=>
  obtain⟨rfl,rfl⟩:=hnone rfl
  obtain rfl:news=[]:=List.eq_nil_of_length_eq_zero (by simpa using hl)
  have hr:=run_append_owned_none (P:=P) (w:=w) base t ty e i size ht hi v n xs hown
  exact⟨v,w,hr,by simpa using hown,⟨rfl,rfl,rfl,Nat.le_refl _,fun _ _ _=>rfl⟩,fun b hb=>.inl hb⟩
 | some a=>
  refine run_append_fresh w base t ty e i z size bytes ht hi hz hsize hby hzs hsz v n xs hown a m cap news hl ?_ h1 h63 hbytes hbase
  intro j u hj
  rcases hcell with rfl | ⟨b,off,hab,hcell⟩
  · obtain rfl:news=[]:=List.eq_nil_of_length_eq_zero (by simpa using hl)
    simp at hj
  · obtain rfl:=Option.some.inj hab
    rw [Addr.add_lit]
    exact hcell j u hj
structure Elt (P:Program) (α:Type) where
 e:TypeId
 k:Nat
 bytes:Nat
 zero:α
 z:Value
 enc:α->List Value
 info:(P.info? e).map (fun i=>(i.zero,i.size,i.bytes))=some (some z,k,bytes)
 pos:0<k
 small:bytes<=64
 zs:z.cells.toList=enc zero
 len:∀ x,(enc x).length=k
 one:∀ x,∀ u∈enc x,u.oneCell'=true
def Elt.cells{α:Type}(E:Elt P α)(l:List α):List Value:=(l.map E.enc).flatten
theorem Elt.length_cells{α:Type}(E:Elt P α)(l:List α):(E.cells l).length=l.length*E.k:=by
 induction l with
 | nil=>simp [Elt.cells]
 | cons x l ih=>
  have:E.cells (x::l)=E.enc x++E.cells l:=by simp [Elt.cells]
  rw [this,List.length_append,ih,E.len,List.length_cons,Nat.add_mul,Nat.one_mul,Nat.add_comm]
theorem Elt.cells_append{α:Type}(E:Elt P α)(l l':List α):E.cells (l++l')=E.cells l++E.cells l':=by simp [Elt.cells]
theorem Elt.cells_mem{α:Type}(E:Elt P α)(l:List α):∀ u∈E.cells l,u.oneCell'=true:=by
 intro u hu
 simp only [Elt.cells,List.mem_flatten,List.mem_map]at hu
 obtain⟨_,⟨x,_,rfl⟩,hu⟩:=hu
 exact E.one x u hu
theorem Elt.cells_at{α:Type}(E:Elt P α):∀ (l:List α) (i:Nat) (h:i<l.length) (j:Nat),j<E.k->(E.cells l)[i*E.k+j]? = (E.enc l[i])[j]?:=by
 intro l
 induction l with
 | nil=>intro i h;simp at h
 | cons x l ih=>
  intro i h j hj
  have e:E.cells (x::l)=E.enc x++E.cells l:=by simp [Elt.cells]
  cases i with
  | zero=>
   rw [e,List.getElem?_append_left (by rw [E.len];omega)]
   simp
  | succ i=>
   rw [e,List.getElem?_append_right (by rw [E.len,Nat.add_mul];omega),E.len]
   have:(i+1)*E.k+j - E.k=i*E.k+j:=by rw [Nat.add_mul];omega
   rw [this]
   exact ih i (by simpa using h) j hj
def See{α:Type}(w:World)(E:Elt P α)(v:Value)(l:List α):Prop:=Sees w E.k v l.length (E.cells l)
def Ow{α:Type}(w:World)(base:Nat)(E:Elt P α)(v:Value)(l:List α):Prop:=w.ownsRow base E.e E.k v l.length (E.cells l)
section
variable {α:Type} {E:Elt P α} {w w':World} {v v':Value} {l l':List α} {base:Nat}
theorem See.nil:See w E (.slice none 0 0) []:=Sees.nil w E.k
theorem See.fr(h:See w E v l)(hf:Fr w w'):See w' E v l:=Sees.fr h hf
theorem See.drew(h:See w E v l):See w.drew E v l:=h
theorem Ow.nil:Ow w base E (.slice none 0 0) []:=World.ownsRow_nil _ _ _ _
theorem Ow.see(h:Ow w base E v l):See w E v l:=World.ownsRow.sees h
theorem Ow.fr(h:Ow w base E v l)(hf:Fr w w'):Ow w' base E v l:=ownsRow_fr h hf
theorem Ow.rebase(h:Ow w base E v l){b:Nat}(hb:b<=base):Ow w b E v l:=ownsRow_base h hb
theorem Ow.drew(h:Ow w base E v l):Ow w.drew base E v l:=h
theorem Ow.kept{row:Option Nat}(h:Ow w base E v l)(hg:w.grownBy w' row)(hne:v.ownBlock=none\/v.ownBlock≠row):Ow w' base E v l:=World.ownsRow.kept h hg hne
theorem Ow.chg{G:Nat->Prop}(h:Ow w base E v l)(hg:Chg G w w')(hne:∀ k,v.ownBlock=some k->¬G k):Ow w' base E v l:=by
 obtain⟨h1,h2⟩:=h
 refine⟨h1,?_⟩
 rcases h2 with h2 | ⟨g,cap,cur,hv,hb,hgg,r⟩
 · exact .inl h2
 · exact .inr ⟨g,cap,cur,hv,hb,hg.heap hgg (hne g (by rw [hv];rfl)),r⟩
theorem Ow.ne_cells(h:Ow w base E v l){b:Nat}{cs:Array Value}{T:TypeId}{f:Nat × Nat}(hb:w.heap[b]? = some (.cells cs T f))(hT:T≠E.e):v.ownBlock≠some b:=by
 intro e
 rcases h.2 with⟨hv,_⟩ | ⟨g,cap,cur,hv,_,hgg,_⟩
 · rw [hv]at e;cases e
 · rw [hv]at e
   simp only [Value.ownBlock,Option.some.injEq]at e
   subst e
   rw [hgg]at hb
   simp only [Option.some.injEq,Obj.cells.injEq]at hb
   exact hT hb.2.1.symm
theorem Ow.shape(h:Ow w base E v l):∃ a n cap,v=.slice a n cap:=by
 rcases h.2 with⟨hv,_⟩ | ⟨g,cap,cur,hv,_⟩
 · exact⟨_,_,_,hv⟩
 · exact⟨_,_,_,hv⟩
theorem Ow.shape'(h:Ow w base E v l):∃ a cap,v=.slice a l.length cap:=by
 rcases h.2 with⟨hv,hn⟩ | ⟨g,cap,cur,hv,_⟩
 · exact⟨none,0,by rw [hv,hn]⟩
 · exact⟨_,_,hv⟩
theorem Ow.lt(h:Ow w base E v l):∀ k,v.ownBlock=some k->base<=k/\k<w.heap.size:=World.ownsRow.lt h
theorem See.le(h:See w E v l):l.length<=maxLen:=Sees.len h
theorem See.shape(h:See w E v l):∃ a cap,v=.slice a l.length cap/\l.length<=cap/\cap<=maxLen/\(a=none->l=[]/\cap=0):=by
 obtain⟨_,a,cap,hv,h2,h3,h5,_⟩:=h
 exact⟨a,cap,hv,h2,h3,fun e=>⟨List.eq_nil_of_length_eq_zero (h5 e).1,(h5 e).2⟩⟩
theorem See.cells(h:See w E v l)(hp:l≠[]):∃ b off cap,v=.slice (some ⟨b,off,none⟩) l.length cap/\l.length<=cap/\cap<=maxLen /\
  ∀ i (hi:i<l.length) j,j<E.k->∀ u,(E.enc l[i])[j]? = some u->w.cell? ⟨b,off+(i*E.k+j),none⟩=some u:=by
 obtain⟨_,a,cap,hv,h2,h3,h5,h4⟩:=h
 have:l.length≠0:=by simpa using hp
 rcases h4 with h4 | ⟨b,off,rfl,h4⟩
 · exact absurd h4 this
 · exact⟨b,off,cap,hv,h2,h3,fun i hi j hj u hu=>h4 _ u (by rw [E.cells_at l i hi j hj];exact hu)⟩
theorem See.at1(h:See w E v l)(f:α->Value)(he:E.enc=fun x=>[f x])(hp:l≠[]):∃ b off cap,v=.slice (some ⟨b,off,none⟩) l.length cap/\l.length<=cap/\cap<=maxLen /\
  ∀ i (hi:i<l.length),w.cell? ⟨b,off+i,none⟩=some (f l[i]):=by
 obtain⟨b,off,cap,hv,h1,h2,h3⟩:=h.cells hp
 have hk:E.k=1:=by rw [<- E.len E.zero,he];rfl
 refine⟨b,off,cap,hv,h1,h2,fun i hi=>?_⟩
 have:=h3 i hi 0 (by omega) (f l[i]) (by rw [he];rfl)
 simpa [hk] using this
theorem See.take{a:Option Addr}{n cap:Nat}(h:See w E (.slice a n cap) l){j:Nat}(hj:j<=l.length):See w E (.slice a j cap) (l.take j):=by
 obtain⟨h1,a',cap',hv,h2,h3,h5,h4⟩:=h
 simp only [Value.slice.injEq]at hv
 obtain⟨rfl,rfl,rfl⟩:=hv
 have hl:(l.take j).length=j:=by simp;omega
 refine⟨E.length_cells _,a,cap,by rw [hl],by omega,h3,fun e=>⟨by have:=(h5 e).1;omega,(h5 e).2⟩,?_⟩
 rcases h4 with h4 | ⟨b,off,rfl,h4⟩
 · left;omega
 · right
   refine⟨b,off,rfl,fun i u hi=>h4 i u ?_⟩
   have e:=E.cells_append (l.take j) (l.drop j)
   rw [List.take_append_drop]at e
   rw [e,List.getElem?_append_left (List.getElem?_eq_some_iff.1 hi).1]
   exact hi
theorem Ow.atHead(h:Ow w base E v l)(hp:l≠[]):∃ g cap,v=.slice (some ⟨g,0,none⟩) l.length cap/\base<=g/\g<w.heap.size/\l.length<=cap/\cap<=maxLen:=by
 rcases h.2 with⟨_,hn⟩ | ⟨g,cap,cur,hv,hb,hg,h1,h2,_⟩
 · exact absurd (List.eq_nil_of_length_eq_zero hn) hp
 · exact⟨g,cap,hv,hb,(Array.getElem?_eq_some_iff.1 hg).1,h1,h2⟩
theorem Ow.take{g n cap:Nat}(h:Ow w base E (.slice (some ⟨g,0,none⟩) n cap) l){j:Nat}(hj:j<=l.length):Ow w base E (.slice (some ⟨g,0,none⟩) j cap) (l.take j):=by
 have hl:(l.take j).length=j:=by simp;omega
 obtain⟨h1,h2⟩:=h
 refine⟨E.length_cells _,?_⟩
 rcases h2 with⟨hv,_⟩ | ⟨g',cap',cur,hv,hb,hg,h3,h4,h5,h6⟩
 · cases hv
 · simp only [Value.slice.injEq,Option.some.injEq,Addr.mk.injEq,and_true]at hv
   obtain⟨rfl,rfl,rfl⟩:=hv
   refine .inr ⟨g,cap,cur,by rw [hl],hb,hg,by omega,h4,h5,?_⟩
   rw [hl]
   have e:=E.cells_append (l.take j) (l.drop j)
   rw [List.take_append_drop,<- h6]at e
   have e2:(E.cells (l.take j)).length=j*E.k:=by rw [E.length_cells,hl]
   have e3:=congrArg (List.take (j*E.k)) e
   rw [List.take_take,<- e2,List.take_left]at e3
   rw [e2,Nat.min_eq_left (Nat.mul_le_mul_right _ hj)]at e3
   exact e3
structure App (base:Nat) (E:Elt P α) (l:List α) (w:World) (v v':Value) (w':World):Prop where
 own:Ow w' base E v' l
 chg:w.grownBy w' v.ownBlock
 fresh:∀ b,v'.ownBlock=some b->v.ownBlock=some b\/w.heap.size<=b
theorem App.below{w0:World}{B:Nat}(h:App base E l' w v v' w')(hv:Ow w base E v l)(hb:Below B w0 w)(h1:B<=base)(h2:B<=w.heap.size):Below B w0 w':=
 hb.grown h.chg h2 (fun k hk=>by have:=(hv.lt k hk).1;omega)
theorem App.under{w0:World}(h:App base E l w v v' w')(hf:Fr w0 w):App base E l w0 v v' w':=
 ⟨h.own, ⟨h.chg.os.trans hf.os, h.chg.tape.trans hf.tape, h.chg.output.trans hf.output, Nat.le_trans hf.size h.chg.size, fun k hk hr => (h.chg.block k (Nat.lt_of_lt_of_le hk hf.size) hr).trans (Below.block hf k hk)⟩,
  fun b hb => (h.fresh b hb).imp id (fun h => Nat.le_trans hf.size h)⟩
theorem App.chg'(h:App base E l w v v' w'):Chg (fun k=>v.ownBlock=some k) w w':=grown_chg h.chg
theorem App.size(h:App base E l w v v' w'):w.heap.size<=w'.heap.size:=h.chg.size
theorem App.other{β:Type}{F:Elt P β}{x:Value}{m:List β}{b2:Nat}(h:App base E l w v v' w')(hx:Ow w b2 F x m)(hne:x.ownBlock=none\/x.ownBlock≠v.ownBlock):Ow w' b2 F x m:=hx.kept h.chg hne
theorem App.apart{β:Type}{F:Elt P β}{x:Value}{m:List β}{b2:Nat}(h:App base E l w v v' w')(hx:Ow w b2 F x m)(hne:x.ownBlock=none\/x.ownBlock≠v.ownBlock):x.ownBlock=none\/x.ownBlock≠v'.ownBlock:=by
 rcases hne with h1 | h1
 · exact .inl h1
 · rcases hxb:x.ownBlock with _ | b
   · exact .inl rfl
   · refine .inr fun e=>?_
     rcases h.fresh b e.symm with h2 | h2
     · exact h1 (by rw [hxb,h2])
     · have:=(hx.lt b hxb).2;omega
theorem see_new(E:Elt P α)(w:World)(l:List α)(cs:Array Value)(e':TypeId)(n:Nat)(hn:n=l.length)(hc:cs.toList=E.cells l)(hm:l.length<=maxLen):See (w.alloc (.cells cs e')) E (.slice (some ⟨w.heap.size,0,none⟩) n n) l:=by
 subst hn
 refine⟨E.length_cells l,_,_,rfl,Nat.le_refl _,hm,by simp,.inr ⟨w.heap.size,0,rfl,fun j u hj=>?_⟩⟩
 rw [Nat.zero_add,World.cell?_alloc_at _ _ _ _ rfl]
 rw [<- hc]at hj
 simpa using hj
theorem own_lit(E:Elt P α)(w:World)(cs:Array Value)(l:List α)(n:Nat)(hn:n=l.length)(hm:l.length<=maxLen)(hb:base<=w.heap.size)(hc:cs.toList=E.cells l:=by rfl):Ow (w.alloc (.cells cs E.e)) base E (.slice (some ⟨w.heap.size,0,none⟩) n n) l:=by
 subst hn
 have hs:cs.size=l.length*E.k:=by rw [<- E.length_cells,<- hc];simp
 exact⟨E.length_cells l,.inr ⟨w.heap.size,l.length,cs,rfl,hb,heap_new w _ _ rfl,Nat.le_refl _,hm,hs,by rw [<- hs,<- Array.length_toList,List.take_length];exact hc⟩⟩
theorem run_app(E:Elt P α)(w:World)(base:Nat)(t ty:TypeId)(ht:P.underlying t=some (.slice E.e))(hown:Ow w base E v l){x:Value}{m:List α}(hsee:See w E x m)
  (hn:l.length+m.length<=2147483648) (hbase:base<=w.heap.size) :
  ∃ v' w',(Builtin.append_ #[t,t] ty #[v,x]).run P w=.ok v' w'/\App base E (l++m) w v v' w':=by
 obtain⟨i,hi,hz,h1,h2⟩:=info_parts E.info
 obtain ⟨v', w', hr, h3, h4, h5⟩ := run_append_seen (P := P) w base t ty E.e i E.z E.k E.bytes ht hi hz h1 h2
  (by have:=congrArg List.length E.zs;rw [E.len]at this;simpa using this) E.pos v l.length (E.cells l) hown x m.length (E.cells m) hsee (E.cells_mem m)
  (by unfold maxLen; omega) (by have := E.small; calc (l.length + m.length) * E.bytes ≤ 2147483648 * 64 := Nat.mul_le_mul hn this
                                   _ ≤ 140737488355328 := by omega) hbase
 refine⟨v',w',hr,⟨?_,h4,h5⟩⟩
 unfold Ow
 rw [E.cells_append,List.length_append]
 exact h3
theorem wpList_app(E:Elt P α){ops:Array Oper}{rest:List Oper}{o:Oper}{a:Act}{Q:Exit->Act->World->Prop}(hgd:o.guard=none)(s x:Operand)(t:TypeId)
  (ho:o.op=.call { callee:=.builtin .append,args:=#[s,x],argTypes:=#[t,t] }) (ht:P.underlying t=some (.slice E.e))
  (base:Nat) (hs:a.eval s=v) (hown:Ow w base E v l) (y:Value) (m:List α) (hx:a.eval x=y) (hsee:See w E y m) (hn:l.length+m.length<=2147483648) (hbase:base<=w.heap.size)
  (h:∀ v' w',App base E (l++m) w v v' w'->wpList P ops Q rest (a.put o.dst v') w'):wpList P ops Q (o::rest) a w:=by
 refine wpList_plain hgd fun K hK=>?_
 obtain⟨v',w',hr,h2⟩:=run_app (P:=P) E w base t o.type ht hown hsee hn hbase
 unfold Oper.wp execOp
 simp only [ho,resolve,invoke,builtin,Sem.run_bind,Sem.run_pure,Result.andThen_ok,List.map_toArray,List.map_cons,List.map_nil,hs,hx,hr]
 exact hK _ _ (h v' w' h2)
theorem step_app(E:Elt P α){ops:Array Oper}{o:Oper}{a:Act}{w:World}{K:Act->World->Prop}{Q:Exit->Act->World->Prop}{F:Prop}(hgd:o.guard=none)(s x:Operand)(t:TypeId)
  (ho:o.op=.call { callee:=.builtin .append,args:=#[s,x],argTypes:=#[t,t] }) (ht:P.underlying t=some (.slice E.e))
  (base:Nat) (hs:a.eval s=v) (hown:Ow w base E v l) (y:Value) (m:List α) (hx:a.eval x=y) (hsee:See w E y m) (hn:l.length+m.length<=2147483648) (hbase:base<=w.heap.size)
  (h:∀ v' w',App base E (l++m) w v v' w'->K (a.put o.dst v') w'):if Region.wanted o (yielded ops a.tmps)=true then Oper.wp P o a w K Q else F:=by
 have hw:Region.wanted o (yielded ops a.tmps)=true:=by simp [Region.wanted,hgd]
 rw [if_pos hw]
 obtain⟨v',w',hr,h2⟩:=run_app (P:=P) E w base t o.type ht hown hsee hn hbase
 unfold Oper.wp execOp
 simp only [ho,resolve,invoke,builtin,Sem.run_bind,Sem.run_pure,Result.andThen_ok,List.map_toArray,List.map_cons,List.map_nil,hs,hx,hr]
 exact h v' w' h2
theorem step_app1(E:Elt P α){ops:Array Oper}{o:Oper}{a:Act}{K:Act->World->Prop}{Q:Exit->Act->World->Prop}{F:Prop}{w:World}(hgd:o.guard=none)(s x:Operand)(t:TypeId)
  (ho:o.op=.call { callee:=.builtin .append,args:=#[s,x],argTypes:=#[t,t] }) (ht:P.underlying t=some (.slice E.e))
  (base:Nat) (hs:a.eval s=v) (hown:Ow w base E v l) (c:List α) (cs:Array Value) (e':TypeId) (n:Nat) (hc:cs.toList=E.cells c) (hcn:n=c.length) (hx:a.eval x=.slice (some ⟨w.heap.size,0,none⟩) n n) (hn:l.length+c.length<=2147483648) (hbase:base<=w.heap.size)
  (h:∀ v' w',App base E (l++c) w v v' w'->K (a.put o.dst v') w'):if Region.wanted o (yielded ops a.tmps)=true then Oper.wp P o a (w.alloc (.cells cs e')) K Q else F:=
 step_app E hgd s x t ho ht base hs (hown.fr ((Fr.refl w).alloc _)) _ c hx (see_new E w c cs e' n hcn hc (by unfold maxLen;omega)) hn (by simp;omega) fun v' w' ha=>h v' w' (ha.under ((Fr.refl w).alloc _))
theorem step_app1d(E:Elt P α){ops:Array Oper}{o:Oper}{a:Act}{K:Act->World->Prop}{Q:Exit->Act->World->Prop}{F:Prop}{w:World}(hgd:o.guard=none)(s x:Operand)(t:TypeId)
  (ho:o.op=.call { callee:=.builtin .append,args:=#[s,x],argTypes:=#[t,t] }) (ht:P.underlying t=some (.slice E.e))
  (base:Nat) (hs:a.eval s=v) (hown:Ow w base E v l) (c:List α) (cs:Array Value) (e':TypeId) (n:Nat) (hc:cs.toList=E.cells c) (hcn:n=c.length) (hx:a.eval x=.slice (some ⟨w.heap.size,0,none⟩) n n) (hn:l.length+c.length<=2147483648) (hbase:base<=w.heap.size)
  (h:∀ v' w',App base E (l++c) w v v' w'->K (a.put o.dst v') w'):if Region.wanted o (yielded ops a.tmps)=true then Oper.wp P o a (w.alloc (.cells cs e')).drew K Q else F:=
 step_app E hgd s x t ho ht base hs ((hown.fr ((Fr.refl w).alloc _)).drew) _ c hx (see_new E w c cs e' n hcn hc (by unfold maxLen;omega)).drew hn (by simp;omega) fun v' w' ha=>h v' w' (ha.under ((Fr.refl w).alloc _).drew)
theorem wpList_app1(E:Elt P α){ops:Array Oper}{rest:List Oper}{o:Oper}{a:Act}{Q:Exit->Act->World->Prop}{w:World}(hgd:o.guard=none)(s x:Operand)(t:TypeId)
  (ho:o.op=.call { callee:=.builtin .append,args:=#[s,x],argTypes:=#[t,t] }) (ht:P.underlying t=some (.slice E.e))
  (base:Nat) (hs:a.eval s=v) (hown:Ow w base E v l) (c:List α) (cs:Array Value) (e':TypeId) (n:Nat) (hc:cs.toList=E.cells c) (hcn:n=c.length) (hx:a.eval x=.slice (some ⟨w.heap.size,0,none⟩) n n) (hn:l.length+c.length<=2147483648) (hbase:base<=w.heap.size)
  (h:∀ v' w',App base E (l++c) w v v' w'->wpList P ops Q rest (a.put o.dst v') w'):wpList P ops Q (o::rest) a (w.alloc (.cells cs e')):=by
 refine wpList_app E hgd s x t ho ht base hs (hown.fr ((Fr.refl w).alloc _)) _ c hx (see_new E w c cs e' n hcn hc (by unfold maxLen;omega)) hn (by simp;omega) fun v' w' ha=>h v' w' (ha.under ((Fr.refl w).alloc _))
end
theorem run_conv_seen(w:World)(src dst e:TypeId)(hs:P.underlying src=some (.slice e))(he:P.underlying e=some (.int .u8))(hd:P.underlying dst=some .string)
  {v:Value} {n:Nat} {l:List UInt8} (h:Sees w 1 v n (l.map u8)):(convert src dst v).run P w=.ok (S l) w:=by
 obtain⟨hl,a,cap,rfl,hn,hc,hnone,hcell⟩:=h
 have hl':l.length=n:=by simpa using hl
 have key:∀ (b off:Nat),(∀ j u,(l.map u8)[j]? = some u->w.cell? ⟨b,off+j,none⟩=some u)->(convert src dst (.slice (some ⟨b,off,none⟩) n cap)).run P w=.ok (S l) w:=by
  intro b off hcell
  have hcv:=run_convert_bytes_arg (P:=P) (w:=w) src e hs he b off n cap (l.map fun c=>(c.toNat:Int)) (by simpa using hl') (fun j hj=>hcell j _ (by simp [List.getD,hl',hj])) dst hd
  rw [hcv]
  simp only [strOfNums,List.map_map]
  congr 3
  rw [show((fun n:Int=>UInt8.ofNat n.toNat) ∘ fun c:UInt8=>(c.toNat:Int))=id from by funext c;simp]
  simp
 cases a with
 | none=>
  obtain⟨rfl,rfl⟩:=hnone rfl
  obtain rfl:l=[]:=List.eq_nil_of_length_eq_zero hl'
  exact run_convert_bytes_nil (P:=P) (w:=w) src e hs he 0 0 dst hd
 | some a=>
  rcases hcell with rfl | ⟨b,off,hab,hcell⟩
  · obtain rfl:l=[]:=List.eq_nil_of_length_eq_zero hl'
    rw [run_convert_bytes_string w src dst e _ 0 cap hs he hd,run_bytesToString w _ 0 cap [] (by simp [loadCells,loadCellsFrom])]
    rfl
  · obtain rfl:=Option.some.inj hab
    exact key b off hcell
theorem strCells_eq(E:Elt P UInt8)(henc:E.enc=fun c=>[u8 c])(s:List UInt8):Lib.strCells ⟨s.toArray⟩=E.cells s:=by
 have:E.cells s=s.map u8:=by
  unfold Elt.cells;rw [henc];induction s with
  | nil=>rfl
  | cons x l ih=>simp_all
 rw [this];simp [Lib.strCells]
theorem run_app_str(E:Elt P UInt8)(w:World)(base:Nat)(t u ty:TypeId)(ht:P.underlying t=some (.slice E.e))(hu:P.underlying u=some .string)(henc:E.enc=fun c=>[u8 c])(hz:E.z=.int .u8 0)(hb:E.bytes=1)
  {v:Value} {l:List UInt8} (hown:Ow w base E v l) (s:List UInt8) (hn:l.length+s.length<=2147483648) (hbase:base<=w.heap.size) :
  ∃ v' w',(Builtin.append_ #[t,u] ty #[v,S s]).run P w=.ok v' w'/\App base E (l++s) w v v' w':=by
 obtain⟨i,hi,hz',h1,h2⟩:=info_parts E.info
 have hk:E.k=1:=by rw [<- E.len E.zero,henc];rfl
 have hss:(⟨s.toArray⟩:ByteArray).size=s.length:=by simp [ByteArray.size]
 rw [hz]at hz';rw [hk]at h1;rw [hb]at h2
 have hown':=hown
 unfold Ow at hown'
 rw [hk]at hown'
 obtain⟨v',w',hr,h3,h4,_⟩:=Lib.run_append_own_string (P:=P) w base t u ty E.e i ht hu hi hz' h1 h2 v l.length (E.cells l) hown' ⟨s.toArray⟩ (by rw [hss];unfold maxLen;omega) (by rw [hss];omega) hbase
 refine⟨v',w',hr,⟨?_,h4,?_⟩⟩
 · unfold Ow
   rw [E.cells_append,List.length_append,hk,<- strCells_eq E henc s]
   rw [hss]at h3
   exact h3
 · intro b hb'
   rcases hown'.2 with⟨rfl,hn0⟩ | ⟨g,cap,cur,rfl,hbg,hg,hnc,hcm,hcs,htake⟩
   · have hl:l=[]:=List.eq_nil_of_length_eq_zero hn0
     subst hl
     obtain⟨v2,w2,hr2,h5,_,_⟩:=Lib.run_append_own_string (P:=P) w w.heap.size t u ty E.e i ht hu hi hz' h1 h2 (.slice none 0 0) 0 [] (World.ownsRow_nil w _ E.e 1) ⟨s.toArray⟩ (by rw [hss];unfold maxLen;simp at hn ⊢;omega) (by rw [hss];simp at hn ⊢;omega) (Nat.le_refl _)
     rw [hr]at hr2
     cases hr2
     exact .inr (h5.lt b hb').1
   · by_cases hroom:l.length+s.length<=cap
     · have hcs':cur.size=cap:=by simpa using hcs
       have hr2:=Lib.run_append_room_string (P:=P) w t u ty E.e i ht hu hi h1 g l.length cap cur hg ⟨s.toArray⟩ (by rw [hss];exact hroom) (by rw [hss];omega)
       rw [hr]at hr2
       cases hr2
       exact .inl hb'
     · have holds:∀ j u,(E.cells l)[j]? = some u->w.cell? ((⟨g,0,none⟩:Addr).add j)=some u:=hown'.cells (g:=g) rfl
       have hr2:=Lib.run_append_grow_string (P:=P) w t u ty E.e i (.int .u8 0) ht hu hi hz' ⟨g,0,none⟩ l.length cap (E.cells l) (by rw [h1];simpa using hown'.1) holds ⟨s.toArray⟩ (by rw [hss];omega) (by rw [hss];omega) (by rw [h2];exact growslice_fits (by rw [hss];omega) (by rw [hss];omega))
       rw [hr]at hr2
       cases hr2
       simp [Value.ownBlock]at hb'
       exact .inr (by omega)
theorem wpList_app_str(E:Elt P UInt8){w:World}{ops:Array Oper}{rest:List Oper}{o:Oper}{a:Act}{Q:Exit->Act->World->Prop}(hgd:o.guard=none)(s x:Operand)(t u:TypeId)
  (ho:o.op=.call { callee:=.builtin .append,args:=#[s,x],argTypes:=#[t,u] }) (ht:P.underlying t=some (.slice E.e)) (hu:P.underlying u=some .string) (henc:E.enc=fun c=>[u8 c]) (hz:E.z=.int .u8 0) (hb:E.bytes=1)
  (base:Nat) {v:Value} {l:List UInt8} (hs:a.eval s=v) (hown:Ow w base E v l) (m:List UInt8) (hx:a.eval x=S m) (hn:l.length+m.length<=2147483648) (hbase:base<=w.heap.size)
  (h:∀ v' w',App base E (l++m) w v v' w'->wpList P ops Q rest (a.put o.dst v') w'):wpList P ops Q (o::rest) a w:=by
 refine wpList_plain hgd fun K hK=>?_
 obtain⟨v',w',hr,h2⟩:=run_app_str (P:=P) E w base t u o.type ht hu henc hz hb hown m hn hbase
 unfold Oper.wp execOp
 simp only [ho,resolve,invoke,builtin,Sem.run_bind,Sem.run_pure,Result.andThen_ok,List.map_toArray,List.map_cons,List.map_nil,hs,hx,hr]
 exact hK _ _ (h v' w' h2)
theorem run_conv_see(E:Elt P UInt8)(w:World)(src dst:TypeId)(hs:P.underlying src=some (.slice E.e))(he:P.underlying E.e=some (.int .u8))(hd:P.underlying dst=some .string)
  (hk:E.k=1) (henc:E.enc=fun c=>[u8 c]) {v:Value} {l:List UInt8} (h:See w E v l):(convert src dst v).run P w=.ok (S l) w:=by
 refine run_conv_seen (P:=P) w src dst E.e hs he hd (n:=l.length) ?_
 have:E.cells l=l.map u8:=by
  clear h
  unfold Elt.cells;rw [henc];induction l with
  | nil=>rfl
  | cons x l ih=>simp_all
 unfold See at h
 rw [hk,this]at h
 exact h
end
end Go.Fk
