/- Parts of the proof of ArchPacks: Lib. -/
import Derived.WalkKit
import Derived.WalkSpells
import Derived.WalkLawsBesides
import Derived.Lib.AppendStr
import Derived.Deep.RegionWith
import Derived.Deep.RegionLaw
import Derived.Deep.QuietTactic
import Derived.BigQuiet
import Derived.Deep.DeepCutAuto
import Derived.Deep.CutBlock
import Derived.Deep.CutRange
import Derived.Deep.RegionHeld3
import Derived.StillTailTactics
set_option linter.unusedVariables false
set_option linter.unusedSectionVars false
set_option linter.unusedSimpArgs false
set_option maxHeartbeats 8000000
namespace Go.Fk
abbrev ag:=@Nat.le_refl
abbrev an:=@List.length_append
abbrev aR:=@Array.getElem?_eq_some_iff
abbrev aq:=@Nat.le_trans
abbrev ap:=@Nat.zero_le
abbrev ai:=@if_pos
abbrev bg:=@List.length_cons
abbrev b7:=@Nat.mul_le_mul
abbrev cW:=@Nat.mul_le_mul_right
abbrev cu:=@List.take_length
abbrev eo:=@List.take_of_length_le
abbrev ib:=@List.eq_nil_of_length_eq_zero
abbrev ed:=@Go.Value.slice.injEq
abbrev cr:=@Nat.add_mul
abbrev ez:=@Option.some.inj
abbrev gr:=@Nat.min_eq_left
abbrev iu:=@Go.World.drewN_drewN
abbrev fL:=@List.map_cons
abbrev iS:=@Option.some.injEq
abbrev jN:=@Nat.lt_of_lt_of_le
abbrev kI:=@List.take_append_drop
abbrev fJ:=@Nat.one_mul
abbrev gt:=@List.mem_map
abbrev js:=@Nat.zero_add
abbrev md:=@Go.RowKit.Below.heap_setCell
abbrev pS:=@List.getElem?_eq_some_iff
abbrev fX:=@congrArg
abbrev lw:=@List.map_nil
abbrev iR:=@and_true
abbrev me:=@Go.Addr.add_lit
abbrev vQ:=@List.getElem?_append_right
abbrev mL:=@List.map_map
abbrev vR:=@List.getElem?_append_left
abbrev lR:=@Go.info_parts
abbrev mS:=@Go.RowKit.Below.block
abbrev vG:=@Go.World.cell?_alloc_at
end Go.Fk
namespace Go.Fk
open Go.RowKit
abbrev S(l:List UInt8):Value:=.string ⟨l.toArray⟩
abbrev u8(c:UInt8):Value:=.int .u8 c.toNat
abbrev N(n:Nat):Value:=.int .i64 n
theorem GJ(l:List UInt8)(n m:Nat)(h:l.length<=m):(⟨l.toArray⟩:ByteArray).extract n m=⟨(l.drop n).toArray⟩:=by
 rw [ByteArray.extract_mk,eo (by simp;omega)]
theorem au(w:World)(o:Obj)(n:Nat)(h:n=w.heap.size):(w.alloc o).heap[n]? = some o:=by subst h;exact heap_alloc_new w o
theorem gz(w:World)(o:Obj)(n:Nat)(h:n<w.heap.size):(w.alloc o).heap[n]? = w.heap[n]?:=Below.heap_alloc w o n h
theorem dp(w:World)(o:Obj):(w.alloc o).heap.size=w.heap.size+1:=by simp
def LH:Value->Nat | .string b=>b.size | _=>0
theorem ad{p:Prop}(h:p):Hid p:=h
def Fr(w w':World):Prop:=Below w.heap.size w w'
theorem Fr.refl(w:World):Fr w w:=Below.refl _ _
theorem Fr.trans{a b c:World}(h:Fr a b)(k:Fr b c):Fr a c:=Below.trans h (Below.mono k h.size)
theorem Fr.drew{a w:World}(h:Fr a w):Fr a w.drew:=Below.drew h
theorem Fr.alloc{a w:World}(h:Fr a w)(o:Obj):Fr a (w.alloc o):=Below.alloc h h.size o
theorem Fr.size{a w:World}(h:Fr a w):a.heap.size<=w.heap.size:=Below.size h
theorem Fr.cell{w w':World}(h:Fr w w'){p:Addr}{v:Value}(d:w.cell? p=some v):w'.cell? p=some v:=
 (Below.cell h (World.block_lt_of_cell? w p d)).trans d
theorem Fr.heap{w w':World}(h:Fr w w'){b:Nat}{o:Obj}(d:w.heap[b]? = some o):w'.heap[b]? = some o:=
 (mS h b (aR.1 d).1).trans d
theorem Fr.below{B:Nat}{a w w':World}(h:Below B a w)(d:B<=w.heap.size)(k:Fr w w'):Below B a w':=Below.trans h (Below.mono k d)
theorem Fr.grown{B:Nat}{a w w':World}{d:Option Nat}(h:Below B a w)(e:w.grownBy w' d)(m:B<=w.heap.size)(o:∀ k,d=some k->B<=k):Below B a w':=Below.grown h e m o
theorem Fr.own{a w w':World}{d:Option Nat}(h:Fr a w)(e:w.grownBy w' d)(m:∀ k,d=some k->a.heap.size<=k):Fr a w':=Below.grown h e h.size m
def Qt(w w':World):Prop:=∃ n,w'=w.drewN n
theorem Qt.refl(w:World):Qt w w:=⟨0,rfl⟩
theorem Qt.trans{a b c:World}(h:Qt a b)(k:Qt b c):Qt a c:=by
 obtain⟨n,rfl⟩:=h;obtain⟨m,rfl⟩:=k;exact⟨n+m,iu a n m⟩
theorem Qt.drewN(w:World)(n:Nat):Qt w (w.drewN n):=⟨n,rfl⟩
theorem Qt.fr{w w':World}(h:Qt w w'):Fr w w':=by
 obtain⟨n,rfl⟩:=h;exact below_drewN (Below.refl _ _) n
theorem Fr.drewN{a w:World}(h:Fr a w)(n:Nat):Fr a (w.drewN n):=below_drewN h n
structure ak (G:Nat->Prop) (w w':World):Prop where
 os:w'.os=w.os
 tape:w'.tape=w.tape
 output:w'.output=w.output
 size:w.heap.size<=w'.heap.size
 block:∀ k,k<w.heap.size->¬G k->w'.heap[k]? = w.heap[k]?
theorem ak.refl(G:Nat->Prop)(w:World):ak G w w:=⟨rfl,rfl,rfl,ag _,fun _ _ _=>rfl⟩
theorem Fr.chg{w w':World}(h:Fr w w')(G:Nat->Prop):ak G w w':=⟨Below.os h,Below.tape h,Below.output h,Below.size h,fun k d _=>mS h k d⟩
theorem lK{w w':World}{d:Option Nat}(h:w.grownBy w' d):ak (fun k=>d=some k) w w':=⟨h.os,h.tape,h.output,h.size,fun k m o=>h.block k m (fun e=>o e.symm)⟩
theorem ak.mono{G G':Nat->Prop}{w w':World}(h:ak G w w')(e:∀ k,k<w.heap.size->G k->G' k):ak G' w w':=⟨h.os,h.tape,h.output,h.size,fun k d m=>h.block k d (fun g=>m (e k d g))⟩
theorem ak.trans{G G':Nat->Prop}{a b c:World}(h:ak G a b)(k:ak G' b c)(m:∀ i,i<a.heap.size->G' i->G i):ak G a c:=
 ⟨k.os.trans h.os,k.tape.trans h.tape,k.output.trans h.output,aq h.size k.size,fun i d e=>(k.block i (jN d h.size) (fun g=>e (m i d g))).trans (h.block i d e)⟩
theorem ak.fr{G:Nat->Prop}{w w':World}(h:ak G w w')(e:∀ k,k<w.heap.size->¬G k):Fr w w':=⟨h.os,h.tape,h.output,h.size,fun k d=>h.block k d (e k d)⟩
theorem ak.below{G:Nat->Prop}{B:Nat}{a w w':World}(h:Below B a w)(k:ak G w w')(d:B<=w.heap.size)(e:∀ i,G i->B<=i):Below B a w':=
 Below.trans h ⟨k.os,k.tape,k.output,k.size,fun i m=>k.block i (jN m d) (fun g=>by have:=e i g;omega)⟩
theorem ak.heap{G:Nat->Prop}{w w':World}(h:ak G w w'){b:Nat}{o:Obj}(d:w.heap[b]? = some o)(e:¬G b):w'.heap[b]? = some o:=
 (h.block b (aR.1 d).1 e).trans d
theorem aL{w:World}{b:Nat}{d:Array Value}{T:TypeId}{f:Nat × Nat}(h:w.heap[b]? = some (.cells d T f))(i:Nat):w.cell? ⟨b,i,none⟩=d[i]?:=by simp [World.cell?,h]
theorem az{w:World}{b:Nat}{d:Array Value}{T:TypeId}(h:w.heap[b]? = some (.cells d T (0,0)))(i:Nat):w.frozen? ⟨b,i,none⟩=false:=by simp [World.frozen?,h]
theorem aB{w:World}{b:Nat}{d:Array Value}{T:TypeId}{f:Nat × Nat}(h:w.heap[b]? = some (.cells d T f))(i:Nat)(u:Value):(w.setCell ⟨b,i,none⟩ u).heap[b]? = some (.cells (d.setIfInBounds i u) T f):=by
 simp [World.setCell,Array.getElem?_modify,h]
theorem aw(w:World)(a:Addr)(u:Value):ak (fun k=>k=a.block) w (w.setCell a u):=
 ⟨rfl,rfl,rfl,by simp [World.setCell],fun k _ d=>md _ _ _ _ d⟩
theorem zE(G:Nat->Prop)(w:World)(n:Nat):ak G w (w.drewN n):=(Fr.drewN (Fr.refl w) n).chg G
def gF(w:World)(k:Nat)(v:Value)(n:Nat)(xs:List Value):Prop:=
 xs.length = n * k ∧ ∃ a d, v = .slice a n d ∧ n ≤ d ∧ d ≤ maxLen ∧ (a = none → n = 0 ∧ d = 0) ∧
  (n=0\/∃ b e,a=some ⟨b,e,none⟩/\∀ j u,xs[j]? = some u->w.cell? ⟨b,e+j,none⟩=some u)
theorem gF.nil(w:World)(k:Nat):gF w k (.slice none 0 0) 0 []:=
 ⟨by simp,none,0,rfl,ag _,ap _,fun _=>⟨rfl,rfl⟩,.inl rfl⟩
theorem gF.fr{w w':World}{k:Nat}{v:Value}{n:Nat}{xs:List Value}(h:gF w k v n xs)(e:Fr w w'):gF w' k v n xs:=by
 obtain⟨m,a,o,q,y,z,A,d⟩:=h;refine⟨m,a,o,q,y,z,A,?_⟩;rcases d with d | ⟨b,D,F,d⟩;· exact .inl d
 · exact .inr ⟨b,D,F,fun j u G=>e.cell (d j u G)⟩
theorem gF.drew{w:World}{k:Nat}{v:Value}{n:Nat}{xs:List Value}(h:gF w k v n xs):gF w.drew k v n xs:=h
theorem gF.len{w:World}{k:Nat}{v:Value}{n:Nat}{xs:List Value}(h:gF w k v n xs):n<=maxLen:=by
 obtain⟨_,a,d,_,e,m,_⟩:=h;omega
theorem _root_.Go.World.ownsRow.sees{w:World}{base:Nat}{e:TypeId}{k:Nat}{v:Value}{n:Nat}{xs:List Value}(h:w.ownsRow base e k v n xs):gF w k v n xs:=by
 obtain⟨q,y⟩:=h;refine⟨q,?_⟩;rcases y with⟨m,rfl⟩ | ⟨g,z,o,m,J,A,D,F,K,G⟩;· exact⟨none,0,m,ag _,ap _,fun _=>⟨rfl,rfl⟩,.inl rfl⟩
 · refine⟨_,z,m,D,F,by simp,.inr ⟨g,0,rfl,fun j u d=>?_⟩⟩;have I:w.cell? ⟨g,0+j,none⟩=o[j]?:=(by rw [js];exact cell_of_row w g j o e (0,0) A);rw [I];rw [<- G,List.getElem?_take]at d;split at d;· simpa using d
   · cases d
theorem EK{w w':World}{base:Nat}{e:TypeId}{k:Nat}{v:Value}{n:Nat}{xs:List Value}(h:w.ownsRow base e k v n xs)(m:Fr w w'):w'.ownsRow base e k v n xs:=by
 obtain⟨o,d⟩:=h;refine⟨o,?_⟩;rcases d with d | ⟨g,q,y,z,A,D,r⟩;· exact .inl d
 · exact .inr ⟨g,q,y,z,A,m.heap D,r⟩
theorem tH{w:World}{base m:Nat}{e:TypeId}{k:Nat}{v:Value}{n:Nat}{xs:List Value}(h:w.ownsRow base e k v n xs)(o:m<=base):w.ownsRow m e k v n xs:=by
 obtain⟨q,d⟩:=h;refine⟨q,?_⟩;rcases d with d | ⟨g,y,z,A,o,D,r⟩;· exact .inl d
 · exact .inr ⟨g,y,z,A,by omega,D,r⟩
section
variable {P:Program}
def Bw(base:Nat)(e:TypeId)(k:Nat)(n:Nat)(xs:List Value)(w:World)(v v':Value)(w':World):Prop:=
 w'.ownsRow base e k v' n xs/\w.grownBy w' v.ownBlock/\(∀ b,v'.ownBlock=some b->v.ownBlock=some b\/w.heap.size<=b)
theorem DE(w:World)(base:Nat)(t A e:TypeId)(i:TypeInfo)(z:Value)(size bytes:Nat)(D:P.underlying t=some (.slice e))(F:P.info? e=some i)(I:i.zero=some z)
  (hsize:i.size=size) (hby:i.bytes=bytes) (hzs:z.cells.size=size) (hsz:0<size)
  (v:Value) (n:Nat) (xs:List Value) (hown:w.ownsRow base e size v n xs)
  (a:Addr) (m c:Nat) (h:List Value) (hl:h.length=m*size) (hnews:∀ j u,h[j]? = some u->w.cell? (a.add j)=some u) (h1:∀ u∈h,u.oneCell'=true)
  (h63:n+m<=maxLen) (hbytes:(n+m)*bytes<=140737488355328) (hbase:base<=w.heap.size) :
  ∃ v' w',(Builtin.append_ #[t,t] A #[v,.slice (some a) m c]).run P w=.ok v' w'/\Bw base e size (n+m) (xs++h) w v v' w':=by
 rcases hown.2 with⟨rfl,rfl⟩ | ⟨g,G,O,rfl,Q,R,T,U,V,X⟩
 · have J:xs=[]:=ib (by simpa using hown.1)
   subst J
   obtain⟨v',w',q,o,d,Y⟩:=run_append_own (P:=P) w w.heap.size t A e i z size bytes D F I hsize hby hzs hsz (.slice none 0 0) 0 [] (World.ownsRow_nil w _ e size) a m c h hl hnews h1 h63 hbytes (ag _)
   exact⟨v',w',q,tH o hbase,d,fun b y=>.inr (o.lt b y).1⟩
 · by_cases K:n+m<=G
   · obtain⟨w',q,o,d⟩:=run_append_fits (P:=P) w base t A e i size D F hsize g n G xs hown a m c h hl hnews h1 K
     exact⟨_,w',q,o,d,fun b y=>.inl y⟩
   · have L:∀ j u,xs[j]? = some u->w.cell? ((⟨g,0,none⟩:Addr).add j)=some u:=hown.cells (g:=g) rfl
     obtain⟨v',w',q,o,d⟩:=run_append_arg_grows (P:=P) w t A e i z size bytes D F I hsize hby hzs hsz ⟨g,0,none⟩ n G xs hown.1 L a m c h hl hnews (by omega) h63 hbytes
     exact⟨v',w',q,tH o hbase,⟨d.os,d.tape,d.output,d.size,fun k M _=>d.block k M (by simp)⟩,fun b y=>.inr (o.lt b y).1⟩
theorem DD(w:World)(base:Nat)(t h e:TypeId)(i:TypeInfo)(z:Value)(size bytes:Nat)(y:P.underlying t=some (.slice e))(A:P.info? e=some i)(F:i.zero=some z)
  (hsize:i.size=size) (hby:i.bytes=bytes) (hzs:z.cells.size=size) (hsz:0<size)
  (v:Value) (n:Nat) (xs:List Value) (hown:w.ownsRow base e size v n xs)
  (x:Value) (m:Nat) (d:List Value) (hsee:gF w size x m d) (h1:∀ u∈d,u.oneCell'=true)
  (h63:n+m<=maxLen) (hbytes:(n+m)*bytes<=140737488355328) (hbase:base<=w.heap.size) :
  ∃ v' w',(Builtin.append_ #[t,t] h #[v,x]).run P w=.ok v' w'/\Bw base e size (n+m) (xs++d) w v v' w':=by
 obtain⟨o,a,G,rfl,M,O,I,q⟩:=hsee
 cases a with
 | none=>
  obtain⟨rfl,rfl⟩:=I rfl
  obtain rfl:d=[]:=ib (by simpa using o)
  have J:=run_append_owned_none (P:=P) (w:=w) base t h e i size y A v n xs hown
  exact⟨v,w,J,by simpa using hown,⟨rfl,rfl,rfl,ag _,fun _ _ _=>rfl⟩,fun b K=>.inl K⟩
 | some a=>
  refine DE w base t h e i z size bytes y A F hsize hby hzs hsz v n xs hown a m G d o ?_ h1 h63 hbytes hbase
  intro j u D
  rcases q with rfl | ⟨b,Q,L,q⟩
  · obtain rfl:d=[]:=ib (by simpa using o)
    simp at D
  · obtain rfl:=ez L
    rw [me]
    exact q j u D
structure al (P:Program) (α:Type) where
 e:TypeId
 k:Nat
 bytes:Nat
 zero:α
 z:Value
 enc:α->List Value
 info:(P.info? e).map (fun i=>(i.zero,i.size,i.bytes))=some (some z,k,bytes)
 pos:0<k
 small:bytes<=64
 zs:z.cells.toList=enc zero
 len:∀ x,(enc x).length=k
 one:∀ x,∀ u∈enc x,u.oneCell'=true
def al.cells{α:Type}(E:al P α)(l:List α):List Value:=(l.map E.enc).flatten
theorem al.length_cells{α:Type}(E:al P α)(l:List α):(E.cells l).length=l.length*E.k:=by
 induction l with
 | nil=>simp [al.cells]
 | cons x l d=>have:E.cells (x::l)=E.enc x++E.cells l:=(by simp [al.cells]);rw [this,an,d,E.len,bg,cr,fJ,Nat.add_comm]
theorem al.cells_append{α:Type}(E:al P α)(l l':List α):E.cells (l++l')=E.cells l++E.cells l':=by simp [al.cells]
theorem al.cells_mem{α:Type}(E:al P α)(l:List α):∀ u∈E.cells l,u.oneCell'=true:=by
 intro u d;simp only [al.cells,List.mem_flatten,gt]at d;obtain⟨_,⟨x,_,rfl⟩,d⟩:=d;exact E.one x u d
theorem al.cells_at{α:Type}(E:al P α):∀ (l:List α) (i:Nat) (h:i<l.length) (j:Nat),j<E.k->(E.cells l)[i*E.k+j]? = (E.enc l[i])[j]?:=by
 intro l
 induction l with
 | nil=>intro i h;simp at h
 | cons x l d=>
  intro i h j m;have e:E.cells (x::l)=E.enc x++E.cells l:=by simp [al.cells]
  cases i with
  | zero=>rw [e,vR (by rw [E.len];omega)];simp
  | succ i=>rw [e,vQ (by rw [E.len,cr];omega),E.len];have:(i+1)*E.k+j - E.k=i*E.k+j:=(by rw [cr];omega);rw [this];exact d i (by simpa using h) j m
def af{α:Type}(w:World)(E:al P α)(v:Value)(l:List α):Prop:=gF w E.k v l.length (E.cells l)
def Ow{α:Type}(w:World)(base:Nat)(E:al P α)(v:Value)(l:List α):Prop:=w.ownsRow base E.e E.k v l.length (E.cells l)
section
variable {α:Type} {E:al P α} {w w':World} {v v':Value} {l l':List α} {base:Nat}
theorem af.nil:af w E (.slice none 0 0) []:=gF.nil w E.k
theorem af.fr(h:af w E v l)(d:Fr w w'):af w' E v l:=gF.fr h d
theorem af.drew(h:af w E v l):af w.drew E v l:=h
theorem Ow.nil:Ow w base E (.slice none 0 0) []:=World.ownsRow_nil _ _ _ _
theorem Ow.see(h:Ow w base E v l):af w E v l:=World.ownsRow.sees h
theorem Ow.fr(h:Ow w base E v l)(d:Fr w w'):Ow w' base E v l:=EK h d
theorem Ow.rebase(h:Ow w base E v l){b:Nat}(d:b<=base):Ow w b E v l:=tH h d
theorem Ow.drew(h:Ow w base E v l):Ow w.drew base E v l:=h
theorem Ow.kept{d:Option Nat}(h:Ow w base E v l)(e:w.grownBy w' d)(m:v.ownBlock=none\/v.ownBlock≠d):Ow w' base E v l:=World.ownsRow.kept h e m
theorem Ow.chg{G:Nat->Prop}(h:Ow w base E v l)(m:ak G w w')(o:∀ k,v.ownBlock=some k->¬G k):Ow w' base E v l:=by
 obtain⟨q,d⟩:=h;refine⟨q,?_⟩;rcases d with d | ⟨g,y,z,e,A,D,r⟩;· exact .inl d
 · exact .inr ⟨g,y,z,e,A,m.heap D (o g (by rw [e];rfl)),r⟩
theorem Ow.ne_cells(h:Ow w base E v l){b:Nat}{o:Array Value}{T:TypeId}{f:Nat × Nat}(d:w.heap[b]? = some (.cells o T f))(q:T≠E.e):v.ownBlock≠some b:=by
 intro e;rcases h.2 with⟨m,_⟩ | ⟨g,z,A,m,_,y,_⟩;· rw [m]at e;cases e
 · rw [m]at e;simp only [Value.ownBlock,iS]at e;subst e;rw [y]at d;simp only [iS,Obj.cells.injEq]at d;exact q d.2.1.symm
theorem Ow.shape(h:Ow w base E v l):∃ a n e,v=.slice a n e:=by
 rcases h.2 with⟨d,_⟩ | ⟨g,e,m,d,_⟩;· exact⟨_,_,_,d⟩
 · exact⟨_,_,_,d⟩
theorem Ow.shape'(h:Ow w base E v l):∃ a e,v=.slice a l.length e:=by
 rcases h.2 with⟨d,m⟩ | ⟨g,e,o,d,_⟩;· exact⟨none,0,by rw [d,m]⟩
 · exact⟨_,_,d⟩
theorem Ow.lt(h:Ow w base E v l):∀ k,v.ownBlock=some k->base<=k/\k<w.heap.size:=World.ownsRow.lt h
theorem af.le(h:af w E v l):l.length<=maxLen:=gF.len h
theorem af.shape(h:af w E v l):∃ a d,v=.slice a l.length d/\l.length<=d/\d<=maxLen/\(a=none->l=[]/\d=0):=by
 obtain⟨_,a,d,o,q,y,m,_⟩:=h;exact⟨a,d,o,q,y,fun e=>⟨ib (m e).1,(m e).2⟩⟩
theorem af.cells(h:af w E v l)(q:l≠[]):∃ b m d,v=.slice (some ⟨b,m,none⟩) l.length d/\l.length<=d/\d<=maxLen /\
  ∀ i (o:i<l.length) j,j<E.k->∀ u,(E.enc l[i])[j]? = some u->w.cell? ⟨b,m+(i*E.k+j),none⟩=some u:=by
 obtain⟨_,a,d,y,z,A,G,e⟩:=h;have:l.length≠0:=by simpa using q
 rcases e with e | ⟨b,m,rfl,e⟩;· exact absurd e this
 · exact⟨b,m,d,y,z,A,fun i o j D u F=>e _ u (by rw [E.cells_at l i o j D];exact F)⟩
theorem af.at1(h:af w E v l)(f:α->Value)(m:E.enc=fun x=>[f x])(q:l≠[]):∃ b e d,v=.slice (some ⟨b,e,none⟩) l.length d/\l.length<=d/\d<=maxLen /\
  ∀ i (o:i<l.length),w.cell? ⟨b,e+i,none⟩=some (f l[i]):=by
 obtain⟨b,e,d,y,z,A,D⟩:=h.cells q;have F:E.k=1:=by rw [<- E.len E.zero,m];rfl
 refine⟨b,e,d,y,z,A,fun i o=>?_⟩;have:=D i o 0 (by omega) (f l[i]) (by rw [m];rfl);simpa [F] using this
theorem af.take{a:Option Addr}{n m:Nat}(h:af w E (.slice a n m) l){j:Nat}(F:j<=l.length):af w E (.slice a j m) (l.take j):=by
 obtain⟨G,I,J,o,K,z,q,d⟩:=h;simp only [ed]at o;obtain⟨rfl,rfl,rfl⟩:=o;have A:(l.take j).length=j:=by simp;omega
 refine⟨E.length_cells _,a,m,by rw [A],by omega,z,fun e=>⟨by have:=(q e).1;omega,(q e).2⟩,?_⟩;rcases d with d | ⟨b,D,rfl,d⟩;· left;omega
 · right;refine⟨b,D,rfl,fun i u y=>d i u ?_⟩;have e:=E.cells_append (l.take j) (l.drop j);rw [kI]at e;rw [e,vR (pS.1 y).1];exact y
theorem Ow.atHead(h:Ow w base E v l)(e:l≠[]):∃ g d,v=.slice (some ⟨g,0,none⟩) l.length d/\base<=g/\g<w.heap.size/\l.length<=d/\d<=maxLen:=by
 rcases h.2 with⟨_,m⟩ | ⟨g,d,D,o,q,y,z,A,_⟩;· exact absurd (ib m) e
 · exact⟨g,d,o,q,(aR.1 y).1,z,A⟩
theorem Ow.take{g n m:Nat}(h:Ow w base E (.slice (some ⟨g,0,none⟩) n m) l){j:Nat}(z:j<=l.length):Ow w base E (.slice (some ⟨g,0,none⟩) j m) (l.take j):=by
 have o:(l.take j).length=j:=by simp;omega
 obtain⟨L,A⟩:=h;refine⟨E.length_cells _,?_⟩;rcases A with⟨d,_⟩ | ⟨M,O,D,d,F,G,Q,I,J,K⟩;· cases d
 · simp only [ed,iS,Addr.mk.injEq,iR]at d;obtain⟨rfl,rfl,rfl⟩:=d;refine .inr ⟨g,m,D,by rw [o],F,G,by omega,I,J,?_⟩;rw [o];have e:=E.cells_append (l.take j) (l.drop j);rw [kI,<- K]at e;have y:(E.cells (l.take j)).length=j*E.k:=(by rw [E.length_cells,o]);have q:=fX (List.take (j*E.k)) e;rw [List.take_take,<- y,List.take_left]at q;rw [y,gr (cW _ z)]at q;exact q
structure cQ (base:Nat) (E:al P α) (l:List α) (w:World) (v v':Value) (w':World):Prop where
 own:Ow w' base E v' l
 chg:w.grownBy w' v.ownBlock
 fresh:∀ b,v'.ownBlock=some b->v.ownBlock=some b\/w.heap.size<=b
theorem cQ.below{d:World}{B:Nat}(h:cQ base E l' w v v' w')(e:Ow w base E v l)(m:Below B d w)(y:B<=base)(o:B<=w.heap.size):Below B d w':=
 m.grown h.chg o (fun k q=>by have:=(e.lt k q).1;omega)
theorem cQ.under{e:World}(h:cQ base E l w v v' w')(d:Fr e w):cQ base E l e v v' w':=
 ⟨h.own, ⟨h.chg.os.trans d.os, h.chg.tape.trans d.tape, h.chg.output.trans d.output, aq d.size h.chg.size, fun k m o => (h.chg.block k (jN m d.size) o).trans (mS d k m)⟩,
  fun b q => (h.fresh b q).imp id (fun h => aq d.size h)⟩
theorem cQ.chg'(h:cQ base E l w v v' w'):ak (fun k=>v.ownBlock=some k) w w':=lK h.chg
theorem cQ.size(h:cQ base E l w v v' w'):w.heap.size<=w'.heap.size:=h.chg.size
theorem cQ.other{β:Type}{F:al P β}{x:Value}{m:List β}{d:Nat}(h:cQ base E l w v v' w')(e:Ow w d F x m)(o:x.ownBlock=none\/x.ownBlock≠v.ownBlock):Ow w' d F x m:=e.kept h.chg o
theorem cQ.apart{β:Type}{F:al P β}{x:Value}{m:List β}{q:Nat}(h:cQ base E l w v v' w')(y:Ow w q F x m)(z:x.ownBlock=none\/x.ownBlock≠v.ownBlock):x.ownBlock=none\/x.ownBlock≠v'.ownBlock:=by
 rcases z with d | d;· exact .inl d
 · rcases hxb:x.ownBlock with _ | b;· exact .inl rfl
   · refine .inr fun e=>?_;rcases h.fresh b e.symm with o | o;· exact d (by rw [hxb,o])
     · have:=(y.lt b hxb).2;omega
theorem iY(E:al P α)(w:World)(l:List α)(d:Array Value)(h:TypeId)(n:Nat)(m:n=l.length)(o:d.toList=E.cells l)(q:l.length<=maxLen):af (w.alloc (.cells d h)) E (.slice (some ⟨w.heap.size,0,none⟩) n n) l:=by
 subst m;refine⟨E.length_cells l,_,_,rfl,ag _,q,by simp,.inr ⟨w.heap.size,0,rfl,fun j u e=>?_⟩⟩;rw [js,vG _ _ _ _ rfl];rw [<- o]at e;simpa using e
theorem iC(E:al P α)(w:World)(d:Array Value)(l:List α)(n:Nat)(m:n=l.length)(o:l.length<=maxLen)(q:base<=w.heap.size)(e:d.toList=E.cells l:=by rfl):Ow (w.alloc (.cells d E.e)) base E (.slice (some ⟨w.heap.size,0,none⟩) n n) l:=by
 subst m;have h:d.size=l.length*E.k:=by rw [<- E.length_cells,<- e];simp
 exact⟨E.length_cells l,.inr ⟨w.heap.size,l.length,d,rfl,q,au w _ _ rfl,ag _,o,h,by rw [<- h,<- Array.length_toList,cu];exact e⟩⟩
theorem qF(E:al P α)(w:World)(base:Nat)(t d:TypeId)(e:P.underlying t=some (.slice E.e))(h:Ow w base E v l){x:Value}{m:List α}(o:af w E x m)
  (hn:l.length+m.length<=2147483648) (hbase:base<=w.heap.size) :
  ∃ v' w',(Builtin.append_ #[t,t] d #[v,x]).run P w=.ok v' w'/\cQ base E (l++m) w v v' w':=by
 obtain⟨i,q,y,z,A⟩:=lR E.info
 obtain ⟨v', w', D, F, G, I⟩ := DD (P := P) w base t d E.e i E.z E.k E.bytes e q y z A
  (by have:=fX List.length E.zs;rw [E.len]at this;simpa using this) E.pos v l.length (E.cells l) h x m.length (E.cells m) o (E.cells_mem m)
  (by unfold maxLen; omega) (by have := E.small; calc (l.length + m.length) * E.bytes ≤ 2147483648 * 64 := b7 hn this
                                   _ ≤ 140737488355328 := by omega) hbase
 refine⟨v',w',D,⟨?_,G,I⟩⟩;unfold Ow;rw [E.cells_append,an];exact F
theorem aN(E:al P α){d:Array Oper}{rest:List Oper}{o:Oper}{a:Act}{Q:Exit->Act->World->Prop}(e:o.guard=none)(s x:Operand)(t:TypeId)
  (ho:o.op=.call { callee:=.builtin .append,args:=#[s,x],argTypes:=#[t,t] }) (ht:P.underlying t=some (.slice E.e))
  (base:Nat) (hs:a.eval s=v) (hown:Ow w base E v l) (y:Value) (m:List α) (hx:a.eval x=y) (hsee:af w E y m) (hn:l.length+m.length<=2147483648) (hbase:base<=w.heap.size)
  (h:∀ v' w',cQ base E (l++m) w v v' w'->wpList P d Q rest (a.put o.dst v') w'):wpList P d Q (o::rest) a w:=by
 refine wpList_plain e fun K q=>?_;obtain⟨v',w',z,A⟩:=qF (P:=P) E w base t o.type ht hown hsee hn hbase;unfold Oper.wp execOp;simp only [ho,resolve,invoke,builtin,Sem.run_bind,Sem.run_pure,Result.andThen_ok,List.map_toArray,fL,lw,hs,hx,z];exact q _ _ (h v' w' A)
theorem qx(E:al P α){d:Array Oper}{o:Oper}{a:Act}{w:World}{K:Act->World->Prop}{Q:Exit->Act->World->Prop}{F:Prop}(e:o.guard=none)(s x:Operand)(t:TypeId)
  (ho:o.op=.call { callee:=.builtin .append,args:=#[s,x],argTypes:=#[t,t] }) (ht:P.underlying t=some (.slice E.e))
  (base:Nat) (hs:a.eval s=v) (hown:Ow w base E v l) (y:Value) (m:List α) (hx:a.eval x=y) (hsee:af w E y m) (hn:l.length+m.length<=2147483648) (hbase:base<=w.heap.size)
  (h:∀ v' w',cQ base E (l++m) w v v' w'->K (a.put o.dst v') w'):if Region.wanted o (yielded d a.tmps)=true then Oper.wp P o a w K Q else F:=by
 have q:Region.wanted o (yielded d a.tmps)=true:=by simp [Region.wanted,e]
 rw [ai q];obtain⟨v',w',z,A⟩:=qF (P:=P) E w base t o.type ht hown hsee hn hbase;unfold Oper.wp execOp;simp only [ho,resolve,invoke,builtin,Sem.run_bind,Sem.run_pure,Result.andThen_ok,List.map_toArray,fL,lw,hs,hx,z];exact h v' w' A
theorem x9(E:al P α){d:Array Oper}{o:Oper}{a:Act}{K:Act->World->Prop}{Q:Exit->Act->World->Prop}{F:Prop}{w:World}(e:o.guard=none)(s x:Operand)(t:TypeId)
  (ho:o.op=.call { callee:=.builtin .append,args:=#[s,x],argTypes:=#[t,t] }) (ht:P.underlying t=some (.slice E.e))
  (base:Nat) (hs:a.eval s=v) (hown:Ow w base E v l) (c:List α) (cs:Array Value) (e':TypeId) (n:Nat) (hc:cs.toList=E.cells c) (hcn:n=c.length) (hx:a.eval x=.slice (some ⟨w.heap.size,0,none⟩) n n) (hn:l.length+c.length<=2147483648) (hbase:base<=w.heap.size)
  (h:∀ v' w',cQ base E (l++c) w v v' w'->K (a.put o.dst v') w'):if Region.wanted o (yielded d a.tmps)=true then Oper.wp P o a (w.alloc (.cells cs e')) K Q else F:=
 qx E e s x t ho ht base hs (hown.fr ((Fr.refl w).alloc _)) _ c hx (iY E w c cs e' n hcn hc (by unfold maxLen;omega)) hn (by simp;omega) fun v' w' m=>h v' w' (m.under ((Fr.refl w).alloc _))
theorem oD(E:al P α){d:Array Oper}{o:Oper}{a:Act}{K:Act->World->Prop}{Q:Exit->Act->World->Prop}{F:Prop}{w:World}(e:o.guard=none)(s x:Operand)(t:TypeId)
  (ho:o.op=.call { callee:=.builtin .append,args:=#[s,x],argTypes:=#[t,t] }) (ht:P.underlying t=some (.slice E.e))
  (base:Nat) (hs:a.eval s=v) (hown:Ow w base E v l) (c:List α) (cs:Array Value) (e':TypeId) (n:Nat) (hc:cs.toList=E.cells c) (hcn:n=c.length) (hx:a.eval x=.slice (some ⟨w.heap.size,0,none⟩) n n) (hn:l.length+c.length<=2147483648) (hbase:base<=w.heap.size)
  (h:∀ v' w',cQ base E (l++c) w v v' w'->K (a.put o.dst v') w'):if Region.wanted o (yielded d a.tmps)=true then Oper.wp P o a (w.alloc (.cells cs e')).drew K Q else F:=
 qx E e s x t ho ht base hs ((hown.fr ((Fr.refl w).alloc _)).drew) _ c hx (iY E w c cs e' n hcn hc (by unfold maxLen;omega)).drew hn (by simp;omega) fun v' w' m=>h v' w' (m.under ((Fr.refl w).alloc _).drew)
theorem aM(E:al P α){d:Array Oper}{rest:List Oper}{o:Oper}{a:Act}{Q:Exit->Act->World->Prop}{w:World}(e:o.guard=none)(s x:Operand)(t:TypeId)
  (ho:o.op=.call { callee:=.builtin .append,args:=#[s,x],argTypes:=#[t,t] }) (ht:P.underlying t=some (.slice E.e))
  (base:Nat) (hs:a.eval s=v) (hown:Ow w base E v l) (c:List α) (cs:Array Value) (e':TypeId) (n:Nat) (hc:cs.toList=E.cells c) (hcn:n=c.length) (hx:a.eval x=.slice (some ⟨w.heap.size,0,none⟩) n n) (hn:l.length+c.length<=2147483648) (hbase:base<=w.heap.size)
  (h:∀ v' w',cQ base E (l++c) w v v' w'->wpList P d Q rest (a.put o.dst v') w'):wpList P d Q (o::rest) a (w.alloc (.cells cs e')):=by
 refine aN E e s x t ho ht base hs (hown.fr ((Fr.refl w).alloc _)) _ c hx (iY E w c cs e' n hcn hc (by unfold maxLen;omega)) hn (by simp;omega) fun v' w' m=>h v' w' (m.under ((Fr.refl w).alloc _))
end
theorem DC(w:World)(d dst e:TypeId)(z:P.underlying d=some (.slice e))(A:P.underlying e=some (.int .u8))(D:P.underlying dst=some .string)
  {v:Value} {n:Nat} {l:List UInt8} (h:gF w 1 v n (l.map u8)):(convert d dst v).run P w=.ok (S l) w:=by
 obtain⟨F,a,q,rfl,L,M,G,o⟩:=h;have y:l.length=n:=by simpa using F
 have key:∀ (b m:Nat),(∀ j u,(l.map u8)[j]? = some u->w.cell? ⟨b,m+j,none⟩=some u)->(convert d dst (.slice (some ⟨b,m,none⟩) n q)).run P w=.ok (S l) w:=by intro b m o;have I:=run_convert_bytes_arg (P:=P) (w:=w) d e z A b m n q (l.map fun c=>(c.toNat:Int)) (by simpa using y) (fun j J=>o j _ (by simp [List.getD,y,J])) dst D;rw [I];simp only [strOfNums,mL];congr 3;rw [show((fun n:Int=>UInt8.ofNat n.toNat) ∘ fun c:UInt8=>(c.toNat:Int))=id from by funext c;simp];simp
 cases a with
 | none=>obtain⟨rfl,rfl⟩:=G rfl;obtain rfl:l=[]:=ib y;exact run_convert_bytes_nil (P:=P) (w:=w) d e z A 0 0 dst D
 | some a=>
  rcases o with rfl | ⟨b,m,K,o⟩;· obtain rfl:l=[]:=ib y;rw [run_convert_bytes_string w d dst e _ 0 q z A D,run_bytesToString w _ 0 q [] (by simp [loadCells,loadCellsFrom])];rfl
  · obtain rfl:=ez K;exact key b m o
theorem De(E:al P UInt8)(d:E.enc=fun c=>[u8 c])(s:List UInt8):Lib.strCells ⟨s.toArray⟩=E.cells s:=by
 have:E.cells s=s.map u8:=by
  unfold al.cells;rw [d];induction s with
  | nil=>rfl
  | cons x l e=>simp_all
 rw [this];simp [Lib.strCells]
theorem DF(E:al P UInt8)(w:World)(base:Nat)(t u m:TypeId)(q:P.underlying t=some (.slice E.e))(y:P.underlying u=some .string)(K:E.enc=fun c=>[u8 c])(O:E.z=.int .u8 0)(Q:E.bytes=1)
  {v:Value} {l:List UInt8} (hown:Ow w base E v l) (s:List UInt8) (hn:l.length+s.length<=2147483648) (hbase:base<=w.heap.size) :
  ∃ v' w',(Builtin.append_ #[t,u] m #[v,S s]).run P w=.ok v' w'/\cQ base E (l++s) w v v' w':=by
 obtain⟨i,z,A,o,D⟩:=lR E.info;have I:E.k=1:=by rw [<- E.len E.zero,K];rfl
 have d:(⟨s.toArray⟩:ByteArray).size=s.length:=by simp [ByteArray.size]
 rw [O]at A;rw [I]at o;rw [Q]at D;have h:=hown;unfold Ow at h;rw [I]at h;obtain⟨v',w',F,L,R,_⟩:=Lib.run_append_own_string (P:=P) w base t u m E.e i q y z A o D v l.length (E.cells l) h ⟨s.toArray⟩ (by rw [d];unfold maxLen;omega) (by rw [d];omega) hbase;refine⟨v',w',F,⟨?_,R,?_⟩⟩;· unfold Ow;rw [E.cells_append,an,I,<- De E K s];rw [d]at L;exact L
 · intro b J;rcases h.2 with⟨rfl,T⟩ | ⟨g,G,M,rfl,ab,U,ac,aj,V,av⟩;· have X:l=[]:=ib T;subst X;obtain⟨v2,w2,e,Y,_,_⟩:=Lib.run_append_own_string (P:=P) w w.heap.size t u m E.e i q y z A o D (.slice none 0 0) 0 [] (World.ownsRow_nil w _ E.e 1) ⟨s.toArray⟩ (by rw [d];unfold maxLen;simp at hn ⊢;omega) (by rw [d];simp at hn ⊢;omega) (ag _);rw [F]at e;cases e;exact .inr (Y.lt b J).1
   · by_cases Z:l.length+s.length<=G;· have a2:M.size=G:=(by simpa using V);have e:=Lib.run_append_room_string (P:=P) w t u m E.e i q y z o g l.length G M U ⟨s.toArray⟩ (by rw [d];exact Z) (by rw [d];omega);rw [F]at e;cases e;exact .inl J
     · have aa:∀ j u,(E.cells l)[j]? = some u->w.cell? ((⟨g,0,none⟩:Addr).add j)=some u:=h.cells (g:=g) rfl;have e:=Lib.run_append_grow_string (P:=P) w t u m E.e i (.int .u8 0) q y z A ⟨g,0,none⟩ l.length G (E.cells l) (by rw [o];simpa using h.1) aa ⟨s.toArray⟩ (by rw [d];omega) (by rw [d];omega) (by rw [D];exact growslice_fits (by rw [d];omega) (by rw [d];omega));rw [F]at e;cases e;simp [Value.ownBlock]at J;exact .inr (by omega)
theorem ww(E:al P UInt8){w:World}{d:Array Oper}{rest:List Oper}{o:Oper}{a:Act}{Q:Exit->Act->World->Prop}(e:o.guard=none)(s x:Operand)(t u:TypeId)
  (ho:o.op=.call { callee:=.builtin .append,args:=#[s,x],argTypes:=#[t,u] }) (ht:P.underlying t=some (.slice E.e)) (hu:P.underlying u=some .string) (henc:E.enc=fun c=>[u8 c]) (hz:E.z=.int .u8 0) (hb:E.bytes=1)
  (base:Nat) {v:Value} {l:List UInt8} (hs:a.eval s=v) (hown:Ow w base E v l) (m:List UInt8) (hx:a.eval x=S m) (hn:l.length+m.length<=2147483648) (hbase:base<=w.heap.size)
  (h:∀ v' w',cQ base E (l++m) w v v' w'->wpList P d Q rest (a.put o.dst v') w'):wpList P d Q (o::rest) a w:=by
 refine wpList_plain e fun K q=>?_;obtain⟨v',w',y,z⟩:=DF (P:=P) E w base t u o.type ht hu henc hz hb hown m hn hbase;unfold Oper.wp execOp;simp only [ho,resolve,invoke,builtin,Sem.run_bind,Sem.run_pure,Result.andThen_ok,List.map_toArray,fL,lw,hs,hx,y];exact q _ _ (h v' w' z)
theorem oH(E:al P UInt8)(w:World)(d dst:TypeId)(e:P.underlying d=some (.slice E.e))(m:P.underlying E.e=some (.int .u8))(o:P.underlying dst=some .string)
  (hk:E.k=1) (henc:E.enc=fun c=>[u8 c]) {v:Value} {l:List UInt8} (h:af w E v l):(convert d dst v).run P w=.ok (S l) w:=by
 refine DC (P:=P) w d dst E.e e m o (n:=l.length) ?_;have:E.cells l=l.map u8:=by
  clear h
  unfold al.cells;rw [henc];induction l with
  | nil=>rfl
  | cons x l q=>simp_all
 unfold af at h;rw [hk,this]at h;exact h
end
end Go.Fk
