/- Lemmas for ThreeTurned. -/
import Derived.WalkSpells
import Derived.WalkLawsBesides
import Derived.Deep.RegionLaw
import Derived.BigQuiet
import Derived.Deep.DeepCutAuto
import Derived.Deep.CutBlock
import Derived.Deep.RegionHeld3
import Derived.StillTailTactics
set_option linter.all false
set_option maxHeartbeats 8000000
namespace Go.Fk
abbrev Z0₁:=List UInt8
def ω₁{p:Prop}(h:p:=by omega):p:=h
def σ₁{p:Prop}(h:p:=by simp):p:=h
abbrev amQb:=@List.length_append
abbrev alQb:=@Nat.le_refl
abbrev afQb:=@if_pos
abbrev aR:=@Array.getElem?_eq_some_iff
abbrev arQb:=@Nat.zero_le
abbrev ayQb:=@Nat.le_trans
abbrev aLQb:=@List.length_cons
abbrev cwQb:=@List.take_of_length_le
abbrev bQQb:=@Nat.mul_le_mul_right
abbrev bHQb:=@Nat.mul_le_mul
abbrev beQb:=@Nat.add_mul
abbrev dYQb:=@List.take_length
abbrev kdQb:=@List.eq_nil_of_length_eq_zero
abbrev dDQb:=@List.map_cons
abbrev fIQb:=@Nat.min_eq_left
abbrev jCQb:=@List.take_append_drop
abbrev eeQb:=@List.mem_map
abbrev dCQb:=@Nat.one_mul
abbrev dpQb:=@congrArg
abbrev jU:=@Option.some.inj
abbrev iHQb:=@Nat.zero_add
abbrev pDQb:=@List.getElem?_eq_some_iff
abbrev q6Qb:=@List.getElem?_append_left
abbrev mUQb:=@Option.some.injEq
abbrev nJQb:=@Nat.lt_of_lt_of_le
abbrev jEQb:=@List.map_map
abbrev sEQb:=@List.getElem?_append_right
abbrev oA:=@Go.RowKit.Below.heap_setCell
abbrev pp:=@Go.World.drewN_drewN
abbrev nKQb:=@List.take_left
abbrev mY:=@Go.Addr.add_lit
abbrev oqQb:=@Nat.add_comm
abbrev oxQb:=@List.map_nil
abbrev pf:=@Go.info_parts
abbrev umQb:=@List.take_take
abbrev sL:=@Go.RowKit.Below.block
abbrev C6:=@Array.length_toList
open Go.RowKit
abbrev S(l:Z0₁):Value:=.string ⟨l.toArray⟩
abbrev u8(c:UInt8):Value:=.int .u8 c.toNat
abbrev N(n:Nat):Value:=.int .i64 n
def SZ(l:Z0₁)(n:Nat):(⟨l.toArray⟩:ByteArray).extract 0 n=⟨(l.take n).toArray⟩:=by
 rw[ByteArray.extract_mk];simp
def Ta(l:Z0₁)(n m:Nat)(h:l.length<=m):(⟨l.toArray⟩:ByteArray).extract n m=⟨(l.drop n).toArray⟩:=by
 rw[ByteArray.extract_mk,cwQb (by simp;omega)]
def aB(w:World)(o:Obj)(n:Nat)(h:n=w.heap.size):(w.alloc o).heap[n]?=some o:=by subst h;exact heap_alloc_new w o
def jk(w:World)(o:Obj)(n:Nat)(h:n<w.heap.size):(w.alloc o).heap[n]?=w.heap[n]?:=Below.heap_alloc w o n h
def eW(w:World)(o:Obj):(w.alloc o).heap.size=w.heap.size+1:=σ₁
def Yi:Value->Nat | .string b=>b.size | _=>0
def ad{p:Prop}(h:p):Hid p:=h
def _root_.Go.RowKit.Hid.z{P:Program}{f:FuncId}{a:Array Value}{w:World}{R d:Ending->World->Prop}(h:Hid (Calls P f a w R))(k:∀e w',R e w'->d e w'):Calls P f a w d:=Calls.mono h k
def Fr(w w':World):Prop:=Below w.heap.size w w'
def Fr.refl(w:World):Fr w w:=Below.refl _ _
def Fr.trans{a b c:World}(h:Fr a b)(k:Fr b c):Fr a c:=Below.trans h (Below.mono k h.size)
def Fr.drew{a w:World}(h:Fr a w):Fr a w.drew:=Below.drew h
def Fr.alloc{a w:World}(h:Fr a w)(o:Obj):Fr a (w.alloc o):=Below.alloc h h.size o
def Fr.size{a w:World}(h:Fr a w):a.heap.size<=w.heap.size:=Below.size h
def Fr.cell{w w':World}(h:Fr w w'){p:Addr}{v:Value}(d:w.cell? p=some v):w'.cell? p=some v:=
 (Below.cell h (World.block_lt_of_cell? w p d)).trans d
def Fr.heap{w w':World}(h:Fr w w'){b:Nat}{o:Obj}(d:w.heap[b]?=some o):w'.heap[b]?=some o:=
 (sL h b (aR.1 d).1).trans d
def Fr.below{B:Nat}{a w w':World}(h:Below B a w)(d:B<=w.heap.size)(k:Fr w w'):Below B a w':=Below.trans h (Below.mono k d)
def Fr.grown{B:Nat}{a w w':World}{d:Option Nat}(h:Below B a w)(e:w.grownBy w' d)(m:B<=w.heap.size)(o:∀k,d=some k->B<=k):Below B a w':=Below.grown h e m o
def Fr.own{a w w':World}{d:Option Nat}(h:Fr a w)(e:w.grownBy w' d)(m:∀k,d=some k->a.heap.size<=k):Fr a w':=Below.grown h e h.size m
def Qt(w w':World):Prop:=∃n,w'=w.drewN n
def Qt.refl(w:World):Qt w w:=⟨0,rfl⟩
def Qt.trans{a b c:World}(h:Qt a b)(k:Qt b c):Qt a c:=by
 obtain⟨n,rfl⟩:=h;obtain⟨m,rfl⟩:=k;exact⟨n+m,pp a n m⟩
def Qt.drewN(w:World)(n:Nat):Qt w (w.drewN n):=⟨n,rfl⟩
def Qt.fr{w w':World}(h:Qt w w'):Fr w w':=by
 obtain⟨n,rfl⟩:=h;exact below_drewN (Below.refl _ _) n
def Fr.drewN{a w:World}(h:Fr a w)(n:Nat):Fr a (w.drewN n):=below_drewN h n
structure ai (G:Nat->Prop) (w w':World):Prop where
 os:w'.os=w.os
 tape:w'.tape=w.tape
 output:w'.output=w.output
 size:w.heap.size<=w'.heap.size
 block:∀k,k<w.heap.size->¬G k->w'.heap[k]?=w.heap[k]?
def ai.refl(G:Nat->Prop)(w:World):ai G w w:=⟨rfl,rfl,rfl,alQb _,λ_ _ _=>rfl⟩
def Fr.chg{w w':World}(h:Fr w w')(G:Nat->Prop):ai G w w':=⟨Below.os h,Below.tape h,Below.output h,Below.size h,λk d _=>sL h k d⟩
def nA{w w':World}{d:Option Nat}(h:w.grownBy w' d):ai (λk=>d=some k) w w':=⟨h.os,h.tape,h.output,h.size,λk m o=>h.block k m (λe=>o e.symm)⟩
def ai.mono{G G':Nat->Prop}{w w':World}(h:ai G w w')(e:∀k,k<w.heap.size->G k->G' k):ai G' w w':=⟨h.os,h.tape,h.output,h.size,λk d m=>h.block k d (λg=>m (e k d g))⟩
def ai.trans{G G':Nat->Prop}{a b c:World}(h:ai G a b)(k:ai G' b c)(m:∀i,i<a.heap.size->G' i->G i):ai G a c:=
 ⟨k.os.trans h.os,k.tape.trans h.tape,k.output.trans h.output,ayQb h.size k.size,λi d e=>(k.block i (nJQb d h.size) (λg=>e (m i d g))).trans (h.block i d e)⟩
def ai.fr{G:Nat->Prop}{w w':World}(h:ai G w w')(e:∀k,k<w.heap.size->¬G k):Fr w w':=⟨h.os,h.tape,h.output,h.size,λk d=>h.block k d (e k d)⟩
def ai.below{G:Nat->Prop}{B:Nat}{a w w':World}(h:Below B a w)(k:ai G w w')(d:B<=w.heap.size)(e:∀i,G i->B<=i):Below B a w':=
 Below.trans h ⟨k.os,k.tape,k.output,k.size,λi m=>k.block i (nJQb m d) (λg=>by have:=e i g;omega)⟩
def ai.heap{G:Nat->Prop}{w w':World}(h:ai G w w'){b:Nat}{o:Obj}(d:w.heap[b]?=some o)(e:¬G b):w'.heap[b]?=some o:=
 (h.block b (aR.1 d).1 e).trans d
def aK{w:World}{b:Nat}{d:Array Value}{T:TypeId}{f:Nat × Nat}(h:w.heap[b]?=some (.cells d T f))(i:Nat):w.cell? ⟨b,i,none⟩=d[i]?:=by simp[World.cell?,h]
def a8{w:World}{b:Nat}{d:Array Value}{T:TypeId}(h:w.heap[b]?=some (.cells d T (0,0)))(i:Nat):w.frozen? ⟨b,i,none⟩=false:=by simp[World.frozen?,h]
def aJ{w:World}{b:Nat}{d:Array Value}{T:TypeId}{f:Nat × Nat}(h:w.heap[b]?=some (.cells d T f))(i:Nat)(u:Value):(w.setCell ⟨b,i,none⟩ u).heap[b]?=some (.cells (d.setIfInBounds i u) T f):=by
 simp[World.setCell,Array.getElem?_modify,h]
def a9(w:World)(a:Addr)(u:Value):ai (λk=>k=a.block) w (w.setCell a u):=
 ⟨rfl,rfl,rfl,by simp[World.setCell],λk _ d=>oA _ _ _ _ d⟩
def vI(G:Nat->Prop)(w:World)(n:Nat):ai G w (w.drewN n):=(Fr.drewN (Fr.refl w) n).chg G
def lZ(w:World)(k:Nat)(v:Value)(n:Nat)(xs:List Value):Prop:=
 xs.length = n * k ∧ ∃a d, v = .slice a n d ∧ n ≤ d ∧ d ≤ maxLen ∧ (a = none → n = 0 ∧ d = 0) ∧
  (n=0\/∃b e,a=some ⟨b,e,none⟩/\∀j u,xs[j]?=some u->w.cell? ⟨b,e+j,none⟩=some u)
def lZ.nil(w:World)(k:Nat):lZ w k (.slice none 0 0) 0 []:=
 ⟨σ₁,none,0,rfl,alQb _,arQb _,λ_=>⟨rfl,rfl⟩,.inl rfl⟩
def lZ.fr{w w':World}{k:Nat}{v:Value}{n:Nat}{xs:List Value}(h:lZ w k v n xs)(e:Fr w w'):lZ w' k v n xs:=by
 obtain⟨m,a,o,z,A,D,F,d⟩:=h;refine⟨m,a,o,z,A,D,F,?_⟩;rcases d with d | ⟨b,G,I,d⟩;·exact .inl d
 ·exact .inr ⟨b,G,I,λj u J=>e.cell (d j u J)⟩
def lZ.len{w:World}{k:Nat}{v:Value}{n:Nat}{xs:List Value}(h:lZ w k v n xs):n<=maxLen:=by
 obtain⟨_,a,d,_,e,m,_⟩:=h;omega
def _root_.Go.World.ownsRow.sees{w:World}{base:Nat}{e:TypeId}{k:Nat}{v:Value}{n:Nat}{xs:List Value}(h:w.ownsRow base e k v n xs):lZ w k v n xs:=by
 obtain⟨z,A⟩:=h;refine⟨z,?_⟩;rcases A with⟨m,rfl⟩ | ⟨g,D,o,m,L,F,G,I,M,J⟩;·exact⟨none,0,m,alQb _,arQb _,λ_=>⟨rfl,rfl⟩,.inl rfl⟩
 ·refine⟨_,D,m,G,I,σ₁,.inr ⟨g,0,rfl,λj u d=>?_⟩⟩;have K:w.cell? ⟨g,0+j,none⟩=o[j]?:=(by rw[iHQb];exact cell_of_row w g j o e (0,0) F);rw[K];rw[<- J,List.getElem?_take]at d;split at d;·simpa using d
  ·cases d
def Pn{w w':World}{base:Nat}{e:TypeId}{k:Nat}{v:Value}{n:Nat}{xs:List Value}(h:w.ownsRow base e k v n xs)(m:Fr w w'):w'.ownsRow base e k v n xs:=by
 obtain⟨o,d⟩:=h;refine⟨o,?_⟩;rcases d with d | ⟨g,z,A,D,F,G,r⟩;·exact .inl d
 ·exact .inr ⟨g,z,A,D,F,m.heap G,r⟩
def AE{w:World}{base m:Nat}{e:TypeId}{k:Nat}{v:Value}{n:Nat}{xs:List Value}(h:w.ownsRow base e k v n xs)(o:m<=base):w.ownsRow m e k v n xs:=by
 obtain⟨z,d⟩:=h;refine⟨z,?_⟩;rcases d with d | ⟨g,A,D,F,o,G,r⟩;·exact .inl d
 ·exact .inr ⟨g,A,D,F,ω₁,G,r⟩
section
variable {P:Program}
def JQ(base:Nat)(e:TypeId)(k:Nat)(n:Nat)(xs:List Value)(w:World)(v v':Value)(w':World):Prop:=
 w'.ownsRow base e k v' n xs/\w.grownBy w' v.ownBlock/\(∀b,v'.ownBlock=some b->v.ownBlock=some b\/w.heap.size<=b)
theorem N1(w:World)(base:Nat)(t F e:TypeId)(i:TypeInfo)(z:Value)(size bytes:Nat)(G:P.underlying t=some (.slice e))(I:P.info? e=some i)(K:i.zero=some z)
  (hsize:i.size=size) (hby:i.bytes=bytes) (hzs:z.cells.size=size) (hsz:0<size)
  (v:Value) (n:Nat) (xs:List Value) (hown:w.ownsRow base e size v n xs)
  (a:Addr) (m c:Nat) (h:List Value) (hl:h.length=m*size) (hnews:∀j u,h[j]?=some u->w.cell? (a.add j)=some u) (h1:∀u∈h,u.oneCell'=true)
  (h63:n+m<=maxLen) (hbytes:(n+m)*bytes<=140737488355328) (hbase:base<=w.heap.size) :
  ∃v' w',(Builtin.append_ #[t,t] F #[v,.slice (some a) m c]).run P w=.ok v' w'/\JQ base e size (n+m) (xs++h) w v v' w':=by
 rcases hown.2 with⟨rfl,rfl⟩ | ⟨g,J,R,rfl,U,V,X,Y,Z,aa⟩
 ·have L:=kdQb (by simpa using hown.1)
  subst L
  obtain⟨v',w',A,o,d,h4⟩:=run_append_own (P:=P) w w.heap.size t F e i z size bytes G I K hsize hby hzs hsz (.slice none 0 0) 0 [] (World.ownsRow_nil w _ e size) a m c h hl hnews h1 h63 hbytes (alQb _)
  exact⟨v',w',A,AE o hbase,d,λb D=>.inr (o.lt b D).1⟩
 ·by_cases M:n+m<=J
  ·obtain⟨w',A,o,d⟩:=run_append_fits (P:=P) w base t F e i size G I hsize g n J xs hown a m c h hl hnews h1 M
   exact⟨_,w',A,o,d,λb D=>.inl D⟩
  ·have O:=hown.cells (g:=g) rfl
   obtain⟨v',w',A,o,d⟩:=run_append_arg_grows (P:=P) w t F e i z size bytes G I K hsize hby hzs hsz ⟨g,0,none⟩ n J xs hown.1 O a m c h hl hnews ω₁ h63 hbytes
   exact⟨v',w',A,AE o hbase,⟨d.os,d.tape,d.output,d.size,λk Q _=>d.block k Q σ₁⟩,λb D=>.inr (o.lt b D).1⟩
theorem N0(w:World)(base:Nat)(t h e:TypeId)(i:TypeInfo)(z:Value)(size bytes:Nat)(D:P.underlying t=some (.slice e))(F:P.info? e=some i)(I:i.zero=some z)
  (hsize:i.size=size) (hby:i.bytes=bytes) (hzs:z.cells.size=size) (hsz:0<size)
  (v:Value) (n:Nat) (xs:List Value) (hown:w.ownsRow base e size v n xs)
  (x:Value) (m:Nat) (d:List Value) (hsee:lZ w size x m d) (h1:∀u∈d,u.oneCell'=true)
  (h63:n+m<=maxLen) (hbytes:(n+m)*bytes<=140737488355328) (hbase:base<=w.heap.size) :
  ∃v' w',(Builtin.append_ #[t,t] h #[v,x]).run P w=.ok v' w'/\JQ base e size (n+m) (xs++d) w v v' w':=by
 obtain⟨o,a,J,rfl,Q,R,K,A⟩:=hsee
 cases a with
 | none=>
  obtain⟨rfl,rfl⟩:=K rfl
  obtain rfl:d=[]:=kdQb (by simpa using o)
  have L:=run_append_owned_none (P:=P) (w:=w) base t h e i size D F v n xs hown
  exact⟨v,w,L,by simpa using hown,⟨rfl,rfl,rfl,alQb _,λ_ _ _=>rfl⟩,λb M=>.inl M⟩
 | some a=>
  refine N1 w base t h e i z size bytes D F I hsize hby hzs hsz v n xs hown a m J d o ?_ h1 h63 hbytes hbase
  intro j u G
  rcases A with rfl | ⟨b,U,O,A⟩
  ·obtain rfl:d=[]:=kdQb (by simpa using o)
   simp at G
  ·obtain rfl:=jU O
   rw[mY]
   exact A j u G
structure aw (P:Program) (α:Type) where
 e:TypeId
 k:Nat
 bytes:Nat
 zero:α
 z:Value
 enc:α->List Value
 info:(P.info? e).map (λi=>(i.zero,i.size,i.bytes))=some (some z,k,bytes)
 pos:0<k
 small:bytes<=64
 zs:z.cells.toList=enc zero
 len:∀x,(enc x).length=k
 one:∀x,∀u∈enc x,u.oneCell'=true
def aw.cells{α:Type}(E:aw P α)(l:List α):List Value:=(l.map E.enc).flatten
theorem aw.length_cells{α:Type}(E:aw P α)(l:List α):(E.cells l).length=l.length*E.k:=by
 induction l with
 | nil=>simp[aw.cells]
 | cons x l d=>have:E.cells (x::l)=E.enc x++E.cells l:=(by simp[aw.cells]);rw[this,amQb,d,E.len,aLQb,beQb,dCQb,oqQb]
theorem aw.cells_append{α:Type}(E:aw P α)(l l':List α):E.cells (l++l')=E.cells l++E.cells l':=by simp[aw.cells]
theorem aw.cells_mem{α:Type}(E:aw P α)(l:List α):∀u∈E.cells l,u.oneCell'=true:=by
 intro u d;simp only[aw.cells,List.mem_flatten,eeQb]at d;obtain⟨_,⟨x,_,rfl⟩,d⟩:=d;exact E.one x u d
theorem aw.cells_at{α:Type}(E:aw P α):∀(l:List α) (i:Nat) (h:i<l.length) (j:Nat),j<E.k->(E.cells l)[i*E.k+j]?=(E.enc l[i])[j]?:=by
 intro l
 induction l with
 | nil=>intro i h;simp at h
 | cons x l d=>
  intro i h j m;have e:E.cells (x::l)=E.enc x++E.cells l:=by simp[aw.cells]
  cases i with
  | zero=>rw[e,q6Qb (by rw[E.len];omega)];simp
  | succ i=>rw[e,sEQb (by rw[E.len,beQb];omega),E.len];have:(i+1)*E.k+j-E.k=i*E.k+j:=(by rw[beQb];omega);rw[this];exact d i (by simpa using h) j m
def ah{α:Type}(w:World)(E:aw P α)(v:Value)(l:List α):Prop:=lZ w E.k v l.length (E.cells l)
def Ow{α:Type}(w:World)(base:Nat)(E:aw P α)(v:Value)(l:List α):Prop:=w.ownsRow base E.e E.k v l.length (E.cells l)
section
variable {α:Type} {E:aw P α} {w w':World} {v v':Value} {l l':List α} {base:Nat}
theorem ah.nil:ah w E (.slice none 0 0) []:=lZ.nil w E.k
theorem ah.fr(h:ah w E v l)(d:Fr w w'):ah w' E v l:=lZ.fr h d
theorem ah.drew(h:ah w E v l):ah w.drew E v l:=h
theorem Ow.nil:Ow w base E (.slice none 0 0) []:=World.ownsRow_nil _ _ _ _
theorem Ow.see(h:Ow w base E v l):ah w E v l:=World.ownsRow.sees h
theorem Ow.fr(h:Ow w base E v l)(d:Fr w w'):Ow w' base E v l:=Pn h d
theorem Ow.rebase(h:Ow w base E v l){b:Nat}(d:b<=base):Ow w b E v l:=AE h d
theorem Ow.drew(h:Ow w base E v l):Ow w.drew base E v l:=h
theorem Ow.kept{d:Option Nat}(h:Ow w base E v l)(e:w.grownBy w' d)(m:v.ownBlock=none\/v.ownBlock≠d):Ow w' base E v l:=World.ownsRow.kept h e m
theorem Ow.chg{G:Nat->Prop}(h:Ow w base E v l)(m:ai G w w')(o:∀k,v.ownBlock=some k->¬G k):Ow w' base E v l:=by
 obtain⟨z,d⟩:=h;refine⟨z,?_⟩;rcases d with d | ⟨g,A,D,e,F,I,r⟩;·exact .inl d
 ·exact .inr ⟨g,A,D,e,F,m.heap I (o g (by rw[e];rfl)),r⟩
theorem Ow.ne_cells(h:Ow w base E v l){b:Nat}{o:Array Value}{T:TypeId}{f:Nat × Nat}(d:w.heap[b]?=some (.cells o T f))(z:T≠E.e):v.ownBlock≠some b:=by
 intro e;rcases h.2 with⟨m,_⟩ | ⟨g,D,F,m,_,A,_⟩;·rw[m]at e;cases e
 ·rw[m]at e;simp only[Value.ownBlock,mUQb]at e;subst e;rw[A]at d;simp only[mUQb,Obj.cells.injEq]at d;exact z d.2.1.symm
theorem Ow.shape(h:Ow w base E v l):∃a n e,v=.slice a n e:=by
 rcases h.2 with⟨d,_⟩ | ⟨g,e,m,d,_⟩;·exact⟨_,_,_,d⟩
 ·exact⟨_,_,_,d⟩
theorem Ow.shape'(h:Ow w base E v l):∃a e,v=.slice a l.length e:=by
 rcases h.2 with⟨d,m⟩ | ⟨g,e,o,d,_⟩;·exact⟨none,0,by rw[d,m]⟩
 ·exact⟨_,_,d⟩
theorem Ow.lt(h:Ow w base E v l):∀k,v.ownBlock=some k->base<=k/\k<w.heap.size:=World.ownsRow.lt h
theorem ah.le(h:ah w E v l):l.length<=maxLen:=lZ.len h
theorem ah.shape(h:ah w E v l):∃a d,v=.slice a l.length d/\l.length<=d/\d<=maxLen/\(a=none->l=[]/\d=0):=by
 obtain⟨_,a,d,o,z,A,m,_⟩:=h;exact⟨a,d,o,z,A,λe=>⟨kdQb (m e).1,(m e).2⟩⟩
theorem ah.cells(h:ah w E v l)(z:l≠[]):∃b m d,v=.slice (some ⟨b,m,none⟩) l.length d/\l.length<=d/\d<=maxLen /\
  ∀i (o:i<l.length) j,j<E.k->∀u,(E.enc l[i])[j]?=some u->w.cell? ⟨b,m+(i*E.k+j),none⟩=some u:=by
 obtain⟨_,a,d,A,D,F,J,e⟩:=h;have:l.length≠0:=by simpa using z
 rcases e with e | ⟨b,m,rfl,e⟩;·exact absurd e this
 ·exact⟨b,m,d,A,D,F,λi o j G u I=>e _ u (by rw[E.cells_at l i o j G];exact I)⟩
theorem ah.at1(h:ah w E v l)(f:α->Value)(m:E.enc=λx=>[f x])(z:l≠[]):∃b e d,v=.slice (some ⟨b,e,none⟩) l.length d/\l.length<=d/\d<=maxLen /\
  ∀i (o:i<l.length),w.cell? ⟨b,e+i,none⟩=some (f l[i]):=by
 obtain⟨b,e,d,A,D,F,G⟩:=h.cells z;have I:E.k=1:=by rw[<- E.len E.zero,m];rfl
 refine⟨b,e,d,A,D,F,λi o=>?_⟩;have:=G i o 0 ω₁ (f l[i]) (by rw[m];rfl);simpa [I] using this
theorem ah.take{a:Option Addr}{n m:Nat}(h:ah w E (.slice a n m) l){j:Nat}(I:j<=l.length):ah w E (.slice a j m) (l.take j):=by
 obtain⟨J,K,L,A,M,D,o,d⟩:=h;obtain⟨rfl,rfl,rfl⟩:=A;have F:(l.take j).length=j:=by simp;omega
 refine⟨E.length_cells _,a,m,by rw[F],ω₁,D,λe=>⟨by have:=(o e).1;omega,(o e).2⟩,?_⟩;rcases d with d | ⟨b,G,rfl,d⟩;·left;omega
 ·right;refine⟨b,G,rfl,λi u z=>d i u ?_⟩;have e:=E.cells_append (l.take j) (l.drop j);rw[jCQb]at e;rw[e,q6Qb (pDQb.1 z).1];exact z
theorem Ow.atHead(h:Ow w base E v l)(e:l≠[]):∃g d,v=.slice (some ⟨g,0,none⟩) l.length d/\base<=g/\g<w.heap.size/\l.length<=d/\d<=maxLen:=by
 rcases h.2 with⟨_,m⟩ | ⟨g,d,G,o,z,A,D,F,_⟩;·exact absurd (kdQb m) e
 ·exact⟨g,d,o,z,(aR.1 A).1,D,F⟩
theorem Ow.take{g n d:Nat}(h:Ow w base E (.slice (some ⟨g,0,none⟩) n d) l){j:Nat}(D:j<=l.length):Ow w base E (.slice (some ⟨g,0,none⟩) j d) (l.take j):=by
 have m:(l.take j).length=j:=by simp;omega
 obtain⟨O,F⟩:=h;refine⟨E.length_cells _,?_⟩;rcases F with⟨o,_⟩ | ⟨Q,R,G,o,I,J,U,K,L,M⟩;·cases o
 ·obtain⟨rfl,rfl,rfl⟩:=o;refine .inr ⟨g,d,G,by rw[m],I,J,ω₁,K,L,?_⟩;rw[m];have e:=E.cells_append (l.take j) (l.drop j);rw[jCQb,<- M]at e;have A:(E.cells (l.take j)).length=j*E.k:=(by rw[E.length_cells,m]);have z:=dpQb (List.take (j*E.k)) e;rw[umQb,<- A,nKQb]at z;rw[A,fIQb (bQQb _ D)]at z;exact z
structure dw (base:Nat) (E:aw P α) (l:List α) (w:World) (v v':Value) (w':World):Prop where
 own:Ow w' base E v' l
 chg:w.grownBy w' v.ownBlock
 fresh:∀b,v'.ownBlock=some b->v.ownBlock=some b\/w.heap.size<=b
theorem dw.below{d:World}{B:Nat}(h:dw base E l' w v v' w')(e:Ow w base E v l)(m:Below B d w)(A:B<=base)(o:B<=w.heap.size):Below B d w':=
 m.grown h.chg o (λk z=>by have:=(e.lt k z).1;omega)
theorem dw.under{e:World}(h:dw base E l w v v' w')(d:Fr e w):dw base E l e v v' w':=
 ⟨h.own, ⟨h.chg.os.trans d.os, h.chg.tape.trans d.tape, h.chg.output.trans d.output, ayQb d.size h.chg.size, fun k m o => (h.chg.block k (nJQb m d.size) o).trans (sL d k m)⟩,
   λb z => (h.fresh b z).imp id (λh => ayQb d.size h)⟩
theorem dw.chg'(h:dw base E l w v v' w'):ai (λk=>v.ownBlock=some k) w w':=nA h.chg
theorem dw.size(h:dw base E l w v v' w'):w.heap.size<=w'.heap.size:=h.chg.size
theorem dw.other{β:Type}{F:aw P β}{x:Value}{m:List β}{d:Nat}(h:dw base E l w v v' w')(e:Ow w d F x m)(o:x.ownBlock=none\/x.ownBlock≠v.ownBlock):Ow w' d F x m:=e.kept h.chg o
theorem dw.apart{β:Type}{F:aw P β}{x:Value}{m:List β}{z:Nat}(h:dw base E l w v v' w')(A:Ow w z F x m)(D:x.ownBlock=none\/x.ownBlock≠v.ownBlock):x.ownBlock=none\/x.ownBlock≠v'.ownBlock:=by
 rcases D with d | d;·exact .inl d
 ·rcases hxb:x.ownBlock with _ | b;·exact .inl rfl
  ·refine .inr λe=>?_;rcases h.fresh b e.symm with o | o;·exact d (by rw[hxb,o])
   ·have:=(A.lt b hxb).2;omega
theorem nm(E:aw P α)(w:World)(l:List α)(d:Array Value)(h:TypeId)(n:Nat)(m:n=l.length)(o:d.toList=E.cells l)(z:l.length<=maxLen):ah (w.alloc (.cells d h)) E (.slice (some ⟨w.heap.size,0,none⟩) n n) l:=by
 subst m;refine⟨E.length_cells l,_,_,rfl,alQb _,z,σ₁,.inr ⟨w.heap.size,0,rfl,λj u e=>?_⟩⟩;rw[<- o]at e;simpa using e
theorem nu(E:aw P α)(w:World)(d:Array Value)(l:List α)(n:Nat)(m:n=l.length)(o:l.length<=maxLen)(z:base<=w.heap.size)(e:d.toList=E.cells l:=by rfl):Ow (w.alloc (.cells d E.e)) base E (.slice (some ⟨w.heap.size,0,none⟩) n n) l:=by
 subst m;have h:d.size=l.length*E.k:=by rw[<- E.length_cells,<- e];simp
 exact⟨E.length_cells l,.inr ⟨w.heap.size,l.length,d,rfl,z,aB w _ _ rfl,alQb _,o,h,by rw[<- h,<- C6,dYQb];exact e⟩⟩
theorem xo(E:aw P α)(w:World)(base:Nat)(t d:TypeId)(e:P.underlying t=some (.slice E.e))(h:Ow w base E v l){x:Value}{m:List α}(o:ah w E x m)
  (hn:l.length+m.length<=2147483648) (hbase:base<=w.heap.size) :
  ∃v' w',(Builtin.append_ #[t,t] d #[v,x]).run P w=.ok v' w'/\dw base E (l++m) w v v' w':=by
 obtain⟨i,z,A,D,F⟩:=pf E.info
 obtain ⟨v', w', G, I, J, K⟩ := N0 (P := P) w base t d E.e i E.z E.k E.bytes e z A D F
  (by have:=dpQb List.length E.zs;rw[E.len]at this;simpa using this) E.pos v l.length (E.cells l) h x m.length (E.cells m) o (E.cells_mem m)
  (by unfold maxLen; omega) (by have := E.small; calc (l.length + m.length) * E.bytes ≤ 2147483648 * 64 := bHQb hn this
                                   _ ≤ 140737488355328 := by omega) hbase
 refine⟨v',w',G,⟨?_,J,K⟩⟩;unfold Ow;rw[E.cells_append,amQb];exact I
theorem iJ(E:aw P α){d:Array Oper}{rest:List Oper}{o:Oper}{a:Act}{Q:Exit->Act->World->Prop}(e:o.guard=none)(s x:Operand)(t:TypeId)
  (ho:o.op=.call { callee:=.builtin .append,args:=#[s,x],argTypes:=#[t,t] }) (ht:P.underlying t=some (.slice E.e))
  (base:Nat) (hs:a.eval s=v) (hown:Ow w base E v l) (y:Value) (m:List α) (hx:a.eval x=y) (hsee:ah w E y m) (hn:l.length+m.length<=2147483648) (hbase:base<=w.heap.size)
  (h:∀v' w',dw base E (l++m) w v v' w'->wpList P d Q rest (a.put o.dst v') w'):wpList P d Q (o::rest) a w:=by
 refine wpList_plain e λK z=>?_;obtain⟨v',w',A,D⟩:=xo (P:=P) E w base t o.type ht hown hsee hn hbase;unfold Oper.wp execOp;simp only[ho,resolve,invoke,builtin,Sem.run_bind,Sem.run_pure,Result.andThen_ok,List.map_toArray,dDQb,oxQb,hs,hx,A];exact z _ _ (h v' w' D)
theorem xg(E:aw P α){d:Array Oper}{o:Oper}{a:Act}{w:World}{K:Act->World->Prop}{Q:Exit->Act->World->Prop}{F:Prop}(e:o.guard=none)(s x:Operand)(t:TypeId)
  (ho:o.op=.call { callee:=.builtin .append,args:=#[s,x],argTypes:=#[t,t] }) (ht:P.underlying t=some (.slice E.e))
  (base:Nat) (hs:a.eval s=v) (hown:Ow w base E v l) (y:Value) (m:List α) (hx:a.eval x=y) (hsee:ah w E y m) (hn:l.length+m.length<=2147483648) (hbase:base<=w.heap.size)
  (h:∀v' w',dw base E (l++m) w v v' w'->K (a.put o.dst v') w'):if Region.wanted o (yielded d a.tmps)=true then Oper.wp P o a w K Q else F:=by
 have z:Region.wanted o (yielded d a.tmps)=true:=by simp[Region.wanted,e]
 rw[afQb z];obtain⟨v',w',A,D⟩:=xo (P:=P) E w base t o.type ht hown hsee hn hbase;unfold Oper.wp execOp;simp only[ho,resolve,invoke,builtin,Sem.run_bind,Sem.run_pure,Result.andThen_ok,List.map_toArray,dDQb,oxQb,hs,hx,A];exact h v' w' D
theorem uN(E:aw P α){d:Array Oper}{o:Oper}{a:Act}{K:Act->World->Prop}{Q:Exit->Act->World->Prop}{F:Prop}{w:World}(e:o.guard=none)(s x:Operand)(t:TypeId)
  (ho:o.op=.call { callee:=.builtin .append,args:=#[s,x],argTypes:=#[t,t] }) (ht:P.underlying t=some (.slice E.e))
  (base:Nat) (hs:a.eval s=v) (hown:Ow w base E v l) (c:List α) (cs:Array Value) (e':TypeId) (n:Nat) (hc:cs.toList=E.cells c) (hcn:n=c.length) (hx:a.eval x=.slice (some ⟨w.heap.size,0,none⟩) n n) (hn:l.length+c.length<=2147483648) (hbase:base<=w.heap.size)
  (h:∀v' w',dw base E (l++c) w v v' w'->K (a.put o.dst v') w'):if Region.wanted o (yielded d a.tmps)=true then Oper.wp P o a (w.alloc (.cells cs e')) K Q else F:=
 xg E e s x t ho ht base hs (hown.fr ((Fr.refl w).alloc _)) _ c hx (nm E w c cs e' n hcn hc (by unfold maxLen;omega)) hn (by simp;omega) λv' w' m=>h v' w' (m.under ((Fr.refl w).alloc _))
theorem xf(E:aw P α){d:Array Oper}{o:Oper}{a:Act}{K:Act->World->Prop}{Q:Exit->Act->World->Prop}{F:Prop}{w:World}(e:o.guard=none)(s x:Operand)(t:TypeId)
  (ho:o.op=.call { callee:=.builtin .append,args:=#[s,x],argTypes:=#[t,t] }) (ht:P.underlying t=some (.slice E.e))
  (base:Nat) (hs:a.eval s=v) (hown:Ow w base E v l) (c:List α) (cs:Array Value) (e':TypeId) (n:Nat) (hc:cs.toList=E.cells c) (hcn:n=c.length) (hx:a.eval x=.slice (some ⟨w.heap.size,0,none⟩) n n) (hn:l.length+c.length<=2147483648) (hbase:base<=w.heap.size)
  (h:∀v' w',dw base E (l++c) w v v' w'->K (a.put o.dst v') w'):if Region.wanted o (yielded d a.tmps)=true then Oper.wp P o a (w.alloc (.cells cs e')).drew K Q else F:=
 xg E e s x t ho ht base hs ((hown.fr ((Fr.refl w).alloc _)).drew) _ c hx (nm E w c cs e' n hcn hc (by unfold maxLen;omega)).drew hn (by simp;omega) λv' w' m=>h v' w' (m.under ((Fr.refl w).alloc _).drew)
theorem cW(E:aw P α){d:Array Oper}{rest:List Oper}{o:Oper}{a:Act}{Q:Exit->Act->World->Prop}{w:World}(e:o.guard=none)(s x:Operand)(t:TypeId)
  (ho:o.op=.call { callee:=.builtin .append,args:=#[s,x],argTypes:=#[t,t] }) (ht:P.underlying t=some (.slice E.e))
  (base:Nat) (hs:a.eval s=v) (hown:Ow w base E v l) (c:List α) (cs:Array Value) (e':TypeId) (n:Nat) (hc:cs.toList=E.cells c) (hcn:n=c.length) (hx:a.eval x=.slice (some ⟨w.heap.size,0,none⟩) n n) (hn:l.length+c.length<=2147483648) (hbase:base<=w.heap.size)
  (h:∀v' w',dw base E (l++c) w v v' w'->wpList P d Q rest (a.put o.dst v') w'):wpList P d Q (o::rest) a (w.alloc (.cells cs e')):=by
 refine iJ E e s x t ho ht base hs (hown.fr ((Fr.refl w).alloc _)) _ c hx (nm E w c cs e' n hcn hc (by unfold maxLen;omega)) hn (by simp;omega) λv' w' m=>h v' w' (m.under ((Fr.refl w).alloc _))
end
theorem Nz(w:World)(d dst e:TypeId)(D:P.underlying d=some (.slice e))(F:P.underlying e=some (.int .u8))(G:P.underlying dst=some .string)
  {v:Value} {n:Nat} {l:Z0₁} (h:lZ w 1 v n (l.map u8)):(convert d dst v).run P w=.ok (S l) w:=by
 obtain⟨I,a,z,rfl,O,Q,J,o⟩:=h;have A:l.length=n:=by simpa using I
 have key:∀(b m:Nat),(∀j u,(l.map u8)[j]?=some u->w.cell? ⟨b,m+j,none⟩=some u)->(convert d dst (.slice (some ⟨b,m,none⟩) n z)).run P w=.ok (S l) w:=by intro b m o;have K:=run_convert_bytes_arg (P:=P) (w:=w) d e D F b m n z (l.map λc=>(c.toNat:Int)) (by simpa using A) (λj L=>o j _ (by simp[List.getD,A,L])) dst G;rw[K];simp only[strOfNums,jEQb];congr 3;rw[show((λn:Int=>UInt8.ofNat n.toNat) ∘ λc:UInt8=>(c.toNat:Int))=id from by funext c;simp];simp
 cases a with
 | none=>obtain⟨rfl,rfl⟩:=J rfl;obtain rfl:l=[]:=kdQb A;exact run_convert_bytes_nil (P:=P) (w:=w) d e D F 0 0 dst G
 | some a=>
  rcases o with rfl | ⟨b,m,M,o⟩;·obtain rfl:l=[]:=kdQb A;rw[run_convert_bytes_string w d dst e _ 0 z D F G,run_bytesToString w _ 0 z [] (by simp[loadCells,loadCellsFrom])];rfl
  ·obtain rfl:=jU M;exact key b m o
theorem MO(E:aw P UInt8)(d:E.enc=λc=>[u8 c])(s:Z0₁):Lib.strCells ⟨s.toArray⟩=E.cells s:=by
 have:E.cells s=s.map u8:=by
  unfold aw.cells;rw[d];induction s with
  | nil=>rfl
  | cons x l e=>simp_all
 rw[this];simp[Lib.strCells]
theorem N3(E:aw P UInt8)(w:World)(base:Nat)(t u m:TypeId)(z:P.underlying t=some (.slice E.e))(A:P.underlying u=some .string)(M:E.enc=λc=>[u8 c])(O:E.z=.int .u8 0)(Q:E.bytes=1)
  {v:Value} {l:Z0₁} (hown:Ow w base E v l) (s:Z0₁) (hn:l.length+s.length<=2147483648) (hbase:base<=w.heap.size) :
  ∃v' w',(Builtin.append_ #[t,u] m #[v,S s]).run P w=.ok v' w'/\dw base E (l++s) w v v' w':=by
 obtain⟨i,D,F,o,G⟩:=pf E.info;have J:E.k=1:=by rw[<- E.len E.zero,M];rfl
 have d:(⟨s.toArray⟩:ByteArray).size=s.length:=by simp[ByteArray.size]
 rw[O]at F;rw[J]at o;rw[Q]at G;have h:=hown;unfold Ow at h;rw[J]at h;obtain⟨v',w',I,R,U,_⟩:=Lib.run_append_own_string (P:=P) w base t u m E.e i z A D F o G v l.length (E.cells l) h ⟨s.toArray⟩ (by rw[d];unfold maxLen;omega) (by rw[d];omega) hbase;refine⟨v',w',I,⟨?_,U,?_⟩⟩;·unfold Ow;rw[E.cells_append,amQb,J,<- MO E M s];exact R
 ·intro b K;rcases h.2 with⟨rfl,V⟩ | ⟨g,L,X,rfl,ac,Y,aj,ak,ap,av⟩;·have hl:=kdQb V;obtain⟨v2,w2,e,Z,_,_⟩:=Lib.run_append_own_string (P:=P) w w.heap.size t u m E.e i z A D F o G (.slice none 0 0) 0 [] (World.ownsRow_nil w _ E.e 1) ⟨s.toArray⟩ (by rw[d];unfold maxLen;simp at hn ⊢;omega) (by rw[d];simp at hn ⊢;omega) (alQb _);rw[I]at e;cases e;exact .inr (Z.lt b K).1
  ·by_cases aa:l.length+s.length<=L;·have e:=Lib.run_append_room_string (P:=P) w t u m E.e i z A D o g l.length L X Y ⟨s.toArray⟩ (by rw[d];exact aa) (by rw[d];omega);rw[I]at e;cases e;exact .inl K
   ·have ab:=h.cells (g:=g) rfl;have e:=Lib.run_append_grow_string (P:=P) w t u m E.e i (.int .u8 0) z A D F ⟨g,0,none⟩ l.length L (E.cells l) (by rw[o];simpa using h.1) ab ⟨s.toArray⟩ (by rw[d];omega) (by rw[d];omega) (by rw[G];exact growslice_fits (by rw[d];omega) (by rw[d];omega));rw[I]at e;cases e;simp[Value.ownBlock]at K;exact .inr ω₁
theorem Ku(E:aw P UInt8){w:World}{d:Array Oper}{rest:List Oper}{o:Oper}{a:Act}{Q:Exit->Act->World->Prop}(e:o.guard=none)(s x:Operand)(t u:TypeId)
  (ho:o.op=.call { callee:=.builtin .append,args:=#[s,x],argTypes:=#[t,u] }) (ht:P.underlying t=some (.slice E.e)) (hu:P.underlying u=some .string) (henc:E.enc=λc=>[u8 c]) (hz:E.z=.int .u8 0) (hb:E.bytes=1)
  (base:Nat) {v:Value} {l:Z0₁} (hs:a.eval s=v) (hown:Ow w base E v l) (m:Z0₁) (hx:a.eval x=S m) (hn:l.length+m.length<=2147483648) (hbase:base<=w.heap.size)
  (h:∀v' w',dw base E (l++m) w v v' w'->wpList P d Q rest (a.put o.dst v') w'):wpList P d Q (o::rest) a w:=by
 refine wpList_plain e λK z=>?_;obtain⟨v',w',A,D⟩:=N3 (P:=P) E w base t u o.type ht hu henc hz hb hown m hn hbase;unfold Oper.wp execOp;simp only[ho,resolve,invoke,builtin,Sem.run_bind,Sem.run_pure,Result.andThen_ok,List.map_toArray,dDQb,oxQb,hs,hx,A];exact z _ _ (h v' w' D)
theorem Ez(E:aw P UInt8)(w:World)(d dst:TypeId)(e:P.underlying d=some (.slice E.e))(m:P.underlying E.e=some (.int .u8))(o:P.underlying dst=some .string)
  (hk:E.k=1) (henc:E.enc=λc=>[u8 c]) {v:Value} {l:Z0₁} (h:ah w E v l):(convert d dst v).run P w=.ok (S l) w:=by
 refine Nz (P:=P) w d dst E.e e m o (n:=l.length) ?_;have:E.cells l=l.map u8:=by
  clear h
  unfold aw.cells;rw[henc];induction l with
  | nil=>rfl
  | cons x l z=>simp_all
 unfold ah at h;rw[hk,this]at h;exact h
end
