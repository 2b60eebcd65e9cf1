/- Lemmas. -/
import Derived.WalkSpells
import Derived.WalkLawsBesides
import Derived.Deep.RegionLaw
import Derived.BigQuiet
import Derived.Deep.DeepCutAuto
import Derived.Deep.CutBlock
import Derived.Deep.RegionHeld3
import Derived.StillTailTactics
set_option linter.all false
set_option maxHeartbeats 8000000
namespace Go.Fk
abbrev U0:=List UInt8
def ω{p:Prop}(h:p:=by omega):p:=h
def σ{p:Prop}(h:p:=by simp):p:=h
abbrev aX:=@Array.getElem?_eq_some_iff
abbrev ar:=@Nat.le_trans
abbrev aM:=@List.length_append
abbrev au:=@Nat.le_refl
abbrev ax:=@Nat.zero_le
abbrev an:=@if_pos
abbrev bo:=@Nat.mul_le_mul
abbrev dP:=@List.take_length
abbrev bP:=@Nat.add_mul
abbrev kN:=@List.eq_nil_of_length_eq_zero
abbrev gF:=@List.length_cons
abbrev jC:=@List.take_append_drop
abbrev jk:=@Nat.lt_of_lt_of_le
abbrev ji:=@Option.some.injEq
abbrev gl:=@Nat.one_mul
abbrev kh:=@Go.RowKit.Below.heap_setCell
abbrev jE:=@List.mem_map
abbrev pz:=@Go.World.block_lt_of_cell?
abbrev lM:=@Option.some.inj
abbrev kL:=@List.map_cons
abbrev jZ:=@Nat.zero_add
abbrev lw:=@Go.Addr.add_lit
abbrev iG:=@congrArg
abbrev ny:=@List.map_map
abbrev of:=@Go.info_parts
abbrev qN:=@List.map_nil
abbrev pH:=@Go.RowKit.Below.block
abbrev zB:=@Array.length_toList
open Go.RowKit
abbrev S(l:U0):Value:=.string ⟨l.toArray⟩
abbrev u8(c:UInt8):Value:=.int .u8 c.toNat
abbrev N(n:Nat):Value:=.int .i64 n
def D3(l:U0)(n:Nat):(⟨l.toArray⟩:ByteArray).extract 0 n=⟨(l.take n).toArray⟩:=by
 rw[ByteArray.extract_mk];simp
def aD(w:World)(o:Obj)(n:Nat)(h:n=w.heap.size):(w.alloc o).heap[n]?=some o:=by subst h;exact heap_alloc_new w o
def gn(w:World)(o:Obj)(n:Nat)(h:n<w.heap.size):(w.alloc o).heap[n]?=w.heap[n]?:=Below.heap_alloc w o n h
def gu(w:World)(o:Obj):(w.alloc o).heap.size=w.heap.size+1:=σ
def Rm:Value->Nat | .string b=>b.size | _=>0
def ad{p:Prop}(h:p):Hid p:=h
def _root_.Go.RowKit.Hid.z{P:Program}{f:FuncId}{a:Array Value}{w:World}{R d:Ending->World->Prop}(h:Hid (Calls P f a w R))(k:∀e w',R e w'->d e w'):Calls P f a w d:=Calls.mono h k
def Fr(w w':World):Prop:=Below w.heap.size w w'
def Fr.refl(w:World):Fr w w:=Below.refl _ _
def Fr.trans{a b c:World}(h:Fr a b)(k:Fr b c):Fr a c:=Below.trans h (Below.mono k h.size)
def Fr.drew{a w:World}(h:Fr a w):Fr a w.drew:=Below.drew h
def Fr.alloc{a w:World}(h:Fr a w)(o:Obj):Fr a (w.alloc o):=Below.alloc h h.size o
def Fr.size{a w:World}(h:Fr a w):a.heap.size<=w.heap.size:=Below.size h
def Fr.cell{w w':World}(h:Fr w w'){p:Addr}{v:Value}(d:w.cell? p=some v):w'.cell? p=some v:=
 (Below.cell h (pz w p d)).trans d
def Fr.heap{w w':World}(h:Fr w w'){b:Nat}{o:Obj}(d:w.heap[b]?=some o):w'.heap[b]?=some o:=
 (pH h b (aX.1 d).1).trans d
def Fr.grown{B:Nat}{a w w':World}{d:Option Nat}(h:Below B a w)(e:w.grownBy w' d)(f:B<=w.heap.size)(m:∀k,d=some k->B<=k):Below B a w':=Below.grown h e f m
def Fr.own{a w w':World}{d:Option Nat}(h:Fr a w)(e:w.grownBy w' d)(f:∀k,d=some k->a.heap.size<=k):Fr a w':=Below.grown h e h.size f
def Qt(w w':World):Prop:=∃n,w'=w.drewN n
def Qt.refl(w:World):Qt w w:=⟨0,rfl⟩
def Qt.trans{a b c:World}(h:Qt a b)(k:Qt b c):Qt a c:=by
 obtain⟨n,rfl⟩:=h;obtain⟨m,rfl⟩:=k;exact⟨n+m,World.drewN_drewN a n m⟩
def Qt.drewN(w:World)(n:Nat):Qt w (w.drewN n):=⟨n,rfl⟩
def Qt.fr{w w':World}(h:Qt w w'):Fr w w':=by
 obtain⟨n,rfl⟩:=h;exact below_drewN (Below.refl _ _) n
def Fr.drewN{a w:World}(h:Fr a w)(n:Nat):Fr a (w.drewN n):=below_drewN h n
structure ag (G:Nat->Prop) (w w':World):Prop where
 os:w'.os=w.os
 tape:w'.tape=w.tape
 output:w'.output=w.output
 size:w.heap.size<=w'.heap.size
 block:∀k,k<w.heap.size->¬G k->w'.heap[k]?=w.heap[k]?
def ag.refl(G:Nat->Prop)(w:World):ag G w w:=⟨rfl,rfl,rfl,au _,λ_ _ _=>rfl⟩
def Fr.chg{w w':World}(h:Fr w w')(G:Nat->Prop):ag G w w':=⟨Below.os h,Below.tape h,Below.output h,Below.size h,λk d _=>pH h k d⟩
def lK{w w':World}{d:Option Nat}(h:w.grownBy w' d):ag (λk=>d=some k) w w':=⟨h.os,h.tape,h.output,h.size,λk f m=>h.block k f (λe=>m e.symm)⟩
def ag.mono{G G':Nat->Prop}{w w':World}(h:ag G w w')(e:∀k,k<w.heap.size->G k->G' k):ag G' w w':=⟨h.os,h.tape,h.output,h.size,λk d f=>h.block k d (λg=>f (e k d g))⟩
def ag.trans{G G':Nat->Prop}{a b c:World}(h:ag G a b)(k:ag G' b c)(f:∀i,i<a.heap.size->G' i->G i):ag G a c:=
 ⟨k.os.trans h.os,k.tape.trans h.tape,k.output.trans h.output,ar h.size k.size,λi d e=>(k.block i (jk d h.size) (λg=>e (f i d g))).trans (h.block i d e)⟩
def ag.fr{G:Nat->Prop}{w w':World}(h:ag G w w')(e:∀k,k<w.heap.size->¬G k):Fr w w':=⟨h.os,h.tape,h.output,h.size,λk d=>h.block k d (e k d)⟩
def ag.below{G:Nat->Prop}{B:Nat}{a w w':World}(h:Below B a w)(k:ag G w w')(d:B<=w.heap.size)(e:∀i,G i->B<=i):Below B a w':=
 Below.trans h ⟨k.os,k.tape,k.output,k.size,λi f=>k.block i (jk f d) (λg=>by have:=e i g;omega)⟩
def ag.heap{G:Nat->Prop}{w w':World}(h:ag G w w'){b:Nat}{o:Obj}(d:w.heap[b]?=some o)(e:¬G b):w'.heap[b]?=some o:=
 (h.block b (aX.1 d).1 e).trans d
def aG{w:World}{b:Nat}{d:Array Value}{T:TypeId}{f:Nat × Nat}(h:w.heap[b]?=some (.cells d T f))(i:Nat):w.cell? ⟨b,i,none⟩=d[i]?:=by simp[World.cell?,h]
def aB{w:World}{b:Nat}{d:Array Value}{T:TypeId}(h:w.heap[b]?=some (.cells d T (0,0)))(i:Nat):w.frozen? ⟨b,i,none⟩=false:=by simp[World.frozen?,h]
def aI{w:World}{b:Nat}{d:Array Value}{T:TypeId}{f:Nat × Nat}(h:w.heap[b]?=some (.cells d T f))(i:Nat)(u:Value):(w.setCell ⟨b,i,none⟩ u).heap[b]?=some (.cells (d.setIfInBounds i u) T f):=by
 simp[World.setCell,Array.getElem?_modify,h]
def ay(w:World)(a:Addr)(u:Value):ag (λk=>k=a.block) w (w.setCell a u):=
 ⟨rfl,rfl,rfl,by simp[World.setCell],λk _ d=>kh _ _ _ _ d⟩
def rY(G:Nat->Prop)(w:World)(n:Nat):ag G w (w.drewN n):=(Fr.drewN (Fr.refl w) n).chg G
def jU(w:World)(k:Nat)(v:Value)(n:Nat)(xs:List Value):Prop:=
 xs.length = n * k ∧ ∃a d, v = .slice a n d ∧ n ≤ d ∧ d ≤ maxLen ∧ (a = none → n = 0 ∧ d = 0) ∧
  (n=0\/∃b e,a=some ⟨b,e,none⟩/\∀j u,xs[j]?=some u->w.cell? ⟨b,e+j,none⟩=some u)
def jU.nil(w:World)(k:Nat):jU w k (.slice none 0 0) 0 []:=
 ⟨σ,none,0,rfl,au _,ax _,λ_=>⟨rfl,rfl⟩,.inl rfl⟩
def jU.fr{w w':World}{k:Nat}{v:Value}{n:Nat}{xs:List Value}(h:jU w k v n xs)(e:Fr w w'):jU w' k v n xs:=by
 obtain⟨f,a,m,o,p,q,z,d⟩:=h;refine⟨f,a,m,o,p,q,z,?_⟩;rcases d with d | ⟨b,A,D,d⟩;·omega
 ·exact .inr ⟨b,A,D,λj u F=>e.cell (d j u F)⟩
def jU.len{w:World}{k:Nat}{v:Value}{n:Nat}{xs:List Value}(h:jU w k v n xs):n<=maxLen:=by
 obtain⟨_,a,d,_,e,f,_⟩:=h;omega
def _root_.Go.World.ownsRow.sees{w:World}{base:Nat}{e:TypeId}{k:Nat}{v:Value}{n:Nat}{xs:List Value}(h:w.ownsRow base e k v n xs):jU w k v n xs:=by
 obtain⟨m,o⟩:=h;refine⟨m,?_⟩;rcases o with⟨d,rfl⟩ | ⟨g,p,f,d,D,q,z,A,F,G⟩;·grind
 ·refine⟨_,p,d,z,A,σ,.inr ⟨g,0,rfl,λj u I=>?_⟩⟩;have J:w.cell? ⟨g,0+j,none⟩=f[j]?:=(by rw[jZ];exact cell_of_row w g j f e (0,0) q);grind
def JG{w w':World}{base:Nat}{e:TypeId}{k:Nat}{v:Value}{n:Nat}{xs:List Value}(h:w.ownsRow base e k v n xs)(f:Fr w w'):w'.ownsRow base e k v n xs:=by
 obtain⟨m,d⟩:=h;refine⟨m,?_⟩;rcases d with d | ⟨g,o,p,q,z,A,r⟩;·grind
 ·exact .inr ⟨g,o,p,q,z,f.heap A,r⟩
def wT{w:World}{base d:Nat}{e:TypeId}{k:Nat}{v:Value}{n:Nat}{xs:List Value}(h:w.ownsRow base e k v n xs)(m:d<=base):w.ownsRow d e k v n xs:=by
 obtain⟨o,f⟩:=h;refine⟨o,?_⟩;rcases f with f | ⟨g,p,q,z,m,A,r⟩;·grind
 ·exact .inr ⟨g,p,q,z,ω,A,r⟩
section
variable {P:Program}
def F7(base:Nat)(e:TypeId)(k:Nat)(n:Nat)(xs:List Value)(w:World)(v v':Value)(w':World):Prop:=
 w'.ownsRow base e k v' n xs/\w.grownBy w' v.ownBlock/\(∀b,v'.ownBlock=some b->v.ownBlock=some b\/w.heap.size<=b)
theorem Iw(w:World)(base:Nat)(t q e:TypeId)(i:TypeInfo)(z:Value)(size bytes:Nat)(A:P.underlying t=some (.slice e))(D:P.info? e=some i)(G:i.zero=some z)
  (hsize:i.size=size) (hby:i.bytes=bytes) (hzs:z.cells.size=size) (hsz:0<size)
  (v:Value) (n:Nat) (xs:List Value) (hown:w.ownsRow base e size v n xs)
  (a:Addr) (m c:Nat) (f:List Value) (hl:f.length=m*size) (hnews:∀j u,f[j]?=some u->w.cell? (a.add j)=some u) (h1:∀u∈f,u.oneCell'=true)
  (h63:n+m<=maxLen) (hbytes:(n+m)*bytes<=140737488355328) (hbase:base<=w.heap.size) :
  ∃v' w',(Builtin.append_ #[t,t] q #[v,.slice (some a) m c]).run P w=.ok v' w'/\F7 base e size (n+m) (xs++f) w v v' w':=by
 rcases hown.2 with⟨rfl,rfl⟩ | ⟨g,F,M,rfl,O,Q,R,U,V,W⟩
 ·have I:=kN (by simpa using hown.1)
  subst I
  obtain⟨v',w',o,h,d,X⟩:=run_append_own (P:=P) w w.heap.size t q e i z size bytes A D G hsize hby hzs hsz (.slice none 0 0) 0 [] (World.ownsRow_nil w _ e size) a m c f hl hnews h1 h63 hbytes (au _)
  exact⟨v',w',o,wT h hbase,d,λb p=>.inr (h.lt b p).1⟩
 ·by_cases J:n+m<=F
  ·obtain⟨w',o,h,d⟩:=run_append_fits (P:=P) w base t q e i size A D hsize g n F xs hown a m c f hl hnews h1 J
   exact⟨_,w',o,h,d,λb p=>.inl p⟩
  ·have K:=hown.cells (g:=g) rfl
   obtain⟨v',w',o,h,d⟩:=run_append_arg_grows (P:=P) w t q e i z size bytes A D G hsize hby hzs hsz ⟨g,0,none⟩ n F xs hown.1 K a m c f hl hnews ω h63 hbytes
   exact⟨v',w',o,wT h hbase,⟨d.os,d.tape,d.output,d.size,λk L _=>d.block k L σ⟩,λb p=>.inr (h.lt b p).1⟩
theorem Iv(w:World)(base:Nat)(t f e:TypeId)(i:TypeInfo)(z:Value)(size bytes:Nat)(o:P.underlying t=some (.slice e))(p:P.info? e=some i)(A:i.zero=some z)
  (hsize:i.size=size) (hby:i.bytes=bytes) (hzs:z.cells.size=size) (hsz:0<size)
  (v:Value) (n:Nat) (xs:List Value) (hown:w.ownsRow base e size v n xs)
  (x:Value) (m:Nat) (d:List Value) (hsee:jU w size x m d) (h1:∀u∈d,u.oneCell'=true)
  (h63:n+m<=maxLen) (hbytes:(n+m)*bytes<=140737488355328) (hbase:base<=w.heap.size) :
  ∃v' w',(Builtin.append_ #[t,t] f #[v,x]).run P w=.ok v' w'/\F7 base e size (n+m) (xs++d) w v v' w':=by
 obtain⟨q,a,D,rfl,L,M,F,h⟩:=hsee
 cases a with
 | none=>
  obtain⟨rfl,rfl⟩:=F rfl
  obtain rfl:d=[]:=kN (by simpa using q)
  have G:=run_append_owned_none (P:=P) (w:=w) base t f e i size o p v n xs hown
  exact⟨v,w,G,by simpa using hown,⟨rfl,rfl,rfl,au _,λ_ _ _=>rfl⟩,λb I=>.inl I⟩
 | some a=>
  refine Iw w base t f e i z size bytes o p A hsize hby hzs hsz v n xs hown a m D d q ?_ h1 h63 hbytes hbase
  intro j u J
  rcases h with rfl | ⟨b,O,K,h⟩
  ·grind
  ·obtain rfl:=lM K
   rw[lw]
   exact h j u J
structure aJ (P:Program) (α:Type) where
 e:TypeId
 k:Nat
 bytes:Nat
 zero:α
 z:Value
 enc:α->List Value
 info:(P.info? e).map (λi=>(i.zero,i.size,i.bytes))=some (some z,k,bytes)
 pos:0<k
 small:bytes<=64
 zs:z.cells.toList=enc zero
 len:∀x,(enc x).length=k
 one:∀x,∀u∈enc x,u.oneCell'=true
def aJ.cells{α:Type}(E:aJ P α)(l:List α):List Value:=(l.map E.enc).flatten
theorem aJ.length_cells{α:Type}(E:aJ P α)(l:List α):(E.cells l).length=l.length*E.k:=by
 induction l with
 | nil=>simp[aJ.cells]
 | cons x l d=>have:E.cells (x::l)=E.enc x++E.cells l:=(by simp[aJ.cells]);rw[this,aM,d,E.len,gF,bP,gl,Nat.add_comm]
theorem aJ.cells_append{α:Type}(E:aJ P α)(l l':List α):E.cells (l++l')=E.cells l++E.cells l':=by simp[aJ.cells]
theorem aJ.cells_mem{α:Type}(E:aJ P α)(l:List α):∀u∈E.cells l,u.oneCell'=true:=by
 intro u d;simp only[aJ.cells,List.mem_flatten,jE]at d;obtain⟨_,⟨x,_,rfl⟩,d⟩:=d;exact E.one x u d
theorem aJ.cells_at{α:Type}(E:aJ P α):∀(l:List α) (i:Nat) (h:i<l.length) (j:Nat),j<E.k->(E.cells l)[i*E.k+j]?=(E.enc l[i])[j]?:=by
 intro l
 induction l with
 | nil=>intro i h;simp at h
 | cons x l d=>
  intro i h j f;have e:E.cells (x::l)=E.enc x++E.cells l:=by simp[aJ.cells]
  cases i with
  | zero=>rw[e,List.getElem?_append_left (by rw[E.len];omega)];simp
  | succ i=>rw[e,List.getElem?_append_right (by rw[E.len,bP];omega),E.len];grind
def ao{α:Type}(w:World)(E:aJ P α)(v:Value)(l:List α):Prop:=jU w E.k v l.length (E.cells l)
def Ow{α:Type}(w:World)(base:Nat)(E:aJ P α)(v:Value)(l:List α):Prop:=w.ownsRow base E.e E.k v l.length (E.cells l)
section
variable {α:Type} {E:aJ P α} {w w':World} {v v':Value} {l l':List α} {base:Nat}
theorem ao.nil:ao w E (.slice none 0 0) []:=jU.nil w E.k
theorem ao.fr(h:ao w E v l)(d:Fr w w'):ao w' E v l:=jU.fr h d
theorem ao.drew(h:ao w E v l):ao w.drew E v l:=h
theorem Ow.nil:Ow w base E (.slice none 0 0) []:=World.ownsRow_nil _ _ _ _
theorem Ow.see(h:Ow w base E v l):ao w E v l:=World.ownsRow.sees h
theorem Ow.fr(h:Ow w base E v l)(d:Fr w w'):Ow w' base E v l:=JG h d
theorem Ow.rebase(h:Ow w base E v l){b:Nat}(d:b<=base):Ow w b E v l:=wT h d
theorem Ow.drew(h:Ow w base E v l):Ow w.drew base E v l:=h
theorem Ow.kept{d:Option Nat}(h:Ow w base E v l)(e:w.grownBy w' d)(f:v.ownBlock=none\/v.ownBlock≠d):Ow w' base E v l:=World.ownsRow.kept h e f
theorem Ow.chg{G:Nat->Prop}(h:Ow w base E v l)(f:ag G w w')(m:∀k,v.ownBlock=some k->¬G k):Ow w' base E v l:=by
 obtain⟨o,d⟩:=h;refine⟨o,?_⟩;rcases d with d | ⟨g,p,q,e,z,A,r⟩;·grind
 ·exact .inr ⟨g,p,q,e,z,f.heap A (m g (by rw[e];rfl)),r⟩
theorem Ow.ne_cells(h:Ow w base E v l){b:Nat}{m:Array Value}{T:TypeId}{f:Nat × Nat}(o:w.heap[b]?=some (.cells m T f))(p:T≠E.e):v.ownBlock≠some b:=by
 intro e;rcases h.2 with⟨d,_⟩ | ⟨g,q,z,d,_,A,_⟩;·rw[d]at e;cases e
 ·rw[d]at e;simp only[Value.ownBlock,ji]at e;grind
theorem Ow.shape(h:Ow w base E v l):∃a n d,v=.slice a n d:=by
 rcases h.2 with⟨e,_⟩ | ⟨g,d,f,e,_⟩;·grind
 ·grind
theorem Ow.shape'(h:Ow w base E v l):∃a d,v=.slice a l.length d:=by
 rcases h.2 with⟨e,f⟩ | ⟨g,d,m,e,_⟩;·grind
 ·grind
theorem Ow.lt(h:Ow w base E v l):∀k,v.ownBlock=some k->base<=k/\k<w.heap.size:=World.ownsRow.lt h
theorem ao.le(h:ao w E v l):l.length<=maxLen:=jU.len h
theorem ao.shape(h:ao w E v l):∃a d,v=.slice a l.length d/\l.length<=d/\d<=maxLen/\(a=none->l=[]/\d=0):=by
 obtain⟨_,a,d,e,f,m,o,_⟩:=h;grind
theorem ao.cells(h:ao w E v l)(D:l≠[]):∃b e d,v=.slice (some ⟨b,e,none⟩) l.length d/\l.length<=d/\d<=maxLen /\
  ∀i (m:i<l.length) j,j<E.k->∀u,(E.enc l[i])[j]?=some u->w.cell? ⟨b,e+(i*E.k+j),none⟩=some u:=by
 obtain⟨_,a,d,o,p,q,F,f⟩:=h;have:l.length≠0:=by grind
 rcases f with f | ⟨b,e,rfl,f⟩;·omega
 ·exact⟨b,e,d,o,p,q,λi m j z u A=>f _ u (by rw[E.cells_at l i m j z];exact A)⟩
theorem ao.at1(h:ao w E v l)(f:α->Value)(m:E.enc=λx=>[f x])(o:l≠[]):∃b e d,v=.slice (some ⟨b,e,none⟩) l.length d/\l.length<=d/\d<=maxLen /\
  ∀i (p:i<l.length),w.cell? ⟨b,e+i,none⟩=some (f l[i]):=by
 obtain⟨b,e,d,q,z,A,D⟩:=h.cells o;have F:E.k=1:=by rw[<- E.len E.zero,m];rfl
 refine⟨b,e,d,q,z,A,λi p=>?_⟩;simp_all
theorem ao.take{a:Option Addr}{n f:Nat}(h:ao w E (.slice a n f) l){j:Nat}(A:j<=l.length):ao w E (.slice a j f) (l.take j):=by
 obtain⟨D,F,G,o,I,p,m,d⟩:=h;obtain⟨rfl,rfl,rfl⟩:=o;have q:(l.take j).length=j:=by simp;omega
 refine⟨E.length_cells _,a,f,by rw[q],ω,p,λe=>⟨by have:=(m e).1;omega,(m e).2⟩,?_⟩;rcases d with d | ⟨b,z,rfl,d⟩;·omega
 ·right;refine⟨b,z,rfl,λi u J=>d i u ?_⟩;have e:=E.cells_append (l.take j) (l.drop j);rw[jC]at e;grind
theorem Ow.atHead(h:Ow w base E v l)(e:l≠[]):∃g d,v=.slice (some ⟨g,0,none⟩) l.length d/\base<=g/\g<w.heap.size/\l.length<=d/\d<=maxLen:=by
 rcases h.2 with⟨_,f⟩ | ⟨g,d,m,o,p,q,z,A,_⟩;·grind
 ·grind
theorem Ow.take{g n d:Nat}(h:Ow w base E (.slice (some ⟨g,0,none⟩) n d) l){j:Nat}(G:j<=l.length):Ow w base E (.slice (some ⟨g,0,none⟩) j d) (l.take j):=by
 have f:(l.take j).length=j:=by simp;omega
 obtain⟨I,o⟩:=h;refine⟨E.length_cells _,?_⟩;rcases o with⟨m,_⟩ | ⟨J,K,p,m,q,z,L,A,D,F⟩;·cases m
 ·obtain⟨rfl,rfl,rfl⟩:=m;refine .inr ⟨g,d,p,by rw[f],q,z,ω,A,D,?_⟩;rw[f];have e:=E.cells_append (l.take j) (l.drop j);rw[jC,<- F]at e;have M:(E.cells (l.take j)).length=j*E.k:=(by rw[E.length_cells,f]);have O:=iG (List.take (j*E.k)) e;grind
structure dF (base:Nat) (E:aJ P α) (l:List α) (w:World) (v v':Value) (w':World):Prop where
 own:Ow w' base E v' l
 chg:w.grownBy w' v.ownBlock
 fresh:∀b,v'.ownBlock=some b->v.ownBlock=some b\/w.heap.size<=b
theorem dF.below{d:World}{B:Nat}(h:dF base E l' w v v' w')(e:Ow w base E v l)(f:Below B d w)(p:B<=base)(m:B<=w.heap.size):Below B d w':=
 f.grown h.chg m (λk o=>by have:=(e.lt k o).1;omega)
theorem dF.under{e:World}(h:dF base E l w v v' w')(d:Fr e w):dF base E l e v v' w':=
 ⟨h.own, ⟨h.chg.os.trans d.os, h.chg.tape.trans d.tape, h.chg.output.trans d.output, ar d.size h.chg.size, fun k f m => (h.chg.block k (jk f d.size) m).trans (pH d k f)⟩,
   λb o => (h.fresh b o).imp id (λh => ar d.size h)⟩
theorem dF.chg'(h:dF base E l w v v' w'):ag (λk=>v.ownBlock=some k) w w':=lK h.chg
theorem dF.size(h:dF base E l w v v' w'):w.heap.size<=w'.heap.size:=h.chg.size
theorem dF.other{β:Type}{F:aJ P β}{x:Value}{m:List β}{d:Nat}(h:dF base E l w v v' w')(e:Ow w d F x m)(f:x.ownBlock=none\/x.ownBlock≠v.ownBlock):Ow w' d F x m:=e.kept h.chg f
theorem dF.apart{β:Type}{F:aJ P β}{x:Value}{m:List β}{d:Nat}(h:dF base E l w v v' w')(f:Ow w d F x m)(o:x.ownBlock=none\/x.ownBlock≠v.ownBlock):x.ownBlock=none\/x.ownBlock≠v'.ownBlock:=by
 rcases o with p | p;·grind
 ·rcases hxb:x.ownBlock with _ | b;·simp
  ·refine .inr λe=>?_;rcases h.fresh b e.symm with q | q;·grind
   ·have:=(f.lt b hxb).2;omega
theorem lV(E:aJ P α)(w:World)(l:List α)(d:Array Value)(f:TypeId)(n:Nat)(h:n=l.length)(m:d.toList=E.cells l)(o:l.length<=maxLen):ao (w.alloc (.cells d f)) E (.slice (some ⟨w.heap.size,0,none⟩) n n) l:=by
 subst h;refine⟨E.length_cells l,_,_,rfl,au _,o,σ,.inr ⟨w.heap.size,0,rfl,λj u e=>?_⟩⟩;rw[<- m]at e;simpa using e
theorem md(E:aJ P α)(w:World)(d:Array Value)(l:List α)(n:Nat)(h:n=l.length)(m:l.length<=maxLen)(o:base<=w.heap.size)(e:d.toList=E.cells l:=by rfl):Ow (w.alloc (.cells d E.e)) base E (.slice (some ⟨w.heap.size,0,none⟩) n n) l:=by
 subst h;have f:d.size=l.length*E.k:=by rw[<- E.length_cells,<- e];simp
 exact⟨E.length_cells l,.inr ⟨w.heap.size,l.length,d,rfl,o,aD w _ _ rfl,au _,m,f,by rw[<- f,<- zB,dP];exact e⟩⟩
theorem vY(E:aJ P α)(w:World)(base:Nat)(t d:TypeId)(e:P.underlying t=some (.slice E.e))(f:Ow w base E v l){x:Value}{m:List α}(h:ao w E x m)
  (hn:l.length+m.length<=2147483648) (hbase:base<=w.heap.size) :
  ∃v' w',(Builtin.append_ #[t,t] d #[v,x]).run P w=.ok v' w'/\dF base E (l++m) w v v' w':=by
 obtain⟨i,o,p,q,z⟩:=of E.info
 obtain ⟨v', w', A, D, F, G⟩ := Iv (P := P) w base t d E.e i E.z E.k E.bytes e o p q z
  (by have:=iG List.length E.zs;rw[E.len]at this;simpa using this) E.pos v l.length (E.cells l) f x m.length (E.cells m) h (E.cells_mem m)
  (by unfold maxLen; omega) (by have := E.small; calc (l.length + m.length) * E.bytes ≤ 2147483648 * 64 := bo hn this
                                   _ ≤ 140737488355328 := by omega) hbase
 refine⟨v',w',A,⟨?_,F,G⟩⟩;unfold Ow;rw[E.cells_append,aM];exact D
theorem fT(E:aJ P α){d:Array Oper}{rest:List Oper}{o:Oper}{a:Act}{Q:Exit->Act->World->Prop}(e:o.guard=none)(s x:Operand)(t:TypeId)
  (ho:o.op=.call { callee:=.builtin .append,args:=#[s,x],argTypes:=#[t,t] }) (ht:P.underlying t=some (.slice E.e))
  (base:Nat) (hs:a.eval s=v) (hown:Ow w base E v l) (y:Value) (m:List α) (hx:a.eval x=y) (hsee:ao w E y m) (hn:l.length+m.length<=2147483648) (hbase:base<=w.heap.size)
  (h:∀v' w',dF base E (l++m) w v v' w'->wpList P d Q rest (a.put o.dst v') w'):wpList P d Q (o::rest) a w:=by
 refine wpList_plain e λK f=>?_;obtain⟨v',w',p,q⟩:=vY (P:=P) E w base t o.type ht hown hsee hn hbase;unfold Oper.wp execOp;simp only[ho,resolve,invoke,builtin,Sem.run_bind,Sem.run_pure,Result.andThen_ok,List.map_toArray,kL,qN,hs,hx,p];exact f _ _ (h v' w' q)
theorem mH(E:aJ P α){d:Array Oper}{o:Oper}{a:Act}{w:World}{K:Act->World->Prop}{Q:Exit->Act->World->Prop}{F:Prop}(e:o.guard=none)(s x:Operand)(t:TypeId)
  (ho:o.op=.call { callee:=.builtin .append,args:=#[s,x],argTypes:=#[t,t] }) (ht:P.underlying t=some (.slice E.e))
  (base:Nat) (hs:a.eval s=v) (hown:Ow w base E v l) (y:Value) (m:List α) (hx:a.eval x=y) (hsee:ao w E y m) (hn:l.length+m.length<=2147483648) (hbase:base<=w.heap.size)
  (h:∀v' w',dF base E (l++m) w v v' w'->K (a.put o.dst v') w'):if Region.wanted o (yielded d a.tmps)=true then Oper.wp P o a w K Q else F:=by
 have f:Region.wanted o (yielded d a.tmps)=true:=by simp[Region.wanted,e]
 rw[an f];obtain⟨v',w',p,q⟩:=vY (P:=P) E w base t o.type ht hown hsee hn hbase;unfold Oper.wp execOp;simp only[ho,resolve,invoke,builtin,Sem.run_bind,Sem.run_pure,Result.andThen_ok,List.map_toArray,kL,qN,hs,hx,p];exact h v' w' q
theorem oD(E:aJ P α){d:Array Oper}{o:Oper}{a:Act}{K:Act->World->Prop}{Q:Exit->Act->World->Prop}{F:Prop}{w:World}(e:o.guard=none)(s x:Operand)(t:TypeId)
  (ho:o.op=.call { callee:=.builtin .append,args:=#[s,x],argTypes:=#[t,t] }) (ht:P.underlying t=some (.slice E.e))
  (base:Nat) (hs:a.eval s=v) (hown:Ow w base E v l) (c:List α) (cs:Array Value) (e':TypeId) (n:Nat) (hc:cs.toList=E.cells c) (hcn:n=c.length) (hx:a.eval x=.slice (some ⟨w.heap.size,0,none⟩) n n) (hn:l.length+c.length<=2147483648) (hbase:base<=w.heap.size)
  (h:∀v' w',dF base E (l++c) w v v' w'->K (a.put o.dst v') w'):if Region.wanted o (yielded d a.tmps)=true then Oper.wp P o a (w.alloc (.cells cs e')) K Q else F:=
 mH E e s x t ho ht base hs (hown.fr ((Fr.refl w).alloc _)) _ c hx (lV E w c cs e' n hcn hc (by unfold maxLen;omega)) hn (by simp;omega) λv' w' f=>h v' w' (f.under ((Fr.refl w).alloc _))
theorem oB(E:aJ P α){d:Array Oper}{o:Oper}{a:Act}{K:Act->World->Prop}{Q:Exit->Act->World->Prop}{F:Prop}{w:World}(e:o.guard=none)(s x:Operand)(t:TypeId)
  (ho:o.op=.call { callee:=.builtin .append,args:=#[s,x],argTypes:=#[t,t] }) (ht:P.underlying t=some (.slice E.e))
  (base:Nat) (hs:a.eval s=v) (hown:Ow w base E v l) (c:List α) (cs:Array Value) (e':TypeId) (n:Nat) (hc:cs.toList=E.cells c) (hcn:n=c.length) (hx:a.eval x=.slice (some ⟨w.heap.size,0,none⟩) n n) (hn:l.length+c.length<=2147483648) (hbase:base<=w.heap.size)
  (h:∀v' w',dF base E (l++c) w v v' w'->K (a.put o.dst v') w'):if Region.wanted o (yielded d a.tmps)=true then Oper.wp P o a (w.alloc (.cells cs e')).drew K Q else F:=
 mH E e s x t ho ht base hs ((hown.fr ((Fr.refl w).alloc _)).drew) _ c hx (lV E w c cs e' n hcn hc (by unfold maxLen;omega)).drew hn (by simp;omega) λv' w' f=>h v' w' (f.under ((Fr.refl w).alloc _).drew)
theorem bA(E:aJ P α){d:Array Oper}{rest:List Oper}{o:Oper}{a:Act}{Q:Exit->Act->World->Prop}{w:World}(e:o.guard=none)(s x:Operand)(t:TypeId)
  (ho:o.op=.call { callee:=.builtin .append,args:=#[s,x],argTypes:=#[t,t] }) (ht:P.underlying t=some (.slice E.e))
  (base:Nat) (hs:a.eval s=v) (hown:Ow w base E v l) (c:List α) (cs:Array Value) (e':TypeId) (n:Nat) (hc:cs.toList=E.cells c) (hcn:n=c.length) (hx:a.eval x=.slice (some ⟨w.heap.size,0,none⟩) n n) (hn:l.length+c.length<=2147483648) (hbase:base<=w.heap.size)
  (h:∀v' w',dF base E (l++c) w v v' w'->wpList P d Q rest (a.put o.dst v') w'):wpList P d Q (o::rest) a (w.alloc (.cells cs e')):=by
 refine fT E e s x t ho ht base hs (hown.fr ((Fr.refl w).alloc _)) _ c hx (lV E w c cs e' n hcn hc (by unfold maxLen;omega)) hn (by simp;omega) λv' w' f=>h v' w' (f.under ((Fr.refl w).alloc _))
end
theorem Iu(w:World)(d dst e:TypeId)(q:P.underlying d=some (.slice e))(z:P.underlying e=some (.int .u8))(A:P.underlying dst=some .string)
  {v:Value} {n:Nat} {l:U0} (h:jU w 1 v n (l.map u8)):(convert d dst v).run P w=.ok (S l) w:=by
 obtain⟨D,a,m,rfl,J,K,F,o⟩:=h;have p:l.length=n:=by simpa using D
 have L:∀(b f:Nat),(∀j u,(l.map u8)[j]?=some u->w.cell? ⟨b,f+j,none⟩=some u)->(convert d dst (.slice (some ⟨b,f,none⟩) n m)).run P w=.ok (S l) w:=by intro b f o;have G:=run_convert_bytes_arg (P:=P) (w:=w) d e q z b f n m (l.map λc=>(c.toNat:Int)) (by simpa using p) (λj I=>o j _ (by simp[List.getD,p,I])) dst A;rw[G];simp only[strOfNums,ny];congr 3;rw[show((λn:Int=>UInt8.ofNat n.toNat) ∘ λc:UInt8=>(c.toNat:Int))=id from by funext c;simp];simp
 cases a with
 | none=>obtain⟨rfl,rfl⟩:=F rfl;obtain rfl:l=[]:=kN p;exact run_convert_bytes_nil (P:=P) (w:=w) d e q z 0 0 dst A
 | some a=>
  rcases o with rfl | ⟨b,f,M,o⟩;·obtain rfl:l=[]:=kN p;rw[run_convert_bytes_string w d dst e _ 0 m q z A,run_bytesToString w _ 0 m [] (by simp[loadCells,loadCellsFrom])];rfl
  ·grind
theorem vX(E:aJ P UInt8)(w:World)(d dst:TypeId)(e:P.underlying d=some (.slice E.e))(f:P.underlying E.e=some (.int .u8))(m:P.underlying dst=some .string)
  (hk:E.k=1) (henc:E.enc=λc=>[u8 c]) {v:Value} {l:U0} (h:ao w E v l):(convert d dst v).run P w=.ok (S l) w:=by
 refine Iu (P:=P) w d dst E.e e f m (n:=l.length) ?_;have:E.cells l=l.map u8:=by
  clear h
  unfold aJ.cells;rw[henc];induction l with
  | nil=>rfl
  | cons x l o=>simp_all
 unfold ao at h;grind
end
def xA{z B:Nat}(h:z<=B):∀k,k=B->z<=k:=λ_ e=>e ▸ h
def xM{s B:Nat}(h:s<=B):∀k,k<s->¬k=B:=λk d e=>by omega
def xN{a b:Nat}(h:¬a=b):¬a=b:=h
def Ow.nB{P:Program}{α:Type}{E:aJ P α}{w:World}{base:Nat}{v:Value}{l:List α}(h:Ow w base E v l){b:Nat}{d:Array Value}{T:TypeId}{f:Nat × Nat}(m:w.heap[b]?=some (.cells d T f))(o:T≠E.e):∀k,v.ownBlock=some k->¬k=b:=λk p e=>h.ne_cells m o (e ▸ p)
def Ow.nL{P:Program}{α:Type}{E:aJ P α}{w:World}{base:Nat}{v:Value}{l:List α}(h:Ow w base E v l){B:Nat}(f:B<base):∀k,v.ownBlock=some k->¬k=B:=λk d e=>by have:=(h.lt k d).1;omega
def Ow.nO{P:Program}{α:Type}{E:aJ P α}{w:World}{base:Nat}{v:Value}{l:List α}(h:Ow w base E v l){X:Nat}(hX:X<base):¬v.ownBlock=some X:=λe=>by have:=(h.lt _ e).1;omega
def Fr.thru{w u v:World}{B:Nat}(h:Fr w u)(d:ag (λb=>b=B) u v)(e:w.heap.size<=B):Fr w v:=((h.chg (λb=>b=B)).trans d λ_ _ h=>h).fr (xM e)
