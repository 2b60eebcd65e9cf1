/- Lemmas for ThreeTurned. -/
import Derived.Test.YtndbpldeabnkbaaGreatDoorM06
import Derived.Laws.CopyOwn
import Derived.Test.YtndbpldeabnkbaaGreatDoorM01
set_option linter.all false
set_option maxHeartbeats 8000000
namespace Go.Fk
abbrev iI:=@List.all_toArray
abbrev fYQb:=@Nat.sub_self
abbrev iT:=@Nat.le_of_eq
abbrev iq:=@Go.setRow_heap
abbrev ou:=@List.size_toArray
abbrev pE:=@List.all_eq_true
abbrev wu:=@List.take_append_of_le_length
abbrev uA:=@Array.getElem?_eq_none
abbrev zw:=@Array.getElem?_setIfInBounds_ne
abbrev sH:=@List.ext_getElem?
abbrev ru:=@List.drop_take
abbrev sJ:=@Int.natCast_mul
abbrev wD:=@List.drop_zero
abbrev zn:=@Int.toNat_natCast
open Go.RowKit
section
variable {P:Program} {α:Type} {E:aw P α} {w:World} {base:Nat}
theorem CQ(D:E.k=1){R:Array Oper}{rest:List Oper}{o:Oper}{a:Act}{Q:Exit->Act->World->Prop}(U:o.guard=none)(d s:Operand)(J K:TypeId)
  (ho:o.op=.call { callee:=.builtin .copy,args:=#[d,s],argTypes:=#[J,K] }) (hu:P.underlying J=some (.slice E.e)) (v y:Value) (z l:List α) (hd:a.eval d=v) (hs:a.eval s=y)
  (hown:Ow w base E v z) (hsee:ah w E y l) (I:l.length<=z.length)
  (h:∀w',Ow w' base E v (l++z.drop l.length)->ai (λk=>v.ownBlock=some k) w w'->wpList P R Q rest (a.put o.dst (goInt l.length)) w'):wpList P R Q (o::rest) a w:=by
 obtain⟨i,hi,hz,ap,bl⟩:=pf E.info;have V:(P.info? E.e).map (·.size)=some 1:=by simp[hi,ap,D]
 obtain⟨va,vc,hv⟩:=hown.shape';obtain⟨ya,yc,hy,bm,bn,bs⟩:=hsee.shape;by_cases L:l=[];·subst L;refine wpList_copy_nothing U d s J K ho E.e hu V va ya z.length vc 0 yc (hd.trans hv) (hs.trans hy) (Nat.zero_min _) (h w (by simpa using hown) (ai.refl _ w))
 ·have a5:z≠[]:=(by intro e;subst e;exact L (kd (by simpa using I)));obtain⟨g,M,a6,_⟩:=hown.atHead a5;rw[a6]at hown hd h;obtain⟨_,hb,X,Y,c1,c2,Z,c4⟩:=hown.parts;obtain⟨b,aC,ba,bb,_,_,bc⟩:=hsee.cells L;rw[D,eo]at Z c4;have G:=E.length_cells l;rw[D,eo]at G;refine wpList_copy_own U d s J K ho E.e hu V g 0 z.length M ⟨b,aC,none⟩ l.length ba hd (hs.trans bb) X E.e Y (E.cells l) (by rw[G];exact(fI I).symm) ?_ (by rw[G];omega) (E.cells_mem l) ?_;·intro j u hj;rw[mY];have O:=(pD.1 hj).1;rw[G]at O;have:=E.cells_at l j O 0 ω;rw[D,eo,dq,hj]at this;have h2:=bc j O 0 ω u this.symm;rw[D,eo,dq]at h2;exact h2
  ·rw[G];refine h _ ⟨E.length_cells _,.inr ⟨g,M,_,by rw[am,aN];congr 1;omega,hb,iq w g _ _ _ _ Y,by rw[am,aN];omega,c2,?_,?_⟩⟩ ⟨rfl,rfl,rfl,by simp[World.setRow],λk _ I=>setRow_other w g k _ (λe=>I (by rw[e];rfl))⟩;·simp only[lj,fJ,ou,am,aN,G];rw[D,eo];have:X.toList.length=M:=(by simpa using Z);omega
   ·simp only[lj,fJ];have e1:E.cells z=E.cells (z.take l.length)++E.cells (z.drop l.length):=(by rw[<- E.cells_append,jC]);have e2:(E.cells (z.take l.length)).length=l.length:=(by rw[E.length_cells,D,eo,aA];omega);have e3:(E.cells (z.drop l.length)).length=z.length-l.length:=(by rw[E.length_cells,D,eo,aN]);rw[E.cells_append,D,eo,am,aN];rw[show l.length+(z.length-l.length)=z.length by omega,List.take_append,G,cw (by rw[G];exact I)];congr 1;have e4:(0+l.length)=l.length:=iH _;rw[e4,<- ru,c4,e1,List.drop_append,e2,fYQb,wD,uu (by rw[e2];exact al _),fJ]
theorem Eo{w':World}{b e n o:Nat}{l:List α}(h:ah w E (.slice (some ⟨b,e,none⟩) n o) l)(D:w'.heap[b]?=w.heap[b]?):ah w' E (.slice (some ⟨b,e,none⟩) n o) l:=by
 obtain⟨G,a,c,z,I,J,K,d⟩:=h;refine⟨G,a,c,z,I,J,K,?_⟩;rcases d with d | ⟨O,Q,L,d⟩;·exact .inl d
 ·cases z;cases L;exact .inr ⟨b,e,rfl,λj u M=>(World.cell?_of_block (w:=w) (w':=w') (a:=⟨b,e+j,none⟩) D).trans (d j u M)⟩
theorem Ag(E:aw P α)(t:TypeId)(G:P.underlying t=some (.slice E.e)){w:World}{b e n d:Nat}{l:List α}(h:ah w E (.slice (some ⟨b,e,none⟩) n d) l)(k:Nat)(M:k<=l.length):∃I D,(∀W,(Instr.slice t (.slice (some ⟨b,e,none⟩) n d) (some (.int .i64 (k:Int))) none none).run P W=.ok (.slice (some ⟨b,I,none⟩) (l.length-k) D) W)/\ah w E (.slice (some ⟨b,I,none⟩) (l.length-k) D) (l.drop k):=by
 have J:P.underlying t=some (.slice (P.elem t)):=by simp[Program.elem,G]
 have K:P.elem t=E.e:=by simp[Program.elem,G]
 obtain⟨O,D,L,_⟩:=h.shape;simp only[ir]at L;obtain⟨rfl,rfl,rfl⟩:=L;have o:=h.drop M;by_cases z:d=k;·refine⟨e,d-k,λW=>?_,by rw[af z]at o;exact o⟩;rw[run_slice_l W t _ _ _ J .i64 _ ω ω,K,pK];simp[Result.andThen,sliced,z]
 ·refine⟨e+k*E.k,d-k,λW=>?_,by rw[ae z]at o;simpa only [Option.map_some,mY] using o⟩;rw[run_slice_l W t _ _ _ J .i64 _ ω ω,K,pK];simp[Result.andThen,sliced,z,mY]
end
def kL{P:Program}{α β:Type}{E:aw P α}{F:aw P β}{w:World}{b e:Nat}{x v:Value}{m:List α}{l:List β}(h:Ow w b E x m)(o:Ow w e F v l)(z:F.e≠E.e):x.ownBlock=none\/x.ownBlock≠v.ownBlock:=by
 rcases o.2 with⟨d,_⟩ | ⟨g,G,I,d,_,D,_⟩
 ·cases J:x.ownBlock with
  | none=>exact .inl rfl
  | some k=>exact .inr (by rw[d];simp[Value.ownBlock])
 ·exact .inr (by rw[d];exact h.ne_cells D z)
def bZ(n:Nat)(f:Nat->Int):Array Value:=((List.range n).map λi=>Value.int .i64 (f i)).toArray
def sj(n:Nat)(f:Nat->Int):(bZ n f).size=n:=by simp[bZ]
def vT(n:Nat)(f:Nat->Int)(i:Nat)(h:i<n):(bZ n f)[i]?=some (.int .i64 (f i)):=by simp[bZ,h]
def BU(n:Nat)(f:Nat->Int):(bZ n f).all (·.oneCell')=true:=by
 unfold bZ;rw[iI,pE];intro u d;obtain⟨_,_,rfl⟩:=ee.1 d;rfl
def BV{n:Nat}{f f':Nat->Int}(h:∀i,i<n->f i=f' i):bZ n f=bZ n f':=by
 unfold bZ;congr 1;exact iV λi d=>by rw[h i (dN.1 d)]
def VG(n:Nat)(f:Nat->Int)(i:Nat)(x:Int):(bZ n f).setIfInBounds i (.int .i64 x)=bZ n (λj=>if j=i then x else f j):=by
 apply Array.ext_getElem?;intro j;by_cases d:j<n
 ·rw[vT n _ j d];by_cases e:j=i;·subst e;rw[Array.getElem?_setIfInBounds_self_of_lt (by rw[sj];exact d)];simp
  ·rw[zw (iG e),vT n f j d];simp[e]
 ·rw[uA (by simp[sj];omega),uA (by rw[sj];omega)]
def dW(w:World)(g:Nat)(T:TypeId)(n:Nat)(f:Nat->Int):Prop:=w.heap[g]?=some (.cells (bZ n f) T (0,0))
section
variable {w w':World} {g:Nat} {T:TypeId} {n:Nat} {f f':Nat->Int}
theorem dW.cell(h:dW w g T n f)(i:Nat)(d:i<n):w.cell? ⟨g,i,none⟩=some (.int .i64 (f i)):=by rw[aK h];exact vT n f i d
theorem dW.cell'(h:dW w g T n f)(i:Nat)(d:i<n){x:Int}(e:f i=x):w.cell? ⟨g,i,none⟩=some (.int .i64 x):=by rw[h.cell i d,e]
theorem dW.frozen(h:dW w g T n f)(i:Nat):w.frozen? ⟨g,i,none⟩=false:=a8 h i
theorem dW.set(h:dW w g T n f)(i:Nat)(x:Int):dW (w.setCell ⟨g,i,none⟩ (.int .i64 x)) g T n (λj=>if j=i then x else f j):=by
 unfold dW;rw[aJ h,VG]
theorem dW.congr(h:dW w g T n f)(d:∀i,i<n->f i=f' i):dW w g T n f':=by
 unfold dW at *;rw[<- BV d];exact h
theorem dW.fr(h:dW w g T n f)(d:Fr w w'):dW w' g T n f:=d.heap h
theorem dW.chg{G:Nat->Prop}(h:dW w g T n f)(d:ai G w w')(e:¬G g):dW w' g T n f:=d.heap h e
theorem dW.lt(h:dW w g T n f):g<w.heap.size:=(aR.1 h).1
end
section
variable {P:Program} {α:Type} {w:World} {base:Nat} {E:aw P α} {l:List α}
theorem vk(E:aw P α)(t:TypeId)(o:P.underlying t=some (.slice E.e))(d e:IntKind)(n:Nat)(z:n<=1000000000)(w:World):(Instr.makeSlice t (.int d (n:Int)) (.int e (n:Int))).run P w=.ok (.slice (some ⟨w.heap.size,0,none⟩) n n) (w.alloc (.cells (madeCells E.z.cells (n*E.k)) E.e)):=by
 obtain⟨i,D,G,I,J⟩:=pf E.info;have K:(i.bytes:Int)*(n:Int)<=281474976710656:=by have h:=E.small;rw[<- J]at h;have:i.bytes*n<=64*1000000000:=bH h z;have L:((i.bytes*n:Nat):Int)<=281474976710656:=ω;rwa [sJ]at L
 have:=run_make (P:=P) w t E.e i E.z o D G d e n n ω (Int.le_refl _) K ω;simp only[zn,I]at this;exact this
theorem FJ(E:aw P α)(n:Nat):(madeCells E.z.cells (n*E.k)).toList=E.cells (List.replicate n E.zero):=by
 have o:=E.pos;have D:E.z.cells.toList.length=E.k:=by rw[E.zs,E.len]
 have d:E.z.cells.size=E.k:=by simpa using D
 apply sH;intro j;by_cases z:j<n*E.k;·have G:=ul j E.k;have h:=jB j o;have I:j / E.k<n:=(qu o).2 z;have e:=E.cells_at (List.replicate n E.zero) (j / E.k) (by simpa using I) (j%E.k) h;rw[dX,G]at e;rw[e];simp only[List.getElem_replicate,<- E.zs];simp[madeCells,z,d];rw[getElem?_pos E.z.cells (j%E.k) (by rw[d];exact h),getElem!_pos E.z.cells (j%E.k) (by rw[d];exact h)]
 ·rw[iW (by simp[madeCells];omega),iW (by rw[E.length_cells,jX];omega)]
theorem AX(E:aw P α)(n:Nat)(e:n<=1000000000)(w:World)(d:base<=w.heap.size):Ow (w.alloc (.cells (madeCells E.z.cells (n*E.k)) E.e)) base E (.slice (some ⟨w.heap.size,0,none⟩) n n) (List.replicate n E.zero):=
 nu E w _ _ n σ (by unfold maxLen;simp;omega) d (FJ E n)
theorem UF(d:∀x,∃a b,E.enc x=[a,b])(l:List α)(i:Nat)(x:α)(u v:Value)(h:E.enc x=[u,v]):E.cells (l.set i x)=((E.cells l).set (i*2) u).set (i*2+1) v:=by
 induction l generalizing i with
 | nil=>rfl
 | cons y l o=>
  obtain⟨a,b,z⟩:=d y;have e:∀l,E.cells (y::l)=a::b::E.cells l:=λl=>by simp[aw.cells,z]
  cases i with
  | zero=>rw[e,List.set_cons_zero];simp[aw.cells,h]
  | succ i=>rw[e,List.set_cons_succ,e,o,show(i+1)*2=i*2+1+1 by omega];rfl
theorem Ow.set2{g n d:Nat}(h:Ow w base E (.slice (some ⟨g,0,none⟩) n d) l)(o:∀x,∃a b,E.enc x=[a,b])(i:Nat)(R:i<l.length)(x:α)(u v:Value)(e:E.enc x=[u,v]):Ow ((w.setCell ⟨g,i*2,none⟩ u).setCell ⟨g,i*2+1,none⟩ v) base E (.slice (some ⟨g,0,none⟩) n d) (l.set i x):=by
 obtain⟨z,D,G,I,J,K,L,M⟩:=h.parts;have O:E.k=2:=by have:=E.len x;rw[e]at this;simpa using this.symm
 have Q:=UF o l i x u v e;refine⟨E.length_cells _,.inr ⟨g,d,(G.setIfInBounds (i*2) u).setIfInBounds (i*2+1) v,by rw[z,mW],D,aJ (aJ I _ u) _ v,by rw[mW];exact J,K,by simpa using L,?_⟩⟩;rw[Q,<- M,mW,O,zt,zt,List.take_set,List.take_set]
theorem Ow.cell2{g n G:Nat}(h:Ow w base E (.slice (some ⟨g,0,none⟩) n G) l)(i:Nat)(I:i<l.length)(u v:Value)(d:E.enc l[i]=[u,v]):w.cell? ⟨g,i*2,none⟩=some u/\w.cell? ⟨g,i*2+1,none⟩=some v/\(∀j,w.frozen? ⟨g,j,none⟩=false):=by
 obtain⟨L,M,J,o,O,Q,R,K⟩:=h.parts;have z:E.k=2:=by have:=E.len l[i];rw[d]at this;simpa using this.symm
 have D:∀j,j<2->J[i*2+j]?=(E.enc l[i])[j]?:=λj U=>by have e:=E.cells_at l i I j ω;rw[z,<- K,z,List.getElem?_take,af ω]at e;simpa using e
 refine⟨?_,?_,λj=>a8 o j⟩;·rw[aK o];have:=D 0 ω;rw[d]at this;simpa using this
 ·rw[aK o];have:=D 1 ω;rw[d]at this;simpa using this
end
def si(n:Nat)(f:Nat->Value):Array Value:=((List.range n).map f).toArray
def BQ(n:Nat)(f:Nat->Value):(si n f).size=n:=by simp[si]
def BS(n:Nat)(f:Nat->Value)(i:Nat)(h:i<n):(si n f)[i]?=some (f i):=by simp[si,h]
def VF(n:Nat)(f:Nat->Value)(i:Nat)(x:Value):(si n f).setIfInBounds i x=si n (λj=>if j=i then x else f j):=by
 apply Array.ext_getElem?;intro j;by_cases d:j<n
 ·rw[BS n _ j d];by_cases e:j=i;·subst e;rw[Array.getElem?_setIfInBounds_self_of_lt (by rw[BQ];exact d)];simp
  ·rw[zw (iG e),BS n f j d];simp[e]
 ·rw[uA (by simp[BQ];omega),uA (by rw[BQ];omega)]
def io(w:World)(g:Nat)(T:TypeId)(n:Nat)(f:Nat->Value):Prop:=w.heap[g]?=some (.cells (si n f) T (0,0))
section
variable {w w':World} {g:Nat} {T:TypeId} {n:Nat} {f:Nat->Value}
theorem io.cell(h:io w g T n f)(i:Nat)(d:i<n){x:Value}(e:f i=x):w.cell? ⟨g,i,none⟩=some x:=by rw[aK h,<- e];exact BS n f i d
theorem io.frozen(h:io w g T n f)(i:Nat):w.frozen? ⟨g,i,none⟩=false:=a8 h i
theorem io.set(h:io w g T n f)(i:Nat)(x:Value):io (w.setCell ⟨g,i,none⟩ x) g T n (λj=>if j=i then x else f j):=by
 unfold io;rw[aJ h,VF]
theorem io.fr(h:io w g T n f)(d:Fr w w'):io w' g T n f:=d.heap h
theorem io.chg{G:Nat->Prop}(h:io w g T n f)(d:ai G w w')(e:¬G g):io w' g T n f:=d.heap h e
theorem io.drew(h:io w g T n f):io w.drew g T n f:=h
theorem io.lt(h:io w g T n f):g<w.heap.size:=(aR.1 h).1
theorem Ow.keepG{P:Program}{α:Type}{E:aw P α}{base:Nat}{v:Value}{l:List α}(h:Ow w base E v l)(d:io w g T n f)(o:T≠E.e)(z:ai (λk=>k=g) w w'):Ow w' base E v l:=
 h.chg z λk D e=>h.ne_cells d o (by rw[D,e])
end
section
variable {P:Program} {E:aw P UInt8} {w w':World} {base m:Nat} {ps:List Hd} {A A':Nat->Nat->UInt8}
structure YA (w:World) (base:Nat) (E:aw P UInt8) (ps:List Hd) (m:Nat) (A:Nat->Nat->UInt8):Prop where
 own:∀t (h:t<ps.length),Ow w base E ps[t].v (kj m A t)
 ne:∀s t (hs:s<ps.length) (ht:t<ps.length),s≠t->ps[s].v.ownBlock=none\/ps[s].v.ownBlock≠ps[t].v.ownBlock
end
section
variable {P:Program} {α β:Type} {E:aw P α} {F:aw P β} {w w':World} {q base b i:Nat} {T T':TypeId} {pv v' x:Value} {ls ls':List α} {m:List β}
theorem I5(o:w.heap[q]?=some (.cells #[pv] T (0,0)))(I:Ow w base E pv ls)(z:T≠E.e)(d:dw base E ls' w pv v' w'):(w'.setCell ⟨q,0,none⟩ v').heap[q]?=some (.cells #[v'] T (0,0))/\Ow (w'.setCell ⟨q,0,none⟩ v') base E v' ls'/\ai (λk=>k=q\/pv.ownBlock=some k) w (w'.setCell ⟨q,0,none⟩ v')/\(∀b,v'.ownBlock=some b->pv.ownBlock=some b\/w.heap.size<=b):=by
 have D:=d.chg'.heap o (I.ne_cells o z);have G:=a9 w' ⟨q,0,none⟩ v';refine⟨by have:=aJ D 0 v';simpa using this,d.own.chg G (λk J e=>d.own.ne_cells D z (by rw[J,show k=q from e])),?_,d.fresh⟩;exact(d.chg'.mono (λk _ h=>Or.inr h)).trans G (λk _ h=>Or.inl h)
theorem nS{z:Array Value}{f:Nat × Nat}(o:Ow w b F x m)(D:w.heap[q]?=some (.cells z T f))(G:T≠F.e)(I:Ow w base E pv ls)(J:E.e≠F.e)(K:ai (λk=>k=q\/pv.ownBlock=some k) w w'):Ow w' b F x m:=
 o.chg K λk d e=>by
  rcases e with e | e
  ·exact o.ne_cells D G (by rw[d,e])
  ·rcases kL o I J with h | h
   ·rw[h]at d;cases d
   ·exact h (by rw[d,e])
theorem AD{h:Array Value}{f:Nat × Nat}{ps:List Hd}{d:List (List β)}(e:cr w b F ps d)(o:w.heap[q]?=some (.cells h T f))(z:T≠F.e)(D:Ow w base E pv ls)(G:E.e≠F.e)(I:ai (λk=>k=q\/pv.ownBlock=some k) w w'):cr w' b F ps d:=
 ⟨e.1,λt J K=>nS (e.2 t J K) o z D G I⟩
theorem mI{d:Array Value}{f:Nat × Nat}(h:w.heap[b]?=some (.cells d T' f))(o:b≠q)(z:Ow w base E pv ls)(D:T'≠E.e)(G:ai (λk=>k=q\/pv.ownBlock=some k) w w'):w'.heap[b]?=some (.cells d T' f):=
 G.heap h λe=>by
  rcases e with e | e
  ·exact o e
  ·exact z.ne_cells h D e
end
def Pm{P:Program}{α:Type}{E:aw P α}{W:World}{b:Nat}{ps h:List Hd}{ls o:List (List α)}(d:cr W b E ps ls)(z:cr W b E h o):cr W b E (ps++h) (ls++o):=by
 refine⟨by rw[am,am,d.1,z.1],λt a c=>?_⟩;have e:=d.1;by_cases D:t<ps.length;·rw[kI D,kI ω];exact d.2 t D ω
 ·rw[jZ ω,jZ ω];simp only[am]at a c;have G:=z.2 (t-ps.length) ω ω;simp only[e]at G ⊢;exact G
def Dq{α:Type}(A B C:List α)(n:Nat)(h:A.length+B.length<=n):(A++(B++C)).take n=A++(B++C.take (n-A.length-B.length)):=by
 rw[<- bG,List.take_append,cw (by rw[am];exact h),bG,am,Nat.sub_sub]
section
variable {P:Program} {α:Type} {E:aw P α} {w:World} {base:Nat}
theorem zE(D:E.k=1){M:Array Oper}{rest:List Oper}{o:Oper}{a:Act}{Q:Exit->Act->World->Prop}(ac:o.guard=none)(d s:Operand)(J O:TypeId)
  (ho:o.op=.call { callee:=.builtin .copy,args:=#[d,s],argTypes:=#[J,O] }) (hu:P.underlying J=some (.slice E.e)) (g off m n cap dcap:Nat) (y:Value) (z l:List α) (hd:a.eval d=.slice (some ⟨g,off,none⟩) m dcap) (hs:a.eval s=y)
  (hown:Ow w base E (.slice (some ⟨g,0,none⟩) n cap) z) (hsee:ah w E y l) (hm:l.length=m) (hp:0<m) (hfit:off+m<=z.length)
  (h:∀w',Ow w' base E (.slice (some ⟨g,0,none⟩) n cap) (z.take off++(l++z.drop (off+m)))->ai (λk=>k=g) w w'->wpList P M Q rest (a.put o.dst (goInt m)) w'):wpList P M Q (o::rest) a w:=by
 obtain⟨i,hi,hz,ak,bl⟩:=pf E.info;have ap:(P.info? E.e).map (·.size)=some 1:=by simp[hi,ak,D]
 have hl:l≠[]:=by intro e;subst e;simp at hm;omega
 obtain⟨a0,hb,G,R,c1,c2,U,V⟩:=hown.parts;obtain⟨b,a3,a4,a5,_,_,a6⟩:=hsee.cells hl;rw[D,eo]at U V;have I:=E.length_cells l;rw[D,eo]at I;have a7:=E.length_cells z;rw[D,eo]at a7;have aC:G.toList.length=cap:=by simpa using U
 refine wpList_copy_own ac d s J O ho E.e hu ap g off m dcap ⟨b,a3,none⟩ l.length a4 hd (hs.trans a5) G E.e R (E.cells l) (by rw[I,hm];exact(Nat.min_self m).symm) ?_ (by rw[I];omega) (E.cells_mem l) ?_;·intro j u X;rw[mY];have K:=(pD.1 X).1;rw[I]at K;have:=E.cells_at l j K 0 ω;rw[D,eo,dq,X]at this;have Y:=a6 j K 0 ω u this.symm;rw[D,eo,dq]at Y;exact Y
 ·rw[I,hm];have L:(z.take off++(l++z.drop (off+m))).length=z.length:=(by rw[am,am,aA,aN];omega);refine h _ ⟨E.length_cells _,.inr ⟨g,cap,_,by rw[L,a0],hb,iq w g _ _ _ _ R,by rw[L];exact c1,c2,?_,?_⟩⟩ ⟨rfl,rfl,rfl,by simp[World.setRow],λk _ hn=>setRow_other w g k _ hn⟩;·rw[D,eo];simp only[ou,am,aA,aN,I,aC];omega
  ·rw[D,eo,L,E.cells_append,E.cells_append];have Z:(E.cells (z.take off)).length=off:=(by rw[E.length_cells,D,eo,aA];omega);have e1:E.cells (z.take off)=(E.cells z).take off:=(by have:=E.cells_append (z.take off) (z.drop off);rw[jC]at this;rw[this,wu (iT Z.symm),cw (iT Z)]);have aa:(E.cells (z.take (off+m))).length=off+m:=(by rw[E.length_cells,D,eo,aA];omega);have e2:E.cells (z.drop (off+m))=(E.cells z).drop (off+m):=(by have:=E.cells_append (z.take (off+m)) (z.drop (off+m));rw[jC]at this;rw[this,List.drop_append_of_le_length (iT aa.symm),uu (iT aa),fJ]);rw[e1,e2,<- V];have f0:(G.toList.take z.length).length=z.length:=(by rw[aA];omega);have f1:(G.toList.take off).length=off:=(by rw[aA];omega);have f2:(G.toList.take z.length).take off=G.toList.take off:=(by rw[um,fI ω]);have f3:(G.toList.take z.length).drop (off+m)=(G.toList.drop (off+m)).take (z.length-(off+m)):=(by rw[ru]);rw[f2,f3,Dq _ _ _ _ (by rw[f1,I];omega),f1,I,show z.length-off-l.length=z.length-(off+m) by omega]
theorem xm(o:E.k=1)(t:TypeId)(z:P.underlying t=some (.slice E.e)){n d g:Nat}{l:List α}(h:Ow w base E (.slice (some ⟨g,0,none⟩) n d) l)(i k:Nat)(L:i<k)(D:k<=l.length):(∀W,(Instr.slice t (.slice (some ⟨g,0,none⟩) n d) (some (.int .i64 (i:Int))) (some (.int .i64 (k:Int))) none).run P W=.ok (.slice (some ⟨g,i,none⟩) (k-i) (d-i)) W)/\ah w E (.slice (some ⟨g,i,none⟩) (k-i) (d-i)) ((l.take k).drop i):=by
 obtain⟨M,_,_,_,O,Q,_⟩:=h.parts;have G:=h.see;have I:P.underlying t=some (.slice (P.elem t)):=by simp[Program.elem,z]
 have J:P.elem t=E.e:=by simp[Program.elem,z]
 have K:(l.take k).length=k:=by simp;omega
 have e:=(G.take D).drop (k:=i) ω;rw[K,ae ω]at e;simp only[Option.map_some,mY,o,eo,iH]at e;refine⟨λW=>?_,e⟩;rw[run_slice_lh W t _ _ _ I .i64 .i64 _ _ ω ω ω,J,pK];simp[Result.andThen,sliced,o,mY,show d≠i by omega]
end
