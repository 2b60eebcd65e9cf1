/- Lemmas. -/
import Derived.Test.YtmcaneofjlhhmaaGreatDoorM07
import Derived.Laws.CopyOwn
import Derived.Test.YtmcaneofjlhhmaaGreatDoorM05
set_option linter.all false
set_option maxHeartbeats 8000000
namespace Go.Fk
abbrev dNQb:=@List.take_of_length_le
abbrev dQ:=@List.all_toArray
abbrev bY:=@Go.setRow_heap
abbrev eAQb:=@Nat.sub_self
abbrev iKQb:=@List.append_assoc
abbrev gp:=@Nat.le_of_eq
abbrev jlQb:=@List.nil_append
abbrev lO:=@List.size_toArray
abbrev sO:=@Array.getElem?_setIfInBounds_ne
abbrev lQQb:=@List.drop_take
abbrev n6:=@List.all_eq_true
abbrev qQQb:=@List.drop_of_length_le
abbrev qZ:=@Array.getElem?_eq_none
abbrev qF:=@Go.World.cell?_of_block
abbrev oi:=@List.take_zero
abbrev sKQb:=@List.ext_getElem?
abbrev FA:=@List.take_append_of_le_length
open Go.RowKit
section
variable {P:Program} {α:Type} {E:aJ P α} {w:World} {base:Nat}
theorem zQ(p:E.k=1){O:Array Oper}{rest:List Oper}{o:Oper}{a:Act}{Q:Exit->Act->World->Prop}(R:o.guard=none)(d s:Operand)(I J:TypeId)
  (ho:o.op=.call { callee:=.builtin .copy,args:=#[d,s],argTypes:=#[I,J] }) (hu:P.underlying I=some (.slice E.e)) (v y:Value) (z l:List α) (hd:a.eval d=v) (hs:a.eval s=y)
  (hown:Ow w base E v z) (hsee:ao w E y l) (G:l.length<=z.length)
  (h:∀w',Ow w' base E v (l++z.drop l.length)->ag (λk=>v.ownBlock=some k) w w'->wpList P O Q rest (a.put o.dst (goInt l.length)) w'):wpList P O Q (o::rest) a w:=by
 obtain⟨i,hi,hz,ah,a8⟩:=of E.info;have U:(P.info? E.e).map (·.size)=some 1:=by simp[hi,ah,p]
 obtain⟨va,vc,hv⟩:=hown.shape';obtain⟨ya,yc,hy,a9,aC,ba⟩:=hsee.shape;by_cases K:l=[];·subst K;refine wpList_copy_nothing R d s I J ho E.e hu U va ya z.length vc 0 yc (hd.trans hv) (hs.trans hy) (Nat.zero_min _) (h w (by simpa using hown) (ag.refl _ w))
 ·have av:z≠[]:=(by intro e;subst e;exact K (kN (by simpa using G)));obtain⟨g,L,az,_⟩:=hown.atHead av;rw[az]at hown hd h;obtain⟨_,hb,V,W,c1,c2,X,Y⟩:=hown.parts;obtain⟨b,a1,a2,a3,_,_,a4⟩:=hsee.cells K;rw[p,eo]at X Y;have D:=E.length_cells l;rw[p,eo]at D;refine wpList_copy_own R d s I J ho E.e hu U g 0 z.length L ⟨b,a1,none⟩ l.length a2 hd (hs.trans a3) V E.e W (E.cells l) (by rw[D];exact(kf G).symm) ?_ (by rw[D];omega) (E.cells_mem l) ?_;·intro j u Z;rw[lw];have M:=(List.getElem?_eq_some_iff.1 Z).1;rw[D]at M;have:=E.cells_at l j M 0 ω;rw[p,eo,g8,Z]at this;have h2:=a4 j M 0 ω u this.symm;rw[p,eo,g8]at h2;exact h2
  ·rw[D];refine h _ ⟨E.length_cells _,.inr ⟨g,L,_,by rw[aM,bn];congr 1;omega,hb,bY w g _ _ _ _ W,by rw[aM,bn];omega,c2,?_,?_⟩⟩ ⟨rfl,rfl,rfl,by simp[World.setRow],λk _ G=>setRow_other w g k _ (λe=>G (by rw[e];rfl))⟩;·simp only[oi,jlQb,lO,aM,bn,D];rw[p,eo];have:V.toList.length=L:=(by simpa using X);omega
   ·simp only[oi,jlQb];have e1:E.cells z=E.cells (z.take l.length)++E.cells (z.drop l.length):=(by rw[<- E.cells_append,jC]);have e2:(E.cells (z.take l.length)).length=l.length:=(by rw[E.length_cells,p,eo,aP];omega);have e3:(E.cells (z.drop l.length)).length=z.length-l.length:=(by rw[E.length_cells,p,eo,bn]);rw[E.cells_append,p,eo,aM,bn];rw[show l.length+(z.length-l.length)=z.length by omega,List.take_append,D,dNQb (by rw[D];exact G)];congr 1;have e4:(0+l.length)=l.length:=jZ _;rw[e4,<- lQQb,Y,e1,List.drop_append,e2,eAQb,List.drop_zero,qQQb (by rw[e2];exact au _),jlQb]
theorem AW{w':World}{b e n o:Nat}{l:List α}(h:ao w E (.slice (some ⟨b,e,none⟩) n o) l)(z:w'.heap[b]?=w.heap[b]?):ao w' E (.slice (some ⟨b,e,none⟩) n o) l:=by
 obtain⟨D,a,c,p,G,I,J,d⟩:=h;refine⟨D,a,c,p,G,I,J,?_⟩;rcases d with d | ⟨M,O,K,d⟩;·exact .inl d
 ·cases p;cases K;exact .inr ⟨b,e,rfl,λj u L=>(qF (w:=w) (w':=w') (a:=⟨b,e+j,none⟩) z).trans (d j u L)⟩
theorem Iq(E:aJ P α)(t:TypeId)(D:P.underlying t=some (.slice E.e)){w:World}{b e n d:Nat}{l:List α}(h:ao w E (.slice (some ⟨b,e,none⟩) n d) l)(k:Nat)(L:k<=l.length):∃G z,(∀W,(Instr.slice t (.slice (some ⟨b,e,none⟩) n d) (some (.int .i64 (k:Int))) none none).run P W=.ok (.slice (some ⟨b,G,none⟩) (l.length-k) z) W)/\ao w E (.slice (some ⟨b,G,none⟩) (l.length-k) z) (l.drop k):=by
 have I:P.underlying t=some (.slice (P.elem t)):=by simp[Program.elem,D]
 have J:P.elem t=E.e:=by simp[Program.elem,D]
 obtain⟨M,z,K,_⟩:=h.shape;simp only[dtQb]at K;obtain⟨rfl,rfl,rfl⟩:=K;have o:=h.drop L;by_cases p:d=k;·refine⟨e,d-k,λW=>?_,by rw[an p]at o;exact o⟩;rw[run_slice_l W t _ _ _ I .i64 _ ω ω,J,mI];simp[Result.andThen,sliced,p]
 ·refine⟨e+k*E.k,d-k,λW=>?_,by rw[ae p]at o;simpa only [Option.map_some,lw] using o⟩;rw[run_slice_l W t _ _ _ I .i64 _ ω ω,J,mI];simp[Result.andThen,sliced,p,lw]
end
def lE{P:Program}{α β:Type}{E:aJ P α}{F:aJ P β}{w:World}{b e:Nat}{x v:Value}{m:List α}{l:List β}(h:Ow w b E x m)(o:Ow w e F v l)(p:F.e≠E.e):x.ownBlock=none\/x.ownBlock≠v.ownBlock:=by
 rcases o.2 with⟨d,_⟩ | ⟨g,D,G,d,_,z,_⟩
 ·cases I:x.ownBlock with
  | none=>exact .inl rfl
  | some k=>exact .inr (by rw[d];simp[Value.ownBlock])
 ·exact .inr (by rw[d];exact h.ne_cells z p)
def cI(n:Nat)(f:Nat->Int):Array Value:=((List.range n).map λi=>Value.int .i64 (f i)).toArray
def pk(n:Nat)(f:Nat->Int):(cI n f).size=n:=by simp[cI]
def so(n:Nat)(f:Nat->Int)(i:Nat)(h:i<n):(cI n f)[i]?=some (.int .i64 (f i)):=by simp[cI,h]
def yO(n:Nat)(f:Nat->Int):(cI n f).all (·.oneCell')=true:=by
 unfold cI;rw[dQ,n6];intro u d;obtain⟨_,_,rfl⟩:=jE.1 d;rfl
def yQ{n:Nat}{f f':Nat->Int}(h:∀i,i<n->f i=f' i):cI n f=cI n f':=by
 unfold cI;congr 1;exact lP λi d=>by rw[h i (im.1 d)]
def Oo(n:Nat)(f:Nat->Int)(i:Nat)(x:Int):(cI n f).setIfInBounds i (.int .i64 x)=cI n (λj=>if j=i then x else f j):=by
 apply Array.ext_getElem?;intro j;by_cases d:j<n
 ·rw[so n _ j d];by_cases e:j=i;·subst e;rw[Array.getElem?_setIfInBounds_self_of_lt (by rw[pk];exact d)];simp
  ·rw[sO (jj e),so n f j d];simp[e]
 ·rw[qZ (by simp[pk];omega),qZ (by rw[pk];omega)]
def dW(w:World)(g:Nat)(T:TypeId)(n:Nat)(f:Nat->Int):Prop:=w.heap[g]?=some (.cells (cI n f) T (0,0))
section
variable {w w':World} {g:Nat} {T:TypeId} {n:Nat} {f f':Nat->Int}
theorem dW.cell(h:dW w g T n f)(i:Nat)(d:i<n):w.cell? ⟨g,i,none⟩=some (.int .i64 (f i)):=by rw[aG h];exact so n f i d
theorem dW.cell'(h:dW w g T n f)(i:Nat)(d:i<n){x:Int}(e:f i=x):w.cell? ⟨g,i,none⟩=some (.int .i64 x):=by rw[h.cell i d,e]
theorem dW.frozen(h:dW w g T n f)(i:Nat):w.frozen? ⟨g,i,none⟩=false:=aB h i
theorem dW.set(h:dW w g T n f)(i:Nat)(x:Int):dW (w.setCell ⟨g,i,none⟩ (.int .i64 x)) g T n (λj=>if j=i then x else f j):=by
 unfold dW;rw[aI h,Oo]
theorem dW.congr(h:dW w g T n f)(d:∀i,i<n->f i=f' i):dW w g T n f':=by
 unfold dW at *;rw[<- yQ d];exact h
theorem dW.fr(h:dW w g T n f)(d:Fr w w'):dW w' g T n f:=d.heap h
theorem dW.chg{G:Nat->Prop}(h:dW w g T n f)(d:ag G w w')(e:¬G g):dW w' g T n f:=d.heap h e
theorem dW.lt(h:dW w g T n f):g<w.heap.size:=(aX.1 h).1
end
section
variable {P:Program} {α:Type} {w:World} {base:Nat} {E:aJ P α} {l:List α}
theorem K0(E:aJ P α)(n:Nat):(madeCells E.z.cells (n*E.k)).toList=E.cells (List.replicate n E.zero):=by
 have o:=E.pos;have z:E.z.cells.toList.length=E.k:=by rw[E.zs,E.len]
 have d:E.z.cells.size=E.k:=by simpa using z
 apply sKQb;intro j;by_cases p:j<n*E.k;·have D:=sH j E.k;have h:=jB j o;have G:j / E.k<n:=(pB o).2 p;have e:=E.cells_at (List.replicate n E.zero) (j / E.k) (by simpa using G) (j%E.k) h;rw[g7,D]at e;rw[e];simp only[List.getElem_replicate,<- E.zs];simp[madeCells,p,d];rw[getElem?_pos E.z.cells (j%E.k) (by rw[d];exact h),getElem!_pos E.z.cells (j%E.k) (by rw[d];exact h)]
 ·rw[jH (by simp[madeCells];omega),jH (by rw[E.length_cells,jF];omega)]
end
def pg(n:Nat)(f:Nat->Value):Array Value:=((List.range n).map f).toArray
def yM(n:Nat)(f:Nat->Value):(pg n f).size=n:=by simp[pg]
def yN(n:Nat)(f:Nat->Value)(i:Nat)(h:i<n):(pg n f)[i]?=some (f i):=by simp[pg,h]
def On(n:Nat)(f:Nat->Value)(i:Nat)(x:Value):(pg n f).setIfInBounds i x=pg n (λj=>if j=i then x else f j):=by
 apply Array.ext_getElem?;intro j;by_cases d:j<n
 ·rw[yN n _ j d];by_cases e:j=i;·subst e;rw[Array.getElem?_setIfInBounds_self_of_lt (by rw[yM];exact d)];simp
  ·rw[sO (jj e),yN n f j d];simp[e]
 ·rw[qZ (by simp[yM];omega),qZ (by rw[yM];omega)]
def g6(w:World)(g:Nat)(T:TypeId)(n:Nat)(f:Nat->Value):Prop:=w.heap[g]?=some (.cells (pg n f) T (0,0))
section
variable {w w':World} {g:Nat} {T:TypeId} {n:Nat} {f:Nat->Value}
theorem g6.cell(h:g6 w g T n f)(i:Nat)(d:i<n){x:Value}(e:f i=x):w.cell? ⟨g,i,none⟩=some x:=by rw[aG h,<- e];exact yN n f i d
theorem g6.frozen(h:g6 w g T n f)(i:Nat):w.frozen? ⟨g,i,none⟩=false:=aB h i
theorem g6.set(h:g6 w g T n f)(i:Nat)(x:Value):g6 (w.setCell ⟨g,i,none⟩ x) g T n (λj=>if j=i then x else f j):=by
 unfold g6;rw[aI h,On]
theorem g6.fr(h:g6 w g T n f)(d:Fr w w'):g6 w' g T n f:=d.heap h
theorem g6.chg{G:Nat->Prop}(h:g6 w g T n f)(d:ag G w w')(e:¬G g):g6 w' g T n f:=d.heap h e
theorem g6.drew(h:g6 w g T n f):g6 w.drew g T n f:=h
theorem g6.lt(h:g6 w g T n f):g<w.heap.size:=(aX.1 h).1
theorem Ow.keepG{P:Program}{α:Type}{E:aJ P α}{base:Nat}{v:Value}{l:List α}(h:Ow w base E v l)(d:g6 w g T n f)(o:T≠E.e)(p:ag (λk=>k=g) w w'):Ow w' base E v l:=
 h.chg p λk z e=>h.ne_cells d o (by rw[z,e])
end
def Ai{α:Type}(A B C:List α)(n:Nat)(h:A.length+B.length<=n):(A++(B++C)).take n=A++(B++C.take (n-A.length-B.length)):=by
 rw[<- iKQb,List.take_append,dNQb (by rw[aM];exact h),iKQb,aM,Nat.sub_sub]
section
variable {P:Program} {α:Type} {E:aJ P α} {w:World} {base:Nat}
theorem vA(p:E.k=1){L:Array Oper}{rest:List Oper}{o:Oper}{a:Act}{Q:Exit->Act->World->Prop}(aa:o.guard=none)(d s:Operand)(I M:TypeId)
  (ho:o.op=.call { callee:=.builtin .copy,args:=#[d,s],argTypes:=#[I,M] }) (hu:P.underlying I=some (.slice E.e)) (g off m n cap dcap:Nat) (y:Value) (z l:List α) (hd:a.eval d=.slice (some ⟨g,off,none⟩) m dcap) (hs:a.eval s=y)
  (hown:Ow w base E (.slice (some ⟨g,0,none⟩) n cap) z) (hsee:ao w E y l) (hm:l.length=m) (hp:0<m) (hfit:off+m<=z.length)
  (h:∀w',Ow w' base E (.slice (some ⟨g,0,none⟩) n cap) (z.take off++(l++z.drop (off+m)))->ag (λk=>k=g) w w'->wpList P L Q rest (a.put o.dst (goInt m)) w'):wpList P L Q (o::rest) a w:=by
 obtain⟨i,hi,hz,ac,a8⟩:=of E.info;have ah:(P.info? E.e).map (·.size)=some 1:=by simp[hi,ac,p]
 have hl:l≠[]:=by intro e;subst e;simp at hm;omega
 obtain⟨aj,hb,D,O,c1,c2,R,U⟩:=hown.parts;obtain⟨b,am,ap,av,_,_,az⟩:=hsee.cells hl;rw[p,eo]at R U;have G:=E.length_cells l;rw[p,eo]at G;have a0:=E.length_cells z;rw[p,eo]at a0;have a1:D.toList.length=cap:=by simpa using R
 refine wpList_copy_own aa d s I M ho E.e hu ah g off m dcap ⟨b,am,none⟩ l.length ap hd (hs.trans av) D E.e O (E.cells l) (by rw[G,hm];exact(Nat.min_self m).symm) ?_ (by rw[G];omega) (E.cells_mem l) ?_;·intro j u V;rw[lw];have J:=(List.getElem?_eq_some_iff.1 V).1;rw[G]at J;have:=E.cells_at l j J 0 ω;rw[p,eo,g8,V]at this;have W:=az j J 0 ω u this.symm;rw[p,eo,g8]at W;exact W
 ·rw[G,hm];have K:(z.take off++(l++z.drop (off+m))).length=z.length:=(by rw[aM,aM,aP,bn];omega);refine h _ ⟨E.length_cells _,.inr ⟨g,cap,_,by rw[K,aj],hb,bY w g _ _ _ _ O,by rw[K];exact c1,c2,?_,?_⟩⟩ ⟨rfl,rfl,rfl,by simp[World.setRow],λk _ hn=>setRow_other w g k _ hn⟩;·rw[p,eo];simp only[lO,aM,aP,bn,G,a1];omega
  ·rw[p,eo,K,E.cells_append,E.cells_append];have X:(E.cells (z.take off)).length=off:=(by rw[E.length_cells,p,eo,aP];omega);have e1:E.cells (z.take off)=(E.cells z).take off:=(by have:=E.cells_append (z.take off) (z.drop off);rw[jC]at this;rw[this,FA (gp X.symm),dNQb (gp X)]);have Y:(E.cells (z.take (off+m))).length=off+m:=(by rw[E.length_cells,p,eo,aP];omega);have e2:E.cells (z.drop (off+m))=(E.cells z).drop (off+m):=(by have:=E.cells_append (z.take (off+m)) (z.drop (off+m));rw[jC]at this;rw[this,List.drop_append_of_le_length (gp Y.symm),qQQb (gp Y),jlQb]);rw[e1,e2,<- U];have f0:(D.toList.take z.length).length=z.length:=(by rw[aP];omega);have Z:(D.toList.take off).length=off:=(by rw[aP];omega);have f2:(D.toList.take z.length).take off=D.toList.take off:=(by rw[List.take_take,kf ω]);have f3:(D.toList.take z.length).drop (off+m)=(D.toList.drop (off+m)).take (z.length-(off+m)):=(by rw[lQQb]);rw[f2,f3,Ai _ _ _ _ (by rw[Z,G];omega),Z,G,show z.length-off-l.length=z.length-(off+m) by omega]
theorem tq(o:E.k=1)(t:TypeId)(p:P.underlying t=some (.slice E.e)){n d g:Nat}{l:List α}(h:Ow w base E (.slice (some ⟨g,0,none⟩) n d) l)(i k:Nat)(K:i<k)(z:k<=l.length):(∀W,(Instr.slice t (.slice (some ⟨g,0,none⟩) n d) (some (.int .i64 (i:Int))) (some (.int .i64 (k:Int))) none).run P W=.ok (.slice (some ⟨g,i,none⟩) (k-i) (d-i)) W)/\ao w E (.slice (some ⟨g,i,none⟩) (k-i) (d-i)) ((l.take k).drop i):=by
 obtain⟨L,_,_,_,M,O,_⟩:=h.parts;have D:=h.see;have G:P.underlying t=some (.slice (P.elem t)):=by simp[Program.elem,p]
 have I:P.elem t=E.e:=by simp[Program.elem,p]
 have J:(l.take k).length=k:=by simp;omega
 have e:=(D.take z).drop (k:=i) ω;rw[J,ae ω]at e;simp only[Option.map_some,lw,o,eo,jZ]at e;refine⟨λW=>?_,e⟩;rw[run_slice_lh W t _ _ _ G .i64 .i64 _ _ ω ω ω,I,mI];simp[Result.andThen,sliced,o,lw,show d≠i by omega]
end
section
variable {P:Program} {E:aJ P UInt8} {w w':World} {base m:Nat} {ps:List Hd} {A A':Nat->Nat->UInt8}
structure dV (w:World) (base:Nat) (E:aJ P UInt8) (ps:List Hd) (m:Nat) (A:Nat->Nat->UInt8):Prop where
 own:∀t (h:t<ps.length),Ow w base E ps[t].v (cw m A t)
 ne:∀s t (hs:s<ps.length) (ht:t<ps.length),s≠t->ps[s].v.ownBlock=none\/ps[s].v.ownBlock≠ps[t].v.ownBlock
theorem dV.nil:dV w base E [] m A:=⟨λt h=>by simp at h,λs t h=>by simp at h⟩
theorem dV.fr(h:dV w base E ps m A)(d:Fr w w'):dV w' base E ps m A:=⟨λt e=>(h.own t e).fr d,h.ne⟩
theorem dV.drew(h:dV w base E ps m A):dV w.drew base E ps m A:=⟨h.own,h.ne⟩
theorem dV.chg{G:Nat->Prop}(h:dV w base E ps m A)(e:ag G w w')(o:∀t (d:t<ps.length) k,ps[t].v.ownBlock=some k->¬G k):dV w' base E ps m A:=⟨λt d=>(h.own t d).chg e (o t d),h.ne⟩
theorem Bj{f g:Nat->Nat->UInt8}{i:Nat}(h:∀j,j<m->f i j=g i j):cw m f i=cw m g i:=lP λj d=>h j (im.1 d)
theorem dV.congr(h:dV w base E ps m A)(e:∀t,t<ps.length->∀j,j<m->A t j=A' t j):dV w base E ps m A':=⟨λt d=>by rw[<- Bj (e t d)];exact h.own t d,h.ne⟩
theorem dV.beside{α:Type}{F:aJ P α}{b g i:Nat}{v u:Value}{l:List α}(h:dV w base E ps m A)(p:Ow w b F v l)(z:v.ownBlock=some g)(D:F.e≠E.e):dV (w.setCell ⟨g,i,none⟩ u) base E ps m A:=
 h.chg (ay w ⟨g,i,none⟩ u) λt G k d e=>by
  rcases lE (h.own t G) p D with o | o
  ·rw[o]at d;cases d
  ·have e:k=g:=e
   exact o (by rw[d,z,e])
theorem dV.set(h:dV w base E ps m A)(J:E.enc=λx=>[u8 x])(i j:Nat)(K:i<ps.length)(L:j<m)(x:UInt8){g n M:Nat}(G:ps[i].v=.slice (some ⟨g,0,none⟩) n M):dV (w.setCell ⟨g,j,none⟩ (u8 x)) base E ps m (λr c=>if r=i/\c=j then x else A r c):=by
 refine⟨λt p=>?_,h.ne⟩;by_cases e:t=i
 ·subst e;have I:=h.own t p;rw[G]at I ⊢;have:=I.set u8 J j (by rw[iL];exact L) x (u8 x) rfl;have d:(cw m A t).set j x=cw m (λr c=>if r=t/\c=j then x else A r c) t:=by
   apply jI;·simp[cw]
   ·intro k o O;by_cases z:k=j;·subst z;simp[cw]
    ·rw[ve (λe=>z e.symm)];simp[cw,z]
  rw[<- d];exact this
 ·rw[show cw m (λr c=>if r=i/\c=j then x else A r c) t=cw m A t from Bj λc _=>by simp[e]];exact(h.own t p).chg (ay w ⟨g,j,none⟩ _) λk D d=>by
   have d:k=g:=d;rcases h.ne t i p K e with o | o;·rw[o]at D;cases D
   ·exact o (by rw[D,G,d];rfl)
theorem dV.snoc{x:Hd}(h:dV w base E ps m A)(D:Ow w base E x.v (cw m A ps.length))(z:∀t (o:t<ps.length),ps[t].v.ownBlock=none\/ps[t].v.ownBlock≠x.v.ownBlock):dV w base E (ps++[x]) m A:=by
 have p:∀t (h:t<(ps++[x]).length),t<ps.length\/t=ps.length:=λt h=>by simp at h;omega
 refine⟨λt o=>?_,λs t G o I=>?_⟩
 ·rcases p t o with d | d;·simp only[iy d];exact h.own t d
  ·subst d;simpa using D
 ·rcases p s G with d | d <;> rcases p t o with e | e;·simp only[iy d,iy e];exact h.ne s t d e I
  ·subst e;simpa [iy d] using z s d
  ·subst d;have:=tS (z t e);simpa [iy e] using this
  ·omega
theorem LI{α:Type}(l:List α)(i p t:Nat)(x y:α)(h:t<((l.set i x).set p y).length):((l.set i x).set p y)[t]=if t=p then y else if t=i then x else l[t]'(by simpa using h):=by
 by_cases d:t=p;·subst d;simp
 ·rw[ve (λe=>d e.symm),ae d];by_cases o:t=i;·subst o;simp
  ·rw[ve (λe=>o e.symm),ae o]
theorem dV.swap(h:dV w base E ps m A)(i p:Nat)(K:i<ps.length)(L:p<ps.length):dV w base E ((ps.set i ps[p]).set p ps[i]) m (et A i p):=by
 have G:∀t (d:t<((ps.set i ps[p]).set p ps[i]).length),∃(s:Nat) (z:s<ps.length),((ps.set i ps[p]).set p ps[i])[t]=ps[s]/\s=(if t=i then p else if t=p then i else t):=by
  intro t d;rw[LI];by_cases D:t=p
  ·subst D;refine⟨i,K,σ,?_⟩;by_cases o:t=i;·simp[o]
   ·simp[o]
  ·by_cases o:t=i;·subst o;exact⟨p,L,by simp[D],σ⟩
   ·exact⟨t,by simpa using d,by simp[D,o],by simp[D,o]⟩
 refine⟨λt d=>?_,λs t z d M=>?_⟩;·obtain⟨s,z,I,J⟩:=G t d;rw[I,show cw m (et A i p) t=cw m A s from by unfold cw et;rw[J]];exact h.own s z
 ·obtain⟨O,Q,I,J⟩:=G s z;obtain⟨R,U,V,W⟩:=G t d;rw[I,V];refine h.ne O R Q U λe=>M ?_;rw[J,W]at e;by_cases X:s=i <;> by_cases Y:s=p <;> by_cases Z:t=i <;> by_cases a4:t=p <;> simp_all
end
section
variable {P:Program} {α β:Type} {E:aJ P α} {F:aJ P β} {w w':World} {q base b i:Nat} {T T':TypeId} {pv v' x:Value} {ls ls':List α} {m:List β}
theorem En(o:w.heap[q]?=some (.cells #[pv] T (0,0)))(G:Ow w base E pv ls)(p:T≠E.e)(d:dF base E ls' w pv v' w'):(w'.setCell ⟨q,0,none⟩ v').heap[q]?=some (.cells #[v'] T (0,0))/\Ow (w'.setCell ⟨q,0,none⟩ v') base E v' ls'/\ag (λk=>k=q\/pv.ownBlock=some k) w (w'.setCell ⟨q,0,none⟩ v')/\(∀b,v'.ownBlock=some b->pv.ownBlock=some b\/w.heap.size<=b):=by
 have z:=d.chg'.heap o (G.ne_cells o p);have D:=ay w' ⟨q,0,none⟩ v';refine⟨by have:=aI z 0 v';simpa using this,d.own.chg D (λk I e=>d.own.ne_cells z p (by rw[I,show k=q from e])),?_,d.fresh⟩;exact(d.chg'.mono (λk _ h=>Or.inr h)).trans D (λk _ h=>Or.inl h)
theorem lG{p:Array Value}{f:Nat × Nat}(o:Ow w b F x m)(z:w.heap[q]?=some (.cells p T f))(D:T≠F.e)(G:Ow w base E pv ls)(I:E.e≠F.e)(J:ag (λk=>k=q\/pv.ownBlock=some k) w w'):Ow w' b F x m:=
 o.chg J λk d e=>by
  rcases e with e | e
  ·exact o.ne_cells z D (by rw[d,e])
  ·rcases lE o G I with h | h
   ·rw[h]at d;cases d
   ·exact h (by rw[d,e])
theorem wS{h:Array Value}{f:Nat × Nat}{ps:List Hd}{d:List (List β)}(e:cg w b F ps d)(o:w.heap[q]?=some (.cells h T f))(p:T≠F.e)(z:Ow w base E pv ls)(D:E.e≠F.e)(G:ag (λk=>k=q\/pv.ownBlock=some k) w w'):cg w' b F ps d:=
 ⟨e.1,λt I J=>lG (e.2 t I J) o p z D G⟩
theorem ky{d:Array Value}{f:Nat × Nat}(h:w.heap[b]?=some (.cells d T' f))(o:b≠q)(p:Ow w base E pv ls)(z:T'≠E.e)(D:ag (λk=>k=q\/pv.ownBlock=some k) w w'):w'.heap[b]?=some (.cells d T' f):=
 D.heap h λe=>by
  rcases e with e | e
  ·exact o e
  ·exact p.ne_cells h z e
end
def JF{P:Program}{α:Type}{E:aJ P α}{W:World}{b:Nat}{ps h:List Hd}{ls o:List (List α)}(d:cg W b E ps ls)(p:cg W b E h o):cg W b E (ps++h) (ls++o):=by
 refine⟨by rw[aM,aM,d.1,p.1],λt a c=>?_⟩;have e:=d.1;by_cases z:t<ps.length;·rw[iy z,iy ω];exact d.2 t z ω
 ·rw[kM ω,kM ω];simp only[aM]at a c;have D:=p.2 (t-ps.length) ω ω;simp only[e]at D ⊢;exact D
