/- Parts of the proof of ArchEnds: Lib8 Lib13 Lib9 Lib10 Lib11 Lib14 Lib15. -/
import Derived.Test.YtfpijnhhdfoohaaGreatDoorM09
import Derived.Laws.CopyOwn
import Derived.Test.YtfpijnhhdfoohaaGreatDoorM00
set_option linter.unusedVariables false
set_option linter.unusedSectionVars false
set_option linter.unusedSimpArgs false
set_option maxHeartbeats 8000000
namespace Go.Fk
abbrev dP:=@List.all_toArray
abbrev cP:=@Go.setRow_heap
abbrev fO:=@Nat.le_of_eq
abbrev guQb:=@Nat.sub_self
abbrev og:=@List.all_eq_true
abbrev vJ:=@Array.getElem?_setIfInBounds_ne
abbrev qg:=@List.size_toArray
abbrev qjQb:=@List.ext_getElem?
abbrev txQb:=@List.drop_of_length_le
abbrev tC:=@Array.getElem?_eq_none
abbrev qp:=@Int.natCast_mul
abbrev zi:=@List.take_append_of_le_length
abbrev twQb:=@List.drop_take
end Go.Fk
namespace Go.Fk
open Go.RowKit
section
variable {P:Program} {α:Type} {E:au P α} {w:World} {base:Nat}
theorem F8(B:E.k=1){O:Array Oper}{rest:List Oper}{o:Oper}{a:Act}{Q:Exit->Act->World->Prop}(R:o.guard=none)(d s:Operand)(I J:TypeId)
  (ho:o.op=.call { callee:=.builtin .copy,args:=#[d,s],argTypes:=#[I,J] }) (hu:P.underlying I=some (.slice E.e)) (v y:Value) (z l:List α) (hd:a.eval d=v) (hs:a.eval s=y)
  (hown:Ow w base E v z) (hsee:ai w E y l) (G:l.length<=z.length)
  (h:∀ w',Ow w' base E v (l++z.drop l.length)->ah (fun k=>v.ownBlock=some k) w w'->wpList P O Q rest (a.put o.dst (goInt l.length)) w'):wpList P O Q (o::rest) a w:=by
 obtain⟨i,hi,hz,ak,bk⟩:=nk E.info;have U:(P.info? E.e).map (·.size)=some 1:=by simp [hi,ak,B]
 obtain⟨va,vc,hv⟩:=hown.shape';obtain⟨ya,yc,hy,bl,bm,bs⟩:=hsee.shape;by_cases K:l=[];· subst K;refine wpList_copy_nothing R d s I J ho E.e hu U va ya z.length vc 0 yc (hd.trans hv) (hs.trans hy) (Nat.zero_min _) (h w (by simpa using hown) (ah.refl _ w))
 · have a4:z≠[]:=(by intro e;subst e;exact K (ja (by simpa using G)));obtain⟨g,L,a5,_⟩:=hown.atHead a4;rw [a5]at hown hd h;obtain⟨_,hb,V,X,c1,c2,Y,Z⟩:=hown.parts;obtain⟨b,a7,aC,ba,_,_,bb⟩:=hsee.cells K;rw [B,dq]at Y Z;have D:=E.length_cells l;rw [B,dq]at D;refine wpList_copy_own R d s I J ho E.e hu U g 0 z.length L ⟨b,a7,none⟩ l.length aC hd (hs.trans ba) V E.e X (E.cells l) (by rw [D];exact(gx G).symm) ?_ (by rw [D];omega) (E.cells_mem l) ?_;· intro j u hj;rw [ny];have M:=(r9.1 hj).1;rw [D]at M;have:=E.cells_at l j M 0 (by omega);rw [B,dq,et,hj]at this;have h2:=bb j M 0 (by omega) u this.symm;rw [B,dq,et]at h2;exact h2
   · rw [D];refine h _ ⟨E.length_cells _,.inr ⟨g,L,_,by rw [aD,aU];congr 1;omega,hb,cP w g _ _ _ _ X,by rw [aD,aU];omega,c2,?_,?_⟩⟩ ⟨rfl,rfl,rfl,by simp [World.setRow],fun k _ G=>setRow_other w g k _ (fun e=>G (by rw [e];rfl))⟩;· simp only [ld,kI,qg,aD,aU,D];rw [B,dq];have:V.toList.length=L:=(by simpa using Y);omega
     · simp only [ld,kI];have e1:E.cells z=E.cells (z.take l.length)++E.cells (z.drop l.length):=(by rw [<- E.cells_append,j9]);have e2:(E.cells (z.take l.length)).length=l.length:=(by rw [E.length_cells,B,dq,aG];omega);have e3:(E.cells (z.drop l.length)).length=z.length - l.length:=(by rw [E.length_cells,B,dq,aU]);rw [E.cells_append,B,dq,aD,aU];rw [show l.length+(z.length - l.length)=z.length by omega,List.take_append,D,eC (by rw [D];exact G)];congr 1;have e4:(0+l.length)=l.length:=iX _;rw [e4,<- twQb,Z,e1,List.drop_append,e2,guQb,List.drop_zero,txQb (by rw [e2];exact am _),kI]
end
theorem Al{α:Type}(A B C:List α)(n:Nat)(h:A.length+B.length<=n):(A++(B++C)).take n=A++(B++C.take (n - A.length - B.length)):=by
 rw [<- mG,List.take_append,eC (by rw [aD];exact h),mG,aD,Nat.sub_sub]
section
variable {P:Program} {α:Type} {E:au P α} {w:World} {base:Nat}
theorem vR(B:E.k=1){L:Array Oper}{rest:List Oper}{o:Oper}{a:Act}{Q:Exit->Act->World->Prop}(ab:o.guard=none)(d s:Operand)(I M:TypeId)
  (ho:o.op=.call { callee:=.builtin .copy,args:=#[d,s],argTypes:=#[I,M] }) (hu:P.underlying I=some (.slice E.e)) (g off m n cap dcap:Nat) (y:Value) (z l:List α) (hd:a.eval d=.slice (some ⟨g,off,none⟩) m dcap) (hs:a.eval s=y)
  (hown:Ow w base E (.slice (some ⟨g,0,none⟩) n cap) z) (hsee:ai w E y l) (hm:l.length=m) (hp:0<m) (hfit:off+m<=z.length)
  (h:∀ w',Ow w' base E (.slice (some ⟨g,0,none⟩) n cap) (z.take off++(l++z.drop (off+m)))->ah (fun k=>k=g) w w'->wpList P L Q rest (a.put o.dst (goInt m)) w'):wpList P L Q (o::rest) a w:=by
 obtain⟨i,hi,hz,aj,bk⟩:=nk E.info;have ak:(P.info? E.e).map (·.size)=some 1:=by simp [hi,aj,B]
 have hl:l≠[]:=by intro e;subst e;simp at hm;omega
 obtain⟨av,hb,D,O,c1,c2,R,U⟩:=hown.parts;obtain⟨b,a2,a3,a4,_,_,a5⟩:=hsee.cells hl;rw [B,dq]at R U;have G:=E.length_cells l;rw [B,dq]at G;have a6:=E.length_cells z;rw [B,dq]at a6;have a7:D.toList.length=cap:=by simpa using R
 refine wpList_copy_own ab d s I M ho E.e hu ak g off m dcap ⟨b,a2,none⟩ l.length a3 hd (hs.trans a4) D E.e O (E.cells l) (by rw [G,hm];exact(Nat.min_self m).symm) ?_ (by rw [G];omega) (E.cells_mem l) ?_;· intro j u V;rw [ny];have J:=(r9.1 V).1;rw [G]at J;have:=E.cells_at l j J 0 (by omega);rw [B,dq,et,V]at this;have X:=a5 j J 0 (by omega) u this.symm;rw [B,dq,et]at X;exact X
 · rw [G,hm];have K:(z.take off++(l++z.drop (off+m))).length=z.length:=(by rw [aD,aD,aG,aU];omega);refine h _ ⟨E.length_cells _,.inr ⟨g,cap,_,by rw [K,av],hb,cP w g _ _ _ _ O,by rw [K];exact c1,c2,?_,?_⟩⟩ ⟨rfl,rfl,rfl,by simp [World.setRow],fun k _ hn=>setRow_other w g k _ hn⟩;· rw [B,dq];simp only [qg,aD,aG,aU,G,a7];omega
   · rw [B,dq,K,E.cells_append,E.cells_append];have Y:(E.cells (z.take off)).length=off:=(by rw [E.length_cells,B,dq,aG];omega);have e1:E.cells (z.take off)=(E.cells z).take off:=(by have:=E.cells_append (z.take off) (z.drop off);rw [j9]at this;rw [this,zi (fO Y.symm),eC (fO Y)]);have Z:(E.cells (z.take (off+m))).length=off+m:=(by rw [E.length_cells,B,dq,aG];omega);have e2:E.cells (z.drop (off+m))=(E.cells z).drop (off+m):=(by have:=E.cells_append (z.take (off+m)) (z.drop (off+m));rw [j9]at this;rw [this,List.drop_append_of_le_length (fO Z.symm),txQb (fO Z),kI]);rw [e1,e2,<- U];have f0:(D.toList.take z.length).length=z.length:=(by rw [aG];omega);have f1:(D.toList.take off).length=off:=(by rw [aG];omega);have f2:(D.toList.take z.length).take off=D.toList.take off:=(by rw [tq,gx (by omega)]);have f3:(D.toList.take z.length).drop (off+m)=(D.toList.drop (off+m)).take (z.length - (off+m)):=(by rw [twQb]);rw [f2,f3,Al _ _ _ _ (by rw [f1,G];omega),f1,G,show z.length - off - l.length=z.length - (off+m) by omega]
theorem tX(o:E.k=1)(t:TypeId)(z:P.underlying t=some (.slice E.e)){n d g:Nat}{l:List α}(h:Ow w base E (.slice (some ⟨g,0,none⟩) n d) l)(i k:Nat)(K:i<k)(B:k<=l.length) :
  (∀ W,(Instr.slice t (.slice (some ⟨g,0,none⟩) n d) (some (.int .i64 (i:Int))) (some (.int .i64 (k:Int))) none).run P W=.ok (.slice (some ⟨g,i,none⟩) (k - i) (d - i)) W)/\ai w E (.slice (some ⟨g,i,none⟩) (k - i) (d - i)) ((l.take k).drop i):=by
 obtain⟨L,_,_,_,M,O,_⟩:=h.parts;have D:=h.see;have G:P.underlying t=some (.slice (P.elem t)):=by simp [Program.elem,z]
 have I:P.elem t=E.e:=by simp [Program.elem,z]
 have J:(l.take k).length=k:=by simp;omega
 have e:=(D.take B).drop (k:=i) (by omega);rw [J,ae (by omega)]at e;simp only [Option.map_some,ny,o,dq,iX]at e;refine⟨fun W=>?_,e⟩;rw [run_slice_lh W t _ _ _ G .i64 .i64 _ _ (by omega) (by omega) (by omega),I,pr];simp [Result.andThen,sliced,o,ny,show d≠i by omega]
end
theorem jg{P:Program}{α β:Type}{E:au P α}{F:au P β}{w:World}{b e:Nat}{x v:Value}{m:List α}{l:List β}(h:Ow w b E x m)(o:Ow w e F v l)(z:F.e≠E.e):x.ownBlock=none\/x.ownBlock≠v.ownBlock:=by
 rcases o.2 with⟨d,_⟩ | ⟨g,D,G,d,_,B,_⟩
 · cases I:x.ownBlock with
   | none=>exact .inl rfl
   | some k=>exact .inr (by rw [d];simp [Value.ownBlock])
 · exact .inr (by rw [d];exact h.ne_cells B z)
def bG(n:Nat)(f:Nat->Int):Array Value:=((List.range n).map fun i=>Value.int .i64 (f i)).toArray
theorem pW(n:Nat)(f:Nat->Int):(bG n f).size=n:=by simp [bG]
theorem sQ(n:Nat)(f:Nat->Int)(i:Nat)(h:i<n):(bG n f)[i]?=some (.int .i64 (f i)):=by simp [bG,h]
theorem yM(n:Nat)(f:Nat->Int):(bG n f).all (·.oneCell')=true:=by
 unfold bG;rw [dP,og];intro u d;obtain⟨_,_,rfl⟩:=g6.1 d;rfl
theorem yN{n:Nat}{f f':Nat->Int}(h:∀ i,i<n->f i=f' i):bG n f=bG n f':=by
 unfold bG;congr 1;exact jA fun i d=>by rw [h i (eD.1 d)]
theorem Qw(n:Nat)(f:Nat->Int)(i:Nat)(x:Int):(bG n f).setIfInBounds i (.int .i64 x)=bG n (fun j=>if j=i then x else f j):=by
 apply Array.ext_getElem?;intro j;by_cases d:j<n
 · rw [sQ n _ j d];by_cases e:j=i;· subst e;rw [Array.getElem?_setIfInBounds_self_of_lt (by rw [pW];exact d)];simp
   · rw [vJ (fy e),sQ n f j d];simp [e]
 · rw [tC (by simp [pW];omega),tC (by rw [pW];omega)]
def cV(w:World)(g:Nat)(T:TypeId)(n:Nat)(f:Nat->Int):Prop:=w.heap[g]?=some (.cells (bG n f) T (0,0))
section
variable {w w':World} {g:Nat} {T:TypeId} {n:Nat} {f f':Nat->Int}
theorem cV.cell(h:cV w g T n f)(i:Nat)(d:i<n):w.cell? ⟨g,i,none⟩=some (.int .i64 (f i)):=by rw [aA h];exact sQ n f i d
theorem cV.cell'(h:cV w g T n f)(i:Nat)(d:i<n){x:Int}(e:f i=x):w.cell? ⟨g,i,none⟩=some (.int .i64 x):=by rw [h.cell i d,e]
theorem cV.frozen(h:cV w g T n f)(i:Nat):w.frozen? ⟨g,i,none⟩=false:=al h i
theorem cV.set(h:cV w g T n f)(i:Nat)(x:Int):cV (w.setCell ⟨g,i,none⟩ (.int .i64 x)) g T n (fun j=>if j=i then x else f j):=by
 unfold cV;rw [a8 h,Qw]
theorem cV.congr(h:cV w g T n f)(d:∀ i,i<n->f i=f' i):cV w g T n f':=by
 unfold cV at *;rw [<- yN d];exact h
theorem cV.fr(h:cV w g T n f)(d:Fr w w'):cV w' g T n f:=d.heap h
theorem cV.chg{G:Nat->Prop}(h:cV w g T n f)(d:ah G w w')(e:¬G g):cV w' g T n f:=d.heap h e
theorem cV.lt(h:cV w g T n f):g<w.heap.size:=(aM.1 h).1
end
section
variable {P:Program} {α:Type} {w:World} {base:Nat} {E:au P α} {l:List α}
theorem sb(E:au P α)(t:TypeId)(o:P.underlying t=some (.slice E.e))(d e:IntKind)(n:Nat)(z:n<=1000000000)(w:World) :
  (Instr.makeSlice t (.int d (n:Int)) (.int e (n:Int))).run P w=.ok (.slice (some ⟨w.heap.size,0,none⟩) n n) (w.alloc (.cells (madeCells E.z.cells (n*E.k)) E.e)):=by
 obtain⟨i,B,D,G,I⟩:=nk E.info;have J:(i.bytes:Int)*(n:Int)<=281474976710656:=by have h:=E.small;rw [<- I]at h;have:i.bytes*n<=64*1000000000:=bJ h z;have K:((i.bytes*n:Nat):Int)<=281474976710656:=(by omega);rwa [qp]at K
 have:=run_make (P:=P) w t E.e i E.z o B D d e n n (by omega) (Int.le_refl _) J (by omega);simp only [Int.toNat_natCast,G]at this;exact this
theorem Cj(E:au P α)(n:Nat):(madeCells E.z.cells (n*E.k)).toList=E.cells (List.replicate n E.zero):=by
 have o:=E.pos;have B:E.z.cells.toList.length=E.k:=by rw [E.zs,E.len]
 have d:E.z.cells.size=E.k:=by simpa using B
 apply qjQb;intro j;by_cases z:j<n*E.k;· have D:=tp j E.k;have h:=kH j o;have G:j / E.k<n:=(nY o).2 z;have e:=E.cells_at (List.replicate n E.zero) (j / E.k) (by simpa using G) (j % E.k) h;rw [gw,D]at e;rw [e];simp only [List.getElem_replicate,<- E.zs];simp [madeCells,z,d];rw [getElem?_pos E.z.cells (j % E.k) (by rw [d];exact h),getElem!_pos E.z.cells (j % E.k) (by rw [d];exact h)]
 · rw [io (by simp [madeCells];omega),io (by rw [E.length_cells,jX];omega)]
theorem xN(E:au P α)(n:Nat)(e:n<=1000000000)(w:World)(d:base<=w.heap.size) :
  Ow (w.alloc (.cells (madeCells E.z.cells (n*E.k)) E.e)) base E (.slice (some ⟨w.heap.size,0,none⟩) n n) (List.replicate n E.zero):=
 n9 E w _ _ n (by simp) (by unfold maxLen;simp;omega) d (Cj E n)
theorem Pz(d:∀ x,∃ a b,E.enc x=[a,b])(l:List α)(i:Nat)(x:α)(u v:Value)(h:E.enc x=[u,v]):E.cells (l.set i x)=((E.cells l).set (i*2) u).set (i*2+1) v:=by
 induction l generalizing i with
 | nil=>rfl
 | cons y l o=>
  obtain⟨a,b,z⟩:=d y;have e:∀ l,E.cells (y::l)=a::b::E.cells l:=fun l=>by simp [au.cells,z]
  cases i with
  | zero=>rw [e,vy];simp [au.cells,h]
  | succ i=>rw [e,List.set_cons_succ,e,o,show(i+1)*2=i*2+1+1 by omega];rfl
theorem Ow.set2{g n d:Nat}(h:Ow w base E (.slice (some ⟨g,0,none⟩) n d) l)(o:∀ x,∃ a b,E.enc x=[a,b])(i:Nat)(Q:i<l.length)(x:α)(u v:Value)(e:E.enc x=[u,v]) :
  Ow ((w.setCell ⟨g,i*2,none⟩ u).setCell ⟨g,i*2+1,none⟩ v) base E (.slice (some ⟨g,0,none⟩) n d) (l.set i x):=by
 obtain⟨z,B,D,G,I,J,K,L⟩:=h.parts;have M:E.k=2:=by have:=E.len x;rw [e]at this;simpa using this.symm
 have O:=Pz o l i x u v e;refine⟨E.length_cells _,.inr ⟨g,d,(D.setIfInBounds (i*2) u).setIfInBounds (i*2+1) v,by rw [z,lV],B,a8 (a8 G _ u) _ v,by rw [lV];exact I,J,by simpa using K,?_⟩⟩;rw [O,<- L,lV,M,vI,vI,List.take_set,List.take_set]
theorem Ow.cell2{g n D:Nat}(h:Ow w base E (.slice (some ⟨g,0,none⟩) n D) l)(i:Nat)(G:i<l.length)(u v:Value)(d:E.enc l[i]=[u,v]) :
  w.cell? ⟨g,i*2,none⟩=some u/\w.cell? ⟨g,i*2+1,none⟩=some v/\(∀ j,w.frozen? ⟨g,j,none⟩=false):=by
 obtain⟨K,L,I,o,M,O,Q,J⟩:=h.parts;have z:E.k=2:=by have:=E.len l[i];rw [d]at this;simpa using this.symm
 have B:∀ j,j<2->I[i*2+j]?=(E.enc l[i])[j]?:=fun j R=>by have e:=E.cells_at l i G j (by omega);rw [z,<- J,z,List.getElem?_take,ag (by omega)]at e;simpa using e
 refine⟨?_,?_,fun j=>al o j⟩;· rw [aA o];have:=B 0 (by omega);rw [d]at this;simpa using this
 · rw [aA o];have:=B 1 (by omega);rw [d]at this;simpa using this
end
def pV(n:Nat)(f:Nat->Value):Array Value:=((List.range n).map f).toArray
theorem yK(n:Nat)(f:Nat->Value):(pV n f).size=n:=by simp [pV]
theorem yL(n:Nat)(f:Nat->Value)(i:Nat)(h:i<n):(pV n f)[i]?=some (f i):=by simp [pV,h]
theorem Qv(n:Nat)(f:Nat->Value)(i:Nat)(x:Value):(pV n f).setIfInBounds i x=pV n (fun j=>if j=i then x else f j):=by
 apply Array.ext_getElem?;intro j;by_cases d:j<n
 · rw [yL n _ j d];by_cases e:j=i;· subst e;rw [Array.getElem?_setIfInBounds_self_of_lt (by rw [yK];exact d)];simp
   · rw [vJ (fy e),yL n f j d];simp [e]
 · rw [tC (by simp [yK];omega),tC (by rw [yK];omega)]
def fd(w:World)(g:Nat)(T:TypeId)(n:Nat)(f:Nat->Value):Prop:=w.heap[g]?=some (.cells (pV n f) T (0,0))
section
variable {w w':World} {g:Nat} {T:TypeId} {n:Nat} {f:Nat->Value}
theorem fd.cell(h:fd w g T n f)(i:Nat)(d:i<n){x:Value}(e:f i=x):w.cell? ⟨g,i,none⟩=some x:=by rw [aA h,<- e];exact yL n f i d
theorem fd.frozen(h:fd w g T n f)(i:Nat):w.frozen? ⟨g,i,none⟩=false:=al h i
theorem fd.set(h:fd w g T n f)(i:Nat)(x:Value):fd (w.setCell ⟨g,i,none⟩ x) g T n (fun j=>if j=i then x else f j):=by
 unfold fd;rw [a8 h,Qv]
theorem fd.fr(h:fd w g T n f)(d:Fr w w'):fd w' g T n f:=d.heap h
theorem fd.chg{G:Nat->Prop}(h:fd w g T n f)(d:ah G w w')(e:¬G g):fd w' g T n f:=d.heap h e
theorem fd.drew(h:fd w g T n f):fd w.drew g T n f:=h
theorem fd.lt(h:fd w g T n f):g<w.heap.size:=(aM.1 h).1
theorem Ow.keepG{P:Program}{α:Type}{E:au P α}{base:Nat}{v:Value}{l:List α}(h:Ow w base E v l)(d:fd w g T n f)(o:T≠E.e)(z:ah (fun k=>k=g) w w'):Ow w' base E v l:=
 h.chg z fun k B e=>h.ne_cells d o (by rw [B,e])
end
section
variable {P:Program} {E:au P UInt8} {w w':World} {base m:Nat} {ps:List Hd} {A A':Nat->Nat->UInt8}
structure Tn (w:World) (base:Nat) (E:au P UInt8) (ps:List Hd) (m:Nat) (A:Nat->Nat->UInt8):Prop where
 own:∀ t (h:t<ps.length),Ow w base E ps[t].v (iM m A t)
 ne:∀ s t (hs:s<ps.length) (ht:t<ps.length),s≠t->ps[s].v.ownBlock=none\/ps[s].v.ownBlock≠ps[t].v.ownBlock
end
section
variable {P:Program} {α β:Type} {E:au P α} {F:au P β} {w w':World} {q base b i:Nat} {T T':TypeId} {pv v' x:Value} {ls ls':List α} {m:List β}
theorem DU(o:w.heap[q]?=some (.cells #[pv] T (0,0)))(G:Ow w base E pv ls)(z:T≠E.e)(d:dg base E ls' w pv v' w') :
  (w'.setCell ⟨q,0,none⟩ v').heap[q]?=some (.cells #[v'] T (0,0))/\Ow (w'.setCell ⟨q,0,none⟩ v') base E v' ls'/\ah (fun k=>k=q\/pv.ownBlock=some k) w (w'.setCell ⟨q,0,none⟩ v')/\(∀ b,v'.ownBlock=some b->pv.ownBlock=some b\/w.heap.size<=b):=by
 have B:=d.chg'.heap o (G.ne_cells o z);have D:=ao w' ⟨q,0,none⟩ v';refine⟨by have:=a8 B 0 v';simpa using this,d.own.chg D (fun k I e=>d.own.ne_cells B z (by rw [I,show k=q from e])),?_,d.fresh⟩;exact(d.chg'.mono (fun k _ h=>Or.inr h)).trans D (fun k _ h=>Or.inl h)
theorem mh{z:Array Value}{f:Nat × Nat}(o:Ow w b F x m)(B:w.heap[q]?=some (.cells z T f))(D:T≠F.e)(G:Ow w base E pv ls)(I:E.e≠F.e)(J:ah (fun k=>k=q\/pv.ownBlock=some k) w w'):Ow w' b F x m:=
 o.chg J fun k d e=>by
  rcases e with e | e
  · exact o.ne_cells B D (by rw [d,e])
  · rcases jg o G I with h | h
    · rw [h]at d;cases d
    · exact h (by rw [d,e])
theorem xj{h:Array Value}{f:Nat × Nat}{ps:List Hd}{d:List (List β)}(e:de w b F ps d)(o:w.heap[q]?=some (.cells h T f))(z:T≠F.e)(B:Ow w base E pv ls)(D:E.e≠F.e)(G:ah (fun k=>k=q\/pv.ownBlock=some k) w w'):de w' b F ps d:=
 ⟨e.1,fun t I J=>mh (e.2 t I J) o z B D G⟩
theorem kS{d:Array Value}{f:Nat × Nat}(h:w.heap[b]?=some (.cells d T' f))(o:b≠q)(z:Ow w base E pv ls)(B:T'≠E.e)(D:ah (fun k=>k=q\/pv.ownBlock=some k) w w'):w'.heap[b]?=some (.cells d T' f):=
 D.heap h fun e=>by
  rcases e with e | e
  · exact o e
  · exact z.ne_cells h B e
end
end Go.Fk
