/- Parts of the proof of ArchPacks: Lib8 Lib9 Lib10 Lib11 Lib14 Lib15 Lib13. -/
import Derived.Test.YtdamnfpigajmoaaGreatDoorM04
import Derived.Laws.CopyOwn
import Derived.Test.YtdamnfpigajmoaaGreatDoorM12
set_option linter.unusedVariables false
set_option linter.unusedSectionVars false
set_option linter.unusedSimpArgs false
set_option maxHeartbeats 8000000
namespace Go.Fk
abbrev kj:=@List.all_toArray
abbrev oz:=@Array.getElem?_eq_none
abbrev sg:=@Array.getElem?_setIfInBounds_ne
abbrev oj:=@List.size_toArray
abbrev kG:=@Go.setRow_heap
abbrev ox:=@Int.natCast_mul
abbrev pT:=@List.ext_getElem?
abbrev rZ:=@List.all_eq_true
end Go.Fk
namespace Go.Fk
open Go.RowKit
section
variable {P:Program} {α:Type} {E:al P α} {w:World} {base:Nat}
theorem BD(D:E.k=1){R:Array Oper}{rest:List Oper}{o:Oper}{a:Act}{Q:Exit->Act->World->Prop}(U:o.guard=none)(d s:Operand)(J K:TypeId)
  (ho:o.op=.call { callee:=.builtin .copy,args:=#[d,s],argTypes:=#[J,K] }) (hu:P.underlying J=some (.slice E.e)) (v y:Value) (z l:List α) (hd:a.eval d=v) (hs:a.eval s=y)
  (hown:Ow w base E v z) (hsee:af w E y l) (I:l.length<=z.length)
  (h:∀ w',Ow w' base E v (l++z.drop l.length)->ak (fun k=>v.ownBlock=some k) w w'->wpList P R Q rest (a.put o.dst (goInt l.length)) w'):wpList P R Q (o::rest) a w:=by
 obtain⟨i,hi,hz,a0,bu⟩:=lR E.info;have V:(P.info? E.e).map (·.size)=some 1:=by simp [hi,a0,D]
 obtain⟨va,vc,hv⟩:=hown.shape';obtain⟨ya,yc,hy,bv,bx,bz⟩:=hsee.shape;by_cases L:l=[];· subst L;refine wpList_copy_nothing U d s J K ho E.e hu V va ya z.length vc 0 yc (hd.trans hv) (hs.trans hy) (Nat.zero_min _) (h w (by simpa using hown) (ak.refl _ w))
 · have a7:z≠[]:=(by intro e;subst e;exact L (ib (by simpa using I)));obtain⟨g,M,ba,_⟩:=hown.atHead a7;rw [ba]at hown hd h;obtain⟨_,hb,X,Y,c1,c2,Z,c4⟩:=hown.parts;obtain⟨b,bc,bd,bf,_,_,bk⟩:=hsee.cells L;rw [D,gY]at Z c4;have G:=E.length_cells l;rw [D,gY]at G;refine wpList_copy_own U d s J K ho E.e hu V g 0 z.length M ⟨b,bc,none⟩ l.length bd hd (hs.trans bf) X E.e Y (E.cells l) (by rw [G];exact(gr I).symm) ?_ (by rw [G];omega) (E.cells_mem l) ?_;· intro j u hj;rw [me];have O:=(pS.1 hj).1;rw [G]at O;have:=E.cells_at l j O 0 (by omega);rw [D,gY,cX,hj]at this;have h2:=bk j O 0 (by omega) u this.symm;rw [D,gY,cX]at h2;exact h2
   · rw [G];refine h _ ⟨E.length_cells _,.inr ⟨g,M,_,by rw [an,bN];congr 1;omega,hb,kG w g _ _ _ _ Y,by rw [an,bN];omega,c2,?_,?_⟩⟩ ⟨rfl,rfl,rfl,by simp [World.setRow],fun k _ I=>setRow_other w g k _ (fun e=>I (by rw [e];rfl))⟩;· simp only [gH,gI,oj,an,bN,G];rw [D,gY];have:X.toList.length=M:=(by simpa using Z);omega
     · simp only [gH,gI];have e1:E.cells z=E.cells (z.take l.length)++E.cells (z.drop l.length):=(by rw [<- E.cells_append,kI]);have e2:(E.cells (z.take l.length)).length=l.length:=(by rw [E.length_cells,D,gY,aV];omega);have e3:(E.cells (z.drop l.length)).length=z.length - l.length:=(by rw [E.length_cells,D,gY,bN]);rw [E.cells_append,D,gY,an,bN];rw [show l.length+(z.length - l.length)=z.length by omega,List.take_append,G,eo (by rw [G];exact I)];congr 1;have e4:(0+l.length)=l.length:=js _;rw [e4,<- List.drop_take,c4,e1,List.drop_append,e2,e8,List.drop_zero,pU (by rw [e2];exact ag _),gI]
theorem xL{w':World}{b e n o:Nat}{l:List α}(h:af w E (.slice (some ⟨b,e,none⟩) n o) l)(z:w'.heap[b]? = w.heap[b]?):af w' E (.slice (some ⟨b,e,none⟩) n o) l:=by
 obtain⟨D,a,c,y,G,I,J,d⟩:=h;refine⟨D,a,c,y,G,I,J,?_⟩;rcases d with d | ⟨M,O,K,d⟩;· exact .inl d
 · cases y;cases K;exact .inr ⟨b,e,rfl,fun j u L=>(World.cell?_of_block (w:=w) (w':=w') (a:=⟨b,e+j,none⟩) z).trans (d j u L)⟩
theorem tj(E:al P α)(t:TypeId)(D:P.underlying t=some (.slice E.e)){w:World}{b e n d:Nat}{l:List α}(h:af w E (.slice (some ⟨b,e,none⟩) n d) l)(k:Nat)(L:k<=l.length) :
  ∃ G z,(∀ W,(Instr.slice t (.slice (some ⟨b,e,none⟩) n d) (some (.int .i64 (k:Int))) none none).run P W=.ok (.slice (some ⟨b,G,none⟩) (l.length - k) z) W)/\af w E (.slice (some ⟨b,G,none⟩) (l.length - k) z) (l.drop k):=by
 have I:P.underlying t=some (.slice (P.elem t)):=by simp [Program.elem,D]
 have J:P.elem t=E.e:=by simp [Program.elem,D]
 obtain⟨M,z,K,_⟩:=h.shape;simp only [ed]at K;obtain⟨rfl,rfl,rfl⟩:=K;have o:=h.drop L;by_cases y:d=k;· refine⟨e,d - k,fun W=>?_,by rw [ai y]at o;exact o⟩;rw [run_slice_l W t _ _ _ I .i64 _ (by omega) (by omega),J,mn];simp [Result.andThen,sliced,y]
 · refine⟨e+k*E.k,d - k,fun W=>?_,by rw [ah y]at o;simpa only [Option.map_some,me] using o⟩;rw [run_slice_l W t _ _ _ I .i64 _ (by omega) (by omega),J,mn];simp [Result.andThen,sliced,y,me]
end
theorem iB{P:Program}{α β:Type}{E:al P α}{F:al P β}{w:World}{b e:Nat}{x v:Value}{m:List α}{l:List β}(h:Ow w b E x m)(o:Ow w e F v l)(y:F.e≠E.e):x.ownBlock=none\/x.ownBlock≠v.ownBlock:=by
 rcases o.2 with⟨d,_⟩ | ⟨g,D,G,d,_,z,_⟩
 · cases I:x.ownBlock with
   | none=>exact .inl rfl
   | some k=>exact .inr (by rw [d];simp [Value.ownBlock])
 · exact .inr (by rw [d];exact h.ne_cells z y)
def bC(n:Nat)(f:Nat->Int):Array Value:=((List.range n).map fun i=>Value.int .i64 (f i)).toArray
theorem mD(n:Nat)(f:Nat->Int):(bC n f).size=n:=by simp [bC]
theorem pF(n:Nat)(f:Nat->Int)(i:Nat)(h:i<n):(bC n f)[i]? = some (.int .i64 (f i)):=by simp [bC,h]
theorem uM(n:Nat)(f:Nat->Int):(bC n f).all (·.oneCell')=true:=by
 unfold bC;rw [kj,rZ];intro u d;obtain⟨_,_,rfl⟩:=gt.1 d;rfl
theorem uN{n:Nat}{f f':Nat->Int}(h:∀ i,i<n->f i=f' i):bC n f=bC n f':=by
 unfold bC;congr 1;exact iT fun i d=>by rw [h i (kg.1 d)]
theorem IK(n:Nat)(f:Nat->Int)(i:Nat)(x:Int):(bC n f).setIfInBounds i (.int .i64 x)=bC n (fun j=>if j=i then x else f j):=by
 apply Array.ext_getElem?;intro j;by_cases d:j<n
 · rw [pF n _ j d];by_cases e:j=i;· subst e;rw [Array.getElem?_setIfInBounds_self_of_lt (by rw [mD];exact d)];simp
   · rw [sg (eT e),pF n f j d];simp [e]
 · rw [oz (by simp [mD];omega),oz (by rw [mD];omega)]
def cq(w:World)(g:Nat)(T:TypeId)(n:Nat)(f:Nat->Int):Prop:=w.heap[g]? = some (.cells (bC n f) T (0,0))
section
variable {w w':World} {g:Nat} {T:TypeId} {n:Nat} {f f':Nat->Int}
theorem cq.cell(h:cq w g T n f)(i:Nat)(d:i<n):w.cell? ⟨g,i,none⟩=some (.int .i64 (f i)):=by rw [aL h];exact pF n f i d
theorem cq.cell'(h:cq w g T n f)(i:Nat)(d:i<n){x:Int}(e:f i=x):w.cell? ⟨g,i,none⟩=some (.int .i64 x):=by rw [h.cell i d,e]
theorem cq.frozen(h:cq w g T n f)(i:Nat):w.frozen? ⟨g,i,none⟩=false:=az h i
theorem cq.set(h:cq w g T n f)(i:Nat)(x:Int):cq (w.setCell ⟨g,i,none⟩ (.int .i64 x)) g T n (fun j=>if j=i then x else f j):=by
 unfold cq;rw [aB h,IK]
theorem cq.congr(h:cq w g T n f)(d:∀ i,i<n->f i=f' i):cq w g T n f':=by
 unfold cq at *;rw [<- uN d];exact h
theorem cq.fr(h:cq w g T n f)(d:Fr w w'):cq w' g T n f:=d.heap h
theorem cq.chg{G:Nat->Prop}(h:cq w g T n f)(d:ak G w w')(e:¬G g):cq w' g T n f:=d.heap h e
theorem cq.drew(h:cq w g T n f):cq w.drew g T n f:=h
theorem cq.lt(h:cq w g T n f):g<w.heap.size:=(aR.1 h).1
end
section
variable {P:Program} {α:Type} {w:World} {base:Nat} {E:al P α} {l:List α}
theorem kS(E:al P α)(t:TypeId)(o:P.underlying t=some (.slice E.e))(d e:IntKind)(n:Nat)(y:n<=1000000000)(w:World) :
  (Instr.makeSlice t (.int d (n:Int)) (.int e (n:Int))).run P w=.ok (.slice (some ⟨w.heap.size,0,none⟩) n n) (w.alloc (.cells (madeCells E.z.cells (n*E.k)) E.e)):=by
 obtain⟨i,z,D,G,I⟩:=lR E.info;have J:(i.bytes:Int)*(n:Int)<=281474976710656:=by have h:=E.small;rw [<- I]at h;have:i.bytes*n<=64*1000000000:=b7 h y;have K:((i.bytes*n:Nat):Int)<=281474976710656:=(by omega);rwa [ox]at K
 have:=run_make (P:=P) w t E.e i E.z o z D d e n n (by omega) (Int.le_refl _) J (by omega);simp only [Int.toNat_natCast,G]at this;exact this
theorem F7(E:al P α)(n:Nat):(madeCells E.z.cells (n*E.k)).toList=E.cells (List.replicate n E.zero):=by
 have o:=E.pos;have z:E.z.cells.toList.length=E.k:=by rw [E.zs,E.len]
 have d:E.z.cells.size=E.k:=by simpa using z
 apply pT;intro j;by_cases y:j<n*E.k;· have D:=Nat.div_add_mod j E.k;have h:=jM j o;have G:j / E.k<n:=(vJ o).2 y;have e:=E.cells_at (List.replicate n E.zero) (j / E.k) (by simpa using G) (j % E.k) h;rw [fK,D]at e;rw [e];simp only [List.getElem_replicate,<- E.zs];simp [madeCells,y,d];rw [getElem?_pos E.z.cells (j % E.k) (by rw [d];exact h),getElem!_pos E.z.cells (j % E.k) (by rw [d];exact h)]
 · rw [gJ (by simp [madeCells];omega),gJ (by rw [E.length_cells,lX];omega)]
theorem oO(E:al P α)(n:Nat)(e:n<=1000000000)(w:World)(d:base<=w.heap.size) :
  Ow (w.alloc (.cells (madeCells E.z.cells (n*E.k)) E.e)) base E (.slice (some ⟨w.heap.size,0,none⟩) n n) (List.replicate n E.zero):=
 iC E w _ _ n (by simp) (by unfold maxLen;simp;omega) d (F7 E n)
theorem Ij(d:∀ x,∃ a b,E.enc x=[a,b])(l:List α)(i:Nat)(x:α)(u v:Value)(h:E.enc x=[u,v]):E.cells (l.set i x)=((E.cells l).set (i*2) u).set (i*2+1) v:=by
 induction l generalizing i with
 | nil=>rfl
 | cons y l o=>
  obtain⟨a,b,z⟩:=d y;have e:∀ l,E.cells (y::l)=a::b::E.cells l:=fun l=>by simp [al.cells,z]
  cases i with
  | zero=>rw [e,List.set_cons_zero];simp [al.cells,h]
  | succ i=>rw [e,List.set_cons_succ,e,o,show(i+1)*2=i*2+1+1 by omega];rfl
theorem Ow.set2{g n d:Nat}(h:Ow w base E (.slice (some ⟨g,0,none⟩) n d) l)(o:∀ x,∃ a b,E.enc x=[a,b])(i:Nat)(Q:i<l.length)(x:α)(u v:Value)(e:E.enc x=[u,v]) :
  Ow ((w.setCell ⟨g,i*2,none⟩ u).setCell ⟨g,i*2+1,none⟩ v) base E (.slice (some ⟨g,0,none⟩) n d) (l.set i x):=by
 obtain⟨y,z,D,G,I,J,K,L⟩:=h.parts;have M:E.k=2:=by have:=E.len x;rw [e]at this;simpa using this.symm
 have O:=Ij o l i x u v e;refine⟨E.length_cells _,.inr ⟨g,d,(D.setIfInBounds (i*2) u).setIfInBounds (i*2+1) v,by rw [y,lx],z,aB (aB G _ u) _ v,by rw [lx];exact I,J,by simpa using K,?_⟩⟩;rw [O,<- L,lx,M,Array.toList_setIfInBounds,Array.toList_setIfInBounds,List.take_set,List.take_set]
theorem Ow.cell2{g n D:Nat}(h:Ow w base E (.slice (some ⟨g,0,none⟩) n D) l)(i:Nat)(G:i<l.length)(u v:Value)(d:E.enc l[i]=[u,v]) :
  w.cell? ⟨g,i*2,none⟩=some u/\w.cell? ⟨g,i*2+1,none⟩=some v/\(∀ j,w.frozen? ⟨g,j,none⟩=false):=by
 obtain⟨K,L,I,o,M,O,Q,J⟩:=h.parts;have y:E.k=2:=by have:=E.len l[i];rw [d]at this;simpa using this.symm
 have z:∀ j,j<2->I[i*2+j]? = (E.enc l[i])[j]?:=fun j R=>by have e:=E.cells_at l i G j (by omega);rw [y,<- J,y,List.getElem?_take,ai (by omega)]at e;simpa using e
 refine⟨?_,?_,fun j=>az o j⟩;· rw [aL o];have:=z 0 (by omega);rw [d]at this;simpa using this
 · rw [aL o];have:=z 1 (by omega);rw [d]at this;simpa using this
end
def mC(n:Nat)(f:Nat->Value):Array Value:=((List.range n).map f).toArray
theorem uK(n:Nat)(f:Nat->Value):(mC n f).size=n:=by simp [mC]
theorem uL(n:Nat)(f:Nat->Value)(i:Nat)(h:i<n):(mC n f)[i]? = some (f i):=by simp [mC,h]
theorem IJ(n:Nat)(f:Nat->Value)(i:Nat)(x:Value):(mC n f).setIfInBounds i x=mC n (fun j=>if j=i then x else f j):=by
 apply Array.ext_getElem?;intro j;by_cases d:j<n
 · rw [uL n _ j d];by_cases e:j=i;· subst e;rw [Array.getElem?_setIfInBounds_self_of_lt (by rw [uK];exact d)];simp
   · rw [sg (eT e),uL n f j d];simp [e]
 · rw [oz (by simp [uK];omega),oz (by rw [uK];omega)]
def en(w:World)(g:Nat)(T:TypeId)(n:Nat)(f:Nat->Value):Prop:=w.heap[g]? = some (.cells (mC n f) T (0,0))
section
variable {w w':World} {g:Nat} {T:TypeId} {n:Nat} {f:Nat->Value}
theorem en.cell(h:en w g T n f)(i:Nat)(d:i<n){x:Value}(e:f i=x):w.cell? ⟨g,i,none⟩=some x:=by rw [aL h,<- e];exact uL n f i d
theorem en.frozen(h:en w g T n f)(i:Nat):w.frozen? ⟨g,i,none⟩=false:=az h i
theorem en.set(h:en w g T n f)(i:Nat)(x:Value):en (w.setCell ⟨g,i,none⟩ x) g T n (fun j=>if j=i then x else f j):=by
 unfold en;rw [aB h,IJ]
theorem en.fr(h:en w g T n f)(d:Fr w w'):en w' g T n f:=d.heap h
theorem en.chg{G:Nat->Prop}(h:en w g T n f)(d:ak G w w')(e:¬G g):en w' g T n f:=d.heap h e
theorem en.drew(h:en w g T n f):en w.drew g T n f:=h
theorem en.lt(h:en w g T n f):g<w.heap.size:=(aR.1 h).1
theorem Ow.keepG{P:Program}{α:Type}{E:al P α}{base:Nat}{v:Value}{l:List α}(h:Ow w base E v l)(d:en w g T n f)(o:T≠E.e)(y:ak (fun k=>k=g) w w'):Ow w' base E v l:=
 h.chg y fun k z e=>h.ne_cells d o (by rw [z,e])
end
section
variable {P:Program} {E:al P UInt8} {w w':World} {base m:Nat} {ps:List Hd} {A A':Nat->Nat->UInt8}
structure dD (w:World) (base:Nat) (E:al P UInt8) (ps:List Hd) (m:Nat) (A:Nat->Nat->UInt8):Prop where
 own:∀ t (h:t<ps.length),Ow w base E ps[t].v (gM m A t)
 ne:∀ s t (hs:s<ps.length) (ht:t<ps.length),s≠t->ps[s].v.ownBlock=none\/ps[s].v.ownBlock≠ps[t].v.ownBlock
theorem dD.nil:dD w base E [] m A:=⟨fun t h=>by simp at h,fun s t h=>by simp at h⟩
theorem dD.fr(h:dD w base E ps m A)(d:Fr w w'):dD w' base E ps m A:=⟨fun t e=>(h.own t e).fr d,h.ne⟩
theorem dD.drew(h:dD w base E ps m A):dD w.drew base E ps m A:=⟨h.own,h.ne⟩
theorem dD.chg{G:Nat->Prop}(h:dD w base E ps m A)(e:ak G w w')(o:∀ t (d:t<ps.length) k,ps[t].v.ownBlock=some k->¬G k):dD w' base E ps m A:=⟨fun t d=>(h.own t d).chg e (o t d),h.ne⟩
theorem xR{f g:Nat->Nat->UInt8}{i:Nat}(h:∀ j,j<m->f i j=g i j):gM m f i=gM m g i:=iT fun j d=>h j (kg.1 d)
theorem dD.congr(h:dD w base E ps m A)(e:∀ t,t<ps.length->∀ j,j<m->A t j=A' t j):dD w base E ps m A':=⟨fun t d=>by rw [<- xR (e t d)];exact h.own t d,h.ne⟩
theorem dD.rebase(h:dD w base E ps m A){b:Nat}(d:b<=base):dD w b E ps m A:=⟨fun t e=>(h.own t e).rebase d,h.ne⟩
theorem dD.beside{α:Type}{F:al P α}{b g i:Nat}{v u:Value}{l:List α}(h:dD w base E ps m A)(y:Ow w b F v l)(z:v.ownBlock=some g)(D:F.e≠E.e):dD (w.setCell ⟨g,i,none⟩ u) base E ps m A:=
 h.chg (aw w ⟨g,i,none⟩ u) fun t G k d e=>by
  rcases iB (h.own t G) y D with o | o
  · rw [o]at d;cases d
  · have e:k=g:=e
    exact o (by rw [d,z,e])
theorem dD.set(h:dD w base E ps m A)(J:E.enc=fun x=>[u8 x])(i j:Nat)(K:i<ps.length)(L:j<m)(x:UInt8){g n M:Nat}(G:ps[i].v=.slice (some ⟨g,0,none⟩) n M) :
  dD (w.setCell ⟨g,j,none⟩ (u8 x)) base E ps m (fun r c=>if r=i/\c=j then x else A r c):=by
 refine⟨fun t y=>?_,h.ne⟩;by_cases e:t=i
 · subst e;have I:=h.own t y;rw [G]at I ⊢;have:=I.set u8 J j (by rw [DM];exact L) x (u8 x) rfl;have d:(gM m A t).set j x=gM m (fun r c=>if r=t/\c=j then x else A r c) t:=by
    apply kL;· simp [gM]
    · intro k o O;by_cases z:k=j;· subst z;simp [gM]
      · rw [List.getElem_set_ne (fun e=>z e.symm)];simp [gM,z]
   rw [<- d];exact this
 · rw [show gM m (fun r c=>if r=i/\c=j then x else A r c) t=gM m A t from xR fun c _=>by simp [e]];exact(h.own t y).chg (aw w ⟨g,j,none⟩ _) fun k D d=>by
    have d:k=g:=d;rcases h.ne t i y K e with o | o;· rw [o]at D;cases D
    · exact o (by rw [D,G,d];rfl)
theorem dD.snoc{x:Hd}(h:dD w base E ps m A)(D:Ow w base E x.v (gM m A ps.length))(z:∀ t (o:t<ps.length),ps[t].v.ownBlock=none\/ps[t].v.ownBlock≠x.v.ownBlock):dD w base E (ps++[x]) m A:=by
 have y:∀ t (h:t<(ps++[x]).length),t<ps.length\/t=ps.length:=fun t h=>by simp at h;omega
 refine⟨fun t o=>?_,fun s t G o I=>?_⟩
 · rcases y t o with d | d;· simp only [eW d];exact h.own t d
   · subst d;simpa using D
 · rcases y s G with d | d <;> rcases y t o with e | e;· simp only [eW d,eW e];exact h.ne s t d e I
   · subst e;simpa [eW d] using z s d
   · subst d;have:=il (z t e);simpa [eW e] using this
   · omega
theorem G8{α:Type}(l:List α)(i p t:Nat)(x y:α)(h:t<((l.set i x).set p y).length):((l.set i x).set p y)[t]=if t=p then y else if t=i then x else l[t]'(by simpa using h):=by
 by_cases d:t=p;· subst d;simp
 · rw [List.getElem_set_ne (fun e=>d e.symm),ah d];by_cases o:t=i;· subst o;simp
   · rw [List.getElem_set_ne (fun e=>o e.symm),ah o]
theorem dD.swap(h:dD w base E ps m A)(i p:Nat)(I:i<ps.length)(J:p<ps.length):dD w base E ((ps.set i ps[p]).set p ps[i]) m (qu A i p):=by
 have key:∀ t (d:t<((ps.set i ps[p]).set p ps[i]).length),∃ (s:Nat) (y:s<ps.length),((ps.set i ps[p]).set p ps[i])[t]=ps[s]/\s=(if t=i then p else if t=p then i else t):=by
  intro t d;rw [G8];by_cases z:t=p
  · subst z;refine⟨i,I,by simp,?_⟩;by_cases o:t=i;· simp [o]
    · simp [o]
  · by_cases o:t=i;· subst o;exact⟨p,J,by simp [z],by simp⟩
    · exact⟨t,by simpa using d,by simp [z,o],by simp [z,o]⟩
 refine⟨fun t d=>?_,fun s t y d K=>?_⟩;· obtain⟨s,y,D,G⟩:=key t d;rw [D,show gM m (qu A i p) t=gM m A s from by unfold gM qu;rw [G]];exact h.own s y
 · obtain⟨L,M,D,G⟩:=key s y;obtain⟨O,Q,R,U⟩:=key t d;rw [D,R];refine h.ne L O M Q fun e=>K ?_;rw [G,U]at e;by_cases V:s=i <;> by_cases X:s=p <;> by_cases Y:t=i <;> by_cases Z:t=p <;> simp_all
end
section
variable {P:Program} {α β:Type} {E:al P α} {F:al P β} {w w':World} {q base b i:Nat} {T T':TypeId} {pv v' x:Value} {ls ls':List α} {m:List β}
end
theorem tG{P:Program}{α:Type}{E:al P α}{W:World}{b:Nat}{ps h:List Hd}{ls o:List (List α)}(d:ck W b E ps ls)(y:ck W b E h o):ck W b E (ps++h) (ls++o):=by
 refine⟨by rw [an,an,d.1,y.1],fun t a c=>?_⟩;have e:=d.1;by_cases z:t<ps.length;· rw [eW z,eW (by omega)];exact d.2 t z (by omega)
 · rw [gu (by omega),gu (by omega)];simp only [an]at a c;have D:=y.2 (t - ps.length) (by omega) (by omega);simp only [e]at D ⊢;exact D
section
variable {P:Program} {α:Type} {E:al P α} {w:World} {base:Nat}
end
end Go.Fk
