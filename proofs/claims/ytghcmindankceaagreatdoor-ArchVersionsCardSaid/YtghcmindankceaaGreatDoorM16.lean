/- Parts of the proof of ArchVersions: Lib8 Lib9 Lib10 Lib11 Lib13. -/
import Derived.Test.YtghcmindankceaaGreatDoorM10
import Derived.Laws.CopyOwn
set_option linter.unusedVariables false
set_option linter.unusedSectionVars false
set_option linter.unusedSimpArgs false
set_option maxHeartbeats 8000000
namespace Go.Fk
open Go.RowKit
section
variable {P:Program} {α:Type} {E:Elt P α} {w:World} {base:Nat}
end
theorem own_ne{P:Program}{α β:Type}{E:Elt P α}{F:Elt P β}{w:World}{b b':Nat}{x v:Value}{m:List α}{l:List β}(h:Ow w b E x m)(h2:Ow w b' F v l)(hT:F.e≠E.e):x.ownBlock=none\/x.ownBlock≠v.ownBlock:=by
 rcases h2.2 with⟨hv,_⟩ | ⟨g,cap,cur,hv,_,hg,_⟩
 · cases hx:x.ownBlock with
   | none=>exact .inl rfl
   | some k=>exact .inr (by rw [hv];simp [Value.ownBlock])
 · exact .inr (by rw [hv];exact h.ne_cells hg hT)
def arrI(n:Nat)(f:Nat->Int):Array Value:=((List.range n).map fun i=>Value.int .i64 (f i)).toArray
theorem arrI_size(n:Nat)(f:Nat->Int):(arrI n f).size=n:=by simp [arrI]
theorem arrI_at(n:Nat)(f:Nat->Int)(i:Nat)(h:i<n):(arrI n f)[i]?=some (.int .i64 (f i)):=by simp [arrI,h]
theorem arrI_one(n:Nat)(f:Nat->Int):(arrI n f).all (·.oneCell')=true:=by
 unfold arrI;rw [List.all_toArray,List.all_eq_true];intro u hu;obtain⟨_,_,rfl⟩:=List.mem_map.1 hu;rfl
theorem arrI_congr{n:Nat}{f f':Nat->Int}(h:∀ i,i<n->f i=f' i):arrI n f=arrI n f':=by
 unfold arrI;congr 1
 exact List.map_congr_left fun i hi=>by rw [h i (List.mem_range.1 hi)]
theorem arrI_set(n:Nat)(f:Nat->Int)(i:Nat)(x:Int):(arrI n f).setIfInBounds i (.int .i64 x)=arrI n (fun j=>if j=i then x else f j):=by
 apply Array.ext_getElem?
 intro j
 by_cases hj:j<n
 · rw [arrI_at n _ j hj]
   by_cases e:j=i
   · subst e;rw [Array.getElem?_setIfInBounds_self_of_lt (by rw [arrI_size];exact hj)];simp
   · rw [Array.getElem?_setIfInBounds_ne (Ne.symm e),arrI_at n f j hj];simp [e]
 · rw [Array.getElem?_eq_none (by simp [arrI_size];omega),Array.getElem?_eq_none (by rw [arrI_size];omega)]
def ArrI(w:World)(g:Nat)(T:TypeId)(n:Nat)(f:Nat->Int):Prop:=w.heap[g]?=some (.cells (arrI n f) T (0,0))
section
variable {w w':World} {g:Nat} {T:TypeId} {n:Nat} {f f':Nat->Int}
theorem ArrI.cell(h:ArrI w g T n f)(i:Nat)(hi:i<n):w.cell? ⟨g,i,none⟩=some (.int .i64 (f i)):=by rw [cell_of_heap h];exact arrI_at n f i hi
theorem ArrI.cell'(h:ArrI w g T n f)(i:Nat)(hi:i<n){x:Int}(hx:f i=x):w.cell? ⟨g,i,none⟩=some (.int .i64 x):=by rw [h.cell i hi,hx]
theorem ArrI.frozen(h:ArrI w g T n f)(i:Nat):w.frozen? ⟨g,i,none⟩=false:=frozen_of_heap h i
theorem ArrI.set(h:ArrI w g T n f)(i:Nat)(x:Int):ArrI (w.setCell ⟨g,i,none⟩ (.int .i64 x)) g T n (fun j=>if j=i then x else f j):=by
 unfold ArrI;rw [heap_setCell_own h,arrI_set]
theorem ArrI.congr(h:ArrI w g T n f)(he:∀ i,i<n->f i=f' i):ArrI w g T n f':=by
 unfold ArrI at *;rw [<- arrI_congr he];exact h
theorem ArrI.fr(h:ArrI w g T n f)(hf:Fr w w'):ArrI w' g T n f:=hf.heap h
theorem ArrI.chg{G:Nat->Prop}(h:ArrI w g T n f)(hf:Chg G w w')(hg:¬G g):ArrI w' g T n f:=hf.heap h hg
theorem ArrI.drew(h:ArrI w g T n f):ArrI w.drew g T n f:=h
theorem ArrI.lt(h:ArrI w g T n f):g<w.heap.size:=(Array.getElem?_eq_some_iff.1 h).1
end
section
variable {P:Program} {α:Type} {w:World} {base:Nat} {E:Elt P α} {l:List α}
theorem made_runE(E:Elt P α)(t:TypeId)(ht:P.underlying t=some (.slice E.e))(kl kc:IntKind)(n:Nat)(hn:n<=1000000000)(w:World) :
  (Instr.makeSlice t (.int kl (n:Int)) (.int kc (n:Int))).run P w=.ok (.slice (some ⟨w.heap.size,0,none⟩) n n) (w.alloc (.cells (madeCells E.z.cells (n*E.k)) E.e)):=by
 obtain⟨i,hi,hz,h1,h2⟩:=info_parts E.info
 have hb:(i.bytes:Int)*(n:Int)<=281474976710656:=by
  have h3:=E.small
  rw [<- h2]at h3
  have:i.bytes*n<=64*1000000000:=Nat.mul_le_mul h3 hn
  have h4:((i.bytes*n:Nat):Int)<=281474976710656:=by omega
  rwa [Int.natCast_mul]at h4
 have:=run_make (P:=P) w t E.e i E.z ht hi hz kl kc n n (by omega) (Int.le_refl _) hb (by omega)
 simp only [Int.toNat_natCast,h1]at this
 exact this
theorem made_cellsE(E:Elt P α)(n:Nat):(madeCells E.z.cells (n*E.k)).toList=E.cells (List.replicate n E.zero):=by
 have hk:=E.pos
 have hzl:E.z.cells.toList.length=E.k:=by rw [E.zs,E.len]
 have hzs:E.z.cells.size=E.k:=by simpa using hzl
 apply List.ext_getElem?
 intro j
 by_cases hj:j<n*E.k
 · have hd:=Nat.div_add_mod j E.k
   have hm:=Nat.mod_lt j hk
   have hq:j / E.k<n:=(Nat.div_lt_iff_lt_mul hk).2 hj
   have e:=E.cells_at (List.replicate n E.zero) (j / E.k) (by simpa using hq) (j % E.k) hm
   rw [Nat.mul_comm,hd]at e
   rw [e]
   simp only [List.getElem_replicate,<- E.zs]
   simp [madeCells,hj,hzs]
   rw [getElem?_pos E.z.cells (j % E.k) (by rw [hzs];exact hm),getElem!_pos E.z.cells (j % E.k) (by rw [hzs];exact hm)]
 · rw [List.getElem?_eq_none (by simp [madeCells];omega),List.getElem?_eq_none (by rw [E.length_cells,List.length_replicate];omega)]
theorem made_ownE(E:Elt P α)(n:Nat)(hn:n<=1000000000)(w:World)(hb:base<=w.heap.size) :
  Ow (w.alloc (.cells (madeCells E.z.cells (n*E.k)) E.e)) base E (.slice (some ⟨w.heap.size,0,none⟩) n n) (List.replicate n E.zero):=
 own_lit E w _ _ n (by simp) (by unfold maxLen;simp;omega) hb (made_cellsE E n)
theorem cells_set2(h2:∀ x,∃ a b,E.enc x=[a,b])(l:List α)(i:Nat)(x:α)(u v:Value)(hx:E.enc x=[u,v]):E.cells (l.set i x)=((E.cells l).set (i*2) u).set (i*2+1) v:=by
 induction l generalizing i with
 | nil=>rfl
 | cons y l ih=>
  obtain⟨a,b,hy⟩:=h2 y
  have e:∀ l,E.cells (y::l)=a::b::E.cells l:=fun l=>by simp [Elt.cells,hy]
  cases i with
  | zero=>
   rw [e,List.set_cons_zero]
   simp [Elt.cells,hx]
  | succ i=>
   rw [e,List.set_cons_succ,e,ih,show(i+1)*2=i*2+1+1 by omega]
   rfl
theorem Ow.set2{g n cap:Nat}(h:Ow w base E (.slice (some ⟨g,0,none⟩) n cap) l)(h2:∀ x,∃ a b,E.enc x=[a,b])(i:Nat)(hi:i<l.length)(x:α)(u v:Value)(hx:E.enc x=[u,v]) :
  Ow ((w.setCell ⟨g,i*2,none⟩ u).setCell ⟨g,i*2+1,none⟩ v) base E (.slice (some ⟨g,0,none⟩) n cap) (l.set i x):=by
 obtain⟨hn,hb,cur,hg,h3,h4,h5,h6⟩:=h.parts
 have hk:E.k=2:=by have:=E.len x;rw [hx]at this;simpa using this.symm
 have hc:=cells_set2 h2 l i x u v hx
 refine⟨E.length_cells _,.inr ⟨g,cap,(cur.setIfInBounds (i*2) u).setIfInBounds (i*2+1) v,by rw [hn,List.length_set],hb,heap_setCell_own (heap_setCell_own hg _ u) _ v,by rw [List.length_set];exact h3,h4,by simpa using h5,?_⟩⟩
 rw [hc,<- h6,List.length_set,hk,Array.toList_setIfInBounds,Array.toList_setIfInBounds,List.take_set,List.take_set]
theorem Ow.cell2{g n cap:Nat}(h:Ow w base E (.slice (some ⟨g,0,none⟩) n cap) l)(i:Nat)(hi:i<l.length)(u v:Value)(hx:E.enc l[i]=[u,v]) :
  w.cell? ⟨g,i*2,none⟩=some u/\w.cell? ⟨g,i*2+1,none⟩=some v/\(∀ j,w.frozen? ⟨g,j,none⟩=false):=by
 obtain⟨hn,hb,cur,hg,h3,h4,h5,h6⟩:=h.parts
 have hk:E.k=2:=by have:=E.len l[i];rw [hx]at this;simpa using this.symm
 have hcur:∀ j,j<2->cur[i*2+j]?=(E.enc l[i])[j]?:=fun j hj=>by
  have e:=E.cells_at l i hi j (by omega)
  rw [hk,<- h6,hk,List.getElem?_take,if_pos (by omega)]at e
  simpa using e
 refine⟨?_,?_,fun j=>frozen_of_heap hg j⟩
 · rw [cell_of_heap hg];have:=hcur 0 (by omega);rw [hx]at this;simpa using this
 · rw [cell_of_heap hg];have:=hcur 1 (by omega);rw [hx]at this;simpa using this
end
def arrV(n:Nat)(f:Nat->Value):Array Value:=((List.range n).map f).toArray
theorem arrV_size(n:Nat)(f:Nat->Value):(arrV n f).size=n:=by simp [arrV]
theorem arrV_at(n:Nat)(f:Nat->Value)(i:Nat)(h:i<n):(arrV n f)[i]?=some (f i):=by simp [arrV,h]
theorem arrV_set(n:Nat)(f:Nat->Value)(i:Nat)(x:Value):(arrV n f).setIfInBounds i x=arrV n (fun j=>if j=i then x else f j):=by
 apply Array.ext_getElem?
 intro j
 by_cases hj:j<n
 · rw [arrV_at n _ j hj]
   by_cases e:j=i
   · subst e;rw [Array.getElem?_setIfInBounds_self_of_lt (by rw [arrV_size];exact hj)];simp
   · rw [Array.getElem?_setIfInBounds_ne (Ne.symm e),arrV_at n f j hj];simp [e]
 · rw [Array.getElem?_eq_none (by simp [arrV_size];omega),Array.getElem?_eq_none (by rw [arrV_size];omega)]
def ArrV(w:World)(g:Nat)(T:TypeId)(n:Nat)(f:Nat->Value):Prop:=w.heap[g]?=some (.cells (arrV n f) T (0,0))
section
variable {w w':World} {g:Nat} {T:TypeId} {n:Nat} {f:Nat->Value}
theorem ArrV.cell(h:ArrV w g T n f)(i:Nat)(hi:i<n){x:Value}(hx:f i=x):w.cell? ⟨g,i,none⟩=some x:=by rw [cell_of_heap h,<- hx];exact arrV_at n f i hi
theorem ArrV.frozen(h:ArrV w g T n f)(i:Nat):w.frozen? ⟨g,i,none⟩=false:=frozen_of_heap h i
theorem ArrV.set(h:ArrV w g T n f)(i:Nat)(x:Value):ArrV (w.setCell ⟨g,i,none⟩ x) g T n (fun j=>if j=i then x else f j):=by
 unfold ArrV;rw [heap_setCell_own h,arrV_set]
theorem ArrV.fr(h:ArrV w g T n f)(hf:Fr w w'):ArrV w' g T n f:=hf.heap h
theorem ArrV.chg{G:Nat->Prop}(h:ArrV w g T n f)(hf:Chg G w w')(hg:¬G g):ArrV w' g T n f:=hf.heap h hg
theorem ArrV.drew(h:ArrV w g T n f):ArrV w.drew g T n f:=h
theorem ArrV.lt(h:ArrV w g T n f):g<w.heap.size:=(Array.getElem?_eq_some_iff.1 h).1
theorem Ow.keepG{P:Program}{α:Type}{E:Elt P α}{base:Nat}{v:Value}{l:List α}(h:Ow w base E v l)(hA:ArrV w g T n f)(hT:T≠E.e)(hc:Chg (fun k=>k=g) w w'):Ow w' base E v l:=
 h.chg hc fun k hk e=>h.ne_cells hA hT (by rw [hk,e])
end
section
variable {P:Program} {α:Type} {E:Elt P α} {w:World} {base:Nat}
end
end Go.Fk
