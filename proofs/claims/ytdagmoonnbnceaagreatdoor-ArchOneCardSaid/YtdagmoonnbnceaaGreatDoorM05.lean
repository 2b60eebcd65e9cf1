/- Parts of the proof of ArchOne: Lib8 Lib9 Lib10 Lib11 Lib14 Lib15 Lib13. -/
import Derived.Test.YtdagmoonnbnceaaGreatDoorM04
import Derived.Laws.CopyOwn
import Derived.Test.YtdagmoonnbnceaaGreatDoorM07
set_option linter.unusedVariables false
set_option linter.unusedSectionVars false
set_option linter.unusedSimpArgs false
set_option maxHeartbeats 8000000
namespace Go.Fk
open Go.RowKit
section
variable {P:Program} {α:Type} {E:Elt P α} {w:World} {base:Nat}
theorem wpList_copyOw(hk:E.k=1){ops:Array Oper}{rest:List Oper}{o:Oper}{a:Act}{Q:Exit->Act->World->Prop}(hgd:o.guard=none)(d s:Operand)(dT sT:TypeId)
  (ho:o.op=.call { callee:=.builtin .copy,args:=#[d,s],argTypes:=#[dT,sT] }) (hu:P.underlying dT=some (.slice E.e)) (v y:Value) (z l:List α) (hd:a.eval d=v) (hs:a.eval s=y)
  (hown:Ow w base E v z) (hsee:See w E y l) (hn:l.length<=z.length)
  (h:∀ w',Ow w' base E v (l++z.drop l.length)->Chg (fun k=>v.ownBlock=some k) w w'->wpList P ops Q rest (a.put o.dst (goInt l.length)) w'):wpList P ops Q (o::rest) a w:=by
 obtain⟨i,hi,hz,hi1,hi2⟩:=info_parts E.info
 have hsz:(P.info? E.e).map (·.size)=some 1:=by simp [hi,hi1,hk]
 obtain⟨va,vc,hv⟩:=hown.shape'
 obtain⟨ya,yc,hy,hy1,hy2,hy3⟩:=hsee.shape
 by_cases hl:l=[]
 · subst hl
   refine wpList_copy_nothing hgd d s dT sT ho E.e hu hsz va ya z.length vc 0 yc (hd.trans hv) (hs.trans hy) (Nat.zero_min _) (h w (by simpa using hown) (Chg.refl _ w))
 · have hz0:z≠[]:=by intro e;subst e;exact hl (List.eq_nil_of_length_eq_zero (by simpa using hn))
   obtain⟨g,cap,hvg,_⟩:=hown.atHead hz0
   rw [hvg]at hown hd h
   obtain⟨_,hb,cur,hg,c1,c2,c3,c4⟩:=hown.parts
   obtain⟨b,off,cap2,hye,_,_,hcell⟩:=hsee.cells hl
   rw [hk,Nat.mul_one]at c3 c4
   have hel:=E.length_cells l
   rw [hk,Nat.mul_one]at hel
   refine wpList_copy_own hgd d s dT sT ho E.e hu hsz g 0 z.length cap ⟨b,off,none⟩ l.length cap2 hd (hs.trans hye) cur E.e hg (E.cells l) (by rw [hel];exact(Nat.min_eq_left hn).symm) ?_ (by rw [hel];omega) (E.cells_mem l) ?_
   · intro j u hj
     rw [Addr.add_lit]
     have hjl:=(List.getElem?_eq_some_iff.1 hj).1
     rw [hel]at hjl
     have:=E.cells_at l j hjl 0 (by omega)
     rw [hk,Nat.mul_one,Nat.add_zero,hj]at this
     have h2:=hcell j hjl 0 (by omega) u this.symm
     rw [hk,Nat.mul_one,Nat.add_zero]at h2
     exact h2
   · rw [hel]
     refine h _ ⟨E.length_cells _,.inr ⟨g,cap,_,by rw [List.length_append,List.length_drop];congr 1;omega,hb,setRow_heap w g _ _ _ _ hg,by rw [List.length_append,List.length_drop];omega,c2,?_,?_⟩⟩ ⟨rfl,rfl,rfl,by simp [World.setRow],fun k _ hn=>setRow_other w g k _ (fun e=>hn (by rw [e];rfl))⟩
     · simp only [List.take_zero,List.nil_append,List.size_toArray,List.length_append,List.length_drop,hel]
       rw [hk,Nat.mul_one]
       have:cur.toList.length=cap:=by simpa using c3
       omega
     · simp only [List.take_zero,List.nil_append]
       have e1:E.cells z=E.cells (z.take l.length)++E.cells (z.drop l.length):=by rw [<- E.cells_append,List.take_append_drop]
       have e2:(E.cells (z.take l.length)).length=l.length:=by rw [E.length_cells,hk,Nat.mul_one,List.length_take];omega
       have e3:(E.cells (z.drop l.length)).length=z.length - l.length:=by rw [E.length_cells,hk,Nat.mul_one,List.length_drop]
       rw [E.cells_append,hk,Nat.mul_one,List.length_append,List.length_drop]
       rw [show l.length+(z.length - l.length)=z.length by omega,List.take_append,hel,List.take_of_length_le (by rw [hel];exact hn)]
       congr 1
       have e4:(0+l.length)=l.length:=Nat.zero_add _
       rw [e4,<- List.drop_take,c4,e1,List.drop_append,e2,Nat.sub_self,List.drop_zero,List.drop_of_length_le (by rw [e2];exact Nat.le_refl _),List.nil_append]
theorem see_blk{w':World}{b off n cap:Nat}{l:List α}(h:See w E (.slice (some ⟨b,off,none⟩) n cap) l)(hb:w'.heap[b]? = w.heap[b]?):See w' E (.slice (some ⟨b,off,none⟩) n cap) l:=by
 obtain⟨h1,a,c,hv,h2,h3,h5,h4⟩:=h
 refine⟨h1,a,c,hv,h2,h3,h5,?_⟩
 rcases h4 with h4 | ⟨b',off',ha,h4⟩
 · exact .inl h4
 · cases hv
   cases ha
   exact .inr ⟨b,off,rfl,fun j u hj=>(World.cell?_of_block (w:=w) (w':=w') (a:=⟨b,off+j,none⟩) hb).trans (h4 j u hj)⟩
theorem run_from_blk(E:Elt P α)(t:TypeId)(ht:P.underlying t=some (.slice E.e)){w:World}{b off n cap:Nat}{l:List α}(h:See w E (.slice (some ⟨b,off,none⟩) n cap) l)(k:Nat)(hk:k<=l.length) :
  ∃ off' cap',(∀ W,(Instr.slice t (.slice (some ⟨b,off,none⟩) n cap) (some (.int .i64 (k:Int))) none none).run P W=.ok (.slice (some ⟨b,off',none⟩) (l.length - k) cap') W)/\See w E (.slice (some ⟨b,off',none⟩) (l.length - k) cap') (l.drop k):=by
 have ht':P.underlying t=some (.slice (P.elem t)):=by simp [Program.elem,ht]
 have he:P.elem t=E.e:=by simp [Program.elem,ht]
 obtain⟨a',cap',hv,_⟩:=h.shape
 simp only [Value.slice.injEq]at hv
 obtain⟨rfl,rfl,rfl⟩:=hv
 have hd:=h.drop hk
 by_cases hc:cap=k
 · refine⟨off,cap - k,fun W=>?_,by rw [if_pos hc]at hd;exact hd⟩
   rw [run_slice_l W t _ _ _ ht' .i64 _ (by omega) (by omega),he,sizeOf_elt]
   simp [Result.andThen,sliced,hc]
 · refine⟨off+k*E.k,cap - k,fun W=>?_,by rw [if_neg hc]at hd;simpa only [Option.map_some,Addr.add_lit] using hd⟩
   rw [run_slice_l W t _ _ _ ht' .i64 _ (by omega) (by omega),he,sizeOf_elt]
   simp [Result.andThen,sliced,hc,Addr.add_lit]
end
theorem own_ne{P:Program}{α β:Type}{E:Elt P α}{F:Elt P β}{w:World}{b b':Nat}{x v:Value}{m:List α}{l:List β}(h:Ow w b E x m)(h2:Ow w b' F v l)(hT:F.e≠E.e):x.ownBlock=none\/x.ownBlock≠v.ownBlock:=by
 rcases h2.2 with⟨hv,_⟩ | ⟨g,cap,cur,hv,_,hg,_⟩
 · cases hx:x.ownBlock with
   | none=>exact .inl rfl
   | some k=>exact .inr (by rw [hv];simp [Value.ownBlock])
 · exact .inr (by rw [hv];exact h.ne_cells hg hT)
def arrI(n:Nat)(f:Nat->Int):Array Value:=((List.range n).map fun i=>Value.int .i64 (f i)).toArray
theorem arrI_size(n:Nat)(f:Nat->Int):(arrI n f).size=n:=by simp [arrI]
theorem arrI_at(n:Nat)(f:Nat->Int)(i:Nat)(h:i<n):(arrI n f)[i]? = some (.int .i64 (f i)):=by simp [arrI,h]
theorem arrI_one(n:Nat)(f:Nat->Int):(arrI n f).all (·.oneCell')=true:=by
 unfold arrI;rw [List.all_toArray,List.all_eq_true];intro u hu;obtain⟨_,_,rfl⟩:=List.mem_map.1 hu;rfl
theorem arrI_congr{n:Nat}{f f':Nat->Int}(h:∀ i,i<n->f i=f' i):arrI n f=arrI n f':=by
 unfold arrI;congr 1
 exact List.map_congr_left fun i hi=>by rw [h i (List.mem_range.1 hi)]
theorem arrI_set(n:Nat)(f:Nat->Int)(i:Nat)(x:Int):(arrI n f).setIfInBounds i (.int .i64 x)=arrI n (fun j=>if j=i then x else f j):=by
 apply Array.ext_getElem?
 intro j
 by_cases hj:j<n
 · rw [arrI_at n _ j hj]
   by_cases e:j=i
   · subst e;rw [Array.getElem?_setIfInBounds_self_of_lt (by rw [arrI_size];exact hj)];simp
   · rw [Array.getElem?_setIfInBounds_ne (Ne.symm e),arrI_at n f j hj];simp [e]
 · rw [Array.getElem?_eq_none (by simp [arrI_size];omega),Array.getElem?_eq_none (by rw [arrI_size];omega)]
def ArrI(w:World)(g:Nat)(T:TypeId)(n:Nat)(f:Nat->Int):Prop:=w.heap[g]? = some (.cells (arrI n f) T (0,0))
section
variable {w w':World} {g:Nat} {T:TypeId} {n:Nat} {f f':Nat->Int}
theorem ArrI.cell(h:ArrI w g T n f)(i:Nat)(hi:i<n):w.cell? ⟨g,i,none⟩=some (.int .i64 (f i)):=by rw [cell_of_heap h];exact arrI_at n f i hi
theorem ArrI.cell'(h:ArrI w g T n f)(i:Nat)(hi:i<n){x:Int}(hx:f i=x):w.cell? ⟨g,i,none⟩=some (.int .i64 x):=by rw [h.cell i hi,hx]
theorem ArrI.frozen(h:ArrI w g T n f)(i:Nat):w.frozen? ⟨g,i,none⟩=false:=frozen_of_heap h i
theorem ArrI.set(h:ArrI w g T n f)(i:Nat)(x:Int):ArrI (w.setCell ⟨g,i,none⟩ (.int .i64 x)) g T n (fun j=>if j=i then x else f j):=by
 unfold ArrI;rw [heap_setCell_own h,arrI_set]
theorem ArrI.congr(h:ArrI w g T n f)(he:∀ i,i<n->f i=f' i):ArrI w g T n f':=by
 unfold ArrI at *;rw [<- arrI_congr he];exact h
theorem ArrI.fr(h:ArrI w g T n f)(hf:Fr w w'):ArrI w' g T n f:=hf.heap h
theorem ArrI.chg{G:Nat->Prop}(h:ArrI w g T n f)(hf:Chg G w w')(hg:¬G g):ArrI w' g T n f:=hf.heap h hg
theorem ArrI.drew(h:ArrI w g T n f):ArrI w.drew g T n f:=h
theorem ArrI.lt(h:ArrI w g T n f):g<w.heap.size:=(Array.getElem?_eq_some_iff.1 h).1
end
section
variable {P:Program} {α:Type} {w:World} {base:Nat} {E:Elt P α} {l:List α}
theorem made_runE(E:Elt P α)(t:TypeId)(ht:P.underlying t=some (.slice E.e))(kl kc:IntKind)(n:Nat)(hn:n<=1000000000)(w:World) :
  (Instr.makeSlice t (.int kl (n:Int)) (.int kc (n:Int))).run P w=.ok (.slice (some ⟨w.heap.size,0,none⟩) n n) (w.alloc (.cells (madeCells E.z.cells (n*E.k)) E.e)):=by
 obtain⟨i,hi,hz,h1,h2⟩:=info_parts E.info
 have hb:(i.bytes:Int)*(n:Int)<=281474976710656:=by
  have h3:=E.small
  rw [<- h2]at h3
  have:i.bytes*n<=64*1000000000:=Nat.mul_le_mul h3 hn
  have h4:((i.bytes*n:Nat):Int)<=281474976710656:=by omega
  rwa [Int.natCast_mul]at h4
 have:=run_make (P:=P) w t E.e i E.z ht hi hz kl kc n n (by omega) (Int.le_refl _) hb (by omega)
 simp only [Int.toNat_natCast,h1]at this
 exact this
theorem made_cellsE(E:Elt P α)(n:Nat):(madeCells E.z.cells (n*E.k)).toList=E.cells (List.replicate n E.zero):=by
 have hk:=E.pos
 have hzl:E.z.cells.toList.length=E.k:=by rw [E.zs,E.len]
 have hzs:E.z.cells.size=E.k:=by simpa using hzl
 apply List.ext_getElem?
 intro j
 by_cases hj:j<n*E.k
 · have hd:=Nat.div_add_mod j E.k
   have hm:=Nat.mod_lt j hk
   have hq:j / E.k<n:=(Nat.div_lt_iff_lt_mul hk).2 hj
   have e:=E.cells_at (List.replicate n E.zero) (j / E.k) (by simpa using hq) (j % E.k) hm
   rw [Nat.mul_comm,hd]at e
   rw [e]
   simp only [List.getElem_replicate,<- E.zs]
   simp [madeCells,hj,hzs]
   rw [getElem?_pos E.z.cells (j % E.k) (by rw [hzs];exact hm),getElem!_pos E.z.cells (j % E.k) (by rw [hzs];exact hm)]
 · rw [List.getElem?_eq_none (by simp [madeCells];omega),List.getElem?_eq_none (by rw [E.length_cells,List.length_replicate];omega)]
theorem made_ownE(E:Elt P α)(n:Nat)(hn:n<=1000000000)(w:World)(hb:base<=w.heap.size) :
  Ow (w.alloc (.cells (madeCells E.z.cells (n*E.k)) E.e)) base E (.slice (some ⟨w.heap.size,0,none⟩) n n) (List.replicate n E.zero):=
 own_lit E w _ _ n (by simp) (by unfold maxLen;simp;omega) hb (made_cellsE E n)
theorem cells_set2(h2:∀ x,∃ a b,E.enc x=[a,b])(l:List α)(i:Nat)(x:α)(u v:Value)(hx:E.enc x=[u,v]):E.cells (l.set i x)=((E.cells l).set (i*2) u).set (i*2+1) v:=by
 induction l generalizing i with
 | nil=>rfl
 | cons y l ih=>
  obtain⟨a,b,hy⟩:=h2 y
  have e:∀ l,E.cells (y::l)=a::b::E.cells l:=fun l=>by simp [Elt.cells,hy]
  cases i with
  | zero=>
   rw [e,List.set_cons_zero]
   simp [Elt.cells,hx]
  | succ i=>
   rw [e,List.set_cons_succ,e,ih,show(i+1)*2=i*2+1+1 by omega]
   rfl
theorem Ow.set2{g n cap:Nat}(h:Ow w base E (.slice (some ⟨g,0,none⟩) n cap) l)(h2:∀ x,∃ a b,E.enc x=[a,b])(i:Nat)(hi:i<l.length)(x:α)(u v:Value)(hx:E.enc x=[u,v]) :
  Ow ((w.setCell ⟨g,i*2,none⟩ u).setCell ⟨g,i*2+1,none⟩ v) base E (.slice (some ⟨g,0,none⟩) n cap) (l.set i x):=by
 obtain⟨hn,hb,cur,hg,h3,h4,h5,h6⟩:=h.parts
 have hk:E.k=2:=by have:=E.len x;rw [hx]at this;simpa using this.symm
 have hc:=cells_set2 h2 l i x u v hx
 refine⟨E.length_cells _,.inr ⟨g,cap,(cur.setIfInBounds (i*2) u).setIfInBounds (i*2+1) v,by rw [hn,List.length_set],hb,heap_setCell_own (heap_setCell_own hg _ u) _ v,by rw [List.length_set];exact h3,h4,by simpa using h5,?_⟩⟩
 rw [hc,<- h6,List.length_set,hk,Array.toList_setIfInBounds,Array.toList_setIfInBounds,List.take_set,List.take_set]
theorem Ow.cell2{g n cap:Nat}(h:Ow w base E (.slice (some ⟨g,0,none⟩) n cap) l)(i:Nat)(hi:i<l.length)(u v:Value)(hx:E.enc l[i]=[u,v]) :
  w.cell? ⟨g,i*2,none⟩=some u/\w.cell? ⟨g,i*2+1,none⟩=some v/\(∀ j,w.frozen? ⟨g,j,none⟩=false):=by
 obtain⟨hn,hb,cur,hg,h3,h4,h5,h6⟩:=h.parts
 have hk:E.k=2:=by have:=E.len l[i];rw [hx]at this;simpa using this.symm
 have hcur:∀ j,j<2->cur[i*2+j]? = (E.enc l[i])[j]?:=fun j hj=>by
  have e:=E.cells_at l i hi j (by omega)
  rw [hk,<- h6,hk,List.getElem?_take,if_pos (by omega)]at e
  simpa using e
 refine⟨?_,?_,fun j=>frozen_of_heap hg j⟩
 · rw [cell_of_heap hg];have:=hcur 0 (by omega);rw [hx]at this;simpa using this
 · rw [cell_of_heap hg];have:=hcur 1 (by omega);rw [hx]at this;simpa using this
end
def arrV(n:Nat)(f:Nat->Value):Array Value:=((List.range n).map f).toArray
theorem arrV_size(n:Nat)(f:Nat->Value):(arrV n f).size=n:=by simp [arrV]
theorem arrV_at(n:Nat)(f:Nat->Value)(i:Nat)(h:i<n):(arrV n f)[i]? = some (f i):=by simp [arrV,h]
theorem arrV_set(n:Nat)(f:Nat->Value)(i:Nat)(x:Value):(arrV n f).setIfInBounds i x=arrV n (fun j=>if j=i then x else f j):=by
 apply Array.ext_getElem?
 intro j
 by_cases hj:j<n
 · rw [arrV_at n _ j hj]
   by_cases e:j=i
   · subst e;rw [Array.getElem?_setIfInBounds_self_of_lt (by rw [arrV_size];exact hj)];simp
   · rw [Array.getElem?_setIfInBounds_ne (Ne.symm e),arrV_at n f j hj];simp [e]
 · rw [Array.getElem?_eq_none (by simp [arrV_size];omega),Array.getElem?_eq_none (by rw [arrV_size];omega)]
def ArrV(w:World)(g:Nat)(T:TypeId)(n:Nat)(f:Nat->Value):Prop:=w.heap[g]? = some (.cells (arrV n f) T (0,0))
section
variable {w w':World} {g:Nat} {T:TypeId} {n:Nat} {f:Nat->Value}
theorem ArrV.cell(h:ArrV w g T n f)(i:Nat)(hi:i<n){x:Value}(hx:f i=x):w.cell? ⟨g,i,none⟩=some x:=by rw [cell_of_heap h,<- hx];exact arrV_at n f i hi
theorem ArrV.frozen(h:ArrV w g T n f)(i:Nat):w.frozen? ⟨g,i,none⟩=false:=frozen_of_heap h i
theorem ArrV.set(h:ArrV w g T n f)(i:Nat)(x:Value):ArrV (w.setCell ⟨g,i,none⟩ x) g T n (fun j=>if j=i then x else f j):=by
 unfold ArrV;rw [heap_setCell_own h,arrV_set]
theorem ArrV.fr(h:ArrV w g T n f)(hf:Fr w w'):ArrV w' g T n f:=hf.heap h
theorem ArrV.chg{G:Nat->Prop}(h:ArrV w g T n f)(hf:Chg G w w')(hg:¬G g):ArrV w' g T n f:=hf.heap h hg
theorem ArrV.drew(h:ArrV w g T n f):ArrV w.drew g T n f:=h
theorem ArrV.lt(h:ArrV w g T n f):g<w.heap.size:=(Array.getElem?_eq_some_iff.1 h).1
theorem Ow.keepG{P:Program}{α:Type}{E:Elt P α}{base:Nat}{v:Value}{l:List α}(h:Ow w base E v l)(hA:ArrV w g T n f)(hT:T≠E.e)(hc:Chg (fun k=>k=g) w w'):Ow w' base E v l:=
 h.chg hc fun k hk e=>h.ne_cells hA hT (by rw [hk,e])
end
section
variable {P:Program} {E:Elt P UInt8} {w w':World} {base m:Nat} {ps:List Hd} {A A':Nat->Nat->UInt8}
structure RowsF (w:World) (base:Nat) (E:Elt P UInt8) (ps:List Hd) (m:Nat) (A:Nat->Nat->UInt8):Prop where
 own:∀ t (h:t<ps.length),Ow w base E ps[t].v (rowOf m A t)
 ne:∀ s t (hs:s<ps.length) (ht:t<ps.length),s≠t->ps[s].v.ownBlock=none\/ps[s].v.ownBlock≠ps[t].v.ownBlock
theorem RowsF.nil:RowsF w base E [] m A:=⟨fun t h=>by simp at h,fun s t h=>by simp at h⟩
theorem RowsF.fr(h:RowsF w base E ps m A)(hf:Fr w w'):RowsF w' base E ps m A:=⟨fun t ht=>(h.own t ht).fr hf,h.ne⟩
theorem RowsF.drew(h:RowsF w base E ps m A):RowsF w.drew base E ps m A:=⟨h.own,h.ne⟩
theorem RowsF.chg{G:Nat->Prop}(h:RowsF w base E ps m A)(hc:Chg G w w')(hg:∀ t (ht:t<ps.length) k,ps[t].v.ownBlock=some k->¬G k):RowsF w' base E ps m A:=⟨fun t ht=>(h.own t ht).chg hc (hg t ht),h.ne⟩
theorem rowOf_congr{f g:Nat->Nat->UInt8}{i:Nat}(h:∀ j,j<m->f i j=g i j):rowOf m f i=rowOf m g i:=List.map_congr_left fun j hj=>h j (List.mem_range.1 hj)
theorem RowsF.congr(h:RowsF w base E ps m A)(he:∀ t,t<ps.length->∀ j,j<m->A t j=A' t j):RowsF w base E ps m A':=⟨fun t ht=>by rw [<- rowOf_congr (he t ht)];exact h.own t ht,h.ne⟩
theorem RowsF.rebase(h:RowsF w base E ps m A){b:Nat}(hb:b<=base):RowsF w b E ps m A:=⟨fun t ht=>(h.own t ht).rebase hb,h.ne⟩
theorem RowsF.beside{α:Type}{F:Elt P α}{b g i:Nat}{v u:Value}{l:List α}(h:RowsF w base E ps m A)(ho:Ow w b F v l)(hv:v.ownBlock=some g)(hT:F.e≠E.e):RowsF (w.setCell ⟨g,i,none⟩ u) base E ps m A:=
 h.chg (setCell_chg w ⟨g,i,none⟩ u) fun t ht k hk e=>by
  rcases own_ne (h.own t ht) ho hT with h1 | h1
  · rw [h1]at hk;cases hk
  · have e:k=g:=e
    exact h1 (by rw [hk,hv,e])
theorem RowsF.set(h:RowsF w base E ps m A)(he:E.enc=fun x=>[u8 x])(i j:Nat)(hi:i<ps.length)(hj:j<m)(x:UInt8){g n cap:Nat}(hv:ps[i].v=.slice (some ⟨g,0,none⟩) n cap) :
  RowsF (w.setCell ⟨g,j,none⟩ (u8 x)) base E ps m (fun r c=>if r=i/\c=j then x else A r c):=by
 refine⟨fun t ht=>?_,h.ne⟩
 by_cases e:t=i
 · subst e
   have ho:=h.own t ht
   rw [hv]at ho ⊢
   have:=ho.set u8 he j (by rw [rowOf_len];exact hj) x (u8 x) rfl
   have e2:(rowOf m A t).set j x=rowOf m (fun r c=>if r=t/\c=j then x else A r c) t:=by
    apply List.ext_getElem
    · simp [rowOf]
    · intro k h1 h2
      by_cases ek:k=j
      · subst ek;simp [rowOf]
      · rw [List.getElem_set_ne (fun e=>ek e.symm)];simp [rowOf,ek]
   rw [<- e2]
   exact this
 · rw [show rowOf m (fun r c=>if r=i/\c=j then x else A r c) t=rowOf m A t from rowOf_congr fun c _=>by simp [e]]
   exact(h.own t ht).chg (setCell_chg w ⟨g,j,none⟩ _) fun k hk e2=>by
    have e2:k=g:=e2
    rcases h.ne t i ht hi e with h1 | h1
    · rw [h1]at hk;cases hk
    · exact h1 (by rw [hk,hv,e2];rfl)
theorem getElem_set2{α:Type}(l:List α)(i p t:Nat)(x y:α)(h:t<((l.set i x).set p y).length):((l.set i x).set p y)[t]=if t=p then y else if t=i then x else l[t]'(by simpa using h):=by
 by_cases h1:t=p
 · subst h1;simp
 · rw [List.getElem_set_ne (fun e=>h1 e.symm),if_neg h1]
   by_cases h2:t=i
   · subst h2;simp
   · rw [List.getElem_set_ne (fun e=>h2 e.symm),if_neg h2]
theorem RowsF.swap(h:RowsF w base E ps m A)(i p:Nat)(hi:i<ps.length)(hp:p<ps.length):RowsF w base E ((ps.set i ps[p]).set p ps[i]) m (swapF A i p):=by
 have key:∀ t (ht:t<((ps.set i ps[p]).set p ps[i]).length),∃ (s:Nat) (hs:s<ps.length),((ps.set i ps[p]).set p ps[i])[t]=ps[s]/\s=(if t=i then p else if t=p then i else t):=by
  intro t ht
  rw [getElem_set2]
  by_cases h1:t=p
  · subst h1
    refine⟨i,hi,by simp,?_⟩
    by_cases h2:t=i
    · simp [h2]
    · simp [h2]
  · by_cases h2:t=i
    · subst h2;exact⟨p,hp,by simp [h1],by simp⟩
    · exact⟨t,by simpa using ht,by simp [h1,h2],by simp [h1,h2]⟩
 refine⟨fun t ht=>?_,fun s t hs ht hne=>?_⟩
 · obtain⟨s,hs,e1,e2⟩:=key t ht
   rw [e1,show rowOf m (swapF A i p) t=rowOf m A s from by unfold rowOf swapF;rw [e2]]
   exact h.own s hs
 · obtain⟨s',hs',e1,e2⟩:=key s hs
   obtain⟨t',ht',e3,e4⟩:=key t ht
   rw [e1,e3]
   refine h.ne s' t' hs' ht' fun e=>hne ?_
   rw [e2,e4]at e
   by_cases a1:s=i <;> by_cases a2:s=p <;> by_cases a3:t=i <;> by_cases a4:t=p <;> simp_all
end
section
variable {P:Program} {α β:Type} {E:Elt P α} {F:Elt P β} {w w':World} {q base b i:Nat} {T T':TypeId} {pv v' x:Value} {ls ls':List α} {m:List β}
end
theorem owns_append{P:Program}{α:Type}{E:Elt P α}{W:World}{b:Nat}{ps qs:List Hd}{ls ms:List (List α)}(h1:Owns W b E ps ls)(h2:Owns W b E qs ms):Owns W b E (ps++qs) (ls++ms):=by
 refine⟨by rw [List.length_append,List.length_append,h1.1,h2.1],fun t a c=>?_⟩
 have e:=h1.1
 by_cases ht:t<ps.length
 · rw [List.getElem_append_left ht,List.getElem_append_left (by omega)]
   exact h1.2 t ht (by omega)
 · rw [List.getElem_append_right (by omega),List.getElem_append_right (by omega)]
   simp only [List.length_append]at a c
   have h3:=h2.2 (t - ps.length) (by omega) (by omega)
   simp only [e]at h3 ⊢
   exact h3
section
variable {P:Program} {α:Type} {E:Elt P α} {w:World} {base:Nat}
end
end Go.Fk
