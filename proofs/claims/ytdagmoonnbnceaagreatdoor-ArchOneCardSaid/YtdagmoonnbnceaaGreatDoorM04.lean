/- Parts of the proof of ArchOne: Lib5 Lib6 Lib7. -/
import Derived.Test.YtdagmoonnbnceaaGreatDoorM03
import Derived.Deep.OwnRows
set_option linter.unusedVariables false
set_option linter.unusedSectionVars false
set_option linter.unusedSimpArgs false
set_option maxHeartbeats 8000000
namespace Go.Fk
open Go.RowKit
theorem fill_set{α:Type}(R:List α)(z:α)(n i:Nat)(hR:R.length=n)(hi:i<n)(x:α)(hx:R[i]'(by omega)=x):(R.take i++List.replicate (n - i) z).set i x=R.take (i+1)++List.replicate (n - (i+1)) z:=by
 rw [List.take_succ_eq_append_getElem (by omega),hx,show n - i=(n - (i+1))+1 by omega,List.replicate_succ,List.set_append_right _ _ (by rw [List.length_take];omega)]
 have:i - (R.take i).length=0:=by rw [List.length_take];omega
 rw [this]
 simp
theorem fill_len{α:Type}(R:List α)(z:α)(n i:Nat)(hR:R.length=n)(hi:i<=n):(R.take i++List.replicate (n - i) z).length=n:=by
 rw [List.length_append,List.length_take,List.length_replicate];omega
section
variable {P:Program} {α:Type} {w:World} {base:Nat} {E:Elt P α} {l:List α}
theorem Ow.parts{g n cap:Nat}(h:Ow w base E (.slice (some ⟨g,0,none⟩) n cap) l):n=l.length/\base<=g/\∃ cur,w.heap[g]? = some (.cells cur E.e (0,0))/\l.length<=cap/\cap<=maxLen/\cur.size=cap*E.k/\cur.toList.take (l.length*E.k)=E.cells l:=by
 obtain⟨h1,h2⟩:=h
 rcases h2 with⟨hv,_⟩ | ⟨g',cap',cur,hv,hb,hg,h3,h4,h5,h6⟩
 · cases hv
 · simp only [Value.slice.injEq,Option.some.injEq,Addr.mk.injEq,and_true]at hv
   obtain⟨rfl,rfl,rfl⟩:=hv
   exact⟨rfl,hb,cur,hg,h3,h4,h5,h6⟩
theorem Ow.cellAt{g n cap:Nat}(h:Ow w base E (.slice (some ⟨g,0,none⟩) n cap) l)(f:α->Value)(he:E.enc=fun x=>[f x])(i:Nat)(hi:i<l.length):w.cell? ⟨g,i,none⟩=some (f l[i])/\w.frozen? ⟨g,i,none⟩=false:=by
 obtain⟨_,_,cur,hg,h3,h4,h5,h6⟩:=h.parts
 refine⟨?_,frozen_of_heap hg i⟩
 rw [cell_of_heap hg]
 have hk:E.k=1:=by have:=E.len l[i];rw [he]at this;simpa using this.symm
 have e:=E.cells_at l i hi 0 (by omega)
 rw [hk,Nat.mul_one,Nat.add_zero,<- h6,hk,Nat.mul_one,List.getElem?_take,if_pos hi,he]at e
 simpa using e
theorem cells_set(he1:∀ x,(E.enc x).length=1)(l:List α)(i:Nat)(x:α)(u:Value)(hx:E.enc x=[u]):E.cells (l.set i x)=(E.cells l).set i u:=by
 induction l generalizing i with
 | nil=>rfl
 | cons y l ih=>
  obtain⟨z,hz⟩:=List.length_eq_one_iff.1 (he1 y)
  have e:∀ l,E.cells (y::l)=z::E.cells l:=fun l=>by simp [Elt.cells,hz]
  cases i with
  | zero=>
   rw [e,List.set_cons_zero,List.set_cons_zero]
   simp [Elt.cells,hx]
  | succ i=>
   rw [e,List.set_cons_succ,List.set_cons_succ,e,ih]
theorem Ow.set{g n cap:Nat}(h:Ow w base E (.slice (some ⟨g,0,none⟩) n cap) l)(f:α->Value)(he:E.enc=fun x=>[f x])(i:Nat)(hi:i<l.length)(x:α)(u:Value)(hx:f x=u) :
  Ow (w.setCell ⟨g,i,none⟩ u) base E (.slice (some ⟨g,0,none⟩) n cap) (l.set i x):=by
 obtain⟨hn,hb,cur,hg,h3,h4,h5,h6⟩:=h.parts
 have hk:E.k=1:=by have:=E.len x;rw [he]at this;simpa using this.symm
 have hc:=cells_set (E:=E) (fun x=>by rw [he];rfl) l i x u (by rw [he];show [f x]=[u];rw [hx])
 refine⟨E.length_cells _,.inr ⟨g,cap,cur.setIfInBounds i u,by rw [hn,List.length_set],hb,heap_setCell_own hg i u,by rw [List.length_set];exact h3,h4,by simpa using h5,?_⟩⟩
 rw [hc,<- h6,List.length_set,hk,Nat.mul_one,Array.toList_setIfInBounds,List.take_set]
theorem set_below{w0:World}{B g i:Nat}{u:Value}(h:Below B w0 w)(hB:B<=g)(hs:B<=w.heap.size):Below B w0 (w.setCell ⟨g,i,none⟩ u):=
 Chg.below h (setCell_chg w ⟨g,i,none⟩ u) hs fun k hk=>by rw [hk];exact hB
theorem made_run(E:Elt P α)(hk:E.k=1)(hz:E.z.cells=#[E.z])(t:TypeId)(ht:P.underlying t=some (.slice E.e))(kl kc:IntKind)(n:Nat)(hn:n<=1000000000)(w:World) :
  (Instr.makeSlice t (.int kl (n:Int)) (.int kc (n:Int))).run P w=.ok (.slice (some ⟨w.heap.size,0,none⟩) n n) (w.alloc (.cells (madeCells #[E.z] n) E.e)):=by
 have hi:=E.info
 rw [hk]at hi
 exact run_make_row' t E.e E.z E.bytes ht hi hz kl kc n (by have := E.small; calc E.bytes * n ≤ 64 * 1000000000 := Nat.mul_le_mul this hn
                                                            _ ≤ 281474976710656 := by omega) (by omega) w
theorem cells_rep(E:Elt P α)(hz:E.z.cells=#[E.z])(n:Nat):E.cells (List.replicate n E.zero)=List.replicate n E.z:=by
 have h3:E.enc E.zero=[E.z]:=by rw [<- E.zs,hz]
 induction n with
 | zero=>rfl
 | succ n ih=>
  rw [List.replicate_succ,List.replicate_succ]
  show E.enc E.zero++E.cells (List.replicate n E.zero)=_
  rw [h3,ih];rfl
theorem made_own(E:Elt P α)(hk:E.k=1)(hz:E.z.cells=#[E.z])(n:Nat)(hn:n<=1000000000)(w:World)(hb:base<=w.heap.size) :
  Ow (w.alloc (.cells (madeCells #[E.z] n) E.e)) base E (.slice (some ⟨w.heap.size,0,none⟩) n n) (List.replicate n E.zero):=by
 have h1:(madeCells #[E.z] n).toList=List.replicate n E.z:=by
  apply List.ext_getElem
  · simp [madeCells]
  · intro i h1 h2
    simp [madeCells,Nat.mod_one]
 have h2:=cells_rep E hz n
 have hs:(madeCells #[E.z] n).size=n:=size_madeCells _ _
 refine⟨E.length_cells _,.inr ⟨w.heap.size,n,madeCells #[E.z] n,by rw [List.length_replicate],hb,heap_new w _ _ rfl,by rw [List.length_replicate];omega,by unfold maxLen;omega,by rw [hs,hk,Nat.mul_one],?_⟩⟩
 rw [h1,h2,List.length_replicate,hk,Nat.mul_one]
 exact List.take_of_length_le (by simp)
theorem wpList_make0(E:Elt P α){ops:Array Oper}{rest:List Oper}{o:Oper}{a:Act}{Q:Exit->Act->World->Prop}(hg:o.guard=none)(x c:Operand)(t:TypeId)(hop:o.op=.makeSlice t x c)(ht:P.underlying t=some (.slice E.e))
  (kl kc:IntKind) (C:Int) (n:Nat) (hx:a.eval x=.int kl 0) (hc:a.eval c=.int kc C) (hC:C=(n:Int)) (hn:n<=1000000000) (base:Nat) (hb:base<=w.heap.size)
  (hK:∀ w',Ow w' base E (.slice (some ⟨w.heap.size,0,none⟩) 0 n) ([]:List α)->w.grownBy w' none->wpList P ops Q rest (a.put o.dst (.slice (some ⟨w.heap.size,0,none⟩) 0 n)) w'):wpList P ops Q (o::rest) a w:=by
 obtain⟨i,hi,hz,h1,h2⟩:=info_parts E.info
 refine wpList_make_own (P:=P) w hg x c t hop base E.e i E.z E.k ht hi hz h1 kl kc C n hx hc hC ?_ (by unfold maxLen;omega) hb fun w' h3 h4=>hK w' h3 h4
 rw [h2]
 have:=E.small
 calc E.bytes * n ≤ 64 * 1000000000 := Nat.mul_le_mul this hn
  _<=281474976710656:=by omega
end
section
variable {P:Program}
theorem own_set_other{α:Type}{E:Elt P α}{w:World}{base r i:Nat}{v u:Value}{l:List α}(h:Ow w base E v l)(hr:r<base):Ow (w.setCell ⟨r,i,none⟩ u) base E v l:=
 h.chg (setCell_chg w ⟨r,i,none⟩ u) fun k hk=>by
  have:=(h.lt k hk).1
  show ¬k=r
  omega
theorem own_app{α β:Type}{E:Elt P α}{F:Elt P β}{w w':World}{b b':Nat}{x v v':Value}{m:List α}{l l':List β}(h:Ow w b E x m)(ho:Ow w b' F v l)(ha:App b' F l' w v v' w')(hT:F.e≠E.e):Ow w' b E x m:=
 h.chg ha.chg' fun q hq e=>by
  rcases ho.2 with⟨hv,_⟩ | ⟨g,cap,cur,hv,_,hg,_⟩
  · rw [hv]at e;cases e
  · rw [hv]at e
    simp only [Value.ownBlock,Option.some.injEq]at e
    subst e
    exact h.ne_cells hg hT hq
theorem own_app2{α β:Type}{E:Elt P α}{F:Elt P β}{w w':World}{b b':Nat}{x v v':Value}{m:List α}{l l':List β}(h:Ow w b E x m)(ho:Ow w b' F v l)(ha:App b' F l' w v v' w')(hT:E.e≠F.e):Ow w' b E x m:=own_app h ho ha (Ne.symm hT)
end
section
variable {P:Program} {α β:Type} {E:Elt P α} {w w':World} {base:Nat} {ps:List Hd} {ls:List (List α)} {v v':Value}
def RowsA(w:World)(base:Nat)(E:Elt P α)(ps:List Hd)(ls:List (List α))(v:Value):Prop:=
 ps.length=ls.length/\∀ t (h1:t<ps.length) (h2:t<ls.length),Ow w base E ps[t].v ls[t]/\(ps[t].v.ownBlock=none\/ps[t].v.ownBlock≠v.ownBlock)
def Owns(w:World)(base:Nat)(E:Elt P α)(ps:List Hd)(ls:List (List α)):Prop:=
 ps.length=ls.length/\∀ t (h1:t<ps.length) (h2:t<ls.length),Ow w base E ps[t].v ls[t]
theorem Owns.fr(h:Owns w base E ps ls)(hf:Fr w w'):Owns w' base E ps ls:=⟨h.1,fun t h1 h2=>(h.2 t h1 h2).fr hf⟩
theorem Owns.sees2{EH:Elt P Hd}{dv:Value}(h:Owns w base E ps ls)(hd:See w EH dv ps):Sees2 w EH E dv ps ls:=⟨hd,h.1,fun t h1 h2=>(h.2 t h1 h2).see⟩
theorem Owns.rebase(h:Owns w base E ps ls){b:Nat}(hb:b<=base):Owns w b E ps ls:=⟨h.1,fun t h1 h2=>(h.2 t h1 h2).rebase hb⟩
theorem Owns.rows(h:Owns w base E ps ls)(hv:∀ b,v.ownBlock=some b->b<base):RowsA w base E ps ls v:=
 ⟨h.1, fun t h1 h2 => ⟨h.2 t h1 h2, by
  cases hx : ps[t].v.ownBlock with
  | none => exact .inl rfl
  | some g =>
   refine .inr fun e => ?_
   have i2 := ((h.2 t h1 h2).lt g hx).1
   have i1 := hv g e.symm
   omega⟩⟩
theorem RowsA.nil:RowsA w base E [] [] v:=⟨rfl,fun t h=>by simp at h⟩
theorem RowsA.fr(h:RowsA w base E ps ls v)(hf:Fr w w'):RowsA w' base E ps ls v:=⟨h.1,fun t h1 h2=>⟨(h.2 t h1 h2).1.fr hf,(h.2 t h1 h2).2⟩⟩
theorem RowsA.app{F:Elt P β}{b:Nat}{l:List β}(h:RowsA w base E ps ls v)(ha:App b F l w v v' w'):RowsA w' base E ps ls v':=
 ⟨h.1,fun t h1 h2=>⟨ha.other (h.2 t h1 h2).1 (h.2 t h1 h2).2,ha.apart (h.2 t h1 h2).1 (h.2 t h1 h2).2⟩⟩
theorem RowsA.beside{F:Elt P β}{b:Nat}{l l':List β}{x x':Value}(h:RowsA w base E ps ls v)(ho:Ow w b F x l)(ha:App b F l' w x x' w')(hT:F.e≠E.e):RowsA w' base E ps ls v:=
 ⟨h.1,fun t h1 h2=>⟨own_app (h.2 t h1 h2).1 ho ha hT,(h.2 t h1 h2).2⟩⟩
theorem RowsA.sees2{EH:Elt P Hd}{dv:Value}(h:RowsA w base E ps ls v)(hd:See w EH dv ps):Sees2 w EH E dv ps ls:=⟨hd,h.1,fun t h1 h2=>(h.2 t h1 h2).1.see⟩
theorem RowsA.rebase(h:RowsA w base E ps ls v){b:Nat}(hb:b<=base):RowsA w b E ps ls v:=⟨h.1,fun t h1 h2=>⟨(h.2 t h1 h2).1.rebase hb,(h.2 t h1 h2).2⟩⟩
end
end Go.Fk
