/- Parts of the proof of ArchPacks: Lib5 Lib6 Lib7. -/
import Derived.Test.YtdamnfpigajmoaaGreatDoorM03
import Derived.Deep.OwnRows
set_option linter.unusedVariables false
set_option linter.unusedSectionVars false
set_option linter.unusedSimpArgs false
set_option maxHeartbeats 8000000
namespace Go.Fk
abbrev cXQb:=@Nat.add_zero
abbrev lX:=@List.length_replicate
abbrev gY:=@Nat.mul_one
abbrev kLQb:=@List.ext_getElem
abbrev lxQb:=@List.length_set
abbrev eT:=@Ne.symm
abbrev vO:=@List.length_eq_one_iff
abbrev vM:=@List.replicate_succ
end Go.Fk
namespace Go.Fk
open Go.RowKit
theorem rp{α:Type}(R:List α)(z:α)(n i:Nat)(e:R.length=n)(h:i<n)(x:α)(d:R[i]'(by omega)=x):(R.take i++List.replicate (n - i) z).set i x=R.take (i+1)++List.replicate (n - (i+1)) z:=by
 rw [cLQb (by omega),d,show n - i=(n - (i+1))+1 by omega,vM,List.set_append_right _ _ (by rw [aVQb];omega)];have:i - (R.take i).length=0:=by rw [aVQb];omega
 rw [this];simp
theorem rq{α:Type}(R:List α)(z:α)(n i:Nat)(d:R.length=n)(e:i<=n):(R.take i++List.replicate (n - i) z).length=n:=by
 rw [an,aVQb,lX];omega
section
variable {P:Program} {α:Type} {w:World} {base:Nat} {E:al P α} {l:List α}
theorem Ow.parts{g n e:Nat}(h:Ow w base E (.slice (some ⟨g,0,none⟩) n e) l):n=l.length/\base<=g/\∃ d,w.heap[g]? = some (.cells d E.e (0,0))/\l.length<=e/\e<=maxLen/\d.size=e*E.k/\d.toList.take (l.length*E.k)=E.cells l:=by
 obtain⟨G,o⟩:=h;rcases o with⟨m,_⟩ | ⟨I,J,d,m,q,y,z,A,D,F⟩;· cases m
 · simp only [ed,iS,Addr.mk.injEq,iR]at m;obtain⟨rfl,rfl,rfl⟩:=m;exact⟨rfl,q,d,y,z,A,D,F⟩
theorem Ow.cellAt{g n y:Nat}(h:Ow w base E (.slice (some ⟨g,0,none⟩) n y) l)(f:α->Value)(d:E.enc=fun x=>[f x])(i:Nat)(m:i<l.length):w.cell? ⟨g,i,none⟩=some (f l[i])/\w.frozen? ⟨g,i,none⟩=false:=by
 obtain⟨_,_,A,o,D,F,G,z⟩:=h.parts;refine⟨?_,az o i⟩;rw [aL o];have q:E.k=1:=by have:=E.len l[i];rw [d]at this;simpa using this.symm
 have e:=E.cells_at l i m 0 (by omega);rw [q,gY,cXQb,<- z,q,gY,List.getElem?_take,ai m,d]at e;simpa using e
theorem Ik(d:∀ x,(E.enc x).length=1)(l:List α)(i:Nat)(x:α)(u:Value)(h:E.enc x=[u]):E.cells (l.set i x)=(E.cells l).set i u:=by
 induction l generalizing i with
 | nil=>rfl
 | cons y l m=>
  obtain⟨z,o⟩:=vO.1 (d y);have e:∀ l,E.cells (y::l)=z::E.cells l:=fun l=>by simp [al.cells,o]
  cases i with
  | zero=>rw [e,List.set_cons_zero,List.set_cons_zero];simp [al.cells,h]
  | succ i=>rw [e,List.set_cons_succ,List.set_cons_succ,e,m]
theorem Ow.set{g n d:Nat}(h:Ow w base E (.slice (some ⟨g,0,none⟩) n d) l)(f:α->Value)(e:E.enc=fun x=>[f x])(i:Nat)(K:i<l.length)(x:α)(u:Value)(m:f x=u) :
  Ow (w.setCell ⟨g,i,none⟩ u) base E (.slice (some ⟨g,0,none⟩) n d) (l.set i x):=by
 obtain⟨o,q,y,z,A,D,F,G⟩:=h.parts;have I:E.k=1:=by have:=E.len x;rw [e]at this;simpa using this.symm
 have J:=Ik (E:=E) (fun x=>by rw [e];rfl) l i x u (by rw [e];show [f x]=[u];rw [m]);refine⟨E.length_cells _,.inr ⟨g,d,y.setIfInBounds i u,by rw [o,lxQb],q,aB z i u,by rw [lxQb];exact A,D,by simpa using F,?_⟩⟩;rw [J,<- G,lxQb,I,gY,Array.toList_setIfInBounds,List.take_set]
theorem db{d:World}{B g i:Nat}{u:Value}(h:Below B d w)(e:B<=g)(m:B<=w.heap.size):Below B d (w.setCell ⟨g,i,none⟩ u):=
 ak.below h (aw w ⟨g,i,none⟩ u) m fun k o=>by rw [o];exact e
theorem mw(E:al P α)(m:E.k=1)(o:E.z.cells=#[E.z])(t:TypeId)(q:P.underlying t=some (.slice E.e))(d e:IntKind)(n:Nat)(y:n<=1000000000)(w:World) :
  (Instr.makeSlice t (.int d (n:Int)) (.int e (n:Int))).run P w=.ok (.slice (some ⟨w.heap.size,0,none⟩) n n) (w.alloc (.cells (madeCells #[E.z] n) E.e)):=by
 have h:=E.info;rw [m]at h
 exact run_make_row' t E.e E.z E.bytes q h o d e n (by have := E.small; calc E.bytes * n ≤ 64 * 1000000000 := b7 this y
                                                       _ ≤ 281474976710656 := by omega) (by omega) w
theorem Il(E:al P α)(d:E.z.cells=#[E.z])(n:Nat):E.cells (List.replicate n E.zero)=List.replicate n E.z:=by
 have e:E.enc E.zero=[E.z]:=by rw [<- E.zs,d]
 induction n with
 | zero=>rfl
 | succ n h=>rw [vM,vM];show E.enc E.zero++E.cells (List.replicate n E.zero)=_;rw [e,h];rfl
theorem my(E:al P α)(d:E.k=1)(m:E.z.cells=#[E.z])(n:Nat)(y:n<=1000000000)(w:World)(o:base<=w.heap.size) :
  Ow (w.alloc (.cells (madeCells #[E.z] n) E.e)) base E (.slice (some ⟨w.heap.size,0,none⟩) n n) (List.replicate n E.zero):=by
 have e:(madeCells #[E.z] n).toList=List.replicate n E.z:=by
  apply kLQb;· simp [madeCells]
  · intro i e h;simp [madeCells,Nat.mod_one]
 have h:=Il E m n;have q:(madeCells #[E.z] n).size=n:=size_madeCells _ _;refine⟨E.length_cells _,.inr ⟨w.heap.size,n,madeCells #[E.z] n,by rw [lX],o,au w _ _ rfl,by rw [lX];omega,by unfold maxLen;omega,by rw [q,d,gY],?_⟩⟩;rw [e,h,lX,d,gY];exact eo (by simp)
theorem s7(E:al P α){d:Array Oper}{rest:List Oper}{o:Oper}{a:Act}{Q:Exit->Act->World->Prop}(e:o.guard=none)(x c:Operand)(t:TypeId)(h:o.op=.makeSlice t x c)(m:P.underlying t=some (.slice E.e))
  (kl kc:IntKind) (C:Int) (n:Nat) (hx:a.eval x=.int kl 0) (hc:a.eval c=.int kc C) (hC:C=(n:Int)) (hn:n<=1000000000) (base:Nat) (hb:base<=w.heap.size)
  (hK:∀ w',Ow w' base E (.slice (some ⟨w.heap.size,0,none⟩) 0 n) ([]:List α)->w.grownBy w' none->wpList P d Q rest (a.put o.dst (.slice (some ⟨w.heap.size,0,none⟩) 0 n)) w'):wpList P d Q (o::rest) a w:=by
 obtain⟨i,q,y,z,A⟩:=lR E.info;refine wpList_make_own (P:=P) w e x c t h base E.e i E.z E.k m q y z kl kc C n hx hc hC ?_ (by unfold maxLen;omega) hb fun w' D F=>hK w' D F;rw [A];have:=E.small
 calc E.bytes * n ≤ 64 * 1000000000 := b7 this hn
  _<=281474976710656:=by omega
end
section
variable {P:Program}
theorem et{α:Type}{E:al P α}{w:World}{base r i:Nat}{v u:Value}{l:List α}(h:Ow w base E v l)(e:r<base):Ow (w.setCell ⟨r,i,none⟩ u) base E v l:=
 h.chg (aw w ⟨r,i,none⟩ u) fun k d=>by
  have:=(h.lt k d).1
  show ¬k=r
  omega
theorem b9{α β:Type}{E:al P α}{F:al P β}{w w':World}{b o:Nat}{x v v':Value}{m:List α}{l y:List β}(h:Ow w b E x m)(z:Ow w o F v l)(A:cQ o F y w v v' w')(D:F.e≠E.e):Ow w' b E x m:=
 h.chg A.chg' fun q G e=>by
  rcases z.2 with⟨d,_⟩ | ⟨g,J,K,d,_,I,_⟩
  · rw [d]at e;cases e
  · rw [d]at e
    simp only [Value.ownBlock,iS]at e
    subst e
    exact h.ne_cells I D G
theorem tI{α β:Type}{E:al P α}{F:al P β}{w w':World}{b d:Nat}{x v v':Value}{m:List α}{l e:List β}(h:Ow w b E x m)(o:Ow w d F v l)(q:cQ d F e w v v' w')(y:E.e≠F.e):Ow w' b E x m:=b9 h o q (eT y)
end
section
variable {P:Program} {α β:Type} {E:al P α} {w w':World} {base:Nat} {ps:List Hd} {ls:List (List α)} {v v':Value}
def eb(w:World)(base:Nat)(E:al P α)(ps:List Hd)(ls:List (List α))(v:Value):Prop:=
 ps.length=ls.length/\∀ t (d:t<ps.length) (e:t<ls.length),Ow w base E ps[t].v ls[t]/\(ps[t].v.ownBlock=none\/ps[t].v.ownBlock≠v.ownBlock)
def ck(w:World)(base:Nat)(E:al P α)(ps:List Hd)(ls:List (List α)):Prop:=
 ps.length=ls.length/\∀ t (d:t<ps.length) (e:t<ls.length),Ow w base E ps[t].v ls[t]
theorem ck.fr(h:ck w base E ps ls)(d:Fr w w'):ck w' base E ps ls:=⟨h.1,fun t e m=>(h.2 t e m).fr d⟩
theorem ck.sees2{d:al P Hd}{e:Value}(h:ck w base E ps ls)(m:af w d e ps):bY w d E e ps ls:=⟨m,h.1,fun t o q=>(h.2 t o q).see⟩
theorem ck.rebase(h:ck w base E ps ls){b:Nat}(d:b<=base):ck w b E ps ls:=⟨h.1,fun t e m=>(h.2 t e m).rebase d⟩
theorem ck.rows(h:ck w base E ps ls)(o:∀ b,v.ownBlock=some b->b<base):eb w base E ps ls v:=
 ⟨h.1, fun t d m => ⟨h.2 t d m, by
  cases q : ps[t].v.ownBlock with
  | none => exact .inl rfl
  | some g =>
   refine .inr fun e => ?_
   have y := ((h.2 t d m).lt g q).1
   have z := o g e.symm
   omega⟩⟩
theorem eb.nil:eb w base E [] [] v:=⟨rfl,fun t h=>by simp at h⟩
theorem eb.fr(h:eb w base E ps ls v)(m:Fr w w'):eb w' base E ps ls v:=⟨h.1,fun t d e=>⟨(h.2 t d e).1.fr m,(h.2 t d e).2⟩⟩
theorem eb.app{F:al P β}{b:Nat}{l:List β}(h:eb w base E ps ls v)(m:cQ b F l w v v' w'):eb w' base E ps ls v':=
 ⟨h.1,fun t d e=>⟨m.other (h.2 t d e).1 (h.2 t d e).2,m.apart (h.2 t d e).1 (h.2 t d e).2⟩⟩
theorem eb.beside{F:al P β}{b:Nat}{l m:List β}{x o:Value}(h:eb w base E ps ls v)(q:Ow w b F x l)(y:cQ b F m w x o w')(z:F.e≠E.e):eb w' base E ps ls v:=
 ⟨h.1,fun t d e=>⟨b9 (h.2 t d e).1 q y z,(h.2 t d e).2⟩⟩
theorem eb.snoc{x:Hd}{l:List α}(h:eb w base E ps ls v)(m:Ow w base E x.v l)(o:x.v.ownBlock=none\/x.v.ownBlock≠v.ownBlock):eb w base E (ps++[x]) (ls++[l]) v:=by
 refine⟨by simp [h.1],fun t q A=>?_⟩;by_cases d:t<ps.length;· have e:t<ls.length:=(by rw [<- h.1];exact d);simp only [eWQb d,eWQb e];exact h.2 t d e
 · have y:t=ps.length:=(by simp at q;omega);subst y;simp only [gu (ag _),e8];have z:ps.length=ls.length:=h.1;simp only [z,gu (ag _),e8];exact⟨m,o⟩
theorem eb.sees2{d:al P Hd}{e:Value}(h:eb w base E ps ls v)(m:af w d e ps):bY w d E e ps ls:=⟨m,h.1,fun t o q=>(h.2 t o q).1.see⟩
theorem eb.rebase(h:eb w base E ps ls v){b:Nat}(m:b<=base):eb w b E ps ls v:=⟨h.1,fun t d e=>⟨(h.2 t d e).1.rebase m,(h.2 t d e).2⟩⟩
end
end Go.Fk
