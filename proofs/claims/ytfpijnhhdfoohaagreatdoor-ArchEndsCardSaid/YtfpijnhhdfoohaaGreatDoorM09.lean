/- Parts of the proof of ArchEnds: Lib5 Lib6 Lib7. -/
import Derived.Test.YtfpijnhhdfoohaaGreatDoorM05
import Derived.Deep.OwnRows
set_option linter.unusedVariables false
set_option linter.unusedSectionVars false
set_option linter.unusedSimpArgs false
set_option maxHeartbeats 8000000
namespace Go.Fk
abbrev eCQb:=@List.take_of_length_le
abbrev dq:=@Nat.mul_one
abbrev jXQb:=@List.length_replicate
abbrev etQb:=@Nat.add_zero
abbrev ljQb:=@List.ext_getElem
abbrev lVQb:=@List.length_set
abbrev vI:=@Array.toList_setIfInBounds
abbrev vy:=@List.set_cons_zero
abbrev zj:=@List.set_append_right
abbrev zk:=@List.replicate_succ
end Go.Fk
namespace Go.Fk
open Go.RowKit
theorem uz{α:Type}(R:List α)(z:α)(n i:Nat)(e:R.length=n)(h:i<n)(x:α)(d:R[i]'(by omega)=x):(R.take i++List.replicate (n - i) z).set i x=R.take (i+1)++List.replicate (n - (i+1)) z:=by
 rw [gyQb (by omega),d,show n - i=(n - (i+1))+1 by omega,zk,zj _ _ (by rw [aGQb];omega)];have:i - (R.take i).length=0:=by rw [aGQb];omega
 rw [this];simp
theorem uA{α:Type}(R:List α)(z:α)(n i:Nat)(d:R.length=n)(e:i<=n):(R.take i++List.replicate (n - i) z).length=n:=by
 rw [aD,aGQb,jXQb];omega
section
variable {P:Program} {α:Type} {w:World} {base:Nat} {E:au P α} {l:List α}
theorem Ow.parts{g n e:Nat}(h:Ow w base E (.slice (some ⟨g,0,none⟩) n e) l):n=l.length/\base<=g/\∃ d,w.heap[g]?=some (.cells d E.e (0,0))/\l.length<=e/\e<=maxLen/\d.size=e*E.k/\d.toList.take (l.length*E.k)=E.cells l:=by
 obtain⟨G,o⟩:=h;rcases o with⟨m,_⟩ | ⟨I,J,d,m,q,z,A,B,D,F⟩;· cases m
 · simp only [go,lQ,Addr.mk.injEq,nU]at m;obtain⟨rfl,rfl,rfl⟩:=m;exact⟨rfl,q,d,z,A,B,D,F⟩
theorem Ow.cellAt{g n z:Nat}(h:Ow w base E (.slice (some ⟨g,0,none⟩) n z) l)(f:α->Value)(d:E.enc=fun x=>[f x])(i:Nat)(m:i<l.length):w.cell? ⟨g,i,none⟩=some (f l[i])/\w.frozen? ⟨g,i,none⟩=false:=by
 obtain⟨_,_,B,o,D,F,G,A⟩:=h.parts;refine⟨?_,al o i⟩;rw [aA o];have q:E.k=1:=by have:=E.len l[i];rw [d]at this;simpa using this.symm
 have e:=E.cells_at l i m 0 (by omega);rw [q,dq,etQb,<- A,q,dq,List.getElem?_take,ag m,d]at e;simpa using e
theorem P3(d:∀ x,(E.enc x).length=1)(l:List α)(i:Nat)(x:α)(u:Value)(h:E.enc x=[u]):E.cells (l.set i x)=(E.cells l).set i u:=by
 induction l generalizing i with
 | nil=>rfl
 | cons y l m=>
  obtain⟨z,o⟩:=List.length_eq_one_iff.1 (d y);have e:∀ l,E.cells (y::l)=z::E.cells l:=fun l=>by simp [au.cells,o]
  cases i with
  | zero=>rw [e,vy,vy];simp [au.cells,h]
  | succ i=>rw [e,List.set_cons_succ,List.set_cons_succ,e,m]
theorem Ow.set{g n d:Nat}(h:Ow w base E (.slice (some ⟨g,0,none⟩) n d) l)(f:α->Value)(e:E.enc=fun x=>[f x])(i:Nat)(K:i<l.length)(x:α)(u:Value)(m:f x=u) :
  Ow (w.setCell ⟨g,i,none⟩ u) base E (.slice (some ⟨g,0,none⟩) n d) (l.set i x):=by
 obtain⟨o,q,z,A,B,D,F,G⟩:=h.parts;have I:E.k=1:=by have:=E.len x;rw [e]at this;simpa using this.symm
 have J:=P3 (E:=E) (fun x=>by rw [e];rfl) l i x u (by rw [e];show [f x]=[u];rw [m]);refine⟨E.length_cells _,.inr ⟨g,d,z.setIfInBounds i u,by rw [o,lVQb],q,a8 A i u,by rw [lVQb];exact B,D,by simpa using F,?_⟩⟩;rw [J,<- G,lVQb,I,dq,vI,List.take_set]
theorem ex{d:World}{B g i:Nat}{u:Value}(h:Below B d w)(e:B<=g)(m:B<=w.heap.size):Below B d (w.setCell ⟨g,i,none⟩ u):=
 ah.below h (ao w ⟨g,i,none⟩ u) m fun k o=>by rw [o];exact e
theorem oE(E:au P α)(m:E.k=1)(o:E.z.cells=#[E.z])(t:TypeId)(q:P.underlying t=some (.slice E.e))(d e:IntKind)(n:Nat)(z:n<=1000000000)(w:World) :
  (Instr.makeSlice t (.int d (n:Int)) (.int e (n:Int))).run P w=.ok (.slice (some ⟨w.heap.size,0,none⟩) n n) (w.alloc (.cells (madeCells #[E.z] n) E.e)):=by
 have h:=E.info;rw [m]at h
 exact run_make_row' t E.e E.z E.bytes q h o d e n (by have := E.small; calc E.bytes * n ≤ 64 * 1000000000 := bJ this z
                                                       _ ≤ 281474976710656 := by omega) (by omega) w
theorem P4(E:au P α)(d:E.z.cells=#[E.z])(n:Nat):E.cells (List.replicate n E.zero)=List.replicate n E.z:=by
 have e:E.enc E.zero=[E.z]:=by rw [<- E.zs,d]
 induction n with
 | zero=>rfl
 | succ n h=>rw [zk,zk];show E.enc E.zero++E.cells (List.replicate n E.zero)=_;rw [e,h];rfl
theorem pL(E:au P α)(d:E.k=1)(m:E.z.cells=#[E.z])(n:Nat)(z:n<=1000000000)(w:World)(o:base<=w.heap.size) :
  Ow (w.alloc (.cells (madeCells #[E.z] n) E.e)) base E (.slice (some ⟨w.heap.size,0,none⟩) n n) (List.replicate n E.zero):=by
 have e:(madeCells #[E.z] n).toList=List.replicate n E.z:=by
  apply ljQb;· simp [madeCells]
  · intro i e h;simp [madeCells,Nat.mod_one]
 have h:=P4 E m n;have q:(madeCells #[E.z] n).size=n:=size_madeCells _ _;refine⟨E.length_cells _,.inr ⟨w.heap.size,n,madeCells #[E.z] n,by rw [jXQb],o,a9 w _ _ rfl,by rw [jXQb];omega,by unfold maxLen;omega,by rw [q,d,dq],?_⟩⟩;rw [e,h,jXQb,d,dq];exact eCQb (by simp)
theorem rG(E:au P α){d:Array Oper}{rest:List Oper}{o:Oper}{a:Act}{Q:Exit->Act->World->Prop}(e:o.guard=none)(x c:Operand)(t:TypeId)(h:o.op=.makeSlice t x c)(m:P.underlying t=some (.slice E.e))
  (kl kc:IntKind) (C:Int) (n:Nat) (hx:a.eval x=.int kl 0) (hc:a.eval c=.int kc C) (hC:C=(n:Int)) (hn:n<=1000000000) (base:Nat) (hb:base<=w.heap.size)
  (hK:∀ w',Ow w' base E (.slice (some ⟨w.heap.size,0,none⟩) 0 n) ([]:List α)->w.grownBy w' none->wpList P d Q rest (a.put o.dst (.slice (some ⟨w.heap.size,0,none⟩) 0 n)) w'):wpList P d Q (o::rest) a w:=by
 obtain⟨i,q,z,A,B⟩:=nk E.info;refine wpList_make_own (P:=P) w e x c t h base E.e i E.z E.k m q z A kl kc C n hx hc hC ?_ (by unfold maxLen;omega) hb fun w' D F=>hK w' D F;rw [B];have:=E.small
 calc E.bytes * n ≤ 64 * 1000000000 := bJ this hn
  _<=281474976710656:=by omega
end
section
variable {P:Program}
theorem dx{α:Type}{E:au P α}{w:World}{base r i:Nat}{v u:Value}{l:List α}(h:Ow w base E v l)(e:r<base):Ow (w.setCell ⟨r,i,none⟩ u) base E v l:=
 h.chg (ao w ⟨r,i,none⟩ u) fun k d=>by
  have:=(h.lt k d).1
  show ¬k=r
  omega
theorem fX{α β:Type}{E:au P α}{F:au P β}{w w':World}{b o:Nat}{x v v':Value}{m:List α}{l z:List β}(h:Ow w b E x m)(A:Ow w o F v l)(B:dg o F z w v v' w')(D:F.e≠E.e):Ow w' b E x m:=
 h.chg B.chg' fun q G e=>by
  rcases A.2 with⟨d,_⟩ | ⟨g,J,K,d,_,I,_⟩
  · rw [d]at e;cases e
  · rw [d]at e
    simp only [Value.ownBlock,lQ]at e
    subst e
    exact h.ne_cells I D G
end
section
variable {P:Program} {α β:Type} {E:au P α} {w w':World} {base:Nat} {ps:List Hd} {ls:List (List α)} {v v':Value}
def To(w:World)(base:Nat)(E:au P α)(ps:List Hd)(ls:List (List α))(v:Value):Prop:=
 ps.length=ls.length/\∀ t (d:t<ps.length) (e:t<ls.length),Ow w base E ps[t].v ls[t]/\(ps[t].v.ownBlock=none\/ps[t].v.ownBlock≠v.ownBlock)
def de(w:World)(base:Nat)(E:au P α)(ps:List Hd)(ls:List (List α)):Prop:=
 ps.length=ls.length/\∀ t (d:t<ps.length) (e:t<ls.length),Ow w base E ps[t].v ls[t]
theorem de.fr(h:de w base E ps ls)(d:Fr w w'):de w' base E ps ls:=⟨h.1,fun t e m=>(h.2 t e m).fr d⟩
theorem de.sees2{d:au P Hd}{e:Value}(h:de w base E ps ls)(m:ai w d e ps):dl w d E e ps ls:=⟨m,h.1,fun t o q=>(h.2 t o q).see⟩
theorem de.rebase(h:de w base E ps ls){b:Nat}(d:b<=base):de w b E ps ls:=⟨h.1,fun t e m=>(h.2 t e m).rebase d⟩
end
end Go.Fk
