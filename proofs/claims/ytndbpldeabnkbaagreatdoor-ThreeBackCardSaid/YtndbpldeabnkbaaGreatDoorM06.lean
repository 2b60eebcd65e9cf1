/- Lemmas for ThreeTurned. -/
import Derived.Test.YtndbpldeabnkbaaGreatDoorM05
import Derived.Deep.OwnRows
set_option linter.all false
set_option maxHeartbeats 8000000
namespace Go.Fk
abbrev dqQb:=@Nat.add_zero
abbrev gTQb:=@List.ext_getElem
abbrev jXQb:=@List.length_replicate
abbrev eoQb:=@Nat.mul_one
abbrev mWQb:=@List.length_set
abbrev iGQb:=@Ne.symm
abbrev zt:=@Array.toList_setIfInBounds
abbrev wzQb:=@List.replicate_succ
abbrev mrQb:=@and_true
abbrev Cv:=@List.set_append_right
open Go.RowKit
def vE{α:Type}(R:List α)(z:α)(n i:Nat)(e:R.length=n)(h:i<n)(x:α)(d:R[i]'ω₁=x):(R.take i++List.replicate (n-i) z).set i x=R.take (i+1)++List.replicate (n-(i+1)) z:=by
 rw[f8Qb ω₁,d,show n-i=(n-(i+1))+1 by omega,wzQb,Cv _ _ (by rw[aAQb];omega)];have:i-(R.take i).length=0:=by rw[aAQb];omega
 rw[this];simp
def vF{α:Type}(R:List α)(z:α)(n i:Nat)(d:R.length=n)(e:i<=n):(R.take i++List.replicate (n-i) z).length=n:=by
 rw[amQb,aAQb,jXQb];omega
section
variable {P:Program} {α:Type} {w:World} {base:Nat} {E:aw P α} {l:List α}
theorem Ow.parts{g n e:Nat}(h:Ow w base E (.slice (some ⟨g,0,none⟩) n e) l):n=l.length/\base<=g/\∃d,w.heap[g]?=some (.cells d E.e (0,0))/\l.length<=e/\e<=maxLen/\d.size=e*E.k/\d.toList.take (l.length*E.k)=E.cells l:=by
 obtain⟨J,o⟩:=h;rcases o with⟨m,_⟩ | ⟨K,L,d,m,z,A,D,F,G,I⟩;·cases m
 ·simp only[ir,mUQb,Addr.mk.injEq,mrQb]at m;obtain⟨rfl,rfl,rfl⟩:=m;exact⟨rfl,z,d,A,D,F,G,I⟩
theorem Ow.cellAt{g n A:Nat}(h:Ow w base E (.slice (some ⟨g,0,none⟩) n A) l)(f:α->Value)(d:E.enc=λx=>[f x])(i:Nat)(m:i<l.length):w.cell? ⟨g,i,none⟩=some (f l[i])/\w.frozen? ⟨g,i,none⟩=false:=by
 obtain⟨_,_,F,o,G,I,J,D⟩:=h.parts;refine⟨?_,a8 o i⟩;rw[aK o];have z:E.k=1:=by have:=E.len l[i];rw[d]at this;simpa using this.symm
 have e:=E.cells_at l i m 0 ω₁;rw[z,eoQb,dqQb,<- D,z,eoQb,List.getElem?_take,afQb m,d]at e;simpa using e
theorem UG(d:∀x,(E.enc x).length=1)(l:List α)(i:Nat)(x:α)(u:Value)(h:E.enc x=[u]):E.cells (l.set i x)=(E.cells l).set i u:=by
 induction l generalizing i with
 | nil=>rfl
 | cons y l m=>
  obtain⟨z,o⟩:=List.length_eq_one_iff.1 (d y);have e:∀l,E.cells (y::l)=z::E.cells l:=λl=>by simp[aw.cells,o]
  cases i with
  | zero=>rw[e,List.set_cons_zero,List.set_cons_zero];simp[aw.cells,h]
  | succ i=>rw[e,List.set_cons_succ,List.set_cons_succ,e,m]
theorem Ow.set{g n d:Nat}(h:Ow w base E (.slice (some ⟨g,0,none⟩) n d) l)(f:α->Value)(e:E.enc=λx=>[f x])(i:Nat)(M:i<l.length)(x:α)(u:Value)(m:f x=u):Ow (w.setCell ⟨g,i,none⟩ u) base E (.slice (some ⟨g,0,none⟩) n d) (l.set i x):=by
 obtain⟨o,z,A,D,F,G,I,J⟩:=h.parts;have K:E.k=1:=by have:=E.len x;rw[e]at this;simpa using this.symm
 have L:=UG (E:=E) (λx=>by rw[e];rfl) l i x u (by rw[e];show [f x]=[u];rw[m]);refine⟨E.length_cells _,.inr ⟨g,d,A.setIfInBounds i u,by rw[o,mWQb],z,aJ D i u,by rw[mWQb];exact F,G,by simpa using I,?_⟩⟩;rw[L,<- J,mWQb,K,eoQb,zt,List.take_set]
theorem ep{d:World}{B g i:Nat}{u:Value}(h:Below B d w)(e:B<=g)(m:B<=w.heap.size):Below B d (w.setCell ⟨g,i,none⟩ u):=
 ai.below h (a9 w ⟨g,i,none⟩ u) m λk o=>by rw[o];exact e
theorem oQ(E:aw P α)(m:E.k=1)(o:E.z.cells=#[E.z])(t:TypeId)(z:P.underlying t=some (.slice E.e))(d e:IntKind)(n:Nat)(A:n<=1000000000)(w:World):(Instr.makeSlice t (.int d (n:Int)) (.int e (n:Int))).run P w=.ok (.slice (some ⟨w.heap.size,0,none⟩) n n) (w.alloc (.cells (madeCells #[E.z] n) E.e)):=by
 have h:=E.info;rw[m]at h
 exact run_make_row' t E.e E.z E.bytes z h o d e n (by have := E.small; calc E.bytes * n ≤ 64 * 1000000000 := bHQb this A
                                                       _ ≤ 281474976710656 := by omega) ω₁ w
theorem UH(E:aw P α)(d:E.z.cells=#[E.z])(n:Nat):E.cells (List.replicate n E.zero)=List.replicate n E.z:=by
 have e:E.enc E.zero=[E.z]:=by rw[<- E.zs,d]
 induction n with
 | zero=>rfl
 | succ n h=>rw[wzQb,wzQb];show E.enc E.zero++E.cells (List.replicate n E.zero)=_;rw[e,h];rfl
theorem pT(E:aw P α)(d:E.k=1)(m:E.z.cells=#[E.z])(n:Nat)(A:n<=1000000000)(w:World)(o:base<=w.heap.size):Ow (w.alloc (.cells (madeCells #[E.z] n) E.e)) base E (.slice (some ⟨w.heap.size,0,none⟩) n n) (List.replicate n E.zero):=by
 have e:(madeCells #[E.z] n).toList=List.replicate n E.z:=by
  apply gTQb;·simp[madeCells]
  ·intro i e h;simp[madeCells,Nat.mod_one]
 have h:=UH E m n;have z:(madeCells #[E.z] n).size=n:=size_madeCells _ _;refine⟨E.length_cells _,.inr ⟨w.heap.size,n,madeCells #[E.z] n,by rw[jXQb],o,aB w _ _ rfl,by rw[jXQb];omega,by unfold maxLen;omega,by rw[z,d,eoQb],?_⟩⟩;rw[e,h,jXQb,d,eoQb];exact cwQb σ₁
theorem sS(E:aw P α){d:Array Oper}{rest:List Oper}{o:Oper}{a:Act}{Q:Exit->Act->World->Prop}(e:o.guard=none)(x c:Operand)(t:TypeId)(h:o.op=.makeSlice t x c)(m:P.underlying t=some (.slice E.e))
  (kl kc:IntKind) (C:Int) (n:Nat) (hx:a.eval x=.int kl 0) (hc:a.eval c=.int kc C) (hC:C=(n:Int)) (hn:n<=1000000000) (base:Nat) (hb:base<=w.heap.size)
  (hK:∀w',Ow w' base E (.slice (some ⟨w.heap.size,0,none⟩) 0 n) ([]:List α)->w.grownBy w' none->wpList P d Q rest (a.put o.dst (.slice (some ⟨w.heap.size,0,none⟩) 0 n)) w'):wpList P d Q (o::rest) a w:=by
 obtain⟨i,z,A,D,F⟩:=pf E.info;refine wpList_make_own (P:=P) w e x c t h base E.e i E.z E.k m z A D kl kc C n hx hc hC ?_ (by unfold maxLen;omega) hb λw' G I=>hK w' G I;rw[F];have:=E.small
 calc E.bytes * n ≤ 64 * 1000000000 := bHQb this hn
  _<=281474976710656:=ω₁
end
section
variable {P:Program}
theorem eu{α:Type}{E:aw P α}{w:World}{base r i:Nat}{v u:Value}{l:List α}(h:Ow w base E v l)(e:r<base):Ow (w.setCell ⟨r,i,none⟩ u) base E v l:=
 h.chg (a9 w ⟨r,i,none⟩ u) λk d=>by
  have:=(h.lt k d).1
  show ¬k=r
  omega
theorem dx{α β:Type}{E:aw P α}{F:aw P β}{w w':World}{b o:Nat}{x v v':Value}{m:List α}{l z:List β}(h:Ow w b E x m)(A:Ow w o F v l)(D:dw o F z w v v' w')(G:F.e≠E.e):Ow w' b E x m:=
 h.chg D.chg' λq I e=>by
  rcases A.2 with⟨d,_⟩ | ⟨g,K,L,d,_,J,_⟩
  ·rw[d]at e;cases e
  ·rw[d]at e
   simp only[Value.ownBlock,mUQb]at e
   subst e
   exact h.ne_cells J G I
theorem Pp{α β:Type}{E:aw P α}{F:aw P β}{w w':World}{b d:Nat}{x v v':Value}{m:List α}{l e:List β}(h:Ow w b E x m)(o:Ow w d F v l)(z:dw d F e w v v' w')(A:E.e≠F.e):Ow w' b E x m:=dx h o z (iGQb A)
end
section
variable {P:Program} {α β:Type} {E:aw P α} {w w':World} {base:Nat} {ps:List Hd} {ls:List (List α)} {v v':Value}
def nG(w:World)(base:Nat)(E:aw P α)(ps:List Hd)(ls:List (List α))(v:Value):Prop:=
 ps.length=ls.length/\∀t (d:t<ps.length) (e:t<ls.length),Ow w base E ps[t].v ls[t]/\(ps[t].v.ownBlock=none\/ps[t].v.ownBlock≠v.ownBlock)
def cr(w:World)(base:Nat)(E:aw P α)(ps:List Hd)(ls:List (List α)):Prop:=
 ps.length=ls.length/\∀t (d:t<ps.length) (e:t<ls.length),Ow w base E ps[t].v ls[t]
theorem cr.fr(h:cr w base E ps ls)(d:Fr w w'):cr w' base E ps ls:=⟨h.1,λt e m=>(h.2 t e m).fr d⟩
theorem cr.sees2{d:aw P Hd}{e:Value}(h:cr w base E ps ls)(m:ah w d e ps):cO w d E e ps ls:=⟨m,h.1,λt o z=>(h.2 t o z).see⟩
theorem cr.rebase(h:cr w base E ps ls){b:Nat}(d:b<=base):cr w b E ps ls:=⟨h.1,λt e m=>(h.2 t e m).rebase d⟩
theorem cr.rows(h:cr w base E ps ls)(o:∀b,v.ownBlock=some b->b<base):nG w base E ps ls v:=
 ⟨h.1, fun t d m => ⟨h.2 t d m, by
   cases z : ps[t].v.ownBlock with
   | none => exact .inl rfl
   | some g =>
     refine .inr λe => ?_
     have A := ((h.2 t d m).lt g z).1
     have D := o g e.symm
     omega⟩⟩
theorem nG.fr(h:nG w base E ps ls v)(m:Fr w w'):nG w' base E ps ls v:=⟨h.1,λt d e=>⟨(h.2 t d e).1.fr m,(h.2 t d e).2⟩⟩
theorem nG.app{F:aw P β}{b:Nat}{l:List β}(h:nG w base E ps ls v)(m:dw b F l w v v' w'):nG w' base E ps ls v':=
 ⟨h.1,λt d e=>⟨m.other (h.2 t d e).1 (h.2 t d e).2,m.apart (h.2 t d e).1 (h.2 t d e).2⟩⟩
theorem nG.beside{F:aw P β}{b:Nat}{l m:List β}{x o:Value}(h:nG w base E ps ls v)(z:Ow w b F x l)(A:dw b F m w x o w')(D:F.e≠E.e):nG w' base E ps ls v:=
 ⟨h.1,λt d e=>⟨dx (h.2 t d e).1 z A D,(h.2 t d e).2⟩⟩
end
