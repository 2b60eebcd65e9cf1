/- Lemmas. -/
import Derived.Test.YtmcaneofjlhhmaaGreatDoorM02
import Derived.Deep.OwnRows
set_option linter.all false
set_option maxHeartbeats 8000000
namespace Go.Fk
abbrev eo:=@Nat.mul_one
abbrev jFQb:=@List.length_replicate
abbrev jIQb:=@List.ext_getElem
abbrev nzQb:=@List.length_set
abbrev jjQb:=@Ne.symm
abbrev zt:=@List.replicate_succ
open Go.RowKit
def uf{α:Type}(R:List α)(z:α)(n i:Nat)(e:R.length=n)(f:i<n)(x:α)(d:R[i]'ω=x):(R.take i++List.replicate (n-i) z).set i x=R.take (i+1)++List.replicate (n-(i+1)) z:=by
 rw[eaQb ω,d,show n-i=(n-(i+1))+1 by omega,zt,List.set_append_right _ _ (by rw[aPQb];omega)];have:i-(R.take i).length=0:=by rw[aPQb];omega
 rw[this];simp
def ug{α:Type}(R:List α)(z:α)(n i:Nat)(d:R.length=n)(e:i<=n):(R.take i++List.replicate (n-i) z).length=n:=by
 grind
section
variable {P:Program} {α:Type} {w:World} {base:Nat} {E:aJ P α} {l:List α}
theorem Ow.parts{g n d:Nat}(h:Ow w base E (.slice (some ⟨g,0,none⟩) n d) l):n=l.length/\base<=g/\∃e,w.heap[g]?=some (.cells e E.e (0,0))/\l.length<=d/\d<=maxLen/\e.size=d*E.k/\e.toList.take (l.length*E.k)=E.cells l:=by
 obtain⟨f,m⟩:=h;grind
theorem Ow.cellAt{g n m:Nat}(h:Ow w base E (.slice (some ⟨g,0,none⟩) n m) l)(f:α->Value)(o:E.enc=λx=>[f x])(i:Nat)(p:i<l.length):w.cell? ⟨g,i,none⟩=some (f l[i])/\w.frozen? ⟨g,i,none⟩=false:=by
 obtain⟨_,_,q,d,z,A,D,F⟩:=h.parts;refine⟨?_,aB d i⟩;rw[aG d];have G:E.k=1:=by have:=E.len l[i];rw[o]at this;simpa using this.symm
 have e:=E.cells_at l i p 0 ω;grind
theorem Nx(d:∀x,(E.enc x).length=1)(l:List α)(i:Nat)(x:α)(u:Value)(f:E.enc x=[u]):E.cells (l.set i x)=(E.cells l).set i u:=by
 induction l generalizing i with
 | nil=>rfl
 | cons y l m=>
  obtain⟨z,h⟩:=List.length_eq_one_iff.1 (d y);have e:∀l,E.cells (y::l)=z::E.cells l:=λl=>by simp[aJ.cells,h]
  cases i with
  | zero=>rw[e,List.set_cons_zero,List.set_cons_zero];simp[aJ.cells,f]
  | succ i=>grind
theorem Ow.set{g n d:Nat}(h:Ow w base E (.slice (some ⟨g,0,none⟩) n d) l)(f:α->Value)(e:E.enc=λx=>[f x])(i:Nat)(K:i<l.length)(x:α)(u:Value)(m:f x=u):Ow (w.setCell ⟨g,i,none⟩ u) base E (.slice (some ⟨g,0,none⟩) n d) (l.set i x):=by
 obtain⟨o,p,q,z,A,D,F,G⟩:=h.parts;have I:E.k=1:=by have:=E.len x;rw[e]at this;simpa using this.symm
 have J:=Nx (E:=E) (λx=>by rw[e];rfl) l i x u (by rw[e];show [f x]=[u];rw[m]);refine⟨E.length_cells _,.inr ⟨g,d,q.setIfInBounds i u,by rw[o,nzQb],p,aI z i u,by rw[nzQb];exact A,D,by simpa using F,?_⟩⟩;rw[J,<- G,nzQb,I,eo,Array.toList_setIfInBounds,List.take_set]
theorem eP{d:World}{B g i:Nat}{u:Value}(h:Below B d w)(e:B<=g)(f:B<=w.heap.size):Below B d (w.setCell ⟨g,i,none⟩ u):=
 ag.below h (ay w ⟨g,i,none⟩ u) f λk m=>by rw[m];exact e
theorem mS(E:aJ P α)(h:E.k=1)(m:E.z.cells=#[E.z])(t:TypeId)(o:P.underlying t=some (.slice E.e))(d e:IntKind)(n:Nat)(p:n<=1000000000)(w:World):(Instr.makeSlice t (.int d (n:Int)) (.int e (n:Int))).run P w=.ok (.slice (some ⟨w.heap.size,0,none⟩) n n) (w.alloc (.cells (madeCells #[E.z] n) E.e)):=by
 have f:=E.info;rw[h]at f
 exact run_make_row' t E.e E.z E.bytes o f m d e n (by have := E.small; calc E.bytes * n ≤ 64 * 1000000000 := bo this p
                                                       _ ≤ 281474976710656 := by omega) ω w
theorem Ny(E:aJ P α)(d:E.z.cells=#[E.z])(n:Nat):E.cells (List.replicate n E.zero)=List.replicate n E.z:=by
 have e:E.enc E.zero=[E.z]:=by rw[<- E.zs,d]
 induction n with
 | zero=>rfl
 | succ n f=>rw[zt,zt];show E.enc E.zero++E.cells (List.replicate n E.zero)=_;grind
theorem nN(E:aJ P α)(d:E.k=1)(e:E.z.cells=#[E.z])(n:Nat)(p:n<=1000000000)(w:World)(f:base<=w.heap.size):Ow (w.alloc (.cells (madeCells #[E.z] n) E.e)) base E (.slice (some ⟨w.heap.size,0,none⟩) n n) (List.replicate n E.zero):=by
 have h:(madeCells #[E.z] n).toList=List.replicate n E.z:=by
  apply jIQb;·simp[madeCells]
  ·intro i h m;simp[madeCells,Nat.mod_one]
 have m:=Ny E e n;have o:(madeCells #[E.z] n).size=n:=size_madeCells _ _;refine⟨E.length_cells _,.inr ⟨w.heap.size,n,madeCells #[E.z] n,by rw[jFQb],f,aD w _ _ rfl,by rw[jFQb];omega,by unfold maxLen;omega,by rw[o,d,eo],?_⟩⟩;grind
theorem rm(E:aJ P α){d:Array Oper}{rest:List Oper}{o:Oper}{a:Act}{Q:Exit->Act->World->Prop}(e:o.guard=none)(x c:Operand)(t:TypeId)(f:o.op=.makeSlice t x c)(h:P.underlying t=some (.slice E.e))
  (kl kc:IntKind) (C:Int) (n:Nat) (hx:a.eval x=.int kl 0) (hc:a.eval c=.int kc C) (hC:C=(n:Int)) (hn:n<=1000000000) (base:Nat) (hb:base<=w.heap.size)
  (hK:∀w',Ow w' base E (.slice (some ⟨w.heap.size,0,none⟩) 0 n) ([]:List α)->w.grownBy w' none->wpList P d Q rest (a.put o.dst (.slice (some ⟨w.heap.size,0,none⟩) 0 n)) w'):wpList P d Q (o::rest) a w:=by
 obtain⟨i,m,p,q,z⟩:=of E.info;refine wpList_make_own (P:=P) w e x c t f base E.e i E.z E.k h m p q kl kc C n hx hc hC ?_ (by unfold maxLen;omega) hb λw' A D=>hK w' A D;rw[z];have:=E.small
 calc E.bytes * n ≤ 64 * 1000000000 := bo this hn
  _<=281474976710656:=ω
end
section
variable {P:Program}
theorem de{α:Type}{E:aJ P α}{w:World}{base r i:Nat}{v u:Value}{l:List α}(h:Ow w base E v l)(e:r<base):Ow (w.setCell ⟨r,i,none⟩ u) base E v l:=
 h.chg (ay w ⟨r,i,none⟩ u) λk d=>by
  have:=(h.lt k d).1
  show ¬k=r
  omega
theorem bX{α β:Type}{E:aJ P α}{F:aJ P β}{w w':World}{b f:Nat}{x v v':Value}{m:List α}{l o:List β}(h:Ow w b E x m)(p:Ow w f F v l)(z:dF f F o w v v' w')(A:F.e≠E.e):Ow w' b E x m:=
 h.chg z.chg' λq D e=>by
  rcases p.2 with⟨d,_⟩ | ⟨g,I,J,d,_,G,_⟩
  ·rw[d]at e;cases e
  ·rw[d]at e
   simp only[Value.ownBlock,ji]at e
   subst e
   exact h.ne_cells G A D
theorem JH{α β:Type}{E:aJ P α}{F:aJ P β}{w w':World}{b d:Nat}{x v v':Value}{m:List α}{l e:List β}(h:Ow w b E x m)(f:Ow w d F v l)(o:dF d F e w v v' w')(p:E.e≠F.e):Ow w' b E x m:=bX h f o (jjQb p)
end
section
variable {P:Program} {α β:Type} {E:aJ P α} {w w':World} {base:Nat} {ps:List Hd} {ls:List (List α)} {v v':Value}
def kF(w:World)(base:Nat)(E:aJ P α)(ps:List Hd)(ls:List (List α))(v:Value):Prop:=
 ps.length=ls.length/\∀t (d:t<ps.length) (e:t<ls.length),Ow w base E ps[t].v ls[t]/\(ps[t].v.ownBlock=none\/ps[t].v.ownBlock≠v.ownBlock)
def cg(w:World)(base:Nat)(E:aJ P α)(ps:List Hd)(ls:List (List α)):Prop:=
 ps.length=ls.length/\∀t (d:t<ps.length) (e:t<ls.length),Ow w base E ps[t].v ls[t]
theorem cg.fr(h:cg w base E ps ls)(d:Fr w w'):cg w' base E ps ls:=⟨h.1,λt e f=>(h.2 t e f).fr d⟩
theorem cg.sees2{d:aJ P Hd}{e:Value}(h:cg w base E ps ls)(f:ao w d e ps):cV w d E e ps ls:=⟨f,h.1,λt m o=>(h.2 t m o).see⟩
theorem cg.rebase(h:cg w base E ps ls){b:Nat}(d:b<=base):cg w b E ps ls:=⟨h.1,λt e f=>(h.2 t e f).rebase d⟩
theorem cg.rows(h:cg w base E ps ls)(m:∀b,v.ownBlock=some b->b<base):kF w base E ps ls v:=
 ⟨h.1, fun t d f => ⟨h.2 t d f, by
   cases o : ps[t].v.ownBlock with
   | none => exact .inl rfl
   | some g =>
     refine .inr λe => ?_
     have p := ((h.2 t d f).lt g o).1
     have q := m g e.symm
     omega⟩⟩
theorem kF.fr(h:kF w base E ps ls v)(f:Fr w w'):kF w' base E ps ls v:=⟨h.1,λt d e=>⟨(h.2 t d e).1.fr f,(h.2 t d e).2⟩⟩
theorem kF.app{F:aJ P β}{b:Nat}{l:List β}(h:kF w base E ps ls v)(f:dF b F l w v v' w'):kF w' base E ps ls v':=
 ⟨h.1,λt d e=>⟨f.other (h.2 t d e).1 (h.2 t d e).2,f.apart (h.2 t d e).1 (h.2 t d e).2⟩⟩
theorem kF.beside{F:aJ P β}{b:Nat}{l f:List β}{x m:Value}(h:kF w base E ps ls v)(o:Ow w b F x l)(p:dF b F f w x m w')(q:F.e≠E.e):kF w' base E ps ls v:=
 ⟨h.1,λt d e=>⟨bX (h.2 t d e).1 o p q,(h.2 t d e).2⟩⟩
end
