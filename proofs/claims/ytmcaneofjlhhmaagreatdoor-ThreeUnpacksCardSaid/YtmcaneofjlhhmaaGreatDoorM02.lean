/- Lemmas. -/
import Derived.Test.YtmcaneofjlhhmaaGreatDoorM00
import Derived.Lib.AppendZeros
set_option linter.all false
set_option maxHeartbeats 8000000
namespace Go.Fk
abbrev aeQb:=@if_neg
abbrev aPQb:=@List.length_take
abbrev eaQb:=@List.take_succ_eq_append_getElem
abbrev dtQb:=@Go.Value.slice.injEq
abbrev nt:=@Nat.add_sub_cancel_left
abbrev kfQb:=@Nat.min_eq_left
abbrev qPQb:=@List.flatten_append
abbrev qJQb:=@Nat.add_assoc
open Go.RowKit
section
variable {P:Program} {α:Type}
theorem mI(E:aJ P α)(w:World):(sizeOf E.e).run P w=.ok E.k w:=by
 obtain⟨i,d,f,e,h⟩:=of E.info;simp[sizeOf,typeInfo,d,e]
theorem ao.drop{E:aJ P α}{w:World}{a:Option Addr}{n d:Nat}{l:List α}(h:ao w E (.slice a n d) l){k:Nat}(o:k<=l.length):ao w E (.slice (if d=k then a else a.map (·.add (k*E.k))) (l.length-k) (d-k)) (l.drop k):=by
 obtain⟨G,I,J,m,K,L,p,f⟩:=h;simp only[dtQb]at m;obtain⟨rfl,rfl,rfl⟩:=m;have q:(l.drop k).length=l.length-k:=σ
 refine⟨E.length_cells _,_,_,by rw[q],ω,ω,?_,?_⟩
 ·intro e;have:a=none:=by
   split at e;·exact e
   ·simpa using e
  have:=p this;constructor <;> omega
 ·rcases f with f | ⟨b,z,rfl,f⟩;·left;omega
  ·by_cases A:d=k;·left;omega
   ·right;refine⟨b,z+k*E.k,by rw[aeQb A];simp[Addr.add],λj u D=>?_⟩;have e:=E.cells_append (l.take k) (l.drop k);rw[jC]at e;have F:(E.cells (l.take k)).length=k*E.k:=(by rw[E.length_cells,aPQb,kfQb o]);rw[qJQb];refine f (k*E.k+j) u ?_;rw[e,List.getElem?_append_right ω,F,nt];exact D
theorem gN(E:aJ P α)(t:TypeId)(f:P.underlying t=some (.slice E.e)){w:World}{a:Option Addr}{n m:Nat}{l:List α}(h:ao w E (.slice a n m) l)(k:Nat)(p:k<=l.length):∃d e,(∀W,(Instr.slice t (.slice a n m) (some (.int .i64 (k:Int))) none none).run P W=.ok (.slice d (l.length-k) e) W)/\ao w E (.slice d (l.length-k) e) (l.drop k):=by
 have q:P.underlying t=some (.slice (P.elem t)):=by simp[Program.elem,f]
 have z:P.elem t=E.e:=by simp[Program.elem,f]
 obtain⟨d,e,o,_⟩:=h.shape;simp only[dtQb]at o;obtain⟨rfl,rfl,rfl⟩:=o;refine⟨_,_,λW=>?_,h.drop p⟩;rw[run_slice_l W t _ _ _ q .i64 _ ω ω,z,mI];simp[Result.andThen,sliced]
theorem gw(E:aJ P α)(t:TypeId)(e:P.underlying t=some (.slice E.e)){w:World}{a:Option Addr}{n d:Nat}{l:List α}(h:ao w E (.slice a n d) l)(k:Nat)(m:k<=l.length):(∀W,(Instr.slice t (.slice a n d) none (some (.int .i64 (k:Int))) none).run P W=.ok (.slice a k d) W)/\ao w E (.slice a k d) (l.take k):=by
 have o:P.underlying t=some (.slice (P.elem t)):=by simp[Program.elem,e]
 have p:P.elem t=E.e:=by simp[Program.elem,e]
 obtain⟨q,z,f,A,D,F⟩:=h.shape;simp only[dtQb]at f;obtain⟨rfl,rfl,rfl⟩:=f;refine⟨λW=>?_,h.take m⟩;rw[run_slice_h W t _ _ _ o .i64 _ ω ω,p,mI];simp[Result.andThen,sliced]
 cases a with
 | none=>simp
 | some a=>simp[Addr.add]
theorem l9(E:aJ P α)(t:TypeId)(f:P.underlying t=some (.slice E.e)){w:World}{a:Option Addr}{n m:Nat}{l:List α}(h:ao w E (.slice a n m) l)(i k:Nat)(F:i<=k)(q:k<=l.length):∃d e,(∀W,(Instr.slice t (.slice a n m) (some (.int .i64 (i:Int))) (some (.int .i64 (k:Int))) none).run P W=.ok (.slice d (k-i) e) W)/\ao w E (.slice d (k-i) e) ((l.take k).drop i):=by
 have z:P.underlying t=some (.slice (P.elem t)):=by simp[Program.elem,f]
 have A:P.elem t=E.e:=by simp[Program.elem,f]
 obtain⟨d,e,o,G,I,J⟩:=h.shape;simp only[dtQb]at o;obtain⟨rfl,rfl,rfl⟩:=o;have D:(l.take k).length=k:=by simp;omega
 have p:=(h.take q).drop (k:=i) ω;rw[D]at p;refine⟨_,_,λW=>?_,p⟩;rw[run_slice_lh W t _ _ _ z .i64 .i64 _ _ ω ω ω,A,mI];simp[Result.andThen,sliced]
theorem Ow.to{E:aJ P α}{w:World}{base:Nat}{a:Option Addr}{n e:Nat}{l:List α}(h:Ow w base E (.slice a n e) l){k:Nat}(f:k<=l.length):Ow w base E (.slice a k e) (l.take k):=by
 by_cases m:a=none;·subst m;obtain⟨q,o,d,_,_,p⟩:=h.see.shape;simp only[dtQb]at d;obtain⟨rfl,rfl,rfl⟩:=d;obtain⟨rfl,rfl⟩:=p rfl;have:k=0:=(by simpa using f);subst this;exact h
 ·rcases h.2 with⟨d,_⟩ | ⟨g,o,z,d,_⟩;·cases d;exact absurd rfl m
  ·simp only[dtQb]at d;obtain⟨rfl,rfl,rfl⟩:=d;exact h.take f
theorem ao.cell1{E:aJ P α}{w:World}{v:Value}{l:List α}(h:ao w E v l)(f:α->Value)(p:E.enc=λx=>[f x])(k:Nat)(o:k<l.length):∃b d m,v=.slice (some ⟨b,d,none⟩) l.length m/\w.cell? ⟨b,d+k,none⟩=some (f l[k]):=by
 obtain⟨b,d,m,q,_,_,z⟩:=h.at1 f p (by intro e;simp[e]at o);exact⟨b,d,m,q,z k o⟩
end
section
variable {P:Program} {α:Type}
theorem Be(E:aJ P α)(w:World)(t e h:TypeId)(k m:IntKind)(f:P.underlying t=some (.slice E.e))(o:P.underlying e=some (.int m))(n:Nat)(p:0<n)(q:n<=2147483648):∃d w',(Builtin.append_ #[t,e] h #[.slice none 0 0,.int k n]).run P w=.ok (.slice (some ⟨w.heap.size,0,none⟩) n d) w'/\Ow w' w.heap.size E (.slice (some ⟨w.heap.size,0,none⟩) 0 d) ([]:List α)/\Fr w w'/\n<=d /\
   (∀W,(Instr.slice t (.slice (some ⟨w.heap.size,0,none⟩) n d) none (some (.int .i64 0)) none).run P W=.ok (.slice (some ⟨w.heap.size,0,none⟩) 0 d) W):=by
 obtain⟨i,z,A,M,D⟩:=of E.info;have O:=E.pos;have F:E.z.cells.size=E.k:=by have:=iG List.length E.zs;rw[E.len]at this;simpa using this
 have G := Lib.run_append_nil_zeros (P := P) w t e h E.e i E.z k m f o z A n p (by omega) (by omega) (by
   rw[D];have := E.small
   calc n * E.bytes ≤ 2147483648 * 64 := bo q this
     _ ≤ 281474976710656 := by omega)
 have I:=grownCap_ge w n 0 E.e;have J:=grownCap_le_maxLen w n 0 E.e (by unfold maxLen;omega);have K:P.underlying t=some (.slice (P.elem t)):=by simp[Program.elem,f]
 have L:P.elem t=E.e:=by simp[Program.elem,f]
 refine⟨_,_,G,?_,((Fr.refl w).drewN 1).alloc _,I,λW=>?_⟩
 ·refine⟨by simp[aJ.cells],.inr ⟨w.heap.size,grownCap w n 0 E.e,_,rfl,au _,aD w.drew _ _ rfl,ax _,J,?_,?_⟩⟩;·simp only[Array.size_append,size_zeroCells,F];rw[<- bP];congr 1;omega
  ·simp[aJ.cells]
 ·rw[run_slice_h W t _ _ _ K .i64 0 ω ω,L,mI];simp[Result.andThen,sliced,Addr.add]
end
structure Hd where
 a:Option Addr
 n:Nat
 c:Nat
abbrev Hd.v(h:Hd):Value:=.slice h.a h.n h.c
section
variable {P:Program} {α:Type}
def cV(w:World)(f:aJ P Hd)(E:aJ P α)(v:Value)(d:List Hd)(e:List (List α)):Prop:=
 ao w f v d/\d.length=e.length/\∀i (h:i<d.length) (m:i<e.length),ao w E d[i].v e[i]
theorem cV.fr{w w':World}{d:aJ P Hd}{E:aJ P α}{v:Value}{e:List Hd}{f:List (List α)}(h:cV w d E v e f)(m:Fr w w'):cV w' d E v e f:=
 ⟨h.1.fr m,h.2.1,λi o p=>(h.2.2 i o p).fr m⟩
theorem oY{α:Type}(d:List (List α))(k:Nat)(h:k<d.length):(d.take (k+1)).flatten=(d.take k).flatten++d[k]:=by
 rw[eaQb h,qPQb];simp
theorem mW{α:Type}(d:List (List α))(k:Nat):(d.take k).flatten.length<=d.flatten.length:=by
 conv=>rhs;rw[<- jC k d]
 rw[qPQb,aM];omega
end
section
variable {P:Program} {α:Type} {w:World} {base:Nat} {v:Value} {l:List α}
theorem tS{a b:Option Nat}(h:a=none\/a≠b):b=none\/b≠a:=by
 cases b with
 | none=>exact .inl rfl
 | some g=>
  rcases h with h | h;·exact .inr (by rw[h];simp)
  ·exact .inr (λe=>h e.symm)
theorem E7{β:Type}{E:aJ P α}{F:aJ P β}{w':World}{d:Nat}{x:Value}{m:List β}(f:Ow w base E v l)(h:Ow w' d F x m)(p:w.heap.size<=d):x.ownBlock=none\/x.ownBlock≠v.ownBlock:=by
 cases o:x.ownBlock with
 | none=>exact .inl rfl
 | some g=>refine .inr λe=>?_;have q:=h.lt g o;have z:=f.lt g e.symm;omega
end
