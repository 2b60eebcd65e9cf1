/- Lemmas for ThreeTurned. -/
import Derived.Test.YtndbpldeabnkbaaGreatDoorM03
import Derived.Lib.AppendZeros
set_option linter.all false
set_option maxHeartbeats 8000000
namespace Go.Fk
abbrev aeQb:=@if_neg
abbrev aAQb:=@List.length_take
abbrev f8Qb:=@List.take_succ_eq_append_getElem
abbrev ir:=@Go.Value.slice.injEq
abbrev jqQb:=@Nat.add_assoc
abbrev ozQb:=@List.flatten_append
abbrev rrQb:=@Nat.add_sub_cancel_left
open Go.RowKit
section
variable {P:Program} {α:Type}
theorem pK(E:aw P α)(w:World):(sizeOf E.e).run P w=.ok E.k w:=by
 obtain⟨i,d,h,e,m⟩:=pf E.info;simp[sizeOf,typeInfo,d,e]
theorem ah.drop{E:aw P α}{w:World}{a:Option Addr}{n d:Nat}{l:List α}(h:ah w E (.slice a n d) l){k:Nat}(z:k<=l.length):ah w E (.slice (if d=k then a else a.map (·.add (k*E.k))) (l.length-k) (d-k)) (l.drop k):=by
 obtain⟨K,L,M,o,O,Q,A,m⟩:=h;simp only[ir]at o;obtain⟨rfl,rfl,rfl⟩:=o;have D:(l.drop k).length=l.length-k:=σ₁
 refine⟨E.length_cells _,_,_,by rw[D],ω₁,ω₁,?_,?_⟩
 ·intro e;have:a=none:=by
   split at e;·exact e
   ·simpa using e
  have:=A this;constructor <;> omega
 ·rcases m with m | ⟨b,F,rfl,m⟩;·left;omega
  ·by_cases G:d=k;·left;omega
   ·right;refine⟨b,F+k*E.k,by rw[aeQb G];simp[Addr.add],λj u I=>?_⟩;have e:=E.cells_append (l.take k) (l.drop k);rw[jCQb]at e;have J:(E.cells (l.take k)).length=k*E.k:=(by rw[E.length_cells,aAQb,fIQb z]);rw[jqQb];refine m (k*E.k+j) u ?_;rw[e,sEQb ω₁,J,rrQb];exact I
theorem lK(E:aw P α)(t:TypeId)(m:P.underlying t=some (.slice E.e)){w:World}{a:Option Addr}{n o:Nat}{l:List α}(h:ah w E (.slice a n o) l)(k:Nat)(A:k<=l.length):∃d e,(∀W,(Instr.slice t (.slice a n o) (some (.int .i64 (k:Int))) none none).run P W=.ok (.slice d (l.length-k) e) W)/\ah w E (.slice d (l.length-k) e) (l.drop k):=by
 have D:P.underlying t=some (.slice (P.elem t)):=by simp[Program.elem,m]
 have F:P.elem t=E.e:=by simp[Program.elem,m]
 obtain⟨d,e,z,_⟩:=h.shape;simp only[ir]at z;obtain⟨rfl,rfl,rfl⟩:=z;refine⟨_,_,λW=>?_,h.drop A⟩;rw[run_slice_l W t _ _ _ D .i64 _ ω₁ ω₁,F,pK];simp[Result.andThen,sliced]
theorem jj(E:aw P α)(t:TypeId)(e:P.underlying t=some (.slice E.e)){w:World}{a:Option Addr}{n d:Nat}{l:List α}(h:ah w E (.slice a n d) l)(k:Nat)(o:k<=l.length):(∀W,(Instr.slice t (.slice a n d) none (some (.int .i64 (k:Int))) none).run P W=.ok (.slice a k d) W)/\ah w E (.slice a k d) (l.take k):=by
 have z:P.underlying t=some (.slice (P.elem t)):=by simp[Program.elem,e]
 have A:P.elem t=E.e:=by simp[Program.elem,e]
 obtain⟨D,F,m,G,I,J⟩:=h.shape;simp only[ir]at m;obtain⟨rfl,rfl,rfl⟩:=m;refine⟨λW=>?_,h.take o⟩;rw[run_slice_h W t _ _ _ z .i64 _ ω₁ ω₁,A,pK];simp[Result.andThen,sliced]
 cases a with
 | none=>simp
 | some a=>simp[Addr.add]
theorem qJ(E:aw P α)(t:TypeId)(m:P.underlying t=some (.slice E.e)){w:World}{a:Option Addr}{n o:Nat}{l:List α}(h:ah w E (.slice a n o) l)(i k:Nat)(J:i<=k)(D:k<=l.length):∃d e,(∀W,(Instr.slice t (.slice a n o) (some (.int .i64 (i:Int))) (some (.int .i64 (k:Int))) none).run P W=.ok (.slice d (k-i) e) W)/\ah w E (.slice d (k-i) e) ((l.take k).drop i):=by
 have F:P.underlying t=some (.slice (P.elem t)):=by simp[Program.elem,m]
 have G:P.elem t=E.e:=by simp[Program.elem,m]
 obtain⟨d,e,z,K,L,M⟩:=h.shape;simp only[ir]at z;obtain⟨rfl,rfl,rfl⟩:=z;have I:(l.take k).length=k:=by simp;omega
 have A:=(h.take D).drop (k:=i) ω₁;rw[I]at A;refine⟨_,_,λW=>?_,A⟩;rw[run_slice_lh W t _ _ _ F .i64 .i64 _ _ ω₁ ω₁ ω₁,G,pK];simp[Result.andThen,sliced]
theorem ah.cell1{E:aw P α}{w:World}{v:Value}{l:List α}(h:ah w E v l)(f:α->Value)(z:E.enc=λx=>[f x])(k:Nat)(o:k<l.length):∃b d m,v=.slice (some ⟨b,d,none⟩) l.length m/\w.cell? ⟨b,d+k,none⟩=some (f l[k]):=by
 obtain⟨b,d,m,A,_,_,D⟩:=h.at1 f z (by intro e;simp[e]at o);exact⟨b,d,m,A,D k o⟩
end
section
variable {P:Program} {α:Type}
theorem Ex(E:aw P α)(w:World)(t e m:TypeId)(k o:IntKind)(h:P.underlying t=some (.slice E.e))(z:P.underlying e=some (.int o))(n:Nat)(A:0<n)(D:n<=2147483648):∃d w',(Builtin.append_ #[t,e] m #[.slice none 0 0,.int k n]).run P w=.ok (.slice (some ⟨w.heap.size,0,none⟩) n d) w'/\Ow w' w.heap.size E (.slice (some ⟨w.heap.size,0,none⟩) 0 d) ([]:List α)/\Fr w w'/\n<=d /\
   (∀W,(Instr.slice t (.slice (some ⟨w.heap.size,0,none⟩) n d) none (some (.int .i64 0)) none).run P W=.ok (.slice (some ⟨w.heap.size,0,none⟩) 0 d) W):=by
 obtain⟨i,F,G,R,I⟩:=pf E.info;have U:=E.pos;have J:E.z.cells.size=E.k:=by have:=dpQb List.length E.zs;rw[E.len]at this;simpa using this
 have K := Lib.run_append_nil_zeros (P := P) w t e m E.e i E.z k o h z F G n A (by omega) (by omega) (by
   rw[I];have := E.small
   calc n * E.bytes ≤ 2147483648 * 64 := bHQb D this
     _ ≤ 281474976710656 := by omega)
 have L:=grownCap_ge w n 0 E.e;have M:=grownCap_le_maxLen w n 0 E.e (by unfold maxLen;omega);have O:P.underlying t=some (.slice (P.elem t)):=by simp[Program.elem,h]
 have Q:P.elem t=E.e:=by simp[Program.elem,h]
 refine⟨_,_,K,?_,((Fr.refl w).drewN 1).alloc _,L,λW=>?_⟩
 ·refine⟨by simp[aw.cells],.inr ⟨w.heap.size,grownCap w n 0 E.e,_,rfl,alQb _,aB w.drew _ _ rfl,arQb _,M,?_,?_⟩⟩;·simp only[Array.size_append,size_zeroCells,J];rw[<- beQb];congr 1;omega
  ·simp[aw.cells]
 ·rw[run_slice_h W t _ _ _ O .i64 0 ω₁ ω₁,Q,pK];simp[Result.andThen,sliced,Addr.add]
end
structure Hd where
 a:Option Addr
 n:Nat
 c:Nat
abbrev Hd.v(h:Hd):Value:=.slice h.a h.n h.c
section
variable {P:Program} {α:Type}
def cO(w:World)(m:aw P Hd)(E:aw P α)(v:Value)(d:List Hd)(e:List (List α)):Prop:=
 ah w m v d/\d.length=e.length/\∀i (h:i<d.length) (o:i<e.length),ah w E d[i].v e[i]
theorem cO.fr{w w':World}{d:aw P Hd}{E:aw P α}{v:Value}{e:List Hd}{m:List (List α)}(h:cO w d E v e m)(o:Fr w w'):cO w' d E v e m:=
 ⟨h.1.fr o,h.2.1,λi z A=>(h.2.2 i z A).fr o⟩
theorem rV{α:Type}(d:List (List α))(k:Nat)(h:k<d.length):(d.take (k+1)).flatten=(d.take k).flatten++d[k]:=by
 rw[f8Qb h,ozQb];simp
theorem pZ{α:Type}(d:List (List α))(k:Nat):(d.take k).flatten.length<=d.flatten.length:=by
 conv=>rhs;rw[<- jCQb k d]
 rw[ozQb,amQb];omega
end
section
variable {P:Program} {α:Type} {w:World} {base:Nat} {v:Value} {l:List α}
theorem qR{a b:Option Nat}(h:a=none\/a≠b):b=none\/b≠a:=by
 cases b with
 | none=>exact .inl rfl
 | some g=>
  rcases h with h | h;·exact .inr (by rw[h];simp)
  ·exact .inr (λe=>h e.symm)
theorem VI{β:Type}{E:aw P α}{F:aw P β}{w':World}{d:Nat}{x:Value}{m:List β}(h:Ow w base E v l)(o:Ow w' d F x m)(A:w.heap.size<=d):x.ownBlock=none\/x.ownBlock≠v.ownBlock:=by
 cases z:x.ownBlock with
 | none=>exact .inl rfl
 | some g=>refine .inr λe=>?_;have D:=o.lt g z;have G:=h.lt g e.symm;omega
end
