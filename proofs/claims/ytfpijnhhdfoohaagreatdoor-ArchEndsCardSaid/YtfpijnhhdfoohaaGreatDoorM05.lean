/- Parts of the proof of ArchEnds: Lib3 Lib4. -/
import Derived.Test.YtfpijnhhdfoohaaGreatDoorM04
import Derived.Lib.AppendZeros
set_option linter.unusedVariables false
set_option linter.unusedSectionVars false
set_option linter.unusedSimpArgs false
set_option maxHeartbeats 8000000
namespace Go.Fk
abbrev gyQb:=@List.take_succ_eq_append_getElem
abbrev rAQb:=@List.flatten_append
end Go.Fk
namespace Go.Fk
open Go.RowKit
section
variable {P:Program} {α:Type}
theorem AY(E:au P α)(w:World)(t e o:TypeId)(k q:IntKind)(h:P.underlying t=some (.slice E.e))(z:P.underlying e=some (.int q))(n:Nat)(A:0<n)(B:n<=2147483648) :
  ∃ d m,(Builtin.append_ #[t,e] o #[.slice none 0 0,.int k n]).run P w=.ok (.slice (some ⟨w.heap.size,0,none⟩) n d) m/\Ow m w.heap.size E (.slice (some ⟨w.heap.size,0,none⟩) 0 d) ([]:List α)/\Fr w m/\n<=d /\
   (∀ W,(Instr.slice t (.slice (some ⟨w.heap.size,0,none⟩) n d) none (some (.int .i64 0)) none).run P W=.ok (.slice (some ⟨w.heap.size,0,none⟩) 0 d) W):=by
 obtain⟨i,D,F,Q,G⟩:=nk E.info;have R:=E.pos;have I:E.z.cells.size=E.k:=by have:=gS List.length E.zs;rw [E.len]at this;simpa using this
 have J := Lib.run_append_nil_zeros (P := P) w t e o E.e i E.z k q h z D F n A (by omega) (by omega) (by
  rw [G];have := E.small
  calc n * E.bytes ≤ 2147483648 * 64 := bJ B this
   _ ≤ 281474976710656 := by omega)
 have K:=grownCap_ge w n 0 E.e;have L:=grownCap_le_maxLen w n 0 E.e (by unfold maxLen;omega);have M:P.underlying t=some (.slice (P.elem t)):=by simp [Program.elem,h]
 have O:P.elem t=E.e:=by simp [Program.elem,h]
 refine⟨_,_,J,?_,((Fr.refl w).drewN 1).alloc _,K,fun W=>?_⟩
 · refine⟨by simp [au.cells],.inr ⟨w.heap.size,grownCap w n 0 E.e,_,rfl,am _,a9 w.drew _ _ rfl,an _,L,?_,?_⟩⟩;· simp only [Array.size_append,size_zeroCells,I];rw [<- bU];congr 1;omega
   · simp [au.cells]
 · rw [run_slice_h W t _ _ _ M .i64 0 (by omega) (by omega),O,pr];simp [Result.andThen,sliced,Addr.add]
end
structure Hd where
 a:Option Addr
 n:Nat
 c:Nat
abbrev Hd.v(h:Hd):Value:=.slice h.a h.n h.c
section
variable {P:Program} {α:Type}
def dl(w:World)(m:au P Hd)(E:au P α)(v:Value)(d:List Hd)(e:List (List α)):Prop:=
 ai w m v d/\d.length=e.length/\∀ i (h:i<d.length) (o:i<e.length),ai w E d[i].v e[i]
theorem dl.fr{w d:World}{e:au P Hd}{E:au P α}{v:Value}{m:List Hd}{o:List (List α)}(h:dl w e E v m o)(q:Fr w d):dl d e E v m o:=
 ⟨h.1.fr q,h.2.1,fun i z A=>(h.2.2 i z A).fr q⟩
theorem sp{α:Type}(d:List (List α))(k:Nat)(h:k<d.length):(d.take (k+1)).flatten=(d.take k).flatten++d[k]:=by
 rw [gyQb h,rAQb];simp
theorem qV{α:Type}(d:List (List α))(k:Nat):(d.take k).flatten.length<=d.flatten.length:=by
 conv=>rhs;rw [<- j9 k d]
 rw [rAQb,aD];omega
end
section
variable {P:Program} {α:Type} {w:World} {base:Nat} {v:Value} {l:List α}
theorem xJ{a b:Option Nat}(h:a=none\/a≠b):b=none\/b≠a:=by
 cases b with
 | none=>exact .inl rfl
 | some g=>
  rcases h with h | h;· exact .inr (by rw [h];simp)
  · exact .inr (fun e=>h e.symm)
theorem Qy{β:Type}{E:au P α}{F:au P β}{h:World}{d:Nat}{x:Value}{m:List β}(o:Ow w base E v l)(q:Ow h d F x m)(A:w.heap.size<=d):x.ownBlock=none\/x.ownBlock≠v.ownBlock:=by
 cases z:x.ownBlock with
 | none=>exact .inl rfl
 | some g=>refine .inr fun e=>?_;have B:=q.lt g z;have D:=o.lt g e.symm;omega
end
end Go.Fk
