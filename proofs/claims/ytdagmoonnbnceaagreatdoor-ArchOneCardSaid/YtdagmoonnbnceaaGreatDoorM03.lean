/- Parts of the proof of ArchOne: Lib3 Lib4. -/
import Derived.Test.YtdagmoonnbnceaaGreatDoorM02
import Derived.Lib.AppendZeros
set_option linter.unusedVariables false
set_option linter.unusedSectionVars false
set_option linter.unusedSimpArgs false
set_option maxHeartbeats 8000000
namespace Go.Fk
open Go.RowKit
section
variable {P:Program} {α:Type}
theorem run_grow(E:Elt P α)(w:World)(t tn ty:TypeId)(k kn:IntKind)(ht:P.underlying t=some (.slice E.e))(htn:P.underlying tn=some (.int kn))(n:Nat)(h0:0<n)(hn:n<=2147483648) :
  ∃ cap w',(Builtin.append_ #[t,tn] ty #[.slice none 0 0,.int k n]).run P w=.ok (.slice (some ⟨w.heap.size,0,none⟩) n cap) w'/\Ow w' w.heap.size E (.slice (some ⟨w.heap.size,0,none⟩) 0 cap) ([]:List α)/\Fr w w'/\n<=cap /\
   (∀ W,(Instr.slice t (.slice (some ⟨w.heap.size,0,none⟩) n cap) none (some (.int .i64 0)) none).run P W=.ok (.slice (some ⟨w.heap.size,0,none⟩) 0 cap) W):=by
 obtain⟨i,hi,hz,h1,h2⟩:=info_parts E.info
 have hk:=E.pos
 have hzs:E.z.cells.size=E.k:=by have:=congrArg List.length E.zs;rw [E.len]at this;simpa using this
 have hr := Lib.run_append_nil_zeros (P := P) w t tn ty E.e i E.z k kn ht htn hi hz n h0 (by omega) (by omega) (by
  rw [h2]
  have := E.small
  calc n * E.bytes ≤ 2147483648 * 64 := Nat.mul_le_mul hn this
   _ ≤ 281474976710656 := by omega)
 have hge:=grownCap_ge w n 0 E.e
 have hle:=grownCap_le_maxLen w n 0 E.e (by unfold maxLen;omega)
 have ht':P.underlying t=some (.slice (P.elem t)):=by simp [Program.elem,ht]
 have he:P.elem t=E.e:=by simp [Program.elem,ht]
 refine⟨_,_,hr,?_,((Fr.refl w).drewN 1).alloc _,hge,fun W=>?_⟩
 · refine⟨by simp [Elt.cells],.inr ⟨w.heap.size,grownCap w n 0 E.e,_,rfl,Nat.le_refl _,heap_new w.drew _ _ rfl,Nat.zero_le _,hle,?_,?_⟩⟩
   · simp only [Array.size_append,size_zeroCells,hzs]
     rw [<- Nat.add_mul];congr 1;omega
   · simp [Elt.cells]
 · rw [run_slice_h W t _ _ _ ht' .i64 0 (by omega) (by omega),he,sizeOf_elt]
   simp [Result.andThen,sliced,Addr.add]
end
structure Hd where
 a:Option Addr
 n:Nat
 c:Nat
abbrev Hd.v(h:Hd):Value:=.slice h.a h.n h.c
section
variable {P:Program} {α:Type}
def Sees2(w:World)(EH:Elt P Hd)(E:Elt P α)(v:Value)(hs:List Hd)(ls:List (List α)):Prop:=
 See w EH v hs/\hs.length=ls.length/\∀ i (h:i<hs.length) (h':i<ls.length),See w E hs[i].v ls[i]
theorem Sees2.fr{w w':World}{EH:Elt P Hd}{E:Elt P α}{v:Value}{hs:List Hd}{ls:List (List α)}(h:Sees2 w EH E v hs ls)(hf:Fr w w'):Sees2 w' EH E v hs ls:=
 ⟨h.1.fr hf,h.2.1,fun i h1 h2=>(h.2.2 i h1 h2).fr hf⟩
theorem flat_snoc{α:Type}(ls:List (List α))(k:Nat)(h:k<ls.length):(ls.take (k+1)).flatten=(ls.take k).flatten++ls[k]:=by
 rw [List.take_succ_eq_append_getElem h,List.flatten_append];simp
theorem flat_take_le{α:Type}(ls:List (List α))(k:Nat):(ls.take k).flatten.length<=ls.flatten.length:=by
 conv=>rhs;rw [<- List.take_append_drop k ls]
 rw [List.flatten_append,List.length_append];omega
end
section
variable {P:Program} {α:Type} {w:World} {base:Nat} {v:Value} {l:List α}
theorem ne_flip{a b:Option Nat}(h:a=none\/a≠b):b=none\/b≠a:=by
 cases b with
 | none=>exact .inl rfl
 | some g=>
  rcases h with h | h
  · exact .inr (by rw [h];simp)
  · exact .inr (fun e=>h e.symm)
end
end Go.Fk
