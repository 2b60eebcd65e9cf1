/- Lemmas for ThreeTurned. -/
import Derived.Test.YtndbpldeabnkbaaGreatDoorM07
import Derived.Lib.AppendZerosOnto
set_option linter.all false
set_option maxHeartbeats 8000000
namespace Go.Fk
open Go.RowKit
section
variable {P:Program} {α:Type}
theorem Ke(E:aw P α)(n:Nat):(Builtin.zeroCells E.z.cells n).toList=E.cells (List.replicate n E.zero):=by
 have d:E.z.cells.size=E.k:=by have:=dp List.length E.zs;rw[E.len]at this;simpa using this
 rw[<- FJ];unfold Builtin.zeroCells madeCells;rw[d]
theorem N2(E:aw P α)(w:World)(base:Nat)(t D K:TypeId)(L Q:IntKind)(R:P.underlying t=some (.slice E.e))(U:P.underlying D=some (.int Q)){v:Value}{l:List α}(V:Ow w base E v l)
  (m:Nat) (h0:0<m) (hn:l.length+m<=2147483648) (hbase:base<=w.heap.size) :
  ∃v' w',(Builtin.append_ #[t,D] K #[v,.int L m]).run P w=.ok v' w'/\dw base E (l++List.replicate m E.zero) w v v' w':=by
 obtain⟨i,X,Y,h1,h2⟩:=pf E.info;have z:=E.pos;have M:E.z.cells.size=E.k:=by have:=dp List.length E.zs;rw[E.len]at this;simpa using this
 have Z:=Ke E m;have A:(l++List.replicate m E.zero).length=l.length+m:=σ
 have ap:∀x,x<=2147483648->x*i.bytes<=140737488355328:=λx hx=>by
  rw[h2];have:=E.small
  calc x * E.bytes ≤ 2147483648 * 64 := bH hx this
   _<=140737488355328:=ω
 have O:∀x,x<=2147483648->x*i.bytes<=281474976710656:=λx hx=>ay (ap x hx) ω
 have av:∀F (a1:Option Nat),dw base E (l++List.replicate m E.zero) w (.slice none 0 0) (.slice (some ⟨w.heap.size,0,none⟩) (l.length+m) (grownCap w (l.length+m) F E.e))
   (w.drew.alloc (.cells ((E.cells l).toArray++Builtin.zeroCells E.z.cells m++Builtin.zeroCells E.z.cells (grownCap w (l.length+m) F E.e-(l.length+m))) E.e)):=by
  intro F a1
  have a2:=grownCap_ge w (l.length+m) F E.e
  have a3:=grownCap_le_maxLen w (l.length+m) F E.e (by unfold maxLen;omega)
  refine⟨⟨E.length_cells _,.inr ⟨w.heap.size,_,_,by rw[A],hbase,aB w.drew _ _ rfl,by rw[A];exact a2,a3,?_,?_⟩⟩,⟨rfl,rfl,rfl,σ,λk z _=>heap_alloc_old w.drew _ z⟩,λb G=>.inr ?_⟩
  ·simp only[Array.size_append,size_zeroCells,M,ou,E.length_cells]
   rw[<- be,<- be];congr 1;omega
  ·rw[A,E.cells_append,<- Z]
   simp only[Array.toList_append]
   rw[wu (by simp[E.length_cells,size_zeroCells,M,be]),cw (by simp[E.length_cells,size_zeroCells,M,be])]
  ·simp[Value.ownBlock]at G;omega
 rcases V.2 with⟨rfl,a4⟩ | ⟨g,o,I,rfl,a5,d,bn,a6,a7,aC⟩;·obtain rfl:l=[]:=kd a4;have J:=Lib.run_append_grow_zeros (P:=P) w t D K E.e i E.z L Q R U X Y none 0 0 [] (by simp[run_firstCells_none]) m h0 ω ω (by simp at hn;omega) (O m (by simp at hn;omega)) (by rw[iH,nextslicecap_zero h0];exact O m (by simp at hn;omega));have d:=av 0 none;exact⟨_,_,J,d⟩
 ·have ba:∀j u,(E.cells l)[j]?=some u->w.cell? ((⟨g,0,none⟩:Addr).add j)=some u:=V.cells (g:=g) rfl;by_cases ab:l.length+m<=o
  ·have ac:(Builtin.zeroCells E.z.cells m).toList.length=m*E.k:=(by rw[C6,size_zeroCells,M]);have bs:l.length*E.k+m*E.k<=I.size:=(by rw[a7,<- be];exact bQ _ ab);have aj:=run_storeCells_at P g (l.length*E.k) E.e (Builtin.zeroCells E.z.cells m).toList 0 I w d (by rw[ac];omega) (by rw[Z];exact E.cells_mem _);simp only[dq]at aj;have hw:IntKind.i64.wrap (m:Int)=m:=(by rw[IntKind.wrap_i64];omega);have bc:¬((m:Int)<0):=ω;have bd:¬(281474976710656<(m:Int)*(i.bytes:Int)):=(by rw[<- sJ];have:=O m ω;omega);have bf:m≠0:=ω;have bk:i.size≠0:=ω;have bl:¬(m*i.size=0):=Nat.mul_ne_zero bf bk;have J:(Builtin.append_ #[t,D] K #[.slice (some ⟨g,0,none⟩) l.length o,.int L m]).run P w=.ok (.slice (some ⟨g,0,none⟩) (l.length+m) o) (w.setRow g (I.toList.take (l.length*E.k)++(Builtin.zeroCells E.z.cells m).toList++I.toList.drop (l.length*E.k+(Builtin.zeroCells E.z.cells m).toList.length)).toArray):=(by rw[<- h1]at aj ⊢;simp[-Array.length_toList,Builtin.append_,run_underlying R,run_underlying U,sizeOf,typeInfo,zeroValue,X,Y,asInt,asIntOf,hw,bc,bd,bl,ab,mY,aj]);refine⟨_,_,J,⟨E.length_cells _,.inr ⟨g,o,_,by rw[A],a5,iq w g I _ E.e _ d,by rw[A];exact ab,a6,?_,?_⟩⟩,⟨rfl,rfl,rfl,σ,λk _ z=>setRow_other w g k _ (λe=>z (by simp[e,Value.ownBlock]))⟩,λb G=>.inl G⟩;·simp only[ou,am,aA,aN,ac,C6];omega
   ·rw[A,E.cells_append,<- Z,aC,be];exact List.take_left' (by rw[am,E.length_cells,ac])
  ·have hf:=run_firstCells_some (P:=P) w.drew i.size l.length ⟨g,0,none⟩ l.length o (E.cells l) (by rw[h1];exact V.1) (by simpa using ba);have J:=Lib.run_append_grow_zeros (P:=P) w t D K E.e i E.z L Q R U X Y (some ⟨g,0,none⟩) l.length o (E.cells l) hf m h0 ω ω ω (O m ω) (growslice_fits ω (ap _ hn));have d:=av o none;exact⟨_,_,J,d.own,⟨d.chg.os,d.chg.tape,d.chg.output,d.chg.size,λk z _=>d.chg.block k z (by simp[Value.ownBlock])⟩,λb G=>(d.fresh b G).elim (λh=>by simp[Value.ownBlock]at h) .inr⟩
end
