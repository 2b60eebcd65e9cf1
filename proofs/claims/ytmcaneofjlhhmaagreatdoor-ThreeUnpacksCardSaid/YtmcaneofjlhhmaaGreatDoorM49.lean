/- Lemmas. -/
import Derived.Test.YtmcaneofjlhhmaaGreatDoorM00
import Derived.ProofKit
import Derived.OpenShut
import Derived.ShutString
set_option linter.all false
set_option maxHeartbeats 8000000
namespace Go.Fk
abbrev cQQb:=@List.getElem?_eq_getElem
abbrev coQb:=@List.getElem_mem
abbrev fxQb:=@List.getD_eq_getElem?_getD
abbrev eoQb:=@Nat.mul_one
abbrev iUQb:=@decide_eq_true_eq
abbrev g8Qb:=@Nat.add_zero
abbrev jmQb:=@List.getElem_map
abbrev lkQb:=@UInt8.toNat_ofNat'
abbrev lSQb:=@Bool.and_eq_true
abbrev m7Qb:=@Nat.mod_eq_of_lt
abbrev n5Qb:=@List.getElem_take
abbrev ljQb:=@and_true
open Go.RowKit Go.ChangeShapes Go.WideShapes Go.ChangeAt
open Go.ChangeMaps (open_string shut_string)
open Go.RowKit Go.ChangeShapes Go.WideShapes Go.ChangeAt
def Il{P:Program}{H:Type}{enc:TypeId × Value->H}{w:World}{base:Nat}{G:Nat->Bool}{I:Bool}{t:TypeId}(E:aJ P UInt8)(p:E.enc=λc=>[u8 c])(J:P.underlying t=some (.slice E.e))(K:P.underlying E.e=some (.int .u8))(L:P.cellsOf E.e=1)
  {fuel:Nat} {v:Value} {x:DataW H × List MemPlace} (h:DataW.trod enc P w base G I fuel t v.cells.toList=some x) (hv:v.cells.toList=[v]):∃l,ao w E v l:=by
 rw[hv]at h;have q:E.k=1:=by rw[<- E.len E.zero,p];rfl
 rcases open_ints J K L h with⟨f,_⟩ | ⟨a,e,M,d,f,_,hl,O,Q,_,A,R⟩;·simp only[List.cons.injEq,ljQb]at f;subst f;exact⟨[],ao.nil⟩
 ·simp only[List.cons.injEq,ljQb]at f;subst f;have ab:e<=d.length:=(by split at Q <;> omega);refine⟨(d.take e).map λz=>UInt8.ofNat z.toNat,?_⟩;have m:((d.take e).map λz=>UInt8.ofNat z.toNat).length=e:=(by simp;omega);refine⟨E.length_cells _,some a,M,by rw[m],ω,O,σ,?_⟩;by_cases U:e=0;·exact .inl (by rw[m,U])
  ·right;have V:=A 0 ω;obtain⟨b,W,X⟩:=a;have Y:X=none:=(by simpa [Addr.add] using World.cell?_spot V);subst Y;refine⟨b,W,rfl,λj u o=>?_⟩;have Z:j<e:=(by have:=(List.getElem?_eq_some_iff.1 o).1;rw[E.length_cells,m,q,eoQb]at this;exact this);have D:=A j ω;rw[lw]at D;rw[D];have:=E.cells_at ((d.take e).map λz=>UInt8.ofNat z.toNat) j (by rw[m];exact Z) 0 ω;rw[q,eoQb,g8Qb]at this;rw[this,p]at o;simp only[List.getElem?_cons_zero,jmQb,n5Qb,ji]at o;rw[<- o];have F:=R (d[j]'ω) (coQb _);have hb:(0:Int)<=d[j]'ω/\d[j]'ω<=255:=(by simp only[Lit.wf,lSQb,iUQb]at F;exact F);rw[fxQb,cQQb ω];show some (Value.int .u8 (d[j]'ω))=some (Value.int .u8 (((UInt8.ofNat (d[j]'ω).toNat).toNat:Nat):Int));congr 2;rw[lkQb,m7Qb ω];omega
