/- Lemmas. -/
import Derived.Test.YtmcaneofjlhhmaaGreatDoorM25
import Derived.Test.YtmcaneofjlhhmaaGreatDoorM27
import Derived.Test.YtmcaneofjlhhmaaGreatDoorM22
set_option linter.all false
set_option maxHeartbeats 8000000
namespace Go.Proofs
open RowKit Fk
def Ad{w:World}{v:Value}{l:List bW}(h:ao w j8 v l)(k:Nat)(f:k<l.length):∃b d m,v=.slice (some ⟨b,d,none⟩) l.length m/\w.cell? ⟨b,d+k*3,none⟩=some (.int .u8 (l[k].lit.toNat:Int))/\w.cell? ⟨b,d+k*3+1,none⟩=some (N l[k].len)/\w.cell? ⟨b,d+k*3+2,none⟩=some (N l[k].dist):=by
 obtain⟨b,d,m,rfl,p,q,o⟩:=h.cells (by intro e;simp[e]at f);exact⟨b,d,m,rfl,o k f 0 δ _ rfl,o k f 1 δ _ rfl,o k f 2 δ _ rfl⟩
def eM.chg{w w':World}{base g n:Nat}{a:U0}{c:Nat->Value}{G:Nat->Prop}(h:eM w base g a n c)(d:ag G w w')(e:¬G g)(f:∀k,(c 0).ownBlock=some k->¬G k)(m:∀k,(c 1).ownBlock=some k->¬G k)
  (h4:∀l,1<=l->l<16->∀k,(c (34+l)).ownBlock=some k->¬G k):eM w' base g a n c:=
 ⟨h.arr.chg d e,h.own0.chg d f,h.own1.chg d m,h.first,h.many,λl a b=>(h.syms l a b).chg d (h4 l a b),h.apart,h.up⟩
def eM.fr{w w':World}{base g n:Nat}{a:U0}{c:Nat->Value}(h:eM w base g a n c)(d:Fr w w'):eM w' base g a n c:=
 ⟨h.arr.fr d,h.own0.fr d,h.own1.fr d,h.first,h.many,λl a b=>(h.syms l a b).fr d,h.apart,h.up⟩
def Sc(w:World)(b:Nat)(e:Value)(a:U0)(g:Nat)(f:Value):Prop:=
 (df a=false/\e=.pointer none)\/(df a=true/\∃d c,e=.pointer (some ⟨d,0,none⟩)/\eM w b d a a.length c/\d≠g/\((c 0).ownBlock=none\/(c 0).ownBlock≠f.ownBlock))
