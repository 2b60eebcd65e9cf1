/- Parts of the proof of ArchOne: SpecJ7 Spec28. -/
import Derived.Test.YtdagmoonnbnceaaGreatDoorM31
import Derived.Test.YtdagmoonnbnceaaGreatDoorM07
set_option linter.unusedVariables false
set_option linter.unusedSectionVars false
set_option linter.unusedSimpArgs false
set_option maxHeartbeats 8000000
namespace Go.Fk
theorem col_back(ts:List Nat)(lv q:List UInt8)(hl:lv.length=ts.length)(ht:∀ t∈ts,t<18446744073709551616)(hn:ts.length<18446744073709551616) :
  colR ts.length (timesGo 0 ts++levelsL lv++q)=(ts,lv,(timesGo 0 ts++levelsL lv).length,0):=by
 have hT:colT ts.length (timesGo 0 ts++levelsL lv++q)=(ts,⟨(timesGo 0 ts).length,0⟩):=by
  unfold colT
  rw [times_back _ (levelsL lv++q) ts ⟨0,0⟩ 0 [] rfl (by omega) ht (by rw [List.append_assoc];rfl)]
  simp
 have hV:colV ts.length (timesGo 0 ts++levelsL lv++q)=(lv,⟨(timesGo 0 ts++levelsL lv).length,0⟩):=by
  unfold colV
  rw [hT]
  cases lv with
  | nil=>
   rw [List.length_nil]at hl
   rw [<- hl]
   simp [lvlGo,levelsL]
  | cons x l=>
   rw [List.length_cons]at hl
   rw [levels_back _ q ts.length hn l ⟨(timesGo 0 ts).length,0⟩ x 1 ts.length [] rfl (by simp) (by omega) (by simp;omega) (by omega) (.inl rfl) (by rw [List.append_assoc];show List.drop (timesGo 0 ts).length _=_;rw [List.drop_left];rfl)]
   simp [levelsL]
 unfold colR
 rw [hV,hT,if_pos rfl]
def termB(s:List UInt8):Bool:=
 match s with
 | []=>false
 | c::r=>if c=64 then oneOf r == some r else oneOf s == some s
structure Stp where
 op:Int
 n:Int
 word:List UInt8
 fa:UInt64
 fb:UInt64
 deriving DecidableEq
def rightB(s:Stp):Bool:=
 if s.op=1\/s.op=2 then decide (s.n=0/\(s.fa.toNat:Int)=0/\(s.fb.toNat:Int)=0) && termB s.word
 else if s.op=3\/s.op=4 then decide (s.n=0/\s.word=[])
 else if s.op=6\/s.op=7 then decide (s.word=[]/\(s.fa.toNat:Int)=0/\(s.fb.toNat:Int)=0/\2<=s.n)
 else decide (s.op=5/\s.word=[]/\(s.fa.toNat:Int)=0/\(s.fb.toNat:Int)=0/\s.n=0)
def takesZ(s:Stp):Int:=if s.op=5 then 1 else if s.op=6\/s.op=7 then s.n else 0
def takesR(s:Stp):Int:=if s.op=5 then 1 else s.n
def stacks:List Nat->List Stp->Option (List Nat)
 | st,[]=>some st
 | st,s::r=>if rightB s=false\/(st.length:Int)<takesZ s then none else stacks (pushD st (takesZ s).toNat) r
def depthE:Option (List Nat)->Except Int Nat
 | some [d]=>.ok d
 | _=>.error 10
def depthQ(q:List Stp):Except Int Nat:=if 1000<q.length then .error 6 else depthE (stacks [] q)
def checkQ(q:List Stp):Int:=
 match depthQ q with
 | .error n=>n
 | .ok d=>if 64<d then 11 else 0
def stepN(op:Int)(n:Nat):Stp:=⟨op,n,[],0,0⟩
def joinL(op:Int)(ls:List (List Stp)):List Stp:=ls.flatten++if 1<ls.length then [stepN op ls.length]else []
def smallO(s:List UInt8):Option (List UInt8):=
 match s with
 | []=>none
 | c::r=>if c=64 then(oneOf r).map fun w=>64::w else oneOf s
def leafL(op:Int)(s:List UInt8):List Stp:=
 match smallO s with
 | some w=>[⟨op,0,w,0,0⟩]
 | none=>[]
def spanS(op:Int)(a b:UInt64):Stp:=⟨op,0,[],a,b⟩
end Go.Fk
