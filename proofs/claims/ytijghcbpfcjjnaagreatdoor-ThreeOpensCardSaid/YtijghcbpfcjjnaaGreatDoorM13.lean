/- Parts of the proof of ThreeOpens: Spec15 SpecWd SpecV SpecJ3. -/
import Derived.WalkKit
import Derived.Test.YtijghcbpfcjjnaaGreatDoorM06
set_option linter.unusedVariables false
set_option linter.unusedSectionVars false
set_option linter.unusedSimpArgs false
set_option maxHeartbeats 8000000
namespace Go.Fk
def isL(c:UInt8):Bool:=decide (65<=c.toNat/\c.toNat<=90) || decide (97<=c.toNat/\c.toNat<=122) || decide (48<=c.toNat/\c.toNat<=57)
def sm(c:UInt8):UInt8:=if 65<=c.toNat/\c.toNat<=90 then c+32 else c
def sml(c:UInt8):UInt8:=if isL c then sm c else 0
def oneOf(l:List UInt8):Option (List UInt8):=if l≠[]/\l.length<=24/\l.all isL=true then some (l.map sm)else none
def maskRow(g:List UInt8->Bool)(row:List UInt8):List UInt8:=if g ((row.map sm).take 24)then List.replicate row.length 42 else row
def maskGo(g:List UInt8->Bool):List UInt8->List UInt8->List UInt8
 | row,[]=>maskRow g row
 | row,c::r=>if isL c then maskGo g (row++[c]) r else maskRow g row++c::maskGo g [] r
def maskNum(g:List UInt8->Bool):List UInt8->List UInt8->Nat
 | row,[]=>if row≠[]/\g ((row.map sm).take 24)=true then 1 else 0
 | row,c::r=>if isL c then maskNum g (row++[c]) r else(if row≠[]/\g ((row.map sm).take 24)=true then 1 else 0)+maskNum g [] r
def wordsGo:List UInt8->List UInt8->List (List UInt8)
 | row,[]=>if row=[]then []else [(row.map sm).take 24]
 | row,c::r=>if isL c then wordsGo (row++[c]) r else(if row=[]then []else [(row.map sm).take 24])++wordsGo [] r
def wordsOf(l:List UInt8):List (List UInt8):=wordsGo [] l
def rowWs(row:List UInt8):List (List UInt8):=if row=[]then []else [(row.map sm).take 24]
def wordAt:List UInt8->List UInt8
 | []=>[]
 | c::s=>if isL c then sm c::wordAt s else []
def wrdGo:Bool->List UInt8->List (List UInt8)
 | _,[]=>[]
 | inw,c::s=>if isL c then(if inw then wrdGo true s else(wordAt (c::s)).take 24::wrdGo true s)else wrdGo false s
def putS:List (List UInt8)->List UInt8->List (List UInt8)
 | [],s=>[s]
 | t::l,s=>if t<s then t::putS l s else if t=s then t::l else s::t::l
abbrev RisS(l:List (List UInt8)):Prop:=l.Pairwise (·<·)
def putsS(l ws:List (List UInt8)):List (List UInt8):=ws.foldl putS l
def compS:List (List UInt8)->List (List UInt8)
 | []=>[]
 | [a]=>[a]
 | a::b::l=>if a=b then compS (b::l)else a::compS (b::l)
def termsL(text source:List UInt8):List (List UInt8):=putsS [] (wordsOf text++(wordsOf source).map fun w=>64::w)
def frameB(way:UInt8)(n:Nat)(body:List UInt8):List UInt8:=putB (([way]++numB n++numB body.length)++body)
def sameN:List UInt8->List UInt8->Nat
 | a::l,b::m=>if a=b then sameN l m+1 else 0
 | _,_=>0
theorem sameN_eq:∀ (a b:List UInt8) (n:Nat),n<=a.length->n<=b.length->(∀ i,i<n->a[i]?=b[i]?)->(n<a.length->n<b.length->a[n]?≠b[n]?)->sameN a b=n
 | [],b,n,h1,_,_,_=>by simp at h1;simp [sameN,h1]
 | a::l,[],n,_,h2,_,_=>by simp at h2;simp [sameN,h2]
 | a::l,b::m,n,h1,h2,h3,h4=>by
  rw [sameN]
  cases n with
  | zero=>
   have:=h4 (by simp) (by simp)
   rw [if_neg (by simpa using this)]
  | succ n=>
   have h0:=h3 0 (by omega)
   rw [if_pos (by simpa using h0),sameN_eq l m n (by simpa using h1) (by simpa using h2) (fun i hi=>by have:=h3 (i+1) (by omega);simpa using this) (fun i1 i2=>by have:=h4 (by simpa using i1) (by simpa using i2);simpa using this)]
def bktGo:List UInt8->List (List UInt8)->List UInt8
 | _,[]=>[]
 | was,s::l=>(numB (sameN was s)++textB (s.drop (sameN was s)))++bktGo s l
def bktB:List (List UInt8)->List UInt8
 | []=>[]
 | s::l=>textB s++bktGo s l
def mayS(was s:List UInt8):Bool:=decide (¬s=[]) && decide (s.length<=25) && decide (was<s)
def nxM(d:Cs)(part was:List UInt8)(first:Bool):Nat × Cs:=if first then(0,d)else d.int part was.length
def nxR(d:Cs)(part was:List UInt8)(first:Bool):List UInt8 × Cs:=(nxM d part was first).2.text part 25
def nxS(d:Cs)(part was:List UInt8)(first:Bool):List UInt8:=was.take (nxM d part was first).1++(nxR d part was first).1
def nxOk(d:Cs)(part was:List UInt8)(first:Bool):Bool:=
 decide (¬(nxR d part was first).1=[]) && mayS was (nxS d part was first) && (first || decide (sameN was (nxS d part was first)=(nxM d part was first).1))
def nxC(d:Cs)(part was:List UInt8)(first:Bool):Cs:=
 if(nxR d part was first).2.er=0/\nxOk d part was first=false then⟨(nxR d part was first).2.at_,2⟩else(nxR d part was first).2
def fillGo(part:List UInt8):Nat->Nat->Cs->List (List UInt8)->List (List UInt8) × Nat
 | 0,_,d,t=>(t,(d.fin part).er)
 | k+1,i,d,t=>
  if(nxC d part (t.getLastD []) (decide (i=0))).er=0 then fillGo part k (i+1) (nxC d part (t.getLastD []) (decide (i=0))) (t++[nxS d part (t.getLastD []) (decide (i=0))])
  else(t,(nxC d part (t.getLastD []) (decide (i=0))).er)
def szGo(b:List UInt8):Nat->Cs->List Nat->List Nat × Cs
 | 0,s,l=>(l,s)
 | k+1,s,l=>if s.er=0 then szGo b k (s.int b 2000).2 (l++[(s.int b 2000).1])else(l,s)
def dictGo(b:List UInt8)(size n:Nat):List Nat->Nat->Cs->List (List UInt8)->List (List UInt8) × Cs × Nat
 | [],_,s,t=>(t,s,s.er)
 | k::r,i,s,t=>
  if (s.take b k).2.er = 0 then
   (if (fillGo (s.take b k).1 (min size (n - i * size)) 0 ⟨0, 0⟩ t).2 = 0 then dictGo b size n r (i + 1) (s.take b k).2 (fillGo (s.take b k).1 (min size (n - i * size)) 0 ⟨0, 0⟩ t).1
    else ([], (s.take b k).2, (fillGo (s.take b k).1 (min size (n - i * size)) 0 ⟨0, 0⟩ t).2))
  else([],(s.take b k).2,(s.take b k).2.er)
def dictN(b:List UInt8):Nat × Cs:=(⟨0,0⟩:Cs).int b 1048576
def dictZ(size:Nat)(b:List UInt8):List Nat × Cs:=szGo b (((dictN b).1+size - 1) / size) (dictN b).2 []
def dictK(size:Nat)(b:List UInt8):List (List UInt8) × Cs × Nat:=dictGo b size (dictN b).1 (dictZ size b).1 0 (dictZ size b).2 []
def dictR(size:Nat)(b:List UInt8):List (List UInt8) × Nat × Nat:=
 if(dictK size b).2.2=0 then((dictK size b).1,(dictK size b).2.1.at_,0)else([],0,(dictK size b).2.2)
def listsGo(bound:Nat)(b:List UInt8):Nat->Nat->List (List Nat)->List (List Nat) × Nat
 | 0,a,ls=>if a<b.length then([],2)else(ls,0)
 | k+1,a,ls=>
  if (efR bound (b.drop a)).2.2 = 0 then
   (if(efR bound (b.drop a)).1=[]then([],2)else listsGo bound b k (a+(efR bound (b.drop a)).2.1) (ls++[(efR bound (b.drop a)).1]))
  else([],(efR bound (b.drop a)).2.2)
def postR(size bound:Nat)(b:List UInt8):List (List UInt8) × List (List Nat) × Nat:=
 if (dictR size b).2.2 = 0 then
  (if (listsGo bound (b.drop (dictR size b).2.1) (dictR size b).1.length 0 []).2 = 0 then ((dictR size b).1, (listsGo bound (b.drop (dictR size b).2.1) (dictR size b).1.length 0 []).1, 0)
   else ([], [], (listsGo bound (b.drop (dictR size b).2.1) (dictR size b).1.length 0 []).2))
 else([],[],(dictR size b).2.2)
def zagN(z:Nat):Nat:=if z % 2=1 then 18446744073709551615 - z / 2 else z / 2
theorem zagN_lt(z:Nat)(h:z<18446744073709551616):zagN z<18446744073709551616:=by unfold zagN;split <;> omega
def tmGo(b:List UInt8):Nat->Cs->Nat->List Nat->List Nat × Cs
 | 0,s,_,out=>(out,s)
 | k+1,s,was,out=>if s.er=0 then tmGo b k (s.num b).2 ((was+zagN (s.num b).1) % 18446744073709551616) (out++[(was+zagN (s.num b).1) % 18446744073709551616])else(out,s)
def lvX(b:List UInt8)(s:Cs):Nat:=(s.byte b).1
def lvK(b:List UInt8)(n:Nat)(s:Cs)(out:List UInt8):Nat × Cs:=(s.byte b).2.int b (n - out.length)
def lvC(b:List UInt8)(n:Nat)(s:Cs)(out:List UInt8):Cs:=
 if(lvK b n s out).2.er=0/\((lvK b n s out).1=0\/(0<out.length/\(out.getLastD 0).toNat=lvX b s))then⟨(lvK b n s out).2.at_,2⟩else(lvK b n s out).2
def lvlGo(b:List UInt8)(n:Nat):Nat->Cs->List UInt8->List UInt8 × Cs
 | 0,s,out=>(out,s)
 | f+1,s,out=>if out.length<n/\s.er=0 then lvlGo b n f (lvC b n s out) (out++List.replicate (lvK b n s out).1 (UInt8.ofNat (lvX b s)))else(out,s)
def colT(n:Nat)(b:List UInt8):List Nat × Cs:=tmGo b n ⟨0,0⟩ 0 []
def colV(n:Nat)(b:List UInt8):List UInt8 × Cs:=lvlGo b n n (colT n b).2 []
def colR(n:Nat)(b:List UInt8):List Nat × List UInt8 × Nat × Nat:=
 if(colV n b).2.er=0 then((colT n b).1,(colV n b).1,(colV n b).2.at_,0)else([],[],0,(colV n b).2.er)
def dirGo(b:List UInt8)(recs:Nat):Nat->Cs->List Nat->List Nat->List Nat × List Nat × Cs
 | 0,s,cs,zs=>(cs,zs,s)
 | k+1,s,cs,zs=>if s.er=0 then dirGo b recs k ((s.int b recs).2.int b 8388608).2 (cs++[(s.int b recs).1]) (zs++[((s.int b recs).2.int b 8388608).1])else(cs,zs,s)
def dirN(b:List UInt8):Nat × Cs:=(⟨0,0⟩:Cs).int b 20000
def dirK(b:List UInt8):Nat × Cs:=(dirN b).2.int b (dirN b).1
def dirG(b:List UInt8):List Nat × List Nat × Cs:=dirGo b (dirN b).1 (dirK b).1 (dirK b).2 [] []
def dirP(b:List UInt8):Nat × Cs:=(dirG b).2.2.int b 8388608
def dirQ(b:List UInt8):Nat × Cs:=(dirP b).2.int b 8388608
def dirE(b:List UInt8)(room:Nat):Nat:=
 if ((dirQ b).2.fin b).er = 0 then
  (if 0∈(dirG b).1\/¬(dirG b).1.sum=(dirN b).1\/¬(dirG b).2.1.sum+(dirP b).1+(dirQ b).1=room then 2 else 0)
 else((dirQ b).2.fin b).er
def cutsL:List Nat->List UInt8->List (List UInt8)
 | [],_=>[]
 | z::zs,b=>b.take z::cutsL zs (b.drop z)
structure Bod where
 counts:List Nat
 sizes:List Nat
 cols:Nat
 index:Nat
 frames:List (List UInt8)
 times:List Nat
 levels:List UInt8
 terms:List (List UInt8)
 lists:List (List Nat)
def ftK(b:List UInt8):Nat:=leN (b.drop (b.length - 4))
def ftD(b:List UInt8):List UInt8:=(b.take (b.length - 4)).drop (b.length - 4 - ftK b)
def ftE(b:List UInt8):Nat:=if b.length<4 then 1 else if b.length - 4<ftK b then 1 else errCut (ftD b)
def bdRest(b:List UInt8):List UInt8:=b.take (b.length - 4 - ftK b)
def bdDir(b:List UInt8):List UInt8:=cutB (ftD b)
def bdAt(b:List UInt8):Nat:=(dirG (bdDir b)).2.1.sum
def bdCol(b:List UInt8):List UInt8:=((bdRest b).drop (bdAt b)).take (dirP (bdDir b)).1
def bdIdx(b:List UInt8):List UInt8:=(bdRest b).drop (bdAt b+(dirP (bdDir b)).1)
def colE(n:Nat)(c:List UInt8):Nat:=
 if errCut c=0 then(if(colR n (cutB c)).2.2.2=0 then(if(colR n (cutB c)).2.2.1<(cutB c).length then 2 else 0)else(colR n (cutB c)).2.2.2)else errCut c
def opE(bu:Nat)(b:List UInt8):Nat:=
 if ftE b = 0 then
  (if dirE (bdDir b) (bdRest b).length = 0 then
   (if colE (dirN (bdDir b)).1 (bdCol b) = 0 then
    (if errCut (bdIdx b) = 0 then (postR bu (dirN (bdDir b)).1 (cutB (bdIdx b))).2.2 else errCut (bdIdx b))
    else colE (dirN (bdDir b)).1 (bdCol b))
   else dirE (bdDir b) (bdRest b).length)
 else ftE b
def opB(bu:Nat)(b:List UInt8):Bod:=
 ⟨(dirG (bdDir b)).1, (dirG (bdDir b)).2.1, (dirP (bdDir b)).1, (dirQ (bdDir b)).1, cutsL (dirG (bdDir b)).2.1 (bdRest b),
  (colR (dirN (bdDir b)).1 (cutB (bdCol b))).1, (colR (dirN (bdDir b)).1 (cutB (bdCol b))).2.1,
  (postR bu (dirN (bdDir b)).1 (cutB (bdIdx b))).1, (postR bu (dirN (bdDir b)).1 (cutB (bdIdx b))).2.1⟩
end Go.Fk
