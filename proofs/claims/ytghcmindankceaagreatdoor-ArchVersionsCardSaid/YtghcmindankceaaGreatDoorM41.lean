/- Parts of the proof of ArchVersions: Spec15 SpecWd SpecV SpecJ3 SpecJa Spec28. -/
import Derived.WalkKit
import Derived.Test.YtghcmindankceaaGreatDoorM08
import Derived.Test.YtghcmindankceaaGreatDoorM06
set_option linter.unusedVariables false
set_option linter.unusedSectionVars false
set_option linter.unusedSimpArgs false
set_option maxHeartbeats 8000000
namespace Go.Fk
def isL(c:UInt8):Bool:=decide (65<=c.toNat/\c.toNat<=90) || decide (97<=c.toNat/\c.toNat<=122) || decide (48<=c.toNat/\c.toNat<=57)
def sm(c:UInt8):UInt8:=if 65<=c.toNat/\c.toNat<=90 then c+32 else c
def sml(c:UInt8):UInt8:=if isL c then sm c else 0
def oneOf(l:List UInt8):Option (List UInt8):=if l≠[]/\l.length<=24/\l.all isL=true then some (l.map sm)else none
def maskRow(g:List UInt8->Bool)(row:List UInt8):List UInt8:=if g ((row.map sm).take 24)then List.replicate row.length 42 else row
def maskGo(g:List UInt8->Bool):List UInt8->List UInt8->List UInt8
 | row,[]=>maskRow g row
 | row,c::r=>if isL c then maskGo g (row++[c]) r else maskRow g row++c::maskGo g [] r
def maskNum(g:List UInt8->Bool):List UInt8->List UInt8->Nat
 | row,[]=>if row≠[]/\g ((row.map sm).take 24)=true then 1 else 0
 | row,c::r=>if isL c then maskNum g (row++[c]) r else(if row≠[]/\g ((row.map sm).take 24)=true then 1 else 0)+maskNum g [] r
def wordsGo:List UInt8->List UInt8->List (List UInt8)
 | row,[]=>if row=[]then []else [(row.map sm).take 24]
 | row,c::r=>if isL c then wordsGo (row++[c]) r else(if row=[]then []else [(row.map sm).take 24])++wordsGo [] r
def wordsOf(l:List UInt8):List (List UInt8):=wordsGo [] l
def rowWs(row:List UInt8):List (List UInt8):=if row=[]then []else [(row.map sm).take 24]
def wordAt:List UInt8->List UInt8
 | []=>[]
 | c::s=>if isL c then sm c::wordAt s else []
def wrdGo:Bool->List UInt8->List (List UInt8)
 | _,[]=>[]
 | inw,c::s=>if isL c then(if inw then wrdGo true s else(wordAt (c::s)).take 24::wrdGo true s)else wrdGo false s
def putS:List (List UInt8)->List UInt8->List (List UInt8)
 | [],s=>[s]
 | t::l,s=>if t<s then t::putS l s else if t=s then t::l else s::t::l
abbrev RisS(l:List (List UInt8)):Prop:=l.Pairwise (·<·)
def putsS(l ws:List (List UInt8)):List (List UInt8):=ws.foldl putS l
def compS:List (List UInt8)->List (List UInt8)
 | []=>[]
 | [a]=>[a]
 | a::b::l=>if a=b then compS (b::l)else a::compS (b::l)
def termsL(text source:List UInt8):List (List UInt8):=putsS [] (wordsOf text++(wordsOf source).map fun w=>64::w)
def frameB(way:UInt8)(n:Nat)(body:List UInt8):List UInt8:=putB (([way]++numB n++numB body.length)++body)
theorem frameB_len(way:UInt8)(n:Nat)(body:List UInt8)(h1:n<18446744073709551616)(h2:body.length<18446744073709551616):(frameB way n body).length<=body.length+25:=by
 have i1:=numB_le n h1
 have i2:=numB_le body.length h2
 unfold frameB putB
 simp only [List.length_append,List.length_cons,List.length_nil]
 omega
def sameN:List UInt8->List UInt8->Nat
 | a::l,b::m=>if a=b then sameN l m+1 else 0
 | _,_=>0
def bktGo:List UInt8->List (List UInt8)->List UInt8
 | _,[]=>[]
 | was,s::l=>(numB (sameN was s)++textB (s.drop (sameN was s)))++bktGo s l
def bktB:List (List UInt8)->List UInt8
 | []=>[]
 | s::l=>textB s++bktGo s l
theorem textB_len(s:List UInt8)(h:s.length<18446744073709551616):(textB s).length<=s.length+10:=by
 have:=numB_le s.length h
 unfold textB;rw [List.length_append];omega
def mayS(was s:List UInt8):Bool:=decide (¬s=[]) && decide (s.length<=25) && decide (was<s)
def nxM(d:Cs)(part was:List UInt8)(first:Bool):Nat × Cs:=if first then(0,d)else d.int part was.length
def nxR(d:Cs)(part was:List UInt8)(first:Bool):List UInt8 × Cs:=(nxM d part was first).2.text part 25
def nxS(d:Cs)(part was:List UInt8)(first:Bool):List UInt8:=was.take (nxM d part was first).1++(nxR d part was first).1
def nxOk(d:Cs)(part was:List UInt8)(first:Bool):Bool:=
 decide (¬(nxR d part was first).1=[]) && mayS was (nxS d part was first) && (first || decide (sameN was (nxS d part was first)=(nxM d part was first).1))
def nxC(d:Cs)(part was:List UInt8)(first:Bool):Cs:=
 if(nxR d part was first).2.er=0/\nxOk d part was first=false then⟨(nxR d part was first).2.at_,2⟩else(nxR d part was first).2
def fillGo(part:List UInt8):Nat->Nat->Cs->List (List UInt8)->List (List UInt8) × Nat
 | 0,_,d,t=>(t,(d.fin part).er)
 | k+1,i,d,t=>
  if(nxC d part (t.getLastD []) (decide (i=0))).er=0 then fillGo part k (i+1) (nxC d part (t.getLastD []) (decide (i=0))) (t++[nxS d part (t.getLastD []) (decide (i=0))])
  else(t,(nxC d part (t.getLastD []) (decide (i=0))).er)
def szGo(b:List UInt8):Nat->Cs->List Nat->List Nat × Cs
 | 0,s,l=>(l,s)
 | k+1,s,l=>if s.er=0 then szGo b k (s.int b 2000).2 (l++[(s.int b 2000).1])else(l,s)
def dictGo(b:List UInt8)(size n:Nat):List Nat->Nat->Cs->List (List UInt8)->List (List UInt8) × Cs × Nat
 | [],_,s,t=>(t,s,s.er)
 | k::r,i,s,t=>
  if (s.take b k).2.er = 0 then
   (if (fillGo (s.take b k).1 (min size (n - i * size)) 0 ⟨0, 0⟩ t).2 = 0 then dictGo b size n r (i + 1) (s.take b k).2 (fillGo (s.take b k).1 (min size (n - i * size)) 0 ⟨0, 0⟩ t).1
    else ([], (s.take b k).2, (fillGo (s.take b k).1 (min size (n - i * size)) 0 ⟨0, 0⟩ t).2))
  else([],(s.take b k).2,(s.take b k).2.er)
def dictN(b:List UInt8):Nat × Cs:=(⟨0,0⟩:Cs).int b 1048576
def dictZ(size:Nat)(b:List UInt8):List Nat × Cs:=szGo b (((dictN b).1+size - 1) / size) (dictN b).2 []
def dictK(size:Nat)(b:List UInt8):List (List UInt8) × Cs × Nat:=dictGo b size (dictN b).1 (dictZ size b).1 0 (dictZ size b).2 []
def dictR(size:Nat)(b:List UInt8):List (List UInt8) × Nat × Nat:=
 if(dictK size b).2.2=0 then((dictK size b).1,(dictK size b).2.1.at_,0)else([],0,(dictK size b).2.2)
def listsGo(bound:Nat)(b:List UInt8):Nat->Nat->List (List Nat)->List (List Nat) × Nat
 | 0,a,ls=>if a<b.length then([],2)else(ls,0)
 | k+1,a,ls=>
  if (efR bound (b.drop a)).2.2 = 0 then
   (if(efR bound (b.drop a)).1=[]then([],2)else listsGo bound b k (a+(efR bound (b.drop a)).2.1) (ls++[(efR bound (b.drop a)).1]))
  else([],(efR bound (b.drop a)).2.2)
def postR(size bound:Nat)(b:List UInt8):List (List UInt8) × List (List Nat) × Nat:=
 if (dictR size b).2.2 = 0 then
  (if (listsGo bound (b.drop (dictR size b).2.1) (dictR size b).1.length 0 []).2 = 0 then ((dictR size b).1, (listsGo bound (b.drop (dictR size b).2.1) (dictR size b).1.length 0 []).1, 0)
   else ([], [], (listsGo bound (b.drop (dictR size b).2.1) (dictR size b).1.length 0 []).2))
 else([],[],(dictR size b).2.2)
def zagN(z:Nat):Nat:=if z % 2=1 then 18446744073709551615 - z / 2 else z / 2
def tmGo(b:List UInt8):Nat->Cs->Nat->List Nat->List Nat × Cs
 | 0,s,_,out=>(out,s)
 | k+1,s,was,out=>if s.er=0 then tmGo b k (s.num b).2 ((was+zagN (s.num b).1) % 18446744073709551616) (out++[(was+zagN (s.num b).1) % 18446744073709551616])else(out,s)
def lvX(b:List UInt8)(s:Cs):Nat:=(s.byte b).1
def lvK(b:List UInt8)(n:Nat)(s:Cs)(out:List UInt8):Nat × Cs:=(s.byte b).2.int b (n - out.length)
def lvC(b:List UInt8)(n:Nat)(s:Cs)(out:List UInt8):Cs:=
 if(lvK b n s out).2.er=0/\((lvK b n s out).1=0\/(0<out.length/\(out.getLastD 0).toNat=lvX b s))then⟨(lvK b n s out).2.at_,2⟩else(lvK b n s out).2
def lvlGo(b:List UInt8)(n:Nat):Nat->Cs->List UInt8->List UInt8 × Cs
 | 0,s,out=>(out,s)
 | f+1,s,out=>if out.length<n/\s.er=0 then lvlGo b n f (lvC b n s out) (out++List.replicate (lvK b n s out).1 (UInt8.ofNat (lvX b s)))else(out,s)
def colT(n:Nat)(b:List UInt8):List Nat × Cs:=tmGo b n ⟨0,0⟩ 0 []
def colV(n:Nat)(b:List UInt8):List UInt8 × Cs:=lvlGo b n n (colT n b).2 []
def colR(n:Nat)(b:List UInt8):List Nat × List UInt8 × Nat × Nat:=
 if(colV n b).2.er=0 then((colT n b).1,(colV n b).1,(colV n b).2.at_,0)else([],[],0,(colV n b).2.er)
def dirGo(b:List UInt8)(recs:Nat):Nat->Cs->List Nat->List Nat->List Nat × List Nat × Cs
 | 0,s,cs,zs=>(cs,zs,s)
 | k+1,s,cs,zs=>if s.er=0 then dirGo b recs k ((s.int b recs).2.int b 8388608).2 (cs++[(s.int b recs).1]) (zs++[((s.int b recs).2.int b 8388608).1])else(cs,zs,s)
def dirN(b:List UInt8):Nat × Cs:=(⟨0,0⟩:Cs).int b 20000
def dirK(b:List UInt8):Nat × Cs:=(dirN b).2.int b (dirN b).1
def dirG(b:List UInt8):List Nat × List Nat × Cs:=dirGo b (dirN b).1 (dirK b).1 (dirK b).2 [] []
def dirP(b:List UInt8):Nat × Cs:=(dirG b).2.2.int b 8388608
def dirQ(b:List UInt8):Nat × Cs:=(dirP b).2.int b 8388608
def dirE(b:List UInt8)(room:Nat):Nat:=
 if ((dirQ b).2.fin b).er = 0 then
  (if 0∈(dirG b).1\/¬(dirG b).1.sum=(dirN b).1\/¬(dirG b).2.1.sum+(dirP b).1+(dirQ b).1=room then 2 else 0)
 else((dirQ b).2.fin b).er
def cutsL:List Nat->List UInt8->List (List UInt8)
 | [],_=>[]
 | z::zs,b=>b.take z::cutsL zs (b.drop z)
structure Bod where
 counts:List Nat
 sizes:List Nat
 cols:Nat
 index:Nat
 frames:List (List UInt8)
 times:List Nat
 levels:List UInt8
 terms:List (List UInt8)
 lists:List (List Nat)
def ftK(b:List UInt8):Nat:=leN (b.drop (b.length - 4))
def ftD(b:List UInt8):List UInt8:=(b.take (b.length - 4)).drop (b.length - 4 - ftK b)
def ftE(b:List UInt8):Nat:=if b.length<4 then 1 else if b.length - 4<ftK b then 1 else errCut (ftD b)
def bdRest(b:List UInt8):List UInt8:=b.take (b.length - 4 - ftK b)
def bdDir(b:List UInt8):List UInt8:=cutB (ftD b)
def bdAt(b:List UInt8):Nat:=(dirG (bdDir b)).2.1.sum
def bdCol(b:List UInt8):List UInt8:=((bdRest b).drop (bdAt b)).take (dirP (bdDir b)).1
def bdIdx(b:List UInt8):List UInt8:=(bdRest b).drop (bdAt b+(dirP (bdDir b)).1)
def colE(n:Nat)(c:List UInt8):Nat:=
 if errCut c=0 then(if(colR n (cutB c)).2.2.2=0 then(if(colR n (cutB c)).2.2.1<(cutB c).length then 2 else 0)else(colR n (cutB c)).2.2.2)else errCut c
def opE(bu:Nat)(b:List UInt8):Nat:=
 if ftE b = 0 then
  (if dirE (bdDir b) (bdRest b).length = 0 then
   (if colE (dirN (bdDir b)).1 (bdCol b) = 0 then
    (if errCut (bdIdx b) = 0 then (postR bu (dirN (bdDir b)).1 (cutB (bdIdx b))).2.2 else errCut (bdIdx b))
    else colE (dirN (bdDir b)).1 (bdCol b))
   else dirE (bdDir b) (bdRest b).length)
 else ftE b
def opB(bu:Nat)(b:List UInt8):Bod:=
 ⟨(dirG (bdDir b)).1, (dirG (bdDir b)).2.1, (dirP (bdDir b)).1, (dirQ (bdDir b)).1, cutsL (dirG (bdDir b)).2.1 (bdRest b),
  (colR (dirN (bdDir b)).1 (cutB (bdCol b))).1, (colR (dirN (bdDir b)).1 (cutB (bdCol b))).2.1,
  (postR bu (dirN (bdDir b)).1 (cutB (bdIdx b))).1, (postR bu (dirN (bdDir b)).1 (cutB (bdIdx b))).2.1⟩
def lnGo(r:List UInt8)(n:Nat):Nat->Nat->List UInt8->Bool->List UInt8 × Nat × Nat
 | 0,a,out,_=>(out,a,0)
 | f+1,a,out,sh=>
  if n<=out.length then(out,a,0)
  else if 8*r.length<a+4 then([],a,1)
  else if 0<numAt r a 4 then lnGo r n f (a+4) (out++[UInt8.ofNat (numAt r a 4)]) false
  else if 8*r.length<a+4+6 then([],a,1)
  else if sh=true\/n - out.length<=numAt r (a+4) 6 then([],a,7)
  else lnGo r n f (a+4+6) (out++List.replicate (numAt r (a+4) 6+1) 0) (decide (numAt r (a+4) 6+1<64))
def lnR(r:List UInt8)(n a:Nat):List UInt8 × Nat × Nat:=
 if(lnGo r n n a [] false).2.2=0 then(if okK (lnGo r n n a [] false).1 then lnGo r n n a [] false else([],a,7))else lnGo r n n a [] false
def thereK(r:List UInt8)(a:Nat):Nat:=min 15 (8*r.length - a)
def getS(lens r:List UInt8)(a:Nat):Nat × Nat × Nat:=
 match hitS lens (numAt r a 15) (thereK r a)with
 | some s=>(s,a+symL lens s,0)
 | none=>(0,a,if partK lens (numAt r a (thereK r a)) (thereK r a)then 1 else 7)
def mtR(fars r:List UInt8)(sym a:Nat):Tok × Nat × Nat:=
 if 8*r.length<a+(sym - 257)then(⟨0,0,0⟩,a,1)
 else if (getS fars r (a + (sym - 257))).2.2 = 0 then
  (if 8 * r.length < (getS fars r (a + (sym - 257))).2.1 + (getS fars r (a + (sym - 257))).1 then (⟨0, 0, 0⟩, a, 1)
   else (⟨0, 2 + 2 ^ (sym - 257) + numAt r a (sym - 257), 2 ^ (getS fars r (a + (sym - 257))).1 + numAt r (getS fars r (a + (sym - 257))).2.1 (getS fars r (a + (sym - 257))).1⟩,
    (getS fars r (a + (sym - 257))).2.1 + (getS fars r (a + (sym - 257))).1, 0))
 else(⟨0,0,0⟩,a,(getS fars r (a+(sym - 257))).2.2)
def gives(t:Tok):Nat:=max 1 t.len
def tkGo(syms fars r:List UInt8):Nat->Nat->Nat->List Tok->List Tok × Nat × Nat
 | 0,_,a,out=>(out,a,0)
 | f+1,most,a,out=>
  if (getS syms r a).2.2 = 0 then
   (if (getS syms r a).1 = 256 then (out, (getS syms r a).2.1, 0)
    else if (getS syms r a).1 < 256 then
     (if most < 1 then ([], a, 6) else tkGo syms fars r f (most - 1) (getS syms r a).2.1 (out ++ [⟨UInt8.ofNat (getS syms r a).1, 0, 0⟩]))
    else if (mtR fars r (getS syms r a).1 (getS syms r a).2.1).2.2 = 0 then
     (if most < gives (mtR fars r (getS syms r a).1 (getS syms r a).2.1).1 then ([], a, 6)
      else tkGo syms fars r f (most - gives (mtR fars r (getS syms r a).1 (getS syms r a).2.1).1) (mtR fars r (getS syms r a).1 (getS syms r a).2.1).2.1 (out ++ [(mtR fars r (getS syms r a).1 (getS syms r a).2.1).1]))
    else ([], a, (mtR fars r (getS syms r a).1 (getS syms r a).2.1).2.2))
  else([],a,(getS syms r a).2.2)
def padR(r:List UInt8)(a:Nat):Bool:=decide (8*r.length<a+8) && decide (numAt r a (8*r.length - a)=0)
def tksS(r:List UInt8):List UInt8 × Nat × Nat:=lnR r 265 0
def tksF(r:List UInt8):List UInt8 × Nat × Nat:=lnR r 12 (tksS r).2.1
def tksG(r:List UInt8)(most:Nat):List Tok × Nat × Nat:=tkGo (tksS r).1 (tksF r).1 r (8*r.length+1) most (tksF r).2.1 []
def tksR(r:List UInt8)(most:Nat):List Tok × Nat:=
 if (tksS r).2.2 = 0 then
  (if (tksF r).2.2 = 0 then
   (if (tksG r most).2.2 = 0 then (if padR r (tksG r most).2.1 then ((tksG r most).1, 0) else ([], 2)) else ([], (tksG r most).2.2))
   else ([], (tksF r).2.2))
 else([],(tksS r).2.2)
def cpyK(d:Nat):Nat->List UInt8->List UInt8
 | 0,out=>out
 | n+1,out=>cpyK d n (out++[out.getD (out.length - d) 0])
def plGo(most:Nat):List Tok->List UInt8->List UInt8 × Nat
 | [],out=>(out,0)
 | t::l,out=>
  if mayT t=false then([],7)
  else if out.length<t.dist then([],8)
  else if most<out.length+gives t then([],6)
  else if t.len=0 then plGo most l (out++[t.lit])else plGo most l (cpyK t.dist t.len out)
def bkW(b:List UInt8):Nat × Cs:=(⟨0,0⟩:Cs).byte b
def bkC(b:List UInt8):Cs:=if 1<(bkW b).1 then(bkW b).2.fail 2 else(bkW b).2
def bkN(b:List UInt8):Nat × Cs:=(bkC b).int b 32768
def bkP(b:List UInt8):Nat × Cs:=(bkN b).2.int b 32768
def bkD(b:List UInt8):Cs:=if 1032*(bkP b).1+64<(bkN b).1 then(bkP b).2.fail 6 else(bkP b).2
def bkB(b:List UInt8):List UInt8 × Cs:=(bkD b).take b (bkP b).1
def bkT(b:List UInt8):List UInt8 × Cs:=(bkB b).2.take b 4
def bkE(b:List UInt8):Nat:=if(bkT b).2.er=0 then errCut (b.take (bkT b).2.at_)else(bkT b).2.er
def unsqR(n:Nat)(body:List UInt8):List UInt8 × Nat:=
 if (tksR body n).2 = 0 then
  (if(plGo n (tksR body n).1 []).2=0 then(if(plGo n (tksR body n).1 []).1.length<n then([],2)else((plGo n (tksR body n).1 []).1,0))else([],(plGo n (tksR body n).1 []).2))
 else([],(tksR body n).2)
def bkO(b:List UInt8):List UInt8 × Nat:=
 if(bkW b).1=0 then(if(bkN b).1=(bkP b).1 then((bkB b).1,0)else([],2))else unsqR (bkN b).1 (bkB b).1
def blkR(b:List UInt8):List UInt8 × Nat × Nat:=
 if bkE b=0 then(if(bkO b).2=0 then((bkO b).1,(bkT b).2.at_,0)else([],0,(bkO b).2))else([],0,bkE b)
def rcGo(b:List UInt8):Nat->Cs->List (List UInt8 × List UInt8)->List (List UInt8 × List UInt8) × Nat
 | 0,s,out=>(out,s.er)
 | f+1,s,out=>
  if b.length<=s.at_ then(out,0)
  else if((s.text b 4000).2.text b 4000).2.er=0 then rcGo b f ((s.text b 4000).2.text b 4000).2 (out++[((s.text b 4000).1,((s.text b 4000).2.text b 4000).1)])
  else([],((s.text b 4000).2.text b 4000).2.er)
def rcsR(b:List UInt8):List (List UInt8 × List UInt8) × Nat:=rcGo b (b.length+1) ⟨0,0⟩ []
def termB(s:List UInt8):Bool:=
 match s with
 | []=>false
 | c::r=>if c=64 then oneOf r == some r else oneOf s == some s
structure Stp where
 op:Int
 n:Int
 word:List UInt8
 fa:UInt64
 fb:UInt64
 deriving DecidableEq
def rightB(s:Stp):Bool:=
 if s.op=1\/s.op=2 then decide (s.n=0/\(s.fa.toNat:Int)=0/\(s.fb.toNat:Int)=0) && termB s.word
 else if s.op=3\/s.op=4 then decide (s.n=0/\s.word=[])
 else if s.op=6\/s.op=7 then decide (s.word=[]/\(s.fa.toNat:Int)=0/\(s.fb.toNat:Int)=0/\2<=s.n)
 else decide (s.op=5/\s.word=[]/\(s.fa.toNat:Int)=0/\(s.fb.toNat:Int)=0/\s.n=0)
def takesZ(s:Stp):Int:=if s.op=5 then 1 else if s.op=6\/s.op=7 then s.n else 0
def takesR(s:Stp):Int:=if s.op=5 then 1 else s.n
def stacks:List Nat->List Stp->Option (List Nat)
 | st,[]=>some st
 | st,s::r=>if rightB s=false\/(st.length:Int)<takesZ s then none else stacks (pushD st (takesZ s).toNat) r
def depthE:Option (List Nat)->Except Int Nat
 | some [d]=>.ok d
 | _=>.error 10
def depthQ(q:List Stp):Except Int Nat:=if 1000<q.length then .error 6 else depthE (stacks [] q)
def checkQ(q:List Stp):Int:=
 match depthQ q with
 | .error n=>n
 | .ok d=>if 64<d then 11 else 0
def stepN(op:Int)(n:Nat):Stp:=⟨op,n,[],0,0⟩
def joinL(op:Int)(ls:List (List Stp)):List Stp:=ls.flatten++if 1<ls.length then [stepN op ls.length]else []
def smallO(s:List UInt8):Option (List UInt8):=
 match s with
 | []=>none
 | c::r=>if c=64 then(oneOf r).map fun w=>64::w else oneOf s
def leafL(op:Int)(s:List UInt8):List Stp:=
 match smallO s with
 | some w=>[⟨op,0,w,0,0⟩]
 | none=>[]
def spanS(op:Int)(a b:UInt64):Stp:=⟨op,0,[],a,b⟩
end Go.Fk
