/- Parts of the proof of ArchOne: Spec15 SpecWd SpecV SpecJ3 SpecJa SpecJ4 SpecJb SpecJc SpecJd SpecJ5 SpecP SpecJ6 SpecJe SpecJf. -/
import Derived.WalkKit
import Derived.Test.YtdagmoonnbnceaaGreatDoorM07
import Derived.Test.YtdagmoonnbnceaaGreatDoorM06
set_option linter.unusedVariables false
set_option linter.unusedSectionVars false
set_option linter.unusedSimpArgs false
set_option maxHeartbeats 8000000
namespace Go.Fk
def isL(c:UInt8):Bool:=decide (65<=c.toNat/\c.toNat<=90) || decide (97<=c.toNat/\c.toNat<=122) || decide (48<=c.toNat/\c.toNat<=57)
def sm(c:UInt8):UInt8:=if 65<=c.toNat/\c.toNat<=90 then c+32 else c
def sml(c:UInt8):UInt8:=if isL c then sm c else 0
def oneOf(l:List UInt8):Option (List UInt8):=if l≠[]/\l.length<=24/\l.all isL=true then some (l.map sm)else none
theorem isL_iff(c:UInt8):isL c=true↔(65<=c.toNat/\c.toNat<=90)\/(97<=c.toNat/\c.toNat<=122)\/(48<=c.toNat/\c.toNat<=57):=by
 simp only [isL,Bool.or_eq_true,decide_eq_true_eq];omega
theorem isL_not(c:UInt8):isL c=false↔¬((65<=c.toNat/\c.toNat<=90)\/(97<=c.toNat/\c.toNat<=122)\/(48<=c.toNat/\c.toNat<=57)):=by
 rw [<- isL_iff];simp
theorem sm_toNat(c:UInt8):(sm c).toNat=if 65<=c.toNat/\c.toNat<=90 then c.toNat+32 else c.toNat:=by
 unfold sm;split
 · rw [UInt8.toNat_add];have:(32:UInt8).toNat=32:=rfl;rw [this];omega
 · rfl
def maskRow(g:List UInt8->Bool)(row:List UInt8):List UInt8:=if g ((row.map sm).take 24)then List.replicate row.length 42 else row
def maskGo(g:List UInt8->Bool):List UInt8->List UInt8->List UInt8
 | row,[]=>maskRow g row
 | row,c::r=>if isL c then maskGo g (row++[c]) r else maskRow g row++c::maskGo g [] r
def maskNum(g:List UInt8->Bool):List UInt8->List UInt8->Nat
 | row,[]=>if row≠[]/\g ((row.map sm).take 24)=true then 1 else 0
 | row,c::r=>if isL c then maskNum g (row++[c]) r else(if row≠[]/\g ((row.map sm).take 24)=true then 1 else 0)+maskNum g [] r
def wordsGo:List UInt8->List UInt8->List (List UInt8)
 | row,[]=>if row=[]then []else [(row.map sm).take 24]
 | row,c::r=>if isL c then wordsGo (row++[c]) r else(if row=[]then []else [(row.map sm).take 24])++wordsGo [] r
def wordsOf(l:List UInt8):List (List UInt8):=wordsGo [] l
def rowWs(row:List UInt8):List (List UInt8):=if row=[]then []else [(row.map sm).take 24]
def wordAt:List UInt8->List UInt8
 | []=>[]
 | c::s=>if isL c then sm c::wordAt s else []
def wrdGo:Bool->List UInt8->List (List UInt8)
 | _,[]=>[]
 | inw,c::s=>if isL c then(if inw then wrdGo true s else(wordAt (c::s)).take 24::wrdGo true s)else wrdGo false s
theorem words_wrd(s:List UInt8):wordsGo [] s=wrdGo false s/\∀ row,row≠[]->wordsGo row s=(row.map sm++wordAt s).take 24::wrdGo true s:=by
 induction s with
 | nil=>
  refine⟨by simp [wordsGo,wrdGo],fun row h=>?_⟩
  simp [wordsGo,h,wrdGo,wordAt]
 | cons c s ih=>
  by_cases h0:isL c=true
  · have e:wordAt (c::s)=sm c::wordAt s:=by rw [wordAt,if_pos h0]
    refine⟨?_,fun row h=>?_⟩
    · rw [wordsGo,if_pos h0,wrdGo,if_pos h0,e,ih.2 _ (by simp)]
      simp
    · rw [wordsGo,if_pos h0,wrdGo,if_pos h0,e,ih.2 _ (by simp)]
      simp
  · refine⟨by simp [wordsGo,wrdGo,h0,ih.1],fun row h=>?_⟩
    simp [wordsGo,h,wrdGo,wordAt,h0,ih.1]
theorem wordsOf_wrd(s:List UInt8):wordsOf s=wrdGo false s:=(words_wrd s).1
theorem wrdGo_len(s:List UInt8):∀ b,(wrdGo b s).length<=s.length:=by
 induction s with
 | nil=>intro b;simp [wrdGo]
 | cons c s ih=>
  intro b
  rw [wrdGo]
  have h1:=ih false
  have h2:=ih true
  split
  · split <;> simp <;> omega
  · simp;omega
theorem wrdGo_each(s:List UInt8):∀ b,∀ w∈wrdGo b s,1<=w.length/\w.length<=24:=by
 induction s with
 | nil=>intro b w h;simp [wrdGo]at h
 | cons c s ih=>
  intro b w h
  rw [wrdGo]at h
  split at h
  · rename_i h0
    split at h
    · exact ih true w h
    · rcases List.mem_cons.1 h with rfl | h
      · rw [wordAt,if_pos h0,List.take_succ_cons,List.length_cons,List.length_take];omega
      · exact ih true w h
  · exact ih false w h
theorem wordsOf_each(s:List UInt8):∀ w∈wordsOf s,1<=w.length/\w.length<=24:=by rw [wordsOf_wrd];exact wrdGo_each s false
theorem wordsOf_len(s:List UInt8):(wordsOf s).length<=s.length:=by rw [wordsOf_wrd];exact wrdGo_len s false
theorem ltS_or_eq{a b:List UInt8}(h:a<=b):a<b\/a=b:=by
 by_cases h1:a<b
 · exact .inl h1
 · exact .inr (List.le_antisymm h (List.not_lt.1 h1))
def putS:List (List UInt8)->List UInt8->List (List UInt8)
 | [],s=>[s]
 | t::l,s=>if t<s then t::putS l s else if t=s then t::l else s::t::l
abbrev RisS(l:List (List UInt8)):Prop:=l.Pairwise (·<·)
theorem putS_mem(l:List (List UInt8))(s x:List UInt8):x∈putS l s↔x∈l\/x=s:=by
 induction l with
 | nil=>simp [putS]
 | cons t l ih=>
  rw [putS]
  split
  · simp [ih,or_assoc]
  · split
    · rename_i h;subst h;simp;intro e;exact .inl e
    · simp;constructor
      · rintro(h | h | h) <;> simp [h]
      · rintro((h | h) | h) <;> simp [h]
theorem putS_ris(l:List (List UInt8))(s:List UInt8)(h:RisS l):RisS (putS l s):=by
 induction l with
 | nil=>simp [putS]
 | cons t l ih=>
  obtain⟨h1,h2⟩:=List.pairwise_cons.1 h
  rw [putS]
  split
  · rename_i hlt
    refine List.pairwise_cons.2 ⟨fun x hx=>?_,ih h2⟩
    rcases(putS_mem l s x).1 hx with hx | rfl
    · exact h1 x hx
    · exact hlt
  · split
    · exact h
    · rename_i hn hne
      have hst:s<t:=by
       rcases ltS_or_eq (List.not_lt.1 hn)with h | h
       · exact h
       · exact absurd h.symm hne
      refine List.pairwise_cons.2 ⟨fun x hx=>?_,h⟩
      rcases List.mem_cons.1 hx with rfl | hx
      · exact hst
      · exact List.lt_trans hst (h1 x hx)
theorem risS_unique(l m:List (List UInt8))(h1:RisS l)(h2:RisS m)(h:∀ x,x∈l↔x∈m):l=m:=by
 have nd:∀ l:List (List UInt8),RisS l->l.Nodup:=fun l h=>h.imp fun {a b} hab e=>by subst e;exact List.lt_irrefl _ hab
 have hp:l.Perm m:=(List.perm_ext_iff_of_nodup (nd l h1) (nd m h2)).2 h
 exact hp.eq_of_pairwise (fun _ _ _ _ h k=>absurd (List.lt_trans h k) (List.lt_irrefl _)) h1 h2
def putsS(l ws:List (List UInt8)):List (List UInt8):=ws.foldl putS l
theorem putsS_ris(ws:List (List UInt8)):∀ l,RisS l->RisS (putsS l ws):=by
 induction ws with
 | nil=>intro l h;exact h
 | cons w ws ih=>intro l h;exact ih _ (putS_ris l w h)
theorem putsS_mem(ws:List (List UInt8)):∀ l x,x∈putsS l ws↔x∈l\/x∈ws:=by
 induction ws with
 | nil=>intro l x;simp [putsS]
 | cons w ws ih=>
  intro l x
  show x∈putsS (putS l w) ws↔_
  rw [ih,putS_mem,List.mem_cons,or_assoc]
def compS:List (List UInt8)->List (List UInt8)
 | []=>[]
 | [a]=>[a]
 | a::b::l=>if a=b then compS (b::l)else a::compS (b::l)
theorem compS_mem:∀ (l:List (List UInt8)) (x:List UInt8),x∈compS l↔x∈l
 | [],x=>by simp [compS]
 | [a],x=>by simp [compS]
 | a::b::l,x=>by
  rw [compS]
  split
  · rename_i h;subst h;rw [compS_mem];simp
  · rw [List.mem_cons,compS_mem,List.mem_cons (a:=x) (b:=a)]
theorem compS_ris:∀ (l:List (List UInt8)),l.Pairwise (·<=·)->RisS (compS l)
 | [],_=>by simp [compS]
 | [a],_=>by simp [compS]
 | a::b::l,h=>by
  obtain⟨h1,h2⟩:=List.pairwise_cons.1 h
  rw [compS]
  split
  · exact compS_ris _ h2
  · rename_i hne
    refine List.pairwise_cons.2 ⟨fun x hx=>?_,compS_ris _ h2⟩
    have hab:a<b:=by
     rcases ltS_or_eq (h1 b (by simp))with h | h
     · exact h
     · exact absurd h hne
    rcases List.mem_cons.1 ((compS_mem _ x).1 hx)with rfl | hx
    · exact hab
    · have hbx:=(List.pairwise_cons.1 h2).1 x hx
      rcases ltS_or_eq hbx with h | h
      · exact List.lt_trans hab h
      · subst h;exact hab
theorem comp_puts(l ws:List (List UInt8))(hs:l.Pairwise (·<=·))(hp:l.Perm ws):compS l=putsS [] ws:=
 risS_unique _ _ (compS_ris l hs) (putsS_ris ws [] List.Pairwise.nil) fun x=>by
  rw [compS_mem,putsS_mem,hp.mem_iff];simp
def termsL(text source:List UInt8):List (List UInt8):=putsS [] (wordsOf text++(wordsOf source).map fun w=>64::w)
theorem termsL_ris(a b:List UInt8):RisS (termsL a b):=putsS_ris _ _ List.Pairwise.nil
theorem putS_len(l:List (List UInt8))(s:List UInt8):(putS l s).length<=l.length+1:=by
 induction l with
 | nil=>simp [putS]
 | cons t l ih=>
  rw [putS]
  split
  · simp;omega
  · split <;> simp
theorem putsS_len(ws:List (List UInt8)):∀ l,(putsS l ws).length<=l.length+ws.length:=by
 induction ws with
 | nil=>intro l;simp [putsS]
 | cons w ws ih=>
  intro l
  have h1:=ih (putS l w)
  have h2:=putS_len l w
  show(putsS (putS l w) ws).length<=_
  rw [List.length_cons];omega
def frameB(way:UInt8)(n:Nat)(body:List UInt8):List UInt8:=putB (([way]++numB n++numB body.length)++body)
theorem frameB_len(way:UInt8)(n:Nat)(body:List UInt8)(h1:n<18446744073709551616)(h2:body.length<18446744073709551616):(frameB way n body).length<=body.length+25:=by
 have i1:=numB_le n h1
 have i2:=numB_le body.length h2
 unfold frameB putB
 simp only [List.length_append,List.length_cons,List.length_nil]
 omega
def sameN:List UInt8->List UInt8->Nat
 | a::l,b::m=>if a=b then sameN l m+1 else 0
 | _,_=>0
theorem sameN_le:∀ (a b:List UInt8),sameN a b<=a.length/\sameN a b<=b.length
 | [],b=>by simp [sameN]
 | a::l,[]=>by simp [sameN]
 | a::l,b::m=>by
  have:=sameN_le l m
  rw [sameN]
  split <;> simp <;> omega
theorem sameN_eq:∀ (a b:List UInt8) (n:Nat),n<=a.length->n<=b.length->(∀ i,i<n->a[i]? = b[i]?)->(n<a.length->n<b.length->a[n]? ≠ b[n]?)->sameN a b=n
 | [],b,n,h1,_,_,_=>by simp at h1;simp [sameN,h1]
 | a::l,[],n,_,h2,_,_=>by simp at h2;simp [sameN,h2]
 | a::l,b::m,n,h1,h2,h3,h4=>by
  rw [sameN]
  cases n with
  | zero=>
   have:=h4 (by simp) (by simp)
   rw [if_neg (by simpa using this)]
  | succ n=>
   have h0:=h3 0 (by omega)
   rw [if_pos (by simpa using h0),sameN_eq l m n (by simpa using h1) (by simpa using h2) (fun i hi=>by have:=h3 (i+1) (by omega);simpa using this) (fun i1 i2=>by have:=h4 (by simpa using i1) (by simpa using i2);simpa using this)]
def bktGo:List UInt8->List (List UInt8)->List UInt8
 | _,[]=>[]
 | was,s::l=>(numB (sameN was s)++textB (s.drop (sameN was s)))++bktGo s l
def bktB:List (List UInt8)->List UInt8
 | []=>[]
 | s::l=>textB s++bktGo s l
theorem bktGo_snoc:∀ (l:List (List UInt8)) (was s:List UInt8),bktGo was (l++[s])=bktGo was l++(numB (sameN ((was::l).getLast (by simp)) s)++textB (s.drop (sameN ((was::l).getLast (by simp)) s)))
 | [],was,s=>by simp [bktGo]
 | x::l,was,s=>by
  rw [List.cons_append,bktGo,bktGo,bktGo_snoc l x s,List.append_assoc]
  simp
theorem bktB_snoc(l:List (List UInt8))(k:Nat)(h0:0<k)(h:k<l.length):bktB (l.take (k+1))=bktB (l.take k)++(numB (sameN l[k - 1] l[k])++textB (l[k].drop (sameN l[k - 1] l[k]))):=by
 cases l with
 | nil=>simp at h
 | cons x l=>
  obtain⟨k,rfl⟩:∃ j,k=j+1:=⟨k - 1,by omega⟩
  have h':k<l.length:=by simpa using h
  rw [List.take_succ_cons,List.take_succ_cons,bktB,bktB,List.take_succ_eq_append_getElem h',bktGo_snoc,List.append_assoc]
  have e:((x::l.take k).getLast (by simp))=(x::l)[k]:=by
   rw [List.getLast_eq_getElem]
   simp only [List.length_cons,List.length_take,Nat.min_eq_left (Nat.le_of_lt h'),Nat.add_sub_cancel]
   cases k with
   | zero=>rfl
   | succ k=>simp
  rw [e]
  rfl
theorem textB_len(s:List UInt8)(h:s.length<18446744073709551616):(textB s).length<=s.length+10:=by
 have:=numB_le s.length h
 unfold textB;rw [List.length_append];omega
theorem bktGo_len(m:Nat)(hm:m<1000000):∀ (l:List (List UInt8)) (was:List UInt8),(∀ s∈l,s.length<=m)->(bktGo was l).length<=l.length*(m+20)
 | [],was,_=>by simp [bktGo]
 | s::l,was,h=>by
  have h1:=bktGo_len m hm l s (fun x hx=>h x (by simp [hx]))
  have h2:=h s (by simp)
  have h3:=sameN_le was s
  have h4:=numB_le (sameN was s) (by omega)
  have h5:=textB_len (s.drop (sameN was s)) (by simp;omega)
  simp only [List.length_drop]at h5
  rw [bktGo,List.length_append,List.length_append,List.length_cons,Nat.add_mul]
  omega
theorem bktB_len(m:Nat)(hm:m<1000000)(l:List (List UInt8))(h:∀ s∈l,s.length<=m):(bktB l).length<=l.length*(m+20):=by
 cases l with
 | nil=>simp [bktB]
 | cons s l=>
  have h1:=bktGo_len m hm l s (fun x hx=>h x (by simp [hx]))
  have h2:=h s (by simp)
  have h5:=textB_len s (by omega)
  rw [bktB,List.length_append,List.length_cons,Nat.add_mul]
  omega
def mayS(was s:List UInt8):Bool:=decide (¬s=[]) && decide (s.length<=25) && decide (was<s)
def nxM(d:Cs)(part was:List UInt8)(first:Bool):Nat × Cs:=if first then(0,d)else d.int part was.length
def nxR(d:Cs)(part was:List UInt8)(first:Bool):List UInt8 × Cs:=(nxM d part was first).2.text part 25
def nxS(d:Cs)(part was:List UInt8)(first:Bool):List UInt8:=was.take (nxM d part was first).1++(nxR d part was first).1
def nxOk(d:Cs)(part was:List UInt8)(first:Bool):Bool:=
 decide (¬(nxR d part was first).1=[]) && mayS was (nxS d part was first) && (first || decide (sameN was (nxS d part was first)=(nxM d part was first).1))
def nxC(d:Cs)(part was:List UInt8)(first:Bool):Cs:=
 if(nxR d part was first).2.er=0/\nxOk d part was first=false then⟨(nxR d part was first).2.at_,2⟩else(nxR d part was first).2
def fillGo(part:List UInt8):Nat->Nat->Cs->List (List UInt8)->List (List UInt8) × Nat
 | 0,_,d,t=>(t,(d.fin part).er)
 | k+1,i,d,t=>
  if(nxC d part (t.getLastD []) (decide (i=0))).er=0 then fillGo part k (i+1) (nxC d part (t.getLastD []) (decide (i=0))) (t++[nxS d part (t.getLastD []) (decide (i=0))])
  else(t,(nxC d part (t.getLastD []) (decide (i=0))).er)
def szGo(b:List UInt8):Nat->Cs->List Nat->List Nat × Cs
 | 0,s,l=>(l,s)
 | k+1,s,l=>if s.er=0 then szGo b k (s.int b 2000).2 (l++[(s.int b 2000).1])else(l,s)
def dictGo(b:List UInt8)(size n:Nat):List Nat->Nat->Cs->List (List UInt8)->List (List UInt8) × Cs × Nat
 | [],_,s,t=>(t,s,s.er)
 | k::r,i,s,t=>
  if (s.take b k).2.er = 0 then
   (if (fillGo (s.take b k).1 (min size (n - i * size)) 0 ⟨0, 0⟩ t).2 = 0 then dictGo b size n r (i + 1) (s.take b k).2 (fillGo (s.take b k).1 (min size (n - i * size)) 0 ⟨0, 0⟩ t).1
    else ([], (s.take b k).2, (fillGo (s.take b k).1 (min size (n - i * size)) 0 ⟨0, 0⟩ t).2))
  else([],(s.take b k).2,(s.take b k).2.er)
def dictN(b:List UInt8):Nat × Cs:=(⟨0,0⟩:Cs).int b 1048576
def dictZ(size:Nat)(b:List UInt8):List Nat × Cs:=szGo b (((dictN b).1+size - 1) / size) (dictN b).2 []
def dictK(size:Nat)(b:List UInt8):List (List UInt8) × Cs × Nat:=dictGo b size (dictN b).1 (dictZ size b).1 0 (dictZ size b).2 []
def dictR(size:Nat)(b:List UInt8):List (List UInt8) × Nat × Nat:=
 if(dictK size b).2.2=0 then((dictK size b).1,(dictK size b).2.1.at_,0)else([],0,(dictK size b).2.2)
def listsGo(bound:Nat)(b:List UInt8):Nat->Nat->List (List Nat)->List (List Nat) × Nat
 | 0,a,ls=>if a<b.length then([],2)else(ls,0)
 | k+1,a,ls=>
  if (efR bound (b.drop a)).2.2 = 0 then
   (if(efR bound (b.drop a)).1=[]then([],2)else listsGo bound b k (a+(efR bound (b.drop a)).2.1) (ls++[(efR bound (b.drop a)).1]))
  else([],(efR bound (b.drop a)).2.2)
def postR(size bound:Nat)(b:List UInt8):List (List UInt8) × List (List Nat) × Nat:=
 if (dictR size b).2.2 = 0 then
  (if (listsGo bound (b.drop (dictR size b).2.1) (dictR size b).1.length 0 []).2 = 0 then ((dictR size b).1, (listsGo bound (b.drop (dictR size b).2.1) (dictR size b).1.length 0 []).1, 0)
   else ([], [], (listsGo bound (b.drop (dictR size b).2.1) (dictR size b).1.length 0 []).2))
 else([],[],(dictR size b).2.2)
def zagN(z:Nat):Nat:=if z % 2=1 then 18446744073709551615 - z / 2 else z / 2
def tmGo(b:List UInt8):Nat->Cs->Nat->List Nat->List Nat × Cs
 | 0,s,_,out=>(out,s)
 | k+1,s,was,out=>if s.er=0 then tmGo b k (s.num b).2 ((was+zagN (s.num b).1) % 18446744073709551616) (out++[(was+zagN (s.num b).1) % 18446744073709551616])else(out,s)
def lvX(b:List UInt8)(s:Cs):Nat:=(s.byte b).1
def lvK(b:List UInt8)(n:Nat)(s:Cs)(out:List UInt8):Nat × Cs:=(s.byte b).2.int b (n - out.length)
def lvC(b:List UInt8)(n:Nat)(s:Cs)(out:List UInt8):Cs:=
 if(lvK b n s out).2.er=0/\((lvK b n s out).1=0\/(0<out.length/\(out.getLastD 0).toNat=lvX b s))then⟨(lvK b n s out).2.at_,2⟩else(lvK b n s out).2
def lvlGo(b:List UInt8)(n:Nat):Nat->Cs->List UInt8->List UInt8 × Cs
 | 0,s,out=>(out,s)
 | f+1,s,out=>if out.length<n/\s.er=0 then lvlGo b n f (lvC b n s out) (out++List.replicate (lvK b n s out).1 (UInt8.ofNat (lvX b s)))else(out,s)
def colT(n:Nat)(b:List UInt8):List Nat × Cs:=tmGo b n ⟨0,0⟩ 0 []
def colV(n:Nat)(b:List UInt8):List UInt8 × Cs:=lvlGo b n n (colT n b).2 []
def colR(n:Nat)(b:List UInt8):List Nat × List UInt8 × Nat × Nat:=
 if(colV n b).2.er=0 then((colT n b).1,(colV n b).1,(colV n b).2.at_,0)else([],[],0,(colV n b).2.er)
def dirGo(b:List UInt8)(recs:Nat):Nat->Cs->List Nat->List Nat->List Nat × List Nat × Cs
 | 0,s,cs,zs=>(cs,zs,s)
 | k+1,s,cs,zs=>if s.er=0 then dirGo b recs k ((s.int b recs).2.int b 8388608).2 (cs++[(s.int b recs).1]) (zs++[((s.int b recs).2.int b 8388608).1])else(cs,zs,s)
def dirN(b:List UInt8):Nat × Cs:=(⟨0,0⟩:Cs).int b 20000
def dirK(b:List UInt8):Nat × Cs:=(dirN b).2.int b (dirN b).1
def dirG(b:List UInt8):List Nat × List Nat × Cs:=dirGo b (dirN b).1 (dirK b).1 (dirK b).2 [] []
def dirP(b:List UInt8):Nat × Cs:=(dirG b).2.2.int b 8388608
def dirQ(b:List UInt8):Nat × Cs:=(dirP b).2.int b 8388608
def dirE(b:List UInt8)(room:Nat):Nat:=
 if ((dirQ b).2.fin b).er = 0 then
  (if 0∈(dirG b).1\/¬(dirG b).1.sum=(dirN b).1\/¬(dirG b).2.1.sum+(dirP b).1+(dirQ b).1=room then 2 else 0)
 else((dirQ b).2.fin b).er
def cutsL:List Nat->List UInt8->List (List UInt8)
 | [],_=>[]
 | z::zs,b=>b.take z::cutsL zs (b.drop z)
structure Bod where
 counts:List Nat
 sizes:List Nat
 cols:Nat
 index:Nat
 frames:List (List UInt8)
 times:List Nat
 levels:List UInt8
 terms:List (List UInt8)
 lists:List (List Nat)
def ftK(b:List UInt8):Nat:=leN (b.drop (b.length - 4))
def ftD(b:List UInt8):List UInt8:=(b.take (b.length - 4)).drop (b.length - 4 - ftK b)
def ftE(b:List UInt8):Nat:=if b.length<4 then 1 else if b.length - 4<ftK b then 1 else errCut (ftD b)
def bdRest(b:List UInt8):List UInt8:=b.take (b.length - 4 - ftK b)
def bdDir(b:List UInt8):List UInt8:=cutB (ftD b)
def bdAt(b:List UInt8):Nat:=(dirG (bdDir b)).2.1.sum
def bdCol(b:List UInt8):List UInt8:=((bdRest b).drop (bdAt b)).take (dirP (bdDir b)).1
def bdIdx(b:List UInt8):List UInt8:=(bdRest b).drop (bdAt b+(dirP (bdDir b)).1)
def colE(n:Nat)(c:List UInt8):Nat:=
 if errCut c=0 then(if(colR n (cutB c)).2.2.2=0 then(if(colR n (cutB c)).2.2.1<(cutB c).length then 2 else 0)else(colR n (cutB c)).2.2.2)else errCut c
def opE(bu:Nat)(b:List UInt8):Nat:=
 if ftE b = 0 then
  (if dirE (bdDir b) (bdRest b).length = 0 then
   (if colE (dirN (bdDir b)).1 (bdCol b) = 0 then
    (if errCut (bdIdx b) = 0 then (postR bu (dirN (bdDir b)).1 (cutB (bdIdx b))).2.2 else errCut (bdIdx b))
    else colE (dirN (bdDir b)).1 (bdCol b))
   else dirE (bdDir b) (bdRest b).length)
 else ftE b
def opB(bu:Nat)(b:List UInt8):Bod:=
 ⟨(dirG (bdDir b)).1, (dirG (bdDir b)).2.1, (dirP (bdDir b)).1, (dirQ (bdDir b)).1, cutsL (dirG (bdDir b)).2.1 (bdRest b),
  (colR (dirN (bdDir b)).1 (cutB (bdCol b))).1, (colR (dirN (bdDir b)).1 (cutB (bdCol b))).2.1,
  (postR bu (dirN (bdDir b)).1 (cutB (bdIdx b))).1, (postR bu (dirN (bdDir b)).1 (cutB (bdIdx b))).2.1⟩
theorem numAt_div(r:List UInt8)(a n:Nat):∀ m,numAt r a (n+m) / 2 ^ m=numAt r a n:=by
 intro m
 induction m with
 | zero=>simp
 | succ m ih=>
  have:=bitR_two r (a+(n+m))
  rw [<- Nat.add_assoc,numAt,Nat.pow_succ,Nat.mul_comm (2 ^ m) 2,<- Nat.div_div_eq_div_mul,show(2*numAt r a (n+m)+bitR r (a+(n+m))) / 2=numAt r a (n+m) by omega,ih]
def lnGo(r:List UInt8)(n:Nat):Nat->Nat->List UInt8->Bool->List UInt8 × Nat × Nat
 | 0,a,out,_=>(out,a,0)
 | f+1,a,out,sh=>
  if n<=out.length then(out,a,0)
  else if 8*r.length<a+4 then([],a,1)
  else if 0<numAt r a 4 then lnGo r n f (a+4) (out++[UInt8.ofNat (numAt r a 4)]) false
  else if 8*r.length<a+4+6 then([],a,1)
  else if sh=true\/n - out.length<=numAt r (a+4) 6 then([],a,7)
  else lnGo r n f (a+4+6) (out++List.replicate (numAt r (a+4) 6+1) 0) (decide (numAt r (a+4) 6+1<64))
def lnR(r:List UInt8)(n a:Nat):List UInt8 × Nat × Nat:=
 if(lnGo r n n a [] false).2.2=0 then(if okK (lnGo r n n a [] false).1 then lnGo r n n a [] false else([],a,7))else lnGo r n n a [] false
def thereK(r:List UInt8)(a:Nat):Nat:=min 15 (8*r.length - a)
def getS(lens r:List UInt8)(a:Nat):Nat × Nat × Nat:=
 match hitS lens (numAt r a 15) (thereK r a)with
 | some s=>(s,a+symL lens s,0)
 | none=>(0,a,if partK lens (numAt r a (thereK r a)) (thereK r a)then 1 else 7)
def mtR(fars r:List UInt8)(sym a:Nat):Tok × Nat × Nat:=
 if 8*r.length<a+(sym - 257)then(⟨0,0,0⟩,a,1)
 else if (getS fars r (a + (sym - 257))).2.2 = 0 then
  (if 8 * r.length < (getS fars r (a + (sym - 257))).2.1 + (getS fars r (a + (sym - 257))).1 then (⟨0, 0, 0⟩, a, 1)
   else (⟨0, 2 + 2 ^ (sym - 257) + numAt r a (sym - 257), 2 ^ (getS fars r (a + (sym - 257))).1 + numAt r (getS fars r (a + (sym - 257))).2.1 (getS fars r (a + (sym - 257))).1⟩,
    (getS fars r (a + (sym - 257))).2.1 + (getS fars r (a + (sym - 257))).1, 0))
 else(⟨0,0,0⟩,a,(getS fars r (a+(sym - 257))).2.2)
def gives(t:Tok):Nat:=max 1 t.len
def tkGo(syms fars r:List UInt8):Nat->Nat->Nat->List Tok->List Tok × Nat × Nat
 | 0,_,a,out=>(out,a,0)
 | f+1,most,a,out=>
  if (getS syms r a).2.2 = 0 then
   (if (getS syms r a).1 = 256 then (out, (getS syms r a).2.1, 0)
    else if (getS syms r a).1 < 256 then
     (if most < 1 then ([], a, 6) else tkGo syms fars r f (most - 1) (getS syms r a).2.1 (out ++ [⟨UInt8.ofNat (getS syms r a).1, 0, 0⟩]))
    else if (mtR fars r (getS syms r a).1 (getS syms r a).2.1).2.2 = 0 then
     (if most < gives (mtR fars r (getS syms r a).1 (getS syms r a).2.1).1 then ([], a, 6)
      else tkGo syms fars r f (most - gives (mtR fars r (getS syms r a).1 (getS syms r a).2.1).1) (mtR fars r (getS syms r a).1 (getS syms r a).2.1).2.1 (out ++ [(mtR fars r (getS syms r a).1 (getS syms r a).2.1).1]))
    else ([], a, (mtR fars r (getS syms r a).1 (getS syms r a).2.1).2.2))
  else([],a,(getS syms r a).2.2)
def padR(r:List UInt8)(a:Nat):Bool:=decide (8*r.length<a+8) && decide (numAt r a (8*r.length - a)=0)
def tksS(r:List UInt8):List UInt8 × Nat × Nat:=lnR r 265 0
def tksF(r:List UInt8):List UInt8 × Nat × Nat:=lnR r 12 (tksS r).2.1
def tksG(r:List UInt8)(most:Nat):List Tok × Nat × Nat:=tkGo (tksS r).1 (tksF r).1 r (8*r.length+1) most (tksF r).2.1 []
def tksR(r:List UInt8)(most:Nat):List Tok × Nat:=
 if (tksS r).2.2 = 0 then
  (if (tksF r).2.2 = 0 then
   (if (tksG r most).2.2 = 0 then (if padR r (tksG r most).2.1 then ((tksG r most).1, 0) else ([], 2)) else ([], (tksG r most).2.2))
   else ([], (tksF r).2.2))
 else([],(tksS r).2.2)
def cpyK(d:Nat):Nat->List UInt8->List UInt8
 | 0,out=>out
 | n+1,out=>cpyK d n (out++[out.getD (out.length - d) 0])
def plGo(most:Nat):List Tok->List UInt8->List UInt8 × Nat
 | [],out=>(out,0)
 | t::l,out=>
  if mayT t=false then([],7)
  else if out.length<t.dist then([],8)
  else if most<out.length+gives t then([],6)
  else if t.len=0 then plGo most l (out++[t.lit])else plGo most l (cpyK t.dist t.len out)
def bkW(b:List UInt8):Nat × Cs:=(⟨0,0⟩:Cs).byte b
def bkC(b:List UInt8):Cs:=if 1<(bkW b).1 then(bkW b).2.fail 2 else(bkW b).2
def bkN(b:List UInt8):Nat × Cs:=(bkC b).int b 32768
def bkP(b:List UInt8):Nat × Cs:=(bkN b).2.int b 32768
def bkD(b:List UInt8):Cs:=if 1032*(bkP b).1+64<(bkN b).1 then(bkP b).2.fail 6 else(bkP b).2
def bkB(b:List UInt8):List UInt8 × Cs:=(bkD b).take b (bkP b).1
def bkT(b:List UInt8):List UInt8 × Cs:=(bkB b).2.take b 4
def bkE(b:List UInt8):Nat:=if(bkT b).2.er=0 then errCut (b.take (bkT b).2.at_)else(bkT b).2.er
def unsqR(n:Nat)(body:List UInt8):List UInt8 × Nat:=
 if (tksR body n).2 = 0 then
  (if(plGo n (tksR body n).1 []).2=0 then(if(plGo n (tksR body n).1 []).1.length<n then([],2)else((plGo n (tksR body n).1 []).1,0))else([],(plGo n (tksR body n).1 []).2))
 else([],(tksR body n).2)
def bkO(b:List UInt8):List UInt8 × Nat:=
 if(bkW b).1=0 then(if(bkN b).1=(bkP b).1 then((bkB b).1,0)else([],2))else unsqR (bkN b).1 (bkB b).1
def blkR(b:List UInt8):List UInt8 × Nat × Nat:=
 if bkE b=0 then(if(bkO b).2=0 then((bkO b).1,(bkT b).2.at_,0)else([],0,(bkO b).2))else([],0,bkE b)
def rcGo(b:List UInt8):Nat->Cs->List (List UInt8 × List UInt8)->List (List UInt8 × List UInt8) × Nat
 | 0,s,out=>(out,s.er)
 | f+1,s,out=>
  if b.length<=s.at_ then(out,0)
  else if((s.text b 4000).2.text b 4000).2.er=0 then rcGo b f ((s.text b 4000).2.text b 4000).2 (out++[((s.text b 4000).1,((s.text b 4000).2.text b 4000).1)])
  else([],((s.text b 4000).2.text b 4000).2.er)
def rcsR(b:List UInt8):List (List UInt8 × List UInt8) × Nat:=rcGo b (b.length+1) ⟨0,0⟩ []
theorem numGo_back(r:List UInt8)(x:Nat):∀ (i a:Nat),i<=9->x*128 ^ i<18446744073709551616->(i=0\/0<x)->numGo i a (numB x++r)=(a+x*128 ^ i,i+(numB x).length,0):=by
 induction x using Nat.strongRecOn with
 | ind x ih=>
  intro i a hi hx h0
  have e9:(128:Nat) ^ 9=9223372036854775808:=by decide
  by_cases h:x<128
  · have hb:(UInt8.ofNat x).toNat=x:=UInt8.toNat_ofNat_of_lt' (by show x<256;omega)
    rw [numB_one x h,List.singleton_append,numGo,hb,if_neg,if_pos h,Nat.mod_eq_of_lt h]
    · rfl
    · rintro(⟨h1,h2⟩ | ⟨h1,h2⟩)
      · subst h1;rw [e9]at hx;omega
      · omega
  · have hm:x % 128<128:=Nat.mod_lt _ (by omega)
    have hb:(UInt8.ofNat (128+x % 128)).toNat=128+x % 128:=UInt8.toNat_ofNat_of_lt' (by show 128+x % 128<256;omega)
    have hi9:¬i=9:=by
     rintro rfl;rw [e9]at hx;omega
    have hd:x / 128*128 ^ (i+1)<=x*128 ^ i:=by
     rw [Nat.pow_succ,Nat.mul_comm (128 ^ i) 128,<- Nat.mul_assoc]
     exact Nat.mul_le_mul_right _ (Nat.div_mul_le_self x 128)
    rw [numB_more x h,List.cons_append,numGo,hb,if_neg (by omega),if_neg (by omega),ih (x / 128) (by omega) (i+1) _ (by omega) (by omega) (.inr (by omega))]
    have e1:(128+x % 128) % 128=x % 128:=by omega
    have e2:x % 128*128 ^ i+x / 128*128 ^ (i+1)=x*128 ^ i:=by
     rw [Nat.pow_succ,Nat.mul_comm (128 ^ i) 128,<- Nat.mul_assoc,<- Nat.add_mul]
     congr 1;omega
    rw [e1,Nat.add_assoc,e2,List.length_cons]
    congr 2;omega
theorem numL_back(x:Nat)(r:List UInt8)(h:x<18446744073709551616):numL (numB x++r)=(x,(numB x).length,0):=by
 unfold numL
 rw [numGo_back r x 0 0 (by omega) (by simpa using h) (.inl rfl)]
 simp
theorem limL_back(most x:Nat)(r:List UInt8)(h:x<=most)(h2:x<18446744073709551616):limL most (numB x++r)=(x,(numB x).length,0):=by
 unfold limL
 rw [numL_back x r h2,if_pos rfl,if_neg (by show ¬most<x;omega)]
theorem byteW_bit{l:List UInt8}(h:IsBits l)(q j:Nat)(hj:j<8):byteW l q / 2 ^ (7 - j) % 2=bitD l (8*q+j):=by
 unfold byteW
 have h0:=bitD_le h (8*q);have h1:=bitD_le h (8*q+1);have h2:=bitD_le h (8*q+2);have h3:=bitD_le h (8*q+3)
 have h4:=bitD_le h (8*q+4);have h5:=bitD_le h (8*q+5);have h6:=bitD_le h (8*q+6);have h7:=bitD_le h (8*q+7)
 match j,hj with
 | 0,_=>show _ / 128 % 2=bitD l (8*q);omega
 | 1,_=>show _ / 64 % 2=_;omega
 | 2,_=>show _ / 32 % 2=_;omega
 | 3,_=>show _ / 16 % 2=_;omega
 | 4,_=>show _ / 8 % 2=_;omega
 | 5,_=>show _ / 4 % 2=_;omega
 | 6,_=>show _ / 2 % 2=_;omega
 | 7,_=>show _ / 1 % 2=_;omega
theorem bitR_pack{l:List UInt8}(h:IsBits l)(r:List UInt8)(i:Nat)(hi:i<8*(packW l).length):bitR (packW l++r) i=bitD l i:=by
 have hq:i / 8<(packW l).length:=by omega
 have e:(packW l++r).getD (i / 8) 0=UInt8.ofNat (byteW l (i / 8)):=by
  rw [List.getD_eq_getElem?_getD,List.getElem?_append_left hq,List.getElem?_eq_getElem hq]
  simp [packW]
 unfold bitR
 rw [e,UInt8.toNat_ofNat_of_lt' (byteW_lt h _),byteW_bit h _ _ (Nat.mod_lt _ (by omega))]
 congr 1;omega
theorem bitD_left(a b:List UInt8)(i:Nat)(h:i<a.length):bitD (a++b) i=bitD a i:=by
 unfold bitD;rw [List.getD_eq_getElem?_getD,List.getD_eq_getElem?_getD,List.getElem?_append_left h]
theorem bitD_right(a b:List UInt8)(i:Nat):bitD (a++b) (a.length+i)=bitD b i:=by
 unfold bitD;rw [List.getD_eq_getElem?_getD,List.getD_eq_getElem?_getD,List.getElem?_append_right (by omega),Nat.add_sub_cancel_left]
theorem bitD_bitsL(x n:Nat):∀ i,i<n->bitD (bitsL x n) i=x / 2 ^ (n - 1 - i) % 2:=by
 induction n with
 | zero=>intro i h;omega
 | succ n ih=>
  intro i h
  cases i with
  | zero=>
   show(UInt8.ofNat (x / 2 ^ n % 2)).toNat=_
   rw [UInt8.toNat_ofNat_of_lt' (by show _<256;omega)]
   rfl
  | succ i=>
   show bitD (bitsL x n) i=_
   rw [ih i (by omega)]
   congr 3;omega
theorem numAt_bits(b:List UInt8)(a x:Nat):∀ n m,n<=m->(∀ i,i<n->bitR b (a+i)=x / 2 ^ (m - 1 - i) % 2)->numAt b a n=x / 2 ^ (m - n) % 2 ^ n:=by
 intro n
 induction n with
 | zero=>intro m _ _;simp [numAt,Nat.mod_one]
 | succ n ih=>
  intro m hm h
  rw [numAt,ih m (by omega) fun i hi=>h i (by omega),h n (by omega)]
  have e1:m - n=(m - (n+1))+1:=by omega
  have e2:m - 1 - n=m - (n+1):=by omega
  rw [e1,e2,Nat.pow_succ 2 (m - (n+1)),<- Nat.div_div_eq_div_mul]
  generalize x / 2 ^ (m - (n+1))=y
  rw [Nat.pow_succ,Nat.mul_comm (2 ^ n) 2,Nat.mod_mul]
  omega
def BitsAt(r:List UInt8)(a:Nat)(l:List UInt8):Prop:=a+l.length<=8*r.length/\∀ i,i<l.length->bitR r (a+i)=bitD l i
theorem BitsAt.left{r:List UInt8}{a:Nat}{l m:List UInt8}(h:BitsAt r a (l++m)):BitsAt r a l:=by
 obtain⟨h1,h2⟩:=h
 rw [List.length_append]at h1 h2
 exact⟨by omega,fun i hi=>by rw [h2 i (by omega),bitD_left _ _ _ hi]⟩
theorem BitsAt.right{r:List UInt8}{a:Nat}{l m:List UInt8}(h:BitsAt r a (l++m)):BitsAt r (a+l.length) m:=by
 obtain⟨h1,h2⟩:=h
 rw [List.length_append]at h1 h2
 exact⟨by omega,fun i hi=>by rw [Nat.add_assoc,h2 _ (by omega),bitD_right]⟩
theorem BitsAt.num{r:List UInt8}{a x n:Nat}(h:BitsAt r a (bitsL x n))(hx:x<2 ^ n):numAt r a n=x:=by
 obtain⟨_,h2⟩:=h
 rw [bitsL_len]at h2
 rw [numAt_bits r a x n n (Nat.le_refl _) fun i hi=>by rw [h2 i hi,bitD_bitsL x n i hi]]
 rw [Nat.sub_self,Nat.pow_zero,Nat.div_one,Nat.mod_eq_of_lt hx]
theorem zrun_reps(l:List UInt8):∀ k,l.take (zrun l k)=List.replicate (zrun l k) 0:=by
 induction l with
 | nil=>intro k;simp [zrun]
 | cons c l ih=>
  intro k
  cases k with
  | zero=>simp [zrun]
  | succ k=>
   rw [zrun]
   split
   · rename_i h;rw [List.take_succ_cons,ih k,h,List.replicate_succ]
   · simp
theorem zrun_stop(l:List UInt8):∀ k,zrun l k<k->l.drop (zrun l k)=[]\/∃ c t,l.drop (zrun l k)=c::t/\¬c=0:=by
 induction l with
 | nil=>intro k _;simp
 | cons c l ih=>
  intro k h
  cases k with
  | zero=>omega
  | succ k=>
   rw [zrun]at h ⊢
   split
   · rename_i h0
     rw [if_pos h0]at h
     rw [List.drop_succ_cons]
     exact ih k (by omega)
   · rename_i h0
     exact .inr ⟨c,l,rfl,h0⟩
theorem ln_back(r:List UInt8)(n:Nat):∀ (f:Nat) (suf:List UInt8) (a:Nat) (out:List UInt8) (sh:Bool),suf.length<=f->out.length+suf.length=n->(∀ c∈suf,c.toNat<=15)->BitsAt r a (wrGo suf)->(sh=true->suf=[]\/∃ c t,suf=c::t/\¬c=0)->lnGo r n f a out sh=(out++suf,a+(wrGo suf).length,0):=by
 intro f
 induction f with
 | zero=>
  intro suf a out sh h1 h2 _ _ _
  have:suf=[]:=List.length_eq_zero_iff.1 (by omega)
  subst this
  simp [lnGo,wrGo_nil]
 | succ f ih=>
  intro suf a out sh h1 h2 h3 h4 h5
  cases suf with
  | nil=>
   rw [lnGo,if_pos (by simp at h2;omega),wrGo_nil];simp
  | cons c suf=>
   rw [List.length_cons]at h1 h2
   by_cases hc:c=0
   · have hsh:sh=false:=by
       cases sh with
       | false=>rfl
       | true=>
        rcases h5 rfl with h | ⟨d,t,h,h0⟩
        · cases h
        · cases h;exact absurd hc h0
     have hz:=zrun_le suf 63
     rw [wrGo_zero suf c hc]at h4 ⊢
     have b1:=h4.left
     have b2:=h4.right.left
     have b3:=h4.right.right
     rw [bitsL_len]at b2 b3
     rw [bitsL_len]at b3
     have e1:=b1.num (by omega)
     have e2:=b2.num (by have:(2:Nat) ^ 6=64:=rfl;omega)
     have l1:=b1.1
     have l2:=b2.1
     rw [bitsL_len]at l1 l2
     rw [lnGo,if_neg (by omega),if_neg (by omega),e1,if_neg (by omega),if_neg (by omega),e2,if_neg (by rw [hsh];simp;omega)]
     rw [ih (suf.drop (zrun suf 63)) _ _ _ (by rw [List.length_drop];omega) (by simp;omega) (fun x hx=>h3 x (by simp [List.mem_of_mem_drop hx])) b3 (fun hb=>zrun_stop suf 63 (by have:=of_decide_eq_true hb;omega))]
     have e3:List.replicate (zrun suf 63+1) (0:UInt8)++suf.drop (zrun suf 63)=c::suf:=by
      rw [List.replicate_succ,List.cons_append,<- zrun_reps suf 63,List.take_append_drop,hc]
     rw [List.append_assoc,e3]
     simp only [List.length_append,bitsL_len]
     congr 2;omega
   · rw [wrGo_one suf c hc]at h4 ⊢
     have h15:=h3 c (by simp)
     have hc0:¬c.toNat=0:=fun e=>hc (UInt8.toNat_inj.1 e)
     have b1:=h4.left
     have b2:=h4.right
     rw [bitsL_len]at b2
     have e1:=b1.num (by have:(2:Nat) ^ 4=16:=rfl;omega)
     have l1:=b1.1
     rw [bitsL_len]at l1
     rw [lnGo,if_neg (by omega),if_neg (by omega),e1,if_pos (by omega)]
     rw [ih suf _ _ _ (by omega) (by simp;omega) (fun x hx=>h3 x (by simp [hx])) b2 (fun hb=>by cases hb)]
     rw [UInt8.ofNat_toNat,List.append_assoc,List.singleton_append,List.length_append,bitsL_len]
     congr 2;omega
theorem lnR_back(r lens:List UInt8)(a:Nat)(h1:∀ c∈lens,c.toNat<=15)(h2:okK lens=true)(h3:BitsAt r a (wrGo lens)):lnR r lens.length a=(lens,a+(wrGo lens).length,0):=by
 unfold lnR
 rw [ln_back r lens.length lens.length lens a [] false (Nat.le_refl _) (by simp) h1 h3 (fun h=>by cases h),List.nil_append,if_pos rfl,if_pos h2]
theorem hit_self(lens:List UInt8)(x there s:Nat)(h3:there<=15)(hs:s<lens.length)(h:hitK lens x there s=true):hitS lens x there=some s:=by
 obtain⟨t1,t2,t3⟩:=(hitK_iff _ _ _ _).1 h
 obtain⟨t,ht,_,hf,hl⟩:=hit_at lens x there (symL lens s) (cntK (lens.take s) (symL lens s)) t1 t2 h3 (cnt_below lens s _ hs rfl) t3
 have h4:=List.find?_some hf
 obtain⟨_,_,u3⟩:=(hitK_iff _ _ _ _).1 h4
 rw [hl]at u3
 have : t = s := cnt_inj lens (symL lens s) t s ht hs hl rfl (by
  rw [t3] at u3
  unfold valK at u3
  omega)
 rw [this]at hf
 exact hf
theorem getS_back(lens r:List UInt8)(a s:Nat)(hk:okK lens=true)(h15:∀ c∈lens,c.toNat<=15)(h0:¬symL lens s=0)(hb:BitsAt r a (bitK lens s)):getS lens r a=(s,a+symL lens s,0):=by
 have hs:s<lens.length:=by
  rcases Nat.lt_or_ge s lens.length with h | h
  · exact h
  · exact absurd (symL_out lens s h) h0
 have hl:=symL_at lens s hs
 have hne:lens[s]≠0:=by
  intro e;rw [hl,e]at h0;exact h0 rfl
 have hl15:symL lens s<=15:=by rw [hl];exact h15 _ (List.getElem_mem hs)
 have hv:=valK_lt lens hk h15 s hs hne
 rw [<- hl]at hv
 have hp:(2:Nat) ^ symL lens s<=2 ^ 15:=Nat.pow_le_pow_right (by omega) hl15
 have h215:(2:Nat) ^ 15=32768:=rfl
 have hcode:(codesK lens).getD s 0=valK lens (symL lens s) s:=by
  rw [codesK_get lens s hs,codesK_at lens s hs,if_neg hne,<- hl,Nat.mod_eq_of_lt (by omega)]
 rw [bitK_some lens s h0,hcode]at hb
 have hn:=hb.num hv
 have hlen:=hb.1
 rw [bitsL_len]at hlen
 have hd:=numAt_div r a (symL lens s) (15 - symL lens s)
 rw [Nat.add_sub_cancel' hl15,hn]at hd
 have hh:hitS lens (numAt r a 15) (thereK r a)=some s:=by
  refine hit_self lens _ _ s (Nat.min_le_left _ _) hs ((hitK_iff _ _ _ _).2 ⟨by omega,?_,hd⟩)
  unfold thereK;omega
 unfold getS
 rw [hh]
theorem cls_join(v:Nat)(h:1<=v):2 ^ clsK v+rstK v=v:=by
 have:=cls_le v h
 unfold rstK clsK at *
 omega
def wordT(a b:List UInt8)(t:Tok):Prop:=¬symL a (pieceK t).sym=0/\(¬t.len=0->¬symL b (pieceK t).dist=0)
theorem tk_back(a b r:List UInt8)(ha:okK a=true)(hb:okK b=true)(ha15:∀ c∈a,c.toNat<=15)(hb15:∀ c∈b,c.toNat<=15)(he:¬symL a 256=0)(l:List Tok) :
  ∀ (f most p:Nat) (out:List Tok),l.length<f->(l.map gives).sum<=most->(∀ t∈l,mayT t=true/\wordT a b t)->BitsAt r p (toksK a b l++ptK a 256)->tkGo a b r f most p out=(out++l,p+(toksK a b l++ptK a 256).length,0):=by
 have bl:∀ (lens:List UInt8) s,(bitK lens s).length=symL lens s:=by
  intro lens s
  by_cases h:symL lens s=0
  · rw [bitK_none lens s h,h];rfl
  · rw [bitK_some lens s h,bitsL_len]
 have pa:∀ s,ptK a s=bitK a s:=fun s=>by unfold ptK;rw [if_pos ha]
 have pb:∀ s,ptK b s=bitK b s:=fun s=>by unfold ptK;rw [if_pos hb]
 induction l with
 | nil=>
  intro f most p out hf _ _ h
  obtain⟨f,rfl⟩:∃ g,f=g+1:=⟨f - 1,by simp at hf;omega⟩
  rw [show toksK a b []++ptK a 256=bitK a 256 by rw [pa];simp [toksK]]at h ⊢
  rw [tkGo,getS_back a r p 256 ha ha15 he h,if_pos rfl,if_pos rfl,bl,List.append_nil]
 | cons t l ih=>
  intro f most p out hf hm hw h
  obtain⟨f,rfl⟩:∃ g,f=g+1:=⟨f - 1,by simp at hf;omega⟩
  rw [List.length_cons]at hf
  rw [List.map_cons,List.sum_cons]at hm
  obtain⟨hmay,hw1,hw2⟩:=hw t (by simp)
  have hrest:=fun x hx=>hw x (List.mem_cons_of_mem t hx)
  have e:toksK a b (t::l)++ptK a 256=tokK a b t++(toksK a b l++ptK a 256):=by simp [toksK]
  rw [e]at h ⊢
  have hT:=h.left
  have hR:=h.right
  by_cases h0:t.len=0
  · have hpk:pieceK t=⟨t.lit.toNat,0,0,0⟩:=by unfold pieceK;rw [if_pos h0]
    have htk:tokK a b t=bitK a t.lit.toNat:=by unfold tokK;rw [if_pos h0,hpk,pa,List.append_nil]
    have hd:t.dist=0:=by unfold mayT at hmay;rw [if_pos h0]at hmay;simpa using hmay
    have hlt:=t.lit.toNat_lt
    rw [hpk]at hw1
    rw [htk]at hT hR ⊢
    rw [bl]at hR
    have hg:gives t=1:=by unfold gives;omega
    rw [hg]at hm
    rw [tkGo,getS_back a r p _ ha ha15 hw1 hT,if_pos rfl,if_neg (show ¬t.lit.toNat=256 by omega),if_pos (show t.lit.toNat<256 by omega),if_neg (by omega)]
    rw [ih f (most - 1) _ _ (by omega) (by omega) hrest hR]
    have ht:(⟨UInt8.ofNat t.lit.toNat,0,0⟩:Tok)=t:=by
     obtain⟨x,y,z⟩:=t
     simp only at h0 hd
     subst h0 hd
     simp
    rw [ht,List.append_assoc,List.singleton_append]
    simp only [List.length_append,bl]
    congr 2;omega
  · obtain⟨m1,m2,m3,m4,m5⟩:=mayT_len t hmay h0
    have hpk:pieceK t=⟨257+clsK (t.len - 2),rstK (t.len - 2),clsK t.dist,rstK t.dist⟩:=by unfold pieceK;rw [if_neg h0]
    have hw2:=hw2 h0
    have hk1:=rst_lt (t.len - 2) (by omega)
    have hk2:=rst_lt t.dist m4
    have hj1:=cls_join (t.len - 2) (by omega)
    have hj2:=cls_join t.dist m4
    have htk:tokK a b t=bitK a (257+clsK (t.len - 2))++(bitsL (rstK (t.len - 2)) (clsK (t.len - 2))++(bitK b (clsK t.dist)++bitsL (rstK t.dist) (clsK t.dist))):=by
     unfold tokK
     rw [if_neg h0,hpk,pa,pb]
     simp only [Nat.add_sub_cancel_left]
    rw [hpk]at hw1 hw2
    rw [htk]at hT hR ⊢
    generalize clsK (t.len - 2)=c1 at *
    generalize rstK (t.len - 2)=r1 at *
    generalize clsK t.dist=c2 at *
    generalize rstK t.dist=r2 at *
    simp only at hw1 hw2
    have b1:=hT.left
    have b2:=hT.right.left
    have b3:=hT.right.right.left
    have b4:=hT.right.right.right
    rw [bl]at b2
    rw [bl,bitsL_len]at b3
    rw [bl,bitsL_len,bl]at b4
    have l2:=b2.1
    have l4:=b4.1
    rw [bitsL_len]at l2 l4
    have hM:mtR b r (257+c1) (p+symL a (257+c1))=(t,p+symL a (257+c1)+c1+symL b c2+c2,0):=by
     unfold mtR
     rw [Nat.add_sub_cancel_left,if_neg (by omega),getS_back b r _ c2 hb hb15 hw2 b3,if_pos rfl]
     rw [if_neg (show ¬8*r.length<p+symL a (257+c1)+c1+symL b c2+c2 by omega),b2.num hk1]
     simp only [b4.num hk2]
     congr 1
     obtain⟨x,y,z⟩:=t
     simp only at m1 hj1 hj2 m2 m4
     rw [m1]
     congr 1 <;> omega
    have hg:gives t=t.len:=by unfold gives;omega
    rw [tkGo,getS_back a r p _ ha ha15 hw1 b1,if_pos rfl]
    simp only [hM]
    rw [if_neg (by omega),if_neg (by omega),if_pos trivial,if_neg (by omega)]
    have hRl:p+(bitK a (257+c1)++(bitsL r1 c1++(bitK b c2++bitsL r2 c2))).length=p+symL a (257+c1)+c1+symL b c2+c2:=by
     simp only [List.length_append,bl,bitsL_len];omega
    rw [hRl]at hR
    rw [ih f _ _ _ (by omega) (by omega) hrest hR,List.append_assoc,List.singleton_append]
    have hend:p+symL a (257+c1)+c1+symL b c2+c2+(toksK a b l++ptK a 256).length=p+(bitK a (257+c1)++(bitsL r1 c1++(bitK b c2++bitsL r2 c2))++(toksK a b l++ptK a 256)).length:=by
     rw [List.length_append (as:=bitK a (257+c1)++(bitsL r1 c1++(bitK b c2++bitsL r2 c2))),<- Nat.add_assoc,hRl]
    rw [hend]
theorem best_at(b:List UInt8)(a:Nat)(ha:a<=b.length):∀ d,d<=a->0<(bestTo b a d).1->(bestTo b a d).2<=a/\∀ i,i<(bestTo b a d).1->b[a - (bestTo b a d).2+i]? = b[a+i]?:=by
 intro d
 induction d with
 | zero=>intro _ h;simp [bestTo]at h
 | succ d ih=>
  intro hd h
  rw [bestTo]at h ⊢
  unfold stepB at h ⊢
  split
  · refine⟨hd,fun i hi=>?_⟩
    exact alikeN_at b 257 (a - (d+1)) a ha i hi
  · rename_i h2
    rw [if_neg h2]at h
    exact ih (by omega) h
theorem cpy_back(b:List UInt8)(d:Nat)(hd:1<=d):∀ n p,d<=p->p+n<=b.length->(∀ i,i<n->b[p - d+i]? = b[p+i]?)->cpyK d n (b.take p)=b.take (p+n):=by
 intro n
 induction n with
 | zero=>intro p _ _ _;rfl
 | succ n ih=>
  intro p hp hn h
  have hl:(b.take p).length=p:=by rw [List.length_take];omega
  have h0:=h 0 (by omega)
  rw [Nat.add_zero,Nat.add_zero]at h0
  have e:b.take p++[(b.take p).getD ((b.take p).length - d) 0]=b.take (p+1):=by
   rw [hl,List.getD_eq_getElem?_getD,List.getElem?_take_of_lt (by omega),h0,List.getElem?_eq_getElem (by omega)]
   exact(List.take_succ_eq_append_getElem (by omega)).symm
  rw [cpyK, e, ih (p + 1) (by omega) (by omega) fun i hi => by
   have := h (i + 1) (by omega)
   rw [show p + 1 - d + i = p - d + (i + 1) by omega, this]
   congr 1; omega]
  congr 1;omega
theorem gives_match(n d:Nat)(h:1<=n):gives ⟨0,n,d⟩=n:=Nat.max_eq_right h
theorem play_back(b:List UInt8)(most:Nat)(hm:b.length<=most)(a:Nat)(ha:a<=b.length):plGo most (findGo b a) (b.take a)=(b,0):=by
 induction a using findGo.induct (b:=b)with
 | case1 a h h3 ih=>
  have hb:=bestTo_le b a (by omega) (min 4095 a)
  have hat:=best_at b a (by omega) (min 4095 a) (by omega) (by unfold bestK at h3;omega)
  have hmay:=findGo_may b a ⟨0,(bestK b a).1,(bestK b a).2⟩ (by rw [findGo_match b a h h3];simp)
  have hl:(b.take a).length=a:=by rw [List.length_take];omega
  have hg:gives ⟨0,(bestK b a).1,(bestK b a).2⟩=(bestK b a).1:=gives_match _ _ (by omega)
  change (bestK b a).1<=257/\a+(bestK b a).1<=b.length/\(bestK b a).2<=min 4095 a/\(0<(bestK b a).1->0<(bestK b a).2)at hb
  change (bestK b a).2<=a/\∀ i,i<(bestK b a).1->b[a - (bestK b a).2+i]? = b[a+i]? at hat
  rw [findGo_match b a h h3,plGo,hmay,if_neg (by simp),hl,if_neg (show ¬a<(bestK b a).2 by omega),hg,if_neg (by omega),if_neg (show ¬(bestK b a).1=0 by omega)]
  show plGo most (findGo b (a+(bestK b a).1)) (cpyK (bestK b a).2 (bestK b a).1 (b.take a))=(b,0)
  rw [cpy_back b _ (by omega) _ a hat.1 hb.2.1 hat.2]
  exact ih hb.2.1
 | case2 a h h3 ih=>
  have hl:(b.take a).length=a:=by rw [List.length_take];omega
  have hmay:=findGo_may b a ⟨b[a],0,0⟩ (by rw [findGo_lit b a h h3];simp)
  have hg:gives ⟨b[a],0,0⟩=1:=rfl
  rw [findGo_lit b a h h3,plGo,hmay,if_neg (by simp),hl,if_neg (show ¬a<0 by omega),hg,if_neg (by omega),if_pos rfl]
  show plGo most (findGo b (a+1)) (b.take a++[b[a]])=(b,0)
  rw [<- List.take_succ_eq_append_getElem h]
  exact ih (by omega)
 | case3 a h=>
  rw [findGo_end b a (by omega),plGo,List.take_of_length_le (by omega)]
theorem play_all(b:List UInt8)(most:Nat)(hm:b.length<=most):plGo most (findK b) []=(b,0):=by
 have:=play_back b most hm 0 (Nat.zero_le _)
 exact this
theorem gives_all(b:List UInt8)(a:Nat)(ha:a<=b.length):((findGo b a).map gives).sum=b.length - a:=by
 induction a using findGo.induct (b:=b)with
 | case1 a h h3 ih=>
  have hb:=(bestTo_le b a (by omega) (min 4095 a)).2.1
  change a+(bestK b a).1<=b.length at hb
  rw [findGo_match b a h h3,List.map_cons,List.sum_cons,ih hb]
  have hg:gives ⟨0,(bestK b a).1,(bestK b a).2⟩=(bestK b a).1:=gives_match _ _ (by omega)
  omega
 | case2 a h h3 ih=>
  rw [findGo_lit b a h h3,List.map_cons,List.sum_cons,ih (by omega)]
  have hg:gives ⟨b[a],0,0⟩=1:=rfl
  omega
 | case3 a h=>
  rw [findGo_end b a (by omega)]
  simp;omega
theorem tks_back(a f:List UInt8)(l:List Tok)(most:Nat)(ha:okK a=true)(hf:okK f=true)(ha15:∀ c∈a,c.toNat<=15)(hf15:∀ c∈f,c.toNat<=15)(hal:a.length=265)(hfl:f.length=12)(he:¬symL a 256=0)
  (hl:(l.map gives).sum<=most) (hw:∀ t∈l,mayT t=true/\wordT a f t) (hB:IsBits (allK a f l)):tksR (packW (allK a f l)) most=(l,0):=by
 have hlen:=packW_len (allK a f l)
 have hall : BitsAt (packW (allK a f l)) 0 (allK a f l) := ⟨by omega, fun i hi => by
  have := bitR_pack hB [] i (by omega)
  rw [List.append_nil] at this
  rw [Nat.zero_add, this]⟩
 have hwa:wrK a=wrGo a:=by unfold wrK;rw [if_pos ha]
 have hwf:wrK f=wrGo f:=by unfold wrK;rw [if_pos hf]
 have e:allK a f l=wrGo a++(wrGo f++(toksK a f l++ptK a 256)):=by unfold allK;rw [hwa,hwf];simp
 have hpad:∀ i,(allK a f l).length<=i->i<8*(packW (allK a f l)).length->bitR (packW (allK a f l)) i=0:=fun i h1 h2=>by
  have:=bitR_pack hB [] i h2
  rw [List.append_nil]at this
  rw [this,bitD_out _ _ h1]
 have hel:=congrArg List.length e
 simp only [List.length_append]at hel
 generalize packW (allK a f l)=r at *
 rw [e]at hall
 have h1:=hall.left
 have h2:=hall.right.left
 have h3:=hall.right.right
 have hS:tksS r=(a,0+(wrGo a).length,0):=by
  unfold tksS
  have:=lnR_back r a 0 ha15 ha h1
  rw [hal]at this
  exact this
 have hF:tksF r=(f,0+(wrGo a).length+(wrGo f).length,0):=by
  unfold tksF
  rw [hS]
  have:=lnR_back r f _ hf15 hf h2
  rw [hfl]at this
  exact this
 have hbits:∀ (l:List Tok),(∀ t∈l,wordT a f t)->l.length<=(toksK a f l).length:=by
  intro l
  induction l with
  | nil=>intro _;simp
  | cons t l ih=>
   intro hw
   have h4:=ih fun x hx=>hw x (by simp [hx])
   have h5:=(hw t (by simp)).1
   have h6:1<=(tokK a f t).length:=by
    have:1<=(ptK a (pieceK t).sym).length:=by
     unfold ptK
     rw [if_pos ha,bitK_some _ _ h5,bitsL_len];omega
    unfold tokK
    rw [List.length_append];omega
   have h7:toksK a f (t::l)=tokK a f t++toksK a f l:=by simp [toksK]
   rw [h7,List.length_append,List.length_cons];omega
 have hln:=hbits l fun t ht=>(hw t ht).2
 have hG:tksG r most=(l,0+(wrGo a).length+(wrGo f).length+(toksK a f l++ptK a 256).length,0):=by
  unfold tksG
  rw [hS,hF]
  have h4:=h3.1
  rw [List.length_append]at h4
  have:=tk_back a f r ha hf ha15 hf15 he l (8*r.length+1) most _ [] (by omega) hl hw h3
  rw [List.nil_append]at this
  exact this
 unfold tksR
 rw [hS,hF,hG,if_pos rfl,if_pos rfl,if_pos rfl,if_pos]
 unfold padR
 have h5:0+(wrGo a).length+(wrGo f).length+(toksK a f l++ptK a 256).length=(allK a f l).length:=by rw [List.length_append];omega
 rw [h5]
 show(decide (8*r.length<(allK a f l).length+8) && decide (numAt r (allK a f l).length (8*r.length - (allK a f l).length)=0))=true
 rw [decide_eq_true (by omega),Bool.true_and]
 refine decide_eq_true ((numAt_zero _ _ _).2 fun i hi=>hpad _ (by omega) (by omega))
structure TS where
 text:List UInt8
 source:List UInt8
def TS.terms(r:TS):List (List UInt8):=termsL r.text r.source
def idxT(l:List TS):List (List UInt8):=putsS [] (l.flatMap TS.terms)
def idsOf(l:List TS)(t:List UInt8):List Nat:=(List.range l.length).filter fun i=>match l[i]? with | some r=>decide (t∈r.terms) | none=>false
theorem idxT_ris(l:List TS):RisS (idxT l):=putsS_ris _ _ List.Pairwise.nil
theorem idxT_mem(l:List TS)(t:List UInt8):t∈idxT l↔∃ r∈l,t∈r.terms:=by
 unfold idxT
 rw [putsS_mem];simp
theorem terms_each(r:TS):∀ t∈r.terms,1<=t.length/\t.length<=25:=by
 intro t ht
 unfold TS.terms termsL at ht
 rw [putsS_mem]at ht
 rcases ht with h | h
 · cases h
 · rcases List.mem_append.1 h with h | h
   · have:=wordsOf_each r.text t h;omega
   · obtain⟨x,hx,rfl⟩:=List.mem_map.1 h
     have:=wordsOf_each r.source x hx
     simp;omega
theorem terms_len(r:TS):r.terms.length<=r.text.length+r.source.length:=by
 unfold TS.terms termsL
 refine Nat.le_trans (putsS_len _ _) ?_
 have h1:=wordsOf_len r.text
 have h2:=wordsOf_len r.source
 simp;omega
theorem idxT_each(l:List TS):∀ t∈idxT l,1<=t.length/\t.length<=25:=by
 intro t ht
 obtain⟨r,_,h⟩:=(idxT_mem l t).1 ht
 exact terms_each r t h
theorem idxT_len(l:List TS):(idxT l).length<=wtS (fun r:TS=>r.text.length+r.source.length) l:=by
 unfold idxT
 refine Nat.le_trans (putsS_len _ _) ?_
 have:(l.flatMap TS.terms).length<=wtS (fun r:TS=>r.text.length+r.source.length) l:=by
  induction l with
  | nil=>simp [wtS]
  | cons r l ih=>
   have:=terms_len r
   simp only [List.flatMap_cons,List.length_append,wtS,List.map_cons,List.sum_cons]at *
   omega
 simp only [List.length_nil];omega
theorem ids_lt(l:List TS)(t:List UInt8):∀ i∈idsOf l t,i<l.length:=by
 intro i hi
 unfold idsOf at hi
 exact List.mem_range.1 (List.mem_filter.1 hi).1
theorem ids_mem(l:List TS)(t:List UInt8)(i:Nat)(h:i<l.length):i∈idsOf l t↔t∈l[i].terms:=by
 unfold idsOf
 rw [List.mem_filter]
 simp [h]
theorem ids_ne(l:List TS)(t:List UInt8)(h:t∈idxT l):idsOf l t≠[]:=by
 obtain⟨r,hr,ht⟩:=(idxT_mem l t).1 h
 obtain⟨i,hi,rfl⟩:=List.mem_iff_getElem.1 hr
 intro e
 have:=(ids_mem l t i hi).2 ht
 rw [e]at this;cases this
theorem rises_of(bound:Nat):∀ (l:List Nat) (lo:Nat),l.Pairwise (·<·)->(∀ x∈l,lo<=x/\x<bound)->risesGo bound lo l=true
 | [],_,_,_=>rfl
 | x::l,lo,h1,h2=>by
  obtain⟨i1,i2⟩:=List.pairwise_cons.1 h1
  have hx:=h2 x (by simp)
  rw [risesGo,decide_eq_true hx.1,decide_eq_true hx.2,rises_of bound l (x+1) i2 (fun y hy=>⟨i1 y hy,(h2 y (by simp [hy])).2⟩)]
  rfl
theorem ids_rises(l:List TS)(t:List UInt8):risesGo l.length 0 (idsOf l t)=true:=
 rises_of _ _ _ (by unfold idsOf;exact List.pairwise_lt_range.filter _) (fun x hx=>⟨Nat.zero_le _,ids_lt l t x hx⟩)
theorem ids_snoc(l:List TS)(t:List UInt8)(k:Nat)(h:k<l.length):idsOf (l.take (k+1)) t=idsOf (l.take k) t++(if t∈l[k].terms then [k]else []):=by
 have hk:(l.take k).length=k:=by simp;omega
 have hk1:(l.take (k+1)).length=k+1:=by simp;omega
 unfold idsOf
 rw [hk,hk1,List.range_succ,List.filter_append]
 congr 1
 · apply List.filter_congr
   intro i hi
   have hi':=List.mem_range.1 hi
   rw [List.getElem?_take_of_lt hi',List.getElem?_take_of_lt (by omega)]
 · rw [List.filter_cons]
   have e:(l.take (k+1))[k]? = some l[k]:=by rw [List.getElem?_take_of_lt (by omega),List.getElem?_eq_getElem h]
   rw [e]
   by_cases ht:t∈l[k].terms
   · simp [ht]
   · simp [ht]
theorem efHigh_len(w bound:Nat):∀ (l:List Nat) (lo was:Nat),risesGo bound lo l=true->was<=lo / 2 ^ w->was<=bound->(efHigh w was l).length<=l.length+(bound - was)
 | [],_,_,_,_,_=>by simp [efHigh]
 | x::l,lo,was,h,h1,h2=>by
  rw [risesGo]at h
  simp only [Bool.and_eq_true,decide_eq_true_eq]at h
  have hp:=Nat.two_pow_pos w
  have e1:lo / 2 ^ w<=x / 2 ^ w:=Nat.div_le_div_right h.1.1
  have e2:x / 2 ^ w<=x:=Nat.div_le_self _ _
  have e3:x / 2 ^ w<=(x+1) / 2 ^ w:=Nat.div_le_div_right (by omega)
  have ih:=efHigh_len w bound l (x+1) (x / 2 ^ w) h.2 e3 (by omega)
  rw [efHigh,List.length_append,unaryL_len,List.length_cons]
  omega
theorem efL_len(bound:Nat)(l:List Nat)(hb:bound<=20000)(hr:risesGo bound 0 l=true):(efL bound l).length<=2*bound+10:=by
 have hn:=rises_len bound l 0 (Nat.zero_le _) hr
 have h1:=numB_le l.length (by omega)
 unfold efL
 rw [List.length_append]
 split
 · simp;omega
 · rename_i hne
   have hpos:0<l.length:=List.length_pos_iff.2 hne
   have hq:bound / l.length<=20000:=Nat.le_trans (Nat.div_le_self _ _) hb
   have hq0:bound / l.length≠0:=by
    have:1<=bound / l.length:=(Nat.le_div_iff_mul_le hpos).2 (by omega)
    omega
   have hw:Nat.log2 (bound / l.length)<15:=(Nat.log2_lt hq0).2 (by omega)
   have h2:=efHigh_len (Nat.log2 (bound / l.length)) bound l 0 0 hr (Nat.zero_le _) (Nat.zero_le _)
   have h3:=efLow_len (Nat.log2 (bound / l.length)) l
   have h4:l.length*Nat.log2 (bound / l.length)<=l.length*14:=Nat.mul_le_mul_left _ (by omega)
   rw [packW_len,List.length_append]
   omega
def postRest(bound:Nat)(ls:List (List Nat)):List UInt8:=(ls.map (efL bound)).flatten
theorem Cs.num_back{s:Cs}{b q:List UInt8}{x:Nat}(h0:s.er=0)(h:b.drop s.at_=numB x++q)(hx:x<18446744073709551616):s.num b=(x,⟨s.at_+(numB x).length,0⟩):=by
 unfold Cs.num Cs.val Cs.step
 rw [h,numL_back x q hx,if_pos ⟨h0,rfl⟩,if_pos h0,if_pos rfl]
theorem Cs.int_back{s:Cs}{b q:List UInt8}{x most:Nat}(h0:s.er=0)(h:b.drop s.at_=numB x++q)(hx:x<=most)(hx2:x<18446744073709551616):s.int b most=(x,⟨s.at_+(numB x).length,0⟩):=by
 unfold Cs.int Cs.val Cs.step
 rw [h,limL_back most x q hx hx2,if_pos ⟨h0,rfl⟩,if_pos h0,if_pos rfl]
theorem Cs.take_back{s:Cs}{b q t:List UInt8}(h0:s.er=0)(h:b.drop s.at_=t++q)(h1:s.at_<=b.length):s.take b t.length=(t,⟨s.at_+t.length,0⟩):=by
 have hl:=congrArg List.length h
 rw [List.length_drop,List.length_append]at hl
 unfold Cs.take
 rw [if_pos h0,if_neg (by omega),h,List.take_left]
theorem drop_more{b p q:List UInt8}{a:Nat}(h:b.drop a=p++q):b.drop (a+p.length)=q:=by
 rw [<- List.drop_drop,h,List.drop_left]
theorem Cs.byte_back{s:Cs}{b q:List UInt8}{x:UInt8}(h0:s.er=0)(h:b.drop s.at_=x::q)(h1:s.at_<=b.length):s.byte b=(x.toNat,⟨s.at_+1,0⟩):=by
 have:=Cs.take_back (t:=[x]) h0 h h1
 unfold Cs.byte
 rw [show s.take b 1=_ from this]
 rfl
theorem zag_zig(d:Nat)(h:d<18446744073709551616):zagN (zigN d)=d:=by
 unfold zagN zigN
 split
 · split <;> omega
 · split <;> omega
theorem zigN_lt64(d:Nat)(hd:d<18446744073709551616):zigN d<18446744073709551616:=by unfold zigN;split <;> omega
theorem dif_back(t was:Nat)(h1:t<18446744073709551616)(h2:was<18446744073709551616):(was+dif64 t was) % 18446744073709551616=t:=by
 unfold dif64;omega
theorem times_back(b q:List UInt8)(l:List Nat):∀ (s:Cs) (was:Nat) (out:List Nat),s.er=0->was<18446744073709551616->(∀ t∈l,t<18446744073709551616)->b.drop s.at_=timesGo was l++q->tmGo b l.length s was out=(out++l,⟨s.at_+(timesGo was l).length,0⟩):=by
 induction l with
 | nil=>
  intro s was out h0 _ _ _
  obtain⟨a,e⟩:=s
  have:e=0:=h0
  subst this
  simp [tmGo,timesGo]
 | cons t l ih=>
  intro s was out h0 hw ht h
  have h1:=ht t (by simp)
  rw [timesGo,List.append_assoc]at h
  have hn:=Cs.num_back h0 h (zigN_lt64 _ (dif64_lt t was))
  rw [List.length_cons,tmGo,if_pos h0,hn]
  simp only [zag_zig _ (dif64_lt t was),dif_back t was h1 hw]
  rw [ih _ _ _ rfl h1 (fun x hx=>ht x (by simp [hx])) (drop_more h),List.append_assoc,List.singleton_append,timesGo,List.length_append]
  simp only [Nat.add_assoc]
theorem levels_back(b q:List UInt8)(n:Nat)(hn:n<18446744073709551616)(l:List UInt8):∀ (s:Cs) (x:UInt8) (c f:Nat) (out:List UInt8),s.er=0->s.at_<=b.length->1<=c->out.length+c+l.length=n->c+l.length<=f->(out=[]\/¬out.getLastD 0=x)->b.drop s.at_=lvGo x c l++q ->
  lvlGo b n f s out=(out++List.replicate c x++l,⟨s.at_+(lvGo x c l).length,0⟩):=by
 have step:∀ (s:Cs) (x:UInt8) (c f:Nat) (out q2:List UInt8),s.er=0->s.at_<=b.length->1<=c->out.length+c<=n->(out=[]\/¬out.getLastD 0=x)->b.drop s.at_=(x::numB c)++q2 ->
   lvlGo b n (f+1) s out=lvlGo b n f ⟨s.at_+(x::numB c).length,0⟩ (out++List.replicate c x):=by
  intro s x c f out q2 h0 ha hc hl hne h
  have hb:=Cs.byte_back h0 h ha
  have hi:lvK b n s out=(c,⟨s.at_+1+(numB c).length,0⟩):=by
   unfold lvK
   rw [hb]
   refine Cs.int_back rfl ?_ (by omega) (by omega) (q:=q2)
   exact drop_more (p:=[x]) h
  have hx:lvX b s=x.toNat:=by unfold lvX;rw [hb]
  have hC:lvC b n s out=⟨s.at_+1+(numB c).length,0⟩:=by
   unfold lvC
   rw [hi,hx,if_neg]
   rintro⟨_,h1 | ⟨h1,h2⟩⟩
   · have h1:c=0:=h1
     omega
   · rcases hne with rfl | h3
     · simp at h1
     · exact h3 (UInt8.toNat_inj.1 h2)
  rw [lvlGo,if_pos ⟨by omega,h0⟩,hC,hi,hx,List.length_cons,show s.at_+1+(numB c).length=s.at_+((numB c).length+1) by omega]
  simp
 have last:∀ f s (out:List UInt8),n<=out.length->lvlGo b n f s out=(out,s):=by
  intro f s out h
  cases f with
  | zero=>rfl
  | succ f=>rw [lvlGo,if_neg (by omega)]
 induction l with
 | nil=>
  intro s x c f out h0 ha hc hl hf hne h
  rw [List.length_nil,Nat.add_zero]at hl hf
  obtain⟨f,rfl⟩:∃ g,f=g+1:=⟨f - 1,by omega⟩
  rw [lvGo]at h ⊢
  rw [step s x c f out q h0 ha hc (by omega) hne h,last _ _ _ (by simp;omega),List.append_nil]
 | cons y l ih=>
  intro s x c f out h0 ha hc hl hf hne h
  rw [List.length_cons]at hl hf
  rw [lvGo]at h ⊢
  by_cases hy:y=x
  · rw [if_pos hy]at h ⊢
    rw [ih s x (c+1) f out h0 ha (by omega) (by omega) (by omega) hne h,hy]
    simp [List.replicate_succ']
  · rw [if_neg hy]at h ⊢
    obtain⟨f,rfl⟩:∃ g,f=g+1:=⟨f - 1,by omega⟩
    rw [List.append_assoc]at h
    have hd:=drop_more h
    have hle:s.at_+(x::numB c).length<=b.length:=by
     have:=congrArg List.length h
     rw [List.length_drop,List.length_append]at this
     omega
    rw [step s x c f out _ h0 ha hc (by omega) hne h]
    rw [ih ⟨s.at_+(x::numB c).length,0⟩ y 1 f (out++List.replicate c x) rfl hle (by omega) (by simp;omega) (by omega) (.inr ?_) hd]
    · simp [Nat.add_assoc,Nat.add_comm 1]
    · obtain⟨c,rfl⟩:∃ d,c=d+1:=⟨c - 1,by omega⟩
      rw [List.replicate_succ',<- List.append_assoc,List.getLastD_concat]
      exact fun e=>hy e.symm
theorem frame_back(way:UInt8)(n:Nat)(body q:List UInt8)(hw:way.toNat<=1)(hn:n<=32768)(hp:body.length<=32768)(hr:n<=1032*body.length+64) :
  bkE (frameB way n body++q)=0/\bkW (frameB way n body++q)=(way.toNat,⟨1,0⟩)/\(bkN (frameB way n body++q)).1=n/\(bkP (frameB way n body++q)).1=body.length/\(bkB (frameB way n body++q)).1=body/\(bkT (frameB way n body++q)).2.at_=(frameB way n body).length:=by
 obtain⟨T,hT,hT4⟩:∃ T,frameB way n body=(([way]++numB n++numB body.length)++body)++T/\T.length=4:=by
  have h4:=putB_len (([way]++numB n++numB body.length)++body)
  unfold frameB
  unfold putB at h4 ⊢
  exact⟨_,rfl,by rw [List.length_append]at h4;omega⟩
 have hF:frameB way n body++q=way::(numB n++(numB body.length++(body++(T++q)))):=by rw [hT];simp
 have hlen:(frameB way n body).length=1+(numB n).length+(numB body.length).length+body.length+4:=by
  rw [hT]
  simp only [List.length_append,List.length_cons,List.length_nil,hT4]
 have hcut:errCut (frameB way n body)=0:=by
  unfold errCut frameB
  rw [okCut_put];rfl
 have htake:(frameB way n body++q).take (frameB way n body).length=frameB way n body:=List.take_left
 have hFl:(frameB way n body++q).length=(frameB way n body).length+q.length:=List.length_append
 generalize frameB way n body=F0 at *
 generalize F0++q=F at *
 have h0:F.drop 0=way::(numB n++(numB body.length++(body++(T++q)))):=hF
 have hW:bkW F=(way.toNat,⟨1,0⟩):=by
  have:=Cs.byte_back (s:=⟨0,0⟩) rfl h0 (Nat.zero_le _)
  exact this
 have hC:bkC F=⟨1,0⟩:=by unfold bkC;rw [hW,if_neg (by show ¬1<way.toNat;omega)]
 have h1:F.drop 1=numB n++(numB body.length++(body++(T++q))):=drop_more (p:=[way]) h0
 have hN:bkN F=(n,⟨1+(numB n).length,0⟩):=by
  unfold bkN;rw [hC]
  exact Cs.int_back (s:=⟨1,0⟩) rfl h1 hn (by omega)
 have h2:=drop_more h1
 have hP:bkP F=(body.length,⟨1+(numB n).length+(numB body.length).length,0⟩):=by
  unfold bkP;rw [hN]
  exact Cs.int_back (s:=⟨1+(numB n).length,0⟩) rfl h2 hp (by omega)
 have hD:bkD F=⟨1+(numB n).length+(numB body.length).length,0⟩:=by
  unfold bkD;rw [hP,hN,if_neg (by show ¬1032*body.length+64<n;omega)]
 have h3:=drop_more h2
 have hB:bkB F=(body,⟨1+(numB n).length+(numB body.length).length+body.length,0⟩):=by
  unfold bkB;rw [hD,hP]
  exact Cs.take_back (s:=⟨1+(numB n).length+(numB body.length).length,0⟩) rfl h3 (by show 1+(numB n).length+(numB body.length).length<=F.length;omega)
 have h4:=drop_more h3
 have hTk:bkT F=(T,⟨1+(numB n).length+(numB body.length).length+body.length+4,0⟩):=by
  unfold bkT;rw [hB]
  have:=Cs.take_back (s:=⟨1+(numB n).length+(numB body.length).length+body.length,0⟩) rfl h4 (by show 1+(numB n).length+(numB body.length).length+body.length<=F.length;omega)
  rw [hT4]at this
  exact this
 refine⟨?_,hW,by rw [hN],by rw [hP],by rw [hB],by rw [hTk,hlen]⟩
 unfold bkE
 rw [hTk,if_pos rfl]
 show errCut (F.take (1+(numB n).length+(numB body.length).length+body.length+4))=0
 rw [<- hlen,htake,hcut]
theorem blk_stored(b q:List UInt8)(hn:b.length<=32768):blkR (frameB 0 b.length b++q)=(b,(frameB 0 b.length b).length,0):=by
 obtain⟨h1,h2,h3,h4,h5,h6⟩:=frame_back 0 b.length b q (by decide) hn hn (by omega)
 have hO:bkO (frameB 0 b.length b++q)=(b,0):=by
  unfold bkO
  rw [h2,if_pos (by rfl),h3,h4,if_pos rfl,h5]
 unfold blkR
 rw [h1,if_pos rfl,hO,if_pos rfl,h6]
theorem blk_squeezed(b body q:List UInt8)(hn:b.length<=32768)(hp:body.length<=32768)(hr:b.length<=1032*body.length+64)(hu:unsqR b.length body=(b,0)):blkR (frameB 1 b.length body++q)=(b,(frameB 1 b.length body).length,0):=by
 obtain⟨h1,h2,h3,h4,h5,h6⟩:=frame_back 1 b.length body q (by decide) hn hp hr
 have hO:bkO (frameB 1 b.length body++q)=(b,0):=by
  unfold bkO
  rw [h2,if_neg (by decide),h3,h5,hu]
 unfold blkR
 rw [h1,if_pos rfl,hO,if_pos rfl,h6]
theorem unsq_back(b body:List UInt8)(h:tksR body b.length=(findK b,0)):unsqR b.length body=(b,0):=by
 unfold unsqR
 rw [h,if_pos rfl,play_all b b.length (Nat.le_refl _),if_pos rfl,if_neg (by simp)]
theorem isBits_nil:IsBits []:=by intro c hc;cases hc
theorem isBits_wr:∀ (n:Nat) (l:List UInt8),l.length<=n->IsBits (wrGo l):=by
 intro n
 induction n with
 | zero=>
  intro l h
  have:l=[]:=List.length_eq_zero_iff.1 (by omega)
  subst this
  rw [wrGo_nil];exact isBits_nil
 | succ n ih=>
  intro l h
  cases l with
  | nil=>rw [wrGo_nil];exact isBits_nil
  | cons c l=>
   rw [List.length_cons]at h
   by_cases hc:c=0
   · rw [wrGo_zero l c hc]
     exact(bitsL_bits _ _).app ((bitsL_bits _ _).app (ih _ (by rw [List.length_drop];omega)))
   · rw [wrGo_one l c hc]
     exact(bitsL_bits _ _).app (ih _ (by omega))
theorem isBits_wrK(a:List UInt8):IsBits (wrK a):=by
 unfold wrK
 split
 · exact isBits_wr a.length a (Nat.le_refl _)
 · exact isBits_nil
theorem isBits_pt(a:List UInt8)(s:Nat):IsBits (ptK a s):=by
 unfold ptK
 split
 · unfold bitK
   split
   · exact isBits_nil
   · exact bitsL_bits _ _
 · exact isBits_nil
theorem isBits_tok(a b:List UInt8)(t:Tok):IsBits (tokK a b t):=by
 unfold tokK
 refine(isBits_pt _ _).app ?_
 split
 · exact isBits_nil
 · exact(bitsL_bits _ _).app ((isBits_pt _ _).app (bitsL_bits _ _))
theorem isBits_toks(a b:List UInt8)(l:List Tok):IsBits (toksK a b l):=by
 induction l with
 | nil=>exact isBits_nil
 | cons t l ih=>
  have e:toksK a b (t::l)=tokK a b t++toksK a b l:=by simp [toksK]
  rw [e]
  exact(isBits_tok a b t).app ih
theorem isBits_all(a b:List UInt8)(l:List Tok):IsBits (allK a b l):=by
  unfold allK
  exact(((isBits_wrK a).app (isBits_wrK b)).app (isBits_toks a b l)).app (isBits_pt a 256)
theorem gives_bits(a b:List UInt8)(ha:okK a=true)(hb:okK b=true)(l:List Tok)(hw:∀ t∈l,mayT t=true/\wordT a b t):(l.map gives).sum<=129*(toksK a b l).length:=by
 induction l with
 | nil=>simp
 | cons t l ih=>
  have h1:=ih fun x hx=>hw x (by simp [hx])
  obtain⟨hm,h2,h3⟩:=hw t (by simp)
  have e:toksK a b (t::l)=tokK a b t++toksK a b l:=by simp [toksK]
  rw [e,List.map_cons,List.sum_cons,List.length_append]
  have p1:1<=(ptK a (pieceK t).sym).length:=by
   unfold ptK;rw [if_pos ha,bitK_some _ _ h2,bitsL_len];omega
  by_cases h0:t.len=0
  · have hg:gives t=1:=by unfold gives;omega
    have:1<=(tokK a b t).length:=by unfold tokK;rw [List.length_append];omega
    omega
  · obtain⟨_,m2,m3,_,_⟩:=mayT_len t hm h0
    have hg:gives t=t.len:=by unfold gives;omega
    have p2:1<=(ptK b (pieceK t).dist).length:=by
     unfold ptK;rw [if_pos hb,bitK_some _ _ (h3 h0),bitsL_len];omega
    have:2<=(tokK a b t).length:=by
     unfold tokK
     rw [if_neg h0]
     simp only [List.length_append]
     omega
    omega
theorem sqz_room(a f b:List UInt8)(ha:okK a=true)(hf:okK f=true)(hw:∀ t∈findK b,mayT t=true/\wordT a f t):b.length<=1032*(packW (allK a f (findK b))).length+64:=by
 have h1:=gives_bits a f ha hf (findK b) hw
 have h2:=gives_all b 0 (Nat.zero_le _)
 change ((findK b).map gives).sum=_ at h2
 have h3:=packW_len (allK a f (findK b))
 have h4:(toksK a f (findK b)).length<=(allK a f (findK b)).length:=by unfold allK;simp only [List.length_append];omega
 omega
end Go.Fk
