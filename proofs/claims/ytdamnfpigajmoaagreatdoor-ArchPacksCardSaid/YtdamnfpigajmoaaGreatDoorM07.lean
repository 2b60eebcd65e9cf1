/- Parts of the proof of ArchPacks: Spec15 SpecWd SpecV SpecP SpecJ3 SpecJa Spec28. -/
import Derived.WalkKit
import Derived.Test.YtdamnfpigajmoaaGreatDoorM11
import Derived.Test.YtdamnfpigajmoaaGreatDoorM12
set_option linter.unusedVariables false
set_option linter.unusedSectionVars false
set_option linter.unusedSimpArgs false
set_option maxHeartbeats 8000000
namespace Go.Fk
abbrev bs:=@decide_eq_true
abbrev fz:=@List.length_nil
abbrev jO:=@Nat.div_le_self
abbrev mK:=@List.mem_iff_getElem
abbrev lY:=@List.cons_append
abbrev oq:=@List.length_pos_iff
abbrev pP:=@Nat.div_le_div_right
abbrev pM:=@Nat.mul_le_mul_left
abbrev mM:=@List.lt_irrefl
end Go.Fk
namespace Go.Fk
def cd(c:UInt8):Bool:=decide (65<=c.toNat/\c.toNat<=90) || decide (97<=c.toNat/\c.toNat<=122) || decide (48<=c.toNat/\c.toNat<=57)
def sm(c:UInt8):UInt8:=if 65<=c.toNat/\c.toNat<=90 then c+32 else c
def ko(c:UInt8):UInt8:=if cd c then sm c else 0
def qQ(l:List UInt8):Option (List UInt8):=if l≠[]/\l.length<=24/\l.all cd=true then some (l.map sm)else none
theorem oW(c:UInt8):cd c=true↔(65<=c.toNat/\c.toNat<=90)\/(97<=c.toNat/\c.toNat<=122)\/(48<=c.toNat/\c.toNat<=57):=by
 simp only [cd,Bool.or_eq_true,fi];omega
theorem Gc(c:UInt8):cd c=false↔¬((65<=c.toNat/\c.toNat<=90)\/(97<=c.toNat/\c.toNat<=122)\/(48<=c.toNat/\c.toNat<=57)):=by
 rw [<- oW];simp
theorem tf(c:UInt8):(sm c).toNat=if 65<=c.toNat/\c.toNat<=90 then c.toNat+32 else c.toNat:=by
 unfold sm;split;· rw [UInt8.toNat_add];have:(32:UInt8).toNat=32:=rfl;rw [this];omega
 · rfl
theorem Du(c:UInt8)(h:cd c=true):sm c≠0:=by
 intro e;have:=fXQb UInt8.toNat e;rw [tf]at this;rw [oW]at h;have z:(0:UInt8).toNat=0:=rfl;split at this <;> omega
theorem Do(c:UInt8):ko c=0↔cd c=false:=by
 unfold ko;constructor
 · intro h
   cases d:cd c with
   | false=>rfl
   | true=>rw [d,aiQb rfl]at h;exact absurd h (Du c d)
 · intro h;simp [h]
def yG(g:List UInt8->Bool)(d:List UInt8):List UInt8:=if g ((d.map sm).take 24)then List.replicate d.length 42 else d
def yI(g:List UInt8->Bool):List UInt8->List UInt8->List UInt8
 | d,[]=>yG g d
 | d,c::r=>if cd c then yI g (d++[c]) r else yG g d++c::yI g [] r
def yH(g:List UInt8->Bool):List UInt8->List UInt8->Nat
 | d,[]=>if d≠[]/\g ((d.map sm).take 24)=true then 1 else 0
 | d,c::r=>if cd c then yH g (d++[c]) r else(if d≠[]/\g ((d.map sm).take 24)=true then 1 else 0)+yH g [] r
def fA:List UInt8->List UInt8->List (List UInt8)
 | d,[]=>if d=[]then []else [(d.map sm).take 24]
 | d,c::r=>if cd c then fA (d++[c]) r else(if d=[]then []else [(d.map sm).take 24])++fA [] r
def dS(l:List UInt8):List (List UInt8):=fA [] l
def LL(d:List UInt8):List (List UInt8):=if d=[]then []else [(d.map sm).take 24]
def eX:List UInt8->List UInt8
 | []=>[]
 | c::s=>if cd c then sm c::eX s else []
def cR:Bool->List UInt8->List (List UInt8)
 | _,[]=>[]
 | d,c::s=>if cd c then(if d then cR true s else(eX (c::s)).take 24::cR true s)else cR false s
theorem BF(s:List UInt8):fA [] s=cR false s/\∀ m,m≠[]->fA m s=(m.map sm++eX s).take 24::cR true s:=by
 induction s with
 | nil=>refine⟨by simp [fA,cR],fun m h=>?_⟩;simp [fA,h,cR,eX]
 | cons c s o=>
  by_cases d:cd c=true
  · have e:eX (c::s)=sm c::eX s:=(by rw [eX,aiQb d]);refine⟨?_,fun m h=>?_⟩;· rw [fA,aiQb d,cR,aiQb d,e,o.2 _ (by simp)];simp
    · rw [fA,aiQb d,cR,aiQb d,e,o.2 _ (by simp)];simp
  · refine⟨by simp [fA,cR,d,o.1],fun m h=>?_⟩;simp [fA,h,cR,eX,d,o.1]
theorem s8(s:List UInt8):dS s=cR false s:=(BF s).1
theorem B9(s:List UInt8):∀ b,(cR b s).length<=s.length:=by
 induction s with
 | nil=>intro b;simp [cR]
 | cons c s d=>
  intro b;rw [cR];have e:=d false;have h:=d true;split;· split <;> simp <;> omega
  · simp;omega
theorem BA(s:List UInt8):∀ b,∀ w∈cR b s,1<=w.length/\w.length<=24:=by
 induction s with
 | nil=>intro b w h;simp [cR]at h
 | cons c s d=>
  intro b w h;rw [cR]at h;split at h
  · rename_i e;split at h;· exact d true w h
    · rcases fy.1 h with rfl | h;· rw [eX,aiQb e,fj,bgQb,aV];omega
      · exact d true w h
  · exact d false w h
theorem s9(s:List UInt8):∀ w∈dS s,1<=w.length/\w.length<=24:=by rw [s8];exact BA s false
theorem mW(s:List UInt8):(dS s).length<=s.length:=by rw [s8];exact B9 s false
theorem ub{a b:List UInt8}(h:a<=b):a<b\/a=b:=by
 by_cases d:a<b;· exact .inl d
 · exact .inr (List.le_antisymm h (List.not_lt.1 d))
def dK:List (List UInt8)->List UInt8->List (List UInt8)
 | [],s=>[s]
 | t::l,s=>if t<s then t::dK l s else if t=s then t::l else s::t::l
abbrev jq(l:List (List UInt8)):Prop:=l.Pairwise (·<·)
theorem yj(l:List (List UInt8))(s x:List UInt8):x∈dK l s↔x∈l\/x=s:=by
 induction l with
 | nil=>simp [dK]
 | cons t l d=>
  rw [dK];split;· simp [d,or_assoc]
  · split;· rename_i h;subst h;simp;intro e;exact .inl e
    · simp;constructor;· rintro(h | h | h) <;> simp [h]
      · rintro((h | h) | h) <;> simp [h]
theorem Eu(l:List (List UInt8))(s:List UInt8)(h:jq l):jq (dK l s):=by
 induction l with
 | nil=>simp [dK]
 | cons t l o=>
  obtain⟨e,q⟩:=lW.1 h;rw [dK];split
  · rename_i y;refine lW.2 ⟨fun x d=>?_,o q⟩;rcases(yj l s x).1 d with d | rfl;· exact e x d
    · exact y
  · split;· exact h
    · rename_i z A;have m:s<t:=by
       rcases ub (List.not_lt.1 z)with h | h;· exact h
       · exact absurd h.symm A
      refine lW.2 ⟨fun x d=>?_,h⟩;rcases fy.1 d with rfl | d;· exact m
      · exact List.lt_trans m (e x d)
theorem DY(l m:List (List UInt8))(d:jq l)(o:jq m)(h:∀ x,x∈l↔x∈m):l=m:=by
 have q:∀ l:List (List UInt8),jq l->l.Nodup:=fun l h=>h.imp fun {a b} y e=>by subst e;exact mM _ y
 have z:l.Perm m:=(List.perm_ext_iff_of_nodup (q l d) (q m o)).2 h;exact z.eq_of_pairwise (fun _ _ _ _ h k=>absurd (List.lt_trans h k) (mM _)) d o
def bW(l d:List (List UInt8)):List (List UInt8):=d.foldl dK l
theorem tx(d:List (List UInt8)):∀ l,jq l->jq (bW l d):=by
 induction d with
 | nil=>intro l h;exact h
 | cons w d e=>intro l h;exact e _ (Eu l w h)
theorem tz(d:List (List UInt8)):∀ l x,x∈bW l d↔x∈l\/x∈d:=by
 induction d with
 | nil=>intro l x;simp [bW]
 | cons w d e=>intro l x;show x∈bW (dK l w) d↔_;rw [e,yj,fy,or_assoc]
def cB:List (List UInt8)->List (List UInt8)
 | []=>[]
 | [a]=>[a]
 | a::b::l=>if a=b then cB (b::l)else a::cB (b::l)
theorem r9:∀ (l:List (List UInt8)) (x:List UInt8),x∈cB l↔x∈l
 | [],x=>by simp [cB]
 | [a],x=>by simp [cB]
 | a::b::l,x=>by
  rw [cB]
  split
  · rename_i h;subst h;rw [r9];simp
  · rw [fy,r9,fy (a:=x) (b:=a)]
theorem ux:∀ (l:List (List UInt8)),l.Pairwise (·<=·)->jq (cB l)
 | [],_=>by simp [cB]
 | [a],_=>by simp [cB]
 | a::b::l,h=>by
  obtain⟨o,d⟩:=lW.1 h
  rw [cB]
  split
  · exact ux _ d
  · rename_i q
    refine lW.2 ⟨fun x e=>?_,ux _ d⟩
    have m:a<b:=by
     rcases ub (o b (by simp))with h | h
     · exact h
     · exact absurd h q
    rcases fy.1 ((r9 _ x).1 e)with rfl | e
    · exact m
    · have y:=(lW.1 d).1 x e
      rcases ub y with h | h
      · exact List.lt_trans m h
      · subst h;exact m
theorem Hs(l d:List (List UInt8))(e:l.Pairwise (·<=·))(h:l.Perm d):cB l=bW [] d:=
 DY _ _ (ux l e) (tx d [] List.Pairwise.nil) fun x=>by
  rw [r9,tz,h.mem_iff];simp
def iy(d e:List UInt8):List (List UInt8):=bW [] (dS d++(dS e).map fun w=>64::w)
theorem Cy(a b:List UInt8):jq (iy a b):=tx _ _ List.Pairwise.nil
theorem Ev(l:List (List UInt8))(s:List UInt8):(dK l s).length<=l.length+1:=by
 induction l with
 | nil=>simp [dK]
 | cons t l d=>
  rw [dK];split;· simp;omega
  · split <;> simp
theorem nm(d:List (List UInt8)):∀ l,(bW l d).length<=l.length+d.length:=by
 induction d with
 | nil=>intro l;simp [bW]
 | cons w d e=>intro l;have h:=e (dK l w);have m:=Ev l w;show(bW (dK l w) d).length<=_;rw [bgQb];omega
def g6(e:UInt8)(n:Nat)(d:List UInt8):List UInt8:=ay (([e]++ao n++ao d.length)++d)
theorem zn(e:UInt8)(n:Nat)(d:List UInt8)(h:n<18446744073709551616)(m:d.length<18446744073709551616):(g6 e n d).length<=d.length+25:=by
 have o:=aG n h;have q:=aG d.length m;unfold g6 ay;simp only [anQb,bgQb,fz];omega
def eg:List UInt8->List UInt8->Nat
 | a::l,b::m=>if a=b then eg l m+1 else 0
 | _,_=>0
theorem qD:∀ (a b:List UInt8),eg a b<=a.length/\eg a b<=b.length
 | [],b=>by simp [eg]
 | a::l,[]=>by simp [eg]
 | a::l,b::m=>by
  have:=qD l m
  rw [eg]
  split <;> simp <;> omega
theorem th:∀ (a b:List UInt8) (n:Nat),n<=a.length->n<=b.length->(∀ i,i<n->a[i]? = b[i]?)->(n<a.length->n<b.length->a[n]? ≠ b[n]?)->eg a b=n
 | [],b,n,d,_,_,_=>by simp at d;simp [eg,d]
 | a::l,[],n,_,e,_,_=>by simp at e;simp [eg,e]
 | a::l,b::m,n,d,e,h,o=>by
  rw [eg]
  cases n with
  | zero=>
   have:=o (by simp) (by simp)
   rw [ah (by simpa using this)]
  | succ n=>
   have q:=h 0 (by omega)
   rw [aiQb (by simpa using q),th l m n (by simpa using d) (by simpa using e) (fun i A=>by have:=h (i+1) (by omega);simpa using this) (fun y z=>by have:=o (by simpa using y) (by simpa using z);simpa using this)]
def jG:List UInt8->List (List UInt8)->List UInt8
 | _,[]=>[]
 | d,s::l=>(ao (eg d s)++cZ (s.drop (eg d s)))++jG s l
def aI:List (List UInt8)->List UInt8
 | []=>[]
 | s::l=>cZ s++jG s l
theorem Ar:∀ (l:List (List UInt8)) (d s:List UInt8),jG d (l++[s])=jG d l++(ao (eg ((d::l).getLast (by simp)) s)++cZ (s.drop (eg ((d::l).getLast (by simp)) s)))
 | [],d,s=>by simp [jG]
 | x::l,d,s=>by
  rw [lY,jG,jG,Ar l x s,eE]
  simp
theorem Au(l:List (List UInt8))(k:Nat)(m:0<k)(h:k<l.length):aI (l.take (k+1))=aI (l.take k)++(ao (eg l[k - 1] l[k])++cZ (l[k].drop (eg l[k - 1] l[k]))):=by
 cases l with
 | nil=>simp at h
 | cons x l=>
  obtain⟨k,rfl⟩:∃ j,k=j+1:=⟨k - 1,by omega⟩;have d:k<l.length:=(by simpa using h);rw [fj,fj,aI,aI,cL d,Ar,eE];have e:((x::l.take k).getLast (by simp))=(x::l)[k]:=by
   rw [List.getLast_eq_getElem];simp only [bgQb,aV,grQb (Nat.le_of_lt d),Nat.add_sub_cancel]
   cases k with
   | zero=>rfl
   | succ k=>simp
  rw [e];rfl
theorem iV(s:List UInt8)(h:s.length<18446744073709551616):(cZ s).length<=s.length+10:=by
 have:=aG s.length h;unfold cZ;rw [anQb];omega
theorem As(m:Nat)(e:m<1000000):∀ (l:List (List UInt8)) (d:List UInt8),(∀ s∈l,s.length<=m)->(jG d l).length<=l.length*(m+20)
 | [],d,_=>by simp [jG]
 | s::l,d,h=>by
  have y:=As m e l s (fun x o=>h x (by simp [o]))
  have z:=h s (by simp)
  have A:=qD d s
  have D:=aG (eg d s) (by omega)
  have q:=iV (s.drop (eg d s)) (by simp;omega)
  simp only [bN]at q
  rw [jG,anQb,anQb,bgQb,crQb]
  omega
theorem lg(m:Nat)(d:m<1000000)(l:List (List UInt8))(h:∀ s∈l,s.length<=m):(aI l).length<=l.length*(m+20):=by
 cases l with
 | nil=>simp [aI]
 | cons s l=>have o:=As m d l s (fun x e=>h x (by simp [e]));have q:=h s (by simp);have y:=iV s (by omega);rw [aI,anQb,bgQb,crQb];omega
structure TS where
 text:List UInt8
 source:List UInt8
def TS.terms(r:TS):List (List UInt8):=iy r.text r.source
def bO(l:List TS):List (List UInt8):=bW [] (l.flatMap TS.terms)
def aU(l:List TS)(t:List UInt8):List Nat:=(List.range l.length).filter fun i=>match l[i]? with | some r=>decide (t∈r.terms) | none=>false
theorem Es(l a b:List (List UInt8)):bW l (a++b)=bW (bW l a) b:=by unfold bW;rw [mP]
theorem Gq(l:List TS)(k:Nat)(h:k<l.length):bO (l.take (k+1))=bW (bO (l.take k)) l[k].terms:=by
 unfold bO;rw [cL h,List.flatMap_append,Es];simp
theorem zg(l:List TS):jq (bO l):=tx _ _ List.Pairwise.nil
theorem uh(l:List TS)(t:List UInt8):t∈bO l↔∃ r∈l,t∈r.terms:=by
 unfold bO;rw [tz];simp
theorem wQ(r:TS):∀ t∈r.terms,1<=t.length/\t.length<=25:=by
 intro t d;unfold TS.terms iy at d;rw [tz]at d;rcases d with h | h;· cases h
 · rcases ju.1 h with h | h;· have:=s9 r.text t h;omega
   · obtain⟨x,e,rfl⟩:=gtQb.1 h;have:=s9 r.source x e;simp;omega
theorem sU(r:TS):r.terms.length<=r.text.length+r.source.length:=by
 unfold TS.terms iy;refine aqQb (nm _ _) ?_;have d:=mW r.text;have e:=mW r.source;simp;omega
theorem oX(l:List TS):∀ t∈bO l,1<=t.length/\t.length<=25:=by
 intro t d;obtain⟨r,_,h⟩:=(uh l t).1 d;exact wQ r t h
theorem nH(l:List TS):(bO l).length<=aQ (fun r:TS=>r.text.length+r.source.length) l:=by
 unfold bO;refine aqQb (nm _ _) ?_;have:(l.flatMap TS.terms).length<=aQ (fun r:TS=>r.text.length+r.source.length) l:=by
  induction l with
  | nil=>simp [aQ]
  | cons r l d=>have:=sU r;simp only [List.flatMap_cons,anQb,aQ,fLQb,lV]at *;omega
 simp only [fz];omega
theorem re(l:List TS)(t:List UInt8):∀ i∈aU l t,i<l.length:=by
 intro i d;unfold aU at d;exact kg.1 (List.mem_filter.1 d).1
theorem rb(l:List TS)(t:List UInt8)(i:Nat)(h:i<l.length):i∈aU l t↔t∈l[i].terms:=by
 unfold aU;rw [List.mem_filter];simp [h]
theorem Gs(l:List TS)(t:List UInt8)(h:t∈bO l):aU l t≠[]:=by
 obtain⟨r,d,m⟩:=(uh l t).1 h;obtain⟨i,o,rfl⟩:=mK.1 d;intro e;have:=(rb l t i o).2 m;rw [e]at this;cases this
theorem xX(d:Nat):∀ (l:List Nat) (e:Nat),l.Pairwise (·<·)->(∀ x∈l,e<=x/\x<d)->bQ d e l=true
 | [],_,_,_=>rfl
 | x::l,e,q,h=>by
  obtain⟨z,A⟩:=lW.1 q
  have m:=h x (by simp)
  rw [bQ,bs m.1,bs m.2,xX d l (x+1) A (fun y o=>⟨z y o,(h y (by simp [o])).2⟩)]
  rfl
theorem Gr(l:List TS)(t:List UInt8):bQ l.length 0 (aU l t)=true:=
 xX _ _ _ (by unfold aU;exact List.pairwise_lt_range.filter _) (fun x d=>⟨apQb _,re l t x d⟩)
theorem zh(l:List TS)(t:List UInt8)(k:Nat)(h:k<l.length):aU (l.take (k+1)) t=aU (l.take k) t++(if t∈l[k].terms then [k]else []):=by
 have m:(l.take k).length=k:=by simp;omega
 have o:(l.take (k+1)).length=k+1:=by simp;omega
 unfold aU;rw [m,o,jt,List.filter_append];congr 1;· apply List.filter_congr;intro i q;have y:=kg.1 q;rw [List.getElem?_take_of_lt y,List.getElem?_take_of_lt (by omega)]
 · rw [List.filter_cons];have e:(l.take (k+1))[k]? = some l[k]:=(by rw [List.getElem?_take_of_lt (by omega),bo h]);rw [e];by_cases d:t∈l[k].terms;· simp [d]
   · simp [d]
theorem zA(w e:Nat):∀ (l:List Nat) (m d:Nat),bQ e m l=true->d<=m / 2 ^ w->d<=e->(fG w d l).length<=l.length+(e - d)
 | [],_,_,_,_,_=>by simp [fG]
 | x::l,m,d,h,q,y=>by
  rw [bQ]at h
  simp only [f8,fi]at h
  have z:=kf w
  have A:m / 2 ^ w<=x / 2 ^ w:=pP h.1.1
  have D:x / 2 ^ w<=x:=jO _ _
  have o:x / 2 ^ w<=(x+1) / 2 ^ w:=pP (by omega)
  have F:=zA w e l (x+1) (x / 2 ^ w) h.2 o (by omega)
  rw [fG,anQb,sE,bgQb]
  omega
theorem GO(d:Nat)(l:List Nat)(h:d<=20000)(e:bQ d 0 l=true):(fF d l).length<=2*d+10:=by
 have y:=qK d l 0 (apQb _) e;have z:=aG l.length (by omega);unfold fF;rw [anQb];split;· simp;omega
 · rename_i m;have o:0<l.length:=oq.2 m;have A:d / l.length<=20000:=aqQb (jO _ _) h;have q:d / l.length≠0:=(by have:1<=d / l.length:=(vI o).2 (by omega);omega);have D:Nat.log2 (d / l.length)<15:=(Nat.log2_lt q).2 (by omega);have F:=zA (Nat.log2 (d / l.length)) d l 0 0 e (apQb _) (apQb _);have G:=un (Nat.log2 (d / l.length)) l;have I:l.length*Nat.log2 (d / l.length)<=l.length*14:=pM _ (by omega);rw [jb,anQb];omega
def gy(d:Nat)(e:List (List Nat)):List UInt8:=(e.map (fF d)).flatten
def Fy(d s:List UInt8):Bool:=decide (¬s=[]) && decide (s.length<=25) && decide (d<s)
def tP(d:Cs)(part e:List UInt8)(first:Bool):Nat × Cs:=if first then(0,d)else d.int part e.length
def oL(d:Cs)(part e:List UInt8)(first:Bool):List UInt8 × Cs:=(tP d part e first).2.text part 25
def tO(d:Cs)(part e:List UInt8)(first:Bool):List UInt8:=e.take (tP d part e first).1++(oL d part e first).1
def Fg(d:Cs)(part e:List UInt8)(first:Bool):Bool:=
 decide (¬(oL d part e first).1=[]) && Fy e (tO d part e first) && (first || decide (eg e (tO d part e first)=(tP d part e first).1))
def tQ(d:Cs)(part e:List UInt8)(first:Bool):Cs:=
 if(oL d part e first).2.er=0/\Fg d part e first=false then⟨(oL d part e first).2.at_,2⟩else(oL d part e first).2
def rr(part:List UInt8):Nat->Nat->Cs->List (List UInt8)->List (List UInt8) × Nat
 | 0,_,d,t=>(t,(d.fin part).er)
 | k+1,i,d,t=>
  if(tQ d part (t.getLastD []) (decide (i=0))).er=0 then rr part k (i+1) (tQ d part (t.getLastD []) (decide (i=0))) (t++[tO d part (t.getLastD []) (decide (i=0))])
  else(t,(tQ d part (t.getLastD []) (decide (i=0))).er)
def wW(b:List UInt8):Nat->Cs->List Nat->List Nat × Cs
 | 0,s,l=>(l,s)
 | k+1,s,l=>if s.er=0 then wW b k (s.int b 2000).2 (l++[(s.int b 2000).1])else(l,s)
def zL(b:List UInt8)(size n:Nat):List Nat->Nat->Cs->List (List UInt8)->List (List UInt8) × Cs × Nat
 | [],_,s,t=>(t,s,s.er)
 | k::r,i,s,t=>
  if (s.take b k).2.er = 0 then
   (if (rr (s.take b k).1 (min size (n - i * size)) 0 ⟨0, 0⟩ t).2 = 0 then zL b size n r (i + 1) (s.take b k).2 (rr (s.take b k).1 (min size (n - i * size)) 0 ⟨0, 0⟩ t).1
    else ([], (s.take b k).2, (rr (s.take b k).1 (min size (n - i * size)) 0 ⟨0, 0⟩ t).2))
  else([],(s.take b k).2,(s.take b k).2.er)
def ut(b:List UInt8):Nat × Cs:=(⟨0,0⟩:Cs).int b 1048576
def zK(size:Nat)(b:List UInt8):List Nat × Cs:=wW b (((ut b).1+size - 1) / size) (ut b).2 []
def rx(size:Nat)(b:List UInt8):List (List UInt8) × Cs × Nat:=zL b size (ut b).1 (zK size b).1 0 (zK size b).2 []
def kZ(size:Nat)(b:List UInt8):List (List UInt8) × Nat × Nat:=
 if(rx size b).2.2=0 then((rx size b).1,(rx size b).2.1.at_,0)else([],0,(rx size b).2.2)
def qV(d:Nat)(b:List UInt8):Nat->Nat->List (List Nat)->List (List Nat) × Nat
 | 0,a,e=>if a<b.length then([],2)else(e,0)
 | k+1,a,e=>
  if (pf d (b.drop a)).2.2 = 0 then
   (if(pf d (b.drop a)).1=[]then([],2)else qV d b k (a+(pf d (b.drop a)).2.1) (e++[(pf d (b.drop a)).1]))
  else([],(pf d (b.drop a)).2.2)
def tB(size d:Nat)(b:List UInt8):List (List UInt8) × List (List Nat) × Nat:=
 if (kZ size b).2.2 = 0 then
  (if (qV d (b.drop (kZ size b).2.1) (kZ size b).1.length 0 []).2 = 0 then ((kZ size b).1, (qV d (b.drop (kZ size b).2.1) (kZ size b).1.length 0 []).1, 0)
   else ([], [], (qV d (b.drop (kZ size b).2.1) (kZ size b).1.length 0 []).2))
 else([],[],(kZ size b).2.2)
def wi(z:Nat):Nat:=if z % 2=1 then 18446744073709551615 - z / 2 else z / 2
def wN(b:List UInt8):Nat->Cs->Nat->List Nat->List Nat × Cs
 | 0,s,_,d=>(d,s)
 | k+1,s,e,d=>if s.er=0 then wN b k (s.num b).2 ((e+wi (s.num b).1) % 18446744073709551616) (d++[(e+wi (s.num b).1) % 18446744073709551616])else(d,s)
def yN(b:List UInt8)(s:Cs):Nat:=(s.byte b).1
def oP(b:List UInt8)(n:Nat)(s:Cs)(d:List UInt8):Nat × Cs:=(s.byte b).2.int b (n - d.length)
def FA(b:List UInt8)(n:Nat)(s:Cs)(d:List UInt8):Cs:=
 if(oP b n s d).2.er=0/\((oP b n s d).1=0\/(0<d.length/\(d.getLastD 0).toNat=yN b s))then⟨(oP b n s d).2.at_,2⟩else(oP b n s d).2
def yM(b:List UInt8)(n:Nat):Nat->Cs->List UInt8->List UInt8 × Cs
 | 0,s,d=>(d,s)
 | f+1,s,d=>if d.length<n/\s.er=0 then yM b n f (FA b n s d) (d++List.replicate (oP b n s d).1 (UInt8.ofNat (yN b s)))else(d,s)
def zV(n:Nat)(b:List UInt8):List Nat × Cs:=wN b n ⟨0,0⟩ 0 []
def rA(n:Nat)(b:List UInt8):List UInt8 × Cs:=yM b n n (zV n b).2 []
def pr(n:Nat)(b:List UInt8):List Nat × List UInt8 × Nat × Nat:=
 if(rA n b).2.er=0 then((zV n b).1,(rA n b).1,(rA n b).2.at_,0)else([],[],0,(rA n b).2.er)
def zH(b:List UInt8)(d:Nat):Nat->Cs->List Nat->List Nat->List Nat × List Nat × Cs
 | 0,s,e,h=>(e,h,s)
 | k+1,s,e,h=>if s.er=0 then zH b d k ((s.int b d).2.int b 8388608).2 (e++[(s.int b d).1]) (h++[((s.int b d).2.int b 8388608).1])else(e,h,s)
def jW(b:List UInt8):Nat × Cs:=(⟨0,0⟩:Cs).int b 20000
def zG(b:List UInt8):Nat × Cs:=(jW b).2.int b (jW b).1
def lL(b:List UInt8):List Nat × List Nat × Cs:=zH b (jW b).1 (zG b).1 (zG b).2 [] []
def pq(b:List UInt8):Nat × Cs:=(lL b).2.2.int b 8388608
def ru(b:List UInt8):Nat × Cs:=(pq b).2.int b 8388608
def zI(b:List UInt8)(d:Nat):Nat:=
 if ((ru b).2.fin b).er = 0 then
  (if 0∈(lL b).1\/¬(lL b).1.sum=(jW b).1\/¬(lL b).2.1.sum+(pq b).1+(ru b).1=d then 2 else 0)
 else((ru b).2.fin b).er
def zO:List Nat->List UInt8->List (List UInt8)
 | [],_=>[]
 | z::d,b=>b.take z::zO d (b.drop z)
structure Lw where
 counts:List Nat
 sizes:List Nat
 cols:Nat
 index:Nat
 frames:List (List UInt8)
 times:List Nat
 levels:List UInt8
 terms:List (List UInt8)
 lists:List (List Nat)
def um(b:List UInt8):Nat:=ue (b.drop (b.length - 4))
def zm(b:List UInt8):List UInt8:=(b.take (b.length - 4)).drop (b.length - 4 - um b)
def zk(b:List UInt8):Nat:=if b.length<4 then 1 else if b.length - 4<um b then 1 else fw (zm b)
def pD(b:List UInt8):List UInt8:=b.take (b.length - 4 - um b)
def gD(b:List UInt8):List UInt8:=eN (zm b)
def A0(b:List UInt8):Nat:=(lL (gD b)).2.1.sum
def rL(b:List UInt8):List UInt8:=((pD b).drop (A0 b)).take (pq (gD b)).1
def pE(b:List UInt8):List UInt8:=(pD b).drop (A0 b+(pq (gD b)).1)
def zW(n:Nat)(c:List UInt8):Nat:=
 if fw c=0 then(if(pr n (eN c)).2.2.2=0 then(if(pr n (eN c)).2.2.1<(eN c).length then 2 else 0)else(pr n (eN c)).2.2.2)else fw c
def LP(d:Nat)(b:List UInt8):Nat:=
 if zk b = 0 then
  (if zI (gD b) (pD b).length = 0 then
   (if zW (jW (gD b)).1 (rL b) = 0 then
    (if fw (pE b) = 0 then (tB d (jW (gD b)).1 (eN (pE b))).2.2 else fw (pE b))
    else zW (jW (gD b)).1 (rL b))
   else zI (gD b) (pD b).length)
 else zk b
def tM(d:Nat)(b:List UInt8):Lw:=
 ⟨(lL (gD b)).1, (lL (gD b)).2.1, (pq (gD b)).1, (ru (gD b)).1, zO (lL (gD b)).2.1 (pD b),
  (pr (jW (gD b)).1 (eN (rL b))).1, (pr (jW (gD b)).1 (eN (rL b))).2.1,
  (tB d (jW (gD b)).1 (eN (pE b))).1, (tB d (jW (gD b)).1 (eN (pE b))).2.1⟩
def nD(r:List UInt8)(n:Nat):Nat->Nat->List UInt8->Bool->List UInt8 × Nat × Nat
 | 0,a,d,_=>(d,a,0)
 | f+1,a,d,e=>
  if n<=d.length then(d,a,0)
  else if 8*r.length<a+4 then([],a,1)
  else if 0<dL r a 4 then nD r n f (a+4) (d++[UInt8.ofNat (dL r a 4)]) false
  else if 8*r.length<a+4+6 then([],a,1)
  else if e=true\/n - d.length<=dL r (a+4) 6 then([],a,7)
  else nD r n f (a+4+6) (d++List.replicate (dL r (a+4) 6+1) 0) (decide (dL r (a+4) 6+1<64))
def yP(r:List UInt8)(n a:Nat):List UInt8 × Nat × Nat:=
 if(nD r n n a [] false).2.2=0 then(if cH (nD r n n a [] false).1 then nD r n n a [] false else([],a,7))else nD r n n a [] false
def sS(r:List UInt8)(a:Nat):Nat:=min 15 (8*r.length - a)
def dI(d r:List UInt8)(a:Nat):Nat × Nat × Nat:=
 match Gv d (dL r a 15) (sS r a)with
 | some s=>(s,a+eH d s,0)
 | none=>(0,a,if ED d (dL r a (sS r a)) (sS r a)then 1 else 7)
def nA(e r:List UInt8)(d a:Nat):bF × Nat × Nat:=
 if 8*r.length<a+(d - 257)then(⟨0,0,0⟩,a,1)
 else if (dI e r (a + (d - 257))).2.2 = 0 then
  (if 8 * r.length < (dI e r (a + (d - 257))).2.1 + (dI e r (a + (d - 257))).1 then (⟨0, 0, 0⟩, a, 1)
   else (⟨0, 2 + 2 ^ (d - 257) + dL r a (d - 257), 2 ^ (dI e r (a + (d - 257))).1 + dL r (dI e r (a + (d - 257))).2.1 (dI e r (a + (d - 257))).1⟩,
    (dI e r (a + (d - 257))).2.1 + (dI e r (a + (d - 257))).1, 0))
 else(⟨0,0,0⟩,a,(dI e r (a+(d - 257))).2.2)
def ul(t:bF):Nat:=max 1 t.len
def sO(d e r:List UInt8):Nat->Nat->Nat->List bF->List bF × Nat × Nat
 | 0,_,a,h=>(h,a,0)
 | f+1,m,a,h=>
  if (dI d r a).2.2 = 0 then
   (if (dI d r a).1 = 256 then (h, (dI d r a).2.1, 0)
    else if (dI d r a).1 < 256 then
     (if m < 1 then ([], a, 6) else sO d e r f (m - 1) (dI d r a).2.1 (h ++ [⟨UInt8.ofNat (dI d r a).1, 0, 0⟩]))
    else if (nA e r (dI d r a).1 (dI d r a).2.1).2.2 = 0 then
     (if m < ul (nA e r (dI d r a).1 (dI d r a).2.1).1 then ([], a, 6)
      else sO d e r f (m - ul (nA e r (dI d r a).1 (dI d r a).2.1).1) (nA e r (dI d r a).1 (dI d r a).2.1).2.1 (h ++ [(nA e r (dI d r a).1 (dI d r a).2.1).1]))
    else ([], a, (nA e r (dI d r a).1 (dI d r a).2.1).2.2))
  else([],a,(dI d r a).2.2)
def EF(r:List UInt8)(a:Nat):Bool:=decide (8*r.length<a+8) && decide (dL r a (8*r.length - a)=0)
def qn(r:List UInt8):List UInt8 × Nat × Nat:=yP r 265 0
def qq(r:List UInt8):List UInt8 × Nat × Nat:=yP r 12 (qn r).2.1
def qo(r:List UInt8)(d:Nat):List bF × Nat × Nat:=sO (qn r).1 (qq r).1 r (8*r.length+1) d (qq r).2.1 []
def mZ(r:List UInt8)(d:Nat):List bF × Nat:=
 if (qn r).2.2 = 0 then
  (if (qq r).2.2 = 0 then
   (if (qo r d).2.2 = 0 then (if EF r (qo r d).2.1 then ((qo r d).1, 0) else ([], 2)) else ([], (qo r d).2.2))
   else ([], (qq r).2.2))
 else([],(qn r).2.2)
def zQ(d:Nat):Nat->List UInt8->List UInt8
 | 0,e=>e
 | n+1,e=>zQ d n (e++[e.getD (e.length - d) 0])
def nt(e:Nat):List bF->List UInt8->List UInt8 × Nat
 | [],d=>(d,0)
 | t::l,d=>
  if ft t=false then([],7)
  else if d.length<t.dist then([],8)
  else if e<d.length+ul t then([],6)
  else if t.len=0 then nt e l (d++[t.lit])else nt e l (zQ t.dist t.len d)
def ej(b:List UInt8):Nat × Cs:=(⟨0,0⟩:Cs).byte b
def lP(b:List UInt8):Cs:=if 1<(ej b).1 then(ej b).2.fail 2 else(ej b).2
def el(b:List UInt8):Nat × Cs:=(lP b).int b 32768
def dP(b:List UInt8):Nat × Cs:=(el b).2.int b 32768
def jl(b:List UInt8):Cs:=if 1032*(dP b).1+64<(el b).1 then(dP b).2.fail 6 else(dP b).2
def go(b:List UInt8):List UInt8 × Cs:=(jl b).take b (dP b).1
def fV(b:List UInt8):List UInt8 × Cs:=(go b).2.take b 4
def iM(b:List UInt8):Nat:=if(fV b).2.er=0 then fw (b.take (fV b).2.at_)else(fV b).2.er
def Ck(n:Nat)(d:List UInt8):List UInt8 × Nat:=
 if (mZ d n).2 = 0 then
  (if(nt n (mZ d n).1 []).2=0 then(if(nt n (mZ d n).1 []).1.length<n then([],2)else((nt n (mZ d n).1 []).1,0))else([],(nt n (mZ d n).1 []).2))
 else([],(mZ d n).2)
def fh(b:List UInt8):List UInt8 × Nat:=
 if(ej b).1=0 then(if(el b).1=(dP b).1 then((go b).1,0)else([],2))else Ck (el b).1 (go b).1
def bX(b:List UInt8):List UInt8 × Nat × Nat:=
 if iM b=0 then(if(fh b).2=0 then((fh b).1,(fV b).2.at_,0)else([],0,(fh b).2))else([],0,iM b)
def yg(b:List UInt8):Nat->Cs->List (List UInt8 × List UInt8)->List (List UInt8 × List UInt8) × Nat
 | 0,s,d=>(d,s.er)
 | f+1,s,d=>
  if b.length<=s.at_ then(d,0)
  else if((s.text b 4000).2.text b 4000).2.er=0 then yg b f ((s.text b 4000).2.text b 4000).2 (d++[((s.text b 4000).1,((s.text b 4000).2.text b 4000).1)])
  else([],((s.text b 4000).2.text b 4000).2.er)
def LM(b:List UInt8):List (List UInt8 × List UInt8) × Nat:=yg b (b.length+1) ⟨0,0⟩ []
def C3(s:List UInt8):Bool:=
 match s with
 | []=>false
 | c::r=>if c=64 then qQ r == some r else qQ s == some s
structure jp where
 op:Int
 n:Int
 word:List UInt8
 fa:UInt64
 fb:UInt64
 deriving DecidableEq
def DZ(s:jp):Bool:=
 if s.op=1\/s.op=2 then decide (s.n=0/\(s.fa.toNat:Int)=0/\(s.fb.toNat:Int)=0) && C3 s.word
 else if s.op=3\/s.op=4 then decide (s.n=0/\s.word=[])
 else if s.op=6\/s.op=7 then decide (s.word=[]/\(s.fa.toNat:Int)=0/\(s.fb.toNat:Int)=0/\2<=s.n)
 else decide (s.op=5/\s.word=[]/\(s.fa.toNat:Int)=0/\(s.fb.toNat:Int)=0/\s.n=0)
def wS(s:jp):Int:=if s.op=5 then 1 else if s.op=6\/s.op=7 then s.n else 0
def LG(s:jp):Int:=if s.op=5 then 1 else s.n
def xA:List Nat->List jp->Option (List Nat)
 | d,[]=>some d
 | d,s::r=>if DZ s=false\/(d.length:Int)<wS s then none else xA (Ez d (wS s).toNat) r
def He:Option (List Nat)->Except Int Nat
 | some [d]=>.ok d
 | _=>.error 10
def Hc(q:List jp):Except Int Nat:=if 1000<q.length then .error 6 else He (xA [] q)
def LU(q:List jp):Int:=
 match Hc q with
 | .error n=>n
 | .ok d=>if 64<d then 11 else 0
def Df(op:Int)(n:Nat):jp:=⟨op,n,[],0,0⟩
def lI(op:Int)(d:List (List jp)):List jp:=d.flatten++if 1<d.length then [Df op d.length]else []
def Ds(s:List UInt8):Option (List UInt8):=
 match s with
 | []=>none
 | c::r=>if c=64 then(qQ r).map fun w=>64::w else qQ s
def LQ(op:Int)(s:List UInt8):List jp:=
 match Ds s with
 | some w=>[⟨op,0,w,0,0⟩]
 | none=>[]
def LK(op:Int)(a b:UInt64):jp:=⟨op,0,[],a,b⟩
end Go.Fk
