/- Lemmas. -/
import Derived.Test.YtmcaneofjlhhmaaGreatDoorChecked
import Derived.Test.YtmcaneofjlhhmaaGreatDoorM00
import Derived.Test.YtmcaneofjlhhmaaGreatDoorM09
set_option linter.all false
set_option maxHeartbeats 8000000
set_option maxRecDepth 100000
namespace Go.Fk
def γ{p:Prop}(h:p:=by go_num):p:=h
def μ{p:Prop}(h:p:=by simp[intOf];omega):p:=h
abbrev dN:=@List.take_of_length_le
abbrev dt:=@Go.Value.slice.injEq
abbrev kO:=@List.drop_eq_getElem_cons
abbrev iK:=@List.append_assoc
abbrev lp:=@List.mem_singleton
abbrev kK:=@List.not_mem_nil
abbrev qR:=@List.drop_length
abbrev zC:=@Array.getElem?_toList
open Go.RowKit
def af{w:World}{g:Nat}{d:Array Value}{T:TypeId}{p:Nat × Nat}{v:Value}(h:w.heap[g]?=some (.cells d T p))(i:Nat)(e:d.toList[i]?=some v):w.cell? ⟨g,i,none⟩=some v:=by rw[aG h,<- zC];exact e
end Go.Fk
namespace Go.Proofs
open RowKit Fk Tryz
abbrev sJ:=@underlying22
abbrev uAA:=@underlying49
abbrev uAB:=@underlying44
abbrev uAC:=@underlying40
abbrev uAD:=@underlying25
abbrev uAE:=@underlying42
abbrev uAF:=@underlying165
abbrev uAG:=@underlying47
abbrev uAH:=@underlying295
abbrev uAI:=@underlying9
abbrev uAJ:=@underlying72
abbrev uAK:=@underlying226
abbrev uAL:=@underlying26
abbrev uAM:=@underlying45
def eB:aJ prog UInt8:=⟨5,1,1,0,.int .u8 0,λc=>[u8 c],by kernel_rfl,δ,δ,by simp[Value.cells],λ_=>rfl,by intro x u hu;simp at hu;subst hu;rfl⟩
def eS:aJ prog U0:=⟨9,1,16,[],.string ⟨#[]⟩,λc=>[S c],by kernel_rfl,δ,δ,by simp[Value.cells],λ_=>rfl,by intro x u hu;simp at hu;subst hu;rfl⟩
structure aQ where
 time:UInt64
 level:UInt8
 source:U0
 text:U0
 deriving DecidableEq
def aQ.cells(r:aQ):List Value:=[.int .u64 r.time.toNat,u8 r.level,S r.source,S r.text]
def eR:aJ prog aQ:=⟨54,4,48,⟨0,0,[],[]⟩,.agg #[.int .u64 0,.int .u8 0,.string ⟨#[]⟩,.string ⟨#[]⟩],aQ.cells,by kernel_rfl,δ,δ,by simp[Value.cells,aQ.cells],λ_=>rfl,by intro x u hu;simp only[aQ.cells,pC,kK,or_false]at hu;rcases hu with rfl | rfl | rfl | rfl <;> rfl⟩
def eJ:aJ prog Nat:=⟨3,1,8,0,.int .i64 0,λn=>[N n],by kernel_rfl,δ,δ,by simp[Value.cells],λ_=>rfl,by intro x u d;simp at d;subst d;rfl⟩
def FQ(d:Int):List aQ->Int
 | []=>d
 | r::l=>if d>1099511627776\/(r.source.length:Int)>1099511627776\/(r.text.length:Int)>1099511627776 then 2199023255552 else FQ (d+16+r.source.length+r.text.length) l
def mM{w:World}{v:Value}{l:List aQ}(h:ao w eR v l)(k:Nat)(f:k<l.length):∃b d o,v=.slice (some ⟨b,d,none⟩) l.length o/\w.cell? ⟨b,d+k*4,none⟩=some (.int .u64 l[k].time.toNat)/\w.cell? ⟨b,d+k*4+1,none⟩=some (u8 l[k].level)/\w.cell? ⟨b,d+k*4+2,none⟩=some (S l[k].source)/\w.cell? ⟨b,d+k*4+3,none⟩=some (S l[k].text):=by
 obtain⟨b,d,o,rfl,D,F,m⟩:=h.cells (by intro e;simp[e]at f);have p:=m k f 0 δ _ rfl;have q:=m k f 1 δ _ rfl;have z:=m k f 2 δ _ rfl;have A:=m k f 3 δ _ rfl;exact⟨b,d,o,rfl,p,q,z,A⟩
def Ro(s:kE):List Value:=[.int .i64 s.op,.int .i64 s.n,S s.word,.int .u64 s.fa.toNat,.int .u64 s.fb.toNat]
abbrev Rn(s:kE):Value:=.agg #[.int .i64 s.op,.int .i64 s.n,S s.word,.int .u64 s.fa.toNat,.int .u64 s.fb.toNat]
def eI:aJ prog Int:=⟨3,1,8,0,.int .i64 0,λn=>[.int .i64 n],by kernel_rfl,δ,δ,by simp[Value.cells],λ_=>rfl,by intro x u d;simp at d;subst d;rfl⟩
def yA(c:UInt8):(c.toNat:Int)<=255/\(0:Int)<=c.toNat:=by have:=c.toNat_lt;omega
def Gi(c:UInt8)(w:World)(h:dC c=true):Calls prog 199 #[u8 c] w λe w'=>e=.returned (.tuple #[u8 (sm c),.bool true])/\w=w':=by
 have m:=yA c;rw[rS]at h;have d:=vU c;have H:Hid (((sm c).toNat:Int)=if 65<=c.toNat/\c.toNat<=90 then(c.toNat:Int)+32 else c.toNat):=by show _=_;rw[d];split <;> rfl
 clear d;obtain⟨o,p⟩:=m;go_in;go_wp2_with fail;all_goals(first | omega | skip)
 all_goals go_ret2
 all_goals refine⟨?_,rfl⟩
 all_goals unfold u8;rw[H.out]
 all_goals split
 all_goals first | rfl | omega
def Gj(c:UInt8)(w:World)(h:dC c=false):Calls prog 199 #[u8 c] w λe w'=>e=.returned (.tuple #[.int .u8 0,.bool false])/\w=w':=by
 have d:=yA c;rw[Ld]at h;obtain⟨m,o⟩:=d;go_in;go_wp2_with fail;all_goals(first | omega | skip)
 all_goals go_ret2
 all_goals exact⟨rfl,rfl⟩
def I0(c:UInt8)(w:World):Calls prog 225 #[u8 c] w λe w'=>e=.returned (u8 (lU c))/\w=w':=by
 have d:=yA c;obtain⟨m,o⟩:=d;have H:Hid (((lU c).toNat:Int)=if 65<=c.toNat/\c.toNat<=90 then(c.toNat:Int)+32 else if(97<=c.toNat/\c.toNat<=122)\/(48<=c.toNat/\c.toNat<=57)then(c.toNat:Int)else 0):=by
  show _=_;unfold lU;split;·next h=>rw[rS]at h;rw[vU];split <;> first | omega | (split <;> omega)
  ·next h=>rw[rS]at h;have z:(0:UInt8).toNat=0:=rfl;rw[z];split <;> first | omega | (split <;> omega)
 go_in;go_wp2_with fail;all_goals go_ret
 all_goals refine⟨?_,rfl⟩
 all_goals unfold u8;rw[H.out]
 all_goals split
 all_goals first | omega | rfl | (split <;> first | omega | rfl)
def RX:Option U0->Value
 | some r=>.tuple #[S r,.bool true]
 | none=>.tuple #[S [],.bool false]
def Jc(v:Value)(d:List U0)(s:U0)(w:World)(o:ao w eS v d):Calls prog 94 #[v,S s] w λe w'=>e=.returned (.bool (decide (s∈d)))/\w=w':=by
 obtain⟨a,G,rfl,I,A,J⟩:=o.shape;unfold maxLen at A;go_in;go_wp2_with fail;go_loop [5] (λi=>∃k:Nat,k<=d.length/\i=N k/\Hid (s ∉ d.take k)) (λi=>d.length-(intOf i).toNat);·exact⟨0,ax _,rfl,ad σ⟩
 ·
  obtain⟨k,K,rfl,p⟩:=hrel;by_cases h:k<d.length
  ·obtain⟨b,L,M,q,_,_,z⟩:=o.at1 S rfl (by intro e;simp[e]at h);simp only[dt]at q;obtain⟨rfl,_,rfl⟩:=q;have O:=z k h;clear z;by_cases m:d[k]=s;·have D:s∈d:=m ▸ co h;have F:(d[k] == s)=true:=(by simp[m]);go_wp2;go_ret;exact⟨rfl,rfl⟩
   ·have F:(d[k] == s)=false:=(by simp[m]);go_wp2_with fail;go_round;·exact⟨k+1,ω,γ,ad (by rw[ea h];simp only[iI,lp,not_or];exact⟨p.out,λe=>m e.symm⟩)⟩
    ·exact μ
  ·have D:s ∉ d:=(by have:=p.out;rwa [dN ω]at this);go_wp2;go_ret;exact⟨rfl,rfl⟩
def D5{f:FuncId}{d:Func}{c:Code}(e:prog.funcs[f]?=some d)(h:(d.name == "runtime.NumGoroutine")=false)(m:d.body=some c)(args:Array Value)(w:World):(callFunc f args).run prog w=.ok (.enter f args) w:=by
 have o:d.name≠ "runtime.NumGoroutine":=by simpa using h
 simp[callFunc,e,o,m,mark]
structure uD (k:Nat) (caps:Array Value) (I:List U0->(Nat->Prop)->World->Prop):Prop where
 loc:∀ {ws F G w w'},I ws F w->ag G w w'->(∀b,F b->¬G b)->I ws F w'
 bd:∀ {ws F w},I ws F w->∀b,F b->b<w.heap.size
 call : ∀ {ws F w} (x : U0), I ws F w → x.length ≤ 24 → ws.length ≤ 2000000000 → Calls prog k (#[S x] ++ caps) w λe w' => e = .returned (.tuple #[]) ∧
  ∃F',I (ws++[x]) F' w'/\ag F w w'/\(∀b,F' b->F b\/w.heap.size<=b)
def SI(I:List U0->(Nat->Prop)->World->Prop)(B:Nat)(e:Value)(f:U0)(h:List U0)(F:Nat->Prop)(w:World):Prop:=
 w.heap[B]?=some (.cells #[e] 195 (0,0)) /\
 (∃d,w.heap[B+1]?=some (.cells #[d] 22 (0,0))/\Ow w (B+2) eB d f/\(∀b,d.ownBlock=some b->¬F b)) /\
 I h F w/\¬F B/\¬F (B+1)
def lA(d:U0):List U0:=if d=[]then []else [d.take 24]
def Ag{k:Nat}{R:Array Value}{I:List U0->(Nat->Prop)->World->Prop}(L:uD k R I)(a7:∀args w,(callFunc k args).run prog w=.ok (.enter k args) w)(B:Nat)(d:U0)(D:List U0)(F:Nat->Prop)(w:World)
  (h:SI I B (.func (.func k) #[] R) d D F w) (hlen:D.length<=2000000000) (hr:d.length<=2147483648) :
  Calls prog 198 #[.pointer (some ⟨B+1,0,none⟩),.pointer (some ⟨B,0,none⟩)] w λe w'=>e=.returned (.tuple #[]) /\
   ∃G,SI I B (.func (.func k) #[] R) [] (D++lA d) G w'/\ag (λb=>F b\/b=B+1) w w'/\(∀b,G b->F b\/w.heap.size<=b):=by
 obtain⟨U,⟨rv,M,z,V⟩,Z,W,J⟩:=h;have c0:=af U 0 rfl;have c1:=af M 0 rfl;have f1:w.frozen? ⟨B+1,0,none⟩=false:=aB M 0;have H1:=ad U;have K:=ad M;clear U M;by_cases X:d=[]
 ·subst X;obtain⟨a,q,rfl⟩:=z.shape';have h0:((0:Int)<([]:U0).length)=False:=σ;go_in;go_wp2;go_end0;have p:=ay w ⟨B+1,0,none⟩ (.slice a 0 q);have am:B+1<w.heap.size:=(aX.1 K.out).1;have ap:=z.ne_cells K.out δ;refine⟨rfl,F,⟨p.heap H1.out σ,⟨_,by rw[aI K.out];rfl,?_,V⟩,?_,W,J⟩,?_,λb o=>.inl o⟩;·exact z.chg p (by intro b o e;simp at e;subst e;exact ap o)
  ·rw[show D++lA []=D by simp[lA]];exact L.loc Z p (by intro b o e;simp at e;subst e;exact J o)
  ·exact p.mono (λb _ h=>.inr h)
 ·obtain⟨g,q,rfl,bc,av,bd,az⟩:=z.atHead X;unfold maxLen at az;have hp:0<d.length:=(by cases d <;> simp_all);have a0:∃m:Nat,(d.take 24).length=m/\(if(24:Int)<d.length then(24:Int)else d.length)=m/\m<=q/\m<=d.length:=(by refine⟨min 24 d.length,σ,?_,ω,ω⟩;split <;> omega);obtain⟨m,ab,hm,bk,a1⟩:=a0;have bl:(m:Int)<=q:=ω;have ac:d.take m=d.take 24:=(by rw[<- ab,aP,<- List.take_eq_take_min]);have ah:ao w eB (.slice (some ⟨g,0,none⟩) m q) (d.take 24):=(by rw[<- ac];exact z.see.take a1);have a2:=vX eB w.drew 22 9 sJ underlying5 uAI rfl rfl ah.drew;have HX:Hid ((d.take 24).length<=24):=(by show _<=_;simp;omega);clear ac ab ah;generalize hx:d.take 24=x at a2 HX;have a3:=ad hx;clear hx;go_in;go_upto_region 1 with fail;go_still_tail 7,(by kernel_rfl);change wpList _ _ _ _ _ w.drew;go_wp2_with fail;refine(L.call x (L.loc Z (rY (λ_=>False) w 1) (λ_ _ h=>h)) HX.out hlen).mono ?_;rintro e A ⟨rfl,G,hI,hc,hF⟩;have O:ag F w A:=(rY F w 1).trans hc (λ_ _ h=>h);have bm:w.heap.size<=A.heap.size:=hc.size;have Y:Hid (A.heap[B+1]?=some (.cells #[.slice (some ⟨g,0,none⟩) d.length q] 22 (0,0))):=O.heap K.out J;have d1:A.cell? ⟨B+1,0,none⟩=some (.slice (some ⟨g,0,none⟩) d.length q):=(by rw[aG Y.out];rfl);have e1:A.frozen? ⟨B+1,0,none⟩=false:=aB Y.out 0;have a4:=ad hI;clear hI;go_wp2;go_end0;have am:B+1<w.heap.size:=(aX.1 K.out).1;have Q:∀b,b<w.heap.size->¬F b->¬G b:=by
   intro b o hn h;rcases hF b h with h | h;·exact hn h
   ·have:(w.drewN 1).heap.size=w.heap.size:=rfl;omega
  have p:=ay A ⟨B+1,0,none⟩ (.slice (some ⟨g,0,none⟩) 0 q);refine⟨rfl,G,⟨?_,⟨_,by rw[aI Y.out];rfl,?_,?_⟩,?_,Q _ ω W,Q _ ω J⟩,?_,λb o=>(hF b o)⟩;·exact p.heap (O.heap H1.out W) σ
  ·have h8:=(z.chg O (by intro b o;exact V b o)).take (j:=0) (ax _);exact(h8.chg p (by intro b o e;simp only[Value.ownBlock,ji]at o;simp at e;omega))
  ·intro b o;simp only[Value.ownBlock,ji]at o;subst o;exact Q _ av (V _ rfl)
  ·unfold lA;rw[ae X,a3.out];exact L.loc a4.out p (by intro b o e;simp at e;subst e;exact Q _ ω J o)
  ·exact(O.mono (λb _ h=>.inl h)).trans p (λb _ h=>.inr h)
def Bi(d:U0):lA (d.map sm)=if d=[]then []else [(d.map sm).take 24]:=by
 unfold lA;cases d <;> simp
def Gf(d:U0):gU d []=lA (d.map sm):=by rw[Bi,gU]
def Ge(d s:U0)(i:Nat)(h:i<s.length)(e:dC s[i]=true):gU d (s.drop i)=gU (d++[s[i]]) (s.drop (i+1)):=by
 rw[kO h,gU,an e]
def Gd(d s:U0)(i:Nat)(h:i<s.length)(e:dC s[i]=false):gU d (s.drop i)=lA (d.map sm)++gU [] (s.drop (i+1)):=by
 rw[kO h,gU,e,Bi];rfl
def I3(d:U0):(lA d).length<=1:=by unfold lA;split <;> simp
def AK{k:Nat}{U:Array Value}{I:List U0->(Nat->Prop)->World->Prop}(z:uD k U I)(al:∀args w,(callFunc k args).run prog w=.ok (.enter k args) w)(s:U0)(A:List U0)(F:Nat->Prop)(w:World)
  (h:I A F w) (hlen:A.length+s.length<=2000000000) :
  Calls prog 135 #[S s,.func (.func k) #[] U] w λe w'=>e=.returned (.tuple #[]) /\
   ∃m,I (A++fU s) m w'/\ag F w w'/\(∀b,m b->F b\/w.heap.size<=b):=by
 have bc:∀(fn:Fn) (first G:Array Value) (w:World),(Instr.makeFunc fn first G).run prog w=.ok (.func fn first G) w:=λ_ _ _ _=>rfl;have ap:=z.bd h;go_in;go_wp2_with fail
 go_loopw [12] (fun V wr => ∃ (i : Nat) (o : List UInt8) (p : List (List UInt8)) (m : Nat → Prop), i ≤ s.length ∧ V = N i ∧ SI I w.heap.size (.func (.func k) #[] U) (o.map sm) p m wr ∧
     Hid (A ++ fU s = p ++ gU o (s.drop i)) ∧ ag F w wr ∧ (∀b, m b → F b ∨ w.heap.size ≤ b) ∧ p.length ≤ A.length + i ∧ o.length ≤ i)
  (λV _=>s.length-(intOf V).toNat)
 ·
  refine⟨0,[],A,F,ax _,rfl,⟨?_,⟨.slice none 0 0,?_,Ow.nil,by intro b d;cases d⟩,?_,?_,?_⟩,ad rfl,?_,λb d=>.inl d,ω,σ⟩;·rw[gn _ _ _ σ,aD _ _ _ rfl]
  ·rw[aD _ _ _ σ]
  ·exact z.loc h ((((Fr.refl w).alloc _).alloc _).chg (λ_=>False)) (λ_ _ h=>h)
  ·intro d;have:=ap _ d;omega
  ·intro d;have:=ap _ d;omega
  ·exact(((Fr.refl w).alloc _).alloc _).chg F
 ·
  obtain⟨i,o,p,m,hi,rfl,av,W,J,hF,be,bf⟩:=hrel;have X:=ad av;clear av;by_cases az:i<s.length
  ·cases M:dC s[i]with
   | true=>
    have Y:=ad (Ge o s i az M);obtain⟨h1,⟨Z,h2,O,h4⟩,h5,h6,h7⟩:=X.out;have c1:=af h2 0 rfl;have H1:=ad h1;have H2:=ad h2;clear h1 h2;go_wp2_with fail;refine(Gi s[i] _ M).mono ?_;rintro e w' ⟨rfl,rfl⟩;go_wp2_with (at_builtin;refine bA eB rfl (.tmp 23) (.tmp 25) 22 rfl sJ (w.heap.size+2) rfl O [sm s[i]] _ _ _ rfl rfl rfl ?c1 ?c2 ?_);case c1=>simp;omega
    case c2=>have:=(aX.1 H2.out).1;omega
    intro v' D q;have a7:=O.ne_cells H2.out δ;have Q:Hid (D.heap[w.heap.size+1]?=some (.cells #[Z] 22 (0,0))):=q.chg'.heap H2.out a7;have d1:D.cell? ⟨w.heap.size+1,0,none⟩=some Z:=(by rw[aG Q.out];rfl);have e1:D.frozen? ⟨w.heap.size+1,0,none⟩=false:=aB Q.out 0;obtain⟨a,n',G,rfl⟩:=q.own.shape;go_wp2;go_roundw
    ·
     have R:=ay D ⟨w.heap.size+1,0,none⟩ (.slice a n' G);have a8:=q.own.ne_cells Q.out δ;have bm:∀b,Z.ownBlock=some b->¬m b:=h4;have a9:=z.bd h5;have aC:∀b,(Value.slice a n' G).ownBlock=some b->¬m b:=by
      intro b d a5;rcases q.fresh b d with h | h;·exact h4 b h a5
      ·have:=a9 b a5;omega
     refine⟨i+1,o++[s[i]],p,m,ω,γ,⟨?_,⟨_,by rw[aI Q.out];rfl,?_,?_⟩,?_,h6,h7⟩,ad (by rw[W.out,Y.out]),?_,hF,ω,by simp;omega⟩;·exact R.heap (q.chg'.heap H1.out (O.ne_cells H1.out δ)) σ
     ·rw[gq];exact q.own.chg R (by intro b d e;simp at e;subst e;exact a8 d)
     ·exact aC
     ·refine z.loc (z.loc h5 q.chg' (λb d e=>h4 b e d)) R (by intro b d e;simp at e;subst e;exact h7 d)
     ·refine(J.trans q.chg' ?_).trans R ?_;·intro b d e;have:=(O.lt b e).1;omega
      ·intro b d e;simp at e;omega
    ·exact μ
   | false=>
    have Y:=ad (Gd o s i az M);go_wp2_with fail;refine(Gj s[i] _ M).mono ?_;rintro e w' ⟨rfl,rfl⟩;go_wp2_with fail;refine(Ag z al w.heap.size (o.map sm) p m _ X.out ω (by simp;omega)).mono ?_;rintro e D ⟨rfl,F2,K,ai,L⟩;have aj:=ad K;have ak:=ad L;clear K L;go_wp2;go_roundw
    ·
     have ba:=J.size;refine⟨i+1,[],_,F2,ω,γ,aj.out,ad (by rw[W.out,Y.out];simp),J.trans ai ?_,?_,by have:=I3 (o.map sm);simp;omega,σ⟩
     ·intro b d e;rcases e with e | e
      ·rcases hF b e with h | h;·exact h
       ·omega
      ·omega
     ·intro b d;rcases ak.out b d with h | h;·exact hF b h
      ·right;omega
    ·exact μ
  ·obtain rfl:i=s.length:=ω;have HE:Hid (A++fU s=p++lA (o.map sm)):=ad (by rw[W.out,qR,Gf]);go_wp2_with fail;refine(Ag z al w.heap.size (o.map sm) p m _ X.out ω (by simp;omega)).mono ?_;rintro e D ⟨rfl,F2,K,ai,L⟩;have aj:=ad K;have ak:=ad L;clear K L;go_wp2;go_end0;have ba:=J.size;refine⟨rfl,F2,?_,J.trans ai ?_,?_⟩;·rw[HE.out];exact aj.out.2.2.1
   ·intro b d e;rcases e with e | e
    ·rcases hF b e with h | h;·exact h
     ·omega
    ·omega
   ·intro b d;rcases ak.out b d with h | h;·exact hF b h
    ·right;omega
def jA(d:Nat)(f:List U0)(g:U0->U0)(h:List U0)(F:Nat->Prop)(w:World):Prop:=
 ∃e,w.heap[d]?=some (.cells #[e] 44 (0,0))/\Ow w (d+1) eS e (f++h.map g)/\(∀b,F b↔b=d\/e.ownBlock=some b)
def jA.loc{e:Nat}{f:List U0}{g:U0->U0}{m:List U0}{F G:Nat->Prop}{w w':World}(h:jA e f g m F w)(o:ag G w w')(p:∀b,F b->¬G b):jA e f g m F w':=by
 obtain⟨q,z,A,d⟩:=h;exact⟨q,o.heap z (p _ ((d _).2 (.inl rfl))),A.chg o (λb D=>p _ ((d _).2 (.inr D))),d⟩
def jA.bd{d:Nat}{f:List U0}{g:U0->U0}{m:List U0}{F:Nat->Prop}{w:World}(h:jA d f g m F w)(b:Nat)(o:F b):b<w.heap.size:=by
 obtain⟨A,p,q,z⟩:=h;rcases(z b).1 o with e | e;·rw[e];exact(aX.1 p).1
 ·exact(q.lt b e).2
def jA.put{d:Nat}{p:List U0}{g:U0->U0}{q:List U0}{w o:World}{f:Value}{a:Option Addr}{n m:Nat}{x:U0}
  (h1:w.heap[d]?=some (.cells #[f] 44 (0,0))) (h2:Ow w (d+1) eS f (p++q.map g)) (ha:dF (d+1) eS (p++q.map g++[g x]) w f (.slice a n m) o) :
  ∃z,jA d p g (q++[x]) z (o.setCell ⟨d,0,none⟩ (.slice a n m))/\ag (λb=>b=d\/f.ownBlock=some b) w (o.setCell ⟨d,0,none⟩ (.slice a n m))/\(∀b,z b->(b=d\/f.ownBlock=some b)\/w.heap.size<=b):=by
 have F:=h2.ne_cells h1 δ;have A:=ha.chg'.heap h1 F;have G:=ha.own.ne_cells A δ;have D:=ay o ⟨d,0,none⟩ (.slice a n m);refine⟨λb=>b=d\/(Value.slice a n m).ownBlock=some b,⟨_,by rw[aI A];rfl,?_,λb=>Iff.rfl⟩,?_,?_⟩;·rw[gq,<- iK];exact ha.own.chg D (by intro b I e;simp at e;subst e;exact G I)
 ·exact(ha.chg'.mono (G':=λb=>b=d\/f.ownBlock=some b) (λb _ h=>.inr h)).trans D (λb _ h=>.inl h)
 ·rintro b (e | e);·exact .inl (.inl e)
  ·rcases ha.fresh b e with h | h;·exact .inl (.inr h)
   ·exact .inr h
def qr(l:U0):U0:=l
def OJ(K L:Value)(d lb:List aQ)(w:World)(M:ao w eR K d)(O:ao w eR L lb)(hl:d.length<=1000000000):Calls prog 7 #[K,L] w λe w'=>e=.returned (.bool (decide (d=lb)))/\Fr w w':=by
 obtain⟨aa,ca,a0,bc,bd,be⟩:=M.shape;obtain⟨ab,cb,a1,bl,bm,bq⟩:=O.shape;subst a0 a1;go_in;by_cases A:d.length=lb.length
 ·have a2:=(by simp[A]:((d.length:Int) == lb.length)=true);have Q:=ad A;clear A;go_wp2;go_loopw [5] (λD wr=>∃k:Nat,k<=d.length/\D=N k/\Hid (d.take k=lb.take k)/\Fr w wr) (λD _=>d.length-(intOf D).toNat);·exact⟨0,ax _,rfl,rfl,Fr.refl w⟩
  ·
   obtain⟨k,hk,rfl,R,z⟩:=hrel;by_cases U:k<d.length
   ·have V:k<lb.length:=(by have:=Q.out;omega);obtain⟨b1,o1,bv,a3,W,X,c2,Y⟩:=mM (M.fr z) k U;obtain⟨b2,o2,b3,a4,Z,d1,d2,d3⟩:=mM (O.fr z) k V;obtain⟨⟨t1,l1,s1,x1⟩,F⟩:∃r,d[k]=r:=⟨_,rfl⟩;obtain⟨⟨t2,l2,s2,x2⟩,G⟩:∃q,lb[k]=q:=⟨_,rfl⟩;rw[F]at W X c2 Y;rw[G]at Z d1 d2 d3;simp only at W X c2 Y Z d1 d2 d3;have i1:(0:Int)<=k:=ω;have i2:(k:Int)<d.length:=ω;have i3:(k:Int)<lb.length:=ω;have o:=ad F;have p:=ad G;clear F G;cases a3;cases a4;by_cases I:t1=t2
    ·subst I;by_cases J:l1=l2
     ·subst J;by_cases e3:s1=s2
      ·subst e3;by_cases e4:x1=x2
       ·subst e4;have HK:Hid (d.take (k+1)=lb.take (k+1)):=ad (by rw[ea U,ea V,R.out,o.out,p.out]);clear o p;go_wp2;go_quiet (fail);go_wp2;go_roundw;·exact⟨k+1,ω,γ,HK,z.drewN _⟩
        ·exact μ
       ·have m:Hid (decide (d=lb)=false):=(by show _=_;simp;intro e;subst e;exact e4 (by have:=o.out.symm.trans p.out;simp at this;simp[this]));clear o p;go_wp2;go_quiet (fail);go_wp2;go_ret;exact⟨by rw[m.out];rfl,z.drewN _⟩
      ·have m:Hid (decide (d=lb)=false):=(by show _=_;simp;intro e;subst e;exact e3 (by have:=o.out.symm.trans p.out;simp at this;simp[this]));clear o p;go_wp2;go_quiet (fail);go_wp2;go_ret;exact⟨by rw[m.out];rfl,z.drewN _⟩
     ·have b7:¬((l1.toNat:Int)=l2.toNat):=λh=>J (fO.1 ω);have m:Hid (decide (d=lb)=false):=(by show _=_;simp;intro e;subst e;exact J (by have:=o.out.symm.trans p.out;simp at this;simp[this]));clear o p;go_wp2;go_quiet (fail);go_wp2;go_ret;exact⟨by rw[m.out];rfl,z.drewN _⟩
    ·have b9:¬((t1.toNat:Int)=t2.toNat):=λh=>I (UInt64.toNat_inj.1 ω);have m:Hid (decide (d=lb)=false):=(by show _=_;simp;intro e;subst e;exact I (by have:=o.out.symm.trans p.out;simp at this;simp[this]));clear o p;go_wp2;go_quiet (fail);go_wp2;go_ret;exact⟨by rw[m.out];rfl,z.drewN _⟩
   ·have m:Hid (decide (d=lb)=true):=(by show _=_;simp;have h1:=R.out;rw[dN ω,dN (by have:=Q.out;omega)]at h1;exact h1);go_wp2;go_ret;exact⟨by rw[m.out];rfl,z⟩
 ·have a2:=(by simp;omega:((d.length:Int) == lb.length)=false);have m:Hid (decide (d=lb)=false):=(by show _=_;simp;intro e;exact A (by rw[e]));clear A;go_wp2;go_ret;exact⟨by rw[m.out];rfl,Fr.refl _⟩
