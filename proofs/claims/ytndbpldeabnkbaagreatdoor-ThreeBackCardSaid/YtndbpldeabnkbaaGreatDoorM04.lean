/- Lemmas for ThreeTurned. -/
import Derived.Test.YtndbpldeabnkbaaGreatDoorChecked
import Derived.Test.YtndbpldeabnkbaaGreatDoorM03
import Derived.Test.YtndbpldeabnkbaaGreatDoorM02
set_option linter.all false
set_option maxHeartbeats 8000000
set_option maxRecDepth 100000
namespace Go.Fk
def γ{p:Prop}(h:p:=by go_num):p:=h
def μ{p:Prop}(h:p:=by simp[intOf];omega):p:=h
abbrev ax:=@Go.IntWalk.i64_in
abbrev iU:=@List.not_mem_nil
abbrev nL:=@List.drop_length
open Go.RowKit
def ag{w:World}{g:Nat}{d:Array Value}{T:TypeId}{p:Nat × Nat}{v:Value}(h:w.heap[g]?=some (.cells d T p))(i:Nat)(e:d.toList[i]?=some v):w.cell? ⟨g,i,none⟩=some v:=by rw[aK h,<- Array.getElem?_toList];exact e
end Go.Fk
namespace Go.Proofs.YtndbpldeabnkbaaGreatDoor
open Go.RowKit Go.Fk
def eB:aw Tryz.prog UInt8:=⟨5,1,1,0,.int .u8 0,λc=>[u8 c],by kernel_rfl,δ,δ,by simp[Value.cells],λ_=>rfl,by intro x u hu;simp at hu;subst hu;rfl⟩
def eS:aw Tryz.prog Z0:=⟨9,1,16,[],.string ⟨#[]⟩,λc=>[S c],by kernel_rfl,δ,δ,by simp[Value.cells],λ_=>rfl,by intro x u hu;simp at hu;subst hu;rfl⟩
structure aq where
 time:UInt64
 level:UInt8
 source:Z0
 text:Z0
 deriving DecidableEq
def aq.cells(r:aq):List Value:=[.int .u64 r.time.toNat,u8 r.level,S r.source,S r.text]
def eR:aw Tryz.prog aq:=⟨62,4,48,⟨0,0,[],[]⟩,.agg #[.int .u64 0,.int .u8 0,.string ⟨#[]⟩,.string ⟨#[]⟩],aq.cells,by kernel_rfl,δ,δ,by simp[Value.cells,aq.cells],λ_=>rfl,by intro x u hu;simp only[aq.cells,gR,iU,or_false]at hu;rcases hu with rfl | rfl | rfl | rfl <;> rfl⟩
def eJ:aw Tryz.prog Nat:=⟨3,1,8,0,.int .i64 0,λn=>[N n],by kernel_rfl,δ,δ,by simp[Value.cells],λ_=>rfl,by intro x u d;simp at d;subst d;rfl⟩
def je(d:Int):List aq->Int
 | []=>d
 | r::l=>if d>1099511627776\/(r.source.length:Int)>1099511627776\/(r.text.length:Int)>1099511627776 then 2199023255552 else je (d+16+r.source.length+r.text.length) l
def no{w:World}{v:Value}{l:List aq}(h:ah w eR v l)(k:Nat)(m:k<l.length):∃b d z,v=.slice (some ⟨b,d,none⟩) l.length z/\w.cell? ⟨b,d+k*4,none⟩=some (.int .u64 l[k].time.toNat)/\w.cell? ⟨b,d+k*4+1,none⟩=some (u8 l[k].level)/\w.cell? ⟨b,d+k*4+2,none⟩=some (S l[k].source)/\w.cell? ⟨b,d+k*4+3,none⟩=some (S l[k].text):=by
 obtain⟨b,d,z,rfl,I,J,o⟩:=h.cells (by intro e;simp[e]at m);have A:=o k m 0 δ _ rfl;have D:=o k m 1 δ _ rfl;have F:=o k m 2 δ _ rfl;have G:=o k m 3 δ _ rfl;exact⟨b,d,z,rfl,A,D,F,G⟩
def Wc(v:Value)(l:List aq)(w:World)(A:ah w eR v l)(R:l.length<=1000):Calls Tryz.prog 17 #[v] w λe w'=>e=.returned (.int .i64 (je 0 l))/\Fr w w':=by
 obtain⟨a,U,rfl,V,X,Y⟩:=A.shape;go_in;go_wp2;go_loopw [3,4] (λI z wr=>∃(k:Nat) (d:Nat),k<=l.length/\z=N k/\I=N (d:Nat)/\d<=k*4398046511104/\je 0 l=je (d:Nat) (l.drop k)/\Fr w wr) (λ_ z _=>l.length-(intOf z).toNat);case atStart=>exact⟨0,0,ar _,rfl,rfl,ω,rfl,Fr.refl w⟩
 case round=>
  obtain⟨k,d,Z,rfl,rfl,aa,h,m⟩:=hrel;by_cases D:k<l.length
  ·obtain⟨b,ab,ac,J,K,L,c2,M⟩:=no (A.fr m) k D;rw[gE D,je]at h;obtain⟨r,F⟩:∃r,l[k]=r:=⟨_,rfl⟩;rw[F]at K L c2 M h;have o:=ad h;clear h F;cases J;by_cases G:(1099511627776:Int)<d;·have aj:(d:Int)>1099511627776:=G;go_wp2;go_ret;exact⟨dp (λx=>Ending.returned (Value.int .i64 x)) (o.out.trans (af (.inl G))).symm,m⟩
   ·by_cases O:(1099511627776:Int)<r.source.length;·go_wp2;go_ret;exact⟨dp (λx=>Ending.returned (Value.int .i64 x)) (o.out.trans (af (.inr (.inl O)))).symm,m⟩
    ·by_cases Q:(1099511627776:Int)<r.text.length;·go_wp2;go_ret;exact⟨dp (λx=>Ending.returned (Value.int .i64 x)) (o.out.trans (af (.inr (.inr Q)))).symm,m⟩
     ·have ak:=ax ((d:Int)+16) ω;have ap:=ax ((d:Int)+16+r.source.length) ω;have av:=ax ((d:Int)+16+r.source.length+r.text.length) ω;go_upto_region 7 with fail;go_quiet (fail);go_wp2;go_roundw;case rel=>refine⟨k+1,d+16+r.source.length+r.text.length,ω,γ,by simp[N],ω,?_,by first | exact m.drewN _ | exact m⟩;rw[o.out,ae ω];simp
      case measure=>exact μ
  ·obtain rfl:k=l.length:=ω;rw[nL,je]at h;have o:=ad h;clear h;go_wp2;go_ret;exact⟨dp (λx=>Ending.returned (Value.int .i64 x)) o.out.symm,m⟩
def JB(v:Value)(l:List aq)(w:World)(d:ah w eR v l)(a c:Nat)(z:a<=1000):Calls Tryz.prog 6 #[v,N a,N c] w λe w'=>e=.returned (.bool (decide (a<l.length) || decide ((c:Int)<je 0 l)))/\Fr w w':=by
 obtain⟨p,A,rfl,D,F,G⟩:=d.shape;go_in;by_cases h:a<l.length;·have m:(a:Int)<l.length:=ω;go_wp2;go_ret;exact⟨by simp[h],Fr.refl w⟩
 ·have m:¬(a:Int)<l.length:=ω;go_wp2_with fail;refine(Wc _ l _ d ω).mono ?_;rintro e w' ⟨rfl,o⟩;go_wp2;go_ret;exact⟨by simp[h],o⟩
def I4(c:UInt8):(c.toNat:Int)<=255/\(0:Int)<=c.toNat:=by have:=c.toNat_lt;omega
def K4(c:UInt8)(w:World)(h:kp c=true):Calls Tryz.prog 162 #[u8 c] w λe w'=>e=.returned (.tuple #[u8 (sm c),.bool true])/\w=w':=by
 have m:=I4 c;rw[Gs]at h;have d:=Nf c;have H:Hid (((sm c).toNat:Int)=if 65<=c.toNat/\c.toNat<=90 then(c.toNat:Int)+32 else c.toNat):=by show _=_;rw[d];split <;> rfl
 clear d;obtain⟨o,z⟩:=m;go_in;go_wp2_with fail;all_goals(first | omega | skip)
 all_goals go_ret2
 all_goals refine⟨?_,rfl⟩
 all_goals unfold u8;rw[H.out]
 all_goals split
 all_goals first | rfl | omega
def K5(c:UInt8)(w:World)(h:kp c=false):Calls Tryz.prog 162 #[u8 c] w λe w'=>e=.returned (.tuple #[.int .u8 0,.bool false])/\w=w':=by
 have d:=I4 c;rw[R1]at h;obtain⟨m,o⟩:=d;go_in;go_wp2_with fail;all_goals(first | omega | skip)
 all_goals go_ret2
 all_goals exact⟨rfl,rfl⟩
def YC:Option Z0->Value
 | some r=>.tuple #[S r,.bool true]
 | none=>.tuple #[S [],.bool false]
def Hb{f:FuncId}{d:Func}{c:Code}(e:Tryz.prog.funcs[f]?=some d)(h:(d.name == "runtime.NumGoroutine")=false)(m:d.body=some c)(args:Array Value)(w:World):(callFunc f args).run Tryz.prog w=.ok (.enter f args) w:=by
 have o:d.name≠ "runtime.NumGoroutine":=by simpa using h
 simp[callFunc,e,o,m,mark]
structure yN (k:Nat) (caps:Array Value) (I:List Z0->(Nat->Prop)->World->Prop):Prop where
 loc:∀ {ws F G w w'},I ws F w->ai G w w'->(∀b,F b->¬G b)->I ws F w'
 bd:∀ {ws F w},I ws F w->∀b,F b->b<w.heap.size
 call : ∀ {ws F w} (x : Z0), I ws F w → x.length ≤ 24 → ws.length ≤ 2000000000 → Calls Tryz.prog k (#[S x] ++ caps) w λe w' => e = .returned (.tuple #[]) ∧
  ∃F',I (ws++[x]) F' w'/\ai F w w'/\(∀b,F' b->F b\/w.heap.size<=b)
def SI(I:List Z0->(Nat->Prop)->World->Prop)(B:Nat)(e:Value)(h:Z0)(m:List Z0)(F:Nat->Prop)(w:World):Prop:=
 w.heap[B]?=some (.cells #[e] 192 (0,0)) /\
 (∃d,w.heap[B+1]?=some (.cells #[d] 30 (0,0))/\Ow w (B+2) eB d h/\(∀b,d.ownBlock=some b->¬F b)) /\
 I m F w/\¬F B/\¬F (B+1)
def nO(d:Z0):List Z0:=if d=[]then []else [d.take 24]
def Do{k:Nat}{V:Array Value}{I:List Z0->(Nat->Prop)->World->Prop}(O:yN k V I)(bl:∀args w,(callFunc k args).run Tryz.prog w=.ok (.enter k args) w)(B:Nat)(d:Z0)(J:List Z0)(F:Nat->Prop)(w:World)
  (h:SI I B (.func (.func k) #[] V) d J F w) (hlen:J.length<=2000000000) (hr:d.length<=2147483648) :
  Calls Tryz.prog 161 #[.pointer (some ⟨B+1,0,none⟩),.pointer (some ⟨B,0,none⟩)] w λe w'=>e=.returned (.tuple #[]) /\
   ∃K,SI I B (.func (.func k) #[] V) [] (J++nO d) K w'/\ai (λb=>F b\/b=B+1) w w'/\(∀b,K b->F b\/w.heap.size<=b):=by
 obtain⟨X,⟨rv,Q,D,Y⟩,h5,Z,L⟩:=h;have c0:=ag X 0 rfl;have c1:=ag Q 0 rfl;have f1:w.frozen? ⟨B+1,0,none⟩=false:=a8 Q 0;have H1:=ad X;have M:=ad Q;clear X Q;by_cases aa:d=[]
 ·subst aa;obtain⟨a,A,rfl⟩:=D.shape';have h0:((0:Int)<([]:Z0).length)=False:=σ;go_in;go_wp2;go_end0;have z:=a9 w ⟨B+1,0,none⟩ (.slice a 0 A);have a4:B+1<w.heap.size:=(aR.1 M.out).1;have a5:=D.ne_cells M.out δ;refine⟨rfl,F,⟨z.heap H1.out σ,⟨_,by rw[aJ M.out];rfl,?_,Y⟩,?_,Z,L⟩,?_,λb o=>.inl o⟩;·exact D.chg z (by intro b o e;simp at e;subst e;exact a5 o)
  ·rw[show J++nO []=J by simp[nO]];exact O.loc h5 z (by intro b o e;simp at e;subst e;exact L o)
  ·exact z.mono (λb _ h=>.inr h)
 ·obtain⟨g,A,rfl,bx,a6,b0,a7⟩:=D.atHead aa;unfold maxLen at a7;have hp:0<d.length:=(by cases d <;> simp_all);have aC:∃m:Nat,(d.take 24).length=m/\(if(24:Int)<d.length then(24:Int)else d.length)=m/\m<=A/\m<=d.length:=(by refine⟨min 24 d.length,σ,?_,ω,ω⟩;split <;> omega);obtain⟨m,ak,hm,b3,ba⟩:=aC;have b4:(m:Int)<=A:=ω;have ap:d.take m=d.take 24:=(by rw[<- ak,aA,<- List.take_eq_take_min]);have av:ah w eB (.slice (some ⟨g,0,none⟩) m A) (d.take 24):=(by rw[<- ap];exact D.see.take ba);have bb:=Ez eB w.drew 30 9 Tryz.underlying30 Tryz.underlying5 Tryz.underlying9 rfl rfl av.drew;have HX:Hid ((d.take 24).length<=24):=(by show _<=_;simp;omega);clear ap ak av;generalize hx:d.take 24=x at bb HX;have bc:=ad hx;clear hx;go_in;go_upto_region 1 with fail;go_still_tail 7,(by kernel_rfl);change wpList _ _ _ _ _ w.drew;go_wp2_with fail;refine(O.call x (O.loc h5 (vI (λ_=>False) w 1) (λ_ _ h=>h)) HX.out hlen).mono ?_;rintro e G ⟨rfl,K,hI,hc,hF⟩;have R:ai F w G:=(vI F w 1).trans hc (λ_ _ h=>h);have b5:w.heap.size<=G.heap.size:=hc.size;have ab:Hid (G.heap[B+1]?=some (.cells #[.slice (some ⟨g,0,none⟩) d.length A] 30 (0,0))):=R.heap M.out L;have d1:G.cell? ⟨B+1,0,none⟩=some (.slice (some ⟨g,0,none⟩) d.length A):=(by rw[aK ab.out];rfl);have e1:G.frozen? ⟨B+1,0,none⟩=false:=a8 ab.out 0;have bd:=ad hI;clear hI;go_wp2;go_end0;have a4:B+1<w.heap.size:=(aR.1 M.out).1;have U:∀b,b<w.heap.size->¬F b->¬K b:=by
   intro b o hn h;rcases hF b h with h | h;·exact hn h
   ·have:(w.drewN 1).heap.size=w.heap.size:=rfl;omega
  have z:=a9 G ⟨B+1,0,none⟩ (.slice (some ⟨g,0,none⟩) 0 A);refine⟨rfl,K,⟨?_,⟨_,by rw[aJ ab.out];rfl,?_,?_⟩,?_,U _ ω Z,U _ ω L⟩,?_,λb o=>(hF b o)⟩;·exact z.heap (R.heap H1.out Z) σ
  ·have h8:=(D.chg R (by intro b o;exact Y b o)).take (j:=0) (ar _);exact(h8.chg z (by intro b o e;simp only[Value.ownBlock,mU]at o;simp at e;omega))
  ·intro b o;simp only[Value.ownBlock,mU]at o;subst o;exact U _ a6 (Y _ rfl)
  ·unfold nO;rw[ae aa,bc.out];exact O.loc bd.out z (by intro b o e;simp at e;subst e;exact U _ ω L o)
  ·exact(R.mono (λb _ h=>.inl h)).trans z (λb _ h=>.inr h)
def E7(d:Z0):nO (d.map sm)=if d=[]then []else [(d.map sm).take 24]:=by
 unfold nO;cases d <;> simp
def K0(d:Z0):jf d []=nO (d.map sm):=by rw[E7,jf]
def Kz(d s:Z0)(i:Nat)(h:i<s.length)(e:kp s[i]=true):jf d (s.drop i)=jf (d++[s[i]]) (s.drop (i+1)):=by
 rw[gE h,jf,af e]
def Ky(d s:Z0)(i:Nat)(h:i<s.length)(e:kp s[i]=false):jf d (s.drop i)=nO (d.map sm)++jf [] (s.drop (i+1)):=by
 rw[gE h,jf,e,E7];rfl
def N7(d:Z0):(nO d).length<=1:=by unfold nO;split <;> simp
def DZ{k:Nat}{X:Array Value}{I:List Z0->(Nat->Prop)->World->Prop}(D:yN k X I)(a3:∀args w,(callFunc k args).run Tryz.prog w=.ok (.enter k args) w)(s:Z0)(G:List Z0)(F:Nat->Prop)(w:World)
  (h:I G F w) (hlen:G.length+s.length<=2000000000) :
  Calls Tryz.prog 119 #[S s,.func (.func k) #[] X] w λe w'=>e=.returned (.tuple #[]) /\
   ∃m,I (G++jt s) m w'/\ai F w w'/\(∀b,m b->F b\/w.heap.size<=b):=by
 have bx:∀(fn:Fn) (first K:Array Value) (w:World),(Instr.makeFunc fn first K).run Tryz.prog w=.ok (.func fn first K) w:=λ_ _ _ _=>rfl;have a5:=D.bd h;go_in;go_wp2_with fail
 go_loopw [12] (fun Y wr => ∃ (i : Nat) (o : List UInt8) (z : List (List UInt8)) (m : Nat → Prop), i ≤ s.length ∧ Y = N i ∧ SI I w.heap.size (.func (.func k) #[] X) (o.map sm) z m wr ∧
     Hid (G ++ jt s = z ++ jf o (s.drop i)) ∧ ai F w wr ∧ (∀b, m b → F b ∨ w.heap.size ≤ b) ∧ z.length ≤ G.length + i ∧ o.length ≤ i)
  (λY _=>s.length-(intOf Y).toNat)
 case atStart=>
  refine⟨0,[],G,F,ar _,rfl,⟨?_,⟨.slice none 0 0,?_,Ow.nil,by intro b d;cases d⟩,?_,?_,?_⟩,ad rfl,?_,λb d=>.inl d,ω,σ⟩;·rw[jk _ _ _ σ,aB _ _ _ rfl]
  ·rw[aB _ _ _ σ]
  ·exact D.loc h ((((Fr.refl w).alloc _).alloc _).chg (λ_=>False)) (λ_ _ h=>h)
  ·intro d;have:=a5 _ d;omega
  ·intro d;have:=a5 _ d;omega
  ·exact(((Fr.refl w).alloc _).alloc _).chg F
 case round=>
  obtain⟨i,o,z,m,hi,rfl,a6,Z,L,hF,b1,b2⟩:=hrel;have HS:=ad a6;clear a6;by_cases a7:i<s.length
  ·cases Q:kp s[i]with
   | true=>
    have HW:=ad (Kz o s i a7 Q);obtain⟨h1,⟨rv,h2,R,h4⟩,h5,h6,h7⟩:=HS.out;have c1:=ag h2 0 rfl;have H1:=ad h1;have H2:=ad h2;clear h1 h2;go_wp2_with fail;refine(K4 s[i] _ Q).mono ?_;rintro e w' ⟨rfl,rfl⟩;go_wp2_with (at_builtin;refine cW eB rfl (.tmp 23) (.tmp 25) 30 rfl Tryz.underlying30 (w.heap.size+2) rfl R [sm s[i]] _ _ _ rfl rfl rfl ?c1 ?c2 ?_);case c1=>simp;omega
    case c2=>have:=(aR.1 H2.out).1;omega
    intro v' J A;have bl:=R.ne_cells H2.out δ;have U:Hid (J.heap[w.heap.size+1]?=some (.cells #[rv] 30 (0,0))):=A.chg'.heap H2.out bl;have d1:J.cell? ⟨w.heap.size+1,0,none⟩=some rv:=(by rw[aK U.out];rfl);have e1:J.frozen? ⟨w.heap.size+1,0,none⟩=false:=a8 U.out 0;obtain⟨a,n',K,rfl⟩:=A.own.shape;go_wp2;go_roundw
    case rel=>
     have V:=a9 J ⟨w.heap.size+1,0,none⟩ (.slice a n' K);have bm:=A.own.ne_cells U.out δ;have b5:∀b,rv.ownBlock=some b->¬m b:=h4;have bn:=D.bd h5;have bs:∀b,(Value.slice a n' K).ownBlock=some b->¬m b:=by
      intro b d bf;rcases A.fresh b d with h | h;·exact h4 b h bf
      ·have:=bn b bf;omega
     refine⟨i+1,o++[s[i]],z,m,ω,γ,⟨?_,⟨_,by rw[aJ U.out];rfl,?_,?_⟩,?_,h6,h7⟩,ad (by rw[Z.out,HW.out]),?_,hF,ω,by simp;omega⟩;·exact V.heap (A.chg'.heap H1.out (R.ne_cells H1.out δ)) σ
     ·rw[eD];exact A.own.chg V (by intro b d e;simp at e;subst e;exact bm d)
     ·exact bs
     ·refine D.loc (D.loc h5 A.chg' (λb d e=>h4 b e d)) V (by intro b d e;simp at e;subst e;exact h7 d)
     ·refine(L.trans A.chg' ?_).trans V ?_;·intro b d e;have:=(R.lt b e).1;omega
      ·intro b d e;simp at e;omega
    case measure=>exact μ
   | false=>
    have HW:=ad (Ky o s i a7 Q);go_wp2_with fail;refine(K5 s[i] _ Q).mono ?_;rintro e w' ⟨rfl,rfl⟩;go_wp2_with fail;refine(Do D a3 w.heap.size (o.map sm) z m _ HS.out ω (by simp;omega)).mono ?_;rintro e J ⟨rfl,F2,M,a0,O⟩;have a1:=ad M;have a2:=ad O;clear M O;go_wp2;go_roundw
    case rel=>
     have bu:=L.size;refine⟨i+1,[],_,F2,ω,γ,a1.out,ad (by rw[Z.out,HW.out];simp),L.trans a0 ?_,?_,by have:=N7 (o.map sm);simp;omega,σ⟩
     ·intro b d e;rcases e with e | e
      ·rcases hF b e with h | h;·exact h
       ·omega
      ·omega
     ·intro b d;rcases a2.out b d with h | h;·exact hF b h
      ·right;omega
    case measure=>exact μ
  ·obtain rfl:i=s.length:=ω;have HE:Hid (G++jt s=z++nO (o.map sm)):=ad (by rw[Z.out,nL,K0]);go_wp2_with fail;refine(Do D a3 w.heap.size (o.map sm) z m _ HS.out ω (by simp;omega)).mono ?_;rintro e J ⟨rfl,F2,M,a0,O⟩;have a1:=ad M;have a2:=ad O;clear M O;go_wp2;go_end0;have bu:=L.size;refine⟨rfl,F2,?_,L.trans a0 ?_,?_⟩;·rw[HE.out];exact a1.out.2.2.1
   ·intro b d e;rcases e with e | e
    ·rcases hF b e with h | h;·exact h
     ·omega
    ·omega
   ·intro b d;rcases a2.out b d with h | h;·exact hF b h
    ·right;omega
def lD(d:Nat)(h:List Z0)(g:Z0->Z0)(m:List Z0)(F:Nat->Prop)(w:World):Prop:=
 ∃e,w.heap[d]?=some (.cells #[e] 81 (0,0))/\Ow w (d+1) eS e (h++m.map g)/\(∀b,F b↔b=d\/e.ownBlock=some b)
def lD.loc{e:Nat}{m:List Z0}{g:Z0->Z0}{o:List Z0}{F G:Nat->Prop}{w w':World}(h:lD e m g o F w)(z:ai G w w')(A:∀b,F b->¬G b):lD e m g o F w':=by
 obtain⟨D,I,J,d⟩:=h;exact⟨D,z.heap I (A _ ((d _).2 (.inl rfl))),J.chg z (λb K=>A _ ((d _).2 (.inr K))),d⟩
def lD.bd{d:Nat}{m:List Z0}{g:Z0->Z0}{o:List Z0}{F:Nat->Prop}{w:World}(h:lD d m g o F w)(b:Nat)(z:F b):b<w.heap.size:=by
 obtain⟨I,A,D,G⟩:=h;rcases(G b).1 z with e | e;·rw[e];exact(aR.1 A).1
 ·exact(D.lt b e).2
def lD.put{d:Nat}{A:List Z0}{g:Z0->Z0}{D:List Z0}{w z:World}{m:Value}{a:Option Addr}{n o:Nat}{x:Z0}
  (h1:w.heap[d]?=some (.cells #[m] 81 (0,0))) (h2:Ow w (d+1) eS m (A++D.map g)) (ha:dw (d+1) eS (A++D.map g++[g x]) w m (.slice a n o) z) :
  ∃F,lD d A g (D++[x]) F (z.setCell ⟨d,0,none⟩ (.slice a n o))/\ai (λb=>b=d\/m.ownBlock=some b) w (z.setCell ⟨d,0,none⟩ (.slice a n o))/\(∀b,F b->(b=d\/m.ownBlock=some b)\/w.heap.size<=b):=by
 have J:=h2.ne_cells h1 δ;have G:=ha.chg'.heap h1 J;have K:=ha.own.ne_cells G δ;have I:=a9 z ⟨d,0,none⟩ (.slice a n o);refine⟨λb=>b=d\/(Value.slice a n o).ownBlock=some b,⟨_,by rw[aJ G];rfl,?_,λb=>Iff.rfl⟩,?_,?_⟩;·rw[eD,<- bG];exact ha.own.chg I (by intro b L e;simp at e;subst e;exact K L)
 ·exact(ha.chg'.mono (G':=λb=>b=d\/m.ownBlock=some b) (λb _ h=>.inr h)).trans I (λb _ h=>.inl h)
 ·rintro b (e | e);·exact .inl (.inl e)
  ·rcases ha.fresh b e with h | h;·exact .inl (.inr h)
   ·exact .inr h
def ub(l:Z0):Z0:=l
def Yk(s:mQ):List Value:=[.int .i64 s.op,.int .i64 s.n,S s.word,.int .u64 s.fa.toNat,.int .u64 s.fb.toNat]
abbrev Yj(s:mQ):Value:=.agg #[.int .i64 s.op,.int .i64 s.n,S s.word,.int .u64 s.fa.toNat,.int .u64 s.fb.toNat]
def eI:aw Tryz.prog Int:=⟨3,1,8,0,.int .i64 0,λn=>[.int .i64 n],by kernel_rfl,δ,δ,by simp[Value.cells],λ_=>rfl,by intro x u d;simp at d;subst d;rfl⟩
def Jr(L M:Value)(d lb:List aq)(w:World)(O:ah w eR L d)(Q:ah w eR M lb)(hl:d.length<=1000000000):Calls Tryz.prog 12 #[L,M] w λe w'=>e=.returned (.bool (decide (d=lb)))/\Fr w w':=by
 obtain⟨aa,ca,a7,bv,bx,b0⟩:=O.shape;obtain⟨ab,cb,aC,b5,b6,b7⟩:=Q.shape;subst a7 aC;go_in;by_cases D:d.length=lb.length
 ·have ba:=(by simp[D]:((d.length:Int) == lb.length)=true);have R:=ad D;clear D;go_wp2;go_loopw [5] (λF wr=>∃k:Nat,k<=d.length/\F=N k/\Hid (d.take k=lb.take k)/\Fr w wr) (λF _=>d.length-(intOf F).toNat);case atStart=>exact⟨0,ar _,rfl,rfl,Fr.refl w⟩
  case round=>
   obtain⟨k,hk,rfl,U,A⟩:=hrel;by_cases V:k<d.length
   ·have X:k<lb.length:=(by have:=R.out;omega);obtain⟨b1,o1,bB,bb,Y,Z,c2,c3⟩:=no (O.fr A) k V;obtain⟨b2,o2,bT,bc,d0,d1,d2,d3⟩:=no (Q.fr A) k X;obtain⟨⟨t1,l1,s1,x1⟩,G⟩:∃r,d[k]=r:=⟨_,rfl⟩;obtain⟨⟨t2,l2,s2,x2⟩,I⟩:∃q,lb[k]=q:=⟨_,rfl⟩;rw[G]at Y Z c2 c3;rw[I]at d0 d1 d2 d3;simp only at Y Z c2 c3 d0 d1 d2 d3;have i1:(0:Int)<=k:=ω;have i2:(k:Int)<d.length:=ω;have i3:(k:Int)<lb.length:=ω;have o:=ad G;have z:=ad I;clear G I;cases bb;cases bc;by_cases J:t1=t2
    ·subst J;by_cases K:l1=l2
     ·subst K;by_cases e3:s1=s2
      ·subst e3;by_cases e4:x1=x2
       ·subst e4;have HK:Hid (d.take (k+1)=lb.take (k+1)):=ad (by rw[f8 V,f8 X,U.out,o.out,z.out]);clear o z;go_wp2;go_quiet (fail);go_wp2;go_roundw;case rel=>exact⟨k+1,ω,γ,HK,A.drewN _⟩
        case measure=>exact μ
       ·have m:Hid (decide (d=lb)=false):=(by show _=_;simp;intro e;subst e;exact e4 (by have:=o.out.symm.trans z.out;simp at this;simp[this]));clear o z;go_wp2;go_quiet (fail);go_wp2;go_ret;exact⟨by rw[m.out];rfl,A.drewN _⟩
      ·have m:Hid (decide (d=lb)=false):=(by show _=_;simp;intro e;subst e;exact e3 (by have:=o.out.symm.trans z.out;simp at this;simp[this]));clear o z;go_wp2;go_quiet (fail);go_wp2;go_ret;exact⟨by rw[m.out];rfl,A.drewN _⟩
     ·have cj:¬((l1.toNat:Int)=l2.toNat):=λh=>K (eP.1 ω);have m:Hid (decide (d=lb)=false):=(by show _=_;simp;intro e;subst e;exact K (by have:=o.out.symm.trans z.out;simp at this;simp[this]));clear o z;go_wp2;go_quiet (fail);go_wp2;go_ret;exact⟨by rw[m.out];rfl,A.drewN _⟩
    ·have ck:¬((t1.toNat:Int)=t2.toNat):=λh=>J (UInt64.toNat_inj.1 ω);have m:Hid (decide (d=lb)=false):=(by show _=_;simp;intro e;subst e;exact J (by have:=o.out.symm.trans z.out;simp at this;simp[this]));clear o z;go_wp2;go_quiet (fail);go_wp2;go_ret;exact⟨by rw[m.out];rfl,A.drewN _⟩
   ·have m:Hid (decide (d=lb)=true):=(by show _=_;simp;have h1:=U.out;rw[cw ω,cw (by have:=R.out;omega)]at h1;exact h1);go_wp2;go_ret;exact⟨by rw[m.out];rfl,A⟩
 ·have ba:=(by simp;omega:((d.length:Int) == lb.length)=false);have m:Hid (decide (d=lb)=false):=(by show _=_;simp;intro e;exact D (by rw[e]));clear D;go_wp2;go_ret;exact⟨by rw[m.out];rfl,Fr.refl _⟩
