/- Lemmas. -/
import Derived.Test.YtmcaneofjlhhmaaGreatDoorM37
import Derived.Test.YtmcaneofjlhhmaaGreatDoorM21
set_option linter.all false
set_option maxHeartbeats 8000000
set_option maxRecDepth 100000
namespace Go.Fk
abbrev mDQc:=@List.length_singleton
abbrev zA:=@Go.Proofs.bytesLess_eq
end Go.Fk
namespace Go.Proofs
open RowKit Fk Tryz
def iw(l:U0):U0:=64::l
def GW(d:Nat)(p q:List U0)(F:Nat->Prop)(x:U0)(w:World)(h:jA d p qr q F w)(U:p.length<=1)(V:q.length<=2000000000):Calls prog 136 #[S x,.pointer (some ⟨d,0,none⟩)] w λe w'=>e=.returned (.tuple #[]) /\
   ∃m,jA d p qr (q++[x]) m w'/\ag F w w'/\(∀b,m b->F b\/w.heap.size<=b):=by
 obtain⟨L,o,z,I⟩:=h;have W:=af o 0 rfl;have X:d<w.heap.size:=(aX.1 o).1;have A:=ad o;clear o;go_in;go_wp2_with (at_builtin;refine bA eS rfl (.tmp 3) (.tmp 5) 44 rfl uAB (d+1) rfl z [qr x] _ _ _ rfl rfl rfl ?c1 ?c2 ?_);case c1=>simp;omega
 case c2=>omega
 intro v' J D;have M:=z.ne_cells A.out δ;have K:=ad (D.chg'.heap A.out M);have Y:J.cell? ⟨d,0,none⟩=some L:=by rw[aG K.out];rfl
 have Z:J.frozen? ⟨d,0,none⟩=false:=aB K.out 0;obtain⟨a,n',ab,rfl⟩:=D.own.shape;go_wp2;go_end0;obtain⟨m,O,Q,R⟩:=jA.put (g:=qr) (x:=x) A.out z (by rw[iK];exact D);refine⟨rfl,m,O,Q.mono (λb _ G=>(I b).2 G),λb G=>(R b G).imp (λh=>(I b).2 h) id⟩
def GV(d:Nat):uD 136 #[.pointer (some ⟨d,0,none⟩)] (jA d [] qr):=
 ⟨λh e m=>h.loc e m,λh=>h.bd,λx h _ o=>GW d [] _ _ x _ h σ o⟩
def GU(d:Nat)(p q:List U0)(F:Nat->Prop)(x:U0)(w:World)(h:jA d p iw q F w)(V:p.length<=1000000)(W:q.length<=2000000000)(X:x.length<=24):Calls prog 137 #[S x,.pointer (some ⟨d,0,none⟩)] w λe w'=>e=.returned (.tuple #[]) /\
   ∃m,jA d p iw (q++[x]) m w'/\ag F w w'/\(∀b,m b->F b\/w.heap.size<=b):=by
 obtain⟨L,o,z,I⟩:=h;have c0:=af o 0 rfl;have Y:d<w.heap.size:=(aX.1 o).1;have A:=ad o;have M:(⟨#[64]⟩:ByteArray)++(⟨x.toArray⟩:ByteArray)=⟨(64::x).toArray⟩:=by exact ByteArray.ext (by simp[ByteArray.data_append])
 clear o;have Z:¬(9223372036854775807:Int)<1+x.length:=ω
 go_in;go_wp2_with (at_builtin;refine bA eS rfl (.tmp 3) (.tmp 6) 44 rfl uAB (d+1) rfl z [iw x] _ _ _ ?c0 rfl rfl ?c1 ?c2 ?_);case c0=>first | rfl | (simp[M,iw];rfl)
 case c1=>omega
 case c2=>omega
 intro v' J D;have O:=z.ne_cells A.out δ;have K:=ad (D.chg'.heap A.out O);have d1:J.cell? ⟨d,0,none⟩=some L:=by rw[aG K.out];rfl
 have e1:J.frozen? ⟨d,0,none⟩=false:=aB K.out 0;obtain⟨a,n',ah,rfl⟩:=D.own.shape;go_wp2;go_end0;obtain⟨m,Q,R,U⟩:=jA.put (g:=iw) (x:=x) A.out z (by rw[iK];exact D);refine⟨rfl,m,Q,R.mono (λb _ G=>(I b).2 G),λb G=>(U b G).imp (λh=>(I b).2 h) id⟩
def GT(d:Nat)(e:List U0)(m:e.length<=1000000):uD 137 #[.pointer (some ⟨d,0,none⟩)] (jA d e iw):=
 ⟨λh o p=>h.loc o p,λh=>h.bd,λx h q z=>GU d e _ _ x _ h m z q⟩
def GQ(a b:U0):dJ ((fU a++(fU b).map iw).mergeSort λx y=>decide (x<=y))=jJ a b:=by
 refine MZ _ _ ?_ (List.mergeSort_perm _ _);have h:=List.pairwise_mergeSort (le:=λ(x y:U0)=>decide (x<=y)) (λa b c d e=>by simp only[iU]at *;exact List.le_trans d e) (λa b=>by simp only[Bool.or_eq_true,iU];exact List.le_total a b) (fU a++(fU b).map iw);exact h.imp (λh=>by simpa using h)
def O9(r:aQ)(w:World)(h1:r.text.length<=1000000)(h2:r.source.length<=1000000):Calls prog 76 #[pR r] w λe w'=>∃v,e=.returned v/\Ow w' w.heap.size eS v (jJ r.text r.source)/\Fr w w':=by
 have a3:∀(I:Fn) (first J:Array Value) (w:World),(Instr.makeFunc I first J).run prog w=.ok (.func I first J) w:=λ_ _ _ _=>rfl;have K:=ad (GQ r.text r.source);have a4:=pL r.text;have a5:=pL r.source;generalize jJ r.text r.source=T at *;go_in;go_wp2_with fail;have q:(w.alloc (.cells #[.int .u64 r.time.toNat,Fk.u8 r.level,S r.source,S r.text] 54)).heap.size=w.heap.size+1:=gu _ _;have z:Fr w ((w.alloc (.cells #[.int .u64 r.time.toNat,Fk.u8 r.level,S r.source,S r.text] 54)).alloc (.cells #[.slice none 0 0] 44)):=((Fr.refl w).alloc _).alloc _;have M:((w.alloc (.cells #[.int .u64 r.time.toNat,Fk.u8 r.level,S r.source,S r.text] 54)).alloc (.cells #[.slice none 0 0] 44)).heap[w.heap.size]?=some (.cells #[.int .u64 r.time.toNat,Fk.u8 r.level,S r.source,S r.text] 54 (0,0)):=by rw[gn _ _ _ (by rw[q];omega)];exact aD _ _ _ rfl
 have O:((w.alloc (.cells #[.int .u64 r.time.toNat,Fk.u8 r.level,S r.source,S r.text] 54)).alloc (.cells #[.slice none 0 0] 44)).heap[w.heap.size+1]?=some (.cells #[.slice none 0 0] 44 (0,0)):=aD _ _ _ q.symm;refine(AK (GV (w.heap.size+1)) (D5 func136 (by kernel_rfl) rfl) r.text [] (λb=>b=w.heap.size+1) _ ?h (by simp;omega)).mono ?_;case h=>exact⟨_,O,Ow.nil,λb=>by simp[Value.ownBlock]⟩
 rintro e w1 ⟨rfl,F1,⟨Q,R,o,a7⟩,D,a8⟩;have U:=D.heap M ω;have F:Fr w w1:=ag.below z D z.size (λi e=>by omega);have k2:=af U 2 rfl;have m:([]:List U0)++(([]:List U0)++fU r.text).map qr=fU r.text:=List.map_id _;rw[m]at o;clear m M O z q D;go_wp2_with fail;refine(AK (GT (w.heap.size+1) (fU r.text) ω) (D5 func137 (by kernel_rfl) rfl) r.source [] (λb=>b=w.heap.size+1\/Q.ownBlock=some b) _ ?h (by simp;omega)).mono ?_;case h=>exact⟨Q,R,by simpa using o,λb=>Iff.rfl⟩
 rintro e V ⟨rfl,F2,⟨W,p,d,aC⟩,X,ba⟩;have ak : Fr w V := ag.below F X F.size (fun i e => by
   rcases e with e | e;·omega
   · have := (o.lt i e).1; omega)
 have m:([]:List U0)++fU r.source=fU r.source:=rfl;rw[m]at d;obtain⟨L,G⟩:∃L,L=fU r.text++(fU r.source).map iw:=⟨_,rfl⟩;have bb:L.length<=2000000:=by rw[G];simp;omega
 rw[<- G]at d K;have bc:=af p 0 rfl;have hH:=ad p;have Y:=ad (OL W L _ V d ω);have am:=d.ne_cells p δ;have Z:=d.lt;clear m G p o R X k2 U F d;go_wp2_with fail;refine Y.out.mono ?_;rintro e w3 ⟨rfl,ab,ac⟩;have ap:=(lK ac).heap hH.out am;have bd:=af ap 0 rfl;have av:Fr w w3:=ak.own ac (λk e=>by have:=(Z k e).1;omega);have ah:=ad (ON W _ _ w3 ab (by rw[List.length_mergeSort];omega));rw[K.out]at ah;clear ab Y;go_wp2_with fail;refine ah.out.mono ?_;rintro e w4 ⟨v4,rfl,az,a0⟩;go_wp2;go_ret;exact⟨_,rfl,az.rebase ω,av.own a0 (λk e=>by have:=(Z k e).1;omega)⟩
def jK(s:U0)(i:Nat):Bool:=decide (0<i) && (match s[i-1]? with | some c=>dC c | none=>false)
def tF(s:U0)(i:Nat)(h:i<s.length):jK s (i+1)=dC s[i]:=by
 unfold jK;simp[h]
def tf(c:UInt8):(((lU c).toNat:Int) == 0) = !dC c:=by
 have h:=If c
 cases d:dC c with
 | true=>
  rw[mz.2];·rfl
  ·intro e;have f:lU c=0:=fO.1 (by have z:(0:UInt8).toNat=0:=rfl;rw[z];omega);rw[h.1 f]at d;cases d
 | false=>rw[h.2 d];rfl
def Ie(c:UInt8)(h:dC c=true):lU c=sm c:=by unfold lU;rw[h];rfl
def FS(s:U0)(i:Nat)(h:i<s.length)(d:dC s[i]=false)(b:Bool):ed b (s.drop i)=ed (jK s (i+1)) (s.drop (i+1)):=by
 rw[kO h,ed,d,tF s i h,d];rfl
def FU(s:U0)(i:Nat)(h:i<s.length)(d:dC s[i]=true):ed true (s.drop i)=ed (jK s (i+1)) (s.drop (i+1)):=by
 rw[kO h,ed,d,tF s i h,d];rfl
def FT(s:U0)(i:Nat)(h:i<s.length)(d:dC s[i]=true):ed false (s.drop i)=(gG (s.drop i)).take 24::ed (jK s (i+1)) (s.drop (i+1)):=by
 rw[kO h,ed,d,tF s i h,d];rfl
def Gg(s:U0)(k:Nat)(h:k<s.length)(d:dC s[k]=true):gG (s.drop k)=sm s[k]::gG (s.drop (k+1)):=by
 rw[kO h,gG,an d]
def Gh(s:U0)(k:Nat)(h:k<s.length)(d:dC s[k]=false):gG (s.drop k)=[]:=by
 rw[kO h,gG,d];rfl
def qo{x y:Int}{b:Bool}(h:(x == y)=b):(x != y) = !b:=by rw[bne,h]
def ET(s:U0)(w:World)(bs:s.length<=2000000000):Calls prog 155 #[S s] w λe w'=>∃v,e=.returned v/\Ow w' w.heap.size eS v (fU s)/\Fr w w':=by
 have V:=ad (λc W=>I0 c W);have HW:Hid (fU s=[]++ed (jK s 0) (s.drop 0)):=by show _=_;rw[vC];simp[jK]
 generalize fU s=T at *;go_in;go_wp2;go_loopw [3,4] (λov iv wr=>∃(i:Nat) (d:List U0),i<=s.length/\iv=N i/\d.length<=i/\Ow wr w.heap.size eS ov d/\Hid (T=d++ed (jK s i) (s.drop i))/\Fr w wr) (λ_ iv _=>s.length-(intOf iv).toNat);·exact⟨0,[],ax _,rfl,au _,Ow.nil,HW,Fr.refl w⟩
 ·
  clear HW;obtain⟨i,d,hi,rfl,bt,X,Y,hf⟩:=hrel;by_cases ah:i<s.length
  ·have i1:(0:Int)<=i:=ω;have i2:(i:Int)<s.length:=ω;obtain⟨va,vc,rfl⟩:=X.shape';go_upto_region 5 with fail;generalize av:(dC s[i] && !jK s i)=L;have M:=ad av;clear av;go_cut [29]from 13 to 29 (λcv wx=>cv=.bool (!L)/\wx=wr)
   ·
    have o:=tf s[i];have z:=ad (V.out s[i]);cases A:dC s[i]with
    | false=>rw[A]at o;have G:Hid (L=false):=ad (by rw[<- M.out,A];rfl);go_wp2_with fail;refine(z.out _).mono ?_;rintro e J ⟨rfl,rfl⟩;go_wp2;go_meet;exact⟨by rw[G.out];rfl,rfl⟩
    | true=>
     rw[A]at o;by_cases h0:i=0;·subst h0;have G:Hid (L=true):=ad (by rw[<- M.out,A];rfl);go_wp2_with fail;refine(z.out _).mono ?_;rintro e J ⟨rfl,rfl⟩;go_wp2;go_meet;exact⟨by rw[G.out];rfl,rfl⟩
     ·obtain⟨j,rfl⟩:∃j,i=j+1:=⟨i-1,ω⟩;have hj:j<s.length:=ω;have Z:=tf s[j];have a9:=ad (V.out s[j]);have G:Hid (L = !dC s[j]):=ad (by rw[<- M.out,A,tF s j hj];rfl);have i3:(0:Int)<((j+1:Nat):Int):=ω;have i4:IntKind.i64.wrap (((j+1:Nat):Int)-1)=(j:Int):=(by rw[aA _ ω];omega);have i5:(0:Int)<=(j:Int):=ω;have i6:(j:Int)<s.length:=ω;go_wp2_with fail;refine(z.out _).mono ?_;rintro e J ⟨rfl,rfl⟩;go_wp2_with fail;refine(a9.out _).mono ?_;rintro e J ⟨rfl,rfl⟩;cases hP:dC s[j]with
      | false=>rw[hP]at Z G;have aa:=qo Z;go_wp2;go_meet;exact⟨by rw[G.out];rfl,rfl⟩
      | true=>rw[hP]at Z G;have aa:=qo Z;go_wp2;go_meet;exact⟨by rw[G.out];rfl,rfl⟩
   ·
    obtain⟨rfl,rfl⟩:=hcut
    cases L with
    | false=>
     have ai:Hid (T=d++ed (jK s (i+1)) (s.drop (i+1))):=by
      show _=_;rw[Y.out];congr 1;cases A:dC s[i]with
      | false=>exact FS s i ah A _
      | true=>have:=M.out;rw[A]at this;have hp:jK s i=true:=(by simpa using this);rw[hp];exact FU s i ah A
     go_wp2;go_roundw;·exact⟨i+1,d,ω,γ,ω,X,ai,hf⟩
     ·exact μ
    | true=>
     have aj:dC s[i]=true/\jK s i=false:=(by have:=M.out;simpa using this);have ai:Hid (T=(d++[(gG (s.drop i)).take 24])++ed (jK s (i+1)) (s.drop (i+1))):=(by show _=_;rw[Y.out,aj.2,FT s i ah aj.1];simp);clear Y aj;go_wp2;go_loopw [5,6] (λwv kv wq=>∃(k:Nat) (m:U0),i<=k/\k<=s.length/\kv=N k/\m.length=k-i/\m.length<=24/\Ow wq wc.heap.size eB wv m/\Hid ((gG (s.drop i)).take 24=m++(gG (s.drop k)).take (24-m.length))/\Fr wc wq) (λ_ kv _=>s.length-(intOf kv).toNat);·exact⟨i,[],au _,hi,rfl,σ,σ,Ow.nil,ad σ,Fr.refl wc⟩
     ·
      obtain⟨k,m,b5,hk,rfl,a0,b7,O,a1,Q⟩:=hrel;obtain⟨wa,bc,rfl⟩:=O.shape';have bd:=ad a0;clear a0;by_cases R:k<s.length/\(∃h:k<s.length,dC s[k]=true)/\m.length<24
      ·obtain⟨I,⟨_,D⟩,U⟩:=R;have o:=tf s[k];rw[D]at o;have z:=ad (V.out s[k]);have be:Hid (lU s[k]=sm s[k]):=Ie _ D;rw[be.out]at o z;have bf:Hid ((gG (s.drop i)).take 24=(m++[sm s[k]])++(gG (s.drop (k+1))).take (24-(m++[sm s[k]]).length)):=(by show _=_;rw[a1.out,Gg s k I D];obtain⟨q,hq⟩:∃q,24-m.length=q+1:=⟨24-m.length-1,ω⟩;rw[hq,List.take_succ_cons];simp;congr 1;omega);have k1:(0:Int)<=k:=ω;have k2:(k:Int)<s.length:=ω;have k3:(m.length:Int)<24:=ω;have aa:=qo o;generalize sm s[k]=c at *;go_wp2_with fail;refine(z.out _).mono ?_;rintro e J ⟨rfl,rfl⟩;go_wp2_with fail;refine(z.out _).mono ?_;rintro e J ⟨rfl,rfl⟩;go_wp2_with (at_builtin;refine bA eB rfl (.tmp 49) (.tmp 54) 22 rfl sJ wc.heap.size rfl O [c] _ _ _ rfl rfl rfl ?c1 Q.size ?_);case c1=>simp;omega
       intro v' w4 p;go_wp2;go_roundw
       ·
        repeat apply Exists.intro
        exact⟨⟨k+1,m++[c],ω,ω,γ,by rw[aM,bd.out];simp;omega,by rw[aM];simp;omega,p.own,bf,p.below O Q (au _) Q.size⟩,rfl⟩
       ·exact μ
      ·have bm:Hid ((gG (s.drop i)).take 24=m):=by
         show _=_;rw[a1.out];by_cases U:m.length<24
         ·by_cases I:k<s.length
          ·have D:dC s[k]=false:=by
             cases h:dC s[k]with
             | false=>rfl
             | true=>exact absurd ⟨I,⟨I,h⟩,U⟩ R
           rw[Gh s k I D];simp
          ·rw[qQ ω];simp[gG]
         ·rw[show 24-m.length=0 by omega];simp
       have F:Fr w wr:=hf.trans Q;have K:=X.fr Q;have HK:Hid (T=(d++[m])++ed (jK s (i+1)) (s.drop (i+1))):=ad (by rw[ai.out,bm.out]);have am:=λW (h:ao W eB (.slice wa m.length bc) m)=>vX eB W 22 9 sJ underlying5 uAI rfl rfl h;have b9:=am _ O.see;have bC:=am _ O.see.drew;clear am;by_cases I:k<s.length
       ·have o:=tf s[k];have k1:(0:Int)<=k:=ω;have k2:(k:Int)<s.length:=ω;have z:=ad (V.out s[k]);cases D:dC s[k]with
        | false=>
         rw[D]at o;have aa:=qo o;go_wp2_with fail;refine(z.out _).mono ?_;rintro e J ⟨rfl,rfl⟩;go_wp2_with (at_builtin;refine bA eS rfl (.tmp 56) (.tmp 59) 44 rfl uAB w.heap.size rfl K [m] _ _ _ rfl rfl rfl ?c1 F.size ?_);case c1=>first | omega | (simp;omega)
         intro v' w4 p;go_wp2;go_roundw;·exact⟨i+1,d++[m],ω,γ,by simp;omega,p.own,HK,p.below K F (au _) F.size⟩
         ·exact μ
        | true=>
         rw[D]at o;have aa:=qo o;have U:¬m.length<24:=λU=>R ⟨I,⟨I,D⟩,U⟩;have k3:¬(m.length:Int)<24:=ω;clear R;go_wp2_with fail;refine(z.out _).mono ?_;rintro e J ⟨rfl,rfl⟩;go_wp2_with (at_builtin;refine bA eS rfl (.tmp 56) (.tmp 59) 44 rfl uAB w.heap.size rfl K [m] _ _ _ rfl rfl rfl ?c1 F.size ?_);case c1=>first | omega | (simp;omega)
         intro v' w4 p;go_wp2;go_roundw;·exact⟨i+1,d++[m],ω,γ,by simp;omega,p.own,HK,p.below K F (au _) F.size⟩
         ·exact μ
       ·have k2:¬(k:Int)<s.length:=ω;clear R;go_wp2_with (at_builtin;refine bA eS rfl (.tmp 56) (.tmp 59) 44 rfl uAB w.heap.size rfl K [m] _ _ _ rfl rfl rfl ?c1 F.size ?_);case c1=>first | omega | (simp;omega)
        intro v' w4 p;go_wp2;go_roundw;·exact⟨i+1,d++[m],ω,γ,by simp;omega,p.own,HK,p.below K F (au _) F.size⟩
        ·exact μ
  ·obtain rfl:i=s.length:=ω;have bG:¬(s.length:Int)<s.length:=ω;have HE:Hid (T=d):=(by show _=_;rw[Y.out,qR];simp[ed]);go_wp2;go_ret;exact⟨_,rfl,by rw[HE.out];exact X,hf⟩
def oA{w:World}{v:Value}{l:List U0}(h:ao w eS v l)(k:Nat)(e:k<l.length):∃b d f,v=.slice (some ⟨b,d,none⟩) l.length f/\w.cell? ⟨b,d+k,none⟩=some (S l[k]):=h.cell1 S rfl k e
theorem BB:∀(l:List U0) (s:U0) (k:Nat),k<=l.length->(∀i (h:i<k) (d:i<l.length),l[i]<s)->(∀h:k<l.length,¬l[k]<s) ->
  fA l s=if ∃h:k<l.length,l[k]=s then l else l.take k++[s]++l.drop k
 | [],s,k,f,_,_=>by
  have:k=0:=by simpa using f
  subst this
  simp[fA]
 | t::l,s,0,_,_,d=>by
  have:=d σ
  rw[fA,ae (by simpa using this)]
  simp
 | t::l,s,k+1,f,m,d=>by
  have o:=m 0 ω σ
  have p:=BB l s k (by simpa using f) (λi z q=>by have:=m (i+1) ω (by simpa using q);simpa using this) (λh=>by have:=d (by simpa using h);simpa using this)
  rw[fA,an (by simpa using o),p]
  by_cases e:∃h:k<l.length,l[k]=s
  ·rw[an e,an (by obtain⟨a,b⟩:=e;exact⟨by simpa using a,by simpa using b⟩)]
  ·rw[ae e,ae (by rintro⟨a,b⟩;exact e ⟨by simpa using a,by simpa using b⟩)]
   simp
def EV(v:Value)(l:List U0)(s:U0)(w:World)(U:ao w eS v l)(hn:l.length<=100000000):Calls prog 93 #[v,S s] w λe w'=>∃v',e=.returned v'/\((v'=v/\fA l s=l)\/Ow w' w.heap.size eS v' (fA l s))/\Fr w w':=by
 have HS:=ad (λk m=>oA U k m);have Q:=ad U;have R:=ad (BB l s);generalize fA l s=T at *;obtain⟨a0,a9,rfl,aC,ai,ba⟩:=U.shape;unfold maxLen at ai;go_in;go_wp2;go_loopw [5] (λV wr=>∃k:Nat,k<=l.length/\V=N k/\Hid (∀i (h:i<k) (W:i<l.length),l[i]<s)/\w=wr) (λV _=>l.length-(intOf V).toNat);·exact⟨0,ax _,rfl,ad (λi h=>by omega),rfl⟩
 ·
  obtain⟨k,m,rfl,D,rfl⟩:=hrel;by_cases ac:k<l.length
  ·obtain⟨b,bb,bc,hv,c0⟩:=HS.out k ac;cases hv;have i1:(0:Int)<=k:=ω;have i2:(k:Int)<l.length:=ω;by_cases z:l[k]<s
   ·have al:Hid (∀i (h:i<k+1) (W:i<l.length),l[i]<s):=λi h W=>by
      by_cases e:i=k;·subst e;exact z
      ·exact D.out i ω W
    have am:Op.bytesLess l[k] s=true:=(by rw[zA];exact bz z);generalize l[k]=x at *;go_wp2;go_roundw;·exact⟨k+1,ω,γ,al,by first | rfl | trivial⟩
    ·exact μ
   ·have am:Op.bytesLess l[k] s=false:=(by rw[zA];exact bw z);have o:=ad (R.out k m D.out (λ_=>z));clear R D;by_cases A:l[k]=s;·have ap:(l[k] == s)=true:=(by simp[A]);have F:Hid (T=l):=ad (by rw[o.out,an ⟨ac,A⟩]);clear A z o;generalize l[k]=x at *;go_wp2;go_ret;exact⟨_,rfl,.inl ⟨rfl,F.out⟩,Fr.refl _⟩
    ·have ap:(l[k] == s)=false:=(by simp[A]);have F:Hid (T=l.take k++[s]++l.drop k):=ad (by rw[o.out,ae (by rintro⟨_,h⟩;exact A h)]);clear A z o;generalize l[k]=x at *;obtain⟨av,G⟩:=gw eS 44 uAB Q.out k m;obtain⟨fa,fc,a2,I⟩:=gN eS 44 uAB Q.out k m;have X:=ad G;have Y:=ad I;clear G I;have J:Ow w w.heap.size eS (.slice none 0 0) ([]:List U0):=Ow.nil;go_wp2_with (at_builtin;refine fT eS rfl (.tmp 34) (.tmp 37) 44 rfl uAB w.heap.size rfl J _ _ rfl X.out ?c1 (au _) ?_);case c1=>first | omega | (simp;omega)
     intro v1 Z K;have p:Fr w Z:=K.below J (Fr.refl w) (au _) (au _);have q:=K.own;try rw[jl]at q
     have a4:(l.take k).length=k:=(by simp;omega);go_wp2_with (at_builtin;refine bA eS rfl (.tmp 39) (.tmp 41) 44 rfl uAB w.heap.size rfl q [s] _ _ _ rfl rfl rfl ?c1 p.size ?_);case c1=>first | omega | (simp;omega)
     intro v2 w2 L;have d:Fr w w2:=L.below q p (au _) p.size;have M:=L.own;have ab:=Y.out.fr d;go_wp2_with (at_builtin;refine fT eS rfl (.tmp 43) (.tmp 46) 44 rfl uAB w.heap.size rfl M _ _ rfl ab ?c1 d.size ?_);case c1=>first | omega | (simp;omega)
     intro v3 w3 O;go_wp2;go_ret;exact⟨_,rfl,.inr (by rw[F.out];have:=O.own;simpa using this),O.below M d (au _) d.size⟩
  ·have bf:¬(k:Int)<l.length:=ω;have o:=ad (R.out k m D.out (λh=>absurd h ω));have F:Hid (T=l.take k++[s]++l.drop k):=ad (by rw[o.out,ae (by rintro⟨h,_⟩;omega)]);clear R D o;have i1:(0:Int)<=k:=ω;obtain⟨av,G⟩:=gw eS 44 uAB Q.out k m;obtain⟨fa,fc,a2,I⟩:=gN eS 44 uAB Q.out k m;have X:=ad G;have Y:=ad I;clear G I;have J:Ow w w.heap.size eS (.slice none 0 0) ([]:List U0):=Ow.nil;have a4:(l.take k).length=k:=(by simp;omega);go_wp2_with (at_builtin;refine fT eS rfl (.tmp 34) (.tmp 37) 44 rfl uAB w.heap.size rfl J _ _ rfl X.out ?c1 (au _) ?_);case c1=>first | omega | (simp;omega)
   intro v1 Z K;have p:Fr w Z:=K.below J (Fr.refl w) (au _) (au _);have q:=K.own;try rw[jl]at q
   go_wp2_with (at_builtin;refine bA eS rfl (.tmp 39) (.tmp 41) 44 rfl uAB w.heap.size rfl q [s] _ _ _ rfl rfl rfl ?c1 p.size ?_);case c1=>first | omega | (simp;omega)
   intro v2 w2 L;have d:Fr w w2:=L.below q p (au _) p.size;have M:=L.own;have ab:=Y.out.fr d;go_wp2_with (at_builtin;refine fT eS rfl (.tmp 43) (.tmp 46) 44 rfl uAB w.heap.size rfl M _ _ rfl ab ?c1 d.size ?_);case c1=>first | omega | (simp;omega)
   intro v3 w3 O;go_wp2;go_ret;exact⟨_,rfl,.inr (by rw[F.out];have:=O.own;simpa using this),O.below M d (au _) d.size⟩
def OY(r:aQ)(w:World)(h1:r.text.length<=1000000)(h2:r.source.length<=1000000):Calls prog 92 #[pR r] w λe w'=>∃v,e=.returned v/\Ow w' w.heap.size eS v (jJ r.text r.source)/\Fr w w':=by
 have bq:=pL r.text;have bs:=pL r.source;have U:=ad (λW=>ET r.text W ω);have V:=ad (λW=>ET r.source W ω);have X:Hid (jJ r.text r.source=dx (dx [] (fU r.text)) ((fU r.source).map iw)):=by show _=_;unfold jJ dx;rw[qO];rfl
 have Y:=ad (λv l s W hs hn=>EV v l s W hs hn);have az:=ad (vD r.source);generalize jJ r.text r.source=T,fU r.source=B,fU r.text=A at *;go_in;go_wp2_with fail;have a0:Fr w (w.alloc (.cells #[.int .u64 r.time.toNat,Fk.u8 r.level,S r.source,S r.text] 54)):=(Fr.refl w).alloc _;have Z:(w.alloc (.cells #[.int .u64 r.time.toNat,Fk.u8 r.level,S r.source,S r.text] 54)).heap[w.heap.size]?=some (.cells #[.int .u64 r.time.toNat,Fk.u8 r.level,S r.source,S r.text] 54 (0,0)):=aD _ _ _ rfl;generalize w.alloc (.cells #[.int .u64 r.time.toNat,Fk.u8 r.level,S r.source,S r.text] 54)=w1 at *;refine(U.out _).mono ?_;rintro e w2 ⟨v2,rfl,J,ab⟩;have ac:=a0.trans ab;have a1:=ad (ab.heap Z);have HA:=ad (λW (h:Fr w2 W) k q=>oA (J.see.fr h) k q);obtain⟨va,vc,rfl⟩:=J.shape';clear J Z U;go_wp2;go_loopw [3,5] (λK o wr=>∃k:Nat,k<=A.length/\o=N k/\Ow wr w.heap.size eS K (dx [] (A.take k))/\Fr w2 wr) (λ_ o _=>A.length-(intOf o).toNat);·exact⟨0,ax _,rfl,Ow.nil,Fr.refl _⟩
 ·
  obtain⟨k,q,rfl,d,z⟩:=hrel;have D:=pS (A.take k) [];rw[aP]at D;simp only[jG]at D;by_cases p:k<A.length
  ·obtain⟨b,a3,a4,L,c0⟩:=HA.out wr z k p;cases L;have M:Hid (fA (dx [] (A.take k)) A[k]=dx [] (A.take (k+1))):=(by show _=_;rw[ea p];unfold dx;rw[qO];rfl);generalize dx [] (A.take k)=m at *;generalize A[k]=x at *;have O:=ad (Y.out _ m x wr d.see ω);obtain⟨ma,mc,rfl⟩:=d.shape';have i1:(0:Int)<=k:=ω;have i2:(k:Int)<A.length:=ω;go_wp2_with fail;refine O.out.mono ?_;rintro e w3 ⟨v3,rfl,F,ah⟩;have F:Ow w3 w.heap.size eS v3 (fA m x):=by
    rcases F with⟨rfl,Q⟩ | h;·rw[Q];exact d.fr ah
    ·exact h.rebase (ac.trans z).size
   rw[M.out]at F;go_wp2;go_roundw;·exact⟨k+1,ω,γ,F,z.trans ah⟩
   ·exact μ
  ·obtain rfl:k=A.length:=ω;have b0:¬(A.length:Int)<A.length:=ω;rw[dP]at d;have b1:(dx [] A).length<=1000000:=(by have:=pS A [];simp at this;omega);have ba:Hid (T=dx (dx [] A) (B.map iw)):=X;clear X D;generalize dx [] A=P at *;have bb:=ac.trans z;have ai:=z.heap a1.out;have k2:=af ai 2 rfl;have bd:=ad d;obtain⟨pa,pc,rfl⟩:=d.shape';clear d ai;go_wp2_with fail;refine(V.out _).mono ?_;rintro e w4 ⟨v4,rfl,R,aj⟩;have HB:=ad (λW (h:Fr w4 W) k q=>oA (R.see.fr h) k q);have ak:=bb.trans aj;have al:=bd.out.fr aj;obtain⟨vb,vd,rfl⟩:=R.shape';clear R V k2;go_wp2;go_loopw [3,6] (λK o wr=>∃k:Nat,k<=B.length/\o=N k/\Ow wr w.heap.size eS K (dx P ((B.take k).map iw))/\Fr w4 wr) (λ_ o _=>B.length-(intOf o).toNat);·exact⟨0,ax _,rfl,al,Fr.refl _⟩
   ·
    clear al;obtain⟨k,q,rfl,d,G⟩:=hrel;have D:=pS ((B.take k).map iw) P;rw[fw,aP]at D;by_cases p:k<B.length
    ·obtain⟨b,a3,a4,L,c0⟩:=HB.out wr G k p;cases L;have M:Hid (fA (dx P ((B.take k).map iw)) (iw B[k])=dx P ((B.take (k+1)).map iw)):=(by show _=_;rw[ea p];unfold dx;rw[gq,qO];rfl);have b7:=(az.out B[k] (co p)).2;generalize dx P ((B.take k).map iw)=m at *;generalize B[k]=x at *;have O:=ad (Y.out _ m (iw x) wr d.see ω);obtain⟨ma,mc,rfl⟩:=d.shape';have i1:(0:Int)<=k:=ω;have i2:(k:Int)<B.length:=ω;have b9:¬(9223372036854775807:Int)<1+x.length:=ω;go_wp2_with fail;refine O.out.mono ?_;rintro e w5 ⟨v5,rfl,I,am⟩;have I:Ow w5 w.heap.size eS v5 (fA m (iw x)):=by
      rcases I with⟨rfl,Q⟩ | h;·rw[Q];exact d.fr am
      ·exact h.rebase (ak.trans G).size
     rw[M.out]at I;go_wp2;go_roundw;·exact⟨k+1,ω,γ,I,G.trans am⟩
     ·exact μ
    ·obtain rfl:k=B.length:=ω;have bC:¬(B.length:Int)<B.length:=ω;rw[dP,<- ba.out]at d;go_wp2;go_ret;exact⟨_,rfl,d,ak.trans G⟩
def Gw(l:List U0):Prop:=kG l/\(∀s∈l,1<=s.length/\s.length<=25)/\l.length<=1000000
def CG{a b:U0}(h:a<b):Op.bytesLess a b=true:=by rw[zA];exact bz h
def tW{a b:U0}(h:¬a<b):Op.bytesLess a b=false:=by rw[zA];exact bw h
def M8(d s:U0)(w:World)(o:1<=s.length)(p:s.length<=25)(m:d<s):Calls prog 232 #[S d,S s] w λe w'=>e=.returned (.bool true)/\w=w':=by
 have q:=tW (λh=>oj _ (List.lt_trans h m):¬s<d);have z:(s == d)=false:=by rw[mz];rintro rfl;exact oj _ m
 have A:s.isEmpty=false:=by cases s <;> simp_all
 have D:(s == [])=false:=by cases s <;> simp_all
 have F:(s != [])=true:=by cases s <;> simp_all
 have G:(s.length:Int)<=25:=ω
 clear m;go_in;go_wp2;go_ret;exact⟨by first | rfl | simp,rfl⟩
def nV(a:U0)(k:Nat)(d:k<a.length):∃x,a[k]=x/\(⟨a.toArray⟩:ByteArray)[k]'(by simpa [ByteArray.size] using d)=x:=⟨_,rfl,rfl⟩
def Cm(x y:UInt8)(h:¬x=y):((x.toNat:Int) == (y.toNat:Int))=false:=
 mz.2 λd=>h (fO.1 ω)
def Mw(a b:U0)(R:a.length<=1000000000)(w:World):Calls prog 234 #[S a,S b] w λe w'=>e=.returned (N (iz a b))/\Fr w w':=by
 have F:=ad (vV a b);generalize iz a b=Z at *;go_in;go_wp2;go_loopw [5] (λG wr=>∃k:Nat,k<=a.length/\k<=b.length/\G=N k/\Hid (∀i,i<k->a[i]?=b[i]?)/\Fr w wr) (λG _=>a.length-(intOf G).toNat);·exact⟨0,ax _,ax _,rfl,ad (λi h=>by omega),Fr.refl w⟩
 ·
  obtain⟨k,I,J,rfl,A,D⟩:=hrel;have U:(0:Int)<=k:=ω;by_cases m:k<a.length
  ·have K:(k:Int)<a.length:=ω;by_cases o:k<b.length
   ·have L:(k:Int)<b.length:=ω;by_cases d:a[k]=b[k]
    ·have M:Hid (∀i,i<k+1->a[i]?=b[i]?):=λi V=>by
       by_cases e:i=k;·subst e;rw[cQ m,cQ o,d]
       ·exact A.out i ω
     obtain⟨x,p,O⟩:=nV a k m;obtain⟨y,q,Q⟩:=nV b k o;obtain rfl:x=y:=(by rw[<- p,<- q,d]);clear p q d;go_upto_region 2 with fail;go_quiet (fail);go_wp2_with fail;exact⟨⟨k+1,ω,ω,γ,M,D.drewN _⟩,by simp[intOf];omega⟩
    ·have z:Hid (Z=k):=F.out k I J A.out (λ_ _=>by rw[cQ m,cQ o];simpa using d);obtain⟨x,p,O⟩:=nV a k m;obtain⟨y,q,Q⟩:=nV b k o;have W:=Cm x y (by rw[<- p,<- q];exact d);clear p q d;go_upto_region 2 with fail;go_quiet (fail);go_wp2;go_ret;exact⟨by rw[z.out];rfl,D.drewN _⟩
   ·have L:¬(k:Int)<b.length:=ω;have z:Hid (Z=k):=F.out k I J A.out (λ_ h=>absurd h o);go_upto_region 2 with fail;go_quiet (fail);go_wp2;go_ret;exact⟨by rw[z.out];rfl,D.drewN _⟩
  ·have K:¬(k:Int)<a.length:=ω;have z:Hid (Z=k):=F.out k I J A.out (λh _=>absurd h m);go_upto_region 2 with fail;go_quiet (fail);go_wp2;go_ret;exact⟨by rw[z.out];rfl,D.drewN _⟩
def Qe(a b:U0)(U:a.length<=1000000000)(w:World):Calls prog 213 #[S a,S b] w λe w'=>e=.returned (N (iz a b))/\Fr w w':=by
 have F:=ad (vV a b);generalize iz a b=Z at *;go_in;go_wp2;go_loopw [5] (λG wr=>∃k:Nat,k<=a.length/\k<=b.length/\G=N k/\Hid (∀i,i<k->a[i]?=b[i]?)/\Fr w wr) (λG _=>a.length-(intOf G).toNat);·exact⟨0,ax _,ax _,rfl,ad (λi h=>by omega),Fr.refl w⟩
 ·
  obtain⟨k,I,J,rfl,A,D⟩:=hrel;have V:(0:Int)<=k:=ω;by_cases m:k<a.length
  ·have K:(k:Int)<a.length:=ω;by_cases o:k<b.length
   ·have L:(k:Int)<b.length:=ω;have W:¬(b.length:Int)<=k:=ω;by_cases d:a[k]=b[k]
    ·have M:Hid (∀i,i<k+1->a[i]?=b[i]?):=λi X=>by
       by_cases e:i=k;·subst e;rw[cQ m,cQ o,d]
       ·exact A.out i ω
     obtain⟨x,p,O⟩:=nV a k m;obtain⟨y,q,Q⟩:=nV b k o;obtain rfl:x=y:=(by rw[<- p,<- q,d]);clear p q d;go_upto_region 4 with fail;go_quiet (fail);go_wp2_with fail;exact⟨⟨k+1,ω,ω,γ,M,D.drewN _⟩,by simp[intOf];omega⟩
    ·have z:Hid (Z=k):=F.out k I J A.out (λ_ _=>by rw[cQ m,cQ o];simpa using d);obtain⟨x,p,O⟩:=nV a k m;obtain⟨y,q,Q⟩:=nV b k o;have R:=Cm x y (by rw[<- p,<- q];exact d);have Y:=qo R;clear p q d;go_upto_region 4 with fail;go_quiet (fail);go_wp2;go_ret;exact⟨by rw[z.out];rfl,D.drewN _⟩
   ·have L:(b.length:Int)<=k:=ω;have z:Hid (Z=k):=F.out k I J A.out (λ_ h=>absurd h o);go_upto_region 4 with fail;go_quiet (fail);go_wp2;go_ret;exact⟨by rw[z.out];rfl,D.drewN _⟩
  ·have K:¬(k:Int)<a.length:=ω;obtain rfl:k=a.length:=ω;have z:Hid (Z=a.length):=F.out _ I J A.out (λh _=>absurd h m);go_wp2;go_ret;exact⟨by rw[z.out];rfl,D⟩
def M9(d s:U0)(w:World):Calls prog 232 #[S d,S s] w λe w'=>e=.returned (.bool (kt d s))/\w=w':=by
 by_cases h:1<=s.length/\s.length<=25/\d<s;·refine(M8 d s w h.1 h.2.1 h.2.2).mono ?_;rintro e w' ⟨rfl,rfl⟩;have p:¬s=[]:=(by intro e;rw[e]at h;exact absurd h.1 δ);refine⟨?_,rfl⟩;unfold kt;simp[p,h.2.1,h.2.2]
 ·have m:Hid (kt d s=false):=by
    show _=_;unfold kt
    cases s with
    | nil=>simp
    | cons c t=>simp at h ⊢;exact h
  by_cases A:s=[];·subst A;clear h;go_in;go_wp2;go_ret;exact⟨by rw[m.out];first | rfl | simp,rfl⟩
  ·have p:s.isEmpty=false:=(by cases s <;> simp_all);have J:(s == [])=false:=(by cases s <;> simp_all);have K:(s != [])=true:=(by cases s <;> simp_all);by_cases D:s.length<=25
   ·have F:(s.length:Int)<=25:=ω;have o:¬d<s:=λG=>h ⟨by cases s <;> simp_all,D,G⟩;clear h;by_cases q:s=d;·subst q;clear o;have I:Op.bytesLess s s=false:=tW (oj _);go_in;go_wp2;go_ret;exact⟨by rw[m.out];first | rfl | simp,rfl⟩
    ·have z:s<d:=by
       rcases Std.lt_trichotomy s d with h | h | h;·exact h
       ·exact absurd h q
       ·exact absurd h o
     have I:Op.bytesLess s d=true:=CG z;clear o z;go_in;go_wp2;go_ret;exact⟨by rw[m.out];first | rfl | simp,rfl⟩
   ·have F:¬(s.length:Int)<=25:=ω;clear h;go_in;go_wp2;go_ret;exact⟨by rw[m.out];first | rfl | simp,rfl⟩
def CX(a b:U0):(⟨a.toArray⟩:ByteArray)++⟨b.toArray⟩=⟨(a++b).toArray⟩:=by
 apply ByteArray.ext;simp
def Cf(d:Cs)(part e:U0)(first:Bool)(h:(gJ d part e first).2.er=0):(iN d part e first).1<=e.length:=by
 unfold iN;split;·exact ax _
 ·show Cs.val _ _<=_;unfold Cs.val;split;·rename_i h;exact(jN _ _ h.2).2.2
  ·exact ax _
def Ce(d:Cs)(part e:U0)(first:Bool):(gJ d part e first).1.length<=25:=by
 unfold gJ Cs.text;split
 ·by_cases h:(fy 25 (List.drop (iN d part e first).2.at_ part)).2.2=0;·exact(sU _ _ h).2.2
  ·rw[(Gx _ _ h).1];exact ax _
 ·exact ax _
def M7(B base:Nat)(d:Cs)(part o:U0)(first:Bool)(w:World)(X:aw w 247 B base part d.at_ d.er)(hl:part.length<=1000000)(hw:o.length<=1000):Calls prog 248 #[.pointer (some ⟨B,0,none⟩),S o,.bool first] w λe w'=>∃u,e=.returned (S u)/\((iO d part o first).er=0->u=iY d part o first)/\aw w' 247 B base part (iO d part o first).at_ (iO d part o first).er/\ag (λb=>b=B) w w':=by
 have Y:=ad (pp o.length ω B base d part w X hl);have aC:=ad (λs W (h:aw W 247 B base part s.at_ s.er)=>yU 25 ω B base s part W h hl);have ba:=ad (λn er W h=>jg B base n er part W h);have bc:=ad (λs W (h:aw W 247 B base part s.at_ s.er)=>sw 2 B base s part W h);have I:Hid (iN d part o first=if first then(0,d)else d.int part o.length):=rfl;have am:Hid (gJ d part o first=(iN d part o first).2.text part 25):=rfl;have Z:Hid (iO d part o first=if(gJ d part o first).2.er=0/\mh d part o first=false then⟨(gJ d part o first).2.at_,2⟩else(gJ d part o first).2):=rfl;have HS:Hid (iY d part o first=o.take (iN d part o first).1++(gJ d part o first).1):=rfl;have HO:Hid (mh d part o first=(decide (¬(gJ d part o first).1=[]) && kt o (iY d part o first) && (first || decide (iz o (iY d part o first)=(iN d part o first).1)))):=rfl;have ab:=ad (Cf d part o first);have ac:=Ce d part o first;generalize iY d part o first=s,mh d part o first=ok,iO d part o first=C at *;generalize hR:gJ d part o first=R at *;obtain⟨rest,p⟩:=R;have av:Hid ((iN d part o first).2.text part 25=(rest,p)):=am.out.symm;clear hR am;obtain⟨M,hM⟩:∃M,M=iN d part o first:=⟨_,rfl⟩;rw[<- hM]at I av HO ab;have ai:Hid (s=o.take M.1++rest):=by rw[hM];exact HS.out
 have az:=ad X;obtain⟨m,F⟩:=M;clear hM;have aj:=ad (aC.out F);rw[av.out]at aj;clear X HS;go_in;go_upto_if 11 with fail;go_cut [7]from 12 to 16 (λnv J=>nv=N m/\aw J 247 B base part F.at_ F.er/\ag (λb=>b=B) w J)
 ·
  cases first;·have q:Hid (d.int part o.length=(m,F)):=I.out.symm;rw[q.out]at Y;go_wp2_with fail;apply Y.z;rintro e w1 ⟨rfl,K,L⟩;go_wp2;go_meet;exact⟨rfl,K,L⟩
  ·have q:(m,F)=(0,d):=I.out;cases q;go_wp2;go_meet;exact⟨rfl,az.out,ag.refl _ _⟩
 ·
  obtain⟨rfl,K,L⟩:=hcut;have a0:=ad (aj.out wc K);clear aj Y az I K;go_wp2_with fail;apply a0.z;rintro e A ⟨rfl,O,a1⟩;have ak:=L.trans a1 λ_ _ h=>h;have Q:=ad (ba.out _ _ A O);clear L a1 a0;by_cases D:p.er=0
  ·have a2:=ab.out D;rw[D]at Q;have bf:=D3 o m;have bk:(⟨(o.take m).toArray⟩:ByteArray)++⟨rest.toArray⟩=⟨s.toArray⟩:=(by rw[CX,ai.out]);have bl:s.length<=1025:=(by rw[ai.out,aM,aP];have:rest.length<=25:=ac;omega);have m1:(m:Int)<=o.length:=(by have:m<=o.length:=a2;omega);have m0:(0:Int)<=m:=ω;have bs:rest.length<=25:=ac;have U:=ad (λW=>M9 o s W);have a3:=ad (λW=>Mw o s ω W);have V:Hid (ok=(decide (¬rest=[]) && kt o s && (first || decide (iz o s=m)))):=HO.out;have HE:=ad D;clear D a2 ac HO ab ai;generalize iz o s=sm,kt o s=my at *;go_wp2_with fail;apply Q.z;rintro e w3 ⟨rfl,rfl⟩;go_upto_region 8 with fail;clear Q bf bk m1 m0 bl bs;go_cut [44]from 26 to 44 (λcv J=>cv=.bool (!ok)/\Fr A J)
   ·
    by_cases q:rest=[];·have z:Hid (ok=false):=ad (by rw[V.out,q];rfl);subst q;go_wp2;go_meet;exact⟨by rw[z.out];rfl,Fr.refl _⟩
    ·have b6:rest.isEmpty=false:=(by cases rest <;> simp_all);have b7:(rest == [])=false:=(by cases rest <;> simp_all);have b9:(rest != [])=true:=(by cases rest <;> simp_all);cases my;·have z:Hid (ok=false):=(by show _=_;rw[V.out];simp);go_wp2_with fail;refine(U.out A).mono ?_;rintro e w4 ⟨rfl,rfl⟩;go_wp2;go_meet;exact⟨by rw[z.out];rfl,Fr.refl _⟩
     ·cases first;·have z:Hid (ok=decide (sm=m)):=(by show _=_;rw[V.out];simp[q]);have a5:((sm:Int) != m) = !(decide (sm=m)):=(by rw[qW];simp;omega);have bx:=ad a5;clear a5;go_wp2_with fail;refine(U.out A).mono ?_;rintro e w4 ⟨rfl,rfl⟩;go_wp2_with fail;refine(a3.out A).mono ?_;rintro e w5 ⟨rfl,b0⟩;go_wp2;go_meet;exact⟨by rw[z.out,<- bx.out],b0⟩
      ·have z:Hid (ok=true):=(by show _=_;rw[V.out];simp[q]);go_wp2_with fail;refine(U.out A).mono ?_;rintro e w4 ⟨rfl,rfl⟩;go_wp2;go_meet;exact⟨by first | (rw[z.out];done) | (rw[z.out];rfl),Fr.refl _⟩
   ·
    obtain⟨rfl,a6⟩:=hcut;have a7:=O.fr a6;have a8:=ak.trans (a6.chg (λb=>b=B)) λ_ _ h=>h;have a9:=ad (bc.out p wc a7);clear O ak U a3;cases ok;·have G:Hid (C=⟨p.at_,2⟩):=ad (by rw[Z.out,an ⟨HE.out,rfl⟩]);have h4:Hid (p.fail 2=⟨p.at_,2⟩):=(by show _=_;unfold Cs.fail;rw[an HE.out]);rw[h4.out]at a9;go_wp2_with fail;apply a9.z;rintro e w4 ⟨rfl,b2,b3⟩;go_wp2;go_ret;rw[G.out];exact⟨s,rfl,λ_=>rfl,b2,a8.trans b3 λ_ _ h=>h⟩
    ·have G:Hid (C=p):=ad (by rw[Z.out,ae (λh=>by cases h.2)]);go_wp2;go_ret;rw[G.out];exact⟨s,rfl,λ_=>rfl,a7,a8⟩
  ·have G:Hid (C=p):=ad (by rw[Z.out,ae (λh=>D h.1)]);have bG:¬(p.er:Int)=0:=ω;go_wp2_with fail;apply Q.z;rintro e w3 ⟨rfl,rfl⟩;go_wp2;go_ret;rw[G.out];exact⟨[],rfl,λh=>absurd h D,O,ak⟩
def mQ{a b:Option Nat}(h:a=none\/a≠b):b=none\/b≠a:=by
 cases b with
 | none=>exact .inl rfl
 | some k=>
  refine .inr λe=>?_;rcases h with h | h;·rw[h]at e;cases e
  ·exact h e.symm
structure jW (w:World) (g base size:Nat) (t hs:List U0):Prop where
 h:∃tv hv,w.heap[g]?=some (.cells #[tv,N size,hv] 257 (0,0))/\Ow w base eS tv t/\Ow w base eS hv hs/\(tv.ownBlock=none\/tv.ownBlock≠hv.ownBlock)
 lt:g<base
def jW.fr{w w':World}{g base size:Nat}{t e:List U0}(h:jW w g base size t e)(d:Fr w w'):jW w' g base size t e:=by
 obtain⟨⟨f,m,o,p,q,z⟩,A⟩:=h;exact⟨⟨f,m,d.heap o,p.fr d,q.fr d,z⟩,A⟩
def jW.beside{w w':World}{B g base size:Nat}{t o:List U0}{D:Array Value}{T:TypeId}{f:Nat × Nat}(h:jW w g base size t o)(p:w.heap[B]?=some (.cells D T f))(q:T≠9)(F:B≠g)(d:ag (λk=>k=B) w w'):jW w' g base size t o:=by
 obtain⟨⟨G,I,J,z,A,K⟩,L⟩:=h;exact⟨⟨G,I,d.heap J (λe=>F e.symm),z.chg d (λk m e=>z.ne_cells p q (by rw[m,show k=B from e])),A.chg d (λk m e=>A.ne_cells p q (by rw[m,show k=B from e])),K⟩,L⟩
def xL(l:List U0)(h:0<l.length):l.getLastD []=l[l.length-1]:=by
 rw[List.getLastD_eq_getLast?,List.getLast?_eq_getElem?,cQ ω];rfl
def CT(l:List U0)(h:∀x∈l,x.length<=25):(l.getLastD []).length<=25:=by
 rcases kJ l.length with d | d;·rw[kN d];exact ax _
 ·rw[xL l d];exact h _ (co _)
def xf(d:Cs)(part e:U0)(first:Bool)(h:(iO d part e first).er=0):(iY d part e first).length<=25:=by
 unfold iO at h;split at h;·cases h
 ·rename_i m;have f:mh d part e first=true:=by
   cases o:mh d part e first;·exact absurd ⟨h,o⟩ m
   ·rfl
  unfold mh kt at f;simp only[lS,iU]at f;exact f.1.2.1.2
def Dy(part:U0)(n i:Nat)(d:Cs)(t:List U0)(h:i<n):gd part (n-i) i d t=if(iO d part (t.getLastD []) (decide (i=0))).er=0 then gd part (n-(i+1)) (i+1) (iO d part (t.getLastD []) (decide (i=0))) (t++[iY d part (t.getLastD []) (decide (i=0))])else(t,(iO d part (t.getLastD []) (decide (i=0))).er):=by
 rw[show n-i=(n-(i+1))+1 by omega,gd]
def Mh(g base size n:Nat)(v:Value)(part:U0)(I V:List U0)(w:World)(hD:jW w g base size I V)(m:ao w eB v part)(hl:part.length<=1000000)(hn:n<=100000)(ht:∀x∈I,x.length<=25)(a9:I.length<=100000000)(ah:V.length<=100000000)(hb:base<=w.heap.size):Calls prog 187 #[.pointer (some ⟨g,0,none⟩),v,N n] w λe w'=>e=.returned (.int .i64 ((gd part n 0 ⟨0,0⟩ I).2:Int))/\(∃m,m.length<=V.length+1/\jW w' g base size (gd part n 0 ⟨0,0⟩ I).1 m)/\ag (λk=>k=g\/base<=k) w w':=by
 have bx:=ad (nm v part w m hl);have cs:=ad (λB base d ct first W h hw=>M7 B base d part ct first W h hl hw);have cv:=ad (λB base n er W h=>jg B base n er part W h);have c1:=ad (λB base s W h=>Fx B base s part W h);obtain⟨F,hF⟩:∃F,F=gd part n 0 ⟨0,0⟩ I:=⟨_,rfl⟩;rw[<- hF];have HF:Hid (F=gd part (n-0) 0 ⟨0,0⟩ I):=hF;clear hF;have c3:=ad (Dy part n);have L:=hD.lt;obtain⟨a0,e2,rfl,_⟩:=m.shape;clear m;go_in;go_wp2_with fail;apply bx.z;rintro e w1 ⟨B,rfl,hC,al,hB⟩;have b1:=hD.fr al;have am:B≠g:=ω
 have c5:base<=w1.heap.size:=ar hb al.size;have e8:base<=B:=ω
 clear bx hD;go_wp2;go_loopw [15] (λiv wr=>∃(i:Nat) (d:Cs) (t m:List U0),i<=n/\iv=N i/\Hid (d.er=0)/\Hid (∀x∈t,x.length<=25)/\t.length<=100000000+i/\m.length<=V.length+1/\Hid (i=0->m.length<=V.length)/\jW wr g base size t m/\aw wr 247 B w.heap.size part d.at_ d.er/\ag (λk=>k=g\/base<=k) w wr/\base<=wr.heap.size/\Hid (F=gd part (n-i) i d t)) (λiv _=>n-(intOf iv).toNat);·exact⟨0,⟨0,0⟩,I,V,ax _,rfl,rfl,ht,ω,ω,λ_=>au _,b1,hC,al.chg _,c5,HF.out⟩
 ·
  clear b1 hC al HF;obtain⟨i,d,t,m,hi,rfl,eC,b2,a9,ah,c6,hD,hC,ba,hz,X⟩:=hrel;obtain⟨tv,hv,J,p,Y,Z⟩:=hD.h;obtain⟨ta,tc,rfl⟩:=p.shape';have c0:=af J 0 rfl;by_cases cB:i<n
  ·have i1:(i:Int)<n:=ω;have aa:=ad (c3.out i d t cB);have cC:=CT t b2.out;have bc:=ad hC;have b4:=ad p.see;clear hC;go_upto_if 24 with fail;go_cut [9]from 25 to 39 (λwv wx=>wv=S (t.getLastD [])/\Qt wr wx)
   ·
    by_cases cL:0<t.length;·obtain⟨b5,o5,p5,cN,e5⟩:=b4.out.cell1 (λs:U0=>S s) rfl (t.length-1) ω;rw[<- xL t cL]at e5;cases cN;have l0:(0:Int)<t.length:=ω;have l1:=aA ((t.length:Int)-1) ω;have l2:(0:Int)<=(t.length:Int)-1:=ω;have l3:((t.length:Int)-1).toNat=t.length-1:=ω;have l4:(t.length:Int)-1<t.length:=ω;generalize t.getLastD []=ls at *;clear p J;go_wp2;go_quiet (fail);go_wp2;go_meet;exact⟨rfl,Qt.drewN _ _⟩
    ·have cT:t=[]:=kN ω;subst cT;go_wp2;go_meet;exact⟨rfl,Qt.refl _⟩
   ·
    obtain⟨rfl,hq⟩:=hcut;have ab:=hq.fr;have db:decide ((i:Int)=0)=decide (i=0):=(by rw[qW];simp);have bd:=ad (cs.out B _ d (t.getLastD []) (decide (i=0)) wc (bc.out.fr ab) ω);have dc:=ad (xf d part (t.getLastD []) (decide (i=0)));generalize iO d part (t.getLastD []) (decide (i=0))=A at *;generalize iY d part (t.getLastD []) (decide (i=0))=s at *;generalize t.getLastD []=ls at *;have b7:=hD.fr ab;have b9:=ba.trans (ab.chg (λk=>k=g\/base<=k)) λ_ _ h=>h;have dd:=ar hz ab.size;obtain⟨dj,av⟩:=(bc.out.fr ab).cbox;have HH:=ad ah;have bC:=ad a9;clear hD ba hz J p Y Z c0 bc b4 cC ab ah a9;rw[<- db]at bd;go_wp2_with fail;apply bd.z;rintro e w5 ⟨q,rfl,bf,az,M⟩;have ac:=b7.beside av δ am M;have ai:=b9.trans (G':=λk=>k=B) M λk _ e=>.inr (by have e:k=B:=e;omega);have bL:=ar dd M.size;have a1:=ad (cv.out B _ _ _ w5 az);clear bd b7 b9 av M;by_cases O:A.er=0
    ·rw[an O]at aa;obtain rfl:=bf O;rw[O]at a1;have bR:Hid (F=gd part (n-(i+1)) (i+1) A (t++[q])):=X.out.trans aa.out;have bS:Hid (∀x∈t++[q],x.length<=25):=λx hx=>by
      rcases iI.1 hx with h | h;·exact b2.out x h
      ·rw[lp.1 h];exact dc.out O
     have bT:=ad O;obtain⟨tv,hv,J,p,Y,Z⟩:=ac.h;obtain⟨ta,tc,rfl⟩:=p.shape';have c0:=af J 0 rfl;have dl:Hid (t.length+[q].length<=2147483648):=(by have:=bC.out;show _<=_;simp;omega);have L:=ac.lt;clear X aa O bf ac;go_wp2_with fail;apply a1.z;rintro e w6 ⟨rfl,rfl⟩;go_wp2_with (at_builtin;refine bA eS rfl (.tmp 54) (.tmp 56) 44 rfl uAB base rfl p [q] _ _ _ rfl rfl rfl dl.out bL ?_);intro v7 K o;obtain⟨D,G,ca⟩:=o.own.shape';rw[show(t++[q]).length=t.length+1 from by simp]at ca;subst ca;have a2:=o.chg'.heap J (λe=>by have:=(p.lt _ e).1;omega);have e3:=af a2 0 rfl;have e4:=aB a2 0;have cb:=o.other Y (mQ Z);have a3:=mQ (o.apart Y (mQ Z));have cc:=az.app p o δ δ;have cf:ag (λk=>k=g\/base<=k) w K:=ai.trans o.chg' λk _ e=>.inr (p.lt k e).1;have ch:=ar bL o.size;have z:=ay K ⟨g,0,none⟩ (.slice D (t.length+1) G);have ci:=aI a2 0 (.slice D (t.length+1) G);have a4:=de (i:=0) (u:=.slice D (t.length+1) G) o.own L;have Q:=de (i:=0) (u:=.slice D (t.length+1) G) cb L;have bk:aw (K.setCell ⟨g,0,none⟩ (.slice D (t.length+1) G)) 247 B w.heap.size part A.at_ A.er:=(by obtain⟨⟨x,h1,h2⟩,h3⟩:=cc;exact⟨⟨x,z.heap h1 am,h2.chg z (λk hk e=>h2.ne_cells a2 δ (by rw[hk,show k=g from e]))⟩,h3⟩);have bs:ag (λk=>k=g\/base<=k) w (K.setCell ⟨g,0,none⟩ (.slice D (t.length+1) G)):=cf.trans z λk _ e=>.inl e;have a5:base<=(K.setCell ⟨g,0,none⟩ (.slice D (t.length+1) G)).heap.size:=ar ch z.size;have dv:=bC.out;have cj:Hid ((t++[q]).length<=100000000+(i+1)):=(by show _<=_;simp;omega);have a6:(K.setCell ⟨g,0,none⟩ (.slice D (t.length+1) G)).heap[g]?=some (.cells #[.slice D (t.length+1) G,N size,hv] 257 (0,0)):=ci;have fD:(K.setCell ⟨g,0,none⟩ (.slice D (t.length+1) G)).cell? ⟨g,2,none⟩=some hv:=(by rw[aG a6];rfl);clear ci z cc cf ch cb o az ai Y p Z a1 c0 J dv;by_cases bt:i=0
     ·have k0:(i:Int)=0:=ω;have k1:((i:Int) == 0)=true:=(by rw[beq_iff_eq];exact k0);have fE:=ad bt;have ah:=HH.out;have fN:=c6.out bt;have dE:Hid (m.length+[q].length<=2147483648):=(by show _<=_;simp;omega);obtain⟨ha,fQ,rfl⟩:=Q.shape';clear bt k0;go_wp2_with (at_builtin;refine bA eS rfl (.tmp 67) (.tmp 69) 44 rfl uAB base rfl Q [q] _ _ _ rfl rfl (show Value.slice (some ⟨K.heap.size,0,none⟩) 1 1=_ by simp[World.setCell]) dE.out a5 ?_);intro v9 w9 o;obtain⟨R,U,ck⟩:=o.own.shape';rw[show(m++[q]).length=m.length+1 from by simp]at ck;subst ck;have a8:=o.chg'.heap a6 (λe=>by have:=(Q.lt _ e).1;omega);have e5:=af a8 2 rfl;have e6:=aB a8 2;have cl:=o.other a4 a3;have dT:=o.apart a4 a3;have cm:=bk.app Q o δ δ;have cn:ag (λk=>k=g\/base<=k) w w9:=bs.trans o.chg' λk _ e=>.inr (Q.lt k e).1;have cp:=ar a5 o.size;have z:=ay w9 ⟨g,2,none⟩ (.slice R (m.length+1) U);have eb:=aI a8 2 (.slice R (m.length+1) U);have ec:=de (i:=2) (u:=.slice R (m.length+1) U) cl L;have ef:=de (i:=2) (u:=.slice R (m.length+1) U) o.own L;have ek:aw (w9.setCell ⟨g,2,none⟩ (.slice R (m.length+1) U)) 247 B w.heap.size part A.at_ A.er:=(by obtain⟨⟨x,h1,h2⟩,h3⟩:=cm;exact⟨⟨x,z.heap h1 am,h2.chg z (λk hk e=>h2.ne_cells a8 δ (by rw[hk,show k=g from e]))⟩,h3⟩);have em:ag (λk=>k=g\/base<=k) w (w9.setCell ⟨g,2,none⟩ (.slice R (m.length+1) U)):=cn.trans z λk _ e=>.inl e;have eq:base<=(w9.setCell ⟨g,2,none⟩ (.slice R (m.length+1) U)).heap.size:=ar cp z.size;clear z cm cn cp cl o bk bs a5 a4 Q a3 a6;go_wp2;go_roundw;·exact⟨i+1,A,t++[q],m++[q],ω,γ,bT.out,bS.out,cj.out,by rw[aM];show m.length+1<=_;omega,λh=>by omega,⟨⟨_,_,eb,ec,ef,dT⟩,L⟩,ek,em,eq,bR.out⟩
      ·exact μ
     ·have k0:¬(i:Int)=0:=ω;have k1:((i:Int) == 0)=false:=(by rw[mz];exact k0);go_wp2;go_roundw;·exact⟨i+1,A,t++[q],m,ω,γ,bT.out,bS.out,cj.out,HH.out,λh=>by omega,⟨⟨_,hv,a6,a4,Q,a3⟩,L⟩,bk,bs,a5,bR.out⟩
      ·exact μ
    ·rw[ae O]at aa;have gb:¬(A.er:Int)=0:=ω;have bu:Hid (F=(t,A.er)):=X.out.trans aa.out;clear X aa bf;go_wp2_with fail;apply a1.z;rintro e w6 ⟨rfl,rfl⟩;go_wp2;go_ret;rw[bu.out];exact⟨rfl,⟨m,HH.out,ac⟩,ai⟩
  ·obtain rfl:i=n:=ω;have gc:¬((i:Int)<i):=ω;have bu:Hid (F=(t,(d.fin part).er)):=ad (by rw[X.out,eA];rfl);have es:=ad (c1.out B _ d wr hC);obtain⟨dj,av⟩:=hC.cbox;have HD:=ad hD;clear X p Y Z hD J;go_wp2_with fail;apply es.z;rintro e w5 ⟨rfl,az,M⟩;have ac:=HD.out.beside av δ am M;have ai:=ba.trans (G':=λk=>k=B) M λk _ e=>.inr (by have e:k=B:=e;omega);go_wp2;go_ret;rw[bu.out];exact⟨rfl,⟨m,ah,ac⟩,ai⟩
def yh(part:U0)(k:Nat):∀(i:Nat) (d:Cs) (t:List U0),(∀x∈t,x.length<=25)->(∀x∈(gd part k i d t).1,x.length<=25)/\(gd part k i d t).1.length<=t.length+k:=by
 induction k with
 | zero=>intro i d t h;exact⟨h,au _⟩
 | succ k m=>
  intro i d t h;rw[gd];split
  ·rename_i o;have f := m (i + 1) (iO d part (t.getLastD []) (decide (i = 0))) (t ++ [iY d part (t.getLastD []) (decide (i = 0))]) (fun x e => by
     rcases iI.1 e with e | e;·exact h x e
     · rw[lp.1 e]; exact xf _ _ _ _ o)
   rw[aM]at f;simp only[mDQc]at f;exact⟨f.1,ω⟩
  ·exact⟨h,by show t.length<=_;omega⟩
def Aj(s:Cs)(l:U0)(k:Nat):(s.take l k).1.length<=l.length:=by
 unfold Cs.take;split
 ·split;·exact ax _
  ·rw[aP,bn];omega
 ·exact ax _
def DL(b:U0)(size n:Nat)(l:List Nat)(i:Nat)(s:Cs)(t:List U0)(h:i<l.length):dI b size n (l.drop i) i s t=if(s.take b l[i]).2.er=0 then(if(gd (s.take b l[i]).1 (min size (n-i*size)) 0 ⟨0,0⟩ t).2=0 then dI b size n (l.drop (i+1)) (i+1) (s.take b l[i]).2 (gd (s.take b l[i]).1 (min size (n-i*size)) 0 ⟨0,0⟩ t).1 else([],(s.take b l[i]).2,(gd (s.take b l[i]).1 (min size (n-i*size)) 0 ⟨0,0⟩ t).2))else([],(s.take b l[i]).2,(s.take b l[i]).2.er):=by
 rw[kO h,dI]
def aw.under{w w':World}{B base n d g:Nat}{T:TypeId}{l:U0}(h:aw w T B base l n d)(z:B<g)(f:ag (λk=>k=g\/g+1<=k) w w'):aw w' T B base l n d:=by
 obtain⟨⟨x,o,m⟩,p⟩:=h;exact⟨⟨x,f.heap o (λe=>by omega),m.chg f (λk q e=>by have:=m.top k q;omega)⟩,p⟩
def Au(b:U0)(k:Nat)(s:Cs)(l:List Nat)(h:¬s.er=0):fW b k s l=(l,s):=by
 cases k with
 | zero=>rfl
 | succ k=>rw[fW,ae h]
def Av(b:U0)(k:Nat):∀(s:Cs) (l:List Nat),(fW b k s l).1.length<=l.length+k:=by
 induction k with
 | zero=>intro s l;exact au _
 | succ k d=>
  intro s l;rw[fW];split;·have:=d (s.int b 2000).2 (l++[(s.int b 2000).1]);simp at this;omega
  ·show l.length<=_;omega
def El(n size j:Nat)(h:1<=size):j<(n+size-1) / size↔j*size<n:=by
 rw[Nat.lt_iff_add_one_le,zr ω,ikQb];omega
def QL(size:Nat)(h1:1<=size)(h2:size<=64)(v:Value)(b:U0)(w:World)(p:ao w eB v b)(hl:b.length<=1000000):Calls prog 126 #[N size,v] w λe w'=>∃pv,e=.returned (.tuple #[pv,N (bJ size b).2.1,.int .i64 ((bJ size b).2.2:Int)])/\Fr w w'/\((bJ size b).2.2=0->∃g base p,pv=.pointer (some ⟨g,0,none⟩)/\w.heap.size<=g/\jW w' g base size (bJ size b).1 p):=by
 have bG:=ad (nm v b w p hl);have ba:=ad (λc9 hm B base s W h=>pp c9 hm B base s b W h hl);have bb:=ad (λB base n er W h=>jg B base n er b W h);have cC:=ad (λB base n er W h=>sy B base n er b W h);have cE:=ad (λB base k s W h hb=>yW B base k s b W h hl hb);have HR:Hid (bJ size b=if(dI b size (cU b).1 (fW b (((cU b).1+size-1) / size) (cU b).2 []).1 0 (fW b (((cU b).1+size-1) / size) (cU b).2 []).2 []).2.2=0 then((dI b size (cU b).1 (fW b (((cU b).1+size-1) / size) (cU b).2 []).1 0 (fW b (((cU b).1+size-1) / size) (cU b).2 []).2 []).1,(dI b size (cU b).1 (fW b (((cU b).1+size-1) / size) (cU b).2 []).1 0 (fW b (((cU b).1+size-1) / size) (cU b).2 []).2 []).2.1.at_,0)else([],0,(dI b size (cU b).1 (fW b (((cU b).1+size-1) / size) (cU b).2 []).1 0 (fW b (((cU b).1+size-1) / size) (cU b).2 []).2 []).2.2)):=rfl;have HN:Hid (cU b=(⟨0,0⟩:Cs).int b 1048576):=rfl;have bd:(cU b).1<=1048576:=by
  show Cs.val _ _<=_;unfold Cs.val;split;·rename_i h;exact(jN _ _ h.2).2.2
  ·exact ax _
 generalize bJ size b=R at *;generalize cL:cU b=DN at *;obtain⟨n,s0⟩:=DN;have hn:n<=1048576:=bd;have hK:=Av b ((n+size-1) / size) s0 [];have bT:=El n size;obtain⟨Z,hZ⟩:∃Z,Z=fW b ((n+size-1) / size-0) s0 []:=⟨_,rfl⟩;have bf:Hid (R=if(dI b size n Z.1 0 Z.2 []).2.2=0 then((dI b size n Z.1 0 Z.2 []).1,(dI b size n Z.1 0 Z.2 []).2.1.at_,0)else([],0,(dI b size n Z.1 0 Z.2 []).2.2)):=by rw[hZ];exact HR.out
 have bk:Z.1.length<=(n+size-1) / size:=by rw[hZ];simpa using hK
 have HZ:=ad hZ;have bl:=ad (bT · h1);have eC:(n+size-1) / size<=1048640:=ar (il _ _) ω;clear hZ hK bT bd HR cL;generalize (n+size-1) / size=K at *;have z1:¬(size:Int)<1:=ω
 have z2:¬(64:Int)<size:=ω
 obtain⟨a0,fc,rfl,_⟩:=p.shape;clear p;go_in;go_wp2_with fail;apply bG.z;rintro e L ⟨B,rfl,hC,cb,hB⟩;have bm:=ad (ba.out 1048576 ω B _ ⟨0,0⟩ L hC);rw[<- HN.out]at bm;have fh:=hC.lt;have cR:=cb.size;clear bG hC;go_wp2_with fail;apply bm.z;rintro e w2 ⟨rfl,cc,bq⟩;have cf:Fr w w2:=((cb.chg (λb=>b=B)).trans bq λ_ _ h=>h).fr (λk hk e=>by omega);have da:=bq.size;clear bm bq;go_upto_block 0 with fail;go_cut [9,10]from 28 to 44 (λzv _ wx=>∃(l:List Nat) (s:Cs),Z=(l,s)/\Ow wx L.heap.size eJ zv l/\aw wx 247 B w.heap.size b s.at_ s.er/\Fr w wx/\L.heap.size<=wx.heap.size)
 ·
  go_wp2;go_loopw [9,10] (λzv av wr=>∃(j D:Nat) (s:Cs) (l:List Nat),j<=K/\l.length=j/\av=N D/\D<=n+64/\Hid (D=j*size)/\Ow wr L.heap.size eJ zv l/\aw wr 247 B w.heap.size b s.at_ s.er/\Fr w wr/\L.heap.size<=wr.heap.size/\Hid (Z=fW b (K-j) s l)) (λ_ av _=>n-(intOf av).toNat);·exact⟨0,0,s0,[],ax _,rfl,rfl,ω,by show 0=_;simp,Ow.nil,cc,cf,da,HZ.out⟩
  ·
   clear cc cf HZ;obtain⟨j,D,s,l,hj,aj,rfl,fl,bv,m,hC,z,M,X⟩:=hrel;have ch:=ad aj;obtain⟨za,zc,ci⟩:=m.shape';rw[aj]at ci;subst ci;clear aj;have a3:=ad (bb.out B _ s.at_ s.er wr hC);by_cases a4:D<n
   ·have i1:(D:Int)<n:=ω;have b1:j<K:=(bl.out j).2 (by rw[<- bv.out];exact a4);by_cases d:s.er=0
    ·have ak:Hid (Z=fW b (K-(j+1)) (s.int b 2000).2 (l++[(s.int b 2000).1])):=ad (by rw[X.out,show K-j=(K-(j+1))+1 by omega,fW,an d]);have HI:=ad (ba.out 2000 ω B _ s wr hC);rw[d]at a3;have db:Hid (l.length+[(s.int b 2000).1].length<=2147483648):=(by have:=ch.out;show _<=_;simp;omega);obtain⟨dc,Y⟩:=hC.cbox;have O:=ad m;have dd:D+size<=n+64:=ω;have dj:Hid (D+size=(j+1)*size):=ad (by rw[bv.out,ikQb]);clear m hC d X;generalize (s.int b 2000).2=o,(s.int b 2000).1=x at *;go_wp2_with fail;apply a3.z;rintro e Q ⟨rfl,rfl⟩;go_wp2_with fail;apply HI.z;rintro e Q ⟨rfl,al,G⟩;have aa:=O.out.chg G (O.out.nB Y δ);have am:Fr w Q:=((z.chg (λb=>b=B)).trans G λ_ _ h=>h).fr (λk hk e=>by omega);have ap:=ar M G.size;clear a3 HI O Y G;go_wp2_with (at_builtin;refine bA eJ rfl (.tmp 39) (.tmp 42) 40 rfl uAC L.heap.size rfl aa [x] _ _ _ rfl rfl rfl db.out ap ?_);intro v4 w4 a5;have dk:=al.app aa a5 δ δ;have dl:=a5.below aa am cR am.size;have ds:=ar ap a5.size;have aj:=ch.out;go_wp2;go_roundw;·exact⟨j+1,D+size,o,l++[x],ω,by rw[aM,aj];rfl,γ,dd,dj.out,a5.own,dk,dl,ds,ak.out⟩
     ·exact μ
    ·have ak:Hid (Z=(l,s)):=ad (by rw[X.out,Au _ _ _ _ d]);have cl:¬(s.er:Int)=0:=ω;clear X;go_wp2_with fail;apply a3.z;rintro e Q ⟨rfl,rfl⟩;go_wp2;go_meet;exact⟨l,s,ak.out,m,hC,z,M⟩
   ·have b1:j=K:=by
      rcases mA j K with h | h;·have:=(bl.out j).1 h;rw[<- bv.out]at this;omega
      ·omega
    have ak:Hid (Z=(l,s)):=ad (by rw[X.out,b1,eA];rfl);have i1:¬(D:Int)<n:=ω;clear X b1 hj;go_wp2;go_meet;exact⟨l,s,ak.out,m,hC,z,M⟩
 ·
  obtain⟨l,s,cm,m,hC,z,M⟩:=hcut;rw[cm]at bf bk;have fr:l.length<=K:=bk;obtain⟨za,zc,rfl⟩:=m.shape';have dv:∀k,(Value.slice za l.length zc).ownBlock=some k->k<wc.heap.size:=λk hk=>(m.lt k hk).2;have cn:(wc.alloc (.cells #[.slice none 0 0,N size,.slice none 0 0] 257)).heap[wc.heap.size]?=some (.cells #[.slice none 0 0,N size,.slice none 0 0] 257 (0,0)):=aD _ _ _ rfl;have a6:Fr wc (wc.alloc (.cells #[.slice none 0 0,N size,.slice none 0 0] 257)):=(Fr.refl wc).alloc _;have cp:wc.heap.size+1<=(wc.alloc (.cells #[.slice none 0 0,N size,.slice none 0 0] 257)).heap.size:=σ;have dz:B<wc.heap.size:=hC.lt;have dE:w.heap.size<=wc.heap.size:=z.size;have cq:=m.fr a6;have cr:=hC.fr a6;have cs:=z.trans a6;obtain⟨A,b2⟩:∃A,A=dI b size n (l.drop 0) 0 s []:=⟨_,rfl⟩;have I:Hid (R=if A.2.2=0 then(A.1,A.2.1.at_,0)else([],0,A.2.2)):=(by rw[b2];exact bf.out);have HD:=ad b2;clear b2 bf cm bk m hC z M HN ba;go_wp2_with fail;generalize wc.alloc (.cells #[.slice none 0 0,N size,.slice none 0 0] 257)=W0 at *;generalize wc.heap.size=g at *;have cu:jW W0 g (g+1) size [] []:=⟨⟨_,_,cn,Ow.nil,Ow.nil,.inl rfl⟩,ω⟩;go_loopw [49] (λiv wr=>∃(i:Nat) (s:Cs) (t p:List U0),i<=l.length/\iv=N i/\Hid (∀x∈t,x.length<=25)/\t.length<=i*64/\p.length<=i/\jW wr g (g+1) size t p/\Ow wr L.heap.size eJ (.slice za l.length zc) l/\aw wr 247 B w.heap.size b s.at_ s.er/\Fr w wr/\g+1<=wr.heap.size/\Hid (A=dI b size n (l.drop i) i s t)) (λiv _=>l.length-(intOf iv).toNat);·exact⟨0,s,[],[],ax _,rfl,(show ∀x∈([]:List U0),x.length<=25 from λx hx=>(kK hx).elim),ax _,ax _,cu,cq,cr,cs,cp,HD.out⟩
  ·
   clear cu cq cr cs cp HD cn a6;obtain⟨i,s,t,p,hi,rfl,cv,fB,fC,hD,m,hC,z,M,ab⟩:=hrel;by_cases a4:i<l.length
   ·have cz:=(bl.out i).1 ω;have U:=ad (DL b size n l i s t a4);obtain⟨b5,o5,p5,ek,e5⟩:=m.see.cell1 N rfl i a4;cases ek;have e6:wr.cell? ⟨b5,o5+i,none⟩=some (N l[i]):=e5;have c1:=ad (cE.out B _ l[i] s wr hC ω);have fE:=Aj s b l[i];have c3:min size (n-i*size)<=64:=ω;have b4:=ad (λpart=>yh part (min size (n-i*size)) 0 ⟨0,0⟩ t cv.out);obtain⟨q,hq⟩:∃q,q=i*size:=⟨_,rfl⟩;rw[<- hq]at cz U c3 b4;have fN:IntKind.i64.wrap ((i:Int)*size)=(q:Int):=(by rw[show(i:Int)*size=((i*size:Nat):Int) by simp,hq];exact aA _ ω);have fP:IntKind.i64.wrap ((n:Int)-q)=((n-q:Nat):Int):=(by rw[aA _ ω];omega);have fQ:=ad hq;clear hq;obtain⟨dc,Y⟩:=hC.cbox;have i1:(0:Int)<=i:=ω;have i2:(i:Int)<l.length:=ω;have O:=ad m;have c4:=ad hD;clear e5 m hC hD;generalize (s.take b l[i]).1=part at *;generalize (s.take b l[i]).2=o at *;generalize l[i]=k at *;go_wp2_with fail;apply c1.z;rintro e Q ⟨pv,rfl,b6,al,G⟩;have c5:=c4.out.beside Y δ ω G;have aa:=O.out.chg G (O.out.nB Y δ);have am:Fr w Q:=((z.chg (λb=>b=B)).trans G λ_ _ h=>h).fr (λk hk e=>by omega);have ap:=ar M G.size;have J:=ad (bb.out B _ o.at_ o.er Q al);obtain⟨pa,pc,rfl⟩:=b6.shape';clear c1 O c4 Y G e6;by_cases d:o.er=0
    ·rw[an d]at U;rw[d]at J;have b7:=ad (Mh g (g+1) size (min size (n-q)) _ part t p Q c5 b6.see ω ω cv.out ω ω ap);have b9:=b4.out part;obtain⟨mm,c6⟩:∃mm,mm=min size (n-q):=⟨_,rfl⟩;rw[<- c6]at U b7 b9 c3;have gc:=ad d;generalize n-q=ns at *;have ge:min (size:Int) (ns:Int)=(mm:Int):=ω;generalize gd part mm 0 ⟨0,0⟩ t=F at *;have ac:=ad (ab.out.trans U.out);clear ab U b4 d c6 cz;go_wp2_with fail;apply J.z;rintro e w4 ⟨rfl,rfl⟩;go_wp2_with fail;apply b7.z;rintro e w5 ⟨rfl,⟨ev,gg,e0⟩,az⟩;have e1:=al.under dz az;have e2:=aa.chg az (λj hj e=>by have:=dv j hj;omega);have c7:Fr w w5:=((am.chg (λk=>k=g\/g+1<=k)).trans az λ_ _ h=>h).fr (λk hk e=>by omega);have e3:=ar ap az.size;clear J b7 c5 aa b6 al az;by_cases hF:F.2=0
     ·have ah:Hid (A=dI b size n (l.drop (i+1)) (i+1) o F.1):=ad (by rw[ac.out,an hF]);have bC:((F.2:Nat):Int)=0:=ω;rw[bC];clear hF bC ac;go_wp2;go_roundw;·exact⟨i+1,o,F.1,ev,ω,γ,b9.1,by have:=b9.2;omega,ω,e0,e2,e1,c7,e3,ah.out⟩
      ·exact μ
     ·have ah:Hid (A=([],o,F.2)):=ad (by rw[ac.out,ae hF]);have V:Hid (R=([],0,F.2)):=ad (by rw[I.out,ah.out,ae hF]);have bC:¬(F.2:Int)=0:=ω;have e4:=ad hF;clear ac I hF;go_wp2;go_ret3;rw[V.out];exact⟨_,rfl,c7,λh=>absurd h e4.out⟩
    ·have ac:Hid (A=([],o,o.er)):=ad (by rw[ab.out,U.out,ae d]);have V:Hid (R=([],0,o.er)):=ad (by rw[I.out,ac.out,ae d]);have cl:¬(o.er:Int)=0:=ω;clear ab U I;go_wp2_with fail;apply J.z;rintro e w4 ⟨rfl,rfl⟩;go_wp2;go_ret3;rw[V.out];exact⟨_,rfl,am,λh=>absurd h d⟩
   ·obtain rfl:i=l.length:=ω;have bd:¬((l.length:Int)<l.length):=ω;have ah:Hid (A=(t,s,s.er)):=ad (by rw[ab.out,qR,dI]);have J:=ad (bb.out B _ s.at_ s.er wr hC);have e7:=ad (cC.out B _ s.at_ s.er wr hC);clear ab m hC;by_cases d:s.er=0;·have V:Hid (R=(t,s.at_,0)):=ad (by rw[I.out,ah.out,an d]);rw[d]at J;clear I d;go_wp2_with fail;apply J.z;rintro e w4 ⟨rfl,rfl⟩;go_wp2_with fail;apply e7.z;rintro e w4 ⟨rfl,rfl⟩;go_wp2;go_ret3;rw[V.out];exact⟨_,rfl,z,λ_=>⟨g,g+1,p,rfl,dE,hD⟩⟩
    ·have V:Hid (R=([],0,s.er)):=ad (by rw[I.out,ah.out,ae d]);have cl:¬(s.er:Int)=0:=ω;clear I;go_wp2_with fail;apply J.z;rintro e w4 ⟨rfl,rfl⟩;go_wp2;go_ret3;rw[V.out];exact⟨_,rfl,z,λh=>absurd h d⟩
end Go.Proofs
namespace Go.Fk
def Cs.take_bad(s:Cs)(b:U0)(k:Nat)(h:¬s.er=0):s.take b k=([],s):=by
 unfold Cs.take;simp[h]
def MH(b:U0)(size n:Nat)(l:List Nat)(i:Nat)(s:Cs)(t:List U0)(h:¬s.er=0):(dI b size n l i s t).2.2=s.er:=by
 cases l with
 | nil=>rfl
 | cons k r=>rw[dI,Cs.take_bad s b k h,ae h]
def DG(size:Nat)(b:U0)(h:¬(gh size b).2.er=0):bJ size b=([],0,(gh size b).2.er):=by
 have d:(sd size b).2.2=(gh size b).2.er:=MH b size (cU b).1 (gh size b).1 0 (gh size b).2 [] h;unfold bJ;rw[d,ae h]
def MF(size:Nat)(b:U0)(h:¬(cU b).2.er=0):bJ size b=([],0,(cU b).2.er):=by
 have d:gh size b=([],(cU b).2):=by
  unfold gh;generalize ((cU b).1+size-1) / size=K
  cases K with
  | zero=>rfl
  | succ k=>rw[fW,ae h]
 have e:=DG size b (by rw[d];exact h);rw[e,d]
def Mi(part:U0)(k:Nat):∀(i:Nat) (d:Cs) (t:List U0),(gd part k i d t).2=0->(gd part k i d t).1.length=t.length+k:=by
 induction k with
 | zero=>intro i d t _;rfl
 | succ k f=>
  intro i d t h;rw[gd]at h ⊢;split at h;·rename_i e;rw[an e,f _ _ _ h,aM];simp only[gF,jG];omega
  ·rename_i e;exact absurd h e
def NG(size n i k:Nat)(h:i*size<n):(k<size/\i*size+k<n)↔k<min size (n-i*size):=by
 omega
end Go.Fk
namespace Go.Proofs
open RowKit Fk Tryz
