/- Lemmas for ThreeTurned. -/
import Derived.Maps.GroupsBeside
import Derived.Sort.KeysCollected
import Derived.Test.YtndbpldeabnkbaaGreatDoorIter
import Derived.Test.YtndbpldeabnkbaaGreatDoorM32
import Derived.Test.YtndbpldeabnkbaaGreatDoorM22
import Derived.Test.YtndbpldeabnkbaaGreatDoorM16
set_option linter.all false
set_option maxHeartbeats 8000000
set_option maxRecDepth 100000
namespace Go.Proofs.YtndbpldeabnkbaaGreatDoor
open Go.RowKit Go.Fk
def oV:aw Tryz.prog Hd:=⟨56,1,24,⟨none,0,0⟩,.slice none 0 0,λh=>[h.v],by kernel_rfl,δ,δ,by simp[Value.cells],λ_=>rfl,by intro x u d;simp at d;subst d;rfl⟩
def jM(size d:Nat)(ts:List Z0)(e:List (List Nat)):Z0:=lA size ts++ju d e
structure Cn (bound:Nat) (ts:List Z0) (ls:List (List Nat)):Prop where
 txt:uH ts
 len:ts.length<=10000
 same:ls.length=ts.length
 ne:∀q∈ls,q≠[]
 ris:∀q∈ls,et bound 0 q=true
 bnd:bound<=20000
 sum:(ju bound ls).length<=400000
def TU(n:Nat)(l:List Z0)(d:1<=n)(e:n<=64)(z:uH l)(m:l.length<=10000):(lA n l).length<=553520:=by
 have o:∀s∈l,s.length<=25:=λs h=>(z.2.1 s h).2;have A:=G8 l n (aH l.length n) d e m o;have D:=IC l n (aH l.length n) d e m o;rw[cw (by rw[qg];exact al _)]at A D;have F:=cJ l.length ω;unfold lA;rw[am,am];omega
def NR(e:Nat)(d:List (List Nat))(k:Nat):(ju e (d.take k)).length<=(ju e d).length:=by
 unfold ju;rw[kR,kR];exact zD _ d k
def NS(e:Nat)(d:List (List Nat))(k:Nat)(h:k<d.length):ju e (d.take (k+1))=ju e (d.take k)++gY e d[k]:=Bl _ d k h
def QS{w:World}{v:Value}{D:List Hd}{d:List (List Nat)}(h:cO w oV eJ v D d)(k:Nat)(e:k<d.length):∃b m o p c,v=.slice (some ⟨b,m,none⟩) d.length o/\w.cell? ⟨b,m+k,none⟩=some (.slice p (d[k]'e).length c)/\ah w eJ (.slice p (d[k]'e).length c) (d[k]'e):=by
 have F:=h.2.1;obtain⟨b,m,o,G,A⟩:=h.1.cell1 (λx:Hd=>x.v) rfl k ω;have z:=h.2.2 k ω e;obtain⟨p,c,I,_⟩:=z.shape;rw[I]at z A;exact⟨b,m,o,p,c,by rw[G,F],A,z⟩
def Xg(size m:Nat)(O:1<=size)(Y:size<=64)(Q lv:Value)(ts:List Z0)(o:List Hd)(d:List (List Nat))(w:World)(I:ah w eS Q ts)(R:cO w oV eJ lv o d)(z:Cn m ts d):Calls Tryz.prog 38 #[N size,N m,.agg #[Q,lv]] w λe w'=>∃u,e=.returned (.tuple #[u,.int .i64 0])/\Ow w' w.heap.size eB u (jM size m ts d)/\Fr w w':=by
 have HD:=ad (λW (h:ah W eS Q ts)=>XI size O Y Q ts W h z.txt z.len);have bl:=ad (λW (h:Fr w W)=>I.fr h);have bm:=ad (λW (h:Fr w W) k hk=>QS (R.fr h) k hk);have bn:=ad (λv q W (hq:q∈d) (h:ah W eJ v q)=>XF m z.bnd v q W h (z.ris q hq));have bu:=ad z.ne;have cj:=TU size ts O Y z.txt z.len;have bv:=ad z.sum;have ck:=ad (NR m d);have cl:=ad (NS m d);have a6:=ad z.same;have cm:=z.bnd;have cn:=z.len;have HT:Hid (jM size m ts d=lA size ts++ju m d):=rfl;have cp:=ad (λv' a7 W k (U:cO W aO eB v' a7 (lA size ts::(d.take k).map (gY m)))=>rm v' a7 _ W U);generalize lA size ts=D,jM size m ts d=T at *;obtain⟨ta,tc,rfl,cq,cs,_⟩:=I.shape;obtain⟨la,lc,rfl,ct,cu,_⟩:=R.1.shape;have Z:=ad R.2.1;clear z I R;have i1:¬(m:Int)<0:=ω
 have i2:¬(20000:Int)<m:=ω
 have c3:((ts.length:Int) != (o.length:Int))=false:=by have:=Z.out;have:=a6.out;simp;omega
 go_in;go_wp2_with fail;refine(HD.out _ (bl.out _ ((Fr.refl w).alloc _))).mono ?_;rintro e G ⟨v1,rfl,aa,aC⟩;have ba:=aC.heap (aB w (.cells #[.slice ta ts.length tc,.slice la o.length lc] 84) _ rfl);have bb:Fr w G:=((Fr.refl w).alloc _).trans aC;have c1:=ag ba 1 rfl;obtain⟨p1,J,rfl⟩:=aa.shape';have V:=nu aO G #[.slice p1 D.length J] [⟨p1,D.length,J⟩] 1 rfl (by simp [maxLen]) bb.size;have ab:Fr G (G.alloc (.cells #[.slice p1 D.length J] 30)):=(Fr.refl G).alloc _;have c2:=ab.cell c1;have ac:=aa.fr ab;have b4:=bb.trans ab;clear aa ba;go_upto_region 7 with fail;change Ow (G.alloc (.cells #[.slice p1 D.length J] 30)) _ _ _ _ at V;generalize G.alloc (.cells #[.slice p1 D.length J] 30)=w2 at *;have b6 : cO w2 aO eB (.slice (some ⟨G.heap.size, 0, none⟩) 1 1) [⟨p1, D.length, J⟩] [D] := ⟨V.see, rfl, fun i a b => by
   have : i = 0 := (by simp at a; exact a);subst this
   exact ac.see⟩
 have X:Hid (o.length=d.length):=Z.out;have c5:o.length<=10000:=by have:=Z.out;have:=a6.out;omega
 go_wp2;go_loopw [10,45] (λpv iv wr=>∃(k:Nat) (A:List Hd),k<=o.length/\iv=N k/\Ow wr w.heap.size aO pv A/\cr wr w.heap.size eB A (D::(d.take k).map (gY m))/\Fr w wr) (λ_ iv _=>o.length-(intOf iv).toNat);case atStart=>refine⟨0,_,ar _,rfl,V,⟨σ,λt a b=>?_⟩,b4⟩;have:t=0:=(by simp at a;exact a);subst this;exact ac.rebase σ
 case round=>
  clear V ac b6;obtain⟨k,A,hk,rfl,hP,F,hf⟩:=hrel;have ak:A.length=k+1:=(by have O:=F.1;have Y:=X.out;rw[aL,cy,aA]at O;omega);have b9:=ad ak;obtain⟨pa,pc,rfl⟩:=hP.shape';have K:=hf;by_cases c8:k<o.length
  ·have ap:k<d.length:=(by have:=X.out;omega);obtain⟨b,cA,cB,qp,qc,U,d0,bA⟩:=bm.out wr K k ap;rw[<- X.out]at U;cases U;have av:d[k]∈d:=bJ ap;have bB:=ad (bn.out _ d[k] wr av bA);have cL:0<d[k].length:=zj.2 (bu.out _ av);have bL:Hid (d.take (k+1)=d.take k++[d[k]]):=f8 ap;generalize d[k]=q at *;have cN:((q.length:Int) == 0)=false:=wi.2 ω;have i3:(0:Int)<=k:=ω;have i4:(k:Int)<o.length:=ω;clear av ak;go_wp2_with fail;refine bB.out.mono ?_;rintro e w3 ⟨v3,rfl,a0,a1⟩;obtain⟨p3,z3,rfl⟩:=a0.shape';have L:=hP.fr a1;have a3:=K.trans a1;go_wp2_with (at_builtin;refine cW aO rfl (.tmp 62) (.tmp 64) 75 rfl Tryz.underlying75 w.heap.size rfl L [⟨p3,(gY m q).length,z3⟩] _ _ _ rfl rfl rfl ?c1 a3.size ?_);case c1=>have:=b9.out;first | omega | (simp;omega)
   intro v4 w4 M;have bR:Fr w w4:=M.below L a3 (al _) a3.size;have bT:cr w4 w.heap.size eB (A++[⟨p3,(gY m q).length,z3⟩]) (D::(d.take (k+1)).map (gY m)):=by
    rw[bL.out,eD,<- lm];refine⟨by rw[am,am,F.1];rfl,λt a b=>?_⟩;by_cases I:t<A.length;·have bc:t<(D::(d.take k).map (gY m)).length:=(by rw[<- F.1];exact I);rw[kI I,kI bc];exact dx ((F.2 t I bc).fr a1) L M δ
    ·have e1:t=A.length:=(by rw[am,kH]at a;omega);subst e1;rw[jZ (al _)];have e2:A.length=(D::(d.take k).map (gY m)).length:=F.1;rw[jZ (by rw[<- e2];exact al _)];simp only[fY,e2,dD,ox,sA];exact dx (a0.rebase K.size) L M δ
   have cb:=M.own;clear F M L a0 hP;go_wp2;go_roundw;case rel=>exact⟨k+1,A++[⟨p3,(gY m q).length,z3⟩],ω,γ,cb,bT,bR⟩
   case measure=>exact μ
  ·obtain rfl:k=o.length:=(by omega);have di:¬(o.length:Int)<o.length:=(by omega);rw [cw (by have:=X.out;omega)]at F;have bf := ad (rm _ A _ wr (F.sees2 hP.see) (by
     have := bv.out;unfold ju at this
     simp only[oy, am]; omega))
   have cc:Hid (T=(D::d.map (gY m)).flatten):=ad (by rw[HT.out];rfl);rw[<- cc.out]at bf;clear F hP ak;go_wp2_with fail;refine bf.out.mono ?_;rintro e w5 ⟨v5,rfl,cf,ch⟩;go_wp2;go_ret2;exact⟨_,rfl,cf.rebase K.size,K.trans ch⟩
def aq.ts(r:aq):TS:=⟨r.text,r.source⟩
def fH(L:List TS):List (List Nat):=(dy L).map (cY L)
abbrev rR(d e:Value):Obj:=.cells #[d,e] 84 (0,0)
open Go.RowKit Go.Fk Go.ChangeShapes
def rG(d:List Nat):DataW Unit:=if d=[]then .nil else .slice (lits .i64 (d.map Int.ofNat)) []
structure DI (D:DataW Unit) (f:Z0->List Nat):Prop where
 map:Maps.IsMap D
 row:∀s,D.atKey (.string s) .nil=rG (f s)
 has:∀s,Maps.has D (.string s)=true↔f s≠[]
def DI.empty:DI (.map []) (λ_=>[]):=⟨Maps.isMap_empty,λ_=>rfl,λ_=>by simp[Maps.has]⟩
def DI.put{D:DataW Unit}{f:Z0->List Nat}(h:DI D f)(t:Z0)(d:List Nat)(o:d≠[]):DI (D.put (.string t) (rG d)) (λs=>if s=t then d else f s):=by
 have m:WideAt.IsKeyLit (.string t):=trivial;refine⟨h.map.put _ _,λs=>?_,λs=>?_⟩
 ·by_cases e:s=t;·subst e;rw[Maps.atKey_put_same h.map m,af rfl]
  ·rw[Maps.atKey_put_other (by simpa using e),ae e];exact h.row s
 ·by_cases e:s=t;·subst e;rw[Maps.has_put_same h.map m,af rfl];simp[o]
  ·rw[Maps.has_put_other (by simpa using e),ae e];exact h.has s
def QM{a b:List Int}(h:(lits .i64 a:List (DataW Unit))=lits .i64 b):a=b:=by
 refine(List.map_inj_right (λx y d=>?_)).1 h;simpa using d
def DI.look{D:DataW Unit}{f:Z0->List Nat}(h:DI D f){t:Z0}{w:World}{base:Nat}{e:TypeId}{v:Value}{m:List Int}(d:D.atKey (.string t) .nil=rowDatum .i64 v m)(z:w.ownsInts base e .i64 v m):m=(f t).map Int.ofNat:=by
 rw[h.row t]at d;unfold rG at d;rcases z.datum (H:=Unit)with⟨o,A⟩ | o
 ·rw[o]at d;split at d;·rename_i F;rw[F,A];rfl
  ·cases d
 ·rw[o]at d;split at d;·cases d
  ·simp only[DataW.slice.injEq,mr]at d;exact(QM d).symm
def Iz(l:List Nat):eJ.cells l=l.map N:=by
 induction l with
 | nil=>rfl
 | cons x l d=>show [N x]++eJ.cells l=_;rw[d];rfl
def FI(l:List Nat):(l.map Int.ofNat).map (Value.int .i64)=l.map N:=by rw[jE];rfl
def Gy{w:World}{base:Nat}{v:Value}{l:List Nat}(h:w.ownsInts base 3 .i64 v (l.map Int.ofNat)):Ow w base eJ v l:=by
 have:=h.1;rw[cy,FI]at this;unfold Ow;rw[Iz];exact this
def Pr{w:World}{base:Nat}{v:Value}{l:List Nat}(h:Ow w base eJ v l)(d:∀x∈l,x<1000000000):w.ownsInts base 3 .i64 v (l.map Int.ofNat):=by
 refine⟨?_,λz e=>?_⟩;·unfold Ow at h;rw[Iz]at h;rw[cy,FI];exact h
 ·obtain⟨x,m,rfl⟩:=ee.1 e;have:=d x m;show(decide (IntKind.i64.min<=Int.ofNat x) && decide (Int.ofNat x<=IntKind.i64.max))=true;have o:IntKind.i64.min=-9223372036854775808:=rfl;have A:IntKind.i64.max=9223372036854775807:=rfl;rw[o,A,bp (by simp only[Int.ofNat_eq_natCast];omega),bp (by simp only[Int.ofNat_eq_natCast];omega)];rfl
def NE{w:World}{base:Nat}{v:Value}{l:List Nat}(h:w.ownsInts base 3 .i64 v (l.map Int.ofNat))(d:l≠[]):rowDatum (H:=Unit) .i64 v (l.map Int.ofNat)=rG l:=by
 rw[h.datum_pos (by simpa using d)];unfold rG;rw[ae d]
def S7{w w':World}(h:Fr w w')(d:Option Nat):w.grownBy w' d:=⟨Below.os h,Below.tape h,Below.output h,Below.size h,λk e _=>sL h k e⟩
def Bi{w w':World}{k:TypeId}{base b n:Nat}{D:DataW Unit}(h:w.ownsGroups Tryz.prog k base 3 .i64 b n D)(d:Fr w w'):w'.ownsGroups Tryz.prog k base 3 .i64 b n D:=
 h.kept (S7 d none) σ (λ_ _ _ x _=>by cases x.val.ownBlock <;> simp)
def zW:Maps.Keyed Tryz.prog 9:=Maps.string_keyed Tryz.underlying9
def C8(w:World):(zeroValue 56).run Tryz.prog w=.ok (.slice none 0 0) w:=by kernel_rfl
def Gr(s:Z0)(h:s.length<=maxLen):keyOf Tryz.prog 9 (S s)=some (.string s):=Go.WideMaps.keyOf_string_mk Tryz.underlying9 (by simpa [ByteArray.size] using h)
def Rw{w:World}{R:Value->Option (DataW Unit × List MemPlace)}{b n:Nat}{D:DataW Unit}{f:Z0->List Nat}(hD:DI D f)(z:w.ownsMap Tryz.prog 9 R b n D){T:List Z0}(h:mR T)(A:∀s,s∈T↔f s≠[]){m:List Z0}(F:m.Perm (strKeys D)):m.mergeSort (λx y=>decide (x<=y))=T:=by
 have G:T.Nodup:=h.imp λ{a b} d e=>by subst e;exact s8 _ d
 have I:Collected D (λ_=>false) T:=⟨G,λx=>by rw[A x,hD.has x];simp⟩;have J:=F.trans (I.perm z zW Tryz.underlying9 (λ_=>rfl)).symm;have o:=mergeSort_of_perm J;have K:T.mergeSort leB=T:=by refine List.mergeSort_of_pairwise (h.imp λ{a b} d=>?_);simp only[leB,en];exact List.le_of_lt d
 rw[K]at o;exact o
open Go.RowKit Go.Fk
def JL(v:Value)(l:List aq)(w:World)(d:ah w eR v l)(hl:l.length<=20000)(hb:∀r∈l,r.text.length<=100000/\r.source.length<=100000)(hw:bS (λr:TS=>r.text.length+r.source.length) (l.map aq.ts)<=1048576):Calls Tryz.prog 39 #[v] w λe w'=>∃tv lv d,e=.returned (.agg #[tv,lv])/\ah w' eS tv (dy (l.map aq.ts))/\cO w' oV eJ lv d (fH (l.map aq.ts))/\Fr w w':=by
 obtain⟨a0,l4,rfl,l5,hY,hZ⟩:=d.shape;unfold maxLen at hY;have fh:=ad (λW (h:Fr w W) k hk=>no (d.fr h) k hk);have HB:=ad hb;have fl:=ad (λr W (z:r.text.length<=1000000) (F:r.source.length<=1000000)=>Wh r W z F);have fm:(l.map aq.ts).length=l.length:=cy _;have fn:=ad fm;have ia:Hid (∀k (h:k<l.length) (F:k<(l.map aq.ts).length),(l.map aq.ts)[k]=l[k].ts):=λk h F=>by simp
 have HW:Hid (∀k,bS (λr:TS=>r.terms.length) ((l.map aq.ts).take k)<=1048576):=λk=>
  ay (CG _ _ _ (λr _=>Dm r)) (ay (zD _ _ k) hw)
 have fr:=ad (λk h=>CF (λr:TS=>r.terms.length) (l.map aq.ts) k h);have fs:=ad (λt k h=>RS (l.map aq.ts) t k h);have fv:=ad (ay (xW (l.map aq.ts)) hw);have f0:=ad (λs=>Bf (l.map aq.ts) s);have ic:=@run_makeMap Tryz.prog;have cc:=ad (World.ownsGroups_made (H:=Unit) (w.alloc (.cells #[.slice none 0 0,.slice none 0 0] 84)) Tryz.prog 9 3 .i64);clear d hb hw hZ fm;generalize l.map aq.ts=L at *;go_in;go_upto_region 2 with fail;have f1:(w.alloc (.cells #[.slice none 0 0,.slice none 0 0] 84)).heap.size=w.heap.size+1:=eW _ _;rw[f1]at cc;have aC:Fr w (w.alloc (.cells #[.slice none 0 0,.slice none 0 0] 84)):=(Fr.refl w).alloc _;have g0:=aB w (.cells #[.slice none 0 0,.slice none 0 0] 84) w.heap.size rfl;generalize w.alloc (.cells #[.slice none 0 0,.slice none 0 0] 84)=A1 at *;have ds:Fr A1 (A1.alloc (.map #[] 0)):=(Fr.refl A1).alloc _;have dv:=ds.heap g0;have f3:Fr w (A1.alloc (.map #[] 0)):=aC.trans ds;generalize A1.alloc (.map #[] 0)=A2 at *;obtain⟨R,hR⟩:∃R,R=w.heap.size:=⟨_,rfl⟩;rw[<- hR]at dv cc;have bd:=ad hR;rw[<- hR];clear aC ds g0 f1 ic hR;have f5:DI (.map []) (λs=>cY (L.take 0) s):=by have:(λs=>cY (L.take 0) s)=λ_=>([]:List Nat):=(by funext s;simp[cY]);rw[this];exact DI.empty
 go_wp2;go_loopw [14] (λiv wr=>∃(i n:Nat) (D:DataW Unit),i<=l.length/\iv=N i/\wr.heap[R]?=some (rR (.slice none 0 0) (.slice none 0 0))/\wr.ownsGroups Tryz.prog 9 (R+1+1) 3 .i64 (R+1) n D/\Hid (DI D (λs=>cY (L.take i) s))/\Hid (n<=bS (λr:TS=>r.terms.length) (L.take i))/\Fr w wr) (λiv _=>l.length-(intOf iv).toNat);case atStart=>exact⟨0,0,_,ar _,rfl,dv,cc.out,f5,ar _,f3⟩
 case round=>
  clear dv cc f3 f5;obtain⟨i,n,D,hi,rfl,M,O,d2,HN,I⟩:=hrel;by_cases cj:i<l.length
  ·obtain⟨b,mb,mc,hv,c0,c1,c2,c3⟩:=fh.out wr I i cj;cases hv;have i0:=HB.out _ (bJ cj);have d3:i<L.length:=(by rw[fn.out];exact cj);have e1:=ia.out i cj d3;have d4:=ad (fr.out i d3);have f7:=ad (λt=>fs.out t i d3);rw[e1]at d4 f7;have md:=HW.out (i+1);have bf:=ad (fl.out l[i] (wr.alloc (.cells #[.int .u64 l[i].time.toNat,Fk.u8 l[i].level,S l[i].source,S l[i].text] 62)) ω ω);have f9:Hid (qF l[i].text l[i].source=l[i].ts.terms):=rfl;rw[f9.out]at bf;have i3:Hid (mR l[i].ts.terms):=LM _ _;have i4:=ad (Dn l[i].ts);clear e1 f9 i0;generalize fB:bS (λr:TS=>r.terms.length) (L.take (i+1))=fC at *;have i5:=ad fB;clear fB;have cm:Hid (n<=fC-l[i].ts.terms.length/\l[i].ts.terms.length<=fC):=(by have z:=HN.out;have F:=d4.out;show _/\_;omega);clear HN d4;generalize l[i].ts.terms=o at *;have mg:o.length<=1048576:=(by have:=cm.out;omega);generalize l[i]=r at *;have i1:(0:Int)<=i:=ω;have i2:(i:Int)<l.length:=ω;have d5:R+1+1<=wr.heap.size:=(aR.1 (show wr.heap[R+1]?=_ from(Classical.choose_spec (Classical.choose_spec O)).1)).1;go_wp2_with fail;refine bf.out.mono ?_;rintro e w3 ⟨mk,rfl,bk,ak⟩;obtain⟨ta,tc,rfl⟩:=bk.shape';have aC:Fr wr (wr.alloc (.cells #[.int .u64 r.time.toNat,Fk.u8 r.level,S r.source,S r.text] 62)):=(Fr.refl wr).alloc _;have fD:=bk.rebase (b:=R+1+1) (ay d5 aC.size);have fN:=(aC.trans ak).heap M;have fP:=Bi O (aC.trans ak);have fQ:=I.trans (aC.trans ak);clear bk M O I aC bf ak c0 c1 c2 c3;go_wp2;go_loopw [22] (λkv Q=>∃(k n2:Nat) (D2:DataW Unit),k<=o.length/\kv=N k/\Q.heap[R]?=some (rR (.slice none 0 0) (.slice none 0 0))/\Q.ownsGroups Tryz.prog 9 (R+1+1) 3 .i64 (R+1) n2 D2/\Hid (DI D2 (λs=>cY (L.take i) s++if s∈o.take k then [i]else []))/\Hid (n2<=n+k)/\Ow Q (R+1+1) eS (.slice ta o.length tc) o/\Fr w Q) (λkv _=>o.length-(intOf kv).toNat);case atStart=>exact⟨0,n,D,ar _,rfl,fN,fP,by have:=d2.out;simpa using ad this,al _,fD,fQ⟩
   case round=>
    clear fN fP fD fQ;obtain⟨k,n2,D2,hk,rfl,M,O,cp,cq,bk,I⟩:=hrel;by_cases bb:k<o.length
    ·obtain⟨b2,ga,i6,d6,d0⟩:=uL bk.see k bb;cases d6;have i7:=(i4.out o[k] (bJ bb)).2;have gb:o[k] ∉ o.take k:=λh=>(by obtain⟨q,G,he⟩:=pC.1 h;rw[qz]at he;rw[aA]at G;have:=rt.1 i3.out q k ω bb ω;rw[he]at this;exact s8 _ this);have gc:Hid (∀s,s∈o.take (k+1)↔s∈o.take k\/s=o[k]):=λs=>(by rw[f8 bb,jD,ow]);have dT:=Gr o[k] (by unfold maxLen;omega);have i8:n2<maxLen:=(by have:=cq.out;have:=cm.out;unfold maxLen;omega);have ji:=ad gb;clear gb;generalize o[k]=x at *;have k1:(0:Int)<=k:=ω;have k2:(k:Int)<o.length:=ω;go_wp2_with (at_lookup;refine wpList_lookup_groups _ rfl _ _ 129 rfl 9 56 3 .i64 zW Tryz.underlying129 (C8 _) (R+1+1) (R+1) n2 D2 rfl O i8 _ _ rfl dT ?_);intro v zs b7 bn cs cu;have c4:=cp.out.look b7 bn;rw[ae ji.out,dg]at c4;have ge:Hid (∀q∈cY (L.take i) x,q<1000000000):=λq G=>(by have:=xY _ _ q G;rw[aA]at this;omega);have gg:Hid (∀s,s≠x->(λs=>cY (L.take i) s++if s∈o.take k then [i]else []) s=cY (L.take i) s++if s∈o.take (k+1)then [i]else []):=λs d=>by
      have z:=gc.out s;by_cases F:s∈o.take k;·simp only[af F,af (z.2 (.inl F))]
      ·simp only[ae F,ae (λh=>(z.1 h).elim F d)]
     generalize gi:cY (L.take i) x=ab at *;have c5:=ad gi;clear gi b7;subst c4;rw[cy]at cs;have ap:=Gy bn;obtain⟨pv,cv,rfl⟩:=ap.shape';have gs:R+1+1<=wr.heap.size:=(by have z:=O;obtain⟨es,ef,hb,_⟩:=z;exact(aR.1 hb).1);have HG:=ad O;clear O;go_wp2_with (at_builtin;refine cW eJ rfl (.tmp 30) (.tmp 32) 56 rfl Tryz.underlying56 (R+1+1) rfl ap [i] _ _ _ rfl rfl rfl ?c1 gs ?_);case c1=>have:=cq.out;have:=cm.out;first | omega | (simp;omega)
     intro v4 w4 aa;have c8:=aa.own;have gv := Pr c8 (fun q G => by
       rcases jD.1 G with h | h;·exact ge.out q h
       · simp at h; omega)
     have g1:v4.ownBlock=(Value.slice pv ab.length cv).ownBlock\/∃g,v4.ownBlock=some g/\wr.heap.size<=g:=by
      obtain⟨g,c,he,_⟩:=c8.atHead σ;rcases aa.fresh g (by rw[he];rfl)with h | h;·exact .inl (by rw[h,he];rfl)
      ·exact .inr ⟨g,by rw[he];rfl,h⟩
     have eq:=dx bk ap aa δ;have g2:w4.heap[R]?=some (rR (.slice none 0 0) (.slice none 0 0)):=aa.chg'.heap M (λe=>by have:=(ap.lt R e).1;omega);have b0:Fr w w4:=aa.below ap I (by have:=bd.out;omega) I.size;have g3:=aa.chg;have g4:((ab++[i]).map Int.ofNat).length<=n2+1:=(by simp;omega);obtain⟨U,V,rfl⟩:=c8.shape';have j3:=ad g1;have g5:=ad gv;have j4:=ad g4;have j5:=ad g3;clear g1 gv g4 g3;clear aa ap bn c8 bk M I d0;go_wp2_with (at_mapUpdate;refine wpList_mapUpdate_back _ rfl _ _ _ 129 rfl cu rfl rfl rfl j5.out g5.out j4.out j3.out ?_);intro w5 b9 cA;have g6:rowDatum (H:=Unit) .i64 (.slice U (ab.length+1) V) (ab.map Int.ofNat++[(i:Int)])=rG (ab++[i]):=(by have:=NE g5.out σ;simpa using this);rw[g6]at b9;clear g6;have g7:=cp.out.put x (ab++[i]) σ;have j6:Hid (DI (D2.put (.string x) (rG (ab++[i]))) (λs=>cY (L.take i) s++if s∈o.take (k+1)then [i]else [])):=by
      have e:(λs=>cY (L.take i) s++if s∈o.take (k+1)then [i]else [])=λs=>if s=x then ab++[i]else cY (L.take i) s++if s∈o.take k then [i]else []:=by
       funext s;by_cases er:s=x;·subst er;rw[af rfl,af ((gc.out s).2 (.inr rfl)),c5.out]
       ·rw[ae er];exact(gg.out s er).symm
      show DI _ _;rw[e];exact g7
     have j7:w5.heap[R]?=some (rR (.slice none 0 0) (.slice none 0 0)):=(nA cA).heap g2 (fun e=>by simp at e);have ka := eq.kept cA (by
       cases G : (Value.slice (some ⟨b2, ga, none⟩) o.length tc).ownBlock with
       | none => exact .inl rfl
       | some g => refine .inr (λe => ?_); have := (eq.lt g G).1; cases e; omega)
     have bA:Fr w w5:=b0.own cA (λq G=>by cases G;have:=bd.out;omega);clear g7 g2 eq b0 cA cu HG gs cp gg c5 ge cs;go_wp2;go_roundw;case rel=>exact⟨k+1,n2+1,_,ω,γ,j7,b9,j6,by have:=cq.out;show _<=_;omega,ka,bA⟩
     case measure=>exact μ
    ·obtain rfl:k=o.length:=ω;have kb:¬(o.length:Int)<o.length:=ω;have kc:Hid (DI D2 (λs=>cY (L.take (i+1)) s)):=(by have e:(λs=>cY (L.take (i+1)) s)=λs=>cY (L.take i) s++if s∈o.take o.length then [i]else []:=(by funext s;rw[f7.out s,dY]);show DI _ _;rw[e];exact cp.out);go_wp2;go_roundw;case rel=>exact⟨i+1,n2,D2,ω,γ,M,O,kc,by rw[i5.out];have:=cq.out;have:=cm.out;show _<=_;omega,I⟩
     case measure=>exact μ
  ·obtain rfl:i=l.length:=(by omega);have kb:¬(l.length:Int)<l.length:=(by omega);have g8:L.take l.length=L:=(by rw [<- fn.out,dY]);have ha:DI D (fun s=>cY L s):=(by have:=d2.out;rwa [g8]at this);have hc:=ad ha;have mm:=ad (fun s=>xY L s);have mn:n<=1048576:=(by have z:=HN.out;have F:=HW.out l.length;omega);clear g8 ha d2 HN HW fr fs fl HB fh;have d5:R+1+1<=wr.heap.size:=(by have z:=O;obtain⟨es,ef,hb,_⟩:=z;exact(aR.1 hb).1);have bB:Fr wr (wr.alloc (.cells #[.slice none 0 0,.slice none 0 0] 84)):=(Fr.refl wr).alloc _;have gO:=aB wr (.cells #[.slice none 0 0,.slice none 0 0] 84) wr.heap.size rfl;have hd:=bB.heap M;have hg:=Bi O bB;have hh:=I.trans bB;have hj:wr.heap.size<(wr.alloc (.cells #[.slice none 0 0,.slice none 0 0] 84)).heap.size:=(by simp);have hm:=fun W=>lg.1 (Tryz.maps_Keys_74 (some (R+1)) W);have hn:∀ W:World,W.ownsGroups Tryz.prog 9 (R+1+1) 3 .i64 (R+1) n D->W.ownsMap Tryz.prog 9 (rowElem (H:=Unit) W (R+1+1) 3 .i64) (R+1) n D:=fun W h=>(by obtain⟨es,ef,z,F,h3,h4,_⟩:=h;exact⟨es,ef,z,F,h3,h4⟩);have ho:=G5 L;have cB:=ad (hn _ hg);have ki:=cB.out.size_le;have hp:=ad (lg.1 (Tryz.slices_Sorted_keys_73_74 (R+1) n D _ _ cB.out (by unfold maxLen;omega) (by omega)));have kk:=ad (fun W (h:Fr wr W)=>Bi O h);clear hn ki O hg I M;obtain⟨m,cE⟩:∃ m,m=wr.heap.size:=⟨_,rfl⟩;rw [<- cE]at gO hj d5;have cF:=ad cE;have hu:=ad hm;clear hm;go_upto_region 12 with fail;rw [<- cE];clear cE;generalize wr.alloc (.cells #[.slice none 0 0,.slice none 0 0] 84)=W1 at *;have hx:Fr W1 (W1.alloc (.cells #[.map (some (R+1))] 129)):=(Fr.refl W1).alloc _;go_wp2_with fail;refine(hu.out _).mono ?_;rintro e w2 ⟨rfl,rfl⟩;go_wp2_with fail;refine hp.out.mono ?_;rintro e w3 ⟨hy,ss,rfl,hz,e3,_,h0⟩;have ak:Fr W1 w3:=hx.trans h0;have e5 := Rw hc.out cB.out ho (fun s => by
     rw[f0.out s];constructor;·rintro ⟨r, hr, d⟩ e;obtain ⟨q, G, rfl⟩ := pC.1 hr;have := (Bg L s q G).2 d;rw[e] at this; cases this
     · intro kn;obtain ⟨q, G⟩ := List.exists_mem_of_ne_nil _ kn;have h5 := xY L s q G
       exact ⟨L[q], bJ h5, (Bg L s q h5).1 G⟩) hz
   have a4:Ow w3 (m+1) eS hy (dy L):=(by have kq:ss.length=(dy L).length:=(by rw[<- e5,List.length_mergeSort]);rw[e5,kq,<- vL]at e3;have h4:Ow w3 (W1.alloc (.cells #[.map (some (R+1))] 129)).heap.size eS hy (dy L):=e3;exact h4.rebase (by rw[eW];omega));have h6:=ak.heap hd;have h7:=ak.heap gO;have h8:Fr w w3:=hh.trans ak;have h9:Fr wr w3:=bB.trans ak;have kr:Hid (fH L=(dy L).map (cY L)):=rfl;have mq:=fv.out;have ks:=ad (xX L);clear e3 hz e5 h0 hu hp cB ho gO hd hh bB hx ak f0 fv hj;generalize hA:dy L=T at *;have kx:=ad hA;clear hA;obtain⟨ta,tc,rfl⟩:=a4.shape';obtain⟨wo,rfl⟩:∃wo:World,wo=wr:=⟨_,rfl⟩;go_wp2;go_loopw [40] (λkv Q=>∃(k:Nat) (tv lv:Value) (d:List Hd),k<=T.length/\kv=N k/\Q.heap[m]?=some (rR tv lv)/\Q.heap[R]?=some (rR (.slice none 0 0) (.slice none 0 0))/\Ow Q (m+1) eS (.slice ta T.length tc) T/\Ow Q (m+1) eS tv (T.take k)/\(tv.ownBlock=none\/tv.ownBlock≠(Value.slice ta T.length tc).ownBlock)/\Ow Q (m+1) oV lv d/\cr Q (R+1+1) eJ d ((T.take k).map (cY L))/\Fr w Q/\Fr wo Q) (λkv _=>T.length-(intOf kv).toNat);case atStart=>exact⟨0,_,_,[],ar _,rfl,h7,h6,a4,by simpa using Ow.nil,.inl rfl,Ow.nil,⟨rfl,λt a=>by simp at a⟩,h8,h9⟩
   case round=>
    clear h7 h6 a4 h8 h9;obtain⟨k,tv,lv,d,hk,rfl,b3,M,a4,X,aa,b4,a5,I,e7⟩:=hrel;by_cases bb:k<T.length
    ·obtain⟨b2,ga,i6,d6,d0⟩:=uL a4.see k bb;cases d6;have i7:=(ks.out T[k] (bJ bb)).2;have bf:Hid (T.take (k+1)=T.take k++[T[k]]):=f8 bb;have e8:(T.take k).length=k:=(by rw[aA];omega);have dT:=Gr T[k] (by unfold maxLen;omega);have hB:d.length=k:=(by have:=a5.1;rw[cy,e8]at this;exact this);generalize T.take k=tk at *;generalize T[k]=x at *;have ky:=ad e8;have k0:=ad hB;clear e8 hB;obtain⟨Y,Z,rfl⟩:=X.shape';obtain⟨pl,J,rfl⟩:=b4.shape';have x0:=ag b3 0 rfl;have k5:m+1<=wr.heap.size:=(aR.1 b3).1;have k1:(0:Int)<=k:=ω;have k2:(k:Int)<T.length:=ω;go_wp2_with (at_builtin;refine cW eS rfl (.tmp 45) (.tmp 47) 81 rfl Tryz.underlying81 (m+1) rfl X [x] _ _ _ rfl rfl rfl ?c1 k5 ?_);case c1=>have:=ky.out;first | omega | (simp;omega)
     intro v4 w4 av;have bR:=av.chg'.heap b3 (X.ne_cells b3 δ);have hE:=av.chg'.heap M (λe=>by have:=(X.lt R e).1;omega);have hH:=av.other a4 (qR aa);have hI:=av.apart a4 (qR aa);have hJ:=dx b4 X av δ;have cG:cr w4 (R+1+1) eJ d (tk.map (cY L)):=⟨a5.1,λt z F=>dx (a5.2 t z F) X av δ⟩;have b0:Fr w w4:=av.below X I (by have:=bd.out;omega) I.size;have e9:Fr wo w4:=av.below X e7 (by have:=cF.out;omega) e7.size;have cL:=av.own;obtain⟨U,V,rfl⟩:=cL.shape';obtain⟨K,cN⟩:∃K,K=tk++[x]:=⟨_,rfl⟩;rw[<- cN]at cL bf hI;have k6:=ad cN;have e4:=ag bR 0 rfl;have f4:w4.frozen? ⟨m,0,none⟩=false:=a8 bR 0;rw[<- cN];clear X b3 M a4 aa b4 a5 I e7 av x0 cN;have ac:=a9 w4 ⟨m,0,none⟩ (.slice U K.length V);have bT:(w4.setCell ⟨m,0,none⟩ (.slice U K.length V)).heap[m]?=some (rR (.slice U K.length V) (.slice pl d.length J)):=(by have:=aJ bR 0 (.slice U K.length V);simpa using this);have hK:=ac.heap hE (by simp;omega);have hL:=eu (i:=0) (u:=.slice U K.length V) hH (show m<m+1 by omega);have hM:=eu (i:=0) (u:=.slice U K.length V) cL (show m<m+1 by omega);have a1:=eu (i:=0) (u:=.slice U K.length V) hJ (show m<m+1 by omega);have eL:cr (w4.setCell ⟨m,0,none⟩ (.slice U K.length V)) (R+1+1) eJ d (tk.map (cY L)):=⟨cG.1,λt z F=>(cG.2 t z F).chg ac (λq G e=>(cG.2 t z F).ne_cells bR δ (by rw[G,e]))⟩;have bA:Fr w (w4.setCell ⟨m,0,none⟩ (.slice U K.length V)):=ep b0 (by have:=bd.out;omega) b0.size;have cR:Fr wo (w4.setCell ⟨m,0,none⟩ (.slice U K.length V)):=ep e9 (by have:=cF.out;omega) e9.size;go_upto_region 16 with fail;generalize w4.setCell ⟨m,0,none⟩ (.slice U K.length V)=w5 at *;clear bR hE hH cL hJ cG b0 e9 e4 f4 ac d0;have x5:=ag bT 1 rfl;have b9:=kk.out w5 cR;have la:m+1<=w5.heap.size:=(aR.1 bT).1;go_wp2_with (at_lookup;refine wpList_lookup_groups _ rfl _ _ 129 rfl 9 56 3 .i64 zW Tryz.underlying129 (C8 _) (R+1+1) (R+1) n D rfl b9 (by unfold maxLen;omega) _ _ rfl dT ?_);intro v zs b7 bn cs cu;have c4:=hc.out.look b7 bn;have c5:Hid (((tk.map (cY L))++[cY L x])=(K.map (cY L))):=(by show _=_;rw[k6.out,eD];rfl);generalize cY L x=ab at *;subst c4;rw[cy]at cs;have ap:=Gy bn;obtain⟨pv,cv,rfl⟩:=ap.shape';clear b7 bn cu b9;go_wp2_with (at_builtin;refine cW oV rfl (.tmp 51) (.tmp 55) 82 rfl Tryz.underlying82 (m+1) rfl a1 [⟨pv,ab.length,cv⟩] _ _ _ rfl rfl rfl ?c1 la ?_);case c1=>have:=k0.out;first | omega | (simp;omega)
     intro v6 w6 a3;have cT:=ad (a3.chg'.heap bT (a1.ne_cells bT δ));have lc:=ad (a3.chg'.heap hK (λe=>by have:=(a1.lt R e).1;omega));have li:=dx hL a1 a3 δ;have ll:=dx hM a1 a3 δ;have ln:=dx ap a1 a3 δ;have hO:∀t (z:t<d.length) (F:t<(tk.map (cY L)).length),Ow w6 (R+1+1) eJ d[t].v (tk.map (cY L))[t]:=λt z F=>dx (eL.2 t z F) a1 a3 δ;have fa:=ad eL.1;have lo:=ad hO;have hS:Fr w w6:=a3.below a1 bA (by have:=bd.out;omega) bA.size;have hT:Fr wo w6:=a3.below a1 cR (by have:=cF.out;omega) cR.size;have fb:=a3.own;obtain⟨p6,z6,rfl⟩:=fb.shape';obtain⟨a6,da⟩:∃a6,a6=d++[(⟨pv,ab.length,cv⟩:Hd)]:=⟨_,rfl⟩;rw[<- da]at fb;have lr:=ad da;have e6:w6.cell? ⟨m,1,none⟩=some (.slice pl d.length J):=(by rw[aK cT.out];rfl);have f6:w6.frozen? ⟨m,1,none⟩=false:=a8 cT.out 1;rw[<- da];clear bT hK hL hM a1 eL hO bA cR x5 ap a3 da;go_wp2;go_roundw
     case rel=>
      have ac:=a9 w6 ⟨m,1,none⟩ (.slice p6 a6.length z6);have dc:∀ {v:Value} {q:List Nat},Ow w6 (R+1+1) eJ v q->Ow (w6.setCell ⟨m,1,none⟩ (.slice p6 a6.length z6)) (R+1+1) eJ v q:=λh=>h.chg ac (λq G e=>h.ne_cells cT.out δ (by rw[G,e]));have hrel:cr (w6.setCell ⟨m,1,none⟩ (.slice p6 a6.length z6)) (R+1+1) eJ a6 ((T.take (k+1)).map (cY L)):=by
       revert dc;generalize w6.setCell ⟨m,1,none⟩ (.slice p6 a6.length z6)=W6;intro dc;rw[bf.out,<- c5.out,lr.out];refine⟨by rw[am,am,fa.out];rfl,λt a b=>?_⟩;by_cases ht:t<d.length;·have hU:t<(tk.map (cY L)).length:=(by rw[<- fa.out];exact ht);rw[kI ht,kI hU];exact dc (lo.out t ht hU)
       ·have e1:t=d.length:=(by rw[am,kH]at a;omega);subst e1;rw[jZ (al _)];have e2:d.length=(tk.map (cY L)).length:=fa.out;rw[jZ (by rw[<- e2];exact al _)];simp only[fY,e2,sA];exact dc ln
      exact⟨k+1,_,_,a6,ω,γ,by have:=aJ cT.out 1 (.slice p6 a6.length z6);simpa using this,ac.heap lc.out (by simp;omega),eu li ω,by rw[bf.out];exact eu ll ω,qR hI,eu fb ω,hrel,ep hS (by have:=bd.out;omega) hS.size,ep hT (by have:=cF.out;omega) hT.size⟩
     case measure=>exact μ
    ·obtain rfl:k=T.length:=ω;have my:¬(T.length:Int)<T.length:=ω;rw[dY]at X a5;have hW:(T.map (cY L))=fH L:=kr.out.symm;rw[hW]at a5;clear hW aa a4;obtain⟨Y,Z,rfl⟩:=X.shape';obtain⟨pl,J,rfl⟩:=b4.shape';have fe:(Tryz.prog.info? 84).map (·.size)=some 2:=(by kernel_rfl);have ls:(#[Value.slice Y T.length Z,Value.slice pl d.length J]:Array Value).all (·.oneCell')=true:=(by simp[Value.oneCell']);go_wp2_with (first | (refine ml rfl 84 (.tmp 8) rfl m rfl 84 #[.slice Y T.length Z,.slice pl d.length J] (0,0) _ b3 Tryz.underlying84 rfl fe ?_) | (refine fz rfl 84 (.tmp 2) (.tmp 59) rfl R #[.slice Y T.length Z,.slice pl d.length J] rfl rfl 84 _ M fe rfl ls ?_));have ac:=dl wr R #[.slice Y T.length Z,.slice pl d.length J];have lt:Fr w (wr.setRow R #[.slice Y T.length Z,.slice pl d.length J]):=ai.below I ac I.size (λk hk=>by have:=bd.out;omega);have lu:=ad lt;have lz:Hid (Ow (wr.setRow R #[.slice Y T.length Z,.slice pl d.length J]) (m+1) eS (.slice Y T.length Z) T):=X.chg ac (λk hk e=>by have:=(X.lt k hk).1;omega);have l0:Hid (Ow (wr.setRow R #[.slice Y T.length Z,.slice pl d.length J]) (m+1) oV (.slice pl d.length J) d):=b4.chg ac (λk hk e=>by have:=(b4.lt k hk).1;omega);have l1:Hid (cr (wr.setRow R #[.slice Y T.length Z,.slice pl d.length J]) (R+1+1) eJ d (fH L)):=⟨a5.1,λt a b=>(a5.2 t a b).chg ac (λk hk e=>by have:=((a5.2 t a b).lt k hk).1;omega)⟩
     exact bF (v:=.agg #[.slice Y T.length Z,.slice pl d.length J]) (vZ Tryz.results39 _ _ R 84 #[.slice Y T.length Z,.slice pl d.length J] (0,0) _ rfl (iq _ R _ #[.slice Y T.length Z,.slice pl d.length J] _ _ M) Tryz.underlying84 rfl fe) rfl
      ⟨_,_,rfl,by rw[kx.out];exact lz.out.see,⟨d,l1.out.sees2 l0.out.see⟩,lu.out⟩
